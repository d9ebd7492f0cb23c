/- What operations that read or change memory do, at abstract values; regions in order and regions that draw their order. No condition. -/
import Derived.Test.YtncfbhnecmnfpaaGreatDoorBwPure
import Derived.Laws.MakeOwn
import Derived.Laws.CopyRow
import Derived.Laws.AppendOwn
import Derived.Laws.AppendOwnNone
namespace Go.Aw
set_option linter.unusedVariables false
set_option linter.unusedSimpArgs false

section
variable {E : Env} {n : Nat} {C : Ctx} {σ : St} {dst : Option Tmp} {ty : TypeId} {pos : String} {aft : Array Edge} {g : Option (Nat × Bool)}

theorem Gam.sr {H : GH} {a : Act} {w : World} (h : Gam n C σ H a w) : SR n σ.slots H a := ⟨h.size, h.slots⟩
theorem Gam.wr {H : GH} {a : Act} {w : World} (h : Gam n C σ H a w) : WR σ.objs H w := ⟨h.objs, h.held⟩

/-! ### Loads -/

theorem partT_cells {H : GH} {cs : Array Value} {base : Nat} {e : List T} {fi : TI} {j : Nat} {y : T} (hsz : base + e.length ≤ cs.size)
    (h1 : ∀ (j : Nat) (x : T), e[j]? = some x → (cs.getD (base + j) undef).oneCell' = true) (hv : ∀ (j : Nat) (x : T), e[j]? = some x → VR H (cs.getD (base + j) undef) x)
    (hp : partT fi e j = some y) :
    (fi.isAgg = true → j + fi.size ≤ e.length ∧ VR H (.agg ((List.range fi.size).map fun i => cs.getD (base + j + i) undef).toArray) y) ∧
    (fi.isAgg = false → j < e.length ∧ VR H (cs.getD (base + j) undef) y) := by
  unfold partT at hp
  refine ⟨fun ha => ?_, fun ha => ?_⟩
  · simp only [ha, cond_true] at hp
    have key : j + fi.size ≤ e.length ∧ y = .agg ((e.drop j).take fi.size) := by
      cases hb : (Nat.beq j 0 && Nat.beq fi.size e.length) with
      | true =>
        simp only [hb, cond_true, Option.some.injEq] at hp
        simp only [Bool.and_eq_true] at hb
        have h0 := Nat.eq_of_beq_eq_true hb.1
        have h2 := Nat.eq_of_beq_eq_true hb.2
        subst h0
        exact ⟨by omega, by rw [← hp, h2]; simp⟩
      | false =>
        simp only [hb, cond_false] at hp
        cases hc : Nat.ble (j + fi.size) e.length with
        | false => simp [hc] at hp
        | true =>
          simp only [hc, cond_true, Option.some.injEq] at hp
          exact ⟨Nat.le_of_ble_eq_true hc, hp.symm⟩
    obtain ⟨k1, rfl⟩ := key
    refine ⟨k1, .agg _ _ (by simp; omega) ?_ ?_⟩
    all_goals
      intro i x hx
      have hi : i < fi.size := by
        have := (List.getElem?_eq_some_iff.1 hx).1
        simp at this; omega
      rw [List.getElem?_take_of_lt hi, List.getElem?_drop] at hx
      have he : (((List.range fi.size).map fun i => cs.getD (base + j + i) undef).toArray).getD i undef = cs.getD (base + (j + i)) undef := by
        simp [Array.getD_eq_getD_getElem?, hi, Nat.add_assoc]
      rw [he]
      first | exact h1 _ _ hx | exact hv _ _ hx
  · simp only [ha, cond_false] at hp
    exact ⟨(List.getElem?_eq_some_iff.1 hp).1, hv _ _ hp⟩

def loadVal (fi : TI) (cs : Array Value) (o : Nat) : Value :=
  if fi.isAgg then .agg ((List.range fi.size).map fun i => cs.getD (o + i) undef).toArray else cs.getD o undef

theorem cell?_of {w : World} {b o : Nat} {cs : Array Value} {ty : TypeId} {fr : Nat × Nat} (h : w.heap[b]? = some (.cells cs ty fr)) (ho : o < cs.size) :
    w.cell? ⟨b, o, none⟩ = some (cs.getD o undef) := by
  simp [World.cell?, h, Array.getD, ho]

theorem run_loadVar_part {P : Program} {H : GH} {w : World} {t : TypeId} {fi : TI} (ht : tiOf P t = some fi) {b base j : Nat} {cs : Array Value} {ty : TypeId} {fr : Nat × Nat} {e : List T} {y : T}
    (hb : w.heap[b]? = some (.cells cs ty fr)) (hsz : base + e.length ≤ cs.size)
    (h1 : ∀ (j : Nat) (x : T), e[j]? = some x → (cs.getD (base + j) undef).oneCell' = true) (hv : ∀ (j : Nat) (x : T), e[j]? = some x → VR H (cs.getD (base + j) undef) x)
    (hp : partT fi e j = some y) : (loadVar t ⟨b, base + j, none⟩).run P w = .ok (loadVal fi cs (base + j)) w := by
  unfold loadVal
  obtain ⟨p1, p2⟩ := partT_cells hsz h1 hv hp
  cases ha : fi.isAgg with
  | true =>
    obtain ⟨k1, _⟩ := p1 ha
    have hl := run_loadCells (P := P) w ⟨b, base + j, none⟩ fi.size (fun i => cs.getD (base + j + i) undef) (fun i hi => by
      rw [Addr.add_mk]; exact cell?_of hb (by omega))
    simp [loadVar, run_isAgg_ti ht, ha, run_sizeOf_ti ht, hl]
  | false =>
    obtain ⟨k1, _⟩ := p2 ha
    simp [loadVar, run_isAgg_ti ht, ha, cell?_of hb (show base + j < cs.size by omega)]

theorem Yd.loadE {t : TypeId} {x : Operand} {cs : List T} {fi : TI} {y : T} {objs : List Ob} {s : Slots} (ht : E.tab t = some fi) (hx : evalT s x = some (.eptr cs)) (hp : partT fi cs 0 = some y) :
    Yd E.P n s objs ⟨dst, .load t x, ty, pos, aft, g⟩ y := by
  intro H a w r wr
  have h := r.eval hx
  generalize hv : a.eval x = v at h
  cases h with
  | eptr b off l cs' ty' fr hb hsz h1 hvs =>
    obtain ⟨p1, p2⟩ := partT_cells hsz h1 hvs hp
    refine ⟨loadVal fi cs' off, ?_, fun w' ag => ?_⟩
    rotate_left
    · have := run_loadVar_part (j := 0) (E.ok _ _ ht) (ag.1 _ _ hb) hsz h1 hvs hp
      simp only [execOp, hv, Instr.loadAt, Instr.sureAddr, Sem.run_bind, Sem.run_pure, Result.andThen_ok]
      simp only [Nat.add_zero] at this
      rw [this]
      first | done | rfl
    · cases ha : fi.isAgg with
      | true => simpa [loadVal, ha] using (p1 ha).2
      | false => simpa [loadVal, ha] using (p2 ha).2

theorem OR.cells {H : GH} {w : World} {b tt sz cap : Nat} {es : List (List T)} (h : OR H w (.arr b tt sz cap es)) {i : Nat} {e : List T} (he : es[i]? = some e) :
    ∃ cs, w.heap[b]? = some (.cells cs tt (0, 0)) ∧ i * sz + e.length ≤ cs.size ∧ e.length = sz ∧
      (∀ (j : Nat) (x : T), e[j]? = some x → (cs.getD (i * sz + j) undef).oneCell' = true) ∧ (∀ (j : Nat) (x : T), e[j]? = some x → VR H (cs.getD (i * sz + j) undef) x) := by
  obtain ⟨cs, a1, a2, a3, a4, a5, a6⟩ := h
  refine ⟨cs, a1, ?_, a5 i e he, fun j x hx => (a6 i e he j x hx).1, fun j x hx => (a6 i e he j x hx).2⟩
  have hi : i < es.length := (List.getElem?_eq_some_iff.1 he).1
  have : (i + 1) * sz ≤ cap * sz := Nat.mul_le_mul_right _ (by omega)
  rw [Nat.succ_mul] at this
  rw [a5 i e he, a2]; exact this

theorem Yd.loadO (k : Nat) {t : TypeId} {x : Operand} {fi : TI} {y : T} {objs : List Ob} {s : Slots} {b off tt sz cap : Nat} {es : List (List T)} (i j : Nat) {e : List T}
    (ht : E.tab t = some fi) (hx : evalT s x = some (.v (.pointer (some ⟨b, off, none⟩))))
    (hk : objs[k]? = some (.arr b tt sz cap es)) (he : es[i]? = some e) (ho : off = i * sz + j) (hp : partT fi e j = some y) :
    Yd E.P n s objs ⟨dst, .load t x, ty, pos, aft, g⟩ y := by
  intro H a w r wr
  have hv := r.evalv hx
  have hor := wr.objs _ (List.mem_of_getElem? hk)
  obtain ⟨cs, a1, a2, a3, h1, hvs⟩ := OR.cells hor he
  obtain ⟨p1, p2⟩ := partT_cells a2 h1 hvs hp
  subst ho
  refine ⟨loadVal fi cs (i * sz + j), ?_, fun w' ag => ?_⟩
  rotate_left
  · have hb := ag.2 _ (List.mem_of_getElem? hk)
    have := run_loadVar_part (j := j) (E.ok _ _ ht) ((hb b (by simp [Ob.fp])).trans a1) a2 h1 hvs hp
    simp only [execOp, hv, Instr.loadAt, Instr.sureAddr, Sem.run_bind, Sem.run_pure, Result.andThen_ok, this]
    first | done | rfl
  · cases ha : fi.isAgg with
    | true => simpa [loadVal, ha] using (p1 ha).2
    | false => simpa [loadVal, ha] using (p2 ha).2

theorem UsR.arr {H : GH} {w : World} {v : Value} {tt sz : Nat} {es : List (List T)} (h : UsR H w v tt sz es) {i : Nat} {e : List T} (he : es[i]? = some e) :
    ∃ c cap, v = .slice (some ⟨blk v, 0, none⟩) es.length c ∧ es.length ≤ c ∧ c ≤ cap ∧ ArrR H w (blk v) tt sz cap es ∧ bls v = [blk v] := by
  rcases h with ⟨_, h⟩ | ⟨b, c, cap, rfl, h1, h2, h3⟩
  · subst h; simp at he
  · exact ⟨c, cap, rfl, h1, h2, h3, rfl⟩

theorem Yd.loadU (k : Nat) {t : TypeId} {x : Operand} {fi : TI} {y : T} {objs : List Ob} {s : Slots} {v : Value} {off tt sz : Nat} {es : List (List T)} (i j : Nat) {e : List T}
    (ht : E.tab t = some fi) (hx : evalT s x = some (.v (.pointer (some ⟨blk v, off, none⟩))))
    (hk : objs[k]? = some (.us v tt sz es)) (he : es[i]? = some e) (ho : off = i * sz + j) (hp : partT fi e j = some y) :
    Yd E.P n s objs ⟨dst, .load t x, ty, pos, aft, g⟩ y := by
  intro H a w r wr
  have hor : UsR H w v tt sz es := wr.objs _ (List.mem_of_getElem? hk)
  obtain ⟨c, cap, hv, h1, h2, h3, h4⟩ := hor.arr he
  obtain ⟨z, hz, hr⟩ := Yd.loadO (E := E) (n := n) (dst := dst) (ty := ty) (pos := pos) (aft := aft) (g := g) (objs := [.arr (blk v) tt sz cap es]) 0 i j ht hx rfl he ho hp H a w r ⟨fun p hp => by simp at hp; subst hp; exact h3, wr.held⟩
  refine ⟨z, hz, fun w' ag => hr w' ⟨ag.1, fun p hp b hb => ?_⟩⟩
  simp only [List.mem_singleton] at hp
  subst hp
  exact ag.2 _ (List.mem_of_getElem? hk) b (by simp only [Ob.fp, h4] at *; exact hb)

theorem Yd.lenU (k : Nat) {x : Operand} {t : TypeId} {objs : List Ob} {s : Slots} {v : Value} {tt sz : Nat} {es : List (List T)} {ti : TI} {e : Nat} (ht : E.tab t = some ti) (hk : ti.kind = .slice e) (hx : evalT s x = some (.v v))
    (ho : objs[k]? = some (.us v tt sz es)) : Yd E.P n s objs ⟨dst, .call { callee := .builtin .len, args := #[x], argTypes := #[t] }, ty, pos, aft, g⟩ (.v (.int .i64 es.length)) := by
  intro H a w r wr
  have hor : UsR H w v tt sz es := wr.objs _ (List.mem_of_getElem? ho)
  rcases hor with ⟨rfl, rfl⟩ | ⟨b, c, cap, rfl, h1, h2, h3⟩
  · exact ⟨_, .v _, fun w' _ => (Yp.lenSlice (E := E) (n := n) ht hk hx H a r).choose_spec.2 w' |> fun h => by rw [h]; have := (Yp.lenSlice (E := E) (n := n) (dst := dst) (ty := ty) (pos := pos) (aft := aft) (g := g) ht hk hx H a r).choose_spec.1.v_eq; rw [this]; rfl⟩
  · exact ⟨_, .v _, fun w' _ => (Yp.lenSlice (E := E) (n := n) ht hk hx H a r).choose_spec.2 w' |> fun h => by rw [h]; have := (Yp.lenSlice (E := E) (n := n) (dst := dst) (ty := ty) (pos := pos) (aft := aft) (g := g) ht hk hx H a r).choose_spec.1.v_eq; rw [this]⟩

theorem Yd.indexU (k : Nat) {t : TypeId} {x y : Operand} {kk : IntKind} {i : Int} {m : Nat} {objs : List Ob} {s : Slots} {v : Value} {tt sz : Nat} {es : List (List T)} {e : List T} {ti fi : TI} {el : Nat}
    (ht : E.tab t = some ti) (hk : ti.kind = .slice el) (hel : E.tab el = some fi) (hsz : fi.size = sz)
    (hx : evalT s x = some (.v v)) (ho : objs[k]? = some (.us v tt sz es)) (hy : evalT s y = some (.v (.int kk i))) (hi : i = (m : Int)) (hm : es[m]? = some e) :
    Yd E.P n s objs ⟨dst, .indexAddr t x y, ty, pos, aft, g⟩ (.v (.pointer (some ⟨blk v, m * sz, none⟩))) := by
  intro H a w r wr
  have hor : UsR H w v tt sz es := wr.objs _ (List.mem_of_getElem? ho)
  obtain ⟨c, cap, hv, h1, h2, h3, h4⟩ := hor.arr hm
  have hx' : evalT s x = some (.v (.slice (some ⟨blk v, 0, none⟩) es.length c)) := by rw [← hv]; exact hx
  have := Yp.indexS (E := E) (n := n) (dst := dst) (ty := ty) (pos := pos) (aft := aft) (g := g) ht hk hel hx' hy hi (List.getElem?_eq_some_iff.1 hm).1 H a r
  rw [hsz, Nat.zero_add] at this
  exact (Yp.yd (fun H A r => Yp.indexS (E := E) (n := n) (dst := dst) (ty := ty) (pos := pos) (aft := aft) (g := g) ht hk hel hx' hy hi (List.getElem?_eq_some_iff.1 hm).1 H A r) (objs := objs) H a w r wr) |> fun h => by rw [hsz, Nat.zero_add] at h; exact h

/-! ### Regions in the order of the text -/

theorem AO.still {ops : Array Oper} {o : Oper} {l : List Oper} {R : St → Prop} {x : T} (hy : Yd E.P n σ.slots σ.objs o x) (hg : o.guard = none) (hd : ∀ d, o.dst = some d → d < n)
    (k : AO E n C ops l (σ.put o.dst x) R) : AO E n C ops (o :: l) σ R := by
  intro H a w gm
  obtain ⟨v, hv, hr⟩ := hy H a w gm.sr gm.wr
  simp only [wpL]
  rw [if_pos (by simp [Region.wanted, hg])]
  simp only [Oper.wp, hr w ⟨gm.held, fun _ _ _ _ => rfl⟩, Oper.upon]
  exact k H _ w (gm.put hv hd)

theorem dst_none {n : Nat} : ∀ d, (none : Option Tmp) = some d → d < n := fun _ h => by cases h
theorem dst_some {n d : Nat} (h : Nat.blt d n = true) : ∀ d', some d = some d' → d' < n := fun d' he => by
  cases he; exact Nat.le_of_ble_eq_true h

theorem yielded_of {H : GH} {a : Act} {s : Slots} (r : SR n s H a) {ops : Array Oper} {j : Nat} {t : Tmp} {b : Bool} (hj : (ops[j]?).bind (·.dst) = some t) (hs : get s t = some (.v (.bool b))) :
    yielded ops a.tmps j = some b := by
  have hv := (r.slots t _ hs).v_eq
  have ht : t < a.tmps.size := by
    apply Classical.byContradiction
    intro hc
    rw [Array.getD_eq_getD_getElem?, Array.getElem?_eq_none (Nat.le_of_not_lt hc)] at hv
    simp [undef] at hv
  have : a.tmps[t]? = some (.bool b) := by
    rw [Array.getD_eq_getD_getElem?, Array.getElem?_eq_getElem ht] at hv
    rw [Array.getElem?_eq_getElem ht]; simpa using hv
  simp [yielded, hj, this]

/-- A guarded operation in the order of the text: the case in which it is carried out (stated for the operation without its guard), and the other. -/
theorem AO.guard {ops : Array Oper} {op : Op} {l : List Oper} {R : St → Prop} {j : Nat} {want b : Bool} {t : Tmp}
    (hj : (ops[j]?).bind (·.dst) = some t) (hs : get σ.slots t = some (.v (.bool b))) (hd : ∀ d, dst = some d → d < n)
    (h1 : b = want → AO E n C ops (⟨dst, op, ty, pos, aft, none⟩ :: l) σ R)
    (h2 : b = !want → AO E n C ops l (σ.put dst (.v undef)) R) : AO E n C ops (⟨dst, op, ty, pos, aft, some (j, want)⟩ :: l) σ R := by
  intro H a w gm
  have hy := yielded_of gm.sr hj hs
  simp only [wpL]
  by_cases hb : b = want
  · rw [if_pos (by simp [Region.wanted, hy, hb])]
    have := h1 hb H a w gm
    simp only [wpL] at this
    rw [if_pos (by simp [Region.wanted])] at this
    exact this
  · rw [if_neg (by simp [Region.wanted, hy, hb])]
    have hb' : b = !want := by cases b <;> cases want <;> simp_all
    exact h2 hb' H _ w (gm.put (.v _) hd)

/-! ### Regions that draw their order: a plan -/

/-- None of X has come up. -/
def noX (X : List Nat) (listed : Array Bool) : Bool := X.all fun x => !(listed.getD x true)

/-- Whatever order is picked: S holds behind every operation, as long as none of X has come up. -/
def wpAnyX (P : Program) (ops : Array Oper) (Q : Exit → Act → World → Prop) (S : World → Prop) (X : List Nat) : Nat → Array Bool → Act → World → Prop
  | 0, listed, a, w => Region.ready .any ops listed = [] ∧ Q .normal a w
  | fuel + 1, listed, a, w =>
    (Region.ready .any ops listed = [] → Q .normal a w) ∧
    ∀ i ∈ Region.ready .any ops listed, wpOp P ops Q i (fun a' w' => (noX X (listed.setIfInBounds i true) = true → S w') ∧ wpAnyX P ops Q S X fuel (listed.setIfInBounds i true) a' w') a w

theorem wpAny_of_X {P : Program} {ops : Array Oper} {Q : Exit → Act → World → Prop} {S : World → Prop} {X : List Nat} : ∀ (fuel : Nat) (listed : Array Bool) (a : Act) (w : World), wpAnyX P ops Q S X fuel listed a w → wpAny P .any ops Q fuel listed a w
  | 0, _, _, _, h => h
  | fuel + 1, _, _, _, h => ⟨h.1, fun i hi => wpOp_mono (fun a' w' h' => wpAny_of_X fuel _ a' w' h'.2) (h.2 i hi)⟩

theorem wpAnyX_done {P : Program} {ops : Array Oper} {Q : Exit → Act → World → Prop} {S : World → Prop} {X : List Nat} {listed : Array Bool} {a : Act} {w : World} (hr : Region.ready .any ops listed = []) (h : Q .normal a w) :
    ∀ fuel, wpAnyX P ops Q S X fuel listed a w
  | 0 => ⟨hr, h⟩
  | _ + 1 => ⟨fun _ => h, by rw [hr]; simp⟩

theorem wpAnyX_all {P : Program} {ops : Array Oper} {Q : Exit → Act → World → Prop} {S : World → Prop} {X rs : List Nat} {fuel : Nat} {listed : Array Bool} {a : Act} {w : World} (hr : Region.ready .any ops listed = rs) (hne : rs ≠ [])
    (h : ∀ i ∈ rs, wpOp P ops Q i (fun a' w' => (noX X (listed.setIfInBounds i true) = true → S w') ∧ wpAnyX P ops Q S X fuel (listed.setIfInBounds i true) a' w') a w) : wpAnyX P ops Q S X (fuel + 1) listed a w :=
  ⟨fun h0 => absurd (hr ▸ h0) hne, hr ▸ h⟩

/-- Nothing of U comes up ahead of i. -/
def Blk (ops : Array Oper) (listed : Array Bool) (U : List Nat) (i : Nat) : Prop :=
  ∀ u, u ∈ U → listed.getD u true = false ∧ (u = i ∨ ∃ o e, ops[u]? = some o ∧ e ∈ o.after ∧ Region.binds .any e = true ∧ e.on ∈ U)

theorem Blk.not_ready {ops : Array Oper} {listed : Array Bool} {U : List Nat} {i j : Nat} (hb : Blk ops listed U i) (hj : j ∈ Region.ready .any ops listed) (hji : j ≠ i) : j ∉ U := by
  intro hU
  obtain ⟨_, h⟩ := hb j hU
  rcases h with h | ⟨o, e, ho, he, hbi, hon⟩
  · exact hji h
  · obtain ⟨_, o', ho', hall⟩ := mem_ready.1 hj
    rw [ho] at ho'
    cases ho'
    have h1 := hall e he hbi
    have h0 := (hb e.on hon).1
    rcases Nat.lt_or_ge e.on listed.size with h' | h'
    · simp [h'] at h0 h1; rw [h0] at h1; cases h1
    · simp [Array.getElem?_eq_none h'] at h1

theorem wpAnyX_first {P : Program} {ops : Array Oper} {Q : Exit → Act → World → Prop} {S : World → Prop} {X U : List Nat} {i : Nat} {oi : Oper} {v : Value} (hi : ops[i]? = some oi) (hsel : ∀ (j : Nat) (o : Oper) cs b, ops[j]? = some o → o.op ≠ .select cs b)
    (hQ : ∀ c a w, Q (.panic c) (a.put oi.dst v) w → Q (.panic c) a w) (hX : ∀ x, x ∈ X → x ∈ U ∧ x ≠ i) :
    ∀ (fuel : Nat) (listed : Array Bool) (a : Act) (w : World),
      (∀ j oj, ops[j]? = some oj → j ≠ i → listed.getD j true = false → (∀ e ∈ oj.after, Region.binds .any e = true → e.on ≠ i) → oi.apart ops oj = true) → Blk ops listed U i →
      i ∈ Region.ready .any ops listed → YieldsIf P ops S oi v a → S w →
      wpAnyX P ops Q S X fuel (listed.setIfInBounds i true) (a.put oi.dst v) w → wpAnyX P ops Q S X (fuel + 1) listed a w := by
  intro fuel
  induction fuel with
  | zero =>
    intro listed a w _ _ hr hy hS H
    refine ⟨fun h => (by rw [h] at hr; cases hr), fun j hj => ?_⟩
    by_cases hji : j = i
    · subst hji; exact hy.wpOp hi hS ⟨fun _ => hS, H⟩
    · have := ready_mono hj hji
      rw [H.1] at this
      cases this
  | succ fuel ih =>
    intro listed a w hfree hblk hr hy hS H
    refine ⟨fun h => (by rw [h] at hr; cases hr), fun j hj => ?_⟩
    by_cases hji : j = i
    · subst hji; exact hy.wpOp hi hS ⟨fun _ => hS, H⟩
    · have h1 := H.2 j (ready_mono hj hji)
      have hjU := hblk.not_ready hj hji
      obtain ⟨hjun, oj, hoj, hall⟩ := mem_ready.1 hj
      have hnot : ∀ e ∈ oj.after, Region.binds .any e = true → e.on ≠ i := fun e he hb heq => by
        have h1 := hall e he hb
        have h0 := (mem_ready.1 hr).1
        rw [heq] at h1
        rcases Nat.lt_or_ge i listed.size with h' | h'
        · simp [h'] at h0 h1; rw [h0] at h1; cases h1
        · simp [Array.getElem?_eq_none h'] at h1
      have hno : noX X ((listed.setIfInBounds i true).setIfInBounds j true) = true := by
        refine List.all_eq_true.2 fun x hx => ?_
        obtain ⟨hxU, hxi⟩ := hX x hx
        rw [getD_set_ne true (show j ≠ x from fun h => hjU (h ▸ hxU)), getD_set_ne true (Ne.symm hxi), (hblk x hxU).1]; rfl
      have h2 := wpOp_putIf hoj (hfree j oj hoj hji hjun hnot) (fun cs b => hsel i oi cs b hi) (fun cs b => hsel j oj cs b hoj) hQ hy h1
      have hfree' : ∀ k ok, ops[k]? = some ok → k ≠ i → (listed.setIfInBounds j true).getD k true = false →
          (∀ e ∈ ok.after, Region.binds .any e = true → e.on ≠ i) → oi.apart ops ok = true := fun k ok hk hki hun hno => by
        refine hfree k ok hk hki ?_ hno
        by_cases hjk : j = k
        · subst hjk; exact hjun
        · rw [getD_set_ne true hjk] at hun; exact hun
      have hblk' : Blk ops (listed.setIfInBounds j true) U i := fun u hu => ⟨by rw [getD_set_ne true (show j ≠ u from fun h => hjU (h ▸ hu))]; exact (hblk u hu).1, (hblk u hu).2⟩
      refine wpOp_mono (fun a' w' h3 => ⟨fun _ => h3.2.1 hno, ih (listed.setIfInBounds j true) a' w' hfree' hblk' (ready_mono hr (Ne.symm hji)) h3.1 (h3.2.1 hno) ?_⟩) h2
      rw [Array.setIfInBounds_comm _ _ hji]
      exact h3.2.2

/-- What hangs on operation i and has not come up. -/
def reachU (ops : Array Oper) (listed : Array Bool) (i : Nat) : List Nat :=
  (List.range ops.size).foldl (fun U u => bif !(listed.getD u true) && !(Nat.beq u i) && (match ops[u]? with | some o => o.after.any (fun e => Region.binds .any e && U.contains e.on) | none => false) then u :: U else U) [i]

def blkB (ops : Array Oper) (listed : Array Bool) (X U : List Nat) (i : Nat) : Bool :=
  X.isEmpty || (U.all (fun u => !(listed.getD u true) && (Nat.beq u i || (match ops[u]? with | some o => o.after.any (fun e => Region.binds .any e && U.contains e.on) | none => false))) && X.all (fun x => U.contains x && !(Nat.beq x i)))

theorem wpAnyX_take {P : Program} {ops : Array Oper} {Q : Exit → Act → World → Prop} {S : World → Prop} {X U : List Nat} {i : Nat} {oi : Oper} {v : Value} {fuel : Nat} {listed : Array Bool} {a : Act} {w : World} (hi : ops[i]? = some oi)
    (hs : Region.noSelect ops = true) (hf : Region.free .any ops listed i = true) (hr : (Region.ready .any ops listed).contains i = true) (hb : blkB ops listed X U i = true)
    (hQ : ∀ c a w, Q (.panic c) (a.put oi.dst v) w → Q (.panic c) a w) (hy : YieldsIf P ops S oi v a) (hS : S w)
    (h : wpAnyX P ops Q S X fuel (listed.setIfInBounds i true) (a.put oi.dst v) w) : wpAnyX P ops Q S X (fuel + 1) listed a w := by
  have hri : i ∈ Region.ready .any ops listed := by simpa using hr
  rcases Bool.or_eq_true _ _ |>.mp hb with hb | hb
  · have : X = [] := by simpa using hb
    subst this
    exact wpAnyX_first (U := [i]) hi (Region.noSelect_spec hs) hQ (by simp) fuel listed a w (Region.free_spec hi hf) (fun u hu => by simp at hu; subst hu; exact ⟨(mem_ready.1 hri).1, .inl rfl⟩) hri hy hS h
  · simp only [Bool.and_eq_true] at hb
    obtain ⟨h1, h2⟩ := hb
    refine wpAnyX_first (U := U) hi (Region.noSelect_spec hs) hQ (fun x hx => ?_) fuel listed a w (Region.free_spec hi hf) (fun u hu => ?_) hri hy hS h
    · have := List.all_eq_true.1 h2 x hx
      simp only [Bool.and_eq_true, Bool.not_eq_true'] at this
      refine ⟨by simpa using this.1, fun he => ?_⟩
      rw [he] at this
      simp at this
    · have := List.all_eq_true.1 h1 u hu
      simp only [Bool.and_eq_true, Bool.not_eq_true', Bool.or_eq_true] at this
      refine ⟨this.1, ?_⟩
      rcases this.2 with h | h
      · exact .inl (Nat.eq_of_beq_eq_true h)
      · split at h
        · rename_i o ho
          rw [Array.any_eq_true'] at h
          obtain ⟨e, he, hbe⟩ := h
          simp only [Bool.and_eq_true] at hbe
          exact .inr ⟨o, e, ho, he, hbe.1, by simpa using hbe.2⟩
        · cases h

/-- The order in which the operations are gone through: one that only computes or reads may be taken first; one that acts is taken where no other is ready, or both orders are gone through; several that may come up in any order; one that writes what was read ahead of it. -/
inductive PL where
  | nil
  | still (i : Nat) (r : PL)
  | act (i : Nat) (r : PL)
  | two (i j : Nat) (r1 r2 : PL)
  | three (i j k : Nat) (r1 r2 r3 : PL)
  | four (i j k l : Nat) (r1 r2 r3 r4 : PL)
  | five (i j k l m : Nat) (r1 r2 r3 r4 r5 : PL)
  | par (A : List (Nat × List Nat)) (r : PL)
  | drop (i : Nat) (r : PL)

/-- In whatever order the operations A (each with those that it hangs on) come up, k holds behind them. -/
def parOk (ops : Array Oper) (A : List (Nat × List Nat)) (k : Array Bool → Bool) : Nat → List Nat → Array Bool → Bool
  | 0, _, _ => false
  | f + 1, D, listed => bif A.all (fun p => D.contains p.1) then k listed else
    match Region.ready .any ops listed with
    | [] => false
    | i :: l => (i :: l).all fun j => !D.contains j && A.any (fun p => Nat.beq p.1 j && p.2.all D.contains) && parOk ops A k f (j :: D) (listed.setIfInBounds j true)

def PL.actsOnly : PL → Bool
  | .nil => true
  | .act _ r => r.actsOnly
  | .drop _ r => r.actsOnly
  | _ => false

def PL.drops : PL → List Nat
  | .nil => []
  | .still _ r => r.drops
  | .act _ r => r.drops
  | .two _ _ r1 r2 => r1.drops ++ r2.drops
  | .three _ _ _ r1 r2 r3 => r1.drops ++ (r2.drops ++ r3.drops)
  | .four _ _ _ _ r1 r2 r3 r4 => r1.drops ++ (r2.drops ++ (r3.drops ++ r4.drops))
  | .five _ _ _ _ _ r1 r2 r3 r4 r5 => r1.drops ++ (r2.drops ++ (r3.drops ++ (r4.drops ++ r5.drops)))
  | .par _ r => r.drops
  | .drop i r => i :: r.drops

def planOk (ops : Array Oper) (X : List Nat) : PL → Array Bool → Bool
  | .nil, listed => (Region.ready .any ops listed).isEmpty
  | .still i r, listed => Region.free .any ops listed i && (Region.ready .any ops listed).contains i && blkB ops listed X (bif X.isEmpty then [] else reachU ops listed i) i && planOk ops X r (listed.setIfInBounds i true)
  | .act i r, listed => Region.ready .any ops listed == [i] && planOk ops X r (listed.setIfInBounds i true)
  | .two i j r1 r2, listed => Region.ready .any ops listed == [i, j] && planOk ops X r1 (listed.setIfInBounds i true) && planOk ops X r2 (listed.setIfInBounds j true)
  | .three i j k r1 r2 r3, listed => Region.ready .any ops listed == [i, j, k] && planOk ops X r1 (listed.setIfInBounds i true) && planOk ops X r2 (listed.setIfInBounds j true) && planOk ops X r3 (listed.setIfInBounds k true)
  | .four i j k l r1 r2 r3 r4, listed => Region.ready .any ops listed == [i, j, k, l] && planOk ops X r1 (listed.setIfInBounds i true) && planOk ops X r2 (listed.setIfInBounds j true) && planOk ops X r3 (listed.setIfInBounds k true) && planOk ops X r4 (listed.setIfInBounds l true)
  | .five i j k l m r1 r2 r3 r4 r5, listed => Region.ready .any ops listed == [i, j, k, l, m] && planOk ops X r1 (listed.setIfInBounds i true) && planOk ops X r2 (listed.setIfInBounds j true) && planOk ops X r3 (listed.setIfInBounds k true) && planOk ops X r4 (listed.setIfInBounds l true) && planOk ops X r5 (listed.setIfInBounds m true)
  | .par A r, listed => parOk ops A (planOk ops X r) (A.length + 1) [] listed
  | .drop i r, listed => Region.ready .any ops listed == [i] && X.contains i && r.actsOnly && planOk ops X r (listed.setIfInBounds i true)

def PL.depth : PL → Nat
  | .nil => 0
  | .still _ r => r.depth + 1
  | .act _ r => r.depth + 1
  | .two _ _ r1 r2 => max r1.depth r2.depth + 1
  | .three _ _ _ r1 r2 r3 => max r1.depth (max r2.depth r3.depth) + 1
  | .four _ _ _ _ r1 r2 r3 r4 => max r1.depth (max r2.depth (max r3.depth r4.depth)) + 1
  | .five _ _ _ _ _ r1 r2 r3 r4 r5 => max r1.depth (max r2.depth (max r3.depth (max r4.depth r5.depth))) + 1
  | .par A r => r.depth + A.length
  | .drop _ r => r.depth + 1

def planB (ops : Array Oper) (pl : PL) : Bool :=
  Region.noSelect ops && Nat.ble pl.depth ops.size && planOk ops pl.drops pl (Array.replicate ops.size false)

def wpPlan (P : Program) (ops : Array Oper) (Q : Exit → Act → World → Prop) : (World → Prop) → PL → Act → World → Prop
  | _, .nil, a, w => Q .normal a w
  | S, .still i r, a, w => ∃ o v, ops[i]? = some o ∧ YieldsIf P ops S o v a ∧ S w ∧ wpPlan P ops Q S r (a.put o.dst v) w
  | S, .act i r, a, w => wpOp P ops Q i (fun a' w' => S w' ∧ wpPlan P ops Q S r a' w') a w
  | S, .two i j r1 r2, a, w => wpOp P ops Q i (fun a' w' => S w' ∧ wpPlan P ops Q S r1 a' w') a w ∧ wpOp P ops Q j (fun a' w' => S w' ∧ wpPlan P ops Q S r2 a' w') a w
  | S, .three i j k r1 r2 r3, a, w => wpOp P ops Q i (fun a' w' => S w' ∧ wpPlan P ops Q S r1 a' w') a w ∧ wpOp P ops Q j (fun a' w' => S w' ∧ wpPlan P ops Q S r2 a' w') a w ∧ wpOp P ops Q k (fun a' w' => S w' ∧ wpPlan P ops Q S r3 a' w') a w
  | S, .four i j k l r1 r2 r3 r4, a, w => wpOp P ops Q i (fun a' w' => S w' ∧ wpPlan P ops Q S r1 a' w') a w ∧ wpOp P ops Q j (fun a' w' => S w' ∧ wpPlan P ops Q S r2 a' w') a w ∧ wpOp P ops Q k (fun a' w' => S w' ∧ wpPlan P ops Q S r3 a' w') a w ∧ wpOp P ops Q l (fun a' w' => S w' ∧ wpPlan P ops Q S r4 a' w') a w
  | S, .five i j k l m r1 r2 r3 r4 r5, a, w => wpOp P ops Q i (fun a' w' => S w' ∧ wpPlan P ops Q S r1 a' w') a w ∧ wpOp P ops Q j (fun a' w' => S w' ∧ wpPlan P ops Q S r2 a' w') a w ∧ wpOp P ops Q k (fun a' w' => S w' ∧ wpPlan P ops Q S r3 a' w') a w ∧ wpOp P ops Q l (fun a' w' => S w' ∧ wpPlan P ops Q S r4 a' w') a w ∧ wpOp P ops Q m (fun a' w' => S w' ∧ wpPlan P ops Q S r5 a' w') a w
  | S, .par A r, a, w => ∃ J : List Nat → Act → World → Prop, J [] a w ∧
      (∀ (D : List Nat) (j : Nat) (ds : List Nat) a w, (j, ds) ∈ A → (∀ d, d ∈ ds → d ∈ D) → j ∉ D → J D a w → wpOp P ops Q j (fun a' w' => S w' ∧ J (j :: D) a' w') a w) ∧
      (∀ (D : List Nat) a w, (∀ p, p ∈ A → p.1 ∈ D) → J D a w → wpPlan P ops Q S r a w)
  | _, .drop i r, a, w => wpOp P ops Q i (fun a' w' => wpPlan P ops Q (fun _ => True) r a' w') a w

theorem wpPlan_acts {P : Program} {ops : Array Oper} {Q : Exit → Act → World → Prop} : ∀ (r : PL) (S : World → Prop) (a : Act) (w : World), r.actsOnly = true → wpPlan P ops Q S r a w → wpPlan P ops Q (fun _ => True) r a w
  | .nil, _, _, _, _, h => h
  | .act _ r, S, _, _, hr, h => wpOp_mono (fun a' w' h' => ⟨trivial, wpPlan_acts r S a' w' hr h'.2⟩) h
  | .drop _ _, _, _, _, _, h => h

theorem noX_set {X : List Nat} {listed : Array Bool} {i : Nat} (h : noX X listed = false) : noX X (listed.setIfInBounds i true) = false := by
  unfold noX at *
  obtain ⟨x, hx, hv⟩ := List.all_eq_false.1 h
  refine List.all_eq_false.2 ⟨x, hx, ?_⟩
  simp only [Bool.not_eq_true', Bool.not_eq_false] at *
  by_cases hix : i = x
  · subst hix
    by_cases hl : i < listed.size
    · simp [hl]
    · simp [hl]
  · rw [getD_set_ne true hix]; exact hv

theorem noX_hit {X : List Nat} {listed : Array Bool} {i : Nat} (h : X.contains i = true) : noX X (listed.setIfInBounds i true) = false := by
  refine List.all_eq_false.2 ⟨i, by simpa using h, ?_⟩
  by_cases hl : i < listed.size
  · simp [hl]
  · simp [hl]

theorem wpAnyX_acts {P : Program} {ops : Array Oper} {Q : Exit → Act → World → Prop} {S : World → Prop} {X : List Nat} :
    ∀ (pl : PL) (fuel : Nat) (listed : Array Bool) (a : Act) (w : World), pl.actsOnly = true → noX X listed = false → pl.depth ≤ fuel → planOk ops X pl listed = true → wpPlan P ops Q (fun _ => True) pl a w → wpAnyX P ops Q S X fuel listed a w
  | .nil, fuel, listed, a, w, _, _, _, hp, h => wpAnyX_done (by simpa [planOk] using hp) h fuel
  | .act i r, 0, _, _, _, _, _, hl, _, _ => by simp [PL.depth] at hl
  | .act i r, fuel + 1, listed, a, w, ha, hn, hl, hp, h => by
    simp only [planOk, Bool.and_eq_true, beq_iff_eq] at hp
    refine wpAnyX_all hp.1 (by simp) (fun j hj => ?_)
    simp only [List.mem_singleton] at hj
    subst hj
    exact wpOp_mono (fun a' w' h' => ⟨fun hx => absurd hx (by rw [noX_set hn]; simp), wpAnyX_acts r fuel _ _ _ ha (noX_set hn) (by simp [PL.depth] at hl; omega) hp.2 h'.2⟩) h
  | .drop i r, 0, _, _, _, _, _, hl, _, _ => by simp [PL.depth] at hl
  | .drop i r, fuel + 1, listed, a, w, ha, hn, hl, hp, h => by
    simp only [planOk, Bool.and_eq_true, beq_iff_eq] at hp
    refine wpAnyX_all hp.1.1.1 (by simp) (fun j hj => ?_)
    simp only [List.mem_singleton] at hj
    subst hj
    exact wpOp_mono (fun a' w' h' => ⟨fun hx => absurd hx (by rw [noX_set hn]; simp), wpAnyX_acts r fuel _ _ _ ha (noX_set hn) (by simp [PL.depth] at hl; omega) hp.2 h'⟩) h

theorem wpAnyX_plan {P : Program} {ops : Array Oper} {Q : Exit → Act → World → Prop} {S : World → Prop} {X : List Nat} (hsel : Region.noSelect ops = true) (hQ : ∀ c a w, ¬ Q (.panic c) a w) :
    ∀ (pl : PL) (fuel : Nat) (listed : Array Bool) (a : Act) (w : World), pl.depth ≤ fuel → planOk ops X pl listed = true → wpPlan P ops Q S pl a w → wpAnyX P ops Q S X fuel listed a w := by
  intro pl
  induction pl with
  | nil =>
    intro fuel listed a w _ hp h
    exact wpAnyX_done (by simpa [planOk] using hp) h fuel
  | still i r ih =>
    intro fuel listed a w hl hp h
    cases fuel with
    | zero => simp [PL.depth] at hl
    | succ fuel =>
      simp only [planOk, Bool.and_eq_true] at hp
      obtain ⟨⟨⟨hf, hr⟩, hb⟩, hp'⟩ := hp
      obtain ⟨o, v, ho, hy, hS, hrest⟩ := h
      exact wpAnyX_take ho hsel hf hr hb (fun c a w hq => absurd hq (hQ _ _ _)) hy hS (ih fuel _ _ _ (by simp [PL.depth] at hl; omega) hp' hrest)
  | act i r ih =>
    intro fuel listed a w hl hp h
    cases fuel with
    | zero => simp [PL.depth] at hl
    | succ fuel =>
      simp only [planOk, Bool.and_eq_true, beq_iff_eq] at hp
      obtain ⟨hr, hp'⟩ := hp
      refine wpAnyX_all hr (by simp) (fun j hj => ?_)
      simp only [List.mem_singleton] at hj
      subst hj
      exact wpOp_mono (fun a' w' h' => ⟨fun _ => h'.1, ih fuel _ _ _ (by simp [PL.depth] at hl; omega) hp' h'.2⟩) h
  | two i j r1 r2 ih1 ih2 =>
    intro fuel listed a w hl hp h
    cases fuel with
    | zero => simp [PL.depth] at hl
    | succ fuel =>
      simp only [planOk, Bool.and_eq_true, beq_iff_eq] at hp
      obtain ⟨⟨hr, hp1⟩, hp2⟩ := hp
      simp only [PL.depth] at hl
      refine wpAnyX_all hr (by simp) (fun k hk => ?_)
      simp only [List.mem_cons, List.not_mem_nil, or_false] at hk
      rcases hk with rfl | rfl
      · exact wpOp_mono (fun a' w' h' => ⟨fun _ => h'.1, ih1 fuel _ _ _ (by omega) hp1 h'.2⟩) h.1
      · exact wpOp_mono (fun a' w' h' => ⟨fun _ => h'.1, ih2 fuel _ _ _ (by omega) hp2 h'.2⟩) h.2
  | three i j k r1 r2 r3 ih1 ih2 ih3 =>
    intro fuel listed a w hl hp h
    cases fuel with
    | zero => simp [PL.depth] at hl
    | succ fuel =>
      simp only [planOk, Bool.and_eq_true, beq_iff_eq] at hp
      obtain ⟨⟨⟨hr, hp1⟩, hp2⟩, hp3⟩ := hp
      simp only [PL.depth] at hl
      obtain ⟨hw1, hw2, hw3⟩ := h
      refine wpAnyX_all hr (by simp) (fun kk hk => ?_)
      simp only [List.mem_cons, List.not_mem_nil, or_false] at hk
      rcases hk with rfl | rfl | rfl
      · exact wpOp_mono (fun a' w' h' => ⟨fun _ => h'.1, ih1 fuel _ _ _ (by omega) hp1 h'.2⟩) hw1
      · exact wpOp_mono (fun a' w' h' => ⟨fun _ => h'.1, ih2 fuel _ _ _ (by omega) hp2 h'.2⟩) hw2
      · exact wpOp_mono (fun a' w' h' => ⟨fun _ => h'.1, ih3 fuel _ _ _ (by omega) hp3 h'.2⟩) hw3
  | four i j k l r1 r2 r3 r4 ih1 ih2 ih3 ih4 =>
    intro fuel listed a w hl hp h
    cases fuel with
    | zero => simp [PL.depth] at hl
    | succ fuel =>
      simp only [planOk, Bool.and_eq_true, beq_iff_eq] at hp
      obtain ⟨⟨⟨⟨hr, hp1⟩, hp2⟩, hp3⟩, hp4⟩ := hp
      simp only [PL.depth] at hl
      obtain ⟨hw1, hw2, hw3, hw4⟩ := h
      refine wpAnyX_all hr (by simp) (fun kk hk => ?_)
      simp only [List.mem_cons, List.not_mem_nil, or_false] at hk
      rcases hk with rfl | rfl | rfl | rfl
      · exact wpOp_mono (fun a' w' h' => ⟨fun _ => h'.1, ih1 fuel _ _ _ (by omega) hp1 h'.2⟩) hw1
      · exact wpOp_mono (fun a' w' h' => ⟨fun _ => h'.1, ih2 fuel _ _ _ (by omega) hp2 h'.2⟩) hw2
      · exact wpOp_mono (fun a' w' h' => ⟨fun _ => h'.1, ih3 fuel _ _ _ (by omega) hp3 h'.2⟩) hw3
      · exact wpOp_mono (fun a' w' h' => ⟨fun _ => h'.1, ih4 fuel _ _ _ (by omega) hp4 h'.2⟩) hw4
  | five i j k l m r1 r2 r3 r4 r5 ih1 ih2 ih3 ih4 ih5 =>
    intro fuel listed a w hl hp h
    cases fuel with
    | zero => simp [PL.depth] at hl
    | succ fuel =>
      simp only [planOk, Bool.and_eq_true, beq_iff_eq] at hp
      obtain ⟨⟨⟨⟨⟨hr, hp1⟩, hp2⟩, hp3⟩, hp4⟩, hp5⟩ := hp
      simp only [PL.depth] at hl
      obtain ⟨hw1, hw2, hw3, hw4, hw5⟩ := h
      refine wpAnyX_all hr (by simp) (fun kk hk => ?_)
      simp only [List.mem_cons, List.not_mem_nil, or_false] at hk
      rcases hk with rfl | rfl | rfl | rfl | rfl
      · exact wpOp_mono (fun a' w' h' => ⟨fun _ => h'.1, ih1 fuel _ _ _ (by omega) hp1 h'.2⟩) hw1
      · exact wpOp_mono (fun a' w' h' => ⟨fun _ => h'.1, ih2 fuel _ _ _ (by omega) hp2 h'.2⟩) hw2
      · exact wpOp_mono (fun a' w' h' => ⟨fun _ => h'.1, ih3 fuel _ _ _ (by omega) hp3 h'.2⟩) hw3
      · exact wpOp_mono (fun a' w' h' => ⟨fun _ => h'.1, ih4 fuel _ _ _ (by omega) hp4 h'.2⟩) hw4
      · exact wpOp_mono (fun a' w' h' => ⟨fun _ => h'.1, ih5 fuel _ _ _ (by omega) hp5 h'.2⟩) hw5
  | drop i r ih =>
    intro fuel listed a w hl hp h
    cases fuel with
    | zero => simp [PL.depth] at hl
    | succ fuel =>
      simp only [planOk, Bool.and_eq_true, beq_iff_eq] at hp
      obtain ⟨⟨⟨hr, hx⟩, ha⟩, hp'⟩ := hp
      refine wpAnyX_all hr (by simp) (fun j hj => ?_)
      simp only [List.mem_singleton] at hj
      subst hj
      exact wpOp_mono (fun a' w' h' => ⟨fun hn => absurd hn (by rw [noX_hit hx]; simp), wpAnyX_acts r fuel _ _ _ ha (noX_hit hx) (by simp [PL.depth] at hl; omega) hp' h'⟩) h
  | par A r ih =>
    intro fuel listed a w hl hp h
    obtain ⟨J, h0, hstep, hend⟩ := h
    simp only [PL.depth] at hl
    have main : ∀ (f : Nat) (D : List Nat) (listed : Array Bool) (a : Act) (w : World) (fuel : Nat), f + r.depth ≤ fuel + 1 → parOk ops A (planOk ops X r) f D listed = true → J D a w → wpAnyX P ops Q S X fuel listed a w := by
      intro f
      induction f with
      | zero => intro D listed a w fuel _ hk; simp [parOk] at hk
      | succ f ihf =>
        intro D listed a w fuel hf hk hJ
        simp only [parOk] at hk
        cases hall : A.all (fun p => D.contains p.1) with
        | true =>
          rw [hall, cond_true] at hk
          exact ih fuel listed a w (by omega) hk (hend D a w (fun p hp => by simpa using List.all_eq_true.1 hall p hp) hJ)
        | false =>
          rw [hall, cond_false] at hk
          cases hr : Region.ready .any ops listed with
          | nil => rw [hr] at hk; simp at hk
          | cons i l =>
            rw [hr] at hk
            simp only [] at hk
            cases fuel with
            | zero =>
              have hi := List.all_eq_true.1 hk i (by simp)
              simp only [Bool.and_eq_true] at hi
              have : f = 0 := by omega
              subst this
              simp [parOk] at hi
            | succ fuel =>
              refine wpAnyX_all hr (by simp) (fun j hj => ?_)
              have hi := List.all_eq_true.1 hk j hj
              simp only [Bool.and_eq_true, Bool.not_eq_true', List.any_eq_true] at hi
              obtain ⟨⟨hD, ⟨j', ds⟩, hm, hb, hds⟩, hrec⟩ := hi
              have := Nat.eq_of_beq_eq_true hb
              dsimp only at this
              subst this
              exact wpOp_mono (fun a' w' h' => ⟨fun _ => h'.1, ihf _ _ _ _ fuel (by omega) hrec h'.2⟩)
                (hstep D _ ds a w hm (fun d hd => by simpa using List.all_eq_true.1 hds d hd) (by simpa using hD) hJ)
    exact main (A.length + 1) [] listed a w fuel (by omega) hp h0

theorem wp_region_plan {P : Program} {id : Nat} {ops : Array Oper} {Q : Exit → Act → World → Prop} {S : World → Prop} {a : Act} {w : World} (hm : P.follows .mixedOrders = true) (pl : PL)
    (hB : planB ops pl = true) (hQ : ∀ c a w, ¬ Q (.panic c) a w) (h : wpPlan P ops Q S pl a w.drew) : (Code.region id ops true).wp P Q a w := by
  simp only [planB, Bool.and_eq_true] at hB
  obtain ⟨⟨h1, h2⟩, h3⟩ := hB
  exact wp_region_any hm (wpAny_of_X _ _ _ _ (wpAnyX_plan h1 hQ pl ops.size _ a _ (Nat.le_of_ble_eq_true h2) h3 h))

def era (s : Slots) : Option Tmp → Slots
  | none => s
  | some d => s.filter fun p => !Nat.beq p.1 d

theorem get_filter_ne {d i : Nat} : ∀ {s : Slots} {x : T}, get (s.filter fun p => !Nat.beq p.1 d) i = some x → i ≠ d ∧ get s i = some x
  | [], x, h => by simp [get] at h
  | (k, y) :: l, x, h => by
    cases hk : Nat.beq k d with
    | true =>
      simp only [List.filter, hk, Bool.not_true] at h
      obtain ⟨h1, h2⟩ := get_filter_ne h
      have : k = d := Nat.eq_of_beq_eq_true hk
      refine ⟨h1, ?_⟩
      have hki : Nat.beq k i = false := by
        cases hb : Nat.beq k i with
        | false => rfl
        | true => exact absurd (by rw [← this, Nat.eq_of_beq_eq_true hb]) h1
      simp [get, hki, h2]
    | false =>
      simp only [List.filter, hk, Bool.not_false, get] at h
      cases hb : Nat.beq k i with
      | true =>
        simp only [hb, cond_true] at h
        have hki := Nat.eq_of_beq_eq_true hb
        refine ⟨fun he => ?_, by simp [get, hb, h]⟩
        rw [← he, ← hki] at hk
        simp at hk
      | false =>
        simp only [hb, cond_false] at h
        obtain ⟨h1, h2⟩ := get_filter_ne h
        exact ⟨h1, by simp [get, hb, h2]⟩

theorem SR.era {s : Slots} {H : GH} {a : Act} (r : SR n s H a) (dst : Option Tmp) (v : Value) : SR n (era s dst) H (a.put dst v) := by
  cases dst with
  | none => exact r
  | some d =>
    refine ⟨by simp [Act.put, r.size], fun i x h => ?_⟩
    obtain ⟨h1, h2⟩ := get_filter_ne h
    have he : (a.tmps.setIfInBounds d v).getD i undef = a.tmps.getD i undef := by
      simp [Array.getD_eq_getD_getElem?, Array.getElem?_setIfInBounds_ne (Ne.symm h1)]
    simp only [Act.put]
    rw [he]; exact r.slots i x h2

/-- Nothing is known of the slot that is to be written. -/
def free (s : Slots) : Option Tmp → Bool
  | none => true
  | some d => s.all fun p => !Nat.beq p.1 d

theorem get_all_ne {d i : Nat} : ∀ {s : Slots} {x : T}, (s.all fun p => !Nat.beq p.1 d) = true → get s i = some x → i ≠ d
  | [], x, _, h => by simp [get] at h
  | (k, y) :: l, x, ha, h => by
    simp only [List.all_cons, Bool.and_eq_true, Bool.not_eq_true'] at ha
    simp only [get] at h
    cases hb : Nat.beq k i with
    | true =>
      have hki := Nat.eq_of_beq_eq_true hb
      rintro rfl
      rw [hb] at ha; simp at ha
    | false =>
      simp only [hb, cond_false] at h
      exact get_all_ne ha.2 h

theorem SR.free {s : Slots} {H : GH} {a : Act} (r : SR n s H a) (dst : Option Tmp) (v : Value) (hf : free s dst = true) : SR n s H (a.put dst v) := by
  cases dst with
  | none => exact r
  | some d =>
    refine ⟨by simp [Act.put, r.size], fun i x h => ?_⟩
    have h1 := get_all_ne hf h
    have he : (a.tmps.setIfInBounds d v).getD i undef = a.tmps.getD i undef := by
      simp [Array.getD_eq_getD_getElem?, Array.getElem?_setIfInBounds_ne (Ne.symm h1)]
    simp only [Act.put]
    rw [he]; exact r.slots i x h

def putS (s : Slots) (dst : Option Tmp) (x : T) : Slots :=
  match dst with
  | none => s
  | some d => (d, x) :: s

theorem SR.put {s : Slots} {H : GH} {a : Act} (r : SR n s H a) {dst : Option Tmp} {v : Value} {x : T} (hv : VR H v x) (hd : ∀ d, dst = some d → d < n) : SR n (putS s dst x) H (a.put dst v) := by
  cases dst with
  | none => exact r
  | some d =>
    refine ⟨by simp [Act.put, r.size], fun i y h => ?_⟩
    simp only [putS, get] at h
    simp only [Act.put]
    cases hb : Nat.beq d i with
    | true =>
      have := Nat.eq_of_beq_eq_true hb
      subst this
      simp only [hb, cond_true, Option.some.injEq] at h
      subst h
      have : d < a.tmps.size := by rw [r.size]; exact hd d rfl
      simpa [Array.getD, this] using hv
    | false =>
      simp only [hb, cond_false] at h
      have hne : d ≠ i := fun h => by rw [h] at hb; simp at hb
      have he : (a.tmps.setIfInBounds d v).getD i undef = a.tmps.getD i undef := by
        simp [Array.getD_eq_getD_getElem?, Array.getElem?_setIfInBounds_ne hne]
      rw [he]; exact r.slots i y h

/-- The rest of a plan: so are the slots as they were known at the region's beginning, pobjs the objects (at the places prot) that nothing in the region changes. -/
def AP (E : Env) (n : Nat) (C : Ctx) (ops : Array Oper) (prot : List Nat) (pobjs : List Ob) (pl : PL) (so : Slots) (σ : St) (R : St → Prop) : Prop :=
  ∀ Hs ws H a w, SR n so Hs a → WR pobjs Hs ws → Agree Hs pobjs ws w → (∀ b o, Hs b = some o → H b = some o) →
    (∀ p, p ∈ pobjs → ∃ i, prot.contains i = true ∧ σ.objs[i]? = some p) → Gam n C σ H a w →
    wpPlan E.P ops (fun e a' w' => e = .normal ∧ ∃ σ' H', R σ' ∧ Gam n C σ' H' a' w') (Agree Hs pobjs ws) pl a w

theorem AP.nil {ops : Array Oper} {prot : List Nat} {pobjs : List Ob} {so : Slots} {R : St → Prop} (h : R σ) : AP E n C ops prot pobjs .nil so σ R :=
  fun _ _ H _ _ _ _ _ _ _ gm => ⟨rfl, σ, H, h, gm⟩

theorem AP.old {ops : Array Oper} {prot : List Nat} {pobjs : List Ob} {so : Slots} {R : St → Prop} {i : Nat} {r : PL} {o : Oper} {x : T} (ho : ops[i]? = some o)
    (hy : Yd E.P n so pobjs o x) (hg : o.guard = none) (hd : ∀ d, o.dst = some d → d < n) (k : AP E n C ops prot pobjs r (putS so o.dst x) (σ.put o.dst x) R) :
    AP E n C ops prot pobjs (.still i r) so σ R := by
  intro Hs ws H a w sr wr ag hH hp gm
  obtain ⟨v, hv, hrun⟩ := hy Hs a ws sr wr
  refine ⟨o, v, ho, .inl ⟨by simp [Region.wanted, hg], hrun⟩, ag, ?_⟩
  exact k Hs ws H _ w (sr.put hv hd) wr ag hH (by cases h : o.dst <;> simpa [St.put, h] using hp) (gm.put (hv.mono hH) hd)

theorem AP.new {ops : Array Oper} {prot : List Nat} {pobjs : List Ob} {so : Slots} {R : St → Prop} {i : Nat} {r : PL} {o : Oper} {x : T} (ho : ops[i]? = some o)
    (hy : Yp E.P n σ.slots o x) (hg : o.guard = none) (hd : ∀ d, o.dst = some d → d < n) (k : AP E n C ops prot pobjs r so (σ.put o.dst x) R) (hf : free so o.dst = true := by rfl) :
    AP E n C ops prot pobjs (.still i r) so σ R := by
  intro Hs ws H a w sr wr ag hH hp gm
  obtain ⟨v, hv, hrun⟩ := hy H a gm.sr
  refine ⟨o, v, ho, .inl ⟨by simp [Region.wanted, hg], fun w' _ => hrun w'⟩, ag, ?_⟩
  exact k Hs ws H _ w (sr.free _ _ hf) wr ag hH (by cases h : o.dst <;> simpa [St.put, h] using hp) (gm.put hv hd)

theorem AP.act {ops : Array Oper} {prot : List Nat} {pobjs : List Ob} {so : Slots} {R : St → Prop} {i : Nat} {r : PL} {o : Oper} (md : List Nat) (ho : ops[i]? = some o)
    (hg : o.guard = none) (hm : (prot.all fun i => !md.contains i) = true) (h : AX E n C md o σ (fun σ' => AP E n C ops prot pobjs r so σ' R)) (hf : free so o.dst = true := by rfl) :
    AP E n C ops prot pobjs (.act i r) so σ R := by
  intro Hs ws H a w sr wr ag hH hp gm
  have hmd : ∀ i, prot.contains i = true → md.contains i = false := fun i hi => by
    have := (List.all_eq_true.1 hm) i (by simpa using hi)
    simpa using this
  simp only [wpPlan, wpOp, ho]
  rw [if_pos (by simp [Region.wanted, hg])]
  refine .inl (Oper.wp_monoQ ?_ (fun _ _ _ h => h.elim) (h H a w gm))
  rintro a' w' ⟨σ', H', v, hr, gm', ha', hHH, hfr⟩
  have ag' : Agree Hs pobjs ws w' := by
    refine ⟨fun b o hb => gm'.held _ _ (hHH _ _ (hH _ _ hb)), fun p hpp b hb => ?_⟩
    obtain ⟨i, hi, hoi⟩ := hp p hpp
    exact ((hfr i p hoi (hmd i hi)).2 b hb).trans (ag.2 p hpp b hb)
  refine ⟨ag', hr Hs ws H' a' w' (by rw [ha']; exact sr.free _ _ hf) wr ag' (fun b o hb => hHH _ _ (hH _ _ hb)) (fun p hpp => ?_) gm'⟩
  obtain ⟨i, hi, hoi⟩ := hp p hpp
  exact ⟨i, hi, (hfr i p hoi (hmd i hi)).1⟩

/-- An operation that writes what was read ahead of it; behind it only such as act. -/
theorem AP.drop {ops : Array Oper} {prot : List Nat} {pobjs : List Ob} {so : Slots} {R : St → Prop} {i : Nat} {r : PL} {o : Oper} (md : List Nat) (hr : r.actsOnly = true) (ho : ops[i]? = some o)
    (hg : o.guard = none) (h : AX E n C md o σ (fun σ' => AP E n C ops [] [] r [] σ' R)) :
    AP E n C ops prot pobjs (.drop i r) so σ R := by
  intro Hs ws H a w sr wr ag hH hp gm
  simp only [wpPlan, wpOp, ho]
  rw [if_pos (by simp [Region.wanted, hg])]
  refine .inl (Oper.wp_monoQ ?_ (fun _ _ _ h => h.elim) (h H a w gm))
  rintro a' w' ⟨σ', H', v, hr', gm', ha', hHH, hfr⟩
  exact wpPlan_acts r _ a' w' hr (hr' H' w' H' a' w' ⟨gm'.size, fun i x h => by simp [get] at h⟩ ⟨by simp, gm'.held⟩ ⟨gm'.held, by simp⟩ (fun _ _ h => h) (by simp) gm')

/-- A guarded operation of a plan that is not carried out. -/
theorem AP.skip {ops : Array Oper} {prot : List Nat} {pobjs : List Ob} {so : Slots} {R : St → Prop} {i : Nat} {r : PL} {o : Oper} {j : Nat} {want b : Bool} {t : Tmp} (ho : ops[i]? = some o)
    (hg : o.guard = some (j, want)) (hj : (ops[j]?).bind (·.dst) = some t) (hs : get σ.slots t = some (.v (.bool b))) (hb : b = !want) (hd : ∀ d, o.dst = some d → d < n)
    (k : AP E n C ops prot pobjs r so (σ.put o.dst (.v undef)) R) (hf : free so o.dst = true := by rfl) : AP E n C ops prot pobjs (.still i r) so σ R := by
  intro Hs ws H a w sr wr ag hH hp gm
  have hy := yielded_of gm.sr hj hs
  have hw : Region.wanted o (yielded ops a.tmps) = false := by subst hb; cases want <;> simp [Region.wanted, hg, hy]
  have hk := k Hs ws H _ w (sr.free o.dst undef hf) wr ag hH (by cases h : o.dst <;> simpa [St.put, h] using hp) (gm.put (.v undef) hd)
  exact ⟨o, undef, ho, .inr ⟨hw, rfl⟩, ag, hk⟩

theorem AP.skipA {ops : Array Oper} {prot : List Nat} {pobjs : List Ob} {so : Slots} {R : St → Prop} {i : Nat} {r : PL} {o : Oper} {j : Nat} {want b : Bool} {t : Tmp} (ho : ops[i]? = some o)
    (hg : o.guard = some (j, want)) (hj : (ops[j]?).bind (·.dst) = some t) (hs : get σ.slots t = some (.v (.bool b))) (hb : b = !want) (hd : ∀ d, o.dst = some d → d < n)
    (k : AP E n C ops prot pobjs r so (σ.put o.dst (.v undef)) R) (hf : free so o.dst = true := by rfl) : AP E n C ops prot pobjs (.act i r) so σ R := by
  intro Hs ws H a w sr wr ag hH hp gm
  have hy := yielded_of gm.sr hj hs
  have hw : Region.wanted o (yielded ops a.tmps) = false := by subst hb; cases want <;> simp [Region.wanted, hg, hy]
  have hk := k Hs ws H _ w (sr.free o.dst undef hf) wr ag hH (by cases h : o.dst <;> simpa [St.put, h] using hp) (gm.put (.v undef) hd)
  simp only [wpPlan, wpOp, ho]
  rw [if_neg (by simp [hw])]
  exact ⟨ag, hk⟩

theorem AP.two {ops : Array Oper} {prot : List Nat} {pobjs : List Ob} {so : Slots} {R : St → Prop} {i j : Nat} {r1 r2 : PL} (h1 : AP E n C ops prot pobjs (.act i r1) so σ R) (h2 : AP E n C ops prot pobjs (.act j r2) so σ R) :
    AP E n C ops prot pobjs (.two i j r1 r2) so σ R :=
  fun Hs ws H a w sr wr ag hH hp gm => ⟨h1 Hs ws H a w sr wr ag hH hp gm, h2 Hs ws H a w sr wr ag hH hp gm⟩

theorem AP.three {ops : Array Oper} {prot : List Nat} {pobjs : List Ob} {so : Slots} {R : St → Prop} {i j k : Nat} {r1 r2 r3 : PL} (h1 : AP E n C ops prot pobjs (.act i r1) so σ R) (h2 : AP E n C ops prot pobjs (.act j r2) so σ R) (h3 : AP E n C ops prot pobjs (.act k r3) so σ R) :
    AP E n C ops prot pobjs (.three i j k r1 r2 r3) so σ R :=
  fun Hs ws H a w sr wr ag hH hp gm => ⟨h1 Hs ws H a w sr wr ag hH hp gm, h2 Hs ws H a w sr wr ag hH hp gm, h3 Hs ws H a w sr wr ag hH hp gm⟩

theorem AP.four {ops : Array Oper} {prot : List Nat} {pobjs : List Ob} {so : Slots} {R : St → Prop} {i j k l : Nat} {r1 r2 r3 r4 : PL} (h1 : AP E n C ops prot pobjs (.act i r1) so σ R) (h2 : AP E n C ops prot pobjs (.act j r2) so σ R) (h3 : AP E n C ops prot pobjs (.act k r3) so σ R) (h4 : AP E n C ops prot pobjs (.act l r4) so σ R) :
    AP E n C ops prot pobjs (.four i j k l r1 r2 r3 r4) so σ R :=
  fun Hs ws H a w sr wr ag hH hp gm => ⟨h1 Hs ws H a w sr wr ag hH hp gm, h2 Hs ws H a w sr wr ag hH hp gm, h3 Hs ws H a w sr wr ag hH hp gm, h4 Hs ws H a w sr wr ag hH hp gm⟩

theorem AP.five {ops : Array Oper} {prot : List Nat} {pobjs : List Ob} {so : Slots} {R : St → Prop} {i j k l m : Nat} {r1 r2 r3 r4 r5 : PL} (h1 : AP E n C ops prot pobjs (.act i r1) so σ R) (h2 : AP E n C ops prot pobjs (.act j r2) so σ R) (h3 : AP E n C ops prot pobjs (.act k r3) so σ R) (h4 : AP E n C ops prot pobjs (.act l r4) so σ R) (h5 : AP E n C ops prot pobjs (.act m r5) so σ R) :
    AP E n C ops prot pobjs (.five i j k l m r1 r2 r3 r4 r5) so σ R :=
  fun Hs ws H a w sr wr ag hH hp gm => ⟨h1 Hs ws H a w sr wr ag hH hp gm, h2 Hs ws H a w sr wr ag hH hp gm, h3 Hs ws H a w sr wr ag hH hp gm, h4 Hs ws H a w sr wr ag hH hp gm, h5 Hs ws H a w sr wr ag hH hp gm⟩

theorem AP.weaken {ops : Array Oper} {pl : PL} {so : Slots} {R : St → Prop} {s : Slots} {ob : List Ob} (hs : Sub s σ.slots) (ho : ob.Sublist σ.objs) (h : AP E n C ops [] [] pl so ⟨s, ob⟩ R) :
    AP E n C ops [] [] pl so σ R :=
  fun Hs ws H a w sr wr ag hH _ gm => h Hs ws H a w sr wr ag hH (by simp) (gm.weaken hs ho)

/-- A guarded operation of a plan that is carried out: as without its guard. -/
theorem AP.oldG {ops : Array Oper} {prot : List Nat} {pobjs : List Ob} {so : Slots} {R : St → Prop} {i : Nat} {r : PL} {op : Op} {x : T} {j : Nat} {want b : Bool} {t : Tmp}
    (ho : ops[i]? = some ⟨dst, op, ty, pos, aft, some (j, want)⟩)
    (hj : (ops[j]?).bind (·.dst) = some t) (hs : get σ.slots t = some (.v (.bool b))) (hb : b = want)
    (hy : Yd E.P n so pobjs ⟨dst, op, ty, pos, aft, none⟩ x) (hd : ∀ d, dst = some d → d < n) (k : AP E n C ops prot pobjs r (putS so dst x) (σ.put dst x) R) :
    AP E n C ops prot pobjs (.still i r) so σ R := by
  intro Hs ws H a w sr wr ag hH hp gm
  obtain ⟨v, hv, hrun⟩ := hy Hs a ws sr wr
  have hyi := yielded_of gm.sr hj hs
  refine ⟨_, v, ho, .inl ⟨by simp [Region.wanted, hyi, hb], hrun⟩, ag, ?_⟩
  exact k Hs ws H _ w (sr.put hv hd) wr ag hH (by cases dst <;> simpa [St.put] using hp) (gm.put (hv.mono hH) hd)

theorem AP.newG {ops : Array Oper} {prot : List Nat} {pobjs : List Ob} {so : Slots} {R : St → Prop} {i : Nat} {r : PL} {op : Op} {x : T} {j : Nat} {want b : Bool} {t : Tmp}
    (ho : ops[i]? = some ⟨dst, op, ty, pos, aft, some (j, want)⟩)
    (hj : (ops[j]?).bind (·.dst) = some t) (hs : get σ.slots t = some (.v (.bool b))) (hb : b = want)
    (hy : Yp E.P n σ.slots ⟨dst, op, ty, pos, aft, none⟩ x) (hd : ∀ d, dst = some d → d < n) (k : AP E n C ops prot pobjs r so (σ.put dst x) R) (hf : free so dst = true := by rfl) :
    AP E n C ops prot pobjs (.still i r) so σ R := by
  intro Hs ws H a w sr wr ag hH hp gm
  obtain ⟨v, hv, hrun⟩ := hy H a gm.sr
  have hyi := yielded_of gm.sr hj hs
  refine ⟨_, v, ho, .inl ⟨by simp [Region.wanted, hyi, hb], fun w' _ => hrun w'⟩, ag, ?_⟩
  exact k Hs ws H _ w (sr.free _ _ hf) wr ag hH (by cases dst <;> simpa [St.put] using hp) (gm.put hv hd)

theorem AP.actG {ops : Array Oper} {prot : List Nat} {pobjs : List Ob} {so : Slots} {R : St → Prop} {i : Nat} {r : PL} {op : Op} {j : Nat} {want b : Bool} {t : Tmp} (md : List Nat)
    (ho : ops[i]? = some ⟨dst, op, ty, pos, aft, some (j, want)⟩)
    (hj : (ops[j]?).bind (·.dst) = some t) (hs : get σ.slots t = some (.v (.bool b))) (hb : b = want) (hm : (prot.all fun i => !md.contains i) = true)
    (h : AX E n C md ⟨dst, op, ty, pos, aft, none⟩ σ (fun σ' => AP E n C ops prot pobjs r so σ' R)) (hf : free so dst = true := by rfl) :
    AP E n C ops prot pobjs (.act i r) so σ R := by
  intro Hs ws H a w sr wr ag hH hp gm
  have hmd : ∀ i, prot.contains i = true → md.contains i = false := fun i hi => by
    have := (List.all_eq_true.1 hm) i (by simpa using hi)
    simpa using this
  have hyi := yielded_of gm.sr hj hs
  simp only [wpPlan, wpOp, ho]
  rw [if_pos (by simp [Region.wanted, hyi, hb])]
  have e : ∀ K Q, Oper.wp E.P ⟨dst, op, ty, pos, aft, some (j, want)⟩ a w K Q = Oper.wp E.P ⟨dst, op, ty, pos, aft, none⟩ a w K Q := fun _ _ => rfl
  rw [e]
  refine .inl (Oper.wp_monoQ ?_ (fun _ _ _ h => h.elim) (h H a w gm))
  rintro a' w' ⟨σ', H', v, hr, gm', ha', hHH, hfr⟩
  have ag' : Agree Hs pobjs ws w' := by
    refine ⟨fun b o hb => gm'.held _ _ (hHH _ _ (hH _ _ hb)), fun p hpp b hb => ?_⟩
    obtain ⟨i, hi, hoi⟩ := hp p hpp
    exact ((hfr i p hoi (hmd i hi)).2 b hb).trans (ag.2 p hpp b hb)
  refine ⟨ag', hr Hs ws H' a' w' (by rw [ha']; exact sr.free _ _ hf) wr ag' (fun b o hb => hHH _ _ (hH _ _ hb)) (fun p hpp => ?_) gm'⟩
  obtain ⟨i, hi, hoi⟩ := hp p hpp
  exact ⟨i, hi, (hfr i p hoi (hmd i hi)).1⟩

theorem Gam.drew {H : GH} {a : Act} {w : World} (gm : Gam n C σ H a w) : Gam n C σ H a w.drew :=
  { gm with
    objs := fun p hp => OR.mono (fun _ _ h => h) (fun _ _ => rfl) (gm.objs p hp)
    held := gm.held, heap := gm.heap, frame := gm.frame }

/-- A region that draws its order. pobjs: the objects that its reads need, at the places prot. -/
theorem AW.regionD {id : Nat} {ops : Array Oper} {Q : Exit → St → Prop} (pl : PL) (prot : List Nat) (pobjs : List Ob) (hB : planB ops pl = true)
    (hp : prot.map (fun i => σ.objs[i]?) = pobjs.map some)
    (h : AP E n C ops prot pobjs pl σ.slots σ (fun σ' => Q .normal σ')) : AW E n C (.region id ops true) σ Q := by
  intro H a w gm
  have hpp : ∀ p, p ∈ pobjs → ∃ i, prot.contains i = true ∧ σ.objs[i]? = some p := by
    intro p hpm
    have : some p ∈ prot.map (fun i => σ.objs[i]?) := by rw [hp]; exact List.mem_map_of_mem hpm
    obtain ⟨i, hi, he⟩ := List.mem_map.1 this
    exact ⟨i, by simpa using hi, he⟩
  refine wp_mono (wp_region_plan (S := Agree H pobjs w.drew) E.mixed pl hB (Q := fun e a' w' => e = .normal ∧ ∃ σ' H', Q .normal σ' ∧ Gam n C σ' H' a' w') ?_ ?_) ?_
  · rintro c a w ⟨h, _⟩; cases h
  · have gd := gm.drew
    exact h H w.drew H a w.drew gd.sr ⟨fun p hpm => by obtain ⟨i, _, he⟩ := hpp p hpm; exact gd.objs p (List.mem_of_getElem? he), gd.held⟩ ⟨gd.held, fun _ _ _ _ => rfl⟩ (fun _ _ h => h) hpp gd
  · rintro e a' w' ⟨rfl, σ', H', q, g'⟩
    exact ⟨σ', H', q, g'⟩

end
end Go.Aw
