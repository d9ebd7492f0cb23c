/- Closures, slices and pointers that are not written any more in cells of objects, strings from bytes. No condition. -/
import Derived.Test.YtncfbhnecmnfpaaGreatDoorBwPar
import Derived.Laws.IdiomStrings
namespace Go.Aw
set_option linter.unusedVariables false
set_option linter.unusedSimpArgs false
section
variable {E : Env} {n : Nat} {C : Ctx} {ops : Array Oper} {s : Slots} {ob : List Ob} {R : St → Prop} {dst : Option Tmp} {ty : TypeId} {pos : String} {aft : Array Edge} {g : Option (Nat × Bool)} {Q : Exit → St → Prop}

theorem Yp.makeFunc {f : FuncId} {first captured : Array Operand} {fs cs : List T} (h1 : evalL s first.toList = some fs) (h2 : evalL s captured.toList = some cs) :
    Yp E.P n s ⟨dst, .makeFunc (.func f) first captured, ty, pos, aft, g⟩ (.fn f fs cs) := by
  intro H a r
  obtain ⟨k1, k2⟩ := evalL_spec r h1
  obtain ⟨k3, k4⟩ := evalL_spec r h2
  have conv : ∀ (arr : Array Operand) (i : Nat), (arr.map a.eval).getD i undef = (arr.toList.map a.eval).getD i undef := fun arr i => by
    simp [Array.getD_eq_getD_getElem?, List.getD]
  refine ⟨_, .fn f (first.map a.eval) (captured.map a.eval) fs cs (by simpa using k1) (by simpa using k3) (fun j x hx => by rw [conv]; exact k2 j x hx) (fun j x hx => by rw [conv]; exact k4 j x hx), fun w => ?_⟩
  simp [execOp, Instr.makeFunc]

theorem Yp.indexAg {t : TypeId} {x y : Operand} {k : IntKind} {i : Int} {m len el : Nat} {cs : List T} {ti fi : TI} {z : T} (ht : E.tab t = some ti) (hk : ti.kind = .array len el) (hel : E.tab el = some fi)
    (hx : evalT s x = some (.agg cs)) (hy : evalT s y = some (.v (.int k i))) (hi : i = (m : Int)) (hm : m < len) (hp : partT fi cs (m * fi.size) = some z) :
    Yp E.P n s ⟨dst, .index t x y, ty, pos, aft, g⟩ z := by
  intro H A r
  subst hi
  have h := r.eval hx
  generalize hv : A.eval x = v at h
  cases h with
  | agg vs cs hl hc hvs =>
    obtain ⟨v, hv1, hv2⟩ := partT_spec (VR.agg vs cs hl hc hvs) (E.ok _ _ hel) hp
    exact ⟨v, hv1, fun w => by simp [execOp, hv, r.evalv hy, Instr.index, asIntOf, run_underlying (und_array (E.ok _ _ ht) hk), hm, run_sizeOf_ti (E.ok _ _ hel), hv2]⟩

/-! ### Slices of slices of the call's own -/

theorem Yd.sub (k : Nat) {objs : List Ob} {o : Oper} {x : T} {p q : Ob} (hk : objs[k]? = some p) (ho : ∀ H w, OR H w p → OR H w q) (hf : ∀ b, b ∈ q.fp → b ∈ p.fp) (h : Yd E.P n s [q] o x) : Yd E.P n s objs o x := by
  intro H a w r wr
  have hp := List.mem_of_getElem? hk
  obtain ⟨v, h1, h2⟩ := h H a w r ⟨fun p' hp' => by simp at hp'; subst hp'; exact ho H w (wr.objs _ hp), wr.held⟩
  refine ⟨v, h1, fun w' ag => h2 w' ⟨ag.1, fun p' hp' b hb => ?_⟩⟩
  simp only [List.mem_singleton] at hp'
  subst hp'
  exact ag.2 _ hp b (hf b hb)

theorem OR.outer {H : GH} {w : World} {v : Value} {ty tyi szi : Nat} {vs : List Value} {L : List (Option (List (List T)))} (h : OR H w (.uss v ty tyi szi vs L)) : OR H w (.us v ty 1 (vs.map fun x => [T.v x])) := h.2.1
theorem fp_outer {v : Value} {ty tyi szi : Nat} {vs : List Value} {L : List (Option (List (List T)))} : ∀ b, b ∈ (Ob.us v ty 1 (vs.map fun x => [T.v x])).fp → b ∈ (Ob.uss v ty tyi szi vs L).fp := fun b hb => by
  simp only [Ob.fp, List.mem_append] at *; exact .inl hb

theorem vs_get {vs : List Value} {m : Nat} (h : m < vs.length) : (vs.map fun x => [T.v x])[m]? = some [T.v (vs.getD m undef)] := by
  simp [h, List.getD]

theorem Yd.lenUss (k : Nat) {x : Operand} {t : TypeId} {objs : List Ob} {v : Value} {tt tyi szi : Nat} {vs : List Value} {L : List (Option (List (List T)))} {ti : TI} {e : Nat} (ht : E.tab t = some ti) (hk : ti.kind = .slice e) (hx : evalT s x = some (.v v))
    (ho : objs[k]? = some (.uss v tt tyi szi vs L)) : Yd E.P n s objs ⟨dst, .call { callee := .builtin .len, args := #[x], argTypes := #[t] }, ty, pos, aft, g⟩ (.v (.int .i64 L.length)) := by
  intro H a w r wr
  have hl : vs.length = L.length := (wr.objs _ (List.mem_of_getElem? ho)).1
  have := Yd.sub k ho (fun _ _ => OR.outer) fp_outer (Yd.lenU (E := E) (n := n) (dst := dst) (ty := ty) (pos := pos) (aft := aft) (g := g) 0 ht hk hx rfl) H a w r wr
  simpa [hl] using this

theorem Yd.indexUss (k : Nat) {t : TypeId} {x y : Operand} {kk : IntKind} {i : Int} {m : Nat} {objs : List Ob} {v : Value} {tt tyi szi : Nat} {vs : List Value} {L : List (Option (List (List T)))} {ti fi : TI} {el : Nat}
    (ht : E.tab t = some ti) (hk : ti.kind = .slice el) (hel : E.tab el = some fi) (hsz : fi.size = 1)
    (hx : evalT s x = some (.v v)) (ho : objs[k]? = some (.uss v tt tyi szi vs L)) (hy : evalT s y = some (.v (.int kk i))) (hi : i = (m : Int)) (hm : m < L.length) :
    Yd E.P n s objs ⟨dst, .indexAddr t x y, ty, pos, aft, g⟩ (.v (.pointer (some ⟨blk v, m * 1, none⟩))) := by
  intro H a w r wr
  have hl : vs.length = L.length := (wr.objs _ (List.mem_of_getElem? ho)).1
  exact Yd.sub k ho (fun _ _ => OR.outer) fp_outer (Yd.indexU (E := E) (n := n) (dst := dst) (ty := ty) (pos := pos) (aft := aft) (g := g) 0 ht hk hel hsz hx rfl hy hi (vs_get (by omega))) H a w r wr

theorem Yd.loadUss (k : Nat) {t : TypeId} {x : Operand} {fi : TI} {objs : List Ob} {v : Value} {m : Nat} {tt tyi szi : Nat} {vs : List Value} {L : List (Option (List (List T)))}
    (ht : E.tab t = some fi) (hag : fi.isAgg = false) (hx : evalT s x = some (.v (.pointer (some ⟨blk v, m * 1, none⟩))))
    (ho : objs[k]? = some (.uss v tt tyi szi vs L)) (hm : m < L.length) :
    Yd E.P n s objs ⟨dst, .load t x, ty, pos, aft, g⟩ (.v (vs.getD m undef)) := by
  intro H a w r wr
  have hl : vs.length = L.length := (wr.objs _ (List.mem_of_getElem? ho)).1
  exact Yd.sub k ho (fun _ _ => OR.outer) fp_outer (Yd.loadU (E := E) (n := n) (dst := dst) (ty := ty) (pos := pos) (aft := aft) (g := g) 0 m 0 ht hx rfl (vs_get (by omega)) (by omega) (by simp [partT, hag])) H a w r wr

theorem ussIn_put : ∀ {vs : List Value} {L : List (Option (List (List T)))} {m : Nat} {x : Value} {es : List (List T)}, vs.length = L.length → L[m]? = some none →
    (∀ b, b ∈ ussIn (vs.set m x) (L.set m (some es)) → b ∈ ussIn vs L ∨ b ∈ bls x) ∧ ((ussIn vs L).Nodup → (∀ b, b ∈ bls x → b ∉ ussIn vs L) → (ussIn (vs.set m x) (L.set m (some es))).Nodup)
  | [], L, m, x, es, hl, h => by have := (List.getElem?_eq_some_iff.1 h).1; simp at hl; omega
  | v :: vs, [], m, x, es, hl, h => by simp at h
  | v :: vs, y :: L, 0, x, es, hl, h => by
    simp at h
    subst h
    simp only [List.set_cons_zero, ussIn, List.mem_append, List.nodup_append]
    exact ⟨fun b hb => hb.symm, fun h1 h2 => ⟨bls_nodup x, h1, fun b hb c hc hbc => h2 b hb (hbc ▸ hc)⟩⟩
  | v :: vs, none :: L, m + 1, x, es, hl, h => by
    have ih := ussIn_put (vs := vs) (L := L) (m := m) (x := x) (es := es) (by simpa using hl) (by simpa using h)
    simpa [ussIn] using ih
  | v :: vs, some z :: L, m + 1, x, es, hl, h => by
    obtain ⟨h1, h2⟩ := ussIn_put (vs := vs) (L := L) (m := m) (x := x) (es := es) (by simpa using hl) (by simpa using h)
    simp only [List.set_cons_succ, ussIn, List.mem_append, List.nodup_append]
    refine ⟨fun b hb => ?_, fun ⟨q1, q2, q3⟩ hx => ⟨q1, h2 q2 (fun b hb hb' => hx b hb (.inr hb')), fun b hb c hc hbc => ?_⟩⟩
    · rcases hb with hb | hb
      · exact .inl (.inl hb)
      · exact (h1 b hb).imp .inr id
    · subst hbc
      rcases h1 b hc with h | h
      · exact q3 b hb b h rfl
      · exact hx b h (.inl hb)

/-- A slice that was taken out is put back, as it is now. -/
theorem AX.storeUss (k q m : Nat) {t : TypeId} {x y : Operand} {ti : TI} {v u : Value} {tt tyi szi : Nat} {vs : List Value} {L L' : List (Option (List (List T)))} {es : List (List T)}
    (ht : E.tab t = some ti) (hsz : ti.size = 1) (hx : evalT s x = some (.v (.pointer (some ⟨blk v, m * 1, none⟩)))) (hk : ob[k]? = some (.uss v tt tyi szi vs L)) (hL : L[m]? = some none)
    (hy : evalT s y = some (.v u)) (hq : ob[q]? = some (.us u tyi szi es)) (hd : dst = none) (hL' : L.set m (some es) = L')
    (kk : R ⟨s, (ob.set k (.uss v tt tyi szi (vs.set m u) L')).set q (.us (.slice none 0 0) tyi szi [])⟩) :
    AX E n C [k, q] ⟨dst, .store t x y, ty, pos, aft, g⟩ ⟨s, ob⟩ R := by
  subst hd
  subst hL'
  refine AX.skip fun H a w gm => ?_
  have hkm := List.mem_of_getElem? hk
  have hqm := List.mem_of_getElem? hq
  have hor : OR H w (.uss v tt tyi szi vs L) := gm.objs _ hkm
  have hou : UsR H w u tyi szi es := gm.objs _ hqm
  obtain ⟨h0, h1, h2⟩ := hor
  have hml := (List.getElem?_eq_some_iff.1 hL).1
  obtain ⟨c', cap, hv, q1, q2, q3, q4⟩ := h1.arr (vs_get (show m < vs.length by omega))
  have hu1 : u.oneCell' = true := by
    rcases hou with ⟨rfl, _⟩ | ⟨_, _, _, rfl, _⟩ <;> rfl
  have hkq : k ≠ q := fun h => by subst h; rw [hk] at hq; cases hq
  have hn0 := (nodup_places.1 gm.nodup).1 k _ hk
  simp only [Ob.fp, List.nodup_append] at hn0
  obtain ⟨n1, n2, n3⟩ := hn0
  have huo : ∀ b, b ∈ bls u → b ∉ bls v ∧ b ∉ ussIn vs L := fun b hb => by
    have := gm.apart hk hq hkq b hb
    simpa [Ob.fp] using this
  obtain ⟨p1, p2⟩ := ussIn_put (x := u) (es := es) h0 hL
  have p2 := p2 n2 (fun b hb => (huo b hb).2)
  obtain ⟨w', r1, r2, r3, r4, r5⟩ := store_core (E := E) (ty := ty) (pos := pos) (aft := aft) (g := g) gm.sr m 0 ht hx q3 (vs_get (show m < vs.length by omega)) (by omega) hy (c := .v u) (cs := [.v u]) (by simp [cellsT, hu1]) (by simpa using hsz) (by simp)
  have hset : ((vs.map fun x => [T.v x]).set m (setC [T.v (vs.getD m undef)] 0 [T.v u])) = (vs.set m u).map fun x => [T.v x] := by
    simp [List.map_set, setC]
  rw [hset] at r2
  have hsame : ∀ b, b ∉ bls v → w'.heap[b]? = w.heap[b]? := fun b hb => r5 b (fun h => hb (by rw [q4]; simp [h]))
  have houter : OR H w' (.uss v tt tyi szi (vs.set m u) (L.set m (some es))) := by
    refine ⟨by simpa using h0, UsR.back hv q1 q2 (by simp) r2, fun i x es' hxi hei => ?_⟩
    by_cases him : m = i
    · subst him
      rw [List.getElem?_set_self (by omega)] at hxi
      rw [List.getElem?_set_self (by omega)] at hei
      simp only [Option.some.injEq] at hxi hei
      subst hxi hei
      exact hou.mono (fun _ _ h => h) (fun b hb => hsame b (huo b hb).1)
    · rw [List.getElem?_set_ne him] at hxi hei
      exact (h2 i x es' hxi hei).mono (fun _ _ h => h) (fun b hb => hsame b (fun hbv => n3 b hbv b (ussIn_mem hxi hei b hb) rfl))
  have hob : ∀ p, p ∈ (ob.set k (.uss v tt tyi szi (vs.set m u) (L.set m (some es)))).set q (.us (.slice none 0 0) tyi szi []) → p = .us (.slice none 0 0) tyi szi [] ∨ p = .uss v tt tyi szi (vs.set m u) (L.set m (some es)) ∨ ∃ i, i ≠ k ∧ i ≠ q ∧ ob[i]? = some p := by
    intro p hp
    obtain ⟨i, hi⟩ := List.mem_iff_getElem?.1 hp
    by_cases hqi : q = i
    · subst hqi
      rw [List.getElem?_set_self (by simpa using (List.getElem?_eq_some_iff.1 hq).1)] at hi
      cases hi; exact .inl rfl
    · rw [List.getElem?_set_ne hqi] at hi
      by_cases hki : k = i
      · subst hki
        rw [List.getElem?_set_self (List.getElem?_eq_some_iff.1 hk).1] at hi
        cases hi; exact .inr (.inl rfl)
      · rw [List.getElem?_set_ne hki] at hi
        exact .inr (.inr ⟨i, Ne.symm hki, Ne.symm hqi, hi⟩)
  refine ⟨w', _, H, r1, kk, ?_, fun _ _ h => h, fun i p hp hm => ?_⟩
  · refine gm.world (fun i => i ∈ bls v) r3 (by omega) (fun i _ hi => hsame i hi) (fun i hi _ => ⟨_, hkm, by simp [Ob.fp, hi]⟩) ?_ ?_
    · intro p hp
      rcases hob p hp with rfl | rfl | ⟨i, hik, hiq, hpi⟩
      · exact .inr ⟨.inl ⟨rfl, rfl⟩, by simp [Ob.fp, bls]⟩
      · refine .inr ⟨houter, fun b hb => .inr ?_⟩
        simp only [Ob.fp, List.mem_append] at hb
        rcases hb with hb | hb
        · exact ⟨_, hkm, by simp [Ob.fp, hb]⟩
        · rcases p1 b hb with hb | hb
          · exact ⟨_, hkm, by simp [Ob.fp, hb]⟩
          · exact ⟨_, hqm, by simpa [Ob.fp] using hb⟩
      · exact .inl ⟨List.mem_of_getElem? hpi, fun b hb hbv => gm.apart hk hpi (Ne.symm hik) b hb (by simp [Ob.fp, hbv])⟩
    · have hl := nodup_places.1 gm.nodup
      have hat : ∀ (i : Nat) (p : Ob), ((ob.set k (.uss v tt tyi szi (vs.set m u) (L.set m (some es)))).set q (.us (.slice none 0 0) tyi szi []))[i]? = some p →
          (∀ b, b ∈ p.fp → (i = k ∧ ((∃ o, ob[k]? = some o ∧ b ∈ o.fp) ∨ (∃ o, ob[q]? = some o ∧ b ∈ o.fp))) ∨ (i ≠ k ∧ i ≠ q ∧ ob[i]? = some p)) ∧ p.fp.Nodup := by
        intro i p hi
        by_cases hqi : q = i
        · subst hqi
          rw [List.getElem?_set_self (by simpa using (List.getElem?_eq_some_iff.1 hq).1)] at hi
          cases hi; simp [Ob.fp, bls]
        · rw [List.getElem?_set_ne hqi] at hi
          by_cases hki : k = i
          · subst hki
            rw [List.getElem?_set_self (List.getElem?_eq_some_iff.1 hk).1] at hi
            cases hi
            refine ⟨fun b hb => .inl ⟨rfl, ?_⟩, ?_⟩
            · simp only [Ob.fp, List.mem_append] at hb
              rcases hb with hb | hb
              · exact .inl ⟨_, hk, by simp [Ob.fp, hb]⟩
              · rcases p1 b hb with hb | hb
                · exact .inl ⟨_, hk, by simp [Ob.fp, hb]⟩
                · exact .inr ⟨_, hq, by simpa [Ob.fp] using hb⟩
            · simp only [Ob.fp, List.nodup_append]
              refine ⟨n1, p2, fun b hb c hc hbc => ?_⟩
              subst hbc
              rcases p1 b hc with h | h
              · exact n3 b hb b h rfl
              · exact (huo b h).1 hb
          · rw [List.getElem?_set_ne hki] at hi
            exact ⟨fun b _ => .inr ⟨Ne.symm hki, Ne.symm hqi, hi⟩, hl.1 i p hi⟩
      refine nodup_places.2 ⟨fun i p hi => (hat i p hi).2, fun i j p p' hi hj hne b hb hb' => ?_⟩
      rcases (hat i p hi).1 b hb with ⟨rfl, e1⟩ | ⟨e1, e2, e3⟩ <;> rcases (hat j p' hj).1 b hb' with ⟨rfl, e4⟩ | ⟨e4, e5, e6⟩
      · exact hne rfl
      · rcases e1 with ⟨o, ho, hbo⟩ | ⟨o, ho, hbo⟩
        · exact hl.2 _ _ _ _ ho e6 (Ne.symm e4) b hbo hb'
        · exact hl.2 _ _ _ _ ho e6 (Ne.symm e5) b hbo hb'
      · rcases e4 with ⟨o, ho, hbo⟩ | ⟨o, ho, hbo⟩
        · exact hl.2 _ _ _ _ ho e3 (Ne.symm e1) b hbo hb
        · exact hl.2 _ _ _ _ ho e3 (Ne.symm e2) b hbo hb
      · exact hl.2 _ _ _ _ e3 e6 hne b hb hb'
  · simp only [List.contains_cons, List.contains_nil, Bool.or_false, Bool.or_eq_false_iff, beq_eq_false_iff_ne] at hm
    refine ⟨?_, fun b hb => hsame b (fun hbv => gm.apart hk hp (Ne.symm hm.1) b hb (by simp [Ob.fp, hbv]))⟩
    rw [List.getElem?_set_ne (Ne.symm hm.2), List.getElem?_set_ne (Ne.symm hm.1)]; exact hp

theorem ussIn_app : ∀ {vs : List Value} {L : List (Option (List (List T)))}, vs.length = L.length → ussIn (vs ++ [.slice none 0 0]) (L ++ [some []]) = ussIn vs L
  | [], [], _ => by simp [ussIn, bls]
  | v :: vs, none :: L, h => by simpa [ussIn] using ussIn_app (vs := vs) (L := L) (by simpa using h)
  | v :: vs, some z :: L, h => by simpa [ussIn] using ussIn_app (vs := vs) (L := L) (by simpa using h)
  | [], _ :: _, h => by simp at h
  | _ :: _, [], h => by simp at h

/-- A nil slice is appended to a slice of slices of the call's own. -/
theorem AX.appendUss (ks : Nat) {sl x : Operand} {t : TypeId} {ti ei : TI} {e tyi szi : Nat} {z v : Value} {vs : List Value} {L L' : List (Option (List (List T)))}
    (ht : E.tab t = some ti) (hk : ti.kind = .slice e) (he : E.tab e = some ei) (hz : ei.zero = some z) (hsz : ei.size = 1) (hzs : z.cells.size = 1) (hby : Nat.ble ei.bytes 2048 = true)
    (hs : evalT s sl = some (.v v)) (hks : ob[ks]? = some (.uss v e tyi szi vs L))
    (hx : AppSrc s ob x 1 [[.v (.slice none 0 0)]]) (hb : L.length + 1 ≤ 68719476736) (hL : L ++ [some []] = L')
    (hd : ∀ d, dst = some d → d < n)
    (k : ∀ v' vs', R ⟨putS s dst (.v v'), ob.set ks (.uss v' e tyi szi vs' L')⟩) :
    AX E n C [ks] ⟨dst, .call { callee := .builtin .append, args := #[sl, x], argTypes := #[t, t] }, ty, pos, aft, g⟩ ⟨s, ob⟩ R := by
  subst hL
  refine AX.value fun H a w gm => ?_
  have hby' := Nat.le_of_ble_eq_true hby
  have hor : OR H w (.uss v e tyi szi vs L) := gm.objs _ (List.mem_of_getElem? hks)
  obtain ⟨o0, o1, o2⟩ := hor
  have hlen : (vs.map fun x => [T.v x]).length + [[T.v (.slice none 0 0)]].length ≤ 68719476736 := by simp; omega
  obtain ⟨v', w', h1, h2, h3, h4, h5, h6⟩ := append_core (ty := ty) gm.sr gm.wr ht hk he hz hsz hzs o1 hx (by simp only [maxL]; omega) (Nat.le_trans (Nat.mul_le_mul hlen hby') (by decide))
  have hn0 := (nodup_places.1 gm.nodup).1 ks _ hks
  simp only [Ob.fp, List.nodup_append] at hn0
  obtain ⟨n1, n2, n3⟩ := hn0
  refine ⟨v', w', _, H, exec_append (gm.sr.evalv hs) h1, k v' (vs ++ [.slice none 0 0]), ?_, fun _ _ h => h, fun i p hp hm => ?_⟩
  · have hin : ∀ b, b ∈ ussIn vs L → b < w.heap.size := fun b hb => (gm.objs _ (List.mem_of_getElem? hks)).lt b (by simp [Ob.fp, hb])
    have := (gm.set (w' := w') (o' := .uss v' e tyi szi (vs ++ [.slice none 0 0]) (L ++ [some []])) hks h3 h4 (fun i hi hn => h5 i hi (fun hb => hn (by simp [Ob.fp, hb]))) ?_ ?_ ?_).put (dst := dst) (.v v') hd
    · cases dst <;> exact this
    · refine ⟨by simp [o0], by simpa using h2, fun i x es hx he => ?_⟩
      rw [List.getElem?_append] at hx he
      split at hx
      · rename_i hi
        rw [if_pos (by omega)] at he
        exact (o2 i x es hx he).mono (fun _ _ h => h) (fun b hb => h5 b (hin b (ussIn_mem hx he b hb)) (fun hbv => n3 b hbv b (ussIn_mem hx he b hb) rfl))
      · rename_i hi
        rw [if_neg (by omega)] at he
        have e1 : i - vs.length = 0 := by have := (List.getElem?_eq_some_iff.1 hx).1; simp at this; omega
        have e2 : i - L.length = 0 := by omega
        rw [e1] at hx
        rw [e2] at he
        simp at hx he
        subst hx he
        exact .inl ⟨rfl, rfl⟩
    · intro b hb
      simp only [Ob.fp, List.mem_append, ussIn_app o0] at hb ⊢
      rcases hb with hb | hb
      · exact (h6 b hb).imp id .inl
      · exact .inr (.inr hb)
    · simp only [Ob.fp, ussIn_app o0, List.nodup_append]
      refine ⟨bls_nodup v', n2, fun b hb c hc hbc => ?_⟩
      subst hbc
      rcases h6 b hb with h | h
      · have := hin b hc; omega
      · exact n3 b h b hc rfl
  · have hne : ks ≠ i := fun h => by subst h; simp at hm
    exact ⟨set_keeps hp hne, fun b hb => h5 b ((gm.objs p (List.mem_of_getElem? hp)).lt b hb) (fun hbv => gm.apart hks hp hne b hb (by simp [Ob.fp, hbv]))⟩

theorem set_none_some {α β : Type} (l : List α) (f : α → β) (m : Nat) (y : α) : ((l.map fun x => some (f x)).set m none).set m (some (f y)) = (l.set m y).map fun x => some (f x) := by
  rw [List.set_set, List.map_set]

/-! ### Strings from bytes -/

def byteRows (l : List UInt8) : List (List T) := l.map fun b => [.v (.int .u8 (b.toNat : Int))]

theorem und_slice' {P : Program} {t : TypeId} {i : TI} (h : tiOf P t = some i) {e : Nat} (hk : i.kind = .slice e) : P.underlying t = some (.slice e) := by
  obtain ⟨d, h1, h2⟩ := und_ti h
  rw [hk] at h2
  cases d <;> simp [K.of] at h2
  subst h2; exact h1
theorem und_int' {P : Program} {t : TypeId} {i : TI} (h : tiOf P t = some i) {k : IntKind} (hk : i.kind = .int k) : P.underlying t = some (.int k) := by
  obtain ⟨d, h1, h2⟩ := und_ti h
  rw [hk] at h2
  cases d <;> simp [K.of] at h2
  subst h2; exact h1

theorem AX.bytesStr {t t' : TypeId} {x : Operand} {ti ti' ei : TI} {e : Nat} {l : List UInt8} (ht : E.tab t = some ti) (hk : ti.kind = .slice e) (he : E.tab e = some ei) (hke : ei.kind = .int .u8) (ht' : E.tab t' = some ti') (hk' : ti'.kind = .string)
    (hs : AppSrc s ob x 1 (byteRows l)) (hd : ∀ d, dst = some d → d < n) (k : R ⟨putS s dst (.v (.string ⟨l.toArray⟩)), ob⟩) : AX E n C [] ⟨dst, .convert t t' x, ty, pos, aft, g⟩ ⟨s, ob⟩ R := by
  intro H a w gm
  obtain ⟨ad, c, news, h1, h2, h3, h4, h5, h6⟩ := hs n H a w gm.sr gm.wr
  have hlen : (byteRows l).length = l.length := by simp [byteRows]
  have hrun : (execOp a.eval ⟨dst, .convert t t' x, ty, pos, aft, g⟩).run E.P w = .ok (.value (.string ⟨l.toArray⟩)) w := by
    cases ad with
    | none =>
      have := h4 rfl
      have hl : l = [] := by simpa [byteRows] using this
      subst hl
      have hc := run_convert_bytes_string (P := E.P) w t t' e none 0 c (und_slice' (E.ok _ _ ht) hk) (und_int' (E.ok _ _ he) hke) (und_string (E.ok _ _ ht') hk')
      simp only [byteRows, List.map_nil, List.length_nil] at h1
      simp only [execOp, h1, Sem.run_bind, hc]
      simp [Conv.bytesToString]
      rfl
    | some ad =>
      have hb := run_convert_bytes_back (P := E.P) w t t' e ad c l (und_slice' (E.ok _ _ ht) hk) (und_int' (E.ok _ _ he) hke) (und_string (E.ok _ _ ht') hk') (fun j hj => by
        have hrow : (byteRows l)[j]? = some [.v (.int .u8 (l[j].toNat : Int))] := by simp [byteRows, hj]
        obtain ⟨_, q⟩ := h6 j _ hrow
        have q := (q 0 _ rfl).v_eq
        simp only [Nat.mul_one, Nat.add_zero] at q
        have hjn : j < news.length := by rw [h2, hlen]; omega
        have := h5 ad rfl j news[j] (List.getElem?_eq_getElem hjn)
        rw [this]
        simp only [List.getD, List.getElem?_eq_getElem hjn, Option.getD_some] at q
        rw [q])
      rw [hlen] at h1
      simp only [execOp, h1, Sem.run_bind, hb]
      rfl
  simp only [Oper.wp, hrun, Oper.upon]
  refine ⟨_, H, _, k, ?_, rfl, fun _ _ h => h, fun i p hp _ => ⟨hp, by intros; trivial⟩⟩
  have := gm.put (dst := dst) (v := .string ⟨l.toArray⟩) (x := .v (.string ⟨l.toArray⟩)) (.v _) hd
  cases dst <;> exact this

end
end Go.Aw
