/- append, freezing, calls, and the frame of a function's proof, at abstract values. No condition. -/
import Derived.Test.YtncfbhnecmnfpaaGreatDoorBwMake
namespace Go.Aw
set_option linter.unusedVariables false
set_option linter.unusedSimpArgs false

section
variable {E : Env} {n : Nat} {C : Ctx} {σ : St} {dst : Option Tmp} {ty : TypeId} {pos : String} {aft : Array Edge} {g : Option (Nat × Bool)}

/-! ### append -/

/-- What is appended: m rows of sz cells, at an address (or nothing). -/
def AppSrc (s : Slots) (objs : List Ob) (x : Operand) (sz : Nat) (es : List (List T)) : Prop :=
  ∀ n H a w, SR n s H a → WR objs H w → ∃ (ad : Option Addr) (c : Nat) (news : List Value), a.eval x = .slice ad es.length c ∧ news.length = es.length * sz ∧
    (∀ v, v ∈ news → v.oneCell' = true) ∧ (ad = none → es = []) ∧ (∀ ad', ad = some ad' → ∀ j u, news[j]? = some u → w.cell? (ad'.add j) = some u) ∧
    (∀ (i : Nat) (e : List T), es[i]? = some e → e.length = sz ∧ ∀ (j : Nat) (x : T), e[j]? = some x → VR H (news.getD (i * sz + j) undef) x)

theorem cells_list {cs : Array Value} {o m : Nat} (hsz : o + m ≤ cs.size) : (cs.toList.drop o |>.take m).length = m ∧ ∀ j, j < m → ((cs.toList.drop o).take m).getD j undef = cs.getD (o + j) undef ∧ ((cs.toList.drop o).take m)[j]? = cs[o + j]? := by
  refine ⟨by simp; omega, fun j hj => ?_⟩
  have : ((cs.toList.drop o).take m)[j]? = cs[o + j]? := by
    rw [List.getElem?_take_of_lt hj, List.getElem?_drop]; simp
  exact ⟨by simp [List.getD, this, Array.getD_eq_getD_getElem?], this⟩

theorem AppSrc.of_cells {H : GH} {w : World} {b o : Nat} {cs : Array Value} {ty : TypeId} {fr : Nat × Nat} (hb : w.heap[b]? = some (.cells cs ty fr)) {sz : Nat} {es : List (List T)} (hsz : o + es.length * sz ≤ cs.size)
    (hel : ∀ (i : Nat) (e : List T), es[i]? = some e → e.length = sz)
    (h1 : ∀ (i : Nat) (e : List T), es[i]? = some e → ∀ (j : Nat) (x : T), e[j]? = some x → (cs.getD (o + i * sz + j) undef).oneCell' = true)
    (hv : ∀ (i : Nat) (e : List T), es[i]? = some e → ∀ (j : Nat) (x : T), e[j]? = some x → VR H (cs.getD (o + i * sz + j) undef) x) :
    ∃ news : List Value, news.length = es.length * sz ∧ (∀ v, v ∈ news → v.oneCell' = true) ∧ (∀ j u, news[j]? = some u → w.cell? ((⟨b, o, none⟩ : Addr).add j) = some u) ∧
      (∀ (i : Nat) (e : List T), es[i]? = some e → e.length = sz ∧ ∀ (j : Nat) (x : T), e[j]? = some x → VR H (news.getD (i * sz + j) undef) x) := by
  obtain ⟨c1, c2⟩ := cells_list hsz
  have idx : ∀ (i : Nat) (e : List T), es[i]? = some e → ∀ (j : Nat) (x : T), e[j]? = some x → i * sz + j < es.length * sz := by
    intro i e he j x hx
    have hi := (List.getElem?_eq_some_iff.1 he).1
    have hj := (List.getElem?_eq_some_iff.1 hx).1
    rw [hel i e he] at hj
    have : (i + 1) * sz ≤ es.length * sz := Nat.mul_le_mul_right _ hi
    rw [Nat.succ_mul] at this; omega
  refine ⟨(cs.toList.drop o).take (es.length * sz), c1, ?_, ?_, ?_⟩
  · intro v hvm
    obtain ⟨k, hk, he⟩ := List.getElem_of_mem hvm
    rw [c1] at hk
    have hgd : ((cs.toList.drop o).take (es.length * sz)).getD k undef = v := by
      simp [List.getD, List.getElem?_eq_getElem (show k < ((cs.toList.drop o).take (es.length * sz)).length by rw [c1]; exact hk), he]
    rw [(c2 k hk).1] at hgd
    rcases Nat.eq_zero_or_pos sz with h0 | hpos
    · subst h0; simp at hk
    · have hd : k / sz < es.length := by rw [Nat.div_lt_iff_lt_mul hpos]; exact hk
      have he' : es[k / sz]? = some es[k / sz] := List.getElem?_eq_getElem hd
      have hm := Nat.mod_lt k hpos
      have hel' := hel _ _ he'
      have hx' : es[k / sz][k % sz]? = some (es[k / sz][k % sz]'(by rw [hel']; exact hm)) := List.getElem?_eq_getElem _
      have := h1 _ _ he' _ _ hx'
      have hdm := Nat.div_add_mod k sz
      rw [Nat.mul_comm] at hdm
      rw [show o + k / sz * sz + k % sz = o + k by omega, hgd] at this
      exact this
  · intro j u hu
    have hj : j < es.length * sz := by have := (List.getElem?_eq_some_iff.1 hu).1; rw [c1] at this; exact this
    rw [(c2 j hj).2] at hu
    rw [Addr.add_mk]
    simp [World.cell?, hb, hu]
  · intro i e he
    refine ⟨hel i e he, fun j x hx => ?_⟩
    rw [(c2 _ (idx i e he j x hx)).1, ← Nat.add_assoc]
    exact hv i e he j x hx

theorem AppSrc.list {s : Slots} {objs : List Ob} {x : Operand} {sz : Nat} {es : List (List T)} (hx : evalT s x = some (.list sz es)) : AppSrc s objs x sz es := by
  intro n H a w r wr
  have h := r.eval hx
  generalize hv : a.eval x = v at h
  cases h with
  | empty ad cap sz => exact ⟨ad, cap, [], rfl, by simp, by simp, fun _ => rfl, by simp, by simp⟩
  | list b off cap sz es cs ty fr hb hcap hmax hsz hel h1 hvs =>
    obtain ⟨news, q1, q2, q3, q4⟩ := AppSrc.of_cells (H := H) (wr.held _ _ hb) hsz hel h1 hvs
    exact ⟨some ⟨b, off, none⟩, cap, news, rfl, q1, q2, (by simp), (fun ad' h => by cases h; exact q3), q4⟩

theorem AppSrc.own {s : Slots} {objs : List Ob} {x : Operand} {sz : Nat} {es : List (List T)} (k : Nat) {v : Value} {tt : Nat} (hx : evalT s x = some (.v v)) (hk : objs[k]? = some (.us v tt sz es)) :
    AppSrc s objs x sz es := by
  intro n H a w r wr
  have hor : UsR H w v tt sz es := wr.objs _ (List.mem_of_getElem? hk)
  rcases hor with ⟨rfl, rfl⟩ | ⟨b, c, cap, rfl, p1, p2, cs, a1, a2, a3, a4, a5, a6⟩
  · exact ⟨none, 0, [], by rw [r.evalv hx]; rfl, by simp, by simp, fun _ => rfl, by simp, by simp⟩
  · have hle : es.length * sz ≤ cs.size := by rw [a2]; exact Nat.mul_le_mul_right _ a3
    obtain ⟨news, q1, q2, q3, q4⟩ := AppSrc.of_cells (H := H) a1 (o := 0) (by omega) a5 (fun i e he j x hx => by simpa using (a6 i e he j x hx).1) (fun i e he j x hx => by simpa using (a6 i e he j x hx).2)
    exact ⟨some ⟨b, 0, none⟩, c, news, by rw [r.evalv hx], q1, q2, (by simp), (fun ad' h => by cases h; exact q3), q4⟩

/-- The cells of a row behind an append. -/
theorem OR.appended {H : GH} {w : World} {b : Nat} {e : TypeId} {cs : Array Value} {sz cap : Nat} {es es2 : List (List T)} (hb : w.heap[b]? = some (.cells cs e (0, 0))) (hcs : cs.size = cap * sz) (hcap : es.length + es2.length ≤ cap)
    (hmax : es.length + es2.length ≤ maxL) (hel : ∀ (i : Nat) (e : List T), es[i]? = some e → e.length = sz) (hel2 : ∀ (i : Nat) (e : List T), es2[i]? = some e → e.length = sz)
    (h1 : ∀ (i : Nat) (e : List T), es[i]? = some e → ∀ (j : Nat) (x : T), e[j]? = some x → CR H (cs.getD (i * sz + j) undef) x)
    (h2 : ∀ (i : Nat) (e : List T), es2[i]? = some e → ∀ (j : Nat) (x : T), e[j]? = some x → CR H (cs.getD (es.length * sz + (i * sz + j)) undef) x) : ArrR H w b e sz cap (es ++ es2) := by
  refine ⟨cs, hb, hcs, by simpa using hcap, by simpa using hmax, fun i e he => ?_, fun i e he j x hx => ?_⟩
  · rw [List.getElem?_append] at he
    split at he
    · exact hel _ _ he
    · exact hel2 _ _ he
  · rw [List.getElem?_append] at he
    split at he
    · exact h1 i e he j x hx
    · rename_i hi
      have := h2 _ e he j x hx
      rw [← Nat.add_assoc, ← Nat.add_mul, show es.length + (i - es.length) = i by omega] at this
      exact this

theorem news_one {news : List Value} (h : ∀ v, v ∈ news → v.oneCell' = true) {j : Nat} (hj : j < news.length) : (news.getD j undef).oneCell' = true := by
  rw [List.getD, List.getElem?_eq_getElem hj]; exact h _ (List.getElem_mem hj)

theorem row_idx {es : List (List T)} {sz : Nat} (hel : ∀ (i : Nat) (e : List T), es[i]? = some e → e.length = sz) {i : Nat} {e : List T} (he : es[i]? = some e) {j : Nat} {x : T} (hx : e[j]? = some x) : i * sz + j < es.length * sz := by
  have hi := (List.getElem?_eq_some_iff.1 he).1
  have hj := (List.getElem?_eq_some_iff.1 hx).1
  rw [hel i e he] at hj
  have : (i + 1) * sz ≤ es.length * sz := Nat.mul_le_mul_right _ hi
  rw [Nat.succ_mul] at this; omega

/-- append: to nothing, in place, or into a new block. -/
theorem append_core {H : GH} {a : Act} {w : World} {objs : List Ob} {s : Slots} (r : SR n s H a) (wr : WR objs H w) {x : Operand} {t : TypeId} {ti ei : TI} {e sz : Nat} {z : Value} {es es2 : List (List T)} {v : Value}
    (ht : E.tab t = some ti) (hk : ti.kind = .slice e) (he : E.tab e = some ei) (hz : ei.zero = some z) (hsz : ei.size = sz) (hzs : z.cells.size = sz)
    (hs : UsR H w v e sz es) (hx : AppSrc s objs x sz es2) (hmax : es.length + es2.length ≤ maxL) (hb : (es.length + es2.length) * ei.bytes ≤ 140737488355328) :
    ∃ v' w', (Builtin.append_ #[t, t] ty #[v, a.eval x]).run E.P w = .ok v' w' ∧ UsR H w' v' e sz (es ++ es2) ∧ (w'.os = w.os ∧ w'.tape = w.tape ∧ w'.output = w.output) ∧ w.heap.size ≤ w'.heap.size ∧
      (∀ i, i < w.heap.size → i ∉ bls v → w'.heap[i]? = w.heap[i]?) ∧ ∀ b, b ∈ bls v' → w.heap.size ≤ b ∨ b ∈ bls v := by
  obtain ⟨ad, c, news, q1, q2, q3, q4, q5, q6⟩ := hx n H a w r wr
  have hmx : es.length + es2.length ≤ 140737488355328 := hmax
  obtain ⟨inf, f1, f2, f3, f4, f5⟩ := run_typeInfo_ti (E.ok _ _ he) w
  have hel2 : ∀ (i : Nat) (e : List T), es2[i]? = some e → e.length = sz := fun i e he => (q6 i e he).1
  have hund := und_slice (E.ok _ _ ht) hk
  rw [q1]
  rcases hs with ⟨rfl, rfl⟩ | ⟨b, cp, cap, rfl, p1, p2, cur, a1, a2, a3, a4, a5, a6⟩
  · simp only [List.length_nil, Nat.zero_add, List.nil_append] at *
    cases ad with
    | none =>
      have := q4 rfl
      subst this
      refine ⟨.slice none 0 0, w, ?_, .inl ⟨rfl, rfl⟩, ⟨rfl, rfl, rfl⟩, Nat.le_refl _, fun _ _ _ => rfl, by simp [bls]⟩
      simp [Builtin.append_, run_underlying hund, sizeOf, typeInfo, f5, Builtin.lenOf, Builtin.firstCells]
    | some ad =>
      rcases Nat.eq_zero_or_pos es2.length with h0 | h0
      · have : es2 = [] := List.length_eq_zero_iff.1 h0
        subst this
        refine ⟨.slice none 0 0, w, ?_, .inl ⟨rfl, rfl⟩, ⟨rfl, rfl, rfl⟩, Nat.le_refl _, fun _ _ _ => rfl, by simp [bls]⟩
        have hfc := run_firstCells_some (P := E.P) w inf.size 0 ad 0 c [] (by simp) (by simp)
        simp [Builtin.append_, run_underlying hund, sizeOf, typeInfo, f5, Builtin.lenOf, hfc]
      · have hrun := run_append_nil (P := E.P) w t ty e inf z hund f5 (by rw [f4]; exact hz) ad es2.length c news (by rw [f2, hsz]; exact q2) (q5 ad rfl) h0 (by omega) (by rw [f3]; omega)
        have hge := grownCap_ge w es2.length 0 e
        have hor : ArrR H (w.drew.alloc (.cells (news.toArray ++ Builtin.zeroCells z.cells (grownCap w es2.length 0 e - es2.length)) e)) w.heap.size e sz (grownCap w es2.length 0 e) ([] ++ es2) := by
          refine OR.appended (heap_alloc_new w.drew _) ?_ (by simpa using hge) (by simpa using hmax) (by simp) hel2 (by simp) ?_
          · rw [Array.size_append, size_zeroCells, hzs]; simp only [List.size_toArray, q2]
            rw [← Nat.add_mul]; congr 1; omega
          · intro i e' he' j y hy
            have hlt := row_idx hel2 he' hy
            have hgd : (news.toArray ++ Builtin.zeroCells z.cells (grownCap w es2.length 0 e - es2.length)).getD (([] : List (List T)).length * sz + (i * sz + j)) undef = news.getD (i * sz + j) undef := by
              simp [Array.getD_eq_getD_getElem?, Array.getElem?_append, show i * sz + j < news.length by omega, List.getD]
            rw [hgd]
            exact ⟨news_one q3 (by omega), (q6 i e' he').2 j y hy⟩
        simp only [List.nil_append] at hor
        exact ⟨_, _, hrun, .inr ⟨_, _, _, rfl, hge, Nat.le_refl _, hor⟩, ⟨rfl, rfl, rfl⟩, by show w.heap.size ≤ (w.heap.push _).size; simp, fun k hk _ => heap_alloc_old w.drew _ hk, by simp [bls]⟩
  · cases ad with
    | none =>
      have := q4 rfl
      subst this
      refine ⟨.slice (some ⟨b, 0, none⟩) es.length cp, w, ?_, .inr ⟨b, cp, cap, by simp, by simpa using p1, p2, cur, a1, a2, by simpa using a3, by simpa using a4, by simpa using a5, by simpa using a6⟩, ⟨rfl, rfl, rfl⟩, Nat.le_refl _, fun _ _ _ => rfl, fun b hb => .inr hb⟩
      have h2 : es.length ≤ cp := p1
      simp [Builtin.append_, run_underlying hund, sizeOf, typeInfo, f5, Builtin.lenOf, Builtin.firstCells, h2, storeCells]
    | some ad =>
      by_cases hroom : es.length + es2.length ≤ cp
      · have hfit : es.length * sz + news.length ≤ cur.size := by rw [q2, a2, ← Nat.add_mul]; exact Nat.mul_le_mul_right _ (by omega)
        have hrun := run_append_room (P := E.P) w t ty e inf hund f5 b es.length cp cur a1 ad es2.length c news (by rw [f2, hsz]; exact q2) (q5 ad rfl) q3 hroom (by rw [f2, hsz]; exact hfit)
        rw [f2, hsz] at hrun
        refine ⟨_, _, hrun, .inr ⟨b, cp, cap, by simp, by simpa using hroom, p2, ?_⟩, ⟨rfl, rfl, rfl⟩, by rw [setRow_size]; exact Nat.le_refl _, fun k _ hk => setRow_other w b k _ (by simpa [bls] using hk), fun b' hb' => .inr (by simpa [bls] using hb')⟩
        refine OR.appended (setRow_heap w b cur _ e _ a1) ?_ (by omega) hmax a5 hel2 ?_ ?_
        · simp only [List.size_toArray, List.length_append, List.length_take, List.length_drop, Array.length_toList]
          omega
        · intro i e' he' j y hy
          have hlt := row_idx a5 he' hy
          rw [getD_seg hfit, if_neg (by omega)]
          exact a6 i e' he' j y hy
        · intro i e' he' j y hy
          have hlt := row_idx hel2 he' hy
          rw [getD_seg hfit, if_pos (by omega), Nat.add_sub_cancel_left]
          exact ⟨news_one q3 (by omega), (q6 i e' he').2 j y hy⟩
      · have holen : (cur.toList.take (es.length * sz)).length = es.length * sz := by
          have : es.length * sz ≤ cur.size := by rw [a2]; exact Nat.mul_le_mul_right _ a3
          simp; omega
        have hrun := run_append_grow (P := E.P) w t ty e inf z hund f5 (by rw [f4]; exact hz) ⟨b, 0, none⟩ es.length cp (cur.toList.take (es.length * sz)) (by rw [f2, hsz]; exact holen)
          (fun j u hu => by
            rw [Addr.add_mk]
            have hj : j < es.length * sz := by have := (List.getElem?_eq_some_iff.1 hu).1; rw [holen] at this; exact this
            rw [List.getElem?_take_of_lt hj] at hu
            simpa [World.cell?, a1] using hu)
          ad es2.length c news (by rw [f2, hsz]; exact q2) (q5 ad rfl) (by omega) (by omega) (by rw [f3]; exact growslice_fits (by omega) hb)
        have hge := grownCap_ge w (es.length + es2.length) cp e
        refine ⟨_, _, hrun, .inr ⟨w.heap.size, _, grownCap w (es.length + es2.length) cp e, by simp, by simpa using hge, Nat.le_refl _, ?_⟩, ⟨rfl, rfl, rfl⟩, by show w.heap.size ≤ (w.heap.push _).size; simp, fun k hk _ => heap_alloc_old w.drew _ hk, fun b' hb' => .inl (by simp [bls] at hb'; omega)⟩
        refine OR.appended (heap_alloc_new w.drew _) ?_ hge hmax a5 hel2 ?_ ?_
        · simp only [Array.size_append, size_zeroCells, hzs, List.size_toArray, holen, q2]
          rw [← Nat.add_mul, ← Nat.add_mul]; congr 1; omega
        · intro i e' he' j y hy
          have hlt := row_idx a5 he' hy
          have hgd : ((cur.toList.take (es.length * sz)).toArray ++ news.toArray ++ Builtin.zeroCells z.cells (grownCap w (es.length + es2.length) cp e - (es.length + es2.length))).getD (i * sz + j) undef = cur.getD (i * sz + j) undef := by
            have hc : es.length * sz ≤ cur.size := by rw [a2]; exact Nat.mul_le_mul_right _ a3
            simp only [Array.getD_eq_getD_getElem?, Array.getElem?_append, Array.size_append, List.size_toArray, holen, List.getElem?_toArray]
            rw [if_pos (by omega), if_pos (by omega), List.getElem?_take_of_lt hlt]
            simp
          rw [hgd]
          exact a6 i e' he' j y hy
        · intro i e' he' j y hy
          have hlt := row_idx hel2 he' hy
          have hgd : ((cur.toList.take (es.length * sz)).toArray ++ news.toArray ++ Builtin.zeroCells z.cells (grownCap w (es.length + es2.length) cp e - (es.length + es2.length))).getD (es.length * sz + (i * sz + j)) undef = news.getD (i * sz + j) undef := by
            simp only [Array.getD_eq_getD_getElem?, Array.getElem?_append, Array.size_append, List.size_toArray, holen, List.getElem?_toArray]
            rw [if_pos (by omega), if_neg (by omega), Nat.add_sub_cancel_left]
            rfl
          rw [hgd]
          exact ⟨news_one q3 (by omega), (q6 i e' he').2 j y hy⟩

theorem bls_nodup (v : Value) : (bls v).Nodup := by
  unfold bls
  split <;> simp

theorem exec_append {a : Act} {w w' : World} {s x : Operand} {t : TypeId} {v v' : Value} (hs : a.eval s = v) (h : (Builtin.append_ #[t, t] ty #[v, a.eval x]).run E.P w = .ok v' w') :
    (execOp a.eval ⟨dst, .call { callee := .builtin .append, args := #[s, x], argTypes := #[t, t] }, ty, pos, aft, g⟩).run E.P w = .ok (.value v') w' := by
  simp only [execOp, resolve, invoke, builtin, Sem.run_bind, Sem.run_pure, Result.andThen_ok, List.map_toArray, List.map_cons, List.map_nil, hs, h]

/-- append to a slice of the call's own. -/
theorem AX.appendU (ks : Nat) {s x : Operand} {t : TypeId} {ti ei : TI} {e sz : Nat} {z v : Value} {es es2 es' : List (List T)} {R : St → Prop}
    (ht : E.tab t = some ti) (hk : ti.kind = .slice e) (he : E.tab e = some ei) (hz : ei.zero = some z) (hsz : ei.size = sz) (hzs : z.cells.size = sz) (hby : Nat.ble ei.bytes 2048 = true)
    (hs : evalT σ.slots s = some (.v v)) (hks : σ.objs[ks]? = some (.us v e sz es))
    (hx : AppSrc σ.slots σ.objs x sz es2) (hb : es.length + es2.length ≤ 68719476736) (hes : es ++ es2 = es')
    (hd : ∀ d, dst = some d → d < n)
    (k : ∀ v', R ⟨putS σ.slots dst (.v v'), σ.objs.set ks (.us v' e sz es')⟩) :
    AX E n C [ks] ⟨dst, .call { callee := .builtin .append, args := #[s, x], argTypes := #[t, t] }, ty, pos, aft, g⟩ σ R := by
  subst hes
  refine AX.value fun H a w gm => ?_
  have hby' := Nat.le_of_ble_eq_true hby
  obtain ⟨v', w', h1, h2, h3, h4, h5, h6⟩ := append_core (ty := ty) gm.sr gm.wr ht hk he hz hsz hzs (gm.objs _ (List.mem_of_getElem? hks)) hx (by simp [maxL]; omega) (Nat.le_trans (Nat.mul_le_mul hb hby') (by decide))
  refine ⟨v', w', _, H, exec_append (gm.sr.evalv hs) h1, k v', ?_, fun _ _ h => h, fun i p hp hm => ?_⟩
  · have := (gm.set (o' := .us v' e sz (es ++ es2)) hks h3 h4 h5 h2 h6 (bls_nodup v')).put (dst := dst) (.v v') hd
    cases dst <;> exact this
  · have hne : ks ≠ i := fun h => by subst h; simp at hm
    exact ⟨set_keeps hp hne, fun b hb => h5 b ((gm.objs p (List.mem_of_getElem? hp)).lt b hb) (gm.apart hks hp hne b hb)⟩

/-- append to nil: a new slice of the call's own. -/
theorem AX.appendN {s x : Operand} {t : TypeId} {ti ei : TI} {e sz : Nat} {z : Value} {es2 es' : List (List T)} {R : St → Prop}
    (ht : E.tab t = some ti) (hk : ti.kind = .slice e) (he : E.tab e = some ei) (hz : ei.zero = some z) (hsz : ei.size = sz) (hzs : z.cells.size = sz) (hby : Nat.ble ei.bytes 2048 = true)
    (hs : evalT σ.slots s = some (.v (.slice none 0 0)))
    (hx : AppSrc σ.slots σ.objs x sz es2) (hb : es2.length ≤ 68719476736) (hes : es2 = es')
    (hd : ∀ d, dst = some d → d < n)
    (k : ∀ v', R ⟨putS σ.slots dst (.v v'), σ.objs ++ [.us v' e sz es']⟩) :
    AX E n C [] ⟨dst, .call { callee := .builtin .append, args := #[s, x], argTypes := #[t, t] }, ty, pos, aft, g⟩ σ R := by
  subst hes
  refine AX.value fun H a w gm => ?_
  have hby' := Nat.le_of_ble_eq_true hby
  obtain ⟨v', w', h1, h2, h3, h4, h5, h6⟩ := append_core (ty := ty) (es := []) gm.sr gm.wr ht hk he hz hsz hzs (.inl ⟨rfl, rfl⟩) hx (by simp [maxL]; omega) (Nat.le_trans (Nat.mul_le_mul (by simpa using hb) hby') (by decide))
  simp only [List.nil_append] at h2
  refine ⟨v', w', _, H, exec_append (gm.sr.evalv hs) h1, k v', ?_, fun _ _ h => h, fun i p hp hm => ?_⟩
  · have := (gm.more (ob := .us v' e sz es2) h3 h4 (fun i hi => h5 i hi (by simp [bls])) h2 (fun b hb => (h6 b hb).resolve_right (by simp [bls])) (bls_nodup v')).put (dst := dst) (.v v') hd
    cases dst <;> exact this
  · exact ⟨append_keeps hp, fun b hb => h5 b ((gm.objs p (List.mem_of_getElem? hp)).lt b hb) (by simp [bls])⟩

/-! ### Freezing -/

/-- The object at place k is not written any more. -/
theorem Gam.hold {H : GH} {a : Act} {w : World} (gm : Gam n C σ H a w) {k : Nat} {o : Ob} (hk : σ.objs[k]? = some o) :
    ∃ H', (∀ b o, H b = some o → H' b = some o) ∧ Gam n C ⟨σ.slots, σ.objs.eraseIdx k⟩ H' a w ∧ (∀ b, b ∈ o.fp → H' b = w.heap[b]?) ∧ OR H' w o := by
  have hm := List.mem_of_getElem? hk
  have hfree := gm.free _ hm
  have hnew := gm.new _ hm
  have hmono : ∀ b' x, H b' = some x → (if b' ∈ o.fp then w.heap[b']? else H b') = some x := by
    intro b' x ho
    by_cases hb : b' ∈ o.fp
    · rw [hfree b' hb] at ho; cases ho
    · simp [hb, ho]
  refine ⟨fun b' => if b' ∈ o.fp then w.heap[b']? else H b', hmono, ?_, fun b hb => by simp [hb], (gm.objs _ hm).mono hmono (fun _ _ => rfl)⟩
  have hsub : ∀ p, p ∈ σ.objs.eraseIdx k → p ∈ σ.objs ∧ ∀ b, b ∈ p.fp → b ∉ o.fp := by
    intro p hp
    obtain ⟨i, hi⟩ := List.mem_iff_getElem?.1 hp
    rw [List.getElem?_eraseIdx] at hi
    split at hi
    · rename_i hik
      exact ⟨List.mem_of_getElem? hi, gm.apart hk hi (by omega)⟩
    · rename_i hik
      exact ⟨List.mem_of_getElem? hi, gm.apart hk hi (by omega)⟩
  refine ⟨gm.defers, gm.size, fun i x h => (gm.slots i x h).mono hmono, fun p hp => (gm.objs p (hsub p hp).1).mono hmono (fun _ _ => rfl), fun p hp b hb => ?_, fun p hp => gm.new p (hsub p hp).1, ?_, ?_, ?_, gm.heap, ?_, gm.env⟩
  · obtain ⟨h1, h2⟩ := hsub p hp
    simp [h2 b hb, gm.free p h1 b hb]
  · exact (sublist_flatMap (List.eraseIdx_sublist σ.objs k)).nodup gm.nodup
  · intro b' x ho
    by_cases hb : b' ∈ o.fp
    · simpa [hb] using ho
    · simp [hb] at ho; exact gm.held _ _ ho
  · intro b' x ho; exact hmono _ _ (gm.grow _ _ ho)
  · intro b' hb' hf
    obtain ⟨h1, h2⟩ := gm.frame b' hb' hf
    refine ⟨h1, ?_⟩
    have : b' ∉ o.fp := fun h => by rcases hnew b' h with h | h; omega; exact hf h
    simp [this, h2]

theorem ArrR.list {H : GH} {w : World} {b tt sz cap : Nat} {es : List (List T)} (h : ArrR H w b tt sz cap es) (hb : H b = w.heap[b]?) {c : Nat} (hc : es.length ≤ c) : VR H (.slice (some ⟨b, 0, none⟩) es.length c) (.list sz es) := by
  obtain ⟨cs, a1, a2, a3, a4, a5, a6⟩ := h
  refine .list b 0 c sz es cs tt (0, 0) (hb.trans a1) hc a4 ?_ a5 (fun i e he j x hx => by simpa using (a6 i e he j x hx).1) (fun i e he j x hx => by simpa using (a6 i e he j x hx).2)
  rw [a2, Nat.zero_add]; exact Nat.mul_le_mul_right _ a3

theorem UsR.list {H : GH} {w : World} {v : Value} {tt sz : Nat} {es : List (List T)} (h : UsR H w v tt sz es) (hb : ∀ b, b ∈ bls v → H b = w.heap[b]?) : VR H v (.list sz es) := by
  rcases h with ⟨rfl, rfl⟩ | ⟨b, c, cap, rfl, p1, p2, p3⟩
  · exact .empty _ _ _
  · exact p3.list (hb b (by simp [bls])) p1

/-- The rows of a slice of slices. -/
def listRows (szi : Nat) (L : List (List (List T))) : List (List T) := L.map fun es => [.list szi es]

theorem UsR.lists {H : GH} {w : World} {v : Value} {ty tyi szi : Nat} {vs : List Value} {L : List (List (List T))} (h : OR H w (.uss v ty tyi szi vs (L.map some))) (hb : ∀ b, b ∈ (Ob.uss v ty tyi szi vs (L.map some)).fp → H b = w.heap[b]?) : VR H v (.list 1 (listRows szi L)) := by
  obtain ⟨h0, h1, h2⟩ := h
  have hlen : vs.length = L.length := by simpa using h0
  rcases h1 with ⟨rfl, h1⟩ | ⟨b, c, cap, rfl, p1, p2, cs, a1, a2, a3, a4, a5, a6⟩
  · have : vs = [] := by simpa using h1
    subst this
    have : L = [] := List.length_eq_zero_iff.1 (by simpa using hlen.symm)
    subst this
    exact .empty _ _ _
  · have hl : (listRows szi L).length = (vs.map fun x => [T.v x]).length := by simp [listRows, hlen]
    rw [← hl]
    have key : ∀ (i : Nat) (e : List T), (listRows szi L)[i]? = some e → ∃ x es, e = [.list szi es] ∧ vs[i]? = some x ∧ VR H x (.list szi es) ∧ cs.getD (i * 1) undef = x ∧ x.oneCell' = true := by
      intro i e he
      simp only [listRows, List.getElem?_map, Option.map_eq_some_iff] at he
      obtain ⟨es, hes, rfl⟩ := he
      have hil := (List.getElem?_eq_some_iff.1 hes).1
      have hx : vs[i]? = some vs[i] := List.getElem?_eq_getElem (by omega)
      have hL : (L.map some)[i]? = some (some es) := by simp [hes]
      have hu := h2 i _ es hx hL
      have h6 := a6 i [T.v vs[i]] (by simp [hx]) 0 (T.v vs[i]) rfl
      simp only [Nat.add_zero] at h6
      refine ⟨_, es, rfl, hx, hu.list (fun b' hb' => hb b' (by simp [Ob.fp, ussIn_mem hx hL b' hb'])), h6.2.v_eq, ?_⟩
      rw [← h6.2.v_eq]; exact h6.1
    refine .list b 0 c 1 (listRows szi L) cs ty (0, 0) ((hb b (by simp [Ob.fp, bls])).trans a1) (by rw [hl]; exact p1) (by rw [hl]; exact a4) ?_ ?_ ?_ ?_
    · rw [a2, Nat.zero_add]; rw [hl]; exact Nat.mul_le_mul_right _ a3
    · intro i e he; obtain ⟨x, es, rfl, _⟩ := key i e he; rfl
    · intro i e he j y hy
      obtain ⟨x, es, rfl, h3, h4, h5, h6⟩ := key i e he
      cases j with
      | zero => simp only [Nat.zero_add, Nat.add_zero]; rw [h5]; exact h6
      | succ j => simp at hy
    · intro i e he j y hy
      obtain ⟨x, es, rfl, h3, h4, h5, h6⟩ := key i e he
      cases j with
      | zero => simp only [Nat.zero_add, Nat.add_zero]; rw [h5]; simp at hy; subst hy; exact h4
      | succ j => simp at hy

/-! ### Calls -/

def ACalls (E : Env) (f : FuncId) (xs : List T) (fp : List Ob) (R : T → List Ob → Prop) : Prop :=
  (∃ fn, E.P.funcs[f]? = some fn ∧ (fn.name == "runtime.NumGoroutine") = false ∧ fn.body.isNone = false) ∧
  ∀ (H : GH) (w : World) (vs : Array Value), vs.size = xs.length → (∀ (i : Nat) (x : T), xs[i]? = some x → VR H (vs.getD i undef) x) → ((∀ b o, H b = some o → w.heap[b]? = some o) ∧ Held H) →
    (∀ p, p ∈ fp → OR H w p ∧ ∀ b, b ∈ p.fp → H b = none) → (fp.flatMap Ob.fp).Nodup →
    Calls E.P f vs w fun e w' => ∃ v x fp' H', e = .returned v ∧ R x fp' ∧ VR H' v x ∧ (∀ b o, H b = some o → H' b = some o) ∧ (∀ b o, H' b = some o → w'.heap[b]? = some o) ∧
      (∀ p, p ∈ fp' → OR H' w' p ∧ ∀ b, b ∈ p.fp → H' b = none ∧ (w.heap.size ≤ b ∨ b ∈ fp.flatMap Ob.fp)) ∧ (fp'.flatMap Ob.fp).Nodup ∧ w.heap.size ≤ w'.heap.size ∧
      (w'.os = w.os ∧ w'.tape = w.tape ∧ w'.output = w.output) ∧ ∀ b, b < w.heap.size → b ∉ fp.flatMap Ob.fp → w'.heap[b]? = w.heap[b]? ∧ H' b = H b

theorem ACalls.mono {f : FuncId} {xs : List T} {fp : List Ob} {R R' : T → List Ob → Prop} (h : ACalls E f xs fp R) (hr : ∀ x fp', R x fp' → R' x fp') : ACalls E f xs fp R' :=
  ⟨h.1, fun H w vs h1 h2 h3 h4 h5 => (h.2 H w vs h1 h2 h3 h4 h5).mono fun e w' ⟨v, x, fp', H', q1, q2, q⟩ => ⟨v, x, fp', H', q1, hr _ _ q2, q⟩⟩

def evalL (s : Slots) : List Operand → Option (List T)
  | [] => some []
  | x :: l => match evalT s x, evalL s l with
    | some y, some ys => some (y :: ys)
    | _, _ => none

theorem evalL_spec {s : Slots} {H : GH} {a : Act} (r : SR n s H a) : ∀ {l : List Operand} {ys : List T}, evalL s l = some ys → (l.map a.eval).length = ys.length ∧ ∀ (i : Nat) (y : T), ys[i]? = some y → VR H ((l.map a.eval).getD i undef) y
  | [], ys, h => by simp only [evalL, Option.some.injEq] at h; subst h; simp
  | x :: l, ys, h => by
    simp only [evalL] at h
    split at h
    · rename_i y ys' h1 h2
      simp only [Option.some.injEq] at h
      subst h
      obtain ⟨k1, k2⟩ := evalL_spec r h2
      refine ⟨by simpa using k1, fun i z hz => ?_⟩
      cases i with
      | zero => simp at hz; subst hz; simpa using r.eval h1
      | succ i =>
        simp only [List.getElem?_cons_succ] at hz
        simpa using k2 i z hz
    · simp at h

theorem VR.v_list {H : GH} (l : List Value) : ∀ (i : Nat) (y : T), (l.map T.v)[i]? = some y → VR H (l.getD i undef) y := by
  intro i y h
  simp only [List.getElem?_map, Option.map_eq_some_iff] at h
  obtain ⟨v, hv, rfl⟩ := h
  simp [List.getD, hv]
  exact .v v

theorem VR.app {H : GH} {l1 l2 : List Value} {y1 y2 : List T} (hl : l1.length = y1.length) (h1 : ∀ (i : Nat) (y : T), y1[i]? = some y → VR H (l1.getD i undef) y) (h2 : ∀ (i : Nat) (y : T), y2[i]? = some y → VR H (l2.getD i undef) y) :
    ∀ (i : Nat) (y : T), (y1 ++ y2)[i]? = some y → VR H ((l1 ++ l2).getD i undef) y := by
  intro i y h
  rw [List.getElem?_append] at h
  split at h
  · rename_i hi
    have := h1 i y h
    simpa [List.getD, List.getElem?_append, hl, hi] using this
  · rename_i hi
    have := h2 _ y h
    simpa [List.getD, List.getElem?_append, hl, hi] using this

/-- What a call does to the caller's state: the objects that it got are replaced by those that it leaves. -/
theorem Gam.called {H H' : GH} {a : Act} {w w' : World} (gm : Gam n C σ H a w) {fp fp' objs : List Ob} (hfp : ∀ p, p ∈ fp → p ∈ σ.objs)
    (hH : ∀ b o, H b = some o → H' b = some o) (hheld : ∀ b o, H' b = some o → w'.heap[b]? = some o)
    (hfp' : ∀ p, p ∈ fp' → OR H' w' p ∧ ∀ b, b ∈ p.fp → H' b = none ∧ (w.heap.size ≤ b ∨ b ∈ fp.flatMap Ob.fp)) (hsz : w.heap.size ≤ w'.heap.size) (henv : w'.os = w.os ∧ w'.tape = w.tape ∧ w'.output = w.output)
    (hfr : ∀ b, b < w.heap.size → b ∉ fp.flatMap Ob.fp → w'.heap[b]? = w.heap[b]? ∧ H' b = H b)
    (hobjs : ∀ p, p ∈ objs → p ∈ fp' ∨ (p ∈ σ.objs ∧ ∀ b, b ∈ p.fp → b ∉ fp.flatMap Ob.fp)) (hnd : (objs.flatMap Ob.fp).Nodup) : Gam n C ⟨σ.slots, objs⟩ H' a w' := by
  have hold : ∀ p, p ∈ σ.objs → (∀ b, b ∈ p.fp → b ∉ fp.flatMap Ob.fp) → ∀ b, b ∈ p.fp → w'.heap[b]? = w.heap[b]? ∧ H' b = H b := fun p hp hn b hb => hfr b ((gm.objs p hp).lt b hb) (hn b hb)
  refine ⟨gm.defers, gm.size, fun i x h => (gm.slots i x h).mono hH, ?_, ?_, ?_, hnd, hheld, fun b o h => hH _ _ (gm.grow _ _ h), Nat.le_trans gm.heap hsz, ?_, ⟨henv.1.trans gm.env.1, henv.2.1.trans gm.env.2.1, henv.2.2.trans gm.env.2.2⟩⟩
  · intro p hp
    rcases hobjs p hp with h | ⟨h, hn⟩
    · exact (hfp' p h).1
    · exact (gm.objs p h).mono hH (fun b hb => (hold p h hn b hb).1)
  · intro p hp b hb
    rcases hobjs p hp with h | ⟨h, hn⟩
    · exact ((hfp' p h).2 b hb).1
    · rw [(hold p h hn b hb).2]; exact gm.free p h b hb
  · intro p hp b hb
    rcases hobjs p hp with h | ⟨h, hn⟩
    · rcases ((hfp' p h).2 b hb).2 with h | h
      · exact .inl (Nat.le_trans gm.heap h)
      · obtain ⟨q, hq, he⟩ := List.mem_flatMap.1 h
        exact gm.new q (hfp q hq) b he
    · exact gm.new p h b hb
  · intro b hb hf
    have hbn : b ∉ fp.flatMap Ob.fp := fun h => by
      obtain ⟨q, hq, he⟩ := List.mem_flatMap.1 h
      rcases gm.new q (hfp q hq) b he with h | h
      · omega
      · exact hf h
    obtain ⟨h1, h2⟩ := hfr b (Nat.lt_of_lt_of_le hb gm.heap) hbn
    obtain ⟨h3, h4⟩ := gm.frame b hb hf
    exact ⟨h1.trans h3, h2.trans h4⟩

/-- Objects at places. -/
def pickAll (objs : List Ob) : List Nat → Option (List Ob)
  | [] => some []
  | k :: ks => match objs[k]?, pickAll objs ks with
    | some o, some l => some (o :: l)
    | _, _ => none

def setAll (objs : List Ob) : List Nat → List Ob → List Ob
  | k :: ks, o :: os => setAll (objs.set k o) ks os
  | _, _ => objs

theorem pickAll_mem {objs : List Ob} : ∀ {ks : List Nat} {fp : List Ob}, pickAll objs ks = some fp → fp.length = ks.length ∧ (∀ (i : Nat) (k : Nat), ks[i]? = some k → ∃ o, objs[k]? = some o ∧ fp[i]? = some o)
  | [], fp, h => by simp only [pickAll, Option.some.injEq] at h; subst h; simp
  | k :: ks, fp, h => by
    simp only [pickAll] at h
    split at h
    · rename_i o l h1 h2
      simp only [Option.some.injEq] at h
      subst h
      obtain ⟨q1, q2⟩ := pickAll_mem h2
      refine ⟨by simp [q1], fun i k' hk => ?_⟩
      cases i with
      | zero => simp at hk; subst hk; exact ⟨o, h1, rfl⟩
      | succ i => simpa using q2 i k' (by simpa using hk)
    · cases h

theorem setAll_spec : ∀ {ks : List Nat} {os : List Ob} (objs : List Ob), os.length = ks.length → ks.Nodup → (∀ k, k ∈ ks → k < objs.length) →
    (setAll objs ks os).length = objs.length ∧ (∀ (i : Nat) (k : Nat), ks[i]? = some k → (setAll objs ks os)[k]? = os[i]?) ∧ ∀ k, k ∉ ks → (setAll objs ks os)[k]? = objs[k]?
  | [], os, objs, h, _, _ => by simp [setAll]
  | k :: ks, [], objs, h, _, _ => by simp at h
  | k :: ks, o :: os, objs, h, hn, hl => by
    rw [List.nodup_cons] at hn
    obtain ⟨q1, q2, q3⟩ := setAll_spec (ks := ks) (os := os) (objs.set k o) (by simpa using h) hn.2 (fun k' hk' => by simpa using hl k' (by simp [hk']))
    simp only [setAll]
    refine ⟨by simpa using q1, fun i k' hk' => ?_, fun k' hk' => ?_⟩
    · cases i with
      | zero =>
        simp at hk'; subst hk'
        rw [q3 k hn.1, List.getElem?_set_self (hl k (by simp))]; rfl
      | succ i => simpa using q2 i k' (by simpa using hk')
    · simp only [List.mem_cons, not_or] at hk'
      rw [q3 k' hk'.2, List.getElem?_set_ne (Ne.symm hk'.1)]

/-- No block twice, said with places. -/
theorem nodup_places {l : List Ob} : (l.flatMap Ob.fp).Nodup ↔ (∀ (i : Nat) (p : Ob), l[i]? = some p → p.fp.Nodup) ∧ ∀ (i j : Nat) (p q : Ob), l[i]? = some p → l[j]? = some q → i ≠ j → ∀ b, b ∈ p.fp → b ∉ q.fp := by
  constructor
  · intro h
    refine ⟨fun i p hi => ?_, fun i j p q hi hj hne b hb => at_ne h hi hj hne b hb⟩
    obtain ⟨l1, l2, rfl, _⟩ := at_split hi
    rw [List.flatMap_append, List.flatMap_cons, List.nodup_append, List.nodup_append] at h
    exact h.2.1.1
  · rintro ⟨h1, h2⟩
    induction l with
    | nil => simp
    | cons a l ih =>
      rw [List.flatMap_cons, List.nodup_append]
      refine ⟨h1 0 a rfl, ih (fun i p hi => h1 (i + 1) p (by simpa using hi)) (fun i j p q hi hj hne b hb => h2 (i + 1) (j + 1) p q (by simpa using hi) (by simpa using hj) (by omega) b hb), ?_⟩
      intro x hx y hy hxy
      subst hxy
      obtain ⟨q, hq, hb⟩ := List.mem_flatMap.1 hy
      obtain ⟨j, hj⟩ := List.mem_iff_getElem?.1 hq
      exact h2 0 (j + 1) a q rfl (by simpa using hj) (by omega) x hx hb

/-- A function value: the function, what is bound ahead of the arguments and behind them. -/
def fnT : T → Option (FuncId × List T × List T)
  | .v (.func (.func f) first captured) => some (f, first.toList.map T.v, captured.toList.map T.v)
  | .fn f first caps => some (f, first, caps)
  | _ => none

theorem fnT_spec {H : GH} {v : Value} {y : T} {f : FuncId} {pre suf : List T} (h : VR H v y) (hf : fnT y = some (f, pre, suf)) :
    ∃ vf vc : Array Value, v = .func (.func f) vf vc ∧ vf.size = pre.length ∧ vc.size = suf.length ∧ (∀ (i : Nat) (x : T), pre[i]? = some x → VR H (vf.toList.getD i undef) x) ∧
      (∀ (i : Nat) (x : T), suf[i]? = some x → VR H (vc.toList.getD i undef) x) := by
  have conv : ∀ (arr : Array Value) (i : Nat), arr.getD i undef = arr.toList.getD i undef := fun arr i => by
    simp [Array.getD_eq_getD_getElem?, List.getD]
  cases h with
  | v x =>
    unfold fnT at hf
    split at hf
    · rename_i f' first captured he
      simp only [Option.some.injEq, Prod.mk.injEq] at hf
      obtain ⟨rfl, rfl, rfl⟩ := hf
      cases he
      exact ⟨first, captured, rfl, by simp, by simp, VR.v_list first.toList, VR.v_list captured.toList⟩
    · rename_i he; cases he
    · simp at hf
  | fn f' vf vc fs cs h1 h2 h3 h4 =>
    simp only [fnT, Option.some.injEq, Prod.mk.injEq] at hf
    obtain ⟨rfl, rfl, rfl⟩ := hf
    exact ⟨vf, vc, rfl, h1, h2, fun i x hx => by rw [← conv]; exact h3 i x hx, fun i x hx => by rw [← conv]; exact h4 i x hx⟩
  | _ => simp [fnT] at hf

theorem AX.call {md : List Nat} {c : Operand} {args : Array Operand} {tys : Array TypeId} {f : FuncId} {pre suf xs ys : List T} {fp : List Ob} {Rc : T → List Ob → Prop} {R : St → Prop}
    (hc : (evalT σ.slots c).bind fnT = some (f, pre, suf)) (hx : evalL σ.slots args.toList = some xs) (hys : pre ++ xs ++ suf = ys)
    (h : ACalls E f ys fp Rc) (hfp : ∀ p, p ∈ fp → p ∈ σ.objs) (hnd : (fp.flatMap Ob.fp).Nodup) (hd : ∀ d, dst = some d → d < n)
    (k : ∀ H a w H' w' v x fp', Gam n C σ H a w → Rc x fp' → VR H' v x → (∀ b o, H b = some o → H' b = some o) → (∀ b o, H' b = some o → w'.heap[b]? = some o) →
      (∀ p, p ∈ fp' → OR H' w' p ∧ ∀ b, b ∈ p.fp → H' b = none ∧ (w.heap.size ≤ b ∨ b ∈ fp.flatMap Ob.fp)) → (fp'.flatMap Ob.fp).Nodup → w.heap.size ≤ w'.heap.size → (w'.os = w.os ∧ w'.tape = w.tape ∧ w'.output = w.output) →
      (∀ b, b < w.heap.size → b ∉ fp.flatMap Ob.fp → w'.heap[b]? = w.heap[b]? ∧ H' b = H b) →
      ∃ objs, R ⟨putS σ.slots dst x, objs⟩ ∧ Gam n C ⟨σ.slots, objs⟩ H' a w' ∧ ∀ i p, σ.objs[i]? = some p → md.contains i = false → objs[i]? = some p ∧ ∀ b, b ∈ p.fp → w'.heap[b]? = w.heap[b]?) :
    AX E n C md ⟨dst, .call { callee := .value c, args := args, argTypes := tys }, ty, pos, aft, g⟩ σ R := by
  intro H a w gm
  subst hys
  obtain ⟨⟨fn, f1, f2, f3⟩, h⟩ := h
  obtain ⟨k1, k2⟩ := evalL_spec gm.sr hx
  obtain ⟨y, hy, hfn⟩ := Option.bind_eq_some_iff.1 hc
  obtain ⟨first, captured, hev, z1, z2, z3, z4⟩ := fnT_spec (gm.sr.eval hy) hfn
  have hrun : (execOp a.eval ⟨dst, .call { callee := .value c, args := args, argTypes := tys }, ty, pos, aft, g⟩).run E.P w = .ok (.enter f (first ++ args.map a.eval ++ captured)) w := by
    have f2' : ¬ fn.name = "runtime.NumGoroutine" := by simpa using f2
    have f3' : ¬ fn.body = none := by
      intro hb; rw [hb] at f3; simp at f3
    simp [execOp, resolve, hev, Deferred.ofValue, invoke, callFunc, f1, f2', f3']
  simp only [Oper.wp, hrun, Oper.upon]
  have hl : (first ++ args.map a.eval ++ captured).toList = first.toList ++ args.toList.map a.eval ++ captured.toList := by simp
  refine (h H w (first ++ args.map a.eval ++ captured) ?_ ?_ ⟨gm.held, fun b l h => (C.hg b l h).mono gm.grow⟩ (fun p hp => ⟨gm.objs p (hfp p hp), gm.free p (hfp p hp)⟩) hnd).mono ?_
  · rw [← Array.length_toList, hl]; simp at k1 ⊢; omega
  · intro i x hix
    rw [Array.getD_eq_getD_getElem?, ← Array.getElem?_toList, hl]
    have := VR.app (H := H) (by simp at k1 ⊢; omega) (VR.app (H := H) (by simp; omega) z3 k2) z4 i x hix
    simpa [List.getD] using this
  · rintro e w' ⟨v, x, fp', H', rfl, q2, q3, q4, q5, q6, q7, q8, q10, q9⟩
    obtain ⟨objs, r1, r2, r3⟩ := k H a w H' w' v x fp' gm q2 q3 q4 q5 q6 q7 q8 q10 q9
    refine ⟨_, H', v, r1, ?_, rfl, q4, r3⟩
    have := r2.put (dst := dst) q3 hd
    cases dst <;> exact this

/-- A call that gets the objects at the places ks, leaves others at these places, and makes new ones. -/
theorem AX.callG (ks : List Nat) {c : Operand} {args : Array Operand} {tys : Array TypeId} {f : FuncId} {pre suf xs ys : List T} {fp : List Ob} {Rc : T → List Ob → List Ob → Prop} {R : St → Prop}
    (hc : (evalT σ.slots c).bind fnT = some (f, pre, suf)) (hx : evalL σ.slots args.toList = some xs) (hys : pre ++ xs ++ suf = ys)
    (hk : pickAll σ.objs ks = some fp) (hkn : ks.Nodup) (h : ACalls E f ys fp (fun x fp' => ∃ os new, fp' = os ++ new ∧ os.length = fp.length ∧ Rc x os new)) (hd : ∀ d, dst = some d → d < n)
    (k : ∀ x os new, os.length = fp.length → Rc x os new → R ⟨putS σ.slots dst x, setAll σ.objs ks os ++ new⟩) :
    AX E n C ks ⟨dst, .call { callee := .value c, args := args, argTypes := tys }, ty, pos, aft, g⟩ σ R := by
  obtain ⟨p1, p2⟩ := pickAll_mem hk
  have hmem : ∀ p, p ∈ fp → ∃ (i k : Nat), fp[i]? = some p ∧ ks[i]? = some k ∧ σ.objs[k]? = some p := by
    intro p hp
    obtain ⟨i, hi⟩ := List.mem_iff_getElem?.1 hp
    have hil := (List.getElem?_eq_some_iff.1 hi).1
    obtain ⟨o, h1, h2⟩ := p2 i ks[i] (List.getElem?_eq_getElem (by omega))
    rw [hi] at h2
    cases h2
    exact ⟨i, ks[i], hi, List.getElem?_eq_getElem (by omega), h1⟩
  have hfpm : ∀ p, p ∈ fp → p ∈ σ.objs := fun p hp => by obtain ⟨i, k, _, _, h⟩ := hmem p hp; exact List.mem_of_getElem? h
  refine fun H a w gm => AX.call (md := ks) hc hx hys h hfpm ?_ hd ?_ H a w gm
  · refine nodup_places.2 ⟨fun i p hi => ?_, fun i j p q hi hj hne b hb => ?_⟩
    · obtain ⟨_, k, _, _, hk⟩ := hmem p (List.mem_of_getElem? hi)
      exact (nodup_places.1 gm.nodup).1 k p hk
    · have hil := (List.getElem?_eq_some_iff.1 hi).1
      have hjl := (List.getElem?_eq_some_iff.1 hj).1
      obtain ⟨o, h1, h2⟩ := p2 i ks[i] (List.getElem?_eq_getElem (by omega))
      obtain ⟨o', h1', h2'⟩ := p2 j ks[j] (List.getElem?_eq_getElem (by omega))
      rw [hi] at h2; cases h2
      rw [hj] at h2'; cases h2'
      refine at_ne gm.nodup h1 h1' (fun he => hne ?_) b hb
      exact (List.getElem?_inj (by omega) hkn).1 (by rw [List.getElem?_eq_getElem (by omega), List.getElem?_eq_getElem (by omega), he])
  · rintro H a w H' w' v x fp' gm ⟨os, new, rfl, hol, q2⟩ q3 q4 q5 q6 q7 q8 q10 q9
    have hlt : ∀ k, k ∈ ks → k < σ.objs.length := by
      intro k hk
      obtain ⟨i, hi⟩ := List.mem_iff_getElem?.1 hk
      obtain ⟨o, h1, _⟩ := p2 i k hi
      exact (List.getElem?_eq_some_iff.1 h1).1
    obtain ⟨s1, s2, s3⟩ := setAll_spec (ks := ks) (os := os) σ.objs (by omega) hkn hlt
    have hkeep : ∀ (i : Nat) (p : Ob), σ.objs[i]? = some p → i ∉ ks → ∀ b, b ∈ p.fp → b ∉ fp.flatMap Ob.fp := by
      intro i p hi hn b hb hm
      obtain ⟨q, hq, hbq⟩ := List.mem_flatMap.1 hm
      obtain ⟨j, k, _, h2, h3⟩ := hmem q hq
      exact at_ne gm.nodup hi h3 (fun he => hn (by rw [he]; exact List.mem_of_getElem? h2)) b hb hbq
    have hcase : ∀ (i : Nat) (p : Ob), (setAll σ.objs ks os ++ new)[i]? = some p → (∃ m : Nat, (os ++ new)[m]? = some p ∧ ((i < σ.objs.length ∧ ks[m]? = some i) ∨ (σ.objs.length ≤ i ∧ m = os.length + (i - σ.objs.length)))) ∨ (i ∉ ks ∧ σ.objs[i]? = some p) := by
      intro i p hi
      rw [List.getElem?_append] at hi
      split at hi
      · rename_i hil
        by_cases hki : i ∈ ks
        · obtain ⟨m, hm⟩ := List.mem_iff_getElem?.1 hki
          rw [s2 m i hm] at hi
          exact .inl ⟨m, by rw [List.getElem?_append_left (List.getElem?_eq_some_iff.1 hi).1]; exact hi, .inl ⟨by omega, hm⟩⟩
        · rw [s3 i hki] at hi
          exact .inr ⟨hki, hi⟩
      · rename_i hil
        refine .inl ⟨os.length + (i - σ.objs.length), ?_, .inr ⟨by omega, rfl⟩⟩
        rw [List.getElem?_append_right (by omega), Nat.add_sub_cancel_left, ← s1]; exact hi
    have hnd := nodup_places.1 q7
    have hnd0 := nodup_places.1 gm.nodup
    have hout : ∀ (i : Nat) (p : Ob), σ.objs[i]? = some p → i ∉ ks → ∀ q, q ∈ os ++ new → ∀ b, b ∈ q.fp → b ∉ p.fp := by
      intro i p hi hn q hq b hb hbp
      rcases ((q6 q hq).2 b hb).2 with h | h
      · have := (gm.objs p (List.mem_of_getElem? hi)).lt b hbp; omega
      · exact hkeep i p hi hn b hbp h
    refine ⟨setAll σ.objs ks os ++ new, k x os new hol q2, gm.called hfpm q4 q5 q6 q8 q10 q9 ?_ ?_, ?_⟩
    · intro p hp
      obtain ⟨i, hi⟩ := List.mem_iff_getElem?.1 hp
      rcases hcase i p hi with ⟨m, hm, _⟩ | ⟨hn, hi'⟩
      · exact .inl (List.mem_of_getElem? hm)
      · exact .inr ⟨List.mem_of_getElem? hi', hkeep i p hi' hn⟩
    · refine nodup_places.2 ⟨fun i p hi => ?_, fun i j p q hi hj hne b hb => ?_⟩
      · rcases hcase i p hi with ⟨m, hm, _⟩ | ⟨hn, hi'⟩
        · exact hnd.1 m p hm
        · exact hnd0.1 i p hi'
      · rcases hcase i p hi with ⟨m, hm, hm'⟩ | ⟨hn, hi'⟩ <;> rcases hcase j q hj with ⟨m2, hm2, hm2'⟩ | ⟨hn2, hj'⟩
        · refine hnd.2 m m2 p q hm hm2 (fun he => ?_) b hb
          subst he
          rcases hm' with ⟨h1, h2⟩ | ⟨h1, h2⟩ <;> rcases hm2' with ⟨h3, h4⟩ | ⟨h3, h4⟩
          · rw [h2] at h4; cases h4; exact hne rfl
          · have := (List.getElem?_eq_some_iff.1 h2).1; omega
          · have := (List.getElem?_eq_some_iff.1 h4).1; omega
          · omega
        · exact hout j q hj' hn2 p (List.mem_of_getElem? hm) b hb
        · exact fun hbq => hout i p hi' hn q (List.mem_of_getElem? hm2) b hbq hb
        · exact hnd0.2 i j p q hi' hj' hne b hb
    · intro i p hp hm
      have hn : i ∉ ks := by simpa using hm
      refine ⟨?_, fun b hb => (q9 b ((gm.objs p (List.mem_of_getElem? hp)).lt b hb) (hkeep i p hp hn b hb)).1⟩
      have hil := (List.getElem?_eq_some_iff.1 hp).1
      rw [List.getElem?_append_left (by rw [s1]; exact hil), s3 i hn]; exact hp

/-- A call that gets no object, and makes new ones. -/
theorem AX.call0 {c : Operand} {args : Array Operand} {tys : Array TypeId} {f : FuncId} {pre suf xs ys : List T} {Rc : T → List Ob → Prop} {R : St → Prop}
    (hc : (evalT σ.slots c).bind fnT = some (f, pre, suf)) (hx : evalL σ.slots args.toList = some xs) (hys : pre ++ xs ++ suf = ys)
    (h : ACalls E f ys [] Rc) (hd : ∀ d, dst = some d → d < n) (k : ∀ x new, Rc x new → R ⟨putS σ.slots dst x, σ.objs ++ new⟩) :
    AX E n C [] ⟨dst, .call { callee := .value c, args := args, argTypes := tys }, ty, pos, aft, g⟩ σ R :=
  AX.callG [] hc hx hys (Rc := fun x _ new => Rc x new) rfl (by simp) (h.mono fun x fp' hr => ⟨[], fp', rfl, rfl, hr⟩) hd (fun x os new hl hr => by
    have : os = [] := List.length_eq_zero_iff.1 (by simpa using hl)
    subst this
    exact k x new hr)

/-! ### Lending -/

mutual
/-- What is of the call's own, read as what nobody writes. -/
inductive Lend (objs : List Ob) : T → T → Prop
  | refl (x : T) : Lend objs x x
  | nil (sz : Nat) : Lend objs (.v (.slice none 0 0)) (.list sz [])
  | us (k : Nat) {v : Value} {ty sz : Nat} {es : List (List T)} (h : objs[k]? = some (.us v ty sz es)) : Lend objs (.v v) (.list sz es)
  | uss (k : Nat) {v : Value} {ty tyi szi : Nat} {vs : List Value} {L : List (List (List T))} {es : List (List T)} (h : objs[k]? = some (.uss v ty tyi szi vs (L.map some))) (he : listRows szi L = es) : Lend objs (.v v) (.list 1 es)
  | box (k : Nat) {b ty sz : Nat} {e e' : List T} (h : objs[k]? = some (.arr b ty sz 1 [e])) (hl : LendL objs e e') : Lend objs (.v (.pointer (some ⟨b, 0, none⟩))) (.eptr e')
  | agg {cs cs' : List T} (hl : LendL objs cs cs') : Lend objs (.agg cs) (.agg cs')
  | fn {f : FuncId} {a a' c c' : List T} (h1 : LendL objs a a') (h2 : LendL objs c c') : Lend objs (.fn f a c) (.fn f a' c')
inductive LendL (objs : List Ob) : List T → List T → Prop
  | nil : LendL objs [] []
  | cons {x y : T} {l m : List T} (h : Lend objs x y) (t : LendL objs l m) : LendL objs (x :: l) (y :: m)
  | rest (l : List T) : LendL objs l l
end

theorem LendL.length {objs : List Ob} : ∀ {l m : List T}, LendL objs l m → l.length = m.length
  | _, _, .nil => rfl
  | _, _, .cons _ t => by simp [t.length]
  | _, _, .rest _ => rfl

theorem LendL.get {objs : List Ob} : ∀ {l m : List T}, LendL objs l m → ∀ (i : Nat) (y : T), m[i]? = some y → ∃ x, l[i]? = some x ∧ Lend objs x y
  | _, _, .nil, i, y, h => by simp at h
  | _, _, .cons h t, 0, y, hy => by simp at hy; subst hy; exact ⟨_, rfl, h⟩
  | _, _, .cons h t, i + 1, y, hy => by simpa using t.get i y (by simpa using hy)
  | _, _, .rest _, i, y, hy => ⟨y, hy, .refl y⟩

/-- Whether a value has no reference. -/
def flatT : T → Bool
  | .v _ => true
  | .tup l => flatL l
  | .agg l => flatL l
  | _ => false
where flatL : List T → Bool
  | [] => true
  | x :: l => flatT x && flatL l

theorem flatL_get : ∀ {l : List T}, flatT.flatL l = true → ∀ (i : Nat) (x : T), l[i]? = some x → flatT x = true
  | [], _, i, x, h => by simp at h
  | y :: l, hl, 0, x, h => by simp at h; subst h; simp only [flatT.flatL, Bool.and_eq_true] at hl; exact hl.1
  | y :: l, hl, i + 1, x, h => by simp only [flatT.flatL, Bool.and_eq_true] at hl; exact flatL_get hl.2 i x (by simpa using h)

theorem VR.flat {H H' : GH} {v : Value} {x : T} (h : VR H v x) : flatT x = true → VR H' v x := by
  induction h with
  | v x => exact fun _ => .v x
  | empty a cap sz => intro h; simp [flatT] at h
  | list => intro h; simp [flatT] at h
  | agg vs cs hl h1 hv ih => exact fun h => .agg vs cs hl h1 (fun j x hx => ih j x hx (flatL_get (by simpa [flatT] using h) j x hx))
  | tup vs cs hl hv ih => exact fun h => .tup vs cs hl (fun j x hx => ih j x hx (flatL_get (by simpa [flatT] using h) j x hx))
  | eptr => intro h; simp [flatT] at h
  | fn => intro h; simp [flatT] at h

mutual
theorem Lend.vr {H H1 : GH} {w : World} {objs : List Ob} (ho : ∀ p, p ∈ objs → OR H1 w p) (hb : ∀ p, p ∈ objs → ∀ b, b ∈ p.fp → H1 b = w.heap[b]?) (hm : ∀ b o, H b = some o → H1 b = some o) {x y : T} : Lend objs x y → ∀ {v : Value}, VR H v x → VR H1 v y
  | .refl _, v, h => h.mono hm
  | .nil sz, v, h => by rw [h.v_eq]; exact .empty _ _ _
  | .us k hk, v, h => by
    rw [h.v_eq]
    have hp := List.mem_of_getElem? hk
    exact UsR.list (ho _ hp) (hb _ hp)
  | .uss k hk he, v, h => by
    rw [h.v_eq]
    subst he
    have hp := List.mem_of_getElem? hk
    exact UsR.lists (ho _ hp) (hb _ hp)
  | .box k hk hl, v, h => by
    rw [h.v_eq]
    have hp := List.mem_of_getElem? hk
    obtain ⟨cs, a1, a2, a3, a4, a5, a6⟩ : ArrR H1 w _ _ _ _ _ := ho _ hp
    have h5 := a5 0 _ rfl
    refine .eptr _ 0 _ cs _ _ ((hb _ hp _ (by simp [Ob.fp])).trans a1) ?_ (fun j z hz => ?_) (fun j z hz => ?_)
    · rw [← hl.length, h5, a2]; omega
    · obtain ⟨z', hz', _⟩ := hl.get j z hz
      have := (a6 0 _ rfl j z' hz').1
      simpa using this
    · exact LendL.vr ho hb (fun _ _ h => h) hl j z hz (fun z' hz' => by have := (a6 0 _ rfl j z' hz').2; simpa using this)
  | .agg hl, v, h => by
    cases h with
    | agg vs cs hsz h1 hv =>
      refine .agg vs _ (hsz.trans hl.length) (fun j z hz => ?_) (fun j z hz => LendL.vr ho hb hm hl j z hz (fun z' hz' => hv j z' hz'))
      obtain ⟨z', hz', _⟩ := hl.get j z hz
      exact h1 j z' hz'
  | .fn ha hc, v, h => by
    cases h with
    | fn f vf vc fs cs h1 h2 h3 h4 =>
      exact .fn _ vf vc _ _ (h1.trans ha.length) (h2.trans hc.length) (fun j z hz => LendL.vr ho hb hm ha j z hz (fun z' hz' => h3 j z' hz')) (fun j z hz => LendL.vr ho hb hm hc j z hz (fun z' hz' => h4 j z' hz'))
theorem LendL.vr {H H1 : GH} {w : World} {objs : List Ob} (ho : ∀ p, p ∈ objs → OR H1 w p) (hb : ∀ p, p ∈ objs → ∀ b, b ∈ p.fp → H1 b = w.heap[b]?) (hm : ∀ b o, H b = some o → H1 b = some o) {l m : List T} : LendL objs l m →
    ∀ (j : Nat) (y : T), m[j]? = some y → ∀ {v : Value}, (∀ x, l[j]? = some x → VR H v x) → VR H1 v y
  | .nil, j, y, h, v, _ => by simp at h
  | .cons h t, 0, y, hy, v, hv => by simp at hy; subst hy; exact Lend.vr ho hb hm h (hv _ rfl)
  | .cons h t, j + 1, y, hy, v, hv => LendL.vr ho hb hm t j y (by simpa using hy) (fun x hx => hv x (by simpa using hx))
  | .rest _, j, y, hy, v, hv => (hv y hy).mono hm
end

/-- A call that gets no object, may read all of the call's own, and answers without references. -/
theorem AX.callL {c : Operand} {args : Array Operand} {tys : Array TypeId} {f : FuncId} {xs xs' pre' suf' ys : List T} {y y' : T} {Rc : T → List Ob → Prop} {R : St → Prop}
    (hc : evalT σ.slots c = some y) (hy : Lend σ.objs y y') (hf : fnT y' = some (f, pre', suf')) (hx : evalL σ.slots args.toList = some xs) (hl : LendL σ.objs xs xs') (hys : pre' ++ xs' ++ suf' = ys)
    (h : ACalls E f ys [] Rc) (hd : ∀ d, dst = some d → d < n) (hflat : ∀ x new, Rc x new → flatT x = true) (k : ∀ x, (∃ new, Rc x new) → R ⟨putS σ.slots dst x, σ.objs⟩) :
    AX E n C [] ⟨dst, .call { callee := .value c, args := args, argTypes := tys }, ty, pos, aft, g⟩ σ R := by
  intro H a w gm
  subst hys
  obtain ⟨⟨fn, f1, f2, f3⟩, h⟩ := h
  obtain ⟨k1, k2⟩ := evalL_spec gm.sr hx
  have hown : ∀ b o, H b = some o → b ∉ σ.objs.flatMap Ob.fp := fun b o hb hm => by
    obtain ⟨p, hp, hbp⟩ := List.mem_flatMap.1 hm
    rw [gm.free p hp b hbp] at hb; cases hb
  obtain ⟨H1, hH1⟩ : ∃ H1 : GH, H1 = fun b => if b ∈ σ.objs.flatMap Ob.fp then w.heap[b]? else H b := ⟨_, rfl⟩
  have hm1 : ∀ b o, H b = some o → H1 b = some o := fun b o hb => by rw [hH1]; simp only [hown b o hb, if_false]; exact hb
  have ho1 : ∀ p, p ∈ σ.objs → OR H1 w p := fun p hp => (gm.objs p hp).mono hm1 (fun _ _ => rfl)
  have hb1 : ∀ p, p ∈ σ.objs → ∀ b, b ∈ p.fp → H1 b = w.heap[b]? := fun p hp b hb => by
    rw [hH1]; simp only [List.mem_flatMap.2 ⟨p, hp, hb⟩, if_true]
  have hheld1 : ∀ b o, H1 b = some o → w.heap[b]? = some o := fun b o hb => by
    rw [hH1] at hb
    dsimp only at hb
    split at hb
    · exact hb
    · exact gm.held b o hb
  have hvy := Lend.vr ho1 hb1 hm1 hy (gm.sr.eval hc)
  obtain ⟨first, captured, hev, z1, z2, z3, z4⟩ := fnT_spec hvy hf
  have hrun : (execOp a.eval ⟨dst, .call { callee := .value c, args := args, argTypes := tys }, ty, pos, aft, g⟩).run E.P w = .ok (.enter f (first ++ args.map a.eval ++ captured)) w := by
    have f2' : ¬ fn.name = "runtime.NumGoroutine" := by simpa using f2
    have f3' : ¬ fn.body = none := by
      intro hb; rw [hb] at f3; simp at f3
    simp [execOp, resolve, hev, Deferred.ofValue, invoke, callFunc, f1, f2', f3']
  simp only [Oper.wp, hrun, Oper.upon]
  have hxl : xs.length = xs'.length := hl.length
  have hlist : (first ++ args.map a.eval ++ captured).toList = first.toList ++ args.toList.map a.eval ++ captured.toList := by simp
  refine (h H1 w (first ++ args.map a.eval ++ captured) ?_ ?_ ⟨hheld1, fun b l h => (C.hg b l h).mono fun b o hb => hm1 b o (gm.grow b o hb)⟩ (by simp) (by simp)).mono ?_
  · rw [← Array.length_toList, hlist]; simp at k1 ⊢; omega
  · intro i x hix
    rw [Array.getD_eq_getD_getElem?, ← Array.getElem?_toList, hlist]
    have hxs : ∀ (i : Nat) (y : T), xs'[i]? = some y → VR H1 ((args.toList.map a.eval).getD i undef) y := fun i y hy => LendL.vr ho1 hb1 hm1 hl i y hy (fun x hx => k2 i x hx)
    have := VR.app (H := H1) (by simp at k1 ⊢; omega) (VR.app (H := H1) (by simp; omega) z3 hxs) z4 i x hix
    simpa [List.getD] using this
  · rintro e w' ⟨v, x, fp', H', rfl, q2, q3, q4, q5, q6, q7, q8, q10, q9⟩
    have q9' : ∀ b, b < w.heap.size → w'.heap[b]? = w.heap[b]? ∧ H' b = H1 b := fun b hb => q9 b hb (by simp)
    obtain ⟨H2, hH2⟩ : ∃ H2 : GH, H2 = fun b => if b ∈ σ.objs.flatMap Ob.fp then none else H' b := ⟨_, rfl⟩
    have hm2 : ∀ b o, H b = some o → H2 b = some o := fun b o hb => by
      rw [hH2]; simp only [hown b o hb, if_false]; exact q4 _ _ (hm1 b o hb)
    have h2' : ∀ b o, H2 b = some o → H' b = some o := fun b o hb => by
      rw [hH2] at hb
      dsimp only at hb
      split at hb
      · cases hb
      · exact hb
    have hsame : ∀ p, p ∈ σ.objs → ∀ b, b ∈ p.fp → w'.heap[b]? = w.heap[b]? := fun p hp b hb => (q9' b ((gm.objs p hp).lt b hb)).1
    refine ⟨_, H2, v, k x ⟨fp', q2⟩, ?_, rfl, hm2, fun i p hp _ => ⟨hp, hsame p (List.mem_of_getElem? hp)⟩⟩
    have g2 : Gam n C σ H2 a w' := by
      refine ⟨gm.defers, gm.size, fun i x h => (gm.slots i x h).mono hm2, fun p hp => (gm.objs p hp).mono hm2 (hsame p hp), fun p hp b hb => ?_, gm.new, gm.nodup, fun b o hb => q5 _ _ (h2' b o hb), fun b o hb => hm2 _ _ (gm.grow _ _ hb), Nat.le_trans gm.heap q8, fun b hb hf => ?_, ⟨q10.1.trans gm.env.1, q10.2.1.trans gm.env.2.1, q10.2.2.trans gm.env.2.2⟩⟩
      · rw [hH2]; simp only [List.mem_flatMap.2 ⟨p, hp, hb⟩, if_true]
      · obtain ⟨h1, h2⟩ := q9' b (Nat.lt_of_lt_of_le hb gm.heap)
        obtain ⟨h3, h4⟩ := gm.frame b hb hf
        refine ⟨h1.trans h3, ?_⟩
        rw [hH2]
        dsimp only
        split
        · rename_i hm
          obtain ⟨p, hp, hbp⟩ := List.mem_flatMap.1 hm
          rcases gm.new p hp b hbp with h | h
          · omega
          · exact absurd h hf
        · rename_i hm
          rw [h2, hH1]
          simp only [hm, if_false]; exact h4
    have := g2.put (dst := dst) (q3.flat (H' := H2) (hflat x fp' q2)) hd
    cases dst <;> exact this

/-! ### The frame of a function's proof -/

def argS : Nat → List T → Slots
  | _, [] => []
  | k, x :: l => (k, x) :: argS (k + 1) l

theorem argS_get : ∀ (l : List T) (k i : Nat) (x : T), get (argS k l) i = some x → k ≤ i ∧ l[i - k]? = some x
  | [], k, i, x, h => by simp [argS, get] at h
  | y :: l, k, i, x, h => by
    simp only [argS, get] at h
    cases hb : Nat.beq k i with
    | true =>
      have := Nat.eq_of_beq_eq_true hb
      subst this
      simp only [hb, cond_true, Option.some.injEq] at h
      subst h; simp
    | false =>
      simp only [hb, cond_false] at h
      obtain ⟨h1, h2⟩ := argS_get l (k + 1) i x h
      refine ⟨by omega, ?_⟩
      rw [show i - k = (i - (k + 1)) + 1 by omega]
      simpa using h2

/-- The results of a function, read off its slots (or off an object that a slot points to). -/
def ResR (E : Env) (s : Slots) (objs : List Ob) : List ResultVar → List T → Prop
  | [], [] => True
  | .tmp t :: l, x :: xs => get s t = some x ∧ ResR E s objs l xs
  | .cell c t :: l, x :: xs => (∃ (k b tt sz cap : Nat) (es : List (List T)) (e : List T) (ti : TI), get s c = some (.v (.pointer (some ⟨b, 0, none⟩))) ∧ objs[k]? = some (.arr b tt sz cap es) ∧ es[0]? = some e ∧
      E.tab t = some ti ∧ partT ti e 0 = some x) ∧ ResR E s objs l xs
  | _, _ => False

def resV : List T → T
  | [x] => x
  | l => .tup l

def Post (E : Env) (fn : Func) (R : T → List Ob → Prop) (e : Exit) (σ : St) : Prop :=
  (e = .normal ∨ e = .ret) ∧ ∃ xs fp', ResR E σ.slots σ.objs fn.results.toList xs ∧ fp'.Sublist σ.objs ∧ R (resV xs) fp'

theorem ResR_spec {s : Slots} {objs : List Ob} {H : GH} {a : Act} {w : World} (r : SR n s H a) (wr : WR objs H w) : ∀ {l : List ResultVar} {xs : List T}, ResR E s objs l xs →
    ∃ vs : List Value, (l.mapM fun (x : ResultVar) => (match x with | .tmp t => pure (a.tmps.getD t undef) | .cell c t => do loadVar t (← asAddr (a.tmps.getD c undef)) : Sem Value)).run E.P w = .ok vs w ∧
      vs.length = xs.length ∧ ∀ (i : Nat) (x : T), xs[i]? = some x → VR H (vs.getD i undef) x
  | [], [], _ => ⟨[], by simp, rfl, by simp⟩
  | .tmp t :: l, x :: xs, h => by
    obtain ⟨h1, h2⟩ := h
    obtain ⟨vs, k1, k2, k3⟩ := ResR_spec r wr h2
    refine ⟨a.tmps.getD t undef :: vs, ?_, by simp [k2], fun i y hy => ?_⟩
    · simp only [List.mapM_cons, Sem.run_bind, Sem.run_pure, Result.andThen_ok, k1]
    · cases i with
      | zero => simp at hy; subst hy; exact r.slots t _ h1
      | succ i => simp only [List.getElem?_cons_succ] at hy; simpa using k3 i y hy
  | .cell c t :: l, x :: xs, h => by
    obtain ⟨⟨k, b, tt, sz, cap, es, e, ti, g1, g2, g3, g4, g5⟩, h2⟩ := h
    obtain ⟨vs, k1, k2, k3⟩ := ResR_spec r wr h2
    have hv := (r.slots c _ g1).v_eq
    obtain ⟨cs, a1, a2, a3, h1, hvs⟩ := OR.cells (wr.objs _ (List.mem_of_getElem? g2)) g3
    have hl := run_loadVar_part (j := 0) (E.ok _ _ g4) a1 a2 h1 hvs g5
    obtain ⟨p1, p2⟩ := partT_cells a2 h1 hvs g5
    simp only [Nat.zero_mul, Nat.zero_add] at hl p1 p2
    refine ⟨loadVal ti cs 0 :: vs, ?_, by simp [k2], fun i y hy => ?_⟩
    · have ha : (asAddr (a.tmps.getD c undef)).run E.P w = .ok ⟨b, 0, none⟩ w := by rw [hv]; rfl
      simp only [List.mapM_cons, Sem.run_bind, Sem.run_pure, Result.andThen_ok, ha, hl, k1]
    · cases i with
      | zero =>
        simp at hy; subst hy
        cases ha : ti.isAgg with
        | true => simpa [loadVal, ha] using (p1 ha).2
        | false => simpa [loadVal, ha] using (p2 ha).2
      | succ i => simp only [List.getElem?_cons_succ] at hy; simpa using k3 i y hy
  | [], _ :: _, h => h.elim
  | .tmp _ :: _, [], h => h.elim
  | .cell _ _ :: _, [], h => h.elim

theorem results_spec {s : Slots} {objs : List Ob} {H : GH} {a : Act} {w : World} (r : SR n s H a) (wr : WR objs H w) {fn : Func} {xs : List T} (h : ResR E s objs fn.results.toList xs) :
    ∃ v, (results fn a.tmps).run E.P w = .ok v w ∧ VR H v (resV xs) := by
  obtain ⟨vs, k1, k2, k3⟩ := ResR_spec r wr h
  have hm : (fn.results.mapM fun (x : ResultVar) => (match x with | .tmp t => pure (a.tmps.getD t undef) | .cell c t => do loadVar t (← asAddr (a.tmps.getD c undef)) : Sem Value)).run E.P w = .ok vs.toArray w := by
    rw [Array.mapM_eq_mapM_toList]
    refine (Sem.run_map E.P w _ _).trans ?_
    rw [k1]; rfl
  refine ⟨if h : vs.toArray.size = 1 then vs.toArray[0] else .tuple vs.toArray, ?_, ?_⟩
  · unfold results
    refine (Sem.run_bind E.P w _ _).trans ?_
    refine (congrArg (fun r => Result.andThen r _) hm).trans ?_
    rfl
  · by_cases h1 : vs.length = 1
    · obtain ⟨v, rfl⟩ := List.length_eq_one_iff.1 h1
      obtain ⟨x, rfl⟩ := List.length_eq_one_iff.1 (k2.symm.trans h1)
      simpa [resV] using k3 0 x (by simp)
    · have hne : resV xs = .tup xs := by
        cases xs with
        | nil => rfl
        | cons x l =>
          cases l with
          | nil => exact absurd k2 (by simpa using h1)
          | cons y l => rfl
      rw [hne]
      simp only [List.size_toArray, h1, dite_false]
      exact .tup _ _ (by simpa using k2) (fun j x hx => by simpa [Array.getD_eq_getD_getElem?, List.getD] using k3 j x hx)

theorem ACalls.of_body {f : FuncId} {fn : Func} {c : Code} {xs : List T} {fp : List Ob} {R : T → List Ob → Prop} (hf : E.P.funcs[f]? = some fn) (hb : fn.body = some c) (hname : (fn.name == "runtime.NumGoroutine") = false)
    (hn : Nat.ble xs.length fn.ntmps = true) (h : ∀ C : Ctx, C.fp = fp.flatMap Ob.fp → AW E fn.ntmps C c ⟨argS 0 xs, fp⟩ (Post E fn R)) : ACalls E f xs fp R := by
  refine ⟨⟨fn, hf, hname, by simp [hb]⟩, ?_⟩
  intro H w vs hsz hv hheld hfp hnd
  refine calls_of_wp hf hb ?_
  have hn' := Nat.le_of_ble_eq_true hn
  have gm : Gam fn.ntmps ⟨w, H, fp.flatMap Ob.fp, hheld.2⟩ ⟨argS 0 xs, fp⟩ H { tmps := vs ++ Array.replicate (fn.ntmps - vs.size) undef, defers := [] } w := by
    refine ⟨rfl, by simp; omega, fun i x hx => ?_, fun p hp => (hfp p hp).1, fun p hp => (hfp p hp).2, fun p hp b hb => .inr (List.mem_flatMap.2 ⟨p, hp, hb⟩), hnd, hheld.1, fun _ _ h => h, Nat.le_refl _, fun _ _ _ => ⟨rfl, rfl⟩, ⟨rfl, rfl, rfl⟩⟩
    obtain ⟨_, h2⟩ := argS_get xs 0 i x hx
    simp only [Nat.sub_zero] at h2
    have hi := (List.getElem?_eq_some_iff.1 h2).1
    have he : (vs ++ Array.replicate (fn.ntmps - vs.size) undef).getD i undef = vs.getD i undef := by
      simp [Array.getD_eq_getD_getElem?, Array.getElem?_append, show i < vs.size by omega]
    rw [he]; exact hv i x h2
  refine wp_mono (h ⟨w, H, fp.flatMap Ob.fp, hheld.2⟩ rfl H _ w gm) ?_
  rintro e a' w' ⟨σ', H', ⟨he, ys, fp', r1, r2, r3⟩, gm'⟩
  obtain ⟨v, k1, k2⟩ := results_spec gm'.sr gm'.wr r1
  have hpost : a'.defers = [] ∧ ∃ v, (results fn a'.tmps).run E.P w' = .ok v w' ∧ ∃ v_1 x fp' H', Ending.returned v = Ending.returned v_1 ∧ R x fp' ∧ VR H' v_1 x ∧ (∀ b o, H b = some o → H' b = some o) ∧ (∀ b o, H' b = some o → w'.heap[b]? = some o) ∧
      (∀ p, p ∈ fp' → OR H' w' p ∧ ∀ b, b ∈ p.fp → H' b = none ∧ (w.heap.size ≤ b ∨ b ∈ fp.flatMap Ob.fp)) ∧ (fp'.flatMap Ob.fp).Nodup ∧ w.heap.size ≤ w'.heap.size ∧
      (w'.os = w.os ∧ w'.tape = w.tape ∧ w'.output = w.output) ∧ ∀ b, b < w.heap.size → b ∉ fp.flatMap Ob.fp → w'.heap[b]? = w.heap[b]? ∧ H' b = H b :=
    ⟨gm'.defers, v, k1, v, _, fp', H', rfl, r3, k2, gm'.grow, gm'.held, fun p hp => ⟨gm'.objs p (r2.subset hp), fun b hb => ⟨gm'.free p (r2.subset hp) b hb, gm'.new p (r2.subset hp) b hb⟩⟩, (sublist_flatMap r2).nodup gm'.nodup, gm'.heap, gm'.env, gm'.frame⟩
  rcases he with rfl | rfl
  · exact hpost
  · exact hpost

end
end Go.Aw
