/- append, freezing, calls, and the frame of a function's proof, at abstract values. No condition. -/
import Derived.Test.YtnmiidccebhiaaaAwMake
namespace Go.Aw

section
variable {E : Env} {n : Nat} {C : Ctx} {σ : St} {dst : Option Tmp} {ty : TypeId} {pos : String} {aft : Array Edge} {g : Option (Nat × Bool)}

/-! ### append -/

/-- What is appended: m rows of sz cells, at an address (or nothing). -/
def AppSrc (s : Slots) (objs : List (Nat × Ob)) (x : Operand) (sz : Nat) (es : List (List T)) : Prop :=
  ∀ n H a w, SR n s H a → WR objs H w → ∃ (ad : Option Addr) (c : Nat) (news : List Value), a.eval x = .slice ad es.length c ∧ news.length = es.length * sz ∧
    (∀ v, v ∈ news → v.oneCell' = true) ∧ (ad = none → es = []) ∧ (∀ ad', ad = some ad' → ∀ j u, news[j]? = some u → w.cell? (ad'.add j) = some u) ∧
    (∀ (i : Nat) (e : List T), es[i]? = some e → e.length = sz ∧ ∀ (j : Nat) (x : T), e[j]? = some x → VR H (news.getD (i * sz + j) undef) x)

theorem cells_list {cs : Array Value} {o m : Nat} (hsz : o + m ≤ cs.size) : (cs.toList.drop o |>.take m).length = m ∧ ∀ j, j < m → ((cs.toList.drop o).take m).getD j undef = cs.getD (o + j) undef ∧ ((cs.toList.drop o).take m)[j]? = cs[o + j]? := by
  refine ⟨by simp; omega, fun j hj => ?_⟩
  have : ((cs.toList.drop o).take m)[j]? = cs[o + j]? := by
    rw [List.getElem?_take_of_lt hj, List.getElem?_drop]; simp
  exact ⟨by simp [List.getD, this, Array.getD_eq_getD_getElem?], this⟩

theorem AppSrc.of_cells {H : GH} {w : World} {b o : Nat} {cs : Array Value} {ty : TypeId} {fr : Nat × Nat} (hb : w.heap[b]? = some (.cells cs ty fr)) {sz : Nat} {es : List (List T)} (hsz : o + es.length * sz ≤ cs.size)
    (hel : ∀ (i : Nat) (e : List T), es[i]? = some e → e.length = sz)
    (h1 : ∀ (i : Nat) (e : List T), es[i]? = some e → ∀ (j : Nat) (x : T), e[j]? = some x → (cs.getD (o + i * sz + j) undef).oneCell' = true)
    (hv : ∀ (i : Nat) (e : List T), es[i]? = some e → ∀ (j : Nat) (x : T), e[j]? = some x → VR H (cs.getD (o + i * sz + j) undef) x) :
    ∃ news : List Value, news.length = es.length * sz ∧ (∀ v, v ∈ news → v.oneCell' = true) ∧ (∀ j u, news[j]? = some u → w.cell? ((⟨b, o, none⟩ : Addr).add j) = some u) ∧
      (∀ (i : Nat) (e : List T), es[i]? = some e → e.length = sz ∧ ∀ (j : Nat) (x : T), e[j]? = some x → VR H (news.getD (i * sz + j) undef) x) := by
  obtain ⟨c1, c2⟩ := cells_list hsz
  have idx : ∀ (i : Nat) (e : List T), es[i]? = some e → ∀ (j : Nat) (x : T), e[j]? = some x → i * sz + j < es.length * sz := by
    intro i e he j x hx
    have hi := (List.getElem?_eq_some_iff.1 he).1
    have hj := (List.getElem?_eq_some_iff.1 hx).1
    rw [hel i e he] at hj
    have : (i + 1) * sz ≤ es.length * sz := Nat.mul_le_mul_right _ hi
    rw [Nat.succ_mul] at this; omega
  refine ⟨(cs.toList.drop o).take (es.length * sz), c1, ?_, ?_, ?_⟩
  · intro v hvm
    obtain ⟨k, hk, he⟩ := List.getElem_of_mem hvm
    rw [c1] at hk
    have hgd : ((cs.toList.drop o).take (es.length * sz)).getD k undef = v := by
      simp [List.getD, List.getElem?_eq_getElem (show k < ((cs.toList.drop o).take (es.length * sz)).length by rw [c1]; exact hk), he]
    rw [(c2 k hk).1] at hgd
    rcases Nat.eq_zero_or_pos sz with h0 | hpos
    · subst h0; simp at hk
    · have hd : k / sz < es.length := by rw [Nat.div_lt_iff_lt_mul hpos]; exact hk
      have he' : es[k / sz]? = some es[k / sz] := List.getElem?_eq_getElem hd
      have hm := Nat.mod_lt k hpos
      have hel' := hel _ _ he'
      have hx' : es[k / sz][k % sz]? = some (es[k / sz][k % sz]'(by rw [hel']; exact hm)) := List.getElem?_eq_getElem _
      have := h1 _ _ he' _ _ hx'
      have hdm := Nat.div_add_mod k sz
      rw [Nat.mul_comm] at hdm
      rw [show o + k / sz * sz + k % sz = o + k by omega, hgd] at this
      exact this
  · intro j u hu
    have hj : j < es.length * sz := by have := (List.getElem?_eq_some_iff.1 hu).1; rw [c1] at this; exact this
    rw [(c2 j hj).2] at hu
    rw [Addr.add_mk]
    simp [World.cell?, hb, hu]
  · intro i e he
    refine ⟨hel i e he, fun j x hx => ?_⟩
    rw [(c2 _ (idx i e he j x hx)).1, ← Nat.add_assoc]
    exact hv i e he j x hx

theorem AppSrc.list {s : Slots} {objs : List (Nat × Ob)} {x : Operand} {sz : Nat} {es : List (List T)} (hx : evalT s x = some (.list sz es)) : AppSrc s objs x sz es := by
  intro n H a w r wr
  have h := r.eval hx
  generalize hv : a.eval x = v at h
  cases h with
  | empty ad cap sz => exact ⟨ad, cap, [], rfl, by simp, by simp, fun _ => rfl, by simp, by simp⟩
  | list b off cap sz es cs ty fr hb hcap hmax hsz hel h1 hvs =>
    obtain ⟨news, q1, q2, q3, q4⟩ := AppSrc.of_cells (H := H) (wr.held _ _ hb) hsz hel h1 hvs
    exact ⟨some ⟨b, off, none⟩, cap, news, rfl, q1, q2, (by simp), (fun ad' h => by cases h; exact q3), q4⟩

theorem AppSrc.own {s : Slots} {objs : List (Nat × Ob)} {x : Operand} {sz : Nat} {es : List (List T)} (k : Nat) {b c tt cap : Nat} {m : Nat} (hx : evalT s x = some (.v (.slice (some ⟨b, 0, none⟩) m c))) (hk : objs[k]? = some (b, .arr tt sz cap es)) (hm : es.length = m) :
    AppSrc s objs x sz es := by
  intro n H a w r wr
  obtain ⟨cs, a1, a2, a3, a4, a5, a6⟩ := wr.objs _ (List.mem_of_getElem? hk)
  have hle : es.length * sz ≤ cs.size := by rw [a2]; exact Nat.mul_le_mul_right _ a3
  obtain ⟨news, q1, q2, q3, q4⟩ := AppSrc.of_cells (H := H) a1 (o := 0) (by omega) a5 (fun i e he j x hx => by simpa using (a6 i e he j x hx).1) (fun i e he j x hx => by simpa using (a6 i e he j x hx).2)
  exact ⟨some ⟨b, 0, none⟩, c, news, by rw [r.evalv hx, hm], q1, q2, (by simp), (fun ad' h => by cases h; exact q3), q4⟩

/-- The cells of a row behind an append. -/
theorem OR.appended {H : GH} {w : World} {b : Nat} {e : TypeId} {cs : Array Value} {sz cap : Nat} {es es2 : List (List T)} (hb : w.heap[b]? = some (.cells cs e (0, 0))) (hcs : cs.size = cap * sz) (hcap : es.length + es2.length ≤ cap)
    (hmax : es.length + es2.length ≤ maxL) (hel : ∀ (i : Nat) (e : List T), es[i]? = some e → e.length = sz) (hel2 : ∀ (i : Nat) (e : List T), es2[i]? = some e → e.length = sz)
    (h1 : ∀ (i : Nat) (e : List T), es[i]? = some e → ∀ (j : Nat) (x : T), e[j]? = some x → CR H (cs.getD (i * sz + j) undef) x)
    (h2 : ∀ (i : Nat) (e : List T), es2[i]? = some e → ∀ (j : Nat) (x : T), e[j]? = some x → CR H (cs.getD (es.length * sz + (i * sz + j)) undef) x) : OR H w b (.arr e sz cap (es ++ es2)) := by
  refine ⟨cs, hb, hcs, by simpa using hcap, by simpa using hmax, fun i e he => ?_, fun i e he j x hx => ?_⟩
  · rw [List.getElem?_append] at he
    split at he
    · exact hel _ _ he
    · exact hel2 _ _ he
  · rw [List.getElem?_append] at he
    split at he
    · exact h1 i e he j x hx
    · rename_i hi
      have := h2 _ e he j x hx
      rw [← Nat.add_assoc, ← Nat.add_mul, show es.length + (i - es.length) = i by omega] at this
      exact this

theorem news_one {news : List Value} (h : ∀ v, v ∈ news → v.oneCell' = true) {j : Nat} (hj : j < news.length) : (news.getD j undef).oneCell' = true := by
  rw [List.getD, List.getElem?_eq_getElem hj]; exact h _ (List.getElem_mem hj)

theorem row_idx {es : List (List T)} {sz : Nat} (hel : ∀ (i : Nat) (e : List T), es[i]? = some e → e.length = sz) {i : Nat} {e : List T} (he : es[i]? = some e) {j : Nat} {x : T} (hx : e[j]? = some x) : i * sz + j < es.length * sz := by
  have hi := (List.getElem?_eq_some_iff.1 he).1
  have hj := (List.getElem?_eq_some_iff.1 hx).1
  rw [hel i e he] at hj
  have : (i + 1) * sz ≤ es.length * sz := Nat.mul_le_mul_right _ hi
  rw [Nat.succ_mul] at this; omega

/-- append to nil. -/
theorem AX.appendN {s x : Operand} {t : TypeId} {ti ei : TI} {e sz : Nat} {z : Value} {es2 : List (List T)} {R : St → Prop}
    (ht : E.tab t = some ti) (hk : ti.kind = .slice e) (he : E.tab e = some ei) (hz : ei.zero = some z) (hsz : ei.size = sz) (hzs : z.cells.size = sz)
    (hs : evalT σ.slots s = some (.v (.slice none 0 0))) (hx : AppSrc σ.slots σ.objs x sz es2) (h0 : 0 < es2.length) (hmax : es2.length ≤ maxL) (hb : es2.length * ei.bytes ≤ 140737488355328)
    (hd : ∀ d, dst = some d → d < n)
    (k : ∀ b cap, es2.length ≤ cap → R ⟨putS σ.slots dst (.v (.slice (some ⟨b, 0, none⟩) es2.length cap)), σ.objs ++ [(b, .arr e sz cap es2)]⟩) :
    AX E n C [] ⟨dst, .call { callee := .builtin .append, args := #[s, x], argTypes := #[t, t] }, ty, pos, aft, g⟩ σ R := by
  refine AX.value fun H a w gm => ?_
  obtain ⟨ad, c, news, q1, q2, q3, q4, q5, q6⟩ := hx n H a w gm.sr gm.wr
  cases ad with
  | none => have := q4 rfl; subst this; simp at h0
  | some ad =>
    obtain ⟨inf, f1, f2, f3, f4, f5⟩ := run_typeInfo_ti (E.ok _ _ he) w
    have hmx : es2.length ≤ 140737488355328 := hmax
    have hrun := run_append_nil (P := E.P) w t ty e inf z (und_slice (E.ok _ _ ht) hk) f5 (by rw [f4]; exact hz) ad es2.length c news (by rw [f2, hsz]; exact q2) (q5 ad rfl) h0 (by omega) (by rw [f3]; omega)
    have hge := grownCap_ge w es2.length 0 e
    have hel2 : ∀ (i : Nat) (e : List T), es2[i]? = some e → e.length = sz := fun i e he => (q6 i e he).1
    have hor : OR H (w.drew.alloc (.cells (news.toArray ++ Builtin.zeroCells z.cells (grownCap w es2.length 0 e - es2.length)) e)) w.heap.size (.arr e sz (grownCap w es2.length 0 e) ([] ++ es2)) := by
      refine OR.appended (heap_alloc_new w.drew _) ?_ (by simpa using hge) (by simpa using hmax) (by simp) hel2 (by simp) ?_
      · rw [Array.size_append, size_zeroCells, hzs]; simp only [List.size_toArray, q2]
        rw [← Nat.add_mul]; congr 1; omega
      · intro i e' he' j y hy
        have hlt := row_idx hel2 he' hy
        have hgd : (news.toArray ++ Builtin.zeroCells z.cells (grownCap w es2.length 0 e - es2.length)).getD (([] : List (List T)).length * sz + (i * sz + j)) undef = news.getD (i * sz + j) undef := by
          simp [Array.getD_eq_getD_getElem?, Array.getElem?_append, show i * sz + j < news.length by omega, List.getD]
        rw [hgd]
        exact ⟨news_one q3 (by omega), (q6 i e' he').2 j y hy⟩
    simp only [List.nil_append] at hor
    refine ⟨.slice (some ⟨w.heap.size, 0, none⟩) es2.length (grownCap w es2.length 0 e), w.drew.alloc (.cells (news.toArray ++ Builtin.zeroCells z.cells (grownCap w es2.length 0 e - es2.length)) e), _, H, ?_, k w.heap.size (grownCap w es2.length 0 e) hge, ?_, fun _ _ h => h, ?_⟩
    · simp [execOp, resolve, invoke, builtin, gm.sr.evalv hs, q1, hrun]
    · have := (gm.drew.alloc (ob := .arr e sz (grownCap w es2.length 0 e) es2) hor).put (dst := dst) (.v (.slice (some ⟨w.heap.size, 0, none⟩) es2.length (grownCap w es2.length 0 e))) hd
      cases dst <;> exact this
    · intro i p hp _
      exact ⟨append_keeps hp, heap_alloc_old w.drew _ (gm.objs p (List.mem_of_getElem? hp)).lt⟩

/-- append to a slice of the call's own. -/
theorem AX.appendS (ks : Nat) {s x : Operand} {t : TypeId} {ti ei : TI} {e sz b len cp cap : Nat} {z : Value} {es es2 : List (List T)} {R : St → Prop}
    (ht : E.tab t = some ti) (hk : ti.kind = .slice e) (he : E.tab e = some ei) (hz : ei.zero = some z) (hsz : ei.size = sz) (hzs : z.cells.size = sz)
    (hs : evalT σ.slots s = some (.v (.slice (some ⟨b, 0, none⟩) len cp))) (hks : σ.objs[ks]? = some (b, .arr e sz cap es)) (hlen : es.length = len) (hcp : cp = cap)
    (hx : AppSrc σ.slots σ.objs x sz es2) (hmax : es.length + es2.length ≤ maxL) (hb : (es.length + es2.length) * ei.bytes ≤ 140737488355328)
    (hd : ∀ d, dst = some d → d < n)
    (k : ∀ b' cap', es.length + es2.length ≤ cap' → R ⟨putS σ.slots dst (.v (.slice (some ⟨b', 0, none⟩) (es.length + es2.length) cap')), σ.objs.set ks (b', .arr e sz cap' (es ++ es2))⟩) :
    AX E n C [ks] ⟨dst, .call { callee := .builtin .append, args := #[s, x], argTypes := #[t, t] }, ty, pos, aft, g⟩ σ R := by
  refine AX.value fun H a w gm => ?_
  subst hlen hcp
  obtain ⟨ad, c, news, q1, q2, q3, q4, q5, q6⟩ := hx n H a w gm.sr gm.wr
  obtain ⟨cur, a1, a2, a3, a4, a5, a6⟩ := gm.objs _ (List.mem_of_getElem? hks)
  have hmx : es.length + es2.length ≤ 140737488355328 := hmax
  have hkeep : ∀ (w' : World) (b' cap' : Nat), (∀ k, k < w.heap.size → k ≠ b → w'.heap[k]? = w.heap[k]?) → ∀ i p, σ.objs[i]? = some p → [ks].contains i = false →
      (σ.objs.set ks (b', .arr e sz cap' (es ++ es2)))[i]? = some p ∧ w'.heap[p.1]? = w.heap[p.1]? := by
    intro w' b' cap' hw i p hp hm
    have hne : ks ≠ i := fun h => by subst h; simp at hm
    exact ⟨set_keeps hp hne, hw _ (gm.objs p (List.mem_of_getElem? hp)).lt (fun h => nodup_ne gm.nodup hks hp hne h.symm)⟩
  cases ad with
  | none =>
    have := q4 rfl
    subst this
    obtain ⟨inf, f1, f2, f3, f4, f5⟩ := run_typeInfo_ti (E.ok _ _ he) w
    have hrun : (Builtin.append_ #[t, t] ty #[.slice (some ⟨b, 0, none⟩) es.length cp, .slice none 0 c]).run E.P w = .ok (.slice (some ⟨b, 0, none⟩) es.length cp) w := by
      have h2 : es.length ≤ cp := a3
      simp [Builtin.append_, run_underlying (und_slice (E.ok _ _ ht) hk), sizeOf, typeInfo, f5, Builtin.lenOf, Builtin.firstCells, h2, storeCells]
    refine ⟨.slice (some ⟨b, 0, none⟩) (es.length + 0) cp, w, _, H, ?_, k b cp a3, ?_, fun _ _ h => h, hkeep w b cp (fun _ _ _ => rfl)⟩
    · simp only [execOp, resolve, invoke, builtin, Sem.run_bind, Sem.run_pure, Result.andThen_ok, List.map_toArray, List.map_cons, List.map_nil, gm.sr.evalv hs, q1, List.length_nil, Nat.add_zero]
      simp [hrun]
    · have g2 := gm.set (o' := .arr e sz cp (es ++ [])) hks ⟨rfl, rfl, rfl⟩ rfl (fun _ _ => rfl) (by rw [List.append_nil]; exact ⟨cur, a1, a2, a3, a4, a5, a6⟩)
      have := g2.put (dst := dst) (.v (.slice (some ⟨b, 0, none⟩) (es.length + 0) cp)) hd
      cases dst <;> exact this
  | some ad =>
    obtain ⟨inf, f1, f2, f3, f4, f5⟩ := run_typeInfo_ti (E.ok _ _ he) w
    have hel2 : ∀ (i : Nat) (e : List T), es2[i]? = some e → e.length = sz := fun i e he => (q6 i e he).1
    have hexec : ∀ v w', (Builtin.append_ #[t, t] ty #[.slice (some ⟨b, 0, none⟩) es.length cp, .slice (some ad) es2.length c]).run E.P w = .ok v w' →
        (execOp a.eval ⟨dst, .call { callee := .builtin .append, args := #[s, x], argTypes := #[t, t] }, ty, pos, aft, g⟩).run E.P w = .ok (.value v) w' := by
      intro v w' h
      simp only [execOp, resolve, invoke, builtin, Sem.run_bind, Sem.run_pure, Result.andThen_ok, List.map_toArray, List.map_cons, List.map_nil, gm.sr.evalv hs, q1, h]
    by_cases hroom : es.length + es2.length ≤ cp
    · have hfit : es.length * sz + news.length ≤ cur.size := by rw [q2, a2, ← Nat.add_mul]; exact Nat.mul_le_mul_right _ hroom
      have hrun := run_append_room (P := E.P) w t ty e inf (und_slice (E.ok _ _ ht) hk) f5 b es.length cp cur a1 ad es2.length c news (by rw [f2, hsz]; exact q2) (q5 ad rfl) q3 hroom (by rw [f2, hsz]; exact hfit)
      rw [f2, hsz] at hrun
      refine ⟨_, _, _, H, hexec _ _ hrun, k b cp hroom, ?_, fun _ _ h => h, hkeep _ b cp (fun k _ hk => setRow_other w b k _ hk)⟩
      have hor : OR H (w.setRow b (cur.toList.take (es.length * sz) ++ news ++ cur.toList.drop (es.length * sz + news.length)).toArray) b (.arr e sz cp (es ++ es2)) := by
        refine OR.appended (setRow_heap w b cur _ e _ a1) ?_ hroom hmax a5 hel2 ?_ ?_
        · simp only [List.size_toArray, List.length_append, List.length_take, List.length_drop, Array.length_toList]
          omega
        · intro i e' he' j y hy
          have hlt := row_idx a5 he' hy
          rw [getD_seg hfit, if_neg (by omega)]
          exact a6 i e' he' j y hy
        · intro i e' he' j y hy
          have hlt := row_idx hel2 he' hy
          rw [getD_seg hfit, if_pos (by omega), Nat.add_sub_cancel_left]
          exact ⟨news_one q3 (by omega), (q6 i e' he').2 j y hy⟩
      have := (gm.set (w' := w.setRow b (cur.toList.take (es.length * sz) ++ news ++ cur.toList.drop (es.length * sz + news.length)).toArray) hks ⟨rfl, rfl, rfl⟩ (setRow_size _ _ _) (fun i hi => setRow_other w b i _ hi) hor).put (dst := dst) (.v (.slice (some ⟨b, 0, none⟩) (es.length + es2.length) cp)) hd
      cases dst <;> exact this
    · have holen : (cur.toList.take (es.length * sz)).length = es.length * sz := by
        have : es.length * sz ≤ cur.size := by rw [a2]; exact Nat.mul_le_mul_right _ a3
        simp; omega
      have hrun := run_append_grow (P := E.P) w t ty e inf z (und_slice (E.ok _ _ ht) hk) f5 (by rw [f4]; exact hz) ⟨b, 0, none⟩ es.length cp (cur.toList.take (es.length * sz)) (by rw [f2, hsz]; exact holen)
        (fun j u hu => by
          rw [Addr.add_mk]
          have hj : j < es.length * sz := by have := (List.getElem?_eq_some_iff.1 hu).1; rw [holen] at this; exact this
          rw [List.getElem?_take_of_lt hj] at hu
          simpa [World.cell?, a1] using hu)
        ad es2.length c news (by rw [f2, hsz]; exact q2) (q5 ad rfl) (by omega) (by omega) (by rw [f3]; exact growslice_fits (by omega) hb)
      have hge := grownCap_ge w (es.length + es2.length) cp e
      refine ⟨_, _, _, H, hexec _ _ hrun, k w.heap.size (grownCap w (es.length + es2.length) cp e) hge, ?_, fun _ _ h => h, hkeep _ _ _ (fun k hk _ => heap_alloc_old w.drew _ hk)⟩
      have hor : OR H (w.drew.alloc (.cells ((cur.toList.take (es.length * sz)).toArray ++ news.toArray ++ Builtin.zeroCells z.cells (grownCap w (es.length + es2.length) cp e - (es.length + es2.length))) e)) w.heap.size
          (.arr e sz (grownCap w (es.length + es2.length) cp e) (es ++ es2)) := by
        refine OR.appended (heap_alloc_new w.drew _) ?_ hge hmax a5 hel2 ?_ ?_
        · simp only [Array.size_append, size_zeroCells, hzs, List.size_toArray, holen, q2]
          rw [← Nat.add_mul, ← Nat.add_mul]; congr 1; omega
        · intro i e' he' j y hy
          have hlt := row_idx a5 he' hy
          have hgd : ((cur.toList.take (es.length * sz)).toArray ++ news.toArray ++ Builtin.zeroCells z.cells (grownCap w (es.length + es2.length) cp e - (es.length + es2.length))).getD (i * sz + j) undef = cur.getD (i * sz + j) undef := by
            have hc : es.length * sz ≤ cur.size := by rw [a2]; exact Nat.mul_le_mul_right _ a3
            simp only [Array.getD_eq_getD_getElem?, Array.getElem?_append, Array.size_append, List.size_toArray, holen, List.getElem?_toArray]
            rw [if_pos (by omega), if_pos (by omega), List.getElem?_take_of_lt hlt]
            simp
          rw [hgd]
          exact a6 i e' he' j y hy
        · intro i e' he' j y hy
          have hlt := row_idx hel2 he' hy
          have hgd : ((cur.toList.take (es.length * sz)).toArray ++ news.toArray ++ Builtin.zeroCells z.cells (grownCap w (es.length + es2.length) cp e - (es.length + es2.length))).getD (es.length * sz + (i * sz + j)) undef = news.getD (i * sz + j) undef := by
            simp only [Array.getD_eq_getD_getElem?, Array.getElem?_append, Array.size_append, List.size_toArray, holen, List.getElem?_toArray]
            rw [if_pos (by omega), if_neg (by omega), Nat.add_sub_cancel_left]
            rfl
          rw [hgd]
          exact ⟨news_one q3 (by omega), (q6 i e' he').2 j y hy⟩
      have g3 : Gam n C ⟨σ.slots, σ.objs.set ks (w.heap.size, .arr e sz (grownCap w (es.length + es2.length) cp e) (es ++ es2))⟩ H a
          (w.drew.alloc (.cells ((cur.toList.take (es.length * sz)).toArray ++ news.toArray ++ Builtin.zeroCells z.cells (grownCap w (es.length + es2.length) cp e - (es.length + es2.length))) e)) := by
        refine gm.world (fun _ => False) ⟨rfl, rfl, rfl⟩ (by show w.heap.size ≤ (w.heap.push _).size; simp) (fun k hk _ => heap_alloc_old w.drew _ hk) (fun _ h => h.elim) ?_ ?_
        · intro p hp
          obtain ⟨i, hi, hpe⟩ := List.getElem_of_mem hp
          have hp' : (σ.objs.set ks (w.heap.size, Ob.arr e sz (grownCap w (es.length + es2.length) cp e) (es ++ es2)))[i]? = some p := by rw [List.getElem?_eq_getElem hi, hpe]
          by_cases hki : ks = i
          · subst hki
            have hkl := (List.getElem?_eq_some_iff.1 hks).1
            rw [List.getElem?_set_self hkl] at hp'
            cases hp'
            exact .inr ⟨hor, .inl (Nat.le_refl _)⟩
          · rw [List.getElem?_set_ne hki] at hp'
            exact .inl ⟨List.mem_of_getElem? hp', fun h => h⟩
        · rw [List.map_set]
          have hnd := gm.nodup
          have hfresh : w.heap.size ∉ σ.objs.map Prod.fst := by
            intro hm
            obtain ⟨p, hp, he⟩ := List.mem_map.1 hm
            have := (gm.objs p hp).lt
            omega
          have gen : ∀ (l : List Nat) (i x : Nat), l.Nodup → x ∉ l → (l.set i x).Nodup := by
            intro l
            induction l with
            | nil => intro i x _ _; simp
            | cons y l ih =>
              intro i x hn hx
              rw [List.nodup_cons] at hn
              simp only [List.mem_cons, not_or] at hx
              cases i with
              | zero => rw [List.set_cons_zero, List.nodup_cons]; exact ⟨hx.2, hn.2⟩
              | succ i =>
                rw [List.set_cons_succ, List.nodup_cons]
                refine ⟨fun hm => ?_, ih i x hn.2 hx.2⟩
                rcases List.mem_or_eq_of_mem_set hm with h | h
                · exact hn.1 h
                · exact hx.1 h.symm
          exact gen _ _ _ hnd hfresh
      have := g3.put (dst := dst) (.v (.slice (some ⟨w.heap.size, 0, none⟩) (es.length + es2.length) (grownCap w (es.length + es2.length) cp e))) hd
      cases dst <;> exact this

/-! ### Freezing -/

theorem Gam.freeze {H : GH} {a : Act} {w : World} (gm : Gam n C σ H a w) {k b tt sz cap : Nat} {es : List (List T)} (hk : σ.objs[k]? = some (b, .arr tt sz cap es)) :
    ∃ H', (∀ b o, H b = some o → H' b = some o) ∧ Gam n C ⟨σ.slots, σ.objs.eraseIdx k⟩ H' a w ∧ ∀ c, es.length ≤ c → VR H' (.slice (some ⟨b, 0, none⟩) es.length c) (.list sz es) := by
  have hm := List.mem_of_getElem? hk
  obtain ⟨cur, a1, a2, a3, a4, a5, a6⟩ := gm.objs _ hm
  have hfree := gm.free _ hm
  have hnew := gm.new _ hm
  dsimp only at a1 hfree hnew
  refine ⟨fun b' => if b' = b then some (.cells cur tt (0, 0)) else H b', ?_, ?_, ?_⟩
  · intro b' o ho
    by_cases hb : b' = b
    · subst hb; rw [hfree] at ho; cases ho
    · simp [hb, ho]
  · have hmono : ∀ b' o, H b' = some o → (if b' = b then some (.cells cur tt (0, 0)) else H b') = some o := by
      intro b' o ho
      by_cases hb : b' = b
      · subst hb; rw [hfree] at ho; cases ho
      · simp [hb, ho]
    have hsub : ∀ p, p ∈ σ.objs.eraseIdx k → p ∈ σ.objs ∧ p.1 ≠ b := by
      intro p hp
      obtain ⟨i, hi⟩ := List.mem_iff_getElem?.1 hp
      rw [List.getElem?_eraseIdx] at hi
      split at hi
      · rename_i hik
        exact ⟨List.mem_of_getElem? hi, fun h => nodup_ne gm.nodup hi hk (by omega) h⟩
      · rename_i hik
        exact ⟨List.mem_of_getElem? hi, fun h => nodup_ne gm.nodup hi hk (by omega) h⟩
    refine ⟨gm.defers, gm.size, fun i x h => (gm.slots i x h).mono hmono, fun p hp => (gm.objs p (hsub p hp).1).mono hmono rfl, fun p hp => ?_, fun p hp => gm.new p (hsub p hp).1, ?_, ?_, ?_, gm.heap, ?_, gm.env⟩
    · obtain ⟨h1, h2⟩ := hsub p hp
      simp [h2, gm.free p h1]
    · exact ((List.eraseIdx_sublist σ.objs k).map Prod.fst).nodup gm.nodup
    · intro b' o ho
      by_cases hb : b' = b
      · subst hb; simp at ho; subst ho; exact a1
      · simp [hb] at ho; exact gm.held _ _ ho
    · intro b' o ho; exact hmono _ _ (gm.grow _ _ ho)
    · intro b' hb' hf
      obtain ⟨h1, h2⟩ := gm.frame b' hb' hf
      refine ⟨h1, ?_⟩
      have : b' ≠ b := fun h => by subst h; rcases hnew with h | h; omega; exact hf h
      simp [this, h2]
  · intro c hc
    refine .list b 0 c sz es cur tt (0, 0) (by simp) hc a4 ?_ a5 (fun i e he j x hx => by simpa using (a6 i e he j x hx).1) (fun i e he j x hx => ?_)
    · rw [a2, Nat.zero_add]; exact Nat.mul_le_mul_right _ a3
    · simp only [Nat.zero_add]
      refine (a6 i e he j x hx).2.mono ?_
      intro b' o ho
      by_cases hb : b' = b
      · subst hb; rw [hfree] at ho; cases ho
      · simp [hb, ho]

/-- Slots in which a slice of the object is read as a list. -/
def FrS (b sz : Nat) (es : List (List T)) (s : Slots) : Slots → Prop
  | [] => True
  | (i, x) :: l => (get s i = some x ∨ ∃ c, get s i = some (.v (.slice (some ⟨b, 0, none⟩) es.length c)) ∧ es.length ≤ c ∧ x = .list sz es) ∧ FrS b sz es s l

theorem FrS.get {b sz : Nat} {es : List (List T)} {s : Slots} {H H' : GH} {a : Act} (hs : ∀ i x, Aw.get s i = some x → VR H (a.tmps.getD i undef) x) (hm : ∀ b o, H b = some o → H' b = some o)
    (hl : ∀ c, es.length ≤ c → VR H' (.slice (some ⟨b, 0, none⟩) es.length c) (.list sz es)) : ∀ {l : Slots}, FrS b sz es s l → ∀ i x, Aw.get l i = some x → VR H' (a.tmps.getD i undef) x
  | [], _, i, x, h => by simp [Aw.get] at h
  | (k, y) :: l, hf, i, x, h => by
    obtain ⟨h1, h2⟩ := hf
    simp only [Aw.get] at h
    cases hb : Nat.beq k i with
    | true =>
      have := Nat.eq_of_beq_eq_true hb
      subst this
      simp only [hb, cond_true, Option.some.injEq] at h
      subst h
      rcases h1 with h1 | ⟨c, h1, hc, rfl⟩
      · exact (hs _ _ h1).mono hm
      · have := (hs _ _ h1).v_eq
        rw [this]; exact hl c hc
    | false =>
      simp only [hb, cond_false] at h
      exact FrS.get hs hm hl h2 i x h

theorem Gam.freezeS {H : GH} {a : Act} {w : World} (gm : Gam n C σ H a w) (k : Nat) {b tt sz cap : Nat} {es : List (List T)} (hk : σ.objs[k]? = some (b, .arr tt sz cap es)) {s' : Slots} (hs : FrS b sz es σ.slots s') :
    ∃ H', (∀ b o, H b = some o → H' b = some o) ∧ Gam n C ⟨s', σ.objs.eraseIdx k⟩ H' a w := by
  obtain ⟨H', h1, h2, h3⟩ := gm.freeze hk
  exact ⟨H', h1, { h2 with slots := fun i x h => FrS.get gm.slots h1 h3 hs i x h }⟩

theorem AW.freeze (k : Nat) {c : Code} {Q : Exit → St → Prop} {b tt sz cap : Nat} {es : List (List T)} (hk : σ.objs[k]? = some (b, .arr tt sz cap es)) (s' : Slots) (hs : FrS b sz es σ.slots s')
    (h : AW E n C c ⟨s', σ.objs.eraseIdx k⟩ Q) : AW E n C c σ Q := by
  intro H a w gm
  obtain ⟨H', _, gm'⟩ := gm.freezeS k hk hs
  exact h H' a w gm'

theorem AO.freeze (k : Nat) {ops : Array Oper} {l : List Oper} {R : St → Prop} {b tt sz cap : Nat} {es : List (List T)} (hk : σ.objs[k]? = some (b, .arr tt sz cap es)) (s' : Slots) (hs : FrS b sz es σ.slots s')
    (h : AO E n C ops l ⟨s', σ.objs.eraseIdx k⟩ R) : AO E n C ops l σ R := by
  intro H a w gm
  obtain ⟨H', _, gm'⟩ := gm.freezeS k hk hs
  exact h H' a w gm'

/-! ### Calls -/

def ACalls (E : Env) (f : FuncId) (xs : List T) (fp : List (Nat × Ob)) (R : T → List (Nat × Ob) → Prop) : Prop :=
  (∃ fn, E.P.funcs[f]? = some fn ∧ (fn.name == "runtime.NumGoroutine") = false ∧ fn.body.isNone = false) ∧
  ∀ (H : GH) (w : World) (vs : Array Value), vs.size = xs.length → (∀ (i : Nat) (x : T), xs[i]? = some x → VR H (vs.getD i undef) x) → (∀ b o, H b = some o → w.heap[b]? = some o) →
    (∀ p, p ∈ fp → OR H w p.1 p.2 ∧ H p.1 = none) → (fp.map Prod.fst).Nodup →
    Calls E.P f vs w fun e w' => ∃ v x fp' H', e = .returned v ∧ R x fp' ∧ VR H' v x ∧ (∀ b o, H b = some o → H' b = some o) ∧ (∀ b o, H' b = some o → w'.heap[b]? = some o) ∧
      (∀ p, p ∈ fp' → OR H' w' p.1 p.2 ∧ H' p.1 = none ∧ (w.heap.size ≤ p.1 ∨ p.1 ∈ fp.map Prod.fst)) ∧ (fp'.map Prod.fst).Nodup ∧ w.heap.size ≤ w'.heap.size ∧
      (w'.os = w.os ∧ w'.tape = w.tape ∧ w'.output = w.output) ∧ ∀ b, b < w.heap.size → b ∉ fp.map Prod.fst → w'.heap[b]? = w.heap[b]? ∧ H' b = H b

theorem ACalls.mono {f : FuncId} {xs : List T} {fp : List (Nat × Ob)} {R R' : T → List (Nat × Ob) → Prop} (h : ACalls E f xs fp R) (hr : ∀ x fp', R x fp' → R' x fp') : ACalls E f xs fp R' :=
  ⟨h.1, fun H w vs h1 h2 h3 h4 h5 => (h.2 H w vs h1 h2 h3 h4 h5).mono fun e w' ⟨v, x, fp', H', q1, q2, q⟩ => ⟨v, x, fp', H', q1, hr _ _ q2, q⟩⟩

def evalL (s : Slots) : List Operand → Option (List T)
  | [] => some []
  | x :: l => match evalT s x, evalL s l with
    | some y, some ys => some (y :: ys)
    | _, _ => none

theorem evalL_spec {s : Slots} {H : GH} {a : Act} (r : SR n s H a) : ∀ {l : List Operand} {ys : List T}, evalL s l = some ys → (l.map a.eval).length = ys.length ∧ ∀ (i : Nat) (y : T), ys[i]? = some y → VR H ((l.map a.eval).getD i undef) y
  | [], ys, h => by simp only [evalL, Option.some.injEq] at h; subst h; simp
  | x :: l, ys, h => by
    simp only [evalL] at h
    split at h
    · rename_i y ys' h1 h2
      simp only [Option.some.injEq] at h
      subst h
      obtain ⟨k1, k2⟩ := evalL_spec r h2
      refine ⟨by simpa using k1, fun i z hz => ?_⟩
      cases i with
      | zero => simp at hz; subst hz; simpa using r.eval h1
      | succ i =>
        simp only [List.getElem?_cons_succ] at hz
        simpa using k2 i z hz
    · simp at h

theorem VR.v_list {H : GH} (l : List Value) : ∀ (i : Nat) (y : T), (l.map T.v)[i]? = some y → VR H (l.getD i undef) y := by
  intro i y h
  simp only [List.getElem?_map, Option.map_eq_some_iff] at h
  obtain ⟨v, hv, rfl⟩ := h
  simp [List.getD, hv]
  exact .v v

theorem VR.app {H : GH} {l1 l2 : List Value} {y1 y2 : List T} (hl : l1.length = y1.length) (h1 : ∀ (i : Nat) (y : T), y1[i]? = some y → VR H (l1.getD i undef) y) (h2 : ∀ (i : Nat) (y : T), y2[i]? = some y → VR H (l2.getD i undef) y) :
    ∀ (i : Nat) (y : T), (y1 ++ y2)[i]? = some y → VR H ((l1 ++ l2).getD i undef) y := by
  intro i y h
  rw [List.getElem?_append] at h
  split at h
  · rename_i hi
    have := h1 i y h
    simpa [List.getD, List.getElem?_append, hl, hi] using this
  · rename_i hi
    have := h2 _ y h
    simpa [List.getD, List.getElem?_append, hl, hi] using this

/-- What a call does to the caller's state: the objects that it got are replaced by those that it leaves. -/
theorem Gam.called {H H' : GH} {a : Act} {w w' : World} (gm : Gam n C σ H a w) {fp fp' objs : List (Nat × Ob)} (hfp : ∀ p, p ∈ fp → p ∈ σ.objs)
    (hH : ∀ b o, H b = some o → H' b = some o) (hheld : ∀ b o, H' b = some o → w'.heap[b]? = some o)
    (hfp' : ∀ p, p ∈ fp' → OR H' w' p.1 p.2 ∧ H' p.1 = none ∧ (w.heap.size ≤ p.1 ∨ p.1 ∈ fp.map Prod.fst)) (hsz : w.heap.size ≤ w'.heap.size) (henv : w'.os = w.os ∧ w'.tape = w.tape ∧ w'.output = w.output)
    (hfr : ∀ b, b < w.heap.size → b ∉ fp.map Prod.fst → w'.heap[b]? = w.heap[b]? ∧ H' b = H b)
    (hobjs : ∀ p, p ∈ objs → p ∈ fp' ∨ (p ∈ σ.objs ∧ p.1 ∉ fp.map Prod.fst)) (hnd : (objs.map Prod.fst).Nodup) : Gam n C ⟨σ.slots, objs⟩ H' a w' := by
  have hold : ∀ p, p ∈ σ.objs → p.1 ∉ fp.map Prod.fst → w'.heap[p.1]? = w.heap[p.1]? ∧ H' p.1 = H p.1 := fun p hp hn => hfr p.1 (gm.objs p hp).lt hn
  refine ⟨gm.defers, gm.size, fun i x h => (gm.slots i x h).mono hH, ?_, ?_, ?_, hnd, hheld, fun b o h => hH _ _ (gm.grow _ _ h), Nat.le_trans gm.heap hsz, ?_, ⟨henv.1.trans gm.env.1, henv.2.1.trans gm.env.2.1, henv.2.2.trans gm.env.2.2⟩⟩
  · intro p hp
    rcases hobjs p hp with h | ⟨h, hn⟩
    · exact (hfp' p h).1
    · exact (gm.objs p h).mono hH (hold p h hn).1
  · intro p hp
    rcases hobjs p hp with h | ⟨h, hn⟩
    · exact (hfp' p h).2.1
    · rw [(hold p h hn).2]; exact gm.free p h
  · intro p hp
    rcases hobjs p hp with h | ⟨h, hn⟩
    · rcases (hfp' p h).2.2 with h | h
      · exact .inl (Nat.le_trans gm.heap h)
      · obtain ⟨q, hq, he⟩ := List.mem_map.1 h
        rw [← he]; exact gm.new q (hfp q hq)
    · exact gm.new p h
  · intro b hb hf
    have hbn : b ∉ fp.map Prod.fst := fun h => by
      obtain ⟨q, hq, he⟩ := List.mem_map.1 h
      rcases gm.new q (hfp q hq) with h | h
      · omega
      · rw [he] at h; exact hf h
    obtain ⟨h1, h2⟩ := hfr b (Nat.lt_of_lt_of_le hb gm.heap) hbn
    obtain ⟨h3, h4⟩ := gm.frame b hb hf
    exact ⟨h1.trans h3, h2.trans h4⟩

theorem AX.call {md : List Nat} {c : Operand} {args : Array Operand} {tys : Array TypeId} {f : FuncId} {first captured : Array Value} {xs ys : List T} {fp : List (Nat × Ob)} {Rc : T → List (Nat × Ob) → Prop} {R : St → Prop}
    (hc : evalT σ.slots c = some (.v (.func (.func f) first captured))) (hx : evalL σ.slots args.toList = some xs) (hys : first.toList.map T.v ++ xs ++ captured.toList.map T.v = ys)
    (h : ACalls E f ys fp Rc) (hfp : ∀ p, p ∈ fp → p ∈ σ.objs) (hnd : (fp.map Prod.fst).Nodup) (hd : ∀ d, dst = some d → d < n)
    (k : ∀ H a w H' w' v x fp', Gam n C σ H a w → Rc x fp' → VR H' v x → (∀ b o, H b = some o → H' b = some o) → (∀ b o, H' b = some o → w'.heap[b]? = some o) →
      (∀ p, p ∈ fp' → OR H' w' p.1 p.2 ∧ H' p.1 = none ∧ (w.heap.size ≤ p.1 ∨ p.1 ∈ fp.map Prod.fst)) → (fp'.map Prod.fst).Nodup → w.heap.size ≤ w'.heap.size → (w'.os = w.os ∧ w'.tape = w.tape ∧ w'.output = w.output) →
      (∀ b, b < w.heap.size → b ∉ fp.map Prod.fst → w'.heap[b]? = w.heap[b]? ∧ H' b = H b) →
      ∃ objs, R ⟨putS σ.slots dst x, objs⟩ ∧ Gam n C ⟨σ.slots, objs⟩ H' a w' ∧ ∀ i p, σ.objs[i]? = some p → md.contains i = false → objs[i]? = some p ∧ w'.heap[p.1]? = w.heap[p.1]?) :
    AX E n C md ⟨dst, .call { callee := .value c, args := args, argTypes := tys }, ty, pos, aft, g⟩ σ R := by
  intro H a w gm
  subst hys
  obtain ⟨⟨fn, f1, f2, f3⟩, h⟩ := h
  obtain ⟨k1, k2⟩ := evalL_spec gm.sr hx
  have hrun : (execOp a.eval ⟨dst, .call { callee := .value c, args := args, argTypes := tys }, ty, pos, aft, g⟩).run E.P w = .ok (.enter f (first ++ args.map a.eval ++ captured)) w := by
    have f2' : ¬ fn.name = "runtime.NumGoroutine" := by simpa using f2
    have f3' : ¬ fn.body = none := by
      intro hb; rw [hb] at f3; simp at f3
    simp [execOp, resolve, gm.sr.evalv hc, Deferred.ofValue, invoke, callFunc, f1, f2', f3']
  simp only [Oper.wp, hrun, Oper.upon]
  have hl : (first ++ args.map a.eval ++ captured).toList = first.toList ++ args.toList.map a.eval ++ captured.toList := by simp
  refine (h H w (first ++ args.map a.eval ++ captured) ?_ ?_ gm.held (fun p hp => ⟨gm.objs p (hfp p hp), gm.free p (hfp p hp)⟩) hnd).mono ?_
  · rw [← Array.length_toList, hl]; simp at k1 ⊢; omega
  · intro i x hix
    rw [Array.getD_eq_getD_getElem?, ← Array.getElem?_toList, hl]
    have := VR.app (H := H) (by simp at k1 ⊢; omega) (VR.app (H := H) (by simp) (VR.v_list first.toList) k2) (VR.v_list captured.toList) i x hix
    simpa [List.getD] using this
  · rintro e w' ⟨v, x, fp', H', rfl, q2, q3, q4, q5, q6, q7, q8, q10, q9⟩
    obtain ⟨objs, r1, r2, r3⟩ := k H a w H' w' v x fp' gm q2 q3 q4 q5 q6 q7 q8 q10 q9
    refine ⟨_, H', v, r1, ?_, rfl, q4, r3⟩
    have := r2.put (dst := dst) q3 hd
    cases dst <;> exact this

/-- A call that gets and leaves no object. -/
theorem AX.call0 {c : Operand} {args : Array Operand} {tys : Array TypeId} {f : FuncId} {first captured : Array Value} {xs ys : List T} {Rc : T → List (Nat × Ob) → Prop} {R : St → Prop}
    (hc : evalT σ.slots c = some (.v (.func (.func f) first captured))) (hx : evalL σ.slots args.toList = some xs) (hys : first.toList.map T.v ++ xs ++ captured.toList.map T.v = ys)
    (h : ACalls E f ys [] Rc) (hd : ∀ d, dst = some d → d < n) (k : ∀ x, (∃ fp', Rc x fp') → R ⟨putS σ.slots dst x, σ.objs⟩) :
    AX E n C [] ⟨dst, .call { callee := .value c, args := args, argTypes := tys }, ty, pos, aft, g⟩ σ R := by
  refine AX.call hc hx hys h (by simp) (by simp) hd ?_
  intro H a w H' w' v x fp' gm q2 q3 q4 q5 q6 q7 q8 q10 q9
  refine ⟨σ.objs, k x ⟨fp', q2⟩, gm.called (fp := []) (fp' := fp') (by simp) q4 q5 q6 q8 q10 q9 (fun p hp => .inr ⟨hp, by simp⟩) gm.nodup, ?_⟩
  intro i p hp _
  exact ⟨hp, (q9 p.1 (gm.objs p (List.mem_of_getElem? hp)).lt (by simp)).1⟩

/-- A call that gets one object, and leaves it. -/
theorem AX.call1 (kp : Nat) {c : Operand} {args : Array Operand} {tys : Array TypeId} {f : FuncId} {first captured : Array Value} {xs ys : List T} {b : Nat} {ob : Ob} {Rc : T → Ob → Prop} {R : St → Prop}
    (hc : evalT σ.slots c = some (.v (.func (.func f) first captured))) (hx : evalL σ.slots args.toList = some xs) (hys : first.toList.map T.v ++ xs ++ captured.toList.map T.v = ys)
    (hk : σ.objs[kp]? = some (b, ob)) (h : ACalls E f ys [(b, ob)] (fun x fp' => ∃ ob', fp' = [(b, ob')] ∧ Rc x ob')) (hd : ∀ d, dst = some d → d < n)
    (k : ∀ x ob', Rc x ob' → R ⟨putS σ.slots dst x, σ.objs.set kp (b, ob')⟩) :
    AX E n C [kp] ⟨dst, .call { callee := .value c, args := args, argTypes := tys }, ty, pos, aft, g⟩ σ R := by
  refine AX.call hc hx hys h (fun p hp => by simp at hp; subst hp; exact List.mem_of_getElem? hk) (by simp) hd ?_
  rintro H a w H' w' v x fp' gm ⟨ob', rfl, q2⟩ q3 q4 q5 q6 q7 q8 q10 q9
  refine ⟨σ.objs.set kp (b, ob'), k x ob' q2, gm.called (fp := [(b, ob)]) (fp' := [(b, ob')]) (fun p hp => by simp at hp; subst hp; exact List.mem_of_getElem? hk) q4 q5 q6 q8 q10 q9 ?_ (nodup_set hk gm.nodup), ?_⟩
  · intro p hp
    obtain ⟨i, hi, he⟩ := List.getElem_of_mem hp
    have hp' : (σ.objs.set kp (b, ob'))[i]? = some p := by rw [List.getElem?_eq_getElem hi, he]
    by_cases hki : kp = i
    · subst hki
      rw [List.getElem?_set_self (List.getElem?_eq_some_iff.1 hk).1] at hp'
      cases hp'; exact .inl (by simp)
    · rw [List.getElem?_set_ne hki] at hp'
      exact .inr ⟨List.mem_of_getElem? hp', by simp; exact fun h => nodup_ne gm.nodup hk hp' hki h.symm⟩
  · intro i p hp hm
    have hne : kp ≠ i := fun h => by subst h; simp at hm
    exact ⟨set_keeps hp hne, (q9 p.1 (gm.objs p (List.mem_of_getElem? hp)).lt (by simp; exact fun h => nodup_ne gm.nodup hk hp hne h.symm)).1⟩

/-- A call that makes one object. -/
theorem AX.callN {c : Operand} {args : Array Operand} {tys : Array TypeId} {f : FuncId} {first captured : Array Value} {xs ys : List T} {Rc : T → Nat → Ob → Prop} {R : St → Prop}
    (hc : evalT σ.slots c = some (.v (.func (.func f) first captured))) (hx : evalL σ.slots args.toList = some xs) (hys : first.toList.map T.v ++ xs ++ captured.toList.map T.v = ys)
    (h : ACalls E f ys [] (fun x fp' => ∃ b' ob', fp' = [(b', ob')] ∧ Rc x b' ob')) (hd : ∀ d, dst = some d → d < n)
    (k : ∀ x b' ob', Rc x b' ob' → R ⟨putS σ.slots dst x, σ.objs ++ [(b', ob')]⟩) :
    AX E n C [] ⟨dst, .call { callee := .value c, args := args, argTypes := tys }, ty, pos, aft, g⟩ σ R := by
  refine AX.call hc hx hys h (by simp) (by simp) hd ?_
  rintro H a w H' w' v x fp' gm ⟨b', ob', rfl, q2⟩ q3 q4 q5 q6 q7 q8 q10 q9
  have hb' : w.heap.size ≤ b' := by
    rcases (q6 (b', ob') (by simp)).2.2 with h | h
    · exact h
    · simp at h
  refine ⟨σ.objs ++ [(b', ob')], k x b' ob' q2, gm.called (fp := []) (fp' := [(b', ob')]) (by simp) q4 q5 q6 q8 q10 q9 ?_ ?_, ?_⟩
  · intro p hp
    rcases List.mem_append.1 hp with h | h
    · exact .inr ⟨h, by simp⟩
    · exact .inl h
  · rw [List.map_append, List.nodup_append]
    refine ⟨gm.nodup, by simp, ?_⟩
    intro y hy z hz
    simp only [List.map_cons, List.map_nil, List.mem_singleton] at hz
    obtain ⟨p, hp, rfl⟩ := List.mem_map.1 hy
    have := (gm.objs p hp).lt
    omega
  · intro i p hp _
    exact ⟨append_keeps hp, (q9 p.1 (gm.objs p (List.mem_of_getElem? hp)).lt (by simp)).1⟩

/-! ### The frame of a function's proof -/

def argS : Nat → List T → Slots
  | _, [] => []
  | k, x :: l => (k, x) :: argS (k + 1) l

theorem argS_get : ∀ (l : List T) (k i : Nat) (x : T), get (argS k l) i = some x → k ≤ i ∧ l[i - k]? = some x
  | [], k, i, x, h => by simp [argS, get] at h
  | y :: l, k, i, x, h => by
    simp only [argS, get] at h
    cases hb : Nat.beq k i with
    | true =>
      have := Nat.eq_of_beq_eq_true hb
      subst this
      simp only [hb, cond_true, Option.some.injEq] at h
      subst h; simp
    | false =>
      simp only [hb, cond_false] at h
      obtain ⟨h1, h2⟩ := argS_get l (k + 1) i x h
      refine ⟨by omega, ?_⟩
      rw [show i - k = (i - (k + 1)) + 1 by omega]
      simpa using h2

/-- The results of a function, read off its slots (or off an object that a slot points to). -/
def ResR (E : Env) (s : Slots) (objs : List (Nat × Ob)) : List ResultVar → List T → Prop
  | [], [] => True
  | .tmp t :: l, x :: xs => get s t = some x ∧ ResR E s objs l xs
  | .cell c t :: l, x :: xs => (∃ (k b tt sz cap : Nat) (es : List (List T)) (e : List T) (ti : TI), get s c = some (.v (.pointer (some ⟨b, 0, none⟩))) ∧ objs[k]? = some (b, .arr tt sz cap es) ∧ es[0]? = some e ∧
      E.tab t = some ti ∧ partT ti e 0 = some x) ∧ ResR E s objs l xs
  | _, _ => False

def resV : List T → T
  | [x] => x
  | l => .tup l

def Post (E : Env) (fn : Func) (R : T → List (Nat × Ob) → Prop) (e : Exit) (σ : St) : Prop :=
  (e = .normal ∨ e = .ret) ∧ ∃ xs fp', ResR E σ.slots σ.objs fn.results.toList xs ∧ fp'.Sublist σ.objs ∧ R (resV xs) fp'

theorem ResR_spec {s : Slots} {objs : List (Nat × Ob)} {H : GH} {a : Act} {w : World} (r : SR n s H a) (wr : WR objs H w) : ∀ {l : List ResultVar} {xs : List T}, ResR E s objs l xs →
    ∃ vs : List Value, (l.mapM fun (x : ResultVar) => (match x with | .tmp t => pure (a.tmps.getD t undef) | .cell c t => do loadVar t (← asAddr (a.tmps.getD c undef)) : Sem Value)).run E.P w = .ok vs w ∧
      vs.length = xs.length ∧ ∀ (i : Nat) (x : T), xs[i]? = some x → VR H (vs.getD i undef) x
  | [], [], _ => ⟨[], by simp, rfl, by simp⟩
  | .tmp t :: l, x :: xs, h => by
    obtain ⟨h1, h2⟩ := h
    obtain ⟨vs, k1, k2, k3⟩ := ResR_spec r wr h2
    refine ⟨a.tmps.getD t undef :: vs, ?_, by simp [k2], fun i y hy => ?_⟩
    · simp only [List.mapM_cons, Sem.run_bind, Sem.run_pure, Result.andThen_ok, k1]
    · cases i with
      | zero => simp at hy; subst hy; exact r.slots t _ h1
      | succ i => simp only [List.getElem?_cons_succ] at hy; simpa using k3 i y hy
  | .cell c t :: l, x :: xs, h => by
    obtain ⟨⟨k, b, tt, sz, cap, es, e, ti, g1, g2, g3, g4, g5⟩, h2⟩ := h
    obtain ⟨vs, k1, k2, k3⟩ := ResR_spec r wr h2
    have hv := (r.slots c _ g1).v_eq
    obtain ⟨cs, a1, a2, a3, h1, hvs⟩ := OR.cells (wr.objs _ (List.mem_of_getElem? g2)) g3
    have hl := run_loadVar_part (j := 0) (E.ok _ _ g4) a1 a2 h1 hvs g5
    obtain ⟨p1, p2⟩ := partT_cells a2 h1 hvs g5
    simp only [Nat.zero_mul, Nat.zero_add] at hl p1 p2
    refine ⟨loadVal ti cs 0 :: vs, ?_, by simp [k2], fun i y hy => ?_⟩
    · have ha : (asAddr (a.tmps.getD c undef)).run E.P w = .ok ⟨b, 0, none⟩ w := by rw [hv]; rfl
      simp only [List.mapM_cons, Sem.run_bind, Sem.run_pure, Result.andThen_ok, ha, hl, k1]
    · cases i with
      | zero =>
        simp at hy; subst hy
        cases ha : ti.isAgg with
        | true => simpa [loadVal, ha] using (p1 ha).2
        | false => simpa [loadVal, ha] using (p2 ha).2
      | succ i => simp only [List.getElem?_cons_succ] at hy; simpa using k3 i y hy
  | [], _ :: _, h => h.elim
  | .tmp _ :: _, [], h => h.elim
  | .cell _ _ :: _, [], h => h.elim

theorem results_spec {s : Slots} {objs : List (Nat × Ob)} {H : GH} {a : Act} {w : World} (r : SR n s H a) (wr : WR objs H w) {fn : Func} {xs : List T} (h : ResR E s objs fn.results.toList xs) :
    ∃ v, (results fn a.tmps).run E.P w = .ok v w ∧ VR H v (resV xs) := by
  obtain ⟨vs, k1, k2, k3⟩ := ResR_spec r wr h
  have hm : (fn.results.mapM fun (x : ResultVar) => (match x with | .tmp t => pure (a.tmps.getD t undef) | .cell c t => do loadVar t (← asAddr (a.tmps.getD c undef)) : Sem Value)).run E.P w = .ok vs.toArray w := by
    rw [Array.mapM_eq_mapM_toList]
    refine (Sem.run_map E.P w _ _).trans ?_
    rw [k1]; rfl
  refine ⟨if h : vs.toArray.size = 1 then vs.toArray[0] else .tuple vs.toArray, ?_, ?_⟩
  · unfold results
    refine (Sem.run_bind E.P w _ _).trans ?_
    refine (congrArg (fun r => Result.andThen r _) hm).trans ?_
    rfl
  · by_cases h1 : vs.length = 1
    · obtain ⟨v, rfl⟩ := List.length_eq_one_iff.1 h1
      obtain ⟨x, rfl⟩ := List.length_eq_one_iff.1 (k2.symm.trans h1)
      simpa [resV] using k3 0 x (by simp)
    · have hne : resV xs = .tup xs := by
        cases xs with
        | nil => rfl
        | cons x l =>
          cases l with
          | nil => exact absurd k2 (by simpa using h1)
          | cons y l => rfl
      rw [hne]
      simp only [List.size_toArray, h1, dite_false]
      exact .tup _ _ (by simpa using k2) (fun j x hx => by simpa [Array.getD_eq_getD_getElem?, List.getD] using k3 j x hx)

theorem ACalls.of_body {f : FuncId} {fn : Func} {c : Code} {xs : List T} {fp : List (Nat × Ob)} {R : T → List (Nat × Ob) → Prop} (hf : E.P.funcs[f]? = some fn) (hb : fn.body = some c) (hname : (fn.name == "runtime.NumGoroutine") = false)
    (hn : Nat.ble xs.length fn.ntmps = true) (h : ∀ C : Ctx, C.fp = fp.map Prod.fst → AW E fn.ntmps C c ⟨argS 0 xs, fp⟩ (Post E fn R)) : ACalls E f xs fp R := by
  refine ⟨⟨fn, hf, hname, by simp [hb]⟩, ?_⟩
  intro H w vs hsz hv hheld hfp hnd
  refine calls_of_wp hf hb ?_
  have hn' := Nat.le_of_ble_eq_true hn
  have gm : Gam fn.ntmps ⟨w, H, fp.map Prod.fst⟩ ⟨argS 0 xs, fp⟩ H { tmps := vs ++ Array.replicate (fn.ntmps - vs.size) undef, defers := [] } w := by
    refine ⟨rfl, by simp; omega, fun i x hx => ?_, fun p hp => (hfp p hp).1, fun p hp => (hfp p hp).2, fun p hp => .inr (List.mem_map_of_mem hp), hnd, hheld, fun _ _ h => h, Nat.le_refl _, fun _ _ _ => ⟨rfl, rfl⟩, ⟨rfl, rfl, rfl⟩⟩
    obtain ⟨_, h2⟩ := argS_get xs 0 i x hx
    simp only [Nat.sub_zero] at h2
    have hi := (List.getElem?_eq_some_iff.1 h2).1
    have he : (vs ++ Array.replicate (fn.ntmps - vs.size) undef).getD i undef = vs.getD i undef := by
      simp [Array.getD_eq_getD_getElem?, Array.getElem?_append, show i < vs.size by omega]
    rw [he]; exact hv i x h2
  refine wp_mono (h ⟨w, H, fp.map Prod.fst⟩ rfl H _ w gm) ?_
  rintro e a' w' ⟨σ', H', ⟨he, ys, fp', r1, r2, r3⟩, gm'⟩
  obtain ⟨v, k1, k2⟩ := results_spec gm'.sr gm'.wr r1
  have hpost : a'.defers = [] ∧ ∃ v, (results fn a'.tmps).run E.P w' = .ok v w' ∧ ∃ v_1 x fp' H', Ending.returned v = Ending.returned v_1 ∧ R x fp' ∧ VR H' v_1 x ∧ (∀ b o, H b = some o → H' b = some o) ∧ (∀ b o, H' b = some o → w'.heap[b]? = some o) ∧
      (∀ p, p ∈ fp' → OR H' w' p.1 p.2 ∧ H' p.1 = none ∧ (w.heap.size ≤ p.1 ∨ p.1 ∈ fp.map Prod.fst)) ∧ (fp'.map Prod.fst).Nodup ∧ w.heap.size ≤ w'.heap.size ∧
      (w'.os = w.os ∧ w'.tape = w.tape ∧ w'.output = w.output) ∧ ∀ b, b < w.heap.size → b ∉ fp.map Prod.fst → w'.heap[b]? = w.heap[b]? ∧ H' b = H b :=
    ⟨gm'.defers, v, k1, v, _, fp', H', rfl, r3, k2, gm'.grow, gm'.held, fun p hp => ⟨gm'.objs p (r2.subset hp), gm'.free p (r2.subset hp), gm'.new p (r2.subset hp)⟩, (r2.map Prod.fst).nodup gm'.nodup, gm'.heap, gm'.env, gm'.frame⟩
  rcases he with rfl | rfl
  · exact hpost
  · exact hpost

end
end Go.Aw
