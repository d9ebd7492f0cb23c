/- The library's sort and its compaction of a slice of whole numbers of the call's own: what they leave. No condition. -/
import Derived.Test.YtncfbhnecmnfpaaGreatDoorBwLift
import Derived.Shelf.Sort.Plain
import Derived.Shelf.Slices.CompactI
import Derived.Sort.OwnSortedInts
namespace Go.Aw
set_option linter.unusedVariables false
set_option linter.unusedSimpArgs false
open Go.Sort

/-- A row of a block whose cells were written anew. -/
theorem ArrR.anew {H H' : GH} {w w' : World} {b ty cap : Nat} {s0 ts es : List Int} {cs : Array Value} (hb : w.heap[b]? = some (.cells cs ty (0, 0))) (hsz : cs.size = cap * 1) (hcap : s0.length ≤ cap) (hmax : s0.length ≤ maxL)
    (hl : ts.length = s0.length) (hp : es.length ≤ ts.length) (hpre : ts.take es.length = es) (hb' : w'.heap[b]? = some (.cells (putCells (Value.int .i64) 0 ts.toArray cs) ty (0, 0))) : ArrR H' w' b ty 1 cap (es.map rI) := by
  refine ⟨_, hb', by simp [putCells, hsz], by simp; omega, by simp; omega, fun i e he => ?_, fun i e he j x hx => ?_⟩
  · rw [List.getElem?_map] at he
    obtain ⟨n, _, rfl⟩ := Option.map_eq_some_iff.1 he
    rfl
  · rw [List.getElem?_map] at he
    obtain ⟨n, hn, rfl⟩ := Option.map_eq_some_iff.1 he
    have hj : j = 0 := by have := (List.getElem?_eq_some_iff.1 hx).1; simp [rI] at this; exact this
    subst hj
    simp [rI] at hx
    subst hx
    have hi := (List.getElem?_eq_some_iff.1 hn).1
    have hti : ts[i]? = some n := by
      rw [← hpre, List.getElem?_take_of_lt hi] at hn; exact hn
    have hil := (List.getElem?_eq_some_iff.1 hti).1
    have : (putCells (Value.int .i64) 0 ts.toArray cs).getD (i * 1 + 0) undef = .int .i64 n := by
      rw [Array.getD_eq_getD_getElem?]
      simp only [putCells, Array.getElem?_mapIdx, Nat.mul_one, Nat.add_zero]
      have hcs : i < cs.size := by omega
      rw [Array.getElem?_eq_getElem hcs]
      simp [hil]
      exact (List.getElem?_eq_some_iff.1 hti).2
    rw [this]
    exact ⟨rfl, .v _⟩

theorem ArrR.held {H : GH} {w : World} {b ty cap : Nat} {s0 : List Int} (h : ArrR H w b ty 1 cap (s0.map rI)) :
    ∃ cs, w.heap[b]? = some (.cells cs ty (0, 0)) ∧ cs.size = cap * 1 ∧ s0.length ≤ cap ∧ s0.length ≤ maxL ∧ Holds (Value.int .i64) w b 0 s0.toArray := by
  obtain ⟨cs, h1, h2, h3, h4, h5, h6⟩ := h
  rw [List.length_map] at h3 h4
  refine ⟨cs, h1, h2, h3, h4, fun j hj => ⟨?_, by simp [World.frozen?, h1]⟩⟩
  have hj' : j < s0.length := by simpa using hj
  have := (h6 j (rI s0[j]) (by rw [List.getElem?_map, List.getElem?_eq_getElem hj']; rfl) 0 (.v (.int .i64 s0[j])) rfl).2.v_eq
  rw [Nat.mul_one, Nat.add_zero] at this
  have hcs : j < cs.size := by omega
  simp only [World.cell?, h1, Nat.zero_add]
  rw [Array.getD_eq_getD_getElem?, Array.getElem?_eq_getElem hcs] at this
  simp at this ⊢
  rw [Array.getElem?_eq_getElem hcs, this]; simp [hj']

theorem compact_len (l : List Int) : (Lib.compact l).length ≤ l.length := by
  unfold Lib.compact Lib.compactUpTo
  rw [List.length_map]
  exact Nat.le_trans (List.length_filter_le _ _) (by simp)

section
variable {E : Env}
def sorted (l : List Int) : List Int := l.mergeSort fun x y => decide (x ≤ y)
def ins (x : Int) : List Int → List Int
  | [] => [x]
  | y :: l => if x ≤ y then x :: y :: l else y :: ins x l
def isort : List Int → List Int
  | [] => []
  | x :: l => ins x (isort l)
theorem ins_perm (x : Int) : ∀ l : List Int, (ins x l).Perm (x :: l)
  | [] => .refl _
  | y :: l => by
    simp only [ins]
    split
    · exact .refl _
    · exact ((ins_perm x l).cons y).trans (.swap x y l)
theorem isort_perm : ∀ l : List Int, (isort l).Perm l
  | [] => .refl _
  | x :: l => (ins_perm x (isort l)).trans ((isort_perm l).cons x)
theorem ins_up (x : Int) : ∀ l : List Int, l.Pairwise (· ≤ ·) → (ins x l).Pairwise (· ≤ ·)
  | [], _ => by simp [ins]
  | y :: l, h => by
    simp only [ins]
    rw [List.pairwise_cons] at h
    split
    · rename_i hxy
      refine List.pairwise_cons.2 ⟨fun z hz => ?_, List.pairwise_cons.2 h⟩
      rcases List.mem_cons.1 hz with rfl | hz
      · exact hxy
      · have := h.1 z hz; omega
    · refine List.pairwise_cons.2 ⟨fun z hz => ?_, ins_up x l h.2⟩
      rcases List.mem_cons.1 ((ins_perm x l).mem_iff.1 hz) with rfl | hz
      · omega
      · exact h.1 z hz
theorem isort_up : ∀ l : List Int, (isort l).Pairwise (· ≤ ·)
  | [] => .nil
  | x :: l => ins_up x _ (isort_up l)
theorem sorted_up (l : List Int) : (sorted l).Pairwise (· ≤ ·) := by
  have := List.pairwise_mergeSort (le := fun x y : Int => decide (x ≤ y)) (by intro a b c; simp; omega) (by intro a b; simp; omega) l
  exact this.imp (by intro a b h; simpa using h)
theorem sorted_eq (l : List Int) : sorted l = isort l :=
  List.Perm.eq_of_pairwise (fun a b _ _ h1 h2 => by omega) (sorted_up l) (isort_up l) ((List.mergeSort_perm l _).trans (isort_perm l).symm)
theorem sorted_len (l : List Int) : (sorted l).length = l.length := by unfold sorted; simp

/-- slices.Sort of a slice of the call's own that is not empty. -/
theorem ACalls.sortI {f : FuncId} {ety : Nat} (hfn : ∃ fn, E.P.funcs[f]? = some fn ∧ (fn.name == "runtime.NumGoroutine") = false ∧ fn.body.isNone = false)
    (hc : ∀ (blk off cap : Nat) (zs : List Int) (w : World), Holds (Value.int .i64) w blk off zs.toArray → blk < w.heap.size → zs.length < 4611686018427387904 →
      Calls E.P f #[.slice (some ⟨blk, off, none⟩) zs.length cap] w fun e w' => e = .returned (.tuple #[]) ∧ ∃ n os, w' = grow (putRow (Value.int .i64) (Sort.ahead w n) blk off (zs.mergeSort fun x y => decide (x ≤ y)).toArray) os)
    {u0 : Value} {s0 : List Int} (hne : s0 ≠ []) :
    ACalls E f [.v u0] [.us u0 ety 1 (s0.map rI)] (Gives 1 fun x os new => x = .tup [] ∧ os = [.us u0 ety 1 ((sorted s0).map rI)] ∧ new = []) := by
  refine ⟨hfn, fun H w vs hsz hv hheld hfp hnd => ?_⟩
  have hor := (hfp _ (List.mem_singleton.2 rfl)).1
  have hfree := (hfp _ (List.mem_singleton.2 rfl)).2
  rcases (show UsR H w u0 ety 1 (s0.map rI) from hor) with ⟨_, h⟩ | ⟨b, c, cap, rfl, hlc, hcc, harr⟩
  · exact absurd (List.map_eq_nil_iff.1 h) hne
  rw [List.length_map] at hlc
  obtain ⟨cs, h1, h2, h3, h4, hH⟩ := harr.held
  have hbl : b < w.heap.size := (Array.getElem?_eq_some_iff.1 h1).1
  have hvs : vs = #[.slice (some ⟨b, 0, none⟩) s0.length c] := by
    have := (hv 0 _ rfl).v_eq
    obtain ⟨l⟩ := vs
    match l, hsz, this with
    | [x], _, this => simp [Array.getD] at this; subst this; simp
  subst hvs
  refine (hc b 0 c s0 w hH hbl (by simp only [maxL] at h4; omega)).mono ?_
  rintro e w' ⟨rfl, n, os, rfl⟩
  have hb' := heap_sortedI (n := n) (os := os) (s0.mergeSort fun x y => decide (x ≤ y)).toArray h1
  obtain ⟨g1, g2, g3, g4, g5⟩ := grownBy_sortedI (w := w) (g := b) (n := n) (os := os) (s0.mergeSort fun x y => decide (x ≤ y)).toArray
  have hbH : H b = none := hfree b (by simp [Ob.fp, bls])
  refine ⟨.tuple #[], .tup [], [.us (.slice (some ⟨b, 0, none⟩) (s0.map rI).length c) ety 1 ((sorted s0).map rI)], H, rfl, ⟨[_], [], rfl, rfl, rfl, rfl, rfl⟩, .tup _ _ rfl (by simp), fun _ _ h => h, fun b' o ho => ?_, fun p hp => ?_, ?_, g4, ⟨g1, g2, g3⟩, fun b' hb'' hnin => ⟨?_, rfl⟩⟩
  · have hb2 := hheld.1 b' o ho
    have hne' : b' ≠ b := fun h => by rw [h, hbH] at ho; cases ho
    have hl' : b' < w.heap.size := (Array.getElem?_eq_some_iff.1 hb2).1
    rw [g5 b' hl' (by simp; omega)]; exact hb2
  · rw [List.mem_singleton] at hp
    subst hp
    refine ⟨.inr ⟨b, c, cap, by simp [sorted_len], by simp [sorted_len]; omega, hcc, ?_⟩, fun b' hb'' => ?_⟩
    · exact ArrR.anew (H := H) h1 h2 h3 h4 (sorted_len s0) (Nat.le_refl _) (by simp) hb'
    · simp only [Ob.fp, bls, List.mem_singleton] at hb''
      subst hb''
      exact ⟨hbH, .inr (by simp [Ob.fp, bls])⟩
  · simp [Ob.fp, bls]
  · have hne' : b' ≠ b := fun h => hnin (by simp [Ob.fp, bls, h])
    exact g5 b' hb'' (by simp; omega)

/-- slices.Compact of a slice of the call's own that is not empty: what stays of it is the result. -/
theorem ACalls.compactI {f : FuncId} {ety : Nat} (hfn : ∃ fn, E.P.funcs[f]? = some fn ∧ (fn.name == "runtime.NumGoroutine") = false ∧ fn.body.isNone = false)
    (hc : ∀ (blk off cap : Nat) (zs : List Int) (w : World), Holds (Value.int .i64) w blk off zs.toArray → zs.length ≤ 9223372036854775807 → zs.length ≤ cap →
      Calls E.P f #[.slice (some ⟨blk, off, none⟩) zs.length cap] w fun e w' => e = .returned (.slice (some ⟨blk, off, none⟩) (Lib.compact zs).length cap) ∧
        ∃ q, w' = putRow (Value.int .i64) (Sort.ahead w q) blk off (Lib.compact zs ++ List.replicate (zs.length - (Lib.compact zs).length) 0).toArray)
    {u0 : Value} {s0 : List Int} (hne : s0 ≠ []) :
    ACalls E f [.v u0] [.us u0 ety 1 (s0.map rI)] (Gives 1 fun x os new => ∃ u1 : Value, x = .v u1 ∧ os = [.us (.slice none 0 0) ety 1 (([] : List Int).map rI)] ∧ new = [.us u1 ety 1 ((Lib.compact s0).map rI)]) := by
  refine ⟨hfn, fun H w vs hsz hv hheld hfp hnd => ?_⟩
  have hor := (hfp _ (List.mem_singleton.2 rfl)).1
  have hfree := (hfp _ (List.mem_singleton.2 rfl)).2
  rcases (show UsR H w u0 ety 1 (s0.map rI) from hor) with ⟨_, h⟩ | ⟨b, c, cap, rfl, hlc, hcc, harr⟩
  · exact absurd (List.map_eq_nil_iff.1 h) hne
  rw [List.length_map] at hlc
  obtain ⟨cs, h1, h2, h3, h4, hH⟩ := harr.held
  have hbl : b < w.heap.size := (Array.getElem?_eq_some_iff.1 h1).1
  have hvs : vs = #[.slice (some ⟨b, 0, none⟩) s0.length c] := by
    have := (hv 0 _ rfl).v_eq
    obtain ⟨l⟩ := vs
    match l, hsz, this with
    | [x], _, this => simp [Array.getD] at this; subst this; simp
  subst hvs
  have hcl := compact_len s0
  refine (hc b 0 c s0 w hH (by simp only [maxL] at h4; omega) hlc).mono ?_
  rintro e w' ⟨rfl, n, rfl⟩
  have hb' := heap_sortedI (n := n) (os := #[]) (Lib.compact s0 ++ List.replicate (s0.length - (Lib.compact s0).length) 0).toArray h1
  obtain ⟨g1, g2, g3, g4, g5⟩ := grownBy_sortedI (w := w) (g := b) (n := n) (os := #[]) (Lib.compact s0 ++ List.replicate (s0.length - (Lib.compact s0).length) 0).toArray
  rw [grow_empty] at hb' g1 g2 g3 g4 g5
  have hbH : H b = none := hfree b (by simp [Ob.fp, bls])
  refine ⟨_, .v (.slice (some ⟨b, 0, none⟩) (Lib.compact s0).length c), [.us (.slice none 0 0) ety 1 (([] : List Int).map rI), .us (.slice (some ⟨b, 0, none⟩) (Lib.compact s0).length c) ety 1 ((Lib.compact s0).map rI)], H, rfl, ⟨[_], [_], rfl, rfl, _, rfl, rfl, rfl⟩, .v _, fun _ _ h => h, fun b' o ho => ?_, fun p hp => ?_, ?_, g4, ⟨g1, g2, g3⟩, fun b' hb'' hnin => ⟨?_, rfl⟩⟩
  · have hb2 := hheld.1 b' o ho
    have hne' : b' ≠ b := fun h => by rw [h, hbH] at ho; cases ho
    have hl' : b' < w.heap.size := (Array.getElem?_eq_some_iff.1 hb2).1
    rw [g5 b' hl' (by simp; omega)]; exact hb2
  · simp only [List.mem_cons, List.not_mem_nil, or_false] at hp
    rcases hp with rfl | rfl
    · exact ⟨.inl ⟨rfl, rfl⟩, fun b' hb'' => by simp [Ob.fp, bls] at hb''⟩
    refine ⟨.inr ⟨b, c, cap, by simp, by simp; omega, hcc, ?_⟩, fun b' hb'' => ?_⟩
    · exact ArrR.anew (H := H) h1 h2 h3 h4 (by simp; omega) (by simp) (by simp) hb'
    · simp only [Ob.fp, bls, List.mem_singleton] at hb''
      subst hb''
      exact ⟨hbH, .inr (by simp [Ob.fp, bls])⟩
  · simp [Ob.fp, bls]
  · have hne' : b' ≠ b := fun h => hnin (by simp [Ob.fp, bls, h])
    exact g5 b' hb'' (by simp; omega)

end
end Go.Aw
