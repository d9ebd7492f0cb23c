/- What a table of pairs of ints, laid by the program's text, holds when the call begins. No condition. -/
import Derived.Test.YtncfbhnecmnfpaaGreatDoorBwLaw
import Derived.OpenShut
import Derived.ChangeSame
import Derived.LaidMore
import Derived.MakeChecks
import Derived.Stop.Joined
namespace Go.Aw
set_option linter.unusedVariables false
set_option linter.unusedSimpArgs false
open Go.ChangeShapes Go.WideShapes Go.ChangeAt Go.RowKit

section
variable {H : Type} {enc : TypeId × Value → H} {P : Program} {w : World} {base : Nat} {spare : Nat → Bool} {held : Bool} {fuel : Nat} {t e i : TypeId} {cs : List Value} {p : List MemPlace}

theorem pair_cells {f0 f1 : Field} (ht : P.underlying t = some (.struct #[f0, f1])) (o0 : f0.offset = 0) (o1 : f1.offset = 1) (y0 : f0.type = i) (y1 : f1.type = i) (hi : P.underlying i = some (.int .i64)) (hc : P.cellsOf i = 1) (hct : P.cellsOf t = 2)
    {x : DataW H × List MemPlace} {a b : Int} (hx : x.1 = .agg [.lit (.int .i64 a), .lit (.int .i64 b)]) (h : DataW.trod enc P w base spare held fuel t cs = some x) : cs = [.int .i64 a, .int .i64 b] := by
  obtain ⟨z0, z1, n, rfl, hl, h0, h1⟩ := trod_struct2 ht h
  rw [hct] at hl
  rw [y0] at h0
  rw [y1] at h1
  obtain ⟨m0, e0, rfl, _⟩ := DataW.trod_int hi h0
  obtain ⟨m1, e1, rfl, _⟩ := DataW.trod_int hi h1
  rw [hc, o0] at e0
  rw [hc, o1] at e1
  simp only [DataW.agg.injEq, List.cons.injEq, DataW.lit.injEq, Lit.int.injEq, true_and, and_true] at hx
  match cs, hl with
  | [c0, c1], _ =>
    simp at e0 e1
    rw [e0, e1, hx.1, hx.2]

theorem spans_cells {f0 f1 : Field} (ht : P.underlying t = some (.array 4 e)) (he : P.underlying e = some (.struct #[f0, f1])) (o0 : f0.offset = 0) (o1 : f1.offset = 1) (y0 : f0.type = i) (y1 : f1.type = i) (hi : P.underlying i = some (.int .i64)) (hc : P.cellsOf i = 1) (hct : P.cellsOf e = 2) (hca : P.cellsOf t = 8)
    {a0 a1 a2 a3 a4 a5 a6 a7 : Int}
    (h : DataW.trod enc P w base spare held fuel t cs = some (.agg [.agg [.lit (.int .i64 a0), .lit (.int .i64 a1)], .agg [.lit (.int .i64 a2), .lit (.int .i64 a3)], .agg [.lit (.int .i64 a4), .lit (.int .i64 a5)], .agg [.lit (.int .i64 a6), .lit (.int .i64 a7)]], p)) :
    cs = [a0, a1, a2, a3, a4, a5, a6, a7].map fun n => .int .i64 n := by
  obtain ⟨xs, m, _, hx, hl, hn, hel⟩ := DataW.trod_array ht h
  rw [hca] at hl
  match xs, hn with
  | [x0, x1, x2, x3], _ =>
    simp only [Prod.mk.injEq, DataW.agg.injEq, List.map_cons, List.map_nil, List.cons.injEq, and_true] at hx
    obtain ⟨⟨g0, g1, g2, g3⟩, _⟩ := hx
    have k0 := pair_cells he o0 o1 y0 y1 hi hc hct g0.symm (by simpa using hel 0 (by decide))
    have k1 := pair_cells he o0 o1 y0 y1 hi hc hct g1.symm (by simpa using hel 1 (by decide))
    have k2 := pair_cells he o0 o1 y0 y1 hi hc hct g2.symm (by simpa using hel 2 (by decide))
    have k3 := pair_cells he o0 o1 y0 y1 hi hc hct g3.symm (by simpa using hel 3 (by decide))
    rw [hct] at k0 k1 k2 k3
    match cs, hl with
    | [c0, c1, c2, c3, c4, c5, c6, c7], _ =>
      simp at k0 k1 k2 k3
      simp [k0, k1, k2, k3]

theorem held_of {W : World} {n : String} {cs : Array Value} {l : List Int} (hn : P.globalNamed n = some 0) (h : W.var? P n = some cs) (hcs : cs.toList = l.map fun n => .int .i64 n) (hgl : gl = [(0, l.map fun n => .v (.int .i64 n))]) : Held fun b => W.heap[b]? := by
  have hb : ∃ ty fr, W.heap[0]? = some (.cells cs ty fr) := by
    simp only [World.var?, hn, Option.bind_some] at h
    split at h
    · rename_i c ty fr hh; cases h; exact ⟨ty, fr, hh⟩
    · cases h
  obtain ⟨ty, fr, hb⟩ := hb
  intro b m hm
  rw [hgl] at hm
  simp only [List.mem_cons, List.not_mem_nil, or_false, Prod.mk.injEq] at hm
  obtain ⟨rfl, rfl⟩ := hm
  have hget : ∀ (j : Nat) (x : T), (l.map fun n => T.v (.int .i64 n))[j]? = some x → ∃ n, x = .v (.int .i64 n) ∧ cs.getD (0 + j) undef = .int .i64 n := by
    intro j x hx
    simp only [List.getElem?_map, Option.map_eq_some_iff] at hx
    obtain ⟨n, hn, rfl⟩ := hx
    refine ⟨n, rfl, ?_⟩
    have : cs.toList[j]? = some (.int .i64 n) := by rw [hcs]; simp [hn]
    rw [Array.getElem?_toList] at this
    rw [Nat.zero_add, Array.getD_eq_getD_getElem?, this]; rfl
  refine .eptr 0 0 _ cs ty fr hb ?_ (fun j x hx => ?_) fun j x hx => ?_
  · have := congrArg List.length hcs
    simp at this
    simp; omega
  · obtain ⟨n, _, h⟩ := hget j x hx
    rw [h]; rfl
  · obtain ⟨n, rfl, h⟩ := hget j x hx
    rw [h]; exact .v _

end
end Go.Aw
