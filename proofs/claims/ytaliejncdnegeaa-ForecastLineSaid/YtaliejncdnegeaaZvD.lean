/- Tables and pure functions. No condition. -/
import Derived.Test.YtaliejncdnegeaaZvB2
import Derived.Test.YtaliejncdnegeaaRows
import Derived.KernelRfl
set_option maxRecDepth 100000
namespace Go.Aw
set_option linter.unusedVariables false
set_option linter.unusedSimpArgs false
inductive TT where
 | nil
 | node (l : TT) (k : Nat) (x : TI) (r : TT)
def getTT : TT → Nat → Option TI
 | .nil, _ => none
 | .node l k x r, i => bif Nat.beq k i then some x else bif Nat.ble k i then getTT r i else getTT l i
def allTT (P : Program) : TT → Prop
 | .nil => True
 | .node l k x r => allTT P l ∧ tiOf P k = some x ∧ allTT P r
theorem getTT_ok {P : Program} : ∀ {t : TT} {i : Nat} {x : TI}, allTT P t → getTT t i = some x → tiOf P i = some x
 | .nil, _, _, _, h => by simp [getTT] at h
 | .node l k y r, i, x, ha, h => by
  simp only [getTT] at h
  cases hb : Nat.beq k i with
  | true =>
   have := Nat.eq_of_beq_eq_true hb
   simp only [hb, cond_true, Option.some.injEq] at h
   subst h this; exact ha.2.1
  | false =>
   simp only [hb, cond_false] at h
   cases hc : Nat.ble k i with
   | true => simp only [hc, cond_true] at h; exact getTT_ok ha.2.2 h
   | false => simp only [hc, cond_false] at h; exact getTT_ok ha.1 h
end Go.Aw
namespace Go.Proofs.Ytaliejncdnegeaa
open Go.Aw
@[reducible] def Try.x3 : TI := { kind := .int .i64, size := 1, bytes := 8, zero := some (.int .i64 0) }
@[reducible] def Try.x4 : TI := { kind := .bool, size := 1, bytes := 1, zero := some (.bool false) }
@[reducible] def Try.x5 : TI := { kind := .int .u8, size := 1, bytes := 1, zero := some (.int .u8 0) }
@[reducible] def Try.x9 : TI := { kind := .string, size := 1, bytes := 16, zero := some (.string ⟨#[]⟩) }
@[reducible] def Try.x22 : TI := { kind := .slice 3, size := 1, bytes := 24, zero := some (.slice none 0 0) }
@[reducible] def Try.x27 : TI := { kind := .slice 9, size := 1, bytes := 24, zero := some (.slice none 0 0) }
@[reducible] def Try.x28 : TI := { kind := .slice 39, size := 1, bytes := 24, zero := some (.slice none 0 0) }
@[reducible] def Try.x29 : TI := { kind := .slice 45, size := 1, bytes := 24, zero := some (.slice none 0 0) }
@[reducible] def Try.x30 : TI := { kind := .slice 91, size := 1, bytes := 24, zero := some (.slice none 0 0) }
@[reducible] def Try.x32 : TI := { kind := .struct [(0, 27), (1, 28), (2, 29), (3, 30), (4, 3), (5, 3)], size := 6, bytes := 112, zero := some (.agg #[.slice none 0 0, .slice none 0 0, .slice none 0 0, .slice none 0 0, .int .i64 0, .int .i64 0]) }
@[reducible] def Try.x33 : TI := { kind := .slice 41, size := 1, bytes := 24, zero := some (.slice none 0 0) }
@[reducible] def Try.x35 : TI := { kind := .slice 5, size := 1, bytes := 24, zero := some (.slice none 0 0) }
@[reducible] def Try.x37 : TI := { kind := .slice 43, size := 1, bytes := 24, zero := some (.slice none 0 0) }
@[reducible] def Try.x39 : TI := { kind := .struct [(0, 9), (1, 3), (2, 3), (3, 3), (4, 3), (5, 3), (6, 37)], size := 7, bytes := 80, zero := some (.agg #[.string ⟨#[]⟩, .int .i64 0, .int .i64 0, .int .i64 0, .int .i64 0, .int .i64 0, .slice none 0 0]) }
@[reducible] def Try.x41 : TI := { kind := .struct [(0, 3), (1, 4)], size := 2, bytes := 16, zero := some (.agg #[.int .i64 0, .bool false]) }
@[reducible] def Try.x43 : TI := { kind := .struct [(0, 3), (1, 3), (2, 3)], size := 3, bytes := 24, zero := some (.agg #[.int .i64 0, .int .i64 0, .int .i64 0]) }
@[reducible] def Try.x45 : TI := { kind := .struct [(0, 9), (1, 3), (2, 3)], size := 3, bytes := 32, zero := some (.agg #[.string ⟨#[]⟩, .int .i64 0, .int .i64 0]) }
@[reducible] def Try.x46 : TI := { kind := .slice 4, size := 1, bytes := 24, zero := some (.slice none 0 0) }
@[reducible] def Try.x48 : TI := { kind := .struct [(0, 22), (1, 22), (2, 46)], size := 3, bytes := 72, zero := some (.agg #[.slice none 0 0, .slice none 0 0, .slice none 0 0]) }
@[reducible] def Try.x49 : TI := { kind := .slice 61, size := 1, bytes := 24, zero := some (.slice none 0 0) }
@[reducible] def Try.x51 : TI := { kind := .int .i64, size := 1, bytes := 8, zero := some (.int .i64 0) }
@[reducible] def Try.x60 : TI := { kind := .struct [(0, 3), (1, 3)], size := 2, bytes := 16, zero := some (.agg #[.int .i64 0, .int .i64 0]) }
@[reducible] def Try.x61 : TI := { kind := .slice 60, size := 1, bytes := 24, zero := some (.slice none 0 0) }
@[reducible] def Try.x63 : TI := { kind := .struct [(0, 22), (1, 3)], size := 2, bytes := 32, zero := some (.agg #[.slice none 0 0, .int .i64 0]) }
@[reducible] def Try.x75 : TI := { kind := .array 4 27, size := 4, bytes := 96, zero := some (.agg #[.slice none 0 0, .slice none 0 0, .slice none 0 0, .slice none 0 0]) }
@[reducible] def Try.x82 : TI := { kind := .other, size := 1, bytes := 8, zero := some (.pointer none) }
@[reducible] def Try.x87 : TI := { kind := .struct [(0, 32), (6, 48), (9, 22), (10, 22), (11, 49), (12, 49), (13, 49)], size := 14, bytes := 304, zero := some (.agg #[.slice none 0 0, .slice none 0 0, .slice none 0 0, .slice none 0 0, .int .i64 0, .int .i64 0, .slice none 0 0, .slice none 0 0, .slice none 0 0, .slice none 0 0, .slice none 0 0, .slice none 0 0, .slice none 0 0, .slice none 0 0]) }
@[reducible] def Try.x91 : TI := { kind := .struct [(0, 9), (1, 3), (2, 3), (3, 3), (4, 3)], size := 5, bytes := 48, zero := some (.agg #[.string ⟨#[]⟩, .int .i64 0, .int .i64 0, .int .i64 0, .int .i64 0]) }
@[reducible] def Try.x124 : TI := { kind := .array 24 3, size := 24, bytes := 192, zero := some (.agg #[.int .i64 0, .int .i64 0, .int .i64 0, .int .i64 0, .int .i64 0, .int .i64 0, .int .i64 0, .int .i64 0, .int .i64 0, .int .i64 0, .int .i64 0, .int .i64 0, .int .i64 0, .int .i64 0, .int .i64 0, .int .i64 0, .int .i64 0, .int .i64 0, .int .i64 0, .int .i64 0, .int .i64 0, .int .i64 0, .int .i64 0, .int .i64 0]) }
@[reducible] def Try.x126 : TI := { kind := .struct [(0, 124), (24, 124)], size := 48, bytes := 384, zero := some (.agg #[.int .i64 0, .int .i64 0, .int .i64 0, .int .i64 0, .int .i64 0, .int .i64 0, .int .i64 0, .int .i64 0, .int .i64 0, .int .i64 0, .int .i64 0, .int .i64 0, .int .i64 0, .int .i64 0, .int .i64 0, .int .i64 0, .int .i64 0, .int .i64 0, .int .i64 0, .int .i64 0, .int .i64 0, .int .i64 0, .int .i64 0, .int .i64 0, .int .i64 0, .int .i64 0, .int .i64 0, .int .i64 0, .int .i64 0, .int .i64 0, .int .i64 0, .int .i64 0, .int .i64 0, .int .i64 0, .int .i64 0, .int .i64 0, .int .i64 0, .int .i64 0, .int .i64 0, .int .i64 0, .int .i64 0, .int .i64 0, .int .i64 0, .int .i64 0, .int .i64 0, .int .i64 0, .int .i64 0, .int .i64 0]) }
@[reducible] def Try.x132 : TI := { kind := .array 64 3, size := 64, bytes := 512, zero := some (.agg #[.int .i64 0, .int .i64 0, .int .i64 0, .int .i64 0, .int .i64 0, .int .i64 0, .int .i64 0, .int .i64 0, .int .i64 0, .int .i64 0, .int .i64 0, .int .i64 0, .int .i64 0, .int .i64 0, .int .i64 0, .int .i64 0, .int .i64 0, .int .i64 0, .int .i64 0, .int .i64 0, .int .i64 0, .int .i64 0, .int .i64 0, .int .i64 0, .int .i64 0, .int .i64 0, .int .i64 0, .int .i64 0, .int .i64 0, .int .i64 0, .int .i64 0, .int .i64 0, .int .i64 0, .int .i64 0, .int .i64 0, .int .i64 0, .int .i64 0, .int .i64 0, .int .i64 0, .int .i64 0, .int .i64 0, .int .i64 0, .int .i64 0, .int .i64 0, .int .i64 0, .int .i64 0, .int .i64 0, .int .i64 0, .int .i64 0, .int .i64 0, .int .i64 0, .int .i64 0, .int .i64 0, .int .i64 0, .int .i64 0, .int .i64 0, .int .i64 0, .int .i64 0, .int .i64 0, .int .i64 0, .int .i64 0, .int .i64 0, .int .i64 0, .int .i64 0]) }
@[reducible] def Try.x134 : TI := { kind := .struct [(0, 3), (1, 132), (65, 132)], size := 129, bytes := 1032, zero := some (.agg #[.int .i64 0, .int .i64 0, .int .i64 0, .int .i64 0, .int .i64 0, .int .i64 0, .int .i64 0, .int .i64 0, .int .i64 0, .int .i64 0, .int .i64 0, .int .i64 0, .int .i64 0, .int .i64 0, .int .i64 0, .int .i64 0, .int .i64 0, .int .i64 0, .int .i64 0, .int .i64 0, .int .i64 0, .int .i64 0, .int .i64 0, .int .i64 0, .int .i64 0, .int .i64 0, .int .i64 0, .int .i64 0, .int .i64 0, .int .i64 0, .int .i64 0, .int .i64 0, .int .i64 0, .int .i64 0, .int .i64 0, .int .i64 0, .int .i64 0, .int .i64 0, .int .i64 0, .int .i64 0, .int .i64 0, .int .i64 0, .int .i64 0, .int .i64 0, .int .i64 0, .int .i64 0, .int .i64 0, .int .i64 0, .int .i64 0, .int .i64 0, .int .i64 0, .int .i64 0, .int .i64 0, .int .i64 0, .int .i64 0, .int .i64 0, .int .i64 0, .int .i64 0, .int .i64 0, .int .i64 0, .int .i64 0, .int .i64 0, .int .i64 0, .int .i64 0, .int .i64 0, .int .i64 0, .int .i64 0, .int .i64 0, .int .i64 0, .int .i64 0, .int .i64 0, .int .i64 0, .int .i64 0, .int .i64 0, .int .i64 0, .int .i64 0, .int .i64 0, .int .i64 0, .int .i64 0, .int .i64 0, .int .i64 0, .int .i64 0, .int .i64 0, .int .i64 0, .int .i64 0, .int .i64 0, .int .i64 0, .int .i64 0, .int .i64 0, .int .i64 0, .int .i64 0, .int .i64 0, .int .i64 0, .int .i64 0, .int .i64 0, .int .i64 0, .int .i64 0, .int .i64 0, .int .i64 0, .int .i64 0, .int .i64 0, .int .i64 0, .int .i64 0, .int .i64 0, .int .i64 0, .int .i64 0, .int .i64 0, .int .i64 0, .int .i64 0, .int .i64 0, .int .i64 0, .int .i64 0, .int .i64 0, .int .i64 0, .int .i64 0, .int .i64 0, .int .i64 0, .int .i64 0, .int .i64 0, .int .i64 0, .int .i64 0, .int .i64 0, .int .i64 0, .int .i64 0, .int .i64 0, .int .i64 0, .int .i64 0, .int .i64 0, .int .i64 0]) }
def Try.tabT : TT := (.node (.node (.node (.node (.node (.node .nil 3 Try.x3 .nil) 4 Try.x4 .nil) 5 Try.x5 (.node .nil 9 Try.x9 .nil)) 22 Try.x22 (.node (.node .nil 27 Try.x27 .nil) 28 Try.x28 (.node .nil 29 Try.x29 .nil))) 30 Try.x30 (.node (.node (.node .nil 32 Try.x32 .nil) 33 Try.x33 (.node .nil 35 Try.x35 .nil)) 37 Try.x37 (.node (.node .nil 39 Try.x39 .nil) 41 Try.x41 (.node .nil 43 Try.x43 .nil)))) 45 Try.x45 (.node (.node (.node (.node .nil 46 Try.x46 .nil) 48 Try.x48 (.node .nil 49 Try.x49 .nil)) 51 Try.x51 (.node (.node .nil 60 Try.x60 .nil) 61 Try.x61 (.node .nil 63 Try.x63 .nil))) 75 Try.x75 (.node (.node (.node .nil 82 Try.x82 .nil) 87 Try.x87 (.node .nil 91 Try.x91 .nil)) 124 Try.x124 (.node (.node .nil 126 Try.x126 .nil) 132 Try.x132 (.node .nil 134 Try.x134 .nil)))))
theorem Try.ti3 : tiOf Try.prog 3 = some { kind := .int .i64, size := 1, bytes := 8, zero := some (.int .i64 0) } := by kernel_rfl
theorem Try.ti4 : tiOf Try.prog 4 = some { kind := .bool, size := 1, bytes := 1, zero := some (.bool false) } := by kernel_rfl
theorem Try.ti5 : tiOf Try.prog 5 = some { kind := .int .u8, size := 1, bytes := 1, zero := some (.int .u8 0) } := by kernel_rfl
theorem Try.ti9 : tiOf Try.prog 9 = some { kind := .string, size := 1, bytes := 16, zero := some (.string ⟨#[]⟩) } := by kernel_rfl
theorem Try.ti22 : tiOf Try.prog 22 = some { kind := .slice 3, size := 1, bytes := 24, zero := some (.slice none 0 0) } := by kernel_rfl
theorem Try.ti27 : tiOf Try.prog 27 = some { kind := .slice 9, size := 1, bytes := 24, zero := some (.slice none 0 0) } := by kernel_rfl
theorem Try.ti28 : tiOf Try.prog 28 = some { kind := .slice 39, size := 1, bytes := 24, zero := some (.slice none 0 0) } := by kernel_rfl
theorem Try.ti29 : tiOf Try.prog 29 = some { kind := .slice 45, size := 1, bytes := 24, zero := some (.slice none 0 0) } := by kernel_rfl
theorem Try.ti30 : tiOf Try.prog 30 = some { kind := .slice 91, size := 1, bytes := 24, zero := some (.slice none 0 0) } := by kernel_rfl
theorem Try.ti32 : tiOf Try.prog 32 = some { kind := .struct [(0, 27), (1, 28), (2, 29), (3, 30), (4, 3), (5, 3)], size := 6, bytes := 112, zero := some (.agg #[.slice none 0 0, .slice none 0 0, .slice none 0 0, .slice none 0 0, .int .i64 0, .int .i64 0]) } := by kernel_rfl
theorem Try.ti33 : tiOf Try.prog 33 = some { kind := .slice 41, size := 1, bytes := 24, zero := some (.slice none 0 0) } := by kernel_rfl
theorem Try.ti35 : tiOf Try.prog 35 = some { kind := .slice 5, size := 1, bytes := 24, zero := some (.slice none 0 0) } := by kernel_rfl
theorem Try.ti37 : tiOf Try.prog 37 = some { kind := .slice 43, size := 1, bytes := 24, zero := some (.slice none 0 0) } := by kernel_rfl
theorem Try.ti39 : tiOf Try.prog 39 = some { kind := .struct [(0, 9), (1, 3), (2, 3), (3, 3), (4, 3), (5, 3), (6, 37)], size := 7, bytes := 80, zero := some (.agg #[.string ⟨#[]⟩, .int .i64 0, .int .i64 0, .int .i64 0, .int .i64 0, .int .i64 0, .slice none 0 0]) } := by kernel_rfl
theorem Try.ti41 : tiOf Try.prog 41 = some { kind := .struct [(0, 3), (1, 4)], size := 2, bytes := 16, zero := some (.agg #[.int .i64 0, .bool false]) } := by kernel_rfl
theorem Try.ti43 : tiOf Try.prog 43 = some { kind := .struct [(0, 3), (1, 3), (2, 3)], size := 3, bytes := 24, zero := some (.agg #[.int .i64 0, .int .i64 0, .int .i64 0]) } := by kernel_rfl
theorem Try.ti45 : tiOf Try.prog 45 = some { kind := .struct [(0, 9), (1, 3), (2, 3)], size := 3, bytes := 32, zero := some (.agg #[.string ⟨#[]⟩, .int .i64 0, .int .i64 0]) } := by kernel_rfl
theorem Try.ti46 : tiOf Try.prog 46 = some { kind := .slice 4, size := 1, bytes := 24, zero := some (.slice none 0 0) } := by kernel_rfl
theorem Try.ti48 : tiOf Try.prog 48 = some { kind := .struct [(0, 22), (1, 22), (2, 46)], size := 3, bytes := 72, zero := some (.agg #[.slice none 0 0, .slice none 0 0, .slice none 0 0]) } := by kernel_rfl
theorem Try.ti49 : tiOf Try.prog 49 = some { kind := .slice 61, size := 1, bytes := 24, zero := some (.slice none 0 0) } := by kernel_rfl
theorem Try.ti51 : tiOf Try.prog 51 = some { kind := .int .i64, size := 1, bytes := 8, zero := some (.int .i64 0) } := by kernel_rfl
theorem Try.ti60 : tiOf Try.prog 60 = some { kind := .struct [(0, 3), (1, 3)], size := 2, bytes := 16, zero := some (.agg #[.int .i64 0, .int .i64 0]) } := by kernel_rfl
theorem Try.ti61 : tiOf Try.prog 61 = some { kind := .slice 60, size := 1, bytes := 24, zero := some (.slice none 0 0) } := by kernel_rfl
theorem Try.ti63 : tiOf Try.prog 63 = some { kind := .struct [(0, 22), (1, 3)], size := 2, bytes := 32, zero := some (.agg #[.slice none 0 0, .int .i64 0]) } := by kernel_rfl
theorem Try.ti75 : tiOf Try.prog 75 = some { kind := .array 4 27, size := 4, bytes := 96, zero := some (.agg #[.slice none 0 0, .slice none 0 0, .slice none 0 0, .slice none 0 0]) } := by kernel_rfl
theorem Try.ti82 : tiOf Try.prog 82 = some { kind := .other, size := 1, bytes := 8, zero := some (.pointer none) } := by kernel_rfl
theorem Try.ti87 : tiOf Try.prog 87 = some { kind := .struct [(0, 32), (6, 48), (9, 22), (10, 22), (11, 49), (12, 49), (13, 49)], size := 14, bytes := 304, zero := some (.agg #[.slice none 0 0, .slice none 0 0, .slice none 0 0, .slice none 0 0, .int .i64 0, .int .i64 0, .slice none 0 0, .slice none 0 0, .slice none 0 0, .slice none 0 0, .slice none 0 0, .slice none 0 0, .slice none 0 0, .slice none 0 0]) } := by kernel_rfl
theorem Try.ti91 : tiOf Try.prog 91 = some { kind := .struct [(0, 9), (1, 3), (2, 3), (3, 3), (4, 3)], size := 5, bytes := 48, zero := some (.agg #[.string ⟨#[]⟩, .int .i64 0, .int .i64 0, .int .i64 0, .int .i64 0]) } := by kernel_rfl
theorem Try.ti124 : tiOf Try.prog 124 = some { kind := .array 24 3, size := 24, bytes := 192, zero := some (.agg #[.int .i64 0, .int .i64 0, .int .i64 0, .int .i64 0, .int .i64 0, .int .i64 0, .int .i64 0, .int .i64 0, .int .i64 0, .int .i64 0, .int .i64 0, .int .i64 0, .int .i64 0, .int .i64 0, .int .i64 0, .int .i64 0, .int .i64 0, .int .i64 0, .int .i64 0, .int .i64 0, .int .i64 0, .int .i64 0, .int .i64 0, .int .i64 0]) } := by kernel_rfl
theorem Try.ti126 : tiOf Try.prog 126 = some { kind := .struct [(0, 124), (24, 124)], size := 48, bytes := 384, zero := some (.agg #[.int .i64 0, .int .i64 0, .int .i64 0, .int .i64 0, .int .i64 0, .int .i64 0, .int .i64 0, .int .i64 0, .int .i64 0, .int .i64 0, .int .i64 0, .int .i64 0, .int .i64 0, .int .i64 0, .int .i64 0, .int .i64 0, .int .i64 0, .int .i64 0, .int .i64 0, .int .i64 0, .int .i64 0, .int .i64 0, .int .i64 0, .int .i64 0, .int .i64 0, .int .i64 0, .int .i64 0, .int .i64 0, .int .i64 0, .int .i64 0, .int .i64 0, .int .i64 0, .int .i64 0, .int .i64 0, .int .i64 0, .int .i64 0, .int .i64 0, .int .i64 0, .int .i64 0, .int .i64 0, .int .i64 0, .int .i64 0, .int .i64 0, .int .i64 0, .int .i64 0, .int .i64 0, .int .i64 0, .int .i64 0]) } := by kernel_rfl
theorem Try.ti132 : tiOf Try.prog 132 = some { kind := .array 64 3, size := 64, bytes := 512, zero := some (.agg #[.int .i64 0, .int .i64 0, .int .i64 0, .int .i64 0, .int .i64 0, .int .i64 0, .int .i64 0, .int .i64 0, .int .i64 0, .int .i64 0, .int .i64 0, .int .i64 0, .int .i64 0, .int .i64 0, .int .i64 0, .int .i64 0, .int .i64 0, .int .i64 0, .int .i64 0, .int .i64 0, .int .i64 0, .int .i64 0, .int .i64 0, .int .i64 0, .int .i64 0, .int .i64 0, .int .i64 0, .int .i64 0, .int .i64 0, .int .i64 0, .int .i64 0, .int .i64 0, .int .i64 0, .int .i64 0, .int .i64 0, .int .i64 0, .int .i64 0, .int .i64 0, .int .i64 0, .int .i64 0, .int .i64 0, .int .i64 0, .int .i64 0, .int .i64 0, .int .i64 0, .int .i64 0, .int .i64 0, .int .i64 0, .int .i64 0, .int .i64 0, .int .i64 0, .int .i64 0, .int .i64 0, .int .i64 0, .int .i64 0, .int .i64 0, .int .i64 0, .int .i64 0, .int .i64 0, .int .i64 0, .int .i64 0, .int .i64 0, .int .i64 0, .int .i64 0]) } := by kernel_rfl
theorem Try.ti134 : tiOf Try.prog 134 = some { kind := .struct [(0, 3), (1, 132), (65, 132)], size := 129, bytes := 1032, zero := some (.agg #[.int .i64 0, .int .i64 0, .int .i64 0, .int .i64 0, .int .i64 0, .int .i64 0, .int .i64 0, .int .i64 0, .int .i64 0, .int .i64 0, .int .i64 0, .int .i64 0, .int .i64 0, .int .i64 0, .int .i64 0, .int .i64 0, .int .i64 0, .int .i64 0, .int .i64 0, .int .i64 0, .int .i64 0, .int .i64 0, .int .i64 0, .int .i64 0, .int .i64 0, .int .i64 0, .int .i64 0, .int .i64 0, .int .i64 0, .int .i64 0, .int .i64 0, .int .i64 0, .int .i64 0, .int .i64 0, .int .i64 0, .int .i64 0, .int .i64 0, .int .i64 0, .int .i64 0, .int .i64 0, .int .i64 0, .int .i64 0, .int .i64 0, .int .i64 0, .int .i64 0, .int .i64 0, .int .i64 0, .int .i64 0, .int .i64 0, .int .i64 0, .int .i64 0, .int .i64 0, .int .i64 0, .int .i64 0, .int .i64 0, .int .i64 0, .int .i64 0, .int .i64 0, .int .i64 0, .int .i64 0, .int .i64 0, .int .i64 0, .int .i64 0, .int .i64 0, .int .i64 0, .int .i64 0, .int .i64 0, .int .i64 0, .int .i64 0, .int .i64 0, .int .i64 0, .int .i64 0, .int .i64 0, .int .i64 0, .int .i64 0, .int .i64 0, .int .i64 0, .int .i64 0, .int .i64 0, .int .i64 0, .int .i64 0, .int .i64 0, .int .i64 0, .int .i64 0, .int .i64 0, .int .i64 0, .int .i64 0, .int .i64 0, .int .i64 0, .int .i64 0, .int .i64 0, .int .i64 0, .int .i64 0, .int .i64 0, .int .i64 0, .int .i64 0, .int .i64 0, .int .i64 0, .int .i64 0, .int .i64 0, .int .i64 0, .int .i64 0, .int .i64 0, .int .i64 0, .int .i64 0, .int .i64 0, .int .i64 0, .int .i64 0, .int .i64 0, .int .i64 0, .int .i64 0, .int .i64 0, .int .i64 0, .int .i64 0, .int .i64 0, .int .i64 0, .int .i64 0, .int .i64 0, .int .i64 0, .int .i64 0, .int .i64 0, .int .i64 0, .int .i64 0, .int .i64 0, .int .i64 0, .int .i64 0, .int .i64 0, .int .i64 0, .int .i64 0]) } := by kernel_rfl
theorem Try.tabAll : allTT Try.prog Try.tabT :=
 ⟨⟨⟨⟨⟨⟨trivial, Try.ti3, trivial⟩, Try.ti4, trivial⟩, Try.ti5, ⟨trivial, Try.ti9, trivial⟩⟩, Try.ti22, ⟨⟨trivial, Try.ti27, trivial⟩, Try.ti28, ⟨trivial, Try.ti29, trivial⟩⟩⟩, Try.ti30, ⟨⟨⟨trivial, Try.ti32, trivial⟩, Try.ti33, ⟨trivial, Try.ti35, trivial⟩⟩, Try.ti37, ⟨⟨trivial, Try.ti39, trivial⟩, Try.ti41, ⟨trivial, Try.ti43, trivial⟩⟩⟩⟩, Try.ti45, ⟨⟨⟨⟨trivial, Try.ti46, trivial⟩, Try.ti48, ⟨trivial, Try.ti49, trivial⟩⟩, Try.ti51, ⟨⟨trivial, Try.ti60, trivial⟩, Try.ti61, ⟨trivial, Try.ti63, trivial⟩⟩⟩, Try.ti75, ⟨⟨⟨trivial, Try.ti82, trivial⟩, Try.ti87, ⟨trivial, Try.ti91, trivial⟩⟩, Try.ti124, ⟨⟨trivial, Try.ti126, trivial⟩, Try.ti132, ⟨trivial, Try.ti134, trivial⟩⟩⟩⟩⟩
theorem Try.mixed : Try.prog.follows .mixedOrders = true := by kernel_rfl
theorem Try.tabOk (t : Nat) (i : TI) (h : getTT Try.tabT t = some i) : tiOf Try.prog t = some i := getTT_ok Try.tabAll h
noncomputable def Try.env : Env := ⟨Try.prog, getTT Try.tabT, Try.tabOk, Try.mixed⟩
theorem Try.bld32 : Bld Try.env 32 [(0, 1), (1, 1), (2, 1), (3, 1), (4, 1), (5, 1)] [.v (.slice none 0 0), .v (.slice none 0 0), .v (.slice none 0 0), .v (.slice none 0 0), .v (.int .i64 0), .v (.int .i64 0)] := ⟨⟨_, _, _, rfl, rfl, rfl, rfl, rfl, rfl, rfl⟩⟩
theorem Try.bld39 : Bld Try.env 39 [(0, 1), (1, 1), (2, 1), (3, 1), (4, 1), (5, 1), (6, 1)] [.v (.string ⟨#[]⟩), .v (.int .i64 0), .v (.int .i64 0), .v (.int .i64 0), .v (.int .i64 0), .v (.int .i64 0), .v (.slice none 0 0)] := ⟨⟨_, _, _, rfl, rfl, rfl, rfl, rfl, rfl, rfl⟩⟩
theorem Try.bld41 : Bld Try.env 41 [(0, 1), (1, 1)] [.v (.int .i64 0), .v (.bool false)] := ⟨⟨_, _, _, rfl, rfl, rfl, rfl, rfl, rfl, rfl⟩⟩
theorem Try.bld43 : Bld Try.env 43 [(0, 1), (1, 1), (2, 1)] [.v (.int .i64 0), .v (.int .i64 0), .v (.int .i64 0)] := ⟨⟨_, _, _, rfl, rfl, rfl, rfl, rfl, rfl, rfl⟩⟩
theorem Try.bld45 : Bld Try.env 45 [(0, 1), (1, 1), (2, 1)] [.v (.string ⟨#[]⟩), .v (.int .i64 0), .v (.int .i64 0)] := ⟨⟨_, _, _, rfl, rfl, rfl, rfl, rfl, rfl, rfl⟩⟩
theorem Try.bld48 : Bld Try.env 48 [(0, 1), (1, 1), (2, 1)] [.v (.slice none 0 0), .v (.slice none 0 0), .v (.slice none 0 0)] := ⟨⟨_, _, _, rfl, rfl, rfl, rfl, rfl, rfl, rfl⟩⟩
theorem Try.bld60 : Bld Try.env 60 [(0, 1), (1, 1)] [.v (.int .i64 0), .v (.int .i64 0)] := ⟨⟨_, _, _, rfl, rfl, rfl, rfl, rfl, rfl, rfl⟩⟩
theorem Try.bld63 : Bld Try.env 63 [(0, 1), (1, 1)] [.v (.slice none 0 0), .v (.int .i64 0)] := ⟨⟨_, _, _, rfl, rfl, rfl, rfl, rfl, rfl, rfl⟩⟩
theorem Try.bld87 : Bld Try.env 87 [(0, 6), (6, 3), (9, 1), (10, 1), (11, 1), (12, 1), (13, 1)] [.v (.slice none 0 0), .v (.slice none 0 0), .v (.slice none 0 0), .v (.slice none 0 0), .v (.int .i64 0), .v (.int .i64 0), .v (.slice none 0 0), .v (.slice none 0 0), .v (.slice none 0 0), .v (.slice none 0 0), .v (.slice none 0 0), .v (.slice none 0 0), .v (.slice none 0 0), .v (.slice none 0 0)] := ⟨⟨_, _, _, rfl, rfl, rfl, rfl, rfl, rfl, rfl⟩⟩
theorem Try.bld134 : Bld Try.env 134 [(0, 1), (1, 64), (65, 64)] [.v (.int .i64 0), .v (.int .i64 0), .v (.int .i64 0), .v (.int .i64 0), .v (.int .i64 0), .v (.int .i64 0), .v (.int .i64 0), .v (.int .i64 0), .v (.int .i64 0), .v (.int .i64 0), .v (.int .i64 0), .v (.int .i64 0), .v (.int .i64 0), .v (.int .i64 0), .v (.int .i64 0), .v (.int .i64 0), .v (.int .i64 0), .v (.int .i64 0), .v (.int .i64 0), .v (.int .i64 0), .v (.int .i64 0), .v (.int .i64 0), .v (.int .i64 0), .v (.int .i64 0), .v (.int .i64 0), .v (.int .i64 0), .v (.int .i64 0), .v (.int .i64 0), .v (.int .i64 0), .v (.int .i64 0), .v (.int .i64 0), .v (.int .i64 0), .v (.int .i64 0), .v (.int .i64 0), .v (.int .i64 0), .v (.int .i64 0), .v (.int .i64 0), .v (.int .i64 0), .v (.int .i64 0), .v (.int .i64 0), .v (.int .i64 0), .v (.int .i64 0), .v (.int .i64 0), .v (.int .i64 0), .v (.int .i64 0), .v (.int .i64 0), .v (.int .i64 0), .v (.int .i64 0), .v (.int .i64 0), .v (.int .i64 0), .v (.int .i64 0), .v (.int .i64 0), .v (.int .i64 0), .v (.int .i64 0), .v (.int .i64 0), .v (.int .i64 0), .v (.int .i64 0), .v (.int .i64 0), .v (.int .i64 0), .v (.int .i64 0), .v (.int .i64 0), .v (.int .i64 0), .v (.int .i64 0), .v (.int .i64 0), .v (.int .i64 0), .v (.int .i64 0), .v (.int .i64 0), .v (.int .i64 0), .v (.int .i64 0), .v (.int .i64 0), .v (.int .i64 0), .v (.int .i64 0), .v (.int .i64 0), .v (.int .i64 0), .v (.int .i64 0), .v (.int .i64 0), .v (.int .i64 0), .v (.int .i64 0), .v (.int .i64 0), .v (.int .i64 0), .v (.int .i64 0), .v (.int .i64 0), .v (.int .i64 0), .v (.int .i64 0), .v (.int .i64 0), .v (.int .i64 0), .v (.int .i64 0), .v (.int .i64 0), .v (.int .i64 0), .v (.int .i64 0), .v (.int .i64 0), .v (.int .i64 0), .v (.int .i64 0), .v (.int .i64 0), .v (.int .i64 0), .v (.int .i64 0), .v (.int .i64 0), .v (.int .i64 0), .v (.int .i64 0), .v (.int .i64 0), .v (.int .i64 0), .v (.int .i64 0), .v (.int .i64 0), .v (.int .i64 0), .v (.int .i64 0), .v (.int .i64 0), .v (.int .i64 0), .v (.int .i64 0), .v (.int .i64 0), .v (.int .i64 0), .v (.int .i64 0), .v (.int .i64 0), .v (.int .i64 0), .v (.int .i64 0), .v (.int .i64 0), .v (.int .i64 0), .v (.int .i64 0), .v (.int .i64 0), .v (.int .i64 0), .v (.int .i64 0), .v (.int .i64 0), .v (.int .i64 0), .v (.int .i64 0), .v (.int .i64 0), .v (.int .i64 0), .v (.int .i64 0), .v (.int .i64 0), .v (.int .i64 0), .v (.int .i64 0)] := ⟨⟨_, _, _, rfl, rfl, rfl, rfl, rfl, rfl, rfl⟩⟩
theorem Try.eq60 : eqOk Try.prog 60 = true := by kernel_rfl
theorem Try.eq124 : eqOkA Try.prog 124 = true := by kernel_rfl
set_option linter.unusedVariables false
set_option linter.unusedSimpArgs false
structure Point where
 At : Int
 Height : Int
 Limit : Int
 deriving DecidableEq
def Point.row (x : Point) : List T := [.v (.int .i64 x.At), .v (.int .i64 x.Height), .v (.int .i64 x.Limit)]
structure Segment where
 Name : ByteArray
 From : Int
 To : Int
 Capacity : Int
 Resist : Int
 Wave : Int
 Points : List Point
 deriving DecidableEq
def Segment.row (x : Segment) : List T := [.v (.string x.Name), .v (.int .i64 x.From), .v (.int .i64 x.To), .v (.int .i64 x.Capacity), .v (.int .i64 x.Resist), .v (.int .i64 x.Wave), .list 3 (x.Points.map Point.row)]
structure Port where
 Name : ByteArray
 Node : Int
 Pressure : Int
 deriving DecidableEq
def Port.row (x : Port) : List T := [.v (.string x.Name), .v (.int .i64 x.Node), .v (.int .i64 x.Pressure)]
structure Station where
 Name : ByteArray
 Node : Int
 Head : Int
 Fall : Int
 Suction : Int
 deriving DecidableEq
def Station.row (x : Station) : List T := [.v (.string x.Name), .v (.int .i64 x.Node), .v (.int .i64 x.Head), .v (.int .i64 x.Fall), .v (.int .i64 x.Suction)]
structure Network where
 Nodes : List ByteArray
 Segments : List Segment
 Ports : List Port
 Stations : List Station
 Vapour : Int
 Settle : Int
 deriving DecidableEq
def Network.row (x : Network) : List T := [.list 1 (x.Nodes.map rS), .list 7 (x.Segments.map Segment.row), .list 3 (x.Ports.map Port.row), .list 5 (x.Stations.map Station.row), .v (.int .i64 x.Vapour), .v (.int .i64 x.Settle)]
structure Plan where
 Rates : List Int
 Ports : List Int
 Pumps : List Bool
 deriving DecidableEq
def Plan.row (x : Plan) : List T := [.list 1 (x.Rates.map rI), .list 1 (x.Ports.map rI), .list 1 (x.Pumps.map rB)]
structure flow_streams where
 come : Arr Int 24
 leave : Arr Int 24
 deriving DecidableEq
def flow_streams.row (x : flow_streams) : List T := x.come.l.map cI ++ (x.leave.l.map cI ++ [])
structure KS where
 L_ : List Int
 At : Int
 deriving DecidableEq
def KS.row (x : KS) : List T := [.list 1 (x.L_.map rI), .v (.int .i64 x.At)]
def L.ztzg (a : Segment) (b : Int) : (Int × Int) := if decide (b < 0) = true then (a.To, a.From) else (a.From, a.To)
def L.zqkj (a : Int) (b : Int) : Bool := (decide (a ≥ (wr (0 - b))) && decide (a ≤ b))
def L.zbjp.J1 (a : Int) : Option Int := some a
def L.zbjp (c : Int) (a : Int) : Option Int := if decide (a < 1) = true then some 0 else (rem? c a).bind fun b => if decide (b < 0) = true then L.zbjp.J1 (wr (b + a)) else L.zbjp.J1 b
def L.zvhs (a : Int) (b : Int) (c : Int) : Bool := (decide (a ≥ b) && decide (a ≤ c))
def L.zsbv.J1 (a : Unit) : Option Int := some (-1)
def L.zsbv.B2 (a : ByteArray) (b : Nat) (c : ByteArray) (d : Unit) : Option (Unit ⊕ (Int)) := if sEq a c = true then some ((.inr ((b : Int)))) else some (.inl ())
def L.zsbv (a : List ByteArray) (b : ByteArray) : Option Int := (forL (L.zsbv.B2 b) 0 a ()).bind fun c => Sum.elim (fun e => L.zsbv.J1 ()) (fun d => some d) c
def L.zapw.J1 (a : Unit) : Option Int := some (-1)
def L.zapw.B2 (a : Int → Option Bool) (b : Nat) (c : Int) (e : Unit) : Option (Unit ⊕ (Int)) := (a c).bind fun d => if d = true then some ((.inr ((b : Int)))) else some (.inl ())
def L.zapw (a : List Int) (b : Int → Option Bool) : Option Int := (forL (L.zapw.B2 b) 0 a ()).bind fun c => Sum.elim (fun e => L.zapw.J1 ()) (fun d => some d) c
def L.zvoj (a : List Int) (b : Int → Option Bool) : Option Bool := (L.zapw a b).bind fun c => some (decide (c ≥ 0))
def L.zqyu.J1 (a : Unit) : Option Int := some (-1)
def L.zqyu.B2 (a : ByteArray → Option Bool) (b : Nat) (c : ByteArray) (e : Unit) : Option (Unit ⊕ (Int)) := (a c).bind fun d => if d = true then some ((.inr ((b : Int)))) else some (.inl ())
def L.zqyu (a : List ByteArray) (b : ByteArray → Option Bool) : Option Int := (forL (L.zqyu.B2 b) 0 a ()).bind fun c => Sum.elim (fun e => L.zqyu.J1 ()) (fun d => some d) c
def L.zmkj (a : List ByteArray) (b : ByteArray → Option Bool) : Option Bool := (L.zqyu a b).bind fun c => some (decide (c ≥ 0))
def L.zbuy.J1 (a : Unit) : Option Int := some (-1)
def L.zbuy.B2 (a : Segment → Option Bool) (b : Nat) (c : Segment) (e : Unit) : Option (Unit ⊕ (Int)) := (a c).bind fun d => if d = true then some ((.inr ((b : Int)))) else some (.inl ())
def L.zbuy (a : List Segment) (b : Segment → Option Bool) : Option Int := (forL (L.zbuy.B2 b) 0 a ()).bind fun c => Sum.elim (fun e => L.zbuy.J1 ()) (fun d => some d) c
def L.zwuu (a : List Segment) (b : Segment → Option Bool) : Option Bool := (L.zbuy a b).bind fun c => some (decide (c ≥ 0))
def L.zobp.J1 (a : Unit) : Option Int := some (-1)
def L.zobp.B2 (a : Port → Option Bool) (b : Nat) (c : Port) (e : Unit) : Option (Unit ⊕ (Int)) := (a c).bind fun d => if d = true then some ((.inr ((b : Int)))) else some (.inl ())
def L.zobp (a : List Port) (b : Port → Option Bool) : Option Int := (forL (L.zobp.B2 b) 0 a ()).bind fun c => Sum.elim (fun e => L.zobp.J1 ()) (fun d => some d) c
def L.zdru (a : List Port) (b : Port → Option Bool) : Option Bool := (L.zobp a b).bind fun c => some (decide (c ≥ 0))
def L.zywf.J1 (a : Unit) : Option Int := some (-1)
def L.zywf.B2 (a : Station → Option Bool) (b : Nat) (c : Station) (e : Unit) : Option (Unit ⊕ (Int)) := (a c).bind fun d => if d = true then some ((.inr ((b : Int)))) else some (.inl ())
def L.zywf (a : List Station) (b : Station → Option Bool) : Option Int := (forL (L.zywf.B2 b) 0 a ()).bind fun c => Sum.elim (fun e => L.zywf.J1 ()) (fun d => some d) c
def L.ztlc (a : List Station) (b : Station → Option Bool) : Option Bool := (L.zywf a b).bind fun c => some (decide (c ≥ 0))
def L.zzec (a : Segment) : Bool := (decide ((a.Points.length : Int) < 2) || decide ((a.Points.length : Int) > 8))
def L.znhd (a : Network) : Option Bool := if (decide ((a.Nodes.length : Int) < 1) || (decide ((a.Nodes.length : Int) > 24) || (decide ((a.Segments.length : Int) > 32) || (decide ((a.Ports.length : Int) > 24) || decide ((a.Stations.length : Int) > 12))))) = true then some false else (L.zwuu a.Segments (fun x => some (L.zzec x))).bind fun b => some (!b)
def L.zsgw.J1 (a : List Int) : Option (List Int) := some a
def L.zsgw.J3 (a : (List Int) × (List Bool) × Int) : Option (((List Int) × (List Bool) × Int) ⊕ ((List Int))) := some (.inl (a.1, a.2.1, wr (a.2.2 + 1)))
def L.zsgw.J4 (a : (List Int) × (List Bool) × Int) (b : Nat × Bool) (d : Unit) : Option (((List Int) × (List Bool) × Int) ⊕ ((List Int))) := (app? a.1 ([a.2.2] : List Int)).bind fun c => L.zsgw.J3 (c, (a.2.1.set b.1 true), (-1))
def L.zsgw.J6 (a : (List Int) × (List Bool) × Int) (b : Bool) : Option (Unit ⊕ (((List Int) × (List Bool) × Int))) := if b = true then some ((.inr ((a.1, a.2.1, a.2.2)))) else some (.inl ())
def L.zsgw.B5 (d : Plan) (a : (List Int) × (List Bool) × Int) (e : Nat) (c : Segment) (g : Unit) : Option (Unit ⊕ (((List Int) × (List Bool) × Int))) := (ix d.Rates (e : Int)).bind fun b => if (b.2 != 0) = true then if (((L.ztzg c b.2).2) == a.2.2) = true then (ix a.2.1 ((L.ztzg c b.2).1)).bind fun f => L.zsgw.J6 a (!f.2) else L.zsgw.J6 a false else L.zsgw.J6 a false
def L.zsgw.B2 (b : Network) (d : Plan) (a : (List Int) × (List Bool) × Int) : Option (((List Int) × (List Bool) × Int) ⊕ ((List Int))) := if decide (a.2.2 < (b.Nodes.length : Int)) = true then (ix a.2.1 a.2.2).bind fun c => if c.2 = true then L.zsgw.J3 (a.1, a.2.1, a.2.2) else (forL (L.zsgw.B5 d a) 0 b.Segments ()).bind fun e => Sum.elim (fun g => L.zsgw.J4 a c ()) (fun f => L.zsgw.J3 f) e else some ((.inr (a.1)))
def L.zsgw (a : Network) (b : Plan) : Option (List Int) := (mk? (a.Nodes.length : Int) false).bind fun c => (loopN (L.zsgw.B2 a b) lots ([], c, 0)).bind fun d => L.zsgw.J1 d
def L.zfnd.J1 (a : Unit) : Int := 2
def L.zfnd (a : Int) : Int := if (decide (a ≥ 97) && decide (a ≤ 122)) = true then 1 else if (decide (a ≥ 48) && decide (a ≤ 57)) = true then L.zfnd.J1 () else if (a == 45) = true then L.zfnd.J1 () else 0
def L.zcvq.J2 (a : Unit) : Option Bool := some true
def L.zcvq.B3 (a : ByteArray) (b : Nat) (d : Unit) : Option (Unit ⊕ (Bool)) := (ixs a (b : Int)).bind fun c => if ((L.zfnd c.2) == 0) = true then some ((.inr (false))) else some (.inl ())
def L.zcvq.J1 (a : ByteArray) (b : Bool) : Option Bool := if b = true then some false else (chk ((a.size : Int) ≤ 9223372036854775806)).bind fun e => (forI (L.zcvq.B3 a) 0 ((a.size : Int).toNat) ()).bind fun c => Sum.elim (fun f => L.zcvq.J2 ()) (fun d => some d) c
def L.zcvq (a : ByteArray) : Option Bool := if decide ((a.size : Int) < 1) = true then L.zcvq.J1 a true else if decide ((a.size : Int) > 12) = true then L.zcvq.J1 a true else (ixs a 0).bind fun b => L.zcvq.J1 a ((L.zfnd b.2) != 1)
def L.zalp.J3 (a : Network) (b : List ByteArray) (c : List ByteArray) (d : List ByteArray) : Option (Arr (List ByteArray) 4) := some (⟨[a.Nodes, b, c, d], rfl⟩ : Arr (List ByteArray) 4)
def L.zalp.B4 (d : Nat) (a : Station) (b : List ByteArray) : Option (List ByteArray) := (app? b ([a.Name] : List ByteArray)).bind fun c => some c
def L.zalp.J2 (a : Network) (b : List ByteArray) (c : List ByteArray) : Option (Arr (List ByteArray) 4) := (forS L.zalp.B4 0 a.Stations []).bind fun d => L.zalp.J3 a b c d
def L.zalp.B5 (d : Nat) (a : Port) (b : List ByteArray) : Option (List ByteArray) := (app? b ([a.Name] : List ByteArray)).bind fun c => some c
def L.zalp.J1 (a : Network) (b : List ByteArray) : Option (Arr (List ByteArray) 4) := (forS L.zalp.B5 0 a.Ports []).bind fun c => L.zalp.J2 a b c
def L.zalp.B6 (d : Nat) (a : Segment) (b : List ByteArray) : Option (List ByteArray) := (app? b ([a.Name] : List ByteArray)).bind fun c => some c
def L.zalp (a : Network) : Option (Arr (List ByteArray) 4) := (forS L.zalp.B6 0 a.Segments []).bind fun b => L.zalp.J1 a b
def L.zsgv (a : Station) (b : Station) : Bool := (a.Node == b.Node)
def L.zybm.J2 (a : Unit) : Option Bool := some false
def L.zybm.B3 (a : Network) (b : Nat) (c : Station) (e : Unit) : Option (Unit ⊕ (Bool)) := (L.zywf a.Stations (fun x => some (L.zsgv x c))).bind fun d => if decide (d < (b : Int)) = true then some ((.inr (true))) else some (.inl ())
def L.zybm.J1 (a : Network) (d : Unit) : Option Bool := (forL (L.zybm.B3 a) 0 a.Stations ()).bind fun b => Sum.elim (fun e => L.zybm.J2 ()) (fun c => some c) b
def L.zybm.J5 (a : Unit) : Option (Unit ⊕ (Bool)) := some (.inl ())
def L.zybm.B6 (a : Nat × (List ByteArray)) (b : Nat) (c : ByteArray) (e : Unit) : Option (Unit ⊕ (Bool)) := (L.zsbv a.2 c).bind fun d => if decide (d < (b : Int)) = true then some ((.inr (true))) else some (.inl ())
def L.zybm.B4 (b : Arr (List ByteArray) 4) (c : Nat) (f : Unit) : Option (Unit ⊕ (Bool)) := (ix b.l (c : Int)).bind fun a => (forL (L.zybm.B6 a) 0 a.2 ()).bind fun d => Sum.elim (fun g => L.zybm.J5 ()) (fun e => some ((.inr (e)))) d
def L.zybm (a : Network) : Option Bool := (L.zalp a).bind fun b => (forI (L.zybm.B4 b) 0 4 ()).bind fun c => Sum.elim (fun e => L.zybm.J1 a ()) (fun d => some d) c
def L.zxqi (a : Int) (b : Network) : Bool := (decide (a < 0) || decide (a ≥ (b.Nodes.length : Int)))
def L.zctd.J3 (a : Network) (b : List Int) : Option Bool := (L.zvoj b (fun x => some (L.zxqi x a))).bind fun c => some (!c)
def L.zctd.B4 (d : Nat) (a : Station) (b : List Int) : Option (List Int) := (app? b ([a.Node] : List Int)).bind fun c => some c
def L.zctd.J2 (a : Network) (b : List Int) : Option Bool := (forS L.zctd.B4 0 a.Stations b).bind fun c => L.zctd.J3 a c
def L.zctd.B5 (d : Nat) (a : Port) (b : List Int) : Option (List Int) := (app? b ([a.Node] : List Int)).bind fun c => some c
def L.zctd.J1 (a : Network) (b : List Int) : Option Bool := (forS L.zctd.B5 0 a.Ports b).bind fun c => L.zctd.J2 a c
def L.zctd.B6 (d : Nat) (a : Segment) (b : List Int) : Option (List Int) := (app? b ([a.From, a.To] : List Int)).bind fun c => some c
def L.zctd (a : Network) : Option Bool := (forS L.zctd.B6 0 a.Segments []).bind fun b => L.zctd.J1 a b
def L.zcxq.J2 (a : Bool) : Option Bool := some a
def L.zcxq.J1 (a : Segment) (d : Unit) : Option Bool := (ix a.Points 0).bind fun b => if (b.2.At == 0) = true then (ix a.Points (wr ((a.Points.length : Int) - 1))).bind fun c => L.zcxq.J2 (c.2.At == a.Capacity) else L.zcxq.J2 false
def L.zcxq.J4 (a : Bool) : Option (Unit ⊕ (Bool)) := if a = true then some ((.inr (false))) else some (.inl ())
def L.zcxq.B3 (c : Segment) (b : Nat) (a : Point) (e : Unit) : Option (Unit ⊕ (Bool)) := if (!(L.zvhs a.Height (-500) 5000)) = true then L.zcxq.J4 true else if (!(L.zvhs a.Limit 0 100000000)) = true then L.zcxq.J4 true else if decide ((b : Int) > 0) = true then (ix c.Points (wr ((b : Int) - 1))).bind fun d => L.zcxq.J4 (decide (a.At ≤ d.2.At)) else L.zcxq.J4 false
def L.zcxq (a : Segment) : Option Bool := if ((a.From == a.To) || ((!(L.zvhs a.Capacity 1 1000000)) || ((!(L.zvhs a.Resist 0 1000)) || (!(L.zvhs a.Wave 0 100000))))) = true then some false else (forL (L.zcxq.B3 a) 0 a.Points ()).bind fun b => Sum.elim (fun d => L.zcxq.J1 a ()) (fun c => some c) b
def L.zyto (a : Segment) : Option Bool := (L.zcxq a).bind fun b => some (!b)
def L.zxcm (a : Port) : Bool := (!(L.zvhs a.Pressure 0 100000000))
def L.zeku (a : Station) : Bool := ((!(L.zvhs a.Head 0 100000000)) || ((!(L.zvhs a.Fall 0 100000)) || (!(L.zvhs a.Suction 0 100000000))))
def L.zdqn (a : Network) : Option Bool := (L.zwuu a.Segments (fun x => L.zyto x)).bind fun b => if b = true then some false else (L.zdru a.Ports (fun x => some (L.zxcm x))).bind fun c => if c = true then some false else (L.ztlc a.Stations (fun x => some (L.zeku x))).bind fun d => if d = true then some false else some ((L.zvhs a.Vapour (-100000) 100000000) && (L.zvhs a.Settle 0 100))
def L.zqbg (a : ByteArray) : Option Bool := (L.zcvq a).bind fun b => some (!b)
def L.zfta.J1 (a : Network) (e : Unit) : Option Int := (L.zybm a).bind fun b => if b = true then some 7 else (L.zctd a).bind fun c => if (!c) = true then some 8 else (L.zdqn a).bind fun d => if (!d) = true then some 9 else some 0
def L.zfta.B2 (a : Arr (List ByteArray) 4) (b : Nat) (e : Unit) : Option (Unit ⊕ (Int)) := (ix a.l (b : Int)).bind fun c => (L.zmkj c.2 (fun x => L.zqbg x)).bind fun d => if d = true then some ((.inr (3))) else some (.inl ())
def L.zfta (a : Network) : Option Int := (L.znhd a).bind fun b => if (!b) = true then some 4 else (L.zalp a).bind fun c => (forI (L.zfta.B2 c) 0 4 ()).bind fun d => Sum.elim (fun f => L.zfta.J1 a ()) (fun e => some e) d
def L.zuui.J2 (a : flow_streams) (b : Int × Int × Int) (c : Arr Int 24) : Option flow_streams := if decide (b.2.1 ≥ 0) = true then (ix a.come.l b.2.1).bind fun d => some (⟨(a.come.set d.1 (wr (d.2 + b.2.2))), c⟩ : flow_streams) else some (⟨a.come, c⟩ : flow_streams)
def L.zuui.J1 (a : flow_streams) (b : Int × Int × Int) : Option flow_streams := if decide (b.1 ≥ 0) = true then (ix a.leave.l b.1).bind fun c => L.zuui.J2 a b (a.leave.set c.1 (wr (c.2 + b.2.2))) else L.zuui.J2 a b a.leave
def L.zuui (b : flow_streams) (c : Int) (d : Int) (a : Int) : Option flow_streams := if decide (a < 0) = true then L.zuui.J1 b (d, c, wr (0 - a)) else L.zuui.J1 b (c, d, a)
def L.zzkf.J2 (a : (Arr Int 24) × (Arr Int 24)) : Option flow_streams := some (⟨a.1, a.2⟩ : flow_streams)
def L.zzkf.B3 (c : Plan) (d : Nat) (e : Port) (a : (Arr Int 24) × (Arr Int 24)) : Option ((Arr Int 24) × (Arr Int 24)) := (ix c.Ports (d : Int)).bind fun f => (L.zuui (⟨a.1, a.2⟩ : flow_streams) (-1) e.Node f.2).bind fun b => some (b.come, b.leave)
def L.zzkf.J1 (c : Network) (d : Plan) (a : (Arr Int 24) × (Arr Int 24)) : Option flow_streams := (forS (L.zzkf.B3 d) 0 c.Ports (a.1, a.2)).bind fun b => L.zzkf.J2 (b.1, b.2)
def L.zzkf.B4 (d : Plan) (e : Nat) (a : Segment) (b : (Arr Int 24) × (Arr Int 24)) : Option ((Arr Int 24) × (Arr Int 24)) := (ix d.Rates (e : Int)).bind fun f => (L.zuui (⟨b.1, b.2⟩ : flow_streams) a.From a.To f.2).bind fun c => some (c.come, c.leave)
def L.zzkf (a : Network) (b : Plan) : Option flow_streams := (forS (L.zzkf.B4 b) 0 a.Segments ((Arr.rep 24 (0 : Int)), (Arr.rep 24 (0 : Int)))).bind fun c => L.zzkf.J1 a b (c.1, c.2)
def L.zfct (a : Int) : Bool := (!(L.zqkj a 1000))
def L.zmqu.J1 (a : Network) (b : Plan) (f : Unit) : Option Int := (L.zvoj b.Ports (fun x => some (L.zfct x))).bind fun d => if d = true then some 1 else (L.zzkf a b).bind fun c => if (!decide (c.come = c.leave)) = true then some 12 else (L.zsgw a b).bind fun e => if decide ((e.length : Int) < (a.Nodes.length : Int)) = true then some 13 else some 0
def L.zmqu.B2 (a : Plan) (b : Nat) (c : Segment) (e : Unit) : Option (Unit ⊕ (Int)) := (ix a.Rates (b : Int)).bind fun d => if (!(L.zqkj d.2 (min 1000 c.Capacity))) = true then some ((.inr (1))) else some (.inl ())
def L.zmqu (a : Network) (b : Plan) : Option Int := (L.zfta a).bind fun c => if (c != 0) = true then some c else if (((b.Rates.length : Int) != (a.Segments.length : Int)) || (((b.Ports.length : Int) != (a.Ports.length : Int)) || ((b.Pumps.length : Int) != (a.Stations.length : Int)))) = true then some 9 else (forL (L.zmqu.B2 b) 0 a.Segments ()).bind fun d => Sum.elim (fun f => L.zmqu.J1 a b ()) (fun e => some e) d
def L.ziti (a : List Int) : Option KS := (sub? a 0 (min (a.length : Int) 2000)).bind fun b => some (⟨b, 0⟩ : KS)
structure Piece where
 Batch : Int
 Volume : Int
 deriving DecidableEq
def Piece.row (x : Piece) : List T := [.v (.int .i64 x.Batch), .v (.int .i64 x.Volume)]
structure deal_table where
 n_ : Int
 rates : Arr Int 64
 counts : Arr Int 64
 deriving DecidableEq
def deal_table.row (x : deal_table) : List T := [.v (.int .i64 x.n_)] ++ (x.rates.l.map cI ++ (x.counts.l.map cI ++ []))
structure advance_line where
 n_ : Network
 p : Plan
 feeds : List Int
 order : List Int
 fills : List (List Piece)
 given : List (List Piece)
 out_ : List (List Piece)
 deriving DecidableEq
def advance_line.row (x : advance_line) : List T := [.list 1 (x.n_.Nodes.map rS), .list 7 (x.n_.Segments.map Segment.row), .list 3 (x.n_.Ports.map Port.row), .list 5 (x.n_.Stations.map Station.row), .v (.int .i64 x.n_.Vapour), .v (.int .i64 x.n_.Settle), .list 1 (x.p.Rates.map rI), .list 1 (x.p.Ports.map rI), .list 1 (x.p.Pumps.map rB), .list 1 (x.feeds.map rI), .list 1 (x.order.map rI), .list 1 (x.fills.map (rL 2 Piece.row)), .list 1 (x.given.map (rL 2 Piece.row)), .list 1 (x.out_.map (rL 2 Piece.row))]
def L.zxpl (a : KS) : Option (Int × KS) := if decide (a.At ≥ (a.L_.length : Int)) = true then some (0, a) else (ix a.L_ (wr ((wr (a.At + 1)) - 1))).bind fun b => some (b.2, (⟨a.L_, wr (a.At + 1)⟩ : KS))
def L.zdjb (b : KS) (c : Int) : Option (Int × KS) := (L.zxpl b).bind fun a => (L.zbjp a.1 c).bind fun d => some (d, a.2)
def L.ziuk (c : KS) (a : Int) (d : Int) : Option (Int × KS) := (L.zdjb c (wr ((wr (d - a)) + 1))).bind fun b => some (wr (a + b.1), b.2)
def L.zdti.J1 (a : (List Int) × Int × (List Piece)) : Option ((List Piece) × KS) := some (a.2.2, (⟨a.1, a.2.1⟩ : KS))
def L.zdti.J4 (a : (List Int) × Int × Int × (List Piece)) (b : Int × KS) (c : Int) (d : Int) : Option (((List Int) × Int × Int × (List Piece)) ⊕ (((List Int) × Int × (List Piece)))) := (app? a.2.2.2 ([(⟨d, (min c a.2.2.1)⟩ : Piece)] : List Piece)).bind fun e => some (.inl (b.2.L_, b.2.At, wr (a.2.2.1 - (min c a.2.2.1)), e))
def L.zdti.J5 (g : Int) (a : (List Int) × Int × Int × (List Piece)) (e : Int × KS) (b : Int × KS) (c : Int) (h : Bool) : Option (((List Int) × Int × Int × (List Piece)) ⊕ (((List Int) × Int × (List Piece)))) := if h = true then (rem? (wr (e.1 + 1)) g).bind fun f => (ix a.2.2.2 (wr ((a.2.2.2.length : Int) - 1))).bind fun d => if (d.2.Batch == f) = true then some (.inl (b.2.L_, b.2.At, wr (a.2.2.1 - (min c a.2.2.1)), (a.2.2.2.set d.1 (⟨d.2.Batch, wr (d.2.Volume + (min c a.2.2.1))⟩ : Piece)))) else L.zdti.J4 a b c f else L.zdti.J4 a b c e.1
def L.zdti.J3 (c : Int) (a : (List Int) × Int × Int × (List Piece)) (b : Int × KS) (d : Int × KS) (e : Int) : Option (((List Int) × Int × Int × (List Piece)) ⊕ (((List Int) × Int × (List Piece)))) := if decide ((a.2.2.2.length : Int) > 0) = true then (ix a.2.2.2 (wr ((a.2.2.2.length : Int) - 1))).bind fun f => L.zdti.J5 c a b d e (f.2.Batch == b.1) else L.zdti.J5 c a b d e false
def L.zdti.B2 (b : Int) (a : (List Int) × Int × Int × (List Piece)) : Option (((List Int) × Int × Int × (List Piece)) ⊕ (((List Int) × Int × (List Piece)))) := if (decide (a.2.2.1 > 0) && decide ((a.2.2.2.length : Int) < 12)) = true then (L.zdjb (⟨a.1, a.2.1⟩ : KS) b).bind fun c => (L.ziuk c.2 1 (max 1 (wr ((wr (a.2.2.1 * 2)).tdiv 3)))).bind fun d => if ((a.2.2.2.length : Int) == 11) = true then L.zdti.J3 b a c d a.2.2.1 else L.zdti.J3 b a c d d.1 else some ((.inr ((a.1, a.2.1, a.2.2.2))))
def L.zdti (a : KS) (b : Int) (c : Int) : Option ((List Piece) × KS) := (loopN (L.zdti.B2 c) lots (a.L_, a.At, b, [])).bind fun d => L.zdti.J1 d
def L.zbhc.J1 (a : (List Int) × Int × (List (List Piece))) : Option ((List (List Piece)) × KS) := some (a.2.2, (⟨a.1, a.2.1⟩ : KS))
def L.zbhc.B2 (c : Int) (f : Nat) (d : Segment) (a : (List Int) × Int × (List (List Piece))) : Option ((List Int) × Int × (List (List Piece))) := (L.zdti (⟨a.1, a.2.1⟩ : KS) d.Capacity c).bind fun b => (app? a.2.2 ([b.1] : List (List Piece))).bind fun e => some (b.2.L_, b.2.At, e)
def L.zbhc (b : KS) (c : Network) (d : Int) : Option ((List (List Piece)) × KS) := (forS (L.zbhc.B2 d) 0 c.Segments (b.L_, b.At, [])).bind fun a => L.zbhc.J1 (a.1, a.2.1, a.2.2)
def L.zyyp (a : Network) (b : Plan) : Option ((List Int) × Int) := (L.zmqu a b).bind fun c => if (c != 0) = true then some ([], c) else (L.zsgw a b).bind fun d => some (d, 0)
def L.zojo (a : Piece) : Bool := (decide (a.Batch ≥ 0) && (decide (a.Batch < 1000) && (decide (a.Volume ≥ 0) && decide (a.Volume ≤ 1000000))))
def L.zmsl.J1 (a : Int) : Option Int := some a
def L.zmsl.B2 (c : Nat) (a : Piece) (b : Int) : Option Int := some (wr (b + a.Volume))
def L.zmsl (a : List Piece) : Option Int := (forS L.zmsl.B2 0 a 0).bind fun b => L.zmsl.J1 b
def L.zqwg.J1 (a : List Piece) (c : Unit) : Option Bool := (L.zmsl a).bind fun b => some (decide (b ≤ 1000000))
def L.zqwg.J3 (a : Bool) : Option (Unit ⊕ (Bool)) := if a = true then some ((.inr (false))) else some (.inl ())
def L.zqwg.B2 (c : List Piece) (b : Nat) (a : Piece) (e : Unit) : Option (Unit ⊕ (Bool)) := if (!(L.zojo a)) = true then L.zqwg.J3 true else if (a.Volume == 0) = true then L.zqwg.J3 true else if decide ((b : Int) > 0) = true then (ix c (wr ((b : Int) - 1))).bind fun d => L.zqwg.J3 (d.2.Batch == a.Batch) else L.zqwg.J3 false
def L.zqwg (a : List Piece) : Option Bool := if decide ((a.length : Int) > 200) = true then some false else (forL (L.zqwg.B2 a) 0 a ()).bind fun b => Sum.elim (fun d => L.zqwg.J1 a ()) (fun c => some c) b
def L.zryf (a : List Piece) : Option Int := (L.zqwg a).bind fun b => if (!b) = true then some 0 else (L.zmsl a).bind fun c => some c
def L.zkmq.J1 (a : Unit) : Option Int := some (-1)
def L.zkmq.B2 (a : Piece → Option Bool) (b : Nat) (c : Piece) (e : Unit) : Option (Unit ⊕ (Int)) := (a c).bind fun d => if d = true then some ((.inr ((b : Int)))) else some (.inl ())
def L.zkmq (a : List Piece) (b : Piece → Option Bool) : Option Int := (forL (L.zkmq.B2 b) 0 a ()).bind fun c => Sum.elim (fun e => L.zkmq.J1 ()) (fun d => some d) c
def L.zytx (a : List Piece) (b : Piece → Option Bool) : Option Bool := (L.zkmq a b).bind fun c => some (decide (c ≥ 0))
def L.zjyd (a : Piece) : Bool := (!(L.zojo a))
def L.zzum.J1 (a : List Piece) : Option (List Piece) := some a
def L.zzum.J3 (a : List Piece) : Option (List Piece) := some a
def L.zzum.J4 (c : Piece) (a : List Piece) (d : Bool) : Option (List Piece) := if d = true then (ix a (wr ((a.length : Int) - 1))).bind fun b => L.zzum.J3 (a.set b.1 (⟨b.2.Batch, wr (b.2.Volume + c.Volume)⟩ : Piece)) else (app? a ([c] : List Piece)).bind fun e => L.zzum.J3 e
def L.zzum.B2 (d : Nat) (a : Piece) (b : List Piece) : Option (List Piece) := if ((a.Batch == a.Batch) && ((a.Volume == 0) && true)) = true then L.zzum.J3 b else if decide ((b.length : Int) > 0) = true then (ix b (wr ((b.length : Int) - 1))).bind fun c => L.zzum.J4 a b (c.2.Batch == a.Batch) else L.zzum.J4 a b false
def L.zzum (a : List Piece) : Option (List Piece) := (forS L.zzum.B2 0 a []).bind fun b => L.zzum.J1 b
def L.zmbh.J1 (a : List Piece) (b : Bool) : Option (List Piece) := if b = true then some [] else (L.zzum a).bind fun c => some c
def L.zmbh (a : List Piece) : Option (List Piece) := if decide ((a.length : Int) > 400) = true then L.zmbh.J1 a true else (L.zytx a (fun x => some (L.zjyd x))).bind fun b => L.zmbh.J1 a b
def L.zgxj (a : List Piece) : Option (List Piece) := app? [] a
def L.zbkm.J1 (a : (List Piece) × (List Piece)) : Option ((List Piece) × (List Piece)) := (L.zzum a.1).bind fun b => (L.zzum a.2).bind fun c => some (b, c)
def L.zbkm.B2 (c : Nat) (d : Piece) (a : Int × (List Piece) × (List Piece)) : Option (Int × (List Piece) × (List Piece)) := (ix a.2.1 (c : Int)).bind fun b => (ix (a.2.1.set b.1 (⟨b.2.Batch, (min d.Volume a.1)⟩ : Piece)) (c : Int)).bind fun e => (ix a.2.2 (c : Int)).bind fun f => some (wr (a.1 - e.2.Volume), (a.2.1.set b.1 (⟨b.2.Batch, (min d.Volume a.1)⟩ : Piece)), (a.2.2.set f.1 (⟨f.2.Batch, wr (d.Volume - e.2.Volume)⟩ : Piece)))
def L.zbkm (a : List Piece) (c : Int) : Option ((List Piece) × (List Piece)) := (L.zgxj a).bind fun d => (L.zgxj a).bind fun e => (forS L.zbkm.B2 0 a (c, d, e)).bind fun b => L.zbkm.J1 (b.2.1, b.2.2)
def L.zbil.J2 (a : (List Piece) × (List Piece)) : Option ((List Piece) × (List Piece) × Int) := if (decide ((a.1.length : Int) > 200) || decide ((a.2.length : Int) > 200)) = true then some ([], [], 4) else some (a.1, a.2, 0)
def L.zbil.J1 (a : List Piece) (b : List Piece) (e : Bool) (f : Bool) : Option ((List Piece) × (List Piece) × Int) := if f = true then some ([], [], 9) else if e = true then (L.zgxj a).bind fun g => (app? g b).bind fun h => (L.zmsl b).bind fun i => (L.zbkm h i).bind fun c => L.zbil.J2 (c.2, c.1) else (L.zgxj b).bind fun j => (app? j a).bind fun k => (L.zmsl a).bind fun l => (L.zbkm k l).bind fun d => L.zbil.J2 (d.1, d.2)
def L.zbil (a : List Piece) (b : List Piece) (c : Bool) : Option ((List Piece) × (List Piece) × Int) := (L.zqwg a).bind fun d => if (!d) = true then L.zbil.J1 a b c true else (L.zqwg b).bind fun e => L.zbil.J1 a b c (!e)
def L.zaio.J1 (a : Int) (b : Int) : Option Int := if (b == 0) = true then some 9 else if (decide (a < 0) || decide (a > b)) = true then some 1 else some 0
def L.zaio.B2 (c : Nat) (a : Int) (b : Int) : Option (Int ⊕ (Int)) := if (decide (a < 0) || decide (a > 1000)) = true then some ((.inr (1))) else some (.inl (wr (b + a)))
def L.zaio (a : List Int) (b : Int) : Option Int := if decide ((a.length : Int) > 64) = true then some 4 else (forL L.zaio.B2 0 a 0).bind fun c => Sum.elim (fun d => L.zaio.J1 b d) (fun e => some e) c
def L.zwhx (a : List Int) : Option deal_table := (cpyA (Arr.rep 64 (0 : Int)) a).bind fun b => some (⟨(a.length : Int), b, (Arr.rep 64 (0 : Int))⟩ : deal_table)
def L.zfrq.J1 (a : deal_table) (b : Int) : Option (Int × deal_table) := some (b, a)
def L.zfrq.J3 (a : Int) : Option Int := some a
def L.zfrq.J4 (a : Nat) (b : Int) (c : Bool) : Option Int := if c = true then L.zfrq.J3 (a : Int) else L.zfrq.J3 b
def L.zfrq.B2 (c : deal_table) (b : Nat) (a : Int) : Option Int := (ix c.rates.l (b : Int)).bind fun d => if decide (d.2 > 0) = true then if decide (a < 0) = true then L.zfrq.J4 b a true else (ix c.counts.l (b : Int)).bind fun e => (ix c.rates.l a).bind fun f => (ix c.counts.l a).bind fun g => L.zfrq.J4 b a (decide ((wr ((wr (e.2 + 1)) * f.2)) < (wr ((wr (g.2 + 1)) * d.2)))) else L.zfrq.J4 b a false
def L.zfrq (a : deal_table) : Option (Int × deal_table) := (chk (a.n_ ≤ 9223372036854775806)).bind fun c => (forJ (L.zfrq.B2 a) 0 a.n_.toNat (-1)).bind fun b => L.zfrq.J1 a b
def L.zmxf.J3 (a : List (List Piece)) : Option ((List (List Piece)) × Int) := some (a, 0)
def L.zmxf.B4 (c : Nat) (a : List (List Piece)) : Option (List (List Piece)) := (ix a (c : Int)).bind fun b => (L.zmbh b.2).bind fun d => some (a.set b.1 d)
def L.zmxf.J2 (a : List (List Piece)) : Option ((List (List Piece)) × Int) := (forJ L.zmxf.B4 0 a.length a).bind fun b => L.zmxf.J3 b
def L.zmxf.J6 (a : (List (List Piece)) × Int × (Arr Int 64) × (Arr Int 64)) : Option ((List (List Piece)) × Int × (Arr Int 64) × (Arr Int 64)) := some (a.1, a.2.1, a.2.2.1, a.2.2.2)
def L.zmxf.B8 (d : (List (List Piece)) × Int × (Arr Int 64) × (Arr Int 64)) (e : Nat × Piece) (f : Int × (Arr Int 64) × (Arr Int 64)) (a : Nat) (b : List (List Piece)) : Option (List (List Piece)) := (ix b (a : Int)).bind fun c => (ix f.2.2.l (a : Int)).bind fun g => (ix d.2.2.2.l (a : Int)).bind fun h => (app? c.2 ([(⟨e.2.Batch, wr (g.2 - h.2)⟩ : Piece)] : List Piece)).bind fun i => some (b.set c.1 i)
def L.zmxf.J7 (b : (List (List Piece)) × Int × (Arr Int 64) × (Arr Int 64)) (c : Nat × Piece) (a : Int × (Arr Int 64) × (Arr Int 64)) : Option ((List (List Piece)) × Int × (Arr Int 64) × (Arr Int 64)) := (forJ (L.zmxf.B8 b c a) 0 b.1.length b.1).bind fun d => L.zmxf.J6 (d, a.1, a.2.1, a.2.2)
def L.zmxf.B9 (d : Nat) (b : Int × (Arr Int 64) × (Arr Int 64)) : Option (Int × (Arr Int 64) × (Arr Int 64)) := (L.zfrq (⟨b.1, b.2.1, b.2.2⟩ : deal_table)).bind fun a => (ix a.2.counts.l a.1).bind fun c => some (a.2.n_, a.2.rates, (a.2.counts.set c.1 (wr (c.2 + 1))))
def L.zmxf.B5 (d : List Piece) (e : Nat) (a : (List (List Piece)) × Int × (Arr Int 64) × (Arr Int 64)) : Option ((List (List Piece)) × Int × (Arr Int 64) × (Arr Int 64)) := (ix d (e : Int)).bind fun b => (chk (b.2.Volume ≤ 9223372036854775806)).bind fun f => (forJ L.zmxf.B9 0 b.2.Volume.toNat (a.2.1, a.2.2.1, a.2.2.2)).bind fun c => L.zmxf.J7 a b (c.1, c.2.1, c.2.2)
def L.zmxf.J1 (a : List Int) (c : List Piece) (e : Int) : Option ((List (List Piece)) × Int) := (L.zaio a e).bind fun d => if (d != 0) = true then some ([], d) else (mk? (a.length : Int) ([] : List Piece)).bind fun f => (L.zwhx a).bind fun b => (forJ (L.zmxf.B5 c) 0 c.length (f, b.n_, b.rates, b.counts)).bind fun g => L.zmxf.J2 g.1
def L.zmxf.B10 (a : List Piece) (b : Nat) (c : Int) : Option Int := (ix a (b : Int)).bind fun d => some (wr (c + d.2.Volume))
def L.zmxf (b : List Piece) (c : List Int) : Option ((List (List Piece)) × Int) := (L.zmbh b).bind fun a => if (bif ((a.length : Int) == 0) then (decide ((b.length : Int) > 0) || decide ((a.length : Int) > 200)) else decide ((a.length : Int) > 200)) = true then some ([], 9) else (forJ (L.zmxf.B10 a) 0 a.length 0).bind fun d => L.zmxf.J1 c a d
def L.zvuy.J1 (a : Unit) : Option Int := some (-1)
def L.zvuy.B2 (a : (List Piece) → Option Bool) (b : Nat) (c : List Piece) (e : Unit) : Option (Unit ⊕ (Int)) := (a c).bind fun d => if d = true then some ((.inr ((b : Int)))) else some (.inl ())
def L.zvuy (a : List (List Piece)) (b : (List Piece) → Option Bool) : Option Int := (forL (L.zvuy.B2 b) 0 a ()).bind fun c => Sum.elim (fun e => L.zvuy.J1 ()) (fun d => some d) c
def L.zbxi (a : List (List Piece)) (b : (List Piece) → Option Bool) : Option Bool := (L.zvuy a b).bind fun c => some (decide (c ≥ 0))
def L.zfxs (a : List Piece) : Option Bool := (L.zqwg a).bind fun b => some (!b)
def L.zspo.J2 (a : Unit) : Option Int := some 0
def L.zspo.B3 (a : Network) (b : Nat) (c : List Piece) (f : Unit) : Option (Unit ⊕ (Int)) := (L.zryf c).bind fun d => (ix a.Segments (b : Int)).bind fun e => if (d != e.2.Capacity) = true then some ((.inr (14))) else some (.inl ())
def L.zspo.J1 (a : Network) (b : List (List Piece)) (c : Bool) : Option Int := if c = true then some 9 else (forL (L.zspo.B3 a) 0 b ()).bind fun d => Sum.elim (fun f => L.zspo.J2 ()) (fun e => some e) d
def L.zspo (a : Network) (b : List (List Piece)) : Option Int := (L.zfta a).bind fun c => if (c != 0) = true then some c else if ((b.length : Int) != (a.Segments.length : Int)) = true then L.zspo.J1 a b true else (L.zbxi b (fun x => L.zfxs x)).bind fun d => L.zspo.J1 a b d
def L.zljn.J1 (a : List Piece) : Option (List Piece) := some a
def L.zljn.J3 (a : List Piece) : Option (List Piece) := some a
def L.zljn.J4 (c : Piece) (a : List Piece) (d : Bool) : Option (List Piece) := if d = true then (ix a (wr ((a.length : Int) - 1))).bind fun b => L.zljn.J3 (a.set b.1 (⟨b.2.Batch, wr (b.2.Volume + c.Volume)⟩ : Piece)) else (app? a ([c] : List Piece)).bind fun e => L.zljn.J3 e
def L.zljn.B2 (d : Nat) (b : Piece) (a : List Piece) : Option (List Piece) := if decide ((a.length : Int) > 0) = true then (ix a (wr ((a.length : Int) - 1))).bind fun c => L.zljn.J4 b a (c.2.Batch == b.Batch) else L.zljn.J4 b a false
def L.zljn (a : List Piece) (b : List Piece) : Option (List Piece) := (forS L.zljn.B2 0 b a).bind fun c => L.zljn.J1 c
def L.znde.J2 (a : (List Piece) × Int × Int) (b : List Piece) : Option (((List Piece) × Int × Int) ⊕ ((List Piece))) := some (.inl (b, wr (a.2.1 + 1), wr (a.2.2 - 1)))
def L.znde.B1 (a : (List Piece) × Int × Int) : Option (((List Piece) × Int × Int) ⊕ ((List Piece))) := if decide (a.2.1 < a.2.2) = true then (ix a.1 a.2.2).bind fun c => (ix a.1 a.2.1).bind fun b => (ix (a.1.set b.1 c.2) a.2.2).bind fun d => L.znde.J2 a ((a.1.set b.1 c.2).set d.1 b.2) else some ((.inr (a.1)))
def L.znde (a : List Piece) : Option (List Piece) := (loopN L.znde.B1 lots (a, 0, wr ((a.length : Int) - 1))).bind fun b => some b
def L.zqks (a : List Piece) : Option (List Piece) := (L.zgxj a).bind fun b => (L.znde b).bind fun c => some c
def L.zvgo (l : List Port) (q : List Int) (a : Int) (b : Bool) : Option (List (Int × Int)) := forS (fun k x acc => (ix q (k : Int)).bind fun r => if ((x.Node != a) || ((r.2 == 0) || (decide (r.2 > 0) != b))) = true then some acc else some (acc ++ [((k : Int), max r.2 (wr (0 - r.2)))])) 0 l []
def L.zxub (l : List Segment) (q : List Int) (a : Int) (b : Bool) : Option (List (Int × Int)) := forS (fun k x acc => (ix q (k : Int)).bind fun r => if (((r.2 == 0) || (b && ((L.ztzg x r.2).2 != a))) || (!b && ((L.ztzg x r.2).1 != a))) = true then some acc else some (acc ++ [((k : Int), max r.2 (wr (0 - r.2)))])) 0 l []
def L.zyjw.B1 (b : advance_line) (f : Nat) (a : Int × Int) (c : List Piece) : Option (List Piece) := (ix b.feeds a.1).bind fun d => (L.zljn c ([(⟨d.2, a.2⟩ : Piece)] : List Piece)).bind fun e => some e
def L.zyjw.B2 (a : advance_line) (f : Nat) (b : Int × Int) (c : List Piece) : Option (List Piece) := (ix a.given b.1).bind fun d => (L.zljn c d.2).bind fun e => some e
def L.zyjw (a : advance_line) (b : Int) : Option ((List Piece) × ((List (List Piece)) × (List (List Piece)) × (List (List Piece)))) := (L.zvgo a.n_.Ports a.p.Ports b true).bind fun c => (forS (L.zyjw.B1 a) 0 c []).bind fun d => (L.zxub a.n_.Segments a.p.Rates b true).bind fun e => (forS (L.zyjw.B2 a) 0 e d).bind fun f => some (f, (a.fills, a.given, a.out_))
def L.znry.J2 (a : advance_line) (b : Int) (c : Nat × (List Piece)) (d : (List Piece) × (List Piece) × Int) (e : List Piece) : Option (Int × ((List (List Piece)) × (List (List Piece)) × (List (List Piece)))) := (ix a.given b).bind fun f => some (0, ((a.fills.set c.1 d.1), (a.given.set f.1 e), a.out_))
def L.znry.J1 (a : advance_line) (c : Int) (e : Nat × Int) (f : List Piece) : Option (Int × ((List (List Piece)) × (List (List Piece)) × (List (List Piece)))) := (ix a.fills c).bind fun d => (L.zbil d.2 f (decide (e.2 < 0))).bind fun b => if (b.2.2 != 0) = true then some (4, (a.fills, a.given, a.out_)) else if (!(decide (e.2 < 0))) = true then (L.zqks b.2.1).bind fun g => L.znry.J2 a c d b g else L.znry.J2 a c d b b.2.1
def L.znry (a : advance_line) (b : Int) (d : List Piece) : Option (Int × ((List (List Piece)) × (List (List Piece)) × (List (List Piece)))) := (ix a.p.Rates b).bind fun c => if (!(decide (c.2 < 0))) = true then (L.zqks d).bind fun e => L.znry.J1 a b c e else L.znry.J1 a b c d
def L.zikm.B1 (d : Nat) (a : Int × Int) (b : List Int) : Option (List Int) := (app? b ([a.2] : List Int)).bind fun c => some c
def L.zikm.B2 (d : Nat) (a : Int × Int) (b : List Int) : Option (List Int) := (app? b ([a.2] : List Int)).bind fun c => some c
def L.zikm.B3 (b : (List (List Piece)) × Int) (f : Nat) (c : Int × Int) (a : (List (List Piece)) × Int) : Option ((List (List Piece)) × Int) := (ix b.1 a.2).bind fun d => (ix a.1 c.1).bind fun e => some ((a.1.set e.1 d.2), wr (a.2 + 1))
def L.zikm.B4 (c : advance_line) (d : (List (List Piece)) × Int) (g : Nat) (e : Int × Int) (b : (List (List Piece)) × (List (List Piece)) × (List (List Piece)) × Int) : Option (((List (List Piece)) × (List (List Piece)) × (List (List Piece)) × Int) ⊕ ((Int × ((List (List Piece)) × (List (List Piece)) × (List (List Piece)))))) := (ix d.1 b.2.2.2).bind fun f => (L.znry (⟨c.n_, c.p, c.feeds, c.order, b.1, b.2.1, b.2.2.1⟩ : advance_line) e.1 f.2).bind fun a => if (a.1 != 0) = true then some ((.inr ((a.1, (a.2.1, a.2.2.1, a.2.2.2))))) else some (.inl (a.2.1, a.2.2.1, a.2.2.2, wr (b.2.2.2 + 1)))
def L.zikm (b : advance_line) (c : Int) : Option (Int × ((List (List Piece)) × (List (List Piece)) × (List (List Piece)))) := (L.zyjw b c).bind fun a => if ((a.1.length : Int) == 0) = true then some (0, (a.2.1, a.2.2.1, a.2.2.2)) else if decide ((a.1.length : Int) > 200) = true then some (4, (a.2.1, a.2.2.1, a.2.2.2)) else (L.zvgo b.n_.Ports b.p.Ports c false).bind fun g => (forS L.zikm.B1 0 g []).bind fun h => (L.zxub b.n_.Segments b.p.Rates c false).bind fun i => (forS L.zikm.B2 0 i h).bind fun j => (L.zmxf a.1 j).bind fun d => if (d.2 != 0) = true then some (d.2, (a.2.1, a.2.2.1, a.2.2.2)) else (L.zvgo b.n_.Ports b.p.Ports c false).bind fun k => (forS (L.zikm.B3 d) 0 k (a.2.2.2, 0)).bind fun f => (L.zxub b.n_.Segments b.p.Rates c false).bind fun l => (forL (L.zikm.B4 b d) 0 l (a.2.1, a.2.2.1, f.1, f.2)).bind fun m => Sum.elim (fun e => some (0, (e.1, e.2.1, e.2.2.1))) (fun n => some n) m
def L.zlri.J2 (a : (List (List Piece)) × (List (List Piece)) × (List (List Piece))) : Option (Int × ((List (List Piece)) × (List (List Piece)) × (List (List Piece)))) := some (0, (a.1, a.2.1, a.2.2))
def L.zlri.B3 (b : advance_line) (e : Nat) (d : Int) (c : (List (List Piece)) × (List (List Piece)) × (List (List Piece))) : Option (((List (List Piece)) × (List (List Piece)) × (List (List Piece))) ⊕ ((Int × ((List (List Piece)) × (List (List Piece)) × (List (List Piece)))))) := (L.zikm (⟨b.n_, b.p, b.feeds, b.order, c.1, c.2.1, c.2.2⟩ : advance_line) d).bind fun a => if (a.1 != 0) = true then some ((.inr ((a.1, (a.2.1, a.2.2.1, a.2.2.2))))) else some (.inl (a.2.1, a.2.2.1, a.2.2.2))
def L.zlri.J1 (a : advance_line) (c : (List (List Piece)) × (List (List Piece))) : Option (Int × ((List (List Piece)) × (List (List Piece)) × (List (List Piece)))) := (forL (L.zlri.B3 a) 0 a.order (a.fills, c.1, c.2)).bind fun d => Sum.elim (fun b => L.zlri.J2 (b.1, b.2.1, b.2.2)) (fun e => some e) d
def L.zlri (a : advance_line) : Option (Int × ((List (List Piece)) × (List (List Piece)) × (List (List Piece)))) := (mk? (a.n_.Segments.length : Int) ([] : List Piece)).bind fun b => (mk? (a.n_.Ports.length : Int) ([] : List Piece)).bind fun c => L.zlri.J1 a (b, c)
def L.zhye (a : Int) : Bool := (decide (a < 0) || decide (a ≥ 1000))
def L.zvbn.J2 (a : Network) (b : Plan) (c : List Int) (d : (List Int) × Int) (e : List (List Piece)) : Option ((Option advance_line) × Int) := some ((some (⟨a, b, c, d.1, e, [], []⟩ : advance_line)), 0)
def L.zvbn.B3 (e : Nat) (a : List Piece) (b : List (List Piece)) : Option (List (List Piece)) := (L.zgxj a).bind fun c => (app? b ([c] : List (List Piece))).bind fun d => some d
def L.zvbn.J1 (a : Network) (b : List (List Piece)) (c : Plan) (d : List Int) (e : (List Int) × Int) (f : Bool) : Option ((Option advance_line) × Int) := if f = true then some (none, 9) else (forS L.zvbn.B3 0 b []).bind fun g => L.zvbn.J2 a c d e g
def L.zvbn (a : Network) (d : List (List Piece)) (e : Plan) (b : List Int) : Option ((Option advance_line) × Int) := (L.zspo a d).bind fun f => if (f != 0) = true then some (none, f) else (L.zyyp a e).bind fun c => if (c.2 != 0) = true then some (none, c.2) else if ((b.length : Int) != (a.Ports.length : Int)) = true then L.zvbn.J1 a d e b c true else (L.zvoj b (fun x => some (L.zhye x))).bind fun g => L.zvbn.J1 a d e b c g
def L.zcgl (c : Network) (d : List (List Piece)) (e : Plan) (f : List Int) : Option ((List (List Piece)) × (List (List Piece)) × Int) := (L.zvbn c d e f).bind fun a => opE a.1 (if (a.2 != 0) = true then some ([], [], a.2) else none) fun g => if (a.2 != 0) = true then some ([], [], a.2) else (L.zlri g).bind fun b => if (b.1 != 0) = true then some ([], [], b.1) else some (b.2.1, b.2.2.2, 0)
structure Hop where
 Segment : Int
 Back : Bool
 deriving DecidableEq
def Hop.row (x : Hop) : List T := [.v (.int .i64 x.Segment), .v (.bool x.Back)]
def L.zqaf (a : List Int) : Bool := (decide ((a.length : Int) ≤ 400))
def L.zmsr.J1 (a : Int) : Option Int := some a
def L.zmsr.B2 (a : Piece → Option Int) (e : Nat) (b : Piece) (c : Int) : Option Int := (a b).bind fun d => some (wr (c + d))
def L.zmsr (a : List Piece) (b : Piece → Option Int) : Option Int := (forS (L.zmsr.B2 b) 0 a 0).bind fun c => L.zmsr.J1 c
def L.zljv (a : Piece) : Int := a.Volume
def L.zeou (a : List Piece) : Option Int := (L.zmsr a (fun x => some (L.zljv x))).bind fun b => some b
def L.zcpc.J2 (a : Unit) : Option (Int × Bool) := some (0, false)
def L.zcpc.B3 (b : List Piece) (c : Int) (a : Int) : Option (Int ⊕ ((Int × Bool) ⊕ Unit)) := if decide (a ≥ 0) = true then (ix b a).bind fun d => if (d.2.Batch == c) = true then (sub? b (wr (a + 1)) (b.length : Int)).bind fun e => (L.zeou e).bind fun f => some ((.inr (.inl ((f, true))))) else some (.inl (wr (a - 1))) else some ((.inr (.inr (()))))
def L.zcpc.J1 (a : List Piece) (b : Int) (f : Unit) : Option (Int × Bool) := (loopN (L.zcpc.B3 a b) lots (wr ((a.length : Int) - 1))).bind fun c => Sum.elim (fun d => some d) (fun e => L.zcpc.J2 e) c
def L.zcpc.J4 (a : Unit) : Option (Int × Bool) := some (0, false)
def L.zcpc.B5 (a : List Piece) (b : Int) (c : Nat) (d : Piece) (g : Unit) : Option (Unit ⊕ ((Int × Bool))) := if (d.Batch == b) = true then (sub? a 0 (c : Int)).bind fun e => (L.zeou e).bind fun f => some ((.inr ((f, true)))) else some (.inl ())
def L.zcpc (a : List Piece) (b : Int) (c : Bool) : Option (Int × Bool) := if c = true then (forL (L.zcpc.B5 a b) 0 a ()).bind fun d => Sum.elim (fun f => L.zcpc.J4 ()) (fun e => some e) d else L.zcpc.J1 a b ()
def L.zacw.J1 (a : List Hop) (b : Unit) : Option Bool := some (decide ((a.length : Int) ≤ 32))
def L.zacw.J3 (a : Int) (b : Int × Int) : Option (Int ⊕ (Bool)) := if (decide (a ≥ 0) && (b.1 != a)) = true then some ((.inr (false))) else some (.inl b.2)
def L.zacw.B2 (c : Network) (e : Nat) (a : Hop) (d : Int) : Option (Int ⊕ (Bool)) := if (decide (a.Segment < 0) || decide (a.Segment ≥ (c.Segments.length : Int))) = true then some ((.inr (false))) else (ix c.Segments a.Segment).bind fun b => if a.Back = true then L.zacw.J3 d (b.2.To, b.2.From) else L.zacw.J3 d (b.2.From, b.2.To)
def L.zacw (b : Network) (a : List Hop) : Option Bool := (forL (L.zacw.B2 b) 0 a (-1)).bind fun c => Sum.elim (fun e => L.zacw.J1 a ()) (fun d => some d) c
def L.zdws (a : Int) (b : Int) : Option (Int × Int) := if (decide (a < 0) || (decide (a > 1099511627776) || (decide (b < 1) || decide (b > 1000)))) = true then some (0, 1) else (quo? a b).bind fun c => some (c, 0)
def L.zpyk (a : Network) (f : List (List Piece)) (b : Int) (c : Int) : Option Int := (L.zfta a).bind fun d => if (d != 0) = true then some d else (L.zspo a f).bind fun e => if (e != 0) = true then some e else if (decide (b < 0) || decide (b ≥ (a.Ports.length : Int))) = true then some 8 else if (decide (c < 0) || decide (c > 400)) = true then some 1 else some 0
def L.zeyd.J1 (a : Unit) : Option (Int × Bool × Int) := some (0, false, 0)
def L.zeyd.B2 (d : Network) (e : List (List Piece)) (f : List Hop) (g : Int) (a : Int × Int) : Option ((Int × Int) ⊕ ((Int × Bool × Int) ⊕ Unit)) := if decide (a.2 ≥ 0) = true then (ix f a.2).bind fun b => (ix e b.2.Segment).bind fun h => (L.zcpc h.2 g b.2.Back).bind fun c => if c.2 = true then some ((.inr (.inl ((wr (a.1 + c.1), true, 0))))) else (ix d.Segments b.2.Segment).bind fun i => some (.inl (wr (a.1 + i.2.Capacity), wr (a.2 - 1))) else some ((.inr (.inr (()))))
def L.zeyd (a : Network) (c : List (List Piece)) (b : List Hop) (f : Int) : Option (Int × Bool × Int) := (L.zfta a).bind fun d => if (d != 0) = true then some (0, false, d) else (L.zspo a c).bind fun e => if (e != 0) = true then some (0, false, e) else (L.zacw a b).bind fun g => if (!g) = true then some (0, false, 11) else (loopN (L.zeyd.B2 a c b f) lots (0, wr ((b.length : Int) - 1))).bind fun h => Sum.elim (fun i => some i) (fun j => L.zeyd.J1 j) h
def L.zlie.J1 (a : Int × Bool) : Option (Int × Bool × Int) := some (a.1, a.2, 0)
def L.zlie.J3 (a : (List (List Piece)) × Int × Bool) : Option (((List (List Piece)) × Int × Bool) ⊕ ((Int × Bool × Int))) := some (.inl (a.1, a.2.1, a.2.2))
def L.zlie.J4 (b : (List (List Piece)) × (List (List Piece)) × Int) (a : Int × Bool) : Option (((List (List Piece)) × Int × Bool) ⊕ ((Int × Bool × Int))) := L.zlie.J3 (b.1, a.1, a.2)
def L.zlie.J6 (a : Int × Bool) : Option (Int × Bool) := some (a.1, a.2)
def L.zlie.B5 (c : Int) (d : Nat) (e : Nat) (b : Piece) (a : Int × Bool) : Option (Int × Bool) := if ((!a.2) && ((b.Batch == c) && decide (b.Volume > 0))) = true then L.zlie.J6 ((d : Int), true) else L.zlie.J6 (a.1, a.2)
def L.zlie.B2 (d : Network) (e : Plan) (f : List Int) (g : Int) (h : Int) (i : Nat) (b : (List (List Piece)) × Int × Bool) : Option (((List (List Piece)) × Int × Bool) ⊕ ((Int × Bool × Int))) := (L.zcgl d b.1 e f).bind fun a => if (a.2.2 != 0) = true then some ((.inr ((0, false, a.2.2)))) else (ix a.2.1 g).bind fun j => (forS (L.zlie.B5 h i) 0 j.2 (b.2.1, b.2.2)).bind fun c => L.zlie.J4 a (c.1, c.2)
def L.zlie (b : Network) (c : List (List Piece)) (g : Plan) (h : List Int) (d : Int) (i : Int) (a : Int) : Option (Int × Bool × Int) := (L.zpyk b c d a).bind fun e => if (e != 0) = true then some (0, false, e) else (chk (a ≤ 9223372036854775806)).bind fun l => (forI (L.zlie.B2 b g h d i) 0 a.toNat (c, 0, false)).bind fun j => Sum.elim (fun f => L.zlie.J1 (f.2.1, f.2.2)) (fun k => some k) j
def L.zvce (a : Int) : Network := (⟨([(⟨#[97]⟩ : ByteArray), (⟨#[98]⟩ : ByteArray)] : List ByteArray), ([(⟨(⟨#[103]⟩ : ByteArray), 0, 1, a, 0, 0, ([(⟨0, 0, 1000000⟩ : Point), (⟨a, 0, 1000000⟩ : Point)] : List Point)⟩ : Segment)] : List Segment), ([(⟨(⟨#[112]⟩ : ByteArray), 0, 300000⟩ : Port), (⟨(⟨#[113]⟩ : ByteArray), 1, 0⟩ : Port)] : List Port), [], 0, 0⟩ : Network)
def L.zuro : Option Bool := (L.zeyd (L.zvce 100) ([([(⟨1, 30⟩ : Piece), (⟨2, 70⟩ : Piece)] : List Piece)] : List (List Piece)) ([(⟨0, false⟩ : Hop)] : List Hop) 1).bind fun a => (L.zdws a.1 8).bind fun c => (L.zlie (L.zvce 100) ([([(⟨1, 30⟩ : Piece), (⟨2, 70⟩ : Piece)] : List Piece)] : List (List Piece)) (⟨([8] : List Int), ([8, (-8)] : List Int), []⟩ : Plan) ([3, 0] : List Int) 1 1 20).bind fun b => some ((a.2.2 == 0) && ((c.2 == 0) && ((b.2.2 == 0) && (a.2.1 && (b.2.1 && ((a.1 == 70) && ((c.1 == 8) && (b.1 == 8))))))))
def L.zkdd.J4 (a : Bool) : Option Bool := some a
def L.zkdd.J3 (b : Int) (a : (List Int) × Int × (List ByteArray) × (List Segment) × (List Hop) × Int) (e : List Int) (f : (List (List Piece)) × KS) (i : Unit) : Option Bool := (quo? a.2.2.2.2.2 (wr (1 + ((wr (b)).tmod 10)))).bind fun g => (L.zlie (⟨a.2.2.1, a.2.2.2.1, ([(⟨(⟨#[112]⟩ : ByteArray), 0, 0⟩ : Port), (⟨(⟨#[113]⟩ : ByteArray), wr ((a.2.2.1.length : Int) - 1), 0⟩ : Port)] : List Port), [], 0, 0⟩ : Network) f.1 (⟨e, ([wr (1 + ((wr (b)).tmod 10)), wr (0 - (wr (1 + ((wr (b)).tmod 10))))] : List Int), []⟩ : Plan) ([7, 0] : List Int) 1 7 (wr (g + 2))).bind fun c => (L.zdws a.2.2.2.2.2 (wr (1 + ((wr (b)).tmod 10)))).bind fun d => if (c.2.2 == 0) = true then if (d.2 == 0) = true then if c.2.1 = true then if (c.1 == d.1) = true then (L.zuro).bind fun h => L.zkdd.J4 h else L.zkdd.J4 false else L.zkdd.J4 false else L.zkdd.J4 false else L.zkdd.J4 false
def L.zkdd.B5 (b : Int) (a : (List Int) × Int × (List ByteArray) × (List Segment) × (List Hop) × Int) (h : List Int) (f : (List (List Piece)) × KS) (c : Int) : Option (Int ⊕ (Bool ⊕ Unit)) := if decide (c < 5) = true then (L.zeyd (⟨a.2.2.1, a.2.2.2.1, ([(⟨(⟨#[112]⟩ : ByteArray), 0, 0⟩ : Port), (⟨(⟨#[113]⟩ : ByteArray), wr ((a.2.2.1.length : Int) - 1), 0⟩ : Port)] : List Port), [], 0, 0⟩ : Network) f.1 a.2.2.2.2.1 c).bind fun d => (L.zdws d.1 (wr (1 + ((wr (b)).tmod 10)))).bind fun g => (quo? a.2.2.2.2.2 (wr (1 + ((wr (b)).tmod 10)))).bind fun i => (L.zlie (⟨a.2.2.1, a.2.2.2.1, ([(⟨(⟨#[112]⟩ : ByteArray), 0, 0⟩ : Port), (⟨(⟨#[113]⟩ : ByteArray), wr ((a.2.2.1.length : Int) - 1), 0⟩ : Port)] : List Port), [], 0, 0⟩ : Network) f.1 (⟨h, ([wr (1 + ((wr (b)).tmod 10)), wr (0 - (wr (1 + ((wr (b)).tmod 10))))] : List Int), []⟩ : Plan) ([7, 0] : List Int) 1 c (wr (i + 2))).bind fun e => if ((d.2.2 != 0) || ((g.2 != 0) || ((e.2.2 != 0) || ((d.2.1 != e.2.1) || (d.2.1 && (g.1 != e.1)))))) = true then some ((.inr (.inl (false)))) else some (.inl (wr (c + 1))) else some ((.inr (.inr (()))))
def L.zkdd.J2 (b : Int) (a : (List Int) × Int × (List ByteArray) × (List Segment) × (List Hop) × Int) (c : List Int) : Option Bool := (L.zbhc (⟨a.1, a.2.1⟩ : KS) (⟨a.2.2.1, a.2.2.2.1, ([(⟨(⟨#[112]⟩ : ByteArray), 0, 0⟩ : Port), (⟨(⟨#[113]⟩ : ByteArray), wr ((a.2.2.1.length : Int) - 1), 0⟩ : Port)] : List Port), [], 0, 0⟩ : Network) 5).bind fun d => (loopN (L.zkdd.B5 b a c d) lots 0).bind fun e => Sum.elim (fun f => some f) (fun g => L.zkdd.J3 b a c d g) e
def L.zkdd.J7 (a : (List Int) × Int) (b : List Int) : Option (((List Int) × Int) ⊕ ((List Int))) := some (.inl (b, wr (a.2 + 1)))
def L.zkdd.B6 (b : Int) (c : (List Int) × Int × (List ByteArray) × (List Segment) × (List Hop) × Int) (a : (List Int) × Int) : Option (((List Int) × Int) ⊕ ((List Int))) := if decide (a.2 < (c.2.2.2.2.1.length : Int)) = true then (ix c.2.2.2.2.1 a.2).bind fun d => if d.2.Back = true then (app? a.1 ([wr (0 - (wr (1 + ((wr (b)).tmod 10))))] : List Int)).bind fun e => L.zkdd.J7 a e else (app? a.1 ([wr (1 + ((wr (b)).tmod 10))] : List Int)).bind fun f => L.zkdd.J7 a f else some ((.inr (a.1)))
def L.zkdd.J1 (a : Int) (b : (List Int) × Int × (List ByteArray) × (List Segment) × (List Hop) × Int) : Option Bool := (loopN (L.zkdd.B6 a b) lots ([], 0)).bind fun c => L.zkdd.J2 a b c
def L.zkdd.J10 (a : (List Int) × Int × (List ByteArray) × (List Segment) × (List Hop) × Int × Int) (c : (List Int) × Int × ByteArray × Int) (b : (List Int) × Int × Int × Int × Bool) : Option (((List Int) × Int × (List ByteArray) × (List Segment) × (List Hop) × Int × Int) ⊕ (((List Int) × Int × (List ByteArray) × (List Segment) × (List Hop) × Int))) := (bytes? ([IntKind.u8.wrap (wr (48 + (a.2.2.1.length : Int)))] : List Int)).bind fun d => (cat? (⟨#[110]⟩ : ByteArray) d).bind fun e => (app? a.2.2.1 ([e] : List ByteArray)).bind fun f => (app? a.2.2.2.1 ([(⟨c.2.2.1, b.2.2.1, b.2.2.2.1, c.2.2.2, 0, 0, ([(⟨0, 0, 1000⟩ : Point), (⟨c.2.2.2, 0, 1000⟩ : Point)] : List Point)⟩ : Segment)] : List Segment)).bind fun g => (app? a.2.2.2.2.1 ([(⟨wr ((a.2.2.1.length : Int) - 1), b.2.2.2.2⟩ : Hop)] : List Hop)).bind fun h => some (.inl (b.1, b.2.1, f, g, h, wr (a.2.2.2.2.2.1 + c.2.2.2), wr (a.2.2.2.2.2.2 - 1)))
def L.zkdd.J9 (a : (List Int) × Int × (List ByteArray) × (List Segment) × (List Hop) × Int × Int) (c : (List Int) × Int × ByteArray × Int) : Option (((List Int) × Int × (List ByteArray) × (List Segment) × (List Hop) × Int × Int) ⊕ (((List Int) × Int × (List ByteArray) × (List Segment) × (List Hop) × Int))) := (L.zdjb (⟨c.1, c.2.1⟩ : KS) 3).bind fun b => if (b.1 == 0) = true then L.zkdd.J10 a c (b.2.L_, b.2.At, (a.2.2.1.length : Int), wr ((a.2.2.1.length : Int) - 1), true) else L.zkdd.J10 a c (b.2.L_, b.2.At, wr ((a.2.2.1.length : Int) - 1), (a.2.2.1.length : Int), false)
def L.zkdd.B8 (a : (List Int) × Int × (List ByteArray) × (List Segment) × (List Hop) × Int × Int) : Option (((List Int) × Int × (List ByteArray) × (List Segment) × (List Hop) × Int × Int) ⊕ (((List Int) × Int × (List ByteArray) × (List Segment) × (List Hop) × Int))) := if decide (a.2.2.2.2.2.2 > 0) = true then (bytes? ([IntKind.u8.wrap (wr (48 + (a.2.2.1.length : Int)))] : List Int)).bind fun c => (cat? (⟨#[103]⟩ : ByteArray) c).bind fun d => (L.ziuk (⟨a.1, a.2.1⟩ : KS) 10 60).bind fun b => L.zkdd.J9 a (b.2.L_, b.2.At, d, b.1) else some ((.inr ((a.1, a.2.1, a.2.2.1, a.2.2.2.1, a.2.2.2.2.1, a.2.2.2.2.2.1))))
def L.zkdd (b : List Int) (c : Int) : Option Bool := if (!(L.zqaf b)) = true then (L.zuro).bind fun d => some d else (L.ziti b).bind fun e => (L.zdjb e 4).bind fun a => (loopN L.zkdd.B8 lots (a.2.L_, a.2.At, ([(⟨#[110, 48]⟩ : ByteArray)] : List ByteArray), [], [], 0, wr (1 + a.1))).bind fun f => L.zkdd.J1 c f
end Go.Proofs.Ytaliejncdnegeaa
