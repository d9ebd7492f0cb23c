/- Tables and pure functions. No condition. -/
import Derived.Test.YtligpmmgdjipbaaZxB2
import Derived.Test.YtligpmmgdjipbaaRows
import Derived.KernelRfl
set_option maxRecDepth 100000
namespace Go.Aw
set_option linter.unusedVariables false
set_option linter.unusedSimpArgs false
inductive TT where
 | nil
 | node (l : TT) (k : Nat) (x : TI) (r : TT)
def getTT : TT → Nat → Option TI
 | .nil, _ => none
 | .node l k x r, i => bif Nat.beq k i then some x else bif Nat.ble k i then getTT r i else getTT l i
def allTT (P : Program) : TT → Prop
 | .nil => True
 | .node l k x r => allTT P l ∧ tiOf P k = some x ∧ allTT P r
theorem getTT_ok {P : Program} : ∀ {t : TT} {i : Nat} {x : TI}, allTT P t → getTT t i = some x → tiOf P i = some x
 | .nil, _, _, _, h => by simp [getTT] at h
 | .node l k y r, i, x, ha, h => by
  simp only [getTT] at h
  cases hb : Nat.beq k i with
  | true =>
   have := Nat.eq_of_beq_eq_true hb
   simp only [hb, cond_true, Option.some.injEq] at h
   subst h this; exact ha.2.1
  | false =>
   simp only [hb, cond_false] at h
   cases hc : Nat.ble k i with
   | true => simp only [hc, cond_true] at h; exact getTT_ok ha.2.2 h
   | false => simp only [hc, cond_false] at h; exact getTT_ok ha.1 h
end Go.Aw
namespace Go.Proofs.Ytligpmmgdjipbaa
open Go.Aw
@[reducible] def Try.x3 : TI := { kind := .int .i64, size := 1, bytes := 8, zero := some (.int .i64 0) }
@[reducible] def Try.x4 : TI := { kind := .bool, size := 1, bytes := 1, zero := some (.bool false) }
@[reducible] def Try.x5 : TI := { kind := .int .u8, size := 1, bytes := 1, zero := some (.int .u8 0) }
@[reducible] def Try.x9 : TI := { kind := .string, size := 1, bytes := 16, zero := some (.string ⟨#[]⟩) }
@[reducible] def Try.x22 : TI := { kind := .slice 3, size := 1, bytes := 24, zero := some (.slice none 0 0) }
@[reducible] def Try.x25 : TI := { kind := .slice 9, size := 1, bytes := 24, zero := some (.slice none 0 0) }
@[reducible] def Try.x26 : TI := { kind := .slice 34, size := 1, bytes := 24, zero := some (.slice none 0 0) }
@[reducible] def Try.x27 : TI := { kind := .slice 70, size := 1, bytes := 24, zero := some (.slice none 0 0) }
@[reducible] def Try.x28 : TI := { kind := .slice 86, size := 1, bytes := 24, zero := some (.slice none 0 0) }
@[reducible] def Try.x30 : TI := { kind := .struct [(0, 25), (1, 26), (2, 27), (3, 28), (4, 3), (5, 3)], size := 6, bytes := 112, zero := some (.agg #[.slice none 0 0, .slice none 0 0, .slice none 0 0, .slice none 0 0, .int .i64 0, .int .i64 0]) }
@[reducible] def Try.x32 : TI := { kind := .slice 81, size := 1, bytes := 24, zero := some (.slice none 0 0) }
@[reducible] def Try.x34 : TI := { kind := .struct [(0, 9), (1, 3), (2, 3), (3, 3), (4, 3), (5, 3), (6, 32)], size := 7, bytes := 80, zero := some (.agg #[.string ⟨#[]⟩, .int .i64 0, .int .i64 0, .int .i64 0, .int .i64 0, .int .i64 0, .slice none 0 0]) }
@[reducible] def Try.x35 : TI := { kind := .slice 4, size := 1, bytes := 24, zero := some (.slice none 0 0) }
@[reducible] def Try.x37 : TI := { kind := .struct [(0, 22), (1, 22), (2, 35)], size := 3, bytes := 72, zero := some (.agg #[.slice none 0 0, .slice none 0 0, .slice none 0 0]) }
@[reducible] def Try.x38 : TI := { kind := .slice 44, size := 1, bytes := 24, zero := some (.slice none 0 0) }
@[reducible] def Try.x40 : TI := { kind := .int .i64, size := 1, bytes := 8, zero := some (.int .i64 0) }
@[reducible] def Try.x44 : TI := { kind := .slice 46, size := 1, bytes := 24, zero := some (.slice none 0 0) }
@[reducible] def Try.x46 : TI := { kind := .struct [(0, 3), (1, 3)], size := 2, bytes := 16, zero := some (.agg #[.int .i64 0, .int .i64 0]) }
@[reducible] def Try.x58 : TI := { kind := .slice 60, size := 1, bytes := 24, zero := some (.slice none 0 0) }
@[reducible] def Try.x60 : TI := { kind := .struct [(0, 3), (1, 4)], size := 2, bytes := 16, zero := some (.agg #[.int .i64 0, .bool false]) }
@[reducible] def Try.x65 : TI := { kind := .struct [(0, 22), (1, 3)], size := 2, bytes := 32, zero := some (.agg #[.slice none 0 0, .int .i64 0]) }
@[reducible] def Try.x67 : TI := { kind := .slice 5, size := 1, bytes := 24, zero := some (.slice none 0 0) }
@[reducible] def Try.x70 : TI := { kind := .struct [(0, 9), (1, 3), (2, 3)], size := 3, bytes := 32, zero := some (.agg #[.string ⟨#[]⟩, .int .i64 0, .int .i64 0]) }
@[reducible] def Try.x72 : TI := { kind := .other, size := 1, bytes := 8, zero := some (.pointer none) }
@[reducible] def Try.x77 : TI := { kind := .struct [(0, 30), (6, 37), (9, 22), (10, 22), (11, 38), (12, 38), (13, 38)], size := 14, bytes := 304, zero := some (.agg #[.slice none 0 0, .slice none 0 0, .slice none 0 0, .slice none 0 0, .int .i64 0, .int .i64 0, .slice none 0 0, .slice none 0 0, .slice none 0 0, .slice none 0 0, .slice none 0 0, .slice none 0 0, .slice none 0 0, .slice none 0 0]) }
@[reducible] def Try.x78 : TI := { kind := .array 2 3, size := 2, bytes := 16, zero := some (.agg #[.int .i64 0, .int .i64 0]) }
@[reducible] def Try.x79 : TI := { kind := .slice 78, size := 1, bytes := 24, zero := some (.slice none 0 0) }
@[reducible] def Try.x81 : TI := { kind := .struct [(0, 3), (1, 3), (2, 3)], size := 3, bytes := 24, zero := some (.agg #[.int .i64 0, .int .i64 0, .int .i64 0]) }
@[reducible] def Try.x86 : TI := { kind := .struct [(0, 9), (1, 3), (2, 3), (3, 3), (4, 3)], size := 5, bytes := 48, zero := some (.agg #[.string ⟨#[]⟩, .int .i64 0, .int .i64 0, .int .i64 0, .int .i64 0]) }
@[reducible] def Try.x100 : TI := { kind := .array 4 25, size := 4, bytes := 96, zero := some (.agg #[.slice none 0 0, .slice none 0 0, .slice none 0 0, .slice none 0 0]) }
@[reducible] def Try.x128 : TI := { kind := .array 24 3, size := 24, bytes := 192, zero := some (.agg #[.int .i64 0, .int .i64 0, .int .i64 0, .int .i64 0, .int .i64 0, .int .i64 0, .int .i64 0, .int .i64 0, .int .i64 0, .int .i64 0, .int .i64 0, .int .i64 0, .int .i64 0, .int .i64 0, .int .i64 0, .int .i64 0, .int .i64 0, .int .i64 0, .int .i64 0, .int .i64 0, .int .i64 0, .int .i64 0, .int .i64 0, .int .i64 0]) }
@[reducible] def Try.x130 : TI := { kind := .struct [(0, 128), (24, 128)], size := 48, bytes := 384, zero := some (.agg #[.int .i64 0, .int .i64 0, .int .i64 0, .int .i64 0, .int .i64 0, .int .i64 0, .int .i64 0, .int .i64 0, .int .i64 0, .int .i64 0, .int .i64 0, .int .i64 0, .int .i64 0, .int .i64 0, .int .i64 0, .int .i64 0, .int .i64 0, .int .i64 0, .int .i64 0, .int .i64 0, .int .i64 0, .int .i64 0, .int .i64 0, .int .i64 0, .int .i64 0, .int .i64 0, .int .i64 0, .int .i64 0, .int .i64 0, .int .i64 0, .int .i64 0, .int .i64 0, .int .i64 0, .int .i64 0, .int .i64 0, .int .i64 0, .int .i64 0, .int .i64 0, .int .i64 0, .int .i64 0, .int .i64 0, .int .i64 0, .int .i64 0, .int .i64 0, .int .i64 0, .int .i64 0, .int .i64 0, .int .i64 0]) }
@[reducible] def Try.x135 : TI := { kind := .array 64 3, size := 64, bytes := 512, zero := some (.agg #[.int .i64 0, .int .i64 0, .int .i64 0, .int .i64 0, .int .i64 0, .int .i64 0, .int .i64 0, .int .i64 0, .int .i64 0, .int .i64 0, .int .i64 0, .int .i64 0, .int .i64 0, .int .i64 0, .int .i64 0, .int .i64 0, .int .i64 0, .int .i64 0, .int .i64 0, .int .i64 0, .int .i64 0, .int .i64 0, .int .i64 0, .int .i64 0, .int .i64 0, .int .i64 0, .int .i64 0, .int .i64 0, .int .i64 0, .int .i64 0, .int .i64 0, .int .i64 0, .int .i64 0, .int .i64 0, .int .i64 0, .int .i64 0, .int .i64 0, .int .i64 0, .int .i64 0, .int .i64 0, .int .i64 0, .int .i64 0, .int .i64 0, .int .i64 0, .int .i64 0, .int .i64 0, .int .i64 0, .int .i64 0, .int .i64 0, .int .i64 0, .int .i64 0, .int .i64 0, .int .i64 0, .int .i64 0, .int .i64 0, .int .i64 0, .int .i64 0, .int .i64 0, .int .i64 0, .int .i64 0, .int .i64 0, .int .i64 0, .int .i64 0, .int .i64 0]) }
@[reducible] def Try.x137 : TI := { kind := .struct [(0, 3), (1, 135), (65, 135)], size := 129, bytes := 1032, zero := some (.agg #[.int .i64 0, .int .i64 0, .int .i64 0, .int .i64 0, .int .i64 0, .int .i64 0, .int .i64 0, .int .i64 0, .int .i64 0, .int .i64 0, .int .i64 0, .int .i64 0, .int .i64 0, .int .i64 0, .int .i64 0, .int .i64 0, .int .i64 0, .int .i64 0, .int .i64 0, .int .i64 0, .int .i64 0, .int .i64 0, .int .i64 0, .int .i64 0, .int .i64 0, .int .i64 0, .int .i64 0, .int .i64 0, .int .i64 0, .int .i64 0, .int .i64 0, .int .i64 0, .int .i64 0, .int .i64 0, .int .i64 0, .int .i64 0, .int .i64 0, .int .i64 0, .int .i64 0, .int .i64 0, .int .i64 0, .int .i64 0, .int .i64 0, .int .i64 0, .int .i64 0, .int .i64 0, .int .i64 0, .int .i64 0, .int .i64 0, .int .i64 0, .int .i64 0, .int .i64 0, .int .i64 0, .int .i64 0, .int .i64 0, .int .i64 0, .int .i64 0, .int .i64 0, .int .i64 0, .int .i64 0, .int .i64 0, .int .i64 0, .int .i64 0, .int .i64 0, .int .i64 0, .int .i64 0, .int .i64 0, .int .i64 0, .int .i64 0, .int .i64 0, .int .i64 0, .int .i64 0, .int .i64 0, .int .i64 0, .int .i64 0, .int .i64 0, .int .i64 0, .int .i64 0, .int .i64 0, .int .i64 0, .int .i64 0, .int .i64 0, .int .i64 0, .int .i64 0, .int .i64 0, .int .i64 0, .int .i64 0, .int .i64 0, .int .i64 0, .int .i64 0, .int .i64 0, .int .i64 0, .int .i64 0, .int .i64 0, .int .i64 0, .int .i64 0, .int .i64 0, .int .i64 0, .int .i64 0, .int .i64 0, .int .i64 0, .int .i64 0, .int .i64 0, .int .i64 0, .int .i64 0, .int .i64 0, .int .i64 0, .int .i64 0, .int .i64 0, .int .i64 0, .int .i64 0, .int .i64 0, .int .i64 0, .int .i64 0, .int .i64 0, .int .i64 0, .int .i64 0, .int .i64 0, .int .i64 0, .int .i64 0, .int .i64 0, .int .i64 0, .int .i64 0, .int .i64 0, .int .i64 0, .int .i64 0, .int .i64 0, .int .i64 0, .int .i64 0]) }
def Try.tabT : TT := (.node (.node (.node (.node (.node (.node .nil 3 Try.x3 .nil) 4 Try.x4 .nil) 5 Try.x5 (.node .nil 9 Try.x9 .nil)) 22 Try.x22 (.node (.node .nil 25 Try.x25 .nil) 26 Try.x26 (.node .nil 27 Try.x27 .nil))) 28 Try.x28 (.node (.node (.node (.node .nil 30 Try.x30 .nil) 32 Try.x32 .nil) 34 Try.x34 (.node .nil 35 Try.x35 .nil)) 37 Try.x37 (.node (.node .nil 38 Try.x38 .nil) 40 Try.x40 (.node .nil 44 Try.x44 .nil)))) 46 Try.x46 (.node (.node (.node (.node (.node .nil 58 Try.x58 .nil) 60 Try.x60 .nil) 65 Try.x65 (.node .nil 67 Try.x67 .nil)) 70 Try.x70 (.node (.node .nil 72 Try.x72 .nil) 77 Try.x77 (.node .nil 78 Try.x78 .nil))) 79 Try.x79 (.node (.node (.node .nil 81 Try.x81 .nil) 86 Try.x86 (.node .nil 100 Try.x100 .nil)) 128 Try.x128 (.node (.node .nil 130 Try.x130 .nil) 135 Try.x135 (.node .nil 137 Try.x137 .nil)))))
theorem Try.ti3 : tiOf Try.prog 3 = some { kind := .int .i64, size := 1, bytes := 8, zero := some (.int .i64 0) } := by kernel_rfl
theorem Try.ti4 : tiOf Try.prog 4 = some { kind := .bool, size := 1, bytes := 1, zero := some (.bool false) } := by kernel_rfl
theorem Try.ti5 : tiOf Try.prog 5 = some { kind := .int .u8, size := 1, bytes := 1, zero := some (.int .u8 0) } := by kernel_rfl
theorem Try.ti9 : tiOf Try.prog 9 = some { kind := .string, size := 1, bytes := 16, zero := some (.string ⟨#[]⟩) } := by kernel_rfl
theorem Try.ti22 : tiOf Try.prog 22 = some { kind := .slice 3, size := 1, bytes := 24, zero := some (.slice none 0 0) } := by kernel_rfl
theorem Try.ti25 : tiOf Try.prog 25 = some { kind := .slice 9, size := 1, bytes := 24, zero := some (.slice none 0 0) } := by kernel_rfl
theorem Try.ti26 : tiOf Try.prog 26 = some { kind := .slice 34, size := 1, bytes := 24, zero := some (.slice none 0 0) } := by kernel_rfl
theorem Try.ti27 : tiOf Try.prog 27 = some { kind := .slice 70, size := 1, bytes := 24, zero := some (.slice none 0 0) } := by kernel_rfl
theorem Try.ti28 : tiOf Try.prog 28 = some { kind := .slice 86, size := 1, bytes := 24, zero := some (.slice none 0 0) } := by kernel_rfl
theorem Try.ti30 : tiOf Try.prog 30 = some { kind := .struct [(0, 25), (1, 26), (2, 27), (3, 28), (4, 3), (5, 3)], size := 6, bytes := 112, zero := some (.agg #[.slice none 0 0, .slice none 0 0, .slice none 0 0, .slice none 0 0, .int .i64 0, .int .i64 0]) } := by kernel_rfl
theorem Try.ti32 : tiOf Try.prog 32 = some { kind := .slice 81, size := 1, bytes := 24, zero := some (.slice none 0 0) } := by kernel_rfl
theorem Try.ti34 : tiOf Try.prog 34 = some { kind := .struct [(0, 9), (1, 3), (2, 3), (3, 3), (4, 3), (5, 3), (6, 32)], size := 7, bytes := 80, zero := some (.agg #[.string ⟨#[]⟩, .int .i64 0, .int .i64 0, .int .i64 0, .int .i64 0, .int .i64 0, .slice none 0 0]) } := by kernel_rfl
theorem Try.ti35 : tiOf Try.prog 35 = some { kind := .slice 4, size := 1, bytes := 24, zero := some (.slice none 0 0) } := by kernel_rfl
theorem Try.ti37 : tiOf Try.prog 37 = some { kind := .struct [(0, 22), (1, 22), (2, 35)], size := 3, bytes := 72, zero := some (.agg #[.slice none 0 0, .slice none 0 0, .slice none 0 0]) } := by kernel_rfl
theorem Try.ti38 : tiOf Try.prog 38 = some { kind := .slice 44, size := 1, bytes := 24, zero := some (.slice none 0 0) } := by kernel_rfl
theorem Try.ti40 : tiOf Try.prog 40 = some { kind := .int .i64, size := 1, bytes := 8, zero := some (.int .i64 0) } := by kernel_rfl
theorem Try.ti44 : tiOf Try.prog 44 = some { kind := .slice 46, size := 1, bytes := 24, zero := some (.slice none 0 0) } := by kernel_rfl
theorem Try.ti46 : tiOf Try.prog 46 = some { kind := .struct [(0, 3), (1, 3)], size := 2, bytes := 16, zero := some (.agg #[.int .i64 0, .int .i64 0]) } := by kernel_rfl
theorem Try.ti58 : tiOf Try.prog 58 = some { kind := .slice 60, size := 1, bytes := 24, zero := some (.slice none 0 0) } := by kernel_rfl
theorem Try.ti60 : tiOf Try.prog 60 = some { kind := .struct [(0, 3), (1, 4)], size := 2, bytes := 16, zero := some (.agg #[.int .i64 0, .bool false]) } := by kernel_rfl
theorem Try.ti65 : tiOf Try.prog 65 = some { kind := .struct [(0, 22), (1, 3)], size := 2, bytes := 32, zero := some (.agg #[.slice none 0 0, .int .i64 0]) } := by kernel_rfl
theorem Try.ti67 : tiOf Try.prog 67 = some { kind := .slice 5, size := 1, bytes := 24, zero := some (.slice none 0 0) } := by kernel_rfl
theorem Try.ti70 : tiOf Try.prog 70 = some { kind := .struct [(0, 9), (1, 3), (2, 3)], size := 3, bytes := 32, zero := some (.agg #[.string ⟨#[]⟩, .int .i64 0, .int .i64 0]) } := by kernel_rfl
theorem Try.ti72 : tiOf Try.prog 72 = some { kind := .other, size := 1, bytes := 8, zero := some (.pointer none) } := by kernel_rfl
theorem Try.ti77 : tiOf Try.prog 77 = some { kind := .struct [(0, 30), (6, 37), (9, 22), (10, 22), (11, 38), (12, 38), (13, 38)], size := 14, bytes := 304, zero := some (.agg #[.slice none 0 0, .slice none 0 0, .slice none 0 0, .slice none 0 0, .int .i64 0, .int .i64 0, .slice none 0 0, .slice none 0 0, .slice none 0 0, .slice none 0 0, .slice none 0 0, .slice none 0 0, .slice none 0 0, .slice none 0 0]) } := by kernel_rfl
theorem Try.ti78 : tiOf Try.prog 78 = some { kind := .array 2 3, size := 2, bytes := 16, zero := some (.agg #[.int .i64 0, .int .i64 0]) } := by kernel_rfl
theorem Try.ti79 : tiOf Try.prog 79 = some { kind := .slice 78, size := 1, bytes := 24, zero := some (.slice none 0 0) } := by kernel_rfl
theorem Try.ti81 : tiOf Try.prog 81 = some { kind := .struct [(0, 3), (1, 3), (2, 3)], size := 3, bytes := 24, zero := some (.agg #[.int .i64 0, .int .i64 0, .int .i64 0]) } := by kernel_rfl
theorem Try.ti86 : tiOf Try.prog 86 = some { kind := .struct [(0, 9), (1, 3), (2, 3), (3, 3), (4, 3)], size := 5, bytes := 48, zero := some (.agg #[.string ⟨#[]⟩, .int .i64 0, .int .i64 0, .int .i64 0, .int .i64 0]) } := by kernel_rfl
theorem Try.ti100 : tiOf Try.prog 100 = some { kind := .array 4 25, size := 4, bytes := 96, zero := some (.agg #[.slice none 0 0, .slice none 0 0, .slice none 0 0, .slice none 0 0]) } := by kernel_rfl
theorem Try.ti128 : tiOf Try.prog 128 = some { kind := .array 24 3, size := 24, bytes := 192, zero := some (.agg #[.int .i64 0, .int .i64 0, .int .i64 0, .int .i64 0, .int .i64 0, .int .i64 0, .int .i64 0, .int .i64 0, .int .i64 0, .int .i64 0, .int .i64 0, .int .i64 0, .int .i64 0, .int .i64 0, .int .i64 0, .int .i64 0, .int .i64 0, .int .i64 0, .int .i64 0, .int .i64 0, .int .i64 0, .int .i64 0, .int .i64 0, .int .i64 0]) } := by kernel_rfl
theorem Try.ti130 : tiOf Try.prog 130 = some { kind := .struct [(0, 128), (24, 128)], size := 48, bytes := 384, zero := some (.agg #[.int .i64 0, .int .i64 0, .int .i64 0, .int .i64 0, .int .i64 0, .int .i64 0, .int .i64 0, .int .i64 0, .int .i64 0, .int .i64 0, .int .i64 0, .int .i64 0, .int .i64 0, .int .i64 0, .int .i64 0, .int .i64 0, .int .i64 0, .int .i64 0, .int .i64 0, .int .i64 0, .int .i64 0, .int .i64 0, .int .i64 0, .int .i64 0, .int .i64 0, .int .i64 0, .int .i64 0, .int .i64 0, .int .i64 0, .int .i64 0, .int .i64 0, .int .i64 0, .int .i64 0, .int .i64 0, .int .i64 0, .int .i64 0, .int .i64 0, .int .i64 0, .int .i64 0, .int .i64 0, .int .i64 0, .int .i64 0, .int .i64 0, .int .i64 0, .int .i64 0, .int .i64 0, .int .i64 0, .int .i64 0]) } := by kernel_rfl
theorem Try.ti135 : tiOf Try.prog 135 = some { kind := .array 64 3, size := 64, bytes := 512, zero := some (.agg #[.int .i64 0, .int .i64 0, .int .i64 0, .int .i64 0, .int .i64 0, .int .i64 0, .int .i64 0, .int .i64 0, .int .i64 0, .int .i64 0, .int .i64 0, .int .i64 0, .int .i64 0, .int .i64 0, .int .i64 0, .int .i64 0, .int .i64 0, .int .i64 0, .int .i64 0, .int .i64 0, .int .i64 0, .int .i64 0, .int .i64 0, .int .i64 0, .int .i64 0, .int .i64 0, .int .i64 0, .int .i64 0, .int .i64 0, .int .i64 0, .int .i64 0, .int .i64 0, .int .i64 0, .int .i64 0, .int .i64 0, .int .i64 0, .int .i64 0, .int .i64 0, .int .i64 0, .int .i64 0, .int .i64 0, .int .i64 0, .int .i64 0, .int .i64 0, .int .i64 0, .int .i64 0, .int .i64 0, .int .i64 0, .int .i64 0, .int .i64 0, .int .i64 0, .int .i64 0, .int .i64 0, .int .i64 0, .int .i64 0, .int .i64 0, .int .i64 0, .int .i64 0, .int .i64 0, .int .i64 0, .int .i64 0, .int .i64 0, .int .i64 0, .int .i64 0]) } := by kernel_rfl
theorem Try.ti137 : tiOf Try.prog 137 = some { kind := .struct [(0, 3), (1, 135), (65, 135)], size := 129, bytes := 1032, zero := some (.agg #[.int .i64 0, .int .i64 0, .int .i64 0, .int .i64 0, .int .i64 0, .int .i64 0, .int .i64 0, .int .i64 0, .int .i64 0, .int .i64 0, .int .i64 0, .int .i64 0, .int .i64 0, .int .i64 0, .int .i64 0, .int .i64 0, .int .i64 0, .int .i64 0, .int .i64 0, .int .i64 0, .int .i64 0, .int .i64 0, .int .i64 0, .int .i64 0, .int .i64 0, .int .i64 0, .int .i64 0, .int .i64 0, .int .i64 0, .int .i64 0, .int .i64 0, .int .i64 0, .int .i64 0, .int .i64 0, .int .i64 0, .int .i64 0, .int .i64 0, .int .i64 0, .int .i64 0, .int .i64 0, .int .i64 0, .int .i64 0, .int .i64 0, .int .i64 0, .int .i64 0, .int .i64 0, .int .i64 0, .int .i64 0, .int .i64 0, .int .i64 0, .int .i64 0, .int .i64 0, .int .i64 0, .int .i64 0, .int .i64 0, .int .i64 0, .int .i64 0, .int .i64 0, .int .i64 0, .int .i64 0, .int .i64 0, .int .i64 0, .int .i64 0, .int .i64 0, .int .i64 0, .int .i64 0, .int .i64 0, .int .i64 0, .int .i64 0, .int .i64 0, .int .i64 0, .int .i64 0, .int .i64 0, .int .i64 0, .int .i64 0, .int .i64 0, .int .i64 0, .int .i64 0, .int .i64 0, .int .i64 0, .int .i64 0, .int .i64 0, .int .i64 0, .int .i64 0, .int .i64 0, .int .i64 0, .int .i64 0, .int .i64 0, .int .i64 0, .int .i64 0, .int .i64 0, .int .i64 0, .int .i64 0, .int .i64 0, .int .i64 0, .int .i64 0, .int .i64 0, .int .i64 0, .int .i64 0, .int .i64 0, .int .i64 0, .int .i64 0, .int .i64 0, .int .i64 0, .int .i64 0, .int .i64 0, .int .i64 0, .int .i64 0, .int .i64 0, .int .i64 0, .int .i64 0, .int .i64 0, .int .i64 0, .int .i64 0, .int .i64 0, .int .i64 0, .int .i64 0, .int .i64 0, .int .i64 0, .int .i64 0, .int .i64 0, .int .i64 0, .int .i64 0, .int .i64 0, .int .i64 0, .int .i64 0, .int .i64 0, .int .i64 0, .int .i64 0]) } := by kernel_rfl
theorem Try.tabAll : allTT Try.prog Try.tabT :=
 ⟨⟨⟨⟨⟨⟨trivial, Try.ti3, trivial⟩, Try.ti4, trivial⟩, Try.ti5, ⟨trivial, Try.ti9, trivial⟩⟩, Try.ti22, ⟨⟨trivial, Try.ti25, trivial⟩, Try.ti26, ⟨trivial, Try.ti27, trivial⟩⟩⟩, Try.ti28, ⟨⟨⟨⟨trivial, Try.ti30, trivial⟩, Try.ti32, trivial⟩, Try.ti34, ⟨trivial, Try.ti35, trivial⟩⟩, Try.ti37, ⟨⟨trivial, Try.ti38, trivial⟩, Try.ti40, ⟨trivial, Try.ti44, trivial⟩⟩⟩⟩, Try.ti46, ⟨⟨⟨⟨⟨trivial, Try.ti58, trivial⟩, Try.ti60, trivial⟩, Try.ti65, ⟨trivial, Try.ti67, trivial⟩⟩, Try.ti70, ⟨⟨trivial, Try.ti72, trivial⟩, Try.ti77, ⟨trivial, Try.ti78, trivial⟩⟩⟩, Try.ti79, ⟨⟨⟨trivial, Try.ti81, trivial⟩, Try.ti86, ⟨trivial, Try.ti100, trivial⟩⟩, Try.ti128, ⟨⟨trivial, Try.ti130, trivial⟩, Try.ti135, ⟨trivial, Try.ti137, trivial⟩⟩⟩⟩⟩
theorem Try.mixed : Try.prog.follows .mixedOrders = true := by kernel_rfl
theorem Try.tabOk (t : Nat) (i : TI) (h : getTT Try.tabT t = some i) : tiOf Try.prog t = some i := getTT_ok Try.tabAll h
noncomputable def Try.env : Env := ⟨Try.prog, getTT Try.tabT, Try.tabOk, Try.mixed⟩
theorem Try.bld30 : Bld Try.env 30 [(0, 1), (1, 1), (2, 1), (3, 1), (4, 1), (5, 1)] [.v (.slice none 0 0), .v (.slice none 0 0), .v (.slice none 0 0), .v (.slice none 0 0), .v (.int .i64 0), .v (.int .i64 0)] := ⟨⟨_, _, _, rfl, rfl, rfl, rfl, rfl, rfl, rfl⟩⟩
theorem Try.bld34 : Bld Try.env 34 [(0, 1), (1, 1), (2, 1), (3, 1), (4, 1), (5, 1), (6, 1)] [.v (.string ⟨#[]⟩), .v (.int .i64 0), .v (.int .i64 0), .v (.int .i64 0), .v (.int .i64 0), .v (.int .i64 0), .v (.slice none 0 0)] := ⟨⟨_, _, _, rfl, rfl, rfl, rfl, rfl, rfl, rfl⟩⟩
theorem Try.bld37 : Bld Try.env 37 [(0, 1), (1, 1), (2, 1)] [.v (.slice none 0 0), .v (.slice none 0 0), .v (.slice none 0 0)] := ⟨⟨_, _, _, rfl, rfl, rfl, rfl, rfl, rfl, rfl⟩⟩
theorem Try.bld46 : Bld Try.env 46 [(0, 1), (1, 1)] [.v (.int .i64 0), .v (.int .i64 0)] := ⟨⟨_, _, _, rfl, rfl, rfl, rfl, rfl, rfl, rfl⟩⟩
theorem Try.bld65 : Bld Try.env 65 [(0, 1), (1, 1)] [.v (.slice none 0 0), .v (.int .i64 0)] := ⟨⟨_, _, _, rfl, rfl, rfl, rfl, rfl, rfl, rfl⟩⟩
theorem Try.bld70 : Bld Try.env 70 [(0, 1), (1, 1), (2, 1)] [.v (.string ⟨#[]⟩), .v (.int .i64 0), .v (.int .i64 0)] := ⟨⟨_, _, _, rfl, rfl, rfl, rfl, rfl, rfl, rfl⟩⟩
theorem Try.bld77 : Bld Try.env 77 [(0, 6), (6, 3), (9, 1), (10, 1), (11, 1), (12, 1), (13, 1)] [.v (.slice none 0 0), .v (.slice none 0 0), .v (.slice none 0 0), .v (.slice none 0 0), .v (.int .i64 0), .v (.int .i64 0), .v (.slice none 0 0), .v (.slice none 0 0), .v (.slice none 0 0), .v (.slice none 0 0), .v (.slice none 0 0), .v (.slice none 0 0), .v (.slice none 0 0), .v (.slice none 0 0)] := ⟨⟨_, _, _, rfl, rfl, rfl, rfl, rfl, rfl, rfl⟩⟩
theorem Try.bld81 : Bld Try.env 81 [(0, 1), (1, 1), (2, 1)] [.v (.int .i64 0), .v (.int .i64 0), .v (.int .i64 0)] := ⟨⟨_, _, _, rfl, rfl, rfl, rfl, rfl, rfl, rfl⟩⟩
theorem Try.bld137 : Bld Try.env 137 [(0, 1), (1, 64), (65, 64)] [.v (.int .i64 0), .v (.int .i64 0), .v (.int .i64 0), .v (.int .i64 0), .v (.int .i64 0), .v (.int .i64 0), .v (.int .i64 0), .v (.int .i64 0), .v (.int .i64 0), .v (.int .i64 0), .v (.int .i64 0), .v (.int .i64 0), .v (.int .i64 0), .v (.int .i64 0), .v (.int .i64 0), .v (.int .i64 0), .v (.int .i64 0), .v (.int .i64 0), .v (.int .i64 0), .v (.int .i64 0), .v (.int .i64 0), .v (.int .i64 0), .v (.int .i64 0), .v (.int .i64 0), .v (.int .i64 0), .v (.int .i64 0), .v (.int .i64 0), .v (.int .i64 0), .v (.int .i64 0), .v (.int .i64 0), .v (.int .i64 0), .v (.int .i64 0), .v (.int .i64 0), .v (.int .i64 0), .v (.int .i64 0), .v (.int .i64 0), .v (.int .i64 0), .v (.int .i64 0), .v (.int .i64 0), .v (.int .i64 0), .v (.int .i64 0), .v (.int .i64 0), .v (.int .i64 0), .v (.int .i64 0), .v (.int .i64 0), .v (.int .i64 0), .v (.int .i64 0), .v (.int .i64 0), .v (.int .i64 0), .v (.int .i64 0), .v (.int .i64 0), .v (.int .i64 0), .v (.int .i64 0), .v (.int .i64 0), .v (.int .i64 0), .v (.int .i64 0), .v (.int .i64 0), .v (.int .i64 0), .v (.int .i64 0), .v (.int .i64 0), .v (.int .i64 0), .v (.int .i64 0), .v (.int .i64 0), .v (.int .i64 0), .v (.int .i64 0), .v (.int .i64 0), .v (.int .i64 0), .v (.int .i64 0), .v (.int .i64 0), .v (.int .i64 0), .v (.int .i64 0), .v (.int .i64 0), .v (.int .i64 0), .v (.int .i64 0), .v (.int .i64 0), .v (.int .i64 0), .v (.int .i64 0), .v (.int .i64 0), .v (.int .i64 0), .v (.int .i64 0), .v (.int .i64 0), .v (.int .i64 0), .v (.int .i64 0), .v (.int .i64 0), .v (.int .i64 0), .v (.int .i64 0), .v (.int .i64 0), .v (.int .i64 0), .v (.int .i64 0), .v (.int .i64 0), .v (.int .i64 0), .v (.int .i64 0), .v (.int .i64 0), .v (.int .i64 0), .v (.int .i64 0), .v (.int .i64 0), .v (.int .i64 0), .v (.int .i64 0), .v (.int .i64 0), .v (.int .i64 0), .v (.int .i64 0), .v (.int .i64 0), .v (.int .i64 0), .v (.int .i64 0), .v (.int .i64 0), .v (.int .i64 0), .v (.int .i64 0), .v (.int .i64 0), .v (.int .i64 0), .v (.int .i64 0), .v (.int .i64 0), .v (.int .i64 0), .v (.int .i64 0), .v (.int .i64 0), .v (.int .i64 0), .v (.int .i64 0), .v (.int .i64 0), .v (.int .i64 0), .v (.int .i64 0), .v (.int .i64 0), .v (.int .i64 0), .v (.int .i64 0), .v (.int .i64 0), .v (.int .i64 0), .v (.int .i64 0), .v (.int .i64 0), .v (.int .i64 0), .v (.int .i64 0), .v (.int .i64 0)] := ⟨⟨_, _, _, rfl, rfl, rfl, rfl, rfl, rfl, rfl⟩⟩
theorem Try.eq46 : eqOk Try.prog 46 = true := by kernel_rfl
theorem Try.eq128 : eqOkA Try.prog 128 = true := by kernel_rfl
set_option linter.unusedVariables false
set_option linter.unusedSimpArgs false
structure Point where
 At : Int
 Height : Int
 Limit : Int
 deriving DecidableEq
def Point.row (x : Point) : List T := [.v (.int .i64 x.At), .v (.int .i64 x.Height), .v (.int .i64 x.Limit)]
structure Segment where
 Name : ByteArray
 From : Int
 To : Int
 Capacity : Int
 Resist : Int
 Wave : Int
 Points : List Point
 deriving DecidableEq
def Segment.row (x : Segment) : List T := [.v (.string x.Name), .v (.int .i64 x.From), .v (.int .i64 x.To), .v (.int .i64 x.Capacity), .v (.int .i64 x.Resist), .v (.int .i64 x.Wave), .list 3 (x.Points.map Point.row)]
structure Port where
 Name : ByteArray
 Node : Int
 Pressure : Int
 deriving DecidableEq
def Port.row (x : Port) : List T := [.v (.string x.Name), .v (.int .i64 x.Node), .v (.int .i64 x.Pressure)]
structure Station where
 Name : ByteArray
 Node : Int
 Head : Int
 Fall : Int
 Suction : Int
 deriving DecidableEq
def Station.row (x : Station) : List T := [.v (.string x.Name), .v (.int .i64 x.Node), .v (.int .i64 x.Head), .v (.int .i64 x.Fall), .v (.int .i64 x.Suction)]
structure Network where
 Nodes : List ByteArray
 Segments : List Segment
 Ports : List Port
 Stations : List Station
 Vapour : Int
 Settle : Int
 deriving DecidableEq
def Network.row (x : Network) : List T := [.list 1 (x.Nodes.map rS), .list 7 (x.Segments.map Segment.row), .list 3 (x.Ports.map Port.row), .list 5 (x.Stations.map Station.row), .v (.int .i64 x.Vapour), .v (.int .i64 x.Settle)]
structure Plan where
 Rates : List Int
 Ports : List Int
 Pumps : List Bool
 deriving DecidableEq
def Plan.row (x : Plan) : List T := [.list 1 (x.Rates.map rI), .list 1 (x.Ports.map rI), .list 1 (x.Pumps.map rB)]
structure flow_streams where
 come : Arr Int 24
 leave : Arr Int 24
 deriving DecidableEq
def flow_streams.row (x : flow_streams) : List T := x.come.l.map cI ++ (x.leave.l.map cI ++ [])
structure KS where
 L_ : List Int
 At : Int
 deriving DecidableEq
def KS.row (x : KS) : List T := [.list 1 (x.L_.map rI), .v (.int .i64 x.At)]
def L.ztzg (a : Segment) (b : Int) : (Int × Int) := if decide (b < 0) = true then (a.To, a.From) else (a.From, a.To)
def L.zqkj (a : Int) (b : Int) : Bool := (decide (a ≥ (wr (0 - b))) && decide (a ≤ b))
def L.zbjp.J1 (a : Int) : Option Int := some a
def L.zbjp (c : Int) (a : Int) : Option Int := if decide (a < 1) = true then some 0 else (rem? c a).bind fun b => if decide (b < 0) = true then L.zbjp.J1 (wr (b + a)) else L.zbjp.J1 b
def L.zvhs (a : Int) (b : Int) (c : Int) : Bool := (decide (a ≥ b) && decide (a ≤ c))
def L.zsbv.J1 (a : Unit) : Option Int := some (-1)
def L.zsbv.B2 (a : ByteArray) (b : Nat) (c : ByteArray) (d : Unit) : Option (Unit ⊕ (Int)) := if sEq a c = true then some ((.inr ((b : Int)))) else some (.inl ())
def L.zsbv (a : List ByteArray) (b : ByteArray) : Option Int := (forL (L.zsbv.B2 b) 0 a ()).bind fun c => Sum.elim (fun e => L.zsbv.J1 ()) (fun d => some d) c
def L.zapw.J1 (a : Unit) : Option Int := some (-1)
def L.zapw.B2 (a : Int → Option Bool) (b : Nat) (c : Int) (e : Unit) : Option (Unit ⊕ (Int)) := (a c).bind fun d => if d = true then some ((.inr ((b : Int)))) else some (.inl ())
def L.zapw (a : List Int) (b : Int → Option Bool) : Option Int := (forL (L.zapw.B2 b) 0 a ()).bind fun c => Sum.elim (fun e => L.zapw.J1 ()) (fun d => some d) c
def L.zvoj (a : List Int) (b : Int → Option Bool) : Option Bool := (L.zapw a b).bind fun c => some (decide (c ≥ 0))
def L.zqyu.J1 (a : Unit) : Option Int := some (-1)
def L.zqyu.B2 (a : ByteArray → Option Bool) (b : Nat) (c : ByteArray) (e : Unit) : Option (Unit ⊕ (Int)) := (a c).bind fun d => if d = true then some ((.inr ((b : Int)))) else some (.inl ())
def L.zqyu (a : List ByteArray) (b : ByteArray → Option Bool) : Option Int := (forL (L.zqyu.B2 b) 0 a ()).bind fun c => Sum.elim (fun e => L.zqyu.J1 ()) (fun d => some d) c
def L.zmkj (a : List ByteArray) (b : ByteArray → Option Bool) : Option Bool := (L.zqyu a b).bind fun c => some (decide (c ≥ 0))
def L.zbuy.J1 (a : Unit) : Option Int := some (-1)
def L.zbuy.B2 (a : Segment → Option Bool) (b : Nat) (c : Segment) (e : Unit) : Option (Unit ⊕ (Int)) := (a c).bind fun d => if d = true then some ((.inr ((b : Int)))) else some (.inl ())
def L.zbuy (a : List Segment) (b : Segment → Option Bool) : Option Int := (forL (L.zbuy.B2 b) 0 a ()).bind fun c => Sum.elim (fun e => L.zbuy.J1 ()) (fun d => some d) c
def L.zwuu (a : List Segment) (b : Segment → Option Bool) : Option Bool := (L.zbuy a b).bind fun c => some (decide (c ≥ 0))
def L.zobp.J1 (a : Unit) : Option Int := some (-1)
def L.zobp.B2 (a : Port → Option Bool) (b : Nat) (c : Port) (e : Unit) : Option (Unit ⊕ (Int)) := (a c).bind fun d => if d = true then some ((.inr ((b : Int)))) else some (.inl ())
def L.zobp (a : List Port) (b : Port → Option Bool) : Option Int := (forL (L.zobp.B2 b) 0 a ()).bind fun c => Sum.elim (fun e => L.zobp.J1 ()) (fun d => some d) c
def L.zdru (a : List Port) (b : Port → Option Bool) : Option Bool := (L.zobp a b).bind fun c => some (decide (c ≥ 0))
def L.zywf.J1 (a : Unit) : Option Int := some (-1)
def L.zywf.B2 (a : Station → Option Bool) (b : Nat) (c : Station) (e : Unit) : Option (Unit ⊕ (Int)) := (a c).bind fun d => if d = true then some ((.inr ((b : Int)))) else some (.inl ())
def L.zywf (a : List Station) (b : Station → Option Bool) : Option Int := (forL (L.zywf.B2 b) 0 a ()).bind fun c => Sum.elim (fun e => L.zywf.J1 ()) (fun d => some d) c
def L.ztlc (a : List Station) (b : Station → Option Bool) : Option Bool := (L.zywf a b).bind fun c => some (decide (c ≥ 0))
def L.zzeco (a : Segment) : Bool := (decide ((a.Points.length : Int) < 2) || decide ((a.Points.length : Int) > 8))
def L.znhd (a : Network) : Option Bool := if (decide ((a.Nodes.length : Int) < 1) || (decide ((a.Nodes.length : Int) > 24) || (decide ((a.Segments.length : Int) > 32) || (decide ((a.Ports.length : Int) > 24) || decide ((a.Stations.length : Int) > 12))))) = true then some false else (L.zwuu a.Segments (fun x => some (L.zzeco x))).bind fun b => some (!b)
def L.zsgw.J1 (a : List Int) : Option (List Int) := some a
def L.zsgw.J3 (a : (List Int) × (List Bool) × Int) : Option (((List Int) × (List Bool) × Int) ⊕ ((List Int))) := some (.inl (a.1, a.2.1, wr (a.2.2 + 1)))
def L.zsgw.J4 (a : (List Int) × (List Bool) × Int) (b : Nat × Bool) (d : Unit) : Option (((List Int) × (List Bool) × Int) ⊕ ((List Int))) := (app? a.1 ([a.2.2] : List Int)).bind fun c => L.zsgw.J3 (c, (a.2.1.set b.1 true), (-1))
def L.zsgw.J6 (a : (List Int) × (List Bool) × Int) (b : Bool) : Option (Unit ⊕ (((List Int) × (List Bool) × Int))) := if b = true then some ((.inr ((a.1, a.2.1, a.2.2)))) else some (.inl ())
def L.zsgw.B5 (d : Plan) (a : (List Int) × (List Bool) × Int) (e : Nat) (c : Segment) (g : Unit) : Option (Unit ⊕ (((List Int) × (List Bool) × Int))) := (ix d.Rates (e : Int)).bind fun b => if (b.2 != 0) = true then if (((L.ztzg c b.2).2) == a.2.2) = true then (ix a.2.1 ((L.ztzg c b.2).1)).bind fun f => L.zsgw.J6 a (!f.2) else L.zsgw.J6 a false else L.zsgw.J6 a false
def L.zsgw.B2 (b : Network) (d : Plan) (a : (List Int) × (List Bool) × Int) : Option (((List Int) × (List Bool) × Int) ⊕ ((List Int))) := if decide (a.2.2 < (b.Nodes.length : Int)) = true then (ix a.2.1 a.2.2).bind fun c => if c.2 = true then L.zsgw.J3 (a.1, a.2.1, a.2.2) else (forL (L.zsgw.B5 d a) 0 b.Segments ()).bind fun e => Sum.elim (fun g => L.zsgw.J4 a c ()) (fun f => L.zsgw.J3 f) e else some ((.inr (a.1)))
def L.zsgw (a : Network) (b : Plan) : Option (List Int) := (mk? (a.Nodes.length : Int) false).bind fun c => (loopN (L.zsgw.B2 a b) lots ([], c, 0)).bind fun d => L.zsgw.J1 d
def L.zfnd.J1 (a : Unit) : Int := 2
def L.zfnd (a : Int) : Int := if (decide (a ≥ 97) && decide (a ≤ 122)) = true then 1 else if (decide (a ≥ 48) && decide (a ≤ 57)) = true then L.zfnd.J1 () else if (a == 45) = true then L.zfnd.J1 () else 0
def L.zcvq.J2 (a : Unit) : Option Bool := some true
def L.zcvq.B3 (a : ByteArray) (b : Nat) (d : Unit) : Option (Unit ⊕ (Bool)) := (ixs a (b : Int)).bind fun c => if ((L.zfnd c.2) == 0) = true then some ((.inr (false))) else some (.inl ())
def L.zcvq.J1 (a : ByteArray) (b : Bool) : Option Bool := if b = true then some false else (chk ((a.size : Int) ≤ 9223372036854775806)).bind fun e => (forI (L.zcvq.B3 a) 0 ((a.size : Int).toNat) ()).bind fun c => Sum.elim (fun f => L.zcvq.J2 ()) (fun d => some d) c
def L.zcvq (a : ByteArray) : Option Bool := if decide ((a.size : Int) < 1) = true then L.zcvq.J1 a true else if decide ((a.size : Int) > 12) = true then L.zcvq.J1 a true else (ixs a 0).bind fun b => L.zcvq.J1 a ((L.zfnd b.2) != 1)
def L.zalp.J3 (a : Network) (b : List ByteArray) (c : List ByteArray) (d : List ByteArray) : Option (Arr (List ByteArray) 4) := some (⟨[a.Nodes, b, c, d], rfl⟩ : Arr (List ByteArray) 4)
def L.zalp.B4 (d : Nat) (a : Station) (b : List ByteArray) : Option (List ByteArray) := (app? b ([a.Name] : List ByteArray)).bind fun c => some c
def L.zalp.J2 (a : Network) (b : List ByteArray) (c : List ByteArray) : Option (Arr (List ByteArray) 4) := (forS L.zalp.B4 0 a.Stations []).bind fun d => L.zalp.J3 a b c d
def L.zalp.B5 (d : Nat) (a : Port) (b : List ByteArray) : Option (List ByteArray) := (app? b ([a.Name] : List ByteArray)).bind fun c => some c
def L.zalp.J1 (a : Network) (b : List ByteArray) : Option (Arr (List ByteArray) 4) := (forS L.zalp.B5 0 a.Ports []).bind fun c => L.zalp.J2 a b c
def L.zalp.B6 (d : Nat) (a : Segment) (b : List ByteArray) : Option (List ByteArray) := (app? b ([a.Name] : List ByteArray)).bind fun c => some c
def L.zalp (a : Network) : Option (Arr (List ByteArray) 4) := (forS L.zalp.B6 0 a.Segments []).bind fun b => L.zalp.J1 a b
def L.zsgv (a : Station) (b : Station) : Bool := (a.Node == b.Node)
def L.zybm.J2 (a : Unit) : Option Bool := some false
def L.zybm.B3 (a : Network) (b : Nat) (c : Station) (e : Unit) : Option (Unit ⊕ (Bool)) := (L.zywf a.Stations (fun x => some (L.zsgv x c))).bind fun d => if decide (d < (b : Int)) = true then some ((.inr (true))) else some (.inl ())
def L.zybm.J1 (a : Network) (d : Unit) : Option Bool := (forL (L.zybm.B3 a) 0 a.Stations ()).bind fun b => Sum.elim (fun e => L.zybm.J2 ()) (fun c => some c) b
def L.zybm.J5 (a : Unit) : Option (Unit ⊕ (Bool)) := some (.inl ())
def L.zybm.B6 (a : Nat × (List ByteArray)) (b : Nat) (c : ByteArray) (e : Unit) : Option (Unit ⊕ (Bool)) := (L.zsbv a.2 c).bind fun d => if decide (d < (b : Int)) = true then some ((.inr (true))) else some (.inl ())
def L.zybm.B4 (b : Arr (List ByteArray) 4) (c : Nat) (f : Unit) : Option (Unit ⊕ (Bool)) := (ix b.l (c : Int)).bind fun a => (forL (L.zybm.B6 a) 0 a.2 ()).bind fun d => Sum.elim (fun g => L.zybm.J5 ()) (fun e => some ((.inr (e)))) d
def L.zybm (a : Network) : Option Bool := (L.zalp a).bind fun b => (forI (L.zybm.B4 b) 0 4 ()).bind fun c => Sum.elim (fun e => L.zybm.J1 a ()) (fun d => some d) c
def L.zxqi (a : Int) (b : Network) : Bool := (decide (a < 0) || decide (a ≥ (b.Nodes.length : Int)))
def L.zctd.J3 (a : Network) (b : List Int) : Option Bool := (L.zvoj b (fun x => some (L.zxqi x a))).bind fun c => some (!c)
def L.zctd.B4 (d : Nat) (a : Station) (b : List Int) : Option (List Int) := (app? b ([a.Node] : List Int)).bind fun c => some c
def L.zctd.J2 (a : Network) (b : List Int) : Option Bool := (forS L.zctd.B4 0 a.Stations b).bind fun c => L.zctd.J3 a c
def L.zctd.B5 (d : Nat) (a : Port) (b : List Int) : Option (List Int) := (app? b ([a.Node] : List Int)).bind fun c => some c
def L.zctd.J1 (a : Network) (b : List Int) : Option Bool := (forS L.zctd.B5 0 a.Ports b).bind fun c => L.zctd.J2 a c
def L.zctd.B6 (d : Nat) (a : Segment) (b : List Int) : Option (List Int) := (app? b ([a.From, a.To] : List Int)).bind fun c => some c
def L.zctd (a : Network) : Option Bool := (forS L.zctd.B6 0 a.Segments []).bind fun b => L.zctd.J1 a b
def L.zcxq.J2 (a : Bool) : Option Bool := some a
def L.zcxq.J1 (a : Segment) (d : Unit) : Option Bool := (ix a.Points 0).bind fun b => if (b.2.At == 0) = true then (ix a.Points (wr ((a.Points.length : Int) - 1))).bind fun c => L.zcxq.J2 (c.2.At == a.Capacity) else L.zcxq.J2 false
def L.zcxq.J4 (a : Bool) : Option (Unit ⊕ (Bool)) := if a = true then some ((.inr (false))) else some (.inl ())
def L.zcxq.B3 (c : Segment) (b : Nat) (a : Point) (e : Unit) : Option (Unit ⊕ (Bool)) := if (!(L.zvhs a.Height (-500) 5000)) = true then L.zcxq.J4 true else if (!(L.zvhs a.Limit 0 100000000)) = true then L.zcxq.J4 true else if decide ((b : Int) > 0) = true then (ix c.Points (wr ((b : Int) - 1))).bind fun d => L.zcxq.J4 (decide (a.At ≤ d.2.At)) else L.zcxq.J4 false
def L.zcxq (a : Segment) : Option Bool := if ((a.From == a.To) || ((!(L.zvhs a.Capacity 1 1000000)) || ((!(L.zvhs a.Resist 0 1000)) || (!(L.zvhs a.Wave 0 100000))))) = true then some false else (forL (L.zcxq.B3 a) 0 a.Points ()).bind fun b => Sum.elim (fun d => L.zcxq.J1 a ()) (fun c => some c) b
def L.zyto (a : Segment) : Option Bool := (L.zcxq a).bind fun b => some (!b)
def L.zxcm (a : Port) : Bool := (!(L.zvhs a.Pressure 0 100000000))
def L.zeku (a : Station) : Bool := ((!(L.zvhs a.Head 0 100000000)) || ((!(L.zvhs a.Fall 0 100000)) || (!(L.zvhs a.Suction 0 100000000))))
def L.zdqn (a : Network) : Option Bool := (L.zwuu a.Segments (fun x => L.zyto x)).bind fun b => if b = true then some false else (L.zdru a.Ports (fun x => some (L.zxcm x))).bind fun c => if c = true then some false else (L.ztlc a.Stations (fun x => some (L.zeku x))).bind fun d => if d = true then some false else some ((L.zvhs a.Vapour (-100000) 100000000) && (L.zvhs a.Settle 0 100))
def L.zqbg (a : ByteArray) : Option Bool := (L.zcvq a).bind fun b => some (!b)
def L.zfta.J1 (a : Network) (e : Unit) : Option Int := (L.zybm a).bind fun b => if b = true then some 7 else (L.zctd a).bind fun c => if (!c) = true then some 8 else (L.zdqn a).bind fun d => if (!d) = true then some 9 else some 0
def L.zfta.B2 (a : Arr (List ByteArray) 4) (b : Nat) (e : Unit) : Option (Unit ⊕ (Int)) := (ix a.l (b : Int)).bind fun c => (L.zmkj c.2 (fun x => L.zqbg x)).bind fun d => if d = true then some ((.inr (3))) else some (.inl ())
def L.zfta (a : Network) : Option Int := (L.znhd a).bind fun b => if (!b) = true then some 4 else (L.zalp a).bind fun c => (forI (L.zfta.B2 c) 0 4 ()).bind fun d => Sum.elim (fun f => L.zfta.J1 a ()) (fun e => some e) d
def L.zuui.J2 (a : flow_streams) (b : Int × Int × Int) (c : Arr Int 24) : Option flow_streams := if decide (b.2.1 ≥ 0) = true then (ix a.come.l b.2.1).bind fun d => some (⟨(a.come.set d.1 (wr (d.2 + b.2.2))), c⟩ : flow_streams) else some (⟨a.come, c⟩ : flow_streams)
def L.zuui.J1 (a : flow_streams) (b : Int × Int × Int) : Option flow_streams := if decide (b.1 ≥ 0) = true then (ix a.leave.l b.1).bind fun c => L.zuui.J2 a b (a.leave.set c.1 (wr (c.2 + b.2.2))) else L.zuui.J2 a b a.leave
def L.zuui (b : flow_streams) (c : Int) (d : Int) (a : Int) : Option flow_streams := if decide (a < 0) = true then L.zuui.J1 b (d, c, wr (0 - a)) else L.zuui.J1 b (c, d, a)
def L.zzkf.J2 (a : (Arr Int 24) × (Arr Int 24)) : Option flow_streams := some (⟨a.1, a.2⟩ : flow_streams)
def L.zzkf.B3 (c : Plan) (d : Nat) (e : Port) (a : (Arr Int 24) × (Arr Int 24)) : Option ((Arr Int 24) × (Arr Int 24)) := (ix c.Ports (d : Int)).bind fun f => (L.zuui (⟨a.1, a.2⟩ : flow_streams) (-1) e.Node f.2).bind fun b => some (b.come, b.leave)
def L.zzkf.J1 (c : Network) (d : Plan) (a : (Arr Int 24) × (Arr Int 24)) : Option flow_streams := (forS (L.zzkf.B3 d) 0 c.Ports (a.1, a.2)).bind fun b => L.zzkf.J2 (b.1, b.2)
def L.zzkf.B4 (d : Plan) (e : Nat) (a : Segment) (b : (Arr Int 24) × (Arr Int 24)) : Option ((Arr Int 24) × (Arr Int 24)) := (ix d.Rates (e : Int)).bind fun f => (L.zuui (⟨b.1, b.2⟩ : flow_streams) a.From a.To f.2).bind fun c => some (c.come, c.leave)
def L.zzkf (a : Network) (b : Plan) : Option flow_streams := (forS (L.zzkf.B4 b) 0 a.Segments ((Arr.rep 24 (0 : Int)), (Arr.rep 24 (0 : Int)))).bind fun c => L.zzkf.J1 a b (c.1, c.2)
def L.zfct (a : Int) : Bool := (!(L.zqkj a 1000))
def L.zmqu.J1 (a : Network) (b : Plan) (f : Unit) : Option Int := (L.zvoj b.Ports (fun x => some (L.zfct x))).bind fun d => if d = true then some 1 else (L.zzkf a b).bind fun c => if (!decide (c.come = c.leave)) = true then some 12 else (L.zsgw a b).bind fun e => if decide ((e.length : Int) < (a.Nodes.length : Int)) = true then some 13 else some 0
def L.zmqu.B2 (a : Plan) (b : Nat) (c : Segment) (e : Unit) : Option (Unit ⊕ (Int)) := (ix a.Rates (b : Int)).bind fun d => if (!(L.zqkj d.2 (min 1000 c.Capacity))) = true then some ((.inr (1))) else some (.inl ())
def L.zmqu (a : Network) (b : Plan) : Option Int := (L.zfta a).bind fun c => if (c != 0) = true then some c else if (((b.Rates.length : Int) != (a.Segments.length : Int)) || (((b.Ports.length : Int) != (a.Ports.length : Int)) || ((b.Pumps.length : Int) != (a.Stations.length : Int)))) = true then some 9 else (forL (L.zmqu.B2 b) 0 a.Segments ()).bind fun d => Sum.elim (fun f => L.zmqu.J1 a b ()) (fun e => some e) d
def L.ziti (a : List Int) : Option KS := (sub? a 0 (min (a.length : Int) 2000)).bind fun b => some (⟨b, 0⟩ : KS)
def L.zxpl (a : KS) : Option (Int × KS) := if decide (a.At ≥ (a.L_.length : Int)) = true then some (0, a) else (ix a.L_ (wr ((wr (a.At + 1)) - 1))).bind fun b => some (b.2, (⟨a.L_, wr (a.At + 1)⟩ : KS))
def L.zdjb (b : KS) (c : Int) : Option (Int × KS) := (L.zxpl b).bind fun a => (L.zbjp a.1 c).bind fun d => some (d, a.2)
def L.zeyi (a : ByteArray) (b : Int) : Option ByteArray := (bytes? ([IntKind.u8.wrap (wr (97 + (b.tmod 26)))] : List Int)).bind fun c => (cat? a c).bind fun d => some d
def L.ztqk (c : KS) (a : List Int) : Option (Int × KS) := (L.zdjb c (a.length : Int)).bind fun b => (ix a b.1).bind fun d => some (d.2, b.2)
def L.ziuk (c : KS) (a : Int) (d : Int) : Option (Int × KS) := (L.zdjb c (wr ((wr (d - a)) + 1))).bind fun b => some (wr (a + b.1), b.2)
def L.zsex.J2 (b : (List Int) × Int × Int × Int) (e : ByteArray) (c : Int × KS) (f : Int × KS) (g : Int × KS) (h : Int × KS) (a : (List Int) × Int × (List Point)) : Option (Segment × KS) := (L.ziuk (⟨a.1, a.2.1⟩ : KS) (-5) 30).bind fun d => (app? a.2.2 ([(⟨c.1, d.1, h.1⟩ : Point)] : List Point)).bind fun i => some ((⟨e, b.2.2.1, b.2.2.2, c.1, f.1, g.1, i⟩ : Segment), d.2)
def L.zsex.J4 (g : Int × KS) (h : Int × KS) (a : (List Int) × Int × (List Point) × Int) (c : (List Int) × Int × Bool) : Option (((List Int) × Int × (List Point) × Int) ⊕ (((List Int) × Int × (List Point)))) := if c.2.2 = true then (L.ziuk (⟨c.1, c.2.1⟩ : KS) 1 40).bind fun b => if decide ((wr (a.2.2.2 + b.1)) ≥ g.1) = true then some ((.inr ((b.2.L_, b.2.At, a.2.2.1)))) else (L.ziuk b.2 (-5) 60).bind fun e => (L.ztqk e.2 ([1, 1, 10] : List Int)).bind fun f => (L.zdjb f.2 3).bind fun d => (app? a.2.2.1 ([(⟨wr (a.2.2.2 + b.1), wr (e.1 * f.1), wr (h.1 - (wr (d.1 * 1000)))⟩ : Point)] : List Point)).bind fun i => some (.inl (d.2.L_, d.2.At, i, wr (a.2.2.2 + b.1))) else some ((.inr ((c.1, c.2.1, a.2.2.1))))
def L.zsex.B3 (c : Int × KS) (d : Int × KS) (a : (List Int) × Int × (List Point) × Int) : Option (((List Int) × Int × (List Point) × Int) ⊕ (((List Int) × Int × (List Point)))) := if decide ((a.2.2.1.length : Int) < 7) = true then (L.zdjb (⟨a.1, a.2.1⟩ : KS) 3).bind fun b => L.zsex.J4 c d a (b.2.L_, b.2.At, decide (b.1 > 0)) else L.zsex.J4 c d a (a.1, a.2.1, false)
def L.zsex.J1 (g : Int) (b : (List Int) × Int × Int × Int) : Option (Segment × KS) := (L.zeyi (⟨#[103]⟩ : ByteArray) g).bind fun h => (L.ztqk (⟨b.1, b.2.1⟩ : KS) ([1, 2, 7, 20, 60, 200, 1000] : List Int)).bind fun c => (L.ztqk c.2 ([0, 1, 5, 1000] : List Int)).bind fun e => (L.ztqk e.2 ([0, 50, 1000, 100000] : List Int)).bind fun f => (L.ztqk f.2 ([1000000, 6000000, 100000000] : List Int)).bind fun a => (L.ziuk a.2 (-5) 30).bind fun d => (app? [] ([(⟨0, d.1, a.1⟩ : Point)] : List Point)).bind fun i => (loopN (L.zsex.B3 c a) lots (d.2.L_, d.2.At, i, 0)).bind fun j => L.zsex.J2 b h c e f a j
def L.zsex (e : KS) (b : Int) (c : Int) (d : Int) : Option (Segment × KS) := (L.zdjb e 4).bind fun a => if (a.1 == 0) = true then L.zsex.J1 b (a.2.L_, a.2.At, d, c) else L.zsex.J1 b (a.2.L_, a.2.At, c, d)
def L.zeju.J4 (b : Int × KS) (c : Int × KS) (d : (List Int) × Int × (List ByteArray)) (e : (List Int) × Int × (List Segment)) (a : (List Int) × Int × (List Port) × (List Station)) : Option (Network × KS) := some ((⟨d.2.2, e.2.2, a.2.2.1, a.2.2.2, b.1, c.1⟩ : Network), (⟨a.1, a.2.1⟩ : KS))
def L.zeju.J6 (b : (List Int) × Int × (List Port) × (List Station) × Int) (a : (List Int) × Int × (List Port) × (List Station)) : Option (((List Int) × Int × (List Port) × (List Station) × Int) ⊕ (((List Int) × Int × (List Port) × (List Station)))) := some (.inl (a.1, a.2.1, a.2.2.1, a.2.2.2, wr (b.2.2.2.2 + 1)))
def L.zeju.J8 (a : (List Int) × Int × (List Port) × (List Station) × Int) (d : (List Int) × Int × (List Port)) (b : (List Int) × Int × Bool) : Option (((List Int) × Int × (List Port) × (List Station) × Int) ⊕ (((List Int) × Int × (List Port) × (List Station)))) := if b.2.2 = true then (L.zeyi (⟨#[115]⟩ : ByteArray) (a.2.2.2.1.length : Int)).bind fun g => (L.ztqk (⟨b.1, b.2.1⟩ : KS) ([500000, 2000000, 0] : List Int)).bind fun e => (L.ztqk e.2 ([0, 200, 100000] : List Int)).bind fun f => (L.ztqk f.2 ([0, 100000, 400000] : List Int)).bind fun c => (app? a.2.2.2.1 ([(⟨g, a.2.2.2.2, e.1, f.1, c.1⟩ : Station)] : List Station)).bind fun h => L.zeju.J6 a (c.2.L_, c.2.At, d.2.2, h) else L.zeju.J6 a (b.1, b.2.1, d.2.2, a.2.2.2.1)
def L.zeju.J7 (d : (List Int) × Int × (List ByteArray)) (b : (List Int) × Int × (List Port) × (List Station) × Int) (a : (List Int) × Int × (List Port)) : Option (((List Int) × Int × (List Port) × (List Station) × Int) ⊕ (((List Int) × Int × (List Port) × (List Station)))) := if decide (b.2.2.2.2 < (wr ((d.2.2.length : Int) - 1))) = true then (L.zdjb (⟨a.1, a.2.1⟩ : KS) 3).bind fun c => L.zeju.J8 b a (c.2.L_, c.2.At, (c.1 == 0)) else L.zeju.J8 b a (a.1, a.2.1, false)
def L.zeju.J9 (d : (List Int) × Int × (List ByteArray)) (a : (List Int) × Int × (List Port) × (List Station) × Int) (b : (List Int) × Int × Bool) : Option (((List Int) × Int × (List Port) × (List Station) × Int) ⊕ (((List Int) × Int × (List Port) × (List Station)))) := if b.2.2 = true then (L.zeyi (⟨#[113]⟩ : ByteArray) (a.2.2.1.length : Int)).bind fun e => (L.ztqk (⟨b.1, b.2.1⟩ : KS) ([300000, 1000000, 0, 5000000] : List Int)).bind fun c => (app? a.2.2.1 ([(⟨e, a.2.2.2.2, c.1⟩ : Port)] : List Port)).bind fun f => L.zeju.J7 d a (c.2.L_, c.2.At, f) else L.zeju.J7 d a (b.1, b.2.1, a.2.2.1)
def L.zeju.B5 (b : (List Int) × Int × (List ByteArray)) (a : (List Int) × Int × (List Port) × (List Station) × Int) : Option (((List Int) × Int × (List Port) × (List Station) × Int) ⊕ (((List Int) × Int × (List Port) × (List Station)))) := if decide (a.2.2.2.2 ≤ (wr ((b.2.2.length : Int) - 1))) = true then if (a.2.2.2.2 == 0) = true then L.zeju.J9 b a (a.1, a.2.1, true) else if (a.2.2.2.2 == (wr ((b.2.2.length : Int) - 1))) = true then L.zeju.J9 b a (a.1, a.2.1, true) else (L.zdjb (⟨a.1, a.2.1⟩ : KS) 2).bind fun c => L.zeju.J9 b a (c.2.L_, c.2.At, (c.1 == 0)) else some ((.inr ((a.1, a.2.1, a.2.2.1, a.2.2.2.1))))
def L.zeju.J3 (c : Int × KS) (d : Int × KS) (b : (List Int) × Int × (List ByteArray)) (a : (List Int) × Int × (List Segment)) : Option (Network × KS) := (loopN (L.zeju.B5 b) lots (a.1, a.2.1, [], [], 0)).bind fun e => L.zeju.J4 c d b a e
def L.zeju.B10 (d : (List Int) × Int × (List ByteArray)) (a : (List Int) × Int × (List Segment) × Int) : Option (((List Int) × Int × (List Segment) × Int) ⊕ (((List Int) × Int × (List Segment)))) := if decide (a.2.2.2 > 0) = true then (L.zdjb (⟨a.1, a.2.1⟩ : KS) (wr ((d.2.2.length : Int) - 1))).bind fun b => (L.ziuk b.2 (wr (b.1 + 1)) (wr ((d.2.2.length : Int) - 1))).bind fun e => (L.zsex e.2 (a.2.2.1.length : Int) b.1 e.1).bind fun c => (app? a.2.2.1 ([c.1] : List Segment)).bind fun f => some (.inl (c.2.L_, c.2.At, f, wr (a.2.2.2 - 1))) else some ((.inr ((a.1, a.2.1, a.2.2.1))))
def L.zeju.J2 (d : Int × KS) (e : Int × KS) (c : (List Int) × Int × (List ByteArray)) (a : (List Int) × Int × (List Segment)) : Option (Network × KS) := (L.zdjb (⟨a.1, a.2.1⟩ : KS) 4).bind fun b => (loopN (L.zeju.B10 c) lots (b.2.L_, b.2.At, a.2.2, b.1)).bind fun f => L.zeju.J3 d e c f
def L.zeju.B11 (c : (List Int) × Int × (List ByteArray)) (a : (List Int) × Int × (List Segment) × Int) : Option (((List Int) × Int × (List Segment) × Int) ⊕ (((List Int) × Int × (List Segment)))) := if decide (a.2.2.2 < (wr ((c.2.2.length : Int) - 1))) = true then (L.zsex (⟨a.1, a.2.1⟩ : KS) (a.2.2.1.length : Int) a.2.2.2 (wr (a.2.2.2 + 1))).bind fun b => (app? a.2.2.1 ([b.1] : List Segment)).bind fun d => some (.inl (b.2.L_, b.2.At, d, wr (a.2.2.2 + 1))) else some ((.inr ((a.1, a.2.1, a.2.2.1))))
def L.zeju.J1 (b : Int × KS) (c : Int × KS) (a : (List Int) × Int × (List ByteArray)) : Option (Network × KS) := (loopN (L.zeju.B11 a) lots (a.1, a.2.1, [], 0)).bind fun d => L.zeju.J2 b c a d
def L.zeju.B12 (b : Int × KS) (a : (List ByteArray) × Int) : Option (((List ByteArray) × Int) ⊕ (((List Int) × Int × (List ByteArray)))) := if decide (a.2 > 0) = true then (L.zeyi (⟨#[110]⟩ : ByteArray) (a.1.length : Int)).bind fun c => (app? a.1 ([c] : List ByteArray)).bind fun d => some (.inl (d, wr (a.2 - 1))) else some ((.inr ((b.2.L_, b.2.At, a.1))))
def L.zeju (d : KS) : Option (Network × KS) := (L.ztqk d ([(-100000), 0, 50000] : List Int)).bind fun a => (L.ztqk a.2 ([0, 1, 5, 100] : List Int)).bind fun b => (L.ziuk b.2 2 6).bind fun c => (loopN (L.zeju.B12 c) lots ([], c.1)).bind fun e => L.zeju.J1 a b e
def L.zhea (a : Int) : Int := (max a (wr (0 - a)))
def L.znbg.J2 (a : List Bool) (b : List Int) (c : List Int) : Option Plan := some (⟨b, c, a⟩ : Plan)
def L.znbg.B3 (d : Nat) (a : Int) (b : List Int) : Option (List Int) := (app? b ([wr (0 - a)] : List Int)).bind fun c => some c
def L.znbg.J1 (a : Plan) (b : List Bool) (c : List Int) : Option Plan := (forS L.znbg.B3 0 a.Ports []).bind fun d => L.znbg.J2 b c d
def L.znbg.B4 (d : Nat) (a : Int) (b : List Int) : Option (List Int) := (app? b ([wr (0 - a)] : List Int)).bind fun c => some c
def L.znbg (a : Plan) : Option Plan := (app? ([] : List Bool) a.Pumps).bind fun b => (forS L.znbg.B4 0 a.Rates []).bind fun c => L.znbg.J1 a b c
def L.zjbu.J3 (b : (List Int) × Int × (List Bool)) (c : Int × KS) (a : (List Int) × Int × (List Int) × (List Int)) : Option (Plan × KS) := if (c.1 == 0) = true then (L.znbg (⟨a.2.2.1, a.2.2.2, b.2.2⟩ : Plan)).bind fun d => some (d, (⟨a.1, a.2.1⟩ : KS)) else some ((⟨a.2.2.1, a.2.2.2, b.2.2⟩ : Plan), (⟨a.1, a.2.1⟩ : KS))
def L.zjbu.J5 (b : (List Int) × Int × (List Int) × (List Int) × Int) (a : (List Int) × Int × (List Int) × (List Int)) : Option (((List Int) × Int × (List Int) × (List Int) × Int) ⊕ (((List Int) × Int × (List Int) × (List Int)))) := some (.inl (a.1, a.2.1, a.2.2.1, a.2.2.2, wr (b.2.2.2.2 - 1)))
def L.zjbu.J10 (a : List Int) : Option (List Int) := some a
def L.zjbu.B9 (g : Network) (c : Int × KS) (h : (List Int) × Int × (List Int) × Int) (i : Nat) (a : List Int) : Option (List Int) := (ix h.2.2.1 (i : Int)).bind fun b => (ix g.Segments b.2).bind fun d => if decide (d.2.From < d.2.To) = true then (ix a b.2).bind fun e => L.zjbu.J10 (a.set e.1 (wr (e.2 + c.1))) else (ix a b.2).bind fun f => L.zjbu.J10 (a.set f.1 (wr (f.2 - c.1)))
def L.zjbu.J8 (c : Network) (b : (List Int) × Int × (List Int) × (List Int) × Int) (d : Int × KS) (a : (List Int) × Int × (List Int) × Int) (e : List Int) : Option (((List Int) × Int × (List Int) × (List Int) × Int) ⊕ (((List Int) × Int × (List Int) × (List Int)))) := (forJ (L.zjbu.B9 c d a) 0 a.2.2.1.length b.2.2.1).bind fun f => L.zjbu.J5 b (a.1, a.2.1, f, e)
def L.zjbu.J7 (e : Network) (a : (List Int) × Int × (List Int) × (List Int) × Int) (f : Int × KS) (c : Int × KS) (b : (List Int) × Int × (List Int) × Int) : Option (((List Int) × Int × (List Int) × (List Int) × Int) ⊕ (((List Int) × Int × (List Int) × (List Int)))) := if decide (b.2.2.2 < 0) = true then L.zjbu.J5 a (b.1, b.2.1, a.2.2.1, a.2.2.2.1) else (ix a.2.2.2.1 f.1).bind fun d => (ix a.2.2.2.1 b.2.2.2).bind fun g => (ix (a.2.2.2.1.set d.1 (wr (d.2 + c.1))) b.2.2.2).bind fun h => L.zjbu.J8 e a c b ((a.2.2.2.1.set d.1 (wr (d.2 + c.1))).set h.1 (wr (g.2 - c.1)))
def L.zjbu.J13 (g : Network) (b : (List Int) × Int × Int × (List Int) × Int) (a : (List Int) × Int × Int) (c : List Int) : Option (((List Int) × Int × Int × (List Int) × Int) ⊕ (((List Int) × Int × (List Int) × Int))) := if ((c.length : Int) == 0) = true then some ((.inr ((a.1, a.2.1, b.2.2.2.1, a.2.2)))) else (L.zdjb (⟨a.1, a.2.1⟩ : KS) (c.length : Int)).bind fun d => (ix c d.1).bind fun e => (app? b.2.2.2.1 ([e.2] : List Int)).bind fun h => (ix g.Segments e.2).bind fun f => some (.inl (d.2.L_, d.2.At, wr ((wr (f.2.From + f.2.To)) - b.2.2.1), h, a.2.2))
def L.zjbu.J15 (a : List Int) : Option (List Int) := some a
def L.zjbu.J16 (b : Nat) (a : List Int) (c : Bool) : Option (List Int) := if c = true then (app? a ([(b : Int)] : List Int)).bind fun d => L.zjbu.J15 d else L.zjbu.J15 a
def L.zjbu.B14 (e : (List Int) × Int × (List Int) × (List Int) × Int) (f : Int × KS) (c : (List Int) × Int × Int × (List Int) × Int) (b : Nat) (a : Segment) (d : List Int) : Option (List Int) := if (a.From == c.2.2.1) = true then if decide ((wr ((wr (a.From + a.To)) - c.2.2.1)) > c.2.2.1) = true then (ix e.2.2.1 (b : Int)).bind fun g => L.zjbu.J16 b d (decide ((wr ((L.zhea g.2) + f.1)) ≤ (min 1000 a.Capacity))) else L.zjbu.J16 b d false else if (a.To == c.2.2.1) = true then if decide ((wr ((wr (a.From + a.To)) - c.2.2.1)) > c.2.2.1) = true then (ix e.2.2.1 (b : Int)).bind fun h => L.zjbu.J16 b d (decide ((wr ((L.zhea h.2) + f.1)) ≤ (min 1000 a.Capacity))) else L.zjbu.J16 b d false else L.zjbu.J16 b d false
def L.zjbu.J12 (c : Network) (d : (List Int) × Int × (List Int) × (List Int) × Int) (e : Int × KS) (b : (List Int) × Int × Int × (List Int) × Int) (a : (List Int) × Int × Int) : Option (((List Int) × Int × Int × (List Int) × Int) ⊕ (((List Int) × Int × (List Int) × Int))) := if decide (a.2.2 ≥ 0) = true then some ((.inr ((a.1, a.2.1, b.2.2.2.1, a.2.2)))) else (forS (L.zjbu.B14 d e b) 0 c.Segments []).bind fun f => L.zjbu.J13 c b a f
def L.zjbu.J18 (a : (List Int) × Int × Int) : Option ((List Int) × Int × Int) := some (a.1, a.2.1, a.2.2)
def L.zjbu.J19 (b : Nat) (c : (List Int) × Int × Int) (a : (List Int) × Int × Bool) : Option ((List Int) × Int × Int) := if a.2.2 = true then L.zjbu.J18 (a.1, a.2.1, (b : Int)) else L.zjbu.J18 (a.1, a.2.1, c.2.2)
def L.zjbu.B17 (f : (List Int) × Int × (List Int) × (List Int) × Int) (g : Int × KS) (h : Int × KS) (d : (List Int) × Int × Int × (List Int) × Int) (b : Nat) (i : Port) (a : (List Int) × Int × Int) : Option ((List Int) × Int × Int) := if (i.Node == d.2.2.1) = true then if ((b : Int) != g.1) = true then (ix f.2.2.2.1 (b : Int)).bind fun e => if decide (e.2 ≤ 0) = true then if decide ((wr (e.2 - h.1)) ≥ (-1000)) = true then if decide ((d.2.2.2.1.length : Int) > 0) = true then (L.zdjb (⟨a.1, a.2.1⟩ : KS) 2).bind fun c => L.zjbu.J19 b a (c.2.L_, c.2.At, (c.1 == 0)) else L.zjbu.J19 b a (a.1, a.2.1, false) else L.zjbu.J19 b a (a.1, a.2.1, false) else L.zjbu.J19 b a (a.1, a.2.1, false) else L.zjbu.J19 b a (a.1, a.2.1, false) else L.zjbu.J19 b a (a.1, a.2.1, false)
def L.zjbu.B11 (c : Network) (d : (List Int) × Int × (List Int) × (List Int) × Int) (f : Int × KS) (e : Int × KS) (a : (List Int) × Int × Int × (List Int) × Int) : Option (((List Int) × Int × Int × (List Int) × Int) ⊕ (((List Int) × Int × (List Int) × Int))) := if decide (a.2.2.2.2 < 0) = true then (forS (L.zjbu.B17 d f e a) 0 c.Ports (a.1, a.2.1, a.2.2.2.2)).bind fun b => L.zjbu.J12 c d e a (b.1, b.2.1, b.2.2) else some ((.inr ((a.1, a.2.1, a.2.2.2.1, a.2.2.2.2))))
def L.zjbu.J6 (c : Network) (b : (List Int) × Int × (List Int) × (List Int) × Int) (d : Int × KS) (e : Nat × Port) (a : Int × KS) (f : Bool) : Option (((List Int) × Int × (List Int) × (List Int) × Int) ⊕ (((List Int) × Int × (List Int) × (List Int)))) := if f = true then L.zjbu.J5 b (a.2.L_, a.2.At, b.2.2.1, b.2.2.2.1) else (loopN (L.zjbu.B11 c b d a) lots (a.2.L_, a.2.At, e.2.Node, [], (-1))).bind fun g => L.zjbu.J7 c b d a g
def L.zjbu.B4 (c : Network) (a : (List Int) × Int × (List Int) × (List Int) × Int) : Option (((List Int) × Int × (List Int) × (List Int) × Int) ⊕ (((List Int) × Int × (List Int) × (List Int)))) := if decide (a.2.2.2.2 > 0) = true then (L.zdjb (⟨a.1, a.2.1⟩ : KS) (c.Ports.length : Int)).bind fun b => (ix c.Ports b.1).bind fun e => (L.ztqk b.2 ([1, 5, 30, 300] : List Int)).bind fun f => (L.ziuk f.2 1 f.1).bind fun d => (ix a.2.2.2.1 b.1).bind fun g => if decide (g.2 < 0) = true then L.zjbu.J6 c a b e d true else L.zjbu.J6 c a b e d (decide ((wr (g.2 + d.1)) > 1000)) else some ((.inr ((a.1, a.2.1, a.2.2.1, a.2.2.2.1))))
def L.zjbu.J2 (e : Network) (c : (List Int) × (List Int)) (a : (List Int) × Int × (List Bool)) : Option (Plan × KS) := (L.zdjb (⟨a.1, a.2.1⟩ : KS) 3).bind fun d => (L.zdjb d.2 5).bind fun b => (loopN (L.zjbu.B4 e) lots (b.2.L_, b.2.At, c.1, c.2, b.1)).bind fun f => L.zjbu.J3 a d f
def L.zjbu.B20 (c : Network) (a : (List Int) × Int × (List Bool) × Int) : Option (((List Int) × Int × (List Bool) × Int) ⊕ (((List Int) × Int × (List Bool)))) := if decide (a.2.2.2 < (c.Stations.length : Int)) = true then (L.zdjb (⟨a.1, a.2.1⟩ : KS) 2).bind fun b => (app? a.2.2.1 ([(b.1 == 0)] : List Bool)).bind fun d => some (.inl (b.2.L_, b.2.At, d, wr (a.2.2.2 + 1))) else some ((.inr ((a.1, a.2.1, a.2.2.1))))
def L.zjbu.J1 (a : KS) (b : Network) (c : (List Int) × (List Int)) : Option (Plan × KS) := (loopN (L.zjbu.B20 b) lots (a.L_, a.At, [], 0)).bind fun d => L.zjbu.J2 b c d
def L.zjbu (b : KS) (a : Network) : Option (Plan × KS) := (mk? (a.Segments.length : Int) (0 : Int)).bind fun c => (mk? (a.Ports.length : Int) (0 : Int)).bind fun d => L.zjbu.J1 b a (c, d)
structure Piece where
 Batch : Int
 Volume : Int
 deriving DecidableEq
def Piece.row (x : Piece) : List T := [.v (.int .i64 x.Batch), .v (.int .i64 x.Volume)]
structure deal_table where
 n_ : Int
 rates : Arr Int 64
 counts : Arr Int 64
 deriving DecidableEq
def deal_table.row (x : deal_table) : List T := [.v (.int .i64 x.n_)] ++ (x.rates.l.map cI ++ (x.counts.l.map cI ++ []))
structure advance_line where
 n_ : Network
 p : Plan
 feeds : List Int
 order : List Int
 fills : List (List Piece)
 given : List (List Piece)
 out_ : List (List Piece)
 deriving DecidableEq
def advance_line.row (x : advance_line) : List T := [.list 1 (x.n_.Nodes.map rS), .list 7 (x.n_.Segments.map Segment.row), .list 3 (x.n_.Ports.map Port.row), .list 5 (x.n_.Stations.map Station.row), .v (.int .i64 x.n_.Vapour), .v (.int .i64 x.n_.Settle), .list 1 (x.p.Rates.map rI), .list 1 (x.p.Ports.map rI), .list 1 (x.p.Pumps.map rB), .list 1 (x.feeds.map rI), .list 1 (x.order.map rI), .list 1 (x.fills.map (rL 2 Piece.row)), .list 1 (x.given.map (rL 2 Piece.row)), .list 1 (x.out_.map (rL 2 Piece.row))]
def L.zdti.J1 (a : (List Int) × Int × (List Piece)) : Option ((List Piece) × KS) := some (a.2.2, (⟨a.1, a.2.1⟩ : KS))
def L.zdti.J4 (a : (List Int) × Int × Int × (List Piece)) (b : Int × KS) (c : Int) (d : Int) : Option (((List Int) × Int × Int × (List Piece)) ⊕ (((List Int) × Int × (List Piece)))) := (app? a.2.2.2 ([(⟨d, (min c a.2.2.1)⟩ : Piece)] : List Piece)).bind fun e => some (.inl (b.2.L_, b.2.At, wr (a.2.2.1 - (min c a.2.2.1)), e))
def L.zdti.J5 (g : Int) (a : (List Int) × Int × Int × (List Piece)) (e : Int × KS) (b : Int × KS) (c : Int) (h : Bool) : Option (((List Int) × Int × Int × (List Piece)) ⊕ (((List Int) × Int × (List Piece)))) := if h = true then (rem? (wr (e.1 + 1)) g).bind fun f => (ix a.2.2.2 (wr ((a.2.2.2.length : Int) - 1))).bind fun d => if (d.2.Batch == f) = true then some (.inl (b.2.L_, b.2.At, wr (a.2.2.1 - (min c a.2.2.1)), (a.2.2.2.set d.1 (⟨d.2.Batch, wr (d.2.Volume + (min c a.2.2.1))⟩ : Piece)))) else L.zdti.J4 a b c f else L.zdti.J4 a b c e.1
def L.zdti.J3 (c : Int) (a : (List Int) × Int × Int × (List Piece)) (b : Int × KS) (d : Int × KS) (e : Int) : Option (((List Int) × Int × Int × (List Piece)) ⊕ (((List Int) × Int × (List Piece)))) := if decide ((a.2.2.2.length : Int) > 0) = true then (ix a.2.2.2 (wr ((a.2.2.2.length : Int) - 1))).bind fun f => L.zdti.J5 c a b d e (f.2.Batch == b.1) else L.zdti.J5 c a b d e false
def L.zdti.B2 (b : Int) (a : (List Int) × Int × Int × (List Piece)) : Option (((List Int) × Int × Int × (List Piece)) ⊕ (((List Int) × Int × (List Piece)))) := if (decide (a.2.2.1 > 0) && decide ((a.2.2.2.length : Int) < 12)) = true then (L.zdjb (⟨a.1, a.2.1⟩ : KS) b).bind fun c => (L.ziuk c.2 1 (max 1 (wr ((wr (a.2.2.1 * 2)).tdiv 3)))).bind fun d => if ((a.2.2.2.length : Int) == 11) = true then L.zdti.J3 b a c d a.2.2.1 else L.zdti.J3 b a c d d.1 else some ((.inr ((a.1, a.2.1, a.2.2.2))))
def L.zdti (a : KS) (b : Int) (c : Int) : Option ((List Piece) × KS) := (loopN (L.zdti.B2 c) lots (a.L_, a.At, b, [])).bind fun d => L.zdti.J1 d
def L.zbhc.J1 (a : (List Int) × Int × (List (List Piece))) : Option ((List (List Piece)) × KS) := some (a.2.2, (⟨a.1, a.2.1⟩ : KS))
def L.zbhc.B2 (c : Int) (f : Nat) (d : Segment) (a : (List Int) × Int × (List (List Piece))) : Option ((List Int) × Int × (List (List Piece))) := (L.zdti (⟨a.1, a.2.1⟩ : KS) d.Capacity c).bind fun b => (app? a.2.2 ([b.1] : List (List Piece))).bind fun e => some (b.2.L_, b.2.At, e)
def L.zbhc (b : KS) (c : Network) (d : Int) : Option ((List (List Piece)) × KS) := (forS (L.zbhc.B2 d) 0 c.Segments (b.L_, b.At, [])).bind fun a => L.zbhc.J1 (a.1, a.2.1, a.2.2)
def L.zork.J1 (a : (List Int) × Int × (List Int)) : Option ((List Int) × KS) := some (a.2.2, (⟨a.1, a.2.1⟩ : KS))
def L.zork.B2 (c : Network) (d : Int) (a : (List Int) × Int × (List Int) × Int) : Option (((List Int) × Int × (List Int) × Int) ⊕ (((List Int) × Int × (List Int)))) := if decide (a.2.2.2 < (c.Ports.length : Int)) = true then (L.zdjb (⟨a.1, a.2.1⟩ : KS) d).bind fun b => (app? a.2.2.1 ([b.1] : List Int)).bind fun e => some (.inl (b.2.L_, b.2.At, e, wr (a.2.2.2 + 1))) else some ((.inr ((a.1, a.2.1, a.2.2.1))))
def L.zork (a : KS) (b : Network) (c : Int) : Option ((List Int) × KS) := (loopN (L.zork.B2 b c) lots (a.L_, a.At, [], 0)).bind fun d => L.zork.J1 d
def L.zyyp (a : Network) (b : Plan) : Option ((List Int) × Int) := (L.zmqu a b).bind fun c => if (c != 0) = true then some ([], c) else (L.zsgw a b).bind fun d => some (d, 0)
def L.zojo (a : Piece) : Bool := (decide (a.Batch ≥ 0) && (decide (a.Batch < 1000) && (decide (a.Volume ≥ 0) && decide (a.Volume ≤ 1000000))))
def L.zmsl.J1 (a : Int) : Option Int := some a
def L.zmsl.B2 (c : Nat) (a : Piece) (b : Int) : Option Int := some (wr (b + a.Volume))
def L.zmsl (a : List Piece) : Option Int := (forS L.zmsl.B2 0 a 0).bind fun b => L.zmsl.J1 b
def L.zqwg.J1 (a : List Piece) (c : Unit) : Option Bool := (L.zmsl a).bind fun b => some (decide (b ≤ 1000000))
def L.zqwg.J3 (a : Bool) : Option (Unit ⊕ (Bool)) := if a = true then some ((.inr (false))) else some (.inl ())
def L.zqwg.B2 (c : List Piece) (b : Nat) (a : Piece) (e : Unit) : Option (Unit ⊕ (Bool)) := if (!(L.zojo a)) = true then L.zqwg.J3 true else if (a.Volume == 0) = true then L.zqwg.J3 true else if decide ((b : Int) > 0) = true then (ix c (wr ((b : Int) - 1))).bind fun d => L.zqwg.J3 (d.2.Batch == a.Batch) else L.zqwg.J3 false
def L.zqwg (a : List Piece) : Option Bool := if decide ((a.length : Int) > 200) = true then some false else (forL (L.zqwg.B2 a) 0 a ()).bind fun b => Sum.elim (fun d => L.zqwg.J1 a ()) (fun c => some c) b
def L.zryf (a : List Piece) : Option Int := (L.zqwg a).bind fun b => if (!b) = true then some 0 else (L.zmsl a).bind fun c => some c
def L.zkmq.J1 (a : Unit) : Option Int := some (-1)
def L.zkmq.B2 (a : Piece → Option Bool) (b : Nat) (c : Piece) (e : Unit) : Option (Unit ⊕ (Int)) := (a c).bind fun d => if d = true then some ((.inr ((b : Int)))) else some (.inl ())
def L.zkmq (a : List Piece) (b : Piece → Option Bool) : Option Int := (forL (L.zkmq.B2 b) 0 a ()).bind fun c => Sum.elim (fun e => L.zkmq.J1 ()) (fun d => some d) c
def L.zytx (a : List Piece) (b : Piece → Option Bool) : Option Bool := (L.zkmq a b).bind fun c => some (decide (c ≥ 0))
def L.zjyd (a : Piece) : Bool := (!(L.zojo a))
def L.zzum.J1 (a : List Piece) : Option (List Piece) := some a
def L.zzum.J3 (a : List Piece) : Option (List Piece) := some a
def L.zzum.J4 (c : Piece) (a : List Piece) (d : Bool) : Option (List Piece) := if d = true then (ix a (wr ((a.length : Int) - 1))).bind fun b => L.zzum.J3 (a.set b.1 (⟨b.2.Batch, wr (b.2.Volume + c.Volume)⟩ : Piece)) else (app? a ([c] : List Piece)).bind fun e => L.zzum.J3 e
def L.zzum.B2 (d : Nat) (a : Piece) (b : List Piece) : Option (List Piece) := if ((a.Batch == a.Batch) && ((a.Volume == 0) && true)) = true then L.zzum.J3 b else if decide ((b.length : Int) > 0) = true then (ix b (wr ((b.length : Int) - 1))).bind fun c => L.zzum.J4 a b (c.2.Batch == a.Batch) else L.zzum.J4 a b false
def L.zzum (a : List Piece) : Option (List Piece) := (forS L.zzum.B2 0 a []).bind fun b => L.zzum.J1 b
def L.zmbh.J1 (a : List Piece) (b : Bool) : Option (List Piece) := if b = true then some [] else (L.zzum a).bind fun c => some c
def L.zmbh (a : List Piece) : Option (List Piece) := if decide ((a.length : Int) > 400) = true then L.zmbh.J1 a true else (L.zytx a (fun x => some (L.zjyd x))).bind fun b => L.zmbh.J1 a b
def L.zgxj (a : List Piece) : Option (List Piece) := app? [] a
def L.zbkm.J1 (a : (List Piece) × (List Piece)) : Option ((List Piece) × (List Piece)) := (L.zzum a.1).bind fun b => (L.zzum a.2).bind fun c => some (b, c)
def L.zbkm.B2 (c : Nat) (d : Piece) (a : Int × (List Piece) × (List Piece)) : Option (Int × (List Piece) × (List Piece)) := (ix a.2.1 (c : Int)).bind fun b => (ix (a.2.1.set b.1 (⟨b.2.Batch, (min d.Volume a.1)⟩ : Piece)) (c : Int)).bind fun e => (ix a.2.2 (c : Int)).bind fun f => some (wr (a.1 - e.2.Volume), (a.2.1.set b.1 (⟨b.2.Batch, (min d.Volume a.1)⟩ : Piece)), (a.2.2.set f.1 (⟨f.2.Batch, wr (d.Volume - e.2.Volume)⟩ : Piece)))
def L.zbkm (a : List Piece) (c : Int) : Option ((List Piece) × (List Piece)) := (L.zgxj a).bind fun d => (L.zgxj a).bind fun e => (forS L.zbkm.B2 0 a (c, d, e)).bind fun b => L.zbkm.J1 (b.2.1, b.2.2)
def L.zbil.J2 (a : (List Piece) × (List Piece)) : Option ((List Piece) × (List Piece) × Int) := if (decide ((a.1.length : Int) > 200) || decide ((a.2.length : Int) > 200)) = true then some ([], [], 4) else some (a.1, a.2, 0)
def L.zbil.J1 (a : List Piece) (b : List Piece) (e : Bool) (f : Bool) : Option ((List Piece) × (List Piece) × Int) := if f = true then some ([], [], 9) else if e = true then (L.zgxj a).bind fun g => (app? g b).bind fun h => (L.zmsl b).bind fun i => (L.zbkm h i).bind fun c => L.zbil.J2 (c.2, c.1) else (L.zgxj b).bind fun j => (app? j a).bind fun k => (L.zmsl a).bind fun l => (L.zbkm k l).bind fun d => L.zbil.J2 (d.1, d.2)
def L.zbil (a : List Piece) (b : List Piece) (c : Bool) : Option ((List Piece) × (List Piece) × Int) := (L.zqwg a).bind fun d => if (!d) = true then L.zbil.J1 a b c true else (L.zqwg b).bind fun e => L.zbil.J1 a b c (!e)
def L.zaio.J1 (a : Int) (b : Int) : Option Int := if (b == 0) = true then some 9 else if (decide (a < 0) || decide (a > b)) = true then some 1 else some 0
def L.zaio.B2 (c : Nat) (a : Int) (b : Int) : Option (Int ⊕ (Int)) := if (decide (a < 0) || decide (a > 1000)) = true then some ((.inr (1))) else some (.inl (wr (b + a)))
def L.zaio (a : List Int) (b : Int) : Option Int := if decide ((a.length : Int) > 64) = true then some 4 else (forL L.zaio.B2 0 a 0).bind fun c => Sum.elim (fun d => L.zaio.J1 b d) (fun e => some e) c
def L.zwhx (a : List Int) : Option deal_table := (cpyA (Arr.rep 64 (0 : Int)) a).bind fun b => some (⟨(a.length : Int), b, (Arr.rep 64 (0 : Int))⟩ : deal_table)
def L.zfrq.J1 (a : deal_table) (b : Int) : Option (Int × deal_table) := some (b, a)
def L.zfrq.J3 (a : Int) : Option Int := some a
def L.zfrq.J4 (a : Nat) (b : Int) (c : Bool) : Option Int := if c = true then L.zfrq.J3 (a : Int) else L.zfrq.J3 b
def L.zfrq.B2 (c : deal_table) (b : Nat) (a : Int) : Option Int := (ix c.rates.l (b : Int)).bind fun d => if decide (d.2 > 0) = true then if decide (a < 0) = true then L.zfrq.J4 b a true else (ix c.counts.l (b : Int)).bind fun e => (ix c.rates.l a).bind fun f => (ix c.counts.l a).bind fun g => L.zfrq.J4 b a (decide ((wr ((wr (e.2 + 1)) * f.2)) < (wr ((wr (g.2 + 1)) * d.2)))) else L.zfrq.J4 b a false
def L.zfrq (a : deal_table) : Option (Int × deal_table) := (chk (a.n_ ≤ 9223372036854775806)).bind fun c => (forJ (L.zfrq.B2 a) 0 a.n_.toNat (-1)).bind fun b => L.zfrq.J1 a b
def L.zmxf.J3 (a : List (List Piece)) : Option ((List (List Piece)) × Int) := some (a, 0)
def L.zmxf.B4 (c : Nat) (a : List (List Piece)) : Option (List (List Piece)) := (ix a (c : Int)).bind fun b => (L.zmbh b.2).bind fun d => some (a.set b.1 d)
def L.zmxf.J2 (a : List (List Piece)) : Option ((List (List Piece)) × Int) := (forJ L.zmxf.B4 0 a.length a).bind fun b => L.zmxf.J3 b
def L.zmxf.J6 (a : (List (List Piece)) × Int × (Arr Int 64) × (Arr Int 64)) : Option ((List (List Piece)) × Int × (Arr Int 64) × (Arr Int 64)) := some (a.1, a.2.1, a.2.2.1, a.2.2.2)
def L.zmxf.B8 (d : (List (List Piece)) × Int × (Arr Int 64) × (Arr Int 64)) (e : Nat × Piece) (f : Int × (Arr Int 64) × (Arr Int 64)) (a : Nat) (b : List (List Piece)) : Option (List (List Piece)) := (ix b (a : Int)).bind fun c => (ix f.2.2.l (a : Int)).bind fun g => (ix d.2.2.2.l (a : Int)).bind fun h => (app? c.2 ([(⟨e.2.Batch, wr (g.2 - h.2)⟩ : Piece)] : List Piece)).bind fun i => some (b.set c.1 i)
def L.zmxf.J7 (b : (List (List Piece)) × Int × (Arr Int 64) × (Arr Int 64)) (c : Nat × Piece) (a : Int × (Arr Int 64) × (Arr Int 64)) : Option ((List (List Piece)) × Int × (Arr Int 64) × (Arr Int 64)) := (forJ (L.zmxf.B8 b c a) 0 b.1.length b.1).bind fun d => L.zmxf.J6 (d, a.1, a.2.1, a.2.2)
def L.zmxf.B9 (d : Nat) (b : Int × (Arr Int 64) × (Arr Int 64)) : Option (Int × (Arr Int 64) × (Arr Int 64)) := (L.zfrq (⟨b.1, b.2.1, b.2.2⟩ : deal_table)).bind fun a => (ix a.2.counts.l a.1).bind fun c => some (a.2.n_, a.2.rates, (a.2.counts.set c.1 (wr (c.2 + 1))))
def L.zmxf.B5 (d : List Piece) (e : Nat) (a : (List (List Piece)) × Int × (Arr Int 64) × (Arr Int 64)) : Option ((List (List Piece)) × Int × (Arr Int 64) × (Arr Int 64)) := (ix d (e : Int)).bind fun b => (chk (b.2.Volume ≤ 9223372036854775806)).bind fun f => (forJ L.zmxf.B9 0 b.2.Volume.toNat (a.2.1, a.2.2.1, a.2.2.2)).bind fun c => L.zmxf.J7 a b (c.1, c.2.1, c.2.2)
def L.zmxf.J1 (a : List Int) (c : List Piece) (e : Int) : Option ((List (List Piece)) × Int) := (L.zaio a e).bind fun d => if (d != 0) = true then some ([], d) else (mk? (a.length : Int) ([] : List Piece)).bind fun f => (L.zwhx a).bind fun b => (forJ (L.zmxf.B5 c) 0 c.length (f, b.n_, b.rates, b.counts)).bind fun g => L.zmxf.J2 g.1
def L.zmxf.B10 (a : List Piece) (b : Nat) (c : Int) : Option Int := (ix a (b : Int)).bind fun d => some (wr (c + d.2.Volume))
def L.zmxf (b : List Piece) (c : List Int) : Option ((List (List Piece)) × Int) := (L.zmbh b).bind fun a => if (bif ((a.length : Int) == 0) then (decide ((b.length : Int) > 0) || decide ((a.length : Int) > 200)) else decide ((a.length : Int) > 200)) = true then some ([], 9) else (forJ (L.zmxf.B10 a) 0 a.length 0).bind fun d => L.zmxf.J1 c a d
def L.zvuy.J1 (a : Unit) : Option Int := some (-1)
def L.zvuy.B2 (a : (List Piece) → Option Bool) (b : Nat) (c : List Piece) (e : Unit) : Option (Unit ⊕ (Int)) := (a c).bind fun d => if d = true then some ((.inr ((b : Int)))) else some (.inl ())
def L.zvuy (a : List (List Piece)) (b : (List Piece) → Option Bool) : Option Int := (forL (L.zvuy.B2 b) 0 a ()).bind fun c => Sum.elim (fun e => L.zvuy.J1 ()) (fun d => some d) c
def L.zbxi (a : List (List Piece)) (b : (List Piece) → Option Bool) : Option Bool := (L.zvuy a b).bind fun c => some (decide (c ≥ 0))
def L.zfxs (a : List Piece) : Option Bool := (L.zqwg a).bind fun b => some (!b)
def L.zspo.J2 (a : Unit) : Option Int := some 0
def L.zspo.B3 (a : Network) (b : Nat) (c : List Piece) (f : Unit) : Option (Unit ⊕ (Int)) := (L.zryf c).bind fun d => (ix a.Segments (b : Int)).bind fun e => if (d != e.2.Capacity) = true then some ((.inr (14))) else some (.inl ())
def L.zspo.J1 (a : Network) (b : List (List Piece)) (c : Bool) : Option Int := if c = true then some 9 else (forL (L.zspo.B3 a) 0 b ()).bind fun d => Sum.elim (fun f => L.zspo.J2 ()) (fun e => some e) d
def L.zspo (a : Network) (b : List (List Piece)) : Option Int := (L.zfta a).bind fun c => if (c != 0) = true then some c else if ((b.length : Int) != (a.Segments.length : Int)) = true then L.zspo.J1 a b true else (L.zbxi b (fun x => L.zfxs x)).bind fun d => L.zspo.J1 a b d
def L.zljn.J1 (a : List Piece) : Option (List Piece) := some a
def L.zljn.J3 (a : List Piece) : Option (List Piece) := some a
def L.zljn.J4 (c : Piece) (a : List Piece) (d : Bool) : Option (List Piece) := if d = true then (ix a (wr ((a.length : Int) - 1))).bind fun b => L.zljn.J3 (a.set b.1 (⟨b.2.Batch, wr (b.2.Volume + c.Volume)⟩ : Piece)) else (app? a ([c] : List Piece)).bind fun e => L.zljn.J3 e
def L.zljn.B2 (d : Nat) (b : Piece) (a : List Piece) : Option (List Piece) := if decide ((a.length : Int) > 0) = true then (ix a (wr ((a.length : Int) - 1))).bind fun c => L.zljn.J4 b a (c.2.Batch == b.Batch) else L.zljn.J4 b a false
def L.zljn (a : List Piece) (b : List Piece) : Option (List Piece) := (forS L.zljn.B2 0 b a).bind fun c => L.zljn.J1 c
def L.znde.J2 (a : (List Piece) × Int × Int) (b : List Piece) : Option (((List Piece) × Int × Int) ⊕ ((List Piece))) := some (.inl (b, wr (a.2.1 + 1), wr (a.2.2 - 1)))
def L.znde.B1 (a : (List Piece) × Int × Int) : Option (((List Piece) × Int × Int) ⊕ ((List Piece))) := if decide (a.2.1 < a.2.2) = true then (ix a.1 a.2.2).bind fun c => (ix a.1 a.2.1).bind fun b => (ix (a.1.set b.1 c.2) a.2.2).bind fun d => L.znde.J2 a ((a.1.set b.1 c.2).set d.1 b.2) else some ((.inr (a.1)))
def L.znde (a : List Piece) : Option (List Piece) := (loopN L.znde.B1 lots (a, 0, wr ((a.length : Int) - 1))).bind fun b => some b
def L.zqks (a : List Piece) : Option (List Piece) := (L.zgxj a).bind fun b => (L.znde b).bind fun c => some c
def L.zvgo (l : List Port) (q : List Int) (a : Int) (b : Bool) : Option (List (Int × Int)) := forS (fun k x acc => (ix q (k : Int)).bind fun r => if ((x.Node != a) || ((r.2 == 0) || (decide (r.2 > 0) != b))) = true then some acc else some (acc ++ [((k : Int), max r.2 (wr (0 - r.2)))])) 0 l []
def L.zxub (l : List Segment) (q : List Int) (a : Int) (b : Bool) : Option (List (Int × Int)) := forS (fun k x acc => (ix q (k : Int)).bind fun r => if (((r.2 == 0) || (b && ((L.ztzg x r.2).2 != a))) || (!b && ((L.ztzg x r.2).1 != a))) = true then some acc else some (acc ++ [((k : Int), max r.2 (wr (0 - r.2)))])) 0 l []
def L.zyjw.B1 (b : advance_line) (f : Nat) (a : Int × Int) (c : List Piece) : Option (List Piece) := (ix b.feeds a.1).bind fun d => (L.zljn c ([(⟨d.2, a.2⟩ : Piece)] : List Piece)).bind fun e => some e
def L.zyjw.B2 (a : advance_line) (f : Nat) (b : Int × Int) (c : List Piece) : Option (List Piece) := (ix a.given b.1).bind fun d => (L.zljn c d.2).bind fun e => some e
def L.zyjw (a : advance_line) (b : Int) : Option ((List Piece) × ((List (List Piece)) × (List (List Piece)) × (List (List Piece)))) := (L.zvgo a.n_.Ports a.p.Ports b true).bind fun c => (forS (L.zyjw.B1 a) 0 c []).bind fun d => (L.zxub a.n_.Segments a.p.Rates b true).bind fun e => (forS (L.zyjw.B2 a) 0 e d).bind fun f => some (f, (a.fills, a.given, a.out_))
def L.znry.J2 (a : advance_line) (b : Int) (c : Nat × (List Piece)) (d : (List Piece) × (List Piece) × Int) (e : List Piece) : Option (Int × ((List (List Piece)) × (List (List Piece)) × (List (List Piece)))) := (ix a.given b).bind fun f => some (0, ((a.fills.set c.1 d.1), (a.given.set f.1 e), a.out_))
def L.znry.J1 (a : advance_line) (c : Int) (e : Nat × Int) (f : List Piece) : Option (Int × ((List (List Piece)) × (List (List Piece)) × (List (List Piece)))) := (ix a.fills c).bind fun d => (L.zbil d.2 f (decide (e.2 < 0))).bind fun b => if (b.2.2 != 0) = true then some (4, (a.fills, a.given, a.out_)) else if (!(decide (e.2 < 0))) = true then (L.zqks b.2.1).bind fun g => L.znry.J2 a c d b g else L.znry.J2 a c d b b.2.1
def L.znry (a : advance_line) (b : Int) (d : List Piece) : Option (Int × ((List (List Piece)) × (List (List Piece)) × (List (List Piece)))) := (ix a.p.Rates b).bind fun c => if (!(decide (c.2 < 0))) = true then (L.zqks d).bind fun e => L.znry.J1 a b c e else L.znry.J1 a b c d
def L.zikm.B1 (d : Nat) (a : Int × Int) (b : List Int) : Option (List Int) := (app? b ([a.2] : List Int)).bind fun c => some c
def L.zikm.B2 (d : Nat) (a : Int × Int) (b : List Int) : Option (List Int) := (app? b ([a.2] : List Int)).bind fun c => some c
def L.zikm.B3 (b : (List (List Piece)) × Int) (f : Nat) (c : Int × Int) (a : (List (List Piece)) × Int) : Option ((List (List Piece)) × Int) := (ix b.1 a.2).bind fun d => (ix a.1 c.1).bind fun e => some ((a.1.set e.1 d.2), wr (a.2 + 1))
def L.zikm.B4 (c : advance_line) (d : (List (List Piece)) × Int) (g : Nat) (e : Int × Int) (b : (List (List Piece)) × (List (List Piece)) × (List (List Piece)) × Int) : Option (((List (List Piece)) × (List (List Piece)) × (List (List Piece)) × Int) ⊕ ((Int × ((List (List Piece)) × (List (List Piece)) × (List (List Piece)))))) := (ix d.1 b.2.2.2).bind fun f => (L.znry (⟨c.n_, c.p, c.feeds, c.order, b.1, b.2.1, b.2.2.1⟩ : advance_line) e.1 f.2).bind fun a => if (a.1 != 0) = true then some ((.inr ((a.1, (a.2.1, a.2.2.1, a.2.2.2))))) else some (.inl (a.2.1, a.2.2.1, a.2.2.2, wr (b.2.2.2 + 1)))
def L.zikm (b : advance_line) (c : Int) : Option (Int × ((List (List Piece)) × (List (List Piece)) × (List (List Piece)))) := (L.zyjw b c).bind fun a => if ((a.1.length : Int) == 0) = true then some (0, (a.2.1, a.2.2.1, a.2.2.2)) else if decide ((a.1.length : Int) > 200) = true then some (4, (a.2.1, a.2.2.1, a.2.2.2)) else (L.zvgo b.n_.Ports b.p.Ports c false).bind fun g => (forS L.zikm.B1 0 g []).bind fun h => (L.zxub b.n_.Segments b.p.Rates c false).bind fun i => (forS L.zikm.B2 0 i h).bind fun j => (L.zmxf a.1 j).bind fun d => if (d.2 != 0) = true then some (d.2, (a.2.1, a.2.2.1, a.2.2.2)) else (L.zvgo b.n_.Ports b.p.Ports c false).bind fun k => (forS (L.zikm.B3 d) 0 k (a.2.2.2, 0)).bind fun f => (L.zxub b.n_.Segments b.p.Rates c false).bind fun l => (forL (L.zikm.B4 b d) 0 l (a.2.1, a.2.2.1, f.1, f.2)).bind fun m => Sum.elim (fun e => some (0, (e.1, e.2.1, e.2.2.1))) (fun n => some n) m
def L.zlri.J2 (a : (List (List Piece)) × (List (List Piece)) × (List (List Piece))) : Option (Int × ((List (List Piece)) × (List (List Piece)) × (List (List Piece)))) := some (0, (a.1, a.2.1, a.2.2))
def L.zlri.B3 (b : advance_line) (e : Nat) (d : Int) (c : (List (List Piece)) × (List (List Piece)) × (List (List Piece))) : Option (((List (List Piece)) × (List (List Piece)) × (List (List Piece))) ⊕ ((Int × ((List (List Piece)) × (List (List Piece)) × (List (List Piece)))))) := (L.zikm (⟨b.n_, b.p, b.feeds, b.order, c.1, c.2.1, c.2.2⟩ : advance_line) d).bind fun a => if (a.1 != 0) = true then some ((.inr ((a.1, (a.2.1, a.2.2.1, a.2.2.2))))) else some (.inl (a.2.1, a.2.2.1, a.2.2.2))
def L.zlri.J1 (a : advance_line) (c : (List (List Piece)) × (List (List Piece))) : Option (Int × ((List (List Piece)) × (List (List Piece)) × (List (List Piece)))) := (forL (L.zlri.B3 a) 0 a.order (a.fills, c.1, c.2)).bind fun d => Sum.elim (fun b => L.zlri.J2 (b.1, b.2.1, b.2.2)) (fun e => some e) d
def L.zlri (a : advance_line) : Option (Int × ((List (List Piece)) × (List (List Piece)) × (List (List Piece)))) := (mk? (a.n_.Segments.length : Int) ([] : List Piece)).bind fun b => (mk? (a.n_.Ports.length : Int) ([] : List Piece)).bind fun c => L.zlri.J1 a (b, c)
def L.zhye (a : Int) : Bool := (decide (a < 0) || decide (a ≥ 1000))
def L.zvbn.J2 (a : Network) (b : Plan) (c : List Int) (d : (List Int) × Int) (e : List (List Piece)) : Option ((Option advance_line) × Int) := some ((some (⟨a, b, c, d.1, e, [], []⟩ : advance_line)), 0)
def L.zvbn.B3 (e : Nat) (a : List Piece) (b : List (List Piece)) : Option (List (List Piece)) := (L.zgxj a).bind fun c => (app? b ([c] : List (List Piece))).bind fun d => some d
def L.zvbn.J1 (a : Network) (b : List (List Piece)) (c : Plan) (d : List Int) (e : (List Int) × Int) (f : Bool) : Option ((Option advance_line) × Int) := if f = true then some (none, 9) else (forS L.zvbn.B3 0 b []).bind fun g => L.zvbn.J2 a c d e g
def L.zvbn (a : Network) (d : List (List Piece)) (e : Plan) (b : List Int) : Option ((Option advance_line) × Int) := (L.zspo a d).bind fun f => if (f != 0) = true then some (none, f) else (L.zyyp a e).bind fun c => if (c.2 != 0) = true then some (none, c.2) else if ((b.length : Int) != (a.Ports.length : Int)) = true then L.zvbn.J1 a d e b c true else (L.zvoj b (fun x => some (L.zhye x))).bind fun g => L.zvbn.J1 a d e b c g
def L.zcgl (c : Network) (d : List (List Piece)) (e : Plan) (f : List Int) : Option ((List (List Piece)) × (List (List Piece)) × Int) := (L.zvbn c d e f).bind fun a => opE a.1 (if (a.2 != 0) = true then some ([], [], a.2) else none) fun g => if (a.2 != 0) = true then some ([], [], a.2) else (L.zlri g).bind fun b => if (b.1 != 0) = true then some ([], [], b.1) else some (b.2.1, b.2.2.2, 0)
def L.zctt.J1 (a : Unit) : Option ((List (List Piece)) × (List (List Piece)) × Int) := none
def L.zctt.B2 (a : Nat) (b : Unit) : Option Unit := none
def L.zctt.J3 (a : (List (List Piece)) × (List (List Piece)) × (List (List Piece)) × (List (List Piece))) : Option ((List (List Piece)) × (List (List Piece)) × Int) := some (a.1, a.2.2.2, 0)
def L.zctt.J5 (a : (List (List Piece)) × (List (List Piece)) × (List (List Piece)) × (List (List Piece))) : Option (((List (List Piece)) × (List (List Piece)) × (List (List Piece)) × (List (List Piece))) ⊕ (((List (List Piece)) × (List (List Piece)) × Int))) := some (.inl (a.1, a.2.1, a.2.2.1, a.2.2.2))
def L.zctt.B6 (e : Int × ((List (List Piece)) × (List (List Piece)) × (List (List Piece)))) (a : Nat) (b : List (List Piece)) : Option ((List (List Piece)) ⊕ (((List (List Piece)) × (List (List Piece)) × Int))) := (ix e.2.2.2 (a : Int)).bind fun f => (ix b (a : Int)).bind fun c => (L.zljn c.2 f.2).bind fun d => (ix (b.set c.1 d) (a : Int)).bind fun g => if decide ((g.2.length : Int) > 200) = true then some ((.inr (([], [], 4)))) else some (.inl (b.set c.1 d))
def L.zctt.B4 (b : advance_line) (g : Nat) (c : (List (List Piece)) × (List (List Piece)) × (List (List Piece)) × (List (List Piece))) : Option (((List (List Piece)) × (List (List Piece)) × (List (List Piece)) × (List (List Piece))) ⊕ (((List (List Piece)) × (List (List Piece)) × Int))) := (L.zlri (⟨b.n_, b.p, b.feeds, b.order, c.1, c.2.1, c.2.2.1⟩ : advance_line)).bind fun a => if (a.1 != 0) = true then some ((.inr (([], [], a.1)))) else (forI (L.zctt.B6 a) 0 a.2.2.2.length c.2.2.2).bind fun d => Sum.elim (fun e => L.zctt.J5 (a.2.1, a.2.2.1, a.2.2.2, e)) (fun f => some ((.inr (f)))) d
def L.zctt (e : Network) (f : List (List Piece)) (g : Plan) (h : List Int) (a : Int) : Option ((List (List Piece)) × (List (List Piece)) × Int) := if (decide (a < 0) || decide (a > 400)) = true then some ([], [], 1) else (L.zvbn e f g h).bind fun b => opE b.1 (if (b.2 != 0) = true then some ([], [], b.2) else (mk? (e.Ports.length : Int) ([] : List Piece)).bind fun l => (chk (a ≤ 9223372036854775806)).bind fun m => (forJ L.zctt.B2 0 a.toNat ()).bind fun n => L.zctt.J1 ()) fun c => if (b.2 != 0) = true then some ([], [], b.2) else (mk? (e.Ports.length : Int) ([] : List Piece)).bind fun i => (chk (a ≤ 9223372036854775806)).bind fun o => (forI (L.zctt.B4 c) 0 a.toNat (c.fills, c.given, c.out_, i)).bind fun j => Sum.elim (fun d => L.zctt.J3 (d.1, d.2.1, d.2.2.1, d.2.2.2)) (fun k => some k) j
def L.zwqi.J1 (a : Int) : Option Int := some a
def L.zwqi.B2 (c : Nat) (a : Piece) (b : Int) : Option Int := some (wr (b + a.Volume))
def L.zwqi (a : List Piece) : Option Int := (forS L.zwqi.B2 0 a 0).bind fun b => L.zwqi.J1 b
def L.zjsx.J1 (a : Unit) : Option Bool := some true
def L.zjsx.B2 (c : List Piece) (d : Nat) (a : Piece) (e : Unit) : Option (Unit ⊕ (Bool)) := (ix c (d : Int)).bind fun b => if (!((a.Batch == b.2.Batch) && ((a.Volume == b.2.Volume) && true))) = true then some ((.inr (false))) else some (.inl ())
def L.zjsx (a : List Piece) (b : List Piece) : Option Bool := if ((a.length : Int) != (b.length : Int)) = true then some false else (forL (L.zjsx.B2 b) 0 a ()).bind fun c => Sum.elim (fun e => L.zjsx.J1 ()) (fun d => some d) c
def L.zuyb.J1 (a : List Piece) : Option (List Piece) := some a
def L.zuyb.J3 (a : List Piece) : Option (List Piece) := some a
def L.zuyb.J4 (c : Piece) (a : List Piece) (d : Bool) : Option (List Piece) := if d = true then (ix a (wr ((a.length : Int) - 1))).bind fun b => L.zuyb.J3 (a.set b.1 (⟨b.2.Batch, wr (b.2.Volume + c.Volume)⟩ : Piece)) else (app? a ([c] : List Piece)).bind fun e => L.zuyb.J3 e
def L.zuyb.B2 (d : Nat) (b : Piece) (a : List Piece) : Option (List Piece) := if (b.Volume == 0) = true then L.zuyb.J3 a else if decide ((a.length : Int) > 0) = true then (ix a (wr ((a.length : Int) - 1))).bind fun c => L.zuyb.J4 b a (c.2.Batch == b.Batch) else L.zuyb.J4 b a false
def L.zuyb (a : List Piece) : Option (List Piece) := (forS L.zuyb.B2 0 a []).bind fun b => L.zuyb.J1 b
def L.zkma.J1 (a : Unit) : Option Bool := some true
def L.zkma.B2 (a : List (List Piece)) (b : Nat) (c : List Piece) (f : Unit) : Option (Unit ⊕ (Bool)) := (ix a (b : Int)).bind fun d => (L.zjsx c d.2).bind fun e => if (!e) = true then some ((.inr (false))) else some (.inl ())
def L.zkma (a : List (List Piece)) (b : List (List Piece)) : Option Bool := if ((a.length : Int) != (b.length : Int)) = true then some false else (forL (L.zkma.B2 b) 0 a ()).bind fun c => Sum.elim (fun e => L.zkma.J1 ()) (fun d => some d) c
def L.zdqe.J2 (a : Bool) : Option Bool := some a
def L.zdqe.J1 (b : List Segment) : Option Bool := (L.zcgl (⟨([(⟨#[97]⟩ : ByteArray), (⟨#[98]⟩ : ByteArray), (⟨#[99]⟩ : ByteArray)] : List ByteArray), b, ([(⟨(⟨#[105, 110]⟩ : ByteArray), 0, 0⟩ : Port), (⟨(⟨#[109, 105, 100]⟩ : ByteArray), 1, 0⟩ : Port), (⟨(⟨#[111, 117, 116]⟩ : ByteArray), 2, 0⟩ : Port)] : List Port), [], 0, 0⟩ : Network) ([([(⟨1, 10⟩ : Piece)] : List Piece), ([(⟨2, 10⟩ : Piece)] : List Piece)] : List (List Piece)) (⟨([4, (-3)] : List Int), ([4, (-1), (-3)] : List Int), []⟩ : Plan) ([5, 0, 0] : List Int)).bind fun a => if (a.2.2 == 0) = true then (L.zkma a.1 ([([(⟨5, 4⟩ : Piece), (⟨1, 6⟩ : Piece)] : List Piece), ([(⟨2, 7⟩ : Piece), (⟨1, 3⟩ : Piece)] : List Piece)] : List (List Piece))).bind fun c => if c = true then (L.zkma a.2.1 ([[], ([(⟨1, 1⟩ : Piece)] : List Piece), ([(⟨2, 3⟩ : Piece)] : List Piece)] : List (List Piece))).bind fun d => L.zdqe.J2 d else L.zdqe.J2 false else L.zdqe.J2 false
def L.zdqe.J4 (a : List Segment) : Option (List Segment) := some a
def L.zdqe.B3 (a : Nat) (c : List Segment) : Option (List Segment) := (ix ([(⟨[0, 1], rfl⟩ : Arr Int 2), (⟨[2, 1], rfl⟩ : Arr Int 2)] : List (Arr Int 2)) (a : Int)).bind fun b => (ix ([(⟨#[120]⟩ : ByteArray), (⟨#[121]⟩ : ByteArray)] : List ByteArray) (a : Int)).bind fun d => (ix b.2.l 0).bind fun e => (ix b.2.l 1).bind fun f => (app? c ([(⟨d.2, e.2, f.2, 10, 0, 0, ([(⟨0, 0, 0⟩ : Point), (⟨10, 0, 0⟩ : Point)] : List Point)⟩ : Segment)] : List Segment)).bind fun g => L.zdqe.J4 g
def L.zdqe : Option Bool := (forJ L.zdqe.B3 0 (([(⟨[0, 1], rfl⟩ : Arr Int 2), (⟨[2, 1], rfl⟩ : Arr Int 2)] : List (Arr Int 2)).length) []).bind fun a => L.zdqe.J1 a
structure Hop where
 Segment : Int
 Back : Bool
 deriving DecidableEq
def Hop.row (x : Hop) : List T := [.v (.int .i64 x.Segment), .v (.bool x.Back)]
def L.zyjz.J1 (a : List Piece) : Option (List Piece) := some a
def L.zyjz.B2 (b : List Piece) (a : (List Piece) × Int) : Option (((List Piece) × Int) ⊕ ((List Piece))) := if decide (a.2 ≥ 0) = true then (ix b a.2).bind fun c => (app? a.1 ([c.2] : List Piece)).bind fun d => some (.inl (d, wr (a.2 - 1))) else some ((.inr (a.1)))
def L.zyjz (a : List Piece) : Option (List Piece) := (loopN (L.zyjz.B2 a) lots ([], wr ((a.length : Int) - 1))).bind fun b => L.zyjz.J1 b
def L.zewb.J1 (a : (List Piece) × (List Piece)) : Option ((List Piece) × (List Piece)) := (L.zuyb a.1).bind fun b => (L.zuyb a.2).bind fun c => some (b, c)
def L.zewb.J3 (c : Piece) (a : Int × (List Piece) × (List Piece)) (b : (List Piece) × (List Piece)) : Option (Int × (List Piece) × (List Piece)) := some (wr (a.1 - (min a.1 c.Volume)), b.1, b.2)
def L.zewb.B2 (e : Nat) (a : Piece) (b : Int × (List Piece) × (List Piece)) : Option (Int × (List Piece) × (List Piece)) := (app? b.2.1 ([(⟨a.Batch, (min b.1 a.Volume)⟩ : Piece)] : List Piece)).bind fun c => (app? b.2.2 ([(⟨a.Batch, wr (a.Volume - (min b.1 a.Volume))⟩ : Piece)] : List Piece)).bind fun d => L.zewb.J3 a b (c, d)
def L.zewb (b : List Piece) (c : Int) : Option ((List Piece) × (List Piece)) := (forS L.zewb.B2 0 b (c, [], [])).bind fun a => L.zewb.J1 (a.2.1, a.2.2)
def L.zhiu.J1 (a : (List Int) × Int × (List ByteArray) × (List Segment)) : Option (Network × KS) := some ((⟨a.2.2.1, a.2.2.2, ([(⟨(⟨#[113, 97]⟩ : ByteArray), 0, 0⟩ : Port), (⟨(⟨#[113, 98]⟩ : ByteArray), wr ((a.2.2.1.length : Int) - 1), 0⟩ : Port)] : List Port), [], 0, 0⟩ : Network), (⟨a.1, a.2.1⟩ : KS))
def L.zhiu.B2 (a : (List Int) × Int × (List ByteArray) × (List Segment) × Int) : Option (((List Int) × Int × (List ByteArray) × (List Segment) × Int) ⊕ (((List Int) × Int × (List ByteArray) × (List Segment)))) := if decide (a.2.2.2.2 > 0) = true then (bytes? ([IntKind.u8.wrap (wr (97 + (a.2.2.1.length : Int)))] : List Int)).bind fun c => (cat? (⟨#[110]⟩ : ByteArray) c).bind fun d => (app? a.2.2.1 ([d] : List ByteArray)).bind fun e => (L.zsex (⟨a.1, a.2.1⟩ : KS) (wr ((a.2.2.1.length : Int) - 1)) (wr ((a.2.2.1.length : Int) - 1)) (a.2.2.1.length : Int)).bind fun b => (app? a.2.2.2.1 ([b.1] : List Segment)).bind fun f => some (.inl (b.2.L_, b.2.At, e, f, wr (a.2.2.2.2 - 1))) else some ((.inr ((a.1, a.2.1, a.2.2.1, a.2.2.2.1))))
def L.zhiu (b : KS) : Option (Network × KS) := (L.ziuk b 1 5).bind fun a => (loopN L.zhiu.B2 lots (a.2.L_, a.2.At, ([(⟨#[110, 97]⟩ : ByteArray)] : List ByteArray), [], a.1)).bind fun c => L.zhiu.J1 c
def L.zxbh.J5 (a : Bool) : Option Bool := some a
def L.zxbh.J4 (b : Int) (c : (List (List Piece)) × KS) (a : (List (List Piece)) × (List Piece)) : Option Bool := (L.zkma a.1 c.1).bind fun d => if d = true then (L.zuyb a.2).bind fun e => (L.zjsx e ([(⟨7, wr (1 + b)⟩ : Piece)] : List Piece)).bind fun f => if f = true then (L.zdqe).bind fun g => L.zxbh.J5 g else L.zxbh.J5 false else L.zxbh.J5 false
def L.zxbh.J7 (b : (List (List Piece)) × (List Piece) × Int) (a : (List (List Piece)) × (List Piece)) : Option (((List (List Piece)) × (List Piece) × Int) ⊕ (Bool ⊕ ((List (List Piece)) × (List Piece)))) := some (.inl (a.1, a.2, wr (b.2.2 - 1)))
def L.zxbh.J8 (d : Network × KS) (b : (List (List Piece)) × (List Piece) × Int) (c : Nat × Piece) (e : List Int) : Option (((List (List Piece)) × (List Piece) × Int) ⊕ (Bool ⊕ ((List (List Piece)) × (List Piece)))) := (L.zcgl d.1 b.1 (⟨e, ([wr (0 - c.2.Volume), c.2.Volume] : List Int), []⟩ : Plan) ([0, c.2.Batch] : List Int)).bind fun a => if ((a.2.2 != 0) || ((a.2.1.length : Int) != 2)) = true then some ((.inr (.inl (false)))) else (ix a.2.1 0).bind fun f => (app? b.2.1 f.2).bind fun g => L.zxbh.J7 b (a.1, g)
def L.zxbh.J10 (a : List Int) : Option (List Int) := some a
def L.zxbh.B9 (b : Nat × Piece) (c : Nat) (d : Int) (e : List Int) : Option (List Int) := (app? e ([wr (0 - b.2.Volume)] : List Int)).bind fun a => if decide (d < 0) = true then (ix a (c : Int)).bind fun f => L.zxbh.J10 (a.set f.1 b.2.Volume) else L.zxbh.J10 a
def L.zxbh.B6 (c : Network × KS) (d : List Int) (e : Nat × (List Piece)) (a : (List (List Piece)) × (List Piece) × Int) : Option (((List (List Piece)) × (List Piece) × Int) ⊕ (Bool ⊕ ((List (List Piece)) × (List Piece)))) := if decide (a.2.2 ≥ 0) = true then (ix e.2 a.2.2).bind fun b => (forS (L.zxbh.B9 b) 0 d []).bind fun f => L.zxbh.J8 c a b f else some ((.inr (.inr ((a.1, a.2.1)))))
def L.zxbh.J3 (c : Network × KS) (d : Int) (e : List Int) (f : (List (List Piece)) × KS) (a : (List (List Piece)) × (List (List Piece)) × Int) (g : Bool) : Option Bool := if g = true then some false else (ix a.2.1 1).bind fun b => (loopN (L.zxbh.B6 c e b) lots (a.1, [], wr ((b.2.length : Int) - 1))).bind fun h => Sum.elim (fun i => some i) (fun j => L.zxbh.J4 d f j) h
def L.zxbh.J2 (a : Network × KS) (b : Int) (d : List Int) : Option Bool := (L.zbhc a.2 a.1 3).bind fun e => (L.zcgl a.1 e.1 (⟨d, ([wr (1 + b), wr (0 - (wr (1 + b)))] : List Int), []⟩ : Plan) ([7, 0] : List Int)).bind fun c => if (c.2.2 != 0) = true then L.zxbh.J3 a b d e c true else if ((c.2.1.length : Int) != 2) = true then L.zxbh.J3 a b d e c true else (ix c.2.1 1).bind fun f => (L.zwqi f.2).bind fun g => L.zxbh.J3 a b d e c (g != (wr (1 + b)))
def L.zxbh.J12 (a : List Int) : Option (List Int) := some a
def L.zxbh.B11 (a : Int) (f : Nat) (b : Segment) (c : List Int) : Option (List Int) := if decide (b.From < b.To) = true then (app? c ([wr (1 + a)] : List Int)).bind fun d => L.zxbh.J12 d else (app? c ([wr (0 - (wr (1 + a)))] : List Int)).bind fun e => L.zxbh.J12 e
def L.zxbh.J1 (c : Int) (a : Network × KS) (d : Int) : Option Bool := (rem? (wr (c)) d).bind fun b => (forS (L.zxbh.B11 b) 0 a.1.Segments []).bind fun e => L.zxbh.J2 a b e
def L.zxbh.B13 (c : Nat) (a : Segment) (b : Int) : Option Int := some (min b a.Capacity)
def L.zxbh (b : List Int) (c : Int) : Option Bool := (L.ziti b).bind fun d => (L.zhiu d).bind fun a => (forS L.zxbh.B13 0 a.1.Segments 1000).bind fun e => L.zxbh.J1 c a e
def L.zxvu.J4 (a : Bool) : Option Bool := some a
def L.zxvu.J3 (d : Network × KS) (a : Int × Int) (e : (List Int) × (List Hop)) (f : (List (List Piece)) × KS) (g : List Piece) : Option Bool := (quo? a.2 a.1).bind fun c => (L.zctt d.1 f.1 (⟨e.1, ([a.1, wr (0 - a.1)] : List Int), []⟩ : Plan) ([9, 0] : List Int) (min 400 (wr (c + 2)))).bind fun b => if (b.2.2 == 4) = true then (L.zdqe).bind fun h => some h else if ((b.2.2 != 0) || ((b.2.1.length : Int) != 2)) = true then some false else (app? g ([(⟨9, wr (2 * a.1)⟩ : Piece)] : List Piece)).bind fun i => (L.zewb i (wr ((min 400 (wr (c + 2))) * a.1))).bind fun j => (ix b.2.1 1).bind fun k => (L.zjsx k.2 j.1).bind fun l => if l = true then (L.zdqe).bind fun m => L.zxvu.J4 m else L.zxvu.J4 false
def L.zxvu.J6 (a : (List Piece) × Int) (b : List Piece) : Option (((List Piece) × Int) ⊕ ((List Piece))) := some (.inl (b, wr (a.2 - 1)))
def L.zxvu.B5 (c : (List Int) × (List Hop)) (b : (List (List Piece)) × KS) (a : (List Piece) × Int) : Option (((List Piece) × Int) ⊕ ((List Piece))) := if decide (a.2 ≥ 0) = true then (ix c.2 a.2).bind fun d => if d.2.Back = true then (ix b.1 a.2).bind fun e => (app? a.1 e.2).bind fun f => L.zxvu.J6 a f else (ix b.1 a.2).bind fun g => (L.zyjz g.2).bind fun h => (app? a.1 h).bind fun i => L.zxvu.J6 a i else some ((.inr (a.1)))
def L.zxvu.J2 (a : Network × KS) (d : Int × Int) (b : (List Int) × (List Hop)) : Option Bool := (L.zbhc a.2 a.1 3).bind fun c => (loopN (L.zxvu.B5 b c) lots ([], wr ((b.2.length : Int) - 1))).bind fun e => L.zxvu.J3 a d b c e
def L.zxvu.J8 (b : Nat) (a : Segment) (c : (List Int) × (List Hop)) (d : List Int) : Option ((List Int) × (List Hop)) := (app? c.2 ([(⟨(b : Int), decide (a.From > a.To)⟩ : Hop)] : List Hop)).bind fun e => some (d, e)
def L.zxvu.B7 (e : Int × Int) (b : Nat) (a : Segment) (c : (List Int) × (List Hop)) : Option ((List Int) × (List Hop)) := (app? c.1 ([e.1] : List Int)).bind fun d => if decide (a.From > a.To) = true then (ix d (b : Int)).bind fun f => L.zxvu.J8 b a c (d.set f.1 (wr (0 - e.1))) else L.zxvu.J8 b a c d
def L.zxvu.J1 (a : Network × KS) (b : Int × Int) : Option Bool := (forS (L.zxvu.B7 b) 0 a.1.Segments ([], [])).bind fun c => L.zxvu.J2 a b (c.1, c.2)
def L.zxvu.B9 (c : Nat) (a : Segment) (b : Int × Int) : Option (Int × Int) := some ((min b.1 a.Capacity), wr (b.2 + a.Capacity))
def L.zxvu (c : List Int) : Option Bool := (L.ziti c).bind fun d => (L.zhiu d).bind fun a => (forS L.zxvu.B9 0 a.1.Segments (9, 0)).bind fun b => L.zxvu.J1 a (b.1, b.2)
end Go.Proofs.Ytligpmmgdjipbaa
