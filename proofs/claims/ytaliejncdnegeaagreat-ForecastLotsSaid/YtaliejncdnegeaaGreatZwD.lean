/- Tables and pure functions. No condition. -/
import Derived.Test.YtaliejncdnegeaaGreatZwB2
import Derived.Test.YtaliejncdnegeaaGreatRows
import Derived.KernelRfl
set_option maxRecDepth 100000
namespace Go.Aw
set_option linter.unusedVariables false
set_option linter.unusedSimpArgs false
inductive TT where
 | nil
 | node (l : TT) (k : Nat) (x : TI) (r : TT)
def getTT : TT → Nat → Option TI
 | .nil, _ => none
 | .node l k x r, i => bif Nat.beq k i then some x else bif Nat.ble k i then getTT r i else getTT l i
def allTT (P : Program) : TT → Prop
 | .nil => True
 | .node l k x r => allTT P l ∧ tiOf P k = some x ∧ allTT P r
theorem getTT_ok {P : Program} : ∀ {t : TT} {i : Nat} {x : TI}, allTT P t → getTT t i = some x → tiOf P i = some x
 | .nil, _, _, _, h => by simp [getTT] at h
 | .node l k y r, i, x, ha, h => by
  simp only [getTT] at h
  cases hb : Nat.beq k i with
  | true =>
   have := Nat.eq_of_beq_eq_true hb
   simp only [hb, cond_true, Option.some.injEq] at h
   subst h this; exact ha.2.1
  | false =>
   simp only [hb, cond_false] at h
   cases hc : Nat.ble k i with
   | true => simp only [hc, cond_true] at h; exact getTT_ok ha.2.2 h
   | false => simp only [hc, cond_false] at h; exact getTT_ok ha.1 h
end Go.Aw
namespace Go.Proofs.YtaliejncdnegeaaGreat
open Go.Aw
@[reducible] def Tryz.x3 : TI := { kind := .int .i64, size := 1, bytes := 8, zero := some (.int .i64 0) }
@[reducible] def Tryz.x4 : TI := { kind := .bool, size := 1, bytes := 1, zero := some (.bool false) }
@[reducible] def Tryz.x5 : TI := { kind := .int .u8, size := 1, bytes := 1, zero := some (.int .u8 0) }
@[reducible] def Tryz.x9 : TI := { kind := .string, size := 1, bytes := 16, zero := some (.string ⟨#[]⟩) }
@[reducible] def Tryz.x22 : TI := { kind := .slice 3, size := 1, bytes := 24, zero := some (.slice none 0 0) }
@[reducible] def Tryz.x27 : TI := { kind := .slice 9, size := 1, bytes := 24, zero := some (.slice none 0 0) }
@[reducible] def Tryz.x28 : TI := { kind := .slice 39, size := 1, bytes := 24, zero := some (.slice none 0 0) }
@[reducible] def Tryz.x29 : TI := { kind := .slice 90, size := 1, bytes := 24, zero := some (.slice none 0 0) }
@[reducible] def Tryz.x30 : TI := { kind := .slice 102, size := 1, bytes := 24, zero := some (.slice none 0 0) }
@[reducible] def Tryz.x32 : TI := { kind := .struct [(0, 27), (1, 28), (2, 29), (3, 30), (4, 3), (5, 3)], size := 6, bytes := 112, zero := some (.agg #[.slice none 0 0, .slice none 0 0, .slice none 0 0, .slice none 0 0, .int .i64 0, .int .i64 0]) }
@[reducible] def Tryz.x35 : TI := { kind := .slice 66, size := 1, bytes := 24, zero := some (.slice none 0 0) }
@[reducible] def Tryz.x37 : TI := { kind := .slice 88, size := 1, bytes := 24, zero := some (.slice none 0 0) }
@[reducible] def Tryz.x39 : TI := { kind := .struct [(0, 9), (1, 3), (2, 3), (3, 3), (4, 3), (5, 3), (6, 37)], size := 7, bytes := 80, zero := some (.agg #[.string ⟨#[]⟩, .int .i64 0, .int .i64 0, .int .i64 0, .int .i64 0, .int .i64 0, .slice none 0 0]) }
@[reducible] def Tryz.x40 : TI := { kind := .slice 35, size := 1, bytes := 24, zero := some (.slice none 0 0) }
@[reducible] def Tryz.x41 : TI := { kind := .int .i64, size := 1, bytes := 8, zero := some (.int .i64 0) }
@[reducible] def Tryz.x44 : TI := { kind := .slice 4, size := 1, bytes := 24, zero := some (.slice none 0 0) }
@[reducible] def Tryz.x46 : TI := { kind := .struct [(0, 22), (1, 22), (2, 44)], size := 3, bytes := 72, zero := some (.agg #[.slice none 0 0, .slice none 0 0, .slice none 0 0]) }
@[reducible] def Tryz.x50 : TI := { kind := .struct [(0, 3), (1, 4)], size := 2, bytes := 16, zero := some (.agg #[.int .i64 0, .bool false]) }
@[reducible] def Tryz.x51 : TI := { kind := .slice 50, size := 1, bytes := 24, zero := some (.slice none 0 0) }
@[reducible] def Tryz.x59 : TI := { kind := .slice 63, size := 1, bytes := 24, zero := some (.slice none 0 0) }
@[reducible] def Tryz.x63 : TI := { kind := .struct [(0, 3), (1, 3), (2, 3)], size := 3, bytes := 24, zero := some (.agg #[.int .i64 0, .int .i64 0, .int .i64 0]) }
@[reducible] def Tryz.x66 : TI := { kind := .struct [(0, 3), (1, 3)], size := 2, bytes := 16, zero := some (.agg #[.int .i64 0, .int .i64 0]) }
@[reducible] def Tryz.x73 : TI := { kind := .slice 77, size := 1, bytes := 24, zero := some (.slice none 0 0) }
@[reducible] def Tryz.x77 : TI := { kind := .struct [(0, 3), (1, 3), (2, 51), (3, 3)], size := 4, bytes := 48, zero := some (.agg #[.int .i64 0, .int .i64 0, .slice none 0 0, .int .i64 0]) }
@[reducible] def Tryz.x86 : TI := { kind := .struct [(0, 22), (1, 3)], size := 2, bytes := 32, zero := some (.agg #[.slice none 0 0, .int .i64 0]) }
@[reducible] def Tryz.x88 : TI := { kind := .struct [(0, 3), (1, 3), (2, 3)], size := 3, bytes := 24, zero := some (.agg #[.int .i64 0, .int .i64 0, .int .i64 0]) }
@[reducible] def Tryz.x90 : TI := { kind := .struct [(0, 9), (1, 3), (2, 3)], size := 3, bytes := 32, zero := some (.agg #[.string ⟨#[]⟩, .int .i64 0, .int .i64 0]) }
@[reducible] def Tryz.x102 : TI := { kind := .struct [(0, 9), (1, 3), (2, 3), (3, 3), (4, 3)], size := 5, bytes := 48, zero := some (.agg #[.string ⟨#[]⟩, .int .i64 0, .int .i64 0, .int .i64 0, .int .i64 0]) }
@[reducible] def Tryz.x120 : TI := { kind := .array 4 27, size := 4, bytes := 96, zero := some (.agg #[.slice none 0 0, .slice none 0 0, .slice none 0 0, .slice none 0 0]) }
@[reducible] def Tryz.x125 : TI := { kind := .slice 5, size := 1, bytes := 24, zero := some (.slice none 0 0) }
@[reducible] def Tryz.x126 : TI := { kind := .other, size := 1, bytes := 8, zero := some (.pointer none) }
@[reducible] def Tryz.x131 : TI := { kind := .struct [(0, 32), (6, 46), (9, 22), (10, 22), (11, 40), (12, 40), (13, 40)], size := 14, bytes := 304, zero := some (.agg #[.slice none 0 0, .slice none 0 0, .slice none 0 0, .slice none 0 0, .int .i64 0, .int .i64 0, .slice none 0 0, .slice none 0 0, .slice none 0 0, .slice none 0 0, .slice none 0 0, .slice none 0 0, .slice none 0 0, .slice none 0 0]) }
@[reducible] def Tryz.x168 : TI := { kind := .array 24 3, size := 24, bytes := 192, zero := some (.agg #[.int .i64 0, .int .i64 0, .int .i64 0, .int .i64 0, .int .i64 0, .int .i64 0, .int .i64 0, .int .i64 0, .int .i64 0, .int .i64 0, .int .i64 0, .int .i64 0, .int .i64 0, .int .i64 0, .int .i64 0, .int .i64 0, .int .i64 0, .int .i64 0, .int .i64 0, .int .i64 0, .int .i64 0, .int .i64 0, .int .i64 0, .int .i64 0]) }
@[reducible] def Tryz.x170 : TI := { kind := .struct [(0, 168), (24, 168)], size := 48, bytes := 384, zero := some (.agg #[.int .i64 0, .int .i64 0, .int .i64 0, .int .i64 0, .int .i64 0, .int .i64 0, .int .i64 0, .int .i64 0, .int .i64 0, .int .i64 0, .int .i64 0, .int .i64 0, .int .i64 0, .int .i64 0, .int .i64 0, .int .i64 0, .int .i64 0, .int .i64 0, .int .i64 0, .int .i64 0, .int .i64 0, .int .i64 0, .int .i64 0, .int .i64 0, .int .i64 0, .int .i64 0, .int .i64 0, .int .i64 0, .int .i64 0, .int .i64 0, .int .i64 0, .int .i64 0, .int .i64 0, .int .i64 0, .int .i64 0, .int .i64 0, .int .i64 0, .int .i64 0, .int .i64 0, .int .i64 0, .int .i64 0, .int .i64 0, .int .i64 0, .int .i64 0, .int .i64 0, .int .i64 0, .int .i64 0, .int .i64 0]) }
@[reducible] def Tryz.x174 : TI := { kind := .array 64 3, size := 64, bytes := 512, zero := some (.agg #[.int .i64 0, .int .i64 0, .int .i64 0, .int .i64 0, .int .i64 0, .int .i64 0, .int .i64 0, .int .i64 0, .int .i64 0, .int .i64 0, .int .i64 0, .int .i64 0, .int .i64 0, .int .i64 0, .int .i64 0, .int .i64 0, .int .i64 0, .int .i64 0, .int .i64 0, .int .i64 0, .int .i64 0, .int .i64 0, .int .i64 0, .int .i64 0, .int .i64 0, .int .i64 0, .int .i64 0, .int .i64 0, .int .i64 0, .int .i64 0, .int .i64 0, .int .i64 0, .int .i64 0, .int .i64 0, .int .i64 0, .int .i64 0, .int .i64 0, .int .i64 0, .int .i64 0, .int .i64 0, .int .i64 0, .int .i64 0, .int .i64 0, .int .i64 0, .int .i64 0, .int .i64 0, .int .i64 0, .int .i64 0, .int .i64 0, .int .i64 0, .int .i64 0, .int .i64 0, .int .i64 0, .int .i64 0, .int .i64 0, .int .i64 0, .int .i64 0, .int .i64 0, .int .i64 0, .int .i64 0, .int .i64 0, .int .i64 0, .int .i64 0, .int .i64 0]) }
@[reducible] def Tryz.x176 : TI := { kind := .struct [(0, 3), (1, 174), (65, 174)], size := 129, bytes := 1032, zero := some (.agg #[.int .i64 0, .int .i64 0, .int .i64 0, .int .i64 0, .int .i64 0, .int .i64 0, .int .i64 0, .int .i64 0, .int .i64 0, .int .i64 0, .int .i64 0, .int .i64 0, .int .i64 0, .int .i64 0, .int .i64 0, .int .i64 0, .int .i64 0, .int .i64 0, .int .i64 0, .int .i64 0, .int .i64 0, .int .i64 0, .int .i64 0, .int .i64 0, .int .i64 0, .int .i64 0, .int .i64 0, .int .i64 0, .int .i64 0, .int .i64 0, .int .i64 0, .int .i64 0, .int .i64 0, .int .i64 0, .int .i64 0, .int .i64 0, .int .i64 0, .int .i64 0, .int .i64 0, .int .i64 0, .int .i64 0, .int .i64 0, .int .i64 0, .int .i64 0, .int .i64 0, .int .i64 0, .int .i64 0, .int .i64 0, .int .i64 0, .int .i64 0, .int .i64 0, .int .i64 0, .int .i64 0, .int .i64 0, .int .i64 0, .int .i64 0, .int .i64 0, .int .i64 0, .int .i64 0, .int .i64 0, .int .i64 0, .int .i64 0, .int .i64 0, .int .i64 0, .int .i64 0, .int .i64 0, .int .i64 0, .int .i64 0, .int .i64 0, .int .i64 0, .int .i64 0, .int .i64 0, .int .i64 0, .int .i64 0, .int .i64 0, .int .i64 0, .int .i64 0, .int .i64 0, .int .i64 0, .int .i64 0, .int .i64 0, .int .i64 0, .int .i64 0, .int .i64 0, .int .i64 0, .int .i64 0, .int .i64 0, .int .i64 0, .int .i64 0, .int .i64 0, .int .i64 0, .int .i64 0, .int .i64 0, .int .i64 0, .int .i64 0, .int .i64 0, .int .i64 0, .int .i64 0, .int .i64 0, .int .i64 0, .int .i64 0, .int .i64 0, .int .i64 0, .int .i64 0, .int .i64 0, .int .i64 0, .int .i64 0, .int .i64 0, .int .i64 0, .int .i64 0, .int .i64 0, .int .i64 0, .int .i64 0, .int .i64 0, .int .i64 0, .int .i64 0, .int .i64 0, .int .i64 0, .int .i64 0, .int .i64 0, .int .i64 0, .int .i64 0, .int .i64 0, .int .i64 0, .int .i64 0, .int .i64 0, .int .i64 0, .int .i64 0, .int .i64 0]) }
def Tryz.tabT : TT := (.node (.node (.node (.node (.node (.node .nil 3 Tryz.x3 .nil) 4 Tryz.x4 .nil) 5 Tryz.x5 (.node .nil 9 Tryz.x9 .nil)) 22 Tryz.x22 (.node (.node (.node .nil 27 Tryz.x27 .nil) 28 Tryz.x28 .nil) 29 Tryz.x29 (.node .nil 30 Tryz.x30 .nil))) 32 Tryz.x32 (.node (.node (.node (.node .nil 35 Tryz.x35 .nil) 37 Tryz.x37 .nil) 39 Tryz.x39 (.node .nil 40 Tryz.x40 .nil)) 41 Tryz.x41 (.node (.node .nil 44 Tryz.x44 .nil) 46 Tryz.x46 (.node .nil 50 Tryz.x50 .nil)))) 51 Tryz.x51 (.node (.node (.node (.node (.node .nil 59 Tryz.x59 .nil) 63 Tryz.x63 .nil) 66 Tryz.x66 (.node .nil 73 Tryz.x73 .nil)) 77 Tryz.x77 (.node (.node .nil 86 Tryz.x86 .nil) 88 Tryz.x88 (.node .nil 90 Tryz.x90 .nil))) 102 Tryz.x102 (.node (.node (.node (.node .nil 120 Tryz.x120 .nil) 125 Tryz.x125 .nil) 126 Tryz.x126 (.node .nil 131 Tryz.x131 .nil)) 168 Tryz.x168 (.node (.node .nil 170 Tryz.x170 .nil) 174 Tryz.x174 (.node .nil 176 Tryz.x176 .nil)))))
theorem Tryz.ti3 : tiOf Tryz.prog 3 = some { kind := .int .i64, size := 1, bytes := 8, zero := some (.int .i64 0) } := by kernel_rfl
theorem Tryz.ti4 : tiOf Tryz.prog 4 = some { kind := .bool, size := 1, bytes := 1, zero := some (.bool false) } := by kernel_rfl
theorem Tryz.ti5 : tiOf Tryz.prog 5 = some { kind := .int .u8, size := 1, bytes := 1, zero := some (.int .u8 0) } := by kernel_rfl
theorem Tryz.ti9 : tiOf Tryz.prog 9 = some { kind := .string, size := 1, bytes := 16, zero := some (.string ⟨#[]⟩) } := by kernel_rfl
theorem Tryz.ti22 : tiOf Tryz.prog 22 = some { kind := .slice 3, size := 1, bytes := 24, zero := some (.slice none 0 0) } := by kernel_rfl
theorem Tryz.ti27 : tiOf Tryz.prog 27 = some { kind := .slice 9, size := 1, bytes := 24, zero := some (.slice none 0 0) } := by kernel_rfl
theorem Tryz.ti28 : tiOf Tryz.prog 28 = some { kind := .slice 39, size := 1, bytes := 24, zero := some (.slice none 0 0) } := by kernel_rfl
theorem Tryz.ti29 : tiOf Tryz.prog 29 = some { kind := .slice 90, size := 1, bytes := 24, zero := some (.slice none 0 0) } := by kernel_rfl
theorem Tryz.ti30 : tiOf Tryz.prog 30 = some { kind := .slice 102, size := 1, bytes := 24, zero := some (.slice none 0 0) } := by kernel_rfl
theorem Tryz.ti32 : tiOf Tryz.prog 32 = some { kind := .struct [(0, 27), (1, 28), (2, 29), (3, 30), (4, 3), (5, 3)], size := 6, bytes := 112, zero := some (.agg #[.slice none 0 0, .slice none 0 0, .slice none 0 0, .slice none 0 0, .int .i64 0, .int .i64 0]) } := by kernel_rfl
theorem Tryz.ti35 : tiOf Tryz.prog 35 = some { kind := .slice 66, size := 1, bytes := 24, zero := some (.slice none 0 0) } := by kernel_rfl
theorem Tryz.ti37 : tiOf Tryz.prog 37 = some { kind := .slice 88, size := 1, bytes := 24, zero := some (.slice none 0 0) } := by kernel_rfl
theorem Tryz.ti39 : tiOf Tryz.prog 39 = some { kind := .struct [(0, 9), (1, 3), (2, 3), (3, 3), (4, 3), (5, 3), (6, 37)], size := 7, bytes := 80, zero := some (.agg #[.string ⟨#[]⟩, .int .i64 0, .int .i64 0, .int .i64 0, .int .i64 0, .int .i64 0, .slice none 0 0]) } := by kernel_rfl
theorem Tryz.ti40 : tiOf Tryz.prog 40 = some { kind := .slice 35, size := 1, bytes := 24, zero := some (.slice none 0 0) } := by kernel_rfl
theorem Tryz.ti41 : tiOf Tryz.prog 41 = some { kind := .int .i64, size := 1, bytes := 8, zero := some (.int .i64 0) } := by kernel_rfl
theorem Tryz.ti44 : tiOf Tryz.prog 44 = some { kind := .slice 4, size := 1, bytes := 24, zero := some (.slice none 0 0) } := by kernel_rfl
theorem Tryz.ti46 : tiOf Tryz.prog 46 = some { kind := .struct [(0, 22), (1, 22), (2, 44)], size := 3, bytes := 72, zero := some (.agg #[.slice none 0 0, .slice none 0 0, .slice none 0 0]) } := by kernel_rfl
theorem Tryz.ti50 : tiOf Tryz.prog 50 = some { kind := .struct [(0, 3), (1, 4)], size := 2, bytes := 16, zero := some (.agg #[.int .i64 0, .bool false]) } := by kernel_rfl
theorem Tryz.ti51 : tiOf Tryz.prog 51 = some { kind := .slice 50, size := 1, bytes := 24, zero := some (.slice none 0 0) } := by kernel_rfl
theorem Tryz.ti59 : tiOf Tryz.prog 59 = some { kind := .slice 63, size := 1, bytes := 24, zero := some (.slice none 0 0) } := by kernel_rfl
theorem Tryz.ti63 : tiOf Tryz.prog 63 = some { kind := .struct [(0, 3), (1, 3), (2, 3)], size := 3, bytes := 24, zero := some (.agg #[.int .i64 0, .int .i64 0, .int .i64 0]) } := by kernel_rfl
theorem Tryz.ti66 : tiOf Tryz.prog 66 = some { kind := .struct [(0, 3), (1, 3)], size := 2, bytes := 16, zero := some (.agg #[.int .i64 0, .int .i64 0]) } := by kernel_rfl
theorem Tryz.ti73 : tiOf Tryz.prog 73 = some { kind := .slice 77, size := 1, bytes := 24, zero := some (.slice none 0 0) } := by kernel_rfl
theorem Tryz.ti77 : tiOf Tryz.prog 77 = some { kind := .struct [(0, 3), (1, 3), (2, 51), (3, 3)], size := 4, bytes := 48, zero := some (.agg #[.int .i64 0, .int .i64 0, .slice none 0 0, .int .i64 0]) } := by kernel_rfl
theorem Tryz.ti86 : tiOf Tryz.prog 86 = some { kind := .struct [(0, 22), (1, 3)], size := 2, bytes := 32, zero := some (.agg #[.slice none 0 0, .int .i64 0]) } := by kernel_rfl
theorem Tryz.ti88 : tiOf Tryz.prog 88 = some { kind := .struct [(0, 3), (1, 3), (2, 3)], size := 3, bytes := 24, zero := some (.agg #[.int .i64 0, .int .i64 0, .int .i64 0]) } := by kernel_rfl
theorem Tryz.ti90 : tiOf Tryz.prog 90 = some { kind := .struct [(0, 9), (1, 3), (2, 3)], size := 3, bytes := 32, zero := some (.agg #[.string ⟨#[]⟩, .int .i64 0, .int .i64 0]) } := by kernel_rfl
theorem Tryz.ti102 : tiOf Tryz.prog 102 = some { kind := .struct [(0, 9), (1, 3), (2, 3), (3, 3), (4, 3)], size := 5, bytes := 48, zero := some (.agg #[.string ⟨#[]⟩, .int .i64 0, .int .i64 0, .int .i64 0, .int .i64 0]) } := by kernel_rfl
theorem Tryz.ti120 : tiOf Tryz.prog 120 = some { kind := .array 4 27, size := 4, bytes := 96, zero := some (.agg #[.slice none 0 0, .slice none 0 0, .slice none 0 0, .slice none 0 0]) } := by kernel_rfl
theorem Tryz.ti125 : tiOf Tryz.prog 125 = some { kind := .slice 5, size := 1, bytes := 24, zero := some (.slice none 0 0) } := by kernel_rfl
theorem Tryz.ti126 : tiOf Tryz.prog 126 = some { kind := .other, size := 1, bytes := 8, zero := some (.pointer none) } := by kernel_rfl
theorem Tryz.ti131 : tiOf Tryz.prog 131 = some { kind := .struct [(0, 32), (6, 46), (9, 22), (10, 22), (11, 40), (12, 40), (13, 40)], size := 14, bytes := 304, zero := some (.agg #[.slice none 0 0, .slice none 0 0, .slice none 0 0, .slice none 0 0, .int .i64 0, .int .i64 0, .slice none 0 0, .slice none 0 0, .slice none 0 0, .slice none 0 0, .slice none 0 0, .slice none 0 0, .slice none 0 0, .slice none 0 0]) } := by kernel_rfl
theorem Tryz.ti168 : tiOf Tryz.prog 168 = some { kind := .array 24 3, size := 24, bytes := 192, zero := some (.agg #[.int .i64 0, .int .i64 0, .int .i64 0, .int .i64 0, .int .i64 0, .int .i64 0, .int .i64 0, .int .i64 0, .int .i64 0, .int .i64 0, .int .i64 0, .int .i64 0, .int .i64 0, .int .i64 0, .int .i64 0, .int .i64 0, .int .i64 0, .int .i64 0, .int .i64 0, .int .i64 0, .int .i64 0, .int .i64 0, .int .i64 0, .int .i64 0]) } := by kernel_rfl
theorem Tryz.ti170 : tiOf Tryz.prog 170 = some { kind := .struct [(0, 168), (24, 168)], size := 48, bytes := 384, zero := some (.agg #[.int .i64 0, .int .i64 0, .int .i64 0, .int .i64 0, .int .i64 0, .int .i64 0, .int .i64 0, .int .i64 0, .int .i64 0, .int .i64 0, .int .i64 0, .int .i64 0, .int .i64 0, .int .i64 0, .int .i64 0, .int .i64 0, .int .i64 0, .int .i64 0, .int .i64 0, .int .i64 0, .int .i64 0, .int .i64 0, .int .i64 0, .int .i64 0, .int .i64 0, .int .i64 0, .int .i64 0, .int .i64 0, .int .i64 0, .int .i64 0, .int .i64 0, .int .i64 0, .int .i64 0, .int .i64 0, .int .i64 0, .int .i64 0, .int .i64 0, .int .i64 0, .int .i64 0, .int .i64 0, .int .i64 0, .int .i64 0, .int .i64 0, .int .i64 0, .int .i64 0, .int .i64 0, .int .i64 0, .int .i64 0]) } := by kernel_rfl
theorem Tryz.ti174 : tiOf Tryz.prog 174 = some { kind := .array 64 3, size := 64, bytes := 512, zero := some (.agg #[.int .i64 0, .int .i64 0, .int .i64 0, .int .i64 0, .int .i64 0, .int .i64 0, .int .i64 0, .int .i64 0, .int .i64 0, .int .i64 0, .int .i64 0, .int .i64 0, .int .i64 0, .int .i64 0, .int .i64 0, .int .i64 0, .int .i64 0, .int .i64 0, .int .i64 0, .int .i64 0, .int .i64 0, .int .i64 0, .int .i64 0, .int .i64 0, .int .i64 0, .int .i64 0, .int .i64 0, .int .i64 0, .int .i64 0, .int .i64 0, .int .i64 0, .int .i64 0, .int .i64 0, .int .i64 0, .int .i64 0, .int .i64 0, .int .i64 0, .int .i64 0, .int .i64 0, .int .i64 0, .int .i64 0, .int .i64 0, .int .i64 0, .int .i64 0, .int .i64 0, .int .i64 0, .int .i64 0, .int .i64 0, .int .i64 0, .int .i64 0, .int .i64 0, .int .i64 0, .int .i64 0, .int .i64 0, .int .i64 0, .int .i64 0, .int .i64 0, .int .i64 0, .int .i64 0, .int .i64 0, .int .i64 0, .int .i64 0, .int .i64 0, .int .i64 0]) } := by kernel_rfl
theorem Tryz.ti176 : tiOf Tryz.prog 176 = some { kind := .struct [(0, 3), (1, 174), (65, 174)], size := 129, bytes := 1032, zero := some (.agg #[.int .i64 0, .int .i64 0, .int .i64 0, .int .i64 0, .int .i64 0, .int .i64 0, .int .i64 0, .int .i64 0, .int .i64 0, .int .i64 0, .int .i64 0, .int .i64 0, .int .i64 0, .int .i64 0, .int .i64 0, .int .i64 0, .int .i64 0, .int .i64 0, .int .i64 0, .int .i64 0, .int .i64 0, .int .i64 0, .int .i64 0, .int .i64 0, .int .i64 0, .int .i64 0, .int .i64 0, .int .i64 0, .int .i64 0, .int .i64 0, .int .i64 0, .int .i64 0, .int .i64 0, .int .i64 0, .int .i64 0, .int .i64 0, .int .i64 0, .int .i64 0, .int .i64 0, .int .i64 0, .int .i64 0, .int .i64 0, .int .i64 0, .int .i64 0, .int .i64 0, .int .i64 0, .int .i64 0, .int .i64 0, .int .i64 0, .int .i64 0, .int .i64 0, .int .i64 0, .int .i64 0, .int .i64 0, .int .i64 0, .int .i64 0, .int .i64 0, .int .i64 0, .int .i64 0, .int .i64 0, .int .i64 0, .int .i64 0, .int .i64 0, .int .i64 0, .int .i64 0, .int .i64 0, .int .i64 0, .int .i64 0, .int .i64 0, .int .i64 0, .int .i64 0, .int .i64 0, .int .i64 0, .int .i64 0, .int .i64 0, .int .i64 0, .int .i64 0, .int .i64 0, .int .i64 0, .int .i64 0, .int .i64 0, .int .i64 0, .int .i64 0, .int .i64 0, .int .i64 0, .int .i64 0, .int .i64 0, .int .i64 0, .int .i64 0, .int .i64 0, .int .i64 0, .int .i64 0, .int .i64 0, .int .i64 0, .int .i64 0, .int .i64 0, .int .i64 0, .int .i64 0, .int .i64 0, .int .i64 0, .int .i64 0, .int .i64 0, .int .i64 0, .int .i64 0, .int .i64 0, .int .i64 0, .int .i64 0, .int .i64 0, .int .i64 0, .int .i64 0, .int .i64 0, .int .i64 0, .int .i64 0, .int .i64 0, .int .i64 0, .int .i64 0, .int .i64 0, .int .i64 0, .int .i64 0, .int .i64 0, .int .i64 0, .int .i64 0, .int .i64 0, .int .i64 0, .int .i64 0, .int .i64 0, .int .i64 0, .int .i64 0, .int .i64 0]) } := by kernel_rfl
theorem Tryz.tabAll : allTT Tryz.prog Tryz.tabT :=
 ⟨⟨⟨⟨⟨⟨trivial, Tryz.ti3, trivial⟩, Tryz.ti4, trivial⟩, Tryz.ti5, ⟨trivial, Tryz.ti9, trivial⟩⟩, Tryz.ti22, ⟨⟨⟨trivial, Tryz.ti27, trivial⟩, Tryz.ti28, trivial⟩, Tryz.ti29, ⟨trivial, Tryz.ti30, trivial⟩⟩⟩, Tryz.ti32, ⟨⟨⟨⟨trivial, Tryz.ti35, trivial⟩, Tryz.ti37, trivial⟩, Tryz.ti39, ⟨trivial, Tryz.ti40, trivial⟩⟩, Tryz.ti41, ⟨⟨trivial, Tryz.ti44, trivial⟩, Tryz.ti46, ⟨trivial, Tryz.ti50, trivial⟩⟩⟩⟩, Tryz.ti51, ⟨⟨⟨⟨⟨trivial, Tryz.ti59, trivial⟩, Tryz.ti63, trivial⟩, Tryz.ti66, ⟨trivial, Tryz.ti73, trivial⟩⟩, Tryz.ti77, ⟨⟨trivial, Tryz.ti86, trivial⟩, Tryz.ti88, ⟨trivial, Tryz.ti90, trivial⟩⟩⟩, Tryz.ti102, ⟨⟨⟨⟨trivial, Tryz.ti120, trivial⟩, Tryz.ti125, trivial⟩, Tryz.ti126, ⟨trivial, Tryz.ti131, trivial⟩⟩, Tryz.ti168, ⟨⟨trivial, Tryz.ti170, trivial⟩, Tryz.ti174, ⟨trivial, Tryz.ti176, trivial⟩⟩⟩⟩⟩
theorem Tryz.mixed : Tryz.prog.follows .mixedOrders = true := by kernel_rfl
theorem Tryz.tabOk (t : Nat) (i : TI) (h : getTT Tryz.tabT t = some i) : tiOf Tryz.prog t = some i := getTT_ok Tryz.tabAll h
noncomputable def Tryz.env : Env := ⟨Tryz.prog, getTT Tryz.tabT, Tryz.tabOk, Tryz.mixed⟩
theorem Tryz.bld32 : Bld Tryz.env 32 [(0, 1), (1, 1), (2, 1), (3, 1), (4, 1), (5, 1)] [.v (.slice none 0 0), .v (.slice none 0 0), .v (.slice none 0 0), .v (.slice none 0 0), .v (.int .i64 0), .v (.int .i64 0)] := ⟨⟨_, _, _, rfl, rfl, rfl, rfl, rfl, rfl, rfl⟩⟩
theorem Tryz.bld39 : Bld Tryz.env 39 [(0, 1), (1, 1), (2, 1), (3, 1), (4, 1), (5, 1), (6, 1)] [.v (.string ⟨#[]⟩), .v (.int .i64 0), .v (.int .i64 0), .v (.int .i64 0), .v (.int .i64 0), .v (.int .i64 0), .v (.slice none 0 0)] := ⟨⟨_, _, _, rfl, rfl, rfl, rfl, rfl, rfl, rfl⟩⟩
theorem Tryz.bld46 : Bld Tryz.env 46 [(0, 1), (1, 1), (2, 1)] [.v (.slice none 0 0), .v (.slice none 0 0), .v (.slice none 0 0)] := ⟨⟨_, _, _, rfl, rfl, rfl, rfl, rfl, rfl, rfl⟩⟩
theorem Tryz.bld50 : Bld Tryz.env 50 [(0, 1), (1, 1)] [.v (.int .i64 0), .v (.bool false)] := ⟨⟨_, _, _, rfl, rfl, rfl, rfl, rfl, rfl, rfl⟩⟩
theorem Tryz.bld63 : Bld Tryz.env 63 [(0, 1), (1, 1), (2, 1)] [.v (.int .i64 0), .v (.int .i64 0), .v (.int .i64 0)] := ⟨⟨_, _, _, rfl, rfl, rfl, rfl, rfl, rfl, rfl⟩⟩
theorem Tryz.bld66 : Bld Tryz.env 66 [(0, 1), (1, 1)] [.v (.int .i64 0), .v (.int .i64 0)] := ⟨⟨_, _, _, rfl, rfl, rfl, rfl, rfl, rfl, rfl⟩⟩
theorem Tryz.bld86 : Bld Tryz.env 86 [(0, 1), (1, 1)] [.v (.slice none 0 0), .v (.int .i64 0)] := ⟨⟨_, _, _, rfl, rfl, rfl, rfl, rfl, rfl, rfl⟩⟩
theorem Tryz.bld88 : Bld Tryz.env 88 [(0, 1), (1, 1), (2, 1)] [.v (.int .i64 0), .v (.int .i64 0), .v (.int .i64 0)] := ⟨⟨_, _, _, rfl, rfl, rfl, rfl, rfl, rfl, rfl⟩⟩
theorem Tryz.bld90 : Bld Tryz.env 90 [(0, 1), (1, 1), (2, 1)] [.v (.string ⟨#[]⟩), .v (.int .i64 0), .v (.int .i64 0)] := ⟨⟨_, _, _, rfl, rfl, rfl, rfl, rfl, rfl, rfl⟩⟩
theorem Tryz.bld131 : Bld Tryz.env 131 [(0, 6), (6, 3), (9, 1), (10, 1), (11, 1), (12, 1), (13, 1)] [.v (.slice none 0 0), .v (.slice none 0 0), .v (.slice none 0 0), .v (.slice none 0 0), .v (.int .i64 0), .v (.int .i64 0), .v (.slice none 0 0), .v (.slice none 0 0), .v (.slice none 0 0), .v (.slice none 0 0), .v (.slice none 0 0), .v (.slice none 0 0), .v (.slice none 0 0), .v (.slice none 0 0)] := ⟨⟨_, _, _, rfl, rfl, rfl, rfl, rfl, rfl, rfl⟩⟩
theorem Tryz.bld176 : Bld Tryz.env 176 [(0, 1), (1, 64), (65, 64)] [.v (.int .i64 0), .v (.int .i64 0), .v (.int .i64 0), .v (.int .i64 0), .v (.int .i64 0), .v (.int .i64 0), .v (.int .i64 0), .v (.int .i64 0), .v (.int .i64 0), .v (.int .i64 0), .v (.int .i64 0), .v (.int .i64 0), .v (.int .i64 0), .v (.int .i64 0), .v (.int .i64 0), .v (.int .i64 0), .v (.int .i64 0), .v (.int .i64 0), .v (.int .i64 0), .v (.int .i64 0), .v (.int .i64 0), .v (.int .i64 0), .v (.int .i64 0), .v (.int .i64 0), .v (.int .i64 0), .v (.int .i64 0), .v (.int .i64 0), .v (.int .i64 0), .v (.int .i64 0), .v (.int .i64 0), .v (.int .i64 0), .v (.int .i64 0), .v (.int .i64 0), .v (.int .i64 0), .v (.int .i64 0), .v (.int .i64 0), .v (.int .i64 0), .v (.int .i64 0), .v (.int .i64 0), .v (.int .i64 0), .v (.int .i64 0), .v (.int .i64 0), .v (.int .i64 0), .v (.int .i64 0), .v (.int .i64 0), .v (.int .i64 0), .v (.int .i64 0), .v (.int .i64 0), .v (.int .i64 0), .v (.int .i64 0), .v (.int .i64 0), .v (.int .i64 0), .v (.int .i64 0), .v (.int .i64 0), .v (.int .i64 0), .v (.int .i64 0), .v (.int .i64 0), .v (.int .i64 0), .v (.int .i64 0), .v (.int .i64 0), .v (.int .i64 0), .v (.int .i64 0), .v (.int .i64 0), .v (.int .i64 0), .v (.int .i64 0), .v (.int .i64 0), .v (.int .i64 0), .v (.int .i64 0), .v (.int .i64 0), .v (.int .i64 0), .v (.int .i64 0), .v (.int .i64 0), .v (.int .i64 0), .v (.int .i64 0), .v (.int .i64 0), .v (.int .i64 0), .v (.int .i64 0), .v (.int .i64 0), .v (.int .i64 0), .v (.int .i64 0), .v (.int .i64 0), .v (.int .i64 0), .v (.int .i64 0), .v (.int .i64 0), .v (.int .i64 0), .v (.int .i64 0), .v (.int .i64 0), .v (.int .i64 0), .v (.int .i64 0), .v (.int .i64 0), .v (.int .i64 0), .v (.int .i64 0), .v (.int .i64 0), .v (.int .i64 0), .v (.int .i64 0), .v (.int .i64 0), .v (.int .i64 0), .v (.int .i64 0), .v (.int .i64 0), .v (.int .i64 0), .v (.int .i64 0), .v (.int .i64 0), .v (.int .i64 0), .v (.int .i64 0), .v (.int .i64 0), .v (.int .i64 0), .v (.int .i64 0), .v (.int .i64 0), .v (.int .i64 0), .v (.int .i64 0), .v (.int .i64 0), .v (.int .i64 0), .v (.int .i64 0), .v (.int .i64 0), .v (.int .i64 0), .v (.int .i64 0), .v (.int .i64 0), .v (.int .i64 0), .v (.int .i64 0), .v (.int .i64 0), .v (.int .i64 0), .v (.int .i64 0), .v (.int .i64 0), .v (.int .i64 0), .v (.int .i64 0), .v (.int .i64 0), .v (.int .i64 0), .v (.int .i64 0), .v (.int .i64 0)] := ⟨⟨_, _, _, rfl, rfl, rfl, rfl, rfl, rfl, rfl⟩⟩
theorem Tryz.eq66 : eqOk Tryz.prog 66 = true := by kernel_rfl
theorem Tryz.eq168 : eqOkA Tryz.prog 168 = true := by kernel_rfl
set_option linter.unusedVariables false
set_option linter.unusedSimpArgs false
structure Point where
 At : Int
 Height : Int
 Limit : Int
 deriving DecidableEq
def Point.row (x : Point) : List T := [.v (.int .i64 x.At), .v (.int .i64 x.Height), .v (.int .i64 x.Limit)]
structure Segment where
 Name : ByteArray
 From : Int
 To : Int
 Capacity : Int
 Resist : Int
 Wave : Int
 Points : List Point
 deriving DecidableEq
def Segment.row (x : Segment) : List T := [.v (.string x.Name), .v (.int .i64 x.From), .v (.int .i64 x.To), .v (.int .i64 x.Capacity), .v (.int .i64 x.Resist), .v (.int .i64 x.Wave), .list 3 (x.Points.map Point.row)]
structure Port where
 Name : ByteArray
 Node : Int
 Pressure : Int
 deriving DecidableEq
def Port.row (x : Port) : List T := [.v (.string x.Name), .v (.int .i64 x.Node), .v (.int .i64 x.Pressure)]
structure Station where
 Name : ByteArray
 Node : Int
 Head : Int
 Fall : Int
 Suction : Int
 deriving DecidableEq
def Station.row (x : Station) : List T := [.v (.string x.Name), .v (.int .i64 x.Node), .v (.int .i64 x.Head), .v (.int .i64 x.Fall), .v (.int .i64 x.Suction)]
structure Network where
 Nodes : List ByteArray
 Segments : List Segment
 Ports : List Port
 Stations : List Station
 Vapour : Int
 Settle : Int
 deriving DecidableEq
def Network.row (x : Network) : List T := [.list 1 (x.Nodes.map rS), .list 7 (x.Segments.map Segment.row), .list 3 (x.Ports.map Port.row), .list 5 (x.Stations.map Station.row), .v (.int .i64 x.Vapour), .v (.int .i64 x.Settle)]
structure Plan where
 Rates : List Int
 Ports : List Int
 Pumps : List Bool
 deriving DecidableEq
def Plan.row (x : Plan) : List T := [.list 1 (x.Rates.map rI), .list 1 (x.Ports.map rI), .list 1 (x.Pumps.map rB)]
structure flow_streams where
 come : Arr Int 24
 leave : Arr Int 24
 deriving DecidableEq
def flow_streams.row (x : flow_streams) : List T := x.come.l.map cI ++ (x.leave.l.map cI ++ [])
structure KS where
 L_ : List Int
 At : Int
 deriving DecidableEq
def KS.row (x : KS) : List T := [.list 1 (x.L_.map rI), .v (.int .i64 x.At)]
def L.ztzg (a : Segment) (b : Int) : (Int × Int) := if decide (b < 0) = true then (a.To, a.From) else (a.From, a.To)
def L.zqkj (a : Int) (b : Int) : Bool := (decide (a ≥ (wr (0 - b))) && decide (a ≤ b))
def L.zbjp.J1 (a : Int) : Option Int := some a
def L.zbjp (c : Int) (a : Int) : Option Int := if decide (a < 1) = true then some 0 else (rem? c a).bind fun b => if decide (b < 0) = true then L.zbjp.J1 (wr (b + a)) else L.zbjp.J1 b
def L.zvhs (a : Int) (b : Int) (c : Int) : Bool := (decide (a ≥ b) && decide (a ≤ c))
def L.zsbv.J1 (a : Unit) : Option Int := some (-1)
def L.zsbv.B2 (a : ByteArray) (b : Nat) (c : ByteArray) (d : Unit) : Option (Unit ⊕ (Int)) := if sEq a c = true then some ((.inr ((b : Int)))) else some (.inl ())
def L.zsbv (a : List ByteArray) (b : ByteArray) : Option Int := (forL (L.zsbv.B2 b) 0 a ()).bind fun c => Sum.elim (fun e => L.zsbv.J1 ()) (fun d => some d) c
def L.zapw.J1 (a : Unit) : Option Int := some (-1)
def L.zapw.B2 (a : Int → Option Bool) (b : Nat) (c : Int) (e : Unit) : Option (Unit ⊕ (Int)) := (a c).bind fun d => if d = true then some ((.inr ((b : Int)))) else some (.inl ())
def L.zapw (a : List Int) (b : Int → Option Bool) : Option Int := (forL (L.zapw.B2 b) 0 a ()).bind fun c => Sum.elim (fun e => L.zapw.J1 ()) (fun d => some d) c
def L.zvoj (a : List Int) (b : Int → Option Bool) : Option Bool := (L.zapw a b).bind fun c => some (decide (c ≥ 0))
def L.zqyu.J1 (a : Unit) : Option Int := some (-1)
def L.zqyu.B2 (a : ByteArray → Option Bool) (b : Nat) (c : ByteArray) (e : Unit) : Option (Unit ⊕ (Int)) := (a c).bind fun d => if d = true then some ((.inr ((b : Int)))) else some (.inl ())
def L.zqyu (a : List ByteArray) (b : ByteArray → Option Bool) : Option Int := (forL (L.zqyu.B2 b) 0 a ()).bind fun c => Sum.elim (fun e => L.zqyu.J1 ()) (fun d => some d) c
def L.zmkj (a : List ByteArray) (b : ByteArray → Option Bool) : Option Bool := (L.zqyu a b).bind fun c => some (decide (c ≥ 0))
def L.zbuy.J1 (a : Unit) : Option Int := some (-1)
def L.zbuy.B2 (a : Segment → Option Bool) (b : Nat) (c : Segment) (e : Unit) : Option (Unit ⊕ (Int)) := (a c).bind fun d => if d = true then some ((.inr ((b : Int)))) else some (.inl ())
def L.zbuy (a : List Segment) (b : Segment → Option Bool) : Option Int := (forL (L.zbuy.B2 b) 0 a ()).bind fun c => Sum.elim (fun e => L.zbuy.J1 ()) (fun d => some d) c
def L.zwuu (a : List Segment) (b : Segment → Option Bool) : Option Bool := (L.zbuy a b).bind fun c => some (decide (c ≥ 0))
def L.zobp.J1 (a : Unit) : Option Int := some (-1)
def L.zobp.B2 (a : Port → Option Bool) (b : Nat) (c : Port) (e : Unit) : Option (Unit ⊕ (Int)) := (a c).bind fun d => if d = true then some ((.inr ((b : Int)))) else some (.inl ())
def L.zobp (a : List Port) (b : Port → Option Bool) : Option Int := (forL (L.zobp.B2 b) 0 a ()).bind fun c => Sum.elim (fun e => L.zobp.J1 ()) (fun d => some d) c
def L.zdru (a : List Port) (b : Port → Option Bool) : Option Bool := (L.zobp a b).bind fun c => some (decide (c ≥ 0))
def L.zywf.J1 (a : Unit) : Option Int := some (-1)
def L.zywf.B2 (a : Station → Option Bool) (b : Nat) (c : Station) (e : Unit) : Option (Unit ⊕ (Int)) := (a c).bind fun d => if d = true then some ((.inr ((b : Int)))) else some (.inl ())
def L.zywf (a : List Station) (b : Station → Option Bool) : Option Int := (forL (L.zywf.B2 b) 0 a ()).bind fun c => Sum.elim (fun e => L.zywf.J1 ()) (fun d => some d) c
def L.ztlc (a : List Station) (b : Station → Option Bool) : Option Bool := (L.zywf a b).bind fun c => some (decide (c ≥ 0))
def L.zzec (a : Segment) : Bool := (decide ((a.Points.length : Int) < 2) || decide ((a.Points.length : Int) > 8))
def L.znhd (a : Network) : Option Bool := if (decide ((a.Nodes.length : Int) < 1) || (decide ((a.Nodes.length : Int) > 24) || (decide ((a.Segments.length : Int) > 32) || (decide ((a.Ports.length : Int) > 24) || decide ((a.Stations.length : Int) > 12))))) = true then some false else (L.zwuu a.Segments (fun x => some (L.zzec x))).bind fun b => some (!b)
def L.zsgw.J1 (a : List Int) : Option (List Int) := some a
def L.zsgw.J3 (a : (List Int) × (List Bool) × Int) : Option (((List Int) × (List Bool) × Int) ⊕ ((List Int))) := some (.inl (a.1, a.2.1, wr (a.2.2 + 1)))
def L.zsgw.J4 (a : (List Int) × (List Bool) × Int) (b : Nat × Bool) (d : Unit) : Option (((List Int) × (List Bool) × Int) ⊕ ((List Int))) := (app? a.1 ([a.2.2] : List Int)).bind fun c => L.zsgw.J3 (c, (a.2.1.set b.1 true), (-1))
def L.zsgw.J6 (a : (List Int) × (List Bool) × Int) (b : Bool) : Option (Unit ⊕ (((List Int) × (List Bool) × Int))) := if b = true then some ((.inr ((a.1, a.2.1, a.2.2)))) else some (.inl ())
def L.zsgw.B5 (d : Plan) (a : (List Int) × (List Bool) × Int) (e : Nat) (c : Segment) (g : Unit) : Option (Unit ⊕ (((List Int) × (List Bool) × Int))) := (ix d.Rates (e : Int)).bind fun b => if (b.2 != 0) = true then if (((L.ztzg c b.2).2) == a.2.2) = true then (ix a.2.1 ((L.ztzg c b.2).1)).bind fun f => L.zsgw.J6 a (!f.2) else L.zsgw.J6 a false else L.zsgw.J6 a false
def L.zsgw.B2 (b : Network) (d : Plan) (a : (List Int) × (List Bool) × Int) : Option (((List Int) × (List Bool) × Int) ⊕ ((List Int))) := if decide (a.2.2 < (b.Nodes.length : Int)) = true then (ix a.2.1 a.2.2).bind fun c => if c.2 = true then L.zsgw.J3 (a.1, a.2.1, a.2.2) else (forL (L.zsgw.B5 d a) 0 b.Segments ()).bind fun e => Sum.elim (fun g => L.zsgw.J4 a c ()) (fun f => L.zsgw.J3 f) e else some ((.inr (a.1)))
def L.zsgw (a : Network) (b : Plan) : Option (List Int) := (mk? (a.Nodes.length : Int) false).bind fun c => (loopN (L.zsgw.B2 a b) lots ([], c, 0)).bind fun d => L.zsgw.J1 d
def L.zfnd.J1 (a : Unit) : Int := 2
def L.zfnd (a : Int) : Int := if (decide (a ≥ 97) && decide (a ≤ 122)) = true then 1 else if (decide (a ≥ 48) && decide (a ≤ 57)) = true then L.zfnd.J1 () else if (a == 45) = true then L.zfnd.J1 () else 0
def L.zcvq.J2 (a : Unit) : Option Bool := some true
def L.zcvq.B3 (a : ByteArray) (b : Nat) (d : Unit) : Option (Unit ⊕ (Bool)) := (ixs a (b : Int)).bind fun c => if ((L.zfnd c.2) == 0) = true then some ((.inr (false))) else some (.inl ())
def L.zcvq.J1 (a : ByteArray) (b : Bool) : Option Bool := if b = true then some false else (chk ((a.size : Int) ≤ 9223372036854775806)).bind fun e => (forI (L.zcvq.B3 a) 0 ((a.size : Int).toNat) ()).bind fun c => Sum.elim (fun f => L.zcvq.J2 ()) (fun d => some d) c
def L.zcvq (a : ByteArray) : Option Bool := if decide ((a.size : Int) < 1) = true then L.zcvq.J1 a true else if decide ((a.size : Int) > 12) = true then L.zcvq.J1 a true else (ixs a 0).bind fun b => L.zcvq.J1 a ((L.zfnd b.2) != 1)
def L.zalp.J3 (a : Network) (b : List ByteArray) (c : List ByteArray) (d : List ByteArray) : Option (Arr (List ByteArray) 4) := some (⟨[a.Nodes, b, c, d], rfl⟩ : Arr (List ByteArray) 4)
def L.zalp.B4 (d : Nat) (a : Station) (b : List ByteArray) : Option (List ByteArray) := (app? b ([a.Name] : List ByteArray)).bind fun c => some c
def L.zalp.J2 (a : Network) (b : List ByteArray) (c : List ByteArray) : Option (Arr (List ByteArray) 4) := (forS L.zalp.B4 0 a.Stations []).bind fun d => L.zalp.J3 a b c d
def L.zalp.B5 (d : Nat) (a : Port) (b : List ByteArray) : Option (List ByteArray) := (app? b ([a.Name] : List ByteArray)).bind fun c => some c
def L.zalp.J1 (a : Network) (b : List ByteArray) : Option (Arr (List ByteArray) 4) := (forS L.zalp.B5 0 a.Ports []).bind fun c => L.zalp.J2 a b c
def L.zalp.B6 (d : Nat) (a : Segment) (b : List ByteArray) : Option (List ByteArray) := (app? b ([a.Name] : List ByteArray)).bind fun c => some c
def L.zalp (a : Network) : Option (Arr (List ByteArray) 4) := (forS L.zalp.B6 0 a.Segments []).bind fun b => L.zalp.J1 a b
def L.zsgv (a : Station) (b : Station) : Bool := (a.Node == b.Node)
def L.zybm.J2 (a : Unit) : Option Bool := some false
def L.zybm.B3 (a : Network) (b : Nat) (c : Station) (e : Unit) : Option (Unit ⊕ (Bool)) := (L.zywf a.Stations (fun x => some (L.zsgv x c))).bind fun d => if decide (d < (b : Int)) = true then some ((.inr (true))) else some (.inl ())
def L.zybm.J1 (a : Network) (d : Unit) : Option Bool := (forL (L.zybm.B3 a) 0 a.Stations ()).bind fun b => Sum.elim (fun e => L.zybm.J2 ()) (fun c => some c) b
def L.zybm.J5 (a : Unit) : Option (Unit ⊕ (Bool)) := some (.inl ())
def L.zybm.B6 (a : Nat × (List ByteArray)) (b : Nat) (c : ByteArray) (e : Unit) : Option (Unit ⊕ (Bool)) := (L.zsbv a.2 c).bind fun d => if decide (d < (b : Int)) = true then some ((.inr (true))) else some (.inl ())
def L.zybm.B4 (b : Arr (List ByteArray) 4) (c : Nat) (f : Unit) : Option (Unit ⊕ (Bool)) := (ix b.l (c : Int)).bind fun a => (forL (L.zybm.B6 a) 0 a.2 ()).bind fun d => Sum.elim (fun g => L.zybm.J5 ()) (fun e => some ((.inr (e)))) d
def L.zybm (a : Network) : Option Bool := (L.zalp a).bind fun b => (forI (L.zybm.B4 b) 0 4 ()).bind fun c => Sum.elim (fun e => L.zybm.J1 a ()) (fun d => some d) c
def L.zxqi (a : Int) (b : Network) : Bool := (decide (a < 0) || decide (a ≥ (b.Nodes.length : Int)))
def L.zctd.J3 (a : Network) (b : List Int) : Option Bool := (L.zvoj b (fun x => some (L.zxqi x a))).bind fun c => some (!c)
def L.zctd.B4 (d : Nat) (a : Station) (b : List Int) : Option (List Int) := (app? b ([a.Node] : List Int)).bind fun c => some c
def L.zctd.J2 (a : Network) (b : List Int) : Option Bool := (forS L.zctd.B4 0 a.Stations b).bind fun c => L.zctd.J3 a c
def L.zctd.B5 (d : Nat) (a : Port) (b : List Int) : Option (List Int) := (app? b ([a.Node] : List Int)).bind fun c => some c
def L.zctd.J1 (a : Network) (b : List Int) : Option Bool := (forS L.zctd.B5 0 a.Ports b).bind fun c => L.zctd.J2 a c
def L.zctd.B6 (d : Nat) (a : Segment) (b : List Int) : Option (List Int) := (app? b ([a.From, a.To] : List Int)).bind fun c => some c
def L.zctd (a : Network) : Option Bool := (forS L.zctd.B6 0 a.Segments []).bind fun b => L.zctd.J1 a b
def L.zcxq.J2 (a : Bool) : Option Bool := some a
def L.zcxq.J1 (a : Segment) (d : Unit) : Option Bool := (ix a.Points 0).bind fun b => if (b.2.At == 0) = true then (ix a.Points (wr ((a.Points.length : Int) - 1))).bind fun c => L.zcxq.J2 (c.2.At == a.Capacity) else L.zcxq.J2 false
def L.zcxq.J4 (a : Bool) : Option (Unit ⊕ (Bool)) := if a = true then some ((.inr (false))) else some (.inl ())
def L.zcxq.B3 (c : Segment) (b : Nat) (a : Point) (e : Unit) : Option (Unit ⊕ (Bool)) := if (!(L.zvhs a.Height (-500) 5000)) = true then L.zcxq.J4 true else if (!(L.zvhs a.Limit 0 100000000)) = true then L.zcxq.J4 true else if decide ((b : Int) > 0) = true then (ix c.Points (wr ((b : Int) - 1))).bind fun d => L.zcxq.J4 (decide (a.At ≤ d.2.At)) else L.zcxq.J4 false
def L.zcxq (a : Segment) : Option Bool := if ((a.From == a.To) || ((!(L.zvhs a.Capacity 1 1000000)) || ((!(L.zvhs a.Resist 0 1000)) || (!(L.zvhs a.Wave 0 100000))))) = true then some false else (forL (L.zcxq.B3 a) 0 a.Points ()).bind fun b => Sum.elim (fun d => L.zcxq.J1 a ()) (fun c => some c) b
def L.zyto (a : Segment) : Option Bool := (L.zcxq a).bind fun b => some (!b)
def L.zxcm (a : Port) : Bool := (!(L.zvhs a.Pressure 0 100000000))
def L.zeku (a : Station) : Bool := ((!(L.zvhs a.Head 0 100000000)) || ((!(L.zvhs a.Fall 0 100000)) || (!(L.zvhs a.Suction 0 100000000))))
def L.zdqn (a : Network) : Option Bool := (L.zwuu a.Segments (fun x => L.zyto x)).bind fun b => if b = true then some false else (L.zdru a.Ports (fun x => some (L.zxcm x))).bind fun c => if c = true then some false else (L.ztlc a.Stations (fun x => some (L.zeku x))).bind fun d => if d = true then some false else some ((L.zvhs a.Vapour (-100000) 100000000) && (L.zvhs a.Settle 0 100))
def L.zqbg (a : ByteArray) : Option Bool := (L.zcvq a).bind fun b => some (!b)
def L.zfta.J1 (a : Network) (e : Unit) : Option Int := (L.zybm a).bind fun b => if b = true then some 7 else (L.zctd a).bind fun c => if (!c) = true then some 8 else (L.zdqn a).bind fun d => if (!d) = true then some 9 else some 0
def L.zfta.B2 (a : Arr (List ByteArray) 4) (b : Nat) (e : Unit) : Option (Unit ⊕ (Int)) := (ix a.l (b : Int)).bind fun c => (L.zmkj c.2 (fun x => L.zqbg x)).bind fun d => if d = true then some ((.inr (3))) else some (.inl ())
def L.zfta (a : Network) : Option Int := (L.znhd a).bind fun b => if (!b) = true then some 4 else (L.zalp a).bind fun c => (forI (L.zfta.B2 c) 0 4 ()).bind fun d => Sum.elim (fun f => L.zfta.J1 a ()) (fun e => some e) d
def L.zuui.J2 (a : flow_streams) (b : Int × Int × Int) (c : Arr Int 24) : Option flow_streams := if decide (b.2.1 ≥ 0) = true then (ix a.come.l b.2.1).bind fun d => some (⟨(a.come.set d.1 (wr (d.2 + b.2.2))), c⟩ : flow_streams) else some (⟨a.come, c⟩ : flow_streams)
def L.zuui.J1 (a : flow_streams) (b : Int × Int × Int) : Option flow_streams := if decide (b.1 ≥ 0) = true then (ix a.leave.l b.1).bind fun c => L.zuui.J2 a b (a.leave.set c.1 (wr (c.2 + b.2.2))) else L.zuui.J2 a b a.leave
def L.zuui (b : flow_streams) (c : Int) (d : Int) (a : Int) : Option flow_streams := if decide (a < 0) = true then L.zuui.J1 b (d, c, wr (0 - a)) else L.zuui.J1 b (c, d, a)
def L.zzkf.J2 (a : (Arr Int 24) × (Arr Int 24)) : Option flow_streams := some (⟨a.1, a.2⟩ : flow_streams)
def L.zzkf.B3 (c : Plan) (d : Nat) (e : Port) (a : (Arr Int 24) × (Arr Int 24)) : Option ((Arr Int 24) × (Arr Int 24)) := (ix c.Ports (d : Int)).bind fun f => (L.zuui (⟨a.1, a.2⟩ : flow_streams) (-1) e.Node f.2).bind fun b => some (b.come, b.leave)
def L.zzkf.J1 (c : Network) (d : Plan) (a : (Arr Int 24) × (Arr Int 24)) : Option flow_streams := (forS (L.zzkf.B3 d) 0 c.Ports (a.1, a.2)).bind fun b => L.zzkf.J2 (b.1, b.2)
def L.zzkf.B4 (d : Plan) (e : Nat) (a : Segment) (b : (Arr Int 24) × (Arr Int 24)) : Option ((Arr Int 24) × (Arr Int 24)) := (ix d.Rates (e : Int)).bind fun f => (L.zuui (⟨b.1, b.2⟩ : flow_streams) a.From a.To f.2).bind fun c => some (c.come, c.leave)
def L.zzkf (a : Network) (b : Plan) : Option flow_streams := (forS (L.zzkf.B4 b) 0 a.Segments ((Arr.rep 24 (0 : Int)), (Arr.rep 24 (0 : Int)))).bind fun c => L.zzkf.J1 a b (c.1, c.2)
def L.zfct (a : Int) : Bool := (!(L.zqkj a 1000))
def L.zmqu.J1 (a : Network) (b : Plan) (f : Unit) : Option Int := (L.zvoj b.Ports (fun x => some (L.zfct x))).bind fun d => if d = true then some 1 else (L.zzkf a b).bind fun c => if (!decide (c.come = c.leave)) = true then some 12 else (L.zsgw a b).bind fun e => if decide ((e.length : Int) < (a.Nodes.length : Int)) = true then some 13 else some 0
def L.zmqu.B2 (a : Plan) (b : Nat) (c : Segment) (e : Unit) : Option (Unit ⊕ (Int)) := (ix a.Rates (b : Int)).bind fun d => if (!(L.zqkj d.2 (min 1000 c.Capacity))) = true then some ((.inr (1))) else some (.inl ())
def L.zmqu (a : Network) (b : Plan) : Option Int := (L.zfta a).bind fun c => if (c != 0) = true then some c else if (((b.Rates.length : Int) != (a.Segments.length : Int)) || (((b.Ports.length : Int) != (a.Ports.length : Int)) || ((b.Pumps.length : Int) != (a.Stations.length : Int)))) = true then some 9 else (forL (L.zmqu.B2 b) 0 a.Segments ()).bind fun d => Sum.elim (fun f => L.zmqu.J1 a b ()) (fun e => some e) d
def L.ziti (a : List Int) : Option KS := (sub? a 0 (min (a.length : Int) 2000)).bind fun b => some (⟨b, 0⟩ : KS)
def L.zxpl (a : KS) : Option (Int × KS) := if decide (a.At ≥ (a.L_.length : Int)) = true then some (0, a) else (ix a.L_ (wr ((wr (a.At + 1)) - 1))).bind fun b => some (b.2, (⟨a.L_, wr (a.At + 1)⟩ : KS))
def L.zdjb (b : KS) (c : Int) : Option (Int × KS) := (L.zxpl b).bind fun a => (L.zbjp a.1 c).bind fun d => some (d, a.2)
def L.zeyi (a : ByteArray) (b : Int) : Option ByteArray := (bytes? ([IntKind.u8.wrap (wr (97 + (b.tmod 26)))] : List Int)).bind fun c => (cat? a c).bind fun d => some d
def L.ztqk (c : KS) (a : List Int) : Option (Int × KS) := (L.zdjb c (a.length : Int)).bind fun b => (ix a b.1).bind fun d => some (d.2, b.2)
def L.ziuk (c : KS) (a : Int) (d : Int) : Option (Int × KS) := (L.zdjb c (wr ((wr (d - a)) + 1))).bind fun b => some (wr (a + b.1), b.2)
def L.zsex.J2 (b : (List Int) × Int × Int × Int) (e : ByteArray) (c : Int × KS) (f : Int × KS) (g : Int × KS) (h : Int × KS) (a : (List Int) × Int × (List Point)) : Option (Segment × KS) := (L.ziuk (⟨a.1, a.2.1⟩ : KS) (-5) 30).bind fun d => (app? a.2.2 ([(⟨c.1, d.1, h.1⟩ : Point)] : List Point)).bind fun i => some ((⟨e, b.2.2.1, b.2.2.2, c.1, f.1, g.1, i⟩ : Segment), d.2)
def L.zsex.J4 (g : Int × KS) (h : Int × KS) (a : (List Int) × Int × (List Point) × Int) (c : (List Int) × Int × Bool) : Option (((List Int) × Int × (List Point) × Int) ⊕ (((List Int) × Int × (List Point)))) := if c.2.2 = true then (L.ziuk (⟨c.1, c.2.1⟩ : KS) 1 40).bind fun b => if decide ((wr (a.2.2.2 + b.1)) ≥ g.1) = true then some ((.inr ((b.2.L_, b.2.At, a.2.2.1)))) else (L.ziuk b.2 (-5) 60).bind fun e => (L.ztqk e.2 ([1, 1, 10] : List Int)).bind fun f => (L.zdjb f.2 3).bind fun d => (app? a.2.2.1 ([(⟨wr (a.2.2.2 + b.1), wr (e.1 * f.1), wr (h.1 - (wr (d.1 * 1000)))⟩ : Point)] : List Point)).bind fun i => some (.inl (d.2.L_, d.2.At, i, wr (a.2.2.2 + b.1))) else some ((.inr ((c.1, c.2.1, a.2.2.1))))
def L.zsex.B3 (c : Int × KS) (d : Int × KS) (a : (List Int) × Int × (List Point) × Int) : Option (((List Int) × Int × (List Point) × Int) ⊕ (((List Int) × Int × (List Point)))) := if decide ((a.2.2.1.length : Int) < 7) = true then (L.zdjb (⟨a.1, a.2.1⟩ : KS) 3).bind fun b => L.zsex.J4 c d a (b.2.L_, b.2.At, decide (b.1 > 0)) else L.zsex.J4 c d a (a.1, a.2.1, false)
def L.zsex.J1 (g : Int) (b : (List Int) × Int × Int × Int) : Option (Segment × KS) := (L.zeyi (⟨#[103]⟩ : ByteArray) g).bind fun h => (L.ztqk (⟨b.1, b.2.1⟩ : KS) ([1, 2, 7, 20, 60, 200, 1000] : List Int)).bind fun c => (L.ztqk c.2 ([0, 1, 5, 1000] : List Int)).bind fun e => (L.ztqk e.2 ([0, 50, 1000, 100000] : List Int)).bind fun f => (L.ztqk f.2 ([1000000, 6000000, 100000000] : List Int)).bind fun a => (L.ziuk a.2 (-5) 30).bind fun d => (app? [] ([(⟨0, d.1, a.1⟩ : Point)] : List Point)).bind fun i => (loopN (L.zsex.B3 c a) lots (d.2.L_, d.2.At, i, 0)).bind fun j => L.zsex.J2 b h c e f a j
def L.zsex (e : KS) (b : Int) (c : Int) (d : Int) : Option (Segment × KS) := (L.zdjb e 4).bind fun a => if (a.1 == 0) = true then L.zsex.J1 b (a.2.L_, a.2.At, d, c) else L.zsex.J1 b (a.2.L_, a.2.At, c, d)
def L.zeju.J4 (b : Int × KS) (c : Int × KS) (d : (List Int) × Int × (List ByteArray)) (e : (List Int) × Int × (List Segment)) (a : (List Int) × Int × (List Port) × (List Station)) : Option (Network × KS) := some ((⟨d.2.2, e.2.2, a.2.2.1, a.2.2.2, b.1, c.1⟩ : Network), (⟨a.1, a.2.1⟩ : KS))
def L.zeju.J6 (b : (List Int) × Int × (List Port) × (List Station) × Int) (a : (List Int) × Int × (List Port) × (List Station)) : Option (((List Int) × Int × (List Port) × (List Station) × Int) ⊕ (((List Int) × Int × (List Port) × (List Station)))) := some (.inl (a.1, a.2.1, a.2.2.1, a.2.2.2, wr (b.2.2.2.2 + 1)))
def L.zeju.J8 (a : (List Int) × Int × (List Port) × (List Station) × Int) (d : (List Int) × Int × (List Port)) (b : (List Int) × Int × Bool) : Option (((List Int) × Int × (List Port) × (List Station) × Int) ⊕ (((List Int) × Int × (List Port) × (List Station)))) := if b.2.2 = true then (L.zeyi (⟨#[115]⟩ : ByteArray) (a.2.2.2.1.length : Int)).bind fun g => (L.ztqk (⟨b.1, b.2.1⟩ : KS) ([500000, 2000000, 0] : List Int)).bind fun e => (L.ztqk e.2 ([0, 200, 100000] : List Int)).bind fun f => (L.ztqk f.2 ([0, 100000, 400000] : List Int)).bind fun c => (app? a.2.2.2.1 ([(⟨g, a.2.2.2.2, e.1, f.1, c.1⟩ : Station)] : List Station)).bind fun h => L.zeju.J6 a (c.2.L_, c.2.At, d.2.2, h) else L.zeju.J6 a (b.1, b.2.1, d.2.2, a.2.2.2.1)
def L.zeju.J7 (d : (List Int) × Int × (List ByteArray)) (b : (List Int) × Int × (List Port) × (List Station) × Int) (a : (List Int) × Int × (List Port)) : Option (((List Int) × Int × (List Port) × (List Station) × Int) ⊕ (((List Int) × Int × (List Port) × (List Station)))) := if decide (b.2.2.2.2 < (wr ((d.2.2.length : Int) - 1))) = true then (L.zdjb (⟨a.1, a.2.1⟩ : KS) 3).bind fun c => L.zeju.J8 b a (c.2.L_, c.2.At, (c.1 == 0)) else L.zeju.J8 b a (a.1, a.2.1, false)
def L.zeju.J9 (d : (List Int) × Int × (List ByteArray)) (a : (List Int) × Int × (List Port) × (List Station) × Int) (b : (List Int) × Int × Bool) : Option (((List Int) × Int × (List Port) × (List Station) × Int) ⊕ (((List Int) × Int × (List Port) × (List Station)))) := if b.2.2 = true then (L.zeyi (⟨#[113]⟩ : ByteArray) (a.2.2.1.length : Int)).bind fun e => (L.ztqk (⟨b.1, b.2.1⟩ : KS) ([300000, 1000000, 0, 5000000] : List Int)).bind fun c => (app? a.2.2.1 ([(⟨e, a.2.2.2.2, c.1⟩ : Port)] : List Port)).bind fun f => L.zeju.J7 d a (c.2.L_, c.2.At, f) else L.zeju.J7 d a (b.1, b.2.1, a.2.2.1)
def L.zeju.B5 (b : (List Int) × Int × (List ByteArray)) (a : (List Int) × Int × (List Port) × (List Station) × Int) : Option (((List Int) × Int × (List Port) × (List Station) × Int) ⊕ (((List Int) × Int × (List Port) × (List Station)))) := if decide (a.2.2.2.2 ≤ (wr ((b.2.2.length : Int) - 1))) = true then if (a.2.2.2.2 == 0) = true then L.zeju.J9 b a (a.1, a.2.1, true) else if (a.2.2.2.2 == (wr ((b.2.2.length : Int) - 1))) = true then L.zeju.J9 b a (a.1, a.2.1, true) else (L.zdjb (⟨a.1, a.2.1⟩ : KS) 2).bind fun c => L.zeju.J9 b a (c.2.L_, c.2.At, (c.1 == 0)) else some ((.inr ((a.1, a.2.1, a.2.2.1, a.2.2.2.1))))
def L.zeju.J3 (c : Int × KS) (d : Int × KS) (b : (List Int) × Int × (List ByteArray)) (a : (List Int) × Int × (List Segment)) : Option (Network × KS) := (loopN (L.zeju.B5 b) lots (a.1, a.2.1, [], [], 0)).bind fun e => L.zeju.J4 c d b a e
def L.zeju.B10 (d : (List Int) × Int × (List ByteArray)) (a : (List Int) × Int × (List Segment) × Int) : Option (((List Int) × Int × (List Segment) × Int) ⊕ (((List Int) × Int × (List Segment)))) := if decide (a.2.2.2 > 0) = true then (L.zdjb (⟨a.1, a.2.1⟩ : KS) (wr ((d.2.2.length : Int) - 1))).bind fun b => (L.ziuk b.2 (wr (b.1 + 1)) (wr ((d.2.2.length : Int) - 1))).bind fun e => (L.zsex e.2 (a.2.2.1.length : Int) b.1 e.1).bind fun c => (app? a.2.2.1 ([c.1] : List Segment)).bind fun f => some (.inl (c.2.L_, c.2.At, f, wr (a.2.2.2 - 1))) else some ((.inr ((a.1, a.2.1, a.2.2.1))))
def L.zeju.J2 (d : Int × KS) (e : Int × KS) (c : (List Int) × Int × (List ByteArray)) (a : (List Int) × Int × (List Segment)) : Option (Network × KS) := (L.zdjb (⟨a.1, a.2.1⟩ : KS) 4).bind fun b => (loopN (L.zeju.B10 c) lots (b.2.L_, b.2.At, a.2.2, b.1)).bind fun f => L.zeju.J3 d e c f
def L.zeju.B11 (c : (List Int) × Int × (List ByteArray)) (a : (List Int) × Int × (List Segment) × Int) : Option (((List Int) × Int × (List Segment) × Int) ⊕ (((List Int) × Int × (List Segment)))) := if decide (a.2.2.2 < (wr ((c.2.2.length : Int) - 1))) = true then (L.zsex (⟨a.1, a.2.1⟩ : KS) (a.2.2.1.length : Int) a.2.2.2 (wr (a.2.2.2 + 1))).bind fun b => (app? a.2.2.1 ([b.1] : List Segment)).bind fun d => some (.inl (b.2.L_, b.2.At, d, wr (a.2.2.2 + 1))) else some ((.inr ((a.1, a.2.1, a.2.2.1))))
def L.zeju.J1 (b : Int × KS) (c : Int × KS) (a : (List Int) × Int × (List ByteArray)) : Option (Network × KS) := (loopN (L.zeju.B11 a) lots (a.1, a.2.1, [], 0)).bind fun d => L.zeju.J2 b c a d
def L.zeju.B12 (b : Int × KS) (a : (List ByteArray) × Int) : Option (((List ByteArray) × Int) ⊕ (((List Int) × Int × (List ByteArray)))) := if decide (a.2 > 0) = true then (L.zeyi (⟨#[110]⟩ : ByteArray) (a.1.length : Int)).bind fun c => (app? a.1 ([c] : List ByteArray)).bind fun d => some (.inl (d, wr (a.2 - 1))) else some ((.inr ((b.2.L_, b.2.At, a.1))))
def L.zeju (d : KS) : Option (Network × KS) := (L.ztqk d ([(-100000), 0, 50000] : List Int)).bind fun a => (L.ztqk a.2 ([0, 1, 5, 100] : List Int)).bind fun b => (L.ziuk b.2 2 6).bind fun c => (loopN (L.zeju.B12 c) lots ([], c.1)).bind fun e => L.zeju.J1 a b e
def L.zhea (a : Int) : Int := (max a (wr (0 - a)))
def L.znbg.J2 (a : List Bool) (b : List Int) (c : List Int) : Option Plan := some (⟨b, c, a⟩ : Plan)
def L.znbg.B3 (d : Nat) (a : Int) (b : List Int) : Option (List Int) := (app? b ([wr (0 - a)] : List Int)).bind fun c => some c
def L.znbg.J1 (a : Plan) (b : List Bool) (c : List Int) : Option Plan := (forS L.znbg.B3 0 a.Ports []).bind fun d => L.znbg.J2 b c d
def L.znbg.B4 (d : Nat) (a : Int) (b : List Int) : Option (List Int) := (app? b ([wr (0 - a)] : List Int)).bind fun c => some c
def L.znbg (a : Plan) : Option Plan := (app? ([] : List Bool) a.Pumps).bind fun b => (forS L.znbg.B4 0 a.Rates []).bind fun c => L.znbg.J1 a b c
def L.zjbu.J3 (b : (List Int) × Int × (List Bool)) (c : Int × KS) (a : (List Int) × Int × (List Int) × (List Int)) : Option (Plan × KS) := if (c.1 == 0) = true then (L.znbg (⟨a.2.2.1, a.2.2.2, b.2.2⟩ : Plan)).bind fun d => some (d, (⟨a.1, a.2.1⟩ : KS)) else some ((⟨a.2.2.1, a.2.2.2, b.2.2⟩ : Plan), (⟨a.1, a.2.1⟩ : KS))
def L.zjbu.J5 (b : (List Int) × Int × (List Int) × (List Int) × Int) (a : (List Int) × Int × (List Int) × (List Int)) : Option (((List Int) × Int × (List Int) × (List Int) × Int) ⊕ (((List Int) × Int × (List Int) × (List Int)))) := some (.inl (a.1, a.2.1, a.2.2.1, a.2.2.2, wr (b.2.2.2.2 - 1)))
def L.zjbu.J10 (a : List Int) : Option (List Int) := some a
def L.zjbu.B9 (g : Network) (c : Int × KS) (h : (List Int) × Int × (List Int) × Int) (i : Nat) (a : List Int) : Option (List Int) := (ix h.2.2.1 (i : Int)).bind fun b => (ix g.Segments b.2).bind fun d => if decide (d.2.From < d.2.To) = true then (ix a b.2).bind fun e => L.zjbu.J10 (a.set e.1 (wr (e.2 + c.1))) else (ix a b.2).bind fun f => L.zjbu.J10 (a.set f.1 (wr (f.2 - c.1)))
def L.zjbu.J8 (c : Network) (b : (List Int) × Int × (List Int) × (List Int) × Int) (d : Int × KS) (a : (List Int) × Int × (List Int) × Int) (e : List Int) : Option (((List Int) × Int × (List Int) × (List Int) × Int) ⊕ (((List Int) × Int × (List Int) × (List Int)))) := (forJ (L.zjbu.B9 c d a) 0 a.2.2.1.length b.2.2.1).bind fun f => L.zjbu.J5 b (a.1, a.2.1, f, e)
def L.zjbu.J7 (e : Network) (a : (List Int) × Int × (List Int) × (List Int) × Int) (f : Int × KS) (c : Int × KS) (b : (List Int) × Int × (List Int) × Int) : Option (((List Int) × Int × (List Int) × (List Int) × Int) ⊕ (((List Int) × Int × (List Int) × (List Int)))) := if decide (b.2.2.2 < 0) = true then L.zjbu.J5 a (b.1, b.2.1, a.2.2.1, a.2.2.2.1) else (ix a.2.2.2.1 f.1).bind fun d => (ix a.2.2.2.1 b.2.2.2).bind fun g => (ix (a.2.2.2.1.set d.1 (wr (d.2 + c.1))) b.2.2.2).bind fun h => L.zjbu.J8 e a c b ((a.2.2.2.1.set d.1 (wr (d.2 + c.1))).set h.1 (wr (g.2 - c.1)))
def L.zjbu.J13 (g : Network) (b : (List Int) × Int × Int × (List Int) × Int) (a : (List Int) × Int × Int) (c : List Int) : Option (((List Int) × Int × Int × (List Int) × Int) ⊕ (((List Int) × Int × (List Int) × Int))) := if ((c.length : Int) == 0) = true then some ((.inr ((a.1, a.2.1, b.2.2.2.1, a.2.2)))) else (L.zdjb (⟨a.1, a.2.1⟩ : KS) (c.length : Int)).bind fun d => (ix c d.1).bind fun e => (app? b.2.2.2.1 ([e.2] : List Int)).bind fun h => (ix g.Segments e.2).bind fun f => some (.inl (d.2.L_, d.2.At, wr ((wr (f.2.From + f.2.To)) - b.2.2.1), h, a.2.2))
def L.zjbu.J15 (a : List Int) : Option (List Int) := some a
def L.zjbu.J16 (b : Nat) (a : List Int) (c : Bool) : Option (List Int) := if c = true then (app? a ([(b : Int)] : List Int)).bind fun d => L.zjbu.J15 d else L.zjbu.J15 a
def L.zjbu.B14 (e : (List Int) × Int × (List Int) × (List Int) × Int) (f : Int × KS) (c : (List Int) × Int × Int × (List Int) × Int) (b : Nat) (a : Segment) (d : List Int) : Option (List Int) := if (a.From == c.2.2.1) = true then if decide ((wr ((wr (a.From + a.To)) - c.2.2.1)) > c.2.2.1) = true then (ix e.2.2.1 (b : Int)).bind fun g => L.zjbu.J16 b d (decide ((wr ((L.zhea g.2) + f.1)) ≤ (min 1000 a.Capacity))) else L.zjbu.J16 b d false else if (a.To == c.2.2.1) = true then if decide ((wr ((wr (a.From + a.To)) - c.2.2.1)) > c.2.2.1) = true then (ix e.2.2.1 (b : Int)).bind fun h => L.zjbu.J16 b d (decide ((wr ((L.zhea h.2) + f.1)) ≤ (min 1000 a.Capacity))) else L.zjbu.J16 b d false else L.zjbu.J16 b d false
def L.zjbu.J12 (c : Network) (d : (List Int) × Int × (List Int) × (List Int) × Int) (e : Int × KS) (b : (List Int) × Int × Int × (List Int) × Int) (a : (List Int) × Int × Int) : Option (((List Int) × Int × Int × (List Int) × Int) ⊕ (((List Int) × Int × (List Int) × Int))) := if decide (a.2.2 ≥ 0) = true then some ((.inr ((a.1, a.2.1, b.2.2.2.1, a.2.2)))) else (forS (L.zjbu.B14 d e b) 0 c.Segments []).bind fun f => L.zjbu.J13 c b a f
def L.zjbu.J18 (a : (List Int) × Int × Int) : Option ((List Int) × Int × Int) := some (a.1, a.2.1, a.2.2)
def L.zjbu.J19 (b : Nat) (c : (List Int) × Int × Int) (a : (List Int) × Int × Bool) : Option ((List Int) × Int × Int) := if a.2.2 = true then L.zjbu.J18 (a.1, a.2.1, (b : Int)) else L.zjbu.J18 (a.1, a.2.1, c.2.2)
def L.zjbu.B17 (f : (List Int) × Int × (List Int) × (List Int) × Int) (g : Int × KS) (h : Int × KS) (d : (List Int) × Int × Int × (List Int) × Int) (b : Nat) (i : Port) (a : (List Int) × Int × Int) : Option ((List Int) × Int × Int) := if (i.Node == d.2.2.1) = true then if ((b : Int) != g.1) = true then (ix f.2.2.2.1 (b : Int)).bind fun e => if decide (e.2 ≤ 0) = true then if decide ((wr (e.2 - h.1)) ≥ (-1000)) = true then if decide ((d.2.2.2.1.length : Int) > 0) = true then (L.zdjb (⟨a.1, a.2.1⟩ : KS) 2).bind fun c => L.zjbu.J19 b a (c.2.L_, c.2.At, (c.1 == 0)) else L.zjbu.J19 b a (a.1, a.2.1, false) else L.zjbu.J19 b a (a.1, a.2.1, false) else L.zjbu.J19 b a (a.1, a.2.1, false) else L.zjbu.J19 b a (a.1, a.2.1, false) else L.zjbu.J19 b a (a.1, a.2.1, false)
def L.zjbu.B11 (c : Network) (d : (List Int) × Int × (List Int) × (List Int) × Int) (f : Int × KS) (e : Int × KS) (a : (List Int) × Int × Int × (List Int) × Int) : Option (((List Int) × Int × Int × (List Int) × Int) ⊕ (((List Int) × Int × (List Int) × Int))) := if decide (a.2.2.2.2 < 0) = true then (forS (L.zjbu.B17 d f e a) 0 c.Ports (a.1, a.2.1, a.2.2.2.2)).bind fun b => L.zjbu.J12 c d e a (b.1, b.2.1, b.2.2) else some ((.inr ((a.1, a.2.1, a.2.2.2.1, a.2.2.2.2))))
def L.zjbu.J6 (c : Network) (b : (List Int) × Int × (List Int) × (List Int) × Int) (d : Int × KS) (e : Nat × Port) (a : Int × KS) (f : Bool) : Option (((List Int) × Int × (List Int) × (List Int) × Int) ⊕ (((List Int) × Int × (List Int) × (List Int)))) := if f = true then L.zjbu.J5 b (a.2.L_, a.2.At, b.2.2.1, b.2.2.2.1) else (loopN (L.zjbu.B11 c b d a) lots (a.2.L_, a.2.At, e.2.Node, [], (-1))).bind fun g => L.zjbu.J7 c b d a g
def L.zjbu.B4 (c : Network) (a : (List Int) × Int × (List Int) × (List Int) × Int) : Option (((List Int) × Int × (List Int) × (List Int) × Int) ⊕ (((List Int) × Int × (List Int) × (List Int)))) := if decide (a.2.2.2.2 > 0) = true then (L.zdjb (⟨a.1, a.2.1⟩ : KS) (c.Ports.length : Int)).bind fun b => (ix c.Ports b.1).bind fun e => (L.ztqk b.2 ([1, 5, 30, 300] : List Int)).bind fun f => (L.ziuk f.2 1 f.1).bind fun d => (ix a.2.2.2.1 b.1).bind fun g => if decide (g.2 < 0) = true then L.zjbu.J6 c a b e d true else L.zjbu.J6 c a b e d (decide ((wr (g.2 + d.1)) > 1000)) else some ((.inr ((a.1, a.2.1, a.2.2.1, a.2.2.2.1))))
def L.zjbu.J2 (e : Network) (c : (List Int) × (List Int)) (a : (List Int) × Int × (List Bool)) : Option (Plan × KS) := (L.zdjb (⟨a.1, a.2.1⟩ : KS) 3).bind fun d => (L.zdjb d.2 5).bind fun b => (loopN (L.zjbu.B4 e) lots (b.2.L_, b.2.At, c.1, c.2, b.1)).bind fun f => L.zjbu.J3 a d f
def L.zjbu.B20 (c : Network) (a : (List Int) × Int × (List Bool) × Int) : Option (((List Int) × Int × (List Bool) × Int) ⊕ (((List Int) × Int × (List Bool)))) := if decide (a.2.2.2 < (c.Stations.length : Int)) = true then (L.zdjb (⟨a.1, a.2.1⟩ : KS) 2).bind fun b => (app? a.2.2.1 ([(b.1 == 0)] : List Bool)).bind fun d => some (.inl (b.2.L_, b.2.At, d, wr (a.2.2.2 + 1))) else some ((.inr ((a.1, a.2.1, a.2.2.1))))
def L.zjbu.J1 (a : KS) (b : Network) (c : (List Int) × (List Int)) : Option (Plan × KS) := (loopN (L.zjbu.B20 b) lots (a.L_, a.At, [], 0)).bind fun d => L.zjbu.J2 b c d
def L.zjbu (b : KS) (a : Network) : Option (Plan × KS) := (mk? (a.Segments.length : Int) (0 : Int)).bind fun c => (mk? (a.Ports.length : Int) (0 : Int)).bind fun d => L.zjbu.J1 b a (c, d)
structure Piece where
 Batch : Int
 Volume : Int
 deriving DecidableEq
def Piece.row (x : Piece) : List T := [.v (.int .i64 x.Batch), .v (.int .i64 x.Volume)]
structure deal_table where
 n_ : Int
 rates : Arr Int 64
 counts : Arr Int 64
 deriving DecidableEq
def deal_table.row (x : deal_table) : List T := [.v (.int .i64 x.n_)] ++ (x.rates.l.map cI ++ (x.counts.l.map cI ++ []))
structure advance_line where
 n_ : Network
 p : Plan
 feeds : List Int
 order : List Int
 fills : List (List Piece)
 given : List (List Piece)
 out_ : List (List Piece)
 deriving DecidableEq
def advance_line.row (x : advance_line) : List T := [.list 1 (x.n_.Nodes.map rS), .list 7 (x.n_.Segments.map Segment.row), .list 3 (x.n_.Ports.map Port.row), .list 5 (x.n_.Stations.map Station.row), .v (.int .i64 x.n_.Vapour), .v (.int .i64 x.n_.Settle), .list 1 (x.p.Rates.map rI), .list 1 (x.p.Ports.map rI), .list 1 (x.p.Pumps.map rB), .list 1 (x.feeds.map rI), .list 1 (x.order.map rI), .list 1 (x.fills.map (rL 2 Piece.row)), .list 1 (x.given.map (rL 2 Piece.row)), .list 1 (x.out_.map (rL 2 Piece.row))]
def L.zdti.J1 (a : (List Int) × Int × (List Piece)) : Option ((List Piece) × KS) := some (a.2.2, (⟨a.1, a.2.1⟩ : KS))
def L.zdti.J4 (a : (List Int) × Int × Int × (List Piece)) (b : Int × KS) (c : Int) (d : Int) : Option (((List Int) × Int × Int × (List Piece)) ⊕ (((List Int) × Int × (List Piece)))) := (app? a.2.2.2 ([(⟨d, (min c a.2.2.1)⟩ : Piece)] : List Piece)).bind fun e => some (.inl (b.2.L_, b.2.At, wr (a.2.2.1 - (min c a.2.2.1)), e))
def L.zdti.J5 (g : Int) (a : (List Int) × Int × Int × (List Piece)) (e : Int × KS) (b : Int × KS) (c : Int) (h : Bool) : Option (((List Int) × Int × Int × (List Piece)) ⊕ (((List Int) × Int × (List Piece)))) := if h = true then (rem? (wr (e.1 + 1)) g).bind fun f => (ix a.2.2.2 (wr ((a.2.2.2.length : Int) - 1))).bind fun d => if (d.2.Batch == f) = true then some (.inl (b.2.L_, b.2.At, wr (a.2.2.1 - (min c a.2.2.1)), (a.2.2.2.set d.1 (⟨d.2.Batch, wr (d.2.Volume + (min c a.2.2.1))⟩ : Piece)))) else L.zdti.J4 a b c f else L.zdti.J4 a b c e.1
def L.zdti.J3 (c : Int) (a : (List Int) × Int × Int × (List Piece)) (b : Int × KS) (d : Int × KS) (e : Int) : Option (((List Int) × Int × Int × (List Piece)) ⊕ (((List Int) × Int × (List Piece)))) := if decide ((a.2.2.2.length : Int) > 0) = true then (ix a.2.2.2 (wr ((a.2.2.2.length : Int) - 1))).bind fun f => L.zdti.J5 c a b d e (f.2.Batch == b.1) else L.zdti.J5 c a b d e false
def L.zdti.B2 (b : Int) (a : (List Int) × Int × Int × (List Piece)) : Option (((List Int) × Int × Int × (List Piece)) ⊕ (((List Int) × Int × (List Piece)))) := if (decide (a.2.2.1 > 0) && decide ((a.2.2.2.length : Int) < 12)) = true then (L.zdjb (⟨a.1, a.2.1⟩ : KS) b).bind fun c => (L.ziuk c.2 1 (max 1 (wr ((wr (a.2.2.1 * 2)).tdiv 3)))).bind fun d => if ((a.2.2.2.length : Int) == 11) = true then L.zdti.J3 b a c d a.2.2.1 else L.zdti.J3 b a c d d.1 else some ((.inr ((a.1, a.2.1, a.2.2.2))))
def L.zdti (a : KS) (b : Int) (c : Int) : Option ((List Piece) × KS) := (loopN (L.zdti.B2 c) lots (a.L_, a.At, b, [])).bind fun d => L.zdti.J1 d
def L.zbhc.J1 (a : (List Int) × Int × (List (List Piece))) : Option ((List (List Piece)) × KS) := some (a.2.2, (⟨a.1, a.2.1⟩ : KS))
def L.zbhc.B2 (c : Int) (f : Nat) (d : Segment) (a : (List Int) × Int × (List (List Piece))) : Option ((List Int) × Int × (List (List Piece))) := (L.zdti (⟨a.1, a.2.1⟩ : KS) d.Capacity c).bind fun b => (app? a.2.2 ([b.1] : List (List Piece))).bind fun e => some (b.2.L_, b.2.At, e)
def L.zbhc (b : KS) (c : Network) (d : Int) : Option ((List (List Piece)) × KS) := (forS (L.zbhc.B2 d) 0 c.Segments (b.L_, b.At, [])).bind fun a => L.zbhc.J1 (a.1, a.2.1, a.2.2)
def L.zork.J1 (a : (List Int) × Int × (List Int)) : Option ((List Int) × KS) := some (a.2.2, (⟨a.1, a.2.1⟩ : KS))
def L.zork.B2 (c : Network) (d : Int) (a : (List Int) × Int × (List Int) × Int) : Option (((List Int) × Int × (List Int) × Int) ⊕ (((List Int) × Int × (List Int)))) := if decide (a.2.2.2 < (c.Ports.length : Int)) = true then (L.zdjb (⟨a.1, a.2.1⟩ : KS) d).bind fun b => (app? a.2.2.1 ([b.1] : List Int)).bind fun e => some (.inl (b.2.L_, b.2.At, e, wr (a.2.2.2 + 1))) else some ((.inr ((a.1, a.2.1, a.2.2.1))))
def L.zork (a : KS) (b : Network) (c : Int) : Option ((List Int) × KS) := (loopN (L.zork.B2 b c) lots (a.L_, a.At, [], 0)).bind fun d => L.zork.J1 d
def L.zyyp (a : Network) (b : Plan) : Option ((List Int) × Int) := (L.zmqu a b).bind fun c => if (c != 0) = true then some ([], c) else (L.zsgw a b).bind fun d => some (d, 0)
def L.zojo (a : Piece) : Bool := (decide (a.Batch ≥ 0) && (decide (a.Batch < 1000) && (decide (a.Volume ≥ 0) && decide (a.Volume ≤ 1000000))))
def L.zmsl.J1 (a : Int) : Option Int := some a
def L.zmsl.B2 (c : Nat) (a : Piece) (b : Int) : Option Int := some (wr (b + a.Volume))
def L.zmsl (a : List Piece) : Option Int := (forS L.zmsl.B2 0 a 0).bind fun b => L.zmsl.J1 b
def L.zqwg.J1 (a : List Piece) (c : Unit) : Option Bool := (L.zmsl a).bind fun b => some (decide (b ≤ 1000000))
def L.zqwg.J3 (a : Bool) : Option (Unit ⊕ (Bool)) := if a = true then some ((.inr (false))) else some (.inl ())
def L.zqwg.B2 (c : List Piece) (b : Nat) (a : Piece) (e : Unit) : Option (Unit ⊕ (Bool)) := if (!(L.zojo a)) = true then L.zqwg.J3 true else if (a.Volume == 0) = true then L.zqwg.J3 true else if decide ((b : Int) > 0) = true then (ix c (wr ((b : Int) - 1))).bind fun d => L.zqwg.J3 (d.2.Batch == a.Batch) else L.zqwg.J3 false
def L.zqwg (a : List Piece) : Option Bool := if decide ((a.length : Int) > 200) = true then some false else (forL (L.zqwg.B2 a) 0 a ()).bind fun b => Sum.elim (fun d => L.zqwg.J1 a ()) (fun c => some c) b
def L.zryf (a : List Piece) : Option Int := (L.zqwg a).bind fun b => if (!b) = true then some 0 else (L.zmsl a).bind fun c => some c
def L.zkmq.J1 (a : Unit) : Option Int := some (-1)
def L.zkmq.B2 (a : Piece → Option Bool) (b : Nat) (c : Piece) (e : Unit) : Option (Unit ⊕ (Int)) := (a c).bind fun d => if d = true then some ((.inr ((b : Int)))) else some (.inl ())
def L.zkmq (a : List Piece) (b : Piece → Option Bool) : Option Int := (forL (L.zkmq.B2 b) 0 a ()).bind fun c => Sum.elim (fun e => L.zkmq.J1 ()) (fun d => some d) c
def L.zytx (a : List Piece) (b : Piece → Option Bool) : Option Bool := (L.zkmq a b).bind fun c => some (decide (c ≥ 0))
def L.zjyd (a : Piece) : Bool := (!(L.zojo a))
def L.zzum.J1 (a : List Piece) : Option (List Piece) := some a
def L.zzum.J3 (a : List Piece) : Option (List Piece) := some a
def L.zzum.J4 (c : Piece) (a : List Piece) (d : Bool) : Option (List Piece) := if d = true then (ix a (wr ((a.length : Int) - 1))).bind fun b => L.zzum.J3 (a.set b.1 (⟨b.2.Batch, wr (b.2.Volume + c.Volume)⟩ : Piece)) else (app? a ([c] : List Piece)).bind fun e => L.zzum.J3 e
def L.zzum.B2 (d : Nat) (a : Piece) (b : List Piece) : Option (List Piece) := if ((a.Batch == a.Batch) && ((a.Volume == 0) && true)) = true then L.zzum.J3 b else if decide ((b.length : Int) > 0) = true then (ix b (wr ((b.length : Int) - 1))).bind fun c => L.zzum.J4 a b (c.2.Batch == a.Batch) else L.zzum.J4 a b false
def L.zzum (a : List Piece) : Option (List Piece) := (forS L.zzum.B2 0 a []).bind fun b => L.zzum.J1 b
def L.zmbh.J1 (a : List Piece) (b : Bool) : Option (List Piece) := if b = true then some [] else (L.zzum a).bind fun c => some c
def L.zmbh (a : List Piece) : Option (List Piece) := if decide ((a.length : Int) > 400) = true then L.zmbh.J1 a true else (L.zytx a (fun x => some (L.zjyd x))).bind fun b => L.zmbh.J1 a b
def L.zgxj (a : List Piece) : Option (List Piece) := app? [] a
def L.zbkm.J1 (a : (List Piece) × (List Piece)) : Option ((List Piece) × (List Piece)) := (L.zzum a.1).bind fun b => (L.zzum a.2).bind fun c => some (b, c)
def L.zbkm.B2 (c : Nat) (d : Piece) (a : Int × (List Piece) × (List Piece)) : Option (Int × (List Piece) × (List Piece)) := (ix a.2.1 (c : Int)).bind fun b => (ix (a.2.1.set b.1 (⟨b.2.Batch, (min d.Volume a.1)⟩ : Piece)) (c : Int)).bind fun e => (ix a.2.2 (c : Int)).bind fun f => some (wr (a.1 - e.2.Volume), (a.2.1.set b.1 (⟨b.2.Batch, (min d.Volume a.1)⟩ : Piece)), (a.2.2.set f.1 (⟨f.2.Batch, wr (d.Volume - e.2.Volume)⟩ : Piece)))
def L.zbkm (a : List Piece) (c : Int) : Option ((List Piece) × (List Piece)) := (L.zgxj a).bind fun d => (L.zgxj a).bind fun e => (forS L.zbkm.B2 0 a (c, d, e)).bind fun b => L.zbkm.J1 (b.2.1, b.2.2)
def L.zbil.J2 (a : (List Piece) × (List Piece)) : Option ((List Piece) × (List Piece) × Int) := if (decide ((a.1.length : Int) > 200) || decide ((a.2.length : Int) > 200)) = true then some ([], [], 4) else some (a.1, a.2, 0)
def L.zbil.J1 (a : List Piece) (b : List Piece) (e : Bool) (f : Bool) : Option ((List Piece) × (List Piece) × Int) := if f = true then some ([], [], 9) else if e = true then (L.zgxj a).bind fun g => (app? g b).bind fun h => (L.zmsl b).bind fun i => (L.zbkm h i).bind fun c => L.zbil.J2 (c.2, c.1) else (L.zgxj b).bind fun j => (app? j a).bind fun k => (L.zmsl a).bind fun l => (L.zbkm k l).bind fun d => L.zbil.J2 (d.1, d.2)
def L.zbil (a : List Piece) (b : List Piece) (c : Bool) : Option ((List Piece) × (List Piece) × Int) := (L.zqwg a).bind fun d => if (!d) = true then L.zbil.J1 a b c true else (L.zqwg b).bind fun e => L.zbil.J1 a b c (!e)
def L.zaio.J1 (a : Int) (b : Int) : Option Int := if (b == 0) = true then some 9 else if (decide (a < 0) || decide (a > b)) = true then some 1 else some 0
def L.zaio.B2 (c : Nat) (a : Int) (b : Int) : Option (Int ⊕ (Int)) := if (decide (a < 0) || decide (a > 1000)) = true then some ((.inr (1))) else some (.inl (wr (b + a)))
def L.zaio (a : List Int) (b : Int) : Option Int := if decide ((a.length : Int) > 64) = true then some 4 else (forL L.zaio.B2 0 a 0).bind fun c => Sum.elim (fun d => L.zaio.J1 b d) (fun e => some e) c
def L.zwhx (a : List Int) : Option deal_table := (cpyA (Arr.rep 64 (0 : Int)) a).bind fun b => some (⟨(a.length : Int), b, (Arr.rep 64 (0 : Int))⟩ : deal_table)
def L.zfrq.J1 (a : deal_table) (b : Int) : Option (Int × deal_table) := some (b, a)
def L.zfrq.J3 (a : Int) : Option Int := some a
def L.zfrq.J4 (a : Nat) (b : Int) (c : Bool) : Option Int := if c = true then L.zfrq.J3 (a : Int) else L.zfrq.J3 b
def L.zfrq.B2 (c : deal_table) (b : Nat) (a : Int) : Option Int := (ix c.rates.l (b : Int)).bind fun d => if decide (d.2 > 0) = true then if decide (a < 0) = true then L.zfrq.J4 b a true else (ix c.counts.l (b : Int)).bind fun e => (ix c.rates.l a).bind fun f => (ix c.counts.l a).bind fun g => L.zfrq.J4 b a (decide ((wr ((wr (e.2 + 1)) * f.2)) < (wr ((wr (g.2 + 1)) * d.2)))) else L.zfrq.J4 b a false
def L.zfrq (a : deal_table) : Option (Int × deal_table) := (chk (a.n_ ≤ 9223372036854775806)).bind fun c => (forJ (L.zfrq.B2 a) 0 a.n_.toNat (-1)).bind fun b => L.zfrq.J1 a b
def L.zmxf.J3 (a : List (List Piece)) : Option ((List (List Piece)) × Int) := some (a, 0)
def L.zmxf.B4 (c : Nat) (a : List (List Piece)) : Option (List (List Piece)) := (ix a (c : Int)).bind fun b => (L.zmbh b.2).bind fun d => some (a.set b.1 d)
def L.zmxf.J2 (a : List (List Piece)) : Option ((List (List Piece)) × Int) := (forJ L.zmxf.B4 0 a.length a).bind fun b => L.zmxf.J3 b
def L.zmxf.J6 (a : (List (List Piece)) × Int × (Arr Int 64) × (Arr Int 64)) : Option ((List (List Piece)) × Int × (Arr Int 64) × (Arr Int 64)) := some (a.1, a.2.1, a.2.2.1, a.2.2.2)
def L.zmxf.B8 (d : (List (List Piece)) × Int × (Arr Int 64) × (Arr Int 64)) (e : Nat × Piece) (f : Int × (Arr Int 64) × (Arr Int 64)) (a : Nat) (b : List (List Piece)) : Option (List (List Piece)) := (ix b (a : Int)).bind fun c => (ix f.2.2.l (a : Int)).bind fun g => (ix d.2.2.2.l (a : Int)).bind fun h => (app? c.2 ([(⟨e.2.Batch, wr (g.2 - h.2)⟩ : Piece)] : List Piece)).bind fun i => some (b.set c.1 i)
def L.zmxf.J7 (b : (List (List Piece)) × Int × (Arr Int 64) × (Arr Int 64)) (c : Nat × Piece) (a : Int × (Arr Int 64) × (Arr Int 64)) : Option ((List (List Piece)) × Int × (Arr Int 64) × (Arr Int 64)) := (forJ (L.zmxf.B8 b c a) 0 b.1.length b.1).bind fun d => L.zmxf.J6 (d, a.1, a.2.1, a.2.2)
def L.zmxf.B9 (d : Nat) (b : Int × (Arr Int 64) × (Arr Int 64)) : Option (Int × (Arr Int 64) × (Arr Int 64)) := (L.zfrq (⟨b.1, b.2.1, b.2.2⟩ : deal_table)).bind fun a => (ix a.2.counts.l a.1).bind fun c => some (a.2.n_, a.2.rates, (a.2.counts.set c.1 (wr (c.2 + 1))))
def L.zmxf.B5 (d : List Piece) (e : Nat) (a : (List (List Piece)) × Int × (Arr Int 64) × (Arr Int 64)) : Option ((List (List Piece)) × Int × (Arr Int 64) × (Arr Int 64)) := (ix d (e : Int)).bind fun b => (chk (b.2.Volume ≤ 9223372036854775806)).bind fun f => (forJ L.zmxf.B9 0 b.2.Volume.toNat (a.2.1, a.2.2.1, a.2.2.2)).bind fun c => L.zmxf.J7 a b (c.1, c.2.1, c.2.2)
def L.zmxf.J1 (a : List Int) (c : List Piece) (e : Int) : Option ((List (List Piece)) × Int) := (L.zaio a e).bind fun d => if (d != 0) = true then some ([], d) else (mk? (a.length : Int) ([] : List Piece)).bind fun f => (L.zwhx a).bind fun b => (forJ (L.zmxf.B5 c) 0 c.length (f, b.n_, b.rates, b.counts)).bind fun g => L.zmxf.J2 g.1
def L.zmxf.B10 (a : List Piece) (b : Nat) (c : Int) : Option Int := (ix a (b : Int)).bind fun d => some (wr (c + d.2.Volume))
def L.zmxf (b : List Piece) (c : List Int) : Option ((List (List Piece)) × Int) := (L.zmbh b).bind fun a => if (bif ((a.length : Int) == 0) then (decide ((b.length : Int) > 0) || decide ((a.length : Int) > 200)) else decide ((a.length : Int) > 200)) = true then some ([], 9) else (forJ (L.zmxf.B10 a) 0 a.length 0).bind fun d => L.zmxf.J1 c a d
def L.zvuy.J1 (a : Unit) : Option Int := some (-1)
def L.zvuy.B2 (a : (List Piece) → Option Bool) (b : Nat) (c : List Piece) (e : Unit) : Option (Unit ⊕ (Int)) := (a c).bind fun d => if d = true then some ((.inr ((b : Int)))) else some (.inl ())
def L.zvuy (a : List (List Piece)) (b : (List Piece) → Option Bool) : Option Int := (forL (L.zvuy.B2 b) 0 a ()).bind fun c => Sum.elim (fun e => L.zvuy.J1 ()) (fun d => some d) c
def L.zbxi (a : List (List Piece)) (b : (List Piece) → Option Bool) : Option Bool := (L.zvuy a b).bind fun c => some (decide (c ≥ 0))
def L.zfxs (a : List Piece) : Option Bool := (L.zqwg a).bind fun b => some (!b)
def L.zspo.J2 (a : Unit) : Option Int := some 0
def L.zspo.B3 (a : Network) (b : Nat) (c : List Piece) (f : Unit) : Option (Unit ⊕ (Int)) := (L.zryf c).bind fun d => (ix a.Segments (b : Int)).bind fun e => if (d != e.2.Capacity) = true then some ((.inr (14))) else some (.inl ())
def L.zspo.J1 (a : Network) (b : List (List Piece)) (c : Bool) : Option Int := if c = true then some 9 else (forL (L.zspo.B3 a) 0 b ()).bind fun d => Sum.elim (fun f => L.zspo.J2 ()) (fun e => some e) d
def L.zspo (a : Network) (b : List (List Piece)) : Option Int := (L.zfta a).bind fun c => if (c != 0) = true then some c else if ((b.length : Int) != (a.Segments.length : Int)) = true then L.zspo.J1 a b true else (L.zbxi b (fun x => L.zfxs x)).bind fun d => L.zspo.J1 a b d
def L.zljn.J1 (a : List Piece) : Option (List Piece) := some a
def L.zljn.J3 (a : List Piece) : Option (List Piece) := some a
def L.zljn.J4 (c : Piece) (a : List Piece) (d : Bool) : Option (List Piece) := if d = true then (ix a (wr ((a.length : Int) - 1))).bind fun b => L.zljn.J3 (a.set b.1 (⟨b.2.Batch, wr (b.2.Volume + c.Volume)⟩ : Piece)) else (app? a ([c] : List Piece)).bind fun e => L.zljn.J3 e
def L.zljn.B2 (d : Nat) (b : Piece) (a : List Piece) : Option (List Piece) := if decide ((a.length : Int) > 0) = true then (ix a (wr ((a.length : Int) - 1))).bind fun c => L.zljn.J4 b a (c.2.Batch == b.Batch) else L.zljn.J4 b a false
def L.zljn (a : List Piece) (b : List Piece) : Option (List Piece) := (forS L.zljn.B2 0 b a).bind fun c => L.zljn.J1 c
def L.znde.J2 (a : (List Piece) × Int × Int) (b : List Piece) : Option (((List Piece) × Int × Int) ⊕ ((List Piece))) := some (.inl (b, wr (a.2.1 + 1), wr (a.2.2 - 1)))
def L.znde.B1 (a : (List Piece) × Int × Int) : Option (((List Piece) × Int × Int) ⊕ ((List Piece))) := if decide (a.2.1 < a.2.2) = true then (ix a.1 a.2.2).bind fun c => (ix a.1 a.2.1).bind fun b => (ix (a.1.set b.1 c.2) a.2.2).bind fun d => L.znde.J2 a ((a.1.set b.1 c.2).set d.1 b.2) else some ((.inr (a.1)))
def L.znde (a : List Piece) : Option (List Piece) := (loopN L.znde.B1 lots (a, 0, wr ((a.length : Int) - 1))).bind fun b => some b
def L.zqks (a : List Piece) : Option (List Piece) := (L.zgxj a).bind fun b => (L.znde b).bind fun c => some c
def L.zvgo (l : List Port) (q : List Int) (a : Int) (b : Bool) : Option (List (Int × Int)) := forS (fun k x acc => (ix q (k : Int)).bind fun r => if ((x.Node != a) || ((r.2 == 0) || (decide (r.2 > 0) != b))) = true then some acc else some (acc ++ [((k : Int), max r.2 (wr (0 - r.2)))])) 0 l []
def L.zxub (l : List Segment) (q : List Int) (a : Int) (b : Bool) : Option (List (Int × Int)) := forS (fun k x acc => (ix q (k : Int)).bind fun r => if (((r.2 == 0) || (b && ((L.ztzg x r.2).2 != a))) || (!b && ((L.ztzg x r.2).1 != a))) = true then some acc else some (acc ++ [((k : Int), max r.2 (wr (0 - r.2)))])) 0 l []
def L.zyjw.B1 (b : advance_line) (f : Nat) (a : Int × Int) (c : List Piece) : Option (List Piece) := (ix b.feeds a.1).bind fun d => (L.zljn c ([(⟨d.2, a.2⟩ : Piece)] : List Piece)).bind fun e => some e
def L.zyjw.B2 (a : advance_line) (f : Nat) (b : Int × Int) (c : List Piece) : Option (List Piece) := (ix a.given b.1).bind fun d => (L.zljn c d.2).bind fun e => some e
def L.zyjw (a : advance_line) (b : Int) : Option ((List Piece) × ((List (List Piece)) × (List (List Piece)) × (List (List Piece)))) := (L.zvgo a.n_.Ports a.p.Ports b true).bind fun c => (forS (L.zyjw.B1 a) 0 c []).bind fun d => (L.zxub a.n_.Segments a.p.Rates b true).bind fun e => (forS (L.zyjw.B2 a) 0 e d).bind fun f => some (f, (a.fills, a.given, a.out_))
def L.znry.J2 (a : advance_line) (b : Int) (c : Nat × (List Piece)) (d : (List Piece) × (List Piece) × Int) (e : List Piece) : Option (Int × ((List (List Piece)) × (List (List Piece)) × (List (List Piece)))) := (ix a.given b).bind fun f => some (0, ((a.fills.set c.1 d.1), (a.given.set f.1 e), a.out_))
def L.znry.J1 (a : advance_line) (c : Int) (e : Nat × Int) (f : List Piece) : Option (Int × ((List (List Piece)) × (List (List Piece)) × (List (List Piece)))) := (ix a.fills c).bind fun d => (L.zbil d.2 f (decide (e.2 < 0))).bind fun b => if (b.2.2 != 0) = true then some (4, (a.fills, a.given, a.out_)) else if (!(decide (e.2 < 0))) = true then (L.zqks b.2.1).bind fun g => L.znry.J2 a c d b g else L.znry.J2 a c d b b.2.1
def L.znry (a : advance_line) (b : Int) (d : List Piece) : Option (Int × ((List (List Piece)) × (List (List Piece)) × (List (List Piece)))) := (ix a.p.Rates b).bind fun c => if (!(decide (c.2 < 0))) = true then (L.zqks d).bind fun e => L.znry.J1 a b c e else L.znry.J1 a b c d
def L.zikm.B1 (d : Nat) (a : Int × Int) (b : List Int) : Option (List Int) := (app? b ([a.2] : List Int)).bind fun c => some c
def L.zikm.B2 (d : Nat) (a : Int × Int) (b : List Int) : Option (List Int) := (app? b ([a.2] : List Int)).bind fun c => some c
def L.zikm.B3 (b : (List (List Piece)) × Int) (f : Nat) (c : Int × Int) (a : (List (List Piece)) × Int) : Option ((List (List Piece)) × Int) := (ix b.1 a.2).bind fun d => (ix a.1 c.1).bind fun e => some ((a.1.set e.1 d.2), wr (a.2 + 1))
def L.zikm.B4 (c : advance_line) (d : (List (List Piece)) × Int) (g : Nat) (e : Int × Int) (b : (List (List Piece)) × (List (List Piece)) × (List (List Piece)) × Int) : Option (((List (List Piece)) × (List (List Piece)) × (List (List Piece)) × Int) ⊕ ((Int × ((List (List Piece)) × (List (List Piece)) × (List (List Piece)))))) := (ix d.1 b.2.2.2).bind fun f => (L.znry (⟨c.n_, c.p, c.feeds, c.order, b.1, b.2.1, b.2.2.1⟩ : advance_line) e.1 f.2).bind fun a => if (a.1 != 0) = true then some ((.inr ((a.1, (a.2.1, a.2.2.1, a.2.2.2))))) else some (.inl (a.2.1, a.2.2.1, a.2.2.2, wr (b.2.2.2 + 1)))
def L.zikm (b : advance_line) (c : Int) : Option (Int × ((List (List Piece)) × (List (List Piece)) × (List (List Piece)))) := (L.zyjw b c).bind fun a => if ((a.1.length : Int) == 0) = true then some (0, (a.2.1, a.2.2.1, a.2.2.2)) else if decide ((a.1.length : Int) > 200) = true then some (4, (a.2.1, a.2.2.1, a.2.2.2)) else (L.zvgo b.n_.Ports b.p.Ports c false).bind fun g => (forS L.zikm.B1 0 g []).bind fun h => (L.zxub b.n_.Segments b.p.Rates c false).bind fun i => (forS L.zikm.B2 0 i h).bind fun j => (L.zmxf a.1 j).bind fun d => if (d.2 != 0) = true then some (d.2, (a.2.1, a.2.2.1, a.2.2.2)) else (L.zvgo b.n_.Ports b.p.Ports c false).bind fun k => (forS (L.zikm.B3 d) 0 k (a.2.2.2, 0)).bind fun f => (L.zxub b.n_.Segments b.p.Rates c false).bind fun l => (forL (L.zikm.B4 b d) 0 l (a.2.1, a.2.2.1, f.1, f.2)).bind fun m => Sum.elim (fun e => some (0, (e.1, e.2.1, e.2.2.1))) (fun n => some n) m
def L.zlri.J2 (a : (List (List Piece)) × (List (List Piece)) × (List (List Piece))) : Option (Int × ((List (List Piece)) × (List (List Piece)) × (List (List Piece)))) := some (0, (a.1, a.2.1, a.2.2))
def L.zlri.B3 (b : advance_line) (e : Nat) (d : Int) (c : (List (List Piece)) × (List (List Piece)) × (List (List Piece))) : Option (((List (List Piece)) × (List (List Piece)) × (List (List Piece))) ⊕ ((Int × ((List (List Piece)) × (List (List Piece)) × (List (List Piece)))))) := (L.zikm (⟨b.n_, b.p, b.feeds, b.order, c.1, c.2.1, c.2.2⟩ : advance_line) d).bind fun a => if (a.1 != 0) = true then some ((.inr ((a.1, (a.2.1, a.2.2.1, a.2.2.2))))) else some (.inl (a.2.1, a.2.2.1, a.2.2.2))
def L.zlri.J1 (a : advance_line) (c : (List (List Piece)) × (List (List Piece))) : Option (Int × ((List (List Piece)) × (List (List Piece)) × (List (List Piece)))) := (forL (L.zlri.B3 a) 0 a.order (a.fills, c.1, c.2)).bind fun d => Sum.elim (fun b => L.zlri.J2 (b.1, b.2.1, b.2.2)) (fun e => some e) d
def L.zlri (a : advance_line) : Option (Int × ((List (List Piece)) × (List (List Piece)) × (List (List Piece)))) := (mk? (a.n_.Segments.length : Int) ([] : List Piece)).bind fun b => (mk? (a.n_.Ports.length : Int) ([] : List Piece)).bind fun c => L.zlri.J1 a (b, c)
def L.zhye (a : Int) : Bool := (decide (a < 0) || decide (a ≥ 1000))
def L.zvbn.J2 (a : Network) (b : Plan) (c : List Int) (d : (List Int) × Int) (e : List (List Piece)) : Option ((Option advance_line) × Int) := some ((some (⟨a, b, c, d.1, e, [], []⟩ : advance_line)), 0)
def L.zvbn.B3 (e : Nat) (a : List Piece) (b : List (List Piece)) : Option (List (List Piece)) := (L.zgxj a).bind fun c => (app? b ([c] : List (List Piece))).bind fun d => some d
def L.zvbn.J1 (a : Network) (b : List (List Piece)) (c : Plan) (d : List Int) (e : (List Int) × Int) (f : Bool) : Option ((Option advance_line) × Int) := if f = true then some (none, 9) else (forS L.zvbn.B3 0 b []).bind fun g => L.zvbn.J2 a c d e g
def L.zvbn (a : Network) (d : List (List Piece)) (e : Plan) (b : List Int) : Option ((Option advance_line) × Int) := (L.zspo a d).bind fun f => if (f != 0) = true then some (none, f) else (L.zyyp a e).bind fun c => if (c.2 != 0) = true then some (none, c.2) else if ((b.length : Int) != (a.Ports.length : Int)) = true then L.zvbn.J1 a d e b c true else (L.zvoj b (fun x => some (L.zhye x))).bind fun g => L.zvbn.J1 a d e b c g
def L.zcgl (c : Network) (d : List (List Piece)) (e : Plan) (f : List Int) : Option ((List (List Piece)) × (List (List Piece)) × Int) := (L.zvbn c d e f).bind fun a => opE a.1 (if (a.2 != 0) = true then some ([], [], a.2) else none) fun g => if (a.2 != 0) = true then some ([], [], a.2) else (L.zlri g).bind fun b => if (b.1 != 0) = true then some ([], [], b.1) else some (b.2.1, b.2.2.2, 0)
def L.zwqi.J1 (a : Int) : Option Int := some a
def L.zwqi.B2 (c : Nat) (a : Piece) (b : Int) : Option Int := some (wr (b + a.Volume))
def L.zwqi (a : List Piece) : Option Int := (forS L.zwqi.B2 0 a 0).bind fun b => L.zwqi.J1 b
def L.zuyb.J1 (a : List Piece) : Option (List Piece) := some a
def L.zuyb.J3 (a : List Piece) : Option (List Piece) := some a
def L.zuyb.J4 (c : Piece) (a : List Piece) (d : Bool) : Option (List Piece) := if d = true then (ix a (wr ((a.length : Int) - 1))).bind fun b => L.zuyb.J3 (a.set b.1 (⟨b.2.Batch, wr (b.2.Volume + c.Volume)⟩ : Piece)) else (app? a ([c] : List Piece)).bind fun e => L.zuyb.J3 e
def L.zuyb.B2 (d : Nat) (b : Piece) (a : List Piece) : Option (List Piece) := if (b.Volume == 0) = true then L.zuyb.J3 a else if decide ((a.length : Int) > 0) = true then (ix a (wr ((a.length : Int) - 1))).bind fun c => L.zuyb.J4 b a (c.2.Batch == b.Batch) else L.zuyb.J4 b a false
def L.zuyb (a : List Piece) : Option (List Piece) := (forS L.zuyb.B2 0 a []).bind fun b => L.zuyb.J1 b
structure Hop where
 Segment : Int
 Back : Bool
 deriving DecidableEq
def Hop.row (x : Hop) : List T := [.v (.int .i64 x.Segment), .v (.bool x.Back)]
def L.zqaf (a : List Int) : Bool := (decide ((a.length : Int) ≤ 400))
def L.zmsr.J1 (a : Int) : Option Int := some a
def L.zmsr.B2 (a : Piece → Option Int) (e : Nat) (b : Piece) (c : Int) : Option Int := (a b).bind fun d => some (wr (c + d))
def L.zmsr (a : List Piece) (b : Piece → Option Int) : Option Int := (forS (L.zmsr.B2 b) 0 a 0).bind fun c => L.zmsr.J1 c
def L.zljv (a : Piece) : Int := a.Volume
def L.zeou (a : List Piece) : Option Int := (L.zmsr a (fun x => some (L.zljv x))).bind fun b => some b
def L.zcpc.J2 (a : Unit) : Option (Int × Bool) := some (0, false)
def L.zcpc.B3 (b : List Piece) (c : Int) (a : Int) : Option (Int ⊕ ((Int × Bool) ⊕ Unit)) := if decide (a ≥ 0) = true then (ix b a).bind fun d => if (d.2.Batch == c) = true then (sub? b (wr (a + 1)) (b.length : Int)).bind fun e => (L.zeou e).bind fun f => some ((.inr (.inl ((f, true))))) else some (.inl (wr (a - 1))) else some ((.inr (.inr (()))))
def L.zcpc.J1 (a : List Piece) (b : Int) (f : Unit) : Option (Int × Bool) := (loopN (L.zcpc.B3 a b) lots (wr ((a.length : Int) - 1))).bind fun c => Sum.elim (fun d => some d) (fun e => L.zcpc.J2 e) c
def L.zcpc.J4 (a : Unit) : Option (Int × Bool) := some (0, false)
def L.zcpc.B5 (a : List Piece) (b : Int) (c : Nat) (d : Piece) (g : Unit) : Option (Unit ⊕ ((Int × Bool))) := if (d.Batch == b) = true then (sub? a 0 (c : Int)).bind fun e => (L.zeou e).bind fun f => some ((.inr ((f, true)))) else some (.inl ())
def L.zcpc (a : List Piece) (b : Int) (c : Bool) : Option (Int × Bool) := if c = true then (forL (L.zcpc.B5 a b) 0 a ()).bind fun d => Sum.elim (fun f => L.zcpc.J4 ()) (fun e => some e) d else L.zcpc.J1 a b ()
def L.zacw.J1 (a : List Hop) (b : Unit) : Option Bool := some (decide ((a.length : Int) ≤ 32))
def L.zacw.J3 (a : Int) (b : Int × Int) : Option (Int ⊕ (Bool)) := if (decide (a ≥ 0) && (b.1 != a)) = true then some ((.inr (false))) else some (.inl b.2)
def L.zacw.B2 (c : Network) (e : Nat) (a : Hop) (d : Int) : Option (Int ⊕ (Bool)) := if (decide (a.Segment < 0) || decide (a.Segment ≥ (c.Segments.length : Int))) = true then some ((.inr (false))) else (ix c.Segments a.Segment).bind fun b => if a.Back = true then L.zacw.J3 d (b.2.To, b.2.From) else L.zacw.J3 d (b.2.From, b.2.To)
def L.zacw (b : Network) (a : List Hop) : Option Bool := (forL (L.zacw.B2 b) 0 a (-1)).bind fun c => Sum.elim (fun e => L.zacw.J1 a ()) (fun d => some d) c
def L.zdws (a : Int) (b : Int) : Option (Int × Int) := if (decide (a < 0) || (decide (a > 1099511627776) || (decide (b < 1) || decide (b > 1000)))) = true then some (0, 1) else (quo? a b).bind fun c => some (c, 0)
def L.zpyk (a : Network) (f : List (List Piece)) (b : Int) (c : Int) : Option Int := (L.zfta a).bind fun d => if (d != 0) = true then some d else (L.zspo a f).bind fun e => if (e != 0) = true then some e else if (decide (b < 0) || decide (b ≥ (a.Ports.length : Int))) = true then some 8 else if (decide (c < 0) || decide (c > 400)) = true then some 1 else some 0
def L.zeyd.J1 (a : Unit) : Option (Int × Bool × Int) := some (0, false, 0)
def L.zeyd.B2 (d : Network) (e : List (List Piece)) (f : List Hop) (g : Int) (a : Int × Int) : Option ((Int × Int) ⊕ ((Int × Bool × Int) ⊕ Unit)) := if decide (a.2 ≥ 0) = true then (ix f a.2).bind fun b => (ix e b.2.Segment).bind fun h => (L.zcpc h.2 g b.2.Back).bind fun c => if c.2 = true then some ((.inr (.inl ((wr (a.1 + c.1), true, 0))))) else (ix d.Segments b.2.Segment).bind fun i => some (.inl (wr (a.1 + i.2.Capacity), wr (a.2 - 1))) else some ((.inr (.inr (()))))
def L.zeyd (a : Network) (c : List (List Piece)) (b : List Hop) (f : Int) : Option (Int × Bool × Int) := (L.zfta a).bind fun d => if (d != 0) = true then some (0, false, d) else (L.zspo a c).bind fun e => if (e != 0) = true then some (0, false, e) else (L.zacw a b).bind fun g => if (!g) = true then some (0, false, 11) else (loopN (L.zeyd.B2 a c b f) lots (0, wr ((b.length : Int) - 1))).bind fun h => Sum.elim (fun i => some i) (fun j => L.zeyd.J1 j) h
def L.zlie.J1 (a : Int × Bool) : Option (Int × Bool × Int) := some (a.1, a.2, 0)
def L.zlie.J3 (a : (List (List Piece)) × Int × Bool) : Option (((List (List Piece)) × Int × Bool) ⊕ ((Int × Bool × Int))) := some (.inl (a.1, a.2.1, a.2.2))
def L.zlie.J4 (b : (List (List Piece)) × (List (List Piece)) × Int) (a : Int × Bool) : Option (((List (List Piece)) × Int × Bool) ⊕ ((Int × Bool × Int))) := L.zlie.J3 (b.1, a.1, a.2)
def L.zlie.J6 (a : Int × Bool) : Option (Int × Bool) := some (a.1, a.2)
def L.zlie.B5 (c : Int) (d : Nat) (e : Nat) (b : Piece) (a : Int × Bool) : Option (Int × Bool) := if ((!a.2) && ((b.Batch == c) && decide (b.Volume > 0))) = true then L.zlie.J6 ((d : Int), true) else L.zlie.J6 (a.1, a.2)
def L.zlie.B2 (d : Network) (e : Plan) (f : List Int) (g : Int) (h : Int) (i : Nat) (b : (List (List Piece)) × Int × Bool) : Option (((List (List Piece)) × Int × Bool) ⊕ ((Int × Bool × Int))) := (L.zcgl d b.1 e f).bind fun a => if (a.2.2 != 0) = true then some ((.inr ((0, false, a.2.2)))) else (ix a.2.1 g).bind fun j => (forS (L.zlie.B5 h i) 0 j.2 (b.2.1, b.2.2)).bind fun c => L.zlie.J4 a (c.1, c.2)
def L.zlie (b : Network) (c : List (List Piece)) (g : Plan) (h : List Int) (d : Int) (i : Int) (a : Int) : Option (Int × Bool × Int) := (L.zpyk b c d a).bind fun e => if (e != 0) = true then some (0, false, e) else (chk (a ≤ 9223372036854775806)).bind fun l => (forI (L.zlie.B2 b g h d i) 0 a.toNat (c, 0, false)).bind fun j => Sum.elim (fun f => L.zlie.J1 (f.2.1, f.2.2)) (fun k => some k) j
def L.zvce (a : Int) : Network := (⟨([(⟨#[97]⟩ : ByteArray), (⟨#[98]⟩ : ByteArray)] : List ByteArray), ([(⟨(⟨#[103]⟩ : ByteArray), 0, 1, a, 0, 0, ([(⟨0, 0, 1000000⟩ : Point), (⟨a, 0, 1000000⟩ : Point)] : List Point)⟩ : Segment)] : List Segment), ([(⟨(⟨#[112]⟩ : ByteArray), 0, 300000⟩ : Port), (⟨(⟨#[113]⟩ : ByteArray), 1, 0⟩ : Port)] : List Port), [], 0, 0⟩ : Network)
def L.zuro : Option Bool := (L.zeyd (L.zvce 100) ([([(⟨1, 30⟩ : Piece), (⟨2, 70⟩ : Piece)] : List Piece)] : List (List Piece)) ([(⟨0, false⟩ : Hop)] : List Hop) 1).bind fun a => (L.zdws a.1 8).bind fun c => (L.zlie (L.zvce 100) ([([(⟨1, 30⟩ : Piece), (⟨2, 70⟩ : Piece)] : List Piece)] : List (List Piece)) (⟨([8] : List Int), ([8, (-8)] : List Int), []⟩ : Plan) ([3, 0] : List Int) 1 1 20).bind fun b => some ((a.2.2 == 0) && ((c.2 == 0) && ((b.2.2 == 0) && (a.2.1 && (b.2.1 && ((a.1 == 70) && ((c.1 == 8) && (b.1 == 8))))))))
def L.zmae (a : Int) (b : Int) (c : Int) : Bool := (decide (a ≥ b) && decide (a ≤ c))
def L.zghg.J3 (a : Network) (b : List ByteArray) (c : List ByteArray) (d : List ByteArray) : Option (Arr (List ByteArray) 4) := some (⟨[a.Nodes, b, c, d], rfl⟩ : Arr (List ByteArray) 4)
def L.zghg.B4 (d : Nat) (a : Station) (b : List ByteArray) : Option (List ByteArray) := (app? b ([a.Name] : List ByteArray)).bind fun c => some c
def L.zghg.J2 (a : Network) (b : List ByteArray) (c : List ByteArray) : Option (Arr (List ByteArray) 4) := (forS L.zghg.B4 0 a.Stations []).bind fun d => L.zghg.J3 a b c d
def L.zghg.B5 (d : Nat) (a : Port) (b : List ByteArray) : Option (List ByteArray) := (app? b ([a.Name] : List ByteArray)).bind fun c => some c
def L.zghg.J1 (a : Network) (b : List ByteArray) : Option (Arr (List ByteArray) 4) := (forS L.zghg.B5 0 a.Ports []).bind fun c => L.zghg.J2 a b c
def L.zghg.B6 (d : Nat) (a : Segment) (b : List ByteArray) : Option (List ByteArray) := (app? b ([a.Name] : List ByteArray)).bind fun c => some c
def L.zghg (a : Network) : Option (Arr (List ByteArray) 4) := (forS L.zghg.B6 0 a.Segments []).bind fun b => L.zghg.J1 a b
def L.zgmr.J2 (a : Unit) : Option Bool := some true
def L.zgmr.J4 (a : Int) (b : Bool) : Option (Int ⊕ (Bool ⊕ Unit)) := if b = true then some ((.inr (.inl (false)))) else some (.inl (wr (a + 1)))
def L.zgmr.B3 (c : ByteArray) (b : Int) : Option (Int ⊕ (Bool ⊕ Unit)) := if decide (b < (c.size : Int)) = true then (ixs c b).bind fun a => if decide (a.2 < 97) = true then if decide (a.2 < 48) = true then L.zgmr.J4 b (a.2 != 45) else if decide (a.2 > 57) = true then L.zgmr.J4 b (a.2 != 45) else L.zgmr.J4 b false else if decide (a.2 > 122) = true then if decide (a.2 < 48) = true then L.zgmr.J4 b (a.2 != 45) else if decide (a.2 > 57) = true then L.zgmr.J4 b (a.2 != 45) else L.zgmr.J4 b false else L.zgmr.J4 b false else some ((.inr (.inr (()))))
def L.zgmr.J1 (a : ByteArray) (b : Bool) : Option Bool := if b = true then some false else (loopN (L.zgmr.B3 a) lots 0).bind fun c => Sum.elim (fun d => some d) (fun e => L.zgmr.J2 e) c
def L.zgmr (a : ByteArray) : Option Bool := if decide ((a.size : Int) < 1) = true then L.zgmr.J1 a true else if decide ((a.size : Int) > 12) = true then L.zgmr.J1 a true else (ixs a 0).bind fun b => if decide (b.2 < 97) = true then L.zgmr.J1 a true else L.zgmr.J1 a (decide (b.2 > 122))
def L.zaag.J1 (a : Unit) : Option Bool := some false
def L.zaag.J3 (a : Unit) : Option (Unit ⊕ (Bool)) := some (.inl ())
def L.zaag.B4 (b : List ByteArray) (c : Nat) (d : ByteArray) (a : Int) : Option (Int ⊕ (Bool ⊕ Unit)) := if decide (a < (c : Int)) = true then (ix b a).bind fun e => if sEq d e.2 = true then some ((.inr (.inl (true)))) else some (.inl (wr (a + 1))) else some ((.inr (.inr (()))))
def L.zaag.B2 (a : List ByteArray) (b : Nat) (c : ByteArray) (g : Unit) : Option (Unit ⊕ (Bool)) := (loopN (L.zaag.B4 a b c) lots 0).bind fun d => Sum.elim (fun e => some ((.inr (e)))) (fun f => L.zaag.J3 f) d
def L.zaag (a : List ByteArray) : Option Bool := (forL (L.zaag.B2 a) 0 a ()).bind fun b => Sum.elim (fun d => L.zaag.J1 ()) (fun c => some c) b
def L.zimi.J2 (a : Unit) : Option Bool := some true
def L.zimi.J4 (a : Bool) : Option (Unit ⊕ (Bool)) := if a = true then some ((.inr (false))) else some (.inl ())
def L.zimi.B3 (c : Segment) (b : Nat) (a : Point) (e : Unit) : Option (Unit ⊕ (Bool)) := if decide ((b : Int) > 0) = true then (ix c.Points (wr ((b : Int) - 1))).bind fun d => if decide (a.At ≤ d.2.At) = true then L.zimi.J4 true else if (!(L.zmae a.Height (-500) 5000)) = true then L.zimi.J4 true else L.zimi.J4 (!(L.zmae a.Limit 0 100000000)) else if (!(L.zmae a.Height (-500) 5000)) = true then L.zimi.J4 true else L.zimi.J4 (!(L.zmae a.Limit 0 100000000))
def L.zimi.J1 (a : Segment) (b : Bool) : Option Bool := if b = true then some false else (forL (L.zimi.B3 a) 0 a.Points ()).bind fun c => Sum.elim (fun e => L.zimi.J2 ()) (fun d => some d) c
def L.zimi (a : Segment) : Option Bool := if (a.From == a.To) = true then L.zimi.J1 a true else if (!(L.zmae a.Capacity 1 1000000)) = true then L.zimi.J1 a true else if (!(L.zmae a.Resist 0 1000)) = true then L.zimi.J1 a true else if (!(L.zmae a.Wave 0 100000)) = true then L.zimi.J1 a true else (ix a.Points 0).bind fun b => if (b.2.At != 0) = true then L.zimi.J1 a true else (ix a.Points (wr ((a.Points.length : Int) - 1))).bind fun c => L.zimi.J1 a (c.2.At != a.Capacity)
def L.zgcl.J10 (a : Network) (b : Unit) : Option Int := if ((!(L.zmae a.Vapour (-100000) 100000000)) || (!(L.zmae a.Settle 0 100))) = true then some 9 else some 0
def L.zgcl.B11 (b : Nat) (a : Station) (c : Unit) : Option (Unit ⊕ (Int)) := if ((!(L.zmae a.Head 0 100000000)) || ((!(L.zmae a.Fall 0 100000)) || (!(L.zmae a.Suction 0 100000000)))) = true then some ((.inr (9))) else some (.inl ())
def L.zgcl.J9 (a : Network) (d : Unit) : Option Int := (forL L.zgcl.B11 0 a.Stations ()).bind fun b => Sum.elim (fun e => L.zgcl.J10 a ()) (fun c => some c) b
def L.zgcl.B12 (b : Nat) (a : Port) (c : Unit) : Option (Unit ⊕ (Int)) := if (!(L.zmae a.Pressure 0 100000000)) = true then some ((.inr (9))) else some (.inl ())
def L.zgcl.J8 (a : Network) (d : Unit) : Option Int := (forL L.zgcl.B12 0 a.Ports ()).bind fun b => Sum.elim (fun e => L.zgcl.J9 a ()) (fun c => some c) b
def L.zgcl.B13 (c : Nat) (a : Segment) (d : Unit) : Option (Unit ⊕ (Int)) := (L.zimi a).bind fun b => if (!b) = true then some ((.inr (9))) else some (.inl ())
def L.zgcl.J7 (a : Network) (d : Unit) : Option Int := (forL L.zgcl.B13 0 a.Segments ()).bind fun b => Sum.elim (fun e => L.zgcl.J8 a ()) (fun c => some c) b
def L.zgcl.B14 (a : Network) (c : Nat) (b : Station) (d : Unit) : Option (Unit ⊕ (Int)) := if (!(L.zmae b.Node 0 (wr ((a.Nodes.length : Int) - 1)))) = true then some ((.inr (8))) else some (.inl ())
def L.zgcl.J6 (a : Network) (d : Unit) : Option Int := (forL (L.zgcl.B14 a) 0 a.Stations ()).bind fun b => Sum.elim (fun e => L.zgcl.J7 a ()) (fun c => some c) b
def L.zgcl.B15 (a : Network) (c : Nat) (b : Port) (d : Unit) : Option (Unit ⊕ (Int)) := if (!(L.zmae b.Node 0 (wr ((a.Nodes.length : Int) - 1)))) = true then some ((.inr (8))) else some (.inl ())
def L.zgcl.J5 (a : Network) (d : Unit) : Option Int := (forL (L.zgcl.B15 a) 0 a.Ports ()).bind fun b => Sum.elim (fun e => L.zgcl.J6 a ()) (fun c => some c) b
def L.zgcl.B16 (a : Network) (c : Nat) (b : Segment) (d : Unit) : Option (Unit ⊕ (Int)) := if ((!(L.zmae b.From 0 (wr ((a.Nodes.length : Int) - 1)))) || (!(L.zmae b.To 0 (wr ((a.Nodes.length : Int) - 1))))) = true then some ((.inr (8))) else some (.inl ())
def L.zgcl.J4 (a : Network) (d : Unit) : Option Int := (forL (L.zgcl.B16 a) 0 a.Segments ()).bind fun b => Sum.elim (fun e => L.zgcl.J5 a ()) (fun c => some c) b
def L.zgcl.J18 (a : Unit) : Option (Unit ⊕ (Int)) := some (.inl ())
def L.zgcl.B19 (b : Network) (c : Nat) (d : Station) (a : Int) : Option (Int ⊕ (Int ⊕ Unit)) := if decide (a < (c : Int)) = true then (ix b.Stations a).bind fun e => if (d.Node == e.2.Node) = true then some ((.inr (.inl (7)))) else some (.inl (wr (a + 1))) else some ((.inr (.inr (()))))
def L.zgcl.B17 (a : Network) (b : Nat) (c : Station) (g : Unit) : Option (Unit ⊕ (Int)) := (loopN (L.zgcl.B19 a b c) lots 0).bind fun d => Sum.elim (fun e => some ((.inr (e)))) (fun f => L.zgcl.J18 f) d
def L.zgcl.J3 (a : Network) (d : Unit) : Option Int := (forL (L.zgcl.B17 a) 0 a.Stations ()).bind fun b => Sum.elim (fun e => L.zgcl.J4 a ()) (fun c => some c) b
def L.zgcl.B20 (a : Arr (List ByteArray) 4) (b : Nat) (e : Unit) : Option (Unit ⊕ (Int)) := (ix a.l (b : Int)).bind fun c => (L.zaag c.2).bind fun d => if d = true then some ((.inr (7))) else some (.inl ())
def L.zgcl.J2 (a : Network) (b : Arr (List ByteArray) 4) (e : Unit) : Option Int := (forI (L.zgcl.B20 b) 0 4 ()).bind fun c => Sum.elim (fun f => L.zgcl.J3 a ()) (fun d => some d) c
def L.zgcl.J22 (a : Unit) : Option (Unit ⊕ (Int)) := some (.inl ())
def L.zgcl.B23 (c : Nat) (a : ByteArray) (d : Unit) : Option (Unit ⊕ (Int)) := (L.zgmr a).bind fun b => if (!b) = true then some ((.inr (3))) else some (.inl ())
def L.zgcl.B21 (a : Arr (List ByteArray) 4) (b : Nat) (f : Unit) : Option (Unit ⊕ (Int)) := (ix a.l (b : Int)).bind fun c => (forL L.zgcl.B23 0 c.2 ()).bind fun d => Sum.elim (fun g => L.zgcl.J22 ()) (fun e => some ((.inr (e)))) d
def L.zgcl.J1 (a : Network) (e : Unit) : Option Int := (L.zghg a).bind fun b => (forI (L.zgcl.B21 b) 0 4 ()).bind fun c => Sum.elim (fun f => L.zgcl.J2 a b ()) (fun d => some d) c
def L.zgcl.B24 (b : Nat) (a : Segment) (c : Unit) : Option (Unit ⊕ (Int)) := if (!(L.zmae (a.Points.length : Int) 2 8)) = true then some ((.inr (4))) else some (.inl ())
def L.zgcl (a : Network) : Option Int := if ((!(L.zmae (a.Nodes.length : Int) 1 24)) || (decide ((a.Segments.length : Int) > 32) || (decide ((a.Ports.length : Int) > 24) || decide ((a.Stations.length : Int) > 12)))) = true then some 4 else (forL L.zgcl.B24 0 a.Segments ()).bind fun b => Sum.elim (fun d => L.zgcl.J1 a ()) (fun c => some c) b
def L.zdwa (a : Segment) (b : Int) : (Int × Int) := if decide (b < 0) = true then (a.To, a.From) else (a.From, a.To)
def L.zuap (a : Int) : Int := (max a (wr (0 - a)))
def L.zeew.J2 (a : Int × Int) : Option (Int × Int) := some (a.1, a.2)
def L.zeew.J4 (a : Int × Int) : Option (Int × Int) := some (a.1, a.2)
def L.zeew.B3 (c : Plan) (d : Int) (e : Nat) (f : Port) (a : Int × Int) : Option (Int × Int) := if (f.Node == d) = true then (ix c.Ports (e : Int)).bind fun b => L.zeew.J4 (wr (a.1 + (max 0 b.2)), wr (a.2 + (max 0 (wr (0 - b.2))))) else L.zeew.J4 (a.1, a.2)
def L.zeew.J1 (c : Network) (d : Plan) (e : Int) (a : Int × Int) : Option (Int × Int) := (forS (L.zeew.B3 d e) 0 c.Ports (a.1, a.2)).bind fun b => L.zeew.J2 (b.1, b.2)
def L.zeew.J6 (a : Int × Int) : Option (Int × Int) := some (a.1, a.2)
def L.zeew.J7 (d : Int) (e : Segment) (a : Int × Int) (b : Nat × Int) (c : Int) : Option (Int × Int) := if (((L.zdwa e b.2).2) == d) = true then L.zeew.J6 (wr (a.1 + (L.zuap b.2)), c) else L.zeew.J6 (a.1, c)
def L.zeew.B5 (e : Plan) (c : Int) (f : Nat) (d : Segment) (a : Int × Int) : Option (Int × Int) := (ix e.Rates (f : Int)).bind fun b => if (b.2 == 0) = true then L.zeew.J6 (a.1, a.2) else if (((L.zdwa d b.2).1) == c) = true then L.zeew.J7 c d a b (wr (a.2 + (L.zuap b.2))) else L.zeew.J7 c d a b a.2
def L.zeew (a : Network) (b : Plan) (c : Int) : Option (Int × Int) := (forS (L.zeew.B5 b c) 0 a.Segments (0, 0)).bind fun d => L.zeew.J1 a b c (d.1, d.2)
def L.zaew.J2 (a : (List Int) × (List Bool)) (b : Int) : Option (((List Int) × (List Bool)) ⊕ ((List Int))) := if decide (b < 0) = true then some ((.inr (a.1))) else (app? a.1 ([b] : List Int)).bind fun c => (ix a.2 b).bind fun d => some (.inl (c, (a.2.set d.1 true)))
def L.zaew.J4 (a : Int) : Option Int := some a
def L.zaew.J5 (b : Nat) (a : Int) (c : Bool) : Option Int := if (c && decide (a < 0)) = true then L.zaew.J4 (b : Int) else L.zaew.J4 a
def L.zaew.J7 (a : Bool) : Option Bool := some a
def L.zaew.B6 (d : Plan) (e : (List Int) × (List Bool)) (f : Nat) (g : Nat) (b : Segment) (c : Bool) : Option Bool := (ix d.Rates (g : Int)).bind fun a => if (a.2 != 0) = true then if c = true then if (((L.zdwa b a.2).2) != (f : Int)) = true then L.zaew.J7 true else (ix e.2 ((L.zdwa b a.2).1)).bind fun h => L.zaew.J7 h.2 else L.zaew.J7 false else L.zaew.J7 c
def L.zaew.B3 (c : Network) (d : Plan) (b : (List Int) × (List Bool)) (a : Nat) (h : ByteArray) (e : Int) : Option Int := (ix b.2 (a : Int)).bind fun f => (forS (L.zaew.B6 d b a) 0 c.Segments (!f.2)).bind fun g => L.zaew.J5 a e g
def L.zaew.B1 (a : Network) (c : Plan) (b : (List Int) × (List Bool)) : Option (((List Int) × (List Bool)) ⊕ ((List Int))) := (forS (L.zaew.B3 a c b) 0 a.Nodes (-1)).bind fun d => L.zaew.J2 b d
def L.zaew (a : Network) (b : Plan) : Option (List Int) := (mk? (a.Nodes.length : Int) false).bind fun c => (loopN (L.zaew.B1 a b) lots ([], c)).bind fun d => some d
def L.zvqa.J3 (a : Network) (b : Plan) (d : Unit) : Option Int := (L.zaew a b).bind fun c => if ((c.length : Int) != (a.Nodes.length : Int)) = true then some 13 else some 0
def L.zvqa.B4 (b : Network) (c : Plan) (d : Nat) (e : ByteArray) (f : Unit) : Option (Unit ⊕ (Int)) := (L.zeew b c (d : Int)).bind fun a => if (a.1 != a.2) = true then some ((.inr (12))) else some (.inl ())
def L.zvqa.J2 (a : Network) (b : Plan) (e : Unit) : Option Int := (forL (L.zvqa.B4 a b) 0 a.Nodes ()).bind fun c => Sum.elim (fun f => L.zvqa.J3 a b ()) (fun d => some d) c
def L.zvqa.B5 (b : Nat) (a : Int) (c : Unit) : Option (Unit ⊕ (Int)) := if (decide (a < (-1000)) || decide (a > 1000)) = true then some ((.inr (1))) else some (.inl ())
def L.zvqa.J1 (b : Network) (a : Plan) (e : Unit) : Option Int := (forL L.zvqa.B5 0 a.Ports ()).bind fun c => Sum.elim (fun f => L.zvqa.J2 b a ()) (fun d => some d) c
def L.zvqa.B6 (c : Network) (d : Nat) (a : Int) (e : Unit) : Option (Unit ⊕ (Int)) := (ix c.Segments (d : Int)).bind fun b => if (decide (a < (wr (0 - (min 1000 b.2.Capacity)))) || decide (a > (min 1000 b.2.Capacity))) = true then some ((.inr (1))) else some (.inl ())
def L.zvqa (a : Network) (b : Plan) : Option Int := (L.zgcl a).bind fun c => if (c != 0) = true then some c else if (((b.Rates.length : Int) != (a.Segments.length : Int)) || (((b.Ports.length : Int) != (a.Ports.length : Int)) || ((b.Pumps.length : Int) != (a.Stations.length : Int)))) = true then some 9 else (forL (L.zvqa.B6 a) 0 b.Rates ()).bind fun d => Sum.elim (fun f => L.zvqa.J1 a b ()) (fun e => some e) d
structure Lot where
 Batch : Int
 Volume : Int
 Done : Int
 deriving DecidableEq
def Lot.row (x : Lot) : List T := [.v (.int .i64 x.Batch), .v (.int .i64 x.Volume), .v (.int .i64 x.Done)]
def L.zrct.J1 (a : List Lot) : Option ((List Lot) × Int) := some (a, 0)
def L.zrct.J3 (a : (List (List Piece)) × (List Lot)) : Option (((List (List Piece)) × (List Lot)) ⊕ (((List Lot) × Int))) := some (.inl (a.1, a.2))
def L.zrct.J4 (a : (List (List Piece)) × (List (List Piece)) × Int) (b : List Lot) : Option (((List (List Piece)) × (List Lot)) ⊕ (((List Lot) × Int))) := L.zrct.J3 (a.1, b)
def L.zrct.J6 (a : List Lot) : Option (List Lot) := some a
def L.zrct.J7 (d : Nat) (b : Piece) (a : List Lot) (e : Bool) : Option (List Lot) := if e = true then (ix a (wr ((a.length : Int) - 1))).bind fun c => L.zrct.J6 (a.set c.1 (⟨c.2.Batch, wr (c.2.Volume + b.Volume), c.2.Done⟩ : Lot)) else if decide (b.Volume > 0) = true then (app? a ([(⟨b.Batch, b.Volume, (d : Int)⟩ : Lot)] : List Lot)).bind fun f => L.zrct.J6 f else L.zrct.J6 a
def L.zrct.B5 (c : Nat) (e : Nat) (b : Piece) (a : List Lot) : Option (List Lot) := if decide ((wr ((a.length : Int) - 1)) ≥ 0) = true then (ix a (wr ((a.length : Int) - 1))).bind fun d => L.zrct.J7 c b a (d.2.Batch == b.Batch) else L.zrct.J7 c b a false
def L.zrct.B2 (c : Network) (d : Plan) (e : List Int) (f : Int) (g : Nat) (b : (List (List Piece)) × (List Lot)) : Option (((List (List Piece)) × (List Lot)) ⊕ (((List Lot) × Int))) := (L.zcgl c b.1 d e).bind fun a => if (a.2.2 != 0) = true then some ((.inr (([], a.2.2)))) else (ix a.2.1 f).bind fun h => (forS (L.zrct.B5 g) 0 h.2 b.2).bind fun i => L.zrct.J4 a i
def L.zrct (b : Network) (c : List (List Piece)) (f : Plan) (g : List Int) (d : Int) (a : Int) : Option ((List Lot) × Int) := (L.zpyk b c d a).bind fun e => if (e != 0) = true then some ([], e) else (chk (a ≤ 9223372036854775806)).bind fun k => (forI (L.zrct.B2 b f g d) 0 a.toNat (c, [])).bind fun h => Sum.elim (fun i => L.zrct.J1 i.2) (fun j => some j) h
def L.zcjy (a : Int) : Bool := (decide (a ≥ 0) && decide (a < 1000))
def L.zmux.J1 (a : Int) : Option Bool := some (decide (a ≤ 1000000))
def L.zmux.J3 (a : Piece) (b : Int) (c : Bool) : Option (Int ⊕ (Bool)) := if c = true then some ((.inr (false))) else some (.inl (wr (b + a.Volume)))
def L.zmux.B2 (d : List Piece) (c : Nat) (a : Piece) (b : Int) : Option (Int ⊕ (Bool)) := if (!(L.zcjy a.Batch)) = true then L.zmux.J3 a b true else if decide (a.Volume < 1) = true then L.zmux.J3 a b true else if decide (a.Volume > 1000000) = true then L.zmux.J3 a b true else if decide ((c : Int) > 0) = true then (ix d (wr ((c : Int) - 1))).bind fun e => L.zmux.J3 a b (a.Batch == e.2.Batch) else L.zmux.J3 a b false
def L.zmux (a : List Piece) : Option Bool := if decide ((a.length : Int) > 200) = true then some false else (forL (L.zmux.B2 a) 0 a 0).bind fun b => Sum.elim (fun c => L.zmux.J1 c) (fun d => some d) b
def L.zjfe.J2 (a : Unit) : Option Int := some 0
def L.zjfe.B3 (a : Network) (b : Nat) (c : List Piece) (f : Unit) : Option (Unit ⊕ (Int)) := (L.zwqi c).bind fun d => (ix a.Segments (b : Int)).bind fun e => if (d != e.2.Capacity) = true then some ((.inr (14))) else some (.inl ())
def L.zjfe.J1 (a : Network) (b : List (List Piece)) (e : Unit) : Option Int := (forL (L.zjfe.B3 a) 0 b ()).bind fun c => Sum.elim (fun f => L.zjfe.J2 ()) (fun d => some d) c
def L.zjfe.B4 (c : Nat) (a : List Piece) (d : Unit) : Option (Unit ⊕ (Int)) := (L.zmux a).bind fun b => if (!b) = true then some ((.inr (9))) else some (.inl ())
def L.zjfe (a : Network) (b : List (List Piece)) : Option Int := (L.zgcl a).bind fun c => if (c != 0) = true then some c else if ((b.length : Int) != (a.Segments.length : Int)) = true then some 9 else (forL L.zjfe.B4 0 b ()).bind fun d => Sum.elim (fun f => L.zjfe.J1 a b ()) (fun e => some e) d
def L.zfjh (a : Network) (b : Plan) : Option ((List Int) × Int) := (L.zvqa a b).bind fun c => if (c != 0) = true then some ([], c) else (L.zaew a b).bind fun d => some (d, 0)
def L.zcdm.J1 (a : Int) : Option Int := some a
def L.zcdm.J3 (a : Int) : Option Int := some a
def L.zcdm.J4 (a : Nat) (b : Int) (c : Bool) : Option Int := if c = true then L.zcdm.J3 (a : Int) else L.zcdm.J3 b
def L.zcdm.B2 (e : List Int) (c : List Int) (b : Nat) (d : Int) (a : Int) : Option Int := if decide (d > 0) = true then if decide (a < 0) = true then L.zcdm.J4 b a true else (ix c (b : Int)).bind fun f => (ix e a).bind fun g => (ix c a).bind fun h => L.zcdm.J4 b a (decide ((wr ((wr (f.2 + 1)) * g.2)) < (wr ((wr (h.2 + 1)) * d)))) else L.zcdm.J4 b a false
def L.zcdm (a : List Int) (b : List Int) : Option Int := (forS (L.zcdm.B2 a b) 0 a (-1)).bind fun c => L.zcdm.J1 c
def L.zjah.J2 (a : List (List Piece)) : Option (List (List Piece)) := some a
def L.zjah.B3 (c : Nat) (a : List (List Piece)) : Option (List (List Piece)) := (ix a (c : Int)).bind fun b => (L.zuyb b.2).bind fun d => some (a.set b.1 d)
def L.zjah.J1 (a : List (List Piece)) : Option (List (List Piece)) := (forJ L.zjah.B3 0 a.length a).bind fun b => L.zjah.J2 b
def L.zjah.J5 (a : (List (List Piece)) × (List Int)) : Option ((List (List Piece)) × (List Int)) := some (a.1, a.2)
def L.zjah.B7 (d : Piece) (e : List Int) (f : List Int) (a : Nat) (j : Int) (b : List (List Piece)) : Option (List (List Piece)) := (ix b (a : Int)).bind fun c => (ix f (a : Int)).bind fun g => (ix e (a : Int)).bind fun h => (app? c.2 ([(⟨d.Batch, wr (g.2 - h.2)⟩ : Piece)] : List Piece)).bind fun i => some (b.set c.1 i)
def L.zjah.J6 (b : List Int) (c : Piece) (d : (List (List Piece)) × (List Int)) (e : List Int) (a : List Int) : Option ((List (List Piece)) × (List Int)) := (forS (L.zjah.B7 c e a) 0 b d.1).bind fun f => L.zjah.J5 (f, a)
def L.zjah.B8 (c : List Int) (d : Piece) (a : (List Int) × Int) : Option (((List Int) × Int) ⊕ ((List Int))) := if decide (a.2 < d.Volume) = true then (L.zcdm c a.1).bind fun e => (ix a.1 e).bind fun b => some (.inl ((a.1.set b.1 (wr (b.2 + 1))), wr (a.2 + 1))) else some ((.inr (a.1)))
def L.zjah.B4 (b : List Int) (f : Nat) (c : Piece) (a : (List (List Piece)) × (List Int)) : Option ((List (List Piece)) × (List Int)) := (app? ([] : List Int) a.2).bind fun d => (loopN (L.zjah.B8 b c) lots (a.2, 0)).bind fun e => L.zjah.J6 b c a d e
def L.zjah (b : List Piece) (a : List Int) : Option (List (List Piece)) := (mk? (a.length : Int) ([] : List Piece)).bind fun c => (mk? (a.length : Int) (0 : Int)).bind fun d => (forS (L.zjah.B4 a) 0 b (c, d)).bind fun e => L.zjah.J1 e.1
def L.zewb.J1 (a : (List Piece) × (List Piece)) : Option ((List Piece) × (List Piece)) := (L.zuyb a.1).bind fun b => (L.zuyb a.2).bind fun c => some (b, c)
def L.zewb.J3 (c : Piece) (a : Int × (List Piece) × (List Piece)) (b : (List Piece) × (List Piece)) : Option (Int × (List Piece) × (List Piece)) := some (wr (a.1 - (min a.1 c.Volume)), b.1, b.2)
def L.zewb.B2 (e : Nat) (a : Piece) (b : Int × (List Piece) × (List Piece)) : Option (Int × (List Piece) × (List Piece)) := (app? b.2.1 ([(⟨a.Batch, (min b.1 a.Volume)⟩ : Piece)] : List Piece)).bind fun c => (app? b.2.2 ([(⟨a.Batch, wr (a.Volume - (min b.1 a.Volume))⟩ : Piece)] : List Piece)).bind fun d => L.zewb.J3 a b (c, d)
def L.zewb (b : List Piece) (c : Int) : Option ((List Piece) × (List Piece)) := (forS L.zewb.B2 0 b (c, [], [])).bind fun a => L.zewb.J1 (a.2.1, a.2.2)
def L.ziwy (a : List Piece) (b : List Piece) (e : Bool) : Option ((List Piece) × (List Piece)) := if e = true then (app? ([] : List Piece) a).bind fun f => (app? f b).bind fun g => (L.zwqi b).bind fun h => (L.zewb g h).bind fun c => some (c.2, c.1) else (app? ([] : List Piece) b).bind fun i => (app? i a).bind fun j => (L.zwqi a).bind fun k => (L.zewb j k).bind fun d => some (d.1, d.2)
def L.zkim.J1 (a : Unit) : Option Int := some 0
def L.zkim.B2 (b : Nat) (a : Int) (c : Unit) : Option (Unit ⊕ (Int)) := if (!(L.zcjy a)) = true then some ((.inr (9))) else some (.inl ())
def L.zkim (a : Network) (e : List (List Piece)) (f : Plan) (b : List Int) : Option Int := (L.zjfe a e).bind fun c => if (c != 0) = true then some c else (L.zvqa a f).bind fun d => if (d != 0) = true then some d else if ((b.length : Int) != (a.Ports.length : Int)) = true then some 9 else (forL L.zkim.B2 0 b ()).bind fun g => Sum.elim (fun i => L.zkim.J1 ()) (fun h => some h) g
def L.zyjz.J1 (a : List Piece) : Option (List Piece) := some a
def L.zyjz.B2 (b : List Piece) (a : (List Piece) × Int) : Option (((List Piece) × Int) ⊕ ((List Piece))) := if decide (a.2 ≥ 0) = true then (ix b a.2).bind fun c => (app? a.1 ([c.2] : List Piece)).bind fun d => some (.inl (d, wr (a.2 - 1))) else some ((.inr (a.1)))
def L.zyjz (a : List Piece) : Option (List Piece) := (loopN (L.zyjz.B2 a) lots ([], wr ((a.length : Int) - 1))).bind fun b => L.zyjz.J1 b
def L.zthj.J5 (a : (List (List Piece)) × (List (List Piece)) × (List (List Piece)) × Bool) (b : Bool) : Option ((List (List Piece)) × (List (List Piece)) × Int) := if b = true then some ([], [], 4) else some (a.1, a.2.1, 0)
def L.zthj.J7 (a : Bool) : Option Bool := some a
def L.zthj.B6 (a : (List (List Piece)) × (List (List Piece)) × (List (List Piece)) × Bool) (b : Nat) (c : Bool) : Option Bool := if c = true then L.zthj.J7 true else (ix a.2.1 (b : Int)).bind fun d => L.zthj.J7 (decide ((d.2.length : Int) > 200))
def L.zthj.J4 (a : (List (List Piece)) × (List (List Piece)) × (List (List Piece)) × Bool) (b : Bool) : Option ((List (List Piece)) × (List (List Piece)) × Int) := (forJ (L.zthj.B6 a) 0 a.2.1.length b).bind fun c => L.zthj.J5 a c
def L.zthj.J9 (a : Bool) : Option Bool := some a
def L.zthj.B8 (a : (List (List Piece)) × (List (List Piece)) × (List (List Piece)) × Bool) (b : Nat) (c : Bool) : Option Bool := if c = true then L.zthj.J9 true else (ix a.1 (b : Int)).bind fun d => if decide ((d.2.length : Int) > 200) = true then L.zthj.J9 true else (ix a.2.2.1 (b : Int)).bind fun e => L.zthj.J9 (decide ((e.2.length : Int) > 200))
def L.zthj.J3 (a : (List (List Piece)) × (List (List Piece)) × (List (List Piece)) × Bool) : Option ((List (List Piece)) × (List (List Piece)) × Int) := (forJ (L.zthj.B8 a) 0 a.1.length a.2.2.2).bind fun b => L.zthj.J4 a b
def L.zthj.J11 (a : (List (List Piece)) × (List (List Piece)) × (List (List Piece)) × Bool) : Option ((List (List Piece)) × (List (List Piece)) × (List (List Piece)) × Bool) := some (a.1, a.2.1, a.2.2.1, a.2.2.2)
def L.zthj.J17 (a : (List (List Piece)) × (List (List Piece))) (b : Nat × Int) (c : Nat × (List Piece)) (d : (List Piece) × (List Piece)) (e : List Piece) : Option ((List (List Piece)) × (List (List Piece))) := (ix a.2 b.2).bind fun f => some ((a.1.set c.1 d.1), (a.2.set f.1 e))
def L.zthj.J16 (b : (List (List Piece)) × (List (List Piece))) (c : Nat × Int) (e : Nat × Int) (f : List Piece) : Option ((List (List Piece)) × (List (List Piece))) := (ix b.1 c.2).bind fun d => (L.ziwy d.2 f (decide (e.2 < 0))).bind fun a => if (!(decide (e.2 < 0))) = true then (L.zyjz a.2).bind fun g => L.zthj.J17 b c d a g else L.zthj.J17 b c d a a.2
def L.zthj.B15 (f : Plan) (g : (List Piece) × (List Int) × (List Int)) (h : (List Piece) × (List Int) × (List Int)) (i : List (List Piece)) (c : Nat) (d : (List (List Piece)) × (List (List Piece))) : Option ((List (List Piece)) × (List (List Piece))) := (ix h.2.2 (c : Int)).bind fun a => (ix i (wr ((g.2.2.length : Int) + (c : Int)))).bind fun e => (ix f.Rates a.2).bind fun b => if (!(decide (b.2 < 0))) = true then (L.zyjz e.2).bind fun j => L.zthj.J16 d a b j else L.zthj.J16 d a b e.2
def L.zthj.J14 (d : Plan) (a : (List (List Piece)) × (List (List Piece)) × (List (List Piece)) × Bool) (e : (List Piece) × (List Int) × (List Int)) (b : (List Piece) × (List Int) × (List Int)) (f : List Piece) (g : List (List Piece)) (h : List (List Piece)) : Option ((List (List Piece)) × (List (List Piece)) × (List (List Piece)) × Bool) := (forJ (L.zthj.B15 d e b g) 0 b.2.2.length (a.1, a.2.2.1)).bind fun c => L.zthj.J11 (c.1, h, c.2, (a.2.2.2 || decide ((f.length : Int) > 200)))
def L.zthj.B18 (c : (List Piece) × (List Int) × (List Int)) (d : List (List Piece)) (a : Nat) (b : List (List Piece)) : Option (List (List Piece)) := (ix c.2.2 (a : Int)).bind fun e => (ix d (a : Int)).bind fun f => (ix b e.2).bind fun g => some (b.set g.1 f.2)
def L.zthj.J13 (f : Plan) (a : (List (List Piece)) × (List (List Piece)) × (List (List Piece)) × Bool) (c : (List Piece) × (List Int) × (List Int)) (d : (List Piece) × (List Int) × (List Int)) : Option ((List (List Piece)) × (List (List Piece)) × (List (List Piece)) × Bool) := (L.zuyb d.1).bind fun b => if ((b.length : Int) == 0) = true then L.zthj.J11 (a.1, a.2.1, a.2.2.1, (a.2.2.2 || decide ((b.length : Int) > 200))) else (L.zjah b d.2.1).bind fun e => (forJ (L.zthj.B18 c e) 0 c.2.2.length a.2.1).bind fun g => L.zthj.J14 f a c d b e g
def L.zthj.J20 (a : (List Piece) × (List Int) × (List Int)) : Option ((List Piece) × (List Int) × (List Int)) := some (a.1, a.2.1, a.2.2)
def L.zthj.J21 (d : Nat × Int) (e : Nat) (f : Segment) (a : (List Piece) × (List Int) × (List Int)) (b : Nat × Int) (c : List Piece) : Option ((List Piece) × (List Int) × (List Int)) := if (((L.zdwa f b.2).1) == d.2) = true then (app? a.2.1 ([(L.zuap b.2)] : List Int)).bind fun g => (app? a.2.2 ([(e : Int)] : List Int)).bind fun h => L.zthj.J20 (c, g, h) else L.zthj.J20 (c, a.2.1, a.2.2)
def L.zthj.B19 (f : Plan) (g : (List (List Piece)) × (List (List Piece)) × (List (List Piece)) × Bool) (d : Nat × Int) (b : Nat) (e : Segment) (a : (List Piece) × (List Int) × (List Int)) : Option ((List Piece) × (List Int) × (List Int)) := (ix f.Rates (b : Int)).bind fun c => if (c.2 == 0) = true then L.zthj.J20 (a.1, a.2.1, a.2.2) else if (((L.zdwa e c.2).2) == d.2) = true then (ix g.2.2.1 (b : Int)).bind fun h => (app? a.1 h.2).bind fun i => L.zthj.J21 d b e a c i else L.zthj.J21 d b e a c a.1
def L.zthj.J12 (e : Network) (c : Plan) (d : (List (List Piece)) × (List (List Piece)) × (List (List Piece)) × Bool) (f : Nat × Int) (a : (List Piece) × (List Int) × (List Int)) : Option ((List (List Piece)) × (List (List Piece)) × (List (List Piece)) × Bool) := (forS (L.zthj.B19 c d f) 0 e.Segments (a.1, a.2.1, [])).bind fun b => L.zthj.J13 c d a (b.1, b.2.1, b.2.2)
def L.zthj.J23 (a : (List Piece) × (List Int) × (List Int)) : Option ((List Piece) × (List Int) × (List Int)) := some (a.1, a.2.1, a.2.2)
def L.zthj.J25 (d : Plan) (b : Nat) (a : (List Piece) × (List Int) × (List Int)) (c : List Piece) (e : Bool) : Option ((List Piece) × (List Int) × (List Int)) := if e = true then (ix d.Ports (b : Int)).bind fun f => (app? a.2.1 ([wr (0 - f.2)] : List Int)).bind fun g => (app? a.2.2 ([(b : Int)] : List Int)).bind fun h => L.zthj.J23 (c, g, h) else L.zthj.J23 (c, a.2.1, a.2.2)
def L.zthj.J24 (a : Plan) (e : Nat × Int) (b : Nat) (f : Port) (c : (List Piece) × (List Int) × (List Int)) (d : List Piece) : Option ((List Piece) × (List Int) × (List Int)) := if (f.Node == e.2) = true then (ix a.Ports (b : Int)).bind fun g => L.zthj.J25 a b c d (decide (g.2 < 0)) else L.zthj.J25 a b c d false
def L.zthj.J26 (c : Plan) (f : List Int) (d : Nat × Int) (a : Nat) (e : Port) (b : (List Piece) × (List Int) × (List Int)) (g : Bool) : Option ((List Piece) × (List Int) × (List Int)) := if g = true then (ix f (a : Int)).bind fun h => (ix c.Ports (a : Int)).bind fun i => (app? b.1 ([(⟨h.2, i.2⟩ : Piece)] : List Piece)).bind fun j => L.zthj.J24 c d a e b j else L.zthj.J24 c d a e b b.1
def L.zthj.B22 (a : Plan) (e : List Int) (b : Nat × Int) (c : Nat) (d : Port) (f : (List Piece) × (List Int) × (List Int)) : Option ((List Piece) × (List Int) × (List Int)) := if (d.Node == b.2) = true then (ix a.Ports (c : Int)).bind fun g => L.zthj.J26 a e b c d f (decide (g.2 > 0)) else L.zthj.J26 a e b c d f false
def L.zthj.B10 (b : Network) (c : Plan) (e : List Int) (f : (List Int) × Int) (g : Nat) (h : (List (List Piece)) × (List (List Piece)) × (List (List Piece)) × Bool) : Option ((List (List Piece)) × (List (List Piece)) × (List (List Piece)) × Bool) := (ix f.1 (g : Int)).bind fun d => (forS (L.zthj.B22 c e d) 0 b.Ports ([], [], [])).bind fun a => L.zthj.J12 b c h d (a.1, a.2.1, a.2.2)
def L.zthj.J2 (b : Network) (c : Plan) (e : List Int) (f : (List (List Piece)) × (List (List Piece))) (g : List (List Piece)) (h : List (List Piece)) : Option ((List (List Piece)) × (List (List Piece)) × Int) := (L.zfjh b c).bind fun d => (forJ (L.zthj.B10 b c e d) 0 d.1.length (h, f.2, g, false)).bind fun a => L.zthj.J3 (a.1, a.2.1, a.2.2.1, a.2.2.2)
def L.zthj.B27 (b : Nat) (c : List Piece) (a : List (List Piece)) : Option (List (List Piece)) := (app? ([] : List Piece) c).bind fun d => (ix a (b : Int)).bind fun e => some (a.set e.1 d)
def L.zthj.J1 (c : Network) (a : List (List Piece)) (d : Plan) (e : List Int) (b : (List (List Piece)) × (List (List Piece))) : Option ((List (List Piece)) × (List (List Piece)) × Int) := (mk? (a.length : Int) ([] : List Piece)).bind fun f => (forS L.zthj.B27 0 a b.1).bind fun g => L.zthj.J2 c d e b f g
def L.zthj (a : Network) (b : List (List Piece)) (c : Plan) (d : List Int) : Option ((List (List Piece)) × (List (List Piece)) × Int) := (L.zkim a b c d).bind fun e => if (e != 0) = true then some ([], [], e) else (mk? (b.length : Int) ([] : List Piece)).bind fun f => (mk? (a.Ports.length : Int) ([] : List Piece)).bind fun g => L.zthj.J1 a b c d (f, g)
end Go.Proofs.YtaliejncdnegeaaGreat
