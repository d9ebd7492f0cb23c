/- Tables and pure functions. No condition. -/
import Derived.Test.YtehbcbedipkifaaGreatDoorZxB2
import Derived.Test.YtehbcbedipkifaaGreatDoorRows
import Derived.KernelRfl
import Derived.Shelf.Sort.Plain
import Derived.Shelf.Slices.CompactI
import Derived.Sort.OwnSortedInts
import Derived.Test.YtehbcbedipkifaaGreatDoorProg
set_option maxRecDepth 100000
namespace Go.Aw
set_option linter.unusedVariables false
set_option linter.unusedSimpArgs false
inductive TT where
 | nil
 | node (l : TT) (k : Nat) (x : TI) (r : TT)
def getTT : TT → Nat → Option TI
 | .nil, _ => none
 | .node l k x r, i => bif Nat.beq k i then some x else bif Nat.ble k i then getTT r i else getTT l i
def allTT (P : Program) : TT → Prop
 | .nil => True
 | .node l k x r => allTT P l ∧ tiOf P k = some x ∧ allTT P r
theorem getTT_ok {P : Program} : ∀ {t : TT} {i : Nat} {x : TI}, allTT P t → getTT t i = some x → tiOf P i = some x
 | .nil, _, _, _, h => by simp [getTT] at h
 | .node l k y r, i, x, ha, h => by
  simp only [getTT] at h
  cases hb : Nat.beq k i with
  | true =>
   have := Nat.eq_of_beq_eq_true hb
   simp only [hb, cond_true, Option.some.injEq] at h
   subst h this; exact ha.2.1
  | false =>
   simp only [hb, cond_false] at h
   cases hc : Nat.ble k i with
   | true => simp only [hc, cond_true] at h; exact getTT_ok ha.2.2 h
   | false => simp only [hc, cond_false] at h; exact getTT_ok ha.1 h
end Go.Aw
namespace Go.Proofs.YtehbcbedipkifaaGreatDoor
open Go.Aw
@[reducible] def Tryz.x3 : TI := { kind := .int .i64, size := 1, bytes := 8, zero := some (.int .i64 0) }
@[reducible] def Tryz.x4 : TI := { kind := .bool, size := 1, bytes := 1, zero := some (.bool false) }
@[reducible] def Tryz.x5 : TI := { kind := .int .u8, size := 1, bytes := 1, zero := some (.int .u8 0) }
@[reducible] def Tryz.x9 : TI := { kind := .string, size := 1, bytes := 16, zero := some (.string ⟨#[]⟩) }
@[reducible] def Tryz.x22 : TI := { kind := .slice 9, size := 1, bytes := 24, zero := some (.slice none 0 0) }
@[reducible] def Tryz.x23 : TI := { kind := .slice 77, size := 1, bytes := 24, zero := some (.slice none 0 0) }
@[reducible] def Tryz.x24 : TI := { kind := .slice 74, size := 1, bytes := 24, zero := some (.slice none 0 0) }
@[reducible] def Tryz.x25 : TI := { kind := .slice 83, size := 1, bytes := 24, zero := some (.slice none 0 0) }
@[reducible] def Tryz.x27 : TI := { kind := .struct [(0, 22), (1, 23), (2, 24), (3, 25), (4, 3), (5, 3)], size := 6, bytes := 112, zero := some (.agg #[.slice none 0 0, .slice none 0 0, .slice none 0 0, .slice none 0 0, .int .i64 0, .int .i64 0]) }
@[reducible] def Tryz.x28 : TI := { kind := .slice 135, size := 1, bytes := 24, zero := some (.slice none 0 0) }
@[reducible] def Tryz.x29 : TI := { kind := .slice 3, size := 1, bytes := 24, zero := some (.slice none 0 0) }
@[reducible] def Tryz.x30 : TI := { kind := .slice 4, size := 1, bytes := 24, zero := some (.slice none 0 0) }
@[reducible] def Tryz.x32 : TI := { kind := .struct [(0, 29), (1, 29), (2, 30)], size := 3, bytes := 72, zero := some (.agg #[.slice none 0 0, .slice none 0 0, .slice none 0 0]) }
@[reducible] def Tryz.x33 : TI := { kind := .slice 71, size := 1, bytes := 24, zero := some (.slice none 0 0) }
@[reducible] def Tryz.x34 : TI := { kind := .slice 38, size := 1, bytes := 24, zero := some (.slice none 0 0) }
@[reducible] def Tryz.x36 : TI := { kind := .struct [(0, 30), (1, 33), (2, 34)], size := 3, bytes := 72, zero := some (.agg #[.slice none 0 0, .slice none 0 0, .slice none 0 0]) }
@[reducible] def Tryz.x38 : TI := { kind := .slice 81, size := 1, bytes := 24, zero := some (.slice none 0 0) }
@[reducible] def Tryz.x41 : TI := { kind := .slice 46, size := 1, bytes := 24, zero := some (.slice none 0 0) }
@[reducible] def Tryz.x42 : TI := { kind := .slice 48, size := 1, bytes := 24, zero := some (.slice none 0 0) }
@[reducible] def Tryz.x46 : TI := { kind := .struct [(0, 9), (1, 3), (2, 3), (3, 3), (4, 3)], size := 5, bytes := 48, zero := some (.agg #[.string ⟨#[]⟩, .int .i64 0, .int .i64 0, .int .i64 0, .int .i64 0]) }
@[reducible] def Tryz.x48 : TI := { kind := .slice 102, size := 1, bytes := 24, zero := some (.slice none 0 0) }
@[reducible] def Tryz.x51 : TI := { kind := .slice 27, size := 1, bytes := 24, zero := some (.slice none 0 0) }
@[reducible] def Tryz.x53 : TI := { kind := .slice 32, size := 1, bytes := 24, zero := some (.slice none 0 0) }
@[reducible] def Tryz.x54 : TI := { kind := .slice 28, size := 1, bytes := 24, zero := some (.slice none 0 0) }
@[reducible] def Tryz.x55 : TI := { kind := .int .i64, size := 1, bytes := 8, zero := some (.int .i64 0) }
@[reducible] def Tryz.x59 : TI := { kind := .struct [(0, 3), (1, 3), (2, 3)], size := 3, bytes := 24, zero := some (.agg #[.int .i64 0, .int .i64 0, .int .i64 0]) }
@[reducible] def Tryz.x63 : TI := { kind := .slice 36, size := 1, bytes := 24, zero := some (.slice none 0 0) }
@[reducible] def Tryz.x64 : TI := { kind := .slice 29, size := 1, bytes := 24, zero := some (.slice none 0 0) }
@[reducible] def Tryz.x71 : TI := { kind := .struct [(0, 3), (1, 3)], size := 2, bytes := 16, zero := some (.agg #[.int .i64 0, .int .i64 0]) }
@[reducible] def Tryz.x74 : TI := { kind := .struct [(0, 9), (1, 3), (2, 3)], size := 3, bytes := 32, zero := some (.agg #[.string ⟨#[]⟩, .int .i64 0, .int .i64 0]) }
@[reducible] def Tryz.x75 : TI := { kind := .slice 104, size := 1, bytes := 24, zero := some (.slice none 0 0) }
@[reducible] def Tryz.x77 : TI := { kind := .struct [(0, 9), (1, 3), (2, 3), (3, 3), (4, 3), (5, 3), (6, 75)], size := 7, bytes := 80, zero := some (.agg #[.string ⟨#[]⟩, .int .i64 0, .int .i64 0, .int .i64 0, .int .i64 0, .int .i64 0, .slice none 0 0]) }
@[reducible] def Tryz.x81 : TI := { kind := .struct [(0, 3), (1, 71)], size := 3, bytes := 24, zero := some (.agg #[.int .i64 0, .int .i64 0, .int .i64 0]) }
@[reducible] def Tryz.x83 : TI := { kind := .struct [(0, 9), (1, 3), (2, 3), (3, 3), (4, 3)], size := 5, bytes := 48, zero := some (.agg #[.string ⟨#[]⟩, .int .i64 0, .int .i64 0, .int .i64 0, .int .i64 0]) }
@[reducible] def Tryz.x86 : TI := { kind := .int .u32, size := 1, bytes := 4, zero := some (.int .u32 0) }
@[reducible] def Tryz.x102 : TI := { kind := .struct [(0, 3), (1, 3)], size := 2, bytes := 16, zero := some (.agg #[.int .i64 0, .int .i64 0]) }
@[reducible] def Tryz.x104 : TI := { kind := .struct [(0, 3), (1, 3), (2, 3)], size := 3, bytes := 24, zero := some (.agg #[.int .i64 0, .int .i64 0, .int .i64 0]) }
@[reducible] def Tryz.x106 : TI := { kind := .struct [(0, 29), (1, 3)], size := 2, bytes := 32, zero := some (.agg #[.slice none 0 0, .int .i64 0]) }
@[reducible] def Tryz.x123 : TI := { kind := .struct [(0, 27), (6, 28), (7, 41), (8, 42), (9, 32), (12, 36)], size := 15, bytes := 328, zero := some (.agg #[.slice none 0 0, .slice none 0 0, .slice none 0 0, .slice none 0 0, .int .i64 0, .int .i64 0, .slice none 0 0, .slice none 0 0, .slice none 0 0, .slice none 0 0, .slice none 0 0, .slice none 0 0, .slice none 0 0, .slice none 0 0, .slice none 0 0]) }
@[reducible] def Tryz.x128 : TI := { kind := .other, size := 1, bytes := 8, zero := some (.nilFunc) }
@[reducible] def Tryz.x129 : TI := { kind := .slice 128, size := 1, bytes := 24, zero := some (.slice none 0 0) }
@[reducible] def Tryz.x135 : TI := { kind := .struct [(0, 3), (1, 9), (2, 3), (3, 3)], size := 4, bytes := 40, zero := some (.agg #[.int .i64 0, .string ⟨#[]⟩, .int .i64 0, .int .i64 0]) }
@[reducible] def Tryz.x157 : TI := { kind := .slice 5, size := 1, bytes := 24, zero := some (.slice none 0 0) }
@[reducible] def Tryz.x163 : TI := { kind := .array 24 3, size := 24, bytes := 192, zero := some (.agg #[.int .i64 0, .int .i64 0, .int .i64 0, .int .i64 0, .int .i64 0, .int .i64 0, .int .i64 0, .int .i64 0, .int .i64 0, .int .i64 0, .int .i64 0, .int .i64 0, .int .i64 0, .int .i64 0, .int .i64 0, .int .i64 0, .int .i64 0, .int .i64 0, .int .i64 0, .int .i64 0, .int .i64 0, .int .i64 0, .int .i64 0, .int .i64 0]) }
@[reducible] def Tryz.x165 : TI := { kind := .struct [(0, 163), (24, 163)], size := 48, bytes := 384, zero := some (.agg #[.int .i64 0, .int .i64 0, .int .i64 0, .int .i64 0, .int .i64 0, .int .i64 0, .int .i64 0, .int .i64 0, .int .i64 0, .int .i64 0, .int .i64 0, .int .i64 0, .int .i64 0, .int .i64 0, .int .i64 0, .int .i64 0, .int .i64 0, .int .i64 0, .int .i64 0, .int .i64 0, .int .i64 0, .int .i64 0, .int .i64 0, .int .i64 0, .int .i64 0, .int .i64 0, .int .i64 0, .int .i64 0, .int .i64 0, .int .i64 0, .int .i64 0, .int .i64 0, .int .i64 0, .int .i64 0, .int .i64 0, .int .i64 0, .int .i64 0, .int .i64 0, .int .i64 0, .int .i64 0, .int .i64 0, .int .i64 0, .int .i64 0, .int .i64 0, .int .i64 0, .int .i64 0, .int .i64 0, .int .i64 0]) }
@[reducible] def Tryz.x168 : TI := { kind := .array 4 22, size := 4, bytes := 96, zero := some (.agg #[.slice none 0 0, .slice none 0 0, .slice none 0 0, .slice none 0 0]) }
@[reducible] def Tryz.x172 : TI := { kind := .array 4 3, size := 4, bytes := 32, zero := some (.agg #[.int .i64 0, .int .i64 0, .int .i64 0, .int .i64 0]) }
@[reducible] def Tryz.x175 : TI := { kind := .struct [(0, 3), (1, 3)], size := 2, bytes := 16, zero := some (.agg #[.int .i64 0, .int .i64 0]) }
@[reducible] def Tryz.x176 : TI := { kind := .array 4 175, size := 8, bytes := 64, zero := some (.agg #[.int .i64 0, .int .i64 0, .int .i64 0, .int .i64 0, .int .i64 0, .int .i64 0, .int .i64 0, .int .i64 0]) }
@[reducible] def Tryz.x180 : TI := { kind := .slice 186, size := 1, bytes := 24, zero := some (.slice none 0 0) }
@[reducible] def Tryz.x186 : TI := { kind := .struct [(0, 3), (1, 3), (2, 3), (3, 46)], size := 8, bytes := 72, zero := some (.agg #[.int .i64 0, .int .i64 0, .int .i64 0, .string ⟨#[]⟩, .int .i64 0, .int .i64 0, .int .i64 0, .int .i64 0]) }
@[reducible] def Tryz.x207 : TI := { kind := .struct [(0, 83)], size := 5, bytes := 48, zero := some (.agg #[.string ⟨#[]⟩, .int .i64 0, .int .i64 0, .int .i64 0, .int .i64 0]) }
@[reducible] def Tryz.x210 : TI := { kind := .int .u64, size := 1, bytes := 8, zero := some (.int .u64 0) }
@[reducible] def Tryz.x215 : TI := { kind := .int .i64, size := 1, bytes := 8, zero := some (.int .i64 0) }
@[reducible] def Tryz.x224 : TI := { kind := .int .u64, size := 1, bytes := 8, zero := some (.int .u64 0) }
@[reducible] def Tryz.x225 : TI := { kind := .int .u64, size := 1, bytes := 8, zero := some (.int .u64 0) }
def Tryz.tabT : TT := (.node (.node (.node (.node (.node (.node .nil 3 Tryz.x3 .nil) 4 Tryz.x4 (.node .nil 5 Tryz.x5 .nil)) 9 Tryz.x9 (.node (.node .nil 22 Tryz.x22 .nil) 23 Tryz.x23 (.node .nil 24 Tryz.x24 .nil))) 25 Tryz.x25 (.node (.node (.node .nil 27 Tryz.x27 .nil) 28 Tryz.x28 (.node .nil 29 Tryz.x29 .nil)) 30 Tryz.x30 (.node (.node .nil 32 Tryz.x32 .nil) 33 Tryz.x33 .nil))) 34 Tryz.x34 (.node (.node (.node (.node .nil 36 Tryz.x36 .nil) 38 Tryz.x38 (.node .nil 41 Tryz.x41 .nil)) 42 Tryz.x42 (.node (.node .nil 46 Tryz.x46 .nil) 48 Tryz.x48 .nil)) 51 Tryz.x51 (.node (.node (.node .nil 53 Tryz.x53 .nil) 54 Tryz.x54 (.node .nil 55 Tryz.x55 .nil)) 59 Tryz.x59 (.node (.node .nil 63 Tryz.x63 .nil) 64 Tryz.x64 .nil)))) 71 Tryz.x71 (.node (.node (.node (.node (.node .nil 74 Tryz.x74 .nil) 75 Tryz.x75 (.node .nil 77 Tryz.x77 .nil)) 81 Tryz.x81 (.node (.node .nil 83 Tryz.x83 .nil) 86 Tryz.x86 .nil)) 102 Tryz.x102 (.node (.node (.node .nil 104 Tryz.x104 .nil) 106 Tryz.x106 (.node .nil 123 Tryz.x123 .nil)) 128 Tryz.x128 (.node (.node .nil 129 Tryz.x129 .nil) 135 Tryz.x135 .nil))) 157 Tryz.x157 (.node (.node (.node (.node .nil 163 Tryz.x163 .nil) 165 Tryz.x165 (.node .nil 168 Tryz.x168 .nil)) 172 Tryz.x172 (.node (.node .nil 175 Tryz.x175 .nil) 176 Tryz.x176 .nil)) 180 Tryz.x180 (.node (.node (.node .nil 186 Tryz.x186 .nil) 207 Tryz.x207 (.node .nil 210 Tryz.x210 .nil)) 215 Tryz.x215 (.node (.node .nil 224 Tryz.x224 .nil) 225 Tryz.x225 .nil)))))
theorem Tryz.ti3 : tiOf Tryz.prog 3 = some { kind := .int .i64, size := 1, bytes := 8, zero := some (.int .i64 0) } := by kernel_rfl
theorem Tryz.ti4 : tiOf Tryz.prog 4 = some { kind := .bool, size := 1, bytes := 1, zero := some (.bool false) } := by kernel_rfl
theorem Tryz.ti5 : tiOf Tryz.prog 5 = some { kind := .int .u8, size := 1, bytes := 1, zero := some (.int .u8 0) } := by kernel_rfl
theorem Tryz.ti9 : tiOf Tryz.prog 9 = some { kind := .string, size := 1, bytes := 16, zero := some (.string ⟨#[]⟩) } := by kernel_rfl
theorem Tryz.ti22 : tiOf Tryz.prog 22 = some { kind := .slice 9, size := 1, bytes := 24, zero := some (.slice none 0 0) } := by kernel_rfl
theorem Tryz.ti23 : tiOf Tryz.prog 23 = some { kind := .slice 77, size := 1, bytes := 24, zero := some (.slice none 0 0) } := by kernel_rfl
theorem Tryz.ti24 : tiOf Tryz.prog 24 = some { kind := .slice 74, size := 1, bytes := 24, zero := some (.slice none 0 0) } := by kernel_rfl
theorem Tryz.ti25 : tiOf Tryz.prog 25 = some { kind := .slice 83, size := 1, bytes := 24, zero := some (.slice none 0 0) } := by kernel_rfl
theorem Tryz.ti27 : tiOf Tryz.prog 27 = some { kind := .struct [(0, 22), (1, 23), (2, 24), (3, 25), (4, 3), (5, 3)], size := 6, bytes := 112, zero := some (.agg #[.slice none 0 0, .slice none 0 0, .slice none 0 0, .slice none 0 0, .int .i64 0, .int .i64 0]) } := by kernel_rfl
theorem Tryz.ti28 : tiOf Tryz.prog 28 = some { kind := .slice 135, size := 1, bytes := 24, zero := some (.slice none 0 0) } := by kernel_rfl
theorem Tryz.ti29 : tiOf Tryz.prog 29 = some { kind := .slice 3, size := 1, bytes := 24, zero := some (.slice none 0 0) } := by kernel_rfl
theorem Tryz.ti30 : tiOf Tryz.prog 30 = some { kind := .slice 4, size := 1, bytes := 24, zero := some (.slice none 0 0) } := by kernel_rfl
theorem Tryz.ti32 : tiOf Tryz.prog 32 = some { kind := .struct [(0, 29), (1, 29), (2, 30)], size := 3, bytes := 72, zero := some (.agg #[.slice none 0 0, .slice none 0 0, .slice none 0 0]) } := by kernel_rfl
theorem Tryz.ti33 : tiOf Tryz.prog 33 = some { kind := .slice 71, size := 1, bytes := 24, zero := some (.slice none 0 0) } := by kernel_rfl
theorem Tryz.ti34 : tiOf Tryz.prog 34 = some { kind := .slice 38, size := 1, bytes := 24, zero := some (.slice none 0 0) } := by kernel_rfl
theorem Tryz.ti36 : tiOf Tryz.prog 36 = some { kind := .struct [(0, 30), (1, 33), (2, 34)], size := 3, bytes := 72, zero := some (.agg #[.slice none 0 0, .slice none 0 0, .slice none 0 0]) } := by kernel_rfl
theorem Tryz.ti38 : tiOf Tryz.prog 38 = some { kind := .slice 81, size := 1, bytes := 24, zero := some (.slice none 0 0) } := by kernel_rfl
theorem Tryz.ti41 : tiOf Tryz.prog 41 = some { kind := .slice 46, size := 1, bytes := 24, zero := some (.slice none 0 0) } := by kernel_rfl
theorem Tryz.ti42 : tiOf Tryz.prog 42 = some { kind := .slice 48, size := 1, bytes := 24, zero := some (.slice none 0 0) } := by kernel_rfl
theorem Tryz.ti46 : tiOf Tryz.prog 46 = some { kind := .struct [(0, 9), (1, 3), (2, 3), (3, 3), (4, 3)], size := 5, bytes := 48, zero := some (.agg #[.string ⟨#[]⟩, .int .i64 0, .int .i64 0, .int .i64 0, .int .i64 0]) } := by kernel_rfl
theorem Tryz.ti48 : tiOf Tryz.prog 48 = some { kind := .slice 102, size := 1, bytes := 24, zero := some (.slice none 0 0) } := by kernel_rfl
theorem Tryz.ti51 : tiOf Tryz.prog 51 = some { kind := .slice 27, size := 1, bytes := 24, zero := some (.slice none 0 0) } := by kernel_rfl
theorem Tryz.ti53 : tiOf Tryz.prog 53 = some { kind := .slice 32, size := 1, bytes := 24, zero := some (.slice none 0 0) } := by kernel_rfl
theorem Tryz.ti54 : tiOf Tryz.prog 54 = some { kind := .slice 28, size := 1, bytes := 24, zero := some (.slice none 0 0) } := by kernel_rfl
theorem Tryz.ti55 : tiOf Tryz.prog 55 = some { kind := .int .i64, size := 1, bytes := 8, zero := some (.int .i64 0) } := by kernel_rfl
theorem Tryz.ti59 : tiOf Tryz.prog 59 = some { kind := .struct [(0, 3), (1, 3), (2, 3)], size := 3, bytes := 24, zero := some (.agg #[.int .i64 0, .int .i64 0, .int .i64 0]) } := by kernel_rfl
theorem Tryz.ti63 : tiOf Tryz.prog 63 = some { kind := .slice 36, size := 1, bytes := 24, zero := some (.slice none 0 0) } := by kernel_rfl
theorem Tryz.ti64 : tiOf Tryz.prog 64 = some { kind := .slice 29, size := 1, bytes := 24, zero := some (.slice none 0 0) } := by kernel_rfl
theorem Tryz.ti71 : tiOf Tryz.prog 71 = some { kind := .struct [(0, 3), (1, 3)], size := 2, bytes := 16, zero := some (.agg #[.int .i64 0, .int .i64 0]) } := by kernel_rfl
theorem Tryz.ti74 : tiOf Tryz.prog 74 = some { kind := .struct [(0, 9), (1, 3), (2, 3)], size := 3, bytes := 32, zero := some (.agg #[.string ⟨#[]⟩, .int .i64 0, .int .i64 0]) } := by kernel_rfl
theorem Tryz.ti75 : tiOf Tryz.prog 75 = some { kind := .slice 104, size := 1, bytes := 24, zero := some (.slice none 0 0) } := by kernel_rfl
theorem Tryz.ti77 : tiOf Tryz.prog 77 = some { kind := .struct [(0, 9), (1, 3), (2, 3), (3, 3), (4, 3), (5, 3), (6, 75)], size := 7, bytes := 80, zero := some (.agg #[.string ⟨#[]⟩, .int .i64 0, .int .i64 0, .int .i64 0, .int .i64 0, .int .i64 0, .slice none 0 0]) } := by kernel_rfl
theorem Tryz.ti81 : tiOf Tryz.prog 81 = some { kind := .struct [(0, 3), (1, 71)], size := 3, bytes := 24, zero := some (.agg #[.int .i64 0, .int .i64 0, .int .i64 0]) } := by kernel_rfl
theorem Tryz.ti83 : tiOf Tryz.prog 83 = some { kind := .struct [(0, 9), (1, 3), (2, 3), (3, 3), (4, 3)], size := 5, bytes := 48, zero := some (.agg #[.string ⟨#[]⟩, .int .i64 0, .int .i64 0, .int .i64 0, .int .i64 0]) } := by kernel_rfl
theorem Tryz.ti86 : tiOf Tryz.prog 86 = some { kind := .int .u32, size := 1, bytes := 4, zero := some (.int .u32 0) } := by kernel_rfl
theorem Tryz.ti102 : tiOf Tryz.prog 102 = some { kind := .struct [(0, 3), (1, 3)], size := 2, bytes := 16, zero := some (.agg #[.int .i64 0, .int .i64 0]) } := by kernel_rfl
theorem Tryz.ti104 : tiOf Tryz.prog 104 = some { kind := .struct [(0, 3), (1, 3), (2, 3)], size := 3, bytes := 24, zero := some (.agg #[.int .i64 0, .int .i64 0, .int .i64 0]) } := by kernel_rfl
theorem Tryz.ti106 : tiOf Tryz.prog 106 = some { kind := .struct [(0, 29), (1, 3)], size := 2, bytes := 32, zero := some (.agg #[.slice none 0 0, .int .i64 0]) } := by kernel_rfl
theorem Tryz.ti123 : tiOf Tryz.prog 123 = some { kind := .struct [(0, 27), (6, 28), (7, 41), (8, 42), (9, 32), (12, 36)], size := 15, bytes := 328, zero := some (.agg #[.slice none 0 0, .slice none 0 0, .slice none 0 0, .slice none 0 0, .int .i64 0, .int .i64 0, .slice none 0 0, .slice none 0 0, .slice none 0 0, .slice none 0 0, .slice none 0 0, .slice none 0 0, .slice none 0 0, .slice none 0 0, .slice none 0 0]) } := by kernel_rfl
theorem Tryz.ti128 : tiOf Tryz.prog 128 = some { kind := .other, size := 1, bytes := 8, zero := some (.nilFunc) } := by kernel_rfl
theorem Tryz.ti129 : tiOf Tryz.prog 129 = some { kind := .slice 128, size := 1, bytes := 24, zero := some (.slice none 0 0) } := by kernel_rfl
theorem Tryz.ti135 : tiOf Tryz.prog 135 = some { kind := .struct [(0, 3), (1, 9), (2, 3), (3, 3)], size := 4, bytes := 40, zero := some (.agg #[.int .i64 0, .string ⟨#[]⟩, .int .i64 0, .int .i64 0]) } := by kernel_rfl
theorem Tryz.ti157 : tiOf Tryz.prog 157 = some { kind := .slice 5, size := 1, bytes := 24, zero := some (.slice none 0 0) } := by kernel_rfl
theorem Tryz.ti163 : tiOf Tryz.prog 163 = some { kind := .array 24 3, size := 24, bytes := 192, zero := some (.agg #[.int .i64 0, .int .i64 0, .int .i64 0, .int .i64 0, .int .i64 0, .int .i64 0, .int .i64 0, .int .i64 0, .int .i64 0, .int .i64 0, .int .i64 0, .int .i64 0, .int .i64 0, .int .i64 0, .int .i64 0, .int .i64 0, .int .i64 0, .int .i64 0, .int .i64 0, .int .i64 0, .int .i64 0, .int .i64 0, .int .i64 0, .int .i64 0]) } := by kernel_rfl
theorem Tryz.ti165 : tiOf Tryz.prog 165 = some { kind := .struct [(0, 163), (24, 163)], size := 48, bytes := 384, zero := some (.agg #[.int .i64 0, .int .i64 0, .int .i64 0, .int .i64 0, .int .i64 0, .int .i64 0, .int .i64 0, .int .i64 0, .int .i64 0, .int .i64 0, .int .i64 0, .int .i64 0, .int .i64 0, .int .i64 0, .int .i64 0, .int .i64 0, .int .i64 0, .int .i64 0, .int .i64 0, .int .i64 0, .int .i64 0, .int .i64 0, .int .i64 0, .int .i64 0, .int .i64 0, .int .i64 0, .int .i64 0, .int .i64 0, .int .i64 0, .int .i64 0, .int .i64 0, .int .i64 0, .int .i64 0, .int .i64 0, .int .i64 0, .int .i64 0, .int .i64 0, .int .i64 0, .int .i64 0, .int .i64 0, .int .i64 0, .int .i64 0, .int .i64 0, .int .i64 0, .int .i64 0, .int .i64 0, .int .i64 0, .int .i64 0]) } := by kernel_rfl
theorem Tryz.ti168 : tiOf Tryz.prog 168 = some { kind := .array 4 22, size := 4, bytes := 96, zero := some (.agg #[.slice none 0 0, .slice none 0 0, .slice none 0 0, .slice none 0 0]) } := by kernel_rfl
theorem Tryz.ti172 : tiOf Tryz.prog 172 = some { kind := .array 4 3, size := 4, bytes := 32, zero := some (.agg #[.int .i64 0, .int .i64 0, .int .i64 0, .int .i64 0]) } := by kernel_rfl
theorem Tryz.ti175 : tiOf Tryz.prog 175 = some { kind := .struct [(0, 3), (1, 3)], size := 2, bytes := 16, zero := some (.agg #[.int .i64 0, .int .i64 0]) } := by kernel_rfl
theorem Tryz.ti176 : tiOf Tryz.prog 176 = some { kind := .array 4 175, size := 8, bytes := 64, zero := some (.agg #[.int .i64 0, .int .i64 0, .int .i64 0, .int .i64 0, .int .i64 0, .int .i64 0, .int .i64 0, .int .i64 0]) } := by kernel_rfl
theorem Tryz.ti180 : tiOf Tryz.prog 180 = some { kind := .slice 186, size := 1, bytes := 24, zero := some (.slice none 0 0) } := by kernel_rfl
theorem Tryz.ti186 : tiOf Tryz.prog 186 = some { kind := .struct [(0, 3), (1, 3), (2, 3), (3, 46)], size := 8, bytes := 72, zero := some (.agg #[.int .i64 0, .int .i64 0, .int .i64 0, .string ⟨#[]⟩, .int .i64 0, .int .i64 0, .int .i64 0, .int .i64 0]) } := by kernel_rfl
theorem Tryz.ti207 : tiOf Tryz.prog 207 = some { kind := .struct [(0, 83)], size := 5, bytes := 48, zero := some (.agg #[.string ⟨#[]⟩, .int .i64 0, .int .i64 0, .int .i64 0, .int .i64 0]) } := by kernel_rfl
theorem Tryz.ti210 : tiOf Tryz.prog 210 = some { kind := .int .u64, size := 1, bytes := 8, zero := some (.int .u64 0) } := by kernel_rfl
theorem Tryz.ti215 : tiOf Tryz.prog 215 = some { kind := .int .i64, size := 1, bytes := 8, zero := some (.int .i64 0) } := by kernel_rfl
theorem Tryz.ti224 : tiOf Tryz.prog 224 = some { kind := .int .u64, size := 1, bytes := 8, zero := some (.int .u64 0) } := by kernel_rfl
theorem Tryz.ti225 : tiOf Tryz.prog 225 = some { kind := .int .u64, size := 1, bytes := 8, zero := some (.int .u64 0) } := by kernel_rfl
theorem Tryz.tabAll : allTT Tryz.prog Tryz.tabT :=
 ⟨⟨⟨⟨⟨⟨trivial, Tryz.ti3, trivial⟩, Tryz.ti4, ⟨trivial, Tryz.ti5, trivial⟩⟩, Tryz.ti9, ⟨⟨trivial, Tryz.ti22, trivial⟩, Tryz.ti23, ⟨trivial, Tryz.ti24, trivial⟩⟩⟩, Tryz.ti25, ⟨⟨⟨trivial, Tryz.ti27, trivial⟩, Tryz.ti28, ⟨trivial, Tryz.ti29, trivial⟩⟩, Tryz.ti30, ⟨⟨trivial, Tryz.ti32, trivial⟩, Tryz.ti33, trivial⟩⟩⟩, Tryz.ti34, ⟨⟨⟨⟨trivial, Tryz.ti36, trivial⟩, Tryz.ti38, ⟨trivial, Tryz.ti41, trivial⟩⟩, Tryz.ti42, ⟨⟨trivial, Tryz.ti46, trivial⟩, Tryz.ti48, trivial⟩⟩, Tryz.ti51, ⟨⟨⟨trivial, Tryz.ti53, trivial⟩, Tryz.ti54, ⟨trivial, Tryz.ti55, trivial⟩⟩, Tryz.ti59, ⟨⟨trivial, Tryz.ti63, trivial⟩, Tryz.ti64, trivial⟩⟩⟩⟩, Tryz.ti71, ⟨⟨⟨⟨⟨trivial, Tryz.ti74, trivial⟩, Tryz.ti75, ⟨trivial, Tryz.ti77, trivial⟩⟩, Tryz.ti81, ⟨⟨trivial, Tryz.ti83, trivial⟩, Tryz.ti86, trivial⟩⟩, Tryz.ti102, ⟨⟨⟨trivial, Tryz.ti104, trivial⟩, Tryz.ti106, ⟨trivial, Tryz.ti123, trivial⟩⟩, Tryz.ti128, ⟨⟨trivial, Tryz.ti129, trivial⟩, Tryz.ti135, trivial⟩⟩⟩, Tryz.ti157, ⟨⟨⟨⟨trivial, Tryz.ti163, trivial⟩, Tryz.ti165, ⟨trivial, Tryz.ti168, trivial⟩⟩, Tryz.ti172, ⟨⟨trivial, Tryz.ti175, trivial⟩, Tryz.ti176, trivial⟩⟩, Tryz.ti180, ⟨⟨⟨trivial, Tryz.ti186, trivial⟩, Tryz.ti207, ⟨trivial, Tryz.ti210, trivial⟩⟩, Tryz.ti215, ⟨⟨trivial, Tryz.ti224, trivial⟩, Tryz.ti225, trivial⟩⟩⟩⟩⟩
theorem Tryz.mixed : Tryz.prog.follows .mixedOrders = true := by kernel_rfl
theorem Tryz.tabOk (t : Nat) (i : TI) (h : getTT Tryz.tabT t = some i) : tiOf Tryz.prog t = some i := getTT_ok Tryz.tabAll h
noncomputable def Tryz.env : Env := ⟨Tryz.prog, getTT Tryz.tabT, Tryz.tabOk, Tryz.mixed⟩
theorem Tryz.bld27 : Bld Tryz.env 27 [(0, 1), (1, 1), (2, 1), (3, 1), (4, 1), (5, 1)] [.v (.slice none 0 0), .v (.slice none 0 0), .v (.slice none 0 0), .v (.slice none 0 0), .v (.int .i64 0), .v (.int .i64 0)] := ⟨⟨_, _, _, rfl, rfl, rfl, rfl, rfl, rfl, rfl⟩⟩
theorem Tryz.bld32 : Bld Tryz.env 32 [(0, 1), (1, 1), (2, 1)] [.v (.slice none 0 0), .v (.slice none 0 0), .v (.slice none 0 0)] := ⟨⟨_, _, _, rfl, rfl, rfl, rfl, rfl, rfl, rfl⟩⟩
theorem Tryz.bld36 : Bld Tryz.env 36 [(0, 1), (1, 1), (2, 1)] [.v (.slice none 0 0), .v (.slice none 0 0), .v (.slice none 0 0)] := ⟨⟨_, _, _, rfl, rfl, rfl, rfl, rfl, rfl, rfl⟩⟩
theorem Tryz.bld46 : Bld Tryz.env 46 [(0, 1), (1, 1), (2, 1), (3, 1), (4, 1)] [.v (.string ⟨#[]⟩), .v (.int .i64 0), .v (.int .i64 0), .v (.int .i64 0), .v (.int .i64 0)] := ⟨⟨_, _, _, rfl, rfl, rfl, rfl, rfl, rfl, rfl⟩⟩
theorem Tryz.bld59 : Bld Tryz.env 59 [(0, 1), (1, 1), (2, 1)] [.v (.int .i64 0), .v (.int .i64 0), .v (.int .i64 0)] := ⟨⟨_, _, _, rfl, rfl, rfl, rfl, rfl, rfl, rfl⟩⟩
theorem Tryz.bld71 : Bld Tryz.env 71 [(0, 1), (1, 1)] [.v (.int .i64 0), .v (.int .i64 0)] := ⟨⟨_, _, _, rfl, rfl, rfl, rfl, rfl, rfl, rfl⟩⟩
theorem Tryz.bld74 : Bld Tryz.env 74 [(0, 1), (1, 1), (2, 1)] [.v (.string ⟨#[]⟩), .v (.int .i64 0), .v (.int .i64 0)] := ⟨⟨_, _, _, rfl, rfl, rfl, rfl, rfl, rfl, rfl⟩⟩
theorem Tryz.bld77 : Bld Tryz.env 77 [(0, 1), (1, 1), (2, 1), (3, 1), (4, 1), (5, 1), (6, 1)] [.v (.string ⟨#[]⟩), .v (.int .i64 0), .v (.int .i64 0), .v (.int .i64 0), .v (.int .i64 0), .v (.int .i64 0), .v (.slice none 0 0)] := ⟨⟨_, _, _, rfl, rfl, rfl, rfl, rfl, rfl, rfl⟩⟩
theorem Tryz.bld81 : Bld Tryz.env 81 [(0, 1), (1, 2)] [.v (.int .i64 0), .v (.int .i64 0), .v (.int .i64 0)] := ⟨⟨_, _, _, rfl, rfl, rfl, rfl, rfl, rfl, rfl⟩⟩
theorem Tryz.bld83 : Bld Tryz.env 83 [(0, 1), (1, 1), (2, 1), (3, 1), (4, 1)] [.v (.string ⟨#[]⟩), .v (.int .i64 0), .v (.int .i64 0), .v (.int .i64 0), .v (.int .i64 0)] := ⟨⟨_, _, _, rfl, rfl, rfl, rfl, rfl, rfl, rfl⟩⟩
theorem Tryz.bld102 : Bld Tryz.env 102 [(0, 1), (1, 1)] [.v (.int .i64 0), .v (.int .i64 0)] := ⟨⟨_, _, _, rfl, rfl, rfl, rfl, rfl, rfl, rfl⟩⟩
theorem Tryz.bld104 : Bld Tryz.env 104 [(0, 1), (1, 1), (2, 1)] [.v (.int .i64 0), .v (.int .i64 0), .v (.int .i64 0)] := ⟨⟨_, _, _, rfl, rfl, rfl, rfl, rfl, rfl, rfl⟩⟩
theorem Tryz.bld106 : Bld Tryz.env 106 [(0, 1), (1, 1)] [.v (.slice none 0 0), .v (.int .i64 0)] := ⟨⟨_, _, _, rfl, rfl, rfl, rfl, rfl, rfl, rfl⟩⟩
theorem Tryz.bld123 : Bld Tryz.env 123 [(0, 6), (6, 1), (7, 1), (8, 1), (9, 3), (12, 3)] [.v (.slice none 0 0), .v (.slice none 0 0), .v (.slice none 0 0), .v (.slice none 0 0), .v (.int .i64 0), .v (.int .i64 0), .v (.slice none 0 0), .v (.slice none 0 0), .v (.slice none 0 0), .v (.slice none 0 0), .v (.slice none 0 0), .v (.slice none 0 0), .v (.slice none 0 0), .v (.slice none 0 0), .v (.slice none 0 0)] := ⟨⟨_, _, _, rfl, rfl, rfl, rfl, rfl, rfl, rfl⟩⟩
theorem Tryz.bld135 : Bld Tryz.env 135 [(0, 1), (1, 1), (2, 1), (3, 1)] [.v (.int .i64 0), .v (.string ⟨#[]⟩), .v (.int .i64 0), .v (.int .i64 0)] := ⟨⟨_, _, _, rfl, rfl, rfl, rfl, rfl, rfl, rfl⟩⟩
theorem Tryz.bld186 : Bld Tryz.env 186 [(0, 1), (1, 1), (2, 1), (3, 5)] [.v (.int .i64 0), .v (.int .i64 0), .v (.int .i64 0), .v (.string ⟨#[]⟩), .v (.int .i64 0), .v (.int .i64 0), .v (.int .i64 0), .v (.int .i64 0)] := ⟨⟨_, _, _, rfl, rfl, rfl, rfl, rfl, rfl, rfl⟩⟩
theorem Tryz.bld207 : Bld Tryz.env 207 [(0, 5)] [.v (.string ⟨#[]⟩), .v (.int .i64 0), .v (.int .i64 0), .v (.int .i64 0), .v (.int .i64 0)] := ⟨⟨_, _, _, rfl, rfl, rfl, rfl, rfl, rfl, rfl⟩⟩
theorem Tryz.eq59 : eqOk Tryz.prog 59 = true := by kernel_rfl
theorem Tryz.eq71 : eqOk Tryz.prog 71 = true := by kernel_rfl
theorem Tryz.eq81 : eqOk Tryz.prog 81 = true := by kernel_rfl
theorem Tryz.eq163 : eqOkA Tryz.prog 163 = true := by kernel_rfl
set_option linter.unusedVariables false
set_option linter.unusedSimpArgs false
structure Point where
 At : Int
 Height : Int
 Limit : Int
 deriving DecidableEq
def Point.row (x : Point) : List T := [.v (.int .i64 x.At), .v (.int .i64 x.Height), .v (.int .i64 x.Limit)]
structure Segment where
 Name : ByteArray
 From : Int
 To : Int
 Capacity : Int
 Resist : Int
 Wave : Int
 Points : List Point
 deriving DecidableEq
def Segment.row (x : Segment) : List T := [.v (.string x.Name), .v (.int .i64 x.From), .v (.int .i64 x.To), .v (.int .i64 x.Capacity), .v (.int .i64 x.Resist), .v (.int .i64 x.Wave), .list 3 (x.Points.map Point.row)]
structure Port where
 Name : ByteArray
 Node : Int
 Pressure : Int
 deriving DecidableEq
def Port.row (x : Port) : List T := [.v (.string x.Name), .v (.int .i64 x.Node), .v (.int .i64 x.Pressure)]
structure Station where
 Name : ByteArray
 Node : Int
 Head : Int
 Fall : Int
 Suction : Int
 deriving DecidableEq
def Station.row (x : Station) : List T := [.v (.string x.Name), .v (.int .i64 x.Node), .v (.int .i64 x.Head), .v (.int .i64 x.Fall), .v (.int .i64 x.Suction)]
structure Network where
 Nodes : List ByteArray
 Segments : List Segment
 Ports : List Port
 Stations : List Station
 Vapour : Int
 Settle : Int
 deriving DecidableEq
def Network.row (x : Network) : List T := [.list 1 (x.Nodes.map rS), .list 7 (x.Segments.map Segment.row), .list 3 (x.Ports.map Port.row), .list 5 (x.Stations.map Station.row), .v (.int .i64 x.Vapour), .v (.int .i64 x.Settle)]
structure Plan where
 Rates : List Int
 Ports : List Int
 Pumps : List Bool
 deriving DecidableEq
def Plan.row (x : Plan) : List T := [.list 1 (x.Rates.map rI), .list 1 (x.Ports.map rI), .list 1 (x.Pumps.map rB)]
structure flow_streams where
 come : Arr Int 24
 leave : Arr Int 24
 deriving DecidableEq
def flow_streams.row (x : flow_streams) : List T := x.come.l.map cI ++ (x.leave.l.map cI ++ [])
structure KS where
 L_ : List Int
 At : Int
 deriving DecidableEq
def KS.row (x : KS) : List T := [.list 1 (x.L_.map rI), .v (.int .i64 x.At)]
def L.ztzg (s_0 : Segment) (rate_1 : Int) : (Int × Int) := if decide (rate_1 < 0) = true then (s_0.To, s_0.From) else (s_0.From, s_0.To)
def L.zqkj (rate_0 : Int) (most_1 : Int) : Bool := (decide (rate_0 ≥ (wr (0 - most_1))) && decide (rate_0 ≤ most_1))
def L.zbjp.J1 (j8 : Int) : Option Int := some j8
def L.zbjp (x_0 : Int) (n_1 : Int) : Option Int := if decide (n_1 < 1) = true then some 0 else (rem? x_0 n_1).bind fun x5 => if decide (x5 < 0) = true then L.zbjp.J1 (wr (x5 + n_1)) else L.zbjp.J1 x5
def L.zvhs (n_0 : Int) (least_1 : Int) (most_2 : Int) : Bool := (decide (n_0 ≥ least_1) && decide (n_0 ≤ most_2))
def L.zuap (n_0 : Int) : Int := (max n_0 (wr (0 - n_0)))
def L.zsbv.J1 (j20 : Unit) : Option Int := some (-1)
def L.zsbv.B2 (v_1 : ByteArray) (k22 : Nat) (x25 : ByteArray) (st32 : Unit) : Option (Unit ⊕ (Int)) := if sEq v_1 x25 = true then some ((.inr ((k22 : Int)))) else some (.inl ())
def L.zsbv (s_0 : List ByteArray) (v_1 : ByteArray) : Option Int := (forL (L.zsbv.B2 v_1) 0 s_0 ()).bind fun o37 => Sum.elim (fun st32 => L.zsbv.J1 ()) (fun d48 => some d48) o37
def L.zapw.J1 (j24 : Unit) : Option Int := some (-1)
def L.zapw.B2 (g1 : Int → Option Bool) (k26 : Nat) (x29 : Int) (st38 : Unit) : Option (Unit ⊕ (Int)) := (g1 x29).bind fun r53 => if r53 = true then some ((.inr ((k26 : Int)))) else some (.inl ())
def L.zapw (s_0 : List Int) (g1 : Int → Option Bool) : Option Int := (forL (L.zapw.B2 g1) 0 s_0 ()).bind fun o45 => Sum.elim (fun st38 => L.zapw.J1 ()) (fun d58 => some d58) o45
def L.zvoj (s_0 : List Int) (g1 : Int → Option Bool) : Option Bool := (L.zapw s_0 g1).bind fun r1 => some (decide (r1 ≥ 0))
def L.zqyu.J1 (j24 : Unit) : Option Int := some (-1)
def L.zqyu.B2 (g1 : ByteArray → Option Bool) (k26 : Nat) (x29 : ByteArray) (st38 : Unit) : Option (Unit ⊕ (Int)) := (g1 x29).bind fun r53 => if r53 = true then some ((.inr ((k26 : Int)))) else some (.inl ())
def L.zqyu (s_0 : List ByteArray) (g1 : ByteArray → Option Bool) : Option Int := (forL (L.zqyu.B2 g1) 0 s_0 ()).bind fun o45 => Sum.elim (fun st38 => L.zqyu.J1 ()) (fun d58 => some d58) o45
def L.zmkj (s_0 : List ByteArray) (g1 : ByteArray → Option Bool) : Option Bool := (L.zqyu s_0 g1).bind fun r1 => some (decide (r1 ≥ 0))
def L.zbuy.J1 (j24 : Unit) : Option Int := some (-1)
def L.zbuy.B2 (g1 : Segment → Option Bool) (k26 : Nat) (x29 : Segment) (st38 : Unit) : Option (Unit ⊕ (Int)) := (g1 x29).bind fun r53 => if r53 = true then some ((.inr ((k26 : Int)))) else some (.inl ())
def L.zbuy (s_0 : List Segment) (g1 : Segment → Option Bool) : Option Int := (forL (L.zbuy.B2 g1) 0 s_0 ()).bind fun o45 => Sum.elim (fun st38 => L.zbuy.J1 ()) (fun d58 => some d58) o45
def L.zwuu (s_0 : List Segment) (g1 : Segment → Option Bool) : Option Bool := (L.zbuy s_0 g1).bind fun r1 => some (decide (r1 ≥ 0))
def L.zobp.J1 (j24 : Unit) : Option Int := some (-1)
def L.zobp.B2 (g1 : Port → Option Bool) (k26 : Nat) (x29 : Port) (st38 : Unit) : Option (Unit ⊕ (Int)) := (g1 x29).bind fun r53 => if r53 = true then some ((.inr ((k26 : Int)))) else some (.inl ())
def L.zobp (s_0 : List Port) (g1 : Port → Option Bool) : Option Int := (forL (L.zobp.B2 g1) 0 s_0 ()).bind fun o45 => Sum.elim (fun st38 => L.zobp.J1 ()) (fun d58 => some d58) o45
def L.zdru (s_0 : List Port) (g1 : Port → Option Bool) : Option Bool := (L.zobp s_0 g1).bind fun r1 => some (decide (r1 ≥ 0))
def L.zywf.J1 (j24 : Unit) : Option Int := some (-1)
def L.zywf.B2 (g1 : Station → Option Bool) (k26 : Nat) (x29 : Station) (st38 : Unit) : Option (Unit ⊕ (Int)) := (g1 x29).bind fun r53 => if r53 = true then some ((.inr ((k26 : Int)))) else some (.inl ())
def L.zywf (s_0 : List Station) (g1 : Station → Option Bool) : Option Int := (forL (L.zywf.B2 g1) 0 s_0 ()).bind fun o45 => Sum.elim (fun st38 => L.zywf.J1 ()) (fun d58 => some d58) o45
def L.ztlc (s_0 : List Station) (g1 : Station → Option Bool) : Option Bool := (L.zywf s_0 g1).bind fun r1 => some (decide (r1 ≥ 0))
def L.zzec (s_0 : Segment) : Bool := (decide ((s_0.Points.length : Int) < 2) || decide ((s_0.Points.length : Int) > 8))
def L.znhd (n_0 : Network) : Option Bool := if (decide ((n_0.Nodes.length : Int) < 1) || (decide ((n_0.Nodes.length : Int) > 24) || (decide ((n_0.Segments.length : Int) > 32) || (decide ((n_0.Ports.length : Int) > 24) || decide ((n_0.Stations.length : Int) > 12))))) = true then some false else (L.zwuu n_0.Segments (fun x => some (L.zzec x))).bind fun r13 => some (!r13)
def L.zsgw.J1 (j165 : List Int) : Option (List Int) := some j165
def L.zsgw.J3 (j373 : (List Int) × (List Bool) × Int) : Option (((List Int) × (List Bool) × Int) ⊕ ((List Int))) := some (.inl (j373.1, j373.2.1, wr (j373.2.2 + 1)))
def L.zsgw.J4 (st270 : (List Int) × (List Bool) × Int) (p376 : Nat × Bool) (j415 : Unit) : Option (((List Int) × (List Bool) × Int) ⊕ ((List Int))) := (app? st270.1 ([st270.2.2] : List Int)).bind fun l417 => L.zsgw.J3 (l417, (st270.2.1.set p376.1 true), (-1))
def L.zsgw.J6 (st270 : (List Int) × (List Bool) × Int) (j470 : Bool) : Option (Unit ⊕ (((List Int) × (List Bool) × Int))) := if j470 = true then some ((.inr ((st270.1, st270.2.1, st270.2.2)))) else some (.inl ())
def L.zsgw.B5 (p_1 : Plan) (st270 : (List Int) × (List Bool) × Int) (k421 : Nat) (x424 : Segment) (st440 : Unit) : Option (Unit ⊕ (((List Int) × (List Bool) × Int))) := (ix p_1.Rates (k421 : Int)).bind fun p464 => if (p464.2 != 0) = true then if (((L.ztzg x424 p464.2).2) == st270.2.2) = true then (ix st270.2.1 ((L.ztzg x424 p464.2).1)).bind fun p474 => L.zsgw.J6 st270 (!p474.2) else L.zsgw.J6 st270 false else L.zsgw.J6 st270 false
def L.zsgw.B2 (n_0 : Network) (p_1 : Plan) (st270 : (List Int) × (List Bool) × Int) : Option (((List Int) × (List Bool) × Int) ⊕ ((List Int))) := if decide (st270.2.2 < (n_0.Nodes.length : Int)) = true then (ix st270.2.1 st270.2.2).bind fun p376 => if p376.2 = true then L.zsgw.J3 (st270.1, st270.2.1, st270.2.2) else (forL (L.zsgw.B5 p_1 st270) 0 n_0.Segments ()).bind fun o454 => Sum.elim (fun st440 => L.zsgw.J4 st270 p376 ()) (fun d478 => L.zsgw.J3 d478) o454 else some ((.inr (st270.1)))
def L.zsgw (n_0 : Network) (p_1 : Plan) : Option (List Int) := (mk? (n_0.Nodes.length : Int) false).bind fun l6 => (loopN (L.zsgw.B2 n_0 p_1) lots ([], l6, 0)).bind fun d479 => L.zsgw.J1 d479
def L.zfnd.J1 (j12 : Unit) : Int := 2
def L.zfnd (c_0 : Int) : Int := if (decide (c_0 ≥ 97) && decide (c_0 ≤ 122)) = true then 1 else if (decide (c_0 ≥ 48) && decide (c_0 ≤ 57)) = true then L.zfnd.J1 () else if (c_0 == 45) = true then L.zfnd.J1 () else 0
def L.zcvq.J2 (j30 : Unit) : Option Bool := some true
def L.zcvq.B3 (s_0 : ByteArray) (k32 : Nat) (st44 : Unit) : Option (Unit ⊕ (Bool)) := (ixs s_0 (k32 : Int)).bind fun p57 => if ((L.zfnd p57.2) == 0) = true then some ((.inr (false))) else some (.inl ())
def L.zcvq.J1 (s_0 : ByteArray) (j7 : Bool) : Option Bool := if j7 = true then some false else (chk ((s_0.size : Int) ≤ 9223372036854775806)).bind fun u35 => (forI (L.zcvq.B3 s_0) 0 ((s_0.size : Int).toNat) ()).bind fun o50 => Sum.elim (fun st44 => L.zcvq.J2 ()) (fun d62 => some d62) o50
def L.zcvq (s_0 : ByteArray) : Option Bool := if decide ((s_0.size : Int) < 1) = true then L.zcvq.J1 s_0 true else if decide ((s_0.size : Int) > 12) = true then L.zcvq.J1 s_0 true else (ixs s_0 0).bind fun p65 => L.zcvq.J1 s_0 ((L.zfnd p65.2) != 1)
def L.zalp.J3 (n_0 : Network) (j41 : List ByteArray) (j77 : List ByteArray) (j113 : List ByteArray) : Option (Arr (List ByteArray) 4) := some (⟨[n_0.Nodes, j41, j77, j113], rfl⟩ : Arr (List ByteArray) 4)
def L.zalp.B4 (k116 : Nat) (x119 : Station) (st138 : List ByteArray) : Option (List ByteArray) := (app? st138 ([x119.Name] : List ByteArray)).bind fun l156 => some l156
def L.zalp.J2 (n_0 : Network) (j41 : List ByteArray) (j77 : List ByteArray) : Option (Arr (List ByteArray) 4) := (forS L.zalp.B4 0 n_0.Stations []).bind fun st138 => L.zalp.J3 n_0 j41 j77 st138
def L.zalp.B5 (k162 : Nat) (x165 : Port) (st184 : List ByteArray) : Option (List ByteArray) := (app? st184 ([x165.Name] : List ByteArray)).bind fun l202 => some l202
def L.zalp.J1 (n_0 : Network) (j41 : List ByteArray) : Option (Arr (List ByteArray) 4) := (forS L.zalp.B5 0 n_0.Ports []).bind fun st184 => L.zalp.J2 n_0 j41 st184
def L.zalp.B6 (k208 : Nat) (x211 : Segment) (st230 : List ByteArray) : Option (List ByteArray) := (app? st230 ([x211.Name] : List ByteArray)).bind fun l248 => some l248
def L.zalp (n_0 : Network) : Option (Arr (List ByteArray) 4) := (forS L.zalp.B6 0 n_0.Segments []).bind fun st230 => L.zalp.J1 n_0 st230
def L.zsgv (x_0 : Station) (a_1 : Station) : Bool := (x_0.Node == a_1.Node)
def L.zybm.J2 (j91 : Unit) : Option Bool := some false
def L.zybm.B3 (n_0 : Network) (k93 : Nat) (x96 : Station) (st106 : Unit) : Option (Unit ⊕ (Bool)) := (L.zywf n_0.Stations (fun x => some (L.zsgv x x96))).bind fun r123 => if decide (r123 < (k93 : Int)) = true then some ((.inr (true))) else some (.inl ())
def L.zybm.J1 (n_0 : Network) (j66 : Unit) : Option Bool := (forL (L.zybm.B3 n_0) 0 n_0.Stations ()).bind fun o114 => Sum.elim (fun st106 => L.zybm.J2 ()) (fun d128 => some d128) o114
def L.zybm.J5 (j220 : Unit) : Option (Unit ⊕ (Bool)) := some (.inl ())
def L.zybm.B6 (p222 : Nat × (List ByteArray)) (k225 : Nat) (x228 : ByteArray) (st236 : Unit) : Option (Unit ⊕ (Bool)) := (L.zsbv p222.2 x228).bind fun r249 => if decide (r249 < (k225 : Int)) = true then some ((.inr (true))) else some (.inl ())
def L.zybm.B4 (r130 : Arr (List ByteArray) 4) (k132 : Nat) (st163 : Unit) : Option (Unit ⊕ (Bool)) := (ix r130.l (k132 : Int)).bind fun p222 => (forL (L.zybm.B6 p222) 0 p222.2 ()).bind fun o242 => Sum.elim (fun st236 => L.zybm.J5 ()) (fun d254 => some ((.inr (d254)))) o242
def L.zybm (n_0 : Network) : Option Bool := (L.zalp n_0).bind fun r130 => (forI (L.zybm.B4 r130) 0 4 ()).bind fun o190 => Sum.elim (fun st163 => L.zybm.J1 n_0 ()) (fun d257 => some d257) o190
def L.zxqi (k_0 : Int) (a_1 : Network) : Bool := (decide (k_0 < 0) || decide (k_0 ≥ (a_1.Nodes.length : Int)))
def L.zctd.J3 (n_0 : Network) (j110 : List Int) : Option Bool := (L.zvoj j110 (fun x => some (L.zxqi x n_0))).bind fun r112 => some (!r112)
def L.zctd.B4 (k115 : Nat) (x118 : Station) (st137 : List Int) : Option (List Int) := (app? st137 ([x118.Node] : List Int)).bind fun l155 => some l155
def L.zctd.J2 (n_0 : Network) (j74 : List Int) : Option Bool := (forS L.zctd.B4 0 n_0.Stations j74).bind fun st137 => L.zctd.J3 n_0 st137
def L.zctd.B5 (k161 : Nat) (x164 : Port) (st183 : List Int) : Option (List Int) := (app? st183 ([x164.Node] : List Int)).bind fun l201 => some l201
def L.zctd.J1 (n_0 : Network) (j38 : List Int) : Option Bool := (forS L.zctd.B5 0 n_0.Ports j38).bind fun st183 => L.zctd.J2 n_0 st183
def L.zctd.B6 (k207 : Nat) (x210 : Segment) (st229 : List Int) : Option (List Int) := (app? st229 ([x210.From, x210.To] : List Int)).bind fun l247 => some l247
def L.zctd (n_0 : Network) : Option Bool := (forS L.zctd.B6 0 n_0.Segments []).bind fun st229 => L.zctd.J1 n_0 st229
def L.zcxq.J2 (j50 : Bool) : Option Bool := some j50
def L.zcxq.J1 (s_0 : Segment) (j44 : Unit) : Option Bool := (ix s_0.Points 0).bind fun p51 => if (p51.2.At == 0) = true then (ix s_0.Points (wr ((s_0.Points.length : Int) - 1))).bind fun p54 => L.zcxq.J2 (p54.2.At == s_0.Capacity) else L.zcxq.J2 false
def L.zcxq.J4 (j100 : Bool) : Option (Unit ⊕ (Bool)) := if j100 = true then some ((.inr (false))) else some (.inl ())
def L.zcxq.B3 (s_0 : Segment) (k57 : Nat) (x60 : Point) (st74 : Unit) : Option (Unit ⊕ (Bool)) := if (!(L.zvhs x60.Height (-500) 5000)) = true then L.zcxq.J4 true else if (!(L.zvhs x60.Limit 0 100000000)) = true then L.zcxq.J4 true else if decide ((k57 : Int) > 0) = true then (ix s_0.Points (wr ((k57 : Int) - 1))).bind fun p105 => L.zcxq.J4 (decide (x60.At ≤ p105.2.At)) else L.zcxq.J4 false
def L.zcxq (s_0 : Segment) : Option Bool := if ((s_0.From == s_0.To) || ((!(L.zvhs s_0.Capacity 1 1000000)) || ((!(L.zvhs s_0.Resist 0 1000)) || (!(L.zvhs s_0.Wave 0 100000))))) = true then some false else (forL (L.zcxq.B3 s_0) 0 s_0.Points ()).bind fun o86 => Sum.elim (fun st74 => L.zcxq.J1 s_0 ()) (fun d109 => some d109) o86
def L.zyto (s_0 : Segment) : Option Bool := (L.zcxq s_0).bind fun r2 => some (!r2)
def L.zxcm (p_0 : Port) : Bool := (!(L.zvhs p_0.Pressure 0 100000000))
def L.zeku (s_0 : Station) : Bool := ((!(L.zvhs s_0.Head 0 100000000)) || ((!(L.zvhs s_0.Fall 0 100000)) || (!(L.zvhs s_0.Suction 0 100000000))))
def L.zdqn (n_0 : Network) : Option Bool := (L.zwuu n_0.Segments (fun x => L.zyto x)).bind fun r4 => if r4 = true then some false else (L.zdru n_0.Ports (fun x => some (L.zxcm x))).bind fun r8 => if r8 = true then some false else (L.ztlc n_0.Stations (fun x => some (L.zeku x))).bind fun r11 => if r11 = true then some false else some ((L.zvhs n_0.Vapour (-100000) 100000000) && (L.zvhs n_0.Settle 0 100))
def L.zqbg (s_0 : ByteArray) : Option Bool := (L.zcvq s_0).bind fun r1 => some (!r1)
def L.zfta.J1 (n_0 : Network) (j32 : Unit) : Option Int := (L.zybm n_0).bind fun r34 => if r34 = true then some 7 else (L.zctd n_0).bind fun r38 => if (!r38) = true then some 8 else (L.zdqn n_0).bind fun r41 => if (!r41) = true then some 9 else some 0
def L.zfta.B2 (r45 : Arr (List ByteArray) 4) (k47 : Nat) (st59 : Unit) : Option (Unit ⊕ (Int)) := (ix r45.l (k47 : Int)).bind fun p74 => (L.zmkj p74.2 (fun x => L.zqbg x)).bind fun r76 => if r76 = true then some ((.inr (3))) else some (.inl ())
def L.zfta (n_0 : Network) : Option Int := (L.znhd n_0).bind fun r4 => if (!r4) = true then some 4 else (L.zalp n_0).bind fun r45 => (forI (L.zfta.B2 r45) 0 4 ()).bind fun o67 => Sum.elim (fun st59 => L.zfta.J1 n_0 ()) (fun d81 => some d81) o67
def L.zuui.J2 (s_0 : flow_streams) (j2 : Int × Int × Int) (j7 : Arr Int 24) : Option flow_streams := if decide (j2.2.1 ≥ 0) = true then (ix s_0.come.l j2.2.1).bind fun p10 => some (⟨(s_0.come.set p10.1 (wr (p10.2 + j2.2.2))), j7⟩ : flow_streams) else some (⟨s_0.come, j7⟩ : flow_streams)
def L.zuui.J1 (s_0 : flow_streams) (j2 : Int × Int × Int) : Option flow_streams := if decide (j2.1 ≥ 0) = true then (ix s_0.leave.l j2.1).bind fun p14 => L.zuui.J2 s_0 j2 (s_0.leave.set p14.1 (wr (p14.2 + j2.2.2))) else L.zuui.J2 s_0 j2 s_0.leave
def L.zuui (s_0 : flow_streams) (from_1 : Int) (to_2 : Int) (rate_3 : Int) : Option flow_streams := if decide (rate_3 < 0) = true then L.zuui.J1 s_0 (to_2, from_1, wr (0 - rate_3)) else L.zuui.J1 s_0 (from_1, to_2, rate_3)
def L.zzkf.J2 (j72 : (Arr Int 24) × (Arr Int 24)) : Option flow_streams := some (⟨j72.1, j72.2⟩ : flow_streams)
def L.zzkf.B3 (p_1 : Plan) (k74 : Nat) (x77 : Port) (st95 : (Arr Int 24) × (Arr Int 24)) : Option ((Arr Int 24) × (Arr Int 24)) := (ix p_1.Ports (k74 : Int)).bind fun p111 => (L.zuui (⟨st95.1, st95.2⟩ : flow_streams) (-1) x77.Node p111.2).bind fun r113 => some (r113.come, r113.leave)
def L.zzkf.J1 (n_0 : Network) (p_1 : Plan) (j39 : (Arr Int 24) × (Arr Int 24)) : Option flow_streams := (forS (L.zzkf.B3 p_1) 0 n_0.Ports (j39.1, j39.2)).bind fun st95 => L.zzkf.J2 (st95.1, st95.2)
def L.zzkf.B4 (p_1 : Plan) (k118 : Nat) (x121 : Segment) (st139 : (Arr Int 24) × (Arr Int 24)) : Option ((Arr Int 24) × (Arr Int 24)) := (ix p_1.Rates (k118 : Int)).bind fun p155 => (L.zuui (⟨st139.1, st139.2⟩ : flow_streams) x121.From x121.To p155.2).bind fun r157 => some (r157.come, r157.leave)
def L.zzkf (n_0 : Network) (p_1 : Plan) : Option flow_streams := (forS (L.zzkf.B4 p_1) 0 n_0.Segments ((Arr.rep 24 (0 : Int)), (Arr.rep 24 (0 : Int)))).bind fun st139 => L.zzkf.J1 n_0 p_1 (st139.1, st139.2)
def L.zfct (rate_0 : Int) : Bool := (!(L.zqkj rate_0 1000))
def L.zmqu.J1 (n_0 : Network) (p_1 : Plan) (j39 : Unit) : Option Int := (L.zvoj p_1.Ports (fun x => some (L.zfct x))).bind fun r41 => if r41 = true then some 1 else (L.zzkf n_0 p_1).bind fun r45 => if (!decide (r45.come = r45.leave)) = true then some 12 else (L.zsgw n_0 p_1).bind fun r49 => if decide ((r49.length : Int) < (n_0.Nodes.length : Int)) = true then some 13 else some 0
def L.zmqu.B2 (p_1 : Plan) (k54 : Nat) (x57 : Segment) (st67 : Unit) : Option (Unit ⊕ (Int)) := (ix p_1.Rates (k54 : Int)).bind fun p84 => if (!(L.zqkj p84.2 (min 1000 x57.Capacity))) = true then some ((.inr (1))) else some (.inl ())
def L.zmqu (n_0 : Network) (p_1 : Plan) : Option Int := (L.zfta n_0).bind fun r5 => if (r5 != 0) = true then some r5 else if (((p_1.Rates.length : Int) != (n_0.Segments.length : Int)) || (((p_1.Ports.length : Int) != (n_0.Ports.length : Int)) || ((p_1.Pumps.length : Int) != (n_0.Stations.length : Int)))) = true then some 9 else (forL (L.zmqu.B2 p_1) 0 n_0.Segments ()).bind fun o75 => Sum.elim (fun st67 => L.zmqu.J1 n_0 p_1 ()) (fun d89 => some d89) o75
def L.ziti (l_0 : List Int) : Option KS := (sub? l_0 0 (min (l_0.length : Int) 2000)).bind fun l1 => some (⟨l1, 0⟩ : KS)
def L.zxpl (s_0 : KS) : Option (Int × KS) := if decide (s_0.At ≥ (s_0.L_.length : Int)) = true then some (0, s_0) else (ix s_0.L_ (wr ((wr (s_0.At + 1)) - 1))).bind fun p5 => some (p5.2, (⟨s_0.L_, wr (s_0.At + 1)⟩ : KS))
def L.zdjb (s_0 : KS) (n_1 : Int) : Option (Int × KS) := (L.zxpl s_0).bind fun r1 => (L.zbjp r1.1 n_1).bind fun r3 => some (r3, r1.2)
def L.zeyi (first_0 : ByteArray) (n_1 : Int) : Option ByteArray := (bytes? ([IntKind.u8.wrap (wr (97 + (n_1.tmod 26)))] : List Int)).bind fun x2 => (cat? first_0 x2).bind fun x4 => some x4
def L.ztqk (s_0 : KS) (l_1 : List Int) : Option (Int × KS) := (L.zdjb s_0 (l_1.length : Int)).bind fun r1 => (ix l_1 r1.1).bind fun p3 => some (p3.2, r1.2)
def L.ziuk (s_0 : KS) (lo_1 : Int) (hi_2 : Int) : Option (Int × KS) := (L.zdjb s_0 (wr ((wr (hi_2 - lo_1)) + 1))).bind fun r1 => some (wr (lo_1 + r1.1), r1.2)
def L.zsex.J2 (j6 : (List Int) × Int × Int × Int) (r8 : ByteArray) (r11 : Int × KS) (r14 : Int × KS) (r17 : Int × KS) (r22 : Int × KS) (j104 : (List Int) × Int × (List Point)) : Option (Segment × KS) := (L.ziuk (⟨j104.1, j104.2.1⟩ : KS) (-5) 30).bind fun r106 => (app? j104.2.2 ([(⟨r11.1, r106.1, r22.1⟩ : Point)] : List Point)).bind fun l109 => some ((⟨r8, j6.2.2.1, j6.2.2.2, r11.1, r14.1, r17.1, l109⟩ : Segment), r106.2)
def L.zsex.J4 (r11 : Int × KS) (r22 : Int × KS) (st161 : (List Int) × Int × (List Point) × Int) (j194 : (List Int) × Int × Bool) : Option (((List Int) × Int × (List Point) × Int) ⊕ (((List Int) × Int × (List Point)))) := if j194.2.2 = true then (L.ziuk (⟨j194.1, j194.2.1⟩ : KS) 1 40).bind fun r197 => if decide ((wr (st161.2.2.2 + r197.1)) ≥ r11.1) = true then some ((.inr ((r197.2.L_, r197.2.At, st161.2.2.1)))) else (L.ziuk r197.2 (-5) 60).bind fun r201 => (L.ztqk r201.2 ([1, 1, 10] : List Int)).bind fun r204 => (L.zdjb r204.2 3).bind fun r206 => (app? st161.2.2.1 ([(⟨wr (st161.2.2.2 + r197.1), wr (r201.1 * r204.1), wr (r22.1 - (wr (r206.1 * 1000)))⟩ : Point)] : List Point)).bind fun l209 => some (.inl (r206.2.L_, r206.2.At, l209, wr (st161.2.2.2 + r197.1))) else some ((.inr ((j194.1, j194.2.1, st161.2.2.1))))
def L.zsex.B3 (r11 : Int × KS) (r22 : Int × KS) (st161 : (List Int) × Int × (List Point) × Int) : Option (((List Int) × Int × (List Point) × Int) ⊕ (((List Int) × Int × (List Point)))) := if decide ((st161.2.2.1.length : Int) < 7) = true then (L.zdjb (⟨st161.1, st161.2.1⟩ : KS) 3).bind fun r213 => L.zsex.J4 r11 r22 st161 (r213.2.L_, r213.2.At, decide (r213.1 > 0)) else L.zsex.J4 r11 r22 st161 (st161.1, st161.2.1, false)
def L.zsex.J1 (k_1 : Int) (j6 : (List Int) × Int × Int × Int) : Option (Segment × KS) := (L.zeyi (⟨#[103]⟩ : ByteArray) k_1).bind fun r8 => (L.ztqk (⟨j6.1, j6.2.1⟩ : KS) ([1, 2, 7, 20, 60, 200, 1000] : List Int)).bind fun r11 => (L.ztqk r11.2 ([0, 1, 5, 1000] : List Int)).bind fun r14 => (L.ztqk r14.2 ([0, 50, 1000, 100000] : List Int)).bind fun r17 => (L.ztqk r17.2 ([1000000, 6000000, 100000000] : List Int)).bind fun r22 => (L.ziuk r22.2 (-5) 30).bind fun r25 => (app? [] ([(⟨0, r25.1, r22.1⟩ : Point)] : List Point)).bind fun l28 => (loopN (L.zsex.B3 r11 r22) lots (r25.2.L_, r25.2.At, l28, 0)).bind fun d215 => L.zsex.J2 j6 r8 r11 r14 r17 r22 d215
def L.zsex (s_0 : KS) (k_1 : Int) (from_2 : Int) (to_3 : Int) : Option (Segment × KS) := (L.zdjb s_0 4).bind fun r216 => if (r216.1 == 0) = true then L.zsex.J1 k_1 (r216.2.L_, r216.2.At, to_3, from_2) else L.zsex.J1 k_1 (r216.2.L_, r216.2.At, from_2, to_3)
def L.zeju.J4 (r5 : Int × KS) (r8 : Int × KS) (j46 : (List Int) × Int × (List ByteArray)) (j135 : (List Int) × Int × (List Segment)) (j276 : (List Int) × Int × (List Port) × (List Station)) : Option (Network × KS) := some ((⟨j46.2.2, j135.2.2, j276.2.2.1, j276.2.2.2, r5.1, r8.1⟩ : Network), (⟨j276.1, j276.2.1⟩ : KS))
def L.zeju.J6 (st371 : (List Int) × Int × (List Port) × (List Station) × Int) (j464 : (List Int) × Int × (List Port) × (List Station)) : Option (((List Int) × Int × (List Port) × (List Station) × Int) ⊕ (((List Int) × Int × (List Port) × (List Station)))) := some (.inl (j464.1, j464.2.1, j464.2.2.1, j464.2.2.2, wr (st371.2.2.2.2 + 1)))
def L.zeju.J8 (st371 : (List Int) × Int × (List Port) × (List Station) × Int) (j483 : (List Int) × Int × (List Port)) (j488 : (List Int) × Int × Bool) : Option (((List Int) × Int × (List Port) × (List Station) × Int) ⊕ (((List Int) × Int × (List Port) × (List Station)))) := if j488.2.2 = true then (L.zeyi (⟨#[115]⟩ : ByteArray) (st371.2.2.2.1.length : Int)).bind fun r490 => (L.ztqk (⟨j488.1, j488.2.1⟩ : KS) ([500000, 2000000, 0] : List Int)).bind fun r493 => (L.ztqk r493.2 ([0, 200, 100000] : List Int)).bind fun r496 => (L.ztqk r496.2 ([0, 100000, 400000] : List Int)).bind fun r499 => (app? st371.2.2.2.1 ([(⟨r490, st371.2.2.2.2, r493.1, r496.1, r499.1⟩ : Station)] : List Station)).bind fun l502 => L.zeju.J6 st371 (r499.2.L_, r499.2.At, j483.2.2, l502) else L.zeju.J6 st371 (j488.1, j488.2.1, j483.2.2, st371.2.2.2.1)
def L.zeju.J7 (j46 : (List Int) × Int × (List ByteArray)) (st371 : (List Int) × Int × (List Port) × (List Station) × Int) (j483 : (List Int) × Int × (List Port)) : Option (((List Int) × Int × (List Port) × (List Station) × Int) ⊕ (((List Int) × Int × (List Port) × (List Station)))) := if decide (st371.2.2.2.2 < (wr ((j46.2.2.length : Int) - 1))) = true then (L.zdjb (⟨j483.1, j483.2.1⟩ : KS) 3).bind fun r507 => L.zeju.J8 st371 j483 (r507.2.L_, r507.2.At, (r507.1 == 0)) else L.zeju.J8 st371 j483 (j483.1, j483.2.1, false)
def L.zeju.J9 (j46 : (List Int) × Int × (List ByteArray)) (st371 : (List Int) × Int × (List Port) × (List Station) × Int) (j513 : (List Int) × Int × Bool) : Option (((List Int) × Int × (List Port) × (List Station) × Int) ⊕ (((List Int) × Int × (List Port) × (List Station)))) := if j513.2.2 = true then (L.zeyi (⟨#[113]⟩ : ByteArray) (st371.2.2.1.length : Int)).bind fun r515 => (L.ztqk (⟨j513.1, j513.2.1⟩ : KS) ([300000, 1000000, 0, 5000000] : List Int)).bind fun r518 => (app? st371.2.2.1 ([(⟨r515, st371.2.2.2.2, r518.1⟩ : Port)] : List Port)).bind fun l521 => L.zeju.J7 j46 st371 (r518.2.L_, r518.2.At, l521) else L.zeju.J7 j46 st371 (j513.1, j513.2.1, st371.2.2.1)
def L.zeju.B5 (j46 : (List Int) × Int × (List ByteArray)) (st371 : (List Int) × Int × (List Port) × (List Station) × Int) : Option (((List Int) × Int × (List Port) × (List Station) × Int) ⊕ (((List Int) × Int × (List Port) × (List Station)))) := if decide (st371.2.2.2.2 ≤ (wr ((j46.2.2.length : Int) - 1))) = true then if (st371.2.2.2.2 == 0) = true then L.zeju.J9 j46 st371 (st371.1, st371.2.1, true) else if (st371.2.2.2.2 == (wr ((j46.2.2.length : Int) - 1))) = true then L.zeju.J9 j46 st371 (st371.1, st371.2.1, true) else (L.zdjb (⟨st371.1, st371.2.1⟩ : KS) 2).bind fun r527 => L.zeju.J9 j46 st371 (r527.2.L_, r527.2.At, (r527.1 == 0)) else some ((.inr ((st371.1, st371.2.1, st371.2.2.1, st371.2.2.2.1))))
def L.zeju.J3 (r5 : Int × KS) (r8 : Int × KS) (j46 : (List Int) × Int × (List ByteArray)) (j135 : (List Int) × Int × (List Segment)) : Option (Network × KS) := (loopN (L.zeju.B5 j46) lots (j135.1, j135.2.1, [], [], 0)).bind fun d529 => L.zeju.J4 r5 r8 j46 j135 d529
def L.zeju.B10 (j46 : (List Int) × Int × (List ByteArray)) (st565 : (List Int) × Int × (List Segment) × Int) : Option (((List Int) × Int × (List Segment) × Int) ⊕ (((List Int) × Int × (List Segment)))) := if decide (st565.2.2.2 > 0) = true then (L.zdjb (⟨st565.1, st565.2.1⟩ : KS) (wr ((j46.2.2.length : Int) - 1))).bind fun r589 => (L.ziuk r589.2 (wr (r589.1 + 1)) (wr ((j46.2.2.length : Int) - 1))).bind fun r591 => (L.zsex r591.2 (st565.2.2.1.length : Int) r589.1 r591.1).bind fun r593 => (app? st565.2.2.1 ([r593.1] : List Segment)).bind fun l596 => some (.inl (r593.2.L_, r593.2.At, l596, wr (st565.2.2.2 - 1))) else some ((.inr ((st565.1, st565.2.1, st565.2.2.1))))
def L.zeju.J2 (r5 : Int × KS) (r8 : Int × KS) (j46 : (List Int) × Int × (List ByteArray)) (j82 : (List Int) × Int × (List Segment)) : Option (Network × KS) := (L.zdjb (⟨j82.1, j82.2.1⟩ : KS) 4).bind fun r531 => (loopN (L.zeju.B10 j46) lots (r531.2.L_, r531.2.At, j82.2.2, r531.1)).bind fun d600 => L.zeju.J3 r5 r8 j46 d600
def L.zeju.B11 (j46 : (List Int) × Int × (List ByteArray)) (st623 : (List Int) × Int × (List Segment) × Int) : Option (((List Int) × Int × (List Segment) × Int) ⊕ (((List Int) × Int × (List Segment)))) := if decide (st623.2.2.2 < (wr ((j46.2.2.length : Int) - 1))) = true then (L.zsex (⟨st623.1, st623.2.1⟩ : KS) (st623.2.2.1.length : Int) st623.2.2.2 (wr (st623.2.2.2 + 1))).bind fun r641 => (app? st623.2.2.1 ([r641.1] : List Segment)).bind fun l644 => some (.inl (r641.2.L_, r641.2.At, l644, wr (st623.2.2.2 + 1))) else some ((.inr ((st623.1, st623.2.1, st623.2.2.1))))
def L.zeju.J1 (r5 : Int × KS) (r8 : Int × KS) (j46 : (List Int) × Int × (List ByteArray)) : Option (Network × KS) := (loopN (L.zeju.B11 j46) lots (j46.1, j46.2.1, [], 0)).bind fun d648 => L.zeju.J2 r5 r8 j46 d648
def L.zeju.B12 (r650 : Int × KS) (st673 : (List ByteArray) × Int) : Option (((List ByteArray) × Int) ⊕ (((List Int) × Int × (List ByteArray)))) := if decide (st673.2 > 0) = true then (L.zeyi (⟨#[110]⟩ : ByteArray) (st673.1.length : Int)).bind fun r691 => (app? st673.1 ([r691] : List ByteArray)).bind fun l694 => some (.inl (l694, wr (st673.2 - 1))) else some ((.inr ((r650.2.L_, r650.2.At, st673.1))))
def L.zeju (s_0 : KS) : Option (Network × KS) := (L.ztqk s_0 ([(-100000), 0, 50000] : List Int)).bind fun r5 => (L.ztqk r5.2 ([0, 1, 5, 100] : List Int)).bind fun r8 => (L.ziuk r8.2 2 6).bind fun r650 => (loopN (L.zeju.B12 r650) lots ([], r650.1)).bind fun d698 => L.zeju.J1 r5 r8 d698
def L.zhea (n_0 : Int) : Int := (max n_0 (wr (0 - n_0)))
def L.znbg.J2 (l6 : List Bool) (j44 : List Int) (j80 : List Int) : Option Plan := some (⟨j44, j80, l6⟩ : Plan)
def L.znbg.B3 (k83 : Nat) (x86 : Int) (st105 : List Int) : Option (List Int) := (app? st105 ([wr (0 - x86)] : List Int)).bind fun l123 => some l123
def L.znbg.J1 (p_0 : Plan) (l6 : List Bool) (j44 : List Int) : Option Plan := (forS L.znbg.B3 0 p_0.Ports []).bind fun st105 => L.znbg.J2 l6 j44 st105
def L.znbg.B4 (k129 : Nat) (x132 : Int) (st151 : List Int) : Option (List Int) := (app? st151 ([wr (0 - x132)] : List Int)).bind fun l169 => some l169
def L.znbg (p_0 : Plan) : Option Plan := (app? ([] : List Bool) p_0.Pumps).bind fun l6 => (forS L.znbg.B4 0 p_0.Rates []).bind fun st151 => L.znbg.J1 p_0 l6 st151
def L.zjbu.J3 (j48 : (List Int) × Int × (List Bool)) (r51 : Int × KS) (j1782 : (List Int) × Int × (List Int) × (List Int)) : Option (Plan × KS) := if (r51.1 == 0) = true then (L.znbg (⟨j1782.2.2.1, j1782.2.2.2, j48.2.2⟩ : Plan)).bind fun r1784 => some (r1784, (⟨j1782.1, j1782.2.1⟩ : KS)) else some ((⟨j1782.2.2.1, j1782.2.2.2, j48.2.2⟩ : Plan), (⟨j1782.1, j1782.2.1⟩ : KS))
def L.zjbu.J5 (st2940 : (List Int) × Int × (List Int) × (List Int) × Int) (j4093 : (List Int) × Int × (List Int) × (List Int)) : Option (((List Int) × Int × (List Int) × (List Int) × Int) ⊕ (((List Int) × Int × (List Int) × (List Int)))) := some (.inl (j4093.1, j4093.2.1, j4093.2.2.1, j4093.2.2.2, wr (st2940.2.2.2.2 - 1)))
def L.zjbu.J10 (j4681 : List Int) : Option (List Int) := some j4681
def L.zjbu.B9 (n_1 : Network) (r4103 : Int × KS) (j4599 : (List Int) × Int × (List Int) × Int) (k4614 : Nat) (st4648 : List Int) : Option (List Int) := (ix j4599.2.2.1 (k4614 : Int)).bind fun p4683 => (ix n_1.Segments p4683.2).bind fun p4686 => if decide (p4686.2.From < p4686.2.To) = true then (ix st4648 p4683.2).bind fun p4689 => L.zjbu.J10 (st4648.set p4689.1 (wr (p4689.2 + r4103.1))) else (ix st4648 p4683.2).bind fun p4691 => L.zjbu.J10 (st4648.set p4691.1 (wr (p4691.2 - r4103.1)))
def L.zjbu.J8 (n_1 : Network) (st2940 : (List Int) × Int × (List Int) × (List Int) × Int) (r4103 : Int × KS) (j4599 : (List Int) × Int × (List Int) × Int) (j4612 : List Int) : Option (((List Int) × Int × (List Int) × (List Int) × Int) ⊕ (((List Int) × Int × (List Int) × (List Int)))) := (forJ (L.zjbu.B9 n_1 r4103 j4599) 0 j4599.2.2.1.length st2940.2.2.1).bind fun st4648 => L.zjbu.J5 st2940 (j4599.1, j4599.2.1, st4648, j4612)
def L.zjbu.J7 (n_1 : Network) (st2940 : (List Int) × Int × (List Int) × (List Int) × Int) (r4095 : Int × KS) (r4103 : Int × KS) (j4599 : (List Int) × Int × (List Int) × Int) : Option (((List Int) × Int × (List Int) × (List Int) × Int) ⊕ (((List Int) × Int × (List Int) × (List Int)))) := if decide (j4599.2.2.2 < 0) = true then L.zjbu.J5 st2940 (j4599.1, j4599.2.1, st2940.2.2.1, st2940.2.2.2.1) else (ix st2940.2.2.2.1 r4095.1).bind fun p4695 => (ix st2940.2.2.2.1 j4599.2.2.2).bind fun p4697 => (ix (st2940.2.2.2.1.set p4695.1 (wr (p4695.2 + r4103.1))) j4599.2.2.2).bind fun p4699 => L.zjbu.J8 n_1 st2940 r4103 j4599 ((st2940.2.2.2.1.set p4695.1 (wr (p4695.2 + r4103.1))).set p4699.1 (wr (p4697.2 - r4103.1)))
def L.zjbu.J13 (n_1 : Network) (st5028 : (List Int) × Int × Int × (List Int) × Int) (j5256 : (List Int) × Int × Int) (j5339 : List Int) : Option (((List Int) × Int × Int × (List Int) × Int) ⊕ (((List Int) × Int × (List Int) × Int))) := if ((j5339.length : Int) == 0) = true then some ((.inr ((j5256.1, j5256.2.1, st5028.2.2.2.1, j5256.2.2)))) else (L.zdjb (⟨j5256.1, j5256.2.1⟩ : KS) (j5339.length : Int)).bind fun r5344 => (ix j5339 r5344.1).bind fun p5346 => (app? st5028.2.2.2.1 ([p5346.2] : List Int)).bind fun l5350 => (ix n_1.Segments p5346.2).bind fun p5353 => some (.inl (r5344.2.L_, r5344.2.At, wr ((wr (p5353.2.From + p5353.2.To)) - st5028.2.2.1), l5350, j5256.2.2))
def L.zjbu.J15 (j5457 : List Int) : Option (List Int) := some j5457
def L.zjbu.J16 (k5356 : Nat) (st5408 : List Int) (j5471 : Bool) : Option (List Int) := if j5471 = true then (app? st5408 ([(k5356 : Int)] : List Int)).bind fun l5474 => L.zjbu.J15 l5474 else L.zjbu.J15 st5408
def L.zjbu.B14 (st2940 : (List Int) × Int × (List Int) × (List Int) × Int) (r4103 : Int × KS) (st5028 : (List Int) × Int × Int × (List Int) × Int) (k5356 : Nat) (x5359 : Segment) (st5408 : List Int) : Option (List Int) := if (x5359.From == st5028.2.2.1) = true then if decide ((wr ((wr (x5359.From + x5359.To)) - st5028.2.2.1)) > st5028.2.2.1) = true then (ix st2940.2.2.1 (k5356 : Int)).bind fun p5479 => L.zjbu.J16 k5356 st5408 (decide ((wr ((L.zhea p5479.2) + r4103.1)) ≤ (min 1000 x5359.Capacity))) else L.zjbu.J16 k5356 st5408 false else if (x5359.To == st5028.2.2.1) = true then if decide ((wr ((wr (x5359.From + x5359.To)) - st5028.2.2.1)) > st5028.2.2.1) = true then (ix st2940.2.2.1 (k5356 : Int)).bind fun p5484 => L.zjbu.J16 k5356 st5408 (decide ((wr ((L.zhea p5484.2) + r4103.1)) ≤ (min 1000 x5359.Capacity))) else L.zjbu.J16 k5356 st5408 false else L.zjbu.J16 k5356 st5408 false
def L.zjbu.J12 (n_1 : Network) (st2940 : (List Int) × Int × (List Int) × (List Int) × Int) (r4103 : Int × KS) (st5028 : (List Int) × Int × Int × (List Int) × Int) (j5256 : (List Int) × Int × Int) : Option (((List Int) × Int × Int × (List Int) × Int) ⊕ (((List Int) × Int × (List Int) × Int))) := if decide (j5256.2.2 ≥ 0) = true then some ((.inr ((j5256.1, j5256.2.1, st5028.2.2.2.1, j5256.2.2)))) else (forS (L.zjbu.B14 st2940 r4103 st5028) 0 n_1.Segments []).bind fun st5408 => L.zjbu.J13 n_1 st5028 j5256 st5408
def L.zjbu.J18 (j5566 : (List Int) × Int × Int) : Option ((List Int) × Int × Int) := some (j5566.1, j5566.2.1, j5566.2.2)
def L.zjbu.J19 (k5490 : Nat) (st5529 : (List Int) × Int × Int) (j5578 : (List Int) × Int × Bool) : Option ((List Int) × Int × Int) := if j5578.2.2 = true then L.zjbu.J18 (j5578.1, j5578.2.1, (k5490 : Int)) else L.zjbu.J18 (j5578.1, j5578.2.1, st5529.2.2)
def L.zjbu.B17 (st2940 : (List Int) × Int × (List Int) × (List Int) × Int) (r4095 : Int × KS) (r4103 : Int × KS) (st5028 : (List Int) × Int × Int × (List Int) × Int) (k5490 : Nat) (x5493 : Port) (st5529 : (List Int) × Int × Int) : Option ((List Int) × Int × Int) := if (x5493.Node == st5028.2.2.1) = true then if ((k5490 : Int) != r4095.1) = true then (ix st2940.2.2.2.1 (k5490 : Int)).bind fun p5582 => if decide (p5582.2 ≤ 0) = true then if decide ((wr (p5582.2 - r4103.1)) ≥ (-1000)) = true then if decide ((st5028.2.2.2.1.length : Int) > 0) = true then (L.zdjb (⟨st5529.1, st5529.2.1⟩ : KS) 2).bind fun r5587 => L.zjbu.J19 k5490 st5529 (r5587.2.L_, r5587.2.At, (r5587.1 == 0)) else L.zjbu.J19 k5490 st5529 (st5529.1, st5529.2.1, false) else L.zjbu.J19 k5490 st5529 (st5529.1, st5529.2.1, false) else L.zjbu.J19 k5490 st5529 (st5529.1, st5529.2.1, false) else L.zjbu.J19 k5490 st5529 (st5529.1, st5529.2.1, false) else L.zjbu.J19 k5490 st5529 (st5529.1, st5529.2.1, false)
def L.zjbu.B11 (n_1 : Network) (st2940 : (List Int) × Int × (List Int) × (List Int) × Int) (r4095 : Int × KS) (r4103 : Int × KS) (st5028 : (List Int) × Int × Int × (List Int) × Int) : Option (((List Int) × Int × Int × (List Int) × Int) ⊕ (((List Int) × Int × (List Int) × Int))) := if decide (st5028.2.2.2.2 < 0) = true then (forS (L.zjbu.B17 st2940 r4095 r4103 st5028) 0 n_1.Ports (st5028.1, st5028.2.1, st5028.2.2.2.2)).bind fun st5529 => L.zjbu.J12 n_1 st2940 r4103 st5028 (st5529.1, st5529.2.1, st5529.2.2) else some ((.inr ((st5028.1, st5028.2.1, st5028.2.2.2.1, st5028.2.2.2.2))))
def L.zjbu.J6 (n_1 : Network) (st2940 : (List Int) × Int × (List Int) × (List Int) × Int) (r4095 : Int × KS) (p4098 : Nat × Port) (r4103 : Int × KS) (j4109 : Bool) : Option (((List Int) × Int × (List Int) × (List Int) × Int) ⊕ (((List Int) × Int × (List Int) × (List Int)))) := if j4109 = true then L.zjbu.J5 st2940 (r4103.2.L_, r4103.2.At, st2940.2.2.1, st2940.2.2.2.1) else (loopN (L.zjbu.B11 n_1 st2940 r4095 r4103) lots (r4103.2.L_, r4103.2.At, p4098.2.Node, [], (-1))).bind fun d5591 => L.zjbu.J7 n_1 st2940 r4095 r4103 d5591
def L.zjbu.B4 (n_1 : Network) (st2940 : (List Int) × Int × (List Int) × (List Int) × Int) : Option (((List Int) × Int × (List Int) × (List Int) × Int) ⊕ (((List Int) × Int × (List Int) × (List Int)))) := if decide (st2940.2.2.2.2 > 0) = true then (L.zdjb (⟨st2940.1, st2940.2.1⟩ : KS) (n_1.Ports.length : Int)).bind fun r4095 => (ix n_1.Ports r4095.1).bind fun p4098 => (L.ztqk r4095.2 ([1, 5, 30, 300] : List Int)).bind fun r4101 => (L.ziuk r4101.2 1 r4101.1).bind fun r4103 => (ix st2940.2.2.2.1 r4095.1).bind fun p5592 => if decide (p5592.2 < 0) = true then L.zjbu.J6 n_1 st2940 r4095 p4098 r4103 true else L.zjbu.J6 n_1 st2940 r4095 p4098 r4103 (decide ((wr (p5592.2 + r4103.1)) > 1000)) else some ((.inr ((st2940.1, st2940.2.1, st2940.2.2.1, st2940.2.2.2.1))))
def L.zjbu.J2 (n_1 : Network) (j13 : (List Int) × (List Int)) (j48 : (List Int) × Int × (List Bool)) : Option (Plan × KS) := (L.zdjb (⟨j48.1, j48.2.1⟩ : KS) 3).bind fun r51 => (L.zdjb r51.2 5).bind fun r1787 => (loopN (L.zjbu.B4 n_1) lots (r1787.2.L_, r1787.2.At, j13.1, j13.2, r1787.1)).bind fun d5595 => L.zjbu.J3 j48 r51 d5595
def L.zjbu.B20 (n_1 : Network) (st5617 : (List Int) × Int × (List Bool) × Int) : Option (((List Int) × Int × (List Bool) × Int) ⊕ (((List Int) × Int × (List Bool)))) := if decide (st5617.2.2.2 < (n_1.Stations.length : Int)) = true then (L.zdjb (⟨st5617.1, st5617.2.1⟩ : KS) 2).bind fun r5634 => (app? st5617.2.2.1 ([(r5634.1 == 0)] : List Bool)).bind fun l5637 => some (.inl (r5634.2.L_, r5634.2.At, l5637, wr (st5617.2.2.2 + 1))) else some ((.inr ((st5617.1, st5617.2.1, st5617.2.2.1))))
def L.zjbu.J1 (s_0 : KS) (n_1 : Network) (j13 : (List Int) × (List Int)) : Option (Plan × KS) := (loopN (L.zjbu.B20 n_1) lots (s_0.L_, s_0.At, [], 0)).bind fun d5640 => L.zjbu.J2 n_1 j13 d5640
def L.zjbu (s_0 : KS) (n_1 : Network) : Option (Plan × KS) := (mk? (n_1.Segments.length : Int) (0 : Int)).bind fun l5641 => (mk? (n_1.Ports.length : Int) (0 : Int)).bind fun l5645 => L.zjbu.J1 s_0 n_1 (l5641, l5645)
end Go.Proofs.YtehbcbedipkifaaGreatDoor
namespace Go.Aw
set_option linter.unusedVariables false
set_option linter.unusedSimpArgs false
open Go.Sort
theorem ArrR.anew {H H' : GH} {w w' : World} {b ty cap : Nat} {s0 ts es : List Int} {cs : Array Value} (hb : w.heap[b]? = some (.cells cs ty (0, 0))) (hsz : cs.size = cap * 1) (hcap : s0.length ≤ cap) (hmax : s0.length ≤ maxL)
  (hl : ts.length = s0.length) (hp : es.length ≤ ts.length) (hpre : ts.take es.length = es) (hb' : w'.heap[b]? = some (.cells (putCells (Value.int .i64) 0 ts.toArray cs) ty (0, 0))) : ArrR H' w' b ty 1 cap (es.map rI) := by
 refine ⟨_, hb', by simp [putCells, hsz], by simp; omega, by simp; omega, fun i e he => ?_, fun i e he j x hx => ?_⟩
 ·rw [List.getElem?_map] at he
  obtain ⟨n, _, rfl⟩ := Option.map_eq_some_iff.1 he
  rfl
 ·rw [List.getElem?_map] at he
  obtain ⟨n, hn, rfl⟩ := Option.map_eq_some_iff.1 he
  have hj : j = 0 := by have := (gs hx).1; simp [rI] at this; exact this
  subst hj
  simp [rI] at hx
  subst hx
  have hi := (gs hn).1
  have hti : ts[i]? = some n := by
   rw [← hpre, List.getElem?_take_of_lt hi] at hn; exact hn
  have hil := (gs hti).1
  have : (putCells (Value.int .i64) 0 ts.toArray cs).getD (i * 1 + 0) undef = .int .i64 n := by
   rw [Array.getD_eq_getD_getElem?]
   simp only [putCells, Array.getElem?_mapIdx, Nat.mul_one, Nat.add_zero]
   have hcs : i < cs.size := by omega
   rw [Array.getElem?_eq_getElem hcs]
   simp [hil]
   exact (gs hti).2
  rw [this]
  exact ⟨rfl, .v _⟩
theorem ArrR.held {H : GH} {w : World} {b ty cap : Nat} {s0 : List Int} (h : ArrR H w b ty 1 cap (s0.map rI)) :
  ∃ cs, w.heap[b]? = some (.cells cs ty (0, 0)) ∧ cs.size = cap * 1 ∧ s0.length ≤ cap ∧ s0.length ≤ maxL ∧ Holds (Value.int .i64) w b 0 s0.toArray := by
 obtain ⟨cs, h1, h2, h3, h4, h5, h6⟩ := h
 rw [List.length_map] at h3 h4
 refine ⟨cs, h1, h2, h3, h4, fun j hj => ⟨?_, by simp [World.frozen?, h1]⟩⟩
 have hj' : j < s0.length := by simpa using hj
 have := (h6 j (rI s0[j]) (by rw [List.getElem?_map, gq hj']; rfl) 0 (.v (.int .i64 s0[j])) rfl).2.v_eq
 rw [Nat.mul_one, Nat.add_zero] at this
 have hcs : j < cs.size := by omega
 simp only [World.cell?, h1, Nat.zero_add]
 rw [Array.getD_eq_getD_getElem?, Array.getElem?_eq_getElem hcs] at this
 simp at this ⊢
 rw [Array.getElem?_eq_getElem hcs, this]; simp [hj']
theorem compact_len (l : List Int) : (Lib.compact l).length ≤ l.length := by
 unfold Lib.compact Lib.compactUpTo
 rw [List.length_map]
 exact Nat.le_trans (List.length_filter_le _ _) (by simp)
section
variable {E : Env}
def sorted (l : List Int) : List Int := l.mergeSort fun x y => decide (x ≤ y)
def ins (x : Int) : List Int → List Int
 | [] => [x]
 | y :: l => if x ≤ y then x :: y :: l else y :: ins x l
def isort : List Int → List Int
 | [] => []
 | x :: l => ins x (isort l)
theorem ins_perm (x : Int) : ∀ l : List Int, (ins x l).Perm (x :: l)
 | [] => .refl _
 | y :: l => by
  simp only [ins]
  split
  ·exact .refl _
  ·exact ((ins_perm x l).cons y).trans (.swap x y l)
theorem isort_perm : ∀ l : List Int, (isort l).Perm l
 | [] => .refl _
 | x :: l => (ins_perm x (isort l)).trans ((isort_perm l).cons x)
theorem ins_up (x : Int) : ∀ l : List Int, l.Pairwise (· ≤ ·) → (ins x l).Pairwise (· ≤ ·)
 | [], _ => by simp [ins]
 | y :: l, h => by
  simp only [ins]
  rw [List.pairwise_cons] at h
  split
  ·rename_i hxy
   refine List.pairwise_cons.2 ⟨fun z hz => ?_, List.pairwise_cons.2 h⟩
   rcases List.mem_cons.1 hz with rfl | hz
   ·exact hxy
   ·have := h.1 z hz; omega
  ·refine List.pairwise_cons.2 ⟨fun z hz => ?_, ins_up x l h.2⟩
   rcases List.mem_cons.1 ((ins_perm x l).mem_iff.1 hz) with rfl | hz
   ·omega
   ·exact h.1 z hz
theorem isort_up : ∀ l : List Int, (isort l).Pairwise (· ≤ ·)
 | [] => .nil
 | x :: l => ins_up x _ (isort_up l)
theorem sorted_up (l : List Int) : (sorted l).Pairwise (· ≤ ·) := by
 have := List.pairwise_mergeSort (le := fun x y : Int => decide (x ≤ y)) (by intro a b c; simp; omega) (by intro a b; simp; omega) l
 exact this.imp (by intro a b h; simpa using h)
theorem sorted_eq (l : List Int) : sorted l = isort l :=
 List.Perm.eq_of_pairwise (fun a b _ _ h1 h2 => by omega) (sorted_up l) (isort_up l) ((List.mergeSort_perm l _).trans (isort_perm l).symm)
theorem sorted_len (l : List Int) : (sorted l).length = l.length := by unfold sorted; simp
theorem ACalls.sortI {f : FuncId} {ety : Nat} (hfn : ∃ fn, E.P.funcs[f]? = some fn ∧ (fn.name == "runtime.NumGoroutine") = false ∧ fn.body.isNone = false)
  (hc : ∀ (blk off cap : Nat) (zs : List Int) (w : World), Holds (Value.int .i64) w blk off zs.toArray → blk < w.heap.size → zs.length < 4611686018427387904 →
   Calls E.P f #[.slice (some ⟨blk, off, none⟩) zs.length cap] w fun e w' => e = .returned (.tuple #[]) ∧ ∃ n os, w' = grow (putRow (Value.int .i64) (Sort.ahead w n) blk off (zs.mergeSort fun x y => decide (x ≤ y)).toArray) os)
  {u0 : Value} {s0 : List Int} (hne : s0 ≠ []) :
  ACalls E f [.v u0] [.us u0 ety 1 (s0.map rI)] (Gives 1 fun x os new => x = .tup [] ∧ os = [.us u0 ety 1 ((sorted s0).map rI)] ∧ new = []) := by
 refine ⟨hfn, fun H w vs hsz hv hheld hfp hnd => ?_⟩
 have hor := (hfp _ (List.mem_singleton.2 rfl)).1
 have hfree := (hfp _ (List.mem_singleton.2 rfl)).2
 rcases (show UsR H w u0 ety 1 (s0.map rI) from hor) with ⟨_, h⟩ | ⟨b, c, cap, rfl, hlc, hcc, harr⟩
 ·exact absurd (List.map_eq_nil_iff.1 h) hne
 rw [List.length_map] at hlc
 obtain ⟨cs, h1, h2, h3, h4, hH⟩ := harr.held
 have hbl : b < w.heap.size := (Array.getElem?_eq_some_iff.1 h1).1
 have hvs : vs = #[.slice (some ⟨b, 0, none⟩) s0.length c] := by
  have := (hv 0 _ rfl).v_eq
  obtain ⟨l⟩ := vs
  match l, hsz, this with
  | [x], _, this => simp [Array.getD] at this; subst this; simp
 subst hvs
 refine (hc b 0 c s0 w hH hbl (by simp only [maxL] at h4; omega)).mono ?_
 rintro e w' ⟨rfl, n, os, rfl⟩
 have hb' := heap_sortedI (n := n) (os := os) (s0.mergeSort fun x y => decide (x ≤ y)).toArray h1
 obtain ⟨g1, g2, g3, g4, g5⟩ := grownBy_sortedI (w := w) (g := b) (n := n) (os := os) (s0.mergeSort fun x y => decide (x ≤ y)).toArray
 have hbH : H b = none := hfree b (by simp [Ob.fp, bls])
 refine ⟨.tuple #[], .tup [], [.us (.slice (some ⟨b, 0, none⟩) (s0.map rI).length c) ety 1 ((sorted s0).map rI)], H, rfl, ⟨[_], [], rfl, rfl, rfl, rfl, rfl⟩, .tup _ _ rfl (by simp), fun _ _ h => h, fun b' o ho => ?_, fun p hp => ?_, ?_, g4, ⟨g1, g2, g3⟩, fun b' hb'' hnin => ⟨?_, rfl⟩⟩
 ·have hb2 := hheld.1 b' o ho
  have hne' : b' ≠ b := fun h => by rw [h, hbH] at ho; cases ho
  have hl' : b' < w.heap.size := (Array.getElem?_eq_some_iff.1 hb2).1
  rw [g5 b' hl' (by simp; omega)]; exact hb2
 ·rw [List.mem_singleton] at hp
  subst hp
  refine ⟨.inr ⟨b, c, cap, by simp [sorted_len], by simp [sorted_len]; omega, hcc, ?_⟩, fun b' hb'' => ?_⟩
  ·exact ArrR.anew (H := H) h1 h2 h3 h4 (sorted_len s0) (Nat.le_refl _) (by simp) hb'
  ·simp only [Ob.fp, bls, List.mem_singleton] at hb''
   subst hb''
   exact ⟨hbH, .inr (by simp [Ob.fp, bls])⟩
 ·simp [Ob.fp, bls]
 ·have hne' : b' ≠ b := fun h => hnin (by simp [Ob.fp, bls, h])
  exact g5 b' hb'' (by simp; omega)
theorem ACalls.compactI {f : FuncId} {ety : Nat} (hfn : ∃ fn, E.P.funcs[f]? = some fn ∧ (fn.name == "runtime.NumGoroutine") = false ∧ fn.body.isNone = false)
  (hc : ∀ (blk off cap : Nat) (zs : List Int) (w : World), Holds (Value.int .i64) w blk off zs.toArray → zs.length ≤ 9223372036854775807 → zs.length ≤ cap →
   Calls E.P f #[.slice (some ⟨blk, off, none⟩) zs.length cap] w fun e w' => e = .returned (.slice (some ⟨blk, off, none⟩) (Lib.compact zs).length cap) ∧
    ∃ q, w' = putRow (Value.int .i64) (Sort.ahead w q) blk off (Lib.compact zs ++ List.replicate (zs.length - (Lib.compact zs).length) 0).toArray)
  {u0 : Value} {s0 : List Int} (hne : s0 ≠ []) :
  ACalls E f [.v u0] [.us u0 ety 1 (s0.map rI)] (Gives 1 fun x os new => ∃ u1 : Value, x = .v u1 ∧ os = [.us (.slice none 0 0) ety 1 (([] : List Int).map rI)] ∧ new = [.us u1 ety 1 ((Lib.compact s0).map rI)]) := by
 refine ⟨hfn, fun H w vs hsz hv hheld hfp hnd => ?_⟩
 have hor := (hfp _ (List.mem_singleton.2 rfl)).1
 have hfree := (hfp _ (List.mem_singleton.2 rfl)).2
 rcases (show UsR H w u0 ety 1 (s0.map rI) from hor) with ⟨_, h⟩ | ⟨b, c, cap, rfl, hlc, hcc, harr⟩
 ·exact absurd (List.map_eq_nil_iff.1 h) hne
 rw [List.length_map] at hlc
 obtain ⟨cs, h1, h2, h3, h4, hH⟩ := harr.held
 have hbl : b < w.heap.size := (Array.getElem?_eq_some_iff.1 h1).1
 have hvs : vs = #[.slice (some ⟨b, 0, none⟩) s0.length c] := by
  have := (hv 0 _ rfl).v_eq
  obtain ⟨l⟩ := vs
  match l, hsz, this with
  | [x], _, this => simp [Array.getD] at this; subst this; simp
 subst hvs
 have hcl := compact_len s0
 refine (hc b 0 c s0 w hH (by simp only [maxL] at h4; omega) hlc).mono ?_
 rintro e w' ⟨rfl, n, rfl⟩
 have hb' := heap_sortedI (n := n) (os := #[]) (Lib.compact s0 ++ List.replicate (s0.length - (Lib.compact s0).length) 0).toArray h1
 obtain ⟨g1, g2, g3, g4, g5⟩ := grownBy_sortedI (w := w) (g := b) (n := n) (os := #[]) (Lib.compact s0 ++ List.replicate (s0.length - (Lib.compact s0).length) 0).toArray
 rw [grow_empty] at hb' g1 g2 g3 g4 g5
 have hbH : H b = none := hfree b (by simp [Ob.fp, bls])
 refine ⟨_, .v (.slice (some ⟨b, 0, none⟩) (Lib.compact s0).length c), [.us (.slice none 0 0) ety 1 (([] : List Int).map rI), .us (.slice (some ⟨b, 0, none⟩) (Lib.compact s0).length c) ety 1 ((Lib.compact s0).map rI)], H, rfl, ⟨[_], [_], rfl, rfl, _, rfl, rfl, rfl⟩, .v _, fun _ _ h => h, fun b' o ho => ?_, fun p hp => ?_, ?_, g4, ⟨g1, g2, g3⟩, fun b' hb'' hnin => ⟨?_, rfl⟩⟩
 ·have hb2 := hheld.1 b' o ho
  have hne' : b' ≠ b := fun h => by rw [h, hbH] at ho; cases ho
  have hl' : b' < w.heap.size := (Array.getElem?_eq_some_iff.1 hb2).1
  rw [g5 b' hl' (by simp; omega)]; exact hb2
 ·simp only [List.mem_cons, List.not_mem_nil, or_false] at hp
  rcases hp with rfl | rfl
  ·exact ⟨.inl ⟨rfl, rfl⟩, fun b' hb'' => by simp [Ob.fp, bls] at hb''⟩
  refine ⟨.inr ⟨b, c, cap, by simp, by simp; omega, hcc, ?_⟩, fun b' hb'' => ?_⟩
  ·exact ArrR.anew (H := H) h1 h2 h3 h4 (by simp; omega) (by simp) (by simp) hb'
  ·simp only [Ob.fp, bls, List.mem_singleton] at hb''
   subst hb''
   exact ⟨hbH, .inr (by simp [Ob.fp, bls])⟩
 ·simp [Ob.fp, bls]
 ·have hne' : b' ≠ b := fun h => hnin (by simp [Ob.fp, bls, h])
  exact g5 b' hb'' (by simp; omega)
end
end Go.Aw
namespace Go.Proofs.YtehbcbedipkifaaGreatDoor
open Go.Aw
set_option linter.unusedVariables false
set_option linter.unusedSimpArgs false
structure Product where
 Name : ByteArray
 Density : Int
 Expansion : Int
 Compress : Int
 Friction : Int
 deriving DecidableEq
def Product.row (x : Product) : List T := [.v (.string x.Name), .v (.int .i64 x.Density), .v (.int .i64 x.Expansion), .v (.int .i64 x.Compress), .v (.int .i64 x.Friction)]
structure Piece where
 Batch : Int
 Volume : Int
 deriving DecidableEq
def Piece.row (x : Piece) : List T := [.v (.int .i64 x.Batch), .v (.int .i64 x.Volume)]
structure Batch where
 Product : Int
 Shipper : ByteArray
 From : Int
 To : Int
 deriving DecidableEq
def Batch.row (x : Batch) : List T := [.v (.int .i64 x.Product), .v (.string x.Shipper), .v (.int .i64 x.From), .v (.int .i64 x.To)]
structure product_span where
 least : Int
 most : Int
 deriving DecidableEq
def product_span.row (x : product_span) : List T := [.v (.int .i64 x.least), .v (.int .i64 x.most)]
structure Bounds where
 Low : Int
 High : Int
 deriving DecidableEq
def Bounds.row (x : Bounds) : List T := [.v (.int .i64 x.Low), .v (.int .i64 x.High)]
structure gradient_part where
 length : Int
 width : Int
 height : Int
 liquid : Product
 deriving DecidableEq
def gradient_part.row (x : gradient_part) : List T := [.v (.int .i64 x.length), .v (.int .i64 x.width), .v (.int .i64 x.height), .v (.string x.liquid.Name), .v (.int .i64 x.liquid.Density), .v (.int .i64 x.liquid.Expansion), .v (.int .i64 x.liquid.Compress), .v (.int .i64 x.liquid.Friction)]
structure Level where
 At : Int
 Bounds : Bounds
 deriving DecidableEq
def Level.row (x : Level) : List T := [.v (.int .i64 x.At), .v (.int .i64 x.Bounds.Low), .v (.int .i64 x.Bounds.High)]
def L.zjig (s_0 : KS) (n_1 : Int) : Option (Product × KS) := (L.zeyi (⟨#[112]⟩ : ByteArray) n_1).bind fun r3 => (L.ziuk s_0 400 1200).bind fun r5 => (L.ztqk r5.2 ([0, 830, 2000, 1] : List Int)).bind fun r8 => (L.ztqk r8.2 ([0, 800, 5000, 3] : List Int)).bind fun r11 => (L.ztqk r11.2 ([1, 700, 1000, 1300, 2000] : List Int)).bind fun r14 => some ((⟨r3, r5.1, r8.1, r11.1, r14.1⟩ : Product), r14.2)
def L.zexx.J1 (j36 : (List Int) × Int × (List Product)) : Option ((List Product) × KS) := some (j36.2.2, (⟨j36.1, j36.2.1⟩ : KS))
def L.zexx.B2 (st61 : (List Int) × Int × (List Product) × Int) : Option (((List Int) × Int × (List Product) × Int) ⊕ (((List Int) × Int × (List Product)))) := if decide (st61.2.2.2 > 0) = true then (L.zjig (⟨st61.1, st61.2.1⟩ : KS) (st61.2.2.1.length : Int)).bind fun r78 => (app? st61.2.2.1 ([r78.1] : List Product)).bind fun l81 => some (.inl (r78.2.L_, r78.2.At, l81, wr (st61.2.2.2 - 1))) else some ((.inr ((st61.1, st61.2.1, st61.2.2.1))))
def L.zexx (s_0 : KS) : Option ((List Product) × KS) := (L.ziuk s_0 1 4).bind fun r39 => (loopN L.zexx.B2 lots (r39.2.L_, r39.2.At, [], r39.1)).bind fun d84 => L.zexx.J1 d84
def L.zdti.J1 (j110 : (List Int) × Int × (List Piece)) : Option ((List Piece) × KS) := some (j110.2.2, (⟨j110.1, j110.2.1⟩ : KS))
def L.zdti.J4 (st177 : (List Int) × Int × Int × (List Piece)) (r232 : Int × KS) (j236 : Int) (j259 : Int) : Option (((List Int) × Int × Int × (List Piece)) ⊕ (((List Int) × Int × (List Piece)))) := (app? st177.2.2.2 ([(⟨j259, (min j236 st177.2.2.1)⟩ : Piece)] : List Piece)).bind fun l261 => some (.inl (r232.2.L_, r232.2.At, wr (st177.2.2.1 - (min j236 st177.2.2.1)), l261))
def L.zdti.J5 (batches_2 : Int) (st177 : (List Int) × Int × Int × (List Piece)) (r230 : Int × KS) (r232 : Int × KS) (j236 : Int) (j271 : Bool) : Option (((List Int) × Int × Int × (List Piece)) ⊕ (((List Int) × Int × (List Piece)))) := if j271 = true then (rem? (wr (r230.1 + 1)) batches_2).bind fun x274 => (ix st177.2.2.2 (wr ((st177.2.2.2.length : Int) - 1))).bind fun p277 => if (p277.2.Batch == x274) = true then some (.inl (r232.2.L_, r232.2.At, wr (st177.2.2.1 - (min j236 st177.2.2.1)), (st177.2.2.2.set p277.1 (⟨p277.2.Batch, wr (p277.2.Volume + (min j236 st177.2.2.1))⟩ : Piece)))) else L.zdti.J4 st177 r232 j236 x274 else L.zdti.J4 st177 r232 j236 r230.1
def L.zdti.J3 (batches_2 : Int) (st177 : (List Int) × Int × Int × (List Piece)) (r230 : Int × KS) (r232 : Int × KS) (j236 : Int) : Option (((List Int) × Int × Int × (List Piece)) ⊕ (((List Int) × Int × (List Piece)))) := if decide ((st177.2.2.2.length : Int) > 0) = true then (ix st177.2.2.2 (wr ((st177.2.2.2.length : Int) - 1))).bind fun p286 => L.zdti.J5 batches_2 st177 r230 r232 j236 (p286.2.Batch == r230.1) else L.zdti.J5 batches_2 st177 r230 r232 j236 false
def L.zdti.B2 (batches_2 : Int) (st177 : (List Int) × Int × Int × (List Piece)) : Option (((List Int) × Int × Int × (List Piece)) ⊕ (((List Int) × Int × (List Piece)))) := if (decide (st177.2.2.1 > 0) && decide ((st177.2.2.2.length : Int) < 12)) = true then (L.zdjb (⟨st177.1, st177.2.1⟩ : KS) batches_2).bind fun r230 => (L.ziuk r230.2 1 (max 1 (wr ((wr (st177.2.2.1 * 2)).tdiv 3)))).bind fun r232 => if ((st177.2.2.2.length : Int) == 11) = true then L.zdti.J3 batches_2 st177 r230 r232 st177.2.2.1 else L.zdti.J3 batches_2 st177 r230 r232 r232.1 else some ((.inr ((st177.1, st177.2.1, st177.2.2.2))))
def L.zdti (s_0 : KS) (volume_1 : Int) (batches_2 : Int) : Option ((List Piece) × KS) := (loopN (L.zdti.B2 batches_2) lots (s_0.L_, s_0.At, volume_1, [])).bind fun d293 => L.zdti.J1 d293
def L.ziyq.J1 (j46 : (List Int) × Int × (List Batch)) : Option ((List Batch) × KS) := some (j46.2.2, (⟨j46.1, j46.2.1⟩ : KS))
def L.ziyq.B2 (count_1 : Int) (products_2 : Int) (st77 : (List Int) × Int × (List Batch) × Int) : Option (((List Int) × Int × (List Batch) × Int) ⊕ (((List Int) × Int × (List Batch)))) := if decide (st77.2.2.2 < count_1) = true then (L.zdjb (⟨st77.1, st77.2.1⟩ : KS) products_2).bind fun r98 => (L.zdjb r98.2 3).bind fun r100 => (L.zeyi (⟨#[102]⟩ : ByteArray) r100.1).bind fun r102 => (app? st77.2.2.1 ([(⟨r98.1, r102, 0, 1⟩ : Batch)] : List Batch)).bind fun l105 => some (.inl (r100.2.L_, r100.2.At, l105, wr (st77.2.2.2 + 1))) else some ((.inr ((st77.1, st77.2.1, st77.2.2.1))))
def L.ziyq (s_0 : KS) (count_1 : Int) (products_2 : Int) : Option ((List Batch) × KS) := (loopN (L.ziyq.B2 count_1 products_2) lots (s_0.L_, s_0.At, [], 0)).bind fun d108 => L.ziyq.J1 d108
def L.zvhn (s_0 : Segment) : Option Int := (L.zfta (⟨([(⟨#[97]⟩ : ByteArray), (⟨#[98]⟩ : ByteArray)] : List ByteArray), ([(⟨s_0.Name, 0, 1, s_0.Capacity, s_0.Resist, s_0.Wave, s_0.Points⟩ : Segment)] : List Segment), [], [], 0, 0⟩ : Network)).bind fun r6 => if (r6 != 0) = true then some 9 else some 0
def L.zojo (p_0 : Piece) : Bool := (decide (p_0.Batch ≥ 0) && (decide (p_0.Batch < 1000) && (decide (p_0.Volume ≥ 0) && decide (p_0.Volume ≤ 1000000))))
def L.zmsl.J1 (j23 : Int) : Option Int := some j23
def L.zmsl.B2 (k25 : Nat) (x28 : Piece) (st38 : Int) : Option Int := some (wr (st38 + x28.Volume))
def L.zmsl (f_0 : List Piece) : Option Int := (forS L.zmsl.B2 0 f_0 0).bind fun st38 => L.zmsl.J1 st38
def L.zqwg.J1 (f_0 : List Piece) (j36 : Unit) : Option Bool := (L.zmsl f_0).bind fun r37 => some (decide (r37 ≤ 1000000))
def L.zqwg.J3 (j83 : Bool) : Option (Unit ⊕ (Bool)) := if j83 = true then some ((.inr (false))) else some (.inl ())
def L.zqwg.B2 (f_0 : List Piece) (k40 : Nat) (x43 : Piece) (st57 : Unit) : Option (Unit ⊕ (Bool)) := if (!(L.zojo x43)) = true then L.zqwg.J3 true else if (x43.Volume == 0) = true then L.zqwg.J3 true else if decide ((k40 : Int) > 0) = true then (ix f_0 (wr ((k40 : Int) - 1))).bind fun p88 => L.zqwg.J3 (p88.2.Batch == x43.Batch) else L.zqwg.J3 false
def L.zqwg (f_0 : List Piece) : Option Bool := if decide ((f_0.length : Int) > 200) = true then some false else (forL (L.zqwg.B2 f_0) 0 f_0 ()).bind fun o69 => Sum.elim (fun st57 => L.zqwg.J1 f_0 ()) (fun d92 => some d92) o69
def L.zryf (f_0 : List Piece) : Option Int := (L.zqwg f_0).bind fun r2 => if (!r2) = true then some 0 else (L.zmsl f_0).bind fun r5 => some r5
def L.zleg.J1 (s_0 : Segment) (f_1 : List Piece) (j9 : Bool) : Option Int := if j9 = true then some 9 else (L.zryf f_1).bind fun r11 => if (r11 != s_0.Capacity) = true then some 14 else some 0
def L.zleg (s_0 : Segment) (f_1 : List Piece) : Option Int := (L.zvhn s_0).bind fun r14 => if (r14 != 0) = true then L.zleg.J1 s_0 f_1 true else (L.zqwg f_1).bind fun r17 => L.zleg.J1 s_0 f_1 (!r17)
def L.zfby (s0 : List Int) : Option (List Int) := if s0 = [] then none else some (isort s0)
def L.zapf (s0 : List Int) : Option (List Int) := if s0 = [] then none else some (Go.Lib.compact s0)
def L.zksz.J2 (j75 : List Int) : Option (List Int) := (L.zfby j75).bind fun r77 => (L.zapf r77).bind fun r79 => some r79
def L.zksz.B3 (k83 : Nat) (x86 : Piece) (st105 : (List Int) × Int) : Option ((List Int) × Int) := (app? st105.1 ([wr (st105.2 + x86.Volume)] : List Int)).bind fun l123 => some (l123, wr (st105.2 + x86.Volume))
def L.zksz.J1 (f_1 : List Piece) (j38 : List Int) : Option (List Int) := (forS L.zksz.B3 0 f_1 (j38, 0)).bind fun st105 => L.zksz.J2 st105.1
def L.zksz.B4 (k129 : Nat) (x132 : Point) (st151 : List Int) : Option (List Int) := (app? st151 ([x132.At] : List Int)).bind fun l169 => some l169
def L.zksz (s_0 : Segment) (f_1 : List Piece) : Option (List Int) := (forS L.zksz.B4 0 s_0.Points []).bind fun st151 => L.zksz.J1 f_1 st151
def L.zeyl (p_0 : Product) : (Arr Int 4) := (⟨[p_0.Density, p_0.Expansion, p_0.Compress, p_0.Friction], rfl⟩ : Arr Int 4)
def L.zvqj.J1 (p_0 : Product) (j36 : Unit) : Option Bool := (L.zcvq p_0.Name).bind fun r37 => some r37
def L.zvqj.J3 (j82 : Bool) : Option (Unit ⊕ (Bool)) := if j82 = true then some ((.inr (false))) else some (.inl ())
def L.zvqj.B2 (p_0 : Product) (k40 : Nat) (st56 : Unit) : Option (Unit ⊕ (Bool)) := (ix ([⟨400, 1200⟩, ⟨0, 2000⟩, ⟨0, 5000⟩, ⟨1, 2000⟩] : List product_span) (k40 : Int)).bind fun p76 => (ix ((L.zeyl p_0).l) (k40 : Int)).bind fun p84 => if decide (p84.2 < p76.2.least) = true then L.zvqj.J3 true else L.zvqj.J3 (decide (p84.2 > p76.2.most))
def L.zvqj (p_0 : Product) : Option Bool := (forI (L.zvqj.B2 p_0) 0 4 ()).bind fun o68 => Sum.elim (fun st56 => L.zvqj.J1 p_0 ()) (fun d89 => some d89) o68
def L.zmqg.J1 (j24 : Unit) : Option Int := some (-1)
def L.zmqg.B2 (g1 : Product → Option Bool) (k26 : Nat) (x29 : Product) (st38 : Unit) : Option (Unit ⊕ (Int)) := (g1 x29).bind fun r53 => if r53 = true then some ((.inr ((k26 : Int)))) else some (.inl ())
def L.zmqg (s_0 : List Product) (g1 : Product → Option Bool) : Option Int := (forL (L.zmqg.B2 g1) 0 s_0 ()).bind fun o45 => Sum.elim (fun st38 => L.zmqg.J1 ()) (fun d58 => some d58) o45
def L.zlbl (p_0 : Product) (a_1 : ByteArray) : Bool := (sEq p_0.Name a_1)
def L.zwbj (l_0 : List Product) (name_1 : ByteArray) : Option Int := (L.zmqg l_0 (fun x => some (L.zlbl x name_1))).bind fun r2 => some r2
def L.zwas.J2 (j51 : Unit) : Option Int := some 0
def L.zwas.B3 (l_0 : List Product) (k53 : Nat) (x56 : Product) (st66 : Unit) : Option (Unit ⊕ (Int)) := (L.zwbj l_0 x56.Name).bind fun r83 => if decide (r83 < (k53 : Int)) = true then some ((.inr (7))) else some (.inl ())
def L.zwas.J1 (l_0 : List Product) (j26 : Unit) : Option Int := (forL (L.zwas.B3 l_0) 0 l_0 ()).bind fun o74 => Sum.elim (fun st66 => L.zwas.J2 ()) (fun d88 => some d88) o74
def L.zwas.B4 (k90 : Nat) (x93 : Product) (st102 : Unit) : Option (Unit ⊕ (Int)) := (L.zvqj x93).bind fun r117 => if (!r117) = true then some ((.inr (9))) else some (.inl ())
def L.zwas (l_0 : List Product) : Option Int := if decide ((l_0.length : Int) > 16) = true then some 4 else (forL L.zwas.B4 0 l_0 ()).bind fun o109 => Sum.elim (fun st102 => L.zwas.J1 l_0 ()) (fun d122 => some d122) o109
def L.zovs.J1 (j73 : List Product) : Option ((List Product) × Int) := some (j73, 0)
def L.zovs.B2 (batches_1 : List Batch) (products_2 : List Product) (k76 : Nat) (x79 : Piece) (st122 : List Product) : Option ((List Product) ⊕ (((List Product) × Int))) := if decide (x79.Batch ≥ (batches_1.length : Int)) = true then some ((.inr (([], 8)))) else (ix batches_1 x79.Batch).bind fun p155 => if (decide (p155.2.Product < 0) || decide (p155.2.Product ≥ (products_2.length : Int))) = true then some ((.inr (([], 8)))) else (ix products_2 p155.2.Product).bind fun p161 => (app? st122 ([p161.2] : List Product)).bind fun l164 => some (.inl l164)
def L.zovs (f_0 : List Piece) (batches_1 : List Batch) (products_2 : List Product) : Option ((List Product) × Int) := (forL (L.zovs.B2 batches_1 products_2) 0 f_0 []).bind fun o143 => Sum.elim (fun st122 => L.zovs.J1 st122) (fun d169 => some d169) o143
def L.zspb (b_0 : Bounds) : Bool := (decide (b_0.Low ≤ b_0.High) && (decide (b_0.Low ≥ (-1125899906842624)) && decide (b_0.High ≤ 1125899906842624)))
def L.zbwo.J1 (j22 : Int) : Option Int := some j22
def L.zbwo.B2 (g1 : Int → Option Bool) (st36 : Int × Int) : Option ((Int × Int) ⊕ (Int)) := if decide (st36.1 < st36.2) = true then (g1 (wr (((IntKind.u64.wrap (wr (st36.1 + st36.2))).fdiv 2)))).bind fun r49 => if (!r49) = true then some (.inl (wr ((wr (((IntKind.u64.wrap (wr (st36.1 + st36.2))).fdiv 2))) + 1), st36.2)) else some (.inl (st36.1, wr (((IntKind.u64.wrap (wr (st36.1 + st36.2))).fdiv 2)))) else some ((.inr (st36.1)))
def L.zbwo (n_0 : Int) (g1 : Int → Option Bool) : Option Int := (loopN (L.zbwo.B2 g1) lots (0, n_0)).bind fun d52 => L.zbwo.J1 d52
def L.zplf (i_0 : Int) (a_1 : Segment) (a_2 : Int) : Option Bool := (ix a_1.Points i_0).bind fun p1 => some (decide (p1.2.At ≥ a_2))
def L.zwce (s_0 : Segment) (end_1 : Int) : Option Int := (L.zbwo (wr ((s_0.Points.length : Int) - 1)) (fun x => L.zplf x s_0 end_1)).bind fun r3 => some r3
def L.zdmv.J1 (j161 : List gradient_part) : Option (List gradient_part) := some j161
def L.zdmv.J3 (st266 : (List gradient_part) × Int × Int × Int) (j369 : (List gradient_part) × Int × Int) : Option (((List gradient_part) × Int × Int × Int) ⊕ ((List gradient_part))) := some (.inl (j369.1, j369.2.1, j369.2.2, wr (st266.2.2.2 + 1)))
def L.zdmv.J5 (l_2 : List Product) (at_3 : List Int) (st266 : (List gradient_part) × Int × Int × Int) (j393 : Int × Int) (p395 : Nat × Int) (j405 : Int × Int × Int × Int × Int × Int) : Option (((List gradient_part) × Int × Int × Int) ⊕ ((List gradient_part))) := (ix at_3 (wr (st266.2.2.2 - 1))).bind fun p408 => (ix l_2 j393.1).bind fun p410 => (app? st266.1 ([(⟨wr (p395.2 - p408.2), wr (j405.2.2.2.1 - j405.1), wr (j405.2.2.2.2.1 - j405.2.1), p410.2⟩ : gradient_part)] : List gradient_part)).bind fun l413 => L.zdmv.J3 st266 (l413, j393.1, j393.2)
def L.zdmv.J4 (s_0 : Segment) (l_2 : List Product) (at_3 : List Int) (st266 : (List gradient_part) × Int × Int × Int) (j393 : Int × Int) : Option (((List gradient_part) × Int × Int × Int) ⊕ ((List gradient_part))) := (ix at_3 st266.2.2.2).bind fun p395 => (L.zwce s_0 p395.2).bind fun r397 => (ix s_0.Points (wr (r397 - 1))).bind fun p416 => (ix s_0.Points r397).bind fun p418 => L.zdmv.J5 l_2 at_3 st266 j393 p395 (p416.2.At, p416.2.Height, p416.2.Limit, p418.2.At, p418.2.Height, p418.2.Limit)
def L.zdmv.B6 (f_1 : List Piece) (at_3 : List Int) (st266 : (List gradient_part) × Int × Int × Int) (st437 : Int × Int) : Option ((Int × Int) ⊕ ((Int × Int))) := (ix at_3 st266.2.2.2).bind fun p450 => if decide (p450.2 > st437.2) = true then (ix f_1 (wr (st437.1 + 1))).bind fun p453 => some (.inl (wr (st437.1 + 1), wr (st437.2 + p453.2.Volume))) else some ((.inr ((st437.1, st437.2))))
def L.zdmv.B2 (s_0 : Segment) (f_1 : List Piece) (l_2 : List Product) (at_3 : List Int) (st266 : (List gradient_part) × Int × Int × Int) : Option (((List gradient_part) × Int × Int × Int) ⊕ ((List gradient_part))) := if decide (st266.2.2.2 < (at_3.length : Int)) = true then (loopN (L.zdmv.B6 f_1 at_3 st266) lots (st266.2.1, st266.2.2.1)).bind fun d455 => L.zdmv.J4 s_0 l_2 at_3 st266 d455 else some ((.inr (st266.1)))
def L.zdmv (s_0 : Segment) (f_1 : List Piece) (l_2 : List Product) (at_3 : List Int) : Option (List gradient_part) := (ix f_1 0).bind fun p5 => (loopN (L.zdmv.B2 s_0 f_1 l_2 at_3) lots ([], 0, p5.2.Volume, 1)).bind fun d456 => L.zdmv.J1 d456
def L.ziky.J1 (j17 : Int × Int) : Option (Int × Int × Bool) := some (j17.1, j17.2, true)
def L.ziky (a_0 : Int) (b_1 : Int) : Option (Int × Int × Bool) := if (decide (b_1 < 1) || (decide (b_1 > 1099511627776) || (decide (a_0 < (-2305843009213693952)) || decide (a_0 > 2305843009213693952)))) = true then some (0, 0, false) else (quo? a_0 b_1).bind fun x12 => (rem? a_0 b_1).bind fun x14 => if decide (x14 < 0) = true then L.ziky.J1 (wr (x12 - 1), wr (x14 + b_1)) else L.ziky.J1 (x12, x14)
def L.zwdf (a_0 : Int) (b_1 : Int) : Option Int := (L.ziky a_0 b_1).bind fun r2 => some r2.1
def L.zspy.J1 (j9 : Int) : Option Int := some j9
def L.zspy (a_0 : Int) (b_1 : Int) : Option Int := (L.ziky a_0 b_1).bind fun r3 => if (r3.2.2 && decide (r3.2.1 > 0)) = true then L.zspy.J1 (wr (r3.1 + 1)) else L.zspy.J1 r3.1
def L.zpsp (x_0 : gradient_part) (s_1 : Segment) (q_2 : Int) : Option (Int × Int) := (L.zwdf (wr ((wr ((wr ((wr (s_1.Resist * x_0.liquid.Friction)) * q_2)) * q_2)) * x_0.length)) (wr (1000 * s_1.Capacity))).bind fun r6 => (L.zwdf (wr ((wr ((wr (x_0.liquid.Density * 9807)) * x_0.height)) * x_0.length)) (wr (1000 * x_0.width))).bind fun r8 => (L.zspy (wr ((wr ((wr ((wr (s_1.Resist * x_0.liquid.Friction)) * q_2)) * q_2)) * x_0.length)) (wr (1000 * s_1.Capacity))).bind fun r10 => (L.zspy (wr ((wr ((wr (x_0.liquid.Density * 9807)) * x_0.height)) * x_0.length)) (wr (1000 * x_0.width))).bind fun r12 => some (wr (r6 + r8), wr (r10 + r12))
def L.zvxi (s0 : List Int) : Option (List Int) := app? [] s0
def L.zyqm.J2 (st29 : (List Int) × Int × Int) (j58 : List Int) : Option (((List Int) × Int × Int) ⊕ ((List Int))) := some (.inl (j58, wr (st29.2.1 + 1), wr (st29.2.2 - 1)))
def L.zyqm.B1 (st29 : (List Int) × Int × Int) : Option (((List Int) × Int × Int) ⊕ ((List Int))) := if decide (st29.2.1 < st29.2.2) = true then (ix st29.1 st29.2.2).bind fun p59 => (ix st29.1 st29.2.1).bind fun p61 => (ix (st29.1.set p61.1 p59.2) st29.2.2).bind fun p63 => L.zyqm.J2 st29 ((st29.1.set p61.1 p59.2).set p63.1 p61.2) else some ((.inr (st29.1)))
def L.zyqm (s_0 : List Int) : Option (List Int) := (loopN L.zyqm.B1 lots (s_0, 0, wr ((s_0.length : Int) - 1))).bind fun d68 => some d68
def L.zbxo.J2 (st29 : (List gradient_part) × Int × Int) (j58 : List gradient_part) : Option (((List gradient_part) × Int × Int) ⊕ ((List gradient_part))) := some (.inl (j58, wr (st29.2.1 + 1), wr (st29.2.2 - 1)))
def L.zbxo.B1 (st29 : (List gradient_part) × Int × Int) : Option (((List gradient_part) × Int × Int) ⊕ ((List gradient_part))) := if decide (st29.2.1 < st29.2.2) = true then (ix st29.1 st29.2.2).bind fun p59 => (ix st29.1 st29.2.1).bind fun p61 => (ix (st29.1.set p61.1 p59.2) st29.2.2).bind fun p63 => L.zbxo.J2 st29 ((st29.1.set p61.1 p59.2).set p63.1 p61.2) else some ((.inr (st29.1)))
def L.zbxo (s_0 : List gradient_part) : Option (List gradient_part) := (loopN L.zbxo.B1 lots (s_0, 0, wr ((s_0.length : Int) - 1))).bind fun d68 => some d68
def L.zaagu.J2 (st29 : (List Level) × Int × Int) (j58 : List Level) : Option (((List Level) × Int × Int) ⊕ ((List Level))) := some (.inl (j58, wr (st29.2.1 + 1), wr (st29.2.2 - 1)))
def L.zaagu.B1 (st29 : (List Level) × Int × Int) : Option (((List Level) × Int × Int) ⊕ ((List Level))) := if decide (st29.2.1 < st29.2.2) = true then (ix st29.1 st29.2.2).bind fun p59 => (ix st29.1 st29.2.1).bind fun p61 => (ix (st29.1.set p61.1 p59.2) st29.2.2).bind fun p63 => L.zaagu.J2 st29 ((st29.1.set p61.1 p59.2).set p63.1 p61.2) else some ((.inr (st29.1)))
def L.zaagu (s_0 : List Level) : Option (List Level) := (loopN L.zaagu.B1 lots (s_0, 0, wr ((s_0.length : Int) - 1))).bind fun d68 => some d68
def L.zuct.J3 (j140 : List Level) : Option ((List Level) × Int) := some (j140, 0)
def L.zuct.J2 (rate_4 : Int) (j135 : List Level) : Option ((List Level) × Int) := if decide (rate_4 < 0) = true then (L.zaagu j135).bind fun r142 => L.zuct.J3 r142 else L.zuct.J3 j135
def L.zuct.B4 (s_0 : Segment) (rate_4 : Int) (j69 : (List gradient_part) × (List Int)) (k145 : Nat) (st184 : Int × Int × (List Level)) : Option (Int × Int × (List Level)) := (ix j69.1 (k145 : Int)).bind fun p210 => (L.zpsp p210.2 s_0 (max rate_4 (wr (0 - rate_4)))).bind fun r214 => (ix j69.2 ((k145 + 1 : Nat) : Int)).bind fun p216 => (app? st184.2.2 ([(⟨p216.2, (⟨wr (st184.1 - r214.2), wr (st184.2.1 - r214.1)⟩ : Bounds)⟩ : Level)] : List Level)).bind fun l219 => some (wr (st184.1 - r214.2), wr (st184.2.1 - r214.1), l219)
def L.zuct.J1 (s_0 : Segment) (rate_4 : Int) (in_5 : Bounds) (j69 : (List gradient_part) × (List Int)) : Option ((List Level) × Int) := (ix j69.2 0).bind fun p71 => (forJ (L.zuct.B4 s_0 rate_4 j69) 0 j69.1.length (in_5.Low, in_5.High, ([(⟨p71.2, in_5⟩ : Level)] : List Level))).bind fun st184 => L.zuct.J2 rate_4 st184.2.2
def L.zuct.B5 (k234 : Nat) (st248 : List gradient_part) : Option (List gradient_part) := (ix st248 (k234 : Int)).bind fun p260 => some (st248.set p260.1 (⟨p260.2.length, p260.2.width, wr (0 - p260.2.height), p260.2.liquid⟩ : gradient_part))
def L.zuct (s_0 : Segment) (f_1 : List Piece) (batches_2 : List Batch) (products_3 : List Product) (rate_4 : Int) (in_5 : Bounds) : Option ((List Level) × Int) := (L.zleg s_0 f_1).bind fun r5 => if (r5 != 0) = true then some ([], r5) else (L.zwas products_3).bind fun r9 => if (r9 != 0) = true then some ([], r9) else (L.zovs f_1 batches_2 products_3).bind fun r13 => if (r13.2 != 0) = true then some ([], r13.2) else if ((rate_4 == 0) || (decide (rate_4 < (-1000)) || (decide (rate_4 > 1000) || (!(L.zspb in_5))))) = true then some ([], 1) else (L.zksz s_0 f_1).bind fun r28 => (L.zdmv s_0 f_1 r13.1 r28).bind fun r32 => (L.zvxi r28).bind fun r36 => if decide (rate_4 < 0) = true then (L.zyqm r36).bind fun r228 => (L.zbxo r32).bind fun r231 => (forJ L.zuct.B5 0 r231.length r231).bind fun st248 => L.zuct.J1 s_0 rate_4 in_5 (st248, r228) else L.zuct.J1 s_0 rate_4 in_5 (r32, r36)
def L.zbhc.J1 (j47 : (List Int) × Int × (List (List Piece))) : Option ((List (List Piece)) × KS) := some (j47.2.2, (⟨j47.1, j47.2.1⟩ : KS))
def L.zbhc.B2 (batches_2 : Int) (k50 : Nat) (x53 : Segment) (st78 : (List Int) × Int × (List (List Piece))) : Option ((List Int) × Int × (List (List Piece))) := (L.zdti (⟨st78.1, st78.2.1⟩ : KS) x53.Capacity batches_2).bind fun r98 => (app? st78.2.2 ([r98.1] : List (List Piece))).bind fun l102 => some (r98.2.L_, r98.2.At, l102)
def L.zbhc (s_0 : KS) (n_1 : Network) (batches_2 : Int) : Option ((List (List Piece)) × KS) := (forS (L.zbhc.B2 batches_2) 0 n_1.Segments (s_0.L_, s_0.At, [])).bind fun st78 => L.zbhc.J1 (st78.1, st78.2.1, st78.2.2)
end Go.Proofs.YtehbcbedipkifaaGreatDoor
namespace Go.Proofs
open Go.Shelf
def Tryz.lays189_ren : Go.Shelf.Ren := ⟨fun | 189 => 162 | 125 => 172 | 257 => 171 | 128 => 186 | 129 => 187 | 294 => 177 | 295 => 178 | 296 => 179 | 297 => 180 | 298 => 181 | 299 => 182 | 216 => 183 | 300 => 184 | 301 => 185 | 328 => 188 | 329 => 189 | 330 => 190 | 331 => 191 | 332 => 192 | 215 => 193 | 343 => 194 | n => n, fun | 28 => 29 | 3 => 3 | 46 => 210 | 0 => 0 | 51 => 86 | 53 => 224 | 4 => 4 | 183 => 216 | 182 => 215 | 131 => 220 | 5 => 5 | 9 => 9 | 218 => 225 | 222 => 229 | 228 => 231 | 229 => 78 | n => n, fun | n => n⟩
theorem Tryz.lays189 : Go.Proofs.Lays.n189 Tryz.prog Tryz.lays189_ren := {
 mixed := by kernel_rfl
 f125 := Tryz.func172.trans (congrArg some (by kernel_rfl))
 f128 := Tryz.func186.trans (congrArg some (by kernel_rfl))
 f129 := Tryz.func187.trans (congrArg some (by kernel_rfl))
 f189 := Tryz.func162.trans (congrArg some (by kernel_rfl))
 f215 := Tryz.func193.trans (congrArg some (by kernel_rfl))
 f216 := Tryz.func183.trans (congrArg some (by kernel_rfl))
 f257 := Tryz.func171.trans (congrArg some (by kernel_rfl))
 f294 := Tryz.func177.trans (congrArg some (by kernel_rfl))
 f295 := Tryz.func178.trans (congrArg some (by kernel_rfl))
 f296 := Tryz.func179.trans (congrArg some (by kernel_rfl))
 f297 := Tryz.func180.trans (congrArg some (by kernel_rfl))
 f298 := Tryz.func181.trans (congrArg some (by kernel_rfl))
 f299 := Tryz.func182.trans (congrArg some (by kernel_rfl))
 f300 := Tryz.func184.trans (congrArg some (by kernel_rfl))
 f301 := Tryz.func185.trans (congrArg some (by kernel_rfl))
 f328 := Tryz.func188.trans (congrArg some (by kernel_rfl))
 f329 := Tryz.func189.trans (congrArg some (by kernel_rfl))
 f330 := Tryz.func190.trans (congrArg some (by kernel_rfl))
 f331 := Tryz.func191.trans (congrArg some (by kernel_rfl))
 f332 := Tryz.func192.trans (congrArg some (by kernel_rfl))
 f343 := Tryz.func194.trans (congrArg some (by kernel_rfl))
 t0 := Tryz.underlying0
 a0 := Tryz.isAgg0
 z0 := Tryz.sizeOf0
 v0 := Tryz.zeroValue0
 t3 := Tryz.underlying3
 a3 := Tryz.isAgg3
 z3 := Tryz.sizeOf3
 v3 := Tryz.zeroValue3
 t4 := Tryz.underlying4
 a4 := Tryz.isAgg4
 z4 := Tryz.sizeOf4
 v4 := Tryz.zeroValue4
 t5 := Tryz.underlying5
 a5 := Tryz.isAgg5
 z5 := Tryz.sizeOf5
 v5 := Tryz.zeroValue5
 t9 := Tryz.underlying9
 a9 := Tryz.isAgg9
 z9 := Tryz.sizeOf9
 v9 := Tryz.zeroValue9
 t28 := Tryz.underlying29
 a28 := Tryz.isAgg29
 z28 := Tryz.sizeOf29
 v28 := Tryz.zeroValue29
 t46 := Tryz.underlying210
 a46 := Tryz.isAgg210
 z46 := Tryz.sizeOf210
 v46 := Tryz.zeroValue210
 t51 := Tryz.underlying86
 a51 := Tryz.isAgg86
 z51 := Tryz.sizeOf86
 v51 := Tryz.zeroValue86
 t53 := Tryz.underlying224
 a53 := Tryz.isAgg224
 z53 := Tryz.sizeOf224
 v53 := Tryz.zeroValue224
 t131 := Tryz.underlying220
 a131 := Tryz.isAgg220
 z131 := Tryz.sizeOf220
 v131 := Tryz.zeroValue220
 t182 := Tryz.underlying215
 a182 := Tryz.isAgg215
 z182 := Tryz.sizeOf215
 v182 := Tryz.zeroValue215
 t183 := Tryz.underlying216
 a183 := Tryz.isAgg216
 z183 := Tryz.sizeOf216
 v183 := Tryz.zeroValue216
 t218 := Tryz.underlying225
 a218 := Tryz.isAgg225
 z218 := Tryz.sizeOf225
 v218 := Tryz.zeroValue225
 t222 := Tryz.underlying229
 a222 := Tryz.isAgg229
 z222 := Tryz.sizeOf229
 v222 := Tryz.zeroValue229
 t228 := Tryz.underlying231
 a228 := Tryz.isAgg231
 z228 := Tryz.sizeOf231
 v228 := Tryz.zeroValue231
 t229 := Tryz.underlying78
 a229 := Tryz.isAgg78
 z229 := Tryz.sizeOf78
 v229 := Tryz.zeroValue78 }
open Go.Sort Go.RowKit in
theorem Tryz.slices_Sort_int (blk off cap : Nat) (zs : List Int) (w : World) (hH : Holds (Value.int .i64) w blk off zs.toArray) (hblk : blk < w.heap.size) (hsz : zs.length < 4611686018427387904) :
  Calls Tryz.prog 162 #[.slice (some ⟨blk, off, none⟩) zs.length cap] w fun e w' =>
   e = .returned (.tuple #[]) ∧ ∃ n os, w' = grow (putRow (Value.int .i64) (Sort.ahead w n) blk off (zs.mergeSort fun x y => decide (x ≤ y)).toArray) os := Any.slices_Sort_int Tryz.lays189 blk off cap zs w hH hblk hsz
def Tryz.laysNm220_ren : Go.Shelf.Ren := ⟨fun | 20 => 163 | n => n, fun | 22 => 29 | 3 => 3 | 4 => 4 | 0 => 0 | n => n, fun | n => n⟩
theorem Tryz.laysNm220 : Go.Proofs.Lays2.n20 Tryz.prog Tryz.laysNm220_ren := {
 mixed := by kernel_rfl
 f20 := Tryz.func163.trans (congrArg some (by kernel_rfl))
 t0 := Tryz.underlying0
 a0 := Tryz.isAgg0
 z0 := Tryz.sizeOf0
 v0 := Tryz.zeroValue0
 t3 := Tryz.underlying3
 a3 := Tryz.isAgg3
 z3 := Tryz.sizeOf3
 v3 := Tryz.zeroValue3
 t4 := Tryz.underlying4
 a4 := Tryz.isAgg4
 z4 := Tryz.sizeOf4
 v4 := Tryz.zeroValue4
 t22 := Tryz.underlying29
 a22 := Tryz.isAgg29
 z22 := Tryz.sizeOf29
 v22 := Tryz.zeroValue29
 i3 := by kernel_rfl }
open Go.RowKit Go.Lib Go.Sort in
theorem Tryz.slices_Compact_int (blk off cap : Nat) (zs : List Int) (w : World) (hH : Holds (Value.int .i64) w blk off zs.toArray) (hsz : zs.length ≤ 9223372036854775807) (hcap : zs.length ≤ cap) :
  Calls Tryz.prog 163 #[.slice (some ⟨blk, off, none⟩) zs.length cap] w fun e w' => e = .returned (.slice (some ⟨blk, off, none⟩) (Lib.compact zs).length cap) ∧ ∃ q, w' = putRow (Value.int .i64) (Sort.ahead w q) blk off (Lib.compact zs ++ List.replicate (zs.length - (Lib.compact zs).length) 0).toArray := Any.slices_Compact_int Tryz.laysNm220 blk off cap zs w hH hsz hcap
end Go.Proofs
namespace Go.Proofs.YtehbcbedipkifaaGreatDoor
open Go.Aw
set_option linter.unusedVariables false
set_option linter.unusedSimpArgs false
structure station_pump where
 Station : Station
 deriving DecidableEq
def station_pump.row (x : station_pump) : List T := [.v (.string x.Station.Name), .v (.int .i64 x.Station.Node), .v (.int .i64 x.Station.Head), .v (.int .i64 x.Station.Fall), .v (.int .i64 x.Station.Suction)]
structure Pressures where
 Known : List Bool
 Nodes : List Bounds
 Segments : List (List Level)
 deriving DecidableEq
def Pressures.row (x : Pressures) : List T := [.list 1 (x.Known.map rB), .list 2 (x.Nodes.map Bounds.row), .list 1 (x.Segments.map (rL 3 Level.row))]
structure steady_line where
 n_ : Network
 batches : List Batch
 products : List Product
 fills : List (List Piece)
 p : Plan
 x : Pressures
 deriving DecidableEq
def steady_line.row (x : steady_line) : List T := [.list 1 (x.n_.Nodes.map rS), .list 7 (x.n_.Segments.map Segment.row), .list 3 (x.n_.Ports.map Port.row), .list 5 (x.n_.Stations.map Station.row), .v (.int .i64 x.n_.Vapour), .v (.int .i64 x.n_.Settle), .list 4 (x.batches.map Batch.row), .list 5 (x.products.map Product.row), .list 1 (x.fills.map (rL 2 Piece.row)), .list 1 (x.p.Rates.map rI), .list 1 (x.p.Ports.map rI), .list 1 (x.p.Pumps.map rB), .list 1 (x.x.Known.map rB), .list 2 (x.x.Nodes.map Bounds.row), .list 1 (x.x.Segments.map (rL 3 Level.row))]
def steady_line.rowU (x : steady_line) (v0 v1 v2 : Value) : List T := [.list 1 (x.n_.Nodes.map rS), .list 7 (x.n_.Segments.map Segment.row), .list 3 (x.n_.Ports.map Port.row), .list 5 (x.n_.Stations.map Station.row), .v (.int .i64 x.n_.Vapour), .v (.int .i64 x.n_.Settle), .list 4 (x.batches.map Batch.row), .list 5 (x.products.map Product.row), .list 1 (x.fills.map (rL 2 Piece.row)), .list 1 (x.p.Rates.map rI), .list 1 (x.p.Ports.map rI), .list 1 (x.p.Pumps.map rB), .v (v0), .v (v1), .v (v2)]
structure Fault where
 Kind : Int
 Index : Int
 At : Int
 deriving DecidableEq
def Fault.row (x : Fault) : List T := [.v (.int .i64 x.Kind), .v (.int .i64 x.Index), .v (.int .i64 x.At)]
def L.zyyp (n_0 : Network) (p_1 : Plan) : Option ((List Int) × Int) := (L.zmqu n_0 p_1).bind fun r4 => if (r4 != 0) = true then some ([], r4) else (L.zsgw n_0 p_1).bind fun r7 => some (r7, 0)
def L.zvuy.J1 (j24 : Unit) : Option Int := some (-1)
def L.zvuy.B2 (g1 : (List Piece) → Option Bool) (k26 : Nat) (x29 : List Piece) (st38 : Unit) : Option (Unit ⊕ (Int)) := (g1 x29).bind fun r53 => if r53 = true then some ((.inr ((k26 : Int)))) else some (.inl ())
def L.zvuy (s_0 : List (List Piece)) (g1 : (List Piece) → Option Bool) : Option Int := (forL (L.zvuy.B2 g1) 0 s_0 ()).bind fun o45 => Sum.elim (fun st38 => L.zvuy.J1 ()) (fun d58 => some d58) o45
def L.zbxi (s_0 : List (List Piece)) (g1 : (List Piece) → Option Bool) : Option Bool := (L.zvuy s_0 g1).bind fun r1 => some (decide (r1 ≥ 0))
def L.zfxs (f_0 : List Piece) : Option Bool := (L.zqwg f_0).bind fun r1 => some (!r1)
def L.zspo.J2 (j39 : Unit) : Option Int := some 0
def L.zspo.B3 (n_0 : Network) (k41 : Nat) (x44 : List Piece) (st55 : Unit) : Option (Unit ⊕ (Int)) := (L.zryf x44).bind fun r72 => (ix n_0.Segments (k41 : Int)).bind fun p74 => if (r72 != p74.2.Capacity) = true then some ((.inr (14))) else some (.inl ())
def L.zspo.J1 (n_0 : Network) (fills_1 : List (List Piece)) (j11 : Bool) : Option Int := if j11 = true then some 9 else (forL (L.zspo.B3 n_0) 0 fills_1 ()).bind fun o64 => Sum.elim (fun st55 => L.zspo.J2 ()) (fun d79 => some d79) o64
def L.zspo (n_0 : Network) (fills_1 : List (List Piece)) : Option Int := (L.zfta n_0).bind fun r4 => if (r4 != 0) = true then some r4 else if ((fills_1.length : Int) != (n_0.Segments.length : Int)) = true then L.zspo.J1 n_0 fills_1 true else (L.zbxi fills_1 (fun x => L.zfxs x)).bind fun r81 => L.zspo.J1 n_0 fills_1 r81
def L.zack (n_0 : Int) (most_1 : Int) : Bool := (decide (n_0 ≥ 0) && decide (n_0 ≤ most_1))
def L.zsmw.J1 (j10 : Bool) : Option Bool := some j10
def L.zsmw (s_0 : Station) : Option Bool := (L.zcvq s_0.Name).bind fun r11 => if r11 = true then if (L.zack s_0.Node 23) = true then if (L.zack s_0.Head 100000000) = true then if (L.zack s_0.Fall 100000) = true then L.zsmw.J1 (L.zack s_0.Suction 100000000) else L.zsmw.J1 false else L.zsmw.J1 false else L.zsmw.J1 false else L.zsmw.J1 false
def L.zlvv (p_0 : station_pump) (rate_1 : Int) : Option Int := (L.zwdf (wr ((wr (p_0.Station.Fall * rate_1)) * rate_1)) 1000).bind fun r3 => some (max 0 (wr (p_0.Station.Head - r3)))
def L.zdzr (s_0 : Station) (rate_1 : Int) : Option (Int × Int) := (L.zsmw s_0).bind fun r4 => if (!r4) = true then some (0, 9) else if (decide (rate_1 < 0) || decide (rate_1 > 32000)) = true then some (0, 1) else (L.zlvv (⟨s_0⟩ : station_pump) rate_1).bind fun r11 => some (r11, 0)
def L.zzlp (s_0 : Station) (b_1 : Bounds) (rate_2 : Int) : Option (Bounds × Int) := (L.zdzr s_0 rate_2).bind fun r6 => if (r6.2 != 0) = true then some ((⟨0, 0⟩ : Bounds), r6.2) else if (decide (b_1.Low > b_1.High) || (decide (b_1.Low < (-1125899906842624)) || decide (b_1.High > 1125899906842624))) = true then some ((⟨0, 0⟩ : Bounds), 1) else some ((⟨wr (b_1.Low + r6.1), wr (b_1.High + r6.1)⟩ : Bounds), 0)
def L.zokq.J1 (j6 : Bool) : Option Bool := some j6
def L.zokq (batch_0 : Int) (batches_1 : List Batch) (products_2 : List Product) : Option Bool := if decide (batch_0 < (batches_1.length : Int)) = true then (ix batches_1 batch_0).bind fun p8 => if decide (p8.2.Product ≥ 0) = true then L.zokq.J1 (decide (p8.2.Product < (products_2.length : Int))) else L.zokq.J1 false else L.zokq.J1 false
def L.zkto.J1 (l_0 : steady_line) (node_1 : Int) (j11 : Int × Int) : Option steady_line := (ix l_0.x.Known node_1).bind fun p12 => (ix l_0.x.Nodes node_1).bind fun p14 => some (⟨l_0.n_, l_0.batches, l_0.products, l_0.fills, l_0.p, (⟨(l_0.x.Known.set p12.1 true), (l_0.x.Nodes.set p14.1 (⟨j11.1, j11.2⟩ : Bounds)), l_0.x.Segments⟩ : Pressures)⟩ : steady_line)
def L.zkto (l_0 : steady_line) (node_1 : Int) (b_2 : Bounds) : Option steady_line := (ix l_0.x.Known node_1).bind fun p19 => if p19.2 = true then (ix l_0.x.Nodes node_1).bind fun p23 => L.zkto.J1 l_0 node_1 ((min p23.2.Low b_2.Low), (min p23.2.High b_2.High)) else L.zkto.J1 l_0 node_1 (b_2.Low, b_2.High)
def L.zcba.J1 (l_0 : steady_line) (j44 : Int) : Option (Int × steady_line) := some (j44, l_0)
def L.zcba.J3 (j98 : Int) : Option Int := some j98
def L.zcba.B2 (l_0 : steady_line) (node_1 : Int) (k46 : Nat) (x49 : Segment) (st73 : Int) : Option Int := (ix l_0.p.Rates (k46 : Int)).bind fun p102 => if (((L.ztzg x49 p102.2).1) == node_1) = true then L.zcba.J3 (wr (st73 + (max p102.2 (wr (0 - p102.2))))) else L.zcba.J3 st73
def L.zcba (l_0 : steady_line) (node_1 : Int) : Option (Int × steady_line) := (forS (L.zcba.B2 l_0 node_1) 0 l_0.n_.Segments 0).bind fun st73 => L.zcba.J1 l_0 st73
def L.zrmk.J1 (l_0 : steady_line) (p4 : Nat × Bounds) (j49 : Unit) : Option (Bounds × Int × steady_line) := some (p4.2, 0, l_0)
def L.zrmk.J3 (l_0 : steady_line) (node_1 : Int) (p4 : Nat × Bounds) (x54 : Station) (j102 : Bool) : Option (Unit ⊕ ((Bounds × Int × steady_line))) := if j102 = true then (L.zcba l_0 node_1).bind fun r104 => (L.zzlp x54 p4.2 r104.1).bind fun r109 => some ((.inr ((r109.1, r109.2, r104.2)))) else some (.inl ())
def L.zrmk.B2 (l_0 : steady_line) (node_1 : Int) (p4 : Nat × Bounds) (k51 : Nat) (x54 : Station) (st73 : Unit) : Option (Unit ⊕ ((Bounds × Int × steady_line))) := if (x54.Node == node_1) = true then (ix l_0.p.Pumps (k51 : Int)).bind fun p112 => L.zrmk.J3 l_0 node_1 p4 x54 p112.2 else L.zrmk.J3 l_0 node_1 p4 x54 false
def L.zrmk (l_0 : steady_line) (node_1 : Int) : Option (Bounds × Int × steady_line) := (ix l_0.x.Nodes node_1).bind fun p4 => (forL (L.zrmk.B2 l_0 node_1 p4) 0 l_0.n_.Stations ()).bind fun o90 => Sum.elim (fun st73 => L.zrmk.J1 l_0 p4 ()) (fun d116 => some d116) o90
def L.zqta.J2 (j227 : steady_line) : Option (Int × steady_line) := some (0, j227)
def L.zqta.J4 (j407 : steady_line) : Option (steady_line ⊕ ((Int × steady_line))) := some (.inl j407)
def L.zqta.J5 (k232 : Nat) (x235 : Segment) (st322 : steady_line) (p414 : Nat × Int) (r425 : (List Level) × Int) (j437 : Int × Int × Int) : Option (steady_line ⊕ ((Int × steady_line))) := (ix st322.x.Segments (k232 : Int)).bind fun p438 => (L.zkto (⟨st322.n_, st322.batches, st322.products, st322.fills, st322.p, (⟨st322.x.Known, st322.x.Nodes, (st322.x.Segments.set p438.1 r425.1)⟩ : Pressures)⟩ : steady_line) ((L.ztzg x235 p414.2).2) (⟨j437.2.1, j437.2.2⟩ : Bounds)).bind fun r440 => L.zqta.J4 r440
def L.zqta.B3 (node_1 : Int) (r82 : Bounds × Int × steady_line) (k232 : Nat) (x235 : Segment) (st322 : steady_line) : Option (steady_line ⊕ ((Int × steady_line))) := (ix st322.p.Rates (k232 : Int)).bind fun p414 => if ((p414.2 == 0) || (((L.ztzg x235 p414.2).1) != node_1)) = true then L.zqta.J4 st322 else (ix st322.fills (k232 : Int)).bind fun p423 => (L.zuct x235 p423.2 st322.batches st322.products p414.2 r82.1).bind fun r425 => if (r425.2 != 0) = true then some ((.inr ((r425.2, st322)))) else (ix r425.1 0).bind fun p431 => if decide (p414.2 > 0) = true then (ix r425.1 (wr ((r425.1.length : Int) - 1))).bind fun p446 => L.zqta.J5 k232 x235 st322 p414 r425 (p446.2.At, p446.2.Bounds.Low, p446.2.Bounds.High) else L.zqta.J5 k232 x235 st322 p414 r425 (p431.2.At, p431.2.Bounds.Low, p431.2.Bounds.High)
def L.zqta.J1 (node_1 : Int) (j73 : steady_line) : Option (Int × steady_line) := (ix j73.x.Known node_1).bind fun p78 => if (!p78.2) = true then some (0, j73) else (L.zrmk j73 node_1).bind fun r82 => if (r82.2.1 != 0) = true then some (r82.2.1, r82.2.2) else (forL (L.zqta.B3 node_1 r82) 0 r82.2.2.n_.Segments r82.2.2).bind fun o366 => Sum.elim (fun st322 => L.zqta.J2 st322) (fun d450 => some d450) o366
def L.zqta.J7 (j539 : steady_line) : Option steady_line := some j539
def L.zqta.J8 (node_1 : Int) (x455 : Port) (st498 : steady_line) (j548 : Bool) : Option steady_line := if j548 = true then (L.zkto st498 node_1 (⟨x455.Pressure, x455.Pressure⟩ : Bounds)).bind fun r550 => L.zqta.J7 r550 else L.zqta.J7 st498
def L.zqta.B6 (node_1 : Int) (k452 : Nat) (x455 : Port) (st498 : steady_line) : Option steady_line := if (x455.Node == node_1) = true then (ix st498.p.Ports (k452 : Int)).bind fun p556 => L.zqta.J8 node_1 x455 st498 (decide (p556.2 > 0)) else L.zqta.J8 node_1 x455 st498 false
def L.zqta (l_0 : steady_line) (node_1 : Int) : Option (Int × steady_line) := (forS (L.zqta.B6 node_1) 0 l_0.n_.Ports l_0).bind fun st498 => L.zqta.J1 node_1 st498
def L.zkmq.J1 (j24 : Unit) : Option Int := some (-1)
def L.zkmq.B2 (g1 : Piece → Option Bool) (k26 : Nat) (x29 : Piece) (st38 : Unit) : Option (Unit ⊕ (Int)) := (g1 x29).bind fun r53 => if r53 = true then some ((.inr ((k26 : Int)))) else some (.inl ())
def L.zkmq (s_0 : List Piece) (g1 : Piece → Option Bool) : Option Int := (forL (L.zkmq.B2 g1) 0 s_0 ()).bind fun o45 => Sum.elim (fun st38 => L.zkmq.J1 ()) (fun d58 => some d58) o45
def L.zytx (s_0 : List Piece) (g1 : Piece → Option Bool) : Option Bool := (L.zkmq s_0 g1).bind fun r1 => some (decide (r1 ≥ 0))
def L.zsma (x_0 : Piece) (a_1 : List Batch) (a_2 : List Product) : Option Bool := (L.zokq x_0.Batch a_1 a_2).bind fun r2 => some (!r2)
def L.zonc.J3 (j109 : steady_line) : Option (Pressures × Int) := some (j109.x, 0)
def L.zonc.B4 (r8 : (List Int) × Int) (k114 : Nat) (st145 : steady_line) : Option (steady_line ⊕ ((Pressures × Int))) := (ix r8.1 (k114 : Int)).bind fun p168 => (L.zqta st145 p168.2).bind fun r170 => if (r170.1 != 0) = true then some ((.inr (((⟨[], [], []⟩ : Pressures), r170.1)))) else some (.inl r170.2)
def L.zonc.J2 (r8 : (List Int) × Int) (j56 : steady_line) : Option (Pressures × Int) := (forI (L.zonc.B4 r8) 0 r8.1.length j56).bind fun o160 => Sum.elim (fun st145 => L.zonc.J3 st145) (fun d178 => some d178) o160
def L.zonc.J1 (n_0 : Network) (batches_1 : List Batch) (products_2 : List Product) (fills_3 : List (List Piece)) (p_4 : Plan) (r8 : (List Int) × Int) (j41 : Unit) : Option (Pressures × Int) := (mk? (n_0.Nodes.length : Int) false).bind fun l179 => (mk? (n_0.Nodes.length : Int) (⟨(0 : Int), (0 : Int)⟩ : Bounds)).bind fun l183 => (mk? (n_0.Segments.length : Int) ([] : List Level)).bind fun l187 => L.zonc.J2 r8 (⟨n_0, batches_1, products_2, fills_3, p_4, (⟨l179, l183, l187⟩ : Pressures)⟩ : steady_line)
def L.zonc.B5 (batches_1 : List Batch) (products_2 : List Product) (k192 : Nat) (x195 : List Piece) (st203 : Unit) : Option (Unit ⊕ ((Pressures × Int))) := (L.zytx x195 (fun x => L.zsma x batches_1 products_2)).bind fun r216 => if r216 = true then some ((.inr (((⟨[], [], []⟩ : Pressures), 8)))) else some (.inl ())
def L.zonc (n_0 : Network) (batches_1 : List Batch) (products_2 : List Product) (fills_3 : List (List Piece)) (p_4 : Plan) : Option (Pressures × Int) := (L.zyyp n_0 p_4).bind fun r8 => if (r8.2 != 0) = true then some ((⟨[], [], []⟩ : Pressures), r8.2) else (L.zspo n_0 fills_3).bind fun r14 => if (r14 != 0) = true then some ((⟨[], [], []⟩ : Pressures), r14) else (L.zwas products_2).bind fun r18 => if (r18 != 0) = true then some ((⟨[], [], []⟩ : Pressures), r18) else (forL (L.zonc.B5 batches_1 products_2) 0 fills_3 ()).bind fun o209 => Sum.elim (fun st203 => L.zonc.J1 n_0 batches_1 products_2 fills_3 p_4 r8 ()) (fun d221 => some d221) o209
def L.znai (k_0 : Int) : Bool := (decide (k_0 < 0) || decide (k_0 > 1125899906842624))
def L.zyow.J1 (j24 : Unit) : Option Int := some (-1)
def L.zyow.B2 (g1 : Bounds → Option Bool) (k26 : Nat) (x29 : Bounds) (st38 : Unit) : Option (Unit ⊕ (Int)) := (g1 x29).bind fun r53 => if r53 = true then some ((.inr ((k26 : Int)))) else some (.inl ())
def L.zyow (s_0 : List Bounds) (g1 : Bounds → Option Bool) : Option Int := (forL (L.zyow.B2 g1) 0 s_0 ()).bind fun o45 => Sum.elim (fun st38 => L.zyow.J1 ()) (fun d58 => some d58) o45
def L.ztko (s_0 : List Bounds) (g1 : Bounds → Option Bool) : Option Bool := (L.zyow s_0 g1).bind fun r1 => some (decide (r1 ≥ 0))
def L.zvdi (b_0 : Bounds) : Bool := (decide ((min b_0.Low b_0.High) ≥ (-1152921504606846976)) && decide ((max b_0.Low b_0.High) ≤ 1152921504606846976))
def L.zxfm (b_0 : Bounds) : Bool := (!(L.zvdi b_0))
def L.zdjd.J1 (j24 : Unit) : Option Int := some (-1)
def L.zdjd.B2 (g1 : Level → Option Bool) (k26 : Nat) (x29 : Level) (st38 : Unit) : Option (Unit ⊕ (Int)) := (g1 x29).bind fun r53 => if r53 = true then some ((.inr ((k26 : Int)))) else some (.inl ())
def L.zdjd (s_0 : List Level) (g1 : Level → Option Bool) : Option Int := (forL (L.zdjd.B2 g1) 0 s_0 ()).bind fun o45 => Sum.elim (fun st38 => L.zdjd.J1 ()) (fun d58 => some d58) o45
def L.zijd (s_0 : List Level) (g1 : Level → Option Bool) : Option Bool := (L.zdjd s_0 g1).bind fun r1 => some (decide (r1 ≥ 0))
def L.zwej.J1 (j7 : Bool) : Option Bool := some j7
def L.zwej (l_0 : Level) (a_1 : Network) (a_2 : Int) : Option Bool := if (!(L.zvdi l_0.Bounds)) = true then L.zwej.J1 true else if decide (l_0.At < 0) = true then L.zwej.J1 true else (ix a_1.Segments a_2).bind fun p10 => L.zwej.J1 (decide (l_0.At > p10.2.Capacity))
def L.zlzo.J3 (j45 : Unit) : Option Bool := some true
def L.zlzo.B4 (n_0 : Network) (k47 : Nat) (x50 : List Level) (st59 : Unit) : Option (Unit ⊕ (Bool)) := (L.zijd x50 (fun x => L.zwej x n_0 (k47 : Int))).bind fun r74 => if r74 = true then some ((.inr (false))) else some (.inl ())
def L.zlzo.J2 (n_0 : Network) (x_1 : Pressures) (j21 : Bool) : Option Bool := if j21 = true then some false else (forL (L.zlzo.B4 n_0) 0 x_1.Segments ()).bind fun o66 => Sum.elim (fun st59 => L.zlzo.J3 ()) (fun d79 => some d79) o66
def L.zlzo.J1 (n_0 : Network) (x_1 : Pressures) (extra_3 : List Int) (j13 : Bool) : Option Bool := if j13 = true then some false else (L.zvoj extra_3 (fun x => some (L.znai x))).bind fun r80 => if r80 = true then L.zlzo.J2 n_0 x_1 true else (L.ztko x_1.Nodes (fun x => some (L.zxfm x))).bind fun r83 => L.zlzo.J2 n_0 x_1 r83
def L.zlzo (n_0 : Network) (x_1 : Pressures) (p_2 : Plan) (extra_3 : List Int) : Option Bool := (L.zfta n_0).bind fun r85 => if (r85 != 0) = true then L.zlzo.J1 n_0 x_1 extra_3 true else if ((p_2.Pumps.length : Int) != (n_0.Stations.length : Int)) = true then L.zlzo.J1 n_0 x_1 extra_3 true else if ((x_1.Known.length : Int) != (n_0.Nodes.length : Int)) = true then L.zlzo.J1 n_0 x_1 extra_3 true else if ((x_1.Nodes.length : Int) != (n_0.Nodes.length : Int)) = true then L.zlzo.J1 n_0 x_1 extra_3 true else if ((x_1.Segments.length : Int) != (n_0.Segments.length : Int)) = true then L.zlzo.J1 n_0 x_1 extra_3 true else L.zlzo.J1 n_0 x_1 extra_3 ((extra_3.length : Int) != (n_0.Segments.length : Int))
def L.zlly.J1 (j57 : Int) : Option Int := some j57
def L.zlly.J3 (st94 : Int × Int) (j131 : Int) : Option ((Int × Int) ⊕ (Int)) := some (.inl (j131, wr (st94.2 + 1)))
def L.zlly.J4 (place_1 : Int) (st94 : Int × Int) (j138 : Int × Int × Int × Int × Int × Int) : Option ((Int × Int) ⊕ (Int)) := if (decide (j138.1 ≤ place_1) && decide (place_1 ≤ j138.2.2.2.1)) = true then L.zlly.J3 st94 (min (min st94.1 j138.2.2.1) j138.2.2.2.2.2) else L.zlly.J3 st94 st94.1
def L.zlly.B2 (s_0 : Segment) (place_1 : Int) (st94 : Int × Int) : Option ((Int × Int) ⊕ (Int)) := if decide (st94.2 < (s_0.Points.length : Int)) = true then (ix s_0.Points (wr (st94.2 - 1))).bind fun p145 => (ix s_0.Points st94.2).bind fun p147 => L.zlly.J4 place_1 st94 (p145.2.At, p145.2.Height, p145.2.Limit, p147.2.At, p147.2.Height, p147.2.Limit) else some ((.inr (st94.1)))
def L.zlly (s_0 : Segment) (place_1 : Int) : Option Int := (loopN (L.zlly.B2 s_0 place_1) lots (100000000, 1)).bind fun d151 => L.zlly.J1 d151
def L.zflm.J1 (j93 : Unit) : Option (Fault × Bool) := some ((⟨0, 0, 0⟩ : Fault), false)
def L.zflm.J3 (j226 : Unit) : Option (Unit ⊕ ((Fault × Bool))) := some (.inl ())
def L.zflm.B4 (a_1 : List Int) (a_2 : Network) (k95 : Nat) (k229 : Nat) (x232 : Level) (st248 : Unit) : Option (Unit ⊕ ((Fault × Bool))) := (ix a_1 (k95 : Int)).bind fun p272 => (ix a_2.Segments (k95 : Int)).bind fun p274 => (L.zlly p274.2 x232.At).bind fun r276 => if decide ((wr (x232.Bounds.High + p272.2)) > r276) = true then some ((.inr (((⟨1, (k95 : Int), x232.At⟩ : Fault), true)))) else if decide ((wr (x232.Bounds.Low - p272.2)) < a_2.Vapour) = true then some ((.inr (((⟨2, (k95 : Int), x232.At⟩ : Fault), true)))) else some (.inl ())
def L.zflm.B2 (a_1 : List Int) (a_2 : Network) (k95 : Nat) (x98 : List Level) (st141 : Unit) : Option (Unit ⊕ ((Fault × Bool))) := (forL (L.zflm.B4 a_1 a_2 k95) 0 x98 ()).bind fun o262 => Sum.elim (fun st248 => L.zflm.J3 ()) (fun d282 => some ((.inr (d282)))) o262
def L.zflm (a_0 : Pressures) (a_1 : List Int) (a_2 : Network) : Option (Fault × Bool) := (forL (L.zflm.B2 a_1 a_2) 0 a_0.Segments ()).bind fun o182 => Sum.elim (fun st141 => L.zflm.J1 ()) (fun d285 => some d285) o182
def L.zjxt.J1 (j41 : Unit) : Option (Fault × Bool) := some ((⟨0, 0, 0⟩ : Fault), false)
def L.zjxt.J3 (k43 : Nat) (j95 : Bool) : Option (Unit ⊕ ((Fault × Bool))) := if j95 = true then some ((.inr (((⟨3, (k43 : Int), 0⟩ : Fault), true)))) else some (.inl ())
def L.zjxt.B2 (a_1 : Plan) (a_2 : Pressures) (k43 : Nat) (x46 : Station) (st63 : Unit) : Option (Unit ⊕ ((Fault × Bool))) := (ix a_1.Pumps (k43 : Int)).bind fun p97 => if p97.2 = true then (ix a_2.Known x46.Node).bind fun p100 => if p100.2 = true then (ix a_2.Nodes x46.Node).bind fun p103 => L.zjxt.J3 k43 (decide (p103.2.Low < x46.Suction)) else L.zjxt.J3 k43 false else L.zjxt.J3 k43 false
def L.zjxt (a_0 : Network) (a_1 : Plan) (a_2 : Pressures) : Option (Fault × Bool) := (forL (L.zjxt.B2 a_1 a_2) 0 a_0.Stations ()).bind fun o78 => Sum.elim (fun st63 => L.zjxt.J1 ()) (fun d107 => some d107) o78
def L.zqej.K (r1 : Fault × Bool) (n : Network) (p : Plan) (x : Pressures) : Option (Fault × Bool) := if r1.2 = true then some r1 else L.zjxt n p x
def L.zqej (n_0 : Network) (x_1 : Pressures) (p_2 : Plan) (extra_3 : List Int) : Option (Fault × Bool) := (L.zlzo n_0 x_1 p_2 extra_3).bind fun r8 => if (!r8) = true then some ((⟨0, 0, 0⟩ : Fault), false) else (L.zflm x_1 extra_3 n_0).bind fun r1 => L.zqej.K r1 n_0 p_2 x_1
def L.zdbv.J1 (j18 : Int × Int × Int × Bool) : Option (Fault × Int) := if j18.2.2.2 = true then some ((⟨j18.1, j18.2.1, j18.2.2.1⟩ : Fault), 15) else some ((⟨0, 0, 0⟩ : Fault), 0)
def L.zdbv (n_0 : Network) (batches_1 : List Batch) (products_2 : List Product) (fills_3 : List (List Piece)) (p_4 : Plan) : Option (Fault × Int) := (L.zonc n_0 batches_1 products_2 fills_3 p_4).bind fun r6 => if (r6.2 != 0) = true then some ((⟨0, 0, 0⟩ : Fault), r6.2) else (mk? (n_0.Segments.length : Int) (0 : Int)).bind fun l21 => (L.zqej n_0 r6.1 p_4 l21).bind fun r25 => L.zdbv.J1 (r25.1.Kind, r25.1.Index, r25.1.At, r25.2)
def L.zmae (n_0 : Int) (low_1 : Int) (high_2 : Int) : Bool := (decide (n_0 ≥ low_1) && decide (n_0 ≤ high_2))
def L.zghg.J3 (n_0 : Network) (j41 : List ByteArray) (j77 : List ByteArray) (j113 : List ByteArray) : Option (Arr (List ByteArray) 4) := some (⟨[n_0.Nodes, j41, j77, j113], rfl⟩ : Arr (List ByteArray) 4)
def L.zghg.B4 (k116 : Nat) (x119 : Station) (st138 : List ByteArray) : Option (List ByteArray) := (app? st138 ([x119.Name] : List ByteArray)).bind fun l156 => some l156
def L.zghg.J2 (n_0 : Network) (j41 : List ByteArray) (j77 : List ByteArray) : Option (Arr (List ByteArray) 4) := (forS L.zghg.B4 0 n_0.Stations []).bind fun st138 => L.zghg.J3 n_0 j41 j77 st138
def L.zghg.B5 (k162 : Nat) (x165 : Port) (st184 : List ByteArray) : Option (List ByteArray) := (app? st184 ([x165.Name] : List ByteArray)).bind fun l202 => some l202
def L.zghg.J1 (n_0 : Network) (j41 : List ByteArray) : Option (Arr (List ByteArray) 4) := (forS L.zghg.B5 0 n_0.Ports []).bind fun st184 => L.zghg.J2 n_0 j41 st184
def L.zghg.B6 (k208 : Nat) (x211 : Segment) (st230 : List ByteArray) : Option (List ByteArray) := (app? st230 ([x211.Name] : List ByteArray)).bind fun l248 => some l248
def L.zghg (n_0 : Network) : Option (Arr (List ByteArray) 4) := (forS L.zghg.B6 0 n_0.Segments []).bind fun st230 => L.zghg.J1 n_0 st230
def L.zgmr.J2 (j107 : Unit) : Option Bool := some true
def L.zgmr.J4 (st172 : Int) (j236 : Bool) : Option (Int ⊕ (Bool ⊕ Unit)) := if j236 = true then some ((.inr (.inl (false)))) else some (.inl (wr (st172 + 1)))
def L.zgmr.B3 (s_0 : ByteArray) (st172 : Int) : Option (Int ⊕ (Bool ⊕ Unit)) := if decide (st172 < (s_0.size : Int)) = true then (ixs s_0 st172).bind fun p238 => if decide (p238.2 < 97) = true then if decide (p238.2 < 48) = true then L.zgmr.J4 st172 (p238.2 != 45) else if decide (p238.2 > 57) = true then L.zgmr.J4 st172 (p238.2 != 45) else L.zgmr.J4 st172 false else if decide (p238.2 > 122) = true then if decide (p238.2 < 48) = true then L.zgmr.J4 st172 (p238.2 != 45) else if decide (p238.2 > 57) = true then L.zgmr.J4 st172 (p238.2 != 45) else L.zgmr.J4 st172 false else L.zgmr.J4 st172 false else some ((.inr (.inr (()))))
def L.zgmr.J1 (s_0 : ByteArray) (j10 : Bool) : Option Bool := if j10 = true then some false else (loopN (L.zgmr.B3 s_0) lots 0).bind fun o203 => Sum.elim (fun d264 => some d264) (fun d265 => L.zgmr.J2 d265) o203
def L.zgmr (s_0 : ByteArray) : Option Bool := if decide ((s_0.size : Int) < 1) = true then L.zgmr.J1 s_0 true else if decide ((s_0.size : Int) > 12) = true then L.zgmr.J1 s_0 true else (ixs s_0 0).bind fun p268 => if decide (p268.2 < 97) = true then L.zgmr.J1 s_0 true else L.zgmr.J1 s_0 (decide (p268.2 > 122))
def L.zaag.J1 (j60 : Unit) : Option Bool := some false
def L.zaag.J3 (j145 : Unit) : Option (Unit ⊕ (Bool)) := some (.inl ())
def L.zaag.B4 (l_0 : List ByteArray) (k62 : Nat) (x65 : ByteArray) (st161 : Int) : Option (Int ⊕ (Bool ⊕ Unit)) := if decide (st161 < (k62 : Int)) = true then (ix l_0 st161).bind fun p174 => if sEq x65 p174.2 = true then some ((.inr (.inl (true)))) else some (.inl (wr (st161 + 1))) else some ((.inr (.inr (()))))
def L.zaag.B2 (l_0 : List ByteArray) (k62 : Nat) (x65 : ByteArray) (st92 : Unit) : Option (Unit ⊕ (Bool)) := (loopN (L.zaag.B4 l_0 k62 x65) lots 0).bind fun o167 => Sum.elim (fun d177 => some ((.inr (d177)))) (fun d178 => L.zaag.J3 d178) o167
def L.zaag (l_0 : List ByteArray) : Option Bool := (forL (L.zaag.B2 l_0) 0 l_0 ()).bind fun o117 => Sum.elim (fun st92 => L.zaag.J1 ()) (fun d181 => some d181) o117
def L.zimi.J2 (j49 : Unit) : Option Bool := some true
def L.zimi.J4 (j97 : Bool) : Option (Unit ⊕ (Bool)) := if j97 = true then some ((.inr (false))) else some (.inl ())
def L.zimi.B3 (s_0 : Segment) (k51 : Nat) (x54 : Point) (st69 : Unit) : Option (Unit ⊕ (Bool)) := if decide ((k51 : Int) > 0) = true then (ix s_0.Points (wr ((k51 : Int) - 1))).bind fun p100 => if decide (x54.At ≤ p100.2.At) = true then L.zimi.J4 true else if (!(L.zmae x54.Height (-500) 5000)) = true then L.zimi.J4 true else L.zimi.J4 (!(L.zmae x54.Limit 0 100000000)) else if (!(L.zmae x54.Height (-500) 5000)) = true then L.zimi.J4 true else L.zimi.J4 (!(L.zmae x54.Limit 0 100000000))
def L.zimi.J1 (s_0 : Segment) (j13 : Bool) : Option Bool := if j13 = true then some false else (forL (L.zimi.B3 s_0) 0 s_0.Points ()).bind fun o82 => Sum.elim (fun st69 => L.zimi.J2 ()) (fun d107 => some d107) o82
def L.zimi (s_0 : Segment) : Option Bool := if (s_0.From == s_0.To) = true then L.zimi.J1 s_0 true else if (!(L.zmae s_0.Capacity 1 1000000)) = true then L.zimi.J1 s_0 true else if (!(L.zmae s_0.Resist 0 1000)) = true then L.zimi.J1 s_0 true else if (!(L.zmae s_0.Wave 0 100000)) = true then L.zimi.J1 s_0 true else (ix s_0.Points 0).bind fun p112 => if (p112.2.At != 0) = true then L.zimi.J1 s_0 true else (ix s_0.Points (wr ((s_0.Points.length : Int) - 1))).bind fun p115 => L.zimi.J1 s_0 (p115.2.At != s_0.Capacity)
def L.zgcl.J10 (n_0 : Network) (j318 : Unit) : Option Int := if ((!(L.zmae n_0.Vapour (-100000) 100000000)) || (!(L.zmae n_0.Settle 0 100))) = true then some 9 else some 0
def L.zgcl.B11 (k324 : Nat) (x327 : Station) (st340 : Unit) : Option (Unit ⊕ (Int)) := if ((!(L.zmae x327.Head 0 100000000)) || ((!(L.zmae x327.Fall 0 100000)) || (!(L.zmae x327.Suction 0 100000000)))) = true then some ((.inr (9))) else some (.inl ())
def L.zgcl.J9 (n_0 : Network) (j287 : Unit) : Option Int := (forL L.zgcl.B11 0 n_0.Stations ()).bind fun o351 => Sum.elim (fun st340 => L.zgcl.J10 n_0 ()) (fun d368 => some d368) o351
def L.zgcl.B12 (k370 : Nat) (x373 : Port) (st380 : Unit) : Option (Unit ⊕ (Int)) := if (!(L.zmae x373.Pressure 0 100000000)) = true then some ((.inr (9))) else some (.inl ())
def L.zgcl.J8 (n_0 : Network) (j268 : Unit) : Option Int := (forL L.zgcl.B12 0 n_0.Ports ()).bind fun o385 => Sum.elim (fun st380 => L.zgcl.J9 n_0 ()) (fun d396 => some d396) o385
def L.zgcl.B13 (k398 : Nat) (x401 : Segment) (st410 : Unit) : Option (Unit ⊕ (Int)) := (L.zimi x401).bind fun r425 => if (!r425) = true then some ((.inr (9))) else some (.inl ())
def L.zgcl.J7 (n_0 : Network) (j245 : Unit) : Option Int := (forL L.zgcl.B13 0 n_0.Segments ()).bind fun o417 => Sum.elim (fun st410 => L.zgcl.J8 n_0 ()) (fun d430 => some d430) o417
def L.zgcl.B14 (n_0 : Network) (k432 : Nat) (x435 : Station) (st442 : Unit) : Option (Unit ⊕ (Int)) := if (!(L.zmae x435.Node 0 (wr ((n_0.Nodes.length : Int) - 1)))) = true then some ((.inr (8))) else some (.inl ())
def L.zgcl.J6 (n_0 : Network) (j226 : Unit) : Option Int := (forL (L.zgcl.B14 n_0) 0 n_0.Stations ()).bind fun o447 => Sum.elim (fun st442 => L.zgcl.J7 n_0 ()) (fun d458 => some d458) o447
def L.zgcl.B15 (n_0 : Network) (k460 : Nat) (x463 : Port) (st470 : Unit) : Option (Unit ⊕ (Int)) := if (!(L.zmae x463.Node 0 (wr ((n_0.Nodes.length : Int) - 1)))) = true then some ((.inr (8))) else some (.inl ())
def L.zgcl.J5 (n_0 : Network) (j207 : Unit) : Option Int := (forL (L.zgcl.B15 n_0) 0 n_0.Ports ()).bind fun o475 => Sum.elim (fun st470 => L.zgcl.J6 n_0 ()) (fun d486 => some d486) o475
def L.zgcl.B16 (n_0 : Network) (k488 : Nat) (x491 : Segment) (st502 : Unit) : Option (Unit ⊕ (Int)) := if ((!(L.zmae x491.From 0 (wr ((n_0.Nodes.length : Int) - 1)))) || (!(L.zmae x491.To 0 (wr ((n_0.Nodes.length : Int) - 1))))) = true then some ((.inr (8))) else some (.inl ())
def L.zgcl.J4 (n_0 : Network) (j179 : Unit) : Option Int := (forL (L.zgcl.B16 n_0) 0 n_0.Segments ()).bind fun o511 => Sum.elim (fun st502 => L.zgcl.J5 n_0 ()) (fun d526 => some d526) o511
def L.zgcl.J18 (j611 : Unit) : Option (Unit ⊕ (Int)) := some (.inl ())
def L.zgcl.B19 (n_0 : Network) (k528 : Nat) (x531 : Station) (st627 : Int) : Option (Int ⊕ (Int ⊕ Unit)) := if decide (st627 < (k528 : Int)) = true then (ix n_0.Stations st627).bind fun p640 => if (x531.Node == p640.2.Node) = true then some ((.inr (.inl (7)))) else some (.inl (wr (st627 + 1))) else some ((.inr (.inr (()))))
def L.zgcl.B17 (n_0 : Network) (k528 : Nat) (x531 : Station) (st558 : Unit) : Option (Unit ⊕ (Int)) := (loopN (L.zgcl.B19 n_0 k528 x531) lots 0).bind fun o633 => Sum.elim (fun d643 => some ((.inr (d643)))) (fun d644 => L.zgcl.J18 d644) o633
def L.zgcl.J3 (n_0 : Network) (j120 : Unit) : Option Int := (forL (L.zgcl.B17 n_0) 0 n_0.Stations ()).bind fun o583 => Sum.elim (fun st558 => L.zgcl.J4 n_0 ()) (fun d647 => some d647) o583
def L.zgcl.B20 (r32 : Arr (List ByteArray) 4) (k649 : Nat) (st661 : Unit) : Option (Unit ⊕ (Int)) := (ix r32.l (k649 : Int)).bind fun p676 => (L.zaag p676.2).bind fun r678 => if r678 = true then some ((.inr (7))) else some (.inl ())
def L.zgcl.J2 (n_0 : Network) (r32 : Arr (List ByteArray) 4) (j96 : Unit) : Option Int := (forI (L.zgcl.B20 r32) 0 4 ()).bind fun o669 => Sum.elim (fun st661 => L.zgcl.J3 n_0 ()) (fun d683 => some d683) o669
def L.zgcl.J22 (j773 : Unit) : Option (Unit ⊕ (Int)) := some (.inl ())
def L.zgcl.B23 (k778 : Nat) (x781 : ByteArray) (st789 : Unit) : Option (Unit ⊕ (Int)) := (L.zgmr x781).bind fun r802 => if (!r802) = true then some ((.inr (3))) else some (.inl ())
def L.zgcl.B21 (r32 : Arr (List ByteArray) 4) (k685 : Nat) (st716 : Unit) : Option (Unit ⊕ (Int)) := (ix r32.l (k685 : Int)).bind fun p775 => (forL L.zgcl.B23 0 p775.2 ()).bind fun o795 => Sum.elim (fun st789 => L.zgcl.J22 ()) (fun d807 => some ((.inr (d807)))) o795
def L.zgcl.J1 (n_0 : Network) (j30 : Unit) : Option Int := (L.zghg n_0).bind fun r32 => (forI (L.zgcl.B21 r32) 0 4 ()).bind fun o743 => Sum.elim (fun st716 => L.zgcl.J2 n_0 r32 ()) (fun d810 => some d810) o743
def L.zgcl.B24 (k812 : Nat) (x815 : Segment) (st822 : Unit) : Option (Unit ⊕ (Int)) := if (!(L.zmae (x815.Points.length : Int) 2 8)) = true then some ((.inr (4))) else some (.inl ())
def L.zgcl (n_0 : Network) : Option Int := if ((!(L.zmae (n_0.Nodes.length : Int) 1 24)) || (decide ((n_0.Segments.length : Int) > 32) || (decide ((n_0.Ports.length : Int) > 24) || decide ((n_0.Stations.length : Int) > 12)))) = true then some 4 else (forL L.zgcl.B24 0 n_0.Segments ()).bind fun o827 => Sum.elim (fun st822 => L.zgcl.J1 n_0 ()) (fun d838 => some d838) o827
def L.zdwa (s_0 : Segment) (rate_1 : Int) : (Int × Int) := if decide (rate_1 < 0) = true then (s_0.To, s_0.From) else (s_0.From, s_0.To)
def L.zeew.J2 (j94 : Int × Int) : Option (Int × Int) := some (j94.1, j94.2)
def L.zeew.J4 (j144 : Int × Int) : Option (Int × Int) := some (j144.1, j144.2)
def L.zeew.B3 (p_1 : Plan) (node_2 : Int) (k96 : Nat) (x99 : Port) (st121 : Int × Int) : Option (Int × Int) := if (x99.Node == node_2) = true then (ix p_1.Ports (k96 : Int)).bind fun p149 => L.zeew.J4 (wr (st121.1 + (max 0 p149.2)), wr (st121.2 + (max 0 (wr (0 - p149.2))))) else L.zeew.J4 (st121.1, st121.2)
def L.zeew.J1 (n_0 : Network) (p_1 : Plan) (node_2 : Int) (j55 : Int × Int) : Option (Int × Int) := (forS (L.zeew.B3 p_1 node_2) 0 n_0.Ports (j55.1, j55.2)).bind fun st121 => L.zeew.J2 (st121.1, st121.2)
def L.zeew.J6 (j218 : Int × Int) : Option (Int × Int) := some (j218.1, j218.2)
def L.zeew.J7 (node_2 : Int) (x157 : Segment) (st187 : Int × Int) (p222 : Nat × Int) (j227 : Int) : Option (Int × Int) := if (((L.zdwa x157 p222.2).2) == node_2) = true then L.zeew.J6 (wr (st187.1 + (L.zuap p222.2)), j227) else L.zeew.J6 (st187.1, j227)
def L.zeew.B5 (p_1 : Plan) (node_2 : Int) (k154 : Nat) (x157 : Segment) (st187 : Int × Int) : Option (Int × Int) := (ix p_1.Rates (k154 : Int)).bind fun p222 => if (p222.2 == 0) = true then L.zeew.J6 (st187.1, st187.2) else if (((L.zdwa x157 p222.2).1) == node_2) = true then L.zeew.J7 node_2 x157 st187 p222 (wr (st187.2 + (L.zuap p222.2))) else L.zeew.J7 node_2 x157 st187 p222 st187.2
def L.zeew (n_0 : Network) (p_1 : Plan) (node_2 : Int) : Option (Int × Int) := (forS (L.zeew.B5 p_1 node_2) 0 n_0.Segments (0, 0)).bind fun st187 => L.zeew.J1 n_0 p_1 node_2 (st187.1, st187.2)
def L.zaew.J2 (st444 : (List Int) × (List Bool)) (j873 : Int) : Option (((List Int) × (List Bool)) ⊕ ((List Int))) := if decide (j873 < 0) = true then some ((.inr (st444.1))) else (app? st444.1 ([j873] : List Int)).bind fun l876 => (ix st444.2 j873).bind fun p879 => some (.inl (l876, (st444.2.set p879.1 true)))
def L.zaew.J4 (j1154 : Int) : Option Int := some j1154
def L.zaew.J5 (k882 : Nat) (st1019 : Int) (j1212 : Bool) : Option Int := if (j1212 && decide (st1019 < 0)) = true then L.zaew.J4 (k882 : Int) else L.zaew.J4 st1019
def L.zaew.J7 (j1286 : Bool) : Option Bool := some j1286
def L.zaew.B6 (p_1 : Plan) (st444 : (List Int) × (List Bool)) (k882 : Nat) (k1218 : Nat) (x1221 : Segment) (st1253 : Bool) : Option Bool := (ix p_1.Rates (k1218 : Int)).bind fun p1290 => if (p1290.2 != 0) = true then if st1253 = true then if (((L.zdwa x1221 p1290.2).2) != (k882 : Int)) = true then L.zaew.J7 true else (ix st444.2 ((L.zdwa x1221 p1290.2).1)).bind fun p1296 => L.zaew.J7 p1296.2 else L.zaew.J7 false else L.zaew.J7 st1253
def L.zaew.B3 (n_0 : Network) (p_1 : Plan) (st444 : (List Int) × (List Bool)) (k882 : Nat) (x885 : ByteArray) (st1019 : Int) : Option Int := (ix st444.2 (k882 : Int)).bind fun p1157 => (forS (L.zaew.B6 p_1 st444 k882) 0 n_0.Segments (!p1157.2)).bind fun st1253 => L.zaew.J5 k882 st1019 st1253
def L.zaew.B1 (n_0 : Network) (p_1 : Plan) (st444 : (List Int) × (List Bool)) : Option (((List Int) × (List Bool)) ⊕ ((List Int))) := (forS (L.zaew.B3 n_0 p_1 st444) 0 n_0.Nodes (-1)).bind fun st1019 => L.zaew.J2 st444 st1019
def L.zaew (n_0 : Network) (p_1 : Plan) : Option (List Int) := (mk? (n_0.Nodes.length : Int) false).bind fun l6 => (loopN (L.zaew.B1 n_0 p_1) lots ([], l6)).bind fun d1302 => some d1302
def L.zvqa.J3 (n_0 : Network) (p_1 : Plan) (j93 : Unit) : Option Int := (L.zaew n_0 p_1).bind fun r94 => if ((r94.length : Int) != (n_0.Nodes.length : Int)) = true then some 13 else some 0
def L.zvqa.B4 (n_0 : Network) (p_1 : Plan) (k99 : Nat) (x102 : ByteArray) (st111 : Unit) : Option (Unit ⊕ (Int)) := (L.zeew n_0 p_1 (k99 : Int)).bind fun r126 => if (r126.1 != r126.2) = true then some ((.inr (12))) else some (.inl ())
def L.zvqa.J2 (n_0 : Network) (p_1 : Plan) (j70 : Unit) : Option Int := (forL (L.zvqa.B4 n_0 p_1) 0 n_0.Nodes ()).bind fun o118 => Sum.elim (fun st111 => L.zvqa.J3 n_0 p_1 ()) (fun d131 => some d131) o118
def L.zvqa.B5 (k133 : Nat) (x136 : Int) (st146 : Unit) : Option (Unit ⊕ (Int)) := if (decide (x136 < (-1000)) || decide (x136 > 1000)) = true then some ((.inr (1))) else some (.inl ())
def L.zvqa.J1 (n_0 : Network) (p_1 : Plan) (j45 : Unit) : Option Int := (forL L.zvqa.B5 0 p_1.Ports ()).bind fun o154 => Sum.elim (fun st146 => L.zvqa.J2 n_0 p_1 ()) (fun d168 => some d168) o154
def L.zvqa.B6 (n_0 : Network) (k170 : Nat) (x173 : Int) (st186 : Unit) : Option (Unit ⊕ (Int)) := (ix n_0.Segments (k170 : Int)).bind fun p206 => if (decide (x173 < (wr (0 - (min 1000 p206.2.Capacity)))) || decide (x173 > (min 1000 p206.2.Capacity))) = true then some ((.inr (1))) else some (.inl ())
def L.zvqa (n_0 : Network) (p_1 : Plan) : Option Int := (L.zgcl n_0).bind fun r5 => if (r5 != 0) = true then some r5 else if (((p_1.Rates.length : Int) != (n_0.Segments.length : Int)) || (((p_1.Ports.length : Int) != (n_0.Ports.length : Int)) || ((p_1.Pumps.length : Int) != (n_0.Stations.length : Int)))) = true then some 9 else (forL (L.zvqa.B6 n_0) 0 p_1.Rates ()).bind fun o197 => Sum.elim (fun st186 => L.zvqa.J1 n_0 p_1 ()) (fun d214 => some d214) o197
def L.zaic (s_0 : Segment) : Option Bool := (L.zgcl (⟨([(⟨#[97]⟩ : ByteArray), (⟨#[98]⟩ : ByteArray)] : List ByteArray), ([(⟨s_0.Name, 0, 1, s_0.Capacity, s_0.Resist, s_0.Wave, s_0.Points⟩ : Segment)] : List Segment), [], [], 0, 0⟩ : Network)).bind fun r5 => some (r5 == 0)
def L.zcjy (batch_0 : Int) : Bool := (decide (batch_0 ≥ 0) && decide (batch_0 < 1000))
def L.zmux.J1 (j52 : Int) : Option Bool := some (decide (j52 ≤ 1000000))
def L.zmux.J3 (x57 : Piece) (st85 : Int) (j113 : Bool) : Option (Int ⊕ (Bool)) := if j113 = true then some ((.inr (false))) else some (.inl (wr (st85 + x57.Volume)))
def L.zmux.B2 (f_0 : List Piece) (k54 : Nat) (x57 : Piece) (st85 : Int) : Option (Int ⊕ (Bool)) := if (!(L.zcjy x57.Batch)) = true then L.zmux.J3 x57 st85 true else if decide (x57.Volume < 1) = true then L.zmux.J3 x57 st85 true else if decide (x57.Volume > 1000000) = true then L.zmux.J3 x57 st85 true else if decide ((k54 : Int) > 0) = true then (ix f_0 (wr ((k54 : Int) - 1))).bind fun p119 => L.zmux.J3 x57 st85 (x57.Batch == p119.2.Batch) else L.zmux.J3 x57 st85 false
def L.zmux (f_0 : List Piece) : Option Bool := if decide ((f_0.length : Int) > 200) = true then some false else (forL (L.zmux.B2 f_0) 0 f_0 0).bind fun o98 => Sum.elim (fun st85 => L.zmux.J1 st85) (fun d123 => some d123) o98
def L.zwqi.J1 (j20 : Int) : Option Int := some j20
def L.zwqi.B2 (k22 : Nat) (x25 : Piece) (st33 : Int) : Option Int := some (wr (st33 + x25.Volume))
def L.zwqi (f_0 : List Piece) : Option Int := (forS L.zwqi.B2 0 f_0 0).bind fun st33 => L.zwqi.J1 st33
def L.zjiy.J1 (s_0 : Segment) (f_1 : List Piece) (j8 : Bool) : Option Int := if j8 = true then some 9 else (L.zwqi f_1).bind fun r10 => if (r10 != s_0.Capacity) = true then some 14 else some 0
def L.zjiy (s_0 : Segment) (f_1 : List Piece) : Option Int := (L.zaic s_0).bind fun r13 => if (!r13) = true then L.zjiy.J1 s_0 f_1 true else (L.zmux f_1).bind fun r16 => L.zjiy.J1 s_0 f_1 (!r16)
def L.ztca.J1 (j13 : Bool) : Option Bool := some j13
def L.ztca (p_0 : Product) : Option Bool := (L.zgmr p_0.Name).bind fun r14 => if r14 = true then if decide (p_0.Density ≥ 400) = true then if decide (p_0.Density ≤ 1200) = true then if decide (p_0.Expansion ≥ 0) = true then if decide (p_0.Expansion ≤ 2000) = true then if decide (p_0.Compress ≥ 0) = true then if decide (p_0.Compress ≤ 5000) = true then if decide (p_0.Friction ≥ 1) = true then L.ztca.J1 (decide (p_0.Friction ≤ 2000)) else L.ztca.J1 false else L.ztca.J1 false else L.ztca.J1 false else L.ztca.J1 false else L.ztca.J1 false else L.ztca.J1 false else L.ztca.J1 false else L.ztca.J1 false
def L.zdld.J1 (j20 : Unit) : Option Int := some (-1)
def L.zdld.B2 (name_1 : ByteArray) (k22 : Nat) (x25 : Product) (st32 : Unit) : Option (Unit ⊕ (Int)) := if sEq x25.Name name_1 = true then some ((.inr ((k22 : Int)))) else some (.inl ())
def L.zdld (l_0 : List Product) (name_1 : ByteArray) : Option Int := (forL (L.zdld.B2 name_1) 0 l_0 ()).bind fun o37 => Sum.elim (fun st32 => L.zdld.J1 ()) (fun d48 => some d48) o37
def L.zjqp.J2 (j49 : Unit) : Option Int := some 0
def L.zjqp.B3 (l_0 : List Product) (k51 : Nat) (x54 : Product) (st63 : Unit) : Option (Unit ⊕ (Int)) := (L.zdld l_0 x54.Name).bind fun r78 => if (r78 != (k51 : Int)) = true then some ((.inr (7))) else some (.inl ())
def L.zjqp.J1 (l_0 : List Product) (j26 : Unit) : Option Int := (forL (L.zjqp.B3 l_0) 0 l_0 ()).bind fun o70 => Sum.elim (fun st63 => L.zjqp.J2 ()) (fun d83 => some d83) o70
def L.zjqp.B4 (k85 : Nat) (x88 : Product) (st97 : Unit) : Option (Unit ⊕ (Int)) := (L.ztca x88).bind fun r112 => if (!r112) = true then some ((.inr (9))) else some (.inl ())
def L.zjqp (l_0 : List Product) : Option Int := if decide ((l_0.length : Int) > 16) = true then some 4 else (forL L.zjqp.B4 0 l_0 ()).bind fun o104 => Sum.elim (fun st97 => L.zjqp.J1 l_0 ()) (fun d117 => some d117) o104
def L.zkip.J1 (j32 : Unit) : Option Bool := some true
def L.zkip.J3 (j74 : Bool) : Option (Unit ⊕ (Bool)) := if j74 = true then some ((.inr (false))) else some (.inl ())
def L.zkip.B2 (batches_1 : List Batch) (products_2 : List Product) (k34 : Nat) (x37 : Piece) (st50 : Unit) : Option (Unit ⊕ (Bool)) := if decide (x37.Batch ≥ (batches_1.length : Int)) = true then L.zkip.J3 true else (ix batches_1 x37.Batch).bind fun p77 => if decide (p77.2.Product < 0) = true then L.zkip.J3 true else L.zkip.J3 (decide (p77.2.Product ≥ (products_2.length : Int)))
def L.zkip (f_0 : List Piece) (batches_1 : List Batch) (products_2 : List Product) : Option Bool := (forL (L.zkip.B2 batches_1 products_2) 0 f_0 ()).bind fun o61 => Sum.elim (fun st50 => L.zkip.J1 ()) (fun d82 => some d82) o61
def L.znpg (b_0 : Bounds) : Bool := (decide (b_0.Low ≤ b_0.High) && (decide (b_0.Low ≥ (-1125899906842624)) && decide (b_0.High ≤ 1125899906842624)))
def L.zkpq.J3 (j44 : List Int) : Option (List Int) := some j44
def L.zkpq.J2 (l_0 : List Int) (n_1 : Int) (j22 : Int) (j27 : Bool) : Option (List Int) := if j27 = true then some l_0 else (sub? l_0 0 j22).bind fun l47 => (app? ([] : List Int) l47).bind fun l49 => (app? l49 ([n_1] : List Int)).bind fun l53 => (sub? l_0 j22 (l_0.length : Int)).bind fun l56 => (app? l53 l56).bind fun l58 => L.zkpq.J3 l58
def L.zkpq.J1 (l_0 : List Int) (n_1 : Int) (j22 : Int) : Option (List Int) := if decide (j22 < (l_0.length : Int)) = true then (ix l_0 j22).bind fun p62 => L.zkpq.J2 l_0 n_1 j22 (p62.2 == n_1) else L.zkpq.J2 l_0 n_1 j22 false
def L.zkpq.J5 (st77 : Int) (j91 : Bool) : Option (Int ⊕ (Int)) := if j91 = true then some (.inl (wr (st77 + 1))) else some ((.inr (st77)))
def L.zkpq.B4 (l_0 : List Int) (n_1 : Int) (st77 : Int) : Option (Int ⊕ (Int)) := if decide (st77 < (l_0.length : Int)) = true then (ix l_0 st77).bind fun p94 => L.zkpq.J5 st77 (decide (p94.2 < n_1)) else L.zkpq.J5 st77 false
def L.zkpq (l_0 : List Int) (n_1 : Int) : Option (List Int) := (loopN (L.zkpq.B4 l_0 n_1) lots 0).bind fun d96 => L.zkpq.J1 l_0 n_1 d96
def L.zkrt.J2 (j58 : List Int) : Option (List Int) := some j58
def L.zkrt.B3 (k60 : Nat) (x63 : Piece) (st77 : (List Int) × Int) : Option ((List Int) × Int) := (L.zkpq st77.1 (wr (st77.2 + x63.Volume))).bind fun r91 => some (r91, wr (st77.2 + x63.Volume))
def L.zkrt.J1 (f_1 : List Piece) (j30 : List Int) : Option (List Int) := (forS L.zkrt.B3 0 f_1 (j30, 0)).bind fun st77 => L.zkrt.J2 st77.1
def L.zkrt.B4 (k96 : Nat) (x99 : Point) (st113 : List Int) : Option (List Int) := (L.zkpq st113 x99.At).bind fun r127 => some r127
def L.zkrt (s_0 : Segment) (f_1 : List Piece) : Option (List Int) := (forS L.zkrt.B4 0 s_0.Points []).bind fun st113 => L.zkrt.J1 f_1 st113
def L.zqbz.J2 (j34 : Unit) : Option Int := some (-1)
def L.zqbz.B3 (k36 : Nat) (x39 : Piece) (st53 : Int) : Option (Int ⊕ (Int)) := if decide (st53 < x39.Volume) = true then some ((.inr (x39.Batch))) else some (.inl (wr (st53 - x39.Volume)))
def L.zqbz.J1 (f_0 : List Piece) (place_1 : Int) (j6 : Bool) : Option Int := if j6 = true then some (-1) else (forL L.zqbz.B3 0 f_0 place_1).bind fun o59 => Sum.elim (fun st53 => L.zqbz.J2 ()) (fun d71 => some d71) o59
def L.zqbz (f_0 : List Piece) (place_1 : Int) : Option Int := (L.zmux f_0).bind fun r72 => if (!r72) = true then L.zqbz.J1 f_0 place_1 true else L.zqbz.J1 f_0 place_1 (decide (place_1 < 0))
def L.zqae.J2 (s_0 : Segment) (rate_4 : Int) (a_5 : Int) (b_6 : Int) (p8 : Nat × Product) (j32 : Int × Int × Int × Int × Int × Int) : Option (Int × Int × Int × Int) := some (wr ((wr ((wr ((wr (s_0.Resist * p8.2.Friction)) * rate_4)) * rate_4)) * (wr (b_6 - a_5))), wr (1000 * s_0.Capacity), wr ((wr ((wr (p8.2.Density * 9807)) * (wr (j32.2.2.2.2.1 - j32.2.1)))) * (wr (b_6 - a_5))), wr (1000 * (wr (j32.2.2.2.1 - j32.1))))
def L.zqae.J1 (s_0 : Segment) (rate_4 : Int) (a_5 : Int) (b_6 : Int) (p8 : Nat × Product) (j25 : Int) : Option (Int × Int × Int × Int) := (ix s_0.Points j25).bind fun p35 => (ix s_0.Points (wr (j25 + 1))).bind fun p37 => L.zqae.J2 s_0 rate_4 a_5 b_6 p8 (p35.2.At, p35.2.Height, p35.2.Limit, p37.2.At, p37.2.Height, p37.2.Limit)
def L.zqae.B3 (s_0 : Segment) (a_5 : Int) (st50 : Int) : Option (Int ⊕ (Int)) := (ix s_0.Points (wr (st50 + 1))).bind fun p59 => if decide (p59.2.At ≤ a_5) = true then some (.inl (wr (st50 + 1))) else some ((.inr (st50)))
def L.zqae (s_0 : Segment) (f_1 : List Piece) (batches_2 : List Batch) (products_3 : List Product) (rate_4 : Int) (a_5 : Int) (b_6 : Int) : Option (Int × Int × Int × Int) := (L.zqbz f_1 a_5).bind fun r4 => (ix batches_2 r4).bind fun p6 => (ix products_3 p6.2.Product).bind fun p8 => (loopN (L.zqae.B3 s_0 a_5) lots 0).bind fun d62 => L.zqae.J1 s_0 rate_4 a_5 b_6 p8 d62
def L.zvbp (a_0 : Int) (b_1 : Int) : Bool := (decide (b_1 ≥ 1) && (decide (b_1 ≤ 1099511627776) && (decide (a_0 ≥ (-2305843009213693952)) && decide (a_0 ≤ 2305843009213693952))))
def L.zulm.J1 (j10 : Int) : Option Int := some j10
def L.zulm (a_0 : Int) (b_1 : Int) : Option Int := if (!(L.zvbp a_0 b_1)) = true then some 0 else (quo? a_0 b_1).bind fun x5 => (rem? a_0 b_1).bind fun x11 => if decide (x11 > 0) = true then L.zulm.J1 (wr (x5 + 1)) else L.zulm.J1 x5
def L.zfsa.J1 (j10 : Int) : Option Int := some j10
def L.zfsa (a_0 : Int) (b_1 : Int) : Option Int := if (!(L.zvbp a_0 b_1)) = true then some 0 else (quo? a_0 b_1).bind fun x5 => (rem? a_0 b_1).bind fun x11 => if decide (x11 < 0) = true then L.zfsa.J1 (wr (x5 - 1)) else L.zfsa.J1 x5
def L.zwrr.J2 (j182 : List Level) : Option ((List Level) × Int) := some (j182, 0)
def L.zwrr.B3 (s_0 : Segment) (f_1 : List Piece) (batches_2 : List Batch) (products_3 : List Product) (rate_4 : Int) (r26 : List Int) (st227 : (List Level) × Int × Int × Int) : Option (((List Level) × Int × Int × Int) ⊕ ((List Level))) := if decide (st227.2.2.2 ≥ 0) = true then (ix r26 st227.2.2.2).bind fun p256 => (ix r26 (wr (st227.2.2.2 + 1))).bind fun p258 => (L.zqae s_0 f_1 batches_2 products_3 rate_4 p256.2 p258.2).bind fun r260 => (L.zulm r260.1 r260.2.1).bind fun r262 => (L.zulm (wr (0 - r260.2.2.1)) r260.2.2.2).bind fun r264 => (L.zfsa r260.1 r260.2.1).bind fun r266 => (L.zfsa (wr (0 - r260.2.2.1)) r260.2.2.2).bind fun r268 => (ix st227.1 st227.2.2.2).bind fun p270 => some (.inl ((st227.1.set p270.1 (⟨p256.2, (⟨wr ((wr (st227.2.1 - r262)) - r264), wr ((wr (st227.2.2.1 - r266)) - r268)⟩ : Bounds)⟩ : Level)), wr ((wr (st227.2.1 - r262)) - r264), wr ((wr (st227.2.2.1 - r266)) - r268), wr (st227.2.2.2 - 1))) else some ((.inr (st227.1)))
def L.zwrr.J1 (s_0 : Segment) (f_1 : List Piece) (batches_2 : List Batch) (products_3 : List Product) (rate_4 : Int) (in_5 : Bounds) (r26 : List Int) (l29 : List Level) (j109 : Unit) : Option ((List Level) × Int) := (ix r26 (wr ((r26.length : Int) - 1))).bind fun p112 => (ix l29 (wr ((r26.length : Int) - 1))).bind fun p114 => (loopN (L.zwrr.B3 s_0 f_1 batches_2 products_3 rate_4 r26) lots ((l29.set p114.1 (⟨p112.2, in_5⟩ : Level)), in_5.Low, in_5.High, wr ((wr ((r26.length : Int) - 1)) - 1))).bind fun d273 => L.zwrr.J2 d273
def L.zwrr.J4 (j347 : List Level) : Option ((List Level) × Int) := some (j347, 0)
def L.zwrr.B5 (s_0 : Segment) (f_1 : List Piece) (batches_2 : List Batch) (products_3 : List Product) (rate_4 : Int) (r26 : List Int) (st392 : (List Level) × Int × Int × Int) : Option (((List Level) × Int × Int × Int) ⊕ ((List Level))) := if decide (st392.2.2.2 < (r26.length : Int)) = true then (ix r26 (wr (st392.2.2.2 - 1))).bind fun p421 => (ix r26 st392.2.2.2).bind fun p423 => (L.zqae s_0 f_1 batches_2 products_3 rate_4 p421.2 p423.2).bind fun r425 => (L.zulm r425.1 r425.2.1).bind fun r427 => (L.zulm r425.2.2.1 r425.2.2.2).bind fun r429 => (L.zfsa r425.1 r425.2.1).bind fun r431 => (L.zfsa r425.2.2.1 r425.2.2.2).bind fun r433 => (ix st392.1 st392.2.2.2).bind fun p435 => some (.inl ((st392.1.set p435.1 (⟨p423.2, (⟨wr ((wr (st392.2.1 - r427)) - r429), wr ((wr (st392.2.2.1 - r431)) - r433)⟩ : Bounds)⟩ : Level)), wr ((wr (st392.2.1 - r427)) - r429), wr ((wr (st392.2.2.1 - r431)) - r433), wr (st392.2.2.2 + 1))) else some ((.inr (st392.1)))
def L.zwrr (s_0 : Segment) (f_1 : List Piece) (batches_2 : List Batch) (products_3 : List Product) (rate_4 : Int) (in_5 : Bounds) : Option ((List Level) × Int) := (L.zjiy s_0 f_1).bind fun r5 => if (r5 != 0) = true then some ([], r5) else (L.zjqp products_3).bind fun r9 => if (r9 != 0) = true then some ([], r9) else (L.zkip f_1 batches_2 products_3).bind fun r14 => if (!r14) = true then some ([], 8) else if ((rate_4 == 0) || (decide (rate_4 < (-1000)) || (decide (rate_4 > 1000) || (!(L.znpg in_5))))) = true then some ([], 1) else (L.zkrt s_0 f_1).bind fun r26 => (mk? (r26.length : Int) (⟨(0 : Int), (⟨(0 : Int), (0 : Int)⟩ : Bounds)⟩ : Level)).bind fun l29 => if decide (rate_4 > 0) = true then (ix r26 0).bind fun p277 => (ix l29 0).bind fun p279 => (loopN (L.zwrr.B5 s_0 f_1 batches_2 products_3 rate_4 r26) lots ((l29.set p279.1 (⟨p277.2, in_5⟩ : Level)), in_5.Low, in_5.High, 1)).bind fun d438 => L.zwrr.J4 d438 else L.zwrr.J1 s_0 f_1 batches_2 products_3 rate_4 in_5 r26 l29 ()
def L.zjds.J1 (j51 : Int) : Option Int := some j51
def L.zjds.J3 (st84 : Int × Int) (j117 : Int) : Option ((Int × Int) ⊕ (Int)) := some (.inl (j117, wr (st84.2 + 1)))
def L.zjds.J4 (s_0 : Segment) (st84 : Int × Int) (j123 : Bool) : Option ((Int × Int) ⊕ (Int)) := if j123 = true then (ix s_0.Points (wr (st84.2 - 1))).bind fun p125 => (ix s_0.Points st84.2).bind fun p127 => L.zjds.J3 st84 (min (min st84.1 p125.2.Limit) p127.2.Limit) else L.zjds.J3 st84 st84.1
def L.zjds.B2 (s_0 : Segment) (at_1 : Int) (st84 : Int × Int) : Option ((Int × Int) ⊕ (Int)) := if decide (st84.2 < (s_0.Points.length : Int)) = true then (ix s_0.Points (wr (st84.2 - 1))).bind fun p129 => if decide (at_1 ≥ p129.2.At) = true then (ix s_0.Points st84.2).bind fun p132 => L.zjds.J4 s_0 st84 (decide (at_1 ≤ p132.2.At)) else L.zjds.J4 s_0 st84 false else some ((.inr (st84.1)))
def L.zjds (s_0 : Segment) (at_1 : Int) : Option Int := (loopN (L.zjds.B2 s_0 at_1) lots (100000000, 1)).bind fun d134 => L.zjds.J1 d134
def L.zpdi (d_0 : KS) : Option (Network × (List Batch) × (List Product) × (List (List Piece)) × Plan × KS) := (L.zeju d_0).bind fun r5 => (L.zexx r5.2).bind fun r9 => (L.ziyq r9.2 4 (r9.1.length : Int)).bind fun r12 => (L.zbhc r12.2 r5.1 4).bind fun r15 => (L.zjbu r15.2 r5.1).bind fun r18 => some (r5.1, r12.1, r9.1, r15.1, r18.1, r18.2)
def L.zcfu (n_0 : Network) (p_1 : Plan) (node_2 : Int) : Option (Int × Int) := (L.zvqa n_0 p_1).bind fun r5 => if (r5 != 0) = true then some (0, r5) else if (decide (node_2 < 0) || decide (node_2 ≥ (n_0.Nodes.length : Int))) = true then some (0, 8) else (L.zeew n_0 p_1 node_2).bind fun r13 => some (r13.1, 0)
def L.zusz.J4 (j60 : Bool) : Option Bool := some j60
def L.zusz.J3 (j28 : (List Bool) × (List Bounds) × Int) (j40 : Int) (j51 : Int × Int × Int × Int) : Option Bool := if (j28.2.2 == 0) = true then if ((j28.2.1.length : Int) == 2) = true then (ix j28.2.1 1).bind fun p63 => if ((p63.2.Low == 642608) && ((p63.2.High == 642608) && true)) = true then if (j40 == 0) = true then if (j51.2.2.2 == 15) = true then L.zusz.J4 ((j51.1 == 1) && ((j51.2.1 == 0) && ((j51.2.2.1 == 0) && true))) else L.zusz.J4 false else L.zusz.J4 false else L.zusz.J4 false else L.zusz.J4 false else L.zusz.J4 false
def L.zusz.J2 (j28 : (List Bool) × (List Bounds) × Int) (j40 : Int) : Option Bool := (ix ([(⟨0, 0, 900000⟩ : Point), (⟨100, 20, 900000⟩ : Point)] : List Point) 1).bind fun p42 => (mk? 1 (⟨(0 : Int), (⟨#[]⟩ : ByteArray), (0 : Int), (0 : Int)⟩ : Batch)).bind fun l68 => (L.zdbv (⟨([(⟨#[97]⟩ : ByteArray), (⟨#[98]⟩ : ByteArray)] : List ByteArray), ([(⟨(⟨#[115]⟩ : ByteArray), 0, 1, 100, 1, 50, (([(⟨0, 0, 900000⟩ : Point), (⟨100, 20, 900000⟩ : Point)] : List Point).set p42.1 (⟨p42.2.At, p42.2.Height, 700000⟩ : Point))⟩ : Segment)] : List Segment), ([(⟨(⟨#[105, 110]⟩ : ByteArray), 0, 300000⟩ : Port), (⟨(⟨#[111, 117, 116]⟩ : ByteArray), 1, 0⟩ : Port)] : List Port), ([(⟨(⟨#[112]⟩ : ByteArray), 0, 500000, 200, 100000⟩ : Station)] : List Station), 50000, 10⟩ : Network) l68 ([(⟨(⟨#[111, 105, 108]⟩ : ByteArray), 800, 0, 0, 1000⟩ : Product)] : List Product) ([([(⟨0, 100⟩ : Piece)] : List Piece)] : List (List Piece)) (⟨([20] : List Int), ([20, (-20)] : List Int), ([true] : List Bool)⟩ : Plan)).bind fun r72 => L.zusz.J3 j28 j40 (r72.1.Kind, r72.1.Index, r72.1.At, r72.2)
def L.zusz.J1 (j28 : (List Bool) × (List Bounds) × Int) : Option Bool := (mk? 1 (⟨(0 : Int), (⟨#[]⟩ : ByteArray), (0 : Int), (0 : Int)⟩ : Batch)).bind fun l75 => (L.zdbv (⟨([(⟨#[97]⟩ : ByteArray), (⟨#[98]⟩ : ByteArray)] : List ByteArray), ([(⟨(⟨#[115]⟩ : ByteArray), 0, 1, 100, 1, 50, ([(⟨0, 0, 900000⟩ : Point), (⟨100, 20, 900000⟩ : Point)] : List Point)⟩ : Segment)] : List Segment), ([(⟨(⟨#[105, 110]⟩ : ByteArray), 0, 300000⟩ : Port), (⟨(⟨#[111, 117, 116]⟩ : ByteArray), 1, 0⟩ : Port)] : List Port), ([(⟨(⟨#[112]⟩ : ByteArray), 0, 500000, 200, 100000⟩ : Station)] : List Station), 50000, 10⟩ : Network) l75 ([(⟨(⟨#[111, 105, 108]⟩ : ByteArray), 800, 0, 0, 1000⟩ : Product)] : List Product) ([([(⟨0, 100⟩ : Piece)] : List Piece)] : List (List Piece)) (⟨([20] : List Int), ([20, (-20)] : List Int), ([true] : List Bool)⟩ : Plan)).bind fun r79 => L.zusz.J2 j28 r79.2
def L.zusz : Option Bool := (mk? 1 (⟨(0 : Int), (⟨#[]⟩ : ByteArray), (0 : Int), (0 : Int)⟩ : Batch)).bind fun l82 => (L.zonc (⟨([(⟨#[97]⟩ : ByteArray), (⟨#[98]⟩ : ByteArray)] : List ByteArray), ([(⟨(⟨#[115]⟩ : ByteArray), 0, 1, 100, 1, 50, ([(⟨0, 0, 900000⟩ : Point), (⟨100, 20, 900000⟩ : Point)] : List Point)⟩ : Segment)] : List Segment), ([(⟨(⟨#[105, 110]⟩ : ByteArray), 0, 300000⟩ : Port), (⟨(⟨#[111, 117, 116]⟩ : ByteArray), 1, 0⟩ : Port)] : List Port), ([(⟨(⟨#[112]⟩ : ByteArray), 0, 500000, 200, 100000⟩ : Station)] : List Station), 50000, 10⟩ : Network) l82 ([(⟨(⟨#[111, 105, 108]⟩ : ByteArray), 800, 0, 0, 1000⟩ : Product)] : List Product) ([([(⟨0, 100⟩ : Piece)] : List Piece)] : List (List Piece)) (⟨([20] : List Int), ([20, (-20)] : List Int), ([true] : List Bool)⟩ : Plan)).bind fun r86 => L.zusz.J1 (r86.1.Known, r86.1.Nodes, r86.2)
def L.zijj.J2 (j96 : Unit) : Option Bool := (L.zusz).bind fun r97 => some r97
def L.zijj.B3 (r6 : Network × (List Batch) × (List Product) × (List (List Piece)) × Plan × KS) (r11 : Pressures × Int) (k100 : Nat) (x103 : Segment) (st114 : Unit) : Option (Unit ⊕ (Bool)) := (ix r11.1.Segments (k100 : Int)).bind fun p131 => (ix r6.2.2.2.2.1.Rates (k100 : Int)).bind fun p133 => if (decide ((p131.2.length : Int) > 0) != (p133.2 != 0)) = true then some ((.inr (false))) else some (.inl ())
def L.zijj.J1 (r6 : Network × (List Batch) × (List Product) × (List (List Piece)) × Plan × KS) (r11 : Pressures × Int) (j69 : Unit) : Option Bool := (forL (L.zijj.B3 r6 r11) 0 r6.1.Segments ()).bind fun o123 => Sum.elim (fun st114 => L.zijj.J2 ()) (fun d138 => some d138) o123
def L.zijj.J5 (j204 : Bool) : Option (Unit ⊕ (Bool)) := if j204 = true then some ((.inr (false))) else some (.inl ())
def L.zijj.B4 (r6 : Network × (List Batch) × (List Product) × (List (List Piece)) × Plan × KS) (r11 : Pressures × Int) (k140 : Nat) (x143 : ByteArray) (st164 : Unit) : Option (Unit ⊕ (Bool)) := (L.zcfu r6.1 r6.2.2.2.2.1 (k140 : Int)).bind fun r192 => if (r192.2 != 0) = true then L.zijj.J5 true else (ix r11.1.Known (k140 : Int)).bind fun p207 => if (p207.2 != decide (r192.1 > 0)) = true then L.zijj.J5 true else if (!p207.2) = true then (ix r11.1.Nodes (k140 : Int)).bind fun p211 => if (!((p211.2.Low == 0) && ((p211.2.High == 0) && true))) = true then L.zijj.J5 true else L.zijj.J5 (decide (p211.2.Low > p211.2.High)) else (ix r11.1.Nodes (k140 : Int)).bind fun p214 => L.zijj.J5 (decide (p214.2.Low > p214.2.High))
def L.zijj (l_0 : List Int) : Option Bool := (L.ziti l_0).bind fun r3 => (L.zpdi r3).bind fun r6 => (L.zonc r6.1 r6.2.1 r6.2.2.1 r6.2.2.2.1 r6.2.2.2.2.1).bind fun r11 => if ((r11.2 != 0) || (((r11.1.Known.length : Int) != (r6.1.Nodes.length : Int)) || (((r11.1.Nodes.length : Int) != (r6.1.Nodes.length : Int)) || ((r11.1.Segments.length : Int) != (r6.1.Segments.length : Int))))) = true then some false else (forL (L.zijj.B4 r6 r11) 0 r6.1.Nodes ()).bind fun o183 => Sum.elim (fun st164 => L.zijj.J1 r6 r11 ()) (fun d218 => some d218) o183
def L.zmyz.J1 (j13 : Bool) : Option Bool := some j13
def L.zmyz (s_0 : Station) : Option Bool := (L.zgmr s_0.Name).bind fun r14 => if r14 = true then if decide (s_0.Node ≥ 0) = true then if decide (s_0.Node < 24) = true then if decide (s_0.Head ≥ 0) = true then if decide (s_0.Head ≤ 100000000) = true then if decide (s_0.Fall ≥ 0) = true then if decide (s_0.Fall ≤ 100000) = true then if decide (s_0.Suction ≥ 0) = true then L.zmyz.J1 (decide (s_0.Suction ≤ 100000000)) else L.zmyz.J1 false else L.zmyz.J1 false else L.zmyz.J1 false else L.zmyz.J1 false else L.zmyz.J1 false else L.zmyz.J1 false else L.zmyz.J1 false else L.zmyz.J1 false
def L.zqzf (s_0 : Station) (rate_1 : Int) : Option (Int × Int) := (L.zmyz s_0).bind fun r4 => if (!r4) = true then some (0, 9) else if (decide (rate_1 < 0) || decide (rate_1 > 32000)) = true then some (0, 1) else some ((max 0 (wr (s_0.Head - (wr ((wr ((wr (s_0.Fall * rate_1)) * rate_1)).tdiv 1000))))), 0)
def L.zwcc.J1 (j49 : Int) : Option Int := some j49
def L.zwcc.J3 (j107 : Int) : Option Int := some j107
def L.zwcc.B2 (p_1 : Plan) (node_2 : Int) (k51 : Nat) (x54 : Segment) (st80 : Int) : Option Int := (ix p_1.Rates (k51 : Int)).bind fun p111 => if (p111.2 == 0) = true then L.zwcc.J3 st80 else if (((L.zdwa x54 p111.2).1) == node_2) = true then L.zwcc.J3 (wr (st80 + (L.zuap p111.2))) else L.zwcc.J3 st80
def L.zwcc (n_0 : Network) (p_1 : Plan) (node_2 : Int) : Option Int := (forS (L.zwcc.B2 p_1 node_2) 0 n_0.Segments 0).bind fun st80 => L.zwcc.J1 st80
def L.zksg.J4 (j584 : Unit) : Option Bool := (L.zusz).bind fun r585 => some r585
def L.zksg.J6 (j637 : Bool) : Option (Unit ⊕ (Bool)) := if j637 = true then some ((.inr (false))) else some (.inl ())
def L.zksg.B5 (r11 : Pressures × Int) (j547 : (List Bool) × (List Bool)) (k588 : Nat) (x591 : ByteArray) (st607 : Unit) : Option (Unit ⊕ (Bool)) := (ix r11.1.Known (k588 : Int)).bind fun p639 => if p639.2 = true then (ix j547.1 (k588 : Int)).bind fun p642 => if (!p642.2) = true then L.zksg.J6 true else (ix j547.2 (k588 : Int)).bind fun p645 => L.zksg.J6 (!p645.2) else L.zksg.J6 false
def L.zksg.J3 (r6 : Network × (List Batch) × (List Product) × (List (List Piece)) × Plan × KS) (r11 : Pressures × Int) (j547 : (List Bool) × (List Bool)) : Option Bool := (forL (L.zksg.B5 r11 j547) 0 r6.1.Nodes ()).bind fun o621 => Sum.elim (fun st607 => L.zksg.J4 ()) (fun d649 => some d649) o621
def L.zksg.J8 (j1143 : (List Bool) × (List Bool)) : Option (((List Bool) × (List Bool)) ⊕ (Bool)) := some (.inl (j1143.1, j1143.2))
def L.zksg.J12 (r11 : Pressures × Int) (x654 : Segment) (st898 : (List Bool) × (List Bool)) (p1150 : Nat × Int) (j1166 : Int × Int × Int × Int) (j1230 : Bool) : Option (((List Bool) × (List Bool)) ⊕ (Bool)) := if j1230 = true then some ((.inr (false))) else (ix st898.1 ((L.zdwa x654 p1150.2).2)).bind fun p1232 => if p1232.2 = true then (ix st898.2 ((L.zdwa x654 p1150.2).2)).bind fun p1235 => if p1235.2 = true then L.zksg.J8 ((st898.1.set p1232.1 true), (st898.2.set p1235.1 true)) else (ix r11.1.Nodes ((L.zdwa x654 p1150.2).2)).bind fun p1242 => L.zksg.J8 ((st898.1.set p1232.1 true), (st898.2.set p1235.1 (p1242.2.High == j1166.2.2.2))) else (ix r11.1.Nodes ((L.zdwa x654 p1150.2).2)).bind fun p1248 => (ix st898.2 ((L.zdwa x654 p1150.2).2)).bind fun p1250 => if p1250.2 = true then L.zksg.J8 ((st898.1.set p1232.1 (p1248.2.Low == j1166.2.2.1)), (st898.2.set p1250.1 true)) else L.zksg.J8 ((st898.1.set p1232.1 (p1248.2.Low == j1166.2.2.1)), (st898.2.set p1250.1 (p1248.2.High == j1166.2.2.2)))
def L.zksg.J11 (r11 : Pressures × Int) (x654 : Segment) (st898 : (List Bool) × (List Bool)) (p1150 : Nat × Int) (j1166 : Int × Int × Int × Int) (j1224 : Int × Int) : Option (((List Bool) × (List Bool)) ⊕ (Bool)) := if (!((j1166.1 == j1224.1) && ((j1166.2.1 == j1224.2) && true))) = true then L.zksg.J12 r11 x654 st898 p1150 j1166 true else (ix r11.1.Nodes ((L.zdwa x654 p1150.2).2)).bind fun p1262 => if decide (p1262.2.Low > j1166.2.2.1) = true then L.zksg.J12 r11 x654 st898 p1150 j1166 true else L.zksg.J12 r11 x654 st898 p1150 j1166 (decide (p1262.2.High > j1166.2.2.2))
def L.zksg.J14 (j1334 : Int × Int) : Option (Int × Int) := some (j1334.1, j1334.2)
def L.zksg.J15 (r6 : Network × (List Batch) × (List Product) × (List (List Piece)) × Plan × KS) (x654 : Segment) (p1150 : Nat × Int) (x1269 : Station) (st1301 : Int × Int) (j1340 : Bool) : Option (Int × Int) := if j1340 = true then (L.zwcc r6.1 r6.2.2.2.2.1 ((L.zdwa x654 p1150.2).1)).bind fun r1342 => (L.zqzf x1269 r1342).bind fun r1344 => L.zksg.J14 (wr (st1301.1 + r1344.1), wr (st1301.2 + r1344.1)) else L.zksg.J14 (st1301.1, st1301.2)
def L.zksg.B13 (r6 : Network × (List Batch) × (List Product) × (List (List Piece)) × Plan × KS) (x654 : Segment) (p1150 : Nat × Int) (k1266 : Nat) (x1269 : Station) (st1301 : Int × Int) : Option (Int × Int) := if (x1269.Node == ((L.zdwa x654 p1150.2).1)) = true then (ix r6.2.2.2.2.1.Pumps (k1266 : Int)).bind fun p1347 => L.zksg.J15 r6 x654 p1150 x1269 st1301 p1347.2 else L.zksg.J15 r6 x654 p1150 x1269 st1301 false
def L.zksg.J10 (r6 : Network × (List Batch) × (List Product) × (List (List Piece)) × Plan × KS) (r11 : Pressures × Int) (x654 : Segment) (st898 : (List Bool) × (List Bool)) (p1150 : Nat × Int) (j1166 : Int × Int × Int × Int) : Option (((List Bool) × (List Bool)) ⊕ (Bool)) := (ix r11.1.Nodes ((L.zdwa x654 p1150.2).1)).bind fun p1168 => (forS (L.zksg.B13 r6 x654 p1150) 0 r6.1.Stations (p1168.2.Low, p1168.2.High)).bind fun st1301 => L.zksg.J11 r11 x654 st898 p1150 j1166 (st1301.1, st1301.2)
def L.zksg.J9 (r6 : Network × (List Batch) × (List Product) × (List (List Piece)) × Plan × KS) (r11 : Pressures × Int) (x654 : Segment) (st898 : (List Bool) × (List Bool)) (p1150 : Nat × Int) (j1162 : Int × Int × Int × Int) : Option (((List Bool) × (List Bool)) ⊕ (Bool)) := if decide (p1150.2 < 0) = true then L.zksg.J10 r6 r11 x654 st898 p1150 (j1162.2.2.1, j1162.2.2.2, j1162.1, j1162.2.1) else L.zksg.J10 r6 r11 x654 st898 p1150 (j1162.1, j1162.2.1, j1162.2.2.1, j1162.2.2.2)
def L.zksg.B7 (r6 : Network × (List Batch) × (List Product) × (List (List Piece)) × Plan × KS) (r11 : Pressures × Int) (k651 : Nat) (x654 : Segment) (st898 : (List Bool) × (List Bool)) : Option (((List Bool) × (List Bool)) ⊕ (Bool)) := (ix r11.1.Segments (k651 : Int)).bind fun p1147 => (ix r6.2.2.2.2.1.Rates (k651 : Int)).bind fun p1150 => if (p1150.2 == 0) = true then L.zksg.J8 (st898.1, st898.2) else if decide ((p1147.2.length : Int) < 2) = true then some ((.inr (false))) else (ix p1147.2 0).bind fun p1352 => (ix p1147.2 (wr ((p1147.2.length : Int) - 1))).bind fun p1354 => L.zksg.J9 r6 r11 x654 st898 p1150 (p1352.2.Bounds.Low, p1352.2.Bounds.High, p1354.2.Bounds.Low, p1354.2.Bounds.High)
def L.zksg.J2 (r6 : Network × (List Batch) × (List Product) × (List (List Piece)) × Plan × KS) (r11 : Pressures × Int) (j175 : (List Bool) × (List Bool)) : Option Bool := (forL (L.zksg.B7 r6 r11) 0 r6.1.Segments (j175.1, j175.2)).bind fun o1019 => Sum.elim (fun st898 => L.zksg.J3 r6 r11 (st898.1, st898.2)) (fun d1360 => some d1360) o1019
def L.zksg.J17 (j1550 : (List Bool) × (List Bool)) : Option (((List Bool) × (List Bool)) ⊕ (Bool)) := some (.inl (j1550.1, j1550.2))
def L.zksg.J18 (r11 : Pressures × Int) (x1365 : Port) (st1457 : (List Bool) × (List Bool)) (j1561 : Bool) : Option (((List Bool) × (List Bool)) ⊕ (Bool)) := if j1561 = true then some ((.inr (false))) else (ix st1457.1 x1365.Node).bind fun p1563 => if p1563.2 = true then (ix st1457.2 x1365.Node).bind fun p1566 => if p1566.2 = true then L.zksg.J17 ((st1457.1.set p1563.1 true), (st1457.2.set p1566.1 true)) else (ix r11.1.Nodes x1365.Node).bind fun p1573 => L.zksg.J17 ((st1457.1.set p1563.1 true), (st1457.2.set p1566.1 (p1573.2.High == x1365.Pressure))) else (ix r11.1.Nodes x1365.Node).bind fun p1579 => (ix st1457.2 x1365.Node).bind fun p1581 => if p1581.2 = true then L.zksg.J17 ((st1457.1.set p1563.1 (p1579.2.Low == x1365.Pressure)), (st1457.2.set p1581.1 true)) else L.zksg.J17 ((st1457.1.set p1563.1 (p1579.2.Low == x1365.Pressure)), (st1457.2.set p1581.1 (p1579.2.High == x1365.Pressure)))
def L.zksg.B16 (r6 : Network × (List Batch) × (List Product) × (List (List Piece)) × Plan × KS) (r11 : Pressures × Int) (k1362 : Nat) (x1365 : Port) (st1457 : (List Bool) × (List Bool)) : Option (((List Bool) × (List Bool)) ⊕ (Bool)) := (ix r6.2.2.2.2.1.Ports (k1362 : Int)).bind fun p1554 => if decide (p1554.2 > 0) = true then (ix r11.1.Nodes x1365.Node).bind fun p1592 => if decide (p1592.2.High > x1365.Pressure) = true then L.zksg.J18 r11 x1365 st1457 true else L.zksg.J18 r11 x1365 st1457 (decide (p1592.2.Low > x1365.Pressure)) else L.zksg.J17 (st1457.1, st1457.2)
def L.zksg.J1 (r6 : Network × (List Batch) × (List Product) × (List (List Piece)) × Plan × KS) (r11 : Pressures × Int) (j29 : (List Bool) × (List Bool)) : Option Bool := (forL (L.zksg.B16 r6 r11) 0 r6.1.Ports (j29.1, j29.2)).bind fun o1502 => Sum.elim (fun st1457 => L.zksg.J2 r6 r11 (st1457.1, st1457.2)) (fun d1597 => some d1597) o1502
def L.zksg (l_0 : List Int) : Option Bool := (L.ziti l_0).bind fun r3 => (L.zpdi r3).bind fun r6 => (L.zonc r6.1 r6.2.1 r6.2.2.1 r6.2.2.2.1 r6.2.2.2.2.1).bind fun r11 => if ((r11.2 != 0) || (((r11.1.Nodes.length : Int) != (r6.1.Nodes.length : Int)) || ((r11.1.Segments.length : Int) != (r6.1.Segments.length : Int)))) = true then some false else (mk? (r6.1.Nodes.length : Int) false).bind fun l1598 => (mk? (r6.1.Nodes.length : Int) false).bind fun l1602 => L.zksg.J1 r6 r11 (l1598, l1602)
def L.zhyv.J4 (j118 : Bool) : Option Bool := some j118
def L.zhyv.J5 (j137 : Bool) : Option Bool := some j137
def L.zhyv.J6 (j213 : Unit) : Option Bool := some false
def L.zhyv.J8 (j297 : Bool) : Option (Unit ⊕ (Bool)) := some ((.inr (j297)))
def L.zhyv.B7 (r7 : Network × (List Batch) × (List Product) × (List (List Piece)) × Plan × KS) (r16 : Fault × Int) (k217 : Nat) (x220 : Level) (st246 : Unit) : Option (Unit ⊕ (Bool)) := if (x220.At == r16.1.At) = true then if (r16.1.Kind == 1) = true then (ix r7.1.Segments r16.1.Index).bind fun p299 => (L.zjds p299.2 x220.At).bind fun r301 => if decide (x220.Bounds.High > r301) = true then (L.zusz).bind fun r304 => L.zhyv.J8 r304 else if (r16.1.Kind == 2) = true then if decide (x220.Bounds.Low < r7.1.Vapour) = true then (L.zusz).bind fun r308 => L.zhyv.J8 r308 else L.zhyv.J8 false else L.zhyv.J8 false else if (r16.1.Kind == 2) = true then if decide (x220.Bounds.Low < r7.1.Vapour) = true then (L.zusz).bind fun r312 => L.zhyv.J8 r312 else L.zhyv.J8 false else L.zhyv.J8 false else some (.inl ())
def L.zhyv.J3 (r7 : Network × (List Batch) × (List Product) × (List (List Piece)) × Plan × KS) (r12 : Pressures × Int) (r16 : Fault × Int) (j79 : (List Int) × (List Int)) (j87 : Bool) : Option Bool := (L.zqej r7.1 r12.1 r7.2.2.2.2.1 j79.1).bind fun r89 => (L.zqej r7.1 r12.1 r7.2.2.2.2.1 j79.2).bind fun r93 => if ((r12.2 != 0) || (((r16.2 == 15) != j87) || (((r16.2 == 0) == j87) || (bif j87 then ((!r89.2) || (r89.2 && (!r93.2))) else (r89.2 && (!r93.2)))))) = true then some false else if (!j87) = true then if ((r16.1.Kind == 0) && ((r16.1.Index == 0) && ((r16.1.At == 0) && true))) = true then (L.zusz).bind fun r120 => L.zhyv.J4 r120 else L.zhyv.J4 false else if (r16.1.Kind == 3) = true then if decide (r16.1.Index ≥ 0) = true then if decide (r16.1.Index < (r7.1.Stations.length : Int)) = true then (ix r7.2.2.2.2.1.Pumps r16.1.Index).bind fun p140 => if p140.2 = true then (ix r7.1.Stations r16.1.Index).bind fun p143 => (ix r12.1.Nodes p143.2.Node).bind fun p145 => if decide (p145.2.Low < p143.2.Suction) = true then (L.zusz).bind fun r148 => L.zhyv.J5 r148 else L.zhyv.J5 false else L.zhyv.J5 false else L.zhyv.J5 false else L.zhyv.J5 false else if (decide (r16.1.Index < 0) || decide (r16.1.Index ≥ (r7.1.Segments.length : Int))) = true then some false else (ix r12.1.Segments r16.1.Index).bind fun p215 => (forL (L.zhyv.B7 r7 r16) 0 p215.2 ()).bind fun o270 => Sum.elim (fun st246 => L.zhyv.J6 ()) (fun d316 => some d316) o270
def L.zhyv.J2 (r7 : Network × (List Batch) × (List Product) × (List (List Piece)) × Plan × KS) (r12 : Pressures × Int) (r16 : Fault × Int) (j79 : (List Int) × (List Int)) : Option Bool := (mk? (r7.1.Segments.length : Int) (0 : Int)).bind fun l317 => (L.zqej r7.1 r12.1 r7.2.2.2.2.1 l317).bind fun r321 => L.zhyv.J3 r7 r12 r16 j79 r321.2
def L.zhyv.B9 (more_1 : Int) (k325 : Nat) (st357 : (List Int) × Int × (List Int) × (List Int)) : Option ((List Int) × Int × (List Int) × (List Int)) := (L.zdjb (⟨st357.1, st357.2.1⟩ : KS) 2).bind fun r379 => (L.zdjb r379.2 100000).bind fun r381 => (ix st357.2.2.1 (k325 : Int)).bind fun p383 => (ix (st357.2.2.1.set p383.1 (wr (r379.1 * r381.1))) (k325 : Int)).bind fun p385 => (ix st357.2.2.2 (k325 : Int)).bind fun p387 => some (r381.2.L_, r381.2.At, (st357.2.2.1.set p383.1 (wr (r379.1 * r381.1))), (st357.2.2.2.set p387.1 (wr (p385.2 + (wr (more_1))))))
def L.zhyv.J1 (more_1 : Int) (r7 : Network × (List Batch) × (List Product) × (List (List Piece)) × Plan × KS) (r12 : Pressures × Int) (r16 : Fault × Int) (j27 : (List Int) × (List Int)) : Option Bool := (forJ (L.zhyv.B9 more_1) 0 j27.1.length (r7.2.2.2.2.2.L_, r7.2.2.2.2.2.At, j27.1, j27.2)).bind fun st357 => L.zhyv.J2 r7 r12 r16 (st357.2.2.1, st357.2.2.2)
def L.zhyv (l_0 : List Int) (more_1 : Int) : Option Bool := (L.ziti l_0).bind fun r3 => (L.zpdi r3).bind fun r7 => (L.zonc r7.1 r7.2.1 r7.2.2.1 r7.2.2.2.1 r7.2.2.2.2.1).bind fun r12 => (L.zdbv r7.1 r7.2.1 r7.2.2.1 r7.2.2.2.1 r7.2.2.2.2.1).bind fun r16 => (mk? (r7.1.Segments.length : Int) (0 : Int)).bind fun l391 => (mk? (r7.1.Segments.length : Int) (0 : Int)).bind fun l395 => L.zhyv.J1 more_1 r7 r12 r16 (l391, l395)
def L.zmqm.J2 (j114 : Unit) : Option Bool := some true
def L.zmqm.J4 (j229 : Unit) : Option (Unit ⊕ (Bool)) := some (.inl ())
def L.zmqm.J6 (j270 : Bool) : Option (Unit ⊕ (Bool)) := if j270 = true then some ((.inr (false))) else some (.inl ())
def L.zmqm.B5 (p232 : Nat × (List Level)) (k236 : Nat) (x239 : Level) (st250 : Unit) : Option (Unit ⊕ (Bool)) := (ix p232.2 (k236 : Int)).bind fun p272 => if decide (p272.2.Bounds.Low < x239.Bounds.Low) = true then L.zmqm.J6 true else L.zmqm.J6 (decide (p272.2.Bounds.High < x239.Bounds.High))
def L.zmqm.B3 (y_1 : Pressures) (k116 : Nat) (x119 : List Level) (st156 : Unit) : Option (Unit ⊕ (Bool)) := (ix y_1.Segments (k116 : Int)).bind fun p232 => if ((x119.length : Int) != (p232.2.length : Int)) = true then some ((.inr (false))) else (forL (L.zmqm.B5 p232) 0 x119 ()).bind fun o259 => Sum.elim (fun st250 => L.zmqm.J4 ()) (fun d277 => some ((.inr (d277)))) o259
def L.zmqm.J1 (x_0 : Pressures) (y_1 : Pressures) (j35 : Unit) : Option Bool := (forL (L.zmqm.B3 y_1) 0 x_0.Segments ()).bind fun o191 => Sum.elim (fun st156 => L.zmqm.J2 ()) (fun d280 => some d280) o191
def L.zmqm.J8 (j316 : Bool) : Option (Unit ⊕ (Bool)) := if j316 = true then some ((.inr (false))) else some (.inl ())
def L.zmqm.B7 (y_1 : Pressures) (k282 : Nat) (x285 : Bounds) (st296 : Unit) : Option (Unit ⊕ (Bool)) := (ix y_1.Nodes (k282 : Int)).bind fun p318 => if decide (p318.2.Low < x285.Low) = true then L.zmqm.J8 true else L.zmqm.J8 (decide (p318.2.High < x285.High))
def L.zmqm (x_0 : Pressures) (y_1 : Pressures) : Option Bool := if (((x_0.Nodes.length : Int) != (y_1.Nodes.length : Int)) || ((x_0.Segments.length : Int) != (y_1.Segments.length : Int))) = true then some false else (forL (L.zmqm.B7 y_1) 0 x_0.Nodes ()).bind fun o305 => Sum.elim (fun st296 => L.zmqm.J1 x_0 y_1 ()) (fun d323 => some d323) o305
def L.zixh.J3 (j65 : Bool) : Option Bool := some j65
def L.zixh.J2 (which_1 : Int) (more_2 : Int) (r6 : Network × (List Batch) × (List Product) × (List (List Piece)) × Plan × KS) (r11 : Pressures × Int) (j30 : List Bool) : Option Bool := (L.zonc r6.1 r6.2.1 r6.2.2.1 r6.2.2.2.1 (⟨r6.2.2.2.2.1.Rates, r6.2.2.2.2.1.Ports, j30⟩ : Plan)).bind fun r32 => (app? ([] : List Port) r6.1.Ports).bind fun l39 => (rem? (wr (which_1)) (l39.length : Int)).bind fun x43 => (ix l39 x43).bind fun p46 => (L.zonc (⟨r6.1.Nodes, r6.1.Segments, (l39.set p46.1 (⟨p46.2.Name, p46.2.Node, (min 100000000 (wr (p46.2.Pressure + (wr (more_2)))))⟩ : Port)), r6.1.Stations, r6.1.Vapour, r6.1.Settle⟩ : Network) r6.2.1 r6.2.2.1 r6.2.2.2.1 r6.2.2.2.2.1).bind fun r51 => if (r11.2 == 0) = true then if (r32.2 == 0) = true then if (r51.2 == 0) = true then (L.zmqm r11.1 r32.1).bind fun r69 => if r69 = true then (L.zmqm r11.1 r51.1).bind fun r72 => if r72 = true then (L.zusz).bind fun r75 => L.zixh.J3 r75 else L.zixh.J3 false else L.zixh.J3 false else L.zixh.J3 false else L.zixh.J3 false else L.zixh.J3 false
def L.zixh.J1 (which_1 : Int) (more_2 : Int) (r6 : Network × (List Batch) × (List Product) × (List (List Piece)) × Plan × KS) (r11 : Pressures × Int) (j19 : List Bool) : Option Bool := if decide ((j19.length : Int) > 0) = true then (rem? (wr (which_1)) (j19.length : Int)).bind fun x79 => (ix j19 x79).bind fun p81 => L.zixh.J2 which_1 more_2 r6 r11 (j19.set p81.1 true) else L.zixh.J2 which_1 more_2 r6 r11 j19
def L.zixh (l_0 : List Int) (which_1 : Int) (more_2 : Int) : Option Bool := (L.ziti l_0).bind fun r3 => (L.zpdi r3).bind fun r6 => (L.zonc r6.1 r6.2.1 r6.2.2.1 r6.2.2.2.1 r6.2.2.2.2.1).bind fun r11 => (app? ([] : List Bool) r6.2.2.2.2.1.Pumps).bind fun l86 => L.zixh.J1 which_1 more_2 r6 r11 l86
def L.zrdf (s_0 : Station) (b_1 : Bounds) (rate_2 : Int) : Option (Bounds × Int) := (L.zqzf s_0 rate_2).bind fun r6 => if (r6.2 != 0) = true then some ((⟨0, 0⟩ : Bounds), r6.2) else if (!(L.znpg b_1)) = true then some ((⟨0, 0⟩ : Bounds), 1) else some ((⟨wr (b_1.Low + r6.1), wr (b_1.High + r6.1)⟩ : Bounds), 0)
def L.zlrb.J1 (j26 : Unit) : Option Bool := some true
def L.zlrb.B2 (b_1 : List Level) (k28 : Nat) (x31 : Level) (st40 : Unit) : Option (Unit ⊕ (Bool)) := (ix b_1 (k28 : Int)).bind fun p55 => if (!((x31.At == p55.2.At) && (((x31.Bounds.Low == p55.2.Bounds.Low) && ((x31.Bounds.High == p55.2.Bounds.High) && true)) && true))) = true then some ((.inr (false))) else some (.inl ())
def L.zlrb (a_0 : List Level) (b_1 : List Level) : Option Bool := if ((a_0.length : Int) != (b_1.length : Int)) = true then some false else (forL (L.zlrb.B2 b_1) 0 a_0 ()).bind fun o47 => Sum.elim (fun st40 => L.zlrb.J1 ()) (fun d60 => some d60) o47
def L.zocg.J2 (j101 : Bool) : Option Bool := some j101
def L.zocg.J1 (r18 : Segment × KS) (r25 : (List Product) × KS) (r29 : (List Batch) × KS) (r33 : (List Piece) × KS) (x38 : Int) (r46 : Pressures × Int) (j59 : Int × Int) : Option Bool := (ix ([r33.1] : List (List Piece)) 0).bind fun p61 => (L.zwrr (⟨r18.1.Name, 0, 1, r18.1.Capacity, r18.1.Resist, r18.1.Wave, r18.1.Points⟩ : Segment) p61.2 r29.1 r25.1 (wr (1 + x38)) (⟨j59.1, j59.2⟩ : Bounds)).bind fun r63 => if ((r46.2 != 0) || ((r63.2 != 0) || (((r46.1.Segments.length : Int) != 1) || ((r46.1.Nodes.length : Int) != 2)))) = true then some false else (ix r46.1.Segments 0).bind fun p102 => (L.zlrb p102.2 r63.1).bind fun r104 => if r104 = true then (ix r46.1.Nodes 1).bind fun p107 => (ix r63.1 (wr ((r63.1.length : Int) - 1))).bind fun p109 => if ((p107.2.Low == p109.2.Bounds.Low) && ((p107.2.High == p109.2.Bounds.High) && true)) = true then (ix r46.1.Known 0).bind fun p112 => if p112.2 = true then (ix r46.1.Known 1).bind fun p115 => if p115.2 = true then (L.zusz).bind fun r118 => L.zocg.J2 r118 else L.zocg.J2 false else L.zocg.J2 false else L.zocg.J2 false else L.zocg.J2 false
def L.zocg (l_0 : List Int) (rate_1 : Int) (pump_2 : Bool) : Option Bool := (L.ziti l_0).bind fun r3 => (L.zsex r3 0 0 1).bind fun r18 => (L.zexx r18.2).bind fun r25 => (L.ziyq r25.2 3 (r25.1.length : Int)).bind fun r29 => (L.zdti r29.2 r18.1.Capacity 3).bind fun r33 => (rem? (wr (rate_1)) (min 1000 r18.1.Capacity)).bind fun x38 => (L.zonc (⟨([(⟨#[97]⟩ : ByteArray), (⟨#[98]⟩ : ByteArray)] : List ByteArray), ([(⟨r18.1.Name, 0, 1, r18.1.Capacity, r18.1.Resist, r18.1.Wave, r18.1.Points⟩ : Segment)] : List Segment), ([(⟨(⟨#[105, 110]⟩ : ByteArray), 0, 300000⟩ : Port), (⟨(⟨#[111, 117, 116]⟩ : ByteArray), 1, 0⟩ : Port)] : List Port), ([(⟨(⟨#[112]⟩ : ByteArray), 0, 500000, 200, 100000⟩ : Station)] : List Station), 50000, 10⟩ : Network) r29.1 r25.1 ([r33.1] : List (List Piece)) (⟨([wr (1 + x38)] : List Int), ([wr (1 + x38), wr (0 - (wr (1 + x38)))] : List Int), ([pump_2] : List Bool)⟩ : Plan)).bind fun r46 => (ix ([(⟨(⟨#[105, 110]⟩ : ByteArray), 0, 300000⟩ : Port), (⟨(⟨#[111, 117, 116]⟩ : ByteArray), 1, 0⟩ : Port)] : List Port) 0).bind fun p50 => if pump_2 = true then (ix ([(⟨(⟨#[112]⟩ : ByteArray), 0, 500000, 200, 100000⟩ : Station)] : List Station) 0).bind fun p130 => (L.zrdf p130.2 (⟨p50.2.Pressure, p50.2.Pressure⟩ : Bounds) (wr (1 + x38))).bind fun r132 => L.zocg.J1 r18 r25 r29 r33 x38 r46 (r132.1.Low, r132.1.High) else L.zocg.J1 r18 r25 r29 r33 x38 r46 (p50.2.Pressure, p50.2.Pressure)
end Go.Proofs.YtehbcbedipkifaaGreatDoor
