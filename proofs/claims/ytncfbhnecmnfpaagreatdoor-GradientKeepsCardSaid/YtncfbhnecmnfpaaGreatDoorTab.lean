/- The table of the types that the program uses, held against the program. No condition. -/
import Derived.Test.YtncfbhnecmnfpaaGreatDoorBwEq
import Derived.Test.YtncfbhnecmnfpaaGreatDoorRows
import Derived.KernelRfl
namespace Go.Aw
set_option linter.unusedVariables false
set_option linter.unusedSimpArgs false

inductive TT where
  | nil
  | node (l : TT) (k : Nat) (x : TI) (r : TT)

def getTT : TT → Nat → Option TI
  | .nil, _ => none
  | .node l k x r, i => bif Nat.beq k i then some x else bif Nat.ble k i then getTT r i else getTT l i

def allTT (P : Program) : TT → Prop
  | .nil => True
  | .node l k x r => allTT P l ∧ tiOf P k = some x ∧ allTT P r

theorem getTT_ok {P : Program} : ∀ {t : TT} {i : Nat} {x : TI}, allTT P t → getTT t i = some x → tiOf P i = some x
  | .nil, _, _, _, h => by simp [getTT] at h
  | .node l k y r, i, x, ha, h => by
    simp only [getTT] at h
    cases hb : Nat.beq k i with
    | true =>
      have := Nat.eq_of_beq_eq_true hb
      simp only [hb, cond_true, Option.some.injEq] at h
      subst h this; exact ha.2.1
    | false =>
      simp only [hb, cond_false] at h
      cases hc : Nat.ble k i with
      | true => simp only [hc, cond_true] at h; exact getTT_ok ha.2.2 h
      | false => simp only [hc, cond_false] at h; exact getTT_ok ha.1 h

end Go.Aw

namespace Go.Proofs.YtncfbhnecmnfpaaGreatDoor
open Go.Aw

@[reducible] def Tryz.x3 : TI := { kind := .int .i64, size := 1, bytes := 8, zero := some (.int .i64 0) }
@[reducible] def Tryz.x4 : TI := { kind := .bool, size := 1, bytes := 1, zero := some (.bool false) }
@[reducible] def Tryz.x5 : TI := { kind := .int .u8, size := 1, bytes := 1, zero := some (.int .u8 0) }
@[reducible] def Tryz.x9 : TI := { kind := .string, size := 1, bytes := 16, zero := some (.string ⟨#[]⟩) }
@[reducible] def Tryz.x22 : TI := { kind := .slice 3, size := 1, bytes := 24, zero := some (.slice none 0 0) }
@[reducible] def Tryz.x23 : TI := { kind := .int .i16, size := 1, bytes := 2, zero := some (.int .i16 0) }
@[reducible] def Tryz.x24 : TI := { kind := .int .u16, size := 1, bytes := 2, zero := some (.int .u16 0) }
@[reducible] def Tryz.x27 : TI := { kind := .slice 47, size := 1, bytes := 24, zero := some (.slice none 0 0) }
@[reducible] def Tryz.x29 : TI := { kind := .struct [(0, 9), (1, 3), (2, 3), (3, 3), (4, 3), (5, 3), (6, 27)], size := 7, bytes := 80, zero := some (.agg #[.string ⟨#[]⟩, .int .i64 0, .int .i64 0, .int .i64 0, .int .i64 0, .int .i64 0, .slice none 0 0]) }
@[reducible] def Tryz.x30 : TI := { kind := .slice 100, size := 1, bytes := 24, zero := some (.slice none 0 0) }
@[reducible] def Tryz.x31 : TI := { kind := .slice 116, size := 1, bytes := 24, zero := some (.slice none 0 0) }
@[reducible] def Tryz.x32 : TI := { kind := .slice 58, size := 1, bytes := 24, zero := some (.slice none 0 0) }
@[reducible] def Tryz.x36 : TI := { kind := .struct [(0, 3), (1, 3)], size := 2, bytes := 16, zero := some (.agg #[.int .i64 0, .int .i64 0]) }
@[reducible] def Tryz.x38 : TI := { kind := .slice 43, size := 1, bytes := 24, zero := some (.slice none 0 0) }
@[reducible] def Tryz.x39 : TI := { kind := .int .i64, size := 1, bytes := 8, zero := some (.int .i64 0) }
@[reducible] def Tryz.x43 : TI := { kind := .struct [(0, 3), (1, 36)], size := 3, bytes := 24, zero := some (.agg #[.int .i64 0, .int .i64 0, .int .i64 0]) }
@[reducible] def Tryz.x47 : TI := { kind := .struct [(0, 3), (1, 3), (2, 3)], size := 3, bytes := 24, zero := some (.agg #[.int .i64 0, .int .i64 0, .int .i64 0]) }
@[reducible] def Tryz.x58 : TI := { kind := .struct [(0, 9), (1, 3), (2, 3), (3, 3), (4, 3)], size := 5, bytes := 48, zero := some (.agg #[.string ⟨#[]⟩, .int .i64 0, .int .i64 0, .int .i64 0, .int .i64 0]) }
@[reducible] def Tryz.x60 : TI := { kind := .slice 29, size := 1, bytes := 24, zero := some (.slice none 0 0) }
@[reducible] def Tryz.x62 : TI := { kind := .slice 30, size := 1, bytes := 24, zero := some (.slice none 0 0) }
@[reducible] def Tryz.x66 : TI := { kind := .slice 36, size := 1, bytes := 24, zero := some (.slice none 0 0) }
@[reducible] def Tryz.x68 : TI := { kind := .slice 38, size := 1, bytes := 24, zero := some (.slice none 0 0) }
@[reducible] def Tryz.x70 : TI := { kind := .slice 74, size := 1, bytes := 24, zero := some (.slice none 0 0) }
@[reducible] def Tryz.x74 : TI := { kind := .struct [(0, 3), (1, 3), (2, 3)], size := 3, bytes := 24, zero := some (.agg #[.int .i64 0, .int .i64 0, .int .i64 0]) }
@[reducible] def Tryz.x78 : TI := { kind := .struct [(0, 22), (1, 3)], size := 2, bytes := 32, zero := some (.agg #[.slice none 0 0, .int .i64 0]) }
@[reducible] def Tryz.x88 : TI := { kind := .slice 94, size := 1, bytes := 24, zero := some (.slice none 0 0) }
@[reducible] def Tryz.x94 : TI := { kind := .struct [(0, 3), (1, 3), (2, 3), (3, 58)], size := 8, bytes := 72, zero := some (.agg #[.int .i64 0, .int .i64 0, .int .i64 0, .string ⟨#[]⟩, .int .i64 0, .int .i64 0, .int .i64 0, .int .i64 0]) }
@[reducible] def Tryz.x100 : TI := { kind := .struct [(0, 3), (1, 3)], size := 2, bytes := 16, zero := some (.agg #[.int .i64 0, .int .i64 0]) }
@[reducible] def Tryz.x110 : TI := { kind := .slice 9, size := 1, bytes := 24, zero := some (.slice none 0 0) }
@[reducible] def Tryz.x116 : TI := { kind := .struct [(0, 3), (1, 9), (2, 3), (3, 3)], size := 4, bytes := 40, zero := some (.agg #[.int .i64 0, .string ⟨#[]⟩, .int .i64 0, .int .i64 0]) }
@[reducible] def Tryz.x123 : TI := { kind := .slice 152, size := 1, bytes := 24, zero := some (.slice none 0 0) }
@[reducible] def Tryz.x124 : TI := { kind := .slice 150, size := 1, bytes := 24, zero := some (.slice none 0 0) }
@[reducible] def Tryz.x126 : TI := { kind := .struct [(0, 110), (1, 60), (2, 123), (3, 124), (4, 3), (5, 3)], size := 6, bytes := 112, zero := some (.agg #[.slice none 0 0, .slice none 0 0, .slice none 0 0, .slice none 0 0, .int .i64 0, .int .i64 0]) }
@[reducible] def Tryz.x128 : TI := { kind := .slice 5, size := 1, bytes := 24, zero := some (.slice none 0 0) }
@[reducible] def Tryz.x130 : TI := { kind := .array 4 3, size := 4, bytes := 32, zero := some (.agg #[.int .i64 0, .int .i64 0, .int .i64 0, .int .i64 0]) }
@[reducible] def Tryz.x133 : TI := { kind := .struct [(0, 3), (1, 3)], size := 2, bytes := 16, zero := some (.agg #[.int .i64 0, .int .i64 0]) }
@[reducible] def Tryz.x134 : TI := { kind := .array 4 133, size := 8, bytes := 64, zero := some (.agg #[.int .i64 0, .int .i64 0, .int .i64 0, .int .i64 0, .int .i64 0, .int .i64 0, .int .i64 0, .int .i64 0]) }
@[reducible] def Tryz.x139 : TI := { kind := .int .u64, size := 1, bytes := 8, zero := some (.int .u64 0) }
@[reducible] def Tryz.x144 : TI := { kind := .array 4 110, size := 4, bytes := 96, zero := some (.agg #[.slice none 0 0, .slice none 0 0, .slice none 0 0, .slice none 0 0]) }
@[reducible] def Tryz.x150 : TI := { kind := .struct [(0, 9), (1, 3), (2, 3), (3, 3), (4, 3)], size := 5, bytes := 48, zero := some (.agg #[.string ⟨#[]⟩, .int .i64 0, .int .i64 0, .int .i64 0, .int .i64 0]) }
@[reducible] def Tryz.x152 : TI := { kind := .struct [(0, 9), (1, 3), (2, 3)], size := 3, bytes := 32, zero := some (.agg #[.string ⟨#[]⟩, .int .i64 0, .int .i64 0]) }
@[reducible] def Tryz.x155 : TI := { kind := .int .i64, size := 1, bytes := 8, zero := some (.int .i64 0) }
@[reducible] def Tryz.x163 : TI := { kind := .int .u32, size := 1, bytes := 4, zero := some (.int .u32 0) }
@[reducible] def Tryz.x165 : TI := { kind := .int .u64, size := 1, bytes := 8, zero := some (.int .u64 0) }
@[reducible] def Tryz.x175 : TI := { kind := .int .u64, size := 1, bytes := 8, zero := some (.int .u64 0) }

def Tryz.tabT : TT := (.node (.node (.node (.node (.node (.node .nil 3 Tryz.x3 .nil) 4 Tryz.x4 .nil) 5 Tryz.x5 (.node (.node .nil 9 Tryz.x9 .nil) 22 Tryz.x22 .nil)) 23 Tryz.x23 (.node (.node (.node .nil 24 Tryz.x24 .nil) 27 Tryz.x27 .nil) 29 Tryz.x29 (.node (.node .nil 30 Tryz.x30 .nil) 31 Tryz.x31 .nil))) 32 Tryz.x32 (.node (.node (.node (.node .nil 36 Tryz.x36 .nil) 38 Tryz.x38 .nil) 39 Tryz.x39 (.node (.node .nil 43 Tryz.x43 .nil) 47 Tryz.x47 .nil)) 58 Tryz.x58 (.node (.node (.node .nil 60 Tryz.x60 .nil) 62 Tryz.x62 .nil) 66 Tryz.x66 (.node .nil 68 Tryz.x68 .nil)))) 70 Tryz.x70 (.node (.node (.node (.node (.node .nil 74 Tryz.x74 .nil) 78 Tryz.x78 .nil) 88 Tryz.x88 (.node (.node .nil 94 Tryz.x94 .nil) 100 Tryz.x100 .nil)) 110 Tryz.x110 (.node (.node (.node .nil 116 Tryz.x116 .nil) 123 Tryz.x123 .nil) 124 Tryz.x124 (.node (.node .nil 126 Tryz.x126 .nil) 128 Tryz.x128 .nil))) 130 Tryz.x130 (.node (.node (.node (.node .nil 133 Tryz.x133 .nil) 134 Tryz.x134 .nil) 139 Tryz.x139 (.node (.node .nil 144 Tryz.x144 .nil) 150 Tryz.x150 .nil)) 152 Tryz.x152 (.node (.node (.node .nil 155 Tryz.x155 .nil) 163 Tryz.x163 .nil) 165 Tryz.x165 (.node .nil 175 Tryz.x175 .nil)))))

set_option maxRecDepth 100000 in
theorem Tryz.ti3 : tiOf Tryz.prog 3 = some { kind := .int .i64, size := 1, bytes := 8, zero := some (.int .i64 0) } := by kernel_rfl
set_option maxRecDepth 100000 in
theorem Tryz.ti4 : tiOf Tryz.prog 4 = some { kind := .bool, size := 1, bytes := 1, zero := some (.bool false) } := by kernel_rfl
set_option maxRecDepth 100000 in
theorem Tryz.ti5 : tiOf Tryz.prog 5 = some { kind := .int .u8, size := 1, bytes := 1, zero := some (.int .u8 0) } := by kernel_rfl
set_option maxRecDepth 100000 in
theorem Tryz.ti9 : tiOf Tryz.prog 9 = some { kind := .string, size := 1, bytes := 16, zero := some (.string ⟨#[]⟩) } := by kernel_rfl
set_option maxRecDepth 100000 in
theorem Tryz.ti22 : tiOf Tryz.prog 22 = some { kind := .slice 3, size := 1, bytes := 24, zero := some (.slice none 0 0) } := by kernel_rfl
set_option maxRecDepth 100000 in
theorem Tryz.ti23 : tiOf Tryz.prog 23 = some { kind := .int .i16, size := 1, bytes := 2, zero := some (.int .i16 0) } := by kernel_rfl
set_option maxRecDepth 100000 in
theorem Tryz.ti24 : tiOf Tryz.prog 24 = some { kind := .int .u16, size := 1, bytes := 2, zero := some (.int .u16 0) } := by kernel_rfl
set_option maxRecDepth 100000 in
theorem Tryz.ti27 : tiOf Tryz.prog 27 = some { kind := .slice 47, size := 1, bytes := 24, zero := some (.slice none 0 0) } := by kernel_rfl
set_option maxRecDepth 100000 in
theorem Tryz.ti29 : tiOf Tryz.prog 29 = some { kind := .struct [(0, 9), (1, 3), (2, 3), (3, 3), (4, 3), (5, 3), (6, 27)], size := 7, bytes := 80, zero := some (.agg #[.string ⟨#[]⟩, .int .i64 0, .int .i64 0, .int .i64 0, .int .i64 0, .int .i64 0, .slice none 0 0]) } := by kernel_rfl
set_option maxRecDepth 100000 in
theorem Tryz.ti30 : tiOf Tryz.prog 30 = some { kind := .slice 100, size := 1, bytes := 24, zero := some (.slice none 0 0) } := by kernel_rfl
set_option maxRecDepth 100000 in
theorem Tryz.ti31 : tiOf Tryz.prog 31 = some { kind := .slice 116, size := 1, bytes := 24, zero := some (.slice none 0 0) } := by kernel_rfl
set_option maxRecDepth 100000 in
theorem Tryz.ti32 : tiOf Tryz.prog 32 = some { kind := .slice 58, size := 1, bytes := 24, zero := some (.slice none 0 0) } := by kernel_rfl
set_option maxRecDepth 100000 in
theorem Tryz.ti36 : tiOf Tryz.prog 36 = some { kind := .struct [(0, 3), (1, 3)], size := 2, bytes := 16, zero := some (.agg #[.int .i64 0, .int .i64 0]) } := by kernel_rfl
set_option maxRecDepth 100000 in
theorem Tryz.ti38 : tiOf Tryz.prog 38 = some { kind := .slice 43, size := 1, bytes := 24, zero := some (.slice none 0 0) } := by kernel_rfl
set_option maxRecDepth 100000 in
theorem Tryz.ti39 : tiOf Tryz.prog 39 = some { kind := .int .i64, size := 1, bytes := 8, zero := some (.int .i64 0) } := by kernel_rfl
set_option maxRecDepth 100000 in
theorem Tryz.ti43 : tiOf Tryz.prog 43 = some { kind := .struct [(0, 3), (1, 36)], size := 3, bytes := 24, zero := some (.agg #[.int .i64 0, .int .i64 0, .int .i64 0]) } := by kernel_rfl
set_option maxRecDepth 100000 in
theorem Tryz.ti47 : tiOf Tryz.prog 47 = some { kind := .struct [(0, 3), (1, 3), (2, 3)], size := 3, bytes := 24, zero := some (.agg #[.int .i64 0, .int .i64 0, .int .i64 0]) } := by kernel_rfl
set_option maxRecDepth 100000 in
theorem Tryz.ti58 : tiOf Tryz.prog 58 = some { kind := .struct [(0, 9), (1, 3), (2, 3), (3, 3), (4, 3)], size := 5, bytes := 48, zero := some (.agg #[.string ⟨#[]⟩, .int .i64 0, .int .i64 0, .int .i64 0, .int .i64 0]) } := by kernel_rfl
set_option maxRecDepth 100000 in
theorem Tryz.ti60 : tiOf Tryz.prog 60 = some { kind := .slice 29, size := 1, bytes := 24, zero := some (.slice none 0 0) } := by kernel_rfl
set_option maxRecDepth 100000 in
theorem Tryz.ti62 : tiOf Tryz.prog 62 = some { kind := .slice 30, size := 1, bytes := 24, zero := some (.slice none 0 0) } := by kernel_rfl
set_option maxRecDepth 100000 in
theorem Tryz.ti66 : tiOf Tryz.prog 66 = some { kind := .slice 36, size := 1, bytes := 24, zero := some (.slice none 0 0) } := by kernel_rfl
set_option maxRecDepth 100000 in
theorem Tryz.ti68 : tiOf Tryz.prog 68 = some { kind := .slice 38, size := 1, bytes := 24, zero := some (.slice none 0 0) } := by kernel_rfl
set_option maxRecDepth 100000 in
theorem Tryz.ti70 : tiOf Tryz.prog 70 = some { kind := .slice 74, size := 1, bytes := 24, zero := some (.slice none 0 0) } := by kernel_rfl
set_option maxRecDepth 100000 in
theorem Tryz.ti74 : tiOf Tryz.prog 74 = some { kind := .struct [(0, 3), (1, 3), (2, 3)], size := 3, bytes := 24, zero := some (.agg #[.int .i64 0, .int .i64 0, .int .i64 0]) } := by kernel_rfl
set_option maxRecDepth 100000 in
theorem Tryz.ti78 : tiOf Tryz.prog 78 = some { kind := .struct [(0, 22), (1, 3)], size := 2, bytes := 32, zero := some (.agg #[.slice none 0 0, .int .i64 0]) } := by kernel_rfl
set_option maxRecDepth 100000 in
theorem Tryz.ti88 : tiOf Tryz.prog 88 = some { kind := .slice 94, size := 1, bytes := 24, zero := some (.slice none 0 0) } := by kernel_rfl
set_option maxRecDepth 100000 in
theorem Tryz.ti94 : tiOf Tryz.prog 94 = some { kind := .struct [(0, 3), (1, 3), (2, 3), (3, 58)], size := 8, bytes := 72, zero := some (.agg #[.int .i64 0, .int .i64 0, .int .i64 0, .string ⟨#[]⟩, .int .i64 0, .int .i64 0, .int .i64 0, .int .i64 0]) } := by kernel_rfl
set_option maxRecDepth 100000 in
theorem Tryz.ti100 : tiOf Tryz.prog 100 = some { kind := .struct [(0, 3), (1, 3)], size := 2, bytes := 16, zero := some (.agg #[.int .i64 0, .int .i64 0]) } := by kernel_rfl
set_option maxRecDepth 100000 in
theorem Tryz.ti110 : tiOf Tryz.prog 110 = some { kind := .slice 9, size := 1, bytes := 24, zero := some (.slice none 0 0) } := by kernel_rfl
set_option maxRecDepth 100000 in
theorem Tryz.ti116 : tiOf Tryz.prog 116 = some { kind := .struct [(0, 3), (1, 9), (2, 3), (3, 3)], size := 4, bytes := 40, zero := some (.agg #[.int .i64 0, .string ⟨#[]⟩, .int .i64 0, .int .i64 0]) } := by kernel_rfl
set_option maxRecDepth 100000 in
theorem Tryz.ti123 : tiOf Tryz.prog 123 = some { kind := .slice 152, size := 1, bytes := 24, zero := some (.slice none 0 0) } := by kernel_rfl
set_option maxRecDepth 100000 in
theorem Tryz.ti124 : tiOf Tryz.prog 124 = some { kind := .slice 150, size := 1, bytes := 24, zero := some (.slice none 0 0) } := by kernel_rfl
set_option maxRecDepth 100000 in
theorem Tryz.ti126 : tiOf Tryz.prog 126 = some { kind := .struct [(0, 110), (1, 60), (2, 123), (3, 124), (4, 3), (5, 3)], size := 6, bytes := 112, zero := some (.agg #[.slice none 0 0, .slice none 0 0, .slice none 0 0, .slice none 0 0, .int .i64 0, .int .i64 0]) } := by kernel_rfl
set_option maxRecDepth 100000 in
theorem Tryz.ti128 : tiOf Tryz.prog 128 = some { kind := .slice 5, size := 1, bytes := 24, zero := some (.slice none 0 0) } := by kernel_rfl
set_option maxRecDepth 100000 in
theorem Tryz.ti130 : tiOf Tryz.prog 130 = some { kind := .array 4 3, size := 4, bytes := 32, zero := some (.agg #[.int .i64 0, .int .i64 0, .int .i64 0, .int .i64 0]) } := by kernel_rfl
set_option maxRecDepth 100000 in
theorem Tryz.ti133 : tiOf Tryz.prog 133 = some { kind := .struct [(0, 3), (1, 3)], size := 2, bytes := 16, zero := some (.agg #[.int .i64 0, .int .i64 0]) } := by kernel_rfl
set_option maxRecDepth 100000 in
theorem Tryz.ti134 : tiOf Tryz.prog 134 = some { kind := .array 4 133, size := 8, bytes := 64, zero := some (.agg #[.int .i64 0, .int .i64 0, .int .i64 0, .int .i64 0, .int .i64 0, .int .i64 0, .int .i64 0, .int .i64 0]) } := by kernel_rfl
set_option maxRecDepth 100000 in
theorem Tryz.ti139 : tiOf Tryz.prog 139 = some { kind := .int .u64, size := 1, bytes := 8, zero := some (.int .u64 0) } := by kernel_rfl
set_option maxRecDepth 100000 in
theorem Tryz.ti144 : tiOf Tryz.prog 144 = some { kind := .array 4 110, size := 4, bytes := 96, zero := some (.agg #[.slice none 0 0, .slice none 0 0, .slice none 0 0, .slice none 0 0]) } := by kernel_rfl
set_option maxRecDepth 100000 in
theorem Tryz.ti150 : tiOf Tryz.prog 150 = some { kind := .struct [(0, 9), (1, 3), (2, 3), (3, 3), (4, 3)], size := 5, bytes := 48, zero := some (.agg #[.string ⟨#[]⟩, .int .i64 0, .int .i64 0, .int .i64 0, .int .i64 0]) } := by kernel_rfl
set_option maxRecDepth 100000 in
theorem Tryz.ti152 : tiOf Tryz.prog 152 = some { kind := .struct [(0, 9), (1, 3), (2, 3)], size := 3, bytes := 32, zero := some (.agg #[.string ⟨#[]⟩, .int .i64 0, .int .i64 0]) } := by kernel_rfl
set_option maxRecDepth 100000 in
theorem Tryz.ti155 : tiOf Tryz.prog 155 = some { kind := .int .i64, size := 1, bytes := 8, zero := some (.int .i64 0) } := by kernel_rfl
set_option maxRecDepth 100000 in
theorem Tryz.ti163 : tiOf Tryz.prog 163 = some { kind := .int .u32, size := 1, bytes := 4, zero := some (.int .u32 0) } := by kernel_rfl
set_option maxRecDepth 100000 in
theorem Tryz.ti165 : tiOf Tryz.prog 165 = some { kind := .int .u64, size := 1, bytes := 8, zero := some (.int .u64 0) } := by kernel_rfl
set_option maxRecDepth 100000 in
theorem Tryz.ti175 : tiOf Tryz.prog 175 = some { kind := .int .u64, size := 1, bytes := 8, zero := some (.int .u64 0) } := by kernel_rfl

set_option maxRecDepth 100000 in
theorem Tryz.tabAll : allTT Tryz.prog Tryz.tabT :=
  ⟨⟨⟨⟨⟨⟨trivial, Tryz.ti3, trivial⟩, Tryz.ti4, trivial⟩, Tryz.ti5, ⟨⟨trivial, Tryz.ti9, trivial⟩, Tryz.ti22, trivial⟩⟩, Tryz.ti23, ⟨⟨⟨trivial, Tryz.ti24, trivial⟩, Tryz.ti27, trivial⟩, Tryz.ti29, ⟨⟨trivial, Tryz.ti30, trivial⟩, Tryz.ti31, trivial⟩⟩⟩, Tryz.ti32, ⟨⟨⟨⟨trivial, Tryz.ti36, trivial⟩, Tryz.ti38, trivial⟩, Tryz.ti39, ⟨⟨trivial, Tryz.ti43, trivial⟩, Tryz.ti47, trivial⟩⟩, Tryz.ti58, ⟨⟨⟨trivial, Tryz.ti60, trivial⟩, Tryz.ti62, trivial⟩, Tryz.ti66, ⟨trivial, Tryz.ti68, trivial⟩⟩⟩⟩, Tryz.ti70, ⟨⟨⟨⟨⟨trivial, Tryz.ti74, trivial⟩, Tryz.ti78, trivial⟩, Tryz.ti88, ⟨⟨trivial, Tryz.ti94, trivial⟩, Tryz.ti100, trivial⟩⟩, Tryz.ti110, ⟨⟨⟨trivial, Tryz.ti116, trivial⟩, Tryz.ti123, trivial⟩, Tryz.ti124, ⟨⟨trivial, Tryz.ti126, trivial⟩, Tryz.ti128, trivial⟩⟩⟩, Tryz.ti130, ⟨⟨⟨⟨trivial, Tryz.ti133, trivial⟩, Tryz.ti134, trivial⟩, Tryz.ti139, ⟨⟨trivial, Tryz.ti144, trivial⟩, Tryz.ti150, trivial⟩⟩, Tryz.ti152, ⟨⟨⟨trivial, Tryz.ti155, trivial⟩, Tryz.ti163, trivial⟩, Tryz.ti165, ⟨trivial, Tryz.ti175, trivial⟩⟩⟩⟩⟩

theorem Tryz.mixed : Tryz.prog.follows .mixedOrders = true := by kernel_rfl

theorem Tryz.tabOk (t : Nat) (i : TI) (h : getTT Tryz.tabT t = some i) : tiOf Tryz.prog t = some i := getTT_ok Tryz.tabAll h

noncomputable def Tryz.env : Env := ⟨Tryz.prog, getTT Tryz.tabT, Tryz.tabOk, Tryz.mixed⟩

set_option maxRecDepth 100000 in
theorem Tryz.bld29 : Bld Tryz.env 29 [(0, 1), (1, 1), (2, 1), (3, 1), (4, 1), (5, 1), (6, 1)] [.v (.string ⟨#[]⟩), .v (.int .i64 0), .v (.int .i64 0), .v (.int .i64 0), .v (.int .i64 0), .v (.int .i64 0), .v (.slice none 0 0)] := ⟨⟨_, _, _, rfl, rfl, rfl, rfl, rfl, rfl, rfl⟩⟩
set_option maxRecDepth 100000 in
theorem Tryz.bld36 : Bld Tryz.env 36 [(0, 1), (1, 1)] [.v (.int .i64 0), .v (.int .i64 0)] := ⟨⟨_, _, _, rfl, rfl, rfl, rfl, rfl, rfl, rfl⟩⟩
set_option maxRecDepth 100000 in
theorem Tryz.bld43 : Bld Tryz.env 43 [(0, 1), (1, 2)] [.v (.int .i64 0), .v (.int .i64 0), .v (.int .i64 0)] := ⟨⟨_, _, _, rfl, rfl, rfl, rfl, rfl, rfl, rfl⟩⟩
set_option maxRecDepth 100000 in
theorem Tryz.bld47 : Bld Tryz.env 47 [(0, 1), (1, 1), (2, 1)] [.v (.int .i64 0), .v (.int .i64 0), .v (.int .i64 0)] := ⟨⟨_, _, _, rfl, rfl, rfl, rfl, rfl, rfl, rfl⟩⟩
set_option maxRecDepth 100000 in
theorem Tryz.bld58 : Bld Tryz.env 58 [(0, 1), (1, 1), (2, 1), (3, 1), (4, 1)] [.v (.string ⟨#[]⟩), .v (.int .i64 0), .v (.int .i64 0), .v (.int .i64 0), .v (.int .i64 0)] := ⟨⟨_, _, _, rfl, rfl, rfl, rfl, rfl, rfl, rfl⟩⟩
set_option maxRecDepth 100000 in
theorem Tryz.bld74 : Bld Tryz.env 74 [(0, 1), (1, 1), (2, 1)] [.v (.int .i64 0), .v (.int .i64 0), .v (.int .i64 0)] := ⟨⟨_, _, _, rfl, rfl, rfl, rfl, rfl, rfl, rfl⟩⟩
set_option maxRecDepth 100000 in
theorem Tryz.bld78 : Bld Tryz.env 78 [(0, 1), (1, 1)] [.v (.slice none 0 0), .v (.int .i64 0)] := ⟨⟨_, _, _, rfl, rfl, rfl, rfl, rfl, rfl, rfl⟩⟩
set_option maxRecDepth 100000 in
theorem Tryz.bld94 : Bld Tryz.env 94 [(0, 1), (1, 1), (2, 1), (3, 5)] [.v (.int .i64 0), .v (.int .i64 0), .v (.int .i64 0), .v (.string ⟨#[]⟩), .v (.int .i64 0), .v (.int .i64 0), .v (.int .i64 0), .v (.int .i64 0)] := ⟨⟨_, _, _, rfl, rfl, rfl, rfl, rfl, rfl, rfl⟩⟩
set_option maxRecDepth 100000 in
theorem Tryz.bld100 : Bld Tryz.env 100 [(0, 1), (1, 1)] [.v (.int .i64 0), .v (.int .i64 0)] := ⟨⟨_, _, _, rfl, rfl, rfl, rfl, rfl, rfl, rfl⟩⟩
set_option maxRecDepth 100000 in
theorem Tryz.bld116 : Bld Tryz.env 116 [(0, 1), (1, 1), (2, 1), (3, 1)] [.v (.int .i64 0), .v (.string ⟨#[]⟩), .v (.int .i64 0), .v (.int .i64 0)] := ⟨⟨_, _, _, rfl, rfl, rfl, rfl, rfl, rfl, rfl⟩⟩
set_option maxRecDepth 100000 in
theorem Tryz.bld126 : Bld Tryz.env 126 [(0, 1), (1, 1), (2, 1), (3, 1), (4, 1), (5, 1)] [.v (.slice none 0 0), .v (.slice none 0 0), .v (.slice none 0 0), .v (.slice none 0 0), .v (.int .i64 0), .v (.int .i64 0)] := ⟨⟨_, _, _, rfl, rfl, rfl, rfl, rfl, rfl, rfl⟩⟩
set_option maxRecDepth 100000 in
theorem Tryz.bld133 : Bld Tryz.env 133 [(0, 1), (1, 1)] [.v (.int .i64 0), .v (.int .i64 0)] := ⟨⟨_, _, _, rfl, rfl, rfl, rfl, rfl, rfl, rfl⟩⟩
set_option maxRecDepth 100000 in
theorem Tryz.bld150 : Bld Tryz.env 150 [(0, 1), (1, 1), (2, 1), (3, 1), (4, 1)] [.v (.string ⟨#[]⟩), .v (.int .i64 0), .v (.int .i64 0), .v (.int .i64 0), .v (.int .i64 0)] := ⟨⟨_, _, _, rfl, rfl, rfl, rfl, rfl, rfl, rfl⟩⟩
set_option maxRecDepth 100000 in
theorem Tryz.bld152 : Bld Tryz.env 152 [(0, 1), (1, 1), (2, 1)] [.v (.string ⟨#[]⟩), .v (.int .i64 0), .v (.int .i64 0)] := ⟨⟨_, _, _, rfl, rfl, rfl, rfl, rfl, rfl, rfl⟩⟩
theorem Tryz.eq36 : eqOk Tryz.prog 36 = true := by kernel_rfl
theorem Tryz.eq43 : eqOk Tryz.prog 43 = true := by kernel_rfl
end Go.Proofs.YtncfbhnecmnfpaaGreatDoor
