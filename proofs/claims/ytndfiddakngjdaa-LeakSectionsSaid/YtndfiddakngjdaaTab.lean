/- The table of the types that the program uses, held against the program. No condition. -/
import Derived.Test.YtndfiddakngjdaaBwEq
import Derived.Test.YtndfiddakngjdaaRows
import Derived.KernelRfl
namespace Go.Aw
set_option linter.unusedVariables false
set_option linter.unusedSimpArgs false

inductive TT where
  | nil
  | node (l : TT) (k : Nat) (x : TI) (r : TT)

def getTT : TT → Nat → Option TI
  | .nil, _ => none
  | .node l k x r, i => bif Nat.beq k i then some x else bif Nat.ble k i then getTT r i else getTT l i

def allTT (P : Program) : TT → Prop
  | .nil => True
  | .node l k x r => allTT P l ∧ tiOf P k = some x ∧ allTT P r

theorem getTT_ok {P : Program} : ∀ {t : TT} {i : Nat} {x : TI}, allTT P t → getTT t i = some x → tiOf P i = some x
  | .nil, _, _, _, h => by simp [getTT] at h
  | .node l k y r, i, x, ha, h => by
    simp only [getTT] at h
    cases hb : Nat.beq k i with
    | true =>
      have := Nat.eq_of_beq_eq_true hb
      simp only [hb, cond_true, Option.some.injEq] at h
      subst h this; exact ha.2.1
    | false =>
      simp only [hb, cond_false] at h
      cases hc : Nat.ble k i with
      | true => simp only [hc, cond_true] at h; exact getTT_ok ha.2.2 h
      | false => simp only [hc, cond_false] at h; exact getTT_ok ha.1 h

end Go.Aw

namespace Go.Proofs.Ytndfiddakngjdaa
open Go.Aw

@[reducible] def Try.x3 : TI := { kind := .int .i64, size := 1, bytes := 8, zero := some (.int .i64 0) }
@[reducible] def Try.x4 : TI := { kind := .bool, size := 1, bytes := 1, zero := some (.bool false) }
@[reducible] def Try.x5 : TI := { kind := .int .u8, size := 1, bytes := 1, zero := some (.int .u8 0) }
@[reducible] def Try.x9 : TI := { kind := .string, size := 1, bytes := 16, zero := some (.string ⟨#[]⟩) }
@[reducible] def Try.x22 : TI := { kind := .slice 3, size := 1, bytes := 24, zero := some (.slice none 0 0) }
@[reducible] def Try.x25 : TI := { kind := .slice 9, size := 1, bytes := 24, zero := some (.slice none 0 0) }
@[reducible] def Try.x26 : TI := { kind := .slice 42, size := 1, bytes := 24, zero := some (.slice none 0 0) }
@[reducible] def Try.x27 : TI := { kind := .slice 95, size := 1, bytes := 24, zero := some (.slice none 0 0) }
@[reducible] def Try.x28 : TI := { kind := .slice 97, size := 1, bytes := 24, zero := some (.slice none 0 0) }
@[reducible] def Try.x30 : TI := { kind := .struct [(0, 25), (1, 26), (2, 27), (3, 28), (4, 3), (5, 3)], size := 6, bytes := 112, zero := some (.agg #[.slice none 0 0, .slice none 0 0, .slice none 0 0, .slice none 0 0, .int .i64 0, .int .i64 0]) }
@[reducible] def Try.x32 : TI := { kind := .slice 4, size := 1, bytes := 24, zero := some (.slice none 0 0) }
@[reducible] def Try.x34 : TI := { kind := .struct [(0, 22), (1, 22), (2, 32)], size := 3, bytes := 72, zero := some (.agg #[.slice none 0 0, .slice none 0 0, .slice none 0 0]) }
@[reducible] def Try.x36 : TI := { kind := .slice 22, size := 1, bytes := 24, zero := some (.slice none 0 0) }
@[reducible] def Try.x37 : TI := { kind := .int .i64, size := 1, bytes := 8, zero := some (.int .i64 0) }
@[reducible] def Try.x40 : TI := { kind := .slice 108, size := 1, bytes := 24, zero := some (.slice none 0 0) }
@[reducible] def Try.x42 : TI := { kind := .struct [(0, 9), (1, 3), (2, 3), (3, 3), (4, 3), (5, 3), (6, 40)], size := 7, bytes := 80, zero := some (.agg #[.string ⟨#[]⟩, .int .i64 0, .int .i64 0, .int .i64 0, .int .i64 0, .int .i64 0, .slice none 0 0]) }
@[reducible] def Try.x52 : TI := { kind := .slice 58, size := 1, bytes := 24, zero := some (.slice none 0 0) }
@[reducible] def Try.x56 : TI := { kind := .slice 60, size := 1, bytes := 24, zero := some (.slice none 0 0) }
@[reducible] def Try.x58 : TI := { kind := .struct [(0, 3), (1, 3), (2, 56), (3, 3)], size := 4, bytes := 48, zero := some (.agg #[.int .i64 0, .int .i64 0, .slice none 0 0, .int .i64 0]) }
@[reducible] def Try.x60 : TI := { kind := .struct [(0, 3), (1, 4)], size := 2, bytes := 16, zero := some (.agg #[.int .i64 0, .bool false]) }
@[reducible] def Try.x76 : TI := { kind := .slice 81, size := 1, bytes := 24, zero := some (.slice none 0 0) }
@[reducible] def Try.x81 : TI := { kind := .slice 83, size := 1, bytes := 24, zero := some (.slice none 0 0) }
@[reducible] def Try.x83 : TI := { kind := .struct [(0, 3), (1, 3)], size := 2, bytes := 16, zero := some (.agg #[.int .i64 0, .int .i64 0]) }
@[reducible] def Try.x90 : TI := { kind := .struct [(0, 22), (1, 3)], size := 2, bytes := 32, zero := some (.agg #[.slice none 0 0, .int .i64 0]) }
@[reducible] def Try.x95 : TI := { kind := .struct [(0, 9), (1, 3), (2, 3)], size := 3, bytes := 32, zero := some (.agg #[.string ⟨#[]⟩, .int .i64 0, .int .i64 0]) }
@[reducible] def Try.x97 : TI := { kind := .struct [(0, 9), (1, 3), (2, 3), (3, 3), (4, 3)], size := 5, bytes := 48, zero := some (.agg #[.string ⟨#[]⟩, .int .i64 0, .int .i64 0, .int .i64 0, .int .i64 0]) }
@[reducible] def Try.x108 : TI := { kind := .struct [(0, 3), (1, 3), (2, 3)], size := 3, bytes := 24, zero := some (.agg #[.int .i64 0, .int .i64 0, .int .i64 0]) }
@[reducible] def Try.x112 : TI := { kind := .struct [(0, 30), (6, 22), (7, 22)], size := 8, bytes := 160, zero := some (.agg #[.slice none 0 0, .slice none 0 0, .slice none 0 0, .slice none 0 0, .int .i64 0, .int .i64 0, .slice none 0 0, .slice none 0 0]) }
@[reducible] def Try.x118 : TI := { kind := .struct [(0, 3), (1, 3), (2, 3)], size := 3, bytes := 24, zero := some (.agg #[.int .i64 0, .int .i64 0, .int .i64 0]) }
@[reducible] def Try.x119 : TI := { kind := .slice 118, size := 1, bytes := 24, zero := some (.slice none 0 0) }
@[reducible] def Try.x122 : TI := { kind := .struct [(0, 3), (1, 3)], size := 2, bytes := 16, zero := some (.agg #[.int .i64 0, .int .i64 0]) }
@[reducible] def Try.x126 : TI := { kind := .map 3 3, size := 1, bytes := 8, zero := some (.map none) }
@[reducible] def Try.x131 : TI := { kind := .array 4 25, size := 4, bytes := 96, zero := some (.agg #[.slice none 0 0, .slice none 0 0, .slice none 0 0, .slice none 0 0]) }
@[reducible] def Try.x145 : TI := { kind := .slice 5, size := 1, bytes := 24, zero := some (.slice none 0 0) }
@[reducible] def Try.x147 : TI := { kind := .other, size := 1, bytes := 8, zero := some (.pointer none) }
@[reducible] def Try.x152 : TI := { kind := .struct [(0, 30), (6, 34), (9, 22), (10, 22), (11, 76), (12, 76), (13, 76)], size := 14, bytes := 304, zero := some (.agg #[.slice none 0 0, .slice none 0 0, .slice none 0 0, .slice none 0 0, .int .i64 0, .int .i64 0, .slice none 0 0, .slice none 0 0, .slice none 0 0, .slice none 0 0, .slice none 0 0, .slice none 0 0, .slice none 0 0, .slice none 0 0]) }
@[reducible] def Try.x153 : TI := { kind := .array 2 3, size := 2, bytes := 16, zero := some (.agg #[.int .i64 0, .int .i64 0]) }
@[reducible] def Try.x154 : TI := { kind := .slice 153, size := 1, bytes := 24, zero := some (.slice none 0 0) }
@[reducible] def Try.x165 : TI := { kind := .array 24 3, size := 24, bytes := 192, zero := some (.agg #[.int .i64 0, .int .i64 0, .int .i64 0, .int .i64 0, .int .i64 0, .int .i64 0, .int .i64 0, .int .i64 0, .int .i64 0, .int .i64 0, .int .i64 0, .int .i64 0, .int .i64 0, .int .i64 0, .int .i64 0, .int .i64 0, .int .i64 0, .int .i64 0, .int .i64 0, .int .i64 0, .int .i64 0, .int .i64 0, .int .i64 0, .int .i64 0]) }
@[reducible] def Try.x167 : TI := { kind := .struct [(0, 165), (24, 165)], size := 48, bytes := 384, zero := some (.agg #[.int .i64 0, .int .i64 0, .int .i64 0, .int .i64 0, .int .i64 0, .int .i64 0, .int .i64 0, .int .i64 0, .int .i64 0, .int .i64 0, .int .i64 0, .int .i64 0, .int .i64 0, .int .i64 0, .int .i64 0, .int .i64 0, .int .i64 0, .int .i64 0, .int .i64 0, .int .i64 0, .int .i64 0, .int .i64 0, .int .i64 0, .int .i64 0, .int .i64 0, .int .i64 0, .int .i64 0, .int .i64 0, .int .i64 0, .int .i64 0, .int .i64 0, .int .i64 0, .int .i64 0, .int .i64 0, .int .i64 0, .int .i64 0, .int .i64 0, .int .i64 0, .int .i64 0, .int .i64 0, .int .i64 0, .int .i64 0, .int .i64 0, .int .i64 0, .int .i64 0, .int .i64 0, .int .i64 0, .int .i64 0]) }
@[reducible] def Try.x177 : TI := { kind := .map 3 4, size := 1, bytes := 8, zero := some (.map none) }
@[reducible] def Try.x182 : TI := { kind := .array 24 3, size := 24, bytes := 192, zero := some (.agg #[.int .i64 0, .int .i64 0, .int .i64 0, .int .i64 0, .int .i64 0, .int .i64 0, .int .i64 0, .int .i64 0, .int .i64 0, .int .i64 0, .int .i64 0, .int .i64 0, .int .i64 0, .int .i64 0, .int .i64 0, .int .i64 0, .int .i64 0, .int .i64 0, .int .i64 0, .int .i64 0, .int .i64 0, .int .i64 0, .int .i64 0, .int .i64 0]) }
@[reducible] def Try.x217 : TI := { kind := .array 64 3, size := 64, bytes := 512, zero := some (.agg #[.int .i64 0, .int .i64 0, .int .i64 0, .int .i64 0, .int .i64 0, .int .i64 0, .int .i64 0, .int .i64 0, .int .i64 0, .int .i64 0, .int .i64 0, .int .i64 0, .int .i64 0, .int .i64 0, .int .i64 0, .int .i64 0, .int .i64 0, .int .i64 0, .int .i64 0, .int .i64 0, .int .i64 0, .int .i64 0, .int .i64 0, .int .i64 0, .int .i64 0, .int .i64 0, .int .i64 0, .int .i64 0, .int .i64 0, .int .i64 0, .int .i64 0, .int .i64 0, .int .i64 0, .int .i64 0, .int .i64 0, .int .i64 0, .int .i64 0, .int .i64 0, .int .i64 0, .int .i64 0, .int .i64 0, .int .i64 0, .int .i64 0, .int .i64 0, .int .i64 0, .int .i64 0, .int .i64 0, .int .i64 0, .int .i64 0, .int .i64 0, .int .i64 0, .int .i64 0, .int .i64 0, .int .i64 0, .int .i64 0, .int .i64 0, .int .i64 0, .int .i64 0, .int .i64 0, .int .i64 0, .int .i64 0, .int .i64 0, .int .i64 0, .int .i64 0]) }
@[reducible] def Try.x219 : TI := { kind := .struct [(0, 3), (1, 217), (65, 217)], size := 129, bytes := 1032, zero := some (.agg #[.int .i64 0, .int .i64 0, .int .i64 0, .int .i64 0, .int .i64 0, .int .i64 0, .int .i64 0, .int .i64 0, .int .i64 0, .int .i64 0, .int .i64 0, .int .i64 0, .int .i64 0, .int .i64 0, .int .i64 0, .int .i64 0, .int .i64 0, .int .i64 0, .int .i64 0, .int .i64 0, .int .i64 0, .int .i64 0, .int .i64 0, .int .i64 0, .int .i64 0, .int .i64 0, .int .i64 0, .int .i64 0, .int .i64 0, .int .i64 0, .int .i64 0, .int .i64 0, .int .i64 0, .int .i64 0, .int .i64 0, .int .i64 0, .int .i64 0, .int .i64 0, .int .i64 0, .int .i64 0, .int .i64 0, .int .i64 0, .int .i64 0, .int .i64 0, .int .i64 0, .int .i64 0, .int .i64 0, .int .i64 0, .int .i64 0, .int .i64 0, .int .i64 0, .int .i64 0, .int .i64 0, .int .i64 0, .int .i64 0, .int .i64 0, .int .i64 0, .int .i64 0, .int .i64 0, .int .i64 0, .int .i64 0, .int .i64 0, .int .i64 0, .int .i64 0, .int .i64 0, .int .i64 0, .int .i64 0, .int .i64 0, .int .i64 0, .int .i64 0, .int .i64 0, .int .i64 0, .int .i64 0, .int .i64 0, .int .i64 0, .int .i64 0, .int .i64 0, .int .i64 0, .int .i64 0, .int .i64 0, .int .i64 0, .int .i64 0, .int .i64 0, .int .i64 0, .int .i64 0, .int .i64 0, .int .i64 0, .int .i64 0, .int .i64 0, .int .i64 0, .int .i64 0, .int .i64 0, .int .i64 0, .int .i64 0, .int .i64 0, .int .i64 0, .int .i64 0, .int .i64 0, .int .i64 0, .int .i64 0, .int .i64 0, .int .i64 0, .int .i64 0, .int .i64 0, .int .i64 0, .int .i64 0, .int .i64 0, .int .i64 0, .int .i64 0, .int .i64 0, .int .i64 0, .int .i64 0, .int .i64 0, .int .i64 0, .int .i64 0, .int .i64 0, .int .i64 0, .int .i64 0, .int .i64 0, .int .i64 0, .int .i64 0, .int .i64 0, .int .i64 0, .int .i64 0, .int .i64 0, .int .i64 0, .int .i64 0, .int .i64 0, .int .i64 0]) }

def Try.tabT : TT := (.node (.node (.node (.node (.node (.node .nil 3 Try.x3 .nil) 4 Try.x4 .nil) 5 Try.x5 (.node (.node .nil 9 Try.x9 .nil) 22 Try.x22 .nil)) 25 Try.x25 (.node (.node (.node .nil 26 Try.x26 .nil) 27 Try.x27 .nil) 28 Try.x28 (.node (.node .nil 30 Try.x30 .nil) 32 Try.x32 .nil))) 34 Try.x34 (.node (.node (.node (.node .nil 36 Try.x36 .nil) 37 Try.x37 .nil) 40 Try.x40 (.node (.node .nil 42 Try.x42 .nil) 52 Try.x52 .nil)) 56 Try.x56 (.node (.node (.node .nil 58 Try.x58 .nil) 60 Try.x60 .nil) 76 Try.x76 (.node .nil 81 Try.x81 .nil)))) 83 Try.x83 (.node (.node (.node (.node (.node .nil 90 Try.x90 .nil) 95 Try.x95 .nil) 97 Try.x97 (.node (.node .nil 108 Try.x108 .nil) 112 Try.x112 .nil)) 118 Try.x118 (.node (.node (.node .nil 119 Try.x119 .nil) 122 Try.x122 .nil) 126 Try.x126 (.node .nil 131 Try.x131 .nil))) 145 Try.x145 (.node (.node (.node (.node .nil 147 Try.x147 .nil) 152 Try.x152 .nil) 153 Try.x153 (.node (.node .nil 154 Try.x154 .nil) 165 Try.x165 .nil)) 167 Try.x167 (.node (.node (.node .nil 177 Try.x177 .nil) 182 Try.x182 .nil) 217 Try.x217 (.node .nil 219 Try.x219 .nil)))))

set_option maxRecDepth 100000 in
theorem Try.ti3 : tiOf Try.prog 3 = some { kind := .int .i64, size := 1, bytes := 8, zero := some (.int .i64 0) } := by kernel_rfl
set_option maxRecDepth 100000 in
theorem Try.ti4 : tiOf Try.prog 4 = some { kind := .bool, size := 1, bytes := 1, zero := some (.bool false) } := by kernel_rfl
set_option maxRecDepth 100000 in
theorem Try.ti5 : tiOf Try.prog 5 = some { kind := .int .u8, size := 1, bytes := 1, zero := some (.int .u8 0) } := by kernel_rfl
set_option maxRecDepth 100000 in
theorem Try.ti9 : tiOf Try.prog 9 = some { kind := .string, size := 1, bytes := 16, zero := some (.string ⟨#[]⟩) } := by kernel_rfl
set_option maxRecDepth 100000 in
theorem Try.ti22 : tiOf Try.prog 22 = some { kind := .slice 3, size := 1, bytes := 24, zero := some (.slice none 0 0) } := by kernel_rfl
set_option maxRecDepth 100000 in
theorem Try.ti25 : tiOf Try.prog 25 = some { kind := .slice 9, size := 1, bytes := 24, zero := some (.slice none 0 0) } := by kernel_rfl
set_option maxRecDepth 100000 in
theorem Try.ti26 : tiOf Try.prog 26 = some { kind := .slice 42, size := 1, bytes := 24, zero := some (.slice none 0 0) } := by kernel_rfl
set_option maxRecDepth 100000 in
theorem Try.ti27 : tiOf Try.prog 27 = some { kind := .slice 95, size := 1, bytes := 24, zero := some (.slice none 0 0) } := by kernel_rfl
set_option maxRecDepth 100000 in
theorem Try.ti28 : tiOf Try.prog 28 = some { kind := .slice 97, size := 1, bytes := 24, zero := some (.slice none 0 0) } := by kernel_rfl
set_option maxRecDepth 100000 in
theorem Try.ti30 : tiOf Try.prog 30 = some { kind := .struct [(0, 25), (1, 26), (2, 27), (3, 28), (4, 3), (5, 3)], size := 6, bytes := 112, zero := some (.agg #[.slice none 0 0, .slice none 0 0, .slice none 0 0, .slice none 0 0, .int .i64 0, .int .i64 0]) } := by kernel_rfl
set_option maxRecDepth 100000 in
theorem Try.ti32 : tiOf Try.prog 32 = some { kind := .slice 4, size := 1, bytes := 24, zero := some (.slice none 0 0) } := by kernel_rfl
set_option maxRecDepth 100000 in
theorem Try.ti34 : tiOf Try.prog 34 = some { kind := .struct [(0, 22), (1, 22), (2, 32)], size := 3, bytes := 72, zero := some (.agg #[.slice none 0 0, .slice none 0 0, .slice none 0 0]) } := by kernel_rfl
set_option maxRecDepth 100000 in
theorem Try.ti36 : tiOf Try.prog 36 = some { kind := .slice 22, size := 1, bytes := 24, zero := some (.slice none 0 0) } := by kernel_rfl
set_option maxRecDepth 100000 in
theorem Try.ti37 : tiOf Try.prog 37 = some { kind := .int .i64, size := 1, bytes := 8, zero := some (.int .i64 0) } := by kernel_rfl
set_option maxRecDepth 100000 in
theorem Try.ti40 : tiOf Try.prog 40 = some { kind := .slice 108, size := 1, bytes := 24, zero := some (.slice none 0 0) } := by kernel_rfl
set_option maxRecDepth 100000 in
theorem Try.ti42 : tiOf Try.prog 42 = some { kind := .struct [(0, 9), (1, 3), (2, 3), (3, 3), (4, 3), (5, 3), (6, 40)], size := 7, bytes := 80, zero := some (.agg #[.string ⟨#[]⟩, .int .i64 0, .int .i64 0, .int .i64 0, .int .i64 0, .int .i64 0, .slice none 0 0]) } := by kernel_rfl
set_option maxRecDepth 100000 in
theorem Try.ti52 : tiOf Try.prog 52 = some { kind := .slice 58, size := 1, bytes := 24, zero := some (.slice none 0 0) } := by kernel_rfl
set_option maxRecDepth 100000 in
theorem Try.ti56 : tiOf Try.prog 56 = some { kind := .slice 60, size := 1, bytes := 24, zero := some (.slice none 0 0) } := by kernel_rfl
set_option maxRecDepth 100000 in
theorem Try.ti58 : tiOf Try.prog 58 = some { kind := .struct [(0, 3), (1, 3), (2, 56), (3, 3)], size := 4, bytes := 48, zero := some (.agg #[.int .i64 0, .int .i64 0, .slice none 0 0, .int .i64 0]) } := by kernel_rfl
set_option maxRecDepth 100000 in
theorem Try.ti60 : tiOf Try.prog 60 = some { kind := .struct [(0, 3), (1, 4)], size := 2, bytes := 16, zero := some (.agg #[.int .i64 0, .bool false]) } := by kernel_rfl
set_option maxRecDepth 100000 in
theorem Try.ti76 : tiOf Try.prog 76 = some { kind := .slice 81, size := 1, bytes := 24, zero := some (.slice none 0 0) } := by kernel_rfl
set_option maxRecDepth 100000 in
theorem Try.ti81 : tiOf Try.prog 81 = some { kind := .slice 83, size := 1, bytes := 24, zero := some (.slice none 0 0) } := by kernel_rfl
set_option maxRecDepth 100000 in
theorem Try.ti83 : tiOf Try.prog 83 = some { kind := .struct [(0, 3), (1, 3)], size := 2, bytes := 16, zero := some (.agg #[.int .i64 0, .int .i64 0]) } := by kernel_rfl
set_option maxRecDepth 100000 in
theorem Try.ti90 : tiOf Try.prog 90 = some { kind := .struct [(0, 22), (1, 3)], size := 2, bytes := 32, zero := some (.agg #[.slice none 0 0, .int .i64 0]) } := by kernel_rfl
set_option maxRecDepth 100000 in
theorem Try.ti95 : tiOf Try.prog 95 = some { kind := .struct [(0, 9), (1, 3), (2, 3)], size := 3, bytes := 32, zero := some (.agg #[.string ⟨#[]⟩, .int .i64 0, .int .i64 0]) } := by kernel_rfl
set_option maxRecDepth 100000 in
theorem Try.ti97 : tiOf Try.prog 97 = some { kind := .struct [(0, 9), (1, 3), (2, 3), (3, 3), (4, 3)], size := 5, bytes := 48, zero := some (.agg #[.string ⟨#[]⟩, .int .i64 0, .int .i64 0, .int .i64 0, .int .i64 0]) } := by kernel_rfl
set_option maxRecDepth 100000 in
theorem Try.ti108 : tiOf Try.prog 108 = some { kind := .struct [(0, 3), (1, 3), (2, 3)], size := 3, bytes := 24, zero := some (.agg #[.int .i64 0, .int .i64 0, .int .i64 0]) } := by kernel_rfl
set_option maxRecDepth 100000 in
theorem Try.ti112 : tiOf Try.prog 112 = some { kind := .struct [(0, 30), (6, 22), (7, 22)], size := 8, bytes := 160, zero := some (.agg #[.slice none 0 0, .slice none 0 0, .slice none 0 0, .slice none 0 0, .int .i64 0, .int .i64 0, .slice none 0 0, .slice none 0 0]) } := by kernel_rfl
set_option maxRecDepth 100000 in
theorem Try.ti118 : tiOf Try.prog 118 = some { kind := .struct [(0, 3), (1, 3), (2, 3)], size := 3, bytes := 24, zero := some (.agg #[.int .i64 0, .int .i64 0, .int .i64 0]) } := by kernel_rfl
set_option maxRecDepth 100000 in
theorem Try.ti119 : tiOf Try.prog 119 = some { kind := .slice 118, size := 1, bytes := 24, zero := some (.slice none 0 0) } := by kernel_rfl
set_option maxRecDepth 100000 in
theorem Try.ti122 : tiOf Try.prog 122 = some { kind := .struct [(0, 3), (1, 3)], size := 2, bytes := 16, zero := some (.agg #[.int .i64 0, .int .i64 0]) } := by kernel_rfl
set_option maxRecDepth 100000 in
theorem Try.ti126 : tiOf Try.prog 126 = some { kind := .map 3 3, size := 1, bytes := 8, zero := some (.map none) } := by kernel_rfl
set_option maxRecDepth 100000 in
theorem Try.ti131 : tiOf Try.prog 131 = some { kind := .array 4 25, size := 4, bytes := 96, zero := some (.agg #[.slice none 0 0, .slice none 0 0, .slice none 0 0, .slice none 0 0]) } := by kernel_rfl
set_option maxRecDepth 100000 in
theorem Try.ti145 : tiOf Try.prog 145 = some { kind := .slice 5, size := 1, bytes := 24, zero := some (.slice none 0 0) } := by kernel_rfl
set_option maxRecDepth 100000 in
theorem Try.ti147 : tiOf Try.prog 147 = some { kind := .other, size := 1, bytes := 8, zero := some (.pointer none) } := by kernel_rfl
set_option maxRecDepth 100000 in
theorem Try.ti152 : tiOf Try.prog 152 = some { kind := .struct [(0, 30), (6, 34), (9, 22), (10, 22), (11, 76), (12, 76), (13, 76)], size := 14, bytes := 304, zero := some (.agg #[.slice none 0 0, .slice none 0 0, .slice none 0 0, .slice none 0 0, .int .i64 0, .int .i64 0, .slice none 0 0, .slice none 0 0, .slice none 0 0, .slice none 0 0, .slice none 0 0, .slice none 0 0, .slice none 0 0, .slice none 0 0]) } := by kernel_rfl
set_option maxRecDepth 100000 in
theorem Try.ti153 : tiOf Try.prog 153 = some { kind := .array 2 3, size := 2, bytes := 16, zero := some (.agg #[.int .i64 0, .int .i64 0]) } := by kernel_rfl
set_option maxRecDepth 100000 in
theorem Try.ti154 : tiOf Try.prog 154 = some { kind := .slice 153, size := 1, bytes := 24, zero := some (.slice none 0 0) } := by kernel_rfl
set_option maxRecDepth 100000 in
theorem Try.ti165 : tiOf Try.prog 165 = some { kind := .array 24 3, size := 24, bytes := 192, zero := some (.agg #[.int .i64 0, .int .i64 0, .int .i64 0, .int .i64 0, .int .i64 0, .int .i64 0, .int .i64 0, .int .i64 0, .int .i64 0, .int .i64 0, .int .i64 0, .int .i64 0, .int .i64 0, .int .i64 0, .int .i64 0, .int .i64 0, .int .i64 0, .int .i64 0, .int .i64 0, .int .i64 0, .int .i64 0, .int .i64 0, .int .i64 0, .int .i64 0]) } := by kernel_rfl
set_option maxRecDepth 100000 in
theorem Try.ti167 : tiOf Try.prog 167 = some { kind := .struct [(0, 165), (24, 165)], size := 48, bytes := 384, zero := some (.agg #[.int .i64 0, .int .i64 0, .int .i64 0, .int .i64 0, .int .i64 0, .int .i64 0, .int .i64 0, .int .i64 0, .int .i64 0, .int .i64 0, .int .i64 0, .int .i64 0, .int .i64 0, .int .i64 0, .int .i64 0, .int .i64 0, .int .i64 0, .int .i64 0, .int .i64 0, .int .i64 0, .int .i64 0, .int .i64 0, .int .i64 0, .int .i64 0, .int .i64 0, .int .i64 0, .int .i64 0, .int .i64 0, .int .i64 0, .int .i64 0, .int .i64 0, .int .i64 0, .int .i64 0, .int .i64 0, .int .i64 0, .int .i64 0, .int .i64 0, .int .i64 0, .int .i64 0, .int .i64 0, .int .i64 0, .int .i64 0, .int .i64 0, .int .i64 0, .int .i64 0, .int .i64 0, .int .i64 0, .int .i64 0]) } := by kernel_rfl
set_option maxRecDepth 100000 in
theorem Try.ti177 : tiOf Try.prog 177 = some { kind := .map 3 4, size := 1, bytes := 8, zero := some (.map none) } := by kernel_rfl
set_option maxRecDepth 100000 in
theorem Try.ti182 : tiOf Try.prog 182 = some { kind := .array 24 3, size := 24, bytes := 192, zero := some (.agg #[.int .i64 0, .int .i64 0, .int .i64 0, .int .i64 0, .int .i64 0, .int .i64 0, .int .i64 0, .int .i64 0, .int .i64 0, .int .i64 0, .int .i64 0, .int .i64 0, .int .i64 0, .int .i64 0, .int .i64 0, .int .i64 0, .int .i64 0, .int .i64 0, .int .i64 0, .int .i64 0, .int .i64 0, .int .i64 0, .int .i64 0, .int .i64 0]) } := by kernel_rfl
set_option maxRecDepth 100000 in
theorem Try.ti217 : tiOf Try.prog 217 = some { kind := .array 64 3, size := 64, bytes := 512, zero := some (.agg #[.int .i64 0, .int .i64 0, .int .i64 0, .int .i64 0, .int .i64 0, .int .i64 0, .int .i64 0, .int .i64 0, .int .i64 0, .int .i64 0, .int .i64 0, .int .i64 0, .int .i64 0, .int .i64 0, .int .i64 0, .int .i64 0, .int .i64 0, .int .i64 0, .int .i64 0, .int .i64 0, .int .i64 0, .int .i64 0, .int .i64 0, .int .i64 0, .int .i64 0, .int .i64 0, .int .i64 0, .int .i64 0, .int .i64 0, .int .i64 0, .int .i64 0, .int .i64 0, .int .i64 0, .int .i64 0, .int .i64 0, .int .i64 0, .int .i64 0, .int .i64 0, .int .i64 0, .int .i64 0, .int .i64 0, .int .i64 0, .int .i64 0, .int .i64 0, .int .i64 0, .int .i64 0, .int .i64 0, .int .i64 0, .int .i64 0, .int .i64 0, .int .i64 0, .int .i64 0, .int .i64 0, .int .i64 0, .int .i64 0, .int .i64 0, .int .i64 0, .int .i64 0, .int .i64 0, .int .i64 0, .int .i64 0, .int .i64 0, .int .i64 0, .int .i64 0]) } := by kernel_rfl
set_option maxRecDepth 100000 in
theorem Try.ti219 : tiOf Try.prog 219 = some { kind := .struct [(0, 3), (1, 217), (65, 217)], size := 129, bytes := 1032, zero := some (.agg #[.int .i64 0, .int .i64 0, .int .i64 0, .int .i64 0, .int .i64 0, .int .i64 0, .int .i64 0, .int .i64 0, .int .i64 0, .int .i64 0, .int .i64 0, .int .i64 0, .int .i64 0, .int .i64 0, .int .i64 0, .int .i64 0, .int .i64 0, .int .i64 0, .int .i64 0, .int .i64 0, .int .i64 0, .int .i64 0, .int .i64 0, .int .i64 0, .int .i64 0, .int .i64 0, .int .i64 0, .int .i64 0, .int .i64 0, .int .i64 0, .int .i64 0, .int .i64 0, .int .i64 0, .int .i64 0, .int .i64 0, .int .i64 0, .int .i64 0, .int .i64 0, .int .i64 0, .int .i64 0, .int .i64 0, .int .i64 0, .int .i64 0, .int .i64 0, .int .i64 0, .int .i64 0, .int .i64 0, .int .i64 0, .int .i64 0, .int .i64 0, .int .i64 0, .int .i64 0, .int .i64 0, .int .i64 0, .int .i64 0, .int .i64 0, .int .i64 0, .int .i64 0, .int .i64 0, .int .i64 0, .int .i64 0, .int .i64 0, .int .i64 0, .int .i64 0, .int .i64 0, .int .i64 0, .int .i64 0, .int .i64 0, .int .i64 0, .int .i64 0, .int .i64 0, .int .i64 0, .int .i64 0, .int .i64 0, .int .i64 0, .int .i64 0, .int .i64 0, .int .i64 0, .int .i64 0, .int .i64 0, .int .i64 0, .int .i64 0, .int .i64 0, .int .i64 0, .int .i64 0, .int .i64 0, .int .i64 0, .int .i64 0, .int .i64 0, .int .i64 0, .int .i64 0, .int .i64 0, .int .i64 0, .int .i64 0, .int .i64 0, .int .i64 0, .int .i64 0, .int .i64 0, .int .i64 0, .int .i64 0, .int .i64 0, .int .i64 0, .int .i64 0, .int .i64 0, .int .i64 0, .int .i64 0, .int .i64 0, .int .i64 0, .int .i64 0, .int .i64 0, .int .i64 0, .int .i64 0, .int .i64 0, .int .i64 0, .int .i64 0, .int .i64 0, .int .i64 0, .int .i64 0, .int .i64 0, .int .i64 0, .int .i64 0, .int .i64 0, .int .i64 0, .int .i64 0, .int .i64 0, .int .i64 0, .int .i64 0, .int .i64 0, .int .i64 0]) } := by kernel_rfl

set_option maxRecDepth 100000 in
theorem Try.tabAll : allTT Try.prog Try.tabT :=
  ⟨⟨⟨⟨⟨⟨trivial, Try.ti3, trivial⟩, Try.ti4, trivial⟩, Try.ti5, ⟨⟨trivial, Try.ti9, trivial⟩, Try.ti22, trivial⟩⟩, Try.ti25, ⟨⟨⟨trivial, Try.ti26, trivial⟩, Try.ti27, trivial⟩, Try.ti28, ⟨⟨trivial, Try.ti30, trivial⟩, Try.ti32, trivial⟩⟩⟩, Try.ti34, ⟨⟨⟨⟨trivial, Try.ti36, trivial⟩, Try.ti37, trivial⟩, Try.ti40, ⟨⟨trivial, Try.ti42, trivial⟩, Try.ti52, trivial⟩⟩, Try.ti56, ⟨⟨⟨trivial, Try.ti58, trivial⟩, Try.ti60, trivial⟩, Try.ti76, ⟨trivial, Try.ti81, trivial⟩⟩⟩⟩, Try.ti83, ⟨⟨⟨⟨⟨trivial, Try.ti90, trivial⟩, Try.ti95, trivial⟩, Try.ti97, ⟨⟨trivial, Try.ti108, trivial⟩, Try.ti112, trivial⟩⟩, Try.ti118, ⟨⟨⟨trivial, Try.ti119, trivial⟩, Try.ti122, trivial⟩, Try.ti126, ⟨trivial, Try.ti131, trivial⟩⟩⟩, Try.ti145, ⟨⟨⟨⟨trivial, Try.ti147, trivial⟩, Try.ti152, trivial⟩, Try.ti153, ⟨⟨trivial, Try.ti154, trivial⟩, Try.ti165, trivial⟩⟩, Try.ti167, ⟨⟨⟨trivial, Try.ti177, trivial⟩, Try.ti182, trivial⟩, Try.ti217, ⟨trivial, Try.ti219, trivial⟩⟩⟩⟩⟩

theorem Try.mixed : Try.prog.follows .mixedOrders = true := by kernel_rfl

theorem Try.tabOk (t : Nat) (i : TI) (h : getTT Try.tabT t = some i) : tiOf Try.prog t = some i := getTT_ok Try.tabAll h

noncomputable def Try.env : Env := ⟨Try.prog, getTT Try.tabT, Try.tabOk, Try.mixed⟩

set_option maxRecDepth 100000 in
theorem Try.bld30 : Bld Try.env 30 [(0, 1), (1, 1), (2, 1), (3, 1), (4, 1), (5, 1)] [.v (.slice none 0 0), .v (.slice none 0 0), .v (.slice none 0 0), .v (.slice none 0 0), .v (.int .i64 0), .v (.int .i64 0)] := ⟨⟨_, _, _, rfl, rfl, rfl, rfl, rfl, rfl, rfl⟩⟩
set_option maxRecDepth 100000 in
theorem Try.bld34 : Bld Try.env 34 [(0, 1), (1, 1), (2, 1)] [.v (.slice none 0 0), .v (.slice none 0 0), .v (.slice none 0 0)] := ⟨⟨_, _, _, rfl, rfl, rfl, rfl, rfl, rfl, rfl⟩⟩
set_option maxRecDepth 100000 in
theorem Try.bld42 : Bld Try.env 42 [(0, 1), (1, 1), (2, 1), (3, 1), (4, 1), (5, 1), (6, 1)] [.v (.string ⟨#[]⟩), .v (.int .i64 0), .v (.int .i64 0), .v (.int .i64 0), .v (.int .i64 0), .v (.int .i64 0), .v (.slice none 0 0)] := ⟨⟨_, _, _, rfl, rfl, rfl, rfl, rfl, rfl, rfl⟩⟩
set_option maxRecDepth 100000 in
theorem Try.bld58 : Bld Try.env 58 [(0, 1), (1, 1), (2, 1), (3, 1)] [.v (.int .i64 0), .v (.int .i64 0), .v (.slice none 0 0), .v (.int .i64 0)] := ⟨⟨_, _, _, rfl, rfl, rfl, rfl, rfl, rfl, rfl⟩⟩
set_option maxRecDepth 100000 in
theorem Try.bld60 : Bld Try.env 60 [(0, 1), (1, 1)] [.v (.int .i64 0), .v (.bool false)] := ⟨⟨_, _, _, rfl, rfl, rfl, rfl, rfl, rfl, rfl⟩⟩
set_option maxRecDepth 100000 in
theorem Try.bld83 : Bld Try.env 83 [(0, 1), (1, 1)] [.v (.int .i64 0), .v (.int .i64 0)] := ⟨⟨_, _, _, rfl, rfl, rfl, rfl, rfl, rfl, rfl⟩⟩
set_option maxRecDepth 100000 in
theorem Try.bld90 : Bld Try.env 90 [(0, 1), (1, 1)] [.v (.slice none 0 0), .v (.int .i64 0)] := ⟨⟨_, _, _, rfl, rfl, rfl, rfl, rfl, rfl, rfl⟩⟩
set_option maxRecDepth 100000 in
theorem Try.bld95 : Bld Try.env 95 [(0, 1), (1, 1), (2, 1)] [.v (.string ⟨#[]⟩), .v (.int .i64 0), .v (.int .i64 0)] := ⟨⟨_, _, _, rfl, rfl, rfl, rfl, rfl, rfl, rfl⟩⟩
set_option maxRecDepth 100000 in
theorem Try.bld97 : Bld Try.env 97 [(0, 1), (1, 1), (2, 1), (3, 1), (4, 1)] [.v (.string ⟨#[]⟩), .v (.int .i64 0), .v (.int .i64 0), .v (.int .i64 0), .v (.int .i64 0)] := ⟨⟨_, _, _, rfl, rfl, rfl, rfl, rfl, rfl, rfl⟩⟩
set_option maxRecDepth 100000 in
theorem Try.bld108 : Bld Try.env 108 [(0, 1), (1, 1), (2, 1)] [.v (.int .i64 0), .v (.int .i64 0), .v (.int .i64 0)] := ⟨⟨_, _, _, rfl, rfl, rfl, rfl, rfl, rfl, rfl⟩⟩
set_option maxRecDepth 100000 in
theorem Try.bld112 : Bld Try.env 112 [(0, 6), (6, 1), (7, 1)] [.v (.slice none 0 0), .v (.slice none 0 0), .v (.slice none 0 0), .v (.slice none 0 0), .v (.int .i64 0), .v (.int .i64 0), .v (.slice none 0 0), .v (.slice none 0 0)] := ⟨⟨_, _, _, rfl, rfl, rfl, rfl, rfl, rfl, rfl⟩⟩
set_option maxRecDepth 100000 in
theorem Try.bld118 : Bld Try.env 118 [(0, 1), (1, 1), (2, 1)] [.v (.int .i64 0), .v (.int .i64 0), .v (.int .i64 0)] := ⟨⟨_, _, _, rfl, rfl, rfl, rfl, rfl, rfl, rfl⟩⟩
set_option maxRecDepth 100000 in
theorem Try.bld122 : Bld Try.env 122 [(0, 1), (1, 1)] [.v (.int .i64 0), .v (.int .i64 0)] := ⟨⟨_, _, _, rfl, rfl, rfl, rfl, rfl, rfl, rfl⟩⟩
set_option maxRecDepth 100000 in
theorem Try.bld152 : Bld Try.env 152 [(0, 6), (6, 3), (9, 1), (10, 1), (11, 1), (12, 1), (13, 1)] [.v (.slice none 0 0), .v (.slice none 0 0), .v (.slice none 0 0), .v (.slice none 0 0), .v (.int .i64 0), .v (.int .i64 0), .v (.slice none 0 0), .v (.slice none 0 0), .v (.slice none 0 0), .v (.slice none 0 0), .v (.slice none 0 0), .v (.slice none 0 0), .v (.slice none 0 0), .v (.slice none 0 0)] := ⟨⟨_, _, _, rfl, rfl, rfl, rfl, rfl, rfl, rfl⟩⟩
set_option maxRecDepth 100000 in
theorem Try.bld167 : Bld Try.env 167 [(0, 24), (24, 24)] [.v (.int .i64 0), .v (.int .i64 0), .v (.int .i64 0), .v (.int .i64 0), .v (.int .i64 0), .v (.int .i64 0), .v (.int .i64 0), .v (.int .i64 0), .v (.int .i64 0), .v (.int .i64 0), .v (.int .i64 0), .v (.int .i64 0), .v (.int .i64 0), .v (.int .i64 0), .v (.int .i64 0), .v (.int .i64 0), .v (.int .i64 0), .v (.int .i64 0), .v (.int .i64 0), .v (.int .i64 0), .v (.int .i64 0), .v (.int .i64 0), .v (.int .i64 0), .v (.int .i64 0), .v (.int .i64 0), .v (.int .i64 0), .v (.int .i64 0), .v (.int .i64 0), .v (.int .i64 0), .v (.int .i64 0), .v (.int .i64 0), .v (.int .i64 0), .v (.int .i64 0), .v (.int .i64 0), .v (.int .i64 0), .v (.int .i64 0), .v (.int .i64 0), .v (.int .i64 0), .v (.int .i64 0), .v (.int .i64 0), .v (.int .i64 0), .v (.int .i64 0), .v (.int .i64 0), .v (.int .i64 0), .v (.int .i64 0), .v (.int .i64 0), .v (.int .i64 0), .v (.int .i64 0)] := ⟨⟨_, _, _, rfl, rfl, rfl, rfl, rfl, rfl, rfl⟩⟩
set_option maxRecDepth 100000 in
theorem Try.bld219 : Bld Try.env 219 [(0, 1), (1, 64), (65, 64)] [.v (.int .i64 0), .v (.int .i64 0), .v (.int .i64 0), .v (.int .i64 0), .v (.int .i64 0), .v (.int .i64 0), .v (.int .i64 0), .v (.int .i64 0), .v (.int .i64 0), .v (.int .i64 0), .v (.int .i64 0), .v (.int .i64 0), .v (.int .i64 0), .v (.int .i64 0), .v (.int .i64 0), .v (.int .i64 0), .v (.int .i64 0), .v (.int .i64 0), .v (.int .i64 0), .v (.int .i64 0), .v (.int .i64 0), .v (.int .i64 0), .v (.int .i64 0), .v (.int .i64 0), .v (.int .i64 0), .v (.int .i64 0), .v (.int .i64 0), .v (.int .i64 0), .v (.int .i64 0), .v (.int .i64 0), .v (.int .i64 0), .v (.int .i64 0), .v (.int .i64 0), .v (.int .i64 0), .v (.int .i64 0), .v (.int .i64 0), .v (.int .i64 0), .v (.int .i64 0), .v (.int .i64 0), .v (.int .i64 0), .v (.int .i64 0), .v (.int .i64 0), .v (.int .i64 0), .v (.int .i64 0), .v (.int .i64 0), .v (.int .i64 0), .v (.int .i64 0), .v (.int .i64 0), .v (.int .i64 0), .v (.int .i64 0), .v (.int .i64 0), .v (.int .i64 0), .v (.int .i64 0), .v (.int .i64 0), .v (.int .i64 0), .v (.int .i64 0), .v (.int .i64 0), .v (.int .i64 0), .v (.int .i64 0), .v (.int .i64 0), .v (.int .i64 0), .v (.int .i64 0), .v (.int .i64 0), .v (.int .i64 0), .v (.int .i64 0), .v (.int .i64 0), .v (.int .i64 0), .v (.int .i64 0), .v (.int .i64 0), .v (.int .i64 0), .v (.int .i64 0), .v (.int .i64 0), .v (.int .i64 0), .v (.int .i64 0), .v (.int .i64 0), .v (.int .i64 0), .v (.int .i64 0), .v (.int .i64 0), .v (.int .i64 0), .v (.int .i64 0), .v (.int .i64 0), .v (.int .i64 0), .v (.int .i64 0), .v (.int .i64 0), .v (.int .i64 0), .v (.int .i64 0), .v (.int .i64 0), .v (.int .i64 0), .v (.int .i64 0), .v (.int .i64 0), .v (.int .i64 0), .v (.int .i64 0), .v (.int .i64 0), .v (.int .i64 0), .v (.int .i64 0), .v (.int .i64 0), .v (.int .i64 0), .v (.int .i64 0), .v (.int .i64 0), .v (.int .i64 0), .v (.int .i64 0), .v (.int .i64 0), .v (.int .i64 0), .v (.int .i64 0), .v (.int .i64 0), .v (.int .i64 0), .v (.int .i64 0), .v (.int .i64 0), .v (.int .i64 0), .v (.int .i64 0), .v (.int .i64 0), .v (.int .i64 0), .v (.int .i64 0), .v (.int .i64 0), .v (.int .i64 0), .v (.int .i64 0), .v (.int .i64 0), .v (.int .i64 0), .v (.int .i64 0), .v (.int .i64 0), .v (.int .i64 0), .v (.int .i64 0), .v (.int .i64 0), .v (.int .i64 0), .v (.int .i64 0), .v (.int .i64 0), .v (.int .i64 0), .v (.int .i64 0), .v (.int .i64 0)] := ⟨⟨_, _, _, rfl, rfl, rfl, rfl, rfl, rfl, rfl⟩⟩
theorem Try.eq60 : eqOk Try.prog 60 = true := by kernel_rfl
theorem Try.eq83 : eqOk Try.prog 83 = true := by kernel_rfl
theorem Try.eq165 : eqOkA Try.prog 165 = true := by kernel_rfl
end Go.Proofs.Ytndfiddakngjdaa
