/- The table of the types that the program uses, held against the program. No condition. -/
import Derived.Test.YtncfbhnecmnfpaaDoorBwEq
import Derived.Test.YtncfbhnecmnfpaaDoorRows
import Derived.KernelRfl
namespace Go.Aw
set_option linter.unusedVariables false
set_option linter.unusedSimpArgs false

inductive TT where
  | nil
  | node (l : TT) (k : Nat) (x : TI) (r : TT)

def getTT : TT → Nat → Option TI
  | .nil, _ => none
  | .node l k x r, i => bif Nat.beq k i then some x else bif Nat.ble k i then getTT r i else getTT l i

def allTT (P : Program) : TT → Prop
  | .nil => True
  | .node l k x r => allTT P l ∧ tiOf P k = some x ∧ allTT P r

theorem getTT_ok {P : Program} : ∀ {t : TT} {i : Nat} {x : TI}, allTT P t → getTT t i = some x → tiOf P i = some x
  | .nil, _, _, _, h => by simp [getTT] at h
  | .node l k y r, i, x, ha, h => by
    simp only [getTT] at h
    cases hb : Nat.beq k i with
    | true =>
      have := Nat.eq_of_beq_eq_true hb
      simp only [hb, cond_true, Option.some.injEq] at h
      subst h this; exact ha.2.1
    | false =>
      simp only [hb, cond_false] at h
      cases hc : Nat.ble k i with
      | true => simp only [hc, cond_true] at h; exact getTT_ok ha.2.2 h
      | false => simp only [hc, cond_false] at h; exact getTT_ok ha.1 h

end Go.Aw

namespace Go.Proofs.YtncfbhnecmnfpaaDoor
open Go.Aw

@[reducible] def Tryd.x3 : TI := { kind := .int .i64, size := 1, bytes := 8, zero := some (.int .i64 0) }
@[reducible] def Tryd.x4 : TI := { kind := .bool, size := 1, bytes := 1, zero := some (.bool false) }
@[reducible] def Tryd.x5 : TI := { kind := .int .u8, size := 1, bytes := 1, zero := some (.int .u8 0) }
@[reducible] def Tryd.x9 : TI := { kind := .string, size := 1, bytes := 16, zero := some (.string ⟨#[]⟩) }
@[reducible] def Tryd.x22 : TI := { kind := .slice 3, size := 1, bytes := 24, zero := some (.slice none 0 0) }
@[reducible] def Tryd.x23 : TI := { kind := .int .i16, size := 1, bytes := 2, zero := some (.int .i16 0) }
@[reducible] def Tryd.x26 : TI := { kind := .slice 45, size := 1, bytes := 24, zero := some (.slice none 0 0) }
@[reducible] def Tryd.x28 : TI := { kind := .struct [(0, 9), (1, 3), (2, 3), (3, 3), (4, 3), (5, 3), (6, 26)], size := 7, bytes := 80, zero := some (.agg #[.string ⟨#[]⟩, .int .i64 0, .int .i64 0, .int .i64 0, .int .i64 0, .int .i64 0, .slice none 0 0]) }
@[reducible] def Tryd.x31 : TI := { kind := .struct [(0, 9), (1, 3), (2, 3), (3, 3), (4, 3)], size := 5, bytes := 48, zero := some (.agg #[.string ⟨#[]⟩, .int .i64 0, .int .i64 0, .int .i64 0, .int .i64 0]) }
@[reducible] def Tryd.x33 : TI := { kind := .slice 31, size := 1, bytes := 24, zero := some (.slice none 0 0) }
@[reducible] def Tryd.x35 : TI := { kind := .struct [(0, 3), (1, 3)], size := 2, bytes := 16, zero := some (.agg #[.int .i64 0, .int .i64 0]) }
@[reducible] def Tryd.x36 : TI := { kind := .slice 35, size := 1, bytes := 24, zero := some (.slice none 0 0) }
@[reducible] def Tryd.x37 : TI := { kind := .slice 47, size := 1, bytes := 24, zero := some (.slice none 0 0) }
@[reducible] def Tryd.x38 : TI := { kind := .int .i64, size := 1, bytes := 8, zero := some (.int .i64 0) }
@[reducible] def Tryd.x41 : TI := { kind := .slice 85, size := 1, bytes := 24, zero := some (.slice none 0 0) }
@[reducible] def Tryd.x43 : TI := { kind := .struct [(0, 3), (1, 3)], size := 2, bytes := 16, zero := some (.agg #[.int .i64 0, .int .i64 0]) }
@[reducible] def Tryd.x45 : TI := { kind := .struct [(0, 3), (1, 3), (2, 3)], size := 3, bytes := 24, zero := some (.agg #[.int .i64 0, .int .i64 0, .int .i64 0]) }
@[reducible] def Tryd.x47 : TI := { kind := .struct [(0, 3), (1, 43)], size := 3, bytes := 24, zero := some (.agg #[.int .i64 0, .int .i64 0, .int .i64 0]) }
@[reducible] def Tryd.x51 : TI := { kind := .struct [(0, 22), (1, 3)], size := 2, bytes := 32, zero := some (.agg #[.slice none 0 0, .int .i64 0]) }
@[reducible] def Tryd.x62 : TI := { kind := .slice 68, size := 1, bytes := 24, zero := some (.slice none 0 0) }
@[reducible] def Tryd.x68 : TI := { kind := .struct [(0, 3), (1, 3), (2, 3), (3, 31)], size := 8, bytes := 72, zero := some (.agg #[.int .i64 0, .int .i64 0, .int .i64 0, .string ⟨#[]⟩, .int .i64 0, .int .i64 0, .int .i64 0, .int .i64 0]) }
@[reducible] def Tryd.x78 : TI := { kind := .slice 5, size := 1, bytes := 24, zero := some (.slice none 0 0) }
@[reducible] def Tryd.x85 : TI := { kind := .struct [(0, 3), (1, 9), (2, 3), (3, 3)], size := 4, bytes := 40, zero := some (.agg #[.int .i64 0, .string ⟨#[]⟩, .int .i64 0, .int .i64 0]) }
@[reducible] def Tryd.x90 : TI := { kind := .slice 9, size := 1, bytes := 24, zero := some (.slice none 0 0) }
@[reducible] def Tryd.x91 : TI := { kind := .slice 28, size := 1, bytes := 24, zero := some (.slice none 0 0) }
@[reducible] def Tryd.x92 : TI := { kind := .slice 133, size := 1, bytes := 24, zero := some (.slice none 0 0) }
@[reducible] def Tryd.x93 : TI := { kind := .slice 135, size := 1, bytes := 24, zero := some (.slice none 0 0) }
@[reducible] def Tryd.x95 : TI := { kind := .struct [(0, 90), (1, 91), (2, 92), (3, 93), (4, 3), (5, 3)], size := 6, bytes := 112, zero := some (.agg #[.slice none 0 0, .slice none 0 0, .slice none 0 0, .slice none 0 0, .int .i64 0, .int .i64 0]) }
@[reducible] def Tryd.x97 : TI := { kind := .array 4 3, size := 4, bytes := 32, zero := some (.agg #[.int .i64 0, .int .i64 0, .int .i64 0, .int .i64 0]) }
@[reducible] def Tryd.x100 : TI := { kind := .struct [(0, 3), (1, 3)], size := 2, bytes := 16, zero := some (.agg #[.int .i64 0, .int .i64 0]) }
@[reducible] def Tryd.x101 : TI := { kind := .array 4 100, size := 8, bytes := 64, zero := some (.agg #[.int .i64 0, .int .i64 0, .int .i64 0, .int .i64 0, .int .i64 0, .int .i64 0, .int .i64 0, .int .i64 0]) }
@[reducible] def Tryd.x106 : TI := { kind := .int .u64, size := 1, bytes := 8, zero := some (.int .u64 0) }
@[reducible] def Tryd.x113 : TI := { kind := .array 4 90, size := 4, bytes := 96, zero := some (.agg #[.slice none 0 0, .slice none 0 0, .slice none 0 0, .slice none 0 0]) }
@[reducible] def Tryd.x118 : TI := { kind := .int .i64, size := 1, bytes := 8, zero := some (.int .i64 0) }
@[reducible] def Tryd.x127 : TI := { kind := .int .u32, size := 1, bytes := 4, zero := some (.int .u32 0) }
@[reducible] def Tryd.x129 : TI := { kind := .int .u64, size := 1, bytes := 8, zero := some (.int .u64 0) }
@[reducible] def Tryd.x133 : TI := { kind := .struct [(0, 9), (1, 3), (2, 3)], size := 3, bytes := 32, zero := some (.agg #[.string ⟨#[]⟩, .int .i64 0, .int .i64 0]) }
@[reducible] def Tryd.x135 : TI := { kind := .struct [(0, 9), (1, 3), (2, 3), (3, 3), (4, 3)], size := 5, bytes := 48, zero := some (.agg #[.string ⟨#[]⟩, .int .i64 0, .int .i64 0, .int .i64 0, .int .i64 0]) }
@[reducible] def Tryd.x145 : TI := { kind := .int .u64, size := 1, bytes := 8, zero := some (.int .u64 0) }

def Tryd.tabT : TT := (.node (.node (.node (.node (.node (.node .nil 3 Tryd.x3 .nil) 4 Tryd.x4 .nil) 5 Tryd.x5 (.node .nil 9 Tryd.x9 .nil)) 22 Tryd.x22 (.node (.node (.node .nil 23 Tryd.x23 .nil) 26 Tryd.x26 .nil) 28 Tryd.x28 (.node .nil 31 Tryd.x31 .nil))) 33 Tryd.x33 (.node (.node (.node (.node .nil 35 Tryd.x35 .nil) 36 Tryd.x36 .nil) 37 Tryd.x37 (.node .nil 38 Tryd.x38 .nil)) 41 Tryd.x41 (.node (.node (.node .nil 43 Tryd.x43 .nil) 45 Tryd.x45 .nil) 47 Tryd.x47 (.node .nil 51 Tryd.x51 .nil)))) 62 Tryd.x62 (.node (.node (.node (.node (.node .nil 68 Tryd.x68 .nil) 78 Tryd.x78 .nil) 85 Tryd.x85 (.node .nil 90 Tryd.x90 .nil)) 91 Tryd.x91 (.node (.node (.node .nil 92 Tryd.x92 .nil) 93 Tryd.x93 .nil) 95 Tryd.x95 (.node .nil 97 Tryd.x97 .nil))) 100 Tryd.x100 (.node (.node (.node (.node .nil 101 Tryd.x101 .nil) 106 Tryd.x106 .nil) 113 Tryd.x113 (.node .nil 118 Tryd.x118 .nil)) 127 Tryd.x127 (.node (.node (.node .nil 129 Tryd.x129 .nil) 133 Tryd.x133 .nil) 135 Tryd.x135 (.node .nil 145 Tryd.x145 .nil)))))

set_option maxRecDepth 100000 in
theorem Tryd.ti3 : tiOf Tryd.prog 3 = some { kind := .int .i64, size := 1, bytes := 8, zero := some (.int .i64 0) } := by kernel_rfl
set_option maxRecDepth 100000 in
theorem Tryd.ti4 : tiOf Tryd.prog 4 = some { kind := .bool, size := 1, bytes := 1, zero := some (.bool false) } := by kernel_rfl
set_option maxRecDepth 100000 in
theorem Tryd.ti5 : tiOf Tryd.prog 5 = some { kind := .int .u8, size := 1, bytes := 1, zero := some (.int .u8 0) } := by kernel_rfl
set_option maxRecDepth 100000 in
theorem Tryd.ti9 : tiOf Tryd.prog 9 = some { kind := .string, size := 1, bytes := 16, zero := some (.string ⟨#[]⟩) } := by kernel_rfl
set_option maxRecDepth 100000 in
theorem Tryd.ti22 : tiOf Tryd.prog 22 = some { kind := .slice 3, size := 1, bytes := 24, zero := some (.slice none 0 0) } := by kernel_rfl
set_option maxRecDepth 100000 in
theorem Tryd.ti23 : tiOf Tryd.prog 23 = some { kind := .int .i16, size := 1, bytes := 2, zero := some (.int .i16 0) } := by kernel_rfl
set_option maxRecDepth 100000 in
theorem Tryd.ti26 : tiOf Tryd.prog 26 = some { kind := .slice 45, size := 1, bytes := 24, zero := some (.slice none 0 0) } := by kernel_rfl
set_option maxRecDepth 100000 in
theorem Tryd.ti28 : tiOf Tryd.prog 28 = some { kind := .struct [(0, 9), (1, 3), (2, 3), (3, 3), (4, 3), (5, 3), (6, 26)], size := 7, bytes := 80, zero := some (.agg #[.string ⟨#[]⟩, .int .i64 0, .int .i64 0, .int .i64 0, .int .i64 0, .int .i64 0, .slice none 0 0]) } := by kernel_rfl
set_option maxRecDepth 100000 in
theorem Tryd.ti31 : tiOf Tryd.prog 31 = some { kind := .struct [(0, 9), (1, 3), (2, 3), (3, 3), (4, 3)], size := 5, bytes := 48, zero := some (.agg #[.string ⟨#[]⟩, .int .i64 0, .int .i64 0, .int .i64 0, .int .i64 0]) } := by kernel_rfl
set_option maxRecDepth 100000 in
theorem Tryd.ti33 : tiOf Tryd.prog 33 = some { kind := .slice 31, size := 1, bytes := 24, zero := some (.slice none 0 0) } := by kernel_rfl
set_option maxRecDepth 100000 in
theorem Tryd.ti35 : tiOf Tryd.prog 35 = some { kind := .struct [(0, 3), (1, 3)], size := 2, bytes := 16, zero := some (.agg #[.int .i64 0, .int .i64 0]) } := by kernel_rfl
set_option maxRecDepth 100000 in
theorem Tryd.ti36 : tiOf Tryd.prog 36 = some { kind := .slice 35, size := 1, bytes := 24, zero := some (.slice none 0 0) } := by kernel_rfl
set_option maxRecDepth 100000 in
theorem Tryd.ti37 : tiOf Tryd.prog 37 = some { kind := .slice 47, size := 1, bytes := 24, zero := some (.slice none 0 0) } := by kernel_rfl
set_option maxRecDepth 100000 in
theorem Tryd.ti38 : tiOf Tryd.prog 38 = some { kind := .int .i64, size := 1, bytes := 8, zero := some (.int .i64 0) } := by kernel_rfl
set_option maxRecDepth 100000 in
theorem Tryd.ti41 : tiOf Tryd.prog 41 = some { kind := .slice 85, size := 1, bytes := 24, zero := some (.slice none 0 0) } := by kernel_rfl
set_option maxRecDepth 100000 in
theorem Tryd.ti43 : tiOf Tryd.prog 43 = some { kind := .struct [(0, 3), (1, 3)], size := 2, bytes := 16, zero := some (.agg #[.int .i64 0, .int .i64 0]) } := by kernel_rfl
set_option maxRecDepth 100000 in
theorem Tryd.ti45 : tiOf Tryd.prog 45 = some { kind := .struct [(0, 3), (1, 3), (2, 3)], size := 3, bytes := 24, zero := some (.agg #[.int .i64 0, .int .i64 0, .int .i64 0]) } := by kernel_rfl
set_option maxRecDepth 100000 in
theorem Tryd.ti47 : tiOf Tryd.prog 47 = some { kind := .struct [(0, 3), (1, 43)], size := 3, bytes := 24, zero := some (.agg #[.int .i64 0, .int .i64 0, .int .i64 0]) } := by kernel_rfl
set_option maxRecDepth 100000 in
theorem Tryd.ti51 : tiOf Tryd.prog 51 = some { kind := .struct [(0, 22), (1, 3)], size := 2, bytes := 32, zero := some (.agg #[.slice none 0 0, .int .i64 0]) } := by kernel_rfl
set_option maxRecDepth 100000 in
theorem Tryd.ti62 : tiOf Tryd.prog 62 = some { kind := .slice 68, size := 1, bytes := 24, zero := some (.slice none 0 0) } := by kernel_rfl
set_option maxRecDepth 100000 in
theorem Tryd.ti68 : tiOf Tryd.prog 68 = some { kind := .struct [(0, 3), (1, 3), (2, 3), (3, 31)], size := 8, bytes := 72, zero := some (.agg #[.int .i64 0, .int .i64 0, .int .i64 0, .string ⟨#[]⟩, .int .i64 0, .int .i64 0, .int .i64 0, .int .i64 0]) } := by kernel_rfl
set_option maxRecDepth 100000 in
theorem Tryd.ti78 : tiOf Tryd.prog 78 = some { kind := .slice 5, size := 1, bytes := 24, zero := some (.slice none 0 0) } := by kernel_rfl
set_option maxRecDepth 100000 in
theorem Tryd.ti85 : tiOf Tryd.prog 85 = some { kind := .struct [(0, 3), (1, 9), (2, 3), (3, 3)], size := 4, bytes := 40, zero := some (.agg #[.int .i64 0, .string ⟨#[]⟩, .int .i64 0, .int .i64 0]) } := by kernel_rfl
set_option maxRecDepth 100000 in
theorem Tryd.ti90 : tiOf Tryd.prog 90 = some { kind := .slice 9, size := 1, bytes := 24, zero := some (.slice none 0 0) } := by kernel_rfl
set_option maxRecDepth 100000 in
theorem Tryd.ti91 : tiOf Tryd.prog 91 = some { kind := .slice 28, size := 1, bytes := 24, zero := some (.slice none 0 0) } := by kernel_rfl
set_option maxRecDepth 100000 in
theorem Tryd.ti92 : tiOf Tryd.prog 92 = some { kind := .slice 133, size := 1, bytes := 24, zero := some (.slice none 0 0) } := by kernel_rfl
set_option maxRecDepth 100000 in
theorem Tryd.ti93 : tiOf Tryd.prog 93 = some { kind := .slice 135, size := 1, bytes := 24, zero := some (.slice none 0 0) } := by kernel_rfl
set_option maxRecDepth 100000 in
theorem Tryd.ti95 : tiOf Tryd.prog 95 = some { kind := .struct [(0, 90), (1, 91), (2, 92), (3, 93), (4, 3), (5, 3)], size := 6, bytes := 112, zero := some (.agg #[.slice none 0 0, .slice none 0 0, .slice none 0 0, .slice none 0 0, .int .i64 0, .int .i64 0]) } := by kernel_rfl
set_option maxRecDepth 100000 in
theorem Tryd.ti97 : tiOf Tryd.prog 97 = some { kind := .array 4 3, size := 4, bytes := 32, zero := some (.agg #[.int .i64 0, .int .i64 0, .int .i64 0, .int .i64 0]) } := by kernel_rfl
set_option maxRecDepth 100000 in
theorem Tryd.ti100 : tiOf Tryd.prog 100 = some { kind := .struct [(0, 3), (1, 3)], size := 2, bytes := 16, zero := some (.agg #[.int .i64 0, .int .i64 0]) } := by kernel_rfl
set_option maxRecDepth 100000 in
theorem Tryd.ti101 : tiOf Tryd.prog 101 = some { kind := .array 4 100, size := 8, bytes := 64, zero := some (.agg #[.int .i64 0, .int .i64 0, .int .i64 0, .int .i64 0, .int .i64 0, .int .i64 0, .int .i64 0, .int .i64 0]) } := by kernel_rfl
set_option maxRecDepth 100000 in
theorem Tryd.ti106 : tiOf Tryd.prog 106 = some { kind := .int .u64, size := 1, bytes := 8, zero := some (.int .u64 0) } := by kernel_rfl
set_option maxRecDepth 100000 in
theorem Tryd.ti113 : tiOf Tryd.prog 113 = some { kind := .array 4 90, size := 4, bytes := 96, zero := some (.agg #[.slice none 0 0, .slice none 0 0, .slice none 0 0, .slice none 0 0]) } := by kernel_rfl
set_option maxRecDepth 100000 in
theorem Tryd.ti118 : tiOf Tryd.prog 118 = some { kind := .int .i64, size := 1, bytes := 8, zero := some (.int .i64 0) } := by kernel_rfl
set_option maxRecDepth 100000 in
theorem Tryd.ti127 : tiOf Tryd.prog 127 = some { kind := .int .u32, size := 1, bytes := 4, zero := some (.int .u32 0) } := by kernel_rfl
set_option maxRecDepth 100000 in
theorem Tryd.ti129 : tiOf Tryd.prog 129 = some { kind := .int .u64, size := 1, bytes := 8, zero := some (.int .u64 0) } := by kernel_rfl
set_option maxRecDepth 100000 in
theorem Tryd.ti133 : tiOf Tryd.prog 133 = some { kind := .struct [(0, 9), (1, 3), (2, 3)], size := 3, bytes := 32, zero := some (.agg #[.string ⟨#[]⟩, .int .i64 0, .int .i64 0]) } := by kernel_rfl
set_option maxRecDepth 100000 in
theorem Tryd.ti135 : tiOf Tryd.prog 135 = some { kind := .struct [(0, 9), (1, 3), (2, 3), (3, 3), (4, 3)], size := 5, bytes := 48, zero := some (.agg #[.string ⟨#[]⟩, .int .i64 0, .int .i64 0, .int .i64 0, .int .i64 0]) } := by kernel_rfl
set_option maxRecDepth 100000 in
theorem Tryd.ti145 : tiOf Tryd.prog 145 = some { kind := .int .u64, size := 1, bytes := 8, zero := some (.int .u64 0) } := by kernel_rfl

set_option maxRecDepth 100000 in
theorem Tryd.tabAll : allTT Tryd.prog Tryd.tabT :=
  ⟨⟨⟨⟨⟨⟨trivial, Tryd.ti3, trivial⟩, Tryd.ti4, trivial⟩, Tryd.ti5, ⟨trivial, Tryd.ti9, trivial⟩⟩, Tryd.ti22, ⟨⟨⟨trivial, Tryd.ti23, trivial⟩, Tryd.ti26, trivial⟩, Tryd.ti28, ⟨trivial, Tryd.ti31, trivial⟩⟩⟩, Tryd.ti33, ⟨⟨⟨⟨trivial, Tryd.ti35, trivial⟩, Tryd.ti36, trivial⟩, Tryd.ti37, ⟨trivial, Tryd.ti38, trivial⟩⟩, Tryd.ti41, ⟨⟨⟨trivial, Tryd.ti43, trivial⟩, Tryd.ti45, trivial⟩, Tryd.ti47, ⟨trivial, Tryd.ti51, trivial⟩⟩⟩⟩, Tryd.ti62, ⟨⟨⟨⟨⟨trivial, Tryd.ti68, trivial⟩, Tryd.ti78, trivial⟩, Tryd.ti85, ⟨trivial, Tryd.ti90, trivial⟩⟩, Tryd.ti91, ⟨⟨⟨trivial, Tryd.ti92, trivial⟩, Tryd.ti93, trivial⟩, Tryd.ti95, ⟨trivial, Tryd.ti97, trivial⟩⟩⟩, Tryd.ti100, ⟨⟨⟨⟨trivial, Tryd.ti101, trivial⟩, Tryd.ti106, trivial⟩, Tryd.ti113, ⟨trivial, Tryd.ti118, trivial⟩⟩, Tryd.ti127, ⟨⟨⟨trivial, Tryd.ti129, trivial⟩, Tryd.ti133, trivial⟩, Tryd.ti135, ⟨trivial, Tryd.ti145, trivial⟩⟩⟩⟩⟩

theorem Tryd.mixed : Tryd.prog.follows .mixedOrders = true := by kernel_rfl

theorem Tryd.tabOk (t : Nat) (i : TI) (h : getTT Tryd.tabT t = some i) : tiOf Tryd.prog t = some i := getTT_ok Tryd.tabAll h

noncomputable def Tryd.env : Env := ⟨Tryd.prog, getTT Tryd.tabT, Tryd.tabOk, Tryd.mixed⟩

set_option maxRecDepth 100000 in
theorem Tryd.bld28 : Bld Tryd.env 28 [(0, 1), (1, 1), (2, 1), (3, 1), (4, 1), (5, 1), (6, 1)] [.v (.string ⟨#[]⟩), .v (.int .i64 0), .v (.int .i64 0), .v (.int .i64 0), .v (.int .i64 0), .v (.int .i64 0), .v (.slice none 0 0)] := ⟨⟨_, _, _, rfl, rfl, rfl, rfl, rfl, rfl, rfl⟩⟩
set_option maxRecDepth 100000 in
theorem Tryd.bld31 : Bld Tryd.env 31 [(0, 1), (1, 1), (2, 1), (3, 1), (4, 1)] [.v (.string ⟨#[]⟩), .v (.int .i64 0), .v (.int .i64 0), .v (.int .i64 0), .v (.int .i64 0)] := ⟨⟨_, _, _, rfl, rfl, rfl, rfl, rfl, rfl, rfl⟩⟩
set_option maxRecDepth 100000 in
theorem Tryd.bld35 : Bld Tryd.env 35 [(0, 1), (1, 1)] [.v (.int .i64 0), .v (.int .i64 0)] := ⟨⟨_, _, _, rfl, rfl, rfl, rfl, rfl, rfl, rfl⟩⟩
set_option maxRecDepth 100000 in
theorem Tryd.bld43 : Bld Tryd.env 43 [(0, 1), (1, 1)] [.v (.int .i64 0), .v (.int .i64 0)] := ⟨⟨_, _, _, rfl, rfl, rfl, rfl, rfl, rfl, rfl⟩⟩
set_option maxRecDepth 100000 in
theorem Tryd.bld45 : Bld Tryd.env 45 [(0, 1), (1, 1), (2, 1)] [.v (.int .i64 0), .v (.int .i64 0), .v (.int .i64 0)] := ⟨⟨_, _, _, rfl, rfl, rfl, rfl, rfl, rfl, rfl⟩⟩
set_option maxRecDepth 100000 in
theorem Tryd.bld47 : Bld Tryd.env 47 [(0, 1), (1, 2)] [.v (.int .i64 0), .v (.int .i64 0), .v (.int .i64 0)] := ⟨⟨_, _, _, rfl, rfl, rfl, rfl, rfl, rfl, rfl⟩⟩
set_option maxRecDepth 100000 in
theorem Tryd.bld51 : Bld Tryd.env 51 [(0, 1), (1, 1)] [.v (.slice none 0 0), .v (.int .i64 0)] := ⟨⟨_, _, _, rfl, rfl, rfl, rfl, rfl, rfl, rfl⟩⟩
set_option maxRecDepth 100000 in
theorem Tryd.bld68 : Bld Tryd.env 68 [(0, 1), (1, 1), (2, 1), (3, 5)] [.v (.int .i64 0), .v (.int .i64 0), .v (.int .i64 0), .v (.string ⟨#[]⟩), .v (.int .i64 0), .v (.int .i64 0), .v (.int .i64 0), .v (.int .i64 0)] := ⟨⟨_, _, _, rfl, rfl, rfl, rfl, rfl, rfl, rfl⟩⟩
set_option maxRecDepth 100000 in
theorem Tryd.bld85 : Bld Tryd.env 85 [(0, 1), (1, 1), (2, 1), (3, 1)] [.v (.int .i64 0), .v (.string ⟨#[]⟩), .v (.int .i64 0), .v (.int .i64 0)] := ⟨⟨_, _, _, rfl, rfl, rfl, rfl, rfl, rfl, rfl⟩⟩
set_option maxRecDepth 100000 in
theorem Tryd.bld95 : Bld Tryd.env 95 [(0, 1), (1, 1), (2, 1), (3, 1), (4, 1), (5, 1)] [.v (.slice none 0 0), .v (.slice none 0 0), .v (.slice none 0 0), .v (.slice none 0 0), .v (.int .i64 0), .v (.int .i64 0)] := ⟨⟨_, _, _, rfl, rfl, rfl, rfl, rfl, rfl, rfl⟩⟩
set_option maxRecDepth 100000 in
theorem Tryd.bld100 : Bld Tryd.env 100 [(0, 1), (1, 1)] [.v (.int .i64 0), .v (.int .i64 0)] := ⟨⟨_, _, _, rfl, rfl, rfl, rfl, rfl, rfl, rfl⟩⟩
set_option maxRecDepth 100000 in
theorem Tryd.bld133 : Bld Tryd.env 133 [(0, 1), (1, 1), (2, 1)] [.v (.string ⟨#[]⟩), .v (.int .i64 0), .v (.int .i64 0)] := ⟨⟨_, _, _, rfl, rfl, rfl, rfl, rfl, rfl, rfl⟩⟩
set_option maxRecDepth 100000 in
theorem Tryd.bld135 : Bld Tryd.env 135 [(0, 1), (1, 1), (2, 1), (3, 1), (4, 1)] [.v (.string ⟨#[]⟩), .v (.int .i64 0), .v (.int .i64 0), .v (.int .i64 0), .v (.int .i64 0)] := ⟨⟨_, _, _, rfl, rfl, rfl, rfl, rfl, rfl, rfl⟩⟩
theorem Tryd.eq43 : eqOk Tryd.prog 43 = true := by kernel_rfl
theorem Tryd.eq47 : eqOk Tryd.prog 47 = true := by kernel_rfl
end Go.Proofs.YtncfbhnecmnfpaaDoor
