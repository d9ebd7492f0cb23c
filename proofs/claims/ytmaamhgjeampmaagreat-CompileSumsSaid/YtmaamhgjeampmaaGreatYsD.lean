/- Tables and pure functions. No condition. -/
import Derived.Test.YtmaamhgjeampmaaGreatYsB2
import Derived.Test.YtmaamhgjeampmaaGreatRows
import Derived.KernelRfl
set_option maxRecDepth 100000
namespace Go.Aw
set_option linter.unusedVariables false
set_option linter.unusedSimpArgs false
inductive TT where
 | nil
 | node (l : TT) (k : Nat) (x : TI) (r : TT)
def getTT : TT → Nat → Option TI
 | .nil, _ => none
 | .node l k x r, i => bif Nat.beq k i then some x else bif Nat.ble k i then getTT r i else getTT l i
def allTT (P : Program) : TT → Prop
 | .nil => True
 | .node l k x r => allTT P l ∧ tiOf P k = some x ∧ allTT P r
theorem getTT_ok {P : Program} : ∀ {t : TT} {i : Nat} {x : TI}, allTT P t → getTT t i = some x → tiOf P i = some x
 | .nil, _, _, _, h => by simp [getTT] at h
 | .node l k y r, i, x, ha, h => by
  simp only [getTT] at h
  cases hb : Nat.beq k i with
  | true =>
   have := Nat.eq_of_beq_eq_true hb
   simp only [hb, cond_true, Option.some.injEq] at h
   subst h this; exact ha.2.1
  | false =>
   simp only [hb, cond_false] at h
   cases hc : Nat.ble k i with
   | true => simp only [hc, cond_true] at h; exact getTT_ok ha.2.2 h
   | false => simp only [hc, cond_false] at h; exact getTT_ok ha.1 h
end Go.Aw
namespace Go.Proofs.YtmaamhgjeampmaaGreat
open Go.Aw
@[reducible] def Tryz.x3 : TI := { kind := .int .i64, size := 1, bytes := 8, zero := some (.int .i64 0) }
@[reducible] def Tryz.x4 : TI := { kind := .bool, size := 1, bytes := 1, zero := some (.bool false) }
@[reducible] def Tryz.x5 : TI := { kind := .int .u8, size := 1, bytes := 1, zero := some (.int .u8 0) }
@[reducible] def Tryz.x9 : TI := { kind := .string, size := 1, bytes := 16, zero := some (.string ⟨#[]⟩) }
@[reducible] def Tryz.x22 : TI := { kind := .slice 3, size := 1, bytes := 24, zero := some (.slice none 0 0) }
@[reducible] def Tryz.x27 : TI := { kind := .slice 9, size := 1, bytes := 24, zero := some (.slice none 0 0) }
@[reducible] def Tryz.x28 : TI := { kind := .slice 83, size := 1, bytes := 24, zero := some (.slice none 0 0) }
@[reducible] def Tryz.x29 : TI := { kind := .slice 85, size := 1, bytes := 24, zero := some (.slice none 0 0) }
@[reducible] def Tryz.x30 : TI := { kind := .slice 93, size := 1, bytes := 24, zero := some (.slice none 0 0) }
@[reducible] def Tryz.x32 : TI := { kind := .struct [(0, 27), (1, 28), (2, 29), (3, 30), (4, 3), (5, 3)], size := 6, bytes := 112, zero := some (.agg #[.slice none 0 0, .slice none 0 0, .slice none 0 0, .slice none 0 0, .int .i64 0, .int .i64 0]) }
@[reducible] def Tryz.x34 : TI := { kind := .slice 74, size := 1, bytes := 24, zero := some (.slice none 0 0) }
@[reducible] def Tryz.x35 : TI := { kind := .slice 4, size := 1, bytes := 24, zero := some (.slice none 0 0) }
@[reducible] def Tryz.x37 : TI := { kind := .struct [(0, 22), (1, 22), (2, 35)], size := 3, bytes := 72, zero := some (.agg #[.slice none 0 0, .slice none 0 0, .slice none 0 0]) }
@[reducible] def Tryz.x39 : TI := { kind := .struct [(0, 34), (1, 37)], size := 4, bytes := 96, zero := some (.agg #[.slice none 0 0, .slice none 0 0, .slice none 0 0, .slice none 0 0]) }
@[reducible] def Tryz.x43 : TI := { kind := .slice 54, size := 1, bytes := 24, zero := some (.slice none 0 0) }
@[reducible] def Tryz.x44 : TI := { kind := .int .i64, size := 1, bytes := 8, zero := some (.int .i64 0) }
@[reducible] def Tryz.x50 : TI := { kind := .slice 107, size := 1, bytes := 24, zero := some (.slice none 0 0) }
@[reducible] def Tryz.x52 : TI := { kind := .struct [(0, 3), (1, 3), (2, 50), (3, 3)], size := 4, bytes := 48, zero := some (.agg #[.int .i64 0, .int .i64 0, .slice none 0 0, .int .i64 0]) }
@[reducible] def Tryz.x54 : TI := { kind := .struct [(0, 3), (1, 3), (2, 3), (3, 52)], size := 7, bytes := 72, zero := some (.agg #[.int .i64 0, .int .i64 0, .int .i64 0, .int .i64 0, .int .i64 0, .slice none 0 0, .int .i64 0]) }
@[reducible] def Tryz.x57 : TI := { kind := .slice 52, size := 1, bytes := 24, zero := some (.slice none 0 0) }
@[reducible] def Tryz.x74 : TI := { kind := .struct [(0, 3), (1, 3), (2, 4), (3, 4)], size := 4, bytes := 24, zero := some (.agg #[.int .i64 0, .int .i64 0, .bool false, .bool false]) }
@[reducible] def Tryz.x80 : TI := { kind := .struct [(0, 3), (1, 3), (2, 3)], size := 3, bytes := 24, zero := some (.agg #[.int .i64 0, .int .i64 0, .int .i64 0]) }
@[reducible] def Tryz.x81 : TI := { kind := .slice 80, size := 1, bytes := 24, zero := some (.slice none 0 0) }
@[reducible] def Tryz.x83 : TI := { kind := .struct [(0, 9), (1, 3), (2, 3), (3, 3), (4, 3), (5, 3), (6, 81)], size := 7, bytes := 80, zero := some (.agg #[.string ⟨#[]⟩, .int .i64 0, .int .i64 0, .int .i64 0, .int .i64 0, .int .i64 0, .slice none 0 0]) }
@[reducible] def Tryz.x85 : TI := { kind := .struct [(0, 9), (1, 3), (2, 3)], size := 3, bytes := 32, zero := some (.agg #[.string ⟨#[]⟩, .int .i64 0, .int .i64 0]) }
@[reducible] def Tryz.x88 : TI := { kind := .struct [(0, 22), (1, 3)], size := 2, bytes := 32, zero := some (.agg #[.slice none 0 0, .int .i64 0]) }
@[reducible] def Tryz.x93 : TI := { kind := .struct [(0, 9), (1, 3), (2, 3), (3, 3), (4, 3)], size := 5, bytes := 48, zero := some (.agg #[.string ⟨#[]⟩, .int .i64 0, .int .i64 0, .int .i64 0, .int .i64 0]) }
@[reducible] def Tryz.x97 : TI := { kind := .struct [(0, 35), (1, 35)], size := 2, bytes := 48, zero := some (.agg #[.slice none 0 0, .slice none 0 0]) }
@[reducible] def Tryz.x104 : TI := { kind := .other, size := 1, bytes := 8, zero := some (.nilFunc) }
@[reducible] def Tryz.x107 : TI := { kind := .struct [(0, 3), (1, 4)], size := 2, bytes := 16, zero := some (.agg #[.int .i64 0, .bool false]) }
@[reducible] def Tryz.x135 : TI := { kind := .slice 5, size := 1, bytes := 24, zero := some (.slice none 0 0) }
@[reducible] def Tryz.x141 : TI := { kind := .struct [(0, 32), (6, 22), (7, 22)], size := 8, bytes := 160, zero := some (.agg #[.slice none 0 0, .slice none 0 0, .slice none 0 0, .slice none 0 0, .int .i64 0, .int .i64 0, .slice none 0 0, .slice none 0 0]) }
@[reducible] def Tryz.x158 : TI := { kind := .array 4 27, size := 4, bytes := 96, zero := some (.agg #[.slice none 0 0, .slice none 0 0, .slice none 0 0, .slice none 0 0]) }
@[reducible] def Tryz.x166 : TI := { kind := .struct [(0, 43), (1, 34), (2, 3)], size := 3, bytes := 56, zero := some (.agg #[.slice none 0 0, .slice none 0 0, .int .i64 0]) }
@[reducible] def Tryz.x173 : TI := { kind := .array 24 3, size := 24, bytes := 192, zero := some (.agg #[.int .i64 0, .int .i64 0, .int .i64 0, .int .i64 0, .int .i64 0, .int .i64 0, .int .i64 0, .int .i64 0, .int .i64 0, .int .i64 0, .int .i64 0, .int .i64 0, .int .i64 0, .int .i64 0, .int .i64 0, .int .i64 0, .int .i64 0, .int .i64 0, .int .i64 0, .int .i64 0, .int .i64 0, .int .i64 0, .int .i64 0, .int .i64 0]) }
@[reducible] def Tryz.x175 : TI := { kind := .struct [(0, 173), (24, 173)], size := 48, bytes := 384, zero := some (.agg #[.int .i64 0, .int .i64 0, .int .i64 0, .int .i64 0, .int .i64 0, .int .i64 0, .int .i64 0, .int .i64 0, .int .i64 0, .int .i64 0, .int .i64 0, .int .i64 0, .int .i64 0, .int .i64 0, .int .i64 0, .int .i64 0, .int .i64 0, .int .i64 0, .int .i64 0, .int .i64 0, .int .i64 0, .int .i64 0, .int .i64 0, .int .i64 0, .int .i64 0, .int .i64 0, .int .i64 0, .int .i64 0, .int .i64 0, .int .i64 0, .int .i64 0, .int .i64 0, .int .i64 0, .int .i64 0, .int .i64 0, .int .i64 0, .int .i64 0, .int .i64 0, .int .i64 0, .int .i64 0, .int .i64 0, .int .i64 0, .int .i64 0, .int .i64 0, .int .i64 0, .int .i64 0, .int .i64 0, .int .i64 0]) }
def Tryz.tabT : TT := (.node (.node (.node (.node (.node (.node .nil 3 Tryz.x3 .nil) 4 Tryz.x4 .nil) 5 Tryz.x5 (.node .nil 9 Tryz.x9 .nil)) 22 Tryz.x22 (.node (.node (.node .nil 27 Tryz.x27 .nil) 28 Tryz.x28 .nil) 29 Tryz.x29 (.node .nil 30 Tryz.x30 .nil))) 32 Tryz.x32 (.node (.node (.node (.node .nil 34 Tryz.x34 .nil) 35 Tryz.x35 .nil) 37 Tryz.x37 (.node .nil 39 Tryz.x39 .nil)) 43 Tryz.x43 (.node (.node .nil 44 Tryz.x44 .nil) 50 Tryz.x50 (.node .nil 52 Tryz.x52 .nil)))) 54 Tryz.x54 (.node (.node (.node (.node (.node .nil 57 Tryz.x57 .nil) 74 Tryz.x74 .nil) 80 Tryz.x80 (.node .nil 81 Tryz.x81 .nil)) 83 Tryz.x83 (.node (.node .nil 85 Tryz.x85 .nil) 88 Tryz.x88 (.node .nil 93 Tryz.x93 .nil))) 97 Tryz.x97 (.node (.node (.node (.node .nil 104 Tryz.x104 .nil) 107 Tryz.x107 .nil) 135 Tryz.x135 (.node .nil 141 Tryz.x141 .nil)) 158 Tryz.x158 (.node (.node .nil 166 Tryz.x166 .nil) 173 Tryz.x173 (.node .nil 175 Tryz.x175 .nil)))))
theorem Tryz.ti3 : tiOf Tryz.prog 3 = some { kind := .int .i64, size := 1, bytes := 8, zero := some (.int .i64 0) } := by kernel_rfl
theorem Tryz.ti4 : tiOf Tryz.prog 4 = some { kind := .bool, size := 1, bytes := 1, zero := some (.bool false) } := by kernel_rfl
theorem Tryz.ti5 : tiOf Tryz.prog 5 = some { kind := .int .u8, size := 1, bytes := 1, zero := some (.int .u8 0) } := by kernel_rfl
theorem Tryz.ti9 : tiOf Tryz.prog 9 = some { kind := .string, size := 1, bytes := 16, zero := some (.string ⟨#[]⟩) } := by kernel_rfl
theorem Tryz.ti22 : tiOf Tryz.prog 22 = some { kind := .slice 3, size := 1, bytes := 24, zero := some (.slice none 0 0) } := by kernel_rfl
theorem Tryz.ti27 : tiOf Tryz.prog 27 = some { kind := .slice 9, size := 1, bytes := 24, zero := some (.slice none 0 0) } := by kernel_rfl
theorem Tryz.ti28 : tiOf Tryz.prog 28 = some { kind := .slice 83, size := 1, bytes := 24, zero := some (.slice none 0 0) } := by kernel_rfl
theorem Tryz.ti29 : tiOf Tryz.prog 29 = some { kind := .slice 85, size := 1, bytes := 24, zero := some (.slice none 0 0) } := by kernel_rfl
theorem Tryz.ti30 : tiOf Tryz.prog 30 = some { kind := .slice 93, size := 1, bytes := 24, zero := some (.slice none 0 0) } := by kernel_rfl
theorem Tryz.ti32 : tiOf Tryz.prog 32 = some { kind := .struct [(0, 27), (1, 28), (2, 29), (3, 30), (4, 3), (5, 3)], size := 6, bytes := 112, zero := some (.agg #[.slice none 0 0, .slice none 0 0, .slice none 0 0, .slice none 0 0, .int .i64 0, .int .i64 0]) } := by kernel_rfl
theorem Tryz.ti34 : tiOf Tryz.prog 34 = some { kind := .slice 74, size := 1, bytes := 24, zero := some (.slice none 0 0) } := by kernel_rfl
theorem Tryz.ti35 : tiOf Tryz.prog 35 = some { kind := .slice 4, size := 1, bytes := 24, zero := some (.slice none 0 0) } := by kernel_rfl
theorem Tryz.ti37 : tiOf Tryz.prog 37 = some { kind := .struct [(0, 22), (1, 22), (2, 35)], size := 3, bytes := 72, zero := some (.agg #[.slice none 0 0, .slice none 0 0, .slice none 0 0]) } := by kernel_rfl
theorem Tryz.ti39 : tiOf Tryz.prog 39 = some { kind := .struct [(0, 34), (1, 37)], size := 4, bytes := 96, zero := some (.agg #[.slice none 0 0, .slice none 0 0, .slice none 0 0, .slice none 0 0]) } := by kernel_rfl
theorem Tryz.ti43 : tiOf Tryz.prog 43 = some { kind := .slice 54, size := 1, bytes := 24, zero := some (.slice none 0 0) } := by kernel_rfl
theorem Tryz.ti44 : tiOf Tryz.prog 44 = some { kind := .int .i64, size := 1, bytes := 8, zero := some (.int .i64 0) } := by kernel_rfl
theorem Tryz.ti50 : tiOf Tryz.prog 50 = some { kind := .slice 107, size := 1, bytes := 24, zero := some (.slice none 0 0) } := by kernel_rfl
theorem Tryz.ti52 : tiOf Tryz.prog 52 = some { kind := .struct [(0, 3), (1, 3), (2, 50), (3, 3)], size := 4, bytes := 48, zero := some (.agg #[.int .i64 0, .int .i64 0, .slice none 0 0, .int .i64 0]) } := by kernel_rfl
theorem Tryz.ti54 : tiOf Tryz.prog 54 = some { kind := .struct [(0, 3), (1, 3), (2, 3), (3, 52)], size := 7, bytes := 72, zero := some (.agg #[.int .i64 0, .int .i64 0, .int .i64 0, .int .i64 0, .int .i64 0, .slice none 0 0, .int .i64 0]) } := by kernel_rfl
theorem Tryz.ti57 : tiOf Tryz.prog 57 = some { kind := .slice 52, size := 1, bytes := 24, zero := some (.slice none 0 0) } := by kernel_rfl
theorem Tryz.ti74 : tiOf Tryz.prog 74 = some { kind := .struct [(0, 3), (1, 3), (2, 4), (3, 4)], size := 4, bytes := 24, zero := some (.agg #[.int .i64 0, .int .i64 0, .bool false, .bool false]) } := by kernel_rfl
theorem Tryz.ti80 : tiOf Tryz.prog 80 = some { kind := .struct [(0, 3), (1, 3), (2, 3)], size := 3, bytes := 24, zero := some (.agg #[.int .i64 0, .int .i64 0, .int .i64 0]) } := by kernel_rfl
theorem Tryz.ti81 : tiOf Tryz.prog 81 = some { kind := .slice 80, size := 1, bytes := 24, zero := some (.slice none 0 0) } := by kernel_rfl
theorem Tryz.ti83 : tiOf Tryz.prog 83 = some { kind := .struct [(0, 9), (1, 3), (2, 3), (3, 3), (4, 3), (5, 3), (6, 81)], size := 7, bytes := 80, zero := some (.agg #[.string ⟨#[]⟩, .int .i64 0, .int .i64 0, .int .i64 0, .int .i64 0, .int .i64 0, .slice none 0 0]) } := by kernel_rfl
theorem Tryz.ti85 : tiOf Tryz.prog 85 = some { kind := .struct [(0, 9), (1, 3), (2, 3)], size := 3, bytes := 32, zero := some (.agg #[.string ⟨#[]⟩, .int .i64 0, .int .i64 0]) } := by kernel_rfl
theorem Tryz.ti88 : tiOf Tryz.prog 88 = some { kind := .struct [(0, 22), (1, 3)], size := 2, bytes := 32, zero := some (.agg #[.slice none 0 0, .int .i64 0]) } := by kernel_rfl
theorem Tryz.ti93 : tiOf Tryz.prog 93 = some { kind := .struct [(0, 9), (1, 3), (2, 3), (3, 3), (4, 3)], size := 5, bytes := 48, zero := some (.agg #[.string ⟨#[]⟩, .int .i64 0, .int .i64 0, .int .i64 0, .int .i64 0]) } := by kernel_rfl
theorem Tryz.ti97 : tiOf Tryz.prog 97 = some { kind := .struct [(0, 35), (1, 35)], size := 2, bytes := 48, zero := some (.agg #[.slice none 0 0, .slice none 0 0]) } := by kernel_rfl
theorem Tryz.ti104 : tiOf Tryz.prog 104 = some { kind := .other, size := 1, bytes := 8, zero := some (.nilFunc) } := by kernel_rfl
theorem Tryz.ti107 : tiOf Tryz.prog 107 = some { kind := .struct [(0, 3), (1, 4)], size := 2, bytes := 16, zero := some (.agg #[.int .i64 0, .bool false]) } := by kernel_rfl
theorem Tryz.ti135 : tiOf Tryz.prog 135 = some { kind := .slice 5, size := 1, bytes := 24, zero := some (.slice none 0 0) } := by kernel_rfl
theorem Tryz.ti141 : tiOf Tryz.prog 141 = some { kind := .struct [(0, 32), (6, 22), (7, 22)], size := 8, bytes := 160, zero := some (.agg #[.slice none 0 0, .slice none 0 0, .slice none 0 0, .slice none 0 0, .int .i64 0, .int .i64 0, .slice none 0 0, .slice none 0 0]) } := by kernel_rfl
theorem Tryz.ti158 : tiOf Tryz.prog 158 = some { kind := .array 4 27, size := 4, bytes := 96, zero := some (.agg #[.slice none 0 0, .slice none 0 0, .slice none 0 0, .slice none 0 0]) } := by kernel_rfl
theorem Tryz.ti166 : tiOf Tryz.prog 166 = some { kind := .struct [(0, 43), (1, 34), (2, 3)], size := 3, bytes := 56, zero := some (.agg #[.slice none 0 0, .slice none 0 0, .int .i64 0]) } := by kernel_rfl
theorem Tryz.ti173 : tiOf Tryz.prog 173 = some { kind := .array 24 3, size := 24, bytes := 192, zero := some (.agg #[.int .i64 0, .int .i64 0, .int .i64 0, .int .i64 0, .int .i64 0, .int .i64 0, .int .i64 0, .int .i64 0, .int .i64 0, .int .i64 0, .int .i64 0, .int .i64 0, .int .i64 0, .int .i64 0, .int .i64 0, .int .i64 0, .int .i64 0, .int .i64 0, .int .i64 0, .int .i64 0, .int .i64 0, .int .i64 0, .int .i64 0, .int .i64 0]) } := by kernel_rfl
theorem Tryz.ti175 : tiOf Tryz.prog 175 = some { kind := .struct [(0, 173), (24, 173)], size := 48, bytes := 384, zero := some (.agg #[.int .i64 0, .int .i64 0, .int .i64 0, .int .i64 0, .int .i64 0, .int .i64 0, .int .i64 0, .int .i64 0, .int .i64 0, .int .i64 0, .int .i64 0, .int .i64 0, .int .i64 0, .int .i64 0, .int .i64 0, .int .i64 0, .int .i64 0, .int .i64 0, .int .i64 0, .int .i64 0, .int .i64 0, .int .i64 0, .int .i64 0, .int .i64 0, .int .i64 0, .int .i64 0, .int .i64 0, .int .i64 0, .int .i64 0, .int .i64 0, .int .i64 0, .int .i64 0, .int .i64 0, .int .i64 0, .int .i64 0, .int .i64 0, .int .i64 0, .int .i64 0, .int .i64 0, .int .i64 0, .int .i64 0, .int .i64 0, .int .i64 0, .int .i64 0, .int .i64 0, .int .i64 0, .int .i64 0, .int .i64 0]) } := by kernel_rfl
theorem Tryz.tabAll : allTT Tryz.prog Tryz.tabT :=
 ⟨⟨⟨⟨⟨⟨trivial, Tryz.ti3, trivial⟩, Tryz.ti4, trivial⟩, Tryz.ti5, ⟨trivial, Tryz.ti9, trivial⟩⟩, Tryz.ti22, ⟨⟨⟨trivial, Tryz.ti27, trivial⟩, Tryz.ti28, trivial⟩, Tryz.ti29, ⟨trivial, Tryz.ti30, trivial⟩⟩⟩, Tryz.ti32, ⟨⟨⟨⟨trivial, Tryz.ti34, trivial⟩, Tryz.ti35, trivial⟩, Tryz.ti37, ⟨trivial, Tryz.ti39, trivial⟩⟩, Tryz.ti43, ⟨⟨trivial, Tryz.ti44, trivial⟩, Tryz.ti50, ⟨trivial, Tryz.ti52, trivial⟩⟩⟩⟩, Tryz.ti54, ⟨⟨⟨⟨⟨trivial, Tryz.ti57, trivial⟩, Tryz.ti74, trivial⟩, Tryz.ti80, ⟨trivial, Tryz.ti81, trivial⟩⟩, Tryz.ti83, ⟨⟨trivial, Tryz.ti85, trivial⟩, Tryz.ti88, ⟨trivial, Tryz.ti93, trivial⟩⟩⟩, Tryz.ti97, ⟨⟨⟨⟨trivial, Tryz.ti104, trivial⟩, Tryz.ti107, trivial⟩, Tryz.ti135, ⟨trivial, Tryz.ti141, trivial⟩⟩, Tryz.ti158, ⟨⟨trivial, Tryz.ti166, trivial⟩, Tryz.ti173, ⟨trivial, Tryz.ti175, trivial⟩⟩⟩⟩⟩
theorem Tryz.mixed : Tryz.prog.follows .mixedOrders = true := by kernel_rfl
theorem Tryz.tabOk (t : Nat) (i : TI) (h : getTT Tryz.tabT t = some i) : tiOf Tryz.prog t = some i := getTT_ok Tryz.tabAll h
noncomputable def Tryz.env : Env := ⟨Tryz.prog, getTT Tryz.tabT, Tryz.tabOk, Tryz.mixed⟩
theorem Tryz.bld32 : Bld Tryz.env 32 [(0, 1), (1, 1), (2, 1), (3, 1), (4, 1), (5, 1)] [.v (.slice none 0 0), .v (.slice none 0 0), .v (.slice none 0 0), .v (.slice none 0 0), .v (.int .i64 0), .v (.int .i64 0)] := ⟨⟨_, _, _, rfl, rfl, rfl, rfl, rfl, rfl, rfl⟩⟩
theorem Tryz.bld37 : Bld Tryz.env 37 [(0, 1), (1, 1), (2, 1)] [.v (.slice none 0 0), .v (.slice none 0 0), .v (.slice none 0 0)] := ⟨⟨_, _, _, rfl, rfl, rfl, rfl, rfl, rfl, rfl⟩⟩
theorem Tryz.bld39 : Bld Tryz.env 39 [(0, 1), (1, 3)] [.v (.slice none 0 0), .v (.slice none 0 0), .v (.slice none 0 0), .v (.slice none 0 0)] := ⟨⟨_, _, _, rfl, rfl, rfl, rfl, rfl, rfl, rfl⟩⟩
theorem Tryz.bld52 : Bld Tryz.env 52 [(0, 1), (1, 1), (2, 1), (3, 1)] [.v (.int .i64 0), .v (.int .i64 0), .v (.slice none 0 0), .v (.int .i64 0)] := ⟨⟨_, _, _, rfl, rfl, rfl, rfl, rfl, rfl, rfl⟩⟩
theorem Tryz.bld54 : Bld Tryz.env 54 [(0, 1), (1, 1), (2, 1), (3, 4)] [.v (.int .i64 0), .v (.int .i64 0), .v (.int .i64 0), .v (.int .i64 0), .v (.int .i64 0), .v (.slice none 0 0), .v (.int .i64 0)] := ⟨⟨_, _, _, rfl, rfl, rfl, rfl, rfl, rfl, rfl⟩⟩
theorem Tryz.bld74 : Bld Tryz.env 74 [(0, 1), (1, 1), (2, 1), (3, 1)] [.v (.int .i64 0), .v (.int .i64 0), .v (.bool false), .v (.bool false)] := ⟨⟨_, _, _, rfl, rfl, rfl, rfl, rfl, rfl, rfl⟩⟩
theorem Tryz.bld80 : Bld Tryz.env 80 [(0, 1), (1, 1), (2, 1)] [.v (.int .i64 0), .v (.int .i64 0), .v (.int .i64 0)] := ⟨⟨_, _, _, rfl, rfl, rfl, rfl, rfl, rfl, rfl⟩⟩
theorem Tryz.bld83 : Bld Tryz.env 83 [(0, 1), (1, 1), (2, 1), (3, 1), (4, 1), (5, 1), (6, 1)] [.v (.string ⟨#[]⟩), .v (.int .i64 0), .v (.int .i64 0), .v (.int .i64 0), .v (.int .i64 0), .v (.int .i64 0), .v (.slice none 0 0)] := ⟨⟨_, _, _, rfl, rfl, rfl, rfl, rfl, rfl, rfl⟩⟩
theorem Tryz.bld85 : Bld Tryz.env 85 [(0, 1), (1, 1), (2, 1)] [.v (.string ⟨#[]⟩), .v (.int .i64 0), .v (.int .i64 0)] := ⟨⟨_, _, _, rfl, rfl, rfl, rfl, rfl, rfl, rfl⟩⟩
theorem Tryz.bld88 : Bld Tryz.env 88 [(0, 1), (1, 1)] [.v (.slice none 0 0), .v (.int .i64 0)] := ⟨⟨_, _, _, rfl, rfl, rfl, rfl, rfl, rfl, rfl⟩⟩
theorem Tryz.bld93 : Bld Tryz.env 93 [(0, 1), (1, 1), (2, 1), (3, 1), (4, 1)] [.v (.string ⟨#[]⟩), .v (.int .i64 0), .v (.int .i64 0), .v (.int .i64 0), .v (.int .i64 0)] := ⟨⟨_, _, _, rfl, rfl, rfl, rfl, rfl, rfl, rfl⟩⟩
theorem Tryz.bld97 : Bld Tryz.env 97 [(0, 1), (1, 1)] [.v (.slice none 0 0), .v (.slice none 0 0)] := ⟨⟨_, _, _, rfl, rfl, rfl, rfl, rfl, rfl, rfl⟩⟩
theorem Tryz.bld107 : Bld Tryz.env 107 [(0, 1), (1, 1)] [.v (.int .i64 0), .v (.bool false)] := ⟨⟨_, _, _, rfl, rfl, rfl, rfl, rfl, rfl, rfl⟩⟩
theorem Tryz.bld141 : Bld Tryz.env 141 [(0, 6), (6, 1), (7, 1)] [.v (.slice none 0 0), .v (.slice none 0 0), .v (.slice none 0 0), .v (.slice none 0 0), .v (.int .i64 0), .v (.int .i64 0), .v (.slice none 0 0), .v (.slice none 0 0)] := ⟨⟨_, _, _, rfl, rfl, rfl, rfl, rfl, rfl, rfl⟩⟩
theorem Tryz.eq74 : eqOk Tryz.prog 74 = true := by kernel_rfl
theorem Tryz.eq107 : eqOk Tryz.prog 107 = true := by kernel_rfl
theorem Tryz.eq173 : eqOkA Tryz.prog 173 = true := by kernel_rfl
set_option linter.unusedVariables false
set_option linter.unusedSimpArgs false
structure Point where
 At : Int
 Height : Int
 Limit : Int
 deriving DecidableEq
def Point.row (x : Point) : List T := [.v (.int .i64 x.At), .v (.int .i64 x.Height), .v (.int .i64 x.Limit)]
structure Segment where
 Name : ByteArray
 From : Int
 To : Int
 Capacity : Int
 Resist : Int
 Wave : Int
 Points : List Point
 deriving DecidableEq
def Segment.row (x : Segment) : List T := [.v (.string x.Name), .v (.int .i64 x.From), .v (.int .i64 x.To), .v (.int .i64 x.Capacity), .v (.int .i64 x.Resist), .v (.int .i64 x.Wave), .list 3 (x.Points.map Point.row)]
structure Port where
 Name : ByteArray
 Node : Int
 Pressure : Int
 deriving DecidableEq
def Port.row (x : Port) : List T := [.v (.string x.Name), .v (.int .i64 x.Node), .v (.int .i64 x.Pressure)]
structure Station where
 Name : ByteArray
 Node : Int
 Head : Int
 Fall : Int
 Suction : Int
 deriving DecidableEq
def Station.row (x : Station) : List T := [.v (.string x.Name), .v (.int .i64 x.Node), .v (.int .i64 x.Head), .v (.int .i64 x.Fall), .v (.int .i64 x.Suction)]
structure Network where
 Nodes : List ByteArray
 Segments : List Segment
 Ports : List Port
 Stations : List Station
 Vapour : Int
 Settle : Int
 deriving DecidableEq
def Network.row (x : Network) : List T := [.list 1 (x.Nodes.map rS), .list 7 (x.Segments.map Segment.row), .list 3 (x.Ports.map Port.row), .list 5 (x.Stations.map Station.row), .v (.int .i64 x.Vapour), .v (.int .i64 x.Settle)]
structure Plan where
 Rates : List Int
 Ports : List Int
 Pumps : List Bool
 deriving DecidableEq
def Plan.row (x : Plan) : List T := [.list 1 (x.Rates.map rI), .list 1 (x.Ports.map rI), .list 1 (x.Pumps.map rB)]
structure flow_streams where
 come : Arr Int 24
 leave : Arr Int 24
 deriving DecidableEq
def flow_streams.row (x : flow_streams) : List T := x.come.l.map cI ++ (x.leave.l.map cI ++ [])
structure KS where
 L_ : List Int
 At : Int
 deriving DecidableEq
def KS.row (x : KS) : List T := [.list 1 (x.L_.map rI), .v (.int .i64 x.At)]
def L.ztzg (a : Segment) (b : Int) : (Int × Int) := if decide (b < 0) = true then (a.To, a.From) else (a.From, a.To)
def L.zqkj (a : Int) (b : Int) : Bool := (decide (a ≥ (wr (0 - b))) && decide (a ≤ b))
def L.zbjp.J1 (a : Int) : Option Int := some a
def L.zbjp (c : Int) (a : Int) : Option Int := if decide (a < 1) = true then some 0 else (rem? c a).bind fun b => if decide (b < 0) = true then L.zbjp.J1 (wr (b + a)) else L.zbjp.J1 b
def L.zvhs (a : Int) (b : Int) (c : Int) : Bool := (decide (a ≥ b) && decide (a ≤ c))
def L.zuap (a : Int) : Int := (max a (wr (0 - a)))
def L.zsbv.J1 (a : Unit) : Option Int := some (-1)
def L.zsbv.B2 (a : ByteArray) (b : Nat) (c : ByteArray) (d : Unit) : Option (Unit ⊕ (Int)) := if sEq a c = true then some ((.inr ((b : Int)))) else some (.inl ())
def L.zsbv (a : List ByteArray) (b : ByteArray) : Option Int := (forL (L.zsbv.B2 b) 0 a ()).bind fun c => Sum.elim (fun e => L.zsbv.J1 ()) (fun d => some d) c
def L.zapw.J1 (a : Unit) : Option Int := some (-1)
def L.zapw.B2 (a : Int → Option Bool) (b : Nat) (c : Int) (e : Unit) : Option (Unit ⊕ (Int)) := (a c).bind fun d => if d = true then some ((.inr ((b : Int)))) else some (.inl ())
def L.zapw (a : List Int) (b : Int → Option Bool) : Option Int := (forL (L.zapw.B2 b) 0 a ()).bind fun c => Sum.elim (fun e => L.zapw.J1 ()) (fun d => some d) c
def L.zvoj (a : List Int) (b : Int → Option Bool) : Option Bool := (L.zapw a b).bind fun c => some (decide (c ≥ 0))
def L.zqyu.J1 (a : Unit) : Option Int := some (-1)
def L.zqyu.B2 (a : ByteArray → Option Bool) (b : Nat) (c : ByteArray) (e : Unit) : Option (Unit ⊕ (Int)) := (a c).bind fun d => if d = true then some ((.inr ((b : Int)))) else some (.inl ())
def L.zqyu (a : List ByteArray) (b : ByteArray → Option Bool) : Option Int := (forL (L.zqyu.B2 b) 0 a ()).bind fun c => Sum.elim (fun e => L.zqyu.J1 ()) (fun d => some d) c
def L.zmkj (a : List ByteArray) (b : ByteArray → Option Bool) : Option Bool := (L.zqyu a b).bind fun c => some (decide (c ≥ 0))
def L.zbuy.J1 (a : Unit) : Option Int := some (-1)
def L.zbuy.B2 (a : Segment → Option Bool) (b : Nat) (c : Segment) (e : Unit) : Option (Unit ⊕ (Int)) := (a c).bind fun d => if d = true then some ((.inr ((b : Int)))) else some (.inl ())
def L.zbuy (a : List Segment) (b : Segment → Option Bool) : Option Int := (forL (L.zbuy.B2 b) 0 a ()).bind fun c => Sum.elim (fun e => L.zbuy.J1 ()) (fun d => some d) c
def L.zwuu (a : List Segment) (b : Segment → Option Bool) : Option Bool := (L.zbuy a b).bind fun c => some (decide (c ≥ 0))
def L.zobp.J1 (a : Unit) : Option Int := some (-1)
def L.zobp.B2 (a : Port → Option Bool) (b : Nat) (c : Port) (e : Unit) : Option (Unit ⊕ (Int)) := (a c).bind fun d => if d = true then some ((.inr ((b : Int)))) else some (.inl ())
def L.zobp (a : List Port) (b : Port → Option Bool) : Option Int := (forL (L.zobp.B2 b) 0 a ()).bind fun c => Sum.elim (fun e => L.zobp.J1 ()) (fun d => some d) c
def L.zdru (a : List Port) (b : Port → Option Bool) : Option Bool := (L.zobp a b).bind fun c => some (decide (c ≥ 0))
def L.zywf.J1 (a : Unit) : Option Int := some (-1)
def L.zywf.B2 (a : Station → Option Bool) (b : Nat) (c : Station) (e : Unit) : Option (Unit ⊕ (Int)) := (a c).bind fun d => if d = true then some ((.inr ((b : Int)))) else some (.inl ())
def L.zywf (a : List Station) (b : Station → Option Bool) : Option Int := (forL (L.zywf.B2 b) 0 a ()).bind fun c => Sum.elim (fun e => L.zywf.J1 ()) (fun d => some d) c
def L.ztlc (a : List Station) (b : Station → Option Bool) : Option Bool := (L.zywf a b).bind fun c => some (decide (c ≥ 0))
def L.zzec (a : Segment) : Bool := (decide ((a.Points.length : Int) < 2) || decide ((a.Points.length : Int) > 8))
def L.znhd (a : Network) : Option Bool := if (decide ((a.Nodes.length : Int) < 1) || (decide ((a.Nodes.length : Int) > 24) || (decide ((a.Segments.length : Int) > 32) || (decide ((a.Ports.length : Int) > 24) || decide ((a.Stations.length : Int) > 12))))) = true then some false else (L.zwuu a.Segments (fun x => some (L.zzec x))).bind fun b => some (!b)
def L.zsgw.J1 (a : List Int) : Option (List Int) := some a
def L.zsgw.J3 (a : (List Int) × (List Bool) × Int) : Option (((List Int) × (List Bool) × Int) ⊕ ((List Int))) := some (.inl (a.1, a.2.1, wr (a.2.2 + 1)))
def L.zsgw.J4 (a : (List Int) × (List Bool) × Int) (b : Nat × Bool) (d : Unit) : Option (((List Int) × (List Bool) × Int) ⊕ ((List Int))) := (app? a.1 ([a.2.2] : List Int)).bind fun c => L.zsgw.J3 (c, (a.2.1.set b.1 true), (-1))
def L.zsgw.J6 (a : (List Int) × (List Bool) × Int) (b : Bool) : Option (Unit ⊕ (((List Int) × (List Bool) × Int))) := if b = true then some ((.inr ((a.1, a.2.1, a.2.2)))) else some (.inl ())
def L.zsgw.B5 (d : Plan) (a : (List Int) × (List Bool) × Int) (e : Nat) (c : Segment) (g : Unit) : Option (Unit ⊕ (((List Int) × (List Bool) × Int))) := (ix d.Rates (e : Int)).bind fun b => if (b.2 != 0) = true then if (((L.ztzg c b.2).2) == a.2.2) = true then (ix a.2.1 ((L.ztzg c b.2).1)).bind fun f => L.zsgw.J6 a (!f.2) else L.zsgw.J6 a false else L.zsgw.J6 a false
def L.zsgw.B2 (b : Network) (d : Plan) (a : (List Int) × (List Bool) × Int) : Option (((List Int) × (List Bool) × Int) ⊕ ((List Int))) := if decide (a.2.2 < (b.Nodes.length : Int)) = true then (ix a.2.1 a.2.2).bind fun c => if c.2 = true then L.zsgw.J3 (a.1, a.2.1, a.2.2) else (forL (L.zsgw.B5 d a) 0 b.Segments ()).bind fun e => Sum.elim (fun g => L.zsgw.J4 a c ()) (fun f => L.zsgw.J3 f) e else some ((.inr (a.1)))
def L.zsgw (a : Network) (b : Plan) : Option (List Int) := (mk? (a.Nodes.length : Int) false).bind fun c => (loopN (L.zsgw.B2 a b) lots ([], c, 0)).bind fun d => L.zsgw.J1 d
def L.zfnd.J1 (a : Unit) : Int := 2
def L.zfnd (a : Int) : Int := if (decide (a ≥ 97) && decide (a ≤ 122)) = true then 1 else if (decide (a ≥ 48) && decide (a ≤ 57)) = true then L.zfnd.J1 () else if (a == 45) = true then L.zfnd.J1 () else 0
def L.zcvq.J2 (a : Unit) : Option Bool := some true
def L.zcvq.B3 (a : ByteArray) (b : Nat) (d : Unit) : Option (Unit ⊕ (Bool)) := (ixs a (b : Int)).bind fun c => if ((L.zfnd c.2) == 0) = true then some ((.inr (false))) else some (.inl ())
def L.zcvq.J1 (a : ByteArray) (b : Bool) : Option Bool := if b = true then some false else (chk ((a.size : Int) ≤ 9223372036854775806)).bind fun e => (forI (L.zcvq.B3 a) 0 ((a.size : Int).toNat) ()).bind fun c => Sum.elim (fun f => L.zcvq.J2 ()) (fun d => some d) c
def L.zcvq (a : ByteArray) : Option Bool := if decide ((a.size : Int) < 1) = true then L.zcvq.J1 a true else if decide ((a.size : Int) > 12) = true then L.zcvq.J1 a true else (ixs a 0).bind fun b => L.zcvq.J1 a ((L.zfnd b.2) != 1)
def L.zalp.J3 (a : Network) (b : List ByteArray) (c : List ByteArray) (d : List ByteArray) : Option (Arr (List ByteArray) 4) := some (⟨[a.Nodes, b, c, d], rfl⟩ : Arr (List ByteArray) 4)
def L.zalp.B4 (d : Nat) (a : Station) (b : List ByteArray) : Option (List ByteArray) := (app? b ([a.Name] : List ByteArray)).bind fun c => some c
def L.zalp.J2 (a : Network) (b : List ByteArray) (c : List ByteArray) : Option (Arr (List ByteArray) 4) := (forS L.zalp.B4 0 a.Stations []).bind fun d => L.zalp.J3 a b c d
def L.zalp.B5 (d : Nat) (a : Port) (b : List ByteArray) : Option (List ByteArray) := (app? b ([a.Name] : List ByteArray)).bind fun c => some c
def L.zalp.J1 (a : Network) (b : List ByteArray) : Option (Arr (List ByteArray) 4) := (forS L.zalp.B5 0 a.Ports []).bind fun c => L.zalp.J2 a b c
def L.zalp.B6 (d : Nat) (a : Segment) (b : List ByteArray) : Option (List ByteArray) := (app? b ([a.Name] : List ByteArray)).bind fun c => some c
def L.zalp (a : Network) : Option (Arr (List ByteArray) 4) := (forS L.zalp.B6 0 a.Segments []).bind fun b => L.zalp.J1 a b
def L.zsgv (a : Station) (b : Station) : Bool := (a.Node == b.Node)
def L.zybm.J2 (a : Unit) : Option Bool := some false
def L.zybm.B3 (a : Network) (b : Nat) (c : Station) (e : Unit) : Option (Unit ⊕ (Bool)) := (L.zywf a.Stations (fun x => some (L.zsgv x c))).bind fun d => if decide (d < (b : Int)) = true then some ((.inr (true))) else some (.inl ())
def L.zybm.J1 (a : Network) (d : Unit) : Option Bool := (forL (L.zybm.B3 a) 0 a.Stations ()).bind fun b => Sum.elim (fun e => L.zybm.J2 ()) (fun c => some c) b
def L.zybm.J5 (a : Unit) : Option (Unit ⊕ (Bool)) := some (.inl ())
def L.zybm.B6 (a : Nat × (List ByteArray)) (b : Nat) (c : ByteArray) (e : Unit) : Option (Unit ⊕ (Bool)) := (L.zsbv a.2 c).bind fun d => if decide (d < (b : Int)) = true then some ((.inr (true))) else some (.inl ())
def L.zybm.B4 (b : Arr (List ByteArray) 4) (c : Nat) (f : Unit) : Option (Unit ⊕ (Bool)) := (ix b.l (c : Int)).bind fun a => (forL (L.zybm.B6 a) 0 a.2 ()).bind fun d => Sum.elim (fun g => L.zybm.J5 ()) (fun e => some ((.inr (e)))) d
def L.zybm (a : Network) : Option Bool := (L.zalp a).bind fun b => (forI (L.zybm.B4 b) 0 4 ()).bind fun c => Sum.elim (fun e => L.zybm.J1 a ()) (fun d => some d) c
def L.zxqi (a : Int) (b : Network) : Bool := (decide (a < 0) || decide (a ≥ (b.Nodes.length : Int)))
def L.zctd.J3 (a : Network) (b : List Int) : Option Bool := (L.zvoj b (fun x => some (L.zxqi x a))).bind fun c => some (!c)
def L.zctd.B4 (d : Nat) (a : Station) (b : List Int) : Option (List Int) := (app? b ([a.Node] : List Int)).bind fun c => some c
def L.zctd.J2 (a : Network) (b : List Int) : Option Bool := (forS L.zctd.B4 0 a.Stations b).bind fun c => L.zctd.J3 a c
def L.zctd.B5 (d : Nat) (a : Port) (b : List Int) : Option (List Int) := (app? b ([a.Node] : List Int)).bind fun c => some c
def L.zctd.J1 (a : Network) (b : List Int) : Option Bool := (forS L.zctd.B5 0 a.Ports b).bind fun c => L.zctd.J2 a c
def L.zctd.B6 (d : Nat) (a : Segment) (b : List Int) : Option (List Int) := (app? b ([a.From, a.To] : List Int)).bind fun c => some c
def L.zctd (a : Network) : Option Bool := (forS L.zctd.B6 0 a.Segments []).bind fun b => L.zctd.J1 a b
def L.zcxq.J2 (a : Bool) : Option Bool := some a
def L.zcxq.J1 (a : Segment) (d : Unit) : Option Bool := (ix a.Points 0).bind fun b => if (b.2.At == 0) = true then (ix a.Points (wr ((a.Points.length : Int) - 1))).bind fun c => L.zcxq.J2 (c.2.At == a.Capacity) else L.zcxq.J2 false
def L.zcxq.J4 (a : Bool) : Option (Unit ⊕ (Bool)) := if a = true then some ((.inr (false))) else some (.inl ())
def L.zcxq.B3 (c : Segment) (b : Nat) (a : Point) (e : Unit) : Option (Unit ⊕ (Bool)) := if (!(L.zvhs a.Height (-500) 5000)) = true then L.zcxq.J4 true else if (!(L.zvhs a.Limit 0 100000000)) = true then L.zcxq.J4 true else if decide ((b : Int) > 0) = true then (ix c.Points (wr ((b : Int) - 1))).bind fun d => L.zcxq.J4 (decide (a.At ≤ d.2.At)) else L.zcxq.J4 false
def L.zcxq (a : Segment) : Option Bool := if ((a.From == a.To) || ((!(L.zvhs a.Capacity 1 1000000)) || ((!(L.zvhs a.Resist 0 1000)) || (!(L.zvhs a.Wave 0 100000))))) = true then some false else (forL (L.zcxq.B3 a) 0 a.Points ()).bind fun b => Sum.elim (fun d => L.zcxq.J1 a ()) (fun c => some c) b
def L.zyto (a : Segment) : Option Bool := (L.zcxq a).bind fun b => some (!b)
def L.zxcm (a : Port) : Bool := (!(L.zvhs a.Pressure 0 100000000))
def L.zeku (a : Station) : Bool := ((!(L.zvhs a.Head 0 100000000)) || ((!(L.zvhs a.Fall 0 100000)) || (!(L.zvhs a.Suction 0 100000000))))
def L.zdqn (a : Network) : Option Bool := (L.zwuu a.Segments (fun x => L.zyto x)).bind fun b => if b = true then some false else (L.zdru a.Ports (fun x => some (L.zxcm x))).bind fun c => if c = true then some false else (L.ztlc a.Stations (fun x => some (L.zeku x))).bind fun d => if d = true then some false else some ((L.zvhs a.Vapour (-100000) 100000000) && (L.zvhs a.Settle 0 100))
def L.zqbg (a : ByteArray) : Option Bool := (L.zcvq a).bind fun b => some (!b)
def L.zfta.J1 (a : Network) (e : Unit) : Option Int := (L.zybm a).bind fun b => if b = true then some 7 else (L.zctd a).bind fun c => if (!c) = true then some 8 else (L.zdqn a).bind fun d => if (!d) = true then some 9 else some 0
def L.zfta.B2 (a : Arr (List ByteArray) 4) (b : Nat) (e : Unit) : Option (Unit ⊕ (Int)) := (ix a.l (b : Int)).bind fun c => (L.zmkj c.2 (fun x => L.zqbg x)).bind fun d => if d = true then some ((.inr (3))) else some (.inl ())
def L.zfta (a : Network) : Option Int := (L.znhd a).bind fun b => if (!b) = true then some 4 else (L.zalp a).bind fun c => (forI (L.zfta.B2 c) 0 4 ()).bind fun d => Sum.elim (fun f => L.zfta.J1 a ()) (fun e => some e) d
def L.zuui.J2 (a : flow_streams) (b : Int × Int × Int) (c : Arr Int 24) : Option flow_streams := if decide (b.2.1 ≥ 0) = true then (ix a.come.l b.2.1).bind fun d => some (⟨(a.come.set d.1 (wr (d.2 + b.2.2))), c⟩ : flow_streams) else some (⟨a.come, c⟩ : flow_streams)
def L.zuui.J1 (a : flow_streams) (b : Int × Int × Int) : Option flow_streams := if decide (b.1 ≥ 0) = true then (ix a.leave.l b.1).bind fun c => L.zuui.J2 a b (a.leave.set c.1 (wr (c.2 + b.2.2))) else L.zuui.J2 a b a.leave
def L.zuui (b : flow_streams) (c : Int) (d : Int) (a : Int) : Option flow_streams := if decide (a < 0) = true then L.zuui.J1 b (d, c, wr (0 - a)) else L.zuui.J1 b (c, d, a)
def L.zzkf.J2 (a : (Arr Int 24) × (Arr Int 24)) : Option flow_streams := some (⟨a.1, a.2⟩ : flow_streams)
def L.zzkf.B3 (c : Plan) (d : Nat) (e : Port) (a : (Arr Int 24) × (Arr Int 24)) : Option ((Arr Int 24) × (Arr Int 24)) := (ix c.Ports (d : Int)).bind fun f => (L.zuui (⟨a.1, a.2⟩ : flow_streams) (-1) e.Node f.2).bind fun b => some (b.come, b.leave)
def L.zzkf.J1 (c : Network) (d : Plan) (a : (Arr Int 24) × (Arr Int 24)) : Option flow_streams := (forS (L.zzkf.B3 d) 0 c.Ports (a.1, a.2)).bind fun b => L.zzkf.J2 (b.1, b.2)
def L.zzkf.B4 (d : Plan) (e : Nat) (a : Segment) (b : (Arr Int 24) × (Arr Int 24)) : Option ((Arr Int 24) × (Arr Int 24)) := (ix d.Rates (e : Int)).bind fun f => (L.zuui (⟨b.1, b.2⟩ : flow_streams) a.From a.To f.2).bind fun c => some (c.come, c.leave)
def L.zzkf (a : Network) (b : Plan) : Option flow_streams := (forS (L.zzkf.B4 b) 0 a.Segments ((Arr.rep 24 (0 : Int)), (Arr.rep 24 (0 : Int)))).bind fun c => L.zzkf.J1 a b (c.1, c.2)
def L.zfct (a : Int) : Bool := (!(L.zqkj a 1000))
def L.zmqu.J1 (a : Network) (b : Plan) (f : Unit) : Option Int := (L.zvoj b.Ports (fun x => some (L.zfct x))).bind fun d => if d = true then some 1 else (L.zzkf a b).bind fun c => if (!decide (c.come = c.leave)) = true then some 12 else (L.zsgw a b).bind fun e => if decide ((e.length : Int) < (a.Nodes.length : Int)) = true then some 13 else some 0
def L.zmqu.B2 (a : Plan) (b : Nat) (c : Segment) (e : Unit) : Option (Unit ⊕ (Int)) := (ix a.Rates (b : Int)).bind fun d => if (!(L.zqkj d.2 (min 1000 c.Capacity))) = true then some ((.inr (1))) else some (.inl ())
def L.zmqu (a : Network) (b : Plan) : Option Int := (L.zfta a).bind fun c => if (c != 0) = true then some c else if (((b.Rates.length : Int) != (a.Segments.length : Int)) || (((b.Ports.length : Int) != (a.Ports.length : Int)) || ((b.Pumps.length : Int) != (a.Stations.length : Int)))) = true then some 9 else (forL (L.zmqu.B2 b) 0 a.Segments ()).bind fun d => Sum.elim (fun f => L.zmqu.J1 a b ()) (fun e => some e) d
def L.ziti (a : List Int) : Option KS := (sub? a 0 (min (a.length : Int) 2000)).bind fun b => some (⟨b, 0⟩ : KS)
def L.zxpl (a : KS) : Option (Int × KS) := if decide (a.At ≥ (a.L_.length : Int)) = true then some (0, a) else (ix a.L_ (wr ((wr (a.At + 1)) - 1))).bind fun b => some (b.2, (⟨a.L_, wr (a.At + 1)⟩ : KS))
def L.zdjb (b : KS) (c : Int) : Option (Int × KS) := (L.zxpl b).bind fun a => (L.zbjp a.1 c).bind fun d => some (d, a.2)
def L.zeyi (a : ByteArray) (b : Int) : Option ByteArray := (bytes? ([IntKind.u8.wrap (wr (97 + (b.tmod 26)))] : List Int)).bind fun c => (cat? a c).bind fun d => some d
def L.ztqk (c : KS) (a : List Int) : Option (Int × KS) := (L.zdjb c (a.length : Int)).bind fun b => (ix a b.1).bind fun d => some (d.2, b.2)
def L.ziuk (c : KS) (a : Int) (d : Int) : Option (Int × KS) := (L.zdjb c (wr ((wr (d - a)) + 1))).bind fun b => some (wr (a + b.1), b.2)
def L.zsex.J2 (b : (List Int) × Int × Int × Int) (e : ByteArray) (c : Int × KS) (f : Int × KS) (g : Int × KS) (h : Int × KS) (a : (List Int) × Int × (List Point)) : Option (Segment × KS) := (L.ziuk (⟨a.1, a.2.1⟩ : KS) (-5) 30).bind fun d => (app? a.2.2 ([(⟨c.1, d.1, h.1⟩ : Point)] : List Point)).bind fun i => some ((⟨e, b.2.2.1, b.2.2.2, c.1, f.1, g.1, i⟩ : Segment), d.2)
def L.zsex.J4 (g : Int × KS) (h : Int × KS) (a : (List Int) × Int × (List Point) × Int) (c : (List Int) × Int × Bool) : Option (((List Int) × Int × (List Point) × Int) ⊕ (((List Int) × Int × (List Point)))) := if c.2.2 = true then (L.ziuk (⟨c.1, c.2.1⟩ : KS) 1 40).bind fun b => if decide ((wr (a.2.2.2 + b.1)) ≥ g.1) = true then some ((.inr ((b.2.L_, b.2.At, a.2.2.1)))) else (L.ziuk b.2 (-5) 60).bind fun e => (L.ztqk e.2 ([1, 1, 10] : List Int)).bind fun f => (L.zdjb f.2 3).bind fun d => (app? a.2.2.1 ([(⟨wr (a.2.2.2 + b.1), wr (e.1 * f.1), wr (h.1 - (wr (d.1 * 1000)))⟩ : Point)] : List Point)).bind fun i => some (.inl (d.2.L_, d.2.At, i, wr (a.2.2.2 + b.1))) else some ((.inr ((c.1, c.2.1, a.2.2.1))))
def L.zsex.B3 (c : Int × KS) (d : Int × KS) (a : (List Int) × Int × (List Point) × Int) : Option (((List Int) × Int × (List Point) × Int) ⊕ (((List Int) × Int × (List Point)))) := if decide ((a.2.2.1.length : Int) < 7) = true then (L.zdjb (⟨a.1, a.2.1⟩ : KS) 3).bind fun b => L.zsex.J4 c d a (b.2.L_, b.2.At, decide (b.1 > 0)) else L.zsex.J4 c d a (a.1, a.2.1, false)
def L.zsex.J1 (g : Int) (b : (List Int) × Int × Int × Int) : Option (Segment × KS) := (L.zeyi (⟨#[103]⟩ : ByteArray) g).bind fun h => (L.ztqk (⟨b.1, b.2.1⟩ : KS) ([1, 2, 7, 20, 60, 200, 1000] : List Int)).bind fun c => (L.ztqk c.2 ([0, 1, 5, 1000] : List Int)).bind fun e => (L.ztqk e.2 ([0, 50, 1000, 100000] : List Int)).bind fun f => (L.ztqk f.2 ([1000000, 6000000, 100000000] : List Int)).bind fun a => (L.ziuk a.2 (-5) 30).bind fun d => (app? [] ([(⟨0, d.1, a.1⟩ : Point)] : List Point)).bind fun i => (loopN (L.zsex.B3 c a) lots (d.2.L_, d.2.At, i, 0)).bind fun j => L.zsex.J2 b h c e f a j
def L.zsex (e : KS) (b : Int) (c : Int) (d : Int) : Option (Segment × KS) := (L.zdjb e 4).bind fun a => if (a.1 == 0) = true then L.zsex.J1 b (a.2.L_, a.2.At, d, c) else L.zsex.J1 b (a.2.L_, a.2.At, c, d)
def L.zeju.J4 (b : Int × KS) (c : Int × KS) (d : (List Int) × Int × (List ByteArray)) (e : (List Int) × Int × (List Segment)) (a : (List Int) × Int × (List Port) × (List Station)) : Option (Network × KS) := some ((⟨d.2.2, e.2.2, a.2.2.1, a.2.2.2, b.1, c.1⟩ : Network), (⟨a.1, a.2.1⟩ : KS))
def L.zeju.J6 (b : (List Int) × Int × (List Port) × (List Station) × Int) (a : (List Int) × Int × (List Port) × (List Station)) : Option (((List Int) × Int × (List Port) × (List Station) × Int) ⊕ (((List Int) × Int × (List Port) × (List Station)))) := some (.inl (a.1, a.2.1, a.2.2.1, a.2.2.2, wr (b.2.2.2.2 + 1)))
def L.zeju.J8 (a : (List Int) × Int × (List Port) × (List Station) × Int) (d : (List Int) × Int × (List Port)) (b : (List Int) × Int × Bool) : Option (((List Int) × Int × (List Port) × (List Station) × Int) ⊕ (((List Int) × Int × (List Port) × (List Station)))) := if b.2.2 = true then (L.zeyi (⟨#[115]⟩ : ByteArray) (a.2.2.2.1.length : Int)).bind fun g => (L.ztqk (⟨b.1, b.2.1⟩ : KS) ([500000, 2000000, 0] : List Int)).bind fun e => (L.ztqk e.2 ([0, 200, 100000] : List Int)).bind fun f => (L.ztqk f.2 ([0, 100000, 400000] : List Int)).bind fun c => (app? a.2.2.2.1 ([(⟨g, a.2.2.2.2, e.1, f.1, c.1⟩ : Station)] : List Station)).bind fun h => L.zeju.J6 a (c.2.L_, c.2.At, d.2.2, h) else L.zeju.J6 a (b.1, b.2.1, d.2.2, a.2.2.2.1)
def L.zeju.J7 (d : (List Int) × Int × (List ByteArray)) (b : (List Int) × Int × (List Port) × (List Station) × Int) (a : (List Int) × Int × (List Port)) : Option (((List Int) × Int × (List Port) × (List Station) × Int) ⊕ (((List Int) × Int × (List Port) × (List Station)))) := if decide (b.2.2.2.2 < (wr ((d.2.2.length : Int) - 1))) = true then (L.zdjb (⟨a.1, a.2.1⟩ : KS) 3).bind fun c => L.zeju.J8 b a (c.2.L_, c.2.At, (c.1 == 0)) else L.zeju.J8 b a (a.1, a.2.1, false)
def L.zeju.J9 (d : (List Int) × Int × (List ByteArray)) (a : (List Int) × Int × (List Port) × (List Station) × Int) (b : (List Int) × Int × Bool) : Option (((List Int) × Int × (List Port) × (List Station) × Int) ⊕ (((List Int) × Int × (List Port) × (List Station)))) := if b.2.2 = true then (L.zeyi (⟨#[113]⟩ : ByteArray) (a.2.2.1.length : Int)).bind fun e => (L.ztqk (⟨b.1, b.2.1⟩ : KS) ([300000, 1000000, 0, 5000000] : List Int)).bind fun c => (app? a.2.2.1 ([(⟨e, a.2.2.2.2, c.1⟩ : Port)] : List Port)).bind fun f => L.zeju.J7 d a (c.2.L_, c.2.At, f) else L.zeju.J7 d a (b.1, b.2.1, a.2.2.1)
def L.zeju.B5 (b : (List Int) × Int × (List ByteArray)) (a : (List Int) × Int × (List Port) × (List Station) × Int) : Option (((List Int) × Int × (List Port) × (List Station) × Int) ⊕ (((List Int) × Int × (List Port) × (List Station)))) := if decide (a.2.2.2.2 ≤ (wr ((b.2.2.length : Int) - 1))) = true then if (a.2.2.2.2 == 0) = true then L.zeju.J9 b a (a.1, a.2.1, true) else if (a.2.2.2.2 == (wr ((b.2.2.length : Int) - 1))) = true then L.zeju.J9 b a (a.1, a.2.1, true) else (L.zdjb (⟨a.1, a.2.1⟩ : KS) 2).bind fun c => L.zeju.J9 b a (c.2.L_, c.2.At, (c.1 == 0)) else some ((.inr ((a.1, a.2.1, a.2.2.1, a.2.2.2.1))))
def L.zeju.J3 (c : Int × KS) (d : Int × KS) (b : (List Int) × Int × (List ByteArray)) (a : (List Int) × Int × (List Segment)) : Option (Network × KS) := (loopN (L.zeju.B5 b) lots (a.1, a.2.1, [], [], 0)).bind fun e => L.zeju.J4 c d b a e
def L.zeju.B10 (d : (List Int) × Int × (List ByteArray)) (a : (List Int) × Int × (List Segment) × Int) : Option (((List Int) × Int × (List Segment) × Int) ⊕ (((List Int) × Int × (List Segment)))) := if decide (a.2.2.2 > 0) = true then (L.zdjb (⟨a.1, a.2.1⟩ : KS) (wr ((d.2.2.length : Int) - 1))).bind fun b => (L.ziuk b.2 (wr (b.1 + 1)) (wr ((d.2.2.length : Int) - 1))).bind fun e => (L.zsex e.2 (a.2.2.1.length : Int) b.1 e.1).bind fun c => (app? a.2.2.1 ([c.1] : List Segment)).bind fun f => some (.inl (c.2.L_, c.2.At, f, wr (a.2.2.2 - 1))) else some ((.inr ((a.1, a.2.1, a.2.2.1))))
def L.zeju.J2 (d : Int × KS) (e : Int × KS) (c : (List Int) × Int × (List ByteArray)) (a : (List Int) × Int × (List Segment)) : Option (Network × KS) := (L.zdjb (⟨a.1, a.2.1⟩ : KS) 4).bind fun b => (loopN (L.zeju.B10 c) lots (b.2.L_, b.2.At, a.2.2, b.1)).bind fun f => L.zeju.J3 d e c f
def L.zeju.B11 (c : (List Int) × Int × (List ByteArray)) (a : (List Int) × Int × (List Segment) × Int) : Option (((List Int) × Int × (List Segment) × Int) ⊕ (((List Int) × Int × (List Segment)))) := if decide (a.2.2.2 < (wr ((c.2.2.length : Int) - 1))) = true then (L.zsex (⟨a.1, a.2.1⟩ : KS) (a.2.2.1.length : Int) a.2.2.2 (wr (a.2.2.2 + 1))).bind fun b => (app? a.2.2.1 ([b.1] : List Segment)).bind fun d => some (.inl (b.2.L_, b.2.At, d, wr (a.2.2.2 + 1))) else some ((.inr ((a.1, a.2.1, a.2.2.1))))
def L.zeju.J1 (b : Int × KS) (c : Int × KS) (a : (List Int) × Int × (List ByteArray)) : Option (Network × KS) := (loopN (L.zeju.B11 a) lots (a.1, a.2.1, [], 0)).bind fun d => L.zeju.J2 b c a d
def L.zeju.B12 (b : Int × KS) (a : (List ByteArray) × Int) : Option (((List ByteArray) × Int) ⊕ (((List Int) × Int × (List ByteArray)))) := if decide (a.2 > 0) = true then (L.zeyi (⟨#[110]⟩ : ByteArray) (a.1.length : Int)).bind fun c => (app? a.1 ([c] : List ByteArray)).bind fun d => some (.inl (d, wr (a.2 - 1))) else some ((.inr ((b.2.L_, b.2.At, a.1))))
def L.zeju (d : KS) : Option (Network × KS) := (L.ztqk d ([(-100000), 0, 50000] : List Int)).bind fun a => (L.ztqk a.2 ([0, 1, 5, 100] : List Int)).bind fun b => (L.ziuk b.2 2 6).bind fun c => (loopN (L.zeju.B12 c) lots ([], c.1)).bind fun e => L.zeju.J1 a b e
def L.zhea (a : Int) : Int := (max a (wr (0 - a)))
def L.znbg.J2 (a : List Bool) (b : List Int) (c : List Int) : Option Plan := some (⟨b, c, a⟩ : Plan)
def L.znbg.B3 (d : Nat) (a : Int) (b : List Int) : Option (List Int) := (app? b ([wr (0 - a)] : List Int)).bind fun c => some c
def L.znbg.J1 (a : Plan) (b : List Bool) (c : List Int) : Option Plan := (forS L.znbg.B3 0 a.Ports []).bind fun d => L.znbg.J2 b c d
def L.znbg.B4 (d : Nat) (a : Int) (b : List Int) : Option (List Int) := (app? b ([wr (0 - a)] : List Int)).bind fun c => some c
def L.znbg (a : Plan) : Option Plan := (app? ([] : List Bool) a.Pumps).bind fun b => (forS L.znbg.B4 0 a.Rates []).bind fun c => L.znbg.J1 a b c
def L.zjbu.J3 (b : (List Int) × Int × (List Bool)) (c : Int × KS) (a : (List Int) × Int × (List Int) × (List Int)) : Option (Plan × KS) := if (c.1 == 0) = true then (L.znbg (⟨a.2.2.1, a.2.2.2, b.2.2⟩ : Plan)).bind fun d => some (d, (⟨a.1, a.2.1⟩ : KS)) else some ((⟨a.2.2.1, a.2.2.2, b.2.2⟩ : Plan), (⟨a.1, a.2.1⟩ : KS))
def L.zjbu.J5 (b : (List Int) × Int × (List Int) × (List Int) × Int) (a : (List Int) × Int × (List Int) × (List Int)) : Option (((List Int) × Int × (List Int) × (List Int) × Int) ⊕ (((List Int) × Int × (List Int) × (List Int)))) := some (.inl (a.1, a.2.1, a.2.2.1, a.2.2.2, wr (b.2.2.2.2 - 1)))
def L.zjbu.J10 (a : List Int) : Option (List Int) := some a
def L.zjbu.B9 (g : Network) (c : Int × KS) (h : (List Int) × Int × (List Int) × Int) (i : Nat) (a : List Int) : Option (List Int) := (ix h.2.2.1 (i : Int)).bind fun b => (ix g.Segments b.2).bind fun d => if decide (d.2.From < d.2.To) = true then (ix a b.2).bind fun e => L.zjbu.J10 (a.set e.1 (wr (e.2 + c.1))) else (ix a b.2).bind fun f => L.zjbu.J10 (a.set f.1 (wr (f.2 - c.1)))
def L.zjbu.J8 (c : Network) (b : (List Int) × Int × (List Int) × (List Int) × Int) (d : Int × KS) (a : (List Int) × Int × (List Int) × Int) (e : List Int) : Option (((List Int) × Int × (List Int) × (List Int) × Int) ⊕ (((List Int) × Int × (List Int) × (List Int)))) := (forJ (L.zjbu.B9 c d a) 0 a.2.2.1.length b.2.2.1).bind fun f => L.zjbu.J5 b (a.1, a.2.1, f, e)
def L.zjbu.J7 (e : Network) (a : (List Int) × Int × (List Int) × (List Int) × Int) (f : Int × KS) (c : Int × KS) (b : (List Int) × Int × (List Int) × Int) : Option (((List Int) × Int × (List Int) × (List Int) × Int) ⊕ (((List Int) × Int × (List Int) × (List Int)))) := if decide (b.2.2.2 < 0) = true then L.zjbu.J5 a (b.1, b.2.1, a.2.2.1, a.2.2.2.1) else (ix a.2.2.2.1 f.1).bind fun d => (ix a.2.2.2.1 b.2.2.2).bind fun g => (ix (a.2.2.2.1.set d.1 (wr (d.2 + c.1))) b.2.2.2).bind fun h => L.zjbu.J8 e a c b ((a.2.2.2.1.set d.1 (wr (d.2 + c.1))).set h.1 (wr (g.2 - c.1)))
def L.zjbu.J13 (g : Network) (b : (List Int) × Int × Int × (List Int) × Int) (a : (List Int) × Int × Int) (c : List Int) : Option (((List Int) × Int × Int × (List Int) × Int) ⊕ (((List Int) × Int × (List Int) × Int))) := if ((c.length : Int) == 0) = true then some ((.inr ((a.1, a.2.1, b.2.2.2.1, a.2.2)))) else (L.zdjb (⟨a.1, a.2.1⟩ : KS) (c.length : Int)).bind fun d => (ix c d.1).bind fun e => (app? b.2.2.2.1 ([e.2] : List Int)).bind fun h => (ix g.Segments e.2).bind fun f => some (.inl (d.2.L_, d.2.At, wr ((wr (f.2.From + f.2.To)) - b.2.2.1), h, a.2.2))
def L.zjbu.J15 (a : List Int) : Option (List Int) := some a
def L.zjbu.J16 (b : Nat) (a : List Int) (c : Bool) : Option (List Int) := if c = true then (app? a ([(b : Int)] : List Int)).bind fun d => L.zjbu.J15 d else L.zjbu.J15 a
def L.zjbu.B14 (e : (List Int) × Int × (List Int) × (List Int) × Int) (f : Int × KS) (c : (List Int) × Int × Int × (List Int) × Int) (b : Nat) (a : Segment) (d : List Int) : Option (List Int) := if (a.From == c.2.2.1) = true then if decide ((wr ((wr (a.From + a.To)) - c.2.2.1)) > c.2.2.1) = true then (ix e.2.2.1 (b : Int)).bind fun g => L.zjbu.J16 b d (decide ((wr ((L.zhea g.2) + f.1)) ≤ (min 1000 a.Capacity))) else L.zjbu.J16 b d false else if (a.To == c.2.2.1) = true then if decide ((wr ((wr (a.From + a.To)) - c.2.2.1)) > c.2.2.1) = true then (ix e.2.2.1 (b : Int)).bind fun h => L.zjbu.J16 b d (decide ((wr ((L.zhea h.2) + f.1)) ≤ (min 1000 a.Capacity))) else L.zjbu.J16 b d false else L.zjbu.J16 b d false
def L.zjbu.J12 (c : Network) (d : (List Int) × Int × (List Int) × (List Int) × Int) (e : Int × KS) (b : (List Int) × Int × Int × (List Int) × Int) (a : (List Int) × Int × Int) : Option (((List Int) × Int × Int × (List Int) × Int) ⊕ (((List Int) × Int × (List Int) × Int))) := if decide (a.2.2 ≥ 0) = true then some ((.inr ((a.1, a.2.1, b.2.2.2.1, a.2.2)))) else (forS (L.zjbu.B14 d e b) 0 c.Segments []).bind fun f => L.zjbu.J13 c b a f
def L.zjbu.J18 (a : (List Int) × Int × Int) : Option ((List Int) × Int × Int) := some (a.1, a.2.1, a.2.2)
def L.zjbu.J19 (b : Nat) (c : (List Int) × Int × Int) (a : (List Int) × Int × Bool) : Option ((List Int) × Int × Int) := if a.2.2 = true then L.zjbu.J18 (a.1, a.2.1, (b : Int)) else L.zjbu.J18 (a.1, a.2.1, c.2.2)
def L.zjbu.B17 (f : (List Int) × Int × (List Int) × (List Int) × Int) (g : Int × KS) (h : Int × KS) (d : (List Int) × Int × Int × (List Int) × Int) (b : Nat) (i : Port) (a : (List Int) × Int × Int) : Option ((List Int) × Int × Int) := if (i.Node == d.2.2.1) = true then if ((b : Int) != g.1) = true then (ix f.2.2.2.1 (b : Int)).bind fun e => if decide (e.2 ≤ 0) = true then if decide ((wr (e.2 - h.1)) ≥ (-1000)) = true then if decide ((d.2.2.2.1.length : Int) > 0) = true then (L.zdjb (⟨a.1, a.2.1⟩ : KS) 2).bind fun c => L.zjbu.J19 b a (c.2.L_, c.2.At, (c.1 == 0)) else L.zjbu.J19 b a (a.1, a.2.1, false) else L.zjbu.J19 b a (a.1, a.2.1, false) else L.zjbu.J19 b a (a.1, a.2.1, false) else L.zjbu.J19 b a (a.1, a.2.1, false) else L.zjbu.J19 b a (a.1, a.2.1, false)
def L.zjbu.B11 (c : Network) (d : (List Int) × Int × (List Int) × (List Int) × Int) (f : Int × KS) (e : Int × KS) (a : (List Int) × Int × Int × (List Int) × Int) : Option (((List Int) × Int × Int × (List Int) × Int) ⊕ (((List Int) × Int × (List Int) × Int))) := if decide (a.2.2.2.2 < 0) = true then (forS (L.zjbu.B17 d f e a) 0 c.Ports (a.1, a.2.1, a.2.2.2.2)).bind fun b => L.zjbu.J12 c d e a (b.1, b.2.1, b.2.2) else some ((.inr ((a.1, a.2.1, a.2.2.2.1, a.2.2.2.2))))
def L.zjbu.J6 (c : Network) (b : (List Int) × Int × (List Int) × (List Int) × Int) (d : Int × KS) (e : Nat × Port) (a : Int × KS) (f : Bool) : Option (((List Int) × Int × (List Int) × (List Int) × Int) ⊕ (((List Int) × Int × (List Int) × (List Int)))) := if f = true then L.zjbu.J5 b (a.2.L_, a.2.At, b.2.2.1, b.2.2.2.1) else (loopN (L.zjbu.B11 c b d a) lots (a.2.L_, a.2.At, e.2.Node, [], (-1))).bind fun g => L.zjbu.J7 c b d a g
def L.zjbu.B4 (c : Network) (a : (List Int) × Int × (List Int) × (List Int) × Int) : Option (((List Int) × Int × (List Int) × (List Int) × Int) ⊕ (((List Int) × Int × (List Int) × (List Int)))) := if decide (a.2.2.2.2 > 0) = true then (L.zdjb (⟨a.1, a.2.1⟩ : KS) (c.Ports.length : Int)).bind fun b => (ix c.Ports b.1).bind fun e => (L.ztqk b.2 ([1, 5, 30, 300] : List Int)).bind fun f => (L.ziuk f.2 1 f.1).bind fun d => (ix a.2.2.2.1 b.1).bind fun g => if decide (g.2 < 0) = true then L.zjbu.J6 c a b e d true else L.zjbu.J6 c a b e d (decide ((wr (g.2 + d.1)) > 1000)) else some ((.inr ((a.1, a.2.1, a.2.2.1, a.2.2.2.1))))
def L.zjbu.J2 (e : Network) (c : (List Int) × (List Int)) (a : (List Int) × Int × (List Bool)) : Option (Plan × KS) := (L.zdjb (⟨a.1, a.2.1⟩ : KS) 3).bind fun d => (L.zdjb d.2 5).bind fun b => (loopN (L.zjbu.B4 e) lots (b.2.L_, b.2.At, c.1, c.2, b.1)).bind fun f => L.zjbu.J3 a d f
def L.zjbu.B20 (c : Network) (a : (List Int) × Int × (List Bool) × Int) : Option (((List Int) × Int × (List Bool) × Int) ⊕ (((List Int) × Int × (List Bool)))) := if decide (a.2.2.2 < (c.Stations.length : Int)) = true then (L.zdjb (⟨a.1, a.2.1⟩ : KS) 2).bind fun b => (app? a.2.2.1 ([(b.1 == 0)] : List Bool)).bind fun d => some (.inl (b.2.L_, b.2.At, d, wr (a.2.2.2 + 1))) else some ((.inr ((a.1, a.2.1, a.2.2.1))))
def L.zjbu.J1 (a : KS) (b : Network) (c : (List Int) × (List Int)) : Option (Plan × KS) := (loopN (L.zjbu.B20 b) lots (a.L_, a.At, [], 0)).bind fun d => L.zjbu.J2 b c d
def L.zjbu (b : KS) (a : Network) : Option (Plan × KS) := (mk? (a.Segments.length : Int) (0 : Int)).bind fun c => (mk? (a.Ports.length : Int) (0 : Int)).bind fun d => L.zjbu.J1 b a (c, d)
structure paths_divider where
 n_ : Network
 rates : List Int
 ports : List Int
 deriving DecidableEq
def paths_divider.row (x : paths_divider) : List T := [.list 1 (x.n_.Nodes.map rS), .list 7 (x.n_.Segments.map Segment.row), .list 3 (x.n_.Ports.map Port.row), .list 5 (x.n_.Stations.map Station.row), .v (.int .i64 x.n_.Vapour), .v (.int .i64 x.n_.Settle), .list 1 (x.rates.map rI), .list 1 (x.ports.map rI)]
structure Hop where
 Segment : Int
 Back : Bool
 deriving DecidableEq
def Hop.row (x : Hop) : List T := [.v (.int .i64 x.Segment), .v (.bool x.Back)]
structure Path where
 In : Int
 Out : Int
 Hops : List Hop
 Rate : Int
 deriving DecidableEq
def Path.row (x : Path) : List T := [.v (.int .i64 x.In), .v (.int .i64 x.Out), .list 2 (x.Hops.map Hop.row), .v (.int .i64 x.Rate)]
def L.zvxi (a : List Int) : Option (List Int) := app? [] a
def L.zqxx (b : Hop) (a : Int) : Int := if b.Back = true then (wr (0 - a)) else a
def L.zcho.J2 (b : paths_divider) (e : Int) (c : Nat × Int) (a : Int × (List Hop) × Int) (d : Nat × Int) (f : List Int) : Option (Path × paths_divider) := some ((⟨e, a.1, a.2.1, a.2.2⟩ : Path), (⟨b.n_, f, ((b.ports.set c.1 (wr (c.2 - a.2.2))).set d.1 (wr (d.2 + a.2.2)))⟩ : paths_divider))
def L.zcho.B3 (a : Int × (List Hop) × Int) (e : Nat) (b : List Int) : Option (List Int) := (ix a.2.1 (e : Int)).bind fun c => (ix b c.2.Segment).bind fun d => some (b.set d.1 (wr (d.2 - (L.zqxx c.2 a.2.2))))
def L.zcho.J1 (b : paths_divider) (d : Int) (c : Nat × Int) (a : Int × (List Hop) × Int) : Option (Path × paths_divider) := (ix (b.ports.set c.1 (wr (c.2 - a.2.2))) a.1).bind fun e => (forJ (L.zcho.B3 a) 0 a.2.1.length b.rates).bind fun f => L.zcho.J2 b d c a e f
def L.zcho.J6 (a : (List Hop) × Int × Int) (b : Unit) : Option (((List Hop) × Int × Int) ⊕ ((Int × (List Hop) × Int))) := some ((.inr ((0, a.1, a.2.1))))
def L.zcho.J8 (a : (List Hop) × Int × Int) (b : Segment) (c : Nat × Int) (d : List Hop) : Option (Unit ⊕ (((List Hop) × Int × Int))) := some ((.inr ((d, (min a.2.1 c.2), b.To))))
def L.zcho.J9 (a : (List Hop) × Int × Int) (b : Segment) (c : Nat × Int) (d : List Hop) : Option (Unit ⊕ (((List Hop) × Int × Int))) := some ((.inr ((d, (min a.2.1 (wr (0 - c.2))), b.From))))
def L.zcho.B7 (e : paths_divider) (a : (List Hop) × Int × Int) (d : Nat) (b : Segment) (h : Unit) : Option (Unit ⊕ (((List Hop) × Int × Int))) := (ix e.rates (d : Int)).bind fun c => if (decide (c.2 > 0) && (b.From == a.2.2)) = true then (app? a.1 ([(⟨(d : Int), false⟩ : Hop)] : List Hop)).bind fun f => L.zcho.J8 a b c f else if (decide (c.2 < 0) && (b.To == a.2.2)) = true then (app? a.1 ([(⟨(d : Int), true⟩ : Hop)] : List Hop)).bind fun g => L.zcho.J9 a b c g else some (.inl ())
def L.zcho.J5 (a : paths_divider) (b : (List Hop) × Int × Int) (e : Unit) : Option (((List Hop) × Int × Int) ⊕ ((Int × (List Hop) × Int))) := (forL (L.zcho.B7 a b) 0 a.n_.Segments ()).bind fun c => Sum.elim (fun f => L.zcho.J6 b ()) (fun d => some (.inl d)) c
def L.zcho.J11 (c : paths_divider) (a : (List Hop) × Int × Int) (b : Nat) (d : Bool) : Option (Unit ⊕ ((Int × (List Hop) × Int))) := if d = true then (ix c.ports (b : Int)).bind fun e => some ((.inr (((b : Int), a.1, (min a.2.1 (wr (0 - e.2))))))) else some (.inl ())
def L.zcho.B10 (a : paths_divider) (b : (List Hop) × Int × Int) (c : Nat) (d : Port) (f : Unit) : Option (Unit ⊕ ((Int × (List Hop) × Int))) := if (d.Node == b.2.2) = true then (ix a.ports (c : Int)).bind fun e => L.zcho.J11 a b c (decide (e.2 < 0)) else L.zcho.J11 a b c false
def L.zcho.B4 (a : paths_divider) (b : (List Hop) × Int × Int) : Option (((List Hop) × Int × Int) ⊕ ((Int × (List Hop) × Int))) := (forL (L.zcho.B10 a b) 0 a.n_.Ports ()).bind fun c => Sum.elim (fun e => L.zcho.J5 a b ()) (fun d => some ((.inr (d)))) c
def L.zcho (a : paths_divider) (b : Int) : Option (Path × paths_divider) := (ix a.ports b).bind fun c => (ix a.n_.Ports b).bind fun d => (loopN (L.zcho.B4 a) lots ([], c.2, d.2.Node)).bind fun e => L.zcho.J1 a b c e
def L.zxps.J1 (a : List Path) : Option ((List Path) × Int) := some (a, 0)
def L.zxps.J3 (a : (List ByteArray) × (List Segment) × (List Port) × (List Station) × Int × Int × (List Int) × (List Int) × (List Path)) : Option (((List ByteArray) × (List Segment) × (List Port) × (List Station) × Int × Int × (List Int) × (List Int) × (List Path)) ⊕ (((List Path) × Int))) := some (.inl (a.1, a.2.1, a.2.2.1, a.2.2.2.1, a.2.2.2.2.1, a.2.2.2.2.2.1, a.2.2.2.2.2.2.1, a.2.2.2.2.2.2.2.1, a.2.2.2.2.2.2.2.2))
def L.zxps.B4 (c : Nat) (a : (List ByteArray) × (List Segment) × (List Port) × (List Station) × Int × Int × (List Int) × (List Int) × (List Path)) : Option (((List ByteArray) × (List Segment) × (List Port) × (List Station) × Int × Int × (List Int) × (List Int) × (List Path)) ⊕ (((List Path) × Int) ⊕ ((List ByteArray) × (List Segment) × (List Port) × (List Station) × Int × Int × (List Int) × (List Int) × (List Path)))) := (ix a.2.2.2.2.2.2.2.1 (c : Int)).bind fun d => if decide (d.2 > 0) = true then (L.zcho (⟨(⟨a.1, a.2.1, a.2.2.1, a.2.2.2.1, a.2.2.2.2.1, a.2.2.2.2.2.1⟩ : Network), a.2.2.2.2.2.2.1, a.2.2.2.2.2.2.2.1⟩ : paths_divider) (c : Int)).bind fun b => if (((a.2.2.2.2.2.2.2.2.length : Int) == 64) || decide ((b.1.Hops.length : Int) > 32)) = true then some ((.inr (.inl (([], 23))))) else (app? a.2.2.2.2.2.2.2.2 ([b.1] : List Path)).bind fun e => some (.inl (b.2.n_.Nodes, b.2.n_.Segments, b.2.n_.Ports, b.2.n_.Stations, b.2.n_.Vapour, b.2.n_.Settle, b.2.rates, b.2.ports, e)) else some ((.inr (.inr ((a.1, a.2.1, a.2.2.1, a.2.2.2.1, a.2.2.2.2.1, a.2.2.2.2.2.1, a.2.2.2.2.2.2.1, a.2.2.2.2.2.2.2.1, a.2.2.2.2.2.2.2.2)))))
def L.zxps.B2 (b : Nat) (a : (List ByteArray) × (List Segment) × (List Port) × (List Station) × Int × Int × (List Int) × (List Int) × (List Path)) : Option (((List ByteArray) × (List Segment) × (List Port) × (List Station) × Int × Int × (List Int) × (List Int) × (List Path)) ⊕ (((List Path) × Int))) := (loopN (L.zxps.B4 b) lots (a.1, a.2.1, a.2.2.1, a.2.2.2.1, a.2.2.2.2.1, a.2.2.2.2.2.1, a.2.2.2.2.2.2.1, a.2.2.2.2.2.2.2.1, a.2.2.2.2.2.2.2.2)).bind fun c => Sum.elim (fun d => some ((.inr (d)))) (fun e => L.zxps.J3 e) c
def L.zxps (a : Network) (b : Plan) : Option ((List Path) × Int) := (L.zfta a).bind fun c => if (c != 0) = true then some ([], c) else (L.zmqu a b).bind fun d => if (d != 0) = true then some ([], d) else (L.zvxi b.Rates).bind fun f => (L.zvxi b.Ports).bind fun e => (forI L.zxps.B2 0 e.length (a.Nodes, a.Segments, a.Ports, a.Stations, a.Vapour, a.Settle, f, e, [])).bind fun g => Sum.elim (fun h => L.zxps.J1 h.2.2.2.2.2.2.2.2) (fun i => some i) g
def L.zjlw (a : List Hop) : Option (List Hop) := app? [] a
def L.znbv (a : Path) (b : Int) : Option Path := (L.zjlw a.Hops).bind fun c => some (⟨a.In, a.Out, c, b⟩ : Path)
def L.zlhc (a : List Bool) : Option (List Bool) := app? [] a
def L.zvqh.B1 (d : Int) (e : Nat) (a : Hop) (b : List Int) : Option (List Int) := (ix b a.Segment).bind fun c => some (b.set c.1 (wr (c.2 + (L.zqxx a d))))
def L.zvqh (a : Plan) (d : Path) (b : Int) : Option Plan := (ix a.Ports d.In).bind fun c => (ix (a.Ports.set c.1 (wr (c.2 + b))) d.Out).bind fun e => (forS (L.zvqh.B1 b) 0 d.Hops a.Rates).bind fun f => some (⟨f, ((a.Ports.set c.1 (wr (c.2 + b))).set e.1 (wr (e.2 - b))), a.Pumps⟩ : Plan)
def L.zrak.J1 (a : Unit) : Option Bool := some true
def L.zrak.B2 (s2_1 : List Hop) (c : Nat) (a : Hop) (d : Unit) : Option (Unit ⊕ (Bool)) := (ix s2_1 (c : Int)).bind fun b => if (!((a.Segment == b.2.Segment) && ((a.Back == b.2.Back) && true))) = true then some ((.inr (false))) else some (.inl ())
def L.zrak (s1_0 : List Hop) (s2_1 : List Hop) : Option Bool := if ((s1_0.length : Int) != (s2_1.length : Int)) = true then some false else (forL (L.zrak.B2 s2_1) 0 s1_0 ()).bind fun a => Sum.elim (fun c => L.zrak.J1 ()) (fun b => some b) a
def L.ztke.J1 (a : Bool) : Option Bool := some a
def L.ztke (a : Path) (b : Path) : Option Bool := if (a.In == b.In) = true then if (a.Out == b.Out) = true then (L.zrak a.Hops b.Hops).bind fun c => L.ztke.J1 c else L.ztke.J1 false else L.ztke.J1 false
def L.zjqr.J1 (a : Unit) : Option Int := some (-1)
def L.zjqr.B2 (a : Path → Option Bool) (b : Nat) (c : Path) (e : Unit) : Option (Unit ⊕ (Int)) := (a c).bind fun d => if d = true then some ((.inr ((b : Int)))) else some (.inl ())
def L.zjqr (a : List Path) (b : Path → Option Bool) : Option Int := (forL (L.zjqr.B2 b) 0 a ()).bind fun c => Sum.elim (fun e => L.zjqr.J1 ()) (fun d => some d) c
def L.zfog (a : Path) (b : Path) : Option Bool := (L.ztke a b).bind fun c => some c
def L.zdhf (a : List Path) (b : Path) : Option Int := (L.zjqr a (fun x => L.zfog x b)).bind fun c => some c
def L.zprq.J1 (a : List Path) : Option (List Path) := some a
def L.zprq.J3 (a : List Path) : Option (List Path) := some a
def L.zprq.B2 (b : List Path) (h : Nat) (a : Path) (c : List Path) : Option (List Path) := (L.zdhf b a).bind fun d => if decide (d ≥ 0) = true then (ix b d).bind fun e => (L.znbv a (min a.Rate e.2.Rate)).bind fun f => (app? c ([f] : List Path)).bind fun g => L.zprq.J3 g else L.zprq.J3 c
def L.zprq (a : List Path) (b : List Path) : Option (List Path) := (forS (L.zprq.B2 b) 0 a []).bind fun c => L.zprq.J1 c
structure Valve where
 Travel : Int
 Open : Int
 Want : Bool
 Stuck : Bool
 deriving DecidableEq
def Valve.row (x : Valve) : List T := [.v (.int .i64 x.Travel), .v (.int .i64 x.Open), .v (.bool x.Want), .v (.bool x.Stuck)]
structure Step where
 Kind : Int
 Index : Int
 Value : Int
 Path : Path
 deriving DecidableEq
def Step.row (x : Step) : List T := [.v (.int .i64 x.Kind), .v (.int .i64 x.Index), .v (.int .i64 x.Value), .v (.int .i64 x.Path.In), .v (.int .i64 x.Path.Out), .list 2 (x.Path.Hops.map Hop.row), .v (.int .i64 x.Path.Rate)]
structure Lineup where
 Segments : List Bool
 Ports : List Bool
 deriving DecidableEq
def Lineup.row (x : Lineup) : List T := [.list 1 (x.Segments.map rB), .list 1 (x.Ports.map rB)]
structure Desk where
 Valves : List Valve
 Plan : Plan
 deriving DecidableEq
def Desk.row (x : Desk) : List T := [.list 4 (x.Valves.map Valve.row), .list 1 (x.Plan.Rates.map rI), .list 1 (x.Plan.Ports.map rI), .list 1 (x.Plan.Pumps.map rB)]
def L.zdpk (a : Valve) : Bool := (decide (a.Travel ≥ 1) && (decide (a.Travel ≤ 60) && (decide (a.Open ≥ 0) && decide (a.Open ≤ a.Travel))))
def L.zhgw (a : Valve) : Int := if a.Want = true then a.Travel else 0
def L.zexx.J1 (a : Valve) (b : Int) : Valve := if ((a.Travel == a.Travel) && ((b == a.Open) && ((a.Want == a.Want) && ((a.Stuck == a.Stuck) && true)))) = true then a else (⟨a.Travel, b, a.Want, a.Stuck⟩ : Valve)
def L.zexx (a : Valve) (b : Int) : Valve := if a.Stuck = true then L.zexx.J1 a a.Open else if decide (a.Open < (L.zhgw a)) = true then L.zexx.J1 a (min (L.zhgw a) (wr (a.Open + b))) else L.zexx.J1 a (max (L.zhgw a) (wr (a.Open - b)))
def L.zwje (a : Valve) (b : Int) : (Valve × Int) := if (!(L.zdpk a)) = true then (a, 20) else if (decide (b < 0) || decide (b > 400)) = true then (a, 1) else ((L.zexx a b), 0)
def L.zaik (a : Valve) : Bool := ((L.zdpk a) && (a.Open == 0))
def L.zeio (a : Valve) : Bool := ((L.zdpk a) && (a.Open == a.Travel))
def L.zvdf (a : Valve) : Int := if (!(L.zdpk a)) = true then (-1) else if (a.Stuck && decide ((max (wr ((L.zhgw a) - a.Open)) (wr (a.Open - (L.zhgw a)))) > 0)) = true then (-1) else (max (wr ((L.zhgw a) - a.Open)) (wr (a.Open - (L.zhgw a))))
def L.zkoo (a : Network) (c : Plan) (b : Int) : Option (Int × Int) := (L.zmqu a c).bind fun d => if (d != 0) = true then some (0, d) else if (decide (b < 0) || decide (b ≥ (a.Nodes.length : Int))) = true then some (0, 8) else (L.zzkf a c).bind fun e => (ix e.come.l b).bind fun f => some (f.2, 0)
def L.zayo (a : Valve) : Bool := ((L.zeio a) && a.Want)
def L.zdjk (a : Network) (c : Plan) (d : Int) : Option Bool := (ix a.Stations d).bind fun e => (L.zkoo a c e.2.Node).bind fun b => some ((b.2 == 0) && (b.1 != 0))
def L.zvla (a : Network) (b : Plan) (c : Int) : Option Bool := (L.zdjk a b c).bind fun d => some d
def L.zipx.J1 (a : Int) : Option Int := some a
def L.zipx.J3 (a : Int) : Option Int := some a
def L.zipx.B2 (c : Nat) (a : Step) (b : Int) : Option Int := if ((a.Kind == 6) && (decide (a.Value ≥ 1) && decide (a.Value ≤ 100))) = true then L.zipx.J3 (wr (b + a.Value)) else L.zipx.J3 b
def L.zipx (a : List Step) : Option Int := (forS L.zipx.B2 0 a 0).bind fun b => L.zipx.J1 b
def L.zwom (a : Network) : Int := (wr ((a.Segments.length : Int) + (a.Ports.length : Int)))
def L.zvjf (a : Lineup) : Option (List Bool) := (app? [] a.Segments).bind fun b => (app? b a.Ports).bind fun c => some c
def L.zync.J1 (a : List Bool) : Option (List Bool) := some a
def L.zync.B2 (d : Nat) (a : Int) (b : List Bool) : Option (List Bool) := (app? b ([(a != 0)] : List Bool)).bind fun c => some c
def L.zync (a : List Int) : Option (List Bool) := (forS L.zync.B2 0 a []).bind fun b => L.zync.J1 b
def L.zoqk (b : Network) (a : Plan) : Option (Lineup × Int) := (L.zfta b).bind fun c => if (c != 0) = true then some ((⟨[], []⟩ : Lineup), c) else (L.zmqu b a).bind fun d => if (d != 0) = true then some ((⟨[], []⟩ : Lineup), d) else (L.zync a.Rates).bind fun e => (L.zync a.Ports).bind fun f => some ((⟨e, f⟩ : Lineup), 0)
def L.znus.J1 (a : Unit) : Option Int := some (-1)
def L.znus.B2 (a : Valve → Option Bool) (b : Nat) (c : Valve) (e : Unit) : Option (Unit ⊕ (Int)) := (a c).bind fun d => if d = true then some ((.inr ((b : Int)))) else some (.inl ())
def L.znus (a : List Valve) (b : Valve → Option Bool) : Option Int := (forL (L.znus.B2 b) 0 a ()).bind fun c => Sum.elim (fun e => L.znus.J1 ()) (fun d => some d) c
def L.zfxq (a : List Valve) (b : Valve → Option Bool) : Option Bool := (L.znus a b).bind fun c => some (decide (c ≥ 0))
def L.zfpn (a : Valve) : Bool := (!(L.zdpk a))
def L.zoxj.J1 (a : Unit) : Option Bool := some false
def L.zoxj.J3 (a : Bool) : Option (Unit ⊕ (Bool)) := if a = true then some ((.inr (true))) else some (.inl ())
def L.zoxj.B2 (a : Network) (c : Plan) (b : Nat) (d : Bool) (f : Unit) : Option (Unit ⊕ (Bool)) := if d = true then if decide ((b : Int) < (a.Stations.length : Int)) = true then (L.zdjk a c (b : Int)).bind fun e => L.zoxj.J3 (!e) else L.zoxj.J3 false else L.zoxj.J3 false
def L.zoxj (b : Network) (a : Plan) : Option Bool := (forL (L.zoxj.B2 b a) 0 a.Pumps ()).bind fun c => Sum.elim (fun e => L.zoxj.J1 ()) (fun d => some d) c
def L.zkzk.J2 (a : Network) (b : Desk) (d : Unit) : Option Int := (L.zoxj a b.Plan).bind fun c => if c = true then some 21 else some 0
def L.zkzk.J4 (a : Bool) : Option (Unit ⊕ (Int)) := if a = true then some ((.inr (21))) else some (.inl ())
def L.zkzk.B3 (b : Desk) (c : List Bool) (a : Nat) (f : Unit) : Option (Unit ⊕ (Int)) := (ix c (a : Int)).bind fun d => if d.2 = true then (ix b.Valves (a : Int)).bind fun e => L.zkzk.J4 (!(L.zayo e.2)) else L.zkzk.J4 false
def L.zkzk.J1 (b : Network) (a : Desk) (f : Bool) : Option Int := if f = true then some 20 else (L.zmqu b a.Plan).bind fun d => if (d != 0) = true then some d else (L.zoqk b a.Plan).bind fun c => if (c.2 != 0) = true then some c.2 else (L.zvjf c.1).bind fun e => (forI (L.zkzk.B3 a e) 0 e.length ()).bind fun g => Sum.elim (fun i => L.zkzk.J2 b a ()) (fun h => some h) g
def L.zkzk (a : Network) (b : Desk) : Option Int := (L.zfta a).bind fun c => if (c != 0) = true then some c else if ((b.Valves.length : Int) != (L.zwom a)) = true then L.zkzk.J1 a b true else (L.zfxq b.Valves (fun x => some (L.zfpn x))).bind fun d => L.zkzk.J1 a b d
def L.zdgq.J1 (a : List Int) : Option (List Int) := some a
def L.zdgq.J3 (a : List Int) (b : Int) : Option (List Int) := (app? a ([b] : List Int)).bind fun c => some c
def L.zdgq.B2 (a : List Path) (f : Nat) (b : Path) (c : List Int) : Option (List Int) := (L.zdhf a b).bind fun d => if decide (d ≥ 0) = true then (ix a d).bind fun e => L.zdgq.J3 c (min b.Rate e.2.Rate) else L.zdgq.J3 c 0
def L.zdgq (a : List Path) (b : List Path) : Option (List Int) := (forS (L.zdgq.B2 b) 0 a []).bind fun c => L.zdgq.J1 c
def L.zygk.J2 (a : (List Int) × (List Int) × (List Bool)) : Option Plan := some (⟨a.1, a.2.1, a.2.2⟩ : Plan)
def L.zygk.B3 (d : List Path) (e : Nat) (a : (List Int) × (List Int) × (List Bool)) : Option ((List Int) × (List Int) × (List Bool)) := (ix d (e : Int)).bind fun c => (L.zvqh (⟨a.1, a.2.1, a.2.2⟩ : Plan) c.2 c.2.Rate).bind fun b => some (b.Rates, b.Ports, b.Pumps)
def L.zygk.J1 (d : List Path) (e : List Path) (a : (List Int) × (List Int) × (List Bool)) : Option Plan := (L.zprq d e).bind fun c => (forJ (L.zygk.B3 c) 0 c.length (a.1, a.2.1, a.2.2)).bind fun b => L.zygk.J2 (b.1, b.2.1, b.2.2)
def L.zygk (a : Network) (b : List Path) (c : List Path) : Option Plan := (mk? (a.Segments.length : Int) (0 : Int)).bind fun d => (mk? (a.Ports.length : Int) (0 : Int)).bind fun e => (mk? (a.Stations.length : Int) false).bind fun f => L.zygk.J1 b c (d, e, f)
def L.zppq.J1 (a : (List Step) × (List Step) × Int) : Option ((List Step) × Int × Bool) := (app? a.1 a.2.1).bind fun b => some (b, a.2.2, true)
def L.zppq.J3 (a : (List Step) × (List Step) × Int) : Option (((List Step) × (List Step) × Int) ⊕ (((List Step) × Int × Bool))) := some (.inl (a.1, a.2.1, a.2.2))
def L.zppq.J5 (a : Int) (g : List Bool) (e : Nat) (b : Valve) (c : (List Step) × (List Step) × Int) (f : Int × Bool) (h : Bool) : Option (((List Step) × (List Step) × Int) ⊕ (((List Step) × Int × Bool))) := if h = true then L.zppq.J3 (c.1, c.2.1, c.2.2) else (ix g (e : Int)).bind fun d => if decide ((L.zvdf (⟨((L.zwje b (min a 60)).1).Travel, ((L.zwje b (min a 60)).1).Open, d.2, ((L.zwje b (min a 60)).1).Stuck⟩ : Valve)) < 0) = true then some ((.inr (([], 0, false)))) else if d.2 = true then (app? c.2.1 ([(⟨f.1, (e : Int), 0, (⟨0, 0, [], 0⟩ : Path)⟩ : Step)] : List Step)).bind fun i => L.zppq.J3 (c.1, i, (max c.2.2 (L.zvdf (⟨((L.zwje b (min a 60)).1).Travel, ((L.zwje b (min a 60)).1).Open, d.2, ((L.zwje b (min a 60)).1).Stuck⟩ : Valve)))) else (app? c.1 ([(⟨f.1, (e : Int), 0, (⟨0, 0, [], 0⟩ : Path)⟩ : Step)] : List Step)).bind fun j => L.zppq.J3 (j, c.2.1, (max c.2.2 (L.zvdf (⟨((L.zwje b (min a 60)).1).Travel, ((L.zwje b (min a 60)).1).Open, d.2, ((L.zwje b (min a 60)).1).Stuck⟩ : Valve))))
def L.zppq.J4 (a : Int) (b : List Bool) (c : Nat) (d : Valve) (f : (List Step) × (List Step) × Int) (e : Int × Bool) : Option (((List Step) × (List Step) × Int) ⊕ (((List Step) × Int × Bool))) := if e.2 = true then (ix b (c : Int)).bind fun g => L.zppq.J5 a b c d f e (((L.zwje d (min a 60)).1).Want == g.2) else L.zppq.J5 a b c d f e false
def L.zppq.B2 (a : Int) (c : List Bool) (d : Nat) (b : Valve) (e : (List Step) × (List Step) × Int) : Option (((List Step) × (List Step) × Int) ⊕ (((List Step) × Int × Bool))) := if (((L.zwje b (min a 60)).2) != 0) = true then some ((.inr (([], 0, false)))) else (ix c (d : Int)).bind fun f => if f.2 = true then L.zppq.J4 a c d b e (1, (L.zeio ((L.zwje b (min a 60)).1))) else L.zppq.J4 a c d b e (2, (L.zaik ((L.zwje b (min a 60)).1)))
def L.zppq (b : Desk) (c : Int) (d : List Bool) : Option ((List Step) × Int × Bool) := (forL (L.zppq.B2 c d) 0 b.Valves ([], [], 0)).bind fun e => Sum.elim (fun a => L.zppq.J1 (a.1, a.2.1, a.2.2)) (fun f => some f) e
def L.zjgg (a : Network) (f : Desk) (g : Plan) (b : Int) (c : Int) : Option Int := (L.zkzk a f).bind fun d => if (d != 0) = true then some d else (L.zmqu a g).bind fun e => if (e != 0) = true then some e else if (decide (b < 1) || (decide (b > 1000) || (decide (c < 0) || decide (c > 100)))) = true then some 1 else some 0
def L.zlwi.B1 (a : (List Step) × Int) : Option (((List Step) × Int) ⊕ ((List Step))) := if decide (a.2 > 0) = true then (app? a.1 ([(⟨6, 0, (min a.2 100), (⟨0, 0, [], 0⟩ : Path)⟩ : Step)] : List Step)).bind fun b => some (.inl (b, wr (a.2 - 100))) else some ((.inr (a.1)))
def L.zlwi (a : Int) (b : List Step) : Option (List Step) := (loopN L.zlwi.B1 lots (b, a)).bind fun c => some c
def L.zihi.B1 (b : Path) (d : Int) (c : Int) (e : Int) (f : List Hop) (a : (List Step) × Int) : Option (((List Step) × Int) ⊕ ((List Step))) := if decide (a.2 > 0) = true then (app? a.1 ([(⟨5, 0, wr (d * (min a.2 c)), (⟨b.In, b.Out, f, 0⟩ : Path)⟩ : Step)] : List Step)).bind fun g => (L.zlwi e g).bind fun h => some (.inl (h, wr (a.2 - c))) else some ((.inr (a.1)))
def L.zihi (a : Path) (b : Int) (c : Int) (d : Int) (e : List Step) (f : Int) : Option (List Step) := (L.zjlw a.Hops).bind fun g => (loopN (L.zihi.B1 a c d f g) lots (e, b)).bind fun h => some h
def L.zzjm.J5 (a : List Step) : Option ((List Step) × Int) := if decide ((a.length : Int) > 400) = true then some ([], 4) else some (a, 0)
def L.zzjm.J7 (a : List Step) : Option (List Step) := some a
def L.zzjm.J8 (b : Nat) (a : List Step) (c : Bool) : Option (List Step) := if c = true then (app? a ([(⟨3, (b : Int), 0, (⟨0, 0, [], 0⟩ : Path)⟩ : Step)] : List Step)).bind fun d => L.zzjm.J7 d else L.zzjm.J7 a
def L.zzjm.B6 (c : (List Step) × (List Bool)) (a : Nat) (d : Bool) (b : List Step) : Option (List Step) := if d = true then (ix c.2 (a : Int)).bind fun e => L.zzjm.J8 a b (!e.2) else L.zzjm.J8 a b false
def L.zzjm.J4 (a : Plan) (b : (List Step) × (List Bool)) (c : List Step) : Option ((List Step) × Int) := (forS (L.zzjm.B6 b) 0 a.Pumps c).bind fun d => L.zzjm.J5 d
def L.zzjm.B9 (c : Int) (d : Int) (e : (List Path) × Int) (f : List Int) (a : Nat) (g : List Step) : Option (List Step) := (ix f (a : Int)).bind fun h => (ix e.1 (a : Int)).bind fun b => (L.zihi b.2 (wr (b.2.Rate - h.2)) 1 c g d).bind fun i => some i
def L.zzjm.J3 (e : Desk) (f : Plan) (g : Int) (h : Int) (i : (List Path) × Int) (b : (List Path) × Int) (j : Lineup × Int) (k : (List Step) × (List Bool)) (c : List Step) : Option ((List Step) × Int) := (L.zipx c).bind fun l => (L.zvjf j.1).bind fun m => (L.zppq e l m).bind fun a => if (!a.2.2) = true then some ([], 20) else (app? c a.1).bind fun n => (L.zlwi a.2.1 n).bind fun o => (L.zdgq b.1 i.1).bind fun d => (forJ (L.zzjm.B9 g h b d) 0 d.length o).bind fun p => L.zzjm.J4 f k p
def L.zzjm.B10 (c : Int) (d : Int) (e : (List Path) × Int) (f : List Int) (a : Nat) (g : List Step) : Option (List Step) := (ix f (a : Int)).bind fun h => (ix e.1 (a : Int)).bind fun b => (L.zihi b.2 (wr (b.2.Rate - h.2)) (-1) c g d).bind fun i => some i
def L.zzjm.J2 (g : Desk) (h : Plan) (b : Int) (c : Int) (a : (List Path) × Int) (d : (List Path) × Int) (i : Lineup × Int) (e : (List Step) × (List Bool)) : Option ((List Step) × Int) := (L.zdgq a.1 d.1).bind fun f => (forJ (L.zzjm.B10 b c a f) 0 f.length e.1).bind fun j => L.zzjm.J3 g h b c a d i e j
def L.zzjm.J12 (a : (List Step) × (List Bool)) : Option ((List Step) × (List Bool)) := some (a.1, a.2)
def L.zzjm.J13 (b : Nat) (a : (List Step) × (List Bool)) (c : Nat × Bool) (d : Bool) : Option ((List Step) × (List Bool)) := if d = true then (app? a.1 ([(⟨4, (b : Int), 0, (⟨0, 0, [], 0⟩ : Path)⟩ : Step)] : List Step)).bind fun e => L.zzjm.J12 (e, (a.2.set c.1 false)) else L.zzjm.J12 (a.1, a.2)
def L.zzjm.B11 (d : Network) (e : Plan) (f : Plan) (a : Nat) (b : (List Step) × (List Bool)) : Option ((List Step) × (List Bool)) := (ix b.2 (a : Int)).bind fun c => if c.2 = true then (ix e.Pumps (a : Int)).bind fun g => if (!g.2) = true then L.zzjm.J13 a b c true else (L.zvla d f (a : Int)).bind fun h => L.zzjm.J13 a b c (!h) else L.zzjm.J13 a b c false
def L.zzjm.J1 (a : Network) (d : Desk) (b : Plan) (i : Int) (j : Int) (e : (List Path) × Int) (f : (List Path) × Int) (l : Unit) : Option ((List Step) × Int) := (L.zoqk a b).bind fun c => if (c.2 != 0) = true then some ([], c.2) else (L.zygk a e.1 f.1).bind fun k => (L.zlhc d.Plan.Pumps).bind fun g => (forJ (L.zzjm.B11 a b k) 0 g.length ([], g)).bind fun h => L.zzjm.J2 d b i j e f c (h.1, h.2)
def L.zzjm.J15 (a : Bool) : Option (Unit ⊕ (((List Step) × Int))) := if a = true then some ((.inr (([], 22)))) else some (.inl ())
def L.zzjm.B14 (a : Network) (b : Plan) (c : Nat) (d : Bool) (f : Unit) : Option (Unit ⊕ (((List Step) × Int))) := if d = true then (L.zvla a b (c : Int)).bind fun e => L.zzjm.J15 (!e) else L.zzjm.J15 false
def L.zzjm (a : Network) (c : Desk) (b : Plan) (f : Int) (g : Int) : Option ((List Step) × Int) := (L.zjgg a c b f g).bind fun h => if (h != 0) = true then some ([], h) else (L.zxps a c.Plan).bind fun d => if (d.2 != 0) = true then some ([], d.2) else (L.zxps a b).bind fun e => if (e.2 != 0) = true then some ([], e.2) else (forL (L.zzjm.B14 a b) 0 b.Pumps ()).bind fun i => Sum.elim (fun k => L.zzjm.J1 a c b f g d e ()) (fun j => some j) i
def L.zfzy.J1 (c : Network) (d : Desk) (e : Int) (f : Int) (a : (List Int) × (List Int) × (List Bool)) : Option ((List Step) × Int) := (L.zzjm c d (⟨a.1, a.2.1, a.2.2⟩ : Plan) e f).bind fun b => some (b.1, b.2)
def L.zfzy (a : Network) (b : Desk) (c : Int) (d : Int) : Option ((List Step) × Int) := (mk? (a.Segments.length : Int) (0 : Int)).bind fun e => (mk? (a.Ports.length : Int) (0 : Int)).bind fun f => (mk? (a.Stations.length : Int) false).bind fun g => L.zfzy.J1 a b c d (e, f, g)
def L.zrbl.J1 (a : Int) : Option Int := some a
def L.zrbl.J3 (a : Int) : Option Int := some a
def L.zrbl.B2 (c : Nat) (a : Step) (b : Int) : Option Int := if (a.Kind == 5) = true then L.zrbl.J3 (max (max b a.Value) (wr (0 - a.Value))) else L.zrbl.J3 b
def L.zrbl (a : List Step) : Option Int := (forS L.zrbl.B2 0 a 0).bind fun b => L.zrbl.J1 b
def L.zmae (a : Int) (b : Int) (c : Int) : Bool := (decide (a ≥ b) && decide (a ≤ c))
def L.zghg.J3 (a : Network) (b : List ByteArray) (c : List ByteArray) (d : List ByteArray) : Option (Arr (List ByteArray) 4) := some (⟨[a.Nodes, b, c, d], rfl⟩ : Arr (List ByteArray) 4)
def L.zghg.B4 (d : Nat) (a : Station) (b : List ByteArray) : Option (List ByteArray) := (app? b ([a.Name] : List ByteArray)).bind fun c => some c
def L.zghg.J2 (a : Network) (b : List ByteArray) (c : List ByteArray) : Option (Arr (List ByteArray) 4) := (forS L.zghg.B4 0 a.Stations []).bind fun d => L.zghg.J3 a b c d
def L.zghg.B5 (d : Nat) (a : Port) (b : List ByteArray) : Option (List ByteArray) := (app? b ([a.Name] : List ByteArray)).bind fun c => some c
def L.zghg.J1 (a : Network) (b : List ByteArray) : Option (Arr (List ByteArray) 4) := (forS L.zghg.B5 0 a.Ports []).bind fun c => L.zghg.J2 a b c
def L.zghg.B6 (d : Nat) (a : Segment) (b : List ByteArray) : Option (List ByteArray) := (app? b ([a.Name] : List ByteArray)).bind fun c => some c
def L.zghg (a : Network) : Option (Arr (List ByteArray) 4) := (forS L.zghg.B6 0 a.Segments []).bind fun b => L.zghg.J1 a b
def L.zgmr.J2 (a : Unit) : Option Bool := some true
def L.zgmr.J4 (a : Int) (b : Bool) : Option (Int ⊕ (Bool ⊕ Unit)) := if b = true then some ((.inr (.inl (false)))) else some (.inl (wr (a + 1)))
def L.zgmr.B3 (c : ByteArray) (b : Int) : Option (Int ⊕ (Bool ⊕ Unit)) := if decide (b < (c.size : Int)) = true then (ixs c b).bind fun a => if decide (a.2 < 97) = true then if decide (a.2 < 48) = true then L.zgmr.J4 b (a.2 != 45) else if decide (a.2 > 57) = true then L.zgmr.J4 b (a.2 != 45) else L.zgmr.J4 b false else if decide (a.2 > 122) = true then if decide (a.2 < 48) = true then L.zgmr.J4 b (a.2 != 45) else if decide (a.2 > 57) = true then L.zgmr.J4 b (a.2 != 45) else L.zgmr.J4 b false else L.zgmr.J4 b false else some ((.inr (.inr (()))))
def L.zgmr.J1 (a : ByteArray) (b : Bool) : Option Bool := if b = true then some false else (loopN (L.zgmr.B3 a) lots 0).bind fun c => Sum.elim (fun d => some d) (fun e => L.zgmr.J2 e) c
def L.zgmr (a : ByteArray) : Option Bool := if decide ((a.size : Int) < 1) = true then L.zgmr.J1 a true else if decide ((a.size : Int) > 12) = true then L.zgmr.J1 a true else (ixs a 0).bind fun b => if decide (b.2 < 97) = true then L.zgmr.J1 a true else L.zgmr.J1 a (decide (b.2 > 122))
def L.zaag.J1 (a : Unit) : Option Bool := some false
def L.zaag.J3 (a : Unit) : Option (Unit ⊕ (Bool)) := some (.inl ())
def L.zaag.B4 (b : List ByteArray) (c : Nat) (d : ByteArray) (a : Int) : Option (Int ⊕ (Bool ⊕ Unit)) := if decide (a < (c : Int)) = true then (ix b a).bind fun e => if sEq d e.2 = true then some ((.inr (.inl (true)))) else some (.inl (wr (a + 1))) else some ((.inr (.inr (()))))
def L.zaag.B2 (a : List ByteArray) (b : Nat) (c : ByteArray) (g : Unit) : Option (Unit ⊕ (Bool)) := (loopN (L.zaag.B4 a b c) lots 0).bind fun d => Sum.elim (fun e => some ((.inr (e)))) (fun f => L.zaag.J3 f) d
def L.zaag (a : List ByteArray) : Option Bool := (forL (L.zaag.B2 a) 0 a ()).bind fun b => Sum.elim (fun d => L.zaag.J1 ()) (fun c => some c) b
def L.zimi.J2 (a : Unit) : Option Bool := some true
def L.zimi.J4 (a : Bool) : Option (Unit ⊕ (Bool)) := if a = true then some ((.inr (false))) else some (.inl ())
def L.zimi.B3 (c : Segment) (b : Nat) (a : Point) (e : Unit) : Option (Unit ⊕ (Bool)) := if decide ((b : Int) > 0) = true then (ix c.Points (wr ((b : Int) - 1))).bind fun d => if decide (a.At ≤ d.2.At) = true then L.zimi.J4 true else if (!(L.zmae a.Height (-500) 5000)) = true then L.zimi.J4 true else L.zimi.J4 (!(L.zmae a.Limit 0 100000000)) else if (!(L.zmae a.Height (-500) 5000)) = true then L.zimi.J4 true else L.zimi.J4 (!(L.zmae a.Limit 0 100000000))
def L.zimi.J1 (a : Segment) (b : Bool) : Option Bool := if b = true then some false else (forL (L.zimi.B3 a) 0 a.Points ()).bind fun c => Sum.elim (fun e => L.zimi.J2 ()) (fun d => some d) c
def L.zimi (a : Segment) : Option Bool := if (a.From == a.To) = true then L.zimi.J1 a true else if (!(L.zmae a.Capacity 1 1000000)) = true then L.zimi.J1 a true else if (!(L.zmae a.Resist 0 1000)) = true then L.zimi.J1 a true else if (!(L.zmae a.Wave 0 100000)) = true then L.zimi.J1 a true else (ix a.Points 0).bind fun b => if (b.2.At != 0) = true then L.zimi.J1 a true else (ix a.Points (wr ((a.Points.length : Int) - 1))).bind fun c => L.zimi.J1 a (c.2.At != a.Capacity)
def L.zgcl.J10 (a : Network) (b : Unit) : Option Int := if ((!(L.zmae a.Vapour (-100000) 100000000)) || (!(L.zmae a.Settle 0 100))) = true then some 9 else some 0
def L.zgcl.B11 (b : Nat) (a : Station) (c : Unit) : Option (Unit ⊕ (Int)) := if ((!(L.zmae a.Head 0 100000000)) || ((!(L.zmae a.Fall 0 100000)) || (!(L.zmae a.Suction 0 100000000)))) = true then some ((.inr (9))) else some (.inl ())
def L.zgcl.J9 (a : Network) (d : Unit) : Option Int := (forL L.zgcl.B11 0 a.Stations ()).bind fun b => Sum.elim (fun e => L.zgcl.J10 a ()) (fun c => some c) b
def L.zgcl.B12 (b : Nat) (a : Port) (c : Unit) : Option (Unit ⊕ (Int)) := if (!(L.zmae a.Pressure 0 100000000)) = true then some ((.inr (9))) else some (.inl ())
def L.zgcl.J8 (a : Network) (d : Unit) : Option Int := (forL L.zgcl.B12 0 a.Ports ()).bind fun b => Sum.elim (fun e => L.zgcl.J9 a ()) (fun c => some c) b
def L.zgcl.B13 (c : Nat) (a : Segment) (d : Unit) : Option (Unit ⊕ (Int)) := (L.zimi a).bind fun b => if (!b) = true then some ((.inr (9))) else some (.inl ())
def L.zgcl.J7 (a : Network) (d : Unit) : Option Int := (forL L.zgcl.B13 0 a.Segments ()).bind fun b => Sum.elim (fun e => L.zgcl.J8 a ()) (fun c => some c) b
def L.zgcl.B14 (a : Network) (c : Nat) (b : Station) (d : Unit) : Option (Unit ⊕ (Int)) := if (!(L.zmae b.Node 0 (wr ((a.Nodes.length : Int) - 1)))) = true then some ((.inr (8))) else some (.inl ())
def L.zgcl.J6 (a : Network) (d : Unit) : Option Int := (forL (L.zgcl.B14 a) 0 a.Stations ()).bind fun b => Sum.elim (fun e => L.zgcl.J7 a ()) (fun c => some c) b
def L.zgcl.B15 (a : Network) (c : Nat) (b : Port) (d : Unit) : Option (Unit ⊕ (Int)) := if (!(L.zmae b.Node 0 (wr ((a.Nodes.length : Int) - 1)))) = true then some ((.inr (8))) else some (.inl ())
def L.zgcl.J5 (a : Network) (d : Unit) : Option Int := (forL (L.zgcl.B15 a) 0 a.Ports ()).bind fun b => Sum.elim (fun e => L.zgcl.J6 a ()) (fun c => some c) b
def L.zgcl.B16 (a : Network) (c : Nat) (b : Segment) (d : Unit) : Option (Unit ⊕ (Int)) := if ((!(L.zmae b.From 0 (wr ((a.Nodes.length : Int) - 1)))) || (!(L.zmae b.To 0 (wr ((a.Nodes.length : Int) - 1))))) = true then some ((.inr (8))) else some (.inl ())
def L.zgcl.J4 (a : Network) (d : Unit) : Option Int := (forL (L.zgcl.B16 a) 0 a.Segments ()).bind fun b => Sum.elim (fun e => L.zgcl.J5 a ()) (fun c => some c) b
def L.zgcl.J18 (a : Unit) : Option (Unit ⊕ (Int)) := some (.inl ())
def L.zgcl.B19 (b : Network) (c : Nat) (d : Station) (a : Int) : Option (Int ⊕ (Int ⊕ Unit)) := if decide (a < (c : Int)) = true then (ix b.Stations a).bind fun e => if (d.Node == e.2.Node) = true then some ((.inr (.inl (7)))) else some (.inl (wr (a + 1))) else some ((.inr (.inr (()))))
def L.zgcl.B17 (a : Network) (b : Nat) (c : Station) (g : Unit) : Option (Unit ⊕ (Int)) := (loopN (L.zgcl.B19 a b c) lots 0).bind fun d => Sum.elim (fun e => some ((.inr (e)))) (fun f => L.zgcl.J18 f) d
def L.zgcl.J3 (a : Network) (d : Unit) : Option Int := (forL (L.zgcl.B17 a) 0 a.Stations ()).bind fun b => Sum.elim (fun e => L.zgcl.J4 a ()) (fun c => some c) b
def L.zgcl.B20 (a : Arr (List ByteArray) 4) (b : Nat) (e : Unit) : Option (Unit ⊕ (Int)) := (ix a.l (b : Int)).bind fun c => (L.zaag c.2).bind fun d => if d = true then some ((.inr (7))) else some (.inl ())
def L.zgcl.J2 (a : Network) (b : Arr (List ByteArray) 4) (e : Unit) : Option Int := (forI (L.zgcl.B20 b) 0 4 ()).bind fun c => Sum.elim (fun f => L.zgcl.J3 a ()) (fun d => some d) c
def L.zgcl.J22 (a : Unit) : Option (Unit ⊕ (Int)) := some (.inl ())
def L.zgcl.B23 (c : Nat) (a : ByteArray) (d : Unit) : Option (Unit ⊕ (Int)) := (L.zgmr a).bind fun b => if (!b) = true then some ((.inr (3))) else some (.inl ())
def L.zgcl.B21 (a : Arr (List ByteArray) 4) (b : Nat) (f : Unit) : Option (Unit ⊕ (Int)) := (ix a.l (b : Int)).bind fun c => (forL L.zgcl.B23 0 c.2 ()).bind fun d => Sum.elim (fun g => L.zgcl.J22 ()) (fun e => some ((.inr (e)))) d
def L.zgcl.J1 (a : Network) (e : Unit) : Option Int := (L.zghg a).bind fun b => (forI (L.zgcl.B21 b) 0 4 ()).bind fun c => Sum.elim (fun f => L.zgcl.J2 a b ()) (fun d => some d) c
def L.zgcl.B24 (b : Nat) (a : Segment) (c : Unit) : Option (Unit ⊕ (Int)) := if (!(L.zmae (a.Points.length : Int) 2 8)) = true then some ((.inr (4))) else some (.inl ())
def L.zgcl (a : Network) : Option Int := if ((!(L.zmae (a.Nodes.length : Int) 1 24)) || (decide ((a.Segments.length : Int) > 32) || (decide ((a.Ports.length : Int) > 24) || decide ((a.Stations.length : Int) > 12)))) = true then some 4 else (forL L.zgcl.B24 0 a.Segments ()).bind fun b => Sum.elim (fun d => L.zgcl.J1 a ()) (fun c => some c) b
def L.zdwa (a : Segment) (b : Int) : (Int × Int) := if decide (b < 0) = true then (a.To, a.From) else (a.From, a.To)
def L.zeew.J2 (a : Int × Int) : Option (Int × Int) := some (a.1, a.2)
def L.zeew.J4 (a : Int × Int) : Option (Int × Int) := some (a.1, a.2)
def L.zeew.B3 (c : Plan) (d : Int) (e : Nat) (f : Port) (a : Int × Int) : Option (Int × Int) := if (f.Node == d) = true then (ix c.Ports (e : Int)).bind fun b => L.zeew.J4 (wr (a.1 + (max 0 b.2)), wr (a.2 + (max 0 (wr (0 - b.2))))) else L.zeew.J4 (a.1, a.2)
def L.zeew.J1 (c : Network) (d : Plan) (e : Int) (a : Int × Int) : Option (Int × Int) := (forS (L.zeew.B3 d e) 0 c.Ports (a.1, a.2)).bind fun b => L.zeew.J2 (b.1, b.2)
def L.zeew.J6 (a : Int × Int) : Option (Int × Int) := some (a.1, a.2)
def L.zeew.J7 (d : Int) (e : Segment) (a : Int × Int) (b : Nat × Int) (c : Int) : Option (Int × Int) := if (((L.zdwa e b.2).2) == d) = true then L.zeew.J6 (wr (a.1 + (L.zuap b.2)), c) else L.zeew.J6 (a.1, c)
def L.zeew.B5 (e : Plan) (c : Int) (f : Nat) (d : Segment) (a : Int × Int) : Option (Int × Int) := (ix e.Rates (f : Int)).bind fun b => if (b.2 == 0) = true then L.zeew.J6 (a.1, a.2) else if (((L.zdwa d b.2).1) == c) = true then L.zeew.J7 c d a b (wr (a.2 + (L.zuap b.2))) else L.zeew.J7 c d a b a.2
def L.zeew (a : Network) (b : Plan) (c : Int) : Option (Int × Int) := (forS (L.zeew.B5 b c) 0 a.Segments (0, 0)).bind fun d => L.zeew.J1 a b c (d.1, d.2)
def L.zaew.J2 (a : (List Int) × (List Bool)) (b : Int) : Option (((List Int) × (List Bool)) ⊕ ((List Int))) := if decide (b < 0) = true then some ((.inr (a.1))) else (app? a.1 ([b] : List Int)).bind fun c => (ix a.2 b).bind fun d => some (.inl (c, (a.2.set d.1 true)))
def L.zaew.J4 (a : Int) : Option Int := some a
def L.zaew.J5 (b : Nat) (a : Int) (c : Bool) : Option Int := if (c && decide (a < 0)) = true then L.zaew.J4 (b : Int) else L.zaew.J4 a
def L.zaew.J7 (a : Bool) : Option Bool := some a
def L.zaew.B6 (d : Plan) (e : (List Int) × (List Bool)) (f : Nat) (g : Nat) (b : Segment) (c : Bool) : Option Bool := (ix d.Rates (g : Int)).bind fun a => if (a.2 != 0) = true then if c = true then if (((L.zdwa b a.2).2) != (f : Int)) = true then L.zaew.J7 true else (ix e.2 ((L.zdwa b a.2).1)).bind fun h => L.zaew.J7 h.2 else L.zaew.J7 false else L.zaew.J7 c
def L.zaew.B3 (c : Network) (d : Plan) (b : (List Int) × (List Bool)) (a : Nat) (h : ByteArray) (e : Int) : Option Int := (ix b.2 (a : Int)).bind fun f => (forS (L.zaew.B6 d b a) 0 c.Segments (!f.2)).bind fun g => L.zaew.J5 a e g
def L.zaew.B1 (a : Network) (c : Plan) (b : (List Int) × (List Bool)) : Option (((List Int) × (List Bool)) ⊕ ((List Int))) := (forS (L.zaew.B3 a c b) 0 a.Nodes (-1)).bind fun d => L.zaew.J2 b d
def L.zaew (a : Network) (b : Plan) : Option (List Int) := (mk? (a.Nodes.length : Int) false).bind fun c => (loopN (L.zaew.B1 a b) lots ([], c)).bind fun d => some d
def L.zvqa.J3 (a : Network) (b : Plan) (d : Unit) : Option Int := (L.zaew a b).bind fun c => if ((c.length : Int) != (a.Nodes.length : Int)) = true then some 13 else some 0
def L.zvqa.B4 (b : Network) (c : Plan) (d : Nat) (e : ByteArray) (f : Unit) : Option (Unit ⊕ (Int)) := (L.zeew b c (d : Int)).bind fun a => if (a.1 != a.2) = true then some ((.inr (12))) else some (.inl ())
def L.zvqa.J2 (a : Network) (b : Plan) (e : Unit) : Option Int := (forL (L.zvqa.B4 a b) 0 a.Nodes ()).bind fun c => Sum.elim (fun f => L.zvqa.J3 a b ()) (fun d => some d) c
def L.zvqa.B5 (b : Nat) (a : Int) (c : Unit) : Option (Unit ⊕ (Int)) := if (decide (a < (-1000)) || decide (a > 1000)) = true then some ((.inr (1))) else some (.inl ())
def L.zvqa.J1 (b : Network) (a : Plan) (e : Unit) : Option Int := (forL L.zvqa.B5 0 a.Ports ()).bind fun c => Sum.elim (fun f => L.zvqa.J2 b a ()) (fun d => some d) c
def L.zvqa.B6 (c : Network) (d : Nat) (a : Int) (e : Unit) : Option (Unit ⊕ (Int)) := (ix c.Segments (d : Int)).bind fun b => if (decide (a < (wr (0 - (min 1000 b.2.Capacity)))) || decide (a > (min 1000 b.2.Capacity))) = true then some ((.inr (1))) else some (.inl ())
def L.zvqa (a : Network) (b : Plan) : Option Int := (L.zgcl a).bind fun c => if (c != 0) = true then some c else if (((b.Rates.length : Int) != (a.Segments.length : Int)) || (((b.Ports.length : Int) != (a.Ports.length : Int)) || ((b.Pumps.length : Int) != (a.Stations.length : Int)))) = true then some 9 else (forL (L.zvqa.B6 a) 0 b.Rates ()).bind fun d => Sum.elim (fun f => L.zvqa.J1 a b ()) (fun e => some e) d
def L.zcfu (a : Network) (c : Plan) (b : Int) : Option (Int × Int) := (L.zvqa a c).bind fun d => if (d != 0) = true then some (0, d) else if (decide (b < 0) || decide (b ≥ (a.Nodes.length : Int))) = true then some (0, 8) else (L.zeew a c b).bind fun e => some (e.1, 0)
def L.zsid (a : Valve) : Bool := (decide (a.Travel ≥ 1) && (decide (a.Travel ≤ 60) && (decide (a.Open ≥ 0) && decide (a.Open ≤ a.Travel))))
def L.zwdc (a : Valve) : Bool := ((L.zsid a) && (a.Open == a.Travel))
def L.zlky.J1 (a : Valve) (b : Int) : (Valve × Int) := ((⟨a.Travel, b, a.Want, a.Stuck⟩ : Valve), 0)
def L.zlky (a : Valve) : (Valve × Int) := if (!(L.zsid a)) = true then (a, 20) else if a.Stuck = true then (a, 0) else if (a.Want && decide (a.Open < a.Travel)) = true then L.zlky.J1 a (wr (a.Open + 1)) else if ((!a.Want) && decide (a.Open > 0)) = true then L.zlky.J1 a (wr (a.Open - 1)) else L.zlky.J1 a a.Open
def L.zbvl.J1 (a : Int × Int × Bool × Bool) : Option (Valve × Int) := some ((⟨a.1, a.2.1, a.2.2.1, a.2.2.2⟩ : Valve), 0)
def L.zbvl.B2 (b : Int) (a : Int × Int × Bool × Bool × Int) : Option ((Int × Int × Bool × Bool × Int) ⊕ ((Int × Int × Bool × Bool))) := if decide (a.2.2.2.2 < b) = true then some (.inl (((L.zlky (⟨a.1, a.2.1, a.2.2.1, a.2.2.2.1⟩ : Valve)).1).Travel, ((L.zlky (⟨a.1, a.2.1, a.2.2.1, a.2.2.2.1⟩ : Valve)).1).Open, ((L.zlky (⟨a.1, a.2.1, a.2.2.1, a.2.2.2.1⟩ : Valve)).1).Want, ((L.zlky (⟨a.1, a.2.1, a.2.2.1, a.2.2.2.1⟩ : Valve)).1).Stuck, wr (a.2.2.2.2 + 1))) else some ((.inr ((a.1, a.2.1, a.2.2.1, a.2.2.2.1))))
def L.zbvl (a : Valve) (b : Int) : Option (Valve × Int) := if (!(L.zsid a)) = true then some (a, 20) else if (decide (b < 0) || decide (b > 400)) = true then some (a, 1) else (loopN (L.zbvl.B2 b) lots (a.Travel, a.Open, a.Want, a.Stuck, 0)).bind fun c => L.zbvl.J1 c
def L.zfax (a : Valve) (b : Bool) : (Valve × Int) := if (!(L.zsid a)) = true then (a, 20) else ((⟨a.Travel, a.Open, b, a.Stuck⟩ : Valve), 0)
def L.zjdk (a : Lineup) : Option (List Bool) := (app? ([] : List Bool) a.Segments).bind fun b => (app? b a.Ports).bind fun c => some c
def L.zyrr.J2 (a : List Bool) (b : List Bool) : Option Lineup := some (⟨a, b⟩ : Lineup)
def L.zyrr.B3 (b : Plan) (a : (List Bool) × Int) : Option (((List Bool) × Int) ⊕ ((List Bool))) := if decide (a.2 < (b.Ports.length : Int)) = true then (ix b.Ports a.2).bind fun c => (app? a.1 ([(c.2 != 0)] : List Bool)).bind fun d => some (.inl (d, wr (a.2 + 1))) else some ((.inr (a.1)))
def L.zyrr.J1 (a : Plan) (b : List Bool) : Option Lineup := (loopN (L.zyrr.B3 a) lots ([], 0)).bind fun c => L.zyrr.J2 b c
def L.zyrr.B4 (b : Plan) (a : (List Bool) × Int) : Option (((List Bool) × Int) ⊕ ((List Bool))) := if decide (a.2 < (b.Rates.length : Int)) = true then (ix b.Rates a.2).bind fun c => (app? a.1 ([(c.2 != 0)] : List Bool)).bind fun d => some (.inl (d, wr (a.2 + 1))) else some ((.inr (a.1)))
def L.zyrr (a : Plan) : Option Lineup := (loopN (L.zyrr.B4 a) lots ([], 0)).bind fun b => L.zyrr.J1 a b
def L.zazn (a : Network) : Int := (wr ((a.Segments.length : Int) + (a.Ports.length : Int)))
def L.zbne.J1 (a : Unit) : Option Int := some 0
def L.zbne.B2 (b : List Valve) (a : Int) : Option (Int ⊕ (Int ⊕ Unit)) := if decide (a < (b.length : Int)) = true then (ix b a).bind fun c => if (!(L.zsid c.2)) = true then some ((.inr (.inl (20)))) else some (.inl (wr (a + 1))) else some ((.inr (.inr (()))))
def L.zbne (b : Network) (a : List Valve) : Option Int := if ((a.length : Int) != (L.zazn b)) = true then some 20 else (loopN (L.zbne.B2 a) lots 0).bind fun c => Sum.elim (fun d => some d) (fun e => L.zbne.J1 e) c
def L.zbxx.J1 (a : (List Int) × (List Int) × (List Bool)) : Option Plan := some (⟨a.1, a.2.1, a.2.2⟩ : Plan)
def L.zbxx (a : Plan) : Option Plan := (app? ([] : List Int) a.Rates).bind fun b => (app? ([] : List Int) a.Ports).bind fun c => (app? ([] : List Bool) a.Pumps).bind fun d => L.zbxx.J1 (b, c, d)
def L.zkfu (a : Path) : Option Path := (app? ([] : List Hop) a.Hops).bind fun b => some (⟨a.In, a.Out, b, a.Rate⟩ : Path)
def L.ztgl (c : Network) (b : Hop) : Option (Int × Int) := (ix c.Segments b.Segment).bind fun a => if b.Back = true then some (a.2.To, a.2.From) else some (a.2.From, a.2.To)
def L.zzsn.J1 (a : Network) (b : Path) (c : Int) : Option Bool := (ix a.Ports b.Out).bind fun d => some (c == d.2.Node)
def L.zzsn.J3 (b : Int × (List Int) × Int) (a : Int × (List Int)) : Option ((Int × (List Int) × Int) ⊕ (Bool ⊕ Int)) := some (.inl (a.1, a.2, wr (b.2.2 + 1)))
def L.zzsn.J5 (a : Int × (List Int) × Int) (b : Int × Int) (d : Unit) : Option ((Int × (List Int) × Int) ⊕ (Bool ⊕ Int)) := (app? a.2.1 ([b.2] : List Int)).bind fun c => L.zzsn.J3 a (b.2, c)
def L.zzsn.B6 (b : Int × (List Int) × Int) (c : Int × Int) (a : Int) : Option (Int ⊕ (Bool ⊕ Unit)) := if decide (a < (b.2.1.length : Int)) = true then (ix b.2.1 a).bind fun d => if (d.2 == c.2) = true then some ((.inr (.inl (false)))) else some (.inl (wr (a + 1))) else some ((.inr (.inr (()))))
def L.zzsn.J4 (c : Network) (d : Path) (a : Int × (List Int) × Int) (e : Bool) : Option ((Int × (List Int) × Int) ⊕ (Bool ⊕ Int)) := if e = true then some ((.inr (.inl (false)))) else (ix d.Hops a.2.2).bind fun f => (L.ztgl c f.2).bind fun b => if (b.1 != a.1) = true then some ((.inr (.inl (false)))) else (loopN (L.zzsn.B6 a b) lots 0).bind fun g => Sum.elim (fun h => some ((.inr (.inl (h))))) (fun i => L.zzsn.J5 a b i) g
def L.zzsn.B2 (c : Network) (b : Path) (a : Int × (List Int) × Int) : Option ((Int × (List Int) × Int) ⊕ (Bool ⊕ Int)) := if decide (a.2.2 < (b.Hops.length : Int)) = true then (ix b.Hops a.2.2).bind fun d => if decide (d.2.Segment < 0) = true then L.zzsn.J4 c b a true else L.zzsn.J4 c b a (decide (d.2.Segment ≥ (c.Segments.length : Int))) else some ((.inr (.inr (a.1))))
def L.zzsn (b : Network) (a : Path) : Option Bool := if (decide (a.In < 0) || (decide (a.In ≥ (b.Ports.length : Int)) || (decide (a.Out < 0) || (decide (a.Out ≥ (b.Ports.length : Int)) || ((a.In == a.Out) || (decide (a.Rate < 1) || (decide (a.Rate > 1000) || decide ((a.Hops.length : Int) > 32)))))))) = true then some false else (ix b.Ports a.In).bind fun c => (loopN (L.zzsn.B2 b a) lots (c.2.Node, ([c.2.Node] : List Int), 0)).bind fun d => Sum.elim (fun e => some e) (fun f => L.zzsn.J1 b a f) d
def L.zouh.J1 (a : Bool) : Option Bool := some a
def L.zouh (a : Network) (b : Path) : Option Bool := (L.zgcl a).bind fun c => if (c == 0) = true then (L.zzsn a b).bind fun d => L.zouh.J1 d else L.zouh.J1 false
def L.zryh (a : Desk) : Option Desk := (app? ([] : List Valve) a.Valves).bind fun b => (L.zbxx a.Plan).bind fun c => some (⟨b, c⟩ : Desk)
def L.zbva (a : Path) : Bool := ((a.In == 0) && ((a.Out == 0) && (((a.Hops.length : Int) == 0) && (a.Rate == 0))))
def L.zrblx.J1 (a : Step) (b : Bool) : Bool := if b = true then ((a.Value == 0) && (L.zbva a.Path)) else if (a.Kind == 5) = true then ((a.Index == 0) && (a.Path.Rate == 0)) else if (a.Kind == 6) = true then ((a.Index == 0) && (L.zbva a.Path)) else false
def L.zrblx (a : Step) : Bool := if (a.Kind == 1) = true then L.zrblx.J1 a (a.Kind == 1) else if (a.Kind == 2) = true then L.zrblx.J1 a (a.Kind == 2) else if (a.Kind == 3) = true then L.zrblx.J1 a (a.Kind == 3) else L.zrblx.J1 a (a.Kind == 4)
def L.zkss.J1 (a : Unit) : Option Bool := some true
def L.zkss.J3 (a : Int) (b : Unit) : Option (Int ⊕ (Bool ⊕ Unit)) := some (.inl (wr (a + 1)))
def L.zkss.B2 (b : Network) (c : Plan) (a : Int) : Option (Int ⊕ (Bool ⊕ Unit)) := if decide (a < (b.Stations.length : Int)) = true then (ix c.Pumps a).bind fun e => if e.2 = true then (ix b.Stations a).bind fun f => (L.zcfu b c f.2.Node).bind fun d => if ((d.2 != 0) || (d.1 == 0)) = true then some ((.inr (.inl (false)))) else L.zkss.J3 a () else L.zkss.J3 a () else some ((.inr (.inr (()))))
def L.zkss (a : Network) (b : Plan) : Option Bool := (loopN (L.zkss.B2 a b) lots 0).bind fun c => Sum.elim (fun d => some d) (fun e => L.zkss.J1 e) c
def L.zupr.J1 (a : Network) (b : Desk) (d : Unit) : Option Int := (L.zkss a b.Plan).bind fun c => if (!c) = true then some 21 else some 0
def L.zupr.J3 (a : Int) (b : Bool) : Option (Int ⊕ (Int ⊕ Unit)) := if b = true then some ((.inr (.inl (21)))) else some (.inl (wr (a + 1)))
def L.zupr.B2 (d : Desk) (b : List Bool) (a : Int) : Option (Int ⊕ (Int ⊕ Unit)) := if decide (a < (b.length : Int)) = true then (ix b a).bind fun e => if e.2 = true then (ix d.Valves a).bind fun c => if (!(L.zwdc c.2)) = true then L.zupr.J3 a true else L.zupr.J3 a (!c.2.Want) else L.zupr.J3 a false else some ((.inr (.inr (()))))
def L.zupr (b : Network) (a : Desk) : Option Int := (L.zgcl b).bind fun c => if (c != 0) = true then some c else (L.zbne b a.Valves).bind fun d => if (d != 0) = true then some d else (L.zvqa b a.Plan).bind fun e => if (e != 0) = true then some e else (L.zyrr a.Plan).bind fun f => (L.zjdk f).bind fun g => (loopN (L.zupr.B2 a g) lots 0).bind fun h => Sum.elim (fun i => some i) (fun j => L.zupr.J1 b a j) h
def L.zdmi.J1 (b : Desk) (c : Step) (e : Bool) : Option (Desk × Int) := if e = true then some (b, 22) else (L.zryh b).bind fun a => (ix a.Valves c.Index).bind fun d => some ((⟨(a.Valves.set d.1 ((L.zfax d.2 (c.Kind == 1)).1)), a.Plan⟩ : Desk), 0)
def L.zdmi (b : Desk) (a : Step) : Option (Desk × Int) := if (decide (a.Index < 0) || decide (a.Index ≥ (b.Valves.length : Int))) = true then some (b, 8) else if (a.Kind == 2) = true then (L.zyrr b.Plan).bind fun c => (L.zjdk c).bind fun d => (ix d a.Index).bind fun e => L.zdmi.J1 b a e.2 else L.zdmi.J1 b a false
def L.zhuq (d : Network) (c : Desk) (b : Step) : Option (Desk × Int) := if (decide (b.Index < 0) || decide (b.Index ≥ (d.Stations.length : Int))) = true then some (c, 8) else (L.zryh c).bind fun a => (ix a.Plan.Pumps b.Index).bind fun e => (L.zkss d (⟨a.Plan.Rates, a.Plan.Ports, (a.Plan.Pumps.set e.1 (b.Kind == 3))⟩ : Plan)).bind fun f => if (!f) = true then some (c, 22) else some ((⟨a.Valves, (⟨a.Plan.Rates, a.Plan.Ports, (a.Plan.Pumps.set e.1 (b.Kind == 3))⟩ : Plan)⟩ : Desk), 0)
def L.zrxf.J2 (a : Unit) : Option Bool := some true
def L.zrxf.J4 (a : Int) (b : Bool) : Option (Int ⊕ (Bool ⊕ Unit)) := if b = true then some ((.inr (.inl (false)))) else some (.inl (wr (a + 1)))
def L.zrxf.B3 (d : Desk) (b : List Int) (a : Int) : Option (Int ⊕ (Bool ⊕ Unit)) := if decide (a < (b.length : Int)) = true then (ix b a).bind fun e => (ix d.Valves e.2).bind fun c => if (!(L.zwdc c.2)) = true then L.zrxf.J4 a true else L.zrxf.J4 a (!c.2.Want) else some ((.inr (.inr (()))))
def L.zrxf.J1 (a : Desk) (b : List Int) : Option Bool := (loopN (L.zrxf.B3 a b) lots 0).bind fun c => Sum.elim (fun d => some d) (fun e => L.zrxf.J2 e) c
def L.zrxf.B5 (b : Path) (a : (List Int) × Int) : Option (((List Int) × Int) ⊕ ((List Int))) := if decide (a.2 < (b.Hops.length : Int)) = true then (ix b.Hops a.2).bind fun c => (app? a.1 ([c.2.Segment] : List Int)).bind fun d => some (.inl (d, wr (a.2 + 1))) else some ((.inr (a.1)))
def L.zrxf (b : Network) (c : Desk) (a : Path) : Option Bool := (loopN (L.zrxf.B5 a) lots (([wr ((b.Segments.length : Int) + a.In), wr ((b.Segments.length : Int) + a.Out)] : List Int), 0)).bind fun d => L.zrxf.J1 c d
def L.zkvy.J2 (f : Network) (g : Desk) (b : Step) (a : Desk) (c : Nat × Int) (d : Nat × Int) (e : List Int) : Option (Desk × Int) := (L.zvqa f (⟨e, ((a.Plan.Ports.set c.1 (wr (c.2 + b.Value))).set d.1 (wr (d.2 - b.Value))), a.Plan.Pumps⟩ : Plan)).bind fun h => if (h != 0) = true then some (g, h) else (L.zkss f (⟨e, ((a.Plan.Ports.set c.1 (wr (c.2 + b.Value))).set d.1 (wr (d.2 - b.Value))), a.Plan.Pumps⟩ : Plan)).bind fun i => if (!i) = true then some (g, 22) else some ((⟨a.Valves, (⟨e, ((a.Plan.Ports.set c.1 (wr (c.2 + b.Value))).set d.1 (wr (d.2 - b.Value))), a.Plan.Pumps⟩ : Plan)⟩ : Desk), 0)
def L.zkvy.J4 (d : Desk) (e : Step) (b : (List Int) × Int) (f : Nat × Hop) (a : Int) : Option (((List Int) × Int) ⊕ ((Desk × Int) ⊕ (List Int))) := (ix d.Plan.Rates f.2.Segment).bind fun c => if (decide ((wr (a * c.2)) < 0) || decide ((wr ((wr (a * c.2)) + e.Value)) < 0)) = true then some ((.inr (.inl ((d, 22))))) else (ix b.1 f.2.Segment).bind fun g => some (.inl ((b.1.set g.1 (wr (a * (wr ((wr (a * c.2)) + e.Value))))), wr (b.2 + 1)))
def L.zkvy.B3 (c : Desk) (d : Step) (e : Path) (a : (List Int) × Int) : Option (((List Int) × Int) ⊕ ((Desk × Int) ⊕ (List Int))) := if decide (a.2 < (e.Hops.length : Int)) = true then (ix e.Hops a.2).bind fun b => if b.2.Back = true then L.zkvy.J4 c d a b (-1) else L.zkvy.J4 c d a b 1 else some ((.inr (.inr (a.1))))
def L.zkvy.J1 (d : Network) (a : Desk) (b : Step) (e : Path) (c : Desk) (f : Nat × Int) (g : Nat × Int) (h : Bool) : Option (Desk × Int) := if h = true then some (a, 22) else (loopN (L.zkvy.B3 a b e) lots (c.Plan.Rates, 0)).bind fun i => Sum.elim (fun j => some j) (fun k => L.zkvy.J2 d a b c f g k) i
def L.zkvy (g : Network) (c : Desk) (a : Step) : Option (Desk × Int) := if (decide (a.Value < (-1000)) || decide (a.Value > 1000)) = true then some (c, 23) else (L.zkfu a.Path).bind fun b => (L.zouh g (⟨b.In, b.Out, b.Hops, (max a.Value (wr (0 - a.Value)))⟩ : Path)).bind fun h => if (!h) = true then some (c, 23) else (L.zryh c).bind fun e => (L.zrxf g e (⟨b.In, b.Out, b.Hops, (max a.Value (wr (0 - a.Value)))⟩ : Path)).bind fun i => if (!i) = true then some (c, 22) else (ix e.Plan.Ports b.In).bind fun d => (ix (e.Plan.Ports.set d.1 (wr (d.2 + a.Value))) b.Out).bind fun f => (ix ((e.Plan.Ports.set d.1 (wr (d.2 + a.Value))).set f.1 (wr (f.2 - a.Value))) b.In).bind fun j => if decide (j.2 < 0) = true then L.zkvy.J1 g c a b e d f true else (ix ((e.Plan.Ports.set d.1 (wr (d.2 + a.Value))).set f.1 (wr (f.2 - a.Value))) b.Out).bind fun k => if decide (k.2 > 0) = true then L.zkvy.J1 g c a b e d f true else (ix c.Plan.Ports b.In).bind fun l => if decide (l.2 < 0) = true then L.zkvy.J1 g c a b e d f true else (ix c.Plan.Ports b.Out).bind fun m => L.zkvy.J1 g c a b e d f (decide (m.2 > 0))
def L.zvix.J3 (a : Desk) (b : List Valve) : Option (Desk × Int) := some ((⟨b, a.Plan⟩ : Desk), 0)
def L.zvix.B4 (c : Step) (a : (List Valve) × Int) : Option (((List Valve) × Int) ⊕ ((List Valve))) := if decide (a.2 < (a.1.length : Int)) = true then (ix a.1 a.2).bind fun b => (L.zbvl b.2 c.Value).bind fun d => some (.inl ((a.1.set b.1 d.1), wr (a.2 + 1))) else some ((.inr (a.1)))
def L.zvix.J2 (c : Network) (b : Desk) (a : Step) (g : Bool) : Option (Desk × Int) := if g = true then (L.zhuq c b a).bind fun d => some (d.1, d.2) else if (a.Kind == 5) = true then (L.zkvy c b a).bind fun e => some (e.1, e.2) else if (decide (a.Value < 1) || decide (a.Value > 100)) = true then some (b, 1) else (L.zryh b).bind fun f => (loopN (L.zvix.B4 a) lots (f.Valves, 0)).bind fun h => L.zvix.J3 f h
def L.zvix.J1 (c : Network) (b : Desk) (a : Step) (e : Bool) : Option (Desk × Int) := if e = true then (L.zdmi b a).bind fun d => some (d.1, d.2) else if (a.Kind == 3) = true then L.zvix.J2 c b a (a.Kind == 3) else L.zvix.J2 c b a (a.Kind == 4)
def L.zvix (c : Network) (b : Desk) (a : Step) : Option (Desk × Int) := (L.zupr c b).bind fun d => if (d != 0) = true then some (b, d) else if (!(L.zrblx a)) = true then some (b, 22) else if (a.Kind == 1) = true then L.zvix.J1 c b a (a.Kind == 1) else L.zvix.J1 c b a (a.Kind == 2)
def L.zcvf.J2 (a : (List Int) × (List Int) × (List Bool)) (b : List Valve) : Option (Desk × Int) := some ((⟨b, (⟨a.1, a.2.1, a.2.2⟩ : Plan)⟩ : Desk), 0)
def L.zcvf.B3 (b : Network) (c : Int) (a : (List Valve) × Int) : Option (((List Valve) × Int) ⊕ ((List Valve))) := if decide (a.2 < (L.zazn b)) = true then (app? a.1 ([(⟨c, 0, false, false⟩ : Valve)] : List Valve)).bind fun d => some (.inl (d, wr (a.2 + 1))) else some ((.inr (a.1)))
def L.zcvf.J1 (a : Network) (b : Int) (c : (List Int) × (List Int) × (List Bool)) : Option (Desk × Int) := (loopN (L.zcvf.B3 a b) lots ([], 0)).bind fun d => L.zcvf.J2 c d
def L.zcvf (a : Network) (b : Int) : Option (Desk × Int) := (L.zgcl a).bind fun c => if (c != 0) = true then some ((⟨[], (⟨[], [], []⟩ : Plan)⟩ : Desk), c) else if (decide (b < 1) || decide (b > 60)) = true then some ((⟨[], (⟨[], [], []⟩ : Plan)⟩ : Desk), 20) else (mk? (a.Segments.length : Int) (0 : Int)).bind fun d => (mk? (a.Ports.length : Int) (0 : Int)).bind fun e => (mk? (a.Stations.length : Int) false).bind fun f => L.zcvf.J1 a b (d, e, f)
def L.zqaf (a : List Int) : Bool := (decide ((a.length : Int) ≤ 400))
def L.zqyk.J1 (a : Desk) (b : List Valve) : Option Desk := some (⟨b, a.Plan⟩ : Desk)
def L.zqyk.B2 (a : (List Valve) × Int) : Option (((List Valve) × Int) ⊕ ((List Valve))) := if decide (a.2 < (a.1.length : Int)) = true then (ix a.1 a.2).bind fun b => some (.inl ((a.1.set b.1 (⟨b.2.Travel, b.2.Open, b.2.Want, false⟩ : Valve)), wr (a.2 + 1))) else some ((.inr (a.1)))
def L.zqyk (b : Desk) : Option Desk := (L.zryh b).bind fun a => (loopN L.zqyk.B2 lots (a.Valves, 0)).bind fun c => L.zqyk.J1 a c
def L.zbqx.J1 (a : Plan) (b : List Bool) : Option Plan := some (⟨a.Rates, a.Ports, b⟩ : Plan)
def L.zbqx.J3 (a : (List Bool) × Int) (b : List Bool) : Option (((List Bool) × Int) ⊕ ((List Bool))) := some (.inl (b, wr (a.2 + 1)))
def L.zbqx.B2 (c : Network) (e : Plan) (a : (List Bool) × Int) : Option (((List Bool) × Int) ⊕ ((List Bool))) := if (decide (a.2 < (c.Stations.length : Int)) && decide (a.2 < (a.1.length : Int))) = true then (ix c.Stations a.2).bind fun f => (L.zcfu c e f.2.Node).bind fun d => (ix a.1 a.2).bind fun b => if b.2 = true then if (d.2 == 0) = true then L.zbqx.J3 a (a.1.set b.1 (decide (d.1 > 0))) else L.zbqx.J3 a (a.1.set b.1 false) else L.zbqx.J3 a (a.1.set b.1 false) else some ((.inr (a.1)))
def L.zbqx (c : Network) (a : Plan) : Option Plan := (L.zbxx a).bind fun b => (loopN (L.zbqx.B2 c a) lots (b.Pumps, 0)).bind fun d => L.zbqx.J1 b d
def L.zhma (c : KS) (a : Network) : Option (Plan × KS) := (L.zjbu c a).bind fun b => (L.zbqx a b.1).bind fun d => some (d, b.2)
def L.ztts (f : KS) : Option (Valve × KS) := (L.ztqk f ([1, 2, 3, 6, 60] : List Int)).bind fun a => (L.zdjb a.2 2).bind fun b => (L.zdjb b.2 8).bind fun c => (L.zdjb c.2 (wr (a.1 + 1))).bind fun d => (L.ztqk d.2 ([0, a.1, d.1] : List Int)).bind fun e => some ((⟨a.1, e.1, (b.1 == 0), (c.1 == 7)⟩ : Valve), e.2)
def L.zrqy.J1 (b : Plan) (a : (List Int) × Int × (List Valve)) : Option (Desk × KS) := some ((⟨a.2.2, b⟩ : Desk), (⟨a.1, a.2.1⟩ : KS))
def L.zrqy.J3 (b : (List Int) × Int × (List Valve) × Int) (a : Valve × KS) (c : Int × Bool) : Option (((List Int) × Int × (List Valve) × Int) ⊕ (((List Int) × Int × (List Valve)))) := (app? b.2.2.1 ([(⟨a.1.Travel, c.1, c.2, a.1.Stuck⟩ : Valve)] : List Valve)).bind fun d => some (.inl (a.2.L_, a.2.At, d, wr (b.2.2.2 + 1)))
def L.zrqy.B2 (c : List Bool) (a : (List Int) × Int × (List Valve) × Int) : Option (((List Int) × Int × (List Valve) × Int) ⊕ (((List Int) × Int × (List Valve)))) := if decide (a.2.2.2 < (c.length : Int)) = true then (L.ztts (⟨a.1, a.2.1⟩ : KS)).bind fun b => (ix c a.2.2.2).bind fun d => if d.2 = true then L.zrqy.J3 a b (b.1.Travel, true) else L.zrqy.J3 a b (b.1.Open, b.1.Want) else some ((.inr ((a.1, a.2.1, a.2.2.1))))
def L.zrqy (a : KS) (c : Network) (d : Plan) : Option (Desk × KS) := (L.zbqx c d).bind fun b => (L.zyrr b).bind fun e => (L.zjdk e).bind fun f => (loopN (L.zrqy.B2 f) lots (a.L_, a.At, [], 0)).bind fun g => L.zrqy.J1 b g
def L.zgom.J1 (a : Bool) : Option Bool := some a
def L.zgom : Option Bool := (L.zcvf (⟨([(⟨#[97]⟩ : ByteArray), (⟨#[98]⟩ : ByteArray)] : List ByteArray), ([(⟨(⟨#[103]⟩ : ByteArray), 0, 1, 10, 0, 0, ([(⟨0, 0, 1000⟩ : Point), (⟨10, 0, 1000⟩ : Point)] : List Point)⟩ : Segment)] : List Segment), ([(⟨(⟨#[112]⟩ : ByteArray), 0, 0⟩ : Port), (⟨(⟨#[113]⟩ : ByteArray), 1, 0⟩ : Port)] : List Port), [], 0, 0⟩ : Network) 2).bind fun c => (L.zzjm (⟨([(⟨#[97]⟩ : ByteArray), (⟨#[98]⟩ : ByteArray)] : List ByteArray), ([(⟨(⟨#[103]⟩ : ByteArray), 0, 1, 10, 0, 0, ([(⟨0, 0, 1000⟩ : Point), (⟨10, 0, 1000⟩ : Point)] : List Point)⟩ : Segment)] : List Segment), ([(⟨(⟨#[112]⟩ : ByteArray), 0, 0⟩ : Port), (⟨(⟨#[113]⟩ : ByteArray), 1, 0⟩ : Port)] : List Port), [], 0, 0⟩ : Network) c.1 (⟨([5] : List Int), ([5, (-5)] : List Int), []⟩ : Plan) 3 1).bind fun a => if (a.2 == 0) = true then if ((a.1.length : Int) == 8) = true then (ix a.1 3).bind fun b => if (b.2.Kind == 6) = true then if (b.2.Value == 2) = true then (ix a.1 4).bind fun d => if (d.2.Value == 3) = true then (ix a.1 6).bind fun e => if (e.2.Value == 2) = true then (L.zrbl a.1).bind fun f => L.zgom.J1 (f == 3) else L.zgom.J1 false else L.zgom.J1 false else L.zgom.J1 false else L.zgom.J1 false else L.zgom.J1 false else L.zgom.J1 false
def L.zbad.J1 (a : Unit) : Option (Hop × Bool) := some ((⟨0, false⟩ : Hop), false)
def L.zbad.J3 (b : List Int) (a : Int) (c : Bool) : Option (Int ⊕ ((Hop × Bool) ⊕ Unit)) := if c = true then (ix b a).bind fun d => some ((.inr (.inl (((⟨a, decide (d.2 < 0)⟩ : Hop), true))))) else some (.inl (wr (a + 1)))
def L.zbad.B2 (e : Network) (b : List Int) (c : Int) (a : Int) : Option (Int ⊕ ((Hop × Bool) ⊕ Unit)) := if decide (a < (b.length : Int)) = true then (ix b a).bind fun d => if decide (d.2 > 0) = true then (ix e.Segments a).bind fun f => if (f.2.From == c) = true then L.zbad.J3 b a true else if decide (d.2 < 0) = true then L.zbad.J3 b a (f.2.To == c) else L.zbad.J3 b a false else if decide (d.2 < 0) = true then (ix e.Segments a).bind fun g => L.zbad.J3 b a (g.2.To == c) else L.zbad.J3 b a false else some ((.inr (.inr (()))))
def L.zbad (a : Network) (b : List Int) (c : Int) : Option (Hop × Bool) := (loopN (L.zbad.B2 a b c) lots 0).bind fun d => Sum.elim (fun e => some e) (fun f => L.zbad.J1 f) d
def L.zkae (a : Int) : Int := (max a (wr (0 - a)))
def L.znud.J1 (b : Int) (a : (List Hop) × Int) : Option (Path × Bool) := some ((⟨b, 0, a.1, a.2⟩ : Path), false)
def L.znud.J3 (b : (List Hop) × Int × Int × Int) (a : (List Hop) × Int × Int) : Option (((List Hop) × Int × Int × Int) ⊕ ((Path × Bool) ⊕ ((List Hop) × Int))) := some (.inl (a.1, a.2.1, a.2.2, wr (b.2.2.2 + 1)))
def L.znud.J4 (c : Network) (d : List Int) (e : Int) (a : (List Hop) × Int × Int × Int) (i : Unit) : Option (((List Hop) × Int × Int × Int) ⊕ ((Path × Bool) ⊕ ((List Hop) × Int))) := (L.zbad c d a.2.2.1).bind fun b => if (!b.2) = true then some ((.inr (.inl (((⟨e, 0, a.1, a.2.1⟩ : Path), false))))) else (app? a.1 ([b.1] : List Hop)).bind fun f => (ix d b.1.Segment).bind fun g => (L.ztgl c b.1).bind fun h => L.znud.J3 a (f, (min a.2.1 (L.zkae g.2)), h.2)
def L.znud.J6 (c : List Int) (d : Int) (b : (List Hop) × Int × Int × Int) (a : Int) (e : Bool) : Option (Int ⊕ ((Path × Bool) ⊕ Unit)) := if e = true then (ix c a).bind fun f => some ((.inr (.inl (((⟨d, a, b.1, (min b.2.1 (wr (0 - f.2)))⟩ : Path), true))))) else some (.inl (wr (a + 1)))
def L.znud.B5 (e : Network) (b : List Int) (d : Int) (c : (List Hop) × Int × Int × Int) (a : Int) : Option (Int ⊕ ((Path × Bool) ⊕ Unit)) := if decide (a < (b.length : Int)) = true then (ix e.Ports a).bind fun f => if (f.2.Node == c.2.2.1) = true then (ix b a).bind fun g => L.znud.J6 b d c a (decide (g.2 < 0)) else L.znud.J6 b d c a false else some ((.inr (.inr (()))))
def L.znud.B2 (b : Network) (d : List Int) (e : List Int) (c : Int) (a : (List Hop) × Int × Int × Int) : Option (((List Hop) × Int × Int × Int) ⊕ ((Path × Bool) ⊕ ((List Hop) × Int))) := if decide (a.2.2.2 ≤ (b.Nodes.length : Int)) = true then (loopN (L.znud.B5 b e c a) lots 0).bind fun f => Sum.elim (fun g => some ((.inr (.inl (g))))) (fun h => L.znud.J4 b d c a h) f else some ((.inr (.inr ((a.1, a.2.1)))))
def L.znud (b : Network) (d : List Int) (c : List Int) (a : Int) : Option (Path × Bool) := (ix c a).bind fun e => (ix b.Ports a).bind fun f => (loopN (L.znud.B2 b d c a) lots ([], e.2, f.2.Node, 0)).bind fun g => Sum.elim (fun h => some h) (fun i => L.znud.J1 a i) g
def L.ztrc.J1 (a : List Path) : Option ((List Path) × Int) := some (a, 0)
def L.ztrc.J3 (b : (List Int) × (List Int) × (List Path) × Int) (a : (List Int) × (List Int) × (List Path)) : Option (((List Int) × (List Int) × (List Path) × Int) ⊕ (((List Path) × Int) ⊕ (List Path))) := some (.inl (a.1, a.2.1, a.2.2, wr (b.2.2.2 + 1)))
def L.ztrc.J5 (b : (List Int) × (List Int) × (List Path)) (a : Path × Bool) (c : Nat × Int) (d : Nat × Int) (e : List Int) : Option (((List Int) × (List Int) × (List Path)) ⊕ (((List Path) × Int) ⊕ ((List Int) × (List Int) × (List Path)))) := (app? b.2.2 ([a.1] : List Path)).bind fun f => some (.inl (e, ((b.2.1.set c.1 (wr (c.2 - a.1.Rate))).set d.1 (wr (d.2 + a.1.Rate))), f))
def L.ztrc.J7 (a : (List Int) × Int) (b : List Int) : Option (((List Int) × Int) ⊕ ((List Int))) := some (.inl (b, wr (a.2 + 1)))
def L.ztrc.B6 (b : Path × Bool) (a : (List Int) × Int) : Option (((List Int) × Int) ⊕ ((List Int))) := if decide (a.2 < (b.1.Hops.length : Int)) = true then (ix b.1.Hops a.2).bind fun c => if c.2.Back = true then (ix a.1 c.2.Segment).bind fun d => L.ztrc.J7 a (a.1.set d.1 (wr (d.2 + b.1.Rate))) else (ix a.1 c.2.Segment).bind fun e => L.ztrc.J7 a (a.1.set e.1 (wr (e.2 - b.1.Rate))) else some ((.inr (a.1)))
def L.ztrc.B4 (e : Network) (d : (List Int) × (List Int) × (List Path) × Int) (a : (List Int) × (List Int) × (List Path)) : Option (((List Int) × (List Int) × (List Path)) ⊕ (((List Path) × Int) ⊕ ((List Int) × (List Int) × (List Path)))) := (ix a.2.1 d.2.2.2).bind fun f => if decide (f.2 > 0) = true then (L.znud e a.1 a.2.1 d.2.2.2).bind fun b => if ((!b.2) || (((a.2.2.length : Int) == 64) || decide ((b.1.Hops.length : Int) > 32))) = true then some ((.inr (.inl (([], 23))))) else (ix a.2.1 b.1.In).bind fun c => (ix (a.2.1.set c.1 (wr (c.2 - b.1.Rate))) b.1.Out).bind fun g => (loopN (L.ztrc.B6 b) lots (a.1, 0)).bind fun h => L.ztrc.J5 a b c g h else some ((.inr (.inr ((a.1, a.2.1, a.2.2)))))
def L.ztrc.B2 (b : Network) (a : (List Int) × (List Int) × (List Path) × Int) : Option (((List Int) × (List Int) × (List Path) × Int) ⊕ (((List Path) × Int) ⊕ (List Path))) := if decide (a.2.2.2 < (a.2.1.length : Int)) = true then (loopN (L.ztrc.B4 b a) lots (a.1, a.2.1, a.2.2.1)).bind fun c => Sum.elim (fun d => some ((.inr (.inl (d))))) (fun e => L.ztrc.J3 a e) c else some ((.inr (.inr (a.2.2.1))))
def L.ztrc (b : Network) (a : Plan) : Option ((List Path) × Int) := (L.zvqa b a).bind fun c => if (c != 0) = true then some ([], c) else (app? ([] : List Int) a.Rates).bind fun d => (app? ([] : List Int) a.Ports).bind fun e => (loopN (L.ztrc.B2 b) lots (d, e, [], 0)).bind fun f => Sum.elim (fun g => some g) (fun h => L.ztrc.J1 h) f
def L.zjuq.J1 (a : Unit) : Option Bool := some true
def L.zjuq.B2 (b : Path) (e : Path) (a : Int) : Option (Int ⊕ (Bool ⊕ Unit)) := if decide (a < (b.Hops.length : Int)) = true then (ix b.Hops a).bind fun c => (ix e.Hops a).bind fun d => if (!((c.2.Segment == d.2.Segment) && ((c.2.Back == d.2.Back) && true))) = true then some ((.inr (.inl (false)))) else some (.inl (wr (a + 1))) else some ((.inr (.inr (()))))
def L.zjuq (a : Path) (b : Path) : Option Bool := if ((a.In != b.In) || ((a.Out != b.Out) || ((a.Hops.length : Int) != (b.Hops.length : Int)))) = true then some false else (loopN (L.zjuq.B2 a b) lots 0).bind fun c => Sum.elim (fun d => some d) (fun e => L.zjuq.J1 e) c
def L.zden.J1 (a : Unit) : Option Int := some (-1)
def L.zden.B2 (b : List Path) (c : Path) (a : Int) : Option (Int ⊕ (Int ⊕ Unit)) := if decide (a < (b.length : Int)) = true then (ix b a).bind fun d => (L.zjuq d.2 c).bind fun e => if e = true then some ((.inr (.inl (a)))) else some (.inl (wr (a + 1))) else some ((.inr (.inr (()))))
def L.zden (a : List Path) (b : Path) : Option Int := (loopN (L.zden.B2 a b) lots 0).bind fun c => Sum.elim (fun d => some d) (fun e => L.zden.J1 e) c
def L.zhuo.J4 (a : Bool) : Option Bool := some a
def L.zhuo.J3 (a : Int) (b : Int) : Option Bool := if (b == a) = true then (L.zgom).bind fun c => L.zhuo.J4 c else L.zhuo.J4 false
def L.zhuo.J6 (a : Int × Int) (b : Int) : Option ((Int × Int) ⊕ (Int)) := some (.inl (b, wr (a.2 + 1)))
def L.zhuo.B5 (b : (List Step) × Int) (a : Int × Int) : Option ((Int × Int) ⊕ (Int)) := if decide (a.2 < (b.1.length : Int)) = true then (ix b.1 a.2).bind fun c => if (c.2.Kind == 5) = true then L.zhuo.J6 a (wr (a.1 + 1)) else L.zhuo.J6 a a.1 else some ((.inr (a.1)))
def L.zhuo.J2 (a : (List Step) × Int) (b : Int) : Option Bool := (loopN (L.zhuo.B5 a) lots (0, 0)).bind fun c => L.zhuo.J3 b c
def L.zhuo.J8 (a : Int × Int) (b : Int) : Option ((Int × Int) ⊕ (Bool ⊕ Int)) := some (.inl (b, wr (a.2 + 1)))
def L.zhuo.J11 (b : Int × Int) (c : Int) (a : Int × Int) : Option ((Int × Int) ⊕ (Bool ⊕ Int)) := if (a.2 != c) = true then some ((.inr (.inl (false)))) else L.zhuo.J8 b a.1
def L.zhuo.J13 (b : Int × Int × Int) (a : Int × Int) : Option ((Int × Int × Int) ⊕ (Bool ⊕ (Int × Int))) := some (.inl (a.1, a.2, wr (b.2.2 + 1)))
def L.zhuo.J14 (c : (List Step) × Int) (d : Int) (a : Int × Int × Int) (e : Bool) : Option ((Int × Int × Int) ⊕ (Bool ⊕ (Int × Int))) := if e = true then (ix c.1 a.2.2).bind fun b => if decide ((wr (b.2.Value * d)) ≤ 0) = true then some ((.inr (.inl (false)))) else L.zhuo.J13 a (wr (a.1 + 1), wr (a.2.1 + b.2.Value)) else L.zhuo.J13 a (a.1, a.2.1)
def L.zhuo.B12 (b : (List Step) × Int) (e : Nat × Path) (c : Int) (a : Int × Int × Int) : Option ((Int × Int × Int) ⊕ (Bool ⊕ (Int × Int))) := if decide (a.2.2 < (b.1.length : Int)) = true then (ix b.1 a.2.2).bind fun d => if (d.2.Kind == 5) = true then (L.zjuq d.2.Path e.2).bind fun f => L.zhuo.J14 b c a f else L.zhuo.J14 b c a false else some ((.inr (.inr ((a.1, a.2.1)))))
def L.zhuo.J10 (c : (List Step) × Int) (a : Int × Int) (d : Nat × Path) (b : Int) : Option ((Int × Int) ⊕ (Bool ⊕ Int)) := (loopN (L.zhuo.B12 c d b) lots (a.1, 0, 0)).bind fun e => Sum.elim (fun f => some ((.inr (.inl (f))))) (fun g => L.zhuo.J11 a b g) e
def L.zhuo.J9 (b : (List Step) × Int) (c : (List Path) × Int) (d : Int × Int) (a : Nat × Path) (e : Int) : Option ((Int × Int) ⊕ (Bool ⊕ Int)) := (L.zden c.1 a.2).bind fun f => if decide (f ≥ 0) = true then (ix c.1 f).bind fun g => L.zhuo.J10 b d a (wr (e + g.2.Rate)) else L.zhuo.J10 b d a e
def L.zhuo.B7 (d : (List Step) × Int) (e : (List Path) × Int) (f : (List Path) × Int) (c : List Path) (a : Int × Int) : Option ((Int × Int) ⊕ (Bool ⊕ Int)) := if decide (a.2 < (c.length : Int)) = true then (ix c a.2).bind fun b => (L.zden c b.2).bind fun h => if (h != a.2) = true then L.zhuo.J8 a a.1 else (L.zden e.1 b.2).bind fun g => if decide (g ≥ 0) = true then (ix e.1 g).bind fun i => L.zhuo.J9 d f a b (wr (0 - i.2.Rate)) else L.zhuo.J9 d f a b 0 else some ((.inr (.inr (a.1))))
def L.zhuo.J1 (g : Int) (b : Network × KS) (a : (List Int) × Int × (List Valve) × (List Int) × (List Int) × (List Bool)) : Option Bool := (L.zhma (⟨a.1, a.2.1⟩ : KS) b.1).bind fun f => (L.zzjm b.1 (⟨a.2.2.1, (⟨a.2.2.2.1, a.2.2.2.2.1, a.2.2.2.2.2⟩ : Plan)⟩ : Desk) f.1 (wr (5 + (wr (g)))) 0).bind fun c => (L.ztrc b.1 (⟨a.2.2.2.1, a.2.2.2.2.1, a.2.2.2.2.2⟩ : Plan)).bind fun d => (L.ztrc b.1 f.1).bind fun e => if (c.2 == 4) = true then (L.zgom).bind fun h => some h else if ((c.2 != 0) || ((d.2 != 0) || (e.2 != 0))) = true then some false else (app? ([] : List Path) d.1).bind fun i => (app? i e.1).bind fun j => (loopN (L.zhuo.B7 c d e j) lots (0, 0)).bind fun k => Sum.elim (fun l => some l) (fun m => L.zhuo.J2 c m) k
def L.zhuo (d : List Int) (f : Int) : Option Bool := if (!(L.zqaf d)) = true then (L.zgom).bind fun g => some g else (L.ziti d).bind fun h => (L.zeju h).bind fun a => (L.zhma a.2 a.1).bind fun e => (L.zrqy e.2 a.1 e.1).bind fun c => (L.zqyk c.1).bind fun b => L.zhuo.J1 f a (c.2.L_, c.2.At, b.Valves, b.Plan.Rates, b.Plan.Ports, b.Plan.Pumps)
end Go.Proofs.YtmaamhgjeampmaaGreat
