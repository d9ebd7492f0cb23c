/- Tables and pure functions. No condition. -/
import Derived.Test.YtmaamhgjeampmaaGreatYtB2
import Derived.Test.YtmaamhgjeampmaaGreatRows
import Derived.KernelRfl
set_option maxRecDepth 100000
namespace Go.Aw
set_option linter.unusedVariables false
set_option linter.unusedSimpArgs false
inductive TT where
 | nil
 | node (l : TT) (k : Nat) (x : TI) (r : TT)
def Pg : TT → Nat → Option TI
 | .nil, _ => none
 | .node l k x r, i => bif Nat.beq k i then some x else bif Nat.ble k i then Pg r i else Pg l i
def Xz (P : Program) : TT → Prop
 | .nil => True
 | .node l k x r => Xz P l ∧ D2 P k = some x ∧ Xz P r
theorem Qx {P : Program} : ∀ {t : TT} {i : Nat} {x : TI}, Xz P t → Pg t i = some x → D2 P i = some x
 | .nil, _, _, _, h => by simp [Pg] at h
 | .node l k y r, i, x, ha, h => by
  simp only [Pg] at h
  cases hb : Nat.beq k i with
  | true =>
   have := Nat.eq_of_beq_eq_true hb
   simp only [hb, cond_true, Option.some.injEq] at h
   subst h this; exact ha.2.1
  | false =>
   simp only [hb, cond_false] at h
   cases hc : Nat.ble k i with
   | true => simp only [hc, cond_true] at h; exact Qx ha.2.2 h
   | false => simp only [hc, cond_false] at h; exact Qx ha.1 h
end Go.Aw
namespace Go.Proofs.YtmaamhgjeampmaaGreat
open Go.Aw
@[reducible] def jY : TI := { kind := .int .i64, size := 1, bytes := 8, zero := some (.int .i64 0) }
@[reducible] def jX : TI := { kind := .bool, size := 1, bytes := 1, zero := some (.bool false) }
@[reducible] def jW : TI := { kind := .int .u8, size := 1, bytes := 1, zero := some (.int .u8 0) }
@[reducible] def jV : TI := { kind := .string, size := 1, bytes := 16, zero := some (.string ⟨#[]⟩) }
@[reducible] def hM : TI := { kind := .slice 3, size := 1, bytes := 24, zero := some (.slice none 0 0) }
@[reducible] def hL : TI := { kind := .slice 9, size := 1, bytes := 24, zero := some (.slice none 0 0) }
@[reducible] def hG : TI := { kind := .slice 83, size := 1, bytes := 24, zero := some (.slice none 0 0) }
@[reducible] def hF : TI := { kind := .slice 85, size := 1, bytes := 24, zero := some (.slice none 0 0) }
@[reducible] def hE : TI := { kind := .slice 93, size := 1, bytes := 24, zero := some (.slice none 0 0) }
@[reducible] def gZ : TI := { kind := .struct [(0, 27), (1, 28), (2, 29), (3, 30), (4, 3), (5, 3)], size := 6, bytes := 112, zero := some (.agg #[.slice none 0 0, .slice none 0 0, .slice none 0 0, .slice none 0 0, .int .i64 0, .int .i64 0]) }
@[reducible] def gY : TI := { kind := .slice 74, size := 1, bytes := 24, zero := some (.slice none 0 0) }
@[reducible] def gX : TI := { kind := .slice 4, size := 1, bytes := 24, zero := some (.slice none 0 0) }
@[reducible] def gW : TI := { kind := .struct [(0, 22), (1, 22), (2, 35)], size := 3, bytes := 72, zero := some (.agg #[.slice none 0 0, .slice none 0 0, .slice none 0 0]) }
@[reducible] def gV : TI := { kind := .struct [(0, 34), (1, 37)], size := 4, bytes := 96, zero := some (.agg #[.slice none 0 0, .slice none 0 0, .slice none 0 0, .slice none 0 0]) }
@[reducible] def gU : TI := { kind := .slice 54, size := 1, bytes := 24, zero := some (.slice none 0 0) }
@[reducible] def gT : TI := { kind := .int .i64, size := 1, bytes := 8, zero := some (.int .i64 0) }
@[reducible] def gS : TI := { kind := .slice 107, size := 1, bytes := 24, zero := some (.slice none 0 0) }
@[reducible] def gR : TI := { kind := .struct [(0, 3), (1, 3), (2, 50), (3, 3)], size := 4, bytes := 48, zero := some (.agg #[.int .i64 0, .int .i64 0, .slice none 0 0, .int .i64 0]) }
@[reducible] def gQ : TI := { kind := .struct [(0, 3), (1, 3), (2, 3), (3, 52)], size := 7, bytes := 72, zero := some (.agg #[.int .i64 0, .int .i64 0, .int .i64 0, .int .i64 0, .int .i64 0, .slice none 0 0, .int .i64 0]) }
@[reducible] def gP : TI := { kind := .slice 52, size := 1, bytes := 24, zero := some (.slice none 0 0) }
@[reducible] def gO : TI := { kind := .struct [(0, 3), (1, 3), (2, 4), (3, 4)], size := 4, bytes := 24, zero := some (.agg #[.int .i64 0, .int .i64 0, .bool false, .bool false]) }
@[reducible] def gN : TI := { kind := .struct [(0, 3), (1, 3), (2, 3)], size := 3, bytes := 24, zero := some (.agg #[.int .i64 0, .int .i64 0, .int .i64 0]) }
@[reducible] def gM : TI := { kind := .slice 80, size := 1, bytes := 24, zero := some (.slice none 0 0) }
@[reducible] def gL : TI := { kind := .struct [(0, 9), (1, 3), (2, 3), (3, 3), (4, 3), (5, 3), (6, 81)], size := 7, bytes := 80, zero := some (.agg #[.string ⟨#[]⟩, .int .i64 0, .int .i64 0, .int .i64 0, .int .i64 0, .int .i64 0, .slice none 0 0]) }
@[reducible] def gK : TI := { kind := .struct [(0, 9), (1, 3), (2, 3)], size := 3, bytes := 32, zero := some (.agg #[.string ⟨#[]⟩, .int .i64 0, .int .i64 0]) }
@[reducible] def gJ : TI := { kind := .struct [(0, 22), (1, 3)], size := 2, bytes := 32, zero := some (.agg #[.slice none 0 0, .int .i64 0]) }
@[reducible] def gI : TI := { kind := .struct [(0, 9), (1, 3), (2, 3), (3, 3), (4, 3)], size := 5, bytes := 48, zero := some (.agg #[.string ⟨#[]⟩, .int .i64 0, .int .i64 0, .int .i64 0, .int .i64 0]) }
@[reducible] def gH : TI := { kind := .struct [(0, 35), (1, 35)], size := 2, bytes := 48, zero := some (.agg #[.slice none 0 0, .slice none 0 0]) }
@[reducible] def Zn : TI := { kind := .other, size := 1, bytes := 8, zero := some (.nilFunc) }
@[reducible] def Zm : TI := { kind := .struct [(0, 3), (1, 4)], size := 2, bytes := 16, zero := some (.agg #[.int .i64 0, .bool false]) }
@[reducible] def Zl : TI := { kind := .slice 5, size := 1, bytes := 24, zero := some (.slice none 0 0) }
@[reducible] def Zk : TI := { kind := .struct [(0, 32), (6, 22), (7, 22)], size := 8, bytes := 160, zero := some (.agg #[.slice none 0 0, .slice none 0 0, .slice none 0 0, .slice none 0 0, .int .i64 0, .int .i64 0, .slice none 0 0, .slice none 0 0]) }
@[reducible] def Zj : TI := { kind := .array 4 27, size := 4, bytes := 96, zero := some (.agg #[.slice none 0 0, .slice none 0 0, .slice none 0 0, .slice none 0 0]) }
@[reducible] def Zi : TI := { kind := .struct [(0, 43), (1, 34), (2, 3)], size := 3, bytes := 56, zero := some (.agg #[.slice none 0 0, .slice none 0 0, .int .i64 0]) }
@[reducible] def Zh : TI := { kind := .array 24 3, size := 24, bytes := 192, zero := some (.agg #[.int .i64 0, .int .i64 0, .int .i64 0, .int .i64 0, .int .i64 0, .int .i64 0, .int .i64 0, .int .i64 0, .int .i64 0, .int .i64 0, .int .i64 0, .int .i64 0, .int .i64 0, .int .i64 0, .int .i64 0, .int .i64 0, .int .i64 0, .int .i64 0, .int .i64 0, .int .i64 0, .int .i64 0, .int .i64 0, .int .i64 0, .int .i64 0]) }
@[reducible] def Zg : TI := { kind := .struct [(0, 173), (24, 173)], size := 48, bytes := 384, zero := some (.agg #[.int .i64 0, .int .i64 0, .int .i64 0, .int .i64 0, .int .i64 0, .int .i64 0, .int .i64 0, .int .i64 0, .int .i64 0, .int .i64 0, .int .i64 0, .int .i64 0, .int .i64 0, .int .i64 0, .int .i64 0, .int .i64 0, .int .i64 0, .int .i64 0, .int .i64 0, .int .i64 0, .int .i64 0, .int .i64 0, .int .i64 0, .int .i64 0, .int .i64 0, .int .i64 0, .int .i64 0, .int .i64 0, .int .i64 0, .int .i64 0, .int .i64 0, .int .i64 0, .int .i64 0, .int .i64 0, .int .i64 0, .int .i64 0, .int .i64 0, .int .i64 0, .int .i64 0, .int .i64 0, .int .i64 0, .int .i64 0, .int .i64 0, .int .i64 0, .int .i64 0, .int .i64 0, .int .i64 0, .int .i64 0]) }
def N9 : TT := (.node (.node (.node (.node (.node (.node .nil 3 jY .nil) 4 jX .nil) 5 jW (.node .nil 9 jV .nil)) 22 hM (.node (.node (.node .nil 27 hL .nil) 28 hG .nil) 29 hF (.node .nil 30 hE .nil))) 32 gZ (.node (.node (.node (.node .nil 34 gY .nil) 35 gX .nil) 37 gW (.node .nil 39 gV .nil)) 43 gU (.node (.node .nil 44 gT .nil) 50 gS (.node .nil 52 gR .nil)))) 54 gQ (.node (.node (.node (.node (.node .nil 57 gP .nil) 74 gO .nil) 80 gN (.node .nil 81 gM .nil)) 83 gL (.node (.node .nil 85 gK .nil) 88 gJ (.node .nil 93 gI .nil))) 97 gH (.node (.node (.node (.node .nil 104 Zn .nil) 107 Zm .nil) 135 Zl (.node .nil 141 Zk .nil)) 158 Zj (.node (.node .nil 166 Zi .nil) 173 Zh (.node .nil 175 Zg .nil)))))
theorem hT : D2 Tryz.prog 3 = some { kind := .int .i64, size := 1, bytes := 8, zero := some (.int .i64 0) } := by kernel_rfl
theorem hR : D2 Tryz.prog 4 = some { kind := .bool, size := 1, bytes := 1, zero := some (.bool false) } := by kernel_rfl
theorem hO : D2 Tryz.prog 5 = some { kind := .int .u8, size := 1, bytes := 1, zero := some (.int .u8 0) } := by kernel_rfl
theorem hN : D2 Tryz.prog 9 = some { kind := .string, size := 1, bytes := 16, zero := some (.string ⟨#[]⟩) } := by kernel_rfl
theorem aB : D2 Tryz.prog 22 = some { kind := .slice 3, size := 1, bytes := 24, zero := some (.slice none 0 0) } := by kernel_rfl
theorem aA : D2 Tryz.prog 27 = some { kind := .slice 9, size := 1, bytes := 24, zero := some (.slice none 0 0) } := by kernel_rfl
theorem Z9 : D2 Tryz.prog 28 = some { kind := .slice 83, size := 1, bytes := 24, zero := some (.slice none 0 0) } := by kernel_rfl
theorem Z8 : D2 Tryz.prog 29 = some { kind := .slice 85, size := 1, bytes := 24, zero := some (.slice none 0 0) } := by kernel_rfl
theorem Z7 : D2 Tryz.prog 30 = some { kind := .slice 93, size := 1, bytes := 24, zero := some (.slice none 0 0) } := by kernel_rfl
theorem Z6 : D2 Tryz.prog 32 = some { kind := .struct [(0, 27), (1, 28), (2, 29), (3, 30), (4, 3), (5, 3)], size := 6, bytes := 112, zero := some (.agg #[.slice none 0 0, .slice none 0 0, .slice none 0 0, .slice none 0 0, .int .i64 0, .int .i64 0]) } := by kernel_rfl
theorem Z5 : D2 Tryz.prog 34 = some { kind := .slice 74, size := 1, bytes := 24, zero := some (.slice none 0 0) } := by kernel_rfl
theorem Z4 : D2 Tryz.prog 35 = some { kind := .slice 4, size := 1, bytes := 24, zero := some (.slice none 0 0) } := by kernel_rfl
theorem Z3 : D2 Tryz.prog 37 = some { kind := .struct [(0, 22), (1, 22), (2, 35)], size := 3, bytes := 72, zero := some (.agg #[.slice none 0 0, .slice none 0 0, .slice none 0 0]) } := by kernel_rfl
theorem Z2 : D2 Tryz.prog 39 = some { kind := .struct [(0, 34), (1, 37)], size := 4, bytes := 96, zero := some (.agg #[.slice none 0 0, .slice none 0 0, .slice none 0 0, .slice none 0 0]) } := by kernel_rfl
theorem Z1 : D2 Tryz.prog 43 = some { kind := .slice 54, size := 1, bytes := 24, zero := some (.slice none 0 0) } := by kernel_rfl
theorem Z0 : D2 Tryz.prog 44 = some { kind := .int .i64, size := 1, bytes := 8, zero := some (.int .i64 0) } := by kernel_rfl
theorem Zz : D2 Tryz.prog 50 = some { kind := .slice 107, size := 1, bytes := 24, zero := some (.slice none 0 0) } := by kernel_rfl
theorem Zy : D2 Tryz.prog 52 = some { kind := .struct [(0, 3), (1, 3), (2, 50), (3, 3)], size := 4, bytes := 48, zero := some (.agg #[.int .i64 0, .int .i64 0, .slice none 0 0, .int .i64 0]) } := by kernel_rfl
theorem Zx : D2 Tryz.prog 54 = some { kind := .struct [(0, 3), (1, 3), (2, 3), (3, 52)], size := 7, bytes := 72, zero := some (.agg #[.int .i64 0, .int .i64 0, .int .i64 0, .int .i64 0, .int .i64 0, .slice none 0 0, .int .i64 0]) } := by kernel_rfl
theorem Zw : D2 Tryz.prog 57 = some { kind := .slice 52, size := 1, bytes := 24, zero := some (.slice none 0 0) } := by kernel_rfl
theorem Zv : D2 Tryz.prog 74 = some { kind := .struct [(0, 3), (1, 3), (2, 4), (3, 4)], size := 4, bytes := 24, zero := some (.agg #[.int .i64 0, .int .i64 0, .bool false, .bool false]) } := by kernel_rfl
theorem Zu : D2 Tryz.prog 80 = some { kind := .struct [(0, 3), (1, 3), (2, 3)], size := 3, bytes := 24, zero := some (.agg #[.int .i64 0, .int .i64 0, .int .i64 0]) } := by kernel_rfl
theorem Zt : D2 Tryz.prog 81 = some { kind := .slice 80, size := 1, bytes := 24, zero := some (.slice none 0 0) } := by kernel_rfl
theorem Zs : D2 Tryz.prog 83 = some { kind := .struct [(0, 9), (1, 3), (2, 3), (3, 3), (4, 3), (5, 3), (6, 81)], size := 7, bytes := 80, zero := some (.agg #[.string ⟨#[]⟩, .int .i64 0, .int .i64 0, .int .i64 0, .int .i64 0, .int .i64 0, .slice none 0 0]) } := by kernel_rfl
theorem Zr : D2 Tryz.prog 85 = some { kind := .struct [(0, 9), (1, 3), (2, 3)], size := 3, bytes := 32, zero := some (.agg #[.string ⟨#[]⟩, .int .i64 0, .int .i64 0]) } := by kernel_rfl
theorem Zq : D2 Tryz.prog 88 = some { kind := .struct [(0, 22), (1, 3)], size := 2, bytes := 32, zero := some (.agg #[.slice none 0 0, .int .i64 0]) } := by kernel_rfl
theorem Zp : D2 Tryz.prog 93 = some { kind := .struct [(0, 9), (1, 3), (2, 3), (3, 3), (4, 3)], size := 5, bytes := 48, zero := some (.agg #[.string ⟨#[]⟩, .int .i64 0, .int .i64 0, .int .i64 0, .int .i64 0]) } := by kernel_rfl
theorem Zo : D2 Tryz.prog 97 = some { kind := .struct [(0, 35), (1, 35)], size := 2, bytes := 48, zero := some (.agg #[.slice none 0 0, .slice none 0 0]) } := by kernel_rfl
theorem Xf : D2 Tryz.prog 104 = some { kind := .other, size := 1, bytes := 8, zero := some (.nilFunc) } := by kernel_rfl
theorem Xe : D2 Tryz.prog 107 = some { kind := .struct [(0, 3), (1, 4)], size := 2, bytes := 16, zero := some (.agg #[.int .i64 0, .bool false]) } := by kernel_rfl
theorem Xd : D2 Tryz.prog 135 = some { kind := .slice 5, size := 1, bytes := 24, zero := some (.slice none 0 0) } := by kernel_rfl
theorem Xc : D2 Tryz.prog 141 = some { kind := .struct [(0, 32), (6, 22), (7, 22)], size := 8, bytes := 160, zero := some (.agg #[.slice none 0 0, .slice none 0 0, .slice none 0 0, .slice none 0 0, .int .i64 0, .int .i64 0, .slice none 0 0, .slice none 0 0]) } := by kernel_rfl
theorem Xb : D2 Tryz.prog 158 = some { kind := .array 4 27, size := 4, bytes := 96, zero := some (.agg #[.slice none 0 0, .slice none 0 0, .slice none 0 0, .slice none 0 0]) } := by kernel_rfl
theorem Xa : D2 Tryz.prog 166 = some { kind := .struct [(0, 43), (1, 34), (2, 3)], size := 3, bytes := 56, zero := some (.agg #[.slice none 0 0, .slice none 0 0, .int .i64 0]) } := by kernel_rfl
theorem W9 : D2 Tryz.prog 173 = some { kind := .array 24 3, size := 24, bytes := 192, zero := some (.agg #[.int .i64 0, .int .i64 0, .int .i64 0, .int .i64 0, .int .i64 0, .int .i64 0, .int .i64 0, .int .i64 0, .int .i64 0, .int .i64 0, .int .i64 0, .int .i64 0, .int .i64 0, .int .i64 0, .int .i64 0, .int .i64 0, .int .i64 0, .int .i64 0, .int .i64 0, .int .i64 0, .int .i64 0, .int .i64 0, .int .i64 0, .int .i64 0]) } := by kernel_rfl
theorem W8 : D2 Tryz.prog 175 = some { kind := .struct [(0, 173), (24, 173)], size := 48, bytes := 384, zero := some (.agg #[.int .i64 0, .int .i64 0, .int .i64 0, .int .i64 0, .int .i64 0, .int .i64 0, .int .i64 0, .int .i64 0, .int .i64 0, .int .i64 0, .int .i64 0, .int .i64 0, .int .i64 0, .int .i64 0, .int .i64 0, .int .i64 0, .int .i64 0, .int .i64 0, .int .i64 0, .int .i64 0, .int .i64 0, .int .i64 0, .int .i64 0, .int .i64 0, .int .i64 0, .int .i64 0, .int .i64 0, .int .i64 0, .int .i64 0, .int .i64 0, .int .i64 0, .int .i64 0, .int .i64 0, .int .i64 0, .int .i64 0, .int .i64 0, .int .i64 0, .int .i64 0, .int .i64 0, .int .i64 0, .int .i64 0, .int .i64 0, .int .i64 0, .int .i64 0, .int .i64 0, .int .i64 0, .int .i64 0, .int .i64 0]) } := by kernel_rfl
theorem V9 : Xz Tryz.prog N9 :=
 ⟨⟨⟨⟨⟨⟨trivial, hT, trivial⟩, hR, trivial⟩, hO, ⟨trivial, hN, trivial⟩⟩, aB, ⟨⟨⟨trivial, aA, trivial⟩, Z9, trivial⟩, Z8, ⟨trivial, Z7, trivial⟩⟩⟩, Z6, ⟨⟨⟨⟨trivial, Z5, trivial⟩, Z4, trivial⟩, Z3, ⟨trivial, Z2, trivial⟩⟩, Z1, ⟨⟨trivial, Z0, trivial⟩, Zz, ⟨trivial, Zy, trivial⟩⟩⟩⟩, Zx, ⟨⟨⟨⟨⟨trivial, Zw, trivial⟩, Zv, trivial⟩, Zu, ⟨trivial, Zt, trivial⟩⟩, Zs, ⟨⟨trivial, Zr, trivial⟩, Zq, ⟨trivial, Zp, trivial⟩⟩⟩, Zo, ⟨⟨⟨⟨trivial, Xf, trivial⟩, Xe, trivial⟩, Xd, ⟨trivial, Xc, trivial⟩⟩, Xb, ⟨⟨trivial, Xa, trivial⟩, W9, ⟨trivial, W8, trivial⟩⟩⟩⟩⟩
theorem Xh : Tryz.prog.follows .mixedOrders = true := by kernel_rfl
theorem Xg (t : Nat) (i : TI) (h : Pg N9 t = some i) : D2 Tryz.prog t = some i := Qx V9 h
noncomputable def Am : Env := ⟨Tryz.prog, Pg N9, Xg, Xh⟩
theorem Rn : Bld Am 32 [(0, 1), (1, 1), (2, 1), (3, 1), (4, 1), (5, 1)] [.v (.slice none 0 0), .v (.slice none 0 0), .v (.slice none 0 0), .v (.slice none 0 0), .v (.int .i64 0), .v (.int .i64 0)] := ⟨⟨_, _, _, rfl, rfl, rfl, rfl, rfl, rfl, rfl⟩⟩
theorem Az : Bld Am 37 [(0, 1), (1, 1), (2, 1)] [.v (.slice none 0 0), .v (.slice none 0 0), .v (.slice none 0 0)] := ⟨⟨_, _, _, rfl, rfl, rfl, rfl, rfl, rfl, rfl⟩⟩
theorem C4 : Bld Am 39 [(0, 1), (1, 3)] [.v (.slice none 0 0), .v (.slice none 0 0), .v (.slice none 0 0), .v (.slice none 0 0)] := ⟨⟨_, _, _, rfl, rfl, rfl, rfl, rfl, rfl, rfl⟩⟩
theorem Rm : Bld Am 52 [(0, 1), (1, 1), (2, 1), (3, 1)] [.v (.int .i64 0), .v (.int .i64 0), .v (.slice none 0 0), .v (.int .i64 0)] := ⟨⟨_, _, _, rfl, rfl, rfl, rfl, rfl, rfl, rfl⟩⟩
theorem Hg : Bld Am 54 [(0, 1), (1, 1), (2, 1), (3, 4)] [.v (.int .i64 0), .v (.int .i64 0), .v (.int .i64 0), .v (.int .i64 0), .v (.int .i64 0), .v (.slice none 0 0), .v (.int .i64 0)] := ⟨⟨_, _, _, rfl, rfl, rfl, rfl, rfl, rfl, rfl⟩⟩
theorem Rl : Bld Am 74 [(0, 1), (1, 1), (2, 1), (3, 1)] [.v (.int .i64 0), .v (.int .i64 0), .v (.bool false), .v (.bool false)] := ⟨⟨_, _, _, rfl, rfl, rfl, rfl, rfl, rfl, rfl⟩⟩
theorem Fv : Bld Am 80 [(0, 1), (1, 1), (2, 1)] [.v (.int .i64 0), .v (.int .i64 0), .v (.int .i64 0)] := ⟨⟨_, _, _, rfl, rfl, rfl, rfl, rfl, rfl, rfl⟩⟩
theorem Rk : Bld Am 83 [(0, 1), (1, 1), (2, 1), (3, 1), (4, 1), (5, 1), (6, 1)] [.v (.string ⟨#[]⟩), .v (.int .i64 0), .v (.int .i64 0), .v (.int .i64 0), .v (.int .i64 0), .v (.int .i64 0), .v (.slice none 0 0)] := ⟨⟨_, _, _, rfl, rfl, rfl, rfl, rfl, rfl, rfl⟩⟩
theorem I0 : Bld Am 85 [(0, 1), (1, 1), (2, 1)] [.v (.string ⟨#[]⟩), .v (.int .i64 0), .v (.int .i64 0)] := ⟨⟨_, _, _, rfl, rfl, rfl, rfl, rfl, rfl, rfl⟩⟩
theorem Xk : Bld Am 88 [(0, 1), (1, 1)] [.v (.slice none 0 0), .v (.int .i64 0)] := ⟨⟨_, _, _, rfl, rfl, rfl, rfl, rfl, rfl, rfl⟩⟩
theorem Xj : Bld Am 93 [(0, 1), (1, 1), (2, 1), (3, 1), (4, 1)] [.v (.string ⟨#[]⟩), .v (.int .i64 0), .v (.int .i64 0), .v (.int .i64 0), .v (.int .i64 0)] := ⟨⟨_, _, _, rfl, rfl, rfl, rfl, rfl, rfl, rfl⟩⟩
theorem Le : Bld Am 97 [(0, 1), (1, 1)] [.v (.slice none 0 0), .v (.slice none 0 0)] := ⟨⟨_, _, _, rfl, rfl, rfl, rfl, rfl, rfl, rfl⟩⟩
theorem Hp : Bld Am 107 [(0, 1), (1, 1)] [.v (.int .i64 0), .v (.bool false)] := ⟨⟨_, _, _, rfl, rfl, rfl, rfl, rfl, rfl, rfl⟩⟩
theorem Wa : Bld Am 141 [(0, 6), (6, 1), (7, 1)] [.v (.slice none 0 0), .v (.slice none 0 0), .v (.slice none 0 0), .v (.slice none 0 0), .v (.int .i64 0), .v (.int .i64 0), .v (.slice none 0 0), .v (.slice none 0 0)] := ⟨⟨_, _, _, rfl, rfl, rfl, rfl, rfl, rfl, rfl⟩⟩
theorem aC : dK Tryz.prog 74 = true := by kernel_rfl
theorem Rj : dK Tryz.prog 107 = true := by kernel_rfl
theorem Xi : dO Tryz.prog 173 = true := by kernel_rfl
set_option linter.unusedVariables false
set_option linter.unusedSimpArgs false
structure Point where
 At : Int
 Height : Int
 Limit : Int
 deriving DecidableEq
def C2 (x : Point) : List T := [.v (.int .i64 x.At), .v (.int .i64 x.Height), .v (.int .i64 x.Limit)]
structure Segment where
 Name : ByteArray
 From : Int
 To : Int
 Capacity : Int
 Resist : Int
 Wave : Int
 Points : List Point
 deriving DecidableEq
def Ar (x : Segment) : List T := [.v (.string x.Name), .v (.int .i64 x.From), .v (.int .i64 x.To), .v (.int .i64 x.Capacity), .v (.int .i64 x.Resist), .v (.int .i64 x.Wave), .list 3 (x.Points.map C2)]
structure Port where
 Name : ByteArray
 Node : Int
 Pressure : Int
 deriving DecidableEq
def Bj (x : Port) : List T := [.v (.string x.Name), .v (.int .i64 x.Node), .v (.int .i64 x.Pressure)]
structure Station where
 Name : ByteArray
 Node : Int
 Head : Int
 Fall : Int
 Suction : Int
 deriving DecidableEq
def A4 (x : Station) : List T := [.v (.string x.Name), .v (.int .i64 x.Node), .v (.int .i64 x.Head), .v (.int .i64 x.Fall), .v (.int .i64 x.Suction)]
structure Network where
 Nodes : List ByteArray
 Segments : List Segment
 Ports : List Port
 Stations : List Station
 Vapour : Int
 Settle : Int
 deriving DecidableEq
def Ab (x : Network) : List T := [.list 1 (x.Nodes.map rS), .list 7 (x.Segments.map Ar), .list 3 (x.Ports.map Bj), .list 5 (x.Stations.map A4), .v (.int .i64 x.Vapour), .v (.int .i64 x.Settle)]
structure Plan where
 Rates : List Int
 Ports : List Int
 Pumps : List Bool
 deriving DecidableEq
def As (x : Plan) : List T := [.list 1 (x.Rates.map rI), .list 1 (x.Ports.map rI), .list 1 (x.Pumps.map rB)]
structure flow_streams where
 come : Arr Int 24
 leave : Arr Int 24
 deriving DecidableEq
def Bv (x : flow_streams) : List T := x.come.l.map cI ++ (x.leave.l.map cI ++ [])
structure KS where
 L_ : List Int
 At : Int
 deriving DecidableEq
def Cp (x : KS) : List T := [.list 1 (x.L_.map rI), .v (.int .i64 x.At)]
def Ef (a : Segment) (b : Int) : (Int × Int) := if decide (b < 0) = true then (a.To, a.From) else (a.From, a.To)
def M0 (a : Int) (b : Int) : Bool := (decide (a ≥ (wr (0 - b))) && decide (a ≤ b))
def Qh.J1 (a : Int) : Option Int := some a
def Qh (c : Int) (a : Int) : Option Int := if decide (a < 1) = true then some 0 else (iG c a).bind fun b => if decide (b < 0) = true then Qh.J1 (wr (b + a)) else Qh.J1 b
def De (a : Int) (b : Int) (c : Int) : Bool := (decide (a ≥ b) && decide (a ≤ c))
def Jh (a : Int) : Int := (max a (wr (0 - a)))
def My.J1 (a : Unit) : Option Int := some (-1)
def My.B2 (a : ByteArray) (b : Nat) (c : ByteArray) (d : Unit) : Option (Unit ⊕ (Int)) := if Wd a c = true then some ((.inr ((b : Int)))) else some (.inl ())
def My (a : List ByteArray) (b : ByteArray) : Option Int := (forL (My.B2 b) 0 a ()).bind fun c => Sum.elim (fun e => My.J1 ()) (fun d => some d) c
def Ql.J1 (a : Unit) : Option Int := some (-1)
def Ql.B2 (a : Int → Option Bool) (b : Nat) (c : Int) (e : Unit) : Option (Unit ⊕ (Int)) := (a c).bind fun d => if d = true then some ((.inr ((b : Int)))) else some (.inl ())
def Ql (a : List Int) (b : Int → Option Bool) : Option Int := (forL (Ql.B2 b) 0 a ()).bind fun c => Sum.elim (fun e => Ql.J1 ()) (fun d => some d) c
def K0 (a : List Int) (b : Int → Option Bool) : Option Bool := (Ql a b).bind fun c => some (decide (c ≥ 0))
def P0.J1 (a : Unit) : Option Int := some (-1)
def P0.B2 (a : ByteArray → Option Bool) (b : Nat) (c : ByteArray) (e : Unit) : Option (Unit ⊕ (Int)) := (a c).bind fun d => if d = true then some ((.inr ((b : Int)))) else some (.inl ())
def P0 (a : List ByteArray) (b : ByteArray → Option Bool) : Option Int := (forL (P0.B2 b) 0 a ()).bind fun c => Sum.elim (fun e => P0.J1 ()) (fun d => some d) c
def M9 (a : List ByteArray) (b : ByteArray → Option Bool) : Option Bool := (P0 a b).bind fun c => some (decide (c ≥ 0))
def Qg.J1 (a : Unit) : Option Int := some (-1)
def Qg.B2 (a : Segment → Option Bool) (b : Nat) (c : Segment) (e : Unit) : Option (Unit ⊕ (Int)) := (a c).bind fun d => if d = true then some ((.inr ((b : Int)))) else some (.inl ())
def Qg (a : List Segment) (b : Segment → Option Bool) : Option Int := (forL (Qg.B2 b) 0 a ()).bind fun c => Sum.elim (fun e => Qg.J1 ()) (fun d => some d) c
def Kz (a : List Segment) (b : Segment → Option Bool) : Option Bool := (Qg a b).bind fun c => some (decide (c ≥ 0))
def P3.J1 (a : Unit) : Option Int := some (-1)
def P3.B2 (a : Port → Option Bool) (b : Nat) (c : Port) (e : Unit) : Option (Unit ⊕ (Int)) := (a c).bind fun d => if d = true then some ((.inr ((b : Int)))) else some (.inl ())
def P3 (a : List Port) (b : Port → Option Bool) : Option Int := (forL (P3.B2 b) 0 a ()).bind fun c => Sum.elim (fun e => P3.J1 ()) (fun d => some d) c
def Nj (a : List Port) (b : Port → Option Bool) : Option Bool := (P3 a b).bind fun c => some (decide (c ≥ 0))
def Mp.J1 (a : Unit) : Option Int := some (-1)
def Mp.B2 (a : Station → Option Bool) (b : Nat) (c : Station) (e : Unit) : Option (Unit ⊕ (Int)) := (a c).bind fun d => if d = true then some ((.inr ((b : Int)))) else some (.inl ())
def Mp (a : List Station) (b : Station → Option Bool) : Option Int := (forL (Mp.B2 b) 0 a ()).bind fun c => Sum.elim (fun e => Mp.J1 ()) (fun d => some d) c
def Mv (a : List Station) (b : Station → Option Bool) : Option Bool := (Mp a b).bind fun c => some (decide (c ≥ 0))
def Mo (a : Segment) : Bool := (decide ((a.Points.length : Int) < 2) || decide ((a.Points.length : Int) > 8))
def T8 (a : Network) : Option Bool := if (decide ((a.Nodes.length : Int) < 1) || (decide ((a.Nodes.length : Int) > 24) || (decide ((a.Segments.length : Int) > 32) || (decide ((a.Ports.length : Int) > 24) || decide ((a.Stations.length : Int) > 12))))) = true then some false else (Kz a.Segments (fun x => some (Mo x))).bind fun b => some (!b)
def Py.J1 (a : List Int) : Option (List Int) := some a
def Py.J3 (a : (List Int) × (List Bool) × Int) : Option (((List Int) × (List Bool) × Int) ⊕ ((List Int))) := some (.inl (a.1, a.2.1, wr (a.2.2 + 1)))
def Py.J4 (a : (List Int) × (List Bool) × Int) (b : Nat × Bool) (d : Unit) : Option (((List Int) × (List Bool) × Int) ⊕ ((List Int))) := (Da a.1 ([a.2.2] : List Int)).bind fun c => Py.J3 (c, (a.2.1.set b.1 true), (-1))
def Py.J6 (a : (List Int) × (List Bool) × Int) (b : Bool) : Option (Unit ⊕ (((List Int) × (List Bool) × Int))) := if b = true then some ((.inr ((a.1, a.2.1, a.2.2)))) else some (.inl ())
def Py.B5 (d : Plan) (a : (List Int) × (List Bool) × Int) (e : Nat) (c : Segment) (g : Unit) : Option (Unit ⊕ (((List Int) × (List Bool) × Int))) := (ix d.Rates (e : Int)).bind fun b => if (b.2 != 0) = true then if (((Ef c b.2).2) == a.2.2) = true then (ix a.2.1 ((Ef c b.2).1)).bind fun f => Py.J6 a (!f.2) else Py.J6 a false else Py.J6 a false
def Py.B2 (b : Network) (d : Plan) (a : (List Int) × (List Bool) × Int) : Option (((List Int) × (List Bool) × Int) ⊕ ((List Int))) := if decide (a.2.2 < (b.Nodes.length : Int)) = true then (ix a.2.1 a.2.2).bind fun c => if c.2 = true then Py.J3 (a.1, a.2.1, a.2.2) else (forL (Py.B5 d a) 0 b.Segments ()).bind fun e => Sum.elim (fun g => Py.J4 a c ()) (fun f => Py.J3 f) e else some ((.inr (a.1)))
def Py (a : Network) (b : Plan) : Option (List Int) := (Rt (a.Nodes.length : Int) false).bind fun c => (Ch (Py.B2 a b) Dm ([], c, 0)).bind fun d => Py.J1 d
def Qc.J1 (a : Unit) : Int := 2
def Qc (a : Int) : Int := if (decide (a ≥ 97) && decide (a ≤ 122)) = true then 1 else if (decide (a ≥ 48) && decide (a ≤ 57)) = true then Qc.J1 () else if (a == 45) = true then Qc.J1 () else 0
def Qf.J2 (a : Unit) : Option Bool := some true
def Qf.B3 (a : ByteArray) (b : Nat) (d : Unit) : Option (Unit ⊕ (Bool)) := (ixs a (b : Int)).bind fun c => if ((Qc c.2) == 0) = true then some ((.inr (false))) else some (.inl ())
def Qf.J1 (a : ByteArray) (b : Bool) : Option Bool := if b = true then some false else (lR ((a.size : Int) ≤ 9223372036854775806)).bind fun e => (forI (Qf.B3 a) 0 ((a.size : Int).toNat) ()).bind fun c => Sum.elim (fun f => Qf.J2 ()) (fun d => some d) c
def Qf (a : ByteArray) : Option Bool := if decide ((a.size : Int) < 1) = true then Qf.J1 a true else if decide ((a.size : Int) > 12) = true then Qf.J1 a true else (ixs a 0).bind fun b => Qf.J1 a ((Qc b.2) != 1)
def Nu.J3 (a : Network) (b : List ByteArray) (c : List ByteArray) (d : List ByteArray) : Option (Arr (List ByteArray) 4) := some (⟨[a.Nodes, b, c, d], rfl⟩ : Arr (List ByteArray) 4)
def Nu.B4 (d : Nat) (a : Station) (b : List ByteArray) : Option (List ByteArray) := (Da b ([a.Name] : List ByteArray)).bind fun c => some c
def Nu.J2 (a : Network) (b : List ByteArray) (c : List ByteArray) : Option (Arr (List ByteArray) 4) := (forS Nu.B4 0 a.Stations []).bind fun d => Nu.J3 a b c d
def Nu.B5 (d : Nat) (a : Port) (b : List ByteArray) : Option (List ByteArray) := (Da b ([a.Name] : List ByteArray)).bind fun c => some c
def Nu.J1 (a : Network) (b : List ByteArray) : Option (Arr (List ByteArray) 4) := (forS Nu.B5 0 a.Ports []).bind fun c => Nu.J2 a b c
def Nu.B6 (d : Nat) (a : Segment) (b : List ByteArray) : Option (List ByteArray) := (Da b ([a.Name] : List ByteArray)).bind fun c => some c
def Nu (a : Network) : Option (Arr (List ByteArray) 4) := (forS Nu.B6 0 a.Segments []).bind fun b => Nu.J1 a b
def K1 (a : Station) (b : Station) : Bool := (a.Node == b.Node)
def T6.J2 (a : Unit) : Option Bool := some false
def T6.B3 (a : Network) (b : Nat) (c : Station) (e : Unit) : Option (Unit ⊕ (Bool)) := (Mp a.Stations (fun x => some (K1 x c))).bind fun d => if decide (d < (b : Int)) = true then some ((.inr (true))) else some (.inl ())
def T6.J1 (a : Network) (d : Unit) : Option Bool := (forL (T6.B3 a) 0 a.Stations ()).bind fun b => Sum.elim (fun e => T6.J2 ()) (fun c => some c) b
def T6.J5 (a : Unit) : Option (Unit ⊕ (Bool)) := some (.inl ())
def T6.B6 (a : Nat × (List ByteArray)) (b : Nat) (c : ByteArray) (e : Unit) : Option (Unit ⊕ (Bool)) := (My a.2 c).bind fun d => if decide (d < (b : Int)) = true then some ((.inr (true))) else some (.inl ())
def T6.B4 (b : Arr (List ByteArray) 4) (c : Nat) (f : Unit) : Option (Unit ⊕ (Bool)) := (ix b.l (c : Int)).bind fun a => (forL (T6.B6 a) 0 a.2 ()).bind fun d => Sum.elim (fun g => T6.J5 ()) (fun e => some ((.inr (e)))) d
def T6 (a : Network) : Option Bool := (Nu a).bind fun b => (forI (T6.B4 b) 0 4 ()).bind fun c => Sum.elim (fun e => T6.J1 a ()) (fun d => some d) c
def Mr (a : Int) (b : Network) : Bool := (decide (a < 0) || decide (a ≥ (b.Nodes.length : Int)))
def Ue.J3 (a : Network) (b : List Int) : Option Bool := (K0 b (fun x => some (Mr x a))).bind fun c => some (!c)
def Ue.B4 (d : Nat) (a : Station) (b : List Int) : Option (List Int) := (Da b ([a.Node] : List Int)).bind fun c => some c
def Ue.J2 (a : Network) (b : List Int) : Option Bool := (forS Ue.B4 0 a.Stations b).bind fun c => Ue.J3 a c
def Ue.B5 (d : Nat) (a : Port) (b : List Int) : Option (List Int) := (Da b ([a.Node] : List Int)).bind fun c => some c
def Ue.J1 (a : Network) (b : List Int) : Option Bool := (forS Ue.B5 0 a.Ports b).bind fun c => Ue.J2 a c
def Ue.B6 (d : Nat) (a : Segment) (b : List Int) : Option (List Int) := (Da b ([a.From, a.To] : List Int)).bind fun c => some c
def Ue (a : Network) : Option Bool := (forS Ue.B6 0 a.Segments []).bind fun b => Ue.J1 a b
def Nm.J2 (a : Bool) : Option Bool := some a
def Nm.J1 (a : Segment) (d : Unit) : Option Bool := (ix a.Points 0).bind fun b => if (b.2.At == 0) = true then (ix a.Points (wr ((a.Points.length : Int) - 1))).bind fun c => Nm.J2 (c.2.At == a.Capacity) else Nm.J2 false
def Nm.J4 (a : Bool) : Option (Unit ⊕ (Bool)) := if a = true then some ((.inr (false))) else some (.inl ())
def Nm.B3 (c : Segment) (b : Nat) (a : Point) (e : Unit) : Option (Unit ⊕ (Bool)) := if (!(De a.Height (-500) 5000)) = true then Nm.J4 true else if (!(De a.Limit 0 100000000)) = true then Nm.J4 true else if decide ((b : Int) > 0) = true then (ix c.Points (wr ((b : Int) - 1))).bind fun d => Nm.J4 (decide (a.At ≤ d.2.At)) else Nm.J4 false
def Nm (a : Segment) : Option Bool := if ((a.From == a.To) || ((!(De a.Capacity 1 1000000)) || ((!(De a.Resist 0 1000)) || (!(De a.Wave 0 100000))))) = true then some false else (forL (Nm.B3 a) 0 a.Points ()).bind fun b => Sum.elim (fun d => Nm.J1 a ()) (fun c => some c) b
def Pp (a : Segment) : Option Bool := (Nm a).bind fun b => some (!b)
def Ms (a : Port) : Bool := (!(De a.Pressure 0 100000000))
def Ni (a : Station) : Bool := ((!(De a.Head 0 100000000)) || ((!(De a.Fall 0 100000)) || (!(De a.Suction 0 100000000))))
def Ud (a : Network) : Option Bool := (Kz a.Segments (fun x => Pp x)).bind fun b => if b = true then some false else (Nj a.Ports (fun x => some (Ms x))).bind fun c => if c = true then some false else (Mv a.Stations (fun x => some (Ni x))).bind fun d => if d = true then some false else some ((De a.Vapour (-100000) 100000000) && (De a.Settle 0 100))
def P1 (a : ByteArray) : Option Bool := (Qf a).bind fun b => some (!b)
def Gk.J1 (a : Network) (e : Unit) : Option Int := (T6 a).bind fun b => if b = true then some 7 else (Ue a).bind fun c => if (!c) = true then some 8 else (Ud a).bind fun d => if (!d) = true then some 9 else some 0
def Gk.B2 (a : Arr (List ByteArray) 4) (b : Nat) (e : Unit) : Option (Unit ⊕ (Int)) := (ix a.l (b : Int)).bind fun c => (M9 c.2 (fun x => P1 x)).bind fun d => if d = true then some ((.inr (3))) else some (.inl ())
def Gk (a : Network) : Option Int := (T8 a).bind fun b => if (!b) = true then some 4 else (Nu a).bind fun c => (forI (Gk.B2 c) 0 4 ()).bind fun d => Sum.elim (fun f => Gk.J1 a ()) (fun e => some e) d
def Jg.J2 (a : flow_streams) (b : Int × Int × Int) (c : Arr Int 24) : Option flow_streams := if decide (b.2.1 ≥ 0) = true then (ix a.come.l b.2.1).bind fun d => some (⟨(a.come.set d.1 (wr (d.2 + b.2.2))), c⟩ : flow_streams) else some (⟨a.come, c⟩ : flow_streams)
def Jg.J1 (a : flow_streams) (b : Int × Int × Int) : Option flow_streams := if decide (b.1 ≥ 0) = true then (ix a.leave.l b.1).bind fun c => Jg.J2 a b (a.leave.set c.1 (wr (c.2 + b.2.2))) else Jg.J2 a b a.leave
def Jg (b : flow_streams) (c : Int) (d : Int) (a : Int) : Option flow_streams := if decide (a < 0) = true then Jg.J1 b (d, c, wr (0 - a)) else Jg.J1 b (c, d, a)
def Jd.J2 (a : (Arr Int 24) × (Arr Int 24)) : Option flow_streams := some (⟨a.1, a.2⟩ : flow_streams)
def Jd.B3 (c : Plan) (d : Nat) (e : Port) (a : (Arr Int 24) × (Arr Int 24)) : Option ((Arr Int 24) × (Arr Int 24)) := (ix c.Ports (d : Int)).bind fun f => (Jg (⟨a.1, a.2⟩ : flow_streams) (-1) e.Node f.2).bind fun b => some (b.come, b.leave)
def Jd.J1 (c : Network) (d : Plan) (a : (Arr Int 24) × (Arr Int 24)) : Option flow_streams := (forS (Jd.B3 d) 0 c.Ports (a.1, a.2)).bind fun b => Jd.J2 (b.1, b.2)
def Jd.B4 (d : Plan) (e : Nat) (a : Segment) (b : (Arr Int 24) × (Arr Int 24)) : Option ((Arr Int 24) × (Arr Int 24)) := (ix d.Rates (e : Int)).bind fun f => (Jg (⟨b.1, b.2⟩ : flow_streams) a.From a.To f.2).bind fun c => some (c.come, c.leave)
def Jd (a : Network) (b : Plan) : Option flow_streams := (forS (Jd.B4 b) 0 a.Segments ((Arr.rep 24 (0 : Int)), (Arr.rep 24 (0 : Int)))).bind fun c => Jd.J1 a b (c.1, c.2)
def Nh (a : Int) : Bool := (!(M0 a 1000))
def Gj.J1 (a : Network) (b : Plan) (f : Unit) : Option Int := (K0 b.Ports (fun x => some (Nh x))).bind fun d => if d = true then some 1 else (Jd a b).bind fun c => if (!decide (c.come = c.leave)) = true then some 12 else (Py a b).bind fun e => if decide ((e.length : Int) < (a.Nodes.length : Int)) = true then some 13 else some 0
def Gj.B2 (a : Plan) (b : Nat) (c : Segment) (e : Unit) : Option (Unit ⊕ (Int)) := (ix a.Rates (b : Int)).bind fun d => if (!(M0 d.2 (min 1000 c.Capacity))) = true then some ((.inr (1))) else some (.inl ())
def Gj (a : Network) (b : Plan) : Option Int := (Gk a).bind fun c => if (c != 0) = true then some c else if (((b.Rates.length : Int) != (a.Segments.length : Int)) || (((b.Ports.length : Int) != (a.Ports.length : Int)) || ((b.Pumps.length : Int) != (a.Stations.length : Int)))) = true then some 9 else (forL (Gj.B2 b) 0 a.Segments ()).bind fun d => Sum.elim (fun f => Gj.J1 a b ()) (fun e => some e) d
def Ir (a : List Int) : Option KS := (iD a 0 (min (a.length : Int) 2000)).bind fun b => some (⟨b, 0⟩ : KS)
def Pq (a : KS) : Option (Int × KS) := if decide (a.At ≥ (a.L_.length : Int)) = true then some (0, a) else (ix a.L_ (wr ((wr (a.At + 1)) - 1))).bind fun b => some (b.2, (⟨a.L_, wr (a.At + 1)⟩ : KS))
def Ec (b : KS) (c : Int) : Option (Int × KS) := (Pq b).bind fun a => (Qh a.1 c).bind fun d => some (d, a.2)
def Jl (a : ByteArray) (b : Int) : Option ByteArray := (Wl ([IntKind.u8.wrap (wr (97 + (b.tmod 26)))] : List Int)).bind fun c => (kN a c).bind fun d => some d
def Em (c : KS) (a : List Int) : Option (Int × KS) := (Ec c (a.length : Int)).bind fun b => (ix a b.1).bind fun d => some (d.2, b.2)
def G5 (c : KS) (a : Int) (d : Int) : Option (Int × KS) := (Ec c (wr ((wr (d - a)) + 1))).bind fun b => some (wr (a + b.1), b.2)
def Mx.J2 (b : (List Int) × Int × Int × Int) (e : ByteArray) (c : Int × KS) (f : Int × KS) (g : Int × KS) (h : Int × KS) (a : (List Int) × Int × (List Point)) : Option (Segment × KS) := (G5 (⟨a.1, a.2.1⟩ : KS) (-5) 30).bind fun d => (Da a.2.2 ([(⟨c.1, d.1, h.1⟩ : Point)] : List Point)).bind fun i => some ((⟨e, b.2.2.1, b.2.2.2, c.1, f.1, g.1, i⟩ : Segment), d.2)
def Mx.J4 (g : Int × KS) (h : Int × KS) (a : (List Int) × Int × (List Point) × Int) (c : (List Int) × Int × Bool) : Option (((List Int) × Int × (List Point) × Int) ⊕ (((List Int) × Int × (List Point)))) := if c.2.2 = true then (G5 (⟨c.1, c.2.1⟩ : KS) 1 40).bind fun b => if decide ((wr (a.2.2.2 + b.1)) ≥ g.1) = true then some ((.inr ((b.2.L_, b.2.At, a.2.2.1)))) else (G5 b.2 (-5) 60).bind fun e => (Em e.2 ([1, 1, 10] : List Int)).bind fun f => (Ec f.2 3).bind fun d => (Da a.2.2.1 ([(⟨wr (a.2.2.2 + b.1), wr (e.1 * f.1), wr (h.1 - (wr (d.1 * 1000)))⟩ : Point)] : List Point)).bind fun i => some (.inl (d.2.L_, d.2.At, i, wr (a.2.2.2 + b.1))) else some ((.inr ((c.1, c.2.1, a.2.2.1))))
def Mx.B3 (c : Int × KS) (d : Int × KS) (a : (List Int) × Int × (List Point) × Int) : Option (((List Int) × Int × (List Point) × Int) ⊕ (((List Int) × Int × (List Point)))) := if decide ((a.2.2.1.length : Int) < 7) = true then (Ec (⟨a.1, a.2.1⟩ : KS) 3).bind fun b => Mx.J4 c d a (b.2.L_, b.2.At, decide (b.1 > 0)) else Mx.J4 c d a (a.1, a.2.1, false)
def Mx.J1 (g : Int) (b : (List Int) × Int × Int × Int) : Option (Segment × KS) := (Jl (⟨#[103]⟩ : ByteArray) g).bind fun h => (Em (⟨b.1, b.2.1⟩ : KS) ([1, 2, 7, 20, 60, 200, 1000] : List Int)).bind fun c => (Em c.2 ([0, 1, 5, 1000] : List Int)).bind fun e => (Em e.2 ([0, 50, 1000, 100000] : List Int)).bind fun f => (Em f.2 ([1000000, 6000000, 100000000] : List Int)).bind fun a => (G5 a.2 (-5) 30).bind fun d => (Da [] ([(⟨0, d.1, a.1⟩ : Point)] : List Point)).bind fun i => (Ch (Mx.B3 c a) Dm (d.2.L_, d.2.At, i, 0)).bind fun j => Mx.J2 b h c e f a j
def Mx (e : KS) (b : Int) (c : Int) (d : Int) : Option (Segment × KS) := (Ec e 4).bind fun a => if (a.1 == 0) = true then Mx.J1 b (a.2.L_, a.2.At, d, c) else Mx.J1 b (a.2.L_, a.2.At, c, d)
def It.J4 (b : Int × KS) (c : Int × KS) (d : (List Int) × Int × (List ByteArray)) (e : (List Int) × Int × (List Segment)) (a : (List Int) × Int × (List Port) × (List Station)) : Option (Network × KS) := some ((⟨d.2.2, e.2.2, a.2.2.1, a.2.2.2, b.1, c.1⟩ : Network), (⟨a.1, a.2.1⟩ : KS))
def It.J6 (b : (List Int) × Int × (List Port) × (List Station) × Int) (a : (List Int) × Int × (List Port) × (List Station)) : Option (((List Int) × Int × (List Port) × (List Station) × Int) ⊕ (((List Int) × Int × (List Port) × (List Station)))) := some (.inl (a.1, a.2.1, a.2.2.1, a.2.2.2, wr (b.2.2.2.2 + 1)))
def It.J8 (a : (List Int) × Int × (List Port) × (List Station) × Int) (d : (List Int) × Int × (List Port)) (b : (List Int) × Int × Bool) : Option (((List Int) × Int × (List Port) × (List Station) × Int) ⊕ (((List Int) × Int × (List Port) × (List Station)))) := if b.2.2 = true then (Jl (⟨#[115]⟩ : ByteArray) (a.2.2.2.1.length : Int)).bind fun g => (Em (⟨b.1, b.2.1⟩ : KS) ([500000, 2000000, 0] : List Int)).bind fun e => (Em e.2 ([0, 200, 100000] : List Int)).bind fun f => (Em f.2 ([0, 100000, 400000] : List Int)).bind fun c => (Da a.2.2.2.1 ([(⟨g, a.2.2.2.2, e.1, f.1, c.1⟩ : Station)] : List Station)).bind fun h => It.J6 a (c.2.L_, c.2.At, d.2.2, h) else It.J6 a (b.1, b.2.1, d.2.2, a.2.2.2.1)
def It.J7 (d : (List Int) × Int × (List ByteArray)) (b : (List Int) × Int × (List Port) × (List Station) × Int) (a : (List Int) × Int × (List Port)) : Option (((List Int) × Int × (List Port) × (List Station) × Int) ⊕ (((List Int) × Int × (List Port) × (List Station)))) := if decide (b.2.2.2.2 < (wr ((d.2.2.length : Int) - 1))) = true then (Ec (⟨a.1, a.2.1⟩ : KS) 3).bind fun c => It.J8 b a (c.2.L_, c.2.At, (c.1 == 0)) else It.J8 b a (a.1, a.2.1, false)
def It.J9 (d : (List Int) × Int × (List ByteArray)) (a : (List Int) × Int × (List Port) × (List Station) × Int) (b : (List Int) × Int × Bool) : Option (((List Int) × Int × (List Port) × (List Station) × Int) ⊕ (((List Int) × Int × (List Port) × (List Station)))) := if b.2.2 = true then (Jl (⟨#[113]⟩ : ByteArray) (a.2.2.1.length : Int)).bind fun e => (Em (⟨b.1, b.2.1⟩ : KS) ([300000, 1000000, 0, 5000000] : List Int)).bind fun c => (Da a.2.2.1 ([(⟨e, a.2.2.2.2, c.1⟩ : Port)] : List Port)).bind fun f => It.J7 d a (c.2.L_, c.2.At, f) else It.J7 d a (b.1, b.2.1, a.2.2.1)
def It.B5 (b : (List Int) × Int × (List ByteArray)) (a : (List Int) × Int × (List Port) × (List Station) × Int) : Option (((List Int) × Int × (List Port) × (List Station) × Int) ⊕ (((List Int) × Int × (List Port) × (List Station)))) := if decide (a.2.2.2.2 ≤ (wr ((b.2.2.length : Int) - 1))) = true then if (a.2.2.2.2 == 0) = true then It.J9 b a (a.1, a.2.1, true) else if (a.2.2.2.2 == (wr ((b.2.2.length : Int) - 1))) = true then It.J9 b a (a.1, a.2.1, true) else (Ec (⟨a.1, a.2.1⟩ : KS) 2).bind fun c => It.J9 b a (c.2.L_, c.2.At, (c.1 == 0)) else some ((.inr ((a.1, a.2.1, a.2.2.1, a.2.2.2.1))))
def It.J3 (c : Int × KS) (d : Int × KS) (b : (List Int) × Int × (List ByteArray)) (a : (List Int) × Int × (List Segment)) : Option (Network × KS) := (Ch (It.B5 b) Dm (a.1, a.2.1, [], [], 0)).bind fun e => It.J4 c d b a e
def It.B10 (d : (List Int) × Int × (List ByteArray)) (a : (List Int) × Int × (List Segment) × Int) : Option (((List Int) × Int × (List Segment) × Int) ⊕ (((List Int) × Int × (List Segment)))) := if decide (a.2.2.2 > 0) = true then (Ec (⟨a.1, a.2.1⟩ : KS) (wr ((d.2.2.length : Int) - 1))).bind fun b => (G5 b.2 (wr (b.1 + 1)) (wr ((d.2.2.length : Int) - 1))).bind fun e => (Mx e.2 (a.2.2.1.length : Int) b.1 e.1).bind fun c => (Da a.2.2.1 ([c.1] : List Segment)).bind fun f => some (.inl (c.2.L_, c.2.At, f, wr (a.2.2.2 - 1))) else some ((.inr ((a.1, a.2.1, a.2.2.1))))
def It.J2 (d : Int × KS) (e : Int × KS) (c : (List Int) × Int × (List ByteArray)) (a : (List Int) × Int × (List Segment)) : Option (Network × KS) := (Ec (⟨a.1, a.2.1⟩ : KS) 4).bind fun b => (Ch (It.B10 c) Dm (b.2.L_, b.2.At, a.2.2, b.1)).bind fun f => It.J3 d e c f
def It.B11 (c : (List Int) × Int × (List ByteArray)) (a : (List Int) × Int × (List Segment) × Int) : Option (((List Int) × Int × (List Segment) × Int) ⊕ (((List Int) × Int × (List Segment)))) := if decide (a.2.2.2 < (wr ((c.2.2.length : Int) - 1))) = true then (Mx (⟨a.1, a.2.1⟩ : KS) (a.2.2.1.length : Int) a.2.2.2 (wr (a.2.2.2 + 1))).bind fun b => (Da a.2.2.1 ([b.1] : List Segment)).bind fun d => some (.inl (b.2.L_, b.2.At, d, wr (a.2.2.2 + 1))) else some ((.inr ((a.1, a.2.1, a.2.2.1))))
def It.J1 (b : Int × KS) (c : Int × KS) (a : (List Int) × Int × (List ByteArray)) : Option (Network × KS) := (Ch (It.B11 a) Dm (a.1, a.2.1, [], 0)).bind fun d => It.J2 b c a d
def It.B12 (b : Int × KS) (a : (List ByteArray) × Int) : Option (((List ByteArray) × Int) ⊕ (((List Int) × Int × (List ByteArray)))) := if decide (a.2 > 0) = true then (Jl (⟨#[110]⟩ : ByteArray) (a.1.length : Int)).bind fun c => (Da a.1 ([c] : List ByteArray)).bind fun d => some (.inl (d, wr (a.2 - 1))) else some ((.inr ((b.2.L_, b.2.At, a.1))))
def It (d : KS) : Option (Network × KS) := (Em d ([(-100000), 0, 50000] : List Int)).bind fun a => (Em a.2 ([0, 1, 5, 100] : List Int)).bind fun b => (G5 b.2 2 6).bind fun c => (Ch (It.B12 c) Dm ([], c.1)).bind fun e => It.J1 a b e
def Is (a : Int) : Int := (max a (wr (0 - a)))
def M8.J2 (a : List Bool) (b : List Int) (c : List Int) : Option Plan := some (⟨b, c, a⟩ : Plan)
def M8.B3 (d : Nat) (a : Int) (b : List Int) : Option (List Int) := (Da b ([wr (0 - a)] : List Int)).bind fun c => some c
def M8.J1 (a : Plan) (b : List Bool) (c : List Int) : Option Plan := (forS M8.B3 0 a.Ports []).bind fun d => M8.J2 b c d
def M8.B4 (d : Nat) (a : Int) (b : List Int) : Option (List Int) := (Da b ([wr (0 - a)] : List Int)).bind fun c => some c
def M8 (a : Plan) : Option Plan := (Da ([] : List Bool) a.Pumps).bind fun b => (forS M8.B4 0 a.Rates []).bind fun c => M8.J1 a b c
def P7.J3 (b : (List Int) × Int × (List Bool)) (c : Int × KS) (a : (List Int) × Int × (List Int) × (List Int)) : Option (Plan × KS) := if (c.1 == 0) = true then (M8 (⟨a.2.2.1, a.2.2.2, b.2.2⟩ : Plan)).bind fun d => some (d, (⟨a.1, a.2.1⟩ : KS)) else some ((⟨a.2.2.1, a.2.2.2, b.2.2⟩ : Plan), (⟨a.1, a.2.1⟩ : KS))
def P7.J5 (b : (List Int) × Int × (List Int) × (List Int) × Int) (a : (List Int) × Int × (List Int) × (List Int)) : Option (((List Int) × Int × (List Int) × (List Int) × Int) ⊕ (((List Int) × Int × (List Int) × (List Int)))) := some (.inl (a.1, a.2.1, a.2.2.1, a.2.2.2, wr (b.2.2.2.2 - 1)))
def P7.J10 (a : List Int) : Option (List Int) := some a
def P7.B9 (g : Network) (c : Int × KS) (h : (List Int) × Int × (List Int) × Int) (i : Nat) (a : List Int) : Option (List Int) := (ix h.2.2.1 (i : Int)).bind fun b => (ix g.Segments b.2).bind fun d => if decide (d.2.From < d.2.To) = true then (ix a b.2).bind fun e => P7.J10 (a.set e.1 (wr (e.2 + c.1))) else (ix a b.2).bind fun f => P7.J10 (a.set f.1 (wr (f.2 - c.1)))
def P7.J8 (c : Network) (b : (List Int) × Int × (List Int) × (List Int) × Int) (d : Int × KS) (a : (List Int) × Int × (List Int) × Int) (e : List Int) : Option (((List Int) × Int × (List Int) × (List Int) × Int) ⊕ (((List Int) × Int × (List Int) × (List Int)))) := (forJ (P7.B9 c d a) 0 a.2.2.1.length b.2.2.1).bind fun f => P7.J5 b (a.1, a.2.1, f, e)
def P7.J7 (e : Network) (a : (List Int) × Int × (List Int) × (List Int) × Int) (f : Int × KS) (c : Int × KS) (b : (List Int) × Int × (List Int) × Int) : Option (((List Int) × Int × (List Int) × (List Int) × Int) ⊕ (((List Int) × Int × (List Int) × (List Int)))) := if decide (b.2.2.2 < 0) = true then P7.J5 a (b.1, b.2.1, a.2.2.1, a.2.2.2.1) else (ix a.2.2.2.1 f.1).bind fun d => (ix a.2.2.2.1 b.2.2.2).bind fun g => (ix (a.2.2.2.1.set d.1 (wr (d.2 + c.1))) b.2.2.2).bind fun h => P7.J8 e a c b ((a.2.2.2.1.set d.1 (wr (d.2 + c.1))).set h.1 (wr (g.2 - c.1)))
def P7.J13 (g : Network) (b : (List Int) × Int × Int × (List Int) × Int) (a : (List Int) × Int × Int) (c : List Int) : Option (((List Int) × Int × Int × (List Int) × Int) ⊕ (((List Int) × Int × (List Int) × Int))) := if ((c.length : Int) == 0) = true then some ((.inr ((a.1, a.2.1, b.2.2.2.1, a.2.2)))) else (Ec (⟨a.1, a.2.1⟩ : KS) (c.length : Int)).bind fun d => (ix c d.1).bind fun e => (Da b.2.2.2.1 ([e.2] : List Int)).bind fun h => (ix g.Segments e.2).bind fun f => some (.inl (d.2.L_, d.2.At, wr ((wr (f.2.From + f.2.To)) - b.2.2.1), h, a.2.2))
def P7.J15 (a : List Int) : Option (List Int) := some a
def P7.J16 (b : Nat) (a : List Int) (c : Bool) : Option (List Int) := if c = true then (Da a ([(b : Int)] : List Int)).bind fun d => P7.J15 d else P7.J15 a
def P7.B14 (e : (List Int) × Int × (List Int) × (List Int) × Int) (f : Int × KS) (c : (List Int) × Int × Int × (List Int) × Int) (b : Nat) (a : Segment) (d : List Int) : Option (List Int) := if (a.From == c.2.2.1) = true then if decide ((wr ((wr (a.From + a.To)) - c.2.2.1)) > c.2.2.1) = true then (ix e.2.2.1 (b : Int)).bind fun g => P7.J16 b d (decide ((wr ((Is g.2) + f.1)) ≤ (min 1000 a.Capacity))) else P7.J16 b d false else if (a.To == c.2.2.1) = true then if decide ((wr ((wr (a.From + a.To)) - c.2.2.1)) > c.2.2.1) = true then (ix e.2.2.1 (b : Int)).bind fun h => P7.J16 b d (decide ((wr ((Is h.2) + f.1)) ≤ (min 1000 a.Capacity))) else P7.J16 b d false else P7.J16 b d false
def P7.J12 (c : Network) (d : (List Int) × Int × (List Int) × (List Int) × Int) (e : Int × KS) (b : (List Int) × Int × Int × (List Int) × Int) (a : (List Int) × Int × Int) : Option (((List Int) × Int × Int × (List Int) × Int) ⊕ (((List Int) × Int × (List Int) × Int))) := if decide (a.2.2 ≥ 0) = true then some ((.inr ((a.1, a.2.1, b.2.2.2.1, a.2.2)))) else (forS (P7.B14 d e b) 0 c.Segments []).bind fun f => P7.J13 c b a f
def P7.J18 (a : (List Int) × Int × Int) : Option ((List Int) × Int × Int) := some (a.1, a.2.1, a.2.2)
def P7.J19 (b : Nat) (c : (List Int) × Int × Int) (a : (List Int) × Int × Bool) : Option ((List Int) × Int × Int) := if a.2.2 = true then P7.J18 (a.1, a.2.1, (b : Int)) else P7.J18 (a.1, a.2.1, c.2.2)
def P7.B17 (f : (List Int) × Int × (List Int) × (List Int) × Int) (g : Int × KS) (h : Int × KS) (d : (List Int) × Int × Int × (List Int) × Int) (b : Nat) (i : Port) (a : (List Int) × Int × Int) : Option ((List Int) × Int × Int) := if (i.Node == d.2.2.1) = true then if ((b : Int) != g.1) = true then (ix f.2.2.2.1 (b : Int)).bind fun e => if decide (e.2 ≤ 0) = true then if decide ((wr (e.2 - h.1)) ≥ (-1000)) = true then if decide ((d.2.2.2.1.length : Int) > 0) = true then (Ec (⟨a.1, a.2.1⟩ : KS) 2).bind fun c => P7.J19 b a (c.2.L_, c.2.At, (c.1 == 0)) else P7.J19 b a (a.1, a.2.1, false) else P7.J19 b a (a.1, a.2.1, false) else P7.J19 b a (a.1, a.2.1, false) else P7.J19 b a (a.1, a.2.1, false) else P7.J19 b a (a.1, a.2.1, false)
def P7.B11 (c : Network) (d : (List Int) × Int × (List Int) × (List Int) × Int) (f : Int × KS) (e : Int × KS) (a : (List Int) × Int × Int × (List Int) × Int) : Option (((List Int) × Int × Int × (List Int) × Int) ⊕ (((List Int) × Int × (List Int) × Int))) := if decide (a.2.2.2.2 < 0) = true then (forS (P7.B17 d f e a) 0 c.Ports (a.1, a.2.1, a.2.2.2.2)).bind fun b => P7.J12 c d e a (b.1, b.2.1, b.2.2) else some ((.inr ((a.1, a.2.1, a.2.2.2.1, a.2.2.2.2))))
def P7.J6 (c : Network) (b : (List Int) × Int × (List Int) × (List Int) × Int) (d : Int × KS) (e : Nat × Port) (a : Int × KS) (f : Bool) : Option (((List Int) × Int × (List Int) × (List Int) × Int) ⊕ (((List Int) × Int × (List Int) × (List Int)))) := if f = true then P7.J5 b (a.2.L_, a.2.At, b.2.2.1, b.2.2.2.1) else (Ch (P7.B11 c b d a) Dm (a.2.L_, a.2.At, e.2.Node, [], (-1))).bind fun g => P7.J7 c b d a g
def P7.B4 (c : Network) (a : (List Int) × Int × (List Int) × (List Int) × Int) : Option (((List Int) × Int × (List Int) × (List Int) × Int) ⊕ (((List Int) × Int × (List Int) × (List Int)))) := if decide (a.2.2.2.2 > 0) = true then (Ec (⟨a.1, a.2.1⟩ : KS) (c.Ports.length : Int)).bind fun b => (ix c.Ports b.1).bind fun e => (Em b.2 ([1, 5, 30, 300] : List Int)).bind fun f => (G5 f.2 1 f.1).bind fun d => (ix a.2.2.2.1 b.1).bind fun g => if decide (g.2 < 0) = true then P7.J6 c a b e d true else P7.J6 c a b e d (decide ((wr (g.2 + d.1)) > 1000)) else some ((.inr ((a.1, a.2.1, a.2.2.1, a.2.2.2.1))))
def P7.J2 (e : Network) (c : (List Int) × (List Int)) (a : (List Int) × Int × (List Bool)) : Option (Plan × KS) := (Ec (⟨a.1, a.2.1⟩ : KS) 3).bind fun d => (Ec d.2 5).bind fun b => (Ch (P7.B4 e) Dm (b.2.L_, b.2.At, c.1, c.2, b.1)).bind fun f => P7.J3 a d f
def P7.B20 (c : Network) (a : (List Int) × Int × (List Bool) × Int) : Option (((List Int) × Int × (List Bool) × Int) ⊕ (((List Int) × Int × (List Bool)))) := if decide (a.2.2.2 < (c.Stations.length : Int)) = true then (Ec (⟨a.1, a.2.1⟩ : KS) 2).bind fun b => (Da a.2.2.1 ([(b.1 == 0)] : List Bool)).bind fun d => some (.inl (b.2.L_, b.2.At, d, wr (a.2.2.2 + 1))) else some ((.inr ((a.1, a.2.1, a.2.2.1))))
def P7.J1 (a : KS) (b : Network) (c : (List Int) × (List Int)) : Option (Plan × KS) := (Ch (P7.B20 b) Dm (a.L_, a.At, [], 0)).bind fun d => P7.J2 b c d
def P7 (b : KS) (a : Network) : Option (Plan × KS) := (Rt (a.Segments.length : Int) (0 : Int)).bind fun c => (Rt (a.Ports.length : Int) (0 : Int)).bind fun d => P7.J1 b a (c, d)
structure paths_divider where
 n_ : Network
 rates : List Int
 ports : List Int
 deriving DecidableEq
def Yo (x : paths_divider) : List T := [.list 1 (x.n_.Nodes.map rS), .list 7 (x.n_.Segments.map Ar), .list 3 (x.n_.Ports.map Bj), .list 5 (x.n_.Stations.map A4), .v (.int .i64 x.n_.Vapour), .v (.int .i64 x.n_.Settle), .list 1 (x.rates.map rI), .list 1 (x.ports.map rI)]
structure Hop where
 Segment : Int
 Back : Bool
 deriving DecidableEq
def Bc (x : Hop) : List T := [.v (.int .i64 x.Segment), .v (.bool x.Back)]
structure Path where
 In : Int
 Out : Int
 Hops : List Hop
 Rate : Int
 deriving DecidableEq
def Aj (x : Path) : List T := [.v (.int .i64 x.In), .v (.int .i64 x.Out), .list 2 (x.Hops.map Bc), .v (.int .i64 x.Rate)]
def Mt (a : List Int) : Option (List Int) := Da [] a
def Hr (b : Hop) (a : Int) : Int := if b.Back = true then (wr (0 - a)) else a
def Jo.J2 (b : paths_divider) (e : Int) (c : Nat × Int) (a : Int × (List Hop) × Int) (d : Nat × Int) (f : List Int) : Option (Path × paths_divider) := some ((⟨e, a.1, a.2.1, a.2.2⟩ : Path), (⟨b.n_, f, ((b.ports.set c.1 (wr (c.2 - a.2.2))).set d.1 (wr (d.2 + a.2.2)))⟩ : paths_divider))
def Jo.B3 (a : Int × (List Hop) × Int) (e : Nat) (b : List Int) : Option (List Int) := (ix a.2.1 (e : Int)).bind fun c => (ix b c.2.Segment).bind fun d => some (b.set d.1 (wr (d.2 - (Hr c.2 a.2.2))))
def Jo.J1 (b : paths_divider) (d : Int) (c : Nat × Int) (a : Int × (List Hop) × Int) : Option (Path × paths_divider) := (ix (b.ports.set c.1 (wr (c.2 - a.2.2))) a.1).bind fun e => (forJ (Jo.B3 a) 0 a.2.1.length b.rates).bind fun f => Jo.J2 b d c a e f
def Jo.J6 (a : (List Hop) × Int × Int) (b : Unit) : Option (((List Hop) × Int × Int) ⊕ ((Int × (List Hop) × Int))) := some ((.inr ((0, a.1, a.2.1))))
def Jo.J8 (a : (List Hop) × Int × Int) (b : Segment) (c : Nat × Int) (d : List Hop) : Option (Unit ⊕ (((List Hop) × Int × Int))) := some ((.inr ((d, (min a.2.1 c.2), b.To))))
def Jo.J9 (a : (List Hop) × Int × Int) (b : Segment) (c : Nat × Int) (d : List Hop) : Option (Unit ⊕ (((List Hop) × Int × Int))) := some ((.inr ((d, (min a.2.1 (wr (0 - c.2))), b.From))))
def Jo.B7 (e : paths_divider) (a : (List Hop) × Int × Int) (d : Nat) (b : Segment) (h : Unit) : Option (Unit ⊕ (((List Hop) × Int × Int))) := (ix e.rates (d : Int)).bind fun c => if (decide (c.2 > 0) && (b.From == a.2.2)) = true then (Da a.1 ([(⟨(d : Int), false⟩ : Hop)] : List Hop)).bind fun f => Jo.J8 a b c f else if (decide (c.2 < 0) && (b.To == a.2.2)) = true then (Da a.1 ([(⟨(d : Int), true⟩ : Hop)] : List Hop)).bind fun g => Jo.J9 a b c g else some (.inl ())
def Jo.J5 (a : paths_divider) (b : (List Hop) × Int × Int) (e : Unit) : Option (((List Hop) × Int × Int) ⊕ ((Int × (List Hop) × Int))) := (forL (Jo.B7 a b) 0 a.n_.Segments ()).bind fun c => Sum.elim (fun f => Jo.J6 b ()) (fun d => some (.inl d)) c
def Jo.J11 (c : paths_divider) (a : (List Hop) × Int × Int) (b : Nat) (d : Bool) : Option (Unit ⊕ ((Int × (List Hop) × Int))) := if d = true then (ix c.ports (b : Int)).bind fun e => some ((.inr (((b : Int), a.1, (min a.2.1 (wr (0 - e.2))))))) else some (.inl ())
def Jo.B10 (a : paths_divider) (b : (List Hop) × Int × Int) (c : Nat) (d : Port) (f : Unit) : Option (Unit ⊕ ((Int × (List Hop) × Int))) := if (d.Node == b.2.2) = true then (ix a.ports (c : Int)).bind fun e => Jo.J11 a b c (decide (e.2 < 0)) else Jo.J11 a b c false
def Jo.B4 (a : paths_divider) (b : (List Hop) × Int × Int) : Option (((List Hop) × Int × Int) ⊕ ((Int × (List Hop) × Int))) := (forL (Jo.B10 a b) 0 a.n_.Ports ()).bind fun c => Sum.elim (fun e => Jo.J5 a b ()) (fun d => some ((.inr (d)))) c
def Jo (a : paths_divider) (b : Int) : Option (Path × paths_divider) := (ix a.ports b).bind fun c => (ix a.n_.Ports b).bind fun d => (Ch (Jo.B4 a) Dm ([], c.2, d.2.Node)).bind fun e => Jo.J1 a b c e
def G3.J1 (a : List Path) : Option ((List Path) × Int) := some (a, 0)
def G3.J3 (a : (List ByteArray) × (List Segment) × (List Port) × (List Station) × Int × Int × (List Int) × (List Int) × (List Path)) : Option (((List ByteArray) × (List Segment) × (List Port) × (List Station) × Int × Int × (List Int) × (List Int) × (List Path)) ⊕ (((List Path) × Int))) := some (.inl (a.1, a.2.1, a.2.2.1, a.2.2.2.1, a.2.2.2.2.1, a.2.2.2.2.2.1, a.2.2.2.2.2.2.1, a.2.2.2.2.2.2.2.1, a.2.2.2.2.2.2.2.2))
def G3.B4 (c : Nat) (a : (List ByteArray) × (List Segment) × (List Port) × (List Station) × Int × Int × (List Int) × (List Int) × (List Path)) : Option (((List ByteArray) × (List Segment) × (List Port) × (List Station) × Int × Int × (List Int) × (List Int) × (List Path)) ⊕ (((List Path) × Int) ⊕ ((List ByteArray) × (List Segment) × (List Port) × (List Station) × Int × Int × (List Int) × (List Int) × (List Path)))) := (ix a.2.2.2.2.2.2.2.1 (c : Int)).bind fun d => if decide (d.2 > 0) = true then (Jo (⟨(⟨a.1, a.2.1, a.2.2.1, a.2.2.2.1, a.2.2.2.2.1, a.2.2.2.2.2.1⟩ : Network), a.2.2.2.2.2.2.1, a.2.2.2.2.2.2.2.1⟩ : paths_divider) (c : Int)).bind fun b => if (((a.2.2.2.2.2.2.2.2.length : Int) == 64) || decide ((b.1.Hops.length : Int) > 32)) = true then some ((.inr (.inl (([], 23))))) else (Da a.2.2.2.2.2.2.2.2 ([b.1] : List Path)).bind fun e => some (.inl (b.2.n_.Nodes, b.2.n_.Segments, b.2.n_.Ports, b.2.n_.Stations, b.2.n_.Vapour, b.2.n_.Settle, b.2.rates, b.2.ports, e)) else some ((.inr (.inr ((a.1, a.2.1, a.2.2.1, a.2.2.2.1, a.2.2.2.2.1, a.2.2.2.2.2.1, a.2.2.2.2.2.2.1, a.2.2.2.2.2.2.2.1, a.2.2.2.2.2.2.2.2)))))
def G3.B2 (b : Nat) (a : (List ByteArray) × (List Segment) × (List Port) × (List Station) × Int × Int × (List Int) × (List Int) × (List Path)) : Option (((List ByteArray) × (List Segment) × (List Port) × (List Station) × Int × Int × (List Int) × (List Int) × (List Path)) ⊕ (((List Path) × Int))) := (Ch (G3.B4 b) Dm (a.1, a.2.1, a.2.2.1, a.2.2.2.1, a.2.2.2.2.1, a.2.2.2.2.2.1, a.2.2.2.2.2.2.1, a.2.2.2.2.2.2.2.1, a.2.2.2.2.2.2.2.2)).bind fun c => Sum.elim (fun d => some ((.inr (d)))) (fun e => G3.J3 e) c
def G3 (a : Network) (b : Plan) : Option ((List Path) × Int) := (Gk a).bind fun c => if (c != 0) = true then some ([], c) else (Gj a b).bind fun d => if (d != 0) = true then some ([], d) else (Mt b.Rates).bind fun f => (Mt b.Ports).bind fun e => (forI G3.B2 0 e.length (a.Nodes, a.Segments, a.Ports, a.Stations, a.Vapour, a.Settle, f, e, [])).bind fun g => Sum.elim (fun h => G3.J1 h.2.2.2.2.2.2.2.2) (fun i => some i) g
def K5 (a : List Hop) : Option (List Hop) := Da [] a
def P4 (a : Path) (b : Int) : Option Path := (K5 a.Hops).bind fun c => some (⟨a.In, a.Out, c, b⟩ : Path)
def P5 (a : List Bool) : Option (List Bool) := Da [] a
def Pt.B1 (d : Int) (e : Nat) (a : Hop) (b : List Int) : Option (List Int) := (ix b a.Segment).bind fun c => some (b.set c.1 (wr (c.2 + (Hr a d))))
def Pt (a : Plan) (d : Path) (b : Int) : Option Plan := (ix a.Ports d.In).bind fun c => (ix (a.Ports.set c.1 (wr (c.2 + b))) d.Out).bind fun e => (forS (Pt.B1 b) 0 d.Hops a.Rates).bind fun f => some (⟨f, ((a.Ports.set c.1 (wr (c.2 + b))).set e.1 (wr (e.2 - b))), a.Pumps⟩ : Plan)
def Pz.J1 (a : Unit) : Option Bool := some true
def Pz.B2 (s2_1 : List Hop) (c : Nat) (a : Hop) (d : Unit) : Option (Unit ⊕ (Bool)) := (ix s2_1 (c : Int)).bind fun b => if (!((a.Segment == b.2.Segment) && ((a.Back == b.2.Back) && true))) = true then some ((.inr (false))) else some (.inl ())
def Pz (s1_0 : List Hop) (s2_1 : List Hop) : Option Bool := if ((s1_0.length : Int) != (s2_1.length : Int)) = true then some false else (forL (Pz.B2 s2_1) 0 s1_0 ()).bind fun a => Sum.elim (fun c => Pz.J1 ()) (fun b => some b) a
def Px.J1 (a : Bool) : Option Bool := some a
def Px (a : Path) (b : Path) : Option Bool := if (a.In == b.In) = true then if (a.Out == b.Out) = true then (Pz a.Hops b.Hops).bind fun c => Px.J1 c else Px.J1 false else Px.J1 false
def Ua.J1 (a : Unit) : Option Int := some (-1)
def Ua.B2 (a : Path → Option Bool) (b : Nat) (c : Path) (e : Unit) : Option (Unit ⊕ (Int)) := (a c).bind fun d => if d = true then some ((.inr ((b : Int)))) else some (.inl ())
def Ua (a : List Path) (b : Path → Option Bool) : Option Int := (forL (Ua.B2 b) 0 a ()).bind fun c => Sum.elim (fun e => Ua.J1 ()) (fun d => some d) c
def Qb (a : Path) (b : Path) : Option Bool := (Px a b).bind fun c => some c
def Nl (a : List Path) (b : Path) : Option Int := (Ua a (fun x => Qb x b)).bind fun c => some c
def M2.J1 (a : List Path) : Option (List Path) := some a
def M2.J3 (a : List Path) : Option (List Path) := some a
def M2.B2 (b : List Path) (h : Nat) (a : Path) (c : List Path) : Option (List Path) := (Nl b a).bind fun d => if decide (d ≥ 0) = true then (ix b d).bind fun e => (P4 a (min a.Rate e.2.Rate)).bind fun f => (Da c ([f] : List Path)).bind fun g => M2.J3 g else M2.J3 c
def M2 (a : List Path) (b : List Path) : Option (List Path) := (forS (M2.B2 b) 0 a []).bind fun c => M2.J1 c
structure Valve where
 Travel : Int
 Open : Int
 Want : Bool
 Stuck : Bool
 deriving DecidableEq
def Au (x : Valve) : List T := [.v (.int .i64 x.Travel), .v (.int .i64 x.Open), .v (.bool x.Want), .v (.bool x.Stuck)]
structure Step where
 Kind : Int
 Index : Int
 Value : Int
 Path : Path
 deriving DecidableEq
def A6 (x : Step) : List T := [.v (.int .i64 x.Kind), .v (.int .i64 x.Index), .v (.int .i64 x.Value), .v (.int .i64 x.Path.In), .v (.int .i64 x.Path.Out), .list 2 (x.Path.Hops.map Bc), .v (.int .i64 x.Path.Rate)]
structure Lineup where
 Segments : List Bool
 Ports : List Bool
 deriving DecidableEq
def C8 (x : Lineup) : List T := [.list 1 (x.Segments.map rB), .list 1 (x.Ports.map rB)]
structure Desk where
 Valves : List Valve
 Plan : Plan
 deriving DecidableEq
def A7 (x : Desk) : List T := [.list 4 (x.Valves.map Au), .list 1 (x.Plan.Rates.map rI), .list 1 (x.Plan.Ports.map rI), .list 1 (x.Plan.Pumps.map rB)]
def Gl (a : Valve) : Bool := (decide (a.Travel ≥ 1) && (decide (a.Travel ≤ 60) && (decide (a.Open ≥ 0) && decide (a.Open ≤ a.Travel))))
def Et (a : Valve) : Int := if a.Want = true then a.Travel else 0
def Qd.J1 (a : Valve) (b : Int) : Valve := if ((a.Travel == a.Travel) && ((b == a.Open) && ((a.Want == a.Want) && ((a.Stuck == a.Stuck) && true)))) = true then a else (⟨a.Travel, b, a.Want, a.Stuck⟩ : Valve)
def Qd (a : Valve) (b : Int) : Valve := if a.Stuck = true then Qd.J1 a a.Open else if decide (a.Open < (Et a)) = true then Qd.J1 a (min (Et a) (wr (a.Open + b))) else Qd.J1 a (max (Et a) (wr (a.Open - b)))
def C0 (a : Valve) (b : Int) : (Valve × Int) := if (!(Gl a)) = true then (a, 20) else if (decide (b < 0) || decide (b > 400)) = true then (a, 1) else ((Qd a b), 0)
def Nv (a : Valve) : Bool := ((Gl a) && (a.Open == 0))
def Iu (a : Valve) : Bool := ((Gl a) && (a.Open == a.Travel))
def Il (a : Valve) : Int := if (!(Gl a)) = true then (-1) else if (a.Stuck && decide ((max (wr ((Et a) - a.Open)) (wr (a.Open - (Et a)))) > 0)) = true then (-1) else (max (wr ((Et a) - a.Open)) (wr (a.Open - (Et a))))
def P6 (a : Network) (c : Plan) (b : Int) : Option (Int × Int) := (Gj a c).bind fun d => if (d != 0) = true then some (0, d) else if (decide (b < 0) || decide (b ≥ (a.Nodes.length : Int))) = true then some (0, 8) else (Jd a c).bind fun e => (ix e.come.l b).bind fun f => some (f.2, 0)
def Qk (a : Valve) : Bool := ((Iu a) && a.Want)
def Nk (a : Network) (c : Plan) (d : Int) : Option Bool := (ix a.Stations d).bind fun e => (P6 a c e.2.Node).bind fun b => some ((b.2 == 0) && (b.1 != 0))
def Pu (a : Network) (b : Plan) (c : Int) : Option Bool := (Nk a b c).bind fun d => some d
def Nd.J1 (a : Int) : Option Int := some a
def Nd.J3 (a : Int) : Option Int := some a
def Nd.B2 (c : Nat) (a : Step) (b : Int) : Option Int := if ((a.Kind == 6) && (decide (a.Value ≥ 1) && decide (a.Value ≤ 100))) = true then Nd.J3 (wr (b + a.Value)) else Nd.J3 b
def Nd (a : List Step) : Option Int := (forS Nd.B2 0 a 0).bind fun b => Nd.J1 b
def Ps (a : Network) : Int := (wr ((a.Segments.length : Int) + (a.Ports.length : Int)))
def Pv (a : Lineup) : Option (List Bool) := (Da [] a.Segments).bind fun b => (Da b a.Ports).bind fun c => some c
def Ky.J1 (a : List Bool) : Option (List Bool) := some a
def Ky.B2 (d : Nat) (a : Int) (b : List Bool) : Option (List Bool) := (Da b ([(a != 0)] : List Bool)).bind fun c => some c
def Ky (a : List Int) : Option (List Bool) := (forS Ky.B2 0 a []).bind fun b => Ky.J1 b
def M5 (b : Network) (a : Plan) : Option (Lineup × Int) := (Gk b).bind fun c => if (c != 0) = true then some ((⟨[], []⟩ : Lineup), c) else (Gj b a).bind fun d => if (d != 0) = true then some ((⟨[], []⟩ : Lineup), d) else (Ky a.Rates).bind fun e => (Ky a.Ports).bind fun f => some ((⟨e, f⟩ : Lineup), 0)
def T7.J1 (a : Unit) : Option Int := some (-1)
def T7.B2 (a : Valve → Option Bool) (b : Nat) (c : Valve) (e : Unit) : Option (Unit ⊕ (Int)) := (a c).bind fun d => if d = true then some ((.inr ((b : Int)))) else some (.inl ())
def T7 (a : List Valve) (b : Valve → Option Bool) : Option Int := (forL (T7.B2 b) 0 a ()).bind fun c => Sum.elim (fun e => T7.J1 ()) (fun d => some d) c
def Ng (a : List Valve) (b : Valve → Option Bool) : Option Bool := (T7 a b).bind fun c => some (decide (c ≥ 0))
def Qa (a : Valve) : Bool := (!(Gl a))
def M3.J1 (a : Unit) : Option Bool := some false
def M3.J3 (a : Bool) : Option (Unit ⊕ (Bool)) := if a = true then some ((.inr (true))) else some (.inl ())
def M3.B2 (a : Network) (c : Plan) (b : Nat) (d : Bool) (f : Unit) : Option (Unit ⊕ (Bool)) := if d = true then if decide ((b : Int) < (a.Stations.length : Int)) = true then (Nk a c (b : Int)).bind fun e => M3.J3 (!e) else M3.J3 false else M3.J3 false
def M3 (b : Network) (a : Plan) : Option Bool := (forL (M3.B2 b a) 0 a.Pumps ()).bind fun c => Sum.elim (fun e => M3.J1 ()) (fun d => some d) c
def Na.J2 (a : Network) (b : Desk) (d : Unit) : Option Int := (M3 a b.Plan).bind fun c => if c = true then some 21 else some 0
def Na.J4 (a : Bool) : Option (Unit ⊕ (Int)) := if a = true then some ((.inr (21))) else some (.inl ())
def Na.B3 (b : Desk) (c : List Bool) (a : Nat) (f : Unit) : Option (Unit ⊕ (Int)) := (ix c (a : Int)).bind fun d => if d.2 = true then (ix b.Valves (a : Int)).bind fun e => Na.J4 (!(Qk e.2)) else Na.J4 false
def Na.J1 (b : Network) (a : Desk) (f : Bool) : Option Int := if f = true then some 20 else (Gj b a.Plan).bind fun d => if (d != 0) = true then some d else (M5 b a.Plan).bind fun c => if (c.2 != 0) = true then some c.2 else (Pv c.1).bind fun e => (forI (Na.B3 a e) 0 e.length ()).bind fun g => Sum.elim (fun i => Na.J2 b a ()) (fun h => some h) g
def Na (a : Network) (b : Desk) : Option Int := (Gk a).bind fun c => if (c != 0) = true then some c else if ((b.Valves.length : Int) != (Ps a)) = true then Na.J1 a b true else (Ng b.Valves (fun x => some (Qa x))).bind fun d => Na.J1 a b d
def K8.J1 (a : List Int) : Option (List Int) := some a
def K8.J3 (a : List Int) (b : Int) : Option (List Int) := (Da a ([b] : List Int)).bind fun c => some c
def K8.B2 (a : List Path) (f : Nat) (b : Path) (c : List Int) : Option (List Int) := (Nl a b).bind fun d => if decide (d ≥ 0) = true then (ix a d).bind fun e => K8.J3 c (min b.Rate e.2.Rate) else K8.J3 c 0
def K8 (a : List Path) (b : List Path) : Option (List Int) := (forS (K8.B2 b) 0 a []).bind fun c => K8.J1 c
def Mq.J2 (a : (List Int) × (List Int) × (List Bool)) : Option Plan := some (⟨a.1, a.2.1, a.2.2⟩ : Plan)
def Mq.B3 (d : List Path) (e : Nat) (a : (List Int) × (List Int) × (List Bool)) : Option ((List Int) × (List Int) × (List Bool)) := (ix d (e : Int)).bind fun c => (Pt (⟨a.1, a.2.1, a.2.2⟩ : Plan) c.2 c.2.Rate).bind fun b => some (b.Rates, b.Ports, b.Pumps)
def Mq.J1 (d : List Path) (e : List Path) (a : (List Int) × (List Int) × (List Bool)) : Option Plan := (M2 d e).bind fun c => (forJ (Mq.B3 c) 0 c.length (a.1, a.2.1, a.2.2)).bind fun b => Mq.J2 (b.1, b.2.1, b.2.2)
def Mq (a : Network) (b : List Path) (c : List Path) : Option Plan := (Rt (a.Segments.length : Int) (0 : Int)).bind fun d => (Rt (a.Ports.length : Int) (0 : Int)).bind fun e => (Rt (a.Stations.length : Int) false).bind fun f => Mq.J1 b c (d, e, f)
def P2.J1 (a : (List Step) × (List Step) × Int) : Option ((List Step) × Int × Bool) := (Da a.1 a.2.1).bind fun b => some (b, a.2.2, true)
def P2.J3 (a : (List Step) × (List Step) × Int) : Option (((List Step) × (List Step) × Int) ⊕ (((List Step) × Int × Bool))) := some (.inl (a.1, a.2.1, a.2.2))
def P2.J5 (a : Int) (g : List Bool) (e : Nat) (b : Valve) (c : (List Step) × (List Step) × Int) (f : Int × Bool) (h : Bool) : Option (((List Step) × (List Step) × Int) ⊕ (((List Step) × Int × Bool))) := if h = true then P2.J3 (c.1, c.2.1, c.2.2) else (ix g (e : Int)).bind fun d => if decide ((Il (⟨((C0 b (min a 60)).1).Travel, ((C0 b (min a 60)).1).Open, d.2, ((C0 b (min a 60)).1).Stuck⟩ : Valve)) < 0) = true then some ((.inr (([], 0, false)))) else if d.2 = true then (Da c.2.1 ([(⟨f.1, (e : Int), 0, (⟨0, 0, [], 0⟩ : Path)⟩ : Step)] : List Step)).bind fun i => P2.J3 (c.1, i, (max c.2.2 (Il (⟨((C0 b (min a 60)).1).Travel, ((C0 b (min a 60)).1).Open, d.2, ((C0 b (min a 60)).1).Stuck⟩ : Valve)))) else (Da c.1 ([(⟨f.1, (e : Int), 0, (⟨0, 0, [], 0⟩ : Path)⟩ : Step)] : List Step)).bind fun j => P2.J3 (j, c.2.1, (max c.2.2 (Il (⟨((C0 b (min a 60)).1).Travel, ((C0 b (min a 60)).1).Open, d.2, ((C0 b (min a 60)).1).Stuck⟩ : Valve))))
def P2.J4 (a : Int) (b : List Bool) (c : Nat) (d : Valve) (f : (List Step) × (List Step) × Int) (e : Int × Bool) : Option (((List Step) × (List Step) × Int) ⊕ (((List Step) × Int × Bool))) := if e.2 = true then (ix b (c : Int)).bind fun g => P2.J5 a b c d f e (((C0 d (min a 60)).1).Want == g.2) else P2.J5 a b c d f e false
def P2.B2 (a : Int) (c : List Bool) (d : Nat) (b : Valve) (e : (List Step) × (List Step) × Int) : Option (((List Step) × (List Step) × Int) ⊕ (((List Step) × Int × Bool))) := if (((C0 b (min a 60)).2) != 0) = true then some ((.inr (([], 0, false)))) else (ix c (d : Int)).bind fun f => if f.2 = true then P2.J4 a c d b e (1, (Iu ((C0 b (min a 60)).1))) else P2.J4 a c d b e (2, (Nv ((C0 b (min a 60)).1)))
def P2 (b : Desk) (c : Int) (d : List Bool) : Option ((List Step) × Int × Bool) := (forL (P2.B2 c d) 0 b.Valves ([], [], 0)).bind fun e => Sum.elim (fun a => P2.J1 (a.1, a.2.1, a.2.2)) (fun f => some f) e
def Ub (a : Network) (f : Desk) (g : Plan) (b : Int) (c : Int) : Option Int := (Na a f).bind fun d => if (d != 0) = true then some d else (Gj a g).bind fun e => if (e != 0) = true then some e else if (decide (b < 1) || (decide (b > 1000) || (decide (c < 0) || decide (c > 100)))) = true then some 1 else some 0
def K3.B1 (a : (List Step) × Int) : Option (((List Step) × Int) ⊕ ((List Step))) := if decide (a.2 > 0) = true then (Da a.1 ([(⟨6, 0, (min a.2 100), (⟨0, 0, [], 0⟩ : Path)⟩ : Step)] : List Step)).bind fun b => some (.inl (b, wr (a.2 - 100))) else some ((.inr (a.1)))
def K3 (a : Int) (b : List Step) : Option (List Step) := (Ch K3.B1 Dm (b, a)).bind fun c => some c
def Jk.B1 (b : Path) (d : Int) (c : Int) (e : Int) (f : List Hop) (a : (List Step) × Int) : Option (((List Step) × Int) ⊕ ((List Step))) := if decide (a.2 > 0) = true then (Da a.1 ([(⟨5, 0, wr (d * (min a.2 c)), (⟨b.In, b.Out, f, 0⟩ : Path)⟩ : Step)] : List Step)).bind fun g => (K3 e g).bind fun h => some (.inl (h, wr (a.2 - c))) else some ((.inr (a.1)))
def Jk (a : Path) (b : Int) (c : Int) (d : Int) (e : List Step) (f : Int) : Option (List Step) := (K5 a.Hops).bind fun g => (Ch (Jk.B1 a c d f g) Dm (e, b)).bind fun h => some h
def Fe.J5 (a : List Step) : Option ((List Step) × Int) := if decide ((a.length : Int) > 400) = true then some ([], 4) else some (a, 0)
def Fe.J7 (a : List Step) : Option (List Step) := some a
def Fe.J8 (b : Nat) (a : List Step) (c : Bool) : Option (List Step) := if c = true then (Da a ([(⟨3, (b : Int), 0, (⟨0, 0, [], 0⟩ : Path)⟩ : Step)] : List Step)).bind fun d => Fe.J7 d else Fe.J7 a
def Fe.B6 (c : (List Step) × (List Bool)) (a : Nat) (d : Bool) (b : List Step) : Option (List Step) := if d = true then (ix c.2 (a : Int)).bind fun e => Fe.J8 a b (!e.2) else Fe.J8 a b false
def Fe.J4 (a : Plan) (b : (List Step) × (List Bool)) (c : List Step) : Option ((List Step) × Int) := (forS (Fe.B6 b) 0 a.Pumps c).bind fun d => Fe.J5 d
def Fe.B9 (c : Int) (d : Int) (e : (List Path) × Int) (f : List Int) (a : Nat) (g : List Step) : Option (List Step) := (ix f (a : Int)).bind fun h => (ix e.1 (a : Int)).bind fun b => (Jk b.2 (wr (b.2.Rate - h.2)) 1 c g d).bind fun i => some i
def Fe.J3 (e : Desk) (f : Plan) (g : Int) (h : Int) (i : (List Path) × Int) (b : (List Path) × Int) (j : Lineup × Int) (k : (List Step) × (List Bool)) (c : List Step) : Option ((List Step) × Int) := (Nd c).bind fun l => (Pv j.1).bind fun m => (P2 e l m).bind fun a => if (!a.2.2) = true then some ([], 20) else (Da c a.1).bind fun n => (K3 a.2.1 n).bind fun o => (K8 b.1 i.1).bind fun d => (forJ (Fe.B9 g h b d) 0 d.length o).bind fun p => Fe.J4 f k p
def Fe.B10 (c : Int) (d : Int) (e : (List Path) × Int) (f : List Int) (a : Nat) (g : List Step) : Option (List Step) := (ix f (a : Int)).bind fun h => (ix e.1 (a : Int)).bind fun b => (Jk b.2 (wr (b.2.Rate - h.2)) (-1) c g d).bind fun i => some i
def Fe.J2 (g : Desk) (h : Plan) (b : Int) (c : Int) (a : (List Path) × Int) (d : (List Path) × Int) (i : Lineup × Int) (e : (List Step) × (List Bool)) : Option ((List Step) × Int) := (K8 a.1 d.1).bind fun f => (forJ (Fe.B10 b c a f) 0 f.length e.1).bind fun j => Fe.J3 g h b c a d i e j
def Fe.J12 (a : (List Step) × (List Bool)) : Option ((List Step) × (List Bool)) := some (a.1, a.2)
def Fe.J13 (b : Nat) (a : (List Step) × (List Bool)) (c : Nat × Bool) (d : Bool) : Option ((List Step) × (List Bool)) := if d = true then (Da a.1 ([(⟨4, (b : Int), 0, (⟨0, 0, [], 0⟩ : Path)⟩ : Step)] : List Step)).bind fun e => Fe.J12 (e, (a.2.set c.1 false)) else Fe.J12 (a.1, a.2)
def Fe.B11 (d : Network) (e : Plan) (f : Plan) (a : Nat) (b : (List Step) × (List Bool)) : Option ((List Step) × (List Bool)) := (ix b.2 (a : Int)).bind fun c => if c.2 = true then (ix e.Pumps (a : Int)).bind fun g => if (!g.2) = true then Fe.J13 a b c true else (Pu d f (a : Int)).bind fun h => Fe.J13 a b c (!h) else Fe.J13 a b c false
def Fe.J1 (a : Network) (d : Desk) (b : Plan) (i : Int) (j : Int) (e : (List Path) × Int) (f : (List Path) × Int) (l : Unit) : Option ((List Step) × Int) := (M5 a b).bind fun c => if (c.2 != 0) = true then some ([], c.2) else (Mq a e.1 f.1).bind fun k => (P5 d.Plan.Pumps).bind fun g => (forJ (Fe.B11 a b k) 0 g.length ([], g)).bind fun h => Fe.J2 d b i j e f c (h.1, h.2)
def Fe.J15 (a : Bool) : Option (Unit ⊕ (((List Step) × Int))) := if a = true then some ((.inr (([], 22)))) else some (.inl ())
def Fe.B14 (a : Network) (b : Plan) (c : Nat) (d : Bool) (f : Unit) : Option (Unit ⊕ (((List Step) × Int))) := if d = true then (Pu a b (c : Int)).bind fun e => Fe.J15 (!e) else Fe.J15 false
def Fe (a : Network) (c : Desk) (b : Plan) (f : Int) (g : Int) : Option ((List Step) × Int) := (Ub a c b f g).bind fun h => if (h != 0) = true then some ([], h) else (G3 a c.Plan).bind fun d => if (d.2 != 0) = true then some ([], d.2) else (G3 a b).bind fun e => if (e.2 != 0) = true then some ([], e.2) else (forL (Fe.B14 a b) 0 b.Pumps ()).bind fun i => Sum.elim (fun k => Fe.J1 a c b f g d e ()) (fun j => some j) i
def lL.J1 (c : Network) (d : Desk) (e : Int) (f : Int) (a : (List Int) × (List Int) × (List Bool)) : Option ((List Step) × Int) := (Fe c d (⟨a.1, a.2.1, a.2.2⟩ : Plan) e f).bind fun b => some (b.1, b.2)
def lL (a : Network) (b : Desk) (c : Int) (d : Int) : Option ((List Step) × Int) := (Rt (a.Segments.length : Int) (0 : Int)).bind fun e => (Rt (a.Ports.length : Int) (0 : Int)).bind fun f => (Rt (a.Stations.length : Int) false).bind fun g => lL.J1 a b c d (e, f, g)
def Ji.J1 (a : Int) : Option Int := some a
def Ji.J3 (a : Int) : Option Int := some a
def Ji.B2 (c : Nat) (a : Step) (b : Int) : Option Int := if (a.Kind == 5) = true then Ji.J3 (max (max b a.Value) (wr (0 - a.Value))) else Ji.J3 b
def Ji (a : List Step) : Option Int := (forS Ji.B2 0 a 0).bind fun b => Ji.J1 b
def Cl (a : Int) (b : Int) (c : Int) : Bool := (decide (a ≥ b) && decide (a ≤ c))
def P9.J3 (a : Network) (b : List ByteArray) (c : List ByteArray) (d : List ByteArray) : Option (Arr (List ByteArray) 4) := some (⟨[a.Nodes, b, c, d], rfl⟩ : Arr (List ByteArray) 4)
def P9.B4 (d : Nat) (a : Station) (b : List ByteArray) : Option (List ByteArray) := (Da b ([a.Name] : List ByteArray)).bind fun c => some c
def P9.J2 (a : Network) (b : List ByteArray) (c : List ByteArray) : Option (Arr (List ByteArray) 4) := (forS P9.B4 0 a.Stations []).bind fun d => P9.J3 a b c d
def P9.B5 (d : Nat) (a : Port) (b : List ByteArray) : Option (List ByteArray) := (Da b ([a.Name] : List ByteArray)).bind fun c => some c
def P9.J1 (a : Network) (b : List ByteArray) : Option (Arr (List ByteArray) 4) := (forS P9.B5 0 a.Ports []).bind fun c => P9.J2 a b c
def P9.B6 (d : Nat) (a : Segment) (b : List ByteArray) : Option (List ByteArray) := (Da b ([a.Name] : List ByteArray)).bind fun c => some c
def P9 (a : Network) : Option (Arr (List ByteArray) 4) := (forS P9.B6 0 a.Segments []).bind fun b => P9.J1 a b
def Uc.J2 (a : Unit) : Option Bool := some true
def Uc.J4 (a : Int) (b : Bool) : Option (Int ⊕ (Bool ⊕ Unit)) := if b = true then some ((.inr (.inl (false)))) else some (.inl (wr (a + 1)))
def Uc.B3 (c : ByteArray) (b : Int) : Option (Int ⊕ (Bool ⊕ Unit)) := if decide (b < (c.size : Int)) = true then (ixs c b).bind fun a => if decide (a.2 < 97) = true then if decide (a.2 < 48) = true then Uc.J4 b (a.2 != 45) else if decide (a.2 > 57) = true then Uc.J4 b (a.2 != 45) else Uc.J4 b false else if decide (a.2 > 122) = true then if decide (a.2 < 48) = true then Uc.J4 b (a.2 != 45) else if decide (a.2 > 57) = true then Uc.J4 b (a.2 != 45) else Uc.J4 b false else Uc.J4 b false else some ((.inr (.inr (()))))
def Uc.J1 (a : ByteArray) (b : Bool) : Option Bool := if b = true then some false else (Ch (Uc.B3 a) Dm 0).bind fun c => Sum.elim (fun d => some d) (fun e => Uc.J2 e) c
def Uc (a : ByteArray) : Option Bool := if decide ((a.size : Int) < 1) = true then Uc.J1 a true else if decide ((a.size : Int) > 12) = true then Uc.J1 a true else (ixs a 0).bind fun b => if decide (b.2 < 97) = true then Uc.J1 a true else Uc.J1 a (decide (b.2 > 122))
def Nw.J1 (a : Unit) : Option Bool := some false
def Nw.J3 (a : Unit) : Option (Unit ⊕ (Bool)) := some (.inl ())
def Nw.B4 (b : List ByteArray) (c : Nat) (d : ByteArray) (a : Int) : Option (Int ⊕ (Bool ⊕ Unit)) := if decide (a < (c : Int)) = true then (ix b a).bind fun e => if Wd d e.2 = true then some ((.inr (.inl (true)))) else some (.inl (wr (a + 1))) else some ((.inr (.inr (()))))
def Nw.B2 (a : List ByteArray) (b : Nat) (c : ByteArray) (g : Unit) : Option (Unit ⊕ (Bool)) := (Ch (Nw.B4 a b c) Dm 0).bind fun d => Sum.elim (fun e => some ((.inr (e)))) (fun f => Nw.J3 f) d
def Nw (a : List ByteArray) : Option Bool := (forL (Nw.B2 a) 0 a ()).bind fun b => Sum.elim (fun d => Nw.J1 ()) (fun c => some c) b
def Nf.J2 (a : Unit) : Option Bool := some true
def Nf.J4 (a : Bool) : Option (Unit ⊕ (Bool)) := if a = true then some ((.inr (false))) else some (.inl ())
def Nf.B3 (c : Segment) (b : Nat) (a : Point) (e : Unit) : Option (Unit ⊕ (Bool)) := if decide ((b : Int) > 0) = true then (ix c.Points (wr ((b : Int) - 1))).bind fun d => if decide (a.At ≤ d.2.At) = true then Nf.J4 true else if (!(Cl a.Height (-500) 5000)) = true then Nf.J4 true else Nf.J4 (!(Cl a.Limit 0 100000000)) else if (!(Cl a.Height (-500) 5000)) = true then Nf.J4 true else Nf.J4 (!(Cl a.Limit 0 100000000))
def Nf.J1 (a : Segment) (b : Bool) : Option Bool := if b = true then some false else (forL (Nf.B3 a) 0 a.Points ()).bind fun c => Sum.elim (fun e => Nf.J2 ()) (fun d => some d) c
def Nf (a : Segment) : Option Bool := if (a.From == a.To) = true then Nf.J1 a true else if (!(Cl a.Capacity 1 1000000)) = true then Nf.J1 a true else if (!(Cl a.Resist 0 1000)) = true then Nf.J1 a true else if (!(Cl a.Wave 0 100000)) = true then Nf.J1 a true else (ix a.Points 0).bind fun b => if (b.2.At != 0) = true then Nf.J1 a true else (ix a.Points (wr ((a.Points.length : Int) - 1))).bind fun c => Nf.J1 a (c.2.At != a.Capacity)
def G6.J10 (a : Network) (b : Unit) : Option Int := if ((!(Cl a.Vapour (-100000) 100000000)) || (!(Cl a.Settle 0 100))) = true then some 9 else some 0
def G6.B11 (b : Nat) (a : Station) (c : Unit) : Option (Unit ⊕ (Int)) := if ((!(Cl a.Head 0 100000000)) || ((!(Cl a.Fall 0 100000)) || (!(Cl a.Suction 0 100000000)))) = true then some ((.inr (9))) else some (.inl ())
def G6.J9 (a : Network) (d : Unit) : Option Int := (forL G6.B11 0 a.Stations ()).bind fun b => Sum.elim (fun e => G6.J10 a ()) (fun c => some c) b
def G6.B12 (b : Nat) (a : Port) (c : Unit) : Option (Unit ⊕ (Int)) := if (!(Cl a.Pressure 0 100000000)) = true then some ((.inr (9))) else some (.inl ())
def G6.J8 (a : Network) (d : Unit) : Option Int := (forL G6.B12 0 a.Ports ()).bind fun b => Sum.elim (fun e => G6.J9 a ()) (fun c => some c) b
def G6.B13 (c : Nat) (a : Segment) (d : Unit) : Option (Unit ⊕ (Int)) := (Nf a).bind fun b => if (!b) = true then some ((.inr (9))) else some (.inl ())
def G6.J7 (a : Network) (d : Unit) : Option Int := (forL G6.B13 0 a.Segments ()).bind fun b => Sum.elim (fun e => G6.J8 a ()) (fun c => some c) b
def G6.B14 (a : Network) (c : Nat) (b : Station) (d : Unit) : Option (Unit ⊕ (Int)) := if (!(Cl b.Node 0 (wr ((a.Nodes.length : Int) - 1)))) = true then some ((.inr (8))) else some (.inl ())
def G6.J6 (a : Network) (d : Unit) : Option Int := (forL (G6.B14 a) 0 a.Stations ()).bind fun b => Sum.elim (fun e => G6.J7 a ()) (fun c => some c) b
def G6.B15 (a : Network) (c : Nat) (b : Port) (d : Unit) : Option (Unit ⊕ (Int)) := if (!(Cl b.Node 0 (wr ((a.Nodes.length : Int) - 1)))) = true then some ((.inr (8))) else some (.inl ())
def G6.J5 (a : Network) (d : Unit) : Option Int := (forL (G6.B15 a) 0 a.Ports ()).bind fun b => Sum.elim (fun e => G6.J6 a ()) (fun c => some c) b
def G6.B16 (a : Network) (c : Nat) (b : Segment) (d : Unit) : Option (Unit ⊕ (Int)) := if ((!(Cl b.From 0 (wr ((a.Nodes.length : Int) - 1)))) || (!(Cl b.To 0 (wr ((a.Nodes.length : Int) - 1))))) = true then some ((.inr (8))) else some (.inl ())
def G6.J4 (a : Network) (d : Unit) : Option Int := (forL (G6.B16 a) 0 a.Segments ()).bind fun b => Sum.elim (fun e => G6.J5 a ()) (fun c => some c) b
def G6.J18 (a : Unit) : Option (Unit ⊕ (Int)) := some (.inl ())
def G6.B19 (b : Network) (c : Nat) (d : Station) (a : Int) : Option (Int ⊕ (Int ⊕ Unit)) := if decide (a < (c : Int)) = true then (ix b.Stations a).bind fun e => if (d.Node == e.2.Node) = true then some ((.inr (.inl (7)))) else some (.inl (wr (a + 1))) else some ((.inr (.inr (()))))
def G6.B17 (a : Network) (b : Nat) (c : Station) (g : Unit) : Option (Unit ⊕ (Int)) := (Ch (G6.B19 a b c) Dm 0).bind fun d => Sum.elim (fun e => some ((.inr (e)))) (fun f => G6.J18 f) d
def G6.J3 (a : Network) (d : Unit) : Option Int := (forL (G6.B17 a) 0 a.Stations ()).bind fun b => Sum.elim (fun e => G6.J4 a ()) (fun c => some c) b
def G6.B20 (a : Arr (List ByteArray) 4) (b : Nat) (e : Unit) : Option (Unit ⊕ (Int)) := (ix a.l (b : Int)).bind fun c => (Nw c.2).bind fun d => if d = true then some ((.inr (7))) else some (.inl ())
def G6.J2 (a : Network) (b : Arr (List ByteArray) 4) (e : Unit) : Option Int := (forI (G6.B20 b) 0 4 ()).bind fun c => Sum.elim (fun f => G6.J3 a ()) (fun d => some d) c
def G6.J22 (a : Unit) : Option (Unit ⊕ (Int)) := some (.inl ())
def G6.B23 (c : Nat) (a : ByteArray) (d : Unit) : Option (Unit ⊕ (Int)) := (Uc a).bind fun b => if (!b) = true then some ((.inr (3))) else some (.inl ())
def G6.B21 (a : Arr (List ByteArray) 4) (b : Nat) (f : Unit) : Option (Unit ⊕ (Int)) := (ix a.l (b : Int)).bind fun c => (forL G6.B23 0 c.2 ()).bind fun d => Sum.elim (fun g => G6.J22 ()) (fun e => some ((.inr (e)))) d
def G6.J1 (a : Network) (e : Unit) : Option Int := (P9 a).bind fun b => (forI (G6.B21 b) 0 4 ()).bind fun c => Sum.elim (fun f => G6.J2 a b ()) (fun d => some d) c
def G6.B24 (b : Nat) (a : Segment) (c : Unit) : Option (Unit ⊕ (Int)) := if (!(Cl (a.Points.length : Int) 2 8)) = true then some ((.inr (4))) else some (.inl ())
def G6 (a : Network) : Option Int := if ((!(Cl (a.Nodes.length : Int) 1 24)) || (decide ((a.Segments.length : Int) > 32) || (decide ((a.Ports.length : Int) > 24) || decide ((a.Stations.length : Int) > 12)))) = true then some 4 else (forL G6.B24 0 a.Segments ()).bind fun b => Sum.elim (fun d => G6.J1 a ()) (fun c => some c) b
def Iv (a : Segment) (b : Int) : (Int × Int) := if decide (b < 0) = true then (a.To, a.From) else (a.From, a.To)
def Jm.J2 (a : Int × Int) : Option (Int × Int) := some (a.1, a.2)
def Jm.J4 (a : Int × Int) : Option (Int × Int) := some (a.1, a.2)
def Jm.B3 (c : Plan) (d : Int) (e : Nat) (f : Port) (a : Int × Int) : Option (Int × Int) := if (f.Node == d) = true then (ix c.Ports (e : Int)).bind fun b => Jm.J4 (wr (a.1 + (max 0 b.2)), wr (a.2 + (max 0 (wr (0 - b.2))))) else Jm.J4 (a.1, a.2)
def Jm.J1 (c : Network) (d : Plan) (e : Int) (a : Int × Int) : Option (Int × Int) := (forS (Jm.B3 d e) 0 c.Ports (a.1, a.2)).bind fun b => Jm.J2 (b.1, b.2)
def Jm.J6 (a : Int × Int) : Option (Int × Int) := some (a.1, a.2)
def Jm.J7 (d : Int) (e : Segment) (a : Int × Int) (b : Nat × Int) (c : Int) : Option (Int × Int) := if (((Iv e b.2).2) == d) = true then Jm.J6 (wr (a.1 + (Jh b.2)), c) else Jm.J6 (a.1, c)
def Jm.B5 (e : Plan) (c : Int) (f : Nat) (d : Segment) (a : Int × Int) : Option (Int × Int) := (ix e.Rates (f : Int)).bind fun b => if (b.2 == 0) = true then Jm.J6 (a.1, a.2) else if (((Iv d b.2).1) == c) = true then Jm.J7 c d a b (wr (a.2 + (Jh b.2))) else Jm.J7 c d a b a.2
def Jm (a : Network) (b : Plan) (c : Int) : Option (Int × Int) := (forS (Jm.B5 b c) 0 a.Segments (0, 0)).bind fun d => Jm.J1 a b c (d.1, d.2)
def Qm.J2 (a : (List Int) × (List Bool)) (b : Int) : Option (((List Int) × (List Bool)) ⊕ ((List Int))) := if decide (b < 0) = true then some ((.inr (a.1))) else (Da a.1 ([b] : List Int)).bind fun c => (ix a.2 b).bind fun d => some (.inl (c, (a.2.set d.1 true)))
def Qm.J4 (a : Int) : Option Int := some a
def Qm.J5 (b : Nat) (a : Int) (c : Bool) : Option Int := if (c && decide (a < 0)) = true then Qm.J4 (b : Int) else Qm.J4 a
def Qm.J7 (a : Bool) : Option Bool := some a
def Qm.B6 (d : Plan) (e : (List Int) × (List Bool)) (f : Nat) (g : Nat) (b : Segment) (c : Bool) : Option Bool := (ix d.Rates (g : Int)).bind fun a => if (a.2 != 0) = true then if c = true then if (((Iv b a.2).2) != (f : Int)) = true then Qm.J7 true else (ix e.2 ((Iv b a.2).1)).bind fun h => Qm.J7 h.2 else Qm.J7 false else Qm.J7 c
def Qm.B3 (c : Network) (d : Plan) (b : (List Int) × (List Bool)) (a : Nat) (h : ByteArray) (e : Int) : Option Int := (ix b.2 (a : Int)).bind fun f => (forS (Qm.B6 d b a) 0 c.Segments (!f.2)).bind fun g => Qm.J5 a e g
def Qm.B1 (a : Network) (c : Plan) (b : (List Int) × (List Bool)) : Option (((List Int) × (List Bool)) ⊕ ((List Int))) := (forS (Qm.B3 a c b) 0 a.Nodes (-1)).bind fun d => Qm.J2 b d
def Qm (a : Network) (b : Plan) : Option (List Int) := (Rt (a.Nodes.length : Int) false).bind fun c => (Ch (Qm.B1 a b) Dm ([], c)).bind fun d => some d
def Fo.J3 (a : Network) (b : Plan) (d : Unit) : Option Int := (Qm a b).bind fun c => if ((c.length : Int) != (a.Nodes.length : Int)) = true then some 13 else some 0
def Fo.B4 (b : Network) (c : Plan) (d : Nat) (e : ByteArray) (f : Unit) : Option (Unit ⊕ (Int)) := (Jm b c (d : Int)).bind fun a => if (a.1 != a.2) = true then some ((.inr (12))) else some (.inl ())
def Fo.J2 (a : Network) (b : Plan) (e : Unit) : Option Int := (forL (Fo.B4 a b) 0 a.Nodes ()).bind fun c => Sum.elim (fun f => Fo.J3 a b ()) (fun d => some d) c
def Fo.B5 (b : Nat) (a : Int) (c : Unit) : Option (Unit ⊕ (Int)) := if (decide (a < (-1000)) || decide (a > 1000)) = true then some ((.inr (1))) else some (.inl ())
def Fo.J1 (b : Network) (a : Plan) (e : Unit) : Option Int := (forL Fo.B5 0 a.Ports ()).bind fun c => Sum.elim (fun f => Fo.J2 b a ()) (fun d => some d) c
def Fo.B6 (c : Network) (d : Nat) (a : Int) (e : Unit) : Option (Unit ⊕ (Int)) := (ix c.Segments (d : Int)).bind fun b => if (decide (a < (wr (0 - (min 1000 b.2.Capacity)))) || decide (a > (min 1000 b.2.Capacity))) = true then some ((.inr (1))) else some (.inl ())
def Fo (a : Network) (b : Plan) : Option Int := (G6 a).bind fun c => if (c != 0) = true then some c else if (((b.Rates.length : Int) != (a.Segments.length : Int)) || (((b.Ports.length : Int) != (a.Ports.length : Int)) || ((b.Pumps.length : Int) != (a.Stations.length : Int)))) = true then some 9 else (forL (Fo.B6 a) 0 b.Rates ()).bind fun d => Sum.elim (fun f => Fo.J1 a b ()) (fun e => some e) d
def Nn (a : Network) (c : Plan) (b : Int) : Option (Int × Int) := (Fo a c).bind fun d => if (d != 0) = true then some (0, d) else if (decide (b < 0) || decide (b ≥ (a.Nodes.length : Int))) = true then some (0, 8) else (Jm a c b).bind fun e => some (e.1, 0)
def G4 (a : Valve) : Bool := (decide (a.Travel ≥ 1) && (decide (a.Travel ≤ 60) && (decide (a.Open ≥ 0) && decide (a.Open ≤ a.Travel))))
def Jf (a : Valve) : Bool := ((G4 a) && (a.Open == a.Travel))
def Ht.J1 (a : Valve) (b : Int) : (Valve × Int) := ((⟨a.Travel, b, a.Want, a.Stuck⟩ : Valve), 0)
def Ht (a : Valve) : (Valve × Int) := if (!(G4 a)) = true then (a, 20) else if a.Stuck = true then (a, 0) else if (a.Want && decide (a.Open < a.Travel)) = true then Ht.J1 a (wr (a.Open + 1)) else if ((!a.Want) && decide (a.Open > 0)) = true then Ht.J1 a (wr (a.Open - 1)) else Ht.J1 a a.Open
def Nq.J1 (a : Int × Int × Bool × Bool) : Option (Valve × Int) := some ((⟨a.1, a.2.1, a.2.2.1, a.2.2.2⟩ : Valve), 0)
def Nq.B2 (b : Int) (a : Int × Int × Bool × Bool × Int) : Option ((Int × Int × Bool × Bool × Int) ⊕ ((Int × Int × Bool × Bool))) := if decide (a.2.2.2.2 < b) = true then some (.inl (((Ht (⟨a.1, a.2.1, a.2.2.1, a.2.2.2.1⟩ : Valve)).1).Travel, ((Ht (⟨a.1, a.2.1, a.2.2.1, a.2.2.2.1⟩ : Valve)).1).Open, ((Ht (⟨a.1, a.2.1, a.2.2.1, a.2.2.2.1⟩ : Valve)).1).Want, ((Ht (⟨a.1, a.2.1, a.2.2.1, a.2.2.2.1⟩ : Valve)).1).Stuck, wr (a.2.2.2.2 + 1))) else some ((.inr ((a.1, a.2.1, a.2.2.1, a.2.2.2.1))))
def Nq (a : Valve) (b : Int) : Option (Valve × Int) := if (!(G4 a)) = true then some (a, 20) else if (decide (b < 0) || decide (b > 400)) = true then some (a, 1) else (Ch (Nq.B2 b) Dm (a.Travel, a.Open, a.Want, a.Stuck, 0)).bind fun c => Nq.J1 c
def K7 (a : Valve) (b : Bool) : (Valve × Int) := if (!(G4 a)) = true then (a, 20) else ((⟨a.Travel, a.Open, b, a.Stuck⟩ : Valve), 0)
def K6 (a : Lineup) : Option (List Bool) := (Da ([] : List Bool) a.Segments).bind fun b => (Da b a.Ports).bind fun c => some c
def Je.J2 (a : List Bool) (b : List Bool) : Option Lineup := some (⟨a, b⟩ : Lineup)
def Je.B3 (b : Plan) (a : (List Bool) × Int) : Option (((List Bool) × Int) ⊕ ((List Bool))) := if decide (a.2 < (b.Ports.length : Int)) = true then (ix b.Ports a.2).bind fun c => (Da a.1 ([(c.2 != 0)] : List Bool)).bind fun d => some (.inl (d, wr (a.2 + 1))) else some ((.inr (a.1)))
def Je.J1 (a : Plan) (b : List Bool) : Option Lineup := (Ch (Je.B3 a) Dm ([], 0)).bind fun c => Je.J2 b c
def Je.B4 (b : Plan) (a : (List Bool) × Int) : Option (((List Bool) × Int) ⊕ ((List Bool))) := if decide (a.2 < (b.Rates.length : Int)) = true then (ix b.Rates a.2).bind fun c => (Da a.1 ([(c.2 != 0)] : List Bool)).bind fun d => some (.inl (d, wr (a.2 + 1))) else some ((.inr (a.1)))
def Je (a : Plan) : Option Lineup := (Ch (Je.B4 a) Dm ([], 0)).bind fun b => Je.J1 a b
def Qj (a : Network) : Int := (wr ((a.Segments.length : Int) + (a.Ports.length : Int)))
def Nt.J1 (a : Unit) : Option Int := some 0
def Nt.B2 (b : List Valve) (a : Int) : Option (Int ⊕ (Int ⊕ Unit)) := if decide (a < (b.length : Int)) = true then (ix b a).bind fun c => if (!(G4 c.2)) = true then some ((.inr (.inl (20)))) else some (.inl (wr (a + 1))) else some ((.inr (.inr (()))))
def Nt (b : Network) (a : List Valve) : Option Int := if ((a.length : Int) != (Qj b)) = true then some 20 else (Ch (Nt.B2 a) Dm 0).bind fun c => Sum.elim (fun d => some d) (fun e => Nt.J1 e) c
def Np.J1 (a : (List Int) × (List Int) × (List Bool)) : Option Plan := some (⟨a.1, a.2.1, a.2.2⟩ : Plan)
def Np (a : Plan) : Option Plan := (Da ([] : List Int) a.Rates).bind fun b => (Da ([] : List Int) a.Ports).bind fun c => (Da ([] : List Bool) a.Pumps).bind fun d => Np.J1 (b, c, d)
def Nb (a : Path) : Option Path := (Da ([] : List Hop) a.Hops).bind fun b => some (⟨a.In, a.Out, b, a.Rate⟩ : Path)
def Mw (c : Network) (b : Hop) : Option (Int × Int) := (ix c.Segments b.Segment).bind fun a => if b.Back = true then some (a.2.To, a.2.From) else some (a.2.From, a.2.To)
def Kx.J1 (a : Network) (b : Path) (c : Int) : Option Bool := (ix a.Ports b.Out).bind fun d => some (c == d.2.Node)
def Kx.J3 (b : Int × (List Int) × Int) (a : Int × (List Int)) : Option ((Int × (List Int) × Int) ⊕ (Bool ⊕ Int)) := some (.inl (a.1, a.2, wr (b.2.2 + 1)))
def Kx.J5 (a : Int × (List Int) × Int) (b : Int × Int) (d : Unit) : Option ((Int × (List Int) × Int) ⊕ (Bool ⊕ Int)) := (Da a.2.1 ([b.2] : List Int)).bind fun c => Kx.J3 a (b.2, c)
def Kx.B6 (b : Int × (List Int) × Int) (c : Int × Int) (a : Int) : Option (Int ⊕ (Bool ⊕ Unit)) := if decide (a < (b.2.1.length : Int)) = true then (ix b.2.1 a).bind fun d => if (d.2 == c.2) = true then some ((.inr (.inl (false)))) else some (.inl (wr (a + 1))) else some ((.inr (.inr (()))))
def Kx.J4 (c : Network) (d : Path) (a : Int × (List Int) × Int) (e : Bool) : Option ((Int × (List Int) × Int) ⊕ (Bool ⊕ Int)) := if e = true then some ((.inr (.inl (false)))) else (ix d.Hops a.2.2).bind fun f => (Mw c f.2).bind fun b => if (b.1 != a.1) = true then some ((.inr (.inl (false)))) else (Ch (Kx.B6 a b) Dm 0).bind fun g => Sum.elim (fun h => some ((.inr (.inl (h))))) (fun i => Kx.J5 a b i) g
def Kx.B2 (c : Network) (b : Path) (a : Int × (List Int) × Int) : Option ((Int × (List Int) × Int) ⊕ (Bool ⊕ Int)) := if decide (a.2.2 < (b.Hops.length : Int)) = true then (ix b.Hops a.2.2).bind fun d => if decide (d.2.Segment < 0) = true then Kx.J4 c b a true else Kx.J4 c b a (decide (d.2.Segment ≥ (c.Segments.length : Int))) else some ((.inr (.inr (a.1))))
def Kx (b : Network) (a : Path) : Option Bool := if (decide (a.In < 0) || (decide (a.In ≥ (b.Ports.length : Int)) || (decide (a.Out < 0) || (decide (a.Out ≥ (b.Ports.length : Int)) || ((a.In == a.Out) || (decide (a.Rate < 1) || (decide (a.Rate > 1000) || decide ((a.Hops.length : Int) > 32)))))))) = true then some false else (ix b.Ports a.In).bind fun c => (Ch (Kx.B2 b a) Dm (c.2.Node, ([c.2.Node] : List Int), 0)).bind fun d => Sum.elim (fun e => some e) (fun f => Kx.J1 b a f) d
def M4.J1 (a : Bool) : Option Bool := some a
def M4 (a : Network) (b : Path) : Option Bool := (G6 a).bind fun c => if (c == 0) = true then (Kx a b).bind fun d => M4.J1 d else M4.J1 false
def Hq (a : Desk) : Option Desk := (Da ([] : List Valve) a.Valves).bind fun b => (Np a.Plan).bind fun c => some (⟨b, c⟩ : Desk)
def Nr (a : Path) : Bool := ((a.In == 0) && ((a.Out == 0) && (((a.Hops.length : Int) == 0) && (a.Rate == 0))))
def Pc.J1 (a : Step) (b : Bool) : Bool := if b = true then ((a.Value == 0) && (Nr a.Path)) else if (a.Kind == 5) = true then ((a.Index == 0) && (a.Path.Rate == 0)) else if (a.Kind == 6) = true then ((a.Index == 0) && (Nr a.Path)) else false
def Pc (a : Step) : Bool := if (a.Kind == 1) = true then Pc.J1 a (a.Kind == 1) else if (a.Kind == 2) = true then Pc.J1 a (a.Kind == 2) else if (a.Kind == 3) = true then Pc.J1 a (a.Kind == 3) else Pc.J1 a (a.Kind == 4)
def Jj.J1 (a : Unit) : Option Bool := some true
def Jj.J3 (a : Int) (b : Unit) : Option (Int ⊕ (Bool ⊕ Unit)) := some (.inl (wr (a + 1)))
def Jj.B2 (b : Network) (c : Plan) (a : Int) : Option (Int ⊕ (Bool ⊕ Unit)) := if decide (a < (b.Stations.length : Int)) = true then (ix c.Pumps a).bind fun e => if e.2 = true then (ix b.Stations a).bind fun f => (Nn b c f.2.Node).bind fun d => if ((d.2 != 0) || (d.1 == 0)) = true then some ((.inr (.inl (false)))) else Jj.J3 a () else Jj.J3 a () else some ((.inr (.inr (()))))
def Jj (a : Network) (b : Plan) : Option Bool := (Ch (Jj.B2 a b) Dm 0).bind fun c => Sum.elim (fun d => some d) (fun e => Jj.J1 e) c
def Mu.J1 (a : Network) (b : Desk) (d : Unit) : Option Int := (Jj a b.Plan).bind fun c => if (!c) = true then some 21 else some 0
def Mu.J3 (a : Int) (b : Bool) : Option (Int ⊕ (Int ⊕ Unit)) := if b = true then some ((.inr (.inl (21)))) else some (.inl (wr (a + 1)))
def Mu.B2 (d : Desk) (b : List Bool) (a : Int) : Option (Int ⊕ (Int ⊕ Unit)) := if decide (a < (b.length : Int)) = true then (ix b a).bind fun e => if e.2 = true then (ix d.Valves a).bind fun c => if (!(Jf c.2)) = true then Mu.J3 a true else Mu.J3 a (!c.2.Want) else Mu.J3 a false else some ((.inr (.inr (()))))
def Mu (b : Network) (a : Desk) : Option Int := (G6 b).bind fun c => if (c != 0) = true then some c else (Nt b a.Valves).bind fun d => if (d != 0) = true then some d else (Fo b a.Plan).bind fun e => if (e != 0) = true then some e else (Je a.Plan).bind fun f => (K6 f).bind fun g => (Ch (Mu.B2 a g) Dm 0).bind fun h => Sum.elim (fun i => some i) (fun j => Mu.J1 b a j) h
def Qe.J1 (b : Desk) (c : Step) (e : Bool) : Option (Desk × Int) := if e = true then some (b, 22) else (Hq b).bind fun a => (ix a.Valves c.Index).bind fun d => some ((⟨(a.Valves.set d.1 ((K7 d.2 (c.Kind == 1)).1)), a.Plan⟩ : Desk), 0)
def Qe (b : Desk) (a : Step) : Option (Desk × Int) := if (decide (a.Index < 0) || decide (a.Index ≥ (b.Valves.length : Int))) = true then some (b, 8) else if (a.Kind == 2) = true then (Je b.Plan).bind fun c => (K6 c).bind fun d => (ix d a.Index).bind fun e => Qe.J1 b a e.2 else Qe.J1 b a false
def P8 (d : Network) (c : Desk) (b : Step) : Option (Desk × Int) := if (decide (b.Index < 0) || decide (b.Index ≥ (d.Stations.length : Int))) = true then some (c, 8) else (Hq c).bind fun a => (ix a.Plan.Pumps b.Index).bind fun e => (Jj d (⟨a.Plan.Rates, a.Plan.Ports, (a.Plan.Pumps.set e.1 (b.Kind == 3))⟩ : Plan)).bind fun f => if (!f) = true then some (c, 22) else some ((⟨a.Valves, (⟨a.Plan.Rates, a.Plan.Ports, (a.Plan.Pumps.set e.1 (b.Kind == 3))⟩ : Plan)⟩ : Desk), 0)
def Mz.J2 (a : Unit) : Option Bool := some true
def Mz.J4 (a : Int) (b : Bool) : Option (Int ⊕ (Bool ⊕ Unit)) := if b = true then some ((.inr (.inl (false)))) else some (.inl (wr (a + 1)))
def Mz.B3 (d : Desk) (b : List Int) (a : Int) : Option (Int ⊕ (Bool ⊕ Unit)) := if decide (a < (b.length : Int)) = true then (ix b a).bind fun e => (ix d.Valves e.2).bind fun c => if (!(Jf c.2)) = true then Mz.J4 a true else Mz.J4 a (!c.2.Want) else some ((.inr (.inr (()))))
def Mz.J1 (a : Desk) (b : List Int) : Option Bool := (Ch (Mz.B3 a b) Dm 0).bind fun c => Sum.elim (fun d => some d) (fun e => Mz.J2 e) c
def Mz.B5 (b : Path) (a : (List Int) × Int) : Option (((List Int) × Int) ⊕ ((List Int))) := if decide (a.2 < (b.Hops.length : Int)) = true then (ix b.Hops a.2).bind fun c => (Da a.1 ([c.2.Segment] : List Int)).bind fun d => some (.inl (d, wr (a.2 + 1))) else some ((.inr (a.1)))
def Mz (b : Network) (c : Desk) (a : Path) : Option Bool := (Ch (Mz.B5 a) Dm (([wr ((b.Segments.length : Int) + a.In), wr ((b.Segments.length : Int) + a.Out)] : List Int), 0)).bind fun d => Mz.J1 c d
def T9.J2 (f : Network) (g : Desk) (b : Step) (a : Desk) (c : Nat × Int) (d : Nat × Int) (e : List Int) : Option (Desk × Int) := (Fo f (⟨e, ((a.Plan.Ports.set c.1 (wr (c.2 + b.Value))).set d.1 (wr (d.2 - b.Value))), a.Plan.Pumps⟩ : Plan)).bind fun h => if (h != 0) = true then some (g, h) else (Jj f (⟨e, ((a.Plan.Ports.set c.1 (wr (c.2 + b.Value))).set d.1 (wr (d.2 - b.Value))), a.Plan.Pumps⟩ : Plan)).bind fun i => if (!i) = true then some (g, 22) else some ((⟨a.Valves, (⟨e, ((a.Plan.Ports.set c.1 (wr (c.2 + b.Value))).set d.1 (wr (d.2 - b.Value))), a.Plan.Pumps⟩ : Plan)⟩ : Desk), 0)
def T9.J4 (d : Desk) (e : Step) (b : (List Int) × Int) (f : Nat × Hop) (a : Int) : Option (((List Int) × Int) ⊕ ((Desk × Int) ⊕ (List Int))) := (ix d.Plan.Rates f.2.Segment).bind fun c => if (decide ((wr (a * c.2)) < 0) || decide ((wr ((wr (a * c.2)) + e.Value)) < 0)) = true then some ((.inr (.inl ((d, 22))))) else (ix b.1 f.2.Segment).bind fun g => some (.inl ((b.1.set g.1 (wr (a * (wr ((wr (a * c.2)) + e.Value))))), wr (b.2 + 1)))
def T9.B3 (c : Desk) (d : Step) (e : Path) (a : (List Int) × Int) : Option (((List Int) × Int) ⊕ ((Desk × Int) ⊕ (List Int))) := if decide (a.2 < (e.Hops.length : Int)) = true then (ix e.Hops a.2).bind fun b => if b.2.Back = true then T9.J4 c d a b (-1) else T9.J4 c d a b 1 else some ((.inr (.inr (a.1))))
def T9.J1 (d : Network) (a : Desk) (b : Step) (e : Path) (c : Desk) (f : Nat × Int) (g : Nat × Int) (h : Bool) : Option (Desk × Int) := if h = true then some (a, 22) else (Ch (T9.B3 a b e) Dm (c.Plan.Rates, 0)).bind fun i => Sum.elim (fun j => some j) (fun k => T9.J2 d a b c f g k) i
def T9 (g : Network) (c : Desk) (a : Step) : Option (Desk × Int) := if (decide (a.Value < (-1000)) || decide (a.Value > 1000)) = true then some (c, 23) else (Nb a.Path).bind fun b => (M4 g (⟨b.In, b.Out, b.Hops, (max a.Value (wr (0 - a.Value)))⟩ : Path)).bind fun h => if (!h) = true then some (c, 23) else (Hq c).bind fun e => (Mz g e (⟨b.In, b.Out, b.Hops, (max a.Value (wr (0 - a.Value)))⟩ : Path)).bind fun i => if (!i) = true then some (c, 22) else (ix e.Plan.Ports b.In).bind fun d => (ix (e.Plan.Ports.set d.1 (wr (d.2 + a.Value))) b.Out).bind fun f => (ix ((e.Plan.Ports.set d.1 (wr (d.2 + a.Value))).set f.1 (wr (f.2 - a.Value))) b.In).bind fun j => if decide (j.2 < 0) = true then T9.J1 g c a b e d f true else (ix ((e.Plan.Ports.set d.1 (wr (d.2 + a.Value))).set f.1 (wr (f.2 - a.Value))) b.Out).bind fun k => if decide (k.2 > 0) = true then T9.J1 g c a b e d f true else (ix c.Plan.Ports b.In).bind fun l => if decide (l.2 < 0) = true then T9.J1 g c a b e d f true else (ix c.Plan.Ports b.Out).bind fun m => T9.J1 g c a b e d f (decide (m.2 > 0))
def Es.J3 (a : Desk) (b : List Valve) : Option (Desk × Int) := some ((⟨b, a.Plan⟩ : Desk), 0)
def Es.B4 (c : Step) (a : (List Valve) × Int) : Option (((List Valve) × Int) ⊕ ((List Valve))) := if decide (a.2 < (a.1.length : Int)) = true then (ix a.1 a.2).bind fun b => (Nq b.2 c.Value).bind fun d => some (.inl ((a.1.set b.1 d.1), wr (a.2 + 1))) else some ((.inr (a.1)))
def Es.J2 (c : Network) (b : Desk) (a : Step) (g : Bool) : Option (Desk × Int) := if g = true then (P8 c b a).bind fun d => some (d.1, d.2) else if (a.Kind == 5) = true then (T9 c b a).bind fun e => some (e.1, e.2) else if (decide (a.Value < 1) || decide (a.Value > 100)) = true then some (b, 1) else (Hq b).bind fun f => (Ch (Es.B4 a) Dm (f.Valves, 0)).bind fun h => Es.J3 f h
def Es.J1 (c : Network) (b : Desk) (a : Step) (e : Bool) : Option (Desk × Int) := if e = true then (Qe b a).bind fun d => some (d.1, d.2) else if (a.Kind == 3) = true then Es.J2 c b a (a.Kind == 3) else Es.J2 c b a (a.Kind == 4)
def Es (c : Network) (b : Desk) (a : Step) : Option (Desk × Int) := (Mu c b).bind fun d => if (d != 0) = true then some (b, d) else if (!(Pc a)) = true then some (b, 22) else if (a.Kind == 1) = true then Es.J1 c b a (a.Kind == 1) else Es.J1 c b a (a.Kind == 2)
def Wo.J2 (a : (List Int) × (List Int) × (List Bool)) (b : List Valve) : Option (Desk × Int) := some ((⟨b, (⟨a.1, a.2.1, a.2.2⟩ : Plan)⟩ : Desk), 0)
def Wo.B3 (b : Network) (c : Int) (a : (List Valve) × Int) : Option (((List Valve) × Int) ⊕ ((List Valve))) := if decide (a.2 < (Qj b)) = true then (Da a.1 ([(⟨c, 0, false, false⟩ : Valve)] : List Valve)).bind fun d => some (.inl (d, wr (a.2 + 1))) else some ((.inr (a.1)))
def Wo.J1 (a : Network) (b : Int) (c : (List Int) × (List Int) × (List Bool)) : Option (Desk × Int) := (Ch (Wo.B3 a b) Dm ([], 0)).bind fun d => Wo.J2 c d
def Wo (a : Network) (b : Int) : Option (Desk × Int) := (G6 a).bind fun c => if (c != 0) = true then some ((⟨[], (⟨[], [], []⟩ : Plan)⟩ : Desk), c) else if (decide (b < 1) || decide (b > 60)) = true then some ((⟨[], (⟨[], [], []⟩ : Plan)⟩ : Desk), 20) else (Rt (a.Segments.length : Int) (0 : Int)).bind fun d => (Rt (a.Ports.length : Int) (0 : Int)).bind fun e => (Rt (a.Stations.length : Int) false).bind fun f => Wo.J1 a b (d, e, f)
def K2 (a : List Int) : Bool := (decide ((a.length : Int) ≤ 400))
def Iq.J1 (a : Desk) (b : List Valve) : Option Desk := some (⟨b, a.Plan⟩ : Desk)
def Iq.B2 (a : (List Valve) × Int) : Option (((List Valve) × Int) ⊕ ((List Valve))) := if decide (a.2 < (a.1.length : Int)) = true then (ix a.1 a.2).bind fun b => some (.inl ((a.1.set b.1 (⟨b.2.Travel, b.2.Open, b.2.Want, false⟩ : Valve)), wr (a.2 + 1))) else some ((.inr (a.1)))
def Iq (b : Desk) : Option Desk := (Hq b).bind fun a => (Ch Iq.B2 Dm (a.Valves, 0)).bind fun c => Iq.J1 a c
def Ns.J1 (a : Plan) (b : List Bool) : Option Plan := some (⟨a.Rates, a.Ports, b⟩ : Plan)
def Ns.J3 (a : (List Bool) × Int) (b : List Bool) : Option (((List Bool) × Int) ⊕ ((List Bool))) := some (.inl (b, wr (a.2 + 1)))
def Ns.B2 (c : Network) (e : Plan) (a : (List Bool) × Int) : Option (((List Bool) × Int) ⊕ ((List Bool))) := if (decide (a.2 < (c.Stations.length : Int)) && decide (a.2 < (a.1.length : Int))) = true then (ix c.Stations a.2).bind fun f => (Nn c e f.2.Node).bind fun d => (ix a.1 a.2).bind fun b => if b.2 = true then if (d.2 == 0) = true then Ns.J3 a (a.1.set b.1 (decide (d.1 > 0))) else Ns.J3 a (a.1.set b.1 false) else Ns.J3 a (a.1.set b.1 false) else some ((.inr (a.1)))
def Ns (c : Network) (a : Plan) : Option Plan := (Np a).bind fun b => (Ch (Ns.B2 c a) Dm (b.Pumps, 0)).bind fun d => Ns.J1 b d
def Fp (c : KS) (a : Network) : Option (Plan × KS) := (P7 c a).bind fun b => (Ns a b.1).bind fun d => some (d, b.2)
def Pw (f : KS) : Option (Valve × KS) := (Em f ([1, 2, 3, 6, 60] : List Int)).bind fun a => (Ec a.2 2).bind fun b => (Ec b.2 8).bind fun c => (Ec c.2 (wr (a.1 + 1))).bind fun d => (Em d.2 ([0, a.1, d.1] : List Int)).bind fun e => some ((⟨a.1, e.1, (b.1 == 0), (c.1 == 7)⟩ : Valve), e.2)
def Ip.J1 (b : Plan) (a : (List Int) × Int × (List Valve)) : Option (Desk × KS) := some ((⟨a.2.2, b⟩ : Desk), (⟨a.1, a.2.1⟩ : KS))
def Ip.J3 (b : (List Int) × Int × (List Valve) × Int) (a : Valve × KS) (c : Int × Bool) : Option (((List Int) × Int × (List Valve) × Int) ⊕ (((List Int) × Int × (List Valve)))) := (Da b.2.2.1 ([(⟨a.1.Travel, c.1, c.2, a.1.Stuck⟩ : Valve)] : List Valve)).bind fun d => some (.inl (a.2.L_, a.2.At, d, wr (b.2.2.2 + 1)))
def Ip.B2 (c : List Bool) (a : (List Int) × Int × (List Valve) × Int) : Option (((List Int) × Int × (List Valve) × Int) ⊕ (((List Int) × Int × (List Valve)))) := if decide (a.2.2.2 < (c.length : Int)) = true then (Pw (⟨a.1, a.2.1⟩ : KS)).bind fun b => (ix c a.2.2.2).bind fun d => if d.2 = true then Ip.J3 a b (b.1.Travel, true) else Ip.J3 a b (b.1.Open, b.1.Want) else some ((.inr ((a.1, a.2.1, a.2.2.1))))
def Ip (a : KS) (c : Network) (d : Plan) : Option (Desk × KS) := (Ns c d).bind fun b => (Je b).bind fun e => (K6 e).bind fun f => (Ch (Ip.B2 f) Dm (a.L_, a.At, [], 0)).bind fun g => Ip.J1 b g
def Eu.J1 (a : Bool) : Option Bool := some a
def Eu : Option Bool := (Wo (⟨([(⟨#[97]⟩ : ByteArray), (⟨#[98]⟩ : ByteArray)] : List ByteArray), ([(⟨(⟨#[103]⟩ : ByteArray), 0, 1, 10, 0, 0, ([(⟨0, 0, 1000⟩ : Point), (⟨10, 0, 1000⟩ : Point)] : List Point)⟩ : Segment)] : List Segment), ([(⟨(⟨#[112]⟩ : ByteArray), 0, 0⟩ : Port), (⟨(⟨#[113]⟩ : ByteArray), 1, 0⟩ : Port)] : List Port), [], 0, 0⟩ : Network) 2).bind fun c => (Fe (⟨([(⟨#[97]⟩ : ByteArray), (⟨#[98]⟩ : ByteArray)] : List ByteArray), ([(⟨(⟨#[103]⟩ : ByteArray), 0, 1, 10, 0, 0, ([(⟨0, 0, 1000⟩ : Point), (⟨10, 0, 1000⟩ : Point)] : List Point)⟩ : Segment)] : List Segment), ([(⟨(⟨#[112]⟩ : ByteArray), 0, 0⟩ : Port), (⟨(⟨#[113]⟩ : ByteArray), 1, 0⟩ : Port)] : List Port), [], 0, 0⟩ : Network) c.1 (⟨([5] : List Int), ([5, (-5)] : List Int), []⟩ : Plan) 3 1).bind fun a => if (a.2 == 0) = true then if ((a.1.length : Int) == 8) = true then (ix a.1 3).bind fun b => if (b.2.Kind == 6) = true then if (b.2.Value == 2) = true then (ix a.1 4).bind fun d => if (d.2.Value == 3) = true then (ix a.1 6).bind fun e => if (e.2.Value == 2) = true then (Ji a.1).bind fun f => Eu.J1 (f == 3) else Eu.J1 false else Eu.J1 false else Eu.J1 false else Eu.J1 false else Eu.J1 false else Eu.J1 false
def Qi.J1 (a : Unit) : Option (Hop × Bool) := some ((⟨0, false⟩ : Hop), false)
def Qi.J3 (b : List Int) (a : Int) (c : Bool) : Option (Int ⊕ ((Hop × Bool) ⊕ Unit)) := if c = true then (ix b a).bind fun d => some ((.inr (.inl (((⟨a, decide (d.2 < 0)⟩ : Hop), true))))) else some (.inl (wr (a + 1)))
def Qi.B2 (e : Network) (b : List Int) (c : Int) (a : Int) : Option (Int ⊕ ((Hop × Bool) ⊕ Unit)) := if decide (a < (b.length : Int)) = true then (ix b a).bind fun d => if decide (d.2 > 0) = true then (ix e.Segments a).bind fun f => if (f.2.From == c) = true then Qi.J3 b a true else if decide (d.2 < 0) = true then Qi.J3 b a (f.2.To == c) else Qi.J3 b a false else if decide (d.2 < 0) = true then (ix e.Segments a).bind fun g => Qi.J3 b a (g.2.To == c) else Qi.J3 b a false else some ((.inr (.inr (()))))
def Qi (a : Network) (b : List Int) (c : Int) : Option (Hop × Bool) := (Ch (Qi.B2 a b c) Dm 0).bind fun d => Sum.elim (fun e => some e) (fun f => Qi.J1 f) d
def Nc (a : Int) : Int := (max a (wr (0 - a)))
def M7.J1 (b : Int) (a : (List Hop) × Int) : Option (Path × Bool) := some ((⟨b, 0, a.1, a.2⟩ : Path), false)
def M7.J3 (b : (List Hop) × Int × Int × Int) (a : (List Hop) × Int × Int) : Option (((List Hop) × Int × Int × Int) ⊕ ((Path × Bool) ⊕ ((List Hop) × Int))) := some (.inl (a.1, a.2.1, a.2.2, wr (b.2.2.2 + 1)))
def M7.J4 (c : Network) (d : List Int) (e : Int) (a : (List Hop) × Int × Int × Int) (i : Unit) : Option (((List Hop) × Int × Int × Int) ⊕ ((Path × Bool) ⊕ ((List Hop) × Int))) := (Qi c d a.2.2.1).bind fun b => if (!b.2) = true then some ((.inr (.inl (((⟨e, 0, a.1, a.2.1⟩ : Path), false))))) else (Da a.1 ([b.1] : List Hop)).bind fun f => (ix d b.1.Segment).bind fun g => (Mw c b.1).bind fun h => M7.J3 a (f, (min a.2.1 (Nc g.2)), h.2)
def M7.J6 (c : List Int) (d : Int) (b : (List Hop) × Int × Int × Int) (a : Int) (e : Bool) : Option (Int ⊕ ((Path × Bool) ⊕ Unit)) := if e = true then (ix c a).bind fun f => some ((.inr (.inl (((⟨d, a, b.1, (min b.2.1 (wr (0 - f.2)))⟩ : Path), true))))) else some (.inl (wr (a + 1)))
def M7.B5 (e : Network) (b : List Int) (d : Int) (c : (List Hop) × Int × Int × Int) (a : Int) : Option (Int ⊕ ((Path × Bool) ⊕ Unit)) := if decide (a < (b.length : Int)) = true then (ix e.Ports a).bind fun f => if (f.2.Node == c.2.2.1) = true then (ix b a).bind fun g => M7.J6 b d c a (decide (g.2 < 0)) else M7.J6 b d c a false else some ((.inr (.inr (()))))
def M7.B2 (b : Network) (d : List Int) (e : List Int) (c : Int) (a : (List Hop) × Int × Int × Int) : Option (((List Hop) × Int × Int × Int) ⊕ ((Path × Bool) ⊕ ((List Hop) × Int))) := if decide (a.2.2.2 ≤ (b.Nodes.length : Int)) = true then (Ch (M7.B5 b e c a) Dm 0).bind fun f => Sum.elim (fun g => some ((.inr (.inl (g))))) (fun h => M7.J4 b d c a h) f else some ((.inr (.inr ((a.1, a.2.1)))))
def M7 (b : Network) (d : List Int) (c : List Int) (a : Int) : Option (Path × Bool) := (ix c a).bind fun e => (ix b.Ports a).bind fun f => (Ch (M7.B2 b d c a) Dm ([], e.2, f.2.Node, 0)).bind fun g => Sum.elim (fun h => some h) (fun i => M7.J1 a i) g
def Im.J1 (a : List Path) : Option ((List Path) × Int) := some (a, 0)
def Im.J3 (b : (List Int) × (List Int) × (List Path) × Int) (a : (List Int) × (List Int) × (List Path)) : Option (((List Int) × (List Int) × (List Path) × Int) ⊕ (((List Path) × Int) ⊕ (List Path))) := some (.inl (a.1, a.2.1, a.2.2, wr (b.2.2.2 + 1)))
def Im.J5 (b : (List Int) × (List Int) × (List Path)) (a : Path × Bool) (c : Nat × Int) (d : Nat × Int) (e : List Int) : Option (((List Int) × (List Int) × (List Path)) ⊕ (((List Path) × Int) ⊕ ((List Int) × (List Int) × (List Path)))) := (Da b.2.2 ([a.1] : List Path)).bind fun f => some (.inl (e, ((b.2.1.set c.1 (wr (c.2 - a.1.Rate))).set d.1 (wr (d.2 + a.1.Rate))), f))
def Im.J7 (a : (List Int) × Int) (b : List Int) : Option (((List Int) × Int) ⊕ ((List Int))) := some (.inl (b, wr (a.2 + 1)))
def Im.B6 (b : Path × Bool) (a : (List Int) × Int) : Option (((List Int) × Int) ⊕ ((List Int))) := if decide (a.2 < (b.1.Hops.length : Int)) = true then (ix b.1.Hops a.2).bind fun c => if c.2.Back = true then (ix a.1 c.2.Segment).bind fun d => Im.J7 a (a.1.set d.1 (wr (d.2 + b.1.Rate))) else (ix a.1 c.2.Segment).bind fun e => Im.J7 a (a.1.set e.1 (wr (e.2 - b.1.Rate))) else some ((.inr (a.1)))
def Im.B4 (e : Network) (d : (List Int) × (List Int) × (List Path) × Int) (a : (List Int) × (List Int) × (List Path)) : Option (((List Int) × (List Int) × (List Path)) ⊕ (((List Path) × Int) ⊕ ((List Int) × (List Int) × (List Path)))) := (ix a.2.1 d.2.2.2).bind fun f => if decide (f.2 > 0) = true then (M7 e a.1 a.2.1 d.2.2.2).bind fun b => if ((!b.2) || (((a.2.2.length : Int) == 64) || decide ((b.1.Hops.length : Int) > 32))) = true then some ((.inr (.inl (([], 23))))) else (ix a.2.1 b.1.In).bind fun c => (ix (a.2.1.set c.1 (wr (c.2 - b.1.Rate))) b.1.Out).bind fun g => (Ch (Im.B6 b) Dm (a.1, 0)).bind fun h => Im.J5 a b c g h else some ((.inr (.inr ((a.1, a.2.1, a.2.2)))))
def Im.B2 (b : Network) (a : (List Int) × (List Int) × (List Path) × Int) : Option (((List Int) × (List Int) × (List Path) × Int) ⊕ (((List Path) × Int) ⊕ (List Path))) := if decide (a.2.2.2 < (a.2.1.length : Int)) = true then (Ch (Im.B4 b a) Dm (a.1, a.2.1, a.2.2.1)).bind fun c => Sum.elim (fun d => some ((.inr (.inl (d))))) (fun e => Im.J3 a e) c else some ((.inr (.inr (a.2.2.1))))
def Im (b : Network) (a : Plan) : Option ((List Path) × Int) := (Fo b a).bind fun c => if (c != 0) = true then some ([], c) else (Da ([] : List Int) a.Rates).bind fun d => (Da ([] : List Int) a.Ports).bind fun e => (Ch (Im.B2 b) Dm (d, e, [], 0)).bind fun f => Sum.elim (fun g => some g) (fun h => Im.J1 h) f
def K4.J1 (a : Unit) : Option Bool := some true
def K4.B2 (b : Path) (e : Path) (a : Int) : Option (Int ⊕ (Bool ⊕ Unit)) := if decide (a < (b.Hops.length : Int)) = true then (ix b.Hops a).bind fun c => (ix e.Hops a).bind fun d => if (!((c.2.Segment == d.2.Segment) && ((c.2.Back == d.2.Back) && true))) = true then some ((.inr (.inl (false)))) else some (.inl (wr (a + 1))) else some ((.inr (.inr (()))))
def K4 (a : Path) (b : Path) : Option Bool := if ((a.In != b.In) || ((a.Out != b.Out) || ((a.Hops.length : Int) != (b.Hops.length : Int)))) = true then some false else (Ch (K4.B2 a b) Dm 0).bind fun c => Sum.elim (fun d => some d) (fun e => K4.J1 e) c
def Jn.J1 (a : Unit) : Option Int := some (-1)
def Jn.B2 (b : List Path) (c : Path) (a : Int) : Option (Int ⊕ (Int ⊕ Unit)) := if decide (a < (b.length : Int)) = true then (ix b a).bind fun d => (K4 d.2 c).bind fun e => if e = true then some ((.inr (.inl (a)))) else some (.inl (wr (a + 1))) else some ((.inr (.inr (()))))
def Jn (a : List Path) (b : Path) : Option Int := (Ch (Jn.B2 a b) Dm 0).bind fun c => Sum.elim (fun d => some d) (fun e => Jn.J1 e) c
def mQ.J4 (a : Bool) : Option Bool := some a
def mQ.J3 (a : Int) (b : Int) : Option Bool := if (b == a) = true then (Eu).bind fun c => mQ.J4 c else mQ.J4 false
def mQ.J6 (a : Int × Int) (b : Int) : Option ((Int × Int) ⊕ (Int)) := some (.inl (b, wr (a.2 + 1)))
def mQ.B5 (b : (List Step) × Int) (a : Int × Int) : Option ((Int × Int) ⊕ (Int)) := if decide (a.2 < (b.1.length : Int)) = true then (ix b.1 a.2).bind fun c => if (c.2.Kind == 5) = true then mQ.J6 a (wr (a.1 + 1)) else mQ.J6 a a.1 else some ((.inr (a.1)))
def mQ.J2 (a : (List Step) × Int) (b : Int) : Option Bool := (Ch (mQ.B5 a) Dm (0, 0)).bind fun c => mQ.J3 b c
def mQ.J8 (a : Int × Int) (b : Int) : Option ((Int × Int) ⊕ (Bool ⊕ Int)) := some (.inl (b, wr (a.2 + 1)))
def mQ.J11 (b : Int × Int) (c : Int) (a : Int × Int) : Option ((Int × Int) ⊕ (Bool ⊕ Int)) := if (a.2 != c) = true then some ((.inr (.inl (false)))) else mQ.J8 b a.1
def mQ.J13 (b : Int × Int × Int) (a : Int × Int) : Option ((Int × Int × Int) ⊕ (Bool ⊕ (Int × Int))) := some (.inl (a.1, a.2, wr (b.2.2 + 1)))
def mQ.J14 (c : (List Step) × Int) (d : Int) (a : Int × Int × Int) (e : Bool) : Option ((Int × Int × Int) ⊕ (Bool ⊕ (Int × Int))) := if e = true then (ix c.1 a.2.2).bind fun b => if decide ((wr (b.2.Value * d)) ≤ 0) = true then some ((.inr (.inl (false)))) else mQ.J13 a (wr (a.1 + 1), wr (a.2.1 + b.2.Value)) else mQ.J13 a (a.1, a.2.1)
def mQ.B12 (b : (List Step) × Int) (e : Nat × Path) (c : Int) (a : Int × Int × Int) : Option ((Int × Int × Int) ⊕ (Bool ⊕ (Int × Int))) := if decide (a.2.2 < (b.1.length : Int)) = true then (ix b.1 a.2.2).bind fun d => if (d.2.Kind == 5) = true then (K4 d.2.Path e.2).bind fun f => mQ.J14 b c a f else mQ.J14 b c a false else some ((.inr (.inr ((a.1, a.2.1)))))
def mQ.J10 (c : (List Step) × Int) (a : Int × Int) (d : Nat × Path) (b : Int) : Option ((Int × Int) ⊕ (Bool ⊕ Int)) := (Ch (mQ.B12 c d b) Dm (a.1, 0, 0)).bind fun e => Sum.elim (fun f => some ((.inr (.inl (f))))) (fun g => mQ.J11 a b g) e
def mQ.J9 (b : (List Step) × Int) (c : (List Path) × Int) (d : Int × Int) (a : Nat × Path) (e : Int) : Option ((Int × Int) ⊕ (Bool ⊕ Int)) := (Jn c.1 a.2).bind fun f => if decide (f ≥ 0) = true then (ix c.1 f).bind fun g => mQ.J10 b d a (wr (e + g.2.Rate)) else mQ.J10 b d a e
def mQ.B7 (d : (List Step) × Int) (e : (List Path) × Int) (f : (List Path) × Int) (c : List Path) (a : Int × Int) : Option ((Int × Int) ⊕ (Bool ⊕ Int)) := if decide (a.2 < (c.length : Int)) = true then (ix c a.2).bind fun b => (Jn c b.2).bind fun h => if (h != a.2) = true then mQ.J8 a a.1 else (Jn e.1 b.2).bind fun g => if decide (g ≥ 0) = true then (ix e.1 g).bind fun i => mQ.J9 d f a b (wr (0 - i.2.Rate)) else mQ.J9 d f a b 0 else some ((.inr (.inr (a.1))))
def mQ.J1 (g : Int) (b : Network × KS) (a : (List Int) × Int × (List Valve) × (List Int) × (List Int) × (List Bool)) : Option Bool := (Fp (⟨a.1, a.2.1⟩ : KS) b.1).bind fun f => (Fe b.1 (⟨a.2.2.1, (⟨a.2.2.2.1, a.2.2.2.2.1, a.2.2.2.2.2⟩ : Plan)⟩ : Desk) f.1 (wr (5 + (wr (g)))) 0).bind fun c => (Im b.1 (⟨a.2.2.2.1, a.2.2.2.2.1, a.2.2.2.2.2⟩ : Plan)).bind fun d => (Im b.1 f.1).bind fun e => if (c.2 == 4) = true then (Eu).bind fun h => some h else if ((c.2 != 0) || ((d.2 != 0) || (e.2 != 0))) = true then some false else (Da ([] : List Path) d.1).bind fun i => (Da i e.1).bind fun j => (Ch (mQ.B7 c d e j) Dm (0, 0)).bind fun k => Sum.elim (fun l => some l) (fun m => mQ.J2 c m) k
def mQ (d : List Int) (f : Int) : Option Bool := if (!(K2 d)) = true then (Eu).bind fun g => some g else (Ir d).bind fun h => (It h).bind fun a => (Fp a.2 a.1).bind fun e => (Ip e.2 a.1 e.1).bind fun c => (Iq c.1).bind fun b => mQ.J1 f a (c.2.L_, c.2.At, b.Valves, b.Plan.Rates, b.Plan.Ports, b.Plan.Pumps)
def M1.J1 (a : List Path) : Option (List Path) := some a
def M1.J3 (a : (List Path) × Int) (b : List Path) : Option (((List Path) × Int) ⊕ ((List Path))) := some (.inl (b, wr (a.2 + 1)))
def M1.B2 (c : List Path) (d : List Path) (a : (List Path) × Int) : Option (((List Path) × Int) ⊕ ((List Path))) := if decide (a.2 < (c.length : Int)) = true then (ix c a.2).bind fun e => (Jn d e.2).bind fun f => if decide (f ≥ 0) = true then (Nb e.2).bind fun b => (ix d f).bind fun g => (Da a.1 ([(⟨b.In, b.Out, b.Hops, (min b.Rate g.2.Rate)⟩ : Path)] : List Path)).bind fun h => M1.J3 a h else M1.J3 a a.1 else some ((.inr (a.1)))
def M1 (a : List Path) (b : List Path) : Option (List Path) := (Ch (M1.B2 a b) Dm ([], 0)).bind fun c => M1.J1 c
def M6.J3 (b : Network) (e : List Bool) (c : (List Int) × (List Int) × (List Bool)) (a : (List Int) × (List Int)) : Option (Plan × Int) := if ((e.length : Int) != (b.Stations.length : Int)) = true then some ((⟨[], [], []⟩ : Plan), 9) else (Fo b (⟨a.1, a.2, c.2.2⟩ : Plan)).bind fun d => if (d != 0) = true then some ((⟨[], [], []⟩ : Plan), d) else some ((⟨a.1, a.2, c.2.2⟩ : Plan), 0)
def M6.J5 (b : (List Int) × (List Int) × Int) (a : (List Int) × (List Int)) : Option (((List Int) × (List Int) × Int) ⊕ ((Plan × Int) ⊕ ((List Int) × (List Int)))) := some (.inl (a.1, a.2, wr (b.2.2 + 1)))
def M6.J8 (a : (List Int) × Int) (c : Nat × Hop) (d : Int) (e : Bool) : Option (((List Int) × Int) ⊕ ((Plan × Int) ⊕ ((List Int) × (List Int)))) := if e = true then some ((.inr (.inl (((⟨[], [], []⟩ : Plan), 23))))) else (ix a.1 c.2.Segment).bind fun b => some (.inl ((a.1.set b.1 (wr (b.2 + d))), wr (a.2 + 1)))
def M6.J7 (b : (List Int) × Int) (c : Nat × Hop) (a : Int) : Option (((List Int) × Int) ⊕ ((Plan × Int) ⊕ ((List Int) × (List Int)))) := if decide (a > 0) = true then (ix b.1 c.2.Segment).bind fun d => if decide (d.2 < 0) = true then M6.J8 b c a true else if decide (a < 0) = true then M6.J8 b c a (decide (d.2 > 0)) else M6.J8 b c a false else if decide (a < 0) = true then (ix b.1 c.2.Segment).bind fun e => M6.J8 b c a (decide (e.2 > 0)) else M6.J8 b c a false
def M6.B6 (f : (List Int) × (List Int) × Int) (a : Nat × Path) (d : Nat × Int) (e : Nat × Int) (b : (List Int) × Int) : Option (((List Int) × Int) ⊕ ((Plan × Int) ⊕ ((List Int) × (List Int)))) := if decide (b.2 < (a.2.Hops.length : Int)) = true then (ix a.2.Hops b.2).bind fun c => if c.2.Back = true then M6.J7 b c (wr (0 - a.2.Rate)) else M6.J7 b c a.2.Rate else some ((.inr (.inr ((b.1, ((f.2.1.set d.1 (wr (d.2 + a.2.Rate))).set e.1 (wr (e.2 - a.2.Rate))))))))
def M6.B4 (d : List Path) (a : (List Int) × (List Int) × Int) : Option (((List Int) × (List Int) × Int) ⊕ ((Plan × Int) ⊕ ((List Int) × (List Int)))) := if decide (a.2.2 < (d.length : Int)) = true then (ix d a.2.2).bind fun b => (ix a.2.1 b.2.In).bind fun c => (ix (a.2.1.set c.1 (wr (c.2 + b.2.Rate))) b.2.Out).bind fun e => (Ch (M6.B6 a b c e) Dm (a.1, 0)).bind fun f => Sum.elim (fun g => some ((.inr (.inl (g))))) (fun h => M6.J5 a h) f else some ((.inr (.inr ((a.1, a.2.1)))))
def M6.J2 (b : Network) (c : List Path) (d : List Bool) (a : (List Int) × (List Int) × (List Bool)) (h : Unit) : Option (Plan × Int) := (Ch (M6.B4 c) Dm (a.1, a.2.1, 0)).bind fun e => Sum.elim (fun f => some f) (fun g => M6.J3 b d a g) e
def M6.B9 (c : Network) (b : List Path) (a : Int) : Option (Int ⊕ ((Plan × Int) ⊕ Unit)) := if decide (a < (b.length : Int)) = true then (ix b a).bind fun d => (Kx c d.2).bind fun e => if (!e) = true then some ((.inr (.inl (((⟨[], [], []⟩ : Plan), 23))))) else some (.inl (wr (a + 1))) else some ((.inr (.inr (()))))
def M6.J1 (a : Network) (b : List Path) (c : List Bool) (d : (List Int) × (List Int) × (List Bool)) : Option (Plan × Int) := (Ch (M6.B9 a b) Dm 0).bind fun e => Sum.elim (fun f => some f) (fun g => M6.J2 a b c d g) e
def M6 (a : Network) (b : List Path) (c : List Bool) : Option (Plan × Int) := (G6 a).bind fun d => if (d != 0) = true then some ((⟨[], [], []⟩ : Plan), d) else if decide ((b.length : Int) > 64) = true then some ((⟨[], [], []⟩ : Plan), 23) else (Rt (a.Segments.length : Int) (0 : Int)).bind fun e => (Rt (a.Ports.length : Int) (0 : Int)).bind fun f => (Da ([] : List Bool) c).bind fun g => M6.J1 a b c (e, f, g)
def Pr.J4 (b : Unit) : Option Bool := (Eu).bind fun a => some a
def Pr.J6 (b : (List Valve) × (List Int) × (List Int) × (List Bool) × Int) (a : (List Valve) × (List Int) × (List Int) × (List Bool)) : Option (((List Valve) × (List Int) × (List Int) × (List Bool) × Int) ⊕ (Bool ⊕ Unit)) := some (.inl (a.1, a.2.1, a.2.2.1, a.2.2.2, wr (b.2.2.2.2 + 1)))
def Pr.J9 (a : Int) (b : Bool) : Option (Int ⊕ (Bool ⊕ ((List Valve) × (List Int) × (List Int) × (List Bool)))) := if b = true then some ((.inr (.inl (false)))) else some (.inl (wr (a + 1)))
def Pr.B8 (d : (List Int) × (List Int) × (List Bool) × Int) (b : (List Valve) × (List Int) × (List Int) × (List Bool) × Int) (a : Int) : Option (Int ⊕ (Bool ⊕ ((List Valve) × (List Int) × (List Int) × (List Bool)))) := if decide (a < (d.2.1.length : Int)) = true then (ix d.2.1 a).bind fun c => if decide (c.2 > 0) = true then (ix b.2.2.1 a).bind fun e => if decide (e.2 < c.2) = true then Pr.J9 a true else if decide (c.2 < 0) = true then Pr.J9 a (decide (e.2 > c.2)) else Pr.J9 a false else if decide (c.2 < 0) = true then (ix b.2.2.1 a).bind fun f => Pr.J9 a (decide (f.2 > c.2)) else Pr.J9 a false else some ((.inr (.inr ((b.1, b.2.1, b.2.2.1, b.2.2.2.1)))))
def Pr.J7 (b : (List Int) × (List Int) × (List Bool) × Int) (c : (List Valve) × (List Int) × (List Int) × (List Bool) × Int) (a : (List Valve) × (List Int) × (List Int) × (List Bool) × Int) : Option (((List Valve) × (List Int) × (List Int) × (List Bool) × Int) ⊕ (Bool ⊕ Unit)) := if (a.2.2.2.2 != 0) = true then some ((.inr (.inl (false)))) else (Ch (Pr.B8 b a) Dm 0).bind fun d => Sum.elim (fun e => some ((.inr (.inl (e))))) (fun f => Pr.J6 c f) d
def Pr.B5 (d : Network × KS) (e : (List Int) × (List Int) × (List Bool) × Int) (c : (List Step) × Int) (a : (List Valve) × (List Int) × (List Int) × (List Bool) × Int) : Option (((List Valve) × (List Int) × (List Int) × (List Bool) × Int) ⊕ (Bool ⊕ Unit)) := if decide (a.2.2.2.2 < (c.1.length : Int)) = true then (ix c.1 a.2.2.2.2).bind fun f => (Es d.1 (⟨a.1, (⟨a.2.1, a.2.2.1, a.2.2.2.1⟩ : Plan)⟩ : Desk) f.2).bind fun b => Pr.J7 e a (b.1.Valves, b.1.Plan.Rates, b.1.Plan.Ports, b.1.Plan.Pumps, b.2) else some ((.inr (.inr (()))))
def Pr.J3 (b : Network × KS) (a : (List Int) × Int × (List Valve) × (List Int) × (List Int) × (List Bool)) (c : (List Int) × (List Int) × (List Bool) × Int) (d : (List Step) × Int) (e : Bool) : Option Bool := if e = true then some false else (Ch (Pr.B5 b c d) Dm (a.2.2.1, a.2.2.2.1, a.2.2.2.2.1, a.2.2.2.2.2, 0)).bind fun f => Sum.elim (fun g => some g) (fun h => Pr.J4 h) f
def Pr.J2 (c : Network × KS) (a : (List Int) × Int × (List Valve) × (List Int) × (List Int) × (List Bool)) (f : Plan × KS) (g : (List Path) × Int) (h : (List Path) × Int) (b : (List Int) × (List Int) × (List Bool) × Int) : Option Bool := (Fe c.1 (⟨a.2.2.1, (⟨a.2.2.2.1, a.2.2.2.2.1, a.2.2.2.2.2⟩ : Plan)⟩ : Desk) f.1 300 0).bind fun d => (Fe c.1 (⟨a.2.2.1, (⟨a.2.2.2.1, a.2.2.2.2.1, a.2.2.2.2.2⟩ : Plan)⟩ : Desk) (⟨a.2.2.2.1, a.2.2.2.2.1, a.2.2.2.2.2⟩ : Plan) 5 1).bind fun e => if (g.2 != 0) = true then Pr.J3 c a b d true else if (h.2 != 0) = true then Pr.J3 c a b d true else if (b.2.2.2 != 0) = true then Pr.J3 c a b d true else if (d.2 != 0) = true then Pr.J3 c a b d true else if (e.2 != 0) = true then Pr.J3 c a b d true else (Ji e.1).bind fun i => if (i != 0) = true then Pr.J3 c a b d true else (Fo c.1 (⟨b.1, b.2.1, b.2.2.1⟩ : Plan)).bind fun j => Pr.J3 c a b d (j != 0)
def Pr.J1 (a : Network × KS) (b : (List Int) × Int × (List Valve) × (List Int) × (List Int) × (List Bool)) : Option Bool := (Fp (⟨b.1, b.2.1⟩ : KS) a.1).bind fun d => (Im a.1 (⟨b.2.2.2.1, b.2.2.2.2.1, b.2.2.2.2.2⟩ : Plan)).bind fun e => (Im a.1 d.1).bind fun f => (M1 e.1 f.1).bind fun g => (Rt (a.1.Stations.length : Int) false).bind fun h => (M6 a.1 g h).bind fun c => Pr.J2 a b d e f (c.1.Rates, c.1.Ports, c.1.Pumps, c.2)
def Pr (d : List Int) : Option Bool := if (!(K2 d)) = true then (Eu).bind fun f => some f else (Ir d).bind fun g => (It g).bind fun a => (Fp a.2 a.1).bind fun e => (Ip e.2 a.1 e.1).bind fun c => (Iq c.1).bind fun b => Pr.J1 a (c.2.L_, c.2.At, b.Valves, b.Plan.Rates, b.Plan.Ports, b.Plan.Pumps)
end Go.Proofs.YtmaamhgjeampmaaGreat
