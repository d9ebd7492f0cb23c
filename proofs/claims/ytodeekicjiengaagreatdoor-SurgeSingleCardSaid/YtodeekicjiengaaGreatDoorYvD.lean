/- Tables and pure functions. No condition. -/
import Derived.Test.YtodeekicjiengaaGreatDoorYvB2
import Derived.Test.YtodeekicjiengaaGreatDoorRows
import Derived.KernelRfl
import Derived.Shelf.Sort.Plain
import Derived.Shelf.Slices.CompactI
import Derived.Sort.OwnSortedInts
import Derived.Test.YtodeekicjiengaaGreatDoorProg
set_option maxRecDepth 100000
namespace Go.Aw
set_option linter.unusedVariables false
set_option linter.unusedSimpArgs false
inductive TT where
 | nil
 | node (l : TT) (k : Nat) (x : TI) (r : TT)
def Ph : TT → Nat → Option TI
 | .nil, _ => none
 | .node l k x r, i => bif Nat.beq k i then some x else bif Nat.ble k i then Ph r i else Ph l i
def aA (P : Program) : TT → Prop
 | .nil => True
 | .node l k x r => aA P l ∧ Ih P k = some x ∧ aA P r
theorem Rn {P : Program} : ∀ {t : TT} {i : Nat} {x : TI}, aA P t → Ph t i = some x → Ih P i = some x
 | .nil, _, _, _, h => by simp [Ph] at h
 | .node l k y r, i, x, ha, h => by
  simp only [Ph] at h
  cases hb : Nat.beq k i with
  | true =>
   have := nq hb
   simp only [hb, cond_true, Option.some.injEq] at h
   subst h this; exact ha.2.1
  | false =>
   simp only [hb, cond_false] at h
   cases hc : Nat.ble k i with
   | true => simp only [hc, cond_true] at h; exact Rn ha.2.2 h
   | false => simp only [hc, cond_false] at h; exact Rn ha.1 h
@[reducible] def zI : Value := .int .i64 0
@[reducible] def zN : Value := .slice none 0 0
@[reducible] def zT (k : Nat) : TI := { kind := .slice k, size := 1, bytes := 24, zero := some zN }
@[reducible] def zS (f : List (Nat × Nat)) (s b : Nat) (z : Array Value) : TI := { kind := .struct f, size := s, bytes := b, zero := some (.agg z) }
@[reducible] def zA (n t s b : Nat) (z : Array Value) : TI := { kind := .array n t, size := s, bytes := b, zero := some (.agg z) }
end Go.Aw
namespace Go.Proofs.YtodeekicjiengaaGreatDoor
open Go.Aw
@[reducible] def pB : TI := { kind := .int .i64, size := 1, bytes := 8, zero := some (.int .i64 0) }
@[reducible] def pA : TI := { kind := .bool, size := 1, bytes := 1, zero := some (.bool false) }
@[reducible] def oZ : TI := { kind := .int .u8, size := 1, bytes := 1, zero := some (.int .u8 0) }
@[reducible] def oY : TI := { kind := .string, size := 1, bytes := 16, zero := some (.string ⟨#[]⟩) }
@[reducible] def mO : TI := zT 3
@[reducible] def mN : TI := zT 9
@[reducible] def mM : TI := zT 64
@[reducible] def mL : TI := zT 68
@[reducible] def mK : TI := zT 70
@[reducible] def mJ : TI := zS [(0, 25), (1, 26), (2, 27), (3, 28), (4, 3), (5, 3)] 6 112 #[zN, zN, zN, zN, zI, zI]
@[reducible] def mI : TI := zT 72
@[reducible] def mH : TI := zT 74
@[reducible] def mG : TI := zT 77
@[reducible] def mF : TI := zT 50
@[reducible] def mE : TI := zS [(0, 3), (1, 3), (2, 3)] 3 24 #[zI, zI, zI]
@[reducible] def mD : TI := { kind := .int .i64, size := 1, bytes := 8, zero := some (.int .i64 0) }
@[reducible] def mC : TI := zT 4
@[reducible] def mB : TI := zS [(0, 22), (1, 22), (2, 46)] 3 72 #[zN, zN, zN]
@[reducible] def mA : TI := zS [(0, 3), (1, 48)] 4 80 #[zI, zN, zN, zN]
@[reducible] def lZ : TI := zT 48
@[reducible] def lY : TI := zS [(0, 22), (1, 3)] 2 32 #[zN, zI]
@[reducible] def lX : TI := zT 102
@[reducible] def lW : TI := zS [(0, 9), (1, 3), (2, 3), (3, 3), (4, 3), (5, 3), (6, 62)] 7 80 #[.string ⟨#[]⟩, zI, zI, zI, zI, zI, zN]
@[reducible] def lV : TI := zS [(0, 9), (1, 3), (2, 3)] 3 32 #[.string ⟨#[]⟩, zI, zI]
@[reducible] def lU : TI := zS [(0, 9), (1, 3), (2, 3), (3, 3), (4, 3)] 5 48 #[.string ⟨#[]⟩, zI, zI, zI, zI]
@[reducible] def lT : TI := zS [(0, 9), (1, 3), (2, 3), (3, 3), (4, 3)] 5 48 #[.string ⟨#[]⟩, zI, zI, zI, zI]
@[reducible] def lS : TI := zT 105
@[reducible] def lR : TI := zS [(0, 3), (1, 9), (2, 3), (3, 3)] 4 40 #[zI, .string ⟨#[]⟩, zI, zI]
@[reducible] def lQ : TI := zT 84
@[reducible] def lP : TI := zT 129
@[reducible] def lO : TI := zT 127
@[reducible] def lN : TI := zS [(0, 46), (1, 81), (2, 82)] 3 72 #[zN, zN, zN]
@[reducible] def lM : TI := zT 22
@[reducible] def dL : TI := zT 5
@[reducible] def dK : TI := zS [(0, 3), (1, 3), (2, 3)] 3 24 #[zI, zI, zI]
@[reducible] def dJ : TI := zS [(0, 3), (1, 3)] 2 16 #[zI, zI]
@[reducible] def dI : TI := zA 24 3 24 192 #[zI, zI, zI, zI, zI, zI, zI, zI, zI, zI, zI, zI, zI, zI, zI, zI, zI, zI, zI, zI, zI, zI, zI, zI]
@[reducible] def dH : TI := zS [(0, 111), (24, 111)] 48 384 #[zI, zI, zI, zI, zI, zI, zI, zI, zI, zI, zI, zI, zI, zI, zI, zI, zI, zI, zI, zI, zI, zI, zI, zI, zI, zI, zI, zI, zI, zI, zI, zI, zI, zI, zI, zI, zI, zI, zI, zI, zI, zI, zI, zI, zI, zI, zI, zI]
@[reducible] def dG : TI := zS [(0, 30), (6, 36), (7, 32), (8, 34), (9, 48), (12, 84)] 15 328 #[zN, zN, zN, zN, zI, zI, zN, zN, zN, zN, zN, zN, zN, zN, zN]
@[reducible] def dF : TI := zT 131
@[reducible] def dE : TI := zS [(0, 3), (1, 3)] 2 16 #[zI, zI]
@[reducible] def dD : TI := zS [(0, 3), (1, 129)] 3 24 #[zI, zI, zI]
@[reducible] def dC : TI := { kind := .other, size := 1, bytes := 8, zero := some (.nilFunc) }
@[reducible] def dB : TI := zT 133
@[reducible] def dA : TI := zA 4 25 4 96 #[zN, zN, zN, zN]
@[reducible] def cZ : TI := zA 4 3 4 32 #[zI, zI, zI, zI]
@[reducible] def cY : TI := zS [(0, 3), (1, 3)] 2 16 #[zI, zI]
@[reducible] def cX : TI := zA 4 192 8 64 #[zI, zI, zI, zI, zI, zI, zI, zI]
@[reducible] def cW : TI := zT 202
@[reducible] def cV : TI := zS [(0, 3), (1, 3), (2, 3), (3, 72)] 8 72 #[zI, zI, zI, .string ⟨#[]⟩, zI, zI, zI, zI]
@[reducible] def cU : TI := zA 24 3 24 192 #[zI, zI, zI, zI, zI, zI, zI, zI, zI, zI, zI, zI, zI, zI, zI, zI, zI, zI, zI, zI, zI, zI, zI, zI]
@[reducible] def cT : TI := zS [(0, 70)] 5 48 #[.string ⟨#[]⟩, zI, zI, zI, zI]
@[reducible] def cS : TI := { kind := .int .u64, size := 1, bytes := 8, zero := some (.int .u64 0) }
@[reducible] def cR : TI := { kind := .int .i64, size := 1, bytes := 8, zero := some (.int .i64 0) }
@[reducible] def cQ : TI := { kind := .int .u32, size := 1, bytes := 4, zero := some (.int .u32 0) }
@[reducible] def cP : TI := { kind := .int .u64, size := 1, bytes := 8, zero := some (.int .u64 0) }
@[reducible] def cO : TI := { kind := .int .u64, size := 1, bytes := 8, zero := some (.int .u64 0) }
def N3 : TT := (.node (.node (.node (.node (.node (.node .nil 3 pB .nil) 4 pA (.node .nil 5 oZ .nil)) 9 oY (.node (.node .nil 22 mO .nil) 25 mN (.node .nil 26 mM .nil))) 27 mL (.node (.node (.node .nil 28 mK .nil) 30 mJ (.node .nil 32 mI .nil)) 34 mH (.node (.node .nil 36 mG .nil) 38 mF .nil))) 41 mE (.node (.node (.node (.node .nil 42 mD .nil) 46 mC (.node .nil 48 mB .nil)) 50 mA (.node (.node .nil 55 lZ .nil) 58 lY .nil)) 62 lX (.node (.node (.node .nil 64 lW .nil) 68 lV (.node .nil 70 lU .nil)) 72 lT (.node (.node .nil 74 lS .nil) 77 lR .nil)))) 80 lQ (.node (.node (.node (.node (.node .nil 81 lP .nil) 82 lO (.node .nil 84 lN .nil)) 94 lM (.node (.node .nil 100 dL .nil) 102 dK (.node .nil 105 dJ .nil))) 111 dI (.node (.node (.node .nil 113 dH .nil) 124 dG (.node .nil 127 dF .nil)) 129 dE (.node (.node .nil 131 dD .nil) 133 dC .nil))) 134 dB (.node (.node (.node (.node .nil 147 dA .nil) 189 cZ (.node .nil 192 cY .nil)) 193 cX (.node (.node .nil 197 cW .nil) 202 cV .nil)) 209 cU (.node (.node (.node .nil 214 cT .nil) 217 cS (.node .nil 222 cR .nil)) 230 cQ (.node (.node .nil 232 cP .nil) 233 cO .nil)))))
theorem Yi : aA Tryz.prog N3 :=
 ⟨⟨⟨⟨⟨⟨trivial, by kernel_rfl, trivial⟩, by kernel_rfl, ⟨trivial, by kernel_rfl, trivial⟩⟩, by kernel_rfl, ⟨⟨trivial, by kernel_rfl, trivial⟩, by kernel_rfl, ⟨trivial, by kernel_rfl, trivial⟩⟩⟩, by kernel_rfl, ⟨⟨⟨trivial, by kernel_rfl, trivial⟩, by kernel_rfl, ⟨trivial, by kernel_rfl, trivial⟩⟩, by kernel_rfl, ⟨⟨trivial, by kernel_rfl, trivial⟩, by kernel_rfl, trivial⟩⟩⟩, by kernel_rfl, ⟨⟨⟨⟨trivial, by kernel_rfl, trivial⟩, by kernel_rfl, ⟨trivial, by kernel_rfl, trivial⟩⟩, by kernel_rfl, ⟨⟨trivial, by kernel_rfl, trivial⟩, by kernel_rfl, trivial⟩⟩, by kernel_rfl, ⟨⟨⟨trivial, by kernel_rfl, trivial⟩, by kernel_rfl, ⟨trivial, by kernel_rfl, trivial⟩⟩, by kernel_rfl, ⟨⟨trivial, by kernel_rfl, trivial⟩, by kernel_rfl, trivial⟩⟩⟩⟩, by kernel_rfl, ⟨⟨⟨⟨⟨trivial, by kernel_rfl, trivial⟩, by kernel_rfl, ⟨trivial, by kernel_rfl, trivial⟩⟩, by kernel_rfl, ⟨⟨trivial, by kernel_rfl, trivial⟩, by kernel_rfl, ⟨trivial, by kernel_rfl, trivial⟩⟩⟩, by kernel_rfl, ⟨⟨⟨trivial, by kernel_rfl, trivial⟩, by kernel_rfl, ⟨trivial, by kernel_rfl, trivial⟩⟩, by kernel_rfl, ⟨⟨trivial, by kernel_rfl, trivial⟩, by kernel_rfl, trivial⟩⟩⟩, by kernel_rfl, ⟨⟨⟨⟨trivial, by kernel_rfl, trivial⟩, by kernel_rfl, ⟨trivial, by kernel_rfl, trivial⟩⟩, by kernel_rfl, ⟨⟨trivial, by kernel_rfl, trivial⟩, by kernel_rfl, trivial⟩⟩, by kernel_rfl, ⟨⟨⟨trivial, by kernel_rfl, trivial⟩, by kernel_rfl, ⟨trivial, by kernel_rfl, trivial⟩⟩, by kernel_rfl, ⟨⟨trivial, by kernel_rfl, trivial⟩, by kernel_rfl, trivial⟩⟩⟩⟩⟩
theorem Zw : Tryz.prog.follows .mixedOrders = true := by kernel_rfl
theorem Zv (t : Nat) (i : TI) (h : Ph N3 t = some i) : Ih Tryz.prog t = some i := Rn Yi h
noncomputable def Aj : Env := ⟨Tryz.prog, Ph N3, Zv, Zw⟩
theorem H7 : Bld Aj 30 [(0, 1), (1, 1), (2, 1), (3, 1), (4, 1), (5, 1)] [.v (.slice none 0 0), .v (.slice none 0 0), .v (.slice none 0 0), .v (.slice none 0 0), .v (.int .i64 0), .v (.int .i64 0)] := ⟨⟨_, _, _, rfl, rfl, rfl, rfl, rfl, rfl, rfl⟩⟩
theorem Dd : Bld Aj 41 [(0, 1), (1, 1), (2, 1)] [.v (.int .i64 0), .v (.int .i64 0), .v (.int .i64 0)] := ⟨⟨_, _, _, rfl, rfl, rfl, rfl, rfl, rfl, rfl⟩⟩
theorem Lg : Bld Aj 48 [(0, 1), (1, 1), (2, 1)] [.v (.slice none 0 0), .v (.slice none 0 0), .v (.slice none 0 0)] := ⟨⟨_, _, _, rfl, rfl, rfl, rfl, rfl, rfl, rfl⟩⟩
theorem Lf : Bld Aj 50 [(0, 1), (1, 3)] [.v (.int .i64 0), .v (.slice none 0 0), .v (.slice none 0 0), .v (.slice none 0 0)] := ⟨⟨_, _, _, rfl, rfl, rfl, rfl, rfl, rfl, rfl⟩⟩
theorem Z1 : Bld Aj 58 [(0, 1), (1, 1)] [.v (.slice none 0 0), .v (.int .i64 0)] := ⟨⟨_, _, _, rfl, rfl, rfl, rfl, rfl, rfl, rfl⟩⟩
theorem Gz : Bld Aj 64 [(0, 1), (1, 1), (2, 1), (3, 1), (4, 1), (5, 1), (6, 1)] [.v (.string ⟨#[]⟩), .v (.int .i64 0), .v (.int .i64 0), .v (.int .i64 0), .v (.int .i64 0), .v (.int .i64 0), .v (.slice none 0 0)] := ⟨⟨_, _, _, rfl, rfl, rfl, rfl, rfl, rfl, rfl⟩⟩
theorem H6 : Bld Aj 68 [(0, 1), (1, 1), (2, 1)] [.v (.string ⟨#[]⟩), .v (.int .i64 0), .v (.int .i64 0)] := ⟨⟨_, _, _, rfl, rfl, rfl, rfl, rfl, rfl, rfl⟩⟩
theorem Z0 : Bld Aj 70 [(0, 1), (1, 1), (2, 1), (3, 1), (4, 1)] [.v (.string ⟨#[]⟩), .v (.int .i64 0), .v (.int .i64 0), .v (.int .i64 0), .v (.int .i64 0)] := ⟨⟨_, _, _, rfl, rfl, rfl, rfl, rfl, rfl, rfl⟩⟩
theorem Zz : Bld Aj 72 [(0, 1), (1, 1), (2, 1), (3, 1), (4, 1)] [.v (.string ⟨#[]⟩), .v (.int .i64 0), .v (.int .i64 0), .v (.int .i64 0), .v (.int .i64 0)] := ⟨⟨_, _, _, rfl, rfl, rfl, rfl, rfl, rfl, rfl⟩⟩
theorem Zy : Bld Aj 77 [(0, 1), (1, 1), (2, 1), (3, 1)] [.v (.int .i64 0), .v (.string ⟨#[]⟩), .v (.int .i64 0), .v (.int .i64 0)] := ⟨⟨_, _, _, rfl, rfl, rfl, rfl, rfl, rfl, rfl⟩⟩
theorem Cf : Bld Aj 84 [(0, 1), (1, 1), (2, 1)] [.v (.slice none 0 0), .v (.slice none 0 0), .v (.slice none 0 0)] := ⟨⟨_, _, _, rfl, rfl, rfl, rfl, rfl, rfl, rfl⟩⟩
theorem E7 : Bld Aj 102 [(0, 1), (1, 1), (2, 1)] [.v (.int .i64 0), .v (.int .i64 0), .v (.int .i64 0)] := ⟨⟨_, _, _, rfl, rfl, rfl, rfl, rfl, rfl, rfl⟩⟩
theorem Ym : Bld Aj 105 [(0, 1), (1, 1)] [.v (.int .i64 0), .v (.int .i64 0)] := ⟨⟨_, _, _, rfl, rfl, rfl, rfl, rfl, rfl, rfl⟩⟩
theorem Yl : Bld Aj 124 [(0, 6), (6, 1), (7, 1), (8, 1), (9, 3), (12, 3)] [.v (.slice none 0 0), .v (.slice none 0 0), .v (.slice none 0 0), .v (.slice none 0 0), .v (.int .i64 0), .v (.int .i64 0), .v (.slice none 0 0), .v (.slice none 0 0), .v (.slice none 0 0), .v (.slice none 0 0), .v (.slice none 0 0), .v (.slice none 0 0), .v (.slice none 0 0), .v (.slice none 0 0), .v (.slice none 0 0)] := ⟨⟨_, _, _, rfl, rfl, rfl, rfl, rfl, rfl, rfl⟩⟩
theorem Do : Bld Aj 129 [(0, 1), (1, 1)] [.v (.int .i64 0), .v (.int .i64 0)] := ⟨⟨_, _, _, rfl, rfl, rfl, rfl, rfl, rfl, rfl⟩⟩
theorem E6 : Bld Aj 131 [(0, 1), (1, 2)] [.v (.int .i64 0), .v (.int .i64 0), .v (.int .i64 0)] := ⟨⟨_, _, _, rfl, rfl, rfl, rfl, rfl, rfl, rfl⟩⟩
theorem Yk : Bld Aj 202 [(0, 1), (1, 1), (2, 1), (3, 5)] [.v (.int .i64 0), .v (.int .i64 0), .v (.int .i64 0), .v (.string ⟨#[]⟩), .v (.int .i64 0), .v (.int .i64 0), .v (.int .i64 0), .v (.int .i64 0)] := ⟨⟨_, _, _, rfl, rfl, rfl, rfl, rfl, rfl, rfl⟩⟩
theorem Yj : Bld Aj 214 [(0, 5)] [.v (.string ⟨#[]⟩), .v (.int .i64 0), .v (.int .i64 0), .v (.int .i64 0), .v (.int .i64 0)] := ⟨⟨_, _, _, rfl, rfl, rfl, rfl, rfl, rfl, rfl⟩⟩
theorem Gl : nC Tryz.prog 41 = true := by kernel_rfl
theorem Zx : iU Tryz.prog 111 = true := by kernel_rfl
set_option linter.unusedVariables false
set_option linter.unusedSimpArgs false
structure Point where
 At : Int
 Height : Int
 Limit : Int
 deriving DecidableEq
def Bi (x : Point) : List T := [.v (.int .i64 x.At), .v (.int .i64 x.Height), .v (.int .i64 x.Limit)]
structure Segment where
 Name : ByteArray
 From : Int
 To : Int
 Capacity : Int
 Resist : Int
 Wave : Int
 Points : List Point
 deriving DecidableEq
def Ak (x : Segment) : List T := [.v (.string x.Name), .v (.int .i64 x.From), .v (.int .i64 x.To), .v (.int .i64 x.Capacity), .v (.int .i64 x.Resist), .v (.int .i64 x.Wave), .list 3 (x.Points.map Bi)]
structure Port where
 Name : ByteArray
 Node : Int
 Pressure : Int
 deriving DecidableEq
def Cb (x : Port) : List T := [.v (.string x.Name), .v (.int .i64 x.Node), .v (.int .i64 x.Pressure)]
structure Station where
 Name : ByteArray
 Node : Int
 Head : Int
 Fall : Int
 Suction : Int
 deriving DecidableEq
def Ba (x : Station) : List T := [.v (.string x.Name), .v (.int .i64 x.Node), .v (.int .i64 x.Head), .v (.int .i64 x.Fall), .v (.int .i64 x.Suction)]
structure Network where
 Nodes : List ByteArray
 Segments : List Segment
 Ports : List Port
 Stations : List Station
 Vapour : Int
 Settle : Int
 deriving DecidableEq
def Ab (x : Network) : List T := [.list 1 (x.Nodes.map rS), .list 7 (x.Segments.map Ak), .list 3 (x.Ports.map Cb), .list 5 (x.Stations.map Ba), .v (.int .i64 x.Vapour), .v (.int .i64 x.Settle)]
structure Plan where
 Rates : Li
 Ports : Li
 Pumps : List Bool
 deriving DecidableEq
def Am (x : Plan) : List T := [.list 1 (x.Rates.map rI), .list 1 (x.Ports.map rI), .list 1 (x.Pumps.map rB)]
structure flow_streams where
 come : Arr Int 24
 leave : Arr Int 24
 deriving DecidableEq
def Bj (x : flow_streams) : List T := x.come.l.map cI ++ (x.leave.l.map cI ++ [])
structure KS where
 L_ : Li
 At : Int
 deriving DecidableEq
def Cp (x : KS) : List T := [.list 1 (x.L_.map rI), .v (.int .i64 x.At)]
def Bn (a : Segment) (b : Int) : (Int × Int) := if decide (b < 0) = true then (a.To, a.From) else (a.From, a.To)
def M5 (a : Int) (b : Int) : Bool := (decide (a ≥ (wr (0 - b))) && decide (a ≤ b))
def Vz.J1 (a : Int) : Option Int := some a
def Vz (c : Int) (a : Int) : Option Int := if decide (a < 1) = true then some 0 else (Ww c a).bind fun b => if decide (b < 0) = true then Vz.J1 (wr (b + a)) else Vz.J1 b
def Dg (a : Int) (b : Int) (c : Int) : Bool := (decide (a ≥ b) && decide (a ≤ c))
def Ga (a : Int) : Int := (max a (wr (0 - a)))
def P1.J1 (a : Unit) : Option Int := some (-1)
def P1.B2 (a : Int) (b : Nat) (c : Int) (d : Unit) : Option (Unit ⊕ (Int)) := if (a == c) = true then some ((.inr ((b : Int)))) else some (.inl ())
def P1 (a : Li) (b : Int) : Option Int := (forL (P1.B2 b) 0 a ()).bind fun c => Sum.elim (fun e => P1.J1 ()) (fun d => some d) c
def M3.J1 (a : Unit) : Option Int := some (-1)
def M3.B2 (a : ByteArray) (b : Nat) (c : ByteArray) (d : Unit) : Option (Unit ⊕ (Int)) := if Sh a c = true then some ((.inr ((b : Int)))) else some (.inl ())
def M3 (a : List ByteArray) (b : ByteArray) : Option Int := (forL (M3.B2 b) 0 a ()).bind fun c => Sum.elim (fun e => M3.J1 ()) (fun d => some d) c
def Qq.J1 (a : Unit) : Option Int := some (-1)
def Qq.B2 (a : Int → Option Bool) (b : Nat) (c : Int) (e : Unit) : Option (Unit ⊕ (Int)) := (a c).bind fun d => if d = true then some ((.inr ((b : Int)))) else some (.inl ())
def Qq (a : Li) (b : Int → Option Bool) : Option Int := (forL (Qq.B2 b) 0 a ()).bind fun c => Sum.elim (fun e => Qq.J1 ()) (fun d => some d) c
def Kq (a : Li) (b : Int → Option Bool) : Option Bool := (Qq a b).bind fun c => some (decide (c ≥ 0))
def Py.J1 (a : Unit) : Option Int := some (-1)
def Py.B2 (a : ByteArray → Option Bool) (b : Nat) (c : ByteArray) (e : Unit) : Option (Unit ⊕ (Int)) := (a c).bind fun d => if d = true then some ((.inr ((b : Int)))) else some (.inl ())
def Py (a : List ByteArray) (b : ByteArray → Option Bool) : Option Int := (forL (Py.B2 b) 0 a ()).bind fun c => Sum.elim (fun e => Py.J1 ()) (fun d => some d) c
def P7 (a : List ByteArray) (b : ByteArray → Option Bool) : Option Bool := (Py a b).bind fun c => some (decide (c ≥ 0))
def Qo.J1 (a : Unit) : Option Int := some (-1)
def Qo.B2 (a : Segment → Option Bool) (b : Nat) (c : Segment) (e : Unit) : Option (Unit ⊕ (Int)) := (a c).bind fun d => if d = true then some ((.inr ((b : Int)))) else some (.inl ())
def Qo (a : List Segment) (b : Segment → Option Bool) : Option Int := (forL (Qo.B2 b) 0 a ()).bind fun c => Sum.elim (fun e => Qo.J1 ()) (fun d => some d) c
def Mw (a : List Segment) (b : Segment → Option Bool) : Option Bool := (Qo a b).bind fun c => some (decide (c ≥ 0))
def P3.J1 (a : Unit) : Option Int := some (-1)
def P3.B2 (a : Port → Option Bool) (b : Nat) (c : Port) (e : Unit) : Option (Unit ⊕ (Int)) := (a c).bind fun d => if d = true then some ((.inr ((b : Int)))) else some (.inl ())
def P3 (a : List Port) (b : Port → Option Bool) : Option Int := (forL (P3.B2 b) 0 a ()).bind fun c => Sum.elim (fun e => P3.J1 ()) (fun d => some d) c
def Qk (a : List Port) (b : Port → Option Bool) : Option Bool := (P3 a b).bind fun c => some (decide (c ≥ 0))
def Ms.J1 (a : Unit) : Option Int := some (-1)
def Ms.B2 (a : Station → Option Bool) (b : Nat) (c : Station) (e : Unit) : Option (Unit ⊕ (Int)) := (a c).bind fun d => if d = true then some ((.inr ((b : Int)))) else some (.inl ())
def Ms (a : List Station) (b : Station → Option Bool) : Option Int := (forL (Ms.B2 b) 0 a ()).bind fun c => Sum.elim (fun e => Ms.J1 ()) (fun d => some d) c
def Ps (a : List Station) (b : Station → Option Bool) : Option Bool := (Ms a b).bind fun c => some (decide (c ≥ 0))
def Mr (a : Segment) : Bool := (decide ((a.Points.length : Int) < 2) || decide ((a.Points.length : Int) > 8))
def Vl (a : Network) : Option Bool := if (decide ((a.Nodes.length : Int) < 1) || (decide ((a.Nodes.length : Int) > 24) || (decide ((a.Segments.length : Int) > 32) || (decide ((a.Ports.length : Int) > 24) || decide ((a.Stations.length : Int) > 12))))) = true then some false else (Mw a.Segments (fun x => some (Mr x))).bind fun b => some (!b)
def Kt.J1 (a : Li) : Option Li := some a
def Kt.J3 (a : Li × (List Bool) × Int) : Option ((Li × (List Bool) × Int) ⊕ (Li)) := some (.inl (a.1, a.2.1, wr (a.2.2 + 1)))
def Kt.J4 (a : Li × (List Bool) × Int) (b : Nat × Bool) (d : Unit) : Option ((Li × (List Bool) × Int) ⊕ (Li)) := (Dx a.1 ([a.2.2] : Li)).bind fun c => Kt.J3 (c, (a.2.1.set b.1 true), (-1))
def Kt.J6 (a : Li × (List Bool) × Int) (b : Bool) : Option (Unit ⊕ ((Li × (List Bool) × Int))) := if b = true then some ((.inr ((a.1, a.2.1, a.2.2)))) else some (.inl ())
def Kt.B5 (d : Plan) (a : Li × (List Bool) × Int) (e : Nat) (c : Segment) (g : Unit) : Option (Unit ⊕ ((Li × (List Bool) × Int))) := (ix d.Rates (e : Int)).bind fun b => if (b.2 != 0) = true then if (((Bn c b.2).2) == a.2.2) = true then (ix a.2.1 ((Bn c b.2).1)).bind fun f => Kt.J6 a (!f.2) else Kt.J6 a false else Kt.J6 a false
def Kt.B2 (b : Network) (d : Plan) (a : Li × (List Bool) × Int) : Option ((Li × (List Bool) × Int) ⊕ (Li)) := if decide (a.2.2 < (b.Nodes.length : Int)) = true then (ix a.2.1 a.2.2).bind fun c => if c.2 = true then Kt.J3 (a.1, a.2.1, a.2.2) else (forL (Kt.B5 d a) 0 b.Segments ()).bind fun e => Sum.elim (fun g => Kt.J4 a c ()) (fun f => Kt.J3 f) e else some ((.inr (a.1)))
def Kt (a : Network) (b : Plan) : Option Li := (Sf (a.Nodes.length : Int) false).bind fun c => (C8 (Kt.B2 a b) Eh ([], c, 0)).bind fun d => Kt.J1 d
def Qg.J1 (a : Unit) : Int := 2
def Qg (a : Int) : Int := if (decide (a ≥ 97) && decide (a ≤ 122)) = true then 1 else if (decide (a ≥ 48) && decide (a ≤ 57)) = true then Qg.J1 () else if (a == 45) = true then Qg.J1 () else 0
def Iw.J2 (a : Unit) : Option Bool := some true
def Iw.B3 (a : ByteArray) (b : Nat) (d : Unit) : Option (Unit ⊕ (Bool)) := (qP a (b : Int)).bind fun c => if ((Qg c.2) == 0) = true then some ((.inr (false))) else some (.inl ())
def Iw.J1 (a : ByteArray) (b : Bool) : Option Bool := if b = true then some false else (rP ((a.size : Int) ≤ 9223372036854775806)).bind fun e => (forI (Iw.B3 a) 0 ((a.size : Int).toNat) ()).bind fun c => Sum.elim (fun f => Iw.J2 ()) (fun d => some d) c
def Iw (a : ByteArray) : Option Bool := if decide ((a.size : Int) < 1) = true then Iw.J1 a true else if decide ((a.size : Int) > 12) = true then Iw.J1 a true else (qP a 0).bind fun b => Iw.J1 a ((Qg b.2) != 1)
def Nq.J3 (a : Network) (b : List ByteArray) (c : List ByteArray) (d : List ByteArray) : Option (Arr (List ByteArray) 4) := some (⟨[a.Nodes, b, c, d], rfl⟩ : Arr (List ByteArray) 4)
def Nq.B4 (d : Nat) (a : Station) (b : List ByteArray) : Option (List ByteArray) := (Dx b ([a.Name] : List ByteArray)).bind fun c => some c
def Nq.J2 (a : Network) (b : List ByteArray) (c : List ByteArray) : Option (Arr (List ByteArray) 4) := (forS Nq.B4 0 a.Stations []).bind fun d => Nq.J3 a b c d
def Nq.B5 (d : Nat) (a : Port) (b : List ByteArray) : Option (List ByteArray) := (Dx b ([a.Name] : List ByteArray)).bind fun c => some c
def Nq.J1 (a : Network) (b : List ByteArray) : Option (Arr (List ByteArray) 4) := (forS Nq.B5 0 a.Ports []).bind fun c => Nq.J2 a b c
def Nq.B6 (d : Nat) (a : Segment) (b : List ByteArray) : Option (List ByteArray) := (Dx b ([a.Name] : List ByteArray)).bind fun c => some c
def Nq (a : Network) : Option (Arr (List ByteArray) 4) := (forS Nq.B6 0 a.Segments []).bind fun b => Nq.J1 a b
def Ku (a : Station) (b : Station) : Bool := (a.Node == b.Node)
def Uv.J2 (a : Unit) : Option Bool := some false
def Uv.B3 (a : Network) (b : Nat) (c : Station) (e : Unit) : Option (Unit ⊕ (Bool)) := (Ms a.Stations (fun x => some (Ku x c))).bind fun d => if decide (d < (b : Int)) = true then some ((.inr (true))) else some (.inl ())
def Uv.J1 (a : Network) (d : Unit) : Option Bool := (forL (Uv.B3 a) 0 a.Stations ()).bind fun b => Sum.elim (fun e => Uv.J2 ()) (fun c => some c) b
def Uv.J5 (a : Unit) : Option (Unit ⊕ (Bool)) := some (.inl ())
def Uv.B6 (a : Nat × (List ByteArray)) (b : Nat) (c : ByteArray) (e : Unit) : Option (Unit ⊕ (Bool)) := (M3 a.2 c).bind fun d => if decide (d < (b : Int)) = true then some ((.inr (true))) else some (.inl ())
def Uv.B4 (b : Arr (List ByteArray) 4) (c : Nat) (f : Unit) : Option (Unit ⊕ (Bool)) := (ix b.l (c : Int)).bind fun a => (forL (Uv.B6 a) 0 a.2 ()).bind fun d => Sum.elim (fun g => Uv.J5 ()) (fun e => some ((.inr (e)))) d
def Uv (a : Network) : Option Bool := (Nq a).bind fun b => (forI (Uv.B4 b) 0 4 ()).bind fun c => Sum.elim (fun e => Uv.J1 a ()) (fun d => some d) c
def Mt (a : Int) (b : Network) : Bool := (decide (a < 0) || decide (a ≥ (b.Nodes.length : Int)))
def Vy.J3 (a : Network) (b : Li) : Option Bool := (Kq b (fun x => some (Mt x a))).bind fun c => some (!c)
def Vy.B4 (d : Nat) (a : Station) (b : Li) : Option Li := (Dx b ([a.Node] : Li)).bind fun c => some c
def Vy.J2 (a : Network) (b : Li) : Option Bool := (forS Vy.B4 0 a.Stations b).bind fun c => Vy.J3 a c
def Vy.B5 (d : Nat) (a : Port) (b : Li) : Option Li := (Dx b ([a.Node] : Li)).bind fun c => some c
def Vy.J1 (a : Network) (b : Li) : Option Bool := (forS Vy.B5 0 a.Ports b).bind fun c => Vy.J2 a c
def Vy.B6 (d : Nat) (a : Segment) (b : Li) : Option Li := (Dx b ([a.From, a.To] : Li)).bind fun c => some c
def Vy (a : Network) : Option Bool := (forS Vy.B6 0 a.Segments []).bind fun b => Vy.J1 a b
def Nn.J2 (a : Bool) : Option Bool := some a
def Nn.J1 (a : Segment) (d : Unit) : Option Bool := (ix a.Points 0).bind fun b => if (b.2.At == 0) = true then (ix a.Points (wr ((a.Points.length : Int) - 1))).bind fun c => Nn.J2 (c.2.At == a.Capacity) else Nn.J2 false
def Nn.J4 (a : Bool) : Option (Unit ⊕ (Bool)) := if a = true then some ((.inr (false))) else some (.inl ())
def Nn.B3 (c : Segment) (b : Nat) (a : Point) (e : Unit) : Option (Unit ⊕ (Bool)) := if (!(Dg a.Height (-500) 5000)) = true then Nn.J4 true else if (!(Dg a.Limit 0 100000000)) = true then Nn.J4 true else if decide ((b : Int) > 0) = true then (ix c.Points (wr ((b : Int) - 1))).bind fun d => Nn.J4 (decide (a.At ≤ d.2.At)) else Nn.J4 false
def Nn (a : Segment) : Option Bool := if ((a.From == a.To) || ((!(Dg a.Capacity 1 1000000)) || ((!(Dg a.Resist 0 1000)) || (!(Dg a.Wave 0 100000))))) = true then some false else (forL (Nn.B3 a) 0 a.Points ()).bind fun b => Sum.elim (fun d => Nn.J1 a ()) (fun c => some c) b
def Ut (a : Segment) : Option Bool := (Nn a).bind fun b => some (!b)
def Mu (a : Port) : Bool := (!(Dg a.Pressure 0 100000000))
def Nm (a : Station) : Bool := ((!(Dg a.Head 0 100000000)) || ((!(Dg a.Fall 0 100000)) || (!(Dg a.Suction 0 100000000))))
def Za (a : Network) : Option Bool := (Mw a.Segments (fun x => Ut x)).bind fun b => if b = true then some false else (Qk a.Ports (fun x => some (Mu x))).bind fun c => if c = true then some false else (Ps a.Stations (fun x => some (Nm x))).bind fun d => if d = true then some false else some ((Dg a.Vapour (-100000) 100000000) && (Dg a.Settle 0 100))
def Vg (a : ByteArray) : Option Bool := (Iw a).bind fun b => some (!b)
def Gt.J1 (a : Network) (e : Unit) : Option Int := (Uv a).bind fun b => if b = true then some 7 else (Vy a).bind fun c => if (!c) = true then some 8 else (Za a).bind fun d => if (!d) = true then some 9 else some 0
def Gt.B2 (a : Arr (List ByteArray) 4) (b : Nat) (e : Unit) : Option (Unit ⊕ (Int)) := (ix a.l (b : Int)).bind fun c => (P7 c.2 (fun x => Vg x)).bind fun d => if d = true then some ((.inr (3))) else some (.inl ())
def Gt (a : Network) : Option Int := (Vl a).bind fun b => if (!b) = true then some 4 else (Nq a).bind fun c => (forI (Gt.B2 c) 0 4 ()).bind fun d => Sum.elim (fun f => Gt.J1 a ()) (fun e => some e) d
def M1.J2 (a : flow_streams) (b : Int × Int × Int) (c : Arr Int 24) : Option flow_streams := if decide (b.2.1 ≥ 0) = true then (ix a.come.l b.2.1).bind fun d => some (⟨(a.come.set d.1 (wr (d.2 + b.2.2))), c⟩ : flow_streams) else some (⟨a.come, c⟩ : flow_streams)
def M1.J1 (a : flow_streams) (b : Int × Int × Int) : Option flow_streams := if decide (b.1 ≥ 0) = true then (ix a.leave.l b.1).bind fun c => M1.J2 a b (a.leave.set c.1 (wr (c.2 + b.2.2))) else M1.J2 a b a.leave
def M1 (b : flow_streams) (c : Int) (d : Int) (a : Int) : Option flow_streams := if decide (a < 0) = true then M1.J1 b (d, c, wr (0 - a)) else M1.J1 b (c, d, a)
def Pn.J2 (a : (Arr Int 24) × (Arr Int 24)) : Option flow_streams := some (⟨a.1, a.2⟩ : flow_streams)
def Pn.B3 (c : Plan) (d : Nat) (e : Port) (a : (Arr Int 24) × (Arr Int 24)) : Option ((Arr Int 24) × (Arr Int 24)) := (ix c.Ports (d : Int)).bind fun f => (M1 (⟨a.1, a.2⟩ : flow_streams) (-1) e.Node f.2).bind fun b => some (b.come, b.leave)
def Pn.J1 (c : Network) (d : Plan) (a : (Arr Int 24) × (Arr Int 24)) : Option flow_streams := (forS (Pn.B3 d) 0 c.Ports (a.1, a.2)).bind fun b => Pn.J2 (b.1, b.2)
def Pn.B4 (d : Plan) (e : Nat) (a : Segment) (b : (Arr Int 24) × (Arr Int 24)) : Option ((Arr Int 24) × (Arr Int 24)) := (ix d.Rates (e : Int)).bind fun f => (M1 (⟨b.1, b.2⟩ : flow_streams) a.From a.To f.2).bind fun c => some (c.come, c.leave)
def Pn (a : Network) (b : Plan) : Option flow_streams := (forS (Pn.B4 b) 0 a.Segments ((Arr.rep 24 (0 : Int)), (Arr.rep 24 (0 : Int)))).bind fun c => Pn.J1 a b (c.1, c.2)
def Nl (a : Int) : Bool := (!(M5 a 1000))
def He.J1 (a : Network) (b : Plan) (f : Unit) : Option Int := (Kq b.Ports (fun x => some (Nl x))).bind fun d => if d = true then some 1 else (Pn a b).bind fun c => if (!decide (c.come = c.leave)) = true then some 12 else (Kt a b).bind fun e => if decide ((e.length : Int) < (a.Nodes.length : Int)) = true then some 13 else some 0
def He.B2 (a : Plan) (b : Nat) (c : Segment) (e : Unit) : Option (Unit ⊕ (Int)) := (ix a.Rates (b : Int)).bind fun d => if (!(M5 d.2 (min 1000 c.Capacity))) = true then some ((.inr (1))) else some (.inl ())
def He (a : Network) (b : Plan) : Option Int := (Gt a).bind fun c => if (c != 0) = true then some c else if (((b.Rates.length : Int) != (a.Segments.length : Int)) || (((b.Ports.length : Int) != (a.Ports.length : Int)) || ((b.Pumps.length : Int) != (a.Stations.length : Int)))) = true then some 9 else (forL (He.B2 b) 0 a.Segments ()).bind fun d => Sum.elim (fun f => He.J1 a b ()) (fun e => some e) d
def Vo (a : Li) : Option KS := (aX a 0 (min (a.length : Int) 2000)).bind fun b => some (⟨b, 0⟩ : KS)
def Uw (a : KS) : Option (Int × KS) := if decide (a.At ≥ (a.L_.length : Int)) = true then some (0, a) else (ix a.L_ (wr ((wr (a.At + 1)) - 1))).bind fun b => some (b.2, (⟨a.L_, wr (a.At + 1)⟩ : KS))
def D5 (b : KS) (c : Int) : Option (Int × KS) := (Uw b).bind fun a => (Vz a.1 c).bind fun d => some (d, a.2)
def Hy (a : ByteArray) (b : Int) : Option ByteArray := (Y4 ([IntKind.u8.wrap (wr (97 + (b.tmod 26)))] : Li)).bind fun c => (pQ a c).bind fun d => some d
def Ek (c : KS) (a : Li) : Option (Int × KS) := (D5 c (a.length : Int)).bind fun b => (ix a b.1).bind fun d => some (d.2, b.2)
def Fo (c : KS) (a : Int) (d : Int) : Option (Int × KS) := (D5 c (wr ((wr (d - a)) + 1))).bind fun b => some (wr (a + b.1), b.2)
def M2.J2 (b : Li × Int × Int × Int) (e : ByteArray) (c : Int × KS) (f : Int × KS) (g : Int × KS) (h : Int × KS) (a : Li × Int × (List Point)) : Option (Segment × KS) := (Fo (⟨a.1, a.2.1⟩ : KS) (-5) 30).bind fun d => (Dx a.2.2 ([(⟨c.1, d.1, h.1⟩ : Point)] : List Point)).bind fun i => some ((⟨e, b.2.2.1, b.2.2.2, c.1, f.1, g.1, i⟩ : Segment), d.2)
def M2.J4 (g : Int × KS) (h : Int × KS) (a : Li × Int × (List Point) × Int) (c : Li × Int × Bool) : Option ((Li × Int × (List Point) × Int) ⊕ ((Li × Int × (List Point)))) := if c.2.2 = true then (Fo (⟨c.1, c.2.1⟩ : KS) 1 40).bind fun b => if decide ((wr (a.2.2.2 + b.1)) ≥ g.1) = true then some ((.inr ((b.2.L_, b.2.At, a.2.2.1)))) else (Fo b.2 (-5) 60).bind fun e => (Ek e.2 ([1, 1, 10] : Li)).bind fun f => (D5 f.2 3).bind fun d => (Dx a.2.2.1 ([(⟨wr (a.2.2.2 + b.1), wr (e.1 * f.1), wr (h.1 - (wr (d.1 * 1000)))⟩ : Point)] : List Point)).bind fun i => some (.inl (d.2.L_, d.2.At, i, wr (a.2.2.2 + b.1))) else some ((.inr ((c.1, c.2.1, a.2.2.1))))
def M2.B3 (c : Int × KS) (d : Int × KS) (a : Li × Int × (List Point) × Int) : Option ((Li × Int × (List Point) × Int) ⊕ ((Li × Int × (List Point)))) := if decide ((a.2.2.1.length : Int) < 7) = true then (D5 (⟨a.1, a.2.1⟩ : KS) 3).bind fun b => M2.J4 c d a (b.2.L_, b.2.At, decide (b.1 > 0)) else M2.J4 c d a (a.1, a.2.1, false)
def M2.J1 (g : Int) (b : Li × Int × Int × Int) : Option (Segment × KS) := (Hy (⟨#[103]⟩ : ByteArray) g).bind fun h => (Ek (⟨b.1, b.2.1⟩ : KS) ([1, 2, 7, 20, 60, 200, 1000] : Li)).bind fun c => (Ek c.2 ([0, 1, 5, 1000] : Li)).bind fun e => (Ek e.2 ([0, 50, 1000, 100000] : Li)).bind fun f => (Ek f.2 ([1000000, 6000000, 100000000] : Li)).bind fun a => (Fo a.2 (-5) 30).bind fun d => (Dx [] ([(⟨0, d.1, a.1⟩ : Point)] : List Point)).bind fun i => (C8 (M2.B3 c a) Eh (d.2.L_, d.2.At, i, 0)).bind fun j => M2.J2 b h c e f a j
def M2 (e : KS) (b : Int) (c : Int) (d : Int) : Option (Segment × KS) := (D5 e 4).bind fun a => if (a.1 == 0) = true then M2.J1 b (a.2.L_, a.2.At, d, c) else M2.J1 b (a.2.L_, a.2.At, c, d)
def Vt.J4 (b : Int × KS) (c : Int × KS) (d : Li × Int × (List ByteArray)) (e : Li × Int × (List Segment)) (a : Li × Int × (List Port) × (List Station)) : Option (Network × KS) := some ((⟨d.2.2, e.2.2, a.2.2.1, a.2.2.2, b.1, c.1⟩ : Network), (⟨a.1, a.2.1⟩ : KS))
def Vt.J6 (b : Li × Int × (List Port) × (List Station) × Int) (a : Li × Int × (List Port) × (List Station)) : Option ((Li × Int × (List Port) × (List Station) × Int) ⊕ ((Li × Int × (List Port) × (List Station)))) := some (.inl (a.1, a.2.1, a.2.2.1, a.2.2.2, wr (b.2.2.2.2 + 1)))
def Vt.J8 (a : Li × Int × (List Port) × (List Station) × Int) (d : Li × Int × (List Port)) (b : Li × Int × Bool) : Option ((Li × Int × (List Port) × (List Station) × Int) ⊕ ((Li × Int × (List Port) × (List Station)))) := if b.2.2 = true then (Hy (⟨#[115]⟩ : ByteArray) (a.2.2.2.1.length : Int)).bind fun g => (Ek (⟨b.1, b.2.1⟩ : KS) ([500000, 2000000, 0] : Li)).bind fun e => (Ek e.2 ([0, 200, 100000] : Li)).bind fun f => (Ek f.2 ([0, 100000, 400000] : Li)).bind fun c => (Dx a.2.2.2.1 ([(⟨g, a.2.2.2.2, e.1, f.1, c.1⟩ : Station)] : List Station)).bind fun h => Vt.J6 a (c.2.L_, c.2.At, d.2.2, h) else Vt.J6 a (b.1, b.2.1, d.2.2, a.2.2.2.1)
def Vt.J7 (d : Li × Int × (List ByteArray)) (b : Li × Int × (List Port) × (List Station) × Int) (a : Li × Int × (List Port)) : Option ((Li × Int × (List Port) × (List Station) × Int) ⊕ ((Li × Int × (List Port) × (List Station)))) := if decide (b.2.2.2.2 < (wr ((d.2.2.length : Int) - 1))) = true then (D5 (⟨a.1, a.2.1⟩ : KS) 3).bind fun c => Vt.J8 b a (c.2.L_, c.2.At, (c.1 == 0)) else Vt.J8 b a (a.1, a.2.1, false)
def Vt.J9 (d : Li × Int × (List ByteArray)) (a : Li × Int × (List Port) × (List Station) × Int) (b : Li × Int × Bool) : Option ((Li × Int × (List Port) × (List Station) × Int) ⊕ ((Li × Int × (List Port) × (List Station)))) := if b.2.2 = true then (Hy (⟨#[113]⟩ : ByteArray) (a.2.2.1.length : Int)).bind fun e => (Ek (⟨b.1, b.2.1⟩ : KS) ([300000, 1000000, 0, 5000000] : Li)).bind fun c => (Dx a.2.2.1 ([(⟨e, a.2.2.2.2, c.1⟩ : Port)] : List Port)).bind fun f => Vt.J7 d a (c.2.L_, c.2.At, f) else Vt.J7 d a (b.1, b.2.1, a.2.2.1)
def Vt.B5 (b : Li × Int × (List ByteArray)) (a : Li × Int × (List Port) × (List Station) × Int) : Option ((Li × Int × (List Port) × (List Station) × Int) ⊕ ((Li × Int × (List Port) × (List Station)))) := if decide (a.2.2.2.2 ≤ (wr ((b.2.2.length : Int) - 1))) = true then if (a.2.2.2.2 == 0) = true then Vt.J9 b a (a.1, a.2.1, true) else if (a.2.2.2.2 == (wr ((b.2.2.length : Int) - 1))) = true then Vt.J9 b a (a.1, a.2.1, true) else (D5 (⟨a.1, a.2.1⟩ : KS) 2).bind fun c => Vt.J9 b a (c.2.L_, c.2.At, (c.1 == 0)) else some ((.inr ((a.1, a.2.1, a.2.2.1, a.2.2.2.1))))
def Vt.J3 (c : Int × KS) (d : Int × KS) (b : Li × Int × (List ByteArray)) (a : Li × Int × (List Segment)) : Option (Network × KS) := (C8 (Vt.B5 b) Eh (a.1, a.2.1, [], [], 0)).bind fun e => Vt.J4 c d b a e
def Vt.B10 (d : Li × Int × (List ByteArray)) (a : Li × Int × (List Segment) × Int) : Option ((Li × Int × (List Segment) × Int) ⊕ ((Li × Int × (List Segment)))) := if decide (a.2.2.2 > 0) = true then (D5 (⟨a.1, a.2.1⟩ : KS) (wr ((d.2.2.length : Int) - 1))).bind fun b => (Fo b.2 (wr (b.1 + 1)) (wr ((d.2.2.length : Int) - 1))).bind fun e => (M2 e.2 (a.2.2.1.length : Int) b.1 e.1).bind fun c => (Dx a.2.2.1 ([c.1] : List Segment)).bind fun f => some (.inl (c.2.L_, c.2.At, f, wr (a.2.2.2 - 1))) else some ((.inr ((a.1, a.2.1, a.2.2.1))))
def Vt.J2 (d : Int × KS) (e : Int × KS) (c : Li × Int × (List ByteArray)) (a : Li × Int × (List Segment)) : Option (Network × KS) := (D5 (⟨a.1, a.2.1⟩ : KS) 4).bind fun b => (C8 (Vt.B10 c) Eh (b.2.L_, b.2.At, a.2.2, b.1)).bind fun f => Vt.J3 d e c f
def Vt.B11 (c : Li × Int × (List ByteArray)) (a : Li × Int × (List Segment) × Int) : Option ((Li × Int × (List Segment) × Int) ⊕ ((Li × Int × (List Segment)))) := if decide (a.2.2.2 < (wr ((c.2.2.length : Int) - 1))) = true then (M2 (⟨a.1, a.2.1⟩ : KS) (a.2.2.1.length : Int) a.2.2.2 (wr (a.2.2.2 + 1))).bind fun b => (Dx a.2.2.1 ([b.1] : List Segment)).bind fun d => some (.inl (b.2.L_, b.2.At, d, wr (a.2.2.2 + 1))) else some ((.inr ((a.1, a.2.1, a.2.2.1))))
def Vt.J1 (b : Int × KS) (c : Int × KS) (a : Li × Int × (List ByteArray)) : Option (Network × KS) := (C8 (Vt.B11 a) Eh (a.1, a.2.1, [], 0)).bind fun d => Vt.J2 b c a d
def Vt.B12 (b : Int × KS) (a : (List ByteArray) × Int) : Option (((List ByteArray) × Int) ⊕ ((Li × Int × (List ByteArray)))) := if decide (a.2 > 0) = true then (Hy (⟨#[110]⟩ : ByteArray) (a.1.length : Int)).bind fun c => (Dx a.1 ([c] : List ByteArray)).bind fun d => some (.inl (d, wr (a.2 - 1))) else some ((.inr ((b.2.L_, b.2.At, a.1))))
def Vt (d : KS) : Option (Network × KS) := (Ek d ([(-100000), 0, 50000] : Li)).bind fun a => (Ek a.2 ([0, 1, 5, 100] : Li)).bind fun b => (Fo b.2 2 6).bind fun c => (C8 (Vt.B12 c) Eh ([], c.1)).bind fun e => Vt.J1 a b e
def Hx (a : Int) : Int := (max a (wr (0 - a)))
def P4.J2 (a : List Bool) (b : Li) (c : Li) : Option Plan := some (⟨b, c, a⟩ : Plan)
def P4.B3 (d : Nat) (a : Int) (b : Li) : Option Li := (Dx b ([wr (0 - a)] : Li)).bind fun c => some c
def P4.J1 (a : Plan) (b : List Bool) (c : Li) : Option Plan := (forS P4.B3 0 a.Ports []).bind fun d => P4.J2 b c d
def P4.B4 (d : Nat) (a : Int) (b : Li) : Option Li := (Dx b ([wr (0 - a)] : Li)).bind fun c => some c
def P4 (a : Plan) : Option Plan := (Dx ([] : List Bool) a.Pumps).bind fun b => (forS P4.B4 0 a.Rates []).bind fun c => P4.J1 a b c
def Qc.J3 (b : Li × Int × (List Bool)) (c : Int × KS) (a : Li × Int × Li × Li) : Option (Plan × KS) := if (c.1 == 0) = true then (P4 (⟨a.2.2.1, a.2.2.2, b.2.2⟩ : Plan)).bind fun d => some (d, (⟨a.1, a.2.1⟩ : KS)) else some ((⟨a.2.2.1, a.2.2.2, b.2.2⟩ : Plan), (⟨a.1, a.2.1⟩ : KS))
def Qc.J5 (b : Li × Int × Li × Li × Int) (a : Li × Int × Li × Li) : Option ((Li × Int × Li × Li × Int) ⊕ ((Li × Int × Li × Li))) := some (.inl (a.1, a.2.1, a.2.2.1, a.2.2.2, wr (b.2.2.2.2 - 1)))
def Qc.J10 (a : Li) : Option Li := some a
def Qc.B9 (g : Network) (c : Int × KS) (h : Li × Int × Li × Int) (i : Nat) (a : Li) : Option Li := (ix h.2.2.1 (i : Int)).bind fun b => (ix g.Segments b.2).bind fun d => if decide (d.2.From < d.2.To) = true then (ix a b.2).bind fun e => Qc.J10 (a.set e.1 (wr (e.2 + c.1))) else (ix a b.2).bind fun f => Qc.J10 (a.set f.1 (wr (f.2 - c.1)))
def Qc.J8 (c : Network) (b : Li × Int × Li × Li × Int) (d : Int × KS) (a : Li × Int × Li × Int) (e : Li) : Option ((Li × Int × Li × Li × Int) ⊕ ((Li × Int × Li × Li))) := (forJ (Qc.B9 c d a) 0 a.2.2.1.length b.2.2.1).bind fun f => Qc.J5 b (a.1, a.2.1, f, e)
def Qc.J7 (e : Network) (a : Li × Int × Li × Li × Int) (f : Int × KS) (c : Int × KS) (b : Li × Int × Li × Int) : Option ((Li × Int × Li × Li × Int) ⊕ ((Li × Int × Li × Li))) := if decide (b.2.2.2 < 0) = true then Qc.J5 a (b.1, b.2.1, a.2.2.1, a.2.2.2.1) else (ix a.2.2.2.1 f.1).bind fun d => (ix a.2.2.2.1 b.2.2.2).bind fun g => (ix (a.2.2.2.1.set d.1 (wr (d.2 + c.1))) b.2.2.2).bind fun h => Qc.J8 e a c b ((a.2.2.2.1.set d.1 (wr (d.2 + c.1))).set h.1 (wr (g.2 - c.1)))
def Qc.J13 (g : Network) (b : Li × Int × Int × Li × Int) (a : Li × Int × Int) (c : Li) : Option ((Li × Int × Int × Li × Int) ⊕ ((Li × Int × Li × Int))) := if ((c.length : Int) == 0) = true then some ((.inr ((a.1, a.2.1, b.2.2.2.1, a.2.2)))) else (D5 (⟨a.1, a.2.1⟩ : KS) (c.length : Int)).bind fun d => (ix c d.1).bind fun e => (Dx b.2.2.2.1 ([e.2] : Li)).bind fun h => (ix g.Segments e.2).bind fun f => some (.inl (d.2.L_, d.2.At, wr ((wr (f.2.From + f.2.To)) - b.2.2.1), h, a.2.2))
def Qc.J15 (a : Li) : Option Li := some a
def Qc.J16 (b : Nat) (a : Li) (c : Bool) : Option Li := if c = true then (Dx a ([(b : Int)] : Li)).bind fun d => Qc.J15 d else Qc.J15 a
def Qc.B14 (e : Li × Int × Li × Li × Int) (f : Int × KS) (c : Li × Int × Int × Li × Int) (b : Nat) (a : Segment) (d : Li) : Option Li := if (a.From == c.2.2.1) = true then if decide ((wr ((wr (a.From + a.To)) - c.2.2.1)) > c.2.2.1) = true then (ix e.2.2.1 (b : Int)).bind fun g => Qc.J16 b d (decide ((wr ((Hx g.2) + f.1)) ≤ (min 1000 a.Capacity))) else Qc.J16 b d false else if (a.To == c.2.2.1) = true then if decide ((wr ((wr (a.From + a.To)) - c.2.2.1)) > c.2.2.1) = true then (ix e.2.2.1 (b : Int)).bind fun h => Qc.J16 b d (decide ((wr ((Hx h.2) + f.1)) ≤ (min 1000 a.Capacity))) else Qc.J16 b d false else Qc.J16 b d false
def Qc.J12 (c : Network) (d : Li × Int × Li × Li × Int) (e : Int × KS) (b : Li × Int × Int × Li × Int) (a : Li × Int × Int) : Option ((Li × Int × Int × Li × Int) ⊕ ((Li × Int × Li × Int))) := if decide (a.2.2 ≥ 0) = true then some ((.inr ((a.1, a.2.1, b.2.2.2.1, a.2.2)))) else (forS (Qc.B14 d e b) 0 c.Segments []).bind fun f => Qc.J13 c b a f
def Qc.J18 (a : Li × Int × Int) : Option (Li × Int × Int) := some (a.1, a.2.1, a.2.2)
def Qc.J19 (b : Nat) (c : Li × Int × Int) (a : Li × Int × Bool) : Option (Li × Int × Int) := if a.2.2 = true then Qc.J18 (a.1, a.2.1, (b : Int)) else Qc.J18 (a.1, a.2.1, c.2.2)
def Qc.B17 (f : Li × Int × Li × Li × Int) (g : Int × KS) (h : Int × KS) (d : Li × Int × Int × Li × Int) (b : Nat) (i : Port) (a : Li × Int × Int) : Option (Li × Int × Int) := if (i.Node == d.2.2.1) = true then if ((b : Int) != g.1) = true then (ix f.2.2.2.1 (b : Int)).bind fun e => if decide (e.2 ≤ 0) = true then if decide ((wr (e.2 - h.1)) ≥ (-1000)) = true then if decide ((d.2.2.2.1.length : Int) > 0) = true then (D5 (⟨a.1, a.2.1⟩ : KS) 2).bind fun c => Qc.J19 b a (c.2.L_, c.2.At, (c.1 == 0)) else Qc.J19 b a (a.1, a.2.1, false) else Qc.J19 b a (a.1, a.2.1, false) else Qc.J19 b a (a.1, a.2.1, false) else Qc.J19 b a (a.1, a.2.1, false) else Qc.J19 b a (a.1, a.2.1, false)
def Qc.B11 (c : Network) (d : Li × Int × Li × Li × Int) (f : Int × KS) (e : Int × KS) (a : Li × Int × Int × Li × Int) : Option ((Li × Int × Int × Li × Int) ⊕ ((Li × Int × Li × Int))) := if decide (a.2.2.2.2 < 0) = true then (forS (Qc.B17 d f e a) 0 c.Ports (a.1, a.2.1, a.2.2.2.2)).bind fun b => Qc.J12 c d e a (b.1, b.2.1, b.2.2) else some ((.inr ((a.1, a.2.1, a.2.2.2.1, a.2.2.2.2))))
def Qc.J6 (c : Network) (b : Li × Int × Li × Li × Int) (d : Int × KS) (e : Nat × Port) (a : Int × KS) (f : Bool) : Option ((Li × Int × Li × Li × Int) ⊕ ((Li × Int × Li × Li))) := if f = true then Qc.J5 b (a.2.L_, a.2.At, b.2.2.1, b.2.2.2.1) else (C8 (Qc.B11 c b d a) Eh (a.2.L_, a.2.At, e.2.Node, [], (-1))).bind fun g => Qc.J7 c b d a g
def Qc.B4 (c : Network) (a : Li × Int × Li × Li × Int) : Option ((Li × Int × Li × Li × Int) ⊕ ((Li × Int × Li × Li))) := if decide (a.2.2.2.2 > 0) = true then (D5 (⟨a.1, a.2.1⟩ : KS) (c.Ports.length : Int)).bind fun b => (ix c.Ports b.1).bind fun e => (Ek b.2 ([1, 5, 30, 300] : Li)).bind fun f => (Fo f.2 1 f.1).bind fun d => (ix a.2.2.2.1 b.1).bind fun g => if decide (g.2 < 0) = true then Qc.J6 c a b e d true else Qc.J6 c a b e d (decide ((wr (g.2 + d.1)) > 1000)) else some ((.inr ((a.1, a.2.1, a.2.2.1, a.2.2.2.1))))
def Qc.J2 (e : Network) (c : Li × Li) (a : Li × Int × (List Bool)) : Option (Plan × KS) := (D5 (⟨a.1, a.2.1⟩ : KS) 3).bind fun d => (D5 d.2 5).bind fun b => (C8 (Qc.B4 e) Eh (b.2.L_, b.2.At, c.1, c.2, b.1)).bind fun f => Qc.J3 a d f
def Qc.B20 (c : Network) (a : Li × Int × (List Bool) × Int) : Option ((Li × Int × (List Bool) × Int) ⊕ ((Li × Int × (List Bool)))) := if decide (a.2.2.2 < (c.Stations.length : Int)) = true then (D5 (⟨a.1, a.2.1⟩ : KS) 2).bind fun b => (Dx a.2.2.1 ([(b.1 == 0)] : List Bool)).bind fun d => some (.inl (b.2.L_, b.2.At, d, wr (a.2.2.2 + 1))) else some ((.inr ((a.1, a.2.1, a.2.2.1))))
def Qc.J1 (a : KS) (b : Network) (c : Li × Li) : Option (Plan × KS) := (C8 (Qc.B20 b) Eh (a.L_, a.At, [], 0)).bind fun d => Qc.J2 b c d
def Qc (b : KS) (a : Network) : Option (Plan × KS) := (Sf (a.Segments.length : Int) (0 : Int)).bind fun c => (Sf (a.Ports.length : Int) (0 : Int)).bind fun d => Qc.J1 b a (c, d)
def Y7.J1 (a : Unit) : Option Bool := some true
def Y7.B2 (a : Li) (b : Nat) (c : Int) (e : Unit) : Option (Unit ⊕ (Bool)) := (ix a (b : Int)).bind fun d => if (c != d.2) = true then some ((.inr (false))) else some (.inl ())
def Y7 (a : Li) (b : Li) : Option Bool := if ((a.length : Int) != (b.length : Int)) = true then some false else (forL (Y7.B2 b) 0 a ()).bind fun c => Sum.elim (fun e => Y7.J1 ()) (fun d => some d) c
def jP.J1 (a : Unit) : Option Bool := some true
def jP.B2 (a : List Li) (b : Nat) (c : Li) (f : Unit) : Option (Unit ⊕ (Bool)) := (ix a (b : Int)).bind fun d => (Y7 c d.2).bind fun e => if (!e) = true then some ((.inr (false))) else some (.inl ())
def jP (a : List Li) (b : List Li) : Option Bool := if ((a.length : Int) != (b.length : Int)) = true then some false else (forL (jP.B2 b) 0 a ()).bind fun c => Sum.elim (fun e => jP.J1 ()) (fun d => some d) c
def P9.J1 (a : Arr Int 24) : Option (Arr Int 24) := some a
def P9.B2 (a : Nat) (b : Arr Int 24) : Option (Arr Int 24) := (ix b.l (a : Int)).bind fun c => some (b.set c.1 (a : Int))
def P9 : Option (Arr Int 24) := (forJ P9.B2 0 24 (Arr.rep 24 (0 : Int))).bind fun a => P9.J1 a
def K0.J1 (a : (Arr Int 24) × Int) : Option (Int × (Arr Int 24)) := some (a.2, a.1)
def K0.B2 (a : (Arr Int 24) × Int) : Option (((Arr Int 24) × Int) ⊕ (((Arr Int 24) × Int))) := (ix a.1.l a.2).bind fun b => if (b.2 != a.2) = true then (ix a.1.l b.2).bind fun c => (ix ((a.1.set b.1 c.2).l) a.2).bind fun d => some (.inl ((a.1.set b.1 c.2), d.2)) else some ((.inr ((a.1, a.2))))
def K0 (a : Arr Int 24) (b : Int) : Option (Int × (Arr Int 24)) := (C8 K0.B2 Eh (a, b)).bind fun c => K0.J1 c
def Vk (c : Arr Int 24) (d : Int) (e : Int) : Option (Arr Int 24) := (K0 c d).bind fun b => (K0 b.2 e).bind fun a => (ix a.2.l b.1).bind fun f => some (a.2.set f.1 a.1)
def Nk.J1 (a : Bool) : Option Bool := some a
def Nk (a : Int) (b : Plan) (c : Plan) : Option Bool := (ix b.Rates a).bind fun d => if (d.2 != 0) = true then Nk.J1 true else (ix c.Rates a).bind fun e => Nk.J1 (e.2 != 0)
def Pp.J2 (a : List Li) : Option (List Li) := some a
def Pp.J4 (a : (Arr Int 24) × (List Li) × Li) : Option ((Arr Int 24) × (List Li) × Li) := some (a.1, a.2.1, a.2.2)
def Pp.J5 (c : Nat) (d : Int × (Arr Int 24)) (a : (List Li) × Li × Int) : Option ((Arr Int 24) × (List Li) × Li) := (ix a.1 a.2.2).bind fun b => (Dx b.2 ([(c : Int)] : Li)).bind fun e => Pp.J4 (d.2, (a.1.set b.1 e), a.2.1)
def Pp.B3 (e : Plan) (f : Plan) (c : Nat) (g : Segment) (a : (Arr Int 24) × (List Li) × Li) : Option ((Arr Int 24) × (List Li) × Li) := (Nk (c : Int) e f).bind fun h => if (!h) = true then Pp.J4 (a.1, a.2.1, a.2.2) else (K0 a.1 g.From).bind fun b => (P1 a.2.2 b.1).bind fun d => if decide (d < 0) = true then (Dx a.2.2 ([b.1] : Li)).bind fun i => (Dx a.2.1 [[]]).bind fun j => Pp.J5 c b (j, i, (a.2.2.length : Int)) else Pp.J5 c b (a.2.1, a.2.2, d)
def Pp.J1 (a : Network) (b : Plan) (c : Plan) (d : Arr Int 24) : Option (List Li) := (forS (Pp.B3 b c) 0 a.Segments (d, [], [])).bind fun e => Pp.J2 e.2.1
def Pp.J7 (a : Arr Int 24) : Option (Arr Int 24) := some a
def Pp.B6 (c : Plan) (d : Plan) (e : Nat) (a : Segment) (b : Arr Int 24) : Option (Arr Int 24) := (Nk (e : Int) c d).bind fun f => if f = true then (Vk b a.From a.To).bind fun g => Pp.J7 g else Pp.J7 b
def Pp (a : Network) (b : Plan) (c : Plan) : Option (List Li) := (P9).bind fun d => (forS (Pp.B6 b c) 0 a.Segments d).bind fun e => Pp.J1 a b c e
def Zb (a : Network) (c : Plan) (d : Plan) : Option Int := (He a c).bind fun b => if (b != 0) = true then some b else (He a d).bind fun e => some e
def jN (a : Network) (b : Plan) (c : Plan) : Option ((List Li) × Int) := (Zb a b c).bind fun d => if (d != 0) = true then some ([], d) else (Pp a b c).bind fun e => some (e, 0)
def Ir.J1 (a : Li) : Option Li := some a
def Ir.J3 (a : Li) : Option Li := some a
def Ir.B5 (b : Int) (e : Nat) (c : Int) (a : Li) : Option Li := (ix a c).bind fun d => some (a.set d.1 b)
def Ir.J4 (a : Li) (b : Li) (c : Int) : Option Li := (forS (Ir.B5 c) 0 a b).bind fun d => Ir.J3 d
def Ir.B6 (d : Network) (e : Plan) (f : Plan) (i : Nat) (a : Int) (g : Int) : Option Int := (ix f.Rates a).bind fun b => (ix e.Rates a).bind fun c => (ix d.Segments a).bind fun h => some (wr (g + (wr (h.2.Wave * (max (wr (b.2 - c.2)) (wr (0 - (wr (b.2 - c.2)))))))))
def Ir.B2 (b : Network) (c : Plan) (d : Plan) (g : Nat) (a : Li) (e : Li) : Option Li := (forS (Ir.B6 b c d) 0 a 0).bind fun f => Ir.J4 a e f
def Ir (a : Network) (b : Plan) (c : Plan) : Option Li := (Sf (a.Segments.length : Int) (0 : Int)).bind fun d => (Pp a b c).bind fun e => (forS (Ir.B2 a b c) 0 e d).bind fun f => Ir.J1 f
def jO (a : Network) (b : Plan) (c : Plan) : Option (Li × Int) := (Zb a b c).bind fun d => if (d != 0) = true then some ([], d) else (Ir a b c).bind fun e => some (e, 0)
def Vj.J1 (a : List Segment) : Option Network := some (⟨([(⟨#[97]⟩ : ByteArray), (⟨#[98]⟩ : ByteArray), (⟨#[99]⟩ : ByteArray)] : List ByteArray), a, ([(⟨(⟨#[105, 110]⟩ : ByteArray), 0, 1000000⟩ : Port), (⟨(⟨#[111, 117, 116]⟩ : ByteArray), 2, 0⟩ : Port)] : List Port), [], 0, 5⟩ : Network)
def Vj.J3 (a : (List Segment) × Int) (b : List Segment) : Option (((List Segment) × Int) ⊕ ((List Segment))) := some (.inl (b, wr (a.2 + 1)))
def Vj.B2 (a : (List Segment) × Int) : Option (((List Segment) × Int) ⊕ ((List Segment))) := if decide (a.2 < 2) = true then (ix ([(⟨#[120]⟩ : ByteArray), (⟨#[121]⟩ : ByteArray)] : List ByteArray) a.2).bind fun b => (Dx a.1 ([(⟨b.2, a.2, wr (a.2 + 1), 100, 0, wr (10 + (wr (10 * a.2))), ([(⟨0, 0, 2000000⟩ : Point), (⟨100, 0, 2000000⟩ : Point)] : List Point)⟩ : Segment)] : List Segment)).bind fun c => Vj.J3 a c else some ((.inr (a.1)))
def Vj : Option Network := (C8 Vj.B2 Eh ([], 0)).bind fun a => Vj.J1 a
def Mv (a : Int) : Plan := (⟨([a, a] : Li), ([a, wr (0 - a)] : Li), []⟩ : Plan)
def Y9.J1 (a : Bool) : Option Bool := some a
def Y9 : Option Bool := (Vj).bind fun c => (jO c (Mv 100) (Mv 80)).bind fun a => (Vj).bind fun d => (jN d (Mv 0) (Mv 80)).bind fun b => if (a.2 == 0) = true then (Y7 a.1 ([600, 600] : Li)).bind fun e => if e = true then if (b.2 == 0) = true then (jP b.1 ([([0, 1] : Li)] : List Li)).bind fun f => Y9.J1 f else Y9.J1 false else Y9.J1 false else Y9.J1 false
end Go.Proofs.YtodeekicjiengaaGreatDoor
namespace Go.Aw
set_option linter.unusedVariables false
set_option linter.unusedSimpArgs false
open Go.Sort
theorem Ui {H H' : GH} {w w' : World} {b ty cap : Nat} {a ts es : Li} {cs : Array Value} (hb : w.heap[b]? = some (.cells cs ty (0, 0))) (hsz : cs.size = cap * 1) (hcap : a.length ≤ cap) (hmax : a.length ≤ Hj)
  (hl : ts.length = a.length) (hp : es.length ≤ ts.length) (hpre : ts.take es.length = es) (hb' : w'.heap[b]? = some (.cells (putCells (Value.int .i64) 0 ts.toArray cs) ty (0, 0))) : ArrR H' w' b ty 1 cap (es.map rI) := by
 refine ⟨_, hb', by simp [putCells, hsz], by simp; omega, by simp; omega, fun i e he => ?_, fun i e he j x hx => ?_⟩
 ·rw [List.getElem?_map] at he
  obtain ⟨n, _, rfl⟩ := Option.map_eq_some_iff.1 he
  rfl
 ·rw [List.getElem?_map] at he
  obtain ⟨n, hn, rfl⟩ := Option.map_eq_some_iff.1 he
  have hj : j = 0 := by have := (gs hx).1; simp [rI] at this; exact this
  subst hj
  simp [rI] at hx
  subst hx
  have hi := (gs hn).1
  have hti : ts[i]? = some n := by
   rw [← hpre, List.getElem?_take_of_lt hi] at hn; exact hn
  have hil := (gs hti).1
  have : (putCells (Value.int .i64) 0 ts.toArray cs).getD (i * 1 + 0) undef = .int .i64 n := by
   rw [Array.getD_eq_getD_getElem?]
   simp only [putCells, Array.getElem?_mapIdx, Nat.mul_one, Nat.add_zero]
   have hcs : i < cs.size := by omega
   rw [Array.getElem?_eq_getElem hcs]
   simp [hil]
   exact (gs hti).2
  rw [this]
  exact ⟨rfl, .v _⟩
theorem ArrR.held {H : GH} {w : World} {b ty cap : Nat} {a : Li} (h : ArrR H w b ty 1 cap (a.map rI)) :
  ∃ cs, w.heap[b]? = some (.cells cs ty (0, 0)) ∧ cs.size = cap * 1 ∧ a.length ≤ cap ∧ a.length ≤ Hj ∧ Holds (Value.int .i64) w b 0 a.toArray := by
 obtain ⟨cs, c, f, d, e, i, g⟩ := h
 rw [List.length_map] at d e
 refine ⟨cs, c, f, d, e, fun j hj => ⟨?_, by simp [World.frozen?, c]⟩⟩
 have hj' : j < a.length := by simpa using hj
 have := (g j (rI a[j]) (by rw [List.getElem?_map, gq hj']; rfl) 0 (.v (.int .i64 a[j])) rfl).2.v_eq
 rw [Nat.mul_one, Nat.add_zero] at this
 have hcs : j < cs.size := by omega
 simp only [World.cell?, c, Nat.zero_add]
 rw [Array.getD_eq_getD_getElem?, Array.getElem?_eq_getElem hcs] at this
 simp at this ⊢
 rw [Array.getElem?_eq_getElem hcs, this]; simp [hj']
theorem Ox (l : Li) : (Lib.compact l).length ≤ l.length := by
 unfold Lib.compact Lib.compactUpTo
 rw [List.length_map]
 exact Nat.le_trans (List.length_filter_le _ _) (by simp)
section
variable {E : Env}
def Mq (l : Li) : Li := l.mergeSort fun x y => decide (x ≤ y)
def pL (x : Int) : Li → Li
 | [] => [x]
 | y :: l => if x ≤ y then x :: y :: l else y :: pL x l
def Lo : Li → Li
 | [] => []
 | x :: l => pL x (Lo l)
theorem Rj (x : Int) : ∀ l : Li, (pL x l).Perm (x :: l)
 | [] => .refl _
 | y :: l => by
  simp only [pL]
  split
  ·exact .refl _
  ·exact ((Rj x l).cons y).trans (.swap x y l)
theorem Lc : ∀ l : Li, (Lo l).Perm l
 | [] => .refl _
 | x :: l => (Rj x (Lo l)).trans ((Lc l).cons x)
theorem jG (x : Int) : ∀ l : Li, l.Pairwise (· ≤ ·) → (pL x l).Pairwise (· ≤ ·)
 | [], _ => by simp [pL]
 | y :: l, h => by
  simp only [pL]
  rw [List.pairwise_cons] at h
  split
  ·rename_i hxy
   refine List.pairwise_cons.2 ⟨fun z hz => ?_, List.pairwise_cons.2 h⟩
   rcases List.mem_cons.1 hz with rfl | hz
   ·exact hxy
   ·have := h.1 z hz; omega
  ·refine List.pairwise_cons.2 ⟨fun z hz => ?_, jG x l h.2⟩
   rcases List.mem_cons.1 ((Rj x l).mem_iff.1 hz) with rfl | hz
   ·omega
   ·exact h.1 z hz
theorem Xm : ∀ l : Li, (Lo l).Pairwise (· ≤ ·)
 | [] => .nil
 | x :: l => jG x _ (Xm l)
theorem bK (l : Li) : (Mq l).Pairwise (· ≤ ·) := by
 have := List.pairwise_mergeSort (le := fun x y : Int => decide (x ≤ y)) (by intro a b c; simp; omega) (by intro a b; simp; omega) l
 exact this.imp (by intro a b h; simpa using h)
theorem Sx (l : Li) : Mq l = Lo l :=
 List.Perm.eq_of_pairwise (fun a b _ _ c d => by omega) (bK l) (Xm l) ((List.mergeSort_perm l _).trans (Lc l).symm)
theorem K7 (l : Li) : (Mq l).length = l.length := by unfold Mq; simp
theorem Wt {f : FuncId} {ety : Nat} (hfn : ∃ fn, E.P.funcs[f]? = some fn ∧ (fn.name == "runtime.NumGoroutine") = false ∧ fn.body.isNone = false)
  (hc : ∀ (G4 off cap : Nat) (zs : Li) (w : World), Holds (Value.int .i64) w G4 off zs.toArray → G4 < w.heap.size → zs.length < 4611686018427387904 →
   Calls E.P f #[.slice (some ⟨G4, off, none⟩) zs.length cap] w fun e w' => e = .returned (.tuple #[]) ∧ ∃ n os, w' = grow (putRow (Value.int .i64) (Sort.ahead w n) G4 off (zs.mergeSort fun x y => decide (x ≤ y)).toArray) os)
  {d : Value} {a : Li} (hne : a ≠ []) :
  ACalls E f [.v d] [.us d ety 1 (a.map rI)] (D6 1 fun x os new => x = .tup [] ∧ os = [.us d ety 1 ((Mq a).map rI)] ∧ new = []) := by
 refine ⟨hfn, fun H w vs hsz hv hheld hfp hnd => ?_⟩
 have hor := (hfp _ (List.mem_singleton.2 rfl)).1
 have hfree := (hfp _ (List.mem_singleton.2 rfl)).2
 rcases (show UsR H w d ety 1 (a.map rI) from hor) with ⟨_, h⟩ | ⟨b, c, cap, rfl, hlc, hcc, harr⟩
 ·exact absurd (List.map_eq_nil_iff.1 h) hne
 rw [List.length_map] at hlc
 obtain ⟨cs, i, q, r, j, hH⟩ := harr.held
 have hbl : b < w.heap.size := (Array.getElem?_eq_some_iff.1 i).1
 have hvs : vs = #[.slice (some ⟨b, 0, none⟩) a.length c] := by
  have := (hv 0 _ rfl).v_eq
  obtain ⟨l⟩ := vs
  match l, hsz, this with
  | [x], _, this => simp [Array.getD] at this; subst this; simp
 subst hvs
 refine (hc b 0 c a w hH hbl (by simp only [Hj] at j; omega)).mono ?_
 rintro e w' ⟨rfl, n, os, rfl⟩
 have hb' := heap_sortedI (n := n) (os := os) (a.mergeSort fun x y => decide (x ≤ y)).toArray i
 obtain ⟨s, t, u, z, k⟩ := grownBy_sortedI (w := w) (g := b) (n := n) (os := os) (a.mergeSort fun x y => decide (x ≤ y)).toArray
 have hbH : H b = none := hfree b (by simp [Ob.fp, F7])
 refine ⟨.tuple #[], .tup [], [.us (.slice (some ⟨b, 0, none⟩) (a.map rI).length c) ety 1 ((Mq a).map rI)], H, rfl, ⟨[_], [], rfl, rfl, rfl, rfl, rfl⟩, .tup _ _ rfl (by simp), fun _ _ h => h, fun b' o ho => ?_, fun p hp => ?_, ?_, z, ⟨s, t, u⟩, fun b' hb'' hnin => ⟨?_, rfl⟩⟩
 ·have m := hheld.1 b' o ho
  have hne' : b' ≠ b := fun h => by rw [h, hbH] at ho; cases ho
  have hl' : b' < w.heap.size := (Array.getElem?_eq_some_iff.1 m).1
  rw [k b' hl' (by simp; omega)]; exact m
 ·rw [List.mem_singleton] at hp
  subst hp
  refine ⟨.inr ⟨b, c, cap, by simp [K7], by simp [K7]; omega, hcc, ?_⟩, fun b' hb'' => ?_⟩
  ·exact Ui (H := H) i q r j (K7 a) (Nat.le_refl _) (by simp) hb'
  ·simp only [Ob.fp, F7, List.mem_singleton] at hb''
   subst hb''
   exact ⟨hbH, .inr (by simp [Ob.fp, F7])⟩
 ·simp [Ob.fp, F7]
 ·have hne' : b' ≠ b := fun h => hnin (by simp [Ob.fp, F7, h])
  exact k b' hb'' (by simp; omega)
theorem Pb {f : FuncId} {ety : Nat} (hfn : ∃ fn, E.P.funcs[f]? = some fn ∧ (fn.name == "runtime.NumGoroutine") = false ∧ fn.body.isNone = false)
  (hc : ∀ (G4 off cap : Nat) (zs : Li) (w : World), Holds (Value.int .i64) w G4 off zs.toArray → zs.length ≤ 9223372036854775807 → zs.length ≤ cap →
   Calls E.P f #[.slice (some ⟨G4, off, none⟩) zs.length cap] w fun e w' => e = .returned (.slice (some ⟨G4, off, none⟩) (Lib.compact zs).length cap) ∧
    ∃ q, w' = putRow (Value.int .i64) (Sort.ahead w q) G4 off (Lib.compact zs ++ List.replicate (zs.length - (Lib.compact zs).length) 0).toArray)
  {d : Value} {a : Li} (hne : a ≠ []) :
  ACalls E f [.v d] [.us d ety 1 (a.map rI)] (D6 1 fun x os new => ∃ k : Value, x = .v k ∧ os = [.us (.slice none 0 0) ety 1 (([] : Li).map rI)] ∧ new = [.us k ety 1 ((Lib.compact a).map rI)]) := by
 refine ⟨hfn, fun H w vs hsz hv hheld hfp hnd => ?_⟩
 have hor := (hfp _ (List.mem_singleton.2 rfl)).1
 have hfree := (hfp _ (List.mem_singleton.2 rfl)).2
 rcases (show UsR H w d ety 1 (a.map rI) from hor) with ⟨_, h⟩ | ⟨b, c, cap, rfl, hlc, hcc, harr⟩
 ·exact absurd (List.map_eq_nil_iff.1 h) hne
 rw [List.length_map] at hlc
 obtain ⟨cs, i, z, A, m, hH⟩ := harr.held
 have hbl : b < w.heap.size := (Array.getElem?_eq_some_iff.1 i).1
 have hvs : vs = #[.slice (some ⟨b, 0, none⟩) a.length c] := by
  have := (hv 0 _ rfl).v_eq
  obtain ⟨l⟩ := vs
  match l, hsz, this with
  | [x], _, this => simp [Array.getD] at this; subst this; simp
 subst hvs
 have hcl := Ox a
 refine (hc b 0 c a w hH (by simp only [Hj] at m; omega) hlc).mono ?_
 rintro e w' ⟨rfl, n, rfl⟩
 have hb' := heap_sortedI (n := n) (os := #[]) (Lib.compact a ++ List.replicate (a.length - (Lib.compact a).length) 0).toArray i
 obtain ⟨r, s, t, u, j⟩ := grownBy_sortedI (w := w) (g := b) (n := n) (os := #[]) (Lib.compact a ++ List.replicate (a.length - (Lib.compact a).length) 0).toArray
 rw [grow_empty] at hb' r s t u j
 have hbH : H b = none := hfree b (by simp [Ob.fp, F7])
 refine ⟨_, .v (.slice (some ⟨b, 0, none⟩) (Lib.compact a).length c), [.us (.slice none 0 0) ety 1 (([] : Li).map rI), .us (.slice (some ⟨b, 0, none⟩) (Lib.compact a).length c) ety 1 ((Lib.compact a).map rI)], H, rfl, ⟨[_], [_], rfl, rfl, _, rfl, rfl, rfl⟩, .v _, fun _ _ h => h, fun b' o ho => ?_, fun p hp => ?_, ?_, u, ⟨r, s, t⟩, fun b' hb'' hnin => ⟨?_, rfl⟩⟩
 ·have y := hheld.1 b' o ho
  have hne' : b' ≠ b := fun h => by rw [h, hbH] at ho; cases ho
  have hl' : b' < w.heap.size := (Array.getElem?_eq_some_iff.1 y).1
  rw [j b' hl' (by simp; omega)]; exact y
 ·simp only [List.mem_cons, List.not_mem_nil, or_false] at hp
  rcases hp with rfl | rfl
  ·exact ⟨.inl ⟨rfl, rfl⟩, fun b' hb'' => by simp [Ob.fp, F7] at hb''⟩
  refine ⟨.inr ⟨b, c, cap, by simp, by simp; omega, hcc, ?_⟩, fun b' hb'' => ?_⟩
  ·exact Ui (H := H) i z A m (by simp; omega) (by simp) (by simp) hb'
  ·simp only [Ob.fp, F7, List.mem_singleton] at hb''
   subst hb''
   exact ⟨hbH, .inr (by simp [Ob.fp, F7])⟩
 ·simp [Ob.fp, F7]
 ·have hne' : b' ≠ b := fun h => hnin (by simp [Ob.fp, F7, h])
  exact j b' hb'' (by simp; omega)
end
end Go.Aw
namespace Go.Proofs.YtodeekicjiengaaGreatDoor
open Go.Aw
set_option linter.unusedVariables false
set_option linter.unusedSimpArgs false
structure Product where
 Name : ByteArray
 Density : Int
 Expansion : Int
 Compress : Int
 Friction : Int
 deriving DecidableEq
def Bw (x : Product) : List T := [.v (.string x.Name), .v (.int .i64 x.Density), .v (.int .i64 x.Expansion), .v (.int .i64 x.Compress), .v (.int .i64 x.Friction)]
structure Piece where
 Batch : Int
 Volume : Int
 deriving DecidableEq
def A9 (x : Piece) : List T := [.v (.int .i64 x.Batch), .v (.int .i64 x.Volume)]
structure Batch where
 Product : Int
 Shipper : ByteArray
 From : Int
 To : Int
 deriving DecidableEq
def D3 (x : Batch) : List T := [.v (.int .i64 x.Product), .v (.string x.Shipper), .v (.int .i64 x.From), .v (.int .i64 x.To)]
structure product_span where
 least : Int
 most : Int
 deriving DecidableEq
def Ev (x : product_span) : List T := [.v (.int .i64 x.least), .v (.int .i64 x.most)]
structure Bounds where
 Low : Int
 High : Int
 deriving DecidableEq
def Aq (x : Bounds) : List T := [.v (.int .i64 x.Low), .v (.int .i64 x.High)]
structure gradient_part where
 length : Int
 width : Int
 height : Int
 liquid : Product
 deriving DecidableEq
def C0 (x : gradient_part) : List T := [.v (.int .i64 x.length), .v (.int .i64 x.width), .v (.int .i64 x.height), .v (.string x.liquid.Name), .v (.int .i64 x.liquid.Density), .v (.int .i64 x.liquid.Expansion), .v (.int .i64 x.liquid.Compress), .v (.int .i64 x.liquid.Friction)]
structure Level where
 At : Int
 Bounds : Bounds
 deriving DecidableEq
def Ao (x : Level) : List T := [.v (.int .i64 x.At), .v (.int .i64 x.Bounds.Low), .v (.int .i64 x.Bounds.High)]
def Vn (e : KS) (f : Int) : Option (Product × KS) := (Hy (⟨#[112]⟩ : ByteArray) f).bind fun g => (Fo e 400 1200).bind fun a => (Ek a.2 ([0, 830, 2000, 1] : Li)).bind fun b => (Ek b.2 ([0, 800, 5000, 3] : Li)).bind fun c => (Ek c.2 ([1, 700, 1000, 1300, 2000] : Li)).bind fun d => some ((⟨g, a.1, b.1, c.1, d.1⟩ : Product), d.2)
def Qh.J1 (a : Li × Int × (List Product)) : Option ((List Product) × KS) := some (a.2.2, (⟨a.1, a.2.1⟩ : KS))
def Qh.B2 (a : Li × Int × (List Product) × Int) : Option ((Li × Int × (List Product) × Int) ⊕ ((Li × Int × (List Product)))) := if decide (a.2.2.2 > 0) = true then (Vn (⟨a.1, a.2.1⟩ : KS) (a.2.2.1.length : Int)).bind fun b => (Dx a.2.2.1 ([b.1] : List Product)).bind fun c => some (.inl (b.2.L_, b.2.At, c, wr (a.2.2.2 - 1))) else some ((.inr ((a.1, a.2.1, a.2.2.1))))
def Qh (b : KS) : Option ((List Product) × KS) := (Fo b 1 4).bind fun a => (C8 Qh.B2 Eh (a.2.L_, a.2.At, [], a.1)).bind fun c => Qh.J1 c
def Qj.J1 (a : Li × Int × (List Piece)) : Option ((List Piece) × KS) := some (a.2.2, (⟨a.1, a.2.1⟩ : KS))
def Qj.J4 (a : Li × Int × Int × (List Piece)) (b : Int × KS) (c : Int) (d : Int) : Option ((Li × Int × Int × (List Piece)) ⊕ ((Li × Int × (List Piece)))) := (Dx a.2.2.2 ([(⟨d, (min c a.2.2.1)⟩ : Piece)] : List Piece)).bind fun e => some (.inl (b.2.L_, b.2.At, wr (a.2.2.1 - (min c a.2.2.1)), e))
def Qj.J5 (g : Int) (a : Li × Int × Int × (List Piece)) (e : Int × KS) (b : Int × KS) (c : Int) (h : Bool) : Option ((Li × Int × Int × (List Piece)) ⊕ ((Li × Int × (List Piece)))) := if h = true then (Ww (wr (e.1 + 1)) g).bind fun f => (ix a.2.2.2 (wr ((a.2.2.2.length : Int) - 1))).bind fun d => if (d.2.Batch == f) = true then some (.inl (b.2.L_, b.2.At, wr (a.2.2.1 - (min c a.2.2.1)), (a.2.2.2.set d.1 (⟨d.2.Batch, wr (d.2.Volume + (min c a.2.2.1))⟩ : Piece)))) else Qj.J4 a b c f else Qj.J4 a b c e.1
def Qj.J3 (c : Int) (a : Li × Int × Int × (List Piece)) (b : Int × KS) (d : Int × KS) (e : Int) : Option ((Li × Int × Int × (List Piece)) ⊕ ((Li × Int × (List Piece)))) := if decide ((a.2.2.2.length : Int) > 0) = true then (ix a.2.2.2 (wr ((a.2.2.2.length : Int) - 1))).bind fun f => Qj.J5 c a b d e (f.2.Batch == b.1) else Qj.J5 c a b d e false
def Qj.B2 (b : Int) (a : Li × Int × Int × (List Piece)) : Option ((Li × Int × Int × (List Piece)) ⊕ ((Li × Int × (List Piece)))) := if (decide (a.2.2.1 > 0) && decide ((a.2.2.2.length : Int) < 12)) = true then (D5 (⟨a.1, a.2.1⟩ : KS) b).bind fun c => (Fo c.2 1 (max 1 (wr ((wr (a.2.2.1 * 2)).tdiv 3)))).bind fun d => if ((a.2.2.2.length : Int) == 11) = true then Qj.J3 b a c d a.2.2.1 else Qj.J3 b a c d d.1 else some ((.inr ((a.1, a.2.1, a.2.2.2))))
def Qj (a : KS) (b : Int) (c : Int) : Option ((List Piece) × KS) := (C8 (Qj.B2 c) Eh (a.L_, a.At, b, [])).bind fun d => Qj.J1 d
def Qd.J1 (a : Li × Int × (List Batch)) : Option ((List Batch) × KS) := some (a.2.2, (⟨a.1, a.2.1⟩ : KS))
def Qd.B2 (d : Int) (e : Int) (a : Li × Int × (List Batch) × Int) : Option ((Li × Int × (List Batch) × Int) ⊕ ((Li × Int × (List Batch)))) := if decide (a.2.2.2 < d) = true then (D5 (⟨a.1, a.2.1⟩ : KS) e).bind fun c => (D5 c.2 3).bind fun b => (Hy (⟨#[102]⟩ : ByteArray) b.1).bind fun f => (Dx a.2.2.1 ([(⟨c.1, f, 0, 1⟩ : Batch)] : List Batch)).bind fun g => some (.inl (b.2.L_, b.2.At, g, wr (a.2.2.2 + 1))) else some ((.inr ((a.1, a.2.1, a.2.2.1))))
def Qd (a : KS) (b : Int) (c : Int) : Option ((List Batch) × KS) := (C8 (Qd.B2 b c) Eh (a.L_, a.At, [], 0)).bind fun d => Qd.J1 d
def Vb (a : Segment) : Option Int := (Gt (⟨([(⟨#[97]⟩ : ByteArray), (⟨#[98]⟩ : ByteArray)] : List ByteArray), ([(⟨a.Name, 0, 1, a.Capacity, a.Resist, a.Wave, a.Points⟩ : Segment)] : List Segment), [], [], 0, 0⟩ : Network)).bind fun b => if (b != 0) = true then some 9 else some 0
def P2 (a : Piece) : Bool := (decide (a.Batch ≥ 0) && (decide (a.Batch < 1000) && (decide (a.Volume ≥ 0) && decide (a.Volume ≤ 1000000))))
def Kz.J1 (a : Int) : Option Int := some a
def Kz.B2 (c : Nat) (a : Piece) (b : Int) : Option Int := some (wr (b + a.Volume))
def Kz (a : List Piece) : Option Int := (forS Kz.B2 0 a 0).bind fun b => Kz.J1 b
def Kx.J1 (a : List Piece) (c : Unit) : Option Bool := (Kz a).bind fun b => some (decide (b ≤ 1000000))
def Kx.J3 (a : Bool) : Option (Unit ⊕ (Bool)) := if a = true then some ((.inr (false))) else some (.inl ())
def Kx.B2 (c : List Piece) (b : Nat) (a : Piece) (e : Unit) : Option (Unit ⊕ (Bool)) := if (!(P2 a)) = true then Kx.J3 true else if (a.Volume == 0) = true then Kx.J3 true else if decide ((b : Int) > 0) = true then (ix c (wr ((b : Int) - 1))).bind fun d => Kx.J3 (d.2.Batch == a.Batch) else Kx.J3 false
def Kx (a : List Piece) : Option Bool := if decide ((a.length : Int) > 200) = true then some false else (forL (Kx.B2 a) 0 a ()).bind fun b => Sum.elim (fun d => Kx.J1 a ()) (fun c => some c) b
def M4 (a : List Piece) : Option Int := (Kx a).bind fun b => if (!b) = true then some 0 else (Kz a).bind fun c => some c
def P8.J1 (a : Segment) (b : List Piece) (c : Bool) : Option Int := if c = true then some 9 else (M4 b).bind fun d => if (d != a.Capacity) = true then some 14 else some 0
def P8 (a : Segment) (b : List Piece) : Option Int := (Vb a).bind fun c => if (c != 0) = true then P8.J1 a b true else (Kx b).bind fun d => P8.J1 a b (!d)
def Vs (a : Li) : Option Li := if a = [] then none else some (Lo a)
def V0 (a : Li) : Option Li := if a = [] then none else some (Go.Lib.compact a)
def Nd.J2 (a : Li) : Option Li := (Vs a).bind fun b => (V0 b).bind fun c => some c
def Nd.B3 (d : Nat) (b : Piece) (a : Li × Int) : Option (Li × Int) := (Dx a.1 ([wr (a.2 + b.Volume)] : Li)).bind fun c => some (c, wr (a.2 + b.Volume))
def Nd.J1 (a : List Piece) (b : Li) : Option Li := (forS Nd.B3 0 a (b, 0)).bind fun c => Nd.J2 c.1
def Nd.B4 (d : Nat) (a : Point) (b : Li) : Option Li := (Dx b ([a.At] : Li)).bind fun c => some c
def Nd (a : Segment) (b : List Piece) : Option Li := (forS Nd.B4 0 a.Points []).bind fun c => Nd.J1 b c
def K5 (a : Product) : (Arr Int 4) := (⟨[a.Density, a.Expansion, a.Compress, a.Friction], rfl⟩ : Arr Int 4)
def Va.J1 (a : Product) (c : Unit) : Option Bool := (Iw a.Name).bind fun b => some b
def Va.J3 (a : Bool) : Option (Unit ⊕ (Bool)) := if a = true then some ((.inr (false))) else some (.inl ())
def Va.B2 (d : Product) (a : Nat) (e : Unit) : Option (Unit ⊕ (Bool)) := (ix ([⟨400, 1200⟩, ⟨0, 2000⟩, ⟨0, 5000⟩, ⟨1, 2000⟩] : List product_span) (a : Int)).bind fun b => (ix ((K5 d).l) (a : Int)).bind fun c => if decide (c.2 < b.2.least) = true then Va.J3 true else Va.J3 (decide (c.2 > b.2.most))
def Va (a : Product) : Option Bool := (forI (Va.B2 a) 0 4 ()).bind fun b => Sum.elim (fun d => Va.J1 a ()) (fun c => some c) b
def P6.J1 (a : Unit) : Option Int := some (-1)
def P6.B2 (a : Product → Option Bool) (b : Nat) (c : Product) (e : Unit) : Option (Unit ⊕ (Int)) := (a c).bind fun d => if d = true then some ((.inr ((b : Int)))) else some (.inl ())
def P6 (a : List Product) (b : Product → Option Bool) : Option Int := (forL (P6.B2 b) 0 a ()).bind fun c => Sum.elim (fun e => P6.J1 ()) (fun d => some d) c
def K1 (a : Product) (b : ByteArray) : Bool := (Sh a.Name b)
def Y6 (a : List Product) (b : ByteArray) : Option Int := (P6 a (fun x => some (K1 x b))).bind fun c => some c
def Mz.J2 (a : Unit) : Option Int := some 0
def Mz.B3 (a : List Product) (b : Nat) (c : Product) (e : Unit) : Option (Unit ⊕ (Int)) := (Y6 a c.Name).bind fun d => if decide (d < (b : Int)) = true then some ((.inr (7))) else some (.inl ())
def Mz.J1 (a : List Product) (d : Unit) : Option Int := (forL (Mz.B3 a) 0 a ()).bind fun b => Sum.elim (fun e => Mz.J2 ()) (fun c => some c) b
def Mz.B4 (c : Nat) (a : Product) (d : Unit) : Option (Unit ⊕ (Int)) := (Va a).bind fun b => if (!b) = true then some ((.inr (9))) else some (.inl ())
def Mz (a : List Product) : Option Int := if decide ((a.length : Int) > 16) = true then some 4 else (forL Mz.B4 0 a ()).bind fun b => Sum.elim (fun d => Mz.J1 a ()) (fun c => some c) b
def Hd.J1 (a : List Product) : Option ((List Product) × Int) := some (a, 0)
def Hd.B2 (b : List Batch) (c : List Product) (h : Nat) (d : Piece) (e : List Product) : Option ((List Product) ⊕ (((List Product) × Int))) := if decide (d.Batch ≥ (b.length : Int)) = true then some ((.inr (([], 8)))) else (ix b d.Batch).bind fun a => if (decide (a.2.Product < 0) || decide (a.2.Product ≥ (c.length : Int))) = true then some ((.inr (([], 8)))) else (ix c a.2.Product).bind fun f => (Dx e ([f.2] : List Product)).bind fun g => some (.inl g)
def Hd (a : List Piece) (b : List Batch) (c : List Product) : Option ((List Product) × Int) := (forL (Hd.B2 b c) 0 a []).bind fun d => Sum.elim (fun e => Hd.J1 e) (fun f => some f) d
def Ks (a : Bounds) : Bool := (decide (a.Low ≤ a.High) && (decide (a.Low ≥ (-1125899906842624)) && decide (a.High ≤ 1125899906842624)))
def Qn.J1 (a : Int) : Option Int := some a
def Qn.B2 (b : Int → Option Bool) (a : Int × Int) : Option ((Int × Int) ⊕ (Int)) := if decide (a.1 < a.2) = true then (b (wr (((IntKind.u64.wrap (wr (a.1 + a.2))).fdiv 2)))).bind fun c => if (!c) = true then some (.inl (wr ((wr (((IntKind.u64.wrap (wr (a.1 + a.2))).fdiv 2))) + 1), a.2)) else some (.inl (a.1, wr (((IntKind.u64.wrap (wr (a.1 + a.2))).fdiv 2)))) else some ((.inr (a.1)))
def Qn (a : Int) (b : Int → Option Bool) : Option Int := (C8 (Qn.B2 b) Eh (0, a)).bind fun c => Qn.J1 c
def Vi (a : Int) (b : Segment) (c : Int) : Option Bool := (ix b.Points a).bind fun d => some (decide (d.2.At ≥ c))
def Uy (a : Segment) (b : Int) : Option Int := (Qn (wr ((a.Points.length : Int) - 1)) (fun x => Vi x a b)).bind fun c => some c
def Vv.J1 (a : List gradient_part) : Option (List gradient_part) := some a
def Vv.J3 (b : (List gradient_part) × Int × Int × Int) (a : (List gradient_part) × Int × Int) : Option (((List gradient_part) × Int × Int × Int) ⊕ ((List gradient_part))) := some (.inl (a.1, a.2.1, a.2.2, wr (b.2.2.2 + 1)))
def Vv.J5 (d : List Product) (e : Li) (b : (List gradient_part) × Int × Int × Int) (c : Int × Int) (f : Nat × Int) (a : Int × Int × Int × Int × Int × Int) : Option (((List gradient_part) × Int × Int × Int) ⊕ ((List gradient_part))) := (ix e (wr (b.2.2.2 - 1))).bind fun g => (ix d c.1).bind fun h => (Dx b.1 ([(⟨wr (f.2 - g.2), wr (a.2.2.2.1 - a.1), wr (a.2.2.2.2.1 - a.2.1), h.2⟩ : gradient_part)] : List gradient_part)).bind fun i => Vv.J3 b (i, c.1, c.2)
def Vv.J4 (a : Segment) (h : List Product) (d : Li) (e : (List gradient_part) × Int × Int × Int) (i : Int × Int) : Option (((List gradient_part) × Int × Int × Int) ⊕ ((List gradient_part))) := (ix d e.2.2.2).bind fun f => (Uy a f.2).bind fun g => (ix a.Points (wr (g - 1))).bind fun b => (ix a.Points g).bind fun c => Vv.J5 h d e i f (b.2.At, b.2.Height, b.2.Limit, c.2.At, c.2.Height, c.2.Limit)
def Vv.B6 (b : List Piece) (c : Li) (d : (List gradient_part) × Int × Int × Int) (a : Int × Int) : Option ((Int × Int) ⊕ ((Int × Int))) := (ix c d.2.2.2).bind fun e => if decide (e.2 > a.2) = true then (ix b (wr (a.1 + 1))).bind fun f => some (.inl (wr (a.1 + 1), wr (a.2 + f.2.Volume))) else some ((.inr ((a.1, a.2))))
def Vv.B2 (c : Segment) (d : List Piece) (e : List Product) (b : Li) (a : (List gradient_part) × Int × Int × Int) : Option (((List gradient_part) × Int × Int × Int) ⊕ ((List gradient_part))) := if decide (a.2.2.2 < (b.length : Int)) = true then (C8 (Vv.B6 d b a) Eh (a.2.1, a.2.2.1)).bind fun f => Vv.J4 c e b a f else some ((.inr (a.1)))
def Vv (b : Segment) (a : List Piece) (c : List Product) (d : Li) : Option (List gradient_part) := (ix a 0).bind fun e => (C8 (Vv.B2 b a c d) Eh ([], 0, e.2.Volume, 1)).bind fun f => Vv.J1 f
def K3.J1 (a : Int × Int) : Option (Int × Int × Bool) := some (a.1, a.2, true)
def K3 (b : Int) (a : Int) : Option (Int × Int × Bool) := if (decide (a < 1) || (decide (a > 1099511627776) || (decide (b < (-2305843009213693952)) || decide (b > 2305843009213693952)))) = true then some (0, 0, false) else (aY b a).bind fun d => (Ww b a).bind fun c => if decide (c < 0) = true then K3.J1 (wr (d - 1), wr (c + a)) else K3.J1 (d, c)
def Mx (a : Int) (b : Int) : Option Int := (K3 a b).bind fun c => some c.1
def Pu.J1 (a : Int) : Option Int := some a
def Pu (b : Int) (c : Int) : Option Int := (K3 b c).bind fun a => if (a.2.2 && decide (a.2.1 > 0)) = true then Pu.J1 (wr (a.1 + 1)) else Pu.J1 a.1
def Vh (a : gradient_part) (b : Segment) (c : Int) : Option (Int × Int) := (Mx (wr ((wr ((wr ((wr (b.Resist * a.liquid.Friction)) * c)) * c)) * a.length)) (wr (1000 * b.Capacity))).bind fun d => (Mx (wr ((wr ((wr (a.liquid.Density * 9807)) * a.height)) * a.length)) (wr (1000 * a.width))).bind fun e => (Pu (wr ((wr ((wr ((wr (b.Resist * a.liquid.Friction)) * c)) * c)) * a.length)) (wr (1000 * b.Capacity))).bind fun f => (Pu (wr ((wr ((wr (a.liquid.Density * 9807)) * a.height)) * a.length)) (wr (1000 * a.width))).bind fun g => some (wr (d + e), wr (f + g))
def Ip (a : Li) : Option Li := Dx [] a
def Y5.J2 (a : Li × Int × Int) (b : Li) : Option ((Li × Int × Int) ⊕ (Li)) := some (.inl (b, wr (a.2.1 + 1), wr (a.2.2 - 1)))
def Y5.B1 (a : Li × Int × Int) : Option ((Li × Int × Int) ⊕ (Li)) := if decide (a.2.1 < a.2.2) = true then (ix a.1 a.2.2).bind fun c => (ix a.1 a.2.1).bind fun b => (ix (a.1.set b.1 c.2) a.2.2).bind fun d => Y5.J2 a ((a.1.set b.1 c.2).set d.1 b.2) else some ((.inr (a.1)))
def Y5 (a : Li) : Option Li := (C8 Y5.B1 Eh (a, 0, wr ((a.length : Int) - 1))).bind fun b => some b
def Zc.J2 (a : (List gradient_part) × Int × Int) (b : List gradient_part) : Option (((List gradient_part) × Int × Int) ⊕ ((List gradient_part))) := some (.inl (b, wr (a.2.1 + 1), wr (a.2.2 - 1)))
def Zc.B1 (a : (List gradient_part) × Int × Int) : Option (((List gradient_part) × Int × Int) ⊕ ((List gradient_part))) := if decide (a.2.1 < a.2.2) = true then (ix a.1 a.2.2).bind fun c => (ix a.1 a.2.1).bind fun b => (ix (a.1.set b.1 c.2) a.2.2).bind fun d => Zc.J2 a ((a.1.set b.1 c.2).set d.1 b.2) else some ((.inr (a.1)))
def Zc (a : List gradient_part) : Option (List gradient_part) := (C8 Zc.B1 Eh (a, 0, wr ((a.length : Int) - 1))).bind fun b => some b
def We.J2 (a : (List Level) × Int × Int) (b : List Level) : Option (((List Level) × Int × Int) ⊕ ((List Level))) := some (.inl (b, wr (a.2.1 + 1), wr (a.2.2 - 1)))
def We.B1 (a : (List Level) × Int × Int) : Option (((List Level) × Int × Int) ⊕ ((List Level))) := if decide (a.2.1 < a.2.2) = true then (ix a.1 a.2.2).bind fun c => (ix a.1 a.2.1).bind fun b => (ix (a.1.set b.1 c.2) a.2.2).bind fun d => We.J2 a ((a.1.set b.1 c.2).set d.1 b.2) else some ((.inr (a.1)))
def We (a : List Level) : Option (List Level) := (C8 We.B1 Eh (a, 0, wr ((a.length : Int) - 1))).bind fun b => some b
def F9.J3 (a : List Level) : Option ((List Level) × Int) := some (a, 0)
def F9.J2 (b : Int) (a : List Level) : Option ((List Level) × Int) := if decide (b < 0) = true then (We a).bind fun c => F9.J3 c else F9.J3 a
def F9.B4 (f : Segment) (c : Int) (d : (List gradient_part) × Li) (e : Nat) (a : Int × Int × (List Level)) : Option (Int × Int × (List Level)) := (ix d.1 (e : Int)).bind fun g => (Vh g.2 f (max c (wr (0 - c)))).bind fun b => (ix d.2 ((e + 1 : Nat) : Int)).bind fun h => (Dx a.2.2 ([(⟨h.2, (⟨wr (a.1 - b.2), wr (a.2.1 - b.1)⟩ : Bounds)⟩ : Level)] : List Level)).bind fun i => some (wr (a.1 - b.2), wr (a.2.1 - b.1), i)
def F9.J1 (d : Segment) (c : Int) (a : Bounds) (b : (List gradient_part) × Li) : Option ((List Level) × Int) := (ix b.2 0).bind fun e => (forJ (F9.B4 d c b) 0 b.1.length (a.Low, a.High, ([(⟨e.2, a⟩ : Level)] : List Level))).bind fun f => F9.J2 c f.2.2
def F9.B5 (c : Nat) (b : List gradient_part) : Option (List gradient_part) := (ix b (c : Int)).bind fun a => some (b.set a.1 (⟨a.2.length, a.2.width, wr (0 - a.2.height), a.2.liquid⟩ : gradient_part))
def F9 (b : Segment) (c : List Piece) (m : List Batch) (f : List Product) (a : Int) (d : Bounds) : Option ((List Level) × Int) := (P8 b c).bind fun g => if (g != 0) = true then some ([], g) else (Mz f).bind fun h => if (h != 0) = true then some ([], h) else (Hd c m f).bind fun e => if (e.2 != 0) = true then some ([], e.2) else if ((a == 0) || (decide (a < (-1000)) || (decide (a > 1000) || (!(Ks d))))) = true then some ([], 1) else (Nd b c).bind fun i => (Vv b c e.1 i).bind fun j => (Ip i).bind fun k => if decide (a < 0) = true then (Y5 k).bind fun n => (Zc j).bind fun l => (forJ F9.B5 0 l.length l).bind fun o => F9.J1 b a d (o, n) else F9.J1 b a d (j, k)
def Qp.J1 (a : Li × Int × (List (List Piece))) : Option ((List (List Piece)) × KS) := some (a.2.2, (⟨a.1, a.2.1⟩ : KS))
def Qp.B2 (c : Int) (f : Nat) (d : Segment) (a : Li × Int × (List (List Piece))) : Option (Li × Int × (List (List Piece))) := (Qj (⟨a.1, a.2.1⟩ : KS) d.Capacity c).bind fun b => (Dx a.2.2 ([b.1] : List (List Piece))).bind fun e => some (b.2.L_, b.2.At, e)
def Qp (b : KS) (c : Network) (d : Int) : Option ((List (List Piece)) × KS) := (forS (Qp.B2 d) 0 c.Segments (b.L_, b.At, [])).bind fun a => Qp.J1 (a.1, a.2.1, a.2.2)
end Go.Proofs.YtodeekicjiengaaGreatDoor
namespace Go.Proofs
open Go.Shelf
def Og : Go.Shelf.Ren := ⟨fun | 189 => 169 | 125 => 177 | 257 => 176 | 128 => 191 | 129 => 192 | 294 => 182 | 295 => 183 | 296 => 184 | 297 => 185 | 298 => 186 | 299 => 187 | 216 => 188 | 300 => 189 | 301 => 190 | 328 => 193 | 329 => 194 | 330 => 195 | 331 => 196 | 332 => 197 | 215 => 198 | 343 => 199 | n => n, fun | 28 => 22 | 3 => 3 | 46 => 217 | 0 => 0 | 51 => 230 | 53 => 232 | 4 => 4 | 183 => 223 | 182 => 222 | 131 => 227 | 5 => 5 | 9 => 9 | 218 => 233 | 222 => 237 | 228 => 239 | 229 => 137 | n => n, fun | n => n⟩
theorem Wp : Go.Proofs.Lays.n189 Tryz.prog Og := {
 mixed := by kernel_rfl
 f125 := Tryz.func177.trans (congrArg some (by kernel_rfl))
 f128 := Tryz.func191.trans (congrArg some (by kernel_rfl))
 f129 := Tryz.func192.trans (congrArg some (by kernel_rfl))
 f189 := Tryz.func169.trans (congrArg some (by kernel_rfl))
 f215 := Tryz.func198.trans (congrArg some (by kernel_rfl))
 f216 := Tryz.func188.trans (congrArg some (by kernel_rfl))
 f257 := Tryz.func176.trans (congrArg some (by kernel_rfl))
 f294 := Tryz.func182.trans (congrArg some (by kernel_rfl))
 f295 := Tryz.func183.trans (congrArg some (by kernel_rfl))
 f296 := Tryz.func184.trans (congrArg some (by kernel_rfl))
 f297 := Tryz.func185.trans (congrArg some (by kernel_rfl))
 f298 := Tryz.func186.trans (congrArg some (by kernel_rfl))
 f299 := Tryz.func187.trans (congrArg some (by kernel_rfl))
 f300 := Tryz.func189.trans (congrArg some (by kernel_rfl))
 f301 := Tryz.func190.trans (congrArg some (by kernel_rfl))
 f328 := Tryz.func193.trans (congrArg some (by kernel_rfl))
 f329 := Tryz.func194.trans (congrArg some (by kernel_rfl))
 f330 := Tryz.func195.trans (congrArg some (by kernel_rfl))
 f331 := Tryz.func196.trans (congrArg some (by kernel_rfl))
 f332 := Tryz.func197.trans (congrArg some (by kernel_rfl))
 f343 := Tryz.func199.trans (congrArg some (by kernel_rfl))
 t0 := Tryz.underlying0
 a0 := Tryz.isAgg0
 z0 := Tryz.sizeOf0
 v0 := Tryz.zeroValue0
 t3 := Tryz.underlying3
 a3 := Tryz.isAgg3
 z3 := Tryz.sizeOf3
 v3 := Tryz.zeroValue3
 t4 := Tryz.underlying4
 a4 := Tryz.isAgg4
 z4 := Tryz.sizeOf4
 v4 := Tryz.zeroValue4
 t5 := Tryz.underlying5
 a5 := Tryz.isAgg5
 z5 := Tryz.sizeOf5
 v5 := Tryz.zeroValue5
 t9 := Tryz.underlying9
 a9 := Tryz.isAgg9
 z9 := Tryz.sizeOf9
 v9 := Tryz.zeroValue9
 t28 := Tryz.underlying22
 a28 := Tryz.isAgg22
 z28 := Tryz.sizeOf22
 v28 := Tryz.zeroValue22
 t46 := Tryz.underlying217
 a46 := Tryz.isAgg217
 z46 := Tryz.sizeOf217
 v46 := Tryz.zeroValue217
 t51 := Tryz.underlying230
 a51 := Tryz.isAgg230
 z51 := Tryz.sizeOf230
 v51 := Tryz.zeroValue230
 t53 := Tryz.underlying232
 a53 := Tryz.isAgg232
 z53 := Tryz.sizeOf232
 v53 := Tryz.zeroValue232
 t131 := Tryz.underlying227
 a131 := Tryz.isAgg227
 z131 := Tryz.sizeOf227
 v131 := Tryz.zeroValue227
 t182 := Tryz.underlying222
 a182 := Tryz.isAgg222
 z182 := Tryz.sizeOf222
 v182 := Tryz.zeroValue222
 t183 := Tryz.underlying223
 a183 := Tryz.isAgg223
 z183 := Tryz.sizeOf223
 v183 := Tryz.zeroValue223
 t218 := Tryz.underlying233
 a218 := Tryz.isAgg233
 z218 := Tryz.sizeOf233
 v218 := Tryz.zeroValue233
 t222 := Tryz.underlying237
 a222 := Tryz.isAgg237
 z222 := Tryz.sizeOf237
 v222 := Tryz.zeroValue237
 t228 := Tryz.underlying239
 a228 := Tryz.isAgg239
 z228 := Tryz.sizeOf239
 v228 := Tryz.zeroValue239
 t229 := Tryz.underlying137
 a229 := Tryz.isAgg137
 z229 := Tryz.sizeOf137
 v229 := Tryz.zeroValue137 }
open Go.Sort Go.RowKit in
theorem Tryz.slices_Sort_int (G4 off cap : Nat) (zs : List Int) (w : World) (hH : Holds (Value.int .i64) w G4 off zs.toArray) (hblk : G4 < w.heap.size) (hsz : zs.length < 4611686018427387904) :
  Calls Tryz.prog 169 #[.slice (some ⟨G4, off, none⟩) zs.length cap] w fun e w' =>
   e = .returned (.tuple #[]) ∧ ∃ n os, w' = grow (putRow (Value.int .i64) (Sort.ahead w n) G4 off (zs.mergeSort fun x y => decide (x ≤ y)).toArray) os := Any.slices_Sort_int Wp G4 off cap zs w hH hblk hsz
def Lk : Go.Shelf.Ren := ⟨fun | 20 => 170 | n => n, fun | 22 => 22 | 3 => 3 | 4 => 4 | 0 => 0 | n => n, fun | n => n⟩
theorem Sd : Go.Proofs.Lays2.n20 Tryz.prog Lk := {
 mixed := by kernel_rfl
 f20 := Tryz.func170.trans (congrArg some (by kernel_rfl))
 t0 := Tryz.underlying0
 a0 := Tryz.isAgg0
 z0 := Tryz.sizeOf0
 v0 := Tryz.zeroValue0
 t3 := Tryz.underlying3
 a3 := Tryz.isAgg3
 z3 := Tryz.sizeOf3
 v3 := Tryz.zeroValue3
 t4 := Tryz.underlying4
 a4 := Tryz.isAgg4
 z4 := Tryz.sizeOf4
 v4 := Tryz.zeroValue4
 t22 := Tryz.underlying22
 a22 := Tryz.isAgg22
 z22 := Tryz.sizeOf22
 v22 := Tryz.zeroValue22
 i3 := by kernel_rfl }
open Go.RowKit Go.Lib Go.Sort in
theorem Tryz.slices_Compact_int (G4 off cap : Nat) (zs : List Int) (w : World) (hH : Holds (Value.int .i64) w G4 off zs.toArray) (hsz : zs.length ≤ 9223372036854775807) (hcap : zs.length ≤ cap) :
  Calls Tryz.prog 170 #[.slice (some ⟨G4, off, none⟩) zs.length cap] w fun e w' => e = .returned (.slice (some ⟨G4, off, none⟩) (Lib.compact zs).length cap) ∧ ∃ q, w' = putRow (Value.int .i64) (Sort.ahead w q) G4 off (Lib.compact zs ++ List.replicate (zs.length - (Lib.compact zs).length) 0).toArray := Any.slices_Compact_int Sd G4 off cap zs w hH hsz hcap
end Go.Proofs
namespace Go.Proofs.YtodeekicjiengaaGreatDoor
open Go.Aw
set_option linter.unusedVariables false
set_option linter.unusedSimpArgs false
structure station_pump where
 Station : Station
 deriving DecidableEq
def Hr (x : station_pump) : List T := [.v (.string x.Station.Name), .v (.int .i64 x.Station.Node), .v (.int .i64 x.Station.Head), .v (.int .i64 x.Station.Fall), .v (.int .i64 x.Station.Suction)]
structure Pressures where
 Known : List Bool
 Nodes : List Bounds
 Segments : List (List Level)
 deriving DecidableEq
def A8 (x : Pressures) : List T := [.list 1 (x.Known.map rB), .list 2 (x.Nodes.map Aq), .list 1 (x.Segments.map (rL 3 Ao))]
structure steady_line where
 n_ : Network
 batches : List Batch
 products : List Product
 fills : List (List Piece)
 p : Plan
 x : Pressures
 deriving DecidableEq
def Ax (x : steady_line) (a b c : Value) : List T := [.list 1 (x.n_.Nodes.map rS), .list 7 (x.n_.Segments.map Ak), .list 3 (x.n_.Ports.map Cb), .list 5 (x.n_.Stations.map Ba), .v (.int .i64 x.n_.Vapour), .v (.int .i64 x.n_.Settle), .list 4 (x.batches.map D3), .list 5 (x.products.map Bw), .list 1 (x.fills.map (rL 2 A9)), .list 1 (x.p.Rates.map rI), .list 1 (x.p.Ports.map rI), .list 1 (x.p.Pumps.map rB), .v (a), .v (b), .v (c)]
structure Fault where
 Kind : Int
 Index : Int
 At : Int
 deriving DecidableEq
def Cq (x : Fault) : List T := [.v (.int .i64 x.Kind), .v (.int .i64 x.Index), .v (.int .i64 x.At)]
def Us (a : Network) (b : Plan) : Option (Li × Int) := (He a b).bind fun c => if (c != 0) = true then some ([], c) else (Kt a b).bind fun d => some (d, 0)
def Uz.J1 (a : Unit) : Option Int := some (-1)
def Uz.B2 (a : (List Piece) → Option Bool) (b : Nat) (c : List Piece) (e : Unit) : Option (Unit ⊕ (Int)) := (a c).bind fun d => if d = true then some ((.inr ((b : Int)))) else some (.inl ())
def Uz (a : List (List Piece)) (b : (List Piece) → Option Bool) : Option Int := (forL (Uz.B2 b) 0 a ()).bind fun c => Sum.elim (fun e => Uz.J1 ()) (fun d => some d) c
def Qm (a : List (List Piece)) (b : (List Piece) → Option Bool) : Option Bool := (Uz a b).bind fun c => some (decide (c ≥ 0))
def Vq (a : List Piece) : Option Bool := (Kx a).bind fun b => some (!b)
def Pv.J2 (a : Unit) : Option Int := some 0
def Pv.B3 (a : Network) (b : Nat) (c : List Piece) (f : Unit) : Option (Unit ⊕ (Int)) := (M4 c).bind fun d => (ix a.Segments (b : Int)).bind fun e => if (d != e.2.Capacity) = true then some ((.inr (14))) else some (.inl ())
def Pv.J1 (a : Network) (b : List (List Piece)) (c : Bool) : Option Int := if c = true then some 9 else (forL (Pv.B3 a) 0 b ()).bind fun d => Sum.elim (fun f => Pv.J2 ()) (fun e => some e) d
def Pv (a : Network) (b : List (List Piece)) : Option Int := (Gt a).bind fun c => if (c != 0) = true then some c else if ((b.length : Int) != (a.Segments.length : Int)) = true then Pv.J1 a b true else (Qm b (fun x => Vq x)).bind fun d => Pv.J1 a b d
def El (a : Int) (b : Int) : Bool := (decide (a ≥ 0) && decide (a ≤ b))
def Pw.J1 (a : Bool) : Option Bool := some a
def Pw (a : Station) : Option Bool := (Iw a.Name).bind fun b => if b = true then if (El a.Node 23) = true then if (El a.Head 100000000) = true then if (El a.Fall 100000) = true then Pw.J1 (El a.Suction 100000000) else Pw.J1 false else Pw.J1 false else Pw.J1 false else Pw.J1 false
def Y8 (a : station_pump) (b : Int) : Option Int := (Mx (wr ((wr (a.Station.Fall * b)) * b)) 1000).bind fun c => some (max 0 (wr (a.Station.Head - c)))
def Vu (b : Station) (a : Int) : Option (Int × Int) := (Pw b).bind fun c => if (!c) = true then some (0, 9) else if (decide (a < 0) || decide (a > 32000)) = true then some (0, 1) else (Y8 (⟨b⟩ : station_pump) a).bind fun d => some (d, 0)
def Ur (c : Station) (a : Bounds) (d : Int) : Option (Bounds × Int) := (Vu c d).bind fun b => if (b.2 != 0) = true then some ((⟨0, 0⟩ : Bounds), b.2) else if (decide (a.Low > a.High) || (decide (a.Low < (-1125899906842624)) || decide (a.High > 1125899906842624))) = true then some ((⟨0, 0⟩ : Bounds), 1) else some ((⟨wr (a.Low + b.1), wr (a.High + b.1)⟩ : Bounds), 0)
def M9.J1 (a : Bool) : Option Bool := some a
def M9 (a : Int) (b : List Batch) (d : List Product) : Option Bool := if decide (a < (b.length : Int)) = true then (ix b a).bind fun c => if decide (c.2.Product ≥ 0) = true then M9.J1 (decide (c.2.Product < (d.length : Int))) else M9.J1 false else M9.J1 false
def Iu.J1 (a : steady_line) (b : Int) (c : Int × Int) : Option steady_line := (ix a.x.Known b).bind fun d => (ix a.x.Nodes b).bind fun e => some (⟨a.n_, a.batches, a.products, a.fills, a.p, (⟨(a.x.Known.set d.1 true), (a.x.Nodes.set e.1 (⟨c.1, c.2⟩ : Bounds)), a.x.Segments⟩ : Pressures)⟩ : steady_line)
def Iu (a : steady_line) (b : Int) (c : Bounds) : Option steady_line := (ix a.x.Known b).bind fun e => if e.2 = true then (ix a.x.Nodes b).bind fun d => Iu.J1 a b ((min d.2.Low c.Low), (min d.2.High c.High)) else Iu.J1 a b (c.Low, c.High)
def Np.J1 (a : steady_line) (b : Int) : Option (Int × steady_line) := some (b, a)
def Np.J3 (a : Int) : Option Int := some a
def Np.B2 (c : steady_line) (d : Int) (e : Nat) (f : Segment) (b : Int) : Option Int := (ix c.p.Rates (e : Int)).bind fun a => if (((Bn f a.2).1) == d) = true then Np.J3 (wr (b + (max a.2 (wr (0 - a.2))))) else Np.J3 b
def Np (a : steady_line) (b : Int) : Option (Int × steady_line) := (forS (Np.B2 a b) 0 a.n_.Segments 0).bind fun c => Np.J1 a c
def Px.J1 (a : steady_line) (b : Nat × Bounds) (c : Unit) : Option (Bounds × Int × steady_line) := some (b.2, 0, a)
def Px.J3 (c : steady_line) (d : Int) (e : Nat × Bounds) (f : Station) (g : Bool) : Option (Unit ⊕ ((Bounds × Int × steady_line))) := if g = true then (Np c d).bind fun a => (Ur f e.2 a.1).bind fun b => some ((.inr ((b.1, b.2, a.2)))) else some (.inl ())
def Px.B2 (a : steady_line) (b : Int) (d : Nat × Bounds) (e : Nat) (c : Station) (g : Unit) : Option (Unit ⊕ ((Bounds × Int × steady_line))) := if (c.Node == b) = true then (ix a.p.Pumps (e : Int)).bind fun f => Px.J3 a b d c f.2 else Px.J3 a b d c false
def Px (a : steady_line) (b : Int) : Option (Bounds × Int × steady_line) := (ix a.x.Nodes b).bind fun c => (forL (Px.B2 a b c) 0 a.n_.Stations ()).bind fun d => Sum.elim (fun f => Px.J1 a c ()) (fun e => some e) d
def Pz.J2 (a : steady_line) : Option (Int × steady_line) := some (0, a)
def Pz.J4 (a : steady_line) : Option (steady_line ⊕ ((Int × steady_line))) := some (.inl a)
def Pz.J5 (c : Nat) (d : Segment) (a : steady_line) (e : Nat × Int) (f : (List Level) × Int) (b : Int × Int × Int) : Option (steady_line ⊕ ((Int × steady_line))) := (ix a.x.Segments (c : Int)).bind fun g => (Iu (⟨a.n_, a.batches, a.products, a.fills, a.p, (⟨a.x.Known, a.x.Nodes, (a.x.Segments.set g.1 f.1)⟩ : Pressures)⟩ : steady_line) ((Bn d e.2).2) (⟨b.2.1, b.2.2⟩ : Bounds)).bind fun h => Pz.J4 h
def Pz.B3 (h : Int) (i : Bounds × Int × steady_line) (d : Nat) (e : Segment) (a : steady_line) : Option (steady_line ⊕ ((Int × steady_line))) := (ix a.p.Rates (d : Int)).bind fun c => if ((c.2 == 0) || (((Bn e c.2).1) != h)) = true then Pz.J4 a else (ix a.fills (d : Int)).bind fun j => (F9 e j.2 a.batches a.products c.2 i.1).bind fun b => if (b.2 != 0) = true then some ((.inr ((b.2, a)))) else (ix b.1 0).bind fun f => if decide (c.2 > 0) = true then (ix b.1 (wr ((b.1.length : Int) - 1))).bind fun g => Pz.J5 d e a c b (g.2.At, g.2.Bounds.Low, g.2.Bounds.High) else Pz.J5 d e a c b (f.2.At, f.2.Bounds.Low, f.2.Bounds.High)
def Pz.J1 (b : Int) (c : steady_line) : Option (Int × steady_line) := (ix c.x.Known b).bind fun d => if (!d.2) = true then some (0, c) else (Px c b).bind fun a => if (a.2.1 != 0) = true then some (a.2.1, a.2.2) else (forL (Pz.B3 b a) 0 a.2.2.n_.Segments a.2.2).bind fun e => Sum.elim (fun f => Pz.J2 f) (fun g => some g) e
def Pz.J7 (a : steady_line) : Option steady_line := some a
def Pz.J8 (c : Int) (a : Port) (b : steady_line) (d : Bool) : Option steady_line := if d = true then (Iu b c (⟨a.Pressure, a.Pressure⟩ : Bounds)).bind fun e => Pz.J7 e else Pz.J7 b
def Pz.B6 (a : Int) (d : Nat) (b : Port) (c : steady_line) : Option steady_line := if (b.Node == a) = true then (ix c.p.Ports (d : Int)).bind fun e => Pz.J8 a b c (decide (e.2 > 0)) else Pz.J8 a b c false
def Pz (a : steady_line) (b : Int) : Option (Int × steady_line) := (forS (Pz.B6 b) 0 a.n_.Ports a).bind fun c => Pz.J1 b c
def Vm.J1 (a : Unit) : Option Int := some (-1)
def Vm.B2 (a : Piece → Option Bool) (b : Nat) (c : Piece) (e : Unit) : Option (Unit ⊕ (Int)) := (a c).bind fun d => if d = true then some ((.inr ((b : Int)))) else some (.inl ())
def Vm (a : List Piece) (b : Piece → Option Bool) : Option Int := (forL (Vm.B2 b) 0 a ()).bind fun c => Sum.elim (fun e => Vm.J1 ()) (fun d => some d) c
def Po (a : List Piece) (b : Piece → Option Bool) : Option Bool := (Vm a b).bind fun c => some (decide (c ≥ 0))
def Vd (a : Piece) (b : List Batch) (c : List Product) : Option Bool := (M9 a.Batch b c).bind fun d => some (!d)
def Fm.J3 (a : steady_line) : Option (Pressures × Int) := some (a.x, 0)
def Fm.B4 (b : Li × Int) (c : Nat) (d : steady_line) : Option (steady_line ⊕ ((Pressures × Int))) := (ix b.1 (c : Int)).bind fun e => (Pz d e.2).bind fun a => if (a.1 != 0) = true then some ((.inr (((⟨[], [], []⟩ : Pressures), a.1)))) else some (.inl a.2)
def Fm.J2 (a : Li × Int) (b : steady_line) : Option (Pressures × Int) := (forI (Fm.B4 a) 0 a.1.length b).bind fun c => Sum.elim (fun d => Fm.J3 d) (fun e => some e) c
def Fm.J1 (a : Network) (b : List Batch) (c : List Product) (d : List (List Piece)) (e : Plan) (f : Li × Int) (j : Unit) : Option (Pressures × Int) := (Sf (a.Nodes.length : Int) false).bind fun g => (Sf (a.Nodes.length : Int) (⟨(0 : Int), (0 : Int)⟩ : Bounds)).bind fun h => (Sf (a.Segments.length : Int) ([] : List Level)).bind fun i => Fm.J2 f (⟨a, b, c, d, e, (⟨g, h, i⟩ : Pressures)⟩ : steady_line)
def Fm.B5 (a : List Batch) (b : List Product) (e : Nat) (c : List Piece) (f : Unit) : Option (Unit ⊕ ((Pressures × Int))) := (Po c (fun x => Vd x a b)).bind fun d => if d = true then some ((.inr (((⟨[], [], []⟩ : Pressures), 8)))) else some (.inl ())
def Fm (a : Network) (e : List Batch) (b : List Product) (c : List (List Piece)) (f : Plan) : Option (Pressures × Int) := (Us a f).bind fun d => if (d.2 != 0) = true then some ((⟨[], [], []⟩ : Pressures), d.2) else (Pv a c).bind fun g => if (g != 0) = true then some ((⟨[], [], []⟩ : Pressures), g) else (Mz b).bind fun h => if (h != 0) = true then some ((⟨[], [], []⟩ : Pressures), h) else (forL (Fm.B5 e b) 0 c ()).bind fun i => Sum.elim (fun k => Fm.J1 a e b c f d ()) (fun j => some j) i
def Na (a : Int) : Bool := (decide (a < 0) || decide (a > 1125899906842624))
def Uu.J1 (a : Unit) : Option Int := some (-1)
def Uu.B2 (a : Bounds → Option Bool) (b : Nat) (c : Bounds) (e : Unit) : Option (Unit ⊕ (Int)) := (a c).bind fun d => if d = true then some ((.inr ((b : Int)))) else some (.inl ())
def Uu (a : List Bounds) (b : Bounds → Option Bool) : Option Int := (forL (Uu.B2 b) 0 a ()).bind fun c => Sum.elim (fun e => Uu.J1 ()) (fun d => some d) c
def Pt (a : List Bounds) (b : Bounds → Option Bool) : Option Bool := (Uu a b).bind fun c => some (decide (c ≥ 0))
def Kr (a : Bounds) : Bool := (decide ((min a.Low a.High) ≥ (-1152921504606846976)) && decide ((max a.Low a.High) ≤ 1152921504606846976))
def Pq (a : Bounds) : Bool := (!(Kr a))
def Vx.J1 (a : Unit) : Option Int := some (-1)
def Vx.B2 (a : Level → Option Bool) (b : Nat) (c : Level) (e : Unit) : Option (Unit ⊕ (Int)) := (a c).bind fun d => if d = true then some ((.inr ((b : Int)))) else some (.inl ())
def Vx (a : List Level) (b : Level → Option Bool) : Option Int := (forL (Vx.B2 b) 0 a ()).bind fun c => Sum.elim (fun e => Vx.J1 ()) (fun d => some d) c
def Qe (a : List Level) (b : Level → Option Bool) : Option Bool := (Vx a b).bind fun c => some (decide (c ≥ 0))
def Pr.J1 (a : Bool) : Option Bool := some a
def Pr (a : Level) (b : Network) (c : Int) : Option Bool := if (!(Kr a.Bounds)) = true then Pr.J1 true else if decide (a.At < 0) = true then Pr.J1 true else (ix b.Segments c).bind fun d => Pr.J1 (decide (a.At > d.2.Capacity))
def Nb.J3 (a : Unit) : Option Bool := some true
def Nb.B4 (a : Network) (b : Nat) (c : List Level) (e : Unit) : Option (Unit ⊕ (Bool)) := (Qe c (fun x => Pr x a (b : Int))).bind fun d => if d = true then some ((.inr (false))) else some (.inl ())
def Nb.J2 (a : Network) (b : Pressures) (c : Bool) : Option Bool := if c = true then some false else (forL (Nb.B4 a) 0 b.Segments ()).bind fun d => Sum.elim (fun f => Nb.J3 ()) (fun e => some e) d
def Nb.J1 (b : Network) (a : Pressures) (c : Li) (d : Bool) : Option Bool := if d = true then some false else (Kq c (fun x => some (Na x))).bind fun e => if e = true then Nb.J2 b a true else (Pt a.Nodes (fun x => some (Pq x))).bind fun f => Nb.J2 b a f
def Nb (a : Network) (b : Pressures) (d : Plan) (c : Li) : Option Bool := (Gt a).bind fun e => if (e != 0) = true then Nb.J1 a b c true else if ((d.Pumps.length : Int) != (a.Stations.length : Int)) = true then Nb.J1 a b c true else if ((b.Known.length : Int) != (a.Nodes.length : Int)) = true then Nb.J1 a b c true else if ((b.Nodes.length : Int) != (a.Nodes.length : Int)) = true then Nb.J1 a b c true else if ((b.Segments.length : Int) != (a.Segments.length : Int)) = true then Nb.J1 a b c true else Nb.J1 a b c ((c.length : Int) != (a.Segments.length : Int))
def Nc.J1 (a : Int) : Option Int := some a
def Nc.J3 (a : Int × Int) (b : Int) : Option ((Int × Int) ⊕ (Int)) := some (.inl (b, wr (a.2 + 1)))
def Nc.J4 (c : Int) (a : Int × Int) (b : Int × Int × Int × Int × Int × Int) : Option ((Int × Int) ⊕ (Int)) := if (decide (b.1 ≤ c) && decide (c ≤ b.2.2.2.1)) = true then Nc.J3 a (min (min a.1 b.2.2.1) b.2.2.2.2.2) else Nc.J3 a a.1
def Nc.B2 (b : Segment) (e : Int) (a : Int × Int) : Option ((Int × Int) ⊕ (Int)) := if decide (a.2 < (b.Points.length : Int)) = true then (ix b.Points (wr (a.2 - 1))).bind fun c => (ix b.Points a.2).bind fun d => Nc.J4 e a (c.2.At, c.2.Height, c.2.Limit, d.2.At, d.2.Height, d.2.Limit) else some ((.inr (a.1)))
def Nc (a : Segment) (b : Int) : Option Int := (C8 (Nc.B2 a b) Eh (100000000, 1)).bind fun c => Nc.J1 c
def K4.J1 (a : Unit) : Option (Fault × Bool) := some ((⟨0, 0, 0⟩ : Fault), false)
def K4.J3 (a : Unit) : Option (Unit ⊕ ((Fault × Bool))) := some (.inl ())
def K4.B4 (e : Li) (c : Network) (b : Nat) (h : Nat) (a : Level) (i : Unit) : Option (Unit ⊕ ((Fault × Bool))) := (ix e (b : Int)).bind fun d => (ix c.Segments (b : Int)).bind fun f => (Nc f.2 a.At).bind fun g => if decide ((wr (a.Bounds.High + d.2)) > g) = true then some ((.inr (((⟨1, (b : Int), a.At⟩ : Fault), true)))) else if decide ((wr (a.Bounds.Low - d.2)) < c.Vapour) = true then some ((.inr (((⟨2, (b : Int), a.At⟩ : Fault), true)))) else some (.inl ())
def K4.B2 (a : Li) (b : Network) (c : Nat) (d : List Level) (g : Unit) : Option (Unit ⊕ ((Fault × Bool))) := (forL (K4.B4 a b c) 0 d ()).bind fun e => Sum.elim (fun h => K4.J3 ()) (fun f => some ((.inr (f)))) e
def K4 (a : Pressures) (b : Li) (c : Network) : Option (Fault × Bool) := (forL (K4.B2 b c) 0 a.Segments ()).bind fun d => Sum.elim (fun f => K4.J1 ()) (fun e => some e) d
def Gq.J1 (a : Unit) : Option (Fault × Bool) := some ((⟨0, 0, 0⟩ : Fault), false)
def Gq.J3 (a : Nat) (b : Bool) : Option (Unit ⊕ ((Fault × Bool))) := if b = true then some ((.inr (((⟨3, (a : Int), 0⟩ : Fault), true)))) else some (.inl ())
def Gq.B2 (d : Plan) (c : Pressures) (a : Nat) (b : Station) (h : Unit) : Option (Unit ⊕ ((Fault × Bool))) := (ix d.Pumps (a : Int)).bind fun e => if e.2 = true then (ix c.Known b.Node).bind fun f => if f.2 = true then (ix c.Nodes b.Node).bind fun g => Gq.J3 a (decide (g.2.Low < b.Suction)) else Gq.J3 a false else Gq.J3 a false
def Gq (a : Network) (b : Plan) (c : Pressures) : Option (Fault × Bool) := (forL (Gq.B2 b c) 0 a.Stations ()).bind fun d => Sum.elim (fun f => Gq.J1 ()) (fun e => some e) d
def Fk.K (a : Fault × Bool) (n : Network) (p : Plan) (x : Pressures) : Option (Fault × Bool) := if a.2 = true then some a else Gq n p x
def Fk (a : Network) (b : Pressures) (c : Plan) (d : Li) : Option (Fault × Bool) := (Nb a b c d).bind fun e => if (!e) = true then some ((⟨0, 0, 0⟩ : Fault), false) else (K4 b d a).bind fun f => Fk.K f a c b
structure Change where
 Tick : Int
 Plan : Plan
 deriving DecidableEq
def De (x : Change) : List T := [.v (.int .i64 x.Tick), .list 1 (x.Plan.Rates.map rI), .list 1 (x.Plan.Ports.map rI), .list 1 (x.Plan.Pumps.map rB)]
def It.J1 (a : Unit) : Option Int := some 0
def It.J3 (a : Bool) : Option (Unit ⊕ (Int)) := if a = true then some ((.inr (6))) else some (.inl ())
def It.B2 (c : List Change) (b : Nat) (a : Change) (f : Unit) : Option (Unit ⊕ (Int)) := if ((b : Int) == 0) = true then if (a.Tick != 0) = true then It.J3 true else if decide ((b : Int) > 0) = true then (ix c (wr ((b : Int) - 1))).bind fun d => if decide (a.Tick ≤ d.2.Tick) = true then It.J3 true else It.J3 (decide (a.Tick > 1099511627776)) else It.J3 (decide (a.Tick > 1099511627776)) else if decide ((b : Int) > 0) = true then (ix c (wr ((b : Int) - 1))).bind fun e => if decide (a.Tick ≤ e.2.Tick) = true then It.J3 true else It.J3 (decide (a.Tick > 1099511627776)) else It.J3 (decide (a.Tick > 1099511627776))
def It (a : List Change) : Option Int := if (((a.length : Int) == 0) || decide ((a.length : Int) > 40)) = true then some 4 else (forL (It.B2 a) 0 a ()).bind fun b => Sum.elim (fun d => It.J1 ()) (fun c => some c) b
def Kw.J1 (a : Li) : Option Li := some a
def Kw.J3 (a : Li × Int) (b : Li) : Option ((Li × Int) ⊕ (Li)) := some (.inl (b, wr (a.2 + 1)))
def Kw.B4 (d : Li) (a : Nat) (b : Li) : Option Li := (ix d (a : Int)).bind fun e => (ix b (a : Int)).bind fun c => some (b.set c.1 (wr (c.2 + e.2)))
def Kw.B2 (c : Network) (b : List Change) (d : Int) (a : Li × Int) : Option ((Li × Int) ⊕ (Li)) := if decide (a.2 ≤ d) = true then (ix b d).bind fun g => (ix b a.2).bind fun e => if decide ((wr (g.2.Tick - e.2.Tick)) > c.Settle) = true then Kw.J3 a a.1 else (ix b (wr (a.2 - 1))).bind fun h => (Ir c h.2.Plan e.2.Plan).bind fun f => (forJ (Kw.B4 f) 0 f.length a.1).bind fun i => Kw.J3 a i else some ((.inr (a.1)))
def Kw (a : Network) (b : List Change) (c : Int) : Option Li := (Sf (a.Segments.length : Int) (0 : Int)).bind fun d => (C8 (Kw.B2 a b c) Eh (d, 1)).bind fun e => Kw.J1 e
def Is.J4 (a : Unit) : Option (Fault × Int) := some ((⟨0, 0, 0⟩ : Fault), 0)
def Is.J6 (a : Int) (b : Unit) : Option (Int ⊕ ((Fault × Int) ⊕ Unit)) := some (.inl (wr (a + 1)))
def Is.J8 (a : Int × Int × Int × Bool) : Option (Unit ⊕ ((Fault × Int))) := if a.2.2.2 = true then some ((.inr (((⟨a.1, a.2.1, a.2.2.1⟩ : Fault), 15)))) else some (.inl ())
def Is.B7 (d : Network) (e : List Change) (f : List Pressures) (b : Int) (g : Li) (h : Nat) (k : Unit) : Option (Unit ⊕ ((Fault × Int))) := (ix ([wr (b - 1), b] : Li) (h : Int)).bind fun c => (ix f c.2).bind fun i => (ix e c.2).bind fun j => (Fk d i.2 j.2.Plan g).bind fun a => Is.J8 (a.1.Kind, a.1.Index, a.1.At, a.2)
def Is.B5 (c : Network) (b : List Change) (d : List Pressures) (a : Int) : Option (Int ⊕ ((Fault × Int) ⊕ Unit)) := if decide (a < (b.length : Int)) = true then (Kw c b a).bind fun e => (Ip e).bind fun f => (forI (Is.B7 c b d a f) 0 (([wr (a - 1), a] : Li).length) ()).bind fun g => Sum.elim (fun i => Is.J6 a ()) (fun h => some ((.inr (.inl (h))))) g else some ((.inr (.inr (()))))
def Is.J3 (b : Network) (c : List Change) (d : List Pressures) (a : Int × Int × Int × Bool) : Option (Fault × Int) := if a.2.2.2 = true then some ((⟨a.1, a.2.1, a.2.2.1⟩ : Fault), 15) else (C8 (Is.B5 b c d) Eh 1).bind fun e => Sum.elim (fun f => some f) (fun g => Is.J4 g) e
def Is.J2 (b : Network) (c : List Change) (d : List Pressures) : Option (Fault × Int) := (ix d 0).bind fun e => (ix c 0).bind fun f => (Sf (b.Segments.length : Int) (0 : Int)).bind fun g => (Fk b e.2 f.2.Plan g).bind fun a => Is.J3 b c d (a.1.Kind, a.1.Index, a.1.At, a.2)
def Is.B9 (b : Network) (c : List Batch) (d : List Product) (e : List (List Piece)) (i : Nat) (f : Change) (g : List Pressures) : Option ((List Pressures) ⊕ ((Fault × Int))) := (Fm b c d e f.Plan).bind fun a => if (a.2 != 0) = true then some ((.inr (((⟨0, 0, 0⟩ : Fault), a.2)))) else (Dx g ([a.1] : List Pressures)).bind fun h => some (.inl h)
def Is.J1 (a : Network) (c : List Batch) (d : List Product) (e : List (List Piece)) (b : List Change) (i : Unit) : Option (Fault × Int) := (forL (Is.B9 a c d e) 0 b []).bind fun f => Sum.elim (fun g => Is.J2 a b g) (fun h => some h) f
def Is.B10 (b : Network) (d : Nat) (c : Change) (e : Unit) : Option (Unit ⊕ ((Fault × Int))) := (He b c.Plan).bind fun a => if (a != 0) = true then some ((.inr (((⟨0, 0, 0⟩ : Fault), a)))) else some (.inl ())
def Is (b : Network) (d : List Batch) (e : List Product) (f : List (List Piece)) (a : List Change) : Option (Fault × Int) := (It a).bind fun c => if (c != 0) = true then some ((⟨0, 0, 0⟩ : Fault), c) else (forL (Is.B10 b) 0 a ()).bind fun g => Sum.elim (fun i => Is.J1 b d e f a ()) (fun h => some h) g
def Ck (a : Int) (b : Int) (c : Int) : Bool := (decide (a ≥ b) && decide (a ≤ c))
def Qf.J3 (a : Network) (b : List ByteArray) (c : List ByteArray) (d : List ByteArray) : Option (Arr (List ByteArray) 4) := some (⟨[a.Nodes, b, c, d], rfl⟩ : Arr (List ByteArray) 4)
def Qf.B4 (d : Nat) (a : Station) (b : List ByteArray) : Option (List ByteArray) := (Dx b ([a.Name] : List ByteArray)).bind fun c => some c
def Qf.J2 (a : Network) (b : List ByteArray) (c : List ByteArray) : Option (Arr (List ByteArray) 4) := (forS Qf.B4 0 a.Stations []).bind fun d => Qf.J3 a b c d
def Qf.B5 (d : Nat) (a : Port) (b : List ByteArray) : Option (List ByteArray) := (Dx b ([a.Name] : List ByteArray)).bind fun c => some c
def Qf.J1 (a : Network) (b : List ByteArray) : Option (Arr (List ByteArray) 4) := (forS Qf.B5 0 a.Ports []).bind fun c => Qf.J2 a b c
def Qf.B6 (d : Nat) (a : Segment) (b : List ByteArray) : Option (List ByteArray) := (Dx b ([a.Name] : List ByteArray)).bind fun c => some c
def Qf (a : Network) : Option (Arr (List ByteArray) 4) := (forS Qf.B6 0 a.Segments []).bind fun b => Qf.J1 a b
def Gr.J2 (a : Unit) : Option Bool := some true
def Gr.J4 (a : Int) (b : Bool) : Option (Int ⊕ (Bool ⊕ Unit)) := if b = true then some ((.inr (.inl (false)))) else some (.inl (wr (a + 1)))
def Gr.B3 (c : ByteArray) (b : Int) : Option (Int ⊕ (Bool ⊕ Unit)) := if decide (b < (c.size : Int)) = true then (qP c b).bind fun a => if decide (a.2 < 97) = true then if decide (a.2 < 48) = true then Gr.J4 b (a.2 != 45) else if decide (a.2 > 57) = true then Gr.J4 b (a.2 != 45) else Gr.J4 b false else if decide (a.2 > 122) = true then if decide (a.2 < 48) = true then Gr.J4 b (a.2 != 45) else if decide (a.2 > 57) = true then Gr.J4 b (a.2 != 45) else Gr.J4 b false else Gr.J4 b false else some ((.inr (.inr (()))))
def Gr.J1 (a : ByteArray) (b : Bool) : Option Bool := if b = true then some false else (C8 (Gr.B3 a) Eh 0).bind fun c => Sum.elim (fun d => some d) (fun e => Gr.J2 e) c
def Gr (a : ByteArray) : Option Bool := if decide ((a.size : Int) < 1) = true then Gr.J1 a true else if decide ((a.size : Int) > 12) = true then Gr.J1 a true else (qP a 0).bind fun b => if decide (b.2 < 97) = true then Gr.J1 a true else Gr.J1 a (decide (b.2 > 122))
def Nr.J1 (a : Unit) : Option Bool := some false
def Nr.J3 (a : Unit) : Option (Unit ⊕ (Bool)) := some (.inl ())
def Nr.B4 (b : List ByteArray) (c : Nat) (d : ByteArray) (a : Int) : Option (Int ⊕ (Bool ⊕ Unit)) := if decide (a < (c : Int)) = true then (ix b a).bind fun e => if Sh d e.2 = true then some ((.inr (.inl (true)))) else some (.inl (wr (a + 1))) else some ((.inr (.inr (()))))
def Nr.B2 (a : List ByteArray) (b : Nat) (c : ByteArray) (g : Unit) : Option (Unit ⊕ (Bool)) := (C8 (Nr.B4 a b c) Eh 0).bind fun d => Sum.elim (fun e => some ((.inr (e)))) (fun f => Nr.J3 f) d
def Nr (a : List ByteArray) : Option Bool := (forL (Nr.B2 a) 0 a ()).bind fun b => Sum.elim (fun d => Nr.J1 ()) (fun c => some c) b
def Nj.J2 (a : Unit) : Option Bool := some true
def Nj.J4 (a : Bool) : Option (Unit ⊕ (Bool)) := if a = true then some ((.inr (false))) else some (.inl ())
def Nj.B3 (c : Segment) (b : Nat) (a : Point) (e : Unit) : Option (Unit ⊕ (Bool)) := if decide ((b : Int) > 0) = true then (ix c.Points (wr ((b : Int) - 1))).bind fun d => if decide (a.At ≤ d.2.At) = true then Nj.J4 true else if (!(Ck a.Height (-500) 5000)) = true then Nj.J4 true else Nj.J4 (!(Ck a.Limit 0 100000000)) else if (!(Ck a.Height (-500) 5000)) = true then Nj.J4 true else Nj.J4 (!(Ck a.Limit 0 100000000))
def Nj.J1 (a : Segment) (b : Bool) : Option Bool := if b = true then some false else (forL (Nj.B3 a) 0 a.Points ()).bind fun c => Sum.elim (fun e => Nj.J2 ()) (fun d => some d) c
def Nj (a : Segment) : Option Bool := if (a.From == a.To) = true then Nj.J1 a true else if (!(Ck a.Capacity 1 1000000)) = true then Nj.J1 a true else if (!(Ck a.Resist 0 1000)) = true then Nj.J1 a true else if (!(Ck a.Wave 0 100000)) = true then Nj.J1 a true else (ix a.Points 0).bind fun b => if (b.2.At != 0) = true then Nj.J1 a true else (ix a.Points (wr ((a.Points.length : Int) - 1))).bind fun c => Nj.J1 a (c.2.At != a.Capacity)
def Gs.J10 (a : Network) (b : Unit) : Option Int := if ((!(Ck a.Vapour (-100000) 100000000)) || (!(Ck a.Settle 0 100))) = true then some 9 else some 0
def Gs.B11 (b : Nat) (a : Station) (c : Unit) : Option (Unit ⊕ (Int)) := if ((!(Ck a.Head 0 100000000)) || ((!(Ck a.Fall 0 100000)) || (!(Ck a.Suction 0 100000000)))) = true then some ((.inr (9))) else some (.inl ())
def Gs.J9 (a : Network) (d : Unit) : Option Int := (forL Gs.B11 0 a.Stations ()).bind fun b => Sum.elim (fun e => Gs.J10 a ()) (fun c => some c) b
def Gs.B12 (b : Nat) (a : Port) (c : Unit) : Option (Unit ⊕ (Int)) := if (!(Ck a.Pressure 0 100000000)) = true then some ((.inr (9))) else some (.inl ())
def Gs.J8 (a : Network) (d : Unit) : Option Int := (forL Gs.B12 0 a.Ports ()).bind fun b => Sum.elim (fun e => Gs.J9 a ()) (fun c => some c) b
def Gs.B13 (c : Nat) (a : Segment) (d : Unit) : Option (Unit ⊕ (Int)) := (Nj a).bind fun b => if (!b) = true then some ((.inr (9))) else some (.inl ())
def Gs.J7 (a : Network) (d : Unit) : Option Int := (forL Gs.B13 0 a.Segments ()).bind fun b => Sum.elim (fun e => Gs.J8 a ()) (fun c => some c) b
def Gs.B14 (a : Network) (c : Nat) (b : Station) (d : Unit) : Option (Unit ⊕ (Int)) := if (!(Ck b.Node 0 (wr ((a.Nodes.length : Int) - 1)))) = true then some ((.inr (8))) else some (.inl ())
def Gs.J6 (a : Network) (d : Unit) : Option Int := (forL (Gs.B14 a) 0 a.Stations ()).bind fun b => Sum.elim (fun e => Gs.J7 a ()) (fun c => some c) b
def Gs.B15 (a : Network) (c : Nat) (b : Port) (d : Unit) : Option (Unit ⊕ (Int)) := if (!(Ck b.Node 0 (wr ((a.Nodes.length : Int) - 1)))) = true then some ((.inr (8))) else some (.inl ())
def Gs.J5 (a : Network) (d : Unit) : Option Int := (forL (Gs.B15 a) 0 a.Ports ()).bind fun b => Sum.elim (fun e => Gs.J6 a ()) (fun c => some c) b
def Gs.B16 (a : Network) (c : Nat) (b : Segment) (d : Unit) : Option (Unit ⊕ (Int)) := if ((!(Ck b.From 0 (wr ((a.Nodes.length : Int) - 1)))) || (!(Ck b.To 0 (wr ((a.Nodes.length : Int) - 1))))) = true then some ((.inr (8))) else some (.inl ())
def Gs.J4 (a : Network) (d : Unit) : Option Int := (forL (Gs.B16 a) 0 a.Segments ()).bind fun b => Sum.elim (fun e => Gs.J5 a ()) (fun c => some c) b
def Gs.J18 (a : Unit) : Option (Unit ⊕ (Int)) := some (.inl ())
def Gs.B19 (b : Network) (c : Nat) (d : Station) (a : Int) : Option (Int ⊕ (Int ⊕ Unit)) := if decide (a < (c : Int)) = true then (ix b.Stations a).bind fun e => if (d.Node == e.2.Node) = true then some ((.inr (.inl (7)))) else some (.inl (wr (a + 1))) else some ((.inr (.inr (()))))
def Gs.B17 (a : Network) (b : Nat) (c : Station) (g : Unit) : Option (Unit ⊕ (Int)) := (C8 (Gs.B19 a b c) Eh 0).bind fun d => Sum.elim (fun e => some ((.inr (e)))) (fun f => Gs.J18 f) d
def Gs.J3 (a : Network) (d : Unit) : Option Int := (forL (Gs.B17 a) 0 a.Stations ()).bind fun b => Sum.elim (fun e => Gs.J4 a ()) (fun c => some c) b
def Gs.B20 (a : Arr (List ByteArray) 4) (b : Nat) (e : Unit) : Option (Unit ⊕ (Int)) := (ix a.l (b : Int)).bind fun c => (Nr c.2).bind fun d => if d = true then some ((.inr (7))) else some (.inl ())
def Gs.J2 (a : Network) (b : Arr (List ByteArray) 4) (e : Unit) : Option Int := (forI (Gs.B20 b) 0 4 ()).bind fun c => Sum.elim (fun f => Gs.J3 a ()) (fun d => some d) c
def Gs.J22 (a : Unit) : Option (Unit ⊕ (Int)) := some (.inl ())
def Gs.B23 (c : Nat) (a : ByteArray) (d : Unit) : Option (Unit ⊕ (Int)) := (Gr a).bind fun b => if (!b) = true then some ((.inr (3))) else some (.inl ())
def Gs.B21 (a : Arr (List ByteArray) 4) (b : Nat) (f : Unit) : Option (Unit ⊕ (Int)) := (ix a.l (b : Int)).bind fun c => (forL Gs.B23 0 c.2 ()).bind fun d => Sum.elim (fun g => Gs.J22 ()) (fun e => some ((.inr (e)))) d
def Gs.J1 (a : Network) (e : Unit) : Option Int := (Qf a).bind fun b => (forI (Gs.B21 b) 0 4 ()).bind fun c => Sum.elim (fun f => Gs.J2 a b ()) (fun d => some d) c
def Gs.B24 (b : Nat) (a : Segment) (c : Unit) : Option (Unit ⊕ (Int)) := if (!(Ck (a.Points.length : Int) 2 8)) = true then some ((.inr (4))) else some (.inl ())
def Gs (a : Network) : Option Int := if ((!(Ck (a.Nodes.length : Int) 1 24)) || (decide ((a.Segments.length : Int) > 32) || (decide ((a.Ports.length : Int) > 24) || decide ((a.Stations.length : Int) > 12)))) = true then some 4 else (forL Gs.B24 0 a.Segments ()).bind fun b => Sum.elim (fun d => Gs.J1 a ()) (fun c => some c) b
def Fb (a : Segment) (b : Int) : (Int × Int) := if decide (b < 0) = true then (a.To, a.From) else (a.From, a.To)
def Qi.J2 (a : Int × Int) : Option (Int × Int) := some (a.1, a.2)
def Qi.J4 (a : Int × Int) : Option (Int × Int) := some (a.1, a.2)
def Qi.B3 (c : Plan) (d : Int) (e : Nat) (f : Port) (a : Int × Int) : Option (Int × Int) := if (f.Node == d) = true then (ix c.Ports (e : Int)).bind fun b => Qi.J4 (wr (a.1 + (max 0 b.2)), wr (a.2 + (max 0 (wr (0 - b.2))))) else Qi.J4 (a.1, a.2)
def Qi.J1 (c : Network) (d : Plan) (e : Int) (a : Int × Int) : Option (Int × Int) := (forS (Qi.B3 d e) 0 c.Ports (a.1, a.2)).bind fun b => Qi.J2 (b.1, b.2)
def Qi.J6 (a : Int × Int) : Option (Int × Int) := some (a.1, a.2)
def Qi.J7 (d : Int) (e : Segment) (a : Int × Int) (b : Nat × Int) (c : Int) : Option (Int × Int) := if (((Fb e b.2).2) == d) = true then Qi.J6 (wr (a.1 + (Ga b.2)), c) else Qi.J6 (a.1, c)
def Qi.B5 (e : Plan) (c : Int) (f : Nat) (d : Segment) (a : Int × Int) : Option (Int × Int) := (ix e.Rates (f : Int)).bind fun b => if (b.2 == 0) = true then Qi.J6 (a.1, a.2) else if (((Fb d b.2).1) == c) = true then Qi.J7 c d a b (wr (a.2 + (Ga b.2))) else Qi.J7 c d a b a.2
def Qi (a : Network) (b : Plan) (c : Int) : Option (Int × Int) := (forS (Qi.B5 b c) 0 a.Segments (0, 0)).bind fun d => Qi.J1 a b c (d.1, d.2)
def Hz.J2 (a : Li × (List Bool)) (b : Int) : Option ((Li × (List Bool)) ⊕ (Li)) := if decide (b < 0) = true then some ((.inr (a.1))) else (Dx a.1 ([b] : Li)).bind fun c => (ix a.2 b).bind fun d => some (.inl (c, (a.2.set d.1 true)))
def Hz.J4 (a : Int) : Option Int := some a
def Hz.J5 (b : Nat) (a : Int) (c : Bool) : Option Int := if (c && decide (a < 0)) = true then Hz.J4 (b : Int) else Hz.J4 a
def Hz.J7 (a : Bool) : Option Bool := some a
def Hz.B6 (d : Plan) (e : Li × (List Bool)) (f : Nat) (g : Nat) (b : Segment) (c : Bool) : Option Bool := (ix d.Rates (g : Int)).bind fun a => if (a.2 != 0) = true then if c = true then if (((Fb b a.2).2) != (f : Int)) = true then Hz.J7 true else (ix e.2 ((Fb b a.2).1)).bind fun h => Hz.J7 h.2 else Hz.J7 false else Hz.J7 c
def Hz.B3 (c : Network) (d : Plan) (b : Li × (List Bool)) (a : Nat) (h : ByteArray) (e : Int) : Option Int := (ix b.2 (a : Int)).bind fun f => (forS (Hz.B6 d b a) 0 c.Segments (!f.2)).bind fun g => Hz.J5 a e g
def Hz.B1 (a : Network) (c : Plan) (b : Li × (List Bool)) : Option ((Li × (List Bool)) ⊕ (Li)) := (forS (Hz.B3 a c b) 0 a.Nodes (-1)).bind fun d => Hz.J2 b d
def Hz (a : Network) (b : Plan) : Option Li := (Sf (a.Nodes.length : Int) false).bind fun c => (C8 (Hz.B1 a b) Eh ([], c)).bind fun d => some d
def Kp.J3 (a : Network) (b : Plan) (d : Unit) : Option Int := (Hz a b).bind fun c => if ((c.length : Int) != (a.Nodes.length : Int)) = true then some 13 else some 0
def Kp.B4 (b : Network) (c : Plan) (d : Nat) (e : ByteArray) (f : Unit) : Option (Unit ⊕ (Int)) := (Qi b c (d : Int)).bind fun a => if (a.1 != a.2) = true then some ((.inr (12))) else some (.inl ())
def Kp.J2 (a : Network) (b : Plan) (e : Unit) : Option Int := (forL (Kp.B4 a b) 0 a.Nodes ()).bind fun c => Sum.elim (fun f => Kp.J3 a b ()) (fun d => some d) c
def Kp.B5 (b : Nat) (a : Int) (c : Unit) : Option (Unit ⊕ (Int)) := if (decide (a < (-1000)) || decide (a > 1000)) = true then some ((.inr (1))) else some (.inl ())
def Kp.J1 (b : Network) (a : Plan) (e : Unit) : Option Int := (forL Kp.B5 0 a.Ports ()).bind fun c => Sum.elim (fun f => Kp.J2 b a ()) (fun d => some d) c
def Kp.B6 (c : Network) (d : Nat) (a : Int) (e : Unit) : Option (Unit ⊕ (Int)) := (ix c.Segments (d : Int)).bind fun b => if (decide (a < (wr (0 - (min 1000 b.2.Capacity)))) || decide (a > (min 1000 b.2.Capacity))) = true then some ((.inr (1))) else some (.inl ())
def Kp (a : Network) (b : Plan) : Option Int := (Gs a).bind fun c => if (c != 0) = true then some c else if (((b.Rates.length : Int) != (a.Segments.length : Int)) || (((b.Ports.length : Int) != (a.Ports.length : Int)) || ((b.Pumps.length : Int) != (a.Stations.length : Int)))) = true then some 9 else (forL (Kp.B6 a) 0 b.Rates ()).bind fun d => Sum.elim (fun f => Kp.J1 a b ()) (fun e => some e) d
def V1 (a : Segment) : Option Bool := (Gs (⟨([(⟨#[97]⟩ : ByteArray), (⟨#[98]⟩ : ByteArray)] : List ByteArray), ([(⟨a.Name, 0, 1, a.Capacity, a.Resist, a.Wave, a.Points⟩ : Segment)] : List Segment), [], [], 0, 0⟩ : Network)).bind fun b => some (b == 0)
def Ql (a : Int) : Bool := (decide (a ≥ 0) && decide (a < 1000))
def Ky.J1 (a : Int) : Option Bool := some (decide (a ≤ 1000000))
def Ky.J3 (a : Piece) (b : Int) (c : Bool) : Option (Int ⊕ (Bool)) := if c = true then some ((.inr (false))) else some (.inl (wr (b + a.Volume)))
def Ky.B2 (d : List Piece) (c : Nat) (a : Piece) (b : Int) : Option (Int ⊕ (Bool)) := if (!(Ql a.Batch)) = true then Ky.J3 a b true else if decide (a.Volume < 1) = true then Ky.J3 a b true else if decide (a.Volume > 1000000) = true then Ky.J3 a b true else if decide ((c : Int) > 0) = true then (ix d (wr ((c : Int) - 1))).bind fun e => Ky.J3 a b (a.Batch == e.2.Batch) else Ky.J3 a b false
def Ky (a : List Piece) : Option Bool := if decide ((a.length : Int) > 200) = true then some false else (forL (Ky.B2 a) 0 a 0).bind fun b => Sum.elim (fun c => Ky.J1 c) (fun d => some d) b
def Ko.J1 (a : Int) : Option Int := some a
def Ko.B2 (c : Nat) (a : Piece) (b : Int) : Option Int := some (wr (b + a.Volume))
def Ko (a : List Piece) : Option Int := (forS Ko.B2 0 a 0).bind fun b => Ko.J1 b
def Qa.J1 (a : Segment) (b : List Piece) (c : Bool) : Option Int := if c = true then some 9 else (Ko b).bind fun d => if (d != a.Capacity) = true then some 14 else some 0
def Qa (a : Segment) (b : List Piece) : Option Int := (V1 a).bind fun c => if (!c) = true then Qa.J1 a b true else (Ky b).bind fun d => Qa.J1 a b (!d)
def Vc.J1 (a : Bool) : Option Bool := some a
def Vc (a : Product) : Option Bool := (Gr a.Name).bind fun b => if b = true then if decide (a.Density ≥ 400) = true then if decide (a.Density ≤ 1200) = true then if decide (a.Expansion ≥ 0) = true then if decide (a.Expansion ≤ 2000) = true then if decide (a.Compress ≥ 0) = true then if decide (a.Compress ≤ 5000) = true then if decide (a.Friction ≥ 1) = true then Vc.J1 (decide (a.Friction ≤ 2000)) else Vc.J1 false else Vc.J1 false else Vc.J1 false else Vc.J1 false else Vc.J1 false else Vc.J1 false else Vc.J1 false else Vc.J1 false
def Vw.J1 (a : Unit) : Option Int := some (-1)
def Vw.B2 (a : ByteArray) (b : Nat) (c : Product) (d : Unit) : Option (Unit ⊕ (Int)) := if Sh c.Name a = true then some ((.inr ((b : Int)))) else some (.inl ())
def Vw (a : List Product) (b : ByteArray) : Option Int := (forL (Vw.B2 b) 0 a ()).bind fun c => Sum.elim (fun e => Vw.J1 ()) (fun d => some d) c
def Nh.J2 (a : Unit) : Option Int := some 0
def Nh.B3 (a : List Product) (b : Nat) (c : Product) (e : Unit) : Option (Unit ⊕ (Int)) := (Vw a c.Name).bind fun d => if (d != (b : Int)) = true then some ((.inr (7))) else some (.inl ())
def Nh.J1 (a : List Product) (d : Unit) : Option Int := (forL (Nh.B3 a) 0 a ()).bind fun b => Sum.elim (fun e => Nh.J2 ()) (fun c => some c) b
def Nh.B4 (c : Nat) (a : Product) (d : Unit) : Option (Unit ⊕ (Int)) := (Vc a).bind fun b => if (!b) = true then some ((.inr (9))) else some (.inl ())
def Nh (a : List Product) : Option Int := if decide ((a.length : Int) > 16) = true then some 4 else (forL Nh.B4 0 a ()).bind fun b => Sum.elim (fun d => Nh.J1 a ()) (fun c => some c) b
def K2.J1 (a : Unit) : Option Bool := some true
def K2.J3 (a : Bool) : Option (Unit ⊕ (Bool)) := if a = true then some ((.inr (false))) else some (.inl ())
def K2.B2 (a : List Batch) (d : List Product) (e : Nat) (b : Piece) (f : Unit) : Option (Unit ⊕ (Bool)) := if decide (b.Batch ≥ (a.length : Int)) = true then K2.J3 true else (ix a b.Batch).bind fun c => if decide (c.2.Product < 0) = true then K2.J3 true else K2.J3 (decide (c.2.Product ≥ (d.length : Int)))
def K2 (a : List Piece) (b : List Batch) (c : List Product) : Option Bool := (forL (K2.B2 b c) 0 a ()).bind fun d => Sum.elim (fun f => K2.J1 ()) (fun e => some e) d
def Gb (a : Bounds) : Bool := (decide (a.Low ≤ a.High) && (decide (a.Low ≥ (-1125899906842624)) && decide (a.High ≤ 1125899906842624)))
def Ng.J3 (a : Li) : Option Li := some a
def Ng.J2 (a : Li) (c : Int) (b : Int) (d : Bool) : Option Li := if d = true then some a else (aX a 0 b).bind fun e => (Dx ([] : Li) e).bind fun f => (Dx f ([c] : Li)).bind fun g => (aX a b (a.length : Int)).bind fun h => (Dx g h).bind fun i => Ng.J3 i
def Ng.J1 (a : Li) (c : Int) (b : Int) : Option Li := if decide (b < (a.length : Int)) = true then (ix a b).bind fun d => Ng.J2 a c b (d.2 == c) else Ng.J2 a c b false
def Ng.J5 (a : Int) (b : Bool) : Option (Int ⊕ (Int)) := if b = true then some (.inl (wr (a + 1))) else some ((.inr (a)))
def Ng.B4 (b : Li) (c : Int) (a : Int) : Option (Int ⊕ (Int)) := if decide (a < (b.length : Int)) = true then (ix b a).bind fun d => Ng.J5 a (decide (d.2 < c)) else Ng.J5 a false
def Ng (a : Li) (b : Int) : Option Li := (C8 (Ng.B4 a b) Eh 0).bind fun c => Ng.J1 a b c
def Nf.J2 (a : Li) : Option Li := some a
def Nf.B3 (d : Nat) (b : Piece) (a : Li × Int) : Option (Li × Int) := (Ng a.1 (wr (a.2 + b.Volume))).bind fun c => some (c, wr (a.2 + b.Volume))
def Nf.J1 (a : List Piece) (b : Li) : Option Li := (forS Nf.B3 0 a (b, 0)).bind fun c => Nf.J2 c.1
def Nf.B4 (d : Nat) (a : Point) (b : Li) : Option Li := (Ng b a.At).bind fun c => some c
def Nf (a : Segment) (b : List Piece) : Option Li := (forS Nf.B4 0 a.Points []).bind fun c => Nf.J1 b c
def M6.J2 (a : Unit) : Option Int := some (-1)
def M6.B3 (c : Nat) (a : Piece) (b : Int) : Option (Int ⊕ (Int)) := if decide (b < a.Volume) = true then some ((.inr (a.Batch))) else some (.inl (wr (b - a.Volume)))
def M6.J1 (a : List Piece) (b : Int) (c : Bool) : Option Int := if c = true then some (-1) else (forL M6.B3 0 a b).bind fun d => Sum.elim (fun f => M6.J2 ()) (fun e => some e) d
def M6 (a : List Piece) (b : Int) : Option Int := (Ky a).bind fun c => if (!c) = true then M6.J1 a b true else M6.J1 a b (decide (b < 0))
def M7.J2 (b : Segment) (c : Int) (d : Int) (e : Int) (f : Nat × Product) (a : Int × Int × Int × Int × Int × Int) : Option (Int × Int × Int × Int) := some (wr ((wr ((wr ((wr (b.Resist * f.2.Friction)) * c)) * c)) * (wr (e - d))), wr (1000 * b.Capacity), wr ((wr ((wr (f.2.Density * 9807)) * (wr (a.2.2.2.2.1 - a.2.1)))) * (wr (e - d))), wr (1000 * (wr (a.2.2.2.1 - a.1))))
def M7.J1 (a : Segment) (e : Int) (f : Int) (g : Int) (h : Nat × Product) (d : Int) : Option (Int × Int × Int × Int) := (ix a.Points d).bind fun b => (ix a.Points (wr (d + 1))).bind fun c => M7.J2 a e f g h (b.2.At, b.2.Height, b.2.Limit, c.2.At, c.2.Height, c.2.Limit)
def M7.B3 (b : Segment) (c : Int) (a : Int) : Option (Int ⊕ (Int)) := (ix b.Points (wr (a + 1))).bind fun d => if decide (d.2.At ≤ c) = true then some (.inl (wr (a + 1))) else some ((.inr (a)))
def M7 (b : Segment) (c : List Piece) (d : List Batch) (e : List Product) (f : Int) (a : Int) (g : Int) : Option (Int × Int × Int × Int) := (M6 c a).bind fun h => (ix d h).bind fun i => (ix e i.2.Product).bind fun j => (C8 (M7.B3 b a) Eh 0).bind fun k => M7.J1 b f a g j k
def M0 (a : Int) (b : Int) : Bool := (decide (b ≥ 1) && (decide (b ≤ 1099511627776) && (decide (a ≥ (-2305843009213693952)) && decide (a ≤ 2305843009213693952))))
def Iq.J1 (a : Int) : Option Int := some a
def Iq (a : Int) (b : Int) : Option Int := if (!(M0 a b)) = true then some 0 else (aY a b).bind fun c => (Ww a b).bind fun d => if decide (d > 0) = true then Iq.J1 (wr (c + 1)) else Iq.J1 c
def Iv.J1 (a : Int) : Option Int := some a
def Iv (a : Int) (b : Int) : Option Int := if (!(M0 a b)) = true then some 0 else (aY a b).bind fun c => (Ww a b).bind fun d => if decide (d < 0) = true then Iv.J1 (wr (c - 1)) else Iv.J1 c
def Hw.J2 (a : List Level) : Option ((List Level) × Int) := some (a, 0)
def Hw.B3 (i : Segment) (j : List Piece) (k : List Batch) (l : List Product) (m : Int) (c : Li) (a : (List Level) × Int × Int × Int) : Option (((List Level) × Int × Int × Int) ⊕ ((List Level))) := if decide (a.2.2.2 ≥ 0) = true then (ix c a.2.2.2).bind fun d => (ix c (wr (a.2.2.2 + 1))).bind fun n => (M7 i j k l m d.2 n.2).bind fun b => (Iq b.1 b.2.1).bind fun e => (Iq (wr (0 - b.2.2.1)) b.2.2.2).bind fun f => (Iv b.1 b.2.1).bind fun g => (Iv (wr (0 - b.2.2.1)) b.2.2.2).bind fun h => (ix a.1 a.2.2.2).bind fun o => some (.inl ((a.1.set o.1 (⟨d.2, (⟨wr ((wr (a.2.1 - e)) - f), wr ((wr (a.2.2.1 - g)) - h)⟩ : Bounds)⟩ : Level)), wr ((wr (a.2.1 - e)) - f), wr ((wr (a.2.2.1 - g)) - h), wr (a.2.2.2 - 1))) else some ((.inr (a.1)))
def Hw.J1 (d : Segment) (e : List Piece) (f : List Batch) (g : List Product) (h : Int) (b : Bounds) (a : Li) (c : List Level) (l : Unit) : Option ((List Level) × Int) := (ix a (wr ((a.length : Int) - 1))).bind fun i => (ix c (wr ((a.length : Int) - 1))).bind fun j => (C8 (Hw.B3 d e f g h a) Eh ((c.set j.1 (⟨i.2, b⟩ : Level)), b.Low, b.High, wr ((wr ((a.length : Int) - 1)) - 1))).bind fun k => Hw.J2 k
def Hw.J4 (a : List Level) : Option ((List Level) × Int) := some (a, 0)
def Hw.B5 (i : Segment) (j : List Piece) (k : List Batch) (l : List Product) (m : Int) (c : Li) (a : (List Level) × Int × Int × Int) : Option (((List Level) × Int × Int × Int) ⊕ ((List Level))) := if decide (a.2.2.2 < (c.length : Int)) = true then (ix c (wr (a.2.2.2 - 1))).bind fun n => (ix c a.2.2.2).bind fun d => (M7 i j k l m n.2 d.2).bind fun b => (Iq b.1 b.2.1).bind fun e => (Iq b.2.2.1 b.2.2.2).bind fun f => (Iv b.1 b.2.1).bind fun g => (Iv b.2.2.1 b.2.2.2).bind fun h => (ix a.1 a.2.2.2).bind fun o => some (.inl ((a.1.set o.1 (⟨d.2, (⟨wr ((wr (a.2.1 - e)) - f), wr ((wr (a.2.2.1 - g)) - h)⟩ : Bounds)⟩ : Level)), wr ((wr (a.2.1 - e)) - f), wr ((wr (a.2.2.1 - g)) - h), wr (a.2.2.2 + 1))) else some ((.inr (a.1)))
def Hw (d : Segment) (b : List Piece) (g : List Batch) (e : List Product) (a : Int) (c : Bounds) : Option ((List Level) × Int) := (Qa d b).bind fun i => if (i != 0) = true then some ([], i) else (Nh e).bind fun j => if (j != 0) = true then some ([], j) else (K2 b g e).bind fun k => if (!k) = true then some ([], 8) else if ((a == 0) || (decide (a < (-1000)) || (decide (a > 1000) || (!(Gb c))))) = true then some ([], 1) else (Nf d b).bind fun f => (Sf (f.length : Int) (⟨(0 : Int), (⟨(0 : Int), (0 : Int)⟩ : Bounds)⟩ : Level)).bind fun h => if decide (a > 0) = true then (ix f 0).bind fun l => (ix h 0).bind fun m => (C8 (Hw.B5 d b g e a f) Eh ((h.set m.1 (⟨l.2, c⟩ : Level)), c.Low, c.High, 1)).bind fun n => Hw.J4 n else Hw.J1 d b g e a c f h ()
def Ni.J1 (a : Int) : Option Int := some a
def Ni.J3 (a : Int × Int) (b : Int) : Option ((Int × Int) ⊕ (Int)) := some (.inl (b, wr (a.2 + 1)))
def Ni.J4 (b : Segment) (a : Int × Int) (c : Bool) : Option ((Int × Int) ⊕ (Int)) := if c = true then (ix b.Points (wr (a.2 - 1))).bind fun d => (ix b.Points a.2).bind fun e => Ni.J3 a (min (min a.1 d.2.Limit) e.2.Limit) else Ni.J3 a a.1
def Ni.B2 (b : Segment) (c : Int) (a : Int × Int) : Option ((Int × Int) ⊕ (Int)) := if decide (a.2 < (b.Points.length : Int)) = true then (ix b.Points (wr (a.2 - 1))).bind fun d => if decide (c ≥ d.2.At) = true then (ix b.Points a.2).bind fun e => Ni.J4 b a (decide (c ≤ e.2.At)) else Ni.J4 b a false else some ((.inr (a.1)))
def Ni (a : Segment) (b : Int) : Option Int := (C8 (Ni.B2 a b) Eh (100000000, 1)).bind fun c => Ni.J1 c
def P5.J1 (a : Bool) : Option Bool := some a
def P5 (a : Station) : Option Bool := (Gr a.Name).bind fun b => if b = true then if decide (a.Node ≥ 0) = true then if decide (a.Node < 24) = true then if decide (a.Head ≥ 0) = true then if decide (a.Head ≤ 100000000) = true then if decide (a.Fall ≥ 0) = true then if decide (a.Fall ≤ 100000) = true then if decide (a.Suction ≥ 0) = true then P5.J1 (decide (a.Suction ≤ 100000000)) else P5.J1 false else P5.J1 false else P5.J1 false else P5.J1 false else P5.J1 false else P5.J1 false else P5.J1 false else P5.J1 false
def Vf (b : Station) (a : Int) : Option (Int × Int) := (P5 b).bind fun c => if (!c) = true then some (0, 9) else if (decide (a < 0) || decide (a > 32000)) = true then some (0, 1) else some ((max 0 (wr (b.Head - (wr ((wr ((wr (b.Fall * a)) * a)).tdiv 1000))))), 0)
def Ve (c : Station) (b : Bounds) (d : Int) : Option (Bounds × Int) := (Vf c d).bind fun a => if (a.2 != 0) = true then some ((⟨0, 0⟩ : Bounds), a.2) else if (!(Gb b)) = true then some ((⟨0, 0⟩ : Bounds), 1) else some ((⟨wr (b.Low + a.1), wr (b.High + a.1)⟩ : Bounds), 0)
def My.J1 (a : Int) : Option Int := some a
def My.J3 (a : Int) : Option Int := some a
def My.B2 (c : Plan) (d : Int) (e : Nat) (f : Segment) (a : Int) : Option Int := (ix c.Rates (e : Int)).bind fun b => if (b.2 == 0) = true then My.J3 a else if (((Fb f b.2).1) == d) = true then My.J3 (wr (a + (Ga b.2))) else My.J3 a
def My (a : Network) (b : Plan) (c : Int) : Option Int := (forS (My.B2 b c) 0 a.Segments 0).bind fun d => My.J1 d
def Qb.J2 (a : Unit) : Option Int := some 0
def Qb.B3 (a : Network) (b : Nat) (c : List Piece) (f : Unit) : Option (Unit ⊕ (Int)) := (Ko c).bind fun d => (ix a.Segments (b : Int)).bind fun e => if (d != e.2.Capacity) = true then some ((.inr (14))) else some (.inl ())
def Qb.J1 (a : Network) (b : List (List Piece)) (e : Unit) : Option Int := (forL (Qb.B3 a) 0 b ()).bind fun c => Sum.elim (fun f => Qb.J2 ()) (fun d => some d) c
def Qb.B4 (c : Nat) (a : List Piece) (d : Unit) : Option (Unit ⊕ (Int)) := (Ky a).bind fun b => if (!b) = true then some ((.inr (9))) else some (.inl ())
def Qb (a : Network) (b : List (List Piece)) : Option Int := (Gs a).bind fun c => if (c != 0) = true then some c else if ((b.length : Int) != (a.Segments.length : Int)) = true then some 9 else (forL Qb.B4 0 b ()).bind fun d => Sum.elim (fun f => Qb.J1 a b ()) (fun e => some e) d
def Vr (a : Network) (b : Plan) : Option (Li × Int) := (Kp a b).bind fun c => if (c != 0) = true then some ([], c) else (Hz a b).bind fun d => some (d, 0)
def P0.J3 (a : (List Bool) × (List Bounds) × (List (List Level))) : Option (Pressures × Int) := some ((⟨a.1, a.2.1, a.2.2⟩ : Pressures), 0)
def P0.J5 (a : (List Bool) × (List Bounds) × (List (List Level))) : Option ((List Bool) × (List Bounds) × (List (List Level))) := some (a.1, a.2.1, a.2.2)
def P0.J11 (a : List (List Level)) : Option (List (List Level)) := some a
def P0.B10 (f : List Batch) (g : List Product) (h : List (List Piece)) (i : Plan) (j : Nat × Int) (d : Int × Int) (b : Nat) (e : Segment) (a : List (List Level)) : Option (List (List Level)) := (ix i.Rates (b : Int)).bind fun c => if (c.2 == 0) = true then P0.J11 a else if (((Fb e c.2).1) == j.2) = true then (ix h (b : Int)).bind fun k => (Hw e k.2 f g c.2 (⟨d.1, d.2⟩ : Bounds)).bind fun l => (ix a (b : Int)).bind fun m => P0.J11 (a.set m.1 l.1) else P0.J11 a
def P0.J9 (c : Network) (d : List Batch) (e : List Product) (f : List (List Piece)) (g : Plan) (a : (List Bool) × (List Bounds) × (List (List Level))) (h : Nat × Int) (b : Int × Int) (i : Nat × Bool) (j : Nat × Bounds) (k : Int × Int) : Option ((List Bool) × (List Bounds) × (List (List Level))) := (forS (P0.B10 d e f g h k) 0 c.Segments a.2.2).bind fun l => P0.J5 ((a.1.set i.1 true), (a.2.1.set j.1 (⟨b.1, b.2⟩ : Bounds)), l)
def P0.J13 (a : Int × Int) : Option (Int × Int) := some (a.1, a.2)
def P0.J14 (c : Network) (d : Plan) (e : Nat × Int) (f : Station) (a : Int × Int) (g : Bool) : Option (Int × Int) := if g = true then (My c d e.2).bind fun h => (Ve f (⟨a.1, a.2⟩ : Bounds) h).bind fun b => P0.J13 (b.1.Low, b.1.High) else P0.J13 (a.1, a.2)
def P0.B12 (d : Network) (a : Plan) (b : Nat × Int) (f : Nat) (c : Station) (e : Int × Int) : Option (Int × Int) := if (c.Node == b.2) = true then (ix a.Pumps (f : Int)).bind fun g => P0.J14 d a b c e g.2 else P0.J14 d a b c e false
def P0.J8 (b : Network) (g : List Batch) (h : List Product) (i : List (List Piece)) (e : Plan) (c : (List Bool) × (List Bounds) × (List (List Level))) (a : Nat × Int) (d : Int × Int) : Option ((List Bool) × (List Bounds) × (List (List Level))) := (ix c.1 a.2).bind fun j => (ix c.2.1 a.2).bind fun k => (forS (P0.B12 b e a) 0 b.Stations (d.1, d.2)).bind fun f => P0.J9 b g h i e c a d j k (f.1, f.2)
def P0.B15 (c : List Bounds) (d : Nat) (a : Int × Int) : Option (Int × Int) := (ix c (d : Int)).bind fun b => some ((min a.1 b.2.Low), (min a.2 b.2.High))
def P0.J7 (e : Network) (f : List Batch) (g : List Product) (h : List (List Piece)) (i : Plan) (a : (List Bool) × (List Bounds) × (List (List Level))) (j : Nat × Int) (b : List Bounds) : Option ((List Bool) × (List Bounds) × (List (List Level))) := if ((b.length : Int) == 0) = true then P0.J5 (a.1, a.2.1, a.2.2) else (ix b 0).bind fun c => (forJ (P0.B15 b) 0 b.length (c.2.Low, c.2.High)).bind fun d => P0.J8 e f g h i a j (d.1, d.2)
def P0.J17 (a : List Bounds) : Option (List Bounds) := some a
def P0.J18 (b : List Bounds) (a : Int × Int × Int) : Option (List Bounds) := (Dx b ([(⟨a.2.1, a.2.2⟩ : Bounds)] : List Bounds)).bind fun c => P0.J17 c
def P0.B16 (g : Plan) (h : (List Bool) × (List Bounds) × (List (List Level))) (i : Nat × Int) (f : Nat) (j : Segment) (a : List Bounds) : Option (List Bounds) := (ix g.Rates (f : Int)).bind fun b => if (b.2 == 0) = true then P0.J17 a else if (((Fb j b.2).2) == i.2) = true then (ix h.2.2 (f : Int)).bind fun c => (ix c.2 (wr ((c.2.length : Int) - 1))).bind fun d => if decide (b.2 < 0) = true then (ix c.2 0).bind fun e => P0.J18 a (e.2.At, e.2.Bounds.Low, e.2.Bounds.High) else P0.J18 a (d.2.At, d.2.Bounds.Low, d.2.Bounds.High) else P0.J17 a
def P0.J6 (a : Network) (e : List Batch) (f : List Product) (g : List (List Piece)) (b : Plan) (c : (List Bool) × (List Bounds) × (List (List Level))) (d : Nat × Int) (h : List Bounds) : Option ((List Bool) × (List Bounds) × (List (List Level))) := (forS (P0.B16 b c d) 0 a.Segments h).bind fun i => P0.J7 a e f g b c d i
def P0.J20 (a : List Bounds) : Option (List Bounds) := some a
def P0.J21 (a : Port) (b : List Bounds) (c : Bool) : Option (List Bounds) := if c = true then (Dx b ([(⟨a.Pressure, a.Pressure⟩ : Bounds)] : List Bounds)).bind fun d => P0.J20 d else P0.J20 b
def P0.B19 (c : Plan) (d : Nat × Int) (e : Nat) (a : Port) (b : List Bounds) : Option (List Bounds) := if (a.Node == d.2) = true then (ix c.Ports (e : Int)).bind fun f => P0.J21 a b (decide (f.2 > 0)) else P0.J21 a b false
def P0.B4 (a : Network) (d : List Batch) (e : List Product) (f : List (List Piece)) (b : Plan) (g : Li × Int) (h : Nat) (i : (List Bool) × (List Bounds) × (List (List Level))) : Option ((List Bool) × (List Bounds) × (List (List Level))) := (ix g.1 (h : Int)).bind fun c => (forS (P0.B19 b c) 0 a.Ports []).bind fun j => P0.J6 a d e f b i c j
def P0.J2 (c : Network) (f : List Batch) (g : List Product) (h : List (List Piece)) (d : Plan) (a : (List Bool) × (List Bounds) × (List (List Level))) : Option (Pressures × Int) := (Vr c d).bind fun e => (forJ (P0.B4 c f g h d e) 0 e.1.length (a.1, a.2.1, a.2.2)).bind fun b => P0.J3 (b.1, b.2.1, b.2.2)
def P0.J1 (a : Network) (b : List Batch) (c : List Product) (d : List (List Piece)) (e : Plan) (i : Unit) : Option (Pressures × Int) := (Sf (a.Nodes.length : Int) false).bind fun f => (Sf (a.Nodes.length : Int) (⟨(0 : Int), (0 : Int)⟩ : Bounds)).bind fun g => (Sf (a.Segments.length : Int) ([] : List Level)).bind fun h => P0.J2 a b c d e (f, g, h)
def P0.B22 (a : List Batch) (b : List Product) (e : Nat) (c : List Piece) (f : Unit) : Option (Unit ⊕ ((Pressures × Int))) := (K2 c a b).bind fun d => if (!d) = true then some ((.inr (((⟨[], [], []⟩ : Pressures), 8)))) else some (.inl ())
def P0 (a : Network) (d : List Batch) (b : List Product) (c : List (List Piece)) (e : Plan) : Option (Pressures × Int) := (Kp a e).bind fun f => if (f != 0) = true then some ((⟨[], [], []⟩ : Pressures), f) else (Qb a c).bind fun g => if (g != 0) = true then some ((⟨[], [], []⟩ : Pressures), g) else (Nh b).bind fun h => if (h != 0) = true then some ((⟨[], [], []⟩ : Pressures), h) else (forL (P0.B22 d b) 0 c ()).bind fun i => Sum.elim (fun k => P0.J1 a d b c e ()) (fun j => some j) i
def Kv (a : Bounds) : Bool := (decide (a.Low < (-1152921504606846976)) || (decide (a.Low > 1152921504606846976) || (decide (a.High < (-1152921504606846976)) || decide (a.High > 1152921504606846976))))
def M8.J4 (a : Unit) : Option Bool := some true
def M8.J6 (a : Unit) : Option (Unit ⊕ (Bool)) := some (.inl ())
def M8.J8 (a : Bool) : Option (Unit ⊕ (Bool)) := if a = true then some ((.inr (false))) else some (.inl ())
def M8.B7 (b : Network) (c : Nat) (e : Nat) (a : Level) (f : Unit) : Option (Unit ⊕ (Bool)) := if (Kv a.Bounds) = true then M8.J8 true else if decide (a.At < 0) = true then M8.J8 true else (ix b.Segments (c : Int)).bind fun d => M8.J8 (decide (a.At > d.2.Capacity))
def M8.B5 (a : Network) (b : Nat) (c : List Level) (f : Unit) : Option (Unit ⊕ (Bool)) := (forL (M8.B7 a b) 0 c ()).bind fun d => Sum.elim (fun g => M8.J6 ()) (fun e => some ((.inr (e)))) d
def M8.J3 (a : Network) (b : Pressures) (e : Unit) : Option Bool := (forL (M8.B5 a) 0 b.Segments ()).bind fun c => Sum.elim (fun f => M8.J4 ()) (fun d => some d) c
def M8.B9 (b : Nat) (a : Bounds) (c : Unit) : Option (Unit ⊕ (Bool)) := if (Kv a) = true then some ((.inr (false))) else some (.inl ())
def M8.J2 (b : Network) (a : Pressures) (e : Unit) : Option Bool := (forL M8.B9 0 a.Nodes ()).bind fun c => Sum.elim (fun f => M8.J3 b a ()) (fun d => some d) c
def M8.B10 (b : Nat) (a : Int) (c : Unit) : Option (Unit ⊕ (Bool)) := if (decide (a < 0) || decide (a > 1125899906842624)) = true then some ((.inr (false))) else some (.inl ())
def M8.J1 (a : Network) (b : Pressures) (c : Li) (d : Bool) : Option Bool := if d = true then some false else (forL M8.B10 0 c ()).bind fun e => Sum.elim (fun g => M8.J2 a b ()) (fun f => some f) e
def M8 (a : Network) (b : Pressures) (d : Plan) (c : Li) : Option Bool := (Gs a).bind fun e => if (e != 0) = true then M8.J1 a b c true else if ((d.Pumps.length : Int) != (a.Stations.length : Int)) = true then M8.J1 a b c true else if ((b.Known.length : Int) != (a.Nodes.length : Int)) = true then M8.J1 a b c true else if ((b.Nodes.length : Int) != (a.Nodes.length : Int)) = true then M8.J1 a b c true else if ((b.Segments.length : Int) != (a.Segments.length : Int)) = true then M8.J1 a b c true else M8.J1 a b c ((c.length : Int) != (a.Segments.length : Int))
def Ux.J2 (a : Unit) : Option (Fault × Bool) := some ((⟨0, 0, 0⟩ : Fault), false)
def Ux.J4 (a : Nat) (b : Bool) : Option (Unit ⊕ ((Fault × Bool))) := if b = true then some ((.inr (((⟨3, (a : Int), 0⟩ : Fault), true)))) else some (.inl ())
def Ux.B3 (c : Pressures) (d : Plan) (a : Nat) (b : Station) (h : Unit) : Option (Unit ⊕ ((Fault × Bool))) := (ix d.Pumps (a : Int)).bind fun e => if e.2 = true then (ix c.Known b.Node).bind fun f => if f.2 = true then (ix c.Nodes b.Node).bind fun g => Ux.J4 a (decide (g.2.Low < b.Suction)) else Ux.J4 a false else Ux.J4 a false
def Ux.J1 (a : Network) (b : Pressures) (c : Plan) (f : Unit) : Option (Fault × Bool) := (forL (Ux.B3 b c) 0 a.Stations ()).bind fun d => Sum.elim (fun g => Ux.J2 ()) (fun e => some e) d
def Ux.J6 (a : Unit) : Option (Unit ⊕ ((Fault × Bool))) := some (.inl ())
def Ux.B7 (d : Network) (e : Li) (b : Nat) (f : Segment) (h : Nat) (a : Level) (i : Unit) : Option (Unit ⊕ ((Fault × Bool))) := (ix e (b : Int)).bind fun c => (Ni f a.At).bind fun g => if decide ((wr (a.Bounds.High + c.2)) > g) = true then some ((.inr (((⟨1, (b : Int), a.At⟩ : Fault), true)))) else if decide ((wr (a.Bounds.Low - c.2)) < d.Vapour) = true then some ((.inr (((⟨2, (b : Int), a.At⟩ : Fault), true)))) else some (.inl ())
def Ux.B5 (b : Network) (c : Pressures) (d : Li) (a : Nat) (e : Segment) (i : Unit) : Option (Unit ⊕ ((Fault × Bool))) := (ix c.Segments (a : Int)).bind fun f => (forL (Ux.B7 b d a e) 0 f.2 ()).bind fun g => Sum.elim (fun j => Ux.J6 ()) (fun h => some ((.inr (h)))) g
def Ux (a : Network) (b : Pressures) (c : Plan) (d : Li) : Option (Fault × Bool) := (M8 a b c d).bind fun e => if (!e) = true then some ((⟨0, 0, 0⟩ : Fault), false) else (forL (Ux.B5 a b d) 0 a.Segments ()).bind fun f => Sum.elim (fun h => Ux.J1 a b c ()) (fun g => some g) f
def Vp.J1 (a : Int × Int × Int × Bool) : Option (Fault × Int) := if a.2.2.2 = true then some ((⟨a.1, a.2.1, a.2.2.1⟩ : Fault), 15) else some ((⟨0, 0, 0⟩ : Fault), 0)
def Vp (b : Network) (e : List Batch) (f : List Product) (g : List (List Piece)) (d : Plan) : Option (Fault × Int) := (P0 b e f g d).bind fun c => if (c.2 != 0) = true then some ((⟨0, 0, 0⟩ : Fault), c.2) else (Sf (b.Segments.length : Int) (0 : Int)).bind fun h => (Ux b c.1 d h).bind fun a => Vp.J1 (a.1.Kind, a.1.Index, a.1.At, a.2)
def Uq.J1 (a : Bool) : Option Bool := some a
def Uq (i : Li) (j : Int) : Option Bool := (Vo i).bind fun k => (Vt k).bind fun b => (Qh b.2).bind fun c => (Qp c.2 b.1 4).bind fun d => (Qd d.2 4 (c.1.length : Int)).bind fun e => (Qc e.2 b.1).bind fun f => (Is b.1 e.1 c.1 d.1 ([(⟨0, f.1⟩ : Change)] : List Change)).bind fun g => (Is b.1 e.1 c.1 d.1 ([(⟨0, f.1⟩ : Change), (⟨wr (1 + (wr (j))), f.1⟩ : Change)] : List Change)).bind fun h => (Vp b.1 e.1 c.1 d.1 f.1).bind fun a => if (g.2 == a.2) = true then if ((g.1.Kind == a.1.Kind) && ((g.1.Index == a.1.Index) && ((g.1.At == a.1.At) && true))) = true then if (h.2 == a.2) = true then if ((h.1.Kind == a.1.Kind) && ((h.1.Index == a.1.Index) && ((h.1.At == a.1.At) && true))) = true then (Y9).bind fun l => Uq.J1 l else Uq.J1 false else Uq.J1 false else Uq.J1 false else Uq.J1 false
abbrev Nw := Network
abbrev Sg := Segment
abbrev Sn := Station
abbrev Bt := ByteArray
abbrev U0 := fun (v : Value) l => Ob.us v 3 1 (List.map rI l)
abbrev U1 := fun (v : Value) l => Ob.us v 4 1 (List.map rB l)
abbrev U2 := fun (v : Value) l => Ob.us v 129 2 (List.map Aq l)
abbrev U3 := fun (v : Value) l => Ob.us v 9 1 (List.map rS l)
abbrev U4 := fun (v : Value) l => Ob.us v 131 3 (List.map Ao l)
abbrev U5 := fun (v : Value) l => Ob.us v 64 7 (List.map Ak l)
abbrev U6 := fun (v : Value) l => Ob.us v 202 8 (List.map C0 l)
abbrev U7 := fun (v : Value) l => Ob.us v 72 5 (List.map Bw l)
abbrev U8 := fun (v : Value) l => Ob.us v 77 4 (List.map D3 l)
abbrev U9 := fun (v : Value) l => Ob.us v 105 2 (List.map A9 l)
abbrev pG := fun (v : Value) l => Ob.us v 84 3 (List.map A8 l)
abbrev pN := fun (v : Value) l => Ob.us v 68 3 (List.map Cb l)
abbrev pM := fun (v : Value) l => Ob.us v 70 5 (List.map Ba l)
abbrev rN := fun (v : Value) l => Ob.us v 102 3 (List.map Bi l)
abbrev Q0 := fun l => T.list 1 (List.map rI l)
abbrev Q1 := fun l => T.list 1 (List.map rS l)
abbrev Q2 := fun l => T.list 5 (List.map Bw l)
abbrev Q3 := fun l => T.list 4 (List.map D3 l)
abbrev Q4 := fun l => T.list 2 (List.map A9 l)
abbrev Q5 := fun l => T.list 1 (List.map rB l)
abbrev Q6 := fun l => T.list 7 (List.map Ak l)
abbrev Q7 := fun l => T.list 3 (List.map Cb l)
abbrev Q8 := fun l => T.list 5 (List.map Ba l)
abbrev Q9 := fun l => T.list 3 (List.map Ao l)
abbrev qS := fun l => T.list 3 (List.map Bi l)
abbrev rR := fun l => T.list 2 (List.map Aq l)
abbrev rQ := fun l => T.list 4 (List.map De l)
abbrev O0 := fun (b : Nat) e => Ob.arr b 30 6 1 e
abbrev O1 := fun (b : Nat) e => Ob.arr b 48 3 1 e
abbrev O2 := fun (b : Nat) e => Ob.arr b 58 2 1 e
abbrev O3 := fun (b : Nat) e => Ob.arr b 84 3 1 e
abbrev O4 := fun (b : Nat) e => Ob.arr b 124 15 1 e
abbrev O5 := fun (b : Nat) e => Ob.arr b 64 7 1 e
abbrev O6 := fun (b : Nat) e => Ob.arr b 41 3 1 e
abbrev O7 := fun (b : Nat) e => Ob.arr b 147 4 1 e
abbrev O8 := fun (b : Nat) e => Ob.arr b 129 2 1 e
abbrev O9 := fun (b : Nat) e => Ob.arr b 209 24 1 e
abbrev Ys := fun (b : Nat) e => Ob.arr b 113 48 1 e
abbrev W0 : List T := [.N, .N, .N]
abbrev W1 : List T := [.V 0, .V 0, .V 0]
abbrev W2 : List T := [.v (.string ⟨#[]⟩), .V 0, .V 0, .V 0, .V 0, .V 0, .N]
abbrev W3 : List T := [.N, .N, .N, .N, .V 0, .V 0]
abbrev W4 : List T := [.N, .N, .N, .N]
abbrev W5 : List T := [.v (.string ⟨#[]⟩), .V 0, .V 0, .V 0, .V 0]
abbrev W6 : List T := [.v (.string ⟨#[]⟩), .V 0, .V 0]
abbrev W9 : List T := [.V 0, .V 0, .V 0, .v (.string ⟨#[]⟩), .V 0, .V 0, .V 0, .V 0]
end Go.Proofs.YtodeekicjiengaaGreatDoor
