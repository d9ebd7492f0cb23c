/- Tables and pure functions. No condition. -/
import Derived.Test.YtodeekicjiengaaGreatDoorYwB2
import Derived.Test.YtodeekicjiengaaGreatDoorRows
import Derived.KernelRfl
import Derived.Shelf.Sort.Plain
import Derived.Shelf.Slices.CompactI
import Derived.Sort.OwnSortedInts
import Derived.Test.YtodeekicjiengaaGreatDoorProg
set_option maxRecDepth 100000
namespace Go.Aw
set_option linter.unusedVariables false
set_option linter.unusedSimpArgs false
inductive TT where
 | nil
 | node (l : TT) (k : Nat) (x : TI) (r : TT)
def Pq : TT → Nat → Option TI
 | .nil, _ => none
 | .node l k x r, i => bif Nat.beq k i then some x else bif Nat.ble k i then Pq r i else Pq l i
def bC (P : Program) : TT → Prop
 | .nil => True
 | .node l k x r => bC P l ∧ Ka P k = some x ∧ bC P r
theorem Ru {P : Program} : ∀ {t : TT} {i : Nat} {x : TI}, bC P t → Pq t i = some x → Ka P i = some x
 | .nil, _, _, _, h => by simp [Pq] at h
 | .node l k y r, i, x, ha, h => by
  simp only [Pq] at h
  cases hb : Nat.beq k i with
  | true =>
   have := nq hb
   simp only [hb, cond_true, Option.some.injEq] at h
   subst h this; exact ha.2.1
  | false =>
   simp only [hb, cond_false] at h
   cases hc : Nat.ble k i with
   | true => simp only [hc, cond_true] at h; exact Ru ha.2.2 h
   | false => simp only [hc, cond_false] at h; exact Ru ha.1 h
abbrev zI : Value := .int .i64 0
abbrev zN : Value := .slice none 0 0
abbrev zT (k : Nat) : TI := { kind := .slice k, size := 1, bytes := 24, zero := some zN }
abbrev zS (f : List (Nat × Nat)) (s b : Nat) (z : Array Value) : TI := { kind := .struct f, size := s, bytes := b, zero := some (.agg z) }
abbrev zA (n t s b : Nat) (z : Array Value) : TI := { kind := .array n t, size := s, bytes := b, zero := some (.agg z) }
end Go.Aw
namespace Go.Proofs.YtodeekicjiengaaGreatDoor
open Go.Aw
abbrev qK : TI := { kind := .int .i64, size := 1, bytes := 8, zero := some (.int .i64 0) }
abbrev qJ : TI := { kind := .bool, size := 1, bytes := 1, zero := some (.bool false) }
abbrev qI : TI := { kind := .int .u8, size := 1, bytes := 1, zero := some (.int .u8 0) }
abbrev qH : TI := { kind := .string, size := 1, bytes := 16, zero := some (.string ⟨#[]⟩) }
abbrev nZ : TI := zT 3
abbrev nY : TI := zT 9
abbrev nX : TI := zT 64
abbrev nW : TI := zT 68
abbrev nV : TI := zT 70
abbrev nU : TI := zS [(0, 25), (1, 26), (2, 27), (3, 28), (4, 3), (5, 3)] 6 112 #[zN, zN, zN, zN, zI, zI]
abbrev nT : TI := zT 72
abbrev nS : TI := zT 74
abbrev nR : TI := zT 77
abbrev nQ : TI := zT 50
abbrev nP : TI := zS [(0, 3), (1, 3), (2, 3)] 3 24 #[zI, zI, zI]
abbrev nO : TI := { kind := .int .i64, size := 1, bytes := 8, zero := some (.int .i64 0) }
abbrev nN : TI := zT 4
abbrev nM : TI := zS [(0, 22), (1, 22), (2, 46)] 3 72 #[zN, zN, zN]
abbrev nL : TI := zS [(0, 3), (1, 48)] 4 80 #[zI, zN, zN, zN]
abbrev nK : TI := zT 48
abbrev nJ : TI := zS [(0, 22), (1, 3)] 2 32 #[zN, zI]
abbrev nI : TI := zT 102
abbrev nH : TI := zS [(0, 9), (1, 3), (2, 3), (3, 3), (4, 3), (5, 3), (6, 62)] 7 80 #[.string ⟨#[]⟩, zI, zI, zI, zI, zI, zN]
abbrev nG : TI := zS [(0, 9), (1, 3), (2, 3)] 3 32 #[.string ⟨#[]⟩, zI, zI]
abbrev nF : TI := zS [(0, 9), (1, 3), (2, 3), (3, 3), (4, 3)] 5 48 #[.string ⟨#[]⟩, zI, zI, zI, zI]
abbrev nE : TI := zS [(0, 9), (1, 3), (2, 3), (3, 3), (4, 3)] 5 48 #[.string ⟨#[]⟩, zI, zI, zI, zI]
abbrev nD : TI := zT 105
abbrev nC : TI := zS [(0, 3), (1, 9), (2, 3), (3, 3)] 4 40 #[zI, .string ⟨#[]⟩, zI, zI]
abbrev nB : TI := zT 84
abbrev nA : TI := zT 129
abbrev mZ : TI := zT 127
abbrev mY : TI := zS [(0, 46), (1, 81), (2, 82)] 3 72 #[zN, zN, zN]
abbrev mX : TI := zT 22
abbrev eQ : TI := zT 5
abbrev eP : TI := zS [(0, 3), (1, 3), (2, 3)] 3 24 #[zI, zI, zI]
abbrev eO : TI := zS [(0, 3), (1, 3)] 2 16 #[zI, zI]
abbrev eN : TI := zA 24 3 24 192 #[zI, zI, zI, zI, zI, zI, zI, zI, zI, zI, zI, zI, zI, zI, zI, zI, zI, zI, zI, zI, zI, zI, zI, zI]
abbrev eM : TI := zS [(0, 111), (24, 111)] 48 384 #[zI, zI, zI, zI, zI, zI, zI, zI, zI, zI, zI, zI, zI, zI, zI, zI, zI, zI, zI, zI, zI, zI, zI, zI, zI, zI, zI, zI, zI, zI, zI, zI, zI, zI, zI, zI, zI, zI, zI, zI, zI, zI, zI, zI, zI, zI, zI, zI]
abbrev eL : TI := zS [(0, 30), (6, 36), (7, 32), (8, 34), (9, 48), (12, 84)] 15 328 #[zN, zN, zN, zN, zI, zI, zN, zN, zN, zN, zN, zN, zN, zN, zN]
abbrev eK : TI := zT 131
abbrev eJ : TI := zS [(0, 3), (1, 3)] 2 16 #[zI, zI]
abbrev eI : TI := zS [(0, 3), (1, 129)] 3 24 #[zI, zI, zI]
abbrev eH : TI := { kind := .other, size := 1, bytes := 8, zero := some (.nilFunc) }
abbrev eG : TI := zT 133
abbrev eF : TI := zA 4 25 4 96 #[zN, zN, zN, zN]
abbrev eE : TI := zA 4 3 4 32 #[zI, zI, zI, zI]
abbrev eD : TI := zS [(0, 3), (1, 3)] 2 16 #[zI, zI]
abbrev eC : TI := zA 4 192 8 64 #[zI, zI, zI, zI, zI, zI, zI, zI]
abbrev eB : TI := zT 202
abbrev eA : TI := zS [(0, 3), (1, 3), (2, 3), (3, 72)] 8 72 #[zI, zI, zI, .string ⟨#[]⟩, zI, zI, zI, zI]
abbrev dZ : TI := zA 24 3 24 192 #[zI, zI, zI, zI, zI, zI, zI, zI, zI, zI, zI, zI, zI, zI, zI, zI, zI, zI, zI, zI, zI, zI, zI, zI]
abbrev dY : TI := zS [(0, 70)] 5 48 #[.string ⟨#[]⟩, zI, zI, zI, zI]
abbrev dX : TI := { kind := .int .u64, size := 1, bytes := 8, zero := some (.int .u64 0) }
abbrev dW : TI := { kind := .int .i64, size := 1, bytes := 8, zero := some (.int .i64 0) }
abbrev dV : TI := { kind := .int .u32, size := 1, bytes := 4, zero := some (.int .u32 0) }
abbrev dU : TI := { kind := .int .u64, size := 1, bytes := 8, zero := some (.int .u64 0) }
abbrev dT : TI := { kind := .int .u64, size := 1, bytes := 8, zero := some (.int .u64 0) }
def N9 : TT := (.node (.node (.node (.node (.node (.node .nil 3 qK .nil) 4 qJ (.node .nil 5 qI .nil)) 9 qH (.node (.node .nil 22 nZ .nil) 25 nY (.node .nil 26 nX .nil))) 27 nW (.node (.node (.node .nil 28 nV .nil) 30 nU (.node .nil 32 nT .nil)) 34 nS (.node (.node .nil 36 nR .nil) 38 nQ .nil))) 41 nP (.node (.node (.node (.node .nil 42 nO .nil) 46 nN (.node .nil 48 nM .nil)) 50 nL (.node (.node .nil 55 nK .nil) 58 nJ .nil)) 62 nI (.node (.node (.node .nil 64 nH .nil) 68 nG (.node .nil 70 nF .nil)) 72 nE (.node (.node .nil 74 nD .nil) 77 nC .nil)))) 80 nB (.node (.node (.node (.node (.node .nil 81 nA .nil) 82 mZ (.node .nil 84 mY .nil)) 94 mX (.node (.node .nil 100 eQ .nil) 102 eP (.node .nil 105 eO .nil))) 111 eN (.node (.node (.node .nil 113 eM .nil) 124 eL (.node .nil 127 eK .nil)) 129 eJ (.node (.node .nil 131 eI .nil) 133 eH .nil))) 134 eG (.node (.node (.node (.node .nil 147 eF .nil) 189 eE (.node .nil 192 eD .nil)) 193 eC (.node (.node .nil 197 eB .nil) 202 eA .nil)) 209 dZ (.node (.node (.node .nil 214 dY .nil) 217 dX (.node .nil 222 dW .nil)) 230 dV (.node (.node .nil 232 dU .nil) 233 dT .nil)))))
theorem Y6 : bC Tryz.prog N9 :=
 ⟨⟨⟨⟨⟨⟨trivial, by kernel_rfl, trivial⟩, by kernel_rfl, ⟨trivial, by kernel_rfl, trivial⟩⟩, by kernel_rfl, ⟨⟨trivial, by kernel_rfl, trivial⟩, by kernel_rfl, ⟨trivial, by kernel_rfl, trivial⟩⟩⟩, by kernel_rfl, ⟨⟨⟨trivial, by kernel_rfl, trivial⟩, by kernel_rfl, ⟨trivial, by kernel_rfl, trivial⟩⟩, by kernel_rfl, ⟨⟨trivial, by kernel_rfl, trivial⟩, by kernel_rfl, trivial⟩⟩⟩, by kernel_rfl, ⟨⟨⟨⟨trivial, by kernel_rfl, trivial⟩, by kernel_rfl, ⟨trivial, by kernel_rfl, trivial⟩⟩, by kernel_rfl, ⟨⟨trivial, by kernel_rfl, trivial⟩, by kernel_rfl, trivial⟩⟩, by kernel_rfl, ⟨⟨⟨trivial, by kernel_rfl, trivial⟩, by kernel_rfl, ⟨trivial, by kernel_rfl, trivial⟩⟩, by kernel_rfl, ⟨⟨trivial, by kernel_rfl, trivial⟩, by kernel_rfl, trivial⟩⟩⟩⟩, by kernel_rfl, ⟨⟨⟨⟨⟨trivial, by kernel_rfl, trivial⟩, by kernel_rfl, ⟨trivial, by kernel_rfl, trivial⟩⟩, by kernel_rfl, ⟨⟨trivial, by kernel_rfl, trivial⟩, by kernel_rfl, ⟨trivial, by kernel_rfl, trivial⟩⟩⟩, by kernel_rfl, ⟨⟨⟨trivial, by kernel_rfl, trivial⟩, by kernel_rfl, ⟨trivial, by kernel_rfl, trivial⟩⟩, by kernel_rfl, ⟨⟨trivial, by kernel_rfl, trivial⟩, by kernel_rfl, trivial⟩⟩⟩, by kernel_rfl, ⟨⟨⟨⟨trivial, by kernel_rfl, trivial⟩, by kernel_rfl, ⟨trivial, by kernel_rfl, trivial⟩⟩, by kernel_rfl, ⟨⟨trivial, by kernel_rfl, trivial⟩, by kernel_rfl, trivial⟩⟩, by kernel_rfl, ⟨⟨⟨trivial, by kernel_rfl, trivial⟩, by kernel_rfl, ⟨trivial, by kernel_rfl, trivial⟩⟩, by kernel_rfl, ⟨⟨trivial, by kernel_rfl, trivial⟩, by kernel_rfl, trivial⟩⟩⟩⟩⟩
theorem aO : Tryz.prog.follows .mixedOrders = true := by kernel_rfl
theorem aN (t : Nat) (i : TI) (h : Pq N9 t = some i) : Ka Tryz.prog t = some i := Ru Y6 h
noncomputable def Aj : Env := ⟨Tryz.prog, Pq N9, aN, aO⟩
theorem H9 : Bld Aj 30 [(0, 1), (1, 1), (2, 1), (3, 1), (4, 1), (5, 1)] [.N, .N, .N, .N, .V 0, .V 0] := ⟨⟨_, _, _, I7⟩⟩
theorem Df : Bld Aj 41 [(0, 1), (1, 1), (2, 1)] [.V 0, .V 0, .V 0] := ⟨⟨_, _, _, I7⟩⟩
theorem Ll : Bld Aj 48 [(0, 1), (1, 1), (2, 1)] [.N, .N, .N] := ⟨⟨_, _, _, I7⟩⟩
theorem aU : Bld Aj 50 [(0, 1), (1, 3)] [.V 0, .N, .N, .N] := ⟨⟨_, _, _, I7⟩⟩
theorem aT : Bld Aj 58 [(0, 1), (1, 1)] [.N, .V 0] := ⟨⟨_, _, _, I7⟩⟩
theorem Gx : Bld Aj 64 [(0, 1), (1, 1), (2, 1), (3, 1), (4, 1), (5, 1), (6, 1)] [.v (.string ⟨#[]⟩), .V 0, .V 0, .V 0, .V 0, .V 0, .N] := ⟨⟨_, _, _, I7⟩⟩
theorem H8 : Bld Aj 68 [(0, 1), (1, 1), (2, 1)] [.v (.string ⟨#[]⟩), .V 0, .V 0] := ⟨⟨_, _, _, I7⟩⟩
theorem aS : Bld Aj 70 [(0, 1), (1, 1), (2, 1), (3, 1), (4, 1)] [.v (.string ⟨#[]⟩), .V 0, .V 0, .V 0, .V 0] := ⟨⟨_, _, _, I7⟩⟩
theorem aR : Bld Aj 72 [(0, 1), (1, 1), (2, 1), (3, 1), (4, 1)] [.v (.string ⟨#[]⟩), .V 0, .V 0, .V 0, .V 0] := ⟨⟨_, _, _, I7⟩⟩
theorem aQ : Bld Aj 77 [(0, 1), (1, 1), (2, 1), (3, 1)] [.V 0, .v (.string ⟨#[]⟩), .V 0, .V 0] := ⟨⟨_, _, _, I7⟩⟩
theorem Cg : Bld Aj 84 [(0, 1), (1, 1), (2, 1)] [.N, .N, .N] := ⟨⟨_, _, _, I7⟩⟩
theorem Fa : Bld Aj 102 [(0, 1), (1, 1), (2, 1)] [.V 0, .V 0, .V 0] := ⟨⟨_, _, _, I7⟩⟩
theorem Za : Bld Aj 105 [(0, 1), (1, 1)] [.V 0, .V 0] := ⟨⟨_, _, _, I7⟩⟩
theorem Y9 : Bld Aj 124 [(0, 6), (6, 1), (7, 1), (8, 1), (9, 3), (12, 3)] [.N, .N, .N, .N, .V 0, .V 0, .N, .N, .N, .N, .N, .N, .N, .N, .N] := ⟨⟨_, _, _, I7⟩⟩
theorem Dp : Bld Aj 129 [(0, 1), (1, 1)] [.V 0, .V 0] := ⟨⟨_, _, _, I7⟩⟩
theorem E9 : Bld Aj 131 [(0, 1), (1, 2)] [.V 0, .V 0, .V 0] := ⟨⟨_, _, _, I7⟩⟩
theorem Y8 : Bld Aj 202 [(0, 1), (1, 1), (2, 1), (3, 5)] [.V 0, .V 0, .V 0, .v (.string ⟨#[]⟩), .V 0, .V 0, .V 0, .V 0] := ⟨⟨_, _, _, I7⟩⟩
theorem Y7 : Bld Aj 214 [(0, 5)] [.v (.string ⟨#[]⟩), .V 0, .V 0, .V 0, .V 0] := ⟨⟨_, _, _, I7⟩⟩
theorem aP : jY Tryz.prog 111 = true := by kernel_rfl
set_option linter.unusedVariables false
set_option linter.unusedSimpArgs false
structure Point where
 At : Int
 Height : Int
 Limit : Int
 deriving DecidableEq
def Bj (x : Point) : List T := [.V x.At, .V x.Height, .V x.Limit]
structure Segment where
 Name : ByteArray
 From : Int
 To : Int
 Capacity : Int
 Resist : Int
 Wave : Int
 Points : List Point
 deriving DecidableEq
def Ak (x : Segment) : List T := [.v (.string x.Name), .V x.From, .V x.To, .V x.Capacity, .V x.Resist, .V x.Wave, .list 3 (x.Points.map Bj)]
structure Port where
 Name : ByteArray
 Node : Int
 Pressure : Int
 deriving DecidableEq
def Cc (x : Port) : List T := [.v (.string x.Name), .V x.Node, .V x.Pressure]
structure Station where
 Name : ByteArray
 Node : Int
 Head : Int
 Fall : Int
 Suction : Int
 deriving DecidableEq
def Ba (x : Station) : List T := [.v (.string x.Name), .V x.Node, .V x.Head, .V x.Fall, .V x.Suction]
structure Network where
 Nodes : List ByteArray
 Segments : List Segment
 Ports : List Port
 Stations : List Station
 Vapour : Int
 Settle : Int
 deriving DecidableEq
def Ab (x : Network) : List T := [.list 1 (x.Nodes.map rS), .list 7 (x.Segments.map Ak), .list 3 (x.Ports.map Cc), .list 5 (x.Stations.map Ba), .V x.Vapour, .V x.Settle]
structure Plan where
 Rates : Li
 Ports : Li
 Pumps : List Bool
 deriving DecidableEq
def Am (x : Plan) : List T := [.list 1 (x.Rates.map rI), .list 1 (x.Ports.map rI), .list 1 (x.Pumps.map rB)]
structure flow_streams where
 come : Arr Int 24
 leave : Arr Int 24
 deriving DecidableEq
def Bk (x : flow_streams) : List T := x.come.l.map cI ++ (x.leave.l.map cI ++ [])
structure KS where
 L_ : Li
 At : Int
 deriving DecidableEq
def Cq (x : KS) : List T := [.list 1 (x.L_.map rI), .V x.At]
def Bn (a : Segment) (b : Int) : (Int × Int) := if decide (b < 0) = true then (a.To, a.From) else (a.From, a.To)
def Na (a : Int) (b : Int) : Bool := (decide (a ≥ (wr (0 - b))) && decide (a ≤ b))
def Wc.J1 (a : Int) : Option Int := some a
def Wc (c : Int) (a : Int) : Option Int := if decide (a < 1) = true then some 0 else (Uy c a).bind fun b => if decide (b < 0) = true then Wc.J1 (wr (b + a)) else Wc.J1 b
def Dh (a : Int) (b : Int) (c : Int) : Bool := (decide (a ≥ b) && decide (a ≤ c))
def F8 (a : Int) : Int := (max a (wr (0 - a)))
def P9.J1 (a : Unit) : Option Int := some (-1)
def P9.B2 (a : Int) (b : Nat) (c : Int) (d : Unit) : Option (Unit ⊕ (Int)) := if (a == c) = true then some ((.inr ((b : Int)))) else some (.inl ())
def P9 (a : Li) (b : Int) : Option Int := (forL (P9.B2 b) 0 a ()).bind fun c => Sum.elim (fun e => P9.J1 ()) (fun d => some d) c
def M7.J1 (a : Unit) : Option Int := some (-1)
def M7.B2 (a : ByteArray) (b : Nat) (c : ByteArray) (d : Unit) : Option (Unit ⊕ (Int)) := if S0 a c = true then some ((.inr ((b : Int)))) else some (.inl ())
def M7 (a : List ByteArray) (b : ByteArray) : Option Int := (forL (M7.B2 b) 0 a ()).bind fun c => Sum.elim (fun e => M7.J1 ()) (fun d => some d) c
def Qz.J1 (a : Unit) : Option Int := some (-1)
def Qz.B2 (a : Int → Option Bool) (b : Nat) (c : Int) (e : Unit) : Option (Unit ⊕ (Int)) := (a c).bind fun d => if d = true then some ((.inr ((b : Int)))) else some (.inl ())
def Qz (a : Li) (b : Int → Option Bool) : Option Int := (forL (Qz.B2 b) 0 a ()).bind fun c => Sum.elim (fun e => Qz.J1 ()) (fun d => some d) c
def Kr (a : Li) (b : Int → Option Bool) : Option Bool := (Qz a b).bind fun c => some (decide (c ≥ 0))
def P6.J1 (a : Unit) : Option Int := some (-1)
def P6.B2 (a : ByteArray → Option Bool) (b : Nat) (c : ByteArray) (e : Unit) : Option (Unit ⊕ (Int)) := (a c).bind fun d => if d = true then some ((.inr ((b : Int)))) else some (.inl ())
def P6 (a : List ByteArray) (b : ByteArray → Option Bool) : Option Int := (forL (P6.B2 b) 0 a ()).bind fun c => Sum.elim (fun e => P6.J1 ()) (fun d => some d) c
def Qg (a : List ByteArray) (b : ByteArray → Option Bool) : Option Bool := (P6 a b).bind fun c => some (decide (c ≥ 0))
def Qx.J1 (a : Unit) : Option Int := some (-1)
def Qx.B2 (a : Segment → Option Bool) (b : Nat) (c : Segment) (e : Unit) : Option (Unit ⊕ (Int)) := (a c).bind fun d => if d = true then some ((.inr ((b : Int)))) else some (.inl ())
def Qx (a : List Segment) (b : Segment → Option Bool) : Option Int := (forL (Qx.B2 b) 0 a ()).bind fun c => Sum.elim (fun e => Qx.J1 ()) (fun d => some d) c
def M0 (a : List Segment) (b : Segment → Option Bool) : Option Bool := (Qx a b).bind fun c => some (decide (c ≥ 0))
def Qc.J1 (a : Unit) : Option Int := some (-1)
def Qc.B2 (a : Port → Option Bool) (b : Nat) (c : Port) (e : Unit) : Option (Unit ⊕ (Int)) := (a c).bind fun d => if d = true then some ((.inr ((b : Int)))) else some (.inl ())
def Qc (a : List Port) (b : Port → Option Bool) : Option Int := (forL (Qc.B2 b) 0 a ()).bind fun c => Sum.elim (fun e => Qc.J1 ()) (fun d => some d) c
def Qt (a : List Port) (b : Port → Option Bool) : Option Bool := (Qc a b).bind fun c => some (decide (c ≥ 0))
def Mw.J1 (a : Unit) : Option Int := some (-1)
def Mw.B2 (a : Station → Option Bool) (b : Nat) (c : Station) (e : Unit) : Option (Unit ⊕ (Int)) := (a c).bind fun d => if d = true then some ((.inr ((b : Int)))) else some (.inl ())
def Mw (a : List Station) (b : Station → Option Bool) : Option Int := (forL (Mw.B2 b) 0 a ()).bind fun c => Sum.elim (fun e => Mw.J1 ()) (fun d => some d) c
def P0 (a : List Station) (b : Station → Option Bool) : Option Bool := (Mw a b).bind fun c => some (decide (c ≥ 0))
def Mv (a : Segment) : Bool := (decide ((a.Points.length : Int) < 2) || decide ((a.Points.length : Int) > 8))
def Vy (a : Network) : Option Bool := if (decide ((a.Nodes.length : Int) < 1) || (decide ((a.Nodes.length : Int) > 24) || (decide ((a.Segments.length : Int) > 32) || (decide ((a.Ports.length : Int) > 24) || decide ((a.Stations.length : Int) > 12))))) = true then some false else (M0 a.Segments (fun x => some (Mv x))).bind fun b => some (!b)
def Ku.J1 (a : Li) : Option Li := some a
def Ku.J3 (a : Li × (List Bool) × Int) : Option ((Li × (List Bool) × Int) ⊕ (Li)) := some (.inl (a.1, a.2.1, wr (a.2.2 + 1)))
def Ku.J4 (a : Li × (List Bool) × Int) (b : Nat × Bool) (d : Unit) : Option ((Li × (List Bool) × Int) ⊕ (Li)) := (Dy a.1 ([a.2.2] : Li)).bind fun c => Ku.J3 (c, (a.2.1.set b.1 true), (-1))
def Ku.J6 (a : Li × (List Bool) × Int) (b : Bool) : Option (Unit ⊕ ((Li × (List Bool) × Int))) := if b = true then some ((.inr ((a.1, a.2.1, a.2.2)))) else some (.inl ())
def Ku.B5 (d : Plan) (a : Li × (List Bool) × Int) (e : Nat) (c : Segment) (g : Unit) : Option (Unit ⊕ ((Li × (List Bool) × Int))) := (ix d.Rates (e : Int)).bind fun b => if (b.2 != 0) = true then if (((Bn c b.2).2) == a.2.2) = true then (ix a.2.1 ((Bn c b.2).1)).bind fun f => Ku.J6 a (!f.2) else Ku.J6 a false else Ku.J6 a false
def Ku.B2 (b : Network) (d : Plan) (a : Li × (List Bool) × Int) : Option ((Li × (List Bool) × Int) ⊕ (Li)) := if decide (a.2.2 < (b.Nodes.length : Int)) = true then (ix a.2.1 a.2.2).bind fun c => if c.2 = true then Ku.J3 (a.1, a.2.1, a.2.2) else (forL (Ku.B5 d a) 0 b.Segments ()).bind fun e => Sum.elim (fun g => Ku.J4 a c ()) (fun f => Ku.J3 f) e else some ((.inr (a.1)))
def Ku (a : Network) (b : Plan) : Option Li := (So (a.Nodes.length : Int) false).bind fun c => (Da (Ku.B2 a b) Eh ([], c, 0)).bind fun d => Ku.J1 d
def Qp.J1 (a : Unit) : Int := 2
def Qp (a : Int) : Int := if (decide (a ≥ 97) && decide (a ≤ 122)) = true then 1 else if (decide (a ≥ 48) && decide (a ≤ 57)) = true then Qp.J1 () else if (a == 45) = true then Qp.J1 () else 0
def Iu.J2 (a : Unit) : Option Bool := some true
def Iu.B3 (a : ByteArray) (b : Nat) (d : Unit) : Option (Unit ⊕ (Bool)) := (sL a (b : Int)).bind fun c => if ((Qp c.2) == 0) = true then some ((.inr (false))) else some (.inl ())
def Iu.J1 (a : ByteArray) (b : Bool) : Option Bool := if b = true then some false else (tF ((a.size : Int) ≤ 9223372036854775806)).bind fun e => (forI (Iu.B3 a) 0 ((a.size : Int).toNat) ()).bind fun c => Sum.elim (fun f => Iu.J2 ()) (fun d => some d) c
def Iu (a : ByteArray) : Option Bool := if decide ((a.size : Int) < 1) = true then Iu.J1 a true else if decide ((a.size : Int) > 12) = true then Iu.J1 a true else (sL a 0).bind fun b => Iu.J1 a ((Qp b.2) != 1)
def Nv.J3 (a : Network) (b : List ByteArray) (c : List ByteArray) (d : List ByteArray) : Option (Arr (List ByteArray) 4) := some (⟨[a.Nodes, b, c, d], rfl⟩ : Arr (List ByteArray) 4)
def Nv.B4 (d : Nat) (a : Station) (b : List ByteArray) : Option (List ByteArray) := (Dy b ([a.Name] : List ByteArray)).bind fun c => some c
def Nv.J2 (a : Network) (b : List ByteArray) (c : List ByteArray) : Option (Arr (List ByteArray) 4) := (forS Nv.B4 0 a.Stations []).bind fun d => Nv.J3 a b c d
def Nv.B5 (d : Nat) (a : Port) (b : List ByteArray) : Option (List ByteArray) := (Dy b ([a.Name] : List ByteArray)).bind fun c => some c
def Nv.J1 (a : Network) (b : List ByteArray) : Option (Arr (List ByteArray) 4) := (forS Nv.B5 0 a.Ports []).bind fun c => Nv.J2 a b c
def Nv.B6 (d : Nat) (a : Segment) (b : List ByteArray) : Option (List ByteArray) := (Dy b ([a.Name] : List ByteArray)).bind fun c => some c
def Nv (a : Network) : Option (Arr (List ByteArray) 4) := (forS Nv.B6 0 a.Segments []).bind fun b => Nv.J1 a b
def Kv (a : Station) (b : Station) : Bool := (a.Node == b.Node)
def Vh.J2 (a : Unit) : Option Bool := some false
def Vh.B3 (a : Network) (b : Nat) (c : Station) (e : Unit) : Option (Unit ⊕ (Bool)) := (Mw a.Stations (fun x => some (Kv x c))).bind fun d => if decide (d < (b : Int)) = true then some ((.inr (true))) else some (.inl ())
def Vh.J1 (a : Network) (d : Unit) : Option Bool := (forL (Vh.B3 a) 0 a.Stations ()).bind fun b => Sum.elim (fun e => Vh.J2 ()) (fun c => some c) b
def Vh.J5 (a : Unit) : Option (Unit ⊕ (Bool)) := some (.inl ())
def Vh.B6 (a : Nat × (List ByteArray)) (b : Nat) (c : ByteArray) (e : Unit) : Option (Unit ⊕ (Bool)) := (M7 a.2 c).bind fun d => if decide (d < (b : Int)) = true then some ((.inr (true))) else some (.inl ())
def Vh.B4 (b : Arr (List ByteArray) 4) (c : Nat) (f : Unit) : Option (Unit ⊕ (Bool)) := (ix b.l (c : Int)).bind fun a => (forL (Vh.B6 a) 0 a.2 ()).bind fun d => Sum.elim (fun g => Vh.J5 ()) (fun e => some ((.inr (e)))) d
def Vh (a : Network) : Option Bool := (Nv a).bind fun b => (forI (Vh.B4 b) 0 4 ()).bind fun c => Sum.elim (fun e => Vh.J1 a ()) (fun d => some d) c
def Mx (a : Int) (b : Network) : Bool := (decide (a < 0) || decide (a ≥ (b.Nodes.length : Int)))
def Wb.J3 (a : Network) (b : Li) : Option Bool := (Kr b (fun x => some (Mx x a))).bind fun c => some (!c)
def Wb.B4 (d : Nat) (a : Station) (b : Li) : Option Li := (Dy b ([a.Node] : Li)).bind fun c => some c
def Wb.J2 (a : Network) (b : Li) : Option Bool := (forS Wb.B4 0 a.Stations b).bind fun c => Wb.J3 a c
def Wb.B5 (d : Nat) (a : Port) (b : Li) : Option Li := (Dy b ([a.Node] : Li)).bind fun c => some c
def Wb.J1 (a : Network) (b : Li) : Option Bool := (forS Wb.B5 0 a.Ports b).bind fun c => Wb.J2 a c
def Wb.B6 (d : Nat) (a : Segment) (b : Li) : Option Li := (Dy b ([a.From, a.To] : Li)).bind fun c => some c
def Wb (a : Network) : Option Bool := (forS Wb.B6 0 a.Segments []).bind fun b => Wb.J1 a b
def Nt.J2 (a : Bool) : Option Bool := some a
def Nt.J1 (a : Segment) (d : Unit) : Option Bool := (ix a.Points 0).bind fun b => if (b.2.At == 0) = true then (ix a.Points (wr ((a.Points.length : Int) - 1))).bind fun c => Nt.J2 (c.2.At == a.Capacity) else Nt.J2 false
def Nt.J4 (a : Bool) : Option (Unit ⊕ (Bool)) := if a = true then some ((.inr (false))) else some (.inl ())
def Nt.B3 (c : Segment) (b : Nat) (a : Point) (e : Unit) : Option (Unit ⊕ (Bool)) := if (!(Dh a.Height (-500) 5000)) = true then Nt.J4 true else if (!(Dh a.Limit 0 100000000)) = true then Nt.J4 true else if decide ((b : Int) > 0) = true then (ix c.Points (wr ((b : Int) - 1))).bind fun d => Nt.J4 (decide (a.At ≤ d.2.At)) else Nt.J4 false
def Nt (a : Segment) : Option Bool := if ((a.From == a.To) || ((!(Dh a.Capacity 1 1000000)) || ((!(Dh a.Resist 0 1000)) || (!(Dh a.Wave 0 100000))))) = true then some false else (forL (Nt.B3 a) 0 a.Points ()).bind fun b => Sum.elim (fun d => Nt.J1 a ()) (fun c => some c) b
def Vf (a : Segment) : Option Bool := (Nt a).bind fun b => some (!b)
def My (a : Port) : Bool := (!(Dh a.Pressure 0 100000000))
def Ns (a : Station) : Bool := ((!(Dh a.Head 0 100000000)) || ((!(Dh a.Fall 0 100000)) || (!(Dh a.Suction 0 100000000))))
def Zz (a : Network) : Option Bool := (M0 a.Segments (fun x => Vf x)).bind fun b => if b = true then some false else (Qt a.Ports (fun x => some (My x))).bind fun c => if c = true then some false else (P0 a.Stations (fun x => some (Ns x))).bind fun d => if d = true then some false else some ((Dh a.Vapour (-100000) 100000000) && (Dh a.Settle 0 100))
def Vs (a : ByteArray) : Option Bool := (Iu a).bind fun b => some (!b)
def Gs.J1 (a : Network) (e : Unit) : Option Int := (Vh a).bind fun b => if b = true then some 7 else (Wb a).bind fun c => if (!c) = true then some 8 else (Zz a).bind fun d => if (!d) = true then some 9 else some 0
def Gs.B2 (a : Arr (List ByteArray) 4) (b : Nat) (e : Unit) : Option (Unit ⊕ (Int)) := (ix a.l (b : Int)).bind fun c => (Qg c.2 (fun x => Vs x)).bind fun d => if d = true then some ((.inr (3))) else some (.inl ())
def Gs (a : Network) : Option Int := (Vy a).bind fun b => if (!b) = true then some 4 else (Nv a).bind fun c => (forI (Gs.B2 c) 0 4 ()).bind fun d => Sum.elim (fun f => Gs.J1 a ()) (fun e => some e) d
def M5.J2 (a : flow_streams) (b : Int × Int × Int) (c : Arr Int 24) : Option flow_streams := if decide (b.2.1 ≥ 0) = true then (ix a.come.l b.2.1).bind fun d => some (⟨(a.come.set d.1 (wr (d.2 + b.2.2))), c⟩ : flow_streams) else some (⟨a.come, c⟩ : flow_streams)
def M5.J1 (a : flow_streams) (b : Int × Int × Int) : Option flow_streams := if decide (b.1 ≥ 0) = true then (ix a.leave.l b.1).bind fun c => M5.J2 a b (a.leave.set c.1 (wr (c.2 + b.2.2))) else M5.J2 a b a.leave
def M5 (b : flow_streams) (c : Int) (d : Int) (a : Int) : Option flow_streams := if decide (a < 0) = true then M5.J1 b (d, c, wr (0 - a)) else M5.J1 b (c, d, a)
def Pv.J2 (a : (Arr Int 24) × (Arr Int 24)) : Option flow_streams := some (⟨a.1, a.2⟩ : flow_streams)
def Pv.B3 (c : Plan) (d : Nat) (e : Port) (a : (Arr Int 24) × (Arr Int 24)) : Option ((Arr Int 24) × (Arr Int 24)) := (ix c.Ports (d : Int)).bind fun f => (M5 (⟨a.1, a.2⟩ : flow_streams) (-1) e.Node f.2).bind fun b => some (b.come, b.leave)
def Pv.J1 (c : Network) (d : Plan) (a : (Arr Int 24) × (Arr Int 24)) : Option flow_streams := (forS (Pv.B3 d) 0 c.Ports (a.1, a.2)).bind fun b => Pv.J2 (b.1, b.2)
def Pv.B4 (d : Plan) (e : Nat) (a : Segment) (b : (Arr Int 24) × (Arr Int 24)) : Option ((Arr Int 24) × (Arr Int 24)) := (ix d.Rates (e : Int)).bind fun f => (M5 (⟨b.1, b.2⟩ : flow_streams) a.From a.To f.2).bind fun c => some (c.come, c.leave)
def Pv (a : Network) (b : Plan) : Option flow_streams := (forS (Pv.B4 b) 0 a.Segments ((Arr.rep 24 (0 : Int)), (Arr.rep 24 (0 : Int)))).bind fun c => Pv.J1 a b (c.1, c.2)
def Nr (a : Int) : Bool := (!(Na a 1000))
def Ha.J1 (a : Network) (b : Plan) (f : Unit) : Option Int := (Kr b.Ports (fun x => some (Nr x))).bind fun d => if d = true then some 1 else (Pv a b).bind fun c => if (!decide (c.come = c.leave)) = true then some 12 else (Ku a b).bind fun e => if decide ((e.length : Int) < (a.Nodes.length : Int)) = true then some 13 else some 0
def Ha.B2 (a : Plan) (b : Nat) (c : Segment) (e : Unit) : Option (Unit ⊕ (Int)) := (ix a.Rates (b : Int)).bind fun d => if (!(Na d.2 (min 1000 c.Capacity))) = true then some ((.inr (1))) else some (.inl ())
def Ha (a : Network) (b : Plan) : Option Int := (Gs a).bind fun c => if (c != 0) = true then some c else if (((b.Rates.length : Int) != (a.Segments.length : Int)) || (((b.Ports.length : Int) != (a.Ports.length : Int)) || ((b.Pumps.length : Int) != (a.Stations.length : Int)))) = true then some 9 else (forL (Ha.B2 b) 0 a.Segments ()).bind fun d => Sum.elim (fun f => Ha.J1 a b ()) (fun e => some e) d
def V1 (a : Li) : Option KS := (Zh a 0 (min (a.length : Int) 2000)).bind fun b => some (⟨b, 0⟩ : KS)
def Vi (a : KS) : Option (Int × KS) := if decide (a.At ≥ (a.L_.length : Int)) = true then some (0, a) else (ix a.L_ (wr ((wr (a.At + 1)) - 1))).bind fun b => some (b.2, (⟨a.L_, wr (a.At + 1)⟩ : KS))
def D9 (b : KS) (c : Int) : Option (Int × KS) := (Vi b).bind fun a => (Wc a.1 c).bind fun d => some (d, a.2)
def Hz (a : ByteArray) (b : Int) : Option ByteArray := (Zt ([IntKind.u8.wrap (wr (97 + (b.tmod 26)))] : Li)).bind fun c => (rF a c).bind fun d => some d
def Ej (c : KS) (a : Li) : Option (Int × KS) := (D9 c (a.length : Int)).bind fun b => (ix a b.1).bind fun d => some (d.2, b.2)
def E7 (c : KS) (a : Int) (d : Int) : Option (Int × KS) := (D9 c (wr ((wr (d - a)) + 1))).bind fun b => some (wr (a + b.1), b.2)
def M6.J2 (b : Li × Int × Int × Int) (e : ByteArray) (c : Int × KS) (f : Int × KS) (g : Int × KS) (h : Int × KS) (a : Li × Int × (List Point)) : Option (Segment × KS) := (E7 (⟨a.1, a.2.1⟩ : KS) (-5) 30).bind fun d => (Dy a.2.2 ([(⟨c.1, d.1, h.1⟩ : Point)] : List Point)).bind fun i => some ((⟨e, b.2.2.1, b.2.2.2, c.1, f.1, g.1, i⟩ : Segment), d.2)
def M6.J4 (g : Int × KS) (h : Int × KS) (a : Li × Int × (List Point) × Int) (c : Li × Int × Bool) : Option ((Li × Int × (List Point) × Int) ⊕ ((Li × Int × (List Point)))) := if c.2.2 = true then (E7 (⟨c.1, c.2.1⟩ : KS) 1 40).bind fun b => if decide ((wr (a.2.2.2 + b.1)) ≥ g.1) = true then some ((.inr ((b.2.L_, b.2.At, a.2.2.1)))) else (E7 b.2 (-5) 60).bind fun e => (Ej e.2 ([1, 1, 10] : Li)).bind fun f => (D9 f.2 3).bind fun d => (Dy a.2.2.1 ([(⟨wr (a.2.2.2 + b.1), wr (e.1 * f.1), wr (h.1 - (wr (d.1 * 1000)))⟩ : Point)] : List Point)).bind fun i => some (.inl (d.2.L_, d.2.At, i, wr (a.2.2.2 + b.1))) else some ((.inr ((c.1, c.2.1, a.2.2.1))))
def M6.B3 (c : Int × KS) (d : Int × KS) (a : Li × Int × (List Point) × Int) : Option ((Li × Int × (List Point) × Int) ⊕ ((Li × Int × (List Point)))) := if decide ((a.2.2.1.length : Int) < 7) = true then (D9 (⟨a.1, a.2.1⟩ : KS) 3).bind fun b => M6.J4 c d a (b.2.L_, b.2.At, decide (b.1 > 0)) else M6.J4 c d a (a.1, a.2.1, false)
def M6.J1 (g : Int) (b : Li × Int × Int × Int) : Option (Segment × KS) := (Hz (⟨#[103]⟩ : ByteArray) g).bind fun h => (Ej (⟨b.1, b.2.1⟩ : KS) ([1, 2, 7, 20, 60, 200, 1000] : Li)).bind fun c => (Ej c.2 ([0, 1, 5, 1000] : Li)).bind fun e => (Ej e.2 ([0, 50, 1000, 100000] : Li)).bind fun f => (Ej f.2 ([1000000, 6000000, 100000000] : Li)).bind fun a => (E7 a.2 (-5) 30).bind fun d => (Dy [] ([(⟨0, d.1, a.1⟩ : Point)] : List Point)).bind fun i => (Da (M6.B3 c a) Eh (d.2.L_, d.2.At, i, 0)).bind fun j => M6.J2 b h c e f a j
def M6 (e : KS) (b : Int) (c : Int) (d : Int) : Option (Segment × KS) := (D9 e 4).bind fun a => if (a.1 == 0) = true then M6.J1 b (a.2.L_, a.2.At, d, c) else M6.J1 b (a.2.L_, a.2.At, c, d)
def V6.J4 (b : Int × KS) (c : Int × KS) (d : Li × Int × (List ByteArray)) (e : Li × Int × (List Segment)) (a : Li × Int × (List Port) × (List Station)) : Option (Network × KS) := some ((⟨d.2.2, e.2.2, a.2.2.1, a.2.2.2, b.1, c.1⟩ : Network), (⟨a.1, a.2.1⟩ : KS))
def V6.J6 (b : Li × Int × (List Port) × (List Station) × Int) (a : Li × Int × (List Port) × (List Station)) : Option ((Li × Int × (List Port) × (List Station) × Int) ⊕ ((Li × Int × (List Port) × (List Station)))) := some (.inl (a.1, a.2.1, a.2.2.1, a.2.2.2, wr (b.2.2.2.2 + 1)))
def V6.J8 (a : Li × Int × (List Port) × (List Station) × Int) (d : Li × Int × (List Port)) (b : Li × Int × Bool) : Option ((Li × Int × (List Port) × (List Station) × Int) ⊕ ((Li × Int × (List Port) × (List Station)))) := if b.2.2 = true then (Hz (⟨#[115]⟩ : ByteArray) (a.2.2.2.1.length : Int)).bind fun g => (Ej (⟨b.1, b.2.1⟩ : KS) ([500000, 2000000, 0] : Li)).bind fun e => (Ej e.2 ([0, 200, 100000] : Li)).bind fun f => (Ej f.2 ([0, 100000, 400000] : Li)).bind fun c => (Dy a.2.2.2.1 ([(⟨g, a.2.2.2.2, e.1, f.1, c.1⟩ : Station)] : List Station)).bind fun h => V6.J6 a (c.2.L_, c.2.At, d.2.2, h) else V6.J6 a (b.1, b.2.1, d.2.2, a.2.2.2.1)
def V6.J7 (d : Li × Int × (List ByteArray)) (b : Li × Int × (List Port) × (List Station) × Int) (a : Li × Int × (List Port)) : Option ((Li × Int × (List Port) × (List Station) × Int) ⊕ ((Li × Int × (List Port) × (List Station)))) := if decide (b.2.2.2.2 < (wr ((d.2.2.length : Int) - 1))) = true then (D9 (⟨a.1, a.2.1⟩ : KS) 3).bind fun c => V6.J8 b a (c.2.L_, c.2.At, (c.1 == 0)) else V6.J8 b a (a.1, a.2.1, false)
def V6.J9 (d : Li × Int × (List ByteArray)) (a : Li × Int × (List Port) × (List Station) × Int) (b : Li × Int × Bool) : Option ((Li × Int × (List Port) × (List Station) × Int) ⊕ ((Li × Int × (List Port) × (List Station)))) := if b.2.2 = true then (Hz (⟨#[113]⟩ : ByteArray) (a.2.2.1.length : Int)).bind fun e => (Ej (⟨b.1, b.2.1⟩ : KS) ([300000, 1000000, 0, 5000000] : Li)).bind fun c => (Dy a.2.2.1 ([(⟨e, a.2.2.2.2, c.1⟩ : Port)] : List Port)).bind fun f => V6.J7 d a (c.2.L_, c.2.At, f) else V6.J7 d a (b.1, b.2.1, a.2.2.1)
def V6.B5 (b : Li × Int × (List ByteArray)) (a : Li × Int × (List Port) × (List Station) × Int) : Option ((Li × Int × (List Port) × (List Station) × Int) ⊕ ((Li × Int × (List Port) × (List Station)))) := if decide (a.2.2.2.2 ≤ (wr ((b.2.2.length : Int) - 1))) = true then if (a.2.2.2.2 == 0) = true then V6.J9 b a (a.1, a.2.1, true) else if (a.2.2.2.2 == (wr ((b.2.2.length : Int) - 1))) = true then V6.J9 b a (a.1, a.2.1, true) else (D9 (⟨a.1, a.2.1⟩ : KS) 2).bind fun c => V6.J9 b a (c.2.L_, c.2.At, (c.1 == 0)) else some ((.inr ((a.1, a.2.1, a.2.2.1, a.2.2.2.1))))
def V6.J3 (c : Int × KS) (d : Int × KS) (b : Li × Int × (List ByteArray)) (a : Li × Int × (List Segment)) : Option (Network × KS) := (Da (V6.B5 b) Eh (a.1, a.2.1, [], [], 0)).bind fun e => V6.J4 c d b a e
def V6.B10 (d : Li × Int × (List ByteArray)) (a : Li × Int × (List Segment) × Int) : Option ((Li × Int × (List Segment) × Int) ⊕ ((Li × Int × (List Segment)))) := if decide (a.2.2.2 > 0) = true then (D9 (⟨a.1, a.2.1⟩ : KS) (wr ((d.2.2.length : Int) - 1))).bind fun b => (E7 b.2 (wr (b.1 + 1)) (wr ((d.2.2.length : Int) - 1))).bind fun e => (M6 e.2 (a.2.2.1.length : Int) b.1 e.1).bind fun c => (Dy a.2.2.1 ([c.1] : List Segment)).bind fun f => some (.inl (c.2.L_, c.2.At, f, wr (a.2.2.2 - 1))) else some ((.inr ((a.1, a.2.1, a.2.2.1))))
def V6.J2 (d : Int × KS) (e : Int × KS) (c : Li × Int × (List ByteArray)) (a : Li × Int × (List Segment)) : Option (Network × KS) := (D9 (⟨a.1, a.2.1⟩ : KS) 4).bind fun b => (Da (V6.B10 c) Eh (b.2.L_, b.2.At, a.2.2, b.1)).bind fun f => V6.J3 d e c f
def V6.B11 (c : Li × Int × (List ByteArray)) (a : Li × Int × (List Segment) × Int) : Option ((Li × Int × (List Segment) × Int) ⊕ ((Li × Int × (List Segment)))) := if decide (a.2.2.2 < (wr ((c.2.2.length : Int) - 1))) = true then (M6 (⟨a.1, a.2.1⟩ : KS) (a.2.2.1.length : Int) a.2.2.2 (wr (a.2.2.2 + 1))).bind fun b => (Dy a.2.2.1 ([b.1] : List Segment)).bind fun d => some (.inl (b.2.L_, b.2.At, d, wr (a.2.2.2 + 1))) else some ((.inr ((a.1, a.2.1, a.2.2.1))))
def V6.J1 (b : Int × KS) (c : Int × KS) (a : Li × Int × (List ByteArray)) : Option (Network × KS) := (Da (V6.B11 a) Eh (a.1, a.2.1, [], 0)).bind fun d => V6.J2 b c a d
def V6.B12 (b : Int × KS) (a : (List ByteArray) × Int) : Option (((List ByteArray) × Int) ⊕ ((Li × Int × (List ByteArray)))) := if decide (a.2 > 0) = true then (Hz (⟨#[110]⟩ : ByteArray) (a.1.length : Int)).bind fun c => (Dy a.1 ([c] : List ByteArray)).bind fun d => some (.inl (d, wr (a.2 - 1))) else some ((.inr ((b.2.L_, b.2.At, a.1))))
def V6 (d : KS) : Option (Network × KS) := (Ej d ([(-100000), 0, 50000] : Li)).bind fun a => (Ej a.2 ([0, 1, 5, 100] : Li)).bind fun b => (E7 b.2 2 6).bind fun c => (Da (V6.B12 c) Eh ([], c.1)).bind fun e => V6.J1 a b e
def Hy (a : Int) : Int := (max a (wr (0 - a)))
def Qd.J2 (a : List Bool) (b : Li) (c : Li) : Option Plan := some (⟨b, c, a⟩ : Plan)
def Qd.B3 (d : Nat) (a : Int) (b : Li) : Option Li := (Dy b ([wr (0 - a)] : Li)).bind fun c => some c
def Qd.J1 (a : Plan) (b : List Bool) (c : Li) : Option Plan := (forS Qd.B3 0 a.Ports []).bind fun d => Qd.J2 b c d
def Qd.B4 (d : Nat) (a : Int) (b : Li) : Option Li := (Dy b ([wr (0 - a)] : Li)).bind fun c => some c
def Qd (a : Plan) : Option Plan := (Dy ([] : List Bool) a.Pumps).bind fun b => (forS Qd.B4 0 a.Rates []).bind fun c => Qd.J1 a b c
def Ql.J3 (b : Li × Int × (List Bool)) (c : Int × KS) (a : Li × Int × Li × Li) : Option (Plan × KS) := if (c.1 == 0) = true then (Qd (⟨a.2.2.1, a.2.2.2, b.2.2⟩ : Plan)).bind fun d => some (d, (⟨a.1, a.2.1⟩ : KS)) else some ((⟨a.2.2.1, a.2.2.2, b.2.2⟩ : Plan), (⟨a.1, a.2.1⟩ : KS))
def Ql.J5 (b : Li × Int × Li × Li × Int) (a : Li × Int × Li × Li) : Option ((Li × Int × Li × Li × Int) ⊕ ((Li × Int × Li × Li))) := some (.inl (a.1, a.2.1, a.2.2.1, a.2.2.2, wr (b.2.2.2.2 - 1)))
def Ql.J10 (a : Li) : Option Li := some a
def Ql.B9 (g : Network) (c : Int × KS) (h : Li × Int × Li × Int) (i : Nat) (a : Li) : Option Li := (ix h.2.2.1 (i : Int)).bind fun b => (ix g.Segments b.2).bind fun d => if decide (d.2.From < d.2.To) = true then (ix a b.2).bind fun e => Ql.J10 (a.set e.1 (wr (e.2 + c.1))) else (ix a b.2).bind fun f => Ql.J10 (a.set f.1 (wr (f.2 - c.1)))
def Ql.J8 (c : Network) (b : Li × Int × Li × Li × Int) (d : Int × KS) (a : Li × Int × Li × Int) (e : Li) : Option ((Li × Int × Li × Li × Int) ⊕ ((Li × Int × Li × Li))) := (forJ (Ql.B9 c d a) 0 a.2.2.1.length b.2.2.1).bind fun f => Ql.J5 b (a.1, a.2.1, f, e)
def Ql.J7 (e : Network) (a : Li × Int × Li × Li × Int) (f : Int × KS) (c : Int × KS) (b : Li × Int × Li × Int) : Option ((Li × Int × Li × Li × Int) ⊕ ((Li × Int × Li × Li))) := if decide (b.2.2.2 < 0) = true then Ql.J5 a (b.1, b.2.1, a.2.2.1, a.2.2.2.1) else (ix a.2.2.2.1 f.1).bind fun d => (ix a.2.2.2.1 b.2.2.2).bind fun g => (ix (a.2.2.2.1.set d.1 (wr (d.2 + c.1))) b.2.2.2).bind fun h => Ql.J8 e a c b ((a.2.2.2.1.set d.1 (wr (d.2 + c.1))).set h.1 (wr (g.2 - c.1)))
def Ql.J13 (g : Network) (b : Li × Int × Int × Li × Int) (a : Li × Int × Int) (c : Li) : Option ((Li × Int × Int × Li × Int) ⊕ ((Li × Int × Li × Int))) := if ((c.length : Int) == 0) = true then some ((.inr ((a.1, a.2.1, b.2.2.2.1, a.2.2)))) else (D9 (⟨a.1, a.2.1⟩ : KS) (c.length : Int)).bind fun d => (ix c d.1).bind fun e => (Dy b.2.2.2.1 ([e.2] : Li)).bind fun h => (ix g.Segments e.2).bind fun f => some (.inl (d.2.L_, d.2.At, wr ((wr (f.2.From + f.2.To)) - b.2.2.1), h, a.2.2))
def Ql.J15 (a : Li) : Option Li := some a
def Ql.J16 (b : Nat) (a : Li) (c : Bool) : Option Li := if c = true then (Dy a ([(b : Int)] : Li)).bind fun d => Ql.J15 d else Ql.J15 a
def Ql.B14 (e : Li × Int × Li × Li × Int) (f : Int × KS) (c : Li × Int × Int × Li × Int) (b : Nat) (a : Segment) (d : Li) : Option Li := if (a.From == c.2.2.1) = true then if decide ((wr ((wr (a.From + a.To)) - c.2.2.1)) > c.2.2.1) = true then (ix e.2.2.1 (b : Int)).bind fun g => Ql.J16 b d (decide ((wr ((Hy g.2) + f.1)) ≤ (min 1000 a.Capacity))) else Ql.J16 b d false else if (a.To == c.2.2.1) = true then if decide ((wr ((wr (a.From + a.To)) - c.2.2.1)) > c.2.2.1) = true then (ix e.2.2.1 (b : Int)).bind fun h => Ql.J16 b d (decide ((wr ((Hy h.2) + f.1)) ≤ (min 1000 a.Capacity))) else Ql.J16 b d false else Ql.J16 b d false
def Ql.J12 (c : Network) (d : Li × Int × Li × Li × Int) (e : Int × KS) (b : Li × Int × Int × Li × Int) (a : Li × Int × Int) : Option ((Li × Int × Int × Li × Int) ⊕ ((Li × Int × Li × Int))) := if decide (a.2.2 ≥ 0) = true then some ((.inr ((a.1, a.2.1, b.2.2.2.1, a.2.2)))) else (forS (Ql.B14 d e b) 0 c.Segments []).bind fun f => Ql.J13 c b a f
def Ql.J18 (a : Li × Int × Int) : Option (Li × Int × Int) := some (a.1, a.2.1, a.2.2)
def Ql.J19 (b : Nat) (c : Li × Int × Int) (a : Li × Int × Bool) : Option (Li × Int × Int) := if a.2.2 = true then Ql.J18 (a.1, a.2.1, (b : Int)) else Ql.J18 (a.1, a.2.1, c.2.2)
def Ql.B17 (f : Li × Int × Li × Li × Int) (g : Int × KS) (h : Int × KS) (d : Li × Int × Int × Li × Int) (b : Nat) (i : Port) (a : Li × Int × Int) : Option (Li × Int × Int) := if (i.Node == d.2.2.1) = true then if ((b : Int) != g.1) = true then (ix f.2.2.2.1 (b : Int)).bind fun e => if decide (e.2 ≤ 0) = true then if decide ((wr (e.2 - h.1)) ≥ (-1000)) = true then if decide ((d.2.2.2.1.length : Int) > 0) = true then (D9 (⟨a.1, a.2.1⟩ : KS) 2).bind fun c => Ql.J19 b a (c.2.L_, c.2.At, (c.1 == 0)) else Ql.J19 b a (a.1, a.2.1, false) else Ql.J19 b a (a.1, a.2.1, false) else Ql.J19 b a (a.1, a.2.1, false) else Ql.J19 b a (a.1, a.2.1, false) else Ql.J19 b a (a.1, a.2.1, false)
def Ql.B11 (c : Network) (d : Li × Int × Li × Li × Int) (f : Int × KS) (e : Int × KS) (a : Li × Int × Int × Li × Int) : Option ((Li × Int × Int × Li × Int) ⊕ ((Li × Int × Li × Int))) := if decide (a.2.2.2.2 < 0) = true then (forS (Ql.B17 d f e a) 0 c.Ports (a.1, a.2.1, a.2.2.2.2)).bind fun b => Ql.J12 c d e a (b.1, b.2.1, b.2.2) else some ((.inr ((a.1, a.2.1, a.2.2.2.1, a.2.2.2.2))))
def Ql.J6 (c : Network) (b : Li × Int × Li × Li × Int) (d : Int × KS) (e : Nat × Port) (a : Int × KS) (f : Bool) : Option ((Li × Int × Li × Li × Int) ⊕ ((Li × Int × Li × Li))) := if f = true then Ql.J5 b (a.2.L_, a.2.At, b.2.2.1, b.2.2.2.1) else (Da (Ql.B11 c b d a) Eh (a.2.L_, a.2.At, e.2.Node, [], (-1))).bind fun g => Ql.J7 c b d a g
def Ql.B4 (c : Network) (a : Li × Int × Li × Li × Int) : Option ((Li × Int × Li × Li × Int) ⊕ ((Li × Int × Li × Li))) := if decide (a.2.2.2.2 > 0) = true then (D9 (⟨a.1, a.2.1⟩ : KS) (c.Ports.length : Int)).bind fun b => (ix c.Ports b.1).bind fun e => (Ej b.2 ([1, 5, 30, 300] : Li)).bind fun f => (E7 f.2 1 f.1).bind fun d => (ix a.2.2.2.1 b.1).bind fun g => if decide (g.2 < 0) = true then Ql.J6 c a b e d true else Ql.J6 c a b e d (decide ((wr (g.2 + d.1)) > 1000)) else some ((.inr ((a.1, a.2.1, a.2.2.1, a.2.2.2.1))))
def Ql.J2 (e : Network) (c : Li × Li) (a : Li × Int × (List Bool)) : Option (Plan × KS) := (D9 (⟨a.1, a.2.1⟩ : KS) 3).bind fun d => (D9 d.2 5).bind fun b => (Da (Ql.B4 e) Eh (b.2.L_, b.2.At, c.1, c.2, b.1)).bind fun f => Ql.J3 a d f
def Ql.B20 (c : Network) (a : Li × Int × (List Bool) × Int) : Option ((Li × Int × (List Bool) × Int) ⊕ ((Li × Int × (List Bool)))) := if decide (a.2.2.2 < (c.Stations.length : Int)) = true then (D9 (⟨a.1, a.2.1⟩ : KS) 2).bind fun b => (Dy a.2.2.1 ([(b.1 == 0)] : List Bool)).bind fun d => some (.inl (b.2.L_, b.2.At, d, wr (a.2.2.2 + 1))) else some ((.inr ((a.1, a.2.1, a.2.2.1))))
def Ql.J1 (a : KS) (b : Network) (c : Li × Li) : Option (Plan × KS) := (Da (Ql.B20 b) Eh (a.L_, a.At, [], 0)).bind fun d => Ql.J2 b c d
def Ql (b : KS) (a : Network) : Option (Plan × KS) := (So (a.Segments.length : Int) (0 : Int)).bind fun c => (So (a.Ports.length : Int) (0 : Int)).bind fun d => Ql.J1 b a (c, d)
def Zw.J1 (a : Unit) : Option Bool := some true
def Zw.B2 (a : Li) (b : Nat) (c : Int) (e : Unit) : Option (Unit ⊕ (Bool)) := (ix a (b : Int)).bind fun d => if (c != d.2) = true then some ((.inr (false))) else some (.inl ())
def Zw (a : Li) (b : Li) : Option Bool := if ((a.length : Int) != (b.length : Int)) = true then some false else (forL (Zw.B2 b) 0 a ()).bind fun c => Sum.elim (fun e => Zw.J1 ()) (fun d => some d) c
def lC.J1 (a : Unit) : Option Bool := some true
def lC.B2 (a : List Li) (b : Nat) (c : Li) (f : Unit) : Option (Unit ⊕ (Bool)) := (ix a (b : Int)).bind fun d => (Zw c d.2).bind fun e => if (!e) = true then some ((.inr (false))) else some (.inl ())
def lC (a : List Li) (b : List Li) : Option Bool := if ((a.length : Int) != (b.length : Int)) = true then some false else (forL (lC.B2 b) 0 a ()).bind fun c => Sum.elim (fun e => lC.J1 ()) (fun d => some d) c
def Qi.J1 (a : Arr Int 24) : Option (Arr Int 24) := some a
def Qi.B2 (a : Nat) (b : Arr Int 24) : Option (Arr Int 24) := (ix b.l (a : Int)).bind fun c => some (b.set c.1 (a : Int))
def Qi : Option (Arr Int 24) := (forJ Qi.B2 0 24 (Arr.rep 24 (0 : Int))).bind fun a => Qi.J1 a
def K3.J1 (a : (Arr Int 24) × Int) : Option (Int × (Arr Int 24)) := some (a.2, a.1)
def K3.B2 (a : (Arr Int 24) × Int) : Option (((Arr Int 24) × Int) ⊕ (((Arr Int 24) × Int))) := (ix a.1.l a.2).bind fun b => if (b.2 != a.2) = true then (ix a.1.l b.2).bind fun c => (ix ((a.1.set b.1 c.2).l) a.2).bind fun d => some (.inl ((a.1.set b.1 c.2), d.2)) else some ((.inr ((a.1, a.2))))
def K3 (a : Arr Int 24) (b : Int) : Option (Int × (Arr Int 24)) := (Da K3.B2 Eh (a, b)).bind fun c => K3.J1 c
def Vx (c : Arr Int 24) (d : Int) (e : Int) : Option (Arr Int 24) := (K3 c d).bind fun b => (K3 b.2 e).bind fun a => (ix a.2.l b.1).bind fun f => some (a.2.set f.1 a.1)
def Nq.J1 (a : Bool) : Option Bool := some a
def Nq (a : Int) (b : Plan) (c : Plan) : Option Bool := (ix b.Rates a).bind fun d => if (d.2 != 0) = true then Nq.J1 true else (ix c.Rates a).bind fun e => Nq.J1 (e.2 != 0)
def Px.J2 (a : List Li) : Option (List Li) := some a
def Px.J4 (a : (Arr Int 24) × (List Li) × Li) : Option ((Arr Int 24) × (List Li) × Li) := some (a.1, a.2.1, a.2.2)
def Px.J5 (c : Nat) (d : Int × (Arr Int 24)) (a : (List Li) × Li × Int) : Option ((Arr Int 24) × (List Li) × Li) := (ix a.1 a.2.2).bind fun b => (Dy b.2 ([(c : Int)] : Li)).bind fun e => Px.J4 (d.2, (a.1.set b.1 e), a.2.1)
def Px.B3 (e : Plan) (f : Plan) (c : Nat) (g : Segment) (a : (Arr Int 24) × (List Li) × Li) : Option ((Arr Int 24) × (List Li) × Li) := (Nq (c : Int) e f).bind fun h => if (!h) = true then Px.J4 (a.1, a.2.1, a.2.2) else (K3 a.1 g.From).bind fun b => (P9 a.2.2 b.1).bind fun d => if decide (d < 0) = true then (Dy a.2.2 ([b.1] : Li)).bind fun i => (Dy a.2.1 [[]]).bind fun j => Px.J5 c b (j, i, (a.2.2.length : Int)) else Px.J5 c b (a.2.1, a.2.2, d)
def Px.J1 (a : Network) (b : Plan) (c : Plan) (d : Arr Int 24) : Option (List Li) := (forS (Px.B3 b c) 0 a.Segments (d, [], [])).bind fun e => Px.J2 e.2.1
def Px.J7 (a : Arr Int 24) : Option (Arr Int 24) := some a
def Px.B6 (c : Plan) (d : Plan) (e : Nat) (a : Segment) (b : Arr Int 24) : Option (Arr Int 24) := (Nq (e : Int) c d).bind fun f => if f = true then (Vx b a.From a.To).bind fun g => Px.J7 g else Px.J7 b
def Px (a : Network) (b : Plan) (c : Plan) : Option (List Li) := (Qi).bind fun d => (forS (Px.B6 b c) 0 a.Segments d).bind fun e => Px.J1 a b c e
def Z0 (a : Network) (c : Plan) (d : Plan) : Option Int := (Ha a c).bind fun b => if (b != 0) = true then some b else (Ha a d).bind fun e => some e
def kZ (a : Network) (b : Plan) (c : Plan) : Option ((List Li) × Int) := (Z0 a b c).bind fun d => if (d != 0) = true then some ([], d) else (Px a b c).bind fun e => some (e, 0)
def Kx.J1 (a : Li) : Option Li := some a
def Kx.J3 (a : Li) : Option Li := some a
def Kx.B5 (b : Int) (e : Nat) (c : Int) (a : Li) : Option Li := (ix a c).bind fun d => some (a.set d.1 b)
def Kx.J4 (a : Li) (b : Li) (c : Int) : Option Li := (forS (Kx.B5 c) 0 a b).bind fun d => Kx.J3 d
def Kx.B6 (d : Network) (e : Plan) (f : Plan) (i : Nat) (a : Int) (g : Int) : Option Int := (ix f.Rates a).bind fun b => (ix e.Rates a).bind fun c => (ix d.Segments a).bind fun h => some (wr (g + (wr (h.2.Wave * (max (wr (b.2 - c.2)) (wr (0 - (wr (b.2 - c.2)))))))))
def Kx.B2 (b : Network) (c : Plan) (d : Plan) (g : Nat) (a : Li) (e : Li) : Option Li := (forS (Kx.B6 b c d) 0 a 0).bind fun f => Kx.J4 a e f
def Kx (a : Network) (b : Plan) (c : Plan) : Option Li := (So (a.Segments.length : Int) (0 : Int)).bind fun d => (Px a b c).bind fun e => (forS (Kx.B2 a b c) 0 e d).bind fun f => Kx.J1 f
def lB (a : Network) (b : Plan) (c : Plan) : Option (Li × Int) := (Z0 a b c).bind fun d => if (d != 0) = true then some ([], d) else (Kx a b c).bind fun e => some (e, 0)
def Vv.J1 (a : List Segment) : Option Network := some (⟨([(⟨#[97]⟩ : ByteArray), (⟨#[98]⟩ : ByteArray), (⟨#[99]⟩ : ByteArray)] : List ByteArray), a, ([(⟨(⟨#[105, 110]⟩ : ByteArray), 0, 1000000⟩ : Port), (⟨(⟨#[111, 117, 116]⟩ : ByteArray), 2, 0⟩ : Port)] : List Port), [], 0, 5⟩ : Network)
def Vv.J3 (a : (List Segment) × Int) (b : List Segment) : Option (((List Segment) × Int) ⊕ ((List Segment))) := some (.inl (b, wr (a.2 + 1)))
def Vv.B2 (a : (List Segment) × Int) : Option (((List Segment) × Int) ⊕ ((List Segment))) := if decide (a.2 < 2) = true then (ix ([(⟨#[120]⟩ : ByteArray), (⟨#[121]⟩ : ByteArray)] : List ByteArray) a.2).bind fun b => (Dy a.1 ([(⟨b.2, a.2, wr (a.2 + 1), 100, 0, wr (10 + (wr (10 * a.2))), ([(⟨0, 0, 2000000⟩ : Point), (⟨100, 0, 2000000⟩ : Point)] : List Point)⟩ : Segment)] : List Segment)).bind fun c => Vv.J3 a c else some ((.inr (a.1)))
def Vv : Option Network := (Da Vv.B2 Eh ([], 0)).bind fun a => Vv.J1 a
def Mz (a : Int) : Plan := (⟨([a, a] : Li), ([a, wr (0 - a)] : Li), []⟩ : Plan)
def Zy.J1 (a : Bool) : Option Bool := some a
def Zy : Option Bool := (Vv).bind fun c => (lB c (Mz 100) (Mz 80)).bind fun a => (Vv).bind fun d => (kZ d (Mz 0) (Mz 80)).bind fun b => if (a.2 == 0) = true then (Zw a.1 ([600, 600] : Li)).bind fun e => if e = true then if (b.2 == 0) = true then (lC b.1 ([([0, 1] : Li)] : List Li)).bind fun f => Zy.J1 f else Zy.J1 false else Zy.J1 false else Zy.J1 false
end Go.Proofs.YtodeekicjiengaaGreatDoor
namespace Go.Aw
set_option linter.unusedVariables false
set_option linter.unusedSimpArgs false
open Go.Sort
theorem Uv {H H' : GH} {w w' : World} {b ty cap : Nat} {a ts es : Li} {cs : Array Value} (hb : w.heap[b]? = some (.cells cs ty (0, 0))) (hsz : cs.size = cap * 1) (hcap : a.length ≤ cap) (hmax : a.length ≤ Hf)
  (hl : ts.length = a.length) (hp : es.length ≤ ts.length) (hpre : ts.take es.length = es) (hb' : w'.heap[b]? = some (.cells (putCells (Value.int .i64) 0 ts.toArray cs) ty (0, 0))) : ArrR H' w' b ty 1 cap (es.map rI) := by
 refine ⟨_, hb', by simp [putCells, hsz], by simp; omega, by simp; omega, fun i e he => ?_, fun i e he j x hx => ?_⟩
 ·rw [List.getElem?_map] at he
  obtain ⟨n, _, rfl⟩ := Option.map_eq_some_iff.1 he
  rfl
 ·rw [List.getElem?_map] at he
  obtain ⟨n, hn, rfl⟩ := Option.map_eq_some_iff.1 he
  have hj : j = 0 := by have := (gs hx).1; simp [rI] at this; exact this
  subst hj
  simp [rI] at hx
  subst hx
  have hi := (gs hn).1
  have hti : ts[i]? = some n := by
   rw [← hpre, List.getElem?_take_of_lt hi] at hn; exact hn
  have hil := (gs hti).1
  have : (putCells (Value.int .i64) 0 ts.toArray cs).getD (i * 1 + 0) undef = .int .i64 n := by
   rw [Array.getD_eq_getD_getElem?]
   simp only [putCells, Array.getElem?_mapIdx, Nat.mul_one, Nat.add_zero]
   have hcs : i < cs.size := by omega
   rw [Array.getElem?_eq_getElem hcs]
   simp [hil]
   exact (gs hti).2
  rw [this]
  exact ⟨rfl, .v _⟩
theorem ArrR.held {H : GH} {w : World} {b ty cap : Nat} {a : Li} (h : ArrR H w b ty 1 cap (a.map rI)) :
  ∃ cs, w.heap[b]? = some (.cells cs ty (0, 0)) ∧ cs.size = cap * 1 ∧ a.length ≤ cap ∧ a.length ≤ Hf ∧ Holds (Value.int .i64) w b 0 a.toArray := by
 obtain ⟨cs, c, f, d, e, i, g⟩ := h
 rw [List.length_map] at d e
 refine ⟨cs, c, f, d, e, fun j hj => ⟨?_, by simp [World.frozen?, c]⟩⟩
 have hj' : j < a.length := by simpa using hj
 have := (g j (rI a[j]) (by rw [List.getElem?_map, gq hj']; rfl) 0 (.V a[j]) rfl).2.v_eq
 rw [Nat.mul_one, Nat.add_zero] at this
 have hcs : j < cs.size := by omega
 simp only [World.cell?, c, Nat.zero_add]
 rw [Array.getD_eq_getD_getElem?, Array.getElem?_eq_getElem hcs] at this
 simp at this ⊢
 rw [Array.getElem?_eq_getElem hcs, this]; simp [hj']
theorem Pd (l : Li) : (Lib.compact l).length ≤ l.length := by
 unfold Lib.compact Lib.compactUpTo
 rw [List.length_map]
 exact Nat.le_trans (List.length_filter_le _ _) (by simp)
section
variable {E : Env}
def Mu (l : Li) : Li := l.mergeSort fun x y => decide (x ≤ y)
def qZ (x : Int) : Li → Li
 | [] => [x]
 | y :: l => if x ≤ y then x :: y :: l else y :: qZ x l
def Lt : Li → Li
 | [] => []
 | x :: l => qZ x (Lt l)
theorem Rr (x : Int) : ∀ l : Li, (qZ x l).Perm (x :: l)
 | [] => .refl _
 | y :: l => by
  simp only [qZ]
  split
  ·exact .refl _
  ·exact ((Rr x l).cons y).trans (.swap x y l)
theorem Lh : ∀ l : Li, (Lt l).Perm l
 | [] => .refl _
 | x :: l => (Rr x (Lt l)).trans ((Lh l).cons x)
theorem kP (x : Int) : ∀ l : Li, l.Pairwise (· ≤ ·) → (qZ x l).Pairwise (· ≤ ·)
 | [], _ => by simp [qZ]
 | y :: l, h => by
  simp only [qZ]
  rw [List.pairwise_cons] at h
  split
  ·rename_i hxy
   refine List.pairwise_cons.2 ⟨fun z hz => ?_, List.pairwise_cons.2 h⟩
   rcases List.mem_cons.1 hz with rfl | hz
   ·exact hxy
   ·have := h.1 z hz; omega
  ·refine List.pairwise_cons.2 ⟨fun z hz => ?_, kP x l h.2⟩
   rcases List.mem_cons.1 ((Rr x l).mem_iff.1 hz) with rfl | hz
   ·omega
   ·exact h.1 z hz
theorem X7 : ∀ l : Li, (Lt l).Pairwise (· ≤ ·)
 | [] => .nil
 | x :: l => kP x _ (X7 l)
theorem cP (l : Li) : (Mu l).Pairwise (· ≤ ·) := by
 have := List.pairwise_mergeSort (le := fun x y : Int => decide (x ≤ y)) (by intro a b c; simp; omega) (by intro a b; simp; omega) l
 exact this.imp (by intro a b h; simpa using h)
theorem S8 (l : Li) : Mu l = Lt l :=
 List.Perm.eq_of_pairwise (fun a b _ _ c d => by omega) (cP l) (X7 l) ((List.mergeSort_perm l _).trans (Lh l).symm)
theorem Lb (l : Li) : (Mu l).length = l.length := by unfold Mu; simp
theorem Xe {f : FuncId} {ety : Nat} (hfn : ∃ fn, E.P.funcs[f]? = some fn ∧ (fn.name == "runtime.NumGoroutine") = false ∧ fn.body.isNone = false)
  (hc : ∀ (G2 off cap : Nat) (zs : Li) (w : World), Holds (Value.int .i64) w G2 off zs.toArray → G2 < w.heap.size → zs.length < 4611686018427387904 →
   Calls E.P f #[.slice (some ⟨G2, off, none⟩) zs.length cap] w fun e w' => e = .returned (.tuple #[]) ∧ ∃ n os, w' = grow (putRow (Value.int .i64) (Sort.ahead w n) G2 off (zs.mergeSort fun x y => decide (x ≤ y)).toArray) os)
  {d : Value} {a : Li} (hne : a ≠ []) :
  ACalls E f [.v d] [.us d ety 1 (a.map rI)] (Ea 1 fun x os new => x = .tup [] ∧ os = [.us d ety 1 ((Mu a).map rI)] ∧ new = []) := by
 refine ⟨hfn, fun H w vs hsz hv hheld hfp hnd => ?_⟩
 have hor := (hfp _ (List.mem_singleton.2 rfl)).1
 have hfree := (hfp _ (List.mem_singleton.2 rfl)).2
 rcases (show UsR H w d ety 1 (a.map rI) from hor) with ⟨_, h⟩ | ⟨b, c, cap, rfl, hlc, hcc, harr⟩
 ·exact absurd (List.map_eq_nil_iff.1 h) hne
 rw [List.length_map] at hlc
 obtain ⟨cs, i, q, r, j, hH⟩ := harr.held
 have hbl : b < w.heap.size := (Array.getElem?_eq_some_iff.1 i).1
 have hvs : vs = #[.slice (some ⟨b, 0, none⟩) a.length c] := by
  have := (hv 0 _ rfl).v_eq
  obtain ⟨l⟩ := vs
  match l, hsz, this with
  | [x], _, this => simp [Array.getD] at this; subst this; simp
 subst hvs
 refine (hc b 0 c a w hH hbl (by simp only [Hf] at j; omega)).mono ?_
 rintro e w' ⟨rfl, n, os, rfl⟩
 have hb' := heap_sortedI (n := n) (os := os) (a.mergeSort fun x y => decide (x ≤ y)).toArray i
 obtain ⟨s, t, u, z, k⟩ := grownBy_sortedI (w := w) (g := b) (n := n) (os := os) (a.mergeSort fun x y => decide (x ≤ y)).toArray
 have hbH : H b = none := hfree b (by simp [Ob.fp, F5])
 refine ⟨.tuple #[], .tup [], [.us (.slice (some ⟨b, 0, none⟩) (a.map rI).length c) ety 1 ((Mu a).map rI)], H, rfl, ⟨[_], [], rfl, rfl, rfl, rfl, rfl⟩, .tup _ _ rfl (by simp), fun _ _ h => h, fun b' o ho => ?_, fun p hp => ?_, ?_, z, ⟨s, t, u⟩, fun b' hb'' hnin => ⟨?_, rfl⟩⟩
 ·have m := hheld.1 b' o ho
  have hne' : b' ≠ b := fun h => by rw [h, hbH] at ho; cases ho
  have hl' : b' < w.heap.size := (Array.getElem?_eq_some_iff.1 m).1
  rw [k b' hl' (by simp; omega)]; exact m
 ·rw [List.mem_singleton] at hp
  subst hp
  refine ⟨.inr ⟨b, c, cap, by simp [Lb], by simp [Lb]; omega, hcc, ?_⟩, fun b' hb'' => ?_⟩
  ·exact Uv (H := H) i q r j (Lb a) (Nat.le_refl _) (by simp) hb'
  ·simp only [Ob.fp, F5, List.mem_singleton] at hb''
   subst hb''
   exact ⟨hbH, .inr (by simp [Ob.fp, F5])⟩
 ·simp [Ob.fp, F5]
 ·have hne' : b' ≠ b := fun h => hnin (by simp [Ob.fp, F5, h])
  exact k b' hb'' (by simp; omega)
theorem Pj {f : FuncId} {ety : Nat} (hfn : ∃ fn, E.P.funcs[f]? = some fn ∧ (fn.name == "runtime.NumGoroutine") = false ∧ fn.body.isNone = false)
  (hc : ∀ (G2 off cap : Nat) (zs : Li) (w : World), Holds (Value.int .i64) w G2 off zs.toArray → zs.length ≤ 9223372036854775807 → zs.length ≤ cap →
   Calls E.P f #[.slice (some ⟨G2, off, none⟩) zs.length cap] w fun e w' => e = .returned (.slice (some ⟨G2, off, none⟩) (Lib.compact zs).length cap) ∧
    ∃ q, w' = putRow (Value.int .i64) (Sort.ahead w q) G2 off (Lib.compact zs ++ List.replicate (zs.length - (Lib.compact zs).length) 0).toArray)
  {d : Value} {a : Li} (hne : a ≠ []) :
  ACalls E f [.v d] [.us d ety 1 (a.map rI)] (Ea 1 fun x os new => ∃ k : Value, x = .v k ∧ os = [.us (.slice none 0 0) ety 1 (([] : Li).map rI)] ∧ new = [.us k ety 1 ((Lib.compact a).map rI)]) := by
 refine ⟨hfn, fun H w vs hsz hv hheld hfp hnd => ?_⟩
 have hor := (hfp _ (List.mem_singleton.2 rfl)).1
 have hfree := (hfp _ (List.mem_singleton.2 rfl)).2
 rcases (show UsR H w d ety 1 (a.map rI) from hor) with ⟨_, h⟩ | ⟨b, c, cap, rfl, hlc, hcc, harr⟩
 ·exact absurd (List.map_eq_nil_iff.1 h) hne
 rw [List.length_map] at hlc
 obtain ⟨cs, i, z, A, m, hH⟩ := harr.held
 have hbl : b < w.heap.size := (Array.getElem?_eq_some_iff.1 i).1
 have hvs : vs = #[.slice (some ⟨b, 0, none⟩) a.length c] := by
  have := (hv 0 _ rfl).v_eq
  obtain ⟨l⟩ := vs
  match l, hsz, this with
  | [x], _, this => simp [Array.getD] at this; subst this; simp
 subst hvs
 have hcl := Pd a
 refine (hc b 0 c a w hH (by simp only [Hf] at m; omega) hlc).mono ?_
 rintro e w' ⟨rfl, n, rfl⟩
 have hb' := heap_sortedI (n := n) (os := #[]) (Lib.compact a ++ List.replicate (a.length - (Lib.compact a).length) 0).toArray i
 obtain ⟨r, s, t, u, j⟩ := grownBy_sortedI (w := w) (g := b) (n := n) (os := #[]) (Lib.compact a ++ List.replicate (a.length - (Lib.compact a).length) 0).toArray
 rw [grow_empty] at hb' r s t u j
 have hbH : H b = none := hfree b (by simp [Ob.fp, F5])
 refine ⟨_, .v (.slice (some ⟨b, 0, none⟩) (Lib.compact a).length c), [.us (.slice none 0 0) ety 1 (([] : Li).map rI), .us (.slice (some ⟨b, 0, none⟩) (Lib.compact a).length c) ety 1 ((Lib.compact a).map rI)], H, rfl, ⟨[_], [_], rfl, rfl, _, rfl, rfl, rfl⟩, .v _, fun _ _ h => h, fun b' o ho => ?_, fun p hp => ?_, ?_, u, ⟨r, s, t⟩, fun b' hb'' hnin => ⟨?_, rfl⟩⟩
 ·have y := hheld.1 b' o ho
  have hne' : b' ≠ b := fun h => by rw [h, hbH] at ho; cases ho
  have hl' : b' < w.heap.size := (Array.getElem?_eq_some_iff.1 y).1
  rw [j b' hl' (by simp; omega)]; exact y
 ·simp only [List.mem_cons, List.not_mem_nil, or_false] at hp
  rcases hp with rfl | rfl
  ·exact ⟨.inl ⟨rfl, rfl⟩, fun b' hb'' => by simp [Ob.fp, F5] at hb''⟩
  refine ⟨.inr ⟨b, c, cap, by simp, by simp; omega, hcc, ?_⟩, fun b' hb'' => ?_⟩
  ·exact Uv (H := H) i z A m (by simp; omega) (by simp) (by simp) hb'
  ·simp only [Ob.fp, F5, List.mem_singleton] at hb''
   subst hb''
   exact ⟨hbH, .inr (by simp [Ob.fp, F5])⟩
 ·simp [Ob.fp, F5]
 ·have hne' : b' ≠ b := fun h => hnin (by simp [Ob.fp, F5, h])
  exact j b' hb'' (by simp; omega)
end
end Go.Aw
namespace Go.Proofs.YtodeekicjiengaaGreatDoor
open Go.Aw
set_option linter.unusedVariables false
set_option linter.unusedSimpArgs false
structure Product where
 Name : ByteArray
 Density : Int
 Expansion : Int
 Compress : Int
 Friction : Int
 deriving DecidableEq
def Bw (x : Product) : List T := [.v (.string x.Name), .V x.Density, .V x.Expansion, .V x.Compress, .V x.Friction]
structure Piece where
 Batch : Int
 Volume : Int
 deriving DecidableEq
def A4 (x : Piece) : List T := [.V x.Batch, .V x.Volume]
structure Batch where
 Product : Int
 Shipper : ByteArray
 From : Int
 To : Int
 deriving DecidableEq
def D7 (x : Batch) : List T := [.V x.Product, .v (.string x.Shipper), .V x.From, .V x.To]
structure product_span where
 least : Int
 most : Int
 deriving DecidableEq
def Ez (x : product_span) : List T := [.V x.least, .V x.most]
structure Bounds where
 Low : Int
 High : Int
 deriving DecidableEq
def Aq (x : Bounds) : List T := [.V x.Low, .V x.High]
structure gradient_part where
 length : Int
 width : Int
 height : Int
 liquid : Product
 deriving DecidableEq
def C3 (x : gradient_part) : List T := [.V x.length, .V x.width, .V x.height, .v (.string x.liquid.Name), .V x.liquid.Density, .V x.liquid.Expansion, .V x.liquid.Compress, .V x.liquid.Friction]
structure Level where
 At : Int
 Bounds : Bounds
 deriving DecidableEq
def Ao (x : Level) : List T := [.V x.At, .V x.Bounds.Low, .V x.Bounds.High]
def V0 (e : KS) (f : Int) : Option (Product × KS) := (Hz (⟨#[112]⟩ : ByteArray) f).bind fun g => (E7 e 400 1200).bind fun a => (Ej a.2 ([0, 830, 2000, 1] : Li)).bind fun b => (Ej b.2 ([0, 800, 5000, 3] : Li)).bind fun c => (Ej c.2 ([1, 700, 1000, 1300, 2000] : Li)).bind fun d => some ((⟨g, a.1, b.1, c.1, d.1⟩ : Product), d.2)
def Qq.J1 (a : Li × Int × (List Product)) : Option ((List Product) × KS) := some (a.2.2, (⟨a.1, a.2.1⟩ : KS))
def Qq.B2 (a : Li × Int × (List Product) × Int) : Option ((Li × Int × (List Product) × Int) ⊕ ((Li × Int × (List Product)))) := if decide (a.2.2.2 > 0) = true then (V0 (⟨a.1, a.2.1⟩ : KS) (a.2.2.1.length : Int)).bind fun b => (Dy a.2.2.1 ([b.1] : List Product)).bind fun c => some (.inl (b.2.L_, b.2.At, c, wr (a.2.2.2 - 1))) else some ((.inr ((a.1, a.2.1, a.2.2.1))))
def Qq (b : KS) : Option ((List Product) × KS) := (E7 b 1 4).bind fun a => (Da Qq.B2 Eh (a.2.L_, a.2.At, [], a.1)).bind fun c => Qq.J1 c
def Qs.J1 (a : Li × Int × (List Piece)) : Option ((List Piece) × KS) := some (a.2.2, (⟨a.1, a.2.1⟩ : KS))
def Qs.J4 (a : Li × Int × Int × (List Piece)) (b : Int × KS) (c : Int) (d : Int) : Option ((Li × Int × Int × (List Piece)) ⊕ ((Li × Int × (List Piece)))) := (Dy a.2.2.2 ([(⟨d, (min c a.2.2.1)⟩ : Piece)] : List Piece)).bind fun e => some (.inl (b.2.L_, b.2.At, wr (a.2.2.1 - (min c a.2.2.1)), e))
def Qs.J5 (g : Int) (a : Li × Int × Int × (List Piece)) (e : Int × KS) (b : Int × KS) (c : Int) (h : Bool) : Option ((Li × Int × Int × (List Piece)) ⊕ ((Li × Int × (List Piece)))) := if h = true then (Uy (wr (e.1 + 1)) g).bind fun f => (ix a.2.2.2 (wr ((a.2.2.2.length : Int) - 1))).bind fun d => if (d.2.Batch == f) = true then some (.inl (b.2.L_, b.2.At, wr (a.2.2.1 - (min c a.2.2.1)), (a.2.2.2.set d.1 (⟨d.2.Batch, wr (d.2.Volume + (min c a.2.2.1))⟩ : Piece)))) else Qs.J4 a b c f else Qs.J4 a b c e.1
def Qs.J3 (c : Int) (a : Li × Int × Int × (List Piece)) (b : Int × KS) (d : Int × KS) (e : Int) : Option ((Li × Int × Int × (List Piece)) ⊕ ((Li × Int × (List Piece)))) := if decide ((a.2.2.2.length : Int) > 0) = true then (ix a.2.2.2 (wr ((a.2.2.2.length : Int) - 1))).bind fun f => Qs.J5 c a b d e (f.2.Batch == b.1) else Qs.J5 c a b d e false
def Qs.B2 (b : Int) (a : Li × Int × Int × (List Piece)) : Option ((Li × Int × Int × (List Piece)) ⊕ ((Li × Int × (List Piece)))) := if (decide (a.2.2.1 > 0) && decide ((a.2.2.2.length : Int) < 12)) = true then (D9 (⟨a.1, a.2.1⟩ : KS) b).bind fun c => (E7 c.2 1 (max 1 (wr ((wr (a.2.2.1 * 2)).tdiv 3)))).bind fun d => if ((a.2.2.2.length : Int) == 11) = true then Qs.J3 b a c d a.2.2.1 else Qs.J3 b a c d d.1 else some ((.inr ((a.1, a.2.1, a.2.2.2))))
def Qs (a : KS) (b : Int) (c : Int) : Option ((List Piece) × KS) := (Da (Qs.B2 c) Eh (a.L_, a.At, b, [])).bind fun d => Qs.J1 d
def Qm.J1 (a : Li × Int × (List Batch)) : Option ((List Batch) × KS) := some (a.2.2, (⟨a.1, a.2.1⟩ : KS))
def Qm.B2 (d : Int) (e : Int) (a : Li × Int × (List Batch) × Int) : Option ((Li × Int × (List Batch) × Int) ⊕ ((Li × Int × (List Batch)))) := if decide (a.2.2.2 < d) = true then (D9 (⟨a.1, a.2.1⟩ : KS) e).bind fun c => (D9 c.2 3).bind fun b => (Hz (⟨#[102]⟩ : ByteArray) b.1).bind fun f => (Dy a.2.2.1 ([(⟨c.1, f, 0, 1⟩ : Batch)] : List Batch)).bind fun g => some (.inl (b.2.L_, b.2.At, g, wr (a.2.2.2 + 1))) else some ((.inr ((a.1, a.2.1, a.2.2.1))))
def Qm (a : KS) (b : Int) (c : Int) : Option ((List Batch) × KS) := (Da (Qm.B2 b c) Eh (a.L_, a.At, [], 0)).bind fun d => Qm.J1 d
def Vn (a : Segment) : Option Int := (Gs (⟨([(⟨#[97]⟩ : ByteArray), (⟨#[98]⟩ : ByteArray)] : List ByteArray), ([(⟨a.Name, 0, 1, a.Capacity, a.Resist, a.Wave, a.Points⟩ : Segment)] : List Segment), [], [], 0, 0⟩ : Network)).bind fun b => if (b != 0) = true then some 9 else some 0
def Qa (a : Piece) : Bool := (decide (a.Batch ≥ 0) && (decide (a.Batch < 1000) && (decide (a.Volume ≥ 0) && decide (a.Volume ≤ 1000000))))
def K2.J1 (a : Int) : Option Int := some a
def K2.B2 (c : Nat) (a : Piece) (b : Int) : Option Int := some (wr (b + a.Volume))
def K2 (a : List Piece) : Option Int := (forS K2.B2 0 a 0).bind fun b => K2.J1 b
def Ky.J1 (a : List Piece) (c : Unit) : Option Bool := (K2 a).bind fun b => some (decide (b ≤ 1000000))
def Ky.J3 (a : Bool) : Option (Unit ⊕ (Bool)) := if a = true then some ((.inr (false))) else some (.inl ())
def Ky.B2 (c : List Piece) (b : Nat) (a : Piece) (e : Unit) : Option (Unit ⊕ (Bool)) := if (!(Qa a)) = true then Ky.J3 true else if (a.Volume == 0) = true then Ky.J3 true else if decide ((b : Int) > 0) = true then (ix c (wr ((b : Int) - 1))).bind fun d => Ky.J3 (d.2.Batch == a.Batch) else Ky.J3 false
def Ky (a : List Piece) : Option Bool := if decide ((a.length : Int) > 200) = true then some false else (forL (Ky.B2 a) 0 a ()).bind fun b => Sum.elim (fun d => Ky.J1 a ()) (fun c => some c) b
def M8 (a : List Piece) : Option Int := (Ky a).bind fun b => if (!b) = true then some 0 else (K2 a).bind fun c => some c
def Qh.J1 (a : Segment) (b : List Piece) (c : Bool) : Option Int := if c = true then some 9 else (M8 b).bind fun d => if (d != a.Capacity) = true then some 14 else some 0
def Qh (a : Segment) (b : List Piece) : Option Int := (Vn a).bind fun c => if (c != 0) = true then Qh.J1 a b true else (Ky b).bind fun d => Qh.J1 a b (!d)
def V5 (a : Li) : Option Li := if a = [] then none else some (Lt a)
def Wd (a : Li) : Option Li := if a = [] then none else some (Go.Lib.compact a)
def Nj.J2 (a : Li) : Option Li := (V5 a).bind fun b => (Wd b).bind fun c => some c
def Nj.B3 (d : Nat) (b : Piece) (a : Li × Int) : Option (Li × Int) := (Dy a.1 ([wr (a.2 + b.Volume)] : Li)).bind fun c => some (c, wr (a.2 + b.Volume))
def Nj.J1 (a : List Piece) (b : Li) : Option Li := (forS Nj.B3 0 a (b, 0)).bind fun c => Nj.J2 c.1
def Nj.B4 (d : Nat) (a : Point) (b : Li) : Option Li := (Dy b ([a.At] : Li)).bind fun c => some c
def Nj (a : Segment) (b : List Piece) : Option Li := (forS Nj.B4 0 a.Points []).bind fun c => Nj.J1 b c
def K8 (a : Product) : (Arr Int 4) := (⟨[a.Density, a.Expansion, a.Compress, a.Friction], rfl⟩ : Arr Int 4)
def Vm.J1 (a : Product) (c : Unit) : Option Bool := (Iu a.Name).bind fun b => some b
def Vm.J3 (a : Bool) : Option (Unit ⊕ (Bool)) := if a = true then some ((.inr (false))) else some (.inl ())
def Vm.B2 (d : Product) (a : Nat) (e : Unit) : Option (Unit ⊕ (Bool)) := (ix ([⟨400, 1200⟩, ⟨0, 2000⟩, ⟨0, 5000⟩, ⟨1, 2000⟩] : List product_span) (a : Int)).bind fun b => (ix ((K8 d).l) (a : Int)).bind fun c => if decide (c.2 < b.2.least) = true then Vm.J3 true else Vm.J3 (decide (c.2 > b.2.most))
def Vm (a : Product) : Option Bool := (forI (Vm.B2 a) 0 4 ()).bind fun b => Sum.elim (fun d => Vm.J1 a ()) (fun c => some c) b
def Qf.J1 (a : Unit) : Option Int := some (-1)
def Qf.B2 (a : Product → Option Bool) (b : Nat) (c : Product) (e : Unit) : Option (Unit ⊕ (Int)) := (a c).bind fun d => if d = true then some ((.inr ((b : Int)))) else some (.inl ())
def Qf (a : List Product) (b : Product → Option Bool) : Option Int := (forL (Qf.B2 b) 0 a ()).bind fun c => Sum.elim (fun e => Qf.J1 ()) (fun d => some d) c
def K4 (a : Product) (b : ByteArray) : Bool := (S0 a.Name b)
def Zv (a : List Product) (b : ByteArray) : Option Int := (Qf a (fun x => some (K4 x b))).bind fun c => some c
def M3.J2 (a : Unit) : Option Int := some 0
def M3.B3 (a : List Product) (b : Nat) (c : Product) (e : Unit) : Option (Unit ⊕ (Int)) := (Zv a c.Name).bind fun d => if decide (d < (b : Int)) = true then some ((.inr (7))) else some (.inl ())
def M3.J1 (a : List Product) (d : Unit) : Option Int := (forL (M3.B3 a) 0 a ()).bind fun b => Sum.elim (fun e => M3.J2 ()) (fun c => some c) b
def M3.B4 (c : Nat) (a : Product) (d : Unit) : Option (Unit ⊕ (Int)) := (Vm a).bind fun b => if (!b) = true then some ((.inr (9))) else some (.inl ())
def M3 (a : List Product) : Option Int := if decide ((a.length : Int) > 16) = true then some 4 else (forL M3.B4 0 a ()).bind fun b => Sum.elim (fun d => M3.J1 a ()) (fun c => some c) b
def G9.J1 (a : List Product) : Option ((List Product) × Int) := some (a, 0)
def G9.B2 (b : List Batch) (c : List Product) (h : Nat) (d : Piece) (e : List Product) : Option ((List Product) ⊕ (((List Product) × Int))) := if decide (d.Batch ≥ (b.length : Int)) = true then some ((.inr (([], 8)))) else (ix b d.Batch).bind fun a => if (decide (a.2.Product < 0) || decide (a.2.Product ≥ (c.length : Int))) = true then some ((.inr (([], 8)))) else (ix c a.2.Product).bind fun f => (Dy e ([f.2] : List Product)).bind fun g => some (.inl g)
def G9 (a : List Piece) (b : List Batch) (c : List Product) : Option ((List Product) × Int) := (forL (G9.B2 b c) 0 a []).bind fun d => Sum.elim (fun e => G9.J1 e) (fun f => some f) d
def Kt (a : Bounds) : Bool := (decide (a.Low ≤ a.High) && (decide (a.Low ≥ (-1125899906842624)) && decide (a.High ≤ 1125899906842624)))
def Qw.J1 (a : Int) : Option Int := some a
def Qw.B2 (b : Int → Option Bool) (a : Int × Int) : Option ((Int × Int) ⊕ (Int)) := if decide (a.1 < a.2) = true then (b (wr (((IntKind.u64.wrap (wr (a.1 + a.2))).fdiv 2)))).bind fun c => if (!c) = true then some (.inl (wr ((wr (((IntKind.u64.wrap (wr (a.1 + a.2))).fdiv 2))) + 1), a.2)) else some (.inl (a.1, wr (((IntKind.u64.wrap (wr (a.1 + a.2))).fdiv 2)))) else some ((.inr (a.1)))
def Qw (a : Int) (b : Int → Option Bool) : Option Int := (Da (Qw.B2 b) Eh (0, a)).bind fun c => Qw.J1 c
def Vu (a : Int) (b : Segment) (c : Int) : Option Bool := (ix b.Points a).bind fun d => some (decide (d.2.At ≥ c))
def Vk (a : Segment) (b : Int) : Option Int := (Qw (wr ((a.Points.length : Int) - 1)) (fun x => Vu x a b)).bind fun c => some c
def V8.J1 (a : List gradient_part) : Option (List gradient_part) := some a
def V8.J3 (b : (List gradient_part) × Int × Int × Int) (a : (List gradient_part) × Int × Int) : Option (((List gradient_part) × Int × Int × Int) ⊕ ((List gradient_part))) := some (.inl (a.1, a.2.1, a.2.2, wr (b.2.2.2 + 1)))
def V8.J5 (d : List Product) (e : Li) (b : (List gradient_part) × Int × Int × Int) (c : Int × Int) (f : Nat × Int) (a : Int × Int × Int × Int × Int × Int) : Option (((List gradient_part) × Int × Int × Int) ⊕ ((List gradient_part))) := (ix e (wr (b.2.2.2 - 1))).bind fun g => (ix d c.1).bind fun h => (Dy b.1 ([(⟨wr (f.2 - g.2), wr (a.2.2.2.1 - a.1), wr (a.2.2.2.2.1 - a.2.1), h.2⟩ : gradient_part)] : List gradient_part)).bind fun i => V8.J3 b (i, c.1, c.2)
def V8.J4 (a : Segment) (h : List Product) (d : Li) (e : (List gradient_part) × Int × Int × Int) (i : Int × Int) : Option (((List gradient_part) × Int × Int × Int) ⊕ ((List gradient_part))) := (ix d e.2.2.2).bind fun f => (Vk a f.2).bind fun g => (ix a.Points (wr (g - 1))).bind fun b => (ix a.Points g).bind fun c => V8.J5 h d e i f (b.2.At, b.2.Height, b.2.Limit, c.2.At, c.2.Height, c.2.Limit)
def V8.B6 (b : List Piece) (c : Li) (d : (List gradient_part) × Int × Int × Int) (a : Int × Int) : Option ((Int × Int) ⊕ ((Int × Int))) := (ix c d.2.2.2).bind fun e => if decide (e.2 > a.2) = true then (ix b (wr (a.1 + 1))).bind fun f => some (.inl (wr (a.1 + 1), wr (a.2 + f.2.Volume))) else some ((.inr ((a.1, a.2))))
def V8.B2 (c : Segment) (d : List Piece) (e : List Product) (b : Li) (a : (List gradient_part) × Int × Int × Int) : Option (((List gradient_part) × Int × Int × Int) ⊕ ((List gradient_part))) := if decide (a.2.2.2 < (b.length : Int)) = true then (Da (V8.B6 d b a) Eh (a.2.1, a.2.2.1)).bind fun f => V8.J4 c e b a f else some ((.inr (a.1)))
def V8 (b : Segment) (a : List Piece) (c : List Product) (d : Li) : Option (List gradient_part) := (ix a 0).bind fun e => (Da (V8.B2 b a c d) Eh ([], 0, e.2.Volume, 1)).bind fun f => V8.J1 f
def K6.J1 (a : Int × Int) : Option (Int × Int × Bool) := some (a.1, a.2, true)
def K6 (b : Int) (a : Int) : Option (Int × Int × Bool) := if (decide (a < 1) || (decide (a > 1099511627776) || (decide (b < (-2305843009213693952)) || decide (b > 2305843009213693952)))) = true then some (0, 0, false) else (cA b a).bind fun d => (Uy b a).bind fun c => if decide (c < 0) = true then K6.J1 (wr (d - 1), wr (c + a)) else K6.J1 (d, c)
def M1 (a : Int) (b : Int) : Option Int := (K6 a b).bind fun c => some c.1
def P2.J1 (a : Int) : Option Int := some a
def P2 (b : Int) (c : Int) : Option Int := (K6 b c).bind fun a => if (a.2.2 && decide (a.2.1 > 0)) = true then P2.J1 (wr (a.1 + 1)) else P2.J1 a.1
def Vt (a : gradient_part) (b : Segment) (c : Int) : Option (Int × Int) := (M1 (wr ((wr ((wr ((wr (b.Resist * a.liquid.Friction)) * c)) * c)) * a.length)) (wr (1000 * b.Capacity))).bind fun d => (M1 (wr ((wr ((wr (a.liquid.Density * 9807)) * a.height)) * a.length)) (wr (1000 * a.width))).bind fun e => (P2 (wr ((wr ((wr ((wr (b.Resist * a.liquid.Friction)) * c)) * c)) * a.length)) (wr (1000 * b.Capacity))).bind fun f => (P2 (wr ((wr ((wr (a.liquid.Density * 9807)) * a.height)) * a.length)) (wr (1000 * a.width))).bind fun g => some (wr (d + e), wr (f + g))
def Iq (a : Li) : Option Li := Dy [] a
def Zu.J2 (a : Li × Int × Int) (b : Li) : Option ((Li × Int × Int) ⊕ (Li)) := some (.inl (b, wr (a.2.1 + 1), wr (a.2.2 - 1)))
def Zu.B1 (a : Li × Int × Int) : Option ((Li × Int × Int) ⊕ (Li)) := if decide (a.2.1 < a.2.2) = true then (ix a.1 a.2.2).bind fun c => (ix a.1 a.2.1).bind fun b => (ix (a.1.set b.1 c.2) a.2.2).bind fun d => Zu.J2 a ((a.1.set b.1 c.2).set d.1 b.2) else some ((.inr (a.1)))
def Zu (a : Li) : Option Li := (Da Zu.B1 Eh (a, 0, wr ((a.length : Int) - 1))).bind fun b => some b
def Z1.J2 (a : (List gradient_part) × Int × Int) (b : List gradient_part) : Option (((List gradient_part) × Int × Int) ⊕ ((List gradient_part))) := some (.inl (b, wr (a.2.1 + 1), wr (a.2.2 - 1)))
def Z1.B1 (a : (List gradient_part) × Int × Int) : Option (((List gradient_part) × Int × Int) ⊕ ((List gradient_part))) := if decide (a.2.1 < a.2.2) = true then (ix a.1 a.2.2).bind fun c => (ix a.1 a.2.1).bind fun b => (ix (a.1.set b.1 c.2) a.2.2).bind fun d => Z1.J2 a ((a.1.set b.1 c.2).set d.1 b.2) else some ((.inr (a.1)))
def Z1 (a : List gradient_part) : Option (List gradient_part) := (Da Z1.B1 Eh (a, 0, wr ((a.length : Int) - 1))).bind fun b => some b
def Wq.J2 (a : (List Level) × Int × Int) (b : List Level) : Option (((List Level) × Int × Int) ⊕ ((List Level))) := some (.inl (b, wr (a.2.1 + 1), wr (a.2.2 - 1)))
def Wq.B1 (a : (List Level) × Int × Int) : Option (((List Level) × Int × Int) ⊕ ((List Level))) := if decide (a.2.1 < a.2.2) = true then (ix a.1 a.2.2).bind fun c => (ix a.1 a.2.1).bind fun b => (ix (a.1.set b.1 c.2) a.2.2).bind fun d => Wq.J2 a ((a.1.set b.1 c.2).set d.1 b.2) else some ((.inr (a.1)))
def Wq (a : List Level) : Option (List Level) := (Da Wq.B1 Eh (a, 0, wr ((a.length : Int) - 1))).bind fun b => some b
def F7.J3 (a : List Level) : Option ((List Level) × Int) := some (a, 0)
def F7.J2 (b : Int) (a : List Level) : Option ((List Level) × Int) := if decide (b < 0) = true then (Wq a).bind fun c => F7.J3 c else F7.J3 a
def F7.B4 (f : Segment) (c : Int) (d : (List gradient_part) × Li) (e : Nat) (a : Int × Int × (List Level)) : Option (Int × Int × (List Level)) := (ix d.1 (e : Int)).bind fun g => (Vt g.2 f (max c (wr (0 - c)))).bind fun b => (ix d.2 ((e + 1 : Nat) : Int)).bind fun h => (Dy a.2.2 ([(⟨h.2, (⟨wr (a.1 - b.2), wr (a.2.1 - b.1)⟩ : Bounds)⟩ : Level)] : List Level)).bind fun i => some (wr (a.1 - b.2), wr (a.2.1 - b.1), i)
def F7.J1 (d : Segment) (c : Int) (a : Bounds) (b : (List gradient_part) × Li) : Option ((List Level) × Int) := (ix b.2 0).bind fun e => (forJ (F7.B4 d c b) 0 b.1.length (a.Low, a.High, ([(⟨e.2, a⟩ : Level)] : List Level))).bind fun f => F7.J2 c f.2.2
def F7.B5 (c : Nat) (b : List gradient_part) : Option (List gradient_part) := (ix b (c : Int)).bind fun a => some (b.set a.1 (⟨a.2.length, a.2.width, wr (0 - a.2.height), a.2.liquid⟩ : gradient_part))
def F7 (b : Segment) (c : List Piece) (m : List Batch) (f : List Product) (a : Int) (d : Bounds) : Option ((List Level) × Int) := (Qh b c).bind fun g => if (g != 0) = true then some ([], g) else (M3 f).bind fun h => if (h != 0) = true then some ([], h) else (G9 c m f).bind fun e => if (e.2 != 0) = true then some ([], e.2) else if ((a == 0) || (decide (a < (-1000)) || (decide (a > 1000) || (!(Kt d))))) = true then some ([], 1) else (Nj b c).bind fun i => (V8 b c e.1 i).bind fun j => (Iq i).bind fun k => if decide (a < 0) = true then (Zu k).bind fun n => (Z1 j).bind fun l => (forJ F7.B5 0 l.length l).bind fun o => F7.J1 b a d (o, n) else F7.J1 b a d (j, k)
def Qy.J1 (a : Li × Int × (List (List Piece))) : Option ((List (List Piece)) × KS) := some (a.2.2, (⟨a.1, a.2.1⟩ : KS))
def Qy.B2 (c : Int) (f : Nat) (d : Segment) (a : Li × Int × (List (List Piece))) : Option (Li × Int × (List (List Piece))) := (Qs (⟨a.1, a.2.1⟩ : KS) d.Capacity c).bind fun b => (Dy a.2.2 ([b.1] : List (List Piece))).bind fun e => some (b.2.L_, b.2.At, e)
def Qy (b : KS) (c : Network) (d : Int) : Option ((List (List Piece)) × KS) := (forS (Qy.B2 d) 0 c.Segments (b.L_, b.At, [])).bind fun a => Qy.J1 (a.1, a.2.1, a.2.2)
end Go.Proofs.YtodeekicjiengaaGreatDoor
namespace Go.Proofs
open Go.Shelf
def On : Go.Shelf.Ren := ⟨fun | 189 => 169 | 125 => 177 | 257 => 176 | 128 => 191 | 129 => 192 | 294 => 182 | 295 => 183 | 296 => 184 | 297 => 185 | 298 => 186 | 299 => 187 | 216 => 188 | 300 => 189 | 301 => 190 | 328 => 193 | 329 => 194 | 330 => 195 | 331 => 196 | 332 => 197 | 215 => 198 | 343 => 199 | n => n, fun | 28 => 22 | 3 => 3 | 46 => 217 | 0 => 0 | 51 => 230 | 53 => 232 | 4 => 4 | 183 => 223 | 182 => 222 | 131 => 227 | 5 => 5 | 9 => 9 | 218 => 233 | 222 => 237 | 228 => 239 | 229 => 137 | n => n, fun | n => n⟩
theorem Xa : Go.Proofs.Lays.n189 Tryz.prog On := {
 mixed := by kernel_rfl
 f125 := Tryz.func177.trans (congrArg some (by kernel_rfl))
 f128 := Tryz.func191.trans (congrArg some (by kernel_rfl))
 f129 := Tryz.func192.trans (congrArg some (by kernel_rfl))
 f189 := Tryz.func169.trans (congrArg some (by kernel_rfl))
 f215 := Tryz.func198.trans (congrArg some (by kernel_rfl))
 f216 := Tryz.func188.trans (congrArg some (by kernel_rfl))
 f257 := Tryz.func176.trans (congrArg some (by kernel_rfl))
 f294 := Tryz.func182.trans (congrArg some (by kernel_rfl))
 f295 := Tryz.func183.trans (congrArg some (by kernel_rfl))
 f296 := Tryz.func184.trans (congrArg some (by kernel_rfl))
 f297 := Tryz.func185.trans (congrArg some (by kernel_rfl))
 f298 := Tryz.func186.trans (congrArg some (by kernel_rfl))
 f299 := Tryz.func187.trans (congrArg some (by kernel_rfl))
 f300 := Tryz.func189.trans (congrArg some (by kernel_rfl))
 f301 := Tryz.func190.trans (congrArg some (by kernel_rfl))
 f328 := Tryz.func193.trans (congrArg some (by kernel_rfl))
 f329 := Tryz.func194.trans (congrArg some (by kernel_rfl))
 f330 := Tryz.func195.trans (congrArg some (by kernel_rfl))
 f331 := Tryz.func196.trans (congrArg some (by kernel_rfl))
 f332 := Tryz.func197.trans (congrArg some (by kernel_rfl))
 f343 := Tryz.func199.trans (congrArg some (by kernel_rfl))
 t0 := Tryz.underlying0
 a0 := Tryz.isAgg0
 z0 := Tryz.sizeOf0
 v0 := Tryz.zeroValue0
 t3 := Tryz.underlying3
 a3 := Tryz.isAgg3
 z3 := Tryz.sizeOf3
 v3 := Tryz.zeroValue3
 t4 := Tryz.underlying4
 a4 := Tryz.isAgg4
 z4 := Tryz.sizeOf4
 v4 := Tryz.zeroValue4
 t5 := Tryz.underlying5
 a5 := Tryz.isAgg5
 z5 := Tryz.sizeOf5
 v5 := Tryz.zeroValue5
 t9 := Tryz.underlying9
 a9 := Tryz.isAgg9
 z9 := Tryz.sizeOf9
 v9 := Tryz.zeroValue9
 t28 := Tryz.underlying22
 a28 := Tryz.isAgg22
 z28 := Tryz.sizeOf22
 v28 := Tryz.zeroValue22
 t46 := Tryz.underlying217
 a46 := Tryz.isAgg217
 z46 := Tryz.sizeOf217
 v46 := Tryz.zeroValue217
 t51 := Tryz.underlying230
 a51 := Tryz.isAgg230
 z51 := Tryz.sizeOf230
 v51 := Tryz.zeroValue230
 t53 := Tryz.underlying232
 a53 := Tryz.isAgg232
 z53 := Tryz.sizeOf232
 v53 := Tryz.zeroValue232
 t131 := Tryz.underlying227
 a131 := Tryz.isAgg227
 z131 := Tryz.sizeOf227
 v131 := Tryz.zeroValue227
 t182 := Tryz.underlying222
 a182 := Tryz.isAgg222
 z182 := Tryz.sizeOf222
 v182 := Tryz.zeroValue222
 t183 := Tryz.underlying223
 a183 := Tryz.isAgg223
 z183 := Tryz.sizeOf223
 v183 := Tryz.zeroValue223
 t218 := Tryz.underlying233
 a218 := Tryz.isAgg233
 z218 := Tryz.sizeOf233
 v218 := Tryz.zeroValue233
 t222 := Tryz.underlying237
 a222 := Tryz.isAgg237
 z222 := Tryz.sizeOf237
 v222 := Tryz.zeroValue237
 t228 := Tryz.underlying239
 a228 := Tryz.isAgg239
 z228 := Tryz.sizeOf239
 v228 := Tryz.zeroValue239
 t229 := Tryz.underlying137
 a229 := Tryz.isAgg137
 z229 := Tryz.sizeOf137
 v229 := Tryz.zeroValue137 }
open Go.Sort Go.RowKit in
theorem Tryz.slices_Sort_int (G2 off cap : Nat) (zs : List Int) (w : World) (hH : Holds (Value.int .i64) w G2 off zs.toArray) (hblk : G2 < w.heap.size) (hsz : zs.length < 4611686018427387904) :
  Calls Tryz.prog 169 #[.slice (some ⟨G2, off, none⟩) zs.length cap] w fun e w' =>
   e = .returned (.tuple #[]) ∧ ∃ n os, w' = grow (putRow (Value.int .i64) (Sort.ahead w n) G2 off (zs.mergeSort fun x y => decide (x ≤ y)).toArray) os := Any.slices_Sort_int Xa G2 off cap zs w hH hblk hsz
def Lo : Go.Shelf.Ren := ⟨fun | 20 => 170 | n => n, fun | 22 => 22 | 3 => 3 | 4 => 4 | 0 => 0 | n => n, fun | n => n⟩
theorem Sl : Go.Proofs.Lays2.n20 Tryz.prog Lo := {
 mixed := by kernel_rfl
 f20 := Tryz.func170.trans (congrArg some (by kernel_rfl))
 t0 := Tryz.underlying0
 a0 := Tryz.isAgg0
 z0 := Tryz.sizeOf0
 v0 := Tryz.zeroValue0
 t3 := Tryz.underlying3
 a3 := Tryz.isAgg3
 z3 := Tryz.sizeOf3
 v3 := Tryz.zeroValue3
 t4 := Tryz.underlying4
 a4 := Tryz.isAgg4
 z4 := Tryz.sizeOf4
 v4 := Tryz.zeroValue4
 t22 := Tryz.underlying22
 a22 := Tryz.isAgg22
 z22 := Tryz.sizeOf22
 v22 := Tryz.zeroValue22
 i3 := by kernel_rfl }
open Go.RowKit Go.Lib Go.Sort in
theorem Tryz.slices_Compact_int (G2 off cap : Nat) (zs : List Int) (w : World) (hH : Holds (Value.int .i64) w G2 off zs.toArray) (hsz : zs.length ≤ 9223372036854775807) (hcap : zs.length ≤ cap) :
  Calls Tryz.prog 170 #[.slice (some ⟨G2, off, none⟩) zs.length cap] w fun e w' => e = .returned (.slice (some ⟨G2, off, none⟩) (Lib.compact zs).length cap) ∧ ∃ q, w' = putRow (Value.int .i64) (Sort.ahead w q) G2 off (Lib.compact zs ++ List.replicate (zs.length - (Lib.compact zs).length) 0).toArray := Any.slices_Compact_int Sl G2 off cap zs w hH hsz hcap
end Go.Proofs
namespace Go.Proofs.YtodeekicjiengaaGreatDoor
open Go.Aw
set_option linter.unusedVariables false
set_option linter.unusedSimpArgs false
structure station_pump where
 Station : Station
 deriving DecidableEq
def Hp (x : station_pump) : List T := [.v (.string x.Station.Name), .V x.Station.Node, .V x.Station.Head, .V x.Station.Fall, .V x.Station.Suction]
structure Pressures where
 Known : List Bool
 Nodes : List Bounds
 Segments : List (List Level)
 deriving DecidableEq
def A9 (x : Pressures) : List T := [.list 1 (x.Known.map rB), .list 2 (x.Nodes.map Aq), .list 1 (x.Segments.map (rL 3 Ao))]
structure steady_line where
 n_ : Network
 batches : List Batch
 products : List Product
 fills : List (List Piece)
 p : Plan
 x : Pressures
 deriving DecidableEq
def Ay (x : steady_line) (a b c : Value) : List T := [.list 1 (x.n_.Nodes.map rS), .list 7 (x.n_.Segments.map Ak), .list 3 (x.n_.Ports.map Cc), .list 5 (x.n_.Stations.map Ba), .V x.n_.Vapour, .V x.n_.Settle, .list 4 (x.batches.map D7), .list 5 (x.products.map Bw), .list 1 (x.fills.map (rL 2 A4)), .list 1 (x.p.Rates.map rI), .list 1 (x.p.Ports.map rI), .list 1 (x.p.Pumps.map rB), .v (a), .v (b), .v (c)]
structure Fault where
 Kind : Int
 Index : Int
 At : Int
 deriving DecidableEq
def Cr (x : Fault) : List T := [.V x.Kind, .V x.Index, .V x.At]
def Ve (a : Network) (b : Plan) : Option (Li × Int) := (Ha a b).bind fun c => if (c != 0) = true then some ([], c) else (Ku a b).bind fun d => some (d, 0)
def Vl.J1 (a : Unit) : Option Int := some (-1)
def Vl.B2 (a : (List Piece) → Option Bool) (b : Nat) (c : List Piece) (e : Unit) : Option (Unit ⊕ (Int)) := (a c).bind fun d => if d = true then some ((.inr ((b : Int)))) else some (.inl ())
def Vl (a : List (List Piece)) (b : (List Piece) → Option Bool) : Option Int := (forL (Vl.B2 b) 0 a ()).bind fun c => Sum.elim (fun e => Vl.J1 ()) (fun d => some d) c
def Qv (a : List (List Piece)) (b : (List Piece) → Option Bool) : Option Bool := (Vl a b).bind fun c => some (decide (c ≥ 0))
def V3 (a : List Piece) : Option Bool := (Ky a).bind fun b => some (!b)
def P3.J2 (a : Unit) : Option Int := some 0
def P3.B3 (a : Network) (b : Nat) (c : List Piece) (f : Unit) : Option (Unit ⊕ (Int)) := (M8 c).bind fun d => (ix a.Segments (b : Int)).bind fun e => if (d != e.2.Capacity) = true then some ((.inr (14))) else some (.inl ())
def P3.J1 (a : Network) (b : List (List Piece)) (c : Bool) : Option Int := if c = true then some 9 else (forL (P3.B3 a) 0 b ()).bind fun d => Sum.elim (fun f => P3.J2 ()) (fun e => some e) d
def P3 (a : Network) (b : List (List Piece)) : Option Int := (Gs a).bind fun c => if (c != 0) = true then some c else if ((b.length : Int) != (a.Segments.length : Int)) = true then P3.J1 a b true else (Qv b (fun x => V3 x)).bind fun d => P3.J1 a b d
def Er (a : Int) (b : Int) : Bool := (decide (a ≥ 0) && decide (a ≤ b))
def P4.J1 (a : Bool) : Option Bool := some a
def P4 (a : Station) : Option Bool := (Iu a.Name).bind fun b => if b = true then if (Er a.Node 23) = true then if (Er a.Head 100000000) = true then if (Er a.Fall 100000) = true then P4.J1 (Er a.Suction 100000000) else P4.J1 false else P4.J1 false else P4.J1 false else P4.J1 false
def Zx (a : station_pump) (b : Int) : Option Int := (M1 (wr ((wr (a.Station.Fall * b)) * b)) 1000).bind fun c => some (max 0 (wr (a.Station.Head - c)))
def V7 (b : Station) (a : Int) : Option (Int × Int) := (P4 b).bind fun c => if (!c) = true then some (0, 9) else if (decide (a < 0) || decide (a > 32000)) = true then some (0, 1) else (Zx (⟨b⟩ : station_pump) a).bind fun d => some (d, 0)
def Vd (c : Station) (a : Bounds) (d : Int) : Option (Bounds × Int) := (V7 c d).bind fun b => if (b.2 != 0) = true then some ((⟨0, 0⟩ : Bounds), b.2) else if (decide (a.Low > a.High) || (decide (a.Low < (-1125899906842624)) || decide (a.High > 1125899906842624))) = true then some ((⟨0, 0⟩ : Bounds), 1) else some ((⟨wr (a.Low + b.1), wr (a.High + b.1)⟩ : Bounds), 0)
def Nf.J1 (a : Bool) : Option Bool := some a
def Nf (a : Int) (b : List Batch) (d : List Product) : Option Bool := if decide (a < (b.length : Int)) = true then (ix b a).bind fun c => if decide (c.2.Product ≥ 0) = true then Nf.J1 (decide (c.2.Product < (d.length : Int))) else Nf.J1 false else Nf.J1 false
def Is.J1 (a : steady_line) (b : Int) (c : Int × Int) : Option steady_line := (ix a.x.Known b).bind fun d => (ix a.x.Nodes b).bind fun e => some (⟨a.n_, a.batches, a.products, a.fills, a.p, (⟨(a.x.Known.set d.1 true), (a.x.Nodes.set e.1 (⟨c.1, c.2⟩ : Bounds)), a.x.Segments⟩ : Pressures)⟩ : steady_line)
def Is (a : steady_line) (b : Int) (c : Bounds) : Option steady_line := (ix a.x.Known b).bind fun e => if e.2 = true then (ix a.x.Nodes b).bind fun d => Is.J1 a b ((min d.2.Low c.Low), (min d.2.High c.High)) else Is.J1 a b (c.Low, c.High)
def Nu.J1 (a : steady_line) (b : Int) : Option (Int × steady_line) := some (b, a)
def Nu.J3 (a : Int) : Option Int := some a
def Nu.B2 (c : steady_line) (d : Int) (e : Nat) (f : Segment) (b : Int) : Option Int := (ix c.p.Rates (e : Int)).bind fun a => if (((Bn f a.2).1) == d) = true then Nu.J3 (wr (b + (max a.2 (wr (0 - a.2))))) else Nu.J3 b
def Nu (a : steady_line) (b : Int) : Option (Int × steady_line) := (forS (Nu.B2 a b) 0 a.n_.Segments 0).bind fun c => Nu.J1 a c
def P5.J1 (a : steady_line) (b : Nat × Bounds) (c : Unit) : Option (Bounds × Int × steady_line) := some (b.2, 0, a)
def P5.J3 (c : steady_line) (d : Int) (e : Nat × Bounds) (f : Station) (g : Bool) : Option (Unit ⊕ ((Bounds × Int × steady_line))) := if g = true then (Nu c d).bind fun a => (Vd f e.2 a.1).bind fun b => some ((.inr ((b.1, b.2, a.2)))) else some (.inl ())
def P5.B2 (a : steady_line) (b : Int) (d : Nat × Bounds) (e : Nat) (c : Station) (g : Unit) : Option (Unit ⊕ ((Bounds × Int × steady_line))) := if (c.Node == b) = true then (ix a.p.Pumps (e : Int)).bind fun f => P5.J3 a b d c f.2 else P5.J3 a b d c false
def P5 (a : steady_line) (b : Int) : Option (Bounds × Int × steady_line) := (ix a.x.Nodes b).bind fun c => (forL (P5.B2 a b c) 0 a.n_.Stations ()).bind fun d => Sum.elim (fun f => P5.J1 a c ()) (fun e => some e) d
def P7.J2 (a : steady_line) : Option (Int × steady_line) := some (0, a)
def P7.J4 (a : steady_line) : Option (steady_line ⊕ ((Int × steady_line))) := some (.inl a)
def P7.J5 (c : Nat) (d : Segment) (a : steady_line) (e : Nat × Int) (f : (List Level) × Int) (b : Int × Int × Int) : Option (steady_line ⊕ ((Int × steady_line))) := (ix a.x.Segments (c : Int)).bind fun g => (Is (⟨a.n_, a.batches, a.products, a.fills, a.p, (⟨a.x.Known, a.x.Nodes, (a.x.Segments.set g.1 f.1)⟩ : Pressures)⟩ : steady_line) ((Bn d e.2).2) (⟨b.2.1, b.2.2⟩ : Bounds)).bind fun h => P7.J4 h
def P7.B3 (h : Int) (i : Bounds × Int × steady_line) (d : Nat) (e : Segment) (a : steady_line) : Option (steady_line ⊕ ((Int × steady_line))) := (ix a.p.Rates (d : Int)).bind fun c => if ((c.2 == 0) || (((Bn e c.2).1) != h)) = true then P7.J4 a else (ix a.fills (d : Int)).bind fun j => (F7 e j.2 a.batches a.products c.2 i.1).bind fun b => if (b.2 != 0) = true then some ((.inr ((b.2, a)))) else (ix b.1 0).bind fun f => if decide (c.2 > 0) = true then (ix b.1 (wr ((b.1.length : Int) - 1))).bind fun g => P7.J5 d e a c b (g.2.At, g.2.Bounds.Low, g.2.Bounds.High) else P7.J5 d e a c b (f.2.At, f.2.Bounds.Low, f.2.Bounds.High)
def P7.J1 (b : Int) (c : steady_line) : Option (Int × steady_line) := (ix c.x.Known b).bind fun d => if (!d.2) = true then some (0, c) else (P5 c b).bind fun a => if (a.2.1 != 0) = true then some (a.2.1, a.2.2) else (forL (P7.B3 b a) 0 a.2.2.n_.Segments a.2.2).bind fun e => Sum.elim (fun f => P7.J2 f) (fun g => some g) e
def P7.J7 (a : steady_line) : Option steady_line := some a
def P7.J8 (c : Int) (a : Port) (b : steady_line) (d : Bool) : Option steady_line := if d = true then (Is b c (⟨a.Pressure, a.Pressure⟩ : Bounds)).bind fun e => P7.J7 e else P7.J7 b
def P7.B6 (a : Int) (d : Nat) (b : Port) (c : steady_line) : Option steady_line := if (b.Node == a) = true then (ix c.p.Ports (d : Int)).bind fun e => P7.J8 a b c (decide (e.2 > 0)) else P7.J8 a b c false
def P7 (a : steady_line) (b : Int) : Option (Int × steady_line) := (forS (P7.B6 b) 0 a.n_.Ports a).bind fun c => P7.J1 b c
def Vz.J1 (a : Unit) : Option Int := some (-1)
def Vz.B2 (a : Piece → Option Bool) (b : Nat) (c : Piece) (e : Unit) : Option (Unit ⊕ (Int)) := (a c).bind fun d => if d = true then some ((.inr ((b : Int)))) else some (.inl ())
def Vz (a : List Piece) (b : Piece → Option Bool) : Option Int := (forL (Vz.B2 b) 0 a ()).bind fun c => Sum.elim (fun e => Vz.J1 ()) (fun d => some d) c
def Pw (a : List Piece) (b : Piece → Option Bool) : Option Bool := (Vz a b).bind fun c => some (decide (c ≥ 0))
def Vp (a : Piece) (b : List Batch) (c : List Product) : Option Bool := (Nf a.Batch b c).bind fun d => some (!d)
def Ff.J3 (a : steady_line) : Option (Pressures × Int) := some (a.x, 0)
def Ff.B4 (b : Li × Int) (c : Nat) (d : steady_line) : Option (steady_line ⊕ ((Pressures × Int))) := (ix b.1 (c : Int)).bind fun e => (P7 d e.2).bind fun a => if (a.1 != 0) = true then some ((.inr (((⟨[], [], []⟩ : Pressures), a.1)))) else some (.inl a.2)
def Ff.J2 (a : Li × Int) (b : steady_line) : Option (Pressures × Int) := (forI (Ff.B4 a) 0 a.1.length b).bind fun c => Sum.elim (fun d => Ff.J3 d) (fun e => some e) c
def Ff.J1 (a : Network) (b : List Batch) (c : List Product) (d : List (List Piece)) (e : Plan) (f : Li × Int) (j : Unit) : Option (Pressures × Int) := (So (a.Nodes.length : Int) false).bind fun g => (So (a.Nodes.length : Int) (⟨(0 : Int), (0 : Int)⟩ : Bounds)).bind fun h => (So (a.Segments.length : Int) ([] : List Level)).bind fun i => Ff.J2 f (⟨a, b, c, d, e, (⟨g, h, i⟩ : Pressures)⟩ : steady_line)
def Ff.B5 (a : List Batch) (b : List Product) (e : Nat) (c : List Piece) (f : Unit) : Option (Unit ⊕ ((Pressures × Int))) := (Pw c (fun x => Vp x a b)).bind fun d => if d = true then some ((.inr (((⟨[], [], []⟩ : Pressures), 8)))) else some (.inl ())
def Ff (a : Network) (e : List Batch) (b : List Product) (c : List (List Piece)) (f : Plan) : Option (Pressures × Int) := (Ve a f).bind fun d => if (d.2 != 0) = true then some ((⟨[], [], []⟩ : Pressures), d.2) else (P3 a c).bind fun g => if (g != 0) = true then some ((⟨[], [], []⟩ : Pressures), g) else (M3 b).bind fun h => if (h != 0) = true then some ((⟨[], [], []⟩ : Pressures), h) else (forL (Ff.B5 e b) 0 c ()).bind fun i => Sum.elim (fun k => Ff.J1 a e b c f d ()) (fun j => some j) i
def Ng (a : Int) : Bool := (decide (a < 0) || decide (a > 1125899906842624))
def Vg.J1 (a : Unit) : Option Int := some (-1)
def Vg.B2 (a : Bounds → Option Bool) (b : Nat) (c : Bounds) (e : Unit) : Option (Unit ⊕ (Int)) := (a c).bind fun d => if d = true then some ((.inr ((b : Int)))) else some (.inl ())
def Vg (a : List Bounds) (b : Bounds → Option Bool) : Option Int := (forL (Vg.B2 b) 0 a ()).bind fun c => Sum.elim (fun e => Vg.J1 ()) (fun d => some d) c
def P1 (a : List Bounds) (b : Bounds → Option Bool) : Option Bool := (Vg a b).bind fun c => some (decide (c ≥ 0))
def Ks (a : Bounds) : Bool := (decide ((min a.Low a.High) ≥ (-1152921504606846976)) && decide ((max a.Low a.High) ≤ 1152921504606846976))
def Py (a : Bounds) : Bool := (!(Ks a))
def Wa.J1 (a : Unit) : Option Int := some (-1)
def Wa.B2 (a : Level → Option Bool) (b : Nat) (c : Level) (e : Unit) : Option (Unit ⊕ (Int)) := (a c).bind fun d => if d = true then some ((.inr ((b : Int)))) else some (.inl ())
def Wa (a : List Level) (b : Level → Option Bool) : Option Int := (forL (Wa.B2 b) 0 a ()).bind fun c => Sum.elim (fun e => Wa.J1 ()) (fun d => some d) c
def Qn (a : List Level) (b : Level → Option Bool) : Option Bool := (Wa a b).bind fun c => some (decide (c ≥ 0))
def Pz.J1 (a : Bool) : Option Bool := some a
def Pz (a : Level) (b : Network) (c : Int) : Option Bool := if (!(Ks a.Bounds)) = true then Pz.J1 true else if decide (a.At < 0) = true then Pz.J1 true else (ix b.Segments c).bind fun d => Pz.J1 (decide (a.At > d.2.Capacity))
def Nh.J3 (a : Unit) : Option Bool := some true
def Nh.B4 (a : Network) (b : Nat) (c : List Level) (e : Unit) : Option (Unit ⊕ (Bool)) := (Qn c (fun x => Pz x a (b : Int))).bind fun d => if d = true then some ((.inr (false))) else some (.inl ())
def Nh.J2 (a : Network) (b : Pressures) (c : Bool) : Option Bool := if c = true then some false else (forL (Nh.B4 a) 0 b.Segments ()).bind fun d => Sum.elim (fun f => Nh.J3 ()) (fun e => some e) d
def Nh.J1 (b : Network) (a : Pressures) (c : Li) (d : Bool) : Option Bool := if d = true then some false else (Kr c (fun x => some (Ng x))).bind fun e => if e = true then Nh.J2 b a true else (P1 a.Nodes (fun x => some (Py x))).bind fun f => Nh.J2 b a f
def Nh (a : Network) (b : Pressures) (d : Plan) (c : Li) : Option Bool := (Gs a).bind fun e => if (e != 0) = true then Nh.J1 a b c true else if ((d.Pumps.length : Int) != (a.Stations.length : Int)) = true then Nh.J1 a b c true else if ((b.Known.length : Int) != (a.Nodes.length : Int)) = true then Nh.J1 a b c true else if ((b.Nodes.length : Int) != (a.Nodes.length : Int)) = true then Nh.J1 a b c true else if ((b.Segments.length : Int) != (a.Segments.length : Int)) = true then Nh.J1 a b c true else Nh.J1 a b c ((c.length : Int) != (a.Segments.length : Int))
def Ni.J1 (a : Int) : Option Int := some a
def Ni.J3 (a : Int × Int) (b : Int) : Option ((Int × Int) ⊕ (Int)) := some (.inl (b, wr (a.2 + 1)))
def Ni.J4 (c : Int) (a : Int × Int) (b : Int × Int × Int × Int × Int × Int) : Option ((Int × Int) ⊕ (Int)) := if (decide (b.1 ≤ c) && decide (c ≤ b.2.2.2.1)) = true then Ni.J3 a (min (min a.1 b.2.2.1) b.2.2.2.2.2) else Ni.J3 a a.1
def Ni.B2 (b : Segment) (e : Int) (a : Int × Int) : Option ((Int × Int) ⊕ (Int)) := if decide (a.2 < (b.Points.length : Int)) = true then (ix b.Points (wr (a.2 - 1))).bind fun c => (ix b.Points a.2).bind fun d => Ni.J4 e a (c.2.At, c.2.Height, c.2.Limit, d.2.At, d.2.Height, d.2.Limit) else some ((.inr (a.1)))
def Ni (a : Segment) (b : Int) : Option Int := (Da (Ni.B2 a b) Eh (100000000, 1)).bind fun c => Ni.J1 c
def K7.J1 (a : Unit) : Option (Fault × Bool) := some ((⟨0, 0, 0⟩ : Fault), false)
def K7.J3 (a : Unit) : Option (Unit ⊕ ((Fault × Bool))) := some (.inl ())
def K7.B4 (e : Li) (c : Network) (b : Nat) (h : Nat) (a : Level) (i : Unit) : Option (Unit ⊕ ((Fault × Bool))) := (ix e (b : Int)).bind fun d => (ix c.Segments (b : Int)).bind fun f => (Ni f.2 a.At).bind fun g => if decide ((wr (a.Bounds.High + d.2)) > g) = true then some ((.inr (((⟨1, (b : Int), a.At⟩ : Fault), true)))) else if decide ((wr (a.Bounds.Low - d.2)) < c.Vapour) = true then some ((.inr (((⟨2, (b : Int), a.At⟩ : Fault), true)))) else some (.inl ())
def K7.B2 (a : Li) (b : Network) (c : Nat) (d : List Level) (g : Unit) : Option (Unit ⊕ ((Fault × Bool))) := (forL (K7.B4 a b c) 0 d ()).bind fun e => Sum.elim (fun h => K7.J3 ()) (fun f => some ((.inr (f)))) e
def K7 (a : Pressures) (b : Li) (c : Network) : Option (Fault × Bool) := (forL (K7.B2 b c) 0 a.Segments ()).bind fun d => Sum.elim (fun f => K7.J1 ()) (fun e => some e) d
def Gp.J1 (a : Unit) : Option (Fault × Bool) := some ((⟨0, 0, 0⟩ : Fault), false)
def Gp.J3 (a : Nat) (b : Bool) : Option (Unit ⊕ ((Fault × Bool))) := if b = true then some ((.inr (((⟨3, (a : Int), 0⟩ : Fault), true)))) else some (.inl ())
def Gp.B2 (d : Plan) (c : Pressures) (a : Nat) (b : Station) (h : Unit) : Option (Unit ⊕ ((Fault × Bool))) := (ix d.Pumps (a : Int)).bind fun e => if e.2 = true then (ix c.Known b.Node).bind fun f => if f.2 = true then (ix c.Nodes b.Node).bind fun g => Gp.J3 a (decide (g.2.Low < b.Suction)) else Gp.J3 a false else Gp.J3 a false
def Gp (a : Network) (b : Plan) (c : Pressures) : Option (Fault × Bool) := (forL (Gp.B2 b c) 0 a.Stations ()).bind fun d => Sum.elim (fun f => Gp.J1 ()) (fun e => some e) d
def F9.K (a : Fault × Bool) (n : Network) (p : Plan) (x : Pressures) : Option (Fault × Bool) := if a.2 = true then some a else Gp n p x
def F9 (a : Network) (b : Pressures) (c : Plan) (d : Li) : Option (Fault × Bool) := (Nh a b c d).bind fun e => if (!e) = true then some ((⟨0, 0, 0⟩ : Fault), false) else (K7 b d a).bind fun f => F9.K f a c b
structure Change where
 Tick : Int
 Plan : Plan
 deriving DecidableEq
def C1 (x : Change) : List T := [.V x.Tick, .list 1 (x.Plan.Rates.map rI), .list 1 (x.Plan.Ports.map rI), .list 1 (x.Plan.Pumps.map rB)]
def K0.J1 (a : Unit) : Option Int := some 0
def K0.J3 (a : Bool) : Option (Unit ⊕ (Int)) := if a = true then some ((.inr (6))) else some (.inl ())
def K0.B2 (c : List Change) (b : Nat) (a : Change) (f : Unit) : Option (Unit ⊕ (Int)) := if ((b : Int) == 0) = true then if (a.Tick != 0) = true then K0.J3 true else if decide ((b : Int) > 0) = true then (ix c (wr ((b : Int) - 1))).bind fun d => if decide (a.Tick ≤ d.2.Tick) = true then K0.J3 true else K0.J3 (decide (a.Tick > 1099511627776)) else K0.J3 (decide (a.Tick > 1099511627776)) else if decide ((b : Int) > 0) = true then (ix c (wr ((b : Int) - 1))).bind fun e => if decide (a.Tick ≤ e.2.Tick) = true then K0.J3 true else K0.J3 (decide (a.Tick > 1099511627776)) else K0.J3 (decide (a.Tick > 1099511627776))
def K0 (a : List Change) : Option Int := if (((a.length : Int) == 0) || decide ((a.length : Int) > 40)) = true then some 4 else (forL (K0.B2 a) 0 a ()).bind fun b => Sum.elim (fun d => K0.J1 ()) (fun c => some c) b
def M9.J1 (a : Li) : Option Li := some a
def M9.J3 (a : Li × Int) (b : Li) : Option ((Li × Int) ⊕ (Li)) := some (.inl (b, wr (a.2 + 1)))
def M9.B4 (d : Li) (a : Nat) (b : Li) : Option Li := (ix d (a : Int)).bind fun e => (ix b (a : Int)).bind fun c => some (b.set c.1 (wr (c.2 + e.2)))
def M9.B2 (c : Network) (b : List Change) (d : Int) (a : Li × Int) : Option ((Li × Int) ⊕ (Li)) := if decide (a.2 ≤ d) = true then (ix b d).bind fun g => (ix b a.2).bind fun e => if decide ((wr (g.2.Tick - e.2.Tick)) > c.Settle) = true then M9.J3 a a.1 else (ix b (wr (a.2 - 1))).bind fun h => (Kx c h.2.Plan e.2.Plan).bind fun f => (forJ (M9.B4 f) 0 f.length a.1).bind fun i => M9.J3 a i else some ((.inr (a.1)))
def M9 (a : Network) (b : List Change) (c : Int) : Option Li := (So (a.Segments.length : Int) (0 : Int)).bind fun d => (Da (M9.B2 a b c) Eh (d, 1)).bind fun e => M9.J1 e
def Kz.J4 (a : Unit) : Option (Fault × Int) := some ((⟨0, 0, 0⟩ : Fault), 0)
def Kz.J6 (a : Int) (b : Unit) : Option (Int ⊕ ((Fault × Int) ⊕ Unit)) := some (.inl (wr (a + 1)))
def Kz.J8 (a : Int × Int × Int × Bool) : Option (Unit ⊕ ((Fault × Int))) := if a.2.2.2 = true then some ((.inr (((⟨a.1, a.2.1, a.2.2.1⟩ : Fault), 15)))) else some (.inl ())
def Kz.B7 (d : Network) (e : List Change) (f : List Pressures) (b : Int) (g : Li) (h : Nat) (k : Unit) : Option (Unit ⊕ ((Fault × Int))) := (ix ([wr (b - 1), b] : Li) (h : Int)).bind fun c => (ix f c.2).bind fun i => (ix e c.2).bind fun j => (F9 d i.2 j.2.Plan g).bind fun a => Kz.J8 (a.1.Kind, a.1.Index, a.1.At, a.2)
def Kz.B5 (c : Network) (b : List Change) (d : List Pressures) (a : Int) : Option (Int ⊕ ((Fault × Int) ⊕ Unit)) := if decide (a < (b.length : Int)) = true then (M9 c b a).bind fun e => (Iq e).bind fun f => (forI (Kz.B7 c b d a f) 0 (([wr (a - 1), a] : Li).length) ()).bind fun g => Sum.elim (fun i => Kz.J6 a ()) (fun h => some ((.inr (.inl (h))))) g else some ((.inr (.inr (()))))
def Kz.J3 (b : Network) (c : List Change) (d : List Pressures) (a : Int × Int × Int × Bool) : Option (Fault × Int) := if a.2.2.2 = true then some ((⟨a.1, a.2.1, a.2.2.1⟩ : Fault), 15) else (Da (Kz.B5 b c d) Eh 1).bind fun e => Sum.elim (fun f => some f) (fun g => Kz.J4 g) e
def Kz.J2 (b : Network) (c : List Change) (d : List Pressures) : Option (Fault × Int) := (ix d 0).bind fun e => (ix c 0).bind fun f => (So (b.Segments.length : Int) (0 : Int)).bind fun g => (F9 b e.2 f.2.Plan g).bind fun a => Kz.J3 b c d (a.1.Kind, a.1.Index, a.1.At, a.2)
def Kz.B9 (b : Network) (c : List Batch) (d : List Product) (e : List (List Piece)) (i : Nat) (f : Change) (g : List Pressures) : Option ((List Pressures) ⊕ ((Fault × Int))) := (Ff b c d e f.Plan).bind fun a => if (a.2 != 0) = true then some ((.inr (((⟨0, 0, 0⟩ : Fault), a.2)))) else (Dy g ([a.1] : List Pressures)).bind fun h => some (.inl h)
def Kz.J1 (a : Network) (c : List Batch) (d : List Product) (e : List (List Piece)) (b : List Change) (i : Unit) : Option (Fault × Int) := (forL (Kz.B9 a c d e) 0 b []).bind fun f => Sum.elim (fun g => Kz.J2 a b g) (fun h => some h) f
def Kz.B10 (b : Network) (d : Nat) (c : Change) (e : Unit) : Option (Unit ⊕ ((Fault × Int))) := (Ha b c.Plan).bind fun a => if (a != 0) = true then some ((.inr (((⟨0, 0, 0⟩ : Fault), a)))) else some (.inl ())
def Kz (b : Network) (d : List Batch) (e : List Product) (f : List (List Piece)) (a : List Change) : Option (Fault × Int) := (K0 a).bind fun c => if (c != 0) = true then some ((⟨0, 0, 0⟩ : Fault), c) else (forL (Kz.B10 b) 0 a ()).bind fun g => Sum.elim (fun i => Kz.J1 b d e f a ()) (fun h => some h) g
def Cn (a : Int) (b : Int) (c : Int) : Bool := (decide (a ≥ b) && decide (a ≤ c))
def Qo.J3 (a : Network) (b : List ByteArray) (c : List ByteArray) (d : List ByteArray) : Option (Arr (List ByteArray) 4) := some (⟨[a.Nodes, b, c, d], rfl⟩ : Arr (List ByteArray) 4)
def Qo.B4 (d : Nat) (a : Station) (b : List ByteArray) : Option (List ByteArray) := (Dy b ([a.Name] : List ByteArray)).bind fun c => some c
def Qo.J2 (a : Network) (b : List ByteArray) (c : List ByteArray) : Option (Arr (List ByteArray) 4) := (forS Qo.B4 0 a.Stations []).bind fun d => Qo.J3 a b c d
def Qo.B5 (d : Nat) (a : Port) (b : List ByteArray) : Option (List ByteArray) := (Dy b ([a.Name] : List ByteArray)).bind fun c => some c
def Qo.J1 (a : Network) (b : List ByteArray) : Option (Arr (List ByteArray) 4) := (forS Qo.B5 0 a.Ports []).bind fun c => Qo.J2 a b c
def Qo.B6 (d : Nat) (a : Segment) (b : List ByteArray) : Option (List ByteArray) := (Dy b ([a.Name] : List ByteArray)).bind fun c => some c
def Qo (a : Network) : Option (Arr (List ByteArray) 4) := (forS Qo.B6 0 a.Segments []).bind fun b => Qo.J1 a b
def Gq.J2 (a : Unit) : Option Bool := some true
def Gq.J4 (a : Int) (b : Bool) : Option (Int ⊕ (Bool ⊕ Unit)) := if b = true then some ((.inr (.inl (false)))) else some (.inl (wr (a + 1)))
def Gq.B3 (c : ByteArray) (b : Int) : Option (Int ⊕ (Bool ⊕ Unit)) := if decide (b < (c.size : Int)) = true then (sL c b).bind fun a => if decide (a.2 < 97) = true then if decide (a.2 < 48) = true then Gq.J4 b (a.2 != 45) else if decide (a.2 > 57) = true then Gq.J4 b (a.2 != 45) else Gq.J4 b false else if decide (a.2 > 122) = true then if decide (a.2 < 48) = true then Gq.J4 b (a.2 != 45) else if decide (a.2 > 57) = true then Gq.J4 b (a.2 != 45) else Gq.J4 b false else Gq.J4 b false else some ((.inr (.inr (()))))
def Gq.J1 (a : ByteArray) (b : Bool) : Option Bool := if b = true then some false else (Da (Gq.B3 a) Eh 0).bind fun c => Sum.elim (fun d => some d) (fun e => Gq.J2 e) c
def Gq (a : ByteArray) : Option Bool := if decide ((a.size : Int) < 1) = true then Gq.J1 a true else if decide ((a.size : Int) > 12) = true then Gq.J1 a true else (sL a 0).bind fun b => if decide (b.2 < 97) = true then Gq.J1 a true else Gq.J1 a (decide (b.2 > 122))
def Nx.J1 (a : Unit) : Option Bool := some false
def Nx.J3 (a : Unit) : Option (Unit ⊕ (Bool)) := some (.inl ())
def Nx.B4 (b : List ByteArray) (c : Nat) (d : ByteArray) (a : Int) : Option (Int ⊕ (Bool ⊕ Unit)) := if decide (a < (c : Int)) = true then (ix b a).bind fun e => if S0 d e.2 = true then some ((.inr (.inl (true)))) else some (.inl (wr (a + 1))) else some ((.inr (.inr (()))))
def Nx.B2 (a : List ByteArray) (b : Nat) (c : ByteArray) (g : Unit) : Option (Unit ⊕ (Bool)) := (Da (Nx.B4 a b c) Eh 0).bind fun d => Sum.elim (fun e => some ((.inr (e)))) (fun f => Nx.J3 f) d
def Nx (a : List ByteArray) : Option Bool := (forL (Nx.B2 a) 0 a ()).bind fun b => Sum.elim (fun d => Nx.J1 ()) (fun c => some c) b
def Np.J2 (a : Unit) : Option Bool := some true
def Np.J4 (a : Bool) : Option (Unit ⊕ (Bool)) := if a = true then some ((.inr (false))) else some (.inl ())
def Np.B3 (c : Segment) (b : Nat) (a : Point) (e : Unit) : Option (Unit ⊕ (Bool)) := if decide ((b : Int) > 0) = true then (ix c.Points (wr ((b : Int) - 1))).bind fun d => if decide (a.At ≤ d.2.At) = true then Np.J4 true else if (!(Cn a.Height (-500) 5000)) = true then Np.J4 true else Np.J4 (!(Cn a.Limit 0 100000000)) else if (!(Cn a.Height (-500) 5000)) = true then Np.J4 true else Np.J4 (!(Cn a.Limit 0 100000000))
def Np.J1 (a : Segment) (b : Bool) : Option Bool := if b = true then some false else (forL (Np.B3 a) 0 a.Points ()).bind fun c => Sum.elim (fun e => Np.J2 ()) (fun d => some d) c
def Np (a : Segment) : Option Bool := if (a.From == a.To) = true then Np.J1 a true else if (!(Cn a.Capacity 1 1000000)) = true then Np.J1 a true else if (!(Cn a.Resist 0 1000)) = true then Np.J1 a true else if (!(Cn a.Wave 0 100000)) = true then Np.J1 a true else (ix a.Points 0).bind fun b => if (b.2.At != 0) = true then Np.J1 a true else (ix a.Points (wr ((a.Points.length : Int) - 1))).bind fun c => Np.J1 a (c.2.At != a.Capacity)
def Gr.J10 (a : Network) (b : Unit) : Option Int := if ((!(Cn a.Vapour (-100000) 100000000)) || (!(Cn a.Settle 0 100))) = true then some 9 else some 0
def Gr.B11 (b : Nat) (a : Station) (c : Unit) : Option (Unit ⊕ (Int)) := if ((!(Cn a.Head 0 100000000)) || ((!(Cn a.Fall 0 100000)) || (!(Cn a.Suction 0 100000000)))) = true then some ((.inr (9))) else some (.inl ())
def Gr.J9 (a : Network) (d : Unit) : Option Int := (forL Gr.B11 0 a.Stations ()).bind fun b => Sum.elim (fun e => Gr.J10 a ()) (fun c => some c) b
def Gr.B12 (b : Nat) (a : Port) (c : Unit) : Option (Unit ⊕ (Int)) := if (!(Cn a.Pressure 0 100000000)) = true then some ((.inr (9))) else some (.inl ())
def Gr.J8 (a : Network) (d : Unit) : Option Int := (forL Gr.B12 0 a.Ports ()).bind fun b => Sum.elim (fun e => Gr.J9 a ()) (fun c => some c) b
def Gr.B13 (c : Nat) (a : Segment) (d : Unit) : Option (Unit ⊕ (Int)) := (Np a).bind fun b => if (!b) = true then some ((.inr (9))) else some (.inl ())
def Gr.J7 (a : Network) (d : Unit) : Option Int := (forL Gr.B13 0 a.Segments ()).bind fun b => Sum.elim (fun e => Gr.J8 a ()) (fun c => some c) b
def Gr.B14 (a : Network) (c : Nat) (b : Station) (d : Unit) : Option (Unit ⊕ (Int)) := if (!(Cn b.Node 0 (wr ((a.Nodes.length : Int) - 1)))) = true then some ((.inr (8))) else some (.inl ())
def Gr.J6 (a : Network) (d : Unit) : Option Int := (forL (Gr.B14 a) 0 a.Stations ()).bind fun b => Sum.elim (fun e => Gr.J7 a ()) (fun c => some c) b
def Gr.B15 (a : Network) (c : Nat) (b : Port) (d : Unit) : Option (Unit ⊕ (Int)) := if (!(Cn b.Node 0 (wr ((a.Nodes.length : Int) - 1)))) = true then some ((.inr (8))) else some (.inl ())
def Gr.J5 (a : Network) (d : Unit) : Option Int := (forL (Gr.B15 a) 0 a.Ports ()).bind fun b => Sum.elim (fun e => Gr.J6 a ()) (fun c => some c) b
def Gr.B16 (a : Network) (c : Nat) (b : Segment) (d : Unit) : Option (Unit ⊕ (Int)) := if ((!(Cn b.From 0 (wr ((a.Nodes.length : Int) - 1)))) || (!(Cn b.To 0 (wr ((a.Nodes.length : Int) - 1))))) = true then some ((.inr (8))) else some (.inl ())
def Gr.J4 (a : Network) (d : Unit) : Option Int := (forL (Gr.B16 a) 0 a.Segments ()).bind fun b => Sum.elim (fun e => Gr.J5 a ()) (fun c => some c) b
def Gr.J18 (a : Unit) : Option (Unit ⊕ (Int)) := some (.inl ())
def Gr.B19 (b : Network) (c : Nat) (d : Station) (a : Int) : Option (Int ⊕ (Int ⊕ Unit)) := if decide (a < (c : Int)) = true then (ix b.Stations a).bind fun e => if (d.Node == e.2.Node) = true then some ((.inr (.inl (7)))) else some (.inl (wr (a + 1))) else some ((.inr (.inr (()))))
def Gr.B17 (a : Network) (b : Nat) (c : Station) (g : Unit) : Option (Unit ⊕ (Int)) := (Da (Gr.B19 a b c) Eh 0).bind fun d => Sum.elim (fun e => some ((.inr (e)))) (fun f => Gr.J18 f) d
def Gr.J3 (a : Network) (d : Unit) : Option Int := (forL (Gr.B17 a) 0 a.Stations ()).bind fun b => Sum.elim (fun e => Gr.J4 a ()) (fun c => some c) b
def Gr.B20 (a : Arr (List ByteArray) 4) (b : Nat) (e : Unit) : Option (Unit ⊕ (Int)) := (ix a.l (b : Int)).bind fun c => (Nx c.2).bind fun d => if d = true then some ((.inr (7))) else some (.inl ())
def Gr.J2 (a : Network) (b : Arr (List ByteArray) 4) (e : Unit) : Option Int := (forI (Gr.B20 b) 0 4 ()).bind fun c => Sum.elim (fun f => Gr.J3 a ()) (fun d => some d) c
def Gr.J22 (a : Unit) : Option (Unit ⊕ (Int)) := some (.inl ())
def Gr.B23 (c : Nat) (a : ByteArray) (d : Unit) : Option (Unit ⊕ (Int)) := (Gq a).bind fun b => if (!b) = true then some ((.inr (3))) else some (.inl ())
def Gr.B21 (a : Arr (List ByteArray) 4) (b : Nat) (f : Unit) : Option (Unit ⊕ (Int)) := (ix a.l (b : Int)).bind fun c => (forL Gr.B23 0 c.2 ()).bind fun d => Sum.elim (fun g => Gr.J22 ()) (fun e => some ((.inr (e)))) d
def Gr.J1 (a : Network) (e : Unit) : Option Int := (Qo a).bind fun b => (forI (Gr.B21 b) 0 4 ()).bind fun c => Sum.elim (fun f => Gr.J2 a b ()) (fun d => some d) c
def Gr.B24 (b : Nat) (a : Segment) (c : Unit) : Option (Unit ⊕ (Int)) := if (!(Cn (a.Points.length : Int) 2 8)) = true then some ((.inr (4))) else some (.inl ())
def Gr (a : Network) : Option Int := if ((!(Cn (a.Nodes.length : Int) 1 24)) || (decide ((a.Segments.length : Int) > 32) || (decide ((a.Ports.length : Int) > 24) || decide ((a.Stations.length : Int) > 12)))) = true then some 4 else (forL Gr.B24 0 a.Segments ()).bind fun b => Sum.elim (fun d => Gr.J1 a ()) (fun c => some c) b
def Fg (a : Segment) (b : Int) : (Int × Int) := if decide (b < 0) = true then (a.To, a.From) else (a.From, a.To)
def Qr.J2 (a : Int × Int) : Option (Int × Int) := some (a.1, a.2)
def Qr.J4 (a : Int × Int) : Option (Int × Int) := some (a.1, a.2)
def Qr.B3 (c : Plan) (d : Int) (e : Nat) (f : Port) (a : Int × Int) : Option (Int × Int) := if (f.Node == d) = true then (ix c.Ports (e : Int)).bind fun b => Qr.J4 (wr (a.1 + (max 0 b.2)), wr (a.2 + (max 0 (wr (0 - b.2))))) else Qr.J4 (a.1, a.2)
def Qr.J1 (c : Network) (d : Plan) (e : Int) (a : Int × Int) : Option (Int × Int) := (forS (Qr.B3 d e) 0 c.Ports (a.1, a.2)).bind fun b => Qr.J2 (b.1, b.2)
def Qr.J6 (a : Int × Int) : Option (Int × Int) := some (a.1, a.2)
def Qr.J7 (d : Int) (e : Segment) (a : Int × Int) (b : Nat × Int) (c : Int) : Option (Int × Int) := if (((Fg e b.2).2) == d) = true then Qr.J6 (wr (a.1 + (F8 b.2)), c) else Qr.J6 (a.1, c)
def Qr.B5 (e : Plan) (c : Int) (f : Nat) (d : Segment) (a : Int × Int) : Option (Int × Int) := (ix e.Rates (f : Int)).bind fun b => if (b.2 == 0) = true then Qr.J6 (a.1, a.2) else if (((Fg d b.2).1) == c) = true then Qr.J7 c d a b (wr (a.2 + (F8 b.2))) else Qr.J7 c d a b a.2
def Qr (a : Network) (b : Plan) (c : Int) : Option (Int × Int) := (forS (Qr.B5 b c) 0 a.Segments (0, 0)).bind fun d => Qr.J1 a b c (d.1, d.2)
def H3.J2 (a : Li × (List Bool)) (b : Int) : Option ((Li × (List Bool)) ⊕ (Li)) := if decide (b < 0) = true then some ((.inr (a.1))) else (Dy a.1 ([b] : Li)).bind fun c => (ix a.2 b).bind fun d => some (.inl (c, (a.2.set d.1 true)))
def H3.J4 (a : Int) : Option Int := some a
def H3.J5 (b : Nat) (a : Int) (c : Bool) : Option Int := if (c && decide (a < 0)) = true then H3.J4 (b : Int) else H3.J4 a
def H3.J7 (a : Bool) : Option Bool := some a
def H3.B6 (d : Plan) (e : Li × (List Bool)) (f : Nat) (g : Nat) (b : Segment) (c : Bool) : Option Bool := (ix d.Rates (g : Int)).bind fun a => if (a.2 != 0) = true then if c = true then if (((Fg b a.2).2) != (f : Int)) = true then H3.J7 true else (ix e.2 ((Fg b a.2).1)).bind fun h => H3.J7 h.2 else H3.J7 false else H3.J7 c
def H3.B3 (c : Network) (d : Plan) (b : Li × (List Bool)) (a : Nat) (h : ByteArray) (e : Int) : Option Int := (ix b.2 (a : Int)).bind fun f => (forS (H3.B6 d b a) 0 c.Segments (!f.2)).bind fun g => H3.J5 a e g
def H3.B1 (a : Network) (c : Plan) (b : Li × (List Bool)) : Option ((Li × (List Bool)) ⊕ (Li)) := (forS (H3.B3 a c b) 0 a.Nodes (-1)).bind fun d => H3.J2 b d
def H3 (a : Network) (b : Plan) : Option Li := (So (a.Nodes.length : Int) false).bind fun c => (Da (H3.B1 a b) Eh ([], c)).bind fun d => some d
def Kq.J3 (a : Network) (b : Plan) (d : Unit) : Option Int := (H3 a b).bind fun c => if ((c.length : Int) != (a.Nodes.length : Int)) = true then some 13 else some 0
def Kq.B4 (b : Network) (c : Plan) (d : Nat) (e : ByteArray) (f : Unit) : Option (Unit ⊕ (Int)) := (Qr b c (d : Int)).bind fun a => if (a.1 != a.2) = true then some ((.inr (12))) else some (.inl ())
def Kq.J2 (a : Network) (b : Plan) (e : Unit) : Option Int := (forL (Kq.B4 a b) 0 a.Nodes ()).bind fun c => Sum.elim (fun f => Kq.J3 a b ()) (fun d => some d) c
def Kq.B5 (b : Nat) (a : Int) (c : Unit) : Option (Unit ⊕ (Int)) := if (decide (a < (-1000)) || decide (a > 1000)) = true then some ((.inr (1))) else some (.inl ())
def Kq.J1 (b : Network) (a : Plan) (e : Unit) : Option Int := (forL Kq.B5 0 a.Ports ()).bind fun c => Sum.elim (fun f => Kq.J2 b a ()) (fun d => some d) c
def Kq.B6 (c : Network) (d : Nat) (a : Int) (e : Unit) : Option (Unit ⊕ (Int)) := (ix c.Segments (d : Int)).bind fun b => if (decide (a < (wr (0 - (min 1000 b.2.Capacity)))) || decide (a > (min 1000 b.2.Capacity))) = true then some ((.inr (1))) else some (.inl ())
def Kq (a : Network) (b : Plan) : Option Int := (Gr a).bind fun c => if (c != 0) = true then some c else if (((b.Rates.length : Int) != (a.Segments.length : Int)) || (((b.Ports.length : Int) != (a.Ports.length : Int)) || ((b.Pumps.length : Int) != (a.Stations.length : Int)))) = true then some 9 else (forL (Kq.B6 a) 0 b.Rates ()).bind fun d => Sum.elim (fun f => Kq.J1 a b ()) (fun e => some e) d
def We (a : Segment) : Option Bool := (Gr (⟨([(⟨#[97]⟩ : ByteArray), (⟨#[98]⟩ : ByteArray)] : List ByteArray), ([(⟨a.Name, 0, 1, a.Capacity, a.Resist, a.Wave, a.Points⟩ : Segment)] : List Segment), [], [], 0, 0⟩ : Network)).bind fun b => some (b == 0)
def Qu (a : Int) : Bool := (decide (a ≥ 0) && decide (a < 1000))
def K1.J1 (a : Int) : Option Bool := some (decide (a ≤ 1000000))
def K1.J3 (a : Piece) (b : Int) (c : Bool) : Option (Int ⊕ (Bool)) := if c = true then some ((.inr (false))) else some (.inl (wr (b + a.Volume)))
def K1.B2 (d : List Piece) (c : Nat) (a : Piece) (b : Int) : Option (Int ⊕ (Bool)) := if (!(Qu a.Batch)) = true then K1.J3 a b true else if decide (a.Volume < 1) = true then K1.J3 a b true else if decide (a.Volume > 1000000) = true then K1.J3 a b true else if decide ((c : Int) > 0) = true then (ix d (wr ((c : Int) - 1))).bind fun e => K1.J3 a b (a.Batch == e.2.Batch) else K1.J3 a b false
def K1 (a : List Piece) : Option Bool := if decide ((a.length : Int) > 200) = true then some false else (forL (K1.B2 a) 0 a 0).bind fun b => Sum.elim (fun c => K1.J1 c) (fun d => some d) b
def Kp.J1 (a : Int) : Option Int := some a
def Kp.B2 (c : Nat) (a : Piece) (b : Int) : Option Int := some (wr (b + a.Volume))
def Kp (a : List Piece) : Option Int := (forS Kp.B2 0 a 0).bind fun b => Kp.J1 b
def Qj.J1 (a : Segment) (b : List Piece) (c : Bool) : Option Int := if c = true then some 9 else (Kp b).bind fun d => if (d != a.Capacity) = true then some 14 else some 0
def Qj (a : Segment) (b : List Piece) : Option Int := (We a).bind fun c => if (!c) = true then Qj.J1 a b true else (K1 b).bind fun d => Qj.J1 a b (!d)
def Vo.J1 (a : Bool) : Option Bool := some a
def Vo (a : Product) : Option Bool := (Gq a.Name).bind fun b => if b = true then if decide (a.Density ≥ 400) = true then if decide (a.Density ≤ 1200) = true then if decide (a.Expansion ≥ 0) = true then if decide (a.Expansion ≤ 2000) = true then if decide (a.Compress ≥ 0) = true then if decide (a.Compress ≤ 5000) = true then if decide (a.Friction ≥ 1) = true then Vo.J1 (decide (a.Friction ≤ 2000)) else Vo.J1 false else Vo.J1 false else Vo.J1 false else Vo.J1 false else Vo.J1 false else Vo.J1 false else Vo.J1 false else Vo.J1 false
def V9.J1 (a : Unit) : Option Int := some (-1)
def V9.B2 (a : ByteArray) (b : Nat) (c : Product) (d : Unit) : Option (Unit ⊕ (Int)) := if S0 c.Name a = true then some ((.inr ((b : Int)))) else some (.inl ())
def V9 (a : List Product) (b : ByteArray) : Option Int := (forL (V9.B2 b) 0 a ()).bind fun c => Sum.elim (fun e => V9.J1 ()) (fun d => some d) c
def Nm.J2 (a : Unit) : Option Int := some 0
def Nm.B3 (a : List Product) (b : Nat) (c : Product) (e : Unit) : Option (Unit ⊕ (Int)) := (V9 a c.Name).bind fun d => if (d != (b : Int)) = true then some ((.inr (7))) else some (.inl ())
def Nm.J1 (a : List Product) (d : Unit) : Option Int := (forL (Nm.B3 a) 0 a ()).bind fun b => Sum.elim (fun e => Nm.J2 ()) (fun c => some c) b
def Nm.B4 (c : Nat) (a : Product) (d : Unit) : Option (Unit ⊕ (Int)) := (Vo a).bind fun b => if (!b) = true then some ((.inr (9))) else some (.inl ())
def Nm (a : List Product) : Option Int := if decide ((a.length : Int) > 16) = true then some 4 else (forL Nm.B4 0 a ()).bind fun b => Sum.elim (fun d => Nm.J1 a ()) (fun c => some c) b
def K5.J1 (a : Unit) : Option Bool := some true
def K5.J3 (a : Bool) : Option (Unit ⊕ (Bool)) := if a = true then some ((.inr (false))) else some (.inl ())
def K5.B2 (a : List Batch) (d : List Product) (e : Nat) (b : Piece) (f : Unit) : Option (Unit ⊕ (Bool)) := if decide (b.Batch ≥ (a.length : Int)) = true then K5.J3 true else (ix a b.Batch).bind fun c => if decide (c.2.Product < 0) = true then K5.J3 true else K5.J3 (decide (c.2.Product ≥ (d.length : Int)))
def K5 (a : List Piece) (b : List Batch) (c : List Product) : Option Bool := (forL (K5.B2 b c) 0 a ()).bind fun d => Sum.elim (fun f => K5.J1 ()) (fun e => some e) d
def Ga (a : Bounds) : Bool := (decide (a.Low ≤ a.High) && (decide (a.Low ≥ (-1125899906842624)) && decide (a.High ≤ 1125899906842624)))
def Nl.J3 (a : Li) : Option Li := some a
def Nl.J2 (a : Li) (c : Int) (b : Int) (d : Bool) : Option Li := if d = true then some a else (Zh a 0 b).bind fun e => (Dy ([] : Li) e).bind fun f => (Dy f ([c] : Li)).bind fun g => (Zh a b (a.length : Int)).bind fun h => (Dy g h).bind fun i => Nl.J3 i
def Nl.J1 (a : Li) (c : Int) (b : Int) : Option Li := if decide (b < (a.length : Int)) = true then (ix a b).bind fun d => Nl.J2 a c b (d.2 == c) else Nl.J2 a c b false
def Nl.J5 (a : Int) (b : Bool) : Option (Int ⊕ (Int)) := if b = true then some (.inl (wr (a + 1))) else some ((.inr (a)))
def Nl.B4 (b : Li) (c : Int) (a : Int) : Option (Int ⊕ (Int)) := if decide (a < (b.length : Int)) = true then (ix b a).bind fun d => Nl.J5 a (decide (d.2 < c)) else Nl.J5 a false
def Nl (a : Li) (b : Int) : Option Li := (Da (Nl.B4 a b) Eh 0).bind fun c => Nl.J1 a b c
def Nk.J2 (a : Li) : Option Li := some a
def Nk.B3 (d : Nat) (b : Piece) (a : Li × Int) : Option (Li × Int) := (Nl a.1 (wr (a.2 + b.Volume))).bind fun c => some (c, wr (a.2 + b.Volume))
def Nk.J1 (a : List Piece) (b : Li) : Option Li := (forS Nk.B3 0 a (b, 0)).bind fun c => Nk.J2 c.1
def Nk.B4 (d : Nat) (a : Point) (b : Li) : Option Li := (Nl b a.At).bind fun c => some c
def Nk (a : Segment) (b : List Piece) : Option Li := (forS Nk.B4 0 a.Points []).bind fun c => Nk.J1 b c
def Nb.J2 (a : Unit) : Option Int := some (-1)
def Nb.B3 (c : Nat) (a : Piece) (b : Int) : Option (Int ⊕ (Int)) := if decide (b < a.Volume) = true then some ((.inr (a.Batch))) else some (.inl (wr (b - a.Volume)))
def Nb.J1 (a : List Piece) (b : Int) (c : Bool) : Option Int := if c = true then some (-1) else (forL Nb.B3 0 a b).bind fun d => Sum.elim (fun f => Nb.J2 ()) (fun e => some e) d
def Nb (a : List Piece) (b : Int) : Option Int := (K1 a).bind fun c => if (!c) = true then Nb.J1 a b true else Nb.J1 a b (decide (b < 0))
def Nc.J2 (b : Segment) (c : Int) (d : Int) (e : Int) (f : Nat × Product) (a : Int × Int × Int × Int × Int × Int) : Option (Int × Int × Int × Int) := some (wr ((wr ((wr ((wr (b.Resist * f.2.Friction)) * c)) * c)) * (wr (e - d))), wr (1000 * b.Capacity), wr ((wr ((wr (f.2.Density * 9807)) * (wr (a.2.2.2.2.1 - a.2.1)))) * (wr (e - d))), wr (1000 * (wr (a.2.2.2.1 - a.1))))
def Nc.J1 (a : Segment) (e : Int) (f : Int) (g : Int) (h : Nat × Product) (d : Int) : Option (Int × Int × Int × Int) := (ix a.Points d).bind fun b => (ix a.Points (wr (d + 1))).bind fun c => Nc.J2 a e f g h (b.2.At, b.2.Height, b.2.Limit, c.2.At, c.2.Height, c.2.Limit)
def Nc.B3 (b : Segment) (c : Int) (a : Int) : Option (Int ⊕ (Int)) := (ix b.Points (wr (a + 1))).bind fun d => if decide (d.2.At ≤ c) = true then some (.inl (wr (a + 1))) else some ((.inr (a)))
def Nc (b : Segment) (c : List Piece) (d : List Batch) (e : List Product) (f : Int) (a : Int) (g : Int) : Option (Int × Int × Int × Int) := (Nb c a).bind fun h => (ix d h).bind fun i => (ix e i.2.Product).bind fun j => (Da (Nc.B3 b a) Eh 0).bind fun k => Nc.J1 b f a g j k
def M4 (a : Int) (b : Int) : Bool := (decide (b ≥ 1) && (decide (b ≤ 1099511627776) && (decide (a ≥ (-2305843009213693952)) && decide (a ≤ 2305843009213693952))))
def Ir.J1 (a : Int) : Option Int := some a
def Ir (a : Int) (b : Int) : Option Int := if (!(M4 a b)) = true then some 0 else (cA a b).bind fun c => (Uy a b).bind fun d => if decide (d > 0) = true then Ir.J1 (wr (c + 1)) else Ir.J1 c
def It.J1 (a : Int) : Option Int := some a
def It (a : Int) (b : Int) : Option Int := if (!(M4 a b)) = true then some 0 else (cA a b).bind fun c => (Uy a b).bind fun d => if decide (d < 0) = true then It.J1 (wr (c - 1)) else It.J1 c
def Hx.J2 (a : List Level) : Option ((List Level) × Int) := some (a, 0)
def Hx.B3 (i : Segment) (j : List Piece) (k : List Batch) (l : List Product) (m : Int) (c : Li) (a : (List Level) × Int × Int × Int) : Option (((List Level) × Int × Int × Int) ⊕ ((List Level))) := if decide (a.2.2.2 ≥ 0) = true then (ix c a.2.2.2).bind fun d => (ix c (wr (a.2.2.2 + 1))).bind fun n => (Nc i j k l m d.2 n.2).bind fun b => (Ir b.1 b.2.1).bind fun e => (Ir (wr (0 - b.2.2.1)) b.2.2.2).bind fun f => (It b.1 b.2.1).bind fun g => (It (wr (0 - b.2.2.1)) b.2.2.2).bind fun h => (ix a.1 a.2.2.2).bind fun o => some (.inl ((a.1.set o.1 (⟨d.2, (⟨wr ((wr (a.2.1 - e)) - f), wr ((wr (a.2.2.1 - g)) - h)⟩ : Bounds)⟩ : Level)), wr ((wr (a.2.1 - e)) - f), wr ((wr (a.2.2.1 - g)) - h), wr (a.2.2.2 - 1))) else some ((.inr (a.1)))
def Hx.J1 (d : Segment) (e : List Piece) (f : List Batch) (g : List Product) (h : Int) (b : Bounds) (a : Li) (c : List Level) (l : Unit) : Option ((List Level) × Int) := (ix a (wr ((a.length : Int) - 1))).bind fun i => (ix c (wr ((a.length : Int) - 1))).bind fun j => (Da (Hx.B3 d e f g h a) Eh ((c.set j.1 (⟨i.2, b⟩ : Level)), b.Low, b.High, wr ((wr ((a.length : Int) - 1)) - 1))).bind fun k => Hx.J2 k
def Hx.J4 (a : List Level) : Option ((List Level) × Int) := some (a, 0)
def Hx.B5 (i : Segment) (j : List Piece) (k : List Batch) (l : List Product) (m : Int) (c : Li) (a : (List Level) × Int × Int × Int) : Option (((List Level) × Int × Int × Int) ⊕ ((List Level))) := if decide (a.2.2.2 < (c.length : Int)) = true then (ix c (wr (a.2.2.2 - 1))).bind fun n => (ix c a.2.2.2).bind fun d => (Nc i j k l m n.2 d.2).bind fun b => (Ir b.1 b.2.1).bind fun e => (Ir b.2.2.1 b.2.2.2).bind fun f => (It b.1 b.2.1).bind fun g => (It b.2.2.1 b.2.2.2).bind fun h => (ix a.1 a.2.2.2).bind fun o => some (.inl ((a.1.set o.1 (⟨d.2, (⟨wr ((wr (a.2.1 - e)) - f), wr ((wr (a.2.2.1 - g)) - h)⟩ : Bounds)⟩ : Level)), wr ((wr (a.2.1 - e)) - f), wr ((wr (a.2.2.1 - g)) - h), wr (a.2.2.2 + 1))) else some ((.inr (a.1)))
def Hx (d : Segment) (b : List Piece) (g : List Batch) (e : List Product) (a : Int) (c : Bounds) : Option ((List Level) × Int) := (Qj d b).bind fun i => if (i != 0) = true then some ([], i) else (Nm e).bind fun j => if (j != 0) = true then some ([], j) else (K5 b g e).bind fun k => if (!k) = true then some ([], 8) else if ((a == 0) || (decide (a < (-1000)) || (decide (a > 1000) || (!(Ga c))))) = true then some ([], 1) else (Nk d b).bind fun f => (So (f.length : Int) (⟨(0 : Int), (⟨(0 : Int), (0 : Int)⟩ : Bounds)⟩ : Level)).bind fun h => if decide (a > 0) = true then (ix f 0).bind fun l => (ix h 0).bind fun m => (Da (Hx.B5 d b g e a f) Eh ((h.set m.1 (⟨l.2, c⟩ : Level)), c.Low, c.High, 1)).bind fun n => Hx.J4 n else Hx.J1 d b g e a c f h ()
def Nn.J1 (a : Int) : Option Int := some a
def Nn.J3 (a : Int × Int) (b : Int) : Option ((Int × Int) ⊕ (Int)) := some (.inl (b, wr (a.2 + 1)))
def Nn.J4 (b : Segment) (a : Int × Int) (c : Bool) : Option ((Int × Int) ⊕ (Int)) := if c = true then (ix b.Points (wr (a.2 - 1))).bind fun d => (ix b.Points a.2).bind fun e => Nn.J3 a (min (min a.1 d.2.Limit) e.2.Limit) else Nn.J3 a a.1
def Nn.B2 (b : Segment) (c : Int) (a : Int × Int) : Option ((Int × Int) ⊕ (Int)) := if decide (a.2 < (b.Points.length : Int)) = true then (ix b.Points (wr (a.2 - 1))).bind fun d => if decide (c ≥ d.2.At) = true then (ix b.Points a.2).bind fun e => Nn.J4 b a (decide (c ≤ e.2.At)) else Nn.J4 b a false else some ((.inr (a.1)))
def Nn (a : Segment) (b : Int) : Option Int := (Da (Nn.B2 a b) Eh (100000000, 1)).bind fun c => Nn.J1 c
def Qe.J1 (a : Bool) : Option Bool := some a
def Qe (a : Station) : Option Bool := (Gq a.Name).bind fun b => if b = true then if decide (a.Node ≥ 0) = true then if decide (a.Node < 24) = true then if decide (a.Head ≥ 0) = true then if decide (a.Head ≤ 100000000) = true then if decide (a.Fall ≥ 0) = true then if decide (a.Fall ≤ 100000) = true then if decide (a.Suction ≥ 0) = true then Qe.J1 (decide (a.Suction ≤ 100000000)) else Qe.J1 false else Qe.J1 false else Qe.J1 false else Qe.J1 false else Qe.J1 false else Qe.J1 false else Qe.J1 false else Qe.J1 false
def Vr (b : Station) (a : Int) : Option (Int × Int) := (Qe b).bind fun c => if (!c) = true then some (0, 9) else if (decide (a < 0) || decide (a > 32000)) = true then some (0, 1) else some ((max 0 (wr (b.Head - (wr ((wr ((wr (b.Fall * a)) * a)).tdiv 1000))))), 0)
def Vq (c : Station) (b : Bounds) (d : Int) : Option (Bounds × Int) := (Vr c d).bind fun a => if (a.2 != 0) = true then some ((⟨0, 0⟩ : Bounds), a.2) else if (!(Ga b)) = true then some ((⟨0, 0⟩ : Bounds), 1) else some ((⟨wr (b.Low + a.1), wr (b.High + a.1)⟩ : Bounds), 0)
def M2.J1 (a : Int) : Option Int := some a
def M2.J3 (a : Int) : Option Int := some a
def M2.B2 (c : Plan) (d : Int) (e : Nat) (f : Segment) (a : Int) : Option Int := (ix c.Rates (e : Int)).bind fun b => if (b.2 == 0) = true then M2.J3 a else if (((Fg f b.2).1) == d) = true then M2.J3 (wr (a + (F8 b.2))) else M2.J3 a
def M2 (a : Network) (b : Plan) (c : Int) : Option Int := (forS (M2.B2 b c) 0 a.Segments 0).bind fun d => M2.J1 d
def Qk.J2 (a : Unit) : Option Int := some 0
def Qk.B3 (a : Network) (b : Nat) (c : List Piece) (f : Unit) : Option (Unit ⊕ (Int)) := (Kp c).bind fun d => (ix a.Segments (b : Int)).bind fun e => if (d != e.2.Capacity) = true then some ((.inr (14))) else some (.inl ())
def Qk.J1 (a : Network) (b : List (List Piece)) (e : Unit) : Option Int := (forL (Qk.B3 a) 0 b ()).bind fun c => Sum.elim (fun f => Qk.J2 ()) (fun d => some d) c
def Qk.B4 (c : Nat) (a : List Piece) (d : Unit) : Option (Unit ⊕ (Int)) := (K1 a).bind fun b => if (!b) = true then some ((.inr (9))) else some (.inl ())
def Qk (a : Network) (b : List (List Piece)) : Option Int := (Gr a).bind fun c => if (c != 0) = true then some c else if ((b.length : Int) != (a.Segments.length : Int)) = true then some 9 else (forL Qk.B4 0 b ()).bind fun d => Sum.elim (fun f => Qk.J1 a b ()) (fun e => some e) d
def V4 (a : Network) (b : Plan) : Option (Li × Int) := (Kq a b).bind fun c => if (c != 0) = true then some ([], c) else (H3 a b).bind fun d => some (d, 0)
def P8.J3 (a : (List Bool) × (List Bounds) × (List (List Level))) : Option (Pressures × Int) := some ((⟨a.1, a.2.1, a.2.2⟩ : Pressures), 0)
def P8.J5 (a : (List Bool) × (List Bounds) × (List (List Level))) : Option ((List Bool) × (List Bounds) × (List (List Level))) := some (a.1, a.2.1, a.2.2)
def P8.J11 (a : List (List Level)) : Option (List (List Level)) := some a
def P8.B10 (f : List Batch) (g : List Product) (h : List (List Piece)) (i : Plan) (j : Nat × Int) (d : Int × Int) (b : Nat) (e : Segment) (a : List (List Level)) : Option (List (List Level)) := (ix i.Rates (b : Int)).bind fun c => if (c.2 == 0) = true then P8.J11 a else if (((Fg e c.2).1) == j.2) = true then (ix h (b : Int)).bind fun k => (Hx e k.2 f g c.2 (⟨d.1, d.2⟩ : Bounds)).bind fun l => (ix a (b : Int)).bind fun m => P8.J11 (a.set m.1 l.1) else P8.J11 a
def P8.J9 (c : Network) (d : List Batch) (e : List Product) (f : List (List Piece)) (g : Plan) (a : (List Bool) × (List Bounds) × (List (List Level))) (h : Nat × Int) (b : Int × Int) (i : Nat × Bool) (j : Nat × Bounds) (k : Int × Int) : Option ((List Bool) × (List Bounds) × (List (List Level))) := (forS (P8.B10 d e f g h k) 0 c.Segments a.2.2).bind fun l => P8.J5 ((a.1.set i.1 true), (a.2.1.set j.1 (⟨b.1, b.2⟩ : Bounds)), l)
def P8.J13 (a : Int × Int) : Option (Int × Int) := some (a.1, a.2)
def P8.J14 (c : Network) (d : Plan) (e : Nat × Int) (f : Station) (a : Int × Int) (g : Bool) : Option (Int × Int) := if g = true then (M2 c d e.2).bind fun h => (Vq f (⟨a.1, a.2⟩ : Bounds) h).bind fun b => P8.J13 (b.1.Low, b.1.High) else P8.J13 (a.1, a.2)
def P8.B12 (d : Network) (a : Plan) (b : Nat × Int) (f : Nat) (c : Station) (e : Int × Int) : Option (Int × Int) := if (c.Node == b.2) = true then (ix a.Pumps (f : Int)).bind fun g => P8.J14 d a b c e g.2 else P8.J14 d a b c e false
def P8.J8 (b : Network) (g : List Batch) (h : List Product) (i : List (List Piece)) (e : Plan) (c : (List Bool) × (List Bounds) × (List (List Level))) (a : Nat × Int) (d : Int × Int) : Option ((List Bool) × (List Bounds) × (List (List Level))) := (ix c.1 a.2).bind fun j => (ix c.2.1 a.2).bind fun k => (forS (P8.B12 b e a) 0 b.Stations (d.1, d.2)).bind fun f => P8.J9 b g h i e c a d j k (f.1, f.2)
def P8.B15 (c : List Bounds) (d : Nat) (a : Int × Int) : Option (Int × Int) := (ix c (d : Int)).bind fun b => some ((min a.1 b.2.Low), (min a.2 b.2.High))
def P8.J7 (e : Network) (f : List Batch) (g : List Product) (h : List (List Piece)) (i : Plan) (a : (List Bool) × (List Bounds) × (List (List Level))) (j : Nat × Int) (b : List Bounds) : Option ((List Bool) × (List Bounds) × (List (List Level))) := if ((b.length : Int) == 0) = true then P8.J5 (a.1, a.2.1, a.2.2) else (ix b 0).bind fun c => (forJ (P8.B15 b) 0 b.length (c.2.Low, c.2.High)).bind fun d => P8.J8 e f g h i a j (d.1, d.2)
def P8.J17 (a : List Bounds) : Option (List Bounds) := some a
def P8.J18 (b : List Bounds) (a : Int × Int × Int) : Option (List Bounds) := (Dy b ([(⟨a.2.1, a.2.2⟩ : Bounds)] : List Bounds)).bind fun c => P8.J17 c
def P8.B16 (g : Plan) (h : (List Bool) × (List Bounds) × (List (List Level))) (i : Nat × Int) (f : Nat) (j : Segment) (a : List Bounds) : Option (List Bounds) := (ix g.Rates (f : Int)).bind fun b => if (b.2 == 0) = true then P8.J17 a else if (((Fg j b.2).2) == i.2) = true then (ix h.2.2 (f : Int)).bind fun c => (ix c.2 (wr ((c.2.length : Int) - 1))).bind fun d => if decide (b.2 < 0) = true then (ix c.2 0).bind fun e => P8.J18 a (e.2.At, e.2.Bounds.Low, e.2.Bounds.High) else P8.J18 a (d.2.At, d.2.Bounds.Low, d.2.Bounds.High) else P8.J17 a
def P8.J6 (a : Network) (e : List Batch) (f : List Product) (g : List (List Piece)) (b : Plan) (c : (List Bool) × (List Bounds) × (List (List Level))) (d : Nat × Int) (h : List Bounds) : Option ((List Bool) × (List Bounds) × (List (List Level))) := (forS (P8.B16 b c d) 0 a.Segments h).bind fun i => P8.J7 a e f g b c d i
def P8.J20 (a : List Bounds) : Option (List Bounds) := some a
def P8.J21 (a : Port) (b : List Bounds) (c : Bool) : Option (List Bounds) := if c = true then (Dy b ([(⟨a.Pressure, a.Pressure⟩ : Bounds)] : List Bounds)).bind fun d => P8.J20 d else P8.J20 b
def P8.B19 (c : Plan) (d : Nat × Int) (e : Nat) (a : Port) (b : List Bounds) : Option (List Bounds) := if (a.Node == d.2) = true then (ix c.Ports (e : Int)).bind fun f => P8.J21 a b (decide (f.2 > 0)) else P8.J21 a b false
def P8.B4 (a : Network) (d : List Batch) (e : List Product) (f : List (List Piece)) (b : Plan) (g : Li × Int) (h : Nat) (i : (List Bool) × (List Bounds) × (List (List Level))) : Option ((List Bool) × (List Bounds) × (List (List Level))) := (ix g.1 (h : Int)).bind fun c => (forS (P8.B19 b c) 0 a.Ports []).bind fun j => P8.J6 a d e f b i c j
def P8.J2 (c : Network) (f : List Batch) (g : List Product) (h : List (List Piece)) (d : Plan) (a : (List Bool) × (List Bounds) × (List (List Level))) : Option (Pressures × Int) := (V4 c d).bind fun e => (forJ (P8.B4 c f g h d e) 0 e.1.length (a.1, a.2.1, a.2.2)).bind fun b => P8.J3 (b.1, b.2.1, b.2.2)
def P8.J1 (a : Network) (b : List Batch) (c : List Product) (d : List (List Piece)) (e : Plan) (i : Unit) : Option (Pressures × Int) := (So (a.Nodes.length : Int) false).bind fun f => (So (a.Nodes.length : Int) (⟨(0 : Int), (0 : Int)⟩ : Bounds)).bind fun g => (So (a.Segments.length : Int) ([] : List Level)).bind fun h => P8.J2 a b c d e (f, g, h)
def P8.B22 (a : List Batch) (b : List Product) (e : Nat) (c : List Piece) (f : Unit) : Option (Unit ⊕ ((Pressures × Int))) := (K5 c a b).bind fun d => if (!d) = true then some ((.inr (((⟨[], [], []⟩ : Pressures), 8)))) else some (.inl ())
def P8 (a : Network) (d : List Batch) (b : List Product) (c : List (List Piece)) (e : Plan) : Option (Pressures × Int) := (Kq a e).bind fun f => if (f != 0) = true then some ((⟨[], [], []⟩ : Pressures), f) else (Qk a c).bind fun g => if (g != 0) = true then some ((⟨[], [], []⟩ : Pressures), g) else (Nm b).bind fun h => if (h != 0) = true then some ((⟨[], [], []⟩ : Pressures), h) else (forL (P8.B22 d b) 0 c ()).bind fun i => Sum.elim (fun k => P8.J1 a d b c e ()) (fun j => some j) i
def Kw (a : Bounds) : Bool := (decide (a.Low < (-1152921504606846976)) || (decide (a.Low > 1152921504606846976) || (decide (a.High < (-1152921504606846976)) || decide (a.High > 1152921504606846976))))
def Nd.J4 (a : Unit) : Option Bool := some true
def Nd.J6 (a : Unit) : Option (Unit ⊕ (Bool)) := some (.inl ())
def Nd.J8 (a : Bool) : Option (Unit ⊕ (Bool)) := if a = true then some ((.inr (false))) else some (.inl ())
def Nd.B7 (b : Network) (c : Nat) (e : Nat) (a : Level) (f : Unit) : Option (Unit ⊕ (Bool)) := if (Kw a.Bounds) = true then Nd.J8 true else if decide (a.At < 0) = true then Nd.J8 true else (ix b.Segments (c : Int)).bind fun d => Nd.J8 (decide (a.At > d.2.Capacity))
def Nd.B5 (a : Network) (b : Nat) (c : List Level) (f : Unit) : Option (Unit ⊕ (Bool)) := (forL (Nd.B7 a b) 0 c ()).bind fun d => Sum.elim (fun g => Nd.J6 ()) (fun e => some ((.inr (e)))) d
def Nd.J3 (a : Network) (b : Pressures) (e : Unit) : Option Bool := (forL (Nd.B5 a) 0 b.Segments ()).bind fun c => Sum.elim (fun f => Nd.J4 ()) (fun d => some d) c
def Nd.B9 (b : Nat) (a : Bounds) (c : Unit) : Option (Unit ⊕ (Bool)) := if (Kw a) = true then some ((.inr (false))) else some (.inl ())
def Nd.J2 (b : Network) (a : Pressures) (e : Unit) : Option Bool := (forL Nd.B9 0 a.Nodes ()).bind fun c => Sum.elim (fun f => Nd.J3 b a ()) (fun d => some d) c
def Nd.B10 (b : Nat) (a : Int) (c : Unit) : Option (Unit ⊕ (Bool)) := if (decide (a < 0) || decide (a > 1125899906842624)) = true then some ((.inr (false))) else some (.inl ())
def Nd.J1 (a : Network) (b : Pressures) (c : Li) (d : Bool) : Option Bool := if d = true then some false else (forL Nd.B10 0 c ()).bind fun e => Sum.elim (fun g => Nd.J2 a b ()) (fun f => some f) e
def Nd (a : Network) (b : Pressures) (d : Plan) (c : Li) : Option Bool := (Gr a).bind fun e => if (e != 0) = true then Nd.J1 a b c true else if ((d.Pumps.length : Int) != (a.Stations.length : Int)) = true then Nd.J1 a b c true else if ((b.Known.length : Int) != (a.Nodes.length : Int)) = true then Nd.J1 a b c true else if ((b.Nodes.length : Int) != (a.Nodes.length : Int)) = true then Nd.J1 a b c true else if ((b.Segments.length : Int) != (a.Segments.length : Int)) = true then Nd.J1 a b c true else Nd.J1 a b c ((c.length : Int) != (a.Segments.length : Int))
def Vj.J2 (a : Unit) : Option (Fault × Bool) := some ((⟨0, 0, 0⟩ : Fault), false)
def Vj.J4 (a : Nat) (b : Bool) : Option (Unit ⊕ ((Fault × Bool))) := if b = true then some ((.inr (((⟨3, (a : Int), 0⟩ : Fault), true)))) else some (.inl ())
def Vj.B3 (c : Pressures) (d : Plan) (a : Nat) (b : Station) (h : Unit) : Option (Unit ⊕ ((Fault × Bool))) := (ix d.Pumps (a : Int)).bind fun e => if e.2 = true then (ix c.Known b.Node).bind fun f => if f.2 = true then (ix c.Nodes b.Node).bind fun g => Vj.J4 a (decide (g.2.Low < b.Suction)) else Vj.J4 a false else Vj.J4 a false
def Vj.J1 (a : Network) (b : Pressures) (c : Plan) (f : Unit) : Option (Fault × Bool) := (forL (Vj.B3 b c) 0 a.Stations ()).bind fun d => Sum.elim (fun g => Vj.J2 ()) (fun e => some e) d
def Vj.J6 (a : Unit) : Option (Unit ⊕ ((Fault × Bool))) := some (.inl ())
def Vj.B7 (d : Network) (e : Li) (b : Nat) (f : Segment) (h : Nat) (a : Level) (i : Unit) : Option (Unit ⊕ ((Fault × Bool))) := (ix e (b : Int)).bind fun c => (Nn f a.At).bind fun g => if decide ((wr (a.Bounds.High + c.2)) > g) = true then some ((.inr (((⟨1, (b : Int), a.At⟩ : Fault), true)))) else if decide ((wr (a.Bounds.Low - c.2)) < d.Vapour) = true then some ((.inr (((⟨2, (b : Int), a.At⟩ : Fault), true)))) else some (.inl ())
def Vj.B5 (b : Network) (c : Pressures) (d : Li) (a : Nat) (e : Segment) (i : Unit) : Option (Unit ⊕ ((Fault × Bool))) := (ix c.Segments (a : Int)).bind fun f => (forL (Vj.B7 b d a e) 0 f.2 ()).bind fun g => Sum.elim (fun j => Vj.J6 ()) (fun h => some ((.inr (h)))) g
def Vj (a : Network) (b : Pressures) (c : Plan) (d : Li) : Option (Fault × Bool) := (Nd a b c d).bind fun e => if (!e) = true then some ((⟨0, 0, 0⟩ : Fault), false) else (forL (Vj.B5 a b d) 0 a.Segments ()).bind fun f => Sum.elim (fun h => Vj.J1 a b c ()) (fun g => some g) f
def V2.J1 (a : Int × Int × Int × Bool) : Option (Fault × Int) := if a.2.2.2 = true then some ((⟨a.1, a.2.1, a.2.2.1⟩ : Fault), 15) else some ((⟨0, 0, 0⟩ : Fault), 0)
def V2 (b : Network) (e : List Batch) (f : List Product) (g : List (List Piece)) (d : Plan) : Option (Fault × Int) := (P8 b e f g d).bind fun c => if (c.2 != 0) = true then some ((⟨0, 0, 0⟩ : Fault), c.2) else (So (b.Segments.length : Int) (0 : Int)).bind fun h => (Vj b c.1 d h).bind fun a => V2.J1 (a.1.Kind, a.1.Index, a.1.At, a.2)
def Qb.J1 (a : Li × Int × (List Change)) : Option ((List Change) × KS) := some (a.2.2, (⟨a.1, a.2.1⟩ : KS))
def Qb.B2 (e : Network) (a : Li × Int × (List Change) × Int × Int) : Option ((Li × Int × (List Change) × Int × Int) ⊕ ((Li × Int × (List Change)))) := if decide (a.2.2.2.2 > 0) = true then (Ql (⟨a.1, a.2.1⟩ : KS) e).bind fun c => (Dy a.2.2.1 ([(⟨a.2.2.2.1, c.1⟩ : Change)] : List Change)).bind fun f => (Ej c.2 ([1, 6, 200] : Li)).bind fun d => (E7 d.2 1 d.1).bind fun b => some (.inl (b.2.L_, b.2.At, f, wr (a.2.2.2.1 + b.1), wr (a.2.2.2.2 - 1))) else some ((.inr ((a.1, a.2.1, a.2.2.1))))
def Qb (b : KS) (c : Network) : Option ((List Change) × KS) := (E7 b 1 4).bind fun a => (Da (Qb.B2 c) Eh (a.2.L_, a.2.At, [], 0, a.1)).bind fun d => Qb.J1 d
def Vw.J2 (b : Unit) : Option Bool := (Zy).bind fun a => some a
def Vw.J4 (a : Fault × Int) (b : Int) : Option (Unit ⊕ (Bool)) := if ((a.2 == 0) && (b != 0)) = true then some ((.inr (false))) else some (.inl ())
def Vw.B3 (a : Network × KS) (b : (List Product) × KS) (c : (List (List Piece)) × KS) (d : (List Batch) × KS) (e : Fault × Int) (h : Nat) (f : Change) (i : Unit) : Option (Unit ⊕ (Bool)) := (V2 a.1 d.1 b.1 c.1 f.Plan).bind fun g => Vw.J4 e g.2
def Vw.J1 (i : Int) (c : Network × KS) (e : (List Product) × KS) (f : (List (List Piece)) × KS) (g : (List Batch) × KS) (h : (List Change) × KS) (a : Fault × Int) (d : Int) : Option Bool := (Kz (⟨c.1.Nodes, c.1.Segments, c.1.Ports, c.1.Stations, c.1.Vapour, (min 100 (wr (c.1.Settle + (wr (i)))))⟩ : Network) g.1 e.1 f.1 h.1).bind fun b => if (bif (a.2 != 0) then ((a.2 != 15) || (bif (d != 0) then ((d != 15) || (bif (b.2 != 0) then ((b.2 != 15) || ((a.2 == 0) || ((b.2 == 0) && (a.2 != 0)))) else ((a.2 == 0) || ((b.2 == 0) && (a.2 != 0))))) else (bif (b.2 != 0) then ((b.2 != 15) || (bif (a.2 == 0) then ((b.2 == 0) && (a.2 != 0)) else ((b.2 == 0) && (a.2 != 0)))) else (bif (a.2 == 0) then ((b.2 == 0) && (a.2 != 0)) else ((b.2 == 0) && (a.2 != 0)))))) else (bif (d != 0) then ((d != 15) || (bif (b.2 != 0) then ((b.2 != 15) || ((a.2 == 0) || ((b.2 == 0) && (a.2 != 0)))) else ((a.2 == 0) || ((b.2 == 0) && (a.2 != 0))))) else (bif (b.2 != 0) then ((b.2 != 15) || (bif (a.2 == 0) then ((b.2 == 0) && (a.2 != 0)) else ((b.2 == 0) && (a.2 != 0)))) else (bif (a.2 == 0) then ((b.2 == 0) && (a.2 != 0)) else ((b.2 == 0) && (a.2 != 0)))))) = true then some false else (forL (Vw.B3 c e f g a) 0 h.1 ()).bind fun j => Sum.elim (fun l => Vw.J2 ()) (fun k => some k) j
def Vw (f : Li) (g : Int) (h : Int) : Option Bool := (V1 f).bind fun i => (V6 i).bind fun a => (Qq a.2).bind fun b => (Qy b.2 a.1 4).bind fun c => (Qm c.2 4 (b.1.length : Int)).bind fun d => (Qb d.2 a.1).bind fun e => (Uy (wr (g)) (e.1.length : Int)).bind fun j => (Kz a.1 d.1 b.1 c.1 e.1).bind fun k => (Zh e.1 0 (wr (1 + j))).bind fun l => (Kz a.1 d.1 b.1 c.1 l).bind fun m => Vw.J1 h a b c d e k m.2
abbrev Nw := Network
abbrev Sg := Segment
abbrev Sn := Station
abbrev Bt := ByteArray
abbrev U0 := fun (v : Value) l => Ob.us v 3 1 (List.map rI l)
abbrev U1 := fun (v : Value) l => Ob.us v 4 1 (List.map rB l)
abbrev U2 := fun (v : Value) l => Ob.us v 129 2 (List.map Aq l)
abbrev U3 := fun (v : Value) l => Ob.us v 9 1 (List.map rS l)
abbrev U4 := fun (v : Value) l => Ob.us v 72 5 (List.map Bw l)
abbrev U5 := fun (v : Value) l => Ob.us v 131 3 (List.map Ao l)
abbrev U6 := fun (v : Value) l => Ob.us v 77 4 (List.map D7 l)
abbrev U7 := fun (v : Value) l => Ob.us v 64 7 (List.map Ak l)
abbrev U8 := fun (v : Value) l => Ob.us v 202 8 (List.map C3 l)
abbrev U9 := fun (v : Value) l => Ob.us v 105 2 (List.map A4 l)
abbrev qP := fun (v : Value) l => Ob.us v 84 3 (List.map A9 l)
abbrev rC := fun (v : Value) l => Ob.us v 68 3 (List.map Cc l)
abbrev rA := fun (v : Value) l => Ob.us v 70 5 (List.map Ba l)
abbrev tD := fun (v : Value) l => Ob.us v 102 3 (List.map Bj l)
abbrev Q0 := fun l => T.list 1 (List.map rI l)
abbrev Q1 := fun l => T.list 1 (List.map rS l)
abbrev Q2 := fun l => T.list 5 (List.map Bw l)
abbrev Q3 := fun l => T.list 4 (List.map D7 l)
abbrev Q4 := fun l => T.list 2 (List.map A4 l)
abbrev Q5 := fun l => T.list 7 (List.map Ak l)
abbrev Q6 := fun l => T.list 3 (List.map Cc l)
abbrev Q7 := fun l => T.list 5 (List.map Ba l)
abbrev Q8 := fun l => T.list 4 (List.map C1 l)
abbrev Q9 := fun l => T.list 1 (List.map rB l)
abbrev sM := fun l => T.list 3 (List.map Ao l)
abbrev sP := fun l => T.list 3 (List.map Bj l)
abbrev tG := fun l => T.list 2 (List.map Aq l)
abbrev O0 := fun (b : Nat) e => Ob.arr b 30 6 1 e
abbrev O1 := fun (b : Nat) e => Ob.arr b 48 3 1 e
abbrev O2 := fun (b : Nat) e => Ob.arr b 58 2 1 e
abbrev O3 := fun (b : Nat) e => Ob.arr b 84 3 1 e
abbrev O4 := fun (b : Nat) e => Ob.arr b 124 15 1 e
abbrev O5 := fun (b : Nat) e => Ob.arr b 64 7 1 e
abbrev O6 := fun (b : Nat) e => Ob.arr b 41 3 1 e
abbrev O7 := fun (b : Nat) e => Ob.arr b 147 4 1 e
abbrev O8 := fun (b : Nat) e => Ob.arr b 129 2 1 e
abbrev O9 := fun (b : Nat) e => Ob.arr b 209 24 1 e
abbrev Zf := fun (b : Nat) e => Ob.arr b 113 48 1 e
abbrev W0 : List T := [.N, .N, .N]
abbrev W1 : List T := [.V 0, .V 0, .V 0]
abbrev W2 : List T := [.v (.string ⟨#[]⟩), .V 0, .V 0, .V 0, .V 0, .V 0, .N]
abbrev W3 : List T := [.N, .N, .N, .N, .V 0, .V 0]
abbrev W4 : List T := [.N, .N, .N, .N]
abbrev W5 : List T := [.v (.string ⟨#[]⟩), .V 0, .V 0, .V 0, .V 0]
abbrev W6 : List T := [.v (.string ⟨#[]⟩), .V 0, .V 0]
abbrev W9 : List T := [.V 0, .V 0, .V 0, .v (.string ⟨#[]⟩), .V 0, .V 0, .V 0, .V 0]
end Go.Proofs.YtodeekicjiengaaGreatDoor
