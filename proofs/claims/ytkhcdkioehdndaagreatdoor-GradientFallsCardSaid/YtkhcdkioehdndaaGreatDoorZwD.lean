/- Tables and pure functions. No condition. -/
import Derived.Test.YtkhcdkioehdndaaGreatDoorZwB2
import Derived.Test.YtkhcdkioehdndaaGreatDoorRows
import Derived.KernelRfl
import Derived.Shelf.Sort.Plain
import Derived.Shelf.Slices.CompactI
import Derived.Sort.OwnSortedInts
import Derived.Test.YtkhcdkioehdndaaGreatDoorProg
set_option maxRecDepth 100000
namespace Go.Aw
set_option linter.unusedVariables false
set_option linter.unusedSimpArgs false
inductive TT where
 | nil
 | node (l : TT) (k : Nat) (x : TI) (r : TT)
def Je : TT → Nat → Option TI
 | .nil, _ => none
 | .node l k x r, i => bif Nat.beq k i then some x else bif Nat.ble k i then Je r i else Je l i
def Qe (P : Program) : TT → Prop
 | .nil => True
 | .node l k x r => Qe P l ∧ Fw P k = some x ∧ Qe P r
theorem Kr {P : Program} : ∀ {t : TT} {i : Nat} {x : TI}, Qe P t → Je t i = some x → Fw P i = some x
 | .nil, _, _, _, h => by simp [Je] at h
 | .node l k y r, i, x, ha, h => by
  simp only [Je] at h
  cases hb : Nat.beq k i with
  | true =>
   have := nq hb
   simp only [hb, cond_true, Option.some.injEq] at h
   subst h this; exact ha.2.1
  | false =>
   simp only [hb, cond_false] at h
   cases hc : Nat.ble k i with
   | true => simp only [hc, cond_true] at h; exact Kr ha.2.2 h
   | false => simp only [hc, cond_false] at h; exact Kr ha.1 h
abbrev zI : Value := .int .i64 0
abbrev zN : Value := .slice none 0 0
abbrev zT (k : Nat) : TI := { kind := .slice k, size := 1, bytes := 24, zero := some zN }
abbrev zS (f : List (Nat × Nat)) (s b : Nat) (z : Array Value) : TI := { kind := .struct f, size := s, bytes := b, zero := some (.agg z) }
abbrev zA (n t s b : Nat) (z : Array Value) : TI := { kind := .array n t, size := s, bytes := b, zero := some (.agg z) }
end Go.Aw
namespace Go.Proofs.YtkhcdkioehdndaaGreatDoor
open Go.Aw
abbrev X6 : TI := { kind := .int .i64, size := 1, bytes := 8, zero := some (.int .i64 0) }
abbrev X5 : TI := { kind := .bool, size := 1, bytes := 1, zero := some (.bool false) }
abbrev X4 : TI := { kind := .int .u8, size := 1, bytes := 1, zero := some (.int .u8 0) }
abbrev X3 : TI := { kind := .string, size := 1, bytes := 16, zero := some (.string ⟨#[]⟩) }
abbrev Wf : TI := zT 3
abbrev We : TI := { kind := .int .u16, size := 1, bytes := 2, zero := some (.int .u16 0) }
abbrev Wd : TI := zT 35
abbrev Wc : TI := zS [(0, 9), (1, 3), (2, 3), (3, 3), (4, 3), (5, 3), (6, 26)] 7 80 #[.string ⟨#[]⟩, zI, zI, zI, zI, zI, zN]
abbrev Wb : TI := zT 88
abbrev Wa : TI := zT 103
abbrev V9 : TI := zT 49
abbrev V8 : TI := zS [(0, 3), (1, 3), (2, 3)] 3 24 #[zI, zI, zI]
abbrev V7 : TI := zS [(0, 3), (1, 3)] 2 16 #[zI, zI]
abbrev V6 : TI := zT 43
abbrev V5 : TI := { kind := .int .i64, size := 1, bytes := 8, zero := some (.int .i64 0) }
abbrev V4 : TI := zS [(0, 3), (1, 37)] 3 24 #[zI, zI, zI]
abbrev V3 : TI := zS [(0, 9), (1, 3), (2, 3), (3, 3), (4, 3)] 5 48 #[.string ⟨#[]⟩, zI, zI, zI, zI]
abbrev V2 : TI := zT 28
abbrev V1 : TI := zT 29
abbrev V0 : TI := zT 37
abbrev Vz : TI := zT 38
abbrev Vy : TI := zS [(0, 22), (1, 3)] 2 32 #[zN, zI]
abbrev Vx : TI := zT 82
abbrev Vw : TI := zS [(0, 3), (1, 3), (2, 3), (3, 49)] 8 72 #[zI, zI, zI, .string ⟨#[]⟩, zI, zI, zI, zI]
abbrev Vv : TI := zS [(0, 3), (1, 3)] 2 16 #[zI, zI]
abbrev Vu : TI := zT 9
abbrev R9 : TI := zS [(0, 3), (1, 9), (2, 3), (3, 3)] 4 40 #[zI, .string ⟨#[]⟩, zI, zI]
abbrev R8 : TI := zT 142
abbrev R7 : TI := zT 140
abbrev R6 : TI := zS [(0, 91), (1, 51), (2, 112), (3, 113), (4, 3), (5, 3)] 6 112 #[zN, zN, zN, zN, zI, zI]
abbrev R5 : TI := zT 5
abbrev R4 : TI := zA 4 3 4 32 #[zI, zI, zI, zI]
abbrev R3 : TI := zS [(0, 3), (1, 3)] 2 16 #[zI, zI]
abbrev R2 : TI := zA 4 122 8 64 #[zI, zI, zI, zI, zI, zI, zI, zI]
abbrev R1 : TI := { kind := .int .u64, size := 1, bytes := 8, zero := some (.int .u64 0) }
abbrev R0 : TI := zA 4 91 4 96 #[zN, zN, zN, zN]
abbrev Rz : TI := zS [(0, 9), (1, 3), (2, 3), (3, 3), (4, 3)] 5 48 #[.string ⟨#[]⟩, zI, zI, zI, zI]
abbrev Ry : TI := zS [(0, 9), (1, 3), (2, 3)] 3 32 #[.string ⟨#[]⟩, zI, zI]
abbrev Rx : TI := { kind := .int .i64, size := 1, bytes := 8, zero := some (.int .i64 0) }
abbrev Rw : TI := { kind := .int .u32, size := 1, bytes := 4, zero := some (.int .u32 0) }
abbrev Rv : TI := { kind := .int .u64, size := 1, bytes := 8, zero := some (.int .u64 0) }
abbrev Ru : TI := { kind := .int .u64, size := 1, bytes := 8, zero := some (.int .u64 0) }
def In : TT := (.node (.node (.node (.node (.node (.node .nil 3 X6 .nil) 4 X5 .nil) 5 X4 (.node (.node .nil 9 X3 .nil) 22 Wf .nil)) 23 We (.node (.node (.node .nil 26 Wd .nil) 28 Wc .nil) 29 Wb (.node .nil 30 Wa .nil))) 31 V9 (.node (.node (.node (.node .nil 35 V8 .nil) 37 V7 .nil) 38 V6 (.node (.node .nil 39 V5 .nil) 43 V4 .nil)) 49 V3 (.node (.node (.node .nil 51 V2 .nil) 53 V1 .nil) 59 V0 (.node .nil 61 Vz .nil)))) 66 Vy (.node (.node (.node (.node (.node .nil 76 Vx .nil) 82 Vw .nil) 88 Vv (.node (.node .nil 91 Vu .nil) 103 R9 .nil)) 112 R8 (.node (.node (.node .nil 113 R7 .nil) 115 R6 .nil) 117 R5 (.node .nil 119 R4 .nil))) 122 R3 (.node (.node (.node (.node .nil 123 R2 .nil) 128 R1 .nil) 134 R0 (.node .nil 140 Rz .nil)) 142 Ry (.node (.node (.node .nil 145 Rx .nil) 153 Rw .nil) 155 Rv (.node .nil 165 Ru .nil)))))
theorem Ox : Qe Tryz.prog In :=
 ⟨⟨⟨⟨⟨⟨trivial, by kernel_rfl, trivial⟩, by kernel_rfl, trivial⟩, by kernel_rfl, ⟨⟨trivial, by kernel_rfl, trivial⟩, by kernel_rfl, trivial⟩⟩, by kernel_rfl, ⟨⟨⟨trivial, by kernel_rfl, trivial⟩, by kernel_rfl, trivial⟩, by kernel_rfl, ⟨trivial, by kernel_rfl, trivial⟩⟩⟩, by kernel_rfl, ⟨⟨⟨⟨trivial, by kernel_rfl, trivial⟩, by kernel_rfl, trivial⟩, by kernel_rfl, ⟨⟨trivial, by kernel_rfl, trivial⟩, by kernel_rfl, trivial⟩⟩, by kernel_rfl, ⟨⟨⟨trivial, by kernel_rfl, trivial⟩, by kernel_rfl, trivial⟩, by kernel_rfl, ⟨trivial, by kernel_rfl, trivial⟩⟩⟩⟩, by kernel_rfl, ⟨⟨⟨⟨⟨trivial, by kernel_rfl, trivial⟩, by kernel_rfl, trivial⟩, by kernel_rfl, ⟨⟨trivial, by kernel_rfl, trivial⟩, by kernel_rfl, trivial⟩⟩, by kernel_rfl, ⟨⟨⟨trivial, by kernel_rfl, trivial⟩, by kernel_rfl, trivial⟩, by kernel_rfl, ⟨trivial, by kernel_rfl, trivial⟩⟩⟩, by kernel_rfl, ⟨⟨⟨⟨trivial, by kernel_rfl, trivial⟩, by kernel_rfl, trivial⟩, by kernel_rfl, ⟨trivial, by kernel_rfl, trivial⟩⟩, by kernel_rfl, ⟨⟨⟨trivial, by kernel_rfl, trivial⟩, by kernel_rfl, trivial⟩, by kernel_rfl, ⟨trivial, by kernel_rfl, trivial⟩⟩⟩⟩⟩
theorem P0 : Tryz.prog.follows .mixedOrders = true := by kernel_rfl
theorem Pz (t : Nat) (i : TI) (h : Je In t = some i) : Fw Tryz.prog t = some i := Kr Ox h
noncomputable def Ae : Env := ⟨Tryz.prog, Je In, Pz, P0⟩
theorem K5 : Bld Ae 28 [(0, 1), (1, 1), (2, 1), (3, 1), (4, 1), (5, 1), (6, 1)] [.v (.string ⟨#[]⟩), .V 0, .V 0, .V 0, .V 0, .V 0, .N] := ⟨⟨_, _, _, I7⟩⟩
theorem D2 : Bld Ae 35 [(0, 1), (1, 1), (2, 1)] [.V 0, .V 0, .V 0] := ⟨⟨_, _, _, I7⟩⟩
theorem Cr : Bld Ae 37 [(0, 1), (1, 1)] [.V 0, .V 0] := ⟨⟨_, _, _, I7⟩⟩
theorem C4 : Bld Ae 43 [(0, 1), (1, 2)] [.V 0, .V 0, .V 0] := ⟨⟨_, _, _, I7⟩⟩
theorem K4 : Bld Ae 49 [(0, 1), (1, 1), (2, 1), (3, 1), (4, 1)] [.v (.string ⟨#[]⟩), .V 0, .V 0, .V 0, .V 0] := ⟨⟨_, _, _, I7⟩⟩
theorem P2 : Bld Ae 66 [(0, 1), (1, 1)] [.N, .V 0] := ⟨⟨_, _, _, I7⟩⟩
theorem P1 : Bld Ae 82 [(0, 1), (1, 1), (2, 1), (3, 5)] [.V 0, .V 0, .V 0, .v (.string ⟨#[]⟩), .V 0, .V 0, .V 0, .V 0] := ⟨⟨_, _, _, I7⟩⟩
theorem K3 : Bld Ae 88 [(0, 1), (1, 1)] [.V 0, .V 0] := ⟨⟨_, _, _, I7⟩⟩
theorem Oz : Bld Ae 103 [(0, 1), (1, 1), (2, 1), (3, 1)] [.V 0, .v (.string ⟨#[]⟩), .V 0, .V 0] := ⟨⟨_, _, _, I7⟩⟩
theorem Oy : Bld Ae 115 [(0, 1), (1, 1), (2, 1), (3, 1), (4, 1), (5, 1)] [.N, .N, .N, .N, .V 0, .V 0] := ⟨⟨_, _, _, I7⟩⟩
theorem Sb : Nk Tryz.prog 37 = true := by kernel_rfl
theorem Sa : Nk Tryz.prog 43 = true := by kernel_rfl
set_option linter.unusedVariables false
set_option linter.unusedSimpArgs false
structure Point where
 At : Int
 Height : Int
 Limit : Int
 deriving DecidableEq
def A2 (x : Point) : List T := [.V x.At, .V x.Height, .V x.Limit]
structure Segment where
 Name : ByteArray
 From : Int
 To : Int
 Capacity : Int
 Resist : Int
 Wave : Int
 Points : List Point
 deriving DecidableEq
def Ai (x : Segment) : List T := [.v (.string x.Name), .V x.From, .V x.To, .V x.Capacity, .V x.Resist, .V x.Wave, .list 3 (x.Points.map A2)]
structure Port where
 Name : ByteArray
 Node : Int
 Pressure : Int
 deriving DecidableEq
def Cu (x : Port) : List T := [.v (.string x.Name), .V x.Node, .V x.Pressure]
structure Station where
 Name : ByteArray
 Node : Int
 Head : Int
 Fall : Int
 Suction : Int
 deriving DecidableEq
def A7 (x : Station) : List T := [.v (.string x.Name), .V x.Node, .V x.Head, .V x.Fall, .V x.Suction]
structure Network where
 Nodes : List ByteArray
 Segments : List Segment
 Ports : List Port
 Stations : List Station
 Vapour : Int
 Settle : Int
 deriving DecidableEq
def Ap (x : Network) : List T := [.list 1 (x.Nodes.map rS), .list 7 (x.Segments.map Ai), .list 3 (x.Ports.map Cu), .list 5 (x.Stations.map A7), .V x.Vapour, .V x.Settle]
structure KS where
 L_ : Li
 At : Int
 deriving DecidableEq
def Bb (x : KS) : List T := [.list 1 (x.L_.map rI), .V x.At]
def Bf (a : Int) (b : Int) (c : Int) : Bool := (decide (a ≥ b) && decide (a ≤ c))
def H5.J1 (a : Unit) : Option Int := some (-1)
def H5.B2 (a : ByteArray) (b : Nat) (c : ByteArray) (d : Unit) : Option (Unit ⊕ (Int)) := if O6 a c = true then some ((.inr ((b : Int)))) else some (.inl ())
def H5 (a : List ByteArray) (b : ByteArray) : Option Int := (forL (H5.B2 b) 0 a ()).bind fun c => Sum.elim (fun e => H5.J1 ()) (fun d => some d) c
def Kc.J1 (a : Unit) : Option Int := some (-1)
def Kc.B2 (a : Int → Option Bool) (b : Nat) (c : Int) (e : Unit) : Option (Unit ⊕ (Int)) := (a c).bind fun d => if d = true then some ((.inr ((b : Int)))) else some (.inl ())
def Kc (a : Li) (b : Int → Option Bool) : Option Int := (forL (Kc.B2 b) 0 a ()).bind fun c => Sum.elim (fun e => Kc.J1 ()) (fun d => some d) c
def Jl (a : Li) (b : Int → Option Bool) : Option Bool := (Kc a b).bind fun c => some (decide (c ≥ 0))
def Jq.J1 (a : Unit) : Option Int := some (-1)
def Jq.B2 (a : ByteArray → Option Bool) (b : Nat) (c : ByteArray) (e : Unit) : Option (Unit ⊕ (Int)) := (a c).bind fun d => if d = true then some ((.inr ((b : Int)))) else some (.inl ())
def Jq (a : List ByteArray) (b : ByteArray → Option Bool) : Option Int := (forL (Jq.B2 b) 0 a ()).bind fun c => Sum.elim (fun e => Jq.J1 ()) (fun d => some d) c
def Ju (a : List ByteArray) (b : ByteArray → Option Bool) : Option Bool := (Jq a b).bind fun c => some (decide (c ≥ 0))
def Kb.J1 (a : Unit) : Option Int := some (-1)
def Kb.B2 (a : Segment → Option Bool) (b : Nat) (c : Segment) (e : Unit) : Option (Unit ⊕ (Int)) := (a c).bind fun d => if d = true then some ((.inr ((b : Int)))) else some (.inl ())
def Kb (a : List Segment) (b : Segment → Option Bool) : Option Int := (forL (Kb.B2 b) 0 a ()).bind fun c => Sum.elim (fun e => Kb.J1 ()) (fun d => some d) c
def H3 (a : List Segment) (b : Segment → Option Bool) : Option Bool := (Kb a b).bind fun c => some (decide (c ≥ 0))
def Js.J1 (a : Unit) : Option Int := some (-1)
def Js.B2 (a : Port → Option Bool) (b : Nat) (c : Port) (e : Unit) : Option (Unit ⊕ (Int)) := (a c).bind fun d => if d = true then some ((.inr ((b : Int)))) else some (.inl ())
def Js (a : List Port) (b : Port → Option Bool) : Option Int := (forL (Js.B2 b) 0 a ()).bind fun c => Sum.elim (fun e => Js.J1 ()) (fun d => some d) c
def J0 (a : List Port) (b : Port → Option Bool) : Option Bool := (Js a b).bind fun c => some (decide (c ≥ 0))
def Hx.J1 (a : Unit) : Option Int := some (-1)
def Hx.B2 (a : Station → Option Bool) (b : Nat) (c : Station) (e : Unit) : Option (Unit ⊕ (Int)) := (a c).bind fun d => if d = true then some ((.inr ((b : Int)))) else some (.inl ())
def Hx (a : List Station) (b : Station → Option Bool) : Option Int := (forL (Hx.B2 b) 0 a ()).bind fun c => Sum.elim (fun e => Hx.J1 ()) (fun d => some d) c
def Jn (a : List Station) (b : Station → Option Bool) : Option Bool := (Hx a b).bind fun c => some (decide (c ≥ 0))
def Hw (a : Segment) : Bool := (decide ((a.Points.length : Int) < 2) || decide ((a.Points.length : Int) > 8))
def Mq (a : Network) : Option Bool := if (decide ((a.Nodes.length : Int) < 1) || (decide ((a.Nodes.length : Int) > 24) || (decide ((a.Segments.length : Int) > 32) || (decide ((a.Ports.length : Int) > 24) || decide ((a.Stations.length : Int) > 12))))) = true then some false else (H3 a.Segments (fun x => some (Hw x))).bind fun b => some (!b)
def Jx.J1 (a : Unit) : Int := 2
def Jx (a : Int) : Int := if (decide (a ≥ 97) && decide (a ≤ 122)) = true then 1 else if (decide (a ≥ 48) && decide (a ≤ 57)) = true then Jx.J1 () else if (a == 45) = true then Jx.J1 () else 0
def Gq.J2 (a : Unit) : Option Bool := some true
def Gq.B3 (a : ByteArray) (b : Nat) (d : Unit) : Option (Unit ⊕ (Bool)) := (Zi a (b : Int)).bind fun c => if ((Jx c.2) == 0) = true then some ((.inr (false))) else some (.inl ())
def Gq.J1 (a : ByteArray) (b : Bool) : Option Bool := if b = true then some false else (Zl ((a.size : Int) ≤ 9223372036854775806)).bind fun e => (forI (Gq.B3 a) 0 ((a.size : Int).toNat) ()).bind fun c => Sum.elim (fun f => Gq.J2 ()) (fun d => some d) c
def Gq (a : ByteArray) : Option Bool := if decide ((a.size : Int) < 1) = true then Gq.J1 a true else if decide ((a.size : Int) > 12) = true then Gq.J1 a true else (Zi a 0).bind fun b => Gq.J1 a ((Jx b.2) != 1)
def Ic.J3 (a : Network) (b : List ByteArray) (c : List ByteArray) (d : List ByteArray) : Option (Arr (List ByteArray) 4) := some (⟨[a.Nodes, b, c, d], rfl⟩ : Arr (List ByteArray) 4)
def Ic.B4 (d : Nat) (a : Station) (b : List ByteArray) : Option (List ByteArray) := (Eg b ([a.Name] : List ByteArray)).bind fun c => some c
def Ic.J2 (a : Network) (b : List ByteArray) (c : List ByteArray) : Option (Arr (List ByteArray) 4) := (forS Ic.B4 0 a.Stations []).bind fun d => Ic.J3 a b c d
def Ic.B5 (d : Nat) (a : Port) (b : List ByteArray) : Option (List ByteArray) := (Eg b ([a.Name] : List ByteArray)).bind fun c => some c
def Ic.J1 (a : Network) (b : List ByteArray) : Option (Arr (List ByteArray) 4) := (forS Ic.B5 0 a.Ports []).bind fun c => Ic.J2 a b c
def Ic.B6 (d : Nat) (a : Segment) (b : List ByteArray) : Option (List ByteArray) := (Eg b ([a.Name] : List ByteArray)).bind fun c => some c
def Ic (a : Network) : Option (Arr (List ByteArray) 4) := (forS Ic.B6 0 a.Segments []).bind fun b => Ic.J1 a b
def Gj (a : Station) (b : Station) : Bool := (a.Node == b.Node)
def Mh.J2 (a : Unit) : Option Bool := some false
def Mh.B3 (a : Network) (b : Nat) (c : Station) (e : Unit) : Option (Unit ⊕ (Bool)) := (Hx a.Stations (fun x => some (Gj x c))).bind fun d => if decide (d < (b : Int)) = true then some ((.inr (true))) else some (.inl ())
def Mh.J1 (a : Network) (d : Unit) : Option Bool := (forL (Mh.B3 a) 0 a.Stations ()).bind fun b => Sum.elim (fun e => Mh.J2 ()) (fun c => some c) b
def Mh.J5 (a : Unit) : Option (Unit ⊕ (Bool)) := some (.inl ())
def Mh.B6 (a : Nat × (List ByteArray)) (b : Nat) (c : ByteArray) (e : Unit) : Option (Unit ⊕ (Bool)) := (H5 a.2 c).bind fun d => if decide (d < (b : Int)) = true then some ((.inr (true))) else some (.inl ())
def Mh.B4 (b : Arr (List ByteArray) 4) (c : Nat) (f : Unit) : Option (Unit ⊕ (Bool)) := (ix b.l (c : Int)).bind fun a => (forL (Mh.B6 a) 0 a.2 ()).bind fun d => Sum.elim (fun g => Mh.J5 ()) (fun e => some ((.inr (e)))) d
def Mh (a : Network) : Option Bool := (Ic a).bind fun b => (forI (Mh.B4 b) 0 4 ()).bind fun c => Sum.elim (fun e => Mh.J1 a ()) (fun d => some d) c
def Hy (a : Int) (b : Network) : Bool := (decide (a < 0) || decide (a ≥ (b.Nodes.length : Int)))
def Mx.J3 (a : Network) (b : Li) : Option Bool := (Jl b (fun x => some (Hy x a))).bind fun c => some (!c)
def Mx.B4 (d : Nat) (a : Station) (b : Li) : Option Li := (Eg b ([a.Node] : Li)).bind fun c => some c
def Mx.J2 (a : Network) (b : Li) : Option Bool := (forS Mx.B4 0 a.Stations b).bind fun c => Mx.J3 a c
def Mx.B5 (d : Nat) (a : Port) (b : Li) : Option Li := (Eg b ([a.Node] : Li)).bind fun c => some c
def Mx.J1 (a : Network) (b : Li) : Option Bool := (forS Mx.B5 0 a.Ports b).bind fun c => Mx.J2 a c
def Mx.B6 (d : Nat) (a : Segment) (b : Li) : Option Li := (Eg b ([a.From, a.To] : Li)).bind fun c => some c
def Mx (a : Network) : Option Bool := (forS Mx.B6 0 a.Segments []).bind fun b => Mx.J1 a b
def Ib.J2 (a : Bool) : Option Bool := some a
def Ib.J1 (a : Segment) (d : Unit) : Option Bool := (ix a.Points 0).bind fun b => if (b.2.At == 0) = true then (ix a.Points (wr ((a.Points.length : Int) - 1))).bind fun c => Ib.J2 (c.2.At == a.Capacity) else Ib.J2 false
def Ib.J4 (a : Bool) : Option (Unit ⊕ (Bool)) := if a = true then some ((.inr (false))) else some (.inl ())
def Ib.B3 (c : Segment) (b : Nat) (a : Point) (e : Unit) : Option (Unit ⊕ (Bool)) := if (!(Bf a.Height (-500) 5000)) = true then Ib.J4 true else if (!(Bf a.Limit 0 100000000)) = true then Ib.J4 true else if decide ((b : Int) > 0) = true then (ix c.Points (wr ((b : Int) - 1))).bind fun d => Ib.J4 (decide (a.At ≤ d.2.At)) else Ib.J4 false
def Ib (a : Segment) : Option Bool := if ((a.From == a.To) || ((!(Bf a.Capacity 1 1000000)) || ((!(Bf a.Resist 0 1000)) || (!(Bf a.Wave 0 100000))))) = true then some false else (forL (Ib.B3 a) 0 a.Points ()).bind fun b => Sum.elim (fun d => Ib.J1 a ()) (fun c => some c) b
def Mg (a : Segment) : Option Bool := (Ib a).bind fun b => some (!b)
def Hz (a : Port) : Bool := (!(Bf a.Pressure 0 100000000))
def Ia (a : Station) : Bool := ((!(Bf a.Head 0 100000000)) || ((!(Bf a.Fall 0 100000)) || (!(Bf a.Suction 0 100000000))))
def Pj (a : Network) : Option Bool := (H3 a.Segments (fun x => Mg x)).bind fun b => if b = true then some false else (J0 a.Ports (fun x => some (Hz x))).bind fun c => if c = true then some false else (Jn a.Stations (fun x => some (Ia x))).bind fun d => if d = true then some false else some ((Bf a.Vapour (-100000) 100000000) && (Bf a.Settle 0 100))
def Mn (a : ByteArray) : Option Bool := (Gq a).bind fun b => some (!b)
def H8.J1 (a : Network) (e : Unit) : Option Int := (Mh a).bind fun b => if b = true then some 7 else (Mx a).bind fun c => if (!c) = true then some 8 else (Pj a).bind fun d => if (!d) = true then some 9 else some 0
def H8.B2 (a : Arr (List ByteArray) 4) (b : Nat) (e : Unit) : Option (Unit ⊕ (Int)) := (ix a.l (b : Int)).bind fun c => (Ju c.2 (fun x => Mn x)).bind fun d => if d = true then some ((.inr (3))) else some (.inl ())
def H8 (a : Network) : Option Int := (Mq a).bind fun b => if (!b) = true then some 4 else (Ic a).bind fun c => (forI (H8.B2 c) 0 4 ()).bind fun d => Sum.elim (fun f => H8.J1 a ()) (fun e => some e) d
def Mt (a : Li) : Option KS := (Wo a 0 (min (a.length : Int) 2000)).bind fun b => some (⟨b, 0⟩ : KS)
def Mi (a : KS) : Option (Int × KS) := if decide (a.At ≥ (a.L_.length : Int)) = true then some (0, a) else (ix a.L_ (wr ((wr (a.At + 1)) - 1))).bind fun b => some (b.2, (⟨a.L_, wr (a.At + 1)⟩ : KS))
def My.J1 (a : Int) : Option Int := some a
def My (c : Int) (a : Int) : Option Int := if decide (a < 1) = true then some 0 else (Qw c a).bind fun b => if decide (b < 0) = true then My.J1 (wr (b + a)) else My.J1 b
def Et (b : KS) (c : Int) : Option (Int × KS) := (Mi b).bind fun a => (My a.1 c).bind fun d => some (d, a.2)
def H9 (a : ByteArray) (b : Int) : Option ByteArray := (Pd ([IntKind.u8.wrap (wr (97 + (b.tmod 26)))] : Li)).bind fun c => (Yj a c).bind fun d => some d
def Es (c : KS) (a : Li) : Option (Int × KS) := (Et c (a.length : Int)).bind fun b => (ix a b.1).bind fun d => some (d.2, b.2)
def E7 (c : KS) (a : Int) (d : Int) : Option (Int × KS) := (Et c (wr ((wr (d - a)) + 1))).bind fun b => some (wr (a + b.1), b.2)
def Jp.J2 (b : Li × Int × Int × Int) (e : ByteArray) (c : Int × KS) (f : Int × KS) (g : Int × KS) (h : Int × KS) (a : Li × Int × (List Point)) : Option (Segment × KS) := (E7 (⟨a.1, a.2.1⟩ : KS) (-5) 30).bind fun d => (Eg a.2.2 ([(⟨c.1, d.1, h.1⟩ : Point)] : List Point)).bind fun i => some ((⟨e, b.2.2.1, b.2.2.2, c.1, f.1, g.1, i⟩ : Segment), d.2)
def Jp.J4 (g : Int × KS) (h : Int × KS) (a : Li × Int × (List Point) × Int) (c : Li × Int × Bool) : Option ((Li × Int × (List Point) × Int) ⊕ ((Li × Int × (List Point)))) := if c.2.2 = true then (E7 (⟨c.1, c.2.1⟩ : KS) 1 40).bind fun b => if decide ((wr (a.2.2.2 + b.1)) ≥ g.1) = true then some ((.inr ((b.2.L_, b.2.At, a.2.2.1)))) else (E7 b.2 (-5) 60).bind fun e => (Es e.2 ([1, 1, 10] : Li)).bind fun f => (Et f.2 3).bind fun d => (Eg a.2.2.1 ([(⟨wr (a.2.2.2 + b.1), wr (e.1 * f.1), wr (h.1 - (wr (d.1 * 1000)))⟩ : Point)] : List Point)).bind fun i => some (.inl (d.2.L_, d.2.At, i, wr (a.2.2.2 + b.1))) else some ((.inr ((c.1, c.2.1, a.2.2.1))))
def Jp.B3 (c : Int × KS) (d : Int × KS) (a : Li × Int × (List Point) × Int) : Option ((Li × Int × (List Point) × Int) ⊕ ((Li × Int × (List Point)))) := if decide ((a.2.2.1.length : Int) < 7) = true then (Et (⟨a.1, a.2.1⟩ : KS) 3).bind fun b => Jp.J4 c d a (b.2.L_, b.2.At, decide (b.1 > 0)) else Jp.J4 c d a (a.1, a.2.1, false)
def Jp.J1 (g : Int) (b : Li × Int × Int × Int) : Option (Segment × KS) := (H9 (⟨#[103]⟩ : ByteArray) g).bind fun h => (Es (⟨b.1, b.2.1⟩ : KS) ([1, 2, 7, 20, 60, 200, 1000] : Li)).bind fun c => (Es c.2 ([0, 1, 5, 1000] : Li)).bind fun e => (Es e.2 ([0, 50, 1000, 100000] : Li)).bind fun f => (Es f.2 ([1000000, 6000000, 100000000] : Li)).bind fun a => (E7 a.2 (-5) 30).bind fun d => (Eg [] ([(⟨0, d.1, a.1⟩ : Point)] : List Point)).bind fun i => (C0 (Jp.B3 c a) Gh (d.2.L_, d.2.At, i, 0)).bind fun j => Jp.J2 b h c e f a j
def Jp (e : KS) (b : Int) (c : Int) (d : Int) : Option (Segment × KS) := (Et e 4).bind fun a => if (a.1 == 0) = true then Jp.J1 b (a.2.L_, a.2.At, d, c) else Jp.J1 b (a.2.L_, a.2.At, c, d)
end Go.Proofs.YtkhcdkioehdndaaGreatDoor
namespace Go.Aw
set_option linter.unusedVariables false
set_option linter.unusedSimpArgs false
open Go.Sort
theorem Mb {H H' : GH} {w w' : World} {b ty cap : Nat} {a ts es : Li} {cs : Array Value} (hb : w.heap[b]? = some (.cells cs ty (0, 0))) (hsz : cs.size = cap * 1) (hcap : a.length ≤ cap) (hmax : a.length ≤ Fl)
  (hl : ts.length = a.length) (hp : es.length ≤ ts.length) (hpre : ts.take es.length = es) (hb' : w'.heap[b]? = some (.cells (putCells (Value.int .i64) 0 ts.toArray cs) ty (0, 0))) : ArrR H' w' b ty 1 cap (es.map rI) := by
 refine ⟨_, hb', by simp [putCells, hsz], by simp; omega, by simp; omega, fun i e he => ?_, fun i e he j x hx => ?_⟩
 ·rw [List.getElem?_map] at he
  obtain ⟨n, _, rfl⟩ := Option.map_eq_some_iff.1 he
  rfl
 ·rw [List.getElem?_map] at he
  obtain ⟨n, hn, rfl⟩ := Option.map_eq_some_iff.1 he
  have hj : j = 0 := by have := (gs hx).1; simp [rI] at this; exact this
  subst hj
  simp [rI] at hx
  subst hx
  have hi := (gs hn).1
  have hti : ts[i]? = some n := by
   rw [← hpre, List.getElem?_take_of_lt hi] at hn; exact hn
  have hil := (gs hti).1
  have : (putCells (Value.int .i64) 0 ts.toArray cs).getD (i * 1 + 0) undef = .int .i64 n := by
   rw [Array.getD_eq_getD_getElem?]
   simp only [putCells, Array.getElem?_mapIdx, Nat.mul_one, Nat.add_zero]
   have hcs : i < cs.size := by omega
   rw [Array.getElem?_eq_getElem hcs]
   simp [hil]
   exact (gs hti).2
  rw [this]
  exact ⟨rfl, .v _⟩
theorem ArrR.held {H : GH} {w : World} {b ty cap : Nat} {a : Li} (h : ArrR H w b ty 1 cap (a.map rI)) :
  ∃ cs, w.heap[b]? = some (.cells cs ty (0, 0)) ∧ cs.size = cap * 1 ∧ a.length ≤ cap ∧ a.length ≤ Fl ∧ Holds (Value.int .i64) w b 0 a.toArray := by
 obtain ⟨cs, c, f, d, e, i, g⟩ := h
 rw [List.length_map] at d e
 refine ⟨cs, c, f, d, e, fun j hj => ⟨?_, by simp [World.frozen?, c]⟩⟩
 have hj' : j < a.length := by simpa using hj
 have := (g j (rI a[j]) (by rw [List.getElem?_map, gq hj']; rfl) 0 (.V a[j]) rfl).2.v_eq
 rw [Nat.mul_one, Nat.add_zero] at this
 have hcs : j < cs.size := by omega
 simp only [World.cell?, c, Nat.zero_add]
 rw [Array.getD_eq_getD_getElem?, Array.getElem?_eq_getElem hcs] at this
 simp at this ⊢
 rw [Array.getElem?_eq_getElem hcs, this]; simp [hj']
theorem I1 (l : Li) : (Lib.compact l).length ≤ l.length := by
 unfold Lib.compact Lib.compactUpTo
 rw [List.length_map]
 exact Nat.le_trans (List.length_filter_le _ _) (by simp)
section
variable {E : Env}
def Ht (l : Li) : Li := l.mergeSort fun x y => decide (x ≤ y)
def Yg (x : Int) : Li → Li
 | [] => [x]
 | y :: l => if x ≤ y then x :: y :: l else y :: Yg x l
def Gy : Li → Li
 | [] => []
 | x :: l => Yg x (Gy l)
theorem Ko (x : Int) : ∀ l : Li, (Yg x l).Perm (x :: l)
 | [] => .refl _
 | y :: l => by
  simp only [Yg]
  split
  ·exact .refl _
  ·exact ((Ko x l).cons y).trans (.swap x y l)
theorem Gs : ∀ l : Li, (Gy l).Perm l
 | [] => .refl _
 | x :: l => (Ko x (Gy l)).trans ((Gs l).cons x)
theorem Uk (x : Int) : ∀ l : Li, l.Pairwise (· ≤ ·) → (Yg x l).Pairwise (· ≤ ·)
 | [], _ => by simp [Yg]
 | y :: l, h => by
  simp only [Yg]
  rw [List.pairwise_cons] at h
  split
  ·rename_i hxy
   refine List.pairwise_cons.2 ⟨fun z hz => ?_, List.pairwise_cons.2 h⟩
   rcases List.mem_cons.1 hz with rfl | hz
   ·exact hxy
   ·have := h.1 z hz; omega
  ·refine List.pairwise_cons.2 ⟨fun z hz => ?_, Uk x l h.2⟩
   rcases List.mem_cons.1 ((Ko x l).mem_iff.1 hz) with rfl | hz
   ·omega
   ·exact h.1 z hz
theorem N6 : ∀ l : Li, (Gy l).Pairwise (· ≤ ·)
 | [] => .nil
 | x :: l => Uk x _ (N6 l)
theorem Q9 (l : Li) : (Ht l).Pairwise (· ≤ ·) := by
 have := List.pairwise_mergeSort (le := fun x y : Int => decide (x ≤ y)) (by intro a b c; simp; omega) (by intro a b; simp; omega) l
 exact this.imp (by intro a b h; simpa using h)
theorem Lo (l : Li) : Ht l = Gy l :=
 List.Perm.eq_of_pairwise (fun a b _ _ c d => by omega) (Q9 l) (N6 l) ((List.mergeSort_perm l _).trans (Gs l).symm)
theorem Gr (l : Li) : (Ht l).length = l.length := by unfold Ht; simp
theorem Nh {f : FuncId} {ety : Nat} (hfn : ∃ fn, E.P.funcs[f]? = some fn ∧ (fn.name == "runtime.NumGoroutine") = false ∧ fn.body.isNone = false)
  (hc : ∀ (Fb off cap : Nat) (zs : Li) (w : World), Holds (Value.int .i64) w Fb off zs.toArray → Fb < w.heap.size → zs.length < 4611686018427387904 →
   Calls E.P f #[.slice (some ⟨Fb, off, none⟩) zs.length cap] w fun e w' => e = .returned (.tuple #[]) ∧ ∃ n os, w' = grow (putRow (Value.int .i64) (Sort.ahead w n) Fb off (zs.mergeSort fun x y => decide (x ≤ y)).toArray) os)
  {d : Value} {a : Li} (hne : a ≠ []) :
  ACalls E f [.v d] [.us d ety 1 (a.map rI)] (Dz 1 fun x os new => x = .tup [] ∧ os = [.us d ety 1 ((Ht a).map rI)] ∧ new = []) := by
 refine ⟨hfn, fun H w vs hsz hv hheld hfp hnd => ?_⟩
 have hor := (hfp _ (List.mem_singleton.2 rfl)).1
 have hfree := (hfp _ (List.mem_singleton.2 rfl)).2
 rcases (show UsR H w d ety 1 (a.map rI) from hor) with ⟨_, h⟩ | ⟨b, c, cap, rfl, hlc, hcc, harr⟩
 ·exact absurd (List.map_eq_nil_iff.1 h) hne
 rw [List.length_map] at hlc
 obtain ⟨cs, i, q, r, j, hH⟩ := harr.held
 have hbl : b < w.heap.size := (Array.getElem?_eq_some_iff.1 i).1
 have hvs : vs = #[.slice (some ⟨b, 0, none⟩) a.length c] := by
  have := (hv 0 _ rfl).v_eq
  obtain ⟨l⟩ := vs
  match l, hsz, this with
  | [x], _, this => simp [Array.getD] at this; subst this; simp
 subst hvs
 refine (hc b 0 c a w hH hbl (by simp only [Fl] at j; omega)).mono ?_
 rintro e w' ⟨rfl, n, os, rfl⟩
 have hb' := heap_sortedI (n := n) (os := os) (a.mergeSort fun x y => decide (x ≤ y)).toArray i
 obtain ⟨s, t, u, z, k⟩ := grownBy_sortedI (w := w) (g := b) (n := n) (os := os) (a.mergeSort fun x y => decide (x ≤ y)).toArray
 have hbH : H b = none := hfree b (by simp [Ob.fp, Fa])
 refine ⟨.tuple #[], .tup [], [.us (.slice (some ⟨b, 0, none⟩) (a.map rI).length c) ety 1 ((Ht a).map rI)], H, rfl, ⟨[_], [], rfl, rfl, rfl, rfl, rfl⟩, .tup _ _ rfl (by simp), fun _ _ h => h, fun b' o ho => ?_, fun p hp => ?_, ?_, z, ⟨s, t, u⟩, fun b' hb'' hnin => ⟨?_, rfl⟩⟩
 ·have m := hheld.1 b' o ho
  have hne' : b' ≠ b := fun h => by rw [h, hbH] at ho; cases ho
  have hl' : b' < w.heap.size := (Array.getElem?_eq_some_iff.1 m).1
  rw [k b' hl' (by simp; omega)]; exact m
 ·rw [List.mem_singleton] at hp
  subst hp
  refine ⟨.inr ⟨b, c, cap, by simp [Gr], by simp [Gr]; omega, hcc, ?_⟩, fun b' hb'' => ?_⟩
  ·exact Mb (H := H) i q r j (Gr a) (Nat.le_refl _) (by simp) hb'
  ·simp only [Ob.fp, Fa, List.mem_singleton] at hb''
   subst hb''
   exact ⟨hbH, .inr (by simp [Ob.fp, Fa])⟩
 ·simp [Ob.fp, Fa]
 ·have hne' : b' ≠ b := fun h => hnin (by simp [Ob.fp, Fa, h])
  exact k b' hb'' (by simp; omega)
theorem I9 {f : FuncId} {ety : Nat} (hfn : ∃ fn, E.P.funcs[f]? = some fn ∧ (fn.name == "runtime.NumGoroutine") = false ∧ fn.body.isNone = false)
  (hc : ∀ (Fb off cap : Nat) (zs : Li) (w : World), Holds (Value.int .i64) w Fb off zs.toArray → zs.length ≤ 9223372036854775807 → zs.length ≤ cap →
   Calls E.P f #[.slice (some ⟨Fb, off, none⟩) zs.length cap] w fun e w' => e = .returned (.slice (some ⟨Fb, off, none⟩) (Lib.compact zs).length cap) ∧
    ∃ q, w' = putRow (Value.int .i64) (Sort.ahead w q) Fb off (Lib.compact zs ++ List.replicate (zs.length - (Lib.compact zs).length) 0).toArray)
  {d : Value} {a : Li} (hne : a ≠ []) :
  ACalls E f [.v d] [.us d ety 1 (a.map rI)] (Dz 1 fun x os new => ∃ k : Value, x = .v k ∧ os = [.us (.slice none 0 0) ety 1 (([] : Li).map rI)] ∧ new = [.us k ety 1 ((Lib.compact a).map rI)]) := by
 refine ⟨hfn, fun H w vs hsz hv hheld hfp hnd => ?_⟩
 have hor := (hfp _ (List.mem_singleton.2 rfl)).1
 have hfree := (hfp _ (List.mem_singleton.2 rfl)).2
 rcases (show UsR H w d ety 1 (a.map rI) from hor) with ⟨_, h⟩ | ⟨b, c, cap, rfl, hlc, hcc, harr⟩
 ·exact absurd (List.map_eq_nil_iff.1 h) hne
 rw [List.length_map] at hlc
 obtain ⟨cs, i, z, A, m, hH⟩ := harr.held
 have hbl : b < w.heap.size := (Array.getElem?_eq_some_iff.1 i).1
 have hvs : vs = #[.slice (some ⟨b, 0, none⟩) a.length c] := by
  have := (hv 0 _ rfl).v_eq
  obtain ⟨l⟩ := vs
  match l, hsz, this with
  | [x], _, this => simp [Array.getD] at this; subst this; simp
 subst hvs
 have hcl := I1 a
 refine (hc b 0 c a w hH (by simp only [Fl] at m; omega) hlc).mono ?_
 rintro e w' ⟨rfl, n, rfl⟩
 have hb' := heap_sortedI (n := n) (os := #[]) (Lib.compact a ++ List.replicate (a.length - (Lib.compact a).length) 0).toArray i
 obtain ⟨r, s, t, u, j⟩ := grownBy_sortedI (w := w) (g := b) (n := n) (os := #[]) (Lib.compact a ++ List.replicate (a.length - (Lib.compact a).length) 0).toArray
 rw [grow_empty] at hb' r s t u j
 have hbH : H b = none := hfree b (by simp [Ob.fp, Fa])
 refine ⟨_, .v (.slice (some ⟨b, 0, none⟩) (Lib.compact a).length c), [.us (.slice none 0 0) ety 1 (([] : Li).map rI), .us (.slice (some ⟨b, 0, none⟩) (Lib.compact a).length c) ety 1 ((Lib.compact a).map rI)], H, rfl, ⟨[_], [_], rfl, rfl, _, rfl, rfl, rfl⟩, .v _, fun _ _ h => h, fun b' o ho => ?_, fun p hp => ?_, ?_, u, ⟨r, s, t⟩, fun b' hb'' hnin => ⟨?_, rfl⟩⟩
 ·have y := hheld.1 b' o ho
  have hne' : b' ≠ b := fun h => by rw [h, hbH] at ho; cases ho
  have hl' : b' < w.heap.size := (Array.getElem?_eq_some_iff.1 y).1
  rw [j b' hl' (by simp; omega)]; exact y
 ·simp only [List.mem_cons, List.not_mem_nil, or_false] at hp
  rcases hp with rfl | rfl
  ·exact ⟨.inl ⟨rfl, rfl⟩, fun b' hb'' => by simp [Ob.fp, Fa] at hb''⟩
  refine ⟨.inr ⟨b, c, cap, by simp, by simp; omega, hcc, ?_⟩, fun b' hb'' => ?_⟩
  ·exact Mb (H := H) i z A m (by simp; omega) (by simp) (by simp) hb'
  ·simp only [Ob.fp, Fa, List.mem_singleton] at hb''
   subst hb''
   exact ⟨hbH, .inr (by simp [Ob.fp, Fa])⟩
 ·simp [Ob.fp, Fa]
 ·have hne' : b' ≠ b := fun h => hnin (by simp [Ob.fp, Fa, h])
  exact j b' hb'' (by simp; omega)
end
end Go.Aw
namespace Go.Proofs.YtkhcdkioehdndaaGreatDoor
open Go.Aw
set_option linter.unusedVariables false
set_option linter.unusedSimpArgs false
structure Product where
 Name : ByteArray
 Density : Int
 Expansion : Int
 Compress : Int
 Friction : Int
 deriving DecidableEq
def As (x : Product) : List T := [.v (.string x.Name), .V x.Density, .V x.Expansion, .V x.Compress, .V x.Friction]
structure Piece where
 Batch : Int
 Volume : Int
 deriving DecidableEq
def A3 (x : Piece) : List T := [.V x.Batch, .V x.Volume]
structure Batch where
 Product : Int
 Shipper : ByteArray
 From : Int
 To : Int
 deriving DecidableEq
def Cj (x : Batch) : List T := [.V x.Product, .v (.string x.Shipper), .V x.From, .V x.To]
structure Bounds where
 Low : Int
 High : Int
 deriving DecidableEq
def Dk (x : Bounds) : List T := [.V x.Low, .V x.High]
structure product_span where
 least : Int
 most : Int
 deriving DecidableEq
def Dc (x : product_span) : List T := [.V x.least, .V x.most]
structure gradient_part where
 length : Int
 width : Int
 height : Int
 liquid : Product
 deriving DecidableEq
def Ba (x : gradient_part) : List T := [.V x.length, .V x.width, .V x.height, .v (.string x.liquid.Name), .V x.liquid.Density, .V x.liquid.Expansion, .V x.liquid.Compress, .V x.liquid.Friction]
structure Level where
 At : Int
 Bounds : Bounds
 deriving DecidableEq
def A4 (x : Level) : List T := [.V x.At, .V x.Bounds.Low, .V x.Bounds.High]
def Ms (e : KS) (f : Int) : Option (Product × KS) := (H9 (⟨#[112]⟩ : ByteArray) f).bind fun g => (E7 e 400 1200).bind fun a => (Es a.2 ([0, 830, 2000, 1] : Li)).bind fun b => (Es b.2 ([0, 800, 5000, 3] : Li)).bind fun c => (Es c.2 ([1, 700, 1000, 1300, 2000] : Li)).bind fun d => some ((⟨g, a.1, b.1, c.1, d.1⟩ : Product), d.2)
def Jy.J1 (a : Li × Int × (List Product)) : Option ((List Product) × KS) := some (a.2.2, (⟨a.1, a.2.1⟩ : KS))
def Jy.B2 (a : Li × Int × (List Product) × Int) : Option ((Li × Int × (List Product) × Int) ⊕ ((Li × Int × (List Product)))) := if decide (a.2.2.2 > 0) = true then (Ms (⟨a.1, a.2.1⟩ : KS) (a.2.2.1.length : Int)).bind fun b => (Eg a.2.2.1 ([b.1] : List Product)).bind fun c => some (.inl (b.2.L_, b.2.At, c, wr (a.2.2.2 - 1))) else some ((.inr ((a.1, a.2.1, a.2.2.1))))
def Jy (b : KS) : Option ((List Product) × KS) := (E7 b 1 4).bind fun a => (C0 Jy.B2 Gh (a.2.L_, a.2.At, [], a.1)).bind fun c => Jy.J1 c
def Jz.J1 (a : Li × Int × (List Piece)) : Option ((List Piece) × KS) := some (a.2.2, (⟨a.1, a.2.1⟩ : KS))
def Jz.J4 (a : Li × Int × Int × (List Piece)) (b : Int × KS) (c : Int) (d : Int) : Option ((Li × Int × Int × (List Piece)) ⊕ ((Li × Int × (List Piece)))) := (Eg a.2.2.2 ([(⟨d, (min c a.2.2.1)⟩ : Piece)] : List Piece)).bind fun e => some (.inl (b.2.L_, b.2.At, wr (a.2.2.1 - (min c a.2.2.1)), e))
def Jz.J5 (g : Int) (a : Li × Int × Int × (List Piece)) (e : Int × KS) (b : Int × KS) (c : Int) (h : Bool) : Option ((Li × Int × Int × (List Piece)) ⊕ ((Li × Int × (List Piece)))) := if h = true then (Qw (wr (e.1 + 1)) g).bind fun f => (ix a.2.2.2 (wr ((a.2.2.2.length : Int) - 1))).bind fun d => if (d.2.Batch == f) = true then some (.inl (b.2.L_, b.2.At, wr (a.2.2.1 - (min c a.2.2.1)), (a.2.2.2.set d.1 (⟨d.2.Batch, wr (d.2.Volume + (min c a.2.2.1))⟩ : Piece)))) else Jz.J4 a b c f else Jz.J4 a b c e.1
def Jz.J3 (c : Int) (a : Li × Int × Int × (List Piece)) (b : Int × KS) (d : Int × KS) (e : Int) : Option ((Li × Int × Int × (List Piece)) ⊕ ((Li × Int × (List Piece)))) := if decide ((a.2.2.2.length : Int) > 0) = true then (ix a.2.2.2 (wr ((a.2.2.2.length : Int) - 1))).bind fun f => Jz.J5 c a b d e (f.2.Batch == b.1) else Jz.J5 c a b d e false
def Jz.B2 (b : Int) (a : Li × Int × Int × (List Piece)) : Option ((Li × Int × Int × (List Piece)) ⊕ ((Li × Int × (List Piece)))) := if (decide (a.2.2.1 > 0) && decide ((a.2.2.2.length : Int) < 12)) = true then (Et (⟨a.1, a.2.1⟩ : KS) b).bind fun c => (E7 c.2 1 (max 1 (wr ((wr (a.2.2.1 * 2)).tdiv 3)))).bind fun d => if ((a.2.2.2.length : Int) == 11) = true then Jz.J3 b a c d a.2.2.1 else Jz.J3 b a c d d.1 else some ((.inr ((a.1, a.2.1, a.2.2.2))))
def Jz (a : KS) (b : Int) (c : Int) : Option ((List Piece) × KS) := (C0 (Jz.B2 c) Gh (a.L_, a.At, b, [])).bind fun d => Jz.J1 d
def Jw.J1 (a : Li × Int × (List Batch)) : Option ((List Batch) × KS) := some (a.2.2, (⟨a.1, a.2.1⟩ : KS))
def Jw.B2 (d : Int) (e : Int) (a : Li × Int × (List Batch) × Int) : Option ((Li × Int × (List Batch) × Int) ⊕ ((Li × Int × (List Batch)))) := if decide (a.2.2.2 < d) = true then (Et (⟨a.1, a.2.1⟩ : KS) e).bind fun c => (Et c.2 3).bind fun b => (H9 (⟨#[102]⟩ : ByteArray) b.1).bind fun f => (Eg a.2.2.1 ([(⟨c.1, f, 0, 1⟩ : Batch)] : List Batch)).bind fun g => some (.inl (b.2.L_, b.2.At, g, wr (a.2.2.2 + 1))) else some ((.inr ((a.1, a.2.1, a.2.2.1))))
def Jw (a : KS) (b : Int) (c : Int) : Option ((List Batch) × KS) := (C0 (Jw.B2 b c) Gh (a.L_, a.At, [], 0)).bind fun d => Jw.J1 d
def Mj (e : KS) : Option (Segment × (List Piece) × (List Batch) × (List Product) × KS) := (Jp e 0 0 1).bind fun a => (Jy a.2).bind fun b => (Jz b.2 a.1.Capacity 4).bind fun c => (Jw c.2 4 (b.1.length : Int)).bind fun d => some (a.1, c.1, d.1, b.1, d.2)
def Jm (a : Segment) : Option Int := (H8 (⟨([(⟨#[97]⟩ : ByteArray), (⟨#[98]⟩ : ByteArray)] : List ByteArray), ([(⟨a.Name, 0, 1, a.Capacity, a.Resist, a.Wave, a.Points⟩ : Segment)] : List Segment), [], [], 0, 0⟩ : Network)).bind fun b => if (b != 0) = true then some 9 else some 0
def Jr (a : Piece) : Bool := (decide (a.Batch ≥ 0) && (decide (a.Batch < 1000) && (decide (a.Volume ≥ 0) && decide (a.Volume ≤ 1000000))))
def Gl.J1 (a : Int) : Option Int := some a
def Gl.B2 (c : Nat) (a : Piece) (b : Int) : Option Int := some (wr (b + a.Volume))
def Gl (a : List Piece) : Option Int := (forS Gl.B2 0 a 0).bind fun b => Gl.J1 b
def H6.J1 (a : List Piece) (c : Unit) : Option Bool := (Gl a).bind fun b => some (decide (b ≤ 1000000))
def H6.J3 (a : Bool) : Option (Unit ⊕ (Bool)) := if a = true then some ((.inr (false))) else some (.inl ())
def H6.B2 (c : List Piece) (b : Nat) (a : Piece) (e : Unit) : Option (Unit ⊕ (Bool)) := if (!(Jr a)) = true then H6.J3 true else if (a.Volume == 0) = true then H6.J3 true else if decide ((b : Int) > 0) = true then (ix c (wr ((b : Int) - 1))).bind fun d => H6.J3 (d.2.Batch == a.Batch) else H6.J3 false
def H6 (a : List Piece) : Option Bool := if decide ((a.length : Int) > 200) = true then some false else (forL (H6.B2 a) 0 a ()).bind fun b => Sum.elim (fun d => H6.J1 a ()) (fun c => some c) b
def Pg (a : List Piece) : Option Int := (H6 a).bind fun b => if (!b) = true then some 0 else (Gl a).bind fun c => some c
def Jv.J1 (a : Segment) (b : List Piece) (c : Bool) : Option Int := if c = true then some 9 else (Pg b).bind fun d => if (d != a.Capacity) = true then some 14 else some 0
def Jv (a : Segment) (b : List Piece) : Option Int := (Jm a).bind fun c => if (c != 0) = true then Jv.J1 a b true else (H6 b).bind fun d => Jv.J1 a b (!d)
def Mu (a : Li) : Option Li := if a = [] then none else some (Gy a)
def Mz (a : Li) : Option Li := if a = [] then none else some (Go.Lib.compact a)
def H7.J2 (a : Li) : Option Li := (Mu a).bind fun b => (Mz b).bind fun c => some c
def H7.B3 (d : Nat) (b : Piece) (a : Li × Int) : Option (Li × Int) := (Eg a.1 ([wr (a.2 + b.Volume)] : Li)).bind fun c => some (c, wr (a.2 + b.Volume))
def H7.J1 (a : List Piece) (b : Li) : Option Li := (forS H7.B3 0 a (b, 0)).bind fun c => H7.J2 c.1
def H7.B4 (d : Nat) (a : Point) (b : Li) : Option Li := (Eg b ([a.At] : Li)).bind fun c => some c
def H7 (a : Segment) (b : List Piece) : Option Li := (forS H7.B4 0 a.Points []).bind fun c => H7.J1 b c
def Gp (a : Product) : (Arr Int 4) := (⟨[a.Density, a.Expansion, a.Compress, a.Friction], rfl⟩ : Arr Int 4)
def Ml.J1 (a : Product) (c : Unit) : Option Bool := (Gq a.Name).bind fun b => some b
def Ml.J3 (a : Bool) : Option (Unit ⊕ (Bool)) := if a = true then some ((.inr (false))) else some (.inl ())
def Ml.B2 (d : Product) (a : Nat) (e : Unit) : Option (Unit ⊕ (Bool)) := (ix ([⟨400, 1200⟩, ⟨0, 2000⟩, ⟨0, 5000⟩, ⟨1, 2000⟩] : List product_span) (a : Int)).bind fun b => (ix ((Gp d).l) (a : Int)).bind fun c => if decide (c.2 < b.2.least) = true then Ml.J3 true else Ml.J3 (decide (c.2 > b.2.most))
def Ml (a : Product) : Option Bool := (forI (Ml.B2 a) 0 4 ()).bind fun b => Sum.elim (fun d => Ml.J1 a ()) (fun c => some c) b
def Jt.J1 (a : Unit) : Option Int := some (-1)
def Jt.B2 (a : Product → Option Bool) (b : Nat) (c : Product) (e : Unit) : Option (Unit ⊕ (Int)) := (a c).bind fun d => if d = true then some ((.inr ((b : Int)))) else some (.inl ())
def Jt (a : List Product) (b : Product → Option Bool) : Option Int := (forL (Jt.B2 b) 0 a ()).bind fun c => Sum.elim (fun e => Jt.J1 ()) (fun d => some d) c
def Gm (a : Product) (b : ByteArray) : Bool := (O6 a.Name b)
def Pf (a : List Product) (b : ByteArray) : Option Int := (Jt a (fun x => some (Gm x b))).bind fun c => some c
def Jj.J2 (a : Unit) : Option Int := some 0
def Jj.B3 (a : List Product) (b : Nat) (c : Product) (e : Unit) : Option (Unit ⊕ (Int)) := (Pf a c.Name).bind fun d => if decide (d < (b : Int)) = true then some ((.inr (7))) else some (.inl ())
def Jj.J1 (a : List Product) (d : Unit) : Option Int := (forL (Jj.B3 a) 0 a ()).bind fun b => Sum.elim (fun e => Jj.J2 ()) (fun c => some c) b
def Jj.B4 (c : Nat) (a : Product) (d : Unit) : Option (Unit ⊕ (Int)) := (Ml a).bind fun b => if (!b) = true then some ((.inr (9))) else some (.inl ())
def Jj (a : List Product) : Option Int := if decide ((a.length : Int) > 16) = true then some 4 else (forL Jj.B4 0 a ()).bind fun b => Sum.elim (fun d => Jj.J1 a ()) (fun c => some c) b
def Gk.J1 (a : List Product) : Option ((List Product) × Int) := some (a, 0)
def Gk.B2 (b : List Batch) (c : List Product) (h : Nat) (d : Piece) (e : List Product) : Option ((List Product) ⊕ (((List Product) × Int))) := if decide (d.Batch ≥ (b.length : Int)) = true then some ((.inr (([], 8)))) else (ix b d.Batch).bind fun a => if (decide (a.2.Product < 0) || decide (a.2.Product ≥ (c.length : Int))) = true then some ((.inr (([], 8)))) else (ix c a.2.Product).bind fun f => (Eg e ([f.2] : List Product)).bind fun g => some (.inl g)
def Gk (a : List Piece) (b : List Batch) (c : List Product) : Option ((List Product) × Int) := (forL (Gk.B2 b c) 0 a []).bind fun d => Sum.elim (fun e => Gk.J1 e) (fun f => some f) d
def Gi (a : Bounds) : Bool := (decide (a.Low ≤ a.High) && (decide (a.Low ≥ (-1125899906842624)) && decide (a.High ≤ 1125899906842624)))
def Ka.J1 (a : Int) : Option Int := some a
def Ka.B2 (b : Int → Option Bool) (a : Int × Int) : Option ((Int × Int) ⊕ (Int)) := if decide (a.1 < a.2) = true then (b (wr (((IntKind.u64.wrap (wr (a.1 + a.2))).fdiv 2)))).bind fun c => if (!c) = true then some (.inl (wr ((wr (((IntKind.u64.wrap (wr (a.1 + a.2))).fdiv 2))) + 1), a.2)) else some (.inl (a.1, wr (((IntKind.u64.wrap (wr (a.1 + a.2))).fdiv 2)))) else some ((.inr (a.1)))
def Ka (a : Int) (b : Int → Option Bool) : Option Int := (C0 (Ka.B2 b) Gh (0, a)).bind fun c => Ka.J1 c
def Mp (a : Int) (b : Segment) (c : Int) : Option Bool := (ix b.Points a).bind fun d => some (decide (d.2.At ≥ c))
def Mk (a : Segment) (b : Int) : Option Int := (Ka (wr ((a.Points.length : Int) - 1)) (fun x => Mp x a b)).bind fun c => some c
def Mw.J1 (a : List gradient_part) : Option (List gradient_part) := some a
def Mw.J3 (b : (List gradient_part) × Int × Int × Int) (a : (List gradient_part) × Int × Int) : Option (((List gradient_part) × Int × Int × Int) ⊕ ((List gradient_part))) := some (.inl (a.1, a.2.1, a.2.2, wr (b.2.2.2 + 1)))
def Mw.J5 (d : List Product) (e : Li) (b : (List gradient_part) × Int × Int × Int) (c : Int × Int) (f : Nat × Int) (a : Int × Int × Int × Int × Int × Int) : Option (((List gradient_part) × Int × Int × Int) ⊕ ((List gradient_part))) := (ix e (wr (b.2.2.2 - 1))).bind fun g => (ix d c.1).bind fun h => (Eg b.1 ([(⟨wr (f.2 - g.2), wr (a.2.2.2.1 - a.1), wr (a.2.2.2.2.1 - a.2.1), h.2⟩ : gradient_part)] : List gradient_part)).bind fun i => Mw.J3 b (i, c.1, c.2)
def Mw.J4 (a : Segment) (h : List Product) (d : Li) (e : (List gradient_part) × Int × Int × Int) (i : Int × Int) : Option (((List gradient_part) × Int × Int × Int) ⊕ ((List gradient_part))) := (ix d e.2.2.2).bind fun f => (Mk a f.2).bind fun g => (ix a.Points (wr (g - 1))).bind fun b => (ix a.Points g).bind fun c => Mw.J5 h d e i f (b.2.At, b.2.Height, b.2.Limit, c.2.At, c.2.Height, c.2.Limit)
def Mw.B6 (b : List Piece) (c : Li) (d : (List gradient_part) × Int × Int × Int) (a : Int × Int) : Option ((Int × Int) ⊕ ((Int × Int))) := (ix c d.2.2.2).bind fun e => if decide (e.2 > a.2) = true then (ix b (wr (a.1 + 1))).bind fun f => some (.inl (wr (a.1 + 1), wr (a.2 + f.2.Volume))) else some ((.inr ((a.1, a.2))))
def Mw.B2 (c : Segment) (d : List Piece) (e : List Product) (b : Li) (a : (List gradient_part) × Int × Int × Int) : Option (((List gradient_part) × Int × Int × Int) ⊕ ((List gradient_part))) := if decide (a.2.2.2 < (b.length : Int)) = true then (C0 (Mw.B6 d b a) Gh (a.2.1, a.2.2.1)).bind fun f => Mw.J4 c e b a f else some ((.inr (a.1)))
def Mw (b : Segment) (a : List Piece) (c : List Product) (d : Li) : Option (List gradient_part) := (ix a 0).bind fun e => (C0 (Mw.B2 b a c d) Gh ([], 0, e.2.Volume, 1)).bind fun f => Mw.J1 f
def Gn.J1 (a : Int × Int) : Option (Int × Int × Bool) := some (a.1, a.2, true)
def Gn (b : Int) (a : Int) : Option (Int × Int × Bool) := if (decide (a < 1) || (decide (a > 1099511627776) || (decide (b < (-2305843009213693952)) || decide (b > 2305843009213693952)))) = true then some (0, 0, false) else (Wr b a).bind fun d => (Qw b a).bind fun c => if decide (c < 0) = true then Gn.J1 (wr (d - 1), wr (c + a)) else Gn.J1 (d, c)
def Ji (a : Int) (b : Int) : Option Int := (Gn a b).bind fun c => some c.1
def Jo.J1 (a : Int) : Option Int := some a
def Jo (b : Int) (c : Int) : Option Int := (Gn b c).bind fun a => if (a.2.2 && decide (a.2.1 > 0)) = true then Jo.J1 (wr (a.1 + 1)) else Jo.J1 a.1
def Mo (a : gradient_part) (b : Segment) (c : Int) : Option (Int × Int) := (Ji (wr ((wr ((wr ((wr (b.Resist * a.liquid.Friction)) * c)) * c)) * a.length)) (wr (1000 * b.Capacity))).bind fun d => (Ji (wr ((wr ((wr (a.liquid.Density * 9807)) * a.height)) * a.length)) (wr (1000 * a.width))).bind fun e => (Jo (wr ((wr ((wr ((wr (b.Resist * a.liquid.Friction)) * c)) * c)) * a.length)) (wr (1000 * b.Capacity))).bind fun f => (Jo (wr ((wr ((wr (a.liquid.Density * 9807)) * a.height)) * a.length)) (wr (1000 * a.width))).bind fun g => some (wr (d + e), wr (f + g))
def Jk (a : Li) : Option Li := Eg [] a
def Pe.J2 (a : Li × Int × Int) (b : Li) : Option ((Li × Int × Int) ⊕ (Li)) := some (.inl (b, wr (a.2.1 + 1), wr (a.2.2 - 1)))
def Pe.B1 (a : Li × Int × Int) : Option ((Li × Int × Int) ⊕ (Li)) := if decide (a.2.1 < a.2.2) = true then (ix a.1 a.2.2).bind fun c => (ix a.1 a.2.1).bind fun b => (ix (a.1.set b.1 c.2) a.2.2).bind fun d => Pe.J2 a ((a.1.set b.1 c.2).set d.1 b.2) else some ((.inr (a.1)))
def Pe (a : Li) : Option Li := (C0 Pe.B1 Gh (a, 0, wr ((a.length : Int) - 1))).bind fun b => some b
def Pl.J2 (a : (List gradient_part) × Int × Int) (b : List gradient_part) : Option (((List gradient_part) × Int × Int) ⊕ ((List gradient_part))) := some (.inl (b, wr (a.2.1 + 1), wr (a.2.2 - 1)))
def Pl.B1 (a : (List gradient_part) × Int × Int) : Option (((List gradient_part) × Int × Int) ⊕ ((List gradient_part))) := if decide (a.2.1 < a.2.2) = true then (ix a.1 a.2.2).bind fun c => (ix a.1 a.2.1).bind fun b => (ix (a.1.set b.1 c.2) a.2.2).bind fun d => Pl.J2 a ((a.1.set b.1 c.2).set d.1 b.2) else some ((.inr (a.1)))
def Pl (a : List gradient_part) : Option (List gradient_part) := (C0 Pl.B1 Gh (a, 0, wr ((a.length : Int) - 1))).bind fun b => some b
def M6.J2 (a : (List Level) × Int × Int) (b : List Level) : Option (((List Level) × Int × Int) ⊕ ((List Level))) := some (.inl (b, wr (a.2.1 + 1), wr (a.2.2 - 1)))
def M6.B1 (a : (List Level) × Int × Int) : Option (((List Level) × Int × Int) ⊕ ((List Level))) := if decide (a.2.1 < a.2.2) = true then (ix a.1 a.2.2).bind fun c => (ix a.1 a.2.1).bind fun b => (ix (a.1.set b.1 c.2) a.2.2).bind fun d => M6.J2 a ((a.1.set b.1 c.2).set d.1 b.2) else some ((.inr (a.1)))
def M6 (a : List Level) : Option (List Level) := (C0 M6.B1 Gh (a, 0, wr ((a.length : Int) - 1))).bind fun b => some b
def H4.J3 (a : List Level) : Option ((List Level) × Int) := some (a, 0)
def H4.J2 (b : Int) (a : List Level) : Option ((List Level) × Int) := if decide (b < 0) = true then (M6 a).bind fun c => H4.J3 c else H4.J3 a
def H4.B4 (f : Segment) (c : Int) (d : (List gradient_part) × Li) (e : Nat) (a : Int × Int × (List Level)) : Option (Int × Int × (List Level)) := (ix d.1 (e : Int)).bind fun g => (Mo g.2 f (max c (wr (0 - c)))).bind fun b => (ix d.2 ((e + 1 : Nat) : Int)).bind fun h => (Eg a.2.2 ([(⟨h.2, (⟨wr (a.1 - b.2), wr (a.2.1 - b.1)⟩ : Bounds)⟩ : Level)] : List Level)).bind fun i => some (wr (a.1 - b.2), wr (a.2.1 - b.1), i)
def H4.J1 (d : Segment) (c : Int) (a : Bounds) (b : (List gradient_part) × Li) : Option ((List Level) × Int) := (ix b.2 0).bind fun e => (forJ (H4.B4 d c b) 0 b.1.length (a.Low, a.High, ([(⟨e.2, a⟩ : Level)] : List Level))).bind fun f => H4.J2 c f.2.2
def H4.B5 (c : Nat) (b : List gradient_part) : Option (List gradient_part) := (ix b (c : Int)).bind fun a => some (b.set a.1 (⟨a.2.length, a.2.width, wr (0 - a.2.height), a.2.liquid⟩ : gradient_part))
def H4 (b : Segment) (c : List Piece) (m : List Batch) (f : List Product) (a : Int) (d : Bounds) : Option ((List Level) × Int) := (Jv b c).bind fun g => if (g != 0) = true then some ([], g) else (Jj f).bind fun h => if (h != 0) = true then some ([], h) else (Gk c m f).bind fun e => if (e.2 != 0) = true then some ([], e.2) else if ((a == 0) || (decide (a < (-1000)) || (decide (a > 1000) || (!(Gi d))))) = true then some ([], 1) else (H7 b c).bind fun i => (Mw b c e.1 i).bind fun j => (Jk i).bind fun k => if decide (a < 0) = true then (Pe k).bind fun n => (Pl j).bind fun l => (forJ H4.B5 0 l.length l).bind fun o => H4.J1 b a d (o, n) else H4.J1 b a d (j, k)
def Pk.J1 (a : Unit) : Option Int := some (-1)
def Pk.B2 (a : Level → Option Bool) (b : Nat) (c : Level) (e : Unit) : Option (Unit ⊕ (Int)) := (a c).bind fun d => if d = true then some ((.inr ((b : Int)))) else some (.inl ())
def Pk (a : List Level) (b : Level → Option Bool) : Option Int := (forL (Pk.B2 b) 0 a ()).bind fun c => Sum.elim (fun e => Pk.J1 ()) (fun d => some d) c
def Uu (a : List Level) (b : Level → Option Bool) : Option Bool := (Pk a b).bind fun c => some (decide (c ≥ 0))
def Mr (a : Level) (b : Segment) : Bool := (decide (a.At < 0) || decide (a.At > b.Capacity))
def Ph.J1 (a : Int) : Option Int := some a
def Ph.J3 (a : Int × Int) (b : Int) : Option ((Int × Int) ⊕ (Int)) := some (.inl (b, wr (a.2 + 1)))
def Ph.J4 (c : Int) (a : Int × Int) (b : Int × Int × Int × Int × Int × Int) : Option ((Int × Int) ⊕ (Int)) := if (decide (b.1 ≤ c) && decide (c ≤ b.2.2.2.1)) = true then Ph.J3 a (min (min a.1 b.2.2.1) b.2.2.2.2.2) else Ph.J3 a a.1
def Ph.B2 (b : Segment) (e : Int) (a : Int × Int) : Option ((Int × Int) ⊕ (Int)) := if decide (a.2 < (b.Points.length : Int)) = true then (ix b.Points (wr (a.2 - 1))).bind fun c => (ix b.Points a.2).bind fun d => Ph.J4 e a (c.2.At, c.2.Height, c.2.Limit, d.2.At, d.2.Height, d.2.Limit) else some ((.inr (a.1)))
def Ph (a : Segment) (b : Int) : Option Int := (C0 (Ph.B2 a b) Gh (100000000, 1)).bind fun c => Ph.J1 c
def Us.J3 (a : Unit) : Option (Int × Int) := some ((-1), 0)
def Us.J5 (a : Level) (b : Bool) : Option (Unit ⊕ ((Int × Int))) := if b = true then some ((.inr ((a.At, 15)))) else some (.inl ())
def Us.B4 (b : Segment) (c : Int) (e : Nat) (a : Level) (f : Unit) : Option (Unit ⊕ ((Int × Int))) := (Ph b a.At).bind fun d => if decide (a.Bounds.High > d) = true then Us.J5 a true else Us.J5 a (decide (a.Bounds.Low < c))
def Us.J2 (a : Segment) (b : List Level) (c : Int) (f : Unit) : Option (Int × Int) := (forL (Us.B4 a c) 0 b ()).bind fun d => Sum.elim (fun g => Us.J3 ()) (fun e => some e) d
def Us.B6 (b : List Level) (a : Int) : Option (Int ⊕ ((Int × Int) ⊕ Unit)) := if decide (a < (b.length : Int)) = true then (ix b (wr (a - 1))).bind fun c => (ix b a).bind fun d => if decide (c.2.At ≥ d.2.At) = true then some ((.inr (.inl ((0, 6))))) else some (.inl (wr (a + 1))) else some ((.inr (.inr (()))))
def Us.J1 (b : Segment) (a : List Level) (c : Int) (d : Bool) : Option (Int × Int) := if d = true then some (0, 1) else (C0 (Us.B6 a) Gh 1).bind fun e => Sum.elim (fun f => some f) (fun g => Us.J2 b a c g) e
def Us (a : Segment) (b : List Level) (c : Int) : Option (Int × Int) := (Jm a).bind fun d => if (d != 0) = true then some (0, d) else if decide ((b.length : Int) > 208) = true then Us.J1 a b c true else (Uu b (fun x => some (Mr x a))).bind fun e => Us.J1 a b c e
def Ut.J1 (a : Unit) : Option Bool := some true
def Ut.B2 (c : List Level) (d : Nat) (a : Level) (e : Unit) : Option (Unit ⊕ (Bool)) := (ix c (d : Int)).bind fun b => if (!((a.At == b.2.At) && (((a.Bounds.Low == b.2.Bounds.Low) && ((a.Bounds.High == b.2.Bounds.High) && true)) && true))) = true then some ((.inr (false))) else some (.inl ())
def Ut (a : List Level) (b : List Level) : Option Bool := if ((a.length : Int) != (b.length : Int)) = true then some false else (forL (Ut.B2 b) 0 a ()).bind fun c => Sum.elim (fun e => Ut.J1 ()) (fun d => some d) c
def Mv : Segment := (⟨(⟨#[115]⟩ : ByteArray), 0, 1, 100, 2, 0, ([(⟨0, 0, 600000⟩ : Point), (⟨100, 10, 600000⟩ : Point)] : List Point)⟩ : Segment)
def B9 : (List Product) := ([(⟨(⟨#[111, 105, 108]⟩ : ByteArray), 800, 0, 0, 1000⟩ : Product)] : List Product)
def Mf.J2 (a : Bool) : Option Bool := some a
def Mf.J1 (a : (List Level) × Int) : Option Bool := (Us Mv a.1 0).bind fun b => if (a.2 == 0) = true then (Ut a.1 ([(⟨0, (⟨500000, 500000⟩ : Bounds)⟩ : Level), (⟨100, (⟨419744, 419744⟩ : Bounds)⟩ : Level)] : List Level)).bind fun c => if c = true then if (b.2 == 0) = true then Mf.J2 (b.1 == (-1)) else Mf.J2 false else Mf.J2 false else Mf.J2 false
def Mf : Option Bool := (Yf 1 (⟨(0 : Int), (⟨#[]⟩ : ByteArray), (0 : Int), (0 : Int)⟩ : Batch)).bind fun b => (H4 Mv ([(⟨0, 100⟩ : Piece)] : List Piece) b B9 30 (⟨500000, 500000⟩ : Bounds)).bind fun a => Mf.J1 (a.1, a.2)
def Mm.J3 (b : Unit) : Option Bool := (Mf).bind fun a => some a
def Mm.J5 (a : Bool) : Option (Unit ⊕ (Bool)) := if a = true then some ((.inr (false))) else some (.inl ())
def Mm.B4 (c : (List Level) × Int) (f : (List Level) × Int) (a : Nat) (g : Unit) : Option (Unit ⊕ (Bool)) := (ix f.1 (a : Int)).bind fun d => (ix c.1 (a : Int)).bind fun b => if decide (d.2.Bounds.High > b.2.Bounds.High) = true then Mm.J5 true else if decide (d.2.Bounds.Low > b.2.Bounds.Low) = true then Mm.J5 true else if decide ((a : Int) > 0) = true then (ix c.1 (wr ((a : Int) - 1))).bind fun e => if decide (b.2.Bounds.High > e.2.Bounds.High) = true then Mm.J5 true else Mm.J5 (decide (b.2.Bounds.Low > e.2.Bounds.Low)) else Mm.J5 false
def Mm.J2 (a : Segment × (List Piece) × (List Batch) × (List Product) × KS) (d : List Point) (e : Int × Int) : Option Bool := (H4 (⟨a.1.Name, a.1.From, a.1.To, a.1.Capacity, a.1.Resist, a.1.Wave, d⟩ : Segment) a.2.1 a.2.2.1 a.2.2.2.1 e.1 (⟨5000000, 5000000⟩ : Bounds)).bind fun b => (H4 (⟨a.1.Name, a.1.From, a.1.To, a.1.Capacity, a.1.Resist, a.1.Wave, d⟩ : Segment) a.2.1 a.2.2.1 a.2.2.2.1 e.2 (⟨5000000, 5000000⟩ : Bounds)).bind fun c => if ((b.2 != 0) || ((c.2 != 0) || (((b.1.length : Int) != (c.1.length : Int)) || decide ((b.1.length : Int) < 2)))) = true then some false else (forI (Mm.B4 b c) 0 b.1.length ()).bind fun f => Sum.elim (fun h => Mm.J3 ()) (fun g => some g) f
def Mm.J1 (a : Int) (b : Int) (c : Segment × (List Piece) × (List Batch) × (List Product) × KS) (d : List Point) : Option Bool := if decide ((wr (1 + ((min (wr (a)) (wr (b))).tmod 1000))) > (wr (1 + ((max (wr (a)) (wr (b))).tmod 1000)))) = true then Mm.J2 c d (wr (1 + ((max (wr (a)) (wr (b))).tmod 1000)), wr (1 + ((min (wr (a)) (wr (b))).tmod 1000))) else Mm.J2 c d (wr (1 + ((min (wr (a)) (wr (b))).tmod 1000)), wr (1 + ((max (wr (a)) (wr (b))).tmod 1000)))
def Mm.B6 (c : Nat) (b : List Point) : Option (List Point) := (ix b (c : Int)).bind fun a => some (b.set a.1 (⟨a.2.At, 7, a.2.Limit⟩ : Point))
def Mm (b : Li) (c : Int) (d : Int) : Option Bool := (Mt b).bind fun e => (Mj e).bind fun a => (forJ Mm.B6 0 a.1.Points.length a.1.Points).bind fun f => Mm.J1 c d a f
abbrev Nw := Network
abbrev Sg := Segment
abbrev Sn := Station
abbrev Bt := ByteArray
abbrev U0 := fun (v : Value) l => Ob.us v 3 1 (List.map rI l)
abbrev U1 := fun (v : Value) l => Ob.us v 49 5 (List.map As l)
abbrev U2 := fun (v : Value) l => Ob.us v 82 8 (List.map Ba l)
abbrev U3 := fun (v : Value) l => Ob.us v 43 3 (List.map A4 l)
abbrev U4 := fun (v : Value) l => Ob.us v 103 4 (List.map Cj l)
abbrev U5 := fun (v : Value) l => Ob.us v 9 1 (List.map rS l)
abbrev U6 := fun (v : Value) l => Ob.us v 35 3 (List.map A2 l)
abbrev U7 := fun (v : Value) l => Ob.us v 88 2 (List.map A3 l)
abbrev Q0 := fun l => T.list 1 (List.map rI l)
abbrev Q1 := fun l => T.list 5 (List.map As l)
abbrev Q2 := fun l => T.list 1 (List.map rS l)
abbrev Q3 := fun l => T.list 4 (List.map Cj l)
abbrev Q4 := fun l => T.list 2 (List.map A3 l)
abbrev Q5 := fun l => T.list 3 (List.map A4 l)
abbrev Q6 := fun l => T.list 3 (List.map A2 l)
abbrev O0 := fun (b : Nat) e => Ob.arr b 66 2 1 e
abbrev O1 := fun (b : Nat) e => Ob.arr b 28 7 1 e
abbrev O2 := fun (b : Nat) e => Ob.arr b 115 6 1 e
abbrev O3 := fun (b : Nat) e => Ob.arr b 134 4 1 e
abbrev W0 : List T := [.v (.string ⟨#[]⟩), .V 0, .V 0, .V 0, .V 0, .V 0, .N]
abbrev W1 : List T := [.V 0, .V 0, .V 0]
abbrev W2 : List T := [.N, .N, .N, .N]
abbrev W3 : List T := [.v (.string ⟨#[]⟩), .V 0, .V 0, .V 0, .V 0]
abbrev W4 : List T := [.v (.string ⟨#[]⟩), .V 0, .V 0]
abbrev W6 : List T := [.V 0, .V 0, .V 0, .v (.string ⟨#[]⟩), .V 0, .V 0, .V 0, .V 0]
end Go.Proofs.YtkhcdkioehdndaaGreatDoor
namespace Go.Proofs
open Go.Shelf
def It : Go.Shelf.Ren := ⟨fun | 189 => 61 | 125 => 83 | 257 => 82 | 128 => 110 | 129 => 111 | 294 => 101 | 295 => 102 | 296 => 103 | 297 => 104 | 298 => 105 | 299 => 106 | 216 => 107 | 300 => 108 | 301 => 109 | 328 => 127 | 329 => 128 | 330 => 129 | 331 => 130 | 332 => 131 | 215 => 132 | 343 => 136 | n => n, fun | 28 => 22 | 3 => 3 | 46 => 128 | 0 => 0 | 51 => 153 | 53 => 155 | 4 => 4 | 183 => 146 | 182 => 145 | 131 => 150 | 5 => 5 | 9 => 9 | 218 => 165 | 222 => 169 | 228 => 174 | 229 => 83 | n => n, fun | n => n⟩
theorem Ng : Go.Proofs.Lays.n189 Tryz.prog It := {
 mixed := by kernel_rfl
 f125 := Tryz.func83.trans (congrArg some (by kernel_rfl))
 f128 := Tryz.func110.trans (congrArg some (by kernel_rfl))
 f129 := Tryz.func111.trans (congrArg some (by kernel_rfl))
 f189 := Tryz.func61.trans (congrArg some (by kernel_rfl))
 f215 := Tryz.func132.trans (congrArg some (by kernel_rfl))
 f216 := Tryz.func107.trans (congrArg some (by kernel_rfl))
 f257 := Tryz.func82.trans (congrArg some (by kernel_rfl))
 f294 := Tryz.func101.trans (congrArg some (by kernel_rfl))
 f295 := Tryz.func102.trans (congrArg some (by kernel_rfl))
 f296 := Tryz.func103.trans (congrArg some (by kernel_rfl))
 f297 := Tryz.func104.trans (congrArg some (by kernel_rfl))
 f298 := Tryz.func105.trans (congrArg some (by kernel_rfl))
 f299 := Tryz.func106.trans (congrArg some (by kernel_rfl))
 f300 := Tryz.func108.trans (congrArg some (by kernel_rfl))
 f301 := Tryz.func109.trans (congrArg some (by kernel_rfl))
 f328 := Tryz.func127.trans (congrArg some (by kernel_rfl))
 f329 := Tryz.func128.trans (congrArg some (by kernel_rfl))
 f330 := Tryz.func129.trans (congrArg some (by kernel_rfl))
 f331 := Tryz.func130.trans (congrArg some (by kernel_rfl))
 f332 := Tryz.func131.trans (congrArg some (by kernel_rfl))
 f343 := Tryz.func136.trans (congrArg some (by kernel_rfl))
 t0 := Tryz.underlying0
 a0 := Tryz.isAgg0
 z0 := Tryz.sizeOf0
 v0 := Tryz.zeroValue0
 t3 := Tryz.underlying3
 a3 := Tryz.isAgg3
 z3 := Tryz.sizeOf3
 v3 := Tryz.zeroValue3
 t4 := Tryz.underlying4
 a4 := Tryz.isAgg4
 z4 := Tryz.sizeOf4
 v4 := Tryz.zeroValue4
 t5 := Tryz.underlying5
 a5 := Tryz.isAgg5
 z5 := Tryz.sizeOf5
 v5 := Tryz.zeroValue5
 t9 := Tryz.underlying9
 a9 := Tryz.isAgg9
 z9 := Tryz.sizeOf9
 v9 := Tryz.zeroValue9
 t28 := Tryz.underlying22
 a28 := Tryz.isAgg22
 z28 := Tryz.sizeOf22
 v28 := Tryz.zeroValue22
 t46 := Tryz.underlying128
 a46 := Tryz.isAgg128
 z46 := Tryz.sizeOf128
 v46 := Tryz.zeroValue128
 t51 := Tryz.underlying153
 a51 := Tryz.isAgg153
 z51 := Tryz.sizeOf153
 v51 := Tryz.zeroValue153
 t53 := Tryz.underlying155
 a53 := Tryz.isAgg155
 z53 := Tryz.sizeOf155
 v53 := Tryz.zeroValue155
 t131 := Tryz.underlying150
 a131 := Tryz.isAgg150
 z131 := Tryz.sizeOf150
 v131 := Tryz.zeroValue150
 t182 := Tryz.underlying145
 a182 := Tryz.isAgg145
 z182 := Tryz.sizeOf145
 v182 := Tryz.zeroValue145
 t183 := Tryz.underlying146
 a183 := Tryz.isAgg146
 z183 := Tryz.sizeOf146
 v183 := Tryz.zeroValue146
 t218 := Tryz.underlying165
 a218 := Tryz.isAgg165
 z218 := Tryz.sizeOf165
 v218 := Tryz.zeroValue165
 t222 := Tryz.underlying169
 a222 := Tryz.isAgg169
 z222 := Tryz.sizeOf169
 v222 := Tryz.zeroValue169
 t228 := Tryz.underlying174
 a228 := Tryz.isAgg174
 z228 := Tryz.sizeOf174
 v228 := Tryz.zeroValue174
 t229 := Tryz.underlying83
 a229 := Tryz.isAgg83
 z229 := Tryz.sizeOf83
 v229 := Tryz.zeroValue83 }
open Go.Sort Go.RowKit in
theorem Tryz.slices_Sort_int (Fb off cap : Nat) (zs : List Int) (w : World) (hH : Holds (Value.int .i64) w Fb off zs.toArray) (hblk : Fb < w.heap.size) (hsz : zs.length < 4611686018427387904) :
  Calls Tryz.prog 61 #[.slice (some ⟨Fb, off, none⟩) zs.length cap] w fun e w' =>
   e = .returned (.tuple #[]) ∧ ∃ n os, w' = grow (putRow (Value.int .i64) (Sort.ahead w n) Fb off (zs.mergeSort fun x y => decide (x ≤ y)).toArray) os := Any.slices_Sort_int Ng Fb off cap zs w hH hblk hsz
def Gw : Go.Shelf.Ren := ⟨fun | 20 => 62 | n => n, fun | 22 => 22 | 3 => 3 | 4 => 4 | 0 => 0 | n => n, fun | n => n⟩
theorem K9 : Go.Proofs.Lays2.n20 Tryz.prog Gw := {
 mixed := by kernel_rfl
 f20 := Tryz.func62.trans (congrArg some (by kernel_rfl))
 t0 := Tryz.underlying0
 a0 := Tryz.isAgg0
 z0 := Tryz.sizeOf0
 v0 := Tryz.zeroValue0
 t3 := Tryz.underlying3
 a3 := Tryz.isAgg3
 z3 := Tryz.sizeOf3
 v3 := Tryz.zeroValue3
 t4 := Tryz.underlying4
 a4 := Tryz.isAgg4
 z4 := Tryz.sizeOf4
 v4 := Tryz.zeroValue4
 t22 := Tryz.underlying22
 a22 := Tryz.isAgg22
 z22 := Tryz.sizeOf22
 v22 := Tryz.zeroValue22
 i3 := by kernel_rfl }
open Go.RowKit Go.Lib Go.Sort in
theorem Tryz.slices_Compact_int (Fb off cap : Nat) (zs : List Int) (w : World) (hH : Holds (Value.int .i64) w Fb off zs.toArray) (hsz : zs.length ≤ 9223372036854775807) (hcap : zs.length ≤ cap) :
  Calls Tryz.prog 62 #[.slice (some ⟨Fb, off, none⟩) zs.length cap] w fun e w' => e = .returned (.slice (some ⟨Fb, off, none⟩) (Lib.compact zs).length cap) ∧ ∃ q, w' = putRow (Value.int .i64) (Sort.ahead w q) Fb off (Lib.compact zs ++ List.replicate (zs.length - (Lib.compact zs).length) 0).toArray := Any.slices_Compact_int K9 Fb off cap zs w hH hsz hcap
end Go.Proofs
