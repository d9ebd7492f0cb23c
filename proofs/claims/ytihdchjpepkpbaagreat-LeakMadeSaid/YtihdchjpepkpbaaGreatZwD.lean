/- Tables and pure functions. No condition. -/
import Derived.Test.YtihdchjpepkpbaaGreatZwB2
import Derived.Test.YtihdchjpepkpbaaGreatRows
import Derived.KernelRfl
import Derived.Shelf.Sort.Plain
import Derived.Shelf.Slices.CompactI
import Derived.Sort.OwnSortedInts
import Derived.Below
import Derived.Handy
import Derived.LoopTactic
import Derived.Test.YtihdchjpepkpbaaGreatProg
set_option maxRecDepth 100000
namespace Go.Aw
set_option linter.unusedVariables false
set_option linter.unusedSimpArgs false
inductive TT where
 | nil
 | node (l : TT) (k : Nat) (x : TI) (r : TT)
def Lu : TT → Nat → Option TI
 | .nil, _ => none
 | .node l k x r, i => bif Nat.beq k i then some x else bif Nat.ble k i then Lu r i else Lu l i
def Up (P : Program) : TT → Prop
 | .nil => True
 | .node l k x r => Up P l ∧ Gt P k = some x ∧ Up P r
theorem Nd {P : Program} : ∀ {t : TT} {i : Nat} {x : TI}, Up P t → Lu t i = some x → Gt P i = some x
 | .nil, _, _, _, h => by simp [Lu] at h
 | .node l k y r, i, x, ha, h => by
  simp only [Lu] at h
  cases hb : Nat.beq k i with
  | true =>
   have := nq hb
   simp only [hb, cond_true, Option.some.injEq] at h
   subst h this; exact ha.2.1
  | false =>
   simp only [hb, cond_false] at h
   cases hc : Nat.ble k i with
   | true => simp only [hc, cond_true] at h; exact Nd ha.2.2 h
   | false => simp only [hc, cond_false] at h; exact Nd ha.1 h
abbrev zI : Value := .int .i64 0
abbrev zN : Value := .slice none 0 0
abbrev zT (k : Nat) : TI := { kind := .slice k, size := 1, bytes := 24, zero := some zN }
abbrev zS (f : List (Nat × Nat)) (s b : Nat) (z : Array Value) : TI := { kind := .struct f, size := s, bytes := b, zero := some (.agg z) }
abbrev zA (n t s b : Nat) (z : Array Value) : TI := { kind := .array n t, size := s, bytes := b, zero := some (.agg z) }
end Go.Aw
namespace Go.Proofs.YtihdchjpepkpbaaGreat
open Go.Aw
abbrev dE : TI := { kind := .int .i64, size := 1, bytes := 8, zero := some (.int .i64 0) }
abbrev dD : TI := { kind := .bool, size := 1, bytes := 1, zero := some (.bool false) }
abbrev dC : TI := { kind := .int .u8, size := 1, bytes := 1, zero := some (.int .u8 0) }
abbrev dB : TI := { kind := .string, size := 1, bytes := 16, zero := some (.string ⟨#[]⟩) }
abbrev bC : TI := zT 3
abbrev bB : TI := zT 9
abbrev bA : TI := zT 93
abbrev aZ : TI := zT 95
abbrev aY : TI := zT 102
abbrev aX : TI := zS [(0, 27), (1, 28), (2, 29), (3, 30), (4, 3), (5, 3)] 6 112 #[zN, zN, zN, zN, zI, zI]
abbrev aW : TI := zT 4
abbrev aV : TI := zS [(0, 22), (1, 22), (2, 34)] 3 72 #[zN, zN, zN]
abbrev aU : TI := zT 50
abbrev aT : TI := { kind := .int .i64, size := 1, bytes := 8, zero := some (.int .i64 0) }
abbrev aS : TI := zT 53
abbrev aR : TI := zS [(0, 3), (1, 3), (2, 48), (3, 3)] 4 48 #[zI, zI, zN, zI]
abbrev aQ : TI := zS [(0, 3), (1, 4)] 2 16 #[zI, .bool false]
abbrev aP : TI := zT 64
abbrev aO : TI := zS [(0, 3), (1, 3)] 2 16 #[zI, zI]
abbrev aN : TI := zS [(0, 3), (1, 3), (2, 3)] 3 24 #[zI, zI, zI]
abbrev aM : TI := zT 22
abbrev aL : TI := zS [(0, 34), (1, 34)] 2 48 #[zN, zN]
abbrev aK : TI := zS [(0, 3), (1, 3), (2, 3)] 3 24 #[zI, zI, zI]
abbrev aJ : TI := zT 90
abbrev aI : TI := zS [(0, 9), (1, 3), (2, 3), (3, 3), (4, 3), (5, 3), (6, 91)] 7 80 #[.string ⟨#[]⟩, zI, zI, zI, zI, zI, zN]
abbrev aH : TI := zS [(0, 9), (1, 3), (2, 3)] 3 32 #[.string ⟨#[]⟩, zI, zI]
abbrev aG : TI := zS [(0, 22), (1, 3)] 2 32 #[zN, zI]
abbrev Wj : TI := zS [(0, 9), (1, 3), (2, 3), (3, 3), (4, 3)] 5 48 #[.string ⟨#[]⟩, zI, zI, zI, zI]
abbrev Wi : TI := { kind := .map 3 3, size := 1, bytes := 8, zero := some (.map none) }
abbrev Wh : TI := { kind := .map 3 4, size := 1, bytes := 8, zero := some (.map none) }
abbrev Wg : TI := zS [(0, 32), (6, 22), (7, 22)] 8 160 #[zN, zN, zN, zN, zI, zI, zN, zN]
abbrev Wf : TI := zT 5
abbrev We : TI := zA 4 27 4 96 #[zN, zN, zN, zN]
abbrev Wd : TI := { kind := .int .u64, size := 1, bytes := 8, zero := some (.int .u64 0) }
abbrev Wc : TI := zA 24 3 24 192 #[zI, zI, zI, zI, zI, zI, zI, zI, zI, zI, zI, zI, zI, zI, zI, zI, zI, zI, zI, zI, zI, zI, zI, zI]
abbrev Wb : TI := zS [(0, 190), (24, 190)] 48 384 #[zI, zI, zI, zI, zI, zI, zI, zI, zI, zI, zI, zI, zI, zI, zI, zI, zI, zI, zI, zI, zI, zI, zI, zI, zI, zI, zI, zI, zI, zI, zI, zI, zI, zI, zI, zI, zI, zI, zI, zI, zI, zI, zI, zI, zI, zI, zI, zI]
abbrev Wa : TI := { kind := .int .i64, size := 1, bytes := 8, zero := some (.int .i64 0) }
abbrev V9 : TI := { kind := .int .u32, size := 1, bytes := 4, zero := some (.int .u32 0) }
abbrev V8 : TI := { kind := .int .u64, size := 1, bytes := 8, zero := some (.int .u64 0) }
abbrev V7 : TI := { kind := .int .u64, size := 1, bytes := 8, zero := some (.int .u64 0) }
def K1 : TT := (.node (.node (.node (.node (.node (.node .nil 3 dE .nil) 4 dD .nil) 5 dC (.node (.node .nil 9 dB .nil) 22 bC .nil)) 27 bB (.node (.node (.node .nil 28 bA .nil) 29 aZ .nil) 30 aY (.node .nil 32 aX .nil))) 34 aW (.node (.node (.node (.node .nil 36 aV .nil) 38 aU .nil) 39 aT (.node .nil 48 aS .nil)) 50 aR (.node (.node (.node .nil 53 aQ .nil) 58 aP .nil) 61 aO (.node .nil 64 aN .nil)))) 72 aM (.node (.node (.node (.node (.node .nil 86 aL .nil) 90 aK .nil) 91 aJ (.node .nil 93 aI .nil)) 95 aH (.node (.node (.node .nil 97 aG .nil) 102 Wj .nil) 117 Wi (.node .nil 135 Wh .nil))) 148 Wg (.node (.node (.node (.node .nil 150 Wf .nil) 171 We .nil) 183 Wd (.node .nil 190 Wc .nil)) 192 Wb (.node (.node (.node .nil 211 Wa .nil) 217 V9 .nil) 219 V8 (.node .nil 225 V7 .nil)))))
theorem Ta : Up Tryz.prog K1 :=
 ⟨⟨⟨⟨⟨⟨trivial, by kernel_rfl, trivial⟩, by kernel_rfl, trivial⟩, by kernel_rfl, ⟨⟨trivial, by kernel_rfl, trivial⟩, by kernel_rfl, trivial⟩⟩, by kernel_rfl, ⟨⟨⟨trivial, by kernel_rfl, trivial⟩, by kernel_rfl, trivial⟩, by kernel_rfl, ⟨trivial, by kernel_rfl, trivial⟩⟩⟩, by kernel_rfl, ⟨⟨⟨⟨trivial, by kernel_rfl, trivial⟩, by kernel_rfl, trivial⟩, by kernel_rfl, ⟨trivial, by kernel_rfl, trivial⟩⟩, by kernel_rfl, ⟨⟨⟨trivial, by kernel_rfl, trivial⟩, by kernel_rfl, trivial⟩, by kernel_rfl, ⟨trivial, by kernel_rfl, trivial⟩⟩⟩⟩, by kernel_rfl, ⟨⟨⟨⟨⟨trivial, by kernel_rfl, trivial⟩, by kernel_rfl, trivial⟩, by kernel_rfl, ⟨trivial, by kernel_rfl, trivial⟩⟩, by kernel_rfl, ⟨⟨⟨trivial, by kernel_rfl, trivial⟩, by kernel_rfl, trivial⟩, by kernel_rfl, ⟨trivial, by kernel_rfl, trivial⟩⟩⟩, by kernel_rfl, ⟨⟨⟨⟨trivial, by kernel_rfl, trivial⟩, by kernel_rfl, trivial⟩, by kernel_rfl, ⟨trivial, by kernel_rfl, trivial⟩⟩, by kernel_rfl, ⟨⟨⟨trivial, by kernel_rfl, trivial⟩, by kernel_rfl, trivial⟩, by kernel_rfl, ⟨trivial, by kernel_rfl, trivial⟩⟩⟩⟩⟩
theorem Ud : Tryz.prog.follows .mixedOrders = true := by kernel_rfl
theorem Uc (t : Nat) (i : TI) (h : Lu K1 t = some i) : Gt Tryz.prog t = some i := Nd Ta h
noncomputable def Ah : Env := ⟨Tryz.prog, Lu K1, Uc, Ud⟩
theorem Ug : Bld Ah 32 [(0, 1), (1, 1), (2, 1), (3, 1), (4, 1), (5, 1)] [.N, .N, .N, .N, .V 0, .V 0] := ⟨⟨_, _, _, I7⟩⟩
theorem Gg : Bld Ah 61 [(0, 1), (1, 1)] [.V 0, .V 0] := ⟨⟨_, _, _, I7⟩⟩
theorem Gf : Bld Ah 64 [(0, 1), (1, 1), (2, 1)] [.V 0, .V 0, .V 0] := ⟨⟨_, _, _, I7⟩⟩
theorem Ge : Bld Ah 90 [(0, 1), (1, 1), (2, 1)] [.V 0, .V 0, .V 0] := ⟨⟨_, _, _, I7⟩⟩
theorem Uf : Bld Ah 93 [(0, 1), (1, 1), (2, 1), (3, 1), (4, 1), (5, 1), (6, 1)] [.v (.string ⟨#[]⟩), .V 0, .V 0, .V 0, .V 0, .V 0, .N] := ⟨⟨_, _, _, I7⟩⟩
theorem Iz : Bld Ah 95 [(0, 1), (1, 1), (2, 1)] [.v (.string ⟨#[]⟩), .V 0, .V 0] := ⟨⟨_, _, _, I7⟩⟩
theorem Ue : Bld Ah 97 [(0, 1), (1, 1)] [.N, .V 0] := ⟨⟨_, _, _, I7⟩⟩
theorem Lh : Bld Ah 102 [(0, 1), (1, 1), (2, 1), (3, 1), (4, 1)] [.v (.string ⟨#[]⟩), .V 0, .V 0, .V 0, .V 0] := ⟨⟨_, _, _, I7⟩⟩
set_option linter.unusedVariables false
set_option linter.unusedSimpArgs false
structure Point where
 At : Int
 Height : Int
 Limit : Int
 deriving DecidableEq
def By (x : Point) : List T := [.V x.At, .V x.Height, .V x.Limit]
structure Segment where
 Name : ByteArray
 From : Int
 To : Int
 Capacity : Int
 Resist : Int
 Wave : Int
 Points : List Point
 deriving DecidableEq
def Ao (x : Segment) : List T := [.v (.string x.Name), .V x.From, .V x.To, .V x.Capacity, .V x.Resist, .V x.Wave, .list 3 (x.Points.map By)]
structure Port where
 Name : ByteArray
 Node : Int
 Pressure : Int
 deriving DecidableEq
def B1 (x : Port) : List T := [.v (.string x.Name), .V x.Node, .V x.Pressure]
structure Station where
 Name : ByteArray
 Node : Int
 Head : Int
 Fall : Int
 Suction : Int
 deriving DecidableEq
def Az (x : Station) : List T := [.v (.string x.Name), .V x.Node, .V x.Head, .V x.Fall, .V x.Suction]
structure Network where
 Nodes : List ByteArray
 Segments : List Segment
 Ports : List Port
 Stations : List Station
 Vapour : Int
 Settle : Int
 deriving DecidableEq
def Af (x : Network) : List T := [.list 1 (x.Nodes.map rS), .list 7 (x.Segments.map Ao), .list 3 (x.Ports.map B1), .list 5 (x.Stations.map Az), .V x.Vapour, .V x.Settle]
structure flow_streams where
 come : Arr Int 24
 leave : Arr Int 24
 deriving DecidableEq
def Dn (x : flow_streams) : List T := x.come.l.map cI ++ (x.leave.l.map cI ++ [])
structure KS where
 L_ : Li
 At : Int
 deriving DecidableEq
def A0 (x : KS) : List T := [.list 1 (x.L_.map rI), .V x.At]
def My.J1 (a : Int) : Option Int := some a
def My (c : Int) (a : Int) : Option Int := if decide (a < 1) = true then some 0 else (Tf c a).bind fun b => if decide (b < 0) = true then My.J1 (wr (b + a)) else My.J1 b
def Ce (a : Int) (b : Int) (c : Int) : Bool := (decide (a ≥ b) && decide (a ≤ c))
def Qd.J1 (a : Unit) : Option Int := some (-1)
def Qd.B2 (a : Int) (b : Nat) (c : Int) (d : Unit) : Option (Unit ⊕ (Int)) := if (a == c) = true then some ((.inr ((b : Int)))) else some (.inl ())
def Qd (a : Li) (b : Int) : Option Int := (forL (Qd.B2 b) 0 a ()).bind fun c => Sum.elim (fun e => Qd.J1 ()) (fun d => some d) c
def L9.J1 (a : Unit) : Option Int := some (-1)
def L9.B2 (a : ByteArray) (b : Nat) (c : ByteArray) (d : Unit) : Option (Unit ⊕ (Int)) := if Rr a c = true then some ((.inr ((b : Int)))) else some (.inl ())
def L9 (a : List ByteArray) (b : ByteArray) : Option Int := (forL (L9.B2 b) 0 a ()).bind fun c => Sum.elim (fun e => L9.J1 ()) (fun d => some d) c
def Is.J1 (a : Unit) : Option Int := some (-1)
def Is.B2 (a : Int → Option Bool) (b : Nat) (c : Int) (e : Unit) : Option (Unit ⊕ (Int)) := (a c).bind fun d => if d = true then some ((.inr ((b : Int)))) else some (.inl ())
def Is (a : Li) (b : Int → Option Bool) : Option Int := (forL (Is.B2 b) 0 a ()).bind fun c => Sum.elim (fun e => Is.J1 ()) (fun d => some d) c
def L1 (a : Li) (b : Int → Option Bool) : Option Bool := (Is a b).bind fun c => some (decide (c ≥ 0))
def Ma.J1 (a : Unit) : Option Int := some (-1)
def Ma.B2 (a : ByteArray → Option Bool) (b : Nat) (c : ByteArray) (e : Unit) : Option (Unit ⊕ (Int)) := (a c).bind fun d => if d = true then some ((.inr ((b : Int)))) else some (.inl ())
def Ma (a : List ByteArray) (b : ByteArray → Option Bool) : Option Int := (forL (Ma.B2 b) 0 a ()).bind fun c => Sum.elim (fun e => Ma.J1 ()) (fun d => some d) c
def Ml (a : List ByteArray) (b : ByteArray → Option Bool) : Option Bool := (Ma a b).bind fun c => some (decide (c ≥ 0))
def Mx.J1 (a : Unit) : Option Int := some (-1)
def Mx.B2 (a : Segment → Option Bool) (b : Nat) (c : Segment) (e : Unit) : Option (Unit ⊕ (Int)) := (a c).bind fun d => if d = true then some ((.inr ((b : Int)))) else some (.inl ())
def Mx (a : List Segment) (b : Segment → Option Bool) : Option Int := (forL (Mx.B2 b) 0 a ()).bind fun c => Sum.elim (fun e => Mx.J1 ()) (fun d => some d) c
def Kk (a : List Segment) (b : Segment → Option Bool) : Option Bool := (Mx a b).bind fun c => some (decide (c ≥ 0))
def Mh.J1 (a : Unit) : Option Int := some (-1)
def Mh.B2 (a : Port → Option Bool) (b : Nat) (c : Port) (e : Unit) : Option (Unit ⊕ (Int)) := (a c).bind fun d => if d = true then some ((.inr ((b : Int)))) else some (.inl ())
def Mh (a : List Port) (b : Port → Option Bool) : Option Int := (forL (Mh.B2 b) 0 a ()).bind fun c => Sum.elim (fun e => Mh.J1 ()) (fun d => some d) c
def Mt (a : List Port) (b : Port → Option Bool) : Option Bool := (Mh a b).bind fun c => some (decide (c ≥ 0))
def Ki.J1 (a : Unit) : Option Int := some (-1)
def Ki.B2 (a : Station → Option Bool) (b : Nat) (c : Station) (e : Unit) : Option (Unit ⊕ (Int)) := (a c).bind fun d => if d = true then some ((.inr ((b : Int)))) else some (.inl ())
def Ki (a : List Station) (b : Station → Option Bool) : Option Int := (forL (Ki.B2 b) 0 a ()).bind fun c => Sum.elim (fun e => Ki.J1 ()) (fun d => some d) c
def L6 (a : List Station) (b : Station → Option Bool) : Option Bool := (Ki a b).bind fun c => some (decide (c ≥ 0))
def Ib (a : Segment) : Bool := (decide ((a.Points.length : Int) < 2) || decide ((a.Points.length : Int) > 8))
def Mj (a : Network) : Option Bool := if (decide ((a.Nodes.length : Int) < 1) || (decide ((a.Nodes.length : Int) > 24) || (decide ((a.Segments.length : Int) > 32) || (decide ((a.Ports.length : Int) > 24) || decide ((a.Stations.length : Int) > 12))))) = true then some false else (Kk a.Segments (fun x => some (Ib x))).bind fun b => some (!b)
def G4.J1 (a : Unit) : Int := 2
def G4 (a : Int) : Int := if (decide (a ≥ 97) && decide (a ≤ 122)) = true then 1 else if (decide (a ≥ 48) && decide (a ≤ 57)) = true then G4.J1 () else if (a == 45) = true then G4.J1 () else 0
def Gb.J2 (a : Unit) : Option Bool := some true
def Gb.B3 (a : ByteArray) (b : Nat) (d : Unit) : Option (Unit ⊕ (Bool)) := (dP a (b : Int)).bind fun c => if ((G4 c.2) == 0) = true then some ((.inr (false))) else some (.inl ())
def Gb.J1 (a : ByteArray) (b : Bool) : Option Bool := if b = true then some false else (chk ((a.size : Int) ≤ 9223372036854775806)).bind fun e => (forI (Gb.B3 a) 0 ((a.size : Int).toNat) ()).bind fun c => Sum.elim (fun f => Gb.J2 ()) (fun d => some d) c
def Gb (a : ByteArray) : Option Bool := if decide ((a.size : Int) < 1) = true then Gb.J1 a true else if decide ((a.size : Int) > 12) = true then Gb.J1 a true else (dP a 0).bind fun b => Gb.J1 a ((G4 b.2) != 1)
def Kt.J3 (a : Network) (b : List ByteArray) (c : List ByteArray) (d : List ByteArray) : Option (Arr (List ByteArray) 4) := some (⟨[a.Nodes, b, c, d], rfl⟩ : Arr (List ByteArray) 4)
def Kt.B4 (d : Nat) (a : Station) (b : List ByteArray) : Option (List ByteArray) := (C5 b ([a.Name] : List ByteArray)).bind fun c => some c
def Kt.J2 (a : Network) (b : List ByteArray) (c : List ByteArray) : Option (Arr (List ByteArray) 4) := (forS Kt.B4 0 a.Stations []).bind fun d => Kt.J3 a b c d
def Kt.B5 (d : Nat) (a : Port) (b : List ByteArray) : Option (List ByteArray) := (C5 b ([a.Name] : List ByteArray)).bind fun c => some c
def Kt.J1 (a : Network) (b : List ByteArray) : Option (Arr (List ByteArray) 4) := (forS Kt.B5 0 a.Ports []).bind fun c => Kt.J2 a b c
def Kt.B6 (d : Nat) (a : Segment) (b : List ByteArray) : Option (List ByteArray) := (C5 b ([a.Name] : List ByteArray)).bind fun c => some c
def Kt (a : Network) : Option (Arr (List ByteArray) 4) := (forS Kt.B6 0 a.Segments []).bind fun b => Kt.J1 a b
def G0 (a : Station) (b : Station) : Bool := (a.Node == b.Node)
def L0.J2 (a : Unit) : Option Bool := some false
def L0.B3 (a : Network) (b : Nat) (c : Station) (e : Unit) : Option (Unit ⊕ (Bool)) := (Ki a.Stations (fun x => some (G0 x c))).bind fun d => if decide (d < (b : Int)) = true then some ((.inr (true))) else some (.inl ())
def L0.J1 (a : Network) (d : Unit) : Option Bool := (forL (L0.B3 a) 0 a.Stations ()).bind fun b => Sum.elim (fun e => L0.J2 ()) (fun c => some c) b
def L0.J5 (a : Unit) : Option (Unit ⊕ (Bool)) := some (.inl ())
def L0.B6 (a : Nat × (List ByteArray)) (b : Nat) (c : ByteArray) (e : Unit) : Option (Unit ⊕ (Bool)) := (L9 a.2 c).bind fun d => if decide (d < (b : Int)) = true then some ((.inr (true))) else some (.inl ())
def L0.B4 (b : Arr (List ByteArray) 4) (c : Nat) (f : Unit) : Option (Unit ⊕ (Bool)) := (ix b.l (c : Int)).bind fun a => (forL (L0.B6 a) 0 a.2 ()).bind fun d => Sum.elim (fun g => L0.J5 ()) (fun e => some ((.inr (e)))) d
def L0 (a : Network) : Option Bool := (Kt a).bind fun b => (forI (L0.B4 b) 0 4 ()).bind fun c => Sum.elim (fun e => L0.J1 a ()) (fun d => some d) c
def Ie (a : Int) (b : Network) : Bool := (decide (a < 0) || decide (a ≥ (b.Nodes.length : Int)))
def Mw.J3 (a : Network) (b : Li) : Option Bool := (L1 b (fun x => some (Ie x a))).bind fun c => some (!c)
def Mw.B4 (d : Nat) (a : Station) (b : Li) : Option Li := (C5 b ([a.Node] : Li)).bind fun c => some c
def Mw.J2 (a : Network) (b : Li) : Option Bool := (forS Mw.B4 0 a.Stations b).bind fun c => Mw.J3 a c
def Mw.B5 (d : Nat) (a : Port) (b : Li) : Option Li := (C5 b ([a.Node] : Li)).bind fun c => some c
def Mw.J1 (a : Network) (b : Li) : Option Bool := (forS Mw.B5 0 a.Ports b).bind fun c => Mw.J2 a c
def Mw.B6 (d : Nat) (a : Segment) (b : Li) : Option Li := (C5 b ([a.From, a.To] : Li)).bind fun c => some c
def Mw (a : Network) : Option Bool := (forS Mw.B6 0 a.Segments []).bind fun b => Mw.J1 a b
def Ir.J2 (a : Bool) : Option Bool := some a
def Ir.J1 (a : Segment) (d : Unit) : Option Bool := (ix a.Points 0).bind fun b => if (b.2.At == 0) = true then (ix a.Points (wr ((a.Points.length : Int) - 1))).bind fun c => Ir.J2 (c.2.At == a.Capacity) else Ir.J2 false
def Ir.J4 (a : Bool) : Option (Unit ⊕ (Bool)) := if a = true then some ((.inr (false))) else some (.inl ())
def Ir.B3 (c : Segment) (b : Nat) (a : Point) (e : Unit) : Option (Unit ⊕ (Bool)) := if (!(Ce a.Height (-500) 5000)) = true then Ir.J4 true else if (!(Ce a.Limit 0 100000000)) = true then Ir.J4 true else if decide ((b : Int) > 0) = true then (ix c.Points (wr ((b : Int) - 1))).bind fun d => Ir.J4 (decide (a.At ≤ d.2.At)) else Ir.J4 false
def Ir (a : Segment) : Option Bool := if ((a.From == a.To) || ((!(Ce a.Capacity 1 1000000)) || ((!(Ce a.Resist 0 1000)) || (!(Ce a.Wave 0 100000))))) = true then some false else (forL (Ir.B3 a) 0 a.Points ()).bind fun b => Sum.elim (fun d => Ir.J1 a ()) (fun c => some c) b
def P4 (a : Segment) : Option Bool := (Ir a).bind fun b => some (!b)
def If (a : Port) : Bool := (!(Ce a.Pressure 0 100000000))
def Iq (a : Station) : Bool := ((!(Ce a.Head 0 100000000)) || ((!(Ce a.Fall 0 100000)) || (!(Ce a.Suction 0 100000000))))
def Qn (a : Network) : Option Bool := (Kk a.Segments (fun x => P4 x)).bind fun b => if b = true then some false else (Mt a.Ports (fun x => some (If x))).bind fun c => if c = true then some false else (L6 a.Stations (fun x => some (Iq x))).bind fun d => if d = true then some false else some ((Ce a.Vapour (-100000) 100000000) && (Ce a.Settle 0 100))
def Qc (a : ByteArray) : Option Bool := (Gb a).bind fun b => some (!b)
def G3.J1 (a : Network) (e : Unit) : Option Int := (L0 a).bind fun b => if b = true then some 7 else (Mw a).bind fun c => if (!c) = true then some 8 else (Qn a).bind fun d => if (!d) = true then some 9 else some 0
def G3.B2 (a : Arr (List ByteArray) 4) (b : Nat) (e : Unit) : Option (Unit ⊕ (Int)) := (ix a.l (b : Int)).bind fun c => (Ml c.2 (fun x => Qc x)).bind fun d => if d = true then some ((.inr (3))) else some (.inl ())
def G3 (a : Network) : Option Int := (Mj a).bind fun b => if (!b) = true then some 4 else (Kt a).bind fun c => (forI (G3.B2 c) 0 4 ()).bind fun d => Sum.elim (fun f => G3.J1 a ()) (fun e => some e) d
def Qi (a : Li) : Option KS := (Ke a 0 (min (a.length : Int) 2000)).bind fun b => some (⟨b, 0⟩ : KS)
def P6 (a : KS) : Option (Int × KS) := if decide (a.At ≥ (a.L_.length : Int)) = true then some (0, a) else (ix a.L_ (wr ((wr (a.At + 1)) - 1))).bind fun b => some (b.2, (⟨a.L_, wr (a.At + 1)⟩ : KS))
def Cg (b : KS) (c : Int) : Option (Int × KS) := (P6 b).bind fun a => (My a.1 c).bind fun d => some (d, a.2)
def Fa (a : ByteArray) (b : Int) : Option ByteArray := (P3 ([IntKind.u8.wrap (wr (97 + (b.tmod 26)))] : Li)).bind fun c => (Yw a c).bind fun d => some d
def Cf (c : KS) (a : Li) : Option (Int × KS) := (Cg c (a.length : Int)).bind fun b => (ix a b.1).bind fun d => some (d.2, b.2)
def Fy (c : KS) (a : Int) (d : Int) : Option (Int × KS) := (Cg c (wr ((wr (d - a)) + 1))).bind fun b => some (wr (a + b.1), b.2)
def Kq.J2 (b : Li × Int × Int × Int) (e : ByteArray) (c : Int × KS) (f : Int × KS) (g : Int × KS) (h : Int × KS) (a : Li × Int × (List Point)) : Option (Segment × KS) := (Fy (⟨a.1, a.2.1⟩ : KS) (-5) 30).bind fun d => (C5 a.2.2 ([(⟨c.1, d.1, h.1⟩ : Point)] : List Point)).bind fun i => some ((⟨e, b.2.2.1, b.2.2.2, c.1, f.1, g.1, i⟩ : Segment), d.2)
def Kq.J4 (g : Int × KS) (h : Int × KS) (a : Li × Int × (List Point) × Int) (c : Li × Int × Bool) : Option ((Li × Int × (List Point) × Int) ⊕ ((Li × Int × (List Point)))) := if c.2.2 = true then (Fy (⟨c.1, c.2.1⟩ : KS) 1 40).bind fun b => if decide ((wr (a.2.2.2 + b.1)) ≥ g.1) = true then some ((.inr ((b.2.L_, b.2.At, a.2.2.1)))) else (Fy b.2 (-5) 60).bind fun e => (Cf e.2 ([1, 1, 10] : Li)).bind fun f => (Cg f.2 3).bind fun d => (C5 a.2.2.1 ([(⟨wr (a.2.2.2 + b.1), wr (e.1 * f.1), wr (h.1 - (wr (d.1 * 1000)))⟩ : Point)] : List Point)).bind fun i => some (.inl (d.2.L_, d.2.At, i, wr (a.2.2.2 + b.1))) else some ((.inr ((c.1, c.2.1, a.2.2.1))))
def Kq.B3 (c : Int × KS) (d : Int × KS) (a : Li × Int × (List Point) × Int) : Option ((Li × Int × (List Point) × Int) ⊕ ((Li × Int × (List Point)))) := if decide ((a.2.2.1.length : Int) < 7) = true then (Cg (⟨a.1, a.2.1⟩ : KS) 3).bind fun b => Kq.J4 c d a (b.2.L_, b.2.At, decide (b.1 > 0)) else Kq.J4 c d a (a.1, a.2.1, false)
def Kq.J1 (g : Int) (b : Li × Int × Int × Int) : Option (Segment × KS) := (Fa (⟨#[103]⟩ : ByteArray) g).bind fun h => (Cf (⟨b.1, b.2.1⟩ : KS) ([1, 2, 7, 20, 60, 200, 1000] : Li)).bind fun c => (Cf c.2 ([0, 1, 5, 1000] : Li)).bind fun e => (Cf e.2 ([0, 50, 1000, 100000] : Li)).bind fun f => (Cf f.2 ([1000000, 6000000, 100000000] : Li)).bind fun a => (Fy a.2 (-5) 30).bind fun d => (C5 [] ([(⟨0, d.1, a.1⟩ : Point)] : List Point)).bind fun i => (Bj (Kq.B3 c a) Da (d.2.L_, d.2.At, i, 0)).bind fun j => Kq.J2 b h c e f a j
def Kq (e : KS) (b : Int) (c : Int) (d : Int) : Option (Segment × KS) := (Cg e 4).bind fun a => if (a.1 == 0) = true then Kq.J1 b (a.2.L_, a.2.At, d, c) else Kq.J1 b (a.2.L_, a.2.At, c, d)
def Qm.J4 (b : Int × KS) (c : Int × KS) (d : Li × Int × (List ByteArray)) (e : Li × Int × (List Segment)) (a : Li × Int × (List Port) × (List Station)) : Option (Network × KS) := some ((⟨d.2.2, e.2.2, a.2.2.1, a.2.2.2, b.1, c.1⟩ : Network), (⟨a.1, a.2.1⟩ : KS))
def Qm.J6 (b : Li × Int × (List Port) × (List Station) × Int) (a : Li × Int × (List Port) × (List Station)) : Option ((Li × Int × (List Port) × (List Station) × Int) ⊕ ((Li × Int × (List Port) × (List Station)))) := some (.inl (a.1, a.2.1, a.2.2.1, a.2.2.2, wr (b.2.2.2.2 + 1)))
def Qm.J8 (a : Li × Int × (List Port) × (List Station) × Int) (d : Li × Int × (List Port)) (b : Li × Int × Bool) : Option ((Li × Int × (List Port) × (List Station) × Int) ⊕ ((Li × Int × (List Port) × (List Station)))) := if b.2.2 = true then (Fa (⟨#[115]⟩ : ByteArray) (a.2.2.2.1.length : Int)).bind fun g => (Cf (⟨b.1, b.2.1⟩ : KS) ([500000, 2000000, 0] : Li)).bind fun e => (Cf e.2 ([0, 200, 100000] : Li)).bind fun f => (Cf f.2 ([0, 100000, 400000] : Li)).bind fun c => (C5 a.2.2.2.1 ([(⟨g, a.2.2.2.2, e.1, f.1, c.1⟩ : Station)] : List Station)).bind fun h => Qm.J6 a (c.2.L_, c.2.At, d.2.2, h) else Qm.J6 a (b.1, b.2.1, d.2.2, a.2.2.2.1)
def Qm.J7 (d : Li × Int × (List ByteArray)) (b : Li × Int × (List Port) × (List Station) × Int) (a : Li × Int × (List Port)) : Option ((Li × Int × (List Port) × (List Station) × Int) ⊕ ((Li × Int × (List Port) × (List Station)))) := if decide (b.2.2.2.2 < (wr ((d.2.2.length : Int) - 1))) = true then (Cg (⟨a.1, a.2.1⟩ : KS) 3).bind fun c => Qm.J8 b a (c.2.L_, c.2.At, (c.1 == 0)) else Qm.J8 b a (a.1, a.2.1, false)
def Qm.J9 (d : Li × Int × (List ByteArray)) (a : Li × Int × (List Port) × (List Station) × Int) (b : Li × Int × Bool) : Option ((Li × Int × (List Port) × (List Station) × Int) ⊕ ((Li × Int × (List Port) × (List Station)))) := if b.2.2 = true then (Fa (⟨#[113]⟩ : ByteArray) (a.2.2.1.length : Int)).bind fun e => (Cf (⟨b.1, b.2.1⟩ : KS) ([300000, 1000000, 0, 5000000] : Li)).bind fun c => (C5 a.2.2.1 ([(⟨e, a.2.2.2.2, c.1⟩ : Port)] : List Port)).bind fun f => Qm.J7 d a (c.2.L_, c.2.At, f) else Qm.J7 d a (b.1, b.2.1, a.2.2.1)
def Qm.B5 (b : Li × Int × (List ByteArray)) (a : Li × Int × (List Port) × (List Station) × Int) : Option ((Li × Int × (List Port) × (List Station) × Int) ⊕ ((Li × Int × (List Port) × (List Station)))) := if decide (a.2.2.2.2 ≤ (wr ((b.2.2.length : Int) - 1))) = true then if (a.2.2.2.2 == 0) = true then Qm.J9 b a (a.1, a.2.1, true) else if (a.2.2.2.2 == (wr ((b.2.2.length : Int) - 1))) = true then Qm.J9 b a (a.1, a.2.1, true) else (Cg (⟨a.1, a.2.1⟩ : KS) 2).bind fun c => Qm.J9 b a (c.2.L_, c.2.At, (c.1 == 0)) else some ((.inr ((a.1, a.2.1, a.2.2.1, a.2.2.2.1))))
def Qm.J3 (c : Int × KS) (d : Int × KS) (b : Li × Int × (List ByteArray)) (a : Li × Int × (List Segment)) : Option (Network × KS) := (Bj (Qm.B5 b) Da (a.1, a.2.1, [], [], 0)).bind fun e => Qm.J4 c d b a e
def Qm.B10 (d : Li × Int × (List ByteArray)) (a : Li × Int × (List Segment) × Int) : Option ((Li × Int × (List Segment) × Int) ⊕ ((Li × Int × (List Segment)))) := if decide (a.2.2.2 > 0) = true then (Cg (⟨a.1, a.2.1⟩ : KS) (wr ((d.2.2.length : Int) - 1))).bind fun b => (Fy b.2 (wr (b.1 + 1)) (wr ((d.2.2.length : Int) - 1))).bind fun e => (Kq e.2 (a.2.2.1.length : Int) b.1 e.1).bind fun c => (C5 a.2.2.1 ([c.1] : List Segment)).bind fun f => some (.inl (c.2.L_, c.2.At, f, wr (a.2.2.2 - 1))) else some ((.inr ((a.1, a.2.1, a.2.2.1))))
def Qm.J2 (d : Int × KS) (e : Int × KS) (c : Li × Int × (List ByteArray)) (a : Li × Int × (List Segment)) : Option (Network × KS) := (Cg (⟨a.1, a.2.1⟩ : KS) 4).bind fun b => (Bj (Qm.B10 c) Da (b.2.L_, b.2.At, a.2.2, b.1)).bind fun f => Qm.J3 d e c f
def Qm.B11 (c : Li × Int × (List ByteArray)) (a : Li × Int × (List Segment) × Int) : Option ((Li × Int × (List Segment) × Int) ⊕ ((Li × Int × (List Segment)))) := if decide (a.2.2.2 < (wr ((c.2.2.length : Int) - 1))) = true then (Kq (⟨a.1, a.2.1⟩ : KS) (a.2.2.1.length : Int) a.2.2.2 (wr (a.2.2.2 + 1))).bind fun b => (C5 a.2.2.1 ([b.1] : List Segment)).bind fun d => some (.inl (b.2.L_, b.2.At, d, wr (a.2.2.2 + 1))) else some ((.inr ((a.1, a.2.1, a.2.2.1))))
def Qm.J1 (b : Int × KS) (c : Int × KS) (a : Li × Int × (List ByteArray)) : Option (Network × KS) := (Bj (Qm.B11 a) Da (a.1, a.2.1, [], 0)).bind fun d => Qm.J2 b c a d
def Qm.B12 (b : Int × KS) (a : (List ByteArray) × Int) : Option (((List ByteArray) × Int) ⊕ ((Li × Int × (List ByteArray)))) := if decide (a.2 > 0) = true then (Fa (⟨#[110]⟩ : ByteArray) (a.1.length : Int)).bind fun c => (C5 a.1 ([c] : List ByteArray)).bind fun d => some (.inl (d, wr (a.2 - 1))) else some ((.inr ((b.2.L_, b.2.At, a.1))))
def Qm (d : KS) : Option (Network × KS) := (Cf d ([(-100000), 0, 50000] : Li)).bind fun a => (Cf a.2 ([0, 1, 5, 100] : Li)).bind fun b => (Fy b.2 2 6).bind fun c => (Bj (Qm.B12 c) Da ([], c.1)).bind fun e => Qm.J1 a b e
def Bf (a : Int) (b : Int) (c : Int) : Bool := (decide (a ≥ b) && decide (a ≤ c))
def Mq.J3 (a : Network) (b : List ByteArray) (c : List ByteArray) (d : List ByteArray) : Option (Arr (List ByteArray) 4) := some (⟨[a.Nodes, b, c, d], rfl⟩ : Arr (List ByteArray) 4)
def Mq.B4 (d : Nat) (a : Station) (b : List ByteArray) : Option (List ByteArray) := (C5 b ([a.Name] : List ByteArray)).bind fun c => some c
def Mq.J2 (a : Network) (b : List ByteArray) (c : List ByteArray) : Option (Arr (List ByteArray) 4) := (forS Mq.B4 0 a.Stations []).bind fun d => Mq.J3 a b c d
def Mq.B5 (d : Nat) (a : Port) (b : List ByteArray) : Option (List ByteArray) := (C5 b ([a.Name] : List ByteArray)).bind fun c => some c
def Mq.J1 (a : Network) (b : List ByteArray) : Option (Arr (List ByteArray) 4) := (forS Mq.B5 0 a.Ports []).bind fun c => Mq.J2 a b c
def Mq.B6 (d : Nat) (a : Segment) (b : List ByteArray) : Option (List ByteArray) := (C5 b ([a.Name] : List ByteArray)).bind fun c => some c
def Mq (a : Network) : Option (Arr (List ByteArray) 4) := (forS Mq.B6 0 a.Segments []).bind fun b => Mq.J1 a b
def Mp.J2 (a : Unit) : Option Bool := some true
def Mp.J4 (a : Int) (b : Bool) : Option (Int ⊕ (Bool ⊕ Unit)) := if b = true then some ((.inr (.inl (false)))) else some (.inl (wr (a + 1)))
def Mp.B3 (c : ByteArray) (b : Int) : Option (Int ⊕ (Bool ⊕ Unit)) := if decide (b < (c.size : Int)) = true then (dP c b).bind fun a => if decide (a.2 < 97) = true then if decide (a.2 < 48) = true then Mp.J4 b (a.2 != 45) else if decide (a.2 > 57) = true then Mp.J4 b (a.2 != 45) else Mp.J4 b false else if decide (a.2 > 122) = true then if decide (a.2 < 48) = true then Mp.J4 b (a.2 != 45) else if decide (a.2 > 57) = true then Mp.J4 b (a.2 != 45) else Mp.J4 b false else Mp.J4 b false else some ((.inr (.inr (()))))
def Mp.J1 (a : ByteArray) (b : Bool) : Option Bool := if b = true then some false else (Bj (Mp.B3 a) Da 0).bind fun c => Sum.elim (fun d => some d) (fun e => Mp.J2 e) c
def Mp (a : ByteArray) : Option Bool := if decide ((a.size : Int) < 1) = true then Mp.J1 a true else if decide ((a.size : Int) > 12) = true then Mp.J1 a true else (dP a 0).bind fun b => if decide (b.2 < 97) = true then Mp.J1 a true else Mp.J1 a (decide (b.2 > 122))
def Mz.J1 (a : Unit) : Option Bool := some false
def Mz.J3 (a : Unit) : Option (Unit ⊕ (Bool)) := some (.inl ())
def Mz.B4 (b : List ByteArray) (c : Nat) (d : ByteArray) (a : Int) : Option (Int ⊕ (Bool ⊕ Unit)) := if decide (a < (c : Int)) = true then (ix b a).bind fun e => if Rr d e.2 = true then some ((.inr (.inl (true)))) else some (.inl (wr (a + 1))) else some ((.inr (.inr (()))))
def Mz.B2 (a : List ByteArray) (b : Nat) (c : ByteArray) (g : Unit) : Option (Unit ⊕ (Bool)) := (Bj (Mz.B4 a b c) Da 0).bind fun d => Sum.elim (fun e => some ((.inr (e)))) (fun f => Mz.J3 f) d
def Mz (a : List ByteArray) : Option Bool := (forL (Mz.B2 a) 0 a ()).bind fun b => Sum.elim (fun d => Mz.J1 ()) (fun c => some c) b
def Mo.J2 (a : Unit) : Option Bool := some true
def Mo.J4 (a : Bool) : Option (Unit ⊕ (Bool)) := if a = true then some ((.inr (false))) else some (.inl ())
def Mo.B3 (c : Segment) (b : Nat) (a : Point) (e : Unit) : Option (Unit ⊕ (Bool)) := if decide ((b : Int) > 0) = true then (ix c.Points (wr ((b : Int) - 1))).bind fun d => if decide (a.At ≤ d.2.At) = true then Mo.J4 true else if (!(Bf a.Height (-500) 5000)) = true then Mo.J4 true else Mo.J4 (!(Bf a.Limit 0 100000000)) else if (!(Bf a.Height (-500) 5000)) = true then Mo.J4 true else Mo.J4 (!(Bf a.Limit 0 100000000))
def Mo.J1 (a : Segment) (b : Bool) : Option Bool := if b = true then some false else (forL (Mo.B3 a) 0 a.Points ()).bind fun c => Sum.elim (fun e => Mo.J2 ()) (fun d => some d) c
def Mo (a : Segment) : Option Bool := if (a.From == a.To) = true then Mo.J1 a true else if (!(Bf a.Capacity 1 1000000)) = true then Mo.J1 a true else if (!(Bf a.Resist 0 1000)) = true then Mo.J1 a true else if (!(Bf a.Wave 0 100000)) = true then Mo.J1 a true else (ix a.Points 0).bind fun b => if (b.2.At != 0) = true then Mo.J1 a true else (ix a.Points (wr ((a.Points.length : Int) - 1))).bind fun c => Mo.J1 a (c.2.At != a.Capacity)
def Ip.J10 (a : Network) (b : Unit) : Option Int := if ((!(Bf a.Vapour (-100000) 100000000)) || (!(Bf a.Settle 0 100))) = true then some 9 else some 0
def Ip.B11 (b : Nat) (a : Station) (c : Unit) : Option (Unit ⊕ (Int)) := if ((!(Bf a.Head 0 100000000)) || ((!(Bf a.Fall 0 100000)) || (!(Bf a.Suction 0 100000000)))) = true then some ((.inr (9))) else some (.inl ())
def Ip.J9 (a : Network) (d : Unit) : Option Int := (forL Ip.B11 0 a.Stations ()).bind fun b => Sum.elim (fun e => Ip.J10 a ()) (fun c => some c) b
def Ip.B12 (b : Nat) (a : Port) (c : Unit) : Option (Unit ⊕ (Int)) := if (!(Bf a.Pressure 0 100000000)) = true then some ((.inr (9))) else some (.inl ())
def Ip.J8 (a : Network) (d : Unit) : Option Int := (forL Ip.B12 0 a.Ports ()).bind fun b => Sum.elim (fun e => Ip.J9 a ()) (fun c => some c) b
def Ip.B13 (c : Nat) (a : Segment) (d : Unit) : Option (Unit ⊕ (Int)) := (Mo a).bind fun b => if (!b) = true then some ((.inr (9))) else some (.inl ())
def Ip.J7 (a : Network) (d : Unit) : Option Int := (forL Ip.B13 0 a.Segments ()).bind fun b => Sum.elim (fun e => Ip.J8 a ()) (fun c => some c) b
def Ip.B14 (a : Network) (c : Nat) (b : Station) (d : Unit) : Option (Unit ⊕ (Int)) := if (!(Bf b.Node 0 (wr ((a.Nodes.length : Int) - 1)))) = true then some ((.inr (8))) else some (.inl ())
def Ip.J6 (a : Network) (d : Unit) : Option Int := (forL (Ip.B14 a) 0 a.Stations ()).bind fun b => Sum.elim (fun e => Ip.J7 a ()) (fun c => some c) b
def Ip.B15 (a : Network) (c : Nat) (b : Port) (d : Unit) : Option (Unit ⊕ (Int)) := if (!(Bf b.Node 0 (wr ((a.Nodes.length : Int) - 1)))) = true then some ((.inr (8))) else some (.inl ())
def Ip.J5 (a : Network) (d : Unit) : Option Int := (forL (Ip.B15 a) 0 a.Ports ()).bind fun b => Sum.elim (fun e => Ip.J6 a ()) (fun c => some c) b
def Ip.B16 (a : Network) (c : Nat) (b : Segment) (d : Unit) : Option (Unit ⊕ (Int)) := if ((!(Bf b.From 0 (wr ((a.Nodes.length : Int) - 1)))) || (!(Bf b.To 0 (wr ((a.Nodes.length : Int) - 1))))) = true then some ((.inr (8))) else some (.inl ())
def Ip.J4 (a : Network) (d : Unit) : Option Int := (forL (Ip.B16 a) 0 a.Segments ()).bind fun b => Sum.elim (fun e => Ip.J5 a ()) (fun c => some c) b
def Ip.J18 (a : Unit) : Option (Unit ⊕ (Int)) := some (.inl ())
def Ip.B19 (b : Network) (c : Nat) (d : Station) (a : Int) : Option (Int ⊕ (Int ⊕ Unit)) := if decide (a < (c : Int)) = true then (ix b.Stations a).bind fun e => if (d.Node == e.2.Node) = true then some ((.inr (.inl (7)))) else some (.inl (wr (a + 1))) else some ((.inr (.inr (()))))
def Ip.B17 (a : Network) (b : Nat) (c : Station) (g : Unit) : Option (Unit ⊕ (Int)) := (Bj (Ip.B19 a b c) Da 0).bind fun d => Sum.elim (fun e => some ((.inr (e)))) (fun f => Ip.J18 f) d
def Ip.J3 (a : Network) (d : Unit) : Option Int := (forL (Ip.B17 a) 0 a.Stations ()).bind fun b => Sum.elim (fun e => Ip.J4 a ()) (fun c => some c) b
def Ip.B20 (a : Arr (List ByteArray) 4) (b : Nat) (e : Unit) : Option (Unit ⊕ (Int)) := (ix a.l (b : Int)).bind fun c => (Mz c.2).bind fun d => if d = true then some ((.inr (7))) else some (.inl ())
def Ip.J2 (a : Network) (b : Arr (List ByteArray) 4) (e : Unit) : Option Int := (forI (Ip.B20 b) 0 4 ()).bind fun c => Sum.elim (fun f => Ip.J3 a ()) (fun d => some d) c
def Ip.J22 (a : Unit) : Option (Unit ⊕ (Int)) := some (.inl ())
def Ip.B23 (c : Nat) (a : ByteArray) (d : Unit) : Option (Unit ⊕ (Int)) := (Mp a).bind fun b => if (!b) = true then some ((.inr (3))) else some (.inl ())
def Ip.B21 (a : Arr (List ByteArray) 4) (b : Nat) (f : Unit) : Option (Unit ⊕ (Int)) := (ix a.l (b : Int)).bind fun c => (forL Ip.B23 0 c.2 ()).bind fun d => Sum.elim (fun g => Ip.J22 ()) (fun e => some ((.inr (e)))) d
def Ip.J1 (a : Network) (e : Unit) : Option Int := (Mq a).bind fun b => (forI (Ip.B21 b) 0 4 ()).bind fun c => Sum.elim (fun f => Ip.J2 a b ()) (fun d => some d) c
def Ip.B24 (b : Nat) (a : Segment) (c : Unit) : Option (Unit ⊕ (Int)) := if (!(Bf (a.Points.length : Int) 2 8)) = true then some ((.inr (4))) else some (.inl ())
def Ip (a : Network) : Option Int := if ((!(Bf (a.Nodes.length : Int) 1 24)) || (decide ((a.Segments.length : Int) > 32) || (decide ((a.Ports.length : Int) > 24) || decide ((a.Stations.length : Int) > 12)))) = true then some 4 else (forL Ip.B24 0 a.Segments ()).bind fun b => Sum.elim (fun d => Ip.J1 a ()) (fun c => some c) b
end Go.Proofs.YtihdchjpepkpbaaGreat
namespace Go.Aw
set_option linter.unusedVariables false
set_option linter.unusedSimpArgs false
open Go.Sort
theorem Pw {H H' : GH} {w w' : World} {b ty cap : Nat} {a ts es : Li} {cs : Array Value} (hb : w.heap[b]? = some (.cells cs ty (0, 0))) (hsz : cs.size = cap * 1) (hcap : a.length ≤ cap) (hmax : a.length ≤ F0)
  (hl : ts.length = a.length) (hp : es.length ≤ ts.length) (hpre : ts.take es.length = es) (hb' : w'.heap[b]? = some (.cells (putCells (Value.int .i64) 0 ts.toArray cs) ty (0, 0))) : ArrR H' w' b ty 1 cap (es.map rI) := by
 refine ⟨_, hb', by simp [putCells, hsz], by simp; omega, by simp; omega, fun i e he => ?_, fun i e he j x hx => ?_⟩
 ·rw [List.getElem?_map] at he
  obtain ⟨n, _, rfl⟩ := Option.map_eq_some_iff.1 he
  rfl
 ·rw [List.getElem?_map] at he
  obtain ⟨n, hn, rfl⟩ := Option.map_eq_some_iff.1 he
  have hj : j = 0 := by have := (gs hx).1; simp [rI] at this; exact this
  subst hj
  simp [rI] at hx
  subst hx
  have hi := (gs hn).1
  have hti : ts[i]? = some n := by
   rw [← hpre, List.getElem?_take_of_lt hi] at hn; exact hn
  have hil := (gs hti).1
  have : (putCells (Value.int .i64) 0 ts.toArray cs).getD (i * 1 + 0) undef = .int .i64 n := by
   rw [Array.getD_eq_getD_getElem?]
   simp only [putCells, Array.getElem?_mapIdx, Nat.mul_one, Nat.add_zero]
   have hcs : i < cs.size := by omega
   rw [Array.getElem?_eq_getElem hcs]
   simp [hil]
   exact (gs hti).2
  rw [this]
  exact ⟨rfl, .v _⟩
theorem ArrR.held {H : GH} {w : World} {b ty cap : Nat} {a : Li} (h : ArrR H w b ty 1 cap (a.map rI)) :
  ∃ cs, w.heap[b]? = some (.cells cs ty (0, 0)) ∧ cs.size = cap * 1 ∧ a.length ≤ cap ∧ a.length ≤ F0 ∧ Holds (Value.int .i64) w b 0 a.toArray := by
 obtain ⟨cs, c, f, d, e, i, g⟩ := h
 rw [List.length_map] at d e
 refine ⟨cs, c, f, d, e, fun j hj => ⟨?_, by simp [World.frozen?, c]⟩⟩
 have hj' : j < a.length := by simpa using hj
 have := (g j (rI a[j]) (by rw [List.getElem?_map, gq hj']; rfl) 0 (.V a[j]) rfl).2.v_eq
 rw [Nat.mul_one, Nat.add_zero] at this
 have hcs : j < cs.size := by omega
 simp only [World.cell?, c, Nat.zero_add]
 rw [Array.getD_eq_getD_getElem?, Array.getElem?_eq_getElem hcs] at this
 simp at this ⊢
 rw [Array.getElem?_eq_getElem hcs, this]; simp [hj']
theorem Le (l : Li) : (Lib.compact l).length ≤ l.length := by
 unfold Lib.compact Lib.compactUpTo
 rw [List.length_map]
 exact Nat.le_trans (List.length_filter_le _ _) (by simp)
section
variable {E : Env}
def H8 (l : Li) : Li := l.mergeSort fun x y => decide (x ≤ y)
def eB (x : Int) : Li → Li
 | [] => [x]
 | y :: l => if x ≤ y then x :: y :: l else y :: eB x l
def Lt : Li → Li
 | [] => []
 | x :: l => eB x (Lt l)
theorem Na (x : Int) : ∀ l : Li, (eB x l).Perm (x :: l)
 | [] => .refl _
 | y :: l => by
  simp only [eB]
  split
  ·exact .refl _
  ·exact ((Na x l).cons y).trans (.swap x y l)
theorem Gd : ∀ l : Li, (Lt l).Perm l
 | [] => .refl _
 | x :: l => (Na x (Lt l)).trans ((Gd l).cons x)
theorem Zc (x : Int) : ∀ l : Li, l.Pairwise (· ≤ ·) → (eB x l).Pairwise (· ≤ ·)
 | [], _ => by simp [eB]
 | y :: l, h => by
  simp only [eB]
  rw [List.pairwise_cons] at h
  split
  ·rename_i hxy
   refine List.pairwise_cons.2 ⟨fun z hz => ?_, List.pairwise_cons.2 h⟩
   rcases List.mem_cons.1 hz with rfl | hz
   ·exact hxy
   ·have := h.1 z hz; omega
  ·refine List.pairwise_cons.2 ⟨fun z hz => ?_, Zc x l h.2⟩
   rcases List.mem_cons.1 ((Na x l).mem_iff.1 hz) with rfl | hz
   ·omega
   ·exact h.1 z hz
theorem Jk : ∀ l : Li, (Lt l).Pairwise (· ≤ ·)
 | [] => .nil
 | x :: l => Zc x _ (Jk l)
theorem Vo (l : Li) : (H8 l).Pairwise (· ≤ ·) := by
 have := List.pairwise_mergeSort (le := fun x y : Int => decide (x ≤ y)) (by intro a b c; simp; omega) (by intro a b; simp; omega) l
 exact this.imp (by intro a b h; simpa using h)
theorem Ol (l : Li) : H8 l = Lt l :=
 List.Perm.eq_of_pairwise (fun a b _ _ c d => by omega) (Vo l) (Jk l) ((List.mergeSort_perm l _).trans (Gd l).symm)
theorem Iw (l : Li) : (H8 l).length = l.length := by unfold H8; simp
theorem Rq {f : FuncId} {ety : Nat} (hfn : ∃ fn, E.P.funcs[f]? = some fn ∧ (fn.name == "runtime.NumGoroutine") = false ∧ fn.body.isNone = false)
  (hc : ∀ (Fi off cap : Nat) (zs : Li) (w : World), Holds (Value.int .i64) w Fi off zs.toArray → Fi < w.heap.size → zs.length < 4611686018427387904 →
   Calls E.P f #[.slice (some ⟨Fi, off, none⟩) zs.length cap] w fun e w' => e = .returned (.tuple #[]) ∧ ∃ n os, w' = grow (putRow (Value.int .i64) (Sort.ahead w n) Fi off (zs.mergeSort fun x y => decide (x ≤ y)).toArray) os)
  {i : Value} {a : Li} (hne : a ≠ [] ∨ ∀ w, Calls E.P f #[.slice none 0 0] w fun e w' => e = .returned (.tuple #[]) ∧ Go.RowKit.Below w.heap.size w w') :
  ACalls E f [.v i] [.us i ety 1 (a.map rI)] (Er 1 fun x os new => x = .tup [] ∧ os = [.us i ety 1 ((H8 a).map rI)] ∧ new = []) := by
 refine ⟨hfn, fun H w vs hsz hv hheld hfp hnd => ?_⟩
 have hor := (hfp _ (List.mem_singleton.2 rfl)).1
 have hfree := (hfp _ (List.mem_singleton.2 rfl)).2
 rcases (show UsR H w i ety 1 (a.map rI) from hor) with ⟨_, h⟩ | ⟨b, c, cap, rfl, hlc, hcc, harr⟩
 ·rcases hne with hne | hn
  ·exact absurd (List.map_eq_nil_iff.1 h) hne
  rename_i hu
  subst hu
  obtain rfl := List.map_eq_nil_iff.1 h
  have hvs : vs = #[.slice none 0 0] := by
   have := (hv 0 _ rfl).v_eq
   obtain ⟨l⟩ := vs
   match l, hsz, this with
   | [x], _, this => simp [Array.getD] at this; subst this; rfl
  subst hvs
  refine (hn w).mono ?_
  rintro e w' ⟨rfl, q, r, s, hs, hk⟩
  refine ⟨.tuple #[], .tup [], [.us (.slice none 0 0) ety 1 ((H8 []).map rI)], H, rfl, ⟨[_], [], rfl, rfl, rfl, rfl, rfl⟩, .tup _ _ rfl (by simp), fun _ _ h => h, fun b' o ho => ?_, fun p hp => ?_, by simp [Ob.fp, D3], hs, ⟨q, r, s⟩, fun b' hb'' _ => ⟨hk b' hb'', rfl⟩⟩
  ·have d := hheld.1 b' o ho
   rw [hk b' (Array.getElem?_eq_some_iff.1 d).1]; exact d
  ·rw [List.mem_singleton] at hp
   subst hp
   exact ⟨.inl ⟨rfl, by rw [Ol]; rfl⟩, fun b' hb'' => by simp [Ob.fp, D3] at hb''⟩
 rw [List.length_map] at hlc
 obtain ⟨cs, j, t, u, k, hH⟩ := harr.held
 have hbl : b < w.heap.size := (Array.getElem?_eq_some_iff.1 j).1
 have hvs : vs = #[.slice (some ⟨b, 0, none⟩) a.length c] := by
  have := (hv 0 _ rfl).v_eq
  obtain ⟨l⟩ := vs
  match l, hsz, this with
  | [x], _, this => simp [Array.getD] at this; subst this; simp
 subst hvs
 refine (hc b 0 c a w hH hbl (by simp only [F0] at k; omega)).mono ?_
 rintro e w' ⟨rfl, n, os, rfl⟩
 have hb' := heap_sortedI (n := n) (os := os) (a.mergeSort fun x y => decide (x ≤ y)).toArray j
 obtain ⟨z, A, B, C, m⟩ := grownBy_sortedI (w := w) (g := b) (n := n) (os := os) (a.mergeSort fun x y => decide (x ≤ y)).toArray
 have hbH : H b = none := hfree b (by simp [Ob.fp, D3])
 refine ⟨.tuple #[], .tup [], [.us (.slice (some ⟨b, 0, none⟩) (a.map rI).length c) ety 1 ((H8 a).map rI)], H, rfl, ⟨[_], [], rfl, rfl, rfl, rfl, rfl⟩, .tup _ _ rfl (by simp), fun _ _ h => h, fun b' o ho => ?_, fun p hp => ?_, ?_, C, ⟨z, A, B⟩, fun b' hb'' hnin => ⟨?_, rfl⟩⟩
 ·have d := hheld.1 b' o ho
  have hne' : b' ≠ b := fun h => by rw [h, hbH] at ho; cases ho
  have hl' : b' < w.heap.size := (Array.getElem?_eq_some_iff.1 d).1
  rw [m b' hl' (by simp; omega)]; exact d
 ·rw [List.mem_singleton] at hp
  subst hp
  refine ⟨.inr ⟨b, c, cap, by simp [Iw], by simp [Iw]; omega, hcc, ?_⟩, fun b' hb'' => ?_⟩
  ·exact Pw (H := H) j t u k (Iw a) (Nat.le_refl _) (by simp) hb'
  ·simp only [Ob.fp, D3, List.mem_singleton] at hb''
   subst hb''
   exact ⟨hbH, .inr (by simp [Ob.fp, D3])⟩
 ·simp [Ob.fp, D3]
 ·have hne' : b' ≠ b := fun h => hnin (by simp [Ob.fp, D3, h])
  exact m b' hb'' (by simp; omega)
theorem Lm {f : FuncId} {ety : Nat} (hfn : ∃ fn, E.P.funcs[f]? = some fn ∧ (fn.name == "runtime.NumGoroutine") = false ∧ fn.body.isNone = false)
  (hc : ∀ (Fi off cap : Nat) (zs : Li) (w : World), Holds (Value.int .i64) w Fi off zs.toArray → zs.length ≤ 9223372036854775807 → zs.length ≤ cap →
   Calls E.P f #[.slice (some ⟨Fi, off, none⟩) zs.length cap] w fun e w' => e = .returned (.slice (some ⟨Fi, off, none⟩) (Lib.compact zs).length cap) ∧
    ∃ q, w' = putRow (Value.int .i64) (Sort.ahead w q) Fi off (Lib.compact zs ++ List.replicate (zs.length - (Lib.compact zs).length) 0).toArray)
  {i : Value} {a : Li} (hne : a ≠ [] ∨ ∀ w, Calls E.P f #[.slice none 0 0] w fun e w' => e = .returned (.slice none 0 0) ∧ Go.RowKit.Below w.heap.size w w') :
  ACalls E f [.v i] [.us i ety 1 (a.map rI)] (Er 1 fun x os new => ∃ m : Value, x = .v m ∧ os = [.us (.slice none 0 0) ety 1 (([] : Li).map rI)] ∧ new = [.us m ety 1 ((Lib.compact a).map rI)]) := by
 refine ⟨hfn, fun H w vs hsz hv hheld hfp hnd => ?_⟩
 have hor := (hfp _ (List.mem_singleton.2 rfl)).1
 have hfree := (hfp _ (List.mem_singleton.2 rfl)).2
 rcases (show UsR H w i ety 1 (a.map rI) from hor) with ⟨_, h⟩ | ⟨b, c, cap, rfl, hlc, hcc, harr⟩
 ·rcases hne with hne | hn
  ·exact absurd (List.map_eq_nil_iff.1 h) hne
  rename_i hu
  subst hu
  obtain rfl := List.map_eq_nil_iff.1 h
  have hvs : vs = #[.slice none 0 0] := by
   have := (hv 0 _ rfl).v_eq
   obtain ⟨l⟩ := vs
   match l, hsz, this with
   | [x], _, this => simp [Array.getD] at this; subst this; rfl
  subst hvs
  refine (hn w).mono ?_
  rintro e w' ⟨rfl, z, A, B, hs, hk⟩
  refine ⟨_, .N, [.us (.slice none 0 0) ety 1 (([] : Li).map rI), .us (.slice none 0 0) ety 1 ((Lib.compact []).map rI)], H, rfl, ⟨[_], [_], rfl, rfl, _, rfl, rfl, rfl⟩, .v _, fun _ _ h => h, fun b' o ho => ?_, fun p hp => ?_, by simp [Ob.fp, D3], hs, ⟨z, A, B⟩, fun b' hb'' _ => ⟨hk b' hb'', rfl⟩⟩
  ·have d := hheld.1 b' o ho
   rw [hk b' (Array.getElem?_eq_some_iff.1 d).1]; exact d
  ·simp only [List.mem_cons, List.not_mem_nil, or_false] at hp
   rcases hp with rfl | rfl
   ·exact ⟨.inl ⟨rfl, rfl⟩, fun b' hb'' => by simp [Ob.fp, D3] at hb''⟩
   ·exact ⟨.inl ⟨rfl, rfl⟩, fun b' hb'' => by simp [Ob.fp, D3] at hb''⟩
 rw [List.length_map] at hlc
 obtain ⟨cs, j, C, D, r, hH⟩ := harr.held
 have hbl : b < w.heap.size := (Array.getElem?_eq_some_iff.1 j).1
 have hvs : vs = #[.slice (some ⟨b, 0, none⟩) a.length c] := by
  have := (hv 0 _ rfl).v_eq
  obtain ⟨l⟩ := vs
  match l, hsz, this with
  | [x], _, this => simp [Array.getD] at this; subst this; simp
 subst hvs
 have hcl := Le a
 refine (hc b 0 c a w hH (by simp only [F0] at r; omega) hlc).mono ?_
 rintro e w' ⟨rfl, n, rfl⟩
 have hb' := heap_sortedI (n := n) (os := #[]) (Lib.compact a ++ List.replicate (a.length - (Lib.compact a).length) 0).toArray j
 obtain ⟨s, t, u, y, k⟩ := grownBy_sortedI (w := w) (g := b) (n := n) (os := #[]) (Lib.compact a ++ List.replicate (a.length - (Lib.compact a).length) 0).toArray
 rw [grow_empty] at hb' s t u y k
 have hbH : H b = none := hfree b (by simp [Ob.fp, D3])
 refine ⟨_, .v (.slice (some ⟨b, 0, none⟩) (Lib.compact a).length c), [.us (.slice none 0 0) ety 1 (([] : Li).map rI), .us (.slice (some ⟨b, 0, none⟩) (Lib.compact a).length c) ety 1 ((Lib.compact a).map rI)], H, rfl, ⟨[_], [_], rfl, rfl, _, rfl, rfl, rfl⟩, .v _, fun _ _ h => h, fun b' o ho => ?_, fun p hp => ?_, ?_, y, ⟨s, t, u⟩, fun b' hb'' hnin => ⟨?_, rfl⟩⟩
 ·have d := hheld.1 b' o ho
  have hne' : b' ≠ b := fun h => by rw [h, hbH] at ho; cases ho
  have hl' : b' < w.heap.size := (Array.getElem?_eq_some_iff.1 d).1
  rw [k b' hl' (by simp; omega)]; exact d
 ·simp only [List.mem_cons, List.not_mem_nil, or_false] at hp
  rcases hp with rfl | rfl
  ·exact ⟨.inl ⟨rfl, rfl⟩, fun b' hb'' => by simp [Ob.fp, D3] at hb''⟩
  refine ⟨.inr ⟨b, c, cap, by simp, by simp; omega, hcc, ?_⟩, fun b' hb'' => ?_⟩
  ·exact Pw (H := H) j C D r (by simp; omega) (by simp) (by simp) hb'
  ·simp only [Ob.fp, D3, List.mem_singleton] at hb''
   subst hb''
   exact ⟨hbH, .inr (by simp [Ob.fp, D3])⟩
 ·simp [Ob.fp, D3]
 ·have hne' : b' ≠ b := fun h => hnin (by simp [Ob.fp, D3, h])
  exact k b' hb'' (by simp; omega)
end
end Go.Aw
namespace Go.Proofs.YtihdchjpepkpbaaGreat
open Go.Aw
set_option linter.unusedVariables false
set_option linter.unusedSimpArgs false
structure Balance where
 In : Int
 Out : Int
 Pack : Int
 deriving DecidableEq
def A1 (x : Balance) : List T := [.V x.In, .V x.Out, .V x.Pack]
structure Accuracy where
 Meter : Int
 Pack : Int
 deriving DecidableEq
def Am (x : Accuracy) : List T := [.V x.Meter, .V x.Pack]
def Qk.J1 (a : Unit) : Option Int := some (-1)
def Qk.B2 (a : Balance → Option Bool) (b : Nat) (c : Balance) (e : Unit) : Option (Unit ⊕ (Int)) := (a c).bind fun d => if d = true then some ((.inr ((b : Int)))) else some (.inl ())
def Qk (a : List Balance) (b : Balance → Option Bool) : Option Int := (forL (Qk.B2 b) 0 a ()).bind fun c => Sum.elim (fun e => Qk.J1 ()) (fun d => some d) c
def Md (a : List Balance) (b : Balance → Option Bool) : Option Bool := (Qk a b).bind fun c => some (decide (c ≥ 0))
def Ea (a : Int) : Bool := (decide (a ≥ 0) && decide (a ≤ 1099511627776))
def Km (a : Balance) : Bool := ((!(Ea a.In)) || ((!(Ea a.Out)) || (!(Ea a.Pack))))
def Ia (a : List Balance) : Option Int := if decide ((a.length : Int) > 400) = true then some 4 else (Md a (fun x => some (Km x))).bind fun b => if b = true then some 1 else some 0
def Db (a : Accuracy) : Bool := (decide (a.Meter ≥ 0) && (decide (a.Meter ≤ 100000) && (Ea a.Pack)))
def Mm (d : List Balance) (e : Accuracy) (a : Int) (b : Int) : Option Int := (Ia d).bind fun c => if (c != 0) = true then some c else if ((!(Db e)) || (decide (b < 0) || decide (b > 1099511627776))) = true then some 1 else if (decide (a < 1) || decide (a > 400)) = true then some 25 else some 0
def Ga (c : List Balance) (a : Int) (b : Int) : Bool := (decide (a ≥ 0) && (decide (a < b) && decide (b < (c.length : Int))))
def Kl (a : List Balance) (c : Accuracy) (d : Int) (e : Int) : Option Int := (Ia a).bind fun b => if (b != 0) = true then some b else if (!(Db c)) = true then some 1 else if (!(Ga a d e)) = true then some 25 else some 0
def Ih.J1 (a : Int × Int) : Option (Int × Int) := some (a.1, a.2)
def Ih.B2 (c : Nat) (a : Balance) (b : Int × Int) : Option (Int × Int) := some (wr (b.1 + a.In), wr (b.2 + a.Out))
def Ih (c : List Balance) (d : Int) (a : Int) : Option (Int × Int) := (Ru c (wr (d + 1)) (wr (a + 1)) (wr (a + 1))).bind fun e => (forS Ih.B2 0 e (0, 0)).bind fun b => Ih.J1 (b.1, b.2)
def Qe (a : List Balance) (b : Int) (c : Int) : Option Int := (Ih a b c).bind fun d => (ix a c).bind fun e => (ix a b).bind fun f => some (wr ((wr ((wr (d.1 - d.2)) - e.2.Pack)) + f.2.Pack))
def Il.J1 (a : Int × Int) : Option (Int × Int × Bool) := some (a.1, a.2, true)
def Il (b : Int) (a : Int) : Option (Int × Int × Bool) := if (decide (a < 1) || (decide (a > 1099511627776) || (decide (b < (-2305843009213693952)) || decide (b > 2305843009213693952)))) = true then some (0, 0, false) else (Pz b a).bind fun d => (Tf b a).bind fun c => if decide (c < 0) = true then Il.J1 (wr (d - 1), wr (c + a)) else Il.J1 (d, c)
def L8.J1 (a : Int) : Option Int := some a
def L8 (b : Int) (c : Int) : Option Int := (Il b c).bind fun a => if (a.2.2 && decide (a.2.1 > 0)) = true then L8.J1 (wr (a.1 + 1)) else L8.J1 a.1
def Mk (a : Int) (b : Int) : Option Int := (L8 (wr ((a.tmod 1000000) * b)) 1000000).bind fun c => some (wr ((wr ((wr (a.tdiv 1000000)) * b)) + c))
def Mg (c : List Balance) (a : Accuracy) (d : Int) (e : Int) : Option Int := (Ih c d e).bind fun b => (Mk b.1 a.Meter).bind fun f => (Mk b.2 a.Meter).bind fun g => some (wr ((wr (f + g)) + (wr (2 * a.Pack))))
def Kj (a : List Balance) (d : Accuracy) (b : Int) (c : Int) : Option (Int × Int × Int) := (Kl a d b c).bind fun e => if (e != 0) = true then some (0, 0, e) else (Qe a b c).bind fun f => (Mg a d b c).bind fun g => some (wr (f - g), wr (f + g), 0)
def Im.J1 (a : Li) : Option (Li × Int) := some (a, 0)
def Im.J3 (a : Li × Int) (b : Li) : Option ((Li × Int) ⊕ ((Li × Int) ⊕ Li)) := some (.inl (b, wr (a.2 + 1)))
def Im.B2 (c : List Balance) (d : Accuracy) (e : Int) (f : Int) (a : Li × Int) : Option ((Li × Int) ⊕ ((Li × Int) ⊕ Li)) := if decide (a.2 < (c.length : Int)) = true then (Kj c d (wr (a.2 - e)) a.2).bind fun b => if (b.2.2 != 0) = true then some ((.inr (.inl (([], b.2.2))))) else if decide (b.1 > f) = true then (C5 a.1 ([a.2] : Li)).bind fun g => Im.J3 a g else Im.J3 a a.1 else some ((.inr (.inr (a.1))))
def Im (b : List Balance) (c : Accuracy) (a : Int) (d : Int) : Option (Li × Int) := (Mm b c a d).bind fun e => if (e != 0) = true then some ([], e) else (Bj (Im.B2 b c a d) Da ([], a)).bind fun f => Sum.elim (fun g => some g) (fun h => Im.J1 h) f
def Qb (a : List Balance) (b : Accuracy) (c : Int) (d : Int) : Option (Int × Int) := (Kl a b c d).bind fun e => if (e != 0) = true then some (0, e) else (Mg a b c d).bind fun f => some (f, 0)
def Ku.J1 (a : Int) : Option (Int × Int) := some (a, 0)
def Ku.B2 (c : List Balance) (e : Accuracy) (d : Int) (f : Int) (a : Int × Int) : Option ((Int × Int) ⊕ ((Int × Int) ⊕ Int)) := if decide (a.2 < (c.length : Int)) = true then (Qb c e (wr (a.2 - d)) a.2).bind fun b => if (b.2 != 0) = true then some ((.inr (.inl ((0, b.2))))) else (Pz (wr ((wr (2 * b.1)) + f)) d).bind fun g => some (.inl ((max a.1 (wr (g + 1))), wr (a.2 + 1))) else some ((.inr (.inr (a.1))))
def Ku (b : List Balance) (c : Accuracy) (a : Int) (d : Int) : Option (Int × Int) := (Mm b c a d).bind fun e => if (e != 0) = true then some (0, e) else (Bj (Ku.B2 b c a d) Da (1, a)).bind fun f => Sum.elim (fun g => some g) (fun h => Ku.J1 h) f
def P7 (a : Int) (b : Int) : Option Int := (Il a b).bind fun c => some c.1
def Ms (d : List Balance) (e : Accuracy) (b : Int) (c : Int) : Option (Int × Int × Int) := (Kj d e b c).bind fun a => if (a.2.2 != 0) = true then some (0, 0, a.2.2) else (P7 a.1 (wr (c - b))).bind fun f => (L8 a.2.1 (wr (c - b))).bind fun g => some ((max 0 f), g, 0)
def Qg.J1 (a : Bool) : Option Bool := some a
def Qg : Option Bool := (Im ([(⟨0, 0, 9⟩ : Balance), (⟨8, 5, 9⟩ : Balance), (⟨8, 5, 9⟩ : Balance)] : List Balance) (⟨0, 0⟩ : Accuracy) 2 5).bind fun a => (Ku ([(⟨0, 0, 9⟩ : Balance), (⟨8, 5, 9⟩ : Balance), (⟨8, 5, 9⟩ : Balance)] : List Balance) (⟨0, 0⟩ : Accuracy) 2 5).bind fun b => (Im ([(⟨0, 0, 9⟩ : Balance), (⟨8, 5, 9⟩ : Balance), (⟨8, 5, 9⟩ : Balance)] : List Balance) (⟨0, 0⟩ : Accuracy) 2 6).bind fun c => if (a.2 == 0) = true then if (b.2 == 0) = true then if (c.2 == 0) = true then if ((a.1.length : Int) == 1) = true then (ix a.1 0).bind fun d => if (d.2 == 2) = true then if (b.1 == 3) = true then Qg.J1 ((c.1.length : Int) == 0) else Qg.J1 false else Qg.J1 false else Qg.J1 false else Qg.J1 false else Qg.J1 false else Qg.J1 false
def Mf.J1 (a : Unit) : Option Bool := some false
def Mf.J3 (a : Bool) : Option (Unit ⊕ (Bool)) := if a = true then some ((.inr (true))) else some (.inl ())
def Mf.B2 (b : Segment) (c : Segment) (d : List Bool) (e : Nat) (g : Unit) : Option (Unit ⊕ (Bool)) := (ix ([b.From, b.To] : Li) (e : Int)).bind fun a => (ix d a.2).bind fun f => if (!f.2) = true then if (a.2 == c.From) = true then Mf.J3 true else Mf.J3 (a.2 == c.To) else Mf.J3 false
def Mf (a : Segment) (b : Segment) (c : List Bool) : Option Bool := (forI (Mf.B2 a b c) 0 (([a.From, a.To] : Li).length) ()).bind fun d => Sum.elim (fun f => Mf.J1 ()) (fun e => some e) d
def Qf (l : List (Int × Int)) (a b : Int) : Option (List (Int × Int)) := if (l.map Prod.fst).Nodup then some (l.map fun kx => (kx.1, if (kx.2 == a || kx.2 == b) = true then min a b else kx.2)) else none
def Ik.J2 (a : List Li) : Option ((List Li) × Int) := some (a, 0)
def Ik.J4 (c : Nat) (a : (List (Int × Int)) × (List Li) × Int) : Option ((List (Int × Int)) × (List Li)) := (ix a.2.1 a.2.2).bind fun b => (C5 b.2 ([(c : Int)] : Li)).bind fun d => some (a.1, (a.2.1.set b.1 d))
def Ik.B3 (c : List (Int × Int)) (b : Nat) (e : Segment) (a : (List (Int × Int)) × (List Li)) : Option ((List (Int × Int)) × (List Li)) := if (!((Cs a.1 ((Cs c (b : Int)).getD (0 : Int))).isSome)) = true then (C5 a.2 [[]]).bind fun d => Ik.J4 b ((Gu a.1 ((Cs c (b : Int)).getD (0 : Int)) (a.2.length : Int)), d, (a.2.length : Int)) else Ik.J4 b (a.1, a.2, ((Cs a.1 ((Cs c (b : Int)).getD (0 : Int))).getD (0 : Int)))
def Ik.J1 (a : Network) (b : List (Int × Int)) : Option ((List Li) × Int) := (forS (Ik.B3 b) 0 a.Segments (([] : List (Int × Int)), [])).bind fun c => Ik.J2 c.2
def Ik.J6 (a : List (Int × Int)) : Option (List (Int × Int)) := some a
def Ik.J8 (a : List (Int × Int)) : Option (List (Int × Int)) := some a
def Ik.J9 (b : Nat) (c : Nat) (a : List (Int × Int)) (d : Bool) : Option (List (Int × Int)) := if d = true then (Qf a ((Cs a (c : Int)).getD (0 : Int)) ((Cs a (b : Int)).getD (0 : Int))).bind fun e => Ik.J8 e else Ik.J8 a
def Ik.B7 (d : Network) (e : List Bool) (c : Nat) (f : Segment) (a : Nat) (b : List (Int × Int)) : Option (List (Int × Int)) := (ix d.Segments (a : Int)).bind fun g => (Mf f g.2 e).bind fun h => if h = true then Ik.J9 c a b (((Cs b (a : Int)).getD (0 : Int)) != ((Cs b (c : Int)).getD (0 : Int))) else Ik.J9 c a b false
def Ik.B5 (b : Network) (c : List Bool) (a : Nat) (d : Segment) (e : List (Int × Int)) : Option (List (Int × Int)) := (chk ((a : Int) ≤ 9223372036854775806)).bind fun g => (forJ (Ik.B7 b c a d) 0 ((a : Int).toNat) (Gu e (a : Int) (a : Int))).bind fun f => Ik.J6 f
def Ik (a : Network) (b : List Bool) : Option ((List Li) × Int) := (G3 a).bind fun c => if (c != 0) = true then some ([], c) else if ((b.length : Int) != (a.Nodes.length : Int)) = true then some ([], 9) else (forS (Ik.B5 a b) 0 a.Segments ([] : List (Int × Int))).bind fun d => Ik.J1 a d
def Qh.J1 (a : Unit) : Option Int := some (-1)
def Qh.B2 (a : Li → Option Bool) (b : Nat) (c : Li) (e : Unit) : Option (Unit ⊕ (Int)) := (a c).bind fun d => if d = true then some ((.inr ((b : Int)))) else some (.inl ())
def Qh (a : List Li) (b : Li → Option Bool) : Option Int := (forL (Qh.B2 b) 0 a ()).bind fun c => Sum.elim (fun e => Qh.J1 ()) (fun d => some d) c
def Me (a : List Li) (b : Li → Option Bool) : Option Bool := (Qh a b).bind fun c => some (decide (c ≥ 0))
def G1 (a : Li) : Bool := (decide ((a.length : Int) > 32))
def P8 (a : Li) : Option Li := C5 [] a
def L3.J1 (a : Li × Int) : Option Li := (Ke a.1 0 a.2).bind fun b => some b
def L3.J3 (b : Li × Int × Int) (a : Li × Int) : Option ((Li × Int × Int) ⊕ ((Li × Int))) := some (.inl (a.1, a.2, wr (b.2.2 + 1)))
def L3.B2 (c : Int → Option Bool) (a : Li × Int × Int) : Option ((Li × Int × Int) ⊕ ((Li × Int))) := if decide (a.2.2 < (a.1.length : Int)) = true then (ix a.1 a.2.2).bind fun b => (c b.2).bind fun d => if (!d) = true then (ix a.1 a.2.1).bind fun e => L3.J3 a ((a.1.set e.1 b.2), wr (a.2.1 + 1)) else L3.J3 a (a.1, a.2.1) else some ((.inr ((a.1, a.2.1))))
def L3 (a : Li) (c : Int → Option Bool) : Option Li := (Is a c).bind fun b => if (b == (-1)) = true then some a else (Bj (L3.B2 c) Da (a, b, wr (b + 1))).bind fun d => L3.J1 d
def L7 (a : Li) (b : Int) : Option Bool := (Qd a b).bind fun c => some (decide (c ≥ 0))
def Mv (a : Int) (b : Li) : Option Bool := (L7 b a).bind fun c => some (!c)
def Ql (a : Li) : Option Li := some (Lt a)
def Qp (a : Li) : Option Li := some (Go.Lib.compact a)
def Gz.J2 (a : Li) : Option (Li × Int) := (Ql a).bind fun b => (Qp b).bind fun c => some (c, 0)
def Gz.J4 (a : Li × Bool) : Option (Li × Bool) := some (a.1, a.2)
def Gz.B3 (c : List Bool) (d : Nat) (b : Li) (a : Li × Bool) : Option (Li × Bool) := (ix c (d : Int)).bind fun e => if (!e.2) = true then Gz.J4 (a.1, a.2) else if a.2 = true then (P8 b).bind fun f => Gz.J4 (f, false) else (L3 a.1 (fun x => Mv x b)).bind fun g => Gz.J4 (g, a.2)
def Gz.J1 (a : List Li) (b : List Bool) (c : Bool) : Option (Li × Int) := if c = true then some ([], 4) else (forS (Gz.B3 b) 0 a ([], true)).bind fun d => Gz.J2 d.1
def Gz (a : List Li) (b : List Bool) : Option (Li × Int) := if ((b.length : Int) != (a.length : Int)) = true then some ([], 9) else if decide ((a.length : Int) > 64) = true then Gz.J1 a b true else (Me a (fun x => some (G1 x))).bind fun c => Gz.J1 a b c
def Ei (a : Int) : Bool := (decide (a ≥ 0) && decide (a ≤ 1099511627776))
def G2.J1 (a : Unit) : Option Int := some 0
def G2.J3 (a : Int) (b : Bool) : Option (Int ⊕ (Int ⊕ Unit)) := if b = true then some ((.inr (.inl (1)))) else some (.inl (wr (a + 1)))
def G2.B2 (c : List Balance) (a : Int) : Option (Int ⊕ (Int ⊕ Unit)) := if decide (a < (c.length : Int)) = true then (ix c a).bind fun b => if (!(Ei b.2.In)) = true then G2.J3 a true else if (!(Ei b.2.Out)) = true then G2.J3 a true else G2.J3 a (!(Ei b.2.Pack)) else some ((.inr (.inr (()))))
def G2 (a : List Balance) : Option Int := if decide ((a.length : Int) > 400) = true then some 4 else (Bj (G2.B2 a) Da 0).bind fun b => Sum.elim (fun c => some c) (fun d => G2.J1 d) b
def Ig (a : Accuracy) : Bool := (decide (a.Meter ≥ 0) && (decide (a.Meter ≤ 100000) && (Ei a.Pack)))
def Mn (d : List Balance) (e : Accuracy) (a : Int) (b : Int) : Option Int := (G2 d).bind fun c => if (c != 0) = true then some c else if ((!(Ig e)) || (decide (b < 0) || decide (b > 1099511627776))) = true then some 1 else if (decide (a < 1) || decide (a > 400)) = true then some 25 else some 0
def D9 (c : List Balance) (b : Int) (a : Int) : Int := if (decide (a < 0) || (decide (a ≥ (c.length : Int)) || (decide (b < 0) || decide (b ≥ a)))) = true then 25 else 0
def Ko.J1 (a : Int) : Option Int := some a
def Ko.B2 (c : List Balance) (d : Int) (a : Int × Int) : Option ((Int × Int) ⊕ (Int)) := if decide (a.2 ≤ d) = true then (ix c a.2).bind fun b => some (.inl (wr ((wr (a.1 + b.2.In)) - b.2.Out), wr (a.2 + 1))) else some ((.inr (a.1)))
def Ko (a : List Balance) (b : Int) (c : Int) : Option Int := (ix a b).bind fun d => (ix a c).bind fun e => (Bj (Ko.B2 a c) Da (wr (d.2.Pack - e.2.Pack), wr (b + 1))).bind fun f => Ko.J1 f
def Qa (a : List Balance) (b : Int) (c : Int) : Option (Int × Int) := (G2 a).bind fun d => if (d != 0) = true then some (0, d) else if ((D9 a b c) != 0) = true then some (0, (D9 a b c)) else (Ko a b c).bind fun e => some (e, 0)
def D2 (a : Int) (b : Int) : Int := (wr ((wr ((wr (a.tdiv 1000000)) * b)) + (wr ((wr ((wr ((a.tmod 1000000) * b)) + 999999)).tdiv 1000000))))
def Kp.J1 (a : Accuracy) (b : Int × Int) : Option Int := some (wr ((wr ((D2 b.1 a.Meter) + (D2 b.2 a.Meter))) + (wr (2 * a.Pack))))
def Kp.B2 (c : List Balance) (d : Int) (a : Int × Int × Int) : Option ((Int × Int × Int) ⊕ ((Int × Int))) := if decide (a.2.2 ≤ d) = true then (ix c a.2.2).bind fun b => some (.inl (wr (a.1 + b.2.In), wr (a.2.1 + b.2.Out), wr (a.2.2 + 1))) else some ((.inr ((a.1, a.2.1))))
def Kp (a : List Balance) (b : Accuracy) (c : Int) (d : Int) : Option Int := (Bj (Kp.B2 a d) Da (0, 0, wr (c + 1))).bind fun e => Kp.J1 b e
def F9 (a : List Balance) (d : Accuracy) (b : Int) (c : Int) : Option (Int × Int) := (G2 a).bind fun e => if (e != 0) = true then some (0, e) else if (!(Ig d)) = true then some (0, 1) else if ((D9 a b c) != 0) = true then some (0, (D9 a b c)) else (Kp a d b c).bind fun f => some (f, 0)
def Mu.J1 (a : Li) : Option (Li × Int) := some (a, 0)
def Mu.J3 (a : Li × Int) (b : Li) : Option ((Li × Int) ⊕ (Li)) := some (.inl (b, wr (a.2 + 1)))
def Mu.B2 (b : List Balance) (d : Accuracy) (c : Int) (e : Int) (a : Li × Int) : Option ((Li × Int) ⊕ (Li)) := if decide (a.2 < (b.length : Int)) = true then (Qa b (wr (a.2 - c)) a.2).bind fun f => (F9 b d (wr (a.2 - c)) a.2).bind fun g => if decide (f.1 > (wr (g.1 + e))) = true then (C5 a.1 ([a.2] : Li)).bind fun h => Mu.J3 a h else Mu.J3 a a.1 else some ((.inr (a.1)))
def Mu (b : List Balance) (c : Accuracy) (a : Int) (d : Int) : Option (Li × Int) := (Mn b c a d).bind fun e => if (e != 0) = true then some ([], e) else (Bj (Mu.B2 b c a d) Da ([], a)).bind fun f => Mu.J1 f
def L2.J1 (a : Int) : Option (Int × Int) := some (a, 0)
def L2.B2 (b : List Balance) (d : Accuracy) (c : Int) (e : Int) (a : Int × Int) : Option ((Int × Int) ⊕ (Int)) := if decide (a.2 < (b.length : Int)) = true then (F9 b d (wr (a.2 - c)) a.2).bind fun f => (Pz (wr ((wr (2 * f.1)) + e)) c).bind fun g => some (.inl ((max a.1 (wr (g + 1))), wr (a.2 + 1))) else some ((.inr (a.1)))
def L2 (b : List Balance) (c : Accuracy) (a : Int) (d : Int) : Option (Int × Int) := (Mn b c a d).bind fun e => if (e != 0) = true then some (0, e) else (Bj (L2.B2 b c a d) Da (1, a)).bind fun f => L2.J1 f
def Qj (b : List Balance) (f : Accuracy) (c : Int) (d : Int) : Option (Int × Int × Int) := (F9 b f c d).bind fun a => if (a.2 != 0) = true then some (0, 0, a.2) else (Ko b c d).bind fun e => some (wr (e - a.1), wr (e + a.1), 0)
def Kn (a : Int) (b : Int) : Bool := (decide (b ≥ 1) && (decide (b ≤ 1099511627776) && (decide (a ≥ (-2305843009213693952)) && decide (a ≤ 2305843009213693952))))
def Mr.J1 (a : Int) : Option Int := some a
def Mr (a : Int) (b : Int) : Option Int := if (!(Kn a b)) = true then some 0 else (Pz a b).bind fun c => (Tf a b).bind fun d => if decide (d < 0) = true then Mr.J1 (wr (c - 1)) else Mr.J1 c
def L4.J1 (a : Int) : Option Int := some a
def L4 (a : Int) (b : Int) : Option Int := if (!(Kn a b)) = true then some 0 else (Pz a b).bind fun c => (Tf a b).bind fun d => if decide (d > 0) = true then L4.J1 (wr (c + 1)) else L4.J1 c
def L5 (d : List Balance) (e : Accuracy) (b : Int) (c : Int) : Option (Int × Int × Int) := (Qj d e b c).bind fun a => if (a.2.2 != 0) = true then some (0, 0, a.2.2) else (Mr a.1 (wr (c - b))).bind fun f => (L4 a.2.1 (wr (c - b))).bind fun g => some ((max 0 f), g, 0)
def Mi.J2 (a : Unit) : Option Bool := some false
def Mi.J4 (a : Int) (b : Bool) : Option (Int ⊕ (Bool ⊕ Unit)) := if b = true then some ((.inr (.inl (true)))) else some (.inl (wr (a + 1)))
def Mi.B3 (c : List Bool) (b : ByteArray × Int × Int × Int × Int × Int × (List Point) × ByteArray × Int × Int × Int × Int × Int × (List Point)) (a : Int) : Option (Int ⊕ (Bool ⊕ Unit)) := if decide (a < (c.length : Int)) = true then (ix c a).bind fun d => if (!d.2) = true then if (b.2.1 == a) = true then if (b.2.2.2.2.2.2.2.2.1 == a) = true then Mi.J4 a true else Mi.J4 a (b.2.2.2.2.2.2.2.2.2.1 == a) else if (b.2.2.1 == a) = true then if (b.2.2.2.2.2.2.2.2.1 == a) = true then Mi.J4 a true else Mi.J4 a (b.2.2.2.2.2.2.2.2.2.1 == a) else Mi.J4 a false else Mi.J4 a false else some ((.inr (.inr (()))))
def Mi.J1 (a : List Bool) (b : ByteArray × Int × Int × Int × Int × Int × (List Point) × ByteArray × Int × Int × Int × Int × Int × (List Point)) : Option Bool := (Bj (Mi.B3 a b) Da 0).bind fun c => Sum.elim (fun d => some d) (fun e => Mi.J2 e) c
def Mi (c : Network) (d : List Bool) (e : Int) (f : Int) : Option Bool := (ix c.Segments e).bind fun a => (ix c.Segments f).bind fun b => Mi.J1 d (a.2.Name, a.2.From, a.2.To, a.2.Capacity, a.2.Resist, a.2.Wave, a.2.Points, b.2.Name, b.2.From, b.2.To, b.2.Capacity, b.2.Resist, b.2.Wave, b.2.Points)
def Ic.J3 (a : List Li) : Option ((List Li) × Int) := some (a, 0)
def Ic.J5 (a : (List Li) × Int) (b : List Li) : Option (((List Li) × Int) ⊕ ((List Li))) := some (.inl (b, wr (a.2 + 1)))
def Ic.J6 (a : (List Li) × Int) (b : Li) : Option (((List Li) × Int) ⊕ ((List Li))) := if decide ((b.length : Int) > 0) = true then (C5 a.1 ([b] : List Li)).bind fun c => Ic.J5 a c else Ic.J5 a a.1
def Ic.J8 (a : Li × Int) (b : Li) : Option ((Li × Int) ⊕ (Li)) := some (.inl (b, wr (a.2 + 1)))
def Ic.B7 (b : Li) (c : (List Li) × Int) (a : Li × Int) : Option ((Li × Int) ⊕ (Li)) := if decide (a.2 < (b.length : Int)) = true then (ix b a.2).bind fun d => if (d.2 == c.2) = true then (C5 a.1 ([a.2] : Li)).bind fun e => Ic.J8 a e else Ic.J8 a a.1 else some ((.inr (a.1)))
def Ic.B4 (b : Li) (a : (List Li) × Int) : Option (((List Li) × Int) ⊕ ((List Li))) := if decide (a.2 < (b.length : Int)) = true then (Bj (Ic.B7 b a) Da ([], 0)).bind fun c => Ic.J6 a c else some ((.inr (a.1)))
def Ic.J2 (a : Li) : Option ((List Li) × Int) := (Bj (Ic.B4 a) Da ([], 0)).bind fun b => Ic.J3 b
def Ic.J11 (b : Li × Bool × Int) (a : Li × Bool) : Option ((Li × Bool × Int) ⊕ ((Li × Bool))) := some (.inl (a.1, a.2, wr (b.2.2 + 1)))
def Ic.J13 (b : Li × Bool × Int) (a : Li × Bool) : Option ((Li × Bool × Int) ⊕ ((Li × Bool))) := some (.inl (a.1, a.2, wr (b.2.2 + 1)))
def Ic.J14 (b : Li × Bool × Int) (a : Li × Bool × Int) (c : Bool) : Option ((Li × Bool × Int) ⊕ ((Li × Bool))) := if c = true then (ix a.1 a.2.2).bind fun d => (ix a.1 b.2.2).bind fun e => Ic.J13 a ((a.1.set e.1 d.2), true) else Ic.J13 a (a.1, a.2.1)
def Ic.B12 (c : Network) (d : List Bool) (b : Li × Bool × Int) (a : Li × Bool × Int) : Option ((Li × Bool × Int) ⊕ ((Li × Bool))) := if decide (a.2.2 < (a.1.length : Int)) = true then (ix a.1 a.2.2).bind fun e => (ix a.1 b.2.2).bind fun f => if decide (e.2 < f.2) = true then (Mi c d b.2.2 a.2.2).bind fun g => Ic.J14 b a g else Ic.J14 b a false else some ((.inr ((a.1, a.2.1))))
def Ic.B10 (b : Network) (c : List Bool) (a : Li × Bool × Int) : Option ((Li × Bool × Int) ⊕ ((Li × Bool))) := if decide (a.2.2 < (a.1.length : Int)) = true then (Bj (Ic.B12 b c a) Da (a.1, a.2.1, 0)).bind fun d => Ic.J11 a d else some ((.inr ((a.1, a.2.1))))
def Ic.B9 (b : Network) (c : List Bool) (a : Li × Bool) : Option ((Li × Bool) ⊕ (Li)) := if a.2 = true then (Bj (Ic.B10 b c) Da (a.1, false, 0)).bind fun d => some (.inl d) else some ((.inr (a.1)))
def Ic.J1 (a : Network) (b : List Bool) (c : Li) : Option ((List Li) × Int) := (Bj (Ic.B9 a b) Da (c, true)).bind fun d => Ic.J2 d
def Ic.B15 (a : Li × Int) : Option ((Li × Int) ⊕ (Li)) := if decide (a.2 < (a.1.length : Int)) = true then (ix a.1 a.2).bind fun b => some (.inl ((a.1.set b.1 a.2), wr (a.2 + 1))) else some ((.inr (a.1)))
def Ic (a : Network) (b : List Bool) : Option ((List Li) × Int) := (Ip a).bind fun c => if (c != 0) = true then some ([], c) else if ((b.length : Int) != (a.Nodes.length : Int)) = true then some ([], 9) else (dO (a.Segments.length : Int) (0 : Int)).bind fun d => (Bj Ic.B15 Da (d, 0)).bind fun e => Ic.J1 a b e
def Ii.J1 (a : Unit) : Option Bool := some false
def Ii.B2 (b : Li) (c : Int) (a : Int) : Option (Int ⊕ (Bool ⊕ Unit)) := if decide (a < (b.length : Int)) = true then (ix b a).bind fun d => if (d.2 == c) = true then some ((.inr (.inl (true)))) else some (.inl (wr (a + 1))) else some ((.inr (.inr (()))))
def Ii (a : Li) (b : Int) : Option Bool := (Bj (Ii.B2 a b) Da 0).bind fun c => Sum.elim (fun d => some d) (fun e => Ii.J1 e) c
def Mb.J1 (a : Li) (c : Int) (b : Int) : Option Li := (Ke a 0 b).bind fun d => (C5 ([] : Li) d).bind fun e => (C5 e ([c] : Li)).bind fun f => (Ke a b (a.length : Int)).bind fun g => (C5 f g).bind fun h => some h
def Mb.J3 (a : Int) (b : Bool) : Option (Int ⊕ (Int)) := if b = true then some (.inl (wr (a - 1))) else some ((.inr (a)))
def Mb.B2 (b : Li) (c : Int) (a : Int) : Option (Int ⊕ (Int)) := if decide (a > 0) = true then (ix b (wr (a - 1))).bind fun d => Mb.J3 a (decide (d.2 > c)) else Mb.J3 a false
def Mb (a : Li) (b : Int) : Option Li := (Bj (Mb.B2 a b) Da (a.length : Int)).bind fun c => Mb.J1 a b c
def H9.J2 (a : Li) : Option (Li × Int) := some (a, 0)
def H9.J4 (a : Li × Int) (b : Li) : Option ((Li × Int) ⊕ (Li)) := some (.inl (b, wr (a.2 + 1)))
def H9.J6 (a : Li × Int) (b : Nat × Int) (c : Bool) : Option ((Li × Int) ⊕ (Li)) := if c = true then (Mb a.1 b.2).bind fun d => H9.J4 a d else H9.J4 a a.1
def H9.J5 (a : Li × Int) (b : Nat × Int) (c : Bool) : Option ((Li × Int) ⊕ (Li)) := if c = true then (Ii a.1 b.2).bind fun d => H9.J6 a b (!d) else H9.J6 a b false
def H9.J8 (a : Bool × Int) (b : Bool) : Option ((Bool × Int) ⊕ (Bool)) := some (.inl (b, wr (a.2 + 1)))
def H9.B7 (b : List Li) (c : List Bool) (d : Nat × Int) (a : Bool × Int) : Option ((Bool × Int) ⊕ (Bool)) := if decide (a.2 < (b.length : Int)) = true then if a.1 = true then (ix c a.2).bind fun e => if (!e.2) = true then H9.J8 a true else (ix b a.2).bind fun f => (Ii f.2 d.2).bind fun g => H9.J8 a g else H9.J8 a false else some ((.inr (a.1)))
def H9.B3 (b : List Li) (e : List Bool) (f : Int) (a : Li × Int) : Option ((Li × Int) ⊕ (Li)) := (ix b f).bind fun c => if decide (a.2 < (c.2.length : Int)) = true then (ix c.2 a.2).bind fun d => (Bj (H9.B7 b e d) Da (true, 0)).bind fun g => H9.J5 a d g else some ((.inr (a.1)))
def H9.J1 (b : List Li) (c : List Bool) (a : Int) : Option (Li × Int) := if decide (a < 0) = true then some ([], 0) else (Bj (H9.B3 b c a) Da ([], 0)).bind fun d => H9.J2 d
def H9.J10 (a : Int × Int) (b : Int) : Option ((Int × Int) ⊕ ((Li × Int) ⊕ Int)) := some (.inl (b, wr (a.2 + 1)))
def H9.J11 (a : Int × Int) (b : Bool) : Option ((Int × Int) ⊕ ((Li × Int) ⊕ Int)) := if b = true then H9.J10 a a.2 else H9.J10 a a.1
def H9.B9 (b : List Li) (c : List Bool) (a : Int × Int) : Option ((Int × Int) ⊕ ((Li × Int) ⊕ Int)) := if decide (a.2 < (b.length : Int)) = true then (ix b a.2).bind fun d => if decide ((d.2.length : Int) > 32) = true then some ((.inr (.inl (([], 4))))) else (ix c a.2).bind fun e => if e.2 = true then H9.J11 a (decide (a.1 < 0)) else H9.J11 a false else some ((.inr (.inr (a.1))))
def H9 (a : List Li) (b : List Bool) : Option (Li × Int) := if ((b.length : Int) != (a.length : Int)) = true then some ([], 9) else if decide ((a.length : Int) > 64) = true then some ([], 4) else (Bj (H9.B9 a b) Da ((-1), 0)).bind fun c => Sum.elim (fun d => some d) (fun e => H9.J1 a b e) c
def Mc.J1 (a : Unit) : Option Bool := some true
def Mc.J3 (a : Int) (b : Unit) : Option (Int ⊕ (Bool ⊕ Unit)) := some (.inl (wr (a + 1)))
def Mc.B4 (b : Nat × Li) (c : Nat × Li) (a : Int) : Option (Int ⊕ (Bool ⊕ Unit)) := if decide (a < (b.2.length : Int)) = true then (ix b.2 a).bind fun d => (ix c.2 a).bind fun e => if (d.2 != e.2) = true then some ((.inr (.inl (false)))) else some (.inl (wr (a + 1))) else some ((.inr (.inr (()))))
def Mc.B2 (b : List Li) (e : List Li) (a : Int) : Option (Int ⊕ (Bool ⊕ Unit)) := if decide (a < (b.length : Int)) = true then (ix b a).bind fun c => (ix e a).bind fun d => if ((c.2.length : Int) != (d.2.length : Int)) = true then some ((.inr (.inl (false)))) else (Bj (Mc.B4 c d) Da 0).bind fun f => Sum.elim (fun g => some ((.inr (.inl (g))))) (fun h => Mc.J3 a h) f else some ((.inr (.inr (()))))
def Mc (a : List Li) (b : List Li) : Option Bool := if ((a.length : Int) != (b.length : Int)) = true then some false else (Bj (Mc.B2 a b) Da 0).bind fun c => Sum.elim (fun d => some d) (fun e => Mc.J1 e) c
def Qq.J1 (a : Li × Int × (List Balance)) : Option ((List Balance) × KS) := some (a.2.2, (⟨a.1, a.2.1⟩ : KS))
def Qq.B2 (e : Int × KS) (a : Li × Int × (List Balance) × Int × Int) : Option ((Li × Int × (List Balance) × Int × Int) ⊕ ((Li × Int × (List Balance)))) := if decide (a.2.2.2.2 > 0) = true then (Cg (⟨a.1, a.2.1⟩ : KS) 100).bind fun b => (Cg b.2 (wr (b.1 + 10))).bind fun c => (Cg c.2 5).bind fun d => (C5 a.2.2.1 ([(⟨b.1, c.1, (max 0 (wr ((wr ((wr ((wr ((wr (a.2.2.2.1 + b.1)) - c.1)) - e.1)) + d.1)) - 2)))⟩ : Balance)] : List Balance)).bind fun f => some (.inl (d.2.L_, d.2.At, f, (max 0 (wr ((wr ((wr ((wr ((wr (a.2.2.2.1 + b.1)) - c.1)) - e.1)) + d.1)) - 2))), wr (a.2.2.2.2 - 1))) else some ((.inr ((a.1, a.2.1, a.2.2.1))))
def Qq (d : KS) (e : Int) : Option ((List Balance) × KS) := (Fy d 0 5000).bind fun b => (Cf b.2 ([0, 0, 1, 5, 20] : Li)).bind fun c => (Cg c.2 (wr (e + 1))).bind fun a => (Bj (Qq.B2 c) Da (a.2.L_, a.2.At, [], b.1, a.1)).bind fun f => Qq.J1 f
def P5 (c : KS) : Option (Accuracy × KS) := (Cf c ([0, 0, 1000, 20000, 100000] : Li)).bind fun a => (Cf a.2 ([0, 0, 1, 10] : Li)).bind fun b => some ((⟨a.1, b.1⟩ : Accuracy), b.2)
def Ks (c : KS) (a : List ByteArray) : Option (ByteArray × KS) := (Cg c (a.length : Int)).bind fun b => (ix a b.1).bind fun d => some (d.2, b.2)
def Qo.J1 (c : List Segment) (b : Nat × Segment) (a : Li × Int × (List ByteArray) × (List Port) × (List Station) × Int × Int × Int × Int × Int × Int × (List Point)) : Option (Network × KS) := some ((⟨a.2.2.1, (c.set b.1 (⟨b.2.Name, a.2.2.2.2.2.2.2.1, b.2.To, a.2.2.2.2.2.2.2.2.1, a.2.2.2.2.2.2.2.2.2.1, a.2.2.2.2.2.2.2.2.2.2.1, a.2.2.2.2.2.2.2.2.2.2.2⟩ : Segment)), a.2.2.2.1, a.2.2.2.2.1, a.2.2.2.2.2.1, a.2.2.2.2.2.2.1⟩ : Network), (⟨a.1, a.2.1⟩ : KS))
def Qo.B2 (d : Network) (e : List Port) (f : List Station) (c : Nat × Segment) (g : List Point) (a : Li × Int × (List ByteArray)) : Option ((Li × Int × (List ByteArray)) ⊕ ((Li × Int × (List ByteArray) × (List Port) × (List Station) × Int × Int × Int × Int × Int × Int × (List Point)))) := (Cg (⟨a.1, a.2.1⟩ : KS) 2).bind fun b => if decide ((a.2.2.length : Int) ≤ (wr (23 + b.1))) = true then (Fa (⟨#[121]⟩ : ByteArray) (a.2.2.length : Int)).bind fun h => (Fa (⟨#[]⟩ : ByteArray) (wr ((a.2.2.length : Int).tdiv 26))).bind fun i => (Yw h i).bind fun j => (C5 a.2.2 ([j] : List ByteArray)).bind fun k => some (.inl (b.2.L_, b.2.At, k)) else some ((.inr ((b.2.L_, b.2.At, a.2.2, e, f, d.Vapour, d.Settle, c.2.From, c.2.Capacity, c.2.Resist, c.2.Wave, g))))
def Qo (H : KS) (b : Network) : Option (Network × KS) := (C5 ([] : List ByteArray) b.Nodes).bind fun e => (C5 ([] : List Segment) b.Segments).bind fun g => (C5 ([] : List Port) b.Ports).bind fun f => (C5 ([] : List Station) b.Stations).bind fun h => (Cg H (g.length : Int)).bind fun v => (ix g v.1).bind fun a => (C5 ([] : List Point) a.2.Points).bind fun d => (Cg v.2 12).bind fun c => if (c.1 == 0) = true then (Cg c.2 (e.length : Int)).bind fun w => (Ks w.2 ([(⟨#[]⟩ : ByteArray), (⟨#[110, 97]⟩ : ByteArray), (⟨#[65]⟩ : ByteArray), (⟨#[120, 45, 57]⟩ : ByteArray)] : List ByteArray)).bind fun i => (ix e w.1).bind fun K => Qo.J1 g a (i.2.L_, i.2.At, (e.set K.1 i.1), f, h, b.Vapour, b.Settle, a.2.From, a.2.Capacity, a.2.Resist, a.2.Wave, d) else if (c.1 == 1) = true then (Cf c.2 ([(-1), a.2.To, (e.length : Int), 0] : Li)).bind fun j => Qo.J1 g a (j.2.L_, j.2.At, e, f, h, b.Vapour, b.Settle, j.1, a.2.Capacity, a.2.Resist, a.2.Wave, d) else if (c.1 == 2) = true then (Cf c.2 ([0, (-1), wr (a.2.Capacity + 1), 1000001] : Li)).bind fun k => Qo.J1 g a (k.2.L_, k.2.At, e, f, h, b.Vapour, b.Settle, a.2.From, k.1, a.2.Resist, a.2.Wave, d) else if (c.1 == 3) = true then (Cf c.2 ([(-1), 1000, 1001] : Li)).bind fun l => Qo.J1 g a (l.2.L_, l.2.At, e, f, h, b.Vapour, b.Settle, a.2.From, a.2.Capacity, l.1, a.2.Wave, d) else if (c.1 == 4) = true then (Cf c.2 ([(-1), 100000, 100001] : Li)).bind fun m => Qo.J1 g a (m.2.L_, m.2.At, e, f, h, b.Vapour, b.Settle, a.2.From, a.2.Capacity, a.2.Resist, m.1, d) else if (c.1 == 5) = true then if decide ((d.length : Int) > 0) = true then (Cg c.2 (d.length : Int)).bind fun x => (Cf x.2 ([(-1), 0, 1, a.2.Capacity] : Li)).bind fun n => (ix d x.1).bind fun o => Qo.J1 g a (n.2.L_, n.2.At, e, f, h, b.Vapour, b.Settle, a.2.From, a.2.Capacity, a.2.Resist, a.2.Wave, (d.set o.1 (⟨n.1, o.2.Height, o.2.Limit⟩ : Point))) else Qo.J1 g a (c.2.L_, c.2.At, e, f, h, b.Vapour, b.Settle, a.2.From, a.2.Capacity, a.2.Resist, a.2.Wave, d) else if (c.1 == 6) = true then (Cg c.2 (min 3 (wr ((d.length : Int) + 1)))).bind fun p => (Ke d 0 p.1).bind fun M => Qo.J1 g a (p.2.L_, p.2.At, e, f, h, b.Vapour, b.Settle, a.2.From, a.2.Capacity, a.2.Resist, a.2.Wave, M) else if (c.1 == 7) = true then if decide ((d.length : Int) > 0) = true then (Cg c.2 (d.length : Int)).bind fun y => (Cf y.2 ([(-501), (-500), 5000, 5001] : Li)).bind fun q => (ix d y.1).bind fun r => Qo.J1 g a (q.2.L_, q.2.At, e, f, h, b.Vapour, b.Settle, a.2.From, a.2.Capacity, a.2.Resist, a.2.Wave, (d.set r.1 (⟨r.2.At, q.1, r.2.Limit⟩ : Point))) else Qo.J1 g a (c.2.L_, c.2.At, e, f, h, b.Vapour, b.Settle, a.2.From, a.2.Capacity, a.2.Resist, a.2.Wave, d) else if (c.1 == 8) = true then if decide ((f.length : Int) > 0) = true then (Cg c.2 (f.length : Int)).bind fun z => (Ks z.2 ([(⟨#[113, 97]⟩ : ByteArray), (⟨#[113, 98]⟩ : ByteArray), (⟨#[]⟩ : ByteArray), (⟨#[122]⟩ : ByteArray)] : List ByteArray)).bind fun A => (Cf A.2 ([(-1), 0, 1, (e.length : Int)] : Li)).bind fun B => (Cf B.2 ([0, (-1), 100000000, 100000001] : Li)).bind fun s => (ix f z.1).bind fun N => Qo.J1 g a (s.2.L_, s.2.At, e, (f.set N.1 (⟨A.1, B.1, s.1⟩ : Port)), h, b.Vapour, b.Settle, a.2.From, a.2.Capacity, a.2.Resist, a.2.Wave, d) else Qo.J1 g a (c.2.L_, c.2.At, e, f, h, b.Vapour, b.Settle, a.2.From, a.2.Capacity, a.2.Resist, a.2.Wave, d) else if (c.1 == 9) = true then (Ks c.2 ([(⟨#[115, 97]⟩ : ByteArray), (⟨#[115, 122]⟩ : ByteArray), (⟨#[]⟩ : ByteArray)] : List ByteArray)).bind fun C => (Cf C.2 ([(-1), 0, 0, 1, 99] : Li)).bind fun D => (Cf D.2 ([0, (-1)] : Li)).bind fun E => (Cf E.2 ([0, 100001] : Li)).bind fun F => (Cf F.2 ([0, (-1)] : Li)).bind fun t => (C5 h ([(⟨C.1, D.1, E.1, F.1, t.1⟩ : Station)] : List Station)).bind fun O => Qo.J1 g a (t.2.L_, t.2.At, e, f, O, b.Vapour, b.Settle, a.2.From, a.2.Capacity, a.2.Resist, a.2.Wave, d) else if (c.1 == 10) = true then (Cf c.2 ([0, (-100001), 100000001] : Li)).bind fun G => (Cf G.2 ([0, (-1), 101] : Li)).bind fun u => Qo.J1 g a (u.2.L_, u.2.At, e, f, h, G.1, u.1, a.2.From, a.2.Capacity, a.2.Resist, a.2.Wave, d) else (Bj (Qo.B2 b f h a d) Da (c.2.L_, c.2.At, e)).bind fun P => Qo.J1 g a P
def Tx (a : Li) : Bool := (decide ((a.length : Int) ≤ 400))
def Ij (a : Int) (b : Int) : Option Int := (My a b).bind fun c => some c
def Kr.J1 (a : Unit) : Option Bool := some true
def Kr.B2 (b : Li) (c : Li) (a : Int) : Option (Int ⊕ (Bool ⊕ Unit)) := if decide (a < (b.length : Int)) = true then (ix b a).bind fun d => (ix c a).bind fun e => if (d.2 != e.2) = true then some ((.inr (.inl (false)))) else some (.inl (wr (a + 1))) else some ((.inr (.inr (()))))
def Kr (a : Li) (b : Li) : Option Bool := if ((a.length : Int) != (b.length : Int)) = true then some false else (Bj (Kr.B2 a b) Da 0).bind fun c => Sum.elim (fun d => some d) (fun e => Kr.J1 e) c
def P9.J7 (a : Bool) : Option Bool := some a
def P9.J6 (a : (List Li) × (List Bool)) : Option Bool := (Gz a.1 a.2).bind fun b => (H9 a.1 a.2).bind fun c => if (b.2 == c.2) = true then (Kr b.1 c.1).bind fun d => if d = true then (Qg).bind fun e => P9.J7 e else P9.J7 false else P9.J7 false
def P9.J5 (d : Int) (a : (List Li) × Int) (b : List Bool) : Option Bool := (Ij d 10).bind fun c => if (c == 6) = true then (C5 b ([true] : List Bool)).bind fun e => P9.J6 (a.1, e) else if (c == 7) = true then (C5 a.1 a.1).bind fun f => (C5 b b).bind fun g => P9.J6 (f, g) else P9.J6 (a.1, b)
def P9.B8 (c : (List Li) × Int) (a : Li × Int × (List Bool) × Int) : Option ((Li × Int × (List Bool) × Int) ⊕ ((List Bool))) := if decide (a.2.2.2 < (c.1.length : Int)) = true then (Cg (⟨a.1, a.2.1⟩ : KS) 2).bind fun b => (C5 a.2.2.1 ([(b.1 == 0)] : List Bool)).bind fun d => some (.inl (b.2.L_, b.2.At, d, wr (a.2.2.2 + 1))) else some ((.inr (a.2.2.1)))
def P9.J4 (c : Int) (a : Li × Int × (List ByteArray) × (List Segment) × (List Port) × (List Station) × Int × Int × (List Balance) × Int × Int × Int × (List Bool)) (b : (List Li) × Int) (d : Bool) : Option Bool := if d = true then some false else (Bj (P9.B8 b) Da (a.1, a.2.1, [], 0)).bind fun e => P9.J5 c b e
def P9.J3 (c : Int) (a : Li × Int × (List ByteArray) × (List Segment) × (List Port) × (List Station) × Int × Int × (List Balance) × Int × Int × Int × (List Bool)) (e : Bool) : Option Bool := if e = true then some false else (Ik (⟨a.2.2.1, a.2.2.2.1, a.2.2.2.2.1, a.2.2.2.2.2.1, a.2.2.2.2.2.2.1, a.2.2.2.2.2.2.2.1⟩ : Network) a.2.2.2.2.2.2.2.2.2.2.2.2).bind fun d => (Ic (⟨a.2.2.1, a.2.2.2.1, a.2.2.2.2.1, a.2.2.2.2.2.1, a.2.2.2.2.2.2.1, a.2.2.2.2.2.2.2.1⟩ : Network) a.2.2.2.2.2.2.2.2.2.2.2.2).bind fun b => if (d.2 != b.2) = true then P9.J4 c a b true else (Mc d.1 b.1).bind fun f => P9.J4 c a b (!f)
def P9.J2 (b : Int) (c : Accuracy × KS) (f : Int × KS) (g : Int × KS) (a : Li × Int × (List ByteArray) × (List Segment) × (List Port) × (List Station) × Int × Int × (List Balance) × Int × Int × Int × (List Bool)) : Option Bool := (Im a.2.2.2.2.2.2.2.2.1 (⟨c.1.Meter, a.2.2.2.2.2.2.2.2.2.1⟩ : Accuracy) a.2.2.2.2.2.2.2.2.2.2.1 a.2.2.2.2.2.2.2.2.2.2.2.1).bind fun h => (Mu a.2.2.2.2.2.2.2.2.1 (⟨c.1.Meter, a.2.2.2.2.2.2.2.2.2.1⟩ : Accuracy) a.2.2.2.2.2.2.2.2.2.2.1 a.2.2.2.2.2.2.2.2.2.2.2.1).bind fun i => (Ku a.2.2.2.2.2.2.2.2.1 (⟨c.1.Meter, a.2.2.2.2.2.2.2.2.2.1⟩ : Accuracy) a.2.2.2.2.2.2.2.2.2.2.1 a.2.2.2.2.2.2.2.2.2.2.2.1).bind fun j => (L2 a.2.2.2.2.2.2.2.2.1 (⟨c.1.Meter, a.2.2.2.2.2.2.2.2.2.1⟩ : Accuracy) a.2.2.2.2.2.2.2.2.2.2.1 a.2.2.2.2.2.2.2.2.2.2.2.1).bind fun k => (Ms a.2.2.2.2.2.2.2.2.1 (⟨c.1.Meter, a.2.2.2.2.2.2.2.2.2.1⟩ : Accuracy) (wr (f.1 - 1)) (wr (g.1 - 1))).bind fun d => (L5 a.2.2.2.2.2.2.2.2.1 (⟨c.1.Meter, a.2.2.2.2.2.2.2.2.2.1⟩ : Accuracy) (wr (f.1 - 1)) (wr (g.1 - 1))).bind fun e => if (h.2 != i.2) = true then P9.J3 b a true else if (j.2 != k.2) = true then P9.J3 b a true else if (d.2.2 != e.2.2) = true then P9.J3 b a true else if (j.1 != k.1) = true then P9.J3 b a true else if (d.1 != e.1) = true then P9.J3 b a true else if (d.2.1 != e.2.1) = true then P9.J3 b a true else (Kr h.1 i.1).bind fun l => P9.J3 b a (!l)
def P9.J1 (n : Int) (o : Int) (e : Int) (m : Int) (a : Network × KS) (d : (List Balance) × KS) (c : Accuracy × KS) (i : Int × KS) (j : Int × KS) (f : Int × KS) (g : Int × KS) (b : Li × Int × (List Bool)) : Option Bool := (Ij e 10).bind fun k => if (k == 0) = true then (Ij n 403).bind fun p => P9.J2 e c f g (b.1, b.2.1, a.1.Nodes, a.1.Segments, a.1.Ports, a.1.Stations, a.1.Vapour, a.1.Settle, d.1, c.1.Pack, wr (p - 1), j.1, b.2.2) else if (k == 1) = true then P9.J2 e c f g (b.1, b.2.1, a.1.Nodes, a.1.Segments, a.1.Ports, a.1.Stations, a.1.Vapour, a.1.Settle, d.1, c.1.Pack, wr (1 + i.1), o, b.2.2) else if (k == 2) = true then P9.J2 e c f g (b.1, b.2.1, a.1.Nodes, a.1.Segments, a.1.Ports, a.1.Stations, a.1.Vapour, a.1.Settle, d.1, m, wr (1 + i.1), j.1, b.2.2) else if (k == 3) = true then if decide ((d.1.length : Int) > 0) = true then (ix d.1 0).bind fun l => P9.J2 e c f g (b.1, b.2.1, a.1.Nodes, a.1.Segments, a.1.Ports, a.1.Stations, a.1.Vapour, a.1.Settle, (d.1.set l.1 (⟨m, l.2.Out, l.2.Pack⟩ : Balance)), c.1.Pack, wr (1 + i.1), j.1, b.2.2) else P9.J2 e c f g (b.1, b.2.1, a.1.Nodes, a.1.Segments, a.1.Ports, a.1.Stations, a.1.Vapour, a.1.Settle, d.1, c.1.Pack, wr (1 + i.1), j.1, b.2.2) else if (k == 4) = true then (C5 b.2.2 ([true] : List Bool)).bind fun q => P9.J2 e c f g (b.1, b.2.1, a.1.Nodes, a.1.Segments, a.1.Ports, a.1.Stations, a.1.Vapour, a.1.Settle, d.1, c.1.Pack, wr (1 + i.1), j.1, q) else if (k == 5) = true then (Qo (⟨b.1, b.2.1⟩ : KS) a.1).bind fun h => P9.J2 e c f g (h.2.L_, h.2.At, h.1.Nodes, h.1.Segments, h.1.Ports, h.1.Stations, h.1.Vapour, h.1.Settle, d.1, c.1.Pack, wr (1 + i.1), j.1, b.2.2) else P9.J2 e c f g (b.1, b.2.1, a.1.Nodes, a.1.Segments, a.1.Ports, a.1.Stations, a.1.Vapour, a.1.Settle, d.1, c.1.Pack, wr (1 + i.1), j.1, b.2.2)
def P9.B9 (c : Network × KS) (a : Li × Int × (List Bool) × Int) : Option ((Li × Int × (List Bool) × Int) ⊕ ((Li × Int × (List Bool)))) := if decide (a.2.2.2 < (c.1.Nodes.length : Int)) = true then (Cg (⟨a.1, a.2.1⟩ : KS) 2).bind fun b => (C5 a.2.2.1 ([(b.1 == 0)] : List Bool)).bind fun d => some (.inl (b.2.L_, b.2.At, d, wr (a.2.2.2 + 1))) else some ((.inr ((a.1, a.2.1, a.2.2.1))))
def P9 (c : Li) (i : Int) (j : Int) (k : Int) (l : Int) : Option Bool := if (!(Tx c)) = true then (Qg).bind fun m => some m else (Qi c).bind fun n => (Qm n).bind fun a => (Qq a.2 30).bind fun d => (P5 d.2).bind fun e => (Cg e.2 10).bind fun f => (Cg f.2 60).bind fun g => (Cg g.2 20).bind fun h => (Cg h.2 30).bind fun b => (Bj (P9.B9 a) Da (b.2.L_, b.2.At, [], 0)).bind fun o => P9.J1 i j k l a d e f g h b o
end Go.Proofs.YtihdchjpepkpbaaGreat
namespace Go.Proofs
open Go.Shelf
def La : Go.Shelf.Ren := ⟨fun | 189 => 90 | 125 => 154 | 257 => 153 | 128 => 205 | 129 => 206 | 294 => 196 | 295 => 197 | 296 => 198 | 297 => 199 | 298 => 200 | 299 => 201 | 216 => 202 | 300 => 203 | 301 => 204 | 328 => 214 | 329 => 215 | 330 => 216 | 331 => 217 | 332 => 218 | 215 => 219 | 343 => 220 | n => n, fun | 28 => 22 | 3 => 3 | 46 => 183 | 0 => 0 | 51 => 217 | 53 => 219 | 4 => 4 | 183 => 212 | 182 => 211 | 131 => 120 | 5 => 5 | 9 => 9 | 218 => 225 | 222 => 229 | 228 => 232 | 229 => 143 | n => n, fun | n => n⟩
theorem Rn : Go.Proofs.Lays.n189 Tryz.prog La := {
 mixed := by kernel_rfl
 f125 := Tryz.func154.trans (congrArg some (by kernel_rfl))
 f128 := Tryz.func205.trans (congrArg some (by kernel_rfl))
 f129 := Tryz.func206.trans (congrArg some (by kernel_rfl))
 f189 := Tryz.func90.trans (congrArg some (by kernel_rfl))
 f215 := Tryz.func219.trans (congrArg some (by kernel_rfl))
 f216 := Tryz.func202.trans (congrArg some (by kernel_rfl))
 f257 := Tryz.func153.trans (congrArg some (by kernel_rfl))
 f294 := Tryz.func196.trans (congrArg some (by kernel_rfl))
 f295 := Tryz.func197.trans (congrArg some (by kernel_rfl))
 f296 := Tryz.func198.trans (congrArg some (by kernel_rfl))
 f297 := Tryz.func199.trans (congrArg some (by kernel_rfl))
 f298 := Tryz.func200.trans (congrArg some (by kernel_rfl))
 f299 := Tryz.func201.trans (congrArg some (by kernel_rfl))
 f300 := Tryz.func203.trans (congrArg some (by kernel_rfl))
 f301 := Tryz.func204.trans (congrArg some (by kernel_rfl))
 f328 := Tryz.func214.trans (congrArg some (by kernel_rfl))
 f329 := Tryz.func215.trans (congrArg some (by kernel_rfl))
 f330 := Tryz.func216.trans (congrArg some (by kernel_rfl))
 f331 := Tryz.func217.trans (congrArg some (by kernel_rfl))
 f332 := Tryz.func218.trans (congrArg some (by kernel_rfl))
 f343 := Tryz.func220.trans (congrArg some (by kernel_rfl))
 t0 := Tryz.underlying0
 a0 := Tryz.isAgg0
 z0 := Tryz.sizeOf0
 v0 := Tryz.zeroValue0
 t3 := Tryz.underlying3
 a3 := Tryz.isAgg3
 z3 := Tryz.sizeOf3
 v3 := Tryz.zeroValue3
 t4 := Tryz.underlying4
 a4 := Tryz.isAgg4
 z4 := Tryz.sizeOf4
 v4 := Tryz.zeroValue4
 t5 := Tryz.underlying5
 a5 := Tryz.isAgg5
 z5 := Tryz.sizeOf5
 v5 := Tryz.zeroValue5
 t9 := Tryz.underlying9
 a9 := Tryz.isAgg9
 z9 := Tryz.sizeOf9
 v9 := Tryz.zeroValue9
 t28 := Tryz.underlying22
 a28 := Tryz.isAgg22
 z28 := Tryz.sizeOf22
 v28 := Tryz.zeroValue22
 t46 := Tryz.underlying183
 a46 := Tryz.isAgg183
 z46 := Tryz.sizeOf183
 v46 := Tryz.zeroValue183
 t51 := Tryz.underlying217
 a51 := Tryz.isAgg217
 z51 := Tryz.sizeOf217
 v51 := Tryz.zeroValue217
 t53 := Tryz.underlying219
 a53 := Tryz.isAgg219
 z53 := Tryz.sizeOf219
 v53 := Tryz.zeroValue219
 t131 := Tryz.underlying120
 a131 := Tryz.isAgg120
 z131 := Tryz.sizeOf120
 v131 := Tryz.zeroValue120
 t182 := Tryz.underlying211
 a182 := Tryz.isAgg211
 z182 := Tryz.sizeOf211
 v182 := Tryz.zeroValue211
 t183 := Tryz.underlying212
 a183 := Tryz.isAgg212
 z183 := Tryz.sizeOf212
 v183 := Tryz.zeroValue212
 t218 := Tryz.underlying225
 a218 := Tryz.isAgg225
 z218 := Tryz.sizeOf225
 v218 := Tryz.zeroValue225
 t222 := Tryz.underlying229
 a222 := Tryz.isAgg229
 z222 := Tryz.sizeOf229
 v222 := Tryz.zeroValue229
 t228 := Tryz.underlying232
 a228 := Tryz.isAgg232
 z228 := Tryz.sizeOf232
 v228 := Tryz.zeroValue232
 t229 := Tryz.underlying143
 a229 := Tryz.isAgg143
 z229 := Tryz.sizeOf143
 v229 := Tryz.zeroValue143 }
open Go.Sort Go.RowKit in
theorem Tryz.slices_Sort_int (Fi off cap : Nat) (zs : List Int) (w : World) (hH : Holds (Value.int .i64) w Fi off zs.toArray) (hblk : Fi < w.heap.size) (hsz : zs.length < 4611686018427387904) :
  Calls Tryz.prog 90 #[.slice (some ⟨Fi, off, none⟩) zs.length cap] w fun e w' =>
   e = .returned (.tuple #[]) ∧ ∃ n os, w' = grow (putRow (Value.int .i64) (Sort.ahead w n) Fi off (zs.mergeSort fun x y => decide (x ≤ y)).toArray) os := Any.slices_Sort_int Rn Fi off cap zs w hH hblk hsz
def I4 : Go.Shelf.Ren := ⟨fun | 20 => 91 | n => n, fun | 22 => 22 | 3 => 3 | 4 => 4 | 0 => 0 | n => n, fun | n => n⟩
theorem Nz : Go.Proofs.Lays2.n20 Tryz.prog I4 := {
 mixed := by kernel_rfl
 f20 := Tryz.func91.trans (congrArg some (by kernel_rfl))
 t0 := Tryz.underlying0
 a0 := Tryz.isAgg0
 z0 := Tryz.sizeOf0
 v0 := Tryz.zeroValue0
 t3 := Tryz.underlying3
 a3 := Tryz.isAgg3
 z3 := Tryz.sizeOf3
 v3 := Tryz.zeroValue3
 t4 := Tryz.underlying4
 a4 := Tryz.isAgg4
 z4 := Tryz.sizeOf4
 v4 := Tryz.zeroValue4
 t22 := Tryz.underlying22
 a22 := Tryz.isAgg22
 z22 := Tryz.sizeOf22
 v22 := Tryz.zeroValue22
 i3 := by kernel_rfl }
open Go.RowKit Go.Lib Go.Sort in
theorem Tryz.slices_Compact_int (Fi off cap : Nat) (zs : List Int) (w : World) (hH : Holds (Value.int .i64) w Fi off zs.toArray) (hsz : zs.length ≤ 9223372036854775807) (hcap : zs.length ≤ cap) :
  Calls Tryz.prog 91 #[.slice (some ⟨Fi, off, none⟩) zs.length cap] w fun e w' => e = .returned (.slice (some ⟨Fi, off, none⟩) (Lib.compact zs).length cap) ∧ ∃ q, w' = putRow (Value.int .i64) (Sort.ahead w q) Fi off (Lib.compact zs ++ List.replicate (zs.length - (Lib.compact zs).length) 0).toArray := Any.slices_Compact_int Nz Fi off cap zs w hH hsz hcap
set_option maxHeartbeats 2000000 in
theorem Tryz.compact_nil (w : World) : Calls Tryz.prog 91 #[.slice none 0 0] w fun e w' => e = .returned (.slice none 0 0) ∧ Go.RowKit.Below w.heap.size w w' := by
 go_enter Tryz.func91, Tryz.ntmps91
 go_wp2
 go_ret
 exact ⟨rfl, by go_grown⟩
set_option maxHeartbeats 2000000 in
theorem Tryz.sort_nil (w : World) : Calls Tryz.prog 90 #[.slice none 0 0] w fun e w' => e = .returned (.tuple #[]) ∧ Go.RowKit.Below w.heap.size w w' := by
 go_enter Tryz.func90, Tryz.ntmps90
 go_wp2
 go_rounds 1
 go_rounds 1
 exact bodyPost_end (results_none rfl _ _ _) rfl ⟨rfl, by go_grown⟩
end Go.Proofs
namespace Go.Aw
set_option linter.unusedVariables false
set_option linter.unusedSimpArgs false
def Ok {α : Type} (o : Option α) (P : α → Prop) : Prop := ∃ r, o = some r ∧ P r
section
variable {α β S B : Type}
theorem Ok.pure {x : α} {P : α → Prop} (h : P x) : Ok (some x) P := ⟨x, rfl, h⟩
theorem Ok.get {o : Option α} {P : α → Prop} (h : Ok o P) : ∃ r, o = some r ∧ P r := h
theorem Ok.mono {o : Option α} {P Q : α → Prop} (h : Ok o P) (k : ∀ x, P x → Q x) : Ok o Q := let ⟨r, a, b⟩ := h; ⟨r, a, k r b⟩
theorem Ok.bind {o : Option α} {f : α → Option β} {P : β → Prop} {Q : α → Prop} (h : Ok o Q) (k : ∀ x, Q x → Ok (f x) P) : Ok (o.bind f) P := by
 obtain ⟨r, rfl, hr⟩ := h; exact k r hr
theorem Ok.bind' {o : Option α} {f : α → Option β} {P : β → Prop} (h : Ok o fun x => Ok (f x) P) : Ok (o.bind f) P := h.bind fun _ k => k
theorem Ok.eq {o : Option α} {P : α → Prop} {x : α} (h : o = some x) (k : P x) : Ok o P := ⟨x, h, k⟩
theorem fF {c : Prop} [Decidable c] {a b : Option α} {P : α → Prop} (d : c → Ok a P) (e : ¬ c → Ok b P) : Ok (if c then a else b) P := by
 split <;> simp_all
theorem Ok.map {o : Option α} {f : α → β} {P : β → Prop} (h : Ok o fun x => P (f x)) : Ok (o.map f) P := by
 obtain ⟨r, rfl, hr⟩ := h; exact ⟨_, rfl, hr⟩
theorem Ok.chk {p : Prop} [Decidable p] {P : Unit → Prop} (h : p) (k : P ()) : Ok (chk p) P := ⟨(), fD h, k⟩
theorem Ok.ix {l : List α} {i : Int} {P : Nat × α → Prop} (k : Nat) (hi : i = (k : Int)) (hk : k < l.length) (h : P (k, l[k])) : Ok (ix l i) P := by
 subst hi; exact ⟨_, Bb (gq hk), h⟩
theorem Ok.ix' {l : List α} {i : Int} {P : Nat × α → Prop} (a : 0 ≤ i) (hk : i < (l.length : Int)) (h : ∀ (k : Nat) (x : α), i = (k : Int) → l[k]? = some x → P (k, x)) : Ok (Aw.ix l i) P := by
 obtain ⟨k, rfl⟩ : ∃ k : Nat, i = (k : Int) := ⟨i.toNat, by omega⟩
 have hk' : k < l.length := by omega
 exact ⟨_, Bb (gq hk'), h k _ rfl (gq hk')⟩
theorem Ok.app {l m : List α} {P : List α → Prop} (hl : l.length + m.length ≤ 68719476736) (h : P (l ++ m)) : Ok (C5 l m) P := ⟨_, Vg hl, h⟩
theorem Ok.mk {n : Int} {z : α} {P : List α → Prop} (m : Nat) (hm : n = (m : Int)) (hl : m ≤ 68719476736) (h : P (List.replicate m z)) : Ok (dO n z) P := by
 subst hm; exact ⟨_, eT z hl, h⟩
theorem Ok.cat {a b : ByteArray} {P : ByteArray → Prop} (hl : a.size + b.size ≤ 68719476736) (h : P (a ++ b)) : Ok (Yw a b) P := ⟨_, if_pos hl, h⟩
theorem Ok.quo {a b : Int} {P : Int → Prop} (hb : b ≠ 0) (h : P (wr (a.tdiv b))) : Ok (Pz a b) P := ⟨_, if_pos hb, h⟩
theorem Ok.rem {a b : Int} {P : Int → Prop} (hb : b ≠ 0) (h : P (a.tmod b)) : Ok (Tf a b) P := ⟨_, if_pos hb, h⟩
theorem Ok.sub {l : List α} {a b : Int} {P : List α → Prop} (x y : Nat) (ha : a = (x : Int)) (hb : b = (y : Int)) (hxy : x ≤ y) (hl : y ≤ l.length) (h : P ((l.drop x).take (y - x))) : Ok (Ke l a b) P := by
 subst ha; subst hb
 exact ⟨_, if_pos ⟨by omega, by omega, by omega⟩, by simpa using h⟩
theorem Jx {f : Nat → α → S → Option S} (I : Nat → S → Prop) (l : List α) : ∀ (m : List α) (k : Nat), l.drop k = m → ∀ st, I k st →
  (∀ k x st, l[k]? = some x → I k st → Ok (f k x st) (I (k + 1))) → k ≤ l.length → Ok (forS f k m st) (I l.length)
 | [], k, hm, st, hi, _, hk => by
  have : l.length - k = 0 := by simpa using congrArg List.length hm
  have : k = l.length := by omega
  subst this; exact .pure hi
 | x :: m, k, hm, st, hi, hf, hk => by
  have hx : l[k]? = some x := by have := congrArg (fun z => z[0]?) hm; simpa using this
  have hm' : l.drop (k + 1) = m := by have := congrArg (List.drop 1) hm; simpa [Nat.add_comm] using this
  obtain ⟨s', a, b⟩ := hf k x st hx hi
  simp only [forS, a]
  exact Jx I l m (k + 1) hm' s' b hf (by have := (gs hx).1; omega)
theorem Ok.forS {f : Nat → α → S → Option S} {l : List α} {st : S} {P : S → Prop} (I : Nat → S → Prop) (a : I 0 st)
  (hf : ∀ k x st, l[k]? = some x → I k st → Ok (f k x st) (I (k + 1))) (hP : ∀ st, I l.length st → P st) : Ok (forS f 0 l st) P :=
 (Jx I l l 0 rfl st a hf (Nat.zero_le _)).mono hP
theorem Jy {f : Nat → α → S → Option (S ⊕ B)} (I : Nat → S → Prop) (R : B → Prop) (l : List α) : ∀ (m : List α) (k : Nat), l.drop k = m → ∀ st, I k st →
  (∀ k x st, l[k]? = some x → I k st → Ok (f k x st) (Sum.elim (fun s => I (k + 1) s) R)) → k ≤ l.length → Ok (forL f k m st) (Sum.elim (fun s => I l.length s) R)
 | [], k, hm, st, hi, _, hk => by
  have : l.length - k = 0 := by simpa using congrArg List.length hm
  have : k = l.length := by omega
  subst this; exact .pure hi
 | x :: m, k, hm, st, hi, hf, hk => by
  have hx : l[k]? = some x := by have := congrArg (fun z => z[0]?) hm; simpa using this
  have hm' : l.drop (k + 1) = m := by have := congrArg (List.drop 1) hm; simpa [Nat.add_comm] using this
  obtain ⟨s', a, c⟩ := hf k x st hx hi
  cases s' with
  | inl s' =>
   simp only [forL, a]
   exact Jy I R l m (k + 1) hm' s' c hf (by have := (gs hx).1; omega)
  | inr b => simp only [forL, a]; exact .pure c
theorem Ok.forL {f : Nat → α → S → Option (S ⊕ B)} {l : List α} {st : S} {P : S ⊕ B → Prop} (I : Nat → S → Prop) (R : B → Prop) (a : I 0 st)
  (hf : ∀ k x st, l[k]? = some x → I k st → Ok (f k x st) (Sum.elim (fun s => I (k + 1) s) R)) (hP : ∀ st, I l.length st → P (.inl st)) (hR : ∀ b, R b → P (.inr b)) : Ok (forL f 0 l st) P :=
 (Jy I R l l 0 rfl st a hf (Nat.zero_le _)).mono fun x h => by cases x with | inl s => exact hP s h | inr b => exact hR b h
theorem Jz {f : Nat → S → Option S} (I : Nat → S → Prop) (n : Nat) : ∀ (m k : Nat), k + m = n → ∀ st, I k st →
  (∀ k st, k < n → I k st → Ok (f k st) (I (k + 1))) → Ok (forJ f k m st) (I n)
 | 0, k, hm, st, hi, _ => by have : k = n := (by omega); subst this; exact .pure hi
 | m + 1, k, hm, st, hi, hf => by
  obtain ⟨s', a, b⟩ := hf k st (by omega) hi
  simp only [forJ, a]
  exact Jz I n m (k + 1) (by omega) s' b hf
theorem Ok.forJ {f : Nat → S → Option S} {n : Nat} {st : S} {P : S → Prop} (I : Nat → S → Prop) (a : I 0 st)
  (hf : ∀ k st, k < n → I k st → Ok (f k st) (I (k + 1))) (hP : ∀ st, I n st → P st) : Ok (forJ f 0 n st) P :=
 (Jz I n n 0 (by omega) st a hf).mono hP
theorem J0 {f : Nat → S → Option (S ⊕ B)} (I : Nat → S → Prop) (R : B → Prop) (n : Nat) : ∀ (m k : Nat), k + m = n → ∀ st, I k st →
  (∀ k st, k < n → I k st → Ok (f k st) (Sum.elim (fun s => I (k + 1) s) R)) → Ok (forI f k m st) (Sum.elim (fun s => I n s) R)
 | 0, k, hm, st, hi, _ => by have : k = n := (by omega); subst this; exact .pure hi
 | m + 1, k, hm, st, hi, hf => by
  obtain ⟨s', a, c⟩ := hf k st (by omega) hi
  cases s' with
  | inl s' =>
   simp only [forI, a]
   exact J0 I R n m (k + 1) (by omega) s' c hf
  | inr b => simp only [forI, a]; exact .pure c
theorem Ok.forI {f : Nat → S → Option (S ⊕ B)} {n : Nat} {st : S} {P : S ⊕ B → Prop} (I : Nat → S → Prop) (R : B → Prop) (a : I 0 st)
  (hf : ∀ k st, k < n → I k st → Ok (f k st) (Sum.elim (fun s => I (k + 1) s) R)) (hP : ∀ st, I n st → P (.inl st)) (hR : ∀ b, R b → P (.inr b)) : Ok (forI f 0 n st) P :=
 (J0 I R n n 0 (by omega) st a hf).mono fun x h => by cases x with | inl s => exact hP s h | inr b => exact hR b h
theorem Jw {f : S → Option (S ⊕ B)} {P : B → Prop} (I : S → Prop) (μ : S → Nat) (hf : ∀ st, I st → Ok (f st) (Sum.elim (fun s => I s ∧ μ s < μ st) P)) :
  ∀ (n : Nat) (st : S), I st → μ st < n → Ok (Bj f n st) P
 | 0, st, _, h => absurd h (Nat.not_lt_zero _)
 | n + 1, st, hi, h => by
  obtain ⟨r, c, a⟩ := hf st hi
  cases r with
  | inl s =>
   simp only [Bj, c]
   exact Jw I μ hf n s a.1 (by have := a.2; omega)
  | inr b => simp only [Bj, c]; exact .pure a
theorem Ok.loop {f : S → Option (S ⊕ B)} {P : B → Prop} {st : S} (I : S → Prop) (μ : S → Nat) (a : I st) (hm : μ st < 18446744073709551616)
  (hf : ∀ st, I st → Ok (f st) (Sum.elim (fun s => I s ∧ μ s < μ st) P)) : Ok (Bj f Da st) P :=
 Jw I μ hf _ st a hm
theorem H5 {f : S → Option (S ⊕ B)} {P : B → Prop} (I : Nat → S → Prop) (hf : ∀ m st, I m st → Ok (f st) (Sum.elim (fun s => ∃ m', m' < m ∧ I m' s) P)) :
  ∀ (n : Nat) (m : Nat) (st : S), I m st → m < n → Ok (Bj f n st) P
 | 0, _, st, _, h => absurd h (Nat.not_lt_zero _)
 | n + 1, m, st, hi, h => by
  obtain ⟨r, a, c⟩ := hf m st hi
  cases r with
  | inl s =>
   obtain ⟨m', e, d⟩ := c
   simp only [Bj, a]
   exact H5 I hf n m' s d (by omega)
  | inr b => simp only [Bj, a]; exact .pure c
theorem Ok.loopE {f : S → Option (S ⊕ B)} {P : B → Prop} {st : S} {m : Nat} (I : Nat → S → Prop) (a : I m st) (hm : m < 18446744073709551616)
  (hf : ∀ m st, I m st → Ok (f st) (Sum.elim (fun s => ∃ m', m' < m ∧ I m' s) P)) : Ok (Bj f Da st) P :=
 H5 I hf _ m st a hm
end
theorem Vb {α : Type} {l : List α} {k i : Nat} {x : α} : (l.set k x)[i]? = if k = i ∧ i < l.length then some x else l[i]? := by
 rw [List.getElem?_set]
 by_cases h : k = i
 ·subst h
  by_cases a : k < l.length
  ·simp [a]
  ·simp [a]
 ·simp [h]
inductive Conn (R : Nat → Nat → Prop) : Nat → Nat → Prop
 | refl (x : Nat) : Conn R x x
 | edge {x y : Nat} : R x y → Conn R x y
 | symm {x y : Nat} : Conn R x y → Conn R y x
 | trans {x y z : Nat} : Conn R x y → Conn R y z → Conn R x z
theorem Conn.mono {R R' : Nat → Nat → Prop} (h : ∀ x y, R x y → Conn R' x y) {x y : Nat} (c : Conn R x y) : Conn R' x y := by
 induction c with
 | refl x => exact .refl x
 | edge e => exact h _ _ e
 | symm _ ih => exact ih.symm
 | trans _ _ a b => exact a.trans b
end Go.Aw
namespace Go.Proofs.YtihdchjpepkpbaaGreat
set_option linter.unusedVariables false
set_option linter.unusedSimpArgs false
open Go.Aw
abbrev Uk := KS
structure SrcOk (s : Uk) : Prop where
 at0 : 0 ≤ s.At
 at1 : s.At ≤ (s.L_.length : Int)
 len : s.L_.length ≤ 2000
theorem Au {α : Type} {c : Prop} [Decidable c] {a b : Option α} {P : α → Prop} (d : c → Ok a P) (e : ¬ c → Ok b P) : Ok (if decide c = true then a else b) P := by
 by_cases hc : c
 ·rw [if_pos (by simp [hc])]; exact d hc
 ·rw [if_neg (by simp [hc])]; exact e hc
theorem Av {α : Type} {c : Bool} {a b : Option α} {P : α → Prop} (d : c = true → Ok a P) (e : c = false → Ok b P) : Ok (if c = true then a else b) P := by
 cases c
 ·rw [if_neg (by simp)]; exact e rfl
 ·rw [if_pos rfl]; exact d rfl
theorem Fm {α : Type} {c : Bool} {a b : Option α} {P : α → Prop} (d : c = false → Ok a P) (e : c = true → Ok b P) : Ok (if (!c) = true then a else b) P := by
 cases c
 ·exact d rfl
 ·exact e rfl
theorem Ec {α : Type} {x y : Int} {a b : Option α} {P : α → Prop} (c : x = y → Ok a P) (d : x ≠ y → Ok b P) : Ok (if (x == y) = true then a else b) P := by
 by_cases h : x = y
 ·rw [if_pos (by simp [h])]; exact c h
 ·rw [if_neg (by simp [h])]; exact d h
theorem C3 {α : Type} {x y : Int} {a b : Option α} {P : α → Prop} (c : x ≠ y → Ok a P) (d : x = y → Ok b P) : Ok (if (x != y) = true then a else b) P := by
 by_cases h : x = y
 ·rw [if_neg (by simp [h])]; exact d h
 ·rw [if_pos (by simp [h])]; exact c h
theorem Tk (x : Int) {n : Int} (a : 1 ≤ n) (b : n ≤ 9223372036854775807) : Ok (My x n) fun r => 0 ≤ r ∧ r < n := by
 unfold My My.J1
 have ha := Int.tmod_lt_of_pos x (show 0 < n by omega)
 have hb : -n < x.tmod n := by
  have := Int.tmod_lt_of_pos (-x) (show 0 < n by omega)
  rw [Int.neg_tmod] at this; omega
 refine Au (fun h => by omega) fun _ => .bind' (.rem (by omega) ?_)
 refine Au (fun h => .pure ?_) (fun h => .pure ?_)
 ·rw [As (by omega)]; omega
 ·omega
theorem eP (l : Li) : Ok (Qi l) SrcOk := by
 unfold Qi
 refine .bind' (.sub 0 (min l.length 2000) rfl (by omega) (by omega) (by omega) (.pure ?_))
 exact ⟨Int.le_refl _, by simp, by simp; omega⟩
theorem eJ {s : Uk} (h : SrcOk s) : Ok (P6 s) fun r => SrcOk r.2 := by
 obtain ⟨b, c, a⟩ := h
 unfold P6
 refine Au (fun _ => .pure ⟨b, c, a⟩) fun h => ?_
 simp (disch := omega) only [As]
 refine .bind' (.ix' (by omega) (by omega) fun k x _ _ => .pure ⟨by dsimp only; omega, by dsimp only; omega, a⟩)
theorem Ee {s : Uk} (h : SrcOk s) {n : Int} (a : 1 ≤ n) (b : n ≤ 9223372036854775807) : Ok (Cg s n) fun r => SrcOk r.2 ∧ 0 ≤ r.1 ∧ r.1 < n := by
 unfold Cg
 exact .bind (eJ h) fun x hx => .bind (Tk _ a b) fun y hy => .pure ⟨hx, hy⟩
theorem Fb {s : Uk} (h : SrcOk s) {lo hi : Int} (a : lo ≤ hi) (b : -1000000000 ≤ lo) (c : hi ≤ 1000000000) : Ok (Fy s lo hi) fun r => SrcOk r.2 ∧ lo ≤ r.1 ∧ r.1 ≤ hi := by
 unfold Fy
 simp (disch := omega) only [As]
 refine .bind (Ee h (by omega) (by omega)) fun x hx => .pure ⟨hx.1, ?_⟩
 dsimp only
 rw [As (by omega)]; omega
theorem Br {s : Uk} (h : SrcOk s) {l : Li} (a : 1 ≤ l.length) (b : l.length ≤ 1000) : Ok (Cf s l) fun r => SrcOk r.2 ∧ r.1 ∈ l := by
 unfold Cf
 refine .bind (Ee h (by omega) (by omega)) fun x hx => .bind' (.ix' hx.2.1 hx.2.2 fun k y _ hy => .pure ⟨hx.1, mg hy⟩)
def nm (c : UInt8) (k : Nat) : ByteArray := ⟨#[c, 97 + UInt8.ofNat k]⟩
theorem Lq {c : UInt8} {k : Nat} (hk : k < 26) : Fa ⟨#[c]⟩ (k : Int) = some (nm c k) := by
 unfold Fa
 have hm : ((k : Int).tmod 26) = (k : Int) := by rw [Int.tmod_eq_emod_of_nonneg (by omega)]; omega
 rw [hm, As (by omega)]
 have : k = 0 ∨ k = 1 ∨ k = 2 ∨ k = 3 ∨ k = 4 ∨ k = 5 ∨ k = 6 ∨ k = 7 ∨ k = 8 ∨ k = 9 ∨ k = 10 ∨ k = 11 ∨ k = 12 ∨ k = 13 ∨ k = 14 ∨ k = 15 ∨ k = 16 ∨ k = 17 ∨ k = 18 ∨ k = 19 ∨ k = 20 ∨ k = 21 ∨ k = 22 ∨ k = 23 ∨ k = 24 ∨ k = 25 := by omega
 rcases this with rfl | rfl | rfl | rfl | rfl | rfl | rfl | rfl | rfl | rfl | rfl | rfl | rfl | rfl | rfl | rfl | rfl | rfl | rfl | rfl | rfl | rfl | rfl | rfl | rfl | rfl <;> rfl
structure PointsOk (cap : Int) (l : List Point) : Prop where
 len : 2 ≤ l.length ∧ l.length ≤ 8
 first : ∀ p, l[0]? = some p → p.At = 0
 last : ∀ p, l[l.length - 1]? = some p → p.At = cap
 up : ∀ i p q, l[i]? = some p → l[i + 1]? = some q → p.At < q.At
 height : ∀ p, p ∈ l → -500 ≤ p.Height ∧ p.Height ≤ 5000
 limit : ∀ p, p ∈ l → 0 ≤ p.Limit ∧ p.Limit ≤ 100000000
structure SegOk (nodes k : Nat) (s : Segment) : Prop where
 name : s.Name = nm 103 k
 ends : 0 ≤ s.From ∧ s.From < (nodes : Int) ∧ 0 ≤ s.To ∧ s.To < (nodes : Int) ∧ s.From ≠ s.To
 cap : 1 ≤ s.Capacity ∧ s.Capacity ≤ 1000
 resist : 0 ≤ s.Resist ∧ s.Resist ≤ 1000
 wave : 0 ≤ s.Wave ∧ s.Wave ≤ 100000
 points : PointsOk s.Capacity s.Points
structure PortOk (nodes k : Nat) (p : Port) : Prop where
 name : p.Name = nm 113 k
 node : 0 ≤ p.Node ∧ p.Node < (nodes : Int)
 pressure : 0 ≤ p.Pressure ∧ p.Pressure ≤ 100000000
structure StOk (nodes k : Nat) (p : Station) : Prop where
 name : p.Name = nm 115 k
 node : 0 ≤ p.Node ∧ p.Node < (nodes : Int)
 head : 0 ≤ p.Head ∧ p.Head ≤ 2000000
 fall : 0 ≤ p.Fall ∧ p.Fall ≤ 100000
 suction : 0 ≤ p.Suction ∧ p.Suction ≤ 400000
structure NetOk (n : Network) : Prop where
 nodes : 2 ≤ n.Nodes.length ∧ n.Nodes.length ≤ 6
 names : ∀ k x, n.Nodes[k]? = some x → x = nm 110 k
 segs1 : n.Nodes.length - 1 ≤ n.Segments.length ∧ n.Segments.length ≤ 8
 segs : ∀ k s, n.Segments[k]? = some s → SegOk n.Nodes.length k s
 ports1 : 2 ≤ n.Ports.length ∧ n.Ports.length ≤ 6
 ports : ∀ k s, n.Ports[k]? = some s → PortOk n.Nodes.length k s
 portsUp : ∀ (i j : Nat) (p q : Port), i < j → n.Ports[i]? = some p → n.Ports[j]? = some q → p.Node < q.Node
 sts1 : n.Stations.length ≤ 6
 sts : ∀ k s, n.Stations[k]? = some s → StOk n.Nodes.length k s
 stsUp : ∀ (i j : Nat) (p q : Station), i < j → n.Stations[i]? = some p → n.Stations[j]? = some q → p.Node < q.Node
 vapour : -100000 ≤ n.Vapour ∧ n.Vapour ≤ 50000
 settle : 0 ≤ n.Settle ∧ n.Settle ≤ 100
structure PInv (l : List Point) (at_ : Int) : Prop where
 len : 1 ≤ l.length
 first : ∀ p, l[0]? = some p → p.At = 0
 last : ∀ p, l[l.length - 1]? = some p → p.At = at_
 up : ∀ i p q, l[i]? = some p → l[i + 1]? = some q → p.At < q.At
 height : ∀ p, p ∈ l → -500 ≤ p.Height ∧ p.Height ≤ 5000
 limit : ∀ p, p ∈ l → 0 ≤ p.Limit ∧ p.Limit ≤ 100000000
theorem PInv.append {l : List Point} {at_ : Int} (h : PInv l at_) {p : Point} (e : at_ < p.At) (c : -500 ≤ p.Height ∧ p.Height ≤ 5000) (d : 0 ≤ p.Limit ∧ p.Limit ≤ 100000000) : PInv (l ++ [p]) p.At := by
 have hl := h.len
 refine ⟨by simp, fun q hq => h.first q ?_, fun q hq => ?_, fun i a b ha hb => ?_, fun q hq => ?_, fun q hq => ?_⟩
 ·rw [List.getElem?_append_left (by omega)] at hq; exact hq
 ·rw [List.getElem?_append_right (by simp)] at hq; simp at hq; rw [hq]
 ·rw [List.getElem?_append] at ha hb
  split at hb
  ·rw [if_pos (by omega)] at ha; exact h.up i a b ha hb
  ·rename_i hi
   have hb' := (gs hb).1
   simp at hb'
   have : i + 1 = l.length := by omega
   rw [if_pos (by omega)] at ha
   have f := h.last a (by rw [show l.length - 1 = i by omega]; exact ha)
   simp [this] at hb
   rw [← hb]; omega
 ·rcases List.mem_append.1 hq with hq | hq
  ·exact h.height q hq
  ·simp at hq; subst hq; exact c
 ·rcases List.mem_append.1 hq with hq | hq
  ·exact h.limit q hq
  ·simp at hq; subst hq; exact d
theorem PInv.done {l : List Point} {at_ : Int} (h : PInv l at_) (a : 2 ≤ l.length ∧ l.length ≤ 8) : PointsOk at_ l := ⟨a, h.first, h.last, h.up, h.height, h.limit⟩
theorem F8 {n : Int} (h : 0 ≤ n) : ∃ k : Nat, n = (k : Int) := ⟨n.toNat, by omega⟩
theorem Y6 {s : Uk} (hs : SrcOk s) {nodes k : Nat} (hk : k < 26) {a b : Int} (ha : 0 ≤ a ∧ a < (nodes : Int)) (hb : 0 ≤ b ∧ b < (nodes : Int)) (hab : a ≠ b) :
  Ok (Kq s (k : Int) a b) fun r => SegOk nodes k r.1 ∧ SrcOk r.2 := by
 have main : ∀ (j : Li × Int × Int × Int), SrcOk ⟨j.1, j.2.1⟩ → 0 ≤ j.2.2.1 ∧ j.2.2.1 < (nodes : Int) → 0 ≤ j.2.2.2 ∧ j.2.2.2 < (nodes : Int) → j.2.2.1 ≠ j.2.2.2 →
   Ok (Kq.J1 (k : Int) j) fun r => SegOk nodes k r.1 ∧ SrcOk r.2 := by
  intro j hs l m C
  unfold Kq.J1
  refine .bind' (.eq (Lq hk) ?_)
  refine .bind (Br hs (by decide) (by decide)) fun c n => ?_
  refine .bind (Br n.1 (by decide) (by decide)) fun S o => ?_
  refine .bind (Br o.1 (by decide) (by decide)) fun U q => ?_
  refine .bind (Br q.1 (by decide) (by decide)) fun t u => ?_
  refine .bind (Fb u.1 (by decide) (by decide) (by decide)) fun W D => ?_
  have E := n.2; have F := o.2; have G := q.2; have H := u.2
  simp only [List.mem_cons, List.not_mem_nil, or_false] at E F G H
  refine .bind' (.app (by simp) ?_)
  refine .bind (Q := fun d : Li × Int × List Point => SrcOk ⟨d.1, d.2.1⟩ ∧ ∃ at_, PInv d.2.2 at_ ∧ at_ < c.1 ∧ d.2.2.length ≤ 7) ?_ ?_
  ·refine .loop (fun st => SrcOk ⟨st.1, st.2.1⟩ ∧ PInv st.2.2.1 st.2.2.2 ∧ 0 ≤ st.2.2.2 ∧ st.2.2.2 < c.1 ∧ st.2.2.1.length ≤ 7) (fun st => 7 - st.2.2.1.length)
    ⟨D.1, ⟨by simp, by simp, by simp, by simp, by simp; omega, by simp; omega⟩, by simp, by simp; omega, by simp⟩ (by dsimp only; omega) ?_
   rintro ⟨L_, At, pts, at_⟩ ⟨f, e, K, g, i⟩
   dsimp only at f e K g i ⊢
   have v : ∀ (x : Li × Int × Bool), SrcOk ⟨x.1, x.2.1⟩ → (x.2.2 = true → pts.length < 7) → Ok (Kq.J4 c t (L_, At, pts, at_) x) (Sum.elim (fun st => (SrcOk ⟨st.1, st.2.1⟩ ∧ PInv st.2.2.1 st.2.2.2 ∧ 0 ≤ st.2.2.2 ∧ st.2.2.2 < c.1 ∧ st.2.2.1.length ≤ 7) ∧ 7 - st.2.2.1.length < 7 - pts.length) fun d => SrcOk ⟨d.1, d.2.1⟩ ∧ ∃ at_, PInv d.2.2 at_ ∧ at_ < c.1 ∧ d.2.2.length ≤ 7) := by
    intro x hx hl
    unfold Kq.J4
    refine Av (fun hb => ?_) fun _ => .pure ⟨hx, at_, e, g, i⟩
    have hl := hl hb
    refine .bind (Fb hx (by decide) (by decide) (by decide)) fun X w => ?_
    dsimp only
    rw [As (by omega)]
    refine Au (fun _ => .pure ⟨w.1, at_, e, g, i⟩) fun hlt => ?_
    refine .bind (Fb w.1 (by decide) (by decide) (by decide)) fun y M => ?_
    refine .bind (Br M.1 (by decide) (by decide)) fun z A => ?_
    have B := A.2
    simp only [List.mem_cons, List.not_mem_nil, or_false] at B
    refine .bind (Ee A.1 (by decide) (by decide)) fun Y N => ?_
    refine .bind' (.app (by simp; omega) (.pure ⟨⟨N.1, ?_, by dsimp only; omega, by dsimp only; omega, by simp; omega⟩, by simp; omega⟩))
    have hh : -50 ≤ y.1 * z.1 ∧ y.1 * z.1 ≤ 600 := by
     rcases B with h | h | h <;> rw [h] <;> omega
    refine e.append ?_ ?_ ?_ <;> simp (disch := omega) only [As] <;> omega
   unfold Kq.B3
   refine Au (fun h => ?_) fun h => ?_
   ·refine .bind (Ee f (by decide) (by decide)) fun Z O => v (_, _, _) O.1 fun _ => by dsimp only at h; omega
   ·exact v (_, _, _) f (by simp)
  ·rintro ⟨dl, da, dp⟩ ⟨hd, at_, hp, hlt, hlen⟩
   dsimp only at hd hp hlen
   unfold Kq.J2
   refine .bind (Fb hd (by decide) (by decide) (by decide)) fun P R => ?_
   have aa := hp.len
   refine .bind' (.app (by simp; omega) (.pure ⟨⟨rfl, ⟨l.1, l.2, m.1, m.2, C⟩, by dsimp only; omega, by dsimp only; omega, by dsimp only; omega, ?_⟩, R.1⟩))
   exact (hp.append (p := ⟨c.1, P.1, t.1⟩) hlt (by dsimp only; omega) (by dsimp only; omega)).done (by simp; omega)
 unfold Kq
 refine .bind (Ee hs (by decide) (by decide)) fun r hr => ?_
 exact Ec (fun _ => main _ hr.1 hb ha (Ne.symm hab)) fun _ => main _ hr.1 ha hb hab
theorem Ka {s : Li} {g : Int → Option Bool} {P : Int → Bool} (hg : ∀ (k : Nat) (x : Int), s[k]? = some x → g x = some (P x)) :
  Ok (Is s g) fun r => (r = -1 ∧ ∀ (j : Nat) (y : Int), s[j]? = some y → P y = false) ∨ ∃ (k : Nat) (x : Int), r = (k : Int) ∧ s[k]? = some x ∧ P x = true ∧ ∀ (j : Nat) (y : Int), j < k → s[j]? = some y → P y = false := by
 unfold Is
 refine .bind' (.forL (fun k _ => ∀ (j : Nat) (y : Int), j < k → s[j]? = some y → P y = false) (fun r => ∃ (k : Nat) (x : Int), r = (k : Int) ∧ s[k]? = some x ∧ P x = true ∧ ∀ (j : Nat) (y : Int), j < k → s[j]? = some y → P y = false) (fun j y h => absurd h (Nat.not_lt_zero _)) ?_ ?_ ?_)
 ·intro k x _ hx hi
  unfold Is.B2
  refine .bind' (.eq (hg k x hx) (Av (fun hp => .pure ⟨k, x, rfl, hx, hp, hi⟩) fun hp => .pure fun j y hj hy => ?_))
  by_cases h : j < k
  ·exact hi j y h hy
  ·have : j = k := by omega
   subst this
   rw [hx] at hy; simp at hy; subst hy; exact hp
 ·intro _ hi
  simp only [Sum.elim_inl]
  unfold Is.J1
  exact .pure (.inl ⟨rfl, fun j y hy => hi j y (gs hy).1 hy⟩)
 ·intro b hb
  exact .pure (.inr hb)
theorem Hh {s : Li} {g : Int → Option Bool} {P : Int → Bool} (hg : ∀ (k : Nat) (x : Int), s[k]? = some x → g x = some (P x)) :
  L1 s g = some (s.any P) := by
 have : Ok (L1 s g) fun r => r = s.any P := by
  unfold L1
  refine .bind (Ka hg) fun r hr => .pure ?_
  rcases hr with ⟨rfl, h⟩ | ⟨k, x, rfl, hx, hp, _⟩
  ·have : s.any P = false := by
    rw [List.any_eq_false]
    intro x hx
    obtain ⟨j, hj⟩ := List.getElem?_of_mem hx
    rw [h j x hj]; simp
   rw [this]; rfl
  ·have : s.any P = true := List.any_eq_true.2 ⟨x, mg hx, hp⟩
   rw [this]; simp
 obtain ⟨r, h, rfl⟩ := this
 exact h
theorem F7 {s : List ByteArray} {g : ByteArray → Option Bool} {P : ByteArray → Bool} (hg : ∀ (k : Nat) (x : ByteArray), s[k]? = some x → g x = some (P x)) :
  Ok (Ma s g) fun r => (r = -1 ∧ ∀ (j : Nat) (y : ByteArray), s[j]? = some y → P y = false) ∨ ∃ (k : Nat) (x : ByteArray), r = (k : Int) ∧ s[k]? = some x ∧ P x = true ∧ ∀ (j : Nat) (y : ByteArray), j < k → s[j]? = some y → P y = false := by
 unfold Ma
 refine .bind' (.forL (fun k _ => ∀ (j : Nat) (y : ByteArray), j < k → s[j]? = some y → P y = false) (fun r => ∃ (k : Nat) (x : ByteArray), r = (k : Int) ∧ s[k]? = some x ∧ P x = true ∧ ∀ (j : Nat) (y : ByteArray), j < k → s[j]? = some y → P y = false) (fun j y h => absurd h (Nat.not_lt_zero _)) ?_ ?_ ?_)
 ·intro k x _ hx hi
  unfold Ma.B2
  refine .bind' (.eq (hg k x hx) (Av (fun hp => .pure ⟨k, x, rfl, hx, hp, hi⟩) fun hp => .pure fun j y hj hy => ?_))
  by_cases h : j < k
  ·exact hi j y h hy
  ·have : j = k := by omega
   subst this
   rw [hx] at hy; simp at hy; subst hy; exact hp
 ·intro _ hi
  simp only [Sum.elim_inl]
  unfold Ma.J1
  exact .pure (.inl ⟨rfl, fun j y hy => hi j y (gs hy).1 hy⟩)
 ·intro b hb
  exact .pure (.inr hb)
theorem Fh {s : List ByteArray} {g : ByteArray → Option Bool} {P : ByteArray → Bool} (hg : ∀ (k : Nat) (x : ByteArray), s[k]? = some x → g x = some (P x)) :
  Ml s g = some (s.any P) := by
 have : Ok (Ml s g) fun r => r = s.any P := by
  unfold Ml
  refine .bind (F7 hg) fun r hr => .pure ?_
  rcases hr with ⟨rfl, h⟩ | ⟨k, x, rfl, hx, hp, _⟩
  ·have : s.any P = false := by
    rw [List.any_eq_false]
    intro x hx
    obtain ⟨j, hj⟩ := List.getElem?_of_mem hx
    rw [h j x hj]; simp
   rw [this]; rfl
  ·have : s.any P = true := List.any_eq_true.2 ⟨x, mg hx, hp⟩
   rw [this]; simp
 obtain ⟨r, h, rfl⟩ := this
 exact h
theorem D7 {s : List Segment} {g : Segment → Option Bool} {P : Segment → Bool} (hg : ∀ (k : Nat) (x : Segment), s[k]? = some x → g x = some (P x)) :
  Ok (Mx s g) fun r => (r = -1 ∧ ∀ (j : Nat) (y : Segment), s[j]? = some y → P y = false) ∨ ∃ (k : Nat) (x : Segment), r = (k : Int) ∧ s[k]? = some x ∧ P x = true ∧ ∀ (j : Nat) (y : Segment), j < k → s[j]? = some y → P y = false := by
 unfold Mx
 refine .bind' (.forL (fun k _ => ∀ (j : Nat) (y : Segment), j < k → s[j]? = some y → P y = false) (fun r => ∃ (k : Nat) (x : Segment), r = (k : Int) ∧ s[k]? = some x ∧ P x = true ∧ ∀ (j : Nat) (y : Segment), j < k → s[j]? = some y → P y = false) (fun j y h => absurd h (Nat.not_lt_zero _)) ?_ ?_ ?_)
 ·intro k x _ hx hi
  unfold Mx.B2
  refine .bind' (.eq (hg k x hx) (Av (fun hp => .pure ⟨k, x, rfl, hx, hp, hi⟩) fun hp => .pure fun j y hj hy => ?_))
  by_cases h : j < k
  ·exact hi j y h hy
  ·have : j = k := by omega
   subst this
   rw [hx] at hy; simp at hy; subst hy; exact hp
 ·intro _ hi
  simp only [Sum.elim_inl]
  unfold Mx.J1
  exact .pure (.inl ⟨rfl, fun j y hy => hi j y (gs hy).1 hy⟩)
 ·intro b hb
  exact .pure (.inr hb)
theorem C1 {s : List Segment} {g : Segment → Option Bool} {P : Segment → Bool} (hg : ∀ (k : Nat) (x : Segment), s[k]? = some x → g x = some (P x)) :
  Kk s g = some (s.any P) := by
 have : Ok (Kk s g) fun r => r = s.any P := by
  unfold Kk
  refine .bind (D7 hg) fun r hr => .pure ?_
  rcases hr with ⟨rfl, h⟩ | ⟨k, x, rfl, hx, hp, _⟩
  ·have : s.any P = false := by
    rw [List.any_eq_false]
    intro x hx
    obtain ⟨j, hj⟩ := List.getElem?_of_mem hx
    rw [h j x hj]; simp
   rw [this]; rfl
  ·have : s.any P = true := List.any_eq_true.2 ⟨x, mg hx, hp⟩
   rw [this]; simp
 obtain ⟨r, h, rfl⟩ := this
 exact h
theorem E3 {s : List Port} {g : Port → Option Bool} {P : Port → Bool} (hg : ∀ (k : Nat) (x : Port), s[k]? = some x → g x = some (P x)) :
  Ok (Mh s g) fun r => (r = -1 ∧ ∀ (j : Nat) (y : Port), s[j]? = some y → P y = false) ∨ ∃ (k : Nat) (x : Port), r = (k : Int) ∧ s[k]? = some x ∧ P x = true ∧ ∀ (j : Nat) (y : Port), j < k → s[j]? = some y → P y = false := by
 unfold Mh
 refine .bind' (.forL (fun k _ => ∀ (j : Nat) (y : Port), j < k → s[j]? = some y → P y = false) (fun r => ∃ (k : Nat) (x : Port), r = (k : Int) ∧ s[k]? = some x ∧ P x = true ∧ ∀ (j : Nat) (y : Port), j < k → s[j]? = some y → P y = false) (fun j y h => absurd h (Nat.not_lt_zero _)) ?_ ?_ ?_)
 ·intro k x _ hx hi
  unfold Mh.B2
  refine .bind' (.eq (hg k x hx) (Av (fun hp => .pure ⟨k, x, rfl, hx, hp, hi⟩) fun hp => .pure fun j y hj hy => ?_))
  by_cases h : j < k
  ·exact hi j y h hy
  ·have : j = k := by omega
   subst this
   rw [hx] at hy; simp at hy; subst hy; exact hp
 ·intro _ hi
  simp only [Sum.elim_inl]
  unfold Mh.J1
  exact .pure (.inl ⟨rfl, fun j y hy => hi j y (gs hy).1 hy⟩)
 ·intro b hb
  exact .pure (.inr hb)
theorem Eo {s : List Port} {g : Port → Option Bool} {P : Port → Bool} (hg : ∀ (k : Nat) (x : Port), s[k]? = some x → g x = some (P x)) :
  Mt s g = some (s.any P) := by
 have : Ok (Mt s g) fun r => r = s.any P := by
  unfold Mt
  refine .bind (E3 hg) fun r hr => .pure ?_
  rcases hr with ⟨rfl, h⟩ | ⟨k, x, rfl, hx, hp, _⟩
  ·have : s.any P = false := by
    rw [List.any_eq_false]
    intro x hx
    obtain ⟨j, hj⟩ := List.getElem?_of_mem hx
    rw [h j x hj]; simp
   rw [this]; rfl
  ·have : s.any P = true := List.any_eq_true.2 ⟨x, mg hx, hp⟩
   rw [this]; simp
 obtain ⟨r, h, rfl⟩ := this
 exact h
theorem C9 {s : List Station} {g : Station → Option Bool} {P : Station → Bool} (hg : ∀ (k : Nat) (x : Station), s[k]? = some x → g x = some (P x)) :
  Ok (Ki s g) fun r => (r = -1 ∧ ∀ (j : Nat) (y : Station), s[j]? = some y → P y = false) ∨ ∃ (k : Nat) (x : Station), r = (k : Int) ∧ s[k]? = some x ∧ P x = true ∧ ∀ (j : Nat) (y : Station), j < k → s[j]? = some y → P y = false := by
 unfold Ki
 refine .bind' (.forL (fun k _ => ∀ (j : Nat) (y : Station), j < k → s[j]? = some y → P y = false) (fun r => ∃ (k : Nat) (x : Station), r = (k : Int) ∧ s[k]? = some x ∧ P x = true ∧ ∀ (j : Nat) (y : Station), j < k → s[j]? = some y → P y = false) (fun j y h => absurd h (Nat.not_lt_zero _)) ?_ ?_ ?_)
 ·intro k x _ hx hi
  unfold Ki.B2
  refine .bind' (.eq (hg k x hx) (Av (fun hp => .pure ⟨k, x, rfl, hx, hp, hi⟩) fun hp => .pure fun j y hj hy => ?_))
  by_cases h : j < k
  ·exact hi j y h hy
  ·have : j = k := by omega
   subst this
   rw [hx] at hy; simp at hy; subst hy; exact hp
 ·intro _ hi
  simp only [Sum.elim_inl]
  unfold Ki.J1
  exact .pure (.inl ⟨rfl, fun j y hy => hi j y (gs hy).1 hy⟩)
 ·intro b hb
  exact .pure (.inr hb)
theorem Dy {s : List Station} {g : Station → Option Bool} {P : Station → Bool} (hg : ∀ (k : Nat) (x : Station), s[k]? = some x → g x = some (P x)) :
  L6 s g = some (s.any P) := by
 have : Ok (L6 s g) fun r => r = s.any P := by
  unfold L6
  refine .bind (C9 hg) fun r hr => .pure ?_
  rcases hr with ⟨rfl, h⟩ | ⟨k, x, rfl, hx, hp, _⟩
  ·have : s.any P = false := by
    rw [List.any_eq_false]
    intro x hx
    obtain ⟨j, hj⟩ := List.getElem?_of_mem hx
    rw [h j x hj]; simp
   rw [this]; rfl
  ·have : s.any P = true := List.any_eq_true.2 ⟨x, mg hx, hp⟩
   rw [this]; simp
 obtain ⟨r, h, rfl⟩ := this
 exact h
theorem Hw {s : List ByteArray} {v : ByteArray} :
  Ok (L9 s v) fun r => (r = -1 ∧ ∀ (j : Nat) (y : ByteArray), s[j]? = some y → (Rr v y) = false) ∨ ∃ (k : Nat) (y : ByteArray), r = (k : Int) ∧ s[k]? = some y ∧ (Rr v y) = true ∧ ∀ (j : Nat) (y : ByteArray), j < k → s[j]? = some y → (Rr v y) = false := by
 unfold L9
 refine .bind' (.forL (fun k _ => ∀ (j : Nat) (y : ByteArray), j < k → s[j]? = some y → (Rr v y) = false) (fun r => ∃ (k : Nat) (y : ByteArray), r = (k : Int) ∧ s[k]? = some y ∧ (Rr v y) = true ∧ ∀ (j : Nat) (y : ByteArray), j < k → s[j]? = some y → (Rr v y) = false) (fun j y h => absurd h (Nat.not_lt_zero _)) ?_ ?_ ?_)
 ·intro k x _ hx hi
  unfold L9.B2
  refine Av (fun hp => .pure ⟨k, x, rfl, hx, hp, hi⟩) fun hp => .pure fun j y hj hy => ?_
  by_cases h : j < k
  ·exact hi j y h hy
  ·have : j = k := by omega
   subst this
   rw [hx] at hy; simp at hy; subst hy; exact hp
 ·intro _ hi
  simp only [Sum.elim_inl]
  unfold L9.J1
  exact .pure (.inl ⟨rfl, fun j y hy => hi j y (gs hy).1 hy⟩)
 ·intro b hb
  exact .pure (.inr hb)
end Go.Proofs.YtihdchjpepkpbaaGreat
namespace Go.Aw
set_option linter.unusedVariables false
set_option linter.unusedSimpArgs false
theorem Ok.any {α B : Type} {f : Nat → α → Unit → Option (Unit ⊕ B)} {l : List α} {d : B} (P : Nat → α → Prop)
  (hf : ∀ (k : Nat) x, l[k]? = some x → Ok (f k x ()) fun o => (P k x ∧ o = .inr d) ∨ (¬ P k x ∧ o = .inl ())) :
  Ok (Aw.forL f 0 l ()) fun o => ((∃ (k : Nat) (x : α), l[k]? = some x ∧ P k x) ∧ o = .inr d) ∨ ((∀ (k : Nat) (x : α), l[k]? = some x → ¬ P k x) ∧ o = .inl ()) := by
 refine .forL (fun m _ => ∀ (k : Nat) (x : α), k < m → l[k]? = some x → ¬ P k x) (fun b => b = d ∧ ∃ (k : Nat) (x : α), l[k]? = some x ∧ P k x) (fun k x h => absurd h (Nat.not_lt_zero _)) ?_ ?_ ?_
 ·intro k x _ hx hi
  refine (hf k x hx).mono ?_
  rintro o (⟨h, rfl⟩ | ⟨h, rfl⟩)
  ·exact ⟨rfl, k, x, hx, h⟩
  ·intro j y hj hy
   by_cases hjk : j = k
   ·subst hjk; rw [hx] at hy; cases hy; exact h
   ·exact hi j y (by omega) hy
 ·exact fun _ h => .inr ⟨fun k x hx => h k x (gs hx).1 hx, rfl⟩
 ·rintro b ⟨rfl, h⟩; exact .inl ⟨h, rfl⟩
theorem Je {B : Type} {f : Nat → Unit → Option (Unit ⊕ B)} {n : Nat} {d : B} (P : Nat → Prop)
  (hf : ∀ (k : Nat), k < n → Ok (f k ()) fun o => (P k ∧ o = .inr d) ∨ (¬ P k ∧ o = .inl ())) :
  Ok (Aw.forI f 0 n ()) fun o => ((∃ k, k < n ∧ P k) ∧ o = .inr d) ∨ ((∀ k, k < n → ¬ P k) ∧ o = .inl ()) := by
 refine .forI (fun m _ => ∀ k, k < m → ¬ P k) (fun b => b = d ∧ ∃ k, k < n ∧ P k) (fun k h => absurd h (Nat.not_lt_zero _)) ?_ ?_ ?_
 ·intro k _ hk hi
  refine (hf k hk).mono ?_
  rintro o (⟨h, rfl⟩ | ⟨h, rfl⟩)
  ·exact ⟨rfl, k, hk, h⟩
  ·intro j hj
   by_cases hjk : j = k
   ·subst hjk; exact h
   ·exact hi j (by omega)
 ·exact fun _ h => .inr ⟨h, rfl⟩
 ·rintro b ⟨rfl, h⟩; exact .inl ⟨h, rfl⟩
theorem Ok.test {B : Type} {c : Bool} {d : B} {P : Prop} (h : c = true ↔ P) : Ok (if c = true then some (.inr d) else some (.inl ()) : Option (Unit ⊕ B)) fun o => (P ∧ o = .inr d) ∨ (¬ P ∧ o = .inl ()) := by
 by_cases hc : c = true
 ·rw [if_pos hc]; exact .pure (.inl ⟨h.1 hc, rfl⟩)
 ·rw [if_neg hc]; exact .pure (.inr ⟨fun hp => hc (h.2 hp), rfl⟩)
theorem Ls {α B : Type} {l : List α} {k : Nat} {d : B} {f : Int → Option (Int ⊕ (B ⊕ Unit))} (P : α → Prop) (hk : k ≤ l.length) (hl : l.length ≤ 1000000)
  (hf : ∀ (i : Nat) (y : α), i < k → l[i]? = some y → Ok (f (i : Int)) fun o => (P y ∧ o = .inr (.inl d)) ∨ (¬ P y ∧ o = .inl (wr ((i : Int) + 1)))) (he : f (k : Int) = some (.inr (.inr ()))) :
  Ok (Bj f Da 0) fun o => ((∃ (j : Nat) (y : α), j < k ∧ l[j]? = some y ∧ P y) ∧ o = .inl d) ∨ ((¬ ∃ (j : Nat) (y : α), j < k ∧ l[j]? = some y ∧ P y) ∧ o = .inr ()) := by
 refine .loop (fun i : Int => 0 ≤ i ∧ i ≤ (k : Int) ∧ ∀ (j : Nat) (y : α), (j : Int) < i → l[j]? = some y → ¬ P y) (fun i => k - i.toNat) ⟨by omega, by omega, fun j y h => by omega⟩ (by omega) ?_
 rintro i ⟨b, c, a⟩
 obtain ⟨i, rfl⟩ : ∃ m : Nat, i = (m : Int) := ⟨i.toNat, by omega⟩
 by_cases hik : i = k
 ·subst hik
  rw [he]
  exact .pure (.inr ⟨fun ⟨j, y, hj, hy, hp⟩ => a j y (by omega) hy hp, rfl⟩)
 have hy : l[i]? = some (l[i]'(by omega)) := gq _
 refine (hf i _ (by omega) hy).mono ?_
 rintro o (⟨h, rfl⟩ | ⟨h, rfl⟩)
 ·exact .inl ⟨⟨i, _, by omega, hy, h⟩, rfl⟩
 ·simp only [Sum.elim_inl]
  rw [As (by omega)]
  refine ⟨⟨by omega, by omega, fun j y hj hy' => ?_⟩, by omega⟩
  by_cases hji : j = i
  ·subst hji; rw [hy] at hy'; cases hy'; exact h
  ·exact a j y (by omega) hy'
theorem Qz {α β : Type} {l : List α} {st : List β} {g : α → List β} {f : Nat → α → List β → Option (List β)} (hf : ∀ k x st, f k x st = (C5 st (g x)).bind fun y => some y) (hg : ∀ x, (g x).length ≤ 2) (hl : l.length ≤ 1000) (hs : st.length ≤ 1000000) :
  Ok (Aw.forS f 0 l st) fun r => r = st ++ l.flatMap g ∧ r.length ≤ st.length + 2000 := by
 refine .forS (fun k r => r = st ++ (l.take k).flatMap g ∧ r.length ≤ st.length + 2 * k) (by simp) ?_ fun r h => ⟨by rw [h.1]; simp, by omega⟩
 rintro k x r hx ⟨rfl, h⟩
 rw [hf]
 have hk := (gs hx).1
 have := hg x
 refine .bind' (.app (by omega) (.pure ⟨?_, by rw [List.length_append]; omega⟩))
 rw [List.take_add_one, hx]; simp
theorem Bu {α : Type} {c : Bool} {Q : Prop} {x y : Option α} {P : α → Prop} (h : c = true ↔ Q) (a : Q → Ok x P) (b : ¬ Q → Ok y P) : Ok (if c = true then x else y) P :=
 fF (fun hc => a (h.1 hc)) fun hc => b fun hq => hc (h.2 hq)
end Go.Aw
namespace Go.Proofs.YtihdchjpepkpbaaGreat
set_option linter.unusedVariables false
set_option linter.unusedSimpArgs false
open Go.Aw
theorem Hk {α β : Type} {l : List α} {g : α → β} {f : Nat → α → List β → Option (List β)} (hf : ∀ k x st, f k x st = (C5 st [g x]).bind fun y => some y) (hl : l.length ≤ 1000) :
  Ok (forS f 0 l []) fun r => r = l.map g := by
 refine .forS (fun k st => st = (l.take k).map g) (by simp) ?_ fun st h => by rw [h]; simp
 rintro k x st hx rfl
 rw [hf]
 have hk := (gs hx).1
 refine .bind' (.app (by simp; omega) (.pure ?_))
 rw [List.take_add_one, hx]
 simp
theorem R9 {n : Network} (a : n.Segments.length ≤ 1000) (b : n.Ports.length ≤ 1000) (c : n.Stations.length ≤ 1000) :
  Ok (Kt n) fun r => r.l = [n.Nodes, n.Segments.map (·.Name), n.Ports.map (·.Name), n.Stations.map (·.Name)] := by
 unfold Kt
 refine .bind (Hk (g := (·.Name)) (fun _ _ _ => rfl) a) ?_
 rintro _ rfl
 unfold Kt.J1
 refine .bind (Hk (g := (·.Name)) (fun _ _ _ => rfl) b) ?_
 rintro _ rfl
 unfold Kt.J2
 refine .bind (Hk (g := (·.Name)) (fun _ _ _ => rfl) c) ?_
 rintro _ rfl
 unfold Kt.J3
 exact .pure rfl
theorem Zm (a : ByteArray) : Rr a a = true := by simp [Rr]
def Yt (n : Network) : List (List ByteArray) := [n.Nodes, n.Segments.map (·.Name), n.Ports.map (·.Name), n.Stations.map (·.Name)]
def Oi (s : Segment) : Prop := 2 ≤ s.Points.length ∧ s.Points.length ≤ 8
def Lim (n : Network) : Prop := (1 ≤ n.Nodes.length ∧ n.Nodes.length ≤ 24 ∧ n.Segments.length ≤ 32 ∧ n.Ports.length ≤ 24 ∧ n.Stations.length ≤ 12) ∧ ∀ (k : Nat) (s : Segment), n.Segments[k]? = some s → Oi s
def I6 (c : Int) : Prop := 97 ≤ c ∧ c ≤ 122
def ch (x : ByteArray) (k : Nat) : Int := ((x.data.getD k 0).toNat : Int)
def It (x : ByteArray) : Prop := (1 ≤ x.size ∧ x.size ≤ 12 ∧ I6 (ch x 0)) ∧ ∀ k, k < x.size → I6 (ch x k) ∨ (48 ≤ ch x k ∧ ch x k ≤ 57) ∨ ch x k = 45
def Tw (l : List ByteArray) : Prop := ∃ (k : Nat) (x : ByteArray), l[k]? = some x ∧ ¬ It x
def G8 (n : Network) : Prop := ∃ k, k < 4 ∧ ∃ l, (Yt n)[k]? = some l ∧ Tw l
def Y3 (l : List ByteArray) (k : Nat) (x : ByteArray) : Prop := ∃ (j : Nat) (y : ByteArray), j < k ∧ l[j]? = some y ∧ x.toList = y.toList
def fJ (l : List ByteArray) : Prop := ∃ (k : Nat) (x : ByteArray), l[k]? = some x ∧ Y3 l k x
def Tv (l : List Station) (k : Nat) (x : Station) : Prop := ∃ (j : Nat) (y : Station), j < k ∧ l[j]? = some y ∧ x.Node = y.Node
def Lz (n : Network) : Prop := ∃ k, k < 4 ∧ ∃ l, (Yt n)[k]? = some l ∧ fJ l
def Ly (n : Network) : Prop := ∃ (k : Nat) (x : Station), n.Stations[k]? = some x ∧ Tv n.Stations k x
def At (n : Network) (k : Int) : Prop := 0 ≤ k ∧ k < (n.Nodes.length : Int)
def Lw (n : Network) : Prop := (∀ (k : Nat) (s : Segment), n.Segments[k]? = some s → At n s.From ∧ At n s.To) ∧ (∀ (k : Nat) (s : Port), n.Ports[k]? = some s → At n s.Node) ∧ ∀ (k : Nat) (s : Station), n.Stations[k]? = some s → At n s.Node
def Y2 (p : Point) : Prop := (-500 ≤ p.Height ∧ p.Height ≤ 5000) ∧ 0 ≤ p.Limit ∧ p.Limit ≤ 100000000
def Hx (s : Segment) (k : Nat) (p : Point) : Prop := ¬ Y2 p ∨ ∃ q, 0 < k ∧ s.Points[k - 1]? = some q ∧ p.At ≤ q.At
structure PipeOk (s : Segment) : Prop where
 ends : s.From ≠ s.To
 cap : 1 ≤ s.Capacity ∧ s.Capacity ≤ 1000000
 resist : 0 ≤ s.Resist ∧ s.Resist ≤ 1000
 wave : 0 ≤ s.Wave ∧ s.Wave ≤ 100000
 first : ∀ p, s.Points[0]? = some p → p.At = 0
 last : ∀ p, s.Points[s.Points.length - 1]? = some p → p.At = s.Capacity
 pts : ∀ (k : Nat) (p : Point), s.Points[k]? = some p → ¬ Hx s k p
structure StnOk (s : Station) : Prop where
 head : 0 ≤ s.Head ∧ s.Head ≤ 100000000
 fall : 0 ≤ s.Fall ∧ s.Fall ≤ 100000
 suction : 0 ≤ s.Suction ∧ s.Suction ≤ 100000000
structure Proper (n : Network) : Prop where
 segs : ∀ (k : Nat) (s : Segment), n.Segments[k]? = some s → PipeOk s
 ports : ∀ (k : Nat) (s : Port), n.Ports[k]? = some s → 0 ≤ s.Pressure ∧ s.Pressure ≤ 100000000
 sts : ∀ (k : Nat) (s : Station), n.Stations[k]? = some s → StnOk s
 vapour : -100000 ≤ n.Vapour ∧ n.Vapour ≤ 100000000
 settle : 0 ≤ n.Settle ∧ n.Settle ≤ 100
def NetRes (n : Network) (r : Int) : Prop := (¬ Lim n ∧ r = 4) ∨ (Lim n ∧ ((G8 n ∧ r = 3) ∨ (¬ G8 n ∧ (((Lz n ∨ Ly n) ∧ r = 7) ∨ (¬ (Lz n ∨ Ly n) ∧ ((¬ Lw n ∧ r = 8) ∨ (Lw n ∧ ((¬ Proper n ∧ r = 9) ∨ (Proper n ∧ r = 0)))))))))
theorem NetRes.uniq {n : Network} {r r' : Int} (h : NetRes n r) (h' : NetRes n r') : r = r' := by
 unfold NetRes at h h'
 rcases h with ⟨a, rfl⟩ | ⟨a, ⟨b, rfl⟩ | ⟨b, ⟨c, rfl⟩ | ⟨c, ⟨d, rfl⟩ | ⟨d, ⟨e, rfl⟩ | ⟨e, rfl⟩⟩⟩⟩⟩ <;>
  rcases h' with ⟨a', rfl⟩ | ⟨a', ⟨b', rfl⟩ | ⟨b', ⟨c', rfl⟩ | ⟨c', ⟨d', rfl⟩ | ⟨d', ⟨e', rfl⟩ | ⟨e', rfl⟩⟩⟩⟩⟩ <;> first | rfl | contradiction
structure Sane (n : Network) : Prop where
 nodes : n.Nodes.length ≤ 1000
 segs : n.Segments.length ≤ 1000
 ports : n.Ports.length ≤ 1000
 sts : n.Stations.length ≤ 1000
 pts : ∀ (k : Nat) (s : Segment), n.Segments[k]? = some s → s.Points.length ≤ 1000
theorem Lo {a b : ByteArray} : Rr a b = true ↔ a.toList = b.toList := by simp [Rr]
theorem Lr {x : ByteArray} {k : Nat} (h : k < x.size) : dP x (k : Int) = some (k, ch x k) := by
 unfold dP ch; rw [if_pos ⟨by omega, by omega⟩]; simp
theorem dF {c : Bool} {P : Prop} (h : c = true ↔ P) : (c = true ∧ P) ∨ (c = false ∧ ¬ P) := by
 cases c
 ·exact .inr ⟨rfl, fun hp => by cases h.2 hp⟩
 ·exact .inl ⟨rfl, h.1 rfl⟩
theorem M7 {x : ByteArray} : Ok (Gb x) fun r => r = true ↔ It x := by
 have no : ¬ (1 ≤ x.size ∧ x.size ≤ 12 ∧ I6 (ch x 0)) → Ok (Gb.J1 x true) fun r => r = true ↔ It x := fun h => by
  unfold Gb.J1
  exact .pure ⟨fun h => (by cases h), fun hn => absurd hn.1 h⟩
 unfold Gb
 refine Au (fun h => no (by omega)) fun c => Au (fun h => no (by omega)) fun f => ?_
 refine .bind' (.eq (Lr (k := 0) (by omega)) ?_)
 have e : (G4 (ch x 0) != 1) = true ↔ ¬ I6 (ch x 0) := by
  unfold G4 G4.J1 I6
  by_cases a : (decide (ch x 0 ≥ 97) && decide (ch x 0 ≤ 122)) = true
  ·rw [if_pos a]; simp at a ⊢; omega
  ·rw [if_neg a]
   simp at a
   refine ⟨fun _ => by omega, fun _ => ?_⟩
   split <;> (try split) <;> rfl
 rcases dF e with ⟨e, b⟩ | ⟨e, b⟩
 ·dsimp only; rw [e]; exact no (fun h => b h.2.2)
 dsimp only
 rw [e]
 unfold Gb.J1
 refine Av (fun h => by cases h) fun _ => .bind' (.chk (by omega) ?_)
 refine .bind (Je (d := false) (P := fun k => ¬ (I6 (ch x k) ∨ (48 ≤ ch x k ∧ ch x k ≤ 57) ∨ ch x k = 45)) fun k hk => ?_) ?_
 ·unfold Gb.B3
  refine .bind' (.eq (Lr (by simpa using hk)) (.test ?_))
  dsimp only
  unfold G4 G4.J1 I6
  split
  ·rename_i h; simp at h ⊢; omega
  ·split
   ·rename_i h; simp at h ⊢; omega
   ·split
    ·rename_i h; simp at h ⊢; omega
    ·rename_i c f b; simp at c f b ⊢; omega
 ·rintro _ (⟨⟨k, hk, h⟩, rfl⟩ | ⟨h, rfl⟩)
  ·exact .pure ⟨fun h => (by cases h), fun hn => absurd (hn.2 k (by simpa using hk)) h⟩
  ·refine .pure ⟨fun _ => ⟨⟨by omega, by omega, Classical.not_not.1 b⟩, fun k hk => Classical.not_not.1 (h k (by simpa using hk))⟩, fun _ => rfl⟩
theorem T0 {a : Nat} {l : List ByteArray} : Ok (forL (L0.B6 (a, l)) 0 l ()) fun o => (fJ l ∧ o = .inr true) ∨ (¬ fJ l ∧ o = .inl ()) := by
 refine (Ok.any (d := true) (P := Y3 l) fun k x hx => ?_).mono fun o h => h.imp (fun h => h) fun h => ⟨fun ⟨k, x, hx, hd⟩ => h.1 k x hx hd, h.2⟩
 unfold L0.B6
 refine .bind Hw fun r hr => .test ?_
 rcases hr with ⟨rfl, h⟩ | ⟨j, y, rfl, hj, he, hlt⟩
 ·have := h k x hx
  rw [Zm] at this; cases this
 ·simp only [decide_eq_true_eq]
  refine ⟨fun h => ⟨j, y, by omega, hj, Lo.1 he⟩, fun ⟨i, z, hi, hz, hxz⟩ => ?_⟩
  by_cases hji : i < j
  ·have := hlt i z hji hz
   rw [Lo.2 hxz] at this; cases this
  ·omega
theorem Uo {n : Network} {l : List (List ByteArray)} (h : l = Yt n) {k : Nat} (hk : k < 4) : ∃ x, l[k]? = some x ∧ (Yt n)[k]? = some x := by
 subst h
 exact ⟨(Yt n)[k]'hk, gq _, gq _⟩
theorem Zk {n : Network} (hn : Sane n) : Ok (L0 n) fun r => r = true ↔ (Lz n ∨ Ly n) := by
 unfold L0
 refine .bind (R9 hn.segs hn.ports hn.sts) fun r hr => .bind (Je (d := true) (P := fun k => ∃ l, (Yt n)[k]? = some l ∧ fJ l) fun k hk => ?_) ?_
 ·obtain ⟨l, c, a⟩ := Uo hr hk
  unfold L0.B4
  refine .bind' (.eq (Bb c) (.bind T0 ?_))
  rintro _ (⟨h, rfl⟩ | ⟨h, rfl⟩)
  ·exact .pure (.inl ⟨⟨l, a, h⟩, rfl⟩)
  ·refine .pure (.inr ⟨fun ⟨m, b, e⟩ => ?_, rfl⟩)
   rw [a] at b; cases b; exact h e
 rintro _ (⟨h, rfl⟩ | ⟨h, rfl⟩)
 ·exact .pure ⟨fun _ => .inl h, fun _ => rfl⟩
 unfold L0.J1
 refine .bind (Ok.any (d := true) (P := Tv n.Stations) fun k x hx => ?_) ?_
 ·unfold L0.B3
  refine .bind (C9 (P := fun y => G0 y x) fun _ _ _ => rfl) fun r hr => .test ?_
  rcases hr with ⟨rfl, h⟩ | ⟨j, y, rfl, hj, he, hlt⟩
  ·have := h k x hx
   simp [G0] at this
  ·simp only [decide_eq_true_eq]
   refine ⟨fun h => ⟨j, y, by omega, hj, by simp [G0] at he; exact he.symm⟩, fun ⟨i, z, hi, hz, hxz⟩ => ?_⟩
   by_cases hji : i < j
   ·have := hlt i z hji hz
    simp [G0, hxz] at this
   ·omega
 ·rintro _ (⟨h', rfl⟩ | ⟨h', rfl⟩)
  ·exact .pure ⟨fun _ => .inr h', fun _ => rfl⟩
  ·refine .pure ⟨fun h => (by cases h), fun a => ?_⟩
   rcases a with ⟨k, hk, a⟩ | ⟨k, x, hx, hd⟩
   ·exact absurd a (h k hk)
   ·exact absurd hd (h' k x hx)
theorem Zx {n : Network} (hn : Sane n) : Ok (Mw n) fun r => r = true ↔ Lw n := by
 unfold Mw
 refine .bind (Qz (g := fun s : Segment => [s.From, s.To]) (fun _ _ _ => rfl) (fun _ => by simp) hn.segs (by simp)) ?_
 rintro f ⟨b, a⟩
 unfold Mw.J1
 refine .bind (Qz (g := fun s : Port => [s.Node]) (fun _ _ _ => rfl) (fun _ => by simp) hn.ports (by simp at a; omega)) ?_
 rintro i ⟨c, j⟩
 unfold Mw.J2
 refine .bind (Qz (g := fun s : Station => [s.Node]) (fun _ _ _ => rfl) (fun _ => by simp) hn.sts (by simp at a; omega)) ?_
 rintro l ⟨d, -⟩
 subst d c b
 unfold Mw.J3
 refine .bind' (.eq (Hh (P := fun x => Ie x n) fun _ _ _ => rfl) (.pure ?_))
 have e : ∀ x, Ie x n = false ↔ At n x := fun x => by unfold At; simp [Ie]
 rw [Bool.not_eq_true', List.any_eq_false]
 simp only [List.nil_append, List.mem_append, List.mem_flatMap, List.mem_cons, List.not_mem_nil, or_false, Bool.not_eq_true, e]
 refine ⟨fun h => ⟨fun k s hs => ⟨h _ (.inl (.inl ⟨s, mg hs, .inl rfl⟩)), h _ (.inl (.inl ⟨s, mg hs, .inr rfl⟩))⟩, fun k s hs => h _ (.inl (.inr ⟨s, mg hs, rfl⟩)), fun k s hs => h _ (.inr ⟨s, mg hs, rfl⟩)⟩, fun h x hx => ?_⟩
 rcases hx with (⟨s, hs, rfl | rfl⟩ | ⟨s, hs, rfl⟩) | ⟨s, hs, rfl⟩ <;> obtain ⟨k, hk⟩ := List.getElem?_of_mem hs
 ·exact (h.1 k s hk).1
 ·exact (h.1 k s hk).2
 ·exact h.2.1 k s hk
 ·exact h.2.2 k s hk
theorem Tm {a b c : Int} : Ce a b c = true ↔ b ≤ a ∧ a ≤ c := by simp [Ce]
theorem Jc {a b c : Int} : (!(Ce a b c)) = true ↔ ¬ (b ≤ a ∧ a ≤ c) := by rw [← Tm]; simp
theorem Uv {s : Segment} (hs : s.Points.length ≤ 1000) {k : Nat} {p : Point} (hp : s.Points[k]? = some p) (a : 0 < k) : ∃ q, s.Points[k - 1]? = some q ∧ ix s.Points (wr ((k : Int) - 1)) = some (k - 1, q) := by
 have hk := (gs hp).1
 have hq : s.Points[k - 1]? = some (s.Points[k - 1]'(by omega)) := gq _
 refine ⟨_, hq, ?_⟩
 rw [As (by omega), show ((k : Int) - 1) = ((k - 1 : Nat) : Int) by omega]
 exact Bb hq
theorem Ve {s : Segment} {k : Nat} {p q : Point} (h : Y2 p) (a : 0 < k) (hq : s.Points[k - 1]? = some q) : Hx s k p ↔ p.At ≤ q.At := by
 refine ⟨fun hb => ?_, fun hb => .inr ⟨q, a, hq, hb⟩⟩
 rcases hb with hb | ⟨q', _, hq', hb⟩
 ·exact absurd h hb
 ·rw [hq] at hq'; cases hq'; exact hb
theorem Vd {s : Segment} (a : 2 ≤ s.Points.length ∧ s.Points.length ≤ 1000) : ∃ p q, s.Points[0]? = some p ∧ s.Points[s.Points.length - 1]? = some q ∧ ix s.Points 0 = some (0, p) ∧ ix s.Points (wr ((s.Points.length : Int) - 1)) = some (s.Points.length - 1, q) := by
 have hp : s.Points[0]? = some (s.Points[0]'(by omega)) := gq _
 have hq : s.Points[s.Points.length - 1]? = some (s.Points[s.Points.length - 1]'(by omega)) := gq _
 refine ⟨_, _, hp, hq, Bb hp, ?_⟩
 rw [As (by omega), show ((s.Points.length : Int) - 1) = ((s.Points.length - 1 : Nat) : Int) by omega]
 exact Bb hq
theorem Uw {s : Segment} (e : 2 ≤ s.Points.length ∧ s.Points.length ≤ 1000) : Ok (Ir s) fun r => r = true ↔ PipeOk s := by
 obtain ⟨g, pl, f, el, i, il⟩ := Vd e
 unfold Ir
 refine Bu (Q := ¬ (s.From ≠ s.To ∧ (1 ≤ s.Capacity ∧ s.Capacity ≤ 1000000) ∧ (0 ≤ s.Resist ∧ s.Resist ≤ 1000) ∧ 0 ≤ s.Wave ∧ s.Wave ≤ 100000)) ?_ (fun h => .pure ⟨fun h => (by cases h), fun hp => absurd ⟨hp.ends, hp.cap, hp.resist, hp.wave⟩ h⟩) fun h => ?_
 ·simp only [Bool.or_eq_true, Jc, beq_iff_eq]; omega
 obtain ⟨j, l, m, n⟩ := Classical.not_not.1 h
 refine .bind (Ok.any (d := false) (P := Hx s) fun k p hp => ?_) ?_
 ·have c : ∀ b : Bool, (b = true ↔ Hx s k p) → Ok (Ir.J4 b) fun o => (Hx s k p ∧ o = .inr false) ∨ (¬ Hx s k p ∧ o = .inl ()) := fun b h => by unfold Ir.J4; exact .test h
  unfold Ir.B3
  refine Bu Jc (fun h => c _ ⟨fun _ => .inl fun hn => h hn.1, fun _ => rfl⟩) fun t => Bu Jc (fun h => c _ ⟨fun _ => .inl fun hn => h hn.2, fun _ => rfl⟩) fun u => ?_
  have hn : Y2 p := ⟨Classical.not_not.1 t, Classical.not_not.1 u⟩
  refine Au (fun a => ?_) fun a => c _ ⟨fun h => (by cases h), fun hb => ?_⟩
  ·obtain ⟨q, hq, hi⟩ := Uv e.2 hp (by omega)
   exact .bind' (.eq hi (c _ (by rw [Ve hn (by omega) hq]; simp)))
  ·rcases hb with hb | ⟨q, hk, _⟩
   ·exact absurd hn hb
   ·omega
 ·rintro _ (⟨⟨k, p, hp, hb⟩, rfl⟩ | ⟨h, rfl⟩)
  ·exact .pure ⟨fun h => (by cases h), fun h => absurd hb (h.pts k p hp)⟩
  ·simp only [Sum.elim_inl]
   unfold Ir.J1 Ir.J2
   rw [i, il]
   refine .bind' (.pure (Bu (Q := g.At = 0) (by simp) (fun a => .bind' (.pure (.pure ?_))) fun a => .pure ⟨fun h => (by cases h), fun h => absurd (h.first _ f) a⟩))
   dsimp only
   rw [beq_iff_eq]
   refine ⟨fun hl => ⟨j, l, m, n, fun p hp => ?_, fun p hp => ?_, h⟩, fun hp => hp.last _ el⟩
   ·rw [f] at hp; cases hp; exact a
   ·rw [el] at hp; cases hp; exact hl
theorem Ho {α : Type} {l : List α} {P : α → Bool} {Q : α → Prop} (h : ∀ (k : Nat) (x : α), l[k]? = some x → (P x = true ↔ Q x)) : l.any P = true ↔ ∃ (k : Nat) (x : α), l[k]? = some x ∧ Q x := by
 rw [List.any_eq_true]
 refine ⟨fun ⟨x, hx, hp⟩ => ?_, fun ⟨k, x, hx, hq⟩ => ⟨x, mg hx, (h k x hx).2 hq⟩⟩
 obtain ⟨k, hk⟩ := List.getElem?_of_mem hx
 exact ⟨k, x, hk, (h k x hk).1 hp⟩
theorem Lim.pts {n : Network} (hl : Lim n) {k : Nat} {s : Segment} (hs : n.Segments[k]? = some s) : 2 ≤ s.Points.length ∧ s.Points.length ≤ 1000 := by
 have := hl.2 k s hs; unfold Oi at this; omega
theorem eV {n : Network} : Ok (Mj n) fun r => r = true ↔ Lim n := by
 unfold Mj
 refine Bu (Q := ¬ (1 ≤ n.Nodes.length ∧ n.Nodes.length ≤ 24 ∧ n.Segments.length ≤ 32 ∧ n.Ports.length ≤ 24 ∧ n.Stations.length ≤ 12)) (by simp; omega) (fun h => .pure ⟨fun h => (by cases h), fun hl => absurd hl.1 h⟩) fun h => ?_
 refine .bind' (.eq (C1 (P := fun x => Ib x) fun _ _ _ => rfl) (.pure ?_))
 have e := Ho (l := n.Segments) (P := fun x => Ib x) (Q := fun s => ¬ Oi s) fun k s _ => by simp [Ib, Oi]; omega
 rw [Bool.not_eq_true', ← Bool.not_eq_true, e]
 exact ⟨fun hn => ⟨Classical.not_not.1 h, fun k s hs => Classical.not_not.1 fun hp => hn ⟨k, s, hs, hp⟩⟩, fun hl ⟨k, s, hs, hp⟩ => hp (hl.2 k s hs)⟩
theorem Vt {n : Network} (hl : Lim n) : Ok (Qn n) fun r => r = true ↔ Proper n := by
 unfold Qn
 refine .bind' (.eq (C1 (P := fun s => !((Ir s).getD false)) fun k s hs => ?_) ?_)
 ·obtain ⟨b, hb, _⟩ := Uw (hl.pts hs)
  unfold P4
  rw [hb]; rfl
 have a := Ho (l := n.Segments) (P := fun s => !((Ir s).getD false)) (Q := fun s => ¬ PipeOk s) fun k s hs => by
  obtain ⟨b, hb, he⟩ := Uw (hl.pts hs)
  rw [hb, ← he]; simp
 refine Bu a (fun ⟨k, s, hs, hp⟩ => .pure ⟨fun h => (by cases h), fun h => absurd (h.segs k s hs) hp⟩) fun c => ?_
 refine .bind' (.eq (Eo (P := fun x => If x) fun _ _ _ => rfl) ?_)
 have d := Ho (l := n.Ports) (P := fun x => If x) (Q := fun s => ¬ (0 ≤ s.Pressure ∧ s.Pressure ≤ 100000000)) fun k s hs => by unfold If; exact Jc
 refine Bu d (fun ⟨k, s, hs, hp⟩ => .pure ⟨fun h => (by cases h), fun h => absurd (h.ports k s hs) hp⟩) fun e => ?_
 refine .bind' (.eq (Dy (P := fun x => Iq x) fun _ _ _ => rfl) ?_)
 have f := Ho (l := n.Stations) (P := fun x => Iq x) (Q := fun s => ¬ StnOk s) fun k s hs => by
  unfold Iq
  simp only [Bool.or_eq_true, Jc]
  exact ⟨fun h hs => h.elim (fun h => h hs.head) fun h => h.elim (fun h => h hs.fall) fun h => h hs.suction, fun h => Classical.byContradiction fun hn => h ⟨by omega, by omega, by omega⟩⟩
 refine Bu f (fun ⟨k, s, hs, hp⟩ => .pure ⟨fun h => (by cases h), fun h => absurd (h.sts k s hs) hp⟩) fun g => .pure ?_
 rw [Bool.and_eq_true, Tm, Tm]
 exact ⟨fun h => ⟨fun k s hs => Classical.not_not.1 fun hp => c ⟨k, s, hs, hp⟩, fun k s hs => Classical.not_not.1 fun hp => e ⟨k, s, hs, hp⟩, fun k s hs => Classical.not_not.1 fun hp => g ⟨k, s, hs, hp⟩, h.1, h.2⟩, fun h => ⟨h.vapour, h.settle⟩⟩
theorem eR {n : Network} (hn : Sane n) : Ok (G3 n) (NetRes n) := by
 unfold G3
 refine .bind eV fun p e => Bu (Q := ¬ Lim n) (by rw [← e]; simp) (fun h => .pure (.inl ⟨h, rfl⟩)) fun hl' => ?_
 have hl := Classical.not_not.1 hl'
 refine .bind (R9 hn.segs hn.ports hn.sts) fun r hr => .bind (Je (d := 3) (P := fun k => ∃ l, (Yt n)[k]? = some l ∧ Tw l) fun k hk => ?_) ?_
 ·obtain ⟨l, f, a⟩ := Uo hr hk
  unfold G3.B2
  refine .bind' (.eq (Bb f) (.bind' (.eq (Fh (P := fun x => !((Gb x).getD false)) fun j x hx => ?_) (.test ?_))))
  ·obtain ⟨b, hb, _⟩ := M7 (x := x)
   unfold Qc
   rw [hb]; rfl
  ·rw [Ho (Q := fun x => ¬ It x) fun j x hx => by obtain ⟨b, hb, he⟩ := M7 (x := x); rw [hb, ← he]; simp]
   exact ⟨fun h => ⟨l, a, h⟩, fun ⟨m, c, h⟩ => by rw [a] at c; cases c; exact h⟩
 rintro _ (⟨h, rfl⟩ | ⟨h, rfl⟩)
 ·exact .pure (.inr ⟨hl, .inl ⟨h, rfl⟩⟩)
 have hf : ¬ G8 n := fun ⟨k, hk, h'⟩ => h k hk h'
 simp only [Sum.elim_inl]
 unfold G3.J1
 refine .bind (Zk hn) fun q g => Bu g (fun h => .pure (.inr ⟨hl, .inr ⟨hf, .inl ⟨h, rfl⟩⟩⟩)) fun ht => ?_
 refine .bind (Zx hn) fun s i => Bu (Q := ¬ Lw n) (by rw [← i]; simp) (fun h => .pure (.inr ⟨hl, .inr ⟨hf, .inr ⟨ht, .inl ⟨h, rfl⟩⟩⟩⟩)) fun hk => ?_
 have hk := Classical.not_not.1 hk
 refine .bind (Vt hl) fun t o => Bu (Q := ¬ Proper n) (by rw [← o]; simp) (fun h => .pure (.inr ⟨hl, .inr ⟨hf, .inr ⟨ht, .inr ⟨hk, .inl ⟨h, rfl⟩⟩⟩⟩⟩)) fun hp => ?_
 exact .pure (.inr ⟨hl, .inr ⟨hf, .inr ⟨ht, .inr ⟨hk, .inr ⟨Classical.not_not.1 hp, rfl⟩⟩⟩⟩⟩)
theorem NetRes.good {n : Network} (h : NetRes n 0) : Lim n ∧ ¬ G8 n ∧ ¬ (Lz n ∨ Ly n) ∧ Lw n ∧ Proper n := by
 rcases h with ⟨_, h⟩ | ⟨a, ⟨_, h⟩ | ⟨b, ⟨_, h⟩ | ⟨c, ⟨_, h⟩ | ⟨d, ⟨_, h⟩ | ⟨e, _⟩⟩⟩⟩⟩
 ·cases h
 ·cases h
 ·cases h
 ·cases h
 ·cases h
 ·exact ⟨a, b, c, d, e⟩
abbrev Nw := Network
abbrev Sg := Segment
abbrev Sn := Station
abbrev Bt := ByteArray
abbrev U0 := fun (v : Value) l => Ob.us v 3 1 (List.map rI l)
abbrev U1 := fun (v : Value) l => Ob.us v 9 1 (List.map rS l)
abbrev U2 := fun (v : Value) l => Ob.us v 4 1 (List.map rB l)
abbrev U3 := fun (v : Value) l => Ob.us v 64 3 (List.map A1 l)
abbrev U4 := fun (v : Value) l => Ob.us v 93 7 (List.map Ao l)
abbrev U5 := fun (v : Value) l => Ob.us v 95 3 (List.map B1 l)
abbrev U6 := fun (v : Value) l => Ob.us v 102 5 (List.map Az l)
abbrev U7 := fun (v : Value) l => Ob.us v 90 3 (List.map By l)
abbrev Q0 := fun l => T.list 1 (List.map rI l)
abbrev Q1 := fun l => T.list 1 (List.map rS l)
abbrev Q2 := fun l => T.list 3 (List.map A1 l)
abbrev Q3 := fun l => T.list 5 (List.map Az l)
abbrev Q4 := fun l => T.list 3 (List.map B1 l)
abbrev Q5 := fun l => T.list 7 (List.map Ao l)
abbrev Q6 := fun l => T.list 1 (List.map rB l)
abbrev Q7 := fun l => T.list 3 (List.map By l)
abbrev O0 := fun (b : Nat) e => Ob.arr b 32 6 1 e
abbrev O1 := fun (b : Nat) e => Ob.arr b 97 2 1 e
abbrev O2 := fun (b : Nat) e => Ob.arr b 171 4 1 e
abbrev O3 := fun (b : Nat) e => Ob.arr b 93 7 1 e
abbrev O4 := fun (b : Nat) e => Ob.arr b 61 2 1 e
abbrev W0 : List T := [.N, .N, .N, .N, .V 0, .V 0]
abbrev W1 : List T := [.v (.string ⟨#[]⟩), .V 0, .V 0, .V 0, .V 0, .V 0, .N]
abbrev W2 : List T := [.N, .N, .N, .N]
abbrev W3 : List T := [.v (.string ⟨#[]⟩), .V 0, .V 0, .V 0, .V 0]
abbrev W4 : List T := [.v (.string ⟨#[]⟩), .V 0, .V 0]
end Go.Proofs.YtihdchjpepkpbaaGreat
