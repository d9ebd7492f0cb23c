/- Tables and pure functions. No condition. -/
import Derived.Test.YtkhcdkioehdndaaGreatDoorZxB2
import Derived.Test.YtkhcdkioehdndaaGreatDoorRows
import Derived.KernelRfl
import Derived.Shelf.Sort.Plain
import Derived.Shelf.Slices.CompactI
import Derived.Sort.OwnSortedInts
import Derived.Test.YtkhcdkioehdndaaGreatDoorProg
set_option maxRecDepth 100000
namespace Go.Aw
set_option linter.unusedVariables false
set_option linter.unusedSimpArgs false
inductive TT where
 | nil
 | node (l : TT) (k : Nat) (x : TI) (r : TT)
def L9 : TT → Nat → Option TI
 | .nil, _ => none
 | .node l k x r, i => bif Nat.beq k i then some x else bif Nat.ble k i then L9 r i else L9 l i
def T8 (P : Program) : TT → Prop
 | .nil => True
 | .node l k x r => T8 P l ∧ Hd P k = some x ∧ T8 P r
theorem Nr {P : Program} : ∀ {t : TT} {i : Nat} {x : TI}, T8 P t → L9 t i = some x → Hd P i = some x
 | .nil, _, _, _, h => by simp [L9] at h
 | .node l k y r, i, x, ha, h => by
  simp only [L9] at h
  cases hb : Nat.beq k i with
  | true =>
   have := nq hb
   simp only [hb, cond_true, Option.some.injEq] at h
   subst h this; exact ha.2.1
  | false =>
   simp only [hb, cond_false] at h
   cases hc : Nat.ble k i with
   | true => simp only [hc, cond_true] at h; exact Nr ha.2.2 h
   | false => simp only [hc, cond_false] at h; exact Nr ha.1 h
abbrev zI : Value := .int .i64 0
abbrev zN : Value := .slice none 0 0
abbrev zT (k : Nat) : TI := { kind := .slice k, size := 1, bytes := 24, zero := some zN }
abbrev zS (f : List (Nat × Nat)) (s b : Nat) (z : Array Value) : TI := { kind := .struct f, size := s, bytes := b, zero := some (.agg z) }
abbrev zA (n t s b : Nat) (z : Array Value) : TI := { kind := .array n t, size := s, bytes := b, zero := some (.agg z) }
end Go.Aw
namespace Go.Proofs.YtkhcdkioehdndaaGreatDoor
open Go.Aw
abbrev dM : TI := { kind := .int .i64, size := 1, bytes := 8, zero := some (.int .i64 0) }
abbrev dL : TI := { kind := .bool, size := 1, bytes := 1, zero := some (.bool false) }
abbrev dK : TI := { kind := .int .u8, size := 1, bytes := 1, zero := some (.int .u8 0) }
abbrev dJ : TI := { kind := .string, size := 1, bytes := 16, zero := some (.string ⟨#[]⟩) }
abbrev bK : TI := zT 3
abbrev bJ : TI := { kind := .int .u16, size := 1, bytes := 2, zero := some (.int .u16 0) }
abbrev bI : TI := zT 35
abbrev bH : TI := zS [(0, 9), (1, 3), (2, 3), (3, 3), (4, 3), (5, 3), (6, 26)] 7 80 #[.string ⟨#[]⟩, zI, zI, zI, zI, zI, zN]
abbrev bG : TI := zT 88
abbrev bF : TI := zT 103
abbrev bE : TI := zT 49
abbrev bD : TI := zS [(0, 3), (1, 3), (2, 3)] 3 24 #[zI, zI, zI]
abbrev bC : TI := zS [(0, 3), (1, 3)] 2 16 #[zI, zI]
abbrev bB : TI := zT 43
abbrev bA : TI := { kind := .int .i64, size := 1, bytes := 8, zero := some (.int .i64 0) }
abbrev aZ : TI := zS [(0, 3), (1, 37)] 3 24 #[zI, zI, zI]
abbrev aY : TI := zS [(0, 9), (1, 3), (2, 3), (3, 3), (4, 3)] 5 48 #[.string ⟨#[]⟩, zI, zI, zI, zI]
abbrev aX : TI := zT 28
abbrev aW : TI := zT 29
abbrev aV : TI := zT 37
abbrev aU : TI := zT 38
abbrev aT : TI := zS [(0, 22), (1, 3)] 2 32 #[zN, zI]
abbrev aS : TI := zT 82
abbrev aR : TI := zS [(0, 3), (1, 3), (2, 3), (3, 49)] 8 72 #[zI, zI, zI, .string ⟨#[]⟩, zI, zI, zI, zI]
abbrev aQ : TI := zS [(0, 3), (1, 3)] 2 16 #[zI, zI]
abbrev aP : TI := zT 9
abbrev Wq : TI := zS [(0, 3), (1, 9), (2, 3), (3, 3)] 4 40 #[zI, .string ⟨#[]⟩, zI, zI]
abbrev Wp : TI := zT 142
abbrev Wo : TI := zT 140
abbrev Wn : TI := zS [(0, 91), (1, 51), (2, 112), (3, 113), (4, 3), (5, 3)] 6 112 #[zN, zN, zN, zN, zI, zI]
abbrev Wm : TI := zT 5
abbrev Wl : TI := zA 4 3 4 32 #[zI, zI, zI, zI]
abbrev Wk : TI := zS [(0, 3), (1, 3)] 2 16 #[zI, zI]
abbrev Wj : TI := zA 4 122 8 64 #[zI, zI, zI, zI, zI, zI, zI, zI]
abbrev Wi : TI := { kind := .int .u64, size := 1, bytes := 8, zero := some (.int .u64 0) }
abbrev Wh : TI := zA 4 91 4 96 #[zN, zN, zN, zN]
abbrev Wg : TI := zS [(0, 9), (1, 3), (2, 3), (3, 3), (4, 3)] 5 48 #[.string ⟨#[]⟩, zI, zI, zI, zI]
abbrev Wf : TI := zS [(0, 9), (1, 3), (2, 3)] 3 32 #[.string ⟨#[]⟩, zI, zI]
abbrev We : TI := { kind := .int .i64, size := 1, bytes := 8, zero := some (.int .i64 0) }
abbrev Wd : TI := { kind := .int .u32, size := 1, bytes := 4, zero := some (.int .u32 0) }
abbrev Wc : TI := { kind := .int .u64, size := 1, bytes := 8, zero := some (.int .u64 0) }
abbrev Wb : TI := { kind := .int .u64, size := 1, bytes := 8, zero := some (.int .u64 0) }
def Lc : TT := (.node (.node (.node (.node (.node (.node .nil 3 dM .nil) 4 dL .nil) 5 dK (.node (.node .nil 9 dJ .nil) 22 bK .nil)) 23 bJ (.node (.node (.node .nil 26 bI .nil) 28 bH .nil) 29 bG (.node .nil 30 bF .nil))) 31 bE (.node (.node (.node (.node .nil 35 bD .nil) 37 bC .nil) 38 bB (.node (.node .nil 39 bA .nil) 43 aZ .nil)) 49 aY (.node (.node (.node .nil 51 aX .nil) 53 aW .nil) 59 aV (.node .nil 61 aU .nil)))) 66 aT (.node (.node (.node (.node (.node .nil 76 aS .nil) 82 aR .nil) 88 aQ (.node (.node .nil 91 aP .nil) 103 Wq .nil)) 112 Wp (.node (.node (.node .nil 113 Wo .nil) 115 Wn .nil) 117 Wm (.node .nil 119 Wl .nil))) 122 Wk (.node (.node (.node (.node .nil 123 Wj .nil) 128 Wi .nil) 134 Wh (.node .nil 140 Wg .nil)) 142 Wf (.node (.node (.node .nil 145 We .nil) 153 Wd .nil) 155 Wc (.node .nil 165 Wb .nil)))))
theorem Sy : T8 Tryz.prog Lc :=
 ⟨⟨⟨⟨⟨⟨trivial, by kernel_rfl, trivial⟩, by kernel_rfl, trivial⟩, by kernel_rfl, ⟨⟨trivial, by kernel_rfl, trivial⟩, by kernel_rfl, trivial⟩⟩, by kernel_rfl, ⟨⟨⟨trivial, by kernel_rfl, trivial⟩, by kernel_rfl, trivial⟩, by kernel_rfl, ⟨trivial, by kernel_rfl, trivial⟩⟩⟩, by kernel_rfl, ⟨⟨⟨⟨trivial, by kernel_rfl, trivial⟩, by kernel_rfl, trivial⟩, by kernel_rfl, ⟨⟨trivial, by kernel_rfl, trivial⟩, by kernel_rfl, trivial⟩⟩, by kernel_rfl, ⟨⟨⟨trivial, by kernel_rfl, trivial⟩, by kernel_rfl, trivial⟩, by kernel_rfl, ⟨trivial, by kernel_rfl, trivial⟩⟩⟩⟩, by kernel_rfl, ⟨⟨⟨⟨⟨trivial, by kernel_rfl, trivial⟩, by kernel_rfl, trivial⟩, by kernel_rfl, ⟨⟨trivial, by kernel_rfl, trivial⟩, by kernel_rfl, trivial⟩⟩, by kernel_rfl, ⟨⟨⟨trivial, by kernel_rfl, trivial⟩, by kernel_rfl, trivial⟩, by kernel_rfl, ⟨trivial, by kernel_rfl, trivial⟩⟩⟩, by kernel_rfl, ⟨⟨⟨⟨trivial, by kernel_rfl, trivial⟩, by kernel_rfl, trivial⟩, by kernel_rfl, ⟨trivial, by kernel_rfl, trivial⟩⟩, by kernel_rfl, ⟨⟨⟨trivial, by kernel_rfl, trivial⟩, by kernel_rfl, trivial⟩, by kernel_rfl, ⟨trivial, by kernel_rfl, trivial⟩⟩⟩⟩⟩
theorem Tu : Tryz.prog.follows .mixedOrders = true := by kernel_rfl
theorem Tt (t : Nat) (i : TI) (h : L9 Lc t = some i) : Hd Tryz.prog t = some i := Nr Sy h
noncomputable def Ah : Env := ⟨Tryz.prog, L9 Lc, Tt, Tu⟩
theorem Od : Bld Ah 28 [(0, 1), (1, 1), (2, 1), (3, 1), (4, 1), (5, 1), (6, 1)] [.v (.string ⟨#[]⟩), .V 0, .V 0, .V 0, .V 0, .V 0, .N] := ⟨⟨_, _, _, I7⟩⟩
theorem E1 : Bld Ah 35 [(0, 1), (1, 1), (2, 1)] [.V 0, .V 0, .V 0] := ⟨⟨_, _, _, I7⟩⟩
theorem C8 : Bld Ah 37 [(0, 1), (1, 1)] [.V 0, .V 0] := ⟨⟨_, _, _, I7⟩⟩
theorem C7 : Bld Ah 43 [(0, 1), (1, 2)] [.V 0, .V 0, .V 0] := ⟨⟨_, _, _, I7⟩⟩
theorem Oc : Bld Ah 49 [(0, 1), (1, 1), (2, 1), (3, 1), (4, 1)] [.v (.string ⟨#[]⟩), .V 0, .V 0, .V 0, .V 0] := ⟨⟨_, _, _, I7⟩⟩
theorem Tw : Bld Ah 66 [(0, 1), (1, 1)] [.N, .V 0] := ⟨⟨_, _, _, I7⟩⟩
theorem Tv : Bld Ah 82 [(0, 1), (1, 1), (2, 1), (3, 5)] [.V 0, .V 0, .V 0, .v (.string ⟨#[]⟩), .V 0, .V 0, .V 0, .V 0] := ⟨⟨_, _, _, I7⟩⟩
theorem Oa : Bld Ah 88 [(0, 1), (1, 1)] [.V 0, .V 0] := ⟨⟨_, _, _, I7⟩⟩
theorem Sz : Bld Ah 103 [(0, 1), (1, 1), (2, 1), (3, 1)] [.V 0, .v (.string ⟨#[]⟩), .V 0, .V 0] := ⟨⟨_, _, _, I7⟩⟩
theorem Lv : Bld Ah 115 [(0, 1), (1, 1), (2, 1), (3, 1), (4, 1), (5, 1)] [.N, .N, .N, .N, .V 0, .V 0] := ⟨⟨_, _, _, I7⟩⟩
theorem Ws : Rp Tryz.prog 37 = true := by kernel_rfl
theorem Wr : Rp Tryz.prog 43 = true := by kernel_rfl
set_option linter.unusedVariables false
set_option linter.unusedSimpArgs false
structure Point where
 At : Int
 Height : Int
 Limit : Int
 deriving DecidableEq
def A1 (x : Point) : List T := [.V x.At, .V x.Height, .V x.Limit]
structure Segment where
 Name : ByteArray
 From : Int
 To : Int
 Capacity : Int
 Resist : Int
 Wave : Int
 Points : List Point
 deriving DecidableEq
def Aa (x : Segment) : List T := [.v (.string x.Name), .V x.From, .V x.To, .V x.Capacity, .V x.Resist, .V x.Wave, .list 3 (x.Points.map A1)]
structure Port where
 Name : ByteArray
 Node : Int
 Pressure : Int
 deriving DecidableEq
def Cx (x : Port) : List T := [.v (.string x.Name), .V x.Node, .V x.Pressure]
structure Station where
 Name : ByteArray
 Node : Int
 Head : Int
 Fall : Int
 Suction : Int
 deriving DecidableEq
def A9 (x : Station) : List T := [.v (.string x.Name), .V x.Node, .V x.Head, .V x.Fall, .V x.Suction]
structure Network where
 Nodes : List ByteArray
 Segments : List Segment
 Ports : List Port
 Stations : List Station
 Vapour : Int
 Settle : Int
 deriving DecidableEq
def An (x : Network) : List T := [.list 1 (x.Nodes.map rS), .list 7 (x.Segments.map Aa), .list 3 (x.Ports.map Cx), .list 5 (x.Stations.map A9), .V x.Vapour, .V x.Settle]
structure KS where
 L_ : Li
 At : Int
 deriving DecidableEq
def A3 (x : KS) : List T := [.list 1 (x.L_.map rI), .V x.At]
def Cn (a : Int) (b : Int) (c : Int) : Bool := (decide (a ≥ b) && decide (a ≤ c))
def Mp.J1 (a : Unit) : Option Int := some (-1)
def Mp.B2 (a : ByteArray) (b : Nat) (c : ByteArray) (d : Unit) : Option (Unit ⊕ (Int)) := if Ol a c = true then some ((.inr ((b : Int)))) else some (.inl ())
def Mp (a : List ByteArray) (b : ByteArray) : Option Int := (forL (Mp.B2 b) 0 a ()).bind fun c => Sum.elim (fun e => Mp.J1 ()) (fun d => some d) c
def M6.J1 (a : Unit) : Option Int := some (-1)
def M6.B2 (a : Int → Option Bool) (b : Nat) (c : Int) (e : Unit) : Option (Unit ⊕ (Int)) := (a c).bind fun d => if d = true then some ((.inr ((b : Int)))) else some (.inl ())
def M6 (a : Li) (b : Int → Option Bool) : Option Int := (forL (M6.B2 b) 0 a ()).bind fun c => Sum.elim (fun e => M6.J1 ()) (fun d => some d) c
def Mk (a : Li) (b : Int → Option Bool) : Option Bool := (M6 a b).bind fun c => some (decide (c ≥ 0))
def Mq.J1 (a : Unit) : Option Int := some (-1)
def Mq.B2 (a : ByteArray → Option Bool) (b : Nat) (c : ByteArray) (e : Unit) : Option (Unit ⊕ (Int)) := (a c).bind fun d => if d = true then some ((.inr ((b : Int)))) else some (.inl ())
def Mq (a : List ByteArray) (b : ByteArray → Option Bool) : Option Int := (forL (Mq.B2 b) 0 a ()).bind fun c => Sum.elim (fun e => Mq.J1 ()) (fun d => some d) c
def Mv (a : List ByteArray) (b : ByteArray → Option Bool) : Option Bool := (Mq a b).bind fun c => some (decide (c ≥ 0))
def M5.J1 (a : Unit) : Option Int := some (-1)
def M5.B2 (a : Segment → Option Bool) (b : Nat) (c : Segment) (e : Unit) : Option (Unit ⊕ (Int)) := (a c).bind fun d => if d = true then some ((.inr ((b : Int)))) else some (.inl ())
def M5 (a : List Segment) (b : Segment → Option Bool) : Option Int := (forL (M5.B2 b) 0 a ()).bind fun c => Sum.elim (fun e => M5.J1 ()) (fun d => some d) c
def Kl (a : List Segment) (b : Segment → Option Bool) : Option Bool := (M5 a b).bind fun c => some (decide (c ≥ 0))
def Mr.J1 (a : Unit) : Option Int := some (-1)
def Mr.B2 (a : Port → Option Bool) (b : Nat) (c : Port) (e : Unit) : Option (Unit ⊕ (Int)) := (a c).bind fun d => if d = true then some ((.inr ((b : Int)))) else some (.inl ())
def Mr (a : List Port) (b : Port → Option Bool) : Option Int := (forL (Mr.B2 b) 0 a ()).bind fun c => Sum.elim (fun e => Mr.J1 ()) (fun d => some d) c
def M2 (a : List Port) (b : Port → Option Bool) : Option Bool := (Mr a b).bind fun c => some (decide (c ≥ 0))
def Kk.J1 (a : Unit) : Option Int := some (-1)
def Kk.B2 (a : Station → Option Bool) (b : Nat) (c : Station) (e : Unit) : Option (Unit ⊕ (Int)) := (a c).bind fun d => if d = true then some ((.inr ((b : Int)))) else some (.inl ())
def Kk (a : List Station) (b : Station → Option Bool) : Option Int := (forL (Kk.B2 b) 0 a ()).bind fun c => Sum.elim (fun e => Kk.J1 ()) (fun d => some d) c
def Ml (a : List Station) (b : Station → Option Bool) : Option Bool := (Kk a b).bind fun c => some (decide (c ≥ 0))
def Ip (a : Segment) : Bool := (decide ((a.Points.length : Int) < 2) || decide ((a.Points.length : Int) > 8))
def Mt (a : Network) : Option Bool := if (decide ((a.Nodes.length : Int) < 1) || (decide ((a.Nodes.length : Int) > 24) || (decide ((a.Segments.length : Int) > 32) || (decide ((a.Ports.length : Int) > 24) || decide ((a.Stations.length : Int) > 12))))) = true then some false else (Kl a.Segments (fun x => some (Ip x))).bind fun b => some (!b)
def Hi.J1 (a : Unit) : Int := 2
def Hi (a : Int) : Int := if (decide (a ≥ 97) && decide (a ≤ 122)) = true then 1 else if (decide (a ≥ 48) && decide (a ≤ 57)) = true then Hi.J1 () else if (a == 45) = true then Hi.J1 () else 0
def Fy.J2 (a : Unit) : Option Bool := some true
def Fy.B3 (a : ByteArray) (b : Nat) (d : Unit) : Option (Unit ⊕ (Bool)) := (dT a (b : Int)).bind fun c => if ((Hi c.2) == 0) = true then some ((.inr (false))) else some (.inl ())
def Fy.J1 (a : ByteArray) (b : Bool) : Option Bool := if b = true then some false else (chk ((a.size : Int) ≤ 9223372036854775806)).bind fun e => (forI (Fy.B3 a) 0 ((a.size : Int).toNat) ()).bind fun c => Sum.elim (fun f => Fy.J2 ()) (fun d => some d) c
def Fy (a : ByteArray) : Option Bool := if decide ((a.size : Int) < 1) = true then Fy.J1 a true else if decide ((a.size : Int) > 12) = true then Fy.J1 a true else (dT a 0).bind fun b => Fy.J1 a ((Hi b.2) != 1)
def K2.J3 (a : Network) (b : List ByteArray) (c : List ByteArray) (d : List ByteArray) : Option (Arr (List ByteArray) 4) := some (⟨[a.Nodes, b, c, d], rfl⟩ : Arr (List ByteArray) 4)
def K2.B4 (d : Nat) (a : Station) (b : List ByteArray) : Option (List ByteArray) := (Dy b ([a.Name] : List ByteArray)).bind fun c => some c
def K2.J2 (a : Network) (b : List ByteArray) (c : List ByteArray) : Option (Arr (List ByteArray) 4) := (forS K2.B4 0 a.Stations []).bind fun d => K2.J3 a b c d
def K2.B5 (d : Nat) (a : Port) (b : List ByteArray) : Option (List ByteArray) := (Dy b ([a.Name] : List ByteArray)).bind fun c => some c
def K2.J1 (a : Network) (b : List ByteArray) : Option (Arr (List ByteArray) 4) := (forS K2.B5 0 a.Ports []).bind fun c => K2.J2 a b c
def K2.B6 (d : Nat) (a : Segment) (b : List ByteArray) : Option (List ByteArray) := (Dy b ([a.Name] : List ByteArray)).bind fun c => some c
def K2 (a : Network) : Option (Arr (List ByteArray) 4) := (forS K2.B6 0 a.Segments []).bind fun b => K2.J1 a b
def Hf (a : Station) (b : Station) : Bool := (a.Node == b.Node)
def Mh.J2 (a : Unit) : Option Bool := some false
def Mh.B3 (a : Network) (b : Nat) (c : Station) (e : Unit) : Option (Unit ⊕ (Bool)) := (Kk a.Stations (fun x => some (Hf x c))).bind fun d => if decide (d < (b : Int)) = true then some ((.inr (true))) else some (.inl ())
def Mh.J1 (a : Network) (d : Unit) : Option Bool := (forL (Mh.B3 a) 0 a.Stations ()).bind fun b => Sum.elim (fun e => Mh.J2 ()) (fun c => some c) b
def Mh.J5 (a : Unit) : Option (Unit ⊕ (Bool)) := some (.inl ())
def Mh.B6 (a : Nat × (List ByteArray)) (b : Nat) (c : ByteArray) (e : Unit) : Option (Unit ⊕ (Bool)) := (Mp a.2 c).bind fun d => if decide (d < (b : Int)) = true then some ((.inr (true))) else some (.inl ())
def Mh.B4 (b : Arr (List ByteArray) 4) (c : Nat) (f : Unit) : Option (Unit ⊕ (Bool)) := (ix b.l (c : Int)).bind fun a => (forL (Mh.B6 a) 0 a.2 ()).bind fun d => Sum.elim (fun g => Mh.J5 ()) (fun e => some ((.inr (e)))) d
def Mh (a : Network) : Option Bool := (K2 a).bind fun b => (forI (Mh.B4 b) 0 4 ()).bind fun c => Sum.elim (fun e => Mh.J1 a ()) (fun d => some d) c
def Iq (a : Int) (b : Network) : Bool := (decide (a < 0) || decide (a ≥ (b.Nodes.length : Int)))
def M3.J3 (a : Network) (b : Li) : Option Bool := (Mk b (fun x => some (Iq x a))).bind fun c => some (!c)
def M3.B4 (d : Nat) (a : Station) (b : Li) : Option Li := (Dy b ([a.Node] : Li)).bind fun c => some c
def M3.J2 (a : Network) (b : Li) : Option Bool := (forS M3.B4 0 a.Stations b).bind fun c => M3.J3 a c
def M3.B5 (d : Nat) (a : Port) (b : Li) : Option Li := (Dy b ([a.Node] : Li)).bind fun c => some c
def M3.J1 (a : Network) (b : Li) : Option Bool := (forS M3.B5 0 a.Ports b).bind fun c => M3.J2 a c
def M3.B6 (d : Nat) (a : Segment) (b : Li) : Option Li := (Dy b ([a.From, a.To] : Li)).bind fun c => some c
def M3 (a : Network) : Option Bool := (forS M3.B6 0 a.Segments []).bind fun b => M3.J1 a b
def I1.J2 (a : Bool) : Option Bool := some a
def I1.J1 (a : Segment) (d : Unit) : Option Bool := (ix a.Points 0).bind fun b => if (b.2.At == 0) = true then (ix a.Points (wr ((a.Points.length : Int) - 1))).bind fun c => I1.J2 (c.2.At == a.Capacity) else I1.J2 false
def I1.J4 (a : Bool) : Option (Unit ⊕ (Bool)) := if a = true then some ((.inr (false))) else some (.inl ())
def I1.B3 (c : Segment) (b : Nat) (a : Point) (e : Unit) : Option (Unit ⊕ (Bool)) := if (!(Cn a.Height (-500) 5000)) = true then I1.J4 true else if (!(Cn a.Limit 0 100000000)) = true then I1.J4 true else if decide ((b : Int) > 0) = true then (ix c.Points (wr ((b : Int) - 1))).bind fun d => I1.J4 (decide (a.At ≤ d.2.At)) else I1.J4 false
def I1 (a : Segment) : Option Bool := if ((a.From == a.To) || ((!(Cn a.Capacity 1 1000000)) || ((!(Cn a.Resist 0 1000)) || (!(Cn a.Wave 0 100000))))) = true then some false else (forL (I1.B3 a) 0 a.Points ()).bind fun b => Sum.elim (fun d => I1.J1 a ()) (fun c => some c) b
def Qg (a : Segment) : Option Bool := (I1 a).bind fun b => some (!b)
def Ir (a : Port) : Bool := (!(Cn a.Pressure 0 100000000))
def I0 (a : Station) : Bool := ((!(Cn a.Head 0 100000000)) || ((!(Cn a.Fall 0 100000)) || (!(Cn a.Suction 0 100000000))))
def Qv (a : Network) : Option Bool := (Kl a.Segments (fun x => Qg x)).bind fun b => if b = true then some false else (M2 a.Ports (fun x => some (Ir x))).bind fun c => if c = true then some false else (Ml a.Stations (fun x => some (I0 x))).bind fun d => if d = true then some false else some ((Cn a.Vapour (-100000) 100000000) && (Cn a.Settle 0 100))
def Qn (a : ByteArray) : Option Bool := (Fy a).bind fun b => some (!b)
def G2.J1 (a : Network) (e : Unit) : Option Int := (Mh a).bind fun b => if b = true then some 7 else (M3 a).bind fun c => if (!c) = true then some 8 else (Qv a).bind fun d => if (!d) = true then some 9 else some 0
def G2.B2 (a : Arr (List ByteArray) 4) (b : Nat) (e : Unit) : Option (Unit ⊕ (Int)) := (ix a.l (b : Int)).bind fun c => (Mv c.2 (fun x => Qn x)).bind fun d => if d = true then some ((.inr (3))) else some (.inl ())
def G2 (a : Network) : Option Int := (Mt a).bind fun b => if (!b) = true then some 4 else (K2 a).bind fun c => (forI (G2.B2 c) 0 4 ()).bind fun d => Sum.elim (fun f => G2.J1 a ()) (fun e => some e) d
def Qr (a : Li) : Option KS := (Va a 0 (min (a.length : Int) 2000)).bind fun b => some (⟨b, 0⟩ : KS)
def Qh (a : KS) : Option (Int × KS) := if decide (a.At ≥ (a.L_.length : Int)) = true then some (0, a) else (ix a.L_ (wr ((wr (a.At + 1)) - 1))).bind fun b => some (b.2, (⟨a.L_, wr (a.At + 1)⟩ : KS))
def Qy.J1 (a : Int) : Option Int := some a
def Qy (c : Int) (a : Int) : Option Int := if decide (a < 1) = true then some 0 else (Rn c a).bind fun b => if decide (b < 0) = true then Qy.J1 (wr (b + a)) else Qy.J1 b
def Eb (b : KS) (c : Int) : Option (Int × KS) := (Qh b).bind fun a => (Qy a.1 c).bind fun d => some (d, a.2)
def Kz (a : ByteArray) (b : Int) : Option ByteArray := (Tb ([IntKind.u8.wrap (wr (97 + (b.tmod 26)))] : Li)).bind fun c => (eE a c).bind fun d => some d
def Dx (c : KS) (a : Li) : Option (Int × KS) := (Eb c (a.length : Int)).bind fun b => (ix a b.1).bind fun d => some (d.2, b.2)
def Fx (c : KS) (a : Int) (d : Int) : Option (Int × KS) := (Eb c (wr ((wr (d - a)) + 1))).bind fun b => some (wr (a + b.1), b.2)
def Mo.J2 (b : Li × Int × Int × Int) (e : ByteArray) (c : Int × KS) (f : Int × KS) (g : Int × KS) (h : Int × KS) (a : Li × Int × (List Point)) : Option (Segment × KS) := (Fx (⟨a.1, a.2.1⟩ : KS) (-5) 30).bind fun d => (Dy a.2.2 ([(⟨c.1, d.1, h.1⟩ : Point)] : List Point)).bind fun i => some ((⟨e, b.2.2.1, b.2.2.2, c.1, f.1, g.1, i⟩ : Segment), d.2)
def Mo.J4 (g : Int × KS) (h : Int × KS) (a : Li × Int × (List Point) × Int) (c : Li × Int × Bool) : Option ((Li × Int × (List Point) × Int) ⊕ ((Li × Int × (List Point)))) := if c.2.2 = true then (Fx (⟨c.1, c.2.1⟩ : KS) 1 40).bind fun b => if decide ((wr (a.2.2.2 + b.1)) ≥ g.1) = true then some ((.inr ((b.2.L_, b.2.At, a.2.2.1)))) else (Fx b.2 (-5) 60).bind fun e => (Dx e.2 ([1, 1, 10] : Li)).bind fun f => (Eb f.2 3).bind fun d => (Dy a.2.2.1 ([(⟨wr (a.2.2.2 + b.1), wr (e.1 * f.1), wr (h.1 - (wr (d.1 * 1000)))⟩ : Point)] : List Point)).bind fun i => some (.inl (d.2.L_, d.2.At, i, wr (a.2.2.2 + b.1))) else some ((.inr ((c.1, c.2.1, a.2.2.1))))
def Mo.B3 (c : Int × KS) (d : Int × KS) (a : Li × Int × (List Point) × Int) : Option ((Li × Int × (List Point) × Int) ⊕ ((Li × Int × (List Point)))) := if decide ((a.2.2.1.length : Int) < 7) = true then (Eb (⟨a.1, a.2.1⟩ : KS) 3).bind fun b => Mo.J4 c d a (b.2.L_, b.2.At, decide (b.1 > 0)) else Mo.J4 c d a (a.1, a.2.1, false)
def Mo.J1 (g : Int) (b : Li × Int × Int × Int) : Option (Segment × KS) := (Kz (⟨#[103]⟩ : ByteArray) g).bind fun h => (Dx (⟨b.1, b.2.1⟩ : KS) ([1, 2, 7, 20, 60, 200, 1000] : Li)).bind fun c => (Dx c.2 ([0, 1, 5, 1000] : Li)).bind fun e => (Dx e.2 ([0, 50, 1000, 100000] : Li)).bind fun f => (Dx f.2 ([1000000, 6000000, 100000000] : Li)).bind fun a => (Fx a.2 (-5) 30).bind fun d => (Dy [] ([(⟨0, d.1, a.1⟩ : Point)] : List Point)).bind fun i => (C2 (Mo.B3 c a) E4 (d.2.L_, d.2.At, i, 0)).bind fun j => Mo.J2 b h c e f a j
def Mo (e : KS) (b : Int) (c : Int) (d : Int) : Option (Segment × KS) := (Eb e 4).bind fun a => if (a.1 == 0) = true then Mo.J1 b (a.2.L_, a.2.At, d, c) else Mo.J1 b (a.2.L_, a.2.At, c, d)
def Bo (a : Int) (b : Int) (c : Int) : Bool := (decide (a ≥ b) && decide (a ≤ c))
def Mz.J3 (a : Network) (b : List ByteArray) (c : List ByteArray) (d : List ByteArray) : Option (Arr (List ByteArray) 4) := some (⟨[a.Nodes, b, c, d], rfl⟩ : Arr (List ByteArray) 4)
def Mz.B4 (d : Nat) (a : Station) (b : List ByteArray) : Option (List ByteArray) := (Dy b ([a.Name] : List ByteArray)).bind fun c => some c
def Mz.J2 (a : Network) (b : List ByteArray) (c : List ByteArray) : Option (Arr (List ByteArray) 4) := (forS Mz.B4 0 a.Stations []).bind fun d => Mz.J3 a b c d
def Mz.B5 (d : Nat) (a : Port) (b : List ByteArray) : Option (List ByteArray) := (Dy b ([a.Name] : List ByteArray)).bind fun c => some c
def Mz.J1 (a : Network) (b : List ByteArray) : Option (Arr (List ByteArray) 4) := (forS Mz.B5 0 a.Ports []).bind fun c => Mz.J2 a b c
def Mz.B6 (d : Nat) (a : Segment) (b : List ByteArray) : Option (List ByteArray) := (Dy b ([a.Name] : List ByteArray)).bind fun c => some c
def Mz (a : Network) : Option (Arr (List ByteArray) 4) := (forS Mz.B6 0 a.Segments []).bind fun b => Mz.J1 a b
def Kx.J2 (a : Unit) : Option Bool := some true
def Kx.J4 (a : Int) (b : Bool) : Option (Int ⊕ (Bool ⊕ Unit)) := if b = true then some ((.inr (.inl (false)))) else some (.inl (wr (a + 1)))
def Kx.B3 (c : ByteArray) (b : Int) : Option (Int ⊕ (Bool ⊕ Unit)) := if decide (b < (c.size : Int)) = true then (dT c b).bind fun a => if decide (a.2 < 97) = true then if decide (a.2 < 48) = true then Kx.J4 b (a.2 != 45) else if decide (a.2 > 57) = true then Kx.J4 b (a.2 != 45) else Kx.J4 b false else if decide (a.2 > 122) = true then if decide (a.2 < 48) = true then Kx.J4 b (a.2 != 45) else if decide (a.2 > 57) = true then Kx.J4 b (a.2 != 45) else Kx.J4 b false else Kx.J4 b false else some ((.inr (.inr (()))))
def Kx.J1 (a : ByteArray) (b : Bool) : Option Bool := if b = true then some false else (C2 (Kx.B3 a) E4 0).bind fun c => Sum.elim (fun d => some d) (fun e => Kx.J2 e) c
def Kx (a : ByteArray) : Option Bool := if decide ((a.size : Int) < 1) = true then Kx.J1 a true else if decide ((a.size : Int) > 12) = true then Kx.J1 a true else (dT a 0).bind fun b => if decide (b.2 < 97) = true then Kx.J1 a true else Kx.J1 a (decide (b.2 > 122))
def M9.J1 (a : Unit) : Option Bool := some false
def M9.J3 (a : Unit) : Option (Unit ⊕ (Bool)) := some (.inl ())
def M9.B4 (b : List ByteArray) (c : Nat) (d : ByteArray) (a : Int) : Option (Int ⊕ (Bool ⊕ Unit)) := if decide (a < (c : Int)) = true then (ix b a).bind fun e => if Ol d e.2 = true then some ((.inr (.inl (true)))) else some (.inl (wr (a + 1))) else some ((.inr (.inr (()))))
def M9.B2 (a : List ByteArray) (b : Nat) (c : ByteArray) (g : Unit) : Option (Unit ⊕ (Bool)) := (C2 (M9.B4 a b c) E4 0).bind fun d => Sum.elim (fun e => some ((.inr (e)))) (fun f => M9.J3 f) d
def M9 (a : List ByteArray) : Option Bool := (forL (M9.B2 a) 0 a ()).bind fun b => Sum.elim (fun d => M9.J1 ()) (fun c => some c) b
def Mx.J2 (a : Unit) : Option Bool := some true
def Mx.J4 (a : Bool) : Option (Unit ⊕ (Bool)) := if a = true then some ((.inr (false))) else some (.inl ())
def Mx.B3 (c : Segment) (b : Nat) (a : Point) (e : Unit) : Option (Unit ⊕ (Bool)) := if decide ((b : Int) > 0) = true then (ix c.Points (wr ((b : Int) - 1))).bind fun d => if decide (a.At ≤ d.2.At) = true then Mx.J4 true else if (!(Bo a.Height (-500) 5000)) = true then Mx.J4 true else Mx.J4 (!(Bo a.Limit 0 100000000)) else if (!(Bo a.Height (-500) 5000)) = true then Mx.J4 true else Mx.J4 (!(Bo a.Limit 0 100000000))
def Mx.J1 (a : Segment) (b : Bool) : Option Bool := if b = true then some false else (forL (Mx.B3 a) 0 a.Points ()).bind fun c => Sum.elim (fun e => Mx.J2 ()) (fun d => some d) c
def Mx (a : Segment) : Option Bool := if (a.From == a.To) = true then Mx.J1 a true else if (!(Bo a.Capacity 1 1000000)) = true then Mx.J1 a true else if (!(Bo a.Resist 0 1000)) = true then Mx.J1 a true else if (!(Bo a.Wave 0 100000)) = true then Mx.J1 a true else (ix a.Points 0).bind fun b => if (b.2.At != 0) = true then Mx.J1 a true else (ix a.Points (wr ((a.Points.length : Int) - 1))).bind fun c => Mx.J1 a (c.2.At != a.Capacity)
def Ky.J10 (a : Network) (b : Unit) : Option Int := if ((!(Bo a.Vapour (-100000) 100000000)) || (!(Bo a.Settle 0 100))) = true then some 9 else some 0
def Ky.B11 (b : Nat) (a : Station) (c : Unit) : Option (Unit ⊕ (Int)) := if ((!(Bo a.Head 0 100000000)) || ((!(Bo a.Fall 0 100000)) || (!(Bo a.Suction 0 100000000)))) = true then some ((.inr (9))) else some (.inl ())
def Ky.J9 (a : Network) (d : Unit) : Option Int := (forL Ky.B11 0 a.Stations ()).bind fun b => Sum.elim (fun e => Ky.J10 a ()) (fun c => some c) b
def Ky.B12 (b : Nat) (a : Port) (c : Unit) : Option (Unit ⊕ (Int)) := if (!(Bo a.Pressure 0 100000000)) = true then some ((.inr (9))) else some (.inl ())
def Ky.J8 (a : Network) (d : Unit) : Option Int := (forL Ky.B12 0 a.Ports ()).bind fun b => Sum.elim (fun e => Ky.J9 a ()) (fun c => some c) b
def Ky.B13 (c : Nat) (a : Segment) (d : Unit) : Option (Unit ⊕ (Int)) := (Mx a).bind fun b => if (!b) = true then some ((.inr (9))) else some (.inl ())
def Ky.J7 (a : Network) (d : Unit) : Option Int := (forL Ky.B13 0 a.Segments ()).bind fun b => Sum.elim (fun e => Ky.J8 a ()) (fun c => some c) b
def Ky.B14 (a : Network) (c : Nat) (b : Station) (d : Unit) : Option (Unit ⊕ (Int)) := if (!(Bo b.Node 0 (wr ((a.Nodes.length : Int) - 1)))) = true then some ((.inr (8))) else some (.inl ())
def Ky.J6 (a : Network) (d : Unit) : Option Int := (forL (Ky.B14 a) 0 a.Stations ()).bind fun b => Sum.elim (fun e => Ky.J7 a ()) (fun c => some c) b
def Ky.B15 (a : Network) (c : Nat) (b : Port) (d : Unit) : Option (Unit ⊕ (Int)) := if (!(Bo b.Node 0 (wr ((a.Nodes.length : Int) - 1)))) = true then some ((.inr (8))) else some (.inl ())
def Ky.J5 (a : Network) (d : Unit) : Option Int := (forL (Ky.B15 a) 0 a.Ports ()).bind fun b => Sum.elim (fun e => Ky.J6 a ()) (fun c => some c) b
def Ky.B16 (a : Network) (c : Nat) (b : Segment) (d : Unit) : Option (Unit ⊕ (Int)) := if ((!(Bo b.From 0 (wr ((a.Nodes.length : Int) - 1)))) || (!(Bo b.To 0 (wr ((a.Nodes.length : Int) - 1))))) = true then some ((.inr (8))) else some (.inl ())
def Ky.J4 (a : Network) (d : Unit) : Option Int := (forL (Ky.B16 a) 0 a.Segments ()).bind fun b => Sum.elim (fun e => Ky.J5 a ()) (fun c => some c) b
def Ky.J18 (a : Unit) : Option (Unit ⊕ (Int)) := some (.inl ())
def Ky.B19 (b : Network) (c : Nat) (d : Station) (a : Int) : Option (Int ⊕ (Int ⊕ Unit)) := if decide (a < (c : Int)) = true then (ix b.Stations a).bind fun e => if (d.Node == e.2.Node) = true then some ((.inr (.inl (7)))) else some (.inl (wr (a + 1))) else some ((.inr (.inr (()))))
def Ky.B17 (a : Network) (b : Nat) (c : Station) (g : Unit) : Option (Unit ⊕ (Int)) := (C2 (Ky.B19 a b c) E4 0).bind fun d => Sum.elim (fun e => some ((.inr (e)))) (fun f => Ky.J18 f) d
def Ky.J3 (a : Network) (d : Unit) : Option Int := (forL (Ky.B17 a) 0 a.Stations ()).bind fun b => Sum.elim (fun e => Ky.J4 a ()) (fun c => some c) b
def Ky.B20 (a : Arr (List ByteArray) 4) (b : Nat) (e : Unit) : Option (Unit ⊕ (Int)) := (ix a.l (b : Int)).bind fun c => (M9 c.2).bind fun d => if d = true then some ((.inr (7))) else some (.inl ())
def Ky.J2 (a : Network) (b : Arr (List ByteArray) 4) (e : Unit) : Option Int := (forI (Ky.B20 b) 0 4 ()).bind fun c => Sum.elim (fun f => Ky.J3 a ()) (fun d => some d) c
def Ky.J22 (a : Unit) : Option (Unit ⊕ (Int)) := some (.inl ())
def Ky.B23 (c : Nat) (a : ByteArray) (d : Unit) : Option (Unit ⊕ (Int)) := (Kx a).bind fun b => if (!b) = true then some ((.inr (3))) else some (.inl ())
def Ky.B21 (a : Arr (List ByteArray) 4) (b : Nat) (f : Unit) : Option (Unit ⊕ (Int)) := (ix a.l (b : Int)).bind fun c => (forL Ky.B23 0 c.2 ()).bind fun d => Sum.elim (fun g => Ky.J22 ()) (fun e => some ((.inr (e)))) d
def Ky.J1 (a : Network) (e : Unit) : Option Int := (Mz a).bind fun b => (forI (Ky.B21 b) 0 4 ()).bind fun c => Sum.elim (fun f => Ky.J2 a b ()) (fun d => some d) c
def Ky.B24 (b : Nat) (a : Segment) (c : Unit) : Option (Unit ⊕ (Int)) := if (!(Bo (a.Points.length : Int) 2 8)) = true then some ((.inr (4))) else some (.inl ())
def Ky (a : Network) : Option Int := if ((!(Bo (a.Nodes.length : Int) 1 24)) || (decide ((a.Segments.length : Int) > 32) || (decide ((a.Ports.length : Int) > 24) || decide ((a.Stations.length : Int) > 12)))) = true then some 4 else (forL Ky.B24 0 a.Segments ()).bind fun b => Sum.elim (fun d => Ky.J1 a ()) (fun c => some c) b
end Go.Proofs.YtkhcdkioehdndaaGreatDoor
namespace Go.Aw
set_option linter.unusedVariables false
set_option linter.unusedSimpArgs false
open Go.Sort
theorem Qd {H H' : GH} {w w' : World} {b ty cap : Nat} {a ts es : Li} {cs : Array Value} (hb : w.heap[b]? = some (.cells cs ty (0, 0))) (hsz : cs.size = cap * 1) (hcap : a.length ≤ cap) (hmax : a.length ≤ Gx)
  (hl : ts.length = a.length) (hp : es.length ≤ ts.length) (hpre : ts.take es.length = es) (hb' : w'.heap[b]? = some (.cells (putCells (Value.int .i64) 0 ts.toArray cs) ty (0, 0))) : ArrR H' w' b ty 1 cap (es.map rI) := by
 refine ⟨_, hb', by simp [putCells, hsz], by simp; omega, by simp; omega, fun i e he => ?_, fun i e he j x hx => ?_⟩
 ·rw [List.getElem?_map] at he
  obtain ⟨n, _, rfl⟩ := Option.map_eq_some_iff.1 he
  rfl
 ·rw [List.getElem?_map] at he
  obtain ⟨n, hn, rfl⟩ := Option.map_eq_some_iff.1 he
  have hj : j = 0 := by have := (gs hx).1; simp [rI] at this; exact this
  subst hj
  simp [rI] at hx
  subst hx
  have hi := (gs hn).1
  have hti : ts[i]? = some n := by
   rw [← hpre, List.getElem?_take_of_lt hi] at hn; exact hn
  have hil := (gs hti).1
  have : (putCells (Value.int .i64) 0 ts.toArray cs).getD (i * 1 + 0) undef = .int .i64 n := by
   rw [Array.getD_eq_getD_getElem?]
   simp only [putCells, Array.getElem?_mapIdx, Nat.mul_one, Nat.add_zero]
   have hcs : i < cs.size := by omega
   rw [Array.getElem?_eq_getElem hcs]
   simp [hil]
   exact (gs hti).2
  rw [this]
  exact ⟨rfl, .v _⟩
theorem ArrR.held {H : GH} {w : World} {b ty cap : Nat} {a : Li} (h : ArrR H w b ty 1 cap (a.map rI)) :
  ∃ cs, w.heap[b]? = some (.cells cs ty (0, 0)) ∧ cs.size = cap * 1 ∧ a.length ≤ cap ∧ a.length ≤ Gx ∧ Holds (Value.int .i64) w b 0 a.toArray := by
 obtain ⟨cs, c, f, d, e, i, g⟩ := h
 rw [List.length_map] at d e
 refine ⟨cs, c, f, d, e, fun j hj => ⟨?_, by simp [World.frozen?, c]⟩⟩
 have hj' : j < a.length := by simpa using hj
 have := (g j (rI a[j]) (by rw [List.getElem?_map, gq hj']; rfl) 0 (.V a[j]) rfl).2.v_eq
 rw [Nat.mul_one, Nat.add_zero] at this
 have hcs : j < cs.size := by omega
 simp only [World.cell?, c, Nat.zero_add]
 rw [Array.getD_eq_getD_getElem?, Array.getElem?_eq_getElem hcs] at this
 simp at this ⊢
 rw [Array.getElem?_eq_getElem hcs, this]; simp [hj']
theorem Lt (l : Li) : (Lib.compact l).length ≤ l.length := by
 unfold Lib.compact Lib.compactUpTo
 rw [List.length_map]
 exact Nat.le_trans (List.length_filter_le _ _) (by simp)
section
variable {E : Env}
def Kj (l : Li) : Li := l.mergeSort fun x y => decide (x ≤ y)
def eB (x : Int) : Li → Li
 | [] => [x]
 | y :: l => if x ≤ y then x :: y :: l else y :: eB x l
def Ig : Li → Li
 | [] => []
 | x :: l => eB x (Ig l)
theorem Nn (x : Int) : ∀ l : Li, (eB x l).Perm (x :: l)
 | [] => .refl _
 | y :: l => by
  simp only [eB]
  split
  ·exact .refl _
  ·exact ((Nn x l).cons y).trans (.swap x y l)
theorem I6 : ∀ l : Li, (Ig l).Perm l
 | [] => .refl _
 | x :: l => (Nn x (Ig l)).trans ((I6 l).cons x)
theorem Zi (x : Int) : ∀ l : Li, l.Pairwise (· ≤ ·) → (eB x l).Pairwise (· ≤ ·)
 | [], _ => by simp [eB]
 | y :: l, h => by
  simp only [eB]
  rw [List.pairwise_cons] at h
  split
  ·rename_i hxy
   refine List.pairwise_cons.2 ⟨fun z hz => ?_, List.pairwise_cons.2 h⟩
   rcases List.mem_cons.1 hz with rfl | hz
   ·exact hxy
   ·have := h.1 z hz; omega
  ·refine List.pairwise_cons.2 ⟨fun z hz => ?_, Zi x l h.2⟩
   rcases List.mem_cons.1 ((Nn x l).mem_iff.1 hz) with rfl | hz
   ·omega
   ·exact h.1 z hz
theorem R7 : ∀ l : Li, (Ig l).Pairwise (· ≤ ·)
 | [] => .nil
 | x :: l => Zi x _ (R7 l)
theorem Vk (l : Li) : (Kj l).Pairwise (· ≤ ·) := by
 have := List.pairwise_mergeSort (le := fun x y : Int => decide (x ≤ y)) (by intro a b c; simp; omega) (by intro a b; simp; omega) l
 exact this.imp (by intro a b h; simpa using h)
theorem O6 (l : Li) : Kj l = Ig l :=
 List.Perm.eq_of_pairwise (fun a b _ _ c d => by omega) (Vk l) (R7 l) ((List.mergeSort_perm l _).trans (I6 l).symm)
theorem I4 (l : Li) : (Kj l).length = l.length := by unfold Kj; simp
theorem Rm {f : FuncId} {ety : Nat} (hfn : ∃ fn, E.P.funcs[f]? = some fn ∧ (fn.name == "runtime.NumGoroutine") = false ∧ fn.body.isNone = false)
  (hc : ∀ (Gp off cap : Nat) (zs : Li) (w : World), Holds (Value.int .i64) w Gp off zs.toArray → Gp < w.heap.size → zs.length < 4611686018427387904 →
   Calls E.P f #[.slice (some ⟨Gp, off, none⟩) zs.length cap] w fun e w' => e = .returned (.tuple #[]) ∧ ∃ n os, w' = grow (putRow (Value.int .i64) (Sort.ahead w n) Gp off (zs.mergeSort fun x y => decide (x ≤ y)).toArray) os)
  {d : Value} {a : Li} (hne : a ≠ []) :
  ACalls E f [.v d] [.us d ety 1 (a.map rI)] (Eg 1 fun x os new => x = .tup [] ∧ os = [.us d ety 1 ((Kj a).map rI)] ∧ new = []) := by
 refine ⟨hfn, fun H w vs hsz hv hheld hfp hnd => ?_⟩
 have hor := (hfp _ (List.mem_singleton.2 rfl)).1
 have hfree := (hfp _ (List.mem_singleton.2 rfl)).2
 rcases (show UsR H w d ety 1 (a.map rI) from hor) with ⟨_, h⟩ | ⟨b, c, cap, rfl, hlc, hcc, harr⟩
 ·exact absurd (List.map_eq_nil_iff.1 h) hne
 rw [List.length_map] at hlc
 obtain ⟨cs, i, q, r, j, hH⟩ := harr.held
 have hbl : b < w.heap.size := (Array.getElem?_eq_some_iff.1 i).1
 have hvs : vs = #[.slice (some ⟨b, 0, none⟩) a.length c] := by
  have := (hv 0 _ rfl).v_eq
  obtain ⟨l⟩ := vs
  match l, hsz, this with
  | [x], _, this => simp [Array.getD] at this; subst this; simp
 subst hvs
 refine (hc b 0 c a w hH hbl (by simp only [Gx] at j; omega)).mono ?_
 rintro e w' ⟨rfl, n, os, rfl⟩
 have hb' := heap_sortedI (n := n) (os := os) (a.mergeSort fun x y => decide (x ≤ y)).toArray i
 obtain ⟨s, t, u, z, k⟩ := grownBy_sortedI (w := w) (g := b) (n := n) (os := os) (a.mergeSort fun x y => decide (x ≤ y)).toArray
 have hbH : H b = none := hfree b (by simp [Ob.fp, Gn])
 refine ⟨.tuple #[], .tup [], [.us (.slice (some ⟨b, 0, none⟩) (a.map rI).length c) ety 1 ((Kj a).map rI)], H, rfl, ⟨[_], [], rfl, rfl, rfl, rfl, rfl⟩, .tup _ _ rfl (by simp), fun _ _ h => h, fun b' o ho => ?_, fun p hp => ?_, ?_, z, ⟨s, t, u⟩, fun b' hb'' hnin => ⟨?_, rfl⟩⟩
 ·have m := hheld.1 b' o ho
  have hne' : b' ≠ b := fun h => by rw [h, hbH] at ho; cases ho
  have hl' : b' < w.heap.size := (Array.getElem?_eq_some_iff.1 m).1
  rw [k b' hl' (by simp; omega)]; exact m
 ·rw [List.mem_singleton] at hp
  subst hp
  refine ⟨.inr ⟨b, c, cap, by simp [I4], by simp [I4]; omega, hcc, ?_⟩, fun b' hb'' => ?_⟩
  ·exact Qd (H := H) i q r j (I4 a) (Nat.le_refl _) (by simp) hb'
  ·simp only [Ob.fp, Gn, List.mem_singleton] at hb''
   subst hb''
   exact ⟨hbH, .inr (by simp [Ob.fp, Gn])⟩
 ·simp [Ob.fp, Gn]
 ·have hne' : b' ≠ b := fun h => hnin (by simp [Ob.fp, Gn, h])
  exact k b' hb'' (by simp; omega)
theorem Lz {f : FuncId} {ety : Nat} (hfn : ∃ fn, E.P.funcs[f]? = some fn ∧ (fn.name == "runtime.NumGoroutine") = false ∧ fn.body.isNone = false)
  (hc : ∀ (Gp off cap : Nat) (zs : Li) (w : World), Holds (Value.int .i64) w Gp off zs.toArray → zs.length ≤ 9223372036854775807 → zs.length ≤ cap →
   Calls E.P f #[.slice (some ⟨Gp, off, none⟩) zs.length cap] w fun e w' => e = .returned (.slice (some ⟨Gp, off, none⟩) (Lib.compact zs).length cap) ∧
    ∃ q, w' = putRow (Value.int .i64) (Sort.ahead w q) Gp off (Lib.compact zs ++ List.replicate (zs.length - (Lib.compact zs).length) 0).toArray)
  {d : Value} {a : Li} (hne : a ≠ []) :
  ACalls E f [.v d] [.us d ety 1 (a.map rI)] (Eg 1 fun x os new => ∃ k : Value, x = .v k ∧ os = [.us (.slice none 0 0) ety 1 (([] : Li).map rI)] ∧ new = [.us k ety 1 ((Lib.compact a).map rI)]) := by
 refine ⟨hfn, fun H w vs hsz hv hheld hfp hnd => ?_⟩
 have hor := (hfp _ (List.mem_singleton.2 rfl)).1
 have hfree := (hfp _ (List.mem_singleton.2 rfl)).2
 rcases (show UsR H w d ety 1 (a.map rI) from hor) with ⟨_, h⟩ | ⟨b, c, cap, rfl, hlc, hcc, harr⟩
 ·exact absurd (List.map_eq_nil_iff.1 h) hne
 rw [List.length_map] at hlc
 obtain ⟨cs, i, z, A, m, hH⟩ := harr.held
 have hbl : b < w.heap.size := (Array.getElem?_eq_some_iff.1 i).1
 have hvs : vs = #[.slice (some ⟨b, 0, none⟩) a.length c] := by
  have := (hv 0 _ rfl).v_eq
  obtain ⟨l⟩ := vs
  match l, hsz, this with
  | [x], _, this => simp [Array.getD] at this; subst this; simp
 subst hvs
 have hcl := Lt a
 refine (hc b 0 c a w hH (by simp only [Gx] at m; omega) hlc).mono ?_
 rintro e w' ⟨rfl, n, rfl⟩
 have hb' := heap_sortedI (n := n) (os := #[]) (Lib.compact a ++ List.replicate (a.length - (Lib.compact a).length) 0).toArray i
 obtain ⟨r, s, t, u, j⟩ := grownBy_sortedI (w := w) (g := b) (n := n) (os := #[]) (Lib.compact a ++ List.replicate (a.length - (Lib.compact a).length) 0).toArray
 rw [grow_empty] at hb' r s t u j
 have hbH : H b = none := hfree b (by simp [Ob.fp, Gn])
 refine ⟨_, .v (.slice (some ⟨b, 0, none⟩) (Lib.compact a).length c), [.us (.slice none 0 0) ety 1 (([] : Li).map rI), .us (.slice (some ⟨b, 0, none⟩) (Lib.compact a).length c) ety 1 ((Lib.compact a).map rI)], H, rfl, ⟨[_], [_], rfl, rfl, _, rfl, rfl, rfl⟩, .v _, fun _ _ h => h, fun b' o ho => ?_, fun p hp => ?_, ?_, u, ⟨r, s, t⟩, fun b' hb'' hnin => ⟨?_, rfl⟩⟩
 ·have y := hheld.1 b' o ho
  have hne' : b' ≠ b := fun h => by rw [h, hbH] at ho; cases ho
  have hl' : b' < w.heap.size := (Array.getElem?_eq_some_iff.1 y).1
  rw [j b' hl' (by simp; omega)]; exact y
 ·simp only [List.mem_cons, List.not_mem_nil, or_false] at hp
  rcases hp with rfl | rfl
  ·exact ⟨.inl ⟨rfl, rfl⟩, fun b' hb'' => by simp [Ob.fp, Gn] at hb''⟩
  refine ⟨.inr ⟨b, c, cap, by simp, by simp; omega, hcc, ?_⟩, fun b' hb'' => ?_⟩
  ·exact Qd (H := H) i z A m (by simp; omega) (by simp) (by simp) hb'
  ·simp only [Ob.fp, Gn, List.mem_singleton] at hb''
   subst hb''
   exact ⟨hbH, .inr (by simp [Ob.fp, Gn])⟩
 ·simp [Ob.fp, Gn]
 ·have hne' : b' ≠ b := fun h => hnin (by simp [Ob.fp, Gn, h])
  exact j b' hb'' (by simp; omega)
end
end Go.Aw
namespace Go.Proofs.YtkhcdkioehdndaaGreatDoor
open Go.Aw
set_option linter.unusedVariables false
set_option linter.unusedSimpArgs false
structure Product where
 Name : ByteArray
 Density : Int
 Expansion : Int
 Compress : Int
 Friction : Int
 deriving DecidableEq
def Ak (x : Product) : List T := [.v (.string x.Name), .V x.Density, .V x.Expansion, .V x.Compress, .V x.Friction]
structure Piece where
 Batch : Int
 Volume : Int
 deriving DecidableEq
def Aq (x : Piece) : List T := [.V x.Batch, .V x.Volume]
structure Batch where
 Product : Int
 Shipper : ByteArray
 From : Int
 To : Int
 deriving DecidableEq
def Cf (x : Batch) : List T := [.V x.Product, .v (.string x.Shipper), .V x.From, .V x.To]
structure Bounds where
 Low : Int
 High : Int
 deriving DecidableEq
def Al (x : Bounds) : List T := [.V x.Low, .V x.High]
structure product_span where
 least : Int
 most : Int
 deriving DecidableEq
def D9 (x : product_span) : List T := [.V x.least, .V x.most]
structure gradient_part where
 length : Int
 width : Int
 height : Int
 liquid : Product
 deriving DecidableEq
def Bv (x : gradient_part) : List T := [.V x.length, .V x.width, .V x.height, .v (.string x.liquid.Name), .V x.liquid.Density, .V x.liquid.Expansion, .V x.liquid.Compress, .V x.liquid.Friction]
structure Level where
 At : Int
 Bounds : Bounds
 deriving DecidableEq
def Ay (x : Level) : List T := [.V x.At, .V x.Bounds.Low, .V x.Bounds.High]
def Qq (e : KS) (f : Int) : Option (Product × KS) := (Kz (⟨#[112]⟩ : ByteArray) f).bind fun g => (Fx e 400 1200).bind fun a => (Dx a.2 ([0, 830, 2000, 1] : Li)).bind fun b => (Dx b.2 ([0, 800, 5000, 3] : Li)).bind fun c => (Dx c.2 ([1, 700, 1000, 1300, 2000] : Li)).bind fun d => some ((⟨g, a.1, b.1, c.1, d.1⟩ : Product), d.2)
def M1.J1 (a : Li × Int × (List Product)) : Option ((List Product) × KS) := some (a.2.2, (⟨a.1, a.2.1⟩ : KS))
def M1.B2 (a : Li × Int × (List Product) × Int) : Option ((Li × Int × (List Product) × Int) ⊕ ((Li × Int × (List Product)))) := if decide (a.2.2.2 > 0) = true then (Qq (⟨a.1, a.2.1⟩ : KS) (a.2.2.1.length : Int)).bind fun b => (Dy a.2.2.1 ([b.1] : List Product)).bind fun c => some (.inl (b.2.L_, b.2.At, c, wr (a.2.2.2 - 1))) else some ((.inr ((a.1, a.2.1, a.2.2.1))))
def M1 (b : KS) : Option ((List Product) × KS) := (Fx b 1 4).bind fun a => (C2 M1.B2 E4 (a.2.L_, a.2.At, [], a.1)).bind fun c => M1.J1 c
def Hj.J1 (a : Li × Int × (List Piece)) : Option ((List Piece) × KS) := some (a.2.2, (⟨a.1, a.2.1⟩ : KS))
def Hj.J4 (a : Li × Int × Int × (List Piece)) (b : Int × KS) (c : Int) (d : Int) : Option ((Li × Int × Int × (List Piece)) ⊕ ((Li × Int × (List Piece)))) := (Dy a.2.2.2 ([(⟨d, (min c a.2.2.1)⟩ : Piece)] : List Piece)).bind fun e => some (.inl (b.2.L_, b.2.At, wr (a.2.2.1 - (min c a.2.2.1)), e))
def Hj.J5 (g : Int) (a : Li × Int × Int × (List Piece)) (e : Int × KS) (b : Int × KS) (c : Int) (h : Bool) : Option ((Li × Int × Int × (List Piece)) ⊕ ((Li × Int × (List Piece)))) := if h = true then (Rn (wr (e.1 + 1)) g).bind fun f => (ix a.2.2.2 (wr ((a.2.2.2.length : Int) - 1))).bind fun d => if (d.2.Batch == f) = true then some (.inl (b.2.L_, b.2.At, wr (a.2.2.1 - (min c a.2.2.1)), (a.2.2.2.set d.1 (⟨d.2.Batch, wr (d.2.Volume + (min c a.2.2.1))⟩ : Piece)))) else Hj.J4 a b c f else Hj.J4 a b c e.1
def Hj.J3 (c : Int) (a : Li × Int × Int × (List Piece)) (b : Int × KS) (d : Int × KS) (e : Int) : Option ((Li × Int × Int × (List Piece)) ⊕ ((Li × Int × (List Piece)))) := if decide ((a.2.2.2.length : Int) > 0) = true then (ix a.2.2.2 (wr ((a.2.2.2.length : Int) - 1))).bind fun f => Hj.J5 c a b d e (f.2.Batch == b.1) else Hj.J5 c a b d e false
def Hj.B2 (b : Int) (a : Li × Int × Int × (List Piece)) : Option ((Li × Int × Int × (List Piece)) ⊕ ((Li × Int × (List Piece)))) := if (decide (a.2.2.1 > 0) && decide ((a.2.2.2.length : Int) < 12)) = true then (Eb (⟨a.1, a.2.1⟩ : KS) b).bind fun c => (Fx c.2 1 (max 1 (wr ((wr (a.2.2.1 * 2)).tdiv 3)))).bind fun d => if ((a.2.2.2.length : Int) == 11) = true then Hj.J3 b a c d a.2.2.1 else Hj.J3 b a c d d.1 else some ((.inr ((a.1, a.2.1, a.2.2.2))))
def Hj (a : KS) (b : Int) (c : Int) : Option ((List Piece) × KS) := (C2 (Hj.B2 c) E4 (a.L_, a.At, b, [])).bind fun d => Hj.J1 d
def Mw.J1 (a : Li × Int × (List Batch)) : Option ((List Batch) × KS) := some (a.2.2, (⟨a.1, a.2.1⟩ : KS))
def Mw.B2 (d : Int) (e : Int) (a : Li × Int × (List Batch) × Int) : Option ((Li × Int × (List Batch) × Int) ⊕ ((Li × Int × (List Batch)))) := if decide (a.2.2.2 < d) = true then (Eb (⟨a.1, a.2.1⟩ : KS) e).bind fun c => (Eb c.2 3).bind fun b => (Kz (⟨#[102]⟩ : ByteArray) b.1).bind fun f => (Dy a.2.2.1 ([(⟨c.1, f, 0, 1⟩ : Batch)] : List Batch)).bind fun g => some (.inl (b.2.L_, b.2.At, g, wr (a.2.2.2 + 1))) else some ((.inr ((a.1, a.2.1, a.2.2.1))))
def Mw (a : KS) (b : Int) (c : Int) : Option ((List Batch) × KS) := (C2 (Mw.B2 b c) E4 (a.L_, a.At, [], 0)).bind fun d => Mw.J1 d
def Qi (e : KS) : Option (Segment × (List Piece) × (List Batch) × (List Product) × KS) := (Mo e 0 0 1).bind fun a => (M1 a.2).bind fun b => (Hj b.2 a.1.Capacity 4).bind fun c => (Mw c.2 4 (b.1.length : Int)).bind fun d => some (a.1, c.1, d.1, b.1, d.2)
def My (d : KS) : Option (Bounds × KS) := (Dx d ([0, 300000, 5000000, (-1000)] : Li)).bind fun a => (Eb a.2 3).bind fun b => (Eb b.2 100).bind fun c => some ((⟨a.1, wr (a.1 + (wr (b.1 * c.1)))⟩ : Bounds), c.2)
def It (a : Segment) : Option Int := (G2 (⟨([(⟨#[97]⟩ : ByteArray), (⟨#[98]⟩ : ByteArray)] : List ByteArray), ([(⟨a.Name, 0, 1, a.Capacity, a.Resist, a.Wave, a.Points⟩ : Segment)] : List Segment), [], [], 0, 0⟩ : Network)).bind fun b => if (b != 0) = true then some 9 else some 0
def Iv (a : Piece) : Bool := (decide (a.Batch ≥ 0) && (decide (a.Batch < 1000) && (decide (a.Volume ≥ 0) && decide (a.Volume ≤ 1000000))))
def Gj.J1 (a : Int) : Option Int := some a
def Gj.B2 (c : Nat) (a : Piece) (b : Int) : Option Int := some (wr (b + a.Volume))
def Gj (a : List Piece) : Option Int := (forS Gj.B2 0 a 0).bind fun b => Gj.J1 b
def Gz.J1 (a : List Piece) (c : Unit) : Option Bool := (Gj a).bind fun b => some (decide (b ≤ 1000000))
def Gz.J3 (a : Bool) : Option (Unit ⊕ (Bool)) := if a = true then some ((.inr (false))) else some (.inl ())
def Gz.B2 (c : List Piece) (b : Nat) (a : Piece) (e : Unit) : Option (Unit ⊕ (Bool)) := if (!(Iv a)) = true then Gz.J3 true else if (a.Volume == 0) = true then Gz.J3 true else if decide ((b : Int) > 0) = true then (ix c (wr ((b : Int) - 1))).bind fun d => Gz.J3 (d.2.Batch == a.Batch) else Gz.J3 false
def Gz (a : List Piece) : Option Bool := if decide ((a.length : Int) > 200) = true then some false else (forL (Gz.B2 a) 0 a ()).bind fun b => Sum.elim (fun d => Gz.J1 a ()) (fun c => some c) b
def Qm (a : List Piece) : Option Int := (Gz a).bind fun b => if (!b) = true then some 0 else (Gj a).bind fun c => some c
def G0.J1 (a : Segment) (b : List Piece) (c : Bool) : Option Int := if c = true then some 9 else (Qm b).bind fun d => if (d != a.Capacity) = true then some 14 else some 0
def G0 (a : Segment) (b : List Piece) : Option Int := (It a).bind fun c => if (c != 0) = true then G0.J1 a b true else (Gz b).bind fun d => G0.J1 a b (!d)
def M0 (a : Li) : Option Li := if a = [] then none else some (Ig a)
def M7 (a : Li) : Option Li := if a = [] then none else some (Go.Lib.compact a)
def Gl.J2 (a : Li) : Option Li := (M0 a).bind fun b => (M7 b).bind fun c => some c
def Gl.B3 (d : Nat) (b : Piece) (a : Li × Int) : Option (Li × Int) := (Dy a.1 ([wr (a.2 + b.Volume)] : Li)).bind fun c => some (c, wr (a.2 + b.Volume))
def Gl.J1 (a : List Piece) (b : Li) : Option Li := (forS Gl.B3 0 a (b, 0)).bind fun c => Gl.J2 c.1
def Gl.B4 (d : Nat) (a : Point) (b : Li) : Option Li := (Dy b ([a.At] : Li)).bind fun c => some c
def Gl (a : Segment) (b : List Piece) : Option Li := (forS Gl.B4 0 a.Points []).bind fun c => Gl.J1 b c
def Qp (a : Segment) (b : List Piece) : Option (Li × Int) := (G0 a b).bind fun c => if (c != 0) = true then some ([], c) else (Gl a b).bind fun d => some (d, 0)
def Ey (a : Product) : (Arr Int 4) := (⟨[a.Density, a.Expansion, a.Compress, a.Friction], rfl⟩ : Arr Int 4)
def Kn.J1 (a : Product) (c : Unit) : Option Bool := (Fy a.Name).bind fun b => some b
def Kn.J3 (a : Bool) : Option (Unit ⊕ (Bool)) := if a = true then some ((.inr (false))) else some (.inl ())
def Kn.B2 (d : Product) (a : Nat) (e : Unit) : Option (Unit ⊕ (Bool)) := (ix ([⟨400, 1200⟩, ⟨0, 2000⟩, ⟨0, 5000⟩, ⟨1, 2000⟩] : List product_span) (a : Int)).bind fun b => (ix ((Ey d).l) (a : Int)).bind fun c => if decide (c.2 < b.2.least) = true then Kn.J3 true else Kn.J3 (decide (c.2 > b.2.most))
def Kn (a : Product) : Option Bool := (forI (Kn.B2 a) 0 4 ()).bind fun b => Sum.elim (fun d => Kn.J1 a ()) (fun c => some c) b
def Mu.J1 (a : Unit) : Option Int := some (-1)
def Mu.B2 (a : Product → Option Bool) (b : Nat) (c : Product) (e : Unit) : Option (Unit ⊕ (Int)) := (a c).bind fun d => if d = true then some ((.inr ((b : Int)))) else some (.inl ())
def Mu (a : List Product) (b : Product → Option Bool) : Option Int := (forL (Mu.B2 b) 0 a ()).bind fun c => Sum.elim (fun e => Mu.J1 ()) (fun d => some d) c
def Gk (a : Product) (b : ByteArray) : Bool := (Ol a.Name b)
def Qk (a : List Product) (b : ByteArray) : Option Int := (Mu a (fun x => some (Gk x b))).bind fun c => some c
def Gy.J2 (a : Unit) : Option Int := some 0
def Gy.B3 (a : List Product) (b : Nat) (c : Product) (e : Unit) : Option (Unit ⊕ (Int)) := (Qk a c.Name).bind fun d => if decide (d < (b : Int)) = true then some ((.inr (7))) else some (.inl ())
def Gy.J1 (a : List Product) (d : Unit) : Option Int := (forL (Gy.B3 a) 0 a ()).bind fun b => Sum.elim (fun e => Gy.J2 ()) (fun c => some c) b
def Gy.B4 (c : Nat) (a : Product) (d : Unit) : Option (Unit ⊕ (Int)) := (Kn a).bind fun b => if (!b) = true then some ((.inr (9))) else some (.inl ())
def Gy (a : List Product) : Option Int := if decide ((a.length : Int) > 16) = true then some 4 else (forL Gy.B4 0 a ()).bind fun b => Sum.elim (fun d => Gy.J1 a ()) (fun c => some c) b
def Fg.J1 (a : List Product) : Option ((List Product) × Int) := some (a, 0)
def Fg.B2 (b : List Batch) (c : List Product) (h : Nat) (d : Piece) (e : List Product) : Option ((List Product) ⊕ (((List Product) × Int))) := if decide (d.Batch ≥ (b.length : Int)) = true then some ((.inr (([], 8)))) else (ix b d.Batch).bind fun a => if (decide (a.2.Product < 0) || decide (a.2.Product ≥ (c.length : Int))) = true then some ((.inr (([], 8)))) else (ix c a.2.Product).bind fun f => (Dy e ([f.2] : List Product)).bind fun g => some (.inl g)
def Fg (a : List Piece) (b : List Batch) (c : List Product) : Option ((List Product) × Int) := (forL (Fg.B2 b c) 0 a []).bind fun d => Sum.elim (fun e => Fg.J1 e) (fun f => some f) d
def Ff (a : Bounds) : Bool := (decide (a.Low ≤ a.High) && (decide (a.Low ≥ (-1125899906842624)) && decide (a.High ≤ 1125899906842624)))
def M4.J1 (a : Int) : Option Int := some a
def M4.B2 (b : Int → Option Bool) (a : Int × Int) : Option ((Int × Int) ⊕ (Int)) := if decide (a.1 < a.2) = true then (b (wr (((IntKind.u64.wrap (wr (a.1 + a.2))).fdiv 2)))).bind fun c => if (!c) = true then some (.inl (wr ((wr (((IntKind.u64.wrap (wr (a.1 + a.2))).fdiv 2))) + 1), a.2)) else some (.inl (a.1, wr (((IntKind.u64.wrap (wr (a.1 + a.2))).fdiv 2)))) else some ((.inr (a.1)))
def M4 (a : Int) (b : Int → Option Bool) : Option Int := (C2 (M4.B2 b) E4 (0, a)).bind fun c => M4.J1 c
def Qo (a : Int) (b : Segment) (c : Int) : Option Bool := (ix b.Points a).bind fun d => some (decide (d.2.At ≥ c))
def Qj (a : Segment) (b : Int) : Option Int := (M4 (wr ((a.Points.length : Int) - 1)) (fun x => Qo x a b)).bind fun c => some c
def K0.J1 (a : List gradient_part) : Option (List gradient_part) := some a
def K0.J3 (b : (List gradient_part) × Int × Int × Int) (a : (List gradient_part) × Int × Int) : Option (((List gradient_part) × Int × Int × Int) ⊕ ((List gradient_part))) := some (.inl (a.1, a.2.1, a.2.2, wr (b.2.2.2 + 1)))
def K0.J5 (d : List Product) (e : Li) (b : (List gradient_part) × Int × Int × Int) (c : Int × Int) (f : Nat × Int) (a : Int × Int × Int × Int × Int × Int) : Option (((List gradient_part) × Int × Int × Int) ⊕ ((List gradient_part))) := (ix e (wr (b.2.2.2 - 1))).bind fun g => (ix d c.1).bind fun h => (Dy b.1 ([(⟨wr (f.2 - g.2), wr (a.2.2.2.1 - a.1), wr (a.2.2.2.2.1 - a.2.1), h.2⟩ : gradient_part)] : List gradient_part)).bind fun i => K0.J3 b (i, c.1, c.2)
def K0.J4 (a : Segment) (h : List Product) (d : Li) (e : (List gradient_part) × Int × Int × Int) (i : Int × Int) : Option (((List gradient_part) × Int × Int × Int) ⊕ ((List gradient_part))) := (ix d e.2.2.2).bind fun f => (Qj a f.2).bind fun g => (ix a.Points (wr (g - 1))).bind fun b => (ix a.Points g).bind fun c => K0.J5 h d e i f (b.2.At, b.2.Height, b.2.Limit, c.2.At, c.2.Height, c.2.Limit)
def K0.B6 (b : List Piece) (c : Li) (d : (List gradient_part) × Int × Int × Int) (a : Int × Int) : Option ((Int × Int) ⊕ ((Int × Int))) := (ix c d.2.2.2).bind fun e => if decide (e.2 > a.2) = true then (ix b (wr (a.1 + 1))).bind fun f => some (.inl (wr (a.1 + 1), wr (a.2 + f.2.Volume))) else some ((.inr ((a.1, a.2))))
def K0.B2 (c : Segment) (d : List Piece) (e : List Product) (b : Li) (a : (List gradient_part) × Int × Int × Int) : Option (((List gradient_part) × Int × Int × Int) ⊕ ((List gradient_part))) := if decide (a.2.2.2 < (b.length : Int)) = true then (C2 (K0.B6 d b a) E4 (a.2.1, a.2.2.1)).bind fun f => K0.J4 c e b a f else some ((.inr (a.1)))
def K0 (b : Segment) (a : List Piece) (c : List Product) (d : Li) : Option (List gradient_part) := (ix a 0).bind fun e => (C2 (K0.B2 b a c d) E4 ([], 0, e.2.Volume, 1)).bind fun f => K0.J1 f
def Iz.J1 (a : Int × Int) : Option (Int × Int × Bool) := some (a.1, a.2, true)
def Iz (b : Int) (a : Int) : Option (Int × Int × Bool) := if (decide (a < 1) || (decide (a > 1099511627776) || (decide (b < (-2305843009213693952)) || decide (b > 2305843009213693952)))) = true then some (0, 0, false) else (Vb b a).bind fun d => (Rn b a).bind fun c => if decide (c < 0) = true then Iz.J1 (wr (d - 1), wr (c + a)) else Iz.J1 (d, c)
def Mi (a : Int) (b : Int) : Option Int := (Iz a b).bind fun c => some c.1
def Mn.J1 (a : Int) : Option Int := some a
def Mn (b : Int) (c : Int) : Option Int := (Iz b c).bind fun a => if (a.2.2 && decide (a.2.1 > 0)) = true then Mn.J1 (wr (a.1 + 1)) else Mn.J1 a.1
def Ks (a : gradient_part) (b : Segment) (c : Int) : Option (Int × Int) := (Mi (wr ((wr ((wr ((wr (b.Resist * a.liquid.Friction)) * c)) * c)) * a.length)) (wr (1000 * b.Capacity))).bind fun d => (Mi (wr ((wr ((wr (a.liquid.Density * 9807)) * a.height)) * a.length)) (wr (1000 * a.width))).bind fun e => (Mn (wr ((wr ((wr ((wr (b.Resist * a.liquid.Friction)) * c)) * c)) * a.length)) (wr (1000 * b.Capacity))).bind fun f => (Mn (wr ((wr ((wr (a.liquid.Density * 9807)) * a.height)) * a.length)) (wr (1000 * a.width))).bind fun g => some (wr (d + e), wr (f + g))
def Is (a : Li) : Option Li := Dy [] a
def Te.J2 (a : Li × Int × Int) (b : Li) : Option ((Li × Int × Int) ⊕ (Li)) := some (.inl (b, wr (a.2.1 + 1), wr (a.2.2 - 1)))
def Te.B1 (a : Li × Int × Int) : Option ((Li × Int × Int) ⊕ (Li)) := if decide (a.2.1 < a.2.2) = true then (ix a.1 a.2.2).bind fun c => (ix a.1 a.2.1).bind fun b => (ix (a.1.set b.1 c.2) a.2.2).bind fun d => Te.J2 a ((a.1.set b.1 c.2).set d.1 b.2) else some ((.inr (a.1)))
def Te (a : Li) : Option Li := (C2 Te.B1 E4 (a, 0, wr ((a.length : Int) - 1))).bind fun b => some b
def Tf.J2 (a : (List gradient_part) × Int × Int) (b : List gradient_part) : Option (((List gradient_part) × Int × Int) ⊕ ((List gradient_part))) := some (.inl (b, wr (a.2.1 + 1), wr (a.2.2 - 1)))
def Tf.B1 (a : (List gradient_part) × Int × Int) : Option (((List gradient_part) × Int × Int) ⊕ ((List gradient_part))) := if decide (a.2.1 < a.2.2) = true then (ix a.1 a.2.2).bind fun c => (ix a.1 a.2.1).bind fun b => (ix (a.1.set b.1 c.2) a.2.2).bind fun d => Tf.J2 a ((a.1.set b.1 c.2).set d.1 b.2) else some ((.inr (a.1)))
def Tf (a : List gradient_part) : Option (List gradient_part) := (C2 Tf.B1 E4 (a, 0, wr ((a.length : Int) - 1))).bind fun b => some b
def Rb.J2 (a : (List Level) × Int × Int) (b : List Level) : Option (((List Level) × Int × Int) ⊕ ((List Level))) := some (.inl (b, wr (a.2.1 + 1), wr (a.2.2 - 1)))
def Rb.B1 (a : (List Level) × Int × Int) : Option (((List Level) × Int × Int) ⊕ ((List Level))) := if decide (a.2.1 < a.2.2) = true then (ix a.1 a.2.2).bind fun c => (ix a.1 a.2.1).bind fun b => (ix (a.1.set b.1 c.2) a.2.2).bind fun d => Rb.J2 a ((a.1.set b.1 c.2).set d.1 b.2) else some ((.inr (a.1)))
def Rb (a : List Level) : Option (List Level) := (C2 Rb.B1 E4 (a, 0, wr ((a.length : Int) - 1))).bind fun b => some b
def Ex.J3 (a : List Level) : Option ((List Level) × Int) := some (a, 0)
def Ex.J2 (b : Int) (a : List Level) : Option ((List Level) × Int) := if decide (b < 0) = true then (Rb a).bind fun c => Ex.J3 c else Ex.J3 a
def Ex.B4 (f : Segment) (c : Int) (d : (List gradient_part) × Li) (e : Nat) (a : Int × Int × (List Level)) : Option (Int × Int × (List Level)) := (ix d.1 (e : Int)).bind fun g => (Ks g.2 f (max c (wr (0 - c)))).bind fun b => (ix d.2 ((e + 1 : Nat) : Int)).bind fun h => (Dy a.2.2 ([(⟨h.2, (⟨wr (a.1 - b.2), wr (a.2.1 - b.1)⟩ : Bounds)⟩ : Level)] : List Level)).bind fun i => some (wr (a.1 - b.2), wr (a.2.1 - b.1), i)
def Ex.J1 (d : Segment) (c : Int) (a : Bounds) (b : (List gradient_part) × Li) : Option ((List Level) × Int) := (ix b.2 0).bind fun e => (forJ (Ex.B4 d c b) 0 b.1.length (a.Low, a.High, ([(⟨e.2, a⟩ : Level)] : List Level))).bind fun f => Ex.J2 c f.2.2
def Ex.B5 (c : Nat) (b : List gradient_part) : Option (List gradient_part) := (ix b (c : Int)).bind fun a => some (b.set a.1 (⟨a.2.length, a.2.width, wr (0 - a.2.height), a.2.liquid⟩ : gradient_part))
def Ex (b : Segment) (c : List Piece) (m : List Batch) (f : List Product) (a : Int) (d : Bounds) : Option ((List Level) × Int) := (G0 b c).bind fun g => if (g != 0) = true then some ([], g) else (Gy f).bind fun h => if (h != 0) = true then some ([], h) else (Fg c m f).bind fun e => if (e.2 != 0) = true then some ([], e.2) else if ((a == 0) || (decide (a < (-1000)) || (decide (a > 1000) || (!(Ff d))))) = true then some ([], 1) else (Gl b c).bind fun i => (K0 b c e.1 i).bind fun j => (Is i).bind fun k => if decide (a < 0) = true then (Te k).bind fun n => (Tf j).bind fun l => (forJ Ex.B5 0 l.length l).bind fun o => Ex.J1 b a d (o, n) else Ex.J1 b a d (j, k)
def Qx.J1 (a : Unit) : Option Int := some (-1)
def Qx.B2 (a : Level → Option Bool) (b : Nat) (c : Level) (e : Unit) : Option (Unit ⊕ (Int)) := (a c).bind fun d => if d = true then some ((.inr ((b : Int)))) else some (.inl ())
def Qx (a : List Level) (b : Level → Option Bool) : Option Int := (forL (Qx.B2 b) 0 a ()).bind fun c => Sum.elim (fun e => Qx.J1 ()) (fun d => some d) c
def Qt (a : List Level) (b : Level → Option Bool) : Option Bool := (Qx a b).bind fun c => some (decide (c ≥ 0))
def Kt (a : Level) (b : Segment) : Bool := (decide (a.At < 0) || decide (a.At > b.Capacity))
def Ku.J1 (a : Int) : Option Int := some a
def Ku.J3 (a : Int × Int) (b : Int) : Option ((Int × Int) ⊕ (Int)) := some (.inl (b, wr (a.2 + 1)))
def Ku.J4 (c : Int) (a : Int × Int) (b : Int × Int × Int × Int × Int × Int) : Option ((Int × Int) ⊕ (Int)) := if (decide (b.1 ≤ c) && decide (c ≤ b.2.2.2.1)) = true then Ku.J3 a (min (min a.1 b.2.2.1) b.2.2.2.2.2) else Ku.J3 a a.1
def Ku.B2 (b : Segment) (e : Int) (a : Int × Int) : Option ((Int × Int) ⊕ (Int)) := if decide (a.2 < (b.Points.length : Int)) = true then (ix b.Points (wr (a.2 - 1))).bind fun c => (ix b.Points a.2).bind fun d => Ku.J4 e a (c.2.At, c.2.Height, c.2.Limit, d.2.At, d.2.Height, d.2.Limit) else some ((.inr (a.1)))
def Ku (a : Segment) (b : Int) : Option Int := (C2 (Ku.B2 a b) E4 (100000000, 1)).bind fun c => Ku.J1 c
def Iu.J3 (a : Unit) : Option (Int × Int) := some ((-1), 0)
def Iu.J5 (a : Level) (b : Bool) : Option (Unit ⊕ ((Int × Int))) := if b = true then some ((.inr ((a.At, 15)))) else some (.inl ())
def Iu.B4 (b : Segment) (c : Int) (e : Nat) (a : Level) (f : Unit) : Option (Unit ⊕ ((Int × Int))) := (Ku b a.At).bind fun d => if decide (a.Bounds.High > d) = true then Iu.J5 a true else Iu.J5 a (decide (a.Bounds.Low < c))
def Iu.J2 (a : Segment) (b : List Level) (c : Int) (f : Unit) : Option (Int × Int) := (forL (Iu.B4 a c) 0 b ()).bind fun d => Sum.elim (fun g => Iu.J3 ()) (fun e => some e) d
def Iu.B6 (b : List Level) (a : Int) : Option (Int ⊕ ((Int × Int) ⊕ Unit)) := if decide (a < (b.length : Int)) = true then (ix b (wr (a - 1))).bind fun c => (ix b a).bind fun d => if decide (c.2.At ≥ d.2.At) = true then some ((.inr (.inl ((0, 6))))) else some (.inl (wr (a + 1))) else some ((.inr (.inr (()))))
def Iu.J1 (b : Segment) (a : List Level) (c : Int) (d : Bool) : Option (Int × Int) := if d = true then some (0, 1) else (C2 (Iu.B6 a) E4 1).bind fun e => Sum.elim (fun f => some f) (fun g => Iu.J2 b a c g) e
def Iu (a : Segment) (b : List Level) (c : Int) : Option (Int × Int) := (It a).bind fun d => if (d != 0) = true then some (0, d) else if decide ((b.length : Int) > 208) = true then Iu.J1 a b c true else (Qt b (fun x => some (Kt x a))).bind fun e => Iu.J1 a b c e
def Iw.J1 (a : Unit) : Option Bool := some true
def Iw.B2 (c : List Level) (d : Nat) (a : Level) (e : Unit) : Option (Unit ⊕ (Bool)) := (ix c (d : Int)).bind fun b => if (!((a.At == b.2.At) && (((a.Bounds.Low == b.2.Bounds.Low) && ((a.Bounds.High == b.2.Bounds.High) && true)) && true))) = true then some ((.inr (false))) else some (.inl ())
def Iw (a : List Level) (b : List Level) : Option Bool := if ((a.length : Int) != (b.length : Int)) = true then some false else (forL (Iw.B2 b) 0 a ()).bind fun c => Sum.elim (fun e => Iw.J1 ()) (fun d => some d) c
def Qu : Segment := (⟨(⟨#[115]⟩ : ByteArray), 0, 1, 100, 2, 0, ([(⟨0, 0, 600000⟩ : Point), (⟨100, 10, 600000⟩ : Point)] : List Point)⟩ : Segment)
def C6 : (List Product) := ([(⟨(⟨#[111, 105, 108]⟩ : ByteArray), 800, 0, 0, 1000⟩ : Product)] : List Product)
def Mf.J2 (a : Bool) : Option Bool := some a
def Mf.J1 (a : (List Level) × Int) : Option Bool := (Iu Qu a.1 0).bind fun b => if (a.2 == 0) = true then (Iw a.1 ([(⟨0, (⟨500000, 500000⟩ : Bounds)⟩ : Level), (⟨100, (⟨419744, 419744⟩ : Bounds)⟩ : Level)] : List Level)).bind fun c => if c = true then if (b.2 == 0) = true then Mf.J2 (b.1 == (-1)) else Mf.J2 false else Mf.J2 false else Mf.J2 false
def Mf : Option Bool := (dR 1 (⟨(0 : Int), (⟨#[]⟩ : ByteArray), (0 : Int), (0 : Int)⟩ : Batch)).bind fun b => (Ex Qu ([(⟨0, 100⟩ : Piece)] : List Piece) b C6 30 (⟨500000, 500000⟩ : Bounds)).bind fun a => Mf.J1 (a.1, a.2)
def Kw.J1 (a : Int) : Option Int := some a
def Kw.J3 (a : Int × Int) (b : Int) : Option ((Int × Int) ⊕ (Int)) := some (.inl (b, wr (a.2 + 1)))
def Kw.J4 (b : Segment) (a : Int × Int) (c : Bool) : Option ((Int × Int) ⊕ (Int)) := if c = true then (ix b.Points (wr (a.2 - 1))).bind fun d => (ix b.Points a.2).bind fun e => Kw.J3 a (min (min a.1 d.2.Limit) e.2.Limit) else Kw.J3 a a.1
def Kw.B2 (b : Segment) (c : Int) (a : Int × Int) : Option ((Int × Int) ⊕ (Int)) := if decide (a.2 < (b.Points.length : Int)) = true then (ix b.Points (wr (a.2 - 1))).bind fun d => if decide (c ≥ d.2.At) = true then (ix b.Points a.2).bind fun e => Kw.J4 b a (decide (c ≤ e.2.At)) else Kw.J4 b a false else some ((.inr (a.1)))
def Kw (a : Segment) (b : Int) : Option Int := (C2 (Kw.B2 a b) E4 (100000000, 1)).bind fun c => Kw.J1 c
def M8 (a : Segment) : Option Bool := (Ky (⟨([(⟨#[97]⟩ : ByteArray), (⟨#[98]⟩ : ByteArray)] : List ByteArray), ([(⟨a.Name, 0, 1, a.Capacity, a.Resist, a.Wave, a.Points⟩ : Segment)] : List Segment), [], [], 0, 0⟩ : Network)).bind fun b => some (b == 0)
def K1 (a : Int) : Bool := (decide (a ≥ 0) && decide (a < 1000))
def Fw.J1 (a : Int) : Option Bool := some (decide (a ≤ 1000000))
def Fw.J3 (a : Piece) (b : Int) (c : Bool) : Option (Int ⊕ (Bool)) := if c = true then some ((.inr (false))) else some (.inl (wr (b + a.Volume)))
def Fw.B2 (d : List Piece) (c : Nat) (a : Piece) (b : Int) : Option (Int ⊕ (Bool)) := if (!(K1 a.Batch)) = true then Fw.J3 a b true else if decide (a.Volume < 1) = true then Fw.J3 a b true else if decide (a.Volume > 1000000) = true then Fw.J3 a b true else if decide ((c : Int) > 0) = true then (ix d (wr ((c : Int) - 1))).bind fun e => Fw.J3 a b (a.Batch == e.2.Batch) else Fw.J3 a b false
def Fw (a : List Piece) : Option Bool := if decide ((a.length : Int) > 200) = true then some false else (forL (Fw.B2 a) 0 a 0).bind fun b => Sum.elim (fun c => Fw.J1 c) (fun d => some d) b
def Km.J1 (a : Int) : Option Int := some a
def Km.B2 (c : Nat) (a : Piece) (b : Int) : Option Int := some (wr (b + a.Volume))
def Km (a : List Piece) : Option Int := (forS Km.B2 0 a 0).bind fun b => Km.J1 b
def Hg.J1 (a : Segment) (b : List Piece) (c : Bool) : Option Int := if c = true then some 9 else (Km b).bind fun d => if (d != a.Capacity) = true then some 14 else some 0
def Hg (a : Segment) (b : List Piece) : Option Int := (M8 a).bind fun c => if (!c) = true then Hg.J1 a b true else (Fw b).bind fun d => Hg.J1 a b (!d)
def Mm.J1 (a : Bool) : Option Bool := some a
def Mm (a : Product) : Option Bool := (Kx a.Name).bind fun b => if b = true then if decide (a.Density ≥ 400) = true then if decide (a.Density ≤ 1200) = true then if decide (a.Expansion ≥ 0) = true then if decide (a.Expansion ≤ 2000) = true then if decide (a.Compress ≥ 0) = true then if decide (a.Compress ≤ 5000) = true then if decide (a.Friction ≥ 1) = true then Mm.J1 (decide (a.Friction ≤ 2000)) else Mm.J1 false else Mm.J1 false else Mm.J1 false else Mm.J1 false else Mm.J1 false else Mm.J1 false else Mm.J1 false else Mm.J1 false
def Qw.J1 (a : Unit) : Option Int := some (-1)
def Qw.B2 (a : ByteArray) (b : Nat) (c : Product) (d : Unit) : Option (Unit ⊕ (Int)) := if Ol c.Name a = true then some ((.inr ((b : Int)))) else some (.inl ())
def Qw (a : List Product) (b : ByteArray) : Option Int := (forL (Qw.B2 b) 0 a ()).bind fun c => Sum.elim (fun e => Qw.J1 ()) (fun d => some d) c
def Iy.J2 (a : Unit) : Option Int := some 0
def Iy.B3 (a : List Product) (b : Nat) (c : Product) (e : Unit) : Option (Unit ⊕ (Int)) := (Qw a c.Name).bind fun d => if (d != (b : Int)) = true then some ((.inr (7))) else some (.inl ())
def Iy.J1 (a : List Product) (d : Unit) : Option Int := (forL (Iy.B3 a) 0 a ()).bind fun b => Sum.elim (fun e => Iy.J2 ()) (fun c => some c) b
def Iy.B4 (c : Nat) (a : Product) (d : Unit) : Option (Unit ⊕ (Int)) := (Mm a).bind fun b => if (!b) = true then some ((.inr (9))) else some (.inl ())
def Iy (a : List Product) : Option Int := if decide ((a.length : Int) > 16) = true then some 4 else (forL Iy.B4 0 a ()).bind fun b => Sum.elim (fun d => Iy.J1 a ()) (fun c => some c) b
def G1.J1 (a : Unit) : Option Bool := some true
def G1.J3 (a : Bool) : Option (Unit ⊕ (Bool)) := if a = true then some ((.inr (false))) else some (.inl ())
def G1.B2 (a : List Batch) (d : List Product) (e : Nat) (b : Piece) (f : Unit) : Option (Unit ⊕ (Bool)) := if decide (b.Batch ≥ (a.length : Int)) = true then G1.J3 true else (ix a b.Batch).bind fun c => if decide (c.2.Product < 0) = true then G1.J3 true else G1.J3 (decide (c.2.Product ≥ (d.length : Int)))
def G1 (a : List Piece) (b : List Batch) (c : List Product) : Option Bool := (forL (G1.B2 b c) 0 a ()).bind fun d => Sum.elim (fun f => G1.J1 ()) (fun e => some e) d
def Fv (a : Bounds) : Bool := (decide (a.Low ≤ a.High) && (decide (a.Low ≥ (-1125899906842624)) && decide (a.High ≤ 1125899906842624)))
def Kv.J3 (a : Li) : Option Li := some a
def Kv.J2 (a : Li) (c : Int) (b : Int) (d : Bool) : Option Li := if d = true then some a else (Va a 0 b).bind fun e => (Dy ([] : Li) e).bind fun f => (Dy f ([c] : Li)).bind fun g => (Va a b (a.length : Int)).bind fun h => (Dy g h).bind fun i => Kv.J3 i
def Kv.J1 (a : Li) (c : Int) (b : Int) : Option Li := if decide (b < (a.length : Int)) = true then (ix a b).bind fun d => Kv.J2 a c b (d.2 == c) else Kv.J2 a c b false
def Kv.J5 (a : Int) (b : Bool) : Option (Int ⊕ (Int)) := if b = true then some (.inl (wr (a + 1))) else some ((.inr (a)))
def Kv.B4 (b : Li) (c : Int) (a : Int) : Option (Int ⊕ (Int)) := if decide (a < (b.length : Int)) = true then (ix b a).bind fun d => Kv.J5 a (decide (d.2 < c)) else Kv.J5 a false
def Kv (a : Li) (b : Int) : Option Li := (C2 (Kv.B4 a b) E4 0).bind fun c => Kv.J1 a b c
def Ix.J2 (a : Li) : Option Li := some a
def Ix.B3 (d : Nat) (b : Piece) (a : Li × Int) : Option (Li × Int) := (Kv a.1 (wr (a.2 + b.Volume))).bind fun c => some (c, wr (a.2 + b.Volume))
def Ix.J1 (a : List Piece) (b : Li) : Option Li := (forS Ix.B3 0 a (b, 0)).bind fun c => Ix.J2 c.1
def Ix.B4 (d : Nat) (a : Point) (b : Li) : Option Li := (Kv b a.At).bind fun c => some c
def Ix (a : Segment) (b : List Piece) : Option Li := (forS Ix.B4 0 a.Points []).bind fun c => Ix.J1 b c
def Kq.J2 (a : Unit) : Option Int := some (-1)
def Kq.B3 (c : Nat) (a : Piece) (b : Int) : Option (Int ⊕ (Int)) := if decide (b < a.Volume) = true then some ((.inr (a.Batch))) else some (.inl (wr (b - a.Volume)))
def Kq.J1 (a : List Piece) (b : Int) (c : Bool) : Option Int := if c = true then some (-1) else (forL Kq.B3 0 a b).bind fun d => Sum.elim (fun f => Kq.J2 ()) (fun e => some e) d
def Kq (a : List Piece) (b : Int) : Option Int := (Fw a).bind fun c => if (!c) = true then Kq.J1 a b true else Kq.J1 a b (decide (b < 0))
def Kr.J2 (b : Segment) (c : Int) (d : Int) (e : Int) (f : Nat × Product) (a : Int × Int × Int × Int × Int × Int) : Option (Int × Int × Int × Int) := some (wr ((wr ((wr ((wr (b.Resist * f.2.Friction)) * c)) * c)) * (wr (e - d))), wr (1000 * b.Capacity), wr ((wr ((wr (f.2.Density * 9807)) * (wr (a.2.2.2.2.1 - a.2.1)))) * (wr (e - d))), wr (1000 * (wr (a.2.2.2.1 - a.1))))
def Kr.J1 (a : Segment) (e : Int) (f : Int) (g : Int) (h : Nat × Product) (d : Int) : Option (Int × Int × Int × Int) := (ix a.Points d).bind fun b => (ix a.Points (wr (d + 1))).bind fun c => Kr.J2 a e f g h (b.2.At, b.2.Height, b.2.Limit, c.2.At, c.2.Height, c.2.Limit)
def Kr.B3 (b : Segment) (c : Int) (a : Int) : Option (Int ⊕ (Int)) := (ix b.Points (wr (a + 1))).bind fun d => if decide (d.2.At ≤ c) = true then some (.inl (wr (a + 1))) else some ((.inr (a)))
def Kr (b : Segment) (c : List Piece) (d : List Batch) (e : List Product) (f : Int) (a : Int) (g : Int) : Option (Int × Int × Int × Int) := (Kq c a).bind fun h => (ix d h).bind fun i => (ix e i.2.Product).bind fun j => (C2 (Kr.B3 b a) E4 0).bind fun k => Kr.J1 b f a g j k
def Ko (a : Int) (b : Int) : Bool := (decide (b ≥ 1) && (decide (b ≤ 1099511627776) && (decide (a ≥ (-2305843009213693952)) && decide (a ≤ 2305843009213693952))))
def He.J1 (a : Int) : Option Int := some a
def He (a : Int) (b : Int) : Option Int := if (!(Ko a b)) = true then some 0 else (Vb a b).bind fun c => (Rn a b).bind fun d => if decide (d > 0) = true then He.J1 (wr (c + 1)) else He.J1 c
def Hh.J1 (a : Int) : Option Int := some a
def Hh (a : Int) (b : Int) : Option Int := if (!(Ko a b)) = true then some 0 else (Vb a b).bind fun c => (Rn a b).bind fun d => if decide (d < 0) = true then Hh.J1 (wr (c - 1)) else Hh.J1 c
def Ej.J2 (a : List Level) : Option ((List Level) × Int) := some (a, 0)
def Ej.B3 (i : Segment) (j : List Piece) (k : List Batch) (l : List Product) (m : Int) (c : Li) (a : (List Level) × Int × Int × Int) : Option (((List Level) × Int × Int × Int) ⊕ ((List Level))) := if decide (a.2.2.2 ≥ 0) = true then (ix c a.2.2.2).bind fun d => (ix c (wr (a.2.2.2 + 1))).bind fun n => (Kr i j k l m d.2 n.2).bind fun b => (He b.1 b.2.1).bind fun e => (He (wr (0 - b.2.2.1)) b.2.2.2).bind fun f => (Hh b.1 b.2.1).bind fun g => (Hh (wr (0 - b.2.2.1)) b.2.2.2).bind fun h => (ix a.1 a.2.2.2).bind fun o => some (.inl ((a.1.set o.1 (⟨d.2, (⟨wr ((wr (a.2.1 - e)) - f), wr ((wr (a.2.2.1 - g)) - h)⟩ : Bounds)⟩ : Level)), wr ((wr (a.2.1 - e)) - f), wr ((wr (a.2.2.1 - g)) - h), wr (a.2.2.2 - 1))) else some ((.inr (a.1)))
def Ej.J1 (d : Segment) (e : List Piece) (f : List Batch) (g : List Product) (h : Int) (b : Bounds) (a : Li) (c : List Level) (l : Unit) : Option ((List Level) × Int) := (ix a (wr ((a.length : Int) - 1))).bind fun i => (ix c (wr ((a.length : Int) - 1))).bind fun j => (C2 (Ej.B3 d e f g h a) E4 ((c.set j.1 (⟨i.2, b⟩ : Level)), b.Low, b.High, wr ((wr ((a.length : Int) - 1)) - 1))).bind fun k => Ej.J2 k
def Ej.J4 (a : List Level) : Option ((List Level) × Int) := some (a, 0)
def Ej.B5 (i : Segment) (j : List Piece) (k : List Batch) (l : List Product) (m : Int) (c : Li) (a : (List Level) × Int × Int × Int) : Option (((List Level) × Int × Int × Int) ⊕ ((List Level))) := if decide (a.2.2.2 < (c.length : Int)) = true then (ix c (wr (a.2.2.2 - 1))).bind fun n => (ix c a.2.2.2).bind fun d => (Kr i j k l m n.2 d.2).bind fun b => (He b.1 b.2.1).bind fun e => (He b.2.2.1 b.2.2.2).bind fun f => (Hh b.1 b.2.1).bind fun g => (Hh b.2.2.1 b.2.2.2).bind fun h => (ix a.1 a.2.2.2).bind fun o => some (.inl ((a.1.set o.1 (⟨d.2, (⟨wr ((wr (a.2.1 - e)) - f), wr ((wr (a.2.2.1 - g)) - h)⟩ : Bounds)⟩ : Level)), wr ((wr (a.2.1 - e)) - f), wr ((wr (a.2.2.1 - g)) - h), wr (a.2.2.2 + 1))) else some ((.inr (a.1)))
def Ej (d : Segment) (b : List Piece) (g : List Batch) (e : List Product) (a : Int) (c : Bounds) : Option ((List Level) × Int) := (Hg d b).bind fun i => if (i != 0) = true then some ([], i) else (Iy e).bind fun j => if (j != 0) = true then some ([], j) else (G1 b g e).bind fun k => if (!k) = true then some ([], 8) else if ((a == 0) || (decide (a < (-1000)) || (decide (a > 1000) || (!(Fv c))))) = true then some ([], 1) else (Ix d b).bind fun f => (dR (f.length : Int) (⟨(0 : Int), (⟨(0 : Int), (0 : Int)⟩ : Bounds)⟩ : Level)).bind fun h => if decide (a > 0) = true then (ix f 0).bind fun l => (ix h 0).bind fun m => (C2 (Ej.B5 d b g e a f) E4 ((h.set m.1 (⟨l.2, c⟩ : Level)), c.Low, c.High, 1)).bind fun n => Ej.J4 n else Ej.J1 d b g e a c f h ()
end Go.Proofs.YtkhcdkioehdndaaGreatDoor
namespace Go.Proofs
open Go.Shelf
def Lh : Go.Shelf.Ren := ⟨fun | 189 => 61 | 125 => 83 | 257 => 82 | 128 => 110 | 129 => 111 | 294 => 101 | 295 => 102 | 296 => 103 | 297 => 104 | 298 => 105 | 299 => 106 | 216 => 107 | 300 => 108 | 301 => 109 | 328 => 127 | 329 => 128 | 330 => 129 | 331 => 130 | 332 => 131 | 215 => 132 | 343 => 136 | n => n, fun | 28 => 22 | 3 => 3 | 46 => 128 | 0 => 0 | 51 => 153 | 53 => 155 | 4 => 4 | 183 => 146 | 182 => 145 | 131 => 150 | 5 => 5 | 9 => 9 | 218 => 165 | 222 => 169 | 228 => 174 | 229 => 83 | n => n, fun | n => n⟩
theorem Rl : Go.Proofs.Lays.n189 Tryz.prog Lh := {
 mixed := by kernel_rfl
 f125 := Tryz.func83.trans (congrArg some (by kernel_rfl))
 f128 := Tryz.func110.trans (congrArg some (by kernel_rfl))
 f129 := Tryz.func111.trans (congrArg some (by kernel_rfl))
 f189 := Tryz.func61.trans (congrArg some (by kernel_rfl))
 f215 := Tryz.func132.trans (congrArg some (by kernel_rfl))
 f216 := Tryz.func107.trans (congrArg some (by kernel_rfl))
 f257 := Tryz.func82.trans (congrArg some (by kernel_rfl))
 f294 := Tryz.func101.trans (congrArg some (by kernel_rfl))
 f295 := Tryz.func102.trans (congrArg some (by kernel_rfl))
 f296 := Tryz.func103.trans (congrArg some (by kernel_rfl))
 f297 := Tryz.func104.trans (congrArg some (by kernel_rfl))
 f298 := Tryz.func105.trans (congrArg some (by kernel_rfl))
 f299 := Tryz.func106.trans (congrArg some (by kernel_rfl))
 f300 := Tryz.func108.trans (congrArg some (by kernel_rfl))
 f301 := Tryz.func109.trans (congrArg some (by kernel_rfl))
 f328 := Tryz.func127.trans (congrArg some (by kernel_rfl))
 f329 := Tryz.func128.trans (congrArg some (by kernel_rfl))
 f330 := Tryz.func129.trans (congrArg some (by kernel_rfl))
 f331 := Tryz.func130.trans (congrArg some (by kernel_rfl))
 f332 := Tryz.func131.trans (congrArg some (by kernel_rfl))
 f343 := Tryz.func136.trans (congrArg some (by kernel_rfl))
 t0 := Tryz.underlying0
 a0 := Tryz.isAgg0
 z0 := Tryz.sizeOf0
 v0 := Tryz.zeroValue0
 t3 := Tryz.underlying3
 a3 := Tryz.isAgg3
 z3 := Tryz.sizeOf3
 v3 := Tryz.zeroValue3
 t4 := Tryz.underlying4
 a4 := Tryz.isAgg4
 z4 := Tryz.sizeOf4
 v4 := Tryz.zeroValue4
 t5 := Tryz.underlying5
 a5 := Tryz.isAgg5
 z5 := Tryz.sizeOf5
 v5 := Tryz.zeroValue5
 t9 := Tryz.underlying9
 a9 := Tryz.isAgg9
 z9 := Tryz.sizeOf9
 v9 := Tryz.zeroValue9
 t28 := Tryz.underlying22
 a28 := Tryz.isAgg22
 z28 := Tryz.sizeOf22
 v28 := Tryz.zeroValue22
 t46 := Tryz.underlying128
 a46 := Tryz.isAgg128
 z46 := Tryz.sizeOf128
 v46 := Tryz.zeroValue128
 t51 := Tryz.underlying153
 a51 := Tryz.isAgg153
 z51 := Tryz.sizeOf153
 v51 := Tryz.zeroValue153
 t53 := Tryz.underlying155
 a53 := Tryz.isAgg155
 z53 := Tryz.sizeOf155
 v53 := Tryz.zeroValue155
 t131 := Tryz.underlying150
 a131 := Tryz.isAgg150
 z131 := Tryz.sizeOf150
 v131 := Tryz.zeroValue150
 t182 := Tryz.underlying145
 a182 := Tryz.isAgg145
 z182 := Tryz.sizeOf145
 v182 := Tryz.zeroValue145
 t183 := Tryz.underlying146
 a183 := Tryz.isAgg146
 z183 := Tryz.sizeOf146
 v183 := Tryz.zeroValue146
 t218 := Tryz.underlying165
 a218 := Tryz.isAgg165
 z218 := Tryz.sizeOf165
 v218 := Tryz.zeroValue165
 t222 := Tryz.underlying169
 a222 := Tryz.isAgg169
 z222 := Tryz.sizeOf169
 v222 := Tryz.zeroValue169
 t228 := Tryz.underlying174
 a228 := Tryz.isAgg174
 z228 := Tryz.sizeOf174
 v228 := Tryz.zeroValue174
 t229 := Tryz.underlying83
 a229 := Tryz.isAgg83
 z229 := Tryz.sizeOf83
 v229 := Tryz.zeroValue83 }
open Go.Sort Go.RowKit in
theorem Tryz.slices_Sort_int (Gp off cap : Nat) (zs : List Int) (w : World) (hH : Holds (Value.int .i64) w Gp off zs.toArray) (hblk : Gp < w.heap.size) (hsz : zs.length < 4611686018427387904) :
  Calls Tryz.prog 61 #[.slice (some ⟨Gp, off, none⟩) zs.length cap] w fun e w' =>
   e = .returned (.tuple #[]) ∧ ∃ n os, w' = grow (putRow (Value.int .i64) (Sort.ahead w n) Gp off (zs.mergeSort fun x y => decide (x ≤ y)).toArray) os := Any.slices_Sort_int Rl Gp off cap zs w hH hblk hsz
def Jd : Go.Shelf.Ren := ⟨fun | 20 => 62 | n => n, fun | 22 => 22 | 3 => 3 | 4 => 4 | 0 => 0 | n => n, fun | n => n⟩
theorem Oi : Go.Proofs.Lays2.n20 Tryz.prog Jd := {
 mixed := by kernel_rfl
 f20 := Tryz.func62.trans (congrArg some (by kernel_rfl))
 t0 := Tryz.underlying0
 a0 := Tryz.isAgg0
 z0 := Tryz.sizeOf0
 v0 := Tryz.zeroValue0
 t3 := Tryz.underlying3
 a3 := Tryz.isAgg3
 z3 := Tryz.sizeOf3
 v3 := Tryz.zeroValue3
 t4 := Tryz.underlying4
 a4 := Tryz.isAgg4
 z4 := Tryz.sizeOf4
 v4 := Tryz.zeroValue4
 t22 := Tryz.underlying22
 a22 := Tryz.isAgg22
 z22 := Tryz.sizeOf22
 v22 := Tryz.zeroValue22
 i3 := by kernel_rfl }
open Go.RowKit Go.Lib Go.Sort in
theorem Tryz.slices_Compact_int (Gp off cap : Nat) (zs : List Int) (w : World) (hH : Holds (Value.int .i64) w Gp off zs.toArray) (hsz : zs.length ≤ 9223372036854775807) (hcap : zs.length ≤ cap) :
  Calls Tryz.prog 62 #[.slice (some ⟨Gp, off, none⟩) zs.length cap] w fun e w' => e = .returned (.slice (some ⟨Gp, off, none⟩) (Lib.compact zs).length cap) ∧ ∃ q, w' = putRow (Value.int .i64) (Sort.ahead w q) Gp off (Lib.compact zs ++ List.replicate (zs.length - (Lib.compact zs).length) 0).toArray := Any.slices_Compact_int Oi Gp off cap zs w hH hsz hcap
end Go.Proofs
namespace Go.Proofs.YtkhcdkioehdndaaGreatDoor
open Go.Aw
set_option linter.unusedVariables false
set_option linter.unusedSimpArgs false
def Qs (c : KS) (a : List ByteArray) : Option (ByteArray × KS) := (Eb c (a.length : Int)).bind fun b => (ix a b.1).bind fun d => some (d.2, b.2)
def Mg.J1 (a : Li × Int × ByteArray × Int × Int × Int × Int) : Option (Product × KS) := some ((⟨a.2.2.1, a.2.2.2.1, a.2.2.2.2.1, a.2.2.2.2.2.1, a.2.2.2.2.2.2⟩ : Product), (⟨a.1, a.2.1⟩ : KS))
def Mg (h : KS) (a : Product) : Option (Product × KS) := (Eb h 5).bind fun b => if (b.1 == 0) = true then (Qs b.2 ([(⟨#[]⟩ : ByteArray), (⟨#[97]⟩ : ByteArray), (⟨#[65]⟩ : ByteArray), (⟨#[55, 117, 112]⟩ : ByteArray), (⟨#[97, 98, 99, 100, 101, 102, 103, 104, 105, 106, 107, 108]⟩ : ByteArray), (⟨#[97, 98, 99, 100, 101, 102, 103, 104, 105, 106, 107, 108, 109]⟩ : ByteArray), (⟨#[112, 32, 97]⟩ : ByteArray)] : List ByteArray)).bind fun c => Mg.J1 (c.2.L_, c.2.At, c.1, a.Density, a.Expansion, a.Compress, a.Friction) else if (b.1 == 1) = true then (Dx b.2 ([399, 400, 1200, 1201, (-9223372036854775808)] : Li)).bind fun d => Mg.J1 (d.2.L_, d.2.At, a.Name, d.1, a.Expansion, a.Compress, a.Friction) else if (b.1 == 2) = true then (Dx b.2 ([(-1), 0, 2000, 2001, 4611686018427387904] : Li)).bind fun e => Mg.J1 (e.2.L_, e.2.At, a.Name, a.Density, e.1, a.Compress, a.Friction) else if (b.1 == 3) = true then (Dx b.2 ([(-1), 0, 5000, 5001] : Li)).bind fun f => Mg.J1 (f.2.L_, f.2.At, a.Name, a.Density, a.Expansion, f.1, a.Friction) else (Dx b.2 ([0, 1, 2000, 2001, (-5)] : Li)).bind fun g => Mg.J1 (g.2.L_, g.2.At, a.Name, a.Density, a.Expansion, a.Compress, g.1)
def Ql (a : Segment) (b : List Piece) : Option (Li × Int) := (Hg a b).bind fun c => if (c != 0) = true then some ([], c) else (Ix a b).bind fun d => some (d, 0)
def Kp.J3 (a : Unit) : Option (Int × Int) := some ((-1), 0)
def Kp.J5 (a : Level) (b : Bool) : Option (Unit ⊕ ((Int × Int))) := if b = true then some ((.inr ((a.At, 15)))) else some (.inl ())
def Kp.B4 (b : Segment) (c : Int) (e : Nat) (a : Level) (f : Unit) : Option (Unit ⊕ ((Int × Int))) := (Kw b a.At).bind fun d => if decide (a.Bounds.High > d) = true then Kp.J5 a true else Kp.J5 a (decide (a.Bounds.Low < c))
def Kp.J2 (a : Segment) (b : List Level) (c : Int) (f : Unit) : Option (Int × Int) := (forL (Kp.B4 a c) 0 b ()).bind fun d => Sum.elim (fun g => Kp.J3 ()) (fun e => some e) d
def Kp.B6 (b : List Level) (a : Int) : Option (Int ⊕ ((Int × Int) ⊕ Unit)) := if decide (a < (b.length : Int)) = true then (ix b a).bind fun c => (ix b (wr (a - 1))).bind fun d => if decide (c.2.At ≤ d.2.At) = true then some ((.inr (.inl ((0, 6))))) else some (.inl (wr (a + 1))) else some ((.inr (.inr (()))))
def Kp.J1 (b : Segment) (a : List Level) (c : Int) (g : Unit) : Option (Int × Int) := (C2 (Kp.B6 a) E4 1).bind fun d => Sum.elim (fun e => some e) (fun f => Kp.J2 b a c f) d
def Kp.B7 (b : Segment) (c : Nat) (a : Level) (d : Unit) : Option (Unit ⊕ ((Int × Int))) := if (decide (a.At < 0) || decide (a.At > b.Capacity)) = true then some ((.inr ((0, 1)))) else some (.inl ())
def Kp (a : Segment) (b : List Level) (c : Int) : Option (Int × Int) := (M8 a).bind fun d => if (!d) = true then some (0, 9) else if decide ((b.length : Int) > 208) = true then some (0, 1) else (forL (Kp.B7 a) 0 b ()).bind fun e => Sum.elim (fun g => Kp.J1 a b c ()) (fun f => some f) e
def Ms.J1 (a : Unit) : Option Bool := some true
def Ms.B2 (a : Li) (b : Nat) (c : Int) (e : Unit) : Option (Unit ⊕ (Bool)) := (ix a (b : Int)).bind fun d => if (c != d.2) = true then some ((.inr (false))) else some (.inl ())
def Ms (a : Li) (b : Li) : Option Bool := if ((a.length : Int) != (b.length : Int)) = true then some false else (forL (Ms.B2 b) 0 a ()).bind fun c => Sum.elim (fun e => Ms.J1 ()) (fun d => some d) c
def Mj.J2 (b : Unit) : Option Bool := (Mf).bind fun a => some a
def Mj.J4 (a : Li × Int) : Option ((Li × Int) ⊕ (Bool)) := some (.inl (a.1, a.2))
def Mj.J7 (a : Unit) : Option (Unit ⊕ (Bool)) := some (.inl ())
def Mj.B8 (f : Int) (a : Nat × Segment) (b : Nat × (List Level)) (g : Nat) (h : Unit) : Option (Unit ⊕ (Bool)) := (ix ([f, 0, 1000000] : Li) (g : Int)).bind fun c => (Iu a.2 b.2 c.2).bind fun d => (Kp a.2 b.2 c.2).bind fun e => if ((d.1 != e.1) || (d.2 != e.2)) = true then some ((.inr (false))) else some (.inl ())
def Mj.B6 (a : Int) (b : List Level) (c : Nat × Segment) (d : (List Level) × Int) (e : List Level) (f : Nat) (j : Unit) : Option (Unit ⊕ (Bool)) := (ix ([b, d.1, e] : List (List Level)) (f : Int)).bind fun g => (forI (Mj.B8 a c g) 0 (([a, 0, 1000000] : Li).length) ()).bind fun h => Sum.elim (fun k => Mj.J7 ()) (fun i => some ((.inr (i)))) h
def Mj.J5 (g : Int) (b : List Level) (a : Segment × (List Piece) × (List Batch) × (List Product) × KS) (h : Nat × Segment) (e : Li × Int) : Option ((Li × Int) ⊕ (Bool)) := (My (⟨e.1, e.2⟩ : KS)).bind fun c => (Ej a.1 a.2.1 a.2.2.1 a.2.2.2.1 5 c.1).bind fun d => (Dy ([] : List Level) d.1).bind fun i => (Dy i b).bind fun f => (forI (Mj.B6 g b h d f) 0 (([b, d.1, f] : List (List Level)).length) ()).bind fun j => Sum.elim (fun l => Mj.J4 (c.2.L_, c.2.At)) (fun k => some ((.inr (k)))) j
def Mj.J10 (a : Li × Int) : Option ((Li × Int) ⊕ (Bool)) := some (.inl (a.1, a.2))
def Mj.J13 (a : Li × Int) : Option ((Li × Int) ⊕ (Bool)) := some (.inl (a.1, a.2))
def Mj.J15 (a : Li × Int) (b : Bool) : Option ((Li × Int) ⊕ (Bool)) := if b = true then some ((.inr (false))) else Mj.J13 (a.1, a.2)
def Mj.J14 (a : List Batch) (b : Bounds) (c : List Product) (d : Nat × Product) (e : Product × KS) (f : Nat × Segment) (g : Nat × (List Piece)) (h : Nat × Int) (i : Li × Int) : Option ((Li × Int) ⊕ (Bool)) := (Ex f.2 g.2 a (c.set d.1 e.1) h.2 b).bind fun j => (Ej f.2 g.2 a (c.set d.1 e.1) h.2 b).bind fun k => (Iw j.1 k.1).bind fun l => if (!l) = true then Mj.J15 i true else Mj.J15 i (j.2 != k.2)
def Mj.J17 (a : Bool) : Option (Unit ⊕ (Bool)) := if a = true then some ((.inr (false))) else some (.inl ())
def Mj.B16 (h : Bounds) (a : Segment × (List Piece) × (List Batch) × (List Product) × KS) (b : Nat × Segment) (c : Nat × (List Piece)) (d : Nat × Int) (i : Bounds × KS) (j : Nat) (l : Unit) : Option (Unit ⊕ (Bool)) := (ix ([h, i.1, (⟨1125899906842624, 1125899906842625⟩ : Bounds)] : List Bounds) (j : Int)).bind fun e => (Ex b.2 c.2 a.2.2.1 a.2.2.2.1 d.2 e.2).bind fun f => (Ej b.2 c.2 a.2.2.1 a.2.2.2.1 d.2 e.2).bind fun g => (Iw f.1 g.1).bind fun k => if (!k) = true then Mj.J17 true else Mj.J17 (f.2 != g.2)
def Mj.B12 (g : List Batch) (h : Int) (b : Bounds) (i : Segment × (List Piece) × (List Batch) × (List Product) × KS) (j : List Product) (k : Nat × Product) (l : Product × KS) (c : Nat × Segment) (d : Nat × (List Piece)) (m : Int × KS) (n : Int × KS) (o : Nat) (e : Li × Int) : Option ((Li × Int) ⊕ (Bool)) := (ix ([h, m.1, n.1] : Li) (o : Int)).bind fun f => (My (⟨e.1, e.2⟩ : KS)).bind fun a => (forI (Mj.B16 b i c d f a) 0 (([b, a.1, (⟨1125899906842624, 1125899906842625⟩ : Bounds)] : List Bounds).length) ()).bind fun p => Sum.elim (fun r => Mj.J14 g b j k l c d f (a.2.L_, a.2.At)) (fun q => some ((.inr (q)))) p
def Mj.J11 (f : List Batch) (c : Int) (g : Bounds) (h : Segment × (List Piece) × (List Batch) × (List Product) × KS) (i : List Product) (j : Nat × Product) (k : Product × KS) (l : Nat × Segment) (d : Li × Int) (m : Nat × (List Piece)) (n : Bool) : Option ((Li × Int) ⊕ (Bool)) := if n = true then some ((.inr (false))) else (Fx (⟨d.1, d.2⟩ : KS) (-30) 30).bind fun b => (Dx b.2 ([1000, 1001, (-1000), 0] : Li)).bind fun a => (forI (Mj.B12 f c g h i j k l m b a) 0 (([c, b.1, a.1] : Li).length) (a.2.L_, a.2.At)).bind fun o => Sum.elim (fun e => Mj.J10 (e.1, e.2)) (fun p => some ((.inr (p)))) o
def Mj.B9 (m : List Piece) (d : List Batch) (e : Int) (f : Bounds) (c : Segment × (List Piece) × (List Batch) × (List Product) × KS) (g : List Product) (h : Nat × Product) (i : Product × KS) (a : Nat × Segment) (n : (List Piece) × KS) (o : Nat) (j : Li × Int) : Option ((Li × Int) ⊕ (Bool)) := (ix ([m, c.2.1, n.1] : List (List Piece)) (o : Int)).bind fun b => (Qp a.2 b.2).bind fun k => (Ql a.2 b.2).bind fun l => (Ms k.1 l.1).bind fun p => if (!p) = true then Mj.J11 d e f c g h i a j b true else Mj.J11 d e f c g h i a j b (k.2 != l.2)
def Mj.B3 (g : Segment) (c : List Piece) (h : List Batch) (i : Int) (j : Int) (k : Bounds) (l : List Level) (a : Segment × (List Piece) × (List Batch) × (List Product) × KS) (m : Li × Int × (List Point)) (n : List Product) (o : Nat × Product) (p : Product × KS) (q : Nat) (d : Li × Int) : Option ((Li × Int) ⊕ (Bool)) := (ix ([g, a.1, (⟨a.1.Name, a.1.From, a.1.To, a.1.Capacity, a.1.Resist, a.1.Wave, m.2.2⟩ : Segment)] : List Segment) (q : Int)).bind fun e => (Hj (⟨d.1, d.2⟩ : KS) a.1.Capacity 5).bind fun b => (forI (Mj.B9 c h i k a n o p e b) 0 (([c, a.2.1, b.1] : List (List Piece)).length) (b.2.L_, b.2.At)).bind fun r => Sum.elim (fun f => Mj.J5 j l a e (f.1, f.2)) (fun s => some ((.inr (s)))) r
def Mj.J1 (d : Segment) (g : List Piece) (h : List Batch) (i : Int) (j : Int) (k : Bounds) (l : List Level) (a : Segment × (List Piece) × (List Batch) × (List Product) × KS) (b : Li × Int × (List Point)) : Option Bool := (Dy ([] : List Product) a.2.2.2.1).bind fun e => (ix e 0).bind fun f => (Mg (⟨b.1, b.2.1⟩ : KS) f.2).bind fun c => (forI (Mj.B3 d g h i j k l a b e f c) 0 (([d, a.1, (⟨a.1.Name, a.1.From, a.1.To, a.1.Capacity, a.1.Resist, a.1.Wave, b.2.2⟩ : Segment)] : List Segment).length) (c.2.L_, c.2.At)).bind fun m => Sum.elim (fun o => Mj.J2 ()) (fun n => some n) m
def Mj (b : Segment) (f : List Piece) (g : List Batch) (j : Int) (k : Int) (l : Bounds) (h : List Level) (m : Li) : Option Bool := if (decide ((b.Points.length : Int) > 30) || (decide ((f.length : Int) > 60) || (decide ((g.length : Int) > 60) || (decide ((h.length : Int) > 300) || decide ((b.Name.size : Int) > 60))))) = true then (Mf).bind fun n => some n else (Qr m).bind fun o => (Qi o).bind fun a => (Dy ([] : List Point) a.1.Points).bind fun c => (Eb a.2.2.2.2 (c.length : Int)).bind fun i => (Dx i.2 ([0, 1, (-1), a.1.Capacity] : Li)).bind fun d => (ix c i.1).bind fun e => Mj.J1 b f g j k l h a (d.2.L_, d.2.At, (c.set e.1 (⟨d.1, e.2.Height, e.2.Limit⟩ : Point)))
abbrev Nw := Network
abbrev Sg := Segment
abbrev Sn := Station
abbrev Bt := ByteArray
abbrev U0 := fun (v : Value) l => Ob.us v 3 1 (List.map rI l)
abbrev U1 := fun (v : Value) l => Ob.us v 9 1 (List.map rS l)
abbrev U2 := fun (v : Value) l => Ob.us v 43 3 (List.map Ay l)
abbrev U3 := fun (v : Value) l => Ob.us v 49 5 (List.map Ak l)
abbrev U4 := fun (v : Value) l => Ob.us v 82 8 (List.map Bv l)
abbrev U5 := fun (v : Value) l => Ob.us v 103 4 (List.map Cf l)
abbrev U6 := fun (v : Value) l => Ob.us v 35 3 (List.map A1 l)
abbrev U7 := fun (v : Value) l => Ob.us v 88 2 (List.map Aq l)
abbrev Q0 := fun l => T.list 2 (List.map Aq l)
abbrev Q1 := fun l => T.list 4 (List.map Cf l)
abbrev Q2 := fun l => T.list 1 (List.map rI l)
abbrev Q3 := fun l => T.list 5 (List.map Ak l)
abbrev Q4 := fun l => T.list 3 (List.map Ay l)
abbrev Q5 := fun l => T.list 1 (List.map rS l)
abbrev Q6 := fun l => T.list 3 (List.map A1 l)
abbrev O0 := fun (b : Nat) e => Ob.arr b 28 7 1 e
abbrev O1 := fun (b : Nat) e => Ob.arr b 66 2 1 e
abbrev O2 := fun (b : Nat) e => Ob.arr b 37 2 1 e
abbrev O3 := fun (b : Nat) e => Ob.arr b 115 6 1 e
abbrev O4 := fun (b : Nat) e => Ob.arr b 134 4 1 e
abbrev O5 := fun (b : Nat) e => Ob.arr b 49 5 1 e
abbrev W0 : List T := [.v (.string ⟨#[]⟩), .V 0, .V 0, .V 0, .V 0, .V 0, .N]
abbrev W1 : List T := [.V 0, .V 0, .V 0]
abbrev W2 : List T := [.N, .N, .N, .N]
abbrev W3 : List T := [.v (.string ⟨#[]⟩), .V 0, .V 0, .V 0, .V 0]
abbrev W4 : List T := [.v (.string ⟨#[]⟩), .V 0, .V 0]
abbrev W6 : List T := [.V 0, .V 0, .V 0, .v (.string ⟨#[]⟩), .V 0, .V 0, .V 0, .V 0]
end Go.Proofs.YtkhcdkioehdndaaGreatDoor
