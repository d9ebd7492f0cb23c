/- Tables and pure functions. No condition. -/
import Derived.Test.YtihdchjpepkpbaaGreatZiB2
import Derived.Test.YtihdchjpepkpbaaGreatRows
import Derived.KernelRfl
import Derived.Test.YtihdchjpepkpbaaGreatZiB3
import Derived.Shelf.Sort.Plain
import Derived.Shelf.Slices.CompactI
import Derived.Sort.OwnSortedInts
import Derived.Below
import Derived.Shelf.SlIterI.Sorted
import Derived.Shelf.SortM.Plain
import Derived.Shelf.SortM.SortNone
import Derived.Shelf.SlMaps.Clone
import Derived.Test.YtihdchjpepkpbaaGreatProg
set_option maxRecDepth 100000
namespace Go.Aw
set_option linter.unusedVariables false
set_option linter.unusedSimpArgs false
inductive TT where
 | nil
 | node (l : TT) (k : Nat) (x : TI) (r : TT)
def Mi : TT → Nat → Option TI
 | .nil, _ => none
 | .node l k x r, i => bif Nat.beq k i then some x else bif Nat.ble k i then Mi r i else Mi l i
def V0 (P : Program) : TT → Prop
 | .nil => True
 | .node l k x r => V0 P l ∧ G8 P k = some x ∧ V0 P r
theorem Od {P : Program} : ∀ {t : TT} {i : Nat} {x : TI}, V0 P t → Mi t i = some x → G8 P i = some x
 | .nil, _, _, _, h => by simp [Mi] at h
 | .node l k y r, i, x, ha, h => by
  simp only [Mi] at h
  cases hb : Nat.beq k i with
  | true =>
   have := nq hb
   simp only [hb, cond_true, Option.some.injEq] at h
   subst h this; exact ha.2.1
  | false =>
   simp only [hb, cond_false] at h
   cases hc : Nat.ble k i with
   | true => simp only [hc, cond_true] at h; exact Od ha.2.2 h
   | false => simp only [hc, cond_false] at h; exact Od ha.1 h
abbrev zI : Value := .int .i64 0
abbrev zN : Value := .slice none 0 0
abbrev zT (k : Nat) : TI := { kind := .slice k, size := 1, bytes := 24, zero := some zN }
abbrev zS (f : List (Nat × Nat)) (s b : Nat) (z : Array Value) : TI := { kind := .struct f, size := s, bytes := b, zero := some (.agg z) }
abbrev zA (n t s b : Nat) (z : Array Value) : TI := { kind := .array n t, size := s, bytes := b, zero := some (.agg z) }
end Go.Aw
namespace Go.Proofs.YtihdchjpepkpbaaGreat
open Go.Aw
abbrev fE : TI := { kind := .int .i64, size := 1, bytes := 8, zero := some (.int .i64 0) }
abbrev fD : TI := { kind := .bool, size := 1, bytes := 1, zero := some (.bool false) }
abbrev fC : TI := { kind := .int .u8, size := 1, bytes := 1, zero := some (.int .u8 0) }
abbrev fB : TI := { kind := .string, size := 1, bytes := 16, zero := some (.string ⟨#[]⟩) }
abbrev dD : TI := zT 3
abbrev dC : TI := zT 9
abbrev dB : TI := zT 93
abbrev dA : TI := zT 95
abbrev cZ : TI := zT 102
abbrev cY : TI := zS [(0, 27), (1, 28), (2, 29), (3, 30), (4, 3), (5, 3)] 6 112 #[zN, zN, zN, zN, zI, zI]
abbrev cX : TI := zT 4
abbrev cW : TI := zS [(0, 22), (1, 22), (2, 34)] 3 72 #[zN, zN, zN]
abbrev cV : TI := zT 50
abbrev cU : TI := { kind := .int .i64, size := 1, bytes := 8, zero := some (.int .i64 0) }
abbrev cT : TI := zT 53
abbrev cR : TI := zS [(0, 3), (1, 3), (2, 48), (3, 3)] 4 48 #[zI, zI, zN, zI]
abbrev cQ : TI := zS [(0, 3), (1, 4)] 2 16 #[zI, .bool false]
abbrev cP : TI := zT 64
abbrev cO : TI := zS [(0, 3), (1, 3)] 2 16 #[zI, zI]
abbrev cN : TI := zS [(0, 3), (1, 3), (2, 3)] 3 24 #[zI, zI, zI]
abbrev cM : TI := zT 22
abbrev cK : TI := zS [(0, 34), (1, 34)] 2 48 #[zN, zN]
abbrev cJ : TI := zS [(0, 3), (1, 3), (2, 3)] 3 24 #[zI, zI, zI]
abbrev cH : TI := zT 90
abbrev cF : TI := zS [(0, 9), (1, 3), (2, 3), (3, 3), (4, 3), (5, 3), (6, 91)] 7 80 #[.string ⟨#[]⟩, zI, zI, zI, zI, zI, zN]
abbrev cE : TI := zS [(0, 9), (1, 3), (2, 3)] 3 32 #[.string ⟨#[]⟩, zI, zI]
abbrev cD : TI := zS [(0, 22), (1, 3)] 2 32 #[zN, zI]
abbrev X2 : TI := zS [(0, 9), (1, 3), (2, 3), (3, 3), (4, 3)] 5 48 #[.string ⟨#[]⟩, zI, zI, zI, zI]
abbrev X1 : TI := { kind := .map 3 3, size := 1, bytes := 8, zero := some (.map none) }
abbrev X0 : TI := { kind := .map 3 4, size := 1, bytes := 8, zero := some (.map none) }
abbrev Xz : TI := zS [(0, 32), (6, 22), (7, 22)] 8 160 #[zN, zN, zN, zN, zI, zI, zN, zN]
abbrev Xy : TI := zT 5
abbrev Xx : TI := zA 4 27 4 96 #[zN, zN, zN, zN]
abbrev Xw : TI := { kind := .int .u64, size := 1, bytes := 8, zero := some (.int .u64 0) }
abbrev Xv : TI := zA 24 3 24 192 #[zI, zI, zI, zI, zI, zI, zI, zI, zI, zI, zI, zI, zI, zI, zI, zI, zI, zI, zI, zI, zI, zI, zI, zI]
abbrev Xu : TI := zS [(0, 190), (24, 190)] 48 384 #[zI, zI, zI, zI, zI, zI, zI, zI, zI, zI, zI, zI, zI, zI, zI, zI, zI, zI, zI, zI, zI, zI, zI, zI, zI, zI, zI, zI, zI, zI, zI, zI, zI, zI, zI, zI, zI, zI, zI, zI, zI, zI, zI, zI, zI, zI, zI, zI]
abbrev Xt : TI := { kind := .int .i64, size := 1, bytes := 8, zero := some (.int .i64 0) }
abbrev Xs : TI := { kind := .int .u32, size := 1, bytes := 4, zero := some (.int .u32 0) }
abbrev Xr : TI := { kind := .int .u64, size := 1, bytes := 8, zero := some (.int .u64 0) }
abbrev Xq : TI := { kind := .int .u64, size := 1, bytes := 8, zero := some (.int .u64 0) }
def Lm : TT := (.node (.node (.node (.node (.node (.node .nil 3 fE .nil) 4 fD .nil) 5 fC (.node (.node .nil 9 fB .nil) 22 dD .nil)) 27 dC (.node (.node (.node .nil 28 dB .nil) 29 dA .nil) 30 cZ (.node .nil 32 cY .nil))) 34 cX (.node (.node (.node (.node .nil 36 cW .nil) 38 cV .nil) 39 cU (.node .nil 48 cT .nil)) 50 cR (.node (.node (.node .nil 53 cQ .nil) 58 cP .nil) 61 cO (.node .nil 64 cN .nil)))) 72 cM (.node (.node (.node (.node (.node .nil 86 cK .nil) 90 cJ .nil) 91 cH (.node .nil 93 cF .nil)) 95 cE (.node (.node (.node .nil 97 cD .nil) 102 X2 .nil) 117 X1 (.node .nil 135 X0 .nil))) 148 Xz (.node (.node (.node (.node .nil 150 Xy .nil) 171 Xx .nil) 183 Xw (.node .nil 190 Xv .nil)) 192 Xu (.node (.node (.node .nil 211 Xt .nil) 217 Xs .nil) 219 Xr (.node .nil 225 Xq .nil)))))
theorem T4 : V0 Tryz.prog Lm :=
 ⟨⟨⟨⟨⟨⟨trivial, by kernel_rfl, trivial⟩, by kernel_rfl, trivial⟩, by kernel_rfl, ⟨⟨trivial, by kernel_rfl, trivial⟩, by kernel_rfl, trivial⟩⟩, by kernel_rfl, ⟨⟨⟨trivial, by kernel_rfl, trivial⟩, by kernel_rfl, trivial⟩, by kernel_rfl, ⟨trivial, by kernel_rfl, trivial⟩⟩⟩, by kernel_rfl, ⟨⟨⟨⟨trivial, by kernel_rfl, trivial⟩, by kernel_rfl, trivial⟩, by kernel_rfl, ⟨trivial, by kernel_rfl, trivial⟩⟩, by kernel_rfl, ⟨⟨⟨trivial, by kernel_rfl, trivial⟩, by kernel_rfl, trivial⟩, by kernel_rfl, ⟨trivial, by kernel_rfl, trivial⟩⟩⟩⟩, by kernel_rfl, ⟨⟨⟨⟨⟨trivial, by kernel_rfl, trivial⟩, by kernel_rfl, trivial⟩, by kernel_rfl, ⟨trivial, by kernel_rfl, trivial⟩⟩, by kernel_rfl, ⟨⟨⟨trivial, by kernel_rfl, trivial⟩, by kernel_rfl, trivial⟩, by kernel_rfl, ⟨trivial, by kernel_rfl, trivial⟩⟩⟩, by kernel_rfl, ⟨⟨⟨⟨trivial, by kernel_rfl, trivial⟩, by kernel_rfl, trivial⟩, by kernel_rfl, ⟨trivial, by kernel_rfl, trivial⟩⟩, by kernel_rfl, ⟨⟨⟨trivial, by kernel_rfl, trivial⟩, by kernel_rfl, trivial⟩, by kernel_rfl, ⟨trivial, by kernel_rfl, trivial⟩⟩⟩⟩⟩
theorem Vj : Tryz.prog.follows .mixedOrders = true := by kernel_rfl
theorem Vi (t : Nat) (i : TI) (h : Mi Lm t = some i) : G8 Tryz.prog t = some i := Od T4 h
noncomputable def Ah : Env := ⟨Tryz.prog, Mi Lm, Vi, Vj⟩
theorem Ox : Bld Ah 32 [(0, 1), (1, 1), (2, 1), (3, 1), (4, 1), (5, 1)] [.N, .N, .N, .N, .V 0, .V 0] := ⟨⟨_, _, _, I7⟩⟩
theorem Di : Bld Ah 36 [(0, 1), (1, 1), (2, 1)] [.N, .N, .N] := ⟨⟨_, _, _, I7⟩⟩
theorem Vm : Bld Ah 50 [(0, 1), (1, 1), (2, 1), (3, 1)] [.V 0, .V 0, .N, .V 0] := ⟨⟨_, _, _, I7⟩⟩
theorem Ow : Bld Ah 53 [(0, 1), (1, 1)] [.V 0, .v (.bool false)] := ⟨⟨_, _, _, I7⟩⟩
theorem Ey : Bld Ah 90 [(0, 1), (1, 1), (2, 1)] [.V 0, .V 0, .V 0] := ⟨⟨_, _, _, I7⟩⟩
theorem Ov : Bld Ah 93 [(0, 1), (1, 1), (2, 1), (3, 1), (4, 1), (5, 1), (6, 1)] [.v (.string ⟨#[]⟩), .V 0, .V 0, .V 0, .V 0, .V 0, .N] := ⟨⟨_, _, _, I7⟩⟩
theorem G0 : Bld Ah 95 [(0, 1), (1, 1), (2, 1)] [.v (.string ⟨#[]⟩), .V 0, .V 0] := ⟨⟨_, _, _, I7⟩⟩
theorem Vl : Bld Ah 97 [(0, 1), (1, 1)] [.N, .V 0] := ⟨⟨_, _, _, I7⟩⟩
theorem T8 : Bld Ah 102 [(0, 1), (1, 1), (2, 1), (3, 1), (4, 1)] [.v (.string ⟨#[]⟩), .V 0, .V 0, .V 0, .V 0] := ⟨⟨_, _, _, I7⟩⟩
theorem T7 : Bld Ah 148 [(0, 6), (6, 1), (7, 1)] [.N, .N, .N, .N, .V 0, .V 0, .N, .N] := ⟨⟨_, _, _, I7⟩⟩
theorem Vk : aA Tryz.prog 190 = true := by kernel_rfl
set_option linter.unusedVariables false
set_option linter.unusedSimpArgs false
structure Point where
 At : Int
 Height : Int
 Limit : Int
 deriving DecidableEq
def Ce (x : Point) : List T := [.V x.At, .V x.Height, .V x.Limit]
structure Segment where
 Name : ByteArray
 From : Int
 To : Int
 Capacity : Int
 Resist : Int
 Wave : Int
 Points : List Point
 deriving DecidableEq
def Am (x : Segment) : List T := [.v (.string x.Name), .V x.From, .V x.To, .V x.Capacity, .V x.Resist, .V x.Wave, .list 3 (x.Points.map Ce)]
structure Port where
 Name : ByteArray
 Node : Int
 Pressure : Int
 deriving DecidableEq
def Bb (x : Port) : List T := [.v (.string x.Name), .V x.Node, .V x.Pressure]
structure Station where
 Name : ByteArray
 Node : Int
 Head : Int
 Fall : Int
 Suction : Int
 deriving DecidableEq
def A5 (x : Station) : List T := [.v (.string x.Name), .V x.Node, .V x.Head, .V x.Fall, .V x.Suction]
structure Network where
 Nodes : List ByteArray
 Segments : List Segment
 Ports : List Port
 Stations : List Station
 Vapour : Int
 Settle : Int
 deriving DecidableEq
def Aa (x : Network) : List T := [.list 1 (x.Nodes.map rS), .list 7 (x.Segments.map Am), .list 3 (x.Ports.map Bb), .list 5 (x.Stations.map A5), .V x.Vapour, .V x.Settle]
structure Plan where
 Rates : Li
 Ports : Li
 Pumps : List Bool
 deriving DecidableEq
def Al (x : Plan) : List T := [.list 1 (x.Rates.map rI), .list 1 (x.Ports.map rI), .list 1 (x.Pumps.map rB)]
structure flow_streams where
 come : Arr Int 24
 leave : Arr Int 24
 deriving DecidableEq
def Az (x : flow_streams) : List T := x.come.l.map cI ++ (x.leave.l.map cI ++ [])
structure KS where
 L_ : Li
 At : Int
 deriving DecidableEq
def Cd (x : KS) : List T := [.list 1 (x.L_.map rI), .V x.At]
def B0 (a : Segment) (b : Int) : (Int × Int) := if decide (b < 0) = true then (a.To, a.From) else (a.From, a.To)
def Kw (a : Int) (b : Int) : Bool := (decide (a ≥ (wr (0 - b))) && decide (a ≤ b))
def Ry.J1 (a : Int) : Option Int := some a
def Ry (c : Int) (a : Int) : Option Int := if decide (a < 1) = true then some 0 else (dL c a).bind fun b => if decide (b < 0) = true then Ry.J1 (wr (b + a)) else Ry.J1 b
def Cv (a : Int) (b : Int) (c : Int) : Bool := (decide (a ≥ b) && decide (a ≤ c))
def He (a : Int) : Int := (max a (wr (0 - a)))
def M9.J1 (a : Unit) : Option Int := some (-1)
def M9.B2 (a : Int) (b : Nat) (c : Int) (d : Unit) : Option (Unit ⊕ (Int)) := if (a == c) = true then some ((.inr ((b : Int)))) else some (.inl ())
def M9 (a : Li) (b : Int) : Option Int := (forL (M9.B2 b) 0 a ()).bind fun c => Sum.elim (fun e => M9.J1 ()) (fun d => some d) c
def M6.J1 (a : Unit) : Option Int := some (-1)
def M6.B2 (a : ByteArray) (b : Nat) (c : ByteArray) (d : Unit) : Option (Unit ⊕ (Int)) := if Si a c = true then some ((.inr ((b : Int)))) else some (.inl ())
def M6 (a : List ByteArray) (b : ByteArray) : Option Int := (forL (M6.B2 b) 0 a ()).bind fun c => Sum.elim (fun e => M6.J1 ()) (fun d => some d) c
def Ns.J1 (a : Unit) : Option Int := some (-1)
def Ns.B2 (a : Int → Option Bool) (b : Nat) (c : Int) (e : Unit) : Option (Unit ⊕ (Int)) := (a c).bind fun d => if d = true then some ((.inr ((b : Int)))) else some (.inl ())
def Ns (a : Li) (b : Int → Option Bool) : Option Int := (forL (Ns.B2 b) 0 a ()).bind fun c => Sum.elim (fun e => Ns.J1 ()) (fun d => some d) c
def Ku (a : Li) (b : Int → Option Bool) : Option Bool := (Ns a b).bind fun c => some (decide (c ≥ 0))
def M7.J1 (a : Unit) : Option Int := some (-1)
def M7.B2 (a : ByteArray → Option Bool) (b : Nat) (c : ByteArray) (e : Unit) : Option (Unit ⊕ (Int)) := (a c).bind fun d => if d = true then some ((.inr ((b : Int)))) else some (.inl ())
def M7 (a : List ByteArray) (b : ByteArray → Option Bool) : Option Int := (forL (M7.B2 b) 0 a ()).bind fun c => Sum.elim (fun e => M7.J1 ()) (fun d => some d) c
def Nc (a : List ByteArray) (b : ByteArray → Option Bool) : Option Bool := (M7 a b).bind fun c => some (decide (c ≥ 0))
def Nr.J1 (a : Unit) : Option Int := some (-1)
def Nr.B2 (a : Segment → Option Bool) (b : Nat) (c : Segment) (e : Unit) : Option (Unit ⊕ (Int)) := (a c).bind fun d => if d = true then some ((.inr ((b : Int)))) else some (.inl ())
def Nr (a : List Segment) (b : Segment → Option Bool) : Option Int := (forL (Nr.B2 b) 0 a ()).bind fun c => Sum.elim (fun e => Nr.J1 ()) (fun d => some d) c
def Kr (a : List Segment) (b : Segment → Option Bool) : Option Bool := (Nr a b).bind fun c => some (decide (c ≥ 0))
def Na.J1 (a : Unit) : Option Int := some (-1)
def Na.B2 (a : Port → Option Bool) (b : Nat) (c : Port) (e : Unit) : Option (Unit ⊕ (Int)) := (a c).bind fun d => if d = true then some ((.inr ((b : Int)))) else some (.inl ())
def Na (a : List Port) (b : Port → Option Bool) : Option Int := (forL (Na.B2 b) 0 a ()).bind fun c => Sum.elim (fun e => Na.J1 ()) (fun d => some d) c
def Nl (a : List Port) (b : Port → Option Bool) : Option Bool := (Na a b).bind fun c => some (decide (c ≥ 0))
def Kq.J1 (a : Unit) : Option Int := some (-1)
def Kq.B2 (a : Station → Option Bool) (b : Nat) (c : Station) (e : Unit) : Option (Unit ⊕ (Int)) := (a c).bind fun d => if d = true then some ((.inr ((b : Int)))) else some (.inl ())
def Kq (a : List Station) (b : Station → Option Bool) : Option Int := (forL (Kq.B2 b) 0 a ()).bind fun c => Sum.elim (fun e => Kq.J1 ()) (fun d => some d) c
def M4 (a : List Station) (b : Station → Option Bool) : Option Bool := (Kq a b).bind fun c => some (decide (c ≥ 0))
def Ip (a : Segment) : Bool := (decide ((a.Points.length : Int) < 2) || decide ((a.Points.length : Int) > 8))
def Nb (a : Network) : Option Bool := if (decide ((a.Nodes.length : Int) < 1) || (decide ((a.Nodes.length : Int) > 24) || (decide ((a.Segments.length : Int) > 32) || (decide ((a.Ports.length : Int) > 24) || decide ((a.Stations.length : Int) > 12))))) = true then some false else (Kr a.Segments (fun x => some (Ip x))).bind fun b => some (!b)
def M5.J1 (a : Li) : Option Li := some a
def M5.J3 (a : Li × (List Bool) × Int) : Option ((Li × (List Bool) × Int) ⊕ (Li)) := some (.inl (a.1, a.2.1, wr (a.2.2 + 1)))
def M5.J4 (a : Li × (List Bool) × Int) (b : Nat × Bool) (d : Unit) : Option ((Li × (List Bool) × Int) ⊕ (Li)) := (Dg a.1 ([a.2.2] : Li)).bind fun c => M5.J3 (c, (a.2.1.set b.1 true), (-1))
def M5.J6 (a : Li × (List Bool) × Int) (b : Bool) : Option (Unit ⊕ ((Li × (List Bool) × Int))) := if b = true then some ((.inr ((a.1, a.2.1, a.2.2)))) else some (.inl ())
def M5.B5 (d : Plan) (a : Li × (List Bool) × Int) (e : Nat) (c : Segment) (g : Unit) : Option (Unit ⊕ ((Li × (List Bool) × Int))) := (ix d.Rates (e : Int)).bind fun b => if (b.2 != 0) = true then if (((B0 c b.2).2) == a.2.2) = true then (ix a.2.1 ((B0 c b.2).1)).bind fun f => M5.J6 a (!f.2) else M5.J6 a false else M5.J6 a false
def M5.B2 (b : Network) (d : Plan) (a : Li × (List Bool) × Int) : Option ((Li × (List Bool) × Int) ⊕ (Li)) := if decide (a.2.2 < (b.Nodes.length : Int)) = true then (ix a.2.1 a.2.2).bind fun c => if c.2 = true then M5.J3 (a.1, a.2.1, a.2.2) else (forL (M5.B5 d a) 0 b.Segments ()).bind fun e => Sum.elim (fun g => M5.J4 a c ()) (fun f => M5.J3 f) e else some ((.inr (a.1)))
def M5 (a : Network) (b : Plan) : Option Li := (Wl (a.Nodes.length : Int) false).bind fun c => (C5 (M5.B2 a b) El ([], c, 0)).bind fun d => M5.J1 d
def Hh.J1 (a : Unit) : Int := 2
def Hh (a : Int) : Int := if (decide (a ≥ 97) && decide (a ≤ 122)) = true then 1 else if (decide (a ≥ 48) && decide (a ≤ 57)) = true then Hh.J1 () else if (a == 45) = true then Hh.J1 () else 0
def Gt.J2 (a : Unit) : Option Bool := some true
def Gt.B3 (a : ByteArray) (b : Nat) (d : Unit) : Option (Unit ⊕ (Bool)) := (fK a (b : Int)).bind fun c => if ((Hh c.2) == 0) = true then some ((.inr (false))) else some (.inl ())
def Gt.J1 (a : ByteArray) (b : Bool) : Option Bool := if b = true then some false else (chk ((a.size : Int) ≤ 9223372036854775806)).bind fun e => (forI (Gt.B3 a) 0 ((a.size : Int).toNat) ()).bind fun c => Sum.elim (fun f => Gt.J2 ()) (fun d => some d) c
def Gt (a : ByteArray) : Option Bool := if decide ((a.size : Int) < 1) = true then Gt.J1 a true else if decide ((a.size : Int) > 12) = true then Gt.J1 a true else (fK a 0).bind fun b => Gt.J1 a ((Hh b.2) != 1)
def K1.J3 (a : Network) (b : List ByteArray) (c : List ByteArray) (d : List ByteArray) : Option (Arr (List ByteArray) 4) := some (⟨[a.Nodes, b, c, d], rfl⟩ : Arr (List ByteArray) 4)
def K1.B4 (d : Nat) (a : Station) (b : List ByteArray) : Option (List ByteArray) := (Dg b ([a.Name] : List ByteArray)).bind fun c => some c
def K1.J2 (a : Network) (b : List ByteArray) (c : List ByteArray) : Option (Arr (List ByteArray) 4) := (forS K1.B4 0 a.Stations []).bind fun d => K1.J3 a b c d
def K1.B5 (d : Nat) (a : Port) (b : List ByteArray) : Option (List ByteArray) := (Dg b ([a.Name] : List ByteArray)).bind fun c => some c
def K1.J1 (a : Network) (b : List ByteArray) : Option (Arr (List ByteArray) 4) := (forS K1.B5 0 a.Ports []).bind fun c => K1.J2 a b c
def K1.B6 (d : Nat) (a : Segment) (b : List ByteArray) : Option (List ByteArray) := (Dg b ([a.Name] : List ByteArray)).bind fun c => some c
def K1 (a : Network) : Option (Arr (List ByteArray) 4) := (forS K1.B6 0 a.Segments []).bind fun b => K1.J1 a b
def Hf (a : Station) (b : Station) : Bool := (a.Node == b.Node)
def My.J2 (a : Unit) : Option Bool := some false
def My.B3 (a : Network) (b : Nat) (c : Station) (e : Unit) : Option (Unit ⊕ (Bool)) := (Kq a.Stations (fun x => some (Hf x c))).bind fun d => if decide (d < (b : Int)) = true then some ((.inr (true))) else some (.inl ())
def My.J1 (a : Network) (d : Unit) : Option Bool := (forL (My.B3 a) 0 a.Stations ()).bind fun b => Sum.elim (fun e => My.J2 ()) (fun c => some c) b
def My.J5 (a : Unit) : Option (Unit ⊕ (Bool)) := some (.inl ())
def My.B6 (a : Nat × (List ByteArray)) (b : Nat) (c : ByteArray) (e : Unit) : Option (Unit ⊕ (Bool)) := (M6 a.2 c).bind fun d => if decide (d < (b : Int)) = true then some ((.inr (true))) else some (.inl ())
def My.B4 (b : Arr (List ByteArray) 4) (c : Nat) (f : Unit) : Option (Unit ⊕ (Bool)) := (ix b.l (c : Int)).bind fun a => (forL (My.B6 a) 0 a.2 ()).bind fun d => Sum.elim (fun g => My.J5 ()) (fun e => some ((.inr (e)))) d
def My (a : Network) : Option Bool := (K1 a).bind fun b => (forI (My.B4 b) 0 4 ()).bind fun c => Sum.elim (fun e => My.J1 a ()) (fun d => some d) c
def Iq (a : Int) (b : Network) : Bool := (decide (a < 0) || decide (a ≥ (b.Nodes.length : Int)))
def Nm.J3 (a : Network) (b : Li) : Option Bool := (Ku b (fun x => some (Iq x a))).bind fun c => some (!c)
def Nm.B4 (d : Nat) (a : Station) (b : Li) : Option Li := (Dg b ([a.Node] : Li)).bind fun c => some c
def Nm.J2 (a : Network) (b : Li) : Option Bool := (forS Nm.B4 0 a.Stations b).bind fun c => Nm.J3 a c
def Nm.B5 (d : Nat) (a : Port) (b : Li) : Option Li := (Dg b ([a.Node] : Li)).bind fun c => some c
def Nm.J1 (a : Network) (b : Li) : Option Bool := (forS Nm.B5 0 a.Ports b).bind fun c => Nm.J2 a c
def Nm.B6 (d : Nat) (a : Segment) (b : Li) : Option Li := (Dg b ([a.From, a.To] : Li)).bind fun c => some c
def Nm (a : Network) : Option Bool := (forS Nm.B6 0 a.Segments []).bind fun b => Nm.J1 a b
def Iv.J2 (a : Bool) : Option Bool := some a
def Iv.J1 (a : Segment) (d : Unit) : Option Bool := (ix a.Points 0).bind fun b => if (b.2.At == 0) = true then (ix a.Points (wr ((a.Points.length : Int) - 1))).bind fun c => Iv.J2 (c.2.At == a.Capacity) else Iv.J2 false
def Iv.J4 (a : Bool) : Option (Unit ⊕ (Bool)) := if a = true then some ((.inr (false))) else some (.inl ())
def Iv.B3 (c : Segment) (b : Nat) (a : Point) (e : Unit) : Option (Unit ⊕ (Bool)) := if (!(Cv a.Height (-500) 5000)) = true then Iv.J4 true else if (!(Cv a.Limit 0 100000000)) = true then Iv.J4 true else if decide ((b : Int) > 0) = true then (ix c.Points (wr ((b : Int) - 1))).bind fun d => Iv.J4 (decide (a.At ≤ d.2.At)) else Iv.J4 false
def Iv (a : Segment) : Option Bool := if ((a.From == a.To) || ((!(Cv a.Capacity 1 1000000)) || ((!(Cv a.Resist 0 1000)) || (!(Cv a.Wave 0 100000))))) = true then some false else (forL (Iv.B3 a) 0 a.Points ()).bind fun b => Sum.elim (fun d => Iv.J1 a ()) (fun c => some c) b
def Re (a : Segment) : Option Bool := (Iv a).bind fun b => some (!b)
def Ir (a : Port) : Bool := (!(Cv a.Pressure 0 100000000))
def Iu (a : Station) : Bool := ((!(Cv a.Head 0 100000000)) || ((!(Cv a.Fall 0 100000)) || (!(Cv a.Suction 0 100000000))))
def Rt (a : Network) : Option Bool := (Kr a.Segments (fun x => Re x)).bind fun b => if b = true then some false else (Nl a.Ports (fun x => some (Ir x))).bind fun c => if c = true then some false else (M4 a.Stations (fun x => some (Iu x))).bind fun d => if d = true then some false else some ((Cv a.Vapour (-100000) 100000000) && (Cv a.Settle 0 100))
def Rj (a : ByteArray) : Option Bool := (Gt a).bind fun b => some (!b)
def Ee.J1 (a : Network) (e : Unit) : Option Int := (My a).bind fun b => if b = true then some 7 else (Nm a).bind fun c => if (!c) = true then some 8 else (Rt a).bind fun d => if (!d) = true then some 9 else some 0
def Ee.B2 (a : Arr (List ByteArray) 4) (b : Nat) (e : Unit) : Option (Unit ⊕ (Int)) := (ix a.l (b : Int)).bind fun c => (Nc c.2 (fun x => Rj x)).bind fun d => if d = true then some ((.inr (3))) else some (.inl ())
def Ee (a : Network) : Option Int := (Nb a).bind fun b => if (!b) = true then some 4 else (K1 a).bind fun c => (forI (Ee.B2 c) 0 4 ()).bind fun d => Sum.elim (fun f => Ee.J1 a ()) (fun e => some e) d
def Hd.J2 (a : flow_streams) (b : Int × Int × Int) (c : Arr Int 24) : Option flow_streams := if decide (b.2.1 ≥ 0) = true then (ix a.come.l b.2.1).bind fun d => some (⟨(a.come.set d.1 (wr (d.2 + b.2.2))), c⟩ : flow_streams) else some (⟨a.come, c⟩ : flow_streams)
def Hd.J1 (a : flow_streams) (b : Int × Int × Int) : Option flow_streams := if decide (b.1 ≥ 0) = true then (ix a.leave.l b.1).bind fun c => Hd.J2 a b (a.leave.set c.1 (wr (c.2 + b.2.2))) else Hd.J2 a b a.leave
def Hd (b : flow_streams) (c : Int) (d : Int) (a : Int) : Option flow_streams := if decide (a < 0) = true then Hd.J1 b (d, c, wr (0 - a)) else Hd.J1 b (c, d, a)
def Hb.J2 (a : (Arr Int 24) × (Arr Int 24)) : Option flow_streams := some (⟨a.1, a.2⟩ : flow_streams)
def Hb.B3 (c : Plan) (d : Nat) (e : Port) (a : (Arr Int 24) × (Arr Int 24)) : Option ((Arr Int 24) × (Arr Int 24)) := (ix c.Ports (d : Int)).bind fun f => (Hd (⟨a.1, a.2⟩ : flow_streams) (-1) e.Node f.2).bind fun b => some (b.come, b.leave)
def Hb.J1 (c : Network) (d : Plan) (a : (Arr Int 24) × (Arr Int 24)) : Option flow_streams := (forS (Hb.B3 d) 0 c.Ports (a.1, a.2)).bind fun b => Hb.J2 (b.1, b.2)
def Hb.B4 (d : Plan) (e : Nat) (a : Segment) (b : (Arr Int 24) × (Arr Int 24)) : Option ((Arr Int 24) × (Arr Int 24)) := (ix d.Rates (e : Int)).bind fun f => (Hd (⟨b.1, b.2⟩ : flow_streams) a.From a.To f.2).bind fun c => some (c.come, c.leave)
def Hb (a : Network) (b : Plan) : Option flow_streams := (forS (Hb.B4 b) 0 a.Segments ((Arr.rep 24 (0 : Int)), (Arr.rep 24 (0 : Int)))).bind fun c => Hb.J1 a b (c.1, c.2)
def Kz (a : Int) : Bool := (!(Kw a 1000))
def Hg.J1 (a : Network) (b : Plan) (f : Unit) : Option Int := (Ku b.Ports (fun x => some (Kz x))).bind fun d => if d = true then some 1 else (Hb a b).bind fun c => if (!decide (c.come = c.leave)) = true then some 12 else (M5 a b).bind fun e => if decide ((e.length : Int) < (a.Nodes.length : Int)) = true then some 13 else some 0
def Hg.B2 (a : Plan) (b : Nat) (c : Segment) (e : Unit) : Option (Unit ⊕ (Int)) := (ix a.Rates (b : Int)).bind fun d => if (!(Kw d.2 (min 1000 c.Capacity))) = true then some ((.inr (1))) else some (.inl ())
def Hg (a : Network) (b : Plan) : Option Int := (Ee a).bind fun c => if (c != 0) = true then some c else if (((b.Rates.length : Int) != (a.Segments.length : Int)) || (((b.Ports.length : Int) != (a.Ports.length : Int)) || ((b.Pumps.length : Int) != (a.Stations.length : Int)))) = true then some 9 else (forL (Hg.B2 b) 0 a.Segments ()).bind fun d => Sum.elim (fun f => Hg.J1 a b ()) (fun e => some e) d
def Rp (a : Li) : Option KS := (Qy a 0 (min (a.length : Int) 2000)).bind fun b => some (⟨b, 0⟩ : KS)
def Rg (a : KS) : Option (Int × KS) := if decide (a.At ≥ (a.L_.length : Int)) = true then some (0, a) else (ix a.L_ (wr ((wr (a.At + 1)) - 1))).bind fun b => some (b.2, (⟨a.L_, wr (a.At + 1)⟩ : KS))
def Dq (b : KS) (c : Int) : Option (Int × KS) := (Rg b).bind fun a => (Ry a.1 c).bind fun d => some (d, a.2)
def It (a : ByteArray) (b : Int) : Option ByteArray := (Uj ([IntKind.u8.wrap (wr (97 + (b.tmod 26)))] : Li)).bind fun c => (gA a c).bind fun d => some d
def Ed (c : KS) (a : Li) : Option (Int × KS) := (Dq c (a.length : Int)).bind fun b => (ix a b.1).bind fun d => some (d.2, b.2)
def F8 (c : KS) (a : Int) (d : Int) : Option (Int × KS) := (Dq c (wr ((wr (d - a)) + 1))).bind fun b => some (wr (a + b.1), b.2)
def Kv.J2 (b : Li × Int × Int × Int) (e : ByteArray) (c : Int × KS) (f : Int × KS) (g : Int × KS) (h : Int × KS) (a : Li × Int × (List Point)) : Option (Segment × KS) := (F8 (⟨a.1, a.2.1⟩ : KS) (-5) 30).bind fun d => (Dg a.2.2 ([(⟨c.1, d.1, h.1⟩ : Point)] : List Point)).bind fun i => some ((⟨e, b.2.2.1, b.2.2.2, c.1, f.1, g.1, i⟩ : Segment), d.2)
def Kv.J4 (g : Int × KS) (h : Int × KS) (a : Li × Int × (List Point) × Int) (c : Li × Int × Bool) : Option ((Li × Int × (List Point) × Int) ⊕ ((Li × Int × (List Point)))) := if c.2.2 = true then (F8 (⟨c.1, c.2.1⟩ : KS) 1 40).bind fun b => if decide ((wr (a.2.2.2 + b.1)) ≥ g.1) = true then some ((.inr ((b.2.L_, b.2.At, a.2.2.1)))) else (F8 b.2 (-5) 60).bind fun e => (Ed e.2 ([1, 1, 10] : Li)).bind fun f => (Dq f.2 3).bind fun d => (Dg a.2.2.1 ([(⟨wr (a.2.2.2 + b.1), wr (e.1 * f.1), wr (h.1 - (wr (d.1 * 1000)))⟩ : Point)] : List Point)).bind fun i => some (.inl (d.2.L_, d.2.At, i, wr (a.2.2.2 + b.1))) else some ((.inr ((c.1, c.2.1, a.2.2.1))))
def Kv.B3 (c : Int × KS) (d : Int × KS) (a : Li × Int × (List Point) × Int) : Option ((Li × Int × (List Point) × Int) ⊕ ((Li × Int × (List Point)))) := if decide ((a.2.2.1.length : Int) < 7) = true then (Dq (⟨a.1, a.2.1⟩ : KS) 3).bind fun b => Kv.J4 c d a (b.2.L_, b.2.At, decide (b.1 > 0)) else Kv.J4 c d a (a.1, a.2.1, false)
def Kv.J1 (g : Int) (b : Li × Int × Int × Int) : Option (Segment × KS) := (It (⟨#[103]⟩ : ByteArray) g).bind fun h => (Ed (⟨b.1, b.2.1⟩ : KS) ([1, 2, 7, 20, 60, 200, 1000] : Li)).bind fun c => (Ed c.2 ([0, 1, 5, 1000] : Li)).bind fun e => (Ed e.2 ([0, 50, 1000, 100000] : Li)).bind fun f => (Ed f.2 ([1000000, 6000000, 100000000] : Li)).bind fun a => (F8 a.2 (-5) 30).bind fun d => (Dg [] ([(⟨0, d.1, a.1⟩ : Point)] : List Point)).bind fun i => (C5 (Kv.B3 c a) El (d.2.L_, d.2.At, i, 0)).bind fun j => Kv.J2 b h c e f a j
def Kv (e : KS) (b : Int) (c : Int) (d : Int) : Option (Segment × KS) := (Dq e 4).bind fun a => if (a.1 == 0) = true then Kv.J1 b (a.2.L_, a.2.At, d, c) else Kv.J1 b (a.2.L_, a.2.At, c, d)
def Rr.J4 (b : Int × KS) (c : Int × KS) (d : Li × Int × (List ByteArray)) (e : Li × Int × (List Segment)) (a : Li × Int × (List Port) × (List Station)) : Option (Network × KS) := some ((⟨d.2.2, e.2.2, a.2.2.1, a.2.2.2, b.1, c.1⟩ : Network), (⟨a.1, a.2.1⟩ : KS))
def Rr.J6 (b : Li × Int × (List Port) × (List Station) × Int) (a : Li × Int × (List Port) × (List Station)) : Option ((Li × Int × (List Port) × (List Station) × Int) ⊕ ((Li × Int × (List Port) × (List Station)))) := some (.inl (a.1, a.2.1, a.2.2.1, a.2.2.2, wr (b.2.2.2.2 + 1)))
def Rr.J8 (a : Li × Int × (List Port) × (List Station) × Int) (d : Li × Int × (List Port)) (b : Li × Int × Bool) : Option ((Li × Int × (List Port) × (List Station) × Int) ⊕ ((Li × Int × (List Port) × (List Station)))) := if b.2.2 = true then (It (⟨#[115]⟩ : ByteArray) (a.2.2.2.1.length : Int)).bind fun g => (Ed (⟨b.1, b.2.1⟩ : KS) ([500000, 2000000, 0] : Li)).bind fun e => (Ed e.2 ([0, 200, 100000] : Li)).bind fun f => (Ed f.2 ([0, 100000, 400000] : Li)).bind fun c => (Dg a.2.2.2.1 ([(⟨g, a.2.2.2.2, e.1, f.1, c.1⟩ : Station)] : List Station)).bind fun h => Rr.J6 a (c.2.L_, c.2.At, d.2.2, h) else Rr.J6 a (b.1, b.2.1, d.2.2, a.2.2.2.1)
def Rr.J7 (d : Li × Int × (List ByteArray)) (b : Li × Int × (List Port) × (List Station) × Int) (a : Li × Int × (List Port)) : Option ((Li × Int × (List Port) × (List Station) × Int) ⊕ ((Li × Int × (List Port) × (List Station)))) := if decide (b.2.2.2.2 < (wr ((d.2.2.length : Int) - 1))) = true then (Dq (⟨a.1, a.2.1⟩ : KS) 3).bind fun c => Rr.J8 b a (c.2.L_, c.2.At, (c.1 == 0)) else Rr.J8 b a (a.1, a.2.1, false)
def Rr.J9 (d : Li × Int × (List ByteArray)) (a : Li × Int × (List Port) × (List Station) × Int) (b : Li × Int × Bool) : Option ((Li × Int × (List Port) × (List Station) × Int) ⊕ ((Li × Int × (List Port) × (List Station)))) := if b.2.2 = true then (It (⟨#[113]⟩ : ByteArray) (a.2.2.1.length : Int)).bind fun e => (Ed (⟨b.1, b.2.1⟩ : KS) ([300000, 1000000, 0, 5000000] : Li)).bind fun c => (Dg a.2.2.1 ([(⟨e, a.2.2.2.2, c.1⟩ : Port)] : List Port)).bind fun f => Rr.J7 d a (c.2.L_, c.2.At, f) else Rr.J7 d a (b.1, b.2.1, a.2.2.1)
def Rr.B5 (b : Li × Int × (List ByteArray)) (a : Li × Int × (List Port) × (List Station) × Int) : Option ((Li × Int × (List Port) × (List Station) × Int) ⊕ ((Li × Int × (List Port) × (List Station)))) := if decide (a.2.2.2.2 ≤ (wr ((b.2.2.length : Int) - 1))) = true then if (a.2.2.2.2 == 0) = true then Rr.J9 b a (a.1, a.2.1, true) else if (a.2.2.2.2 == (wr ((b.2.2.length : Int) - 1))) = true then Rr.J9 b a (a.1, a.2.1, true) else (Dq (⟨a.1, a.2.1⟩ : KS) 2).bind fun c => Rr.J9 b a (c.2.L_, c.2.At, (c.1 == 0)) else some ((.inr ((a.1, a.2.1, a.2.2.1, a.2.2.2.1))))
def Rr.J3 (c : Int × KS) (d : Int × KS) (b : Li × Int × (List ByteArray)) (a : Li × Int × (List Segment)) : Option (Network × KS) := (C5 (Rr.B5 b) El (a.1, a.2.1, [], [], 0)).bind fun e => Rr.J4 c d b a e
def Rr.B10 (d : Li × Int × (List ByteArray)) (a : Li × Int × (List Segment) × Int) : Option ((Li × Int × (List Segment) × Int) ⊕ ((Li × Int × (List Segment)))) := if decide (a.2.2.2 > 0) = true then (Dq (⟨a.1, a.2.1⟩ : KS) (wr ((d.2.2.length : Int) - 1))).bind fun b => (F8 b.2 (wr (b.1 + 1)) (wr ((d.2.2.length : Int) - 1))).bind fun e => (Kv e.2 (a.2.2.1.length : Int) b.1 e.1).bind fun c => (Dg a.2.2.1 ([c.1] : List Segment)).bind fun f => some (.inl (c.2.L_, c.2.At, f, wr (a.2.2.2 - 1))) else some ((.inr ((a.1, a.2.1, a.2.2.1))))
def Rr.J2 (d : Int × KS) (e : Int × KS) (c : Li × Int × (List ByteArray)) (a : Li × Int × (List Segment)) : Option (Network × KS) := (Dq (⟨a.1, a.2.1⟩ : KS) 4).bind fun b => (C5 (Rr.B10 c) El (b.2.L_, b.2.At, a.2.2, b.1)).bind fun f => Rr.J3 d e c f
def Rr.B11 (c : Li × Int × (List ByteArray)) (a : Li × Int × (List Segment) × Int) : Option ((Li × Int × (List Segment) × Int) ⊕ ((Li × Int × (List Segment)))) := if decide (a.2.2.2 < (wr ((c.2.2.length : Int) - 1))) = true then (Kv (⟨a.1, a.2.1⟩ : KS) (a.2.2.1.length : Int) a.2.2.2 (wr (a.2.2.2 + 1))).bind fun b => (Dg a.2.2.1 ([b.1] : List Segment)).bind fun d => some (.inl (b.2.L_, b.2.At, d, wr (a.2.2.2 + 1))) else some ((.inr ((a.1, a.2.1, a.2.2.1))))
def Rr.J1 (b : Int × KS) (c : Int × KS) (a : Li × Int × (List ByteArray)) : Option (Network × KS) := (C5 (Rr.B11 a) El (a.1, a.2.1, [], 0)).bind fun d => Rr.J2 b c a d
def Rr.B12 (b : Int × KS) (a : (List ByteArray) × Int) : Option (((List ByteArray) × Int) ⊕ ((Li × Int × (List ByteArray)))) := if decide (a.2 > 0) = true then (It (⟨#[110]⟩ : ByteArray) (a.1.length : Int)).bind fun c => (Dg a.1 ([c] : List ByteArray)).bind fun d => some (.inl (d, wr (a.2 - 1))) else some ((.inr ((b.2.L_, b.2.At, a.1))))
def Rr (d : KS) : Option (Network × KS) := (Ed d ([(-100000), 0, 50000] : Li)).bind fun a => (Ed a.2 ([0, 1, 5, 100] : Li)).bind fun b => (F8 b.2 2 6).bind fun c => (C5 (Rr.B12 c) El ([], c.1)).bind fun e => Rr.J1 a b e
def Gr (a : Int) : Int := (max a (wr (0 - a)))
def Rm.J2 (a : List Bool) (b : Li) (c : Li) : Option Plan := some (⟨b, c, a⟩ : Plan)
def Rm.B3 (d : Nat) (a : Int) (b : Li) : Option Li := (Dg b ([wr (0 - a)] : Li)).bind fun c => some c
def Rm.J1 (a : Plan) (b : List Bool) (c : Li) : Option Plan := (forS Rm.B3 0 a.Ports []).bind fun d => Rm.J2 b c d
def Rm.B4 (d : Nat) (a : Int) (b : Li) : Option Li := (Dg b ([wr (0 - a)] : Li)).bind fun c => some c
def Rm (a : Plan) : Option Plan := (Dg ([] : List Bool) a.Pumps).bind fun b => (forS Rm.B4 0 a.Rates []).bind fun c => Rm.J1 a b c
def Nf.J3 (b : Li × Int × (List Bool)) (c : Int × KS) (a : Li × Int × Li × Li) : Option (Plan × KS) := if (c.1 == 0) = true then (Rm (⟨a.2.2.1, a.2.2.2, b.2.2⟩ : Plan)).bind fun d => some (d, (⟨a.1, a.2.1⟩ : KS)) else some ((⟨a.2.2.1, a.2.2.2, b.2.2⟩ : Plan), (⟨a.1, a.2.1⟩ : KS))
def Nf.J5 (b : Li × Int × Li × Li × Int) (a : Li × Int × Li × Li) : Option ((Li × Int × Li × Li × Int) ⊕ ((Li × Int × Li × Li))) := some (.inl (a.1, a.2.1, a.2.2.1, a.2.2.2, wr (b.2.2.2.2 - 1)))
def Nf.J10 (a : Li) : Option Li := some a
def Nf.B9 (g : Network) (c : Int × KS) (h : Li × Int × Li × Int) (i : Nat) (a : Li) : Option Li := (ix h.2.2.1 (i : Int)).bind fun b => (ix g.Segments b.2).bind fun d => if decide (d.2.From < d.2.To) = true then (ix a b.2).bind fun e => Nf.J10 (a.set e.1 (wr (e.2 + c.1))) else (ix a b.2).bind fun f => Nf.J10 (a.set f.1 (wr (f.2 - c.1)))
def Nf.J8 (c : Network) (b : Li × Int × Li × Li × Int) (d : Int × KS) (a : Li × Int × Li × Int) (e : Li) : Option ((Li × Int × Li × Li × Int) ⊕ ((Li × Int × Li × Li))) := (forJ (Nf.B9 c d a) 0 a.2.2.1.length b.2.2.1).bind fun f => Nf.J5 b (a.1, a.2.1, f, e)
def Nf.J7 (e : Network) (a : Li × Int × Li × Li × Int) (f : Int × KS) (c : Int × KS) (b : Li × Int × Li × Int) : Option ((Li × Int × Li × Li × Int) ⊕ ((Li × Int × Li × Li))) := if decide (b.2.2.2 < 0) = true then Nf.J5 a (b.1, b.2.1, a.2.2.1, a.2.2.2.1) else (ix a.2.2.2.1 f.1).bind fun d => (ix a.2.2.2.1 b.2.2.2).bind fun g => (ix (a.2.2.2.1.set d.1 (wr (d.2 + c.1))) b.2.2.2).bind fun h => Nf.J8 e a c b ((a.2.2.2.1.set d.1 (wr (d.2 + c.1))).set h.1 (wr (g.2 - c.1)))
def Nf.J13 (g : Network) (b : Li × Int × Int × Li × Int) (a : Li × Int × Int) (c : Li) : Option ((Li × Int × Int × Li × Int) ⊕ ((Li × Int × Li × Int))) := if ((c.length : Int) == 0) = true then some ((.inr ((a.1, a.2.1, b.2.2.2.1, a.2.2)))) else (Dq (⟨a.1, a.2.1⟩ : KS) (c.length : Int)).bind fun d => (ix c d.1).bind fun e => (Dg b.2.2.2.1 ([e.2] : Li)).bind fun h => (ix g.Segments e.2).bind fun f => some (.inl (d.2.L_, d.2.At, wr ((wr (f.2.From + f.2.To)) - b.2.2.1), h, a.2.2))
def Nf.J15 (a : Li) : Option Li := some a
def Nf.J16 (b : Nat) (a : Li) (c : Bool) : Option Li := if c = true then (Dg a ([(b : Int)] : Li)).bind fun d => Nf.J15 d else Nf.J15 a
def Nf.B14 (e : Li × Int × Li × Li × Int) (f : Int × KS) (c : Li × Int × Int × Li × Int) (b : Nat) (a : Segment) (d : Li) : Option Li := if (a.From == c.2.2.1) = true then if decide ((wr ((wr (a.From + a.To)) - c.2.2.1)) > c.2.2.1) = true then (ix e.2.2.1 (b : Int)).bind fun g => Nf.J16 b d (decide ((wr ((Gr g.2) + f.1)) ≤ (min 1000 a.Capacity))) else Nf.J16 b d false else if (a.To == c.2.2.1) = true then if decide ((wr ((wr (a.From + a.To)) - c.2.2.1)) > c.2.2.1) = true then (ix e.2.2.1 (b : Int)).bind fun h => Nf.J16 b d (decide ((wr ((Gr h.2) + f.1)) ≤ (min 1000 a.Capacity))) else Nf.J16 b d false else Nf.J16 b d false
def Nf.J12 (c : Network) (d : Li × Int × Li × Li × Int) (e : Int × KS) (b : Li × Int × Int × Li × Int) (a : Li × Int × Int) : Option ((Li × Int × Int × Li × Int) ⊕ ((Li × Int × Li × Int))) := if decide (a.2.2 ≥ 0) = true then some ((.inr ((a.1, a.2.1, b.2.2.2.1, a.2.2)))) else (forS (Nf.B14 d e b) 0 c.Segments []).bind fun f => Nf.J13 c b a f
def Nf.J18 (a : Li × Int × Int) : Option (Li × Int × Int) := some (a.1, a.2.1, a.2.2)
def Nf.J19 (b : Nat) (c : Li × Int × Int) (a : Li × Int × Bool) : Option (Li × Int × Int) := if a.2.2 = true then Nf.J18 (a.1, a.2.1, (b : Int)) else Nf.J18 (a.1, a.2.1, c.2.2)
def Nf.B17 (f : Li × Int × Li × Li × Int) (g : Int × KS) (h : Int × KS) (d : Li × Int × Int × Li × Int) (b : Nat) (i : Port) (a : Li × Int × Int) : Option (Li × Int × Int) := if (i.Node == d.2.2.1) = true then if ((b : Int) != g.1) = true then (ix f.2.2.2.1 (b : Int)).bind fun e => if decide (e.2 ≤ 0) = true then if decide ((wr (e.2 - h.1)) ≥ (-1000)) = true then if decide ((d.2.2.2.1.length : Int) > 0) = true then (Dq (⟨a.1, a.2.1⟩ : KS) 2).bind fun c => Nf.J19 b a (c.2.L_, c.2.At, (c.1 == 0)) else Nf.J19 b a (a.1, a.2.1, false) else Nf.J19 b a (a.1, a.2.1, false) else Nf.J19 b a (a.1, a.2.1, false) else Nf.J19 b a (a.1, a.2.1, false) else Nf.J19 b a (a.1, a.2.1, false)
def Nf.B11 (c : Network) (d : Li × Int × Li × Li × Int) (f : Int × KS) (e : Int × KS) (a : Li × Int × Int × Li × Int) : Option ((Li × Int × Int × Li × Int) ⊕ ((Li × Int × Li × Int))) := if decide (a.2.2.2.2 < 0) = true then (forS (Nf.B17 d f e a) 0 c.Ports (a.1, a.2.1, a.2.2.2.2)).bind fun b => Nf.J12 c d e a (b.1, b.2.1, b.2.2) else some ((.inr ((a.1, a.2.1, a.2.2.2.1, a.2.2.2.2))))
def Nf.J6 (c : Network) (b : Li × Int × Li × Li × Int) (d : Int × KS) (e : Nat × Port) (a : Int × KS) (f : Bool) : Option ((Li × Int × Li × Li × Int) ⊕ ((Li × Int × Li × Li))) := if f = true then Nf.J5 b (a.2.L_, a.2.At, b.2.2.1, b.2.2.2.1) else (C5 (Nf.B11 c b d a) El (a.2.L_, a.2.At, e.2.Node, [], (-1))).bind fun g => Nf.J7 c b d a g
def Nf.B4 (c : Network) (a : Li × Int × Li × Li × Int) : Option ((Li × Int × Li × Li × Int) ⊕ ((Li × Int × Li × Li))) := if decide (a.2.2.2.2 > 0) = true then (Dq (⟨a.1, a.2.1⟩ : KS) (c.Ports.length : Int)).bind fun b => (ix c.Ports b.1).bind fun e => (Ed b.2 ([1, 5, 30, 300] : Li)).bind fun f => (F8 f.2 1 f.1).bind fun d => (ix a.2.2.2.1 b.1).bind fun g => if decide (g.2 < 0) = true then Nf.J6 c a b e d true else Nf.J6 c a b e d (decide ((wr (g.2 + d.1)) > 1000)) else some ((.inr ((a.1, a.2.1, a.2.2.1, a.2.2.2.1))))
def Nf.J2 (e : Network) (c : Li × Li) (a : Li × Int × (List Bool)) : Option (Plan × KS) := (Dq (⟨a.1, a.2.1⟩ : KS) 3).bind fun d => (Dq d.2 5).bind fun b => (C5 (Nf.B4 e) El (b.2.L_, b.2.At, c.1, c.2, b.1)).bind fun f => Nf.J3 a d f
def Nf.B20 (c : Network) (a : Li × Int × (List Bool) × Int) : Option ((Li × Int × (List Bool) × Int) ⊕ ((Li × Int × (List Bool)))) := if decide (a.2.2.2 < (c.Stations.length : Int)) = true then (Dq (⟨a.1, a.2.1⟩ : KS) 2).bind fun b => (Dg a.2.2.1 ([(b.1 == 0)] : List Bool)).bind fun d => some (.inl (b.2.L_, b.2.At, d, wr (a.2.2.2 + 1))) else some ((.inr ((a.1, a.2.1, a.2.2.1))))
def Nf.J1 (a : KS) (b : Network) (c : Li × Li) : Option (Plan × KS) := (C5 (Nf.B20 b) El (a.L_, a.At, [], 0)).bind fun d => Nf.J2 b c d
def Nf (b : KS) (a : Network) : Option (Plan × KS) := (Wl (a.Segments.length : Int) (0 : Int)).bind fun c => (Wl (a.Ports.length : Int) (0 : Int)).bind fun d => Nf.J1 b a (c, d)
structure paths_divider where
 n_ : Network
 rates : Li
 ports : Li
 deriving DecidableEq
structure Hop where
 Segment : Int
 Back : Bool
 deriving DecidableEq
def Cc (x : Hop) : List T := [.V x.Segment, .v (.bool x.Back)]
structure Path where
 In : Int
 Out : Int
 Hops : List Hop
 Rate : Int
 deriving DecidableEq
def Bo (x : Path) : List T := [.V x.In, .V x.Out, .list 2 (x.Hops.map Cc), .V x.Rate]
def Ks (a : Li) : Option Li := Dg [] a
def Is (b : Hop) (a : Int) : Int := if b.Back = true then (wr (0 - a)) else a
def Rv.J2 (b : paths_divider) (e : Int) (c : Nat × Int) (a : Int × (List Hop) × Int) (d : Nat × Int) (f : Li) : Option (Path × paths_divider) := some ((⟨e, a.1, a.2.1, a.2.2⟩ : Path), (⟨b.n_, f, ((b.ports.set c.1 (wr (c.2 - a.2.2))).set d.1 (wr (d.2 + a.2.2)))⟩ : paths_divider))
def Rv.B3 (a : Int × (List Hop) × Int) (e : Nat) (b : Li) : Option Li := (ix a.2.1 (e : Int)).bind fun c => (ix b c.2.Segment).bind fun d => some (b.set d.1 (wr (d.2 - (Is c.2 a.2.2))))
def Rv.J1 (b : paths_divider) (d : Int) (c : Nat × Int) (a : Int × (List Hop) × Int) : Option (Path × paths_divider) := (ix (b.ports.set c.1 (wr (c.2 - a.2.2))) a.1).bind fun e => (forJ (Rv.B3 a) 0 a.2.1.length b.rates).bind fun f => Rv.J2 b d c a e f
def Rv.J6 (a : (List Hop) × Int × Int) (b : Unit) : Option (((List Hop) × Int × Int) ⊕ ((Int × (List Hop) × Int))) := some ((.inr ((0, a.1, a.2.1))))
def Rv.J8 (a : (List Hop) × Int × Int) (b : Segment) (c : Nat × Int) (d : List Hop) : Option (Unit ⊕ (((List Hop) × Int × Int))) := some ((.inr ((d, (min a.2.1 c.2), b.To))))
def Rv.J9 (a : (List Hop) × Int × Int) (b : Segment) (c : Nat × Int) (d : List Hop) : Option (Unit ⊕ (((List Hop) × Int × Int))) := some ((.inr ((d, (min a.2.1 (wr (0 - c.2))), b.From))))
def Rv.B7 (e : paths_divider) (a : (List Hop) × Int × Int) (d : Nat) (b : Segment) (h : Unit) : Option (Unit ⊕ (((List Hop) × Int × Int))) := (ix e.rates (d : Int)).bind fun c => if (decide (c.2 > 0) && (b.From == a.2.2)) = true then (Dg a.1 ([(⟨(d : Int), false⟩ : Hop)] : List Hop)).bind fun f => Rv.J8 a b c f else if (decide (c.2 < 0) && (b.To == a.2.2)) = true then (Dg a.1 ([(⟨(d : Int), true⟩ : Hop)] : List Hop)).bind fun g => Rv.J9 a b c g else some (.inl ())
def Rv.J5 (a : paths_divider) (b : (List Hop) × Int × Int) (e : Unit) : Option (((List Hop) × Int × Int) ⊕ ((Int × (List Hop) × Int))) := (forL (Rv.B7 a b) 0 a.n_.Segments ()).bind fun c => Sum.elim (fun f => Rv.J6 b ()) (fun d => some (.inl d)) c
def Rv.J11 (c : paths_divider) (a : (List Hop) × Int × Int) (b : Nat) (d : Bool) : Option (Unit ⊕ ((Int × (List Hop) × Int))) := if d = true then (ix c.ports (b : Int)).bind fun e => some ((.inr (((b : Int), a.1, (min a.2.1 (wr (0 - e.2))))))) else some (.inl ())
def Rv.B10 (a : paths_divider) (b : (List Hop) × Int × Int) (c : Nat) (d : Port) (f : Unit) : Option (Unit ⊕ ((Int × (List Hop) × Int))) := if (d.Node == b.2.2) = true then (ix a.ports (c : Int)).bind fun e => Rv.J11 a b c (decide (e.2 < 0)) else Rv.J11 a b c false
def Rv.B4 (a : paths_divider) (b : (List Hop) × Int × Int) : Option (((List Hop) × Int × Int) ⊕ ((Int × (List Hop) × Int))) := (forL (Rv.B10 a b) 0 a.n_.Ports ()).bind fun c => Sum.elim (fun e => Rv.J5 a b ()) (fun d => some ((.inr (d)))) c
def Rv (a : paths_divider) (b : Int) : Option (Path × paths_divider) := (ix a.ports b).bind fun c => (ix a.n_.Ports b).bind fun d => (C5 (Rv.B4 a) El ([], c.2, d.2.Node)).bind fun e => Rv.J1 a b c e
def Rf.J1 (a : List Path) : Option ((List Path) × Int) := some (a, 0)
def Rf.J3 (a : (List ByteArray) × (List Segment) × (List Port) × (List Station) × Int × Int × Li × Li × (List Path)) : Option (((List ByteArray) × (List Segment) × (List Port) × (List Station) × Int × Int × Li × Li × (List Path)) ⊕ (((List Path) × Int))) := some (.inl (a.1, a.2.1, a.2.2.1, a.2.2.2.1, a.2.2.2.2.1, a.2.2.2.2.2.1, a.2.2.2.2.2.2.1, a.2.2.2.2.2.2.2.1, a.2.2.2.2.2.2.2.2))
def Rf.B4 (c : Nat) (a : (List ByteArray) × (List Segment) × (List Port) × (List Station) × Int × Int × Li × Li × (List Path)) : Option (((List ByteArray) × (List Segment) × (List Port) × (List Station) × Int × Int × Li × Li × (List Path)) ⊕ (((List Path) × Int) ⊕ ((List ByteArray) × (List Segment) × (List Port) × (List Station) × Int × Int × Li × Li × (List Path)))) := (ix a.2.2.2.2.2.2.2.1 (c : Int)).bind fun d => if decide (d.2 > 0) = true then (Rv (⟨(⟨a.1, a.2.1, a.2.2.1, a.2.2.2.1, a.2.2.2.2.1, a.2.2.2.2.2.1⟩ : Network), a.2.2.2.2.2.2.1, a.2.2.2.2.2.2.2.1⟩ : paths_divider) (c : Int)).bind fun b => if (((a.2.2.2.2.2.2.2.2.length : Int) == 64) || decide ((b.1.Hops.length : Int) > 32)) = true then some ((.inr (.inl (([], 23))))) else (Dg a.2.2.2.2.2.2.2.2 ([b.1] : List Path)).bind fun e => some (.inl (b.2.n_.Nodes, b.2.n_.Segments, b.2.n_.Ports, b.2.n_.Stations, b.2.n_.Vapour, b.2.n_.Settle, b.2.rates, b.2.ports, e)) else some ((.inr (.inr ((a.1, a.2.1, a.2.2.1, a.2.2.2.1, a.2.2.2.2.1, a.2.2.2.2.2.1, a.2.2.2.2.2.2.1, a.2.2.2.2.2.2.2.1, a.2.2.2.2.2.2.2.2)))))
def Rf.B2 (b : Nat) (a : (List ByteArray) × (List Segment) × (List Port) × (List Station) × Int × Int × Li × Li × (List Path)) : Option (((List ByteArray) × (List Segment) × (List Port) × (List Station) × Int × Int × Li × Li × (List Path)) ⊕ (((List Path) × Int))) := (C5 (Rf.B4 b) El (a.1, a.2.1, a.2.2.1, a.2.2.2.1, a.2.2.2.2.1, a.2.2.2.2.2.1, a.2.2.2.2.2.2.1, a.2.2.2.2.2.2.2.1, a.2.2.2.2.2.2.2.2)).bind fun c => Sum.elim (fun d => some ((.inr (d)))) (fun e => Rf.J3 e) c
def Rf (a : Network) (b : Plan) : Option ((List Path) × Int) := (Ee a).bind fun c => if (c != 0) = true then some ([], c) else (Hg a b).bind fun d => if (d != 0) = true then some ([], d) else (Ks b.Rates).bind fun f => (Ks b.Ports).bind fun e => (forI Rf.B2 0 e.length (a.Nodes, a.Segments, a.Ports, a.Stations, a.Vapour, a.Settle, f, e, [])).bind fun g => Sum.elim (fun h => Rf.J1 h.2.2.2.2.2.2.2.2) (fun i => some i) g
def M3.J1 (a : Unit) : Option Int := some (-1)
def M3.B2 (a : Hop → Option Bool) (b : Nat) (c : Hop) (e : Unit) : Option (Unit ⊕ (Int)) := (a c).bind fun d => if d = true then some ((.inr ((b : Int)))) else some (.inl ())
def M3 (a : List Hop) (b : Hop → Option Bool) : Option Int := (forL (M3.B2 b) 0 a ()).bind fun c => Sum.elim (fun e => M3.J1 ()) (fun d => some d) c
def Nk (a : List Hop) (b : Hop → Option Bool) : Option Bool := (M3 a b).bind fun c => some (decide (c ≥ 0))
def B8 (a : Int) (b : Int) (c : Int) : Bool := (decide (a ≥ b) && decide (a ≤ c))
def Ni.J3 (a : Network) (b : List ByteArray) (c : List ByteArray) (d : List ByteArray) : Option (Arr (List ByteArray) 4) := some (⟨[a.Nodes, b, c, d], rfl⟩ : Arr (List ByteArray) 4)
def Ni.B4 (d : Nat) (a : Station) (b : List ByteArray) : Option (List ByteArray) := (Dg b ([a.Name] : List ByteArray)).bind fun c => some c
def Ni.J2 (a : Network) (b : List ByteArray) (c : List ByteArray) : Option (Arr (List ByteArray) 4) := (forS Ni.B4 0 a.Stations []).bind fun d => Ni.J3 a b c d
def Ni.B5 (d : Nat) (a : Port) (b : List ByteArray) : Option (List ByteArray) := (Dg b ([a.Name] : List ByteArray)).bind fun c => some c
def Ni.J1 (a : Network) (b : List ByteArray) : Option (Arr (List ByteArray) 4) := (forS Ni.B5 0 a.Ports []).bind fun c => Ni.J2 a b c
def Ni.B6 (d : Nat) (a : Segment) (b : List ByteArray) : Option (List ByteArray) := (Dg b ([a.Name] : List ByteArray)).bind fun c => some c
def Ni (a : Network) : Option (Arr (List ByteArray) 4) := (forS Ni.B6 0 a.Segments []).bind fun b => Ni.J1 a b
def Nh.J2 (a : Unit) : Option Bool := some true
def Nh.J4 (a : Int) (b : Bool) : Option (Int ⊕ (Bool ⊕ Unit)) := if b = true then some ((.inr (.inl (false)))) else some (.inl (wr (a + 1)))
def Nh.B3 (c : ByteArray) (b : Int) : Option (Int ⊕ (Bool ⊕ Unit)) := if decide (b < (c.size : Int)) = true then (fK c b).bind fun a => if decide (a.2 < 97) = true then if decide (a.2 < 48) = true then Nh.J4 b (a.2 != 45) else if decide (a.2 > 57) = true then Nh.J4 b (a.2 != 45) else Nh.J4 b false else if decide (a.2 > 122) = true then if decide (a.2 < 48) = true then Nh.J4 b (a.2 != 45) else if decide (a.2 > 57) = true then Nh.J4 b (a.2 != 45) else Nh.J4 b false else Nh.J4 b false else some ((.inr (.inr (()))))
def Nh.J1 (a : ByteArray) (b : Bool) : Option Bool := if b = true then some false else (C5 (Nh.B3 a) El 0).bind fun c => Sum.elim (fun d => some d) (fun e => Nh.J2 e) c
def Nh (a : ByteArray) : Option Bool := if decide ((a.size : Int) < 1) = true then Nh.J1 a true else if decide ((a.size : Int) > 12) = true then Nh.J1 a true else (fK a 0).bind fun b => if decide (b.2 < 97) = true then Nh.J1 a true else Nh.J1 a (decide (b.2 > 122))
def Nt.J1 (a : Unit) : Option Bool := some false
def Nt.J3 (a : Unit) : Option (Unit ⊕ (Bool)) := some (.inl ())
def Nt.B4 (b : List ByteArray) (c : Nat) (d : ByteArray) (a : Int) : Option (Int ⊕ (Bool ⊕ Unit)) := if decide (a < (c : Int)) = true then (ix b a).bind fun e => if Si d e.2 = true then some ((.inr (.inl (true)))) else some (.inl (wr (a + 1))) else some ((.inr (.inr (()))))
def Nt.B2 (a : List ByteArray) (b : Nat) (c : ByteArray) (g : Unit) : Option (Unit ⊕ (Bool)) := (C5 (Nt.B4 a b c) El 0).bind fun d => Sum.elim (fun e => some ((.inr (e)))) (fun f => Nt.J3 f) d
def Nt (a : List ByteArray) : Option Bool := (forL (Nt.B2 a) 0 a ()).bind fun b => Sum.elim (fun d => Nt.J1 ()) (fun c => some c) b
def Ng.J2 (a : Unit) : Option Bool := some true
def Ng.J4 (a : Bool) : Option (Unit ⊕ (Bool)) := if a = true then some ((.inr (false))) else some (.inl ())
def Ng.B3 (c : Segment) (b : Nat) (a : Point) (e : Unit) : Option (Unit ⊕ (Bool)) := if decide ((b : Int) > 0) = true then (ix c.Points (wr ((b : Int) - 1))).bind fun d => if decide (a.At ≤ d.2.At) = true then Ng.J4 true else if (!(B8 a.Height (-500) 5000)) = true then Ng.J4 true else Ng.J4 (!(B8 a.Limit 0 100000000)) else if (!(B8 a.Height (-500) 5000)) = true then Ng.J4 true else Ng.J4 (!(B8 a.Limit 0 100000000))
def Ng.J1 (a : Segment) (b : Bool) : Option Bool := if b = true then some false else (forL (Ng.B3 a) 0 a.Points ()).bind fun c => Sum.elim (fun e => Ng.J2 ()) (fun d => some d) c
def Ng (a : Segment) : Option Bool := if (a.From == a.To) = true then Ng.J1 a true else if (!(B8 a.Capacity 1 1000000)) = true then Ng.J1 a true else if (!(B8 a.Resist 0 1000)) = true then Ng.J1 a true else if (!(B8 a.Wave 0 100000)) = true then Ng.J1 a true else (ix a.Points 0).bind fun b => if (b.2.At != 0) = true then Ng.J1 a true else (ix a.Points (wr ((a.Points.length : Int) - 1))).bind fun c => Ng.J1 a (c.2.At != a.Capacity)
def F9.J10 (a : Network) (b : Unit) : Option Int := if ((!(B8 a.Vapour (-100000) 100000000)) || (!(B8 a.Settle 0 100))) = true then some 9 else some 0
def F9.B11 (b : Nat) (a : Station) (c : Unit) : Option (Unit ⊕ (Int)) := if ((!(B8 a.Head 0 100000000)) || ((!(B8 a.Fall 0 100000)) || (!(B8 a.Suction 0 100000000)))) = true then some ((.inr (9))) else some (.inl ())
def F9.J9 (a : Network) (d : Unit) : Option Int := (forL F9.B11 0 a.Stations ()).bind fun b => Sum.elim (fun e => F9.J10 a ()) (fun c => some c) b
def F9.B12 (b : Nat) (a : Port) (c : Unit) : Option (Unit ⊕ (Int)) := if (!(B8 a.Pressure 0 100000000)) = true then some ((.inr (9))) else some (.inl ())
def F9.J8 (a : Network) (d : Unit) : Option Int := (forL F9.B12 0 a.Ports ()).bind fun b => Sum.elim (fun e => F9.J9 a ()) (fun c => some c) b
def F9.B13 (c : Nat) (a : Segment) (d : Unit) : Option (Unit ⊕ (Int)) := (Ng a).bind fun b => if (!b) = true then some ((.inr (9))) else some (.inl ())
def F9.J7 (a : Network) (d : Unit) : Option Int := (forL F9.B13 0 a.Segments ()).bind fun b => Sum.elim (fun e => F9.J8 a ()) (fun c => some c) b
def F9.B14 (a : Network) (c : Nat) (b : Station) (d : Unit) : Option (Unit ⊕ (Int)) := if (!(B8 b.Node 0 (wr ((a.Nodes.length : Int) - 1)))) = true then some ((.inr (8))) else some (.inl ())
def F9.J6 (a : Network) (d : Unit) : Option Int := (forL (F9.B14 a) 0 a.Stations ()).bind fun b => Sum.elim (fun e => F9.J7 a ()) (fun c => some c) b
def F9.B15 (a : Network) (c : Nat) (b : Port) (d : Unit) : Option (Unit ⊕ (Int)) := if (!(B8 b.Node 0 (wr ((a.Nodes.length : Int) - 1)))) = true then some ((.inr (8))) else some (.inl ())
def F9.J5 (a : Network) (d : Unit) : Option Int := (forL (F9.B15 a) 0 a.Ports ()).bind fun b => Sum.elim (fun e => F9.J6 a ()) (fun c => some c) b
def F9.B16 (a : Network) (c : Nat) (b : Segment) (d : Unit) : Option (Unit ⊕ (Int)) := if ((!(B8 b.From 0 (wr ((a.Nodes.length : Int) - 1)))) || (!(B8 b.To 0 (wr ((a.Nodes.length : Int) - 1))))) = true then some ((.inr (8))) else some (.inl ())
def F9.J4 (a : Network) (d : Unit) : Option Int := (forL (F9.B16 a) 0 a.Segments ()).bind fun b => Sum.elim (fun e => F9.J5 a ()) (fun c => some c) b
def F9.J18 (a : Unit) : Option (Unit ⊕ (Int)) := some (.inl ())
def F9.B19 (b : Network) (c : Nat) (d : Station) (a : Int) : Option (Int ⊕ (Int ⊕ Unit)) := if decide (a < (c : Int)) = true then (ix b.Stations a).bind fun e => if (d.Node == e.2.Node) = true then some ((.inr (.inl (7)))) else some (.inl (wr (a + 1))) else some ((.inr (.inr (()))))
def F9.B17 (a : Network) (b : Nat) (c : Station) (g : Unit) : Option (Unit ⊕ (Int)) := (C5 (F9.B19 a b c) El 0).bind fun d => Sum.elim (fun e => some ((.inr (e)))) (fun f => F9.J18 f) d
def F9.J3 (a : Network) (d : Unit) : Option Int := (forL (F9.B17 a) 0 a.Stations ()).bind fun b => Sum.elim (fun e => F9.J4 a ()) (fun c => some c) b
def F9.B20 (a : Arr (List ByteArray) 4) (b : Nat) (e : Unit) : Option (Unit ⊕ (Int)) := (ix a.l (b : Int)).bind fun c => (Nt c.2).bind fun d => if d = true then some ((.inr (7))) else some (.inl ())
def F9.J2 (a : Network) (b : Arr (List ByteArray) 4) (e : Unit) : Option Int := (forI (F9.B20 b) 0 4 ()).bind fun c => Sum.elim (fun f => F9.J3 a ()) (fun d => some d) c
def F9.J22 (a : Unit) : Option (Unit ⊕ (Int)) := some (.inl ())
def F9.B23 (c : Nat) (a : ByteArray) (d : Unit) : Option (Unit ⊕ (Int)) := (Nh a).bind fun b => if (!b) = true then some ((.inr (3))) else some (.inl ())
def F9.B21 (a : Arr (List ByteArray) 4) (b : Nat) (f : Unit) : Option (Unit ⊕ (Int)) := (ix a.l (b : Int)).bind fun c => (forL F9.B23 0 c.2 ()).bind fun d => Sum.elim (fun g => F9.J22 ()) (fun e => some ((.inr (e)))) d
def F9.J1 (a : Network) (e : Unit) : Option Int := (Ni a).bind fun b => (forI (F9.B21 b) 0 4 ()).bind fun c => Sum.elim (fun f => F9.J2 a b ()) (fun d => some d) c
def F9.B24 (b : Nat) (a : Segment) (c : Unit) : Option (Unit ⊕ (Int)) := if (!(B8 (a.Points.length : Int) 2 8)) = true then some ((.inr (4))) else some (.inl ())
def F9 (a : Network) : Option Int := if ((!(B8 (a.Nodes.length : Int) 1 24)) || (decide ((a.Segments.length : Int) > 32) || (decide ((a.Ports.length : Int) > 24) || decide ((a.Stations.length : Int) > 12)))) = true then some 4 else (forL F9.B24 0 a.Segments ()).bind fun b => Sum.elim (fun d => F9.J1 a ()) (fun c => some c) b
def Hj (a : Segment) (b : Int) : (Int × Int) := if decide (b < 0) = true then (a.To, a.From) else (a.From, a.To)
def Hi.J2 (a : Int × Int) : Option (Int × Int) := some (a.1, a.2)
def Hi.J4 (a : Int × Int) : Option (Int × Int) := some (a.1, a.2)
def Hi.B3 (c : Plan) (d : Int) (e : Nat) (f : Port) (a : Int × Int) : Option (Int × Int) := if (f.Node == d) = true then (ix c.Ports (e : Int)).bind fun b => Hi.J4 (wr (a.1 + (max 0 b.2)), wr (a.2 + (max 0 (wr (0 - b.2))))) else Hi.J4 (a.1, a.2)
def Hi.J1 (c : Network) (d : Plan) (e : Int) (a : Int × Int) : Option (Int × Int) := (forS (Hi.B3 d e) 0 c.Ports (a.1, a.2)).bind fun b => Hi.J2 (b.1, b.2)
def Hi.J6 (a : Int × Int) : Option (Int × Int) := some (a.1, a.2)
def Hi.J7 (d : Int) (e : Segment) (a : Int × Int) (b : Nat × Int) (c : Int) : Option (Int × Int) := if (((Hj e b.2).2) == d) = true then Hi.J6 (wr (a.1 + (He b.2)), c) else Hi.J6 (a.1, c)
def Hi.B5 (e : Plan) (c : Int) (f : Nat) (d : Segment) (a : Int × Int) : Option (Int × Int) := (ix e.Rates (f : Int)).bind fun b => if (b.2 == 0) = true then Hi.J6 (a.1, a.2) else if (((Hj d b.2).1) == c) = true then Hi.J7 c d a b (wr (a.2 + (He b.2))) else Hi.J7 c d a b a.2
def Hi (a : Network) (b : Plan) (c : Int) : Option (Int × Int) := (forS (Hi.B5 b c) 0 a.Segments (0, 0)).bind fun d => Hi.J1 a b c (d.1, d.2)
def La.J2 (a : Li × (List Bool)) (b : Int) : Option ((Li × (List Bool)) ⊕ (Li)) := if decide (b < 0) = true then some ((.inr (a.1))) else (Dg a.1 ([b] : Li)).bind fun c => (ix a.2 b).bind fun d => some (.inl (c, (a.2.set d.1 true)))
def La.J4 (a : Int) : Option Int := some a
def La.J5 (b : Nat) (a : Int) (c : Bool) : Option Int := if (c && decide (a < 0)) = true then La.J4 (b : Int) else La.J4 a
def La.J7 (a : Bool) : Option Bool := some a
def La.B6 (d : Plan) (e : Li × (List Bool)) (f : Nat) (g : Nat) (b : Segment) (c : Bool) : Option Bool := (ix d.Rates (g : Int)).bind fun a => if (a.2 != 0) = true then if c = true then if (((Hj b a.2).2) != (f : Int)) = true then La.J7 true else (ix e.2 ((Hj b a.2).1)).bind fun h => La.J7 h.2 else La.J7 false else La.J7 c
def La.B3 (c : Network) (d : Plan) (b : Li × (List Bool)) (a : Nat) (h : ByteArray) (e : Int) : Option Int := (ix b.2 (a : Int)).bind fun f => (forS (La.B6 d b a) 0 c.Segments (!f.2)).bind fun g => La.J5 a e g
def La.B1 (a : Network) (c : Plan) (b : Li × (List Bool)) : Option ((Li × (List Bool)) ⊕ (Li)) := (forS (La.B3 a c b) 0 a.Nodes (-1)).bind fun d => La.J2 b d
def La (a : Network) (b : Plan) : Option Li := (Wl (a.Nodes.length : Int) false).bind fun c => (C5 (La.B1 a b) El ([], c)).bind fun d => some d
def Kt.J3 (a : Network) (b : Plan) (d : Unit) : Option Int := (La a b).bind fun c => if ((c.length : Int) != (a.Nodes.length : Int)) = true then some 13 else some 0
def Kt.B4 (b : Network) (c : Plan) (d : Nat) (e : ByteArray) (f : Unit) : Option (Unit ⊕ (Int)) := (Hi b c (d : Int)).bind fun a => if (a.1 != a.2) = true then some ((.inr (12))) else some (.inl ())
def Kt.J2 (a : Network) (b : Plan) (e : Unit) : Option Int := (forL (Kt.B4 a b) 0 a.Nodes ()).bind fun c => Sum.elim (fun f => Kt.J3 a b ()) (fun d => some d) c
def Kt.B5 (b : Nat) (a : Int) (c : Unit) : Option (Unit ⊕ (Int)) := if (decide (a < (-1000)) || decide (a > 1000)) = true then some ((.inr (1))) else some (.inl ())
def Kt.J1 (b : Network) (a : Plan) (e : Unit) : Option Int := (forL Kt.B5 0 a.Ports ()).bind fun c => Sum.elim (fun f => Kt.J2 b a ()) (fun d => some d) c
def Kt.B6 (c : Network) (d : Nat) (a : Int) (e : Unit) : Option (Unit ⊕ (Int)) := (ix c.Segments (d : Int)).bind fun b => if (decide (a < (wr (0 - (min 1000 b.2.Capacity)))) || decide (a > (min 1000 b.2.Capacity))) = true then some ((.inr (1))) else some (.inl ())
def Kt (a : Network) (b : Plan) : Option Int := (F9 a).bind fun c => if (c != 0) = true then some c else if (((b.Rates.length : Int) != (a.Segments.length : Int)) || (((b.Ports.length : Int) != (a.Ports.length : Int)) || ((b.Pumps.length : Int) != (a.Stations.length : Int)))) = true then some 9 else (forL (Kt.B6 a) 0 b.Rates ()).bind fun d => Sum.elim (fun f => Kt.J1 a b ()) (fun e => some e) d
def Ky.J1 (a : Unit) : Option Int := some (-1)
def Ky.B2 (a : Path → Option Bool) (b : Nat) (c : Path) (e : Unit) : Option (Unit ⊕ (Int)) := (a c).bind fun d => if d = true then some ((.inr ((b : Int)))) else some (.inl ())
def Ky (a : List Path) (b : Path → Option Bool) : Option Int := (forL (Ky.B2 b) 0 a ()).bind fun c => Sum.elim (fun e => Ky.J1 ()) (fun d => some d) c
def M1 (a : List Path) (b : Path → Option Bool) : Option Bool := (Ky a b).bind fun c => some (decide (c ≥ 0))
def Fo (a : Li) (b : Int) : Option Bool := (M9 a b).bind fun c => some (decide (c ≥ 0))
def Gs (a : Int) (b : Network) : Bool := (decide (a ≥ 0) && decide (a < (b.Ports.length : Int)))
def Uq (c : Network) (b : Hop) : Option (Int × Int) := (ix c.Segments b.Segment).bind fun a => if b.Back = true then some (a.2.To, a.2.From) else some (a.2.From, a.2.To)
def K0.J1 (a : Network) (b : Path) (c : Int) : Option Bool := (ix a.Ports b.Out).bind fun d => some (c == d.2.Node)
def K0.J3 (b : Int × Li) (a : Int × Int) (c : Bool) : Option ((Int × Li) ⊕ (Bool)) := if c = true then some ((.inr (false))) else (Dg b.2 ([a.2] : Li)).bind fun d => some (.inl (a.2, d))
def K0.B2 (d : Network) (f : Nat) (c : Hop) (a : Int × Li) : Option ((Int × Li) ⊕ (Bool)) := if (decide (c.Segment < 0) || decide (c.Segment ≥ (d.Segments.length : Int))) = true then some ((.inr (false))) else (Uq d c).bind fun b => if (b.1 != a.1) = true then K0.J3 a b true else (Fo a.2 b.2).bind fun e => K0.J3 a b e
def K0 (b : Network) (a : Path) : Option Bool := if ((!(Gs a.In b)) || ((!(Gs a.Out b)) || ((a.In == a.Out) || (decide (a.Rate < 1) || (decide (a.Rate > 1000) || decide ((a.Hops.length : Int) > 32)))))) = true then some false else (ix b.Ports a.In).bind fun c => (forL (K0.B2 b) 0 a.Hops (c.2.Node, ([c.2.Node] : Li))).bind fun d => Sum.elim (fun e => K0.J1 b a e.1) (fun f => some f) d
def Kp.J1 (a : Unit) : Option Bool := some false
def Kp.J3 (a : List (Int × Bool)) : Option ((List (Int × Bool)) ⊕ (Bool)) := some (.inl a)
def Kp.B4 (c : Nat) (a : Hop) (b : List (Int × Bool)) : Option ((List (Int × Bool)) ⊕ (Bool)) := if ((Df b a.Segment).isSome && (((Df b a.Segment).getD false) != a.Back)) = true then some ((.inr (true))) else some (.inl (Il b a.Segment a.Back))
def Kp.B2 (f : Nat) (a : Path) (b : List (Int × Bool)) : Option ((List (Int × Bool)) ⊕ (Bool)) := (forL Kp.B4 0 a.Hops b).bind fun c => Sum.elim (fun d => Kp.J3 d) (fun e => some ((.inr (e)))) c
def Kp (a : List Path) : Option Bool := (forL Kp.B2 0 a ([] : List (Int × Bool))).bind fun b => Sum.elim (fun d => Kp.J1 ()) (fun c => some c) b
def Nd (a : List Bool) : Option (List Bool) := Dg [] a
def Rh.B1 (d : Int) (e : Nat) (a : Hop) (b : Li) : Option Li := (ix b a.Segment).bind fun c => some (b.set c.1 (wr (c.2 + (Is a d))))
def Rh (a : Plan) (d : Path) (b : Int) : Option Plan := (ix a.Ports d.In).bind fun c => (ix (a.Ports.set c.1 (wr (c.2 + b))) d.Out).bind fun e => (forS (Rh.B1 b) 0 d.Hops a.Rates).bind fun f => some (⟨f, ((a.Ports.set c.1 (wr (c.2 + b))).set e.1 (wr (e.2 - b))), a.Pumps⟩ : Plan)
def M2 (a : Path) (b : Network) : Option Bool := (K0 b a).bind fun c => some (!c)
def Rk.J3 (c : Network) (a : Li × Li × (List Bool)) : Option (Plan × Int) := (Hg c (⟨a.1, a.2.1, a.2.2⟩ : Plan)).bind fun b => if (b != 0) = true then some ((⟨[], [], []⟩ : Plan), b) else some ((⟨a.1, a.2.1, a.2.2⟩ : Plan), 0)
def Rk.B4 (d : Nat) (c : Path) (a : Li × Li × (List Bool)) : Option (Li × Li × (List Bool)) := (Rh (⟨a.1, a.2.1, a.2.2⟩ : Plan) c c.Rate).bind fun b => some (b.Rates, b.Ports, b.Pumps)
def Rk.J2 (c : Network) (d : List Path) (a : Li × Li × (List Bool)) : Option (Plan × Int) := (forS Rk.B4 0 d (a.1, a.2.1, a.2.2)).bind fun b => Rk.J3 c (b.1, b.2.1, b.2.2)
def Rk.J1 (a : Network) (c : List Path) (b : List Bool) (d : Bool) : Option (Plan × Int) := if d = true then some ((⟨[], [], []⟩ : Plan), 23) else if ((b.length : Int) != (a.Stations.length : Int)) = true then some ((⟨[], [], []⟩ : Plan), 9) else (Wl (a.Segments.length : Int) (0 : Int)).bind fun e => (Wl (a.Ports.length : Int) (0 : Int)).bind fun f => (Nd b).bind fun g => Rk.J2 a c (e, f, g)
def Rk (b : Network) (a : List Path) (c : List Bool) : Option (Plan × Int) := (Ee b).bind fun d => if (d != 0) = true then some ((⟨[], [], []⟩ : Plan), d) else if decide ((a.length : Int) > 64) = true then Rk.J1 b a c true else (M1 a (fun x => M2 x b)).bind fun e => if e = true then Rk.J1 b a c true else (Kp a).bind fun f => Rk.J1 b a c f
def Kx.J1 (a : Unit) : Option Bool := some true
def Kx.B2 (b : Li) (c : Li) (a : Int) : Option (Int ⊕ (Bool ⊕ Unit)) := if decide (a < (b.length : Int)) = true then (ix b a).bind fun d => (ix c a).bind fun e => if (d.2 != e.2) = true then some ((.inr (.inl (false)))) else some (.inl (wr (a + 1))) else some ((.inr (.inr (()))))
def Kx (a : Li) (b : Li) : Option Bool := if ((a.length : Int) != (b.length : Int)) = true then some false else (C5 (Kx.B2 a b) El 0).bind fun c => Sum.elim (fun d => some d) (fun e => Kx.J1 e) c
def Mx.J1 (a : Unit) : Option Bool := some true
def Mx.B2 (b : List Bool) (c : List Bool) (a : Int) : Option (Int ⊕ (Bool ⊕ Unit)) := if decide (a < (b.length : Int)) = true then (ix b a).bind fun d => (ix c a).bind fun e => if (d.2 != e.2) = true then some ((.inr (.inl (false)))) else some (.inl (wr (a + 1))) else some ((.inr (.inr (()))))
def Mx (a : List Bool) (b : List Bool) : Option Bool := if ((a.length : Int) != (b.length : Int)) = true then some false else (C5 (Mx.B2 a b) El 0).bind fun c => Sum.elim (fun d => some d) (fun e => Mx.J1 e) c
def M0.J1 (a : Bool) : Option Bool := some a
def M0 (a : Plan) (b : Plan) : Option Bool := (Kx a.Rates b.Rates).bind fun c => if c = true then (Kx a.Ports b.Ports).bind fun d => if d = true then (Mx a.Pumps b.Pumps).bind fun e => M0.J1 e else M0.J1 false else M0.J1 false
end Go.Proofs.YtihdchjpepkpbaaGreat
namespace Go.Aw
set_option linter.unusedVariables false
set_option linter.unusedSimpArgs false
open Go.Sort
theorem ArrR.held {H : GH} {w : World} {b ty cap : Nat} {a : Li} (h : ArrR H w b ty 1 cap (a.map rI)) :
  ∃ cs, w.heap[b]? = some (.cells cs ty (0, 0)) ∧ cs.size = cap * 1 ∧ a.length ≤ cap ∧ a.length ≤ G6 ∧ Holds (Value.int .i64) w b 0 a.toArray := by
 obtain ⟨cs, c, f, d, e, i, g⟩ := h
 rw [List.length_map] at d e
 refine ⟨cs, c, f, d, e, fun j hj => ⟨?_, by simp [World.frozen?, c]⟩⟩
 have hj' : j < a.length := by simpa using hj
 have := (g j (rI a[j]) (by rw [List.getElem?_map, gq hj']; rfl) 0 (.V a[j]) rfl).2.v_eq
 rw [Nat.mul_one, Nat.add_zero] at this
 have hcs : j < cs.size := by omega
 simp only [World.cell?, c, Nat.zero_add]
 rw [Array.getD_eq_getD_getElem?, Array.getElem?_eq_getElem hcs] at this
 simp at this ⊢
 rw [Array.getElem?_eq_getElem hcs, this]; simp [hj']
section
variable {E : Env}
def aK (l : Li) : Li := l.mergeSort fun x y => decide (x ≤ y)
def fV (x : Int) : Li → Li
 | [] => [x]
 | y :: l => if x ≤ y then x :: y :: l else y :: fV x l
def isort : Li → Li
 | [] => []
 | x :: l => fV x (isort l)
theorem N2 (x : Int) : ∀ l : Li, (fV x l).Perm (x :: l)
 | [] => .refl _
 | y :: l => by
  simp only [fV]
  split
  ·exact .refl _
  ·exact ((N2 x l).cons y).trans (.swap x y l)
theorem Fu : ∀ l : Li, (isort l).Perm l
 | [] => .refl _
 | x :: l => (N2 x (isort l)).trans ((Fu l).cons x)
theorem aP (x : Int) : ∀ l : Li, l.Pairwise (· ≤ ·) → (fV x l).Pairwise (· ≤ ·)
 | [], _ => by simp [fV]
 | y :: l, h => by
  simp only [fV]
  rw [List.pairwise_cons] at h
  split
  ·rename_i hxy
   refine List.pairwise_cons.2 ⟨fun z hz => ?_, List.pairwise_cons.2 h⟩
   rcases List.mem_cons.1 hz with rfl | hz
   ·exact hxy
   ·have := h.1 z hz; omega
  ·refine List.pairwise_cons.2 ⟨fun z hz => ?_, aP x l h.2⟩
   rcases List.mem_cons.1 ((N2 x l).mem_iff.1 hz) with rfl | hz
   ·omega
   ·exact h.1 z hz
theorem Td : ∀ l : Li, (isort l).Pairwise (· ≤ ·)
 | [] => .nil
 | x :: l => aP x _ (Td l)
theorem Wu (l : Li) : (aK l).Pairwise (· ≤ ·) := by
 have := List.pairwise_mergeSort (le := fun x y : Int => decide (x ≤ y)) (by intro a b c; simp; omega) (by intro a b; simp; omega) l
 exact this.imp (by intro a b h; simpa using h)
theorem sorted_eq (l : Li) : aK l = isort l :=
 List.Perm.eq_of_pairwise (fun a b _ _ c d => by omega) (Wu l) (Td l) ((List.mergeSort_perm l _).trans (Fu l).symm)
end
theorem mEnts_len {α : Type} (f : α → Value) : ∀ (l : List (Int × α)) (n : Nat), (mEnts f l n).length = l.length
 | [], n => rfl
 | (k, x) :: l, n => by simp [mEnts, mEnts_len f l]
section
variable {E : Env} {n : Nat} {s : Ak} {ob : List Ob} {dst : Option Tmp} {ty : TypeId} {pos : String} {aft : Array Edge} {g : Option (Nat × Bool)}
theorem Xo {α : Type} (q : Nat) {f : α → Value} {t : TypeId} {x : Operand} {b : Nat} {l : List (Int × α)} {ti : TI} {kt et : Nat}
  (ht : E.tab t = some ti) (hk : ti.kind = .map kt et) (hx : Aq s x = some (.v (.map (some b)))) (ho : ob[q]? = some (.raw b (mapOb f l))) :
  Yd E.P n s ob ⟨dst, .call { callee := .builtin .len, args := #[x], argTypes := #[t] }, ty, pos, aft, g⟩ (.V (l.length : Int)) := by
 intro H a w sr wr
 have hh : w.heap[b]? = some (mapOb f l) := wr.objs _ (mg ho)
 refine ⟨_, .v _, fun w' ag => ?_⟩
 have hh' : w'.heap[b]? = some (mapOb f l) := (ag.2 _ (mg ho) b (by simp [Ob.fp])).trans hh
 simp [execOp, resolve, invoke, builtin, Builtin.len_, sr.evalv hx, run_underlying (L9 (E.ok _ _ ht) hk), V4 hh', goInt, mEnts_len]
end
theorem Z8 {H : GH} {vs : Array Value} {x : Value} (hsz : vs.size = [T.v x].length) (hv : ∀ (i : Nat) (y : T), [T.v x][i]? = some y → VR H (vs.getD i undef) y) : vs = #[x] := by
 have := (hv 0 _ rfl).v_eq
 obtain ⟨l⟩ := vs
 match l, hsz, this with
 | [y], _, this => simp [Array.getD] at this; subst this; rfl
section
variable {E : Env} {f : FuncId} (hfn : ∃ fn, E.P.funcs[f]? = some fn ∧ (fn.name == "runtime.NumGoroutine") = false ∧ fn.body.isNone = false)
include hfn
theorem L7 (hc : ∀ (b : Nat) (es : Array MapEntry) (clock : Nat) (w : World), w.heap[b]? = some (.map es clock) → Calls E.P f #[.map (some b)] w fun e w' => e = .returned (.map (some w.heap.size)) ∧ w' = w.alloc (.map es clock))
  {α : Type} {g : α → Value} {a : Nat} {c : List (Int × α)} : ACalls E f [.v (.map (some a))] [.raw a (mapOb g c)] (En 1 fun x os new => ∃ d : Nat, x = .v (.map (some d)) ∧ os = [.raw a (mapOb g c)] ∧ new = [.raw d (mapOb g c)]) := by
 refine ⟨hfn, fun H w vs hsz hv hheld hfp hnd => ?_⟩
 have hor : w.heap[a]? = some (mapOb g c) := (hfp _ (List.mem_singleton.2 rfl)).1
 have hfree := (hfp _ (List.mem_singleton.2 rfl)).2
 have hbl : a < w.heap.size := (Array.getElem?_eq_some_iff.1 hor).1
 obtain rfl := Z8 hsz hv
 refine (hc a _ _ w hor).mono ?_
 rintro e w' ⟨rfl, rfl⟩
 have hnone : H w.heap.size = none := by
  cases h : H w.heap.size with
  | none => rfl
  | some o => have := (Array.getElem?_eq_some_iff.1 (hheld.1 _ o h)).1; omega
 refine ⟨_, .v (.map (some w.heap.size)), [.raw a (mapOb g c), .raw w.heap.size (mapOb g c)], H, rfl, ⟨[_], [_], rfl, rfl, _, rfl, rfl, rfl⟩, .v _, fun _ _ h => h, fun b' o ho => ?_, fun p hp => ?_, ?_, ?_, ⟨rfl, rfl, rfl⟩, fun b' hb'' _ => ⟨heap_alloc_old w _ hb'', rfl⟩⟩
 ·have i := hheld.1 b' o ho
  rw [heap_alloc_old w _ (Array.getElem?_eq_some_iff.1 i).1]; exact i
 ·simp only [List.mem_cons, List.not_mem_nil, or_false] at hp
  rcases hp with rfl | rfl
  ·exact ⟨(heap_alloc_old w _ hbl).trans hor, fun b' hb'' => ⟨hfree b' hb'', .inr (by simpa [Ob.fp] using hb'')⟩⟩
  ·refine ⟨heap_alloc_new w _, fun b' hb'' => ?_⟩
   simp only [Ob.fp, List.mem_singleton] at hb''
   subst hb''
   exact ⟨hnone, .inl (Nat.le_refl _)⟩
 ·simp [Ob.fp]; omega
 ·show w.heap.size ≤ (w.heap.push _).size; simp
theorem Pa {k mt : Nat} (hc : ∀ (mb : Option Nat) (w : World), Calls E.P f #[.map mb] w fun e w' => e = .returned (.func (.func k) #[] #[.pointer (some ⟨w.heap.size, 0, none⟩)]) ∧ w' = w.alloc (.cells #[.map mb] mt))
  {a : Nat} : ACalls E f [.v (.map (some a))] [] (fun x new => ∃ b : Nat, x = .v (.func (.func k) #[] #[.pointer (some ⟨b, 0, none⟩)]) ∧ new = [.arr b mt 1 1 [[.v (.map (some a))]]]) := by
 refine ⟨hfn, fun H w vs hsz hv hheld hfp hnd => ?_⟩
 obtain rfl := Z8 hsz hv
 refine (hc (some a) w).mono ?_
 rintro e w' ⟨rfl, rfl⟩
 have hnone : H w.heap.size = none := by
  cases h : H w.heap.size with
  | none => rfl
  | some o => have := (Array.getElem?_eq_some_iff.1 (hheld.1 _ o h)).1; omega
 refine ⟨_, _, [.arr w.heap.size mt 1 1 [[.v (.map (some a))]]], H, rfl, ⟨_, rfl, rfl⟩, .v _, fun _ _ h => h, fun b' o ho => ?_, fun p hp => ?_, by simp [Ob.fp], ?_, ⟨rfl, rfl, rfl⟩, fun b' hb'' _ => ⟨heap_alloc_old w _ hb'', rfl⟩⟩
 ·have c := hheld.1 b' o ho
  rw [heap_alloc_old w _ (Array.getElem?_eq_some_iff.1 c).1]; exact c
 ·rw [List.mem_singleton] at hp
  subst hp
  refine ⟨⟨#[.map (some a)], heap_alloc_new w _, rfl, by simp, by simp [G6], fun i e he => ?_, fun i e he j x hx => ?_⟩, fun b' hb'' => ?_⟩
  ·cases i with
   | zero => simp at he; subst he; rfl
   | succ i => simp at he
  ·cases i with
   | zero =>
    simp at he; subst he
    cases j with
    | zero => simp at hx; subst hx; exact ⟨rfl, .v _⟩
    | succ j => simp at hx
   | succ i => simp at he
  ·simp only [Ob.fp, List.mem_singleton] at hb''
   subst hb''
   exact ⟨hnone, .inl (Nat.le_refl _)⟩
 ·show w.heap.size ≤ (w.heap.push _).size; simp
theorem Kk {k mt : Nat} {c a : Nat} {d : List (Int × Bool)} (hnd : (d.map Prod.fst).Nodup) (hlen : d.length ≤ 1000) (hr : ∀ p, p ∈ d → -1000000 ≤ p.1 ∧ p.1 ≤ 1000000)
  (hc : ∀ (c a : Nat) (l : List (Int × Bool)) (w : World), w.heap[c]? = some (.cells #[.map (some a)] mt (0, 0)) → w.heap[a]? = some (mapOb mB l) → (l.map Prod.fst).Nodup → l.length ≤ 1000 → (∀ p, p ∈ l → -1000000 ≤ p.1 ∧ p.1 ≤ 1000000) →
   Calls E.P f #[.func (.func k) #[] #[.pointer (some ⟨c, 0, none⟩)]] w fun e w' => ∃ v, e = .returned v ∧ w'.ownsRow w.heap.size 3 1 v l.length ((isort (l.map Prod.fst)).map (Value.int .i64)) ∧ Go.RowKit.Below w.heap.size w w') :
  ACalls E f [.v (.func (.func k) #[] #[.pointer (some ⟨c, 0, none⟩)])] [.arr c mt 1 1 [[.v (.map (some a))]], .raw a (mapOb mB d)]
   (En 2 fun x os new => ∃ n : Value, x = .v n ∧ os = [.arr c mt 1 1 [[.v (.map (some a))]], .raw a (mapOb mB d)] ∧ new = [.us n 3 1 ((isort (d.map Prod.fst)).map rI)]) := by
 refine ⟨hfn, fun H w vs hsz hv hheld hfp hnd' => ?_⟩
 have q : ArrR H w c mt 1 1 [[.v (.map (some a))]] := (hfp (.arr c mt 1 1 [[.v (.map (some a))]]) (by simp)).1
 have m : w.heap[a]? = some (mapOb mB d) := (hfp (.raw a (mapOb mB d)) (by simp)).1
 have t := (hfp (.arr c mt 1 1 [[.v (.map (some a))]]) (by simp)).2 c (by simp [Ob.fp])
 have u := (hfp (.raw a (mapOb mB d)) (by simp)).2 a (by simp [Ob.fp])
 have r : w.heap[c]? = some (.cells #[.map (some a)] mt (0, 0)) := by
  obtain ⟨cs, A, B, K, M, N, C⟩ := q
  have h := (C 0 _ rfl 0 _ rfl).2.v_eq
  rw [A]
  obtain ⟨l⟩ := cs
  match l, B, h with
  | [y], _, h => simp [Array.getD] at h; subst h; rfl
 have D : c < w.heap.size := (Array.getElem?_eq_some_iff.1 r).1
 have F : a < w.heap.size := (Array.getElem?_eq_some_iff.1 m).1
 obtain rfl := Z8 hsz hv
 refine (hc c a d w r m hnd hlen hr).mono ?_
 rintro e w' ⟨v, rfl, hrow, hb⟩
 have hlen' : (isort (d.map Prod.fst)).length = d.length := by rw [(Fu _).length_eq, List.length_map]
 have hnone : ∀ b, w.heap.size ≤ b → H b = none := fun b hbs => by
  cases h : H b with
  | none => rfl
  | some o => have := (Array.getElem?_eq_some_iff.1 (hheld.1 _ o h)).1; omega
 have husr : UsR H w' v 3 1 ((isort (d.map Prod.fst)).map rI) ∧ ∀ b, b ∈ Gq v → w.heap.size ≤ b := by
  obtain ⟨hl, ⟨rfl, G⟩ | ⟨g, cap, cur, rfl, hg, hgc, hn, hcap, hcs, htk⟩⟩ := hrow
  ·refine ⟨.inl ⟨rfl, ?_⟩, by simp [Gq]⟩
   rw [G] at hlen'
   rw [List.length_eq_zero_iff.1 hlen']; rfl
  ·refine ⟨.inr ⟨g, cap, cap, ?_, ?_, Nat.le_refl _, cur, hgc, by simpa using hcs, ?_, ?_, fun i e he => ?_, fun i e he j x hx => ?_⟩, by simpa [Gq] using hg⟩
   ·rw [List.length_map, hlen']
   ·rw [List.length_map, hlen']; exact hn
   ·rw [List.length_map, hlen']; exact hn
   ·rw [List.length_map, hlen']; simp [G6]; omega
   ·rw [List.getElem?_map] at he
    obtain ⟨z, _, rfl⟩ := Option.map_eq_some_iff.1 he
    rfl
   ·rw [List.getElem?_map] at he
    obtain ⟨z, hz, rfl⟩ := Option.map_eq_some_iff.1 he
    have hj : j = 0 := by have := (gs hx).1; simp [rI] at this; exact this
    subst hj
    simp [rI] at hx
    subst hx
    have hi := (gs hz).1
    have hc : (cur.toList.take (d.length * 1))[i]? = some (Value.int .i64 z) := by rw [htk, List.getElem?_map, hz]; rfl
    rw [List.getElem?_take_of_lt (by omega)] at hc
    have : cur.getD (i * 1 + 0) undef = .int .i64 z := by
     rw [Array.getD_eq_getD_getElem?, Nat.mul_one, Nat.add_zero, ← Array.getElem?_toList, hc]; rfl
    rw [this]
    exact ⟨rfl, .v _⟩
 refine ⟨_, .v v, [.arr c mt 1 1 [[.v (.map (some a))]], .raw a (mapOb mB d), .us v 3 1 ((isort (d.map Prod.fst)).map rI)], H, rfl, ⟨[_, _], [_], rfl, rfl, _, rfl, rfl, rfl⟩, .v _, fun _ _ h => h, fun b' o ho => ?_, fun p hp => ?_, ?_, hb.size, ⟨hb.os, hb.tape, hb.output⟩, fun b' hb'' _ => ⟨hb.block b' hb'', rfl⟩⟩
 ·have s := hheld.1 b' o ho
  rw [hb.block b' (Array.getElem?_eq_some_iff.1 s).1]; exact s
 ·simp only [List.mem_cons, List.not_mem_nil, or_false] at hp
  rcases hp with rfl | rfl | rfl
  ·refine ⟨ArrR.mono (fun _ _ h => h) (hb.block c D) q, fun b' hb'' => ?_⟩
   simp only [Ob.fp, List.mem_singleton] at hb''
   subst hb''
   exact ⟨t, .inr (by simp [Ob.fp])⟩
  ·refine ⟨(hb.block a F).trans m, fun b' hb'' => ?_⟩
   simp only [Ob.fp, List.mem_singleton] at hb''
   subst hb''
   exact ⟨u, .inr (by simp [Ob.fp])⟩
  ·exact ⟨husr.1, fun b' hb'' => ⟨hnone b' (husr.2 b' hb''), .inl (husr.2 b' hb'')⟩⟩
 ·have hne : c ≠ a := by
   simp [Ob.fp] at hnd'; exact hnd'
  simp only [List.flatMap_cons, List.flatMap_nil, Ob.fp, List.append_nil, List.singleton_append, List.cons_append, List.nil_append]
  refine List.nodup_cons.2 ⟨fun h => ?_, List.nodup_cons.2 ⟨fun h => ?_, Gi v⟩⟩
  ·rcases List.mem_cons.1 h with h | h
   ·exact hne h
   ·have := husr.2 _ h; omega
  ·have := husr.2 _ h; omega
end
end Go.Aw
namespace Go.Proofs.YtihdchjpepkpbaaGreat
open Go.Aw
set_option linter.unusedVariables false
set_option linter.unusedSimpArgs false
structure Lineup where
 Segments : List Bool
 Ports : List Bool
 deriving DecidableEq
def I4 (x : Lineup) : List T := [.list 1 (x.Segments.map rB), .list 1 (x.Ports.map rB)]
def Mz.J1 (a : List (Int × Bool)) (b : Bool) : Option (Bool × (List (Int × Bool))) := some (b, a)
def Mz.J3 (a : Bool) : Option (Bool ⊕ ((Bool × (List (Int × Bool))))) := some (.inl a)
def Mz.B2 (a : Int) (b : List (Int × Bool)) (d : Nat) (c : Segment) (e : Bool) : Option (Bool ⊕ ((Bool × (List (Int × Bool))))) := if ((c.From != a) && (c.To != a)) = true then Mz.J3 e else if (!((Df b (d : Int)).getD false)) = true then some ((.inr ((false, b)))) else Mz.J3 true
def Mz (b : Network) (c : Int) (a : List (Int × Bool)) : Option (Bool × (List (Int × Bool))) := (forL (Mz.B2 c a) 0 b.Segments false).bind fun d => Sum.elim (fun e => Mz.J1 a e) (fun f => some f) d
def Uo (a : List (Int × Bool)) : Option (List (Int × Bool) × List (Int × Bool)) := some (a, a)
def Rl (a : List (Int × Bool)) : Option Li := if (a.map Prod.fst).Nodup ∧ a.length ≤ 1000 ∧ ∀ p, p ∈ a → -1000000 ≤ p.1 ∧ p.1 ≤ 1000000 then some (isort (a.map Prod.fst)) else none
def Hc.J2 (a : List (Int × Bool)) : Option (Li × Int) := (Rl a).bind fun b => some (b, 0)
def Hc.J4 (a : (List (Int × Bool)) × (List (Int × Bool))) : Option ((List (Int × Bool)) × (List (Int × Bool))) := some (a.1, a.2)
def Hc.B3 (c : Network) (d : Nat) (e : Port) (a : (List (Int × Bool)) × (List (Int × Bool))) : Option ((List (Int × Bool)) × (List (Int × Bool))) := (Mz c e.Node a.1).bind fun b => if b.1 = true then Hc.J4 (b.2, (Il a.2 (wr ((c.Segments.length : Int) + (d : Int))) true)) else Hc.J4 (b.2, a.2)
def Hc.J1 (a : Network) (d : Li) (b : List (Int × Bool)) : Option (Li × Int) := if ((b.length : Int) != (d.length : Int)) = true then some ([], 7) else (Uo b).bind fun c => (forS (Hc.B3 a) 0 a.Ports (c.2, c.1)).bind fun e => Hc.J2 e.2
def Hc.B5 (b : Network) (d : Nat) (a : Int) (c : List (Int × Bool)) : Option ((List (Int × Bool)) ⊕ ((Li × Int))) := if (decide (a < 0) || decide (a ≥ (b.Segments.length : Int))) = true then some ((.inr (([], 8)))) else some (.inl (Il c a true))
def Hc (a : Network) (b : Li) : Option (Li × Int) := (Ee a).bind fun c => if (c != 0) = true then some ([], c) else (forL (Hc.B5 a) 0 b ([] : List (Int × Bool))).bind fun d => Sum.elim (fun e => Hc.J1 a b e) (fun f => some f) d
def M8.J1 (a : (List Path) × Int) : Option (List Path) := (Qy a.1 0 a.2).bind fun b => some b
def M8.J3 (b : (List Path) × Int × Int) (a : (List Path) × Int) : Option (((List Path) × Int × Int) ⊕ (((List Path) × Int))) := some (.inl (a.1, a.2, wr (b.2.2 + 1)))
def M8.B2 (c : Path → Option Bool) (a : (List Path) × Int × Int) : Option (((List Path) × Int × Int) ⊕ (((List Path) × Int))) := if decide (a.2.2 < (a.1.length : Int)) = true then (ix a.1 a.2.2).bind fun b => (c b.2).bind fun d => if (!d) = true then (ix a.1 a.2.1).bind fun e => M8.J3 a ((a.1.set e.1 b.2), wr (a.2.1 + 1)) else M8.J3 a (a.1, a.2.1) else some ((.inr ((a.1, a.2.1))))
def M8 (a : List Path) (c : Path → Option Bool) : Option (List Path) := (Ky a c).bind fun b => if (b == (-1)) = true then some a else (C5 (M8.B2 c) El (a, b, wr (b + 1))).bind fun d => M8.J1 d
def Rn (a : Network) (c : Plan) (b : Int) : Option (Int × Int) := (Hg a c).bind fun d => if (d != 0) = true then some (0, d) else if (decide (b < 0) || decide (b ≥ (a.Nodes.length : Int))) = true then some (0, 8) else (Hb a c).bind fun e => (ix e.come.l b).bind fun f => some (f.2, 0)
def Ru (a : Network) (c : Plan) (d : Int) : Option Bool := (ix a.Stations d).bind fun e => (Rn a c e.2.Node).bind fun b => some ((b.2 == 0) && (b.1 != 0))
def Un (a : Network) (b : Plan) (c : Int) : Option Bool := (Ru a b c).bind fun d => some d
def Nj (a : Hop) (b : Li) : Option Bool := (Fo b a.Segment).bind fun c => some c
def F7.J1 (a : Bool) : Option Bool := some a
def F7 (a : Path) (c : Network) (b : Li) : Option Bool := (Fo b (wr ((c.Segments.length : Int) + a.In))).bind fun d => if d = true then F7.J1 true else (Fo b (wr ((c.Segments.length : Int) + a.Out))).bind fun e => if e = true then F7.J1 true else (Nk a.Hops (fun x => Nj x b)).bind fun f => F7.J1 f
def Np.J2 (a : Int × Li × Li × (List Bool)) (b : List Bool) : Option (Plan × Int) := some ((⟨a.2.1, a.2.2.1, b⟩ : Plan), 0)
def Np.J4 (a : List Bool) : Option (List Bool) := some a
def Np.B3 (d : Network) (c : Int × Li × Li × (List Bool)) (b : Nat) (e : Bool) (a : List Bool) : Option (List Bool) := if e = true then (Un d (⟨c.2.1, c.2.2.1, a⟩ : Plan) (b : Int)).bind fun f => (ix a (b : Int)).bind fun g => Np.J4 (a.set g.1 f) else (ix a (b : Int)).bind fun h => Np.J4 (a.set h.1 false)
def Np.J1 (b : Network) (c : Plan) (a : Int × Li × Li × (List Bool)) : Option (Plan × Int) := if (a.1 != 0) = true then some ((⟨[], [], []⟩ : Plan), a.1) else (forS (Np.B3 b a) 0 c.Pumps a.2.2.2).bind fun d => Np.J2 a d
def Np (a : Network) (e : Plan) (f : Li) : Option (Plan × Int) := (Hc a f).bind fun c => if (c.2 != 0) = true then some ((⟨[], [], []⟩ : Plan), c.2) else (Rf a e).bind fun d => if (d.2 != 0) = true then some ((⟨[], [], []⟩ : Plan), d.2) else (M8 d.1 (fun x => F7 x a c.1)).bind fun g => (Wl (a.Stations.length : Int) false).bind fun h => (Rk a g h).bind fun b => Np.J1 a e (b.2, b.1.Rates, b.1.Ports, b.1.Pumps)
def Ri.J1 (a : Bool) : Option Bool := some a
def Ri : Option Bool := (Hc (⟨([(⟨#[97]⟩ : ByteArray), (⟨#[98]⟩ : ByteArray)] : List ByteArray), ([(⟨(⟨#[103]⟩ : ByteArray), 0, 1, 10, 0, 0, ([(⟨0, 0, 1000⟩ : Point), (⟨10, 0, 1000⟩ : Point)] : List Point)⟩ : Segment)] : List Segment), ([(⟨(⟨#[112]⟩ : ByteArray), 0, 0⟩ : Port), (⟨(⟨#[113]⟩ : ByteArray), 1, 0⟩ : Port)] : List Port), [], 0, 0⟩ : Network) ([0] : Li)).bind fun a => (Hc (⟨([(⟨#[97]⟩ : ByteArray), (⟨#[98]⟩ : ByteArray)] : List ByteArray), ([(⟨(⟨#[103]⟩ : ByteArray), 0, 1, 10, 0, 0, ([(⟨0, 0, 1000⟩ : Point), (⟨10, 0, 1000⟩ : Point)] : List Point)⟩ : Segment)] : List Segment), ([(⟨(⟨#[112]⟩ : ByteArray), 0, 0⟩ : Port), (⟨(⟨#[113]⟩ : ByteArray), 1, 0⟩ : Port)] : List Port), [], 0, 0⟩ : Network) []).bind fun b => if (a.2 == 0) = true then if (b.2 == 0) = true then if ((a.1.length : Int) == 3) = true then (ix a.1 2).bind fun c => if (c.2 == 2) = true then Ri.J1 ((b.1.length : Int) == 0) else Ri.J1 false else Ri.J1 false else Ri.J1 false else Ri.J1 false
def Nn.J2 (a : Li × Int × Li) : Option (Li × KS) := some (a.2.2, (⟨a.1, a.2.1⟩ : KS))
def Nn.J1 (c : Network) (a : Li × Int × Li) : Option (Li × KS) := if ((a.2.2.length : Int) == 0) = true then (Dq (⟨a.1, a.2.1⟩ : KS) (c.Segments.length : Int)).bind fun b => Nn.J2 (b.2.L_, b.2.At, ([b.1] : Li)) else Nn.J2 (a.1, a.2.1, a.2.2)
def Nn.J4 (b : Li × Int × Li × Int) (a : Li × Int × Li) : Option ((Li × Int × Li × Int) ⊕ ((Li × Int × Li))) := some (.inl (a.1, a.2.1, a.2.2, wr (b.2.2.2 + 1)))
def Nn.B3 (c : Network) (a : Li × Int × Li × Int) : Option ((Li × Int × Li × Int) ⊕ ((Li × Int × Li))) := if decide (a.2.2.2 < (c.Segments.length : Int)) = true then (Dq (⟨a.1, a.2.1⟩ : KS) 4).bind fun b => if (b.1 == 0) = true then (Dg a.2.2.1 ([a.2.2.2] : Li)).bind fun d => Nn.J4 a (b.2.L_, b.2.At, d) else Nn.J4 a (b.2.L_, b.2.At, a.2.2.1) else some ((.inr ((a.1, a.2.1, a.2.2.1))))
def Nn (a : KS) (b : Network) : Option (Li × KS) := (C5 (Nn.B3 b) El (a.L_, a.At, [], 0)).bind fun c => Nn.J1 b c
def Rw (a : Network) (c : Plan) (b : Int) : Option (Int × Int) := (Kt a c).bind fun d => if (d != 0) = true then some (0, d) else if (decide (b < 0) || decide (b ≥ (a.Nodes.length : Int))) = true then some (0, 8) else (Hi a c b).bind fun e => some (e.1, 0)
def Nq.J1 (a : Li × Li × (List Bool)) : Option Plan := some (⟨a.1, a.2.1, a.2.2⟩ : Plan)
def Nq (a : Plan) : Option Plan := (Dg ([] : Li) a.Rates).bind fun b => (Dg ([] : Li) a.Ports).bind fun c => (Dg ([] : List Bool) a.Pumps).bind fun d => Nq.J1 (b, c, d)
def Rx.J1 (a : Plan) (b : List Bool) : Option Plan := some (⟨a.Rates, a.Ports, b⟩ : Plan)
def Rx.J3 (a : (List Bool) × Int) (b : List Bool) : Option (((List Bool) × Int) ⊕ ((List Bool))) := some (.inl (b, wr (a.2 + 1)))
def Rx.B2 (c : Network) (e : Plan) (a : (List Bool) × Int) : Option (((List Bool) × Int) ⊕ ((List Bool))) := if (decide (a.2 < (c.Stations.length : Int)) && decide (a.2 < (a.1.length : Int))) = true then (ix c.Stations a.2).bind fun f => (Rw c e f.2.Node).bind fun d => (ix a.1 a.2).bind fun b => if b.2 = true then if (d.2 == 0) = true then Rx.J3 a (a.1.set b.1 (decide (d.1 > 0))) else Rx.J3 a (a.1.set b.1 false) else Rx.J3 a (a.1.set b.1 false) else some ((.inr (a.1)))
def Rx (c : Network) (a : Plan) : Option Plan := (Nq a).bind fun b => (C5 (Rx.B2 c a) El (b.Pumps, 0)).bind fun d => Rx.J1 b d
def Rq (c : KS) (a : Network) : Option (Plan × KS) := (Nf c a).bind fun b => (Rx a b.1).bind fun d => some (d, b.2)
def Mw.J2 (a : List Bool) (b : List Bool) : Option Lineup := some (⟨a, b⟩ : Lineup)
def Mw.B3 (b : Plan) (a : (List Bool) × Int) : Option (((List Bool) × Int) ⊕ ((List Bool))) := if decide (a.2 < (b.Ports.length : Int)) = true then (ix b.Ports a.2).bind fun c => (Dg a.1 ([(c.2 != 0)] : List Bool)).bind fun d => some (.inl (d, wr (a.2 + 1))) else some ((.inr (a.1)))
def Mw.J1 (a : Plan) (b : List Bool) : Option Lineup := (C5 (Mw.B3 a) El ([], 0)).bind fun c => Mw.J2 b c
def Mw.B4 (b : Plan) (a : (List Bool) × Int) : Option (((List Bool) × Int) ⊕ ((List Bool))) := if decide (a.2 < (b.Rates.length : Int)) = true then (ix b.Rates a.2).bind fun c => (Dg a.1 ([(c.2 != 0)] : List Bool)).bind fun d => some (.inl (d, wr (a.2 + 1))) else some ((.inr (a.1)))
def Mw (a : Plan) : Option Lineup := (C5 (Mw.B4 a) El ([], 0)).bind fun b => Mw.J1 a b
def Ro (a : Lineup) : Option (List Bool) := (Dg ([] : List Bool) a.Segments).bind fun b => (Dg b a.Ports).bind fun c => some c
def Up (a : Li) : Bool := (decide ((a.length : Int) ≤ 400))
def Rs.J4 (a : Bool) : Option Bool := some a
def Rs.J3 (a : Network × KS) (b : Plan × Int) (e : Unit) : Option Bool := (Kt a.1 b.1).bind fun c => if (c == 0) = true then (Ri).bind fun d => Rs.J4 d else Rs.J4 false
def Rs.J6 (a : Int) (b : Bool) : Option (Int ⊕ (Bool ⊕ Unit)) := if b = true then some ((.inr (.inl (false)))) else some (.inl (wr (a + 1)))
def Rs.B5 (d : Plan × KS) (e : Plan × Int) (a : Int) : Option (Int ⊕ (Bool ⊕ Unit)) := if decide (a < (d.1.Rates.length : Int)) = true then (ix e.1.Rates a).bind fun b => (ix d.1.Rates a).bind fun c => if decide ((wr (b.2 * c.2)) < 0) = true then Rs.J6 a true else Rs.J6 a (decide ((max b.2 (wr (0 - b.2))) > (max c.2 (wr (0 - c.2))))) else some ((.inr (.inr (()))))
def Rs.J2 (b : Network × KS) (c : Plan × KS) (a : Plan × Int) (g : Unit) : Option Bool := (C5 (Rs.B5 c a) El 0).bind fun d => Sum.elim (fun e => some e) (fun f => Rs.J3 b a f) d
def Rs.J8 (a : Int) (b : Bool) : Option (Int ⊕ (Bool ⊕ Unit)) := if b = true then some ((.inr (.inl (false)))) else some (.inl (wr (a + 1)))
def Rs.B7 (c : Li × Int) (d : List Bool) (a : Int) : Option (Int ⊕ (Bool ⊕ Unit)) := if decide (a < (c.1.length : Int)) = true then (ix c.1 a).bind fun b => if decide (b.2 < 0) = true then Rs.J8 a true else if decide (b.2 ≥ (d.length : Int)) = true then Rs.J8 a true else (ix d b.2).bind fun e => Rs.J8 a e.2 else some ((.inr (.inr (()))))
def Rs.J1 (b : Network × KS) (c : Plan × KS) (a : Plan × Int) (d : Li × Int) (e : Bool) : Option Bool := if e = true then some false else (Mw a.1).bind fun f => (Ro f).bind fun g => (C5 (Rs.B7 d g) El 0).bind fun h => Sum.elim (fun i => some i) (fun j => Rs.J2 b c a j) h
def Rs (f : Li) : Option Bool := if (!(Up f)) = true then (Ri).bind fun h => some h else (Rp f).bind fun i => (Rr i).bind fun a => (Rq a.2 a.1).bind fun c => (Nn c.2 a.1).bind fun e => (Np a.1 c.1 e.1).bind fun b => (Np a.1 b.1 e.1).bind fun g => (Hc a.1 e.1).bind fun d => if (b.2 != 0) = true then Rs.J1 a c b d true else if (g.2 != 0) = true then Rs.J1 a c b d true else if (d.2 != 0) = true then Rs.J1 a c b d true else (M0 b.1 g.1).bind fun j => if (!j) = true then Rs.J1 a c b d true else if ((b.1.Rates.length : Int) != (c.1.Rates.length : Int)) = true then Rs.J1 a c b d true else Rs.J1 a c b d ((b.1.Ports.length : Int) != (c.1.Ports.length : Int))
abbrev Nw := Network
abbrev Sg := Segment
abbrev Sn := Station
abbrev Bt := ByteArray
abbrev U0 := fun (v : Value) l => Ob.us v 3 1 (List.map rI l)
abbrev U1 := fun (v : Value) l => Ob.us v 4 1 (List.map rB l)
abbrev U2 := fun (v : Value) l => Ob.us v 9 1 (List.map rS l)
abbrev U3 := fun (v : Value) l => Ob.us v 50 4 (List.map Bo l)
abbrev U4 := fun (v : Value) l => Ob.us v 53 2 (List.map Cc l)
abbrev U5 := fun (v : Value) l => Ob.us v 93 7 (List.map Am l)
abbrev U6 := fun (v : Value) l => Ob.us v 95 3 (List.map Bb l)
abbrev U7 := fun (v : Value) l => Ob.us v 102 5 (List.map A5 l)
abbrev U8 := fun (v : Value) l => Ob.us v 90 3 (List.map Ce l)
abbrev Q0 := fun l => T.list 1 (List.map rI l)
abbrev Q1 := fun l => T.list 1 (List.map rS l)
abbrev Q2 := fun l => T.list 7 (List.map Am l)
abbrev Q3 := fun l => T.list 3 (List.map Bb l)
abbrev Q4 := fun l => T.list 5 (List.map A5 l)
abbrev Q5 := fun l => T.list 1 (List.map rB l)
abbrev Q6 := fun l => T.list 4 (List.map Bo l)
abbrev O0 := fun (b : Nat) e => Ob.arr b 36 3 1 e
abbrev O1 := fun (b : Nat) e => Ob.arr b 32 6 1 e
abbrev O2 := fun (b : Nat) e => Ob.arr b 97 2 1 e
abbrev O3 := fun (b : Nat) e => Ob.arr b 171 4 1 e
abbrev O4 := fun (b : Nat) e => Ob.arr b 50 4 1 e
abbrev O5 := fun (b : Nat) e => Ob.arr b 148 8 1 e
abbrev O6 := fun (b : Nat) e => Ob.arr b 192 48 1 e
abbrev O7 := fun (b : Nat) e => Ob.arr b 93 7 1 e
abbrev O8 := fun (b : Nat) e => Ob.arr b 86 2 1 e
abbrev W0 : List T := [.N, .N, .N]
abbrev W1 : List T := [.v (.string ⟨#[]⟩), .V 0, .V 0, .V 0, .V 0, .V 0, .N]
abbrev W2 : List T := [.N, .N, .N, .N]
abbrev W3 : List T := [.V 0, .V 0, .N, .V 0]
abbrev W4 : List T := [.N, .N, .N, .N, .V 0, .V 0]
abbrev W5 : List T := [.v (.string ⟨#[]⟩), .V 0, .V 0]
abbrev W6 : List T := [.v (.string ⟨#[]⟩), .V 0, .V 0, .V 0, .V 0]
end Go.Proofs.YtihdchjpepkpbaaGreat
namespace Go.Proofs
open Go.Shelf Go.RowKit Go.Maps Go.Sort
def Hu : Go.Shelf.Ren := ⟨fun | 7 => 103 | 10 => 161 | n => n, fun | 23 => 135 | 26 => 3 | 3 => 4 | 28 => 140 | 0 => 0 | 27 => 139 | 33 => 126 | 4 => 4 | n => n, fun | n => n⟩
theorem Ou : Go.Proofs.SlLaysZI.n7 Tryz.prog Hu := {
 mixed := by kernel_rfl
 f7 := ⟨Tryz.f103.name, by decide, Tryz.func103.trans (congrArg some (by kernel_rfl))⟩
 f10 := ⟨Tryz.f161.name, by decide, Tryz.func161.trans (congrArg some (by kernel_rfl))⟩
 t0 := Tryz.underlying0
 a0 := Tryz.isAgg0
 z0 := Tryz.sizeOf0
 v0 := Tryz.zeroValue0
 t4 := Tryz.underlying4
 a4 := Tryz.isAgg4
 z4 := Tryz.sizeOf4
 v4 := Tryz.zeroValue4
 t23 := Tryz.underlying135
 a23 := Tryz.isAgg135
 z23 := Tryz.sizeOf135
 v23 := Tryz.zeroValue135
 t26 := Tryz.underlying3
 a26 := Tryz.isAgg3
 z26 := Tryz.sizeOf3
 v26 := Tryz.zeroValue3
 t27 := Tryz.underlying139
 a27 := Tryz.isAgg139
 z27 := Tryz.sizeOf139
 v27 := Tryz.zeroValue139
 t28 := Tryz.underlying140
 a28 := Tryz.isAgg140
 z28 := Tryz.sizeOf140
 v28 := Tryz.zeroValue140
 t33 := Tryz.underlying126
 a33 := Tryz.isAgg126
 z33 := Tryz.sizeOf126
 v33 := Tryz.zeroValue126 }
def Gn : Go.Shelf.Ren := ⟨fun | 6 => 102 | 8 => 160 | 9 => 90 | 11 => 208 | 13 => 154 | 12 => 153 | 23 => 205 | 24 => 206 | 14 => 196 | 15 => 197 | 16 => 198 | 17 => 199 | 18 => 200 | 19 => 201 | 20 => 202 | 21 => 203 | 22 => 204 | 25 => 214 | 26 => 215 | 27 => 216 | 28 => 217 | 29 => 218 | 30 => 219 | 31 => 220 | n => n, fun | 26 => 3 | 28 => 140 | 24 => 22 | 0 => 0 | 3 => 3 | 37 => 183 | 48 => 217 | 50 => 219 | 4 => 4 | 40 => 212 | 39 => 211 | 45 => 120 | 5 => 5 | 9 => 9 | 51 => 225 | 55 => 229 | 57 => 232 | 58 => 143 | 33 => 126 | n => n, fun | n => n⟩
theorem Sf : Go.Proofs.SlLaysZI.n6 Tryz.prog Gn := {
 mixed := by kernel_rfl
 f6 := ⟨Tryz.f102.name, by decide, Tryz.func102.trans (congrArg some (by kernel_rfl))⟩
 f8 := ⟨Tryz.f160.name, by decide, Tryz.func160.trans (congrArg some (by kernel_rfl))⟩
 f11 := ⟨Tryz.f208.name, by decide, Tryz.func208.trans (congrArg some (by kernel_rfl))⟩
 t0 := Tryz.underlying0
 a0 := Tryz.isAgg0
 z0 := Tryz.sizeOf0
 v0 := Tryz.zeroValue0
 t24 := Tryz.underlying22
 a24 := Tryz.isAgg22
 z24 := Tryz.sizeOf22
 v24 := Tryz.zeroValue22
 t26 := Tryz.underlying3
 a26 := Tryz.isAgg3
 z26 := Tryz.sizeOf3
 v26 := Tryz.zeroValue3
 t28 := Tryz.underlying140
 a28 := Tryz.isAgg140
 z28 := Tryz.sizeOf140
 v28 := Tryz.zeroValue140
 i26 := by kernel_rfl }
def O9 : Go.Shelf.Ren := ⟨fun | 5 => 90 | 8 => 154 | 7 => 153 | 19 => 205 | 20 => 206 | 10 => 196 | 11 => 197 | 12 => 198 | 13 => 199 | 14 => 200 | 15 => 201 | 16 => 202 | 17 => 203 | 18 => 204 | 30 => 214 | 31 => 215 | 32 => 216 | 33 => 217 | 34 => 218 | 35 => 219 | 40 => 220 | n => n, fun | 23 => 22 | 25 => 3 | 3 => 3 | 32 => 183 | 22 => 22 | 0 => 0 | 44 => 217 | 46 => 219 | 4 => 4 | 36 => 212 | 35 => 211 | 41 => 120 | 5 => 5 | 9 => 9 | 53 => 225 | 57 => 229 | 63 => 232 | 64 => 143 | n => n, fun | n => n⟩
theorem Ot : Go.Proofs.SlLaysM.n5 Tryz.prog O9 := {
 mixed := by kernel_rfl
 f5 := ⟨Tryz.f90.name, by decide, Tryz.func90.trans (congrArg some (by kernel_rfl))⟩
 f7 := ⟨Tryz.f153.name, by decide, Tryz.func153.trans (congrArg some (by kernel_rfl))⟩
 f8 := Tryz.func154.trans (congrArg some (by kernel_rfl))
 f10 := ⟨Tryz.f196.name, by decide, Tryz.func196.trans (congrArg some (by kernel_rfl))⟩
 f11 := ⟨Tryz.f197.name, by decide, Tryz.func197.trans (congrArg some (by kernel_rfl))⟩
 f12 := ⟨Tryz.f198.name, by decide, Tryz.func198.trans (congrArg some (by kernel_rfl))⟩
 f13 := ⟨Tryz.f199.name, by decide, Tryz.func199.trans (congrArg some (by kernel_rfl))⟩
 f14 := ⟨Tryz.f200.name, by decide, Tryz.func200.trans (congrArg some (by kernel_rfl))⟩
 f15 := ⟨Tryz.f201.name, by decide, Tryz.func201.trans (congrArg some (by kernel_rfl))⟩
 f16 := ⟨Tryz.f202.name, by decide, Tryz.func202.trans (congrArg some (by kernel_rfl))⟩
 f17 := ⟨Tryz.f203.name, by decide, Tryz.func203.trans (congrArg some (by kernel_rfl))⟩
 f18 := ⟨Tryz.f204.name, by decide, Tryz.func204.trans (congrArg some (by kernel_rfl))⟩
 f19 := Tryz.func205.trans (congrArg some (by kernel_rfl))
 f20 := Tryz.func206.trans (congrArg some (by kernel_rfl))
 f30 := ⟨Tryz.f214.name, by decide, Tryz.func214.trans (congrArg some (by kernel_rfl))⟩
 f31 := Tryz.func215.trans (congrArg some (by kernel_rfl))
 f32 := Tryz.func216.trans (congrArg some (by kernel_rfl))
 f33 := ⟨Tryz.f217.name, by decide, Tryz.func217.trans (congrArg some (by kernel_rfl))⟩
 f34 := ⟨Tryz.f218.name, by decide, Tryz.func218.trans (congrArg some (by kernel_rfl))⟩
 f35 := ⟨Tryz.f219.name, by decide, Tryz.func219.trans (congrArg some (by kernel_rfl))⟩
 f40 := ⟨Tryz.f220.name, by decide, Tryz.func220.trans (congrArg some (by kernel_rfl))⟩
 t0 := Tryz.underlying0
 a0 := Tryz.isAgg0
 z0 := Tryz.sizeOf0
 v0 := Tryz.zeroValue0
 t3 := Tryz.underlying3
 a3 := Tryz.isAgg3
 z3 := Tryz.sizeOf3
 v3 := Tryz.zeroValue3
 t4 := Tryz.underlying4
 a4 := Tryz.isAgg4
 z4 := Tryz.sizeOf4
 v4 := Tryz.zeroValue4
 t5 := Tryz.underlying5
 a5 := Tryz.isAgg5
 z5 := Tryz.sizeOf5
 v5 := Tryz.zeroValue5
 t9 := Tryz.underlying9
 a9 := Tryz.isAgg9
 z9 := Tryz.sizeOf9
 v9 := Tryz.zeroValue9
 t22 := Tryz.underlying22
 a22 := Tryz.isAgg22
 z22 := Tryz.sizeOf22
 v22 := Tryz.zeroValue22
 t23 := Tryz.underlying22
 a23 := Tryz.isAgg22
 z23 := Tryz.sizeOf22
 v23 := Tryz.zeroValue22
 t25 := Tryz.underlying3
 a25 := Tryz.isAgg3
 z25 := Tryz.sizeOf3
 v25 := Tryz.zeroValue3
 t32 := Tryz.underlying183
 a32 := Tryz.isAgg183
 z32 := Tryz.sizeOf183
 v32 := Tryz.zeroValue183
 t35 := Tryz.underlying211
 a35 := Tryz.isAgg211
 z35 := Tryz.sizeOf211
 v35 := Tryz.zeroValue211
 t36 := Tryz.underlying212
 a36 := Tryz.isAgg212
 z36 := Tryz.sizeOf212
 v36 := Tryz.zeroValue212
 t41 := Tryz.underlying120
 a41 := Tryz.isAgg120
 z41 := Tryz.sizeOf120
 v41 := Tryz.zeroValue120
 t44 := Tryz.underlying217
 a44 := Tryz.isAgg217
 z44 := Tryz.sizeOf217
 v44 := Tryz.zeroValue217
 t46 := Tryz.underlying219
 a46 := Tryz.isAgg219
 z46 := Tryz.sizeOf219
 v46 := Tryz.zeroValue219
 t53 := Tryz.underlying225
 a53 := Tryz.isAgg225
 z53 := Tryz.sizeOf225
 v53 := Tryz.zeroValue225
 t57 := Tryz.underlying229
 a57 := Tryz.isAgg229
 z57 := Tryz.sizeOf229
 v57 := Tryz.zeroValue229
 t63 := Tryz.underlying232
 a63 := Tryz.isAgg232
 z63 := Tryz.sizeOf232
 v63 := Tryz.zeroValue232
 t64 := Tryz.underlying143
 a64 := Tryz.isAgg143
 z64 := Tryz.sizeOf143
 v64 := Tryz.zeroValue143 }
def L6 : Go.Shelf.Ren := ⟨fun | 5 => 100 | 7 => 159 | n => n, fun | 23 => 135 | 25 => 3 | 3 => 4 | 4 => 4 | 20 => 20 | n => n, fun | n => n⟩
theorem T6 : Go.Proofs.SlLaysW.n5 Tryz.prog L6 := {
 mixed := by kernel_rfl
 f5 := ⟨Tryz.f100.name, by decide, Tryz.func100.trans (congrArg some (by kernel_rfl))⟩
 f7 := Tryz.func159.trans (congrArg some (by kernel_rfl))
 t4 := Tryz.underlying4
 a4 := Tryz.isAgg4
 z4 := Tryz.sizeOf4
 v4 := Tryz.zeroValue4
 t20 := Tryz.underlying20
 a20 := Tryz.isAgg20
 z20 := Tryz.sizeOf20
 v20 := Tryz.zeroValue20
 t23 := Tryz.underlying135
 a23 := Tryz.isAgg135
 z23 := Tryz.sizeOf135
 v23 := Tryz.zeroValue135 }
theorem Tryz.clone_ok (b : Nat) (es : Array MapEntry) (clock : Nat) (w : World) (hb : w.heap[b]? = some (.map es clock)) : Calls Tryz.prog 100 #[.map (some b)] w fun e w' => e = .returned (.map (some w.heap.size)) ∧ w' = w.alloc (.map es clock) :=
 AnyW.maps_Clone T6 b es clock w hb
theorem Tryz.keys_ok (mb : Option Nat) (w : World) : Calls Tryz.prog 103 #[.map mb] w fun e w' => e = .returned (.func (.func 161) #[] #[.pointer (some ⟨w.heap.size, 0, none⟩)]) ∧ w' = w.alloc (.cells #[.map mb] 135) :=
 (Go.callsIn_wide (n := 5)).1 (AnyZI.keys_in Ou Fence.wide 5 trivial rfl mb w)
theorem T5 (m : Nat) : AnyZI.SortsIn Tryz.prog Gn Fence.wide m :=
 ⟨fun Qx off cap ss W hH hblk hsz => Go.callsIn_wide.2 (AnyM.slices_Sort_int Ot Qx off cap ss W hH hblk hsz),
  fun p cap W => Go.callsIn_wide.2 (AnyM.slices_Sort_int_none Ot p cap W)⟩
theorem Ij (x : Lit × DataW Unit) : ∀ l : List (Lit × DataW Unit), (DataW.insert x l).Perm (x :: l)
 | [] => .refl _
 | y :: l => by
  simp only [DataW.insert]
  split
  ·exact .refl _
  ·exact ((Ij x l).cons y).trans (.swap x y l)
theorem Hv : ∀ l : List (Lit × DataW Unit), (l.foldr DataW.insert []).Perm l
 | [] => .refl _
 | x :: l => (Ij x _).trans ((Hv l).cons x)
theorem E3 : ∀ {l : List (Int × Bool)} {n : Nat} {x : MapEntry}, x ∈ Go.Aw.mEnts Go.Aw.mB l n → ∃ k b j, x = ⟨.int .i64 k, .bool b, j⟩ ∧ (k, b) ∈ l ∧ n ≤ j ∧ j < n + l.length
 | [], n, x, h => by simp [Go.Aw.mEnts] at h
 | (k, b) :: l, n, x, h => by
  rcases List.mem_cons.1 h with rfl | h
  ·exact ⟨k, b, n, rfl, by simp, Nat.le_refl _, by simp⟩
  ·obtain ⟨k', b', j, a, c, d, e⟩ := E3 h
   exact ⟨k', b', j, a, by simp [c], by omega, by simp; omega⟩
theorem Hw : ∀ {l : List (Int × Bool)} {n : Nat}, ((Go.Aw.mEnts Go.Aw.mB l n).map (·.born)).Nodup
 | [], n => by simp [Go.Aw.mEnts]
 | (k, b) :: l, n => by
  simp only [Go.Aw.mEnts, List.map_cons, List.nodup_cons]
  refine ⟨fun h => ?_, Hw⟩
  obtain ⟨x, hx, he⟩ := List.mem_map.1 h
  obtain ⟨_, _, j, rfl, _, a, _⟩ := E3 hx
  dsimp only at he
  omega
theorem Ik : ∀ {l : List (Int × Bool)} {n : Nat}, (Go.Aw.mEnts Go.Aw.mB l n).map (·.key) = l.map fun p => Value.int .i64 p.1
 | [], n => rfl
 | (k, b) :: l, n => by simp [Go.Aw.mEnts, Ik (l := l)]
theorem Tryz.sorted_ok (a c : Nat) (l : List (Int × Bool)) (w : World) (d : w.heap[a]? = some (.cells #[.map (some c)] 135 (0, 0))) (g : w.heap[c]? = some (Go.Aw.mapOb Go.Aw.mB l)) (hnd : (l.map Prod.fst).Nodup) (hlen : l.length ≤ 1000) (hr : ∀ p, p ∈ l → -1000000 ≤ p.1 ∧ p.1 ≤ 1000000) :
  Calls Tryz.prog 102 #[.func (.func 161) #[] #[.pointer (some ⟨a, 0, none⟩)]] w fun e w' => ∃ v, e = .returned v ∧ w'.ownsRow w.heap.size 3 1 v l.length ((Go.Aw.isort (l.map Prod.fst)).map (Value.int .i64)) ∧ Go.RowKit.Below w.heap.size w w' := by
 let es := (Go.Aw.mEnts Go.Aw.mB l 0).toArray
 let R : Value → Option (DataW Unit × List MemPlace) := plainElem Tryz.prog 4
 let D0 : DataW Unit := .map ((es.toList.map (Go.WideElems.rg Tryz.prog 3 R)).foldr DataW.insert [])
 have i : a < w.heap.size := (Array.getElem?_eq_some_iff.1 d).1
 have hwf : ∀ {k : Int}, -1000000 ≤ k ∧ k ≤ 1000000 → (Lit.int .i64 k).wf = true := fun {k} h => by
  have o : IntKind.i64.min = -9223372036854775808 := by decide
  have f : IntKind.i64.max = 9223372036854775807 := by decide
  simp only [Lit.wf, o, f, Bool.and_eq_true, decide_eq_true_eq]; omega
 have hrd : ∀ x, x ∈ Go.Aw.mEnts Go.Aw.mB l 0 → ∃ k b, (k, b) ∈ l ∧ x.key = .int .i64 k ∧ Go.WideElems.rd Tryz.prog 3 R x = some (.int .i64 k, .lit (.bool b)) := fun x hx => by
  obtain ⟨k, b, j, rfl, hm, _, _⟩ := E3 hx
  exact ⟨k, b, hm, rfl, Go.WideElems.rd_mk (Maps.keyOf_int_mk Tryz.underlying3 (hwf (hr _ hm))) (plainElem_bool Tryz.underlying4 b)⟩
 have hown : w.ownsMap Tryz.prog 3 R c l.length D0 := ⟨es, l.length, g, ⟨by simp [es, Go.Aw.mEnts_len, maxLen]; omega, ⟨fun x hx => by
   obtain ⟨k, b, j, rfl, _, _, q⟩ := E3 (show x ∈ Go.Aw.mEnts Go.Aw.mB l 0 by simpa [es] using hx)
   simpa using q, by simpa [es] using Hw, by
   have : es.toList.map (·.key) = l.map fun p => Value.int .i64 p.1 := by simp [es, Ik]
   rw [this]
   have e : (l.map fun p => Value.int .i64 p.1) = (l.map Prod.fst).map (Value.int .i64) := by simp
   rw [e]
   exact List.pairwise_map.2 (hnd.imp (fun hne h => hne (by simpa using h)))⟩, fun x hx => by
   obtain ⟨k, b, _, _, h⟩ := hrd x (by simpa [es] using hx)
   exact ⟨_, h⟩⟩, by simp [es, Go.Aw.mEnts_len], rfl⟩
 have hkeys : (intKeys D0).Perm (l.map Prod.fst) := by
  have hp : ((es.toList.map (Go.WideElems.rg Tryz.prog 3 R)).foldr DataW.insert []).Perm (es.toList.map (Go.WideElems.rg Tryz.prog 3 R)) := Hv _
  refine (hp.map _).trans ?_
  rw [List.map_map]
  have : ∀ m : List MapEntry, (∀ x, x ∈ m → x ∈ Go.Aw.mEnts Go.Aw.mB l 0) → m.map ((fun p : Lit × DataW Unit => Go.intOf p.1) ∘ Go.WideElems.rg Tryz.prog 3 R) = m.map fun x => match x.key with | .int _ k => k | _ => 0 := fun m hm => List.map_congr_left fun x hx => by
   obtain ⟨k, b, _, d, r⟩ := hrd x (hm x hx)
   simp only [Function.comp]
   rw [Go.WideElems.rg_of r, d]; rfl
  rw [this _ (fun x hx => by simpa [es] using hx)]
  have f : ∀ (m : List (Int × Bool)) (n : Nat), (Go.Aw.mEnts Go.Aw.mB m n).map (fun x => match x.key with | .int _ k => k | _ => 0) = m.map Prod.fst := by
   intro m
   induction m with
   | nil => intro n; rfl
   | cons p m ih => intro n; obtain ⟨k, b⟩ := p; simp [Go.Aw.mEnts, ih]
  rw [show es.toList = Go.Aw.mEnts Go.Aw.mB l 0 from rfl, f]
 have hsz : Maps.size D0 = l.length := by
  have : (intKeys D0).length = (l.map Prod.fst).length := hkeys.length_eq
  simpa [intKeys, Maps.size, D0] using this
 have hseq : SeqGives Fence.wide 2 Tryz.prog 161 #[.pointer (some ⟨a, 0, none⟩)] encZ (fun ss => ss.Perm (intKeys D0)) (Maps.size D0) w :=
  AnyZI.keys_gives (ρ := Hu) { Ou with } Fence.wide _ trivial rfl (by omega) a c l.length D0 w i (by simp [World.cell?, d]) hown
 have cS := AnyZI.sorted_in Sf Fence.wide 5 trivial trivial trivial trivial rfl (by omega) (T5 _) (enters_of Tryz.func90 (by kernel_rfl) rfl) 161 #[.pointer (some ⟨a, 0, none⟩)] trivial (enters_of Tryz.func161 (by kernel_rfl) rfl) _ _ (by rw [hsz]; simp [maxLen]; omega) (by rw [hsz]; omega) _ hseq
 refine ((Go.callsIn_wide (n := 5)).1 cS).mono ?_
 rintro e w' ⟨v, ss, rfl, hS, hrow, hnil, hb⟩
 have hlen' : ss.length = l.length := by rw [hS.length_eq, hkeys.length_eq, List.length_map]
 have hso : ss.mergeSort (fun x y => decide (x ≤ y)) = Go.Aw.isort (l.map Prod.fst) := by
  rw [← Go.Aw.sorted_eq]
  exact mergeSort_of_perm_i (hS.trans hkeys)
 rw [hlen', hso] at hrow
 exact ⟨v, rfl, hrow, hb⟩
end Go.Proofs
