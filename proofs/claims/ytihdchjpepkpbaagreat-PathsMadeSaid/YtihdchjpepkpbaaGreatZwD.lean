/- Tables and pure functions. No condition. -/
import Derived.Test.YtihdchjpepkpbaaGreatZwB2
import Derived.Test.YtihdchjpepkpbaaGreatRows
import Derived.KernelRfl
import Derived.Test.YtihdchjpepkpbaaGreatZwB3
set_option maxRecDepth 100000
namespace Go.Aw
set_option linter.unusedVariables false
set_option linter.unusedSimpArgs false
inductive TT where
 | nil
 | node (l : TT) (k : Nat) (x : TI) (r : TT)
def Nh : TT → Nat → Option TI
 | .nil, _ => none
 | .node l k x r, i => bif Nat.beq k i then some x else bif Nat.ble k i then Nh r i else Nh l i
def Xu (P : Program) : TT → Prop
 | .nil => True
 | .node l k x r => Xu P l ∧ Hm P k = some x ∧ Xu P r
theorem Pq {P : Program} : ∀ {t : TT} {i : Nat} {x : TI}, Xu P t → Nh t i = some x → Hm P i = some x
 | .nil, _, _, _, h => by simp [Nh] at h
 | .node l k y r, i, x, ha, h => by
  simp only [Nh] at h
  cases hb : Nat.beq k i with
  | true =>
   have := nq hb
   simp only [hb, cond_true, Option.some.injEq] at h
   subst h this; exact ha.2.1
  | false =>
   simp only [hb, cond_false] at h
   cases hc : Nat.ble k i with
   | true => simp only [hc, cond_true] at h; exact Pq ha.2.2 h
   | false => simp only [hc, cond_false] at h; exact Pq ha.1 h
abbrev zI : Value := .int .i64 0
abbrev zN : Value := .slice none 0 0
abbrev zT (k : Nat) : TI := { kind := .slice k, size := 1, bytes := 24, zero := some zN }
abbrev zS (f : List (Nat × Nat)) (s b : Nat) (z : Array Value) : TI := { kind := .struct f, size := s, bytes := b, zero := some (.agg z) }
abbrev zA (n t s b : Nat) (z : Array Value) : TI := { kind := .array n t, size := s, bytes := b, zero := some (.agg z) }
end Go.Aw
namespace Go.Proofs.YtihdchjpepkpbaaGreat
open Go.Aw
abbrev iN : TI := { kind := .int .i64, size := 1, bytes := 8, zero := some (.int .i64 0) }
abbrev iM : TI := { kind := .bool, size := 1, bytes := 1, zero := some (.bool false) }
abbrev iL : TI := { kind := .int .u8, size := 1, bytes := 1, zero := some (.int .u8 0) }
abbrev iK : TI := { kind := .string, size := 1, bytes := 16, zero := some (.string ⟨#[]⟩) }
abbrev fW : TI := zT 3
abbrev fV : TI := zT 9
abbrev fU : TI := zT 93
abbrev fT : TI := zT 95
abbrev fS : TI := zT 102
abbrev fR : TI := zS [(0, 27), (1, 28), (2, 29), (3, 30), (4, 3), (5, 3)] 6 112 #[zN, zN, zN, zN, zI, zI]
abbrev fQ : TI := zT 4
abbrev fP : TI := zS [(0, 22), (1, 22), (2, 34)] 3 72 #[zN, zN, zN]
abbrev fO : TI := zT 50
abbrev fN : TI := { kind := .int .i64, size := 1, bytes := 8, zero := some (.int .i64 0) }
abbrev fM : TI := zT 53
abbrev fL : TI := zS [(0, 3), (1, 3), (2, 48), (3, 3)] 4 48 #[zI, zI, zN, zI]
abbrev fK : TI := zS [(0, 3), (1, 4)] 2 16 #[zI, .bool false]
abbrev fJ : TI := zT 64
abbrev fH : TI := zS [(0, 3), (1, 3)] 2 16 #[zI, zI]
abbrev fG : TI := zS [(0, 3), (1, 3), (2, 3)] 3 24 #[zI, zI, zI]
abbrev fF : TI := zT 22
abbrev fE : TI := zS [(0, 34), (1, 34)] 2 48 #[zN, zN]
abbrev fD : TI := zS [(0, 3), (1, 3), (2, 3)] 3 24 #[zI, zI, zI]
abbrev fC : TI := zT 90
abbrev fB : TI := zS [(0, 9), (1, 3), (2, 3), (3, 3), (4, 3), (5, 3), (6, 91)] 7 80 #[.string ⟨#[]⟩, zI, zI, zI, zI, zI, zN]
abbrev fA : TI := zS [(0, 9), (1, 3), (2, 3)] 3 32 #[.string ⟨#[]⟩, zI, zI]
abbrev eZ : TI := zS [(0, 22), (1, 3)] 2 32 #[zN, zI]
abbrev Zr : TI := zS [(0, 9), (1, 3), (2, 3), (3, 3), (4, 3)] 5 48 #[.string ⟨#[]⟩, zI, zI, zI, zI]
abbrev Zq : TI := { kind := .map 3 3, size := 1, bytes := 8, zero := some (.map none) }
abbrev Zp : TI := { kind := .map 3 4, size := 1, bytes := 8, zero := some (.map none) }
abbrev Zo : TI := zS [(0, 32), (6, 22), (7, 22)] 8 160 #[zN, zN, zN, zN, zI, zI, zN, zN]
abbrev Zn : TI := zT 5
abbrev Zm : TI := zA 4 27 4 96 #[zN, zN, zN, zN]
abbrev Zl : TI := { kind := .int .u64, size := 1, bytes := 8, zero := some (.int .u64 0) }
abbrev Zk : TI := zA 24 3 24 192 #[zI, zI, zI, zI, zI, zI, zI, zI, zI, zI, zI, zI, zI, zI, zI, zI, zI, zI, zI, zI, zI, zI, zI, zI]
abbrev Zj : TI := zS [(0, 190), (24, 190)] 48 384 #[zI, zI, zI, zI, zI, zI, zI, zI, zI, zI, zI, zI, zI, zI, zI, zI, zI, zI, zI, zI, zI, zI, zI, zI, zI, zI, zI, zI, zI, zI, zI, zI, zI, zI, zI, zI, zI, zI, zI, zI, zI, zI, zI, zI, zI, zI, zI, zI]
abbrev Zi : TI := { kind := .int .i64, size := 1, bytes := 8, zero := some (.int .i64 0) }
abbrev Zh : TI := { kind := .int .u32, size := 1, bytes := 4, zero := some (.int .u32 0) }
abbrev Zg : TI := { kind := .int .u64, size := 1, bytes := 8, zero := some (.int .u64 0) }
abbrev Zf : TI := { kind := .int .u64, size := 1, bytes := 8, zero := some (.int .u64 0) }
def Mf : TT := (.node (.node (.node (.node (.node (.node .nil 3 iN .nil) 4 iM .nil) 5 iL (.node (.node .nil 9 iK .nil) 22 fW .nil)) 27 fV (.node (.node (.node .nil 28 fU .nil) 29 fT .nil) 30 fS (.node .nil 32 fR .nil))) 34 fQ (.node (.node (.node (.node .nil 36 fP .nil) 38 fO .nil) 39 fN (.node .nil 48 fM .nil)) 50 fL (.node (.node (.node .nil 53 fK .nil) 58 fJ .nil) 61 fH (.node .nil 64 fG .nil)))) 72 fF (.node (.node (.node (.node (.node .nil 86 fE .nil) 90 fD .nil) 91 fC (.node .nil 93 fB .nil)) 95 fA (.node (.node (.node .nil 97 eZ .nil) 102 Zr .nil) 117 Zq (.node .nil 135 Zp .nil))) 148 Zo (.node (.node (.node (.node .nil 150 Zn .nil) 171 Zm .nil) 183 Zl (.node .nil 190 Zk .nil)) 192 Zj (.node (.node (.node .nil 211 Zi .nil) 217 Zh .nil) 219 Zg (.node .nil 225 Zf .nil)))))
theorem V4 : Xu Tryz.prog Mf :=
 ⟨⟨⟨⟨⟨⟨trivial, by kernel_rfl, trivial⟩, by kernel_rfl, trivial⟩, by kernel_rfl, ⟨⟨trivial, by kernel_rfl, trivial⟩, by kernel_rfl, trivial⟩⟩, by kernel_rfl, ⟨⟨⟨trivial, by kernel_rfl, trivial⟩, by kernel_rfl, trivial⟩, by kernel_rfl, ⟨trivial, by kernel_rfl, trivial⟩⟩⟩, by kernel_rfl, ⟨⟨⟨⟨trivial, by kernel_rfl, trivial⟩, by kernel_rfl, trivial⟩, by kernel_rfl, ⟨trivial, by kernel_rfl, trivial⟩⟩, by kernel_rfl, ⟨⟨⟨trivial, by kernel_rfl, trivial⟩, by kernel_rfl, trivial⟩, by kernel_rfl, ⟨trivial, by kernel_rfl, trivial⟩⟩⟩⟩, by kernel_rfl, ⟨⟨⟨⟨⟨trivial, by kernel_rfl, trivial⟩, by kernel_rfl, trivial⟩, by kernel_rfl, ⟨trivial, by kernel_rfl, trivial⟩⟩, by kernel_rfl, ⟨⟨⟨trivial, by kernel_rfl, trivial⟩, by kernel_rfl, trivial⟩, by kernel_rfl, ⟨trivial, by kernel_rfl, trivial⟩⟩⟩, by kernel_rfl, ⟨⟨⟨⟨trivial, by kernel_rfl, trivial⟩, by kernel_rfl, trivial⟩, by kernel_rfl, ⟨trivial, by kernel_rfl, trivial⟩⟩, by kernel_rfl, ⟨⟨⟨trivial, by kernel_rfl, trivial⟩, by kernel_rfl, trivial⟩, by kernel_rfl, ⟨trivial, by kernel_rfl, trivial⟩⟩⟩⟩⟩
theorem Xf : Tryz.prog.follows .mixedOrders = true := by kernel_rfl
theorem Xe (t : Nat) (i : TI) (h : Nh Mf t = some i) : Hm Tryz.prog t = some i := Pq V4 h
noncomputable def Ak : Env := ⟨Tryz.prog, Nh Mf, Xe, Xf⟩
theorem Qc : Bld Ak 32 [(0, 1), (1, 1), (2, 1), (3, 1), (4, 1), (5, 1)] [.N, .N, .N, .N, .V 0, .V 0] := ⟨⟨_, _, _, I7⟩⟩
theorem C3 : Bld Ak 36 [(0, 1), (1, 1), (2, 1)] [.N, .N, .N] := ⟨⟨_, _, _, I7⟩⟩
theorem Qb : Bld Ak 50 [(0, 1), (1, 1), (2, 1), (3, 1)] [.V 0, .V 0, .N, .V 0] := ⟨⟨_, _, _, I7⟩⟩
theorem Gj : Bld Ak 53 [(0, 1), (1, 1)] [.V 0, .v (.bool false)] := ⟨⟨_, _, _, I7⟩⟩
theorem Ff : Bld Ak 90 [(0, 1), (1, 1), (2, 1)] [.V 0, .V 0, .V 0] := ⟨⟨_, _, _, I7⟩⟩
theorem Qa : Bld Ak 93 [(0, 1), (1, 1), (2, 1), (3, 1), (4, 1), (5, 1), (6, 1)] [.v (.string ⟨#[]⟩), .V 0, .V 0, .V 0, .V 0, .V 0, .N] := ⟨⟨_, _, _, I7⟩⟩
theorem Fe : Bld Ak 95 [(0, 1), (1, 1), (2, 1)] [.v (.string ⟨#[]⟩), .V 0, .V 0] := ⟨⟨_, _, _, I7⟩⟩
theorem Xh : Bld Ak 97 [(0, 1), (1, 1)] [.N, .V 0] := ⟨⟨_, _, _, I7⟩⟩
theorem M3 : Bld Ak 102 [(0, 1), (1, 1), (2, 1), (3, 1), (4, 1)] [.v (.string ⟨#[]⟩), .V 0, .V 0, .V 0, .V 0] := ⟨⟨_, _, _, I7⟩⟩
theorem V5 : Bld Ak 148 [(0, 6), (6, 1), (7, 1)] [.N, .N, .N, .N, .V 0, .V 0, .N, .N] := ⟨⟨_, _, _, I7⟩⟩
theorem Rq : gG Tryz.prog 53 = true := by kernel_rfl
theorem Xg : cF Tryz.prog 190 = true := by kernel_rfl
set_option linter.unusedVariables false
set_option linter.unusedSimpArgs false
structure Point where
 At : Int
 Height : Int
 Limit : Int
 deriving DecidableEq
def Cn (x : Point) : List T := [.V x.At, .V x.Height, .V x.Limit]
structure Segment where
 Name : ByteArray
 From : Int
 To : Int
 Capacity : Int
 Resist : Int
 Wave : Int
 Points : List Point
 deriving DecidableEq
def Ap (x : Segment) : List T := [.v (.string x.Name), .V x.From, .V x.To, .V x.Capacity, .V x.Resist, .V x.Wave, .list 3 (x.Points.map Cn)]
structure Port where
 Name : ByteArray
 Node : Int
 Pressure : Int
 deriving DecidableEq
def Bp (x : Port) : List T := [.v (.string x.Name), .V x.Node, .V x.Pressure]
structure Station where
 Name : ByteArray
 Node : Int
 Head : Int
 Fall : Int
 Suction : Int
 deriving DecidableEq
def Bl (x : Station) : List T := [.v (.string x.Name), .V x.Node, .V x.Head, .V x.Fall, .V x.Suction]
structure Network where
 Nodes : List ByteArray
 Segments : List Segment
 Ports : List Port
 Stations : List Station
 Vapour : Int
 Settle : Int
 deriving DecidableEq
def Ac (x : Network) : List T := [.list 1 (x.Nodes.map rS), .list 7 (x.Segments.map Ap), .list 3 (x.Ports.map Bp), .list 5 (x.Stations.map Bl), .V x.Vapour, .V x.Settle]
structure Plan where
 Rates : Li
 Ports : Li
 Pumps : List Bool
 deriving DecidableEq
def Au (x : Plan) : List T := [.list 1 (x.Rates.map rI), .list 1 (x.Ports.map rI), .list 1 (x.Pumps.map rB)]
structure flow_streams where
 come : Arr Int 24
 leave : Arr Int 24
 deriving DecidableEq
def Bj (x : flow_streams) : List T := x.come.l.map cI ++ (x.leave.l.map cI ++ [])
structure KS where
 L_ : Li
 At : Int
 deriving DecidableEq
def Bx (x : KS) : List T := [.list 1 (x.L_.map rI), .V x.At]
def Ck (a : Segment) (b : Int) : (Int × Int) := if decide (b < 0) = true then (a.To, a.From) else (a.From, a.To)
def Lo (a : Int) (b : Int) : Bool := (decide (a ≥ (wr (0 - b))) && decide (a ≤ b))
def Pa.J1 (a : Int) : Option Int := some a
def Pa (c : Int) (a : Int) : Option Int := if decide (a < 1) = true then some 0 else (gD c a).bind fun b => if decide (b < 0) = true then Pa.J1 (wr (b + a)) else Pa.J1 b
def C7 (a : Int) (b : Int) (c : Int) : Bool := (decide (a ≥ b) && decide (a ≤ c))
def Ht (a : Int) : Int := (max a (wr (0 - a)))
def Og.J1 (a : Unit) : Option Int := some (-1)
def Og.B2 (a : Int) (b : Nat) (c : Int) (d : Unit) : Option (Unit ⊕ (Int)) := if (a == c) = true then some ((.inr ((b : Int)))) else some (.inl ())
def Og (a : Li) (b : Int) : Option Int := (forL (Og.B2 b) 0 a ()).bind fun c => Sum.elim (fun e => Og.J1 ()) (fun d => some d) c
def Od.J1 (a : Unit) : Option Int := some (-1)
def Od.B2 (a : ByteArray) (b : Nat) (c : ByteArray) (d : Unit) : Option (Unit ⊕ (Int)) := if T3 a c = true then some ((.inr ((b : Int)))) else some (.inl ())
def Od (a : List ByteArray) (b : ByteArray) : Option Int := (forL (Od.B2 b) 0 a ()).bind fun c => Sum.elim (fun e => Od.J1 ()) (fun d => some d) c
def Pc.J1 (a : Unit) : Option Int := some (-1)
def Pc.B2 (a : Int → Option Bool) (b : Nat) (c : Int) (e : Unit) : Option (Unit ⊕ (Int)) := (a c).bind fun d => if d = true then some ((.inr ((b : Int)))) else some (.inl ())
def Pc (a : Li) (b : Int → Option Bool) : Option Int := (forL (Pc.B2 b) 0 a ()).bind fun c => Sum.elim (fun e => Pc.J1 ()) (fun d => some d) c
def Lk (a : Li) (b : Int → Option Bool) : Option Bool := (Pc a b).bind fun c => some (decide (c ≥ 0))
def Oe.J1 (a : Unit) : Option Int := some (-1)
def Oe.B2 (a : ByteArray → Option Bool) (b : Nat) (c : ByteArray) (e : Unit) : Option (Unit ⊕ (Int)) := (a c).bind fun d => if d = true then some ((.inr ((b : Int)))) else some (.inl ())
def Oe (a : List ByteArray) (b : ByteArray → Option Bool) : Option Int := (forL (Oe.B2 b) 0 a ()).bind fun c => Sum.elim (fun e => Oe.J1 ()) (fun d => some d) c
def Om (a : List ByteArray) (b : ByteArray → Option Bool) : Option Bool := (Oe a b).bind fun c => some (decide (c ≥ 0))
def O9.J1 (a : Unit) : Option Int := some (-1)
def O9.B2 (a : Segment → Option Bool) (b : Nat) (c : Segment) (e : Unit) : Option (Unit ⊕ (Int)) := (a c).bind fun d => if d = true then some ((.inr ((b : Int)))) else some (.inl ())
def O9 (a : List Segment) (b : Segment → Option Bool) : Option Int := (forL (O9.B2 b) 0 a ()).bind fun c => Sum.elim (fun e => O9.J1 ()) (fun d => some d) c
def Lh (a : List Segment) (b : Segment → Option Bool) : Option Bool := (O9 a b).bind fun c => some (decide (c ≥ 0))
def Oi.J1 (a : Unit) : Option Int := some (-1)
def Oi.B2 (a : Port → Option Bool) (b : Nat) (c : Port) (e : Unit) : Option (Unit ⊕ (Int)) := (a c).bind fun d => if d = true then some ((.inr ((b : Int)))) else some (.inl ())
def Oi (a : List Port) (b : Port → Option Bool) : Option Int := (forL (Oi.B2 b) 0 a ()).bind fun c => Sum.elim (fun e => Oi.J1 ()) (fun d => some d) c
def Oz (a : List Port) (b : Port → Option Bool) : Option Bool := (Oi a b).bind fun c => some (decide (c ≥ 0))
def Lf.J1 (a : Unit) : Option Int := some (-1)
def Lf.B2 (a : Station → Option Bool) (b : Nat) (c : Station) (e : Unit) : Option (Unit ⊕ (Int)) := (a c).bind fun d => if d = true then some ((.inr ((b : Int)))) else some (.inl ())
def Lf (a : List Station) (b : Station → Option Bool) : Option Int := (forL (Lf.B2 b) 0 a ()).bind fun c => Sum.elim (fun e => Lf.J1 ()) (fun d => some d) c
def N2 (a : List Station) (b : Station → Option Bool) : Option Bool := (Lf a b).bind fun c => some (decide (c ≥ 0))
def I8 (a : Segment) : Bool := (decide ((a.Points.length : Int) < 2) || decide ((a.Points.length : Int) > 8))
def Ol (a : Network) : Option Bool := if (decide ((a.Nodes.length : Int) < 1) || (decide ((a.Nodes.length : Int) > 24) || (decide ((a.Segments.length : Int) > 32) || (decide ((a.Ports.length : Int) > 24) || decide ((a.Stations.length : Int) > 12))))) = true then some false else (Lh a.Segments (fun x => some (I8 x))).bind fun b => some (!b)
def Oc.J1 (a : Li) : Option Li := some a
def Oc.J3 (a : Li × (List Bool) × Int) : Option ((Li × (List Bool) × Int) ⊕ (Li)) := some (.inl (a.1, a.2.1, wr (a.2.2 + 1)))
def Oc.J4 (a : Li × (List Bool) × Int) (b : Nat × Bool) (d : Unit) : Option ((Li × (List Bool) × Int) ⊕ (Li)) := (C0 a.1 ([a.2.2] : Li)).bind fun c => Oc.J3 (c, (a.2.1.set b.1 true), (-1))
def Oc.J6 (a : Li × (List Bool) × Int) (b : Bool) : Option (Unit ⊕ ((Li × (List Bool) × Int))) := if b = true then some ((.inr ((a.1, a.2.1, a.2.2)))) else some (.inl ())
def Oc.B5 (d : Plan) (a : Li × (List Bool) × Int) (e : Nat) (c : Segment) (g : Unit) : Option (Unit ⊕ ((Li × (List Bool) × Int))) := (ix d.Rates (e : Int)).bind fun b => if (b.2 != 0) = true then if (((Ck c b.2).2) == a.2.2) = true then (ix a.2.1 ((Ck c b.2).1)).bind fun f => Oc.J6 a (!f.2) else Oc.J6 a false else Oc.J6 a false
def Oc.B2 (b : Network) (d : Plan) (a : Li × (List Bool) × Int) : Option ((Li × (List Bool) × Int) ⊕ (Li)) := if decide (a.2.2 < (b.Nodes.length : Int)) = true then (ix a.2.1 a.2.2).bind fun c => if c.2 = true then Oc.J3 (a.1, a.2.1, a.2.2) else (forL (Oc.B5 d a) 0 b.Segments ()).bind fun e => Sum.elim (fun g => Oc.J4 a c ()) (fun f => Oc.J3 f) e else some ((.inr (a.1)))
def Oc (a : Network) (b : Plan) : Option Li := (Xm (a.Nodes.length : Int) false).bind fun c => (Cl (Oc.B2 a b) Du ([], c, 0)).bind fun d => Oc.J1 d
def Hw.J1 (a : Unit) : Int := 2
def Hw (a : Int) : Int := if (decide (a ≥ 97) && decide (a ≤ 122)) = true then 1 else if (decide (a ≥ 48) && decide (a ≤ 57)) = true then Hw.J1 () else if (a == 45) = true then Hw.J1 () else 0
def G9.J2 (a : Unit) : Option Bool := some true
def G9.B3 (a : ByteArray) (b : Nat) (d : Unit) : Option (Unit ⊕ (Bool)) := (iW a (b : Int)).bind fun c => if ((Hw c.2) == 0) = true then some ((.inr (false))) else some (.inl ())
def G9.J1 (a : ByteArray) (b : Bool) : Option Bool := if b = true then some false else (chk ((a.size : Int) ≤ 9223372036854775806)).bind fun e => (forI (G9.B3 a) 0 ((a.size : Int).toNat) ()).bind fun c => Sum.elim (fun f => G9.J2 ()) (fun d => some d) c
def G9 (a : ByteArray) : Option Bool := if decide ((a.size : Int) < 1) = true then G9.J1 a true else if decide ((a.size : Int) > 12) = true then G9.J1 a true else (iW a 0).bind fun b => G9.J1 a ((Hw b.2) != 1)
def L4.J3 (a : Network) (b : List ByteArray) (c : List ByteArray) (d : List ByteArray) : Option (Arr (List ByteArray) 4) := some (⟨[a.Nodes, b, c, d], rfl⟩ : Arr (List ByteArray) 4)
def L4.B4 (d : Nat) (a : Station) (b : List ByteArray) : Option (List ByteArray) := (C0 b ([a.Name] : List ByteArray)).bind fun c => some c
def L4.J2 (a : Network) (b : List ByteArray) (c : List ByteArray) : Option (Arr (List ByteArray) 4) := (forS L4.B4 0 a.Stations []).bind fun d => L4.J3 a b c d
def L4.B5 (d : Nat) (a : Port) (b : List ByteArray) : Option (List ByteArray) := (C0 b ([a.Name] : List ByteArray)).bind fun c => some c
def L4.J1 (a : Network) (b : List ByteArray) : Option (Arr (List ByteArray) 4) := (forS L4.B5 0 a.Ports []).bind fun c => L4.J2 a b c
def L4.B6 (d : Nat) (a : Segment) (b : List ByteArray) : Option (List ByteArray) := (C0 b ([a.Name] : List ByteArray)).bind fun c => some c
def L4 (a : Network) : Option (Arr (List ByteArray) 4) := (forS L4.B6 0 a.Segments []).bind fun b => L4.J1 a b
def Hv (a : Station) (b : Station) : Bool := (a.Node == b.Node)
def Nx.J2 (a : Unit) : Option Bool := some false
def Nx.B3 (a : Network) (b : Nat) (c : Station) (e : Unit) : Option (Unit ⊕ (Bool)) := (Lf a.Stations (fun x => some (Hv x c))).bind fun d => if decide (d < (b : Int)) = true then some ((.inr (true))) else some (.inl ())
def Nx.J1 (a : Network) (d : Unit) : Option Bool := (forL (Nx.B3 a) 0 a.Stations ()).bind fun b => Sum.elim (fun e => Nx.J2 ()) (fun c => some c) b
def Nx.J5 (a : Unit) : Option (Unit ⊕ (Bool)) := some (.inl ())
def Nx.B6 (a : Nat × (List ByteArray)) (b : Nat) (c : ByteArray) (e : Unit) : Option (Unit ⊕ (Bool)) := (Od a.2 c).bind fun d => if decide (d < (b : Int)) = true then some ((.inr (true))) else some (.inl ())
def Nx.B4 (b : Arr (List ByteArray) 4) (c : Nat) (f : Unit) : Option (Unit ⊕ (Bool)) := (ix b.l (c : Int)).bind fun a => (forL (Nx.B6 a) 0 a.2 ()).bind fun d => Sum.elim (fun g => Nx.J5 ()) (fun e => some ((.inr (e)))) d
def Nx (a : Network) : Option Bool := (L4 a).bind fun b => (forI (Nx.B4 b) 0 4 ()).bind fun c => Sum.elim (fun e => Nx.J1 a ()) (fun d => some d) c
def I9 (a : Int) (b : Network) : Bool := (decide (a < 0) || decide (a ≥ (b.Nodes.length : Int)))
def O8.J3 (a : Network) (b : Li) : Option Bool := (Lk b (fun x => some (I9 x a))).bind fun c => some (!c)
def O8.B4 (d : Nat) (a : Station) (b : Li) : Option Li := (C0 b ([a.Node] : Li)).bind fun c => some c
def O8.J2 (a : Network) (b : Li) : Option Bool := (forS O8.B4 0 a.Stations b).bind fun c => O8.J3 a c
def O8.B5 (d : Nat) (a : Port) (b : Li) : Option Li := (C0 b ([a.Node] : Li)).bind fun c => some c
def O8.J1 (a : Network) (b : Li) : Option Bool := (forS O8.B5 0 a.Ports b).bind fun c => O8.J2 a c
def O8.B6 (d : Nat) (a : Segment) (b : Li) : Option Li := (C0 b ([a.From, a.To] : Li)).bind fun c => some c
def O8 (a : Network) : Option Bool := (forS O8.B6 0 a.Segments []).bind fun b => O8.J1 a b
def Jh.J2 (a : Bool) : Option Bool := some a
def Jh.J1 (a : Segment) (d : Unit) : Option Bool := (ix a.Points 0).bind fun b => if (b.2.At == 0) = true then (ix a.Points (wr ((a.Points.length : Int) - 1))).bind fun c => Jh.J2 (c.2.At == a.Capacity) else Jh.J2 false
def Jh.J4 (a : Bool) : Option (Unit ⊕ (Bool)) := if a = true then some ((.inr (false))) else some (.inl ())
def Jh.B3 (c : Segment) (b : Nat) (a : Point) (e : Unit) : Option (Unit ⊕ (Bool)) := if (!(C7 a.Height (-500) 5000)) = true then Jh.J4 true else if (!(C7 a.Limit 0 100000000)) = true then Jh.J4 true else if decide ((b : Int) > 0) = true then (ix c.Points (wr ((b : Int) - 1))).bind fun d => Jh.J4 (decide (a.At ≤ d.2.At)) else Jh.J4 false
def Jh (a : Segment) : Option Bool := if ((a.From == a.To) || ((!(C7 a.Capacity 1 1000000)) || ((!(C7 a.Resist 0 1000)) || (!(C7 a.Wave 0 100000))))) = true then some false else (forL (Jh.B3 a) 0 a.Points ()).bind fun b => Sum.elim (fun d => Jh.J1 a ()) (fun c => some c) b
def Sv (a : Segment) : Option Bool := (Jh a).bind fun b => some (!b)
def Ja (a : Port) : Bool := (!(C7 a.Pressure 0 100000000))
def Jf (a : Station) : Bool := ((!(C7 a.Head 0 100000000)) || ((!(C7 a.Fall 0 100000)) || (!(C7 a.Suction 0 100000000))))
def Ta (a : Network) : Option Bool := (Lh a.Segments (fun x => Sv x)).bind fun b => if b = true then some false else (Oz a.Ports (fun x => some (Ja x))).bind fun c => if c = true then some false else (N2 a.Stations (fun x => some (Jf x))).bind fun d => if d = true then some false else some ((C7 a.Vapour (-100000) 100000000) && (C7 a.Settle 0 100))
def S3 (a : ByteArray) : Option Bool := (G9 a).bind fun b => some (!b)
def Dw.J1 (a : Network) (e : Unit) : Option Int := (Nx a).bind fun b => if b = true then some 7 else (O8 a).bind fun c => if (!c) = true then some 8 else (Ta a).bind fun d => if (!d) = true then some 9 else some 0
def Dw.B2 (a : Arr (List ByteArray) 4) (b : Nat) (e : Unit) : Option (Unit ⊕ (Int)) := (ix a.l (b : Int)).bind fun c => (Om c.2 (fun x => S3 x)).bind fun d => if d = true then some ((.inr (3))) else some (.inl ())
def Dw (a : Network) : Option Int := (Ol a).bind fun b => if (!b) = true then some 4 else (L4 a).bind fun c => (forI (Dw.B2 c) 0 4 ()).bind fun d => Sum.elim (fun f => Dw.J1 a ()) (fun e => some e) d
def Ll.J2 (a : flow_streams) (b : Int × Int × Int) (c : Arr Int 24) : Option flow_streams := if decide (b.2.1 ≥ 0) = true then (ix a.come.l b.2.1).bind fun d => some (⟨(a.come.set d.1 (wr (d.2 + b.2.2))), c⟩ : flow_streams) else some (⟨a.come, c⟩ : flow_streams)
def Ll.J1 (a : flow_streams) (b : Int × Int × Int) : Option flow_streams := if decide (b.1 ≥ 0) = true then (ix a.leave.l b.1).bind fun c => Ll.J2 a b (a.leave.set c.1 (wr (c.2 + b.2.2))) else Ll.J2 a b a.leave
def Ll (b : flow_streams) (c : Int) (d : Int) (a : Int) : Option flow_streams := if decide (a < 0) = true then Ll.J1 b (d, c, wr (0 - a)) else Ll.J1 b (c, d, a)
def Nu.J2 (a : (Arr Int 24) × (Arr Int 24)) : Option flow_streams := some (⟨a.1, a.2⟩ : flow_streams)
def Nu.B3 (c : Plan) (d : Nat) (e : Port) (a : (Arr Int 24) × (Arr Int 24)) : Option ((Arr Int 24) × (Arr Int 24)) := (ix c.Ports (d : Int)).bind fun f => (Ll (⟨a.1, a.2⟩ : flow_streams) (-1) e.Node f.2).bind fun b => some (b.come, b.leave)
def Nu.J1 (c : Network) (d : Plan) (a : (Arr Int 24) × (Arr Int 24)) : Option flow_streams := (forS (Nu.B3 d) 0 c.Ports (a.1, a.2)).bind fun b => Nu.J2 (b.1, b.2)
def Nu.B4 (d : Plan) (e : Nat) (a : Segment) (b : (Arr Int 24) × (Arr Int 24)) : Option ((Arr Int 24) × (Arr Int 24)) := (ix d.Rates (e : Int)).bind fun f => (Ll (⟨b.1, b.2⟩ : flow_streams) a.From a.To f.2).bind fun c => some (c.come, c.leave)
def Nu (a : Network) (b : Plan) : Option flow_streams := (forS (Nu.B4 b) 0 a.Segments ((Arr.rep 24 (0 : Int)), (Arr.rep 24 (0 : Int)))).bind fun c => Nu.J1 a b (c.1, c.2)
def L1 (a : Int) : Bool := (!(Lo a 1000))
def Ga.J1 (a : Network) (b : Plan) (f : Unit) : Option Int := (Lk b.Ports (fun x => some (L1 x))).bind fun d => if d = true then some 1 else (Nu a b).bind fun c => if (!decide (c.come = c.leave)) = true then some 12 else (Oc a b).bind fun e => if decide ((e.length : Int) < (a.Nodes.length : Int)) = true then some 13 else some 0
def Ga.B2 (a : Plan) (b : Nat) (c : Segment) (e : Unit) : Option (Unit ⊕ (Int)) := (ix a.Rates (b : Int)).bind fun d => if (!(Lo d.2 (min 1000 c.Capacity))) = true then some ((.inr (1))) else some (.inl ())
def Ga (a : Network) (b : Plan) : Option Int := (Dw a).bind fun c => if (c != 0) = true then some c else if (((b.Rates.length : Int) != (a.Segments.length : Int)) || (((b.Ports.length : Int) != (a.Ports.length : Int)) || ((b.Pumps.length : Int) != (a.Stations.length : Int)))) = true then some 9 else (forL (Ga.B2 b) 0 a.Segments ()).bind fun d => Sum.elim (fun f => Ga.J1 a b ()) (fun e => some e) d
def S7 (a : Li) : Option KS := (Wa a 0 (min (a.length : Int) 2000)).bind fun b => some (⟨b, 0⟩ : KS)
def Sx (a : KS) : Option (Int × KS) := if decide (a.At ≥ (a.L_.length : Int)) = true then some (0, a) else (ix a.L_ (wr ((wr (a.At + 1)) - 1))).bind fun b => some (b.2, (⟨a.L_, wr (a.At + 1)⟩ : KS))
def C6 (b : KS) (c : Int) : Option (Int × KS) := (Sx b).bind fun a => (Pa a.1 c).bind fun d => some (d, a.2)
def Gb (a : ByteArray) (b : Int) : Option ByteArray := (Su ([IntKind.u8.wrap (wr (97 + (b.tmod 26)))] : Li)).bind fun c => (cC a c).bind fun d => some d
def C8 (c : KS) (a : Li) : Option (Int × KS) := (C6 c (a.length : Int)).bind fun b => (ix a b.1).bind fun d => some (d.2, b.2)
def Gx (c : KS) (a : Int) (d : Int) : Option (Int × KS) := (C6 c (wr ((wr (d - a)) + 1))).bind fun b => some (wr (a + b.1), b.2)
def Ln.J2 (b : Li × Int × Int × Int) (e : ByteArray) (c : Int × KS) (f : Int × KS) (g : Int × KS) (h : Int × KS) (a : Li × Int × (List Point)) : Option (Segment × KS) := (Gx (⟨a.1, a.2.1⟩ : KS) (-5) 30).bind fun d => (C0 a.2.2 ([(⟨c.1, d.1, h.1⟩ : Point)] : List Point)).bind fun i => some ((⟨e, b.2.2.1, b.2.2.2, c.1, f.1, g.1, i⟩ : Segment), d.2)
def Ln.J4 (g : Int × KS) (h : Int × KS) (a : Li × Int × (List Point) × Int) (c : Li × Int × Bool) : Option ((Li × Int × (List Point) × Int) ⊕ ((Li × Int × (List Point)))) := if c.2.2 = true then (Gx (⟨c.1, c.2.1⟩ : KS) 1 40).bind fun b => if decide ((wr (a.2.2.2 + b.1)) ≥ g.1) = true then some ((.inr ((b.2.L_, b.2.At, a.2.2.1)))) else (Gx b.2 (-5) 60).bind fun e => (C8 e.2 ([1, 1, 10] : Li)).bind fun f => (C6 f.2 3).bind fun d => (C0 a.2.2.1 ([(⟨wr (a.2.2.2 + b.1), wr (e.1 * f.1), wr (h.1 - (wr (d.1 * 1000)))⟩ : Point)] : List Point)).bind fun i => some (.inl (d.2.L_, d.2.At, i, wr (a.2.2.2 + b.1))) else some ((.inr ((c.1, c.2.1, a.2.2.1))))
def Ln.B3 (c : Int × KS) (d : Int × KS) (a : Li × Int × (List Point) × Int) : Option ((Li × Int × (List Point) × Int) ⊕ ((Li × Int × (List Point)))) := if decide ((a.2.2.1.length : Int) < 7) = true then (C6 (⟨a.1, a.2.1⟩ : KS) 3).bind fun b => Ln.J4 c d a (b.2.L_, b.2.At, decide (b.1 > 0)) else Ln.J4 c d a (a.1, a.2.1, false)
def Ln.J1 (g : Int) (b : Li × Int × Int × Int) : Option (Segment × KS) := (Gb (⟨#[103]⟩ : ByteArray) g).bind fun h => (C8 (⟨b.1, b.2.1⟩ : KS) ([1, 2, 7, 20, 60, 200, 1000] : Li)).bind fun c => (C8 c.2 ([0, 1, 5, 1000] : Li)).bind fun e => (C8 e.2 ([0, 50, 1000, 100000] : Li)).bind fun f => (C8 f.2 ([1000000, 6000000, 100000000] : Li)).bind fun a => (Gx a.2 (-5) 30).bind fun d => (C0 [] ([(⟨0, d.1, a.1⟩ : Point)] : List Point)).bind fun i => (Cl (Ln.B3 c a) Du (d.2.L_, d.2.At, i, 0)).bind fun j => Ln.J2 b h c e f a j
def Ln (e : KS) (b : Int) (c : Int) (d : Int) : Option (Segment × KS) := (C6 e 4).bind fun a => if (a.1 == 0) = true then Ln.J1 b (a.2.L_, a.2.At, d, c) else Ln.J1 b (a.2.L_, a.2.At, c, d)
def S9.J4 (b : Int × KS) (c : Int × KS) (d : Li × Int × (List ByteArray)) (e : Li × Int × (List Segment)) (a : Li × Int × (List Port) × (List Station)) : Option (Network × KS) := some ((⟨d.2.2, e.2.2, a.2.2.1, a.2.2.2, b.1, c.1⟩ : Network), (⟨a.1, a.2.1⟩ : KS))
def S9.J6 (b : Li × Int × (List Port) × (List Station) × Int) (a : Li × Int × (List Port) × (List Station)) : Option ((Li × Int × (List Port) × (List Station) × Int) ⊕ ((Li × Int × (List Port) × (List Station)))) := some (.inl (a.1, a.2.1, a.2.2.1, a.2.2.2, wr (b.2.2.2.2 + 1)))
def S9.J8 (a : Li × Int × (List Port) × (List Station) × Int) (d : Li × Int × (List Port)) (b : Li × Int × Bool) : Option ((Li × Int × (List Port) × (List Station) × Int) ⊕ ((Li × Int × (List Port) × (List Station)))) := if b.2.2 = true then (Gb (⟨#[115]⟩ : ByteArray) (a.2.2.2.1.length : Int)).bind fun g => (C8 (⟨b.1, b.2.1⟩ : KS) ([500000, 2000000, 0] : Li)).bind fun e => (C8 e.2 ([0, 200, 100000] : Li)).bind fun f => (C8 f.2 ([0, 100000, 400000] : Li)).bind fun c => (C0 a.2.2.2.1 ([(⟨g, a.2.2.2.2, e.1, f.1, c.1⟩ : Station)] : List Station)).bind fun h => S9.J6 a (c.2.L_, c.2.At, d.2.2, h) else S9.J6 a (b.1, b.2.1, d.2.2, a.2.2.2.1)
def S9.J7 (d : Li × Int × (List ByteArray)) (b : Li × Int × (List Port) × (List Station) × Int) (a : Li × Int × (List Port)) : Option ((Li × Int × (List Port) × (List Station) × Int) ⊕ ((Li × Int × (List Port) × (List Station)))) := if decide (b.2.2.2.2 < (wr ((d.2.2.length : Int) - 1))) = true then (C6 (⟨a.1, a.2.1⟩ : KS) 3).bind fun c => S9.J8 b a (c.2.L_, c.2.At, (c.1 == 0)) else S9.J8 b a (a.1, a.2.1, false)
def S9.J9 (d : Li × Int × (List ByteArray)) (a : Li × Int × (List Port) × (List Station) × Int) (b : Li × Int × Bool) : Option ((Li × Int × (List Port) × (List Station) × Int) ⊕ ((Li × Int × (List Port) × (List Station)))) := if b.2.2 = true then (Gb (⟨#[113]⟩ : ByteArray) (a.2.2.1.length : Int)).bind fun e => (C8 (⟨b.1, b.2.1⟩ : KS) ([300000, 1000000, 0, 5000000] : Li)).bind fun c => (C0 a.2.2.1 ([(⟨e, a.2.2.2.2, c.1⟩ : Port)] : List Port)).bind fun f => S9.J7 d a (c.2.L_, c.2.At, f) else S9.J7 d a (b.1, b.2.1, a.2.2.1)
def S9.B5 (b : Li × Int × (List ByteArray)) (a : Li × Int × (List Port) × (List Station) × Int) : Option ((Li × Int × (List Port) × (List Station) × Int) ⊕ ((Li × Int × (List Port) × (List Station)))) := if decide (a.2.2.2.2 ≤ (wr ((b.2.2.length : Int) - 1))) = true then if (a.2.2.2.2 == 0) = true then S9.J9 b a (a.1, a.2.1, true) else if (a.2.2.2.2 == (wr ((b.2.2.length : Int) - 1))) = true then S9.J9 b a (a.1, a.2.1, true) else (C6 (⟨a.1, a.2.1⟩ : KS) 2).bind fun c => S9.J9 b a (c.2.L_, c.2.At, (c.1 == 0)) else some ((.inr ((a.1, a.2.1, a.2.2.1, a.2.2.2.1))))
def S9.J3 (c : Int × KS) (d : Int × KS) (b : Li × Int × (List ByteArray)) (a : Li × Int × (List Segment)) : Option (Network × KS) := (Cl (S9.B5 b) Du (a.1, a.2.1, [], [], 0)).bind fun e => S9.J4 c d b a e
def S9.B10 (d : Li × Int × (List ByteArray)) (a : Li × Int × (List Segment) × Int) : Option ((Li × Int × (List Segment) × Int) ⊕ ((Li × Int × (List Segment)))) := if decide (a.2.2.2 > 0) = true then (C6 (⟨a.1, a.2.1⟩ : KS) (wr ((d.2.2.length : Int) - 1))).bind fun b => (Gx b.2 (wr (b.1 + 1)) (wr ((d.2.2.length : Int) - 1))).bind fun e => (Ln e.2 (a.2.2.1.length : Int) b.1 e.1).bind fun c => (C0 a.2.2.1 ([c.1] : List Segment)).bind fun f => some (.inl (c.2.L_, c.2.At, f, wr (a.2.2.2 - 1))) else some ((.inr ((a.1, a.2.1, a.2.2.1))))
def S9.J2 (d : Int × KS) (e : Int × KS) (c : Li × Int × (List ByteArray)) (a : Li × Int × (List Segment)) : Option (Network × KS) := (C6 (⟨a.1, a.2.1⟩ : KS) 4).bind fun b => (Cl (S9.B10 c) Du (b.2.L_, b.2.At, a.2.2, b.1)).bind fun f => S9.J3 d e c f
def S9.B11 (c : Li × Int × (List ByteArray)) (a : Li × Int × (List Segment) × Int) : Option ((Li × Int × (List Segment) × Int) ⊕ ((Li × Int × (List Segment)))) := if decide (a.2.2.2 < (wr ((c.2.2.length : Int) - 1))) = true then (Ln (⟨a.1, a.2.1⟩ : KS) (a.2.2.1.length : Int) a.2.2.2 (wr (a.2.2.2 + 1))).bind fun b => (C0 a.2.2.1 ([b.1] : List Segment)).bind fun d => some (.inl (b.2.L_, b.2.At, d, wr (a.2.2.2 + 1))) else some ((.inr ((a.1, a.2.1, a.2.2.1))))
def S9.J1 (b : Int × KS) (c : Int × KS) (a : Li × Int × (List ByteArray)) : Option (Network × KS) := (Cl (S9.B11 a) Du (a.1, a.2.1, [], 0)).bind fun d => S9.J2 b c a d
def S9.B12 (b : Int × KS) (a : (List ByteArray) × Int) : Option (((List ByteArray) × Int) ⊕ ((Li × Int × (List ByteArray)))) := if decide (a.2 > 0) = true then (Gb (⟨#[110]⟩ : ByteArray) (a.1.length : Int)).bind fun c => (C0 a.1 ([c] : List ByteArray)).bind fun d => some (.inl (d, wr (a.2 - 1))) else some ((.inr ((b.2.L_, b.2.At, a.1))))
def S9 (d : KS) : Option (Network × KS) := (C8 d ([(-100000), 0, 50000] : Li)).bind fun a => (C8 a.2 ([0, 1, 5, 100] : Li)).bind fun b => (Gx b.2 2 6).bind fun c => (Cl (S9.B12 c) Du ([], c.1)).bind fun e => S9.J1 a b e
def G7 (a : Int) : Int := (max a (wr (0 - a)))
def S4.J2 (a : List Bool) (b : Li) (c : Li) : Option Plan := some (⟨b, c, a⟩ : Plan)
def S4.B3 (d : Nat) (a : Int) (b : Li) : Option Li := (C0 b ([wr (0 - a)] : Li)).bind fun c => some c
def S4.J1 (a : Plan) (b : List Bool) (c : Li) : Option Plan := (forS S4.B3 0 a.Ports []).bind fun d => S4.J2 b c d
def S4.B4 (d : Nat) (a : Int) (b : Li) : Option Li := (C0 b ([wr (0 - a)] : Li)).bind fun c => some c
def S4 (a : Plan) : Option Plan := (C0 ([] : List Bool) a.Pumps).bind fun b => (forS S4.B4 0 a.Rates []).bind fun c => S4.J1 a b c
def Lz.J3 (b : Li × Int × (List Bool)) (c : Int × KS) (a : Li × Int × Li × Li) : Option (Plan × KS) := if (c.1 == 0) = true then (S4 (⟨a.2.2.1, a.2.2.2, b.2.2⟩ : Plan)).bind fun d => some (d, (⟨a.1, a.2.1⟩ : KS)) else some ((⟨a.2.2.1, a.2.2.2, b.2.2⟩ : Plan), (⟨a.1, a.2.1⟩ : KS))
def Lz.J5 (b : Li × Int × Li × Li × Int) (a : Li × Int × Li × Li) : Option ((Li × Int × Li × Li × Int) ⊕ ((Li × Int × Li × Li))) := some (.inl (a.1, a.2.1, a.2.2.1, a.2.2.2, wr (b.2.2.2.2 - 1)))
def Lz.J10 (a : Li) : Option Li := some a
def Lz.B9 (g : Network) (c : Int × KS) (h : Li × Int × Li × Int) (i : Nat) (a : Li) : Option Li := (ix h.2.2.1 (i : Int)).bind fun b => (ix g.Segments b.2).bind fun d => if decide (d.2.From < d.2.To) = true then (ix a b.2).bind fun e => Lz.J10 (a.set e.1 (wr (e.2 + c.1))) else (ix a b.2).bind fun f => Lz.J10 (a.set f.1 (wr (f.2 - c.1)))
def Lz.J8 (c : Network) (b : Li × Int × Li × Li × Int) (d : Int × KS) (a : Li × Int × Li × Int) (e : Li) : Option ((Li × Int × Li × Li × Int) ⊕ ((Li × Int × Li × Li))) := (forJ (Lz.B9 c d a) 0 a.2.2.1.length b.2.2.1).bind fun f => Lz.J5 b (a.1, a.2.1, f, e)
def Lz.J7 (e : Network) (a : Li × Int × Li × Li × Int) (f : Int × KS) (c : Int × KS) (b : Li × Int × Li × Int) : Option ((Li × Int × Li × Li × Int) ⊕ ((Li × Int × Li × Li))) := if decide (b.2.2.2 < 0) = true then Lz.J5 a (b.1, b.2.1, a.2.2.1, a.2.2.2.1) else (ix a.2.2.2.1 f.1).bind fun d => (ix a.2.2.2.1 b.2.2.2).bind fun g => (ix (a.2.2.2.1.set d.1 (wr (d.2 + c.1))) b.2.2.2).bind fun h => Lz.J8 e a c b ((a.2.2.2.1.set d.1 (wr (d.2 + c.1))).set h.1 (wr (g.2 - c.1)))
def Lz.J13 (g : Network) (b : Li × Int × Int × Li × Int) (a : Li × Int × Int) (c : Li) : Option ((Li × Int × Int × Li × Int) ⊕ ((Li × Int × Li × Int))) := if ((c.length : Int) == 0) = true then some ((.inr ((a.1, a.2.1, b.2.2.2.1, a.2.2)))) else (C6 (⟨a.1, a.2.1⟩ : KS) (c.length : Int)).bind fun d => (ix c d.1).bind fun e => (C0 b.2.2.2.1 ([e.2] : Li)).bind fun h => (ix g.Segments e.2).bind fun f => some (.inl (d.2.L_, d.2.At, wr ((wr (f.2.From + f.2.To)) - b.2.2.1), h, a.2.2))
def Lz.J15 (a : Li) : Option Li := some a
def Lz.J16 (b : Nat) (a : Li) (c : Bool) : Option Li := if c = true then (C0 a ([(b : Int)] : Li)).bind fun d => Lz.J15 d else Lz.J15 a
def Lz.B14 (e : Li × Int × Li × Li × Int) (f : Int × KS) (c : Li × Int × Int × Li × Int) (b : Nat) (a : Segment) (d : Li) : Option Li := if (a.From == c.2.2.1) = true then if decide ((wr ((wr (a.From + a.To)) - c.2.2.1)) > c.2.2.1) = true then (ix e.2.2.1 (b : Int)).bind fun g => Lz.J16 b d (decide ((wr ((G7 g.2) + f.1)) ≤ (min 1000 a.Capacity))) else Lz.J16 b d false else if (a.To == c.2.2.1) = true then if decide ((wr ((wr (a.From + a.To)) - c.2.2.1)) > c.2.2.1) = true then (ix e.2.2.1 (b : Int)).bind fun h => Lz.J16 b d (decide ((wr ((G7 h.2) + f.1)) ≤ (min 1000 a.Capacity))) else Lz.J16 b d false else Lz.J16 b d false
def Lz.J12 (c : Network) (d : Li × Int × Li × Li × Int) (e : Int × KS) (b : Li × Int × Int × Li × Int) (a : Li × Int × Int) : Option ((Li × Int × Int × Li × Int) ⊕ ((Li × Int × Li × Int))) := if decide (a.2.2 ≥ 0) = true then some ((.inr ((a.1, a.2.1, b.2.2.2.1, a.2.2)))) else (forS (Lz.B14 d e b) 0 c.Segments []).bind fun f => Lz.J13 c b a f
def Lz.J18 (a : Li × Int × Int) : Option (Li × Int × Int) := some (a.1, a.2.1, a.2.2)
def Lz.J19 (b : Nat) (c : Li × Int × Int) (a : Li × Int × Bool) : Option (Li × Int × Int) := if a.2.2 = true then Lz.J18 (a.1, a.2.1, (b : Int)) else Lz.J18 (a.1, a.2.1, c.2.2)
def Lz.B17 (f : Li × Int × Li × Li × Int) (g : Int × KS) (h : Int × KS) (d : Li × Int × Int × Li × Int) (b : Nat) (i : Port) (a : Li × Int × Int) : Option (Li × Int × Int) := if (i.Node == d.2.2.1) = true then if ((b : Int) != g.1) = true then (ix f.2.2.2.1 (b : Int)).bind fun e => if decide (e.2 ≤ 0) = true then if decide ((wr (e.2 - h.1)) ≥ (-1000)) = true then if decide ((d.2.2.2.1.length : Int) > 0) = true then (C6 (⟨a.1, a.2.1⟩ : KS) 2).bind fun c => Lz.J19 b a (c.2.L_, c.2.At, (c.1 == 0)) else Lz.J19 b a (a.1, a.2.1, false) else Lz.J19 b a (a.1, a.2.1, false) else Lz.J19 b a (a.1, a.2.1, false) else Lz.J19 b a (a.1, a.2.1, false) else Lz.J19 b a (a.1, a.2.1, false)
def Lz.B11 (c : Network) (d : Li × Int × Li × Li × Int) (f : Int × KS) (e : Int × KS) (a : Li × Int × Int × Li × Int) : Option ((Li × Int × Int × Li × Int) ⊕ ((Li × Int × Li × Int))) := if decide (a.2.2.2.2 < 0) = true then (forS (Lz.B17 d f e a) 0 c.Ports (a.1, a.2.1, a.2.2.2.2)).bind fun b => Lz.J12 c d e a (b.1, b.2.1, b.2.2) else some ((.inr ((a.1, a.2.1, a.2.2.2.1, a.2.2.2.2))))
def Lz.J6 (c : Network) (b : Li × Int × Li × Li × Int) (d : Int × KS) (e : Nat × Port) (a : Int × KS) (f : Bool) : Option ((Li × Int × Li × Li × Int) ⊕ ((Li × Int × Li × Li))) := if f = true then Lz.J5 b (a.2.L_, a.2.At, b.2.2.1, b.2.2.2.1) else (Cl (Lz.B11 c b d a) Du (a.2.L_, a.2.At, e.2.Node, [], (-1))).bind fun g => Lz.J7 c b d a g
def Lz.B4 (c : Network) (a : Li × Int × Li × Li × Int) : Option ((Li × Int × Li × Li × Int) ⊕ ((Li × Int × Li × Li))) := if decide (a.2.2.2.2 > 0) = true then (C6 (⟨a.1, a.2.1⟩ : KS) (c.Ports.length : Int)).bind fun b => (ix c.Ports b.1).bind fun e => (C8 b.2 ([1, 5, 30, 300] : Li)).bind fun f => (Gx f.2 1 f.1).bind fun d => (ix a.2.2.2.1 b.1).bind fun g => if decide (g.2 < 0) = true then Lz.J6 c a b e d true else Lz.J6 c a b e d (decide ((wr (g.2 + d.1)) > 1000)) else some ((.inr ((a.1, a.2.1, a.2.2.1, a.2.2.2.1))))
def Lz.J2 (e : Network) (c : Li × Li) (a : Li × Int × (List Bool)) : Option (Plan × KS) := (C6 (⟨a.1, a.2.1⟩ : KS) 3).bind fun d => (C6 d.2 5).bind fun b => (Cl (Lz.B4 e) Du (b.2.L_, b.2.At, c.1, c.2, b.1)).bind fun f => Lz.J3 a d f
def Lz.B20 (c : Network) (a : Li × Int × (List Bool) × Int) : Option ((Li × Int × (List Bool) × Int) ⊕ ((Li × Int × (List Bool)))) := if decide (a.2.2.2 < (c.Stations.length : Int)) = true then (C6 (⟨a.1, a.2.1⟩ : KS) 2).bind fun b => (C0 a.2.2.1 ([(b.1 == 0)] : List Bool)).bind fun d => some (.inl (b.2.L_, b.2.At, d, wr (a.2.2.2 + 1))) else some ((.inr ((a.1, a.2.1, a.2.2.1))))
def Lz.J1 (a : KS) (b : Network) (c : Li × Li) : Option (Plan × KS) := (Cl (Lz.B20 b) Du (a.L_, a.At, [], 0)).bind fun d => Lz.J2 b c d
def Lz (b : KS) (a : Network) : Option (Plan × KS) := (Xm (a.Segments.length : Int) (0 : Int)).bind fun c => (Xm (a.Ports.length : Int) (0 : Int)).bind fun d => Lz.J1 b a (c, d)
def Ch (a : Int) (b : Int) (c : Int) : Bool := (decide (a ≥ b) && decide (a ≤ c))
def Ow.J3 (a : Network) (b : List ByteArray) (c : List ByteArray) (d : List ByteArray) : Option (Arr (List ByteArray) 4) := some (⟨[a.Nodes, b, c, d], rfl⟩ : Arr (List ByteArray) 4)
def Ow.B4 (d : Nat) (a : Station) (b : List ByteArray) : Option (List ByteArray) := (C0 b ([a.Name] : List ByteArray)).bind fun c => some c
def Ow.J2 (a : Network) (b : List ByteArray) (c : List ByteArray) : Option (Arr (List ByteArray) 4) := (forS Ow.B4 0 a.Stations []).bind fun d => Ow.J3 a b c d
def Ow.B5 (d : Nat) (a : Port) (b : List ByteArray) : Option (List ByteArray) := (C0 b ([a.Name] : List ByteArray)).bind fun c => some c
def Ow.J1 (a : Network) (b : List ByteArray) : Option (Arr (List ByteArray) 4) := (forS Ow.B5 0 a.Ports []).bind fun c => Ow.J2 a b c
def Ow.B6 (d : Nat) (a : Segment) (b : List ByteArray) : Option (List ByteArray) := (C0 b ([a.Name] : List ByteArray)).bind fun c => some c
def Ow (a : Network) : Option (Arr (List ByteArray) 4) := (forS Ow.B6 0 a.Segments []).bind fun b => Ow.J1 a b
def Ov.J2 (a : Unit) : Option Bool := some true
def Ov.J4 (a : Int) (b : Bool) : Option (Int ⊕ (Bool ⊕ Unit)) := if b = true then some ((.inr (.inl (false)))) else some (.inl (wr (a + 1)))
def Ov.B3 (c : ByteArray) (b : Int) : Option (Int ⊕ (Bool ⊕ Unit)) := if decide (b < (c.size : Int)) = true then (iW c b).bind fun a => if decide (a.2 < 97) = true then if decide (a.2 < 48) = true then Ov.J4 b (a.2 != 45) else if decide (a.2 > 57) = true then Ov.J4 b (a.2 != 45) else Ov.J4 b false else if decide (a.2 > 122) = true then if decide (a.2 < 48) = true then Ov.J4 b (a.2 != 45) else if decide (a.2 > 57) = true then Ov.J4 b (a.2 != 45) else Ov.J4 b false else Ov.J4 b false else some ((.inr (.inr (()))))
def Ov.J1 (a : ByteArray) (b : Bool) : Option Bool := if b = true then some false else (Cl (Ov.B3 a) Du 0).bind fun c => Sum.elim (fun d => some d) (fun e => Ov.J2 e) c
def Ov (a : ByteArray) : Option Bool := if decide ((a.size : Int) < 1) = true then Ov.J1 a true else if decide ((a.size : Int) > 12) = true then Ov.J1 a true else (iW a 0).bind fun b => if decide (b.2 < 97) = true then Ov.J1 a true else Ov.J1 a (decide (b.2 > 122))
def Pd.J1 (a : Unit) : Option Bool := some false
def Pd.J3 (a : Unit) : Option (Unit ⊕ (Bool)) := some (.inl ())
def Pd.B4 (b : List ByteArray) (c : Nat) (d : ByteArray) (a : Int) : Option (Int ⊕ (Bool ⊕ Unit)) := if decide (a < (c : Int)) = true then (ix b a).bind fun e => if T3 d e.2 = true then some ((.inr (.inl (true)))) else some (.inl (wr (a + 1))) else some ((.inr (.inr (()))))
def Pd.B2 (a : List ByteArray) (b : Nat) (c : ByteArray) (g : Unit) : Option (Unit ⊕ (Bool)) := (Cl (Pd.B4 a b c) Du 0).bind fun d => Sum.elim (fun e => some ((.inr (e)))) (fun f => Pd.J3 f) d
def Pd (a : List ByteArray) : Option Bool := (forL (Pd.B2 a) 0 a ()).bind fun b => Sum.elim (fun d => Pd.J1 ()) (fun c => some c) b
def Oq.J2 (a : Unit) : Option Bool := some true
def Oq.J4 (a : Bool) : Option (Unit ⊕ (Bool)) := if a = true then some ((.inr (false))) else some (.inl ())
def Oq.B3 (c : Segment) (b : Nat) (a : Point) (e : Unit) : Option (Unit ⊕ (Bool)) := if decide ((b : Int) > 0) = true then (ix c.Points (wr ((b : Int) - 1))).bind fun d => if decide (a.At ≤ d.2.At) = true then Oq.J4 true else if (!(Ch a.Height (-500) 5000)) = true then Oq.J4 true else Oq.J4 (!(Ch a.Limit 0 100000000)) else if (!(Ch a.Height (-500) 5000)) = true then Oq.J4 true else Oq.J4 (!(Ch a.Limit 0 100000000))
def Oq.J1 (a : Segment) (b : Bool) : Option Bool := if b = true then some false else (forL (Oq.B3 a) 0 a.Points ()).bind fun c => Sum.elim (fun e => Oq.J2 ()) (fun d => some d) c
def Oq (a : Segment) : Option Bool := if (a.From == a.To) = true then Oq.J1 a true else if (!(Ch a.Capacity 1 1000000)) = true then Oq.J1 a true else if (!(Ch a.Resist 0 1000)) = true then Oq.J1 a true else if (!(Ch a.Wave 0 100000)) = true then Oq.J1 a true else (ix a.Points 0).bind fun b => if (b.2.At != 0) = true then Oq.J1 a true else (ix a.Points (wr ((a.Points.length : Int) - 1))).bind fun c => Oq.J1 a (c.2.At != a.Capacity)
def Eg.J10 (a : Network) (b : Unit) : Option Int := if ((!(Ch a.Vapour (-100000) 100000000)) || (!(Ch a.Settle 0 100))) = true then some 9 else some 0
def Eg.B11 (b : Nat) (a : Station) (c : Unit) : Option (Unit ⊕ (Int)) := if ((!(Ch a.Head 0 100000000)) || ((!(Ch a.Fall 0 100000)) || (!(Ch a.Suction 0 100000000)))) = true then some ((.inr (9))) else some (.inl ())
def Eg.J9 (a : Network) (d : Unit) : Option Int := (forL Eg.B11 0 a.Stations ()).bind fun b => Sum.elim (fun e => Eg.J10 a ()) (fun c => some c) b
def Eg.B12 (b : Nat) (a : Port) (c : Unit) : Option (Unit ⊕ (Int)) := if (!(Ch a.Pressure 0 100000000)) = true then some ((.inr (9))) else some (.inl ())
def Eg.J8 (a : Network) (d : Unit) : Option Int := (forL Eg.B12 0 a.Ports ()).bind fun b => Sum.elim (fun e => Eg.J9 a ()) (fun c => some c) b
def Eg.B13 (c : Nat) (a : Segment) (d : Unit) : Option (Unit ⊕ (Int)) := (Oq a).bind fun b => if (!b) = true then some ((.inr (9))) else some (.inl ())
def Eg.J7 (a : Network) (d : Unit) : Option Int := (forL Eg.B13 0 a.Segments ()).bind fun b => Sum.elim (fun e => Eg.J8 a ()) (fun c => some c) b
def Eg.B14 (a : Network) (c : Nat) (b : Station) (d : Unit) : Option (Unit ⊕ (Int)) := if (!(Ch b.Node 0 (wr ((a.Nodes.length : Int) - 1)))) = true then some ((.inr (8))) else some (.inl ())
def Eg.J6 (a : Network) (d : Unit) : Option Int := (forL (Eg.B14 a) 0 a.Stations ()).bind fun b => Sum.elim (fun e => Eg.J7 a ()) (fun c => some c) b
def Eg.B15 (a : Network) (c : Nat) (b : Port) (d : Unit) : Option (Unit ⊕ (Int)) := if (!(Ch b.Node 0 (wr ((a.Nodes.length : Int) - 1)))) = true then some ((.inr (8))) else some (.inl ())
def Eg.J5 (a : Network) (d : Unit) : Option Int := (forL (Eg.B15 a) 0 a.Ports ()).bind fun b => Sum.elim (fun e => Eg.J6 a ()) (fun c => some c) b
def Eg.B16 (a : Network) (c : Nat) (b : Segment) (d : Unit) : Option (Unit ⊕ (Int)) := if ((!(Ch b.From 0 (wr ((a.Nodes.length : Int) - 1)))) || (!(Ch b.To 0 (wr ((a.Nodes.length : Int) - 1))))) = true then some ((.inr (8))) else some (.inl ())
def Eg.J4 (a : Network) (d : Unit) : Option Int := (forL (Eg.B16 a) 0 a.Segments ()).bind fun b => Sum.elim (fun e => Eg.J5 a ()) (fun c => some c) b
def Eg.J18 (a : Unit) : Option (Unit ⊕ (Int)) := some (.inl ())
def Eg.B19 (b : Network) (c : Nat) (d : Station) (a : Int) : Option (Int ⊕ (Int ⊕ Unit)) := if decide (a < (c : Int)) = true then (ix b.Stations a).bind fun e => if (d.Node == e.2.Node) = true then some ((.inr (.inl (7)))) else some (.inl (wr (a + 1))) else some ((.inr (.inr (()))))
def Eg.B17 (a : Network) (b : Nat) (c : Station) (g : Unit) : Option (Unit ⊕ (Int)) := (Cl (Eg.B19 a b c) Du 0).bind fun d => Sum.elim (fun e => some ((.inr (e)))) (fun f => Eg.J18 f) d
def Eg.J3 (a : Network) (d : Unit) : Option Int := (forL (Eg.B17 a) 0 a.Stations ()).bind fun b => Sum.elim (fun e => Eg.J4 a ()) (fun c => some c) b
def Eg.B20 (a : Arr (List ByteArray) 4) (b : Nat) (e : Unit) : Option (Unit ⊕ (Int)) := (ix a.l (b : Int)).bind fun c => (Pd c.2).bind fun d => if d = true then some ((.inr (7))) else some (.inl ())
def Eg.J2 (a : Network) (b : Arr (List ByteArray) 4) (e : Unit) : Option Int := (forI (Eg.B20 b) 0 4 ()).bind fun c => Sum.elim (fun f => Eg.J3 a ()) (fun d => some d) c
def Eg.J22 (a : Unit) : Option (Unit ⊕ (Int)) := some (.inl ())
def Eg.B23 (c : Nat) (a : ByteArray) (d : Unit) : Option (Unit ⊕ (Int)) := (Ov a).bind fun b => if (!b) = true then some ((.inr (3))) else some (.inl ())
def Eg.B21 (a : Arr (List ByteArray) 4) (b : Nat) (f : Unit) : Option (Unit ⊕ (Int)) := (ix a.l (b : Int)).bind fun c => (forL Eg.B23 0 c.2 ()).bind fun d => Sum.elim (fun g => Eg.J22 ()) (fun e => some ((.inr (e)))) d
def Eg.J1 (a : Network) (e : Unit) : Option Int := (Ow a).bind fun b => (forI (Eg.B21 b) 0 4 ()).bind fun c => Sum.elim (fun f => Eg.J2 a b ()) (fun d => some d) c
def Eg.B24 (b : Nat) (a : Segment) (c : Unit) : Option (Unit ⊕ (Int)) := if (!(Ch (a.Points.length : Int) 2 8)) = true then some ((.inr (4))) else some (.inl ())
def Eg (a : Network) : Option Int := if ((!(Ch (a.Nodes.length : Int) 1 24)) || (decide ((a.Segments.length : Int) > 32) || (decide ((a.Ports.length : Int) > 24) || decide ((a.Stations.length : Int) > 12)))) = true then some 4 else (forL Eg.B24 0 a.Segments ()).bind fun b => Sum.elim (fun d => Eg.J1 a ()) (fun c => some c) b
def Jg (a : Segment) (b : Int) : (Int × Int) := if decide (b < 0) = true then (a.To, a.From) else (a.From, a.To)
def Ox.J2 (a : Int × Int) : Option (Int × Int) := some (a.1, a.2)
def Ox.J4 (a : Int × Int) : Option (Int × Int) := some (a.1, a.2)
def Ox.B3 (c : Plan) (d : Int) (e : Nat) (f : Port) (a : Int × Int) : Option (Int × Int) := if (f.Node == d) = true then (ix c.Ports (e : Int)).bind fun b => Ox.J4 (wr (a.1 + (max 0 b.2)), wr (a.2 + (max 0 (wr (0 - b.2))))) else Ox.J4 (a.1, a.2)
def Ox.J1 (c : Network) (d : Plan) (e : Int) (a : Int × Int) : Option (Int × Int) := (forS (Ox.B3 d e) 0 c.Ports (a.1, a.2)).bind fun b => Ox.J2 (b.1, b.2)
def Ox.J6 (a : Int × Int) : Option (Int × Int) := some (a.1, a.2)
def Ox.J7 (d : Int) (e : Segment) (a : Int × Int) (b : Nat × Int) (c : Int) : Option (Int × Int) := if (((Jg e b.2).2) == d) = true then Ox.J6 (wr (a.1 + (Ht b.2)), c) else Ox.J6 (a.1, c)
def Ox.B5 (e : Plan) (c : Int) (f : Nat) (d : Segment) (a : Int × Int) : Option (Int × Int) := (ix e.Rates (f : Int)).bind fun b => if (b.2 == 0) = true then Ox.J6 (a.1, a.2) else if (((Jg d b.2).1) == c) = true then Ox.J7 c d a b (wr (a.2 + (Ht b.2))) else Ox.J7 c d a b a.2
def Ox (a : Network) (b : Plan) (c : Int) : Option (Int × Int) := (forS (Ox.B5 b c) 0 a.Segments (0, 0)).bind fun d => Ox.J1 a b c (d.1, d.2)
def L5.J2 (a : Li × (List Bool)) (b : Int) : Option ((Li × (List Bool)) ⊕ (Li)) := if decide (b < 0) = true then some ((.inr (a.1))) else (C0 a.1 ([b] : Li)).bind fun c => (ix a.2 b).bind fun d => some (.inl (c, (a.2.set d.1 true)))
def L5.J4 (a : Int) : Option Int := some a
def L5.J5 (b : Nat) (a : Int) (c : Bool) : Option Int := if (c && decide (a < 0)) = true then L5.J4 (b : Int) else L5.J4 a
def L5.J7 (a : Bool) : Option Bool := some a
def L5.B6 (d : Plan) (e : Li × (List Bool)) (f : Nat) (g : Nat) (b : Segment) (c : Bool) : Option Bool := (ix d.Rates (g : Int)).bind fun a => if (a.2 != 0) = true then if c = true then if (((Jg b a.2).2) != (f : Int)) = true then L5.J7 true else (ix e.2 ((Jg b a.2).1)).bind fun h => L5.J7 h.2 else L5.J7 false else L5.J7 c
def L5.B3 (c : Network) (d : Plan) (b : Li × (List Bool)) (a : Nat) (h : ByteArray) (e : Int) : Option Int := (ix b.2 (a : Int)).bind fun f => (forS (L5.B6 d b a) 0 c.Segments (!f.2)).bind fun g => L5.J5 a e g
def L5.B1 (a : Network) (c : Plan) (b : Li × (List Bool)) : Option ((Li × (List Bool)) ⊕ (Li)) := (forS (L5.B3 a c b) 0 a.Nodes (-1)).bind fun d => L5.J2 b d
def L5 (a : Network) (b : Plan) : Option Li := (Xm (a.Nodes.length : Int) false).bind fun c => (Cl (L5.B1 a b) Du ([], c)).bind fun d => some d
def Hr.J3 (a : Network) (b : Plan) (d : Unit) : Option Int := (L5 a b).bind fun c => if ((c.length : Int) != (a.Nodes.length : Int)) = true then some 13 else some 0
def Hr.B4 (b : Network) (c : Plan) (d : Nat) (e : ByteArray) (f : Unit) : Option (Unit ⊕ (Int)) := (Ox b c (d : Int)).bind fun a => if (a.1 != a.2) = true then some ((.inr (12))) else some (.inl ())
def Hr.J2 (a : Network) (b : Plan) (e : Unit) : Option Int := (forL (Hr.B4 a b) 0 a.Nodes ()).bind fun c => Sum.elim (fun f => Hr.J3 a b ()) (fun d => some d) c
def Hr.B5 (b : Nat) (a : Int) (c : Unit) : Option (Unit ⊕ (Int)) := if (decide (a < (-1000)) || decide (a > 1000)) = true then some ((.inr (1))) else some (.inl ())
def Hr.J1 (b : Network) (a : Plan) (e : Unit) : Option Int := (forL Hr.B5 0 a.Ports ()).bind fun c => Sum.elim (fun f => Hr.J2 b a ()) (fun d => some d) c
def Hr.B6 (c : Network) (d : Nat) (a : Int) (e : Unit) : Option (Unit ⊕ (Int)) := (ix c.Segments (d : Int)).bind fun b => if (decide (a < (wr (0 - (min 1000 b.2.Capacity)))) || decide (a > (min 1000 b.2.Capacity))) = true then some ((.inr (1))) else some (.inl ())
def Hr (a : Network) (b : Plan) : Option Int := (Eg a).bind fun c => if (c != 0) = true then some c else if (((b.Rates.length : Int) != (a.Segments.length : Int)) || (((b.Ports.length : Int) != (a.Ports.length : Int)) || ((b.Pumps.length : Int) != (a.Stations.length : Int)))) = true then some 9 else (forL (Hr.B6 a) 0 b.Rates ()).bind fun d => Sum.elim (fun f => Hr.J1 a b ()) (fun e => some e) d
structure paths_divider where
 n_ : Network
 rates : Li
 ports : Li
 deriving DecidableEq
structure Hop where
 Segment : Int
 Back : Bool
 deriving DecidableEq
def A9 (x : Hop) : List T := [.V x.Segment, .v (.bool x.Back)]
structure Path where
 In : Int
 Out : Int
 Hops : List Hop
 Rate : Int
 deriving DecidableEq
def Am (x : Path) : List T := [.V x.In, .V x.Out, .list 2 (x.Hops.map A9), .V x.Rate]
def Lj (a : Li) : Option Li := C0 [] a
def Jc (b : Hop) (a : Int) : Int := if b.Back = true then (wr (0 - a)) else a
def Jj.J2 (b : paths_divider) (e : Int) (c : Nat × Int) (a : Int × (List Hop) × Int) (d : Nat × Int) (f : Li) : Option (Path × paths_divider) := some ((⟨e, a.1, a.2.1, a.2.2⟩ : Path), (⟨b.n_, f, ((b.ports.set c.1 (wr (c.2 - a.2.2))).set d.1 (wr (d.2 + a.2.2)))⟩ : paths_divider))
def Jj.B3 (a : Int × (List Hop) × Int) (e : Nat) (b : Li) : Option Li := (ix a.2.1 (e : Int)).bind fun c => (ix b c.2.Segment).bind fun d => some (b.set d.1 (wr (d.2 - (Jc c.2 a.2.2))))
def Jj.J1 (b : paths_divider) (d : Int) (c : Nat × Int) (a : Int × (List Hop) × Int) : Option (Path × paths_divider) := (ix (b.ports.set c.1 (wr (c.2 - a.2.2))) a.1).bind fun e => (forJ (Jj.B3 a) 0 a.2.1.length b.rates).bind fun f => Jj.J2 b d c a e f
def Jj.J6 (a : (List Hop) × Int × Int) (b : Unit) : Option (((List Hop) × Int × Int) ⊕ ((Int × (List Hop) × Int))) := some ((.inr ((0, a.1, a.2.1))))
def Jj.J8 (a : (List Hop) × Int × Int) (b : Segment) (c : Nat × Int) (d : List Hop) : Option (Unit ⊕ (((List Hop) × Int × Int))) := some ((.inr ((d, (min a.2.1 c.2), b.To))))
def Jj.J9 (a : (List Hop) × Int × Int) (b : Segment) (c : Nat × Int) (d : List Hop) : Option (Unit ⊕ (((List Hop) × Int × Int))) := some ((.inr ((d, (min a.2.1 (wr (0 - c.2))), b.From))))
def Jj.B7 (e : paths_divider) (a : (List Hop) × Int × Int) (d : Nat) (b : Segment) (h : Unit) : Option (Unit ⊕ (((List Hop) × Int × Int))) := (ix e.rates (d : Int)).bind fun c => if (decide (c.2 > 0) && (b.From == a.2.2)) = true then (C0 a.1 ([(⟨(d : Int), false⟩ : Hop)] : List Hop)).bind fun f => Jj.J8 a b c f else if (decide (c.2 < 0) && (b.To == a.2.2)) = true then (C0 a.1 ([(⟨(d : Int), true⟩ : Hop)] : List Hop)).bind fun g => Jj.J9 a b c g else some (.inl ())
def Jj.J5 (a : paths_divider) (b : (List Hop) × Int × Int) (e : Unit) : Option (((List Hop) × Int × Int) ⊕ ((Int × (List Hop) × Int))) := (forL (Jj.B7 a b) 0 a.n_.Segments ()).bind fun c => Sum.elim (fun f => Jj.J6 b ()) (fun d => some (.inl d)) c
def Jj.J11 (c : paths_divider) (a : (List Hop) × Int × Int) (b : Nat) (d : Bool) : Option (Unit ⊕ ((Int × (List Hop) × Int))) := if d = true then (ix c.ports (b : Int)).bind fun e => some ((.inr (((b : Int), a.1, (min a.2.1 (wr (0 - e.2))))))) else some (.inl ())
def Jj.B10 (a : paths_divider) (b : (List Hop) × Int × Int) (c : Nat) (d : Port) (f : Unit) : Option (Unit ⊕ ((Int × (List Hop) × Int))) := if (d.Node == b.2.2) = true then (ix a.ports (c : Int)).bind fun e => Jj.J11 a b c (decide (e.2 < 0)) else Jj.J11 a b c false
def Jj.B4 (a : paths_divider) (b : (List Hop) × Int × Int) : Option (((List Hop) × Int × Int) ⊕ ((Int × (List Hop) × Int))) := (forL (Jj.B10 a b) 0 a.n_.Ports ()).bind fun c => Sum.elim (fun e => Jj.J5 a b ()) (fun d => some ((.inr (d)))) c
def Jj (a : paths_divider) (b : Int) : Option (Path × paths_divider) := (ix a.ports b).bind fun c => (ix a.n_.Ports b).bind fun d => (Cl (Jj.B4 a) Du ([], c.2, d.2.Node)).bind fun e => Jj.J1 a b c e
def F9.J1 (a : List Path) : Option ((List Path) × Int) := some (a, 0)
def F9.J3 (a : (List ByteArray) × (List Segment) × (List Port) × (List Station) × Int × Int × Li × Li × (List Path)) : Option (((List ByteArray) × (List Segment) × (List Port) × (List Station) × Int × Int × Li × Li × (List Path)) ⊕ (((List Path) × Int))) := some (.inl (a.1, a.2.1, a.2.2.1, a.2.2.2.1, a.2.2.2.2.1, a.2.2.2.2.2.1, a.2.2.2.2.2.2.1, a.2.2.2.2.2.2.2.1, a.2.2.2.2.2.2.2.2))
def F9.B4 (c : Nat) (a : (List ByteArray) × (List Segment) × (List Port) × (List Station) × Int × Int × Li × Li × (List Path)) : Option (((List ByteArray) × (List Segment) × (List Port) × (List Station) × Int × Int × Li × Li × (List Path)) ⊕ (((List Path) × Int) ⊕ ((List ByteArray) × (List Segment) × (List Port) × (List Station) × Int × Int × Li × Li × (List Path)))) := (ix a.2.2.2.2.2.2.2.1 (c : Int)).bind fun d => if decide (d.2 > 0) = true then (Jj (⟨(⟨a.1, a.2.1, a.2.2.1, a.2.2.2.1, a.2.2.2.2.1, a.2.2.2.2.2.1⟩ : Network), a.2.2.2.2.2.2.1, a.2.2.2.2.2.2.2.1⟩ : paths_divider) (c : Int)).bind fun b => if (((a.2.2.2.2.2.2.2.2.length : Int) == 64) || decide ((b.1.Hops.length : Int) > 32)) = true then some ((.inr (.inl (([], 23))))) else (C0 a.2.2.2.2.2.2.2.2 ([b.1] : List Path)).bind fun e => some (.inl (b.2.n_.Nodes, b.2.n_.Segments, b.2.n_.Ports, b.2.n_.Stations, b.2.n_.Vapour, b.2.n_.Settle, b.2.rates, b.2.ports, e)) else some ((.inr (.inr ((a.1, a.2.1, a.2.2.1, a.2.2.2.1, a.2.2.2.2.1, a.2.2.2.2.2.1, a.2.2.2.2.2.2.1, a.2.2.2.2.2.2.2.1, a.2.2.2.2.2.2.2.2)))))
def F9.B2 (b : Nat) (a : (List ByteArray) × (List Segment) × (List Port) × (List Station) × Int × Int × Li × Li × (List Path)) : Option (((List ByteArray) × (List Segment) × (List Port) × (List Station) × Int × Int × Li × Li × (List Path)) ⊕ (((List Path) × Int))) := (Cl (F9.B4 b) Du (a.1, a.2.1, a.2.2.1, a.2.2.2.1, a.2.2.2.2.1, a.2.2.2.2.2.1, a.2.2.2.2.2.2.1, a.2.2.2.2.2.2.2.1, a.2.2.2.2.2.2.2.2)).bind fun c => Sum.elim (fun d => some ((.inr (d)))) (fun e => F9.J3 e) c
def F9 (a : Network) (b : Plan) : Option ((List Path) × Int) := (Dw a).bind fun c => if (c != 0) = true then some ([], c) else (Ga a b).bind fun d => if (d != 0) = true then some ([], d) else (Lj b.Rates).bind fun f => (Lj b.Ports).bind fun e => (forI F9.B2 0 e.length (a.Nodes, a.Segments, a.Ports, a.Stations, a.Vapour, a.Settle, f, e, [])).bind fun g => Sum.elim (fun h => F9.J1 h.2.2.2.2.2.2.2.2) (fun i => some i) g
def Fy (a : Int) (b : Int) : Option Int := (Pa a b).bind fun c => some c
def N1.J1 (a : Unit) : Option Int := some (-1)
def N1.B2 (a : Hop → Option Bool) (b : Nat) (c : Hop) (e : Unit) : Option (Unit ⊕ (Int)) := (a c).bind fun d => if d = true then some ((.inr ((b : Int)))) else some (.inl ())
def N1 (a : List Hop) (b : Hop → Option Bool) : Option Int := (forL (N1.B2 b) 0 a ()).bind fun c => Sum.elim (fun e => N1.J1 ()) (fun d => some d) c
def Oy (a : List Hop) (b : Hop → Option Bool) : Option Bool := (N1 a b).bind fun c => some (decide (c ≥ 0))
def S6 (a : List Hop) : Option (List Hop) := C0 [] a
def Ls (a : Path) (b : Int) : Option Path := (S6 a.Hops).bind fun c => some (⟨a.In, a.Out, c, b⟩ : Path)
def S1 (a : Hop) (b : Int) : Bool := (a.Segment == b)
def Hy.J1 (a : List Path) : Option ((List Path) × Int) := some (a, 0)
def Hy.J3 (a : List Path) : Option (List Path) := some a
def Hy.B2 (c : Int) (g : Nat) (a : Path) (b : List Path) : Option (List Path) := (Oy a.Hops (fun x => some (S1 x c))).bind fun d => if d = true then (Ls a a.Rate).bind fun e => (C0 b ([e] : List Path)).bind fun f => Hy.J3 f else Hy.J3 b
def Hy (b : Network) (d : List Path) (a : Int) : Option ((List Path) × Int) := (Dw b).bind fun c => if (c != 0) = true then some ([], c) else if (decide (a < 0) || decide (a ≥ (b.Segments.length : Int))) = true then some ([], 8) else (forS (Hy.B2 a) 0 d []).bind fun e => Hy.J1 e
def Nz.J1 (a : Bool) : Option Bool := some a
def Nz : Option Bool := (F9 (⟨([(⟨#[97]⟩ : ByteArray), (⟨#[98]⟩ : ByteArray)] : List ByteArray), ([(⟨(⟨#[103]⟩ : ByteArray), 0, 1, 10, 0, 0, ([(⟨0, 0, 1000⟩ : Point), (⟨10, 0, 1000⟩ : Point)] : List Point)⟩ : Segment)] : List Segment), ([(⟨(⟨#[112]⟩ : ByteArray), 0, 0⟩ : Port), (⟨(⟨#[113]⟩ : ByteArray), 0, 0⟩ : Port), (⟨(⟨#[114]⟩ : ByteArray), 0, 0⟩ : Port)] : List Port), [], 0, 0⟩ : Network) (⟨([0] : Li), ([3, 4, (-7)] : Li), []⟩ : Plan)).bind fun a => if (a.2 == 0) = true then if ((a.1.length : Int) == 2) = true then (ix a.1 0).bind fun c => if (c.2.Rate == 3) = true then (ix a.1 1).bind fun b => if (b.2.Rate == 4) = true then if (b.2.In == 1) = true then if (b.2.Out == 2) = true then Nz.J1 ((c.2.Hops.length : Int) == 0) else Nz.J1 false else Nz.J1 false else Nz.J1 false else Nz.J1 false else Nz.J1 false else Nz.J1 false
def Ly.J1 (a : Unit) : Option Int := some (-1)
def Ly.B2 (a : Path → Option Bool) (b : Nat) (c : Path) (e : Unit) : Option (Unit ⊕ (Int)) := (a c).bind fun d => if d = true then some ((.inr ((b : Int)))) else some (.inl ())
def Ly (a : List Path) (b : Path → Option Bool) : Option Int := (forL (Ly.B2 b) 0 a ()).bind fun c => Sum.elim (fun e => Ly.J1 ()) (fun d => some d) c
def S0 (a : List Path) (b : Path → Option Bool) : Option Bool := (Ly a b).bind fun c => some (decide (c ≥ 0))
def Hu (a : Li) (b : Int) : Option Bool := (Og a b).bind fun c => some (decide (c ≥ 0))
def G8 (a : Int) (b : Network) : Bool := (decide (a ≥ 0) && decide (a < (b.Ports.length : Int)))
def Tb (c : Network) (b : Hop) : Option (Int × Int) := (ix c.Segments b.Segment).bind fun a => if b.Back = true then some (a.2.To, a.2.From) else some (a.2.From, a.2.To)
def Ji.J1 (a : Network) (b : Path) (c : Int) : Option Bool := (ix a.Ports b.Out).bind fun d => some (c == d.2.Node)
def Ji.J3 (b : Int × Li) (a : Int × Int) (c : Bool) : Option ((Int × Li) ⊕ (Bool)) := if c = true then some ((.inr (false))) else (C0 b.2 ([a.2] : Li)).bind fun d => some (.inl (a.2, d))
def Ji.B2 (d : Network) (f : Nat) (c : Hop) (a : Int × Li) : Option ((Int × Li) ⊕ (Bool)) := if (decide (c.Segment < 0) || decide (c.Segment ≥ (d.Segments.length : Int))) = true then some ((.inr (false))) else (Tb d c).bind fun b => if (b.1 != a.1) = true then Ji.J3 a b true else (Hu a.2 b.2).bind fun e => Ji.J3 a b e
def Ji (b : Network) (a : Path) : Option Bool := if ((!(G8 a.In b)) || ((!(G8 a.Out b)) || ((a.In == a.Out) || (decide (a.Rate < 1) || (decide (a.Rate > 1000) || decide ((a.Hops.length : Int) > 32)))))) = true then some false else (ix b.Ports a.In).bind fun c => (forL (Ji.B2 b) 0 a.Hops (c.2.Node, ([c.2.Node] : Li))).bind fun d => Sum.elim (fun e => Ji.J1 b a e.1) (fun f => some f) d
def Nt.J1 (a : Unit) : Option Bool := some false
def Nt.J3 (a : List (Int × Bool)) : Option ((List (Int × Bool)) ⊕ (Bool)) := some (.inl a)
def Nt.B4 (c : Nat) (a : Hop) (b : List (Int × Bool)) : Option ((List (Int × Bool)) ⊕ (Bool)) := if ((Ds b a.Segment).isSome && (((Ds b a.Segment).getD false) != a.Back)) = true then some ((.inr (true))) else some (.inl (Nf b a.Segment a.Back))
def Nt.B2 (f : Nat) (a : Path) (b : List (Int × Bool)) : Option ((List (Int × Bool)) ⊕ (Bool)) := (forL Nt.B4 0 a.Hops b).bind fun c => Sum.elim (fun d => Nt.J3 d) (fun e => some ((.inr (e)))) c
def Nt (a : List Path) : Option Bool := (forL Nt.B2 0 a ([] : List (Int × Bool))).bind fun b => Sum.elim (fun d => Nt.J1 ()) (fun c => some c) b
def On (a : List Bool) : Option (List Bool) := C0 [] a
def Sz.B1 (d : Int) (e : Nat) (a : Hop) (b : Li) : Option Li := (ix b a.Segment).bind fun c => some (b.set c.1 (wr (c.2 + (Jc a d))))
def Sz (a : Plan) (d : Path) (b : Int) : Option Plan := (ix a.Ports d.In).bind fun c => (ix (a.Ports.set c.1 (wr (c.2 + b))) d.Out).bind fun e => (forS (Sz.B1 b) 0 d.Hops a.Rates).bind fun f => some (⟨f, ((a.Ports.set c.1 (wr (c.2 + b))).set e.1 (wr (e.2 - b))), a.Pumps⟩ : Plan)
def N0 (a : Path) (b : Network) : Option Bool := (Ji b a).bind fun c => some (!c)
def Lp.J3 (c : Network) (a : Li × Li × (List Bool)) : Option (Plan × Int) := (Ga c (⟨a.1, a.2.1, a.2.2⟩ : Plan)).bind fun b => if (b != 0) = true then some ((⟨[], [], []⟩ : Plan), b) else some ((⟨a.1, a.2.1, a.2.2⟩ : Plan), 0)
def Lp.B4 (d : Nat) (c : Path) (a : Li × Li × (List Bool)) : Option (Li × Li × (List Bool)) := (Sz (⟨a.1, a.2.1, a.2.2⟩ : Plan) c c.Rate).bind fun b => some (b.Rates, b.Ports, b.Pumps)
def Lp.J2 (c : Network) (d : List Path) (a : Li × Li × (List Bool)) : Option (Plan × Int) := (forS Lp.B4 0 d (a.1, a.2.1, a.2.2)).bind fun b => Lp.J3 c (b.1, b.2.1, b.2.2)
def Lp.J1 (a : Network) (c : List Path) (b : List Bool) (d : Bool) : Option (Plan × Int) := if d = true then some ((⟨[], [], []⟩ : Plan), 23) else if ((b.length : Int) != (a.Stations.length : Int)) = true then some ((⟨[], [], []⟩ : Plan), 9) else (Xm (a.Segments.length : Int) (0 : Int)).bind fun e => (Xm (a.Ports.length : Int) (0 : Int)).bind fun f => (On b).bind fun g => Lp.J2 a c (e, f, g)
def Lp (b : Network) (a : List Path) (c : List Bool) : Option (Plan × Int) := (Dw b).bind fun d => if (d != 0) = true then some ((⟨[], [], []⟩ : Plan), d) else if decide ((a.length : Int) > 64) = true then Lp.J1 b a c true else (S0 a (fun x => N0 x b)).bind fun e => if e = true then Lp.J1 b a c true else (Nt a).bind fun f => Lp.J1 b a c f
def Lu.J1 (a : Unit) : Option Bool := some true
def Lu.B2 (b : Li) (c : Li) (a : Int) : Option (Int ⊕ (Bool ⊕ Unit)) := if decide (a < (b.length : Int)) = true then (ix b a).bind fun d => (ix c a).bind fun e => if (d.2 != e.2) = true then some ((.inr (.inl (false)))) else some (.inl (wr (a + 1))) else some ((.inr (.inr (()))))
def Lu (a : Li) (b : Li) : Option Bool := if ((a.length : Int) != (b.length : Int)) = true then some false else (Cl (Lu.B2 a b) Du 0).bind fun c => Sum.elim (fun d => some d) (fun e => Lu.J1 e) c
def Nv.J1 (a : Unit) : Option Bool := some true
def Nv.B2 (b : List Bool) (c : List Bool) (a : Int) : Option (Int ⊕ (Bool ⊕ Unit)) := if decide (a < (b.length : Int)) = true then (ix b a).bind fun d => (ix c a).bind fun e => if (d.2 != e.2) = true then some ((.inr (.inl (false)))) else some (.inl (wr (a + 1))) else some ((.inr (.inr (()))))
def Nv (a : List Bool) (b : List Bool) : Option Bool := if ((a.length : Int) != (b.length : Int)) = true then some false else (Cl (Nv.B2 a b) Du 0).bind fun c => Sum.elim (fun d => some d) (fun e => Nv.J1 e) c
def Ny.J1 (a : Bool) : Option Bool := some a
def Ny (a : Plan) (b : Plan) : Option Bool := (Lu a.Rates b.Rates).bind fun c => if c = true then (Lu a.Ports b.Ports).bind fun d => if d = true then (Nv a.Pumps b.Pumps).bind fun e => Ny.J1 e else Ny.J1 false else Ny.J1 false
def Ou.J1 (a : Bool) : Option Bool := some a
def Ou (a : Network) (b : Path) : Option Bool := (Dw a).bind fun c => if (c == 0) = true then (Ji a b).bind fun d => Ou.J1 d else Ou.J1 false
def S2.J1 (a : Unit) : Option Bool := some true
def S2.B2 (s2_1 : List Hop) (c : Nat) (a : Hop) (d : Unit) : Option (Unit ⊕ (Bool)) := (ix s2_1 (c : Int)).bind fun b => if (!((a.Segment == b.2.Segment) && ((a.Back == b.2.Back) && true))) = true then some ((.inr (false))) else some (.inl ())
def S2 (s1_0 : List Hop) (s2_1 : List Hop) : Option Bool := if ((s1_0.length : Int) != (s2_1.length : Int)) = true then some false else (forL (S2.B2 s2_1) 0 s1_0 ()).bind fun a => Sum.elim (fun c => S2.J1 ()) (fun b => some b) a
def Oa.J1 (a : Bool) : Option Bool := some a
def Oa (a : Path) (b : Path) : Option Bool := if (a.In == b.In) = true then if (a.Out == b.Out) = true then (S2 a.Hops b.Hops).bind fun c => Oa.J1 c else Oa.J1 false else Oa.J1 false
def S8 (a : Path) (b : Path) : Option Bool := (Oa a b).bind fun c => some c
def L3 (a : List Path) (b : Path) : Option Int := (Ly a (fun x => S8 x b)).bind fun c => some c
def Of.J1 (a : List Path) : Option (List Path) := some a
def Of.J3 (a : List Path) : Option (List Path) := some a
def Of.B2 (b : List Path) (h : Nat) (a : Path) (c : List Path) : Option (List Path) := (L3 b a).bind fun d => if decide (d ≥ 0) = true then (ix b d).bind fun e => (Ls a (min a.Rate e.2.Rate)).bind fun f => (C0 c ([f] : List Path)).bind fun g => Of.J3 g else Of.J3 c
def Of (a : List Path) (b : List Path) : Option (List Path) := (forS (Of.B2 b) 0 a []).bind fun c => Of.J1 c
def Lg.J2 (a : List Path) : Option ((List Path) × Bool) := some (a, true)
def Lg.J4 (a : List Path) : Option (List Path) := some a
def Lg.J5 (c : Path) (a : List Path) (b : Int) : Option (List Path) := if (b != 0) = true then (Ls c b).bind fun d => (C0 a ([d] : List Path)).bind fun e => Lg.J4 e else Lg.J4 a
def Lg.B3 (b : List Path) (f : Nat) (a : Path) (c : List Path) : Option (List Path) := (L3 b a).bind fun d => if decide (d ≥ 0) = true then (ix b d).bind fun e => Lg.J5 a c (wr (a.Rate - e.2.Rate)) else Lg.J5 a c a.Rate
def Lg.J1 (a : List Path) (b : List Path) (d : Unit) : Option ((List Path) × Bool) := (forS (Lg.B3 b) 0 a []).bind fun c => Lg.J2 c
def Lg.J7 (a : Bool) : Option (Unit ⊕ (((List Path) × Bool))) := if a = true then some ((.inr (([], false)))) else some (.inl ())
def Lg.B6 (a : List Path) (e : Nat) (b : Path) (f : Unit) : Option (Unit ⊕ (((List Path) × Bool))) := (L3 a b).bind fun c => if decide (c < 0) = true then Lg.J7 true else (ix a c).bind fun d => Lg.J7 (decide (d.2.Rate < b.Rate))
def Lg (a : List Path) (b : List Path) : Option ((List Path) × Bool) := (forL (Lg.B6 a) 0 b ()).bind fun c => Sum.elim (fun e => Lg.J1 a b ()) (fun d => some d) c
def Pb.J1 (a : Unit) : Option (Hop × Bool) := some ((⟨0, false⟩ : Hop), false)
def Pb.J3 (b : Li) (a : Int) (c : Bool) : Option (Int ⊕ ((Hop × Bool) ⊕ Unit)) := if c = true then (ix b a).bind fun d => some ((.inr (.inl (((⟨a, decide (d.2 < 0)⟩ : Hop), true))))) else some (.inl (wr (a + 1)))
def Pb.B2 (e : Network) (b : Li) (c : Int) (a : Int) : Option (Int ⊕ ((Hop × Bool) ⊕ Unit)) := if decide (a < (b.length : Int)) = true then (ix b a).bind fun d => if decide (d.2 > 0) = true then (ix e.Segments a).bind fun f => if (f.2.From == c) = true then Pb.J3 b a true else if decide (d.2 < 0) = true then Pb.J3 b a (f.2.To == c) else Pb.J3 b a false else if decide (d.2 < 0) = true then (ix e.Segments a).bind fun g => Pb.J3 b a (g.2.To == c) else Pb.J3 b a false else some ((.inr (.inr (()))))
def Pb (a : Network) (b : Li) (c : Int) : Option (Hop × Bool) := (Cl (Pb.B2 a b c) Du 0).bind fun d => Sum.elim (fun e => some e) (fun f => Pb.J1 f) d
def Lx (a : Int) : Int := (max a (wr (0 - a)))
def Lm (c : Network) (b : Hop) : Option (Int × Int) := (ix c.Segments b.Segment).bind fun a => if b.Back = true then some (a.2.To, a.2.From) else some (a.2.From, a.2.To)
def Oj.J1 (b : Int) (a : (List Hop) × Int) : Option (Path × Bool) := some ((⟨b, 0, a.1, a.2⟩ : Path), false)
def Oj.J3 (b : (List Hop) × Int × Int × Int) (a : (List Hop) × Int × Int) : Option (((List Hop) × Int × Int × Int) ⊕ ((Path × Bool) ⊕ ((List Hop) × Int))) := some (.inl (a.1, a.2.1, a.2.2, wr (b.2.2.2 + 1)))
def Oj.J4 (c : Network) (d : Li) (e : Int) (a : (List Hop) × Int × Int × Int) (i : Unit) : Option (((List Hop) × Int × Int × Int) ⊕ ((Path × Bool) ⊕ ((List Hop) × Int))) := (Pb c d a.2.2.1).bind fun b => if (!b.2) = true then some ((.inr (.inl (((⟨e, 0, a.1, a.2.1⟩ : Path), false))))) else (C0 a.1 ([b.1] : List Hop)).bind fun f => (ix d b.1.Segment).bind fun g => (Lm c b.1).bind fun h => Oj.J3 a (f, (min a.2.1 (Lx g.2)), h.2)
def Oj.J6 (c : Li) (d : Int) (b : (List Hop) × Int × Int × Int) (a : Int) (e : Bool) : Option (Int ⊕ ((Path × Bool) ⊕ Unit)) := if e = true then (ix c a).bind fun f => some ((.inr (.inl (((⟨d, a, b.1, (min b.2.1 (wr (0 - f.2)))⟩ : Path), true))))) else some (.inl (wr (a + 1)))
def Oj.B5 (e : Network) (b : Li) (d : Int) (c : (List Hop) × Int × Int × Int) (a : Int) : Option (Int ⊕ ((Path × Bool) ⊕ Unit)) := if decide (a < (b.length : Int)) = true then (ix e.Ports a).bind fun f => if (f.2.Node == c.2.2.1) = true then (ix b a).bind fun g => Oj.J6 b d c a (decide (g.2 < 0)) else Oj.J6 b d c a false else some ((.inr (.inr (()))))
def Oj.B2 (b : Network) (d : Li) (e : Li) (c : Int) (a : (List Hop) × Int × Int × Int) : Option (((List Hop) × Int × Int × Int) ⊕ ((Path × Bool) ⊕ ((List Hop) × Int))) := if decide (a.2.2.2 ≤ (b.Nodes.length : Int)) = true then (Cl (Oj.B5 b e c a) Du 0).bind fun f => Sum.elim (fun g => some ((.inr (.inl (g))))) (fun h => Oj.J4 b d c a h) f else some ((.inr (.inr ((a.1, a.2.1)))))
def Oj (b : Network) (d : Li) (c : Li) (a : Int) : Option (Path × Bool) := (ix c a).bind fun e => (ix b.Ports a).bind fun f => (Cl (Oj.B2 b d c a) Du ([], e.2, f.2.Node, 0)).bind fun g => Sum.elim (fun h => some h) (fun i => Oj.J1 a i) g
def Fb.J1 (a : List Path) : Option ((List Path) × Int) := some (a, 0)
def Fb.J3 (b : Li × Li × (List Path) × Int) (a : Li × Li × (List Path)) : Option ((Li × Li × (List Path) × Int) ⊕ (((List Path) × Int) ⊕ (List Path))) := some (.inl (a.1, a.2.1, a.2.2, wr (b.2.2.2 + 1)))
def Fb.J5 (b : Li × Li × (List Path)) (a : Path × Bool) (c : Nat × Int) (d : Nat × Int) (e : Li) : Option ((Li × Li × (List Path)) ⊕ (((List Path) × Int) ⊕ (Li × Li × (List Path)))) := (C0 b.2.2 ([a.1] : List Path)).bind fun f => some (.inl (e, ((b.2.1.set c.1 (wr (c.2 - a.1.Rate))).set d.1 (wr (d.2 + a.1.Rate))), f))
def Fb.J7 (a : Li × Int) (b : Li) : Option ((Li × Int) ⊕ (Li)) := some (.inl (b, wr (a.2 + 1)))
def Fb.B6 (b : Path × Bool) (a : Li × Int) : Option ((Li × Int) ⊕ (Li)) := if decide (a.2 < (b.1.Hops.length : Int)) = true then (ix b.1.Hops a.2).bind fun c => if c.2.Back = true then (ix a.1 c.2.Segment).bind fun d => Fb.J7 a (a.1.set d.1 (wr (d.2 + b.1.Rate))) else (ix a.1 c.2.Segment).bind fun e => Fb.J7 a (a.1.set e.1 (wr (e.2 - b.1.Rate))) else some ((.inr (a.1)))
def Fb.B4 (e : Network) (d : Li × Li × (List Path) × Int) (a : Li × Li × (List Path)) : Option ((Li × Li × (List Path)) ⊕ (((List Path) × Int) ⊕ (Li × Li × (List Path)))) := (ix a.2.1 d.2.2.2).bind fun f => if decide (f.2 > 0) = true then (Oj e a.1 a.2.1 d.2.2.2).bind fun b => if ((!b.2) || (((a.2.2.length : Int) == 64) || decide ((b.1.Hops.length : Int) > 32))) = true then some ((.inr (.inl (([], 23))))) else (ix a.2.1 b.1.In).bind fun c => (ix (a.2.1.set c.1 (wr (c.2 - b.1.Rate))) b.1.Out).bind fun g => (Cl (Fb.B6 b) Du (a.1, 0)).bind fun h => Fb.J5 a b c g h else some ((.inr (.inr ((a.1, a.2.1, a.2.2)))))
def Fb.B2 (b : Network) (a : Li × Li × (List Path) × Int) : Option ((Li × Li × (List Path) × Int) ⊕ (((List Path) × Int) ⊕ (List Path))) := if decide (a.2.2.2 < (a.2.1.length : Int)) = true then (Cl (Fb.B4 b a) Du (a.1, a.2.1, a.2.2.1)).bind fun c => Sum.elim (fun d => some ((.inr (.inl (d))))) (fun e => Fb.J3 a e) c else some ((.inr (.inr (a.2.2.1))))
def Fb (b : Network) (a : Plan) : Option ((List Path) × Int) := (Hr b a).bind fun c => if (c != 0) = true then some ([], c) else (C0 ([] : Li) a.Rates).bind fun d => (C0 ([] : Li) a.Ports).bind fun e => (Cl (Fb.B2 b) Du (d, e, [], 0)).bind fun f => Sum.elim (fun g => some g) (fun h => Fb.J1 h) f
def Je.J1 (a : Unit) : Option Bool := some true
def Je.B2 (b : Path) (e : Path) (a : Int) : Option (Int ⊕ (Bool ⊕ Unit)) := if decide (a < (b.Hops.length : Int)) = true then (ix b.Hops a).bind fun c => (ix e.Hops a).bind fun d => if (!((c.2.Segment == d.2.Segment) && ((c.2.Back == d.2.Back) && true))) = true then some ((.inr (.inl (false)))) else some (.inl (wr (a + 1))) else some ((.inr (.inr (()))))
def Je (a : Path) (b : Path) : Option Bool := if ((a.In != b.In) || ((a.Out != b.Out) || ((a.Hops.length : Int) != (b.Hops.length : Int)))) = true then some false else (Cl (Je.B2 a b) Du 0).bind fun c => Sum.elim (fun d => some d) (fun e => Je.J1 e) c
def Hx.J1 (a : Unit) : Option Int := some (-1)
def Hx.B2 (b : List Path) (c : Path) (a : Int) : Option (Int ⊕ (Int ⊕ Unit)) := if decide (a < (b.length : Int)) = true then (ix b a).bind fun d => (Je d.2 c).bind fun e => if e = true then some ((.inr (.inl (a)))) else some (.inl (wr (a + 1))) else some ((.inr (.inr (()))))
def Hx (a : List Path) (b : Path) : Option Int := (Cl (Hx.B2 a b) Du 0).bind fun c => Sum.elim (fun d => some d) (fun e => Hx.J1 e) c
def Lw (a : Path) : Option Path := (C0 ([] : List Hop) a.Hops).bind fun b => some (⟨a.In, a.Out, b, a.Rate⟩ : Path)
def G6.J1 (a : Unit) : Option Bool := some true
def G6.J3 (a : Int) (b : Bool) : Option (Int ⊕ (Bool ⊕ Unit)) := if b = true then some ((.inr (.inl (false)))) else some (.inl (wr (a + 1)))
def G6.B2 (b : List Path) (e : List Path) (a : Int) : Option (Int ⊕ (Bool ⊕ Unit)) := if decide (a < (b.length : Int)) = true then (ix b a).bind fun c => (ix e a).bind fun d => (Je c.2 d.2).bind fun f => if (!f) = true then G6.J3 a true else G6.J3 a (c.2.Rate != d.2.Rate) else some ((.inr (.inr (()))))
def G6 (a : List Path) (b : List Path) : Option Bool := if ((a.length : Int) != (b.length : Int)) = true then some false else (Cl (G6.B2 a b) Du 0).bind fun c => Sum.elim (fun d => some d) (fun e => G6.J1 e) c
def Jd.J1 (a : List Path) : Option (List Path) := some a
def Jd.J3 (a : (List Path) × Int) (b : List Path) : Option (((List Path) × Int) ⊕ ((List Path))) := some (.inl (b, wr (a.2 + 1)))
def Jd.B2 (c : List Path) (d : List Path) (a : (List Path) × Int) : Option (((List Path) × Int) ⊕ ((List Path))) := if decide (a.2 < (c.length : Int)) = true then (ix c a.2).bind fun e => (Hx d e.2).bind fun f => if decide (f ≥ 0) = true then (Lw e.2).bind fun b => (ix d f).bind fun g => (C0 a.1 ([(⟨b.In, b.Out, b.Hops, (min b.Rate g.2.Rate)⟩ : Path)] : List Path)).bind fun h => Jd.J3 a h else Jd.J3 a a.1 else some ((.inr (a.1)))
def Jd (a : List Path) (b : List Path) : Option (List Path) := (Cl (Jd.B2 a b) Du ([], 0)).bind fun c => Jd.J1 c
def Lr.J2 (a : List Path) : Option ((List Path) × Bool) := some (a, true)
def Lr.J4 (a : (List Path) × Int) (b : List Path) : Option (((List Path) × Int) ⊕ ((List Path))) := some (.inl (b, wr (a.2 + 1)))
def Lr.J5 (a : (List Path) × Int) (b : Path) (c : Int) : Option (((List Path) × Int) ⊕ ((List Path))) := if decide (c > 0) = true then (C0 a.1 ([(⟨b.In, b.Out, b.Hops, c⟩ : Path)] : List Path)).bind fun d => Lr.J4 a d else Lr.J4 a a.1
def Lr.B3 (c : List Path) (d : List Path) (a : (List Path) × Int) : Option (((List Path) × Int) ⊕ ((List Path))) := if decide (a.2 < (c.length : Int)) = true then (ix c a.2).bind fun f => (Lw f.2).bind fun b => (Hx d b).bind fun e => if decide (e ≥ 0) = true then (ix d e).bind fun g => Lr.J5 a b (wr (b.Rate - g.2.Rate)) else Lr.J5 a b b.Rate else some ((.inr (a.1)))
def Lr.J1 (a : List Path) (b : List Path) (d : Unit) : Option ((List Path) × Bool) := (Cl (Lr.B3 a b) Du ([], 0)).bind fun c => Lr.J2 c
def Lr.J7 (a : Int) (b : Bool) : Option (Int ⊕ (((List Path) × Bool) ⊕ Unit)) := if b = true then some ((.inr (.inl (([], false))))) else some (.inl (wr (a + 1)))
def Lr.B6 (b : List Path) (c : List Path) (a : Int) : Option (Int ⊕ (((List Path) × Bool) ⊕ Unit)) := if decide (a < (c.length : Int)) = true then (ix c a).bind fun d => (Hx b d.2).bind fun e => if decide (e < 0) = true then Lr.J7 a true else (ix b e).bind fun f => Lr.J7 a (decide (f.2.Rate < d.2.Rate)) else some ((.inr (.inr (()))))
def Lr (a : List Path) (b : List Path) : Option ((List Path) × Bool) := (Cl (Lr.B6 a b) Du 0).bind fun c => Sum.elim (fun d => some d) (fun e => Lr.J1 a b e) c
def I6.J1 (a : Network) (b : Path) (c : Int) : Option Bool := (ix a.Ports b.Out).bind fun d => some (c == d.2.Node)
def I6.J3 (b : Int × Li × Int) (a : Int × Li) : Option ((Int × Li × Int) ⊕ (Bool ⊕ Int)) := some (.inl (a.1, a.2, wr (b.2.2 + 1)))
def I6.J5 (a : Int × Li × Int) (b : Int × Int) (d : Unit) : Option ((Int × Li × Int) ⊕ (Bool ⊕ Int)) := (C0 a.2.1 ([b.2] : Li)).bind fun c => I6.J3 a (b.2, c)
def I6.B6 (b : Int × Li × Int) (c : Int × Int) (a : Int) : Option (Int ⊕ (Bool ⊕ Unit)) := if decide (a < (b.2.1.length : Int)) = true then (ix b.2.1 a).bind fun d => if (d.2 == c.2) = true then some ((.inr (.inl (false)))) else some (.inl (wr (a + 1))) else some ((.inr (.inr (()))))
def I6.J4 (c : Network) (d : Path) (a : Int × Li × Int) (e : Bool) : Option ((Int × Li × Int) ⊕ (Bool ⊕ Int)) := if e = true then some ((.inr (.inl (false)))) else (ix d.Hops a.2.2).bind fun f => (Lm c f.2).bind fun b => if (b.1 != a.1) = true then some ((.inr (.inl (false)))) else (Cl (I6.B6 a b) Du 0).bind fun g => Sum.elim (fun h => some ((.inr (.inl (h))))) (fun i => I6.J5 a b i) g
def I6.B2 (c : Network) (b : Path) (a : Int × Li × Int) : Option ((Int × Li × Int) ⊕ (Bool ⊕ Int)) := if decide (a.2.2 < (b.Hops.length : Int)) = true then (ix b.Hops a.2.2).bind fun d => if decide (d.2.Segment < 0) = true then I6.J4 c b a true else I6.J4 c b a (decide (d.2.Segment ≥ (c.Segments.length : Int))) else some ((.inr (.inr (a.1))))
def I6 (b : Network) (a : Path) : Option Bool := if (decide (a.In < 0) || (decide (a.In ≥ (b.Ports.length : Int)) || (decide (a.Out < 0) || (decide (a.Out ≥ (b.Ports.length : Int)) || ((a.In == a.Out) || (decide (a.Rate < 1) || (decide (a.Rate > 1000) || decide ((a.Hops.length : Int) > 32)))))))) = true then some false else (ix b.Ports a.In).bind fun c => (Cl (I6.B2 b a) Du (c.2.Node, ([c.2.Node] : Li), 0)).bind fun d => Sum.elim (fun e => some e) (fun f => I6.J1 b a f) d
def Lq.J3 (b : Network) (e : List Bool) (c : Li × Li × (List Bool)) (a : Li × Li) : Option (Plan × Int) := if ((e.length : Int) != (b.Stations.length : Int)) = true then some ((⟨[], [], []⟩ : Plan), 9) else (Hr b (⟨a.1, a.2, c.2.2⟩ : Plan)).bind fun d => if (d != 0) = true then some ((⟨[], [], []⟩ : Plan), d) else some ((⟨a.1, a.2, c.2.2⟩ : Plan), 0)
def Lq.J5 (b : Li × Li × Int) (a : Li × Li) : Option ((Li × Li × Int) ⊕ ((Plan × Int) ⊕ (Li × Li))) := some (.inl (a.1, a.2, wr (b.2.2 + 1)))
def Lq.J8 (a : Li × Int) (c : Nat × Hop) (d : Int) (e : Bool) : Option ((Li × Int) ⊕ ((Plan × Int) ⊕ (Li × Li))) := if e = true then some ((.inr (.inl (((⟨[], [], []⟩ : Plan), 23))))) else (ix a.1 c.2.Segment).bind fun b => some (.inl ((a.1.set b.1 (wr (b.2 + d))), wr (a.2 + 1)))
def Lq.J7 (b : Li × Int) (c : Nat × Hop) (a : Int) : Option ((Li × Int) ⊕ ((Plan × Int) ⊕ (Li × Li))) := if decide (a > 0) = true then (ix b.1 c.2.Segment).bind fun d => if decide (d.2 < 0) = true then Lq.J8 b c a true else if decide (a < 0) = true then Lq.J8 b c a (decide (d.2 > 0)) else Lq.J8 b c a false else if decide (a < 0) = true then (ix b.1 c.2.Segment).bind fun e => Lq.J8 b c a (decide (e.2 > 0)) else Lq.J8 b c a false
def Lq.B6 (f : Li × Li × Int) (a : Nat × Path) (d : Nat × Int) (e : Nat × Int) (b : Li × Int) : Option ((Li × Int) ⊕ ((Plan × Int) ⊕ (Li × Li))) := if decide (b.2 < (a.2.Hops.length : Int)) = true then (ix a.2.Hops b.2).bind fun c => if c.2.Back = true then Lq.J7 b c (wr (0 - a.2.Rate)) else Lq.J7 b c a.2.Rate else some ((.inr (.inr ((b.1, ((f.2.1.set d.1 (wr (d.2 + a.2.Rate))).set e.1 (wr (e.2 - a.2.Rate))))))))
def Lq.B4 (d : List Path) (a : Li × Li × Int) : Option ((Li × Li × Int) ⊕ ((Plan × Int) ⊕ (Li × Li))) := if decide (a.2.2 < (d.length : Int)) = true then (ix d a.2.2).bind fun b => (ix a.2.1 b.2.In).bind fun c => (ix (a.2.1.set c.1 (wr (c.2 + b.2.Rate))) b.2.Out).bind fun e => (Cl (Lq.B6 a b c e) Du (a.1, 0)).bind fun f => Sum.elim (fun g => some ((.inr (.inl (g))))) (fun h => Lq.J5 a h) f else some ((.inr (.inr ((a.1, a.2.1)))))
def Lq.J2 (b : Network) (c : List Path) (d : List Bool) (a : Li × Li × (List Bool)) (h : Unit) : Option (Plan × Int) := (Cl (Lq.B4 c) Du (a.1, a.2.1, 0)).bind fun e => Sum.elim (fun f => some f) (fun g => Lq.J3 b d a g) e
def Lq.B9 (c : Network) (b : List Path) (a : Int) : Option (Int ⊕ ((Plan × Int) ⊕ Unit)) := if decide (a < (b.length : Int)) = true then (ix b a).bind fun d => (I6 c d.2).bind fun e => if (!e) = true then some ((.inr (.inl (((⟨[], [], []⟩ : Plan), 23))))) else some (.inl (wr (a + 1))) else some ((.inr (.inr (()))))
def Lq.J1 (a : Network) (b : List Path) (c : List Bool) (d : Li × Li × (List Bool)) : Option (Plan × Int) := (Cl (Lq.B9 a b) Du 0).bind fun e => Sum.elim (fun f => some f) (fun g => Lq.J2 a b c d g) e
def Lq (a : Network) (b : List Path) (c : List Bool) : Option (Plan × Int) := (Eg a).bind fun d => if (d != 0) = true then some ((⟨[], [], []⟩ : Plan), d) else if decide ((b.length : Int) > 64) = true then some ((⟨[], [], []⟩ : Plan), 23) else (Xm (a.Segments.length : Int) (0 : Int)).bind fun e => (Xm (a.Ports.length : Int) (0 : Int)).bind fun f => (C0 ([] : List Bool) c).bind fun g => Lq.J1 a b c (e, f, g)
def Ot.J1 (a : Unit) : Option Bool := some false
def Ot.B2 (b : Path) (c : Int) (a : Int) : Option (Int ⊕ (Bool ⊕ Unit)) := if decide (a < (b.Hops.length : Int)) = true then (ix b.Hops a).bind fun d => if (d.2.Segment == c) = true then some ((.inr (.inl (true)))) else some (.inl (wr (a + 1))) else some ((.inr (.inr (()))))
def Ot (a : Path) (b : Int) : Option Bool := (Cl (Ot.B2 a b) Du 0).bind fun c => Sum.elim (fun d => some d) (fun e => Ot.J1 e) c
def Jb.J1 (a : List Path) : Option ((List Path) × Int) := some (a, 0)
def Jb.J3 (a : (List Path) × Int) (b : List Path) : Option (((List Path) × Int) ⊕ ((List Path))) := some (.inl (b, wr (a.2 + 1)))
def Jb.B2 (b : List Path) (d : Int) (a : (List Path) × Int) : Option (((List Path) × Int) ⊕ ((List Path))) := if decide (a.2 < (b.length : Int)) = true then (ix b a.2).bind fun c => (Ot c.2 d).bind fun e => if e = true then (Lw c.2).bind fun f => (C0 a.1 ([f] : List Path)).bind fun g => Jb.J3 a g else Jb.J3 a a.1 else some ((.inr (a.1)))
def Jb (b : Network) (d : List Path) (a : Int) : Option ((List Path) × Int) := (Eg b).bind fun c => if (c != 0) = true then some ([], c) else if (decide (a < 0) || decide (a ≥ (b.Segments.length : Int))) = true then some ([], 8) else (Cl (Jb.B2 d a) Du ([], 0)).bind fun e => Jb.J1 e
def Oh.J1 (a : Bool) : Option Bool := some a
def Oh (a : Network) (b : Path) : Option Bool := (Eg a).bind fun c => if (c == 0) = true then (I6 a b).bind fun d => Oh.J1 d else Oh.J1 false
def S5.J2 (a : Unit) : Option Bool := some true
def S5.B3 (b : Network) (c : List Path) (a : Int) : Option (Int ⊕ (Bool ⊕ Unit)) := if decide (a < (c.length : Int)) = true then (ix c a).bind fun d => (Ou b d.2).bind fun e => (Oh b d.2).bind fun f => if (e != f) = true then some ((.inr (.inl (false)))) else some (.inl (wr (a + 1))) else some ((.inr (.inr (()))))
def S5.J1 (a : Network) (b : List Path) (c : Bool) : Option Bool := if c = true then some false else (Cl (S5.B3 a b) Du 0).bind fun d => Sum.elim (fun e => some e) (fun f => S5.J2 f) d
def S5 (a : Network) (c : Plan) (b : List Path) (d : List Bool) (e : Int) : Option Bool := (F9 a c).bind fun f => (Fb a c).bind fun g => (Lp a b d).bind fun h => (Lq a b d).bind fun i => (Hy a b e).bind fun j => (Jb a b e).bind fun k => if (f.2 != g.2) = true then S5.J1 a b true else if (h.2 != i.2) = true then S5.J1 a b true else if (j.2 != k.2) = true then S5.J1 a b true else (G6 f.1 g.1).bind fun l => if (!l) = true then S5.J1 a b true else (Ny h.1 i.1).bind fun m => if (!m) = true then S5.J1 a b true else (G6 j.1 k.1).bind fun n => S5.J1 a b (!n)
def L0 (c : KS) (a : List ByteArray) : Option (ByteArray × KS) := (C6 c (a.length : Int)).bind fun b => (ix a b.1).bind fun d => some (d.2, b.2)
def Tc.J1 (c : List Segment) (b : Nat × Segment) (a : Li × Int × (List ByteArray) × (List Port) × (List Station) × Int × Int × Int × Int × Int × Int × (List Point)) : Option (Network × KS) := some ((⟨a.2.2.1, (c.set b.1 (⟨b.2.Name, a.2.2.2.2.2.2.2.1, b.2.To, a.2.2.2.2.2.2.2.2.1, a.2.2.2.2.2.2.2.2.2.1, a.2.2.2.2.2.2.2.2.2.2.1, a.2.2.2.2.2.2.2.2.2.2.2⟩ : Segment)), a.2.2.2.1, a.2.2.2.2.1, a.2.2.2.2.2.1, a.2.2.2.2.2.2.1⟩ : Network), (⟨a.1, a.2.1⟩ : KS))
def Tc.B2 (d : Network) (e : List Port) (f : List Station) (c : Nat × Segment) (g : List Point) (a : Li × Int × (List ByteArray)) : Option ((Li × Int × (List ByteArray)) ⊕ ((Li × Int × (List ByteArray) × (List Port) × (List Station) × Int × Int × Int × Int × Int × Int × (List Point)))) := (C6 (⟨a.1, a.2.1⟩ : KS) 2).bind fun b => if decide ((a.2.2.length : Int) ≤ (wr (23 + b.1))) = true then (Gb (⟨#[121]⟩ : ByteArray) (a.2.2.length : Int)).bind fun h => (Gb (⟨#[]⟩ : ByteArray) (wr ((a.2.2.length : Int).tdiv 26))).bind fun i => (cC h i).bind fun j => (C0 a.2.2 ([j] : List ByteArray)).bind fun k => some (.inl (b.2.L_, b.2.At, k)) else some ((.inr ((b.2.L_, b.2.At, a.2.2, e, f, d.Vapour, d.Settle, c.2.From, c.2.Capacity, c.2.Resist, c.2.Wave, g))))
def Tc (H : KS) (b : Network) : Option (Network × KS) := (C0 ([] : List ByteArray) b.Nodes).bind fun e => (C0 ([] : List Segment) b.Segments).bind fun g => (C0 ([] : List Port) b.Ports).bind fun f => (C0 ([] : List Station) b.Stations).bind fun h => (C6 H (g.length : Int)).bind fun v => (ix g v.1).bind fun a => (C0 ([] : List Point) a.2.Points).bind fun d => (C6 v.2 12).bind fun c => if (c.1 == 0) = true then (C6 c.2 (e.length : Int)).bind fun w => (L0 w.2 ([(⟨#[]⟩ : ByteArray), (⟨#[110, 97]⟩ : ByteArray), (⟨#[65]⟩ : ByteArray), (⟨#[120, 45, 57]⟩ : ByteArray)] : List ByteArray)).bind fun i => (ix e w.1).bind fun K => Tc.J1 g a (i.2.L_, i.2.At, (e.set K.1 i.1), f, h, b.Vapour, b.Settle, a.2.From, a.2.Capacity, a.2.Resist, a.2.Wave, d) else if (c.1 == 1) = true then (C8 c.2 ([(-1), a.2.To, (e.length : Int), 0] : Li)).bind fun j => Tc.J1 g a (j.2.L_, j.2.At, e, f, h, b.Vapour, b.Settle, j.1, a.2.Capacity, a.2.Resist, a.2.Wave, d) else if (c.1 == 2) = true then (C8 c.2 ([0, (-1), wr (a.2.Capacity + 1), 1000001] : Li)).bind fun k => Tc.J1 g a (k.2.L_, k.2.At, e, f, h, b.Vapour, b.Settle, a.2.From, k.1, a.2.Resist, a.2.Wave, d) else if (c.1 == 3) = true then (C8 c.2 ([(-1), 1000, 1001] : Li)).bind fun l => Tc.J1 g a (l.2.L_, l.2.At, e, f, h, b.Vapour, b.Settle, a.2.From, a.2.Capacity, l.1, a.2.Wave, d) else if (c.1 == 4) = true then (C8 c.2 ([(-1), 100000, 100001] : Li)).bind fun m => Tc.J1 g a (m.2.L_, m.2.At, e, f, h, b.Vapour, b.Settle, a.2.From, a.2.Capacity, a.2.Resist, m.1, d) else if (c.1 == 5) = true then if decide ((d.length : Int) > 0) = true then (C6 c.2 (d.length : Int)).bind fun x => (C8 x.2 ([(-1), 0, 1, a.2.Capacity] : Li)).bind fun n => (ix d x.1).bind fun o => Tc.J1 g a (n.2.L_, n.2.At, e, f, h, b.Vapour, b.Settle, a.2.From, a.2.Capacity, a.2.Resist, a.2.Wave, (d.set o.1 (⟨n.1, o.2.Height, o.2.Limit⟩ : Point))) else Tc.J1 g a (c.2.L_, c.2.At, e, f, h, b.Vapour, b.Settle, a.2.From, a.2.Capacity, a.2.Resist, a.2.Wave, d) else if (c.1 == 6) = true then (C6 c.2 (min 3 (wr ((d.length : Int) + 1)))).bind fun p => (Wa d 0 p.1).bind fun M => Tc.J1 g a (p.2.L_, p.2.At, e, f, h, b.Vapour, b.Settle, a.2.From, a.2.Capacity, a.2.Resist, a.2.Wave, M) else if (c.1 == 7) = true then if decide ((d.length : Int) > 0) = true then (C6 c.2 (d.length : Int)).bind fun y => (C8 y.2 ([(-501), (-500), 5000, 5001] : Li)).bind fun q => (ix d y.1).bind fun r => Tc.J1 g a (q.2.L_, q.2.At, e, f, h, b.Vapour, b.Settle, a.2.From, a.2.Capacity, a.2.Resist, a.2.Wave, (d.set r.1 (⟨r.2.At, q.1, r.2.Limit⟩ : Point))) else Tc.J1 g a (c.2.L_, c.2.At, e, f, h, b.Vapour, b.Settle, a.2.From, a.2.Capacity, a.2.Resist, a.2.Wave, d) else if (c.1 == 8) = true then if decide ((f.length : Int) > 0) = true then (C6 c.2 (f.length : Int)).bind fun z => (L0 z.2 ([(⟨#[113, 97]⟩ : ByteArray), (⟨#[113, 98]⟩ : ByteArray), (⟨#[]⟩ : ByteArray), (⟨#[122]⟩ : ByteArray)] : List ByteArray)).bind fun A => (C8 A.2 ([(-1), 0, 1, (e.length : Int)] : Li)).bind fun B => (C8 B.2 ([0, (-1), 100000000, 100000001] : Li)).bind fun s => (ix f z.1).bind fun N => Tc.J1 g a (s.2.L_, s.2.At, e, (f.set N.1 (⟨A.1, B.1, s.1⟩ : Port)), h, b.Vapour, b.Settle, a.2.From, a.2.Capacity, a.2.Resist, a.2.Wave, d) else Tc.J1 g a (c.2.L_, c.2.At, e, f, h, b.Vapour, b.Settle, a.2.From, a.2.Capacity, a.2.Resist, a.2.Wave, d) else if (c.1 == 9) = true then (L0 c.2 ([(⟨#[115, 97]⟩ : ByteArray), (⟨#[115, 122]⟩ : ByteArray), (⟨#[]⟩ : ByteArray)] : List ByteArray)).bind fun C => (C8 C.2 ([(-1), 0, 0, 1, 99] : Li)).bind fun D => (C8 D.2 ([0, (-1)] : Li)).bind fun E => (C8 E.2 ([0, 100001] : Li)).bind fun F => (C8 F.2 ([0, (-1)] : Li)).bind fun t => (C0 h ([(⟨C.1, D.1, E.1, F.1, t.1⟩ : Station)] : List Station)).bind fun O => Tc.J1 g a (t.2.L_, t.2.At, e, f, O, b.Vapour, b.Settle, a.2.From, a.2.Capacity, a.2.Resist, a.2.Wave, d) else if (c.1 == 10) = true then (C8 c.2 ([0, (-100001), 100000001] : Li)).bind fun G => (C8 G.2 ([0, (-1), 101] : Li)).bind fun u => Tc.J1 g a (u.2.L_, u.2.At, e, f, h, G.1, u.1, a.2.From, a.2.Capacity, a.2.Resist, a.2.Wave, d) else (Cl (Tc.B2 b f h a d) Du (c.2.L_, c.2.At, e)).bind fun P => Tc.J1 g a P
def Oo.J2 (a : Li × Int × Li × Li × (List Bool)) : Option (Plan × KS) := some ((⟨a.2.2.1, a.2.2.2.1, a.2.2.2.2⟩ : Plan), (⟨a.1, a.2.1⟩ : KS))
def Oo.J1 (j : KS) (a : Li × Li × (List Bool)) : Option (Plan × KS) := (C6 j 5).bind fun b => if (b.1 == 0) = true then (C0 a.2.2 ([true] : List Bool)).bind fun k => Oo.J2 (b.2.L_, b.2.At, a.1, a.2.1, k) else if (b.1 == 1) = true then (C6 b.2 (wr ((a.2.1.length : Int) + 1))).bind fun c => (Wa a.2.1 0 c.1).bind fun l => Oo.J2 (c.2.L_, c.2.At, a.1, l, a.2.2) else if (b.1 == 2) = true then if decide ((a.2.1.length : Int) > 0) = true then (C6 b.2 (a.2.1.length : Int)).bind fun f => (ix a.2.1 f.1).bind fun g => (C8 f.2 ([1, (-1), 1001, (-4611686018427387904)] : Li)).bind fun d => Oo.J2 (d.2.L_, d.2.At, a.1, (a.2.1.set g.1 (wr (g.2 + d.1))), a.2.2) else Oo.J2 (b.2.L_, b.2.At, a.1, a.2.1, a.2.2) else if decide ((a.1.length : Int) > 0) = true then (C6 b.2 (a.1.length : Int)).bind fun h => (ix a.1 h.1).bind fun i => (C8 h.2 ([1, (-1), 5, 1001, 4611686018427387904, (-4611686018427387904)] : Li)).bind fun e => Oo.J2 (e.2.L_, e.2.At, (a.1.set i.1 (wr (i.2 + e.1))), a.2.1, a.2.2) else Oo.J2 (b.2.L_, b.2.At, a.1, a.2.1, a.2.2)
def Oo (b : KS) (a : Plan) : Option (Plan × KS) := (C0 ([] : Li) a.Rates).bind fun c => (C0 ([] : Li) a.Ports).bind fun d => (C0 ([] : List Bool) a.Pumps).bind fun e => Oo.J1 b (c, d, e)
abbrev Nw := Network
abbrev Sg := Segment
abbrev Sn := Station
abbrev Bt := ByteArray
abbrev U0 := fun (v : Value) l => Ob.us v 3 1 (List.map rI l)
abbrev U1 := fun (v : Value) l => Ob.us v 4 1 (List.map rB l)
abbrev U2 := fun (v : Value) l => Ob.us v 9 1 (List.map rS l)
abbrev U3 := fun (v : Value) l => Ob.us v 50 4 (List.map Am l)
abbrev U4 := fun (v : Value) l => Ob.us v 53 2 (List.map A9 l)
abbrev U5 := fun (v : Value) l => Ob.us v 93 7 (List.map Ap l)
abbrev U6 := fun (v : Value) l => Ob.us v 95 3 (List.map Bp l)
abbrev U7 := fun (v : Value) l => Ob.us v 102 5 (List.map Bl l)
abbrev U8 := fun (v : Value) l => Ob.us v 90 3 (List.map Cn l)
abbrev Q0 := fun l => T.list 1 (List.map rI l)
abbrev Q1 := fun l => T.list 1 (List.map rS l)
abbrev Q2 := fun l => T.list 5 (List.map Bl l)
abbrev Q3 := fun l => T.list 3 (List.map Bp l)
abbrev Q4 := fun l => T.list 7 (List.map Ap l)
abbrev Q5 := fun l => T.list 1 (List.map rB l)
abbrev Q6 := fun l => T.list 4 (List.map Am l)
abbrev Q7 := fun l => T.list 2 (List.map A9 l)
abbrev Q8 := fun l => T.list 3 (List.map Cn l)
abbrev O0 := fun (b : Nat) e => Ob.arr b 32 6 1 e
abbrev O1 := fun (b : Nat) e => Ob.arr b 36 3 1 e
abbrev O2 := fun (b : Nat) e => Ob.arr b 97 2 1 e
abbrev O3 := fun (b : Nat) e => Ob.arr b 50 4 1 e
abbrev O4 := fun (b : Nat) e => Ob.arr b 171 4 1 e
abbrev O5 := fun (b : Nat) e => Ob.arr b 93 7 1 e
abbrev O6 := fun (b : Nat) e => Ob.arr b 148 8 1 e
abbrev O7 := fun (b : Nat) e => Ob.arr b 192 48 1 e
abbrev W0 : List T := [.N, .N, .N]
abbrev W1 : List T := [.V 0, .V 0, .N, .V 0]
abbrev W2 : List T := [.N, .N, .N, .N, .V 0, .V 0]
abbrev W3 : List T := [.v (.string ⟨#[]⟩), .V 0, .V 0, .V 0, .V 0, .V 0, .N]
abbrev W4 : List T := [.N, .N, .N, .N]
abbrev W5 : List T := [.v (.string ⟨#[]⟩), .V 0, .V 0]
abbrev W6 : List T := [.v (.string ⟨#[]⟩), .V 0, .V 0, .V 0, .V 0]
end Go.Proofs.YtihdchjpepkpbaaGreat
