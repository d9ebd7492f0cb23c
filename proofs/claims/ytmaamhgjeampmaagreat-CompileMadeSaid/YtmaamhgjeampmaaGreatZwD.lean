/- Tables and pure functions. No condition. -/
import Derived.Test.YtmaamhgjeampmaaGreatZwB2
import Derived.Test.YtmaamhgjeampmaaGreatRows
import Derived.KernelRfl
import Derived.Test.YtmaamhgjeampmaaGreatZwB3
set_option maxRecDepth 100000
namespace Go.Aw
set_option linter.unusedVariables false
set_option linter.unusedSimpArgs false
inductive TT where
 | nil
 | node (l : TT) (k : Nat) (x : TI) (r : TT)
def Qr : TT → Nat → Option TI
 | .nil, _ => none
 | .node l k x r, i => bif Nat.beq k i then some x else bif Nat.ble k i then Qr r i else Qr l i
def cR (P : Program) : TT → Prop
 | .nil => True
 | .node l k x r => cR P l ∧ Je P k = some x ∧ cR P r
theorem S0 {P : Program} : ∀ {t : TT} {i : Nat} {x : TI}, cR P t → Qr t i = some x → Je P i = some x
 | .nil, _, _, _, h => by simp [Qr] at h
 | .node l k y r, i, x, ha, h => by
  simp only [Qr] at h
  cases hb : Nat.beq k i with
  | true =>
   have := nq hb
   simp only [hb, cond_true, Option.some.injEq] at h
   subst h this; exact ha.2.1
  | false =>
   simp only [hb, cond_false] at h
   cases hc : Nat.ble k i with
   | true => simp only [hc, cond_true] at h; exact S0 ha.2.2 h
   | false => simp only [hc, cond_false] at h; exact S0 ha.1 h
abbrev zI : Value := .int .i64 0
abbrev zN : Value := .slice none 0 0
abbrev zT (k : Nat) : TI := { kind := .slice k, size := 1, bytes := 24, zero := some zN }
abbrev zS (f : List (Nat × Nat)) (s b : Nat) (z : Array Value) : TI := { kind := .struct f, size := s, bytes := b, zero := some (.agg z) }
abbrev zA (n t s b : Nat) (z : Array Value) : TI := { kind := .array n t, size := s, bytes := b, zero := some (.agg z) }
end Go.Aw
namespace Go.Proofs.YtmaamhgjeampmaaGreat
open Go.Aw
abbrev qG : TI := { kind := .int .i64, size := 1, bytes := 8, zero := some (.int .i64 0) }
abbrev qF : TI := { kind := .bool, size := 1, bytes := 1, zero := some (.bool false) }
abbrev qE : TI := { kind := .int .u8, size := 1, bytes := 1, zero := some (.int .u8 0) }
abbrev qD : TI := { kind := .string, size := 1, bytes := 16, zero := some (.string ⟨#[]⟩) }
abbrev oA : TI := zT 3
abbrev nZ : TI := zT 9
abbrev nY : TI := zT 83
abbrev nX : TI := zT 85
abbrev nW : TI := zT 93
abbrev nV : TI := zS [(0, 27), (1, 28), (2, 29), (3, 30), (4, 3), (5, 3)] 6 112 #[zN, zN, zN, zN, zI, zI]
abbrev nU : TI := zT 74
abbrev nT : TI := zT 4
abbrev nR : TI := zS [(0, 22), (1, 22), (2, 35)] 3 72 #[zN, zN, zN]
abbrev nQ : TI := zS [(0, 34), (1, 37)] 4 96 #[zN, zN, zN, zN]
abbrev nP : TI := zT 54
abbrev nO : TI := { kind := .int .i64, size := 1, bytes := 8, zero := some (.int .i64 0) }
abbrev nN : TI := zT 107
abbrev nM : TI := zS [(0, 3), (1, 3), (2, 50), (3, 3)] 4 48 #[zI, zI, zN, zI]
abbrev nL : TI := zS [(0, 3), (1, 3), (2, 3), (3, 52)] 7 72 #[zI, zI, zI, zI, zI, zN, zI]
abbrev nK : TI := zT 52
abbrev nJ : TI := zS [(0, 3), (1, 3), (2, 4), (3, 4)] 4 24 #[zI, zI, .bool false, .bool false]
abbrev nI : TI := zS [(0, 3), (1, 3), (2, 3)] 3 24 #[zI, zI, zI]
abbrev nH : TI := zT 80
abbrev nG : TI := zS [(0, 9), (1, 3), (2, 3), (3, 3), (4, 3), (5, 3), (6, 81)] 7 80 #[.string ⟨#[]⟩, zI, zI, zI, zI, zI, zN]
abbrev nF : TI := zS [(0, 9), (1, 3), (2, 3)] 3 32 #[.string ⟨#[]⟩, zI, zI]
abbrev nE : TI := zS [(0, 22), (1, 3)] 2 32 #[zN, zI]
abbrev nD : TI := zS [(0, 9), (1, 3), (2, 3), (3, 3), (4, 3)] 5 48 #[.string ⟨#[]⟩, zI, zI, zI, zI]
abbrev nC : TI := zS [(0, 35), (1, 35)] 2 48 #[zN, zN]
abbrev fO : TI := { kind := .other, size := 1, bytes := 8, zero := some (.nilFunc) }
abbrev fN : TI := zS [(0, 3), (1, 4)] 2 16 #[zI, .bool false]
abbrev fM : TI := zT 5
abbrev fL : TI := zS [(0, 32), (6, 22), (7, 22)] 8 160 #[zN, zN, zN, zN, zI, zI, zN, zN]
abbrev fK : TI := zA 4 27 4 96 #[zN, zN, zN, zN]
abbrev fJ : TI := zS [(0, 43), (1, 34), (2, 3)] 3 56 #[zN, zN, zI]
abbrev fI : TI := zA 24 3 24 192 #[zI, zI, zI, zI, zI, zI, zI, zI, zI, zI, zI, zI, zI, zI, zI, zI, zI, zI, zI, zI, zI, zI, zI, zI]
abbrev fH : TI := zS [(0, 173), (24, 173)] 48 384 #[zI, zI, zI, zI, zI, zI, zI, zI, zI, zI, zI, zI, zI, zI, zI, zI, zI, zI, zI, zI, zI, zI, zI, zI, zI, zI, zI, zI, zI, zI, zI, zI, zI, zI, zI, zI, zI, zI, zI, zI, zI, zI, zI, zI, zI, zI, zI, zI]
def Pl : TT := (.node (.node (.node (.node (.node (.node .nil 3 qG .nil) 4 qF .nil) 5 qE (.node .nil 9 qD .nil)) 22 oA (.node (.node (.node .nil 27 nZ .nil) 28 nY .nil) 29 nX (.node .nil 30 nW .nil))) 32 nV (.node (.node (.node (.node .nil 34 nU .nil) 35 nT .nil) 37 nR (.node .nil 39 nQ .nil)) 43 nP (.node (.node .nil 44 nO .nil) 50 nN (.node .nil 52 nM .nil)))) 54 nL (.node (.node (.node (.node (.node .nil 57 nK .nil) 74 nJ .nil) 80 nI (.node .nil 81 nH .nil)) 83 nG (.node (.node .nil 85 nF .nil) 88 nE (.node .nil 93 nD .nil))) 97 nC (.node (.node (.node (.node .nil 104 fO .nil) 107 fN .nil) 135 fM (.node .nil 141 fL .nil)) 158 fK (.node (.node .nil 166 fJ .nil) 173 fI (.node .nil 175 fH .nil)))))
theorem aF : cR Tryz.prog Pl :=
 ⟨⟨⟨⟨⟨⟨trivial, by kernel_rfl, trivial⟩, by kernel_rfl, trivial⟩, by kernel_rfl, ⟨trivial, by kernel_rfl, trivial⟩⟩, by kernel_rfl, ⟨⟨⟨trivial, by kernel_rfl, trivial⟩, by kernel_rfl, trivial⟩, by kernel_rfl, ⟨trivial, by kernel_rfl, trivial⟩⟩⟩, by kernel_rfl, ⟨⟨⟨⟨trivial, by kernel_rfl, trivial⟩, by kernel_rfl, trivial⟩, by kernel_rfl, ⟨trivial, by kernel_rfl, trivial⟩⟩, by kernel_rfl, ⟨⟨trivial, by kernel_rfl, trivial⟩, by kernel_rfl, ⟨trivial, by kernel_rfl, trivial⟩⟩⟩⟩, by kernel_rfl, ⟨⟨⟨⟨⟨trivial, by kernel_rfl, trivial⟩, by kernel_rfl, trivial⟩, by kernel_rfl, ⟨trivial, by kernel_rfl, trivial⟩⟩, by kernel_rfl, ⟨⟨trivial, by kernel_rfl, trivial⟩, by kernel_rfl, ⟨trivial, by kernel_rfl, trivial⟩⟩⟩, by kernel_rfl, ⟨⟨⟨⟨trivial, by kernel_rfl, trivial⟩, by kernel_rfl, trivial⟩, by kernel_rfl, ⟨trivial, by kernel_rfl, trivial⟩⟩, by kernel_rfl, ⟨⟨trivial, by kernel_rfl, trivial⟩, by kernel_rfl, ⟨trivial, by kernel_rfl, trivial⟩⟩⟩⟩⟩
theorem bX : Tryz.prog.follows .mixedOrders = true := by kernel_rfl
theorem bW (t : Nat) (i : TI) (h : Qr Pl t = some i) : Je Tryz.prog t = some i := S0 aF h
noncomputable def Ai : Env := ⟨Tryz.prog, Qr Pl, bW, bX⟩
theorem Tq : Bld Ai 32 [(0, 1), (1, 1), (2, 1), (3, 1), (4, 1), (5, 1)] [.N, .N, .N, .N, .V 0, .V 0] := ⟨⟨_, _, _, I7⟩⟩
theorem Dj : Bld Ai 37 [(0, 1), (1, 1), (2, 1)] [.N, .N, .N] := ⟨⟨_, _, _, I7⟩⟩
theorem I9 : Bld Ai 39 [(0, 1), (1, 3)] [.N, .N, .N, .N] := ⟨⟨_, _, _, I7⟩⟩
theorem Tp : Bld Ai 52 [(0, 1), (1, 1), (2, 1), (3, 1)] [.V 0, .V 0, .N, .V 0] := ⟨⟨_, _, _, I7⟩⟩
theorem Ec : Bld Ai 54 [(0, 1), (1, 1), (2, 1), (3, 4)] [.V 0, .V 0, .V 0, .V 0, .V 0, .N, .V 0] := ⟨⟨_, _, _, I7⟩⟩
theorem Tn : Bld Ai 74 [(0, 1), (1, 1), (2, 1), (3, 1)] [.V 0, .V 0, .v (.bool false), .v (.bool false)] := ⟨⟨_, _, _, I7⟩⟩
theorem F6 : Bld Ai 80 [(0, 1), (1, 1), (2, 1)] [.V 0, .V 0, .V 0] := ⟨⟨_, _, _, I7⟩⟩
theorem Tm : Bld Ai 83 [(0, 1), (1, 1), (2, 1), (3, 1), (4, 1), (5, 1), (6, 1)] [.v (.string ⟨#[]⟩), .V 0, .V 0, .V 0, .V 0, .V 0, .N] := ⟨⟨_, _, _, I7⟩⟩
theorem Hh : Bld Ai 85 [(0, 1), (1, 1), (2, 1)] [.v (.string ⟨#[]⟩), .V 0, .V 0] := ⟨⟨_, _, _, I7⟩⟩
theorem bZ : Bld Ai 88 [(0, 1), (1, 1)] [.N, .V 0] := ⟨⟨_, _, _, I7⟩⟩
theorem Tk : Bld Ai 93 [(0, 1), (1, 1), (2, 1), (3, 1), (4, 1)] [.v (.string ⟨#[]⟩), .V 0, .V 0, .V 0, .V 0] := ⟨⟨_, _, _, I7⟩⟩
theorem L9 : Bld Ai 97 [(0, 1), (1, 1)] [.N, .N] := ⟨⟨_, _, _, I7⟩⟩
theorem Hw : Bld Ai 107 [(0, 1), (1, 1)] [.V 0, .v (.bool false)] := ⟨⟨_, _, _, I7⟩⟩
theorem aH : Bld Ai 141 [(0, 6), (6, 1), (7, 1)] [.N, .N, .N, .N, .V 0, .V 0, .N, .N] := ⟨⟨_, _, _, I7⟩⟩
theorem aG : Bld Ai 166 [(0, 1), (1, 1), (2, 1)] [.N, .N, .V 0] := ⟨⟨_, _, _, I7⟩⟩
theorem fP : jR Tryz.prog 74 = true := by kernel_rfl
theorem Tj : jR Tryz.prog 107 = true := by kernel_rfl
theorem bY : jV Tryz.prog 173 = true := by kernel_rfl
set_option linter.unusedVariables false
set_option linter.unusedSimpArgs false
structure Point where
 At : Int
 Height : Int
 Limit : Int
 deriving DecidableEq
def C1 (x : Point) : List T := [.V x.At, .V x.Height, .V x.Limit]
structure Segment where
 Name : ByteArray
 From : Int
 To : Int
 Capacity : Int
 Resist : Int
 Wave : Int
 Points : List Point
 deriving DecidableEq
def Ap (x : Segment) : List T := [.v (.string x.Name), .V x.From, .V x.To, .V x.Capacity, .V x.Resist, .V x.Wave, .list 3 (x.Points.map C1)]
structure Port where
 Name : ByteArray
 Node : Int
 Pressure : Int
 deriving DecidableEq
def Cc (x : Port) : List T := [.v (.string x.Name), .V x.Node, .V x.Pressure]
structure Station where
 Name : ByteArray
 Node : Int
 Head : Int
 Fall : Int
 Suction : Int
 deriving DecidableEq
def Bn (x : Station) : List T := [.v (.string x.Name), .V x.Node, .V x.Head, .V x.Fall, .V x.Suction]
structure Network where
 Nodes : List ByteArray
 Segments : List Segment
 Ports : List Port
 Stations : List Station
 Vapour : Int
 Settle : Int
 deriving DecidableEq
def Ab (x : Network) : List T := [.list 1 (x.Nodes.map rS), .list 7 (x.Segments.map Ap), .list 3 (x.Ports.map Cc), .list 5 (x.Stations.map Bn), .V x.Vapour, .V x.Settle]
structure Plan where
 Rates : Li
 Ports : Li
 Pumps : List Bool
 deriving DecidableEq
def Ak (x : Plan) : List T := [.list 1 (x.Rates.map rI), .list 1 (x.Ports.map rI), .list 1 (x.Pumps.map rB)]
structure flow_streams where
 come : Arr Int 24
 leave : Arr Int 24
 deriving DecidableEq
def Bq (x : flow_streams) : List T := x.come.l.map cI ++ (x.leave.l.map cI ++ [])
structure KS where
 L_ : Li
 At : Int
 deriving DecidableEq
def Ca (x : KS) : List T := [.list 1 (x.L_.map rI), .V x.At]
def C4 (a : Segment) (b : Int) : (Int × Int) := if decide (b < 0) = true then (a.To, a.From) else (a.From, a.To)
def Of (a : Int) (b : Int) : Bool := (decide (a ≥ (wr (0 - b))) && decide (a ≤ b))
def Sf.J1 (a : Int) : Option Int := some a
def Sf (c : Int) (a : Int) : Option Int := if decide (a < 1) = true then some 0 else (oI c a).bind fun b => if decide (b < 0) = true then Sf.J1 (wr (b + a)) else Sf.J1 b
def Dp (a : Int) (b : Int) (c : Int) : Bool := (decide (a ≥ b) && decide (a ≤ c))
def Jl (a : Int) : Int := (max a (wr (0 - a)))
def Rm.J1 (a : Unit) : Option Int := some (-1)
def Rm.B2 (a : ByteArray) (b : Nat) (c : ByteArray) (d : Unit) : Option (Unit ⊕ (Int)) := if Yf a c = true then some ((.inr ((b : Int)))) else some (.inl ())
def Rm (a : List ByteArray) (b : ByteArray) : Option Int := (forL (Rm.B2 b) 0 a ()).bind fun c => Sum.elim (fun e => Rm.J1 ()) (fun d => some d) c
def Sk.J1 (a : Unit) : Option Int := some (-1)
def Sk.B2 (a : Int → Option Bool) (b : Nat) (c : Int) (e : Unit) : Option (Unit ⊕ (Int)) := (a c).bind fun d => if d = true then some ((.inr ((b : Int)))) else some (.inl ())
def Sk (a : Li) (b : Int → Option Bool) : Option Int := (forL (Sk.B2 b) 0 a ()).bind fun c => Sum.elim (fun e => Sk.J1 ()) (fun d => some d) c
def Nz (a : Li) (b : Int → Option Bool) : Option Bool := (Sk a b).bind fun c => some (decide (c ≥ 0))
def Ro.J1 (a : Unit) : Option Int := some (-1)
def Ro.B2 (a : ByteArray → Option Bool) (b : Nat) (c : ByteArray) (e : Unit) : Option (Unit ⊕ (Int)) := (a c).bind fun d => if d = true then some ((.inr ((b : Int)))) else some (.inl ())
def Ro (a : List ByteArray) (b : ByteArray → Option Bool) : Option Int := (forL (Ro.B2 b) 0 a ()).bind fun c => Sum.elim (fun e => Ro.J1 ()) (fun d => some d) c
def Rx (a : List ByteArray) (b : ByteArray → Option Bool) : Option Bool := (Ro a b).bind fun c => some (decide (c ≥ 0))
def Sd.J1 (a : Unit) : Option Int := some (-1)
def Sd.B2 (a : Segment → Option Bool) (b : Nat) (c : Segment) (e : Unit) : Option (Unit ⊕ (Int)) := (a c).bind fun d => if d = true then some ((.inr ((b : Int)))) else some (.inl ())
def Sd (a : List Segment) (b : Segment → Option Bool) : Option Int := (forL (Sd.B2 b) 0 a ()).bind fun c => Sum.elim (fun e => Sd.J1 ()) (fun d => some d) c
def Nv (a : List Segment) (b : Segment → Option Bool) : Option Bool := (Sd a b).bind fun c => some (decide (c ≥ 0))
def Ru.J1 (a : Unit) : Option Int := some (-1)
def Ru.B2 (a : Port → Option Bool) (b : Nat) (c : Port) (e : Unit) : Option (Unit ⊕ (Int)) := (a c).bind fun d => if d = true then some ((.inr ((b : Int)))) else some (.inl ())
def Ru (a : List Port) (b : Port → Option Bool) : Option Int := (forL (Ru.B2 b) 0 a ()).bind fun c => Sum.elim (fun e => Ru.J1 ()) (fun d => some d) c
def R7 (a : List Port) (b : Port → Option Bool) : Option Bool := (Ru a b).bind fun c => some (decide (c ≥ 0))
def Nt.J1 (a : Unit) : Option Int := some (-1)
def Nt.B2 (a : Station → Option Bool) (b : Nat) (c : Station) (e : Unit) : Option (Unit ⊕ (Int)) := (a c).bind fun d => if d = true then some ((.inr ((b : Int)))) else some (.inl ())
def Nt (a : List Station) (b : Station → Option Bool) : Option Int := (forL (Nt.B2 b) 0 a ()).bind fun c => Sum.elim (fun e => Nt.J1 ()) (fun d => some d) c
def Ri (a : List Station) (b : Station → Option Bool) : Option Bool := (Nt a b).bind fun c => some (decide (c ≥ 0))
def Lm (a : Segment) : Bool := (decide ((a.Points.length : Int) < 2) || decide ((a.Points.length : Int) > 8))
def Rw (a : Network) : Option Bool := if (decide ((a.Nodes.length : Int) < 1) || (decide ((a.Nodes.length : Int) > 24) || (decide ((a.Segments.length : Int) > 32) || (decide ((a.Ports.length : Int) > 24) || decide ((a.Stations.length : Int) > 12))))) = true then some false else (Nv a.Segments (fun x => some (Lm x))).bind fun b => some (!b)
def Rl.J1 (a : Li) : Option Li := some a
def Rl.J3 (a : Li × (List Bool) × Int) : Option ((Li × (List Bool) × Int) ⊕ (Li)) := some (.inl (a.1, a.2.1, wr (a.2.2 + 1)))
def Rl.J4 (a : Li × (List Bool) × Int) (b : Nat × Bool) (d : Unit) : Option ((Li × (List Bool) × Int) ⊕ (Li)) := (Cp a.1 ([a.2.2] : Li)).bind fun c => Rl.J3 (c, (a.2.1.set b.1 true), (-1))
def Rl.J6 (a : Li × (List Bool) × Int) (b : Bool) : Option (Unit ⊕ ((Li × (List Bool) × Int))) := if b = true then some ((.inr ((a.1, a.2.1, a.2.2)))) else some (.inl ())
def Rl.B5 (d : Plan) (a : Li × (List Bool) × Int) (e : Nat) (c : Segment) (g : Unit) : Option (Unit ⊕ ((Li × (List Bool) × Int))) := (ix d.Rates (e : Int)).bind fun b => if (b.2 != 0) = true then if (((C4 c b.2).2) == a.2.2) = true then (ix a.2.1 ((C4 c b.2).1)).bind fun f => Rl.J6 a (!f.2) else Rl.J6 a false else Rl.J6 a false
def Rl.B2 (b : Network) (d : Plan) (a : Li × (List Bool) × Int) : Option ((Li × (List Bool) × Int) ⊕ (Li)) := if decide (a.2.2 < (b.Nodes.length : Int)) = true then (ix a.2.1 a.2.2).bind fun c => if c.2 = true then Rl.J3 (a.1, a.2.1, a.2.2) else (forL (Rl.B5 d a) 0 b.Segments ()).bind fun e => Sum.elim (fun g => Rl.J4 a c ()) (fun f => Rl.J3 f) e else some ((.inr (a.1)))
def Rl (a : Network) (b : Plan) : Option Li := (Qb (a.Nodes.length : Int) false).bind fun c => (Bx (Rl.B2 a b) C0 ([], c, 0)).bind fun d => Rl.J1 d
def Jo.J1 (a : Unit) : Int := 2
def Jo (a : Int) : Int := if (decide (a ≥ 97) && decide (a ≤ 122)) = true then 1 else if (decide (a ≥ 48) && decide (a ≤ 57)) = true then Jo.J1 () else if (a == 45) = true then Jo.J1 () else 0
def Ix.J2 (a : Unit) : Option Bool := some true
def Ix.B3 (a : ByteArray) (b : Nat) (d : Unit) : Option (Unit ⊕ (Bool)) := (qO a (b : Int)).bind fun c => if ((Jo c.2) == 0) = true then some ((.inr (false))) else some (.inl ())
def Ix.J1 (a : ByteArray) (b : Bool) : Option Bool := if b = true then some false else (chk ((a.size : Int) ≤ 9223372036854775806)).bind fun e => (forI (Ix.B3 a) 0 ((a.size : Int).toNat) ()).bind fun c => Sum.elim (fun f => Ix.J2 ()) (fun d => some d) c
def Ix (a : ByteArray) : Option Bool := if decide ((a.size : Int) < 1) = true then Ix.J1 a true else if decide ((a.size : Int) > 12) = true then Ix.J1 a true else (qO a 0).bind fun b => Ix.J1 a ((Jo b.2) != 1)
def Ox.J3 (a : Network) (b : List ByteArray) (c : List ByteArray) (d : List ByteArray) : Option (Arr (List ByteArray) 4) := some (⟨[a.Nodes, b, c, d], rfl⟩ : Arr (List ByteArray) 4)
def Ox.B4 (d : Nat) (a : Station) (b : List ByteArray) : Option (List ByteArray) := (Cp b ([a.Name] : List ByteArray)).bind fun c => some c
def Ox.J2 (a : Network) (b : List ByteArray) (c : List ByteArray) : Option (Arr (List ByteArray) 4) := (forS Ox.B4 0 a.Stations []).bind fun d => Ox.J3 a b c d
def Ox.B5 (d : Nat) (a : Port) (b : List ByteArray) : Option (List ByteArray) := (Cp b ([a.Name] : List ByteArray)).bind fun c => some c
def Ox.J1 (a : Network) (b : List ByteArray) : Option (Arr (List ByteArray) 4) := (forS Ox.B5 0 a.Ports []).bind fun c => Ox.J2 a b c
def Ox.B6 (d : Nat) (a : Segment) (b : List ByteArray) : Option (List ByteArray) := (Cp b ([a.Name] : List ByteArray)).bind fun c => some c
def Ox (a : Network) : Option (Arr (List ByteArray) 4) := (forS Ox.B6 0 a.Segments []).bind fun b => Ox.J1 a b
def Jm (a : Station) (b : Station) : Bool := (a.Node == b.Node)
def Rg.J2 (a : Unit) : Option Bool := some false
def Rg.B3 (a : Network) (b : Nat) (c : Station) (e : Unit) : Option (Unit ⊕ (Bool)) := (Nt a.Stations (fun x => some (Jm x c))).bind fun d => if decide (d < (b : Int)) = true then some ((.inr (true))) else some (.inl ())
def Rg.J1 (a : Network) (d : Unit) : Option Bool := (forL (Rg.B3 a) 0 a.Stations ()).bind fun b => Sum.elim (fun e => Rg.J2 ()) (fun c => some c) b
def Rg.J5 (a : Unit) : Option (Unit ⊕ (Bool)) := some (.inl ())
def Rg.B6 (a : Nat × (List ByteArray)) (b : Nat) (c : ByteArray) (e : Unit) : Option (Unit ⊕ (Bool)) := (Rm a.2 c).bind fun d => if decide (d < (b : Int)) = true then some ((.inr (true))) else some (.inl ())
def Rg.B4 (b : Arr (List ByteArray) 4) (c : Nat) (f : Unit) : Option (Unit ⊕ (Bool)) := (ix b.l (c : Int)).bind fun a => (forL (Rg.B6 a) 0 a.2 ()).bind fun d => Sum.elim (fun g => Rg.J5 ()) (fun e => some ((.inr (e)))) d
def Rg (a : Network) : Option Bool := (Ox a).bind fun b => (forI (Rg.B4 b) 0 4 ()).bind fun c => Sum.elim (fun e => Rg.J1 a ()) (fun d => some d) c
def Ln (a : Int) (b : Network) : Bool := (decide (a < 0) || decide (a ≥ (b.Nodes.length : Int)))
def Sb.J3 (a : Network) (b : Li) : Option Bool := (Nz b (fun x => some (Ln x a))).bind fun c => some (!c)
def Sb.B4 (d : Nat) (a : Station) (b : Li) : Option Li := (Cp b ([a.Node] : Li)).bind fun c => some c
def Sb.J2 (a : Network) (b : Li) : Option Bool := (forS Sb.B4 0 a.Stations b).bind fun c => Sb.J3 a c
def Sb.B5 (d : Nat) (a : Port) (b : Li) : Option Li := (Cp b ([a.Node] : Li)).bind fun c => some c
def Sb.J1 (a : Network) (b : Li) : Option Bool := (forS Sb.B5 0 a.Ports b).bind fun c => Sb.J2 a c
def Sb.B6 (d : Nat) (a : Segment) (b : Li) : Option Li := (Cp b ([a.From, a.To] : Li)).bind fun c => some c
def Sb (a : Network) : Option Bool := (forS Sb.B6 0 a.Segments []).bind fun b => Sb.J1 a b
def L0.J2 (a : Bool) : Option Bool := some a
def L0.J1 (a : Segment) (d : Unit) : Option Bool := (ix a.Points 0).bind fun b => if (b.2.At == 0) = true then (ix a.Points (wr ((a.Points.length : Int) - 1))).bind fun c => L0.J2 (c.2.At == a.Capacity) else L0.J2 false
def L0.J4 (a : Bool) : Option (Unit ⊕ (Bool)) := if a = true then some ((.inr (false))) else some (.inl ())
def L0.B3 (c : Segment) (b : Nat) (a : Point) (e : Unit) : Option (Unit ⊕ (Bool)) := if (!(Dp a.Height (-500) 5000)) = true then L0.J4 true else if (!(Dp a.Limit 0 100000000)) = true then L0.J4 true else if decide ((b : Int) > 0) = true then (ix c.Points (wr ((b : Int) - 1))).bind fun d => L0.J4 (decide (a.At ≤ d.2.At)) else L0.J4 false
def L0 (a : Segment) : Option Bool := if ((a.From == a.To) || ((!(Dp a.Capacity 1 1000000)) || ((!(Dp a.Resist 0 1000)) || (!(Dp a.Wave 0 100000))))) = true then some false else (forL (L0.B3 a) 0 a.Points ()).bind fun b => Sum.elim (fun d => L0.J1 a ()) (fun c => some c) b
def Wx (a : Segment) : Option Bool := (L0 a).bind fun b => some (!b)
def Lo (a : Port) : Bool := (!(Dp a.Pressure 0 100000000))
def Lz (a : Station) : Bool := ((!(Dp a.Head 0 100000000)) || ((!(Dp a.Fall 0 100000)) || (!(Dp a.Suction 0 100000000))))
def Xp (a : Network) : Option Bool := (Nv a.Segments (fun x => Wx x)).bind fun b => if b = true then some false else (R7 a.Ports (fun x => some (Lo x))).bind fun c => if c = true then some false else (Ri a.Stations (fun x => some (Lz x))).bind fun d => if d = true then some false else some ((Dp a.Vapour (-100000) 100000000) && (Dp a.Settle 0 100))
def Xf (a : ByteArray) : Option Bool := (Ix a).bind fun b => some (!b)
def En.J1 (a : Network) (e : Unit) : Option Int := (Rg a).bind fun b => if b = true then some 7 else (Sb a).bind fun c => if (!c) = true then some 8 else (Xp a).bind fun d => if (!d) = true then some 9 else some 0
def En.B2 (a : Arr (List ByteArray) 4) (b : Nat) (e : Unit) : Option (Unit ⊕ (Int)) := (ix a.l (b : Int)).bind fun c => (Rx c.2 (fun x => Xf x)).bind fun d => if d = true then some ((.inr (3))) else some (.inl ())
def En (a : Network) : Option Int := (Rw a).bind fun b => if (!b) = true then some 4 else (Ox a).bind fun c => (forI (En.B2 c) 0 4 ()).bind fun d => Sum.elim (fun f => En.J1 a ()) (fun e => some e) d
def Jk.J2 (a : flow_streams) (b : Int × Int × Int) (c : Arr Int 24) : Option flow_streams := if decide (b.2.1 ≥ 0) = true then (ix a.come.l b.2.1).bind fun d => some (⟨(a.come.set d.1 (wr (d.2 + b.2.2))), c⟩ : flow_streams) else some (⟨a.come, c⟩ : flow_streams)
def Jk.J1 (a : flow_streams) (b : Int × Int × Int) : Option flow_streams := if decide (b.1 ≥ 0) = true then (ix a.leave.l b.1).bind fun c => Jk.J2 a b (a.leave.set c.1 (wr (c.2 + b.2.2))) else Jk.J2 a b a.leave
def Jk (b : flow_streams) (c : Int) (d : Int) (a : Int) : Option flow_streams := if decide (a < 0) = true then Jk.J1 b (d, c, wr (0 - a)) else Jk.J1 b (c, d, a)
def Jh.J2 (a : (Arr Int 24) × (Arr Int 24)) : Option flow_streams := some (⟨a.1, a.2⟩ : flow_streams)
def Jh.B3 (c : Plan) (d : Nat) (e : Port) (a : (Arr Int 24) × (Arr Int 24)) : Option ((Arr Int 24) × (Arr Int 24)) := (ix c.Ports (d : Int)).bind fun f => (Jk (⟨a.1, a.2⟩ : flow_streams) (-1) e.Node f.2).bind fun b => some (b.come, b.leave)
def Jh.J1 (c : Network) (d : Plan) (a : (Arr Int 24) × (Arr Int 24)) : Option flow_streams := (forS (Jh.B3 d) 0 c.Ports (a.1, a.2)).bind fun b => Jh.J2 (b.1, b.2)
def Jh.B4 (d : Plan) (e : Nat) (a : Segment) (b : (Arr Int 24) × (Arr Int 24)) : Option ((Arr Int 24) × (Arr Int 24)) := (ix d.Rates (e : Int)).bind fun f => (Jk (⟨b.1, b.2⟩ : flow_streams) a.From a.To f.2).bind fun c => some (c.come, c.leave)
def Jh (a : Network) (b : Plan) : Option flow_streams := (forS (Jh.B4 b) 0 a.Segments ((Arr.rep 24 (0 : Int)), (Arr.rep 24 (0 : Int)))).bind fun c => Jh.J1 a b (c.1, c.2)
def Oo (a : Int) : Bool := (!(Of a 1000))
def Gp.J1 (a : Network) (b : Plan) (f : Unit) : Option Int := (Nz b.Ports (fun x => some (Oo x))).bind fun d => if d = true then some 1 else (Jh a b).bind fun c => if (!decide (c.come = c.leave)) = true then some 12 else (Rl a b).bind fun e => if decide ((e.length : Int) < (a.Nodes.length : Int)) = true then some 13 else some 0
def Gp.B2 (a : Plan) (b : Nat) (c : Segment) (e : Unit) : Option (Unit ⊕ (Int)) := (ix a.Rates (b : Int)).bind fun d => if (!(Of d.2 (min 1000 c.Capacity))) = true then some ((.inr (1))) else some (.inl ())
def Gp (a : Network) (b : Plan) : Option Int := (En a).bind fun c => if (c != 0) = true then some c else if (((b.Rates.length : Int) != (a.Segments.length : Int)) || (((b.Ports.length : Int) != (a.Ports.length : Int)) || ((b.Pumps.length : Int) != (a.Stations.length : Int)))) = true then some 9 else (forL (Gp.B2 b) 0 a.Segments ()).bind fun d => Sum.elim (fun f => Gp.J1 a b ()) (fun e => some e) d
def Xl (a : Li) : Option KS := (aM a 0 (min (a.length : Int) 2000)).bind fun b => some (⟨b, 0⟩ : KS)
def Wy (a : KS) : Option (Int × KS) := if decide (a.At ≥ (a.L_.length : Int)) = true then some (0, a) else (ix a.L_ (wr ((wr (a.At + 1)) - 1))).bind fun b => some (b.2, (⟨a.L_, wr (a.At + 1)⟩ : KS))
def Da (b : KS) (c : Int) : Option (Int × KS) := (Wy b).bind fun a => (Sf a.1 c).bind fun d => some (d, a.2)
def G3 (a : ByteArray) (b : Int) : Option ByteArray := (Wv ([IntKind.u8.wrap (wr (97 + (b.tmod 26)))] : Li)).bind fun c => (jT a c).bind fun d => some d
def Di (c : KS) (a : Li) : Option (Int × KS) := (Da c (a.length : Int)).bind fun b => (ix a b.1).bind fun d => some (d.2, b.2)
def H4 (c : KS) (a : Int) (d : Int) : Option (Int × KS) := (Da c (wr ((wr (d - a)) + 1))).bind fun b => some (wr (a + b.1), b.2)
def Oa.J2 (b : Li × Int × Int × Int) (e : ByteArray) (c : Int × KS) (f : Int × KS) (g : Int × KS) (h : Int × KS) (a : Li × Int × (List Point)) : Option (Segment × KS) := (H4 (⟨a.1, a.2.1⟩ : KS) (-5) 30).bind fun d => (Cp a.2.2 ([(⟨c.1, d.1, h.1⟩ : Point)] : List Point)).bind fun i => some ((⟨e, b.2.2.1, b.2.2.2, c.1, f.1, g.1, i⟩ : Segment), d.2)
def Oa.J4 (g : Int × KS) (h : Int × KS) (a : Li × Int × (List Point) × Int) (c : Li × Int × Bool) : Option ((Li × Int × (List Point) × Int) ⊕ ((Li × Int × (List Point)))) := if c.2.2 = true then (H4 (⟨c.1, c.2.1⟩ : KS) 1 40).bind fun b => if decide ((wr (a.2.2.2 + b.1)) ≥ g.1) = true then some ((.inr ((b.2.L_, b.2.At, a.2.2.1)))) else (H4 b.2 (-5) 60).bind fun e => (Di e.2 ([1, 1, 10] : Li)).bind fun f => (Da f.2 3).bind fun d => (Cp a.2.2.1 ([(⟨wr (a.2.2.2 + b.1), wr (e.1 * f.1), wr (h.1 - (wr (d.1 * 1000)))⟩ : Point)] : List Point)).bind fun i => some (.inl (d.2.L_, d.2.At, i, wr (a.2.2.2 + b.1))) else some ((.inr ((c.1, c.2.1, a.2.2.1))))
def Oa.B3 (c : Int × KS) (d : Int × KS) (a : Li × Int × (List Point) × Int) : Option ((Li × Int × (List Point) × Int) ⊕ ((Li × Int × (List Point)))) := if decide ((a.2.2.1.length : Int) < 7) = true then (Da (⟨a.1, a.2.1⟩ : KS) 3).bind fun b => Oa.J4 c d a (b.2.L_, b.2.At, decide (b.1 > 0)) else Oa.J4 c d a (a.1, a.2.1, false)
def Oa.J1 (g : Int) (b : Li × Int × Int × Int) : Option (Segment × KS) := (G3 (⟨#[103]⟩ : ByteArray) g).bind fun h => (Di (⟨b.1, b.2.1⟩ : KS) ([1, 2, 7, 20, 60, 200, 1000] : Li)).bind fun c => (Di c.2 ([0, 1, 5, 1000] : Li)).bind fun e => (Di e.2 ([0, 50, 1000, 100000] : Li)).bind fun f => (Di f.2 ([1000000, 6000000, 100000000] : Li)).bind fun a => (H4 a.2 (-5) 30).bind fun d => (Cp [] ([(⟨0, d.1, a.1⟩ : Point)] : List Point)).bind fun i => (Bx (Oa.B3 c a) C0 (d.2.L_, d.2.At, i, 0)).bind fun j => Oa.J2 b h c e f a j
def Oa (e : KS) (b : Int) (c : Int) (d : Int) : Option (Segment × KS) := (Da e 4).bind fun a => if (a.1 == 0) = true then Oa.J1 b (a.2.L_, a.2.At, d, c) else Oa.J1 b (a.2.L_, a.2.At, c, d)
def Xo.J4 (b : Int × KS) (c : Int × KS) (d : Li × Int × (List ByteArray)) (e : Li × Int × (List Segment)) (a : Li × Int × (List Port) × (List Station)) : Option (Network × KS) := some ((⟨d.2.2, e.2.2, a.2.2.1, a.2.2.2, b.1, c.1⟩ : Network), (⟨a.1, a.2.1⟩ : KS))
def Xo.J6 (b : Li × Int × (List Port) × (List Station) × Int) (a : Li × Int × (List Port) × (List Station)) : Option ((Li × Int × (List Port) × (List Station) × Int) ⊕ ((Li × Int × (List Port) × (List Station)))) := some (.inl (a.1, a.2.1, a.2.2.1, a.2.2.2, wr (b.2.2.2.2 + 1)))
def Xo.J8 (a : Li × Int × (List Port) × (List Station) × Int) (d : Li × Int × (List Port)) (b : Li × Int × Bool) : Option ((Li × Int × (List Port) × (List Station) × Int) ⊕ ((Li × Int × (List Port) × (List Station)))) := if b.2.2 = true then (G3 (⟨#[115]⟩ : ByteArray) (a.2.2.2.1.length : Int)).bind fun g => (Di (⟨b.1, b.2.1⟩ : KS) ([500000, 2000000, 0] : Li)).bind fun e => (Di e.2 ([0, 200, 100000] : Li)).bind fun f => (Di f.2 ([0, 100000, 400000] : Li)).bind fun c => (Cp a.2.2.2.1 ([(⟨g, a.2.2.2.2, e.1, f.1, c.1⟩ : Station)] : List Station)).bind fun h => Xo.J6 a (c.2.L_, c.2.At, d.2.2, h) else Xo.J6 a (b.1, b.2.1, d.2.2, a.2.2.2.1)
def Xo.J7 (d : Li × Int × (List ByteArray)) (b : Li × Int × (List Port) × (List Station) × Int) (a : Li × Int × (List Port)) : Option ((Li × Int × (List Port) × (List Station) × Int) ⊕ ((Li × Int × (List Port) × (List Station)))) := if decide (b.2.2.2.2 < (wr ((d.2.2.length : Int) - 1))) = true then (Da (⟨a.1, a.2.1⟩ : KS) 3).bind fun c => Xo.J8 b a (c.2.L_, c.2.At, (c.1 == 0)) else Xo.J8 b a (a.1, a.2.1, false)
def Xo.J9 (d : Li × Int × (List ByteArray)) (a : Li × Int × (List Port) × (List Station) × Int) (b : Li × Int × Bool) : Option ((Li × Int × (List Port) × (List Station) × Int) ⊕ ((Li × Int × (List Port) × (List Station)))) := if b.2.2 = true then (G3 (⟨#[113]⟩ : ByteArray) (a.2.2.1.length : Int)).bind fun e => (Di (⟨b.1, b.2.1⟩ : KS) ([300000, 1000000, 0, 5000000] : Li)).bind fun c => (Cp a.2.2.1 ([(⟨e, a.2.2.2.2, c.1⟩ : Port)] : List Port)).bind fun f => Xo.J7 d a (c.2.L_, c.2.At, f) else Xo.J7 d a (b.1, b.2.1, a.2.2.1)
def Xo.B5 (b : Li × Int × (List ByteArray)) (a : Li × Int × (List Port) × (List Station) × Int) : Option ((Li × Int × (List Port) × (List Station) × Int) ⊕ ((Li × Int × (List Port) × (List Station)))) := if decide (a.2.2.2.2 ≤ (wr ((b.2.2.length : Int) - 1))) = true then if (a.2.2.2.2 == 0) = true then Xo.J9 b a (a.1, a.2.1, true) else if (a.2.2.2.2 == (wr ((b.2.2.length : Int) - 1))) = true then Xo.J9 b a (a.1, a.2.1, true) else (Da (⟨a.1, a.2.1⟩ : KS) 2).bind fun c => Xo.J9 b a (c.2.L_, c.2.At, (c.1 == 0)) else some ((.inr ((a.1, a.2.1, a.2.2.1, a.2.2.2.1))))
def Xo.J3 (c : Int × KS) (d : Int × KS) (b : Li × Int × (List ByteArray)) (a : Li × Int × (List Segment)) : Option (Network × KS) := (Bx (Xo.B5 b) C0 (a.1, a.2.1, [], [], 0)).bind fun e => Xo.J4 c d b a e
def Xo.B10 (d : Li × Int × (List ByteArray)) (a : Li × Int × (List Segment) × Int) : Option ((Li × Int × (List Segment) × Int) ⊕ ((Li × Int × (List Segment)))) := if decide (a.2.2.2 > 0) = true then (Da (⟨a.1, a.2.1⟩ : KS) (wr ((d.2.2.length : Int) - 1))).bind fun b => (H4 b.2 (wr (b.1 + 1)) (wr ((d.2.2.length : Int) - 1))).bind fun e => (Oa e.2 (a.2.2.1.length : Int) b.1 e.1).bind fun c => (Cp a.2.2.1 ([c.1] : List Segment)).bind fun f => some (.inl (c.2.L_, c.2.At, f, wr (a.2.2.2 - 1))) else some ((.inr ((a.1, a.2.1, a.2.2.1))))
def Xo.J2 (d : Int × KS) (e : Int × KS) (c : Li × Int × (List ByteArray)) (a : Li × Int × (List Segment)) : Option (Network × KS) := (Da (⟨a.1, a.2.1⟩ : KS) 4).bind fun b => (Bx (Xo.B10 c) C0 (b.2.L_, b.2.At, a.2.2, b.1)).bind fun f => Xo.J3 d e c f
def Xo.B11 (c : Li × Int × (List ByteArray)) (a : Li × Int × (List Segment) × Int) : Option ((Li × Int × (List Segment) × Int) ⊕ ((Li × Int × (List Segment)))) := if decide (a.2.2.2 < (wr ((c.2.2.length : Int) - 1))) = true then (Oa (⟨a.1, a.2.1⟩ : KS) (a.2.2.1.length : Int) a.2.2.2 (wr (a.2.2.2 + 1))).bind fun b => (Cp a.2.2.1 ([b.1] : List Segment)).bind fun d => some (.inl (b.2.L_, b.2.At, d, wr (a.2.2.2 + 1))) else some ((.inr ((a.1, a.2.1, a.2.2.1))))
def Xo.J1 (b : Int × KS) (c : Int × KS) (a : Li × Int × (List ByteArray)) : Option (Network × KS) := (Bx (Xo.B11 a) C0 (a.1, a.2.1, [], 0)).bind fun d => Xo.J2 b c a d
def Xo.B12 (b : Int × KS) (a : (List ByteArray) × Int) : Option (((List ByteArray) × Int) ⊕ ((Li × Int × (List ByteArray)))) := if decide (a.2 > 0) = true then (G3 (⟨#[110]⟩ : ByteArray) (a.1.length : Int)).bind fun c => (Cp a.1 ([c] : List ByteArray)).bind fun d => some (.inl (d, wr (a.2 - 1))) else some ((.inr ((b.2.L_, b.2.At, a.1))))
def Xo (d : KS) : Option (Network × KS) := (Di d ([(-100000), 0, 50000] : Li)).bind fun a => (Di a.2 ([0, 1, 5, 100] : Li)).bind fun b => (H4 b.2 2 6).bind fun c => (Bx (Xo.B12 c) C0 ([], c.1)).bind fun e => Xo.J1 a b e
def Iv (a : Int) : Int := (max a (wr (0 - a)))
def Xi.J2 (a : List Bool) (b : Li) (c : Li) : Option Plan := some (⟨b, c, a⟩ : Plan)
def Xi.B3 (d : Nat) (a : Int) (b : Li) : Option Li := (Cp b ([wr (0 - a)] : Li)).bind fun c => some c
def Xi.J1 (a : Plan) (b : List Bool) (c : Li) : Option Plan := (forS Xi.B3 0 a.Ports []).bind fun d => Xi.J2 b c d
def Xi.B4 (d : Nat) (a : Int) (b : Li) : Option Li := (Cp b ([wr (0 - a)] : Li)).bind fun c => some c
def Xi (a : Plan) : Option Plan := (Cp ([] : List Bool) a.Pumps).bind fun b => (forS Xi.B4 0 a.Rates []).bind fun c => Xi.J1 a b c
def Oj.J3 (b : Li × Int × (List Bool)) (c : Int × KS) (a : Li × Int × Li × Li) : Option (Plan × KS) := if (c.1 == 0) = true then (Xi (⟨a.2.2.1, a.2.2.2, b.2.2⟩ : Plan)).bind fun d => some (d, (⟨a.1, a.2.1⟩ : KS)) else some ((⟨a.2.2.1, a.2.2.2, b.2.2⟩ : Plan), (⟨a.1, a.2.1⟩ : KS))
def Oj.J5 (b : Li × Int × Li × Li × Int) (a : Li × Int × Li × Li) : Option ((Li × Int × Li × Li × Int) ⊕ ((Li × Int × Li × Li))) := some (.inl (a.1, a.2.1, a.2.2.1, a.2.2.2, wr (b.2.2.2.2 - 1)))
def Oj.J10 (a : Li) : Option Li := some a
def Oj.B9 (g : Network) (c : Int × KS) (h : Li × Int × Li × Int) (i : Nat) (a : Li) : Option Li := (ix h.2.2.1 (i : Int)).bind fun b => (ix g.Segments b.2).bind fun d => if decide (d.2.From < d.2.To) = true then (ix a b.2).bind fun e => Oj.J10 (a.set e.1 (wr (e.2 + c.1))) else (ix a b.2).bind fun f => Oj.J10 (a.set f.1 (wr (f.2 - c.1)))
def Oj.J8 (c : Network) (b : Li × Int × Li × Li × Int) (d : Int × KS) (a : Li × Int × Li × Int) (e : Li) : Option ((Li × Int × Li × Li × Int) ⊕ ((Li × Int × Li × Li))) := (forJ (Oj.B9 c d a) 0 a.2.2.1.length b.2.2.1).bind fun f => Oj.J5 b (a.1, a.2.1, f, e)
def Oj.J7 (e : Network) (a : Li × Int × Li × Li × Int) (f : Int × KS) (c : Int × KS) (b : Li × Int × Li × Int) : Option ((Li × Int × Li × Li × Int) ⊕ ((Li × Int × Li × Li))) := if decide (b.2.2.2 < 0) = true then Oj.J5 a (b.1, b.2.1, a.2.2.1, a.2.2.2.1) else (ix a.2.2.2.1 f.1).bind fun d => (ix a.2.2.2.1 b.2.2.2).bind fun g => (ix (a.2.2.2.1.set d.1 (wr (d.2 + c.1))) b.2.2.2).bind fun h => Oj.J8 e a c b ((a.2.2.2.1.set d.1 (wr (d.2 + c.1))).set h.1 (wr (g.2 - c.1)))
def Oj.J13 (g : Network) (b : Li × Int × Int × Li × Int) (a : Li × Int × Int) (c : Li) : Option ((Li × Int × Int × Li × Int) ⊕ ((Li × Int × Li × Int))) := if ((c.length : Int) == 0) = true then some ((.inr ((a.1, a.2.1, b.2.2.2.1, a.2.2)))) else (Da (⟨a.1, a.2.1⟩ : KS) (c.length : Int)).bind fun d => (ix c d.1).bind fun e => (Cp b.2.2.2.1 ([e.2] : Li)).bind fun h => (ix g.Segments e.2).bind fun f => some (.inl (d.2.L_, d.2.At, wr ((wr (f.2.From + f.2.To)) - b.2.2.1), h, a.2.2))
def Oj.J15 (a : Li) : Option Li := some a
def Oj.J16 (b : Nat) (a : Li) (c : Bool) : Option Li := if c = true then (Cp a ([(b : Int)] : Li)).bind fun d => Oj.J15 d else Oj.J15 a
def Oj.B14 (e : Li × Int × Li × Li × Int) (f : Int × KS) (c : Li × Int × Int × Li × Int) (b : Nat) (a : Segment) (d : Li) : Option Li := if (a.From == c.2.2.1) = true then if decide ((wr ((wr (a.From + a.To)) - c.2.2.1)) > c.2.2.1) = true then (ix e.2.2.1 (b : Int)).bind fun g => Oj.J16 b d (decide ((wr ((Iv g.2) + f.1)) ≤ (min 1000 a.Capacity))) else Oj.J16 b d false else if (a.To == c.2.2.1) = true then if decide ((wr ((wr (a.From + a.To)) - c.2.2.1)) > c.2.2.1) = true then (ix e.2.2.1 (b : Int)).bind fun h => Oj.J16 b d (decide ((wr ((Iv h.2) + f.1)) ≤ (min 1000 a.Capacity))) else Oj.J16 b d false else Oj.J16 b d false
def Oj.J12 (c : Network) (d : Li × Int × Li × Li × Int) (e : Int × KS) (b : Li × Int × Int × Li × Int) (a : Li × Int × Int) : Option ((Li × Int × Int × Li × Int) ⊕ ((Li × Int × Li × Int))) := if decide (a.2.2 ≥ 0) = true then some ((.inr ((a.1, a.2.1, b.2.2.2.1, a.2.2)))) else (forS (Oj.B14 d e b) 0 c.Segments []).bind fun f => Oj.J13 c b a f
def Oj.J18 (a : Li × Int × Int) : Option (Li × Int × Int) := some (a.1, a.2.1, a.2.2)
def Oj.J19 (b : Nat) (c : Li × Int × Int) (a : Li × Int × Bool) : Option (Li × Int × Int) := if a.2.2 = true then Oj.J18 (a.1, a.2.1, (b : Int)) else Oj.J18 (a.1, a.2.1, c.2.2)
def Oj.B17 (f : Li × Int × Li × Li × Int) (g : Int × KS) (h : Int × KS) (d : Li × Int × Int × Li × Int) (b : Nat) (i : Port) (a : Li × Int × Int) : Option (Li × Int × Int) := if (i.Node == d.2.2.1) = true then if ((b : Int) != g.1) = true then (ix f.2.2.2.1 (b : Int)).bind fun e => if decide (e.2 ≤ 0) = true then if decide ((wr (e.2 - h.1)) ≥ (-1000)) = true then if decide ((d.2.2.2.1.length : Int) > 0) = true then (Da (⟨a.1, a.2.1⟩ : KS) 2).bind fun c => Oj.J19 b a (c.2.L_, c.2.At, (c.1 == 0)) else Oj.J19 b a (a.1, a.2.1, false) else Oj.J19 b a (a.1, a.2.1, false) else Oj.J19 b a (a.1, a.2.1, false) else Oj.J19 b a (a.1, a.2.1, false) else Oj.J19 b a (a.1, a.2.1, false)
def Oj.B11 (c : Network) (d : Li × Int × Li × Li × Int) (f : Int × KS) (e : Int × KS) (a : Li × Int × Int × Li × Int) : Option ((Li × Int × Int × Li × Int) ⊕ ((Li × Int × Li × Int))) := if decide (a.2.2.2.2 < 0) = true then (forS (Oj.B17 d f e a) 0 c.Ports (a.1, a.2.1, a.2.2.2.2)).bind fun b => Oj.J12 c d e a (b.1, b.2.1, b.2.2) else some ((.inr ((a.1, a.2.1, a.2.2.2.1, a.2.2.2.2))))
def Oj.J6 (c : Network) (b : Li × Int × Li × Li × Int) (d : Int × KS) (e : Nat × Port) (a : Int × KS) (f : Bool) : Option ((Li × Int × Li × Li × Int) ⊕ ((Li × Int × Li × Li))) := if f = true then Oj.J5 b (a.2.L_, a.2.At, b.2.2.1, b.2.2.2.1) else (Bx (Oj.B11 c b d a) C0 (a.2.L_, a.2.At, e.2.Node, [], (-1))).bind fun g => Oj.J7 c b d a g
def Oj.B4 (c : Network) (a : Li × Int × Li × Li × Int) : Option ((Li × Int × Li × Li × Int) ⊕ ((Li × Int × Li × Li))) := if decide (a.2.2.2.2 > 0) = true then (Da (⟨a.1, a.2.1⟩ : KS) (c.Ports.length : Int)).bind fun b => (ix c.Ports b.1).bind fun e => (Di b.2 ([1, 5, 30, 300] : Li)).bind fun f => (H4 f.2 1 f.1).bind fun d => (ix a.2.2.2.1 b.1).bind fun g => if decide (g.2 < 0) = true then Oj.J6 c a b e d true else Oj.J6 c a b e d (decide ((wr (g.2 + d.1)) > 1000)) else some ((.inr ((a.1, a.2.1, a.2.2.1, a.2.2.2.1))))
def Oj.J2 (e : Network) (c : Li × Li) (a : Li × Int × (List Bool)) : Option (Plan × KS) := (Da (⟨a.1, a.2.1⟩ : KS) 3).bind fun d => (Da d.2 5).bind fun b => (Bx (Oj.B4 e) C0 (b.2.L_, b.2.At, c.1, c.2, b.1)).bind fun f => Oj.J3 a d f
def Oj.B20 (c : Network) (a : Li × Int × (List Bool) × Int) : Option ((Li × Int × (List Bool) × Int) ⊕ ((Li × Int × (List Bool)))) := if decide (a.2.2.2 < (c.Stations.length : Int)) = true then (Da (⟨a.1, a.2.1⟩ : KS) 2).bind fun b => (Cp a.2.2.1 ([(b.1 == 0)] : List Bool)).bind fun d => some (.inl (b.2.L_, b.2.At, d, wr (a.2.2.2 + 1))) else some ((.inr ((a.1, a.2.1, a.2.2.1))))
def Oj.J1 (a : KS) (b : Network) (c : Li × Li) : Option (Plan × KS) := (Bx (Oj.B20 b) C0 (a.L_, a.At, [], 0)).bind fun d => Oj.J2 b c d
def Oj (b : KS) (a : Network) : Option (Plan × KS) := (Qb (a.Segments.length : Int) (0 : Int)).bind fun c => (Qb (a.Ports.length : Int) (0 : Int)).bind fun d => Oj.J1 b a (c, d)
structure paths_divider where
 n_ : Network
 rates : Li
 ports : Li
 deriving DecidableEq
structure Hop where
 Segment : Int
 Back : Bool
 deriving DecidableEq
def Cb (x : Hop) : List T := [.V x.Segment, .v (.bool x.Back)]
structure Path where
 In : Int
 Out : Int
 Hops : List Hop
 Rate : Int
 deriving DecidableEq
def Az (x : Path) : List T := [.V x.In, .V x.Out, .list 2 (x.Hops.map Cb), .V x.Rate]
def Ny (a : Li) : Option Li := Cp [] a
def Lp (b : Hop) (a : Int) : Int := if b.Back = true then (wr (0 - a)) else a
def L1.J2 (b : paths_divider) (e : Int) (c : Nat × Int) (a : Int × (List Hop) × Int) (d : Nat × Int) (f : Li) : Option (Path × paths_divider) := some ((⟨e, a.1, a.2.1, a.2.2⟩ : Path), (⟨b.n_, f, ((b.ports.set c.1 (wr (c.2 - a.2.2))).set d.1 (wr (d.2 + a.2.2)))⟩ : paths_divider))
def L1.B3 (a : Int × (List Hop) × Int) (e : Nat) (b : Li) : Option Li := (ix a.2.1 (e : Int)).bind fun c => (ix b c.2.Segment).bind fun d => some (b.set d.1 (wr (d.2 - (Lp c.2 a.2.2))))
def L1.J1 (b : paths_divider) (d : Int) (c : Nat × Int) (a : Int × (List Hop) × Int) : Option (Path × paths_divider) := (ix (b.ports.set c.1 (wr (c.2 - a.2.2))) a.1).bind fun e => (forJ (L1.B3 a) 0 a.2.1.length b.rates).bind fun f => L1.J2 b d c a e f
def L1.J6 (a : (List Hop) × Int × Int) (b : Unit) : Option (((List Hop) × Int × Int) ⊕ ((Int × (List Hop) × Int))) := some ((.inr ((0, a.1, a.2.1))))
def L1.J8 (a : (List Hop) × Int × Int) (b : Segment) (c : Nat × Int) (d : List Hop) : Option (Unit ⊕ (((List Hop) × Int × Int))) := some ((.inr ((d, (min a.2.1 c.2), b.To))))
def L1.J9 (a : (List Hop) × Int × Int) (b : Segment) (c : Nat × Int) (d : List Hop) : Option (Unit ⊕ (((List Hop) × Int × Int))) := some ((.inr ((d, (min a.2.1 (wr (0 - c.2))), b.From))))
def L1.B7 (e : paths_divider) (a : (List Hop) × Int × Int) (d : Nat) (b : Segment) (h : Unit) : Option (Unit ⊕ (((List Hop) × Int × Int))) := (ix e.rates (d : Int)).bind fun c => if (decide (c.2 > 0) && (b.From == a.2.2)) = true then (Cp a.1 ([(⟨(d : Int), false⟩ : Hop)] : List Hop)).bind fun f => L1.J8 a b c f else if (decide (c.2 < 0) && (b.To == a.2.2)) = true then (Cp a.1 ([(⟨(d : Int), true⟩ : Hop)] : List Hop)).bind fun g => L1.J9 a b c g else some (.inl ())
def L1.J5 (a : paths_divider) (b : (List Hop) × Int × Int) (e : Unit) : Option (((List Hop) × Int × Int) ⊕ ((Int × (List Hop) × Int))) := (forL (L1.B7 a b) 0 a.n_.Segments ()).bind fun c => Sum.elim (fun f => L1.J6 b ()) (fun d => some (.inl d)) c
def L1.J11 (c : paths_divider) (a : (List Hop) × Int × Int) (b : Nat) (d : Bool) : Option (Unit ⊕ ((Int × (List Hop) × Int))) := if d = true then (ix c.ports (b : Int)).bind fun e => some ((.inr (((b : Int), a.1, (min a.2.1 (wr (0 - e.2))))))) else some (.inl ())
def L1.B10 (a : paths_divider) (b : (List Hop) × Int × Int) (c : Nat) (d : Port) (f : Unit) : Option (Unit ⊕ ((Int × (List Hop) × Int))) := if (d.Node == b.2.2) = true then (ix a.ports (c : Int)).bind fun e => L1.J11 a b c (decide (e.2 < 0)) else L1.J11 a b c false
def L1.B4 (a : paths_divider) (b : (List Hop) × Int × Int) : Option (((List Hop) × Int × Int) ⊕ ((Int × (List Hop) × Int))) := (forL (L1.B10 a b) 0 a.n_.Ports ()).bind fun c => Sum.elim (fun e => L1.J5 a b ()) (fun d => some ((.inr (d)))) c
def L1 (a : paths_divider) (b : Int) : Option (Path × paths_divider) := (ix a.ports b).bind fun c => (ix a.n_.Ports b).bind fun d => (Bx (L1.B4 a) C0 ([], c.2, d.2.Node)).bind fun e => L1.J1 a b c e
def Jj.J1 (a : List Path) : Option ((List Path) × Int) := some (a, 0)
def Jj.J3 (a : (List ByteArray) × (List Segment) × (List Port) × (List Station) × Int × Int × Li × Li × (List Path)) : Option (((List ByteArray) × (List Segment) × (List Port) × (List Station) × Int × Int × Li × Li × (List Path)) ⊕ (((List Path) × Int))) := some (.inl (a.1, a.2.1, a.2.2.1, a.2.2.2.1, a.2.2.2.2.1, a.2.2.2.2.2.1, a.2.2.2.2.2.2.1, a.2.2.2.2.2.2.2.1, a.2.2.2.2.2.2.2.2))
def Jj.B4 (c : Nat) (a : (List ByteArray) × (List Segment) × (List Port) × (List Station) × Int × Int × Li × Li × (List Path)) : Option (((List ByteArray) × (List Segment) × (List Port) × (List Station) × Int × Int × Li × Li × (List Path)) ⊕ (((List Path) × Int) ⊕ ((List ByteArray) × (List Segment) × (List Port) × (List Station) × Int × Int × Li × Li × (List Path)))) := (ix a.2.2.2.2.2.2.2.1 (c : Int)).bind fun d => if decide (d.2 > 0) = true then (L1 (⟨(⟨a.1, a.2.1, a.2.2.1, a.2.2.2.1, a.2.2.2.2.1, a.2.2.2.2.2.1⟩ : Network), a.2.2.2.2.2.2.1, a.2.2.2.2.2.2.2.1⟩ : paths_divider) (c : Int)).bind fun b => if (((a.2.2.2.2.2.2.2.2.length : Int) == 64) || decide ((b.1.Hops.length : Int) > 32)) = true then some ((.inr (.inl (([], 23))))) else (Cp a.2.2.2.2.2.2.2.2 ([b.1] : List Path)).bind fun e => some (.inl (b.2.n_.Nodes, b.2.n_.Segments, b.2.n_.Ports, b.2.n_.Stations, b.2.n_.Vapour, b.2.n_.Settle, b.2.rates, b.2.ports, e)) else some ((.inr (.inr ((a.1, a.2.1, a.2.2.1, a.2.2.2.1, a.2.2.2.2.1, a.2.2.2.2.2.1, a.2.2.2.2.2.2.1, a.2.2.2.2.2.2.2.1, a.2.2.2.2.2.2.2.2)))))
def Jj.B2 (b : Nat) (a : (List ByteArray) × (List Segment) × (List Port) × (List Station) × Int × Int × Li × Li × (List Path)) : Option (((List ByteArray) × (List Segment) × (List Port) × (List Station) × Int × Int × Li × Li × (List Path)) ⊕ (((List Path) × Int))) := (Bx (Jj.B4 b) C0 (a.1, a.2.1, a.2.2.1, a.2.2.2.1, a.2.2.2.2.1, a.2.2.2.2.2.1, a.2.2.2.2.2.2.1, a.2.2.2.2.2.2.2.1, a.2.2.2.2.2.2.2.2)).bind fun c => Sum.elim (fun d => some ((.inr (d)))) (fun e => Jj.J3 e) c
def Jj (a : Network) (b : Plan) : Option ((List Path) × Int) := (En a).bind fun c => if (c != 0) = true then some ([], c) else (Gp a b).bind fun d => if (d != 0) = true then some ([], d) else (Ny b.Rates).bind fun f => (Ny b.Ports).bind fun e => (forI Jj.B2 0 e.length (a.Nodes, a.Segments, a.Ports, a.Stations, a.Vapour, a.Settle, f, e, [])).bind fun g => Sum.elim (fun h => Jj.J1 h.2.2.2.2.2.2.2.2) (fun i => some i) g
def Lw (a : List Hop) : Option (List Hop) := Cp [] a
def Xh (a : Path) (b : Int) : Option Path := (Lw a.Hops).bind fun c => some (⟨a.In, a.Out, c, b⟩ : Path)
def Rz (a : List Bool) : Option (List Bool) := Cp [] a
def Wz.B1 (d : Int) (e : Nat) (a : Hop) (b : Li) : Option Li := (ix b a.Segment).bind fun c => some (b.set c.1 (wr (c.2 + (Lp a d))))
def Wz (a : Plan) (d : Path) (b : Int) : Option Plan := (ix a.Ports d.In).bind fun c => (ix (a.Ports.set c.1 (wr (c.2 + b))) d.Out).bind fun e => (forS (Wz.B1 b) 0 d.Hops a.Rates).bind fun f => some (⟨f, ((a.Ports.set c.1 (wr (c.2 + b))).set e.1 (wr (e.2 - b))), a.Pumps⟩ : Plan)
def Xd.J1 (a : Unit) : Option Bool := some true
def Xd.B2 (s2_1 : List Hop) (c : Nat) (a : Hop) (d : Unit) : Option (Unit ⊕ (Bool)) := (ix s2_1 (c : Int)).bind fun b => if (!((a.Segment == b.2.Segment) && ((a.Back == b.2.Back) && true))) = true then some ((.inr (false))) else some (.inl ())
def Xd (s1_0 : List Hop) (s2_1 : List Hop) : Option Bool := if ((s1_0.length : Int) != (s2_1.length : Int)) = true then some false else (forL (Xd.B2 s2_1) 0 s1_0 ()).bind fun a => Sum.elim (fun c => Xd.J1 ()) (fun b => some b) a
def Rj.J1 (a : Bool) : Option Bool := some a
def Rj (a : Path) (b : Path) : Option Bool := if (a.In == b.In) = true then if (a.Out == b.Out) = true then (Xd a.Hops b.Hops).bind fun c => Rj.J1 c else Rj.J1 false else Rj.J1 false
def Xk.J1 (a : Unit) : Option Int := some (-1)
def Xk.B2 (a : Path → Option Bool) (b : Nat) (c : Path) (e : Unit) : Option (Unit ⊕ (Int)) := (a c).bind fun d => if d = true then some ((.inr ((b : Int)))) else some (.inl ())
def Xk (a : List Path) (b : Path → Option Bool) : Option Int := (forL (Xk.B2 b) 0 a ()).bind fun c => Sum.elim (fun e => Xk.J1 ()) (fun d => some d) c
def Xn (a : Path) (b : Path) : Option Bool := (Rj a b).bind fun c => some c
def Sa (a : List Path) (b : Path) : Option Int := (Xk a (fun x => Xn x b)).bind fun c => some c
def Rq.J1 (a : List Path) : Option (List Path) := some a
def Rq.J3 (a : List Path) : Option (List Path) := some a
def Rq.B2 (b : List Path) (h : Nat) (a : Path) (c : List Path) : Option (List Path) := (Sa b a).bind fun d => if decide (d ≥ 0) = true then (ix b d).bind fun e => (Xh a (min a.Rate e.2.Rate)).bind fun f => (Cp c ([f] : List Path)).bind fun g => Rq.J3 g else Rq.J3 c
def Rq (a : List Path) (b : List Path) : Option (List Path) := (forS (Rq.B2 b) 0 a []).bind fun c => Rq.J1 c
structure Valve where
 Travel : Int
 Open : Int
 Want : Bool
 Stuck : Bool
 deriving DecidableEq
def A5 (x : Valve) : List T := [.V x.Travel, .V x.Open, .v (.bool x.Want), .v (.bool x.Stuck)]
structure Step where
 Kind : Int
 Index : Int
 Value : Int
 Path : Path
 deriving DecidableEq
def Cg (x : Step) : List T := [.V x.Kind, .V x.Index, .V x.Value, .V x.Path.In, .V x.Path.Out, .list 2 (x.Path.Hops.map Cb), .V x.Path.Rate]
structure Lineup where
 Segments : List Bool
 Ports : List Bool
 deriving DecidableEq
def C7 (x : Lineup) : List T := [.list 1 (x.Segments.map rB), .list 1 (x.Ports.map rB)]
structure Desk where
 Valves : List Valve
 Plan : Plan
 deriving DecidableEq
def Bs (x : Desk) : List T := [.list 4 (x.Valves.map A5), .list 1 (x.Plan.Rates.map rI), .list 1 (x.Plan.Ports.map rI), .list 1 (x.Plan.Pumps.map rB)]
def Fq (a : Valve) : Bool := (decide (a.Travel ≥ 1) && (decide (a.Travel ≤ 60) && (decide (a.Open ≥ 0) && decide (a.Open ≤ a.Travel))))
def Ez (a : Valve) : Int := if a.Want = true then a.Travel else 0
def Oq.J1 (a : Valve) (b : Int) : Valve := if ((a.Travel == a.Travel) && ((b == a.Open) && ((a.Want == a.Want) && ((a.Stuck == a.Stuck) && true)))) = true then a else (⟨a.Travel, b, a.Want, a.Stuck⟩ : Valve)
def Oq (a : Valve) (b : Int) : Valve := if a.Stuck = true then Oq.J1 a a.Open else if decide (a.Open < (Ez a)) = true then Oq.J1 a (min (Ez a) (wr (a.Open + b))) else Oq.J1 a (max (Ez a) (wr (a.Open - b)))
def Cs (a : Valve) (b : Int) : (Valve × Int) := if (!(Fq a)) = true then (a, 20) else if (decide (b < 0) || decide (b > 400)) = true then (a, 1) else ((Oq a b), 0)
def Oy (a : Valve) : Bool := ((Fq a) && (a.Open == 0))
def Iw (a : Valve) : Bool := ((Fq a) && (a.Open == a.Travel))
def Ir (a : Valve) : Int := if (!(Fq a)) = true then (-1) else if (a.Stuck && decide ((max (wr ((Ez a) - a.Open)) (wr (a.Open - (Ez a)))) > 0)) = true then (-1) else (max (wr ((Ez a) - a.Open)) (wr (a.Open - (Ez a))))
def Xj (a : Network) (c : Plan) (b : Int) : Option (Int × Int) := (Gp a c).bind fun d => if (d != 0) = true then some (0, d) else if (decide (b < 0) || decide (b ≥ (a.Nodes.length : Int))) = true then some (0, 8) else (Jh a c).bind fun e => (ix e.come.l b).bind fun f => some (f.2, 0)
def Sj (a : Valve) : Bool := ((Iw a) && a.Want)
def R9 (a : Network) (c : Plan) (d : Int) : Option Bool := (ix a.Stations d).bind fun e => (Xj a c e.2.Node).bind fun b => some ((b.2 == 0) && (b.1 != 0))
def N0 (a : Network) (b : Plan) (c : Int) : Option Bool := (R9 a b c).bind fun d => some d
def R1.J1 (a : Int) : Option Int := some a
def R1.J3 (a : Int) : Option Int := some a
def R1.B2 (c : Nat) (a : Step) (b : Int) : Option Int := if ((a.Kind == 6) && (decide (a.Value ≥ 1) && decide (a.Value ≤ 100))) = true then R1.J3 (wr (b + a.Value)) else R1.J3 b
def R1 (a : List Step) : Option Int := (forS R1.B2 0 a 0).bind fun b => R1.J1 b
def Nx (a : Network) : Int := (wr ((a.Segments.length : Int) + (a.Ports.length : Int)))
def W9 (a : Lineup) : Option (List Bool) := (Cp [] a.Segments).bind fun b => (Cp b a.Ports).bind fun c => some c
def Nu.J1 (a : List Bool) : Option (List Bool) := some a
def Nu.B2 (d : Nat) (a : Int) (b : List Bool) : Option (List Bool) := (Cp b ([(a != 0)] : List Bool)).bind fun c => some c
def Nu (a : Li) : Option (List Bool) := (forS Nu.B2 0 a []).bind fun b => Nu.J1 b
def Rt (b : Network) (a : Plan) : Option (Lineup × Int) := (En b).bind fun c => if (c != 0) = true then some ((⟨[], []⟩ : Lineup), c) else (Gp b a).bind fun d => if (d != 0) = true then some ((⟨[], []⟩ : Lineup), d) else (Nu a.Rates).bind fun e => (Nu a.Ports).bind fun f => some ((⟨e, f⟩ : Lineup), 0)
def Xg.J1 (a : Unit) : Option Int := some (-1)
def Xg.B2 (a : Valve → Option Bool) (b : Nat) (c : Valve) (e : Unit) : Option (Unit ⊕ (Int)) := (a c).bind fun d => if d = true then some ((.inr ((b : Int)))) else some (.inl ())
def Xg (a : List Valve) (b : Valve → Option Bool) : Option Int := (forL (Xg.B2 b) 0 a ()).bind fun c => Sum.elim (fun e => Xg.J1 ()) (fun d => some d) c
def Xm (a : List Valve) (b : Valve → Option Bool) : Option Bool := (Xg a b).bind fun c => some (decide (c ≥ 0))
def Ly (a : Valve) : Bool := (!(Fq a))
def Rs.J1 (a : Unit) : Option Bool := some false
def Rs.J3 (a : Bool) : Option (Unit ⊕ (Bool)) := if a = true then some ((.inr (true))) else some (.inl ())
def Rs.B2 (a : Network) (c : Plan) (b : Nat) (d : Bool) (f : Unit) : Option (Unit ⊕ (Bool)) := if d = true then if decide ((b : Int) < (a.Stations.length : Int)) = true then (R9 a c (b : Int)).bind fun e => Rs.J3 (!e) else Rs.J3 false else Rs.J3 false
def Rs (b : Network) (a : Plan) : Option Bool := (forL (Rs.B2 b a) 0 a.Pumps ()).bind fun c => Sum.elim (fun e => Rs.J1 ()) (fun d => some d) c
def It.J2 (a : Network) (b : Desk) (d : Unit) : Option Int := (Rs a b.Plan).bind fun c => if c = true then some 21 else some 0
def It.J4 (a : Bool) : Option (Unit ⊕ (Int)) := if a = true then some ((.inr (21))) else some (.inl ())
def It.B3 (b : Desk) (c : List Bool) (a : Nat) (f : Unit) : Option (Unit ⊕ (Int)) := (ix c (a : Int)).bind fun d => if d.2 = true then (ix b.Valves (a : Int)).bind fun e => It.J4 (!(Sj e.2)) else It.J4 false
def It.J1 (b : Network) (a : Desk) (f : Bool) : Option Int := if f = true then some 20 else (Gp b a.Plan).bind fun d => if (d != 0) = true then some d else (Rt b a.Plan).bind fun c => if (c.2 != 0) = true then some c.2 else (W9 c.1).bind fun e => (forI (It.B3 a e) 0 e.length ()).bind fun g => Sum.elim (fun i => It.J2 b a ()) (fun h => some h) g
def It (a : Network) (b : Desk) : Option Int := (En a).bind fun c => if (c != 0) = true then some c else if ((b.Valves.length : Int) != (Nx a)) = true then It.J1 a b true else (Xm b.Valves (fun x => some (Ly x))).bind fun d => It.J1 a b d
def Ot.J1 (a : Li) : Option Li := some a
def Ot.J3 (a : Li) (b : Int) : Option Li := (Cp a ([b] : Li)).bind fun c => some c
def Ot.B2 (a : List Path) (f : Nat) (b : Path) (c : Li) : Option Li := (Sa a b).bind fun d => if decide (d ≥ 0) = true then (ix a d).bind fun e => Ot.J3 c (min b.Rate e.2.Rate) else Ot.J3 c 0
def Ot (a : List Path) (b : List Path) : Option Li := (forS (Ot.B2 b) 0 a []).bind fun c => Ot.J1 c
def Rf.J2 (a : Li × Li × (List Bool)) : Option Plan := some (⟨a.1, a.2.1, a.2.2⟩ : Plan)
def Rf.B3 (d : List Path) (e : Nat) (a : Li × Li × (List Bool)) : Option (Li × Li × (List Bool)) := (ix d (e : Int)).bind fun c => (Wz (⟨a.1, a.2.1, a.2.2⟩ : Plan) c.2 c.2.Rate).bind fun b => some (b.Rates, b.Ports, b.Pumps)
def Rf.J1 (d : List Path) (e : List Path) (a : Li × Li × (List Bool)) : Option Plan := (Rq d e).bind fun c => (forJ (Rf.B3 c) 0 c.length (a.1, a.2.1, a.2.2)).bind fun b => Rf.J2 (b.1, b.2.1, b.2.2)
def Rf (a : Network) (b : List Path) (c : List Path) : Option Plan := (Qb (a.Segments.length : Int) (0 : Int)).bind fun d => (Qb (a.Ports.length : Int) (0 : Int)).bind fun e => (Qb (a.Stations.length : Int) false).bind fun f => Rf.J1 b c (d, e, f)
def Rr.J1 (a : (List Step) × (List Step) × Int) : Option ((List Step) × Int × Bool) := (Cp a.1 a.2.1).bind fun b => some (b, a.2.2, true)
def Rr.J3 (a : (List Step) × (List Step) × Int) : Option (((List Step) × (List Step) × Int) ⊕ (((List Step) × Int × Bool))) := some (.inl (a.1, a.2.1, a.2.2))
def Rr.J5 (a : Int) (g : List Bool) (e : Nat) (b : Valve) (c : (List Step) × (List Step) × Int) (f : Int × Bool) (h : Bool) : Option (((List Step) × (List Step) × Int) ⊕ (((List Step) × Int × Bool))) := if h = true then Rr.J3 (c.1, c.2.1, c.2.2) else (ix g (e : Int)).bind fun d => if decide ((Ir (⟨((Cs b (min a 60)).1).Travel, ((Cs b (min a 60)).1).Open, d.2, ((Cs b (min a 60)).1).Stuck⟩ : Valve)) < 0) = true then some ((.inr (([], 0, false)))) else if d.2 = true then (Cp c.2.1 ([(⟨f.1, (e : Int), 0, (⟨0, 0, [], 0⟩ : Path)⟩ : Step)] : List Step)).bind fun i => Rr.J3 (c.1, i, (max c.2.2 (Ir (⟨((Cs b (min a 60)).1).Travel, ((Cs b (min a 60)).1).Open, d.2, ((Cs b (min a 60)).1).Stuck⟩ : Valve)))) else (Cp c.1 ([(⟨f.1, (e : Int), 0, (⟨0, 0, [], 0⟩ : Path)⟩ : Step)] : List Step)).bind fun j => Rr.J3 (j, c.2.1, (max c.2.2 (Ir (⟨((Cs b (min a 60)).1).Travel, ((Cs b (min a 60)).1).Open, d.2, ((Cs b (min a 60)).1).Stuck⟩ : Valve))))
def Rr.J4 (a : Int) (b : List Bool) (c : Nat) (d : Valve) (f : (List Step) × (List Step) × Int) (e : Int × Bool) : Option (((List Step) × (List Step) × Int) ⊕ (((List Step) × Int × Bool))) := if e.2 = true then (ix b (c : Int)).bind fun g => Rr.J5 a b c d f e (((Cs d (min a 60)).1).Want == g.2) else Rr.J5 a b c d f e false
def Rr.B2 (a : Int) (c : List Bool) (d : Nat) (b : Valve) (e : (List Step) × (List Step) × Int) : Option (((List Step) × (List Step) × Int) ⊕ (((List Step) × Int × Bool))) := if (((Cs b (min a 60)).2) != 0) = true then some ((.inr (([], 0, false)))) else (ix c (d : Int)).bind fun f => if f.2 = true then Rr.J4 a c d b e (1, (Iw ((Cs b (min a 60)).1))) else Rr.J4 a c d b e (2, (Oy ((Cs b (min a 60)).1)))
def Rr (b : Desk) (c : Int) (d : List Bool) : Option ((List Step) × Int × Bool) := (forL (Rr.B2 c d) 0 b.Valves ([], [], 0)).bind fun e => Sum.elim (fun a => Rr.J1 (a.1, a.2.1, a.2.2)) (fun f => some f) e
def Oi (a : Network) (f : Desk) (g : Plan) (b : Int) (c : Int) : Option Int := (It a f).bind fun d => if (d != 0) = true then some d else (Gp a g).bind fun e => if (e != 0) = true then some e else if (decide (b < 1) || (decide (b > 1000) || (decide (c < 0) || decide (c > 100)))) = true then some 1 else some 0
def Ry.B1 (a : (List Step) × Int) : Option (((List Step) × Int) ⊕ ((List Step))) := if decide (a.2 > 0) = true then (Cp a.1 ([(⟨6, 0, (min a.2 100), (⟨0, 0, [], 0⟩ : Path)⟩ : Step)] : List Step)).bind fun b => some (.inl (b, wr (a.2 - 100))) else some ((.inr (a.1)))
def Ry (a : Int) (b : List Step) : Option (List Step) := (Bx Ry.B1 C0 (b, a)).bind fun c => some c
def Om.B1 (b : Path) (d : Int) (c : Int) (e : Int) (f : List Hop) (a : (List Step) × Int) : Option (((List Step) × Int) ⊕ ((List Step))) := if decide (a.2 > 0) = true then (Cp a.1 ([(⟨5, 0, wr (d * (min a.2 c)), (⟨b.In, b.Out, f, 0⟩ : Path)⟩ : Step)] : List Step)).bind fun g => (Ry e g).bind fun h => some (.inl (h, wr (a.2 - c))) else some ((.inr (a.1)))
def Om (a : Path) (b : Int) (c : Int) (d : Int) (e : List Step) (f : Int) : Option (List Step) := (Lw a.Hops).bind fun g => (Bx (Om.B1 a c d f g) C0 (e, b)).bind fun h => some h
def G1.J5 (a : List Step) : Option ((List Step) × Int) := if decide ((a.length : Int) > 400) = true then some ([], 4) else some (a, 0)
def G1.J7 (a : List Step) : Option (List Step) := some a
def G1.J8 (b : Nat) (a : List Step) (c : Bool) : Option (List Step) := if c = true then (Cp a ([(⟨3, (b : Int), 0, (⟨0, 0, [], 0⟩ : Path)⟩ : Step)] : List Step)).bind fun d => G1.J7 d else G1.J7 a
def G1.B6 (c : (List Step) × (List Bool)) (a : Nat) (d : Bool) (b : List Step) : Option (List Step) := if d = true then (ix c.2 (a : Int)).bind fun e => G1.J8 a b (!e.2) else G1.J8 a b false
def G1.J4 (a : Plan) (b : (List Step) × (List Bool)) (c : List Step) : Option ((List Step) × Int) := (forS (G1.B6 b) 0 a.Pumps c).bind fun d => G1.J5 d
def G1.B9 (c : Int) (d : Int) (e : (List Path) × Int) (f : Li) (a : Nat) (g : List Step) : Option (List Step) := (ix f (a : Int)).bind fun h => (ix e.1 (a : Int)).bind fun b => (Om b.2 (wr (b.2.Rate - h.2)) 1 c g d).bind fun i => some i
def G1.J3 (e : Desk) (f : Plan) (g : Int) (h : Int) (i : (List Path) × Int) (b : (List Path) × Int) (j : Lineup × Int) (k : (List Step) × (List Bool)) (c : List Step) : Option ((List Step) × Int) := (R1 c).bind fun l => (W9 j.1).bind fun m => (Rr e l m).bind fun a => if (!a.2.2) = true then some ([], 20) else (Cp c a.1).bind fun n => (Ry a.2.1 n).bind fun o => (Ot b.1 i.1).bind fun d => (forJ (G1.B9 g h b d) 0 d.length o).bind fun p => G1.J4 f k p
def G1.B10 (c : Int) (d : Int) (e : (List Path) × Int) (f : Li) (a : Nat) (g : List Step) : Option (List Step) := (ix f (a : Int)).bind fun h => (ix e.1 (a : Int)).bind fun b => (Om b.2 (wr (b.2.Rate - h.2)) (-1) c g d).bind fun i => some i
def G1.J2 (g : Desk) (h : Plan) (b : Int) (c : Int) (a : (List Path) × Int) (d : (List Path) × Int) (i : Lineup × Int) (e : (List Step) × (List Bool)) : Option ((List Step) × Int) := (Ot a.1 d.1).bind fun f => (forJ (G1.B10 b c a f) 0 f.length e.1).bind fun j => G1.J3 g h b c a d i e j
def G1.J12 (a : (List Step) × (List Bool)) : Option ((List Step) × (List Bool)) := some (a.1, a.2)
def G1.J13 (b : Nat) (a : (List Step) × (List Bool)) (c : Nat × Bool) (d : Bool) : Option ((List Step) × (List Bool)) := if d = true then (Cp a.1 ([(⟨4, (b : Int), 0, (⟨0, 0, [], 0⟩ : Path)⟩ : Step)] : List Step)).bind fun e => G1.J12 (e, (a.2.set c.1 false)) else G1.J12 (a.1, a.2)
def G1.B11 (d : Network) (e : Plan) (f : Plan) (a : Nat) (b : (List Step) × (List Bool)) : Option ((List Step) × (List Bool)) := (ix b.2 (a : Int)).bind fun c => if c.2 = true then (ix e.Pumps (a : Int)).bind fun g => if (!g.2) = true then G1.J13 a b c true else (N0 d f (a : Int)).bind fun h => G1.J13 a b c (!h) else G1.J13 a b c false
def G1.J1 (a : Network) (d : Desk) (b : Plan) (i : Int) (j : Int) (e : (List Path) × Int) (f : (List Path) × Int) (l : Unit) : Option ((List Step) × Int) := (Rt a b).bind fun c => if (c.2 != 0) = true then some ([], c.2) else (Rf a e.1 f.1).bind fun k => (Rz d.Plan.Pumps).bind fun g => (forJ (G1.B11 a b k) 0 g.length ([], g)).bind fun h => G1.J2 d b i j e f c (h.1, h.2)
def G1.J15 (a : Bool) : Option (Unit ⊕ (((List Step) × Int))) := if a = true then some ((.inr (([], 22)))) else some (.inl ())
def G1.B14 (a : Network) (b : Plan) (c : Nat) (d : Bool) (f : Unit) : Option (Unit ⊕ (((List Step) × Int))) := if d = true then (N0 a b (c : Int)).bind fun e => G1.J15 (!e) else G1.J15 false
def G1 (a : Network) (c : Desk) (b : Plan) (f : Int) (g : Int) : Option ((List Step) × Int) := (Oi a c b f g).bind fun h => if (h != 0) = true then some ([], h) else (Jj a c.Plan).bind fun d => if (d.2 != 0) = true then some ([], d.2) else (Jj a b).bind fun e => if (e.2 != 0) = true then some ([], e.2) else (forL (G1.B14 a b) 0 b.Pumps ()).bind fun i => Sum.elim (fun k => G1.J1 a c b f g d e ()) (fun j => some j) i
def On.J1 (c : Network) (d : Desk) (e : Int) (f : Int) (a : Li × Li × (List Bool)) : Option ((List Step) × Int) := (G1 c d (⟨a.1, a.2.1, a.2.2⟩ : Plan) e f).bind fun b => some (b.1, b.2)
def On (a : Network) (b : Desk) (c : Int) (d : Int) : Option ((List Step) × Int) := (Qb (a.Segments.length : Int) (0 : Int)).bind fun e => (Qb (a.Ports.length : Int) (0 : Int)).bind fun f => (Qb (a.Stations.length : Int) false).bind fun g => On.J1 a b c d (e, f, g)
def Oe.J1 (a : Int) : Option Int := some a
def Oe.J3 (a : Int) : Option Int := some a
def Oe.B2 (c : Nat) (a : Step) (b : Int) : Option Int := if (a.Kind == 5) = true then Oe.J3 (max (max b a.Value) (wr (0 - a.Value))) else Oe.J3 b
def Oe (a : List Step) : Option Int := (forS Oe.B2 0 a 0).bind fun b => Oe.J1 b
def Ct (a : Int) (b : Int) (c : Int) : Bool := (decide (a ≥ b) && decide (a ≤ c))
def R6.J3 (a : Network) (b : List ByteArray) (c : List ByteArray) (d : List ByteArray) : Option (Arr (List ByteArray) 4) := some (⟨[a.Nodes, b, c, d], rfl⟩ : Arr (List ByteArray) 4)
def R6.B4 (d : Nat) (a : Station) (b : List ByteArray) : Option (List ByteArray) := (Cp b ([a.Name] : List ByteArray)).bind fun c => some c
def R6.J2 (a : Network) (b : List ByteArray) (c : List ByteArray) : Option (Arr (List ByteArray) 4) := (forS R6.B4 0 a.Stations []).bind fun d => R6.J3 a b c d
def R6.B5 (d : Nat) (a : Port) (b : List ByteArray) : Option (List ByteArray) := (Cp b ([a.Name] : List ByteArray)).bind fun c => some c
def R6.J1 (a : Network) (b : List ByteArray) : Option (Arr (List ByteArray) 4) := (forS R6.B5 0 a.Ports []).bind fun c => R6.J2 a b c
def R6.B6 (d : Nat) (a : Segment) (b : List ByteArray) : Option (List ByteArray) := (Cp b ([a.Name] : List ByteArray)).bind fun c => some c
def R6 (a : Network) : Option (Arr (List ByteArray) 4) := (forS R6.B6 0 a.Segments []).bind fun b => R6.J1 a b
def R5.J2 (a : Unit) : Option Bool := some true
def R5.J4 (a : Int) (b : Bool) : Option (Int ⊕ (Bool ⊕ Unit)) := if b = true then some ((.inr (.inl (false)))) else some (.inl (wr (a + 1)))
def R5.B3 (c : ByteArray) (b : Int) : Option (Int ⊕ (Bool ⊕ Unit)) := if decide (b < (c.size : Int)) = true then (qO c b).bind fun a => if decide (a.2 < 97) = true then if decide (a.2 < 48) = true then R5.J4 b (a.2 != 45) else if decide (a.2 > 57) = true then R5.J4 b (a.2 != 45) else R5.J4 b false else if decide (a.2 > 122) = true then if decide (a.2 < 48) = true then R5.J4 b (a.2 != 45) else if decide (a.2 > 57) = true then R5.J4 b (a.2 != 45) else R5.J4 b false else R5.J4 b false else some ((.inr (.inr (()))))
def R5.J1 (a : ByteArray) (b : Bool) : Option Bool := if b = true then some false else (Bx (R5.B3 a) C0 0).bind fun c => Sum.elim (fun d => some d) (fun e => R5.J2 e) c
def R5 (a : ByteArray) : Option Bool := if decide ((a.size : Int) < 1) = true then R5.J1 a true else if decide ((a.size : Int) > 12) = true then R5.J1 a true else (qO a 0).bind fun b => if decide (b.2 < 97) = true then R5.J1 a true else R5.J1 a (decide (b.2 > 122))
def Sl.J1 (a : Unit) : Option Bool := some false
def Sl.J3 (a : Unit) : Option (Unit ⊕ (Bool)) := some (.inl ())
def Sl.B4 (b : List ByteArray) (c : Nat) (d : ByteArray) (a : Int) : Option (Int ⊕ (Bool ⊕ Unit)) := if decide (a < (c : Int)) = true then (ix b a).bind fun e => if Yf d e.2 = true then some ((.inr (.inl (true)))) else some (.inl (wr (a + 1))) else some ((.inr (.inr (()))))
def Sl.B2 (a : List ByteArray) (b : Nat) (c : ByteArray) (g : Unit) : Option (Unit ⊕ (Bool)) := (Bx (Sl.B4 a b c) C0 0).bind fun d => Sum.elim (fun e => some ((.inr (e)))) (fun f => Sl.J3 f) d
def Sl (a : List ByteArray) : Option Bool := (forL (Sl.B2 a) 0 a ()).bind fun b => Sum.elim (fun d => Sl.J1 ()) (fun c => some c) b
def R2.J2 (a : Unit) : Option Bool := some true
def R2.J4 (a : Bool) : Option (Unit ⊕ (Bool)) := if a = true then some ((.inr (false))) else some (.inl ())
def R2.B3 (c : Segment) (b : Nat) (a : Point) (e : Unit) : Option (Unit ⊕ (Bool)) := if decide ((b : Int) > 0) = true then (ix c.Points (wr ((b : Int) - 1))).bind fun d => if decide (a.At ≤ d.2.At) = true then R2.J4 true else if (!(Ct a.Height (-500) 5000)) = true then R2.J4 true else R2.J4 (!(Ct a.Limit 0 100000000)) else if (!(Ct a.Height (-500) 5000)) = true then R2.J4 true else R2.J4 (!(Ct a.Limit 0 100000000))
def R2.J1 (a : Segment) (b : Bool) : Option Bool := if b = true then some false else (forL (R2.B3 a) 0 a.Points ()).bind fun c => Sum.elim (fun e => R2.J2 ()) (fun d => some d) c
def R2 (a : Segment) : Option Bool := if (a.From == a.To) = true then R2.J1 a true else if (!(Ct a.Capacity 1 1000000)) = true then R2.J1 a true else if (!(Ct a.Resist 0 1000)) = true then R2.J1 a true else if (!(Ct a.Wave 0 100000)) = true then R2.J1 a true else (ix a.Points 0).bind fun b => if (b.2.At != 0) = true then R2.J1 a true else (ix a.Points (wr ((a.Points.length : Int) - 1))).bind fun c => R2.J1 a (c.2.At != a.Capacity)
def Ff.J10 (a : Network) (b : Unit) : Option Int := if ((!(Ct a.Vapour (-100000) 100000000)) || (!(Ct a.Settle 0 100))) = true then some 9 else some 0
def Ff.B11 (b : Nat) (a : Station) (c : Unit) : Option (Unit ⊕ (Int)) := if ((!(Ct a.Head 0 100000000)) || ((!(Ct a.Fall 0 100000)) || (!(Ct a.Suction 0 100000000)))) = true then some ((.inr (9))) else some (.inl ())
def Ff.J9 (a : Network) (d : Unit) : Option Int := (forL Ff.B11 0 a.Stations ()).bind fun b => Sum.elim (fun e => Ff.J10 a ()) (fun c => some c) b
def Ff.B12 (b : Nat) (a : Port) (c : Unit) : Option (Unit ⊕ (Int)) := if (!(Ct a.Pressure 0 100000000)) = true then some ((.inr (9))) else some (.inl ())
def Ff.J8 (a : Network) (d : Unit) : Option Int := (forL Ff.B12 0 a.Ports ()).bind fun b => Sum.elim (fun e => Ff.J9 a ()) (fun c => some c) b
def Ff.B13 (c : Nat) (a : Segment) (d : Unit) : Option (Unit ⊕ (Int)) := (R2 a).bind fun b => if (!b) = true then some ((.inr (9))) else some (.inl ())
def Ff.J7 (a : Network) (d : Unit) : Option Int := (forL Ff.B13 0 a.Segments ()).bind fun b => Sum.elim (fun e => Ff.J8 a ()) (fun c => some c) b
def Ff.B14 (a : Network) (c : Nat) (b : Station) (d : Unit) : Option (Unit ⊕ (Int)) := if (!(Ct b.Node 0 (wr ((a.Nodes.length : Int) - 1)))) = true then some ((.inr (8))) else some (.inl ())
def Ff.J6 (a : Network) (d : Unit) : Option Int := (forL (Ff.B14 a) 0 a.Stations ()).bind fun b => Sum.elim (fun e => Ff.J7 a ()) (fun c => some c) b
def Ff.B15 (a : Network) (c : Nat) (b : Port) (d : Unit) : Option (Unit ⊕ (Int)) := if (!(Ct b.Node 0 (wr ((a.Nodes.length : Int) - 1)))) = true then some ((.inr (8))) else some (.inl ())
def Ff.J5 (a : Network) (d : Unit) : Option Int := (forL (Ff.B15 a) 0 a.Ports ()).bind fun b => Sum.elim (fun e => Ff.J6 a ()) (fun c => some c) b
def Ff.B16 (a : Network) (c : Nat) (b : Segment) (d : Unit) : Option (Unit ⊕ (Int)) := if ((!(Ct b.From 0 (wr ((a.Nodes.length : Int) - 1)))) || (!(Ct b.To 0 (wr ((a.Nodes.length : Int) - 1))))) = true then some ((.inr (8))) else some (.inl ())
def Ff.J4 (a : Network) (d : Unit) : Option Int := (forL (Ff.B16 a) 0 a.Segments ()).bind fun b => Sum.elim (fun e => Ff.J5 a ()) (fun c => some c) b
def Ff.J18 (a : Unit) : Option (Unit ⊕ (Int)) := some (.inl ())
def Ff.B19 (b : Network) (c : Nat) (d : Station) (a : Int) : Option (Int ⊕ (Int ⊕ Unit)) := if decide (a < (c : Int)) = true then (ix b.Stations a).bind fun e => if (d.Node == e.2.Node) = true then some ((.inr (.inl (7)))) else some (.inl (wr (a + 1))) else some ((.inr (.inr (()))))
def Ff.B17 (a : Network) (b : Nat) (c : Station) (g : Unit) : Option (Unit ⊕ (Int)) := (Bx (Ff.B19 a b c) C0 0).bind fun d => Sum.elim (fun e => some ((.inr (e)))) (fun f => Ff.J18 f) d
def Ff.J3 (a : Network) (d : Unit) : Option Int := (forL (Ff.B17 a) 0 a.Stations ()).bind fun b => Sum.elim (fun e => Ff.J4 a ()) (fun c => some c) b
def Ff.B20 (a : Arr (List ByteArray) 4) (b : Nat) (e : Unit) : Option (Unit ⊕ (Int)) := (ix a.l (b : Int)).bind fun c => (Sl c.2).bind fun d => if d = true then some ((.inr (7))) else some (.inl ())
def Ff.J2 (a : Network) (b : Arr (List ByteArray) 4) (e : Unit) : Option Int := (forI (Ff.B20 b) 0 4 ()).bind fun c => Sum.elim (fun f => Ff.J3 a ()) (fun d => some d) c
def Ff.J22 (a : Unit) : Option (Unit ⊕ (Int)) := some (.inl ())
def Ff.B23 (c : Nat) (a : ByteArray) (d : Unit) : Option (Unit ⊕ (Int)) := (R5 a).bind fun b => if (!b) = true then some ((.inr (3))) else some (.inl ())
def Ff.B21 (a : Arr (List ByteArray) 4) (b : Nat) (f : Unit) : Option (Unit ⊕ (Int)) := (ix a.l (b : Int)).bind fun c => (forL Ff.B23 0 c.2 ()).bind fun d => Sum.elim (fun g => Ff.J22 ()) (fun e => some ((.inr (e)))) d
def Ff.J1 (a : Network) (e : Unit) : Option Int := (R6 a).bind fun b => (forI (Ff.B21 b) 0 4 ()).bind fun c => Sum.elim (fun f => Ff.J2 a b ()) (fun d => some d) c
def Ff.B24 (b : Nat) (a : Segment) (c : Unit) : Option (Unit ⊕ (Int)) := if (!(Ct (a.Points.length : Int) 2 8)) = true then some ((.inr (4))) else some (.inl ())
def Ff (a : Network) : Option Int := if ((!(Ct (a.Nodes.length : Int) 1 24)) || (decide ((a.Segments.length : Int) > 32) || (decide ((a.Ports.length : Int) > 24) || decide ((a.Stations.length : Int) > 12)))) = true then some 4 else (forL Ff.B24 0 a.Segments ()).bind fun b => Sum.elim (fun d => Ff.J1 a ()) (fun c => some c) b
def G4 (a : Segment) (b : Int) : (Int × Int) := if decide (b < 0) = true then (a.To, a.From) else (a.From, a.To)
def Jp.J2 (a : Int × Int) : Option (Int × Int) := some (a.1, a.2)
def Jp.J4 (a : Int × Int) : Option (Int × Int) := some (a.1, a.2)
def Jp.B3 (c : Plan) (d : Int) (e : Nat) (f : Port) (a : Int × Int) : Option (Int × Int) := if (f.Node == d) = true then (ix c.Ports (e : Int)).bind fun b => Jp.J4 (wr (a.1 + (max 0 b.2)), wr (a.2 + (max 0 (wr (0 - b.2))))) else Jp.J4 (a.1, a.2)
def Jp.J1 (c : Network) (d : Plan) (e : Int) (a : Int × Int) : Option (Int × Int) := (forS (Jp.B3 d e) 0 c.Ports (a.1, a.2)).bind fun b => Jp.J2 (b.1, b.2)
def Jp.J6 (a : Int × Int) : Option (Int × Int) := some (a.1, a.2)
def Jp.J7 (d : Int) (e : Segment) (a : Int × Int) (b : Nat × Int) (c : Int) : Option (Int × Int) := if (((G4 e b.2).2) == d) = true then Jp.J6 (wr (a.1 + (Jl b.2)), c) else Jp.J6 (a.1, c)
def Jp.B5 (e : Plan) (c : Int) (f : Nat) (d : Segment) (a : Int × Int) : Option (Int × Int) := (ix e.Rates (f : Int)).bind fun b => if (b.2 == 0) = true then Jp.J6 (a.1, a.2) else if (((G4 d b.2).1) == c) = true then Jp.J7 c d a b (wr (a.2 + (Jl b.2))) else Jp.J7 c d a b a.2
def Jp (a : Network) (b : Plan) (c : Int) : Option (Int × Int) := (forS (Jp.B5 b c) 0 a.Segments (0, 0)).bind fun d => Jp.J1 a b c (d.1, d.2)
def Oz.J2 (a : Li × (List Bool)) (b : Int) : Option ((Li × (List Bool)) ⊕ (Li)) := if decide (b < 0) = true then some ((.inr (a.1))) else (Cp a.1 ([b] : Li)).bind fun c => (ix a.2 b).bind fun d => some (.inl (c, (a.2.set d.1 true)))
def Oz.J4 (a : Int) : Option Int := some a
def Oz.J5 (b : Nat) (a : Int) (c : Bool) : Option Int := if (c && decide (a < 0)) = true then Oz.J4 (b : Int) else Oz.J4 a
def Oz.J7 (a : Bool) : Option Bool := some a
def Oz.B6 (d : Plan) (e : Li × (List Bool)) (f : Nat) (g : Nat) (b : Segment) (c : Bool) : Option Bool := (ix d.Rates (g : Int)).bind fun a => if (a.2 != 0) = true then if c = true then if (((G4 b a.2).2) != (f : Int)) = true then Oz.J7 true else (ix e.2 ((G4 b a.2).1)).bind fun h => Oz.J7 h.2 else Oz.J7 false else Oz.J7 c
def Oz.B3 (c : Network) (d : Plan) (b : Li × (List Bool)) (a : Nat) (h : ByteArray) (e : Int) : Option Int := (ix b.2 (a : Int)).bind fun f => (forS (Oz.B6 d b a) 0 c.Segments (!f.2)).bind fun g => Oz.J5 a e g
def Oz.B1 (a : Network) (c : Plan) (b : Li × (List Bool)) : Option ((Li × (List Bool)) ⊕ (Li)) := (forS (Oz.B3 a c b) 0 a.Nodes (-1)).bind fun d => Oz.J2 b d
def Oz (a : Network) (b : Plan) : Option Li := (Qb (a.Nodes.length : Int) false).bind fun c => (Bx (Oz.B1 a b) C0 ([], c)).bind fun d => some d
def F2.J3 (a : Network) (b : Plan) (d : Unit) : Option Int := (Oz a b).bind fun c => if ((c.length : Int) != (a.Nodes.length : Int)) = true then some 13 else some 0
def F2.B4 (b : Network) (c : Plan) (d : Nat) (e : ByteArray) (f : Unit) : Option (Unit ⊕ (Int)) := (Jp b c (d : Int)).bind fun a => if (a.1 != a.2) = true then some ((.inr (12))) else some (.inl ())
def F2.J2 (a : Network) (b : Plan) (e : Unit) : Option Int := (forL (F2.B4 a b) 0 a.Nodes ()).bind fun c => Sum.elim (fun f => F2.J3 a b ()) (fun d => some d) c
def F2.B5 (b : Nat) (a : Int) (c : Unit) : Option (Unit ⊕ (Int)) := if (decide (a < (-1000)) || decide (a > 1000)) = true then some ((.inr (1))) else some (.inl ())
def F2.J1 (b : Network) (a : Plan) (e : Unit) : Option Int := (forL F2.B5 0 a.Ports ()).bind fun c => Sum.elim (fun f => F2.J2 b a ()) (fun d => some d) c
def F2.B6 (c : Network) (d : Nat) (a : Int) (e : Unit) : Option (Unit ⊕ (Int)) := (ix c.Segments (d : Int)).bind fun b => if (decide (a < (wr (0 - (min 1000 b.2.Capacity)))) || decide (a > (min 1000 b.2.Capacity))) = true then some ((.inr (1))) else some (.inl ())
def F2 (a : Network) (b : Plan) : Option Int := (Ff a).bind fun c => if (c != 0) = true then some c else if (((b.Rates.length : Int) != (a.Segments.length : Int)) || (((b.Ports.length : Int) != (a.Ports.length : Int)) || ((b.Pumps.length : Int) != (a.Stations.length : Int)))) = true then some 9 else (forL (F2.B6 a) 0 b.Rates ()).bind fun d => Sum.elim (fun f => F2.J1 a b ()) (fun e => some e) d
def Ov (a : Network) (c : Plan) (b : Int) : Option (Int × Int) := (F2 a c).bind fun d => if (d != 0) = true then some (0, d) else if (decide (b < 0) || decide (b ≥ (a.Nodes.length : Int))) = true then some (0, 8) else (Jp a c b).bind fun e => some (e.1, 0)
def Ey (a : Valve) : Bool := (decide (a.Travel ≥ 1) && (decide (a.Travel ≤ 60) && (decide (a.Open ≥ 0) && decide (a.Open ≤ a.Travel))))
def Iq (a : Valve) : Bool := ((Ey a) && (a.Open == a.Travel))
def G2.J1 (a : Valve) (b : Int) : (Valve × Int) := ((⟨a.Travel, b, a.Want, a.Stuck⟩ : Valve), 0)
def G2 (a : Valve) : (Valve × Int) := if (!(Ey a)) = true then (a, 20) else if a.Stuck = true then (a, 0) else if (a.Want && decide (a.Open < a.Travel)) = true then G2.J1 a (wr (a.Open + 1)) else if ((!a.Want) && decide (a.Open > 0)) = true then G2.J1 a (wr (a.Open - 1)) else G2.J1 a a.Open
def Jq.J1 (a : Int × Int × Bool × Bool) : Option (Valve × Int) := some ((⟨a.1, a.2.1, a.2.2.1, a.2.2.2⟩ : Valve), 0)
def Jq.B2 (b : Int) (a : Int × Int × Bool × Bool × Int) : Option ((Int × Int × Bool × Bool × Int) ⊕ ((Int × Int × Bool × Bool))) := if decide (a.2.2.2.2 < b) = true then some (.inl (((G2 (⟨a.1, a.2.1, a.2.2.1, a.2.2.2.1⟩ : Valve)).1).Travel, ((G2 (⟨a.1, a.2.1, a.2.2.1, a.2.2.2.1⟩ : Valve)).1).Open, ((G2 (⟨a.1, a.2.1, a.2.2.1, a.2.2.2.1⟩ : Valve)).1).Want, ((G2 (⟨a.1, a.2.1, a.2.2.1, a.2.2.2.1⟩ : Valve)).1).Stuck, wr (a.2.2.2.2 + 1))) else some ((.inr ((a.1, a.2.1, a.2.2.1, a.2.2.2.1))))
def Jq (a : Valve) (b : Int) : Option (Valve × Int) := if (!(Ey a)) = true then some (a, 20) else if (decide (b < 0) || decide (b > 400)) = true then some (a, 1) else (Bx (Jq.B2 b) C0 (a.Travel, a.Open, a.Want, a.Stuck, 0)).bind fun c => Jq.J1 c
def tI (a : Valve) (b : Bool) : (Valve × Int) := if (!(Ey a)) = true then (a, 20) else ((⟨a.Travel, a.Open, b, a.Stuck⟩ : Valve), 0)
def Lx (a : Lineup) : Option (List Bool) := (Cp ([] : List Bool) a.Segments).bind fun b => (Cp b a.Ports).bind fun c => some c
def Ji.J2 (a : List Bool) (b : List Bool) : Option Lineup := some (⟨a, b⟩ : Lineup)
def Ji.B3 (b : Plan) (a : (List Bool) × Int) : Option (((List Bool) × Int) ⊕ ((List Bool))) := if decide (a.2 < (b.Ports.length : Int)) = true then (ix b.Ports a.2).bind fun c => (Cp a.1 ([(c.2 != 0)] : List Bool)).bind fun d => some (.inl (d, wr (a.2 + 1))) else some ((.inr (a.1)))
def Ji.J1 (a : Plan) (b : List Bool) : Option Lineup := (Bx (Ji.B3 a) C0 ([], 0)).bind fun c => Ji.J2 b c
def Ji.B4 (b : Plan) (a : (List Bool) × Int) : Option (((List Bool) × Int) ⊕ ((List Bool))) := if decide (a.2 < (b.Rates.length : Int)) = true then (ix b.Rates a.2).bind fun c => (Cp a.1 ([(c.2 != 0)] : List Bool)).bind fun d => some (.inl (d, wr (a.2 + 1))) else some ((.inr (a.1)))
def Ji (a : Plan) : Option Lineup := (Bx (Ji.B4 a) C0 ([], 0)).bind fun b => Ji.J1 a b
def Si (a : Network) : Int := (wr ((a.Segments.length : Int) + (a.Ports.length : Int)))
def Xq.J1 (a : Unit) : Option Int := some 0
def Xq.B2 (b : List Valve) (a : Int) : Option (Int ⊕ (Int ⊕ Unit)) := if decide (a < (b.length : Int)) = true then (ix b a).bind fun c => if (!(Ey c.2)) = true then some ((.inr (.inl (20)))) else some (.inl (wr (a + 1))) else some ((.inr (.inr (()))))
def Xq (b : Network) (a : List Valve) : Option Int := if ((a.length : Int) != (Si b)) = true then some 20 else (Bx (Xq.B2 a) C0 0).bind fun c => Sum.elim (fun d => some d) (fun e => Xq.J1 e) c
def Ow.J1 (a : Li × Li × (List Bool)) : Option Plan := some (⟨a.1, a.2.1, a.2.2⟩ : Plan)
def Ow (a : Plan) : Option Plan := (Cp ([] : Li) a.Rates).bind fun b => (Cp ([] : Li) a.Ports).bind fun c => (Cp ([] : List Bool) a.Pumps).bind fun d => Ow.J1 (b, c, d)
def Lr (a : Path) : Option Path := (Cp ([] : List Hop) a.Hops).bind fun b => some (⟨a.In, a.Out, b, a.Rate⟩ : Path)
def Rk (c : Network) (b : Hop) : Option (Int × Int) := (ix c.Segments b.Segment).bind fun a => if b.Back = true then some (a.2.To, a.2.From) else some (a.2.From, a.2.To)
def Ns.J1 (a : Network) (b : Path) (c : Int) : Option Bool := (ix a.Ports b.Out).bind fun d => some (c == d.2.Node)
def Ns.J3 (b : Int × Li × Int) (a : Int × Li) : Option ((Int × Li × Int) ⊕ (Bool ⊕ Int)) := some (.inl (a.1, a.2, wr (b.2.2 + 1)))
def Ns.J5 (a : Int × Li × Int) (b : Int × Int) (d : Unit) : Option ((Int × Li × Int) ⊕ (Bool ⊕ Int)) := (Cp a.2.1 ([b.2] : Li)).bind fun c => Ns.J3 a (b.2, c)
def Ns.B6 (b : Int × Li × Int) (c : Int × Int) (a : Int) : Option (Int ⊕ (Bool ⊕ Unit)) := if decide (a < (b.2.1.length : Int)) = true then (ix b.2.1 a).bind fun d => if (d.2 == c.2) = true then some ((.inr (.inl (false)))) else some (.inl (wr (a + 1))) else some ((.inr (.inr (()))))
def Ns.J4 (c : Network) (d : Path) (a : Int × Li × Int) (e : Bool) : Option ((Int × Li × Int) ⊕ (Bool ⊕ Int)) := if e = true then some ((.inr (.inl (false)))) else (ix d.Hops a.2.2).bind fun f => (Rk c f.2).bind fun b => if (b.1 != a.1) = true then some ((.inr (.inl (false)))) else (Bx (Ns.B6 a b) C0 0).bind fun g => Sum.elim (fun h => some ((.inr (.inl (h))))) (fun i => Ns.J5 a b i) g
def Ns.B2 (c : Network) (b : Path) (a : Int × Li × Int) : Option ((Int × Li × Int) ⊕ (Bool ⊕ Int)) := if decide (a.2.2 < (b.Hops.length : Int)) = true then (ix b.Hops a.2.2).bind fun d => if decide (d.2.Segment < 0) = true then Ns.J4 c b a true else Ns.J4 c b a (decide (d.2.Segment ≥ (c.Segments.length : Int))) else some ((.inr (.inr (a.1))))
def Ns (b : Network) (a : Path) : Option Bool := if (decide (a.In < 0) || (decide (a.In ≥ (b.Ports.length : Int)) || (decide (a.Out < 0) || (decide (a.Out ≥ (b.Ports.length : Int)) || ((a.In == a.Out) || (decide (a.Rate < 1) || (decide (a.Rate > 1000) || decide ((a.Hops.length : Int) > 32)))))))) = true then some false else (ix b.Ports a.In).bind fun c => (Bx (Ns.B2 b a) C0 (c.2.Node, ([c.2.Node] : Li), 0)).bind fun d => Sum.elim (fun e => some e) (fun f => Ns.J1 b a f) d
def tF.J1 (a : Bool) : Option Bool := some a
def tF (a : Network) (b : Path) : Option Bool := (Ff a).bind fun c => if (c == 0) = true then (Ns a b).bind fun d => tF.J1 d else tF.J1 false
def Xb (a : Desk) : Option Desk := (Cp ([] : List Valve) a.Valves).bind fun b => (Ow a.Plan).bind fun c => some (⟨b, c⟩ : Desk)
def lJ (a : Path) : Bool := ((a.In == 0) && ((a.Out == 0) && (((a.Hops.length : Int) == 0) && (a.Rate == 0))))
def qH.J1 (a : Step) (b : Bool) : Bool := if b = true then ((a.Value == 0) && (lJ a.Path)) else if (a.Kind == 5) = true then ((a.Index == 0) && (a.Path.Rate == 0)) else if (a.Kind == 6) = true then ((a.Index == 0) && (lJ a.Path)) else false
def qH (a : Step) : Bool := if (a.Kind == 1) = true then qH.J1 a (a.Kind == 1) else if (a.Kind == 2) = true then qH.J1 a (a.Kind == 2) else if (a.Kind == 3) = true then qH.J1 a (a.Kind == 3) else qH.J1 a (a.Kind == 4)
def Lq.J1 (a : Unit) : Option Bool := some true
def Lq.J3 (a : Int) (b : Unit) : Option (Int ⊕ (Bool ⊕ Unit)) := some (.inl (wr (a + 1)))
def Lq.B2 (b : Network) (c : Plan) (a : Int) : Option (Int ⊕ (Bool ⊕ Unit)) := if decide (a < (b.Stations.length : Int)) = true then (ix c.Pumps a).bind fun e => if e.2 = true then (ix b.Stations a).bind fun f => (Ov b c f.2.Node).bind fun d => if ((d.2 != 0) || (d.1 == 0)) = true then some ((.inr (.inl (false)))) else Lq.J3 a () else Lq.J3 a () else some ((.inr (.inr (()))))
def Lq (a : Network) (b : Plan) : Option Bool := (Bx (Lq.B2 a b) C0 0).bind fun c => Sum.elim (fun d => some d) (fun e => Lq.J1 e) c
def Is.J1 (a : Network) (b : Desk) (d : Unit) : Option Int := (Lq a b.Plan).bind fun c => if (!c) = true then some 21 else some 0
def Is.J3 (a : Int) (b : Bool) : Option (Int ⊕ (Int ⊕ Unit)) := if b = true then some ((.inr (.inl (21)))) else some (.inl (wr (a + 1)))
def Is.B2 (d : Desk) (b : List Bool) (a : Int) : Option (Int ⊕ (Int ⊕ Unit)) := if decide (a < (b.length : Int)) = true then (ix b a).bind fun e => if e.2 = true then (ix d.Valves a).bind fun c => if (!(Iq c.2)) = true then Is.J3 a true else Is.J3 a (!c.2.Want) else Is.J3 a false else some ((.inr (.inr (()))))
def Is (b : Network) (a : Desk) : Option Int := (Ff b).bind fun c => if (c != 0) = true then some c else (Xq b a.Valves).bind fun d => if (d != 0) = true then some d else (F2 b a.Plan).bind fun e => if (e != 0) = true then some e else (Ji a.Plan).bind fun f => (Lx f).bind fun g => (Bx (Is.B2 a g) C0 0).bind fun h => Sum.elim (fun i => some i) (fun j => Is.J1 b a j) h
def tJ.J1 (b : Desk) (c : Step) (e : Bool) : Option (Desk × Int) := if e = true then some (b, 22) else (Xb b).bind fun a => (ix a.Valves c.Index).bind fun d => some ((⟨(a.Valves.set d.1 ((tI d.2 (c.Kind == 1)).1)), a.Plan⟩ : Desk), 0)
def tJ (b : Desk) (a : Step) : Option (Desk × Int) := if (decide (a.Index < 0) || decide (a.Index ≥ (b.Valves.length : Int))) = true then some (b, 8) else if (a.Kind == 2) = true then (Ji b.Plan).bind fun c => (Lx c).bind fun d => (ix d a.Index).bind fun e => tJ.J1 b a e.2 else tJ.J1 b a false
def tH (d : Network) (c : Desk) (b : Step) : Option (Desk × Int) := if (decide (b.Index < 0) || decide (b.Index ≥ (d.Stations.length : Int))) = true then some (c, 8) else (Xb c).bind fun a => (ix a.Plan.Pumps b.Index).bind fun e => (Lq d (⟨a.Plan.Rates, a.Plan.Ports, (a.Plan.Pumps.set e.1 (b.Kind == 3))⟩ : Plan)).bind fun f => if (!f) = true then some (c, 22) else some ((⟨a.Valves, (⟨a.Plan.Rates, a.Plan.Ports, (a.Plan.Pumps.set e.1 (b.Kind == 3))⟩ : Plan)⟩ : Desk), 0)
def tE.J2 (a : Unit) : Option Bool := some true
def tE.J4 (a : Int) (b : Bool) : Option (Int ⊕ (Bool ⊕ Unit)) := if b = true then some ((.inr (.inl (false)))) else some (.inl (wr (a + 1)))
def tE.B3 (d : Desk) (b : Li) (a : Int) : Option (Int ⊕ (Bool ⊕ Unit)) := if decide (a < (b.length : Int)) = true then (ix b a).bind fun e => (ix d.Valves e.2).bind fun c => if (!(Iq c.2)) = true then tE.J4 a true else tE.J4 a (!c.2.Want) else some ((.inr (.inr (()))))
def tE.J1 (a : Desk) (b : Li) : Option Bool := (Bx (tE.B3 a b) C0 0).bind fun c => Sum.elim (fun d => some d) (fun e => tE.J2 e) c
def tE.B5 (b : Path) (a : Li × Int) : Option ((Li × Int) ⊕ (Li)) := if decide (a.2 < (b.Hops.length : Int)) = true then (ix b.Hops a.2).bind fun c => (Cp a.1 ([c.2.Segment] : Li)).bind fun d => some (.inl (d, wr (a.2 + 1))) else some ((.inr (a.1)))
def tE (b : Network) (c : Desk) (a : Path) : Option Bool := (Bx (tE.B5 a) C0 (([wr ((b.Segments.length : Int) + a.In), wr ((b.Segments.length : Int) + a.Out)] : Li), 0)).bind fun d => tE.J1 c d
def tG.J2 (f : Network) (g : Desk) (b : Step) (a : Desk) (c : Nat × Int) (d : Nat × Int) (e : Li) : Option (Desk × Int) := (F2 f (⟨e, ((a.Plan.Ports.set c.1 (wr (c.2 + b.Value))).set d.1 (wr (d.2 - b.Value))), a.Plan.Pumps⟩ : Plan)).bind fun h => if (h != 0) = true then some (g, h) else (Lq f (⟨e, ((a.Plan.Ports.set c.1 (wr (c.2 + b.Value))).set d.1 (wr (d.2 - b.Value))), a.Plan.Pumps⟩ : Plan)).bind fun i => if (!i) = true then some (g, 22) else some ((⟨a.Valves, (⟨e, ((a.Plan.Ports.set c.1 (wr (c.2 + b.Value))).set d.1 (wr (d.2 - b.Value))), a.Plan.Pumps⟩ : Plan)⟩ : Desk), 0)
def tG.J4 (d : Desk) (e : Step) (b : Li × Int) (f : Nat × Hop) (a : Int) : Option ((Li × Int) ⊕ ((Desk × Int) ⊕ Li)) := (ix d.Plan.Rates f.2.Segment).bind fun c => if (decide ((wr (a * c.2)) < 0) || decide ((wr ((wr (a * c.2)) + e.Value)) < 0)) = true then some ((.inr (.inl ((d, 22))))) else (ix b.1 f.2.Segment).bind fun g => some (.inl ((b.1.set g.1 (wr (a * (wr ((wr (a * c.2)) + e.Value))))), wr (b.2 + 1)))
def tG.B3 (c : Desk) (d : Step) (e : Path) (a : Li × Int) : Option ((Li × Int) ⊕ ((Desk × Int) ⊕ Li)) := if decide (a.2 < (e.Hops.length : Int)) = true then (ix e.Hops a.2).bind fun b => if b.2.Back = true then tG.J4 c d a b (-1) else tG.J4 c d a b 1 else some ((.inr (.inr (a.1))))
def tG.J1 (d : Network) (a : Desk) (b : Step) (e : Path) (c : Desk) (f : Nat × Int) (g : Nat × Int) (h : Bool) : Option (Desk × Int) := if h = true then some (a, 22) else (Bx (tG.B3 a b e) C0 (c.Plan.Rates, 0)).bind fun i => Sum.elim (fun j => some j) (fun k => tG.J2 d a b c f g k) i
def tG (g : Network) (c : Desk) (a : Step) : Option (Desk × Int) := if (decide (a.Value < (-1000)) || decide (a.Value > 1000)) = true then some (c, 23) else (Lr a.Path).bind fun b => (tF g (⟨b.In, b.Out, b.Hops, (max a.Value (wr (0 - a.Value)))⟩ : Path)).bind fun h => if (!h) = true then some (c, 23) else (Xb c).bind fun e => (tE g e (⟨b.In, b.Out, b.Hops, (max a.Value (wr (0 - a.Value)))⟩ : Path)).bind fun i => if (!i) = true then some (c, 22) else (ix e.Plan.Ports b.In).bind fun d => (ix (e.Plan.Ports.set d.1 (wr (d.2 + a.Value))) b.Out).bind fun f => (ix ((e.Plan.Ports.set d.1 (wr (d.2 + a.Value))).set f.1 (wr (f.2 - a.Value))) b.In).bind fun j => if decide (j.2 < 0) = true then tG.J1 g c a b e d f true else (ix ((e.Plan.Ports.set d.1 (wr (d.2 + a.Value))).set f.1 (wr (f.2 - a.Value))) b.Out).bind fun k => if decide (k.2 > 0) = true then tG.J1 g c a b e d f true else (ix c.Plan.Ports b.In).bind fun l => if decide (l.2 < 0) = true then tG.J1 g c a b e d f true else (ix c.Plan.Ports b.Out).bind fun m => tG.J1 g c a b e d f (decide (m.2 > 0))
def lH.J3 (a : Desk) (b : List Valve) : Option (Desk × Int) := some ((⟨b, a.Plan⟩ : Desk), 0)
def lH.B4 (c : Step) (a : (List Valve) × Int) : Option (((List Valve) × Int) ⊕ ((List Valve))) := if decide (a.2 < (a.1.length : Int)) = true then (ix a.1 a.2).bind fun b => (Jq b.2 c.Value).bind fun d => some (.inl ((a.1.set b.1 d.1), wr (a.2 + 1))) else some ((.inr (a.1)))
def lH.J2 (c : Network) (b : Desk) (a : Step) (g : Bool) : Option (Desk × Int) := if g = true then (tH c b a).bind fun d => some (d.1, d.2) else if (a.Kind == 5) = true then (tG c b a).bind fun e => some (e.1, e.2) else if (decide (a.Value < 1) || decide (a.Value > 100)) = true then some (b, 1) else (Xb b).bind fun f => (Bx (lH.B4 a) C0 (f.Valves, 0)).bind fun h => lH.J3 f h
def lH.J1 (c : Network) (b : Desk) (a : Step) (e : Bool) : Option (Desk × Int) := if e = true then (tJ b a).bind fun d => some (d.1, d.2) else if (a.Kind == 3) = true then lH.J2 c b a (a.Kind == 3) else lH.J2 c b a (a.Kind == 4)
def lH (c : Network) (b : Desk) (a : Step) : Option (Desk × Int) := (Is c b).bind fun d => if (d != 0) = true then some (b, d) else if (!(qH a)) = true then some (b, 22) else if (a.Kind == 1) = true then lH.J1 c b a (a.Kind == 1) else lH.J1 c b a (a.Kind == 2)
def lI.J2 (a : Li × Li × (List Bool)) (b : List Valve) : Option (Desk × Int) := some ((⟨b, (⟨a.1, a.2.1, a.2.2⟩ : Plan)⟩ : Desk), 0)
def lI.B3 (b : Network) (c : Int) (a : (List Valve) × Int) : Option (((List Valve) × Int) ⊕ ((List Valve))) := if decide (a.2 < (Si b)) = true then (Cp a.1 ([(⟨c, 0, false, false⟩ : Valve)] : List Valve)).bind fun d => some (.inl (d, wr (a.2 + 1))) else some ((.inr (a.1)))
def lI.J1 (a : Network) (b : Int) (c : Li × Li × (List Bool)) : Option (Desk × Int) := (Bx (lI.B3 a b) C0 ([], 0)).bind fun d => lI.J2 c d
def lI (a : Network) (b : Int) : Option (Desk × Int) := (Ff a).bind fun c => if (c != 0) = true then some ((⟨[], (⟨[], [], []⟩ : Plan)⟩ : Desk), c) else if (decide (b < 1) || decide (b > 60)) = true then some ((⟨[], (⟨[], [], []⟩ : Plan)⟩ : Desk), 20) else (Qb (a.Segments.length : Int) (0 : Int)).bind fun d => (Qb (a.Ports.length : Int) (0 : Int)).bind fun e => (Qb (a.Stations.length : Int) false).bind fun f => lI.J1 a b (d, e, f)
def bD (a : Li) : Bool := (decide ((a.length : Int) ≤ 400))
def Og (a : Int) (b : Int) : Option Int := (Sf a b).bind fun c => some c
def Se.J1 (a : Plan) (b : List Bool) : Option Plan := some (⟨a.Rates, a.Ports, b⟩ : Plan)
def Se.J3 (a : (List Bool) × Int) (b : List Bool) : Option (((List Bool) × Int) ⊕ ((List Bool))) := some (.inl (b, wr (a.2 + 1)))
def Se.B2 (c : Network) (e : Plan) (a : (List Bool) × Int) : Option (((List Bool) × Int) ⊕ ((List Bool))) := if (decide (a.2 < (c.Stations.length : Int)) && decide (a.2 < (a.1.length : Int))) = true then (ix c.Stations a.2).bind fun f => (Ov c e f.2.Node).bind fun d => (ix a.1 a.2).bind fun b => if b.2 = true then if (d.2 == 0) = true then Se.J3 a (a.1.set b.1 (decide (d.1 > 0))) else Se.J3 a (a.1.set b.1 false) else Se.J3 a (a.1.set b.1 false) else some ((.inr (a.1)))
def Se (c : Network) (a : Plan) : Option Plan := (Ow a).bind fun b => (Bx (Se.B2 c a) C0 (b.Pumps, 0)).bind fun d => Se.J1 b d
def R3 (c : KS) (a : Network) : Option (Plan × KS) := (Oj c a).bind fun b => (Se a b.1).bind fun d => some (d, b.2)
def Xa (f : KS) : Option (Valve × KS) := (Di f ([1, 2, 3, 6, 60] : Li)).bind fun a => (Da a.2 2).bind fun b => (Da b.2 8).bind fun c => (Da c.2 (wr (a.1 + 1))).bind fun d => (Di d.2 ([0, a.1, d.1] : Li)).bind fun e => some ((⟨a.1, e.1, (b.1 == 0), (c.1 == 7)⟩ : Valve), e.2)
def Xc.J1 (b : Plan) (a : Li × Int × (List Valve)) : Option (Desk × KS) := some ((⟨a.2.2, b⟩ : Desk), (⟨a.1, a.2.1⟩ : KS))
def Xc.J3 (b : Li × Int × (List Valve) × Int) (a : Valve × KS) (c : Int × Bool) : Option ((Li × Int × (List Valve) × Int) ⊕ ((Li × Int × (List Valve)))) := (Cp b.2.2.1 ([(⟨a.1.Travel, c.1, c.2, a.1.Stuck⟩ : Valve)] : List Valve)).bind fun d => some (.inl (a.2.L_, a.2.At, d, wr (b.2.2.2 + 1)))
def Xc.B2 (c : List Bool) (a : Li × Int × (List Valve) × Int) : Option ((Li × Int × (List Valve) × Int) ⊕ ((Li × Int × (List Valve)))) := if decide (a.2.2.2 < (c.length : Int)) = true then (Xa (⟨a.1, a.2.1⟩ : KS)).bind fun b => (ix c a.2.2.2).bind fun d => if d.2 = true then Xc.J3 a b (b.1.Travel, true) else Xc.J3 a b (b.1.Open, b.1.Want) else some ((.inr ((a.1, a.2.1, a.2.2.1))))
def Xc (a : KS) (c : Network) (d : Plan) : Option (Desk × KS) := (Se c d).bind fun b => (Ji b).bind fun e => (Lx e).bind fun f => (Bx (Xc.B2 f) C0 (a.L_, a.At, [], 0)).bind fun g => Xc.J1 b g
def R4.J1 (a : Bool) : Option Bool := some a
def R4 : Option Bool := (lI (⟨([(⟨#[97]⟩ : ByteArray), (⟨#[98]⟩ : ByteArray)] : List ByteArray), ([(⟨(⟨#[103]⟩ : ByteArray), 0, 1, 10, 0, 0, ([(⟨0, 0, 1000⟩ : Point), (⟨10, 0, 1000⟩ : Point)] : List Point)⟩ : Segment)] : List Segment), ([(⟨(⟨#[112]⟩ : ByteArray), 0, 0⟩ : Port), (⟨(⟨#[113]⟩ : ByteArray), 1, 0⟩ : Port)] : List Port), [], 0, 0⟩ : Network) 2).bind fun c => (G1 (⟨([(⟨#[97]⟩ : ByteArray), (⟨#[98]⟩ : ByteArray)] : List ByteArray), ([(⟨(⟨#[103]⟩ : ByteArray), 0, 1, 10, 0, 0, ([(⟨0, 0, 1000⟩ : Point), (⟨10, 0, 1000⟩ : Point)] : List Point)⟩ : Segment)] : List Segment), ([(⟨(⟨#[112]⟩ : ByteArray), 0, 0⟩ : Port), (⟨(⟨#[113]⟩ : ByteArray), 1, 0⟩ : Port)] : List Port), [], 0, 0⟩ : Network) c.1 (⟨([5] : Li), ([5, (-5)] : Li), []⟩ : Plan) 3 1).bind fun a => if (a.2 == 0) = true then if ((a.1.length : Int) == 8) = true then (ix a.1 3).bind fun b => if (b.2.Kind == 6) = true then if (b.2.Value == 2) = true then (ix a.1 4).bind fun d => if (d.2.Value == 3) = true then (ix a.1 6).bind fun e => if (e.2.Value == 2) = true then (Oe a.1).bind fun f => R4.J1 (f == 3) else R4.J1 false else R4.J1 false else R4.J1 false else R4.J1 false else R4.J1 false else R4.J1 false
def Sh.J1 (a : Unit) : Option (Hop × Bool) := some ((⟨0, false⟩ : Hop), false)
def Sh.J3 (b : Li) (a : Int) (c : Bool) : Option (Int ⊕ ((Hop × Bool) ⊕ Unit)) := if c = true then (ix b a).bind fun d => some ((.inr (.inl (((⟨a, decide (d.2 < 0)⟩ : Hop), true))))) else some (.inl (wr (a + 1)))
def Sh.B2 (e : Network) (b : Li) (c : Int) (a : Int) : Option (Int ⊕ ((Hop × Bool) ⊕ Unit)) := if decide (a < (b.length : Int)) = true then (ix b a).bind fun d => if decide (d.2 > 0) = true then (ix e.Segments a).bind fun f => if (f.2.From == c) = true then Sh.J3 b a true else if decide (d.2 < 0) = true then Sh.J3 b a (f.2.To == c) else Sh.J3 b a false else if decide (d.2 < 0) = true then (ix e.Segments a).bind fun g => Sh.J3 b a (g.2.To == c) else Sh.J3 b a false else some ((.inr (.inr (()))))
def Sh (a : Network) (b : Li) (c : Int) : Option (Hop × Bool) := (Bx (Sh.B2 a b c) C0 0).bind fun d => Sum.elim (fun e => some e) (fun f => Sh.J1 f) d
def Oh (a : Int) : Int := (max a (wr (0 - a)))
def Rv.J1 (b : Int) (a : (List Hop) × Int) : Option (Path × Bool) := some ((⟨b, 0, a.1, a.2⟩ : Path), false)
def Rv.J3 (b : (List Hop) × Int × Int × Int) (a : (List Hop) × Int × Int) : Option (((List Hop) × Int × Int × Int) ⊕ ((Path × Bool) ⊕ ((List Hop) × Int))) := some (.inl (a.1, a.2.1, a.2.2, wr (b.2.2.2 + 1)))
def Rv.J4 (c : Network) (d : Li) (e : Int) (a : (List Hop) × Int × Int × Int) (i : Unit) : Option (((List Hop) × Int × Int × Int) ⊕ ((Path × Bool) ⊕ ((List Hop) × Int))) := (Sh c d a.2.2.1).bind fun b => if (!b.2) = true then some ((.inr (.inl (((⟨e, 0, a.1, a.2.1⟩ : Path), false))))) else (Cp a.1 ([b.1] : List Hop)).bind fun f => (ix d b.1.Segment).bind fun g => (Rk c b.1).bind fun h => Rv.J3 a (f, (min a.2.1 (Oh g.2)), h.2)
def Rv.J6 (c : Li) (d : Int) (b : (List Hop) × Int × Int × Int) (a : Int) (e : Bool) : Option (Int ⊕ ((Path × Bool) ⊕ Unit)) := if e = true then (ix c a).bind fun f => some ((.inr (.inl (((⟨d, a, b.1, (min b.2.1 (wr (0 - f.2)))⟩ : Path), true))))) else some (.inl (wr (a + 1)))
def Rv.B5 (e : Network) (b : Li) (d : Int) (c : (List Hop) × Int × Int × Int) (a : Int) : Option (Int ⊕ ((Path × Bool) ⊕ Unit)) := if decide (a < (b.length : Int)) = true then (ix e.Ports a).bind fun f => if (f.2.Node == c.2.2.1) = true then (ix b a).bind fun g => Rv.J6 b d c a (decide (g.2 < 0)) else Rv.J6 b d c a false else some ((.inr (.inr (()))))
def Rv.B2 (b : Network) (d : Li) (e : Li) (c : Int) (a : (List Hop) × Int × Int × Int) : Option (((List Hop) × Int × Int × Int) ⊕ ((Path × Bool) ⊕ ((List Hop) × Int))) := if decide (a.2.2.2 ≤ (b.Nodes.length : Int)) = true then (Bx (Rv.B5 b e c a) C0 0).bind fun f => Sum.elim (fun g => some ((.inr (.inl (g))))) (fun h => Rv.J4 b d c a h) f else some ((.inr (.inr ((a.1, a.2.1)))))
def Rv (b : Network) (d : Li) (c : Li) (a : Int) : Option (Path × Bool) := (ix c a).bind fun e => (ix b.Ports a).bind fun f => (Bx (Rv.B2 b d c a) C0 ([], e.2, f.2.Node, 0)).bind fun g => Sum.elim (fun h => some h) (fun i => Rv.J1 a i) g
def N2.J1 (a : List Path) : Option ((List Path) × Int) := some (a, 0)
def N2.J3 (b : Li × Li × (List Path) × Int) (a : Li × Li × (List Path)) : Option ((Li × Li × (List Path) × Int) ⊕ (((List Path) × Int) ⊕ (List Path))) := some (.inl (a.1, a.2.1, a.2.2, wr (b.2.2.2 + 1)))
def N2.J5 (b : Li × Li × (List Path)) (a : Path × Bool) (c : Nat × Int) (d : Nat × Int) (e : Li) : Option ((Li × Li × (List Path)) ⊕ (((List Path) × Int) ⊕ (Li × Li × (List Path)))) := (Cp b.2.2 ([a.1] : List Path)).bind fun f => some (.inl (e, ((b.2.1.set c.1 (wr (c.2 - a.1.Rate))).set d.1 (wr (d.2 + a.1.Rate))), f))
def N2.J7 (a : Li × Int) (b : Li) : Option ((Li × Int) ⊕ (Li)) := some (.inl (b, wr (a.2 + 1)))
def N2.B6 (b : Path × Bool) (a : Li × Int) : Option ((Li × Int) ⊕ (Li)) := if decide (a.2 < (b.1.Hops.length : Int)) = true then (ix b.1.Hops a.2).bind fun c => if c.2.Back = true then (ix a.1 c.2.Segment).bind fun d => N2.J7 a (a.1.set d.1 (wr (d.2 + b.1.Rate))) else (ix a.1 c.2.Segment).bind fun e => N2.J7 a (a.1.set e.1 (wr (e.2 - b.1.Rate))) else some ((.inr (a.1)))
def N2.B4 (e : Network) (d : Li × Li × (List Path) × Int) (a : Li × Li × (List Path)) : Option ((Li × Li × (List Path)) ⊕ (((List Path) × Int) ⊕ (Li × Li × (List Path)))) := (ix a.2.1 d.2.2.2).bind fun f => if decide (f.2 > 0) = true then (Rv e a.1 a.2.1 d.2.2.2).bind fun b => if ((!b.2) || (((a.2.2.length : Int) == 64) || decide ((b.1.Hops.length : Int) > 32))) = true then some ((.inr (.inl (([], 23))))) else (ix a.2.1 b.1.In).bind fun c => (ix (a.2.1.set c.1 (wr (c.2 - b.1.Rate))) b.1.Out).bind fun g => (Bx (N2.B6 b) C0 (a.1, 0)).bind fun h => N2.J5 a b c g h else some ((.inr (.inr ((a.1, a.2.1, a.2.2)))))
def N2.B2 (b : Network) (a : Li × Li × (List Path) × Int) : Option ((Li × Li × (List Path) × Int) ⊕ (((List Path) × Int) ⊕ (List Path))) := if decide (a.2.2.2 < (a.2.1.length : Int)) = true then (Bx (N2.B4 b a) C0 (a.1, a.2.1, a.2.2.1)).bind fun c => Sum.elim (fun d => some ((.inr (.inl (d))))) (fun e => N2.J3 a e) c else some ((.inr (.inr (a.2.2.1))))
def N2 (b : Network) (a : Plan) : Option ((List Path) × Int) := (F2 b a).bind fun c => if (c != 0) = true then some ([], c) else (Cp ([] : Li) a.Rates).bind fun d => (Cp ([] : Li) a.Ports).bind fun e => (Bx (N2.B2 b) C0 (d, e, [], 0)).bind fun f => Sum.elim (fun g => some g) (fun h => N2.J1 h) f
def Lu.J1 (a : Unit) : Option Bool := some true
def Lu.B2 (b : Path) (e : Path) (a : Int) : Option (Int ⊕ (Bool ⊕ Unit)) := if decide (a < (b.Hops.length : Int)) = true then (ix b.Hops a).bind fun c => (ix e.Hops a).bind fun d => if (!((c.2.Segment == d.2.Segment) && ((c.2.Back == d.2.Back) && true))) = true then some ((.inr (.inl (false)))) else some (.inl (wr (a + 1))) else some ((.inr (.inr (()))))
def Lu (a : Path) (b : Path) : Option Bool := if ((a.In != b.In) || ((a.Out != b.Out) || ((a.Hops.length : Int) != (b.Hops.length : Int)))) = true then some false else (Bx (Lu.B2 a b) C0 0).bind fun c => Sum.elim (fun d => some d) (fun e => Lu.J1 e) c
def Ou.J1 (a : Unit) : Option Int := some (-1)
def Ou.B2 (b : List Path) (c : Path) (a : Int) : Option (Int ⊕ (Int ⊕ Unit)) := if decide (a < (b.length : Int)) = true then (ix b a).bind fun d => (Lu d.2 c).bind fun e => if e = true then some ((.inr (.inl (a)))) else some (.inl (wr (a + 1))) else some ((.inr (.inr (()))))
def Ou (a : List Path) (b : Path) : Option Int := (Bx (Ou.B2 a b) C0 0).bind fun c => Sum.elim (fun d => some d) (fun e => Ou.J1 e) c
def Rp.J1 (a : List Path) : Option (List Path) := some a
def Rp.J3 (a : (List Path) × Int) (b : List Path) : Option (((List Path) × Int) ⊕ ((List Path))) := some (.inl (b, wr (a.2 + 1)))
def Rp.B2 (c : List Path) (d : List Path) (a : (List Path) × Int) : Option (((List Path) × Int) ⊕ ((List Path))) := if decide (a.2 < (c.length : Int)) = true then (ix c a.2).bind fun e => (Ou d e.2).bind fun f => if decide (f ≥ 0) = true then (Lr e.2).bind fun b => (ix d f).bind fun g => (Cp a.1 ([(⟨b.In, b.Out, b.Hops, (min b.Rate g.2.Rate)⟩ : Path)] : List Path)).bind fun h => Rp.J3 a h else Rp.J3 a a.1 else some ((.inr (a.1)))
def Rp (a : List Path) (b : List Path) : Option (List Path) := (Bx (Rp.B2 a b) C0 ([], 0)).bind fun c => Rp.J1 c
def Jn.J3 (b : Network) (e : List Bool) (c : Li × Li × (List Bool)) (a : Li × Li) : Option (Plan × Int) := if ((e.length : Int) != (b.Stations.length : Int)) = true then some ((⟨[], [], []⟩ : Plan), 9) else (F2 b (⟨a.1, a.2, c.2.2⟩ : Plan)).bind fun d => if (d != 0) = true then some ((⟨[], [], []⟩ : Plan), d) else some ((⟨a.1, a.2, c.2.2⟩ : Plan), 0)
def Jn.J5 (b : Li × Li × Int) (a : Li × Li) : Option ((Li × Li × Int) ⊕ ((Plan × Int) ⊕ (Li × Li))) := some (.inl (a.1, a.2, wr (b.2.2 + 1)))
def Jn.J8 (a : Li × Int) (c : Nat × Hop) (d : Int) (e : Bool) : Option ((Li × Int) ⊕ ((Plan × Int) ⊕ (Li × Li))) := if e = true then some ((.inr (.inl (((⟨[], [], []⟩ : Plan), 23))))) else (ix a.1 c.2.Segment).bind fun b => some (.inl ((a.1.set b.1 (wr (b.2 + d))), wr (a.2 + 1)))
def Jn.J7 (b : Li × Int) (c : Nat × Hop) (a : Int) : Option ((Li × Int) ⊕ ((Plan × Int) ⊕ (Li × Li))) := if decide (a > 0) = true then (ix b.1 c.2.Segment).bind fun d => if decide (d.2 < 0) = true then Jn.J8 b c a true else if decide (a < 0) = true then Jn.J8 b c a (decide (d.2 > 0)) else Jn.J8 b c a false else if decide (a < 0) = true then (ix b.1 c.2.Segment).bind fun e => Jn.J8 b c a (decide (e.2 > 0)) else Jn.J8 b c a false
def Jn.B6 (f : Li × Li × Int) (a : Nat × Path) (d : Nat × Int) (e : Nat × Int) (b : Li × Int) : Option ((Li × Int) ⊕ ((Plan × Int) ⊕ (Li × Li))) := if decide (b.2 < (a.2.Hops.length : Int)) = true then (ix a.2.Hops b.2).bind fun c => if c.2.Back = true then Jn.J7 b c (wr (0 - a.2.Rate)) else Jn.J7 b c a.2.Rate else some ((.inr (.inr ((b.1, ((f.2.1.set d.1 (wr (d.2 + a.2.Rate))).set e.1 (wr (e.2 - a.2.Rate))))))))
def Jn.B4 (d : List Path) (a : Li × Li × Int) : Option ((Li × Li × Int) ⊕ ((Plan × Int) ⊕ (Li × Li))) := if decide (a.2.2 < (d.length : Int)) = true then (ix d a.2.2).bind fun b => (ix a.2.1 b.2.In).bind fun c => (ix (a.2.1.set c.1 (wr (c.2 + b.2.Rate))) b.2.Out).bind fun e => (Bx (Jn.B6 a b c e) C0 (a.1, 0)).bind fun f => Sum.elim (fun g => some ((.inr (.inl (g))))) (fun h => Jn.J5 a h) f else some ((.inr (.inr ((a.1, a.2.1)))))
def Jn.J2 (b : Network) (c : List Path) (d : List Bool) (a : Li × Li × (List Bool)) (h : Unit) : Option (Plan × Int) := (Bx (Jn.B4 c) C0 (a.1, a.2.1, 0)).bind fun e => Sum.elim (fun f => some f) (fun g => Jn.J3 b d a g) e
def Jn.B9 (c : Network) (b : List Path) (a : Int) : Option (Int ⊕ ((Plan × Int) ⊕ Unit)) := if decide (a < (b.length : Int)) = true then (ix b a).bind fun d => (Ns c d.2).bind fun e => if (!e) = true then some ((.inr (.inl (((⟨[], [], []⟩ : Plan), 23))))) else some (.inl (wr (a + 1))) else some ((.inr (.inr (()))))
def Jn.J1 (a : Network) (b : List Path) (c : List Bool) (d : Li × Li × (List Bool)) : Option (Plan × Int) := (Bx (Jn.B9 a b) C0 0).bind fun e => Sum.elim (fun f => some f) (fun g => Jn.J2 a b c d g) e
def Jn (a : Network) (b : List Path) (c : List Bool) : Option (Plan × Int) := (Ff a).bind fun d => if (d != 0) = true then some ((⟨[], [], []⟩ : Plan), d) else if decide ((b.length : Int) > 64) = true then some ((⟨[], [], []⟩ : Plan), 23) else (Qb (a.Segments.length : Int) (0 : Int)).bind fun e => (Qb (a.Ports.length : Int) (0 : Int)).bind fun f => (Cp ([] : List Bool) c).bind fun g => Jn.J1 a b c (e, f, g)
def Ol (c : KS) (a : List ByteArray) : Option (ByteArray × KS) := (Da c (a.length : Int)).bind fun b => (ix a b.1).bind fun d => some (d.2, b.2)
def Xr.J1 (c : List Segment) (b : Nat × Segment) (a : Li × Int × (List ByteArray) × (List Port) × (List Station) × Int × Int × Int × Int × Int × Int × (List Point)) : Option (Network × KS) := some ((⟨a.2.2.1, (c.set b.1 (⟨b.2.Name, a.2.2.2.2.2.2.2.1, b.2.To, a.2.2.2.2.2.2.2.2.1, a.2.2.2.2.2.2.2.2.2.1, a.2.2.2.2.2.2.2.2.2.2.1, a.2.2.2.2.2.2.2.2.2.2.2⟩ : Segment)), a.2.2.2.1, a.2.2.2.2.1, a.2.2.2.2.2.1, a.2.2.2.2.2.2.1⟩ : Network), (⟨a.1, a.2.1⟩ : KS))
def Xr.B2 (d : Network) (e : List Port) (f : List Station) (c : Nat × Segment) (g : List Point) (a : Li × Int × (List ByteArray)) : Option ((Li × Int × (List ByteArray)) ⊕ ((Li × Int × (List ByteArray) × (List Port) × (List Station) × Int × Int × Int × Int × Int × Int × (List Point)))) := (Da (⟨a.1, a.2.1⟩ : KS) 2).bind fun b => if decide ((a.2.2.length : Int) ≤ (wr (23 + b.1))) = true then (G3 (⟨#[121]⟩ : ByteArray) (a.2.2.length : Int)).bind fun h => (G3 (⟨#[]⟩ : ByteArray) (wr ((a.2.2.length : Int).tdiv 26))).bind fun i => (jT h i).bind fun j => (Cp a.2.2 ([j] : List ByteArray)).bind fun k => some (.inl (b.2.L_, b.2.At, k)) else some ((.inr ((b.2.L_, b.2.At, a.2.2, e, f, d.Vapour, d.Settle, c.2.From, c.2.Capacity, c.2.Resist, c.2.Wave, g))))
def Xr (H : KS) (b : Network) : Option (Network × KS) := (Cp ([] : List ByteArray) b.Nodes).bind fun e => (Cp ([] : List Segment) b.Segments).bind fun g => (Cp ([] : List Port) b.Ports).bind fun f => (Cp ([] : List Station) b.Stations).bind fun h => (Da H (g.length : Int)).bind fun v => (ix g v.1).bind fun a => (Cp ([] : List Point) a.2.Points).bind fun d => (Da v.2 12).bind fun c => if (c.1 == 0) = true then (Da c.2 (e.length : Int)).bind fun w => (Ol w.2 ([(⟨#[]⟩ : ByteArray), (⟨#[110, 97]⟩ : ByteArray), (⟨#[65]⟩ : ByteArray), (⟨#[120, 45, 57]⟩ : ByteArray)] : List ByteArray)).bind fun i => (ix e w.1).bind fun K => Xr.J1 g a (i.2.L_, i.2.At, (e.set K.1 i.1), f, h, b.Vapour, b.Settle, a.2.From, a.2.Capacity, a.2.Resist, a.2.Wave, d) else if (c.1 == 1) = true then (Di c.2 ([(-1), a.2.To, (e.length : Int), 0] : Li)).bind fun j => Xr.J1 g a (j.2.L_, j.2.At, e, f, h, b.Vapour, b.Settle, j.1, a.2.Capacity, a.2.Resist, a.2.Wave, d) else if (c.1 == 2) = true then (Di c.2 ([0, (-1), wr (a.2.Capacity + 1), 1000001] : Li)).bind fun k => Xr.J1 g a (k.2.L_, k.2.At, e, f, h, b.Vapour, b.Settle, a.2.From, k.1, a.2.Resist, a.2.Wave, d) else if (c.1 == 3) = true then (Di c.2 ([(-1), 1000, 1001] : Li)).bind fun l => Xr.J1 g a (l.2.L_, l.2.At, e, f, h, b.Vapour, b.Settle, a.2.From, a.2.Capacity, l.1, a.2.Wave, d) else if (c.1 == 4) = true then (Di c.2 ([(-1), 100000, 100001] : Li)).bind fun m => Xr.J1 g a (m.2.L_, m.2.At, e, f, h, b.Vapour, b.Settle, a.2.From, a.2.Capacity, a.2.Resist, m.1, d) else if (c.1 == 5) = true then if decide ((d.length : Int) > 0) = true then (Da c.2 (d.length : Int)).bind fun x => (Di x.2 ([(-1), 0, 1, a.2.Capacity] : Li)).bind fun n => (ix d x.1).bind fun o => Xr.J1 g a (n.2.L_, n.2.At, e, f, h, b.Vapour, b.Settle, a.2.From, a.2.Capacity, a.2.Resist, a.2.Wave, (d.set o.1 (⟨n.1, o.2.Height, o.2.Limit⟩ : Point))) else Xr.J1 g a (c.2.L_, c.2.At, e, f, h, b.Vapour, b.Settle, a.2.From, a.2.Capacity, a.2.Resist, a.2.Wave, d) else if (c.1 == 6) = true then (Da c.2 (min 3 (wr ((d.length : Int) + 1)))).bind fun p => (aM d 0 p.1).bind fun M => Xr.J1 g a (p.2.L_, p.2.At, e, f, h, b.Vapour, b.Settle, a.2.From, a.2.Capacity, a.2.Resist, a.2.Wave, M) else if (c.1 == 7) = true then if decide ((d.length : Int) > 0) = true then (Da c.2 (d.length : Int)).bind fun y => (Di y.2 ([(-501), (-500), 5000, 5001] : Li)).bind fun q => (ix d y.1).bind fun r => Xr.J1 g a (q.2.L_, q.2.At, e, f, h, b.Vapour, b.Settle, a.2.From, a.2.Capacity, a.2.Resist, a.2.Wave, (d.set r.1 (⟨r.2.At, q.1, r.2.Limit⟩ : Point))) else Xr.J1 g a (c.2.L_, c.2.At, e, f, h, b.Vapour, b.Settle, a.2.From, a.2.Capacity, a.2.Resist, a.2.Wave, d) else if (c.1 == 8) = true then if decide ((f.length : Int) > 0) = true then (Da c.2 (f.length : Int)).bind fun z => (Ol z.2 ([(⟨#[113, 97]⟩ : ByteArray), (⟨#[113, 98]⟩ : ByteArray), (⟨#[]⟩ : ByteArray), (⟨#[122]⟩ : ByteArray)] : List ByteArray)).bind fun A => (Di A.2 ([(-1), 0, 1, (e.length : Int)] : Li)).bind fun B => (Di B.2 ([0, (-1), 100000000, 100000001] : Li)).bind fun s => (ix f z.1).bind fun N => Xr.J1 g a (s.2.L_, s.2.At, e, (f.set N.1 (⟨A.1, B.1, s.1⟩ : Port)), h, b.Vapour, b.Settle, a.2.From, a.2.Capacity, a.2.Resist, a.2.Wave, d) else Xr.J1 g a (c.2.L_, c.2.At, e, f, h, b.Vapour, b.Settle, a.2.From, a.2.Capacity, a.2.Resist, a.2.Wave, d) else if (c.1 == 9) = true then (Ol c.2 ([(⟨#[115, 97]⟩ : ByteArray), (⟨#[115, 122]⟩ : ByteArray), (⟨#[]⟩ : ByteArray)] : List ByteArray)).bind fun C => (Di C.2 ([(-1), 0, 0, 1, 99] : Li)).bind fun D => (Di D.2 ([0, (-1)] : Li)).bind fun E => (Di E.2 ([0, 100001] : Li)).bind fun F => (Di F.2 ([0, (-1)] : Li)).bind fun t => (Cp h ([(⟨C.1, D.1, E.1, F.1, t.1⟩ : Station)] : List Station)).bind fun O => Xr.J1 g a (t.2.L_, t.2.At, e, f, O, b.Vapour, b.Settle, a.2.From, a.2.Capacity, a.2.Resist, a.2.Wave, d) else if (c.1 == 10) = true then (Di c.2 ([0, (-100001), 100000001] : Li)).bind fun G => (Di G.2 ([0, (-1), 101] : Li)).bind fun u => Xr.J1 g a (u.2.L_, u.2.At, e, f, h, G.1, u.1, a.2.From, a.2.Capacity, a.2.Resist, a.2.Wave, d) else (Bx (Xr.B2 b f h a d) C0 (c.2.L_, c.2.At, e)).bind fun P => Xr.J1 g a P
def Ls.J2 (a : Li × Int × Li × Li × (List Bool)) : Option (Plan × KS) := some ((⟨a.2.2.1, a.2.2.2.1, a.2.2.2.2⟩ : Plan), (⟨a.1, a.2.1⟩ : KS))
def Ls.J1 (j : KS) (a : Li × Li × (List Bool)) : Option (Plan × KS) := (Da j 5).bind fun b => if (b.1 == 0) = true then (Cp a.2.2 ([true] : List Bool)).bind fun k => Ls.J2 (b.2.L_, b.2.At, a.1, a.2.1, k) else if (b.1 == 1) = true then (Da b.2 (wr ((a.2.1.length : Int) + 1))).bind fun c => (aM a.2.1 0 c.1).bind fun l => Ls.J2 (c.2.L_, c.2.At, a.1, l, a.2.2) else if (b.1 == 2) = true then if decide ((a.2.1.length : Int) > 0) = true then (Da b.2 (a.2.1.length : Int)).bind fun f => (ix a.2.1 f.1).bind fun g => (Di f.2 ([1, (-1), 1001, (-4611686018427387904)] : Li)).bind fun d => Ls.J2 (d.2.L_, d.2.At, a.1, (a.2.1.set g.1 (wr (g.2 + d.1))), a.2.2) else Ls.J2 (b.2.L_, b.2.At, a.1, a.2.1, a.2.2) else if decide ((a.1.length : Int) > 0) = true then (Da b.2 (a.1.length : Int)).bind fun h => (ix a.1 h.1).bind fun i => (Di h.2 ([1, (-1), 5, 1001, 4611686018427387904, (-4611686018427387904)] : Li)).bind fun e => Ls.J2 (e.2.L_, e.2.At, (a.1.set i.1 (wr (i.2 + e.1))), a.2.1, a.2.2) else Ls.J2 (b.2.L_, b.2.At, a.1, a.2.1, a.2.2)
def Ls (b : KS) (a : Plan) : Option (Plan × KS) := (Cp ([] : Li) a.Rates).bind fun c => (Cp ([] : Li) a.Ports).bind fun d => (Cp ([] : List Bool) a.Pumps).bind fun e => Ls.J1 b (c, d, e)
structure batchlineref27_maker where
 steps : List Step
 valves : List Valve
 rest : Int
 deriving DecidableEq
def Oc.J1 (b : Valve) (a : Int) : Int := if (b.Stuck && decide (a > 0)) = true then (-1) else a
def Oc (a : Valve) : Int := if (!(Ey a)) = true then (-1) else if a.Want = true then Oc.J1 a (wr (a.Travel - a.Open)) else Oc.J1 a a.Open
def N1 (a : Valve) : Bool := ((Ey a) && (a.Open == 0))
def R8 (a : List Path) (c : Path) : Option Int := (Ou a c).bind fun b => if decide (b ≥ 0) = true then (ix a b).bind fun d => some d.2.Rate else some 0
def Iu.J1 (c : Network) (d : Int) (a : Plan × Int) : Option Bool := if (a.2 != 0) = true then some false else (Ov c a.1 d).bind fun b => some ((b.2 == 0) && decide (b.1 > 0))
def Iu (a : Network) (c : List Path) (d : Int) : Option Bool := (Qb (a.Stations.length : Int) false).bind fun e => (Jn a c e).bind fun b => Iu.J1 a d (b.1, b.2)
def Re.J2 (a : (List Step) × (List Valve) × Int) (b : List Step) (c : List Valve) : Option (((List Step) × (List Valve) × Int) ⊕ (batchlineref27_maker)) := some (.inl (b, c, wr (a.2.2 - (min a.2.2 100))))
def Re.B3 (c : (List Step) × (List Valve) × Int) (a : (List Valve) × Int) : Option (((List Valve) × Int) ⊕ ((List Valve))) := if decide (a.2 < (a.1.length : Int)) = true then (ix a.1 a.2).bind fun b => (Jq b.2 (min c.2.2 100)).bind fun d => some (.inl ((a.1.set b.1 d.1), wr (a.2 + 1))) else some ((.inr (a.1)))
def Re.B1 (b : batchlineref27_maker) (a : (List Step) × (List Valve) × Int) : Option (((List Step) × (List Valve) × Int) ⊕ (batchlineref27_maker)) := if decide (a.2.2 > 0) = true then (Cp a.1 ([(⟨6, 0, (min a.2.2 100), (⟨0, 0, [], 0⟩ : Path)⟩ : Step)] : List Step)).bind fun c => (Bx (Re.B3 a) C0 (a.2.1, 0)).bind fun d => Re.J2 a c d else some ((.inr ((⟨a.1, a.2.1, b.rest⟩ : batchlineref27_maker))))
def Re (a : batchlineref27_maker) (b : Int) : Option batchlineref27_maker := (Bx (Re.B1 a) C0 (a.steps, a.valves, b)).bind fun c => some c
def Rh.B1 (c : Int) (b : Int) (d : Path) (a : (List Step) × (List Valve) × Int × Int) : Option (((List Step) × (List Valve) × Int × Int) ⊕ (batchlineref27_maker)) := if (a.2.2.2 != c) = true then (Lr (⟨d.In, d.Out, d.Hops, 0⟩ : Path)).bind fun f => (Cp a.1 ([(⟨5, 0, (max (wr (0 - b)) (min b (wr (c - a.2.2.2)))), f⟩ : Step)] : List Step)).bind fun g => (Re (⟨g, a.2.1, a.2.2.1⟩ : batchlineref27_maker) a.2.2.1).bind fun e => some (.inl (e.steps, e.valves, e.rest, wr (a.2.2.2 + (max (wr (0 - b)) (min b (wr (c - a.2.2.2))))))) else some ((.inr ((⟨a.1, a.2.1, a.2.2.1⟩ : batchlineref27_maker))))
def Rh (a : batchlineref27_maker) (b : Path) (c : Int) (d : Int) (e : Int) : Option batchlineref27_maker := (Lr b).bind fun f => (Bx (Rh.B1 d e f) C0 (a.steps, a.valves, a.rest, c)).bind fun g => some g
def R0.J3 (b : batchlineref27_maker) (a : (List Step) × (List Valve)) (c : Int) : Option (Bool × batchlineref27_maker) := (Re (⟨a.1, a.2, b.rest⟩ : batchlineref27_maker) c).bind fun d => some (true, d)
def R0.B4 (e : batchlineref27_maker) (b : (List Step) × (List Valve)) (c : Li) (a : Int × Int) : Option ((Int × Int) ⊕ ((Bool × batchlineref27_maker) ⊕ Int)) := if decide (a.2 < (c.length : Int)) = true then (ix c a.2).bind fun f => (ix b.2 f.2).bind fun d => if decide ((Oc d.2) < 0) = true then some ((.inr (.inl ((false, (⟨b.1, b.2, e.rest⟩ : batchlineref27_maker)))))) else some (.inl ((max a.1 (Oc d.2)), wr (a.2 + 1))) else some ((.inr (.inr (a.1))))
def R0.J2 (a : batchlineref27_maker) (c : Li) (d : Li) (b : (List Step) × (List Valve)) : Option (Bool × batchlineref27_maker) := (Cp ([] : Li) c).bind fun e => (Cp e d).bind fun f => (Bx (R0.B4 a b f) C0 (0, 0)).bind fun g => Sum.elim (fun h => some h) (fun i => R0.J3 a b i) g
def R0.B5 (c : Li) (a : (List Step) × (List Valve) × Int) : Option (((List Step) × (List Valve) × Int) ⊕ (((List Step) × (List Valve)))) := if decide (a.2.2 < (c.length : Int)) = true then (ix c a.2.2).bind fun d => (Cp a.1 ([(⟨1, d.2, 0, (⟨0, 0, [], 0⟩ : Path)⟩ : Step)] : List Step)).bind fun e => (ix a.2.1 d.2).bind fun b => some (.inl (e, (a.2.1.set b.1 (⟨b.2.Travel, b.2.Open, true, b.2.Stuck⟩ : Valve)), wr (a.2.2 + 1))) else some ((.inr ((a.1, a.2.1))))
def R0.J1 (c : batchlineref27_maker) (d : Li) (a : Li) (b : (List Step) × (List Valve)) : Option (Bool × batchlineref27_maker) := (Bx (R0.B5 a) C0 (b.1, b.2, 0)).bind fun e => R0.J2 c d a e
def R0.B6 (c : Li) (a : (List Step) × (List Valve) × Int) : Option (((List Step) × (List Valve) × Int) ⊕ (((List Step) × (List Valve)))) := if decide (a.2.2 < (c.length : Int)) = true then (ix c a.2.2).bind fun d => (Cp a.1 ([(⟨2, d.2, 0, (⟨0, 0, [], 0⟩ : Path)⟩ : Step)] : List Step)).bind fun e => (ix a.2.1 d.2).bind fun b => some (.inl (e, (a.2.1.set b.1 (⟨b.2.Travel, b.2.Open, false, b.2.Stuck⟩ : Valve)), wr (a.2.2 + 1))) else some ((.inr ((a.1, a.2.1))))
def R0 (a : batchlineref27_maker) (b : Li) (c : Li) : Option (Bool × batchlineref27_maker) := (Bx (R0.B6 b) C0 (a.steps, a.valves, 0)).bind fun d => R0.J1 a b c d
def Xe.J5 (a : List Step) : Option ((List Step) × Int) := if decide ((a.length : Int) > 400) = true then some ([], 4) else some (a, 0)
def Xe.J7 (a : (List Step) × Int) (b : List Step) : Option (((List Step) × Int) ⊕ ((List Step))) := some (.inl (b, wr (a.2 + 1)))
def Xe.J8 (a : (List Step) × Int) (b : Bool) : Option (((List Step) × Int) ⊕ ((List Step))) := if b = true then (Cp a.1 ([(⟨3, a.2, 0, (⟨0, 0, [], 0⟩ : Path)⟩ : Step)] : List Step)).bind fun c => Xe.J7 a c else Xe.J7 a a.1
def Xe.B6 (c : Plan) (b : (List Step) × (List Bool)) (a : (List Step) × Int) : Option (((List Step) × Int) ⊕ ((List Step))) := if decide (a.2 < (b.2.length : Int)) = true then (ix c.Pumps a.2).bind fun d => if d.2 = true then (ix b.2 a.2).bind fun e => Xe.J8 a (!e.2) else Xe.J8 a false else some ((.inr (a.1)))
def Xe.J4 (a : Plan) (b : (List Step) × (List Bool)) (c : (List Step) × (List Valve) × Int) : Option ((List Step) × Int) := (Bx (Xe.B6 a b) C0 (c.1, 0)).bind fun d => Xe.J5 d
def Xe.B9 (d : List Path) (e : Int) (f : List Path) (a : (List Step) × (List Valve) × Int × Int) : Option (((List Step) × (List Valve) × Int × Int) ⊕ (((List Step) × (List Valve) × Int))) := if decide (a.2.2.2 < (d.length : Int)) = true then (ix d a.2.2.2).bind fun b => (R8 f b.2).bind fun g => (Rh (⟨a.1, a.2.1, a.2.2.1⟩ : batchlineref27_maker) b.2 g b.2.Rate e).bind fun c => some (.inl (c.steps, c.valves, c.rest, wr (a.2.2.2 + 1))) else some ((.inr ((a.1, a.2.1, a.2.2.1))))
def Xe.J3 (d : Plan) (e : List Path) (f : Int) (g : List Path) (h : (List Step) × (List Bool)) (b : (List Step) × (List Valve) × Int) (c : Li × Li) : Option ((List Step) × Int) := (R0 (⟨b.1, b.2.1, b.2.2⟩ : batchlineref27_maker) c.1 c.2).bind fun a => if (!a.1) = true then some ([], 20) else (Bx (Xe.B9 e f g) C0 (a.2.steps, a.2.valves, a.2.rest, 0)).bind fun i => Xe.J4 d h i
def Xe.J11 (b : Li × Li × Int) (a : Li × Li) : Option ((Li × Li × Int) ⊕ ((Li × Li))) := some (.inl (a.1, a.2, wr (b.2.2 + 1)))
def Xe.J13 (a : Li × Li × Int) (b : Li) (c : Bool) : Option ((Li × Li × Int) ⊕ ((Li × Li))) := if c = true then (Cp a.2.1 ([a.2.2] : Li)).bind fun d => Xe.J11 a (b, d) else Xe.J11 a (b, a.2.1)
def Xe.J12 (d : List Bool) (a : Li × Li × Int) (c : Nat × Valve) (b : Li) : Option ((Li × Li × Int) ⊕ ((Li × Li))) := (ix d a.2.2).bind fun e => if e.2 = true then if (!(Iq c.2)) = true then Xe.J13 a b true else Xe.J13 a b (!c.2.Want) else Xe.J13 a b false
def Xe.J14 (b : List Bool) (a : Li × Li × Int) (c : Nat × Valve) (d : Bool) : Option ((Li × Li × Int) ⊕ ((Li × Li))) := if d = true then (Cp a.1 ([a.2.2] : Li)).bind fun e => Xe.J12 b a c e else Xe.J12 b a c a.1
def Xe.B10 (d : (List Step) × (List Valve) × Int) (b : List Bool) (a : Li × Li × Int) : Option ((Li × Li × Int) ⊕ ((Li × Li))) := if decide (a.2.2 < (b.length : Int)) = true then (ix d.2.1 a.2.2).bind fun c => (ix b a.2.2).bind fun e => if (!e.2) = true then if (!(N1 c.2)) = true then Xe.J14 b a c true else Xe.J14 b a c c.2.Want else Xe.J14 b a c false else some ((.inr ((a.1, a.2.1))))
def Xe.J2 (a : Plan) (c : List Path) (d : Int) (e : List Path) (f : (List Step) × (List Bool)) (b : (List Step) × (List Valve) × Int) : Option ((List Step) × Int) := (Ji a).bind fun g => (Lx g).bind fun h => (Bx (Xe.B10 b h) C0 ([], [], 0)).bind fun i => Xe.J3 a c d e f b i
def Xe.B15 (d : List Path) (e : Int) (f : List Path) (a : (List Step) × (List Valve) × Int × Int) : Option (((List Step) × (List Valve) × Int × Int) ⊕ (((List Step) × (List Valve) × Int))) := if decide (a.2.2.2 < (d.length : Int)) = true then (ix d a.2.2.2).bind fun b => (R8 f b.2).bind fun g => (Rh (⟨a.1, a.2.1, a.2.2.1⟩ : batchlineref27_maker) b.2 b.2.Rate g e).bind fun c => some (.inl (c.steps, c.valves, c.rest, wr (a.2.2.2 + 1))) else some ((.inr ((a.1, a.2.1, a.2.2.1))))
def Xe.J1 (d : Plan) (e : List Path) (f : List Path) (a : Int) (g : Int) (b : List Path) (h : List Valve) (c : (List Step) × (List Bool)) : Option ((List Step) × Int) := (Bx (Xe.B15 e a b) C0 (c.1, h, g, 0)).bind fun i => Xe.J2 d f a b c i
def Xe.J17 (b : (List Step) × (List Bool) × Int) (a : (List Step) × (List Bool)) : Option (((List Step) × (List Bool) × Int) ⊕ (((List Step) × (List Bool)))) := some (.inl (a.1, a.2, wr (b.2.2 + 1)))
def Xe.J18 (a : (List Step) × (List Bool) × Int) (b : Bool) : Option (((List Step) × (List Bool) × Int) ⊕ (((List Step) × (List Bool)))) := if b = true then (Cp a.1 ([(⟨4, a.2.2, 0, (⟨0, 0, [], 0⟩ : Path)⟩ : Step)] : List Step)).bind fun c => (ix a.2.1 a.2.2).bind fun d => Xe.J17 a (c, (a.2.1.set d.1 false)) else Xe.J17 a (a.1, a.2.1)
def Xe.B16 (b : Network) (c : Plan) (d : List Path) (a : (List Step) × (List Bool) × Int) : Option (((List Step) × (List Bool) × Int) ⊕ (((List Step) × (List Bool)))) := if decide (a.2.2 < (a.2.1.length : Int)) = true then (ix a.2.1 a.2.2).bind fun e => if e.2 = true then (ix c.Pumps a.2.2).bind fun f => if (!f.2) = true then Xe.J18 a true else (ix b.Stations a.2.2).bind fun g => (Iu b d g.2.Node).bind fun h => Xe.J18 a (!h) else Xe.J18 a false else some ((.inr ((a.1, a.2.1))))
def Xe (f : Network) (a : Desk) (b : Plan) (c : List Path) (d : List Path) (g : Int) (h : Int) : Option ((List Step) × Int) := (Rp c d).bind fun e => (Cp ([] : List Valve) a.Valves).bind fun i => (Cp ([] : List Bool) a.Plan.Pumps).bind fun j => (Bx (Xe.B16 f b e) C0 ([], j, 0)).bind fun k => Xe.J1 b c d g h e i k
def H3.J1 (b : Network) (c : Desk) (d : Plan) (e : Int) (f : Int) (g : (List Path) × Int) (h : (List Path) × Int) (i : Unit) : Option ((List Step) × Int) := (Xe b c d g.1 h.1 e f).bind fun a => some (a.1, a.2)
def H3.J3 (a : Int) (b : Bool) : Option (Int ⊕ (((List Step) × Int) ⊕ Unit)) := if b = true then some ((.inr (.inl (([], 22))))) else some (.inl (wr (a + 1)))
def H3.B2 (b : Network) (c : Plan) (d : (List Path) × Int) (a : Int) : Option (Int ⊕ (((List Step) × Int) ⊕ Unit)) := if decide (a < (b.Stations.length : Int)) = true then (ix c.Pumps a).bind fun e => if e.2 = true then (ix b.Stations a).bind fun f => (Iu b d.1 f.2.Node).bind fun g => H3.J3 a (!g) else H3.J3 a false else some ((.inr (.inr (()))))
def H3 (a : Network) (d : Desk) (b : Plan) (e : Int) (f : Int) : Option ((List Step) × Int) := (Is a d).bind fun h => if (h != 0) = true then some ([], h) else (F2 a b).bind fun i => if (i != 0) = true then some ([], i) else if (decide (e < 1) || (decide (e > 1000) || (decide (f < 0) || decide (f > 100)))) = true then some ([], 1) else (N2 a d.Plan).bind fun g => if (g.2 != 0) = true then some ([], g.2) else (N2 a b).bind fun c => if (c.2 != 0) = true then some ([], c.2) else (Bx (H3.B2 a b c) C0 0).bind fun j => Sum.elim (fun k => some k) (fun l => H3.J1 a d b e f g c l) j
def Od.J1 (c : Network) (d : Desk) (e : Int) (f : Int) (a : Li × Li × (List Bool)) : Option ((List Step) × Int) := (H3 c d (⟨a.1, a.2.1, a.2.2⟩ : Plan) e f).bind fun b => some (b.1, b.2)
def Od (a : Network) (b : Desk) (c : Int) (d : Int) : Option ((List Step) × Int) := (Qb (a.Segments.length : Int) (0 : Int)).bind fun e => (Qb (a.Ports.length : Int) (0 : Int)).bind fun f => (Qb (a.Stations.length : Int) false).bind fun g => Od.J1 a b c d (e, f, g)
def Sc.J1 (a : Int) : Option Int := some a
def Sc.J3 (a : Int × Int) (b : Int) : Option ((Int × Int) ⊕ (Int)) := some (.inl (b, wr (a.2 + 1)))
def Sc.B2 (c : List Step) (a : Int × Int) : Option ((Int × Int) ⊕ (Int)) := if decide (a.2 < (c.length : Int)) = true then (ix c a.2).bind fun b => if ((b.2.Kind == 5) && decide (b.2.Value ≥ (-4611686018427387904))) = true then Sc.J3 a (max (max a.1 b.2.Value) (wr (0 - b.2.Value))) else Sc.J3 a a.1 else some ((.inr (a.1)))
def Sc (a : List Step) : Option Int := (Bx (Sc.B2 a) C0 (0, 0)).bind fun b => Sc.J1 b
def Rd.J1 (a : Bool) : Option Bool := some a
def Rd (a : Step) (b : Step) : Option Bool := if (a.Kind == b.Kind) = true then if (a.Index == b.Index) = true then if (a.Value == b.Value) = true then if (a.Path.Rate == b.Path.Rate) = true then (Lu a.Path b.Path).bind fun c => Rd.J1 c else Rd.J1 false else Rd.J1 false else Rd.J1 false else Rd.J1 false
def Rn.J1 (a : Unit) : Option Bool := some true
def Rn.B2 (b : List Step) (c : List Step) (a : Int) : Option (Int ⊕ (Bool ⊕ Unit)) := if decide (a < (b.length : Int)) = true then (ix b a).bind fun d => (ix c a).bind fun e => (Rd d.2 e.2).bind fun f => if (!f) = true then some ((.inr (.inl (false)))) else some (.inl (wr (a + 1))) else some ((.inr (.inr (()))))
def Rn (a : List Step) (b : List Step) : Option Bool := if ((a.length : Int) != (b.length : Int)) = true then some false else (Bx (Rn.B2 a b) C0 0).bind fun c => Sum.elim (fun d => some d) (fun e => Rn.J1 e) c
def bC.J3 (a : Bool) : Option Bool := some a
def bC.J2 (a : Network × (List Valve) × Li × Li × (List Bool) × Plan × Int × Int) : Option Bool := (G1 a.1 (⟨a.2.1, (⟨a.2.2.1, a.2.2.2.1, a.2.2.2.2.1⟩ : Plan)⟩ : Desk) a.2.2.2.2.2.1 a.2.2.2.2.2.2.1 a.2.2.2.2.2.2.2).bind fun c => (H3 a.1 (⟨a.2.1, (⟨a.2.2.1, a.2.2.2.1, a.2.2.2.2.1⟩ : Plan)⟩ : Desk) a.2.2.2.2.2.1 a.2.2.2.2.2.2.1 a.2.2.2.2.2.2.2).bind fun b => (On a.1 (⟨a.2.1, (⟨a.2.2.1, a.2.2.2.1, a.2.2.2.2.1⟩ : Plan)⟩ : Desk) a.2.2.2.2.2.2.1 a.2.2.2.2.2.2.2).bind fun d => (Od a.1 (⟨a.2.1, (⟨a.2.2.1, a.2.2.2.1, a.2.2.2.2.1⟩ : Plan)⟩ : Desk) a.2.2.2.2.2.2.1 a.2.2.2.2.2.2.2).bind fun e => if (c.2 == b.2) = true then if (d.2 == e.2) = true then (Rn c.1 b.1).bind fun f => if f = true then (Rn d.1 e.1).bind fun g => if g = true then (Oe b.1).bind fun h => (Sc b.1).bind fun i => if (h == i) = true then (R4).bind fun j => bC.J3 j else bC.J3 false else bC.J3 false else bC.J3 false else bC.J3 false else bC.J3 false
def bC.J1 (i : Int) (j : Int) (k : Int) (c : Network × KS) (a : Li × Int × (List Valve) × Li × Li × (List Bool)) : Option Bool := (R3 (⟨a.1, a.2.1⟩ : KS) c.1).bind fun e => (Da e.2 40).bind fun d => (Da d.2 4).bind fun b => (Og i 14).bind fun f => if (f == 0) = true then (Xr b.2 c.1).bind fun l => bC.J2 (l.1, a.2.2.1, a.2.2.2.1, a.2.2.2.2.1, a.2.2.2.2.2, e.1, wr (1 + d.1), b.1) else if (f == 1) = true then (Ls b.2 e.1).bind fun m => bC.J2 (c.1, a.2.2.1, a.2.2.2.1, a.2.2.2.2.1, a.2.2.2.2.2, m.1, wr (1 + d.1), b.1) else if (f == 2) = true then (Og j 1003).bind fun n => bC.J2 (c.1, a.2.2.1, a.2.2.2.1, a.2.2.2.2.1, a.2.2.2.2.2, e.1, wr (n - 1), b.1) else if (f == 3) = true then (Og k 103).bind fun o => bC.J2 (c.1, a.2.2.1, a.2.2.2.1, a.2.2.2.2.1, a.2.2.2.2.2, e.1, wr (1 + d.1), wr (o - 1)) else if (f == 4) = true then (ix a.2.2.1 0).bind fun g => bC.J2 (c.1, (a.2.2.1.set g.1 (⟨g.2.Travel, (-1), g.2.Want, g.2.Stuck⟩ : Valve)), a.2.2.2.1, a.2.2.2.2.1, a.2.2.2.2.2, e.1, wr (1 + d.1), b.1) else if (f == 5) = true then (Oj b.2 c.1).bind fun p => bC.J2 (c.1, a.2.2.1, a.2.2.2.1, a.2.2.2.2.1, a.2.2.2.2.2, p.1, wr (1 + d.1), b.1) else if (f == 6) = true then (Ls b.2 (⟨a.2.2.2.1, a.2.2.2.2.1, a.2.2.2.2.2⟩ : Plan)).bind fun h => bC.J2 (c.1, a.2.2.1, h.1.Rates, h.1.Ports, h.1.Pumps, e.1, wr (1 + d.1), b.1) else if (f == 7) = true then bC.J2 (c.1, a.2.2.1, a.2.2.2.1, a.2.2.2.2.1, a.2.2.2.2.2, (⟨a.2.2.2.1, a.2.2.2.2.1, a.2.2.2.2.2⟩ : Plan), wr (1 + d.1), b.1) else bC.J2 (c.1, a.2.2.1, a.2.2.2.1, a.2.2.2.2.1, a.2.2.2.2.2, e.1, wr (1 + d.1), b.1)
def bC (c : Li) (e : Int) (f : Int) (g : Int) : Option Bool := if (!(bD c)) = true then (R4).bind fun h => some h else (Xl c).bind fun i => (Xo i).bind fun b => (R3 b.2 b.1).bind fun d => (Xc d.2 b.1 d.1).bind fun a => bC.J1 e f g b (a.2.L_, a.2.At, a.1.Valves, a.1.Plan.Rates, a.1.Plan.Ports, a.1.Plan.Pumps)
abbrev Nw := Network
abbrev Sg := Segment
abbrev Sn := Station
abbrev Bt := ByteArray
abbrev U0 := fun (v : Value) l => Ob.us v 3 1 (List.map rI l)
abbrev U1 := fun (v : Value) l => Ob.us v 4 1 (List.map rB l)
abbrev U2 := fun (v : Value) l => Ob.us v 54 7 (List.map Cg l)
abbrev U3 := fun (v : Value) l => Ob.us v 52 4 (List.map Az l)
abbrev U4 := fun (v : Value) l => Ob.us v 74 4 (List.map A5 l)
abbrev U5 := fun (v : Value) l => Ob.us v 9 1 (List.map rS l)
abbrev U6 := fun (v : Value) l => Ob.us v 107 2 (List.map Cb l)
abbrev U7 := fun (v : Value) l => Ob.us v 83 7 (List.map Ap l)
abbrev U8 := fun (v : Value) l => Ob.us v 85 3 (List.map Cc l)
abbrev U9 := fun (v : Value) l => Ob.us v 93 5 (List.map Bn l)
abbrev qP := fun (v : Value) l => Ob.us v 80 3 (List.map C1 l)
abbrev Q0 := fun l => T.list 1 (List.map rI l)
abbrev Q1 := fun l => T.list 1 (List.map rS l)
abbrev Q2 := fun l => T.list 1 (List.map rB l)
abbrev Q3 := fun l => T.list 5 (List.map Bn l)
abbrev Q4 := fun l => T.list 3 (List.map Cc l)
abbrev Q5 := fun l => T.list 7 (List.map Ap l)
abbrev Q6 := fun l => T.list 4 (List.map Az l)
abbrev Q7 := fun l => T.list 2 (List.map Cb l)
abbrev Q8 := fun l => T.list 4 (List.map A5 l)
abbrev Q9 := fun l => T.list 7 (List.map Cg l)
abbrev uL := fun l => T.list 3 (List.map C1 l)
abbrev O0 := fun (b : Nat) e => Ob.arr b 32 6 1 e
abbrev O1 := fun (b : Nat) e => Ob.arr b 37 3 1 e
abbrev O2 := fun (b : Nat) e => Ob.arr b 88 2 1 e
abbrev O3 := fun (b : Nat) e => Ob.arr b 52 4 1 e
abbrev O4 := fun (b : Nat) e => Ob.arr b 39 4 1 e
abbrev O5 := fun (b : Nat) e => Ob.arr b 166 3 1 e
abbrev O6 := fun (b : Nat) e => Ob.arr b 158 4 1 e
abbrev O7 := fun (b : Nat) e => Ob.arr b 43 1 1 e
abbrev O8 := fun (b : Nat) e => Ob.arr b 97 2 1 e
abbrev O9 := fun (b : Nat) e => Ob.arr b 83 7 1 e
abbrev Wp := fun (b : Nat) e => Ob.arr b 141 8 1 e
abbrev Yi := fun (b : Nat) e => Ob.arr b 74 4 1 e
abbrev aL := fun (b : Nat) e => Ob.arr b 175 48 1 e
abbrev qQ := fun (b : Nat) e => Ob.arr b 3 1 1 e
abbrev W0 : List T := [.N, .N, .N]
abbrev W1 : List T := [.N, .N, .N, .N]
abbrev W2 : List T := [.V 0, .V 0, .N, .V 0]
abbrev W3 : List T := [.N, .N, .N, .N, .V 0, .V 0]
abbrev W4 : List T := [.v (.string ⟨#[]⟩), .V 0, .V 0, .V 0, .V 0, .V 0, .N]
abbrev W5 : List T := [.V 0, .V 0, .v (.bool false), .v (.bool false)]
abbrev W6 : List T := [.v (.string ⟨#[]⟩), .V 0, .V 0]
abbrev W7 : List T := [.v (.string ⟨#[]⟩), .V 0, .V 0, .V 0, .V 0]
abbrev W8 : List T := [.V 0, .V 0, .V 0, .V 0, .V 0, .N, .V 0]
end Go.Proofs.YtmaamhgjeampmaaGreat
