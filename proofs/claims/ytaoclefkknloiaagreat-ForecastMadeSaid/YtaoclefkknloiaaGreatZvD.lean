/- Tables and pure functions. No condition. -/
import Derived.Test.YtaoclefkknloiaaGreatZvB2
import Derived.Test.YtaoclefkknloiaaGreatRows
import Derived.KernelRfl
import Derived.Test.YtaoclefkknloiaaGreatZvB3
set_option maxRecDepth 100000
namespace Go.Aw
set_option linter.unusedVariables false
set_option linter.unusedSimpArgs false
inductive TT where
 | nil
 | node (l : TT) (k : Nat) (x : TI) (r : TT)
def Qa : TT → Nat → Option TI
 | .nil, _ => none
 | .node l k x r, i => bif Nat.beq k i then some x else bif Nat.ble k i then Qa r i else Qa l i
def cE (P : Program) : TT → Prop
 | .nil => True
 | .node l k x r => cE P l ∧ Je P k = some x ∧ cE P r
theorem Sy {P : Program} : ∀ {t : TT} {i : Nat} {x : TI}, cE P t → Qa t i = some x → Je P i = some x
 | .nil, _, _, _, h => by simp [Qa] at h
 | .node l k y r, i, x, ha, h => by
  simp only [Qa] at h
  cases hb : Nat.beq k i with
  | true =>
   have := nq hb
   simp only [hb, cond_true, Option.some.injEq] at h
   subst h this; exact ha.2.1
  | false =>
   simp only [hb, cond_false] at h
   cases hc : Nat.ble k i with
   | true => simp only [hc, cond_true] at h; exact Sy ha.2.2 h
   | false => simp only [hc, cond_false] at h; exact Sy ha.1 h
abbrev zI : Value := .int .i64 0
abbrev zN : Value := .slice none 0 0
abbrev zT (k : Nat) : TI := { kind := .slice k, size := 1, bytes := 24, zero := some zN }
abbrev zS (f : List (Nat × Nat)) (s b : Nat) (z : Array Value) : TI := { kind := .struct f, size := s, bytes := b, zero := some (.agg z) }
abbrev zA (n t s b : Nat) (z : Array Value) : TI := { kind := .array n t, size := s, bytes := b, zero := some (.agg z) }
end Go.Aw
namespace Go.Proofs.YtaoclefkknloiaaGreat
open Go.Aw
abbrev qF : TI := { kind := .int .i64, size := 1, bytes := 8, zero := some (.int .i64 0) }
abbrev qE : TI := { kind := .bool, size := 1, bytes := 1, zero := some (.bool false) }
abbrev qD : TI := { kind := .int .u8, size := 1, bytes := 1, zero := some (.int .u8 0) }
abbrev qC : TI := { kind := .string, size := 1, bytes := 16, zero := some (.string ⟨#[]⟩) }
abbrev oD : TI := zT 9
abbrev oC : TI := zT 89
abbrev oB : TI := zT 82
abbrev oA : TI := zT 95
abbrev nZ : TI := zS [(0, 22), (1, 23), (2, 24), (3, 25), (4, 3), (5, 3)] 6 112 #[zN, zN, zN, zN, zI, zI]
abbrev nY : TI := zT 34
abbrev nX : TI := zT 3
abbrev nW : TI := zT 4
abbrev nV : TI := zS [(0, 29), (1, 29), (2, 30)] 3 72 #[zN, zN, zN]
abbrev nU : TI := zT 69
abbrev nT : TI := zT 27
abbrev nR : TI := zT 28
abbrev nQ : TI := { kind := .int .i64, size := 1, bytes := 8, zero := some (.int .i64 0) }
abbrev nP : TI := zT 32
abbrev nO : TI := zT 29
abbrev nN : TI := zT 67
abbrev nM : TI := zT 62
abbrev nL : TI := zS [(0, 3), (1, 3), (2, 57), (3, 3)] 4 48 #[zI, zI, zN, zI]
abbrev nK : TI := zS [(0, 3), (1, 4)] 2 16 #[zI, .bool false]
abbrev nJ : TI := zS [(0, 3), (1, 3)] 2 16 #[zI, zI]
abbrev nI : TI := zT 129
abbrev nH : TI := zS [(0, 9), (1, 3), (2, 3)] 3 32 #[.string ⟨#[]⟩, zI, zI]
abbrev nG : TI := zA 2 3 2 16 #[zI, zI]
abbrev nF : TI := zT 83
abbrev nE : TI := zS [(0, 3), (1, 3), (2, 3)] 3 24 #[zI, zI, zI]
abbrev nD : TI := zT 86
abbrev nC : TI := zS [(0, 9), (1, 3), (2, 3), (3, 3), (4, 3), (5, 3), (6, 87)] 7 80 #[.string ⟨#[]⟩, zI, zI, zI, zI, zI, zN]
abbrev nB : TI := zS [(0, 29), (1, 3)] 2 32 #[zN, zI]
abbrev nA : TI := zS [(0, 9), (1, 3), (2, 3), (3, 3), (4, 3)] 5 48 #[.string ⟨#[]⟩, zI, zI, zI, zI]
abbrev fK : TI := { kind := .other, size := 1, bytes := 8, zero := some (.pointer none) }
abbrev fJ : TI := zS [(0, 27), (6, 32), (9, 29), (10, 29), (11, 28), (12, 28), (13, 28)] 14 304 #[zN, zN, zN, zN, zI, zI, zN, zN, zN, zN, zN, zN, zN, zN]
abbrev fI : TI := zS [(0, 3), (1, 3), (2, 3)] 3 24 #[zI, zI, zI]
abbrev fH : TI := zT 5
abbrev fG : TI := zA 4 22 4 96 #[zN, zN, zN, zN]
abbrev fF : TI := zA 24 3 24 192 #[zI, zI, zI, zI, zI, zI, zI, zI, zI, zI, zI, zI, zI, zI, zI, zI, zI, zI, zI, zI, zI, zI, zI, zI]
abbrev fE : TI := zS [(0, 173), (24, 173)] 48 384 #[zI, zI, zI, zI, zI, zI, zI, zI, zI, zI, zI, zI, zI, zI, zI, zI, zI, zI, zI, zI, zI, zI, zI, zI, zI, zI, zI, zI, zI, zI, zI, zI, zI, zI, zI, zI, zI, zI, zI, zI, zI, zI, zI, zI, zI, zI, zI, zI]
abbrev fD : TI := zA 64 3 64 512 #[zI, zI, zI, zI, zI, zI, zI, zI, zI, zI, zI, zI, zI, zI, zI, zI, zI, zI, zI, zI, zI, zI, zI, zI, zI, zI, zI, zI, zI, zI, zI, zI, zI, zI, zI, zI, zI, zI, zI, zI, zI, zI, zI, zI, zI, zI, zI, zI, zI, zI, zI, zI, zI, zI, zI, zI, zI, zI, zI, zI, zI, zI, zI, zI]
abbrev fC : TI := zS [(0, 3), (1, 178), (65, 178)] 129 1032 #[zI, zI, zI, zI, zI, zI, zI, zI, zI, zI, zI, zI, zI, zI, zI, zI, zI, zI, zI, zI, zI, zI, zI, zI, zI, zI, zI, zI, zI, zI, zI, zI, zI, zI, zI, zI, zI, zI, zI, zI, zI, zI, zI, zI, zI, zI, zI, zI, zI, zI, zI, zI, zI, zI, zI, zI, zI, zI, zI, zI, zI, zI, zI, zI, zI, zI, zI, zI, zI, zI, zI, zI, zI, zI, zI, zI, zI, zI, zI, zI, zI, zI, zI, zI, zI, zI, zI, zI, zI, zI, zI, zI, zI, zI, zI, zI, zI, zI, zI, zI, zI, zI, zI, zI, zI, zI, zI, zI, zI, zI, zI, zI, zI, zI, zI, zI, zI, zI, zI, zI, zI, zI, zI, zI, zI, zI, zI, zI, zI]
def Ou : TT := (.node (.node (.node (.node (.node (.node .nil 3 qF .nil) 4 qE .nil) 5 qD (.node (.node .nil 9 qC .nil) 22 oD .nil)) 23 oC (.node (.node (.node .nil 24 oB .nil) 25 oA .nil) 27 nZ (.node .nil 28 nY .nil))) 29 nX (.node (.node (.node (.node .nil 30 nW .nil) 32 nV .nil) 34 nU (.node (.node .nil 44 nT .nil) 45 nR .nil)) 46 nQ (.node (.node (.node .nil 49 nP .nil) 50 nO .nil) 57 nN (.node .nil 58 nM .nil)))) 62 nL (.node (.node (.node (.node (.node .nil 67 nK .nil) 69 nJ .nil) 75 nI (.node (.node .nil 82 nH .nil) 83 nG .nil)) 84 nF (.node (.node (.node .nil 86 nE .nil) 87 nD .nil) 89 nC (.node .nil 91 nB .nil))) 95 nA (.node (.node (.node (.node .nil 101 fK .nil) 106 fJ .nil) 129 fI (.node .nil 130 fH .nil)) 132 fG (.node (.node (.node .nil 173 fF .nil) 175 fE .nil) 178 fD (.node .nil 180 fC .nil)))))
theorem Zs : cE Tryz.prog Ou :=
 ⟨⟨⟨⟨⟨⟨trivial, by kernel_rfl, trivial⟩, by kernel_rfl, trivial⟩, by kernel_rfl, ⟨⟨trivial, by kernel_rfl, trivial⟩, by kernel_rfl, trivial⟩⟩, by kernel_rfl, ⟨⟨⟨trivial, by kernel_rfl, trivial⟩, by kernel_rfl, trivial⟩, by kernel_rfl, ⟨trivial, by kernel_rfl, trivial⟩⟩⟩, by kernel_rfl, ⟨⟨⟨⟨trivial, by kernel_rfl, trivial⟩, by kernel_rfl, trivial⟩, by kernel_rfl, ⟨⟨trivial, by kernel_rfl, trivial⟩, by kernel_rfl, trivial⟩⟩, by kernel_rfl, ⟨⟨⟨trivial, by kernel_rfl, trivial⟩, by kernel_rfl, trivial⟩, by kernel_rfl, ⟨trivial, by kernel_rfl, trivial⟩⟩⟩⟩, by kernel_rfl, ⟨⟨⟨⟨⟨trivial, by kernel_rfl, trivial⟩, by kernel_rfl, trivial⟩, by kernel_rfl, ⟨⟨trivial, by kernel_rfl, trivial⟩, by kernel_rfl, trivial⟩⟩, by kernel_rfl, ⟨⟨⟨trivial, by kernel_rfl, trivial⟩, by kernel_rfl, trivial⟩, by kernel_rfl, ⟨trivial, by kernel_rfl, trivial⟩⟩⟩, by kernel_rfl, ⟨⟨⟨⟨trivial, by kernel_rfl, trivial⟩, by kernel_rfl, trivial⟩, by kernel_rfl, ⟨trivial, by kernel_rfl, trivial⟩⟩, by kernel_rfl, ⟨⟨⟨trivial, by kernel_rfl, trivial⟩, by kernel_rfl, trivial⟩, by kernel_rfl, ⟨trivial, by kernel_rfl, trivial⟩⟩⟩⟩⟩
theorem bQ : Tryz.prog.follows .mixedOrders = true := by kernel_rfl
theorem bP (t : Nat) (i : TI) (h : Qa Ou t = some i) : Je Tryz.prog t = some i := Sy Zs h
noncomputable def Ak : Env := ⟨Tryz.prog, Qa Ou, bP, bQ⟩
theorem Tq : Bld Ak 27 [(0, 1), (1, 1), (2, 1), (3, 1), (4, 1), (5, 1)] [.N, .N, .N, .N, .V 0, .V 0] := ⟨⟨_, _, _, I7⟩⟩
theorem I6 : Bld Ak 32 [(0, 1), (1, 1), (2, 1)] [.N, .N, .N] := ⟨⟨_, _, _, I7⟩⟩
theorem bU : Bld Ak 62 [(0, 1), (1, 1), (2, 1), (3, 1)] [.V 0, .V 0, .N, .V 0] := ⟨⟨_, _, _, I7⟩⟩
theorem I4 : Bld Ak 67 [(0, 1), (1, 1)] [.V 0, .v (.bool false)] := ⟨⟨_, _, _, I7⟩⟩
theorem D9 : Bld Ak 69 [(0, 1), (1, 1)] [.V 0, .V 0] := ⟨⟨_, _, _, I7⟩⟩
theorem Ha : Bld Ak 82 [(0, 1), (1, 1), (2, 1)] [.v (.string ⟨#[]⟩), .V 0, .V 0] := ⟨⟨_, _, _, I7⟩⟩
theorem F4 : Bld Ak 86 [(0, 1), (1, 1), (2, 1)] [.V 0, .V 0, .V 0] := ⟨⟨_, _, _, I7⟩⟩
theorem Tp : Bld Ak 89 [(0, 1), (1, 1), (2, 1), (3, 1), (4, 1), (5, 1), (6, 1)] [.v (.string ⟨#[]⟩), .V 0, .V 0, .V 0, .V 0, .V 0, .N] := ⟨⟨_, _, _, I7⟩⟩
theorem bT : Bld Ak 91 [(0, 1), (1, 1)] [.N, .V 0] := ⟨⟨_, _, _, I7⟩⟩
theorem Tn : Bld Ak 95 [(0, 1), (1, 1), (2, 1), (3, 1), (4, 1)] [.v (.string ⟨#[]⟩), .V 0, .V 0, .V 0, .V 0] := ⟨⟨_, _, _, I7⟩⟩
theorem Zu : Bld Ak 106 [(0, 6), (6, 3), (9, 1), (10, 1), (11, 1), (12, 1), (13, 1)] [.N, .N, .N, .N, .V 0, .V 0, .N, .N, .N, .N, .N, .N, .N, .N] := ⟨⟨_, _, _, I7⟩⟩
theorem Pu : Bld Ak 129 [(0, 1), (1, 1), (2, 1)] [.V 0, .V 0, .V 0] := ⟨⟨_, _, _, I7⟩⟩
theorem Zt : Bld Ak 180 [(0, 1), (1, 64), (65, 64)] [.V 0, .V 0, .V 0, .V 0, .V 0, .V 0, .V 0, .V 0, .V 0, .V 0, .V 0, .V 0, .V 0, .V 0, .V 0, .V 0, .V 0, .V 0, .V 0, .V 0, .V 0, .V 0, .V 0, .V 0, .V 0, .V 0, .V 0, .V 0, .V 0, .V 0, .V 0, .V 0, .V 0, .V 0, .V 0, .V 0, .V 0, .V 0, .V 0, .V 0, .V 0, .V 0, .V 0, .V 0, .V 0, .V 0, .V 0, .V 0, .V 0, .V 0, .V 0, .V 0, .V 0, .V 0, .V 0, .V 0, .V 0, .V 0, .V 0, .V 0, .V 0, .V 0, .V 0, .V 0, .V 0, .V 0, .V 0, .V 0, .V 0, .V 0, .V 0, .V 0, .V 0, .V 0, .V 0, .V 0, .V 0, .V 0, .V 0, .V 0, .V 0, .V 0, .V 0, .V 0, .V 0, .V 0, .V 0, .V 0, .V 0, .V 0, .V 0, .V 0, .V 0, .V 0, .V 0, .V 0, .V 0, .V 0, .V 0, .V 0, .V 0, .V 0, .V 0, .V 0, .V 0, .V 0, .V 0, .V 0, .V 0, .V 0, .V 0, .V 0, .V 0, .V 0, .V 0, .V 0, .V 0, .V 0, .V 0, .V 0, .V 0, .V 0, .V 0, .V 0, .V 0, .V 0, .V 0, .V 0, .V 0] := ⟨⟨_, _, _, I7⟩⟩
theorem fL : jV Tryz.prog 69 = true := by kernel_rfl
theorem bS : jV Tryz.prog 129 = true := by kernel_rfl
theorem bR : kA Tryz.prog 173 = true := by kernel_rfl
set_option linter.unusedVariables false
set_option linter.unusedSimpArgs false
structure Point where
 At : Int
 Height : Int
 Limit : Int
 deriving DecidableEq
def Cy (x : Point) : List T := [.V x.At, .V x.Height, .V x.Limit]
structure Segment where
 Name : ByteArray
 From : Int
 To : Int
 Capacity : Int
 Resist : Int
 Wave : Int
 Points : List Point
 deriving DecidableEq
def Ar (x : Segment) : List T := [.v (.string x.Name), .V x.From, .V x.To, .V x.Capacity, .V x.Resist, .V x.Wave, .list 3 (x.Points.map Cy)]
structure Port where
 Name : ByteArray
 Node : Int
 Pressure : Int
 deriving DecidableEq
def Ca (x : Port) : List T := [.v (.string x.Name), .V x.Node, .V x.Pressure]
structure Station where
 Name : ByteArray
 Node : Int
 Head : Int
 Fall : Int
 Suction : Int
 deriving DecidableEq
def Bu (x : Station) : List T := [.v (.string x.Name), .V x.Node, .V x.Head, .V x.Fall, .V x.Suction]
structure Network where
 Nodes : List ByteArray
 Segments : List Segment
 Ports : List Port
 Stations : List Station
 Vapour : Int
 Settle : Int
 deriving DecidableEq
def Ad (x : Network) : List T := [.list 1 (x.Nodes.map rS), .list 7 (x.Segments.map Ar), .list 3 (x.Ports.map Ca), .list 5 (x.Stations.map Bu), .V x.Vapour, .V x.Settle]
structure Plan where
 Rates : Li
 Ports : Li
 Pumps : List Bool
 deriving DecidableEq
def Aq (x : Plan) : List T := [.list 1 (x.Rates.map rI), .list 1 (x.Ports.map rI), .list 1 (x.Pumps.map rB)]
structure flow_streams where
 come : Arr Int 24
 leave : Arr Int 24
 deriving DecidableEq
def An (x : flow_streams) : List T := x.come.l.map cI ++ (x.leave.l.map cI ++ [])
structure KS where
 L_ : Li
 At : Int
 deriving DecidableEq
def Bi (x : KS) : List T := [.list 1 (x.L_.map rI), .V x.At]
def Bn (a : Segment) (b : Int) : (Int × Int) := if decide (b < 0) = true then (a.To, a.From) else (a.From, a.To)
def Nv (a : Int) (b : Int) : Bool := (decide (a ≥ (wr (0 - b))) && decide (a ≤ b))
def R1.J1 (a : Int) : Option Int := some a
def R1 (c : Int) (a : Int) : Option Int := if decide (a < 1) = true then some 0 else (jS c a).bind fun b => if decide (b < 0) = true then R1.J1 (wr (b + a)) else R1.J1 b
def Dl (a : Int) (b : Int) (c : Int) : Bool := (decide (a ≥ b) && decide (a ≤ c))
def Gp (a : Int) : Int := (max a (wr (0 - a)))
def Qw.J1 (a : Unit) : Option Int := some (-1)
def Qw.B2 (a : ByteArray) (b : Nat) (c : ByteArray) (d : Unit) : Option (Unit ⊕ (Int)) := if Xz a c = true then some ((.inr ((b : Int)))) else some (.inl ())
def Qw (a : List ByteArray) (b : ByteArray) : Option Int := (forL (Qw.B2 b) 0 a ()).bind fun c => Sum.elim (fun e => Qw.J1 ()) (fun d => some d) c
def R7.J1 (a : Unit) : Option Int := some (-1)
def R7.B2 (a : Int → Option Bool) (b : Nat) (c : Int) (e : Unit) : Option (Unit ⊕ (Int)) := (a c).bind fun d => if d = true then some ((.inr ((b : Int)))) else some (.inl ())
def R7 (a : Li) (b : Int → Option Bool) : Option Int := (forL (R7.B2 b) 0 a ()).bind fun c => Sum.elim (fun e => R7.J1 ()) (fun d => some d) c
def Jk (a : Li) (b : Int → Option Bool) : Option Bool := (R7 a b).bind fun c => some (decide (c ≥ 0))
def Qx.J1 (a : Unit) : Option Int := some (-1)
def Qx.B2 (a : ByteArray → Option Bool) (b : Nat) (c : ByteArray) (e : Unit) : Option (Unit ⊕ (Int)) := (a c).bind fun d => if d = true then some ((.inr ((b : Int)))) else some (.inl ())
def Qx (a : List ByteArray) (b : ByteArray → Option Bool) : Option Int := (forL (Qx.B2 b) 0 a ()).bind fun c => Sum.elim (fun e => Qx.J1 ()) (fun d => some d) c
def Rf (a : List ByteArray) (b : ByteArray → Option Bool) : Option Bool := (Qx a b).bind fun c => some (decide (c ≥ 0))
def Rz.J1 (a : Unit) : Option Int := some (-1)
def Rz.B2 (a : Segment → Option Bool) (b : Nat) (c : Segment) (e : Unit) : Option (Unit ⊕ (Int)) := (a c).bind fun d => if d = true then some ((.inr ((b : Int)))) else some (.inl ())
def Rz (a : List Segment) (b : Segment → Option Bool) : Option Int := (forL (Rz.B2 b) 0 a ()).bind fun c => Sum.elim (fun e => Rz.J1 ()) (fun d => some d) c
def Nn (a : List Segment) (b : Segment → Option Bool) : Option Bool := (Rz a b).bind fun c => some (decide (c ≥ 0))
def Q9.J1 (a : Unit) : Option Int := some (-1)
def Q9.B2 (a : Port → Option Bool) (b : Nat) (c : Port) (e : Unit) : Option (Unit ⊕ (Int)) := (a c).bind fun d => if d = true then some ((.inr ((b : Int)))) else some (.inl ())
def Q9 (a : List Port) (b : Port → Option Bool) : Option Int := (forL (Q9.B2 b) 0 a ()).bind fun c => Sum.elim (fun e => Q9.J1 ()) (fun d => some d) c
def Ru (a : List Port) (b : Port → Option Bool) : Option Bool := (Q9 a b).bind fun c => some (decide (c ≥ 0))
def Nl.J1 (a : Unit) : Option Int := some (-1)
def Nl.B2 (a : Station → Option Bool) (b : Nat) (c : Station) (e : Unit) : Option (Unit ⊕ (Int)) := (a c).bind fun d => if d = true then some ((.inr ((b : Int)))) else some (.inl ())
def Nl (a : List Station) (b : Station → Option Bool) : Option Int := (forL (Nl.B2 b) 0 a ()).bind fun c => Sum.elim (fun e => Nl.J1 ()) (fun d => some d) c
def Qv (a : List Station) (b : Station → Option Bool) : Option Bool := (Nl a b).bind fun c => some (decide (c ≥ 0))
def Ll (a : Segment) : Bool := (decide ((a.Points.length : Int) < 2) || decide ((a.Points.length : Int) > 8))
def Rb (a : Network) : Option Bool := if (decide ((a.Nodes.length : Int) < 1) || (decide ((a.Nodes.length : Int) > 24) || (decide ((a.Segments.length : Int) > 32) || (decide ((a.Ports.length : Int) > 24) || decide ((a.Stations.length : Int) > 12))))) = true then some false else (Nn a.Segments (fun x => some (Ll x))).bind fun b => some (!b)
def Hm.J1 (a : Li) : Option Li := some a
def Hm.J3 (a : Li × (List Bool) × Int) : Option ((Li × (List Bool) × Int) ⊕ (Li)) := some (.inl (a.1, a.2.1, wr (a.2.2 + 1)))
def Hm.J4 (a : Li × (List Bool) × Int) (b : Nat × Bool) (d : Unit) : Option ((Li × (List Bool) × Int) ⊕ (Li)) := (Cp a.1 ([a.2.2] : Li)).bind fun c => Hm.J3 (c, (a.2.1.set b.1 true), (-1))
def Hm.J6 (a : Li × (List Bool) × Int) (b : Bool) : Option (Unit ⊕ ((Li × (List Bool) × Int))) := if b = true then some ((.inr ((a.1, a.2.1, a.2.2)))) else some (.inl ())
def Hm.B5 (d : Plan) (a : Li × (List Bool) × Int) (e : Nat) (c : Segment) (g : Unit) : Option (Unit ⊕ ((Li × (List Bool) × Int))) := (ix d.Rates (e : Int)).bind fun b => if (b.2 != 0) = true then if (((Bn c b.2).2) == a.2.2) = true then (ix a.2.1 ((Bn c b.2).1)).bind fun f => Hm.J6 a (!f.2) else Hm.J6 a false else Hm.J6 a false
def Hm.B2 (b : Network) (d : Plan) (a : Li × (List Bool) × Int) : Option ((Li × (List Bool) × Int) ⊕ (Li)) := if decide (a.2.2 < (b.Nodes.length : Int)) = true then (ix a.2.1 a.2.2).bind fun c => if c.2 = true then Hm.J3 (a.1, a.2.1, a.2.2) else (forL (Hm.B5 d a) 0 b.Segments ()).bind fun e => Sum.elim (fun g => Hm.J4 a c ()) (fun f => Hm.J3 f) e else some ((.inr (a.1)))
def Hm (a : Network) (b : Plan) : Option Li := (X1 (a.Nodes.length : Int) false).bind fun c => (C4 (Hm.B2 a b) Ek ([], c, 0)).bind fun d => Hm.J1 d
def Jq.J1 (a : Unit) : Int := 2
def Jq (a : Int) : Int := if (decide (a ≥ 97) && decide (a ≤ 122)) = true then 1 else if (decide (a ≥ 48) && decide (a ≤ 57)) = true then Jq.J1 () else if (a == 45) = true then Jq.J1 () else 0
def Ip.J2 (a : Unit) : Option Bool := some true
def Ip.B3 (a : ByteArray) (b : Nat) (d : Unit) : Option (Unit ⊕ (Bool)) := (qM a (b : Int)).bind fun c => if ((Jq c.2) == 0) = true then some ((.inr (false))) else some (.inl ())
def Ip.J1 (a : ByteArray) (b : Bool) : Option Bool := if b = true then some false else (chk ((a.size : Int) ≤ 9223372036854775806)).bind fun e => (forI (Ip.B3 a) 0 ((a.size : Int).toNat) ()).bind fun c => Sum.elim (fun f => Ip.J2 ()) (fun d => some d) c
def Ip (a : ByteArray) : Option Bool := if decide ((a.size : Int) < 1) = true then Ip.J1 a true else if decide ((a.size : Int) > 12) = true then Ip.J1 a true else (qM a 0).bind fun b => Ip.J1 a ((Jq b.2) != 1)
def Oc.J3 (a : Network) (b : List ByteArray) (c : List ByteArray) (d : List ByteArray) : Option (Arr (List ByteArray) 4) := some (⟨[a.Nodes, b, c, d], rfl⟩ : Arr (List ByteArray) 4)
def Oc.B4 (d : Nat) (a : Station) (b : List ByteArray) : Option (List ByteArray) := (Cp b ([a.Name] : List ByteArray)).bind fun c => some c
def Oc.J2 (a : Network) (b : List ByteArray) (c : List ByteArray) : Option (Arr (List ByteArray) 4) := (forS Oc.B4 0 a.Stations []).bind fun d => Oc.J3 a b c d
def Oc.B5 (d : Nat) (a : Port) (b : List ByteArray) : Option (List ByteArray) := (Cp b ([a.Name] : List ByteArray)).bind fun c => some c
def Oc.J1 (a : Network) (b : List ByteArray) : Option (Arr (List ByteArray) 4) := (forS Oc.B5 0 a.Ports []).bind fun c => Oc.J2 a b c
def Oc.B6 (d : Nat) (a : Segment) (b : List ByteArray) : Option (List ByteArray) := (Cp b ([a.Name] : List ByteArray)).bind fun c => some c
def Oc (a : Network) : Option (Arr (List ByteArray) 4) := (forS Oc.B6 0 a.Segments []).bind fun b => Oc.J1 a b
def Jn (a : Station) (b : Station) : Bool := (a.Node == b.Node)
def Qs.J2 (a : Unit) : Option Bool := some false
def Qs.B3 (a : Network) (b : Nat) (c : Station) (e : Unit) : Option (Unit ⊕ (Bool)) := (Nl a.Stations (fun x => some (Jn x c))).bind fun d => if decide (d < (b : Int)) = true then some ((.inr (true))) else some (.inl ())
def Qs.J1 (a : Network) (d : Unit) : Option Bool := (forL (Qs.B3 a) 0 a.Stations ()).bind fun b => Sum.elim (fun e => Qs.J2 ()) (fun c => some c) b
def Qs.J5 (a : Unit) : Option (Unit ⊕ (Bool)) := some (.inl ())
def Qs.B6 (a : Nat × (List ByteArray)) (b : Nat) (c : ByteArray) (e : Unit) : Option (Unit ⊕ (Bool)) := (Qw a.2 c).bind fun d => if decide (d < (b : Int)) = true then some ((.inr (true))) else some (.inl ())
def Qs.B4 (b : Arr (List ByteArray) 4) (c : Nat) (f : Unit) : Option (Unit ⊕ (Bool)) := (ix b.l (c : Int)).bind fun a => (forL (Qs.B6 a) 0 a.2 ()).bind fun d => Sum.elim (fun g => Qs.J5 ()) (fun e => some ((.inr (e)))) d
def Qs (a : Network) : Option Bool := (Oc a).bind fun b => (forI (Qs.B4 b) 0 4 ()).bind fun c => Sum.elim (fun e => Qs.J1 a ()) (fun d => some d) c
def Lo (a : Int) (b : Network) : Bool := (decide (a < 0) || decide (a ≥ (b.Nodes.length : Int)))
def Rw.J3 (a : Network) (b : Li) : Option Bool := (Jk b (fun x => some (Lo x a))).bind fun c => some (!c)
def Rw.B4 (d : Nat) (a : Station) (b : Li) : Option Li := (Cp b ([a.Node] : Li)).bind fun c => some c
def Rw.J2 (a : Network) (b : Li) : Option Bool := (forS Rw.B4 0 a.Stations b).bind fun c => Rw.J3 a c
def Rw.B5 (d : Nat) (a : Port) (b : Li) : Option Li := (Cp b ([a.Node] : Li)).bind fun c => some c
def Rw.J1 (a : Network) (b : Li) : Option Bool := (forS Rw.B5 0 a.Ports b).bind fun c => Rw.J2 a c
def Rw.B6 (d : Nat) (a : Segment) (b : Li) : Option Li := (Cp b ([a.From, a.To] : Li)).bind fun c => some c
def Rw (a : Network) : Option Bool := (forS Rw.B6 0 a.Segments []).bind fun b => Rw.J1 a b
def Ly.J2 (a : Bool) : Option Bool := some a
def Ly.J1 (a : Segment) (d : Unit) : Option Bool := (ix a.Points 0).bind fun b => if (b.2.At == 0) = true then (ix a.Points (wr ((a.Points.length : Int) - 1))).bind fun c => Ly.J2 (c.2.At == a.Capacity) else Ly.J2 false
def Ly.J4 (a : Bool) : Option (Unit ⊕ (Bool)) := if a = true then some ((.inr (false))) else some (.inl ())
def Ly.B3 (c : Segment) (b : Nat) (a : Point) (e : Unit) : Option (Unit ⊕ (Bool)) := if (!(Dl a.Height (-500) 5000)) = true then Ly.J4 true else if (!(Dl a.Limit 0 100000000)) = true then Ly.J4 true else if decide ((b : Int) > 0) = true then (ix c.Points (wr ((b : Int) - 1))).bind fun d => Ly.J4 (decide (a.At ≤ d.2.At)) else Ly.J4 false
def Ly (a : Segment) : Option Bool := if ((a.From == a.To) || ((!(Dl a.Capacity 1 1000000)) || ((!(Dl a.Resist 0 1000)) || (!(Dl a.Wave 0 100000))))) = true then some false else (forL (Ly.B3 a) 0 a.Points ()).bind fun b => Sum.elim (fun d => Ly.J1 a ()) (fun c => some c) b
def Wh (a : Segment) : Option Bool := (Ly a).bind fun b => some (!b)
def Lp (a : Port) : Bool := (!(Dl a.Pressure 0 100000000))
def Lx (a : Station) : Bool := ((!(Dl a.Head 0 100000000)) || ((!(Dl a.Fall 0 100000)) || (!(Dl a.Suction 0 100000000))))
def W9 (a : Network) : Option Bool := (Nn a.Segments (fun x => Wh x)).bind fun b => if b = true then some false else (Ru a.Ports (fun x => some (Lp x))).bind fun c => if c = true then some false else (Qv a.Stations (fun x => some (Lx x))).bind fun d => if d = true then some false else some ((Dl a.Vapour (-100000) 100000000) && (Dl a.Settle 0 100))
def Wl (a : ByteArray) : Option Bool := (Ip a).bind fun b => some (!b)
def Fe.J1 (a : Network) (e : Unit) : Option Int := (Qs a).bind fun b => if b = true then some 7 else (Rw a).bind fun c => if (!c) = true then some 8 else (W9 a).bind fun d => if (!d) = true then some 9 else some 0
def Fe.B2 (a : Arr (List ByteArray) 4) (b : Nat) (e : Unit) : Option (Unit ⊕ (Int)) := (ix a.l (b : Int)).bind fun c => (Rf c.2 (fun x => Wl x)).bind fun d => if d = true then some ((.inr (3))) else some (.inl ())
def Fe (a : Network) : Option Int := (Rb a).bind fun b => if (!b) = true then some 4 else (Oc a).bind fun c => (forI (Fe.B2 c) 0 4 ()).bind fun d => Sum.elim (fun f => Fe.J1 a ()) (fun e => some e) d
def Ns.J2 (a : flow_streams) (b : Int × Int × Int) (c : Arr Int 24) : Option flow_streams := if decide (b.2.1 ≥ 0) = true then (ix a.come.l b.2.1).bind fun d => some (⟨(a.come.set d.1 (wr (d.2 + b.2.2))), c⟩ : flow_streams) else some (⟨a.come, c⟩ : flow_streams)
def Ns.J1 (a : flow_streams) (b : Int × Int × Int) : Option flow_streams := if decide (b.1 ≥ 0) = true then (ix a.leave.l b.1).bind fun c => Ns.J2 a b (a.leave.set c.1 (wr (c.2 + b.2.2))) else Ns.J2 a b a.leave
def Ns (b : flow_streams) (c : Int) (d : Int) (a : Int) : Option flow_streams := if decide (a < 0) = true then Ns.J1 b (d, c, wr (0 - a)) else Ns.J1 b (c, d, a)
def Qq.J2 (a : (Arr Int 24) × (Arr Int 24)) : Option flow_streams := some (⟨a.1, a.2⟩ : flow_streams)
def Qq.B3 (c : Plan) (d : Nat) (e : Port) (a : (Arr Int 24) × (Arr Int 24)) : Option ((Arr Int 24) × (Arr Int 24)) := (ix c.Ports (d : Int)).bind fun f => (Ns (⟨a.1, a.2⟩ : flow_streams) (-1) e.Node f.2).bind fun b => some (b.come, b.leave)
def Qq.J1 (c : Network) (d : Plan) (a : (Arr Int 24) × (Arr Int 24)) : Option flow_streams := (forS (Qq.B3 d) 0 c.Ports (a.1, a.2)).bind fun b => Qq.J2 (b.1, b.2)
def Qq.B4 (d : Plan) (e : Nat) (a : Segment) (b : (Arr Int 24) × (Arr Int 24)) : Option ((Arr Int 24) × (Arr Int 24)) := (ix d.Rates (e : Int)).bind fun f => (Ns (⟨b.1, b.2⟩ : flow_streams) a.From a.To f.2).bind fun c => some (c.come, c.leave)
def Qq (a : Network) (b : Plan) : Option flow_streams := (forS (Qq.B4 b) 0 a.Segments ((Ck 24 (0 : Int)), (Ck 24 (0 : Int)))).bind fun c => Qq.J1 a b (c.1, c.2)
def N1 (a : Int) : Bool := (!(Nv a 1000))
def Lt.J1 (a : Network) (b : Plan) (f : Unit) : Option Int := (Jk b.Ports (fun x => some (N1 x))).bind fun d => if d = true then some 1 else (Qq a b).bind fun c => if (!decide (c.come = c.leave)) = true then some 12 else (Hm a b).bind fun e => if decide ((e.length : Int) < (a.Nodes.length : Int)) = true then some 13 else some 0
def Lt.B2 (a : Plan) (b : Nat) (c : Segment) (e : Unit) : Option (Unit ⊕ (Int)) := (ix a.Rates (b : Int)).bind fun d => if (!(Nv d.2 (min 1000 c.Capacity))) = true then some ((.inr (1))) else some (.inl ())
def Lt (a : Network) (b : Plan) : Option Int := (Fe a).bind fun c => if (c != 0) = true then some c else if (((b.Rates.length : Int) != (a.Segments.length : Int)) || (((b.Ports.length : Int) != (a.Ports.length : Int)) || ((b.Pumps.length : Int) != (a.Stations.length : Int)))) = true then some 9 else (forL (Lt.B2 b) 0 a.Segments ()).bind fun d => Sum.elim (fun f => Lt.J1 a b ()) (fun e => some e) d
def Ww (a : Li) : Option KS := (Tu a 0 (min (a.length : Int) 2000)).bind fun b => some (⟨b, 0⟩ : KS)
def Wi (a : KS) : Option (Int × KS) := if decide (a.At ≥ (a.L_.length : Int)) = true then some (0, a) else (ix a.L_ (wr ((wr (a.At + 1)) - 1))).bind fun b => some (b.2, (⟨a.L_, wr (a.At + 1)⟩ : KS))
def C0 (b : KS) (c : Int) : Option (Int × KS) := (Wi b).bind fun a => (R1 a.1 c).bind fun d => some (d, a.2)
def G4 (a : ByteArray) (b : Int) : Option ByteArray := (We ([IntKind.u8.wrap (wr (97 + (b.tmod 26)))] : Li)).bind fun c => (jY a c).bind fun d => some d
def Dm (c : KS) (a : Li) : Option (Int × KS) := (C0 c (a.length : Int)).bind fun b => (ix a b.1).bind fun d => some (d.2, b.2)
def G2 (c : KS) (a : Int) (d : Int) : Option (Int × KS) := (C0 c (wr ((wr (d - a)) + 1))).bind fun b => some (wr (a + b.1), b.2)
def Nt.J2 (b : Li × Int × Int × Int) (e : ByteArray) (c : Int × KS) (f : Int × KS) (g : Int × KS) (h : Int × KS) (a : Li × Int × (List Point)) : Option (Segment × KS) := (G2 (⟨a.1, a.2.1⟩ : KS) (-5) 30).bind fun d => (Cp a.2.2 ([(⟨c.1, d.1, h.1⟩ : Point)] : List Point)).bind fun i => some ((⟨e, b.2.2.1, b.2.2.2, c.1, f.1, g.1, i⟩ : Segment), d.2)
def Nt.J4 (g : Int × KS) (h : Int × KS) (a : Li × Int × (List Point) × Int) (c : Li × Int × Bool) : Option ((Li × Int × (List Point) × Int) ⊕ ((Li × Int × (List Point)))) := if c.2.2 = true then (G2 (⟨c.1, c.2.1⟩ : KS) 1 40).bind fun b => if decide ((wr (a.2.2.2 + b.1)) ≥ g.1) = true then some ((.inr ((b.2.L_, b.2.At, a.2.2.1)))) else (G2 b.2 (-5) 60).bind fun e => (Dm e.2 ([1, 1, 10] : Li)).bind fun f => (C0 f.2 3).bind fun d => (Cp a.2.2.1 ([(⟨wr (a.2.2.2 + b.1), wr (e.1 * f.1), wr (h.1 - (wr (d.1 * 1000)))⟩ : Point)] : List Point)).bind fun i => some (.inl (d.2.L_, d.2.At, i, wr (a.2.2.2 + b.1))) else some ((.inr ((c.1, c.2.1, a.2.2.1))))
def Nt.B3 (c : Int × KS) (d : Int × KS) (a : Li × Int × (List Point) × Int) : Option ((Li × Int × (List Point) × Int) ⊕ ((Li × Int × (List Point)))) := if decide ((a.2.2.1.length : Int) < 7) = true then (C0 (⟨a.1, a.2.1⟩ : KS) 3).bind fun b => Nt.J4 c d a (b.2.L_, b.2.At, decide (b.1 > 0)) else Nt.J4 c d a (a.1, a.2.1, false)
def Nt.J1 (g : Int) (b : Li × Int × Int × Int) : Option (Segment × KS) := (G4 (⟨#[103]⟩ : ByteArray) g).bind fun h => (Dm (⟨b.1, b.2.1⟩ : KS) ([1, 2, 7, 20, 60, 200, 1000] : Li)).bind fun c => (Dm c.2 ([0, 1, 5, 1000] : Li)).bind fun e => (Dm e.2 ([0, 50, 1000, 100000] : Li)).bind fun f => (Dm f.2 ([1000000, 6000000, 100000000] : Li)).bind fun a => (G2 a.2 (-5) 30).bind fun d => (Cp [] ([(⟨0, d.1, a.1⟩ : Point)] : List Point)).bind fun i => (C4 (Nt.B3 c a) Ek (d.2.L_, d.2.At, i, 0)).bind fun j => Nt.J2 b h c e f a j
def Nt (e : KS) (b : Int) (c : Int) (d : Int) : Option (Segment × KS) := (C0 e 4).bind fun a => if (a.1 == 0) = true then Nt.J1 b (a.2.L_, a.2.At, d, c) else Nt.J1 b (a.2.L_, a.2.At, c, d)
def W8.J4 (b : Int × KS) (c : Int × KS) (d : Li × Int × (List ByteArray)) (e : Li × Int × (List Segment)) (a : Li × Int × (List Port) × (List Station)) : Option (Network × KS) := some ((⟨d.2.2, e.2.2, a.2.2.1, a.2.2.2, b.1, c.1⟩ : Network), (⟨a.1, a.2.1⟩ : KS))
def W8.J6 (b : Li × Int × (List Port) × (List Station) × Int) (a : Li × Int × (List Port) × (List Station)) : Option ((Li × Int × (List Port) × (List Station) × Int) ⊕ ((Li × Int × (List Port) × (List Station)))) := some (.inl (a.1, a.2.1, a.2.2.1, a.2.2.2, wr (b.2.2.2.2 + 1)))
def W8.J8 (a : Li × Int × (List Port) × (List Station) × Int) (d : Li × Int × (List Port)) (b : Li × Int × Bool) : Option ((Li × Int × (List Port) × (List Station) × Int) ⊕ ((Li × Int × (List Port) × (List Station)))) := if b.2.2 = true then (G4 (⟨#[115]⟩ : ByteArray) (a.2.2.2.1.length : Int)).bind fun g => (Dm (⟨b.1, b.2.1⟩ : KS) ([500000, 2000000, 0] : Li)).bind fun e => (Dm e.2 ([0, 200, 100000] : Li)).bind fun f => (Dm f.2 ([0, 100000, 400000] : Li)).bind fun c => (Cp a.2.2.2.1 ([(⟨g, a.2.2.2.2, e.1, f.1, c.1⟩ : Station)] : List Station)).bind fun h => W8.J6 a (c.2.L_, c.2.At, d.2.2, h) else W8.J6 a (b.1, b.2.1, d.2.2, a.2.2.2.1)
def W8.J7 (d : Li × Int × (List ByteArray)) (b : Li × Int × (List Port) × (List Station) × Int) (a : Li × Int × (List Port)) : Option ((Li × Int × (List Port) × (List Station) × Int) ⊕ ((Li × Int × (List Port) × (List Station)))) := if decide (b.2.2.2.2 < (wr ((d.2.2.length : Int) - 1))) = true then (C0 (⟨a.1, a.2.1⟩ : KS) 3).bind fun c => W8.J8 b a (c.2.L_, c.2.At, (c.1 == 0)) else W8.J8 b a (a.1, a.2.1, false)
def W8.J9 (d : Li × Int × (List ByteArray)) (a : Li × Int × (List Port) × (List Station) × Int) (b : Li × Int × Bool) : Option ((Li × Int × (List Port) × (List Station) × Int) ⊕ ((Li × Int × (List Port) × (List Station)))) := if b.2.2 = true then (G4 (⟨#[113]⟩ : ByteArray) (a.2.2.1.length : Int)).bind fun e => (Dm (⟨b.1, b.2.1⟩ : KS) ([300000, 1000000, 0, 5000000] : Li)).bind fun c => (Cp a.2.2.1 ([(⟨e, a.2.2.2.2, c.1⟩ : Port)] : List Port)).bind fun f => W8.J7 d a (c.2.L_, c.2.At, f) else W8.J7 d a (b.1, b.2.1, a.2.2.1)
def W8.B5 (b : Li × Int × (List ByteArray)) (a : Li × Int × (List Port) × (List Station) × Int) : Option ((Li × Int × (List Port) × (List Station) × Int) ⊕ ((Li × Int × (List Port) × (List Station)))) := if decide (a.2.2.2.2 ≤ (wr ((b.2.2.length : Int) - 1))) = true then if (a.2.2.2.2 == 0) = true then W8.J9 b a (a.1, a.2.1, true) else if (a.2.2.2.2 == (wr ((b.2.2.length : Int) - 1))) = true then W8.J9 b a (a.1, a.2.1, true) else (C0 (⟨a.1, a.2.1⟩ : KS) 2).bind fun c => W8.J9 b a (c.2.L_, c.2.At, (c.1 == 0)) else some ((.inr ((a.1, a.2.1, a.2.2.1, a.2.2.2.1))))
def W8.J3 (c : Int × KS) (d : Int × KS) (b : Li × Int × (List ByteArray)) (a : Li × Int × (List Segment)) : Option (Network × KS) := (C4 (W8.B5 b) Ek (a.1, a.2.1, [], [], 0)).bind fun e => W8.J4 c d b a e
def W8.B10 (d : Li × Int × (List ByteArray)) (a : Li × Int × (List Segment) × Int) : Option ((Li × Int × (List Segment) × Int) ⊕ ((Li × Int × (List Segment)))) := if decide (a.2.2.2 > 0) = true then (C0 (⟨a.1, a.2.1⟩ : KS) (wr ((d.2.2.length : Int) - 1))).bind fun b => (G2 b.2 (wr (b.1 + 1)) (wr ((d.2.2.length : Int) - 1))).bind fun e => (Nt e.2 (a.2.2.1.length : Int) b.1 e.1).bind fun c => (Cp a.2.2.1 ([c.1] : List Segment)).bind fun f => some (.inl (c.2.L_, c.2.At, f, wr (a.2.2.2 - 1))) else some ((.inr ((a.1, a.2.1, a.2.2.1))))
def W8.J2 (d : Int × KS) (e : Int × KS) (c : Li × Int × (List ByteArray)) (a : Li × Int × (List Segment)) : Option (Network × KS) := (C0 (⟨a.1, a.2.1⟩ : KS) 4).bind fun b => (C4 (W8.B10 c) Ek (b.2.L_, b.2.At, a.2.2, b.1)).bind fun f => W8.J3 d e c f
def W8.B11 (c : Li × Int × (List ByteArray)) (a : Li × Int × (List Segment) × Int) : Option ((Li × Int × (List Segment) × Int) ⊕ ((Li × Int × (List Segment)))) := if decide (a.2.2.2 < (wr ((c.2.2.length : Int) - 1))) = true then (Nt (⟨a.1, a.2.1⟩ : KS) (a.2.2.1.length : Int) a.2.2.2 (wr (a.2.2.2 + 1))).bind fun b => (Cp a.2.2.1 ([b.1] : List Segment)).bind fun d => some (.inl (b.2.L_, b.2.At, d, wr (a.2.2.2 + 1))) else some ((.inr ((a.1, a.2.1, a.2.2.1))))
def W8.J1 (b : Int × KS) (c : Int × KS) (a : Li × Int × (List ByteArray)) : Option (Network × KS) := (C4 (W8.B11 a) Ek (a.1, a.2.1, [], 0)).bind fun d => W8.J2 b c a d
def W8.B12 (b : Int × KS) (a : (List ByteArray) × Int) : Option (((List ByteArray) × Int) ⊕ ((Li × Int × (List ByteArray)))) := if decide (a.2 > 0) = true then (G4 (⟨#[110]⟩ : ByteArray) (a.1.length : Int)).bind fun c => (Cp a.1 ([c] : List ByteArray)).bind fun d => some (.inl (d, wr (a.2 - 1))) else some ((.inr ((b.2.L_, b.2.At, a.1))))
def W8 (d : KS) : Option (Network × KS) := (Dm d ([(-100000), 0, 50000] : Li)).bind fun a => (Dm a.2 ([0, 1, 5, 100] : Li)).bind fun b => (G2 b.2 2 6).bind fun c => (C4 (W8.B12 c) Ek ([], c.1)).bind fun e => W8.J1 a b e
def Ik (a : Int) : Int := (max a (wr (0 - a)))
def Wq.J2 (a : List Bool) (b : Li) (c : Li) : Option Plan := some (⟨b, c, a⟩ : Plan)
def Wq.B3 (d : Nat) (a : Int) (b : Li) : Option Li := (Cp b ([wr (0 - a)] : Li)).bind fun c => some c
def Wq.J1 (a : Plan) (b : List Bool) (c : Li) : Option Plan := (forS Wq.B3 0 a.Ports []).bind fun d => Wq.J2 b c d
def Wq.B4 (d : Nat) (a : Int) (b : Li) : Option Li := (Cp b ([wr (0 - a)] : Li)).bind fun c => some c
def Wq (a : Plan) : Option Plan := (Cp ([] : List Bool) a.Pumps).bind fun b => (forS Wq.B4 0 a.Rates []).bind fun c => Wq.J1 a b c
def Rk.J3 (b : Li × Int × (List Bool)) (c : Int × KS) (a : Li × Int × Li × Li) : Option (Plan × KS) := if (c.1 == 0) = true then (Wq (⟨a.2.2.1, a.2.2.2, b.2.2⟩ : Plan)).bind fun d => some (d, (⟨a.1, a.2.1⟩ : KS)) else some ((⟨a.2.2.1, a.2.2.2, b.2.2⟩ : Plan), (⟨a.1, a.2.1⟩ : KS))
def Rk.J5 (b : Li × Int × Li × Li × Int) (a : Li × Int × Li × Li) : Option ((Li × Int × Li × Li × Int) ⊕ ((Li × Int × Li × Li))) := some (.inl (a.1, a.2.1, a.2.2.1, a.2.2.2, wr (b.2.2.2.2 - 1)))
def Rk.J10 (a : Li) : Option Li := some a
def Rk.B9 (g : Network) (c : Int × KS) (h : Li × Int × Li × Int) (i : Nat) (a : Li) : Option Li := (ix h.2.2.1 (i : Int)).bind fun b => (ix g.Segments b.2).bind fun d => if decide (d.2.From < d.2.To) = true then (ix a b.2).bind fun e => Rk.J10 (a.set e.1 (wr (e.2 + c.1))) else (ix a b.2).bind fun f => Rk.J10 (a.set f.1 (wr (f.2 - c.1)))
def Rk.J8 (c : Network) (b : Li × Int × Li × Li × Int) (d : Int × KS) (a : Li × Int × Li × Int) (e : Li) : Option ((Li × Int × Li × Li × Int) ⊕ ((Li × Int × Li × Li))) := (forJ (Rk.B9 c d a) 0 a.2.2.1.length b.2.2.1).bind fun f => Rk.J5 b (a.1, a.2.1, f, e)
def Rk.J7 (e : Network) (a : Li × Int × Li × Li × Int) (f : Int × KS) (c : Int × KS) (b : Li × Int × Li × Int) : Option ((Li × Int × Li × Li × Int) ⊕ ((Li × Int × Li × Li))) := if decide (b.2.2.2 < 0) = true then Rk.J5 a (b.1, b.2.1, a.2.2.1, a.2.2.2.1) else (ix a.2.2.2.1 f.1).bind fun d => (ix a.2.2.2.1 b.2.2.2).bind fun g => (ix (a.2.2.2.1.set d.1 (wr (d.2 + c.1))) b.2.2.2).bind fun h => Rk.J8 e a c b ((a.2.2.2.1.set d.1 (wr (d.2 + c.1))).set h.1 (wr (g.2 - c.1)))
def Rk.J13 (g : Network) (b : Li × Int × Int × Li × Int) (a : Li × Int × Int) (c : Li) : Option ((Li × Int × Int × Li × Int) ⊕ ((Li × Int × Li × Int))) := if ((c.length : Int) == 0) = true then some ((.inr ((a.1, a.2.1, b.2.2.2.1, a.2.2)))) else (C0 (⟨a.1, a.2.1⟩ : KS) (c.length : Int)).bind fun d => (ix c d.1).bind fun e => (Cp b.2.2.2.1 ([e.2] : Li)).bind fun h => (ix g.Segments e.2).bind fun f => some (.inl (d.2.L_, d.2.At, wr ((wr (f.2.From + f.2.To)) - b.2.2.1), h, a.2.2))
def Rk.J15 (a : Li) : Option Li := some a
def Rk.J16 (b : Nat) (a : Li) (c : Bool) : Option Li := if c = true then (Cp a ([(b : Int)] : Li)).bind fun d => Rk.J15 d else Rk.J15 a
def Rk.B14 (e : Li × Int × Li × Li × Int) (f : Int × KS) (c : Li × Int × Int × Li × Int) (b : Nat) (a : Segment) (d : Li) : Option Li := if (a.From == c.2.2.1) = true then if decide ((wr ((wr (a.From + a.To)) - c.2.2.1)) > c.2.2.1) = true then (ix e.2.2.1 (b : Int)).bind fun g => Rk.J16 b d (decide ((wr ((Ik g.2) + f.1)) ≤ (min 1000 a.Capacity))) else Rk.J16 b d false else if (a.To == c.2.2.1) = true then if decide ((wr ((wr (a.From + a.To)) - c.2.2.1)) > c.2.2.1) = true then (ix e.2.2.1 (b : Int)).bind fun h => Rk.J16 b d (decide ((wr ((Ik h.2) + f.1)) ≤ (min 1000 a.Capacity))) else Rk.J16 b d false else Rk.J16 b d false
def Rk.J12 (c : Network) (d : Li × Int × Li × Li × Int) (e : Int × KS) (b : Li × Int × Int × Li × Int) (a : Li × Int × Int) : Option ((Li × Int × Int × Li × Int) ⊕ ((Li × Int × Li × Int))) := if decide (a.2.2 ≥ 0) = true then some ((.inr ((a.1, a.2.1, b.2.2.2.1, a.2.2)))) else (forS (Rk.B14 d e b) 0 c.Segments []).bind fun f => Rk.J13 c b a f
def Rk.J18 (a : Li × Int × Int) : Option (Li × Int × Int) := some (a.1, a.2.1, a.2.2)
def Rk.J19 (b : Nat) (c : Li × Int × Int) (a : Li × Int × Bool) : Option (Li × Int × Int) := if a.2.2 = true then Rk.J18 (a.1, a.2.1, (b : Int)) else Rk.J18 (a.1, a.2.1, c.2.2)
def Rk.B17 (f : Li × Int × Li × Li × Int) (g : Int × KS) (h : Int × KS) (d : Li × Int × Int × Li × Int) (b : Nat) (i : Port) (a : Li × Int × Int) : Option (Li × Int × Int) := if (i.Node == d.2.2.1) = true then if ((b : Int) != g.1) = true then (ix f.2.2.2.1 (b : Int)).bind fun e => if decide (e.2 ≤ 0) = true then if decide ((wr (e.2 - h.1)) ≥ (-1000)) = true then if decide ((d.2.2.2.1.length : Int) > 0) = true then (C0 (⟨a.1, a.2.1⟩ : KS) 2).bind fun c => Rk.J19 b a (c.2.L_, c.2.At, (c.1 == 0)) else Rk.J19 b a (a.1, a.2.1, false) else Rk.J19 b a (a.1, a.2.1, false) else Rk.J19 b a (a.1, a.2.1, false) else Rk.J19 b a (a.1, a.2.1, false) else Rk.J19 b a (a.1, a.2.1, false)
def Rk.B11 (c : Network) (d : Li × Int × Li × Li × Int) (f : Int × KS) (e : Int × KS) (a : Li × Int × Int × Li × Int) : Option ((Li × Int × Int × Li × Int) ⊕ ((Li × Int × Li × Int))) := if decide (a.2.2.2.2 < 0) = true then (forS (Rk.B17 d f e a) 0 c.Ports (a.1, a.2.1, a.2.2.2.2)).bind fun b => Rk.J12 c d e a (b.1, b.2.1, b.2.2) else some ((.inr ((a.1, a.2.1, a.2.2.2.1, a.2.2.2.2))))
def Rk.J6 (c : Network) (b : Li × Int × Li × Li × Int) (d : Int × KS) (e : Nat × Port) (a : Int × KS) (f : Bool) : Option ((Li × Int × Li × Li × Int) ⊕ ((Li × Int × Li × Li))) := if f = true then Rk.J5 b (a.2.L_, a.2.At, b.2.2.1, b.2.2.2.1) else (C4 (Rk.B11 c b d a) Ek (a.2.L_, a.2.At, e.2.Node, [], (-1))).bind fun g => Rk.J7 c b d a g
def Rk.B4 (c : Network) (a : Li × Int × Li × Li × Int) : Option ((Li × Int × Li × Li × Int) ⊕ ((Li × Int × Li × Li))) := if decide (a.2.2.2.2 > 0) = true then (C0 (⟨a.1, a.2.1⟩ : KS) (c.Ports.length : Int)).bind fun b => (ix c.Ports b.1).bind fun e => (Dm b.2 ([1, 5, 30, 300] : Li)).bind fun f => (G2 f.2 1 f.1).bind fun d => (ix a.2.2.2.1 b.1).bind fun g => if decide (g.2 < 0) = true then Rk.J6 c a b e d true else Rk.J6 c a b e d (decide ((wr (g.2 + d.1)) > 1000)) else some ((.inr ((a.1, a.2.1, a.2.2.1, a.2.2.2.1))))
def Rk.J2 (e : Network) (c : Li × Li) (a : Li × Int × (List Bool)) : Option (Plan × KS) := (C0 (⟨a.1, a.2.1⟩ : KS) 3).bind fun d => (C0 d.2 5).bind fun b => (C4 (Rk.B4 e) Ek (b.2.L_, b.2.At, c.1, c.2, b.1)).bind fun f => Rk.J3 a d f
def Rk.B20 (c : Network) (a : Li × Int × (List Bool) × Int) : Option ((Li × Int × (List Bool) × Int) ⊕ ((Li × Int × (List Bool)))) := if decide (a.2.2.2 < (c.Stations.length : Int)) = true then (C0 (⟨a.1, a.2.1⟩ : KS) 2).bind fun b => (Cp a.2.2.1 ([(b.1 == 0)] : List Bool)).bind fun d => some (.inl (b.2.L_, b.2.At, d, wr (a.2.2.2 + 1))) else some ((.inr ((a.1, a.2.1, a.2.2.1))))
def Rk.J1 (a : KS) (b : Network) (c : Li × Li) : Option (Plan × KS) := (C4 (Rk.B20 b) Ek (a.L_, a.At, [], 0)).bind fun d => Rk.J2 b c d
def Rk (b : KS) (a : Network) : Option (Plan × KS) := (X1 (a.Segments.length : Int) (0 : Int)).bind fun c => (X1 (a.Ports.length : Int) (0 : Int)).bind fun d => Rk.J1 b a (c, d)
structure Piece where
 Batch : Int
 Volume : Int
 deriving DecidableEq
def Aa (x : Piece) : List T := [.V x.Batch, .V x.Volume]
structure deal_table where
 n_ : Int
 rates : Arr Int 64
 counts : Arr Int 64
 deriving DecidableEq
def Bb (x : deal_table) : List T := [.V x.n_] ++ (x.rates.l.map cI ++ (x.counts.l.map cI ++ []))
structure advance_line where
 n_ : Network
 p : Plan
 feeds : Li
 order : Li
 fills : List (List Piece)
 given : List (List Piece)
 out_ : List (List Piece)
 deriving DecidableEq
def Rt.J1 (a : Li × Int × (List Piece)) : Option ((List Piece) × KS) := some (a.2.2, (⟨a.1, a.2.1⟩ : KS))
def Rt.J4 (a : Li × Int × Int × (List Piece)) (b : Int × KS) (c : Int) (d : Int) : Option ((Li × Int × Int × (List Piece)) ⊕ ((Li × Int × (List Piece)))) := (Cp a.2.2.2 ([(⟨d, (min c a.2.2.1)⟩ : Piece)] : List Piece)).bind fun e => some (.inl (b.2.L_, b.2.At, wr (a.2.2.1 - (min c a.2.2.1)), e))
def Rt.J5 (g : Int) (a : Li × Int × Int × (List Piece)) (e : Int × KS) (b : Int × KS) (c : Int) (h : Bool) : Option ((Li × Int × Int × (List Piece)) ⊕ ((Li × Int × (List Piece)))) := if h = true then (jS (wr (e.1 + 1)) g).bind fun f => (ix a.2.2.2 (wr ((a.2.2.2.length : Int) - 1))).bind fun d => if (d.2.Batch == f) = true then some (.inl (b.2.L_, b.2.At, wr (a.2.2.1 - (min c a.2.2.1)), (a.2.2.2.set d.1 (⟨d.2.Batch, wr (d.2.Volume + (min c a.2.2.1))⟩ : Piece)))) else Rt.J4 a b c f else Rt.J4 a b c e.1
def Rt.J3 (c : Int) (a : Li × Int × Int × (List Piece)) (b : Int × KS) (d : Int × KS) (e : Int) : Option ((Li × Int × Int × (List Piece)) ⊕ ((Li × Int × (List Piece)))) := if decide ((a.2.2.2.length : Int) > 0) = true then (ix a.2.2.2 (wr ((a.2.2.2.length : Int) - 1))).bind fun f => Rt.J5 c a b d e (f.2.Batch == b.1) else Rt.J5 c a b d e false
def Rt.B2 (b : Int) (a : Li × Int × Int × (List Piece)) : Option ((Li × Int × Int × (List Piece)) ⊕ ((Li × Int × (List Piece)))) := if (decide (a.2.2.1 > 0) && decide ((a.2.2.2.length : Int) < 12)) = true then (C0 (⟨a.1, a.2.1⟩ : KS) b).bind fun c => (G2 c.2 1 (max 1 (wr ((wr (a.2.2.1 * 2)).tdiv 3)))).bind fun d => if ((a.2.2.2.length : Int) == 11) = true then Rt.J3 b a c d a.2.2.1 else Rt.J3 b a c d d.1 else some ((.inr ((a.1, a.2.1, a.2.2.2))))
def Rt (a : KS) (b : Int) (c : Int) : Option ((List Piece) × KS) := (C4 (Rt.B2 c) Ek (a.L_, a.At, b, [])).bind fun d => Rt.J1 d
def R4.J1 (a : Li × Int × (List (List Piece))) : Option ((List (List Piece)) × KS) := some (a.2.2, (⟨a.1, a.2.1⟩ : KS))
def R4.B2 (c : Int) (f : Nat) (d : Segment) (a : Li × Int × (List (List Piece))) : Option (Li × Int × (List (List Piece))) := (Rt (⟨a.1, a.2.1⟩ : KS) d.Capacity c).bind fun b => (Cp a.2.2 ([b.1] : List (List Piece))).bind fun e => some (b.2.L_, b.2.At, e)
def R4 (b : KS) (c : Network) (d : Int) : Option ((List (List Piece)) × KS) := (forS (R4.B2 d) 0 c.Segments (b.L_, b.At, [])).bind fun a => R4.J1 (a.1, a.2.1, a.2.2)
def Qz.J1 (a : Li × Int × Li) : Option (Li × KS) := some (a.2.2, (⟨a.1, a.2.1⟩ : KS))
def Qz.B2 (c : Network) (d : Int) (a : Li × Int × Li × Int) : Option ((Li × Int × Li × Int) ⊕ ((Li × Int × Li))) := if decide (a.2.2.2 < (c.Ports.length : Int)) = true then (C0 (⟨a.1, a.2.1⟩ : KS) d).bind fun b => (Cp a.2.2.1 ([b.1] : Li)).bind fun e => some (.inl (b.2.L_, b.2.At, e, wr (a.2.2.2 + 1))) else some ((.inr ((a.1, a.2.1, a.2.2.1))))
def Qz (a : KS) (b : Network) (c : Int) : Option (Li × KS) := (C4 (Qz.B2 b c) Ek (a.L_, a.At, [], 0)).bind fun d => Qz.J1 d
def Wg (a : Network) (b : Plan) : Option (Li × Int) := (Lt a b).bind fun c => if (c != 0) = true then some ([], c) else (Hm a b).bind fun d => some (d, 0)
def Ho (a : Piece) : Bool := (decide (a.Batch ≥ 0) && (decide (a.Batch < 1000) && (decide (a.Volume ≥ 0) && decide (a.Volume ≤ 1000000))))
def Jo.J1 (a : Int) : Option Int := some a
def Jo.B2 (c : Nat) (a : Piece) (b : Int) : Option Int := some (wr (b + a.Volume))
def Jo (a : List Piece) : Option Int := (forS Jo.B2 0 a 0).bind fun b => Jo.J1 b
def G1.J1 (a : List Piece) (c : Unit) : Option Bool := (Jo a).bind fun b => some (decide (b ≤ 1000000))
def G1.J3 (a : Bool) : Option (Unit ⊕ (Bool)) := if a = true then some ((.inr (false))) else some (.inl ())
def G1.B2 (c : List Piece) (b : Nat) (a : Piece) (e : Unit) : Option (Unit ⊕ (Bool)) := if (!(Ho a)) = true then G1.J3 true else if (a.Volume == 0) = true then G1.J3 true else if decide ((b : Int) > 0) = true then (ix c (wr ((b : Int) - 1))).bind fun d => G1.J3 (d.2.Batch == a.Batch) else G1.J3 false
def G1 (a : List Piece) : Option Bool := if decide ((a.length : Int) > 200) = true then some false else (forL (G1.B2 a) 0 a ()).bind fun b => Sum.elim (fun d => G1.J1 a ()) (fun c => some c) b
def Wk (a : List Piece) : Option Int := (G1 a).bind fun b => if (!b) = true then some 0 else (Jo a).bind fun c => some c
def Rg.J1 (a : Unit) : Option Int := some (-1)
def Rg.B2 (a : Piece → Option Bool) (b : Nat) (c : Piece) (e : Unit) : Option (Unit ⊕ (Int)) := (a c).bind fun d => if d = true then some ((.inr ((b : Int)))) else some (.inl ())
def Rg (a : List Piece) (b : Piece → Option Bool) : Option Int := (forL (Rg.B2 b) 0 a ()).bind fun c => Sum.elim (fun e => Rg.J1 ()) (fun d => some d) c
def Nm (a : List Piece) (b : Piece → Option Bool) : Option Bool := (Rg a b).bind fun c => some (decide (c ≥ 0))
def Ij (a : Piece) : Bool := (!(Ho a))
def Lk.J1 (a : List Piece) : Option (List Piece) := some a
def Lk.J3 (a : List Piece) : Option (List Piece) := some a
def Lk.J4 (c : Piece) (a : List Piece) (d : Bool) : Option (List Piece) := if d = true then (ix a (wr ((a.length : Int) - 1))).bind fun b => Lk.J3 (a.set b.1 (⟨b.2.Batch, wr (b.2.Volume + c.Volume)⟩ : Piece)) else (Cp a ([c] : List Piece)).bind fun e => Lk.J3 e
def Lk.B2 (d : Nat) (a : Piece) (b : List Piece) : Option (List Piece) := if ((a.Batch == a.Batch) && ((a.Volume == 0) && true)) = true then Lk.J3 b else if decide ((b.length : Int) > 0) = true then (ix b (wr ((b.length : Int) - 1))).bind fun c => Lk.J4 a b (c.2.Batch == a.Batch) else Lk.J4 a b false
def Lk (a : List Piece) : Option (List Piece) := (forS Lk.B2 0 a []).bind fun b => Lk.J1 b
def Jp.J1 (a : List Piece) (b : Bool) : Option (List Piece) := if b = true then some [] else (Lk a).bind fun c => some c
def Jp (a : List Piece) : Option (List Piece) := if decide ((a.length : Int) > 400) = true then Jp.J1 a true else (Nm a (fun x => some (Ij x))).bind fun b => Jp.J1 a b
def Hp (a : List Piece) : Option (List Piece) := Cp [] a
def Oa.J1 (a : (List Piece) × (List Piece)) : Option ((List Piece) × (List Piece)) := (Lk a.1).bind fun b => (Lk a.2).bind fun c => some (b, c)
def Oa.B2 (c : Nat) (d : Piece) (a : Int × (List Piece) × (List Piece)) : Option (Int × (List Piece) × (List Piece)) := (ix a.2.1 (c : Int)).bind fun b => (ix (a.2.1.set b.1 (⟨b.2.Batch, (min d.Volume a.1)⟩ : Piece)) (c : Int)).bind fun e => (ix a.2.2 (c : Int)).bind fun f => some (wr (a.1 - e.2.Volume), (a.2.1.set b.1 (⟨b.2.Batch, (min d.Volume a.1)⟩ : Piece)), (a.2.2.set f.1 (⟨f.2.Batch, wr (d.Volume - e.2.Volume)⟩ : Piece)))
def Oa (a : List Piece) (c : Int) : Option ((List Piece) × (List Piece)) := (Hp a).bind fun d => (Hp a).bind fun e => (forS Oa.B2 0 a (c, d, e)).bind fun b => Oa.J1 (b.2.1, b.2.2)
def Lz.J2 (a : (List Piece) × (List Piece)) : Option ((List Piece) × (List Piece) × Int) := if (decide ((a.1.length : Int) > 200) || decide ((a.2.length : Int) > 200)) = true then some ([], [], 4) else some (a.1, a.2, 0)
def Lz.J1 (a : List Piece) (b : List Piece) (e : Bool) (f : Bool) : Option ((List Piece) × (List Piece) × Int) := if f = true then some ([], [], 9) else if e = true then (Hp a).bind fun g => (Cp g b).bind fun h => (Jo b).bind fun i => (Oa h i).bind fun c => Lz.J2 (c.2, c.1) else (Hp b).bind fun j => (Cp j a).bind fun k => (Jo a).bind fun l => (Oa k l).bind fun d => Lz.J2 (d.1, d.2)
def Lz (a : List Piece) (b : List Piece) (c : Bool) : Option ((List Piece) × (List Piece) × Int) := (G1 a).bind fun d => if (!d) = true then Lz.J1 a b c true else (G1 b).bind fun e => Lz.J1 a b c (!e)
def R8.J1 (a : Int) (b : Int) : Option Int := if (b == 0) = true then some 9 else if (decide (a < 0) || decide (a > b)) = true then some 1 else some 0
def R8.B2 (c : Nat) (a : Int) (b : Int) : Option (Int ⊕ (Int)) := if (decide (a < 0) || decide (a > 1000)) = true then some ((.inr (1))) else some (.inl (wr (b + a)))
def R8 (a : Li) (b : Int) : Option Int := if decide ((a.length : Int) > 64) = true then some 4 else (forL R8.B2 0 a 0).bind fun c => Sum.elim (fun d => R8.J1 b d) (fun e => some e) c
def aP (a : Li) : Option deal_table := (jX (Ck 64 (0 : Int)) a).bind fun b => some (⟨(a.length : Int), b, (Ck 64 (0 : Int))⟩ : deal_table)
def Ro.J1 (a : deal_table) (b : Int) : Option (Int × deal_table) := some (b, a)
def Ro.J3 (a : Int) : Option Int := some a
def Ro.J4 (a : Nat) (b : Int) (c : Bool) : Option Int := if c = true then Ro.J3 (a : Int) else Ro.J3 b
def Ro.B2 (c : deal_table) (b : Nat) (a : Int) : Option Int := (ix c.rates.l (b : Int)).bind fun d => if decide (d.2 > 0) = true then if decide (a < 0) = true then Ro.J4 b a true else (ix c.counts.l (b : Int)).bind fun e => (ix c.rates.l a).bind fun f => (ix c.counts.l a).bind fun g => Ro.J4 b a (decide ((wr ((wr (e.2 + 1)) * f.2)) < (wr ((wr (g.2 + 1)) * d.2)))) else Ro.J4 b a false
def Ro (a : deal_table) : Option (Int × deal_table) := (chk (a.n_ ≤ 9223372036854775806)).bind fun c => (forJ (Ro.B2 a) 0 a.n_.toNat (-1)).bind fun b => Ro.J1 a b
def Wr.J3 (a : List (List Piece)) : Option ((List (List Piece)) × Int) := some (a, 0)
def Wr.B4 (c : Nat) (a : List (List Piece)) : Option (List (List Piece)) := (ix a (c : Int)).bind fun b => (Jp b.2).bind fun d => some (a.set b.1 d)
def Wr.J2 (a : List (List Piece)) : Option ((List (List Piece)) × Int) := (forJ Wr.B4 0 a.length a).bind fun b => Wr.J3 b
def Wr.J6 (a : (List (List Piece)) × Int × (Arr Int 64) × (Arr Int 64)) : Option ((List (List Piece)) × Int × (Arr Int 64) × (Arr Int 64)) := some (a.1, a.2.1, a.2.2.1, a.2.2.2)
def Wr.B8 (d : (List (List Piece)) × Int × (Arr Int 64) × (Arr Int 64)) (e : Nat × Piece) (f : Int × (Arr Int 64) × (Arr Int 64)) (a : Nat) (b : List (List Piece)) : Option (List (List Piece)) := (ix b (a : Int)).bind fun c => (ix f.2.2.l (a : Int)).bind fun g => (ix d.2.2.2.l (a : Int)).bind fun h => (Cp c.2 ([(⟨e.2.Batch, wr (g.2 - h.2)⟩ : Piece)] : List Piece)).bind fun i => some (b.set c.1 i)
def Wr.J7 (b : (List (List Piece)) × Int × (Arr Int 64) × (Arr Int 64)) (c : Nat × Piece) (a : Int × (Arr Int 64) × (Arr Int 64)) : Option ((List (List Piece)) × Int × (Arr Int 64) × (Arr Int 64)) := (forJ (Wr.B8 b c a) 0 b.1.length b.1).bind fun d => Wr.J6 (d, a.1, a.2.1, a.2.2)
def Wr.B9 (d : Nat) (b : Int × (Arr Int 64) × (Arr Int 64)) : Option (Int × (Arr Int 64) × (Arr Int 64)) := (Ro (⟨b.1, b.2.1, b.2.2⟩ : deal_table)).bind fun a => (ix a.2.counts.l a.1).bind fun c => some (a.2.n_, a.2.rates, (a.2.counts.set c.1 (wr (c.2 + 1))))
def Wr.B5 (d : List Piece) (e : Nat) (a : (List (List Piece)) × Int × (Arr Int 64) × (Arr Int 64)) : Option ((List (List Piece)) × Int × (Arr Int 64) × (Arr Int 64)) := (ix d (e : Int)).bind fun b => (chk (b.2.Volume ≤ 9223372036854775806)).bind fun f => (forJ Wr.B9 0 b.2.Volume.toNat (a.2.1, a.2.2.1, a.2.2.2)).bind fun c => Wr.J7 a b (c.1, c.2.1, c.2.2)
def Wr.J1 (a : Li) (c : List Piece) (e : Int) : Option ((List (List Piece)) × Int) := (R8 a e).bind fun d => if (d != 0) = true then some ([], d) else (X1 (a.length : Int) ([] : List Piece)).bind fun f => (aP a).bind fun b => (forJ (Wr.B5 c) 0 c.length (f, b.n_, b.rates, b.counts)).bind fun g => Wr.J2 g.1
def Wr.B10 (a : List Piece) (b : Nat) (c : Int) : Option Int := (ix a (b : Int)).bind fun d => some (wr (c + d.2.Volume))
def Wr (b : List Piece) (c : Li) : Option ((List (List Piece)) × Int) := (Jp b).bind fun a => if (bif ((a.length : Int) == 0) then (decide ((b.length : Int) > 0) || decide ((a.length : Int) > 200)) else decide ((a.length : Int) > 200)) = true then some ([], 9) else (forJ (Wr.B10 a) 0 a.length 0).bind fun d => Wr.J1 c a d
def Qt.J1 (a : Unit) : Option Int := some (-1)
def Qt.B2 (a : (List Piece) → Option Bool) (b : Nat) (c : List Piece) (e : Unit) : Option (Unit ⊕ (Int)) := (a c).bind fun d => if d = true then some ((.inr ((b : Int)))) else some (.inl ())
def Qt (a : List (List Piece)) (b : (List Piece) → Option Bool) : Option Int := (forL (Qt.B2 b) 0 a ()).bind fun c => Sum.elim (fun e => Qt.J1 ()) (fun d => some d) c
def Ry (a : List (List Piece)) (b : (List Piece) → Option Bool) : Option Bool := (Qt a b).bind fun c => some (decide (c ≥ 0))
def N0 (a : List Piece) : Option Bool := (G1 a).bind fun b => some (!b)
def Hl.J2 (a : Unit) : Option Int := some 0
def Hl.B3 (a : Network) (b : Nat) (c : List Piece) (f : Unit) : Option (Unit ⊕ (Int)) := (Wk c).bind fun d => (ix a.Segments (b : Int)).bind fun e => if (d != e.2.Capacity) = true then some ((.inr (14))) else some (.inl ())
def Hl.J1 (a : Network) (b : List (List Piece)) (c : Bool) : Option Int := if c = true then some 9 else (forL (Hl.B3 a) 0 b ()).bind fun d => Sum.elim (fun f => Hl.J2 ()) (fun e => some e) d
def Hl (a : Network) (b : List (List Piece)) : Option Int := (Fe a).bind fun c => if (c != 0) = true then some c else if ((b.length : Int) != (a.Segments.length : Int)) = true then Hl.J1 a b true else (Ry b (fun x => N0 x)).bind fun d => Hl.J1 a b d
def Ny.J1 (a : List Piece) : Option (List Piece) := some a
def Ny.J3 (a : List Piece) : Option (List Piece) := some a
def Ny.J4 (c : Piece) (a : List Piece) (d : Bool) : Option (List Piece) := if d = true then (ix a (wr ((a.length : Int) - 1))).bind fun b => Ny.J3 (a.set b.1 (⟨b.2.Batch, wr (b.2.Volume + c.Volume)⟩ : Piece)) else (Cp a ([c] : List Piece)).bind fun e => Ny.J3 e
def Ny.B2 (d : Nat) (b : Piece) (a : List Piece) : Option (List Piece) := if decide ((a.length : Int) > 0) = true then (ix a (wr ((a.length : Int) - 1))).bind fun c => Ny.J4 b a (c.2.Batch == b.Batch) else Ny.J4 b a false
def Ny (a : List Piece) (b : List Piece) : Option (List Piece) := (forS Ny.B2 0 b a).bind fun c => Ny.J1 c
def Rd.J2 (a : (List Piece) × Int × Int) (b : List Piece) : Option (((List Piece) × Int × Int) ⊕ ((List Piece))) := some (.inl (b, wr (a.2.1 + 1), wr (a.2.2 - 1)))
def Rd.B1 (a : (List Piece) × Int × Int) : Option (((List Piece) × Int × Int) ⊕ ((List Piece))) := if decide (a.2.1 < a.2.2) = true then (ix a.1 a.2.2).bind fun c => (ix a.1 a.2.1).bind fun b => (ix (a.1.set b.1 c.2) a.2.2).bind fun d => Rd.J2 a ((a.1.set b.1 c.2).set d.1 b.2) else some ((.inr (a.1)))
def Rd (a : List Piece) : Option (List Piece) := (C4 Rd.B1 Ek (a, 0, wr ((a.length : Int) - 1))).bind fun b => some b
def Qy (a : List Piece) : Option (List Piece) := (Hp a).bind fun b => (Rd b).bind fun c => some c
def Jl (l : List Port) (q : Li) (a : Int) (b : Bool) : Option (List (Int × Int)) := forS (fun k x acc => (ix q (k : Int)).bind fun r => if ((x.Node != a) || ((r.2 == 0) || (decide (r.2 > 0) != b))) = true then some acc else some (acc ++ [((k : Int), max r.2 (wr (0 - r.2)))])) 0 l []
def Ji (l : List Segment) (q : Li) (a : Int) (b : Bool) : Option (List (Int × Int)) := forS (fun k x acc => (ix q (k : Int)).bind fun r => if (((r.2 == 0) || (b && ((Bn x r.2).2 != a))) || (!b && ((Bn x r.2).1 != a))) = true then some acc else some (acc ++ [((k : Int), max r.2 (wr (0 - r.2)))])) 0 l []
def Qr.B1 (b : advance_line) (f : Nat) (a : Int × Int) (c : List Piece) : Option (List Piece) := (ix b.feeds a.1).bind fun d => (Ny c ([(⟨d.2, a.2⟩ : Piece)] : List Piece)).bind fun e => some e
def Qr.B2 (a : advance_line) (f : Nat) (b : Int × Int) (c : List Piece) : Option (List Piece) := (ix a.given b.1).bind fun d => (Ny c d.2).bind fun e => some e
def Qr (a : advance_line) (b : Int) : Option ((List Piece) × ((List (List Piece)) × (List (List Piece)) × (List (List Piece)))) := (Jl a.n_.Ports a.p.Ports b true).bind fun c => (forS (Qr.B1 a) 0 c []).bind fun d => (Ji a.n_.Segments a.p.Rates b true).bind fun e => (forS (Qr.B2 a) 0 e d).bind fun f => some (f, (a.fills, a.given, a.out_))
def Ra.J2 (a : advance_line) (b : Int) (c : Nat × (List Piece)) (d : (List Piece) × (List Piece) × Int) (e : List Piece) : Option (Int × ((List (List Piece)) × (List (List Piece)) × (List (List Piece)))) := (ix a.given b).bind fun f => some (0, ((a.fills.set c.1 d.1), (a.given.set f.1 e), a.out_))
def Ra.J1 (a : advance_line) (c : Int) (e : Nat × Int) (f : List Piece) : Option (Int × ((List (List Piece)) × (List (List Piece)) × (List (List Piece)))) := (ix a.fills c).bind fun d => (Lz d.2 f (decide (e.2 < 0))).bind fun b => if (b.2.2 != 0) = true then some (4, (a.fills, a.given, a.out_)) else if (!(decide (e.2 < 0))) = true then (Qy b.2.1).bind fun g => Ra.J2 a c d b g else Ra.J2 a c d b b.2.1
def Ra (a : advance_line) (b : Int) (d : List Piece) : Option (Int × ((List (List Piece)) × (List (List Piece)) × (List (List Piece)))) := (ix a.p.Rates b).bind fun c => if (!(decide (c.2 < 0))) = true then (Qy d).bind fun e => Ra.J1 a b c e else Ra.J1 a b c d
def Wx.B1 (d : Nat) (a : Int × Int) (b : Li) : Option Li := (Cp b ([a.2] : Li)).bind fun c => some c
def Wx.B2 (d : Nat) (a : Int × Int) (b : Li) : Option Li := (Cp b ([a.2] : Li)).bind fun c => some c
def Wx.B3 (b : (List (List Piece)) × Int) (f : Nat) (c : Int × Int) (a : (List (List Piece)) × Int) : Option ((List (List Piece)) × Int) := (ix b.1 a.2).bind fun d => (ix a.1 c.1).bind fun e => some ((a.1.set e.1 d.2), wr (a.2 + 1))
def Wx.B4 (c : advance_line) (d : (List (List Piece)) × Int) (g : Nat) (e : Int × Int) (b : (List (List Piece)) × (List (List Piece)) × (List (List Piece)) × Int) : Option (((List (List Piece)) × (List (List Piece)) × (List (List Piece)) × Int) ⊕ ((Int × ((List (List Piece)) × (List (List Piece)) × (List (List Piece)))))) := (ix d.1 b.2.2.2).bind fun f => (Ra (⟨c.n_, c.p, c.feeds, c.order, b.1, b.2.1, b.2.2.1⟩ : advance_line) e.1 f.2).bind fun a => if (a.1 != 0) = true then some ((.inr ((a.1, (a.2.1, a.2.2.1, a.2.2.2))))) else some (.inl (a.2.1, a.2.2.1, a.2.2.2, wr (b.2.2.2 + 1)))
def Wx (b : advance_line) (c : Int) : Option (Int × ((List (List Piece)) × (List (List Piece)) × (List (List Piece)))) := (Qr b c).bind fun a => if ((a.1.length : Int) == 0) = true then some (0, (a.2.1, a.2.2.1, a.2.2.2)) else if decide ((a.1.length : Int) > 200) = true then some (4, (a.2.1, a.2.2.1, a.2.2.2)) else (Jl b.n_.Ports b.p.Ports c false).bind fun g => (forS Wx.B1 0 g []).bind fun h => (Ji b.n_.Segments b.p.Rates c false).bind fun i => (forS Wx.B2 0 i h).bind fun j => (Wr a.1 j).bind fun d => if (d.2 != 0) = true then some (d.2, (a.2.1, a.2.2.1, a.2.2.2)) else (Jl b.n_.Ports b.p.Ports c false).bind fun k => (forS (Wx.B3 d) 0 k (a.2.2.2, 0)).bind fun f => (Ji b.n_.Segments b.p.Rates c false).bind fun l => (forL (Wx.B4 b d) 0 l (a.2.1, a.2.2.1, f.1, f.2)).bind fun m => Sum.elim (fun e => some (0, (e.1, e.2.1, e.2.2.1))) (fun n => some n) m
def Nx.J2 (a : (List (List Piece)) × (List (List Piece)) × (List (List Piece))) : Option (Int × ((List (List Piece)) × (List (List Piece)) × (List (List Piece)))) := some (0, (a.1, a.2.1, a.2.2))
def Nx.B3 (b : advance_line) (e : Nat) (d : Int) (c : (List (List Piece)) × (List (List Piece)) × (List (List Piece))) : Option (((List (List Piece)) × (List (List Piece)) × (List (List Piece))) ⊕ ((Int × ((List (List Piece)) × (List (List Piece)) × (List (List Piece)))))) := (Wx (⟨b.n_, b.p, b.feeds, b.order, c.1, c.2.1, c.2.2⟩ : advance_line) d).bind fun a => if (a.1 != 0) = true then some ((.inr ((a.1, (a.2.1, a.2.2.1, a.2.2.2))))) else some (.inl (a.2.1, a.2.2.1, a.2.2.2))
def Nx.J1 (a : advance_line) (c : (List (List Piece)) × (List (List Piece))) : Option (Int × ((List (List Piece)) × (List (List Piece)) × (List (List Piece)))) := (forL (Nx.B3 a) 0 a.order (a.fills, c.1, c.2)).bind fun d => Sum.elim (fun b => Nx.J2 (b.1, b.2.1, b.2.2)) (fun e => some e) d
def Nx (a : advance_line) : Option (Int × ((List (List Piece)) × (List (List Piece)) × (List (List Piece)))) := (X1 (a.n_.Segments.length : Int) ([] : List Piece)).bind fun b => (X1 (a.n_.Ports.length : Int) ([] : List Piece)).bind fun c => Nx.J1 a (b, c)
def G3 (a : Int) : Bool := (decide (a < 0) || decide (a ≥ 1000))
def Nr.J2 (a : Network) (b : Plan) (c : Li) (d : Li × Int) (e : List (List Piece)) : Option ((Option advance_line) × Int) := some ((some (⟨a, b, c, d.1, e, [], []⟩ : advance_line)), 0)
def Nr.B3 (e : Nat) (a : List Piece) (b : List (List Piece)) : Option (List (List Piece)) := (Hp a).bind fun c => (Cp b ([c] : List (List Piece))).bind fun d => some d
def Nr.J1 (a : Network) (b : List (List Piece)) (c : Plan) (d : Li) (e : Li × Int) (f : Bool) : Option ((Option advance_line) × Int) := if f = true then some (none, 9) else (forS Nr.B3 0 b []).bind fun g => Nr.J2 a c d e g
def Nr (a : Network) (d : List (List Piece)) (e : Plan) (b : Li) : Option ((Option advance_line) × Int) := (Hl a d).bind fun f => if (f != 0) = true then some (none, f) else (Wg a e).bind fun c => if (c.2 != 0) = true then some (none, c.2) else if ((b.length : Int) != (a.Ports.length : Int)) = true then Nr.J1 a d e b c true else (Jk b (fun x => some (G3 x))).bind fun g => Nr.J1 a d e b c g
def Jt (c : Network) (d : List (List Piece)) (e : Plan) (f : Li) : Option ((List (List Piece)) × (List (List Piece)) × Int) := (Nr c d e f).bind fun a => tL a.1 (if (a.2 != 0) = true then some ([], [], a.2) else none) fun g => if (a.2 != 0) = true then some ([], [], a.2) else (Nx g).bind fun b => if (b.1 != 0) = true then some ([], [], b.1) else some (b.2.1, b.2.2.2, 0)
def Lq.J1 (a : Int) : Option Int := some a
def Lq.B2 (c : Nat) (a : Piece) (b : Int) : Option Int := some (wr (b + a.Volume))
def Lq (a : List Piece) : Option Int := (forS Lq.B2 0 a 0).bind fun b => Lq.J1 b
def Jm.J1 (a : List Piece) : Option (List Piece) := some a
def Jm.J3 (a : List Piece) : Option (List Piece) := some a
def Jm.J4 (c : Piece) (a : List Piece) (d : Bool) : Option (List Piece) := if d = true then (ix a (wr ((a.length : Int) - 1))).bind fun b => Jm.J3 (a.set b.1 (⟨b.2.Batch, wr (b.2.Volume + c.Volume)⟩ : Piece)) else (Cp a ([c] : List Piece)).bind fun e => Jm.J3 e
def Jm.B2 (d : Nat) (b : Piece) (a : List Piece) : Option (List Piece) := if (b.Volume == 0) = true then Jm.J3 a else if decide ((a.length : Int) > 0) = true then (ix a (wr ((a.length : Int) - 1))).bind fun c => Jm.J4 b a (c.2.Batch == b.Batch) else Jm.J4 b a false
def Jm (a : List Piece) : Option (List Piece) := (forS Jm.B2 0 a []).bind fun b => Jm.J1 b
def Co (a : Int) (b : Int) (c : Int) : Bool := (decide (a ≥ b) && decide (a ≤ c))
def Rn.J3 (a : Network) (b : List ByteArray) (c : List ByteArray) (d : List ByteArray) : Option (Arr (List ByteArray) 4) := some (⟨[a.Nodes, b, c, d], rfl⟩ : Arr (List ByteArray) 4)
def Rn.B4 (d : Nat) (a : Station) (b : List ByteArray) : Option (List ByteArray) := (Cp b ([a.Name] : List ByteArray)).bind fun c => some c
def Rn.J2 (a : Network) (b : List ByteArray) (c : List ByteArray) : Option (Arr (List ByteArray) 4) := (forS Rn.B4 0 a.Stations []).bind fun d => Rn.J3 a b c d
def Rn.B5 (d : Nat) (a : Port) (b : List ByteArray) : Option (List ByteArray) := (Cp b ([a.Name] : List ByteArray)).bind fun c => some c
def Rn.J1 (a : Network) (b : List ByteArray) : Option (Arr (List ByteArray) 4) := (forS Rn.B5 0 a.Ports []).bind fun c => Rn.J2 a b c
def Rn.B6 (d : Nat) (a : Segment) (b : List ByteArray) : Option (List ByteArray) := (Cp b ([a.Name] : List ByteArray)).bind fun c => some c
def Rn (a : Network) : Option (Arr (List ByteArray) 4) := (forS Rn.B6 0 a.Segments []).bind fun b => Rn.J1 a b
def Rm.J2 (a : Unit) : Option Bool := some true
def Rm.J4 (a : Int) (b : Bool) : Option (Int ⊕ (Bool ⊕ Unit)) := if b = true then some ((.inr (.inl (false)))) else some (.inl (wr (a + 1)))
def Rm.B3 (c : ByteArray) (b : Int) : Option (Int ⊕ (Bool ⊕ Unit)) := if decide (b < (c.size : Int)) = true then (qM c b).bind fun a => if decide (a.2 < 97) = true then if decide (a.2 < 48) = true then Rm.J4 b (a.2 != 45) else if decide (a.2 > 57) = true then Rm.J4 b (a.2 != 45) else Rm.J4 b false else if decide (a.2 > 122) = true then if decide (a.2 < 48) = true then Rm.J4 b (a.2 != 45) else if decide (a.2 > 57) = true then Rm.J4 b (a.2 != 45) else Rm.J4 b false else Rm.J4 b false else some ((.inr (.inr (()))))
def Rm.J1 (a : ByteArray) (b : Bool) : Option Bool := if b = true then some false else (C4 (Rm.B3 a) Ek 0).bind fun c => Sum.elim (fun d => some d) (fun e => Rm.J2 e) c
def Rm (a : ByteArray) : Option Bool := if decide ((a.size : Int) < 1) = true then Rm.J1 a true else if decide ((a.size : Int) > 12) = true then Rm.J1 a true else (qM a 0).bind fun b => if decide (b.2 < 97) = true then Rm.J1 a true else Rm.J1 a (decide (b.2 > 122))
def Sa.J1 (a : Unit) : Option Bool := some false
def Sa.J3 (a : Unit) : Option (Unit ⊕ (Bool)) := some (.inl ())
def Sa.B4 (b : List ByteArray) (c : Nat) (d : ByteArray) (a : Int) : Option (Int ⊕ (Bool ⊕ Unit)) := if decide (a < (c : Int)) = true then (ix b a).bind fun e => if Xz d e.2 = true then some ((.inr (.inl (true)))) else some (.inl (wr (a + 1))) else some ((.inr (.inr (()))))
def Sa.B2 (a : List ByteArray) (b : Nat) (c : ByteArray) (g : Unit) : Option (Unit ⊕ (Bool)) := (C4 (Sa.B4 a b c) Ek 0).bind fun d => Sum.elim (fun e => some ((.inr (e)))) (fun f => Sa.J3 f) d
def Sa (a : List ByteArray) : Option Bool := (forL (Sa.B2 a) 0 a ()).bind fun b => Sum.elim (fun d => Sa.J1 ()) (fun c => some c) b
def Rl.J2 (a : Unit) : Option Bool := some true
def Rl.J4 (a : Bool) : Option (Unit ⊕ (Bool)) := if a = true then some ((.inr (false))) else some (.inl ())
def Rl.B3 (c : Segment) (b : Nat) (a : Point) (e : Unit) : Option (Unit ⊕ (Bool)) := if decide ((b : Int) > 0) = true then (ix c.Points (wr ((b : Int) - 1))).bind fun d => if decide (a.At ≤ d.2.At) = true then Rl.J4 true else if (!(Co a.Height (-500) 5000)) = true then Rl.J4 true else Rl.J4 (!(Co a.Limit 0 100000000)) else if (!(Co a.Height (-500) 5000)) = true then Rl.J4 true else Rl.J4 (!(Co a.Limit 0 100000000))
def Rl.J1 (a : Segment) (b : Bool) : Option Bool := if b = true then some false else (forL (Rl.B3 a) 0 a.Points ()).bind fun c => Sum.elim (fun e => Rl.J2 ()) (fun d => some d) c
def Rl (a : Segment) : Option Bool := if (a.From == a.To) = true then Rl.J1 a true else if (!(Co a.Capacity 1 1000000)) = true then Rl.J1 a true else if (!(Co a.Resist 0 1000)) = true then Rl.J1 a true else if (!(Co a.Wave 0 100000)) = true then Rl.J1 a true else (ix a.Points 0).bind fun b => if (b.2.At != 0) = true then Rl.J1 a true else (ix a.Points (wr ((a.Points.length : Int) - 1))).bind fun c => Rl.J1 a (c.2.At != a.Capacity)
def Hq.J10 (a : Network) (b : Unit) : Option Int := if ((!(Co a.Vapour (-100000) 100000000)) || (!(Co a.Settle 0 100))) = true then some 9 else some 0
def Hq.B11 (b : Nat) (a : Station) (c : Unit) : Option (Unit ⊕ (Int)) := if ((!(Co a.Head 0 100000000)) || ((!(Co a.Fall 0 100000)) || (!(Co a.Suction 0 100000000)))) = true then some ((.inr (9))) else some (.inl ())
def Hq.J9 (a : Network) (d : Unit) : Option Int := (forL Hq.B11 0 a.Stations ()).bind fun b => Sum.elim (fun e => Hq.J10 a ()) (fun c => some c) b
def Hq.B12 (b : Nat) (a : Port) (c : Unit) : Option (Unit ⊕ (Int)) := if (!(Co a.Pressure 0 100000000)) = true then some ((.inr (9))) else some (.inl ())
def Hq.J8 (a : Network) (d : Unit) : Option Int := (forL Hq.B12 0 a.Ports ()).bind fun b => Sum.elim (fun e => Hq.J9 a ()) (fun c => some c) b
def Hq.B13 (c : Nat) (a : Segment) (d : Unit) : Option (Unit ⊕ (Int)) := (Rl a).bind fun b => if (!b) = true then some ((.inr (9))) else some (.inl ())
def Hq.J7 (a : Network) (d : Unit) : Option Int := (forL Hq.B13 0 a.Segments ()).bind fun b => Sum.elim (fun e => Hq.J8 a ()) (fun c => some c) b
def Hq.B14 (a : Network) (c : Nat) (b : Station) (d : Unit) : Option (Unit ⊕ (Int)) := if (!(Co b.Node 0 (wr ((a.Nodes.length : Int) - 1)))) = true then some ((.inr (8))) else some (.inl ())
def Hq.J6 (a : Network) (d : Unit) : Option Int := (forL (Hq.B14 a) 0 a.Stations ()).bind fun b => Sum.elim (fun e => Hq.J7 a ()) (fun c => some c) b
def Hq.B15 (a : Network) (c : Nat) (b : Port) (d : Unit) : Option (Unit ⊕ (Int)) := if (!(Co b.Node 0 (wr ((a.Nodes.length : Int) - 1)))) = true then some ((.inr (8))) else some (.inl ())
def Hq.J5 (a : Network) (d : Unit) : Option Int := (forL (Hq.B15 a) 0 a.Ports ()).bind fun b => Sum.elim (fun e => Hq.J6 a ()) (fun c => some c) b
def Hq.B16 (a : Network) (c : Nat) (b : Segment) (d : Unit) : Option (Unit ⊕ (Int)) := if ((!(Co b.From 0 (wr ((a.Nodes.length : Int) - 1)))) || (!(Co b.To 0 (wr ((a.Nodes.length : Int) - 1))))) = true then some ((.inr (8))) else some (.inl ())
def Hq.J4 (a : Network) (d : Unit) : Option Int := (forL (Hq.B16 a) 0 a.Segments ()).bind fun b => Sum.elim (fun e => Hq.J5 a ()) (fun c => some c) b
def Hq.J18 (a : Unit) : Option (Unit ⊕ (Int)) := some (.inl ())
def Hq.B19 (b : Network) (c : Nat) (d : Station) (a : Int) : Option (Int ⊕ (Int ⊕ Unit)) := if decide (a < (c : Int)) = true then (ix b.Stations a).bind fun e => if (d.Node == e.2.Node) = true then some ((.inr (.inl (7)))) else some (.inl (wr (a + 1))) else some ((.inr (.inr (()))))
def Hq.B17 (a : Network) (b : Nat) (c : Station) (g : Unit) : Option (Unit ⊕ (Int)) := (C4 (Hq.B19 a b c) Ek 0).bind fun d => Sum.elim (fun e => some ((.inr (e)))) (fun f => Hq.J18 f) d
def Hq.J3 (a : Network) (d : Unit) : Option Int := (forL (Hq.B17 a) 0 a.Stations ()).bind fun b => Sum.elim (fun e => Hq.J4 a ()) (fun c => some c) b
def Hq.B20 (a : Arr (List ByteArray) 4) (b : Nat) (e : Unit) : Option (Unit ⊕ (Int)) := (ix a.l (b : Int)).bind fun c => (Sa c.2).bind fun d => if d = true then some ((.inr (7))) else some (.inl ())
def Hq.J2 (a : Network) (b : Arr (List ByteArray) 4) (e : Unit) : Option Int := (forI (Hq.B20 b) 0 4 ()).bind fun c => Sum.elim (fun f => Hq.J3 a ()) (fun d => some d) c
def Hq.J22 (a : Unit) : Option (Unit ⊕ (Int)) := some (.inl ())
def Hq.B23 (c : Nat) (a : ByteArray) (d : Unit) : Option (Unit ⊕ (Int)) := (Rm a).bind fun b => if (!b) = true then some ((.inr (3))) else some (.inl ())
def Hq.B21 (a : Arr (List ByteArray) 4) (b : Nat) (f : Unit) : Option (Unit ⊕ (Int)) := (ix a.l (b : Int)).bind fun c => (forL Hq.B23 0 c.2 ()).bind fun d => Sum.elim (fun g => Hq.J22 ()) (fun e => some ((.inr (e)))) d
def Hq.J1 (a : Network) (e : Unit) : Option Int := (Rn a).bind fun b => (forI (Hq.B21 b) 0 4 ()).bind fun c => Sum.elim (fun f => Hq.J2 a b ()) (fun d => some d) c
def Hq.B24 (b : Nat) (a : Segment) (c : Unit) : Option (Unit ⊕ (Int)) := if (!(Co (a.Points.length : Int) 2 8)) = true then some ((.inr (4))) else some (.inl ())
def Hq (a : Network) : Option Int := if ((!(Co (a.Nodes.length : Int) 1 24)) || (decide ((a.Segments.length : Int) > 32) || (decide ((a.Ports.length : Int) > 24) || decide ((a.Stations.length : Int) > 12)))) = true then some 4 else (forL Hq.B24 0 a.Segments ()).bind fun b => Sum.elim (fun d => Hq.J1 a ()) (fun c => some c) b
def Im (a : Segment) (b : Int) : (Int × Int) := if decide (b < 0) = true then (a.To, a.From) else (a.From, a.To)
def Rs.J2 (a : Int × Int) : Option (Int × Int) := some (a.1, a.2)
def Rs.J4 (a : Int × Int) : Option (Int × Int) := some (a.1, a.2)
def Rs.B3 (c : Plan) (d : Int) (e : Nat) (f : Port) (a : Int × Int) : Option (Int × Int) := if (f.Node == d) = true then (ix c.Ports (e : Int)).bind fun b => Rs.J4 (wr (a.1 + (max 0 b.2)), wr (a.2 + (max 0 (wr (0 - b.2))))) else Rs.J4 (a.1, a.2)
def Rs.J1 (c : Network) (d : Plan) (e : Int) (a : Int × Int) : Option (Int × Int) := (forS (Rs.B3 d e) 0 c.Ports (a.1, a.2)).bind fun b => Rs.J2 (b.1, b.2)
def Rs.J6 (a : Int × Int) : Option (Int × Int) := some (a.1, a.2)
def Rs.J7 (d : Int) (e : Segment) (a : Int × Int) (b : Nat × Int) (c : Int) : Option (Int × Int) := if (((Im e b.2).2) == d) = true then Rs.J6 (wr (a.1 + (Gp b.2)), c) else Rs.J6 (a.1, c)
def Rs.B5 (e : Plan) (c : Int) (f : Nat) (d : Segment) (a : Int × Int) : Option (Int × Int) := (ix e.Rates (f : Int)).bind fun b => if (b.2 == 0) = true then Rs.J6 (a.1, a.2) else if (((Im d b.2).1) == c) = true then Rs.J7 c d a b (wr (a.2 + (Gp b.2))) else Rs.J7 c d a b a.2
def Rs (a : Network) (b : Plan) (c : Int) : Option (Int × Int) := (forS (Rs.B5 b c) 0 a.Segments (0, 0)).bind fun d => Rs.J1 a b c (d.1, d.2)
def Ju.J2 (a : Li × (List Bool)) (b : Int) : Option ((Li × (List Bool)) ⊕ (Li)) := if decide (b < 0) = true then some ((.inr (a.1))) else (Cp a.1 ([b] : Li)).bind fun c => (ix a.2 b).bind fun d => some (.inl (c, (a.2.set d.1 true)))
def Ju.J4 (a : Int) : Option Int := some a
def Ju.J5 (b : Nat) (a : Int) (c : Bool) : Option Int := if (c && decide (a < 0)) = true then Ju.J4 (b : Int) else Ju.J4 a
def Ju.J7 (a : Bool) : Option Bool := some a
def Ju.B6 (d : Plan) (e : Li × (List Bool)) (f : Nat) (g : Nat) (b : Segment) (c : Bool) : Option Bool := (ix d.Rates (g : Int)).bind fun a => if (a.2 != 0) = true then if c = true then if (((Im b a.2).2) != (f : Int)) = true then Ju.J7 true else (ix e.2 ((Im b a.2).1)).bind fun h => Ju.J7 h.2 else Ju.J7 false else Ju.J7 c
def Ju.B3 (c : Network) (d : Plan) (b : Li × (List Bool)) (a : Nat) (h : ByteArray) (e : Int) : Option Int := (ix b.2 (a : Int)).bind fun f => (forS (Ju.B6 d b a) 0 c.Segments (!f.2)).bind fun g => Ju.J5 a e g
def Ju.B1 (a : Network) (c : Plan) (b : Li × (List Bool)) : Option ((Li × (List Bool)) ⊕ (Li)) := (forS (Ju.B3 a c b) 0 a.Nodes (-1)).bind fun d => Ju.J2 b d
def Ju (a : Network) (b : Plan) : Option Li := (X1 (a.Nodes.length : Int) false).bind fun c => (C4 (Ju.B1 a b) Ek ([], c)).bind fun d => some d
def Jj.J3 (a : Network) (b : Plan) (d : Unit) : Option Int := (Ju a b).bind fun c => if ((c.length : Int) != (a.Nodes.length : Int)) = true then some 13 else some 0
def Jj.B4 (b : Network) (c : Plan) (d : Nat) (e : ByteArray) (f : Unit) : Option (Unit ⊕ (Int)) := (Rs b c (d : Int)).bind fun a => if (a.1 != a.2) = true then some ((.inr (12))) else some (.inl ())
def Jj.J2 (a : Network) (b : Plan) (e : Unit) : Option Int := (forL (Jj.B4 a b) 0 a.Nodes ()).bind fun c => Sum.elim (fun f => Jj.J3 a b ()) (fun d => some d) c
def Jj.B5 (b : Nat) (a : Int) (c : Unit) : Option (Unit ⊕ (Int)) := if (decide (a < (-1000)) || decide (a > 1000)) = true then some ((.inr (1))) else some (.inl ())
def Jj.J1 (b : Network) (a : Plan) (e : Unit) : Option Int := (forL Jj.B5 0 a.Ports ()).bind fun c => Sum.elim (fun f => Jj.J2 b a ()) (fun d => some d) c
def Jj.B6 (c : Network) (d : Nat) (a : Int) (e : Unit) : Option (Unit ⊕ (Int)) := (ix c.Segments (d : Int)).bind fun b => if (decide (a < (wr (0 - (min 1000 b.2.Capacity)))) || decide (a > (min 1000 b.2.Capacity))) = true then some ((.inr (1))) else some (.inl ())
def Jj (a : Network) (b : Plan) : Option Int := (Hq a).bind fun c => if (c != 0) = true then some c else if (((b.Rates.length : Int) != (a.Segments.length : Int)) || (((b.Ports.length : Int) != (a.Ports.length : Int)) || ((b.Pumps.length : Int) != (a.Stations.length : Int)))) = true then some 9 else (forL (Jj.B6 a) 0 b.Rates ()).bind fun d => Sum.elim (fun f => Jj.J1 a b ()) (fun e => some e) d
def Js (a : Int) : Bool := (decide (a ≥ 0) && decide (a < 1000))
def Re.J1 (a : Int) : Option Bool := some (decide (a ≤ 1000000))
def Re.J3 (a : Piece) (b : Int) (c : Bool) : Option (Int ⊕ (Bool)) := if c = true then some ((.inr (false))) else some (.inl (wr (b + a.Volume)))
def Re.B2 (d : List Piece) (c : Nat) (a : Piece) (b : Int) : Option (Int ⊕ (Bool)) := if (!(Js a.Batch)) = true then Re.J3 a b true else if decide (a.Volume < 1) = true then Re.J3 a b true else if decide (a.Volume > 1000000) = true then Re.J3 a b true else if decide ((c : Int) > 0) = true then (ix d (wr ((c : Int) - 1))).bind fun e => Re.J3 a b (a.Batch == e.2.Batch) else Re.J3 a b false
def Re (a : List Piece) : Option Bool := if decide ((a.length : Int) > 200) = true then some false else (forL (Re.B2 a) 0 a 0).bind fun b => Sum.elim (fun c => Re.J1 c) (fun d => some d) b
def Lw.J2 (a : Unit) : Option Int := some 0
def Lw.B3 (a : Network) (b : Nat) (c : List Piece) (f : Unit) : Option (Unit ⊕ (Int)) := (Lq c).bind fun d => (ix a.Segments (b : Int)).bind fun e => if (d != e.2.Capacity) = true then some ((.inr (14))) else some (.inl ())
def Lw.J1 (a : Network) (b : List (List Piece)) (e : Unit) : Option Int := (forL (Lw.B3 a) 0 b ()).bind fun c => Sum.elim (fun f => Lw.J2 ()) (fun d => some d) c
def Lw.B4 (c : Nat) (a : List Piece) (d : Unit) : Option (Unit ⊕ (Int)) := (Re a).bind fun b => if (!b) = true then some ((.inr (9))) else some (.inl ())
def Lw (a : Network) (b : List (List Piece)) : Option Int := (Hq a).bind fun c => if (c != 0) = true then some c else if ((b.length : Int) != (a.Segments.length : Int)) = true then some 9 else (forL Lw.B4 0 b ()).bind fun d => Sum.elim (fun f => Lw.J1 a b ()) (fun e => some e) d
def Wz (a : Network) (b : Plan) : Option (Li × Int) := (Jj a b).bind fun c => if (c != 0) = true then some ([], c) else (Ju a b).bind fun d => some (d, 0)
def Rx.J1 (a : Int) : Option Int := some a
def Rx.J3 (a : Int) : Option Int := some a
def Rx.J4 (a : Nat) (b : Int) (c : Bool) : Option Int := if c = true then Rx.J3 (a : Int) else Rx.J3 b
def Rx.B2 (e : Li) (c : Li) (b : Nat) (d : Int) (a : Int) : Option Int := if decide (d > 0) = true then if decide (a < 0) = true then Rx.J4 b a true else (ix c (b : Int)).bind fun f => (ix e a).bind fun g => (ix c a).bind fun h => Rx.J4 b a (decide ((wr ((wr (f.2 + 1)) * g.2)) < (wr ((wr (h.2 + 1)) * d)))) else Rx.J4 b a false
def Rx (a : Li) (b : Li) : Option Int := (forS (Rx.B2 a b) 0 a (-1)).bind fun c => Rx.J1 c
def Wu.J2 (a : List (List Piece)) : Option (List (List Piece)) := some a
def Wu.B3 (c : Nat) (a : List (List Piece)) : Option (List (List Piece)) := (ix a (c : Int)).bind fun b => (Jm b.2).bind fun d => some (a.set b.1 d)
def Wu.J1 (a : List (List Piece)) : Option (List (List Piece)) := (forJ Wu.B3 0 a.length a).bind fun b => Wu.J2 b
def Wu.J5 (a : (List (List Piece)) × Li) : Option ((List (List Piece)) × Li) := some (a.1, a.2)
def Wu.B7 (d : Piece) (e : Li) (f : Li) (a : Nat) (j : Int) (b : List (List Piece)) : Option (List (List Piece)) := (ix b (a : Int)).bind fun c => (ix f (a : Int)).bind fun g => (ix e (a : Int)).bind fun h => (Cp c.2 ([(⟨d.Batch, wr (g.2 - h.2)⟩ : Piece)] : List Piece)).bind fun i => some (b.set c.1 i)
def Wu.J6 (b : Li) (c : Piece) (d : (List (List Piece)) × Li) (e : Li) (a : Li) : Option ((List (List Piece)) × Li) := (forS (Wu.B7 c e a) 0 b d.1).bind fun f => Wu.J5 (f, a)
def Wu.B8 (c : Li) (d : Piece) (a : Li × Int) : Option ((Li × Int) ⊕ (Li)) := if decide (a.2 < d.Volume) = true then (Rx c a.1).bind fun e => (ix a.1 e).bind fun b => some (.inl ((a.1.set b.1 (wr (b.2 + 1))), wr (a.2 + 1))) else some ((.inr (a.1)))
def Wu.B4 (b : Li) (f : Nat) (c : Piece) (a : (List (List Piece)) × Li) : Option ((List (List Piece)) × Li) := (Cp ([] : Li) a.2).bind fun d => (C4 (Wu.B8 b c) Ek (a.2, 0)).bind fun e => Wu.J6 b c a d e
def Wu (b : List Piece) (a : Li) : Option (List (List Piece)) := (X1 (a.length : Int) ([] : List Piece)).bind fun c => (X1 (a.length : Int) (0 : Int)).bind fun d => (forS (Wu.B4 a) 0 b (c, d)).bind fun e => Wu.J1 e.1
def Lm.J1 (a : List Piece) : Option (List Piece) := some a
def Lm.B2 (b : List Piece) (a : (List Piece) × Int) : Option (((List Piece) × Int) ⊕ ((List Piece))) := if decide (a.2 ≥ 0) = true then (ix b a.2).bind fun c => (Cp a.1 ([c.2] : List Piece)).bind fun d => some (.inl (d, wr (a.2 - 1))) else some ((.inr (a.1)))
def Lm (a : List Piece) : Option (List Piece) := (C4 (Lm.B2 a) Ek ([], wr ((a.length : Int) - 1))).bind fun b => Lm.J1 b
def Jr.J1 (a : (List Piece) × (List Piece)) : Option ((List Piece) × (List Piece)) := (Jm a.1).bind fun b => (Jm a.2).bind fun c => some (b, c)
def Jr.J3 (c : Piece) (a : Int × (List Piece) × (List Piece)) (b : (List Piece) × (List Piece)) : Option (Int × (List Piece) × (List Piece)) := some (wr (a.1 - (min a.1 c.Volume)), b.1, b.2)
def Jr.B2 (e : Nat) (a : Piece) (b : Int × (List Piece) × (List Piece)) : Option (Int × (List Piece) × (List Piece)) := (Cp b.2.1 ([(⟨a.Batch, (min b.1 a.Volume)⟩ : Piece)] : List Piece)).bind fun c => (Cp b.2.2 ([(⟨a.Batch, wr (a.Volume - (min b.1 a.Volume))⟩ : Piece)] : List Piece)).bind fun d => Jr.J3 a b (c, d)
def Jr (b : List Piece) (c : Int) : Option ((List Piece) × (List Piece)) := (forS Jr.B2 0 b (c, [], [])).bind fun a => Jr.J1 (a.2.1, a.2.2)
def Wv (a : List Piece) (b : List Piece) (e : Bool) : Option ((List Piece) × (List Piece)) := if e = true then (Cp ([] : List Piece) a).bind fun f => (Cp f b).bind fun g => (Lq b).bind fun h => (Jr g h).bind fun c => some (c.2, c.1) else (Cp ([] : List Piece) b).bind fun i => (Cp i a).bind fun j => (Lq a).bind fun k => (Jr j k).bind fun d => some (d.1, d.2)
def Rh.J1 (a : Unit) : Option Int := some 0
def Rh.B2 (b : Nat) (a : Int) (c : Unit) : Option (Unit ⊕ (Int)) := if (!(Js a)) = true then some ((.inr (9))) else some (.inl ())
def Rh (a : Network) (e : List (List Piece)) (f : Plan) (b : Li) : Option Int := (Lw a e).bind fun c => if (c != 0) = true then some c else (Jj a f).bind fun d => if (d != 0) = true then some d else if ((b.length : Int) != (a.Ports.length : Int)) = true then some 9 else (forL Rh.B2 0 b ()).bind fun g => Sum.elim (fun i => Rh.J1 ()) (fun h => some h) g
def Fx.J5 (a : (List (List Piece)) × (List (List Piece)) × (List (List Piece)) × Bool) (b : Bool) : Option ((List (List Piece)) × (List (List Piece)) × Int) := if b = true then some ([], [], 4) else some (a.1, a.2.1, 0)
def Fx.J7 (a : Bool) : Option Bool := some a
def Fx.B6 (a : (List (List Piece)) × (List (List Piece)) × (List (List Piece)) × Bool) (b : Nat) (c : Bool) : Option Bool := if c = true then Fx.J7 true else (ix a.2.1 (b : Int)).bind fun d => Fx.J7 (decide ((d.2.length : Int) > 200))
def Fx.J4 (a : (List (List Piece)) × (List (List Piece)) × (List (List Piece)) × Bool) (b : Bool) : Option ((List (List Piece)) × (List (List Piece)) × Int) := (forJ (Fx.B6 a) 0 a.2.1.length b).bind fun c => Fx.J5 a c
def Fx.J9 (a : Bool) : Option Bool := some a
def Fx.B8 (a : (List (List Piece)) × (List (List Piece)) × (List (List Piece)) × Bool) (b : Nat) (c : Bool) : Option Bool := if c = true then Fx.J9 true else (ix a.1 (b : Int)).bind fun d => if decide ((d.2.length : Int) > 200) = true then Fx.J9 true else (ix a.2.2.1 (b : Int)).bind fun e => Fx.J9 (decide ((e.2.length : Int) > 200))
def Fx.J3 (a : (List (List Piece)) × (List (List Piece)) × (List (List Piece)) × Bool) : Option ((List (List Piece)) × (List (List Piece)) × Int) := (forJ (Fx.B8 a) 0 a.1.length a.2.2.2).bind fun b => Fx.J4 a b
def Fx.J11 (a : (List (List Piece)) × (List (List Piece)) × (List (List Piece)) × Bool) : Option ((List (List Piece)) × (List (List Piece)) × (List (List Piece)) × Bool) := some (a.1, a.2.1, a.2.2.1, a.2.2.2)
def Fx.J17 (a : (List (List Piece)) × (List (List Piece))) (b : Nat × Int) (c : Nat × (List Piece)) (d : (List Piece) × (List Piece)) (e : List Piece) : Option ((List (List Piece)) × (List (List Piece))) := (ix a.2 b.2).bind fun f => some ((a.1.set c.1 d.1), (a.2.set f.1 e))
def Fx.J16 (b : (List (List Piece)) × (List (List Piece))) (c : Nat × Int) (e : Nat × Int) (f : List Piece) : Option ((List (List Piece)) × (List (List Piece))) := (ix b.1 c.2).bind fun d => (Wv d.2 f (decide (e.2 < 0))).bind fun a => if (!(decide (e.2 < 0))) = true then (Lm a.2).bind fun g => Fx.J17 b c d a g else Fx.J17 b c d a a.2
def Fx.B15 (f : Plan) (g : (List Piece) × Li × Li) (h : (List Piece) × Li × Li) (i : List (List Piece)) (c : Nat) (d : (List (List Piece)) × (List (List Piece))) : Option ((List (List Piece)) × (List (List Piece))) := (ix h.2.2 (c : Int)).bind fun a => (ix i (wr ((g.2.2.length : Int) + (c : Int)))).bind fun e => (ix f.Rates a.2).bind fun b => if (!(decide (b.2 < 0))) = true then (Lm e.2).bind fun j => Fx.J16 d a b j else Fx.J16 d a b e.2
def Fx.J14 (d : Plan) (a : (List (List Piece)) × (List (List Piece)) × (List (List Piece)) × Bool) (e : (List Piece) × Li × Li) (b : (List Piece) × Li × Li) (f : List Piece) (g : List (List Piece)) (h : List (List Piece)) : Option ((List (List Piece)) × (List (List Piece)) × (List (List Piece)) × Bool) := (forJ (Fx.B15 d e b g) 0 b.2.2.length (a.1, a.2.2.1)).bind fun c => Fx.J11 (c.1, h, c.2, (a.2.2.2 || decide ((f.length : Int) > 200)))
def Fx.B18 (c : (List Piece) × Li × Li) (d : List (List Piece)) (a : Nat) (b : List (List Piece)) : Option (List (List Piece)) := (ix c.2.2 (a : Int)).bind fun e => (ix d (a : Int)).bind fun f => (ix b e.2).bind fun g => some (b.set g.1 f.2)
def Fx.J13 (f : Plan) (a : (List (List Piece)) × (List (List Piece)) × (List (List Piece)) × Bool) (c : (List Piece) × Li × Li) (d : (List Piece) × Li × Li) : Option ((List (List Piece)) × (List (List Piece)) × (List (List Piece)) × Bool) := (Jm d.1).bind fun b => if ((b.length : Int) == 0) = true then Fx.J11 (a.1, a.2.1, a.2.2.1, (a.2.2.2 || decide ((b.length : Int) > 200))) else (Wu b d.2.1).bind fun e => (forJ (Fx.B18 c e) 0 c.2.2.length a.2.1).bind fun g => Fx.J14 f a c d b e g
def Fx.J20 (a : (List Piece) × Li × Li) : Option ((List Piece) × Li × Li) := some (a.1, a.2.1, a.2.2)
def Fx.J21 (d : Nat × Int) (e : Nat) (f : Segment) (a : (List Piece) × Li × Li) (b : Nat × Int) (c : List Piece) : Option ((List Piece) × Li × Li) := if (((Im f b.2).1) == d.2) = true then (Cp a.2.1 ([(Gp b.2)] : Li)).bind fun g => (Cp a.2.2 ([(e : Int)] : Li)).bind fun h => Fx.J20 (c, g, h) else Fx.J20 (c, a.2.1, a.2.2)
def Fx.B19 (f : Plan) (g : (List (List Piece)) × (List (List Piece)) × (List (List Piece)) × Bool) (d : Nat × Int) (b : Nat) (e : Segment) (a : (List Piece) × Li × Li) : Option ((List Piece) × Li × Li) := (ix f.Rates (b : Int)).bind fun c => if (c.2 == 0) = true then Fx.J20 (a.1, a.2.1, a.2.2) else if (((Im e c.2).2) == d.2) = true then (ix g.2.2.1 (b : Int)).bind fun h => (Cp a.1 h.2).bind fun i => Fx.J21 d b e a c i else Fx.J21 d b e a c a.1
def Fx.J12 (e : Network) (c : Plan) (d : (List (List Piece)) × (List (List Piece)) × (List (List Piece)) × Bool) (f : Nat × Int) (a : (List Piece) × Li × Li) : Option ((List (List Piece)) × (List (List Piece)) × (List (List Piece)) × Bool) := (forS (Fx.B19 c d f) 0 e.Segments (a.1, a.2.1, [])).bind fun b => Fx.J13 c d a (b.1, b.2.1, b.2.2)
def Fx.J23 (a : (List Piece) × Li × Li) : Option ((List Piece) × Li × Li) := some (a.1, a.2.1, a.2.2)
def Fx.J25 (d : Plan) (b : Nat) (a : (List Piece) × Li × Li) (c : List Piece) (e : Bool) : Option ((List Piece) × Li × Li) := if e = true then (ix d.Ports (b : Int)).bind fun f => (Cp a.2.1 ([wr (0 - f.2)] : Li)).bind fun g => (Cp a.2.2 ([(b : Int)] : Li)).bind fun h => Fx.J23 (c, g, h) else Fx.J23 (c, a.2.1, a.2.2)
def Fx.J24 (a : Plan) (e : Nat × Int) (b : Nat) (f : Port) (c : (List Piece) × Li × Li) (d : List Piece) : Option ((List Piece) × Li × Li) := if (f.Node == e.2) = true then (ix a.Ports (b : Int)).bind fun g => Fx.J25 a b c d (decide (g.2 < 0)) else Fx.J25 a b c d false
def Fx.J26 (c : Plan) (f : Li) (d : Nat × Int) (a : Nat) (e : Port) (b : (List Piece) × Li × Li) (g : Bool) : Option ((List Piece) × Li × Li) := if g = true then (ix f (a : Int)).bind fun h => (ix c.Ports (a : Int)).bind fun i => (Cp b.1 ([(⟨h.2, i.2⟩ : Piece)] : List Piece)).bind fun j => Fx.J24 c d a e b j else Fx.J24 c d a e b b.1
def Fx.B22 (a : Plan) (e : Li) (b : Nat × Int) (c : Nat) (d : Port) (f : (List Piece) × Li × Li) : Option ((List Piece) × Li × Li) := if (d.Node == b.2) = true then (ix a.Ports (c : Int)).bind fun g => Fx.J26 a e b c d f (decide (g.2 > 0)) else Fx.J26 a e b c d f false
def Fx.B10 (b : Network) (c : Plan) (e : Li) (f : Li × Int) (g : Nat) (h : (List (List Piece)) × (List (List Piece)) × (List (List Piece)) × Bool) : Option ((List (List Piece)) × (List (List Piece)) × (List (List Piece)) × Bool) := (ix f.1 (g : Int)).bind fun d => (forS (Fx.B22 c e d) 0 b.Ports ([], [], [])).bind fun a => Fx.J12 b c h d (a.1, a.2.1, a.2.2)
def Fx.J2 (b : Network) (c : Plan) (e : Li) (f : (List (List Piece)) × (List (List Piece))) (g : List (List Piece)) (h : List (List Piece)) : Option ((List (List Piece)) × (List (List Piece)) × Int) := (Wz b c).bind fun d => (forJ (Fx.B10 b c e d) 0 d.1.length (h, f.2, g, false)).bind fun a => Fx.J3 (a.1, a.2.1, a.2.2.1, a.2.2.2)
def Fx.B27 (b : Nat) (c : List Piece) (a : List (List Piece)) : Option (List (List Piece)) := (Cp ([] : List Piece) c).bind fun d => (ix a (b : Int)).bind fun e => some (a.set e.1 d)
def Fx.J1 (c : Network) (a : List (List Piece)) (d : Plan) (e : Li) (b : (List (List Piece)) × (List (List Piece))) : Option ((List (List Piece)) × (List (List Piece)) × Int) := (X1 (a.length : Int) ([] : List Piece)).bind fun f => (forS Fx.B27 0 a b.1).bind fun g => Fx.J2 c d e b f g
def Fx (a : Network) (b : List (List Piece)) (c : Plan) (d : Li) : Option ((List (List Piece)) × (List (List Piece)) × Int) := (Rh a b c d).bind fun e => if (e != 0) = true then some ([], [], e) else (X1 (b.length : Int) ([] : List Piece)).bind fun f => (X1 (a.Ports.length : Int) ([] : List Piece)).bind fun g => Fx.J1 a b c d (f, g)
def Nz (c : KS) (a : List ByteArray) : Option (ByteArray × KS) := (C0 c (a.length : Int)).bind fun b => (ix a b.1).bind fun d => some (d.2, b.2)
def R6.J1 (c : List Segment) (b : Nat × Segment) (a : Li × Int × (List ByteArray) × (List Port) × (List Station) × Int × Int × Int × Int × Int × Int × (List Point)) : Option (Network × KS) := some ((⟨a.2.2.1, (c.set b.1 (⟨b.2.Name, a.2.2.2.2.2.2.2.1, b.2.To, a.2.2.2.2.2.2.2.2.1, a.2.2.2.2.2.2.2.2.2.1, a.2.2.2.2.2.2.2.2.2.2.1, a.2.2.2.2.2.2.2.2.2.2.2⟩ : Segment)), a.2.2.2.1, a.2.2.2.2.1, a.2.2.2.2.2.1, a.2.2.2.2.2.2.1⟩ : Network), (⟨a.1, a.2.1⟩ : KS))
def R6.B2 (d : Network) (e : List Port) (f : List Station) (c : Nat × Segment) (g : List Point) (a : Li × Int × (List ByteArray)) : Option ((Li × Int × (List ByteArray)) ⊕ ((Li × Int × (List ByteArray) × (List Port) × (List Station) × Int × Int × Int × Int × Int × Int × (List Point)))) := (C0 (⟨a.1, a.2.1⟩ : KS) 2).bind fun b => if decide ((a.2.2.length : Int) ≤ (wr (23 + b.1))) = true then (G4 (⟨#[121]⟩ : ByteArray) (a.2.2.length : Int)).bind fun h => (G4 (⟨#[]⟩ : ByteArray) (wr ((a.2.2.length : Int).tdiv 26))).bind fun i => (jY h i).bind fun j => (Cp a.2.2 ([j] : List ByteArray)).bind fun k => some (.inl (b.2.L_, b.2.At, k)) else some ((.inr ((b.2.L_, b.2.At, a.2.2, e, f, d.Vapour, d.Settle, c.2.From, c.2.Capacity, c.2.Resist, c.2.Wave, g))))
def R6 (H : KS) (b : Network) : Option (Network × KS) := (Cp ([] : List ByteArray) b.Nodes).bind fun e => (Cp ([] : List Segment) b.Segments).bind fun g => (Cp ([] : List Port) b.Ports).bind fun f => (Cp ([] : List Station) b.Stations).bind fun h => (C0 H (g.length : Int)).bind fun v => (ix g v.1).bind fun a => (Cp ([] : List Point) a.2.Points).bind fun d => (C0 v.2 12).bind fun c => if (c.1 == 0) = true then (C0 c.2 (e.length : Int)).bind fun w => (Nz w.2 ([(⟨#[]⟩ : ByteArray), (⟨#[110, 97]⟩ : ByteArray), (⟨#[65]⟩ : ByteArray), (⟨#[120, 45, 57]⟩ : ByteArray)] : List ByteArray)).bind fun i => (ix e w.1).bind fun K => R6.J1 g a (i.2.L_, i.2.At, (e.set K.1 i.1), f, h, b.Vapour, b.Settle, a.2.From, a.2.Capacity, a.2.Resist, a.2.Wave, d) else if (c.1 == 1) = true then (Dm c.2 ([(-1), a.2.To, (e.length : Int), 0] : Li)).bind fun j => R6.J1 g a (j.2.L_, j.2.At, e, f, h, b.Vapour, b.Settle, j.1, a.2.Capacity, a.2.Resist, a.2.Wave, d) else if (c.1 == 2) = true then (Dm c.2 ([0, (-1), wr (a.2.Capacity + 1), 1000001] : Li)).bind fun k => R6.J1 g a (k.2.L_, k.2.At, e, f, h, b.Vapour, b.Settle, a.2.From, k.1, a.2.Resist, a.2.Wave, d) else if (c.1 == 3) = true then (Dm c.2 ([(-1), 1000, 1001] : Li)).bind fun l => R6.J1 g a (l.2.L_, l.2.At, e, f, h, b.Vapour, b.Settle, a.2.From, a.2.Capacity, l.1, a.2.Wave, d) else if (c.1 == 4) = true then (Dm c.2 ([(-1), 100000, 100001] : Li)).bind fun m => R6.J1 g a (m.2.L_, m.2.At, e, f, h, b.Vapour, b.Settle, a.2.From, a.2.Capacity, a.2.Resist, m.1, d) else if (c.1 == 5) = true then if decide ((d.length : Int) > 0) = true then (C0 c.2 (d.length : Int)).bind fun x => (Dm x.2 ([(-1), 0, 1, a.2.Capacity] : Li)).bind fun n => (ix d x.1).bind fun o => R6.J1 g a (n.2.L_, n.2.At, e, f, h, b.Vapour, b.Settle, a.2.From, a.2.Capacity, a.2.Resist, a.2.Wave, (d.set o.1 (⟨n.1, o.2.Height, o.2.Limit⟩ : Point))) else R6.J1 g a (c.2.L_, c.2.At, e, f, h, b.Vapour, b.Settle, a.2.From, a.2.Capacity, a.2.Resist, a.2.Wave, d) else if (c.1 == 6) = true then (C0 c.2 (min 3 (wr ((d.length : Int) + 1)))).bind fun p => (Tu d 0 p.1).bind fun M => R6.J1 g a (p.2.L_, p.2.At, e, f, h, b.Vapour, b.Settle, a.2.From, a.2.Capacity, a.2.Resist, a.2.Wave, M) else if (c.1 == 7) = true then if decide ((d.length : Int) > 0) = true then (C0 c.2 (d.length : Int)).bind fun y => (Dm y.2 ([(-501), (-500), 5000, 5001] : Li)).bind fun q => (ix d y.1).bind fun r => R6.J1 g a (q.2.L_, q.2.At, e, f, h, b.Vapour, b.Settle, a.2.From, a.2.Capacity, a.2.Resist, a.2.Wave, (d.set r.1 (⟨r.2.At, q.1, r.2.Limit⟩ : Point))) else R6.J1 g a (c.2.L_, c.2.At, e, f, h, b.Vapour, b.Settle, a.2.From, a.2.Capacity, a.2.Resist, a.2.Wave, d) else if (c.1 == 8) = true then if decide ((f.length : Int) > 0) = true then (C0 c.2 (f.length : Int)).bind fun z => (Nz z.2 ([(⟨#[113, 97]⟩ : ByteArray), (⟨#[113, 98]⟩ : ByteArray), (⟨#[]⟩ : ByteArray), (⟨#[122]⟩ : ByteArray)] : List ByteArray)).bind fun A => (Dm A.2 ([(-1), 0, 1, (e.length : Int)] : Li)).bind fun B => (Dm B.2 ([0, (-1), 100000000, 100000001] : Li)).bind fun s => (ix f z.1).bind fun N => R6.J1 g a (s.2.L_, s.2.At, e, (f.set N.1 (⟨A.1, B.1, s.1⟩ : Port)), h, b.Vapour, b.Settle, a.2.From, a.2.Capacity, a.2.Resist, a.2.Wave, d) else R6.J1 g a (c.2.L_, c.2.At, e, f, h, b.Vapour, b.Settle, a.2.From, a.2.Capacity, a.2.Resist, a.2.Wave, d) else if (c.1 == 9) = true then (Nz c.2 ([(⟨#[115, 97]⟩ : ByteArray), (⟨#[115, 122]⟩ : ByteArray), (⟨#[]⟩ : ByteArray)] : List ByteArray)).bind fun C => (Dm C.2 ([(-1), 0, 0, 1, 99] : Li)).bind fun D => (Dm D.2 ([0, (-1)] : Li)).bind fun E => (Dm E.2 ([0, 100001] : Li)).bind fun F => (Dm F.2 ([0, (-1)] : Li)).bind fun t => (Cp h ([(⟨C.1, D.1, E.1, F.1, t.1⟩ : Station)] : List Station)).bind fun O => R6.J1 g a (t.2.L_, t.2.At, e, f, O, b.Vapour, b.Settle, a.2.From, a.2.Capacity, a.2.Resist, a.2.Wave, d) else if (c.1 == 10) = true then (Dm c.2 ([0, (-100001), 100000001] : Li)).bind fun G => (Dm G.2 ([0, (-1), 101] : Li)).bind fun u => R6.J1 g a (u.2.L_, u.2.At, e, f, h, G.1, u.1, a.2.From, a.2.Capacity, a.2.Resist, a.2.Wave, d) else (C4 (R6.B2 b f h a d) Ek (c.2.L_, c.2.At, e)).bind fun P => R6.J1 g a P
def Ri.J2 (a : Li × Int × Li × Li × (List Bool)) : Option (Plan × KS) := some ((⟨a.2.2.1, a.2.2.2.1, a.2.2.2.2⟩ : Plan), (⟨a.1, a.2.1⟩ : KS))
def Ri.J1 (j : KS) (a : Li × Li × (List Bool)) : Option (Plan × KS) := (C0 j 5).bind fun b => if (b.1 == 0) = true then (Cp a.2.2 ([true] : List Bool)).bind fun k => Ri.J2 (b.2.L_, b.2.At, a.1, a.2.1, k) else if (b.1 == 1) = true then (C0 b.2 (wr ((a.2.1.length : Int) + 1))).bind fun c => (Tu a.2.1 0 c.1).bind fun l => Ri.J2 (c.2.L_, c.2.At, a.1, l, a.2.2) else if (b.1 == 2) = true then if decide ((a.2.1.length : Int) > 0) = true then (C0 b.2 (a.2.1.length : Int)).bind fun f => (ix a.2.1 f.1).bind fun g => (Dm f.2 ([1, (-1), 1001, (-4611686018427387904)] : Li)).bind fun d => Ri.J2 (d.2.L_, d.2.At, a.1, (a.2.1.set g.1 (wr (g.2 + d.1))), a.2.2) else Ri.J2 (b.2.L_, b.2.At, a.1, a.2.1, a.2.2) else if decide ((a.1.length : Int) > 0) = true then (C0 b.2 (a.1.length : Int)).bind fun h => (ix a.1 h.1).bind fun i => (Dm h.2 ([1, (-1), 5, 1001, 4611686018427387904, (-4611686018427387904)] : Li)).bind fun e => Ri.J2 (e.2.L_, e.2.At, (a.1.set i.1 (wr (i.2 + e.1))), a.2.1, a.2.2) else Ri.J2 (b.2.L_, b.2.At, a.1, a.2.1, a.2.2)
def Ri (b : KS) (a : Plan) : Option (Plan × KS) := (Cp ([] : Li) a.Rates).bind fun c => (Cp ([] : Li) a.Ports).bind fun d => (Cp ([] : List Bool) a.Pumps).bind fun e => Ri.J1 b (c, d, e)
structure Hop where
 Segment : Int
 Back : Bool
 deriving DecidableEq
def Df (x : Hop) : List T := [.V x.Segment, .v (.bool x.Back)]
structure Lot where
 Batch : Int
 Volume : Int
 Done : Int
 deriving DecidableEq
def E1 (x : Lot) : List T := [.V x.Batch, .V x.Volume, .V x.Done]
def aQ (a : Li) : Bool := (decide ((a.length : Int) ≤ 400))
def Fy (a : Int) (b : Int) : Option Int := (R1 a b).bind fun c => some c
def Ws.J1 (a : Int) : Option Int := some a
def Ws.B2 (a : Piece → Option Int) (e : Nat) (b : Piece) (c : Int) : Option Int := (a b).bind fun d => some (wr (c + d))
def Ws (a : List Piece) (b : Piece → Option Int) : Option Int := (forS (Ws.B2 b) 0 a 0).bind fun c => Ws.J1 c
def Wt (a : Piece) : Int := a.Volume
def Rr (a : List Piece) : Option Int := (Ws a (fun x => some (Wt x))).bind fun b => some b
def G5.J2 (a : Unit) : Option (Int × Bool) := some (0, false)
def G5.B3 (b : List Piece) (c : Int) (a : Int) : Option (Int ⊕ ((Int × Bool) ⊕ Unit)) := if decide (a ≥ 0) = true then (ix b a).bind fun d => if (d.2.Batch == c) = true then (Tu b (wr (a + 1)) (b.length : Int)).bind fun e => (Rr e).bind fun f => some ((.inr (.inl ((f, true))))) else some (.inl (wr (a - 1))) else some ((.inr (.inr (()))))
def G5.J1 (a : List Piece) (b : Int) (f : Unit) : Option (Int × Bool) := (C4 (G5.B3 a b) Ek (wr ((a.length : Int) - 1))).bind fun c => Sum.elim (fun d => some d) (fun e => G5.J2 e) c
def G5.J4 (a : Unit) : Option (Int × Bool) := some (0, false)
def G5.B5 (a : List Piece) (b : Int) (c : Nat) (d : Piece) (g : Unit) : Option (Unit ⊕ ((Int × Bool))) := if (d.Batch == b) = true then (Tu a 0 (c : Int)).bind fun e => (Rr e).bind fun f => some ((.inr ((f, true)))) else some (.inl ())
def G5 (a : List Piece) (b : Int) (c : Bool) : Option (Int × Bool) := if c = true then (forL (G5.B5 a b) 0 a ()).bind fun d => Sum.elim (fun f => G5.J4 ()) (fun e => some e) d else G5.J1 a b ()
def Wn (a : List Piece) (c : Int) (d : Bool) : Option (Int × Bool × Int) := (G1 a).bind fun e => if (!e) = true then some (0, false, 14) else (G5 a c d).bind fun b => some (b.1, b.2, 0)
def R9.J1 (a : List Hop) (b : Unit) : Option Bool := some (decide ((a.length : Int) ≤ 32))
def R9.J3 (a : Int) (b : Int × Int) : Option (Int ⊕ (Bool)) := if (decide (a ≥ 0) && (b.1 != a)) = true then some ((.inr (false))) else some (.inl b.2)
def R9.B2 (c : Network) (e : Nat) (a : Hop) (d : Int) : Option (Int ⊕ (Bool)) := if (decide (a.Segment < 0) || decide (a.Segment ≥ (c.Segments.length : Int))) = true then some ((.inr (false))) else (ix c.Segments a.Segment).bind fun b => if a.Back = true then R9.J3 d (b.2.To, b.2.From) else R9.J3 d (b.2.From, b.2.To)
def R9 (b : Network) (a : List Hop) : Option Bool := (forL (R9.B2 b) 0 a (-1)).bind fun c => Sum.elim (fun e => R9.J1 a ()) (fun d => some d) c
def Il (a : Int) (b : Int) : Option (Int × Int) := if (decide (a < 0) || (decide (a > 1099511627776) || (decide (b < 1) || decide (b > 1000)))) = true then some (0, 1) else (jT a b).bind fun c => some (c, 0)
def Ls (a : Network) (f : List (List Piece)) (b : Int) (c : Int) : Option Int := (Fe a).bind fun d => if (d != 0) = true then some d else (Hl a f).bind fun e => if (e != 0) = true then some e else if (decide (b < 0) || decide (b ≥ (a.Ports.length : Int))) = true then some 8 else if (decide (c < 0) || decide (c > 400)) = true then some 1 else some 0
def Rq.J1 (a : Unit) : Option (Int × Bool × Int) := some (0, false, 0)
def Rq.B2 (d : Network) (e : List (List Piece)) (f : List Hop) (g : Int) (a : Int × Int) : Option ((Int × Int) ⊕ ((Int × Bool × Int) ⊕ Unit)) := if decide (a.2 ≥ 0) = true then (ix f a.2).bind fun b => (ix e b.2.Segment).bind fun h => (G5 h.2 g b.2.Back).bind fun c => if c.2 = true then some ((.inr (.inl ((wr (a.1 + c.1), true, 0))))) else (ix d.Segments b.2.Segment).bind fun i => some (.inl (wr (a.1 + i.2.Capacity), wr (a.2 - 1))) else some ((.inr (.inr (()))))
def Rq (a : Network) (c : List (List Piece)) (b : List Hop) (f : Int) : Option (Int × Bool × Int) := (Fe a).bind fun d => if (d != 0) = true then some (0, false, d) else (Hl a c).bind fun e => if (e != 0) = true then some (0, false, e) else (R9 a b).bind fun g => if (!g) = true then some (0, false, 11) else (C4 (Rq.B2 a c b f) Ek (0, wr ((b.length : Int) - 1))).bind fun h => Sum.elim (fun i => some i) (fun j => Rq.J1 j) h
def Lu.J1 (a : Int × Bool) : Option (Int × Bool × Int) := some (a.1, a.2, 0)
def Lu.J3 (a : (List (List Piece)) × Int × Bool) : Option (((List (List Piece)) × Int × Bool) ⊕ ((Int × Bool × Int))) := some (.inl (a.1, a.2.1, a.2.2))
def Lu.J4 (b : (List (List Piece)) × (List (List Piece)) × Int) (a : Int × Bool) : Option (((List (List Piece)) × Int × Bool) ⊕ ((Int × Bool × Int))) := Lu.J3 (b.1, a.1, a.2)
def Lu.J6 (a : Int × Bool) : Option (Int × Bool) := some (a.1, a.2)
def Lu.B5 (c : Int) (d : Nat) (e : Nat) (b : Piece) (a : Int × Bool) : Option (Int × Bool) := if ((!a.2) && ((b.Batch == c) && decide (b.Volume > 0))) = true then Lu.J6 ((d : Int), true) else Lu.J6 (a.1, a.2)
def Lu.B2 (d : Network) (e : Plan) (f : Li) (g : Int) (h : Int) (i : Nat) (b : (List (List Piece)) × Int × Bool) : Option (((List (List Piece)) × Int × Bool) ⊕ ((Int × Bool × Int))) := (Jt d b.1 e f).bind fun a => if (a.2.2 != 0) = true then some ((.inr ((0, false, a.2.2)))) else (ix a.2.1 g).bind fun j => (forS (Lu.B5 h i) 0 j.2 (b.2.1, b.2.2)).bind fun c => Lu.J4 a (c.1, c.2)
def Lu (b : Network) (c : List (List Piece)) (g : Plan) (h : Li) (d : Int) (i : Int) (a : Int) : Option (Int × Bool × Int) := (Ls b c d a).bind fun e => if (e != 0) = true then some (0, false, e) else (chk (a ≤ 9223372036854775806)).bind fun l => (forI (Lu.B2 b g h d i) 0 a.toNat (c, 0, false)).bind fun j => Sum.elim (fun f => Lu.J1 (f.2.1, f.2.2)) (fun k => some k) j
def Nu.J1 (a : List Lot) : Option ((List Lot) × Int) := some (a, 0)
def Nu.J3 (a : (List (List Piece)) × (List Lot)) : Option (((List (List Piece)) × (List Lot)) ⊕ (((List Lot) × Int))) := some (.inl (a.1, a.2))
def Nu.J4 (a : (List (List Piece)) × (List (List Piece)) × Int) (b : List Lot) : Option (((List (List Piece)) × (List Lot)) ⊕ (((List Lot) × Int))) := Nu.J3 (a.1, b)
def Nu.J6 (a : List Lot) : Option (List Lot) := some a
def Nu.J7 (d : Nat) (b : Piece) (a : List Lot) (e : Bool) : Option (List Lot) := if e = true then (ix a (wr ((a.length : Int) - 1))).bind fun c => Nu.J6 (a.set c.1 (⟨c.2.Batch, wr (c.2.Volume + b.Volume), c.2.Done⟩ : Lot)) else if decide (b.Volume > 0) = true then (Cp a ([(⟨b.Batch, b.Volume, (d : Int)⟩ : Lot)] : List Lot)).bind fun f => Nu.J6 f else Nu.J6 a
def Nu.B5 (c : Nat) (e : Nat) (b : Piece) (a : List Lot) : Option (List Lot) := if decide ((wr ((a.length : Int) - 1)) ≥ 0) = true then (ix a (wr ((a.length : Int) - 1))).bind fun d => Nu.J7 c b a (d.2.Batch == b.Batch) else Nu.J7 c b a false
def Nu.B2 (c : Network) (d : Plan) (e : Li) (f : Int) (g : Nat) (b : (List (List Piece)) × (List Lot)) : Option (((List (List Piece)) × (List Lot)) ⊕ (((List Lot) × Int))) := (Jt c b.1 d e).bind fun a => if (a.2.2 != 0) = true then some ((.inr (([], a.2.2)))) else (ix a.2.1 f).bind fun h => (forS (Nu.B5 g) 0 h.2 b.2).bind fun i => Nu.J4 a i
def Nu (b : Network) (c : List (List Piece)) (f : Plan) (g : Li) (d : Int) (a : Int) : Option ((List Lot) × Int) := (Ls b c d a).bind fun e => if (e != 0) = true then some ([], e) else (chk (a ≤ 9223372036854775806)).bind fun k => (forI (Nu.B2 b f g d) 0 a.toNat (c, [])).bind fun h => Sum.elim (fun i => Nu.J1 i.2) (fun j => some j) h
def N2.J1 (a : Unit) : Option (Int × Bool) := some (0, false)
def N2.J3 (c : List Piece) (d : Int) (a : Int × Int) (e : Int) : Option ((Int × Int) ⊕ ((Int × Bool) ⊕ Unit)) := (ix c e).bind fun b => if (b.2.Batch == d) = true then some ((.inr (.inl ((a.1, true))))) else some (.inl (wr (a.1 + b.2.Volume), wr (a.2 + 1)))
def N2.B2 (b : List Piece) (c : Int) (d : Bool) (a : Int × Int) : Option ((Int × Int) ⊕ ((Int × Bool) ⊕ Unit)) := if decide (a.2 < (b.length : Int)) = true then if d = true then N2.J3 b c a a.2 else N2.J3 b c a (wr ((wr ((b.length : Int) - 1)) - a.2)) else some ((.inr (.inr (()))))
def N2 (a : List Piece) (b : Int) (c : Bool) : Option (Int × Bool) := (C4 (N2.B2 a b c) Ek (0, 0)).bind fun d => Sum.elim (fun e => some e) (fun f => N2.J1 f) d
def Wm (a : List Piece) (c : Int) (d : Bool) : Option (Int × Bool × Int) := (Re a).bind fun e => if (!e) = true then some (0, false, 14) else (N2 a c d).bind fun b => some (b.1, b.2, 0)
def Lr (c : Network) (b : Hop) : Option (Int × Int) := (ix c.Segments b.Segment).bind fun a => if b.Back = true then some (a.2.To, a.2.From) else some (a.2.From, a.2.To)
def Wo.J2 (a : Unit) : Option Int := some 0
def Wo.B3 (c : Network) (b : List Hop) (a : Int) : Option (Int ⊕ (Int ⊕ Unit)) := if decide (a < (b.length : Int)) = true then (ix b (wr (a - 1))).bind fun d => (Lr c d.2).bind fun e => (ix b a).bind fun f => (Lr c f.2).bind fun g => if (e.2 != g.1) = true then some ((.inr (.inl (11)))) else some (.inl (wr (a + 1))) else some ((.inr (.inr (()))))
def Wo.J1 (a : Network) (b : List Hop) (f : Unit) : Option Int := (C4 (Wo.B3 a b) Ek 1).bind fun c => Sum.elim (fun d => some d) (fun e => Wo.J2 e) c
def Wo.J5 (a : Int) (b : Bool) : Option (Int ⊕ (Int ⊕ Unit)) := if b = true then some ((.inr (.inl (11)))) else some (.inl (wr (a + 1)))
def Wo.B4 (d : Network) (b : List Hop) (a : Int) : Option (Int ⊕ (Int ⊕ Unit)) := if decide (a < (b.length : Int)) = true then (ix b a).bind fun c => if decide (c.2.Segment < 0) = true then Wo.J5 a true else Wo.J5 a (decide (c.2.Segment ≥ (d.Segments.length : Int))) else some ((.inr (.inr (()))))
def Wo (b : Network) (a : List Hop) : Option Int := if decide ((a.length : Int) > 32) = true then some 11 else (C4 (Wo.B4 b a) Ek 0).bind fun c => Sum.elim (fun d => some d) (fun e => Wo.J1 b a e) c
def W7.J1 (a : Unit) : Option (Int × Bool × Int) := some (0, false, 0)
def W7.B2 (d : Network) (e : List (List Piece)) (f : List Hop) (g : Int) (a : Int × Int) : Option ((Int × Int) ⊕ ((Int × Bool × Int) ⊕ Unit)) := if decide (a.2 ≥ 0) = true then (ix f a.2).bind fun b => (ix e b.2.Segment).bind fun h => (N2 h.2 g b.2.Back).bind fun c => if c.2 = true then some ((.inr (.inl ((wr (c.1 + a.1), true, 0))))) else (ix d.Segments b.2.Segment).bind fun i => some (.inl (wr (a.1 + i.2.Capacity), wr (a.2 - 1))) else some ((.inr (.inr (()))))
def W7 (a : Network) (c : List (List Piece)) (b : List Hop) (g : Int) : Option (Int × Bool × Int) := (Hq a).bind fun d => if (d != 0) = true then some (0, false, d) else (Lw a c).bind fun e => if (e != 0) = true then some (0, false, e) else (Wo a b).bind fun f => if (f != 0) = true then some (0, false, f) else (C4 (W7.B2 a c b g) Ek (0, wr ((b.length : Int) - 1))).bind fun h => Sum.elim (fun i => some i) (fun j => W7.J1 j) h
def Np (a : Int) (b : Int) : Option (Int × Int) := if (decide (a < 0) || (decide (a > 1099511627776) || (decide (b < 1) || decide (b > 1000)))) = true then some (0, 1) else (jT a b).bind fun c => some (c, 0)
def Lv.J1 (a : List Lot) : Option ((List Lot) × Int) := some (a, 0)
def Lv.J3 (b : (List (List Piece)) × (List Lot) × Int) (a : (List (List Piece)) × (List Lot)) : Option (((List (List Piece)) × (List Lot) × Int) ⊕ (((List Lot) × Int) ⊕ (List Lot))) := some (.inl (a.1, a.2, wr (b.2.2 + 1)))
def Lv.J5 (a : (List Lot) × Int) (b : List Lot) : Option (((List Lot) × Int) ⊕ (((List (List Piece)) × (List Lot)))) := some (.inl (b, wr (a.2 + 1)))
def Lv.J6 (d : (List (List Piece)) × (List Lot) × Int) (a : (List Lot) × Int) (c : Nat × Piece) (e : Bool) : Option (((List Lot) × Int) ⊕ (((List (List Piece)) × (List Lot)))) := if e = true then (ix a.1 (wr ((a.1.length : Int) - 1))).bind fun b => Lv.J5 a (a.1.set b.1 (⟨b.2.Batch, wr (b.2.Volume + c.2.Volume), b.2.Done⟩ : Lot)) else (Cp a.1 ([(⟨c.2.Batch, c.2.Volume, d.2.2⟩ : Lot)] : List Lot)).bind fun f => Lv.J5 a f
def Lv.B4 (f : Int) (c : (List (List Piece)) × (List Lot) × Int) (d : (List (List Piece)) × (List (List Piece)) × Int) (a : (List Lot) × Int) : Option (((List Lot) × Int) ⊕ (((List (List Piece)) × (List Lot)))) := (ix d.2.1 f).bind fun e => if decide (a.2 < (e.2.length : Int)) = true then (ix e.2 a.2).bind fun b => if decide ((wr ((a.1.length : Int) - 1)) ≥ 0) = true then (ix a.1 (wr ((a.1.length : Int) - 1))).bind fun g => Lv.J6 c a b (g.2.Batch == b.2.Batch) else Lv.J6 c a b false else some ((.inr ((d.1, a.1))))
def Lv.B2 (c : Network) (d : Plan) (e : Li) (f : Int) (g : Int) (a : (List (List Piece)) × (List Lot) × Int) : Option (((List (List Piece)) × (List Lot) × Int) ⊕ (((List Lot) × Int) ⊕ (List Lot))) := if decide (a.2.2 < g) = true then (Fx c a.1 d e).bind fun b => if (b.2.2 != 0) = true then some ((.inr (.inl (([], b.2.2))))) else (C4 (Lv.B4 f a b) Ek (a.2.1, 0)).bind fun h => Lv.J3 a h else some ((.inr (.inr (a.2.1))))
def Lv (a : Network) (d : List (List Piece)) (g : Plan) (h : Li) (b : Int) (c : Int) : Option ((List Lot) × Int) := (Hq a).bind fun e => if (e != 0) = true then some ([], e) else (Lw a d).bind fun f => if (f != 0) = true then some ([], f) else if (decide (b < 0) || decide (b ≥ (a.Ports.length : Int))) = true then some ([], 8) else if (decide (c < 0) || decide (c > 400)) = true then some ([], 1) else (C4 (Lv.B2 a g h b c) Ek (d, [], 0)).bind fun i => Sum.elim (fun j => some j) (fun k => Lv.J1 k) i
def Rv.J1 (a : Unit) : Option (Int × Bool × Int) := some (0, false, 0)
def Rv.B2 (d : Int) (b : (List Lot) × Int) (a : Int) : Option (Int ⊕ ((Int × Bool × Int) ⊕ Unit)) := if decide (a < (b.1.length : Int)) = true then (ix b.1 a).bind fun c => if (c.2.Batch == d) = true then some ((.inr (.inl ((c.2.Done, true, 0))))) else some (.inl (wr (a + 1))) else some ((.inr (.inr (()))))
def Rv (b : Network) (c : List (List Piece)) (d : Plan) (e : Li) (f : Int) (g : Int) (h : Int) : Option (Int × Bool × Int) := (Lv b c d e f h).bind fun a => if (a.2 != 0) = true then some (0, false, a.2) else (C4 (Rv.B2 g a) Ek 0).bind fun i => Sum.elim (fun j => some j) (fun k => Rv.J1 k) i
def Wy.J1 (a : Unit) : Option Bool := some true
def Wy.B2 (d : List Lot) (e : List Lot) (a : Int) : Option (Int ⊕ (Bool ⊕ Unit)) := if decide (a < (d.length : Int)) = true then (ix d a).bind fun b => (ix e a).bind fun c => if (!((b.2.Batch == c.2.Batch) && ((b.2.Volume == c.2.Volume) && ((b.2.Done == c.2.Done) && true)))) = true then some ((.inr (.inl (false)))) else some (.inl (wr (a + 1))) else some ((.inr (.inr (()))))
def Wy (a : List Lot) (b : List Lot) : Option Bool := if ((a.length : Int) != (b.length : Int)) = true then some false else (C4 (Wy.B2 a b) Ek 0).bind fun c => Sum.elim (fun d => some d) (fun e => Wy.J1 e) c
def Nq (a : Int) : Network := (⟨([(⟨#[97]⟩ : ByteArray), (⟨#[98]⟩ : ByteArray)] : List ByteArray), ([(⟨(⟨#[103]⟩ : ByteArray), 0, 1, a, 0, 0, ([(⟨0, 0, 1000000⟩ : Point), (⟨a, 0, 1000000⟩ : Point)] : List Point)⟩ : Segment)] : List Segment), ([(⟨(⟨#[112]⟩ : ByteArray), 0, 300000⟩ : Port), (⟨(⟨#[113]⟩ : ByteArray), 1, 0⟩ : Port)] : List Port), [], 0, 0⟩ : Network)
def Qu : Option Bool := (Rq (Nq 100) ([([(⟨1, 30⟩ : Piece), (⟨2, 70⟩ : Piece)] : List Piece)] : List (List Piece)) ([(⟨0, false⟩ : Hop)] : List Hop) 1).bind fun a => (Il a.1 8).bind fun c => (Lu (Nq 100) ([([(⟨1, 30⟩ : Piece), (⟨2, 70⟩ : Piece)] : List Piece)] : List (List Piece)) (⟨([8] : Li), ([8, (-8)] : Li), []⟩ : Plan) ([3, 0] : Li) 1 1 20).bind fun b => some ((a.2.2 == 0) && ((c.2 == 0) && ((b.2.2 == 0) && (a.2.1 && (b.2.1 && ((a.1 == 70) && ((c.1 == 8) && (b.1 == 8))))))))
structure Path where
 In : Int
 Out : Int
 Hops : List Hop
 Rate : Int
 deriving DecidableEq
def Gh (x : Path) : List T := [.V x.In, .V x.Out, .list 2 (x.Hops.map Df), .V x.Rate]
def R5.J1 (a : Unit) : Option (Hop × Bool) := some ((⟨0, false⟩ : Hop), false)
def R5.J3 (b : Li) (a : Int) (c : Bool) : Option (Int ⊕ ((Hop × Bool) ⊕ Unit)) := if c = true then (ix b a).bind fun d => some ((.inr (.inl (((⟨a, decide (d.2 < 0)⟩ : Hop), true))))) else some (.inl (wr (a + 1)))
def R5.B2 (e : Network) (b : Li) (c : Int) (a : Int) : Option (Int ⊕ ((Hop × Bool) ⊕ Unit)) := if decide (a < (b.length : Int)) = true then (ix b a).bind fun d => if decide (d.2 > 0) = true then (ix e.Segments a).bind fun f => if (f.2.From == c) = true then R5.J3 b a true else if decide (d.2 < 0) = true then R5.J3 b a (f.2.To == c) else R5.J3 b a false else if decide (d.2 < 0) = true then (ix e.Segments a).bind fun g => R5.J3 b a (g.2.To == c) else R5.J3 b a false else some ((.inr (.inr (()))))
def R5 (a : Network) (b : Li) (c : Int) : Option (Hop × Bool) := (C4 (R5.B2 a b c) Ek 0).bind fun d => Sum.elim (fun e => some e) (fun f => R5.J1 f) d
def Rj (a : Int) : Int := (max a (wr (0 - a)))
def Wp.J1 (b : Int) (a : (List Hop) × Int) : Option (Path × Bool) := some ((⟨b, 0, a.1, a.2⟩ : Path), false)
def Wp.J3 (b : (List Hop) × Int × Int × Int) (a : (List Hop) × Int × Int) : Option (((List Hop) × Int × Int × Int) ⊕ ((Path × Bool) ⊕ ((List Hop) × Int))) := some (.inl (a.1, a.2.1, a.2.2, wr (b.2.2.2 + 1)))
def Wp.J4 (c : Network) (d : Li) (e : Int) (a : (List Hop) × Int × Int × Int) (i : Unit) : Option (((List Hop) × Int × Int × Int) ⊕ ((Path × Bool) ⊕ ((List Hop) × Int))) := (R5 c d a.2.2.1).bind fun b => if (!b.2) = true then some ((.inr (.inl (((⟨e, 0, a.1, a.2.1⟩ : Path), false))))) else (Cp a.1 ([b.1] : List Hop)).bind fun f => (ix d b.1.Segment).bind fun g => (Lr c b.1).bind fun h => Wp.J3 a (f, (min a.2.1 (Rj g.2)), h.2)
def Wp.J6 (c : Li) (d : Int) (b : (List Hop) × Int × Int × Int) (a : Int) (e : Bool) : Option (Int ⊕ ((Path × Bool) ⊕ Unit)) := if e = true then (ix c a).bind fun f => some ((.inr (.inl (((⟨d, a, b.1, (min b.2.1 (wr (0 - f.2)))⟩ : Path), true))))) else some (.inl (wr (a + 1)))
def Wp.B5 (e : Network) (b : Li) (d : Int) (c : (List Hop) × Int × Int × Int) (a : Int) : Option (Int ⊕ ((Path × Bool) ⊕ Unit)) := if decide (a < (b.length : Int)) = true then (ix e.Ports a).bind fun f => if (f.2.Node == c.2.2.1) = true then (ix b a).bind fun g => Wp.J6 b d c a (decide (g.2 < 0)) else Wp.J6 b d c a false else some ((.inr (.inr (()))))
def Wp.B2 (b : Network) (d : Li) (e : Li) (c : Int) (a : (List Hop) × Int × Int × Int) : Option (((List Hop) × Int × Int × Int) ⊕ ((Path × Bool) ⊕ ((List Hop) × Int))) := if decide (a.2.2.2 ≤ (b.Nodes.length : Int)) = true then (C4 (Wp.B5 b e c a) Ek 0).bind fun f => Sum.elim (fun g => some ((.inr (.inl (g))))) (fun h => Wp.J4 b d c a h) f else some ((.inr (.inr ((a.1, a.2.1)))))
def Wp (b : Network) (d : Li) (c : Li) (a : Int) : Option (Path × Bool) := (ix c a).bind fun e => (ix b.Ports a).bind fun f => (C4 (Wp.B2 b d c a) Ek ([], e.2, f.2.Node, 0)).bind fun g => Sum.elim (fun h => some h) (fun i => Wp.J1 a i) g
def Wj.J1 (a : List Path) : Option ((List Path) × Int) := some (a, 0)
def Wj.J3 (b : Li × Li × (List Path) × Int) (a : Li × Li × (List Path)) : Option ((Li × Li × (List Path) × Int) ⊕ (((List Path) × Int) ⊕ (List Path))) := some (.inl (a.1, a.2.1, a.2.2, wr (b.2.2.2 + 1)))
def Wj.J5 (b : Li × Li × (List Path)) (a : Path × Bool) (c : Nat × Int) (d : Nat × Int) (e : Li) : Option ((Li × Li × (List Path)) ⊕ (((List Path) × Int) ⊕ (Li × Li × (List Path)))) := (Cp b.2.2 ([a.1] : List Path)).bind fun f => some (.inl (e, ((b.2.1.set c.1 (wr (c.2 - a.1.Rate))).set d.1 (wr (d.2 + a.1.Rate))), f))
def Wj.J7 (a : Li × Int) (b : Li) : Option ((Li × Int) ⊕ (Li)) := some (.inl (b, wr (a.2 + 1)))
def Wj.B6 (b : Path × Bool) (a : Li × Int) : Option ((Li × Int) ⊕ (Li)) := if decide (a.2 < (b.1.Hops.length : Int)) = true then (ix b.1.Hops a.2).bind fun c => if c.2.Back = true then (ix a.1 c.2.Segment).bind fun d => Wj.J7 a (a.1.set d.1 (wr (d.2 + b.1.Rate))) else (ix a.1 c.2.Segment).bind fun e => Wj.J7 a (a.1.set e.1 (wr (e.2 - b.1.Rate))) else some ((.inr (a.1)))
def Wj.B4 (e : Network) (d : Li × Li × (List Path) × Int) (a : Li × Li × (List Path)) : Option ((Li × Li × (List Path)) ⊕ (((List Path) × Int) ⊕ (Li × Li × (List Path)))) := (ix a.2.1 d.2.2.2).bind fun f => if decide (f.2 > 0) = true then (Wp e a.1 a.2.1 d.2.2.2).bind fun b => if ((!b.2) || (((a.2.2.length : Int) == 64) || decide ((b.1.Hops.length : Int) > 32))) = true then some ((.inr (.inl (([], 23))))) else (ix a.2.1 b.1.In).bind fun c => (ix (a.2.1.set c.1 (wr (c.2 - b.1.Rate))) b.1.Out).bind fun g => (C4 (Wj.B6 b) Ek (a.1, 0)).bind fun h => Wj.J5 a b c g h else some ((.inr (.inr ((a.1, a.2.1, a.2.2)))))
def Wj.B2 (b : Network) (a : Li × Li × (List Path) × Int) : Option ((Li × Li × (List Path) × Int) ⊕ (((List Path) × Int) ⊕ (List Path))) := if decide (a.2.2.2 < (a.2.1.length : Int)) = true then (C4 (Wj.B4 b a) Ek (a.1, a.2.1, a.2.2.1)).bind fun c => Sum.elim (fun d => some ((.inr (.inl (d))))) (fun e => Wj.J3 a e) c else some ((.inr (.inr (a.2.2.1))))
def Wj (b : Network) (a : Plan) : Option ((List Path) × Int) := (Jj b a).bind fun c => if (c != 0) = true then some ([], c) else (Cp ([] : Li) a.Rates).bind fun d => (Cp ([] : Li) a.Ports).bind fun e => (C4 (Wj.B2 b) Ek (d, e, [], 0)).bind fun f => Sum.elim (fun g => some g) (fun h => Wj.J1 h) f
def aS (a : Path) : Option Path := (Cp ([] : List Hop) a.Hops).bind fun b => some (⟨a.In, a.Out, b, a.Rate⟩ : Path)
def aT.J4 (a : Bool) : Option Bool := some a
def aT.J3 (c : Int) (d : Int) (e : Li × Int × (List (List Piece)) × Li × Li × (List Bool) × Li) (b : Int × KS) (l : Int × KS) (a : (List ByteArray) × (List Segment) × (List Port) × (List Station) × Int × Int × (List (List Piece)) × Li × Li × (List Bool) × Int × Int × (List Hop) × (List Piece)) : Option Bool := (Wn a.2.2.2.2.2.2.2.2.2.2.2.2.2 b.1 (l.1 == 0)).bind fun f => (Wm a.2.2.2.2.2.2.2.2.2.2.2.2.2 b.1 (l.1 == 0)).bind fun g => (Rq (⟨a.1, a.2.1, a.2.2.1, a.2.2.2.1, a.2.2.2.2.1, a.2.2.2.2.2.1⟩ : Network) a.2.2.2.2.2.2.1 a.2.2.2.2.2.2.2.2.2.2.2.2.1 b.1).bind fun h => (W7 (⟨a.1, a.2.1, a.2.2.1, a.2.2.2.1, a.2.2.2.2.1, a.2.2.2.2.2.1⟩ : Network) a.2.2.2.2.2.2.1 a.2.2.2.2.2.2.2.2.2.2.2.2.1 b.1).bind fun i => if ((f.1 != g.1) || ((f.2.1 != g.2.1) || ((f.2.2 != g.2.2) || ((h.1 != i.1) || ((h.2.1 != i.2.1) || (h.2.2 != i.2.2)))))) = true then some false else (Fy c 1003).bind fun s => (Il d (wr (s - 1))).bind fun m => (Fy c 1003).bind fun t => (Np d (wr (t - 1))).bind fun n => (Fy d 5000).bind fun u => (Fy c 90).bind fun v => (Il u (wr (1 + v))).bind fun o => (Fy d 5000).bind fun w => (Fy c 90).bind fun x => (Np w (wr (1 + x))).bind fun p => if ((m.1 != n.1) || ((m.2 != n.2) || ((o.1 != p.1) || (o.2 != p.2)))) = true then some false else (Nu (⟨a.1, a.2.1, a.2.2.1, a.2.2.2.1, a.2.2.2.2.1, a.2.2.2.2.2.1⟩ : Network) a.2.2.2.2.2.2.1 (⟨a.2.2.2.2.2.2.2.1, a.2.2.2.2.2.2.2.2.1, a.2.2.2.2.2.2.2.2.2.1⟩ : Plan) e.2.2.2.2.2.2 a.2.2.2.2.2.2.2.2.2.2.1 a.2.2.2.2.2.2.2.2.2.2.2.1).bind fun q => (Lv (⟨a.1, a.2.1, a.2.2.1, a.2.2.2.1, a.2.2.2.2.1, a.2.2.2.2.2.1⟩ : Network) a.2.2.2.2.2.2.1 (⟨a.2.2.2.2.2.2.2.1, a.2.2.2.2.2.2.2.2.1, a.2.2.2.2.2.2.2.2.2.1⟩ : Plan) e.2.2.2.2.2.2 a.2.2.2.2.2.2.2.2.2.2.1 a.2.2.2.2.2.2.2.2.2.2.2.1).bind fun r => (Lu (⟨a.1, a.2.1, a.2.2.1, a.2.2.2.1, a.2.2.2.2.1, a.2.2.2.2.2.1⟩ : Network) a.2.2.2.2.2.2.1 (⟨a.2.2.2.2.2.2.2.1, a.2.2.2.2.2.2.2.2.1, a.2.2.2.2.2.2.2.2.2.1⟩ : Plan) e.2.2.2.2.2.2 a.2.2.2.2.2.2.2.2.2.2.1 b.1 a.2.2.2.2.2.2.2.2.2.2.2.1).bind fun j => (Rv (⟨a.1, a.2.1, a.2.2.1, a.2.2.2.1, a.2.2.2.2.1, a.2.2.2.2.2.1⟩ : Network) a.2.2.2.2.2.2.1 (⟨a.2.2.2.2.2.2.2.1, a.2.2.2.2.2.2.2.2.1, a.2.2.2.2.2.2.2.2.2.1⟩ : Plan) e.2.2.2.2.2.2 a.2.2.2.2.2.2.2.2.2.2.1 b.1 a.2.2.2.2.2.2.2.2.2.2.2.1).bind fun k => if (q.2 == r.2) = true then if (j.2.2 == k.2.2) = true then if (j.1 == k.1) = true then if (j.2.1 == k.2.1) = true then (Wy q.1 r.1).bind fun y => if y = true then (Qu).bind fun z => aT.J4 z else aT.J4 false else aT.J4 false else aT.J4 false else aT.J4 false else aT.J4 false
def aT.J2 (e : Int) (c : Int) (a : Network × KS) (b : Li × Int × (List (List Piece)) × Li × Li × (List Bool) × Li) (g : Int × KS) (i : Int × KS) (j : Int × KS) (d : Li × Int × (List Hop)) : Option Bool := (C0 (⟨d.1, d.2.1⟩ : KS) 2).bind fun f => (C0 f.2 (b.2.2.1.length : Int)).bind fun m => (ix b.2.2.1 m.1).bind fun h => (Fy e 14).bind fun k => if (k == 0) = true then (R6 m.2 a.1).bind fun l => aT.J3 e c b g f (l.1.Nodes, l.1.Segments, l.1.Ports, l.1.Stations, l.1.Vapour, l.1.Settle, b.2.2.1, b.2.2.2.1, b.2.2.2.2.1, b.2.2.2.2.2.1, i.1, j.1, d.2.2, h.2) else if (k == 1) = true then (Ri m.2 (⟨b.2.2.2.1, b.2.2.2.2.1, b.2.2.2.2.2.1⟩ : Plan)).bind fun n => aT.J3 e c b g f (a.1.Nodes, a.1.Segments, a.1.Ports, a.1.Stations, a.1.Vapour, a.1.Settle, b.2.2.1, n.1.Rates, n.1.Ports, n.1.Pumps, i.1, j.1, d.2.2, h.2) else if (k == 2) = true then (Fy c 30).bind fun p => aT.J3 e c b g f (a.1.Nodes, a.1.Segments, a.1.Ports, a.1.Stations, a.1.Vapour, a.1.Settle, b.2.2.1, b.2.2.2.1, b.2.2.2.2.1, b.2.2.2.2.2.1, wr (p - 2), j.1, d.2.2, h.2) else if (k == 3) = true then (Fy c 2).bind fun q => (ix ([(-1), 401] : Li) q).bind fun r => aT.J3 e c b g f (a.1.Nodes, a.1.Segments, a.1.Ports, a.1.Stations, a.1.Vapour, a.1.Settle, b.2.2.1, b.2.2.2.1, b.2.2.2.2.1, b.2.2.2.2.2.1, i.1, r.2, d.2.2, h.2) else if (k == 4) = true then if decide ((d.2.2.length : Int) > 0) = true then (ix d.2.2 0).bind fun o => aT.J3 e c b g f (a.1.Nodes, a.1.Segments, a.1.Ports, a.1.Stations, a.1.Vapour, a.1.Settle, b.2.2.1, b.2.2.2.1, b.2.2.2.2.1, b.2.2.2.2.2.1, i.1, j.1, (d.2.2.set o.1 (⟨o.2.Segment, (!o.2.Back)⟩ : Hop)), h.2) else aT.J3 e c b g f (a.1.Nodes, a.1.Segments, a.1.Ports, a.1.Stations, a.1.Vapour, a.1.Settle, b.2.2.1, b.2.2.2.1, b.2.2.2.2.1, b.2.2.2.2.2.1, i.1, j.1, d.2.2, h.2) else if (k == 5) = true then (Fy c 40).bind fun s => (Cp d.2.2 ([(⟨wr (s - 2), false⟩ : Hop)] : List Hop)).bind fun t => aT.J3 e c b g f (a.1.Nodes, a.1.Segments, a.1.Ports, a.1.Stations, a.1.Vapour, a.1.Settle, b.2.2.1, b.2.2.2.1, b.2.2.2.2.1, b.2.2.2.2.2.1, i.1, j.1, t, h.2) else if (k == 6) = true then (Cp ([(⟨0, c⟩ : Piece)] : List Piece) h.2).bind fun u => aT.J3 e c b g f (a.1.Nodes, a.1.Segments, a.1.Ports, a.1.Stations, a.1.Vapour, a.1.Settle, b.2.2.1, b.2.2.2.1, b.2.2.2.2.1, b.2.2.2.2.2.1, i.1, j.1, d.2.2, u) else if (k == 7) = true then (Tu b.2.2.1 1 (b.2.2.1.length : Int)).bind fun v => aT.J3 e c b g f (a.1.Nodes, a.1.Segments, a.1.Ports, a.1.Stations, a.1.Vapour, a.1.Settle, v, b.2.2.2.1, b.2.2.2.2.1, b.2.2.2.2.2.1, i.1, j.1, d.2.2, h.2) else aT.J3 e c b g f (a.1.Nodes, a.1.Segments, a.1.Ports, a.1.Stations, a.1.Vapour, a.1.Settle, b.2.2.1, b.2.2.2.1, b.2.2.2.2.1, b.2.2.2.2.2.1, i.1, j.1, d.2.2, h.2)
def aT.J1 (h : Int) (i : Int) (c : Network × KS) (a : Li × Int × (List (List Piece)) × Li × Li × (List Bool) × Li) : Option Bool := (C0 (⟨a.1, a.2.1⟩ : KS) 6).bind fun d => (C0 d.2 (c.1.Ports.length : Int)).bind fun e => (C0 e.2 14).bind fun b => (Wj c.1 (⟨a.2.2.2.1, a.2.2.2.2.1, a.2.2.2.2.2.1⟩ : Plan)).bind fun f => if decide ((f.1.length : Int) > 0) = true then (C0 b.2 (f.1.length : Int)).bind fun g => (ix f.1 g.1).bind fun j => (aS j.2).bind fun k => aT.J2 h i c a d e b (g.2.L_, g.2.At, k.Hops) else aT.J2 h i c a d e b (b.2.L_, b.2.At, [])
def aT (d : Li) (f : Int) (g : Int) : Option Bool := if (!(aQ d)) = true then (Qu).bind fun h => some h else (Ww d).bind fun i => (W8 i).bind fun a => (R4 a.2 a.1 5).bind fun e => (Rk e.2 a.1).bind fun b => (Qz b.2 a.1 5).bind fun c => aT.J1 f g a (c.2.L_, c.2.At, e.1, b.1.Rates, b.1.Ports, b.1.Pumps, c.1)
abbrev Nw := Network
abbrev Sg := Segment
abbrev Sn := Station
abbrev Bt := ByteArray
abbrev U0 := fun (v : Value) l => Ob.us v 3 1 (List.map rI l)
abbrev U1 := fun (v : Value) l => Ob.us v 69 2 (List.map Aa l)
abbrev U2 := fun (v : Value) l => Ob.us v 9 1 (List.map rS l)
abbrev U3 := fun (v : Value) l => Ob.us v 67 2 (List.map Df l)
abbrev U4 := fun (v : Value) l => Ob.us v 4 1 (List.map rB l)
abbrev U5 := fun (v : Value) l => Ob.us v 129 3 (List.map E1 l)
abbrev U6 := fun (v : Value) l => Ob.us v 89 7 (List.map Ar l)
abbrev U7 := fun (v : Value) l => Ob.us v 82 3 (List.map Ca l)
abbrev U8 := fun (v : Value) l => Ob.us v 95 5 (List.map Bu l)
abbrev U9 := fun (v : Value) l => Ob.us v 62 4 (List.map Gh l)
abbrev qN := fun (v : Value) l => Ob.us v 86 3 (List.map Cy l)
abbrev Q0 := fun l => T.list 1 (List.map rI l)
abbrev Q1 := fun l => T.list 1 (List.map rS l)
abbrev Q2 := fun l => T.list 2 (List.map Aa l)
abbrev Q3 := fun l => T.list 1 (List.map rB l)
abbrev Q4 := fun l => T.list 3 (List.map Ca l)
abbrev Q5 := fun l => T.list 5 (List.map Bu l)
abbrev Q6 := fun l => T.list 7 (List.map Ar l)
abbrev Q7 := fun l => T.list 2 (List.map Df l)
abbrev Q8 := fun l => T.list 3 (List.map Cy l)
abbrev O0 := fun (b : Nat) e => Ob.arr b 27 6 1 e
abbrev O1 := fun (b : Nat) e => Ob.arr b 32 3 1 e
abbrev O2 := fun (b : Nat) e => Ob.arr b 91 2 1 e
abbrev O3 := fun (b : Nat) e => Ob.arr b 106 14 1 e
abbrev O4 := fun (b : Nat) e => Ob.arr b 132 4 1 e
abbrev O5 := fun (b : Nat) e => Ob.arr b 89 7 1 e
abbrev O6 := fun (b : Nat) e => Ob.arr b 175 48 1 e
abbrev O7 := fun (b : Nat) e => Ob.arr b 62 4 1 e
abbrev O8 := fun (b : Nat) e => Ob.arr b 69 2 1 e
abbrev O9 := fun (b : Nat) e => Ob.arr b 180 129 1 e
abbrev W0 : List T := [.N, .N, .N]
abbrev W1 : List T := [.N, .N, .N, .N, .V 0, .V 0]
abbrev W2 : List T := [.v (.string ⟨#[]⟩), .V 0, .V 0, .V 0, .V 0, .V 0, .N]
abbrev W3 : List T := [.N, .N, .N, .N]
abbrev W4 : List T := [.v (.string ⟨#[]⟩), .V 0, .V 0]
abbrev W5 : List T := [.V 0, .V 0, .N, .V 0]
abbrev W6 : List T := [.v (.string ⟨#[]⟩), .V 0, .V 0, .V 0, .V 0]
end Go.Proofs.YtaoclefkknloiaaGreat
