/- Tables and pure functions. No condition. -/
import Derived.Test.YtaoclefkknloiaaGreatZwB2
import Derived.Test.YtaoclefkknloiaaGreatRows
import Derived.KernelRfl
import Derived.Test.YtaoclefkknloiaaGreatZwB3
set_option maxRecDepth 100000
namespace Go.Aw
set_option linter.unusedVariables false
set_option linter.unusedSimpArgs false
inductive TT where
 | nil
 | node (l : TT) (k : Nat) (x : TI) (r : TT)
def Pw : TT → Nat → Option TI
 | .nil, _ => none
 | .node l k x r, i => bif Nat.beq k i then some x else bif Nat.ble k i then Pw r i else Pw l i
def Zr (P : Program) : TT → Prop
 | .nil => True
 | .node l k x r => Zr P l ∧ Ja P k = some x ∧ Zr P r
theorem R4 {P : Program} : ∀ {t : TT} {i : Nat} {x : TI}, Zr P t → Pw t i = some x → Ja P i = some x
 | .nil, _, _, _, h => by simp [Pw] at h
 | .node l k y r, i, x, ha, h => by
  simp only [Pw] at h
  cases hb : Nat.beq k i with
  | true =>
   have := nq hb
   simp only [hb, cond_true, Option.some.injEq] at h
   subst h this; exact ha.2.1
  | false =>
   simp only [hb, cond_false] at h
   cases hc : Nat.ble k i with
   | true => simp only [hc, cond_true] at h; exact R4 ha.2.2 h
   | false => simp only [hc, cond_false] at h; exact R4 ha.1 h
abbrev zI : Value := .int .i64 0
abbrev zN : Value := .slice none 0 0
abbrev zT (k : Nat) : TI := { kind := .slice k, size := 1, bytes := 24, zero := some zN }
abbrev zS (f : List (Nat × Nat)) (s b : Nat) (z : Array Value) : TI := { kind := .struct f, size := s, bytes := b, zero := some (.agg z) }
abbrev zA (n t s b : Nat) (z : Array Value) : TI := { kind := .array n t, size := s, bytes := b, zero := some (.agg z) }
end Go.Aw
namespace Go.Proofs.YtaoclefkknloiaaGreat
open Go.Aw
abbrev mO : TI := { kind := .int .i64, size := 1, bytes := 8, zero := some (.int .i64 0) }
abbrev mN : TI := { kind := .bool, size := 1, bytes := 1, zero := some (.bool false) }
abbrev mM : TI := { kind := .int .u8, size := 1, bytes := 1, zero := some (.int .u8 0) }
abbrev mL : TI := { kind := .string, size := 1, bytes := 16, zero := some (.string ⟨#[]⟩) }
abbrev kC : TI := zT 9
abbrev kB : TI := zT 89
abbrev kA : TI := zT 82
abbrev jZ : TI := zT 95
abbrev jY : TI := zS [(0, 22), (1, 23), (2, 24), (3, 25), (4, 3), (5, 3)] 6 112 #[zN, zN, zN, zN, zI, zI]
abbrev jX : TI := zT 34
abbrev jW : TI := zT 3
abbrev jV : TI := zT 4
abbrev jU : TI := zS [(0, 29), (1, 29), (2, 30)] 3 72 #[zN, zN, zN]
abbrev jT : TI := zT 69
abbrev jS : TI := zT 27
abbrev jR : TI := zT 28
abbrev jQ : TI := { kind := .int .i64, size := 1, bytes := 8, zero := some (.int .i64 0) }
abbrev jP : TI := zT 32
abbrev jO : TI := zT 29
abbrev jN : TI := zT 67
abbrev jM : TI := zT 62
abbrev jL : TI := zS [(0, 3), (1, 3), (2, 57), (3, 3)] 4 48 #[zI, zI, zN, zI]
abbrev jK : TI := zS [(0, 3), (1, 4)] 2 16 #[zI, .bool false]
abbrev jJ : TI := zS [(0, 3), (1, 3)] 2 16 #[zI, zI]
abbrev jI : TI := zT 129
abbrev jH : TI := zS [(0, 9), (1, 3), (2, 3)] 3 32 #[.string ⟨#[]⟩, zI, zI]
abbrev jG : TI := zA 2 3 2 16 #[zI, zI]
abbrev jF : TI := zT 83
abbrev jE : TI := zS [(0, 3), (1, 3), (2, 3)] 3 24 #[zI, zI, zI]
abbrev jD : TI := zT 86
abbrev jC : TI := zS [(0, 9), (1, 3), (2, 3), (3, 3), (4, 3), (5, 3), (6, 87)] 7 80 #[.string ⟨#[]⟩, zI, zI, zI, zI, zI, zN]
abbrev iZ : TI := zS [(0, 29), (1, 3)] 2 32 #[zN, zI]
abbrev iY : TI := zS [(0, 9), (1, 3), (2, 3), (3, 3), (4, 3)] 5 48 #[.string ⟨#[]⟩, zI, zI, zI, zI]
abbrev cD : TI := { kind := .other, size := 1, bytes := 8, zero := some (.pointer none) }
abbrev cC : TI := zS [(0, 27), (6, 32), (9, 29), (10, 29), (11, 28), (12, 28), (13, 28)] 14 304 #[zN, zN, zN, zN, zI, zI, zN, zN, zN, zN, zN, zN, zN, zN]
abbrev cB : TI := zS [(0, 3), (1, 3), (2, 3)] 3 24 #[zI, zI, zI]
abbrev cA : TI := zT 5
abbrev bZ : TI := zA 4 22 4 96 #[zN, zN, zN, zN]
abbrev bY : TI := zA 24 3 24 192 #[zI, zI, zI, zI, zI, zI, zI, zI, zI, zI, zI, zI, zI, zI, zI, zI, zI, zI, zI, zI, zI, zI, zI, zI]
abbrev bX : TI := zS [(0, 173), (24, 173)] 48 384 #[zI, zI, zI, zI, zI, zI, zI, zI, zI, zI, zI, zI, zI, zI, zI, zI, zI, zI, zI, zI, zI, zI, zI, zI, zI, zI, zI, zI, zI, zI, zI, zI, zI, zI, zI, zI, zI, zI, zI, zI, zI, zI, zI, zI, zI, zI, zI, zI]
abbrev bW : TI := zA 64 3 64 512 #[zI, zI, zI, zI, zI, zI, zI, zI, zI, zI, zI, zI, zI, zI, zI, zI, zI, zI, zI, zI, zI, zI, zI, zI, zI, zI, zI, zI, zI, zI, zI, zI, zI, zI, zI, zI, zI, zI, zI, zI, zI, zI, zI, zI, zI, zI, zI, zI, zI, zI, zI, zI, zI, zI, zI, zI, zI, zI, zI, zI, zI, zI, zI, zI]
abbrev bV : TI := zS [(0, 3), (1, 178), (65, 178)] 129 1032 #[zI, zI, zI, zI, zI, zI, zI, zI, zI, zI, zI, zI, zI, zI, zI, zI, zI, zI, zI, zI, zI, zI, zI, zI, zI, zI, zI, zI, zI, zI, zI, zI, zI, zI, zI, zI, zI, zI, zI, zI, zI, zI, zI, zI, zI, zI, zI, zI, zI, zI, zI, zI, zI, zI, zI, zI, zI, zI, zI, zI, zI, zI, zI, zI, zI, zI, zI, zI, zI, zI, zI, zI, zI, zI, zI, zI, zI, zI, zI, zI, zI, zI, zI, zI, zI, zI, zI, zI, zI, zI, zI, zI, zI, zI, zI, zI, zI, zI, zI, zI, zI, zI, zI, zI, zI, zI, zI, zI, zI, zI, zI, zI, zI, zI, zI, zI, zI, zI, zI, zI, zI, zI, zI, zI, zI, zI, zI, zI, zI]
def Og : TT := (.node (.node (.node (.node (.node (.node .nil 3 mO .nil) 4 mN .nil) 5 mM (.node (.node .nil 9 mL .nil) 22 kC .nil)) 23 kB (.node (.node (.node .nil 24 kA .nil) 25 jZ .nil) 27 jY (.node .nil 28 jX .nil))) 29 jW (.node (.node (.node (.node .nil 30 jV .nil) 32 jU .nil) 34 jT (.node (.node .nil 44 jS .nil) 45 jR .nil)) 46 jQ (.node (.node (.node .nil 49 jP .nil) 50 jO .nil) 57 jN (.node .nil 58 jM .nil)))) 62 jL (.node (.node (.node (.node (.node .nil 67 jK .nil) 69 jJ .nil) 75 jI (.node (.node .nil 82 jH .nil) 83 jG .nil)) 84 jF (.node (.node (.node .nil 86 jE .nil) 87 jD .nil) 89 jC (.node .nil 91 iZ .nil))) 95 iY (.node (.node (.node (.node .nil 101 cD .nil) 106 cC .nil) 129 cB (.node .nil 130 cA .nil)) 132 bZ (.node (.node (.node .nil 173 bY .nil) 175 bX .nil) 178 bW (.node .nil 180 bV .nil)))))
theorem X4 : Zr Tryz.prog Og :=
 ⟨⟨⟨⟨⟨⟨trivial, by kernel_rfl, trivial⟩, by kernel_rfl, trivial⟩, by kernel_rfl, ⟨⟨trivial, by kernel_rfl, trivial⟩, by kernel_rfl, trivial⟩⟩, by kernel_rfl, ⟨⟨⟨trivial, by kernel_rfl, trivial⟩, by kernel_rfl, trivial⟩, by kernel_rfl, ⟨trivial, by kernel_rfl, trivial⟩⟩⟩, by kernel_rfl, ⟨⟨⟨⟨trivial, by kernel_rfl, trivial⟩, by kernel_rfl, trivial⟩, by kernel_rfl, ⟨⟨trivial, by kernel_rfl, trivial⟩, by kernel_rfl, trivial⟩⟩, by kernel_rfl, ⟨⟨⟨trivial, by kernel_rfl, trivial⟩, by kernel_rfl, trivial⟩, by kernel_rfl, ⟨trivial, by kernel_rfl, trivial⟩⟩⟩⟩, by kernel_rfl, ⟨⟨⟨⟨⟨trivial, by kernel_rfl, trivial⟩, by kernel_rfl, trivial⟩, by kernel_rfl, ⟨⟨trivial, by kernel_rfl, trivial⟩, by kernel_rfl, trivial⟩⟩, by kernel_rfl, ⟨⟨⟨trivial, by kernel_rfl, trivial⟩, by kernel_rfl, trivial⟩, by kernel_rfl, ⟨trivial, by kernel_rfl, trivial⟩⟩⟩, by kernel_rfl, ⟨⟨⟨⟨trivial, by kernel_rfl, trivial⟩, by kernel_rfl, trivial⟩, by kernel_rfl, ⟨trivial, by kernel_rfl, trivial⟩⟩, by kernel_rfl, ⟨⟨⟨trivial, by kernel_rfl, trivial⟩, by kernel_rfl, trivial⟩, by kernel_rfl, ⟨trivial, by kernel_rfl, trivial⟩⟩⟩⟩⟩
theorem Zg : Tryz.prog.follows .mixedOrders = true := by kernel_rfl
theorem Zf (t : Nat) (i : TI) (h : Pw Og t = some i) : Ja Tryz.prog t = some i := R4 X4 h
noncomputable def Al : Env := ⟨Tryz.prog, Pw Og, Zf, Zg⟩
theorem Sp : Bld Al 27 [(0, 1), (1, 1), (2, 1), (3, 1), (4, 1), (5, 1)] [.N, .N, .N, .N, .V 0, .V 0] := ⟨⟨_, _, _, I7⟩⟩
theorem Iz : Bld Al 32 [(0, 1), (1, 1), (2, 1)] [.N, .N, .N] := ⟨⟨_, _, _, I7⟩⟩
theorem Ct : Bld Al 69 [(0, 1), (1, 1)] [.V 0, .V 0] := ⟨⟨_, _, _, I7⟩⟩
theorem Hb : Bld Al 82 [(0, 1), (1, 1), (2, 1)] [.v (.string ⟨#[]⟩), .V 0, .V 0] := ⟨⟨_, _, _, I7⟩⟩
theorem F5 : Bld Al 86 [(0, 1), (1, 1), (2, 1)] [.V 0, .V 0, .V 0] := ⟨⟨_, _, _, I7⟩⟩
theorem Ha : Bld Al 89 [(0, 1), (1, 1), (2, 1), (3, 1), (4, 1), (5, 1), (6, 1)] [.v (.string ⟨#[]⟩), .V 0, .V 0, .V 0, .V 0, .V 0, .N] := ⟨⟨_, _, _, I7⟩⟩
theorem Zj : Bld Al 91 [(0, 1), (1, 1)] [.N, .V 0] := ⟨⟨_, _, _, I7⟩⟩
theorem Zi : Bld Al 95 [(0, 1), (1, 1), (2, 1), (3, 1), (4, 1)] [.v (.string ⟨#[]⟩), .V 0, .V 0, .V 0, .V 0] := ⟨⟨_, _, _, I7⟩⟩
theorem X6 : Bld Al 106 [(0, 6), (6, 3), (9, 1), (10, 1), (11, 1), (12, 1), (13, 1)] [.N, .N, .N, .N, .V 0, .V 0, .N, .N, .N, .N, .N, .N, .N, .N] := ⟨⟨_, _, _, I7⟩⟩
theorem X5 : Bld Al 180 [(0, 1), (1, 64), (65, 64)] [.V 0, .V 0, .V 0, .V 0, .V 0, .V 0, .V 0, .V 0, .V 0, .V 0, .V 0, .V 0, .V 0, .V 0, .V 0, .V 0, .V 0, .V 0, .V 0, .V 0, .V 0, .V 0, .V 0, .V 0, .V 0, .V 0, .V 0, .V 0, .V 0, .V 0, .V 0, .V 0, .V 0, .V 0, .V 0, .V 0, .V 0, .V 0, .V 0, .V 0, .V 0, .V 0, .V 0, .V 0, .V 0, .V 0, .V 0, .V 0, .V 0, .V 0, .V 0, .V 0, .V 0, .V 0, .V 0, .V 0, .V 0, .V 0, .V 0, .V 0, .V 0, .V 0, .V 0, .V 0, .V 0, .V 0, .V 0, .V 0, .V 0, .V 0, .V 0, .V 0, .V 0, .V 0, .V 0, .V 0, .V 0, .V 0, .V 0, .V 0, .V 0, .V 0, .V 0, .V 0, .V 0, .V 0, .V 0, .V 0, .V 0, .V 0, .V 0, .V 0, .V 0, .V 0, .V 0, .V 0, .V 0, .V 0, .V 0, .V 0, .V 0, .V 0, .V 0, .V 0, .V 0, .V 0, .V 0, .V 0, .V 0, .V 0, .V 0, .V 0, .V 0, .V 0, .V 0, .V 0, .V 0, .V 0, .V 0, .V 0, .V 0, .V 0, .V 0, .V 0, .V 0, .V 0, .V 0, .V 0, .V 0] := ⟨⟨_, _, _, I7⟩⟩
theorem Ty : kR Tryz.prog 69 = true := by kernel_rfl
theorem Zh : fG Tryz.prog 173 = true := by kernel_rfl
set_option linter.unusedVariables false
set_option linter.unusedSimpArgs false
structure Point where
 At : Int
 Height : Int
 Limit : Int
 deriving DecidableEq
def Bx (x : Point) : List T := [.V x.At, .V x.Height, .V x.Limit]
structure Segment where
 Name : ByteArray
 From : Int
 To : Int
 Capacity : Int
 Resist : Int
 Wave : Int
 Points : List Point
 deriving DecidableEq
def Au (x : Segment) : List T := [.v (.string x.Name), .V x.From, .V x.To, .V x.Capacity, .V x.Resist, .V x.Wave, .list 3 (x.Points.map Bx)]
structure Port where
 Name : ByteArray
 Node : Int
 Pressure : Int
 deriving DecidableEq
def Bn (x : Port) : List T := [.v (.string x.Name), .V x.Node, .V x.Pressure]
structure Station where
 Name : ByteArray
 Node : Int
 Head : Int
 Fall : Int
 Suction : Int
 deriving DecidableEq
def Br (x : Station) : List T := [.v (.string x.Name), .V x.Node, .V x.Head, .V x.Fall, .V x.Suction]
structure Network where
 Nodes : List ByteArray
 Segments : List Segment
 Ports : List Port
 Stations : List Station
 Vapour : Int
 Settle : Int
 deriving DecidableEq
def Ab (x : Network) : List T := [.list 1 (x.Nodes.map rS), .list 7 (x.Segments.map Au), .list 3 (x.Ports.map Bn), .list 5 (x.Stations.map Br), .V x.Vapour, .V x.Settle]
structure Plan where
 Rates : Li
 Ports : Li
 Pumps : List Bool
 deriving DecidableEq
def Aj (x : Plan) : List T := [.list 1 (x.Rates.map rI), .list 1 (x.Ports.map rI), .list 1 (x.Pumps.map rB)]
structure flow_streams where
 come : Arr Int 24
 leave : Arr Int 24
 deriving DecidableEq
def Am (x : flow_streams) : List T := x.come.l.map cI ++ (x.leave.l.map cI ++ [])
structure KS where
 L_ : Li
 At : Int
 deriving DecidableEq
def Bs (x : KS) : List T := [.list 1 (x.L_.map rI), .V x.At]
def Bo (a : Segment) (b : Int) : (Int × Int) := if decide (b < 0) = true then (a.To, a.From) else (a.From, a.To)
def Np (a : Int) (b : Int) : Bool := (decide (a ≥ (wr (0 - b))) && decide (a ≤ b))
def Vu.J1 (a : Int) : Option Int := some a
def Vu (c : Int) (a : Int) : Option Int := if decide (a < 1) = true then some 0 else (fB c a).bind fun b => if decide (b < 0) = true then Vu.J1 (wr (b + a)) else Vu.J1 b
def De (a : Int) (b : Int) (c : Int) : Bool := (decide (a ≥ b) && decide (a ≤ c))
def Gn (a : Int) : Int := (max a (wr (0 - a)))
def Qi.J1 (a : Unit) : Option Int := some (-1)
def Qi.B2 (a : ByteArray) (b : Nat) (c : ByteArray) (d : Unit) : Option (Unit ⊕ (Int)) := if Wh a c = true then some ((.inr ((b : Int)))) else some (.inl ())
def Qi (a : List ByteArray) (b : ByteArray) : Option Int := (forL (Qi.B2 b) 0 a ()).bind fun c => Sum.elim (fun e => Qi.J1 ()) (fun d => some d) c
def Re.J1 (a : Unit) : Option Int := some (-1)
def Re.B2 (a : Int → Option Bool) (b : Nat) (c : Int) (e : Unit) : Option (Unit ⊕ (Int)) := (a c).bind fun d => if d = true then some ((.inr ((b : Int)))) else some (.inl ())
def Re (a : Li) (b : Int → Option Bool) : Option Int := (forL (Re.B2 b) 0 a ()).bind fun c => Sum.elim (fun e => Re.J1 ()) (fun d => some d) c
def Jf (a : Li) (b : Int → Option Bool) : Option Bool := (Re a b).bind fun c => some (decide (c ≥ 0))
def Qj.J1 (a : Unit) : Option Int := some (-1)
def Qj.B2 (a : ByteArray → Option Bool) (b : Nat) (c : ByteArray) (e : Unit) : Option (Unit ⊕ (Int)) := (a c).bind fun d => if d = true then some ((.inr ((b : Int)))) else some (.inl ())
def Qj (a : List ByteArray) (b : ByteArray → Option Bool) : Option Int := (forL (Qj.B2 b) 0 a ()).bind fun c => Sum.elim (fun e => Qj.J1 ()) (fun d => some d) c
def Qq (a : List ByteArray) (b : ByteArray → Option Bool) : Option Bool := (Qj a b).bind fun c => some (decide (c ≥ 0))
def Rb.J1 (a : Unit) : Option Int := some (-1)
def Rb.B2 (a : Segment → Option Bool) (b : Nat) (c : Segment) (e : Unit) : Option (Unit ⊕ (Int)) := (a c).bind fun d => if d = true then some ((.inr ((b : Int)))) else some (.inl ())
def Rb (a : List Segment) (b : Segment → Option Bool) : Option Int := (forL (Rb.B2 b) 0 a ()).bind fun c => Sum.elim (fun e => Rb.J1 ()) (fun d => some d) c
def Nl (a : List Segment) (b : Segment → Option Bool) : Option Bool := (Rb a b).bind fun c => some (decide (c ≥ 0))
def Qm.J1 (a : Unit) : Option Int := some (-1)
def Qm.B2 (a : Port → Option Bool) (b : Nat) (c : Port) (e : Unit) : Option (Unit ⊕ (Int)) := (a c).bind fun d => if d = true then some ((.inr ((b : Int)))) else some (.inl ())
def Qm (a : List Port) (b : Port → Option Bool) : Option Int := (forL (Qm.B2 b) 0 a ()).bind fun c => Sum.elim (fun e => Qm.J1 ()) (fun d => some d) c
def Q7 (a : List Port) (b : Port → Option Bool) : Option Bool := (Qm a b).bind fun c => some (decide (c ≥ 0))
def Nj.J1 (a : Unit) : Option Int := some (-1)
def Nj.B2 (a : Station → Option Bool) (b : Nat) (c : Station) (e : Unit) : Option (Unit ⊕ (Int)) := (a c).bind fun d => if d = true then some ((.inr ((b : Int)))) else some (.inl ())
def Nj (a : List Station) (b : Station → Option Bool) : Option Int := (forL (Nj.B2 b) 0 a ()).bind fun c => Sum.elim (fun e => Nj.J1 ()) (fun d => some d) c
def Qh (a : List Station) (b : Station → Option Bool) : Option Bool := (Nj a b).bind fun c => some (decide (c ≥ 0))
def Lj (a : Segment) : Bool := (decide ((a.Points.length : Int) < 2) || decide ((a.Points.length : Int) > 8))
def Qo (a : Network) : Option Bool := if (decide ((a.Nodes.length : Int) < 1) || (decide ((a.Nodes.length : Int) > 24) || (decide ((a.Segments.length : Int) > 32) || (decide ((a.Ports.length : Int) > 24) || decide ((a.Stations.length : Int) > 12))))) = true then some false else (Nl a.Segments (fun x => some (Lj x))).bind fun b => some (!b)
def Gp.J1 (a : Li) : Option Li := some a
def Gp.J3 (a : Li × (List Bool) × Int) : Option ((Li × (List Bool) × Int) ⊕ (Li)) := some (.inl (a.1, a.2.1, wr (a.2.2 + 1)))
def Gp.J4 (a : Li × (List Bool) × Int) (b : Nat × Bool) (d : Unit) : Option ((Li × (List Bool) × Int) ⊕ (Li)) := (Cy a.1 ([a.2.2] : Li)).bind fun c => Gp.J3 (c, (a.2.1.set b.1 true), (-1))
def Gp.J6 (a : Li × (List Bool) × Int) (b : Bool) : Option (Unit ⊕ ((Li × (List Bool) × Int))) := if b = true then some ((.inr ((a.1, a.2.1, a.2.2)))) else some (.inl ())
def Gp.B5 (d : Plan) (a : Li × (List Bool) × Int) (e : Nat) (c : Segment) (g : Unit) : Option (Unit ⊕ ((Li × (List Bool) × Int))) := (ix d.Rates (e : Int)).bind fun b => if (b.2 != 0) = true then if (((Bo c b.2).2) == a.2.2) = true then (ix a.2.1 ((Bo c b.2).1)).bind fun f => Gp.J6 a (!f.2) else Gp.J6 a false else Gp.J6 a false
def Gp.B2 (b : Network) (d : Plan) (a : Li × (List Bool) × Int) : Option ((Li × (List Bool) × Int) ⊕ (Li)) := if decide (a.2.2 < (b.Nodes.length : Int)) = true then (ix a.2.1 a.2.2).bind fun c => if c.2 = true then Gp.J3 (a.1, a.2.1, a.2.2) else (forL (Gp.B5 d a) 0 b.Segments ()).bind fun e => Sum.elim (fun g => Gp.J4 a c ()) (fun f => Gp.J3 f) e else some ((.inr (a.1)))
def Gp (a : Network) (b : Plan) : Option Li := (Su (a.Nodes.length : Int) false).bind fun c => (D7 (Gp.B2 a b) Gz ([], c, 0)).bind fun d => Gp.J1 d
def Jo.J1 (a : Unit) : Int := 2
def Jo (a : Int) : Int := if (decide (a ≥ 97) && decide (a ≤ 122)) = true then 1 else if (decide (a ≥ 48) && decide (a ≤ 57)) = true then Jo.J1 () else if (a == 45) = true then Jo.J1 () else 0
def Il.J2 (a : Unit) : Option Bool := some true
def Il.B3 (a : ByteArray) (b : Nat) (d : Unit) : Option (Unit ⊕ (Bool)) := (mW a (b : Int)).bind fun c => if ((Jo c.2) == 0) = true then some ((.inr (false))) else some (.inl ())
def Il.J1 (a : ByteArray) (b : Bool) : Option Bool := if b = true then some false else (chk ((a.size : Int) ≤ 9223372036854775806)).bind fun e => (forI (Il.B3 a) 0 ((a.size : Int).toNat) ()).bind fun c => Sum.elim (fun f => Il.J2 ()) (fun d => some d) c
def Il (a : ByteArray) : Option Bool := if decide ((a.size : Int) < 1) = true then Il.J1 a true else if decide ((a.size : Int) > 12) = true then Il.J1 a true else (mW a 0).bind fun b => Il.J1 a ((Jo b.2) != 1)
def Nv.J3 (a : Network) (b : List ByteArray) (c : List ByteArray) (d : List ByteArray) : Option (Arr (List ByteArray) 4) := some (⟨[a.Nodes, b, c, d], rfl⟩ : Arr (List ByteArray) 4)
def Nv.B4 (d : Nat) (a : Station) (b : List ByteArray) : Option (List ByteArray) := (Cy b ([a.Name] : List ByteArray)).bind fun c => some c
def Nv.J2 (a : Network) (b : List ByteArray) (c : List ByteArray) : Option (Arr (List ByteArray) 4) := (forS Nv.B4 0 a.Stations []).bind fun d => Nv.J3 a b c d
def Nv.B5 (d : Nat) (a : Port) (b : List ByteArray) : Option (List ByteArray) := (Cy b ([a.Name] : List ByteArray)).bind fun c => some c
def Nv.J1 (a : Network) (b : List ByteArray) : Option (Arr (List ByteArray) 4) := (forS Nv.B5 0 a.Ports []).bind fun c => Nv.J2 a b c
def Nv.B6 (d : Nat) (a : Segment) (b : List ByteArray) : Option (List ByteArray) := (Cy b ([a.Name] : List ByteArray)).bind fun c => some c
def Nv (a : Network) : Option (Arr (List ByteArray) 4) := (forS Nv.B6 0 a.Segments []).bind fun b => Nv.J1 a b
def Ji (a : Station) (b : Station) : Bool := (a.Node == b.Node)
def Qf.J2 (a : Unit) : Option Bool := some false
def Qf.B3 (a : Network) (b : Nat) (c : Station) (e : Unit) : Option (Unit ⊕ (Bool)) := (Nj a.Stations (fun x => some (Ji x c))).bind fun d => if decide (d < (b : Int)) = true then some ((.inr (true))) else some (.inl ())
def Qf.J1 (a : Network) (d : Unit) : Option Bool := (forL (Qf.B3 a) 0 a.Stations ()).bind fun b => Sum.elim (fun e => Qf.J2 ()) (fun c => some c) b
def Qf.J5 (a : Unit) : Option (Unit ⊕ (Bool)) := some (.inl ())
def Qf.B6 (a : Nat × (List ByteArray)) (b : Nat) (c : ByteArray) (e : Unit) : Option (Unit ⊕ (Bool)) := (Qi a.2 c).bind fun d => if decide (d < (b : Int)) = true then some ((.inr (true))) else some (.inl ())
def Qf.B4 (b : Arr (List ByteArray) 4) (c : Nat) (f : Unit) : Option (Unit ⊕ (Bool)) := (ix b.l (c : Int)).bind fun a => (forL (Qf.B6 a) 0 a.2 ()).bind fun d => Sum.elim (fun g => Qf.J5 ()) (fun e => some ((.inr (e)))) d
def Qf (a : Network) : Option Bool := (Nv a).bind fun b => (forI (Qf.B4 b) 0 4 ()).bind fun c => Sum.elim (fun e => Qf.J1 a ()) (fun d => some d) c
def Ll (a : Int) (b : Network) : Bool := (decide (a < 0) || decide (a ≥ (b.Nodes.length : Int)))
def Q8.J3 (a : Network) (b : Li) : Option Bool := (Jf b (fun x => some (Ll x a))).bind fun c => some (!c)
def Q8.B4 (d : Nat) (a : Station) (b : Li) : Option Li := (Cy b ([a.Node] : Li)).bind fun c => some c
def Q8.J2 (a : Network) (b : Li) : Option Bool := (forS Q8.B4 0 a.Stations b).bind fun c => Q8.J3 a c
def Q8.B5 (d : Nat) (a : Port) (b : Li) : Option Li := (Cy b ([a.Node] : Li)).bind fun c => some c
def Q8.J1 (a : Network) (b : Li) : Option Bool := (forS Q8.B5 0 a.Ports b).bind fun c => Q8.J2 a c
def Q8.B6 (d : Nat) (a : Segment) (b : Li) : Option Li := (Cy b ([a.From, a.To] : Li)).bind fun c => some c
def Q8 (a : Network) : Option Bool := (forS Q8.B6 0 a.Segments []).bind fun b => Q8.J1 a b
def Lw.J2 (a : Bool) : Option Bool := some a
def Lw.J1 (a : Segment) (d : Unit) : Option Bool := (ix a.Points 0).bind fun b => if (b.2.At == 0) = true then (ix a.Points (wr ((a.Points.length : Int) - 1))).bind fun c => Lw.J2 (c.2.At == a.Capacity) else Lw.J2 false
def Lw.J4 (a : Bool) : Option (Unit ⊕ (Bool)) := if a = true then some ((.inr (false))) else some (.inl ())
def Lw.B3 (c : Segment) (b : Nat) (a : Point) (e : Unit) : Option (Unit ⊕ (Bool)) := if (!(De a.Height (-500) 5000)) = true then Lw.J4 true else if (!(De a.Limit 0 100000000)) = true then Lw.J4 true else if decide ((b : Int) > 0) = true then (ix c.Points (wr ((b : Int) - 1))).bind fun d => Lw.J4 (decide (a.At ≤ d.2.At)) else Lw.J4 false
def Lw (a : Segment) : Option Bool := if ((a.From == a.To) || ((!(De a.Capacity 1 1000000)) || ((!(De a.Resist 0 1000)) || (!(De a.Wave 0 100000))))) = true then some false else (forL (Lw.B3 a) 0 a.Points ()).bind fun b => Sum.elim (fun d => Lw.J1 a ()) (fun c => some c) b
def Vf (a : Segment) : Option Bool := (Lw a).bind fun b => some (!b)
def Lm (a : Port) : Bool := (!(De a.Pressure 0 100000000))
def Lu (a : Station) : Bool := ((!(De a.Head 0 100000000)) || ((!(De a.Fall 0 100000)) || (!(De a.Suction 0 100000000))))
def Vs (a : Network) : Option Bool := (Nl a.Segments (fun x => Vf x)).bind fun b => if b = true then some false else (Q7 a.Ports (fun x => some (Lm x))).bind fun c => if c = true then some false else (Qh a.Stations (fun x => some (Lu x))).bind fun d => if d = true then some false else some ((De a.Vapour (-100000) 100000000) && (De a.Settle 0 100))
def Vi (a : ByteArray) : Option Bool := (Il a).bind fun b => some (!b)
def Fy.J1 (a : Network) (e : Unit) : Option Int := (Qf a).bind fun b => if b = true then some 7 else (Q8 a).bind fun c => if (!c) = true then some 8 else (Vs a).bind fun d => if (!d) = true then some 9 else some 0
def Fy.B2 (a : Arr (List ByteArray) 4) (b : Nat) (e : Unit) : Option (Unit ⊕ (Int)) := (ix a.l (b : Int)).bind fun c => (Qq c.2 (fun x => Vi x)).bind fun d => if d = true then some ((.inr (3))) else some (.inl ())
def Fy (a : Network) : Option Int := (Qo a).bind fun b => if (!b) = true then some 4 else (Nv a).bind fun c => (forI (Fy.B2 c) 0 4 ()).bind fun d => Sum.elim (fun f => Fy.J1 a ()) (fun e => some e) d
def Nm.J2 (a : flow_streams) (b : Int × Int × Int) (c : Arr Int 24) : Option flow_streams := if decide (b.2.1 ≥ 0) = true then (ix a.come.l b.2.1).bind fun d => some (⟨(a.come.set d.1 (wr (d.2 + b.2.2))), c⟩ : flow_streams) else some (⟨a.come, c⟩ : flow_streams)
def Nm.J1 (a : flow_streams) (b : Int × Int × Int) : Option flow_streams := if decide (b.1 ≥ 0) = true then (ix a.leave.l b.1).bind fun c => Nm.J2 a b (a.leave.set c.1 (wr (c.2 + b.2.2))) else Nm.J2 a b a.leave
def Nm (b : flow_streams) (c : Int) (d : Int) (a : Int) : Option flow_streams := if decide (a < 0) = true then Nm.J1 b (d, c, wr (0 - a)) else Nm.J1 b (c, d, a)
def Qd.J2 (a : (Arr Int 24) × (Arr Int 24)) : Option flow_streams := some (⟨a.1, a.2⟩ : flow_streams)
def Qd.B3 (c : Plan) (d : Nat) (e : Port) (a : (Arr Int 24) × (Arr Int 24)) : Option ((Arr Int 24) × (Arr Int 24)) := (ix c.Ports (d : Int)).bind fun f => (Nm (⟨a.1, a.2⟩ : flow_streams) (-1) e.Node f.2).bind fun b => some (b.come, b.leave)
def Qd.J1 (c : Network) (d : Plan) (a : (Arr Int 24) × (Arr Int 24)) : Option flow_streams := (forS (Qd.B3 d) 0 c.Ports (a.1, a.2)).bind fun b => Qd.J2 (b.1, b.2)
def Qd.B4 (d : Plan) (e : Nat) (a : Segment) (b : (Arr Int 24) × (Arr Int 24)) : Option ((Arr Int 24) × (Arr Int 24)) := (ix d.Rates (e : Int)).bind fun f => (Nm (⟨b.1, b.2⟩ : flow_streams) a.From a.To f.2).bind fun c => some (c.come, c.leave)
def Qd (a : Network) (b : Plan) : Option flow_streams := (forS (Qd.B4 b) 0 a.Segments ((Arr.rep 24 (0 : Int)), (Arr.rep 24 (0 : Int)))).bind fun c => Qd.J1 a b (c.1, c.2)
def Ns (a : Int) : Bool := (!(Np a 1000))
def Lr.J1 (a : Network) (b : Plan) (f : Unit) : Option Int := (Jf b.Ports (fun x => some (Ns x))).bind fun d => if d = true then some 1 else (Qd a b).bind fun c => if (!decide (c.come = c.leave)) = true then some 12 else (Gp a b).bind fun e => if decide ((e.length : Int) < (a.Nodes.length : Int)) = true then some 13 else some 0
def Lr.B2 (a : Plan) (b : Nat) (c : Segment) (e : Unit) : Option (Unit ⊕ (Int)) := (ix a.Rates (b : Int)).bind fun d => if (!(Np d.2 (min 1000 c.Capacity))) = true then some ((.inr (1))) else some (.inl ())
def Lr (a : Network) (b : Plan) : Option Int := (Fy a).bind fun c => if (c != 0) = true then some c else if (((b.Rates.length : Int) != (a.Segments.length : Int)) || (((b.Ports.length : Int) != (a.Ports.length : Int)) || ((b.Pumps.length : Int) != (a.Stations.length : Int)))) = true then some 9 else (forL (Lr.B2 b) 0 a.Segments ()).bind fun d => Sum.elim (fun f => Lr.J1 a b ()) (fun e => some e) d
def Vo (a : Li) : Option KS := (Yc a 0 (min (a.length : Int) 2000)).bind fun b => some (⟨b, 0⟩ : KS)
def Vg (a : KS) : Option (Int × KS) := if decide (a.At ≥ (a.L_.length : Int)) = true then some (0, a) else (ix a.L_ (wr ((wr (a.At + 1)) - 1))).bind fun b => some (b.2, (⟨a.L_, wr (a.At + 1)⟩ : KS))
def Dq (b : KS) (c : Int) : Option (Int × KS) := (Vg b).bind fun a => (Vu a.1 c).bind fun d => some (d, a.2)
def Lt (a : ByteArray) (b : Int) : Option ByteArray := (Yu ([IntKind.u8.wrap (wr (97 + (b.tmod 26)))] : Li)).bind fun c => (nR a c).bind fun d => some d
def Ev (c : KS) (a : Li) : Option (Int × KS) := (Dq c (a.length : Int)).bind fun b => (ix a b.1).bind fun d => some (d.2, b.2)
def G4 (c : KS) (a : Int) (d : Int) : Option (Int × KS) := (Dq c (wr ((wr (d - a)) + 1))).bind fun b => some (wr (a + b.1), b.2)
def Nn.J2 (b : Li × Int × Int × Int) (e : ByteArray) (c : Int × KS) (f : Int × KS) (g : Int × KS) (h : Int × KS) (a : Li × Int × (List Point)) : Option (Segment × KS) := (G4 (⟨a.1, a.2.1⟩ : KS) (-5) 30).bind fun d => (Cy a.2.2 ([(⟨c.1, d.1, h.1⟩ : Point)] : List Point)).bind fun i => some ((⟨e, b.2.2.1, b.2.2.2, c.1, f.1, g.1, i⟩ : Segment), d.2)
def Nn.J4 (g : Int × KS) (h : Int × KS) (a : Li × Int × (List Point) × Int) (c : Li × Int × Bool) : Option ((Li × Int × (List Point) × Int) ⊕ ((Li × Int × (List Point)))) := if c.2.2 = true then (G4 (⟨c.1, c.2.1⟩ : KS) 1 40).bind fun b => if decide ((wr (a.2.2.2 + b.1)) ≥ g.1) = true then some ((.inr ((b.2.L_, b.2.At, a.2.2.1)))) else (G4 b.2 (-5) 60).bind fun e => (Ev e.2 ([1, 1, 10] : Li)).bind fun f => (Dq f.2 3).bind fun d => (Cy a.2.2.1 ([(⟨wr (a.2.2.2 + b.1), wr (e.1 * f.1), wr (h.1 - (wr (d.1 * 1000)))⟩ : Point)] : List Point)).bind fun i => some (.inl (d.2.L_, d.2.At, i, wr (a.2.2.2 + b.1))) else some ((.inr ((c.1, c.2.1, a.2.2.1))))
def Nn.B3 (c : Int × KS) (d : Int × KS) (a : Li × Int × (List Point) × Int) : Option ((Li × Int × (List Point) × Int) ⊕ ((Li × Int × (List Point)))) := if decide ((a.2.2.1.length : Int) < 7) = true then (Dq (⟨a.1, a.2.1⟩ : KS) 3).bind fun b => Nn.J4 c d a (b.2.L_, b.2.At, decide (b.1 > 0)) else Nn.J4 c d a (a.1, a.2.1, false)
def Nn.J1 (g : Int) (b : Li × Int × Int × Int) : Option (Segment × KS) := (Lt (⟨#[103]⟩ : ByteArray) g).bind fun h => (Ev (⟨b.1, b.2.1⟩ : KS) ([1, 2, 7, 20, 60, 200, 1000] : Li)).bind fun c => (Ev c.2 ([0, 1, 5, 1000] : Li)).bind fun e => (Ev e.2 ([0, 50, 1000, 100000] : Li)).bind fun f => (Ev f.2 ([1000000, 6000000, 100000000] : Li)).bind fun a => (G4 a.2 (-5) 30).bind fun d => (Cy [] ([(⟨0, d.1, a.1⟩ : Point)] : List Point)).bind fun i => (D7 (Nn.B3 c a) Gz (d.2.L_, d.2.At, i, 0)).bind fun j => Nn.J2 b h c e f a j
def Nn (e : KS) (b : Int) (c : Int) (d : Int) : Option (Segment × KS) := (Dq e 4).bind fun a => if (a.1 == 0) = true then Nn.J1 b (a.2.L_, a.2.At, d, c) else Nn.J1 b (a.2.L_, a.2.At, c, d)
def Vr.J4 (b : Int × KS) (c : Int × KS) (d : Li × Int × (List ByteArray)) (e : Li × Int × (List Segment)) (a : Li × Int × (List Port) × (List Station)) : Option (Network × KS) := some ((⟨d.2.2, e.2.2, a.2.2.1, a.2.2.2, b.1, c.1⟩ : Network), (⟨a.1, a.2.1⟩ : KS))
def Vr.J6 (b : Li × Int × (List Port) × (List Station) × Int) (a : Li × Int × (List Port) × (List Station)) : Option ((Li × Int × (List Port) × (List Station) × Int) ⊕ ((Li × Int × (List Port) × (List Station)))) := some (.inl (a.1, a.2.1, a.2.2.1, a.2.2.2, wr (b.2.2.2.2 + 1)))
def Vr.J8 (a : Li × Int × (List Port) × (List Station) × Int) (d : Li × Int × (List Port)) (b : Li × Int × Bool) : Option ((Li × Int × (List Port) × (List Station) × Int) ⊕ ((Li × Int × (List Port) × (List Station)))) := if b.2.2 = true then (Lt (⟨#[115]⟩ : ByteArray) (a.2.2.2.1.length : Int)).bind fun g => (Ev (⟨b.1, b.2.1⟩ : KS) ([500000, 2000000, 0] : Li)).bind fun e => (Ev e.2 ([0, 200, 100000] : Li)).bind fun f => (Ev f.2 ([0, 100000, 400000] : Li)).bind fun c => (Cy a.2.2.2.1 ([(⟨g, a.2.2.2.2, e.1, f.1, c.1⟩ : Station)] : List Station)).bind fun h => Vr.J6 a (c.2.L_, c.2.At, d.2.2, h) else Vr.J6 a (b.1, b.2.1, d.2.2, a.2.2.2.1)
def Vr.J7 (d : Li × Int × (List ByteArray)) (b : Li × Int × (List Port) × (List Station) × Int) (a : Li × Int × (List Port)) : Option ((Li × Int × (List Port) × (List Station) × Int) ⊕ ((Li × Int × (List Port) × (List Station)))) := if decide (b.2.2.2.2 < (wr ((d.2.2.length : Int) - 1))) = true then (Dq (⟨a.1, a.2.1⟩ : KS) 3).bind fun c => Vr.J8 b a (c.2.L_, c.2.At, (c.1 == 0)) else Vr.J8 b a (a.1, a.2.1, false)
def Vr.J9 (d : Li × Int × (List ByteArray)) (a : Li × Int × (List Port) × (List Station) × Int) (b : Li × Int × Bool) : Option ((Li × Int × (List Port) × (List Station) × Int) ⊕ ((Li × Int × (List Port) × (List Station)))) := if b.2.2 = true then (Lt (⟨#[113]⟩ : ByteArray) (a.2.2.1.length : Int)).bind fun e => (Ev (⟨b.1, b.2.1⟩ : KS) ([300000, 1000000, 0, 5000000] : Li)).bind fun c => (Cy a.2.2.1 ([(⟨e, a.2.2.2.2, c.1⟩ : Port)] : List Port)).bind fun f => Vr.J7 d a (c.2.L_, c.2.At, f) else Vr.J7 d a (b.1, b.2.1, a.2.2.1)
def Vr.B5 (b : Li × Int × (List ByteArray)) (a : Li × Int × (List Port) × (List Station) × Int) : Option ((Li × Int × (List Port) × (List Station) × Int) ⊕ ((Li × Int × (List Port) × (List Station)))) := if decide (a.2.2.2.2 ≤ (wr ((b.2.2.length : Int) - 1))) = true then if (a.2.2.2.2 == 0) = true then Vr.J9 b a (a.1, a.2.1, true) else if (a.2.2.2.2 == (wr ((b.2.2.length : Int) - 1))) = true then Vr.J9 b a (a.1, a.2.1, true) else (Dq (⟨a.1, a.2.1⟩ : KS) 2).bind fun c => Vr.J9 b a (c.2.L_, c.2.At, (c.1 == 0)) else some ((.inr ((a.1, a.2.1, a.2.2.1, a.2.2.2.1))))
def Vr.J3 (c : Int × KS) (d : Int × KS) (b : Li × Int × (List ByteArray)) (a : Li × Int × (List Segment)) : Option (Network × KS) := (D7 (Vr.B5 b) Gz (a.1, a.2.1, [], [], 0)).bind fun e => Vr.J4 c d b a e
def Vr.B10 (d : Li × Int × (List ByteArray)) (a : Li × Int × (List Segment) × Int) : Option ((Li × Int × (List Segment) × Int) ⊕ ((Li × Int × (List Segment)))) := if decide (a.2.2.2 > 0) = true then (Dq (⟨a.1, a.2.1⟩ : KS) (wr ((d.2.2.length : Int) - 1))).bind fun b => (G4 b.2 (wr (b.1 + 1)) (wr ((d.2.2.length : Int) - 1))).bind fun e => (Nn e.2 (a.2.2.1.length : Int) b.1 e.1).bind fun c => (Cy a.2.2.1 ([c.1] : List Segment)).bind fun f => some (.inl (c.2.L_, c.2.At, f, wr (a.2.2.2 - 1))) else some ((.inr ((a.1, a.2.1, a.2.2.1))))
def Vr.J2 (d : Int × KS) (e : Int × KS) (c : Li × Int × (List ByteArray)) (a : Li × Int × (List Segment)) : Option (Network × KS) := (Dq (⟨a.1, a.2.1⟩ : KS) 4).bind fun b => (D7 (Vr.B10 c) Gz (b.2.L_, b.2.At, a.2.2, b.1)).bind fun f => Vr.J3 d e c f
def Vr.B11 (c : Li × Int × (List ByteArray)) (a : Li × Int × (List Segment) × Int) : Option ((Li × Int × (List Segment) × Int) ⊕ ((Li × Int × (List Segment)))) := if decide (a.2.2.2 < (wr ((c.2.2.length : Int) - 1))) = true then (Nn (⟨a.1, a.2.1⟩ : KS) (a.2.2.1.length : Int) a.2.2.2 (wr (a.2.2.2 + 1))).bind fun b => (Cy a.2.2.1 ([b.1] : List Segment)).bind fun d => some (.inl (b.2.L_, b.2.At, d, wr (a.2.2.2 + 1))) else some ((.inr ((a.1, a.2.1, a.2.2.1))))
def Vr.J1 (b : Int × KS) (c : Int × KS) (a : Li × Int × (List ByteArray)) : Option (Network × KS) := (D7 (Vr.B11 a) Gz (a.1, a.2.1, [], 0)).bind fun d => Vr.J2 b c a d
def Vr.B12 (b : Int × KS) (a : (List ByteArray) × Int) : Option (((List ByteArray) × Int) ⊕ ((Li × Int × (List ByteArray)))) := if decide (a.2 > 0) = true then (Lt (⟨#[110]⟩ : ByteArray) (a.1.length : Int)).bind fun c => (Cy a.1 ([c] : List ByteArray)).bind fun d => some (.inl (d, wr (a.2 - 1))) else some ((.inr ((b.2.L_, b.2.At, a.1))))
def Vr (d : KS) : Option (Network × KS) := (Ev d ([(-100000), 0, 50000] : Li)).bind fun a => (Ev a.2 ([0, 1, 5, 100] : Li)).bind fun b => (G4 b.2 2 6).bind fun c => (D7 (Vr.B12 c) Gz ([], c.1)).bind fun e => Vr.J1 a b e
def Ij (a : Int) : Int := (max a (wr (0 - a)))
def Vj.J2 (a : List Bool) (b : Li) (c : Li) : Option Plan := some (⟨b, c, a⟩ : Plan)
def Vj.B3 (d : Nat) (a : Int) (b : Li) : Option Li := (Cy b ([wr (0 - a)] : Li)).bind fun c => some c
def Vj.J1 (a : Plan) (b : List Bool) (c : Li) : Option Plan := (forS Vj.B3 0 a.Ports []).bind fun d => Vj.J2 b c d
def Vj.B4 (d : Nat) (a : Int) (b : Li) : Option Li := (Cy b ([wr (0 - a)] : Li)).bind fun c => some c
def Vj (a : Plan) : Option Plan := (Cy ([] : List Bool) a.Pumps).bind fun b => (forS Vj.B4 0 a.Rates []).bind fun c => Vj.J1 a b c
def Qu.J3 (b : Li × Int × (List Bool)) (c : Int × KS) (a : Li × Int × Li × Li) : Option (Plan × KS) := if (c.1 == 0) = true then (Vj (⟨a.2.2.1, a.2.2.2, b.2.2⟩ : Plan)).bind fun d => some (d, (⟨a.1, a.2.1⟩ : KS)) else some ((⟨a.2.2.1, a.2.2.2, b.2.2⟩ : Plan), (⟨a.1, a.2.1⟩ : KS))
def Qu.J5 (b : Li × Int × Li × Li × Int) (a : Li × Int × Li × Li) : Option ((Li × Int × Li × Li × Int) ⊕ ((Li × Int × Li × Li))) := some (.inl (a.1, a.2.1, a.2.2.1, a.2.2.2, wr (b.2.2.2.2 - 1)))
def Qu.J10 (a : Li) : Option Li := some a
def Qu.B9 (g : Network) (c : Int × KS) (h : Li × Int × Li × Int) (i : Nat) (a : Li) : Option Li := (ix h.2.2.1 (i : Int)).bind fun b => (ix g.Segments b.2).bind fun d => if decide (d.2.From < d.2.To) = true then (ix a b.2).bind fun e => Qu.J10 (a.set e.1 (wr (e.2 + c.1))) else (ix a b.2).bind fun f => Qu.J10 (a.set f.1 (wr (f.2 - c.1)))
def Qu.J8 (c : Network) (b : Li × Int × Li × Li × Int) (d : Int × KS) (a : Li × Int × Li × Int) (e : Li) : Option ((Li × Int × Li × Li × Int) ⊕ ((Li × Int × Li × Li))) := (forJ (Qu.B9 c d a) 0 a.2.2.1.length b.2.2.1).bind fun f => Qu.J5 b (a.1, a.2.1, f, e)
def Qu.J7 (e : Network) (a : Li × Int × Li × Li × Int) (f : Int × KS) (c : Int × KS) (b : Li × Int × Li × Int) : Option ((Li × Int × Li × Li × Int) ⊕ ((Li × Int × Li × Li))) := if decide (b.2.2.2 < 0) = true then Qu.J5 a (b.1, b.2.1, a.2.2.1, a.2.2.2.1) else (ix a.2.2.2.1 f.1).bind fun d => (ix a.2.2.2.1 b.2.2.2).bind fun g => (ix (a.2.2.2.1.set d.1 (wr (d.2 + c.1))) b.2.2.2).bind fun h => Qu.J8 e a c b ((a.2.2.2.1.set d.1 (wr (d.2 + c.1))).set h.1 (wr (g.2 - c.1)))
def Qu.J13 (g : Network) (b : Li × Int × Int × Li × Int) (a : Li × Int × Int) (c : Li) : Option ((Li × Int × Int × Li × Int) ⊕ ((Li × Int × Li × Int))) := if ((c.length : Int) == 0) = true then some ((.inr ((a.1, a.2.1, b.2.2.2.1, a.2.2)))) else (Dq (⟨a.1, a.2.1⟩ : KS) (c.length : Int)).bind fun d => (ix c d.1).bind fun e => (Cy b.2.2.2.1 ([e.2] : Li)).bind fun h => (ix g.Segments e.2).bind fun f => some (.inl (d.2.L_, d.2.At, wr ((wr (f.2.From + f.2.To)) - b.2.2.1), h, a.2.2))
def Qu.J15 (a : Li) : Option Li := some a
def Qu.J16 (b : Nat) (a : Li) (c : Bool) : Option Li := if c = true then (Cy a ([(b : Int)] : Li)).bind fun d => Qu.J15 d else Qu.J15 a
def Qu.B14 (e : Li × Int × Li × Li × Int) (f : Int × KS) (c : Li × Int × Int × Li × Int) (b : Nat) (a : Segment) (d : Li) : Option Li := if (a.From == c.2.2.1) = true then if decide ((wr ((wr (a.From + a.To)) - c.2.2.1)) > c.2.2.1) = true then (ix e.2.2.1 (b : Int)).bind fun g => Qu.J16 b d (decide ((wr ((Ij g.2) + f.1)) ≤ (min 1000 a.Capacity))) else Qu.J16 b d false else if (a.To == c.2.2.1) = true then if decide ((wr ((wr (a.From + a.To)) - c.2.2.1)) > c.2.2.1) = true then (ix e.2.2.1 (b : Int)).bind fun h => Qu.J16 b d (decide ((wr ((Ij h.2) + f.1)) ≤ (min 1000 a.Capacity))) else Qu.J16 b d false else Qu.J16 b d false
def Qu.J12 (c : Network) (d : Li × Int × Li × Li × Int) (e : Int × KS) (b : Li × Int × Int × Li × Int) (a : Li × Int × Int) : Option ((Li × Int × Int × Li × Int) ⊕ ((Li × Int × Li × Int))) := if decide (a.2.2 ≥ 0) = true then some ((.inr ((a.1, a.2.1, b.2.2.2.1, a.2.2)))) else (forS (Qu.B14 d e b) 0 c.Segments []).bind fun f => Qu.J13 c b a f
def Qu.J18 (a : Li × Int × Int) : Option (Li × Int × Int) := some (a.1, a.2.1, a.2.2)
def Qu.J19 (b : Nat) (c : Li × Int × Int) (a : Li × Int × Bool) : Option (Li × Int × Int) := if a.2.2 = true then Qu.J18 (a.1, a.2.1, (b : Int)) else Qu.J18 (a.1, a.2.1, c.2.2)
def Qu.B17 (f : Li × Int × Li × Li × Int) (g : Int × KS) (h : Int × KS) (d : Li × Int × Int × Li × Int) (b : Nat) (i : Port) (a : Li × Int × Int) : Option (Li × Int × Int) := if (i.Node == d.2.2.1) = true then if ((b : Int) != g.1) = true then (ix f.2.2.2.1 (b : Int)).bind fun e => if decide (e.2 ≤ 0) = true then if decide ((wr (e.2 - h.1)) ≥ (-1000)) = true then if decide ((d.2.2.2.1.length : Int) > 0) = true then (Dq (⟨a.1, a.2.1⟩ : KS) 2).bind fun c => Qu.J19 b a (c.2.L_, c.2.At, (c.1 == 0)) else Qu.J19 b a (a.1, a.2.1, false) else Qu.J19 b a (a.1, a.2.1, false) else Qu.J19 b a (a.1, a.2.1, false) else Qu.J19 b a (a.1, a.2.1, false) else Qu.J19 b a (a.1, a.2.1, false)
def Qu.B11 (c : Network) (d : Li × Int × Li × Li × Int) (f : Int × KS) (e : Int × KS) (a : Li × Int × Int × Li × Int) : Option ((Li × Int × Int × Li × Int) ⊕ ((Li × Int × Li × Int))) := if decide (a.2.2.2.2 < 0) = true then (forS (Qu.B17 d f e a) 0 c.Ports (a.1, a.2.1, a.2.2.2.2)).bind fun b => Qu.J12 c d e a (b.1, b.2.1, b.2.2) else some ((.inr ((a.1, a.2.1, a.2.2.2.1, a.2.2.2.2))))
def Qu.J6 (c : Network) (b : Li × Int × Li × Li × Int) (d : Int × KS) (e : Nat × Port) (a : Int × KS) (f : Bool) : Option ((Li × Int × Li × Li × Int) ⊕ ((Li × Int × Li × Li))) := if f = true then Qu.J5 b (a.2.L_, a.2.At, b.2.2.1, b.2.2.2.1) else (D7 (Qu.B11 c b d a) Gz (a.2.L_, a.2.At, e.2.Node, [], (-1))).bind fun g => Qu.J7 c b d a g
def Qu.B4 (c : Network) (a : Li × Int × Li × Li × Int) : Option ((Li × Int × Li × Li × Int) ⊕ ((Li × Int × Li × Li))) := if decide (a.2.2.2.2 > 0) = true then (Dq (⟨a.1, a.2.1⟩ : KS) (c.Ports.length : Int)).bind fun b => (ix c.Ports b.1).bind fun e => (Ev b.2 ([1, 5, 30, 300] : Li)).bind fun f => (G4 f.2 1 f.1).bind fun d => (ix a.2.2.2.1 b.1).bind fun g => if decide (g.2 < 0) = true then Qu.J6 c a b e d true else Qu.J6 c a b e d (decide ((wr (g.2 + d.1)) > 1000)) else some ((.inr ((a.1, a.2.1, a.2.2.1, a.2.2.2.1))))
def Qu.J2 (e : Network) (c : Li × Li) (a : Li × Int × (List Bool)) : Option (Plan × KS) := (Dq (⟨a.1, a.2.1⟩ : KS) 3).bind fun d => (Dq d.2 5).bind fun b => (D7 (Qu.B4 e) Gz (b.2.L_, b.2.At, c.1, c.2, b.1)).bind fun f => Qu.J3 a d f
def Qu.B20 (c : Network) (a : Li × Int × (List Bool) × Int) : Option ((Li × Int × (List Bool) × Int) ⊕ ((Li × Int × (List Bool)))) := if decide (a.2.2.2 < (c.Stations.length : Int)) = true then (Dq (⟨a.1, a.2.1⟩ : KS) 2).bind fun b => (Cy a.2.2.1 ([(b.1 == 0)] : List Bool)).bind fun d => some (.inl (b.2.L_, b.2.At, d, wr (a.2.2.2 + 1))) else some ((.inr ((a.1, a.2.1, a.2.2.1))))
def Qu.J1 (a : KS) (b : Network) (c : Li × Li) : Option (Plan × KS) := (D7 (Qu.B20 b) Gz (a.L_, a.At, [], 0)).bind fun d => Qu.J2 b c d
def Qu (b : KS) (a : Network) : Option (Plan × KS) := (Su (a.Segments.length : Int) (0 : Int)).bind fun c => (Su (a.Ports.length : Int) (0 : Int)).bind fun d => Qu.J1 b a (c, d)
structure Piece where
 Batch : Int
 Volume : Int
 deriving DecidableEq
def Aa (x : Piece) : List T := [.V x.Batch, .V x.Volume]
structure deal_table where
 n_ : Int
 rates : Arr Int 64
 counts : Arr Int 64
 deriving DecidableEq
def A4 (x : deal_table) : List T := [.V x.n_] ++ (x.rates.l.map cI ++ (x.counts.l.map cI ++ []))
structure advance_line where
 n_ : Network
 p : Plan
 feeds : Li
 order : Li
 fills : List (List Piece)
 given : List (List Piece)
 out_ : List (List Piece)
 deriving DecidableEq
def Nt.J1 (a : Li × Int × (List Piece)) : Option ((List Piece) × KS) := some (a.2.2, (⟨a.1, a.2.1⟩ : KS))
def Nt.J4 (a : Li × Int × Int × (List Piece)) (b : Int × KS) (c : Int) (d : Int) : Option ((Li × Int × Int × (List Piece)) ⊕ ((Li × Int × (List Piece)))) := (Cy a.2.2.2 ([(⟨d, (min c a.2.2.1)⟩ : Piece)] : List Piece)).bind fun e => some (.inl (b.2.L_, b.2.At, wr (a.2.2.1 - (min c a.2.2.1)), e))
def Nt.J5 (g : Int) (a : Li × Int × Int × (List Piece)) (e : Int × KS) (b : Int × KS) (c : Int) (h : Bool) : Option ((Li × Int × Int × (List Piece)) ⊕ ((Li × Int × (List Piece)))) := if h = true then (fB (wr (e.1 + 1)) g).bind fun f => (ix a.2.2.2 (wr ((a.2.2.2.length : Int) - 1))).bind fun d => if (d.2.Batch == f) = true then some (.inl (b.2.L_, b.2.At, wr (a.2.2.1 - (min c a.2.2.1)), (a.2.2.2.set d.1 (⟨d.2.Batch, wr (d.2.Volume + (min c a.2.2.1))⟩ : Piece)))) else Nt.J4 a b c f else Nt.J4 a b c e.1
def Nt.J3 (c : Int) (a : Li × Int × Int × (List Piece)) (b : Int × KS) (d : Int × KS) (e : Int) : Option ((Li × Int × Int × (List Piece)) ⊕ ((Li × Int × (List Piece)))) := if decide ((a.2.2.2.length : Int) > 0) = true then (ix a.2.2.2 (wr ((a.2.2.2.length : Int) - 1))).bind fun f => Nt.J5 c a b d e (f.2.Batch == b.1) else Nt.J5 c a b d e false
def Nt.B2 (b : Int) (a : Li × Int × Int × (List Piece)) : Option ((Li × Int × Int × (List Piece)) ⊕ ((Li × Int × (List Piece)))) := if (decide (a.2.2.1 > 0) && decide ((a.2.2.2.length : Int) < 12)) = true then (Dq (⟨a.1, a.2.1⟩ : KS) b).bind fun c => (G4 c.2 1 (max 1 (wr ((wr (a.2.2.1 * 2)).tdiv 3)))).bind fun d => if ((a.2.2.2.length : Int) == 11) = true then Nt.J3 b a c d a.2.2.1 else Nt.J3 b a c d d.1 else some ((.inr ((a.1, a.2.1, a.2.2.2))))
def Nt (a : KS) (b : Int) (c : Int) : Option ((List Piece) × KS) := (D7 (Nt.B2 c) Gz (a.L_, a.At, b, [])).bind fun d => Nt.J1 d
def Rd.J1 (a : Li × Int × (List (List Piece))) : Option ((List (List Piece)) × KS) := some (a.2.2, (⟨a.1, a.2.1⟩ : KS))
def Rd.B2 (c : Int) (f : Nat) (d : Segment) (a : Li × Int × (List (List Piece))) : Option (Li × Int × (List (List Piece))) := (Nt (⟨a.1, a.2.1⟩ : KS) d.Capacity c).bind fun b => (Cy a.2.2 ([b.1] : List (List Piece))).bind fun e => some (b.2.L_, b.2.At, e)
def Rd (b : KS) (c : Network) (d : Int) : Option ((List (List Piece)) × KS) := (forS (Rd.B2 d) 0 c.Segments (b.L_, b.At, [])).bind fun a => Rd.J1 (a.1, a.2.1, a.2.2)
def Ql.J1 (a : Li × Int × Li) : Option (Li × KS) := some (a.2.2, (⟨a.1, a.2.1⟩ : KS))
def Ql.B2 (c : Network) (d : Int) (a : Li × Int × Li × Int) : Option ((Li × Int × Li × Int) ⊕ ((Li × Int × Li))) := if decide (a.2.2.2 < (c.Ports.length : Int)) = true then (Dq (⟨a.1, a.2.1⟩ : KS) d).bind fun b => (Cy a.2.2.1 ([b.1] : Li)).bind fun e => some (.inl (b.2.L_, b.2.At, e, wr (a.2.2.2 + 1))) else some ((.inr ((a.1, a.2.1, a.2.2.1))))
def Ql (a : KS) (b : Network) (c : Int) : Option (Li × KS) := (D7 (Ql.B2 b c) Gz (a.L_, a.At, [], 0)).bind fun d => Ql.J1 d
def Ve (a : Network) (b : Plan) : Option (Li × Int) := (Lr a b).bind fun c => if (c != 0) = true then some ([], c) else (Gp a b).bind fun d => some (d, 0)
def Ho (a : Piece) : Bool := (decide (a.Batch ≥ 0) && (decide (a.Batch < 1000) && (decide (a.Volume ≥ 0) && decide (a.Volume ≤ 1000000))))
def Jk.J1 (a : Int) : Option Int := some a
def Jk.B2 (c : Nat) (a : Piece) (b : Int) : Option Int := some (wr (b + a.Volume))
def Jk (a : List Piece) : Option Int := (forS Jk.B2 0 a 0).bind fun b => Jk.J1 b
def Hm.J1 (a : List Piece) (c : Unit) : Option Bool := (Jk a).bind fun b => some (decide (b ≤ 1000000))
def Hm.J3 (a : Bool) : Option (Unit ⊕ (Bool)) := if a = true then some ((.inr (false))) else some (.inl ())
def Hm.B2 (c : List Piece) (b : Nat) (a : Piece) (e : Unit) : Option (Unit ⊕ (Bool)) := if (!(Ho a)) = true then Hm.J3 true else if (a.Volume == 0) = true then Hm.J3 true else if decide ((b : Int) > 0) = true then (ix c (wr ((b : Int) - 1))).bind fun d => Hm.J3 (d.2.Batch == a.Batch) else Hm.J3 false
def Hm (a : List Piece) : Option Bool := if decide ((a.length : Int) > 200) = true then some false else (forL (Hm.B2 a) 0 a ()).bind fun b => Sum.elim (fun d => Hm.J1 a ()) (fun c => some c) b
def Vh (a : List Piece) : Option Int := (Hm a).bind fun b => if (!b) = true then some 0 else (Jk a).bind fun c => some c
def Qr.J1 (a : Unit) : Option Int := some (-1)
def Qr.B2 (a : Piece → Option Bool) (b : Nat) (c : Piece) (e : Unit) : Option (Unit ⊕ (Int)) := (a c).bind fun d => if d = true then some ((.inr ((b : Int)))) else some (.inl ())
def Qr (a : List Piece) (b : Piece → Option Bool) : Option Int := (forL (Qr.B2 b) 0 a ()).bind fun c => Sum.elim (fun e => Qr.J1 ()) (fun d => some d) c
def Nk (a : List Piece) (b : Piece → Option Bool) : Option Bool := (Qr a b).bind fun c => some (decide (c ≥ 0))
def Ii (a : Piece) : Bool := (!(Ho a))
def Lh.J1 (a : List Piece) : Option (List Piece) := some a
def Lh.J3 (a : List Piece) : Option (List Piece) := some a
def Lh.J4 (c : Piece) (a : List Piece) (d : Bool) : Option (List Piece) := if d = true then (ix a (wr ((a.length : Int) - 1))).bind fun b => Lh.J3 (a.set b.1 (⟨b.2.Batch, wr (b.2.Volume + c.Volume)⟩ : Piece)) else (Cy a ([c] : List Piece)).bind fun e => Lh.J3 e
def Lh.B2 (d : Nat) (a : Piece) (b : List Piece) : Option (List Piece) := if ((a.Batch == a.Batch) && ((a.Volume == 0) && true)) = true then Lh.J3 b else if decide ((b.length : Int) > 0) = true then (ix b (wr ((b.length : Int) - 1))).bind fun c => Lh.J4 a b (c.2.Batch == a.Batch) else Lh.J4 a b false
def Lh (a : List Piece) : Option (List Piece) := (forS Lh.B2 0 a []).bind fun b => Lh.J1 b
def Jl.J1 (a : List Piece) (b : Bool) : Option (List Piece) := if b = true then some [] else (Lh a).bind fun c => some c
def Jl (a : List Piece) : Option (List Piece) := if decide ((a.length : Int) > 400) = true then Jl.J1 a true else (Nk a (fun x => some (Ii x))).bind fun b => Jl.J1 a b
def Hq (a : List Piece) : Option (List Piece) := Cy [] a
def Nu.J1 (a : (List Piece) × (List Piece)) : Option ((List Piece) × (List Piece)) := (Lh a.1).bind fun b => (Lh a.2).bind fun c => some (b, c)
def Nu.B2 (c : Nat) (d : Piece) (a : Int × (List Piece) × (List Piece)) : Option (Int × (List Piece) × (List Piece)) := (ix a.2.1 (c : Int)).bind fun b => (ix (a.2.1.set b.1 (⟨b.2.Batch, (min d.Volume a.1)⟩ : Piece)) (c : Int)).bind fun e => (ix a.2.2 (c : Int)).bind fun f => some (wr (a.1 - e.2.Volume), (a.2.1.set b.1 (⟨b.2.Batch, (min d.Volume a.1)⟩ : Piece)), (a.2.2.set f.1 (⟨f.2.Batch, wr (d.Volume - e.2.Volume)⟩ : Piece)))
def Nu (a : List Piece) (c : Int) : Option ((List Piece) × (List Piece)) := (Hq a).bind fun d => (Hq a).bind fun e => (forS Nu.B2 0 a (c, d, e)).bind fun b => Nu.J1 (b.2.1, b.2.2)
def Lx.J2 (a : (List Piece) × (List Piece)) : Option ((List Piece) × (List Piece) × Int) := if (decide ((a.1.length : Int) > 200) || decide ((a.2.length : Int) > 200)) = true then some ([], [], 4) else some (a.1, a.2, 0)
def Lx.J1 (a : List Piece) (b : List Piece) (e : Bool) (f : Bool) : Option ((List Piece) × (List Piece) × Int) := if f = true then some ([], [], 9) else if e = true then (Hq a).bind fun g => (Cy g b).bind fun h => (Jk b).bind fun i => (Nu h i).bind fun c => Lx.J2 (c.2, c.1) else (Hq b).bind fun j => (Cy j a).bind fun k => (Jk a).bind fun l => (Nu k l).bind fun d => Lx.J2 (d.1, d.2)
def Lx (a : List Piece) (b : List Piece) (c : Bool) : Option ((List Piece) × (List Piece) × Int) := (Hm a).bind fun d => if (!d) = true then Lx.J1 a b c true else (Hm b).bind fun e => Lx.J1 a b c (!e)
def Rf.J1 (a : Int) (b : Int) : Option Int := if (b == 0) = true then some 9 else if (decide (a < 0) || decide (a > b)) = true then some 1 else some 0
def Rf.B2 (c : Nat) (a : Int) (b : Int) : Option (Int ⊕ (Int)) := if (decide (a < 0) || decide (a > 1000)) = true then some ((.inr (1))) else some (.inl (wr (b + a)))
def Rf (a : Li) (b : Int) : Option Int := if decide ((a.length : Int) > 64) = true then some 4 else (forL Rf.B2 0 a 0).bind fun c => Sum.elim (fun d => Rf.J1 b d) (fun e => some e) c
def Yy (a : Li) : Option deal_table := (fE (Arr.rep 64 (0 : Int)) a).bind fun b => some (⟨(a.length : Int), b, (Arr.rep 64 (0 : Int))⟩ : deal_table)
def Qy.J1 (a : deal_table) (b : Int) : Option (Int × deal_table) := some (b, a)
def Qy.J3 (a : Int) : Option Int := some a
def Qy.J4 (a : Nat) (b : Int) (c : Bool) : Option Int := if c = true then Qy.J3 (a : Int) else Qy.J3 b
def Qy.B2 (c : deal_table) (b : Nat) (a : Int) : Option Int := (ix c.rates.l (b : Int)).bind fun d => if decide (d.2 > 0) = true then if decide (a < 0) = true then Qy.J4 b a true else (ix c.counts.l (b : Int)).bind fun e => (ix c.rates.l a).bind fun f => (ix c.counts.l a).bind fun g => Qy.J4 b a (decide ((wr ((wr (e.2 + 1)) * f.2)) < (wr ((wr (g.2 + 1)) * d.2)))) else Qy.J4 b a false
def Qy (a : deal_table) : Option (Int × deal_table) := (chk (a.n_ ≤ 9223372036854775806)).bind fun c => (forJ (Qy.B2 a) 0 a.n_.toNat (-1)).bind fun b => Qy.J1 a b
def Vk.J3 (a : List (List Piece)) : Option ((List (List Piece)) × Int) := some (a, 0)
def Vk.B4 (c : Nat) (a : List (List Piece)) : Option (List (List Piece)) := (ix a (c : Int)).bind fun b => (Jl b.2).bind fun d => some (a.set b.1 d)
def Vk.J2 (a : List (List Piece)) : Option ((List (List Piece)) × Int) := (forJ Vk.B4 0 a.length a).bind fun b => Vk.J3 b
def Vk.J6 (a : (List (List Piece)) × Int × (Arr Int 64) × (Arr Int 64)) : Option ((List (List Piece)) × Int × (Arr Int 64) × (Arr Int 64)) := some (a.1, a.2.1, a.2.2.1, a.2.2.2)
def Vk.B8 (d : (List (List Piece)) × Int × (Arr Int 64) × (Arr Int 64)) (e : Nat × Piece) (f : Int × (Arr Int 64) × (Arr Int 64)) (a : Nat) (b : List (List Piece)) : Option (List (List Piece)) := (ix b (a : Int)).bind fun c => (ix f.2.2.l (a : Int)).bind fun g => (ix d.2.2.2.l (a : Int)).bind fun h => (Cy c.2 ([(⟨e.2.Batch, wr (g.2 - h.2)⟩ : Piece)] : List Piece)).bind fun i => some (b.set c.1 i)
def Vk.J7 (b : (List (List Piece)) × Int × (Arr Int 64) × (Arr Int 64)) (c : Nat × Piece) (a : Int × (Arr Int 64) × (Arr Int 64)) : Option ((List (List Piece)) × Int × (Arr Int 64) × (Arr Int 64)) := (forJ (Vk.B8 b c a) 0 b.1.length b.1).bind fun d => Vk.J6 (d, a.1, a.2.1, a.2.2)
def Vk.B9 (d : Nat) (b : Int × (Arr Int 64) × (Arr Int 64)) : Option (Int × (Arr Int 64) × (Arr Int 64)) := (Qy (⟨b.1, b.2.1, b.2.2⟩ : deal_table)).bind fun a => (ix a.2.counts.l a.1).bind fun c => some (a.2.n_, a.2.rates, (a.2.counts.set c.1 (wr (c.2 + 1))))
def Vk.B5 (d : List Piece) (e : Nat) (a : (List (List Piece)) × Int × (Arr Int 64) × (Arr Int 64)) : Option ((List (List Piece)) × Int × (Arr Int 64) × (Arr Int 64)) := (ix d (e : Int)).bind fun b => (chk (b.2.Volume ≤ 9223372036854775806)).bind fun f => (forJ Vk.B9 0 b.2.Volume.toNat (a.2.1, a.2.2.1, a.2.2.2)).bind fun c => Vk.J7 a b (c.1, c.2.1, c.2.2)
def Vk.J1 (a : Li) (c : List Piece) (e : Int) : Option ((List (List Piece)) × Int) := (Rf a e).bind fun d => if (d != 0) = true then some ([], d) else (Su (a.length : Int) ([] : List Piece)).bind fun f => (Yy a).bind fun b => (forJ (Vk.B5 c) 0 c.length (f, b.n_, b.rates, b.counts)).bind fun g => Vk.J2 g.1
def Vk.B10 (a : List Piece) (b : Nat) (c : Int) : Option Int := (ix a (b : Int)).bind fun d => some (wr (c + d.2.Volume))
def Vk (b : List Piece) (c : Li) : Option ((List (List Piece)) × Int) := (Jl b).bind fun a => if (bif ((a.length : Int) == 0) then (decide ((b.length : Int) > 0) || decide ((a.length : Int) > 200)) else decide ((a.length : Int) > 200)) = true then some ([], 9) else (forJ (Vk.B10 a) 0 a.length 0).bind fun d => Vk.J1 c a d
def Qg.J1 (a : Unit) : Option Int := some (-1)
def Qg.B2 (a : (List Piece) → Option Bool) (b : Nat) (c : List Piece) (e : Unit) : Option (Unit ⊕ (Int)) := (a c).bind fun d => if d = true then some ((.inr ((b : Int)))) else some (.inl ())
def Qg (a : List (List Piece)) (b : (List Piece) → Option Bool) : Option Int := (forL (Qg.B2 b) 0 a ()).bind fun c => Sum.elim (fun e => Qg.J1 ()) (fun d => some d) c
def Ra (a : List (List Piece)) (b : (List Piece) → Option Bool) : Option Bool := (Qg a b).bind fun c => some (decide (c ≥ 0))
def Nr (a : List Piece) : Option Bool := (Hm a).bind fun b => some (!b)
def Ig.J2 (a : Unit) : Option Int := some 0
def Ig.B3 (a : Network) (b : Nat) (c : List Piece) (f : Unit) : Option (Unit ⊕ (Int)) := (Vh c).bind fun d => (ix a.Segments (b : Int)).bind fun e => if (d != e.2.Capacity) = true then some ((.inr (14))) else some (.inl ())
def Ig.J1 (a : Network) (b : List (List Piece)) (c : Bool) : Option Int := if c = true then some 9 else (forL (Ig.B3 a) 0 b ()).bind fun d => Sum.elim (fun f => Ig.J2 ()) (fun e => some e) d
def Ig (a : Network) (b : List (List Piece)) : Option Int := (Fy a).bind fun c => if (c != 0) = true then some c else if ((b.length : Int) != (a.Segments.length : Int)) = true then Ig.J1 a b true else (Ra b (fun x => Nr x)).bind fun d => Ig.J1 a b d
def Ls.J1 (a : List Piece) : Option (List Piece) := some a
def Ls.J3 (a : List Piece) : Option (List Piece) := some a
def Ls.J4 (c : Piece) (a : List Piece) (d : Bool) : Option (List Piece) := if d = true then (ix a (wr ((a.length : Int) - 1))).bind fun b => Ls.J3 (a.set b.1 (⟨b.2.Batch, wr (b.2.Volume + c.Volume)⟩ : Piece)) else (Cy a ([c] : List Piece)).bind fun e => Ls.J3 e
def Ls.B2 (d : Nat) (b : Piece) (a : List Piece) : Option (List Piece) := if decide ((a.length : Int) > 0) = true then (ix a (wr ((a.length : Int) - 1))).bind fun c => Ls.J4 b a (c.2.Batch == b.Batch) else Ls.J4 b a false
def Ls (a : List Piece) (b : List Piece) : Option (List Piece) := (forS Ls.B2 0 b a).bind fun c => Ls.J1 c
def Qp.J2 (a : (List Piece) × Int × Int) (b : List Piece) : Option (((List Piece) × Int × Int) ⊕ ((List Piece))) := some (.inl (b, wr (a.2.1 + 1), wr (a.2.2 - 1)))
def Qp.B1 (a : (List Piece) × Int × Int) : Option (((List Piece) × Int × Int) ⊕ ((List Piece))) := if decide (a.2.1 < a.2.2) = true then (ix a.1 a.2.2).bind fun c => (ix a.1 a.2.1).bind fun b => (ix (a.1.set b.1 c.2) a.2.2).bind fun d => Qp.J2 a ((a.1.set b.1 c.2).set d.1 b.2) else some ((.inr (a.1)))
def Qp (a : List Piece) : Option (List Piece) := (D7 Qp.B1 Gz (a, 0, wr ((a.length : Int) - 1))).bind fun b => some b
def Qk (a : List Piece) : Option (List Piece) := (Hq a).bind fun b => (Qp b).bind fun c => some c
def Jg (l : List Port) (q : Li) (a : Int) (b : Bool) : Option (List (Int × Int)) := forS (fun k x acc => (ix q (k : Int)).bind fun r => if ((x.Node != a) || ((r.2 == 0) || (decide (r.2 > 0) != b))) = true then some acc else some (acc ++ [((k : Int), max r.2 (wr (0 - r.2)))])) 0 l []
def Je (l : List Segment) (q : Li) (a : Int) (b : Bool) : Option (List (Int × Int)) := forS (fun k x acc => (ix q (k : Int)).bind fun r => if (((r.2 == 0) || (b && ((Bo x r.2).2 != a))) || (!b && ((Bo x r.2).1 != a))) = true then some acc else some (acc ++ [((k : Int), max r.2 (wr (0 - r.2)))])) 0 l []
def Qe.B1 (b : advance_line) (f : Nat) (a : Int × Int) (c : List Piece) : Option (List Piece) := (ix b.feeds a.1).bind fun d => (Ls c ([(⟨d.2, a.2⟩ : Piece)] : List Piece)).bind fun e => some e
def Qe.B2 (a : advance_line) (f : Nat) (b : Int × Int) (c : List Piece) : Option (List Piece) := (ix a.given b.1).bind fun d => (Ls c d.2).bind fun e => some e
def Qe (a : advance_line) (b : Int) : Option ((List Piece) × ((List (List Piece)) × (List (List Piece)) × (List (List Piece)))) := (Jg a.n_.Ports a.p.Ports b true).bind fun c => (forS (Qe.B1 a) 0 c []).bind fun d => (Je a.n_.Segments a.p.Rates b true).bind fun e => (forS (Qe.B2 a) 0 e d).bind fun f => some (f, (a.fills, a.given, a.out_))
def Qn.J2 (a : advance_line) (b : Int) (c : Nat × (List Piece)) (d : (List Piece) × (List Piece) × Int) (e : List Piece) : Option (Int × ((List (List Piece)) × (List (List Piece)) × (List (List Piece)))) := (ix a.given b).bind fun f => some (0, ((a.fills.set c.1 d.1), (a.given.set f.1 e), a.out_))
def Qn.J1 (a : advance_line) (c : Int) (e : Nat × Int) (f : List Piece) : Option (Int × ((List (List Piece)) × (List (List Piece)) × (List (List Piece)))) := (ix a.fills c).bind fun d => (Lx d.2 f (decide (e.2 < 0))).bind fun b => if (b.2.2 != 0) = true then some (4, (a.fills, a.given, a.out_)) else if (!(decide (e.2 < 0))) = true then (Qk b.2.1).bind fun g => Qn.J2 a c d b g else Qn.J2 a c d b b.2.1
def Qn (a : advance_line) (b : Int) (d : List Piece) : Option (Int × ((List (List Piece)) × (List (List Piece)) × (List (List Piece)))) := (ix a.p.Rates b).bind fun c => if (!(decide (c.2 < 0))) = true then (Qk d).bind fun e => Qn.J1 a b c e else Qn.J1 a b c d
def Vp.B1 (d : Nat) (a : Int × Int) (b : Li) : Option Li := (Cy b ([a.2] : Li)).bind fun c => some c
def Vp.B2 (d : Nat) (a : Int × Int) (b : Li) : Option Li := (Cy b ([a.2] : Li)).bind fun c => some c
def Vp.B3 (b : (List (List Piece)) × Int) (f : Nat) (c : Int × Int) (a : (List (List Piece)) × Int) : Option ((List (List Piece)) × Int) := (ix b.1 a.2).bind fun d => (ix a.1 c.1).bind fun e => some ((a.1.set e.1 d.2), wr (a.2 + 1))
def Vp.B4 (c : advance_line) (d : (List (List Piece)) × Int) (g : Nat) (e : Int × Int) (b : (List (List Piece)) × (List (List Piece)) × (List (List Piece)) × Int) : Option (((List (List Piece)) × (List (List Piece)) × (List (List Piece)) × Int) ⊕ ((Int × ((List (List Piece)) × (List (List Piece)) × (List (List Piece)))))) := (ix d.1 b.2.2.2).bind fun f => (Qn (⟨c.n_, c.p, c.feeds, c.order, b.1, b.2.1, b.2.2.1⟩ : advance_line) e.1 f.2).bind fun a => if (a.1 != 0) = true then some ((.inr ((a.1, (a.2.1, a.2.2.1, a.2.2.2))))) else some (.inl (a.2.1, a.2.2.1, a.2.2.2, wr (b.2.2.2 + 1)))
def Vp (b : advance_line) (c : Int) : Option (Int × ((List (List Piece)) × (List (List Piece)) × (List (List Piece)))) := (Qe b c).bind fun a => if ((a.1.length : Int) == 0) = true then some (0, (a.2.1, a.2.2.1, a.2.2.2)) else if decide ((a.1.length : Int) > 200) = true then some (4, (a.2.1, a.2.2.1, a.2.2.2)) else (Jg b.n_.Ports b.p.Ports c false).bind fun g => (forS Vp.B1 0 g []).bind fun h => (Je b.n_.Segments b.p.Rates c false).bind fun i => (forS Vp.B2 0 i h).bind fun j => (Vk a.1 j).bind fun d => if (d.2 != 0) = true then some (d.2, (a.2.1, a.2.2.1, a.2.2.2)) else (Jg b.n_.Ports b.p.Ports c false).bind fun k => (forS (Vp.B3 d) 0 k (a.2.2.2, 0)).bind fun f => (Je b.n_.Segments b.p.Rates c false).bind fun l => (forL (Vp.B4 b d) 0 l (a.2.1, a.2.2.1, f.1, f.2)).bind fun m => Sum.elim (fun e => some (0, (e.1, e.2.1, e.2.2.1))) (fun n => some n) m
def Ih.J2 (a : (List (List Piece)) × (List (List Piece)) × (List (List Piece))) : Option (Int × ((List (List Piece)) × (List (List Piece)) × (List (List Piece)))) := some (0, (a.1, a.2.1, a.2.2))
def Ih.B3 (b : advance_line) (e : Nat) (d : Int) (c : (List (List Piece)) × (List (List Piece)) × (List (List Piece))) : Option (((List (List Piece)) × (List (List Piece)) × (List (List Piece))) ⊕ ((Int × ((List (List Piece)) × (List (List Piece)) × (List (List Piece)))))) := (Vp (⟨b.n_, b.p, b.feeds, b.order, c.1, c.2.1, c.2.2⟩ : advance_line) d).bind fun a => if (a.1 != 0) = true then some ((.inr ((a.1, (a.2.1, a.2.2.1, a.2.2.2))))) else some (.inl (a.2.1, a.2.2.1, a.2.2.2))
def Ih.J1 (a : advance_line) (c : (List (List Piece)) × (List (List Piece))) : Option (Int × ((List (List Piece)) × (List (List Piece)) × (List (List Piece)))) := (forL (Ih.B3 a) 0 a.order (a.fills, c.1, c.2)).bind fun d => Sum.elim (fun b => Ih.J2 (b.1, b.2.1, b.2.2)) (fun e => some e) d
def Ih (a : advance_line) : Option (Int × ((List (List Piece)) × (List (List Piece)) × (List (List Piece)))) := (Su (a.n_.Segments.length : Int) ([] : List Piece)).bind fun b => (Su (a.n_.Ports.length : Int) ([] : List Piece)).bind fun c => Ih.J1 a (b, c)
def G5 (a : Int) : Bool := (decide (a < 0) || decide (a ≥ 1000))
def Lq.J2 (a : Network) (b : Plan) (c : Li) (d : Li × Int) (e : List (List Piece)) : Option ((Option advance_line) × Int) := some ((some (⟨a, b, c, d.1, e, [], []⟩ : advance_line)), 0)
def Lq.B3 (e : Nat) (a : List Piece) (b : List (List Piece)) : Option (List (List Piece)) := (Hq a).bind fun c => (Cy b ([c] : List (List Piece))).bind fun d => some d
def Lq.J1 (a : Network) (b : List (List Piece)) (c : Plan) (d : Li) (e : Li × Int) (f : Bool) : Option ((Option advance_line) × Int) := if f = true then some (none, 9) else (forS Lq.B3 0 b []).bind fun g => Lq.J2 a c d e g
def Lq (a : Network) (d : List (List Piece)) (e : Plan) (b : Li) : Option ((Option advance_line) × Int) := (Ig a d).bind fun f => if (f != 0) = true then some (none, f) else (Ve a e).bind fun c => if (c.2 != 0) = true then some (none, c.2) else if ((b.length : Int) != (a.Ports.length : Int)) = true then Lq.J1 a d e b c true else (Jf b (fun x => some (G5 x))).bind fun g => Lq.J1 a d e b c g
def Js (c : Network) (d : List (List Piece)) (e : Plan) (f : Li) : Option ((List (List Piece)) × (List (List Piece)) × Int) := (Lq c d e f).bind fun a => pB a.1 (if (a.2 != 0) = true then some ([], [], a.2) else none) fun g => if (a.2 != 0) = true then some ([], [], a.2) else (Ih g).bind fun b => if (b.1 != 0) = true then some ([], [], b.1) else some (b.2.1, b.2.2.2, 0)
def Jq.J1 (a : Unit) : Option ((List (List Piece)) × (List (List Piece)) × Int) := none
def Jq.B2 (a : Nat) (b : Unit) : Option Unit := none
def Jq.J3 (a : (List (List Piece)) × (List (List Piece)) × (List (List Piece)) × (List (List Piece))) : Option ((List (List Piece)) × (List (List Piece)) × Int) := some (a.1, a.2.2.2, 0)
def Jq.J5 (a : (List (List Piece)) × (List (List Piece)) × (List (List Piece)) × (List (List Piece))) : Option (((List (List Piece)) × (List (List Piece)) × (List (List Piece)) × (List (List Piece))) ⊕ (((List (List Piece)) × (List (List Piece)) × Int))) := some (.inl (a.1, a.2.1, a.2.2.1, a.2.2.2))
def Jq.B6 (e : Int × ((List (List Piece)) × (List (List Piece)) × (List (List Piece)))) (a : Nat) (b : List (List Piece)) : Option ((List (List Piece)) ⊕ (((List (List Piece)) × (List (List Piece)) × Int))) := (ix e.2.2.2 (a : Int)).bind fun f => (ix b (a : Int)).bind fun c => (Ls c.2 f.2).bind fun d => (ix (b.set c.1 d) (a : Int)).bind fun g => if decide ((g.2.length : Int) > 200) = true then some ((.inr (([], [], 4)))) else some (.inl (b.set c.1 d))
def Jq.B4 (b : advance_line) (g : Nat) (c : (List (List Piece)) × (List (List Piece)) × (List (List Piece)) × (List (List Piece))) : Option (((List (List Piece)) × (List (List Piece)) × (List (List Piece)) × (List (List Piece))) ⊕ (((List (List Piece)) × (List (List Piece)) × Int))) := (Ih (⟨b.n_, b.p, b.feeds, b.order, c.1, c.2.1, c.2.2.1⟩ : advance_line)).bind fun a => if (a.1 != 0) = true then some ((.inr (([], [], a.1)))) else (forI (Jq.B6 a) 0 a.2.2.2.length c.2.2.2).bind fun d => Sum.elim (fun e => Jq.J5 (a.2.1, a.2.2.1, a.2.2.2, e)) (fun f => some ((.inr (f)))) d
def Jq (e : Network) (f : List (List Piece)) (g : Plan) (h : Li) (a : Int) : Option ((List (List Piece)) × (List (List Piece)) × Int) := if (decide (a < 0) || decide (a > 400)) = true then some ([], [], 1) else (Lq e f g h).bind fun b => pB b.1 (if (b.2 != 0) = true then some ([], [], b.2) else (Su (e.Ports.length : Int) ([] : List Piece)).bind fun l => (chk (a ≤ 9223372036854775806)).bind fun m => (forJ Jq.B2 0 a.toNat ()).bind fun n => Jq.J1 ()) fun c => if (b.2 != 0) = true then some ([], [], b.2) else (Su (e.Ports.length : Int) ([] : List Piece)).bind fun i => (chk (a ≤ 9223372036854775806)).bind fun o => (forI (Jq.B4 c) 0 a.toNat (c.fills, c.given, c.out_, i)).bind fun j => Sum.elim (fun d => Jq.J3 (d.1, d.2.1, d.2.2.1, d.2.2.2)) (fun k => some k) j
def Lo.J1 (a : Int) : Option Int := some a
def Lo.B2 (c : Nat) (a : Piece) (b : Int) : Option Int := some (wr (b + a.Volume))
def Lo (a : List Piece) : Option Int := (forS Lo.B2 0 a 0).bind fun b => Lo.J1 b
def Qt.J1 (a : Unit) : Option Bool := some true
def Qt.B2 (c : List Piece) (d : Nat) (a : Piece) (e : Unit) : Option (Unit ⊕ (Bool)) := (ix c (d : Int)).bind fun b => if (!((a.Batch == b.2.Batch) && ((a.Volume == b.2.Volume) && true))) = true then some ((.inr (false))) else some (.inl ())
def Qt (a : List Piece) (b : List Piece) : Option Bool := if ((a.length : Int) != (b.length : Int)) = true then some false else (forL (Qt.B2 b) 0 a ()).bind fun c => Sum.elim (fun e => Qt.J1 ()) (fun d => some d) c
def If.J1 (a : List Piece) : Option (List Piece) := some a
def If.J3 (a : List Piece) : Option (List Piece) := some a
def If.J4 (c : Piece) (a : List Piece) (d : Bool) : Option (List Piece) := if d = true then (ix a (wr ((a.length : Int) - 1))).bind fun b => If.J3 (a.set b.1 (⟨b.2.Batch, wr (b.2.Volume + c.Volume)⟩ : Piece)) else (Cy a ([c] : List Piece)).bind fun e => If.J3 e
def If.B2 (d : Nat) (b : Piece) (a : List Piece) : Option (List Piece) := if (b.Volume == 0) = true then If.J3 a else if decide ((a.length : Int) > 0) = true then (ix a (wr ((a.length : Int) - 1))).bind fun c => If.J4 b a (c.2.Batch == b.Batch) else If.J4 b a false
def If (a : List Piece) : Option (List Piece) := (forS If.B2 0 a []).bind fun b => If.J1 b
def Hp.J1 (a : Unit) : Option Bool := some true
def Hp.B2 (a : List (List Piece)) (b : Nat) (c : List Piece) (f : Unit) : Option (Unit ⊕ (Bool)) := (ix a (b : Int)).bind fun d => (Qt c d.2).bind fun e => if (!e) = true then some ((.inr (false))) else some (.inl ())
def Hp (a : List (List Piece)) (b : List (List Piece)) : Option Bool := if ((a.length : Int) != (b.length : Int)) = true then some false else (forL (Hp.B2 b) 0 a ()).bind fun c => Sum.elim (fun e => Hp.J1 ()) (fun d => some d) c
def Co (a : Int) (b : Int) (c : Int) : Bool := (decide (a ≥ b) && decide (a ≤ c))
def Qx.J3 (a : Network) (b : List ByteArray) (c : List ByteArray) (d : List ByteArray) : Option (Arr (List ByteArray) 4) := some (⟨[a.Nodes, b, c, d], rfl⟩ : Arr (List ByteArray) 4)
def Qx.B4 (d : Nat) (a : Station) (b : List ByteArray) : Option (List ByteArray) := (Cy b ([a.Name] : List ByteArray)).bind fun c => some c
def Qx.J2 (a : Network) (b : List ByteArray) (c : List ByteArray) : Option (Arr (List ByteArray) 4) := (forS Qx.B4 0 a.Stations []).bind fun d => Qx.J3 a b c d
def Qx.B5 (d : Nat) (a : Port) (b : List ByteArray) : Option (List ByteArray) := (Cy b ([a.Name] : List ByteArray)).bind fun c => some c
def Qx.J1 (a : Network) (b : List ByteArray) : Option (Arr (List ByteArray) 4) := (forS Qx.B5 0 a.Ports []).bind fun c => Qx.J2 a b c
def Qx.B6 (d : Nat) (a : Segment) (b : List ByteArray) : Option (List ByteArray) := (Cy b ([a.Name] : List ByteArray)).bind fun c => some c
def Qx (a : Network) : Option (Arr (List ByteArray) 4) := (forS Qx.B6 0 a.Segments []).bind fun b => Qx.J1 a b
def Qw.J2 (a : Unit) : Option Bool := some true
def Qw.J4 (a : Int) (b : Bool) : Option (Int ⊕ (Bool ⊕ Unit)) := if b = true then some ((.inr (.inl (false)))) else some (.inl (wr (a + 1)))
def Qw.B3 (c : ByteArray) (b : Int) : Option (Int ⊕ (Bool ⊕ Unit)) := if decide (b < (c.size : Int)) = true then (mW c b).bind fun a => if decide (a.2 < 97) = true then if decide (a.2 < 48) = true then Qw.J4 b (a.2 != 45) else if decide (a.2 > 57) = true then Qw.J4 b (a.2 != 45) else Qw.J4 b false else if decide (a.2 > 122) = true then if decide (a.2 < 48) = true then Qw.J4 b (a.2 != 45) else if decide (a.2 > 57) = true then Qw.J4 b (a.2 != 45) else Qw.J4 b false else Qw.J4 b false else some ((.inr (.inr (()))))
def Qw.J1 (a : ByteArray) (b : Bool) : Option Bool := if b = true then some false else (D7 (Qw.B3 a) Gz 0).bind fun c => Sum.elim (fun d => some d) (fun e => Qw.J2 e) c
def Qw (a : ByteArray) : Option Bool := if decide ((a.size : Int) < 1) = true then Qw.J1 a true else if decide ((a.size : Int) > 12) = true then Qw.J1 a true else (mW a 0).bind fun b => if decide (b.2 < 97) = true then Qw.J1 a true else Qw.J1 a (decide (b.2 > 122))
def Rg.J1 (a : Unit) : Option Bool := some false
def Rg.J3 (a : Unit) : Option (Unit ⊕ (Bool)) := some (.inl ())
def Rg.B4 (b : List ByteArray) (c : Nat) (d : ByteArray) (a : Int) : Option (Int ⊕ (Bool ⊕ Unit)) := if decide (a < (c : Int)) = true then (ix b a).bind fun e => if Wh d e.2 = true then some ((.inr (.inl (true)))) else some (.inl (wr (a + 1))) else some ((.inr (.inr (()))))
def Rg.B2 (a : List ByteArray) (b : Nat) (c : ByteArray) (g : Unit) : Option (Unit ⊕ (Bool)) := (D7 (Rg.B4 a b c) Gz 0).bind fun d => Sum.elim (fun e => some ((.inr (e)))) (fun f => Rg.J3 f) d
def Rg (a : List ByteArray) : Option Bool := (forL (Rg.B2 a) 0 a ()).bind fun b => Sum.elim (fun d => Rg.J1 ()) (fun c => some c) b
def Qv.J2 (a : Unit) : Option Bool := some true
def Qv.J4 (a : Bool) : Option (Unit ⊕ (Bool)) := if a = true then some ((.inr (false))) else some (.inl ())
def Qv.B3 (c : Segment) (b : Nat) (a : Point) (e : Unit) : Option (Unit ⊕ (Bool)) := if decide ((b : Int) > 0) = true then (ix c.Points (wr ((b : Int) - 1))).bind fun d => if decide (a.At ≤ d.2.At) = true then Qv.J4 true else if (!(Co a.Height (-500) 5000)) = true then Qv.J4 true else Qv.J4 (!(Co a.Limit 0 100000000)) else if (!(Co a.Height (-500) 5000)) = true then Qv.J4 true else Qv.J4 (!(Co a.Limit 0 100000000))
def Qv.J1 (a : Segment) (b : Bool) : Option Bool := if b = true then some false else (forL (Qv.B3 a) 0 a.Points ()).bind fun c => Sum.elim (fun e => Qv.J2 ()) (fun d => some d) c
def Qv (a : Segment) : Option Bool := if (a.From == a.To) = true then Qv.J1 a true else if (!(Co a.Capacity 1 1000000)) = true then Qv.J1 a true else if (!(Co a.Resist 0 1000)) = true then Qv.J1 a true else if (!(Co a.Wave 0 100000)) = true then Qv.J1 a true else (ix a.Points 0).bind fun b => if (b.2.At != 0) = true then Qv.J1 a true else (ix a.Points (wr ((a.Points.length : Int) - 1))).bind fun c => Qv.J1 a (c.2.At != a.Capacity)
def Jn.J10 (a : Network) (b : Unit) : Option Int := if ((!(Co a.Vapour (-100000) 100000000)) || (!(Co a.Settle 0 100))) = true then some 9 else some 0
def Jn.B11 (b : Nat) (a : Station) (c : Unit) : Option (Unit ⊕ (Int)) := if ((!(Co a.Head 0 100000000)) || ((!(Co a.Fall 0 100000)) || (!(Co a.Suction 0 100000000)))) = true then some ((.inr (9))) else some (.inl ())
def Jn.J9 (a : Network) (d : Unit) : Option Int := (forL Jn.B11 0 a.Stations ()).bind fun b => Sum.elim (fun e => Jn.J10 a ()) (fun c => some c) b
def Jn.B12 (b : Nat) (a : Port) (c : Unit) : Option (Unit ⊕ (Int)) := if (!(Co a.Pressure 0 100000000)) = true then some ((.inr (9))) else some (.inl ())
def Jn.J8 (a : Network) (d : Unit) : Option Int := (forL Jn.B12 0 a.Ports ()).bind fun b => Sum.elim (fun e => Jn.J9 a ()) (fun c => some c) b
def Jn.B13 (c : Nat) (a : Segment) (d : Unit) : Option (Unit ⊕ (Int)) := (Qv a).bind fun b => if (!b) = true then some ((.inr (9))) else some (.inl ())
def Jn.J7 (a : Network) (d : Unit) : Option Int := (forL Jn.B13 0 a.Segments ()).bind fun b => Sum.elim (fun e => Jn.J8 a ()) (fun c => some c) b
def Jn.B14 (a : Network) (c : Nat) (b : Station) (d : Unit) : Option (Unit ⊕ (Int)) := if (!(Co b.Node 0 (wr ((a.Nodes.length : Int) - 1)))) = true then some ((.inr (8))) else some (.inl ())
def Jn.J6 (a : Network) (d : Unit) : Option Int := (forL (Jn.B14 a) 0 a.Stations ()).bind fun b => Sum.elim (fun e => Jn.J7 a ()) (fun c => some c) b
def Jn.B15 (a : Network) (c : Nat) (b : Port) (d : Unit) : Option (Unit ⊕ (Int)) := if (!(Co b.Node 0 (wr ((a.Nodes.length : Int) - 1)))) = true then some ((.inr (8))) else some (.inl ())
def Jn.J5 (a : Network) (d : Unit) : Option Int := (forL (Jn.B15 a) 0 a.Ports ()).bind fun b => Sum.elim (fun e => Jn.J6 a ()) (fun c => some c) b
def Jn.B16 (a : Network) (c : Nat) (b : Segment) (d : Unit) : Option (Unit ⊕ (Int)) := if ((!(Co b.From 0 (wr ((a.Nodes.length : Int) - 1)))) || (!(Co b.To 0 (wr ((a.Nodes.length : Int) - 1))))) = true then some ((.inr (8))) else some (.inl ())
def Jn.J4 (a : Network) (d : Unit) : Option Int := (forL (Jn.B16 a) 0 a.Segments ()).bind fun b => Sum.elim (fun e => Jn.J5 a ()) (fun c => some c) b
def Jn.J18 (a : Unit) : Option (Unit ⊕ (Int)) := some (.inl ())
def Jn.B19 (b : Network) (c : Nat) (d : Station) (a : Int) : Option (Int ⊕ (Int ⊕ Unit)) := if decide (a < (c : Int)) = true then (ix b.Stations a).bind fun e => if (d.Node == e.2.Node) = true then some ((.inr (.inl (7)))) else some (.inl (wr (a + 1))) else some ((.inr (.inr (()))))
def Jn.B17 (a : Network) (b : Nat) (c : Station) (g : Unit) : Option (Unit ⊕ (Int)) := (D7 (Jn.B19 a b c) Gz 0).bind fun d => Sum.elim (fun e => some ((.inr (e)))) (fun f => Jn.J18 f) d
def Jn.J3 (a : Network) (d : Unit) : Option Int := (forL (Jn.B17 a) 0 a.Stations ()).bind fun b => Sum.elim (fun e => Jn.J4 a ()) (fun c => some c) b
def Jn.B20 (a : Arr (List ByteArray) 4) (b : Nat) (e : Unit) : Option (Unit ⊕ (Int)) := (ix a.l (b : Int)).bind fun c => (Rg c.2).bind fun d => if d = true then some ((.inr (7))) else some (.inl ())
def Jn.J2 (a : Network) (b : Arr (List ByteArray) 4) (e : Unit) : Option Int := (forI (Jn.B20 b) 0 4 ()).bind fun c => Sum.elim (fun f => Jn.J3 a ()) (fun d => some d) c
def Jn.J22 (a : Unit) : Option (Unit ⊕ (Int)) := some (.inl ())
def Jn.B23 (c : Nat) (a : ByteArray) (d : Unit) : Option (Unit ⊕ (Int)) := (Qw a).bind fun b => if (!b) = true then some ((.inr (3))) else some (.inl ())
def Jn.B21 (a : Arr (List ByteArray) 4) (b : Nat) (f : Unit) : Option (Unit ⊕ (Int)) := (ix a.l (b : Int)).bind fun c => (forL Jn.B23 0 c.2 ()).bind fun d => Sum.elim (fun g => Jn.J22 ()) (fun e => some ((.inr (e)))) d
def Jn.J1 (a : Network) (e : Unit) : Option Int := (Qx a).bind fun b => (forI (Jn.B21 b) 0 4 ()).bind fun c => Sum.elim (fun f => Jn.J2 a b ()) (fun d => some d) c
def Jn.B24 (b : Nat) (a : Segment) (c : Unit) : Option (Unit ⊕ (Int)) := if (!(Co (a.Points.length : Int) 2 8)) = true then some ((.inr (4))) else some (.inl ())
def Jn (a : Network) : Option Int := if ((!(Co (a.Nodes.length : Int) 1 24)) || (decide ((a.Segments.length : Int) > 32) || (decide ((a.Ports.length : Int) > 24) || decide ((a.Stations.length : Int) > 12)))) = true then some 4 else (forL Jn.B24 0 a.Segments ()).bind fun b => Sum.elim (fun d => Jn.J1 a ()) (fun c => some c) b
def Ik (a : Segment) (b : Int) : (Int × Int) := if decide (b < 0) = true then (a.To, a.From) else (a.From, a.To)
def Qz.J2 (a : Int × Int) : Option (Int × Int) := some (a.1, a.2)
def Qz.J4 (a : Int × Int) : Option (Int × Int) := some (a.1, a.2)
def Qz.B3 (c : Plan) (d : Int) (e : Nat) (f : Port) (a : Int × Int) : Option (Int × Int) := if (f.Node == d) = true then (ix c.Ports (e : Int)).bind fun b => Qz.J4 (wr (a.1 + (max 0 b.2)), wr (a.2 + (max 0 (wr (0 - b.2))))) else Qz.J4 (a.1, a.2)
def Qz.J1 (c : Network) (d : Plan) (e : Int) (a : Int × Int) : Option (Int × Int) := (forS (Qz.B3 d e) 0 c.Ports (a.1, a.2)).bind fun b => Qz.J2 (b.1, b.2)
def Qz.J6 (a : Int × Int) : Option (Int × Int) := some (a.1, a.2)
def Qz.J7 (d : Int) (e : Segment) (a : Int × Int) (b : Nat × Int) (c : Int) : Option (Int × Int) := if (((Ik e b.2).2) == d) = true then Qz.J6 (wr (a.1 + (Gn b.2)), c) else Qz.J6 (a.1, c)
def Qz.B5 (e : Plan) (c : Int) (f : Nat) (d : Segment) (a : Int × Int) : Option (Int × Int) := (ix e.Rates (f : Int)).bind fun b => if (b.2 == 0) = true then Qz.J6 (a.1, a.2) else if (((Ik d b.2).1) == c) = true then Qz.J7 c d a b (wr (a.2 + (Gn b.2))) else Qz.J7 c d a b a.2
def Qz (a : Network) (b : Plan) (c : Int) : Option (Int × Int) := (forS (Qz.B5 b c) 0 a.Segments (0, 0)).bind fun d => Qz.J1 a b c (d.1, d.2)
def Jt.J2 (a : Li × (List Bool)) (b : Int) : Option ((Li × (List Bool)) ⊕ (Li)) := if decide (b < 0) = true then some ((.inr (a.1))) else (Cy a.1 ([b] : Li)).bind fun c => (ix a.2 b).bind fun d => some (.inl (c, (a.2.set d.1 true)))
def Jt.J4 (a : Int) : Option Int := some a
def Jt.J5 (b : Nat) (a : Int) (c : Bool) : Option Int := if (c && decide (a < 0)) = true then Jt.J4 (b : Int) else Jt.J4 a
def Jt.J7 (a : Bool) : Option Bool := some a
def Jt.B6 (d : Plan) (e : Li × (List Bool)) (f : Nat) (g : Nat) (b : Segment) (c : Bool) : Option Bool := (ix d.Rates (g : Int)).bind fun a => if (a.2 != 0) = true then if c = true then if (((Ik b a.2).2) != (f : Int)) = true then Jt.J7 true else (ix e.2 ((Ik b a.2).1)).bind fun h => Jt.J7 h.2 else Jt.J7 false else Jt.J7 c
def Jt.B3 (c : Network) (d : Plan) (b : Li × (List Bool)) (a : Nat) (h : ByteArray) (e : Int) : Option Int := (ix b.2 (a : Int)).bind fun f => (forS (Jt.B6 d b a) 0 c.Segments (!f.2)).bind fun g => Jt.J5 a e g
def Jt.B1 (a : Network) (c : Plan) (b : Li × (List Bool)) : Option ((Li × (List Bool)) ⊕ (Li)) := (forS (Jt.B3 a c b) 0 a.Nodes (-1)).bind fun d => Jt.J2 b d
def Jt (a : Network) (b : Plan) : Option Li := (Su (a.Nodes.length : Int) false).bind fun c => (D7 (Jt.B1 a b) Gz ([], c)).bind fun d => some d
def Lp.J3 (a : Network) (b : Plan) (d : Unit) : Option Int := (Jt a b).bind fun c => if ((c.length : Int) != (a.Nodes.length : Int)) = true then some 13 else some 0
def Lp.B4 (b : Network) (c : Plan) (d : Nat) (e : ByteArray) (f : Unit) : Option (Unit ⊕ (Int)) := (Qz b c (d : Int)).bind fun a => if (a.1 != a.2) = true then some ((.inr (12))) else some (.inl ())
def Lp.J2 (a : Network) (b : Plan) (e : Unit) : Option Int := (forL (Lp.B4 a b) 0 a.Nodes ()).bind fun c => Sum.elim (fun f => Lp.J3 a b ()) (fun d => some d) c
def Lp.B5 (b : Nat) (a : Int) (c : Unit) : Option (Unit ⊕ (Int)) := if (decide (a < (-1000)) || decide (a > 1000)) = true then some ((.inr (1))) else some (.inl ())
def Lp.J1 (b : Network) (a : Plan) (e : Unit) : Option Int := (forL Lp.B5 0 a.Ports ()).bind fun c => Sum.elim (fun f => Lp.J2 b a ()) (fun d => some d) c
def Lp.B6 (c : Network) (d : Nat) (a : Int) (e : Unit) : Option (Unit ⊕ (Int)) := (ix c.Segments (d : Int)).bind fun b => if (decide (a < (wr (0 - (min 1000 b.2.Capacity)))) || decide (a > (min 1000 b.2.Capacity))) = true then some ((.inr (1))) else some (.inl ())
def Lp (a : Network) (b : Plan) : Option Int := (Jn a).bind fun c => if (c != 0) = true then some c else if (((b.Rates.length : Int) != (a.Segments.length : Int)) || (((b.Ports.length : Int) != (a.Ports.length : Int)) || ((b.Pumps.length : Int) != (a.Stations.length : Int)))) = true then some 9 else (forL (Lp.B6 a) 0 b.Rates ()).bind fun d => Sum.elim (fun f => Lp.J1 a b ()) (fun e => some e) d
def Jr (a : Int) : Bool := (decide (a ≥ 0) && decide (a < 1000))
def Vl.J1 (a : Int) : Option Bool := some (decide (a ≤ 1000000))
def Vl.J3 (a : Piece) (b : Int) (c : Bool) : Option (Int ⊕ (Bool)) := if c = true then some ((.inr (false))) else some (.inl (wr (b + a.Volume)))
def Vl.B2 (d : List Piece) (c : Nat) (a : Piece) (b : Int) : Option (Int ⊕ (Bool)) := if (!(Jr a.Batch)) = true then Vl.J3 a b true else if decide (a.Volume < 1) = true then Vl.J3 a b true else if decide (a.Volume > 1000000) = true then Vl.J3 a b true else if decide ((c : Int) > 0) = true then (ix d (wr ((c : Int) - 1))).bind fun e => Vl.J3 a b (a.Batch == e.2.Batch) else Vl.J3 a b false
def Vl (a : List Piece) : Option Bool := if decide ((a.length : Int) > 200) = true then some false else (forL (Vl.B2 a) 0 a 0).bind fun b => Sum.elim (fun c => Vl.J1 c) (fun d => some d) b
def Nq.J2 (a : Unit) : Option Int := some 0
def Nq.B3 (a : Network) (b : Nat) (c : List Piece) (f : Unit) : Option (Unit ⊕ (Int)) := (Lo c).bind fun d => (ix a.Segments (b : Int)).bind fun e => if (d != e.2.Capacity) = true then some ((.inr (14))) else some (.inl ())
def Nq.J1 (a : Network) (b : List (List Piece)) (e : Unit) : Option Int := (forL (Nq.B3 a) 0 b ()).bind fun c => Sum.elim (fun f => Nq.J2 ()) (fun d => some d) c
def Nq.B4 (c : Nat) (a : List Piece) (d : Unit) : Option (Unit ⊕ (Int)) := (Vl a).bind fun b => if (!b) = true then some ((.inr (9))) else some (.inl ())
def Nq (a : Network) (b : List (List Piece)) : Option Int := (Jn a).bind fun c => if (c != 0) = true then some c else if ((b.length : Int) != (a.Segments.length : Int)) = true then some 9 else (forL Nq.B4 0 b ()).bind fun d => Sum.elim (fun f => Nq.J1 a b ()) (fun e => some e) d
def Vq (a : Network) (b : Plan) : Option (Li × Int) := (Lp a b).bind fun c => if (c != 0) = true then some ([], c) else (Jt a b).bind fun d => some (d, 0)
def Q9.J1 (a : Int) : Option Int := some a
def Q9.J3 (a : Int) : Option Int := some a
def Q9.J4 (a : Nat) (b : Int) (c : Bool) : Option Int := if c = true then Q9.J3 (a : Int) else Q9.J3 b
def Q9.B2 (e : Li) (c : Li) (b : Nat) (d : Int) (a : Int) : Option Int := if decide (d > 0) = true then if decide (a < 0) = true then Q9.J4 b a true else (ix c (b : Int)).bind fun f => (ix e a).bind fun g => (ix c a).bind fun h => Q9.J4 b a (decide ((wr ((wr (f.2 + 1)) * g.2)) < (wr ((wr (h.2 + 1)) * d)))) else Q9.J4 b a false
def Q9 (a : Li) (b : Li) : Option Int := (forS (Q9.B2 a b) 0 a (-1)).bind fun c => Q9.J1 c
def Vm.J2 (a : List (List Piece)) : Option (List (List Piece)) := some a
def Vm.B3 (c : Nat) (a : List (List Piece)) : Option (List (List Piece)) := (ix a (c : Int)).bind fun b => (If b.2).bind fun d => some (a.set b.1 d)
def Vm.J1 (a : List (List Piece)) : Option (List (List Piece)) := (forJ Vm.B3 0 a.length a).bind fun b => Vm.J2 b
def Vm.J5 (a : (List (List Piece)) × Li) : Option ((List (List Piece)) × Li) := some (a.1, a.2)
def Vm.B7 (d : Piece) (e : Li) (f : Li) (a : Nat) (j : Int) (b : List (List Piece)) : Option (List (List Piece)) := (ix b (a : Int)).bind fun c => (ix f (a : Int)).bind fun g => (ix e (a : Int)).bind fun h => (Cy c.2 ([(⟨d.Batch, wr (g.2 - h.2)⟩ : Piece)] : List Piece)).bind fun i => some (b.set c.1 i)
def Vm.J6 (b : Li) (c : Piece) (d : (List (List Piece)) × Li) (e : Li) (a : Li) : Option ((List (List Piece)) × Li) := (forS (Vm.B7 c e a) 0 b d.1).bind fun f => Vm.J5 (f, a)
def Vm.B8 (c : Li) (d : Piece) (a : Li × Int) : Option ((Li × Int) ⊕ (Li)) := if decide (a.2 < d.Volume) = true then (Q9 c a.1).bind fun e => (ix a.1 e).bind fun b => some (.inl ((a.1.set b.1 (wr (b.2 + 1))), wr (a.2 + 1))) else some ((.inr (a.1)))
def Vm.B4 (b : Li) (f : Nat) (c : Piece) (a : (List (List Piece)) × Li) : Option ((List (List Piece)) × Li) := (Cy ([] : Li) a.2).bind fun d => (D7 (Vm.B8 b c) Gz (a.2, 0)).bind fun e => Vm.J6 b c a d e
def Vm (b : List Piece) (a : Li) : Option (List (List Piece)) := (Su (a.length : Int) ([] : List Piece)).bind fun c => (Su (a.length : Int) (0 : Int)).bind fun d => (forS (Vm.B4 a) 0 b (c, d)).bind fun e => Vm.J1 e.1
def Lk.J1 (a : List Piece) : Option (List Piece) := some a
def Lk.B2 (b : List Piece) (a : (List Piece) × Int) : Option (((List Piece) × Int) ⊕ ((List Piece))) := if decide (a.2 ≥ 0) = true then (ix b a.2).bind fun c => (Cy a.1 ([c.2] : List Piece)).bind fun d => some (.inl (d, wr (a.2 - 1))) else some ((.inr (a.1)))
def Lk (a : List Piece) : Option (List Piece) := (D7 (Lk.B2 a) Gz ([], wr ((a.length : Int) - 1))).bind fun b => Lk.J1 b
def Jp.J1 (a : (List Piece) × (List Piece)) : Option ((List Piece) × (List Piece)) := (If a.1).bind fun b => (If a.2).bind fun c => some (b, c)
def Jp.J3 (c : Piece) (a : Int × (List Piece) × (List Piece)) (b : (List Piece) × (List Piece)) : Option (Int × (List Piece) × (List Piece)) := some (wr (a.1 - (min a.1 c.Volume)), b.1, b.2)
def Jp.B2 (e : Nat) (a : Piece) (b : Int × (List Piece) × (List Piece)) : Option (Int × (List Piece) × (List Piece)) := (Cy b.2.1 ([(⟨a.Batch, (min b.1 a.Volume)⟩ : Piece)] : List Piece)).bind fun c => (Cy b.2.2 ([(⟨a.Batch, wr (a.Volume - (min b.1 a.Volume))⟩ : Piece)] : List Piece)).bind fun d => Jp.J3 a b (c, d)
def Jp (b : List Piece) (c : Int) : Option ((List Piece) × (List Piece)) := (forS Jp.B2 0 b (c, [], [])).bind fun a => Jp.J1 (a.2.1, a.2.2)
def Vn (a : List Piece) (b : List Piece) (e : Bool) : Option ((List Piece) × (List Piece)) := if e = true then (Cy ([] : List Piece) a).bind fun f => (Cy f b).bind fun g => (Lo b).bind fun h => (Jp g h).bind fun c => some (c.2, c.1) else (Cy ([] : List Piece) b).bind fun i => (Cy i a).bind fun j => (Lo a).bind fun k => (Jp j k).bind fun d => some (d.1, d.2)
def Jm.J1 (a : Unit) : Option Int := some 0
def Jm.B2 (b : Nat) (a : Int) (c : Unit) : Option (Unit ⊕ (Int)) := if (!(Jr a)) = true then some ((.inr (9))) else some (.inl ())
def Jm (a : Network) (e : List (List Piece)) (f : Plan) (b : Li) : Option Int := (Nq a e).bind fun c => if (c != 0) = true then some c else (Lp a f).bind fun d => if (d != 0) = true then some d else if ((b.length : Int) != (a.Ports.length : Int)) = true then some 9 else (forL Jm.B2 0 b ()).bind fun g => Sum.elim (fun i => Jm.J1 ()) (fun h => some h) g
def Jh.J5 (a : (List (List Piece)) × (List (List Piece)) × (List (List Piece)) × Bool) (b : Bool) : Option ((List (List Piece)) × (List (List Piece)) × Int) := if b = true then some ([], [], 4) else some (a.1, a.2.1, 0)
def Jh.J7 (a : Bool) : Option Bool := some a
def Jh.B6 (a : (List (List Piece)) × (List (List Piece)) × (List (List Piece)) × Bool) (b : Nat) (c : Bool) : Option Bool := if c = true then Jh.J7 true else (ix a.2.1 (b : Int)).bind fun d => Jh.J7 (decide ((d.2.length : Int) > 200))
def Jh.J4 (a : (List (List Piece)) × (List (List Piece)) × (List (List Piece)) × Bool) (b : Bool) : Option ((List (List Piece)) × (List (List Piece)) × Int) := (forJ (Jh.B6 a) 0 a.2.1.length b).bind fun c => Jh.J5 a c
def Jh.J9 (a : Bool) : Option Bool := some a
def Jh.B8 (a : (List (List Piece)) × (List (List Piece)) × (List (List Piece)) × Bool) (b : Nat) (c : Bool) : Option Bool := if c = true then Jh.J9 true else (ix a.1 (b : Int)).bind fun d => if decide ((d.2.length : Int) > 200) = true then Jh.J9 true else (ix a.2.2.1 (b : Int)).bind fun e => Jh.J9 (decide ((e.2.length : Int) > 200))
def Jh.J3 (a : (List (List Piece)) × (List (List Piece)) × (List (List Piece)) × Bool) : Option ((List (List Piece)) × (List (List Piece)) × Int) := (forJ (Jh.B8 a) 0 a.1.length a.2.2.2).bind fun b => Jh.J4 a b
def Jh.J11 (a : (List (List Piece)) × (List (List Piece)) × (List (List Piece)) × Bool) : Option ((List (List Piece)) × (List (List Piece)) × (List (List Piece)) × Bool) := some (a.1, a.2.1, a.2.2.1, a.2.2.2)
def Jh.J17 (a : (List (List Piece)) × (List (List Piece))) (b : Nat × Int) (c : Nat × (List Piece)) (d : (List Piece) × (List Piece)) (e : List Piece) : Option ((List (List Piece)) × (List (List Piece))) := (ix a.2 b.2).bind fun f => some ((a.1.set c.1 d.1), (a.2.set f.1 e))
def Jh.J16 (b : (List (List Piece)) × (List (List Piece))) (c : Nat × Int) (e : Nat × Int) (f : List Piece) : Option ((List (List Piece)) × (List (List Piece))) := (ix b.1 c.2).bind fun d => (Vn d.2 f (decide (e.2 < 0))).bind fun a => if (!(decide (e.2 < 0))) = true then (Lk a.2).bind fun g => Jh.J17 b c d a g else Jh.J17 b c d a a.2
def Jh.B15 (f : Plan) (g : (List Piece) × Li × Li) (h : (List Piece) × Li × Li) (i : List (List Piece)) (c : Nat) (d : (List (List Piece)) × (List (List Piece))) : Option ((List (List Piece)) × (List (List Piece))) := (ix h.2.2 (c : Int)).bind fun a => (ix i (wr ((g.2.2.length : Int) + (c : Int)))).bind fun e => (ix f.Rates a.2).bind fun b => if (!(decide (b.2 < 0))) = true then (Lk e.2).bind fun j => Jh.J16 d a b j else Jh.J16 d a b e.2
def Jh.J14 (d : Plan) (a : (List (List Piece)) × (List (List Piece)) × (List (List Piece)) × Bool) (e : (List Piece) × Li × Li) (b : (List Piece) × Li × Li) (f : List Piece) (g : List (List Piece)) (h : List (List Piece)) : Option ((List (List Piece)) × (List (List Piece)) × (List (List Piece)) × Bool) := (forJ (Jh.B15 d e b g) 0 b.2.2.length (a.1, a.2.2.1)).bind fun c => Jh.J11 (c.1, h, c.2, (a.2.2.2 || decide ((f.length : Int) > 200)))
def Jh.B18 (c : (List Piece) × Li × Li) (d : List (List Piece)) (a : Nat) (b : List (List Piece)) : Option (List (List Piece)) := (ix c.2.2 (a : Int)).bind fun e => (ix d (a : Int)).bind fun f => (ix b e.2).bind fun g => some (b.set g.1 f.2)
def Jh.J13 (f : Plan) (a : (List (List Piece)) × (List (List Piece)) × (List (List Piece)) × Bool) (c : (List Piece) × Li × Li) (d : (List Piece) × Li × Li) : Option ((List (List Piece)) × (List (List Piece)) × (List (List Piece)) × Bool) := (If d.1).bind fun b => if ((b.length : Int) == 0) = true then Jh.J11 (a.1, a.2.1, a.2.2.1, (a.2.2.2 || decide ((b.length : Int) > 200))) else (Vm b d.2.1).bind fun e => (forJ (Jh.B18 c e) 0 c.2.2.length a.2.1).bind fun g => Jh.J14 f a c d b e g
def Jh.J20 (a : (List Piece) × Li × Li) : Option ((List Piece) × Li × Li) := some (a.1, a.2.1, a.2.2)
def Jh.J21 (d : Nat × Int) (e : Nat) (f : Segment) (a : (List Piece) × Li × Li) (b : Nat × Int) (c : List Piece) : Option ((List Piece) × Li × Li) := if (((Ik f b.2).1) == d.2) = true then (Cy a.2.1 ([(Gn b.2)] : Li)).bind fun g => (Cy a.2.2 ([(e : Int)] : Li)).bind fun h => Jh.J20 (c, g, h) else Jh.J20 (c, a.2.1, a.2.2)
def Jh.B19 (f : Plan) (g : (List (List Piece)) × (List (List Piece)) × (List (List Piece)) × Bool) (d : Nat × Int) (b : Nat) (e : Segment) (a : (List Piece) × Li × Li) : Option ((List Piece) × Li × Li) := (ix f.Rates (b : Int)).bind fun c => if (c.2 == 0) = true then Jh.J20 (a.1, a.2.1, a.2.2) else if (((Ik e c.2).2) == d.2) = true then (ix g.2.2.1 (b : Int)).bind fun h => (Cy a.1 h.2).bind fun i => Jh.J21 d b e a c i else Jh.J21 d b e a c a.1
def Jh.J12 (e : Network) (c : Plan) (d : (List (List Piece)) × (List (List Piece)) × (List (List Piece)) × Bool) (f : Nat × Int) (a : (List Piece) × Li × Li) : Option ((List (List Piece)) × (List (List Piece)) × (List (List Piece)) × Bool) := (forS (Jh.B19 c d f) 0 e.Segments (a.1, a.2.1, [])).bind fun b => Jh.J13 c d a (b.1, b.2.1, b.2.2)
def Jh.J23 (a : (List Piece) × Li × Li) : Option ((List Piece) × Li × Li) := some (a.1, a.2.1, a.2.2)
def Jh.J25 (d : Plan) (b : Nat) (a : (List Piece) × Li × Li) (c : List Piece) (e : Bool) : Option ((List Piece) × Li × Li) := if e = true then (ix d.Ports (b : Int)).bind fun f => (Cy a.2.1 ([wr (0 - f.2)] : Li)).bind fun g => (Cy a.2.2 ([(b : Int)] : Li)).bind fun h => Jh.J23 (c, g, h) else Jh.J23 (c, a.2.1, a.2.2)
def Jh.J24 (a : Plan) (e : Nat × Int) (b : Nat) (f : Port) (c : (List Piece) × Li × Li) (d : List Piece) : Option ((List Piece) × Li × Li) := if (f.Node == e.2) = true then (ix a.Ports (b : Int)).bind fun g => Jh.J25 a b c d (decide (g.2 < 0)) else Jh.J25 a b c d false
def Jh.J26 (c : Plan) (f : Li) (d : Nat × Int) (a : Nat) (e : Port) (b : (List Piece) × Li × Li) (g : Bool) : Option ((List Piece) × Li × Li) := if g = true then (ix f (a : Int)).bind fun h => (ix c.Ports (a : Int)).bind fun i => (Cy b.1 ([(⟨h.2, i.2⟩ : Piece)] : List Piece)).bind fun j => Jh.J24 c d a e b j else Jh.J24 c d a e b b.1
def Jh.B22 (a : Plan) (e : Li) (b : Nat × Int) (c : Nat) (d : Port) (f : (List Piece) × Li × Li) : Option ((List Piece) × Li × Li) := if (d.Node == b.2) = true then (ix a.Ports (c : Int)).bind fun g => Jh.J26 a e b c d f (decide (g.2 > 0)) else Jh.J26 a e b c d f false
def Jh.B10 (b : Network) (c : Plan) (e : Li) (f : Li × Int) (g : Nat) (h : (List (List Piece)) × (List (List Piece)) × (List (List Piece)) × Bool) : Option ((List (List Piece)) × (List (List Piece)) × (List (List Piece)) × Bool) := (ix f.1 (g : Int)).bind fun d => (forS (Jh.B22 c e d) 0 b.Ports ([], [], [])).bind fun a => Jh.J12 b c h d (a.1, a.2.1, a.2.2)
def Jh.J2 (b : Network) (c : Plan) (e : Li) (f : (List (List Piece)) × (List (List Piece))) (g : List (List Piece)) (h : List (List Piece)) : Option ((List (List Piece)) × (List (List Piece)) × Int) := (Vq b c).bind fun d => (forJ (Jh.B10 b c e d) 0 d.1.length (h, f.2, g, false)).bind fun a => Jh.J3 (a.1, a.2.1, a.2.2.1, a.2.2.2)
def Jh.B27 (b : Nat) (c : List Piece) (a : List (List Piece)) : Option (List (List Piece)) := (Cy ([] : List Piece) c).bind fun d => (ix a (b : Int)).bind fun e => some (a.set e.1 d)
def Jh.J1 (c : Network) (a : List (List Piece)) (d : Plan) (e : Li) (b : (List (List Piece)) × (List (List Piece))) : Option ((List (List Piece)) × (List (List Piece)) × Int) := (Su (a.length : Int) ([] : List Piece)).bind fun f => (forS Jh.B27 0 a b.1).bind fun g => Jh.J2 c d e b f g
def Jh (a : Network) (b : List (List Piece)) (c : Plan) (d : Li) : Option ((List (List Piece)) × (List (List Piece)) × Int) := (Jm a b c d).bind fun e => if (e != 0) = true then some ([], [], e) else (Su (b.length : Int) ([] : List Piece)).bind fun f => (Su (a.Ports.length : Int) ([] : List Piece)).bind fun g => Jh.J1 a b c d (f, g)
def Qs.J2 (a : Li × Int × Li × Li × (List Bool)) : Option (Plan × KS) := some ((⟨a.2.2.1, a.2.2.2.1, a.2.2.2.2⟩ : Plan), (⟨a.1, a.2.1⟩ : KS))
def Qs.J1 (j : KS) (a : Li × Li × (List Bool)) : Option (Plan × KS) := (Dq j 5).bind fun b => if (b.1 == 0) = true then (Cy a.2.2 ([true] : List Bool)).bind fun k => Qs.J2 (b.2.L_, b.2.At, a.1, a.2.1, k) else if (b.1 == 1) = true then (Dq b.2 (wr ((a.2.1.length : Int) + 1))).bind fun c => (Yc a.2.1 0 c.1).bind fun l => Qs.J2 (c.2.L_, c.2.At, a.1, l, a.2.2) else if (b.1 == 2) = true then if decide ((a.2.1.length : Int) > 0) = true then (Dq b.2 (a.2.1.length : Int)).bind fun f => (ix a.2.1 f.1).bind fun g => (Ev f.2 ([1, (-1), 1001, (-4611686018427387904)] : Li)).bind fun d => Qs.J2 (d.2.L_, d.2.At, a.1, (a.2.1.set g.1 (wr (g.2 + d.1))), a.2.2) else Qs.J2 (b.2.L_, b.2.At, a.1, a.2.1, a.2.2) else if decide ((a.1.length : Int) > 0) = true then (Dq b.2 (a.1.length : Int)).bind fun h => (ix a.1 h.1).bind fun i => (Ev h.2 ([1, (-1), 5, 1001, 4611686018427387904, (-4611686018427387904)] : Li)).bind fun e => Qs.J2 (e.2.L_, e.2.At, (a.1.set i.1 (wr (i.2 + e.1))), a.2.1, a.2.2) else Qs.J2 (b.2.L_, b.2.At, a.1, a.2.1, a.2.2)
def Qs (b : KS) (a : Plan) : Option (Plan × KS) := (Cy ([] : Li) a.Rates).bind fun c => (Cy ([] : Li) a.Ports).bind fun d => (Cy ([] : List Bool) a.Pumps).bind fun e => Qs.J1 b (c, d, e)
def Jj.J1 (a : (List (List Piece)) × (List (List Piece))) : Option ((List (List Piece)) × (List (List Piece)) × Int) := some (a.1, a.2, 0)
def Jj.J3 (b : (List (List Piece)) × (List (List Piece)) × Int) (a : (List (List Piece)) × (List (List Piece))) : Option (((List (List Piece)) × (List (List Piece)) × Int) ⊕ (((List (List Piece)) × (List (List Piece)) × Int) ⊕ ((List (List Piece)) × (List (List Piece))))) := some (.inl (a.1, a.2, wr (b.2.2 + 1)))
def Jj.B4 (e : (List (List Piece)) × (List (List Piece)) × Int) (a : Nat) (b : List (List Piece)) : Option ((List (List Piece)) ⊕ (((List (List Piece)) × (List (List Piece)) × Int))) := (ix b (a : Int)).bind fun c => (Cy ([] : List Piece) c.2).bind fun f => (ix e.2.1 (a : Int)).bind fun g => (Cy f g.2).bind fun h => (If h).bind fun d => (ix (b.set c.1 d) (a : Int)).bind fun i => if decide ((i.2.length : Int) > 200) = true then some ((.inr (([], [], 4)))) else some (.inl (b.set c.1 d))
def Jj.B2 (c : Network) (d : Plan) (e : Li) (f : Int) (a : (List (List Piece)) × (List (List Piece)) × Int) : Option (((List (List Piece)) × (List (List Piece)) × Int) ⊕ (((List (List Piece)) × (List (List Piece)) × Int) ⊕ ((List (List Piece)) × (List (List Piece))))) := if decide (a.2.2 < f) = true then (Jh c a.1 d e).bind fun b => if (b.2.2 != 0) = true then some ((.inr (.inl (([], [], b.2.2))))) else (forI (Jj.B4 b) 0 a.2.1.length a.2.1).bind fun g => Sum.elim (fun h => Jj.J3 a (b.1, h)) (fun i => some ((.inr (.inl (i))))) g else some ((.inr (.inr ((a.1, a.2.1)))))
def Jj (a : Network) (c : List (List Piece)) (d : Plan) (e : Li) (b : Int) : Option ((List (List Piece)) × (List (List Piece)) × Int) := if (decide (b < 0) || decide (b > 400)) = true then some ([], [], 1) else (Jm a c d e).bind fun f => if (f != 0) = true then some ([], [], f) else (Su (a.Ports.length : Int) ([] : List Piece)).bind fun g => (D7 (Jj.B2 a d e b) Gz (c, g, 0)).bind fun h => Sum.elim (fun i => some i) (fun j => Jj.J1 j) h
def Lv.J2 (a : Bool) : Option Bool := some a
def Lv.J1 (b : List Segment) : Option Bool := (Js (⟨([(⟨#[97]⟩ : ByteArray), (⟨#[98]⟩ : ByteArray), (⟨#[99]⟩ : ByteArray)] : List ByteArray), b, ([(⟨(⟨#[105, 110]⟩ : ByteArray), 0, 0⟩ : Port), (⟨(⟨#[109, 105, 100]⟩ : ByteArray), 1, 0⟩ : Port), (⟨(⟨#[111, 117, 116]⟩ : ByteArray), 2, 0⟩ : Port)] : List Port), [], 0, 0⟩ : Network) ([([(⟨1, 10⟩ : Piece)] : List Piece), ([(⟨2, 10⟩ : Piece)] : List Piece)] : List (List Piece)) (⟨([4, (-3)] : Li), ([4, (-1), (-3)] : Li), []⟩ : Plan) ([5, 0, 0] : Li)).bind fun a => if (a.2.2 == 0) = true then (Hp a.1 ([([(⟨5, 4⟩ : Piece), (⟨1, 6⟩ : Piece)] : List Piece), ([(⟨2, 7⟩ : Piece), (⟨1, 3⟩ : Piece)] : List Piece)] : List (List Piece))).bind fun c => if c = true then (Hp a.2.1 ([[], ([(⟨1, 1⟩ : Piece)] : List Piece), ([(⟨2, 3⟩ : Piece)] : List Piece)] : List (List Piece))).bind fun d => Lv.J2 d else Lv.J2 false else Lv.J2 false
def Lv.J4 (a : List Segment) : Option (List Segment) := some a
def Lv.B3 (a : Nat) (c : List Segment) : Option (List Segment) := (ix ([(⟨[0, 1], rfl⟩ : Arr Int 2), (⟨[2, 1], rfl⟩ : Arr Int 2)] : List (Arr Int 2)) (a : Int)).bind fun b => (ix ([(⟨#[120]⟩ : ByteArray), (⟨#[121]⟩ : ByteArray)] : List ByteArray) (a : Int)).bind fun d => (ix b.2.l 0).bind fun e => (ix b.2.l 1).bind fun f => (Cy c ([(⟨d.2, e.2, f.2, 10, 0, 0, ([(⟨0, 0, 0⟩ : Point), (⟨10, 0, 0⟩ : Point)] : List Point)⟩ : Segment)] : List Segment)).bind fun g => Lv.J4 g
def Lv : Option Bool := (forJ Lv.B3 0 (([(⟨[0, 1], rfl⟩ : Arr Int 2), (⟨[2, 1], rfl⟩ : Arr Int 2)] : List (Arr Int 2)).length) []).bind fun a => Lv.J1 a
def Vt.J3 (b : Unit) : Option Bool := (Lv).bind fun a => some a
def Vt.J5 (b : Li × Int × (List (List Piece))) (a : Li × Int) : Option ((Li × Int × (List (List Piece))) ⊕ (Bool)) := some (.inl (a.1, a.2, b.2.2))
def Vt.J8 (a : Bool) : Option (Unit ⊕ (Bool)) := if a = true then some ((.inr (false))) else some (.inl ())
def Vt.B7 (g : Int) (a : Li × Int × (List (List Piece)) × Li × Li × (List Bool) × Li) (d : Li × Int × (List (List Piece))) (e : Nat × Network) (h : Int × KS) (i : Nat) (l : Unit) : Option (Unit ⊕ (Bool)) := (ix ([g, h.1] : Li) (i : Int)).bind fun f => (Jq e.2 d.2.2 (⟨a.2.2.2.1, a.2.2.2.2.1, a.2.2.2.2.2.1⟩ : Plan) a.2.2.2.2.2.2 f.2).bind fun b => (Jj e.2 d.2.2 (⟨a.2.2.2.1, a.2.2.2.2.1, a.2.2.2.2.2.1⟩ : Plan) a.2.2.2.2.2.2 f.2).bind fun c => (Hp b.1 c.1).bind fun j => if (!j) = true then Vt.J8 true else (Hp b.2.1 c.2.1).bind fun k => if (!k) = true then Vt.J8 true else Vt.J8 (b.2.2 != c.2.2)
def Vt.J6 (b : Int) (e : Li × Int × (List (List Piece)) × Li × Li × (List Bool) × Li) (c : Li × Int × (List (List Piece))) (f : Nat × Network) (d : Li × Int) : Option ((Li × Int × (List (List Piece))) ⊕ (Bool)) := (Dq (⟨d.1, d.2⟩ : KS) 6).bind fun a => (forI (Vt.B7 b e c f a) 0 (([b, a.1] : Li).length) ()).bind fun g => Sum.elim (fun i => Vt.J5 c (a.2.L_, a.2.At)) (fun h => some ((.inr (h)))) g
def Vt.J10 (a : Li × Int) : Option ((Li × Int) ⊕ (Bool)) := some (.inl (a.1, a.2))
def Vt.J12 (a : Unit) : Option (Unit ⊕ (Bool)) := some (.inl ())
def Vt.J14 (a : Bool) : Option (Unit ⊕ (Bool)) := if a = true then some ((.inr (false))) else some (.inl ())
def Vt.B13 (g : Li) (h : Li × Int × (List (List Piece)) × Li × Li × (List Bool) × Li) (i : Li) (j : Int × KS) (k : Nat × Int) (c : Nat × Network) (d : Nat × (List (List Piece))) (e : Nat × Plan) (l : Nat) (o : Unit) : Option (Unit ⊕ (Bool)) := (ix ([g, h.2.2.2.2.2.2, (i.set k.1 j.1)] : List Li) (l : Int)).bind fun f => (Js c.2 d.2 e.2 f.2).bind fun a => (Jh c.2 d.2 e.2 f.2).bind fun b => (Hp a.1 b.1).bind fun m => if (!m) = true then Vt.J14 true else (Hp a.2.1 b.2.1).bind fun n => if (!n) = true then Vt.J14 true else Vt.J14 (a.2.2 != b.2.2)
def Vt.B11 (f : Plan) (b : Li) (a : Li × Int × (List (List Piece)) × Li × Li × (List Bool) × Li) (c : Li) (d : Int × KS) (e : Nat × Int) (g : Nat × Network) (h : Nat × (List (List Piece))) (i : Plan × KS) (j : Nat) (n : Unit) : Option (Unit ⊕ (Bool)) := (ix ([f, (⟨a.2.2.2.1, a.2.2.2.2.1, a.2.2.2.2.2.1⟩ : Plan), i.1] : List Plan) (j : Int)).bind fun k => (forI (Vt.B13 b a c d e g h k) 0 (([b, a.2.2.2.2.2.2, (c.set e.1 d.1)] : List Li).length) ()).bind fun l => Sum.elim (fun o => Vt.J12 ()) (fun m => some ((.inr (m)))) l
def Vt.B9 (g : List (List Piece)) (e : Plan) (h : Li) (a : Li × Int × (List (List Piece)) × Li × Li × (List Bool) × Li) (i : List (List Piece)) (j : (List Piece) × KS) (k : Nat × (List Piece)) (l : Li) (m : Int × KS) (n : Nat × Int) (o : Li × Int × (List (List Piece))) (c : Nat × Network) (p : List (List Piece)) (q : Nat) (f : Li × Int) : Option ((Li × Int) ⊕ (Bool)) := (ix ([g, o.2.2, (i.set k.1 j.1), p] : List (List (List Piece))) (q : Int)).bind fun d => (Ig c.2 d.2).bind fun r => (Nq c.2 d.2).bind fun s => if (r != s) = true then some ((.inr (false))) else (Qs (⟨f.1, f.2⟩ : KS) (⟨a.2.2.2.1, a.2.2.2.2.1, a.2.2.2.2.2.1⟩ : Plan)).bind fun b => (forI (Vt.B11 e h a l m n c d b) 0 (([e, (⟨a.2.2.2.1, a.2.2.2.2.1, a.2.2.2.2.2.1⟩ : Plan), b.1] : List Plan).length) ()).bind fun t => Sum.elim (fun v => Vt.J10 (b.2.L_, b.2.At)) (fun u => some ((.inr (u)))) t
def Vt.B4 (j : Network) (b : List (List Piece)) (k : Plan) (l : Li) (m : Int) (n : Network × KS) (c : Li × Int × (List (List Piece)) × Li × Li × (List Bool) × Li) (d : List (List Piece)) (e : (List Piece) × KS) (f : Nat × (List Piece)) (o : Li) (p : Int × KS) (q : Nat × Int) (r : Nat) (a : Li × Int × (List (List Piece))) : Option ((Li × Int × (List (List Piece))) ⊕ (Bool)) := (ix ([j, n.1] : List Network) (r : Int)).bind fun g => (Yc a.2.2 0 (wr ((a.2.2.length : Int) - 1))).bind fun h => (forI (Vt.B9 b k l c d e f o p q a g h) 0 (([b, a.2.2, (d.set f.1 e.1), h] : List (List (List Piece))).length) (a.1, a.2.1)).bind fun s => Sum.elim (fun i => Vt.J6 m c a g (i.1, i.2)) (fun t => some ((.inr (t)))) s
def Vt.J2 (e : Network) (k : List (List Piece)) (l : Plan) (m : Li) (n : Int) (f : Network × KS) (a : Li × Int × (List (List Piece)) × Li × Li × (List Bool) × Li) : Option Bool := (Cy ([] : List (List Piece)) a.2.2.1).bind fun b => (Dq (⟨a.1, a.2.1⟩ : KS) (b.length : Int)).bind fun g => (Dq g.2 100).bind fun h => (Nt h.2 h.1 3).bind fun i => (ix b g.1).bind fun o => (Cy ([] : Li) a.2.2.2.2.2.2).bind fun c => (Dq i.2 (c.length : Int)).bind fun j => (Ev j.2 ([(-1), 0, 999, 1000] : Li)).bind fun d => (ix c j.1).bind fun p => (forI (Vt.B4 e k l m n f a b i o c d p) 0 (([e, f.1] : List Network).length) (d.2.L_, d.2.At, a.2.2.1)).bind fun q => Sum.elim (fun s => Vt.J3 ()) (fun r => some r) q
def Vt.J1 (e : Network) (f : List (List Piece)) (g : Plan) (h : Li) (i : Int) (j : Li) (l : Unit) : Option Bool := (Vo j).bind fun k => (Vr k).bind fun a => (Rd a.2 a.1 4).bind fun d => (Qu d.2 a.1).bind fun b => (Ql b.2 a.1 5).bind fun c => Vt.J2 e f g h i a (c.2.L_, c.2.At, d.1, b.1.Rates, b.1.Ports, b.1.Pumps, c.1)
def Vt.B15 (c : Nat) (a : List Piece) (d : Unit) : Option (Unit ⊕ (Bool)) := if decide ((a.length : Int) > 60) = true then (Lv).bind fun b => some ((.inr (b))) else some (.inl ())
def Vt (a : Network) (b : List (List Piece)) (c : Plan) (e : Li) (d : Int) (f : Li) : Option Bool := if (decide ((a.Nodes.length : Int) > 40) || (decide ((a.Segments.length : Int) > 50) || (decide ((b.length : Int) > 60) || (decide ((e.length : Int) > 60) || (decide ((c.Rates.length : Int) > 60) || (decide ((c.Ports.length : Int) > 60) || (decide (d > 8) && decide (d ≤ 400)))))))) = true then (Lv).bind fun g => some g else (forL Vt.B15 0 b ()).bind fun h => Sum.elim (fun j => Vt.J1 a b c e d f ()) (fun i => some i) h
abbrev Nw := Network
abbrev Sg := Segment
abbrev Sn := Station
abbrev Bt := ByteArray
abbrev U0 := fun (v : Value) l => Ob.us v 3 1 (List.map rI l)
abbrev U1 := fun (v : Value) l => Ob.us v 69 2 (List.map Aa l)
abbrev U2 := fun (v : Value) l => Ob.us v 9 1 (List.map rS l)
abbrev U3 := fun (v : Value) l => Ob.us v 4 1 (List.map rB l)
abbrev U4 := fun (v : Value) l => Ob.us v 89 7 (List.map Au l)
abbrev U5 := fun (v : Value) l => Ob.us v 82 3 (List.map Bn l)
abbrev U6 := fun (v : Value) l => Ob.us v 95 5 (List.map Br l)
abbrev U7 := fun (v : Value) l => Ob.us v 86 3 (List.map Bx l)
abbrev Q0 := fun l => T.list 1 (List.map rI l)
abbrev Q1 := fun l => T.list 1 (List.map rS l)
abbrev Q2 := fun l => T.list 1 (List.map rB l)
abbrev Q3 := fun l => T.list 2 (List.map Aa l)
abbrev Q4 := fun l => T.list 7 (List.map Au l)
abbrev Q5 := fun l => T.list 3 (List.map Bn l)
abbrev Q6 := fun l => T.list 5 (List.map Br l)
abbrev O0 := fun (b : Nat) e => Ob.arr b 27 6 1 e
abbrev O1 := fun (b : Nat) e => Ob.arr b 32 3 1 e
abbrev O2 := fun (b : Nat) e => Ob.arr b 91 2 1 e
abbrev O3 := fun (b : Nat) e => Ob.arr b 106 14 1 e
abbrev O4 := fun (b : Nat) e => Ob.arr b 132 4 1 e
abbrev O5 := fun (b : Nat) e => Ob.arr b 89 7 1 e
abbrev O6 := fun (b : Nat) e => Ob.arr b 175 48 1 e
abbrev O7 := fun (b : Nat) e => Ob.arr b 69 2 1 e
abbrev O8 := fun (b : Nat) e => Ob.arr b 180 129 1 e
abbrev W0 : List T := [.N, .N, .N]
abbrev W1 : List T := [.v (.string ⟨#[]⟩), .V 0, .V 0, .V 0, .V 0, .V 0, .N]
abbrev W2 : List T := [.N, .N, .N, .N]
abbrev W3 : List T := [.N, .N, .N, .N, .V 0, .V 0]
abbrev W4 : List T := [.v (.string ⟨#[]⟩), .V 0, .V 0]
abbrev W5 : List T := [.v (.string ⟨#[]⟩), .V 0, .V 0, .V 0, .V 0]
end Go.Proofs.YtaoclefkknloiaaGreat
