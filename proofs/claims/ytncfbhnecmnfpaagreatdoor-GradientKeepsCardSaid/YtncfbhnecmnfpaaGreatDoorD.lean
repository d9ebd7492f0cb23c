/- Pure functions for functions of the program; printed by a program of ours. No condition. -/
import Derived.Test.YtncfbhnecmnfpaaGreatDoorBwEq
namespace Go.Proofs.YtncfbhnecmnfpaaGreatDoor
open Go.Aw
set_option linter.unusedVariables false
set_option linter.unusedSimpArgs false

structure Point where
  At : Int
  Height : Int
  Limit : Int
  deriving DecidableEq
def Point.row (x : Point) : List T := [.v (.int .i64 x.At), .v (.int .i64 x.Height), .v (.int .i64 x.Limit)]
structure Segment where
  Name : ByteArray
  From : Int
  To : Int
  Capacity : Int
  Resist : Int
  Wave : Int
  Points : List Point
  deriving DecidableEq
def Segment.row (x : Segment) : List T := [.v (.string x.Name), .v (.int .i64 x.From), .v (.int .i64 x.To), .v (.int .i64 x.Capacity), .v (.int .i64 x.Resist), .v (.int .i64 x.Wave), .list 3 (x.Points.map Point.row)]
structure Port where
  Name : ByteArray
  Node : Int
  Pressure : Int
  deriving DecidableEq
def Port.row (x : Port) : List T := [.v (.string x.Name), .v (.int .i64 x.Node), .v (.int .i64 x.Pressure)]
structure Station where
  Name : ByteArray
  Node : Int
  Head : Int
  Fall : Int
  Suction : Int
  deriving DecidableEq
def Station.row (x : Station) : List T := [.v (.string x.Name), .v (.int .i64 x.Node), .v (.int .i64 x.Head), .v (.int .i64 x.Fall), .v (.int .i64 x.Suction)]
structure Network where
  Nodes : List ByteArray
  Segments : List Segment
  Ports : List Port
  Stations : List Station
  Vapour : Int
  Settle : Int
  deriving DecidableEq
def Network.row (x : Network) : List T := [.list 1 (x.Nodes.map rS), .list 7 (x.Segments.map Segment.row), .list 3 (x.Ports.map Port.row), .list 5 (x.Stations.map Station.row), .v (.int .i64 x.Vapour), .v (.int .i64 x.Settle)]
structure batchlinekeep_Src where
  L_ : List Int
  At : Int
  deriving DecidableEq
def batchlinekeep_Src.row (x : batchlinekeep_Src) : List T := [.list 1 (x.L_.map rI), .v (.int .i64 x.At)]

/-- network.in -/
def L.network_in (n_0 : Int) (least_1 : Int) (most_2 : Int) : Bool := (decide (n_0 ≥ least_1) && decide (n_0 ≤ most_2))

/-- slices.Index[[]string,string] -/
def L.slices_Index_string_string.J1 (j20 : Unit) : Option Int := some (-1)
def L.slices_Index_string_string.B2 (v_1 : ByteArray) (k22 : Nat) (x25 : ByteArray) (st32 : Unit) : Option (Unit ⊕ (Int)) := if sEq v_1 x25 = true then some ((.inr ((k22 : Int)))) else some (.inl ())
def L.slices_Index_string_string (s_0 : List ByteArray) (v_1 : ByteArray) : Option Int := Option.bind (forL (L.slices_Index_string_string.B2 v_1) 0 s_0 ()) fun o37 => Sum.elim (fun st32 => L.slices_Index_string_string.J1 ()) (fun d48 => some d48) o37

/-- slices.IndexFunc[[]int,int] -/
def L.slices_IndexFunc_int_int.J1 (j24 : Unit) : Option Int := some (-1)
def L.slices_IndexFunc_int_int.B2 (g1 : Int → Option Bool) (k26 : Nat) (x29 : Int) (st38 : Unit) : Option (Unit ⊕ (Int)) := Option.bind (g1 x29) fun r53 => if r53 = true then some ((.inr ((k26 : Int)))) else some (.inl ())
def L.slices_IndexFunc_int_int (s_0 : List Int) (g1 : Int → Option Bool) : Option Int := Option.bind (forL (L.slices_IndexFunc_int_int.B2 g1) 0 s_0 ()) fun o45 => Sum.elim (fun st38 => L.slices_IndexFunc_int_int.J1 ()) (fun d58 => some d58) o45

/-- slices.ContainsFunc[[]int,int] -/
def L.slices_ContainsFunc_int_int (s_0 : List Int) (g1 : Int → Option Bool) : Option Bool := Option.bind (L.slices_IndexFunc_int_int s_0 g1) fun r1 => some (decide (r1 ≥ 0))

/-- slices.IndexFunc[[]string,string] -/
def L.slices_IndexFunc_string_string.J1 (j24 : Unit) : Option Int := some (-1)
def L.slices_IndexFunc_string_string.B2 (g1 : ByteArray → Option Bool) (k26 : Nat) (x29 : ByteArray) (st38 : Unit) : Option (Unit ⊕ (Int)) := Option.bind (g1 x29) fun r53 => if r53 = true then some ((.inr ((k26 : Int)))) else some (.inl ())
def L.slices_IndexFunc_string_string (s_0 : List ByteArray) (g1 : ByteArray → Option Bool) : Option Int := Option.bind (forL (L.slices_IndexFunc_string_string.B2 g1) 0 s_0 ()) fun o45 => Sum.elim (fun st38 => L.slices_IndexFunc_string_string.J1 ()) (fun d58 => some d58) o45

/-- slices.ContainsFunc[[]string,string] -/
def L.slices_ContainsFunc_string_string (s_0 : List ByteArray) (g1 : ByteArray → Option Bool) : Option Bool := Option.bind (L.slices_IndexFunc_string_string s_0 g1) fun r1 => some (decide (r1 ≥ 0))

/-- slices.IndexFunc[[]api.Segment,api.Segment] -/
def L.slices_IndexFunc_api_Segment_api_Segment.J1 (j24 : Unit) : Option Int := some (-1)
def L.slices_IndexFunc_api_Segment_api_Segment.B2 (g1 : Segment → Option Bool) (k26 : Nat) (x29 : Segment) (st38 : Unit) : Option (Unit ⊕ (Int)) := Option.bind (g1 x29) fun r53 => if r53 = true then some ((.inr ((k26 : Int)))) else some (.inl ())
def L.slices_IndexFunc_api_Segment_api_Segment (s_0 : List Segment) (g1 : Segment → Option Bool) : Option Int := Option.bind (forL (L.slices_IndexFunc_api_Segment_api_Segment.B2 g1) 0 s_0 ()) fun o45 => Sum.elim (fun st38 => L.slices_IndexFunc_api_Segment_api_Segment.J1 ()) (fun d58 => some d58) o45

/-- slices.ContainsFunc[[]api.Segment,api.Segment] -/
def L.slices_ContainsFunc_api_Segment_api_Segment (s_0 : List Segment) (g1 : Segment → Option Bool) : Option Bool := Option.bind (L.slices_IndexFunc_api_Segment_api_Segment s_0 g1) fun r1 => some (decide (r1 ≥ 0))

/-- slices.IndexFunc[[]api.Port,api.Port] -/
def L.slices_IndexFunc_api_Port_api_Port.J1 (j24 : Unit) : Option Int := some (-1)
def L.slices_IndexFunc_api_Port_api_Port.B2 (g1 : Port → Option Bool) (k26 : Nat) (x29 : Port) (st38 : Unit) : Option (Unit ⊕ (Int)) := Option.bind (g1 x29) fun r53 => if r53 = true then some ((.inr ((k26 : Int)))) else some (.inl ())
def L.slices_IndexFunc_api_Port_api_Port (s_0 : List Port) (g1 : Port → Option Bool) : Option Int := Option.bind (forL (L.slices_IndexFunc_api_Port_api_Port.B2 g1) 0 s_0 ()) fun o45 => Sum.elim (fun st38 => L.slices_IndexFunc_api_Port_api_Port.J1 ()) (fun d58 => some d58) o45

/-- slices.ContainsFunc[[]api.Port,api.Port] -/
def L.slices_ContainsFunc_api_Port_api_Port (s_0 : List Port) (g1 : Port → Option Bool) : Option Bool := Option.bind (L.slices_IndexFunc_api_Port_api_Port s_0 g1) fun r1 => some (decide (r1 ≥ 0))

/-- slices.IndexFunc[[]api.Station,api.Station] -/
def L.slices_IndexFunc_api_Station_api_Station.J1 (j24 : Unit) : Option Int := some (-1)
def L.slices_IndexFunc_api_Station_api_Station.B2 (g1 : Station → Option Bool) (k26 : Nat) (x29 : Station) (st38 : Unit) : Option (Unit ⊕ (Int)) := Option.bind (g1 x29) fun r53 => if r53 = true then some ((.inr ((k26 : Int)))) else some (.inl ())
def L.slices_IndexFunc_api_Station_api_Station (s_0 : List Station) (g1 : Station → Option Bool) : Option Int := Option.bind (forL (L.slices_IndexFunc_api_Station_api_Station.B2 g1) 0 s_0 ()) fun o45 => Sum.elim (fun st38 => L.slices_IndexFunc_api_Station_api_Station.J1 ()) (fun d58 => some d58) o45

/-- slices.ContainsFunc[[]api.Station,api.Station] -/
def L.slices_ContainsFunc_api_Station_api_Station (s_0 : List Station) (g1 : Station → Option Bool) : Option Bool := Option.bind (L.slices_IndexFunc_api_Station_api_Station s_0 g1) fun r1 => some (decide (r1 ≥ 0))

/-- network.limits$1 -/
def L.network_limits_1 (s_0 : Segment) : Bool := (decide ((s_0.Points.length : Int) < 2) || decide ((s_0.Points.length : Int) > 8))

/-- network.limits -/
def L.network_limits (n_0 : Network) : Option Bool := if (decide ((n_0.Nodes.length : Int) < 1) || (decide ((n_0.Nodes.length : Int) > 24) || (decide ((n_0.Segments.length : Int) > 32) || (decide ((n_0.Ports.length : Int) > 24) || decide ((n_0.Stations.length : Int) > 12))))) = true then some false else Option.bind (L.slices_ContainsFunc_api_Segment_api_Segment n_0.Segments (fun x => some (L.network_limits_1 x))) fun r13 => some (!r13)

/-- lines.place -/
def L.lines_place.J1 (j12 : Unit) : Int := 2
def L.lines_place (c_0 : Int) : Int := if (decide (c_0 ≥ 97) && decide (c_0 ≤ 122)) = true then 1 else if (decide (c_0 ≥ 48) && decide (c_0 ≤ 57)) = true then L.lines_place.J1 () else if (c_0 == 45) = true then L.lines_place.J1 () else 0

/-- lines.Name -/
def L.lines_Name.J2 (j30 : Unit) : Option Bool := some true
def L.lines_Name.B3 (s_0 : ByteArray) (k32 : Nat) (st44 : Unit) : Option (Unit ⊕ (Bool)) := Option.bind (ixs s_0 (k32 : Int)) fun p57 => if ((L.lines_place p57.2) == 0) = true then some ((.inr (false))) else some (.inl ())
def L.lines_Name.J1 (s_0 : ByteArray) (j7 : Bool) : Option Bool := if j7 = true then some false else Option.bind (chk ((s_0.size : Int) ≤ 9223372036854775806)) fun u35 => Option.bind (forI (L.lines_Name.B3 s_0) 0 ((s_0.size : Int).toNat) ()) fun o50 => Sum.elim (fun st44 => L.lines_Name.J2 ()) (fun d62 => some d62) o50
def L.lines_Name (s_0 : ByteArray) : Option Bool := if decide ((s_0.size : Int) < 1) = true then L.lines_Name.J1 s_0 true else if decide ((s_0.size : Int) > 12) = true then L.lines_Name.J1 s_0 true else Option.bind (ixs s_0 0) fun p65 => L.lines_Name.J1 s_0 ((L.lines_place p65.2) != 1)

/-- network.names -/
def L.network_names.J3 (n_0 : Network) (j41 : List ByteArray) (j77 : List ByteArray) (j113 : List ByteArray) : Option (Arr (List ByteArray) 4) := some (⟨[n_0.Nodes, j41, j77, j113], rfl⟩ : Arr (List ByteArray) 4)
def L.network_names.B4 (k116 : Nat) (x119 : Station) (st138 : List ByteArray) : Option (List ByteArray) := Option.bind (app? st138 ([x119.Name] : List ByteArray)) fun l156 => some l156
def L.network_names.J2 (n_0 : Network) (j41 : List ByteArray) (j77 : List ByteArray) : Option (Arr (List ByteArray) 4) := Option.bind (forS L.network_names.B4 0 n_0.Stations []) fun st138 => L.network_names.J3 n_0 j41 j77 st138
def L.network_names.B5 (k162 : Nat) (x165 : Port) (st184 : List ByteArray) : Option (List ByteArray) := Option.bind (app? st184 ([x165.Name] : List ByteArray)) fun l202 => some l202
def L.network_names.J1 (n_0 : Network) (j41 : List ByteArray) : Option (Arr (List ByteArray) 4) := Option.bind (forS L.network_names.B5 0 n_0.Ports []) fun st184 => L.network_names.J2 n_0 j41 st184
def L.network_names.B6 (k208 : Nat) (x211 : Segment) (st230 : List ByteArray) : Option (List ByteArray) := Option.bind (app? st230 ([x211.Name] : List ByteArray)) fun l248 => some l248
def L.network_names (n_0 : Network) : Option (Arr (List ByteArray) 4) := Option.bind (forS L.network_names.B6 0 n_0.Segments []) fun st230 => L.network_names.J1 n_0 st230

/-- network.twice$1 -/
def L.network_twice_1 (x_0 : Station) (a_1 : Station) : Bool := (x_0.Node == a_1.Node)

/-- network.twice -/
def L.network_twice.J2 (j91 : Unit) : Option Bool := some false
def L.network_twice.B3 (n_0 : Network) (k93 : Nat) (x96 : Station) (st106 : Unit) : Option (Unit ⊕ (Bool)) := Option.bind (L.slices_IndexFunc_api_Station_api_Station n_0.Stations (fun x => some (L.network_twice_1 x x96))) fun r123 => if decide (r123 < (k93 : Int)) = true then some ((.inr (true))) else some (.inl ())
def L.network_twice.J1 (n_0 : Network) (j66 : Unit) : Option Bool := Option.bind (forL (L.network_twice.B3 n_0) 0 n_0.Stations ()) fun o114 => Sum.elim (fun st106 => L.network_twice.J2 ()) (fun d128 => some d128) o114
def L.network_twice.J5 (j220 : Unit) : Option (Unit ⊕ (Bool)) := some (.inl ())
def L.network_twice.B6 (p222 : Nat × (List ByteArray)) (k225 : Nat) (x228 : ByteArray) (st236 : Unit) : Option (Unit ⊕ (Bool)) := Option.bind (L.slices_Index_string_string p222.2 x228) fun r249 => if decide (r249 < (k225 : Int)) = true then some ((.inr (true))) else some (.inl ())
def L.network_twice.B4 (r130 : Arr (List ByteArray) 4) (k132 : Nat) (st163 : Unit) : Option (Unit ⊕ (Bool)) := Option.bind (ix r130.l (k132 : Int)) fun p222 => Option.bind (forL (L.network_twice.B6 p222) 0 p222.2 ()) fun o242 => Sum.elim (fun st236 => L.network_twice.J5 ()) (fun d254 => some ((.inr (d254)))) o242
def L.network_twice (n_0 : Network) : Option Bool := Option.bind (L.network_names n_0) fun r130 => Option.bind (forI (L.network_twice.B4 r130) 0 4 ()) fun o190 => Sum.elim (fun st163 => L.network_twice.J1 n_0 ()) (fun d257 => some d257) o190

/-- network.known$1 -/
def L.network_known_1 (k_0 : Int) (a_1 : Network) : Bool := (decide (k_0 < 0) || decide (k_0 ≥ (a_1.Nodes.length : Int)))

/-- network.known -/
def L.network_known.J3 (n_0 : Network) (j110 : List Int) : Option Bool := Option.bind (L.slices_ContainsFunc_int_int j110 (fun x => some (L.network_known_1 x n_0))) fun r112 => some (!r112)
def L.network_known.B4 (k115 : Nat) (x118 : Station) (st137 : List Int) : Option (List Int) := Option.bind (app? st137 ([x118.Node] : List Int)) fun l155 => some l155
def L.network_known.J2 (n_0 : Network) (j74 : List Int) : Option Bool := Option.bind (forS L.network_known.B4 0 n_0.Stations j74) fun st137 => L.network_known.J3 n_0 st137
def L.network_known.B5 (k161 : Nat) (x164 : Port) (st183 : List Int) : Option (List Int) := Option.bind (app? st183 ([x164.Node] : List Int)) fun l201 => some l201
def L.network_known.J1 (n_0 : Network) (j38 : List Int) : Option Bool := Option.bind (forS L.network_known.B5 0 n_0.Ports j38) fun st183 => L.network_known.J2 n_0 st183
def L.network_known.B6 (k207 : Nat) (x210 : Segment) (st229 : List Int) : Option (List Int) := Option.bind (app? st229 ([x210.From, x210.To] : List Int)) fun l247 => some l247
def L.network_known (n_0 : Network) : Option Bool := Option.bind (forS L.network_known.B6 0 n_0.Segments []) fun st229 => L.network_known.J1 n_0 st229

/-- network.pipe -/
def L.network_pipe.J2 (j50 : Bool) : Option Bool := some j50
def L.network_pipe.J1 (s_0 : Segment) (j44 : Unit) : Option Bool := Option.bind (ix s_0.Points 0) fun p51 => if (p51.2.At == 0) = true then Option.bind (ix s_0.Points (wr ((s_0.Points.length : Int) - 1))) fun p54 => L.network_pipe.J2 (p54.2.At == s_0.Capacity) else L.network_pipe.J2 false
def L.network_pipe.J4 (j100 : Bool) : Option (Unit ⊕ (Bool)) := if j100 = true then some ((.inr (false))) else some (.inl ())
def L.network_pipe.B3 (s_0 : Segment) (k57 : Nat) (x60 : Point) (st74 : Unit) : Option (Unit ⊕ (Bool)) := if (!(L.network_in x60.Height (-500) 5000)) = true then L.network_pipe.J4 true else if (!(L.network_in x60.Limit 0 100000000)) = true then L.network_pipe.J4 true else if decide ((k57 : Int) > 0) = true then Option.bind (ix s_0.Points (wr ((k57 : Int) - 1))) fun p105 => L.network_pipe.J4 (decide (x60.At ≤ p105.2.At)) else L.network_pipe.J4 false
def L.network_pipe (s_0 : Segment) : Option Bool := if ((s_0.From == s_0.To) || ((!(L.network_in s_0.Capacity 1 1000000)) || ((!(L.network_in s_0.Resist 0 1000)) || (!(L.network_in s_0.Wave 0 100000))))) = true then some false else Option.bind (forL (L.network_pipe.B3 s_0) 0 s_0.Points ()) fun o86 => Sum.elim (fun st74 => L.network_pipe.J1 s_0 ()) (fun d109 => some d109) o86

/-- network.proper$1 -/
def L.network_proper_1 (s_0 : Segment) : Option Bool := Option.bind (L.network_pipe s_0) fun r2 => some (!r2)

/-- network.proper$2 -/
def L.network_proper_2 (p_0 : Port) : Bool := (!(L.network_in p_0.Pressure 0 100000000))

/-- network.proper$3 -/
def L.network_proper_3 (s_0 : Station) : Bool := ((!(L.network_in s_0.Head 0 100000000)) || ((!(L.network_in s_0.Fall 0 100000)) || (!(L.network_in s_0.Suction 0 100000000))))

/-- network.proper -/
def L.network_proper (n_0 : Network) : Option Bool := Option.bind (L.slices_ContainsFunc_api_Segment_api_Segment n_0.Segments (fun x => L.network_proper_1 x)) fun r4 => if r4 = true then some false else Option.bind (L.slices_ContainsFunc_api_Port_api_Port n_0.Ports (fun x => some (L.network_proper_2 x))) fun r8 => if r8 = true then some false else Option.bind (L.slices_ContainsFunc_api_Station_api_Station n_0.Stations (fun x => some (L.network_proper_3 x))) fun r11 => if r11 = true then some false else some ((L.network_in n_0.Vapour (-100000) 100000000) && (L.network_in n_0.Settle 0 100))

/-- network.Check$1 -/
def L.network_Check_1 (s_0 : ByteArray) : Option Bool := Option.bind (L.lines_Name s_0) fun r1 => some (!r1)

/-- network.Check -/
def L.network_Check.J1 (n_0 : Network) (j32 : Unit) : Option Int := Option.bind (L.network_twice n_0) fun r34 => if r34 = true then some 7 else Option.bind (L.network_known n_0) fun r38 => if (!r38) = true then some 8 else Option.bind (L.network_proper n_0) fun r41 => if (!r41) = true then some 9 else some 0
def L.network_Check.B2 (r45 : Arr (List ByteArray) 4) (k47 : Nat) (st59 : Unit) : Option (Unit ⊕ (Int)) := Option.bind (ix r45.l (k47 : Int)) fun p74 => Option.bind (L.slices_ContainsFunc_string_string p74.2 (fun x => L.network_Check_1 x)) fun r76 => if r76 = true then some ((.inr (3))) else some (.inl ())
def L.network_Check (n_0 : Network) : Option Int := Option.bind (L.network_limits n_0) fun r4 => if (!r4) = true then some 4 else Option.bind (L.network_names n_0) fun r45 => Option.bind (forI (L.network_Check.B2 r45) 0 4 ()) fun o67 => Sum.elim (fun st59 => L.network_Check.J1 n_0 ()) (fun d81 => some d81) o67

/-- batchlinekeep.New -/
def L.keep_New (l_0 : List Int) : Option batchlinekeep_Src := Option.bind (sub? l_0 0 (min (l_0.length : Int) 2000)) fun l1 => some (⟨l1, 0⟩ : batchlinekeep_Src)

/-- (*batchlinekeep.Src).Raw -/
def L.keep_Src_Raw (s_0 : batchlinekeep_Src) : Option (Int × batchlinekeep_Src) := if decide (s_0.At ≥ (s_0.L_.length : Int)) = true then some (0, s_0) else Option.bind (ix s_0.L_ (wr ((wr (s_0.At + 1)) - 1))) fun p5 => some (p5.2, (⟨s_0.L_, wr (s_0.At + 1)⟩ : batchlinekeep_Src))

/-- batchlinekeep.Mod -/
def L.keep_Mod.J1 (j8 : Int) : Option Int := some j8
def L.keep_Mod (x_0 : Int) (n_1 : Int) : Option Int := if decide (n_1 < 1) = true then some 0 else Option.bind (rem? x_0 n_1) fun x5 => if decide (x5 < 0) = true then L.keep_Mod.J1 (wr (x5 + n_1)) else L.keep_Mod.J1 x5

/-- (*batchlinekeep.Src).N -/
def L.keep_Src_N (s_0 : batchlinekeep_Src) (n_1 : Int) : Option (Int × batchlinekeep_Src) := Option.bind (L.keep_Src_Raw s_0) fun r1 => Option.bind (L.keep_Mod r1.1 n_1) fun r3 => some (r3, r1.2)

/-- batchlinekeep.name -/
def L.keep_name (first_0 : ByteArray) (n_1 : Int) : Option ByteArray := Option.bind (bytes? ([IntKind.u8.wrap (wr (97 + (n_1.tmod 26)))] : List Int)) fun x2 => Option.bind (cat? first_0 x2) fun x4 => some x4

/-- (*batchlinekeep.Src).Pick -/
def L.keep_Src_Pick (s_0 : batchlinekeep_Src) (l_1 : List Int) : Option (Int × batchlinekeep_Src) := Option.bind (L.keep_Src_N s_0 (l_1.length : Int)) fun r1 => Option.bind (ix l_1 r1.1) fun p3 => some (p3.2, r1.2)

/-- (*batchlinekeep.Src).Range -/
def L.keep_Src_Range (s_0 : batchlinekeep_Src) (lo_1 : Int) (hi_2 : Int) : Option (Int × batchlinekeep_Src) := Option.bind (L.keep_Src_N s_0 (wr ((wr (hi_2 - lo_1)) + 1))) fun r1 => some (wr (lo_1 + r1.1), r1.2)

/-- (*batchlinekeep.Src).Segment -/
def L.keep_Src_Segment.J2 (j6 : (List Int) × Int × Int × Int) (r8 : ByteArray) (r11 : Int × batchlinekeep_Src) (r14 : Int × batchlinekeep_Src) (r17 : Int × batchlinekeep_Src) (r22 : Int × batchlinekeep_Src) (j104 : (List Int) × Int × (List Point)) : Option (Segment × batchlinekeep_Src) := Option.bind (L.keep_Src_Range (⟨j104.1, j104.2.1⟩ : batchlinekeep_Src) (-5) 30) fun r106 => Option.bind (app? j104.2.2 ([(⟨r11.1, r106.1, r22.1⟩ : Point)] : List Point)) fun l109 => some ((⟨r8, j6.2.2.1, j6.2.2.2, r11.1, r14.1, r17.1, l109⟩ : Segment), r106.2)
def L.keep_Src_Segment.J4 (r11 : Int × batchlinekeep_Src) (r22 : Int × batchlinekeep_Src) (st161 : (List Int) × Int × (List Point) × Int) (j194 : (List Int) × Int × Bool) : Option (((List Int) × Int × (List Point) × Int) ⊕ (((List Int) × Int × (List Point)))) := if j194.2.2 = true then Option.bind (L.keep_Src_Range (⟨j194.1, j194.2.1⟩ : batchlinekeep_Src) 1 40) fun r197 => if decide ((wr (st161.2.2.2 + r197.1)) ≥ r11.1) = true then some ((.inr ((r197.2.L_, r197.2.At, st161.2.2.1)))) else Option.bind (L.keep_Src_Range r197.2 (-5) 60) fun r201 => Option.bind (L.keep_Src_Pick r201.2 ([1, 1, 10] : List Int)) fun r204 => Option.bind (L.keep_Src_N r204.2 3) fun r206 => Option.bind (app? st161.2.2.1 ([(⟨wr (st161.2.2.2 + r197.1), wr (r201.1 * r204.1), wr (r22.1 - (wr (r206.1 * 1000)))⟩ : Point)] : List Point)) fun l209 => some (.inl (r206.2.L_, r206.2.At, l209, wr (st161.2.2.2 + r197.1))) else some ((.inr ((j194.1, j194.2.1, st161.2.2.1))))
def L.keep_Src_Segment.B3 (r11 : Int × batchlinekeep_Src) (r22 : Int × batchlinekeep_Src) (st161 : (List Int) × Int × (List Point) × Int) : Option (((List Int) × Int × (List Point) × Int) ⊕ (((List Int) × Int × (List Point)))) := if decide ((st161.2.2.1.length : Int) < 7) = true then Option.bind (L.keep_Src_N (⟨st161.1, st161.2.1⟩ : batchlinekeep_Src) 3) fun r213 => L.keep_Src_Segment.J4 r11 r22 st161 (r213.2.L_, r213.2.At, decide (r213.1 > 0)) else L.keep_Src_Segment.J4 r11 r22 st161 (st161.1, st161.2.1, false)
def L.keep_Src_Segment.J1 (k_1 : Int) (j6 : (List Int) × Int × Int × Int) : Option (Segment × batchlinekeep_Src) := Option.bind (L.keep_name (⟨#[103]⟩ : ByteArray) k_1) fun r8 => Option.bind (L.keep_Src_Pick (⟨j6.1, j6.2.1⟩ : batchlinekeep_Src) ([1, 2, 7, 20, 60, 200, 1000] : List Int)) fun r11 => Option.bind (L.keep_Src_Pick r11.2 ([0, 1, 5, 1000] : List Int)) fun r14 => Option.bind (L.keep_Src_Pick r14.2 ([0, 50, 1000, 100000] : List Int)) fun r17 => Option.bind (L.keep_Src_Pick r17.2 ([1000000, 6000000, 100000000] : List Int)) fun r22 => Option.bind (L.keep_Src_Range r22.2 (-5) 30) fun r25 => Option.bind (app? [] ([(⟨0, r25.1, r22.1⟩ : Point)] : List Point)) fun l28 => Option.bind (loopN (L.keep_Src_Segment.B3 r11 r22) lots (r25.2.L_, r25.2.At, l28, 0)) fun d215 => L.keep_Src_Segment.J2 j6 r8 r11 r14 r17 r22 d215
def L.keep_Src_Segment (s_0 : batchlinekeep_Src) (k_1 : Int) (from_2 : Int) (to_3 : Int) : Option (Segment × batchlinekeep_Src) := Option.bind (L.keep_Src_N s_0 4) fun r216 => if (r216.1 == 0) = true then L.keep_Src_Segment.J1 k_1 (r216.2.L_, r216.2.At, to_3, from_2) else L.keep_Src_Segment.J1 k_1 (r216.2.L_, r216.2.At, from_2, to_3)

end Go.Proofs.YtncfbhnecmnfpaaGreatDoor
