/- Pure functions for functions of the program; printed by a program of ours. No condition. -/
import Derived.Test.YtndfiddakngjdaaBwEq
namespace Go.Proofs.Ytndfiddakngjdaa
open Go.Aw
set_option linter.unusedVariables false
set_option linter.unusedSimpArgs false

structure Point where
  At : Int
  Height : Int
  Limit : Int
  deriving DecidableEq
def Point.row (x : Point) : List T := [.v (.int .i64 x.At), .v (.int .i64 x.Height), .v (.int .i64 x.Limit)]
structure Segment where
  Name : ByteArray
  From : Int
  To : Int
  Capacity : Int
  Resist : Int
  Wave : Int
  Points : List Point
  deriving DecidableEq
def Segment.row (x : Segment) : List T := [.v (.string x.Name), .v (.int .i64 x.From), .v (.int .i64 x.To), .v (.int .i64 x.Capacity), .v (.int .i64 x.Resist), .v (.int .i64 x.Wave), .list 3 (x.Points.map Point.row)]
structure Port where
  Name : ByteArray
  Node : Int
  Pressure : Int
  deriving DecidableEq
def Port.row (x : Port) : List T := [.v (.string x.Name), .v (.int .i64 x.Node), .v (.int .i64 x.Pressure)]
structure Station where
  Name : ByteArray
  Node : Int
  Head : Int
  Fall : Int
  Suction : Int
  deriving DecidableEq
def Station.row (x : Station) : List T := [.v (.string x.Name), .v (.int .i64 x.Node), .v (.int .i64 x.Head), .v (.int .i64 x.Fall), .v (.int .i64 x.Suction)]
structure Network where
  Nodes : List ByteArray
  Segments : List Segment
  Ports : List Port
  Stations : List Station
  Vapour : Int
  Settle : Int
  deriving DecidableEq
def Network.row (x : Network) : List T := [.list 1 (x.Nodes.map rS), .list 7 (x.Segments.map Segment.row), .list 3 (x.Ports.map Port.row), .list 5 (x.Stations.map Station.row), .v (.int .i64 x.Vapour), .v (.int .i64 x.Settle)]
structure Plan where
  Rates : List Int
  Ports : List Int
  Pumps : List Bool
  deriving DecidableEq
def Plan.row (x : Plan) : List T := [.list 1 (x.Rates.map rI), .list 1 (x.Ports.map rI), .list 1 (x.Pumps.map rB)]
structure flow_streams where
  come : Arr Int 24
  leave : Arr Int 24
  deriving DecidableEq
def flow_streams.row (x : flow_streams) : List T := x.come.l.map cI ++ (x.leave.l.map cI ++ [])
structure batchlinekeep_Src where
  L_ : List Int
  At : Int
  deriving DecidableEq
def batchlinekeep_Src.row (x : batchlinekeep_Src) : List T := [.list 1 (x.L_.map rI), .v (.int .i64 x.At)]

/-- flow.Ends -/
def L.flow_Ends (s_0 : Segment) (rate_1 : Int) : (Int × Int) := if decide (rate_1 < 0) = true then (s_0.To, s_0.From) else (s_0.From, s_0.To)

/-- flow.within -/
def L.flow_within (rate_0 : Int) (most_1 : Int) : Bool := (decide (rate_0 ≥ (wr (0 - most_1))) && decide (rate_0 ≤ most_1))

/-- batchlinekeep.Mod -/
def L.keep_Mod.J1 (j8 : Int) : Option Int := some j8
def L.keep_Mod (x_0 : Int) (n_1 : Int) : Option Int := if decide (n_1 < 1) = true then some 0 else Option.bind (rem? x_0 n_1) fun x5 => if decide (x5 < 0) = true then L.keep_Mod.J1 (wr (x5 + n_1)) else L.keep_Mod.J1 x5

/-- network.in -/
def L.network_in (n_0 : Int) (least_1 : Int) (most_2 : Int) : Bool := (decide (n_0 ≥ least_1) && decide (n_0 ≤ most_2))

/-- batchlineref16.Abs -/
def L.ref16_Abs (n_0 : Int) : Int := (max n_0 (wr (0 - n_0)))

/-- slices.Index[[]int,int] -/
def L.slices_Index_int_int.J1 (j20 : Unit) : Option Int := some (-1)
def L.slices_Index_int_int.B2 (v_1 : Int) (k22 : Nat) (x25 : Int) (st32 : Unit) : Option (Unit ⊕ (Int)) := if (v_1 == x25) = true then some ((.inr ((k22 : Int)))) else some (.inl ())
def L.slices_Index_int_int (s_0 : List Int) (v_1 : Int) : Option Int := Option.bind (forL (L.slices_Index_int_int.B2 v_1) 0 s_0 ()) fun o37 => Sum.elim (fun st32 => L.slices_Index_int_int.J1 ()) (fun d48 => some d48) o37

/-- slices.Index[[]string,string] -/
def L.slices_Index_string_string.J1 (j20 : Unit) : Option Int := some (-1)
def L.slices_Index_string_string.B2 (v_1 : ByteArray) (k22 : Nat) (x25 : ByteArray) (st32 : Unit) : Option (Unit ⊕ (Int)) := if sEq v_1 x25 = true then some ((.inr ((k22 : Int)))) else some (.inl ())
def L.slices_Index_string_string (s_0 : List ByteArray) (v_1 : ByteArray) : Option Int := Option.bind (forL (L.slices_Index_string_string.B2 v_1) 0 s_0 ()) fun o37 => Sum.elim (fun st32 => L.slices_Index_string_string.J1 ()) (fun d48 => some d48) o37

/-- slices.IndexFunc[[]int,int] -/
def L.slices_IndexFunc_int_int.J1 (j24 : Unit) : Option Int := some (-1)
def L.slices_IndexFunc_int_int.B2 (g1 : Int → Option Bool) (k26 : Nat) (x29 : Int) (st38 : Unit) : Option (Unit ⊕ (Int)) := Option.bind (g1 x29) fun r53 => if r53 = true then some ((.inr ((k26 : Int)))) else some (.inl ())
def L.slices_IndexFunc_int_int (s_0 : List Int) (g1 : Int → Option Bool) : Option Int := Option.bind (forL (L.slices_IndexFunc_int_int.B2 g1) 0 s_0 ()) fun o45 => Sum.elim (fun st38 => L.slices_IndexFunc_int_int.J1 ()) (fun d58 => some d58) o45

/-- slices.ContainsFunc[[]int,int] -/
def L.slices_ContainsFunc_int_int (s_0 : List Int) (g1 : Int → Option Bool) : Option Bool := Option.bind (L.slices_IndexFunc_int_int s_0 g1) fun r1 => some (decide (r1 ≥ 0))

/-- slices.IndexFunc[[]string,string] -/
def L.slices_IndexFunc_string_string.J1 (j24 : Unit) : Option Int := some (-1)
def L.slices_IndexFunc_string_string.B2 (g1 : ByteArray → Option Bool) (k26 : Nat) (x29 : ByteArray) (st38 : Unit) : Option (Unit ⊕ (Int)) := Option.bind (g1 x29) fun r53 => if r53 = true then some ((.inr ((k26 : Int)))) else some (.inl ())
def L.slices_IndexFunc_string_string (s_0 : List ByteArray) (g1 : ByteArray → Option Bool) : Option Int := Option.bind (forL (L.slices_IndexFunc_string_string.B2 g1) 0 s_0 ()) fun o45 => Sum.elim (fun st38 => L.slices_IndexFunc_string_string.J1 ()) (fun d58 => some d58) o45

/-- slices.ContainsFunc[[]string,string] -/
def L.slices_ContainsFunc_string_string (s_0 : List ByteArray) (g1 : ByteArray → Option Bool) : Option Bool := Option.bind (L.slices_IndexFunc_string_string s_0 g1) fun r1 => some (decide (r1 ≥ 0))

/-- slices.IndexFunc[[]api.Segment,api.Segment] -/
def L.slices_IndexFunc_api_Segment_api_Segment.J1 (j24 : Unit) : Option Int := some (-1)
def L.slices_IndexFunc_api_Segment_api_Segment.B2 (g1 : Segment → Option Bool) (k26 : Nat) (x29 : Segment) (st38 : Unit) : Option (Unit ⊕ (Int)) := Option.bind (g1 x29) fun r53 => if r53 = true then some ((.inr ((k26 : Int)))) else some (.inl ())
def L.slices_IndexFunc_api_Segment_api_Segment (s_0 : List Segment) (g1 : Segment → Option Bool) : Option Int := Option.bind (forL (L.slices_IndexFunc_api_Segment_api_Segment.B2 g1) 0 s_0 ()) fun o45 => Sum.elim (fun st38 => L.slices_IndexFunc_api_Segment_api_Segment.J1 ()) (fun d58 => some d58) o45

/-- slices.ContainsFunc[[]api.Segment,api.Segment] -/
def L.slices_ContainsFunc_api_Segment_api_Segment (s_0 : List Segment) (g1 : Segment → Option Bool) : Option Bool := Option.bind (L.slices_IndexFunc_api_Segment_api_Segment s_0 g1) fun r1 => some (decide (r1 ≥ 0))

/-- slices.IndexFunc[[]api.Port,api.Port] -/
def L.slices_IndexFunc_api_Port_api_Port.J1 (j24 : Unit) : Option Int := some (-1)
def L.slices_IndexFunc_api_Port_api_Port.B2 (g1 : Port → Option Bool) (k26 : Nat) (x29 : Port) (st38 : Unit) : Option (Unit ⊕ (Int)) := Option.bind (g1 x29) fun r53 => if r53 = true then some ((.inr ((k26 : Int)))) else some (.inl ())
def L.slices_IndexFunc_api_Port_api_Port (s_0 : List Port) (g1 : Port → Option Bool) : Option Int := Option.bind (forL (L.slices_IndexFunc_api_Port_api_Port.B2 g1) 0 s_0 ()) fun o45 => Sum.elim (fun st38 => L.slices_IndexFunc_api_Port_api_Port.J1 ()) (fun d58 => some d58) o45

/-- slices.ContainsFunc[[]api.Port,api.Port] -/
def L.slices_ContainsFunc_api_Port_api_Port (s_0 : List Port) (g1 : Port → Option Bool) : Option Bool := Option.bind (L.slices_IndexFunc_api_Port_api_Port s_0 g1) fun r1 => some (decide (r1 ≥ 0))

/-- slices.IndexFunc[[]api.Station,api.Station] -/
def L.slices_IndexFunc_api_Station_api_Station.J1 (j24 : Unit) : Option Int := some (-1)
def L.slices_IndexFunc_api_Station_api_Station.B2 (g1 : Station → Option Bool) (k26 : Nat) (x29 : Station) (st38 : Unit) : Option (Unit ⊕ (Int)) := Option.bind (g1 x29) fun r53 => if r53 = true then some ((.inr ((k26 : Int)))) else some (.inl ())
def L.slices_IndexFunc_api_Station_api_Station (s_0 : List Station) (g1 : Station → Option Bool) : Option Int := Option.bind (forL (L.slices_IndexFunc_api_Station_api_Station.B2 g1) 0 s_0 ()) fun o45 => Sum.elim (fun st38 => L.slices_IndexFunc_api_Station_api_Station.J1 ()) (fun d58 => some d58) o45

/-- slices.ContainsFunc[[]api.Station,api.Station] -/
def L.slices_ContainsFunc_api_Station_api_Station (s_0 : List Station) (g1 : Station → Option Bool) : Option Bool := Option.bind (L.slices_IndexFunc_api_Station_api_Station s_0 g1) fun r1 => some (decide (r1 ≥ 0))

/-- network.limits$1 -/
def L.network_limits_1 (s_0 : Segment) : Bool := (decide ((s_0.Points.length : Int) < 2) || decide ((s_0.Points.length : Int) > 8))

/-- network.limits -/
def L.network_limits (n_0 : Network) : Option Bool := if (decide ((n_0.Nodes.length : Int) < 1) || (decide ((n_0.Nodes.length : Int) > 24) || (decide ((n_0.Segments.length : Int) > 32) || (decide ((n_0.Ports.length : Int) > 24) || decide ((n_0.Stations.length : Int) > 12))))) = true then some false else Option.bind (L.slices_ContainsFunc_api_Segment_api_Segment n_0.Segments (fun x => some (L.network_limits_1 x))) fun r13 => some (!r13)

/-- flow.order -/
def L.flow_order.J1 (j165 : List Int) : Option (List Int) := some j165
def L.flow_order.J3 (j373 : (List Int) × (List Bool) × Int) : Option (((List Int) × (List Bool) × Int) ⊕ ((List Int))) := some (.inl (j373.1, j373.2.1, wr (j373.2.2 + 1)))
def L.flow_order.J4 (st270 : (List Int) × (List Bool) × Int) (p376 : Nat × Bool) (j415 : Unit) : Option (((List Int) × (List Bool) × Int) ⊕ ((List Int))) := Option.bind (app? st270.1 ([st270.2.2] : List Int)) fun l417 => L.flow_order.J3 (l417, (st270.2.1.set p376.1 true), (-1))
def L.flow_order.J6 (st270 : (List Int) × (List Bool) × Int) (j470 : Bool) : Option (Unit ⊕ (((List Int) × (List Bool) × Int))) := if j470 = true then some ((.inr ((st270.1, st270.2.1, st270.2.2)))) else some (.inl ())
def L.flow_order.B5 (p_1 : Plan) (st270 : (List Int) × (List Bool) × Int) (k421 : Nat) (x424 : Segment) (st440 : Unit) : Option (Unit ⊕ (((List Int) × (List Bool) × Int))) := Option.bind (ix p_1.Rates (k421 : Int)) fun p464 => if (p464.2 != 0) = true then if (((L.flow_Ends x424 p464.2).2) == st270.2.2) = true then Option.bind (ix st270.2.1 ((L.flow_Ends x424 p464.2).1)) fun p474 => L.flow_order.J6 st270 (!p474.2) else L.flow_order.J6 st270 false else L.flow_order.J6 st270 false
def L.flow_order.B2 (n_0 : Network) (p_1 : Plan) (st270 : (List Int) × (List Bool) × Int) : Option (((List Int) × (List Bool) × Int) ⊕ ((List Int))) := if decide (st270.2.2 < (n_0.Nodes.length : Int)) = true then Option.bind (ix st270.2.1 st270.2.2) fun p376 => if p376.2 = true then L.flow_order.J3 (st270.1, st270.2.1, st270.2.2) else Option.bind (forL (L.flow_order.B5 p_1 st270) 0 n_0.Segments ()) fun o454 => Sum.elim (fun st440 => L.flow_order.J4 st270 p376 ()) (fun d478 => L.flow_order.J3 d478) o454 else some ((.inr (st270.1)))
def L.flow_order (n_0 : Network) (p_1 : Plan) : Option (List Int) := Option.bind (mk? (n_0.Nodes.length : Int) false) fun l6 => Option.bind (loopN (L.flow_order.B2 n_0 p_1) lots ([], l6, 0)) fun d479 => L.flow_order.J1 d479

/-- lines.place -/
def L.lines_place.J1 (j12 : Unit) : Int := 2
def L.lines_place (c_0 : Int) : Int := if (decide (c_0 ≥ 97) && decide (c_0 ≤ 122)) = true then 1 else if (decide (c_0 ≥ 48) && decide (c_0 ≤ 57)) = true then L.lines_place.J1 () else if (c_0 == 45) = true then L.lines_place.J1 () else 0

/-- lines.Name -/
def L.lines_Name.J2 (j30 : Unit) : Option Bool := some true
def L.lines_Name.B3 (s_0 : ByteArray) (k32 : Nat) (st44 : Unit) : Option (Unit ⊕ (Bool)) := Option.bind (ixs s_0 (k32 : Int)) fun p57 => if ((L.lines_place p57.2) == 0) = true then some ((.inr (false))) else some (.inl ())
def L.lines_Name.J1 (s_0 : ByteArray) (j7 : Bool) : Option Bool := if j7 = true then some false else Option.bind (chk ((s_0.size : Int) ≤ 9223372036854775806)) fun u35 => Option.bind (forI (L.lines_Name.B3 s_0) 0 ((s_0.size : Int).toNat) ()) fun o50 => Sum.elim (fun st44 => L.lines_Name.J2 ()) (fun d62 => some d62) o50
def L.lines_Name (s_0 : ByteArray) : Option Bool := if decide ((s_0.size : Int) < 1) = true then L.lines_Name.J1 s_0 true else if decide ((s_0.size : Int) > 12) = true then L.lines_Name.J1 s_0 true else Option.bind (ixs s_0 0) fun p65 => L.lines_Name.J1 s_0 ((L.lines_place p65.2) != 1)

/-- network.names -/
def L.network_names.J3 (n_0 : Network) (j41 : List ByteArray) (j77 : List ByteArray) (j113 : List ByteArray) : Option (Arr (List ByteArray) 4) := some (⟨[n_0.Nodes, j41, j77, j113], rfl⟩ : Arr (List ByteArray) 4)
def L.network_names.B4 (k116 : Nat) (x119 : Station) (st138 : List ByteArray) : Option (List ByteArray) := Option.bind (app? st138 ([x119.Name] : List ByteArray)) fun l156 => some l156
def L.network_names.J2 (n_0 : Network) (j41 : List ByteArray) (j77 : List ByteArray) : Option (Arr (List ByteArray) 4) := Option.bind (forS L.network_names.B4 0 n_0.Stations []) fun st138 => L.network_names.J3 n_0 j41 j77 st138
def L.network_names.B5 (k162 : Nat) (x165 : Port) (st184 : List ByteArray) : Option (List ByteArray) := Option.bind (app? st184 ([x165.Name] : List ByteArray)) fun l202 => some l202
def L.network_names.J1 (n_0 : Network) (j41 : List ByteArray) : Option (Arr (List ByteArray) 4) := Option.bind (forS L.network_names.B5 0 n_0.Ports []) fun st184 => L.network_names.J2 n_0 j41 st184
def L.network_names.B6 (k208 : Nat) (x211 : Segment) (st230 : List ByteArray) : Option (List ByteArray) := Option.bind (app? st230 ([x211.Name] : List ByteArray)) fun l248 => some l248
def L.network_names (n_0 : Network) : Option (Arr (List ByteArray) 4) := Option.bind (forS L.network_names.B6 0 n_0.Segments []) fun st230 => L.network_names.J1 n_0 st230

/-- network.twice$1 -/
def L.network_twice_1 (x_0 : Station) (a_1 : Station) : Bool := (x_0.Node == a_1.Node)

/-- network.twice -/
def L.network_twice.J2 (j91 : Unit) : Option Bool := some false
def L.network_twice.B3 (n_0 : Network) (k93 : Nat) (x96 : Station) (st106 : Unit) : Option (Unit ⊕ (Bool)) := Option.bind (L.slices_IndexFunc_api_Station_api_Station n_0.Stations (fun x => some (L.network_twice_1 x x96))) fun r123 => if decide (r123 < (k93 : Int)) = true then some ((.inr (true))) else some (.inl ())
def L.network_twice.J1 (n_0 : Network) (j66 : Unit) : Option Bool := Option.bind (forL (L.network_twice.B3 n_0) 0 n_0.Stations ()) fun o114 => Sum.elim (fun st106 => L.network_twice.J2 ()) (fun d128 => some d128) o114
def L.network_twice.J5 (j220 : Unit) : Option (Unit ⊕ (Bool)) := some (.inl ())
def L.network_twice.B6 (p222 : Nat × (List ByteArray)) (k225 : Nat) (x228 : ByteArray) (st236 : Unit) : Option (Unit ⊕ (Bool)) := Option.bind (L.slices_Index_string_string p222.2 x228) fun r249 => if decide (r249 < (k225 : Int)) = true then some ((.inr (true))) else some (.inl ())
def L.network_twice.B4 (r130 : Arr (List ByteArray) 4) (k132 : Nat) (st163 : Unit) : Option (Unit ⊕ (Bool)) := Option.bind (ix r130.l (k132 : Int)) fun p222 => Option.bind (forL (L.network_twice.B6 p222) 0 p222.2 ()) fun o242 => Sum.elim (fun st236 => L.network_twice.J5 ()) (fun d254 => some ((.inr (d254)))) o242
def L.network_twice (n_0 : Network) : Option Bool := Option.bind (L.network_names n_0) fun r130 => Option.bind (forI (L.network_twice.B4 r130) 0 4 ()) fun o190 => Sum.elim (fun st163 => L.network_twice.J1 n_0 ()) (fun d257 => some d257) o190

/-- network.known$1 -/
def L.network_known_1 (k_0 : Int) (a_1 : Network) : Bool := (decide (k_0 < 0) || decide (k_0 ≥ (a_1.Nodes.length : Int)))

/-- network.known -/
def L.network_known.J3 (n_0 : Network) (j110 : List Int) : Option Bool := Option.bind (L.slices_ContainsFunc_int_int j110 (fun x => some (L.network_known_1 x n_0))) fun r112 => some (!r112)
def L.network_known.B4 (k115 : Nat) (x118 : Station) (st137 : List Int) : Option (List Int) := Option.bind (app? st137 ([x118.Node] : List Int)) fun l155 => some l155
def L.network_known.J2 (n_0 : Network) (j74 : List Int) : Option Bool := Option.bind (forS L.network_known.B4 0 n_0.Stations j74) fun st137 => L.network_known.J3 n_0 st137
def L.network_known.B5 (k161 : Nat) (x164 : Port) (st183 : List Int) : Option (List Int) := Option.bind (app? st183 ([x164.Node] : List Int)) fun l201 => some l201
def L.network_known.J1 (n_0 : Network) (j38 : List Int) : Option Bool := Option.bind (forS L.network_known.B5 0 n_0.Ports j38) fun st183 => L.network_known.J2 n_0 st183
def L.network_known.B6 (k207 : Nat) (x210 : Segment) (st229 : List Int) : Option (List Int) := Option.bind (app? st229 ([x210.From, x210.To] : List Int)) fun l247 => some l247
def L.network_known (n_0 : Network) : Option Bool := Option.bind (forS L.network_known.B6 0 n_0.Segments []) fun st229 => L.network_known.J1 n_0 st229

/-- network.pipe -/
def L.network_pipe.J2 (j50 : Bool) : Option Bool := some j50
def L.network_pipe.J1 (s_0 : Segment) (j44 : Unit) : Option Bool := Option.bind (ix s_0.Points 0) fun p51 => if (p51.2.At == 0) = true then Option.bind (ix s_0.Points (wr ((s_0.Points.length : Int) - 1))) fun p54 => L.network_pipe.J2 (p54.2.At == s_0.Capacity) else L.network_pipe.J2 false
def L.network_pipe.J4 (j100 : Bool) : Option (Unit ⊕ (Bool)) := if j100 = true then some ((.inr (false))) else some (.inl ())
def L.network_pipe.B3 (s_0 : Segment) (k57 : Nat) (x60 : Point) (st74 : Unit) : Option (Unit ⊕ (Bool)) := if (!(L.network_in x60.Height (-500) 5000)) = true then L.network_pipe.J4 true else if (!(L.network_in x60.Limit 0 100000000)) = true then L.network_pipe.J4 true else if decide ((k57 : Int) > 0) = true then Option.bind (ix s_0.Points (wr ((k57 : Int) - 1))) fun p105 => L.network_pipe.J4 (decide (x60.At ≤ p105.2.At)) else L.network_pipe.J4 false
def L.network_pipe (s_0 : Segment) : Option Bool := if ((s_0.From == s_0.To) || ((!(L.network_in s_0.Capacity 1 1000000)) || ((!(L.network_in s_0.Resist 0 1000)) || (!(L.network_in s_0.Wave 0 100000))))) = true then some false else Option.bind (forL (L.network_pipe.B3 s_0) 0 s_0.Points ()) fun o86 => Sum.elim (fun st74 => L.network_pipe.J1 s_0 ()) (fun d109 => some d109) o86

/-- network.proper$1 -/
def L.network_proper_1 (s_0 : Segment) : Option Bool := Option.bind (L.network_pipe s_0) fun r2 => some (!r2)

/-- network.proper$2 -/
def L.network_proper_2 (p_0 : Port) : Bool := (!(L.network_in p_0.Pressure 0 100000000))

/-- network.proper$3 -/
def L.network_proper_3 (s_0 : Station) : Bool := ((!(L.network_in s_0.Head 0 100000000)) || ((!(L.network_in s_0.Fall 0 100000)) || (!(L.network_in s_0.Suction 0 100000000))))

/-- network.proper -/
def L.network_proper (n_0 : Network) : Option Bool := Option.bind (L.slices_ContainsFunc_api_Segment_api_Segment n_0.Segments (fun x => L.network_proper_1 x)) fun r4 => if r4 = true then some false else Option.bind (L.slices_ContainsFunc_api_Port_api_Port n_0.Ports (fun x => some (L.network_proper_2 x))) fun r8 => if r8 = true then some false else Option.bind (L.slices_ContainsFunc_api_Station_api_Station n_0.Stations (fun x => some (L.network_proper_3 x))) fun r11 => if r11 = true then some false else some ((L.network_in n_0.Vapour (-100000) 100000000) && (L.network_in n_0.Settle 0 100))

/-- network.Check$1 -/
def L.network_Check_1 (s_0 : ByteArray) : Option Bool := Option.bind (L.lines_Name s_0) fun r1 => some (!r1)

/-- network.Check -/
def L.network_Check.J1 (n_0 : Network) (j32 : Unit) : Option Int := Option.bind (L.network_twice n_0) fun r34 => if r34 = true then some 7 else Option.bind (L.network_known n_0) fun r38 => if (!r38) = true then some 8 else Option.bind (L.network_proper n_0) fun r41 => if (!r41) = true then some 9 else some 0
def L.network_Check.B2 (r45 : Arr (List ByteArray) 4) (k47 : Nat) (st59 : Unit) : Option (Unit ⊕ (Int)) := Option.bind (ix r45.l (k47 : Int)) fun p74 => Option.bind (L.slices_ContainsFunc_string_string p74.2 (fun x => L.network_Check_1 x)) fun r76 => if r76 = true then some ((.inr (3))) else some (.inl ())
def L.network_Check (n_0 : Network) : Option Int := Option.bind (L.network_limits n_0) fun r4 => if (!r4) = true then some 4 else Option.bind (L.network_names n_0) fun r45 => Option.bind (forI (L.network_Check.B2 r45) 0 4 ()) fun o67 => Sum.elim (fun st59 => L.network_Check.J1 n_0 ()) (fun d81 => some d81) o67

/-- (*flow.streams).add -/
def L.flow_streams_add.J2 (s_0 : flow_streams) (j2 : Int × Int × Int) (j7 : Arr Int 24) : Option flow_streams := if decide (j2.2.1 ≥ 0) = true then Option.bind (ix s_0.come.l j2.2.1) fun p10 => some (⟨(s_0.come.set p10.1 (wr (p10.2 + j2.2.2))), j7⟩ : flow_streams) else some (⟨s_0.come, j7⟩ : flow_streams)
def L.flow_streams_add.J1 (s_0 : flow_streams) (j2 : Int × Int × Int) : Option flow_streams := if decide (j2.1 ≥ 0) = true then Option.bind (ix s_0.leave.l j2.1) fun p14 => L.flow_streams_add.J2 s_0 j2 (s_0.leave.set p14.1 (wr (p14.2 + j2.2.2))) else L.flow_streams_add.J2 s_0 j2 s_0.leave
def L.flow_streams_add (s_0 : flow_streams) (from_1 : Int) (to_2 : Int) (rate_3 : Int) : Option flow_streams := if decide (rate_3 < 0) = true then L.flow_streams_add.J1 s_0 (to_2, from_1, wr (0 - rate_3)) else L.flow_streams_add.J1 s_0 (from_1, to_2, rate_3)

/-- flow.sums -/
def L.flow_sums.J2 (j72 : (Arr Int 24) × (Arr Int 24)) : Option flow_streams := some (⟨j72.1, j72.2⟩ : flow_streams)
def L.flow_sums.B3 (p_1 : Plan) (k74 : Nat) (x77 : Port) (st95 : (Arr Int 24) × (Arr Int 24)) : Option ((Arr Int 24) × (Arr Int 24)) := Option.bind (ix p_1.Ports (k74 : Int)) fun p111 => Option.bind (L.flow_streams_add (⟨st95.1, st95.2⟩ : flow_streams) (-1) x77.Node p111.2) fun r113 => some (r113.come, r113.leave)
def L.flow_sums.J1 (n_0 : Network) (p_1 : Plan) (j39 : (Arr Int 24) × (Arr Int 24)) : Option flow_streams := Option.bind (forS (L.flow_sums.B3 p_1) 0 n_0.Ports (j39.1, j39.2)) fun st95 => L.flow_sums.J2 (st95.1, st95.2)
def L.flow_sums.B4 (p_1 : Plan) (k118 : Nat) (x121 : Segment) (st139 : (Arr Int 24) × (Arr Int 24)) : Option ((Arr Int 24) × (Arr Int 24)) := Option.bind (ix p_1.Rates (k118 : Int)) fun p155 => Option.bind (L.flow_streams_add (⟨st139.1, st139.2⟩ : flow_streams) x121.From x121.To p155.2) fun r157 => some (r157.come, r157.leave)
def L.flow_sums (n_0 : Network) (p_1 : Plan) : Option flow_streams := Option.bind (forS (L.flow_sums.B4 p_1) 0 n_0.Segments ((Arr.rep 24 (0 : Int)), (Arr.rep 24 (0 : Int)))) fun st139 => L.flow_sums.J1 n_0 p_1 (st139.1, st139.2)

/-- flow.Check$1 -/
def L.flow_Check_1 (rate_0 : Int) : Bool := (!(L.flow_within rate_0 1000))

/-- flow.Check -/
def L.flow_Check.J1 (n_0 : Network) (p_1 : Plan) (j39 : Unit) : Option Int := Option.bind (L.slices_ContainsFunc_int_int p_1.Ports (fun x => some (L.flow_Check_1 x))) fun r41 => if r41 = true then some 1 else Option.bind (L.flow_sums n_0 p_1) fun r45 => if (!decide (r45.come = r45.leave)) = true then some 12 else Option.bind (L.flow_order n_0 p_1) fun r49 => if decide ((r49.length : Int) < (n_0.Nodes.length : Int)) = true then some 13 else some 0
def L.flow_Check.B2 (p_1 : Plan) (k54 : Nat) (x57 : Segment) (st67 : Unit) : Option (Unit ⊕ (Int)) := Option.bind (ix p_1.Rates (k54 : Int)) fun p84 => if (!(L.flow_within p84.2 (min 1000 x57.Capacity))) = true then some ((.inr (1))) else some (.inl ())
def L.flow_Check (n_0 : Network) (p_1 : Plan) : Option Int := Option.bind (L.network_Check n_0) fun r5 => if (r5 != 0) = true then some r5 else if (((p_1.Rates.length : Int) != (n_0.Segments.length : Int)) || (((p_1.Ports.length : Int) != (n_0.Ports.length : Int)) || ((p_1.Pumps.length : Int) != (n_0.Stations.length : Int)))) = true then some 9 else Option.bind (forL (L.flow_Check.B2 p_1) 0 n_0.Segments ()) fun o75 => Sum.elim (fun st67 => L.flow_Check.J1 n_0 p_1 ()) (fun d89 => some d89) o75

/-- batchlinekeep.New -/
def L.keep_New (l_0 : List Int) : Option batchlinekeep_Src := Option.bind (sub? l_0 0 (min (l_0.length : Int) 2000)) fun l1 => some (⟨l1, 0⟩ : batchlinekeep_Src)

/-- (*batchlinekeep.Src).Raw -/
def L.keep_Src_Raw (s_0 : batchlinekeep_Src) : Option (Int × batchlinekeep_Src) := if decide (s_0.At ≥ (s_0.L_.length : Int)) = true then some (0, s_0) else Option.bind (ix s_0.L_ (wr ((wr (s_0.At + 1)) - 1))) fun p5 => some (p5.2, (⟨s_0.L_, wr (s_0.At + 1)⟩ : batchlinekeep_Src))

/-- (*batchlinekeep.Src).N -/
def L.keep_Src_N (s_0 : batchlinekeep_Src) (n_1 : Int) : Option (Int × batchlinekeep_Src) := Option.bind (L.keep_Src_Raw s_0) fun r1 => Option.bind (L.keep_Mod r1.1 n_1) fun r3 => some (r3, r1.2)

/-- batchlinekeep.name -/
def L.keep_name (first_0 : ByteArray) (n_1 : Int) : Option ByteArray := Option.bind (bytes? ([IntKind.u8.wrap (wr (97 + (n_1.tmod 26)))] : List Int)) fun x2 => Option.bind (cat? first_0 x2) fun x4 => some x4

/-- (*batchlinekeep.Src).Pick -/
def L.keep_Src_Pick (s_0 : batchlinekeep_Src) (l_1 : List Int) : Option (Int × batchlinekeep_Src) := Option.bind (L.keep_Src_N s_0 (l_1.length : Int)) fun r1 => Option.bind (ix l_1 r1.1) fun p3 => some (p3.2, r1.2)

/-- (*batchlinekeep.Src).Range -/
def L.keep_Src_Range (s_0 : batchlinekeep_Src) (lo_1 : Int) (hi_2 : Int) : Option (Int × batchlinekeep_Src) := Option.bind (L.keep_Src_N s_0 (wr ((wr (hi_2 - lo_1)) + 1))) fun r1 => some (wr (lo_1 + r1.1), r1.2)

/-- (*batchlinekeep.Src).Segment -/
def L.keep_Src_Segment.J2 (j6 : (List Int) × Int × Int × Int) (r8 : ByteArray) (r11 : Int × batchlinekeep_Src) (r14 : Int × batchlinekeep_Src) (r17 : Int × batchlinekeep_Src) (r22 : Int × batchlinekeep_Src) (j104 : (List Int) × Int × (List Point)) : Option (Segment × batchlinekeep_Src) := Option.bind (L.keep_Src_Range (⟨j104.1, j104.2.1⟩ : batchlinekeep_Src) (-5) 30) fun r106 => Option.bind (app? j104.2.2 ([(⟨r11.1, r106.1, r22.1⟩ : Point)] : List Point)) fun l109 => some ((⟨r8, j6.2.2.1, j6.2.2.2, r11.1, r14.1, r17.1, l109⟩ : Segment), r106.2)
def L.keep_Src_Segment.J4 (r11 : Int × batchlinekeep_Src) (r22 : Int × batchlinekeep_Src) (st161 : (List Int) × Int × (List Point) × Int) (j194 : (List Int) × Int × Bool) : Option (((List Int) × Int × (List Point) × Int) ⊕ (((List Int) × Int × (List Point)))) := if j194.2.2 = true then Option.bind (L.keep_Src_Range (⟨j194.1, j194.2.1⟩ : batchlinekeep_Src) 1 40) fun r197 => if decide ((wr (st161.2.2.2 + r197.1)) ≥ r11.1) = true then some ((.inr ((r197.2.L_, r197.2.At, st161.2.2.1)))) else Option.bind (L.keep_Src_Range r197.2 (-5) 60) fun r201 => Option.bind (L.keep_Src_Pick r201.2 ([1, 1, 10] : List Int)) fun r204 => Option.bind (L.keep_Src_N r204.2 3) fun r206 => Option.bind (app? st161.2.2.1 ([(⟨wr (st161.2.2.2 + r197.1), wr (r201.1 * r204.1), wr (r22.1 - (wr (r206.1 * 1000)))⟩ : Point)] : List Point)) fun l209 => some (.inl (r206.2.L_, r206.2.At, l209, wr (st161.2.2.2 + r197.1))) else some ((.inr ((j194.1, j194.2.1, st161.2.2.1))))
def L.keep_Src_Segment.B3 (r11 : Int × batchlinekeep_Src) (r22 : Int × batchlinekeep_Src) (st161 : (List Int) × Int × (List Point) × Int) : Option (((List Int) × Int × (List Point) × Int) ⊕ (((List Int) × Int × (List Point)))) := if decide ((st161.2.2.1.length : Int) < 7) = true then Option.bind (L.keep_Src_N (⟨st161.1, st161.2.1⟩ : batchlinekeep_Src) 3) fun r213 => L.keep_Src_Segment.J4 r11 r22 st161 (r213.2.L_, r213.2.At, decide (r213.1 > 0)) else L.keep_Src_Segment.J4 r11 r22 st161 (st161.1, st161.2.1, false)
def L.keep_Src_Segment.J1 (k_1 : Int) (j6 : (List Int) × Int × Int × Int) : Option (Segment × batchlinekeep_Src) := Option.bind (L.keep_name (⟨#[103]⟩ : ByteArray) k_1) fun r8 => Option.bind (L.keep_Src_Pick (⟨j6.1, j6.2.1⟩ : batchlinekeep_Src) ([1, 2, 7, 20, 60, 200, 1000] : List Int)) fun r11 => Option.bind (L.keep_Src_Pick r11.2 ([0, 1, 5, 1000] : List Int)) fun r14 => Option.bind (L.keep_Src_Pick r14.2 ([0, 50, 1000, 100000] : List Int)) fun r17 => Option.bind (L.keep_Src_Pick r17.2 ([1000000, 6000000, 100000000] : List Int)) fun r22 => Option.bind (L.keep_Src_Range r22.2 (-5) 30) fun r25 => Option.bind (app? [] ([(⟨0, r25.1, r22.1⟩ : Point)] : List Point)) fun l28 => Option.bind (loopN (L.keep_Src_Segment.B3 r11 r22) lots (r25.2.L_, r25.2.At, l28, 0)) fun d215 => L.keep_Src_Segment.J2 j6 r8 r11 r14 r17 r22 d215
def L.keep_Src_Segment (s_0 : batchlinekeep_Src) (k_1 : Int) (from_2 : Int) (to_3 : Int) : Option (Segment × batchlinekeep_Src) := Option.bind (L.keep_Src_N s_0 4) fun r216 => if (r216.1 == 0) = true then L.keep_Src_Segment.J1 k_1 (r216.2.L_, r216.2.At, to_3, from_2) else L.keep_Src_Segment.J1 k_1 (r216.2.L_, r216.2.At, from_2, to_3)

/-- (*batchlinekeep.Src).Network -/
def L.keep_Src_Network.J4 (r5 : Int × batchlinekeep_Src) (r8 : Int × batchlinekeep_Src) (j46 : (List Int) × Int × (List ByteArray)) (j135 : (List Int) × Int × (List Segment)) (j276 : (List Int) × Int × (List Port) × (List Station)) : Option (Network × batchlinekeep_Src) := some ((⟨j46.2.2, j135.2.2, j276.2.2.1, j276.2.2.2, r5.1, r8.1⟩ : Network), (⟨j276.1, j276.2.1⟩ : batchlinekeep_Src))
def L.keep_Src_Network.J6 (st371 : (List Int) × Int × (List Port) × (List Station) × Int) (j464 : (List Int) × Int × (List Port) × (List Station)) : Option (((List Int) × Int × (List Port) × (List Station) × Int) ⊕ (((List Int) × Int × (List Port) × (List Station)))) := some (.inl (j464.1, j464.2.1, j464.2.2.1, j464.2.2.2, wr (st371.2.2.2.2 + 1)))
def L.keep_Src_Network.J8 (st371 : (List Int) × Int × (List Port) × (List Station) × Int) (j483 : (List Int) × Int × (List Port)) (j488 : (List Int) × Int × Bool) : Option (((List Int) × Int × (List Port) × (List Station) × Int) ⊕ (((List Int) × Int × (List Port) × (List Station)))) := if j488.2.2 = true then Option.bind (L.keep_name (⟨#[115]⟩ : ByteArray) (st371.2.2.2.1.length : Int)) fun r490 => Option.bind (L.keep_Src_Pick (⟨j488.1, j488.2.1⟩ : batchlinekeep_Src) ([500000, 2000000, 0] : List Int)) fun r493 => Option.bind (L.keep_Src_Pick r493.2 ([0, 200, 100000] : List Int)) fun r496 => Option.bind (L.keep_Src_Pick r496.2 ([0, 100000, 400000] : List Int)) fun r499 => Option.bind (app? st371.2.2.2.1 ([(⟨r490, st371.2.2.2.2, r493.1, r496.1, r499.1⟩ : Station)] : List Station)) fun l502 => L.keep_Src_Network.J6 st371 (r499.2.L_, r499.2.At, j483.2.2, l502) else L.keep_Src_Network.J6 st371 (j488.1, j488.2.1, j483.2.2, st371.2.2.2.1)
def L.keep_Src_Network.J7 (j46 : (List Int) × Int × (List ByteArray)) (st371 : (List Int) × Int × (List Port) × (List Station) × Int) (j483 : (List Int) × Int × (List Port)) : Option (((List Int) × Int × (List Port) × (List Station) × Int) ⊕ (((List Int) × Int × (List Port) × (List Station)))) := if decide (st371.2.2.2.2 < (wr ((j46.2.2.length : Int) - 1))) = true then Option.bind (L.keep_Src_N (⟨j483.1, j483.2.1⟩ : batchlinekeep_Src) 3) fun r507 => L.keep_Src_Network.J8 st371 j483 (r507.2.L_, r507.2.At, (r507.1 == 0)) else L.keep_Src_Network.J8 st371 j483 (j483.1, j483.2.1, false)
def L.keep_Src_Network.J9 (j46 : (List Int) × Int × (List ByteArray)) (st371 : (List Int) × Int × (List Port) × (List Station) × Int) (j513 : (List Int) × Int × Bool) : Option (((List Int) × Int × (List Port) × (List Station) × Int) ⊕ (((List Int) × Int × (List Port) × (List Station)))) := if j513.2.2 = true then Option.bind (L.keep_name (⟨#[113]⟩ : ByteArray) (st371.2.2.1.length : Int)) fun r515 => Option.bind (L.keep_Src_Pick (⟨j513.1, j513.2.1⟩ : batchlinekeep_Src) ([300000, 1000000, 0, 5000000] : List Int)) fun r518 => Option.bind (app? st371.2.2.1 ([(⟨r515, st371.2.2.2.2, r518.1⟩ : Port)] : List Port)) fun l521 => L.keep_Src_Network.J7 j46 st371 (r518.2.L_, r518.2.At, l521) else L.keep_Src_Network.J7 j46 st371 (j513.1, j513.2.1, st371.2.2.1)
def L.keep_Src_Network.B5 (j46 : (List Int) × Int × (List ByteArray)) (st371 : (List Int) × Int × (List Port) × (List Station) × Int) : Option (((List Int) × Int × (List Port) × (List Station) × Int) ⊕ (((List Int) × Int × (List Port) × (List Station)))) := if decide (st371.2.2.2.2 ≤ (wr ((j46.2.2.length : Int) - 1))) = true then if (st371.2.2.2.2 == 0) = true then L.keep_Src_Network.J9 j46 st371 (st371.1, st371.2.1, true) else if (st371.2.2.2.2 == (wr ((j46.2.2.length : Int) - 1))) = true then L.keep_Src_Network.J9 j46 st371 (st371.1, st371.2.1, true) else Option.bind (L.keep_Src_N (⟨st371.1, st371.2.1⟩ : batchlinekeep_Src) 2) fun r527 => L.keep_Src_Network.J9 j46 st371 (r527.2.L_, r527.2.At, (r527.1 == 0)) else some ((.inr ((st371.1, st371.2.1, st371.2.2.1, st371.2.2.2.1))))
def L.keep_Src_Network.J3 (r5 : Int × batchlinekeep_Src) (r8 : Int × batchlinekeep_Src) (j46 : (List Int) × Int × (List ByteArray)) (j135 : (List Int) × Int × (List Segment)) : Option (Network × batchlinekeep_Src) := Option.bind (loopN (L.keep_Src_Network.B5 j46) lots (j135.1, j135.2.1, [], [], 0)) fun d529 => L.keep_Src_Network.J4 r5 r8 j46 j135 d529
def L.keep_Src_Network.B10 (j46 : (List Int) × Int × (List ByteArray)) (st565 : (List Int) × Int × (List Segment) × Int) : Option (((List Int) × Int × (List Segment) × Int) ⊕ (((List Int) × Int × (List Segment)))) := if decide (st565.2.2.2 > 0) = true then Option.bind (L.keep_Src_N (⟨st565.1, st565.2.1⟩ : batchlinekeep_Src) (wr ((j46.2.2.length : Int) - 1))) fun r589 => Option.bind (L.keep_Src_Range r589.2 (wr (r589.1 + 1)) (wr ((j46.2.2.length : Int) - 1))) fun r591 => Option.bind (L.keep_Src_Segment r591.2 (st565.2.2.1.length : Int) r589.1 r591.1) fun r593 => Option.bind (app? st565.2.2.1 ([r593.1] : List Segment)) fun l596 => some (.inl (r593.2.L_, r593.2.At, l596, wr (st565.2.2.2 - 1))) else some ((.inr ((st565.1, st565.2.1, st565.2.2.1))))
def L.keep_Src_Network.J2 (r5 : Int × batchlinekeep_Src) (r8 : Int × batchlinekeep_Src) (j46 : (List Int) × Int × (List ByteArray)) (j82 : (List Int) × Int × (List Segment)) : Option (Network × batchlinekeep_Src) := Option.bind (L.keep_Src_N (⟨j82.1, j82.2.1⟩ : batchlinekeep_Src) 4) fun r531 => Option.bind (loopN (L.keep_Src_Network.B10 j46) lots (r531.2.L_, r531.2.At, j82.2.2, r531.1)) fun d600 => L.keep_Src_Network.J3 r5 r8 j46 d600
def L.keep_Src_Network.B11 (j46 : (List Int) × Int × (List ByteArray)) (st623 : (List Int) × Int × (List Segment) × Int) : Option (((List Int) × Int × (List Segment) × Int) ⊕ (((List Int) × Int × (List Segment)))) := if decide (st623.2.2.2 < (wr ((j46.2.2.length : Int) - 1))) = true then Option.bind (L.keep_Src_Segment (⟨st623.1, st623.2.1⟩ : batchlinekeep_Src) (st623.2.2.1.length : Int) st623.2.2.2 (wr (st623.2.2.2 + 1))) fun r641 => Option.bind (app? st623.2.2.1 ([r641.1] : List Segment)) fun l644 => some (.inl (r641.2.L_, r641.2.At, l644, wr (st623.2.2.2 + 1))) else some ((.inr ((st623.1, st623.2.1, st623.2.2.1))))
def L.keep_Src_Network.J1 (r5 : Int × batchlinekeep_Src) (r8 : Int × batchlinekeep_Src) (j46 : (List Int) × Int × (List ByteArray)) : Option (Network × batchlinekeep_Src) := Option.bind (loopN (L.keep_Src_Network.B11 j46) lots (j46.1, j46.2.1, [], 0)) fun d648 => L.keep_Src_Network.J2 r5 r8 j46 d648
def L.keep_Src_Network.B12 (r650 : Int × batchlinekeep_Src) (st673 : (List ByteArray) × Int) : Option (((List ByteArray) × Int) ⊕ (((List Int) × Int × (List ByteArray)))) := if decide (st673.2 > 0) = true then Option.bind (L.keep_name (⟨#[110]⟩ : ByteArray) (st673.1.length : Int)) fun r691 => Option.bind (app? st673.1 ([r691] : List ByteArray)) fun l694 => some (.inl (l694, wr (st673.2 - 1))) else some ((.inr ((r650.2.L_, r650.2.At, st673.1))))
def L.keep_Src_Network (s_0 : batchlinekeep_Src) : Option (Network × batchlinekeep_Src) := Option.bind (L.keep_Src_Pick s_0 ([(-100000), 0, 50000] : List Int)) fun r5 => Option.bind (L.keep_Src_Pick r5.2 ([0, 1, 5, 100] : List Int)) fun r8 => Option.bind (L.keep_Src_Range r8.2 2 6) fun r650 => Option.bind (loopN (L.keep_Src_Network.B12 r650) lots ([], r650.1)) fun d698 => L.keep_Src_Network.J1 r5 r8 d698

/-- batchlinekeep.abs -/
def L.keep_abs (n_0 : Int) : Int := (max n_0 (wr (0 - n_0)))

/-- batchlinekeep.Negated -/
def L.keep_Negated.J2 (l6 : List Bool) (j44 : List Int) (j80 : List Int) : Option Plan := some (⟨j44, j80, l6⟩ : Plan)
def L.keep_Negated.B3 (k83 : Nat) (x86 : Int) (st105 : List Int) : Option (List Int) := Option.bind (app? st105 ([wr (0 - x86)] : List Int)) fun l123 => some l123
def L.keep_Negated.J1 (p_0 : Plan) (l6 : List Bool) (j44 : List Int) : Option Plan := Option.bind (forS L.keep_Negated.B3 0 p_0.Ports []) fun st105 => L.keep_Negated.J2 l6 j44 st105
def L.keep_Negated.B4 (k129 : Nat) (x132 : Int) (st151 : List Int) : Option (List Int) := Option.bind (app? st151 ([wr (0 - x132)] : List Int)) fun l169 => some l169
def L.keep_Negated (p_0 : Plan) : Option Plan := Option.bind (app? ([] : List Bool) p_0.Pumps) fun l6 => Option.bind (forS L.keep_Negated.B4 0 p_0.Rates []) fun st151 => L.keep_Negated.J1 p_0 l6 st151

/-- (*batchlinekeep.Src).Plan -/
def L.keep_Src_Plan.J3 (j48 : (List Int) × Int × (List Bool)) (r51 : Int × batchlinekeep_Src) (j1782 : (List Int) × Int × (List Int) × (List Int)) : Option (Plan × batchlinekeep_Src) := if (r51.1 == 0) = true then Option.bind (L.keep_Negated (⟨j1782.2.2.1, j1782.2.2.2, j48.2.2⟩ : Plan)) fun r1784 => some (r1784, (⟨j1782.1, j1782.2.1⟩ : batchlinekeep_Src)) else some ((⟨j1782.2.2.1, j1782.2.2.2, j48.2.2⟩ : Plan), (⟨j1782.1, j1782.2.1⟩ : batchlinekeep_Src))
def L.keep_Src_Plan.J5 (st2940 : (List Int) × Int × (List Int) × (List Int) × Int) (j4093 : (List Int) × Int × (List Int) × (List Int)) : Option (((List Int) × Int × (List Int) × (List Int) × Int) ⊕ (((List Int) × Int × (List Int) × (List Int)))) := some (.inl (j4093.1, j4093.2.1, j4093.2.2.1, j4093.2.2.2, wr (st2940.2.2.2.2 - 1)))
def L.keep_Src_Plan.J10 (j4681 : List Int) : Option (List Int) := some j4681
def L.keep_Src_Plan.B9 (n_1 : Network) (r4103 : Int × batchlinekeep_Src) (j4599 : (List Int) × Int × (List Int) × Int) (k4614 : Nat) (st4648 : List Int) : Option (List Int) := Option.bind (ix j4599.2.2.1 (k4614 : Int)) fun p4683 => Option.bind (ix n_1.Segments p4683.2) fun p4686 => if decide (p4686.2.From < p4686.2.To) = true then Option.bind (ix st4648 p4683.2) fun p4689 => L.keep_Src_Plan.J10 (st4648.set p4689.1 (wr (p4689.2 + r4103.1))) else Option.bind (ix st4648 p4683.2) fun p4691 => L.keep_Src_Plan.J10 (st4648.set p4691.1 (wr (p4691.2 - r4103.1)))
def L.keep_Src_Plan.J8 (n_1 : Network) (st2940 : (List Int) × Int × (List Int) × (List Int) × Int) (r4103 : Int × batchlinekeep_Src) (j4599 : (List Int) × Int × (List Int) × Int) (j4612 : List Int) : Option (((List Int) × Int × (List Int) × (List Int) × Int) ⊕ (((List Int) × Int × (List Int) × (List Int)))) := Option.bind (forJ (L.keep_Src_Plan.B9 n_1 r4103 j4599) 0 j4599.2.2.1.length st2940.2.2.1) fun st4648 => L.keep_Src_Plan.J5 st2940 (j4599.1, j4599.2.1, st4648, j4612)
def L.keep_Src_Plan.J7 (n_1 : Network) (st2940 : (List Int) × Int × (List Int) × (List Int) × Int) (r4095 : Int × batchlinekeep_Src) (r4103 : Int × batchlinekeep_Src) (j4599 : (List Int) × Int × (List Int) × Int) : Option (((List Int) × Int × (List Int) × (List Int) × Int) ⊕ (((List Int) × Int × (List Int) × (List Int)))) := if decide (j4599.2.2.2 < 0) = true then L.keep_Src_Plan.J5 st2940 (j4599.1, j4599.2.1, st2940.2.2.1, st2940.2.2.2.1) else Option.bind (ix st2940.2.2.2.1 r4095.1) fun p4695 => Option.bind (ix st2940.2.2.2.1 j4599.2.2.2) fun p4697 => Option.bind (ix (st2940.2.2.2.1.set p4695.1 (wr (p4695.2 + r4103.1))) j4599.2.2.2) fun p4699 => L.keep_Src_Plan.J8 n_1 st2940 r4103 j4599 ((st2940.2.2.2.1.set p4695.1 (wr (p4695.2 + r4103.1))).set p4699.1 (wr (p4697.2 - r4103.1)))
def L.keep_Src_Plan.J13 (n_1 : Network) (st5028 : (List Int) × Int × Int × (List Int) × Int) (j5256 : (List Int) × Int × Int) (j5339 : List Int) : Option (((List Int) × Int × Int × (List Int) × Int) ⊕ (((List Int) × Int × (List Int) × Int))) := if ((j5339.length : Int) == 0) = true then some ((.inr ((j5256.1, j5256.2.1, st5028.2.2.2.1, j5256.2.2)))) else Option.bind (L.keep_Src_N (⟨j5256.1, j5256.2.1⟩ : batchlinekeep_Src) (j5339.length : Int)) fun r5344 => Option.bind (ix j5339 r5344.1) fun p5346 => Option.bind (app? st5028.2.2.2.1 ([p5346.2] : List Int)) fun l5350 => Option.bind (ix n_1.Segments p5346.2) fun p5353 => some (.inl (r5344.2.L_, r5344.2.At, wr ((wr (p5353.2.From + p5353.2.To)) - st5028.2.2.1), l5350, j5256.2.2))
def L.keep_Src_Plan.J15 (j5457 : List Int) : Option (List Int) := some j5457
def L.keep_Src_Plan.J16 (k5356 : Nat) (st5408 : List Int) (j5471 : Bool) : Option (List Int) := if j5471 = true then Option.bind (app? st5408 ([(k5356 : Int)] : List Int)) fun l5474 => L.keep_Src_Plan.J15 l5474 else L.keep_Src_Plan.J15 st5408
def L.keep_Src_Plan.B14 (st2940 : (List Int) × Int × (List Int) × (List Int) × Int) (r4103 : Int × batchlinekeep_Src) (st5028 : (List Int) × Int × Int × (List Int) × Int) (k5356 : Nat) (x5359 : Segment) (st5408 : List Int) : Option (List Int) := if (x5359.From == st5028.2.2.1) = true then if decide ((wr ((wr (x5359.From + x5359.To)) - st5028.2.2.1)) > st5028.2.2.1) = true then Option.bind (ix st2940.2.2.1 (k5356 : Int)) fun p5479 => L.keep_Src_Plan.J16 k5356 st5408 (decide ((wr ((L.keep_abs p5479.2) + r4103.1)) ≤ (min 1000 x5359.Capacity))) else L.keep_Src_Plan.J16 k5356 st5408 false else if (x5359.To == st5028.2.2.1) = true then if decide ((wr ((wr (x5359.From + x5359.To)) - st5028.2.2.1)) > st5028.2.2.1) = true then Option.bind (ix st2940.2.2.1 (k5356 : Int)) fun p5484 => L.keep_Src_Plan.J16 k5356 st5408 (decide ((wr ((L.keep_abs p5484.2) + r4103.1)) ≤ (min 1000 x5359.Capacity))) else L.keep_Src_Plan.J16 k5356 st5408 false else L.keep_Src_Plan.J16 k5356 st5408 false
def L.keep_Src_Plan.J12 (n_1 : Network) (st2940 : (List Int) × Int × (List Int) × (List Int) × Int) (r4103 : Int × batchlinekeep_Src) (st5028 : (List Int) × Int × Int × (List Int) × Int) (j5256 : (List Int) × Int × Int) : Option (((List Int) × Int × Int × (List Int) × Int) ⊕ (((List Int) × Int × (List Int) × Int))) := if decide (j5256.2.2 ≥ 0) = true then some ((.inr ((j5256.1, j5256.2.1, st5028.2.2.2.1, j5256.2.2)))) else Option.bind (forS (L.keep_Src_Plan.B14 st2940 r4103 st5028) 0 n_1.Segments []) fun st5408 => L.keep_Src_Plan.J13 n_1 st5028 j5256 st5408
def L.keep_Src_Plan.J18 (j5566 : (List Int) × Int × Int) : Option ((List Int) × Int × Int) := some (j5566.1, j5566.2.1, j5566.2.2)
def L.keep_Src_Plan.J19 (k5490 : Nat) (st5529 : (List Int) × Int × Int) (j5578 : (List Int) × Int × Bool) : Option ((List Int) × Int × Int) := if j5578.2.2 = true then L.keep_Src_Plan.J18 (j5578.1, j5578.2.1, (k5490 : Int)) else L.keep_Src_Plan.J18 (j5578.1, j5578.2.1, st5529.2.2)
def L.keep_Src_Plan.B17 (st2940 : (List Int) × Int × (List Int) × (List Int) × Int) (r4095 : Int × batchlinekeep_Src) (r4103 : Int × batchlinekeep_Src) (st5028 : (List Int) × Int × Int × (List Int) × Int) (k5490 : Nat) (x5493 : Port) (st5529 : (List Int) × Int × Int) : Option ((List Int) × Int × Int) := if (x5493.Node == st5028.2.2.1) = true then if ((k5490 : Int) != r4095.1) = true then Option.bind (ix st2940.2.2.2.1 (k5490 : Int)) fun p5582 => if decide (p5582.2 ≤ 0) = true then if decide ((wr (p5582.2 - r4103.1)) ≥ (-1000)) = true then if decide ((st5028.2.2.2.1.length : Int) > 0) = true then Option.bind (L.keep_Src_N (⟨st5529.1, st5529.2.1⟩ : batchlinekeep_Src) 2) fun r5587 => L.keep_Src_Plan.J19 k5490 st5529 (r5587.2.L_, r5587.2.At, (r5587.1 == 0)) else L.keep_Src_Plan.J19 k5490 st5529 (st5529.1, st5529.2.1, false) else L.keep_Src_Plan.J19 k5490 st5529 (st5529.1, st5529.2.1, false) else L.keep_Src_Plan.J19 k5490 st5529 (st5529.1, st5529.2.1, false) else L.keep_Src_Plan.J19 k5490 st5529 (st5529.1, st5529.2.1, false) else L.keep_Src_Plan.J19 k5490 st5529 (st5529.1, st5529.2.1, false)
def L.keep_Src_Plan.B11 (n_1 : Network) (st2940 : (List Int) × Int × (List Int) × (List Int) × Int) (r4095 : Int × batchlinekeep_Src) (r4103 : Int × batchlinekeep_Src) (st5028 : (List Int) × Int × Int × (List Int) × Int) : Option (((List Int) × Int × Int × (List Int) × Int) ⊕ (((List Int) × Int × (List Int) × Int))) := if decide (st5028.2.2.2.2 < 0) = true then Option.bind (forS (L.keep_Src_Plan.B17 st2940 r4095 r4103 st5028) 0 n_1.Ports (st5028.1, st5028.2.1, st5028.2.2.2.2)) fun st5529 => L.keep_Src_Plan.J12 n_1 st2940 r4103 st5028 (st5529.1, st5529.2.1, st5529.2.2) else some ((.inr ((st5028.1, st5028.2.1, st5028.2.2.2.1, st5028.2.2.2.2))))
def L.keep_Src_Plan.J6 (n_1 : Network) (st2940 : (List Int) × Int × (List Int) × (List Int) × Int) (r4095 : Int × batchlinekeep_Src) (p4098 : Nat × Port) (r4103 : Int × batchlinekeep_Src) (j4109 : Bool) : Option (((List Int) × Int × (List Int) × (List Int) × Int) ⊕ (((List Int) × Int × (List Int) × (List Int)))) := if j4109 = true then L.keep_Src_Plan.J5 st2940 (r4103.2.L_, r4103.2.At, st2940.2.2.1, st2940.2.2.2.1) else Option.bind (loopN (L.keep_Src_Plan.B11 n_1 st2940 r4095 r4103) lots (r4103.2.L_, r4103.2.At, p4098.2.Node, [], (-1))) fun d5591 => L.keep_Src_Plan.J7 n_1 st2940 r4095 r4103 d5591
def L.keep_Src_Plan.B4 (n_1 : Network) (st2940 : (List Int) × Int × (List Int) × (List Int) × Int) : Option (((List Int) × Int × (List Int) × (List Int) × Int) ⊕ (((List Int) × Int × (List Int) × (List Int)))) := if decide (st2940.2.2.2.2 > 0) = true then Option.bind (L.keep_Src_N (⟨st2940.1, st2940.2.1⟩ : batchlinekeep_Src) (n_1.Ports.length : Int)) fun r4095 => Option.bind (ix n_1.Ports r4095.1) fun p4098 => Option.bind (L.keep_Src_Pick r4095.2 ([1, 5, 30, 300] : List Int)) fun r4101 => Option.bind (L.keep_Src_Range r4101.2 1 r4101.1) fun r4103 => Option.bind (ix st2940.2.2.2.1 r4095.1) fun p5592 => if decide (p5592.2 < 0) = true then L.keep_Src_Plan.J6 n_1 st2940 r4095 p4098 r4103 true else L.keep_Src_Plan.J6 n_1 st2940 r4095 p4098 r4103 (decide ((wr (p5592.2 + r4103.1)) > 1000)) else some ((.inr ((st2940.1, st2940.2.1, st2940.2.2.1, st2940.2.2.2.1))))
def L.keep_Src_Plan.J2 (n_1 : Network) (j13 : (List Int) × (List Int)) (j48 : (List Int) × Int × (List Bool)) : Option (Plan × batchlinekeep_Src) := Option.bind (L.keep_Src_N (⟨j48.1, j48.2.1⟩ : batchlinekeep_Src) 3) fun r51 => Option.bind (L.keep_Src_N r51.2 5) fun r1787 => Option.bind (loopN (L.keep_Src_Plan.B4 n_1) lots (r1787.2.L_, r1787.2.At, j13.1, j13.2, r1787.1)) fun d5595 => L.keep_Src_Plan.J3 j48 r51 d5595
def L.keep_Src_Plan.B20 (n_1 : Network) (st5617 : (List Int) × Int × (List Bool) × Int) : Option (((List Int) × Int × (List Bool) × Int) ⊕ (((List Int) × Int × (List Bool)))) := if decide (st5617.2.2.2 < (n_1.Stations.length : Int)) = true then Option.bind (L.keep_Src_N (⟨st5617.1, st5617.2.1⟩ : batchlinekeep_Src) 2) fun r5634 => Option.bind (app? st5617.2.2.1 ([(r5634.1 == 0)] : List Bool)) fun l5637 => some (.inl (r5634.2.L_, r5634.2.At, l5637, wr (st5617.2.2.2 + 1))) else some ((.inr ((st5617.1, st5617.2.1, st5617.2.2.1))))
def L.keep_Src_Plan.J1 (s_0 : batchlinekeep_Src) (n_1 : Network) (j13 : (List Int) × (List Int)) : Option (Plan × batchlinekeep_Src) := Option.bind (loopN (L.keep_Src_Plan.B20 n_1) lots (s_0.L_, s_0.At, [], 0)) fun d5640 => L.keep_Src_Plan.J2 n_1 j13 d5640
def L.keep_Src_Plan (s_0 : batchlinekeep_Src) (n_1 : Network) : Option (Plan × batchlinekeep_Src) := Option.bind (mk? (n_1.Segments.length : Int) (0 : Int)) fun l5641 => Option.bind (mk? (n_1.Ports.length : Int) (0 : Int)) fun l5645 => L.keep_Src_Plan.J1 s_0 n_1 (l5641, l5645)

end Go.Proofs.Ytndfiddakngjdaa
