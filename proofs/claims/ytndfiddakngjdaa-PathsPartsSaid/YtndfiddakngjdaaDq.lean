/- Pure functions for functions of the program; printed by a program of ours. No condition. -/
import Derived.Test.YtndfiddakngjdaaDp
import Derived.Test.YtndfiddakngjdaaD6
import Derived.Test.YtndfiddakngjdaaBwMap
namespace Go.Proofs.Ytndfiddakngjdaa
open Go.Aw
set_option linter.unusedVariables false
set_option linter.unusedSimpArgs false



/-- slices.IndexFunc[[]api.Path,api.Path] -/
def L.slices_IndexFunc_api_Path_api_Path.J1 (j24 : Unit) : Option Int := some (-1)
def L.slices_IndexFunc_api_Path_api_Path.B2 (g1 : Path → Option Bool) (k26 : Nat) (x29 : Path) (st38 : Unit) : Option (Unit ⊕ (Int)) := Option.bind (g1 x29) fun r53 => if r53 = true then some ((.inr ((k26 : Int)))) else some (.inl ())
def L.slices_IndexFunc_api_Path_api_Path (s_0 : List Path) (g1 : Path → Option Bool) : Option Int := Option.bind (forL (L.slices_IndexFunc_api_Path_api_Path.B2 g1) 0 s_0 ()) fun o45 => Sum.elim (fun st38 => L.slices_IndexFunc_api_Path_api_Path.J1 ()) (fun d58 => some d58) o45

/-- slices.ContainsFunc[[]api.Path,api.Path] -/
def L.slices_ContainsFunc_api_Path_api_Path (s_0 : List Path) (g1 : Path → Option Bool) : Option Bool := Option.bind (L.slices_IndexFunc_api_Path_api_Path s_0 g1) fun r1 => some (decide (r1 ≥ 0))

/-- slices.Contains[[]int,int] -/
def L.slices_Contains_int_int (s_0 : List Int) (v_1 : Int) : Option Bool := Option.bind (L.slices_Index_int_int s_0 v_1) fun r1 => some (decide (r1 ≥ 0))

/-- paths.valid$1 -/
def L.paths_valid_1 (i_0 : Int) (a_1 : Network) : Bool := (decide (i_0 ≥ 0) && decide (i_0 < (a_1.Ports.length : Int)))

/-- paths.ends -/
def L.paths_ends (n_0 : Network) (h_1 : Hop) : Option (Int × Int) := Option.bind (ix n_0.Segments h_1.Segment) fun p5 => if h_1.Back = true then some (p5.2.To, p5.2.From) else some (p5.2.From, p5.2.To)

/-- paths.valid -/
def L.paths_valid.J1 (n_0 : Network) (p_1 : Path) (j99 : Int) : Option Bool := Option.bind (ix n_0.Ports p_1.Out) fun p100 => some (j99 == p100.2.Node)
def L.paths_valid.J3 (st153 : Int × (List Int)) (r191 : Int × Int) (j196 : Bool) : Option ((Int × (List Int)) ⊕ (Bool)) := if j196 = true then some ((.inr (false))) else Option.bind (app? st153.2 ([r191.2] : List Int)) fun l199 => some (.inl (r191.2, l199))
def L.paths_valid.B2 (n_0 : Network) (k103 : Nat) (x106 : Hop) (st153 : Int × (List Int)) : Option ((Int × (List Int)) ⊕ (Bool)) := if (decide (x106.Segment < 0) || decide (x106.Segment ≥ (n_0.Segments.length : Int))) = true then some ((.inr (false))) else Option.bind (L.paths_ends n_0 x106) fun r191 => if (r191.1 != st153.1) = true then L.paths_valid.J3 st153 r191 true else Option.bind (L.slices_Contains_int_int st153.2 r191.2) fun r203 => L.paths_valid.J3 st153 r191 r203
def L.paths_valid (n_0 : Network) (p_1 : Path) : Option Bool := if ((!(L.paths_valid_1 p_1.In n_0)) || ((!(L.paths_valid_1 p_1.Out n_0)) || ((p_1.In == p_1.Out) || (decide (p_1.Rate < 1) || (decide (p_1.Rate > 1000) || decide ((p_1.Hops.length : Int) > 32)))))) = true then some false else Option.bind (ix n_0.Ports p_1.In) fun p19 => Option.bind (forL (L.paths_valid.B2 n_0) 0 p_1.Hops (p19.2.Node, ([p19.2.Node] : List Int))) fun o176 => Sum.elim (fun st153 => L.paths_valid.J1 n_0 p_1 st153.1) (fun d207 => some d207) o176

/-- paths.opposed -/
def L.paths_opposed.J1 (j144 : Unit) : Option Bool := some false
def L.paths_opposed.J3 (j330 : List (Int × Bool)) : Option ((List (Int × Bool)) ⊕ (Bool)) := some (.inl j330)
def L.paths_opposed.B4 (k334 : Nat) (x337 : Hop) (st359 : List (Int × Bool)) : Option ((List (Int × Bool)) ⊕ (Bool)) := if ((mget st359 x337.Segment).isSome && (((mget st359 x337.Segment).getD false) != x337.Back)) = true then some ((.inr (true))) else some (.inl (mput st359 x337.Segment x337.Back))
def L.paths_opposed.B2 (k146 : Nat) (x149 : Path) (st239 : List (Int × Bool)) : Option ((List (Int × Bool)) ⊕ (Bool)) := Option.bind (forL L.paths_opposed.B4 0 x149.Hops st239) fun o369 => Sum.elim (fun st359 => L.paths_opposed.J3 st359) (fun d385 => some ((.inr (d385)))) o369
def L.paths_opposed (l_0 : List Path) : Option Bool := Option.bind (forL L.paths_opposed.B2 0 l_0 ([] : List (Int × Bool))) fun o283 => Sum.elim (fun st239 => L.paths_opposed.J1 ()) (fun d388 => some d388) o283

/-- slices.Clone[[]bool,bool] -/
def L.slices_Clone_bool_bool (s0 : List Bool) : Option (List Bool) := app? [] s0

/-- paths.Grow -/
def L.paths_Grow.B1 (rate_2 : Int) (k14 : Nat) (x17 : Hop) (st37 : List Int) : Option (List Int) := Option.bind (ix st37 x17.Segment) fun p55 => some (st37.set p55.1 (wr (p55.2 + (L.paths_signed x17 rate_2))))
def L.paths_Grow (p_0 : Plan) (x_1 : Path) (rate_2 : Int) : Option Plan := Option.bind (ix p_0.Ports x_1.In) fun p4 => Option.bind (ix (p_0.Ports.set p4.1 (wr (p4.2 + rate_2))) x_1.Out) fun p9 => Option.bind (forS (L.paths_Grow.B1 rate_2) 0 x_1.Hops p_0.Rates) fun st37 => some (⟨st37, ((p_0.Ports.set p4.1 (wr (p4.2 + rate_2))).set p9.1 (wr (p9.2 - rate_2))), p_0.Pumps⟩ : Plan)

/-- paths.Sum$1 -/
def L.paths_Sum_1 (p_0 : Path) (a_1 : Network) : Option Bool := Option.bind (L.paths_valid a_1 p_0) fun r2 => some (!r2)

/-- paths.Sum -/
def L.paths_Sum.J3 (n_0 : Network) (j72 : (List Int) × (List Int) × (List Bool)) : Option (Plan × Int) := Option.bind (L.flow_Check n_0 (⟨j72.1, j72.2.1, j72.2.2⟩ : Plan)) fun r75 => if (r75 != 0) = true then some ((⟨[], [], []⟩ : Plan), r75) else some ((⟨j72.1, j72.2.1, j72.2.2⟩ : Plan), 0)
def L.paths_Sum.B4 (k79 : Nat) (x82 : Path) (st102 : (List Int) × (List Int) × (List Bool)) : Option ((List Int) × (List Int) × (List Bool)) := Option.bind (L.paths_Grow (⟨st102.1, st102.2.1, st102.2.2⟩ : Plan) x82 x82.Rate) fun r120 => some (r120.Rates, r120.Ports, r120.Pumps)
def L.paths_Sum.J2 (n_0 : Network) (l_1 : List Path) (j31 : (List Int) × (List Int) × (List Bool)) : Option (Plan × Int) := Option.bind (forS L.paths_Sum.B4 0 l_1 (j31.1, j31.2.1, j31.2.2)) fun st102 => L.paths_Sum.J3 n_0 (st102.1, st102.2.1, st102.2.2)
def L.paths_Sum.J1 (n_0 : Network) (l_1 : List Path) (pumps_2 : List Bool) (j15 : Bool) : Option (Plan × Int) := if j15 = true then some ((⟨[], [], []⟩ : Plan), 23) else if ((pumps_2.length : Int) != (n_0.Stations.length : Int)) = true then some ((⟨[], [], []⟩ : Plan), 9) else Option.bind (mk? (n_0.Segments.length : Int) (0 : Int)) fun l126 => Option.bind (mk? (n_0.Ports.length : Int) (0 : Int)) fun l130 => Option.bind (L.slices_Clone_bool_bool pumps_2) fun r134 => L.paths_Sum.J2 n_0 l_1 (l126, l130, r134)
def L.paths_Sum (n_0 : Network) (l_1 : List Path) (pumps_2 : List Bool) : Option (Plan × Int) := Option.bind (L.network_Check n_0) fun r5 => if (r5 != 0) = true then some ((⟨[], [], []⟩ : Plan), r5) else if decide ((l_1.length : Int) > 64) = true then L.paths_Sum.J1 n_0 l_1 pumps_2 true else Option.bind (L.slices_ContainsFunc_api_Path_api_Path l_1 (fun x => L.paths_Sum_1 x n_0)) fun r139 => if r139 = true then L.paths_Sum.J1 n_0 l_1 pumps_2 true else Option.bind (L.paths_opposed l_1) fun r142 => L.paths_Sum.J1 n_0 l_1 pumps_2 r142

/-- batchlineref23.SameInts -/
def L.ref23_SameInts.J1 (j30 : Unit) : Option Bool := some true
def L.ref23_SameInts.B2 (a_0 : List Int) (b_1 : List Int) (st49 : Int) : Option (Int ⊕ (Bool ⊕ Unit)) := if decide (st49 < (a_0.length : Int)) = true then Option.bind (ix a_0 st49) fun p64 => Option.bind (ix b_1 st49) fun p66 => if (p64.2 != p66.2) = true then some ((.inr (.inl (false)))) else some (.inl (wr (st49 + 1))) else some ((.inr (.inr (()))))
def L.ref23_SameInts (a_0 : List Int) (b_1 : List Int) : Option Bool := if ((a_0.length : Int) != (b_1.length : Int)) = true then some false else Option.bind (loopN (L.ref23_SameInts.B2 a_0 b_1) lots 0) fun o57 => Sum.elim (fun d69 => some d69) (fun d70 => L.ref23_SameInts.J1 d70) o57

/-- batchlineref23.SameBools -/
def L.ref23_SameBools.J1 (j30 : Unit) : Option Bool := some true
def L.ref23_SameBools.B2 (a_0 : List Bool) (b_1 : List Bool) (st49 : Int) : Option (Int ⊕ (Bool ⊕ Unit)) := if decide (st49 < (a_0.length : Int)) = true then Option.bind (ix a_0 st49) fun p64 => Option.bind (ix b_1 st49) fun p66 => if (p64.2 != p66.2) = true then some ((.inr (.inl (false)))) else some (.inl (wr (st49 + 1))) else some ((.inr (.inr (()))))
def L.ref23_SameBools (a_0 : List Bool) (b_1 : List Bool) : Option Bool := if ((a_0.length : Int) != (b_1.length : Int)) = true then some false else Option.bind (loopN (L.ref23_SameBools.B2 a_0 b_1) lots 0) fun o57 => Sum.elim (fun d69 => some d69) (fun d70 => L.ref23_SameBools.J1 d70) o57

/-- batchlineref25.SamePlan -/
def L.ref25_SamePlan.J1 (j12 : Bool) : Option Bool := some j12
def L.ref25_SamePlan (a_0 : Plan) (b_1 : Plan) : Option Bool := Option.bind (L.ref23_SameInts a_0.Rates b_1.Rates) fun r13 => if r13 = true then Option.bind (L.ref23_SameInts a_0.Ports b_1.Ports) fun r16 => if r16 = true then Option.bind (L.ref23_SameBools a_0.Pumps b_1.Pumps) fun r19 => L.ref25_SamePlan.J1 r19 else L.ref25_SamePlan.J1 false else L.ref25_SamePlan.J1 false

/-- batchlineref25.Copy -/
def L.ref25_Copy (p_0 : Path) : Option Path := Option.bind (app? ([] : List Hop) p_0.Hops) fun l4 => some (⟨p_0.In, p_0.Out, l4, p_0.Rate⟩ : Path)

/-- paths.Valid -/
def L.paths_Valid.J1 (j8 : Bool) : Option Bool := some j8
def L.paths_Valid (n_0 : Network) (p_1 : Path) : Option Bool := Option.bind (L.network_Check n_0) fun r9 => if (r9 == 0) = true then Option.bind (L.paths_valid n_0 p_1) fun r12 => L.paths_Valid.J1 r12 else L.paths_Valid.J1 false

/-- batchlineref25.Alike -/
def L.ref25_Alike.J1 (j37 : Unit) : Option Bool := some true
def L.ref25_Alike.B2 (a_0 : Path) (b_1 : Path) (st56 : Int) : Option (Int ⊕ (Bool ⊕ Unit)) := if decide (st56 < (a_0.Hops.length : Int)) = true then Option.bind (ix a_0.Hops st56) fun p71 => Option.bind (ix b_1.Hops st56) fun p73 => if (!((p71.2.Segment == p73.2.Segment) && ((p71.2.Back == p73.2.Back) && true))) = true then some ((.inr (.inl (false)))) else some (.inl (wr (st56 + 1))) else some ((.inr (.inr (()))))
def L.ref25_Alike (a_0 : Path) (b_1 : Path) : Option Bool := if ((a_0.In != b_1.In) || ((a_0.Out != b_1.Out) || ((a_0.Hops.length : Int) != (b_1.Hops.length : Int)))) = true then some false else Option.bind (loopN (L.ref25_Alike.B2 a_0 b_1) lots 0) fun o64 => Sum.elim (fun d76 => some d76) (fun d77 => L.ref25_Alike.J1 d77) o64

/-- batchlinelaw25.PathsSum -/
def L.law25_PathsSum.J2 (j141 : Unit) : Option Bool := Option.bind (L.law25_awake) fun r142 => some r142
def L.law25_PathsSum.J4 (st216 : Int) (j291 : Unit) : Option (Int ⊕ (Bool ⊕ Unit)) := some (.inl (wr (st216 + 1)))
def L.law25_PathsSum.B5 (r19 : (List Path) × Int) (st216 : Int) (p293 : Nat × Path) (st316 : Int) : Option (Int ⊕ (Bool ⊕ Unit)) := if decide (st316 < st216) = true then Option.bind (ix r19.1 st316) fun p331 => Option.bind (L.ref25_Alike p293.2 p331.2) fun r333 => if r333 = true then some ((.inr (.inl (false)))) else some (.inl (wr (st316 + 1))) else some ((.inr (.inr (()))))
def L.law25_PathsSum.B3 (r11 : Network × batchlinekeep_Src) (r19 : (List Path) × Int) (st216 : Int) : Option (Int ⊕ (Bool ⊕ Unit)) := if decide (st216 < (r19.1.length : Int)) = true then Option.bind (ix r19.1 st216) fun p293 => Option.bind (L.paths_Valid r11.1 p293.2) fun r295 => if (!r295) = true then some ((.inr (.inl (false)))) else Option.bind (loopN (L.law25_PathsSum.B5 r19 st216 p293) lots 0) fun o324 => Sum.elim (fun d336 => some ((.inr (.inl (d336))))) (fun d337 => L.law25_PathsSum.J4 st216 d337) o324 else some ((.inr (.inr (()))))
def L.law25_PathsSum.J1 (r11 : Network × batchlinekeep_Src) (r19 : (List Path) × Int) (j31 : Bool) : Option Bool := if j31 = true then some false else Option.bind (loopN (L.law25_PathsSum.B3 r11 r19) lots 0) fun o252 => Sum.elim (fun d338 => some d338) (fun d339 => L.law25_PathsSum.J2 d339) o252
def L.law25_PathsSum (l_0 : List Int) : Option Bool := if (!(L.second_Few l_0)) = true then Option.bind (L.law25_awake) fun r4 => some r4 else Option.bind (L.keep_New l_0) fun r7 => Option.bind (L.keep_Src_Network r7) fun r11 => Option.bind (L.keep_Src_Plan r11.2 r11.1) fun r15 => Option.bind (L.paths_Divide r11.1 r15.1) fun r19 => Option.bind (L.paths_Sum r11.1 r19.1 r15.1.Pumps) fun r23 => if (r19.2 != 0) = true then L.law25_PathsSum.J1 r11 r19 true else if (r23.2 != 0) = true then L.law25_PathsSum.J1 r11 r19 true else Option.bind (L.ref25_SamePlan r15.1 r23.1) fun r342 => L.law25_PathsSum.J1 r11 r19 (!r342)

/-- batchlinelaw25.PathsAdded -/
def L.law25_PathsAdded.J3 (j228 : Unit) : Option Bool := Option.bind (L.law25_awake) fun r229 => some r229
def L.law25_PathsAdded.B4 (r15 : Plan × batchlinekeep_Src) (r141 : Plan × Int) (r145 : Plan × Int) (st253 : Int) : Option (Int ⊕ (Bool ⊕ Unit)) := if decide (st253 < (r15.1.Ports.length : Int)) = true then Option.bind (ix r141.1.Ports st253) fun p270 => Option.bind (ix r145.1.Ports st253) fun p272 => Option.bind (ix r15.1.Ports st253) fun p274 => if ((wr (p270.2 + p272.2)) != p274.2) = true then some ((.inr (.inl (false)))) else some (.inl (wr (st253 + 1))) else some ((.inr (.inr (()))))
def L.law25_PathsAdded.J2 (r15 : Plan × batchlinekeep_Src) (r141 : Plan × Int) (r145 : Plan × Int) (j195 : Unit) : Option Bool := Option.bind (loopN (L.law25_PathsAdded.B4 r15 r141 r145) lots 0) fun o263 => Sum.elim (fun d277 => some d277) (fun d278 => L.law25_PathsAdded.J3 d278) o263
def L.law25_PathsAdded.B5 (r15 : Plan × batchlinekeep_Src) (r141 : Plan × Int) (r145 : Plan × Int) (st301 : Int) : Option (Int ⊕ (Bool ⊕ Unit)) := if decide (st301 < (r15.1.Rates.length : Int)) = true then Option.bind (ix r141.1.Rates st301) fun p318 => Option.bind (ix r145.1.Rates st301) fun p320 => Option.bind (ix r15.1.Rates st301) fun p322 => if ((wr (p318.2 + p320.2)) != p322.2) = true then some ((.inr (.inl (false)))) else some (.inl (wr (st301 + 1))) else some ((.inr (.inr (()))))
def L.law25_PathsAdded.J1 (r11 : Network × batchlinekeep_Src) (r15 : Plan × batchlinekeep_Src) (r19 : (List Path) × Int) (j137 : (List Path) × (List Path)) : Option Bool := Option.bind (L.paths_Sum r11.1 j137.1 r15.1.Pumps) fun r141 => Option.bind (L.paths_Sum r11.1 j137.2 r15.1.Pumps) fun r145 => if ((r19.2 != 0) || ((r141.2 != 0) || ((r145.2 != 0) || (((r141.1.Rates.length : Int) != (r15.1.Rates.length : Int)) || (((r145.1.Rates.length : Int) != (r15.1.Rates.length : Int)) || (((r141.1.Ports.length : Int) != (r15.1.Ports.length : Int)) || ((r145.1.Ports.length : Int) != (r15.1.Ports.length : Int)))))))) = true then some false else Option.bind (loopN (L.law25_PathsAdded.B5 r15 r141 r145) lots 0) fun o311 => Sum.elim (fun d325 => some d325) (fun d326 => L.law25_PathsAdded.J2 r15 r141 r145 d326) o311
def L.law25_PathsAdded.J7 (st403 : (List Int) × Int × (List Path) × (List Path) × Int) (j478 : (List Int) × Int × (List Path) × (List Path)) : Option (((List Int) × Int × (List Path) × (List Path) × Int) ⊕ (((List Path) × (List Path)))) := some (.inl (j478.1, j478.2.1, j478.2.2.1, j478.2.2.2, wr (st403.2.2.2.2 + 1)))
def L.law25_PathsAdded.J9 (st403 : (List Int) × Int × (List Path) × (List Path) × Int) (p482 : Nat × Path) (r484 : Int × batchlinekeep_Src) (j494 : Int × Int × (List Hop) × Int × Int × Int × (List Hop) × Int) (j504 : List Path) : Option (((List Int) × Int × (List Path) × (List Path) × Int) ⊕ (((List Path) × (List Path)))) := if decide ((wr (p482.2.Rate - r484.1)) > 0) = true then Option.bind (app? st403.2.2.2.1 ([(⟨j494.2.2.2.2.1, j494.2.2.2.2.2.1, j494.2.2.2.2.2.2.1, wr (p482.2.Rate - r484.1)⟩ : Path)] : List Path)) fun l508 => L.law25_PathsAdded.J7 st403 (r484.2.L_, r484.2.At, j504, l508) else L.law25_PathsAdded.J7 st403 (r484.2.L_, r484.2.At, j504, st403.2.2.2.1)
def L.law25_PathsAdded.J8 (st403 : (List Int) × Int × (List Path) × (List Path) × Int) (p482 : Nat × Path) (r484 : Int × batchlinekeep_Src) (j494 : Int × Int × (List Hop) × Int × Int × Int × (List Hop) × Int) : Option (((List Int) × Int × (List Path) × (List Path) × Int) ⊕ (((List Path) × (List Path)))) := if decide (r484.1 > 0) = true then Option.bind (app? st403.2.2.1 ([(⟨j494.1, j494.2.1, j494.2.2.1, r484.1⟩ : Path)] : List Path)) fun l513 => L.law25_PathsAdded.J9 st403 p482 r484 j494 l513 else L.law25_PathsAdded.J9 st403 p482 r484 j494 st403.2.2.1
def L.law25_PathsAdded.B6 (r19 : (List Path) × Int) (st403 : (List Int) × Int × (List Path) × (List Path) × Int) : Option (((List Int) × Int × (List Path) × (List Path) × Int) ⊕ (((List Path) × (List Path)))) := if decide (st403.2.2.2.2 < (r19.1.length : Int)) = true then Option.bind (ix r19.1 st403.2.2.2.2) fun p482 => Option.bind (L.keep_Src_N (⟨st403.1, st403.2.1⟩ : batchlinekeep_Src) (wr (p482.2.Rate + 1))) fun r484 => Option.bind (L.ref25_Copy p482.2) fun r516 => Option.bind (L.ref25_Copy p482.2) fun r518 => L.law25_PathsAdded.J8 st403 p482 r484 (r516.In, r516.Out, r516.Hops, r516.Rate, r518.In, r518.Out, r518.Hops, r518.Rate) else some ((.inr ((st403.2.2.1, st403.2.2.2.1))))
def L.law25_PathsAdded (l_0 : List Int) : Option Bool := if (!(L.second_Few l_0)) = true then Option.bind (L.law25_awake) fun r4 => some r4 else Option.bind (L.keep_New l_0) fun r7 => Option.bind (L.keep_Src_Network r7) fun r11 => Option.bind (L.keep_Src_Plan r11.2 r11.1) fun r15 => Option.bind (L.paths_Divide r11.1 r15.1) fun r19 => Option.bind (loopN (L.law25_PathsAdded.B6 r19) lots (r15.2.L_, r15.2.At, [], [], 0)) fun d524 => L.law25_PathsAdded.J1 r11 r15 r19 d524

/-- slices.Equal[[]api.Hop,api.Hop] -/
def L.slices_Equal_api_Hop_api_Hop.J1 (j26 : Unit) : Option Bool := some true
def L.slices_Equal_api_Hop_api_Hop.B2 (s2_1 : List Hop) (k28 : Nat) (x31 : Hop) (st40 : Unit) : Option (Unit ⊕ (Bool)) := Option.bind (ix s2_1 (k28 : Int)) fun p55 => if (!((x31.Segment == p55.2.Segment) && ((x31.Back == p55.2.Back) && true))) = true then some ((.inr (false))) else some (.inl ())
def L.slices_Equal_api_Hop_api_Hop (s1_0 : List Hop) (s2_1 : List Hop) : Option Bool := if ((s1_0.length : Int) != (s2_1.length : Int)) = true then some false else Option.bind (forL (L.slices_Equal_api_Hop_api_Hop.B2 s2_1) 0 s1_0 ()) fun o47 => Sum.elim (fun st40 => L.slices_Equal_api_Hop_api_Hop.J1 ()) (fun d60 => some d60) o47

/-- paths.Alike -/
def L.paths_Alike.J1 (j8 : Bool) : Option Bool := some j8
def L.paths_Alike (a_0 : Path) (b_1 : Path) : Option Bool := if (a_0.In == b_1.In) = true then if (a_0.Out == b_1.Out) = true then Option.bind (L.slices_Equal_api_Hop_api_Hop a_0.Hops b_1.Hops) fun r11 => L.paths_Alike.J1 r11 else L.paths_Alike.J1 false else L.paths_Alike.J1 false

/-- paths.Find$1 -/
def L.paths_Find_1 (x_0 : Path) (a_1 : Path) : Option Bool := Option.bind (L.paths_Alike x_0 a_1) fun r2 => some r2

/-- paths.Find -/
def L.paths_Find (l_0 : List Path) (p_1 : Path) : Option Int := Option.bind (L.slices_IndexFunc_api_Path_api_Path l_0 (fun x => L.paths_Find_1 x p_1)) fun r2 => some r2

/-- paths.Common -/
def L.paths_Common.J1 (j73 : List Path) : Option (List Path) := some j73
def L.paths_Common.J3 (j165 : List Path) : Option (List Path) := some j165
def L.paths_Common.B2 (b_1 : List Path) (k76 : Nat) (x79 : Path) (st122 : List Path) : Option (List Path) := Option.bind (L.paths_Find b_1 x79) fun r170 => if decide (r170 ≥ 0) = true then Option.bind (ix b_1 r170) fun p174 => Option.bind (L.paths_with x79 (min x79.Rate p174.2.Rate)) fun r176 => Option.bind (app? st122 ([r176] : List Path)) fun l179 => L.paths_Common.J3 l179 else L.paths_Common.J3 st122
def L.paths_Common (a_0 : List Path) (b_1 : List Path) : Option (List Path) := Option.bind (forS (L.paths_Common.B2 b_1) 0 a_0 []) fun st122 => L.paths_Common.J1 st122

/-- paths.Less -/
def L.paths_Less.J2 (j114 : List Path) : Option ((List Path) × Bool) := some (j114, true)
def L.paths_Less.J4 (j214 : List Path) : Option (List Path) := some j214
def L.paths_Less.J5 (x120 : Path) (st167 : List Path) (j225 : Int) : Option (List Path) := if (j225 != 0) = true then Option.bind (L.paths_with x120 j225) fun r227 => Option.bind (app? st167 ([r227] : List Path)) fun l230 => L.paths_Less.J4 l230 else L.paths_Less.J4 st167
def L.paths_Less.B3 (b_1 : List Path) (k117 : Nat) (x120 : Path) (st167 : List Path) : Option (List Path) := Option.bind (L.paths_Find b_1 x120) fun r234 => if decide (r234 ≥ 0) = true then Option.bind (ix b_1 r234) fun p237 => L.paths_Less.J5 x120 st167 (wr (x120.Rate - p237.2.Rate)) else L.paths_Less.J5 x120 st167 x120.Rate
def L.paths_Less.J1 (a_0 : List Path) (b_1 : List Path) (j36 : Unit) : Option ((List Path) × Bool) := Option.bind (forS (L.paths_Less.B3 b_1) 0 a_0 []) fun st167 => L.paths_Less.J2 st167
def L.paths_Less.J7 (j288 : Bool) : Option (Unit ⊕ (((List Path) × Bool))) := if j288 = true then some ((.inr (([], false)))) else some (.inl ())
def L.paths_Less.B6 (a_0 : List Path) (k242 : Nat) (x245 : Path) (st260 : Unit) : Option (Unit ⊕ (((List Path) × Bool))) := Option.bind (L.paths_Find a_0 x245) fun r283 => if decide (r283 < 0) = true then L.paths_Less.J7 true else Option.bind (ix a_0 r283) fun p291 => L.paths_Less.J7 (decide (p291.2.Rate < x245.Rate))
def L.paths_Less (a_0 : List Path) (b_1 : List Path) : Option ((List Path) × Bool) := Option.bind (forL (L.paths_Less.B6 a_0) 0 b_1 ()) fun o273 => Sum.elim (fun st260 => L.paths_Less.J1 a_0 b_1 ()) (fun d295 => some d295) o273

/-- batchlineref25.Same -/
def L.ref25_Same.J1 (j42 : Unit) : Option Bool := some true
def L.ref25_Same.J3 (st69 : Int) (j95 : Bool) : Option (Int ⊕ (Bool ⊕ Unit)) := if j95 = true then some ((.inr (.inl (false)))) else some (.inl (wr (st69 + 1)))
def L.ref25_Same.B2 (a_0 : List Path) (b_1 : List Path) (st69 : Int) : Option (Int ⊕ (Bool ⊕ Unit)) := if decide (st69 < (a_0.length : Int)) = true then Option.bind (ix a_0 st69) fun p97 => Option.bind (ix b_1 st69) fun p99 => Option.bind (L.ref25_Alike p97.2 p99.2) fun r101 => if (!r101) = true then L.ref25_Same.J3 st69 true else L.ref25_Same.J3 st69 (p97.2.Rate != p99.2.Rate) else some ((.inr (.inr (()))))
def L.ref25_Same (a_0 : List Path) (b_1 : List Path) : Option Bool := if ((a_0.length : Int) != (b_1.length : Int)) = true then some false else Option.bind (loopN (L.ref25_Same.B2 a_0 b_1) lots 0) fun o81 => Sum.elim (fun d104 => some d104) (fun d105 => L.ref25_Same.J1 d105) o81

/-- batchlinelaw25.PathsParts -/
def L.law25_PathsParts.J5 (j157 : Bool) : Option Bool := some j157
def L.law25_PathsParts.J4 (r15 : Plan × batchlinekeep_Src) (j86 : List Path) (r132 : List Path) (r136 : (List Path) × Bool) (j145 : (List Int) × (List Int) × (List Bool) × Int) : Option Bool := if r136.2 = true then Option.bind (L.ref25_Same r132 j86) fun r159 => if r159 = true then if (j145.2.2.2 == 0) = true then Option.bind (L.ref25_SamePlan (⟨j145.1, j145.2.1, j145.2.2.1⟩ : Plan) r15.1) fun r163 => if r163 = true then Option.bind (L.law25_awake) fun r166 => L.law25_PathsParts.J5 r166 else L.law25_PathsParts.J5 false else L.law25_PathsParts.J5 false else L.law25_PathsParts.J5 false else L.law25_PathsParts.J5 false
def L.law25_PathsParts.J3 (r11 : Network × batchlinekeep_Src) (r15 : Plan × batchlinekeep_Src) (r19 : (List Path) × Int) (j86 : List Path) (j130 : Unit) : Option Bool := Option.bind (L.paths_Common r19.1 j86) fun r132 => Option.bind (L.paths_Less r19.1 j86) fun r136 => Option.bind (app? r136.1 j86) fun l168 => Option.bind (L.paths_Sum r11.1 l168 r15.1.Pumps) fun r171 => L.law25_PathsParts.J4 r15 j86 r132 r136 (r171.1.Rates, r171.1.Ports, r171.1.Pumps, r171.2)
def L.law25_PathsParts.J7 (st196 : Int) (j218 : Bool) : Option (Int ⊕ (Bool ⊕ Unit)) := if j218 = true then some ((.inr (.inl (false)))) else some (.inl (wr (st196 + 1)))
def L.law25_PathsParts.B6 (r15 : Plan × batchlinekeep_Src) (r89 : Plan × Int) (st196 : Int) : Option (Int ⊕ (Bool ⊕ Unit)) := if decide (st196 < (r89.1.Rates.length : Int)) = true then Option.bind (ix r89.1.Rates st196) fun p220 => Option.bind (ix r15.1.Rates st196) fun p222 => if decide ((wr (p220.2 * p222.2)) < 0) = true then L.law25_PathsParts.J7 st196 true else L.law25_PathsParts.J7 st196 (decide ((max p220.2 (wr (0 - p220.2))) > (max p222.2 (wr (0 - p222.2))))) else some ((.inr (.inr (()))))
def L.law25_PathsParts.J2 (r11 : Network × batchlinekeep_Src) (r15 : Plan × batchlinekeep_Src) (r19 : (List Path) × Int) (j86 : List Path) (r89 : Plan × Int) (j96 : Bool) : Option Bool := if j96 = true then some false else Option.bind (loopN (L.law25_PathsParts.B6 r15 r89) lots 0) fun o206 => Sum.elim (fun d225 => some d225) (fun d226 => L.law25_PathsParts.J3 r11 r15 r19 j86 d226) o206
def L.law25_PathsParts.J1 (r11 : Network × batchlinekeep_Src) (r15 : Plan × batchlinekeep_Src) (r19 : (List Path) × Int) (j86 : List Path) : Option Bool := Option.bind (L.paths_Sum r11.1 j86 r15.1.Pumps) fun r89 => if (r89.2 != 0) = true then L.law25_PathsParts.J2 r11 r15 r19 j86 r89 true else Option.bind (L.ref16_Check r11.1 r89.1) fun r228 => L.law25_PathsParts.J2 r11 r15 r19 j86 r89 (r228 != 0)
def L.law25_PathsParts.J9 (st271 : (List Int) × Int × (List Path) × Int) (j312 : (List Int) × Int × (List Path)) : Option (((List Int) × Int × (List Path) × Int) ⊕ ((List Path))) := some (.inl (j312.1, j312.2.1, j312.2.2, wr (st271.2.2.2 + 1)))
def L.law25_PathsParts.B8 (r19 : (List Path) × Int) (st271 : (List Int) × Int × (List Path) × Int) : Option (((List Int) × Int × (List Path) × Int) ⊕ ((List Path))) := if decide (st271.2.2.2 < (r19.1.length : Int)) = true then Option.bind (ix r19.1 st271.2.2.2) fun p315 => Option.bind (L.keep_Src_N (⟨st271.1, st271.2.1⟩ : batchlinekeep_Src) (wr (p315.2.Rate + 1))) fun r317 => if decide (r317.1 > 0) = true then Option.bind (L.ref25_Copy p315.2) fun r321 => Option.bind (app? st271.2.2.1 ([(⟨r321.In, r321.Out, r321.Hops, r317.1⟩ : Path)] : List Path)) fun l325 => L.law25_PathsParts.J9 st271 (r317.2.L_, r317.2.At, l325) else L.law25_PathsParts.J9 st271 (r317.2.L_, r317.2.At, st271.2.2.1) else some ((.inr (st271.2.2.1)))
def L.law25_PathsParts (l_0 : List Int) : Option Bool := if (!(L.second_Few l_0)) = true then Option.bind (L.law25_awake) fun r4 => some r4 else Option.bind (L.keep_New l_0) fun r7 => Option.bind (L.keep_Src_Network r7) fun r11 => Option.bind (L.keep_Src_Plan r11.2 r11.1) fun r15 => Option.bind (L.paths_Divide r11.1 r15.1) fun r19 => if (r19.2 != 0) = true then some false else Option.bind (loopN (L.law25_PathsParts.B8 r19) lots (r15.2.L_, r15.2.At, [], 0)) fun d328 => L.law25_PathsParts.J1 r11 r15 r19 d328

end Go.Proofs.Ytndfiddakngjdaa
