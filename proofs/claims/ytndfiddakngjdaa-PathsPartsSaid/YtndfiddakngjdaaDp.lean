/- Pure functions for functions of the program; printed by a program of ours. No condition. -/
import Derived.Test.YtndfiddakngjdaaD
namespace Go.Proofs.Ytndfiddakngjdaa
open Go.Aw
set_option linter.unusedVariables false
set_option linter.unusedSimpArgs false

structure paths_divider where
  n_ : Network
  rates : List Int
  ports : List Int
  deriving DecidableEq
def paths_divider.row (x : paths_divider) : List T := [.list 1 (x.n_.Nodes.map rS), .list 7 (x.n_.Segments.map Segment.row), .list 3 (x.n_.Ports.map Port.row), .list 5 (x.n_.Stations.map Station.row), .v (.int .i64 x.n_.Vapour), .v (.int .i64 x.n_.Settle), .list 1 (x.rates.map rI), .list 1 (x.ports.map rI)]
structure Hop where
  Segment : Int
  Back : Bool
  deriving DecidableEq
def Hop.row (x : Hop) : List T := [.v (.int .i64 x.Segment), .v (.bool x.Back)]
structure Path where
  In : Int
  Out : Int
  Hops : List Hop
  Rate : Int
  deriving DecidableEq
def Path.row (x : Path) : List T := [.v (.int .i64 x.In), .v (.int .i64 x.Out), .list 2 (x.Hops.map Hop.row), .v (.int .i64 x.Rate)]

/-- slices.Clone[[]int,int] -/
def L.slices_Clone_int_int (s0 : List Int) : Option (List Int) := app? [] s0

/-- paths.signed -/
def L.paths_signed (h_0 : Hop) (rate_1 : Int) : Int := if h_0.Back = true then (wr (0 - rate_1)) else rate_1

/-- (*paths.divider).follow -/
def L.paths_divider_follow.J2 (d_0 : paths_divider) (in_1 : Int) (p4 : Nat × Int) (j323 : Int × (List Hop) × Int) (p329 : Nat × Int) (j373 : List Int) : Option (Path × paths_divider) := some ((⟨in_1, j323.1, j323.2.1, j323.2.2⟩ : Path), (⟨d_0.n_, j373, ((d_0.ports.set p4.1 (wr (p4.2 - j323.2.2))).set p329.1 (wr (p329.2 + j323.2.2)))⟩ : paths_divider))
def L.paths_divider_follow.B3 (j323 : Int × (List Hop) × Int) (k375 : Nat) (st401 : List Int) : Option (List Int) := Option.bind (ix j323.2.1 (k375 : Int)) fun p420 => Option.bind (ix st401 p420.2.Segment) fun p423 => some (st401.set p423.1 (wr (p423.2 - (L.paths_signed p420.2 j323.2.2))))
def L.paths_divider_follow.J1 (d_0 : paths_divider) (in_1 : Int) (p4 : Nat × Int) (j323 : Int × (List Hop) × Int) : Option (Path × paths_divider) := Option.bind (ix (d_0.ports.set p4.1 (wr (p4.2 - j323.2.2))) j323.1) fun p329 => Option.bind (forJ (L.paths_divider_follow.B3 j323) 0 j323.2.1.length d_0.rates) fun st401 => L.paths_divider_follow.J2 d_0 in_1 p4 j323 p329 st401
def L.paths_divider_follow.J6 (st637 : (List Hop) × Int × Int) (j847 : Unit) : Option (((List Hop) × Int × Int) ⊕ ((Int × (List Hop) × Int))) := some ((.inr ((0, st637.1, st637.2.1))))
def L.paths_divider_follow.J8 (st637 : (List Hop) × Int × Int) (x852 : Segment) (p922 : Nat × Int) (j933 : List Hop) : Option (Unit ⊕ (((List Hop) × Int × Int))) := some ((.inr ((j933, (min st637.2.1 p922.2), x852.To))))
def L.paths_divider_follow.J9 (st637 : (List Hop) × Int × Int) (x852 : Segment) (p922 : Nat × Int) (j947 : List Hop) : Option (Unit ⊕ (((List Hop) × Int × Int))) := some ((.inr ((j947, (min st637.2.1 (wr (0 - p922.2))), x852.From))))
def L.paths_divider_follow.B7 (d_0 : paths_divider) (st637 : (List Hop) × Int × Int) (k849 : Nat) (x852 : Segment) (st883 : Unit) : Option (Unit ⊕ (((List Hop) × Int × Int))) := Option.bind (ix d_0.rates (k849 : Int)) fun p922 => if (decide (p922.2 > 0) && (x852.From == st637.2.2)) = true then Option.bind (app? st637.1 ([(⟨(k849 : Int), false⟩ : Hop)] : List Hop)) fun l936 => L.paths_divider_follow.J8 st637 x852 p922 l936 else if (decide (p922.2 < 0) && (x852.To == st637.2.2)) = true then Option.bind (app? st637.1 ([(⟨(k849 : Int), true⟩ : Hop)] : List Hop)) fun l950 => L.paths_divider_follow.J9 st637 x852 p922 l950 else some (.inl ())
def L.paths_divider_follow.J5 (d_0 : paths_divider) (st637 : (List Hop) × Int × Int) (j780 : Unit) : Option (((List Hop) × Int × Int) ⊕ ((Int × (List Hop) × Int))) := Option.bind (forL (L.paths_divider_follow.B7 d_0 st637) 0 d_0.n_.Segments ()) fun o912 => Sum.elim (fun st883 => L.paths_divider_follow.J6 st637 ()) (fun d955 => some (.inl d955)) o912
def L.paths_divider_follow.J11 (d_0 : paths_divider) (st637 : (List Hop) × Int × Int) (k957 : Nat) (j1000 : Bool) : Option (Unit ⊕ ((Int × (List Hop) × Int))) := if j1000 = true then Option.bind (ix d_0.ports (k957 : Int)) fun p1002 => some ((.inr (((k957 : Int), st637.1, (min st637.2.1 (wr (0 - p1002.2))))))) else some (.inl ())
def L.paths_divider_follow.B10 (d_0 : paths_divider) (st637 : (List Hop) × Int × Int) (k957 : Nat) (x960 : Port) (st975 : Unit) : Option (Unit ⊕ ((Int × (List Hop) × Int))) := if (x960.Node == st637.2.2) = true then Option.bind (ix d_0.ports (k957 : Int)) fun p1006 => L.paths_divider_follow.J11 d_0 st637 k957 (decide (p1006.2 < 0)) else L.paths_divider_follow.J11 d_0 st637 k957 false
def L.paths_divider_follow.B4 (d_0 : paths_divider) (st637 : (List Hop) × Int × Int) : Option (((List Hop) × Int × Int) ⊕ ((Int × (List Hop) × Int))) := Option.bind (forL (L.paths_divider_follow.B10 d_0 st637) 0 d_0.n_.Ports ()) fun o988 => Sum.elim (fun st975 => L.paths_divider_follow.J5 d_0 st637 ()) (fun d1010 => some ((.inr (d1010)))) o988
def L.paths_divider_follow (d_0 : paths_divider) (in_1 : Int) : Option (Path × paths_divider) := Option.bind (ix d_0.ports in_1) fun p4 => Option.bind (ix d_0.n_.Ports in_1) fun p8 => Option.bind (loopN (L.paths_divider_follow.B4 d_0) lots ([], p4.2, p8.2.Node)) fun d1011 => L.paths_divider_follow.J1 d_0 in_1 p4 d1011

/-- paths.Divide -/
def L.paths_Divide.J1 (j250 : List Path) : Option ((List Path) × Int) := some (j250, 0)
def L.paths_Divide.J3 (j551 : (List ByteArray) × (List Segment) × (List Port) × (List Station) × Int × Int × (List Int) × (List Int) × (List Path)) : Option (((List ByteArray) × (List Segment) × (List Port) × (List Station) × Int × Int × (List Int) × (List Int) × (List Path)) ⊕ (((List Path) × Int))) := some (.inl (j551.1, j551.2.1, j551.2.2.1, j551.2.2.2.1, j551.2.2.2.2.1, j551.2.2.2.2.2.1, j551.2.2.2.2.2.2.1, j551.2.2.2.2.2.2.2.1, j551.2.2.2.2.2.2.2.2))
def L.paths_Divide.B4 (k253 : Nat) (st598 : (List ByteArray) × (List Segment) × (List Port) × (List Station) × Int × Int × (List Int) × (List Int) × (List Path)) : Option (((List ByteArray) × (List Segment) × (List Port) × (List Station) × Int × Int × (List Int) × (List Int) × (List Path)) ⊕ (((List Path) × Int) ⊕ ((List ByteArray) × (List Segment) × (List Port) × (List Station) × Int × Int × (List Int) × (List Int) × (List Path)))) := Option.bind (ix st598.2.2.2.2.2.2.2.1 (k253 : Int)) fun p626 => if decide (p626.2 > 0) = true then Option.bind (L.paths_divider_follow (⟨(⟨st598.1, st598.2.1, st598.2.2.1, st598.2.2.2.1, st598.2.2.2.2.1, st598.2.2.2.2.2.1⟩ : Network), st598.2.2.2.2.2.2.1, st598.2.2.2.2.2.2.2.1⟩ : paths_divider) (k253 : Int)) fun r630 => if (((st598.2.2.2.2.2.2.2.2.length : Int) == 64) || decide ((r630.1.Hops.length : Int) > 32)) = true then some ((.inr (.inl (([], 23))))) else Option.bind (app? st598.2.2.2.2.2.2.2.2 ([r630.1] : List Path)) fun l640 => some (.inl (r630.2.n_.Nodes, r630.2.n_.Segments, r630.2.n_.Ports, r630.2.n_.Stations, r630.2.n_.Vapour, r630.2.n_.Settle, r630.2.rates, r630.2.ports, l640)) else some ((.inr (.inr ((st598.1, st598.2.1, st598.2.2.1, st598.2.2.2.1, st598.2.2.2.2.1, st598.2.2.2.2.2.1, st598.2.2.2.2.2.2.1, st598.2.2.2.2.2.2.2.1, st598.2.2.2.2.2.2.2.2)))))
def L.paths_Divide.B2 (k253 : Nat) (st404 : (List ByteArray) × (List Segment) × (List Port) × (List Station) × Int × Int × (List Int) × (List Int) × (List Path)) : Option (((List ByteArray) × (List Segment) × (List Port) × (List Station) × Int × Int × (List Int) × (List Int) × (List Path)) ⊕ (((List Path) × Int))) := Option.bind (loopN (L.paths_Divide.B4 k253) lots (st404.1, st404.2.1, st404.2.2.1, st404.2.2.2.1, st404.2.2.2.2.1, st404.2.2.2.2.2.1, st404.2.2.2.2.2.2.1, st404.2.2.2.2.2.2.2.1, st404.2.2.2.2.2.2.2.2)) fun o620 => Sum.elim (fun d643 => some ((.inr (d643)))) (fun d644 => L.paths_Divide.J3 d644) o620
def L.paths_Divide (n_0 : Network) (p_1 : Plan) : Option ((List Path) × Int) := Option.bind (L.network_Check n_0) fun r5 => if (r5 != 0) = true then some ([], r5) else Option.bind (L.flow_Check n_0 p_1) fun r9 => if (r9 != 0) = true then some ([], r9) else Option.bind (L.slices_Clone_int_int p_1.Rates) fun r13 => Option.bind (L.slices_Clone_int_int p_1.Ports) fun r16 => Option.bind (forI L.paths_Divide.B2 0 r16.length (n_0.Nodes, n_0.Segments, n_0.Ports, n_0.Stations, n_0.Vapour, n_0.Settle, r13, r16, [])) fun o479 => Sum.elim (fun st404 => L.paths_Divide.J1 st404.2.2.2.2.2.2.2.2) (fun d647 => some d647) o479

/-- batchlinesecond.Mod -/
def L.second_Mod (n_0 : Int) (k_1 : Int) : Option Int := Option.bind (L.keep_Mod n_0 k_1) fun r1 => some r1

/-- slices.IndexFunc[[]api.Hop,api.Hop] -/
def L.slices_IndexFunc_api_Hop_api_Hop.J1 (j24 : Unit) : Option Int := some (-1)
def L.slices_IndexFunc_api_Hop_api_Hop.B2 (g1 : Hop → Option Bool) (k26 : Nat) (x29 : Hop) (st38 : Unit) : Option (Unit ⊕ (Int)) := Option.bind (g1 x29) fun r53 => if r53 = true then some ((.inr ((k26 : Int)))) else some (.inl ())
def L.slices_IndexFunc_api_Hop_api_Hop (s_0 : List Hop) (g1 : Hop → Option Bool) : Option Int := Option.bind (forL (L.slices_IndexFunc_api_Hop_api_Hop.B2 g1) 0 s_0 ()) fun o45 => Sum.elim (fun st38 => L.slices_IndexFunc_api_Hop_api_Hop.J1 ()) (fun d58 => some d58) o45

/-- slices.ContainsFunc[[]api.Hop,api.Hop] -/
def L.slices_ContainsFunc_api_Hop_api_Hop (s_0 : List Hop) (g1 : Hop → Option Bool) : Option Bool := Option.bind (L.slices_IndexFunc_api_Hop_api_Hop s_0 g1) fun r1 => some (decide (r1 ≥ 0))

/-- slices.Clone[[]api.Hop,api.Hop] -/
def L.slices_Clone_api_Hop_api_Hop (s0 : List Hop) : Option (List Hop) := app? [] s0

/-- paths.with -/
def L.paths_with (p_0 : Path) (rate_1 : Int) : Option Path := Option.bind (L.slices_Clone_api_Hop_api_Hop p_0.Hops) fun r4 => some (⟨p_0.In, p_0.Out, r4, rate_1⟩ : Path)

/-- paths.Through$1 -/
def L.paths_Through_1 (h_0 : Hop) (a_1 : Int) : Bool := (h_0.Segment == a_1)

/-- paths.Through -/
def L.paths_Through.J1 (j72 : List Path) : Option ((List Path) × Int) := some (j72, 0)
def L.paths_Through.J3 (j148 : List Path) : Option (List Path) := some j148
def L.paths_Through.B2 (segment_2 : Int) (k75 : Nat) (x78 : Path) (st113 : List Path) : Option (List Path) := Option.bind (L.slices_ContainsFunc_api_Hop_api_Hop x78.Hops (fun x => some (L.paths_Through_1 x segment_2))) fun r152 => if r152 = true then Option.bind (L.paths_with x78 x78.Rate) fun r155 => Option.bind (app? st113 ([r155] : List Path)) fun l158 => L.paths_Through.J3 l158 else L.paths_Through.J3 st113
def L.paths_Through (n_0 : Network) (l_1 : List Path) (segment_2 : Int) : Option ((List Path) × Int) := Option.bind (L.network_Check n_0) fun r5 => if (r5 != 0) = true then some ([], r5) else if (decide (segment_2 < 0) || decide (segment_2 ≥ (n_0.Segments.length : Int))) = true then some ([], 8) else Option.bind (forS (L.paths_Through.B2 segment_2) 0 l_1 []) fun st113 => L.paths_Through.J1 st113

/-- batchlinelaw25.awake -/
def L.law25_awake.J1 (j24 : Bool) : Option Bool := some j24
def L.law25_awake : Option Bool := Option.bind (L.paths_Divide (⟨([(⟨#[97]⟩ : ByteArray), (⟨#[98]⟩ : ByteArray)] : List ByteArray), ([(⟨(⟨#[103]⟩ : ByteArray), 0, 1, 10, 0, 0, ([(⟨0, 0, 1000⟩ : Point), (⟨10, 0, 1000⟩ : Point)] : List Point)⟩ : Segment)] : List Segment), ([(⟨(⟨#[112]⟩ : ByteArray), 0, 0⟩ : Port), (⟨(⟨#[113]⟩ : ByteArray), 0, 0⟩ : Port), (⟨(⟨#[114]⟩ : ByteArray), 0, 0⟩ : Port)] : List Port), [], 0, 0⟩ : Network) (⟨([0] : List Int), ([3, 4, (-7)] : List Int), []⟩ : Plan)) fun r11 => if (r11.2 == 0) = true then if ((r11.1.length : Int) == 2) = true then Option.bind (ix r11.1 0) fun p27 => if (p27.2.Rate == 3) = true then Option.bind (ix r11.1 1) fun p30 => if (p30.2.Rate == 4) = true then if (p30.2.In == 1) = true then if (p30.2.Out == 2) = true then L.law25_awake.J1 ((p27.2.Hops.length : Int) == 0) else L.law25_awake.J1 false else L.law25_awake.J1 false else L.law25_awake.J1 false else L.law25_awake.J1 false else L.law25_awake.J1 false else L.law25_awake.J1 false

/-- batchlinesecond.Few -/
def L.second_Few (l_0 : List Int) : Bool := (decide ((l_0.length : Int) ≤ 400))

/-- batchlinelaw25.PathsOver -/
def L.law25_PathsOver.J2 (j207 : Bool) : Option Bool := some j207
def L.law25_PathsOver.J1 (r15 : Plan × batchlinekeep_Src) (r19 : Int) (j201 : Int) : Option Bool := Option.bind (ix r15.1.Rates r19) fun p208 => if (j201 == (max p208.2 (wr (0 - p208.2)))) = true then Option.bind (L.law25_awake) fun r211 => L.law25_PathsOver.J2 r211 else L.law25_PathsOver.J2 false
def L.law25_PathsOver.J4 (st323 : Int × Int) (j434 : Int) : Option ((Int × Int) ⊕ (Bool ⊕ Int)) := some (.inl (j434, wr (st323.2 + 1)))
def L.law25_PathsOver.J5 (st323 : Int × Int) (p436 : Nat × Path) (j483 : Int) : Option ((Int × Int) ⊕ (Bool ⊕ Int)) := if (j483 != 1) = true then some ((.inr (.inl (false)))) else L.law25_PathsOver.J4 st323 (wr (st323.1 + p436.2.Rate))
def L.law25_PathsOver.J7 (st515 : Int × Int) (j546 : Int) : Option ((Int × Int) ⊕ (Bool ⊕ Int)) := some (.inl (j546, wr (st515.2 + 1)))
def L.law25_PathsOver.B6 (r15 : Plan × batchlinekeep_Src) (r19 : Int) (p436 : Nat × Path) (st515 : Int × Int) : Option ((Int × Int) ⊕ (Bool ⊕ Int)) := if decide (st515.2 < (p436.2.Hops.length : Int)) = true then Option.bind (ix p436.2.Hops st515.2) fun p548 => if (p548.2.Segment == r19) = true then Option.bind (ix r15.1.Rates r19) fun p554 => if (p548.2.Back != decide (p554.2 < 0)) = true then some ((.inr (.inl (false)))) else L.law25_PathsOver.J7 st515 (wr (st515.1 + 1)) else L.law25_PathsOver.J7 st515 st515.1 else some ((.inr (.inr (st515.1))))
def L.law25_PathsOver.B3 (r15 : Plan × batchlinekeep_Src) (r19 : Int) (r26 : (List Path) × Int) (st323 : Int × Int) : Option ((Int × Int) ⊕ (Bool ⊕ Int)) := if decide (st323.2 < (r26.1.length : Int)) = true then Option.bind (ix r26.1 st323.2) fun p436 => Option.bind (loopN (L.law25_PathsOver.B6 r15 r19 p436) lots (0, 0)) fun o529 => Sum.elim (fun d557 => some ((.inr (.inl (d557))))) (fun d558 => L.law25_PathsOver.J5 st323 p436 d558) o529 else some ((.inr (.inr (st323.1))))
def L.law25_PathsOver (l_0 : List Int) (which_1 : Int) : Option Bool := if (!(L.second_Few l_0)) = true then Option.bind (L.law25_awake) fun r4 => some r4 else Option.bind (L.keep_New l_0) fun r7 => Option.bind (L.keep_Src_Network r7) fun r11 => Option.bind (L.keep_Src_Plan r11.2 r11.1) fun r15 => Option.bind (L.second_Mod which_1 (r11.1.Segments.length : Int)) fun r19 => Option.bind (L.paths_Divide r11.1 r15.1) fun r22 => Option.bind (L.paths_Through r11.1 r22.1 r19) fun r26 => if ((r22.2 != 0) || ((r26.2 != 0) || decide ((r26.1.length : Int) > (r22.1.length : Int)))) = true then some false else Option.bind (loopN (L.law25_PathsOver.B3 r15 r19 r26) lots (0, 0)) fun o377 => Sum.elim (fun d559 => some d559) (fun d560 => L.law25_PathsOver.J1 r15 r19 d560) o377

end Go.Proofs.Ytndfiddakngjdaa
