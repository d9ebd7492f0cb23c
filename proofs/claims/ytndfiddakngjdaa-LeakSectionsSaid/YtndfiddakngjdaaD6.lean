/- Pure functions for functions of the program; printed by a program of ours. No condition. -/
import Derived.Test.YtndfiddakngjdaaD
namespace Go.Proofs.Ytndfiddakngjdaa
open Go.Aw
set_option linter.unusedVariables false
set_option linter.unusedSimpArgs false



/-- batchlineref12.in -/
def L.ref12_in (n_0 : Int) (low_1 : Int) (high_2 : Int) : Bool := (decide (n_0 ≥ low_1) && decide (n_0 ≤ high_2))

/-- batchlineref12.names -/
def L.ref12_names.J3 (n_0 : Network) (j41 : List ByteArray) (j77 : List ByteArray) (j113 : List ByteArray) : Option (Arr (List ByteArray) 4) := some (⟨[n_0.Nodes, j41, j77, j113], rfl⟩ : Arr (List ByteArray) 4)
def L.ref12_names.B4 (k116 : Nat) (x119 : Station) (st138 : List ByteArray) : Option (List ByteArray) := Option.bind (app? st138 ([x119.Name] : List ByteArray)) fun l156 => some l156
def L.ref12_names.J2 (n_0 : Network) (j41 : List ByteArray) (j77 : List ByteArray) : Option (Arr (List ByteArray) 4) := Option.bind (forS L.ref12_names.B4 0 n_0.Stations []) fun st138 => L.ref12_names.J3 n_0 j41 j77 st138
def L.ref12_names.B5 (k162 : Nat) (x165 : Port) (st184 : List ByteArray) : Option (List ByteArray) := Option.bind (app? st184 ([x165.Name] : List ByteArray)) fun l202 => some l202
def L.ref12_names.J1 (n_0 : Network) (j41 : List ByteArray) : Option (Arr (List ByteArray) 4) := Option.bind (forS L.ref12_names.B5 0 n_0.Ports []) fun st184 => L.ref12_names.J2 n_0 j41 st184
def L.ref12_names.B6 (k208 : Nat) (x211 : Segment) (st230 : List ByteArray) : Option (List ByteArray) := Option.bind (app? st230 ([x211.Name] : List ByteArray)) fun l248 => some l248
def L.ref12_names (n_0 : Network) : Option (Arr (List ByteArray) 4) := Option.bind (forS L.ref12_names.B6 0 n_0.Segments []) fun st230 => L.ref12_names.J1 n_0 st230

/-- batchlineref03.Name -/
def L.ref03_Name.J2 (j107 : Unit) : Option Bool := some true
def L.ref03_Name.J4 (st172 : Int) (j236 : Bool) : Option (Int ⊕ (Bool ⊕ Unit)) := if j236 = true then some ((.inr (.inl (false)))) else some (.inl (wr (st172 + 1)))
def L.ref03_Name.B3 (s_0 : ByteArray) (st172 : Int) : Option (Int ⊕ (Bool ⊕ Unit)) := if decide (st172 < (s_0.size : Int)) = true then Option.bind (ixs s_0 st172) fun p238 => if decide (p238.2 < 97) = true then if decide (p238.2 < 48) = true then L.ref03_Name.J4 st172 (p238.2 != 45) else if decide (p238.2 > 57) = true then L.ref03_Name.J4 st172 (p238.2 != 45) else L.ref03_Name.J4 st172 false else if decide (p238.2 > 122) = true then if decide (p238.2 < 48) = true then L.ref03_Name.J4 st172 (p238.2 != 45) else if decide (p238.2 > 57) = true then L.ref03_Name.J4 st172 (p238.2 != 45) else L.ref03_Name.J4 st172 false else L.ref03_Name.J4 st172 false else some ((.inr (.inr (()))))
def L.ref03_Name.J1 (s_0 : ByteArray) (j10 : Bool) : Option Bool := if j10 = true then some false else Option.bind (loopN (L.ref03_Name.B3 s_0) lots 0) fun o203 => Sum.elim (fun d264 => some d264) (fun d265 => L.ref03_Name.J2 d265) o203
def L.ref03_Name (s_0 : ByteArray) : Option Bool := if decide ((s_0.size : Int) < 1) = true then L.ref03_Name.J1 s_0 true else if decide ((s_0.size : Int) > 12) = true then L.ref03_Name.J1 s_0 true else Option.bind (ixs s_0 0) fun p268 => if decide (p268.2 < 97) = true then L.ref03_Name.J1 s_0 true else L.ref03_Name.J1 s_0 (decide (p268.2 > 122))

/-- batchlineref12.twice -/
def L.ref12_twice.J1 (j60 : Unit) : Option Bool := some false
def L.ref12_twice.J3 (j145 : Unit) : Option (Unit ⊕ (Bool)) := some (.inl ())
def L.ref12_twice.B4 (l_0 : List ByteArray) (k62 : Nat) (x65 : ByteArray) (st161 : Int) : Option (Int ⊕ (Bool ⊕ Unit)) := if decide (st161 < (k62 : Int)) = true then Option.bind (ix l_0 st161) fun p174 => if sEq x65 p174.2 = true then some ((.inr (.inl (true)))) else some (.inl (wr (st161 + 1))) else some ((.inr (.inr (()))))
def L.ref12_twice.B2 (l_0 : List ByteArray) (k62 : Nat) (x65 : ByteArray) (st92 : Unit) : Option (Unit ⊕ (Bool)) := Option.bind (loopN (L.ref12_twice.B4 l_0 k62 x65) lots 0) fun o167 => Sum.elim (fun d177 => some ((.inr (d177)))) (fun d178 => L.ref12_twice.J3 d178) o167
def L.ref12_twice (l_0 : List ByteArray) : Option Bool := Option.bind (forL (L.ref12_twice.B2 l_0) 0 l_0 ()) fun o117 => Sum.elim (fun st92 => L.ref12_twice.J1 ()) (fun d181 => some d181) o117

/-- batchlineref12.proper -/
def L.ref12_proper.J2 (j49 : Unit) : Option Bool := some true
def L.ref12_proper.J4 (j97 : Bool) : Option (Unit ⊕ (Bool)) := if j97 = true then some ((.inr (false))) else some (.inl ())
def L.ref12_proper.B3 (s_0 : Segment) (k51 : Nat) (x54 : Point) (st69 : Unit) : Option (Unit ⊕ (Bool)) := if decide ((k51 : Int) > 0) = true then Option.bind (ix s_0.Points (wr ((k51 : Int) - 1))) fun p100 => if decide (x54.At ≤ p100.2.At) = true then L.ref12_proper.J4 true else if (!(L.ref12_in x54.Height (-500) 5000)) = true then L.ref12_proper.J4 true else L.ref12_proper.J4 (!(L.ref12_in x54.Limit 0 100000000)) else if (!(L.ref12_in x54.Height (-500) 5000)) = true then L.ref12_proper.J4 true else L.ref12_proper.J4 (!(L.ref12_in x54.Limit 0 100000000))
def L.ref12_proper.J1 (s_0 : Segment) (j13 : Bool) : Option Bool := if j13 = true then some false else Option.bind (forL (L.ref12_proper.B3 s_0) 0 s_0.Points ()) fun o82 => Sum.elim (fun st69 => L.ref12_proper.J2 ()) (fun d107 => some d107) o82
def L.ref12_proper (s_0 : Segment) : Option Bool := if (s_0.From == s_0.To) = true then L.ref12_proper.J1 s_0 true else if (!(L.ref12_in s_0.Capacity 1 1000000)) = true then L.ref12_proper.J1 s_0 true else if (!(L.ref12_in s_0.Resist 0 1000)) = true then L.ref12_proper.J1 s_0 true else if (!(L.ref12_in s_0.Wave 0 100000)) = true then L.ref12_proper.J1 s_0 true else Option.bind (ix s_0.Points 0) fun p112 => if (p112.2.At != 0) = true then L.ref12_proper.J1 s_0 true else Option.bind (ix s_0.Points (wr ((s_0.Points.length : Int) - 1))) fun p115 => L.ref12_proper.J1 s_0 (p115.2.At != s_0.Capacity)

/-- batchlineref12.Check -/
def L.ref12_Check.J10 (n_0 : Network) (j318 : Unit) : Option Int := if ((!(L.ref12_in n_0.Vapour (-100000) 100000000)) || (!(L.ref12_in n_0.Settle 0 100))) = true then some 9 else some 0
def L.ref12_Check.B11 (k324 : Nat) (x327 : Station) (st340 : Unit) : Option (Unit ⊕ (Int)) := if ((!(L.ref12_in x327.Head 0 100000000)) || ((!(L.ref12_in x327.Fall 0 100000)) || (!(L.ref12_in x327.Suction 0 100000000)))) = true then some ((.inr (9))) else some (.inl ())
def L.ref12_Check.J9 (n_0 : Network) (j287 : Unit) : Option Int := Option.bind (forL L.ref12_Check.B11 0 n_0.Stations ()) fun o351 => Sum.elim (fun st340 => L.ref12_Check.J10 n_0 ()) (fun d368 => some d368) o351
def L.ref12_Check.B12 (k370 : Nat) (x373 : Port) (st380 : Unit) : Option (Unit ⊕ (Int)) := if (!(L.ref12_in x373.Pressure 0 100000000)) = true then some ((.inr (9))) else some (.inl ())
def L.ref12_Check.J8 (n_0 : Network) (j268 : Unit) : Option Int := Option.bind (forL L.ref12_Check.B12 0 n_0.Ports ()) fun o385 => Sum.elim (fun st380 => L.ref12_Check.J9 n_0 ()) (fun d396 => some d396) o385
def L.ref12_Check.B13 (k398 : Nat) (x401 : Segment) (st410 : Unit) : Option (Unit ⊕ (Int)) := Option.bind (L.ref12_proper x401) fun r425 => if (!r425) = true then some ((.inr (9))) else some (.inl ())
def L.ref12_Check.J7 (n_0 : Network) (j245 : Unit) : Option Int := Option.bind (forL L.ref12_Check.B13 0 n_0.Segments ()) fun o417 => Sum.elim (fun st410 => L.ref12_Check.J8 n_0 ()) (fun d430 => some d430) o417
def L.ref12_Check.B14 (n_0 : Network) (k432 : Nat) (x435 : Station) (st442 : Unit) : Option (Unit ⊕ (Int)) := if (!(L.ref12_in x435.Node 0 (wr ((n_0.Nodes.length : Int) - 1)))) = true then some ((.inr (8))) else some (.inl ())
def L.ref12_Check.J6 (n_0 : Network) (j226 : Unit) : Option Int := Option.bind (forL (L.ref12_Check.B14 n_0) 0 n_0.Stations ()) fun o447 => Sum.elim (fun st442 => L.ref12_Check.J7 n_0 ()) (fun d458 => some d458) o447
def L.ref12_Check.B15 (n_0 : Network) (k460 : Nat) (x463 : Port) (st470 : Unit) : Option (Unit ⊕ (Int)) := if (!(L.ref12_in x463.Node 0 (wr ((n_0.Nodes.length : Int) - 1)))) = true then some ((.inr (8))) else some (.inl ())
def L.ref12_Check.J5 (n_0 : Network) (j207 : Unit) : Option Int := Option.bind (forL (L.ref12_Check.B15 n_0) 0 n_0.Ports ()) fun o475 => Sum.elim (fun st470 => L.ref12_Check.J6 n_0 ()) (fun d486 => some d486) o475
def L.ref12_Check.B16 (n_0 : Network) (k488 : Nat) (x491 : Segment) (st502 : Unit) : Option (Unit ⊕ (Int)) := if ((!(L.ref12_in x491.From 0 (wr ((n_0.Nodes.length : Int) - 1)))) || (!(L.ref12_in x491.To 0 (wr ((n_0.Nodes.length : Int) - 1))))) = true then some ((.inr (8))) else some (.inl ())
def L.ref12_Check.J4 (n_0 : Network) (j179 : Unit) : Option Int := Option.bind (forL (L.ref12_Check.B16 n_0) 0 n_0.Segments ()) fun o511 => Sum.elim (fun st502 => L.ref12_Check.J5 n_0 ()) (fun d526 => some d526) o511
def L.ref12_Check.J18 (j611 : Unit) : Option (Unit ⊕ (Int)) := some (.inl ())
def L.ref12_Check.B19 (n_0 : Network) (k528 : Nat) (x531 : Station) (st627 : Int) : Option (Int ⊕ (Int ⊕ Unit)) := if decide (st627 < (k528 : Int)) = true then Option.bind (ix n_0.Stations st627) fun p640 => if (x531.Node == p640.2.Node) = true then some ((.inr (.inl (7)))) else some (.inl (wr (st627 + 1))) else some ((.inr (.inr (()))))
def L.ref12_Check.B17 (n_0 : Network) (k528 : Nat) (x531 : Station) (st558 : Unit) : Option (Unit ⊕ (Int)) := Option.bind (loopN (L.ref12_Check.B19 n_0 k528 x531) lots 0) fun o633 => Sum.elim (fun d643 => some ((.inr (d643)))) (fun d644 => L.ref12_Check.J18 d644) o633
def L.ref12_Check.J3 (n_0 : Network) (j120 : Unit) : Option Int := Option.bind (forL (L.ref12_Check.B17 n_0) 0 n_0.Stations ()) fun o583 => Sum.elim (fun st558 => L.ref12_Check.J4 n_0 ()) (fun d647 => some d647) o583
def L.ref12_Check.B20 (r32 : Arr (List ByteArray) 4) (k649 : Nat) (st661 : Unit) : Option (Unit ⊕ (Int)) := Option.bind (ix r32.l (k649 : Int)) fun p676 => Option.bind (L.ref12_twice p676.2) fun r678 => if r678 = true then some ((.inr (7))) else some (.inl ())
def L.ref12_Check.J2 (n_0 : Network) (r32 : Arr (List ByteArray) 4) (j96 : Unit) : Option Int := Option.bind (forI (L.ref12_Check.B20 r32) 0 4 ()) fun o669 => Sum.elim (fun st661 => L.ref12_Check.J3 n_0 ()) (fun d683 => some d683) o669
def L.ref12_Check.J22 (j773 : Unit) : Option (Unit ⊕ (Int)) := some (.inl ())
def L.ref12_Check.B23 (k778 : Nat) (x781 : ByteArray) (st789 : Unit) : Option (Unit ⊕ (Int)) := Option.bind (L.ref03_Name x781) fun r802 => if (!r802) = true then some ((.inr (3))) else some (.inl ())
def L.ref12_Check.B21 (r32 : Arr (List ByteArray) 4) (k685 : Nat) (st716 : Unit) : Option (Unit ⊕ (Int)) := Option.bind (ix r32.l (k685 : Int)) fun p775 => Option.bind (forL L.ref12_Check.B23 0 p775.2 ()) fun o795 => Sum.elim (fun st789 => L.ref12_Check.J22 ()) (fun d807 => some ((.inr (d807)))) o795
def L.ref12_Check.J1 (n_0 : Network) (j30 : Unit) : Option Int := Option.bind (L.ref12_names n_0) fun r32 => Option.bind (forI (L.ref12_Check.B21 r32) 0 4 ()) fun o743 => Sum.elim (fun st716 => L.ref12_Check.J2 n_0 r32 ()) (fun d810 => some d810) o743
def L.ref12_Check.B24 (k812 : Nat) (x815 : Segment) (st822 : Unit) : Option (Unit ⊕ (Int)) := if (!(L.ref12_in (x815.Points.length : Int) 2 8)) = true then some ((.inr (4))) else some (.inl ())
def L.ref12_Check (n_0 : Network) : Option Int := if ((!(L.ref12_in (n_0.Nodes.length : Int) 1 24)) || (decide ((n_0.Segments.length : Int) > 32) || (decide ((n_0.Ports.length : Int) > 24) || decide ((n_0.Stations.length : Int) > 12)))) = true then some 4 else Option.bind (forL L.ref12_Check.B24 0 n_0.Segments ()) fun o827 => Sum.elim (fun st822 => L.ref12_Check.J1 n_0 ()) (fun d838 => some d838) o827

/-- batchlineref16.Ends -/
def L.ref16_Ends (s_0 : Segment) (rate_1 : Int) : (Int × Int) := if decide (rate_1 < 0) = true then (s_0.To, s_0.From) else (s_0.From, s_0.To)

/-- batchlineref16.sums -/
def L.ref16_sums.J2 (j94 : Int × Int) : Option (Int × Int) := some (j94.1, j94.2)
def L.ref16_sums.J4 (j144 : Int × Int) : Option (Int × Int) := some (j144.1, j144.2)
def L.ref16_sums.B3 (p_1 : Plan) (node_2 : Int) (k96 : Nat) (x99 : Port) (st121 : Int × Int) : Option (Int × Int) := if (x99.Node == node_2) = true then Option.bind (ix p_1.Ports (k96 : Int)) fun p149 => L.ref16_sums.J4 (wr (st121.1 + (max 0 p149.2)), wr (st121.2 + (max 0 (wr (0 - p149.2))))) else L.ref16_sums.J4 (st121.1, st121.2)
def L.ref16_sums.J1 (n_0 : Network) (p_1 : Plan) (node_2 : Int) (j55 : Int × Int) : Option (Int × Int) := Option.bind (forS (L.ref16_sums.B3 p_1 node_2) 0 n_0.Ports (j55.1, j55.2)) fun st121 => L.ref16_sums.J2 (st121.1, st121.2)
def L.ref16_sums.J6 (j218 : Int × Int) : Option (Int × Int) := some (j218.1, j218.2)
def L.ref16_sums.J7 (node_2 : Int) (x157 : Segment) (st187 : Int × Int) (p222 : Nat × Int) (j227 : Int) : Option (Int × Int) := if (((L.ref16_Ends x157 p222.2).2) == node_2) = true then L.ref16_sums.J6 (wr (st187.1 + (L.ref16_Abs p222.2)), j227) else L.ref16_sums.J6 (st187.1, j227)
def L.ref16_sums.B5 (p_1 : Plan) (node_2 : Int) (k154 : Nat) (x157 : Segment) (st187 : Int × Int) : Option (Int × Int) := Option.bind (ix p_1.Rates (k154 : Int)) fun p222 => if (p222.2 == 0) = true then L.ref16_sums.J6 (st187.1, st187.2) else if (((L.ref16_Ends x157 p222.2).1) == node_2) = true then L.ref16_sums.J7 node_2 x157 st187 p222 (wr (st187.2 + (L.ref16_Abs p222.2))) else L.ref16_sums.J7 node_2 x157 st187 p222 st187.2
def L.ref16_sums (n_0 : Network) (p_1 : Plan) (node_2 : Int) : Option (Int × Int) := Option.bind (forS (L.ref16_sums.B5 p_1 node_2) 0 n_0.Segments (0, 0)) fun st187 => L.ref16_sums.J1 n_0 p_1 node_2 (st187.1, st187.2)

/-- batchlineref16.order -/
def L.ref16_order.J2 (st444 : (List Int) × (List Bool)) (j873 : Int) : Option (((List Int) × (List Bool)) ⊕ ((List Int))) := if decide (j873 < 0) = true then some ((.inr (st444.1))) else Option.bind (app? st444.1 ([j873] : List Int)) fun l876 => Option.bind (ix st444.2 j873) fun p879 => some (.inl (l876, (st444.2.set p879.1 true)))
def L.ref16_order.J4 (j1154 : Int) : Option Int := some j1154
def L.ref16_order.J5 (k882 : Nat) (st1019 : Int) (j1212 : Bool) : Option Int := if (j1212 && decide (st1019 < 0)) = true then L.ref16_order.J4 (k882 : Int) else L.ref16_order.J4 st1019
def L.ref16_order.J7 (j1286 : Bool) : Option Bool := some j1286
def L.ref16_order.B6 (p_1 : Plan) (st444 : (List Int) × (List Bool)) (k882 : Nat) (k1218 : Nat) (x1221 : Segment) (st1253 : Bool) : Option Bool := Option.bind (ix p_1.Rates (k1218 : Int)) fun p1290 => if (p1290.2 != 0) = true then if st1253 = true then if (((L.ref16_Ends x1221 p1290.2).2) != (k882 : Int)) = true then L.ref16_order.J7 true else Option.bind (ix st444.2 ((L.ref16_Ends x1221 p1290.2).1)) fun p1296 => L.ref16_order.J7 p1296.2 else L.ref16_order.J7 false else L.ref16_order.J7 st1253
def L.ref16_order.B3 (n_0 : Network) (p_1 : Plan) (st444 : (List Int) × (List Bool)) (k882 : Nat) (x885 : ByteArray) (st1019 : Int) : Option Int := Option.bind (ix st444.2 (k882 : Int)) fun p1157 => Option.bind (forS (L.ref16_order.B6 p_1 st444 k882) 0 n_0.Segments (!p1157.2)) fun st1253 => L.ref16_order.J5 k882 st1019 st1253
def L.ref16_order.B1 (n_0 : Network) (p_1 : Plan) (st444 : (List Int) × (List Bool)) : Option (((List Int) × (List Bool)) ⊕ ((List Int))) := Option.bind (forS (L.ref16_order.B3 n_0 p_1 st444) 0 n_0.Nodes (-1)) fun st1019 => L.ref16_order.J2 st444 st1019
def L.ref16_order (n_0 : Network) (p_1 : Plan) : Option (List Int) := Option.bind (mk? (n_0.Nodes.length : Int) false) fun l6 => Option.bind (loopN (L.ref16_order.B1 n_0 p_1) lots ([], l6)) fun d1302 => some d1302

/-- batchlineref16.Check -/
def L.ref16_Check.J3 (n_0 : Network) (p_1 : Plan) (j93 : Unit) : Option Int := Option.bind (L.ref16_order n_0 p_1) fun r94 => if ((r94.length : Int) != (n_0.Nodes.length : Int)) = true then some 13 else some 0
def L.ref16_Check.B4 (n_0 : Network) (p_1 : Plan) (k99 : Nat) (x102 : ByteArray) (st111 : Unit) : Option (Unit ⊕ (Int)) := Option.bind (L.ref16_sums n_0 p_1 (k99 : Int)) fun r126 => if (r126.1 != r126.2) = true then some ((.inr (12))) else some (.inl ())
def L.ref16_Check.J2 (n_0 : Network) (p_1 : Plan) (j70 : Unit) : Option Int := Option.bind (forL (L.ref16_Check.B4 n_0 p_1) 0 n_0.Nodes ()) fun o118 => Sum.elim (fun st111 => L.ref16_Check.J3 n_0 p_1 ()) (fun d131 => some d131) o118
def L.ref16_Check.B5 (k133 : Nat) (x136 : Int) (st146 : Unit) : Option (Unit ⊕ (Int)) := if (decide (x136 < (-1000)) || decide (x136 > 1000)) = true then some ((.inr (1))) else some (.inl ())
def L.ref16_Check.J1 (n_0 : Network) (p_1 : Plan) (j45 : Unit) : Option Int := Option.bind (forL L.ref16_Check.B5 0 p_1.Ports ()) fun o154 => Sum.elim (fun st146 => L.ref16_Check.J2 n_0 p_1 ()) (fun d168 => some d168) o154
def L.ref16_Check.B6 (n_0 : Network) (k170 : Nat) (x173 : Int) (st186 : Unit) : Option (Unit ⊕ (Int)) := Option.bind (ix n_0.Segments (k170 : Int)) fun p206 => if (decide (x173 < (wr (0 - (min 1000 p206.2.Capacity)))) || decide (x173 > (min 1000 p206.2.Capacity))) = true then some ((.inr (1))) else some (.inl ())
def L.ref16_Check (n_0 : Network) (p_1 : Plan) : Option Int := Option.bind (L.ref12_Check n_0) fun r5 => if (r5 != 0) = true then some r5 else if (((p_1.Rates.length : Int) != (n_0.Segments.length : Int)) || (((p_1.Ports.length : Int) != (n_0.Ports.length : Int)) || ((p_1.Pumps.length : Int) != (n_0.Stations.length : Int)))) = true then some 9 else Option.bind (forL (L.ref16_Check.B6 n_0) 0 p_1.Rates ()) fun o197 => Sum.elim (fun st186 => L.ref16_Check.J1 n_0 p_1 ()) (fun d214 => some d214) o197

end Go.Proofs.Ytndfiddakngjdaa
