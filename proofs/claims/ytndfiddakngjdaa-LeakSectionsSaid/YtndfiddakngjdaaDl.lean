/- Pure functions for functions of the program; printed by a program of ours. No condition. -/
import Derived.Test.YtndfiddakngjdaaD6
import Derived.Test.YtndfiddakngjdaaBwMap
namespace Go.Proofs.Ytndfiddakngjdaa
open Go.Aw
set_option linter.unusedVariables false
set_option linter.unusedSimpArgs false

structure Balance where
  In : Int
  Out : Int
  Pack : Int
  deriving DecidableEq
def Balance.row (x : Balance) : List T := [.v (.int .i64 x.In), .v (.int .i64 x.Out), .v (.int .i64 x.Pack)]
structure Accuracy where
  Meter : Int
  Pack : Int
  deriving DecidableEq
def Accuracy.row (x : Accuracy) : List T := [.v (.int .i64 x.Meter), .v (.int .i64 x.Pack)]

/-- slices.IndexFunc[[]api.Balance,api.Balance] -/
def L.slices_IndexFunc_api_Balance_api_Balance.J1 (j24 : Unit) : Option Int := some (-1)
def L.slices_IndexFunc_api_Balance_api_Balance.B2 (g1 : Balance → Option Bool) (k26 : Nat) (x29 : Balance) (st38 : Unit) : Option (Unit ⊕ (Int)) := Option.bind (g1 x29) fun r53 => if r53 = true then some ((.inr ((k26 : Int)))) else some (.inl ())
def L.slices_IndexFunc_api_Balance_api_Balance (s_0 : List Balance) (g1 : Balance → Option Bool) : Option Int := Option.bind (forL (L.slices_IndexFunc_api_Balance_api_Balance.B2 g1) 0 s_0 ()) fun o45 => Sum.elim (fun st38 => L.slices_IndexFunc_api_Balance_api_Balance.J1 ()) (fun d58 => some d58) o45

/-- slices.ContainsFunc[[]api.Balance,api.Balance] -/
def L.slices_ContainsFunc_api_Balance_api_Balance (s_0 : List Balance) (g1 : Balance → Option Bool) : Option Bool := Option.bind (L.slices_IndexFunc_api_Balance_api_Balance s_0 g1) fun r1 => some (decide (r1 ≥ 0))

/-- balance.volume -/
def L.balance_volume (n_0 : Int) : Bool := (decide (n_0 ≥ 0) && decide (n_0 ≤ 1099511627776))

/-- balance.Check$1 -/
def L.balance_Check_1 (b_0 : Balance) : Bool := ((!(L.balance_volume b_0.In)) || ((!(L.balance_volume b_0.Out)) || (!(L.balance_volume b_0.Pack))))

/-- balance.Check -/
def L.balance_Check (l_0 : List Balance) : Option Int := if decide ((l_0.length : Int) > 400) = true then some 4 else Option.bind (L.slices_ContainsFunc_api_Balance_api_Balance l_0 (fun x => some (L.balance_Check_1 x))) fun r4 => if r4 = true then some 1 else some 0

/-- balance.Accurate -/
def L.balance_Accurate (a_0 : Accuracy) : Bool := (decide (a_0.Meter ≥ 0) && (decide (a_0.Meter ≤ 100000) && (L.balance_volume a_0.Pack)))

/-- leak.check -/
def L.leak_check (l_0 : List Balance) (a_1 : Accuracy) (width_2 : Int) (threshold_3 : Int) : Option Int := Option.bind (L.balance_Check l_0) fun r4 => if (r4 != 0) = true then some r4 else if ((!(L.balance_Accurate a_1)) || (decide (threshold_3 < 0) || decide (threshold_3 > 1099511627776))) = true then some 1 else if (decide (width_2 < 1) || decide (width_2 > 400)) = true then some 25 else some 0

/-- balance.window -/
def L.balance_window (l_0 : List Balance) (from_1 : Int) (to_2 : Int) : Bool := (decide (from_1 ≥ 0) && (decide (from_1 < to_2) && decide (to_2 < (l_0.length : Int))))

/-- balance.check -/
def L.balance_check (l_0 : List Balance) (a_1 : Accuracy) (from_2 : Int) (to_3 : Int) : Option Int := Option.bind (L.balance_Check l_0) fun r4 => if (r4 != 0) = true then some r4 else if (!(L.balance_Accurate a_1)) = true then some 1 else if (!(L.balance_window l_0 from_2 to_3)) = true then some 25 else some 0

/-- balance.counted -/
def L.balance_counted.J1 (j24 : Int × Int) : Option (Int × Int) := some (j24.1, j24.2)
def L.balance_counted.B2 (k28 : Nat) (x31 : Balance) (st41 : Int × Int) : Option (Int × Int) := some (wr (st41.1 + x31.In), wr (st41.2 + x31.Out))
def L.balance_counted (l_0 : List Balance) (from_1 : Int) (to_2 : Int) : Option (Int × Int) := Option.bind (sub3? l_0 (wr (from_1 + 1)) (wr (to_2 + 1)) (wr (to_2 + 1))) fun l26 => Option.bind (forS L.balance_counted.B2 0 l26 (0, 0)) fun st41 => L.balance_counted.J1 (st41.1, st41.2)

/-- balance.missing -/
def L.balance_missing (l_0 : List Balance) (from_1 : Int) (to_2 : Int) : Option Int := Option.bind (L.balance_counted l_0 from_1 to_2) fun r3 => Option.bind (ix l_0 to_2) fun p5 => Option.bind (ix l_0 from_1) fun p7 => some (wr ((wr ((wr (r3.1 - r3.2)) - p5.2.Pack)) + p7.2.Pack))

/-- round.divide -/
def L.round_divide.J1 (j17 : Int × Int) : Option (Int × Int × Bool) := some (j17.1, j17.2, true)
def L.round_divide (a_0 : Int) (b_1 : Int) : Option (Int × Int × Bool) := if (decide (b_1 < 1) || (decide (b_1 > 1099511627776) || (decide (a_0 < (-2305843009213693952)) || decide (a_0 > 2305843009213693952)))) = true then some (0, 0, false) else Option.bind (quo? a_0 b_1) fun x12 => Option.bind (rem? a_0 b_1) fun x14 => if decide (x14 < 0) = true then L.round_divide.J1 (wr (x12 - 1), wr (x14 + b_1)) else L.round_divide.J1 (x12, x14)

/-- round.Up -/
def L.round_Up.J1 (j9 : Int) : Option Int := some j9
def L.round_Up (a_0 : Int) (b_1 : Int) : Option Int := Option.bind (L.round_divide a_0 b_1) fun r3 => if (r3.2.2 && decide (r3.2.1 > 0)) = true then L.round_Up.J1 (wr (r3.1 + 1)) else L.round_Up.J1 r3.1

/-- balance.part -/
def L.balance_part (volume_0 : Int) (millionths_1 : Int) : Option Int := Option.bind (L.round_Up (wr ((volume_0.tmod 1000000) * millionths_1)) 1000000) fun r2 => some (wr ((wr ((wr (volume_0.tdiv 1000000)) * millionths_1)) + r2))

/-- balance.wrong -/
def L.balance_wrong (l_0 : List Balance) (a_1 : Accuracy) (from_2 : Int) (to_3 : Int) : Option Int := Option.bind (L.balance_counted l_0 from_2 to_3) fun r4 => Option.bind (L.balance_part r4.1 a_1.Meter) fun r6 => Option.bind (L.balance_part r4.2 a_1.Meter) fun r8 => some (wr ((wr (r6 + r8)) + (wr (2 * a_1.Pack))))

/-- balance.Bounds -/
def L.balance_Bounds (l_0 : List Balance) (a_1 : Accuracy) (from_2 : Int) (to_3 : Int) : Option (Int × Int × Int) := Option.bind (L.balance_check l_0 a_1 from_2 to_3) fun r4 => if (r4 != 0) = true then some (0, 0, r4) else Option.bind (L.balance_missing l_0 from_2 to_3) fun r7 => Option.bind (L.balance_wrong l_0 a_1 from_2 to_3) fun r9 => some (wr (r7 - r9), wr (r7 + r9), 0)

/-- leak.Alarms -/
def L.leak_Alarms.J1 (j54 : List Int) : Option ((List Int) × Int) := some (j54, 0)
def L.leak_Alarms.J3 (st87 : (List Int) × Int) (j118 : List Int) : Option (((List Int) × Int) ⊕ (((List Int) × Int) ⊕ (List Int))) := some (.inl (j118, wr (st87.2 + 1)))
def L.leak_Alarms.B2 (l_0 : List Balance) (a_1 : Accuracy) (width_2 : Int) (threshold_3 : Int) (st87 : (List Int) × Int) : Option (((List Int) × Int) ⊕ (((List Int) × Int) ⊕ (List Int))) := if decide (st87.2 < (l_0.length : Int)) = true then Option.bind (L.balance_Bounds l_0 a_1 (wr (st87.2 - width_2)) st87.2) fun r121 => if (r121.2.2 != 0) = true then some ((.inr (.inl (([], r121.2.2))))) else if decide (r121.1 > threshold_3) = true then Option.bind (app? st87.1 ([st87.2] : List Int)) fun l126 => L.leak_Alarms.J3 st87 l126 else L.leak_Alarms.J3 st87 st87.1 else some ((.inr (.inr (st87.1))))
def L.leak_Alarms (l_0 : List Balance) (a_1 : Accuracy) (width_2 : Int) (threshold_3 : Int) : Option ((List Int) × Int) := Option.bind (L.leak_check l_0 a_1 width_2 threshold_3) fun r4 => if (r4 != 0) = true then some ([], r4) else Option.bind (loopN (L.leak_Alarms.B2 l_0 a_1 width_2 threshold_3) lots ([], width_2)) fun o102 => Sum.elim (fun d129 => some d129) (fun d130 => L.leak_Alarms.J1 d130) o102

/-- balance.Error -/
def L.balance_Error (l_0 : List Balance) (a_1 : Accuracy) (from_2 : Int) (to_3 : Int) : Option (Int × Int) := Option.bind (L.balance_check l_0 a_1 from_2 to_3) fun r3 => if (r3 != 0) = true then some (0, r3) else Option.bind (L.balance_wrong l_0 a_1 from_2 to_3) fun r6 => some (r6, 0)

/-- leak.Least -/
def L.leak_Least.J1 (j37 : Int) : Option (Int × Int) := some (j37, 0)
def L.leak_Least.B2 (l_0 : List Balance) (a_1 : Accuracy) (width_2 : Int) (threshold_3 : Int) (st58 : Int × Int) : Option ((Int × Int) ⊕ ((Int × Int) ⊕ Int)) := if decide (st58.2 < (l_0.length : Int)) = true then Option.bind (L.balance_Error l_0 a_1 (wr (st58.2 - width_2)) st58.2) fun r75 => if (r75.2 != 0) = true then some ((.inr (.inl ((0, r75.2))))) else Option.bind (quo? (wr ((wr (2 * r75.1)) + threshold_3)) width_2) fun x78 => some (.inl ((max st58.1 (wr (x78 + 1))), wr (st58.2 + 1))) else some ((.inr (.inr (st58.1))))
def L.leak_Least (l_0 : List Balance) (a_1 : Accuracy) (width_2 : Int) (threshold_3 : Int) : Option (Int × Int) := Option.bind (L.leak_check l_0 a_1 width_2 threshold_3) fun r4 => if (r4 != 0) = true then some (0, r4) else Option.bind (loopN (L.leak_Least.B2 l_0 a_1 width_2 threshold_3) lots (1, width_2)) fun o67 => Sum.elim (fun d80 => some d80) (fun d81 => L.leak_Least.J1 d81) o67

/-- batchlinelaw35.awake -/
def L.law35_awake.J1 (j23 : Bool) : Option Bool := some j23
def L.law35_awake : Option Bool := Option.bind (L.leak_Alarms ([(⟨0, 0, 9⟩ : Balance), (⟨8, 5, 9⟩ : Balance), (⟨8, 5, 9⟩ : Balance)] : List Balance) (⟨0, 0⟩ : Accuracy) 2 5) fun r5 => Option.bind (L.leak_Least ([(⟨0, 0, 9⟩ : Balance), (⟨8, 5, 9⟩ : Balance), (⟨8, 5, 9⟩ : Balance)] : List Balance) (⟨0, 0⟩ : Accuracy) 2 5) fun r9 => Option.bind (L.leak_Alarms ([(⟨0, 0, 9⟩ : Balance), (⟨8, 5, 9⟩ : Balance), (⟨8, 5, 9⟩ : Balance)] : List Balance) (⟨0, 0⟩ : Accuracy) 2 6) fun r12 => if (r5.2 == 0) = true then if (r9.2 == 0) = true then if (r12.2 == 0) = true then if ((r5.1.length : Int) == 1) = true then Option.bind (ix r5.1 0) fun p28 => if (p28.2 == 2) = true then if (r9.1 == 3) = true then L.law35_awake.J1 ((r12.1.length : Int) == 0) else L.law35_awake.J1 false else L.law35_awake.J1 false else L.law35_awake.J1 false else L.law35_awake.J1 false else L.law35_awake.J1 false else L.law35_awake.J1 false

/-- leak.shares -/
def L.leak_shares.J1 (j36 : Unit) : Option Bool := some false
def L.leak_shares.J3 (j81 : Bool) : Option (Unit ⊕ (Bool)) := if j81 = true then some ((.inr (true))) else some (.inl ())
def L.leak_shares.B2 (a_0 : Segment) (b_1 : Segment) (metered_2 : List Bool) (k39 : Nat) (st55 : Unit) : Option (Unit ⊕ (Bool)) := Option.bind (ix ([a_0.From, a_0.To] : List Int) (k39 : Int)) fun p75 => Option.bind (ix metered_2 p75.2) fun p83 => if (!p83.2) = true then if (p75.2 == b_1.From) = true then L.leak_shares.J3 true else L.leak_shares.J3 (p75.2 == b_1.To) else L.leak_shares.J3 false
def L.leak_shares (a_0 : Segment) (b_1 : Segment) (metered_2 : List Bool) : Option Bool := Option.bind (forI (L.leak_shares.B2 a_0 b_1 metered_2) 0 (([a_0.From, a_0.To] : List Int).length) ()) fun o67 => Sum.elim (fun st55 => L.leak_shares.J1 ()) (fun d89 => some d89) o67

/-- leak.join -/
def L.leak_join (l : List (Int × Int)) (a b : Int) : Option (List (Int × Int)) := if (l.map Prod.fst).Nodup then some (l.map fun kx => (kx.1, if (kx.2 == a || kx.2 == b) = true then min a b else kx.2)) else none

/-- leak.Sections -/
def L.leak_Sections.J2 (j290 : List (List Int)) : Option ((List (List Int)) × Int) := some (j290, 0)
def L.leak_Sections.J4 (k294 : Nat) (j382 : (List (Int × Int)) × (List (List Int)) × Int) : Option ((List (Int × Int)) × (List (List Int))) := Option.bind (ix j382.2.1 j382.2.2) fun p385 => Option.bind (app? p385.2 ([(k294 : Int)] : List Int)) fun l388 => some (j382.1, (j382.2.1.set p385.1 l388))
def L.leak_Sections.B3 (j211 : List (Int × Int)) (k294 : Nat) (x297 : Segment) (st343 : (List (Int × Int)) × (List (List Int))) : Option ((List (Int × Int)) × (List (List Int))) := if (!((mget st343.1 ((mget j211 (k294 : Int)).getD (0 : Int))).isSome)) = true then Option.bind (app? st343.2 [[]]) fun l394 => L.leak_Sections.J4 k294 ((mput st343.1 ((mget j211 (k294 : Int)).getD (0 : Int)) (st343.2.length : Int)), l394, (st343.2.length : Int)) else L.leak_Sections.J4 k294 (st343.1, st343.2, ((mget st343.1 ((mget j211 (k294 : Int)).getD (0 : Int))).getD (0 : Int)))
def L.leak_Sections.J1 (n_0 : Network) (j211 : List (Int × Int)) : Option ((List (List Int)) × Int) := Option.bind (forS (L.leak_Sections.B3 j211) 0 n_0.Segments (([] : List (Int × Int)), [])) fun st343 => L.leak_Sections.J2 st343.2
def L.leak_Sections.J6 (j665 : List (Int × Int)) : Option (List (Int × Int)) := some j665
def L.leak_Sections.J8 (j743 : List (Int × Int)) : Option (List (Int × Int)) := some j743
def L.leak_Sections.J9 (k401 : Nat) (k670 : Nat) (st708 : List (Int × Int)) (j752 : Bool) : Option (List (Int × Int)) := if j752 = true then Option.bind (L.leak_join st708 ((mget st708 (k670 : Int)).getD (0 : Int)) ((mget st708 (k401 : Int)).getD (0 : Int))) fun r754 => L.leak_Sections.J8 r754 else L.leak_Sections.J8 st708
def L.leak_Sections.B7 (n_0 : Network) (metered_1 : List Bool) (k401 : Nat) (x404 : Segment) (k670 : Nat) (st708 : List (Int × Int)) : Option (List (Int × Int)) := Option.bind (ix n_0.Segments (k670 : Int)) fun p746 => Option.bind (L.leak_shares x404 p746.2 metered_1) fun r756 => if r756 = true then L.leak_Sections.J9 k401 k670 st708 (((mget st708 (k670 : Int)).getD (0 : Int)) != ((mget st708 (k401 : Int)).getD (0 : Int))) else L.leak_Sections.J9 k401 k670 st708 false
def L.leak_Sections.B5 (n_0 : Network) (metered_1 : List Bool) (k401 : Nat) (x404 : Segment) (st534 : List (Int × Int)) : Option (List (Int × Int)) := Option.bind (chk ((k401 : Int) ≤ 9223372036854775806)) fun u673 => Option.bind (forJ (L.leak_Sections.B7 n_0 metered_1 k401 x404) 0 ((k401 : Int).toNat) (mput st534 (k401 : Int) (k401 : Int))) fun st708 => L.leak_Sections.J6 st708
def L.leak_Sections (n_0 : Network) (metered_1 : List Bool) : Option ((List (List Int)) × Int) := Option.bind (L.network_Check n_0) fun r4 => if (r4 != 0) = true then some ([], r4) else if ((metered_1.length : Int) != (n_0.Nodes.length : Int)) = true then some ([], 9) else Option.bind (forS (L.leak_Sections.B5 n_0 metered_1) 0 n_0.Segments ([] : List (Int × Int))) fun st534 => L.leak_Sections.J1 n_0 st534

/-- batchlineref34.right -/
def L.ref34_right (n_0 : Int) : Bool := (decide (n_0 ≥ 0) && decide (n_0 ≤ 1099511627776))

/-- batchlineref34.Check -/
def L.ref34_Check.J1 (j33 : Unit) : Option Int := some 0
def L.ref34_Check.J3 (st54 : Int) (j74 : Bool) : Option (Int ⊕ (Int ⊕ Unit)) := if j74 = true then some ((.inr (.inl (1)))) else some (.inl (wr (st54 + 1)))
def L.ref34_Check.B2 (l_0 : List Balance) (st54 : Int) : Option (Int ⊕ (Int ⊕ Unit)) := if decide (st54 < (l_0.length : Int)) = true then Option.bind (ix l_0 st54) fun p76 => if (!(L.ref34_right p76.2.In)) = true then L.ref34_Check.J3 st54 true else if (!(L.ref34_right p76.2.Out)) = true then L.ref34_Check.J3 st54 true else L.ref34_Check.J3 st54 (!(L.ref34_right p76.2.Pack)) else some ((.inr (.inr (()))))
def L.ref34_Check (l_0 : List Balance) : Option Int := if decide ((l_0.length : Int) > 400) = true then some 4 else Option.bind (loopN (L.ref34_Check.B2 l_0) lots 0) fun o63 => Sum.elim (fun d80 => some d80) (fun d81 => L.ref34_Check.J1 d81) o63

/-- batchlinesecond.Few -/
def L.second_Few (l_0 : List Int) : Bool := (decide ((l_0.length : Int) ≤ 400))

/-- batchlinelaw35.LeakSections -/
def L.law35_LeakSections.J6 (j596 : Bool) : Option Bool := some j596
def L.law35_LeakSections.J5 (j590 : Unit) : Option Bool := Option.bind (L.ref34_Check []) fun r597 => if (r597 == 0) = true then Option.bind (L.law35_awake) fun r600 => L.law35_LeakSections.J6 r600 else L.law35_LeakSections.J6 false
def L.law35_LeakSections.J8 (st821 : Int) (j1042 : Unit) : Option (Int ⊕ (Bool ⊕ Unit)) := some (.inl (wr (st821 + 1)))
def L.law35_LeakSections.J12 (st1115 : Int) (j1183 : Bool) : Option (Int ⊕ (Bool ⊕ Unit)) := if j1183 = true then some ((.inr (.inl (false)))) else some (.inl (wr (st1115 + 1)))
def L.law35_LeakSections.J11 (j261 : List Int) (p1044 : Nat × Int) (st1115 : Int) (j1177 : Bool) : Option (Int ⊕ (Bool ⊕ Unit)) := if j1177 = true then Option.bind (ix j261 st1115) fun p1186 => L.law35_LeakSections.J12 st1115 (p1044.2 != p1186.2) else L.law35_LeakSections.J12 st1115 false
def L.law35_LeakSections.J10 (j60 : (List Bool) × (List Bool)) (j261 : List Int) (p1044 : Nat × Int) (st1115 : Int) (j1161 : ByteArray × Int × Int × Int × Int × Int × (List Point) × ByteArray × Int × Int × Int × Int × Int × (List Point)) : Option (Int ⊕ (Bool ⊕ Unit)) := Option.bind (ix j60.1 j1161.2.1) fun p1190 => if (!p1190.2) = true then if (j1161.2.1 == j1161.2.2.2.2.2.2.2.2.1) = true then L.law35_LeakSections.J11 j261 p1044 st1115 true else if (j1161.2.1 == j1161.2.2.2.2.2.2.2.2.2.1) = true then L.law35_LeakSections.J11 j261 p1044 st1115 true else Option.bind (ix j60.1 j1161.2.2.1) fun p1195 => if (!p1195.2) = true then if (j1161.2.2.1 == j1161.2.2.2.2.2.2.2.2.1) = true then L.law35_LeakSections.J11 j261 p1044 st1115 true else L.law35_LeakSections.J11 j261 p1044 st1115 (j1161.2.2.1 == j1161.2.2.2.2.2.2.2.2.2.1) else L.law35_LeakSections.J11 j261 p1044 st1115 false else Option.bind (ix j60.1 j1161.2.2.1) fun p1199 => if (!p1199.2) = true then if (j1161.2.2.1 == j1161.2.2.2.2.2.2.2.2.1) = true then L.law35_LeakSections.J11 j261 p1044 st1115 true else L.law35_LeakSections.J11 j261 p1044 st1115 (j1161.2.2.1 == j1161.2.2.2.2.2.2.2.2.2.1) else L.law35_LeakSections.J11 j261 p1044 st1115 false
def L.law35_LeakSections.B9 (r11 : Network × batchlinekeep_Src) (j60 : (List Bool) × (List Bool)) (j261 : List Int) (st821 : Int) (p1044 : Nat × Int) (st1115 : Int) : Option (Int ⊕ (Bool ⊕ Unit)) := if decide (st1115 < st821) = true then Option.bind (ix r11.1.Segments st821) fun p1203 => Option.bind (ix r11.1.Segments st1115) fun p1205 => L.law35_LeakSections.J10 j60 j261 p1044 st1115 (p1203.2.Name, p1203.2.From, p1203.2.To, p1203.2.Capacity, p1203.2.Resist, p1203.2.Wave, p1203.2.Points, p1205.2.Name, p1205.2.From, p1205.2.To, p1205.2.Capacity, p1205.2.Resist, p1205.2.Wave, p1205.2.Points) else some ((.inr (.inr (()))))
def L.law35_LeakSections.B7 (r11 : Network × batchlinekeep_Src) (j60 : (List Bool) × (List Bool)) (j261 : List Int) (st821 : Int) : Option (Int ⊕ (Bool ⊕ Unit)) := if decide (st821 < (j261.length : Int)) = true then Option.bind (ix j261 st821) fun p1044 => if decide (p1044.2 < 0) = true then some ((.inr (.inl (false)))) else Option.bind (loopN (L.law35_LeakSections.B9 r11 j60 j261 st821 p1044) lots 0) fun o1148 => Sum.elim (fun d1209 => some ((.inr (.inl (d1209))))) (fun d1210 => L.law35_LeakSections.J8 st821 d1210) o1148 else some ((.inr (.inr (()))))
def L.law35_LeakSections.J4 (r11 : Network × batchlinekeep_Src) (j60 : (List Bool) × (List Bool)) (j261 : List Int) : Option Bool := Option.bind (loopN (L.law35_LeakSections.B7 r11 j60 j261) lots 0) fun o930 => Sum.elim (fun d1211 => some d1211) (fun d1212 => L.law35_LeakSections.J5 d1212) o930
def L.law35_LeakSections.J14 (st1323 : (List Int) × Int) (j1434 : List Int) : Option (((List Int) × Int) ⊕ (Bool ⊕ (List Int))) := some (.inl (j1434, wr (st1323.2 + 1)))
def L.law35_LeakSections.J16 (st1323 : (List Int) × Int) (st1469 : (List Int) × Int) (p1495 : Nat × Int) (j1501 : Bool) : Option (((List Int) × Int) ⊕ (Bool ⊕ (List Int))) := if j1501 = true then some ((.inr (.inl (false)))) else Option.bind (ix st1469.1 p1495.2) fun p1503 => some (.inl ((st1469.1.set p1503.1 st1323.2), wr (st1469.2 + 1)))
def L.law35_LeakSections.B15 (r64 : (List (List Int)) × Int) (st1323 : (List Int) × Int) (st1469 : (List Int) × Int) : Option (((List Int) × Int) ⊕ (Bool ⊕ (List Int))) := Option.bind (ix r64.1 st1323.2) fun p1491 => if decide (st1469.2 < (p1491.2.length : Int)) = true then Option.bind (ix p1491.2 st1469.2) fun p1495 => if decide (p1495.2 < 0) = true then L.law35_LeakSections.J16 st1323 st1469 p1495 true else if decide (p1495.2 ≥ (st1469.1.length : Int)) = true then L.law35_LeakSections.J16 st1323 st1469 p1495 true else Option.bind (ix st1469.1 p1495.2) fun p1507 => L.law35_LeakSections.J16 st1323 st1469 p1495 (decide (p1507.2 ≥ 0)) else some ((.inr (.inr (st1469.1))))
def L.law35_LeakSections.B13 (r64 : (List (List Int)) × Int) (st1323 : (List Int) × Int) : Option (((List Int) × Int) ⊕ (Bool ⊕ (List Int))) := if decide (st1323.2 < (r64.1.length : Int)) = true then Option.bind (loopN (L.law35_LeakSections.B15 r64 st1323) lots (st1323.1, 0)) fun o1485 => Sum.elim (fun d1509 => some ((.inr (.inl (d1509))))) (fun d1510 => L.law35_LeakSections.J14 st1323 d1510) o1485 else some ((.inr (.inr (st1323.1))))
def L.law35_LeakSections.J3 (r11 : Network × batchlinekeep_Src) (j60 : (List Bool) × (List Bool)) (r64 : (List (List Int)) × Int) (j96 : List Int) : Option Bool := Option.bind (loopN (L.law35_LeakSections.B13 r64) lots (j96, 0)) fun o1377 => Sum.elim (fun d1511 => some d1511) (fun d1512 => L.law35_LeakSections.J4 r11 j60 d1512) o1377
def L.law35_LeakSections.B17 (st1523 : (List Int) × Int) : Option (((List Int) × Int) ⊕ ((List Int))) := if decide (st1523.2 < (st1523.1.length : Int)) = true then Option.bind (ix st1523.1 st1523.2) fun p1533 => some (.inl ((st1523.1.set p1533.1 (-1)), wr (st1523.2 + 1))) else some ((.inr (st1523.1)))
def L.law35_LeakSections.J2 (r11 : Network × batchlinekeep_Src) (j60 : (List Bool) × (List Bool)) (r64 : (List (List Int)) × Int) (j75 : Bool) : Option Bool := if j75 = true then some false else Option.bind (mk? (r11.1.Segments.length : Int) (0 : Int)) fun l78 => Option.bind (loopN L.law35_LeakSections.B17 lots (l78, 0)) fun d1535 => L.law35_LeakSections.J3 r11 j60 r64 d1535
def L.law35_LeakSections.J1 (r11 : Network × batchlinekeep_Src) (j60 : (List Bool) × (List Bool)) : Option Bool := Option.bind (L.leak_Sections r11.1 j60.1) fun r64 => Option.bind (L.leak_Sections r11.1 j60.2) fun r67 => if (r64.2 != 0) = true then L.law35_LeakSections.J2 r11 j60 r64 true else if (r67.2 != 0) = true then L.law35_LeakSections.J2 r11 j60 r64 true else Option.bind (L.ref12_Check r11.1) fun r1538 => if (r1538 != 0) = true then L.law35_LeakSections.J2 r11 j60 r64 true else L.law35_LeakSections.J2 r11 j60 r64 ((r67.1.length : Int) != (r11.1.Segments.length : Int))
def L.law35_LeakSections.B18 (r11 : Network × batchlinekeep_Src) (st1571 : (List Int) × Int × (List Bool) × (List Bool) × Int) : Option (((List Int) × Int × (List Bool) × (List Bool) × Int) ⊕ (((List Bool) × (List Bool)))) := if decide (st1571.2.2.2.2 < (r11.1.Nodes.length : Int)) = true then Option.bind (L.keep_Src_N (⟨st1571.1, st1571.2.1⟩ : batchlinekeep_Src) 2) fun r1593 => Option.bind (app? st1571.2.2.1 ([(r1593.1 == 0)] : List Bool)) fun l1596 => Option.bind (app? st1571.2.2.2.1 ([true] : List Bool)) fun l1600 => some (.inl (r1593.2.L_, r1593.2.At, l1596, l1600, wr (st1571.2.2.2.2 + 1))) else some ((.inr ((st1571.2.2.1, st1571.2.2.2.1))))
def L.law35_LeakSections (l_0 : List Int) : Option Bool := if (!(L.second_Few l_0)) = true then Option.bind (L.law35_awake) fun r4 => some r4 else Option.bind (L.keep_New l_0) fun r7 => Option.bind (L.keep_Src_Network r7) fun r11 => Option.bind (loopN (L.law35_LeakSections.B18 r11) lots (r11.2.L_, r11.2.At, [], [], 0)) fun d1603 => L.law35_LeakSections.J1 r11 d1603

end Go.Proofs.Ytndfiddakngjdaa
