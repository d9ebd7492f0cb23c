/- Pure functions for functions of the program; printed by a program of ours. No condition. -/
import Derived.Test.YtndfiddakngjdaaD
namespace Go.Proofs.Ytndfiddakngjdaa
open Go.Aw
set_option linter.unusedVariables false
set_option linter.unusedSimpArgs false



/-- batchlinekeep.Ints -/
def L.keep_Ints.J1 (j26 : Unit) : Option Bool := some true
def L.keep_Ints.B2 (b_1 : List Int) (k28 : Nat) (x31 : Int) (st40 : Unit) : Option (Unit ⊕ (Bool)) := Option.bind (ix b_1 (k28 : Int)) fun p55 => if (x31 != p55.2) = true then some ((.inr (false))) else some (.inl ())
def L.keep_Ints (a_0 : List Int) (b_1 : List Int) : Option Bool := if ((a_0.length : Int) != (b_1.length : Int)) = true then some false else Option.bind (forL (L.keep_Ints.B2 b_1) 0 a_0 ()) fun o47 => Sum.elim (fun st40 => L.keep_Ints.J1 ()) (fun d60 => some d60) o47

/-- batchlinekeep.Lists -/
def L.keep_Lists.J1 (j30 : Unit) : Option Bool := some true
def L.keep_Lists.B2 (b_1 : List (List Int)) (k32 : Nat) (x35 : List Int) (st46 : Unit) : Option (Unit ⊕ (Bool)) := Option.bind (ix b_1 (k32 : Int)) fun p63 => Option.bind (L.keep_Ints x35 p63.2) fun r65 => if (!r65) = true then some ((.inr (false))) else some (.inl ())
def L.keep_Lists (a_0 : List (List Int)) (b_1 : List (List Int)) : Option Bool := if ((a_0.length : Int) != (b_1.length : Int)) = true then some false else Option.bind (forL (L.keep_Lists.B2 b_1) 0 a_0 ()) fun o55 => Sum.elim (fun st46 => L.keep_Lists.J1 ()) (fun d70 => some d70) o55

/-- surge.start -/
def L.surge_start.J1 (j22 : Arr Int 24) : Option (Arr Int 24) := some j22
def L.surge_start.B2 (k24 : Nat) (st36 : Arr Int 24) : Option (Arr Int 24) := Option.bind (ix st36.l (k24 : Int)) fun p46 => some (st36.set p46.1 (k24 : Int))
def L.surge_start : Option (Arr Int 24) := Option.bind (forJ L.surge_start.B2 0 24 (Arr.rep 24 (0 : Int))) fun st36 => L.surge_start.J1 st36

/-- (*surge.union).find -/
def L.surge_union_find.J1 (j30 : (Arr Int 24) × Int) : Option (Int × (Arr Int 24)) := some (j30.2, j30.1)
def L.surge_union_find.B2 (st50 : (Arr Int 24) × Int) : Option (((Arr Int 24) × Int) ⊕ (((Arr Int 24) × Int))) := Option.bind (ix st50.1.l st50.2) fun p65 => if (p65.2 != st50.2) = true then Option.bind (ix st50.1.l p65.2) fun p68 => Option.bind (ix ((st50.1.set p65.1 p68.2).l) st50.2) fun p70 => some (.inl ((st50.1.set p65.1 p68.2), p70.2)) else some ((.inr ((st50.1, st50.2))))
def L.surge_union_find (u_0 : Arr Int 24) (k_1 : Int) : Option (Int × (Arr Int 24)) := Option.bind (loopN L.surge_union_find.B2 lots (u_0, k_1)) fun d72 => L.surge_union_find.J1 d72

/-- (*surge.union).join -/
def L.surge_union_join (u_0 : Arr Int 24) (a_1 : Int) (b_2 : Int) : Option (Arr Int 24) := Option.bind (L.surge_union_find u_0 a_1) fun r1 => Option.bind (L.surge_union_find r1.2 b_2) fun r3 => Option.bind (ix r3.2.l r1.1) fun p5 => some (r3.2.set p5.1 r3.1)

/-- surge.groups$1 -/
def L.surge_groups_1.J1 (j7 : Bool) : Option Bool := some j7
def L.surge_groups_1 (i_0 : Int) (a_1 : Plan) (a_2 : Plan) : Option Bool := Option.bind (ix a_1.Rates i_0) fun p8 => if (p8.2 != 0) = true then L.surge_groups_1.J1 true else Option.bind (ix a_2.Rates i_0) fun p11 => L.surge_groups_1.J1 (p11.2 != 0)

/-- surge.groups -/
def L.surge_groups.J2 (j188 : List (List Int)) : Option (List (List Int)) := some j188
def L.surge_groups.J4 (j363 : (Arr Int 24) × (List (List Int)) × (List Int)) : Option ((Arr Int 24) × (List (List Int)) × (List Int)) := some (j363.1, j363.2.1, j363.2.2)
def L.surge_groups.J5 (k192 : Nat) (r374 : Int × (Arr Int 24)) (j390 : (List (List Int)) × (List Int) × Int) : Option ((Arr Int 24) × (List (List Int)) × (List Int)) := Option.bind (ix j390.1 j390.2.2) fun p394 => Option.bind (app? p394.2 ([(k192 : Int)] : List Int)) fun l397 => L.surge_groups.J4 (r374.2, (j390.1.set p394.1 l397), j390.2.1)
def L.surge_groups.B3 (a_1 : Plan) (b_2 : Plan) (k192 : Nat) (x195 : Segment) (st280 : (Arr Int 24) × (List (List Int)) × (List Int)) : Option ((Arr Int 24) × (List (List Int)) × (List Int)) := Option.bind (L.surge_groups_1 (k192 : Int) a_1 b_2) fun r370 => if (!r370) = true then L.surge_groups.J4 (st280.1, st280.2.1, st280.2.2) else Option.bind (L.surge_union_find st280.1 x195.From) fun r374 => Option.bind (L.slices_Index_int_int st280.2.2 r374.1) fun r377 => if decide (r377 < 0) = true then Option.bind (app? st280.2.2 ([r374.1] : List Int)) fun l403 => Option.bind (app? st280.2.1 [[]]) fun l407 => L.surge_groups.J5 k192 r374 (l407, l403, (st280.2.2.length : Int)) else L.surge_groups.J5 k192 r374 (st280.2.1, st280.2.2, r377)
def L.surge_groups.J1 (n_0 : Network) (a_1 : Plan) (b_2 : Plan) (j51 : Arr Int 24) : Option (List (List Int)) := Option.bind (forS (L.surge_groups.B3 a_1 b_2) 0 n_0.Segments (j51, [], [])) fun st280 => L.surge_groups.J2 st280.2.1
def L.surge_groups.J7 (j466 : Arr Int 24) : Option (Arr Int 24) := some j466
def L.surge_groups.B6 (a_1 : Plan) (b_2 : Plan) (k414 : Nat) (x417 : Segment) (st441 : Arr Int 24) : Option (Arr Int 24) := Option.bind (L.surge_groups_1 (k414 : Int) a_1 b_2) fun r469 => if r469 = true then Option.bind (L.surge_union_join st441 x417.From x417.To) fun r472 => L.surge_groups.J7 r472 else L.surge_groups.J7 st441
def L.surge_groups (n_0 : Network) (a_1 : Plan) (b_2 : Plan) : Option (List (List Int)) := Option.bind (L.surge_start) fun r7 => Option.bind (forS (L.surge_groups.B6 a_1 b_2) 0 n_0.Segments r7) fun st441 => L.surge_groups.J1 n_0 a_1 b_2 st441

/-- surge.check -/
def L.surge_check (n_0 : Network) (a_1 : Plan) (b_2 : Plan) : Option Int := Option.bind (L.flow_Check n_0 a_1) fun r5 => if (r5 != 0) = true then some r5 else Option.bind (L.flow_Check n_0 b_2) fun r8 => some r8

/-- surge.Groups -/
def L.surge_Groups (n_0 : Network) (a_1 : Plan) (b_2 : Plan) : Option ((List (List Int)) × Int) := Option.bind (L.surge_check n_0 a_1 b_2) fun r5 => if (r5 != 0) = true then some ([], r5) else Option.bind (L.surge_groups n_0 a_1 b_2) fun r8 => some (r8, 0)

/-- surge.rise -/
def L.surge_rise.J1 (j233 : List Int) : Option (List Int) := some j233
def L.surge_rise.J3 (j529 : List Int) : Option (List Int) := some j529
def L.surge_rise.B5 (j573 : Int) (k575 : Nat) (x578 : Int) (st590 : List Int) : Option (List Int) := Option.bind (ix st590 x578) fun p602 => some (st590.set p602.1 j573)
def L.surge_rise.J4 (x240 : List Int) (st384 : List Int) (j573 : Int) : Option (List Int) := Option.bind (forS (L.surge_rise.B5 j573) 0 x240 st384) fun st590 => L.surge_rise.J3 st590
def L.surge_rise.B6 (n_0 : Network) (a_1 : Plan) (b_2 : Plan) (k607 : Nat) (x610 : Int) (st634 : Int) : Option Int := Option.bind (ix b_2.Rates x610) fun p654 => Option.bind (ix a_1.Rates x610) fun p656 => Option.bind (ix n_0.Segments x610) fun p658 => some (wr (st634 + (wr (p658.2.Wave * (max (wr (p654.2 - p656.2)) (wr (0 - (wr (p654.2 - p656.2)))))))))
def L.surge_rise.B2 (n_0 : Network) (a_1 : Plan) (b_2 : Plan) (k237 : Nat) (x240 : List Int) (st384 : List Int) : Option (List Int) := Option.bind (forS (L.surge_rise.B6 n_0 a_1 b_2) 0 x240 0) fun st634 => L.surge_rise.J4 x240 st384 st634
def L.surge_rise (n_0 : Network) (a_1 : Plan) (b_2 : Plan) : Option (List Int) := Option.bind (mk? (n_0.Segments.length : Int) (0 : Int)) fun l6 => Option.bind (L.surge_groups n_0 a_1 b_2) fun r235 => Option.bind (forS (L.surge_rise.B2 n_0 a_1 b_2) 0 r235 l6) fun st384 => L.surge_rise.J1 st384

/-- surge.Rise -/
def L.surge_Rise (n_0 : Network) (a_1 : Plan) (b_2 : Plan) : Option ((List Int) × Int) := Option.bind (L.surge_check n_0 a_1 b_2) fun r5 => if (r5 != 0) = true then some ([], r5) else Option.bind (L.surge_rise n_0 a_1 b_2) fun r8 => some (r8, 0)

/-- batchlinelaw22.two -/
def L.law22_two.J1 (j50 : List Segment) : Option Network := some (⟨([(⟨#[97]⟩ : ByteArray), (⟨#[98]⟩ : ByteArray), (⟨#[99]⟩ : ByteArray)] : List ByteArray), j50, ([(⟨(⟨#[105, 110]⟩ : ByteArray), 0, 1000000⟩ : Port), (⟨(⟨#[111, 117, 116]⟩ : ByteArray), 2, 0⟩ : Port)] : List Port), [], 0, 5⟩ : Network)
def L.law22_two.J3 (st81 : (List Segment) × Int) (j110 : List Segment) : Option (((List Segment) × Int) ⊕ ((List Segment))) := some (.inl (j110, wr (st81.2 + 1)))
def L.law22_two.B2 (st81 : (List Segment) × Int) : Option (((List Segment) × Int) ⊕ ((List Segment))) := if decide (st81.2 < 2) = true then Option.bind (ix ([(⟨#[120]⟩ : ByteArray), (⟨#[121]⟩ : ByteArray)] : List ByteArray) st81.2) fun p113 => Option.bind (app? st81.1 ([(⟨p113.2, st81.2, wr (st81.2 + 1), 100, 0, wr (10 + (wr (10 * st81.2))), ([(⟨0, 0, 2000000⟩ : Point), (⟨100, 0, 2000000⟩ : Point)] : List Point)⟩ : Segment)] : List Segment)) fun l117 => L.law22_two.J3 st81 l117 else some ((.inr (st81.1)))
def L.law22_two : Option Network := Option.bind (loopN L.law22_two.B2 lots ([], 0)) fun d120 => L.law22_two.J1 d120

/-- batchlinelaw22.steadyPlan -/
def L.law22_steadyPlan (rate_0 : Int) : Plan := (⟨([rate_0, rate_0] : List Int), ([rate_0, wr (0 - rate_0)] : List Int), []⟩ : Plan)

/-- batchlinelaw22.awake -/
def L.law22_awake.J1 (j23 : Bool) : Option Bool := some j23
def L.law22_awake : Option Bool := Option.bind (L.law22_two) fun r3 => Option.bind (L.surge_Rise r3 (L.law22_steadyPlan 100) (L.law22_steadyPlan 80)) fun r5 => Option.bind (L.law22_two) fun r9 => Option.bind (L.surge_Groups r9 (L.law22_steadyPlan 0) (L.law22_steadyPlan 80)) fun r11 => if (r5.2 == 0) = true then Option.bind (L.keep_Ints r5.1 ([600, 600] : List Int)) fun r26 => if r26 = true then if (r11.2 == 0) = true then Option.bind (L.keep_Lists r11.1 ([([0, 1] : List Int)] : List (List Int))) fun r32 => L.law22_awake.J1 r32 else L.law22_awake.J1 false else L.law22_awake.J1 false else L.law22_awake.J1 false

/-- batchlinelaw22.SurgeGroups -/
def L.law22_SurgeGroups.J4 (j416 : Unit) : Option Bool := Option.bind (L.law22_awake) fun r417 => some r417
def L.law22_SurgeGroups.J6 (j734 : Unit) : Option (Unit ⊕ (Bool)) := some (.inl ())
def L.law22_SurgeGroups.J9 (j871 : Bool) : Option (Unit ⊕ (Bool)) := if j871 = true then some ((.inr (false))) else some (.inl ())
def L.law22_SurgeGroups.B8 (j203 : List Int) (k420 : Nat) (x423 : Segment) (k750 : Nat) (x753 : Segment) (st793 : Unit) : Option (Unit ⊕ (Bool)) := Option.bind (ix j203 (k420 : Int)) fun p873 => if decide (p873.2 ≥ 0) = true then Option.bind (ix j203 (k750 : Int)) fun p876 => if decide (p876.2 ≥ 0) = true then if (x423.From == x753.From) = true then L.law22_SurgeGroups.J9 (p873.2 != p876.2) else if (x423.From == x753.To) = true then L.law22_SurgeGroups.J9 (p873.2 != p876.2) else if (x423.To == x753.From) = true then L.law22_SurgeGroups.J9 (p873.2 != p876.2) else if (x423.To == x753.To) = true then L.law22_SurgeGroups.J9 (p873.2 != p876.2) else L.law22_SurgeGroups.J9 false else L.law22_SurgeGroups.J9 false else L.law22_SurgeGroups.J9 false
def L.law22_SurgeGroups.J7 (r7 : Network × batchlinekeep_Src) (j203 : List Int) (k420 : Nat) (x423 : Segment) (j747 : Bool) : Option (Unit ⊕ (Bool)) := if j747 = true then some ((.inr (false))) else Option.bind (forL (L.law22_SurgeGroups.B8 j203 k420 x423) 0 r7.1.Segments ()) fun o831 => Sum.elim (fun st793 => L.law22_SurgeGroups.J6 ()) (fun d906 => some ((.inr (d906)))) o831
def L.law22_SurgeGroups.B5 (r7 : Network × batchlinekeep_Src) (j16 : (List Int) × (List Int) × (List Bool) × (List Int) × (List Int) × (List Bool)) (j203 : List Int) (k420 : Nat) (x423 : Segment) (st527 : Unit) : Option (Unit ⊕ (Bool)) := Option.bind (ix j203 (k420 : Int)) fun p907 => Option.bind (ix j16.1 (k420 : Int)) fun p909 => if (p909.2 != 0) = true then L.law22_SurgeGroups.J7 r7 j203 k420 x423 (decide (p907.2 ≥ 0) != true) else Option.bind (ix j16.2.2.2.1 (k420 : Int)) fun p913 => L.law22_SurgeGroups.J7 r7 j203 k420 x423 (decide (p907.2 ≥ 0) != (p913.2 != 0))
def L.law22_SurgeGroups.J3 (r7 : Network × batchlinekeep_Src) (j16 : (List Int) × (List Int) × (List Bool) × (List Int) × (List Int) × (List Bool)) (j203 : List Int) : Option Bool := Option.bind (forL (L.law22_SurgeGroups.B5 r7 j16 j203) 0 r7.1.Segments ()) fun o629 => Sum.elim (fun st527 => L.law22_SurgeGroups.J4 ()) (fun d918 => some d918) o629
def L.law22_SurgeGroups.J11 (j1124 : List Int) : Option ((List Int) ⊕ (Bool)) := some (.inl j1124)
def L.law22_SurgeGroups.J13 (k920 : Nat) (x1130 : Int) (st1156 : List Int) (j1180 : Bool) : Option ((List Int) ⊕ (Bool)) := if j1180 = true then some ((.inr (false))) else Option.bind (ix st1156 x1130) fun p1182 => some (.inl (st1156.set p1182.1 (k920 : Int)))
def L.law22_SurgeGroups.B12 (k920 : Nat) (k1127 : Nat) (x1130 : Int) (st1156 : List Int) : Option ((List Int) ⊕ (Bool)) := if decide (x1130 < 0) = true then L.law22_SurgeGroups.J13 k920 x1130 st1156 true else if decide (x1130 ≥ (st1156.length : Int)) = true then L.law22_SurgeGroups.J13 k920 x1130 st1156 true else Option.bind (ix st1156 x1130) fun p1186 => L.law22_SurgeGroups.J13 k920 x1130 st1156 (decide (p1186.2 ≥ 0))
def L.law22_SurgeGroups.B10 (k920 : Nat) (x923 : List Int) (st1023 : List Int) : Option ((List Int) ⊕ (Bool)) := Option.bind (forL (L.law22_SurgeGroups.B12 k920) 0 x923 st1023) fun o1168 => Sum.elim (fun st1156 => L.law22_SurgeGroups.J11 st1156) (fun d1190 => some ((.inr (d1190)))) o1168
def L.law22_SurgeGroups.J2 (r7 : Network × batchlinekeep_Src) (j16 : (List Int) × (List Int) × (List Bool) × (List Int) × (List Int) × (List Bool)) (r20 : (List (List Int)) × Int) (j47 : List Int) : Option Bool := Option.bind (forL L.law22_SurgeGroups.B10 0 r20.1 j47) fun o1072 => Sum.elim (fun st1023 => L.law22_SurgeGroups.J3 r7 j16 st1023) (fun d1193 => some d1193) o1072
def L.law22_SurgeGroups.B14 (k1195 : Nat) (st1207 : List Int) : Option (List Int) := Option.bind (ix st1207 (k1195 : Int)) fun p1217 => some (st1207.set p1217.1 (-1))
def L.law22_SurgeGroups.J1 (r7 : Network × batchlinekeep_Src) (j16 : (List Int) × (List Int) × (List Bool) × (List Int) × (List Int) × (List Bool)) : Option Bool := Option.bind (L.surge_Groups r7.1 (⟨j16.1, j16.2.1, j16.2.2.1⟩ : Plan) (⟨j16.2.2.2.1, j16.2.2.2.2.1, j16.2.2.2.2.2⟩ : Plan)) fun r20 => if (r20.2 != 0) = true then some false else Option.bind (mk? (r7.1.Segments.length : Int) (0 : Int)) fun l25 => Option.bind (forJ L.law22_SurgeGroups.B14 0 l25.length l25) fun st1207 => L.law22_SurgeGroups.J2 r7 j16 r20 st1207
def L.law22_SurgeGroups (l_0 : List Int) : Option Bool := Option.bind (L.keep_New l_0) fun r3 => Option.bind (L.keep_Src_Network r3) fun r7 => Option.bind (L.keep_Src_Plan r7.2 r7.1) fun r1220 => Option.bind (L.keep_Src_Plan r1220.2 r7.1) fun r1222 => L.law22_SurgeGroups.J1 r7 (r1220.1.Rates, r1220.1.Ports, r1220.1.Pumps, r1222.1.Rates, r1222.1.Ports, r1222.1.Pumps)

/-- batchlinelaw22.SurgeTurns -/
def L.law22_SurgeTurns.J5 (j210 : Bool) : Option Bool := some j210
def L.law22_SurgeTurns.J4 (r42 : (List (List Int)) × Int) (j206 : Unit) : Option Bool := if (r42.2 == 0) = true then Option.bind (L.law22_awake) fun r212 => L.law22_SurgeTurns.J5 r212 else L.law22_SurgeTurns.J5 false
def L.law22_SurgeTurns.B6 (r28 : (List Int) × Int) (k215 : Nat) (st225 : Unit) : Option (Unit ⊕ (Bool)) := Option.bind (ix r28.1 (k215 : Int)) fun p238 => if (p238.2 != 0) = true then some ((.inr (false))) else some (.inl ())
def L.law22_SurgeTurns.J3 (r28 : (List Int) × Int) (r42 : (List (List Int)) × Int) (j186 : Unit) : Option Bool := Option.bind (forI (L.law22_SurgeTurns.B6 r28) 0 r28.1.length ()) fun o231 => Sum.elim (fun st225 => L.law22_SurgeTurns.J4 r42 ()) (fun d243 => some d243) o231
def L.law22_SurgeTurns.J8 (j454 : Unit) : Option (Unit ⊕ (Bool)) := some (.inl ())
def L.law22_SurgeTurns.B10 (r20 : (List Int) × Int) (j495 : Int) (k497 : Nat) (x500 : Int) (st509 : Unit) : Option (Unit ⊕ (Bool)) := Option.bind (ix r20.1 x500) fun p524 => if (p524.2 != j495) = true then some ((.inr (false))) else some (.inl ())
def L.law22_SurgeTurns.J9 (r20 : (List Int) × Int) (x248 : List Int) (j495 : Int) : Option (Unit ⊕ (Bool)) := Option.bind (forL (L.law22_SurgeTurns.B10 r20 j495) 0 x248 ()) fun o516 => Sum.elim (fun st509 => L.law22_SurgeTurns.J8 ()) (fun d529 => some ((.inr (d529)))) o516
def L.law22_SurgeTurns.B11 (r7 : Network × batchlinekeep_Src) (j16 : (List Int) × (List Int) × (List Bool) × (List Int) × (List Int) × (List Bool)) (k531 : Nat) (x534 : Int) (st556 : Int) : Option Int := Option.bind (ix r7.1.Segments x534) fun p574 => Option.bind (ix j16.1 x534) fun p576 => Option.bind (ix j16.2.2.2.1 x534) fun p578 => some (wr (st556 + (wr (p574.2.Wave * (L.ref16_Abs (wr (p576.2 - p578.2)))))))
def L.law22_SurgeTurns.B7 (r7 : Network × batchlinekeep_Src) (j16 : (List Int) × (List Int) × (List Bool) × (List Int) × (List Int) × (List Bool)) (r20 : (List Int) × Int) (k245 : Nat) (x248 : List Int) (st317 : Unit) : Option (Unit ⊕ (Bool)) := Option.bind (forS (L.law22_SurgeTurns.B11 r7 j16) 0 x248 0) fun st556 => L.law22_SurgeTurns.J9 r20 x248 st556
def L.law22_SurgeTurns.J2 (r7 : Network × batchlinekeep_Src) (j16 : (List Int) × (List Int) × (List Bool) × (List Int) × (List Int) × (List Bool)) (r20 : (List Int) × Int) (r28 : (List Int) × Int) (j39 : Bool) : Option Bool := if j39 = true then some false else Option.bind (L.surge_Groups r7.1 (⟨j16.1, j16.2.1, j16.2.2.1⟩ : Plan) (⟨j16.2.2.2.1, j16.2.2.2.2.1, j16.2.2.2.2.2⟩ : Plan)) fun r42 => Option.bind (forL (L.law22_SurgeTurns.B7 r7 j16 r20) 0 r42.1 ()) fun o384 => Sum.elim (fun st317 => L.law22_SurgeTurns.J3 r28 r42 ()) (fun d584 => some d584) o384
def L.law22_SurgeTurns.J1 (r7 : Network × batchlinekeep_Src) (j16 : (List Int) × (List Int) × (List Bool) × (List Int) × (List Int) × (List Bool)) : Option Bool := Option.bind (L.surge_Rise r7.1 (⟨j16.1, j16.2.1, j16.2.2.1⟩ : Plan) (⟨j16.2.2.2.1, j16.2.2.2.2.1, j16.2.2.2.2.2⟩ : Plan)) fun r20 => Option.bind (L.surge_Rise r7.1 (⟨j16.2.2.2.1, j16.2.2.2.2.1, j16.2.2.2.2.2⟩ : Plan) (⟨j16.1, j16.2.1, j16.2.2.1⟩ : Plan)) fun r24 => Option.bind (L.surge_Rise r7.1 (⟨j16.1, j16.2.1, j16.2.2.1⟩ : Plan) (⟨j16.1, j16.2.1, j16.2.2.1⟩ : Plan)) fun r28 => if (r20.2 != 0) = true then L.law22_SurgeTurns.J2 r7 j16 r20 r28 true else if (r24.2 != 0) = true then L.law22_SurgeTurns.J2 r7 j16 r20 r28 true else if (r28.2 != 0) = true then L.law22_SurgeTurns.J2 r7 j16 r20 r28 true else if ((r20.1.length : Int) != (r7.1.Segments.length : Int)) = true then L.law22_SurgeTurns.J2 r7 j16 r20 r28 true else if ((r28.1.length : Int) != (r20.1.length : Int)) = true then L.law22_SurgeTurns.J2 r7 j16 r20 r28 true else Option.bind (L.keep_Ints r20.1 r24.1) fun r590 => L.law22_SurgeTurns.J2 r7 j16 r20 r28 (!r590)
def L.law22_SurgeTurns (l_0 : List Int) : Option Bool := Option.bind (L.keep_New l_0) fun r3 => Option.bind (L.keep_Src_Network r3) fun r7 => Option.bind (L.keep_Src_Plan r7.2 r7.1) fun r592 => Option.bind (L.keep_Src_Plan r592.2 r7.1) fun r594 => L.law22_SurgeTurns.J1 r7 (r592.1.Rates, r592.1.Ports, r592.1.Pumps, r594.1.Rates, r594.1.Ports, r594.1.Pumps)

end Go.Proofs.Ytndfiddakngjdaa
