/- Pure functions for functions of the program; printed by a program of ours. No condition. -/
import Derived.Test.YtncfbhnecmnfpaaGreatDoorDg
namespace Go.Proofs.YtncfbhnecmnfpaaGreatDoor
open Go.Aw
set_option linter.unusedVariables false
set_option linter.unusedSimpArgs false



/-- batchlineref19.Limit -/
def L.ref19_Limit.J1 (j51 : Int) : Option Int := some j51
def L.ref19_Limit.J3 (st84 : Int × Int) (j117 : Int) : Option ((Int × Int) ⊕ (Int)) := some (.inl (j117, wr (st84.2 + 1)))
def L.ref19_Limit.J4 (s_0 : Segment) (st84 : Int × Int) (j123 : Bool) : Option ((Int × Int) ⊕ (Int)) := if j123 = true then Option.bind (ix s_0.Points (wr (st84.2 - 1))) fun p125 => Option.bind (ix s_0.Points st84.2) fun p127 => L.ref19_Limit.J3 st84 (min (min st84.1 p125.2.Limit) p127.2.Limit) else L.ref19_Limit.J3 st84 st84.1
def L.ref19_Limit.B2 (s_0 : Segment) (at_1 : Int) (st84 : Int × Int) : Option ((Int × Int) ⊕ (Int)) := if decide (st84.2 < (s_0.Points.length : Int)) = true then Option.bind (ix s_0.Points (wr (st84.2 - 1))) fun p129 => if decide (at_1 ≥ p129.2.At) = true then Option.bind (ix s_0.Points st84.2) fun p132 => L.ref19_Limit.J4 s_0 st84 (decide (at_1 ≤ p132.2.At)) else L.ref19_Limit.J4 s_0 st84 false else some ((.inr (st84.1)))
def L.ref19_Limit (s_0 : Segment) (at_1 : Int) : Option Int := Option.bind (loopN (L.ref19_Limit.B2 s_0 at_1) lots (100000000, 1)) fun d134 => L.ref19_Limit.J1 d134

/-- batchlineref12.in -/
def L.ref12_in (n_0 : Int) (low_1 : Int) (high_2 : Int) : Bool := (decide (n_0 ≥ low_1) && decide (n_0 ≤ high_2))

/-- batchlineref12.names -/
def L.ref12_names.J3 (n_0 : Network) (j41 : List ByteArray) (j77 : List ByteArray) (j113 : List ByteArray) : Option (Arr (List ByteArray) 4) := some (⟨[n_0.Nodes, j41, j77, j113], rfl⟩ : Arr (List ByteArray) 4)
def L.ref12_names.B4 (k116 : Nat) (x119 : Station) (st138 : List ByteArray) : Option (List ByteArray) := Option.bind (app? st138 ([x119.Name] : List ByteArray)) fun l156 => some l156
def L.ref12_names.J2 (n_0 : Network) (j41 : List ByteArray) (j77 : List ByteArray) : Option (Arr (List ByteArray) 4) := Option.bind (forS L.ref12_names.B4 0 n_0.Stations []) fun st138 => L.ref12_names.J3 n_0 j41 j77 st138
def L.ref12_names.B5 (k162 : Nat) (x165 : Port) (st184 : List ByteArray) : Option (List ByteArray) := Option.bind (app? st184 ([x165.Name] : List ByteArray)) fun l202 => some l202
def L.ref12_names.J1 (n_0 : Network) (j41 : List ByteArray) : Option (Arr (List ByteArray) 4) := Option.bind (forS L.ref12_names.B5 0 n_0.Ports []) fun st184 => L.ref12_names.J2 n_0 j41 st184
def L.ref12_names.B6 (k208 : Nat) (x211 : Segment) (st230 : List ByteArray) : Option (List ByteArray) := Option.bind (app? st230 ([x211.Name] : List ByteArray)) fun l248 => some l248
def L.ref12_names (n_0 : Network) : Option (Arr (List ByteArray) 4) := Option.bind (forS L.ref12_names.B6 0 n_0.Segments []) fun st230 => L.ref12_names.J1 n_0 st230

/-- batchlineref03.Name -/
def L.ref03_Name.J2 (j107 : Unit) : Option Bool := some true
def L.ref03_Name.J4 (st172 : Int) (j236 : Bool) : Option (Int ⊕ (Bool ⊕ Unit)) := if j236 = true then some ((.inr (.inl (false)))) else some (.inl (wr (st172 + 1)))
def L.ref03_Name.B3 (s_0 : ByteArray) (st172 : Int) : Option (Int ⊕ (Bool ⊕ Unit)) := if decide (st172 < (s_0.size : Int)) = true then Option.bind (ixs s_0 st172) fun p238 => if decide (p238.2 < 97) = true then if decide (p238.2 < 48) = true then L.ref03_Name.J4 st172 (p238.2 != 45) else if decide (p238.2 > 57) = true then L.ref03_Name.J4 st172 (p238.2 != 45) else L.ref03_Name.J4 st172 false else if decide (p238.2 > 122) = true then if decide (p238.2 < 48) = true then L.ref03_Name.J4 st172 (p238.2 != 45) else if decide (p238.2 > 57) = true then L.ref03_Name.J4 st172 (p238.2 != 45) else L.ref03_Name.J4 st172 false else L.ref03_Name.J4 st172 false else some ((.inr (.inr (()))))
def L.ref03_Name.J1 (s_0 : ByteArray) (j10 : Bool) : Option Bool := if j10 = true then some false else Option.bind (loopN (L.ref03_Name.B3 s_0) lots 0) fun o203 => Sum.elim (fun d264 => some d264) (fun d265 => L.ref03_Name.J2 d265) o203
def L.ref03_Name (s_0 : ByteArray) : Option Bool := if decide ((s_0.size : Int) < 1) = true then L.ref03_Name.J1 s_0 true else if decide ((s_0.size : Int) > 12) = true then L.ref03_Name.J1 s_0 true else Option.bind (ixs s_0 0) fun p268 => if decide (p268.2 < 97) = true then L.ref03_Name.J1 s_0 true else L.ref03_Name.J1 s_0 (decide (p268.2 > 122))

/-- batchlineref12.twice -/
def L.ref12_twice.J1 (j60 : Unit) : Option Bool := some false
def L.ref12_twice.J3 (j145 : Unit) : Option (Unit ⊕ (Bool)) := some (.inl ())
def L.ref12_twice.B4 (l_0 : List ByteArray) (k62 : Nat) (x65 : ByteArray) (st161 : Int) : Option (Int ⊕ (Bool ⊕ Unit)) := if decide (st161 < (k62 : Int)) = true then Option.bind (ix l_0 st161) fun p174 => if sEq x65 p174.2 = true then some ((.inr (.inl (true)))) else some (.inl (wr (st161 + 1))) else some ((.inr (.inr (()))))
def L.ref12_twice.B2 (l_0 : List ByteArray) (k62 : Nat) (x65 : ByteArray) (st92 : Unit) : Option (Unit ⊕ (Bool)) := Option.bind (loopN (L.ref12_twice.B4 l_0 k62 x65) lots 0) fun o167 => Sum.elim (fun d177 => some ((.inr (d177)))) (fun d178 => L.ref12_twice.J3 d178) o167
def L.ref12_twice (l_0 : List ByteArray) : Option Bool := Option.bind (forL (L.ref12_twice.B2 l_0) 0 l_0 ()) fun o117 => Sum.elim (fun st92 => L.ref12_twice.J1 ()) (fun d181 => some d181) o117

/-- batchlineref12.proper -/
def L.ref12_proper.J2 (j49 : Unit) : Option Bool := some true
def L.ref12_proper.J4 (j97 : Bool) : Option (Unit ⊕ (Bool)) := if j97 = true then some ((.inr (false))) else some (.inl ())
def L.ref12_proper.B3 (s_0 : Segment) (k51 : Nat) (x54 : Point) (st69 : Unit) : Option (Unit ⊕ (Bool)) := if decide ((k51 : Int) > 0) = true then Option.bind (ix s_0.Points (wr ((k51 : Int) - 1))) fun p100 => if decide (x54.At ≤ p100.2.At) = true then L.ref12_proper.J4 true else if (!(L.ref12_in x54.Height (-500) 5000)) = true then L.ref12_proper.J4 true else L.ref12_proper.J4 (!(L.ref12_in x54.Limit 0 100000000)) else if (!(L.ref12_in x54.Height (-500) 5000)) = true then L.ref12_proper.J4 true else L.ref12_proper.J4 (!(L.ref12_in x54.Limit 0 100000000))
def L.ref12_proper.J1 (s_0 : Segment) (j13 : Bool) : Option Bool := if j13 = true then some false else Option.bind (forL (L.ref12_proper.B3 s_0) 0 s_0.Points ()) fun o82 => Sum.elim (fun st69 => L.ref12_proper.J2 ()) (fun d107 => some d107) o82
def L.ref12_proper (s_0 : Segment) : Option Bool := if (s_0.From == s_0.To) = true then L.ref12_proper.J1 s_0 true else if (!(L.ref12_in s_0.Capacity 1 1000000)) = true then L.ref12_proper.J1 s_0 true else if (!(L.ref12_in s_0.Resist 0 1000)) = true then L.ref12_proper.J1 s_0 true else if (!(L.ref12_in s_0.Wave 0 100000)) = true then L.ref12_proper.J1 s_0 true else Option.bind (ix s_0.Points 0) fun p112 => if (p112.2.At != 0) = true then L.ref12_proper.J1 s_0 true else Option.bind (ix s_0.Points (wr ((s_0.Points.length : Int) - 1))) fun p115 => L.ref12_proper.J1 s_0 (p115.2.At != s_0.Capacity)

/-- batchlineref12.Check -/
def L.ref12_Check.J10 (n_0 : Network) (j318 : Unit) : Option Int := if ((!(L.ref12_in n_0.Vapour (-100000) 100000000)) || (!(L.ref12_in n_0.Settle 0 100))) = true then some 9 else some 0
def L.ref12_Check.B11 (k324 : Nat) (x327 : Station) (st340 : Unit) : Option (Unit ⊕ (Int)) := if ((!(L.ref12_in x327.Head 0 100000000)) || ((!(L.ref12_in x327.Fall 0 100000)) || (!(L.ref12_in x327.Suction 0 100000000)))) = true then some ((.inr (9))) else some (.inl ())
def L.ref12_Check.J9 (n_0 : Network) (j287 : Unit) : Option Int := Option.bind (forL L.ref12_Check.B11 0 n_0.Stations ()) fun o351 => Sum.elim (fun st340 => L.ref12_Check.J10 n_0 ()) (fun d368 => some d368) o351
def L.ref12_Check.B12 (k370 : Nat) (x373 : Port) (st380 : Unit) : Option (Unit ⊕ (Int)) := if (!(L.ref12_in x373.Pressure 0 100000000)) = true then some ((.inr (9))) else some (.inl ())
def L.ref12_Check.J8 (n_0 : Network) (j268 : Unit) : Option Int := Option.bind (forL L.ref12_Check.B12 0 n_0.Ports ()) fun o385 => Sum.elim (fun st380 => L.ref12_Check.J9 n_0 ()) (fun d396 => some d396) o385
def L.ref12_Check.B13 (k398 : Nat) (x401 : Segment) (st410 : Unit) : Option (Unit ⊕ (Int)) := Option.bind (L.ref12_proper x401) fun r425 => if (!r425) = true then some ((.inr (9))) else some (.inl ())
def L.ref12_Check.J7 (n_0 : Network) (j245 : Unit) : Option Int := Option.bind (forL L.ref12_Check.B13 0 n_0.Segments ()) fun o417 => Sum.elim (fun st410 => L.ref12_Check.J8 n_0 ()) (fun d430 => some d430) o417
def L.ref12_Check.B14 (n_0 : Network) (k432 : Nat) (x435 : Station) (st442 : Unit) : Option (Unit ⊕ (Int)) := if (!(L.ref12_in x435.Node 0 (wr ((n_0.Nodes.length : Int) - 1)))) = true then some ((.inr (8))) else some (.inl ())
def L.ref12_Check.J6 (n_0 : Network) (j226 : Unit) : Option Int := Option.bind (forL (L.ref12_Check.B14 n_0) 0 n_0.Stations ()) fun o447 => Sum.elim (fun st442 => L.ref12_Check.J7 n_0 ()) (fun d458 => some d458) o447
def L.ref12_Check.B15 (n_0 : Network) (k460 : Nat) (x463 : Port) (st470 : Unit) : Option (Unit ⊕ (Int)) := if (!(L.ref12_in x463.Node 0 (wr ((n_0.Nodes.length : Int) - 1)))) = true then some ((.inr (8))) else some (.inl ())
def L.ref12_Check.J5 (n_0 : Network) (j207 : Unit) : Option Int := Option.bind (forL (L.ref12_Check.B15 n_0) 0 n_0.Ports ()) fun o475 => Sum.elim (fun st470 => L.ref12_Check.J6 n_0 ()) (fun d486 => some d486) o475
def L.ref12_Check.B16 (n_0 : Network) (k488 : Nat) (x491 : Segment) (st502 : Unit) : Option (Unit ⊕ (Int)) := if ((!(L.ref12_in x491.From 0 (wr ((n_0.Nodes.length : Int) - 1)))) || (!(L.ref12_in x491.To 0 (wr ((n_0.Nodes.length : Int) - 1))))) = true then some ((.inr (8))) else some (.inl ())
def L.ref12_Check.J4 (n_0 : Network) (j179 : Unit) : Option Int := Option.bind (forL (L.ref12_Check.B16 n_0) 0 n_0.Segments ()) fun o511 => Sum.elim (fun st502 => L.ref12_Check.J5 n_0 ()) (fun d526 => some d526) o511
def L.ref12_Check.J18 (j611 : Unit) : Option (Unit ⊕ (Int)) := some (.inl ())
def L.ref12_Check.B19 (n_0 : Network) (k528 : Nat) (x531 : Station) (st627 : Int) : Option (Int ⊕ (Int ⊕ Unit)) := if decide (st627 < (k528 : Int)) = true then Option.bind (ix n_0.Stations st627) fun p640 => if (x531.Node == p640.2.Node) = true then some ((.inr (.inl (7)))) else some (.inl (wr (st627 + 1))) else some ((.inr (.inr (()))))
def L.ref12_Check.B17 (n_0 : Network) (k528 : Nat) (x531 : Station) (st558 : Unit) : Option (Unit ⊕ (Int)) := Option.bind (loopN (L.ref12_Check.B19 n_0 k528 x531) lots 0) fun o633 => Sum.elim (fun d643 => some ((.inr (d643)))) (fun d644 => L.ref12_Check.J18 d644) o633
def L.ref12_Check.J3 (n_0 : Network) (j120 : Unit) : Option Int := Option.bind (forL (L.ref12_Check.B17 n_0) 0 n_0.Stations ()) fun o583 => Sum.elim (fun st558 => L.ref12_Check.J4 n_0 ()) (fun d647 => some d647) o583
def L.ref12_Check.B20 (r32 : Arr (List ByteArray) 4) (k649 : Nat) (st661 : Unit) : Option (Unit ⊕ (Int)) := Option.bind (ix r32.l (k649 : Int)) fun p676 => Option.bind (L.ref12_twice p676.2) fun r678 => if r678 = true then some ((.inr (7))) else some (.inl ())
def L.ref12_Check.J2 (n_0 : Network) (r32 : Arr (List ByteArray) 4) (j96 : Unit) : Option Int := Option.bind (forI (L.ref12_Check.B20 r32) 0 4 ()) fun o669 => Sum.elim (fun st661 => L.ref12_Check.J3 n_0 ()) (fun d683 => some d683) o669
def L.ref12_Check.J22 (j773 : Unit) : Option (Unit ⊕ (Int)) := some (.inl ())
def L.ref12_Check.B23 (k778 : Nat) (x781 : ByteArray) (st789 : Unit) : Option (Unit ⊕ (Int)) := Option.bind (L.ref03_Name x781) fun r802 => if (!r802) = true then some ((.inr (3))) else some (.inl ())
def L.ref12_Check.B21 (r32 : Arr (List ByteArray) 4) (k685 : Nat) (st716 : Unit) : Option (Unit ⊕ (Int)) := Option.bind (ix r32.l (k685 : Int)) fun p775 => Option.bind (forL L.ref12_Check.B23 0 p775.2 ()) fun o795 => Sum.elim (fun st789 => L.ref12_Check.J22 ()) (fun d807 => some ((.inr (d807)))) o795
def L.ref12_Check.J1 (n_0 : Network) (j30 : Unit) : Option Int := Option.bind (L.ref12_names n_0) fun r32 => Option.bind (forI (L.ref12_Check.B21 r32) 0 4 ()) fun o743 => Sum.elim (fun st716 => L.ref12_Check.J2 n_0 r32 ()) (fun d810 => some d810) o743
def L.ref12_Check.B24 (k812 : Nat) (x815 : Segment) (st822 : Unit) : Option (Unit ⊕ (Int)) := if (!(L.ref12_in (x815.Points.length : Int) 2 8)) = true then some ((.inr (4))) else some (.inl ())
def L.ref12_Check (n_0 : Network) : Option Int := if ((!(L.ref12_in (n_0.Nodes.length : Int) 1 24)) || (decide ((n_0.Segments.length : Int) > 32) || (decide ((n_0.Ports.length : Int) > 24) || decide ((n_0.Stations.length : Int) > 12)))) = true then some 4 else Option.bind (forL L.ref12_Check.B24 0 n_0.Segments ()) fun o827 => Sum.elim (fun st822 => L.ref12_Check.J1 n_0 ()) (fun d838 => some d838) o827

/-- batchlineref19.Valid -/
def L.ref19_Valid (s_0 : Segment) : Option Bool := Option.bind (L.ref12_Check (⟨([(⟨#[97]⟩ : ByteArray), (⟨#[98]⟩ : ByteArray)] : List ByteArray), ([(⟨s_0.Name, 0, 1, s_0.Capacity, s_0.Resist, s_0.Wave, s_0.Points⟩ : Segment)] : List Segment), [], [], 0, 0⟩ : Network)) fun r5 => some (r5 == 0)

/-- batchlineref19.fits -/
def L.ref19_fits.J1 (s_0 : Segment) (f_1 : List Piece) (j8 : Bool) : Option Int := if j8 = true then some 9 else Option.bind (L.ref14_Sum f_1) fun r10 => if (r10 != s_0.Capacity) = true then some 14 else some 0
def L.ref19_fits (s_0 : Segment) (f_1 : List Piece) : Option Int := Option.bind (L.ref19_Valid s_0) fun r13 => if (!r13) = true then L.ref19_fits.J1 s_0 f_1 true else Option.bind (L.ref14_Valid f_1) fun r16 => L.ref19_fits.J1 s_0 f_1 (!r16)

/-- batchlineref04.Valid -/
def L.ref04_Valid.J1 (j13 : Bool) : Option Bool := some j13
def L.ref04_Valid (p_0 : Product) : Option Bool := Option.bind (L.ref03_Name p_0.Name) fun r14 => if r14 = true then if decide (p_0.Density ≥ 400) = true then if decide (p_0.Density ≤ 1200) = true then if decide (p_0.Expansion ≥ 0) = true then if decide (p_0.Expansion ≤ 2000) = true then if decide (p_0.Compress ≥ 0) = true then if decide (p_0.Compress ≤ 5000) = true then if decide (p_0.Friction ≥ 1) = true then L.ref04_Valid.J1 (decide (p_0.Friction ≤ 2000)) else L.ref04_Valid.J1 false else L.ref04_Valid.J1 false else L.ref04_Valid.J1 false else L.ref04_Valid.J1 false else L.ref04_Valid.J1 false else L.ref04_Valid.J1 false else L.ref04_Valid.J1 false else L.ref04_Valid.J1 false

/-- batchlineref04.Find -/
def L.ref04_Find.J1 (j20 : Unit) : Option Int := some (-1)
def L.ref04_Find.B2 (name_1 : ByteArray) (k22 : Nat) (x25 : Product) (st32 : Unit) : Option (Unit ⊕ (Int)) := if sEq x25.Name name_1 = true then some ((.inr ((k22 : Int)))) else some (.inl ())
def L.ref04_Find (l_0 : List Product) (name_1 : ByteArray) : Option Int := Option.bind (forL (L.ref04_Find.B2 name_1) 0 l_0 ()) fun o37 => Sum.elim (fun st32 => L.ref04_Find.J1 ()) (fun d48 => some d48) o37

/-- batchlineref04.Check -/
def L.ref04_Check.J2 (j49 : Unit) : Option Int := some 0
def L.ref04_Check.B3 (l_0 : List Product) (k51 : Nat) (x54 : Product) (st63 : Unit) : Option (Unit ⊕ (Int)) := Option.bind (L.ref04_Find l_0 x54.Name) fun r78 => if (r78 != (k51 : Int)) = true then some ((.inr (7))) else some (.inl ())
def L.ref04_Check.J1 (l_0 : List Product) (j26 : Unit) : Option Int := Option.bind (forL (L.ref04_Check.B3 l_0) 0 l_0 ()) fun o70 => Sum.elim (fun st63 => L.ref04_Check.J2 ()) (fun d83 => some d83) o70
def L.ref04_Check.B4 (k85 : Nat) (x88 : Product) (st97 : Unit) : Option (Unit ⊕ (Int)) := Option.bind (L.ref04_Valid x88) fun r112 => if (!r112) = true then some ((.inr (9))) else some (.inl ())
def L.ref04_Check (l_0 : List Product) : Option Int := if decide ((l_0.length : Int) > 16) = true then some 4 else Option.bind (forL L.ref04_Check.B4 0 l_0 ()) fun o104 => Sum.elim (fun st97 => L.ref04_Check.J1 l_0 ()) (fun d117 => some d117) o104

/-- batchlineref19.Known -/
def L.ref19_Known.J1 (j32 : Unit) : Option Bool := some true
def L.ref19_Known.J3 (j74 : Bool) : Option (Unit ⊕ (Bool)) := if j74 = true then some ((.inr (false))) else some (.inl ())
def L.ref19_Known.B2 (batches_1 : List Batch) (products_2 : List Product) (k34 : Nat) (x37 : Piece) (st50 : Unit) : Option (Unit ⊕ (Bool)) := if decide (x37.Batch ≥ (batches_1.length : Int)) = true then L.ref19_Known.J3 true else Option.bind (ix batches_1 x37.Batch) fun p77 => if decide (p77.2.Product < 0) = true then L.ref19_Known.J3 true else L.ref19_Known.J3 (decide (p77.2.Product ≥ (products_2.length : Int)))
def L.ref19_Known (f_0 : List Piece) (batches_1 : List Batch) (products_2 : List Product) : Option Bool := Option.bind (forL (L.ref19_Known.B2 batches_1 products_2) 0 f_0 ()) fun o61 => Sum.elim (fun st50 => L.ref19_Known.J1 ()) (fun d82 => some d82) o61

/-- batchlineref19.Proper -/
def L.ref19_Proper (b_0 : Bounds) : Bool := (decide (b_0.Low ≤ b_0.High) && (decide (b_0.Low ≥ (-1125899906842624)) && decide (b_0.High ≤ 1125899906842624)))

/-- batchlineref19.add -/
def L.ref19_add.J3 (j44 : List Int) : Option (List Int) := some j44
def L.ref19_add.J2 (l_0 : List Int) (n_1 : Int) (j22 : Int) (j27 : Bool) : Option (List Int) := if j27 = true then some l_0 else Option.bind (sub? l_0 0 j22) fun l47 => Option.bind (app? ([] : List Int) l47) fun l49 => Option.bind (app? l49 ([n_1] : List Int)) fun l53 => Option.bind (sub? l_0 j22 (l_0.length : Int)) fun l56 => Option.bind (app? l53 l56) fun l58 => L.ref19_add.J3 l58
def L.ref19_add.J1 (l_0 : List Int) (n_1 : Int) (j22 : Int) : Option (List Int) := if decide (j22 < (l_0.length : Int)) = true then Option.bind (ix l_0 j22) fun p62 => L.ref19_add.J2 l_0 n_1 j22 (p62.2 == n_1) else L.ref19_add.J2 l_0 n_1 j22 false
def L.ref19_add.J5 (st77 : Int) (j91 : Bool) : Option (Int ⊕ (Int)) := if j91 = true then some (.inl (wr (st77 + 1))) else some ((.inr (st77)))
def L.ref19_add.B4 (l_0 : List Int) (n_1 : Int) (st77 : Int) : Option (Int ⊕ (Int)) := if decide (st77 < (l_0.length : Int)) = true then Option.bind (ix l_0 st77) fun p94 => L.ref19_add.J5 st77 (decide (p94.2 < n_1)) else L.ref19_add.J5 st77 false
def L.ref19_add (l_0 : List Int) (n_1 : Int) : Option (List Int) := Option.bind (loopN (L.ref19_add.B4 l_0 n_1) lots 0) fun d96 => L.ref19_add.J1 l_0 n_1 d96

/-- batchlineref19.breaks -/
def L.ref19_breaks.J2 (j58 : List Int) : Option (List Int) := some j58
def L.ref19_breaks.B3 (k60 : Nat) (x63 : Piece) (st77 : (List Int) × Int) : Option ((List Int) × Int) := Option.bind (L.ref19_add st77.1 (wr (st77.2 + x63.Volume))) fun r91 => some (r91, wr (st77.2 + x63.Volume))
def L.ref19_breaks.J1 (f_1 : List Piece) (j30 : List Int) : Option (List Int) := Option.bind (forS L.ref19_breaks.B3 0 f_1 (j30, 0)) fun st77 => L.ref19_breaks.J2 st77.1
def L.ref19_breaks.B4 (k96 : Nat) (x99 : Point) (st113 : List Int) : Option (List Int) := Option.bind (L.ref19_add st113 x99.At) fun r127 => some r127
def L.ref19_breaks (s_0 : Segment) (f_1 : List Piece) : Option (List Int) := Option.bind (forS L.ref19_breaks.B4 0 s_0.Points []) fun st113 => L.ref19_breaks.J1 f_1 st113

/-- batchlineref14.At -/
def L.ref14_At.J2 (j34 : Unit) : Option Int := some (-1)
def L.ref14_At.B3 (k36 : Nat) (x39 : Piece) (st53 : Int) : Option (Int ⊕ (Int)) := if decide (st53 < x39.Volume) = true then some ((.inr (x39.Batch))) else some (.inl (wr (st53 - x39.Volume)))
def L.ref14_At.J1 (f_0 : List Piece) (place_1 : Int) (j6 : Bool) : Option Int := if j6 = true then some (-1) else Option.bind (forL L.ref14_At.B3 0 f_0 place_1) fun o59 => Sum.elim (fun st53 => L.ref14_At.J2 ()) (fun d71 => some d71) o59
def L.ref14_At (f_0 : List Piece) (place_1 : Int) : Option Int := Option.bind (L.ref14_Valid f_0) fun r72 => if (!r72) = true then L.ref14_At.J1 f_0 place_1 true else L.ref14_At.J1 f_0 place_1 (decide (place_1 < 0))

/-- batchlineref19.part -/
def L.ref19_part.J2 (s_0 : Segment) (rate_4 : Int) (a_5 : Int) (b_6 : Int) (p8 : Nat × Product) (j32 : Int × Int × Int × Int × Int × Int) : Option (Int × Int × Int × Int) := some (wr ((wr ((wr ((wr (s_0.Resist * p8.2.Friction)) * rate_4)) * rate_4)) * (wr (b_6 - a_5))), wr (1000 * s_0.Capacity), wr ((wr ((wr (p8.2.Density * 9807)) * (wr (j32.2.2.2.2.1 - j32.2.1)))) * (wr (b_6 - a_5))), wr (1000 * (wr (j32.2.2.2.1 - j32.1))))
def L.ref19_part.J1 (s_0 : Segment) (rate_4 : Int) (a_5 : Int) (b_6 : Int) (p8 : Nat × Product) (j25 : Int) : Option (Int × Int × Int × Int) := Option.bind (ix s_0.Points j25) fun p35 => Option.bind (ix s_0.Points (wr (j25 + 1))) fun p37 => L.ref19_part.J2 s_0 rate_4 a_5 b_6 p8 (p35.2.At, p35.2.Height, p35.2.Limit, p37.2.At, p37.2.Height, p37.2.Limit)
def L.ref19_part.B3 (s_0 : Segment) (a_5 : Int) (st50 : Int) : Option (Int ⊕ (Int)) := Option.bind (ix s_0.Points (wr (st50 + 1))) fun p59 => if decide (p59.2.At ≤ a_5) = true then some (.inl (wr (st50 + 1))) else some ((.inr (st50)))
def L.ref19_part (s_0 : Segment) (f_1 : List Piece) (batches_2 : List Batch) (products_3 : List Product) (rate_4 : Int) (a_5 : Int) (b_6 : Int) : Option (Int × Int × Int × Int) := Option.bind (L.ref14_At f_1 a_5) fun r4 => Option.bind (ix batches_2 r4) fun p6 => Option.bind (ix products_3 p6.2.Product) fun p8 => Option.bind (loopN (L.ref19_part.B3 s_0 a_5) lots 0) fun d62 => L.ref19_part.J1 s_0 rate_4 a_5 b_6 p8 d62

/-- batchlineref01.proper -/
def L.ref01_proper (a_0 : Int) (b_1 : Int) : Bool := (decide (b_1 ≥ 1) && (decide (b_1 ≤ 1099511627776) && (decide (a_0 ≥ (-2305843009213693952)) && decide (a_0 ≤ 2305843009213693952))))

/-- batchlineref01.Up -/
def L.ref01_Up.J1 (j10 : Int) : Option Int := some j10
def L.ref01_Up (a_0 : Int) (b_1 : Int) : Option Int := if (!(L.ref01_proper a_0 b_1)) = true then some 0 else Option.bind (quo? a_0 b_1) fun x5 => Option.bind (rem? a_0 b_1) fun x11 => if decide (x11 > 0) = true then L.ref01_Up.J1 (wr (x5 + 1)) else L.ref01_Up.J1 x5

/-- batchlineref01.Down -/
def L.ref01_Down.J1 (j10 : Int) : Option Int := some j10
def L.ref01_Down (a_0 : Int) (b_1 : Int) : Option Int := if (!(L.ref01_proper a_0 b_1)) = true then some 0 else Option.bind (quo? a_0 b_1) fun x5 => Option.bind (rem? a_0 b_1) fun x11 => if decide (x11 < 0) = true then L.ref01_Down.J1 (wr (x5 - 1)) else L.ref01_Down.J1 x5

/-- batchlineref19.Along -/
def L.ref19_Along.J2 (j182 : List Level) : Option ((List Level) × Int) := some (j182, 0)
def L.ref19_Along.B3 (s_0 : Segment) (f_1 : List Piece) (batches_2 : List Batch) (products_3 : List Product) (rate_4 : Int) (r26 : List Int) (st227 : (List Level) × Int × Int × Int) : Option (((List Level) × Int × Int × Int) ⊕ ((List Level))) := if decide (st227.2.2.2 ≥ 0) = true then Option.bind (ix r26 st227.2.2.2) fun p256 => Option.bind (ix r26 (wr (st227.2.2.2 + 1))) fun p258 => Option.bind (L.ref19_part s_0 f_1 batches_2 products_3 rate_4 p256.2 p258.2) fun r260 => Option.bind (L.ref01_Up r260.1 r260.2.1) fun r262 => Option.bind (L.ref01_Up (wr (0 - r260.2.2.1)) r260.2.2.2) fun r264 => Option.bind (L.ref01_Down r260.1 r260.2.1) fun r266 => Option.bind (L.ref01_Down (wr (0 - r260.2.2.1)) r260.2.2.2) fun r268 => Option.bind (ix st227.1 st227.2.2.2) fun p270 => some (.inl ((st227.1.set p270.1 (⟨p256.2, (⟨wr ((wr (st227.2.1 - r262)) - r264), wr ((wr (st227.2.2.1 - r266)) - r268)⟩ : Bounds)⟩ : Level)), wr ((wr (st227.2.1 - r262)) - r264), wr ((wr (st227.2.2.1 - r266)) - r268), wr (st227.2.2.2 - 1))) else some ((.inr (st227.1)))
def L.ref19_Along.J1 (s_0 : Segment) (f_1 : List Piece) (batches_2 : List Batch) (products_3 : List Product) (rate_4 : Int) (in_5 : Bounds) (r26 : List Int) (l29 : List Level) (j109 : Unit) : Option ((List Level) × Int) := Option.bind (ix r26 (wr ((r26.length : Int) - 1))) fun p112 => Option.bind (ix l29 (wr ((r26.length : Int) - 1))) fun p114 => Option.bind (loopN (L.ref19_Along.B3 s_0 f_1 batches_2 products_3 rate_4 r26) lots ((l29.set p114.1 (⟨p112.2, in_5⟩ : Level)), in_5.Low, in_5.High, wr ((wr ((r26.length : Int) - 1)) - 1))) fun d273 => L.ref19_Along.J2 d273
def L.ref19_Along.J4 (j347 : List Level) : Option ((List Level) × Int) := some (j347, 0)
def L.ref19_Along.B5 (s_0 : Segment) (f_1 : List Piece) (batches_2 : List Batch) (products_3 : List Product) (rate_4 : Int) (r26 : List Int) (st392 : (List Level) × Int × Int × Int) : Option (((List Level) × Int × Int × Int) ⊕ ((List Level))) := if decide (st392.2.2.2 < (r26.length : Int)) = true then Option.bind (ix r26 (wr (st392.2.2.2 - 1))) fun p421 => Option.bind (ix r26 st392.2.2.2) fun p423 => Option.bind (L.ref19_part s_0 f_1 batches_2 products_3 rate_4 p421.2 p423.2) fun r425 => Option.bind (L.ref01_Up r425.1 r425.2.1) fun r427 => Option.bind (L.ref01_Up r425.2.2.1 r425.2.2.2) fun r429 => Option.bind (L.ref01_Down r425.1 r425.2.1) fun r431 => Option.bind (L.ref01_Down r425.2.2.1 r425.2.2.2) fun r433 => Option.bind (ix st392.1 st392.2.2.2) fun p435 => some (.inl ((st392.1.set p435.1 (⟨p423.2, (⟨wr ((wr (st392.2.1 - r427)) - r429), wr ((wr (st392.2.2.1 - r431)) - r433)⟩ : Bounds)⟩ : Level)), wr ((wr (st392.2.1 - r427)) - r429), wr ((wr (st392.2.2.1 - r431)) - r433), wr (st392.2.2.2 + 1))) else some ((.inr (st392.1)))
def L.ref19_Along (s_0 : Segment) (f_1 : List Piece) (batches_2 : List Batch) (products_3 : List Product) (rate_4 : Int) (in_5 : Bounds) : Option ((List Level) × Int) := Option.bind (L.ref19_fits s_0 f_1) fun r5 => if (r5 != 0) = true then some ([], r5) else Option.bind (L.ref04_Check products_3) fun r9 => if (r9 != 0) = true then some ([], r9) else Option.bind (L.ref19_Known f_1 batches_2 products_3) fun r14 => if (!r14) = true then some ([], 8) else if ((rate_4 == 0) || (decide (rate_4 < (-1000)) || (decide (rate_4 > 1000) || (!(L.ref19_Proper in_5))))) = true then some ([], 1) else Option.bind (L.ref19_breaks s_0 f_1) fun r26 => Option.bind (mk? (r26.length : Int) (⟨(0 : Int), (⟨(0 : Int), (0 : Int)⟩ : Bounds)⟩ : Level)) fun l29 => if decide (rate_4 > 0) = true then Option.bind (ix r26 0) fun p277 => Option.bind (ix l29 0) fun p279 => Option.bind (loopN (L.ref19_Along.B5 s_0 f_1 batches_2 products_3 rate_4 r26) lots ((l29.set p279.1 (⟨p277.2, in_5⟩ : Level)), in_5.Low, in_5.High, 1)) fun d438 => L.ref19_Along.J4 d438 else L.ref19_Along.J1 s_0 f_1 batches_2 products_3 rate_4 in_5 r26 l29 ()

/-- batchlinelaw19.GradientKeeps -/
def L.law19_GradientKeeps.J3 (j155 : Bool) : Option Bool := some j155
def L.law19_GradientKeeps.J2 (more_1 : Int) (r7 : Segment × (List Piece) × (List Batch) × (List Product) × batchlinekeep_Src) (r15 : (List Level) × Int) (r20 : Int × batchlinekeep_Src) (r23 : Int × Int) (j125 : List Point) : Option Bool := Option.bind (L.gradient_Keeps (⟨r7.1.Name, r7.1.From, r7.1.To, r7.1.Capacity, r7.1.Resist, r7.1.Wave, j125⟩ : Segment) r15.1 (wr (r20.1 - (wr (more_1))))) fun r127 => Option.bind (L.ref14_Valid r7.2.1) fun r156 => if r156 = true then if (r23.2 == 0) = true then if (r23.1 == (-1)) = true then if (r127.2 == 0) = true then Option.bind (L.law19_awake) fun r162 => L.law19_GradientKeeps.J3 r162 else if (r23.2 == 15) = true then if (r127.2 == 15) = true then Option.bind (L.law19_awake) fun r166 => L.law19_GradientKeeps.J3 r166 else L.law19_GradientKeeps.J3 false else L.law19_GradientKeeps.J3 false else if (r23.2 == 15) = true then if (r127.2 == 0) = true then Option.bind (L.law19_awake) fun r170 => L.law19_GradientKeeps.J3 r170 else if (r127.2 == 15) = true then Option.bind (L.law19_awake) fun r173 => L.law19_GradientKeeps.J3 r173 else L.law19_GradientKeeps.J3 false else L.law19_GradientKeeps.J3 false else if (r23.2 == 15) = true then if (r127.2 == 0) = true then Option.bind (L.law19_awake) fun r177 => L.law19_GradientKeeps.J3 r177 else if (r127.2 == 15) = true then Option.bind (L.law19_awake) fun r180 => L.law19_GradientKeeps.J3 r180 else L.law19_GradientKeeps.J3 false else L.law19_GradientKeeps.J3 false else L.law19_GradientKeeps.J3 false
def L.law19_GradientKeeps.B4 (more_1 : Int) (k183 : Nat) (st203 : List Point) : Option (List Point) := Option.bind (ix st203 (k183 : Int)) fun p219 => some (st203.set p219.1 (⟨p219.2.At, p219.2.Height, (min 100000000 (wr (p219.2.Limit + (wr (more_1)))))⟩ : Point))
def L.law19_GradientKeeps.J1 (more_1 : Int) (r7 : Segment × (List Piece) × (List Batch) × (List Product) × batchlinekeep_Src) (r15 : (List Level) × Int) (r20 : Int × batchlinekeep_Src) (r23 : Int × Int) (j86 : Unit) : Option Bool := Option.bind (app? ([] : List Point) r7.1.Points) fun l91 => Option.bind (forJ (L.law19_GradientKeeps.B4 more_1) 0 l91.length l91) fun st203 => L.law19_GradientKeeps.J2 more_1 r7 r15 r20 r23 st203
def L.law19_GradientKeeps.J6 (r23 : Int × Int) (p292 : Nat × Level) (j298 : Bool) : Option (Unit ⊕ (Bool)) := if (bif (r23.2 == 15) then ((j298 != (p292.2.At == r23.1)) && ((r23.2 == 0) || (decide (p292.2.At < r23.1) || (p292.2.At == r23.1)))) else ((j298 != false) && ((r23.2 == 0) || (decide (p292.2.At < r23.1) || (p292.2.At == r23.1))))) = true then some ((.inr (false))) else some (.inl ())
def L.law19_GradientKeeps.B5 (r7 : Segment × (List Piece) × (List Batch) × (List Product) × batchlinekeep_Src) (r15 : (List Level) × Int) (r20 : Int × batchlinekeep_Src) (r23 : Int × Int) (k226 : Nat) (st257 : Unit) : Option (Unit ⊕ (Bool)) := Option.bind (ix r15.1 (k226 : Int)) fun p292 => Option.bind (L.ref19_Limit r7.1 p292.2.At) fun r315 => if decide (p292.2.Bounds.High > r315) = true then L.law19_GradientKeeps.J6 r23 p292 true else L.law19_GradientKeeps.J6 r23 p292 (decide (p292.2.Bounds.Low < r20.1))
def L.law19_GradientKeeps (l_0 : List Int) (more_1 : Int) : Option Bool := Option.bind (L.keep_New l_0) fun r3 => Option.bind (L.law19_world r3) fun r7 => Option.bind (L.keep_Src_Range r7.2.2.2.2 1 20) fun r11 => Option.bind (L.law19_bounds r11.2) fun r13 => Option.bind (L.ref19_Along r7.1 r7.2.1 r7.2.2.1 r7.2.2.2.1 r11.1 r13.1) fun r15 => Option.bind (L.keep_Src_Pick r13.2 ([(-100000), 0, 200000] : List Int)) fun r20 => Option.bind (L.gradient_Keeps r7.1 r15.1 r20.1) fun r23 => Option.bind (forI (L.law19_GradientKeeps.B5 r7 r15 r20 r23) 0 r15.1.length ()) fun o284 => Sum.elim (fun st257 => L.law19_GradientKeeps.J1 more_1 r7 r15 r20 r23 ()) (fun d320 => some d320) o284

end Go.Proofs.YtncfbhnecmnfpaaGreatDoor
