/- Pure functions for functions of the program; printed by a program of ours. No condition. -/
import Derived.Test.YtncfbhnecmnfpaaGreatDoorD
import Derived.Test.YtncfbhnecmnfpaaGreatDoorBwSort
namespace Go.Proofs.YtncfbhnecmnfpaaGreatDoor
open Go.Aw
set_option linter.unusedVariables false
set_option linter.unusedSimpArgs false

structure Product where
  Name : ByteArray
  Density : Int
  Expansion : Int
  Compress : Int
  Friction : Int
  deriving DecidableEq
def Product.row (x : Product) : List T := [.v (.string x.Name), .v (.int .i64 x.Density), .v (.int .i64 x.Expansion), .v (.int .i64 x.Compress), .v (.int .i64 x.Friction)]
structure Piece where
  Batch : Int
  Volume : Int
  deriving DecidableEq
def Piece.row (x : Piece) : List T := [.v (.int .i64 x.Batch), .v (.int .i64 x.Volume)]
structure Batch where
  Product : Int
  Shipper : ByteArray
  From : Int
  To : Int
  deriving DecidableEq
def Batch.row (x : Batch) : List T := [.v (.int .i64 x.Product), .v (.string x.Shipper), .v (.int .i64 x.From), .v (.int .i64 x.To)]
structure Bounds where
  Low : Int
  High : Int
  deriving DecidableEq
def Bounds.row (x : Bounds) : List T := [.v (.int .i64 x.Low), .v (.int .i64 x.High)]
structure product_span where
  least : Int
  most : Int
  deriving DecidableEq
def product_span.row (x : product_span) : List T := [.v (.int .i64 x.least), .v (.int .i64 x.most)]
structure gradient_part where
  length : Int
  width : Int
  height : Int
  liquid : Product
  deriving DecidableEq
def gradient_part.row (x : gradient_part) : List T := [.v (.int .i64 x.length), .v (.int .i64 x.width), .v (.int .i64 x.height), .v (.string x.liquid.Name), .v (.int .i64 x.liquid.Density), .v (.int .i64 x.liquid.Expansion), .v (.int .i64 x.liquid.Compress), .v (.int .i64 x.liquid.Friction)]
structure Level where
  At : Int
  Bounds : Bounds
  deriving DecidableEq
def Level.row (x : Level) : List T := [.v (.int .i64 x.At), .v (.int .i64 x.Bounds.Low), .v (.int .i64 x.Bounds.High)]
structure Boundary where
  At : Int
  Left : Int
  Right : Int
  deriving DecidableEq
def Boundary.row (x : Boundary) : List T := [.v (.int .i64 x.At), .v (.int .i64 x.Left), .v (.int .i64 x.Right)]

/-- (*batchlinekeep.Src).Product -/
def L.keep_Src_Product (s_0 : batchlinekeep_Src) (n_1 : Int) : Option (Product × batchlinekeep_Src) := Option.bind (L.keep_name (⟨#[112]⟩ : ByteArray) n_1) fun r3 => Option.bind (L.keep_Src_Range s_0 400 1200) fun r5 => Option.bind (L.keep_Src_Pick r5.2 ([0, 830, 2000, 1] : List Int)) fun r8 => Option.bind (L.keep_Src_Pick r8.2 ([0, 800, 5000, 3] : List Int)) fun r11 => Option.bind (L.keep_Src_Pick r11.2 ([1, 700, 1000, 1300, 2000] : List Int)) fun r14 => some ((⟨r3, r5.1, r8.1, r11.1, r14.1⟩ : Product), r14.2)

/-- (*batchlinekeep.Src).Products -/
def L.keep_Src_Products.J1 (j36 : (List Int) × Int × (List Product)) : Option ((List Product) × batchlinekeep_Src) := some (j36.2.2, (⟨j36.1, j36.2.1⟩ : batchlinekeep_Src))
def L.keep_Src_Products.B2 (st61 : (List Int) × Int × (List Product) × Int) : Option (((List Int) × Int × (List Product) × Int) ⊕ (((List Int) × Int × (List Product)))) := if decide (st61.2.2.2 > 0) = true then Option.bind (L.keep_Src_Product (⟨st61.1, st61.2.1⟩ : batchlinekeep_Src) (st61.2.2.1.length : Int)) fun r78 => Option.bind (app? st61.2.2.1 ([r78.1] : List Product)) fun l81 => some (.inl (r78.2.L_, r78.2.At, l81, wr (st61.2.2.2 - 1))) else some ((.inr ((st61.1, st61.2.1, st61.2.2.1))))
def L.keep_Src_Products (s_0 : batchlinekeep_Src) : Option ((List Product) × batchlinekeep_Src) := Option.bind (L.keep_Src_Range s_0 1 4) fun r39 => Option.bind (loopN L.keep_Src_Products.B2 lots (r39.2.L_, r39.2.At, [], r39.1)) fun d84 => L.keep_Src_Products.J1 d84

/-- (*batchlinekeep.Src).Fill -/
def L.keep_Src_Fill.J1 (j110 : (List Int) × Int × (List Piece)) : Option ((List Piece) × batchlinekeep_Src) := some (j110.2.2, (⟨j110.1, j110.2.1⟩ : batchlinekeep_Src))
def L.keep_Src_Fill.J4 (st177 : (List Int) × Int × Int × (List Piece)) (r232 : Int × batchlinekeep_Src) (j236 : Int) (j259 : Int) : Option (((List Int) × Int × Int × (List Piece)) ⊕ (((List Int) × Int × (List Piece)))) := Option.bind (app? st177.2.2.2 ([(⟨j259, (min j236 st177.2.2.1)⟩ : Piece)] : List Piece)) fun l261 => some (.inl (r232.2.L_, r232.2.At, wr (st177.2.2.1 - (min j236 st177.2.2.1)), l261))
def L.keep_Src_Fill.J5 (batches_2 : Int) (st177 : (List Int) × Int × Int × (List Piece)) (r230 : Int × batchlinekeep_Src) (r232 : Int × batchlinekeep_Src) (j236 : Int) (j271 : Bool) : Option (((List Int) × Int × Int × (List Piece)) ⊕ (((List Int) × Int × (List Piece)))) := if j271 = true then Option.bind (rem? (wr (r230.1 + 1)) batches_2) fun x274 => Option.bind (ix st177.2.2.2 (wr ((st177.2.2.2.length : Int) - 1))) fun p277 => if (p277.2.Batch == x274) = true then some (.inl (r232.2.L_, r232.2.At, wr (st177.2.2.1 - (min j236 st177.2.2.1)), (st177.2.2.2.set p277.1 (⟨p277.2.Batch, wr (p277.2.Volume + (min j236 st177.2.2.1))⟩ : Piece)))) else L.keep_Src_Fill.J4 st177 r232 j236 x274 else L.keep_Src_Fill.J4 st177 r232 j236 r230.1
def L.keep_Src_Fill.J3 (batches_2 : Int) (st177 : (List Int) × Int × Int × (List Piece)) (r230 : Int × batchlinekeep_Src) (r232 : Int × batchlinekeep_Src) (j236 : Int) : Option (((List Int) × Int × Int × (List Piece)) ⊕ (((List Int) × Int × (List Piece)))) := if decide ((st177.2.2.2.length : Int) > 0) = true then Option.bind (ix st177.2.2.2 (wr ((st177.2.2.2.length : Int) - 1))) fun p286 => L.keep_Src_Fill.J5 batches_2 st177 r230 r232 j236 (p286.2.Batch == r230.1) else L.keep_Src_Fill.J5 batches_2 st177 r230 r232 j236 false
def L.keep_Src_Fill.B2 (batches_2 : Int) (st177 : (List Int) × Int × Int × (List Piece)) : Option (((List Int) × Int × Int × (List Piece)) ⊕ (((List Int) × Int × (List Piece)))) := if (decide (st177.2.2.1 > 0) && decide ((st177.2.2.2.length : Int) < 12)) = true then Option.bind (L.keep_Src_N (⟨st177.1, st177.2.1⟩ : batchlinekeep_Src) batches_2) fun r230 => Option.bind (L.keep_Src_Range r230.2 1 (max 1 (wr ((wr (st177.2.2.1 * 2)).tdiv 3)))) fun r232 => if ((st177.2.2.2.length : Int) == 11) = true then L.keep_Src_Fill.J3 batches_2 st177 r230 r232 st177.2.2.1 else L.keep_Src_Fill.J3 batches_2 st177 r230 r232 r232.1 else some ((.inr ((st177.1, st177.2.1, st177.2.2.2))))
def L.keep_Src_Fill (s_0 : batchlinekeep_Src) (volume_1 : Int) (batches_2 : Int) : Option ((List Piece) × batchlinekeep_Src) := Option.bind (loopN (L.keep_Src_Fill.B2 batches_2) lots (s_0.L_, s_0.At, volume_1, [])) fun d293 => L.keep_Src_Fill.J1 d293

/-- (*batchlinekeep.Src).Batches -/
def L.keep_Src_Batches.J1 (j46 : (List Int) × Int × (List Batch)) : Option ((List Batch) × batchlinekeep_Src) := some (j46.2.2, (⟨j46.1, j46.2.1⟩ : batchlinekeep_Src))
def L.keep_Src_Batches.B2 (count_1 : Int) (products_2 : Int) (st77 : (List Int) × Int × (List Batch) × Int) : Option (((List Int) × Int × (List Batch) × Int) ⊕ (((List Int) × Int × (List Batch)))) := if decide (st77.2.2.2 < count_1) = true then Option.bind (L.keep_Src_N (⟨st77.1, st77.2.1⟩ : batchlinekeep_Src) products_2) fun r98 => Option.bind (L.keep_Src_N r98.2 3) fun r100 => Option.bind (L.keep_name (⟨#[102]⟩ : ByteArray) r100.1) fun r102 => Option.bind (app? st77.2.2.1 ([(⟨r98.1, r102, 0, 1⟩ : Batch)] : List Batch)) fun l105 => some (.inl (r100.2.L_, r100.2.At, l105, wr (st77.2.2.2 + 1))) else some ((.inr ((st77.1, st77.2.1, st77.2.2.1))))
def L.keep_Src_Batches (s_0 : batchlinekeep_Src) (count_1 : Int) (products_2 : Int) : Option ((List Batch) × batchlinekeep_Src) := Option.bind (loopN (L.keep_Src_Batches.B2 count_1 products_2) lots (s_0.L_, s_0.At, [], 0)) fun d108 => L.keep_Src_Batches.J1 d108

/-- batchlinelaw19.world -/
def L.law19_world (d_0 : batchlinekeep_Src) : Option (Segment × (List Piece) × (List Batch) × (List Product) × batchlinekeep_Src) := Option.bind (L.keep_Src_Segment d_0 0 0 1) fun r4 => Option.bind (L.keep_Src_Products r4.2) fun r8 => Option.bind (L.keep_Src_Fill r8.2 r4.1.Capacity 4) fun r11 => Option.bind (L.keep_Src_Batches r11.2 4 (r8.1.length : Int)) fun r14 => some (r4.1, r11.1, r14.1, r8.1, r14.2)

/-- batchlinelaw19.bounds -/
def L.law19_bounds (d_0 : batchlinekeep_Src) : Option (Bounds × batchlinekeep_Src) := Option.bind (L.keep_Src_Pick d_0 ([0, 300000, 5000000, (-1000)] : List Int)) fun r5 => Option.bind (L.keep_Src_N r5.2 3) fun r7 => Option.bind (L.keep_Src_N r7.2 100) fun r9 => some ((⟨r5.1, wr (r5.1 + (wr (r7.1 * r9.1)))⟩ : Bounds), r9.2)

/-- gradient.check -/
def L.gradient_check (s_0 : Segment) : Option Int := Option.bind (L.network_Check (⟨([(⟨#[97]⟩ : ByteArray), (⟨#[98]⟩ : ByteArray)] : List ByteArray), ([(⟨s_0.Name, 0, 1, s_0.Capacity, s_0.Resist, s_0.Wave, s_0.Points⟩ : Segment)] : List Segment), [], [], 0, 0⟩ : Network)) fun r6 => if (r6 != 0) = true then some 9 else some 0

/-- piece.litre -/
def L.piece_litre (p_0 : Piece) : Bool := (decide (p_0.Batch ≥ 0) && (decide (p_0.Batch < 1000) && (decide (p_0.Volume ≥ 0) && decide (p_0.Volume ≤ 1000000))))

/-- piece.total -/
def L.piece_total.J1 (j23 : Int) : Option Int := some j23
def L.piece_total.B2 (k25 : Nat) (x28 : Piece) (st38 : Int) : Option Int := some (wr (st38 + x28.Volume))
def L.piece_total (f_0 : List Piece) : Option Int := Option.bind (forS L.piece_total.B2 0 f_0 0) fun st38 => L.piece_total.J1 st38

/-- piece.Valid -/
def L.piece_Valid.J1 (f_0 : List Piece) (j36 : Unit) : Option Bool := Option.bind (L.piece_total f_0) fun r37 => some (decide (r37 ≤ 1000000))
def L.piece_Valid.J3 (j83 : Bool) : Option (Unit ⊕ (Bool)) := if j83 = true then some ((.inr (false))) else some (.inl ())
def L.piece_Valid.B2 (f_0 : List Piece) (k40 : Nat) (x43 : Piece) (st57 : Unit) : Option (Unit ⊕ (Bool)) := if (!(L.piece_litre x43)) = true then L.piece_Valid.J3 true else if (x43.Volume == 0) = true then L.piece_Valid.J3 true else if decide ((k40 : Int) > 0) = true then Option.bind (ix f_0 (wr ((k40 : Int) - 1))) fun p88 => L.piece_Valid.J3 (p88.2.Batch == x43.Batch) else L.piece_Valid.J3 false
def L.piece_Valid (f_0 : List Piece) : Option Bool := if decide ((f_0.length : Int) > 200) = true then some false else Option.bind (forL (L.piece_Valid.B2 f_0) 0 f_0 ()) fun o69 => Sum.elim (fun st57 => L.piece_Valid.J1 f_0 ()) (fun d92 => some d92) o69

/-- piece.Volume -/
def L.piece_Volume (f_0 : List Piece) : Option Int := Option.bind (L.piece_Valid f_0) fun r2 => if (!r2) = true then some 0 else Option.bind (L.piece_total f_0) fun r5 => some r5

/-- gradient.filled -/
def L.gradient_filled.J1 (s_0 : Segment) (f_1 : List Piece) (j9 : Bool) : Option Int := if j9 = true then some 9 else Option.bind (L.piece_Volume f_1) fun r11 => if (r11 != s_0.Capacity) = true then some 14 else some 0
def L.gradient_filled (s_0 : Segment) (f_1 : List Piece) : Option Int := Option.bind (L.gradient_check s_0) fun r14 => if (r14 != 0) = true then L.gradient_filled.J1 s_0 f_1 true else Option.bind (L.piece_Valid f_1) fun r17 => L.gradient_filled.J1 s_0 f_1 (!r17)

/-- slices.Sort[[]int,int] -/
def L.slices_Sort_int_int (s0 : List Int) : Option (List Int) := if s0 = [] then none else some (isort s0)

/-- slices.Compact[[]int,int] -/
def L.slices_Compact_int_int (s0 : List Int) : Option (List Int) := if s0 = [] then none else some (Go.Lib.compact s0)

/-- gradient.breaks -/
def L.gradient_breaks.J2 (j75 : List Int) : Option (List Int) := Option.bind (L.slices_Sort_int_int j75) fun r77 => Option.bind (L.slices_Compact_int_int r77) fun r79 => some r79
def L.gradient_breaks.B3 (k83 : Nat) (x86 : Piece) (st105 : (List Int) × Int) : Option ((List Int) × Int) := Option.bind (app? st105.1 ([wr (st105.2 + x86.Volume)] : List Int)) fun l123 => some (l123, wr (st105.2 + x86.Volume))
def L.gradient_breaks.J1 (f_1 : List Piece) (j38 : List Int) : Option (List Int) := Option.bind (forS L.gradient_breaks.B3 0 f_1 (j38, 0)) fun st105 => L.gradient_breaks.J2 st105.1
def L.gradient_breaks.B4 (k129 : Nat) (x132 : Point) (st151 : List Int) : Option (List Int) := Option.bind (app? st151 ([x132.At] : List Int)) fun l169 => some l169
def L.gradient_breaks (s_0 : Segment) (f_1 : List Piece) : Option (List Int) := Option.bind (forS L.gradient_breaks.B4 0 s_0.Points []) fun st151 => L.gradient_breaks.J1 f_1 st151

/-- gradient.Breaks -/
def L.gradient_Breaks (s_0 : Segment) (f_1 : List Piece) : Option ((List Int) × Int) := Option.bind (L.gradient_filled s_0 f_1) fun r3 => if (r3 != 0) = true then some ([], r3) else Option.bind (L.gradient_breaks s_0 f_1) fun r6 => some (r6, 0)

/-- product.numbers -/
def L.product_numbers (p_0 : Product) : (Arr Int 4) := (⟨[p_0.Density, p_0.Expansion, p_0.Compress, p_0.Friction], rfl⟩ : Arr Int 4)

/-- product.Valid -/
def L.product_Valid.J1 (p_0 : Product) (j36 : Unit) : Option Bool := Option.bind (L.lines_Name p_0.Name) fun r37 => some r37
def L.product_Valid.J3 (j82 : Bool) : Option (Unit ⊕ (Bool)) := if j82 = true then some ((.inr (false))) else some (.inl ())
def L.product_Valid.B2 (p_0 : Product) (k40 : Nat) (st56 : Unit) : Option (Unit ⊕ (Bool)) := Option.bind (ix ([⟨400, 1200⟩, ⟨0, 2000⟩, ⟨0, 5000⟩, ⟨1, 2000⟩] : List product_span) (k40 : Int)) fun p76 => Option.bind (ix ((L.product_numbers p_0).l) (k40 : Int)) fun p84 => if decide (p84.2 < p76.2.least) = true then L.product_Valid.J3 true else L.product_Valid.J3 (decide (p84.2 > p76.2.most))
def L.product_Valid (p_0 : Product) : Option Bool := Option.bind (forI (L.product_Valid.B2 p_0) 0 4 ()) fun o68 => Sum.elim (fun st56 => L.product_Valid.J1 p_0 ()) (fun d89 => some d89) o68

/-- slices.IndexFunc[[]api.Product,api.Product] -/
def L.slices_IndexFunc_api_Product_api_Product.J1 (j24 : Unit) : Option Int := some (-1)
def L.slices_IndexFunc_api_Product_api_Product.B2 (g1 : Product → Option Bool) (k26 : Nat) (x29 : Product) (st38 : Unit) : Option (Unit ⊕ (Int)) := Option.bind (g1 x29) fun r53 => if r53 = true then some ((.inr ((k26 : Int)))) else some (.inl ())
def L.slices_IndexFunc_api_Product_api_Product (s_0 : List Product) (g1 : Product → Option Bool) : Option Int := Option.bind (forL (L.slices_IndexFunc_api_Product_api_Product.B2 g1) 0 s_0 ()) fun o45 => Sum.elim (fun st38 => L.slices_IndexFunc_api_Product_api_Product.J1 ()) (fun d58 => some d58) o45

/-- product.Find$1 -/
def L.product_Find_1 (p_0 : Product) (a_1 : ByteArray) : Bool := (sEq p_0.Name a_1)

/-- product.Find -/
def L.product_Find (l_0 : List Product) (name_1 : ByteArray) : Option Int := Option.bind (L.slices_IndexFunc_api_Product_api_Product l_0 (fun x => some (L.product_Find_1 x name_1))) fun r2 => some r2

/-- product.Check -/
def L.product_Check.J2 (j51 : Unit) : Option Int := some 0
def L.product_Check.B3 (l_0 : List Product) (k53 : Nat) (x56 : Product) (st66 : Unit) : Option (Unit ⊕ (Int)) := Option.bind (L.product_Find l_0 x56.Name) fun r83 => if decide (r83 < (k53 : Int)) = true then some ((.inr (7))) else some (.inl ())
def L.product_Check.J1 (l_0 : List Product) (j26 : Unit) : Option Int := Option.bind (forL (L.product_Check.B3 l_0) 0 l_0 ()) fun o74 => Sum.elim (fun st66 => L.product_Check.J2 ()) (fun d88 => some d88) o74
def L.product_Check.B4 (k90 : Nat) (x93 : Product) (st102 : Unit) : Option (Unit ⊕ (Int)) := Option.bind (L.product_Valid x93) fun r117 => if (!r117) = true then some ((.inr (9))) else some (.inl ())
def L.product_Check (l_0 : List Product) : Option Int := if decide ((l_0.length : Int) > 16) = true then some 4 else Option.bind (forL L.product_Check.B4 0 l_0 ()) fun o109 => Sum.elim (fun st102 => L.product_Check.J1 l_0 ()) (fun d122 => some d122) o109

/-- gradient.liquids -/
def L.gradient_liquids.J1 (j73 : List Product) : Option ((List Product) × Int) := some (j73, 0)
def L.gradient_liquids.B2 (batches_1 : List Batch) (products_2 : List Product) (k76 : Nat) (x79 : Piece) (st122 : List Product) : Option ((List Product) ⊕ (((List Product) × Int))) := if decide (x79.Batch ≥ (batches_1.length : Int)) = true then some ((.inr (([], 8)))) else Option.bind (ix batches_1 x79.Batch) fun p155 => if (decide (p155.2.Product < 0) || decide (p155.2.Product ≥ (products_2.length : Int))) = true then some ((.inr (([], 8)))) else Option.bind (ix products_2 p155.2.Product) fun p161 => Option.bind (app? st122 ([p161.2] : List Product)) fun l164 => some (.inl l164)
def L.gradient_liquids (f_0 : List Piece) (batches_1 : List Batch) (products_2 : List Product) : Option ((List Product) × Int) := Option.bind (forL (L.gradient_liquids.B2 batches_1 products_2) 0 f_0 []) fun o143 => Sum.elim (fun st122 => L.gradient_liquids.J1 st122) (fun d169 => some d169) o143

/-- gradient.right -/
def L.gradient_right (b_0 : Bounds) : Bool := (decide (b_0.Low ≤ b_0.High) && (decide (b_0.Low ≥ (-1125899906842624)) && decide (b_0.High ≤ 1125899906842624)))

/-- sort.Search -/
def L.sort_Search.J1 (j22 : Int) : Option Int := some j22
def L.sort_Search.B2 (g1 : Int → Option Bool) (st36 : Int × Int) : Option ((Int × Int) ⊕ (Int)) := if decide (st36.1 < st36.2) = true then Option.bind (g1 (wr (((IntKind.u64.wrap (wr (st36.1 + st36.2))).fdiv 2)))) fun r49 => if (!r49) = true then some (.inl (wr ((wr (((IntKind.u64.wrap (wr (st36.1 + st36.2))).fdiv 2))) + 1), st36.2)) else some (.inl (st36.1, wr (((IntKind.u64.wrap (wr (st36.1 + st36.2))).fdiv 2)))) else some ((.inr (st36.1)))
def L.sort_Search (n_0 : Int) (g1 : Int → Option Bool) : Option Int := Option.bind (loopN (L.sort_Search.B2 g1) lots (0, n_0)) fun d52 => L.sort_Search.J1 d52

/-- gradient.section$1 -/
def L.gradient_section_1 (i_0 : Int) (a_1 : Segment) (a_2 : Int) : Option Bool := Option.bind (ix a_1.Points i_0) fun p1 => some (decide (p1.2.At ≥ a_2))

/-- gradient.section -/
def L.gradient_section (s_0 : Segment) (end_1 : Int) : Option Int := Option.bind (L.sort_Search (wr ((s_0.Points.length : Int) - 1)) (fun x => L.gradient_section_1 x s_0 end_1)) fun r3 => some r3

/-- gradient.parts -/
def L.gradient_parts.J1 (j161 : List gradient_part) : Option (List gradient_part) := some j161
def L.gradient_parts.J3 (st266 : (List gradient_part) × Int × Int × Int) (j369 : (List gradient_part) × Int × Int) : Option (((List gradient_part) × Int × Int × Int) ⊕ ((List gradient_part))) := some (.inl (j369.1, j369.2.1, j369.2.2, wr (st266.2.2.2 + 1)))
def L.gradient_parts.J5 (l_2 : List Product) (at_3 : List Int) (st266 : (List gradient_part) × Int × Int × Int) (j393 : Int × Int) (p395 : Nat × Int) (j405 : Int × Int × Int × Int × Int × Int) : Option (((List gradient_part) × Int × Int × Int) ⊕ ((List gradient_part))) := Option.bind (ix at_3 (wr (st266.2.2.2 - 1))) fun p408 => Option.bind (ix l_2 j393.1) fun p410 => Option.bind (app? st266.1 ([(⟨wr (p395.2 - p408.2), wr (j405.2.2.2.1 - j405.1), wr (j405.2.2.2.2.1 - j405.2.1), p410.2⟩ : gradient_part)] : List gradient_part)) fun l413 => L.gradient_parts.J3 st266 (l413, j393.1, j393.2)
def L.gradient_parts.J4 (s_0 : Segment) (l_2 : List Product) (at_3 : List Int) (st266 : (List gradient_part) × Int × Int × Int) (j393 : Int × Int) : Option (((List gradient_part) × Int × Int × Int) ⊕ ((List gradient_part))) := Option.bind (ix at_3 st266.2.2.2) fun p395 => Option.bind (L.gradient_section s_0 p395.2) fun r397 => Option.bind (ix s_0.Points (wr (r397 - 1))) fun p416 => Option.bind (ix s_0.Points r397) fun p418 => L.gradient_parts.J5 l_2 at_3 st266 j393 p395 (p416.2.At, p416.2.Height, p416.2.Limit, p418.2.At, p418.2.Height, p418.2.Limit)
def L.gradient_parts.B6 (f_1 : List Piece) (at_3 : List Int) (st266 : (List gradient_part) × Int × Int × Int) (st437 : Int × Int) : Option ((Int × Int) ⊕ ((Int × Int))) := Option.bind (ix at_3 st266.2.2.2) fun p450 => if decide (p450.2 > st437.2) = true then Option.bind (ix f_1 (wr (st437.1 + 1))) fun p453 => some (.inl (wr (st437.1 + 1), wr (st437.2 + p453.2.Volume))) else some ((.inr ((st437.1, st437.2))))
def L.gradient_parts.B2 (s_0 : Segment) (f_1 : List Piece) (l_2 : List Product) (at_3 : List Int) (st266 : (List gradient_part) × Int × Int × Int) : Option (((List gradient_part) × Int × Int × Int) ⊕ ((List gradient_part))) := if decide (st266.2.2.2 < (at_3.length : Int)) = true then Option.bind (loopN (L.gradient_parts.B6 f_1 at_3 st266) lots (st266.2.1, st266.2.2.1)) fun d455 => L.gradient_parts.J4 s_0 l_2 at_3 st266 d455 else some ((.inr (st266.1)))
def L.gradient_parts (s_0 : Segment) (f_1 : List Piece) (l_2 : List Product) (at_3 : List Int) : Option (List gradient_part) := Option.bind (ix f_1 0) fun p5 => Option.bind (loopN (L.gradient_parts.B2 s_0 f_1 l_2 at_3) lots ([], 0, p5.2.Volume, 1)) fun d456 => L.gradient_parts.J1 d456

/-- round.divide -/
def L.round_divide.J1 (j17 : Int × Int) : Option (Int × Int × Bool) := some (j17.1, j17.2, true)
def L.round_divide (a_0 : Int) (b_1 : Int) : Option (Int × Int × Bool) := if (decide (b_1 < 1) || (decide (b_1 > 1099511627776) || (decide (a_0 < (-2305843009213693952)) || decide (a_0 > 2305843009213693952)))) = true then some (0, 0, false) else Option.bind (quo? a_0 b_1) fun x12 => Option.bind (rem? a_0 b_1) fun x14 => if decide (x14 < 0) = true then L.round_divide.J1 (wr (x12 - 1), wr (x14 + b_1)) else L.round_divide.J1 (x12, x14)

/-- round.Down -/
def L.round_Down (a_0 : Int) (b_1 : Int) : Option Int := Option.bind (L.round_divide a_0 b_1) fun r2 => some r2.1

/-- round.Up -/
def L.round_Up.J1 (j9 : Int) : Option Int := some j9
def L.round_Up (a_0 : Int) (b_1 : Int) : Option Int := Option.bind (L.round_divide a_0 b_1) fun r3 => if (r3.2.2 && decide (r3.2.1 > 0)) = true then L.round_Up.J1 (wr (r3.1 + 1)) else L.round_Up.J1 r3.1

/-- (gradient.part).loss -/
def L.gradient_part_loss (x_0 : gradient_part) (s_1 : Segment) (q_2 : Int) : Option (Int × Int) := Option.bind (L.round_Down (wr ((wr ((wr ((wr (s_1.Resist * x_0.liquid.Friction)) * q_2)) * q_2)) * x_0.length)) (wr (1000 * s_1.Capacity))) fun r6 => Option.bind (L.round_Down (wr ((wr ((wr (x_0.liquid.Density * 9807)) * x_0.height)) * x_0.length)) (wr (1000 * x_0.width))) fun r8 => Option.bind (L.round_Up (wr ((wr ((wr ((wr (s_1.Resist * x_0.liquid.Friction)) * q_2)) * q_2)) * x_0.length)) (wr (1000 * s_1.Capacity))) fun r10 => Option.bind (L.round_Up (wr ((wr ((wr (x_0.liquid.Density * 9807)) * x_0.height)) * x_0.length)) (wr (1000 * x_0.width))) fun r12 => some (wr (r6 + r8), wr (r10 + r12))

/-- slices.Clone[[]int,int] -/
def L.slices_Clone_int_int (s0 : List Int) : Option (List Int) := app? [] s0

/-- slices.Reverse[[]int,int] -/
def L.slices_Reverse_int_int.J2 (st29 : (List Int) × Int × Int) (j58 : List Int) : Option (((List Int) × Int × Int) ⊕ ((List Int))) := some (.inl (j58, wr (st29.2.1 + 1), wr (st29.2.2 - 1)))
def L.slices_Reverse_int_int.B1 (st29 : (List Int) × Int × Int) : Option (((List Int) × Int × Int) ⊕ ((List Int))) := if decide (st29.2.1 < st29.2.2) = true then Option.bind (ix st29.1 st29.2.2) fun p59 => Option.bind (ix st29.1 st29.2.1) fun p61 => Option.bind (ix (st29.1.set p61.1 p59.2) st29.2.2) fun p63 => L.slices_Reverse_int_int.J2 st29 ((st29.1.set p61.1 p59.2).set p63.1 p61.2) else some ((.inr (st29.1)))
def L.slices_Reverse_int_int (s_0 : List Int) : Option (List Int) := Option.bind (loopN L.slices_Reverse_int_int.B1 lots (s_0, 0, wr ((s_0.length : Int) - 1))) fun d68 => some d68

/-- slices.Reverse[[]gradient.part,gradient.part] -/
def L.slices_Reverse_gradient_part_gradient_part.J2 (st29 : (List gradient_part) × Int × Int) (j58 : List gradient_part) : Option (((List gradient_part) × Int × Int) ⊕ ((List gradient_part))) := some (.inl (j58, wr (st29.2.1 + 1), wr (st29.2.2 - 1)))
def L.slices_Reverse_gradient_part_gradient_part.B1 (st29 : (List gradient_part) × Int × Int) : Option (((List gradient_part) × Int × Int) ⊕ ((List gradient_part))) := if decide (st29.2.1 < st29.2.2) = true then Option.bind (ix st29.1 st29.2.2) fun p59 => Option.bind (ix st29.1 st29.2.1) fun p61 => Option.bind (ix (st29.1.set p61.1 p59.2) st29.2.2) fun p63 => L.slices_Reverse_gradient_part_gradient_part.J2 st29 ((st29.1.set p61.1 p59.2).set p63.1 p61.2) else some ((.inr (st29.1)))
def L.slices_Reverse_gradient_part_gradient_part (s_0 : List gradient_part) : Option (List gradient_part) := Option.bind (loopN L.slices_Reverse_gradient_part_gradient_part.B1 lots (s_0, 0, wr ((s_0.length : Int) - 1))) fun d68 => some d68

/-- slices.Reverse[[]api.Level,api.Level] -/
def L.slices_Reverse_api_Level_api_Level.J2 (st29 : (List Level) × Int × Int) (j58 : List Level) : Option (((List Level) × Int × Int) ⊕ ((List Level))) := some (.inl (j58, wr (st29.2.1 + 1), wr (st29.2.2 - 1)))
def L.slices_Reverse_api_Level_api_Level.B1 (st29 : (List Level) × Int × Int) : Option (((List Level) × Int × Int) ⊕ ((List Level))) := if decide (st29.2.1 < st29.2.2) = true then Option.bind (ix st29.1 st29.2.2) fun p59 => Option.bind (ix st29.1 st29.2.1) fun p61 => Option.bind (ix (st29.1.set p61.1 p59.2) st29.2.2) fun p63 => L.slices_Reverse_api_Level_api_Level.J2 st29 ((st29.1.set p61.1 p59.2).set p63.1 p61.2) else some ((.inr (st29.1)))
def L.slices_Reverse_api_Level_api_Level (s_0 : List Level) : Option (List Level) := Option.bind (loopN L.slices_Reverse_api_Level_api_Level.B1 lots (s_0, 0, wr ((s_0.length : Int) - 1))) fun d68 => some d68

/-- gradient.Along -/
def L.gradient_Along.J3 (j140 : List Level) : Option ((List Level) × Int) := some (j140, 0)
def L.gradient_Along.J2 (rate_4 : Int) (j135 : List Level) : Option ((List Level) × Int) := if decide (rate_4 < 0) = true then Option.bind (L.slices_Reverse_api_Level_api_Level j135) fun r142 => L.gradient_Along.J3 r142 else L.gradient_Along.J3 j135
def L.gradient_Along.B4 (s_0 : Segment) (rate_4 : Int) (j69 : (List gradient_part) × (List Int)) (k145 : Nat) (st184 : Int × Int × (List Level)) : Option (Int × Int × (List Level)) := Option.bind (ix j69.1 (k145 : Int)) fun p210 => Option.bind (L.gradient_part_loss p210.2 s_0 (max rate_4 (wr (0 - rate_4)))) fun r214 => Option.bind (ix j69.2 ((k145 + 1 : Nat) : Int)) fun p216 => Option.bind (app? st184.2.2 ([(⟨p216.2, (⟨wr (st184.1 - r214.2), wr (st184.2.1 - r214.1)⟩ : Bounds)⟩ : Level)] : List Level)) fun l219 => some (wr (st184.1 - r214.2), wr (st184.2.1 - r214.1), l219)
def L.gradient_Along.J1 (s_0 : Segment) (rate_4 : Int) (in_5 : Bounds) (j69 : (List gradient_part) × (List Int)) : Option ((List Level) × Int) := Option.bind (ix j69.2 0) fun p71 => Option.bind (forJ (L.gradient_Along.B4 s_0 rate_4 j69) 0 j69.1.length (in_5.Low, in_5.High, ([(⟨p71.2, in_5⟩ : Level)] : List Level))) fun st184 => L.gradient_Along.J2 rate_4 st184.2.2
def L.gradient_Along.B5 (k234 : Nat) (st248 : List gradient_part) : Option (List gradient_part) := Option.bind (ix st248 (k234 : Int)) fun p260 => some (st248.set p260.1 (⟨p260.2.length, p260.2.width, wr (0 - p260.2.height), p260.2.liquid⟩ : gradient_part))
def L.gradient_Along (s_0 : Segment) (f_1 : List Piece) (batches_2 : List Batch) (products_3 : List Product) (rate_4 : Int) (in_5 : Bounds) : Option ((List Level) × Int) := Option.bind (L.gradient_filled s_0 f_1) fun r5 => if (r5 != 0) = true then some ([], r5) else Option.bind (L.product_Check products_3) fun r9 => if (r9 != 0) = true then some ([], r9) else Option.bind (L.gradient_liquids f_1 batches_2 products_3) fun r13 => if (r13.2 != 0) = true then some ([], r13.2) else if ((rate_4 == 0) || (decide (rate_4 < (-1000)) || (decide (rate_4 > 1000) || (!(L.gradient_right in_5))))) = true then some ([], 1) else Option.bind (L.gradient_breaks s_0 f_1) fun r28 => Option.bind (L.gradient_parts s_0 f_1 r13.1 r28) fun r32 => Option.bind (L.slices_Clone_int_int r28) fun r36 => if decide (rate_4 < 0) = true then Option.bind (L.slices_Reverse_int_int r36) fun r228 => Option.bind (L.slices_Reverse_gradient_part_gradient_part r32) fun r231 => Option.bind (forJ L.gradient_Along.B5 0 r231.length r231) fun st248 => L.gradient_Along.J1 s_0 rate_4 in_5 (st248, r228) else L.gradient_Along.J1 s_0 rate_4 in_5 (r32, r36)

/-- slices.IndexFunc[[]api.Level,api.Level] -/
def L.slices_IndexFunc_api_Level_api_Level.J1 (j24 : Unit) : Option Int := some (-1)
def L.slices_IndexFunc_api_Level_api_Level.B2 (g1 : Level → Option Bool) (k26 : Nat) (x29 : Level) (st38 : Unit) : Option (Unit ⊕ (Int)) := Option.bind (g1 x29) fun r53 => if r53 = true then some ((.inr ((k26 : Int)))) else some (.inl ())
def L.slices_IndexFunc_api_Level_api_Level (s_0 : List Level) (g1 : Level → Option Bool) : Option Int := Option.bind (forL (L.slices_IndexFunc_api_Level_api_Level.B2 g1) 0 s_0 ()) fun o45 => Sum.elim (fun st38 => L.slices_IndexFunc_api_Level_api_Level.J1 ()) (fun d58 => some d58) o45

/-- slices.ContainsFunc[[]api.Level,api.Level] -/
def L.slices_ContainsFunc_api_Level_api_Level (s_0 : List Level) (g1 : Level → Option Bool) : Option Bool := Option.bind (L.slices_IndexFunc_api_Level_api_Level s_0 g1) fun r1 => some (decide (r1 ≥ 0))

/-- gradient.Keeps$1 -/
def L.gradient_Keeps_1 (x_0 : Level) (a_1 : Segment) : Bool := (decide (x_0.At < 0) || decide (x_0.At > a_1.Capacity))

/-- gradient.Limit -/
def L.gradient_Limit.J1 (j57 : Int) : Option Int := some j57
def L.gradient_Limit.J3 (st94 : Int × Int) (j131 : Int) : Option ((Int × Int) ⊕ (Int)) := some (.inl (j131, wr (st94.2 + 1)))
def L.gradient_Limit.J4 (place_1 : Int) (st94 : Int × Int) (j138 : Int × Int × Int × Int × Int × Int) : Option ((Int × Int) ⊕ (Int)) := if (decide (j138.1 ≤ place_1) && decide (place_1 ≤ j138.2.2.2.1)) = true then L.gradient_Limit.J3 st94 (min (min st94.1 j138.2.2.1) j138.2.2.2.2.2) else L.gradient_Limit.J3 st94 st94.1
def L.gradient_Limit.B2 (s_0 : Segment) (place_1 : Int) (st94 : Int × Int) : Option ((Int × Int) ⊕ (Int)) := if decide (st94.2 < (s_0.Points.length : Int)) = true then Option.bind (ix s_0.Points (wr (st94.2 - 1))) fun p145 => Option.bind (ix s_0.Points st94.2) fun p147 => L.gradient_Limit.J4 place_1 st94 (p145.2.At, p145.2.Height, p145.2.Limit, p147.2.At, p147.2.Height, p147.2.Limit) else some ((.inr (st94.1)))
def L.gradient_Limit (s_0 : Segment) (place_1 : Int) : Option Int := Option.bind (loopN (L.gradient_Limit.B2 s_0 place_1) lots (100000000, 1)) fun d151 => L.gradient_Limit.J1 d151

/-- gradient.Keeps -/
def L.gradient_Keeps.J3 (j68 : Unit) : Option (Int × Int) := some ((-1), 0)
def L.gradient_Keeps.J5 (x73 : Level) (j107 : Bool) : Option (Unit ⊕ ((Int × Int))) := if j107 = true then some ((.inr ((x73.At, 15)))) else some (.inl ())
def L.gradient_Keeps.B4 (s_0 : Segment) (vapour_2 : Int) (k70 : Nat) (x73 : Level) (st85 : Unit) : Option (Unit ⊕ ((Int × Int))) := Option.bind (L.gradient_Limit s_0 x73.At) fun r109 => if decide (x73.Bounds.High > r109) = true then L.gradient_Keeps.J5 x73 true else L.gradient_Keeps.J5 x73 (decide (x73.Bounds.Low < vapour_2))
def L.gradient_Keeps.J2 (s_0 : Segment) (l_1 : List Level) (vapour_2 : Int) (j39 : Unit) : Option (Int × Int) := Option.bind (forL (L.gradient_Keeps.B4 s_0 vapour_2) 0 l_1 ()) fun o95 => Sum.elim (fun st85 => L.gradient_Keeps.J3 ()) (fun d114 => some d114) o95
def L.gradient_Keeps.B6 (l_1 : List Level) (st133 : Int) : Option (Int ⊕ ((Int × Int) ⊕ Unit)) := if decide (st133 < (l_1.length : Int)) = true then Option.bind (ix l_1 (wr (st133 - 1))) fun p148 => Option.bind (ix l_1 st133) fun p150 => if decide (p148.2.At ≥ p150.2.At) = true then some ((.inr (.inl ((0, 6))))) else some (.inl (wr (st133 + 1))) else some ((.inr (.inr (()))))
def L.gradient_Keeps.J1 (s_0 : Segment) (l_1 : List Level) (vapour_2 : Int) (j11 : Bool) : Option (Int × Int) := if j11 = true then some (0, 1) else Option.bind (loopN (L.gradient_Keeps.B6 l_1) lots 1) fun o141 => Sum.elim (fun d153 => some d153) (fun d154 => L.gradient_Keeps.J2 s_0 l_1 vapour_2 d154) o141
def L.gradient_Keeps (s_0 : Segment) (l_1 : List Level) (vapour_2 : Int) : Option (Int × Int) := Option.bind (L.gradient_check s_0) fun r4 => if (r4 != 0) = true then some (0, r4) else if decide ((l_1.length : Int) > 208) = true then L.gradient_Keeps.J1 s_0 l_1 vapour_2 true else Option.bind (L.slices_ContainsFunc_api_Level_api_Level l_1 (fun x => some (L.gradient_Keeps_1 x s_0))) fun r156 => L.gradient_Keeps.J1 s_0 l_1 vapour_2 r156

/-- batchlineref19.Same -/
def L.ref19_Same.J1 (j26 : Unit) : Option Bool := some true
def L.ref19_Same.B2 (b_1 : List Level) (k28 : Nat) (x31 : Level) (st40 : Unit) : Option (Unit ⊕ (Bool)) := Option.bind (ix b_1 (k28 : Int)) fun p55 => if (!((x31.At == p55.2.At) && (((x31.Bounds.Low == p55.2.Bounds.Low) && ((x31.Bounds.High == p55.2.Bounds.High) && true)) && true))) = true then some ((.inr (false))) else some (.inl ())
def L.ref19_Same (a_0 : List Level) (b_1 : List Level) : Option Bool := if ((a_0.length : Int) != (b_1.length : Int)) = true then some false else Option.bind (forL (L.ref19_Same.B2 b_1) 0 a_0 ()) fun o47 => Sum.elim (fun st40 => L.ref19_Same.J1 ()) (fun d60 => some d60) o47

/-- batchlinelaw19.segment -/
def L.law19_segment : Segment := (⟨(⟨#[115]⟩ : ByteArray), 0, 1, 100, 2, 0, ([(⟨0, 0, 600000⟩ : Point), (⟨100, 10, 600000⟩ : Point)] : List Point)⟩ : Segment)

/-- batchlinelaw19.oil -/
def L.law19_oil : (List Product) := ([(⟨(⟨#[111, 105, 108]⟩ : ByteArray), 800, 0, 0, 1000⟩ : Product)] : List Product)

/-- batchlinelaw19.awake -/
def L.law19_awake.J2 (j22 : Bool) : Option Bool := some j22
def L.law19_awake.J1 (j11 : (List Level) × Int) : Option Bool := Option.bind (L.gradient_Keeps L.law19_segment j11.1 0) fun r14 => if (j11.2 == 0) = true then Option.bind (L.ref19_Same j11.1 ([(⟨0, (⟨500000, 500000⟩ : Bounds)⟩ : Level), (⟨100, (⟨419744, 419744⟩ : Bounds)⟩ : Level)] : List Level)) fun r25 => if r25 = true then if (r14.2 == 0) = true then L.law19_awake.J2 (r14.1 == (-1)) else L.law19_awake.J2 false else L.law19_awake.J2 false else L.law19_awake.J2 false
def L.law19_awake : Option Bool := Option.bind (mk? 1 (⟨(0 : Int), (⟨#[]⟩ : ByteArray), (0 : Int), (0 : Int)⟩ : Batch)) fun l30 => Option.bind (L.gradient_Along L.law19_segment ([(⟨0, 100⟩ : Piece)] : List Piece) l30 L.law19_oil 30 (⟨500000, 500000⟩ : Bounds)) fun r35 => L.law19_awake.J1 (r35.1, r35.2)

/-- batchlineref14.Proper -/
def L.ref14_Proper (batch_0 : Int) : Bool := (decide (batch_0 ≥ 0) && decide (batch_0 < 1000))

/-- batchlineref14.Valid -/
def L.ref14_Valid.J1 (j52 : Int) : Option Bool := some (decide (j52 ≤ 1000000))
def L.ref14_Valid.J3 (x57 : Piece) (st85 : Int) (j113 : Bool) : Option (Int ⊕ (Bool)) := if j113 = true then some ((.inr (false))) else some (.inl (wr (st85 + x57.Volume)))
def L.ref14_Valid.B2 (f_0 : List Piece) (k54 : Nat) (x57 : Piece) (st85 : Int) : Option (Int ⊕ (Bool)) := if (!(L.ref14_Proper x57.Batch)) = true then L.ref14_Valid.J3 x57 st85 true else if decide (x57.Volume < 1) = true then L.ref14_Valid.J3 x57 st85 true else if decide (x57.Volume > 1000000) = true then L.ref14_Valid.J3 x57 st85 true else if decide ((k54 : Int) > 0) = true then Option.bind (ix f_0 (wr ((k54 : Int) - 1))) fun p119 => L.ref14_Valid.J3 x57 st85 (x57.Batch == p119.2.Batch) else L.ref14_Valid.J3 x57 st85 false
def L.ref14_Valid (f_0 : List Piece) : Option Bool := if decide ((f_0.length : Int) > 200) = true then some false else Option.bind (forL (L.ref14_Valid.B2 f_0) 0 f_0 0) fun o98 => Sum.elim (fun st85 => L.ref14_Valid.J1 st85) (fun d123 => some d123) o98

/-- batchlineref14.Sum -/
def L.ref14_Sum.J1 (j20 : Int) : Option Int := some j20
def L.ref14_Sum.B2 (k22 : Nat) (x25 : Piece) (st33 : Int) : Option Int := some (wr (st33 + x25.Volume))
def L.ref14_Sum (f_0 : List Piece) : Option Int := Option.bind (forS L.ref14_Sum.B2 0 f_0 0) fun st33 => L.ref14_Sum.J1 st33

/-- batchlineref15.List -/
def L.ref15_List.J1 (j56 : List Boundary) : Option ((List Boundary) × Int) := some (j56, 0)
def L.ref15_List.B2 (f_0 : List Piece) (st91 : (List Boundary) × Int) : Option (((List Boundary) × Int) ⊕ ((List Boundary))) := if decide (st91.2 < (f_0.length : Int)) = true then Option.bind (sub? f_0 0 st91.2) fun l114 => Option.bind (L.ref14_Sum l114) fun r116 => Option.bind (ix f_0 (wr (st91.2 - 1))) fun p118 => Option.bind (ix f_0 st91.2) fun p120 => Option.bind (app? st91.1 ([(⟨r116, p118.2.Batch, p120.2.Batch⟩ : Boundary)] : List Boundary)) fun l123 => some (.inl (l123, wr (st91.2 + 1))) else some ((.inr (st91.1)))
def L.ref15_List (f_0 : List Piece) : Option ((List Boundary) × Int) := Option.bind (L.ref14_Valid f_0) fun r3 => if (!r3) = true then some ([], 9) else Option.bind (loopN (L.ref15_List.B2 f_0) lots ([], 1)) fun d126 => L.ref15_List.J1 d126

/-- batchlinekeep.In -/
def L.keep_In.J1 (j20 : Unit) : Option Bool := some false
def L.keep_In.B2 (x_1 : Int) (k22 : Nat) (x25 : Int) (st32 : Unit) : Option (Unit ⊕ (Bool)) := if (x25 == x_1) = true then some ((.inr (true))) else some (.inl ())
def L.keep_In (l_0 : List Int) (x_1 : Int) : Option Bool := Option.bind (forL (L.keep_In.B2 x_1) 0 l_0 ()) fun o37 => Sum.elim (fun st32 => L.keep_In.J1 ()) (fun d48 => some d48) o37

/-- batchlinelaw19.GradientBreaks -/
def L.law19_GradientBreaks.J5 (j314 : Bool) : Option Bool := some j314
def L.law19_GradientBreaks.J4 (r6 : Segment × (List Piece) × (List Batch) × (List Product) × batchlinekeep_Src) (r31 : (List Boundary) × Int) (j261 : Int) (j310 : Unit) : Option Bool := if decide (j261 ≤ (wr ((r6.1.Points.length : Int) + (r31.1.length : Int)))) = true then Option.bind (L.law19_awake) fun r316 => L.law19_GradientBreaks.J5 r316 else L.law19_GradientBreaks.J5 false
def L.law19_GradientBreaks.B6 (r10 : (List Int) × Int) (r31 : (List Boundary) × Int) (k319 : Nat) (st332 : Unit) : Option (Unit ⊕ (Bool)) := Option.bind (ix r31.1 (k319 : Int)) fun p348 => Option.bind (L.keep_In r10.1 p348.2.At) fun r351 => if (!r351) = true then some ((.inr (false))) else some (.inl ())
def L.law19_GradientBreaks.J3 (r6 : Segment × (List Piece) × (List Batch) × (List Product) × batchlinekeep_Src) (r10 : (List Int) × Int) (r31 : (List Boundary) × Int) (j261 : Int) (j284 : Unit) : Option Bool := Option.bind (forI (L.law19_GradientBreaks.B6 r10 r31) 0 r31.1.length ()) fun o341 => Sum.elim (fun st332 => L.law19_GradientBreaks.J4 r6 r31 j261 ()) (fun d356 => some d356) o341
def L.law19_GradientBreaks.B7 (r10 : (List Int) × Int) (k358 : Nat) (x361 : Point) (st370 : Unit) : Option (Unit ⊕ (Bool)) := Option.bind (L.keep_In r10.1 x361.At) fun r385 => if (!r385) = true then some ((.inr (false))) else some (.inl ())
def L.law19_GradientBreaks.J2 (r6 : Segment × (List Piece) × (List Batch) × (List Product) × batchlinekeep_Src) (r10 : (List Int) × Int) (r31 : (List Boundary) × Int) (j261 : Int) : Option Bool := Option.bind (forL (L.law19_GradientBreaks.B7 r10) 0 r6.1.Points ()) fun o377 => Sum.elim (fun st370 => L.law19_GradientBreaks.J3 r6 r10 r31 j261 ()) (fun d390 => some d390) o377
def L.law19_GradientBreaks.J9 (st542 : Int) (j691 : Unit) : Option (Int ⊕ (Bool)) := some (.inl (wr (st542 + 1)))
def L.law19_GradientBreaks.J12 (st542 : Int) (j759 : Bool) : Option (Int ⊕ (Bool)) := if (!j759) = true then some ((.inr (false))) else L.law19_GradientBreaks.J9 st542 ()
def L.law19_GradientBreaks.J14 (j801 : Bool) : Option Bool := some j801
def L.law19_GradientBreaks.B13 (r31 : (List Boundary) × Int) (p693 : Nat × Int) (k762 : Nat) (st782 : Bool) : Option Bool := Option.bind (ix r31.1 (k762 : Int)) fun p802 => if st782 = true then L.law19_GradientBreaks.J14 true else L.law19_GradientBreaks.J14 (p802.2.At == p693.2)
def L.law19_GradientBreaks.J11 (r31 : (List Boundary) × Int) (st542 : Int) (p693 : Nat × Int) (j727 : Bool) : Option (Int ⊕ (Bool)) := Option.bind (forJ (L.law19_GradientBreaks.B13 r31 p693) 0 r31.1.length j727) fun st782 => L.law19_GradientBreaks.J12 st542 st782
def L.law19_GradientBreaks.J16 (j840 : Bool) : Option Bool := some j840
def L.law19_GradientBreaks.B15 (p693 : Nat × Int) (k809 : Nat) (x812 : Point) (st825 : Bool) : Option Bool := if st825 = true then L.law19_GradientBreaks.J16 true else L.law19_GradientBreaks.J16 (x812.At == p693.2)
def L.law19_GradientBreaks.J10 (r6 : Segment × (List Piece) × (List Batch) × (List Product) × batchlinekeep_Src) (r31 : (List Boundary) × Int) (st542 : Int) (p693 : Nat × Int) (j699 : Bool) : Option (Int ⊕ (Bool)) := if j699 = true then some ((.inr (false))) else Option.bind (forS (L.law19_GradientBreaks.B15 p693) 0 r6.1.Points false) fun st825 => L.law19_GradientBreaks.J11 r31 st542 p693 st825
def L.law19_GradientBreaks.B8 (r6 : Segment × (List Piece) × (List Batch) × (List Product) × batchlinekeep_Src) (r10 : (List Int) × Int) (r31 : (List Boundary) × Int) (k392 : Nat) (st542 : Int) : Option (Int ⊕ (Bool)) := Option.bind (ix r10.1 (k392 : Int)) fun p693 => if decide ((k392 : Int) > 0) = true then Option.bind (ix r10.1 (wr ((k392 : Int) - 1))) fun p846 => L.law19_GradientBreaks.J10 r6 r31 st542 p693 (decide (p693.2 ≤ p846.2)) else L.law19_GradientBreaks.J10 r6 r31 st542 p693 false
def L.law19_GradientBreaks.J1 (r6 : Segment × (List Piece) × (List Batch) × (List Product) × batchlinekeep_Src) (r10 : (List Int) × Int) (j28 : Bool) : Option Bool := if j28 = true then some false else Option.bind (L.ref15_List r6.2.1) fun r31 => Option.bind (forI (L.law19_GradientBreaks.B8 r6 r10 r31) 0 r10.1.length 0) fun o615 => Sum.elim (fun st542 => L.law19_GradientBreaks.J2 r6 r10 r31 st542) (fun d850 => some d850) o615
def L.law19_GradientBreaks (l_0 : List Int) : Option Bool := Option.bind (L.keep_New l_0) fun r3 => Option.bind (L.law19_world r3) fun r6 => Option.bind (L.gradient_Breaks r6.1 r6.2.1) fun r10 => if (r10.2 != 0) = true then L.law19_GradientBreaks.J1 r6 r10 true else if decide ((r10.1.length : Int) < 2) = true then L.law19_GradientBreaks.J1 r6 r10 true else Option.bind (ix r10.1 0) fun p854 => if (p854.2 != 0) = true then L.law19_GradientBreaks.J1 r6 r10 true else Option.bind (ix r10.1 (wr ((r10.1.length : Int) - 1))) fun p859 => L.law19_GradientBreaks.J1 r6 r10 (p859.2 != r6.1.Capacity)

/-- batchlinelaw19.GradientEncloses -/
def L.law19_GradientEncloses.J2 (j105 : Unit) : Option Bool := Option.bind (L.law19_awake) fun r106 => some r106
def L.law19_GradientEncloses.J5 (j211 : Bool) : Option (Unit ⊕ (Bool)) := if j211 = true then some ((.inr (false))) else some (.inl ())
def L.law19_GradientEncloses.J4 (by_2 : Int) (r14 : Bounds × batchlinekeep_Src) (r18 : (List Level) × Int) (r22 : (List Level) × Int) (k109 : Nat) (j187 : Int) : Option (Unit ⊕ (Bool)) := Option.bind (ix r18.1 (k109 : Int)) fun p189 => if decide ((wr (p189.2.Bounds.High - p189.2.Bounds.Low)) < (wr (r14.1.High - r14.1.Low))) = true then L.law19_GradientEncloses.J5 true else if decide ((wr (p189.2.Bounds.High - p189.2.Bounds.Low)) > (wr ((wr (r14.1.High - r14.1.Low)) + (wr (2 * j187))))) = true then L.law19_GradientEncloses.J5 true else Option.bind (ix r22.1 (k109 : Int)) fun p215 => if (p215.2.Bounds.Low != (wr (p189.2.Bounds.Low + (wr (by_2))))) = true then L.law19_GradientEncloses.J5 true else if (p215.2.Bounds.High != (wr (p189.2.Bounds.High + (wr (by_2))))) = true then L.law19_GradientEncloses.J5 true else L.law19_GradientEncloses.J5 (p189.2.At != p215.2.At)
def L.law19_GradientEncloses.B3 (by_2 : Int) (j12 : Int) (r14 : Bounds × batchlinekeep_Src) (r18 : (List Level) × Int) (r22 : (List Level) × Int) (k109 : Nat) (st145 : Unit) : Option (Unit ⊕ (Bool)) := if decide (j12 < 0) = true then L.law19_GradientEncloses.J4 by_2 r14 r18 r22 k109 (wr ((wr ((r18.1.length : Int) - 1)) - (k109 : Int))) else L.law19_GradientEncloses.J4 by_2 r14 r18 r22 k109 (k109 : Int)
def L.law19_GradientEncloses.J1 (by_2 : Int) (r7 : Segment × (List Piece) × (List Batch) × (List Product) × batchlinekeep_Src) (j12 : Int) : Option Bool := Option.bind (L.law19_bounds r7.2.2.2.2) fun r14 => Option.bind (L.gradient_Along r7.1 r7.2.1 r7.2.2.1 r7.2.2.2.1 j12 r14.1) fun r18 => Option.bind (L.gradient_Along r7.1 r7.2.1 r7.2.2.1 r7.2.2.2.1 j12 (⟨wr (r14.1.Low + (wr (by_2))), wr (r14.1.High + (wr (by_2)))⟩ : Bounds)) fun r22 => if ((r18.2 != 0) || ((r22.2 != 0) || (((r18.1.length : Int) != (r22.1.length : Int)) || decide ((r18.1.length : Int) < 2)))) = true then some false else Option.bind (forI (L.law19_GradientEncloses.B3 by_2 j12 r14 r18 r22) 0 r18.1.length ()) fun o177 => Sum.elim (fun st145 => L.law19_GradientEncloses.J2 ()) (fun d234 => some d234) o177
def L.law19_GradientEncloses (l_0 : List Int) (rate_1 : Int) (by_2 : Int) : Option Bool := Option.bind (L.keep_New l_0) fun r3 => Option.bind (L.law19_world r3) fun r7 => if (((wr (rate_1)).tmod 1001) == 0) = true then L.law19_GradientEncloses.J1 by_2 r7 1 else L.law19_GradientEncloses.J1 by_2 r7 ((wr (rate_1)).tmod 1001)

/-- batchlinelaw19.GradientTurns -/
def L.law19_GradientTurns.J3 (j89 : Bool) : Option Bool := some j89
def L.law19_GradientTurns.J2 (r12 : (List Level) × Int) (j79 : Int × Int × Int × Int × Int × Int) : Option Bool := if decide ((wr (j79.1 + j79.2.2.1)) ≤ (wr (2 * j79.2.2.2.2.2))) = true then if decide ((wr (j79.2.1 + j79.2.2.2.1)) ≥ (wr (2 * j79.2.2.2.2.1))) = true then if decide ((wr ((wr (j79.2.1 + j79.2.2.2.1)) - (wr (2 * j79.2.2.2.2.2)))) ≤ (wr (4 * (r12.1.length : Int)))) = true then if decide ((wr ((wr ((wr (2 * j79.2.2.2.2.1)) - j79.1)) - j79.2.2.1)) ≤ (wr (4 * (r12.1.length : Int)))) = true then Option.bind (L.law19_awake) fun r94 => L.law19_GradientTurns.J3 r94 else L.law19_GradientTurns.J3 false else L.law19_GradientTurns.J3 false else L.law19_GradientTurns.J3 false else L.law19_GradientTurns.J3 false
def L.law19_GradientTurns.J1 (rate_1 : Int) (r7 : Segment × (List Piece) × (List Batch) × (List Product) × batchlinekeep_Src) (r12 : (List Level) × Int) (r16 : (List Level) × Int) (j48 : List Point) : Option Bool := Option.bind (L.gradient_Along (⟨r7.1.Name, r7.1.From, r7.1.To, r7.1.Capacity, r7.1.Resist, r7.1.Wave, j48⟩ : Segment) r7.2.1 r7.2.2.1 r7.2.2.2.1 (wr (1 + ((wr (rate_1)).tmod 1000))) (⟨0, 0⟩ : Bounds)) fun r50 => if ((r12.2 != 0) || ((r16.2 != 0) || ((r50.2 != 0) || (decide ((r12.1.length : Int) < 2) || (((r12.1.length : Int) != (r16.1.length : Int)) || ((r12.1.length : Int) != (r50.1.length : Int))))))) = true then some false else Option.bind (ix r12.1 (wr ((r12.1.length : Int) - 1))) fun p96 => Option.bind (ix r16.1 0) fun p98 => Option.bind (ix r50.1 (wr ((r12.1.length : Int) - 1))) fun p100 => L.law19_GradientTurns.J2 r12 (p96.2.Bounds.Low, p96.2.Bounds.High, p98.2.Bounds.Low, p98.2.Bounds.High, p100.2.Bounds.Low, p100.2.Bounds.High)
def L.law19_GradientTurns.B4 (k109 : Nat) (st123 : List Point) : Option (List Point) := Option.bind (ix st123 (k109 : Int)) fun p135 => some (st123.set p135.1 (⟨p135.2.At, 0, p135.2.Limit⟩ : Point))
def L.law19_GradientTurns (l_0 : List Int) (rate_1 : Int) : Option Bool := Option.bind (L.keep_New l_0) fun r3 => Option.bind (L.law19_world r3) fun r7 => Option.bind (L.gradient_Along r7.1 r7.2.1 r7.2.2.1 r7.2.2.2.1 (wr (1 + ((wr (rate_1)).tmod 1000))) (⟨0, 0⟩ : Bounds)) fun r12 => Option.bind (L.gradient_Along r7.1 r7.2.1 r7.2.2.1 r7.2.2.2.1 (wr (0 - (wr (1 + ((wr (rate_1)).tmod 1000))))) (⟨0, 0⟩ : Bounds)) fun r16 => Option.bind (app? ([] : List Point) r7.1.Points) fun l23 => Option.bind (forJ L.law19_GradientTurns.B4 0 l23.length l23) fun st123 => L.law19_GradientTurns.J1 rate_1 r7 r12 r16 st123

end Go.Proofs.YtncfbhnecmnfpaaGreatDoor
