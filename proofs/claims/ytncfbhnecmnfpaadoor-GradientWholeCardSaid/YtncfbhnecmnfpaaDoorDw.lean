/- Pure functions for functions of the program; printed by a program of ours. No condition. -/
import Derived.Test.YtncfbhnecmnfpaaDoorDg
namespace Go.Proofs.YtncfbhnecmnfpaaDoor
open Go.Aw
set_option linter.unusedVariables false
set_option linter.unusedSimpArgs false



/-- batchlinelaw19.GradientWhole -/
def L.law19_GradientWhole.J4 (j58 : Bool) : Option Bool := some j58
def L.law19_GradientWhole.J3 (r7 : Segment × batchlinekeep_Src) (r11 : Product × batchlinekeep_Src) (j16 : Int) (j50 : Int × Int × Int) : Option Bool := Option.bind (ix ([r11.1] : List Product) 0) fun p52 => if decide ((wr ((-1000) * j50.2.1)) ≤ (wr ((wr ((wr ((wr (r7.1.Resist * p52.2.Friction)) * j16)) * j16)) + (wr ((wr (p52.2.Density * 9807)) * j50.2.2))))) = true then if decide ((wr ((wr ((wr ((wr (r7.1.Resist * p52.2.Friction)) * j16)) * j16)) + (wr ((wr (p52.2.Density * 9807)) * j50.2.2)))) ≤ (wr ((-1000) * j50.1))) = true then Option.bind (L.law19_awake) fun r61 => L.law19_GradientWhole.J4 r61 else L.law19_GradientWhole.J4 false else L.law19_GradientWhole.J4 false
def L.law19_GradientWhole.J2 (r7 : Segment × batchlinekeep_Src) (r11 : Product × batchlinekeep_Src) (j16 : Int) (r24 : (List Level) × Int) (j38 : Int × Int × Int × Int × Int × Int) : Option Bool := Option.bind (ix r24.1 (wr ((r24.1.length : Int) - 1))) fun p42 => if decide (j16 < 0) = true then Option.bind (ix r24.1 0) fun p64 => L.law19_GradientWhole.J3 r7 r11 j16 (p64.2.Bounds.Low, p64.2.Bounds.High, wr (0 - (wr (j38.2.2.2.2.1 - j38.2.1)))) else L.law19_GradientWhole.J3 r7 r11 j16 (p42.2.Bounds.Low, p42.2.Bounds.High, wr (j38.2.2.2.2.1 - j38.2.1))
def L.law19_GradientWhole.J1 (r7 : Segment × batchlinekeep_Src) (r11 : Product × batchlinekeep_Src) (j16 : Int) : Option Bool := Option.bind (mk? 1 (⟨(0 : Int), (⟨#[]⟩ : ByteArray), (0 : Int), (0 : Int)⟩ : Batch)) fun l20 => Option.bind (L.gradient_Along r7.1 ([(⟨0, r7.1.Capacity⟩ : Piece)] : List Piece) l20 ([r11.1] : List Product) j16 (⟨0, 0⟩ : Bounds)) fun r24 => if ((r24.2 != 0) || ((r24.1.length : Int) != (r7.1.Points.length : Int))) = true then some false else Option.bind (ix r7.1.Points 0) fun p66 => Option.bind (ix r7.1.Points (wr ((r7.1.Points.length : Int) - 1))) fun p68 => L.law19_GradientWhole.J2 r7 r11 j16 r24 (p66.2.At, p66.2.Height, p66.2.Limit, p68.2.At, p68.2.Height, p68.2.Limit)
def L.law19_GradientWhole (l_0 : List Int) (rate_1 : Int) : Option Bool := Option.bind (L.keep_New l_0) fun r3 => Option.bind (L.keep_Src_Segment r3 0 0 1) fun r7 => Option.bind (L.keep_Src_Product r7.2 0) fun r11 => if (((wr (rate_1)).tmod 1001) == 0) = true then L.law19_GradientWhole.J1 r7 r11 5 else L.law19_GradientWhole.J1 r7 r11 ((wr (rate_1)).tmod 1001)

end Go.Proofs.YtncfbhnecmnfpaaDoor
