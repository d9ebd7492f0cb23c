/- Pure functions for functions of the program; printed by a program of ours. No condition. -/
import Derived.Test.YtndfiddakngjdaaDs
import Derived.Test.YtndfiddakngjdaaD6
namespace Go.Proofs.Ytndfiddakngjdaa
open Go.Aw
set_option linter.unusedVariables false
set_option linter.unusedSimpArgs false



/-- batchlinekeep.Added -/
def L.keep_Added.J2 (l7 : List Bool) (j56 : List Int) (j98 : List Int) : Option Plan := some (⟨j56, j98, l7⟩ : Plan)
def L.keep_Added.B3 (q_1 : Plan) (k101 : Nat) (x104 : Int) (st127 : List Int) : Option (List Int) := Option.bind (ix q_1.Ports (k101 : Int)) fun p146 => Option.bind (app? st127 ([wr (x104 + p146.2)] : List Int)) fun l149 => some l149
def L.keep_Added.J1 (p_0 : Plan) (q_1 : Plan) (l7 : List Bool) (j56 : List Int) : Option Plan := Option.bind (forS (L.keep_Added.B3 q_1) 0 p_0.Ports []) fun st127 => L.keep_Added.J2 l7 j56 st127
def L.keep_Added.B4 (q_1 : Plan) (k155 : Nat) (x158 : Int) (st181 : List Int) : Option (List Int) := Option.bind (ix q_1.Rates (k155 : Int)) fun p200 => Option.bind (app? st181 ([wr (x158 + p200.2)] : List Int)) fun l203 => some l203
def L.keep_Added (p_0 : Plan) (q_1 : Plan) : Option Plan := Option.bind (app? ([] : List Bool) p_0.Pumps) fun l7 => if (((p_0.Rates.length : Int) != (q_1.Rates.length : Int)) || ((p_0.Ports.length : Int) != (q_1.Ports.length : Int))) = true then some p_0 else Option.bind (forS (L.keep_Added.B4 q_1) 0 p_0.Rates []) fun st181 => L.keep_Added.J1 p_0 q_1 l7 st181

/-- batchlinelaw22.SurgeThird -/
def L.law22_SurgeThird.J4 (j143 : Unit) : Option Bool := Option.bind (L.law22_awake) fun r144 => some r144
def L.law22_SurgeThird.B5 (r84 : (List Int) × Int) (r88 : (List Int) × Int) (r92 : (List Int) × Int) (k147 : Nat) (st165 : Unit) : Option (Unit ⊕ (Bool)) := Option.bind (ix r88.1 (k147 : Int)) fun p187 => Option.bind (ix r92.1 (k147 : Int)) fun p189 => Option.bind (ix r84.1 (k147 : Int)) fun p191 => if decide ((wr (p187.2 + p189.2)) < p191.2) = true then some ((.inr (false))) else some (.inl ())
def L.law22_SurgeThird.J3 (r7 : Network × batchlinekeep_Src) (j16 : (List Int) × Int × (List Int) × (List Int) × (List Bool) × (List Int) × (List Int) × (List Bool)) (j24 : (List Int) × (List Int) × (List Bool)) (j76 : Unit) : Option Bool := Option.bind (L.ref16_Check r7.1 (⟨j24.1, j24.2.1, j24.2.2⟩ : Plan)) fun r78 => if (r78 != 0) = true then Option.bind (L.law22_awake) fun r81 => some r81 else Option.bind (L.surge_Rise r7.1 (⟨j16.2.2.1, j16.2.2.2.1, j16.2.2.2.2.1⟩ : Plan) (⟨j16.2.2.2.2.2.1, j16.2.2.2.2.2.2.1, j16.2.2.2.2.2.2.2⟩ : Plan)) fun r84 => Option.bind (L.surge_Rise r7.1 (⟨j16.2.2.1, j16.2.2.2.1, j16.2.2.2.2.1⟩ : Plan) (⟨j24.1, j24.2.1, j24.2.2⟩ : Plan)) fun r88 => Option.bind (L.surge_Rise r7.1 (⟨j24.1, j24.2.1, j24.2.2⟩ : Plan) (⟨j16.2.2.2.2.2.1, j16.2.2.2.2.2.2.1, j16.2.2.2.2.2.2.2⟩ : Plan)) fun r92 => if ((r84.2 != 0) || ((r88.2 != 0) || ((r92.2 != 0) || (((r84.1.length : Int) != (r88.1.length : Int)) || (((r84.1.length : Int) != (r92.1.length : Int)) || ((r84.1.length : Int) != (r7.1.Segments.length : Int))))))) = true then some false else Option.bind (forI (L.law22_SurgeThird.B5 r84 r88 r92) 0 r84.1.length ()) fun o179 => Sum.elim (fun st165 => L.law22_SurgeThird.J4 ()) (fun d199 => some d199) o179
def L.law22_SurgeThird.J7 (j269 : Bool) : Option (Unit ⊕ (Bool)) := if j269 = true then Option.bind (L.law22_awake) fun r271 => some ((.inr (r271))) else some (.inl ())
def L.law22_SurgeThird.B6 (j16 : (List Int) × Int × (List Int) × (List Int) × (List Bool) × (List Int) × (List Int) × (List Bool)) (j24 : (List Int) × (List Int) × (List Bool)) (k201 : Nat) (x204 : Int) (st227 : Unit) : Option (Unit ⊕ (Bool)) := if (x204 != 0) = true then if (true != true) = true then L.law22_SurgeThird.J7 true else Option.bind (ix j16.2.2.2.2.2.1 (k201 : Int)) fun p275 => if (p275.2 != 0) = true then L.law22_SurgeThird.J7 (true != true) else Option.bind (ix j24.1 (k201 : Int)) fun p278 => L.law22_SurgeThird.J7 ((p278.2 != 0) != true) else Option.bind (ix j16.2.2.2.2.2.1 (k201 : Int)) fun p280 => Option.bind (ix j24.1 (k201 : Int)) fun p282 => if ((p280.2 != 0) != (p282.2 != 0)) = true then L.law22_SurgeThird.J7 true else if (p280.2 != 0) = true then L.law22_SurgeThird.J7 (true != (p282.2 != 0)) else L.law22_SurgeThird.J7 ((p282.2 != 0) != (p282.2 != 0))
def L.law22_SurgeThird.J2 (r7 : Network × batchlinekeep_Src) (j16 : (List Int) × Int × (List Int) × (List Int) × (List Bool) × (List Int) × (List Int) × (List Bool)) (j24 : (List Int) × (List Int) × (List Bool)) : Option Bool := Option.bind (forL (L.law22_SurgeThird.B6 j16 j24) 0 j16.2.2.1 ()) fun o248 => Sum.elim (fun st227 => L.law22_SurgeThird.J3 r7 j16 j24 ()) (fun d288 => some d288) o248
def L.law22_SurgeThird.J1 (r7 : Network × batchlinekeep_Src) (j16 : (List Int) × Int × (List Int) × (List Int) × (List Bool) × (List Int) × (List Int) × (List Bool)) : Option Bool := Option.bind (L.keep_Src_Plan (⟨j16.1, j16.2.1⟩ : batchlinekeep_Src) r7.1) fun r289 => Option.bind (L.keep_Added (⟨j16.2.2.1, j16.2.2.2.1, j16.2.2.2.2.1⟩ : Plan) r289.1) fun r291 => L.law22_SurgeThird.J2 r7 j16 (r291.Rates, r291.Ports, r291.Pumps)
def L.law22_SurgeThird (l_0 : List Int) : Option Bool := Option.bind (L.keep_New l_0) fun r3 => Option.bind (L.keep_Src_Network r3) fun r7 => Option.bind (L.keep_Src_Plan r7.2 r7.1) fun r294 => Option.bind (L.keep_Src_Plan r294.2 r7.1) fun r296 => L.law22_SurgeThird.J1 r7 (r296.2.L_, r296.2.At, r294.1.Rates, r294.1.Ports, r294.1.Pumps, r296.1.Rates, r296.1.Ports, r296.1.Pumps)

end Go.Proofs.Ytndfiddakngjdaa
