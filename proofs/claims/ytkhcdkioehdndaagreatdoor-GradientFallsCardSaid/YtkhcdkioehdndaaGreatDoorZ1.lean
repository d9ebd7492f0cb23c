/- The law GradientFalls holds of the program: for every input it returns true, and the input reads as it did. No condition. -/
import Derived.Test.YtkhcdkioehdndaaGreatDoorZwL5
import Derived.Test.YtkhcdkioehdndaaGreatDoorZwP1
import Derived.Test.YtkhcdkioehdndaaGreatDoorCards
import Derived.Test.YtkhcdkioehdndaaGreatDoorTie
import Derived.SevenTiedAt
set_option maxRecDepth 100000
namespace Go.Proofs.YtkhcdkioehdndaaGreatDoor
set_option linter.unusedVariables false
set_option linter.unusedSimpArgs false
open Go.Aw
open Go.ChangeShapes Go.WideShapes Go.ChangeAt Go.RowKit
theorem gradientFalls_contract (l0 : List Int) (a1 : Int) (a2 : Int) (b1 : 0 ≤ a1 ∧ a1 ≤ 65535) (b2 : 0 ≤ a2 ∧ a2 ≤ 65535) : ACalls Ae 3 [.list 1 (l0.map rI), .v (.int .u16 a1), .v (.int .u16 a2)] [] fun x _ => x = .v (.bool true) :=
 (Sv l0 a1 a2 true (Lf l0 a1 a2 b1 b2)).mono fun _ _ h => h.1
theorem Tryz.own : ownKnob Tryz.prog.godebug = none := by kernel_rfl
theorem Tryz.laidOut : laidOutB Tryz.prog = true := by kernel_rfl
def laidG : List (String × DataW Unit) := [("batchline/product.spans", Rows.laid_batchline_product_spans)]
theorem door_met (os : Os) (args : Array Value) : laidMetH Tryz.prog laidG ((World.doorLaid Tryz.prog 400 os).forCall (fun _ _ => 0) ⟨#[], args, []⟩).memory :=
 laidMetH_of_parts3 (fuel := 8) (laidMet_of_run' 8 (by kernel_rfl) (by kernel_rfl)) (by kernel_rfl) (by kernel_rfl)
theorem held_laid {W : World} (h : laidMetH Tryz.prog laidG W) : Q7 fun b => W.heap[b]? := by
 rw [MakeChecks.laidMetH_plain _ _ _ (by kernel_rfl)] at h
 obtain ⟨ps, ⟨g0, t0, cs0, f0, p0, q0, hg0, ht0, hv0, hd0, _, _⟩, _, _⟩ := h
 obtain rfl := Option.some.inj ((show Tryz.prog.globalNamed "batchline/product.spans" = some 0 by kernel_rfl).symm.trans hg0)
 obtain rfl := Option.some.inj ((show (Tryz.prog.globals[0]?).map (·.type) = some 123 by kernel_rfl).symm.trans ht0)
 exact Xi hg0 hv0 (Oo Tryz.underlying123 Tryz.underlying122 rfl rfl rfl rfl Tryz.underlying3 (by kernel_rfl) (by kernel_rfl) (by kernel_rfl) hd0) rfl
theorem gradientFalls_lifted (os : Os) (started : os.Started) (H : Type) (enc : TypeId × Value → H) :
  ReturnsInHanded {} Tryz.checked os 3 .any (fun w args => (Rows.gradientFallsSpec.pre enc Tryz.prog Tryz.f3 [] false w args ∧ laidMetH Tryz.prog laidG w) ∧ sizedMet enc Tryz.prog Tryz.f3 (OpenSpec.ofChange Rows.gradientFallsSpec) false w args) (Rows.gradientFallsSpec.post enc Tryz.prog Tryz.f3 false true false false) := by
 refine returnsInHanded_of_change_and (C := Tryz.checked) (X := fun w _ => laidMetH Tryz.prog laidG w) (fun _ _ _ hh h => h.of_heap hh) Tryz.own started (by kernel_rfl) Tryz.func3
  (ChangeSpec.witness_shaped (enc := enc) (C := Tryz.checked) (os := os) (X := fun w _ => laidMetH Tryz.prog laidG w) false (World.doorLaid Tryz.prog 400 os) #[.slice none 0 0, .int .u16 0, .int .u16 0] 8 rfl (World.shaped_of_RefB (by kernel_rfl) (by kernel_rfl)) (by kernel_rfl) (by kernel_rfl) (by kernel_rfl) (door_met os _)) ?_
 intro W base args ds gs before hval0 hW _ hsz0 hL _
 have hsz : (DataW.weightsEach Tryz.prog (Tryz.f3.params.toList ++ Rows.gradientFallsSpec.plain.varTypes Tryz.prog) (ds ++ gs)).all (· ≤ reachBytes) = true := hsz0
 clear hsz0
 have hval : ∀ (j : Nat) t v, Tryz.f3.params[j]? = some t → args[j]? = some v → Value.okWide Tryz.prog W .any base t v := hval0
 have hW' := hW
 obtain ⟨p, q, hA0, hV, rfl, _, _⟩ := hW
 have hAk : DataW.TrodAll enc Tryz.prog W 0 (fun _ => true) true Tryz.f3.params.toList args.toList ds p := hA0
 obtain ⟨args⟩ := args
 have hA : DataW.TrodAll enc Tryz.prog W 0 (fun _ => true) true Tryz.f3.params.toList args ds p := hA0
 clear hA0 hval0
 rw [Tryz.params3] at hA hval hsz
 obtain ⟨v0, vs0, d0, ds0, p0, q0, rfl, rfl, rfl, h0, hA0⟩ := trodAll_cons hA
 obtain ⟨v1, vs1, d1, ds1, p1, q1, rfl, rfl, rfl, h1, hA1⟩ := trodAll_cons hA0
 obtain ⟨v2, vs2, d2, ds2, p2, q2, rfl, rfl, rfl, h2, hA2⟩ := trodAll_cons hA1
 obtain ⟨rfl, rfl, rfl⟩ := trodAll_nil hA2
 obtain ⟨rfl, rfl⟩ := trodVars_none hV
 obtain ⟨l0, hl0, wl0, hd0⟩ := Rf Tryz.underlying22 Tryz.underlying3 (by kernel_rfl) (hval 0 22 v0 rfl rfl) h0
 have hll0 : l0.length ≤ 17592186043904 := by
  rcases hd0 with rfl | ⟨es, sp, rfl, hle⟩
  ·simp
  ·have := sized_slice hsz (j := 0) (t := 22) (e := 3) rfl rfl Tryz.underlying22
   rw [show Tryz.prog.bytesOf 3 = 8 from by kernel_rfl] at this
   simp only [reachBytes] at this
   omega
 obtain ⟨a1, rfl, rfl, rfl, wa1⟩ := open_int Tryz.underlying23 (hval 1 23 v1 rfl rfl) h1
 have wb1 := Uf wa1
 obtain ⟨a2, rfl, rfl, rfl, wa2⟩ := open_int Tryz.underlying23 (hval 2 23 v2 rfl rfl) h2
 have wb2 := Uf wa2
 refine (Rk (E := Ae) (held_laid hL) (gradientFalls_contract l0 a1 a2 wb1 wb2) rfl ?_).mono fun e W' ⟨he, hb⟩ => ⟨_, he, Vc hW' hAk rfl rfl rfl rfl rfl Tryz.underlying4 Tryz.laidOut ?_ hb⟩
 ·intro i x hx
  match i, hx with
  | 0, hx => cases hx; exact hl0 (by unfold Fl; omega)
  | 1, hx => cases hx; exact .v _
  | 2, hx => cases hx; exact .v _
  | i + 3, hx => simp at hx
 ·intro t ht
  rw [Tryz.params3] at ht
  simp only [List.mem_cons, List.not_mem_nil, or_false] at ht
  rcases ht with rfl | rfl | rfl
  all_goals exact ⟨by kernel_rfl, of_decide_eq_true (by kernel_rfl)⟩
theorem gradientFalls_holds : Rows.GradientFallsSaid :=
 OpenClaim.holds_of_wide 3 Tryz.f3 rfl rfl rfl rfl rfl rfl rfl ⟨rfl, rfl, rfl, rfl, rfl⟩ rfl rfl rfl rfl rfl (by kernel_rfl) Tryz.func3 (by kernel_rfl)
  (of_decide_eq_true (by kernel_rfl)) (by unfold Func.isWrapper; first | (rw [if_pos (by decide +kernel)]; kernel_rfl) | (rw [if_neg (by decide +kernel)]; exact ⟨rfl, rfl⟩))
  (fun os started H enc _ => gradientFalls_lifted os started H enc)
theorem gradientFalls_card_holds : Rows.GradientFallsCardSaid :=
 Claim7.holds_tied_plain_at .later [] [.data] true (true, "9a471f9900eade0c39c1bbf6cd62def14c1c8ddc35fd95ec55da4861613aef50") false
  gradientFalls_holds (fun _ h => by cases h) (by kernel_rfl) (fun _ h => by cases h) gradientFalls_row_tie rfl ⟨rfl, rfl⟩ (by kernel_rfl) rfl
  (fun f fn hf hfn => by
   obtain rfl : f = 3 := Option.some.inj ((show Tryz.prog.funcNamed "batchline/batchlinelaw19.GradientFalls" = some 3 by kernel_rfl).symm.trans hf) |>.symm
   obtain rfl : fn = Tryz.f3 := (Option.some.inj (Tryz.func3.symm.trans hfn)).symm
   exact ⟨by kernel_rfl, fun j t ht => by
    rw [Tryz.params3] at ht
    have hm : t ∈ [22, 23, 23] := by simpa using Array.mem_of_getElem? ht
    have hall : ([22, 23, 23].all fun u => !Tryz.prog.wantsStandIn u) = true := by kernel_rfl
    exact (show Tryz.prog.wantsStandIn t = false by simpa using List.all_eq_true.1 hall t hm)⟩)
  (by kernel_rfl)
end Go.Proofs.YtkhcdkioehdndaaGreatDoor
