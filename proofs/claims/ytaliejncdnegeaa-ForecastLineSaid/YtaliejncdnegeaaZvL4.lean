/- Walks that show what functions of the program compute; printed by a program of ours. No condition. -/
import Derived.Test.YtaliejncdnegeaaZvL1
set_option maxRecDepth 100000
namespace Go.Proofs.Ytaliejncdnegeaa
open Go.Aw
set_option linter.unusedVariables false
set_option linter.unusedSimpArgs false
set_option maxHeartbeats 4000000
theorem L.ziti_ok (a : List Int) (r : KS) (h : L.ziti a = some r) : ACalls Try.env 6 [.list 1 (a.map rI)] [] (fun x new => ∃ (c : Nat), x = .v (.pointer (some ⟨c, 0, none⟩)) ∧ new = [.arr c 63 2 1 [KS.row r]]) := by
 refine ACalls.of_body Try.func6 rfl rfl rfl (fun C hC => ?_)
 unfold L.ziti at h
 refine AW.z I (AW.seq ?_)
 obtain ⟨b, e, h⟩ := ob_some h
 obtain ⟨f, g, i, j, k, n, o⟩ := sub_some e
 refine AW.region (AO.r 4 [.l 2 (a.length : Int)] I ⟨len_m, J⟩ (AO.p (Yp.subL f g 0 I I I I I (bnd0 i) ⟨_, _, I, j⟩ I k n o) I (AO.p (Yp.buildP (l := [.list 1 (b.map rI), .V 0]) Try.bld63 I) I (AO.act [] I (AX.box (cs := [.list 1 (b.map rI), .V 0]) (m := 2) I I I dS (fun d => (AO.q 1 I (AO.nil ?_))))))))
 obtain rfl := oi h
 exact AW.ret ⟨.inr I, [_], [.arr d 63 2 1 [[.list 1 (b.map rI), .V 0]]], ⟨I, J⟩, sl_c I (sl_n), ⟨d, I, I⟩⟩
end Go.Proofs.Ytaliejncdnegeaa
