/- Walks that show what functions of the program compute; printed by a program of ours. No condition. -/
import Derived.Test.YtehbcbedipkifaaGreatDoorZxL6
import Derived.Test.YtehbcbedipkifaaGreatDoorZxD
set_option maxRecDepth 100000
namespace Go.Proofs.YtehbcbedipkifaaGreatDoor
open Go.Aw
set_option linter.unusedVariables false
set_option linter.unusedSimpArgs false
set_option maxHeartbeats 4000000
theorem L.zaic_ok (s_0 : Segment) (r : Bool) (h : L.zaic s_0 = some r) : ACalls Tryz.env 103 [.agg (Segment.row s_0)] [] (fun x new => x = .v (.bool r) ∧ new = []) := by
 refine ACalls.of_body Tryz.func103 rfl rfl rfl (fun C hC => ?_)
 unfold L.zaic at h
 refine AW.seqG (fun y1 hy1 => (AW.region (AO.act [] I (AX.box (cs := Segment.row s_0) (m := 7) I I I dS (fun b2 => (AO.q 1 I (AO.nil ?_)))))))
 subst hy1
 refine AW.seq (AW.region (AO.q 1 I (AO.act [0] I (AX.store 0 0 1 (es' := [[.v (.string s_0.Name), .V 0, .V s_0.To, .V s_0.Capacity, .V s_0.Resist, .V s_0.Wave, .list 3 (s_0.Points.map Point.row)]]) I I I I I I I I (le_ble I) I I (AO.q 1 I (AO.act [0] I (AX.store 0 0 2 (es' := [[.v (.string s_0.Name), .V 0, .V 1, .V s_0.Capacity, .V s_0.Resist, .V s_0.Wave, .list 3 (s_0.Points.map Point.row)]]) I I I I I I I I (le_ble I) I I (AO.nil (AW.seq ?_)))))))))
 obtain ⟨r5, hx6, h⟩ := ob_some h
 refine AW.region (AO.act [] I (AX.buildSlice (sz := 1) (es := ([(⟨#[97]⟩ : ByteArray), (⟨#[98]⟩ : ByteArray)] : List ByteArray).map rS) I I I I I I I I I I I dS (fun v3 => (AO.r 1 [.o 0 0] I ⟨I, J⟩ (AO.act [] I (AX.buildSlice (sz := 7) (es := ([(⟨s_0.Name, 0, 1, s_0.Capacity, s_0.Resist, s_0.Wave, s_0.Points⟩ : Segment)] : List Segment).map Segment.row) I I I I I I I I I I I dS (fun v4 => (AO.one 1 I (fun v3o => (AO.one 2 I (fun v4o => (AO.p (Yp.buildP (l := [.v v3, .v v4, .v (.slice none 0 0), .v (.slice none 0 0), .V 0, .V 0]) Tryz.bld27 (fill_step I I (cells_v v3o) I (fill_step I I (cells_v v4o) I (fill_nil)))) I (AO.act [] I (AX.callL I (.refl _) I I (.cons (.agg (.cons (.us 1 I) (.cons (.us 2 I) (.cons (.nil _) (.cons (.nil _) (.rest _)))))) (.rest _)) I (L.zgcl_ok _ _ hx6) dS (by rintro _ _ ⟨rfl, _⟩; rfl) ?_))))))))))))))
 rintro _ ⟨_, rfl, -⟩
 refine AO.q 2 I (AO.nil (AW.ghost g0 ?_))
 obtain rfl := oi h
 exact AW.ret pr
end Go.Proofs.YtehbcbedipkifaaGreatDoor
