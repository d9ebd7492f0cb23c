/- Walks that show what functions of the program compute; printed by a program of ours. No condition. -/
import Derived.Test.YtehbcbedipkifaaGreatDoorZxLs2
import Derived.Test.YtehbcbedipkifaaGreatDoorZxLs4
import Derived.Test.YtehbcbedipkifaaGreatDoorZxD
set_option maxRecDepth 100000
namespace Go.Proofs.YtehbcbedipkifaaGreatDoor
open Go.Aw
set_option linter.unusedVariables false
set_option linter.unusedSimpArgs false
set_option maxHeartbeats 4000000
theorem L.zdbv_ok (n_0 : Network) (batches_1 : List Batch) (products_2 : List Product) (fills_3 : List (List Piece)) (p_4 : Plan) (r : Fault × Int) (h : L.zdbv n_0 batches_1 products_2 fills_3 p_4 = some r) : ACalls Tryz.env 18 [.agg (Network.row n_0), .list 4 (batches_1.map Batch.row), .list 5 (products_2.map Product.row), .list 1 (fills_3.map (rL 2 Piece.row)), .agg (Plan.row p_4)] [] (fun x new => x = .tup [.agg (Fault.row r.1), .V r.2] ∧ new = []) := by
 refine ACalls.of_body Tryz.func18 rfl rfl rfl (fun C hC => ?_)
 unfold L.zdbv at h
 refine AW.seqG (fun y1 hy1 => (AW.region (AO.act [] I (AX.box (cs := Network.row n_0) (m := 6) I I I dS (fun b2 => (AO.act [] I (AX.box (cs := Plan.row p_4) (m := 3) I I I dS (fun b3 => (AO.act [] I (AX.alloc (cs := [.V 0, .V 0, .V 0]) (m := 3) I I I I I dS (fun b4 => (AO.q 1 I (AO.nil ?_)))))))))))))
 subst hy1
 refine AW.seqG (fun y5 hy5 => ?_)
 obtain ⟨r6, hx7, h⟩ := ob_some h
 refine AW.region (AO.r 5 [.o 0 0, .o 4 1] I ⟨I, I, J⟩ (AO.act [] I (AX.call0 I I I (L.zonc_ok _ _ _ _ _ _ hx7) dS ?_)))
 rintro _ _ ⟨rfl, rfl⟩
 refine AO.q 3 I (AO.act [] I (AX.alloc (cs := [.v (.slice none 0 0), .v (.slice none 0 0), .v (.slice none 0 0)]) (m := 3) I I I I I dS (fun b8 => (AO.act [3] I (AX.store 3 0 0 (es' := [Pressures.row r6.1]) I I I I I I I I (le_ble I) I I (AO.q 1 I (AO.nil ?_)))))))
 subst hy5
 refine AW.seqG (fun y9 hy9 => (AW.z I (AW.ch h I ?_ ?_)))
 intro hc10 h
 refine AW.seq (AW.region (AO.p (Yp.buildP (l := [.V 0, .V 0, .V 0]) Tryz.bld59 I) I (AO.q 1 I (AO.act [2] I (AX.store 2 0 0 (es' := [[.V 0, .V 0, .V 0]]) I I I I I I I I (le_ble I) I I (AO.q 1 I (AO.nil (AW.ghost (Ghost.pick [2] (K := [.arr b4 59 3 1 [[.V 0, .V 0, .V 0]]]) I (by decide)) ?_))))))))
 obtain rfl := oi h
 exact AW.ret ⟨.inr I, [_, _], [], ⟨⟨0, _, _, _, _, _, _, _, I, I, I, I, I⟩, I, J⟩, sl_n, I, I⟩
 intro hc10 h
 refine AW.skip ?_
 subst hy9
 refine AW.seq (AW.cutX (fun s ob => ∃ (j18 : Int × Int × Int × Bool) (b19 : Nat), L.zdbv.J1 j18 = some r ∧ s = [(14, .v (.pointer (some ⟨b19, 0, none⟩))), (15, .v (.bool j18.2.2.2))] ∧ ob = [.arr b4 59 3 1 [[.V 0, .V 0, .V 0]], .arr b19 59 3 1 [[.V j18.1, .V j18.2.1, .V j18.2.2.1]]]) [(10, _)] ⟨I, J⟩ ?_ ?_)
 obtain ⟨l21, hx22, h⟩ := ob_some h
 obtain ⟨m23, hx22i, hx22m, hx22r⟩ := mk_some hx22
 obtain ⟨r25, hx26, h⟩ := ob_some h
 refine AW.rd (.still 0 (.still 1 (.still 2 (.still 3 (.still 4 (.still 5 (.two 6 11 (.two 7 11 (.still 8 (.still 9 (.still 10 (.act 11 (.act 12 (.still 13 .nil)))))) (.act 7 (.still 8 (.still 9 (.still 10 (.act 12 (.still 13 .nil))))))) (.act 6 (.act 7 (.still 8 (.still 9 (.still 10 (.act 12 (.still 13 .nil)))))))))))))) [0, 3, 1] [_, _, _] I (AP.r 6 [.o 0 0, .o 1 1, .o 2 2, .o 4 0, .l 5 (n_0.Segments.length : Int)] I ⟨len_m, I, I, I, I, J⟩ (AP.two ?_ ?_))
 refine AP.act [] I I I (AX.makeU (sz := 1) I I I I I I I I I I hx22i hx22m (rep_map (f := rI) hx22r I) dS (fun v24 => (AP.two ?_ ?_)))
 refine AP.act [] I I I (AX.callL I (.refl _) I I (.cons (.refl _) (.cons (.refl _) (.cons (.refl _) (.cons (.us 4 I) (.rest _))))) I (L.zqej_ok _ _ _ _ _ hx26) dS (by rintro _ _ ⟨rfl, _⟩; rfl) ?_)
 rintro _ ⟨_, rfl, -⟩
 refine AP.q 3 I (AP.act [] I I I (AX.alloc (cs := [.V 0, .V 0, .V 0]) (m := 3) I I I I I dS (fun b27 => (AP.act [5] I I I (AX.store 5 0 0 (es' := [Fault.row r25.1]) I I I I I I I I (le_ble I) I I (AP.q 1 I (AP.ofAO (AO.nil ?_))))))))
 exact lg ⟨(r25.1.Kind, r25.1.Index, r25.1.At, r25.2), b27, h, I, I⟩ [2, 5]
 refine AP.act [] I I I (AX.alloc (cs := [.V 0, .V 0, .V 0]) (m := 3) I I I I I dS (fun b27 => (AP.act [] I I I (AX.callL I (.refl _) I I (.cons (.refl _) (.cons (.refl _) (.cons (.refl _) (.cons (.us 4 I) (.rest _))))) I (L.zqej_ok _ _ _ _ _ hx26) dS (by rintro _ _ ⟨rfl, _⟩; rfl) ?_))))
 rintro _ ⟨_, rfl, -⟩
 refine AP.q 3 I (AP.act [5] I I I (AX.store 5 0 0 (es' := [Fault.row r25.1]) I I I I I I I I (le_ble I) I I (AP.q 1 I (AP.ofAO (AO.nil ?_)))))
 exact lg ⟨(r25.1.Kind, r25.1.Index, r25.1.At, r25.2), b27, h, I, I⟩ [2, 5]
 refine AP.act [] I I I (AX.alloc (cs := [.V 0, .V 0, .V 0]) (m := 3) I I I I I dS (fun b27 => (AP.act [] I I I (AX.makeU (sz := 1) I I I I I I I I I I hx22i hx22m (rep_map (f := rI) hx22r I) dS (fun v24 => (AP.act [] I I I (AX.callL I (.refl _) I I (.cons (.refl _) (.cons (.refl _) (.cons (.refl _) (.cons (.us 5 I) (.rest _))))) I (L.zqej_ok _ _ _ _ _ hx26) dS (by rintro _ _ ⟨rfl, _⟩; rfl) ?_)))))))
 rintro _ ⟨_, rfl, -⟩
 refine AP.q 3 I (AP.act [4] I I I (AX.store 4 0 0 (es' := [Fault.row r25.1]) I I I I I I I I (le_ble I) I I (AP.q 1 I (AP.ofAO (AO.nil ?_)))))
 exact lg ⟨(r25.1.Kind, r25.1.Index, r25.1.At, r25.2), b27, h, I, I⟩ [2, 4]
 rintro s ob ⟨j18, b19, h, rfl, rfl⟩
 unfold L.zdbv.J1 at h
 refine AW.z I (AW.ch h I ?_ ?_)
 intro hc20 h
 refine AW.seq (AW.region (AO.r 1 [.o 0 1] I ⟨I, J⟩ (AO.act [0] I (AX.store 0 0 0 (es' := [[.V j18.1, .V j18.2.1, .V j18.2.2.1]]) I I I I I I I I (le_ble I) I I (AO.q 1 I (AO.nil (AW.ghost (Ghost.pick [0] (K := [.arr b4 59 3 1 [[.V j18.1, .V j18.2.1, .V j18.2.2.1]]]) I (by decide)) ?_)))))))
 obtain rfl := oi h
 exact AW.ret ⟨.inr I, [_, _], [], ⟨⟨0, _, _, _, _, _, _, _, I, I, I, I, I⟩, I, J⟩, sl_n, I, I⟩
 intro hc20 h
 refine AW.skip (AW.seq (AW.region (AO.p (Yp.buildP (l := [.V 0, .V 0, .V 0]) Tryz.bld59 I) I (AO.act [0] I (AX.store 0 0 0 (es' := [[.V 0, .V 0, .V 0]]) I I I I I I I I (le_ble I) I I (AO.q 1 I (AO.nil (AW.ghost (Ghost.pick [0] (K := [.arr b4 59 3 1 [[.V 0, .V 0, .V 0]]]) I (by decide)) ?_))))))))
 obtain rfl := oi h
 exact AW.ret ⟨.inr I, [_, _], [], ⟨⟨0, _, _, _, _, _, _, _, I, I, I, I, I⟩, I, J⟩, sl_n, I, I⟩
end Go.Proofs.YtehbcbedipkifaaGreatDoor
