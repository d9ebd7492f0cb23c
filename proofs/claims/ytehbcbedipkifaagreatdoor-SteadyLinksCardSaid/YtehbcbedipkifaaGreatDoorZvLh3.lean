/- Walks that show what functions of the program compute; printed by a program of ours. No condition. -/
import Derived.Test.YtehbcbedipkifaaGreatDoorZvL4c
import Derived.Test.YtehbcbedipkifaaGreatDoorZvL4b
import Derived.Test.YtehbcbedipkifaaGreatDoorZvLg4
import Derived.Test.YtehbcbedipkifaaGreatDoorZvD
set_option maxRecDepth 100000
namespace Go.Proofs.YtehbcbedipkifaaGreatDoor
open Go.Aw
set_option linter.unusedVariables false
set_option linter.unusedSimpArgs false
set_option maxHeartbeats 4000000
theorem L.zeh_ok (b0 : Nat) (d_0 : KS) (r : Network × (List Batch) × (List Product) × (List (List Piece)) × Plan × KS) (h : L.zeh d_0 = some r) : ACalls Tryz.env 11 [.v (.pointer (some ⟨b0, 0, none⟩))] [.arr b0 106 2 1 [KS.row d_0]] (Gives 1 (fun x os new => x = .tup [.agg (Network.row r.1), .list 4 (r.2.1.map Batch.row), .list 5 (r.2.2.1.map Product.row), .list 1 (r.2.2.2.1.map (rL 2 Piece.row)), .agg (Plan.row r.2.2.2.2.1)] ∧ os = [.arr b0 106 2 1 [KS.row r.2.2.2.2.2]] ∧ new = [])) := by
 refine ACalls.of_body Tryz.func11 rfl rfl rfl (fun C hC => ?_)
 unfold L.zeh at h
 refine AW.seqG (fun y1 hy1 => (AW.region (AO.act [] I (AX.alloc (cs := [.v (.slice none 0 0), .v (.slice none 0 0), .v (.slice none 0 0), .v (.slice none 0 0), .V 0, .V 0]) (m := 6) I I I I I dS (fun b2 => (AO.q 3 I (AO.act [] I (AX.alloc (cs := [.v (.slice none 0 0), .v (.slice none 0 0), .v (.slice none 0 0)]) (m := 3) I I I I I dS (fun b3 => (AO.nil ?_))))))))))
 subst hy1
 refine AW.seqG (fun y4 hy4 => ?_)
 obtain ⟨r5, hx6, h⟩ := ob_some h
 refine AW.region (AO.q 1 I (AO.act [0] I (AX.c0 [0] (L.zae_ok b0 _ _ hx6) ?_)))
 refine AO.act [] I (AX.alloc (cs := [.v (.slice none 0 0), .v (.slice none 0 0), .v (.slice none 0 0), .v (.slice none 0 0), .V 0, .V 0]) (m := 6) I I I I I dS (fun b7 => (AO.act [3] I (AX.store 3 0 0 (es' := [Network.row r5.1]) I I I I I I I I (le_ble I) I I (AO.nil ?_)))))
 subst hy4
 refine AW.seqG (fun y8 hy8 => ?_)
 obtain ⟨r9, hx10, h⟩ := ob_some h
 refine AW.region (AO.q 1 I (AO.act [0] I (AX.cg [0] (L.zcv_ok b0 _ _ hx10) ?_)))
 rintro _ _ _ - ⟨v11, rfl, rfl, rfl⟩
 refine AO.q 1 I (AO.nil ?_)
 subst hy8
 refine AW.seq ?_
 obtain ⟨r12, hx13, h⟩ := ob_some h
 obtain ⟨r15, hx16, h⟩ := ob_some h
 obtain ⟨r18, hx19, h⟩ := ob_some h
 refine AW.formL 4 I (fun hf20 => (AW.rd (.still 0 (.still 1 (.still 2 (.still 3 (.still 5 (.still 6 (.still 7 (.still 9 (.still 10 (.act 4 (.act 8 (.act 11 (.act 12 (.still 13 (.still 14 (.still 15 (.act 16 .nil))))))))))))))))) [3] [_] I (AP.r 3 [.o 0 0] I ⟨I, J⟩ (AP.op I (Yp.lenUf I I I hf20) I (AP.r 5 [.o 2 0, .o 4 0] I ⟨I, I, J⟩ (AP.act [0] I I I (AX.cg [0] (L.zcx_ok b0 _ _ _ _ hx13) ?_)))))))
 rintro _ _ _ - ⟨v14, rfl, rfl, rfl⟩
 refine AP.act [0] I I I (AX.cg [0] (L.zda_ok b0 _ _ _ _ hx16) ?_)
 rintro _ _ _ - ⟨v17, rfl, rfl, rfl⟩
 refine AP.act [0] I I I (AX.c0 [0] (L.zac_ok b0 _ _ _ hx19) ?_)
 refine AP.act [1] I I I (AX.store 1 0 0 (es' := [Network.row r5.1]) I I I I I I I I (le_ble I) I I (AP.eraS 3 (AP.q 2 I (AP.eraS 5 (AP.q 1 I (AP.act [2] I I I (AX.store 2 0 0 (es' := [Plan.row r18.1]) I I I I I I I I (le_ble I) I I (AP.ofAO (AO.nil (AW.ghost (Ghost.freeze [4, 5, 6] (K := [.us v11 46 5 (r9.1.map Product.row), .us v14 135 4 (r12.1.map Batch.row), .us v17 48 1 (r15.1.map (rL 2 Piece.row))]) I [(3, .list 4 (r12.1.map Batch.row)), (4, .list 5 (r9.1.map Product.row)), (5, .list 1 (r15.1.map (rL 2 Piece.row))), (12, .list 5 (r9.1.map Product.row)), (8, .list 5 (r9.1.map Product.row)), (15, .list 5 (r9.1.map Product.row)), (17, .list 4 (r12.1.map Batch.row)), (18, .list 5 (r9.1.map Product.row)), (21, .list 1 (r15.1.map (rL 2 Piece.row)))] ⟨⟨_, I, .us 1 I⟩, ⟨_, I, .us 0 I⟩, ⟨_, I, .us 2 I⟩, ⟨_, I, .us 0 I⟩, ⟨_, I, .us 0 I⟩, ⟨_, I, .us 0 I⟩, ⟨_, I, .us 1 I⟩, ⟨_, I, .us 0 I⟩, ⟨_, I, .us 2 I⟩, J⟩ (ob' := [.arr b0 106 2 1 [KS.row r18.2], .arr b2 27 6 1 [Network.row r5.1], .arr b3 32 3 1 [Plan.row r18.1], .arr b7 27 6 1 [Network.row r5.1]]) (.rest _)) (AW.ghost (Ghost.pick [0, 1, 2] (K := [.arr b0 106 2 1 [KS.row r18.2], .arr b2 27 6 1 [Network.row r5.1], .arr b3 32 3 1 [Plan.row r18.1]]) I (by decide)) ?_)))))))))))
 obtain rfl := oi h
 exact AW.ret ⟨.inr I, [_, _, _, _, _], [.arr b0 106 2 1 [KS.row r18.2]], ⟨⟨1, _, _, _, _, _, _, _, I, I, I, I, I⟩, I, I, I, ⟨2, _, _, _, _, _, _, _, I, I, I, I, I⟩, J⟩, sl_c I (sl_n), ⟨[.arr b0 106 2 1 [KS.row r18.2]], [], I, I, I, I, I⟩⟩
end Go.Proofs.YtehbcbedipkifaaGreatDoor
