/- Walks that show what functions of the program compute; printed by a program of ours. No condition. -/
import Derived.Test.YtehbcbedipkifaaGreatDoorZvL4
set_option maxRecDepth 100000
namespace Go.Proofs.YtehbcbedipkifaaGreatDoor
open Go.Aw
set_option linter.unusedVariables false
set_option linter.unusedSimpArgs false
set_option maxHeartbeats 4000000
theorem L.zae_ok (b0 : Nat) (s_0 : KS) (r : Network × KS) (h : L.zae s_0 = some r) : ACalls Tryz.env 36 [.v (.pointer (some ⟨b0, 0, none⟩))] [.arr b0 106 2 1 [KS.row s_0]] (Gives 1 (fun x os new => x = .agg (Network.row r.1) ∧ os = [.arr b0 106 2 1 [KS.row r.2]] ∧ new = [])) := by
 refine ACalls.of_body Tryz.func36 rfl rfl rfl (fun C hC => ?_)
 unfold L.zae at h
 refine AW.seqG (fun y1 hy1 => (AW.region (AO.act [] I (AX.alloc (cs := [.v (.slice none 0 0), .v (.slice none 0 0), .v (.slice none 0 0), .v (.slice none 0 0), .V 0, .V 0]) (m := 6) I I I I I dS (fun b2 => (AO.nil ?_))))))
 subst hy1
 refine AW.seqG (fun y3 hy3 => ?_)
 obtain ⟨r5, hx6, h⟩ := ob_some h
 obtain ⟨r8, hx9, h⟩ := ob_some h
 refine AW.region (AO.q 1 I (AO.act [] I (AX.lt 1 (([(-100000), 0, 50000] : List Int).map rI) (AO.act [0] I (AX.c0 [0] (L.zaa_ok b0 _ _ _ hx6) ?_)))))
 refine AO.q 1 I (AO.act [] I (AX.lt 1 (([0, 1, 5, 100] : List Int).map rI) (AO.act [0] I (AX.c0 [0] (L.zaa_ok b0 _ _ _ hx9) ?_))))
 refine AO.p (Yp.buildP (l := [.v (.slice none 0 0), .v (.slice none 0 0), .v (.slice none 0 0), .v (.slice none 0 0), .V r5.1, .V r8.1]) Tryz.bld27 I) I (AO.act [] I (AX.alloc (cs := [.v (.slice none 0 0), .v (.slice none 0 0), .v (.slice none 0 0), .v (.slice none 0 0), .V 0, .V 0]) (m := 6) I I I I I dS (fun b10 => (AO.act [2] I (AX.store 2 0 0 (es' := [[.v (.slice none 0 0), .v (.slice none 0 0), .v (.slice none 0 0), .v (.slice none 0 0), .V r5.1, .V r8.1]]) I I I I I I I I (le_ble I) I I (AO.nil ?_))))))
 subst hy3
 refine AW.cutX (fun s ob => ∃ (j46 : (List Int) × Int × (List ByteArray)) (v47 : Value), L.zae.J1 r5 r8 j46 = some r ∧ s = [] ∧ ob = [.arr b0 106 2 1 [[.list 1 (j46.1.map rI), .V j46.2.1]], .arr b2 27 6 1 [[.v (.slice none 0 0), .v (.slice none 0 0), .v (.slice none 0 0), .v (.slice none 0 0), .V 0, .V 0]], .arr b10 27 6 1 [[.v v47, .v (.slice none 0 0), .v (.slice none 0 0), .v (.slice none 0 0), .V r5.1, .V r8.1]], .us v47 9 1 (j46.2.2.map rS)]) [(0, _), (2, _), (3, _)] ⟨I, I, I, J⟩ ?_ ?_
 refine AW.seqG (fun y649 hy649 => ?_)
 obtain ⟨r650, hx651, h⟩ := ob_some h
 refine AW.region (AO.q 1 I (AO.act [0] I (AX.c0 [0] (L.zca_ok b0 _ _ _ _ hx651) ?_)))
 refine AO.q 1 I (AO.nil ?_)
 subst hy649
 refine AW.block (AW.ghost (Ghost.nilU 9 1) ?_)
 obtain ⟨o684, hL685, hR686⟩ := ob_some h
 clear h
 refine AW.loopX hL685 [(0, _), (2, _), (3, _)] ⟨I, I, I, J⟩ (fun (st673 : (List ByteArray) × Int) s ob => ∃ (v674 : Value), s = [(4, .V st673.2)] ∧ ob = [.arr b0 106 2 1 [KS.row r650.2], .arr b2 27 6 1 [[.v (.slice none 0 0), .v (.slice none 0 0), .v (.slice none 0 0), .v (.slice none 0 0), .V 0, .V 0]], .arr b10 27 6 1 [[.v v674, .v (.slice none 0 0), .v (.slice none 0 0), .v (.slice none 0 0), .V r5.1, .V r8.1]], .us v674 9 1 (st673.1.map rS)]) ⟨(.slice none 0 0), I, I⟩ ⟨I, J⟩ ⟨[0, 1, 2, 3], I, by decide⟩ ?_
 rintro st673 r688 s ob ⟨v674, rfl, rfl⟩ h hb687
 unfold L.zae.B12 at h
 refine AW.seqG (fun y689 hy689 => (AW.z I (AW.ch h I ?_ ?_)))
 intro hc690 h
 refine AW.skip ?_
 subst hy689
 refine AW.seq (AW.block ?_)
 obtain ⟨r691, hx692, h⟩ := ob_some h
 obtain ⟨l694, hx695, h⟩ := ob_some h
 refine AW.formL 3 I (fun hf697 => (AW.rd (.still 0 (.still 1 (.still 2 (.still 3 (.still 4 (.act 5 (.act 6 (.act 7 (.still 8 (.drop 9 .nil)))))))))) [2] [_] I (AP.r 4 [.o 1 0, .o 3 0] I ⟨I, I, J⟩ (AP.op I (Yp.lenUf I I I hf697) I (AP.c I (L.zcs_ok _ _ _ hx692) (AP.act [] I I I (AX.lt 1 (([r691] : List ByteArray).map rS) (AP.act [3] I I I (AX.ap 3 I hx695 (fun v696 => (AP.q 1 I (AP.one 3 I (fun v696o => (AP.drop [2] I I I (AX.store 2 0 0 (es' := [[.v v696, .v (.slice none 0 0), .v (.slice none 0 0), .v (.slice none 0 0), .V r5.1, .V r8.1]]) I I I I I I (cells_v v696o) I (le_ble I) I I (AP.ofAO (AO.nil (AW.region ?_))))))))))))))))))
 refine AO.q 3 I ?_
 obtain rfl := oi h
 refine AO.nil ?_
 exact ⟨_, _, _, I, ⟨v696, I, I⟩, ⟨I, I, I, I, J⟩, [0, 1, 2, 3], I, by decide⟩
 intro hc690 h
 obtain rfl := hb687 _ (oi h).symm
 replace h := hR686
 refine AW.exit ?_
 exact lg ⟨(r650.2.L_, r650.2.At, st673.1), v674, h, I, I⟩ [0, 1, 2, 3]
 rintro s ob ⟨j46, v47, h, rfl, rfl⟩
 unfold L.zae.J1 at h
 refine AW.seqG (fun y48 hy48 => (AW.region (AO.r 2 [.o 1 2] I ⟨I, J⟩ (AO.d (Yd.lenUM 3 I I I I) I (AO.q 2 I (AO.nil ?_))))))
 subst hy48
 refine AW.cutX (fun s ob => ∃ (j82 : (List Int) × Int × (List Segment)) (v83 : Value), L.zae.J2 r5 r8 j46 j82 = some r ∧ s = [] ∧ ob = [.arr b0 106 2 1 [[.list 1 (j82.1.map rI), .V j82.2.1]], .arr b2 27 6 1 [[.v (.slice none 0 0), .v (.slice none 0 0), .v (.slice none 0 0), .v (.slice none 0 0), .V 0, .V 0]], .arr b10 27 6 1 [[.v v47, .v v83, .v (.slice none 0 0), .v (.slice none 0 0), .V r5.1, .V r8.1]], .us v47 9 1 (j46.2.2.map rS), .us v83 77 7 (j82.2.2.map Segment.row)]) [(0, _), (2, _), (3, _), (5, _)] ⟨I, I, I, I, J⟩ ?_ ?_
 refine AW.z I (AW.block (AW.ghost (Ghost.nilU 77 7) ?_))
 obtain ⟨o634, hL635, hR636⟩ := ob_some h
 clear h
 refine AW.loopX hL635 [(0, _), (2, _), (3, _), (5, _)] ⟨I, I, I, I, J⟩ (fun (st623 : (List Int) × Int × (List Segment) × Int) s ob => ∃ (v624 : Value), s = [(6, .V st623.2.2.2)] ∧ ob = [.arr b0 106 2 1 [[.list 1 (st623.1.map rI), .V st623.2.1]], .arr b2 27 6 1 [[.v (.slice none 0 0), .v (.slice none 0 0), .v (.slice none 0 0), .v (.slice none 0 0), .V 0, .V 0]], .arr b10 27 6 1 [[.v v47, .v v624, .v (.slice none 0 0), .v (.slice none 0 0), .V r5.1, .V r8.1]], .us v47 9 1 (j46.2.2.map rS), .us v624 77 7 (st623.2.2.1.map Segment.row)]) ⟨(.slice none 0 0), I, I⟩ ⟨I, J⟩ ⟨[0, 1, 2, 3, 4], I, by decide⟩ ?_
 rintro st623 r638 s ob ⟨v624, rfl, rfl⟩ h hb637
 unfold L.zae.B11 at h
 refine AW.seqG (fun y639 hy639 => (AW.z I (AW.ch h I ?_ ?_)))
 intro hc640 h
 refine AW.skip ?_
 subst hy639
 refine AW.seq (AW.block ?_)
 obtain ⟨r641, hx642, h⟩ := ob_some h
 obtain ⟨l644, hx645, h⟩ := ob_some h
 refine AW.formL 4 I (fun hf647 => (AW.rd (.still 0 (.still 1 (.still 2 (.still 3 (.still 4 (.still 5 (.still 6 (.still 7 (.still 8 (.act 9 (.act 10 (.act 11 (.still 12 (.drop 13 .nil)))))))))))))) [2] [_] I (AP.r 5 [.o 1 0, .o 4 0] I ⟨I, I, J⟩ (AP.op I (Yp.lenUf I I I hf647) I (AP.q 3 I (AP.act [0] I I I (AX.c0 [0] (L.zaz_ok b0 _ _ _ _ _ hx642) ?_)))))))
 refine AP.act [] I I I (AX.lt 7 (([r641.1] : List Segment).map Segment.row) (AP.act [4] I I I (AX.ap 4 I hx645 (fun v646 => (AP.q 1 I (AP.one 4 I (fun v646o => (AP.drop [2] I I I (AX.store 2 0 1 (es' := [[.v v47, .v v646, .v (.slice none 0 0), .v (.slice none 0 0), .V r5.1, .V r8.1]]) I I I I I I (cells_v v646o) I (le_ble I) I I (AP.ofAO (AO.nil (AW.region (AO.q 3 I ?_)))))))))))))
 obtain rfl := oi h
 refine AO.nil ?_
 exact ⟨_, _, _, I, ⟨v646, I, I⟩, ⟨I, I, I, I, I, J⟩, [0, 1, 2, 3, 4], I, by decide⟩
 intro hc640 h
 obtain rfl := hb637 _ (oi h).symm
 replace h := hR636
 refine AW.exit ?_
 exact lg ⟨(st623.1, st623.2.1, st623.2.2.1), v624, h, I, I⟩ [0, 1, 2, 3, 4]
 rintro s ob ⟨j82, v83, h, rfl, rfl⟩
 unfold L.zae.J2 at h
 refine AW.cutX (fun s ob => ∃ (j135 : (List Int) × Int × (List Segment)) (v136 : Value), L.zae.J3 r5 r8 j46 j135 = some r ∧ s = [] ∧ ob = [.arr b0 106 2 1 [[.list 1 (j135.1.map rI), .V j135.2.1]], .arr b2 27 6 1 [[.v (.slice none 0 0), .v (.slice none 0 0), .v (.slice none 0 0), .v (.slice none 0 0), .V 0, .V 0]], .arr b10 27 6 1 [[.v v47, .v v136, .v (.slice none 0 0), .v (.slice none 0 0), .V r5.1, .V r8.1]], .us v47 9 1 (j46.2.2.map rS), .us v136 77 7 (j135.2.2.map Segment.row)]) [(0, _), (2, _), (3, _), (5, _)] ⟨I, I, I, I, J⟩ ?_ ?_
 refine AW.seqG (fun y530 hy530 => ?_)
 obtain ⟨r531, hx532, h⟩ := ob_some h
 refine AW.region (AO.q 1 I (AO.act [0] I (AX.c0 [0] (L.zbl_ok b0 _ _ _ hx532) ?_)))
 refine AO.q 1 I (AO.nil ?_)
 subst hy530
 refine AW.block ?_
 obtain ⟨o581, hL582, hR583⟩ := ob_some h
 clear h
 refine AW.loopX hL582 [(0, _), (2, _), (3, _), (5, _)] ⟨I, I, I, I, J⟩ (fun (st565 : (List Int) × Int × (List Segment) × Int) s ob => ∃ (v566 : Value), s = [(7, .V st565.2.2.2)] ∧ ob = [.arr b0 106 2 1 [[.list 1 (st565.1.map rI), .V st565.2.1]], .arr b2 27 6 1 [[.v (.slice none 0 0), .v (.slice none 0 0), .v (.slice none 0 0), .v (.slice none 0 0), .V 0, .V 0]], .arr b10 27 6 1 [[.v v47, .v v566, .v (.slice none 0 0), .v (.slice none 0 0), .V r5.1, .V r8.1]], .us v47 9 1 (j46.2.2.map rS), .us v566 77 7 (st565.2.2.1.map Segment.row)]) ⟨v83, I, I⟩ ⟨I, J⟩ ⟨[0, 1, 2, 3, 4], I, by decide⟩ ?_
 rintro st565 r585 s ob ⟨v566, rfl, rfl⟩ h hb584
 unfold L.zae.B10 at h
 refine AW.seqG (fun y586 hy586 => (AW.z I (AW.ch h I ?_ ?_)))
 intro hc587 h
 refine AW.skip ?_
 subst hy586
 refine AW.seq (AW.block (AW.seqG (fun y588 hy588 => ?_)))
 obtain ⟨r589, hx590, h⟩ := ob_some h
 refine AW.region (AO.q 2 I (AO.act [0] I (AX.c0 [0] (L.zbl_ok b0 _ _ _ hx590) ?_)))
 refine AO.q 1 I (AO.nil ?_)
 subst hy588
 obtain ⟨r591, hx592, h⟩ := ob_some h
 obtain ⟨r593, hx594, h⟩ := ob_some h
 obtain ⟨l596, hx597, h⟩ := ob_some h
 refine AW.formL 4 I (fun hf599 => (AW.rd (.still 0 (.still 1 (.still 2 (.still 3 (.still 4 (.still 5 (.still 6 (.still 7 (.still 8 (.still 9 (.still 10 (.act 11 (.act 12 (.act 13 (.act 14 (.still 15 (.drop 16 .nil))))))))))))))))) [2] [_] I (AP.r 5 [.o 1 0, .o 4 0] I ⟨I, I, J⟩ (AP.op I (Yp.lenUf I I I hf599) I (AP.q 5 I (AP.act [0] I I I (AX.c0 [0] (L.zca_ok b0 _ _ _ _ hx592) ?_)))))))
 refine AP.act [0] I I I (AX.c0 [0] (L.zaz_ok b0 _ _ _ _ _ hx594) ?_)
 refine AP.act [] I I I (AX.lt 7 (([r593.1] : List Segment).map Segment.row) (AP.act [4] I I I (AX.ap 4 I hx597 (fun v598 => (AP.q 1 I (AP.one 4 I (fun v598o => (AP.drop [2] I I I (AX.store 2 0 1 (es' := [[.v v47, .v v598, .v (.slice none 0 0), .v (.slice none 0 0), .V r5.1, .V r8.1]]) I I I I I I (cells_v v598o) I (le_ble I) I I (AP.ofAO (AO.nil (AW.region (AO.q 3 I ?_)))))))))))))
 obtain rfl := oi h
 refine AO.nil ?_
 exact ⟨_, _, _, I, ⟨v598, I, I⟩, ⟨I, I, I, I, I, J⟩, [0, 1, 2, 3, 4], I, by decide⟩
 intro hc587 h
 obtain rfl := hb584 _ (oi h).symm
 replace h := hR583
 refine AW.exit ?_
 exact lg ⟨(st565.1, st565.2.1, st565.2.2.1), v566, h, I, I⟩ [0, 1, 2, 3, 4]
 rintro s ob ⟨j135, v136, h, rfl, rfl⟩
 unfold L.zae.J3 at h
 refine AW.cutX (fun s ob => ∃ (j276 : (List Int) × Int × (List Port) × (List Station)) (v277 : Value) (v278 : Value), L.zae.J4 r5 r8 j46 j135 j276 = some r ∧ s = [] ∧ ob = [.arr b0 106 2 1 [[.list 1 (j276.1.map rI), .V j276.2.1]], .arr b2 27 6 1 [[.v (.slice none 0 0), .v (.slice none 0 0), .v (.slice none 0 0), .v (.slice none 0 0), .V 0, .V 0]], .arr b10 27 6 1 [[.v v47, .v v136, .v v277, .v v278, .V r5.1, .V r8.1]], .us v47 9 1 (j46.2.2.map rS), .us v136 77 7 (j135.2.2.map Segment.row), .us v277 74 3 (j276.2.2.1.map Port.row), .us v278 83 5 (j276.2.2.2.map Station.row)]) [(2, _), (3, _)] ⟨I, I, J⟩ ?_ ?_
 refine AW.z I (AW.block (AW.ghost (Ghost.nilU 74 3) (AW.ghost (Ghost.nilU 83 5) ?_)))
 obtain ⟨o418, hL419, hR420⟩ := ob_some h
 clear h
 refine AW.loopX hL419 [(0, _), (2, _), (3, _), (5, _)] ⟨I, I, I, I, J⟩ (fun (st371 : (List Int) × Int × (List Port) × (List Station) × Int) s ob => ∃ (v372 : Value) (v373 : Value), s = [(9, .V st371.2.2.2.2)] ∧ ob = [.arr b0 106 2 1 [[.list 1 (st371.1.map rI), .V st371.2.1]], .arr b2 27 6 1 [[.v (.slice none 0 0), .v (.slice none 0 0), .v (.slice none 0 0), .v (.slice none 0 0), .V 0, .V 0]], .arr b10 27 6 1 [[.v v47, .v v136, .v v372, .v v373, .V r5.1, .V r8.1]], .us v47 9 1 (j46.2.2.map rS), .us v136 77 7 (j135.2.2.map Segment.row), .us v372 74 3 (st371.2.2.1.map Port.row), .us v373 83 5 (st371.2.2.2.1.map Station.row)]) ⟨(.slice none 0 0), (.slice none 0 0), I, I⟩ ⟨I, J⟩ ⟨[0, 1, 2, 3, 4, 5, 6], I, by decide⟩ ?_
 rintro st371 r422 s ob ⟨v372, v373, rfl, rfl⟩ h hb421
 unfold L.zae.B5 at h
 refine AW.seqG (fun y423 hy423 => (AW.z I (AW.ch h I ?_ ?_)))
 intro hc424 h
 refine AW.skip ?_
 subst hy423
 refine AW.cutX (fun s ob => ∃ (j464 : (List Int) × Int × (List Port) × (List Station)) (v465 : Value) (v466 : Value), L.zae.J6 st371 j464 = some r422 ∧ s = [] ∧ ob = [.arr b0 106 2 1 [[.list 1 (j464.1.map rI), .V j464.2.1]], .arr b2 27 6 1 [[.v (.slice none 0 0), .v (.slice none 0 0), .v (.slice none 0 0), .v (.slice none 0 0), .V 0, .V 0]], .arr b10 27 6 1 [[.v v47, .v v136, .v v465, .v v466, .V r5.1, .V r8.1]], .us v47 9 1 (j46.2.2.map rS), .us v136 77 7 (j135.2.2.map Segment.row), .us v465 74 3 (j464.2.2.1.map Port.row), .us v466 83 5 (j464.2.2.2.map Station.row)]) [(0, _), (2, _), (3, _), (5, _), (9, _)] ⟨I, I, I, I, I, J⟩ ?_ ?_
 refine AW.block (AW.cutX (fun s ob => ∃ (j483 : (List Int) × Int × (List Port)) (v484 : Value), L.zae.J7 j46 st371 j483 = some r422 ∧ s = [] ∧ ob = [.arr b0 106 2 1 [[.list 1 (j483.1.map rI), .V j483.2.1]], .arr b2 27 6 1 [[.v (.slice none 0 0), .v (.slice none 0 0), .v (.slice none 0 0), .v (.slice none 0 0), .V 0, .V 0]], .arr b10 27 6 1 [[.v v47, .v v136, .v v484, .v v373, .V r5.1, .V r8.1]], .us v47 9 1 (j46.2.2.map rS), .us v136 77 7 (j135.2.2.map Segment.row), .us v484 74 3 (j483.2.2.map Port.row), .us v373 83 5 (st371.2.2.2.1.map Station.row)]) [(0, _), (2, _), (3, _), (5, _), (9, _)] ⟨I, I, I, I, I, J⟩ ?_ ?_)
 refine AW.cutX (fun s ob => ∃ (j513 : (List Int) × Int × Bool), L.zae.J9 j46 st371 j513 = some r422 ∧ s = [(95, .v (.bool j513.2.2))] ∧ ob = [.arr b0 106 2 1 [[.list 1 (j513.1.map rI), .V j513.2.1]], .arr b2 27 6 1 [[.v (.slice none 0 0), .v (.slice none 0 0), .v (.slice none 0 0), .v (.slice none 0 0), .V 0, .V 0]], .arr b10 27 6 1 [[.v v47, .v v136, .v v372, .v v373, .V r5.1, .V r8.1]], .us v47 9 1 (j46.2.2.map rS), .us v136 77 7 (j135.2.2.map Segment.row), .us v372 74 3 (st371.2.2.1.map Port.row), .us v373 83 5 (st371.2.2.2.1.map Station.row)]) [(0, _), (2, _), (3, _), (5, _), (9, _)] ⟨I, I, I, I, I, J⟩ ?_ ?_
 rcases bt ((st371.2.2.2.2 == 0)) with hg525 | hg525
 replace h := ife_t hg525 h
 refine AW.region (AO.q 3 I (AO.known 86 I hg525 (AO.q 9 I (AO.nil ?_))))
 exact lg ⟨(st371.1, st371.2.1, true), h, I, I⟩ [0, 1, 2, 3, 4, 5, 6]
 replace h := ife_f hg525 h
 rcases bt ((st371.2.2.2.2 == (wr ((j46.2.2.length : Int) - 1)))) with hg526 | hg526
 replace h := ife_t hg526 h
 refine AW.region (AO.q 3 I (AO.known 86 I hg525 (AO.q 5 I (AO.known 91 I hg526 (AO.q 4 I (AO.nil ?_))))))
 exact lg ⟨(st371.1, st371.2.1, true), h, I, I⟩ [0, 1, 2, 3, 4, 5, 6]
 replace h := ife_f hg526 h
 obtain ⟨r527, hx528, h⟩ := ob_some h
 refine AW.region (AO.q 3 I (AO.known 86 I hg525 (AO.q 5 I (AO.known 91 I hg526 (AO.q 1 I (AO.gt I I I (AO.act [0] I (AX.c0 [0] (L.zbl_ok b0 _ _ _ hx528) ?_))))))))
 refine AO.q 2 I (AO.nil ?_)
 exact lg ⟨(r527.2.L_, r527.2.At, (r527.1 == 0)), h, I, I⟩ [0, 1, 2, 3, 4, 5, 6]
 rintro s ob ⟨j513, h, rfl, rfl⟩
 unfold L.zae.J9 at h
 refine AW.ch h I ?_ ?_
 intro hc514 h
 obtain ⟨r515, hx516, h⟩ := ob_some h
 obtain ⟨r518, hx519, h⟩ := ob_some h
 obtain ⟨l521, hx522, h⟩ := ob_some h
 refine AW.formL 5 I (fun hf524 => (AW.rd (.still 0 (.still 1 (.still 2 (.still 3 (.still 4 (.still 6 (.still 7 (.two 5 8 (.act 8 (.act 9 (.still 10 (.act 11 (.act 12 (.still 13 (.drop 14 .nil))))))) (.act 5 (.act 9 (.still 10 (.act 11 (.act 12 (.still 13 (.drop 14 .nil))))))))))))))) [2] [_] I (AP.r 4 [.o 1 0, .o 3 0] I ⟨I, I, J⟩ (AP.op I (Yp.lenUf I I I hf524) I (AP.q 2 I (AP.two ?_ ?_))))))
 refine AP.c I (L.zcs_ok _ _ _ hx516) (AP.act [] I I I (AX.lt 1 (([300000, 1000000, 0, 5000000] : List Int).map rI) (AP.act [0] I I I (AX.c0 [0] (L.zaa_ok b0 _ _ _ hx519) ?_))))
 refine AP.p I (Yp.buildP (l := [.v (.string r515), .V st371.2.2.2.2, .V r518.1]) Tryz.bld74 I) I (AP.act [] I I I (AX.lt 3 (([(⟨r515, st371.2.2.2.2, r518.1⟩ : Port)] : List Port).map Port.row) (AP.act [5] I I I (AX.ap 5 I hx522 (fun v523 => (AP.q 1 I (AP.one 5 I (fun v523o => (AP.drop [2] I I I (AX.store 2 0 2 (es' := [[.v v47, .v v136, .v v523, .v v373, .V r5.1, .V r8.1]]) I I I I I I (cells_v v523o) I (le_ble I) I I (AP.ofAO (AO.nil ?_))))))))))))
 exact lg ⟨(r518.2.L_, r518.2.At, l521), v523, h, I, I⟩ [0, 1, 2, 3, 4, 5, 6]
 refine AP.act [] I I I (AX.lt 1 (([300000, 1000000, 0, 5000000] : List Int).map rI) (AP.c I (L.zcs_ok _ _ _ hx516) (AP.act [0] I I I (AX.c0 [0] (L.zaa_ok b0 _ _ _ hx519) ?_))))
 refine AP.p I (Yp.buildP (l := [.v (.string r515), .V st371.2.2.2.2, .V r518.1]) Tryz.bld74 I) I (AP.act [] I I I (AX.lt 3 (([(⟨r515, st371.2.2.2.2, r518.1⟩ : Port)] : List Port).map Port.row) (AP.act [5] I I I (AX.ap 5 I hx522 (fun v523 => (AP.q 1 I (AP.one 5 I (fun v523o => (AP.drop [2] I I I (AX.store 2 0 2 (es' := [[.v v47, .v v136, .v v523, .v v373, .V r5.1, .V r8.1]]) I I I I I I (cells_v v523o) I (le_ble I) I I (AP.ofAO (AO.nil ?_))))))))))))
 exact lg ⟨(r518.2.L_, r518.2.At, l521), v523, h, I, I⟩ [0, 1, 2, 3, 4, 5, 6]
 intro hc514 h
 refine AW.skip ?_
 exact lg ⟨(j513.1, j513.2.1, st371.2.2.1), v372, h, I, I⟩ [0, 1, 2, 3, 4, 5, 6]
 rintro s ob ⟨j483, v484, h, rfl, rfl⟩
 unfold L.zae.J7 at h
 refine AW.cutX (fun s ob => ∃ (j488 : (List Int) × Int × Bool), L.zae.J8 st371 j483 j488 = some r422 ∧ s = [(117, .v (.bool j488.2.2))] ∧ ob = [.arr b0 106 2 1 [[.list 1 (j488.1.map rI), .V j488.2.1]], .arr b2 27 6 1 [[.v (.slice none 0 0), .v (.slice none 0 0), .v (.slice none 0 0), .v (.slice none 0 0), .V 0, .V 0]], .arr b10 27 6 1 [[.v v47, .v v136, .v v484, .v v373, .V r5.1, .V r8.1]], .us v47 9 1 (j46.2.2.map rS), .us v136 77 7 (j135.2.2.map Segment.row), .us v484 74 3 (j483.2.2.map Port.row), .us v373 83 5 (st371.2.2.2.1.map Station.row)]) [(0, _), (2, _), (3, _), (5, _), (9, _)] ⟨I, I, I, I, I, J⟩ ?_ ?_
 rcases bt (decide (st371.2.2.2.2 < (wr ((j46.2.2.length : Int) - 1)))) with hg506 | hg506
 replace h := ife_t hg506 h
 obtain ⟨r507, hx508, h⟩ := ob_some h
 refine AW.region (AO.q 4 I (AO.known 113 I hg506 (AO.q 1 I (AO.gt I I I (AO.act [0] I (AX.c0 [0] (L.zbl_ok b0 _ _ _ hx508) ?_))))))
 refine AO.q 2 I (AO.nil ?_)
 exact lg ⟨(r507.2.L_, r507.2.At, (r507.1 == 0)), h, I, I⟩ [0, 1, 2, 3, 4, 5, 6]
 replace h := ife_f hg506 h
 refine AW.region (AO.q 4 I (AO.known 113 I hg506 (AO.q 4 I (AO.nil ?_))))
 exact lg ⟨(j483.1, j483.2.1, false), h, I, I⟩ [0, 1, 2, 3, 4, 5, 6]
 rintro s ob ⟨j488, h, rfl, rfl⟩
 unfold L.zae.J8 at h
 refine AW.ch h I ?_ ?_
 intro hc489 h
 obtain ⟨r490, hx491, h⟩ := ob_some h
 obtain ⟨r493, hx494, h⟩ := ob_some h
 obtain ⟨r496, hx497, h⟩ := ob_some h
 obtain ⟨r499, hx500, h⟩ := ob_some h
 obtain ⟨l502, hx503, h⟩ := ob_some h
 refine AW.formL 6 I (fun hf505 => (AW.rd (.still 0 (.still 1 (.still 2 (.still 3 (.still 4 (.still 6 (.still 7 (.still 10 (.still 13 (.four 5 8 11 14 (.three 8 11 14 (.three 9 11 14 (.two 11 14 (.two 12 14 (.act 14 (.act 15 (.still 16 (.act 17 (.act 18 (.still 19 (.drop 20 .nil))))))) (.act 12 (.act 15 (.still 16 (.act 17 (.act 18 (.still 19 (.drop 20 .nil)))))))) (.act 11 (.act 12 (.act 15 (.still 16 (.act 17 (.act 18 (.still 19 (.drop 20 .nil))))))))) (.two 9 14 (.two 12 14 (.act 14 (.act 15 (.still 16 (.act 17 (.act 18 (.still 19 (.drop 20 .nil))))))) (.act 12 (.act 15 (.still 16 (.act 17 (.act 18 (.still 19 (.drop 20 .nil)))))))) (.act 9 (.act 12 (.act 15 (.still 16 (.act 17 (.act 18 (.still 19 (.drop 20 .nil))))))))) (.two 9 11 (.act 11 (.act 12 (.act 15 (.still 16 (.act 17 (.act 18 (.still 19 (.drop 20 .nil)))))))) (.act 9 (.act 12 (.act 15 (.still 16 (.act 17 (.act 18 (.still 19 (.drop 20 .nil)))))))))) (.two 8 14 (.two 9 14 (.two 12 14 (.act 14 (.act 15 (.still 16 (.act 17 (.act 18 (.still 19 (.drop 20 .nil))))))) (.act 12 (.act 15 (.still 16 (.act 17 (.act 18 (.still 19 (.drop 20 .nil)))))))) (.act 9 (.act 12 (.act 15 (.still 16 (.act 17 (.act 18 (.still 19 (.drop 20 .nil))))))))) (.act 8 (.act 9 (.act 12 (.act 15 (.still 16 (.act 17 (.act 18 (.still 19 (.drop 20 .nil)))))))))) (.two 8 11 (.two 9 11 (.act 11 (.act 12 (.act 15 (.still 16 (.act 17 (.act 18 (.still 19 (.drop 20 .nil)))))))) (.act 9 (.act 12 (.act 15 (.still 16 (.act 17 (.act 18 (.still 19 (.drop 20 .nil))))))))) (.act 8 (.act 9 (.act 12 (.act 15 (.still 16 (.act 17 (.act 18 (.still 19 (.drop 20 .nil))))))))))) (.three 5 11 14 (.three 9 11 14 (.two 11 14 (.two 12 14 (.act 14 (.act 15 (.still 16 (.act 17 (.act 18 (.still 19 (.drop 20 .nil))))))) (.act 12 (.act 15 (.still 16 (.act 17 (.act 18 (.still 19 (.drop 20 .nil)))))))) (.act 11 (.act 12 (.act 15 (.still 16 (.act 17 (.act 18 (.still 19 (.drop 20 .nil))))))))) (.two 9 14 (.two 12 14 (.act 14 (.act 15 (.still 16 (.act 17 (.act 18 (.still 19 (.drop 20 .nil))))))) (.act 12 (.act 15 (.still 16 (.act 17 (.act 18 (.still 19 (.drop 20 .nil)))))))) (.act 9 (.act 12 (.act 15 (.still 16 (.act 17 (.act 18 (.still 19 (.drop 20 .nil))))))))) (.two 9 11 (.act 11 (.act 12 (.act 15 (.still 16 (.act 17 (.act 18 (.still 19 (.drop 20 .nil)))))))) (.act 9 (.act 12 (.act 15 (.still 16 (.act 17 (.act 18 (.still 19 (.drop 20 .nil)))))))))) (.two 5 14 (.two 9 14 (.two 12 14 (.act 14 (.act 15 (.still 16 (.act 17 (.act 18 (.still 19 (.drop 20 .nil))))))) (.act 12 (.act 15 (.still 16 (.act 17 (.act 18 (.still 19 (.drop 20 .nil)))))))) (.act 9 (.act 12 (.act 15 (.still 16 (.act 17 (.act 18 (.still 19 (.drop 20 .nil))))))))) (.act 5 (.act 9 (.act 12 (.act 15 (.still 16 (.act 17 (.act 18 (.still 19 (.drop 20 .nil)))))))))) (.two 5 11 (.two 9 11 (.act 11 (.act 12 (.act 15 (.still 16 (.act 17 (.act 18 (.still 19 (.drop 20 .nil)))))))) (.act 9 (.act 12 (.act 15 (.still 16 (.act 17 (.act 18 (.still 19 (.drop 20 .nil))))))))) (.act 5 (.act 9 (.act 12 (.act 15 (.still 16 (.act 17 (.act 18 (.still 19 (.drop 20 .nil))))))))))) (.three 5 8 14 (.two 8 14 (.two 9 14 (.two 12 14 (.act 14 (.act 15 (.still 16 (.act 17 (.act 18 (.still 19 (.drop 20 .nil))))))) (.act 12 (.act 15 (.still 16 (.act 17 (.act 18 (.still 19 (.drop 20 .nil)))))))) (.act 9 (.act 12 (.act 15 (.still 16 (.act 17 (.act 18 (.still 19 (.drop 20 .nil))))))))) (.act 8 (.act 9 (.act 12 (.act 15 (.still 16 (.act 17 (.act 18 (.still 19 (.drop 20 .nil)))))))))) (.two 5 14 (.two 9 14 (.two 12 14 (.act 14 (.act 15 (.still 16 (.act 17 (.act 18 (.still 19 (.drop 20 .nil))))))) (.act 12 (.act 15 (.still 16 (.act 17 (.act 18 (.still 19 (.drop 20 .nil)))))))) (.act 9 (.act 12 (.act 15 (.still 16 (.act 17 (.act 18 (.still 19 (.drop 20 .nil))))))))) (.act 5 (.act 9 (.act 12 (.act 15 (.still 16 (.act 17 (.act 18 (.still 19 (.drop 20 .nil)))))))))) (.two 5 8 (.act 8 (.act 9 (.act 12 (.act 15 (.still 16 (.act 17 (.act 18 (.still 19 (.drop 20 .nil))))))))) (.act 5 (.act 9 (.act 12 (.act 15 (.still 16 (.act 17 (.act 18 (.still 19 (.drop 20 .nil))))))))))) (.three 5 8 11 (.two 8 11 (.two 9 11 (.act 11 (.act 12 (.act 15 (.still 16 (.act 17 (.act 18 (.still 19 (.drop 20 .nil)))))))) (.act 9 (.act 12 (.act 15 (.still 16 (.act 17 (.act 18 (.still 19 (.drop 20 .nil))))))))) (.act 8 (.act 9 (.act 12 (.act 15 (.still 16 (.act 17 (.act 18 (.still 19 (.drop 20 .nil)))))))))) (.two 5 11 (.two 9 11 (.act 11 (.act 12 (.act 15 (.still 16 (.act 17 (.act 18 (.still 19 (.drop 20 .nil)))))))) (.act 9 (.act 12 (.act 15 (.still 16 (.act 17 (.act 18 (.still 19 (.drop 20 .nil))))))))) (.act 5 (.act 9 (.act 12 (.act 15 (.still 16 (.act 17 (.act 18 (.still 19 (.drop 20 .nil)))))))))) (.two 5 8 (.act 8 (.act 9 (.act 12 (.act 15 (.still 16 (.act 17 (.act 18 (.still 19 (.drop 20 .nil))))))))) (.act 5 (.act 9 (.act 12 (.act 15 (.still 16 (.act 17 (.act 18 (.still 19 (.drop 20 .nil))))))))))))))))))))) [2] [_] I ?_))
 refine AP.r 4 [.o 1 0, .o 3 0] I ⟨I, I, J⟩ (AP.op I (Yp.lenUf I I I hf505) I (AP.q 4 I (AP.four ?_ ?_ ?_ ?_)))
 refine AP.c I (L.zcs_ok _ _ _ hx491) (AP.three ?_ ?_ ?_)
 refine AP.act [] I I I (AX.lt 1 (([500000, 2000000, 0] : List Int).map rI) (AP.three ?_ ?_ ?_))
 refine AP.act [0] I I I (AX.c0 [0] (L.zaa_ok b0 _ _ _ hx494) ?_)
 refine AP.two ?_ ?_
 refine AP.act [] I I I (AX.lt 1 (([0, 200, 100000] : List Int).map rI) (AP.two ?_ ?_))
 refine AP.act [0] I I I (AX.c0 [0] (L.zaa_ok b0 _ _ _ hx497) ?_)
 refine AP.act [] I I I (AX.lt 1 (([0, 100000, 400000] : List Int).map rI) (AP.act [0] I I I (AX.c0 [0] (L.zaa_ok b0 _ _ _ hx500) ?_)))
 rotate_left
 refine AP.act [] I I I (AX.lt 1 (([0, 100000, 400000] : List Int).map rI) (AP.act [0] I I I (AX.c0 [0] (L.zaa_ok b0 _ _ _ hx497) ?_)))
 refine AP.act [0] I I I (AX.c0 [0] (L.zaa_ok b0 _ _ _ hx500) ?_)
 rotate_left
 refine AP.act [] I I I (AX.lt 1 (([0, 100000, 400000] : List Int).map rI) (AP.act [] I I I (AX.lt 1 (([0, 200, 100000] : List Int).map rI) (AP.act [0] I I I (AX.c0 [0] (L.zaa_ok b0 _ _ _ hx497) ?_)))))
 refine AP.act [0] I I I (AX.c0 [0] (L.zaa_ok b0 _ _ _ hx500) ?_)
 rotate_left
 refine AP.act [] I I I (AX.lt 1 (([0, 200, 100000] : List Int).map rI) (AP.two ?_ ?_))
 refine AP.act [0] I I I (AX.c0 [0] (L.zaa_ok b0 _ _ _ hx494) ?_)
 refine AP.two ?_ ?_
 refine AP.act [0] I I I (AX.c0 [0] (L.zaa_ok b0 _ _ _ hx497) ?_)
 refine AP.act [] I I I (AX.lt 1 (([0, 100000, 400000] : List Int).map rI) (AP.act [0] I I I (AX.c0 [0] (L.zaa_ok b0 _ _ _ hx500) ?_)))
 rotate_left
 refine AP.act [] I I I (AX.lt 1 (([0, 100000, 400000] : List Int).map rI) (AP.act [0] I I I (AX.c0 [0] (L.zaa_ok b0 _ _ _ hx497) ?_)))
 refine AP.act [0] I I I (AX.c0 [0] (L.zaa_ok b0 _ _ _ hx500) ?_)
 rotate_left
 refine AP.act [] I I I (AX.lt 1 (([0, 100000, 400000] : List Int).map rI) (AP.act [0] I I I (AX.c0 [0] (L.zaa_ok b0 _ _ _ hx494) ?_)))
 refine AP.act [0] I I I (AX.c0 [0] (L.zaa_ok b0 _ _ _ hx497) ?_)
 refine AP.act [0] I I I (AX.c0 [0] (L.zaa_ok b0 _ _ _ hx500) ?_)
 rotate_left
 refine AP.act [] I I I (AX.lt 1 (([0, 100000, 400000] : List Int).map rI) (AP.two ?_ ?_))
 refine AP.act [0] I I I (AX.c0 [0] (L.zaa_ok b0 _ _ _ hx494) ?_)
 refine AP.act [] I I I (AX.lt 1 (([0, 200, 100000] : List Int).map rI) (AP.act [0] I I I (AX.c0 [0] (L.zaa_ok b0 _ _ _ hx497) ?_)))
 refine AP.act [0] I I I (AX.c0 [0] (L.zaa_ok b0 _ _ _ hx500) ?_)
 rotate_left
 refine AP.act [] I I I (AX.lt 1 (([0, 200, 100000] : List Int).map rI) (AP.act [0] I I I (AX.c0 [0] (L.zaa_ok b0 _ _ _ hx494) ?_)))
 refine AP.act [0] I I I (AX.c0 [0] (L.zaa_ok b0 _ _ _ hx497) ?_)
 refine AP.act [0] I I I (AX.c0 [0] (L.zaa_ok b0 _ _ _ hx500) ?_)
 rotate_left
 refine AP.act [] I I I (AX.lt 1 (([0, 200, 100000] : List Int).map rI) (AP.two ?_ ?_))
 refine AP.act [] I I I (AX.lt 1 (([500000, 2000000, 0] : List Int).map rI) (AP.two ?_ ?_))
 refine AP.act [0] I I I (AX.c0 [0] (L.zaa_ok b0 _ _ _ hx494) ?_)
 refine AP.two ?_ ?_
 refine AP.act [0] I I I (AX.c0 [0] (L.zaa_ok b0 _ _ _ hx497) ?_)
 refine AP.act [] I I I (AX.lt 1 (([0, 100000, 400000] : List Int).map rI) (AP.act [0] I I I (AX.c0 [0] (L.zaa_ok b0 _ _ _ hx500) ?_)))
 rotate_left
 refine AP.act [] I I I (AX.lt 1 (([0, 100000, 400000] : List Int).map rI) (AP.act [0] I I I (AX.c0 [0] (L.zaa_ok b0 _ _ _ hx497) ?_)))
 refine AP.act [0] I I I (AX.c0 [0] (L.zaa_ok b0 _ _ _ hx500) ?_)
 rotate_left
 refine AP.act [] I I I (AX.lt 1 (([0, 100000, 400000] : List Int).map rI) (AP.act [0] I I I (AX.c0 [0] (L.zaa_ok b0 _ _ _ hx494) ?_)))
 refine AP.act [0] I I I (AX.c0 [0] (L.zaa_ok b0 _ _ _ hx497) ?_)
 refine AP.act [0] I I I (AX.c0 [0] (L.zaa_ok b0 _ _ _ hx500) ?_)
 rotate_left
 refine AP.act [] I I I (AX.lt 1 (([0, 100000, 400000] : List Int).map rI) (AP.act [] I I I (AX.lt 1 (([500000, 2000000, 0] : List Int).map rI) (AP.act [0] I I I (AX.c0 [0] (L.zaa_ok b0 _ _ _ hx494) ?_)))))
 refine AP.act [0] I I I (AX.c0 [0] (L.zaa_ok b0 _ _ _ hx497) ?_)
 refine AP.act [0] I I I (AX.c0 [0] (L.zaa_ok b0 _ _ _ hx500) ?_)
 rotate_left
 refine AP.act [] I I I (AX.lt 1 (([0, 100000, 400000] : List Int).map rI) (AP.two ?_ ?_))
 refine AP.act [] I I I (AX.lt 1 (([500000, 2000000, 0] : List Int).map rI) (AP.two ?_ ?_))
 refine AP.act [0] I I I (AX.c0 [0] (L.zaa_ok b0 _ _ _ hx494) ?_)
 refine AP.act [] I I I (AX.lt 1 (([0, 200, 100000] : List Int).map rI) (AP.act [0] I I I (AX.c0 [0] (L.zaa_ok b0 _ _ _ hx497) ?_)))
 refine AP.act [0] I I I (AX.c0 [0] (L.zaa_ok b0 _ _ _ hx500) ?_)
 rotate_left
 refine AP.act [] I I I (AX.lt 1 (([0, 200, 100000] : List Int).map rI) (AP.act [0] I I I (AX.c0 [0] (L.zaa_ok b0 _ _ _ hx494) ?_)))
 refine AP.act [0] I I I (AX.c0 [0] (L.zaa_ok b0 _ _ _ hx497) ?_)
 refine AP.act [0] I I I (AX.c0 [0] (L.zaa_ok b0 _ _ _ hx500) ?_)
 rotate_left
 refine AP.act [] I I I (AX.lt 1 (([0, 200, 100000] : List Int).map rI) (AP.act [] I I I (AX.lt 1 (([500000, 2000000, 0] : List Int).map rI) (AP.act [0] I I I (AX.c0 [0] (L.zaa_ok b0 _ _ _ hx494) ?_)))))
 refine AP.act [0] I I I (AX.c0 [0] (L.zaa_ok b0 _ _ _ hx497) ?_)
 refine AP.act [0] I I I (AX.c0 [0] (L.zaa_ok b0 _ _ _ hx500) ?_)
 rotate_left
 refine AP.act [] I I I (AX.lt 1 (([500000, 2000000, 0] : List Int).map rI) (AP.three ?_ ?_ ?_))
 refine AP.c I (L.zcs_ok _ _ _ hx491) (AP.three ?_ ?_ ?_)
 refine AP.act [0] I I I (AX.c0 [0] (L.zaa_ok b0 _ _ _ hx494) ?_)
 refine AP.two ?_ ?_
 refine AP.act [] I I I (AX.lt 1 (([0, 200, 100000] : List Int).map rI) (AP.two ?_ ?_))
 refine AP.act [0] I I I (AX.c0 [0] (L.zaa_ok b0 _ _ _ hx497) ?_)
 refine AP.act [] I I I (AX.lt 1 (([0, 100000, 400000] : List Int).map rI) (AP.act [0] I I I (AX.c0 [0] (L.zaa_ok b0 _ _ _ hx500) ?_)))
 rotate_left
 refine AP.act [] I I I (AX.lt 1 (([0, 100000, 400000] : List Int).map rI) (AP.act [0] I I I (AX.c0 [0] (L.zaa_ok b0 _ _ _ hx497) ?_)))
 refine AP.act [0] I I I (AX.c0 [0] (L.zaa_ok b0 _ _ _ hx500) ?_)
 rotate_left
 refine AP.act [] I I I (AX.lt 1 (([0, 100000, 400000] : List Int).map rI) (AP.act [] I I I (AX.lt 1 (([0, 200, 100000] : List Int).map rI) (AP.act [0] I I I (AX.c0 [0] (L.zaa_ok b0 _ _ _ hx497) ?_)))))
 refine AP.act [0] I I I (AX.c0 [0] (L.zaa_ok b0 _ _ _ hx500) ?_)
 rotate_left
 refine AP.act [] I I I (AX.lt 1 (([0, 200, 100000] : List Int).map rI) (AP.two ?_ ?_))
 refine AP.act [0] I I I (AX.c0 [0] (L.zaa_ok b0 _ _ _ hx494) ?_)
 refine AP.two ?_ ?_
 refine AP.act [0] I I I (AX.c0 [0] (L.zaa_ok b0 _ _ _ hx497) ?_)
 refine AP.act [] I I I (AX.lt 1 (([0, 100000, 400000] : List Int).map rI) (AP.act [0] I I I (AX.c0 [0] (L.zaa_ok b0 _ _ _ hx500) ?_)))
 rotate_left
 refine AP.act [] I I I (AX.lt 1 (([0, 100000, 400000] : List Int).map rI) (AP.act [0] I I I (AX.c0 [0] (L.zaa_ok b0 _ _ _ hx497) ?_)))
 refine AP.act [0] I I I (AX.c0 [0] (L.zaa_ok b0 _ _ _ hx500) ?_)
 rotate_left
 refine AP.act [] I I I (AX.lt 1 (([0, 100000, 400000] : List Int).map rI) (AP.act [0] I I I (AX.c0 [0] (L.zaa_ok b0 _ _ _ hx494) ?_)))
 refine AP.act [0] I I I (AX.c0 [0] (L.zaa_ok b0 _ _ _ hx497) ?_)
 refine AP.act [0] I I I (AX.c0 [0] (L.zaa_ok b0 _ _ _ hx500) ?_)
 rotate_left
 refine AP.act [] I I I (AX.lt 1 (([0, 100000, 400000] : List Int).map rI) (AP.two ?_ ?_))
 refine AP.act [0] I I I (AX.c0 [0] (L.zaa_ok b0 _ _ _ hx494) ?_)
 refine AP.act [] I I I (AX.lt 1 (([0, 200, 100000] : List Int).map rI) (AP.act [0] I I I (AX.c0 [0] (L.zaa_ok b0 _ _ _ hx497) ?_)))
 refine AP.act [0] I I I (AX.c0 [0] (L.zaa_ok b0 _ _ _ hx500) ?_)
 rotate_left
 refine AP.act [] I I I (AX.lt 1 (([0, 200, 100000] : List Int).map rI) (AP.act [0] I I I (AX.c0 [0] (L.zaa_ok b0 _ _ _ hx494) ?_)))
 refine AP.act [0] I I I (AX.c0 [0] (L.zaa_ok b0 _ _ _ hx497) ?_)
 refine AP.act [0] I I I (AX.c0 [0] (L.zaa_ok b0 _ _ _ hx500) ?_)
 rotate_left
 refine AP.act [] I I I (AX.lt 1 (([0, 200, 100000] : List Int).map rI) (AP.two ?_ ?_))
 refine AP.c I (L.zcs_ok _ _ _ hx491) (AP.two ?_ ?_)
 refine AP.act [0] I I I (AX.c0 [0] (L.zaa_ok b0 _ _ _ hx494) ?_)
 refine AP.two ?_ ?_
 refine AP.act [0] I I I (AX.c0 [0] (L.zaa_ok b0 _ _ _ hx497) ?_)
 refine AP.act [] I I I (AX.lt 1 (([0, 100000, 400000] : List Int).map rI) (AP.act [0] I I I (AX.c0 [0] (L.zaa_ok b0 _ _ _ hx500) ?_)))
 rotate_left
 refine AP.act [] I I I (AX.lt 1 (([0, 100000, 400000] : List Int).map rI) (AP.act [0] I I I (AX.c0 [0] (L.zaa_ok b0 _ _ _ hx497) ?_)))
 refine AP.act [0] I I I (AX.c0 [0] (L.zaa_ok b0 _ _ _ hx500) ?_)
 rotate_left
 refine AP.act [] I I I (AX.lt 1 (([0, 100000, 400000] : List Int).map rI) (AP.act [0] I I I (AX.c0 [0] (L.zaa_ok b0 _ _ _ hx494) ?_)))
 refine AP.act [0] I I I (AX.c0 [0] (L.zaa_ok b0 _ _ _ hx497) ?_)
 refine AP.act [0] I I I (AX.c0 [0] (L.zaa_ok b0 _ _ _ hx500) ?_)
 rotate_left
 refine AP.act [] I I I (AX.lt 1 (([0, 100000, 400000] : List Int).map rI) (AP.c I (L.zcs_ok _ _ _ hx491) (AP.act [0] I I I (AX.c0 [0] (L.zaa_ok b0 _ _ _ hx494) ?_))))
 refine AP.act [0] I I I (AX.c0 [0] (L.zaa_ok b0 _ _ _ hx497) ?_)
 refine AP.act [0] I I I (AX.c0 [0] (L.zaa_ok b0 _ _ _ hx500) ?_)
 rotate_left
 refine AP.act [] I I I (AX.lt 1 (([0, 100000, 400000] : List Int).map rI) (AP.two ?_ ?_))
 refine AP.c I (L.zcs_ok _ _ _ hx491) (AP.two ?_ ?_)
 refine AP.act [0] I I I (AX.c0 [0] (L.zaa_ok b0 _ _ _ hx494) ?_)
 refine AP.act [] I I I (AX.lt 1 (([0, 200, 100000] : List Int).map rI) (AP.act [0] I I I (AX.c0 [0] (L.zaa_ok b0 _ _ _ hx497) ?_)))
 refine AP.act [0] I I I (AX.c0 [0] (L.zaa_ok b0 _ _ _ hx500) ?_)
 rotate_left
 refine AP.act [] I I I (AX.lt 1 (([0, 200, 100000] : List Int).map rI) (AP.act [0] I I I (AX.c0 [0] (L.zaa_ok b0 _ _ _ hx494) ?_)))
 refine AP.act [0] I I I (AX.c0 [0] (L.zaa_ok b0 _ _ _ hx497) ?_)
 refine AP.act [0] I I I (AX.c0 [0] (L.zaa_ok b0 _ _ _ hx500) ?_)
 rotate_left
 refine AP.act [] I I I (AX.lt 1 (([0, 200, 100000] : List Int).map rI) (AP.c I (L.zcs_ok _ _ _ hx491) (AP.act [0] I I I (AX.c0 [0] (L.zaa_ok b0 _ _ _ hx494) ?_))))
 refine AP.act [0] I I I (AX.c0 [0] (L.zaa_ok b0 _ _ _ hx497) ?_)
 refine AP.act [0] I I I (AX.c0 [0] (L.zaa_ok b0 _ _ _ hx500) ?_)
 rotate_left
 refine AP.act [] I I I (AX.lt 1 (([0, 200, 100000] : List Int).map rI) (AP.three ?_ ?_ ?_))
 refine AP.c I (L.zcs_ok _ _ _ hx491) (AP.two ?_ ?_)
 refine AP.act [] I I I (AX.lt 1 (([500000, 2000000, 0] : List Int).map rI) (AP.two ?_ ?_))
 refine AP.act [0] I I I (AX.c0 [0] (L.zaa_ok b0 _ _ _ hx494) ?_)
 refine AP.two ?_ ?_
 refine AP.act [0] I I I (AX.c0 [0] (L.zaa_ok b0 _ _ _ hx497) ?_)
 refine AP.act [] I I I (AX.lt 1 (([0, 100000, 400000] : List Int).map rI) (AP.act [0] I I I (AX.c0 [0] (L.zaa_ok b0 _ _ _ hx500) ?_)))
 rotate_left
 refine AP.act [] I I I (AX.lt 1 (([0, 100000, 400000] : List Int).map rI) (AP.act [0] I I I (AX.c0 [0] (L.zaa_ok b0 _ _ _ hx497) ?_)))
 refine AP.act [0] I I I (AX.c0 [0] (L.zaa_ok b0 _ _ _ hx500) ?_)
 rotate_left
 refine AP.act [] I I I (AX.lt 1 (([0, 100000, 400000] : List Int).map rI) (AP.act [0] I I I (AX.c0 [0] (L.zaa_ok b0 _ _ _ hx494) ?_)))
 refine AP.act [0] I I I (AX.c0 [0] (L.zaa_ok b0 _ _ _ hx497) ?_)
 refine AP.act [0] I I I (AX.c0 [0] (L.zaa_ok b0 _ _ _ hx500) ?_)
 rotate_left
 refine AP.act [] I I I (AX.lt 1 (([0, 100000, 400000] : List Int).map rI) (AP.act [] I I I (AX.lt 1 (([500000, 2000000, 0] : List Int).map rI) (AP.act [0] I I I (AX.c0 [0] (L.zaa_ok b0 _ _ _ hx494) ?_)))))
 refine AP.act [0] I I I (AX.c0 [0] (L.zaa_ok b0 _ _ _ hx497) ?_)
 refine AP.act [0] I I I (AX.c0 [0] (L.zaa_ok b0 _ _ _ hx500) ?_)
 rotate_left
 refine AP.act [] I I I (AX.lt 1 (([500000, 2000000, 0] : List Int).map rI) (AP.two ?_ ?_))
 refine AP.c I (L.zcs_ok _ _ _ hx491) (AP.two ?_ ?_)
 refine AP.act [0] I I I (AX.c0 [0] (L.zaa_ok b0 _ _ _ hx494) ?_)
 refine AP.two ?_ ?_
 refine AP.act [0] I I I (AX.c0 [0] (L.zaa_ok b0 _ _ _ hx497) ?_)
 refine AP.act [] I I I (AX.lt 1 (([0, 100000, 400000] : List Int).map rI) (AP.act [0] I I I (AX.c0 [0] (L.zaa_ok b0 _ _ _ hx500) ?_)))
 rotate_left
 refine AP.act [] I I I (AX.lt 1 (([0, 100000, 400000] : List Int).map rI) (AP.act [0] I I I (AX.c0 [0] (L.zaa_ok b0 _ _ _ hx497) ?_)))
 refine AP.act [0] I I I (AX.c0 [0] (L.zaa_ok b0 _ _ _ hx500) ?_)
 rotate_left
 refine AP.act [] I I I (AX.lt 1 (([0, 100000, 400000] : List Int).map rI) (AP.act [0] I I I (AX.c0 [0] (L.zaa_ok b0 _ _ _ hx494) ?_)))
 refine AP.act [0] I I I (AX.c0 [0] (L.zaa_ok b0 _ _ _ hx497) ?_)
 refine AP.act [0] I I I (AX.c0 [0] (L.zaa_ok b0 _ _ _ hx500) ?_)
 rotate_left
 refine AP.act [] I I I (AX.lt 1 (([0, 100000, 400000] : List Int).map rI) (AP.c I (L.zcs_ok _ _ _ hx491) (AP.act [0] I I I (AX.c0 [0] (L.zaa_ok b0 _ _ _ hx494) ?_))))
 refine AP.act [0] I I I (AX.c0 [0] (L.zaa_ok b0 _ _ _ hx497) ?_)
 refine AP.act [0] I I I (AX.c0 [0] (L.zaa_ok b0 _ _ _ hx500) ?_)
 rotate_left
 refine AP.act [] I I I (AX.lt 1 (([0, 100000, 400000] : List Int).map rI) (AP.two ?_ ?_))
 refine AP.c I (L.zcs_ok _ _ _ hx491) (AP.act [] I I I (AX.lt 1 (([500000, 2000000, 0] : List Int).map rI) (AP.act [0] I I I (AX.c0 [0] (L.zaa_ok b0 _ _ _ hx494) ?_))))
 refine AP.act [0] I I I (AX.c0 [0] (L.zaa_ok b0 _ _ _ hx497) ?_)
 refine AP.act [0] I I I (AX.c0 [0] (L.zaa_ok b0 _ _ _ hx500) ?_)
 rotate_left
 refine AP.act [] I I I (AX.lt 1 (([500000, 2000000, 0] : List Int).map rI) (AP.c I (L.zcs_ok _ _ _ hx491) (AP.act [0] I I I (AX.c0 [0] (L.zaa_ok b0 _ _ _ hx494) ?_))))
 refine AP.act [0] I I I (AX.c0 [0] (L.zaa_ok b0 _ _ _ hx497) ?_)
 refine AP.act [0] I I I (AX.c0 [0] (L.zaa_ok b0 _ _ _ hx500) ?_)
 rotate_left
 refine AP.act [] I I I (AX.lt 1 (([0, 100000, 400000] : List Int).map rI) (AP.three ?_ ?_ ?_))
 refine AP.c I (L.zcs_ok _ _ _ hx491) (AP.two ?_ ?_)
 refine AP.act [] I I I (AX.lt 1 (([500000, 2000000, 0] : List Int).map rI) (AP.two ?_ ?_))
 refine AP.act [0] I I I (AX.c0 [0] (L.zaa_ok b0 _ _ _ hx494) ?_)
 refine AP.act [] I I I (AX.lt 1 (([0, 200, 100000] : List Int).map rI) (AP.act [0] I I I (AX.c0 [0] (L.zaa_ok b0 _ _ _ hx497) ?_)))
 refine AP.act [0] I I I (AX.c0 [0] (L.zaa_ok b0 _ _ _ hx500) ?_)
 rotate_left
 refine AP.act [] I I I (AX.lt 1 (([0, 200, 100000] : List Int).map rI) (AP.act [0] I I I (AX.c0 [0] (L.zaa_ok b0 _ _ _ hx494) ?_)))
 refine AP.act [0] I I I (AX.c0 [0] (L.zaa_ok b0 _ _ _ hx497) ?_)
 refine AP.act [0] I I I (AX.c0 [0] (L.zaa_ok b0 _ _ _ hx500) ?_)
 rotate_left
 refine AP.act [] I I I (AX.lt 1 (([0, 200, 100000] : List Int).map rI) (AP.act [] I I I (AX.lt 1 (([500000, 2000000, 0] : List Int).map rI) (AP.act [0] I I I (AX.c0 [0] (L.zaa_ok b0 _ _ _ hx494) ?_)))))
 refine AP.act [0] I I I (AX.c0 [0] (L.zaa_ok b0 _ _ _ hx497) ?_)
 refine AP.act [0] I I I (AX.c0 [0] (L.zaa_ok b0 _ _ _ hx500) ?_)
 rotate_left
 refine AP.act [] I I I (AX.lt 1 (([500000, 2000000, 0] : List Int).map rI) (AP.two ?_ ?_))
 refine AP.c I (L.zcs_ok _ _ _ hx491) (AP.two ?_ ?_)
 refine AP.act [0] I I I (AX.c0 [0] (L.zaa_ok b0 _ _ _ hx494) ?_)
 refine AP.act [] I I I (AX.lt 1 (([0, 200, 100000] : List Int).map rI) (AP.act [0] I I I (AX.c0 [0] (L.zaa_ok b0 _ _ _ hx497) ?_)))
 refine AP.act [0] I I I (AX.c0 [0] (L.zaa_ok b0 _ _ _ hx500) ?_)
 rotate_left
 refine AP.act [] I I I (AX.lt 1 (([0, 200, 100000] : List Int).map rI) (AP.act [0] I I I (AX.c0 [0] (L.zaa_ok b0 _ _ _ hx494) ?_)))
 refine AP.act [0] I I I (AX.c0 [0] (L.zaa_ok b0 _ _ _ hx497) ?_)
 refine AP.act [0] I I I (AX.c0 [0] (L.zaa_ok b0 _ _ _ hx500) ?_)
 rotate_left
 refine AP.act [] I I I (AX.lt 1 (([0, 200, 100000] : List Int).map rI) (AP.c I (L.zcs_ok _ _ _ hx491) (AP.act [0] I I I (AX.c0 [0] (L.zaa_ok b0 _ _ _ hx494) ?_))))
 refine AP.act [0] I I I (AX.c0 [0] (L.zaa_ok b0 _ _ _ hx497) ?_)
 refine AP.act [0] I I I (AX.c0 [0] (L.zaa_ok b0 _ _ _ hx500) ?_)
 rotate_left
 refine AP.act [] I I I (AX.lt 1 (([0, 200, 100000] : List Int).map rI) (AP.two ?_ ?_))
 refine AP.c I (L.zcs_ok _ _ _ hx491) (AP.act [] I I I (AX.lt 1 (([500000, 2000000, 0] : List Int).map rI) (AP.act [0] I I I (AX.c0 [0] (L.zaa_ok b0 _ _ _ hx494) ?_))))
 refine AP.act [0] I I I (AX.c0 [0] (L.zaa_ok b0 _ _ _ hx497) ?_)
 refine AP.act [0] I I I (AX.c0 [0] (L.zaa_ok b0 _ _ _ hx500) ?_)
 rotate_left
 refine AP.act [] I I I (AX.lt 1 (([500000, 2000000, 0] : List Int).map rI) (AP.c I (L.zcs_ok _ _ _ hx491) (AP.act [0] I I I (AX.c0 [0] (L.zaa_ok b0 _ _ _ hx494) ?_))))
 refine AP.act [0] I I I (AX.c0 [0] (L.zaa_ok b0 _ _ _ hx497) ?_)
 refine AP.act [0] I I I (AX.c0 [0] (L.zaa_ok b0 _ _ _ hx500) ?_)
 any_goals
  refine AP.p I (Yp.buildP (l := [.v (.string r490), .V st371.2.2.2.2, .V r493.1, .V r496.1, .V r499.1]) Tryz.bld83 I) I (AP.act [] I I I (AX.lt 5 (([(⟨r490, st371.2.2.2.2, r493.1, r496.1, r499.1⟩ : Station)] : List Station).map Station.row) (AP.act [6] I I I (AX.ap 6 I hx503 (fun v504 => (AP.q 1 I (AP.one 6 I (fun v504o => (AP.drop [2] I I I (AX.store 2 0 3 (es' := [[.v v47, .v v136, .v v484, .v v504, .V r5.1, .V r8.1]]) I I I I I I (cells_v v504o) I (le_ble I) I I (AP.ofAO (AO.nil ?_))))))))))))
  exact lg ⟨(r499.2.L_, r499.2.At, j483.2.2, l502), v484, v504, h, I, I⟩ [0, 1, 2, 3, 4, 5, 6]
 intro hc489 h
 refine AW.skip ?_
 exact lg ⟨(j488.1, j488.2.1, j483.2.2, st371.2.2.2.1), v484, v373, h, I, I⟩ [0, 1, 2, 3, 4, 5, 6]
 rintro s ob ⟨j464, v465, v466, h, rfl, rfl⟩
 unfold L.zae.J6 at h
 refine AW.region (AO.q 3 I ?_)
 obtain rfl := oi h
 refine AO.nil ?_
 exact ⟨_, _, _, I, ⟨v465, v466, I, I⟩, ⟨I, I, I, I, I, J⟩, [0, 1, 2, 3, 4, 5, 6], I, by decide⟩
 intro hc424 h
 obtain rfl := hb421 _ (oi h).symm
 replace h := hR420
 refine AW.exit ?_
 exact lg ⟨(st371.1, st371.2.1, st371.2.2.1, st371.2.2.2.1), v372, v373, h, I, I⟩ [0, 1, 2, 3, 4, 5, 6]
 rintro s ob ⟨j276, v277, v278, h, rfl, rfl⟩
 unfold L.zae.J4 at h
 refine AW.seq (AW.region (AO.r 1 [.o 0 2] I ⟨I, J⟩ (AO.act [1] I (AX.store 1 0 0 (es' := [[.v v47, .v v136, .v v277, .v v278, .V r5.1, .V r8.1]]) I I I I I I I I (le_ble I) I I (AO.nil (AW.ghost (Ghost.freeze [3, 4, 5, 6] (K := [.us v47 9 1 (j46.2.2.map rS), .us v136 77 7 (j135.2.2.map Segment.row), .us v277 74 3 (j276.2.2.1.map Port.row), .us v278 83 5 (j276.2.2.2.map Station.row)]) I [(138, .agg [.list 1 (j46.2.2.map rS), .list 7 (j135.2.2.map Segment.row), .list 3 (j276.2.2.1.map Port.row), .list 5 (j276.2.2.2.map Station.row), .V r5.1, .V r8.1])] ⟨⟨_, I, .agg (.cons (.us 0 I) (.cons (.us 1 I) (.cons (.us 2 I) (.cons (.us 3 I) (.rest _)))))⟩, J⟩ (ob' := [.arr b0 106 2 1 [[.list 1 (j276.1.map rI), .V j276.2.1]], .arr b2 27 6 1 [[.list 1 (j46.2.2.map rS), .list 7 (j135.2.2.map Segment.row), .list 3 (j276.2.2.1.map Port.row), .list 5 (j276.2.2.2.map Station.row), .V r5.1, .V r8.1]], .arr b10 27 6 1 [[.list 1 (j46.2.2.map rS), .list 7 (j135.2.2.map Segment.row), .list 3 (j276.2.2.1.map Port.row), .list 5 (j276.2.2.2.map Station.row), .V r5.1, .V r8.1]]]) (.cons (.same _) (.cons (.arr (.cons (.us 0 I) (.cons (.us 1 I) (.cons (.us 2 I) (.cons (.us 3 I) (.rest _)))))) (.cons (.arr (.cons (.us 0 I) (.cons (.us 1 I) (.cons (.us 2 I) (.cons (.us 3 I) (.rest _)))))) (.rest _))))) (AW.ghost (Ghost.pick [0, 1] (K := [.arr b0 106 2 1 [[.list 1 (j276.1.map rI), .V j276.2.1]], .arr b2 27 6 1 [[.list 1 (j46.2.2.map rS), .list 7 (j135.2.2.map Segment.row), .list 3 (j276.2.2.1.map Port.row), .list 5 (j276.2.2.2.map Station.row), .V r5.1, .V r8.1]]]) I (by decide)) ?_)))))))
 obtain rfl := oi h
 exact AW.ret ⟨.inr I, [_], [.arr b0 106 2 1 [[.list 1 (j276.1.map rI), .V j276.2.1]]], ⟨⟨1, _, _, _, _, _, _, _, I, I, I, I, I⟩, J⟩, sl_c I (sl_n), ⟨[.arr b0 106 2 1 [[.list 1 (j276.1.map rI), .V j276.2.1]]], [], I, I, I, I, I⟩⟩
end Go.Proofs.YtehbcbedipkifaaGreatDoor
