/- Pure functions for functions of the program, and walks that show them; printed by a program of ours. No condition. -/
import Derived.Test.YtndfiddakngjdaaL4
namespace Go.Proofs.Ytndfiddakngjdaa
open Go.Aw

set_option maxRecDepth 100000 in
set_option maxHeartbeats 4000000 in
theorem L.keep_Src_Network_ok (b0 : Nat) (s_0 : batchlinekeep_Src) (r : Network × batchlinekeep_Src) (h : L.keep_Src_Network s_0 = some r) : ACalls Try.env 14 [.v (.pointer (some ⟨b0, 0, none⟩))] [.arr b0 90 2 1 [[.list 1 (s_0.L_.map rI), .v (.int .i64 s_0.At)]]] (Gives 1 (fun x os new => x = .agg (Network.row r.1) ∧ os = [.arr b0 90 2 1 [[.list 1 (r.2.L_.map rI), .v (.int .i64 r.2.At)]]] ∧ new = [])) := by
 refine ACalls.of_body Try.func14 rfl rfl rfl (fun C hC => ?_)
 unfold L.keep_Src_Network at h
 refine AW.seqG (fun y1 hy1 => (AW.region (AO.act [] rfl (AX.alloc (cs := [.v (.slice none 0 0), .v (.slice none 0 0), .v (.slice none 0 0), .v (.slice none 0 0), .v (.int .i64 0), .v (.int .i64 0)]) (m := 6) rfl rfl rfl rfl rfl (dst_some rfl) (fun b2 => (AO.nil ?_))))))
 subst hy1
 refine AW.seqG (fun y3 hy3 => ?_)
 obtain ⟨r5, hx6, h⟩ := ob_some h
 obtain ⟨r8, hx9, h⟩ := ob_some h
 refine AW.region (AO.p (Yp.move rfl) rfl (AO.act [] rfl (AX.litF (sz := 1) (es := ([(-100000), 0, 50000] : List Int).map rI) rfl rfl rfl rfl rfl rfl rfl rfl rfl rfl rfl (dst_some rfl) (AO.act [0] rfl (AX.callG [0] rfl rfl rfl rfl (by decide) (L.keep_Src_Pick_ok b0 s_0 ([(-100000), 0, 50000] : List Int) _ hx6) (dst_some rfl) ?_)))))
 rintro _ _ _ - ⟨rfl, rfl, rfl⟩
 refine AO.p (Yp.move rfl) rfl (AO.act [] rfl (AX.litF (sz := 1) (es := ([0, 1, 5, 100] : List Int).map rI) rfl rfl rfl rfl rfl rfl rfl rfl rfl rfl rfl (dst_some rfl) (AO.act [0] rfl (AX.callG [0] rfl rfl rfl rfl (by decide) (L.keep_Src_Pick_ok b0 r5.2 ([0, 1, 5, 100] : List Int) _ hx9) (dst_some rfl) ?_))))
 rintro _ _ _ - ⟨rfl, rfl, rfl⟩
 refine AO.p (Yp.buildP (l := [.v (.slice none 0 0), .v (.slice none 0 0), .v (.slice none 0 0), .v (.slice none 0 0), .v (.int .i64 r5.1), .v (.int .i64 r8.1)]) Try.bld30 rfl) rfl (AO.act [] rfl (AX.alloc (cs := [.v (.slice none 0 0), .v (.slice none 0 0), .v (.slice none 0 0), .v (.slice none 0 0), .v (.int .i64 0), .v (.int .i64 0)]) (m := 6) rfl rfl rfl rfl rfl (dst_some rfl) (fun b10 => (AO.act [2] rfl (AX.store 2 0 0 (es' := [[.v (.slice none 0 0), .v (.slice none 0 0), .v (.slice none 0 0), .v (.slice none 0 0), .v (.int .i64 r5.1), .v (.int .i64 r8.1)]]) rfl rfl rfl rfl rfl rfl rfl rfl (le_ble rfl) rfl rfl (AO.nil ?_))))))
 subst hy3
 refine AW.cutX (fun s ob => ∃ (j46 : (List Int) × Int × (List ByteArray)) (v47 : Value), L.keep_Src_Network.J1 r5 r8 j46 = some r ∧ s = [] ∧ ob = [.arr b0 90 2 1 [[.list 1 (j46.1.map rI), .v (.int .i64 j46.2.1)]], .arr b2 30 6 1 [[.v (.slice none 0 0), .v (.slice none 0 0), .v (.slice none 0 0), .v (.slice none 0 0), .v (.int .i64 0), .v (.int .i64 0)]], .arr b10 30 6 1 [[.v v47, .v (.slice none 0 0), .v (.slice none 0 0), .v (.slice none 0 0), .v (.int .i64 r5.1), .v (.int .i64 r8.1)]], .us v47 9 1 (j46.2.2.map rS)]) [(0, _), (2, _), (3, _)] ⟨rfl, rfl, rfl, trivial⟩ ?_ ?_
 refine AW.seqG (fun y649 hy649 => ?_)
 obtain ⟨r650, hx651, h⟩ := ob_some h
 refine AW.region (AO.p (Yp.move rfl) rfl (AO.act [0] rfl (AX.callG [0] rfl rfl rfl rfl (by decide) (L.keep_Src_Range_ok b0 r8.2 2 6 _ hx651) (dst_some rfl) ?_)))
 rintro _ _ _ - ⟨rfl, rfl, rfl⟩
 refine AO.p (Yp.assign rfl) rfl (AO.nil ?_)
 subst hy649
 refine AW.block (AW.ghost (Ghost.nilU 9 1) ?_)
 obtain ⟨o684, hL685, hR686⟩ := ob_some h
 clear h
 refine AW.loopX hL685 [(0, _), (2, _), (3, _)] ⟨rfl, rfl, rfl, trivial⟩ (fun (st673 : (List ByteArray) × Int) s ob => ∃ (v674 : Value), s = [(4, .v (.int .i64 st673.2))] ∧ ob = [.arr b0 90 2 1 [[.list 1 (r650.2.L_.map rI), .v (.int .i64 r650.2.At)]], .arr b2 30 6 1 [[.v (.slice none 0 0), .v (.slice none 0 0), .v (.slice none 0 0), .v (.slice none 0 0), .v (.int .i64 0), .v (.int .i64 0)]], .arr b10 30 6 1 [[.v v674, .v (.slice none 0 0), .v (.slice none 0 0), .v (.slice none 0 0), .v (.int .i64 r5.1), .v (.int .i64 r8.1)]], .us v674 9 1 (st673.1.map rS)]) ⟨(.slice none 0 0), rfl, rfl⟩ ⟨rfl, trivial⟩ ⟨[0, 1, 2, 3], rfl, by decide⟩ ?_
 rintro st673 r688 s ob ⟨v674, rfl, rfl⟩ h hb687
 unfold L.keep_Src_Network.B12 at h
 refine AW.seqG (fun y689 hy689 => (AW.seq (AW.region (AO.p (Yp.move rfl) rfl (AO.p (Yp.cmpI (c := decide (st673.2 > 0)) rfl rfl rfl) rfl (AO.nil (AW.cond rfl rfl ?_ ?_)))))))
 intro hc690
 replace h := ife_t hc690 h
 refine AW.skip ?_
 subst hy689
 refine AW.seq (AW.block ?_)
 obtain ⟨r691, hx692, h⟩ := ob_some h
 obtain ⟨l694, hx695, h⟩ := ob_some h
 refine AW.formL 3 rfl (fun hf697 => (AW.regionD (.still 0 (.still 1 (.still 2 (.still 3 (.still 4 (.act 5 (.act 6 (.act 7 (.still 8 (.drop 9 .nil)))))))))) [2] [_] (by kernel_rfl) rfl (AP.op rfl (Yp.fieldPtr rfl rfl rfl rfl rfl rfl) rfl (AP.o rfl (Yd.loadO 0 0 0 rfl rfl rfl rfl rfl (y := .v v674) rfl) rfl (AP.op rfl (Yp.fieldPtr rfl rfl rfl rfl rfl rfl) rfl (AP.o rfl (Yd.loadO 0 0 0 rfl rfl rfl rfl rfl (y := .v v674) rfl) rfl (AP.op rfl (Yp.lenUf rfl rfl rfl hf697) rfl ?_)))))))
 refine AP.act [] rfl rfl rfl (AX.callL rfl (.refl _) rfl rfl (.rest _) rfl (L.keep_name_ok (⟨#[110]⟩ : ByteArray) (st673.1.length : Int) _ hx692) (dst_some rfl) (by rintro _ _ ⟨rfl, _⟩; rfl) ?_)
 rintro _ ⟨_, rfl, -⟩
 refine AP.act [] rfl rfl rfl (AX.litF (sz := 1) (es := ([r691] : List ByteArray).map rS) rfl rfl rfl rfl rfl rfl rfl rfl rfl rfl rfl (dst_some rfl) (AP.act [3] rfl rfl rfl (AX.appendU 3 rfl rfl rfl rfl rfl rfl rfl rfl rfl (AppSrc.list rfl) (app_len (app_some hx695).1) (app_map (app_some hx695).2) (dst_some rfl) (fun v696 => (AP.op rfl (Yp.fieldPtr rfl rfl rfl rfl rfl rfl) rfl (AP.one 3 rfl (fun v696o => (AP.drop [2] rfl rfl rfl (AX.store 2 0 0 (es' := [[.v v696, .v (.slice none 0 0), .v (.slice none 0 0), .v (.slice none 0 0), .v (.int .i64 r5.1), .v (.int .i64 r8.1)]]) rfl rfl rfl rfl rfl rfl (cells_v v696o) rfl (le_ble rfl) rfl rfl (AP.ofAO (AO.nil ?_)))))))))))
 refine AW.region (AO.p (Yp.move rfl) rfl (AO.p (Yp.binI (c := wr (st673.2 - 1)) rfl rfl rfl) rfl (AO.p (Yp.assign rfl) rfl ?_)))
 obtain rfl := Option.some.inj h
 refine AO.nil ?_
 exact ⟨_, _, _, rfl, ⟨v696, rfl, rfl⟩, ⟨rfl, rfl, rfl, rfl, trivial⟩, [0, 1, 2, 3], rfl, by decide⟩
 intro hc690
 replace h := ife_f hc690 h
 obtain rfl := hb687 _ (Option.some.inj h).symm
 replace h := hR686
 refine AW.exit ?_
 exact ⟨_, _, ⟨(r650.2.L_, r650.2.At, st673.1), v674, h, rfl, rfl⟩, ⟨rfl, rfl, rfl, trivial⟩, [0, 1, 2, 3], rfl, by decide⟩
 rintro s ob ⟨j46, v47, h, rfl, rfl⟩
 unfold L.keep_Src_Network.J1 at h
 refine AW.seqG (fun y48 hy48 => (AW.region (AO.p (Yp.fieldPtr rfl rfl rfl rfl rfl rfl) rfl (AO.d (Yd.loadO 2 0 0 rfl rfl rfl rfl rfl (y := .v v47) rfl) rfl (AO.d (Yd.lenUM 3 rfl rfl rfl rfl) rfl (AO.p (Yp.binI (c := wr ((j46.2.2.length : Int) - 1)) rfl rfl rfl) rfl (AO.p (Yp.assign rfl) rfl ?_)))))))
 refine AO.nil ?_
 subst hy48
 refine AW.cutX (fun s ob => ∃ (j82 : (List Int) × Int × (List Segment)) (v83 : Value), L.keep_Src_Network.J2 r5 r8 j46 j82 = some r ∧ s = [] ∧ ob = [.arr b0 90 2 1 [[.list 1 (j82.1.map rI), .v (.int .i64 j82.2.1)]], .arr b2 30 6 1 [[.v (.slice none 0 0), .v (.slice none 0 0), .v (.slice none 0 0), .v (.slice none 0 0), .v (.int .i64 0), .v (.int .i64 0)]], .arr b10 30 6 1 [[.v v47, .v v83, .v (.slice none 0 0), .v (.slice none 0 0), .v (.int .i64 r5.1), .v (.int .i64 r8.1)]], .us v47 9 1 (j46.2.2.map rS), .us v83 42 7 (j82.2.2.map Segment.row)]) [(0, _), (2, _), (3, _), (5, _)] ⟨rfl, rfl, rfl, rfl, trivial⟩ ?_ ?_
 refine AW.seqG (fun y601 hy601 => (AW.region (AO.p (Yp.assign rfl) rfl (AO.nil ?_))))
 subst hy601
 refine AW.block (AW.ghost (Ghost.nilU 42 7) ?_)
 obtain ⟨o634, hL635, hR636⟩ := ob_some h
 clear h
 refine AW.loopX hL635 [(0, _), (2, _), (3, _), (5, _)] ⟨rfl, rfl, rfl, rfl, trivial⟩ (fun (st623 : (List Int) × Int × (List Segment) × Int) s ob => ∃ (v624 : Value), s = [(6, .v (.int .i64 st623.2.2.2))] ∧ ob = [.arr b0 90 2 1 [[.list 1 (st623.1.map rI), .v (.int .i64 st623.2.1)]], .arr b2 30 6 1 [[.v (.slice none 0 0), .v (.slice none 0 0), .v (.slice none 0 0), .v (.slice none 0 0), .v (.int .i64 0), .v (.int .i64 0)]], .arr b10 30 6 1 [[.v v47, .v v624, .v (.slice none 0 0), .v (.slice none 0 0), .v (.int .i64 r5.1), .v (.int .i64 r8.1)]], .us v47 9 1 (j46.2.2.map rS), .us v624 42 7 (st623.2.2.1.map Segment.row)]) ⟨(.slice none 0 0), rfl, rfl⟩ ⟨rfl, trivial⟩ ⟨[0, 1, 2, 3, 4], rfl, by decide⟩ ?_
 rintro st623 r638 s ob ⟨v624, rfl, rfl⟩ h hb637
 unfold L.keep_Src_Network.B11 at h
 refine AW.seqG (fun y639 hy639 => (AW.seq (AW.region (AO.p (Yp.move rfl) rfl (AO.p (Yp.move rfl) rfl (AO.p (Yp.cmpI (c := decide (st623.2.2.2 < (wr ((j46.2.2.length : Int) - 1)))) rfl rfl rfl) rfl (AO.nil ?_)))))))
 refine AW.cond rfl rfl ?_ ?_
 intro hc640
 replace h := ife_t hc640 h
 refine AW.skip ?_
 subst hy639
 refine AW.seq (AW.block ?_)
 obtain ⟨r641, hx642, h⟩ := ob_some h
 obtain ⟨l644, hx645, h⟩ := ob_some h
 refine AW.formL 4 rfl (fun hf647 => (AW.regionD (.still 0 (.still 1 (.still 2 (.still 3 (.still 4 (.still 5 (.still 6 (.still 7 (.still 8 (.act 9 (.act 10 (.act 11 (.still 12 (.drop 13 .nil)))))))))))))) [2] [_] (by kernel_rfl) rfl (AP.op rfl (Yp.fieldPtr rfl rfl rfl rfl rfl rfl) rfl (AP.o rfl (Yd.loadO 0 0 1 rfl rfl rfl rfl rfl (y := .v v624) rfl) rfl (AP.op rfl (Yp.move rfl) rfl (AP.op rfl (Yp.fieldPtr rfl rfl rfl rfl rfl rfl) rfl (AP.o rfl (Yd.loadO 0 0 1 rfl rfl rfl rfl rfl (y := .v v624) rfl) rfl ?_)))))))
 refine AP.op rfl (Yp.lenUf rfl rfl rfl hf647) rfl (AP.op rfl (Yp.move rfl) rfl (AP.op rfl (Yp.move rfl) rfl (AP.op rfl (Yp.binI (c := wr (st623.2.2.2 + 1)) rfl rfl rfl) rfl (AP.act [0] rfl rfl rfl (AX.callG [0] rfl rfl rfl rfl (by decide) (L.keep_Src_Segment_ok b0 (⟨st623.1, st623.2.1⟩ : batchlinekeep_Src) (st623.2.2.1.length : Int) st623.2.2.2 (wr (st623.2.2.2 + 1)) _ hx642) (dst_some rfl) ?_)))))
 rintro _ _ _ - ⟨rfl, rfl, rfl⟩
 refine AP.act [] rfl rfl rfl (AX.litF (sz := 7) (es := ([r641.1] : List Segment).map Segment.row) rfl rfl rfl rfl rfl rfl rfl rfl rfl rfl rfl (dst_some rfl) (AP.act [4] rfl rfl rfl (AX.appendU 4 rfl rfl rfl rfl rfl rfl rfl rfl rfl (AppSrc.list rfl) (app_len (app_some hx645).1) (app_map (app_some hx645).2) (dst_some rfl) (fun v646 => (AP.op rfl (Yp.fieldPtr rfl rfl rfl rfl rfl rfl) rfl (AP.one 4 rfl (fun v646o => (AP.drop [2] rfl rfl rfl (AX.store 2 0 1 (es' := [[.v v47, .v v646, .v (.slice none 0 0), .v (.slice none 0 0), .v (.int .i64 r5.1), .v (.int .i64 r8.1)]]) rfl rfl rfl rfl rfl rfl (cells_v v646o) rfl (le_ble rfl) rfl rfl (AP.ofAO (AO.nil ?_)))))))))))
 refine AW.region (AO.p (Yp.move rfl) rfl (AO.p (Yp.binI (c := wr (st623.2.2.2 + 1)) rfl rfl rfl) rfl (AO.p (Yp.assign rfl) rfl ?_)))
 obtain rfl := Option.some.inj h
 refine AO.nil ?_
 exact ⟨_, _, _, rfl, ⟨v646, rfl, rfl⟩, ⟨rfl, rfl, rfl, rfl, rfl, trivial⟩, [0, 1, 2, 3, 4], rfl, by decide⟩
 intro hc640
 replace h := ife_f hc640 h
 obtain rfl := hb637 _ (Option.some.inj h).symm
 replace h := hR636
 refine AW.exit ?_
 exact ⟨_, _, ⟨(st623.1, st623.2.1, st623.2.2.1), v624, h, rfl, rfl⟩, ⟨rfl, rfl, rfl, rfl, trivial⟩, [0, 1, 2, 3, 4], rfl, by decide⟩
 rintro s ob ⟨j82, v83, h, rfl, rfl⟩
 unfold L.keep_Src_Network.J2 at h
 refine AW.cutX (fun s ob => ∃ (j135 : (List Int) × Int × (List Segment)) (v136 : Value), L.keep_Src_Network.J3 r5 r8 j46 j135 = some r ∧ s = [] ∧ ob = [.arr b0 90 2 1 [[.list 1 (j135.1.map rI), .v (.int .i64 j135.2.1)]], .arr b2 30 6 1 [[.v (.slice none 0 0), .v (.slice none 0 0), .v (.slice none 0 0), .v (.slice none 0 0), .v (.int .i64 0), .v (.int .i64 0)]], .arr b10 30 6 1 [[.v v47, .v v136, .v (.slice none 0 0), .v (.slice none 0 0), .v (.int .i64 r5.1), .v (.int .i64 r8.1)]], .us v47 9 1 (j46.2.2.map rS), .us v136 42 7 (j135.2.2.map Segment.row)]) [(0, _), (2, _), (3, _), (5, _)] ⟨rfl, rfl, rfl, rfl, trivial⟩ ?_ ?_
 refine AW.seqG (fun y530 hy530 => ?_)
 obtain ⟨r531, hx532, h⟩ := ob_some h
 refine AW.region (AO.p (Yp.move rfl) rfl (AO.act [0] rfl (AX.callG [0] rfl rfl rfl rfl (by decide) (L.keep_Src_N_ok b0 (⟨j82.1, j82.2.1⟩ : batchlinekeep_Src) 4 _ hx532) (dst_some rfl) ?_)))
 rintro _ _ _ - ⟨rfl, rfl, rfl⟩
 refine AO.p (Yp.assign rfl) rfl (AO.nil ?_)
 subst hy530
 refine AW.block ?_
 obtain ⟨o581, hL582, hR583⟩ := ob_some h
 clear h
 refine AW.loopX hL582 [(0, _), (2, _), (3, _), (5, _)] ⟨rfl, rfl, rfl, rfl, trivial⟩ (fun (st565 : (List Int) × Int × (List Segment) × Int) s ob => ∃ (v566 : Value), s = [(7, .v (.int .i64 st565.2.2.2))] ∧ ob = [.arr b0 90 2 1 [[.list 1 (st565.1.map rI), .v (.int .i64 st565.2.1)]], .arr b2 30 6 1 [[.v (.slice none 0 0), .v (.slice none 0 0), .v (.slice none 0 0), .v (.slice none 0 0), .v (.int .i64 0), .v (.int .i64 0)]], .arr b10 30 6 1 [[.v v47, .v v566, .v (.slice none 0 0), .v (.slice none 0 0), .v (.int .i64 r5.1), .v (.int .i64 r8.1)]], .us v47 9 1 (j46.2.2.map rS), .us v566 42 7 (st565.2.2.1.map Segment.row)]) ⟨v83, rfl, rfl⟩ ⟨rfl, trivial⟩ ⟨[0, 1, 2, 3, 4], rfl, by decide⟩ ?_
 rintro st565 r585 s ob ⟨v566, rfl, rfl⟩ h hb584
 unfold L.keep_Src_Network.B10 at h
 refine AW.seqG (fun y586 hy586 => (AW.seq (AW.region (AO.p (Yp.move rfl) rfl (AO.p (Yp.cmpI (c := decide (st565.2.2.2 > 0)) rfl rfl rfl) rfl (AO.nil (AW.cond rfl rfl ?_ ?_)))))))
 intro hc587
 replace h := ife_t hc587 h
 refine AW.skip ?_
 subst hy586
 refine AW.seq (AW.block (AW.seqG (fun y588 hy588 => ?_)))
 obtain ⟨r589, hx590, h⟩ := ob_some h
 refine AW.region (AO.p (Yp.move rfl) rfl (AO.p (Yp.move rfl) rfl (AO.act [0] rfl (AX.callG [0] rfl rfl rfl rfl (by decide) (L.keep_Src_N_ok b0 (⟨st565.1, st565.2.1⟩ : batchlinekeep_Src) (wr ((j46.2.2.length : Int) - 1)) _ hx590) (dst_some rfl) ?_))))
 rintro _ _ _ - ⟨rfl, rfl, rfl⟩
 refine AO.p (Yp.assign rfl) rfl (AO.nil ?_)
 subst hy588
 obtain ⟨r591, hx592, h⟩ := ob_some h
 obtain ⟨r593, hx594, h⟩ := ob_some h
 obtain ⟨l596, hx597, h⟩ := ob_some h
 refine AW.formL 4 rfl (fun hf599 => (AW.regionD (.still 0 (.still 1 (.still 2 (.still 3 (.still 4 (.still 5 (.still 6 (.still 7 (.still 8 (.still 9 (.still 10 (.act 11 (.act 12 (.act 13 (.act 14 (.still 15 (.drop 16 .nil))))))))))))))))) [2] [_] (by kernel_rfl) rfl (AP.op rfl (Yp.fieldPtr rfl rfl rfl rfl rfl rfl) rfl (AP.o rfl (Yd.loadO 0 0 1 rfl rfl rfl rfl rfl (y := .v v566) rfl) rfl (AP.op rfl (Yp.move rfl) rfl (AP.op rfl (Yp.fieldPtr rfl rfl rfl rfl rfl rfl) rfl (AP.o rfl (Yd.loadO 0 0 1 rfl rfl rfl rfl rfl (y := .v v566) rfl) rfl ?_)))))))
 refine AP.op rfl (Yp.lenUf rfl rfl rfl hf599) rfl (AP.op rfl (Yp.move rfl) rfl (AP.op rfl (Yp.move rfl) rfl (AP.op rfl (Yp.move rfl) rfl (AP.op rfl (Yp.binI (c := wr (r589.1 + 1)) rfl rfl rfl) rfl (AP.op rfl (Yp.move rfl) rfl (AP.act [0] rfl rfl rfl (AX.callG [0] rfl rfl rfl rfl (by decide) (L.keep_Src_Range_ok b0 r589.2 (wr (r589.1 + 1)) (wr ((j46.2.2.length : Int) - 1)) _ hx592) (dst_some rfl) ?_)))))))
 rintro _ _ _ - ⟨rfl, rfl, rfl⟩
 refine AP.act [0] rfl rfl rfl (AX.callG [0] rfl rfl rfl rfl (by decide) (L.keep_Src_Segment_ok b0 r591.2 (st565.2.2.1.length : Int) r589.1 r591.1 _ hx594) (dst_some rfl) ?_)
 rintro _ _ _ - ⟨rfl, rfl, rfl⟩
 refine AP.act [] rfl rfl rfl (AX.litF (sz := 7) (es := ([r593.1] : List Segment).map Segment.row) rfl rfl rfl rfl rfl rfl rfl rfl rfl rfl rfl (dst_some rfl) (AP.act [4] rfl rfl rfl (AX.appendU 4 rfl rfl rfl rfl rfl rfl rfl rfl rfl (AppSrc.list rfl) (app_len (app_some hx597).1) (app_map (app_some hx597).2) (dst_some rfl) (fun v598 => (AP.op rfl (Yp.fieldPtr rfl rfl rfl rfl rfl rfl) rfl (AP.one 4 rfl (fun v598o => (AP.drop [2] rfl rfl rfl (AX.store 2 0 1 (es' := [[.v v47, .v v598, .v (.slice none 0 0), .v (.slice none 0 0), .v (.int .i64 r5.1), .v (.int .i64 r8.1)]]) rfl rfl rfl rfl rfl rfl (cells_v v598o) rfl (le_ble rfl) rfl rfl (AP.ofAO (AO.nil ?_)))))))))))
 refine AW.region (AO.p (Yp.move rfl) rfl (AO.p (Yp.binI (c := wr (st565.2.2.2 - 1)) rfl rfl rfl) rfl (AO.p (Yp.assign rfl) rfl ?_)))
 obtain rfl := Option.some.inj h
 refine AO.nil ?_
 exact ⟨_, _, _, rfl, ⟨v598, rfl, rfl⟩, ⟨rfl, rfl, rfl, rfl, rfl, trivial⟩, [0, 1, 2, 3, 4], rfl, by decide⟩
 intro hc587
 replace h := ife_f hc587 h
 obtain rfl := hb584 _ (Option.some.inj h).symm
 replace h := hR583
 refine AW.exit ?_
 exact ⟨_, _, ⟨(st565.1, st565.2.1, st565.2.2.1), v566, h, rfl, rfl⟩, ⟨rfl, rfl, rfl, rfl, trivial⟩, [0, 1, 2, 3, 4], rfl, by decide⟩
 rintro s ob ⟨j135, v136, h, rfl, rfl⟩
 unfold L.keep_Src_Network.J3 at h
 refine AW.cutX (fun s ob => ∃ (j276 : (List Int) × Int × (List Port) × (List Station)) (v277 : Value) (v278 : Value), L.keep_Src_Network.J4 r5 r8 j46 j135 j276 = some r ∧ s = [] ∧ ob = [.arr b0 90 2 1 [[.list 1 (j276.1.map rI), .v (.int .i64 j276.2.1)]], .arr b2 30 6 1 [[.v (.slice none 0 0), .v (.slice none 0 0), .v (.slice none 0 0), .v (.slice none 0 0), .v (.int .i64 0), .v (.int .i64 0)]], .arr b10 30 6 1 [[.v v47, .v v136, .v v277, .v v278, .v (.int .i64 r5.1), .v (.int .i64 r8.1)]], .us v47 9 1 (j46.2.2.map rS), .us v136 42 7 (j135.2.2.map Segment.row), .us v277 95 3 (j276.2.2.1.map Port.row), .us v278 97 5 (j276.2.2.2.map Station.row)]) [(2, _), (3, _)] ⟨rfl, rfl, trivial⟩ ?_ ?_
 refine AW.seqG (fun y279 hy279 => (AW.region (AO.p (Yp.assign rfl) rfl (AO.nil ?_))))
 subst hy279
 refine AW.block (AW.ghost (Ghost.nilU 95 3) (AW.ghost (Ghost.nilU 97 5) ?_))
 obtain ⟨o418, hL419, hR420⟩ := ob_some h
 clear h
 refine AW.loopX hL419 [(0, _), (2, _), (3, _), (5, _)] ⟨rfl, rfl, rfl, rfl, trivial⟩ (fun (st371 : (List Int) × Int × (List Port) × (List Station) × Int) s ob => ∃ (v372 : Value) (v373 : Value), s = [(9, .v (.int .i64 st371.2.2.2.2))] ∧ ob = [.arr b0 90 2 1 [[.list 1 (st371.1.map rI), .v (.int .i64 st371.2.1)]], .arr b2 30 6 1 [[.v (.slice none 0 0), .v (.slice none 0 0), .v (.slice none 0 0), .v (.slice none 0 0), .v (.int .i64 0), .v (.int .i64 0)]], .arr b10 30 6 1 [[.v v47, .v v136, .v v372, .v v373, .v (.int .i64 r5.1), .v (.int .i64 r8.1)]], .us v47 9 1 (j46.2.2.map rS), .us v136 42 7 (j135.2.2.map Segment.row), .us v372 95 3 (st371.2.2.1.map Port.row), .us v373 97 5 (st371.2.2.2.1.map Station.row)]) ⟨(.slice none 0 0), (.slice none 0 0), rfl, rfl⟩ ⟨rfl, trivial⟩ ⟨[0, 1, 2, 3, 4, 5, 6], rfl, by decide⟩ ?_
 rintro st371 r422 s ob ⟨v372, v373, rfl, rfl⟩ h hb421
 unfold L.keep_Src_Network.B5 at h
 refine AW.seqG (fun y423 hy423 => (AW.seq (AW.region (AO.p (Yp.move rfl) rfl (AO.p (Yp.move rfl) rfl (AO.p (Yp.cmpI (c := decide (st371.2.2.2.2 ≤ (wr ((j46.2.2.length : Int) - 1)))) rfl rfl rfl) rfl (AO.nil ?_)))))))
 refine AW.cond rfl rfl ?_ ?_
 intro hc424
 replace h := ife_t hc424 h
 refine AW.skip ?_
 subst hy423
 refine AW.cutX (fun s ob => ∃ (j464 : (List Int) × Int × (List Port) × (List Station)) (v465 : Value) (v466 : Value), L.keep_Src_Network.J6 st371 j464 = some r422 ∧ s = [] ∧ ob = [.arr b0 90 2 1 [[.list 1 (j464.1.map rI), .v (.int .i64 j464.2.1)]], .arr b2 30 6 1 [[.v (.slice none 0 0), .v (.slice none 0 0), .v (.slice none 0 0), .v (.slice none 0 0), .v (.int .i64 0), .v (.int .i64 0)]], .arr b10 30 6 1 [[.v v47, .v v136, .v v465, .v v466, .v (.int .i64 r5.1), .v (.int .i64 r8.1)]], .us v47 9 1 (j46.2.2.map rS), .us v136 42 7 (j135.2.2.map Segment.row), .us v465 95 3 (j464.2.2.1.map Port.row), .us v466 97 5 (j464.2.2.2.map Station.row)]) [(0, _), (2, _), (3, _), (5, _), (9, _)] ⟨rfl, rfl, rfl, rfl, rfl, trivial⟩ ?_ ?_
 refine AW.block (AW.cutX (fun s ob => ∃ (j483 : (List Int) × Int × (List Port)) (v484 : Value), L.keep_Src_Network.J7 j46 st371 j483 = some r422 ∧ s = [] ∧ ob = [.arr b0 90 2 1 [[.list 1 (j483.1.map rI), .v (.int .i64 j483.2.1)]], .arr b2 30 6 1 [[.v (.slice none 0 0), .v (.slice none 0 0), .v (.slice none 0 0), .v (.slice none 0 0), .v (.int .i64 0), .v (.int .i64 0)]], .arr b10 30 6 1 [[.v v47, .v v136, .v v484, .v v373, .v (.int .i64 r5.1), .v (.int .i64 r8.1)]], .us v47 9 1 (j46.2.2.map rS), .us v136 42 7 (j135.2.2.map Segment.row), .us v484 95 3 (j483.2.2.map Port.row), .us v373 97 5 (st371.2.2.2.1.map Station.row)]) [(0, _), (2, _), (3, _), (5, _), (9, _)] ⟨rfl, rfl, rfl, rfl, rfl, trivial⟩ ?_ ?_)
 refine AW.cutX (fun s ob => ∃ (j513 : (List Int) × Int × Bool), L.keep_Src_Network.J9 j46 st371 j513 = some r422 ∧ s = [(95, .v (.bool j513.2.2))] ∧ ob = [.arr b0 90 2 1 [[.list 1 (j513.1.map rI), .v (.int .i64 j513.2.1)]], .arr b2 30 6 1 [[.v (.slice none 0 0), .v (.slice none 0 0), .v (.slice none 0 0), .v (.slice none 0 0), .v (.int .i64 0), .v (.int .i64 0)]], .arr b10 30 6 1 [[.v v47, .v v136, .v v372, .v v373, .v (.int .i64 r5.1), .v (.int .i64 r8.1)]], .us v47 9 1 (j46.2.2.map rS), .us v136 42 7 (j135.2.2.map Segment.row), .us v372 95 3 (st371.2.2.1.map Port.row), .us v373 97 5 (st371.2.2.2.1.map Station.row)]) [(0, _), (2, _), (3, _), (5, _), (9, _)] ⟨rfl, rfl, rfl, rfl, rfl, trivial⟩ ?_ ?_
 rcases Bool.eq_false_or_eq_true ((st371.2.2.2.2 == 0)) with hg525 | hg525
 replace h := ife_t hg525 h
 refine AW.region (AO.p (Yp.move rfl) rfl (AO.p (Yp.cmpI (c := (st371.2.2.2.2 == 0)) rfl rfl rfl) rfl (AO.p (Yp.move rfl) rfl (AO.known 86 rfl hg525 (AO.g rfl rfl (dst_some rfl) (fun h => absurd h (by decide)) (fun _ => (AO.g rfl rfl (dst_some rfl) (fun h => absurd h (by decide)) (fun _ => ?_))))))))
 refine AO.g rfl rfl (dst_some rfl) (fun h => absurd h (by decide)) (fun _ => (AO.p (Yp.pickT rfl rfl) rfl (AO.p (Yp.move rfl) rfl (AO.g rfl rfl (dst_some rfl) (fun h => absurd h (by decide)) (fun _ => (AO.g rfl rfl (dst_some rfl) (fun h => absurd h (by decide)) (fun _ => (AO.g rfl rfl (dst_some rfl) (fun h => absurd h (by decide)) (fun _ => (AO.p (Yp.pickT rfl rfl) rfl ?_))))))))))
 refine AO.nil ?_
 exact ⟨_, _, ⟨(st371.1, st371.2.1, true), h, rfl, rfl⟩, ⟨rfl, rfl, rfl, rfl, rfl, rfl, trivial⟩, [0, 1, 2, 3, 4, 5, 6], rfl, by decide⟩
 replace h := ife_f hg525 h
 rcases Bool.eq_false_or_eq_true ((st371.2.2.2.2 == (wr ((j46.2.2.length : Int) - 1)))) with hg526 | hg526
 replace h := ife_t hg526 h
 refine AW.region (AO.p (Yp.move rfl) rfl (AO.p (Yp.cmpI (c := (st371.2.2.2.2 == 0)) rfl rfl rfl) rfl (AO.p (Yp.move rfl) rfl (AO.known 86 rfl hg525 (AO.g rfl rfl (dst_some rfl) (fun _ => ?_) (fun h => absurd h (by decide)))))))
 refine AO.p (Yp.move rfl) rfl (AO.g rfl rfl (dst_some rfl) (fun _ => ?_) (fun h => absurd h (by decide)))
 refine AO.p (Yp.move rfl) rfl (AO.g rfl rfl (dst_some rfl) (fun _ => ?_) (fun h => absurd h (by decide)))
 refine AO.p (Yp.cmpI (c := (st371.2.2.2.2 == (wr ((j46.2.2.length : Int) - 1)))) rfl rfl rfl) rfl (AO.p (Yp.pickF rfl rfl) rfl (AO.p (Yp.move rfl) rfl (AO.known 91 rfl hg526 (AO.g rfl rfl (dst_some rfl) (fun h => absurd h (by decide)) (fun _ => (AO.g rfl rfl (dst_some rfl) (fun h => absurd h (by decide)) (fun _ => (AO.g rfl rfl (dst_some rfl) (fun h => absurd h (by decide)) (fun _ => ?_)))))))))
 refine AO.p (Yp.pickT rfl rfl) rfl (AO.nil ?_)
 exact ⟨_, _, ⟨(st371.1, st371.2.1, true), h, rfl, rfl⟩, ⟨rfl, rfl, rfl, rfl, rfl, rfl, trivial⟩, [0, 1, 2, 3, 4, 5, 6], rfl, by decide⟩
 replace h := ife_f hg526 h
 obtain ⟨r527, hx528, h⟩ := ob_some h
 refine AW.region (AO.p (Yp.move rfl) rfl (AO.p (Yp.cmpI (c := (st371.2.2.2.2 == 0)) rfl rfl rfl) rfl (AO.p (Yp.move rfl) rfl (AO.known 86 rfl hg525 (AO.g rfl rfl (dst_some rfl) (fun _ => ?_) (fun h => absurd h (by decide)))))))
 refine AO.p (Yp.move rfl) rfl (AO.g rfl rfl (dst_some rfl) (fun _ => ?_) (fun h => absurd h (by decide)))
 refine AO.p (Yp.move rfl) rfl (AO.g rfl rfl (dst_some rfl) (fun _ => ?_) (fun h => absurd h (by decide)))
 refine AO.p (Yp.cmpI (c := (st371.2.2.2.2 == (wr ((j46.2.2.length : Int) - 1)))) rfl rfl rfl) rfl (AO.p (Yp.pickF rfl rfl) rfl (AO.p (Yp.move rfl) rfl (AO.known 91 rfl hg526 (AO.g rfl rfl (dst_some rfl) (fun _ => ?_) (fun h => absurd h (by decide))))))
 refine AO.p (Yp.move rfl) rfl (AO.g rfl rfl (dst_some rfl) (fun _ => ?_) (fun h => absurd h (by decide)))
 refine AO.act [0] rfl (AX.callG [0] rfl rfl rfl rfl (by decide) (L.keep_Src_N_ok b0 (⟨st371.1, st371.2.1⟩ : batchlinekeep_Src) 2 _ hx528) (dst_some rfl) ?_)
 rintro _ _ _ - ⟨rfl, rfl, rfl⟩
 refine AO.g rfl rfl (dst_some rfl) (fun _ => ?_) (fun h => absurd h (by decide))
 refine AO.p (Yp.cmpI (c := (r527.1 == 0)) rfl rfl rfl) rfl (AO.p (Yp.pickF rfl rfl) rfl (AO.nil ?_))
 exact ⟨_, _, ⟨(r527.2.L_, r527.2.At, (r527.1 == 0)), h, rfl, rfl⟩, ⟨rfl, rfl, rfl, rfl, rfl, rfl, trivial⟩, [0, 1, 2, 3, 4, 5, 6], rfl, by decide⟩
 rintro s ob ⟨j513, h, rfl, rfl⟩
 unfold L.keep_Src_Network.J9 at h
 refine AW.cond rfl rfl ?_ ?_
 intro hc514
 replace h := ife_t hc514 h
 obtain ⟨r515, hx516, h⟩ := ob_some h
 obtain ⟨r518, hx519, h⟩ := ob_some h
 obtain ⟨l521, hx522, h⟩ := ob_some h
 refine AW.formL 5 rfl (fun hf524 => (AW.regionD (.still 0 (.still 1 (.still 2 (.still 3 (.still 4 (.still 6 (.still 7 (.two 5 8 (.act 8 (.act 9 (.still 10 (.act 11 (.act 12 (.still 13 (.drop 14 .nil))))))) (.act 5 (.act 9 (.still 10 (.act 11 (.act 12 (.still 13 (.drop 14 .nil))))))))))))))) [2] [_] (by kernel_rfl) rfl (AP.op rfl (Yp.fieldPtr rfl rfl rfl rfl rfl rfl) rfl (AP.o rfl (Yd.loadO 0 0 2 rfl rfl rfl rfl rfl (y := .v v372) rfl) rfl (AP.op rfl (Yp.fieldPtr rfl rfl rfl rfl rfl rfl) rfl (AP.o rfl (Yd.loadO 0 0 2 rfl rfl rfl rfl rfl (y := .v v372) rfl) rfl (AP.op rfl (Yp.lenUf rfl rfl rfl hf524) rfl ?_)))))))
 refine AP.op rfl (Yp.move rfl) rfl (AP.op rfl (Yp.move rfl) rfl (AP.two ?_ ?_))
 refine AP.act [] rfl rfl rfl (AX.callL rfl (.refl _) rfl rfl (.rest _) rfl (L.keep_name_ok (⟨#[113]⟩ : ByteArray) (st371.2.2.1.length : Int) _ hx516) (dst_some rfl) (by rintro _ _ ⟨rfl, _⟩; rfl) ?_)
 rintro _ ⟨_, rfl, -⟩
 refine AP.act [] rfl rfl rfl (AX.litF (sz := 1) (es := ([300000, 1000000, 0, 5000000] : List Int).map rI) rfl rfl rfl rfl rfl rfl rfl rfl rfl rfl rfl (dst_some rfl) (AP.act [0] rfl rfl rfl (AX.callG [0] rfl rfl rfl rfl (by decide) (L.keep_Src_Pick_ok b0 (⟨j513.1, j513.2.1⟩ : batchlinekeep_Src) ([300000, 1000000, 0, 5000000] : List Int) _ hx519) (dst_some rfl) ?_)))
 rintro _ _ _ - ⟨rfl, rfl, rfl⟩
 refine AP.p rfl (Yp.buildP (l := [.v (.string r515), .v (.int .i64 st371.2.2.2.2), .v (.int .i64 r518.1)]) Try.bld95 rfl) rfl (AP.act [] rfl rfl rfl (AX.litF (sz := 3) (es := ([(⟨r515, st371.2.2.2.2, r518.1⟩ : Port)] : List Port).map Port.row) rfl rfl rfl rfl rfl rfl rfl rfl rfl rfl rfl (dst_some rfl) (AP.act [5] rfl rfl rfl (AX.appendU 5 rfl rfl rfl rfl rfl rfl rfl rfl rfl (AppSrc.list rfl) (app_len (app_some hx522).1) (app_map (app_some hx522).2) (dst_some rfl) (fun v523 => (AP.op rfl (Yp.fieldPtr rfl rfl rfl rfl rfl rfl) rfl (AP.one 5 rfl (fun v523o => (AP.drop [2] rfl rfl rfl (AX.store 2 0 2 (es' := [[.v v47, .v v136, .v v523, .v v373, .v (.int .i64 r5.1), .v (.int .i64 r8.1)]]) rfl rfl rfl rfl rfl rfl (cells_v v523o) rfl (le_ble rfl) rfl rfl (AP.ofAO ?_)))))))))))
 refine AO.nil ?_
 exact ⟨_, _, ⟨(r518.2.L_, r518.2.At, l521), v523, h, rfl, rfl⟩, ⟨rfl, rfl, rfl, rfl, rfl, trivial⟩, [0, 1, 2, 3, 4, 5, 6], rfl, by decide⟩
 refine AP.act [] rfl rfl rfl (AX.litF (sz := 1) (es := ([300000, 1000000, 0, 5000000] : List Int).map rI) rfl rfl rfl rfl rfl rfl rfl rfl rfl rfl rfl (dst_some rfl) (AP.act [] rfl rfl rfl (AX.callL rfl (.refl _) rfl rfl (.rest _) rfl (L.keep_name_ok (⟨#[113]⟩ : ByteArray) (st371.2.2.1.length : Int) _ hx516) (dst_some rfl) (by rintro _ _ ⟨rfl, _⟩; rfl) ?_)))
 rintro _ ⟨_, rfl, -⟩
 refine AP.act [0] rfl rfl rfl (AX.callG [0] rfl rfl rfl rfl (by decide) (L.keep_Src_Pick_ok b0 (⟨j513.1, j513.2.1⟩ : batchlinekeep_Src) ([300000, 1000000, 0, 5000000] : List Int) _ hx519) (dst_some rfl) ?_)
 rintro _ _ _ - ⟨rfl, rfl, rfl⟩
 refine AP.p rfl (Yp.buildP (l := [.v (.string r515), .v (.int .i64 st371.2.2.2.2), .v (.int .i64 r518.1)]) Try.bld95 rfl) rfl (AP.act [] rfl rfl rfl (AX.litF (sz := 3) (es := ([(⟨r515, st371.2.2.2.2, r518.1⟩ : Port)] : List Port).map Port.row) rfl rfl rfl rfl rfl rfl rfl rfl rfl rfl rfl (dst_some rfl) (AP.act [5] rfl rfl rfl (AX.appendU 5 rfl rfl rfl rfl rfl rfl rfl rfl rfl (AppSrc.list rfl) (app_len (app_some hx522).1) (app_map (app_some hx522).2) (dst_some rfl) (fun v523 => (AP.op rfl (Yp.fieldPtr rfl rfl rfl rfl rfl rfl) rfl (AP.one 5 rfl (fun v523o => (AP.drop [2] rfl rfl rfl (AX.store 2 0 2 (es' := [[.v v47, .v v136, .v v523, .v v373, .v (.int .i64 r5.1), .v (.int .i64 r8.1)]]) rfl rfl rfl rfl rfl rfl (cells_v v523o) rfl (le_ble rfl) rfl rfl (AP.ofAO ?_)))))))))))
 refine AO.nil ?_
 exact ⟨_, _, ⟨(r518.2.L_, r518.2.At, l521), v523, h, rfl, rfl⟩, ⟨rfl, rfl, rfl, rfl, rfl, trivial⟩, [0, 1, 2, 3, 4, 5, 6], rfl, by decide⟩
 intro hc514
 replace h := ife_f hc514 h
 refine AW.skip ?_
 exact ⟨_, _, ⟨(j513.1, j513.2.1, st371.2.2.1), v372, h, rfl, rfl⟩, ⟨rfl, rfl, rfl, rfl, rfl, trivial⟩, [0, 1, 2, 3, 4, 5, 6], rfl, by decide⟩
 rintro s ob ⟨j483, v484, h, rfl, rfl⟩
 unfold L.keep_Src_Network.J7 at h
 refine AW.cutX (fun s ob => ∃ (j488 : (List Int) × Int × Bool), L.keep_Src_Network.J8 st371 j483 j488 = some r422 ∧ s = [(117, .v (.bool j488.2.2))] ∧ ob = [.arr b0 90 2 1 [[.list 1 (j488.1.map rI), .v (.int .i64 j488.2.1)]], .arr b2 30 6 1 [[.v (.slice none 0 0), .v (.slice none 0 0), .v (.slice none 0 0), .v (.slice none 0 0), .v (.int .i64 0), .v (.int .i64 0)]], .arr b10 30 6 1 [[.v v47, .v v136, .v v484, .v v373, .v (.int .i64 r5.1), .v (.int .i64 r8.1)]], .us v47 9 1 (j46.2.2.map rS), .us v136 42 7 (j135.2.2.map Segment.row), .us v484 95 3 (j483.2.2.map Port.row), .us v373 97 5 (st371.2.2.2.1.map Station.row)]) [(0, _), (2, _), (3, _), (5, _), (9, _)] ⟨rfl, rfl, rfl, rfl, rfl, trivial⟩ ?_ ?_
 rcases Bool.eq_false_or_eq_true (decide (st371.2.2.2.2 < (wr ((j46.2.2.length : Int) - 1)))) with hg506 | hg506
 replace h := ife_t hg506 h
 obtain ⟨r507, hx508, h⟩ := ob_some h
 refine AW.region (AO.p (Yp.move rfl) rfl (AO.p (Yp.move rfl) rfl (AO.p (Yp.cmpI (c := decide (st371.2.2.2.2 < (wr ((j46.2.2.length : Int) - 1)))) rfl rfl rfl) rfl (AO.p (Yp.move rfl) rfl (AO.known 113 rfl hg506 (AO.g rfl rfl (dst_some rfl) (fun _ => ?_) (fun h => absurd h (by decide))))))))
 refine AO.p (Yp.move rfl) rfl (AO.g rfl rfl (dst_some rfl) (fun _ => ?_) (fun h => absurd h (by decide)))
 refine AO.act [0] rfl (AX.callG [0] rfl rfl rfl rfl (by decide) (L.keep_Src_N_ok b0 (⟨j483.1, j483.2.1⟩ : batchlinekeep_Src) 3 _ hx508) (dst_some rfl) ?_)
 rintro _ _ _ - ⟨rfl, rfl, rfl⟩
 refine AO.g rfl rfl (dst_some rfl) (fun _ => ?_) (fun h => absurd h (by decide))
 refine AO.p (Yp.cmpI (c := (r507.1 == 0)) rfl rfl rfl) rfl (AO.p (Yp.pickT rfl rfl) rfl (AO.nil ?_))
 exact ⟨_, _, ⟨(r507.2.L_, r507.2.At, (r507.1 == 0)), h, rfl, rfl⟩, ⟨rfl, rfl, rfl, rfl, rfl, rfl, trivial⟩, [0, 1, 2, 3, 4, 5, 6], rfl, by decide⟩
 replace h := ife_f hg506 h
 refine AW.region (AO.p (Yp.move rfl) rfl (AO.p (Yp.move rfl) rfl (AO.p (Yp.cmpI (c := decide (st371.2.2.2.2 < (wr ((j46.2.2.length : Int) - 1)))) rfl rfl rfl) rfl (AO.p (Yp.move rfl) rfl (AO.known 113 rfl hg506 (AO.g rfl rfl (dst_some rfl) (fun h => absurd h (by decide)) (fun _ => ?_)))))))
 refine AO.g rfl rfl (dst_some rfl) (fun h => absurd h (by decide)) (fun _ => (AO.g rfl rfl (dst_some rfl) (fun h => absurd h (by decide)) (fun _ => (AO.p (Yp.pickF rfl rfl) rfl (AO.nil ?_)))))
 exact ⟨_, _, ⟨(j483.1, j483.2.1, false), h, rfl, rfl⟩, ⟨rfl, rfl, rfl, rfl, rfl, rfl, trivial⟩, [0, 1, 2, 3, 4, 5, 6], rfl, by decide⟩
 rintro s ob ⟨j488, h, rfl, rfl⟩
 unfold L.keep_Src_Network.J8 at h
 refine AW.cond rfl rfl ?_ ?_
 intro hc489
 replace h := ife_t hc489 h
 obtain ⟨r490, hx491, h⟩ := ob_some h
 obtain ⟨r493, hx494, h⟩ := ob_some h
 obtain ⟨r496, hx497, h⟩ := ob_some h
 obtain ⟨r499, hx500, h⟩ := ob_some h
 obtain ⟨l502, hx503, h⟩ := ob_some h
 refine AW.formL 6 rfl (fun hf505 => (AW.regionD (.still 0 (.still 1 (.still 2 (.still 3 (.still 4 (.still 6 (.still 7 (.still 10 (.still 13 (.four 5 8 11 14 (.three 8 11 14 (.three 9 11 14 (.two 11 14 (.two 12 14 (.act 14 (.act 15 (.still 16 (.act 17 (.act 18 (.still 19 (.drop 20 .nil))))))) (.act 12 (.act 15 (.still 16 (.act 17 (.act 18 (.still 19 (.drop 20 .nil)))))))) (.act 11 (.act 12 (.act 15 (.still 16 (.act 17 (.act 18 (.still 19 (.drop 20 .nil))))))))) (.two 9 14 (.two 12 14 (.act 14 (.act 15 (.still 16 (.act 17 (.act 18 (.still 19 (.drop 20 .nil))))))) (.act 12 (.act 15 (.still 16 (.act 17 (.act 18 (.still 19 (.drop 20 .nil)))))))) (.act 9 (.act 12 (.act 15 (.still 16 (.act 17 (.act 18 (.still 19 (.drop 20 .nil))))))))) (.two 9 11 (.act 11 (.act 12 (.act 15 (.still 16 (.act 17 (.act 18 (.still 19 (.drop 20 .nil)))))))) (.act 9 (.act 12 (.act 15 (.still 16 (.act 17 (.act 18 (.still 19 (.drop 20 .nil)))))))))) (.two 8 14 (.two 9 14 (.two 12 14 (.act 14 (.act 15 (.still 16 (.act 17 (.act 18 (.still 19 (.drop 20 .nil))))))) (.act 12 (.act 15 (.still 16 (.act 17 (.act 18 (.still 19 (.drop 20 .nil)))))))) (.act 9 (.act 12 (.act 15 (.still 16 (.act 17 (.act 18 (.still 19 (.drop 20 .nil))))))))) (.act 8 (.act 9 (.act 12 (.act 15 (.still 16 (.act 17 (.act 18 (.still 19 (.drop 20 .nil)))))))))) (.two 8 11 (.two 9 11 (.act 11 (.act 12 (.act 15 (.still 16 (.act 17 (.act 18 (.still 19 (.drop 20 .nil)))))))) (.act 9 (.act 12 (.act 15 (.still 16 (.act 17 (.act 18 (.still 19 (.drop 20 .nil))))))))) (.act 8 (.act 9 (.act 12 (.act 15 (.still 16 (.act 17 (.act 18 (.still 19 (.drop 20 .nil))))))))))) (.three 5 11 14 (.three 9 11 14 (.two 11 14 (.two 12 14 (.act 14 (.act 15 (.still 16 (.act 17 (.act 18 (.still 19 (.drop 20 .nil))))))) (.act 12 (.act 15 (.still 16 (.act 17 (.act 18 (.still 19 (.drop 20 .nil)))))))) (.act 11 (.act 12 (.act 15 (.still 16 (.act 17 (.act 18 (.still 19 (.drop 20 .nil))))))))) (.two 9 14 (.two 12 14 (.act 14 (.act 15 (.still 16 (.act 17 (.act 18 (.still 19 (.drop 20 .nil))))))) (.act 12 (.act 15 (.still 16 (.act 17 (.act 18 (.still 19 (.drop 20 .nil)))))))) (.act 9 (.act 12 (.act 15 (.still 16 (.act 17 (.act 18 (.still 19 (.drop 20 .nil))))))))) (.two 9 11 (.act 11 (.act 12 (.act 15 (.still 16 (.act 17 (.act 18 (.still 19 (.drop 20 .nil)))))))) (.act 9 (.act 12 (.act 15 (.still 16 (.act 17 (.act 18 (.still 19 (.drop 20 .nil)))))))))) (.two 5 14 (.two 9 14 (.two 12 14 (.act 14 (.act 15 (.still 16 (.act 17 (.act 18 (.still 19 (.drop 20 .nil))))))) (.act 12 (.act 15 (.still 16 (.act 17 (.act 18 (.still 19 (.drop 20 .nil)))))))) (.act 9 (.act 12 (.act 15 (.still 16 (.act 17 (.act 18 (.still 19 (.drop 20 .nil))))))))) (.act 5 (.act 9 (.act 12 (.act 15 (.still 16 (.act 17 (.act 18 (.still 19 (.drop 20 .nil)))))))))) (.two 5 11 (.two 9 11 (.act 11 (.act 12 (.act 15 (.still 16 (.act 17 (.act 18 (.still 19 (.drop 20 .nil)))))))) (.act 9 (.act 12 (.act 15 (.still 16 (.act 17 (.act 18 (.still 19 (.drop 20 .nil))))))))) (.act 5 (.act 9 (.act 12 (.act 15 (.still 16 (.act 17 (.act 18 (.still 19 (.drop 20 .nil))))))))))) (.three 5 8 14 (.two 8 14 (.two 9 14 (.two 12 14 (.act 14 (.act 15 (.still 16 (.act 17 (.act 18 (.still 19 (.drop 20 .nil))))))) (.act 12 (.act 15 (.still 16 (.act 17 (.act 18 (.still 19 (.drop 20 .nil)))))))) (.act 9 (.act 12 (.act 15 (.still 16 (.act 17 (.act 18 (.still 19 (.drop 20 .nil))))))))) (.act 8 (.act 9 (.act 12 (.act 15 (.still 16 (.act 17 (.act 18 (.still 19 (.drop 20 .nil)))))))))) (.two 5 14 (.two 9 14 (.two 12 14 (.act 14 (.act 15 (.still 16 (.act 17 (.act 18 (.still 19 (.drop 20 .nil))))))) (.act 12 (.act 15 (.still 16 (.act 17 (.act 18 (.still 19 (.drop 20 .nil)))))))) (.act 9 (.act 12 (.act 15 (.still 16 (.act 17 (.act 18 (.still 19 (.drop 20 .nil))))))))) (.act 5 (.act 9 (.act 12 (.act 15 (.still 16 (.act 17 (.act 18 (.still 19 (.drop 20 .nil)))))))))) (.two 5 8 (.act 8 (.act 9 (.act 12 (.act 15 (.still 16 (.act 17 (.act 18 (.still 19 (.drop 20 .nil))))))))) (.act 5 (.act 9 (.act 12 (.act 15 (.still 16 (.act 17 (.act 18 (.still 19 (.drop 20 .nil))))))))))) (.three 5 8 11 (.two 8 11 (.two 9 11 (.act 11 (.act 12 (.act 15 (.still 16 (.act 17 (.act 18 (.still 19 (.drop 20 .nil)))))))) (.act 9 (.act 12 (.act 15 (.still 16 (.act 17 (.act 18 (.still 19 (.drop 20 .nil))))))))) (.act 8 (.act 9 (.act 12 (.act 15 (.still 16 (.act 17 (.act 18 (.still 19 (.drop 20 .nil)))))))))) (.two 5 11 (.two 9 11 (.act 11 (.act 12 (.act 15 (.still 16 (.act 17 (.act 18 (.still 19 (.drop 20 .nil)))))))) (.act 9 (.act 12 (.act 15 (.still 16 (.act 17 (.act 18 (.still 19 (.drop 20 .nil))))))))) (.act 5 (.act 9 (.act 12 (.act 15 (.still 16 (.act 17 (.act 18 (.still 19 (.drop 20 .nil)))))))))) (.two 5 8 (.act 8 (.act 9 (.act 12 (.act 15 (.still 16 (.act 17 (.act 18 (.still 19 (.drop 20 .nil))))))))) (.act 5 (.act 9 (.act 12 (.act 15 (.still 16 (.act 17 (.act 18 (.still 19 (.drop 20 .nil))))))))))))))))))))) [2] [_] (by kernel_rfl) rfl ?_))
 refine AP.op rfl (Yp.fieldPtr rfl rfl rfl rfl rfl rfl) rfl (AP.o rfl (Yd.loadO 0 0 3 rfl rfl rfl rfl rfl (y := .v v373) rfl) rfl (AP.op rfl (Yp.fieldPtr rfl rfl rfl rfl rfl rfl) rfl (AP.o rfl (Yd.loadO 0 0 3 rfl rfl rfl rfl rfl (y := .v v373) rfl) rfl (AP.op rfl (Yp.lenUf rfl rfl rfl hf505) rfl (AP.op rfl (Yp.move rfl) rfl (AP.op rfl (Yp.move rfl) rfl ?_))))))
 refine AP.op rfl (Yp.move rfl) rfl (AP.op rfl (Yp.move rfl) rfl (AP.four ?_ ?_ ?_ ?_))
 refine AP.act [] rfl rfl rfl (AX.callL rfl (.refl _) rfl rfl (.rest _) rfl (L.keep_name_ok (⟨#[115]⟩ : ByteArray) (st371.2.2.2.1.length : Int) _ hx491) (dst_some rfl) (by rintro _ _ ⟨rfl, _⟩; rfl) ?_)
 rintro _ ⟨_, rfl, -⟩
 refine AP.three ?_ ?_ ?_
 refine AP.act [] rfl rfl rfl (AX.litF (sz := 1) (es := ([500000, 2000000, 0] : List Int).map rI) rfl rfl rfl rfl rfl rfl rfl rfl rfl rfl rfl (dst_some rfl) (AP.three ?_ ?_ ?_))
 refine AP.act [0] rfl rfl rfl (AX.callG [0] rfl rfl rfl rfl (by decide) (L.keep_Src_Pick_ok b0 (⟨j488.1, j488.2.1⟩ : batchlinekeep_Src) ([500000, 2000000, 0] : List Int) _ hx494) (dst_some rfl) ?_)
 rintro _ _ _ - ⟨rfl, rfl, rfl⟩
 refine AP.two ?_ ?_
 refine AP.act [] rfl rfl rfl (AX.litF (sz := 1) (es := ([0, 200, 100000] : List Int).map rI) rfl rfl rfl rfl rfl rfl rfl rfl rfl rfl rfl (dst_some rfl) (AP.two ?_ ?_))
 refine AP.act [0] rfl rfl rfl (AX.callG [0] rfl rfl rfl rfl (by decide) (L.keep_Src_Pick_ok b0 r493.2 ([0, 200, 100000] : List Int) _ hx497) (dst_some rfl) ?_)
 rintro _ _ _ - ⟨rfl, rfl, rfl⟩
 refine AP.act [] rfl rfl rfl (AX.litF (sz := 1) (es := ([0, 100000, 400000] : List Int).map rI) rfl rfl rfl rfl rfl rfl rfl rfl rfl rfl rfl (dst_some rfl) (AP.act [0] rfl rfl rfl (AX.callG [0] rfl rfl rfl rfl (by decide) (L.keep_Src_Pick_ok b0 r496.2 ([0, 100000, 400000] : List Int) _ hx500) (dst_some rfl) ?_)))
 rintro _ _ _ - ⟨rfl, rfl, rfl⟩
 refine AP.p rfl (Yp.buildP (l := [.v (.string r490), .v (.int .i64 st371.2.2.2.2), .v (.int .i64 r493.1), .v (.int .i64 r496.1), .v (.int .i64 r499.1)]) Try.bld97 rfl) rfl (AP.act [] rfl rfl rfl (AX.litF (sz := 5) (es := ([(⟨r490, st371.2.2.2.2, r493.1, r496.1, r499.1⟩ : Station)] : List Station).map Station.row) rfl rfl rfl rfl rfl rfl rfl rfl rfl rfl rfl (dst_some rfl) (AP.act [6] rfl rfl rfl (AX.appendU 6 rfl rfl rfl rfl rfl rfl rfl rfl rfl (AppSrc.list rfl) (app_len (app_some hx503).1) (app_map (app_some hx503).2) (dst_some rfl) (fun v504 => (AP.op rfl (Yp.fieldPtr rfl rfl rfl rfl rfl rfl) rfl (AP.one 6 rfl (fun v504o => (AP.drop [2] rfl rfl rfl (AX.store 2 0 3 (es' := [[.v v47, .v v136, .v v484, .v v504, .v (.int .i64 r5.1), .v (.int .i64 r8.1)]]) rfl rfl rfl rfl rfl rfl (cells_v v504o) rfl (le_ble rfl) rfl rfl (AP.ofAO ?_)))))))))))
 refine AO.nil ?_
 exact ⟨_, _, ⟨(r499.2.L_, r499.2.At, j483.2.2, l502), v484, v504, h, rfl, rfl⟩, ⟨rfl, rfl, rfl, rfl, rfl, trivial⟩, [0, 1, 2, 3, 4, 5, 6], rfl, by decide⟩
 refine AP.act [] rfl rfl rfl (AX.litF (sz := 1) (es := ([0, 100000, 400000] : List Int).map rI) rfl rfl rfl rfl rfl rfl rfl rfl rfl rfl rfl (dst_some rfl) (AP.act [0] rfl rfl rfl (AX.callG [0] rfl rfl rfl rfl (by decide) (L.keep_Src_Pick_ok b0 r493.2 ([0, 200, 100000] : List Int) _ hx497) (dst_some rfl) ?_)))
 rintro _ _ _ - ⟨rfl, rfl, rfl⟩
 refine AP.act [0] rfl rfl rfl (AX.callG [0] rfl rfl rfl rfl (by decide) (L.keep_Src_Pick_ok b0 r496.2 ([0, 100000, 400000] : List Int) _ hx500) (dst_some rfl) ?_)
 rintro _ _ _ - ⟨rfl, rfl, rfl⟩
 refine AP.p rfl (Yp.buildP (l := [.v (.string r490), .v (.int .i64 st371.2.2.2.2), .v (.int .i64 r493.1), .v (.int .i64 r496.1), .v (.int .i64 r499.1)]) Try.bld97 rfl) rfl (AP.act [] rfl rfl rfl (AX.litF (sz := 5) (es := ([(⟨r490, st371.2.2.2.2, r493.1, r496.1, r499.1⟩ : Station)] : List Station).map Station.row) rfl rfl rfl rfl rfl rfl rfl rfl rfl rfl rfl (dst_some rfl) (AP.act [6] rfl rfl rfl (AX.appendU 6 rfl rfl rfl rfl rfl rfl rfl rfl rfl (AppSrc.list rfl) (app_len (app_some hx503).1) (app_map (app_some hx503).2) (dst_some rfl) (fun v504 => (AP.op rfl (Yp.fieldPtr rfl rfl rfl rfl rfl rfl) rfl (AP.one 6 rfl (fun v504o => (AP.drop [2] rfl rfl rfl (AX.store 2 0 3 (es' := [[.v v47, .v v136, .v v484, .v v504, .v (.int .i64 r5.1), .v (.int .i64 r8.1)]]) rfl rfl rfl rfl rfl rfl (cells_v v504o) rfl (le_ble rfl) rfl rfl (AP.ofAO ?_)))))))))))
 refine AO.nil ?_
 exact ⟨_, _, ⟨(r499.2.L_, r499.2.At, j483.2.2, l502), v484, v504, h, rfl, rfl⟩, ⟨rfl, rfl, rfl, rfl, rfl, trivial⟩, [0, 1, 2, 3, 4, 5, 6], rfl, by decide⟩
 refine AP.act [] rfl rfl rfl (AX.litF (sz := 1) (es := ([0, 100000, 400000] : List Int).map rI) rfl rfl rfl rfl rfl rfl rfl rfl rfl rfl rfl (dst_some rfl) (AP.act [] rfl rfl rfl (AX.litF (sz := 1) (es := ([0, 200, 100000] : List Int).map rI) rfl rfl rfl rfl rfl rfl rfl rfl rfl rfl rfl (dst_some rfl) (AP.act [0] rfl rfl rfl (AX.callG [0] rfl rfl rfl rfl (by decide) (L.keep_Src_Pick_ok b0 r493.2 ([0, 200, 100000] : List Int) _ hx497) (dst_some rfl) ?_)))))
 rintro _ _ _ - ⟨rfl, rfl, rfl⟩
 refine AP.act [0] rfl rfl rfl (AX.callG [0] rfl rfl rfl rfl (by decide) (L.keep_Src_Pick_ok b0 r496.2 ([0, 100000, 400000] : List Int) _ hx500) (dst_some rfl) ?_)
 rintro _ _ _ - ⟨rfl, rfl, rfl⟩
 refine AP.p rfl (Yp.buildP (l := [.v (.string r490), .v (.int .i64 st371.2.2.2.2), .v (.int .i64 r493.1), .v (.int .i64 r496.1), .v (.int .i64 r499.1)]) Try.bld97 rfl) rfl (AP.act [] rfl rfl rfl (AX.litF (sz := 5) (es := ([(⟨r490, st371.2.2.2.2, r493.1, r496.1, r499.1⟩ : Station)] : List Station).map Station.row) rfl rfl rfl rfl rfl rfl rfl rfl rfl rfl rfl (dst_some rfl) (AP.act [6] rfl rfl rfl (AX.appendU 6 rfl rfl rfl rfl rfl rfl rfl rfl rfl (AppSrc.list rfl) (app_len (app_some hx503).1) (app_map (app_some hx503).2) (dst_some rfl) (fun v504 => (AP.op rfl (Yp.fieldPtr rfl rfl rfl rfl rfl rfl) rfl (AP.one 6 rfl (fun v504o => (AP.drop [2] rfl rfl rfl (AX.store 2 0 3 (es' := [[.v v47, .v v136, .v v484, .v v504, .v (.int .i64 r5.1), .v (.int .i64 r8.1)]]) rfl rfl rfl rfl rfl rfl (cells_v v504o) rfl (le_ble rfl) rfl rfl (AP.ofAO ?_)))))))))))
 refine AO.nil ?_
 exact ⟨_, _, ⟨(r499.2.L_, r499.2.At, j483.2.2, l502), v484, v504, h, rfl, rfl⟩, ⟨rfl, rfl, rfl, rfl, rfl, trivial⟩, [0, 1, 2, 3, 4, 5, 6], rfl, by decide⟩
 refine AP.act [] rfl rfl rfl (AX.litF (sz := 1) (es := ([0, 200, 100000] : List Int).map rI) rfl rfl rfl rfl rfl rfl rfl rfl rfl rfl rfl (dst_some rfl) (AP.two ?_ ?_))
 refine AP.act [0] rfl rfl rfl (AX.callG [0] rfl rfl rfl rfl (by decide) (L.keep_Src_Pick_ok b0 (⟨j488.1, j488.2.1⟩ : batchlinekeep_Src) ([500000, 2000000, 0] : List Int) _ hx494) (dst_some rfl) ?_)
 rintro _ _ _ - ⟨rfl, rfl, rfl⟩
 refine AP.two ?_ ?_
 refine AP.act [0] rfl rfl rfl (AX.callG [0] rfl rfl rfl rfl (by decide) (L.keep_Src_Pick_ok b0 r493.2 ([0, 200, 100000] : List Int) _ hx497) (dst_some rfl) ?_)
 rintro _ _ _ - ⟨rfl, rfl, rfl⟩
 refine AP.act [] rfl rfl rfl (AX.litF (sz := 1) (es := ([0, 100000, 400000] : List Int).map rI) rfl rfl rfl rfl rfl rfl rfl rfl rfl rfl rfl (dst_some rfl) (AP.act [0] rfl rfl rfl (AX.callG [0] rfl rfl rfl rfl (by decide) (L.keep_Src_Pick_ok b0 r496.2 ([0, 100000, 400000] : List Int) _ hx500) (dst_some rfl) ?_)))
 rintro _ _ _ - ⟨rfl, rfl, rfl⟩
 refine AP.p rfl (Yp.buildP (l := [.v (.string r490), .v (.int .i64 st371.2.2.2.2), .v (.int .i64 r493.1), .v (.int .i64 r496.1), .v (.int .i64 r499.1)]) Try.bld97 rfl) rfl (AP.act [] rfl rfl rfl (AX.litF (sz := 5) (es := ([(⟨r490, st371.2.2.2.2, r493.1, r496.1, r499.1⟩ : Station)] : List Station).map Station.row) rfl rfl rfl rfl rfl rfl rfl rfl rfl rfl rfl (dst_some rfl) (AP.act [6] rfl rfl rfl (AX.appendU 6 rfl rfl rfl rfl rfl rfl rfl rfl rfl (AppSrc.list rfl) (app_len (app_some hx503).1) (app_map (app_some hx503).2) (dst_some rfl) (fun v504 => (AP.op rfl (Yp.fieldPtr rfl rfl rfl rfl rfl rfl) rfl (AP.one 6 rfl (fun v504o => (AP.drop [2] rfl rfl rfl (AX.store 2 0 3 (es' := [[.v v47, .v v136, .v v484, .v v504, .v (.int .i64 r5.1), .v (.int .i64 r8.1)]]) rfl rfl rfl rfl rfl rfl (cells_v v504o) rfl (le_ble rfl) rfl rfl (AP.ofAO ?_)))))))))))
 refine AO.nil ?_
 exact ⟨_, _, ⟨(r499.2.L_, r499.2.At, j483.2.2, l502), v484, v504, h, rfl, rfl⟩, ⟨rfl, rfl, rfl, rfl, rfl, trivial⟩, [0, 1, 2, 3, 4, 5, 6], rfl, by decide⟩
 refine AP.act [] rfl rfl rfl (AX.litF (sz := 1) (es := ([0, 100000, 400000] : List Int).map rI) rfl rfl rfl rfl rfl rfl rfl rfl rfl rfl rfl (dst_some rfl) (AP.act [0] rfl rfl rfl (AX.callG [0] rfl rfl rfl rfl (by decide) (L.keep_Src_Pick_ok b0 r493.2 ([0, 200, 100000] : List Int) _ hx497) (dst_some rfl) ?_)))
 rintro _ _ _ - ⟨rfl, rfl, rfl⟩
 refine AP.act [0] rfl rfl rfl (AX.callG [0] rfl rfl rfl rfl (by decide) (L.keep_Src_Pick_ok b0 r496.2 ([0, 100000, 400000] : List Int) _ hx500) (dst_some rfl) ?_)
 rintro _ _ _ - ⟨rfl, rfl, rfl⟩
 refine AP.p rfl (Yp.buildP (l := [.v (.string r490), .v (.int .i64 st371.2.2.2.2), .v (.int .i64 r493.1), .v (.int .i64 r496.1), .v (.int .i64 r499.1)]) Try.bld97 rfl) rfl (AP.act [] rfl rfl rfl (AX.litF (sz := 5) (es := ([(⟨r490, st371.2.2.2.2, r493.1, r496.1, r499.1⟩ : Station)] : List Station).map Station.row) rfl rfl rfl rfl rfl rfl rfl rfl rfl rfl rfl (dst_some rfl) (AP.act [6] rfl rfl rfl (AX.appendU 6 rfl rfl rfl rfl rfl rfl rfl rfl rfl (AppSrc.list rfl) (app_len (app_some hx503).1) (app_map (app_some hx503).2) (dst_some rfl) (fun v504 => (AP.op rfl (Yp.fieldPtr rfl rfl rfl rfl rfl rfl) rfl (AP.one 6 rfl (fun v504o => (AP.drop [2] rfl rfl rfl (AX.store 2 0 3 (es' := [[.v v47, .v v136, .v v484, .v v504, .v (.int .i64 r5.1), .v (.int .i64 r8.1)]]) rfl rfl rfl rfl rfl rfl (cells_v v504o) rfl (le_ble rfl) rfl rfl (AP.ofAO ?_)))))))))))
 refine AO.nil ?_
 exact ⟨_, _, ⟨(r499.2.L_, r499.2.At, j483.2.2, l502), v484, v504, h, rfl, rfl⟩, ⟨rfl, rfl, rfl, rfl, rfl, trivial⟩, [0, 1, 2, 3, 4, 5, 6], rfl, by decide⟩
 refine AP.act [] rfl rfl rfl (AX.litF (sz := 1) (es := ([0, 100000, 400000] : List Int).map rI) rfl rfl rfl rfl rfl rfl rfl rfl rfl rfl rfl (dst_some rfl) (AP.act [0] rfl rfl rfl (AX.callG [0] rfl rfl rfl rfl (by decide) (L.keep_Src_Pick_ok b0 (⟨j488.1, j488.2.1⟩ : batchlinekeep_Src) ([500000, 2000000, 0] : List Int) _ hx494) (dst_some rfl) ?_)))
 rintro _ _ _ - ⟨rfl, rfl, rfl⟩
 refine AP.act [0] rfl rfl rfl (AX.callG [0] rfl rfl rfl rfl (by decide) (L.keep_Src_Pick_ok b0 r493.2 ([0, 200, 100000] : List Int) _ hx497) (dst_some rfl) ?_)
 rintro _ _ _ - ⟨rfl, rfl, rfl⟩
 refine AP.act [0] rfl rfl rfl (AX.callG [0] rfl rfl rfl rfl (by decide) (L.keep_Src_Pick_ok b0 r496.2 ([0, 100000, 400000] : List Int) _ hx500) (dst_some rfl) ?_)
 rintro _ _ _ - ⟨rfl, rfl, rfl⟩
 refine AP.p rfl (Yp.buildP (l := [.v (.string r490), .v (.int .i64 st371.2.2.2.2), .v (.int .i64 r493.1), .v (.int .i64 r496.1), .v (.int .i64 r499.1)]) Try.bld97 rfl) rfl (AP.act [] rfl rfl rfl (AX.litF (sz := 5) (es := ([(⟨r490, st371.2.2.2.2, r493.1, r496.1, r499.1⟩ : Station)] : List Station).map Station.row) rfl rfl rfl rfl rfl rfl rfl rfl rfl rfl rfl (dst_some rfl) (AP.act [6] rfl rfl rfl (AX.appendU 6 rfl rfl rfl rfl rfl rfl rfl rfl rfl (AppSrc.list rfl) (app_len (app_some hx503).1) (app_map (app_some hx503).2) (dst_some rfl) (fun v504 => (AP.op rfl (Yp.fieldPtr rfl rfl rfl rfl rfl rfl) rfl (AP.one 6 rfl (fun v504o => (AP.drop [2] rfl rfl rfl (AX.store 2 0 3 (es' := [[.v v47, .v v136, .v v484, .v v504, .v (.int .i64 r5.1), .v (.int .i64 r8.1)]]) rfl rfl rfl rfl rfl rfl (cells_v v504o) rfl (le_ble rfl) rfl rfl (AP.ofAO ?_)))))))))))
 refine AO.nil ?_
 exact ⟨_, _, ⟨(r499.2.L_, r499.2.At, j483.2.2, l502), v484, v504, h, rfl, rfl⟩, ⟨rfl, rfl, rfl, rfl, rfl, trivial⟩, [0, 1, 2, 3, 4, 5, 6], rfl, by decide⟩
 refine AP.act [] rfl rfl rfl (AX.litF (sz := 1) (es := ([0, 100000, 400000] : List Int).map rI) rfl rfl rfl rfl rfl rfl rfl rfl rfl rfl rfl (dst_some rfl) (AP.two ?_ ?_))
 refine AP.act [0] rfl rfl rfl (AX.callG [0] rfl rfl rfl rfl (by decide) (L.keep_Src_Pick_ok b0 (⟨j488.1, j488.2.1⟩ : batchlinekeep_Src) ([500000, 2000000, 0] : List Int) _ hx494) (dst_some rfl) ?_)
 rintro _ _ _ - ⟨rfl, rfl, rfl⟩
 refine AP.act [] rfl rfl rfl (AX.litF (sz := 1) (es := ([0, 200, 100000] : List Int).map rI) rfl rfl rfl rfl rfl rfl rfl rfl rfl rfl rfl (dst_some rfl) (AP.act [0] rfl rfl rfl (AX.callG [0] rfl rfl rfl rfl (by decide) (L.keep_Src_Pick_ok b0 r493.2 ([0, 200, 100000] : List Int) _ hx497) (dst_some rfl) ?_)))
 rintro _ _ _ - ⟨rfl, rfl, rfl⟩
 refine AP.act [0] rfl rfl rfl (AX.callG [0] rfl rfl rfl rfl (by decide) (L.keep_Src_Pick_ok b0 r496.2 ([0, 100000, 400000] : List Int) _ hx500) (dst_some rfl) ?_)
 rintro _ _ _ - ⟨rfl, rfl, rfl⟩
 refine AP.p rfl (Yp.buildP (l := [.v (.string r490), .v (.int .i64 st371.2.2.2.2), .v (.int .i64 r493.1), .v (.int .i64 r496.1), .v (.int .i64 r499.1)]) Try.bld97 rfl) rfl (AP.act [] rfl rfl rfl (AX.litF (sz := 5) (es := ([(⟨r490, st371.2.2.2.2, r493.1, r496.1, r499.1⟩ : Station)] : List Station).map Station.row) rfl rfl rfl rfl rfl rfl rfl rfl rfl rfl rfl (dst_some rfl) (AP.act [6] rfl rfl rfl (AX.appendU 6 rfl rfl rfl rfl rfl rfl rfl rfl rfl (AppSrc.list rfl) (app_len (app_some hx503).1) (app_map (app_some hx503).2) (dst_some rfl) (fun v504 => (AP.op rfl (Yp.fieldPtr rfl rfl rfl rfl rfl rfl) rfl (AP.one 6 rfl (fun v504o => (AP.drop [2] rfl rfl rfl (AX.store 2 0 3 (es' := [[.v v47, .v v136, .v v484, .v v504, .v (.int .i64 r5.1), .v (.int .i64 r8.1)]]) rfl rfl rfl rfl rfl rfl (cells_v v504o) rfl (le_ble rfl) rfl rfl (AP.ofAO ?_)))))))))))
 refine AO.nil ?_
 exact ⟨_, _, ⟨(r499.2.L_, r499.2.At, j483.2.2, l502), v484, v504, h, rfl, rfl⟩, ⟨rfl, rfl, rfl, rfl, rfl, trivial⟩, [0, 1, 2, 3, 4, 5, 6], rfl, by decide⟩
 refine AP.act [] rfl rfl rfl (AX.litF (sz := 1) (es := ([0, 200, 100000] : List Int).map rI) rfl rfl rfl rfl rfl rfl rfl rfl rfl rfl rfl (dst_some rfl) (AP.act [0] rfl rfl rfl (AX.callG [0] rfl rfl rfl rfl (by decide) (L.keep_Src_Pick_ok b0 (⟨j488.1, j488.2.1⟩ : batchlinekeep_Src) ([500000, 2000000, 0] : List Int) _ hx494) (dst_some rfl) ?_)))
 rintro _ _ _ - ⟨rfl, rfl, rfl⟩
 refine AP.act [0] rfl rfl rfl (AX.callG [0] rfl rfl rfl rfl (by decide) (L.keep_Src_Pick_ok b0 r493.2 ([0, 200, 100000] : List Int) _ hx497) (dst_some rfl) ?_)
 rintro _ _ _ - ⟨rfl, rfl, rfl⟩
 refine AP.act [0] rfl rfl rfl (AX.callG [0] rfl rfl rfl rfl (by decide) (L.keep_Src_Pick_ok b0 r496.2 ([0, 100000, 400000] : List Int) _ hx500) (dst_some rfl) ?_)
 rintro _ _ _ - ⟨rfl, rfl, rfl⟩
 refine AP.p rfl (Yp.buildP (l := [.v (.string r490), .v (.int .i64 st371.2.2.2.2), .v (.int .i64 r493.1), .v (.int .i64 r496.1), .v (.int .i64 r499.1)]) Try.bld97 rfl) rfl (AP.act [] rfl rfl rfl (AX.litF (sz := 5) (es := ([(⟨r490, st371.2.2.2.2, r493.1, r496.1, r499.1⟩ : Station)] : List Station).map Station.row) rfl rfl rfl rfl rfl rfl rfl rfl rfl rfl rfl (dst_some rfl) (AP.act [6] rfl rfl rfl (AX.appendU 6 rfl rfl rfl rfl rfl rfl rfl rfl rfl (AppSrc.list rfl) (app_len (app_some hx503).1) (app_map (app_some hx503).2) (dst_some rfl) (fun v504 => (AP.op rfl (Yp.fieldPtr rfl rfl rfl rfl rfl rfl) rfl (AP.one 6 rfl (fun v504o => (AP.drop [2] rfl rfl rfl (AX.store 2 0 3 (es' := [[.v v47, .v v136, .v v484, .v v504, .v (.int .i64 r5.1), .v (.int .i64 r8.1)]]) rfl rfl rfl rfl rfl rfl (cells_v v504o) rfl (le_ble rfl) rfl rfl (AP.ofAO ?_)))))))))))
 refine AO.nil ?_
 exact ⟨_, _, ⟨(r499.2.L_, r499.2.At, j483.2.2, l502), v484, v504, h, rfl, rfl⟩, ⟨rfl, rfl, rfl, rfl, rfl, trivial⟩, [0, 1, 2, 3, 4, 5, 6], rfl, by decide⟩
 refine AP.act [] rfl rfl rfl (AX.litF (sz := 1) (es := ([0, 200, 100000] : List Int).map rI) rfl rfl rfl rfl rfl rfl rfl rfl rfl rfl rfl (dst_some rfl) (AP.two ?_ ?_))
 refine AP.act [] rfl rfl rfl (AX.litF (sz := 1) (es := ([500000, 2000000, 0] : List Int).map rI) rfl rfl rfl rfl rfl rfl rfl rfl rfl rfl rfl (dst_some rfl) (AP.two ?_ ?_))
 refine AP.act [0] rfl rfl rfl (AX.callG [0] rfl rfl rfl rfl (by decide) (L.keep_Src_Pick_ok b0 (⟨j488.1, j488.2.1⟩ : batchlinekeep_Src) ([500000, 2000000, 0] : List Int) _ hx494) (dst_some rfl) ?_)
 rintro _ _ _ - ⟨rfl, rfl, rfl⟩
 refine AP.two ?_ ?_
 refine AP.act [0] rfl rfl rfl (AX.callG [0] rfl rfl rfl rfl (by decide) (L.keep_Src_Pick_ok b0 r493.2 ([0, 200, 100000] : List Int) _ hx497) (dst_some rfl) ?_)
 rintro _ _ _ - ⟨rfl, rfl, rfl⟩
 refine AP.act [] rfl rfl rfl (AX.litF (sz := 1) (es := ([0, 100000, 400000] : List Int).map rI) rfl rfl rfl rfl rfl rfl rfl rfl rfl rfl rfl (dst_some rfl) (AP.act [0] rfl rfl rfl (AX.callG [0] rfl rfl rfl rfl (by decide) (L.keep_Src_Pick_ok b0 r496.2 ([0, 100000, 400000] : List Int) _ hx500) (dst_some rfl) ?_)))
 rintro _ _ _ - ⟨rfl, rfl, rfl⟩
 refine AP.p rfl (Yp.buildP (l := [.v (.string r490), .v (.int .i64 st371.2.2.2.2), .v (.int .i64 r493.1), .v (.int .i64 r496.1), .v (.int .i64 r499.1)]) Try.bld97 rfl) rfl (AP.act [] rfl rfl rfl (AX.litF (sz := 5) (es := ([(⟨r490, st371.2.2.2.2, r493.1, r496.1, r499.1⟩ : Station)] : List Station).map Station.row) rfl rfl rfl rfl rfl rfl rfl rfl rfl rfl rfl (dst_some rfl) (AP.act [6] rfl rfl rfl (AX.appendU 6 rfl rfl rfl rfl rfl rfl rfl rfl rfl (AppSrc.list rfl) (app_len (app_some hx503).1) (app_map (app_some hx503).2) (dst_some rfl) (fun v504 => (AP.op rfl (Yp.fieldPtr rfl rfl rfl rfl rfl rfl) rfl (AP.one 6 rfl (fun v504o => (AP.drop [2] rfl rfl rfl (AX.store 2 0 3 (es' := [[.v v47, .v v136, .v v484, .v v504, .v (.int .i64 r5.1), .v (.int .i64 r8.1)]]) rfl rfl rfl rfl rfl rfl (cells_v v504o) rfl (le_ble rfl) rfl rfl (AP.ofAO ?_)))))))))))
 refine AO.nil ?_
 exact ⟨_, _, ⟨(r499.2.L_, r499.2.At, j483.2.2, l502), v484, v504, h, rfl, rfl⟩, ⟨rfl, rfl, rfl, rfl, rfl, trivial⟩, [0, 1, 2, 3, 4, 5, 6], rfl, by decide⟩
 refine AP.act [] rfl rfl rfl (AX.litF (sz := 1) (es := ([0, 100000, 400000] : List Int).map rI) rfl rfl rfl rfl rfl rfl rfl rfl rfl rfl rfl (dst_some rfl) (AP.act [0] rfl rfl rfl (AX.callG [0] rfl rfl rfl rfl (by decide) (L.keep_Src_Pick_ok b0 r493.2 ([0, 200, 100000] : List Int) _ hx497) (dst_some rfl) ?_)))
 rintro _ _ _ - ⟨rfl, rfl, rfl⟩
 refine AP.act [0] rfl rfl rfl (AX.callG [0] rfl rfl rfl rfl (by decide) (L.keep_Src_Pick_ok b0 r496.2 ([0, 100000, 400000] : List Int) _ hx500) (dst_some rfl) ?_)
 rintro _ _ _ - ⟨rfl, rfl, rfl⟩
 refine AP.p rfl (Yp.buildP (l := [.v (.string r490), .v (.int .i64 st371.2.2.2.2), .v (.int .i64 r493.1), .v (.int .i64 r496.1), .v (.int .i64 r499.1)]) Try.bld97 rfl) rfl (AP.act [] rfl rfl rfl (AX.litF (sz := 5) (es := ([(⟨r490, st371.2.2.2.2, r493.1, r496.1, r499.1⟩ : Station)] : List Station).map Station.row) rfl rfl rfl rfl rfl rfl rfl rfl rfl rfl rfl (dst_some rfl) (AP.act [6] rfl rfl rfl (AX.appendU 6 rfl rfl rfl rfl rfl rfl rfl rfl rfl (AppSrc.list rfl) (app_len (app_some hx503).1) (app_map (app_some hx503).2) (dst_some rfl) (fun v504 => (AP.op rfl (Yp.fieldPtr rfl rfl rfl rfl rfl rfl) rfl (AP.one 6 rfl (fun v504o => (AP.drop [2] rfl rfl rfl (AX.store 2 0 3 (es' := [[.v v47, .v v136, .v v484, .v v504, .v (.int .i64 r5.1), .v (.int .i64 r8.1)]]) rfl rfl rfl rfl rfl rfl (cells_v v504o) rfl (le_ble rfl) rfl rfl (AP.ofAO ?_)))))))))))
 refine AO.nil ?_
 exact ⟨_, _, ⟨(r499.2.L_, r499.2.At, j483.2.2, l502), v484, v504, h, rfl, rfl⟩, ⟨rfl, rfl, rfl, rfl, rfl, trivial⟩, [0, 1, 2, 3, 4, 5, 6], rfl, by decide⟩
 refine AP.act [] rfl rfl rfl (AX.litF (sz := 1) (es := ([0, 100000, 400000] : List Int).map rI) rfl rfl rfl rfl rfl rfl rfl rfl rfl rfl rfl (dst_some rfl) (AP.act [0] rfl rfl rfl (AX.callG [0] rfl rfl rfl rfl (by decide) (L.keep_Src_Pick_ok b0 (⟨j488.1, j488.2.1⟩ : batchlinekeep_Src) ([500000, 2000000, 0] : List Int) _ hx494) (dst_some rfl) ?_)))
 rintro _ _ _ - ⟨rfl, rfl, rfl⟩
 refine AP.act [0] rfl rfl rfl (AX.callG [0] rfl rfl rfl rfl (by decide) (L.keep_Src_Pick_ok b0 r493.2 ([0, 200, 100000] : List Int) _ hx497) (dst_some rfl) ?_)
 rintro _ _ _ - ⟨rfl, rfl, rfl⟩
 refine AP.act [0] rfl rfl rfl (AX.callG [0] rfl rfl rfl rfl (by decide) (L.keep_Src_Pick_ok b0 r496.2 ([0, 100000, 400000] : List Int) _ hx500) (dst_some rfl) ?_)
 rintro _ _ _ - ⟨rfl, rfl, rfl⟩
 refine AP.p rfl (Yp.buildP (l := [.v (.string r490), .v (.int .i64 st371.2.2.2.2), .v (.int .i64 r493.1), .v (.int .i64 r496.1), .v (.int .i64 r499.1)]) Try.bld97 rfl) rfl (AP.act [] rfl rfl rfl (AX.litF (sz := 5) (es := ([(⟨r490, st371.2.2.2.2, r493.1, r496.1, r499.1⟩ : Station)] : List Station).map Station.row) rfl rfl rfl rfl rfl rfl rfl rfl rfl rfl rfl (dst_some rfl) (AP.act [6] rfl rfl rfl (AX.appendU 6 rfl rfl rfl rfl rfl rfl rfl rfl rfl (AppSrc.list rfl) (app_len (app_some hx503).1) (app_map (app_some hx503).2) (dst_some rfl) (fun v504 => (AP.op rfl (Yp.fieldPtr rfl rfl rfl rfl rfl rfl) rfl (AP.one 6 rfl (fun v504o => (AP.drop [2] rfl rfl rfl (AX.store 2 0 3 (es' := [[.v v47, .v v136, .v v484, .v v504, .v (.int .i64 r5.1), .v (.int .i64 r8.1)]]) rfl rfl rfl rfl rfl rfl (cells_v v504o) rfl (le_ble rfl) rfl rfl (AP.ofAO ?_)))))))))))
 refine AO.nil ?_
 exact ⟨_, _, ⟨(r499.2.L_, r499.2.At, j483.2.2, l502), v484, v504, h, rfl, rfl⟩, ⟨rfl, rfl, rfl, rfl, rfl, trivial⟩, [0, 1, 2, 3, 4, 5, 6], rfl, by decide⟩
 refine AP.act [] rfl rfl rfl (AX.litF (sz := 1) (es := ([0, 100000, 400000] : List Int).map rI) rfl rfl rfl rfl rfl rfl rfl rfl rfl rfl rfl (dst_some rfl) (AP.act [] rfl rfl rfl (AX.litF (sz := 1) (es := ([500000, 2000000, 0] : List Int).map rI) rfl rfl rfl rfl rfl rfl rfl rfl rfl rfl rfl (dst_some rfl) (AP.act [0] rfl rfl rfl (AX.callG [0] rfl rfl rfl rfl (by decide) (L.keep_Src_Pick_ok b0 (⟨j488.1, j488.2.1⟩ : batchlinekeep_Src) ([500000, 2000000, 0] : List Int) _ hx494) (dst_some rfl) ?_)))))
 rintro _ _ _ - ⟨rfl, rfl, rfl⟩
 refine AP.act [0] rfl rfl rfl (AX.callG [0] rfl rfl rfl rfl (by decide) (L.keep_Src_Pick_ok b0 r493.2 ([0, 200, 100000] : List Int) _ hx497) (dst_some rfl) ?_)
 rintro _ _ _ - ⟨rfl, rfl, rfl⟩
 refine AP.act [0] rfl rfl rfl (AX.callG [0] rfl rfl rfl rfl (by decide) (L.keep_Src_Pick_ok b0 r496.2 ([0, 100000, 400000] : List Int) _ hx500) (dst_some rfl) ?_)
 rintro _ _ _ - ⟨rfl, rfl, rfl⟩
 refine AP.p rfl (Yp.buildP (l := [.v (.string r490), .v (.int .i64 st371.2.2.2.2), .v (.int .i64 r493.1), .v (.int .i64 r496.1), .v (.int .i64 r499.1)]) Try.bld97 rfl) rfl (AP.act [] rfl rfl rfl (AX.litF (sz := 5) (es := ([(⟨r490, st371.2.2.2.2, r493.1, r496.1, r499.1⟩ : Station)] : List Station).map Station.row) rfl rfl rfl rfl rfl rfl rfl rfl rfl rfl rfl (dst_some rfl) (AP.act [6] rfl rfl rfl (AX.appendU 6 rfl rfl rfl rfl rfl rfl rfl rfl rfl (AppSrc.list rfl) (app_len (app_some hx503).1) (app_map (app_some hx503).2) (dst_some rfl) (fun v504 => (AP.op rfl (Yp.fieldPtr rfl rfl rfl rfl rfl rfl) rfl (AP.one 6 rfl (fun v504o => (AP.drop [2] rfl rfl rfl (AX.store 2 0 3 (es' := [[.v v47, .v v136, .v v484, .v v504, .v (.int .i64 r5.1), .v (.int .i64 r8.1)]]) rfl rfl rfl rfl rfl rfl (cells_v v504o) rfl (le_ble rfl) rfl rfl (AP.ofAO ?_)))))))))))
 refine AO.nil ?_
 exact ⟨_, _, ⟨(r499.2.L_, r499.2.At, j483.2.2, l502), v484, v504, h, rfl, rfl⟩, ⟨rfl, rfl, rfl, rfl, rfl, trivial⟩, [0, 1, 2, 3, 4, 5, 6], rfl, by decide⟩
 refine AP.act [] rfl rfl rfl (AX.litF (sz := 1) (es := ([0, 100000, 400000] : List Int).map rI) rfl rfl rfl rfl rfl rfl rfl rfl rfl rfl rfl (dst_some rfl) (AP.two ?_ ?_))
 refine AP.act [] rfl rfl rfl (AX.litF (sz := 1) (es := ([500000, 2000000, 0] : List Int).map rI) rfl rfl rfl rfl rfl rfl rfl rfl rfl rfl rfl (dst_some rfl) (AP.two ?_ ?_))
 refine AP.act [0] rfl rfl rfl (AX.callG [0] rfl rfl rfl rfl (by decide) (L.keep_Src_Pick_ok b0 (⟨j488.1, j488.2.1⟩ : batchlinekeep_Src) ([500000, 2000000, 0] : List Int) _ hx494) (dst_some rfl) ?_)
 rintro _ _ _ - ⟨rfl, rfl, rfl⟩
 refine AP.act [] rfl rfl rfl (AX.litF (sz := 1) (es := ([0, 200, 100000] : List Int).map rI) rfl rfl rfl rfl rfl rfl rfl rfl rfl rfl rfl (dst_some rfl) (AP.act [0] rfl rfl rfl (AX.callG [0] rfl rfl rfl rfl (by decide) (L.keep_Src_Pick_ok b0 r493.2 ([0, 200, 100000] : List Int) _ hx497) (dst_some rfl) ?_)))
 rintro _ _ _ - ⟨rfl, rfl, rfl⟩
 refine AP.act [0] rfl rfl rfl (AX.callG [0] rfl rfl rfl rfl (by decide) (L.keep_Src_Pick_ok b0 r496.2 ([0, 100000, 400000] : List Int) _ hx500) (dst_some rfl) ?_)
 rintro _ _ _ - ⟨rfl, rfl, rfl⟩
 refine AP.p rfl (Yp.buildP (l := [.v (.string r490), .v (.int .i64 st371.2.2.2.2), .v (.int .i64 r493.1), .v (.int .i64 r496.1), .v (.int .i64 r499.1)]) Try.bld97 rfl) rfl (AP.act [] rfl rfl rfl (AX.litF (sz := 5) (es := ([(⟨r490, st371.2.2.2.2, r493.1, r496.1, r499.1⟩ : Station)] : List Station).map Station.row) rfl rfl rfl rfl rfl rfl rfl rfl rfl rfl rfl (dst_some rfl) (AP.act [6] rfl rfl rfl (AX.appendU 6 rfl rfl rfl rfl rfl rfl rfl rfl rfl (AppSrc.list rfl) (app_len (app_some hx503).1) (app_map (app_some hx503).2) (dst_some rfl) (fun v504 => (AP.op rfl (Yp.fieldPtr rfl rfl rfl rfl rfl rfl) rfl (AP.one 6 rfl (fun v504o => (AP.drop [2] rfl rfl rfl (AX.store 2 0 3 (es' := [[.v v47, .v v136, .v v484, .v v504, .v (.int .i64 r5.1), .v (.int .i64 r8.1)]]) rfl rfl rfl rfl rfl rfl (cells_v v504o) rfl (le_ble rfl) rfl rfl (AP.ofAO ?_)))))))))))
 refine AO.nil ?_
 exact ⟨_, _, ⟨(r499.2.L_, r499.2.At, j483.2.2, l502), v484, v504, h, rfl, rfl⟩, ⟨rfl, rfl, rfl, rfl, rfl, trivial⟩, [0, 1, 2, 3, 4, 5, 6], rfl, by decide⟩
 refine AP.act [] rfl rfl rfl (AX.litF (sz := 1) (es := ([0, 200, 100000] : List Int).map rI) rfl rfl rfl rfl rfl rfl rfl rfl rfl rfl rfl (dst_some rfl) (AP.act [0] rfl rfl rfl (AX.callG [0] rfl rfl rfl rfl (by decide) (L.keep_Src_Pick_ok b0 (⟨j488.1, j488.2.1⟩ : batchlinekeep_Src) ([500000, 2000000, 0] : List Int) _ hx494) (dst_some rfl) ?_)))
 rintro _ _ _ - ⟨rfl, rfl, rfl⟩
 refine AP.act [0] rfl rfl rfl (AX.callG [0] rfl rfl rfl rfl (by decide) (L.keep_Src_Pick_ok b0 r493.2 ([0, 200, 100000] : List Int) _ hx497) (dst_some rfl) ?_)
 rintro _ _ _ - ⟨rfl, rfl, rfl⟩
 refine AP.act [0] rfl rfl rfl (AX.callG [0] rfl rfl rfl rfl (by decide) (L.keep_Src_Pick_ok b0 r496.2 ([0, 100000, 400000] : List Int) _ hx500) (dst_some rfl) ?_)
 rintro _ _ _ - ⟨rfl, rfl, rfl⟩
 refine AP.p rfl (Yp.buildP (l := [.v (.string r490), .v (.int .i64 st371.2.2.2.2), .v (.int .i64 r493.1), .v (.int .i64 r496.1), .v (.int .i64 r499.1)]) Try.bld97 rfl) rfl (AP.act [] rfl rfl rfl (AX.litF (sz := 5) (es := ([(⟨r490, st371.2.2.2.2, r493.1, r496.1, r499.1⟩ : Station)] : List Station).map Station.row) rfl rfl rfl rfl rfl rfl rfl rfl rfl rfl rfl (dst_some rfl) (AP.act [6] rfl rfl rfl (AX.appendU 6 rfl rfl rfl rfl rfl rfl rfl rfl rfl (AppSrc.list rfl) (app_len (app_some hx503).1) (app_map (app_some hx503).2) (dst_some rfl) (fun v504 => (AP.op rfl (Yp.fieldPtr rfl rfl rfl rfl rfl rfl) rfl (AP.one 6 rfl (fun v504o => (AP.drop [2] rfl rfl rfl (AX.store 2 0 3 (es' := [[.v v47, .v v136, .v v484, .v v504, .v (.int .i64 r5.1), .v (.int .i64 r8.1)]]) rfl rfl rfl rfl rfl rfl (cells_v v504o) rfl (le_ble rfl) rfl rfl (AP.ofAO ?_)))))))))))
 refine AO.nil ?_
 exact ⟨_, _, ⟨(r499.2.L_, r499.2.At, j483.2.2, l502), v484, v504, h, rfl, rfl⟩, ⟨rfl, rfl, rfl, rfl, rfl, trivial⟩, [0, 1, 2, 3, 4, 5, 6], rfl, by decide⟩
 refine AP.act [] rfl rfl rfl (AX.litF (sz := 1) (es := ([0, 200, 100000] : List Int).map rI) rfl rfl rfl rfl rfl rfl rfl rfl rfl rfl rfl (dst_some rfl) (AP.act [] rfl rfl rfl (AX.litF (sz := 1) (es := ([500000, 2000000, 0] : List Int).map rI) rfl rfl rfl rfl rfl rfl rfl rfl rfl rfl rfl (dst_some rfl) (AP.act [0] rfl rfl rfl (AX.callG [0] rfl rfl rfl rfl (by decide) (L.keep_Src_Pick_ok b0 (⟨j488.1, j488.2.1⟩ : batchlinekeep_Src) ([500000, 2000000, 0] : List Int) _ hx494) (dst_some rfl) ?_)))))
 rintro _ _ _ - ⟨rfl, rfl, rfl⟩
 refine AP.act [0] rfl rfl rfl (AX.callG [0] rfl rfl rfl rfl (by decide) (L.keep_Src_Pick_ok b0 r493.2 ([0, 200, 100000] : List Int) _ hx497) (dst_some rfl) ?_)
 rintro _ _ _ - ⟨rfl, rfl, rfl⟩
 refine AP.act [0] rfl rfl rfl (AX.callG [0] rfl rfl rfl rfl (by decide) (L.keep_Src_Pick_ok b0 r496.2 ([0, 100000, 400000] : List Int) _ hx500) (dst_some rfl) ?_)
 rintro _ _ _ - ⟨rfl, rfl, rfl⟩
 refine AP.p rfl (Yp.buildP (l := [.v (.string r490), .v (.int .i64 st371.2.2.2.2), .v (.int .i64 r493.1), .v (.int .i64 r496.1), .v (.int .i64 r499.1)]) Try.bld97 rfl) rfl (AP.act [] rfl rfl rfl (AX.litF (sz := 5) (es := ([(⟨r490, st371.2.2.2.2, r493.1, r496.1, r499.1⟩ : Station)] : List Station).map Station.row) rfl rfl rfl rfl rfl rfl rfl rfl rfl rfl rfl (dst_some rfl) (AP.act [6] rfl rfl rfl (AX.appendU 6 rfl rfl rfl rfl rfl rfl rfl rfl rfl (AppSrc.list rfl) (app_len (app_some hx503).1) (app_map (app_some hx503).2) (dst_some rfl) (fun v504 => (AP.op rfl (Yp.fieldPtr rfl rfl rfl rfl rfl rfl) rfl (AP.one 6 rfl (fun v504o => (AP.drop [2] rfl rfl rfl (AX.store 2 0 3 (es' := [[.v v47, .v v136, .v v484, .v v504, .v (.int .i64 r5.1), .v (.int .i64 r8.1)]]) rfl rfl rfl rfl rfl rfl (cells_v v504o) rfl (le_ble rfl) rfl rfl (AP.ofAO ?_)))))))))))
 refine AO.nil ?_
 exact ⟨_, _, ⟨(r499.2.L_, r499.2.At, j483.2.2, l502), v484, v504, h, rfl, rfl⟩, ⟨rfl, rfl, rfl, rfl, rfl, trivial⟩, [0, 1, 2, 3, 4, 5, 6], rfl, by decide⟩
 refine AP.act [] rfl rfl rfl (AX.litF (sz := 1) (es := ([500000, 2000000, 0] : List Int).map rI) rfl rfl rfl rfl rfl rfl rfl rfl rfl rfl rfl (dst_some rfl) (AP.three ?_ ?_ ?_))
 refine AP.act [] rfl rfl rfl (AX.callL rfl (.refl _) rfl rfl (.rest _) rfl (L.keep_name_ok (⟨#[115]⟩ : ByteArray) (st371.2.2.2.1.length : Int) _ hx491) (dst_some rfl) (by rintro _ _ ⟨rfl, _⟩; rfl) ?_)
 rintro _ ⟨_, rfl, -⟩
 refine AP.three ?_ ?_ ?_
 refine AP.act [0] rfl rfl rfl (AX.callG [0] rfl rfl rfl rfl (by decide) (L.keep_Src_Pick_ok b0 (⟨j488.1, j488.2.1⟩ : batchlinekeep_Src) ([500000, 2000000, 0] : List Int) _ hx494) (dst_some rfl) ?_)
 rintro _ _ _ - ⟨rfl, rfl, rfl⟩
 refine AP.two ?_ ?_
 refine AP.act [] rfl rfl rfl (AX.litF (sz := 1) (es := ([0, 200, 100000] : List Int).map rI) rfl rfl rfl rfl rfl rfl rfl rfl rfl rfl rfl (dst_some rfl) (AP.two ?_ ?_))
 refine AP.act [0] rfl rfl rfl (AX.callG [0] rfl rfl rfl rfl (by decide) (L.keep_Src_Pick_ok b0 r493.2 ([0, 200, 100000] : List Int) _ hx497) (dst_some rfl) ?_)
 rintro _ _ _ - ⟨rfl, rfl, rfl⟩
 refine AP.act [] rfl rfl rfl (AX.litF (sz := 1) (es := ([0, 100000, 400000] : List Int).map rI) rfl rfl rfl rfl rfl rfl rfl rfl rfl rfl rfl (dst_some rfl) (AP.act [0] rfl rfl rfl (AX.callG [0] rfl rfl rfl rfl (by decide) (L.keep_Src_Pick_ok b0 r496.2 ([0, 100000, 400000] : List Int) _ hx500) (dst_some rfl) ?_)))
 rintro _ _ _ - ⟨rfl, rfl, rfl⟩
 refine AP.p rfl (Yp.buildP (l := [.v (.string r490), .v (.int .i64 st371.2.2.2.2), .v (.int .i64 r493.1), .v (.int .i64 r496.1), .v (.int .i64 r499.1)]) Try.bld97 rfl) rfl (AP.act [] rfl rfl rfl (AX.litF (sz := 5) (es := ([(⟨r490, st371.2.2.2.2, r493.1, r496.1, r499.1⟩ : Station)] : List Station).map Station.row) rfl rfl rfl rfl rfl rfl rfl rfl rfl rfl rfl (dst_some rfl) (AP.act [6] rfl rfl rfl (AX.appendU 6 rfl rfl rfl rfl rfl rfl rfl rfl rfl (AppSrc.list rfl) (app_len (app_some hx503).1) (app_map (app_some hx503).2) (dst_some rfl) (fun v504 => (AP.op rfl (Yp.fieldPtr rfl rfl rfl rfl rfl rfl) rfl (AP.one 6 rfl (fun v504o => (AP.drop [2] rfl rfl rfl (AX.store 2 0 3 (es' := [[.v v47, .v v136, .v v484, .v v504, .v (.int .i64 r5.1), .v (.int .i64 r8.1)]]) rfl rfl rfl rfl rfl rfl (cells_v v504o) rfl (le_ble rfl) rfl rfl (AP.ofAO ?_)))))))))))
 refine AO.nil ?_
 exact ⟨_, _, ⟨(r499.2.L_, r499.2.At, j483.2.2, l502), v484, v504, h, rfl, rfl⟩, ⟨rfl, rfl, rfl, rfl, rfl, trivial⟩, [0, 1, 2, 3, 4, 5, 6], rfl, by decide⟩
 refine AP.act [] rfl rfl rfl (AX.litF (sz := 1) (es := ([0, 100000, 400000] : List Int).map rI) rfl rfl rfl rfl rfl rfl rfl rfl rfl rfl rfl (dst_some rfl) (AP.act [0] rfl rfl rfl (AX.callG [0] rfl rfl rfl rfl (by decide) (L.keep_Src_Pick_ok b0 r493.2 ([0, 200, 100000] : List Int) _ hx497) (dst_some rfl) ?_)))
 rintro _ _ _ - ⟨rfl, rfl, rfl⟩
 refine AP.act [0] rfl rfl rfl (AX.callG [0] rfl rfl rfl rfl (by decide) (L.keep_Src_Pick_ok b0 r496.2 ([0, 100000, 400000] : List Int) _ hx500) (dst_some rfl) ?_)
 rintro _ _ _ - ⟨rfl, rfl, rfl⟩
 refine AP.p rfl (Yp.buildP (l := [.v (.string r490), .v (.int .i64 st371.2.2.2.2), .v (.int .i64 r493.1), .v (.int .i64 r496.1), .v (.int .i64 r499.1)]) Try.bld97 rfl) rfl (AP.act [] rfl rfl rfl (AX.litF (sz := 5) (es := ([(⟨r490, st371.2.2.2.2, r493.1, r496.1, r499.1⟩ : Station)] : List Station).map Station.row) rfl rfl rfl rfl rfl rfl rfl rfl rfl rfl rfl (dst_some rfl) (AP.act [6] rfl rfl rfl (AX.appendU 6 rfl rfl rfl rfl rfl rfl rfl rfl rfl (AppSrc.list rfl) (app_len (app_some hx503).1) (app_map (app_some hx503).2) (dst_some rfl) (fun v504 => (AP.op rfl (Yp.fieldPtr rfl rfl rfl rfl rfl rfl) rfl (AP.one 6 rfl (fun v504o => (AP.drop [2] rfl rfl rfl (AX.store 2 0 3 (es' := [[.v v47, .v v136, .v v484, .v v504, .v (.int .i64 r5.1), .v (.int .i64 r8.1)]]) rfl rfl rfl rfl rfl rfl (cells_v v504o) rfl (le_ble rfl) rfl rfl (AP.ofAO ?_)))))))))))
 refine AO.nil ?_
 exact ⟨_, _, ⟨(r499.2.L_, r499.2.At, j483.2.2, l502), v484, v504, h, rfl, rfl⟩, ⟨rfl, rfl, rfl, rfl, rfl, trivial⟩, [0, 1, 2, 3, 4, 5, 6], rfl, by decide⟩
 refine AP.act [] rfl rfl rfl (AX.litF (sz := 1) (es := ([0, 100000, 400000] : List Int).map rI) rfl rfl rfl rfl rfl rfl rfl rfl rfl rfl rfl (dst_some rfl) (AP.act [] rfl rfl rfl (AX.litF (sz := 1) (es := ([0, 200, 100000] : List Int).map rI) rfl rfl rfl rfl rfl rfl rfl rfl rfl rfl rfl (dst_some rfl) (AP.act [0] rfl rfl rfl (AX.callG [0] rfl rfl rfl rfl (by decide) (L.keep_Src_Pick_ok b0 r493.2 ([0, 200, 100000] : List Int) _ hx497) (dst_some rfl) ?_)))))
 rintro _ _ _ - ⟨rfl, rfl, rfl⟩
 refine AP.act [0] rfl rfl rfl (AX.callG [0] rfl rfl rfl rfl (by decide) (L.keep_Src_Pick_ok b0 r496.2 ([0, 100000, 400000] : List Int) _ hx500) (dst_some rfl) ?_)
 rintro _ _ _ - ⟨rfl, rfl, rfl⟩
 refine AP.p rfl (Yp.buildP (l := [.v (.string r490), .v (.int .i64 st371.2.2.2.2), .v (.int .i64 r493.1), .v (.int .i64 r496.1), .v (.int .i64 r499.1)]) Try.bld97 rfl) rfl (AP.act [] rfl rfl rfl (AX.litF (sz := 5) (es := ([(⟨r490, st371.2.2.2.2, r493.1, r496.1, r499.1⟩ : Station)] : List Station).map Station.row) rfl rfl rfl rfl rfl rfl rfl rfl rfl rfl rfl (dst_some rfl) (AP.act [6] rfl rfl rfl (AX.appendU 6 rfl rfl rfl rfl rfl rfl rfl rfl rfl (AppSrc.list rfl) (app_len (app_some hx503).1) (app_map (app_some hx503).2) (dst_some rfl) (fun v504 => (AP.op rfl (Yp.fieldPtr rfl rfl rfl rfl rfl rfl) rfl (AP.one 6 rfl (fun v504o => (AP.drop [2] rfl rfl rfl (AX.store 2 0 3 (es' := [[.v v47, .v v136, .v v484, .v v504, .v (.int .i64 r5.1), .v (.int .i64 r8.1)]]) rfl rfl rfl rfl rfl rfl (cells_v v504o) rfl (le_ble rfl) rfl rfl (AP.ofAO ?_)))))))))))
 refine AO.nil ?_
 exact ⟨_, _, ⟨(r499.2.L_, r499.2.At, j483.2.2, l502), v484, v504, h, rfl, rfl⟩, ⟨rfl, rfl, rfl, rfl, rfl, trivial⟩, [0, 1, 2, 3, 4, 5, 6], rfl, by decide⟩
 refine AP.act [] rfl rfl rfl (AX.litF (sz := 1) (es := ([0, 200, 100000] : List Int).map rI) rfl rfl rfl rfl rfl rfl rfl rfl rfl rfl rfl (dst_some rfl) (AP.two ?_ ?_))
 refine AP.act [0] rfl rfl rfl (AX.callG [0] rfl rfl rfl rfl (by decide) (L.keep_Src_Pick_ok b0 (⟨j488.1, j488.2.1⟩ : batchlinekeep_Src) ([500000, 2000000, 0] : List Int) _ hx494) (dst_some rfl) ?_)
 rintro _ _ _ - ⟨rfl, rfl, rfl⟩
 refine AP.two ?_ ?_
 refine AP.act [0] rfl rfl rfl (AX.callG [0] rfl rfl rfl rfl (by decide) (L.keep_Src_Pick_ok b0 r493.2 ([0, 200, 100000] : List Int) _ hx497) (dst_some rfl) ?_)
 rintro _ _ _ - ⟨rfl, rfl, rfl⟩
 refine AP.act [] rfl rfl rfl (AX.litF (sz := 1) (es := ([0, 100000, 400000] : List Int).map rI) rfl rfl rfl rfl rfl rfl rfl rfl rfl rfl rfl (dst_some rfl) (AP.act [0] rfl rfl rfl (AX.callG [0] rfl rfl rfl rfl (by decide) (L.keep_Src_Pick_ok b0 r496.2 ([0, 100000, 400000] : List Int) _ hx500) (dst_some rfl) ?_)))
 rintro _ _ _ - ⟨rfl, rfl, rfl⟩
 refine AP.p rfl (Yp.buildP (l := [.v (.string r490), .v (.int .i64 st371.2.2.2.2), .v (.int .i64 r493.1), .v (.int .i64 r496.1), .v (.int .i64 r499.1)]) Try.bld97 rfl) rfl (AP.act [] rfl rfl rfl (AX.litF (sz := 5) (es := ([(⟨r490, st371.2.2.2.2, r493.1, r496.1, r499.1⟩ : Station)] : List Station).map Station.row) rfl rfl rfl rfl rfl rfl rfl rfl rfl rfl rfl (dst_some rfl) (AP.act [6] rfl rfl rfl (AX.appendU 6 rfl rfl rfl rfl rfl rfl rfl rfl rfl (AppSrc.list rfl) (app_len (app_some hx503).1) (app_map (app_some hx503).2) (dst_some rfl) (fun v504 => (AP.op rfl (Yp.fieldPtr rfl rfl rfl rfl rfl rfl) rfl (AP.one 6 rfl (fun v504o => (AP.drop [2] rfl rfl rfl (AX.store 2 0 3 (es' := [[.v v47, .v v136, .v v484, .v v504, .v (.int .i64 r5.1), .v (.int .i64 r8.1)]]) rfl rfl rfl rfl rfl rfl (cells_v v504o) rfl (le_ble rfl) rfl rfl (AP.ofAO ?_)))))))))))
 refine AO.nil ?_
 exact ⟨_, _, ⟨(r499.2.L_, r499.2.At, j483.2.2, l502), v484, v504, h, rfl, rfl⟩, ⟨rfl, rfl, rfl, rfl, rfl, trivial⟩, [0, 1, 2, 3, 4, 5, 6], rfl, by decide⟩
 refine AP.act [] rfl rfl rfl (AX.litF (sz := 1) (es := ([0, 100000, 400000] : List Int).map rI) rfl rfl rfl rfl rfl rfl rfl rfl rfl rfl rfl (dst_some rfl) (AP.act [0] rfl rfl rfl (AX.callG [0] rfl rfl rfl rfl (by decide) (L.keep_Src_Pick_ok b0 r493.2 ([0, 200, 100000] : List Int) _ hx497) (dst_some rfl) ?_)))
 rintro _ _ _ - ⟨rfl, rfl, rfl⟩
 refine AP.act [0] rfl rfl rfl (AX.callG [0] rfl rfl rfl rfl (by decide) (L.keep_Src_Pick_ok b0 r496.2 ([0, 100000, 400000] : List Int) _ hx500) (dst_some rfl) ?_)
 rintro _ _ _ - ⟨rfl, rfl, rfl⟩
 refine AP.p rfl (Yp.buildP (l := [.v (.string r490), .v (.int .i64 st371.2.2.2.2), .v (.int .i64 r493.1), .v (.int .i64 r496.1), .v (.int .i64 r499.1)]) Try.bld97 rfl) rfl (AP.act [] rfl rfl rfl (AX.litF (sz := 5) (es := ([(⟨r490, st371.2.2.2.2, r493.1, r496.1, r499.1⟩ : Station)] : List Station).map Station.row) rfl rfl rfl rfl rfl rfl rfl rfl rfl rfl rfl (dst_some rfl) (AP.act [6] rfl rfl rfl (AX.appendU 6 rfl rfl rfl rfl rfl rfl rfl rfl rfl (AppSrc.list rfl) (app_len (app_some hx503).1) (app_map (app_some hx503).2) (dst_some rfl) (fun v504 => (AP.op rfl (Yp.fieldPtr rfl rfl rfl rfl rfl rfl) rfl (AP.one 6 rfl (fun v504o => (AP.drop [2] rfl rfl rfl (AX.store 2 0 3 (es' := [[.v v47, .v v136, .v v484, .v v504, .v (.int .i64 r5.1), .v (.int .i64 r8.1)]]) rfl rfl rfl rfl rfl rfl (cells_v v504o) rfl (le_ble rfl) rfl rfl (AP.ofAO ?_)))))))))))
 refine AO.nil ?_
 exact ⟨_, _, ⟨(r499.2.L_, r499.2.At, j483.2.2, l502), v484, v504, h, rfl, rfl⟩, ⟨rfl, rfl, rfl, rfl, rfl, trivial⟩, [0, 1, 2, 3, 4, 5, 6], rfl, by decide⟩
 refine AP.act [] rfl rfl rfl (AX.litF (sz := 1) (es := ([0, 100000, 400000] : List Int).map rI) rfl rfl rfl rfl rfl rfl rfl rfl rfl rfl rfl (dst_some rfl) (AP.act [0] rfl rfl rfl (AX.callG [0] rfl rfl rfl rfl (by decide) (L.keep_Src_Pick_ok b0 (⟨j488.1, j488.2.1⟩ : batchlinekeep_Src) ([500000, 2000000, 0] : List Int) _ hx494) (dst_some rfl) ?_)))
 rintro _ _ _ - ⟨rfl, rfl, rfl⟩
 refine AP.act [0] rfl rfl rfl (AX.callG [0] rfl rfl rfl rfl (by decide) (L.keep_Src_Pick_ok b0 r493.2 ([0, 200, 100000] : List Int) _ hx497) (dst_some rfl) ?_)
 rintro _ _ _ - ⟨rfl, rfl, rfl⟩
 refine AP.act [0] rfl rfl rfl (AX.callG [0] rfl rfl rfl rfl (by decide) (L.keep_Src_Pick_ok b0 r496.2 ([0, 100000, 400000] : List Int) _ hx500) (dst_some rfl) ?_)
 rintro _ _ _ - ⟨rfl, rfl, rfl⟩
 refine AP.p rfl (Yp.buildP (l := [.v (.string r490), .v (.int .i64 st371.2.2.2.2), .v (.int .i64 r493.1), .v (.int .i64 r496.1), .v (.int .i64 r499.1)]) Try.bld97 rfl) rfl (AP.act [] rfl rfl rfl (AX.litF (sz := 5) (es := ([(⟨r490, st371.2.2.2.2, r493.1, r496.1, r499.1⟩ : Station)] : List Station).map Station.row) rfl rfl rfl rfl rfl rfl rfl rfl rfl rfl rfl (dst_some rfl) (AP.act [6] rfl rfl rfl (AX.appendU 6 rfl rfl rfl rfl rfl rfl rfl rfl rfl (AppSrc.list rfl) (app_len (app_some hx503).1) (app_map (app_some hx503).2) (dst_some rfl) (fun v504 => (AP.op rfl (Yp.fieldPtr rfl rfl rfl rfl rfl rfl) rfl (AP.one 6 rfl (fun v504o => (AP.drop [2] rfl rfl rfl (AX.store 2 0 3 (es' := [[.v v47, .v v136, .v v484, .v v504, .v (.int .i64 r5.1), .v (.int .i64 r8.1)]]) rfl rfl rfl rfl rfl rfl (cells_v v504o) rfl (le_ble rfl) rfl rfl (AP.ofAO ?_)))))))))))
 refine AO.nil ?_
 exact ⟨_, _, ⟨(r499.2.L_, r499.2.At, j483.2.2, l502), v484, v504, h, rfl, rfl⟩, ⟨rfl, rfl, rfl, rfl, rfl, trivial⟩, [0, 1, 2, 3, 4, 5, 6], rfl, by decide⟩
 refine AP.act [] rfl rfl rfl (AX.litF (sz := 1) (es := ([0, 100000, 400000] : List Int).map rI) rfl rfl rfl rfl rfl rfl rfl rfl rfl rfl rfl (dst_some rfl) (AP.two ?_ ?_))
 refine AP.act [0] rfl rfl rfl (AX.callG [0] rfl rfl rfl rfl (by decide) (L.keep_Src_Pick_ok b0 (⟨j488.1, j488.2.1⟩ : batchlinekeep_Src) ([500000, 2000000, 0] : List Int) _ hx494) (dst_some rfl) ?_)
 rintro _ _ _ - ⟨rfl, rfl, rfl⟩
 refine AP.act [] rfl rfl rfl (AX.litF (sz := 1) (es := ([0, 200, 100000] : List Int).map rI) rfl rfl rfl rfl rfl rfl rfl rfl rfl rfl rfl (dst_some rfl) (AP.act [0] rfl rfl rfl (AX.callG [0] rfl rfl rfl rfl (by decide) (L.keep_Src_Pick_ok b0 r493.2 ([0, 200, 100000] : List Int) _ hx497) (dst_some rfl) ?_)))
 rintro _ _ _ - ⟨rfl, rfl, rfl⟩
 refine AP.act [0] rfl rfl rfl (AX.callG [0] rfl rfl rfl rfl (by decide) (L.keep_Src_Pick_ok b0 r496.2 ([0, 100000, 400000] : List Int) _ hx500) (dst_some rfl) ?_)
 rintro _ _ _ - ⟨rfl, rfl, rfl⟩
 refine AP.p rfl (Yp.buildP (l := [.v (.string r490), .v (.int .i64 st371.2.2.2.2), .v (.int .i64 r493.1), .v (.int .i64 r496.1), .v (.int .i64 r499.1)]) Try.bld97 rfl) rfl (AP.act [] rfl rfl rfl (AX.litF (sz := 5) (es := ([(⟨r490, st371.2.2.2.2, r493.1, r496.1, r499.1⟩ : Station)] : List Station).map Station.row) rfl rfl rfl rfl rfl rfl rfl rfl rfl rfl rfl (dst_some rfl) (AP.act [6] rfl rfl rfl (AX.appendU 6 rfl rfl rfl rfl rfl rfl rfl rfl rfl (AppSrc.list rfl) (app_len (app_some hx503).1) (app_map (app_some hx503).2) (dst_some rfl) (fun v504 => (AP.op rfl (Yp.fieldPtr rfl rfl rfl rfl rfl rfl) rfl (AP.one 6 rfl (fun v504o => (AP.drop [2] rfl rfl rfl (AX.store 2 0 3 (es' := [[.v v47, .v v136, .v v484, .v v504, .v (.int .i64 r5.1), .v (.int .i64 r8.1)]]) rfl rfl rfl rfl rfl rfl (cells_v v504o) rfl (le_ble rfl) rfl rfl (AP.ofAO ?_)))))))))))
 refine AO.nil ?_
 exact ⟨_, _, ⟨(r499.2.L_, r499.2.At, j483.2.2, l502), v484, v504, h, rfl, rfl⟩, ⟨rfl, rfl, rfl, rfl, rfl, trivial⟩, [0, 1, 2, 3, 4, 5, 6], rfl, by decide⟩
 refine AP.act [] rfl rfl rfl (AX.litF (sz := 1) (es := ([0, 200, 100000] : List Int).map rI) rfl rfl rfl rfl rfl rfl rfl rfl rfl rfl rfl (dst_some rfl) (AP.act [0] rfl rfl rfl (AX.callG [0] rfl rfl rfl rfl (by decide) (L.keep_Src_Pick_ok b0 (⟨j488.1, j488.2.1⟩ : batchlinekeep_Src) ([500000, 2000000, 0] : List Int) _ hx494) (dst_some rfl) ?_)))
 rintro _ _ _ - ⟨rfl, rfl, rfl⟩
 refine AP.act [0] rfl rfl rfl (AX.callG [0] rfl rfl rfl rfl (by decide) (L.keep_Src_Pick_ok b0 r493.2 ([0, 200, 100000] : List Int) _ hx497) (dst_some rfl) ?_)
 rintro _ _ _ - ⟨rfl, rfl, rfl⟩
 refine AP.act [0] rfl rfl rfl (AX.callG [0] rfl rfl rfl rfl (by decide) (L.keep_Src_Pick_ok b0 r496.2 ([0, 100000, 400000] : List Int) _ hx500) (dst_some rfl) ?_)
 rintro _ _ _ - ⟨rfl, rfl, rfl⟩
 refine AP.p rfl (Yp.buildP (l := [.v (.string r490), .v (.int .i64 st371.2.2.2.2), .v (.int .i64 r493.1), .v (.int .i64 r496.1), .v (.int .i64 r499.1)]) Try.bld97 rfl) rfl (AP.act [] rfl rfl rfl (AX.litF (sz := 5) (es := ([(⟨r490, st371.2.2.2.2, r493.1, r496.1, r499.1⟩ : Station)] : List Station).map Station.row) rfl rfl rfl rfl rfl rfl rfl rfl rfl rfl rfl (dst_some rfl) (AP.act [6] rfl rfl rfl (AX.appendU 6 rfl rfl rfl rfl rfl rfl rfl rfl rfl (AppSrc.list rfl) (app_len (app_some hx503).1) (app_map (app_some hx503).2) (dst_some rfl) (fun v504 => (AP.op rfl (Yp.fieldPtr rfl rfl rfl rfl rfl rfl) rfl (AP.one 6 rfl (fun v504o => (AP.drop [2] rfl rfl rfl (AX.store 2 0 3 (es' := [[.v v47, .v v136, .v v484, .v v504, .v (.int .i64 r5.1), .v (.int .i64 r8.1)]]) rfl rfl rfl rfl rfl rfl (cells_v v504o) rfl (le_ble rfl) rfl rfl (AP.ofAO ?_)))))))))))
 refine AO.nil ?_
 exact ⟨_, _, ⟨(r499.2.L_, r499.2.At, j483.2.2, l502), v484, v504, h, rfl, rfl⟩, ⟨rfl, rfl, rfl, rfl, rfl, trivial⟩, [0, 1, 2, 3, 4, 5, 6], rfl, by decide⟩
 refine AP.act [] rfl rfl rfl (AX.litF (sz := 1) (es := ([0, 200, 100000] : List Int).map rI) rfl rfl rfl rfl rfl rfl rfl rfl rfl rfl rfl (dst_some rfl) (AP.two ?_ ?_))
 refine AP.act [] rfl rfl rfl (AX.callL rfl (.refl _) rfl rfl (.rest _) rfl (L.keep_name_ok (⟨#[115]⟩ : ByteArray) (st371.2.2.2.1.length : Int) _ hx491) (dst_some rfl) (by rintro _ _ ⟨rfl, _⟩; rfl) ?_)
 rintro _ ⟨_, rfl, -⟩
 refine AP.two ?_ ?_
 refine AP.act [0] rfl rfl rfl (AX.callG [0] rfl rfl rfl rfl (by decide) (L.keep_Src_Pick_ok b0 (⟨j488.1, j488.2.1⟩ : batchlinekeep_Src) ([500000, 2000000, 0] : List Int) _ hx494) (dst_some rfl) ?_)
 rintro _ _ _ - ⟨rfl, rfl, rfl⟩
 refine AP.two ?_ ?_
 refine AP.act [0] rfl rfl rfl (AX.callG [0] rfl rfl rfl rfl (by decide) (L.keep_Src_Pick_ok b0 r493.2 ([0, 200, 100000] : List Int) _ hx497) (dst_some rfl) ?_)
 rintro _ _ _ - ⟨rfl, rfl, rfl⟩
 refine AP.act [] rfl rfl rfl (AX.litF (sz := 1) (es := ([0, 100000, 400000] : List Int).map rI) rfl rfl rfl rfl rfl rfl rfl rfl rfl rfl rfl (dst_some rfl) (AP.act [0] rfl rfl rfl (AX.callG [0] rfl rfl rfl rfl (by decide) (L.keep_Src_Pick_ok b0 r496.2 ([0, 100000, 400000] : List Int) _ hx500) (dst_some rfl) ?_)))
 rintro _ _ _ - ⟨rfl, rfl, rfl⟩
 refine AP.p rfl (Yp.buildP (l := [.v (.string r490), .v (.int .i64 st371.2.2.2.2), .v (.int .i64 r493.1), .v (.int .i64 r496.1), .v (.int .i64 r499.1)]) Try.bld97 rfl) rfl (AP.act [] rfl rfl rfl (AX.litF (sz := 5) (es := ([(⟨r490, st371.2.2.2.2, r493.1, r496.1, r499.1⟩ : Station)] : List Station).map Station.row) rfl rfl rfl rfl rfl rfl rfl rfl rfl rfl rfl (dst_some rfl) (AP.act [6] rfl rfl rfl (AX.appendU 6 rfl rfl rfl rfl rfl rfl rfl rfl rfl (AppSrc.list rfl) (app_len (app_some hx503).1) (app_map (app_some hx503).2) (dst_some rfl) (fun v504 => (AP.op rfl (Yp.fieldPtr rfl rfl rfl rfl rfl rfl) rfl (AP.one 6 rfl (fun v504o => (AP.drop [2] rfl rfl rfl (AX.store 2 0 3 (es' := [[.v v47, .v v136, .v v484, .v v504, .v (.int .i64 r5.1), .v (.int .i64 r8.1)]]) rfl rfl rfl rfl rfl rfl (cells_v v504o) rfl (le_ble rfl) rfl rfl (AP.ofAO ?_)))))))))))
 refine AO.nil ?_
 exact ⟨_, _, ⟨(r499.2.L_, r499.2.At, j483.2.2, l502), v484, v504, h, rfl, rfl⟩, ⟨rfl, rfl, rfl, rfl, rfl, trivial⟩, [0, 1, 2, 3, 4, 5, 6], rfl, by decide⟩
 refine AP.act [] rfl rfl rfl (AX.litF (sz := 1) (es := ([0, 100000, 400000] : List Int).map rI) rfl rfl rfl rfl rfl rfl rfl rfl rfl rfl rfl (dst_some rfl) (AP.act [0] rfl rfl rfl (AX.callG [0] rfl rfl rfl rfl (by decide) (L.keep_Src_Pick_ok b0 r493.2 ([0, 200, 100000] : List Int) _ hx497) (dst_some rfl) ?_)))
 rintro _ _ _ - ⟨rfl, rfl, rfl⟩
 refine AP.act [0] rfl rfl rfl (AX.callG [0] rfl rfl rfl rfl (by decide) (L.keep_Src_Pick_ok b0 r496.2 ([0, 100000, 400000] : List Int) _ hx500) (dst_some rfl) ?_)
 rintro _ _ _ - ⟨rfl, rfl, rfl⟩
 refine AP.p rfl (Yp.buildP (l := [.v (.string r490), .v (.int .i64 st371.2.2.2.2), .v (.int .i64 r493.1), .v (.int .i64 r496.1), .v (.int .i64 r499.1)]) Try.bld97 rfl) rfl (AP.act [] rfl rfl rfl (AX.litF (sz := 5) (es := ([(⟨r490, st371.2.2.2.2, r493.1, r496.1, r499.1⟩ : Station)] : List Station).map Station.row) rfl rfl rfl rfl rfl rfl rfl rfl rfl rfl rfl (dst_some rfl) (AP.act [6] rfl rfl rfl (AX.appendU 6 rfl rfl rfl rfl rfl rfl rfl rfl rfl (AppSrc.list rfl) (app_len (app_some hx503).1) (app_map (app_some hx503).2) (dst_some rfl) (fun v504 => (AP.op rfl (Yp.fieldPtr rfl rfl rfl rfl rfl rfl) rfl (AP.one 6 rfl (fun v504o => (AP.drop [2] rfl rfl rfl (AX.store 2 0 3 (es' := [[.v v47, .v v136, .v v484, .v v504, .v (.int .i64 r5.1), .v (.int .i64 r8.1)]]) rfl rfl rfl rfl rfl rfl (cells_v v504o) rfl (le_ble rfl) rfl rfl (AP.ofAO ?_)))))))))))
 refine AO.nil ?_
 exact ⟨_, _, ⟨(r499.2.L_, r499.2.At, j483.2.2, l502), v484, v504, h, rfl, rfl⟩, ⟨rfl, rfl, rfl, rfl, rfl, trivial⟩, [0, 1, 2, 3, 4, 5, 6], rfl, by decide⟩
 refine AP.act [] rfl rfl rfl (AX.litF (sz := 1) (es := ([0, 100000, 400000] : List Int).map rI) rfl rfl rfl rfl rfl rfl rfl rfl rfl rfl rfl (dst_some rfl) (AP.act [0] rfl rfl rfl (AX.callG [0] rfl rfl rfl rfl (by decide) (L.keep_Src_Pick_ok b0 (⟨j488.1, j488.2.1⟩ : batchlinekeep_Src) ([500000, 2000000, 0] : List Int) _ hx494) (dst_some rfl) ?_)))
 rintro _ _ _ - ⟨rfl, rfl, rfl⟩
 refine AP.act [0] rfl rfl rfl (AX.callG [0] rfl rfl rfl rfl (by decide) (L.keep_Src_Pick_ok b0 r493.2 ([0, 200, 100000] : List Int) _ hx497) (dst_some rfl) ?_)
 rintro _ _ _ - ⟨rfl, rfl, rfl⟩
 refine AP.act [0] rfl rfl rfl (AX.callG [0] rfl rfl rfl rfl (by decide) (L.keep_Src_Pick_ok b0 r496.2 ([0, 100000, 400000] : List Int) _ hx500) (dst_some rfl) ?_)
 rintro _ _ _ - ⟨rfl, rfl, rfl⟩
 refine AP.p rfl (Yp.buildP (l := [.v (.string r490), .v (.int .i64 st371.2.2.2.2), .v (.int .i64 r493.1), .v (.int .i64 r496.1), .v (.int .i64 r499.1)]) Try.bld97 rfl) rfl (AP.act [] rfl rfl rfl (AX.litF (sz := 5) (es := ([(⟨r490, st371.2.2.2.2, r493.1, r496.1, r499.1⟩ : Station)] : List Station).map Station.row) rfl rfl rfl rfl rfl rfl rfl rfl rfl rfl rfl (dst_some rfl) (AP.act [6] rfl rfl rfl (AX.appendU 6 rfl rfl rfl rfl rfl rfl rfl rfl rfl (AppSrc.list rfl) (app_len (app_some hx503).1) (app_map (app_some hx503).2) (dst_some rfl) (fun v504 => (AP.op rfl (Yp.fieldPtr rfl rfl rfl rfl rfl rfl) rfl (AP.one 6 rfl (fun v504o => (AP.drop [2] rfl rfl rfl (AX.store 2 0 3 (es' := [[.v v47, .v v136, .v v484, .v v504, .v (.int .i64 r5.1), .v (.int .i64 r8.1)]]) rfl rfl rfl rfl rfl rfl (cells_v v504o) rfl (le_ble rfl) rfl rfl (AP.ofAO ?_)))))))))))
 refine AO.nil ?_
 exact ⟨_, _, ⟨(r499.2.L_, r499.2.At, j483.2.2, l502), v484, v504, h, rfl, rfl⟩, ⟨rfl, rfl, rfl, rfl, rfl, trivial⟩, [0, 1, 2, 3, 4, 5, 6], rfl, by decide⟩
 refine AP.act [] rfl rfl rfl (AX.litF (sz := 1) (es := ([0, 100000, 400000] : List Int).map rI) rfl rfl rfl rfl rfl rfl rfl rfl rfl rfl rfl (dst_some rfl) (AP.act [] rfl rfl rfl (AX.callL rfl (.refl _) rfl rfl (.rest _) rfl (L.keep_name_ok (⟨#[115]⟩ : ByteArray) (st371.2.2.2.1.length : Int) _ hx491) (dst_some rfl) (by rintro _ _ ⟨rfl, _⟩; rfl) ?_)))
 rintro _ ⟨_, rfl, -⟩
 refine AP.act [0] rfl rfl rfl (AX.callG [0] rfl rfl rfl rfl (by decide) (L.keep_Src_Pick_ok b0 (⟨j488.1, j488.2.1⟩ : batchlinekeep_Src) ([500000, 2000000, 0] : List Int) _ hx494) (dst_some rfl) ?_)
 rintro _ _ _ - ⟨rfl, rfl, rfl⟩
 refine AP.act [0] rfl rfl rfl (AX.callG [0] rfl rfl rfl rfl (by decide) (L.keep_Src_Pick_ok b0 r493.2 ([0, 200, 100000] : List Int) _ hx497) (dst_some rfl) ?_)
 rintro _ _ _ - ⟨rfl, rfl, rfl⟩
 refine AP.act [0] rfl rfl rfl (AX.callG [0] rfl rfl rfl rfl (by decide) (L.keep_Src_Pick_ok b0 r496.2 ([0, 100000, 400000] : List Int) _ hx500) (dst_some rfl) ?_)
 rintro _ _ _ - ⟨rfl, rfl, rfl⟩
 refine AP.p rfl (Yp.buildP (l := [.v (.string r490), .v (.int .i64 st371.2.2.2.2), .v (.int .i64 r493.1), .v (.int .i64 r496.1), .v (.int .i64 r499.1)]) Try.bld97 rfl) rfl (AP.act [] rfl rfl rfl (AX.litF (sz := 5) (es := ([(⟨r490, st371.2.2.2.2, r493.1, r496.1, r499.1⟩ : Station)] : List Station).map Station.row) rfl rfl rfl rfl rfl rfl rfl rfl rfl rfl rfl (dst_some rfl) (AP.act [6] rfl rfl rfl (AX.appendU 6 rfl rfl rfl rfl rfl rfl rfl rfl rfl (AppSrc.list rfl) (app_len (app_some hx503).1) (app_map (app_some hx503).2) (dst_some rfl) (fun v504 => (AP.op rfl (Yp.fieldPtr rfl rfl rfl rfl rfl rfl) rfl (AP.one 6 rfl (fun v504o => (AP.drop [2] rfl rfl rfl (AX.store 2 0 3 (es' := [[.v v47, .v v136, .v v484, .v v504, .v (.int .i64 r5.1), .v (.int .i64 r8.1)]]) rfl rfl rfl rfl rfl rfl (cells_v v504o) rfl (le_ble rfl) rfl rfl (AP.ofAO ?_)))))))))))
 refine AO.nil ?_
 exact ⟨_, _, ⟨(r499.2.L_, r499.2.At, j483.2.2, l502), v484, v504, h, rfl, rfl⟩, ⟨rfl, rfl, rfl, rfl, rfl, trivial⟩, [0, 1, 2, 3, 4, 5, 6], rfl, by decide⟩
 refine AP.act [] rfl rfl rfl (AX.litF (sz := 1) (es := ([0, 100000, 400000] : List Int).map rI) rfl rfl rfl rfl rfl rfl rfl rfl rfl rfl rfl (dst_some rfl) (AP.two ?_ ?_))
 refine AP.act [] rfl rfl rfl (AX.callL rfl (.refl _) rfl rfl (.rest _) rfl (L.keep_name_ok (⟨#[115]⟩ : ByteArray) (st371.2.2.2.1.length : Int) _ hx491) (dst_some rfl) (by rintro _ _ ⟨rfl, _⟩; rfl) ?_)
 rintro _ ⟨_, rfl, -⟩
 refine AP.two ?_ ?_
 refine AP.act [0] rfl rfl rfl (AX.callG [0] rfl rfl rfl rfl (by decide) (L.keep_Src_Pick_ok b0 (⟨j488.1, j488.2.1⟩ : batchlinekeep_Src) ([500000, 2000000, 0] : List Int) _ hx494) (dst_some rfl) ?_)
 rintro _ _ _ - ⟨rfl, rfl, rfl⟩
 refine AP.act [] rfl rfl rfl (AX.litF (sz := 1) (es := ([0, 200, 100000] : List Int).map rI) rfl rfl rfl rfl rfl rfl rfl rfl rfl rfl rfl (dst_some rfl) (AP.act [0] rfl rfl rfl (AX.callG [0] rfl rfl rfl rfl (by decide) (L.keep_Src_Pick_ok b0 r493.2 ([0, 200, 100000] : List Int) _ hx497) (dst_some rfl) ?_)))
 rintro _ _ _ - ⟨rfl, rfl, rfl⟩
 refine AP.act [0] rfl rfl rfl (AX.callG [0] rfl rfl rfl rfl (by decide) (L.keep_Src_Pick_ok b0 r496.2 ([0, 100000, 400000] : List Int) _ hx500) (dst_some rfl) ?_)
 rintro _ _ _ - ⟨rfl, rfl, rfl⟩
 refine AP.p rfl (Yp.buildP (l := [.v (.string r490), .v (.int .i64 st371.2.2.2.2), .v (.int .i64 r493.1), .v (.int .i64 r496.1), .v (.int .i64 r499.1)]) Try.bld97 rfl) rfl (AP.act [] rfl rfl rfl (AX.litF (sz := 5) (es := ([(⟨r490, st371.2.2.2.2, r493.1, r496.1, r499.1⟩ : Station)] : List Station).map Station.row) rfl rfl rfl rfl rfl rfl rfl rfl rfl rfl rfl (dst_some rfl) (AP.act [6] rfl rfl rfl (AX.appendU 6 rfl rfl rfl rfl rfl rfl rfl rfl rfl (AppSrc.list rfl) (app_len (app_some hx503).1) (app_map (app_some hx503).2) (dst_some rfl) (fun v504 => (AP.op rfl (Yp.fieldPtr rfl rfl rfl rfl rfl rfl) rfl (AP.one 6 rfl (fun v504o => (AP.drop [2] rfl rfl rfl (AX.store 2 0 3 (es' := [[.v v47, .v v136, .v v484, .v v504, .v (.int .i64 r5.1), .v (.int .i64 r8.1)]]) rfl rfl rfl rfl rfl rfl (cells_v v504o) rfl (le_ble rfl) rfl rfl (AP.ofAO ?_)))))))))))
 refine AO.nil ?_
 exact ⟨_, _, ⟨(r499.2.L_, r499.2.At, j483.2.2, l502), v484, v504, h, rfl, rfl⟩, ⟨rfl, rfl, rfl, rfl, rfl, trivial⟩, [0, 1, 2, 3, 4, 5, 6], rfl, by decide⟩
 refine AP.act [] rfl rfl rfl (AX.litF (sz := 1) (es := ([0, 200, 100000] : List Int).map rI) rfl rfl rfl rfl rfl rfl rfl rfl rfl rfl rfl (dst_some rfl) (AP.act [0] rfl rfl rfl (AX.callG [0] rfl rfl rfl rfl (by decide) (L.keep_Src_Pick_ok b0 (⟨j488.1, j488.2.1⟩ : batchlinekeep_Src) ([500000, 2000000, 0] : List Int) _ hx494) (dst_some rfl) ?_)))
 rintro _ _ _ - ⟨rfl, rfl, rfl⟩
 refine AP.act [0] rfl rfl rfl (AX.callG [0] rfl rfl rfl rfl (by decide) (L.keep_Src_Pick_ok b0 r493.2 ([0, 200, 100000] : List Int) _ hx497) (dst_some rfl) ?_)
 rintro _ _ _ - ⟨rfl, rfl, rfl⟩
 refine AP.act [0] rfl rfl rfl (AX.callG [0] rfl rfl rfl rfl (by decide) (L.keep_Src_Pick_ok b0 r496.2 ([0, 100000, 400000] : List Int) _ hx500) (dst_some rfl) ?_)
 rintro _ _ _ - ⟨rfl, rfl, rfl⟩
 refine AP.p rfl (Yp.buildP (l := [.v (.string r490), .v (.int .i64 st371.2.2.2.2), .v (.int .i64 r493.1), .v (.int .i64 r496.1), .v (.int .i64 r499.1)]) Try.bld97 rfl) rfl (AP.act [] rfl rfl rfl (AX.litF (sz := 5) (es := ([(⟨r490, st371.2.2.2.2, r493.1, r496.1, r499.1⟩ : Station)] : List Station).map Station.row) rfl rfl rfl rfl rfl rfl rfl rfl rfl rfl rfl (dst_some rfl) (AP.act [6] rfl rfl rfl (AX.appendU 6 rfl rfl rfl rfl rfl rfl rfl rfl rfl (AppSrc.list rfl) (app_len (app_some hx503).1) (app_map (app_some hx503).2) (dst_some rfl) (fun v504 => (AP.op rfl (Yp.fieldPtr rfl rfl rfl rfl rfl rfl) rfl (AP.one 6 rfl (fun v504o => (AP.drop [2] rfl rfl rfl (AX.store 2 0 3 (es' := [[.v v47, .v v136, .v v484, .v v504, .v (.int .i64 r5.1), .v (.int .i64 r8.1)]]) rfl rfl rfl rfl rfl rfl (cells_v v504o) rfl (le_ble rfl) rfl rfl (AP.ofAO ?_)))))))))))
 refine AO.nil ?_
 exact ⟨_, _, ⟨(r499.2.L_, r499.2.At, j483.2.2, l502), v484, v504, h, rfl, rfl⟩, ⟨rfl, rfl, rfl, rfl, rfl, trivial⟩, [0, 1, 2, 3, 4, 5, 6], rfl, by decide⟩
 refine AP.act [] rfl rfl rfl (AX.litF (sz := 1) (es := ([0, 200, 100000] : List Int).map rI) rfl rfl rfl rfl rfl rfl rfl rfl rfl rfl rfl (dst_some rfl) (AP.act [] rfl rfl rfl (AX.callL rfl (.refl _) rfl rfl (.rest _) rfl (L.keep_name_ok (⟨#[115]⟩ : ByteArray) (st371.2.2.2.1.length : Int) _ hx491) (dst_some rfl) (by rintro _ _ ⟨rfl, _⟩; rfl) ?_)))
 rintro _ ⟨_, rfl, -⟩
 refine AP.act [0] rfl rfl rfl (AX.callG [0] rfl rfl rfl rfl (by decide) (L.keep_Src_Pick_ok b0 (⟨j488.1, j488.2.1⟩ : batchlinekeep_Src) ([500000, 2000000, 0] : List Int) _ hx494) (dst_some rfl) ?_)
 rintro _ _ _ - ⟨rfl, rfl, rfl⟩
 refine AP.act [0] rfl rfl rfl (AX.callG [0] rfl rfl rfl rfl (by decide) (L.keep_Src_Pick_ok b0 r493.2 ([0, 200, 100000] : List Int) _ hx497) (dst_some rfl) ?_)
 rintro _ _ _ - ⟨rfl, rfl, rfl⟩
 refine AP.act [0] rfl rfl rfl (AX.callG [0] rfl rfl rfl rfl (by decide) (L.keep_Src_Pick_ok b0 r496.2 ([0, 100000, 400000] : List Int) _ hx500) (dst_some rfl) ?_)
 rintro _ _ _ - ⟨rfl, rfl, rfl⟩
 refine AP.p rfl (Yp.buildP (l := [.v (.string r490), .v (.int .i64 st371.2.2.2.2), .v (.int .i64 r493.1), .v (.int .i64 r496.1), .v (.int .i64 r499.1)]) Try.bld97 rfl) rfl (AP.act [] rfl rfl rfl (AX.litF (sz := 5) (es := ([(⟨r490, st371.2.2.2.2, r493.1, r496.1, r499.1⟩ : Station)] : List Station).map Station.row) rfl rfl rfl rfl rfl rfl rfl rfl rfl rfl rfl (dst_some rfl) (AP.act [6] rfl rfl rfl (AX.appendU 6 rfl rfl rfl rfl rfl rfl rfl rfl rfl (AppSrc.list rfl) (app_len (app_some hx503).1) (app_map (app_some hx503).2) (dst_some rfl) (fun v504 => (AP.op rfl (Yp.fieldPtr rfl rfl rfl rfl rfl rfl) rfl (AP.one 6 rfl (fun v504o => (AP.drop [2] rfl rfl rfl (AX.store 2 0 3 (es' := [[.v v47, .v v136, .v v484, .v v504, .v (.int .i64 r5.1), .v (.int .i64 r8.1)]]) rfl rfl rfl rfl rfl rfl (cells_v v504o) rfl (le_ble rfl) rfl rfl (AP.ofAO ?_)))))))))))
 refine AO.nil ?_
 exact ⟨_, _, ⟨(r499.2.L_, r499.2.At, j483.2.2, l502), v484, v504, h, rfl, rfl⟩, ⟨rfl, rfl, rfl, rfl, rfl, trivial⟩, [0, 1, 2, 3, 4, 5, 6], rfl, by decide⟩
 refine AP.act [] rfl rfl rfl (AX.litF (sz := 1) (es := ([0, 200, 100000] : List Int).map rI) rfl rfl rfl rfl rfl rfl rfl rfl rfl rfl rfl (dst_some rfl) (AP.three ?_ ?_ ?_))
 refine AP.act [] rfl rfl rfl (AX.callL rfl (.refl _) rfl rfl (.rest _) rfl (L.keep_name_ok (⟨#[115]⟩ : ByteArray) (st371.2.2.2.1.length : Int) _ hx491) (dst_some rfl) (by rintro _ _ ⟨rfl, _⟩; rfl) ?_)
 rintro _ ⟨_, rfl, -⟩
 refine AP.two ?_ ?_
 refine AP.act [] rfl rfl rfl (AX.litF (sz := 1) (es := ([500000, 2000000, 0] : List Int).map rI) rfl rfl rfl rfl rfl rfl rfl rfl rfl rfl rfl (dst_some rfl) (AP.two ?_ ?_))
 refine AP.act [0] rfl rfl rfl (AX.callG [0] rfl rfl rfl rfl (by decide) (L.keep_Src_Pick_ok b0 (⟨j488.1, j488.2.1⟩ : batchlinekeep_Src) ([500000, 2000000, 0] : List Int) _ hx494) (dst_some rfl) ?_)
 rintro _ _ _ - ⟨rfl, rfl, rfl⟩
 refine AP.two ?_ ?_
 refine AP.act [0] rfl rfl rfl (AX.callG [0] rfl rfl rfl rfl (by decide) (L.keep_Src_Pick_ok b0 r493.2 ([0, 200, 100000] : List Int) _ hx497) (dst_some rfl) ?_)
 rintro _ _ _ - ⟨rfl, rfl, rfl⟩
 refine AP.act [] rfl rfl rfl (AX.litF (sz := 1) (es := ([0, 100000, 400000] : List Int).map rI) rfl rfl rfl rfl rfl rfl rfl rfl rfl rfl rfl (dst_some rfl) (AP.act [0] rfl rfl rfl (AX.callG [0] rfl rfl rfl rfl (by decide) (L.keep_Src_Pick_ok b0 r496.2 ([0, 100000, 400000] : List Int) _ hx500) (dst_some rfl) ?_)))
 rintro _ _ _ - ⟨rfl, rfl, rfl⟩
 refine AP.p rfl (Yp.buildP (l := [.v (.string r490), .v (.int .i64 st371.2.2.2.2), .v (.int .i64 r493.1), .v (.int .i64 r496.1), .v (.int .i64 r499.1)]) Try.bld97 rfl) rfl (AP.act [] rfl rfl rfl (AX.litF (sz := 5) (es := ([(⟨r490, st371.2.2.2.2, r493.1, r496.1, r499.1⟩ : Station)] : List Station).map Station.row) rfl rfl rfl rfl rfl rfl rfl rfl rfl rfl rfl (dst_some rfl) (AP.act [6] rfl rfl rfl (AX.appendU 6 rfl rfl rfl rfl rfl rfl rfl rfl rfl (AppSrc.list rfl) (app_len (app_some hx503).1) (app_map (app_some hx503).2) (dst_some rfl) (fun v504 => (AP.op rfl (Yp.fieldPtr rfl rfl rfl rfl rfl rfl) rfl (AP.one 6 rfl (fun v504o => (AP.drop [2] rfl rfl rfl (AX.store 2 0 3 (es' := [[.v v47, .v v136, .v v484, .v v504, .v (.int .i64 r5.1), .v (.int .i64 r8.1)]]) rfl rfl rfl rfl rfl rfl (cells_v v504o) rfl (le_ble rfl) rfl rfl (AP.ofAO ?_)))))))))))
 refine AO.nil ?_
 exact ⟨_, _, ⟨(r499.2.L_, r499.2.At, j483.2.2, l502), v484, v504, h, rfl, rfl⟩, ⟨rfl, rfl, rfl, rfl, rfl, trivial⟩, [0, 1, 2, 3, 4, 5, 6], rfl, by decide⟩
 refine AP.act [] rfl rfl rfl (AX.litF (sz := 1) (es := ([0, 100000, 400000] : List Int).map rI) rfl rfl rfl rfl rfl rfl rfl rfl rfl rfl rfl (dst_some rfl) (AP.act [0] rfl rfl rfl (AX.callG [0] rfl rfl rfl rfl (by decide) (L.keep_Src_Pick_ok b0 r493.2 ([0, 200, 100000] : List Int) _ hx497) (dst_some rfl) ?_)))
 rintro _ _ _ - ⟨rfl, rfl, rfl⟩
 refine AP.act [0] rfl rfl rfl (AX.callG [0] rfl rfl rfl rfl (by decide) (L.keep_Src_Pick_ok b0 r496.2 ([0, 100000, 400000] : List Int) _ hx500) (dst_some rfl) ?_)
 rintro _ _ _ - ⟨rfl, rfl, rfl⟩
 refine AP.p rfl (Yp.buildP (l := [.v (.string r490), .v (.int .i64 st371.2.2.2.2), .v (.int .i64 r493.1), .v (.int .i64 r496.1), .v (.int .i64 r499.1)]) Try.bld97 rfl) rfl (AP.act [] rfl rfl rfl (AX.litF (sz := 5) (es := ([(⟨r490, st371.2.2.2.2, r493.1, r496.1, r499.1⟩ : Station)] : List Station).map Station.row) rfl rfl rfl rfl rfl rfl rfl rfl rfl rfl rfl (dst_some rfl) (AP.act [6] rfl rfl rfl (AX.appendU 6 rfl rfl rfl rfl rfl rfl rfl rfl rfl (AppSrc.list rfl) (app_len (app_some hx503).1) (app_map (app_some hx503).2) (dst_some rfl) (fun v504 => (AP.op rfl (Yp.fieldPtr rfl rfl rfl rfl rfl rfl) rfl (AP.one 6 rfl (fun v504o => (AP.drop [2] rfl rfl rfl (AX.store 2 0 3 (es' := [[.v v47, .v v136, .v v484, .v v504, .v (.int .i64 r5.1), .v (.int .i64 r8.1)]]) rfl rfl rfl rfl rfl rfl (cells_v v504o) rfl (le_ble rfl) rfl rfl (AP.ofAO ?_)))))))))))
 refine AO.nil ?_
 exact ⟨_, _, ⟨(r499.2.L_, r499.2.At, j483.2.2, l502), v484, v504, h, rfl, rfl⟩, ⟨rfl, rfl, rfl, rfl, rfl, trivial⟩, [0, 1, 2, 3, 4, 5, 6], rfl, by decide⟩
 refine AP.act [] rfl rfl rfl (AX.litF (sz := 1) (es := ([0, 100000, 400000] : List Int).map rI) rfl rfl rfl rfl rfl rfl rfl rfl rfl rfl rfl (dst_some rfl) (AP.act [0] rfl rfl rfl (AX.callG [0] rfl rfl rfl rfl (by decide) (L.keep_Src_Pick_ok b0 (⟨j488.1, j488.2.1⟩ : batchlinekeep_Src) ([500000, 2000000, 0] : List Int) _ hx494) (dst_some rfl) ?_)))
 rintro _ _ _ - ⟨rfl, rfl, rfl⟩
 refine AP.act [0] rfl rfl rfl (AX.callG [0] rfl rfl rfl rfl (by decide) (L.keep_Src_Pick_ok b0 r493.2 ([0, 200, 100000] : List Int) _ hx497) (dst_some rfl) ?_)
 rintro _ _ _ - ⟨rfl, rfl, rfl⟩
 refine AP.act [0] rfl rfl rfl (AX.callG [0] rfl rfl rfl rfl (by decide) (L.keep_Src_Pick_ok b0 r496.2 ([0, 100000, 400000] : List Int) _ hx500) (dst_some rfl) ?_)
 rintro _ _ _ - ⟨rfl, rfl, rfl⟩
 refine AP.p rfl (Yp.buildP (l := [.v (.string r490), .v (.int .i64 st371.2.2.2.2), .v (.int .i64 r493.1), .v (.int .i64 r496.1), .v (.int .i64 r499.1)]) Try.bld97 rfl) rfl (AP.act [] rfl rfl rfl (AX.litF (sz := 5) (es := ([(⟨r490, st371.2.2.2.2, r493.1, r496.1, r499.1⟩ : Station)] : List Station).map Station.row) rfl rfl rfl rfl rfl rfl rfl rfl rfl rfl rfl (dst_some rfl) (AP.act [6] rfl rfl rfl (AX.appendU 6 rfl rfl rfl rfl rfl rfl rfl rfl rfl (AppSrc.list rfl) (app_len (app_some hx503).1) (app_map (app_some hx503).2) (dst_some rfl) (fun v504 => (AP.op rfl (Yp.fieldPtr rfl rfl rfl rfl rfl rfl) rfl (AP.one 6 rfl (fun v504o => (AP.drop [2] rfl rfl rfl (AX.store 2 0 3 (es' := [[.v v47, .v v136, .v v484, .v v504, .v (.int .i64 r5.1), .v (.int .i64 r8.1)]]) rfl rfl rfl rfl rfl rfl (cells_v v504o) rfl (le_ble rfl) rfl rfl (AP.ofAO ?_)))))))))))
 refine AO.nil ?_
 exact ⟨_, _, ⟨(r499.2.L_, r499.2.At, j483.2.2, l502), v484, v504, h, rfl, rfl⟩, ⟨rfl, rfl, rfl, rfl, rfl, trivial⟩, [0, 1, 2, 3, 4, 5, 6], rfl, by decide⟩
 refine AP.act [] rfl rfl rfl (AX.litF (sz := 1) (es := ([0, 100000, 400000] : List Int).map rI) rfl rfl rfl rfl rfl rfl rfl rfl rfl rfl rfl (dst_some rfl) (AP.act [] rfl rfl rfl (AX.litF (sz := 1) (es := ([500000, 2000000, 0] : List Int).map rI) rfl rfl rfl rfl rfl rfl rfl rfl rfl rfl rfl (dst_some rfl) (AP.act [0] rfl rfl rfl (AX.callG [0] rfl rfl rfl rfl (by decide) (L.keep_Src_Pick_ok b0 (⟨j488.1, j488.2.1⟩ : batchlinekeep_Src) ([500000, 2000000, 0] : List Int) _ hx494) (dst_some rfl) ?_)))))
 rintro _ _ _ - ⟨rfl, rfl, rfl⟩
 refine AP.act [0] rfl rfl rfl (AX.callG [0] rfl rfl rfl rfl (by decide) (L.keep_Src_Pick_ok b0 r493.2 ([0, 200, 100000] : List Int) _ hx497) (dst_some rfl) ?_)
 rintro _ _ _ - ⟨rfl, rfl, rfl⟩
 refine AP.act [0] rfl rfl rfl (AX.callG [0] rfl rfl rfl rfl (by decide) (L.keep_Src_Pick_ok b0 r496.2 ([0, 100000, 400000] : List Int) _ hx500) (dst_some rfl) ?_)
 rintro _ _ _ - ⟨rfl, rfl, rfl⟩
 refine AP.p rfl (Yp.buildP (l := [.v (.string r490), .v (.int .i64 st371.2.2.2.2), .v (.int .i64 r493.1), .v (.int .i64 r496.1), .v (.int .i64 r499.1)]) Try.bld97 rfl) rfl (AP.act [] rfl rfl rfl (AX.litF (sz := 5) (es := ([(⟨r490, st371.2.2.2.2, r493.1, r496.1, r499.1⟩ : Station)] : List Station).map Station.row) rfl rfl rfl rfl rfl rfl rfl rfl rfl rfl rfl (dst_some rfl) (AP.act [6] rfl rfl rfl (AX.appendU 6 rfl rfl rfl rfl rfl rfl rfl rfl rfl (AppSrc.list rfl) (app_len (app_some hx503).1) (app_map (app_some hx503).2) (dst_some rfl) (fun v504 => (AP.op rfl (Yp.fieldPtr rfl rfl rfl rfl rfl rfl) rfl (AP.one 6 rfl (fun v504o => (AP.drop [2] rfl rfl rfl (AX.store 2 0 3 (es' := [[.v v47, .v v136, .v v484, .v v504, .v (.int .i64 r5.1), .v (.int .i64 r8.1)]]) rfl rfl rfl rfl rfl rfl (cells_v v504o) rfl (le_ble rfl) rfl rfl (AP.ofAO ?_)))))))))))
 refine AO.nil ?_
 exact ⟨_, _, ⟨(r499.2.L_, r499.2.At, j483.2.2, l502), v484, v504, h, rfl, rfl⟩, ⟨rfl, rfl, rfl, rfl, rfl, trivial⟩, [0, 1, 2, 3, 4, 5, 6], rfl, by decide⟩
 refine AP.act [] rfl rfl rfl (AX.litF (sz := 1) (es := ([500000, 2000000, 0] : List Int).map rI) rfl rfl rfl rfl rfl rfl rfl rfl rfl rfl rfl (dst_some rfl) (AP.two ?_ ?_))
 refine AP.act [] rfl rfl rfl (AX.callL rfl (.refl _) rfl rfl (.rest _) rfl (L.keep_name_ok (⟨#[115]⟩ : ByteArray) (st371.2.2.2.1.length : Int) _ hx491) (dst_some rfl) (by rintro _ _ ⟨rfl, _⟩; rfl) ?_)
 rintro _ ⟨_, rfl, -⟩
 refine AP.two ?_ ?_
 refine AP.act [0] rfl rfl rfl (AX.callG [0] rfl rfl rfl rfl (by decide) (L.keep_Src_Pick_ok b0 (⟨j488.1, j488.2.1⟩ : batchlinekeep_Src) ([500000, 2000000, 0] : List Int) _ hx494) (dst_some rfl) ?_)
 rintro _ _ _ - ⟨rfl, rfl, rfl⟩
 refine AP.two ?_ ?_
 refine AP.act [0] rfl rfl rfl (AX.callG [0] rfl rfl rfl rfl (by decide) (L.keep_Src_Pick_ok b0 r493.2 ([0, 200, 100000] : List Int) _ hx497) (dst_some rfl) ?_)
 rintro _ _ _ - ⟨rfl, rfl, rfl⟩
 refine AP.act [] rfl rfl rfl (AX.litF (sz := 1) (es := ([0, 100000, 400000] : List Int).map rI) rfl rfl rfl rfl rfl rfl rfl rfl rfl rfl rfl (dst_some rfl) (AP.act [0] rfl rfl rfl (AX.callG [0] rfl rfl rfl rfl (by decide) (L.keep_Src_Pick_ok b0 r496.2 ([0, 100000, 400000] : List Int) _ hx500) (dst_some rfl) ?_)))
 rintro _ _ _ - ⟨rfl, rfl, rfl⟩
 refine AP.p rfl (Yp.buildP (l := [.v (.string r490), .v (.int .i64 st371.2.2.2.2), .v (.int .i64 r493.1), .v (.int .i64 r496.1), .v (.int .i64 r499.1)]) Try.bld97 rfl) rfl (AP.act [] rfl rfl rfl (AX.litF (sz := 5) (es := ([(⟨r490, st371.2.2.2.2, r493.1, r496.1, r499.1⟩ : Station)] : List Station).map Station.row) rfl rfl rfl rfl rfl rfl rfl rfl rfl rfl rfl (dst_some rfl) (AP.act [6] rfl rfl rfl (AX.appendU 6 rfl rfl rfl rfl rfl rfl rfl rfl rfl (AppSrc.list rfl) (app_len (app_some hx503).1) (app_map (app_some hx503).2) (dst_some rfl) (fun v504 => (AP.op rfl (Yp.fieldPtr rfl rfl rfl rfl rfl rfl) rfl (AP.one 6 rfl (fun v504o => (AP.drop [2] rfl rfl rfl (AX.store 2 0 3 (es' := [[.v v47, .v v136, .v v484, .v v504, .v (.int .i64 r5.1), .v (.int .i64 r8.1)]]) rfl rfl rfl rfl rfl rfl (cells_v v504o) rfl (le_ble rfl) rfl rfl (AP.ofAO ?_)))))))))))
 refine AO.nil ?_
 exact ⟨_, _, ⟨(r499.2.L_, r499.2.At, j483.2.2, l502), v484, v504, h, rfl, rfl⟩, ⟨rfl, rfl, rfl, rfl, rfl, trivial⟩, [0, 1, 2, 3, 4, 5, 6], rfl, by decide⟩
 refine AP.act [] rfl rfl rfl (AX.litF (sz := 1) (es := ([0, 100000, 400000] : List Int).map rI) rfl rfl rfl rfl rfl rfl rfl rfl rfl rfl rfl (dst_some rfl) (AP.act [0] rfl rfl rfl (AX.callG [0] rfl rfl rfl rfl (by decide) (L.keep_Src_Pick_ok b0 r493.2 ([0, 200, 100000] : List Int) _ hx497) (dst_some rfl) ?_)))
 rintro _ _ _ - ⟨rfl, rfl, rfl⟩
 refine AP.act [0] rfl rfl rfl (AX.callG [0] rfl rfl rfl rfl (by decide) (L.keep_Src_Pick_ok b0 r496.2 ([0, 100000, 400000] : List Int) _ hx500) (dst_some rfl) ?_)
 rintro _ _ _ - ⟨rfl, rfl, rfl⟩
 refine AP.p rfl (Yp.buildP (l := [.v (.string r490), .v (.int .i64 st371.2.2.2.2), .v (.int .i64 r493.1), .v (.int .i64 r496.1), .v (.int .i64 r499.1)]) Try.bld97 rfl) rfl (AP.act [] rfl rfl rfl (AX.litF (sz := 5) (es := ([(⟨r490, st371.2.2.2.2, r493.1, r496.1, r499.1⟩ : Station)] : List Station).map Station.row) rfl rfl rfl rfl rfl rfl rfl rfl rfl rfl rfl (dst_some rfl) (AP.act [6] rfl rfl rfl (AX.appendU 6 rfl rfl rfl rfl rfl rfl rfl rfl rfl (AppSrc.list rfl) (app_len (app_some hx503).1) (app_map (app_some hx503).2) (dst_some rfl) (fun v504 => (AP.op rfl (Yp.fieldPtr rfl rfl rfl rfl rfl rfl) rfl (AP.one 6 rfl (fun v504o => (AP.drop [2] rfl rfl rfl (AX.store 2 0 3 (es' := [[.v v47, .v v136, .v v484, .v v504, .v (.int .i64 r5.1), .v (.int .i64 r8.1)]]) rfl rfl rfl rfl rfl rfl (cells_v v504o) rfl (le_ble rfl) rfl rfl (AP.ofAO ?_)))))))))))
 refine AO.nil ?_
 exact ⟨_, _, ⟨(r499.2.L_, r499.2.At, j483.2.2, l502), v484, v504, h, rfl, rfl⟩, ⟨rfl, rfl, rfl, rfl, rfl, trivial⟩, [0, 1, 2, 3, 4, 5, 6], rfl, by decide⟩
 refine AP.act [] rfl rfl rfl (AX.litF (sz := 1) (es := ([0, 100000, 400000] : List Int).map rI) rfl rfl rfl rfl rfl rfl rfl rfl rfl rfl rfl (dst_some rfl) (AP.act [0] rfl rfl rfl (AX.callG [0] rfl rfl rfl rfl (by decide) (L.keep_Src_Pick_ok b0 (⟨j488.1, j488.2.1⟩ : batchlinekeep_Src) ([500000, 2000000, 0] : List Int) _ hx494) (dst_some rfl) ?_)))
 rintro _ _ _ - ⟨rfl, rfl, rfl⟩
 refine AP.act [0] rfl rfl rfl (AX.callG [0] rfl rfl rfl rfl (by decide) (L.keep_Src_Pick_ok b0 r493.2 ([0, 200, 100000] : List Int) _ hx497) (dst_some rfl) ?_)
 rintro _ _ _ - ⟨rfl, rfl, rfl⟩
 refine AP.act [0] rfl rfl rfl (AX.callG [0] rfl rfl rfl rfl (by decide) (L.keep_Src_Pick_ok b0 r496.2 ([0, 100000, 400000] : List Int) _ hx500) (dst_some rfl) ?_)
 rintro _ _ _ - ⟨rfl, rfl, rfl⟩
 refine AP.p rfl (Yp.buildP (l := [.v (.string r490), .v (.int .i64 st371.2.2.2.2), .v (.int .i64 r493.1), .v (.int .i64 r496.1), .v (.int .i64 r499.1)]) Try.bld97 rfl) rfl (AP.act [] rfl rfl rfl (AX.litF (sz := 5) (es := ([(⟨r490, st371.2.2.2.2, r493.1, r496.1, r499.1⟩ : Station)] : List Station).map Station.row) rfl rfl rfl rfl rfl rfl rfl rfl rfl rfl rfl (dst_some rfl) (AP.act [6] rfl rfl rfl (AX.appendU 6 rfl rfl rfl rfl rfl rfl rfl rfl rfl (AppSrc.list rfl) (app_len (app_some hx503).1) (app_map (app_some hx503).2) (dst_some rfl) (fun v504 => (AP.op rfl (Yp.fieldPtr rfl rfl rfl rfl rfl rfl) rfl (AP.one 6 rfl (fun v504o => (AP.drop [2] rfl rfl rfl (AX.store 2 0 3 (es' := [[.v v47, .v v136, .v v484, .v v504, .v (.int .i64 r5.1), .v (.int .i64 r8.1)]]) rfl rfl rfl rfl rfl rfl (cells_v v504o) rfl (le_ble rfl) rfl rfl (AP.ofAO ?_)))))))))))
 refine AO.nil ?_
 exact ⟨_, _, ⟨(r499.2.L_, r499.2.At, j483.2.2, l502), v484, v504, h, rfl, rfl⟩, ⟨rfl, rfl, rfl, rfl, rfl, trivial⟩, [0, 1, 2, 3, 4, 5, 6], rfl, by decide⟩
 refine AP.act [] rfl rfl rfl (AX.litF (sz := 1) (es := ([0, 100000, 400000] : List Int).map rI) rfl rfl rfl rfl rfl rfl rfl rfl rfl rfl rfl (dst_some rfl) (AP.act [] rfl rfl rfl (AX.callL rfl (.refl _) rfl rfl (.rest _) rfl (L.keep_name_ok (⟨#[115]⟩ : ByteArray) (st371.2.2.2.1.length : Int) _ hx491) (dst_some rfl) (by rintro _ _ ⟨rfl, _⟩; rfl) ?_)))
 rintro _ ⟨_, rfl, -⟩
 refine AP.act [0] rfl rfl rfl (AX.callG [0] rfl rfl rfl rfl (by decide) (L.keep_Src_Pick_ok b0 (⟨j488.1, j488.2.1⟩ : batchlinekeep_Src) ([500000, 2000000, 0] : List Int) _ hx494) (dst_some rfl) ?_)
 rintro _ _ _ - ⟨rfl, rfl, rfl⟩
 refine AP.act [0] rfl rfl rfl (AX.callG [0] rfl rfl rfl rfl (by decide) (L.keep_Src_Pick_ok b0 r493.2 ([0, 200, 100000] : List Int) _ hx497) (dst_some rfl) ?_)
 rintro _ _ _ - ⟨rfl, rfl, rfl⟩
 refine AP.act [0] rfl rfl rfl (AX.callG [0] rfl rfl rfl rfl (by decide) (L.keep_Src_Pick_ok b0 r496.2 ([0, 100000, 400000] : List Int) _ hx500) (dst_some rfl) ?_)
 rintro _ _ _ - ⟨rfl, rfl, rfl⟩
 refine AP.p rfl (Yp.buildP (l := [.v (.string r490), .v (.int .i64 st371.2.2.2.2), .v (.int .i64 r493.1), .v (.int .i64 r496.1), .v (.int .i64 r499.1)]) Try.bld97 rfl) rfl (AP.act [] rfl rfl rfl (AX.litF (sz := 5) (es := ([(⟨r490, st371.2.2.2.2, r493.1, r496.1, r499.1⟩ : Station)] : List Station).map Station.row) rfl rfl rfl rfl rfl rfl rfl rfl rfl rfl rfl (dst_some rfl) (AP.act [6] rfl rfl rfl (AX.appendU 6 rfl rfl rfl rfl rfl rfl rfl rfl rfl (AppSrc.list rfl) (app_len (app_some hx503).1) (app_map (app_some hx503).2) (dst_some rfl) (fun v504 => (AP.op rfl (Yp.fieldPtr rfl rfl rfl rfl rfl rfl) rfl (AP.one 6 rfl (fun v504o => (AP.drop [2] rfl rfl rfl (AX.store 2 0 3 (es' := [[.v v47, .v v136, .v v484, .v v504, .v (.int .i64 r5.1), .v (.int .i64 r8.1)]]) rfl rfl rfl rfl rfl rfl (cells_v v504o) rfl (le_ble rfl) rfl rfl (AP.ofAO ?_)))))))))))
 refine AO.nil ?_
 exact ⟨_, _, ⟨(r499.2.L_, r499.2.At, j483.2.2, l502), v484, v504, h, rfl, rfl⟩, ⟨rfl, rfl, rfl, rfl, rfl, trivial⟩, [0, 1, 2, 3, 4, 5, 6], rfl, by decide⟩
 refine AP.act [] rfl rfl rfl (AX.litF (sz := 1) (es := ([0, 100000, 400000] : List Int).map rI) rfl rfl rfl rfl rfl rfl rfl rfl rfl rfl rfl (dst_some rfl) (AP.two ?_ ?_))
 refine AP.act [] rfl rfl rfl (AX.callL rfl (.refl _) rfl rfl (.rest _) rfl (L.keep_name_ok (⟨#[115]⟩ : ByteArray) (st371.2.2.2.1.length : Int) _ hx491) (dst_some rfl) (by rintro _ _ ⟨rfl, _⟩; rfl) ?_)
 rintro _ ⟨_, rfl, -⟩
 refine AP.act [] rfl rfl rfl (AX.litF (sz := 1) (es := ([500000, 2000000, 0] : List Int).map rI) rfl rfl rfl rfl rfl rfl rfl rfl rfl rfl rfl (dst_some rfl) (AP.act [0] rfl rfl rfl (AX.callG [0] rfl rfl rfl rfl (by decide) (L.keep_Src_Pick_ok b0 (⟨j488.1, j488.2.1⟩ : batchlinekeep_Src) ([500000, 2000000, 0] : List Int) _ hx494) (dst_some rfl) ?_)))
 rintro _ _ _ - ⟨rfl, rfl, rfl⟩
 refine AP.act [0] rfl rfl rfl (AX.callG [0] rfl rfl rfl rfl (by decide) (L.keep_Src_Pick_ok b0 r493.2 ([0, 200, 100000] : List Int) _ hx497) (dst_some rfl) ?_)
 rintro _ _ _ - ⟨rfl, rfl, rfl⟩
 refine AP.act [0] rfl rfl rfl (AX.callG [0] rfl rfl rfl rfl (by decide) (L.keep_Src_Pick_ok b0 r496.2 ([0, 100000, 400000] : List Int) _ hx500) (dst_some rfl) ?_)
 rintro _ _ _ - ⟨rfl, rfl, rfl⟩
 refine AP.p rfl (Yp.buildP (l := [.v (.string r490), .v (.int .i64 st371.2.2.2.2), .v (.int .i64 r493.1), .v (.int .i64 r496.1), .v (.int .i64 r499.1)]) Try.bld97 rfl) rfl (AP.act [] rfl rfl rfl (AX.litF (sz := 5) (es := ([(⟨r490, st371.2.2.2.2, r493.1, r496.1, r499.1⟩ : Station)] : List Station).map Station.row) rfl rfl rfl rfl rfl rfl rfl rfl rfl rfl rfl (dst_some rfl) (AP.act [6] rfl rfl rfl (AX.appendU 6 rfl rfl rfl rfl rfl rfl rfl rfl rfl (AppSrc.list rfl) (app_len (app_some hx503).1) (app_map (app_some hx503).2) (dst_some rfl) (fun v504 => (AP.op rfl (Yp.fieldPtr rfl rfl rfl rfl rfl rfl) rfl (AP.one 6 rfl (fun v504o => (AP.drop [2] rfl rfl rfl (AX.store 2 0 3 (es' := [[.v v47, .v v136, .v v484, .v v504, .v (.int .i64 r5.1), .v (.int .i64 r8.1)]]) rfl rfl rfl rfl rfl rfl (cells_v v504o) rfl (le_ble rfl) rfl rfl (AP.ofAO ?_)))))))))))
 refine AO.nil ?_
 exact ⟨_, _, ⟨(r499.2.L_, r499.2.At, j483.2.2, l502), v484, v504, h, rfl, rfl⟩, ⟨rfl, rfl, rfl, rfl, rfl, trivial⟩, [0, 1, 2, 3, 4, 5, 6], rfl, by decide⟩
 refine AP.act [] rfl rfl rfl (AX.litF (sz := 1) (es := ([500000, 2000000, 0] : List Int).map rI) rfl rfl rfl rfl rfl rfl rfl rfl rfl rfl rfl (dst_some rfl) (AP.act [] rfl rfl rfl (AX.callL rfl (.refl _) rfl rfl (.rest _) rfl (L.keep_name_ok (⟨#[115]⟩ : ByteArray) (st371.2.2.2.1.length : Int) _ hx491) (dst_some rfl) (by rintro _ _ ⟨rfl, _⟩; rfl) ?_)))
 rintro _ ⟨_, rfl, -⟩
 refine AP.act [0] rfl rfl rfl (AX.callG [0] rfl rfl rfl rfl (by decide) (L.keep_Src_Pick_ok b0 (⟨j488.1, j488.2.1⟩ : batchlinekeep_Src) ([500000, 2000000, 0] : List Int) _ hx494) (dst_some rfl) ?_)
 rintro _ _ _ - ⟨rfl, rfl, rfl⟩
 refine AP.act [0] rfl rfl rfl (AX.callG [0] rfl rfl rfl rfl (by decide) (L.keep_Src_Pick_ok b0 r493.2 ([0, 200, 100000] : List Int) _ hx497) (dst_some rfl) ?_)
 rintro _ _ _ - ⟨rfl, rfl, rfl⟩
 refine AP.act [0] rfl rfl rfl (AX.callG [0] rfl rfl rfl rfl (by decide) (L.keep_Src_Pick_ok b0 r496.2 ([0, 100000, 400000] : List Int) _ hx500) (dst_some rfl) ?_)
 rintro _ _ _ - ⟨rfl, rfl, rfl⟩
 refine AP.p rfl (Yp.buildP (l := [.v (.string r490), .v (.int .i64 st371.2.2.2.2), .v (.int .i64 r493.1), .v (.int .i64 r496.1), .v (.int .i64 r499.1)]) Try.bld97 rfl) rfl (AP.act [] rfl rfl rfl (AX.litF (sz := 5) (es := ([(⟨r490, st371.2.2.2.2, r493.1, r496.1, r499.1⟩ : Station)] : List Station).map Station.row) rfl rfl rfl rfl rfl rfl rfl rfl rfl rfl rfl (dst_some rfl) (AP.act [6] rfl rfl rfl (AX.appendU 6 rfl rfl rfl rfl rfl rfl rfl rfl rfl (AppSrc.list rfl) (app_len (app_some hx503).1) (app_map (app_some hx503).2) (dst_some rfl) (fun v504 => (AP.op rfl (Yp.fieldPtr rfl rfl rfl rfl rfl rfl) rfl (AP.one 6 rfl (fun v504o => (AP.drop [2] rfl rfl rfl (AX.store 2 0 3 (es' := [[.v v47, .v v136, .v v484, .v v504, .v (.int .i64 r5.1), .v (.int .i64 r8.1)]]) rfl rfl rfl rfl rfl rfl (cells_v v504o) rfl (le_ble rfl) rfl rfl (AP.ofAO ?_)))))))))))
 refine AO.nil ?_
 exact ⟨_, _, ⟨(r499.2.L_, r499.2.At, j483.2.2, l502), v484, v504, h, rfl, rfl⟩, ⟨rfl, rfl, rfl, rfl, rfl, trivial⟩, [0, 1, 2, 3, 4, 5, 6], rfl, by decide⟩
 refine AP.act [] rfl rfl rfl (AX.litF (sz := 1) (es := ([0, 100000, 400000] : List Int).map rI) rfl rfl rfl rfl rfl rfl rfl rfl rfl rfl rfl (dst_some rfl) (AP.three ?_ ?_ ?_))
 refine AP.act [] rfl rfl rfl (AX.callL rfl (.refl _) rfl rfl (.rest _) rfl (L.keep_name_ok (⟨#[115]⟩ : ByteArray) (st371.2.2.2.1.length : Int) _ hx491) (dst_some rfl) (by rintro _ _ ⟨rfl, _⟩; rfl) ?_)
 rintro _ ⟨_, rfl, -⟩
 refine AP.two ?_ ?_
 refine AP.act [] rfl rfl rfl (AX.litF (sz := 1) (es := ([500000, 2000000, 0] : List Int).map rI) rfl rfl rfl rfl rfl rfl rfl rfl rfl rfl rfl (dst_some rfl) (AP.two ?_ ?_))
 refine AP.act [0] rfl rfl rfl (AX.callG [0] rfl rfl rfl rfl (by decide) (L.keep_Src_Pick_ok b0 (⟨j488.1, j488.2.1⟩ : batchlinekeep_Src) ([500000, 2000000, 0] : List Int) _ hx494) (dst_some rfl) ?_)
 rintro _ _ _ - ⟨rfl, rfl, rfl⟩
 refine AP.act [] rfl rfl rfl (AX.litF (sz := 1) (es := ([0, 200, 100000] : List Int).map rI) rfl rfl rfl rfl rfl rfl rfl rfl rfl rfl rfl (dst_some rfl) (AP.act [0] rfl rfl rfl (AX.callG [0] rfl rfl rfl rfl (by decide) (L.keep_Src_Pick_ok b0 r493.2 ([0, 200, 100000] : List Int) _ hx497) (dst_some rfl) ?_)))
 rintro _ _ _ - ⟨rfl, rfl, rfl⟩
 refine AP.act [0] rfl rfl rfl (AX.callG [0] rfl rfl rfl rfl (by decide) (L.keep_Src_Pick_ok b0 r496.2 ([0, 100000, 400000] : List Int) _ hx500) (dst_some rfl) ?_)
 rintro _ _ _ - ⟨rfl, rfl, rfl⟩
 refine AP.p rfl (Yp.buildP (l := [.v (.string r490), .v (.int .i64 st371.2.2.2.2), .v (.int .i64 r493.1), .v (.int .i64 r496.1), .v (.int .i64 r499.1)]) Try.bld97 rfl) rfl (AP.act [] rfl rfl rfl (AX.litF (sz := 5) (es := ([(⟨r490, st371.2.2.2.2, r493.1, r496.1, r499.1⟩ : Station)] : List Station).map Station.row) rfl rfl rfl rfl rfl rfl rfl rfl rfl rfl rfl (dst_some rfl) (AP.act [6] rfl rfl rfl (AX.appendU 6 rfl rfl rfl rfl rfl rfl rfl rfl rfl (AppSrc.list rfl) (app_len (app_some hx503).1) (app_map (app_some hx503).2) (dst_some rfl) (fun v504 => (AP.op rfl (Yp.fieldPtr rfl rfl rfl rfl rfl rfl) rfl (AP.one 6 rfl (fun v504o => (AP.drop [2] rfl rfl rfl (AX.store 2 0 3 (es' := [[.v v47, .v v136, .v v484, .v v504, .v (.int .i64 r5.1), .v (.int .i64 r8.1)]]) rfl rfl rfl rfl rfl rfl (cells_v v504o) rfl (le_ble rfl) rfl rfl (AP.ofAO ?_)))))))))))
 refine AO.nil ?_
 exact ⟨_, _, ⟨(r499.2.L_, r499.2.At, j483.2.2, l502), v484, v504, h, rfl, rfl⟩, ⟨rfl, rfl, rfl, rfl, rfl, trivial⟩, [0, 1, 2, 3, 4, 5, 6], rfl, by decide⟩
 refine AP.act [] rfl rfl rfl (AX.litF (sz := 1) (es := ([0, 200, 100000] : List Int).map rI) rfl rfl rfl rfl rfl rfl rfl rfl rfl rfl rfl (dst_some rfl) (AP.act [0] rfl rfl rfl (AX.callG [0] rfl rfl rfl rfl (by decide) (L.keep_Src_Pick_ok b0 (⟨j488.1, j488.2.1⟩ : batchlinekeep_Src) ([500000, 2000000, 0] : List Int) _ hx494) (dst_some rfl) ?_)))
 rintro _ _ _ - ⟨rfl, rfl, rfl⟩
 refine AP.act [0] rfl rfl rfl (AX.callG [0] rfl rfl rfl rfl (by decide) (L.keep_Src_Pick_ok b0 r493.2 ([0, 200, 100000] : List Int) _ hx497) (dst_some rfl) ?_)
 rintro _ _ _ - ⟨rfl, rfl, rfl⟩
 refine AP.act [0] rfl rfl rfl (AX.callG [0] rfl rfl rfl rfl (by decide) (L.keep_Src_Pick_ok b0 r496.2 ([0, 100000, 400000] : List Int) _ hx500) (dst_some rfl) ?_)
 rintro _ _ _ - ⟨rfl, rfl, rfl⟩
 refine AP.p rfl (Yp.buildP (l := [.v (.string r490), .v (.int .i64 st371.2.2.2.2), .v (.int .i64 r493.1), .v (.int .i64 r496.1), .v (.int .i64 r499.1)]) Try.bld97 rfl) rfl (AP.act [] rfl rfl rfl (AX.litF (sz := 5) (es := ([(⟨r490, st371.2.2.2.2, r493.1, r496.1, r499.1⟩ : Station)] : List Station).map Station.row) rfl rfl rfl rfl rfl rfl rfl rfl rfl rfl rfl (dst_some rfl) (AP.act [6] rfl rfl rfl (AX.appendU 6 rfl rfl rfl rfl rfl rfl rfl rfl rfl (AppSrc.list rfl) (app_len (app_some hx503).1) (app_map (app_some hx503).2) (dst_some rfl) (fun v504 => (AP.op rfl (Yp.fieldPtr rfl rfl rfl rfl rfl rfl) rfl (AP.one 6 rfl (fun v504o => (AP.drop [2] rfl rfl rfl (AX.store 2 0 3 (es' := [[.v v47, .v v136, .v v484, .v v504, .v (.int .i64 r5.1), .v (.int .i64 r8.1)]]) rfl rfl rfl rfl rfl rfl (cells_v v504o) rfl (le_ble rfl) rfl rfl (AP.ofAO ?_)))))))))))
 refine AO.nil ?_
 exact ⟨_, _, ⟨(r499.2.L_, r499.2.At, j483.2.2, l502), v484, v504, h, rfl, rfl⟩, ⟨rfl, rfl, rfl, rfl, rfl, trivial⟩, [0, 1, 2, 3, 4, 5, 6], rfl, by decide⟩
 refine AP.act [] rfl rfl rfl (AX.litF (sz := 1) (es := ([0, 200, 100000] : List Int).map rI) rfl rfl rfl rfl rfl rfl rfl rfl rfl rfl rfl (dst_some rfl) (AP.act [] rfl rfl rfl (AX.litF (sz := 1) (es := ([500000, 2000000, 0] : List Int).map rI) rfl rfl rfl rfl rfl rfl rfl rfl rfl rfl rfl (dst_some rfl) (AP.act [0] rfl rfl rfl (AX.callG [0] rfl rfl rfl rfl (by decide) (L.keep_Src_Pick_ok b0 (⟨j488.1, j488.2.1⟩ : batchlinekeep_Src) ([500000, 2000000, 0] : List Int) _ hx494) (dst_some rfl) ?_)))))
 rintro _ _ _ - ⟨rfl, rfl, rfl⟩
 refine AP.act [0] rfl rfl rfl (AX.callG [0] rfl rfl rfl rfl (by decide) (L.keep_Src_Pick_ok b0 r493.2 ([0, 200, 100000] : List Int) _ hx497) (dst_some rfl) ?_)
 rintro _ _ _ - ⟨rfl, rfl, rfl⟩
 refine AP.act [0] rfl rfl rfl (AX.callG [0] rfl rfl rfl rfl (by decide) (L.keep_Src_Pick_ok b0 r496.2 ([0, 100000, 400000] : List Int) _ hx500) (dst_some rfl) ?_)
 rintro _ _ _ - ⟨rfl, rfl, rfl⟩
 refine AP.p rfl (Yp.buildP (l := [.v (.string r490), .v (.int .i64 st371.2.2.2.2), .v (.int .i64 r493.1), .v (.int .i64 r496.1), .v (.int .i64 r499.1)]) Try.bld97 rfl) rfl (AP.act [] rfl rfl rfl (AX.litF (sz := 5) (es := ([(⟨r490, st371.2.2.2.2, r493.1, r496.1, r499.1⟩ : Station)] : List Station).map Station.row) rfl rfl rfl rfl rfl rfl rfl rfl rfl rfl rfl (dst_some rfl) (AP.act [6] rfl rfl rfl (AX.appendU 6 rfl rfl rfl rfl rfl rfl rfl rfl rfl (AppSrc.list rfl) (app_len (app_some hx503).1) (app_map (app_some hx503).2) (dst_some rfl) (fun v504 => (AP.op rfl (Yp.fieldPtr rfl rfl rfl rfl rfl rfl) rfl (AP.one 6 rfl (fun v504o => (AP.drop [2] rfl rfl rfl (AX.store 2 0 3 (es' := [[.v v47, .v v136, .v v484, .v v504, .v (.int .i64 r5.1), .v (.int .i64 r8.1)]]) rfl rfl rfl rfl rfl rfl (cells_v v504o) rfl (le_ble rfl) rfl rfl (AP.ofAO ?_)))))))))))
 refine AO.nil ?_
 exact ⟨_, _, ⟨(r499.2.L_, r499.2.At, j483.2.2, l502), v484, v504, h, rfl, rfl⟩, ⟨rfl, rfl, rfl, rfl, rfl, trivial⟩, [0, 1, 2, 3, 4, 5, 6], rfl, by decide⟩
 refine AP.act [] rfl rfl rfl (AX.litF (sz := 1) (es := ([500000, 2000000, 0] : List Int).map rI) rfl rfl rfl rfl rfl rfl rfl rfl rfl rfl rfl (dst_some rfl) (AP.two ?_ ?_))
 refine AP.act [] rfl rfl rfl (AX.callL rfl (.refl _) rfl rfl (.rest _) rfl (L.keep_name_ok (⟨#[115]⟩ : ByteArray) (st371.2.2.2.1.length : Int) _ hx491) (dst_some rfl) (by rintro _ _ ⟨rfl, _⟩; rfl) ?_)
 rintro _ ⟨_, rfl, -⟩
 refine AP.two ?_ ?_
 refine AP.act [0] rfl rfl rfl (AX.callG [0] rfl rfl rfl rfl (by decide) (L.keep_Src_Pick_ok b0 (⟨j488.1, j488.2.1⟩ : batchlinekeep_Src) ([500000, 2000000, 0] : List Int) _ hx494) (dst_some rfl) ?_)
 rintro _ _ _ - ⟨rfl, rfl, rfl⟩
 refine AP.act [] rfl rfl rfl (AX.litF (sz := 1) (es := ([0, 200, 100000] : List Int).map rI) rfl rfl rfl rfl rfl rfl rfl rfl rfl rfl rfl (dst_some rfl) (AP.act [0] rfl rfl rfl (AX.callG [0] rfl rfl rfl rfl (by decide) (L.keep_Src_Pick_ok b0 r493.2 ([0, 200, 100000] : List Int) _ hx497) (dst_some rfl) ?_)))
 rintro _ _ _ - ⟨rfl, rfl, rfl⟩
 refine AP.act [0] rfl rfl rfl (AX.callG [0] rfl rfl rfl rfl (by decide) (L.keep_Src_Pick_ok b0 r496.2 ([0, 100000, 400000] : List Int) _ hx500) (dst_some rfl) ?_)
 rintro _ _ _ - ⟨rfl, rfl, rfl⟩
 refine AP.p rfl (Yp.buildP (l := [.v (.string r490), .v (.int .i64 st371.2.2.2.2), .v (.int .i64 r493.1), .v (.int .i64 r496.1), .v (.int .i64 r499.1)]) Try.bld97 rfl) rfl (AP.act [] rfl rfl rfl (AX.litF (sz := 5) (es := ([(⟨r490, st371.2.2.2.2, r493.1, r496.1, r499.1⟩ : Station)] : List Station).map Station.row) rfl rfl rfl rfl rfl rfl rfl rfl rfl rfl rfl (dst_some rfl) (AP.act [6] rfl rfl rfl (AX.appendU 6 rfl rfl rfl rfl rfl rfl rfl rfl rfl (AppSrc.list rfl) (app_len (app_some hx503).1) (app_map (app_some hx503).2) (dst_some rfl) (fun v504 => (AP.op rfl (Yp.fieldPtr rfl rfl rfl rfl rfl rfl) rfl (AP.one 6 rfl (fun v504o => (AP.drop [2] rfl rfl rfl (AX.store 2 0 3 (es' := [[.v v47, .v v136, .v v484, .v v504, .v (.int .i64 r5.1), .v (.int .i64 r8.1)]]) rfl rfl rfl rfl rfl rfl (cells_v v504o) rfl (le_ble rfl) rfl rfl (AP.ofAO ?_)))))))))))
 refine AO.nil ?_
 exact ⟨_, _, ⟨(r499.2.L_, r499.2.At, j483.2.2, l502), v484, v504, h, rfl, rfl⟩, ⟨rfl, rfl, rfl, rfl, rfl, trivial⟩, [0, 1, 2, 3, 4, 5, 6], rfl, by decide⟩
 refine AP.act [] rfl rfl rfl (AX.litF (sz := 1) (es := ([0, 200, 100000] : List Int).map rI) rfl rfl rfl rfl rfl rfl rfl rfl rfl rfl rfl (dst_some rfl) (AP.act [0] rfl rfl rfl (AX.callG [0] rfl rfl rfl rfl (by decide) (L.keep_Src_Pick_ok b0 (⟨j488.1, j488.2.1⟩ : batchlinekeep_Src) ([500000, 2000000, 0] : List Int) _ hx494) (dst_some rfl) ?_)))
 rintro _ _ _ - ⟨rfl, rfl, rfl⟩
 refine AP.act [0] rfl rfl rfl (AX.callG [0] rfl rfl rfl rfl (by decide) (L.keep_Src_Pick_ok b0 r493.2 ([0, 200, 100000] : List Int) _ hx497) (dst_some rfl) ?_)
 rintro _ _ _ - ⟨rfl, rfl, rfl⟩
 refine AP.act [0] rfl rfl rfl (AX.callG [0] rfl rfl rfl rfl (by decide) (L.keep_Src_Pick_ok b0 r496.2 ([0, 100000, 400000] : List Int) _ hx500) (dst_some rfl) ?_)
 rintro _ _ _ - ⟨rfl, rfl, rfl⟩
 refine AP.p rfl (Yp.buildP (l := [.v (.string r490), .v (.int .i64 st371.2.2.2.2), .v (.int .i64 r493.1), .v (.int .i64 r496.1), .v (.int .i64 r499.1)]) Try.bld97 rfl) rfl (AP.act [] rfl rfl rfl (AX.litF (sz := 5) (es := ([(⟨r490, st371.2.2.2.2, r493.1, r496.1, r499.1⟩ : Station)] : List Station).map Station.row) rfl rfl rfl rfl rfl rfl rfl rfl rfl rfl rfl (dst_some rfl) (AP.act [6] rfl rfl rfl (AX.appendU 6 rfl rfl rfl rfl rfl rfl rfl rfl rfl (AppSrc.list rfl) (app_len (app_some hx503).1) (app_map (app_some hx503).2) (dst_some rfl) (fun v504 => (AP.op rfl (Yp.fieldPtr rfl rfl rfl rfl rfl rfl) rfl (AP.one 6 rfl (fun v504o => (AP.drop [2] rfl rfl rfl (AX.store 2 0 3 (es' := [[.v v47, .v v136, .v v484, .v v504, .v (.int .i64 r5.1), .v (.int .i64 r8.1)]]) rfl rfl rfl rfl rfl rfl (cells_v v504o) rfl (le_ble rfl) rfl rfl (AP.ofAO ?_)))))))))))
 refine AO.nil ?_
 exact ⟨_, _, ⟨(r499.2.L_, r499.2.At, j483.2.2, l502), v484, v504, h, rfl, rfl⟩, ⟨rfl, rfl, rfl, rfl, rfl, trivial⟩, [0, 1, 2, 3, 4, 5, 6], rfl, by decide⟩
 refine AP.act [] rfl rfl rfl (AX.litF (sz := 1) (es := ([0, 200, 100000] : List Int).map rI) rfl rfl rfl rfl rfl rfl rfl rfl rfl rfl rfl (dst_some rfl) (AP.act [] rfl rfl rfl (AX.callL rfl (.refl _) rfl rfl (.rest _) rfl (L.keep_name_ok (⟨#[115]⟩ : ByteArray) (st371.2.2.2.1.length : Int) _ hx491) (dst_some rfl) (by rintro _ _ ⟨rfl, _⟩; rfl) ?_)))
 rintro _ ⟨_, rfl, -⟩
 refine AP.act [0] rfl rfl rfl (AX.callG [0] rfl rfl rfl rfl (by decide) (L.keep_Src_Pick_ok b0 (⟨j488.1, j488.2.1⟩ : batchlinekeep_Src) ([500000, 2000000, 0] : List Int) _ hx494) (dst_some rfl) ?_)
 rintro _ _ _ - ⟨rfl, rfl, rfl⟩
 refine AP.act [0] rfl rfl rfl (AX.callG [0] rfl rfl rfl rfl (by decide) (L.keep_Src_Pick_ok b0 r493.2 ([0, 200, 100000] : List Int) _ hx497) (dst_some rfl) ?_)
 rintro _ _ _ - ⟨rfl, rfl, rfl⟩
 refine AP.act [0] rfl rfl rfl (AX.callG [0] rfl rfl rfl rfl (by decide) (L.keep_Src_Pick_ok b0 r496.2 ([0, 100000, 400000] : List Int) _ hx500) (dst_some rfl) ?_)
 rintro _ _ _ - ⟨rfl, rfl, rfl⟩
 refine AP.p rfl (Yp.buildP (l := [.v (.string r490), .v (.int .i64 st371.2.2.2.2), .v (.int .i64 r493.1), .v (.int .i64 r496.1), .v (.int .i64 r499.1)]) Try.bld97 rfl) rfl (AP.act [] rfl rfl rfl (AX.litF (sz := 5) (es := ([(⟨r490, st371.2.2.2.2, r493.1, r496.1, r499.1⟩ : Station)] : List Station).map Station.row) rfl rfl rfl rfl rfl rfl rfl rfl rfl rfl rfl (dst_some rfl) (AP.act [6] rfl rfl rfl (AX.appendU 6 rfl rfl rfl rfl rfl rfl rfl rfl rfl (AppSrc.list rfl) (app_len (app_some hx503).1) (app_map (app_some hx503).2) (dst_some rfl) (fun v504 => (AP.op rfl (Yp.fieldPtr rfl rfl rfl rfl rfl rfl) rfl (AP.one 6 rfl (fun v504o => (AP.drop [2] rfl rfl rfl (AX.store 2 0 3 (es' := [[.v v47, .v v136, .v v484, .v v504, .v (.int .i64 r5.1), .v (.int .i64 r8.1)]]) rfl rfl rfl rfl rfl rfl (cells_v v504o) rfl (le_ble rfl) rfl rfl (AP.ofAO ?_)))))))))))
 refine AO.nil ?_
 exact ⟨_, _, ⟨(r499.2.L_, r499.2.At, j483.2.2, l502), v484, v504, h, rfl, rfl⟩, ⟨rfl, rfl, rfl, rfl, rfl, trivial⟩, [0, 1, 2, 3, 4, 5, 6], rfl, by decide⟩
 refine AP.act [] rfl rfl rfl (AX.litF (sz := 1) (es := ([0, 200, 100000] : List Int).map rI) rfl rfl rfl rfl rfl rfl rfl rfl rfl rfl rfl (dst_some rfl) (AP.two ?_ ?_))
 refine AP.act [] rfl rfl rfl (AX.callL rfl (.refl _) rfl rfl (.rest _) rfl (L.keep_name_ok (⟨#[115]⟩ : ByteArray) (st371.2.2.2.1.length : Int) _ hx491) (dst_some rfl) (by rintro _ _ ⟨rfl, _⟩; rfl) ?_)
 rintro _ ⟨_, rfl, -⟩
 refine AP.act [] rfl rfl rfl (AX.litF (sz := 1) (es := ([500000, 2000000, 0] : List Int).map rI) rfl rfl rfl rfl rfl rfl rfl rfl rfl rfl rfl (dst_some rfl) (AP.act [0] rfl rfl rfl (AX.callG [0] rfl rfl rfl rfl (by decide) (L.keep_Src_Pick_ok b0 (⟨j488.1, j488.2.1⟩ : batchlinekeep_Src) ([500000, 2000000, 0] : List Int) _ hx494) (dst_some rfl) ?_)))
 rintro _ _ _ - ⟨rfl, rfl, rfl⟩
 refine AP.act [0] rfl rfl rfl (AX.callG [0] rfl rfl rfl rfl (by decide) (L.keep_Src_Pick_ok b0 r493.2 ([0, 200, 100000] : List Int) _ hx497) (dst_some rfl) ?_)
 rintro _ _ _ - ⟨rfl, rfl, rfl⟩
 refine AP.act [0] rfl rfl rfl (AX.callG [0] rfl rfl rfl rfl (by decide) (L.keep_Src_Pick_ok b0 r496.2 ([0, 100000, 400000] : List Int) _ hx500) (dst_some rfl) ?_)
 rintro _ _ _ - ⟨rfl, rfl, rfl⟩
 refine AP.p rfl (Yp.buildP (l := [.v (.string r490), .v (.int .i64 st371.2.2.2.2), .v (.int .i64 r493.1), .v (.int .i64 r496.1), .v (.int .i64 r499.1)]) Try.bld97 rfl) rfl (AP.act [] rfl rfl rfl (AX.litF (sz := 5) (es := ([(⟨r490, st371.2.2.2.2, r493.1, r496.1, r499.1⟩ : Station)] : List Station).map Station.row) rfl rfl rfl rfl rfl rfl rfl rfl rfl rfl rfl (dst_some rfl) (AP.act [6] rfl rfl rfl (AX.appendU 6 rfl rfl rfl rfl rfl rfl rfl rfl rfl (AppSrc.list rfl) (app_len (app_some hx503).1) (app_map (app_some hx503).2) (dst_some rfl) (fun v504 => (AP.op rfl (Yp.fieldPtr rfl rfl rfl rfl rfl rfl) rfl (AP.one 6 rfl (fun v504o => (AP.drop [2] rfl rfl rfl (AX.store 2 0 3 (es' := [[.v v47, .v v136, .v v484, .v v504, .v (.int .i64 r5.1), .v (.int .i64 r8.1)]]) rfl rfl rfl rfl rfl rfl (cells_v v504o) rfl (le_ble rfl) rfl rfl (AP.ofAO ?_)))))))))))
 refine AO.nil ?_
 exact ⟨_, _, ⟨(r499.2.L_, r499.2.At, j483.2.2, l502), v484, v504, h, rfl, rfl⟩, ⟨rfl, rfl, rfl, rfl, rfl, trivial⟩, [0, 1, 2, 3, 4, 5, 6], rfl, by decide⟩
 refine AP.act [] rfl rfl rfl (AX.litF (sz := 1) (es := ([500000, 2000000, 0] : List Int).map rI) rfl rfl rfl rfl rfl rfl rfl rfl rfl rfl rfl (dst_some rfl) (AP.act [] rfl rfl rfl (AX.callL rfl (.refl _) rfl rfl (.rest _) rfl (L.keep_name_ok (⟨#[115]⟩ : ByteArray) (st371.2.2.2.1.length : Int) _ hx491) (dst_some rfl) (by rintro _ _ ⟨rfl, _⟩; rfl) ?_)))
 rintro _ ⟨_, rfl, -⟩
 refine AP.act [0] rfl rfl rfl (AX.callG [0] rfl rfl rfl rfl (by decide) (L.keep_Src_Pick_ok b0 (⟨j488.1, j488.2.1⟩ : batchlinekeep_Src) ([500000, 2000000, 0] : List Int) _ hx494) (dst_some rfl) ?_)
 rintro _ _ _ - ⟨rfl, rfl, rfl⟩
 refine AP.act [0] rfl rfl rfl (AX.callG [0] rfl rfl rfl rfl (by decide) (L.keep_Src_Pick_ok b0 r493.2 ([0, 200, 100000] : List Int) _ hx497) (dst_some rfl) ?_)
 rintro _ _ _ - ⟨rfl, rfl, rfl⟩
 refine AP.act [0] rfl rfl rfl (AX.callG [0] rfl rfl rfl rfl (by decide) (L.keep_Src_Pick_ok b0 r496.2 ([0, 100000, 400000] : List Int) _ hx500) (dst_some rfl) ?_)
 rintro _ _ _ - ⟨rfl, rfl, rfl⟩
 refine AP.p rfl (Yp.buildP (l := [.v (.string r490), .v (.int .i64 st371.2.2.2.2), .v (.int .i64 r493.1), .v (.int .i64 r496.1), .v (.int .i64 r499.1)]) Try.bld97 rfl) rfl (AP.act [] rfl rfl rfl (AX.litF (sz := 5) (es := ([(⟨r490, st371.2.2.2.2, r493.1, r496.1, r499.1⟩ : Station)] : List Station).map Station.row) rfl rfl rfl rfl rfl rfl rfl rfl rfl rfl rfl (dst_some rfl) (AP.act [6] rfl rfl rfl (AX.appendU 6 rfl rfl rfl rfl rfl rfl rfl rfl rfl (AppSrc.list rfl) (app_len (app_some hx503).1) (app_map (app_some hx503).2) (dst_some rfl) (fun v504 => (AP.op rfl (Yp.fieldPtr rfl rfl rfl rfl rfl rfl) rfl (AP.one 6 rfl (fun v504o => (AP.drop [2] rfl rfl rfl (AX.store 2 0 3 (es' := [[.v v47, .v v136, .v v484, .v v504, .v (.int .i64 r5.1), .v (.int .i64 r8.1)]]) rfl rfl rfl rfl rfl rfl (cells_v v504o) rfl (le_ble rfl) rfl rfl (AP.ofAO ?_)))))))))))
 refine AO.nil ?_
 exact ⟨_, _, ⟨(r499.2.L_, r499.2.At, j483.2.2, l502), v484, v504, h, rfl, rfl⟩, ⟨rfl, rfl, rfl, rfl, rfl, trivial⟩, [0, 1, 2, 3, 4, 5, 6], rfl, by decide⟩
 intro hc489
 replace h := ife_f hc489 h
 refine AW.skip ?_
 exact ⟨_, _, ⟨(j488.1, j488.2.1, j483.2.2, st371.2.2.2.1), v484, v373, h, rfl, rfl⟩, ⟨rfl, rfl, rfl, rfl, rfl, trivial⟩, [0, 1, 2, 3, 4, 5, 6], rfl, by decide⟩
 rintro s ob ⟨j464, v465, v466, h, rfl, rfl⟩
 unfold L.keep_Src_Network.J6 at h
 refine AW.region (AO.p (Yp.move rfl) rfl (AO.p (Yp.binI (c := wr (st371.2.2.2.2 + 1)) rfl rfl rfl) rfl (AO.p (Yp.assign rfl) rfl ?_)))
 obtain rfl := Option.some.inj h
 refine AO.nil ?_
 exact ⟨_, _, _, rfl, ⟨v465, v466, rfl, rfl⟩, ⟨rfl, rfl, rfl, rfl, rfl, trivial⟩, [0, 1, 2, 3, 4, 5, 6], rfl, by decide⟩
 intro hc424
 replace h := ife_f hc424 h
 obtain rfl := hb421 _ (Option.some.inj h).symm
 replace h := hR420
 refine AW.exit ?_
 exact ⟨_, _, ⟨(st371.1, st371.2.1, st371.2.2.1, st371.2.2.2.1), v372, v373, h, rfl, rfl⟩, ⟨rfl, rfl, trivial⟩, [0, 1, 2, 3, 4, 5, 6], rfl, by decide⟩
 rintro s ob ⟨j276, v277, v278, h, rfl, rfl⟩
 unfold L.keep_Src_Network.J4 at h
 refine AW.seq (AW.region (AO.d (Yd.loadO 2 0 0 rfl rfl rfl rfl rfl (y := .agg [.v v47, .v v136, .v v277, .v v278, .v (.int .i64 r5.1), .v (.int .i64 r8.1)]) rfl) rfl (AO.act [1] rfl (AX.store 1 0 0 (es' := [[.v v47, .v v136, .v v277, .v v278, .v (.int .i64 r5.1), .v (.int .i64 r8.1)]]) rfl rfl rfl rfl rfl rfl rfl rfl (le_ble rfl) rfl rfl (AO.nil (AW.ghost (Ghost.freeze [3, 4, 5, 6] (K := [.us v47 9 1 (j46.2.2.map rS), .us v136 42 7 (j135.2.2.map Segment.row), .us v277 95 3 (j276.2.2.1.map Port.row), .us v278 97 5 (j276.2.2.2.map Station.row)]) rfl [(138, .agg [.list 1 (j46.2.2.map rS), .list 7 (j135.2.2.map Segment.row), .list 3 (j276.2.2.1.map Port.row), .list 5 (j276.2.2.2.map Station.row), .v (.int .i64 r5.1), .v (.int .i64 r8.1)])] ⟨⟨_, rfl, .agg (.cons (.us 0 rfl) (.cons (.us 1 rfl) (.cons (.us 2 rfl) (.cons (.us 3 rfl) (.rest _)))))⟩, trivial⟩ (ob' := [.arr b0 90 2 1 [[.list 1 (j276.1.map rI), .v (.int .i64 j276.2.1)]], .arr b2 30 6 1 [[.list 1 (j46.2.2.map rS), .list 7 (j135.2.2.map Segment.row), .list 3 (j276.2.2.1.map Port.row), .list 5 (j276.2.2.2.map Station.row), .v (.int .i64 r5.1), .v (.int .i64 r8.1)]], .arr b10 30 6 1 [[.list 1 (j46.2.2.map rS), .list 7 (j135.2.2.map Segment.row), .list 3 (j276.2.2.1.map Port.row), .list 5 (j276.2.2.2.map Station.row), .v (.int .i64 r5.1), .v (.int .i64 r8.1)]]]) (.cons (.same _) (.cons (.arr (.cons (.us 0 rfl) (.cons (.us 1 rfl) (.cons (.us 2 rfl) (.cons (.us 3 rfl) (.rest _)))))) (.cons (.arr (.cons (.us 0 rfl) (.cons (.us 1 rfl) (.cons (.us 2 rfl) (.cons (.us 3 rfl) (.rest _)))))) (.rest _))))) ?_))))))
 refine AW.ghost (Ghost.pick [0, 1] (K := [.arr b0 90 2 1 [[.list 1 (j276.1.map rI), .v (.int .i64 j276.2.1)]], .arr b2 30 6 1 [[.list 1 (j46.2.2.map rS), .list 7 (j135.2.2.map Segment.row), .list 3 (j276.2.2.1.map Port.row), .list 5 (j276.2.2.2.map Station.row), .v (.int .i64 r5.1), .v (.int .i64 r8.1)]]]) rfl (by decide)) ?_
 obtain rfl := Option.some.inj h
 refine AW.ret ?_
 exact ⟨.inr rfl, [_], [.arr b0 90 2 1 [[.list 1 (j276.1.map rI), .v (.int .i64 j276.2.1)]]], ⟨⟨1, _, _, _, _, _, _, _, rfl, rfl, rfl, rfl, rfl⟩, trivial⟩, sl_c rfl (sl_n), ⟨[.arr b0 90 2 1 [[.list 1 (j276.1.map rI), .v (.int .i64 j276.2.1)]]], [], rfl, rfl, rfl, rfl, rfl⟩⟩

end Go.Proofs.Ytndfiddakngjdaa
