/- Walks that show what functions of the program compute; printed by a program of ours. No condition. -/
import Derived.Test.YtndfiddakngjdaaLp3
import Derived.Test.YtndfiddakngjdaaLp2
import Derived.Test.YtndfiddakngjdaaL4c
import Derived.Test.YtndfiddakngjdaaL4b
namespace Go.Proofs.Ytndfiddakngjdaa
open Go.Aw
set_option linter.unusedVariables false
set_option linter.unusedSimpArgs false

set_option maxRecDepth 100000 in
set_option maxHeartbeats 4000000 in
theorem L.second_Few_ok (l_0 : List Int) (r : Bool) (h : L.second_Few l_0 = r) : ACalls Try.env 23 [.list 1 (l_0.map rI)] [] (fun x new => x = .v (.bool r) ∧ new = []) := by
 refine ACalls.of_body Try.func23 rfl rfl rfl (fun C hC => ?_)
 unfold L.second_Few at h
 refine AW.seq (AW.region (AO.a I I (AO.nil (AW.seq (AW.region (AO.m I I (AO.p (Yp.lenM I I I) I (AO.p (Yp.cmpI (c := decide ((l_0.length : Int) ≤ 400)) I I I) I (AO.a I I (AO.nil ?_))))))))))
 obtain rfl := h
 refine AW.ret ?_
 exact ⟨.inr I, [_], [], ⟨I, trivial⟩, sl_n, ⟨I, I⟩⟩

set_option maxRecDepth 100000 in
set_option maxHeartbeats 4000000 in
theorem L.law25_PathsOver_ok (l_0 : List Int) (which_1 : Int) (r : Bool) (h : L.law25_PathsOver l_0 which_1 = some r) : ACalls Try.env 6 [.list 1 (l_0.map rI), .v (.int .i64 which_1)] [] (fun x new => x = .v (.bool r) ∧ new = []) := by
 refine ACalls.of_body Try.func6 rfl rfl rfl (fun C hC => ?_)
 unfold L.law25_PathsOver at h
 refine AW.seqG (fun y1 hy1 => (AW.region (AO.a I I (AO.nil ?_))))
 subst hy1
 refine AW.seqG (fun y2 hy2 => (AW.seq (AW.region (AO.m I I (AO.act [] I (AX.callL I (.refl _) I I (.rest _) I (L.second_Few_ok l_0 _ I) (dst_some I) (by rintro _ _ ⟨rfl, _⟩; rfl) ?_))))))
 rintro _ ⟨_, rfl, -⟩
 refine AO.p (Yp.not I) I (AO.nil (AW.cond I I ?_ ?_))
 intro hc3
 replace h := ife_t hc3 h
 refine AW.seq ?_
 obtain ⟨r4, hx5, h⟩ := ob_some h
 refine AW.region (AO.act [] I (AX.callL I (.refl _) I I (.rest _) I (L.law25_awake_ok  _ hx5) (dst_some I) (by rintro _ _ ⟨rfl, _⟩; rfl) ?_))
 rintro _ ⟨_, rfl, -⟩
 refine AO.a I I (AO.nil ?_)
 obtain rfl := Option.some.inj h
 refine AW.ret ?_
 exact ⟨.inr I, [_], [], ⟨I, trivial⟩, sl_n, ⟨I, I⟩⟩
 intro hc3
 replace h := ife_f hc3 h
 refine AW.skip ?_
 subst hy2
 refine AW.seqG (fun y6 hy6 => ?_)
 obtain ⟨r7, hx8, h⟩ := ob_some h
 refine AW.region (AO.m I I (AO.act [] I (AX.call0 I I I (L.keep_New_ok l_0 _ hx8) (dst_some I) ?_)))
 rintro _ _ ⟨b9, rfl, rfl⟩
 refine AO.a I I (AO.nil ?_)
 subst hy6
 refine AW.seqG (fun y10 hy10 => ?_)
 obtain ⟨r11, hx12, h⟩ := ob_some h
 refine AW.region (AO.m I I (AO.act [0] I (AX.callG [0] I I I I (by decide) (L.keep_Src_Network_ok b9 r7 _ hx12) (dst_some I) ?_)))
 rintro _ _ _ - ⟨rfl, rfl, rfl⟩
 refine AO.act [] I (AX.alloc (cs := [.v (.slice none 0 0), .v (.slice none 0 0), .v (.slice none 0 0), .v (.slice none 0 0), .v (.int .i64 0), .v (.int .i64 0)]) (m := 6) I I I I I (dst_some I) (fun b13 => (AO.act [1] I (AX.store 1 0 0 (es' := [Network.row r11.1]) I I I I I I I I (le_ble I) I I (AO.nil ?_)))))
 subst hy10
 refine AW.seqG (fun y14 hy14 => ?_)
 obtain ⟨r15, hx16, h⟩ := ob_some h
 refine AW.region (AO.m I I (AO.d (Yd.loadO 1 0 0 I I I I I (y := .agg (Network.row r11.1)) I) I (AO.act [0] I (AX.callG [0] I I I I (by decide) (L.keep_Src_Plan_ok b9 r11.2 r11.1 _ hx16) (dst_some I) ?_))))
 rintro _ _ _ - ⟨rfl, rfl, rfl⟩
 refine AO.act [] I (AX.alloc (cs := [.v (.slice none 0 0), .v (.slice none 0 0), .v (.slice none 0 0)]) (m := 3) I I I I I (dst_some I) (fun b17 => (AO.act [2] I (AX.store 2 0 0 (es' := [Plan.row r15.1]) I I I I I I I I (le_ble I) I I (AO.nil ?_)))))
 subst hy14
 refine AW.seqG (fun y18 hy18 => ?_)
 obtain ⟨r19, hx20, h⟩ := ob_some h
 refine AW.region (AO.m I I (AO.p (Yp.fieldPtr I I I I I I) I (AO.d (Yd.loadO 1 0 1 I I I I I (y := .list 7 (r11.1.Segments.map Segment.row)) I) I (AO.p (Yp.lenM I I I) I (AO.act [] I (AX.callL I (.refl _) I I (.rest _) I (L.second_Mod_ok which_1 (r11.1.Segments.length : Int) _ hx20) (dst_some I) (by rintro _ _ ⟨rfl, _⟩; rfl) ?_))))))
 rintro _ ⟨_, rfl, -⟩
 refine AO.a I I (AO.nil ?_)
 subst hy18
 refine AW.seqG (fun y21 hy21 => ?_)
 obtain ⟨r22, hx23, h⟩ := ob_some h
 refine AW.region (AO.d (Yd.loadO 1 0 0 I I I I I (y := .agg (Network.row r11.1)) I) I (AO.d (Yd.loadO 2 0 0 I I I I I (y := .agg (Plan.row r15.1)) I) I (AO.act [] I (AX.call0 I I I (L.paths_Divide_ok r11.1 r15.1 _ hx23) (dst_some I) ?_))))
 rintro _ _ ⟨v24, rfl, rfl⟩
 refine AO.m I I (AO.p (Yp.extract I I) I (AO.p (Yp.extract I I) I (AO.a I I (AO.a I I (AO.nil ?_)))))
 subst hy21
 refine AW.seqG (fun y25 hy25 => ?_)
 obtain ⟨r26, hx27, h⟩ := ob_some h
 refine AW.region (AO.d (Yd.loadO 1 0 0 I I I I I (y := .agg (Network.row r11.1)) I) I (AO.m I I (AO.m I I (AO.ghost (Ghost.freeze [3] (K := [.us v24 58 4 (r22.1.map Path.row)]) I [(38, .list 4 (r22.1.map Path.row)), (9, .list 4 (r22.1.map Path.row)), (42, .list 4 (r22.1.map Path.row))] ⟨⟨_, I, .us 0 I⟩, ⟨_, I, .us 0 I⟩, ⟨_, I, .us 0 I⟩, trivial⟩ (ob' := [.arr b9 90 2 1 [batchlinekeep_Src.row r15.2], .arr b13 30 6 1 [Network.row r11.1], .arr b17 34 3 1 [Plan.row r15.1]]) (.rest _)) (AO.act [] I (AX.call0 I I I (L.paths_Through_ok r11.1 r22.1 r19 _ hx27) (dst_some I) ?_))))))
 rintro _ _ ⟨v28, rfl, rfl⟩
 refine AO.m I I (AO.p (Yp.extract I I) I (AO.p (Yp.extract I I) I (AO.a I I (AO.a I I (AO.nil ?_)))))
 subst hy25
 refine AW.seqG (fun y29 hy29 => (AW.cutX (fun s ob => s = [(59, .v (.bool ((r22.2 != 0) || ((r26.2 != 0) || decide ((r26.1.length : Int) > (r22.1.length : Int))))))] ∧ ob = [.arr b17 34 3 1 [Plan.row r15.1], .us v28 58 4 (r26.1.map Path.row)]) [(7, _), (8, _), (11, _)] ⟨I, I, I, trivial⟩ ?_ ?_))
 rcases Bool.eq_false_or_eq_true ((r22.2 != 0)) with hg33 | hg33
 refine AW.region (AO.m I I (AO.p (Yp.cmpI (c := (r22.2 != 0)) I I I) I (AO.m I I (AO.known 49 I hg33 (AO.gf I I I (AO.gf I I I (AO.p (Yp.pickT I I) I (AO.m I I (AO.gf I I I (AO.gf I I I (AO.gf I I I (AO.gf I I I ?_))))))))))))
 refine AO.gf I I I (AO.p (Yp.pickT I I) I (AO.nil ?_))
 exact ⟨_, _, ⟨I, I⟩, ⟨(get_b (by simp only [hg33, Bool.true_and, Bool.false_and, Bool.true_or, Bool.false_or, Bool.not_true, Bool.not_false, cond_true, cond_false])), I, I, I, trivial⟩, [2, 3], I, by decide⟩
 rcases Bool.eq_false_or_eq_true ((r26.2 != 0)) with hg34 | hg34
 refine AW.region (AO.m I I (AO.p (Yp.cmpI (c := (r22.2 != 0)) I I I) I (AO.m I I (AO.known 49 I hg33 (AO.gt I I I (AO.m I I (AO.gt I I I (AO.p (Yp.cmpI (c := (r26.2 != 0)) I I I) I (AO.p (Yp.pickF I I) I (AO.m I I (AO.known 53 I hg34 (AO.gf I I I ?_))))))))))))
 refine AO.gf I I I (AO.gf I I I (AO.gf I I I (AO.gf I I I (AO.p (Yp.pickT I I) I (AO.nil ?_)))))
 exact ⟨_, _, ⟨I, I⟩, ⟨(get_b (by simp only [hg33, hg34, Bool.true_and, Bool.false_and, Bool.true_or, Bool.false_or, Bool.not_true, Bool.not_false, cond_true, cond_false])), I, I, I, trivial⟩, [2, 3], I, by decide⟩
 refine AW.region (AO.m I I (AO.p (Yp.cmpI (c := (r22.2 != 0)) I I I) I (AO.m I I (AO.known 49 I hg33 (AO.gt I I I (AO.m I I (AO.gt I I I (AO.p (Yp.cmpI (c := (r26.2 != 0)) I I I) I (AO.p (Yp.pickF I I) I (AO.m I I (AO.known 53 I hg34 (AO.gt I I I ?_))))))))))))
 refine AO.m I I (AO.gt I I I (AO.d (Yd.lenUM 3 I I I I) I (AO.gt I I I (AO.m I I (AO.gt I I I (AO.p (Yp.lenM I I I) I (AO.gt I I I (AO.p (Yp.cmpI (c := decide ((r26.1.length : Int) > (r22.1.length : Int))) I I I) I (AO.p (Yp.pickF I I) I (AO.nil ?_))))))))))
 exact ⟨_, _, ⟨I, I⟩, ⟨(get_b (by simp only [hg33, hg34, Bool.true_and, Bool.false_and, Bool.true_or, Bool.false_or, Bool.not_true, Bool.not_false, cond_true, cond_false])), I, I, I, trivial⟩, [2, 3], I, by decide⟩
 rintro s ob ⟨rfl, rfl⟩
 refine AW.cond I I ?_ ?_
 intro hc35
 replace h := ife_t hc35 h
 refine AW.seq (AW.region (AO.a I I (AO.nil (AW.ghost (Ghost.pick [] (K := []) I (by decide)) ?_))))
 obtain rfl := Option.some.inj h
 refine AW.ret ?_
 exact ⟨.inr I, [_], [], ⟨I, trivial⟩, sl_n, ⟨I, I⟩⟩
 intro hc35
 replace h := ife_f hc35 h
 refine AW.skip ?_
 subst hy29
 refine AW.seqG (fun y36 hy36 => (AW.region (AO.a I I (AO.nil ?_))))
 subst hy36
 refine AW.cutX (fun s ob => ∃ (j201 : Int), L.law25_PathsOver.J1 r15 r19 j201 = some r ∧ s = [(13, .v (.int .i64 j201))] ∧ ob = [.arr b17 34 3 1 [Plan.row r15.1]]) [(7, _), (8, _)] ⟨I, I, trivial⟩ ?_ ?_
 refine AW.seqG (fun y213 hy213 => (AW.region (AO.a I I (AO.nil ?_))))
 subst hy213
 refine AW.block ?_
 obtain ⟨o377, hL378, hR379⟩ := ob_some h
 clear h
 refine AW.loopX hL378 [(7, _), (8, _), (11, _)] ⟨I, I, I, trivial⟩ (fun (st323 : Int × Int) s ob => s = [(13, .v (.int .i64 st323.1)), (14, .v (.int .i64 st323.2))] ∧ ob = [.arr b17 34 3 1 [Plan.row r15.1], .us v28 58 4 (r26.1.map Path.row)]) ⟨I, I⟩ ⟨I, I, trivial⟩ ⟨[0, 1], I, by decide⟩ ?_
 rintro st323 r381 s ob ⟨rfl, rfl⟩ h hb380
 unfold L.law25_PathsOver.B3 at h
 refine AW.seqG (fun y382 hy382 => (AW.seq (AW.region (AO.m I I (AO.m I I (AO.d (Yd.lenUM 1 I I I I) I (AO.p (Yp.cmpI (c := decide (st323.2 < (r26.1.length : Int))) I I I) I (AO.nil (AW.cond I I ?_ ?_)))))))))
 intro hc383
 replace h := ife_t hc383 h
 refine AW.skip ?_
 subst hy382
 refine AW.cutX (fun s ob => ∃ (j434 : Int), L.law25_PathsOver.J4 st323 j434 = some r381 ∧ s = [(13, .v (.int .i64 j434))] ∧ ob = [.arr b17 34 3 1 [Plan.row r15.1], .us v28 58 4 (r26.1.map Path.row)]) [(7, _), (8, _), (11, _), (14, _)] ⟨I, I, I, I, trivial⟩ ?_ ?_
 refine AW.block (AW.seqG (fun y435 hy435 => ?_))
 obtain ⟨p436, hp437, h⟩ := ob_some h
 obtain ⟨hp437i, hp437x⟩ := ix_some hp437
 refine AW.region (AO.m I I (AO.m I I (AO.m I I (AO.d (Yd.indexU 1 (m := p436.1) I I I I I I I hp437i (map_get hp437x)) I (AO.p (Yp.fieldPtr I I I I I I) I (AO.d (Yd.loadU 1 p436.1 3 I I I (map_get hp437x) I (y := .v (.int .i64 p436.2.Rate)) I) I (AO.p (Yp.binI (c := wr (st323.1 + p436.2.Rate)) I I I) I (AO.a I I (AO.nil ?_)))))))))
 subst hy435
 refine AW.seqG (fun y438 hy438 => (AW.region (AO.a I I (AO.nil ?_))))
 subst hy438
 refine AW.cutX (fun s ob => ∃ (j483 : Int), L.law25_PathsOver.J5 st323 p436 j483 = some r381 ∧ s = [(15, .v (.int .i64 j483))] ∧ ob = [.arr b17 34 3 1 [Plan.row r15.1], .us v28 58 4 (r26.1.map Path.row)]) [(7, _), (8, _), (11, _), (13, _), (14, _)] ⟨I, I, I, I, I, trivial⟩ ?_ ?_
 refine AW.seqG (fun y485 hy485 => (AW.region (AO.a I I (AO.nil ?_))))
 subst hy485
 refine AW.block ?_
 obtain ⟨o529, hL530, hR531⟩ := ob_some h
 clear h
 refine AW.loopX hL530 [(7, _), (8, _), (11, _), (13, _), (14, _)] ⟨I, I, I, I, I, trivial⟩ (fun (st515 : Int × Int) s ob => s = [(15, .v (.int .i64 st515.1)), (16, .v (.int .i64 st515.2))] ∧ ob = [.arr b17 34 3 1 [Plan.row r15.1], .us v28 58 4 (r26.1.map Path.row)]) ⟨I, I⟩ ⟨I, I, trivial⟩ ⟨[0, 1], I, by decide⟩ ?_
 rintro st515 r533 s ob ⟨rfl, rfl⟩ h hb532
 unfold L.law25_PathsOver.B6 at h
 refine AW.seqG (fun y534 hy534 => (AW.seq (AW.region (AO.m I I (AO.m I I (AO.m I I (AO.d (Yd.indexU 1 (m := p436.1) I I I I I I I hp437i (map_get hp437x)) I (AO.p (Yp.fieldPtr I I I I I I) I (AO.d (Yd.loadU 1 p436.1 2 I I I (map_get hp437x) I (y := .list 2 (p436.2.Hops.map Hop.row)) I) I (AO.p (Yp.lenM I I I) I (AO.p (Yp.cmpI (c := decide (st515.2 < (p436.2.Hops.length : Int))) I I I) I (AO.nil (AW.cond I I ?_ ?_)))))))))))))
 intro hc535
 replace h := ife_t hc535 h
 refine AW.skip ?_
 subst hy534
 refine AW.cutX (fun s ob => ∃ (j546 : Int), L.law25_PathsOver.J7 st515 j546 = some r533 ∧ s = [(15, .v (.int .i64 j546))] ∧ ob = [.arr b17 34 3 1 [Plan.row r15.1], .us v28 58 4 (r26.1.map Path.row)]) [(7, _), (8, _), (11, _), (13, _), (14, _), (16, _)] ⟨I, I, I, I, I, I, trivial⟩ ?_ ?_
 refine AW.block (AW.seqG (fun y547 hy547 => ?_))
 obtain ⟨p548, hp549, h⟩ := ob_some h
 obtain ⟨hp549i, hp549x⟩ := ix_some hp549
 refine AW.region (AO.m I I (AO.m I I (AO.d (Yd.indexU 1 (m := p436.1) I I I I I I I hp437i (map_get hp437x)) I (AO.p (Yp.fieldPtr I I I I I I) I (AO.d (Yd.loadU 1 p436.1 2 I I I (map_get hp437x) I (y := .list 2 (p436.2.Hops.map Hop.row)) I) I (AO.m I I (AO.p (Yp.indexE (m := p548.1) I I I I I I hp549i (map_get hp549x)) I (AO.d (Yd.loadE I I (y := .agg (Hop.row p548.2)) I) I (AO.act [] I (AX.alloc (cs := [.v (.int .i64 0), .v (.bool false)]) (m := 2) I I I I I (dst_some I) (fun b550 => (AO.act [2] I (AX.store 2 0 0 (es' := [Hop.row p548.2]) I I I I I I I I (le_ble I) I I (AO.nil ?_))))))))))))))
 subst hy547
 refine AW.seqG (fun y551 hy551 => (AW.region (AO.p (Yp.fieldPtr I I I I I I) I (AO.d (Yd.loadO 2 0 0 I I I I I (y := .v (.int .i64 p548.2.Segment)) I) I (AO.m I I (AO.p (Yp.cmpI (c := (p548.2.Segment == r19)) I I I) I (AO.nil ?_)))))))
 subst hy551
 refine AW.cond I I ?_ ?_
 intro hc552
 replace h := ife_t hc552 h
 refine AW.seqG (fun y553 hy553 => (AW.region (AO.m I I (AO.p (Yp.binI (c := wr (st515.1 + 1)) I I I) I (AO.a I I (AO.nil ?_))))))
 subst hy553
 refine AW.seq ?_
 obtain ⟨p554, hp555, h⟩ := ob_some h
 obtain ⟨hp555i, hp555x⟩ := ix_some hp555
 refine AW.regionD (.still 0 (.still 1 (.still 2 (.still 3 (.still 4 (.still 5 (.still 6 (.still 7 (.still 8 .nil))))))))) [2, 0] [_, _] (by kernel_rfl) I (AP.op I (Yp.fieldPtr I I I I I I) I (AP.o I (Yd.loadO 0 0 1 I I I I I (y := .v (.bool p548.2.Back)) I) I (AP.op I (Yp.fieldPtr I I I I I I) I (AP.o I (Yd.loadO 1 0 0 I I I I I (y := .list 1 (r15.1.Rates.map rI)) I) I (AP.op I (Yp.move I) I (AP.op I (Yp.indexE (m := p554.1) I I I I I I hp555i (map_get hp555x)) I (AP.o I (Yd.loadE I I (y := .v (.int .i64 p554.2)) I) I (AP.op I (Yp.cmpI (c := decide (p554.2 < 0)) I I I) I (AP.op I (Yp.neqB I I I I) I (AP.ofAO (AO.nil (AW.cond I I ?_ ?_))))))))))))
 intro hc556
 replace h := ife_t hc556 h
 refine AW.seq (AW.region (AO.a I I (AO.nil ?_)))
 obtain rfl := hb532 _ (Option.some.inj h).symm
 replace h := hR531
 replace h := se_l h
 obtain rfl := hb380 _ (Option.some.inj h).symm
 replace h := hR379
 replace h := se_l h
 refine AW.ghost (Ghost.pick [] (K := []) I (by decide)) ?_
 obtain rfl := Option.some.inj h
 refine AW.ret ?_
 exact ⟨.inr I, [_], [], ⟨I, trivial⟩, sl_n, ⟨I, I⟩⟩
 intro hc556
 replace h := ife_f hc556 h
 refine AW.skip ?_
 exact ⟨_, _, ⟨wr (st515.1 + 1), h, I, I⟩, ⟨I, I, I, I, I, I, I, trivial⟩, [0, 1], I, by decide⟩
 intro hc552
 replace h := ife_f hc552 h
 refine AW.skip ?_
 exact ⟨_, _, ⟨st515.1, h, I, I⟩, ⟨I, I, I, I, I, I, I, trivial⟩, [0, 1], I, by decide⟩
 rintro s ob ⟨j546, h, rfl, rfl⟩
 unfold L.law25_PathsOver.J7 at h
 refine AW.region (AO.m I I (AO.p (Yp.binI (c := wr (st515.2 + 1)) I I I) I (AO.a I I ?_)))
 obtain rfl := Option.some.inj h
 refine AO.nil ?_
 exact ⟨_, _, _, I, ⟨I, I⟩, ⟨I, I, I, I, I, I, I, trivial⟩, [0, 1], I, by decide⟩
 intro hc535
 replace h := ife_f hc535 h
 obtain rfl := hb532 _ (Option.some.inj h).symm
 replace h := hR531
 replace h := se_r h
 refine AW.exit ?_
 exact ⟨_, _, ⟨st515.1, h, I, I⟩, ⟨I, I, I, I, I, I, trivial⟩, [0, 1], I, by decide⟩
 rintro s ob ⟨j483, h, rfl, rfl⟩
 unfold L.law25_PathsOver.J5 at h
 refine AW.seq (AW.region (AO.m I I (AO.p (Yp.cmpI (c := (j483 != 1)) I I I) I (AO.nil (AW.cond I I ?_ ?_)))))
 intro hc484
 replace h := ife_t hc484 h
 refine AW.seq (AW.region (AO.a I I (AO.nil ?_)))
 obtain rfl := hb380 _ (Option.some.inj h).symm
 replace h := hR379
 replace h := se_l h
 refine AW.ghost (Ghost.pick [] (K := []) I (by decide)) ?_
 obtain rfl := Option.some.inj h
 refine AW.ret ?_
 exact ⟨.inr I, [_], [], ⟨I, trivial⟩, sl_n, ⟨I, I⟩⟩
 intro hc484
 replace h := ife_f hc484 h
 refine AW.skip ?_
 exact ⟨_, _, ⟨wr (st323.1 + p436.2.Rate), h, I, I⟩, ⟨I, I, I, I, I, trivial⟩, [0, 1], I, by decide⟩
 rintro s ob ⟨j434, h, rfl, rfl⟩
 unfold L.law25_PathsOver.J4 at h
 refine AW.region (AO.m I I (AO.p (Yp.binI (c := wr (st323.2 + 1)) I I I) I (AO.a I I ?_)))
 obtain rfl := Option.some.inj h
 refine AO.nil ?_
 exact ⟨_, _, _, I, ⟨I, I⟩, ⟨I, I, I, I, I, trivial⟩, [0, 1], I, by decide⟩
 intro hc383
 replace h := ife_f hc383 h
 obtain rfl := hb380 _ (Option.some.inj h).symm
 replace h := hR379
 replace h := se_r h
 refine AW.exit ?_
 exact ⟨_, _, ⟨st323.1, h, I, I⟩, ⟨I, I, I, trivial⟩, [0], I, by decide⟩
 rintro s ob ⟨j201, h, rfl, rfl⟩
 unfold L.law25_PathsOver.J1 at h
 refine AW.cutX (fun s ob => ∃ (j207 : Bool), L.law25_PathsOver.J2 j207 = some r ∧ s = [(4, .v (.bool j207))] ∧ ob = []) [] trivial ?_ ?_
 obtain ⟨p208, hp209, h⟩ := ob_some h
 obtain ⟨hp209i, hp209x⟩ := ix_some hp209
 rcases Bool.eq_false_or_eq_true ((j201 == (max p208.2 (wr (0 - p208.2))))) with hg210 | hg210
 replace h := ife_t hg210 h
 obtain ⟨r211, hx212, h⟩ := ob_some h
 refine AW.regionD (.still 0 (.still 1 (.still 2 (.still 3 (.still 4 (.still 5 (.still 6 (.still 7 (.still 8 (.still 9 (.still 10 (.still 11 (.still 12 (.still 13 (.still 14 (.act 15 (.still 16 (.still 17 .nil)))))))))))))))))) [0] [_] (by kernel_rfl) I (AP.op I (Yp.move I) I (AP.op I (Yp.fieldPtr I I I I I I) I (AP.o I (Yd.loadO 0 0 0 I I I I I (y := .list 1 (r15.1.Rates.map rI)) I) I (AP.op I (Yp.move I) I (AP.op I (Yp.indexE (m := p208.1) I I I I I I hp209i (map_get hp209x)) I (AP.o I (Yd.loadE I I (y := .v (.int .i64 p208.2)) I) I (AP.op I (Yp.fieldPtr I I I I I I) I (AP.o I (Yd.loadO 0 0 0 I I I I I (y := .list 1 (r15.1.Rates.map rI)) I) I (AP.op I (Yp.move I) I (AP.op I (Yp.indexE (m := p208.1) I I I I I I hp209i (map_get hp209x)) I (AP.o I (Yd.loadE I I (y := .v (.int .i64 p208.2)) I) I (AP.op I (Yp.neg (c := wr (0 - p208.2)) I I) I ?_))))))))))))
 refine AP.op I (Yp.maxI I I) I (AP.op I (Yp.cmpI (c := (j201 == (max p208.2 (wr (0 - p208.2))))) I I I) I (AP.op I (Yp.move I) I (AP.known 122 I hg210 (AP.actG [] I I I I I (AX.callL I (.refl _) I I (.rest _) I (L.law25_awake_ok  _ hx212) (dst_some I) (by rintro _ _ ⟨rfl, _⟩; rfl) ?_)))))
 rintro _ ⟨_, rfl, -⟩
 refine AP.p I (Yp.pickT I I) I (AP.p I (Yp.assign I) I (AP.ofAO (AO.nil ?_)))
 exact ⟨_, _, ⟨r211, h, I, I⟩, ⟨I, trivial⟩, [], I, by decide⟩
 replace h := ife_f hg210 h
 refine AW.regionD (.still 0 (.still 1 (.still 2 (.still 3 (.still 4 (.still 5 (.still 6 (.still 7 (.still 8 (.still 9 (.still 10 (.still 11 (.still 12 (.still 13 (.still 14 (.act 15 (.still 16 (.still 17 .nil)))))))))))))))))) [0] [_] (by kernel_rfl) I (AP.op I (Yp.move I) I (AP.op I (Yp.fieldPtr I I I I I I) I (AP.o I (Yd.loadO 0 0 0 I I I I I (y := .list 1 (r15.1.Rates.map rI)) I) I (AP.op I (Yp.move I) I (AP.op I (Yp.indexE (m := p208.1) I I I I I I hp209i (map_get hp209x)) I (AP.o I (Yd.loadE I I (y := .v (.int .i64 p208.2)) I) I (AP.op I (Yp.fieldPtr I I I I I I) I (AP.o I (Yd.loadO 0 0 0 I I I I I (y := .list 1 (r15.1.Rates.map rI)) I) I (AP.op I (Yp.move I) I (AP.op I (Yp.indexE (m := p208.1) I I I I I I hp209i (map_get hp209x)) I (AP.o I (Yd.loadE I I (y := .v (.int .i64 p208.2)) I) I (AP.op I (Yp.neg (c := wr (0 - p208.2)) I I) I ?_))))))))))))
 refine AP.op I (Yp.maxI I I) I (AP.op I (Yp.cmpI (c := (j201 == (max p208.2 (wr (0 - p208.2))))) I I I) I (AP.op I (Yp.move I) I (AP.known 122 I hg210 (AP.skipA I I I I I (dst_some I) (AP.p I (Yp.pickF I I) I (AP.p I (Yp.assign I) I (AP.ofAO (AO.nil ?_))))))))
 exact ⟨_, _, ⟨false, h, I, I⟩, ⟨I, trivial⟩, [], I, by decide⟩
 rintro s ob ⟨j207, h, rfl, rfl⟩
 unfold L.law25_PathsOver.J2 at h
 obtain rfl := Option.some.inj h
 refine AW.ret ?_
 exact ⟨.inr I, [_], [], ⟨I, trivial⟩, sl_n, ⟨I, I⟩⟩

end Go.Proofs.Ytndfiddakngjdaa
