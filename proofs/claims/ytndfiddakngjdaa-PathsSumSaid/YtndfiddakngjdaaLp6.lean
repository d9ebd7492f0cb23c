/- Walks that show what functions of the program compute; printed by a program of ours. No condition. -/
import Derived.Test.YtndfiddakngjdaaLp5
import Derived.Test.YtndfiddakngjdaaLp3
import Derived.Test.YtndfiddakngjdaaL4c
import Derived.Test.YtndfiddakngjdaaL4b
namespace Go.Proofs.Ytndfiddakngjdaa
open Go.Aw
set_option linter.unusedVariables false
set_option linter.unusedSimpArgs false

set_option maxRecDepth 100000 in
set_option maxHeartbeats 4000000 in
theorem L.paths_Valid_ok (n_0 : Network) (p_1 : Path) (r : Bool) (h : L.paths_Valid n_0 p_1 = some r) : ACalls Try.env 36 [.agg (Network.row n_0), .agg (Path.row p_1)] [] (fun x new => x = .v (.bool r) ∧ new = []) := by
 refine ACalls.of_body Try.func36 rfl rfl rfl (fun C hC => ?_)
 unfold L.paths_Valid at h
 refine AW.seq (AW.region (AO.act [] I (AX.box (cs := Network.row n_0) (m := 6) I I I (dst_some I) (fun b1 => (AO.act [] I (AX.box (cs := Path.row p_1) (m := 4) I I I (dst_some I) (fun b2 => (AO.a I I (AO.nil (AW.cutX (fun s ob => ∃ (j8 : Bool), L.paths_Valid.J1 j8 = some r ∧ s = [(4, .v (.bool j8))] ∧ ob = []) [] trivial ?_ ?_))))))))))
 obtain ⟨r9, hx10, h⟩ := ob_some h
 rcases Bool.eq_false_or_eq_true ((r9 == 0)) with hg11 | hg11
 replace h := ife_t hg11 h
 obtain ⟨r12, hx13, h⟩ := ob_some h
 refine AW.region (AO.d (Yd.loadO 0 0 0 I I I I I (y := .agg (Network.row n_0)) I) I (AO.act [] I (AX.callL I (.refl _) I I (.rest _) I (L.network_Check_ok n_0 _ hx10) (dst_some I) (by rintro _ _ ⟨rfl, _⟩; rfl) ?_)))
 rintro _ ⟨_, rfl, -⟩
 refine AO.p (Yp.cmpI (c := (r9 == 0)) I I I) I (AO.m I I (AO.known 8 I hg11 (AO.gt I I I (AO.d (Yd.loadO 0 0 0 I I I I I (y := .agg (Network.row n_0)) I) I (AO.gt I I I (AO.d (Yd.loadO 1 0 0 I I I I I (y := .agg (Path.row p_1)) I) I (AO.gt I I I (AO.act [] I (AX.callL I (.refl _) I I (.rest _) I (L.paths_valid_ok n_0 p_1 _ hx13) (dst_some I) (by rintro _ _ ⟨rfl, _⟩; rfl) ?_)))))))))
 rintro _ ⟨_, rfl, -⟩
 refine AO.p (Yp.pickT I I) I (AO.a I I (AO.nil ?_))
 exact ⟨_, _, ⟨r12, h, I, I⟩, ⟨I, trivial⟩, [], I, by decide⟩
 replace h := ife_f hg11 h
 refine AW.region (AO.d (Yd.loadO 0 0 0 I I I I I (y := .agg (Network.row n_0)) I) I (AO.act [] I (AX.callL I (.refl _) I I (.rest _) I (L.network_Check_ok n_0 _ hx10) (dst_some I) (by rintro _ _ ⟨rfl, _⟩; rfl) ?_)))
 rintro _ ⟨_, rfl, -⟩
 refine AO.p (Yp.cmpI (c := (r9 == 0)) I I I) I (AO.m I I (AO.known 8 I hg11 (AO.gf I I I (AO.gf I I I (AO.gf I I I (AO.p (Yp.pickF I I) I (AO.a I I (AO.nil ?_))))))))
 exact ⟨_, _, ⟨false, h, I, I⟩, ⟨I, trivial⟩, [], I, by decide⟩
 rintro s ob ⟨j8, h, rfl, rfl⟩
 unfold L.paths_Valid.J1 at h
 obtain rfl := Option.some.inj h
 refine AW.ret ?_
 exact ⟨.inr I, [_], [], ⟨I, trivial⟩, sl_n, ⟨I, I⟩⟩

set_option maxRecDepth 100000 in
set_option maxHeartbeats 4000000 in
theorem L.ref25_Alike_ok (a_0 : Path) (b_1 : Path) (r : Bool) (h : L.ref25_Alike a_0 b_1 = some r) : ACalls Try.env 37 [.agg (Path.row a_0), .agg (Path.row b_1)] [] (fun x new => x = .v (.bool r) ∧ new = []) := by
 refine ACalls.of_body Try.func37 rfl rfl rfl (fun C hC => ?_)
 unfold L.ref25_Alike at h
 refine AW.seqG (fun y1 hy1 => (AW.region (AO.act [] I (AX.box (cs := Path.row a_0) (m := 4) I I I (dst_some I) (fun b2 => (AO.act [] I (AX.box (cs := Path.row b_1) (m := 4) I I I (dst_some I) (fun b3 => (AO.a I I (AO.nil ?_))))))))))
 subst hy1
 refine AW.seqG (fun y4 hy4 => (AW.cutX (fun s ob => s = [(26, .v (.bool ((a_0.In != b_1.In) || ((a_0.Out != b_1.Out) || ((a_0.Hops.length : Int) != (b_1.Hops.length : Int))))))] ∧ ob = [.arr b2 58 4 1 [Path.row a_0], .arr b3 58 4 1 [Path.row b_1]]) [(2, _), (3, _)] ⟨I, I, trivial⟩ ?_ ?_))
 rcases Bool.eq_false_or_eq_true ((a_0.In != b_1.In)) with hg8 | hg8
 refine AW.region (AO.p (Yp.fieldPtr I I I I I I) I (AO.d (Yd.loadO 0 0 0 I I I I I (y := .v (.int .i64 a_0.In)) I) I (AO.p (Yp.fieldPtr I I I I I I) I (AO.d (Yd.loadO 1 0 0 I I I I I (y := .v (.int .i64 b_1.In)) I) I (AO.p (Yp.cmpI (c := (a_0.In != b_1.In)) I I I) I (AO.m I I (AO.known 11 I hg8 (AO.gf I I I (AO.gf I I I (AO.gf I I I (AO.gf I I I (AO.gf I I I ?_))))))))))))
 refine AO.p (Yp.pickT I I) I (AO.m I I (AO.gf I I I (AO.gf I I I (AO.gf I I I (AO.gf I I I (AO.gf I I I (AO.gf I I I (AO.gf I I I (AO.p (Yp.pickT I I) I (AO.nil ?_))))))))))
 exact ⟨_, _, ⟨I, I⟩, ⟨(get_b (by simp only [hg8, Bool.true_and, Bool.false_and, Bool.true_or, Bool.false_or, Bool.not_true, Bool.not_false, cond_true, cond_false])), I, I, trivial⟩, [0, 1], I, by decide⟩
 rcases Bool.eq_false_or_eq_true ((a_0.Out != b_1.Out)) with hg9 | hg9
 refine AW.region (AO.p (Yp.fieldPtr I I I I I I) I (AO.d (Yd.loadO 0 0 0 I I I I I (y := .v (.int .i64 a_0.In)) I) I (AO.p (Yp.fieldPtr I I I I I I) I (AO.d (Yd.loadO 1 0 0 I I I I I (y := .v (.int .i64 b_1.In)) I) I (AO.p (Yp.cmpI (c := (a_0.In != b_1.In)) I I I) I (AO.m I I (AO.known 11 I hg8 (AO.gt I I I (AO.p (Yp.fieldPtr I I I I I I) I (AO.gt I I I (AO.d (Yd.loadO 0 0 1 I I I I I (y := .v (.int .i64 a_0.Out)) I) I (AO.gt I I I ?_))))))))))))
 refine AO.p (Yp.fieldPtr I I I I I I) I (AO.gt I I I (AO.d (Yd.loadO 1 0 1 I I I I I (y := .v (.int .i64 b_1.Out)) I) I (AO.gt I I I (AO.p (Yp.cmpI (c := (a_0.Out != b_1.Out)) I I I) I (AO.p (Yp.pickF I I) I (AO.m I I (AO.known 18 I hg9 (AO.gf I I I (AO.gf I I I (AO.gf I I I (AO.gf I I I (AO.gf I I I ?_))))))))))))
 refine AO.gf I I I (AO.gf I I I (AO.p (Yp.pickT I I) I (AO.nil ?_)))
 exact ⟨_, _, ⟨I, I⟩, ⟨(get_b (by simp only [hg8, hg9, Bool.true_and, Bool.false_and, Bool.true_or, Bool.false_or, Bool.not_true, Bool.not_false, cond_true, cond_false])), I, I, trivial⟩, [0, 1], I, by decide⟩
 refine AW.region (AO.p (Yp.fieldPtr I I I I I I) I (AO.d (Yd.loadO 0 0 0 I I I I I (y := .v (.int .i64 a_0.In)) I) I (AO.p (Yp.fieldPtr I I I I I I) I (AO.d (Yd.loadO 1 0 0 I I I I I (y := .v (.int .i64 b_1.In)) I) I (AO.p (Yp.cmpI (c := (a_0.In != b_1.In)) I I I) I (AO.m I I (AO.known 11 I hg8 (AO.gt I I I (AO.p (Yp.fieldPtr I I I I I I) I (AO.gt I I I (AO.d (Yd.loadO 0 0 1 I I I I I (y := .v (.int .i64 a_0.Out)) I) I (AO.gt I I I ?_))))))))))))
 refine AO.p (Yp.fieldPtr I I I I I I) I (AO.gt I I I (AO.d (Yd.loadO 1 0 1 I I I I I (y := .v (.int .i64 b_1.Out)) I) I (AO.gt I I I (AO.p (Yp.cmpI (c := (a_0.Out != b_1.Out)) I I I) I (AO.p (Yp.pickF I I) I (AO.m I I (AO.known 18 I hg9 (AO.gt I I I (AO.p (Yp.fieldPtr I I I I I I) I (AO.gt I I I (AO.d (Yd.loadO 0 0 2 I I I I I (y := .list 2 (a_0.Hops.map Hop.row)) I) I (AO.gt I I I ?_))))))))))))
 refine AO.p (Yp.lenM I I I) I (AO.gt I I I (AO.p (Yp.fieldPtr I I I I I I) I (AO.gt I I I (AO.d (Yd.loadO 1 0 2 I I I I I (y := .list 2 (b_1.Hops.map Hop.row)) I) I (AO.gt I I I (AO.p (Yp.lenM I I I) I (AO.gt I I I (AO.p (Yp.cmpI (c := ((a_0.Hops.length : Int) != (b_1.Hops.length : Int))) I I I) I (AO.p (Yp.pickF I I) I (AO.nil ?_))))))))))
 exact ⟨_, _, ⟨I, I⟩, ⟨(get_b (by simp only [hg8, hg9, Bool.true_and, Bool.false_and, Bool.true_or, Bool.false_or, Bool.not_true, Bool.not_false, cond_true, cond_false])), I, I, trivial⟩, [0, 1], I, by decide⟩
 rintro s ob ⟨rfl, rfl⟩
 refine AW.cond I I ?_ ?_
 intro hc10
 replace h := ife_t hc10 h
 refine AW.seq (AW.region (AO.a I I (AO.nil (AW.ghost (Ghost.pick [] (K := []) I (by decide)) ?_))))
 obtain rfl := Option.some.inj h
 refine AW.ret ?_
 exact ⟨.inr I, [_], [], ⟨I, trivial⟩, sl_n, ⟨I, I⟩⟩
 intro hc10
 replace h := ife_f hc10 h
 refine AW.skip ?_
 subst hy4
 refine AW.cutX (fun s ob => ∃ (j37 : Unit), L.ref25_Alike.J1 j37 = some r ∧ s = [] ∧ ob = []) [] trivial ?_ ?_
 refine AW.seqG (fun y38 hy38 => (AW.region (AO.a I I (AO.nil ?_))))
 subst hy38
 refine AW.block ?_
 obtain ⟨o64, hL65, hR66⟩ := ob_some h
 clear h
 refine AW.loopX hL65 [(2, _), (3, _)] ⟨I, I, trivial⟩ (fun (st56 : Int) s ob => s = [(5, .v (.int .i64 st56))] ∧ ob = [.arr b2 58 4 1 [Path.row a_0], .arr b3 58 4 1 [Path.row b_1]]) ⟨I, I⟩ ⟨I, trivial⟩ ⟨[0, 1], I, by decide⟩ ?_
 rintro st56 r68 s ob ⟨rfl, rfl⟩ h hb67
 unfold L.ref25_Alike.B2 at h
 refine AW.seqG (fun y69 hy69 => (AW.seq (AW.region (AO.m I I (AO.p (Yp.fieldPtr I I I I I I) I (AO.d (Yd.loadO 0 0 2 I I I I I (y := .list 2 (a_0.Hops.map Hop.row)) I) I (AO.p (Yp.lenM I I I) I (AO.p (Yp.cmpI (c := decide (st56 < (a_0.Hops.length : Int))) I I I) I (AO.nil (AW.cond I I ?_ ?_))))))))))
 intro hc70
 replace h := ife_t hc70 h
 refine AW.skip ?_
 subst hy69
 refine AW.seq (AW.block (AW.seq ?_))
 obtain ⟨p71, hp72, h⟩ := ob_some h
 obtain ⟨hp72i, hp72x⟩ := ix_some hp72
 obtain ⟨p73, hp74, h⟩ := ob_some h
 obtain ⟨hp74i, hp74x⟩ := ix_some hp74
 refine AW.regionD (.still 0 (.still 1 (.still 2 (.still 3 (.still 4 (.still 5 (.still 6 (.still 7 (.still 8 (.still 9 (.still 10 .nil))))))))))) [0, 1] [_, _] (by kernel_rfl) I (AP.op I (Yp.fieldPtr I I I I I I) I (AP.o I (Yd.loadO 0 0 2 I I I I I (y := .list 2 (a_0.Hops.map Hop.row)) I) I (AP.op I (Yp.move I) I (AP.op I (Yp.indexE (m := p71.1) I I I I I I hp72i (map_get hp72x)) I (AP.o I (Yd.loadE I I (y := .agg (Hop.row p71.2)) I) I (AP.op I (Yp.fieldPtr I I I I I I) I (AP.o I (Yd.loadO 1 0 2 I I I I I (y := .list 2 (b_1.Hops.map Hop.row)) I) I (AP.op I (Yp.move I) I (AP.op I (Yp.indexE (m := p73.1) I I I I I I hp74i (map_get hp74x)) I (AP.o I (Yd.loadE I I (y := .agg (Hop.row p73.2)) I) I (AP.op I (Yp.eqStruct (r := ((p71.2.Segment == p73.2.Segment) && ((p71.2.Back == p73.2.Back) && true))) I I Try.eq60 I I I I) I (AP.ofAO ?_))))))))))))
 refine AO.nil (AW.cond I I ?_ ?_)
 intro hc75
 replace h := ife_t hc75 h
 refine AW.seq (AW.region (AO.a I I (AO.nil ?_)))
 obtain rfl := hb67 _ (Option.some.inj h).symm
 replace h := hR66
 replace h := se_l h
 refine AW.ghost (Ghost.pick [] (K := []) I (by decide)) ?_
 obtain rfl := Option.some.inj h
 refine AW.ret ?_
 exact ⟨.inr I, [_], [], ⟨I, trivial⟩, sl_n, ⟨I, I⟩⟩
 intro hc75
 replace h := ife_f hc75 h
 refine AW.skip (AW.region (AO.m I I (AO.p (Yp.binI (c := wr (st56 + 1)) I I I) I (AO.a I I ?_))))
 obtain rfl := Option.some.inj h
 refine AO.nil ?_
 exact ⟨_, _, _, I, ⟨I, I⟩, ⟨I, I, I, trivial⟩, [0, 1], I, by decide⟩
 intro hc70
 replace h := ife_f hc70 h
 obtain rfl := hb67 _ (Option.some.inj h).symm
 replace h := hR66
 replace h := se_r h
 refine AW.exit ?_
 exact ⟨_, _, ⟨(), h, I, I⟩, trivial, [], I, by decide⟩
 rintro s ob ⟨j37, h, rfl, rfl⟩
 unfold L.ref25_Alike.J1 at h
 refine AW.seq (AW.region (AO.a I I (AO.nil ?_)))
 obtain rfl := Option.some.inj h
 refine AW.ret ?_
 exact ⟨.inr I, [_], [], ⟨I, trivial⟩, sl_n, ⟨I, I⟩⟩

set_option maxRecDepth 100000 in
set_option maxHeartbeats 4000000 in
theorem L.second_Few_ok (l_0 : List Int) (r : Bool) (h : L.second_Few l_0 = r) : ACalls Try.env 23 [.list 1 (l_0.map rI)] [] (fun x new => x = .v (.bool r) ∧ new = []) := by
 refine ACalls.of_body Try.func23 rfl rfl rfl (fun C hC => ?_)
 unfold L.second_Few at h
 refine AW.seq (AW.region (AO.a I I (AO.nil (AW.seq (AW.region (AO.m I I (AO.p (Yp.lenM I I I) I (AO.p (Yp.cmpI (c := decide ((l_0.length : Int) ≤ 400)) I I I) I (AO.a I I (AO.nil ?_))))))))))
 obtain rfl := h
 refine AW.ret ?_
 exact ⟨.inr I, [_], [], ⟨I, trivial⟩, sl_n, ⟨I, I⟩⟩

set_option maxRecDepth 100000 in
set_option maxHeartbeats 4000000 in
theorem L.law25_PathsSum_ok (l_0 : List Int) (r : Bool) (h : L.law25_PathsSum l_0 = some r) : ACalls Try.env 9 [.list 1 (l_0.map rI)] [] (fun x new => x = .v (.bool r) ∧ new = []) := by
 refine ACalls.of_body Try.func9 rfl rfl rfl (fun C hC => ?_)
 unfold L.law25_PathsSum at h
 refine AW.seqG (fun y1 hy1 => (AW.region (AO.a I I (AO.nil ?_))))
 subst hy1
 refine AW.seqG (fun y2 hy2 => (AW.seq (AW.region (AO.m I I (AO.act [] I (AX.callL I (.refl _) I I (.rest _) I (L.second_Few_ok l_0 _ I) (dst_some I) (by rintro _ _ ⟨rfl, _⟩; rfl) ?_))))))
 rintro _ ⟨_, rfl, -⟩
 refine AO.p (Yp.not I) I (AO.nil (AW.cond I I ?_ ?_))
 intro hc3
 replace h := ife_t hc3 h
 refine AW.seq ?_
 obtain ⟨r4, hx5, h⟩ := ob_some h
 refine AW.region (AO.act [] I (AX.callL I (.refl _) I I (.rest _) I (L.law25_awake_ok  _ hx5) (dst_some I) (by rintro _ _ ⟨rfl, _⟩; rfl) ?_))
 rintro _ ⟨_, rfl, -⟩
 refine AO.a I I (AO.nil ?_)
 obtain rfl := Option.some.inj h
 refine AW.ret ?_
 exact ⟨.inr I, [_], [], ⟨I, trivial⟩, sl_n, ⟨I, I⟩⟩
 intro hc3
 replace h := ife_f hc3 h
 refine AW.skip ?_
 subst hy2
 refine AW.seqG (fun y6 hy6 => ?_)
 obtain ⟨r7, hx8, h⟩ := ob_some h
 refine AW.region (AO.m I I (AO.act [] I (AX.call0 I I I (L.keep_New_ok l_0 _ hx8) (dst_some I) ?_)))
 rintro _ _ ⟨b9, rfl, rfl⟩
 refine AO.a I I (AO.nil ?_)
 subst hy6
 refine AW.seqG (fun y10 hy10 => ?_)
 obtain ⟨r11, hx12, h⟩ := ob_some h
 refine AW.region (AO.m I I (AO.act [0] I (AX.callG [0] I I I I (by decide) (L.keep_Src_Network_ok b9 r7 _ hx12) (dst_some I) ?_)))
 rintro _ _ _ - ⟨rfl, rfl, rfl⟩
 refine AO.act [] I (AX.alloc (cs := [.v (.slice none 0 0), .v (.slice none 0 0), .v (.slice none 0 0), .v (.slice none 0 0), .v (.int .i64 0), .v (.int .i64 0)]) (m := 6) I I I I I (dst_some I) (fun b13 => (AO.act [1] I (AX.store 1 0 0 (es' := [Network.row r11.1]) I I I I I I I I (le_ble I) I I (AO.nil ?_)))))
 subst hy10
 refine AW.seqG (fun y14 hy14 => ?_)
 obtain ⟨r15, hx16, h⟩ := ob_some h
 refine AW.region (AO.m I I (AO.d (Yd.loadO 1 0 0 I I I I I (y := .agg (Network.row r11.1)) I) I (AO.act [0] I (AX.callG [0] I I I I (by decide) (L.keep_Src_Plan_ok b9 r11.2 r11.1 _ hx16) (dst_some I) ?_))))
 rintro _ _ _ - ⟨rfl, rfl, rfl⟩
 refine AO.act [] I (AX.alloc (cs := [.v (.slice none 0 0), .v (.slice none 0 0), .v (.slice none 0 0)]) (m := 3) I I I I I (dst_some I) (fun b17 => (AO.act [2] I (AX.store 2 0 0 (es' := [Plan.row r15.1]) I I I I I I I I (le_ble I) I I (AO.nil ?_)))))
 subst hy14
 refine AW.seqG (fun y18 hy18 => ?_)
 obtain ⟨r19, hx20, h⟩ := ob_some h
 refine AW.region (AO.d (Yd.loadO 1 0 0 I I I I I (y := .agg (Network.row r11.1)) I) I (AO.d (Yd.loadO 2 0 0 I I I I I (y := .agg (Plan.row r15.1)) I) I (AO.act [] I (AX.call0 I I I (L.paths_Divide_ok r11.1 r15.1 _ hx20) (dst_some I) ?_))))
 rintro _ _ ⟨v21, rfl, rfl⟩
 refine AO.m I I (AO.p (Yp.extract I I) I (AO.p (Yp.extract I I) I (AO.a I I (AO.a I I (AO.nil ?_)))))
 subst hy18
 refine AW.seqG (fun y22 hy22 => ?_)
 obtain ⟨r23, hx24, h⟩ := ob_some h
 refine AW.region (AO.d (Yd.loadO 1 0 0 I I I I I (y := .agg (Network.row r11.1)) I) I (AO.m I I (AO.p (Yp.fieldPtr I I I I I I) I (AO.d (Yd.loadO 2 0 2 I I I I I (y := .list 1 (r15.1.Pumps.map rB)) I) I (AO.ghost (Ghost.freeze [3] (K := [.us v21 58 4 (r19.1.map Path.row)]) I [(27, .list 4 (r19.1.map Path.row)), (6, .list 4 (r19.1.map Path.row)), (31, .list 4 (r19.1.map Path.row))] ⟨⟨_, I, .us 0 I⟩, ⟨_, I, .us 0 I⟩, ⟨_, I, .us 0 I⟩, trivial⟩ (ob' := [.arr b9 90 2 1 [batchlinekeep_Src.row r15.2], .arr b13 30 6 1 [Network.row r11.1], .arr b17 34 3 1 [Plan.row r15.1]]) (.rest _)) (AO.act [] I (AX.call0 I I I (L.paths_Sum_ok r11.1 r19.1 r15.1.Pumps _ hx24) (dst_some I) ?_)))))))
 rintro _ _ ⟨rfl, rfl⟩
 refine AO.m I I (AO.p (Yp.extract I I) I (AO.p (Yp.extract I I) I (AO.act [] I (AX.alloc (cs := [.v (.slice none 0 0), .v (.slice none 0 0), .v (.slice none 0 0)]) (m := 3) I I I I I (dst_some I) (fun b25 => (AO.act [3] I (AX.store 3 0 0 (es' := [Plan.row r23.1]) I I I I I I I I (le_ble I) I I (AO.a I I (AO.nil ?_)))))))))
 subst hy22
 refine AW.seqG (fun y26 hy26 => (AW.cutX (fun s ob => ∃ (j31 : Bool), L.law25_PathsSum.J1 r11 r19 j31 = some r ∧ s = [(48, .v (.bool j31))] ∧ ob = [.arr b13 30 6 1 [Network.row r11.1]]) [(4, _), (6, _)] ⟨I, I, trivial⟩ ?_ ?_))
 rcases Bool.eq_false_or_eq_true ((r19.2 != 0)) with hg340 | hg340
 replace h := ife_t hg340 h
 refine AW.region (AO.m I I (AO.p (Yp.cmpI (c := (r19.2 != 0)) I I I) I (AO.m I I (AO.known 39 I hg340 (AO.gf I I I (AO.gf I I I (AO.p (Yp.pickT I I) I (AO.m I I (AO.gf I I I (AO.gf I I I (AO.gf I I I (AO.gf I I I ?_))))))))))))
 refine AO.p (Yp.pickT I I) I (AO.nil ?_)
 exact ⟨_, _, ⟨true, h, I, I⟩, ⟨I, I, I, trivial⟩, [1], I, by decide⟩
 replace h := ife_f hg340 h
 rcases Bool.eq_false_or_eq_true ((r23.2 != 0)) with hg341 | hg341
 replace h := ife_t hg341 h
 refine AW.region (AO.m I I (AO.p (Yp.cmpI (c := (r19.2 != 0)) I I I) I (AO.m I I (AO.known 39 I hg340 (AO.gt I I I (AO.m I I (AO.gt I I I (AO.p (Yp.cmpI (c := (r23.2 != 0)) I I I) I (AO.p (Yp.pickF I I) I (AO.m I I (AO.known 43 I hg341 (AO.gf I I I ?_))))))))))))
 refine AO.gf I I I (AO.gf I I I (AO.gf I I I (AO.p (Yp.pickT I I) I (AO.nil ?_))))
 exact ⟨_, _, ⟨true, h, I, I⟩, ⟨I, I, I, trivial⟩, [1], I, by decide⟩
 replace h := ife_f hg341 h
 obtain ⟨r342, hx343, h⟩ := ob_some h
 refine AW.region (AO.m I I (AO.p (Yp.cmpI (c := (r19.2 != 0)) I I I) I (AO.m I I (AO.known 39 I hg340 (AO.gt I I I (AO.m I I (AO.gt I I I (AO.p (Yp.cmpI (c := (r23.2 != 0)) I I I) I (AO.p (Yp.pickF I I) I (AO.m I I (AO.known 43 I hg341 (AO.gt I I I ?_))))))))))))
 refine AO.d (Yd.loadO 2 0 0 I I I I I (y := .agg (Plan.row r15.1)) I) I (AO.gt I I I (AO.d (Yd.loadO 3 0 0 I I I I I (y := .agg (Plan.row r23.1)) I) I (AO.gt I I I (AO.act [] I (AX.callL I (.refl _) I I (.rest _) I (L.ref25_SamePlan_ok r15.1 r23.1 _ hx343) (dst_some I) (by rintro _ _ ⟨rfl, _⟩; rfl) ?_)))))
 rintro _ ⟨_, rfl, -⟩
 refine AO.gt I I I (AO.p (Yp.not I) I (AO.p (Yp.pickF I I) I (AO.nil ?_)))
 exact ⟨_, _, ⟨(!r342), h, I, I⟩, ⟨I, I, I, trivial⟩, [1], I, by decide⟩
 rintro s ob ⟨j31, h, rfl, rfl⟩
 unfold L.law25_PathsSum.J1 at h
 refine AW.cond I I ?_ ?_
 intro hc32
 replace h := ife_t hc32 h
 refine AW.seq (AW.region (AO.a I I (AO.nil (AW.ghost (Ghost.pick [] (K := []) I (by decide)) ?_))))
 obtain rfl := Option.some.inj h
 refine AW.ret ?_
 exact ⟨.inr I, [_], [], ⟨I, trivial⟩, sl_n, ⟨I, I⟩⟩
 intro hc32
 replace h := ife_f hc32 h
 refine AW.skip ?_
 subst hy26
 refine AW.cutX (fun s ob => ∃ (j141 : Unit), L.law25_PathsSum.J2 j141 = some r ∧ s = [] ∧ ob = []) [] trivial ?_ ?_
 refine AW.seqG (fun y144 hy144 => (AW.region (AO.a I I (AO.nil ?_))))
 subst hy144
 refine AW.block ?_
 obtain ⟨o252, hL253, hR254⟩ := ob_some h
 clear h
 refine AW.loopX hL253 [(4, _), (6, _)] ⟨I, I, trivial⟩ (fun (st216 : Int) s ob => s = [(10, .v (.int .i64 st216))] ∧ ob = [.arr b13 30 6 1 [Network.row r11.1]]) ⟨I, I⟩ ⟨I, trivial⟩ ⟨[0], I, by decide⟩ ?_
 rintro st216 r256 s ob ⟨rfl, rfl⟩ h hb255
 unfold L.law25_PathsSum.B3 at h
 refine AW.seqG (fun y257 hy257 => (AW.seq (AW.region (AO.m I I (AO.m I I (AO.p (Yp.lenM I I I) I (AO.p (Yp.cmpI (c := decide (st216 < (r19.1.length : Int))) I I I) I (AO.nil (AW.cond I I ?_ ?_)))))))))
 intro hc258
 replace h := ife_t hc258 h
 refine AW.skip ?_
 subst hy257
 refine AW.cutX (fun s ob => ∃ (j291 : Unit), L.law25_PathsSum.J4 st216 j291 = some r256 ∧ s = [] ∧ ob = [.arr b13 30 6 1 [Network.row r11.1]]) [(4, _), (6, _), (10, _)] ⟨I, I, I, trivial⟩ ?_ ?_
 refine AW.block (AW.seqG (fun y292 hy292 => (AW.seq ?_)))
 obtain ⟨p293, hp294, h⟩ := ob_some h
 obtain ⟨hp294i, hp294x⟩ := ix_some hp294
 obtain ⟨r295, hx296, h⟩ := ob_some h
 refine AW.regionD (.still 0 (.still 1 (.still 2 (.still 3 (.still 4 (.act 5 (.still 6 .nil))))))) [0] [_] (by kernel_rfl) I (AP.o I (Yd.loadO 0 0 0 I I I I I (y := .agg (Network.row r11.1)) I) I (AP.op I (Yp.move I) I (AP.op I (Yp.move I) I (AP.op I (Yp.indexE (m := p293.1) I I I I I I hp294i (map_get hp294x)) I (AP.o I (Yd.loadE I I (y := .agg (Path.row p293.2)) I) I (AP.act [] I I I (AX.callL I (.refl _) I I (.rest _) I (L.paths_Valid_ok r11.1 p293.2 _ hx296) (dst_some I) (by rintro _ _ ⟨rfl, _⟩; rfl) ?_)))))))
 rintro _ ⟨_, rfl, -⟩
 refine AP.p I (Yp.not I) I (AP.ofAO (AO.nil (AW.cond I I ?_ ?_)))
 intro hc297
 replace h := ife_t hc297 h
 refine AW.seq (AW.region (AO.a I I (AO.nil ?_)))
 obtain rfl := hb255 _ (Option.some.inj h).symm
 replace h := hR254
 replace h := se_l h
 refine AW.ghost (Ghost.pick [] (K := []) I (by decide)) ?_
 obtain rfl := Option.some.inj h
 refine AW.ret ?_
 exact ⟨.inr I, [_], [], ⟨I, trivial⟩, sl_n, ⟨I, I⟩⟩
 intro hc297
 replace h := ife_f hc297 h
 refine AW.skip ?_
 subst hy292
 refine AW.seqG (fun y298 hy298 => (AW.region (AO.a I I (AO.nil ?_))))
 subst hy298
 refine AW.block ?_
 obtain ⟨o324, hL325, hR326⟩ := ob_some h
 clear h
 refine AW.loopX hL325 [(4, _), (6, _), (10, _)] ⟨I, I, I, trivial⟩ (fun (st316 : Int) s ob => s = [(11, .v (.int .i64 st316))] ∧ ob = [.arr b13 30 6 1 [Network.row r11.1]]) ⟨I, I⟩ ⟨I, trivial⟩ ⟨[0], I, by decide⟩ ?_
 rintro st316 r328 s ob ⟨rfl, rfl⟩ h hb327
 unfold L.law25_PathsSum.B5 at h
 refine AW.seqG (fun y329 hy329 => (AW.seq (AW.region (AO.m I I (AO.m I I (AO.p (Yp.cmpI (c := decide (st316 < st216)) I I I) I (AO.nil (AW.cond I I ?_ ?_))))))))
 intro hc330
 replace h := ife_t hc330 h
 refine AW.skip ?_
 subst hy329
 refine AW.seq (AW.block (AW.seq ?_))
 obtain ⟨p331, hp332, h⟩ := ob_some h
 obtain ⟨hp332i, hp332x⟩ := ix_some hp332
 obtain ⟨r333, hx334, h⟩ := ob_some h
 refine AW.regionD (.still 0 (.still 1 (.still 2 (.still 3 (.still 4 (.still 5 (.still 6 (.still 7 (.act 8 .nil))))))))) [] [] (by kernel_rfl) I (AP.op I (Yp.move I) I (AP.op I (Yp.move I) I (AP.op I (Yp.indexE (m := p293.1) I I I I I I hp294i (map_get hp294x)) I (AP.o I (Yd.loadE I I (y := .agg (Path.row p293.2)) I) I (AP.op I (Yp.move I) I (AP.op I (Yp.move I) I (AP.op I (Yp.indexE (m := p331.1) I I I I I I hp332i (map_get hp332x)) I (AP.o I (Yd.loadE I I (y := .agg (Path.row p331.2)) I) I (AP.act [] I I I (AX.callL I (.refl _) I I (.rest _) I (L.ref25_Alike_ok p293.2 p331.2 _ hx334) (dst_some I) (by rintro _ _ ⟨rfl, _⟩; rfl) ?_))))))))))
 rintro _ ⟨_, rfl, -⟩
 refine AP.ofAO (AO.nil (AW.cond I I ?_ ?_))
 intro hc335
 replace h := ife_t hc335 h
 refine AW.seq (AW.region (AO.a I I (AO.nil ?_)))
 obtain rfl := hb327 _ (Option.some.inj h).symm
 replace h := hR326
 replace h := se_l h
 obtain rfl := hb255 _ (Option.some.inj h).symm
 replace h := hR254
 replace h := se_l h
 refine AW.ghost (Ghost.pick [] (K := []) I (by decide)) ?_
 obtain rfl := Option.some.inj h
 refine AW.ret ?_
 exact ⟨.inr I, [_], [], ⟨I, trivial⟩, sl_n, ⟨I, I⟩⟩
 intro hc335
 replace h := ife_f hc335 h
 refine AW.skip (AW.region (AO.m I I (AO.p (Yp.binI (c := wr (st316 + 1)) I I I) I (AO.a I I ?_))))
 obtain rfl := Option.some.inj h
 refine AO.nil ?_
 exact ⟨_, _, _, I, ⟨I, I⟩, ⟨I, I, I, I, trivial⟩, [0], I, by decide⟩
 intro hc330
 replace h := ife_f hc330 h
 obtain rfl := hb327 _ (Option.some.inj h).symm
 replace h := hR326
 replace h := se_r h
 refine AW.exit ?_
 exact ⟨_, _, ⟨(), h, I, I⟩, ⟨I, I, I, trivial⟩, [0], I, by decide⟩
 rintro s ob ⟨j291, h, rfl, rfl⟩
 unfold L.law25_PathsSum.J4 at h
 refine AW.region (AO.m I I (AO.p (Yp.binI (c := wr (st216 + 1)) I I I) I (AO.a I I ?_)))
 obtain rfl := Option.some.inj h
 refine AO.nil ?_
 exact ⟨_, _, _, I, ⟨I, I⟩, ⟨I, I, I, trivial⟩, [0], I, by decide⟩
 intro hc258
 replace h := ife_f hc258 h
 obtain rfl := hb255 _ (Option.some.inj h).symm
 replace h := hR254
 replace h := se_r h
 refine AW.exit ?_
 exact ⟨_, _, ⟨(), h, I, I⟩, trivial, [], I, by decide⟩
 rintro s ob ⟨j141, h, rfl, rfl⟩
 unfold L.law25_PathsSum.J2 at h
 refine AW.seq ?_
 obtain ⟨r142, hx143, h⟩ := ob_some h
 refine AW.region (AO.act [] I (AX.callL I (.refl _) I I (.rest _) I (L.law25_awake_ok  _ hx143) (dst_some I) (by rintro _ _ ⟨rfl, _⟩; rfl) ?_))
 rintro _ ⟨_, rfl, -⟩
 refine AO.a I I (AO.nil ?_)
 obtain rfl := Option.some.inj h
 refine AW.ret ?_
 exact ⟨.inr I, [_], [], ⟨I, trivial⟩, sl_n, ⟨I, I⟩⟩

end Go.Proofs.Ytndfiddakngjdaa
