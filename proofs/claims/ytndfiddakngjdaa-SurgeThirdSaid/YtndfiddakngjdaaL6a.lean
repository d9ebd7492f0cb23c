/- Walks that show what functions of the program compute; printed by a program of ours. No condition. -/
import Derived.Test.YtndfiddakngjdaaL5
import Derived.Test.YtndfiddakngjdaaL6
import Derived.Test.YtndfiddakngjdaaL4c
import Derived.Test.YtndfiddakngjdaaL4b
import Derived.Test.YtndfiddakngjdaaDt
namespace Go.Proofs.Ytndfiddakngjdaa
open Go.Aw
set_option linter.unusedVariables false
set_option linter.unusedSimpArgs false

set_option maxRecDepth 100000 in
set_option maxHeartbeats 4000000 in
theorem L.keep_Added_ok (p_0 : Plan) (q_1 : Plan) (r : Plan) (h : L.keep_Added p_0 q_1 = some r) : ACalls Try.env 21 [.agg (Plan.row p_0), .agg (Plan.row q_1)] [] (fun x new => x = .agg (Plan.row r) ∧ new = []) := by
 refine ACalls.of_body Try.func21 rfl rfl rfl (fun C hC => ?_)
 unfold L.keep_Added at h
 refine AW.seqG (fun y1 hy1 => (AW.region (AO.act [] I (AX.box (cs := Plan.row p_0) (m := 3) I I I (dst_some I) (fun b2 => (AO.act [] I (AX.box (cs := Plan.row q_1) (m := 3) I I I (dst_some I) (fun b3 => (AO.act [] I (AX.alloc (cs := [.v (.slice none 0 0), .v (.slice none 0 0), .v (.slice none 0 0)]) (m := 3) I I I I I (dst_some I) (fun b4 => (AO.nil ?_))))))))))))
 subst hy1
 refine AW.seqG (fun y5 hy5 => ?_)
 obtain ⟨l7, hx8, h⟩ := ob_some h
 refine AW.region (AO.act [] I (AX.buildSlice (sz := 1) (es := ([] : List Bool).map rB) I I I I I I I I I I I (dst_some I) (fun v6 => (AO.p (Yp.fieldPtr I I I I I I) I (AO.d (Yd.loadO 0 0 2 I I I I I (y := .list 1 (p_0.Pumps.map rB)) I) I (AO.act [3] I (AX.appendU 3 I I I I I I I I I (AppSrc.list I) (app_len (app_some hx8).1) (app_map (app_some hx8).2) (dst_some I) (fun v9 => (AO.one 3 I (fun v9o => (AO.p (Yp.buildP (l := [.v (.slice none 0 0), .v (.slice none 0 0), .v v9]) Try.bld34 (fill_step I I (cells_v v9o) I (fill_nil))) I (AO.act [] I (AX.alloc (cs := [.v (.slice none 0 0), .v (.slice none 0 0), .v (.slice none 0 0)]) (m := 3) I I I I I (dst_some I) (fun b10 => (AO.act [4] I (AX.store 4 0 0 (es' := [[.v (.slice none 0 0), .v (.slice none 0 0), .v v9]]) I I I I I I I I (le_ble I) I I (AO.nil ?_)))))))))))))))))
 subst hy5
 refine AW.seqG (fun y11 hy11 => (AW.cutX (fun s ob => s = [(28, .v (.bool (((p_0.Rates.length : Int) != (q_1.Rates.length : Int)) || ((p_0.Ports.length : Int) != (q_1.Ports.length : Int)))))] ∧ ob = [.arr b2 34 3 1 [Plan.row p_0], .arr b3 34 3 1 [Plan.row q_1], .arr b4 34 3 1 [[.v (.slice none 0 0), .v (.slice none 0 0), .v (.slice none 0 0)]], .us v9 4 1 (l7.map rB), .arr b10 34 3 1 [[.v (.slice none 0 0), .v (.slice none 0 0), .v v9]]]) [(2, _), (3, _), (4, _), (5, _)] ⟨I, I, I, I, trivial⟩ ?_ ?_))
 rcases Bool.eq_false_or_eq_true (((p_0.Rates.length : Int) != (q_1.Rates.length : Int))) with hg14 | hg14
 refine AW.region (AO.p (Yp.fieldPtr I I I I I I) I (AO.d (Yd.loadO 0 0 0 I I I I I (y := .list 1 (p_0.Rates.map rI)) I) I (AO.p (Yp.lenM I I I) I (AO.p (Yp.fieldPtr I I I I I I) I (AO.d (Yd.loadO 1 0 0 I I I I I (y := .list 1 (q_1.Rates.map rI)) I) I (AO.p (Yp.lenM I I I) I (AO.p (Yp.cmpI (c := ((p_0.Rates.length : Int) != (q_1.Rates.length : Int))) I I I) I (AO.m I I (AO.known 20 I hg14 (AO.gf I I I (AO.gf I I I (AO.gf I I I ?_))))))))))))
 refine AO.gf I I I (AO.gf I I I (AO.gf I I I (AO.gf I I I (AO.p (Yp.pickT I I) I (AO.nil ?_)))))
 exact ⟨_, _, ⟨I, I⟩, ⟨(get_b (by simp only [hg14, Bool.true_and, Bool.false_and, Bool.true_or, Bool.false_or, Bool.not_true, Bool.not_false, cond_true, cond_false])), I, I, I, I, trivial⟩, [0, 1, 2, 3, 4], I, by decide⟩
 refine AW.region (AO.p (Yp.fieldPtr I I I I I I) I (AO.d (Yd.loadO 0 0 0 I I I I I (y := .list 1 (p_0.Rates.map rI)) I) I (AO.p (Yp.lenM I I I) I (AO.p (Yp.fieldPtr I I I I I I) I (AO.d (Yd.loadO 1 0 0 I I I I I (y := .list 1 (q_1.Rates.map rI)) I) I (AO.p (Yp.lenM I I I) I (AO.p (Yp.cmpI (c := ((p_0.Rates.length : Int) != (q_1.Rates.length : Int))) I I I) I (AO.m I I (AO.known 20 I hg14 (AO.gt I I I (AO.p (Yp.fieldPtr I I I I I I) I (AO.gt I I I ?_))))))))))))
 refine AO.d (Yd.loadO 0 0 1 I I I I I (y := .list 1 (p_0.Ports.map rI)) I) I (AO.gt I I I (AO.p (Yp.lenM I I I) I (AO.gt I I I (AO.p (Yp.fieldPtr I I I I I I) I (AO.gt I I I (AO.d (Yd.loadO 1 0 1 I I I I I (y := .list 1 (q_1.Ports.map rI)) I) I (AO.gt I I I (AO.p (Yp.lenM I I I) I (AO.gt I I I (AO.p (Yp.cmpI (c := ((p_0.Ports.length : Int) != (q_1.Ports.length : Int))) I I I) I (AO.p (Yp.pickF I I) I (AO.nil ?_))))))))))))
 exact ⟨_, _, ⟨I, I⟩, ⟨(get_b (by simp only [hg14, Bool.true_and, Bool.false_and, Bool.true_or, Bool.false_or, Bool.not_true, Bool.not_false, cond_true, cond_false])), I, I, I, I, trivial⟩, [0, 1, 2, 3, 4], I, by decide⟩
 rintro s ob ⟨rfl, rfl⟩
 refine AW.cond I I ?_ ?_
 intro hc15
 replace h := ife_t hc15 h
 refine AW.seq (AW.region (AO.d (Yd.loadO 0 0 0 I I I I I (y := .agg (Plan.row p_0)) I) I (AO.act [2] I (AX.store 2 0 0 (es' := [Plan.row p_0]) I I I I I I I I (le_ble I) I I (AO.nil (AW.ghost (Ghost.pick [2] (K := [.arr b4 34 3 1 [Plan.row p_0]]) I (by decide)) ?_))))))
 obtain rfl := Option.some.inj h
 refine AW.ret ?_
 exact ⟨.inr I, [_], [], ⟨⟨0, _, _, _, _, _, _, _, I, I, I, I, I⟩, trivial⟩, sl_n, ⟨I, I⟩⟩
 intro hc15
 replace h := ife_f hc15 h
 refine AW.skip ?_
 subst hy11
 refine AW.cutX (fun s ob => ∃ (j56 : List Int) (v57 : Value), L.keep_Added.J1 p_0 q_1 l7 j56 = some r ∧ s = [] ∧ ob = [.arr b2 34 3 1 [Plan.row p_0], .arr b3 34 3 1 [Plan.row q_1], .arr b4 34 3 1 [[.v (.slice none 0 0), .v (.slice none 0 0), .v (.slice none 0 0)]], .us v9 4 1 (l7.map rB), .arr b10 34 3 1 [[.v v57, .v (.slice none 0 0), .v v9]], .us v57 3 1 (j56.map rI)]) [(2, _), (3, _), (4, _), (5, _)] ⟨I, I, I, I, trivial⟩ ?_ ?_
 refine AW.seqG (fun y154 hy154 => (AW.region (AO.p (Yp.fieldPtr I I I I I I) I (AO.d (Yd.loadO 0 0 0 I I I I I (y := .list 1 (p_0.Rates.map rI)) I) I (AO.p (Yp.lenM I I I) I (AO.m I I (AO.nil ?_)))))))
 subst hy154
 refine AW.block (AW.listMax 31 I (fun hm157 => ?_))
 replace hm157 : p_0.Rates.length ≤ 9223372036854775806 := by rw [List.length_map] at hm157; omega
 refine AW.ghost (Ghost.nilU 3 1) ?_
 obtain ⟨o192, hL193, hR194⟩ := ob_some h
 clear h
 refine AW.forY hL193 [(2, _), (3, _), (4, _), (5, _), (32, _)] ⟨I, I, I, I, I, trivial⟩ (fun (k155 : Nat) (st181 : List Int) s ob => ∃ (v182 : Value), s = [(33, .v (.int .i64 (k155 : Int)))] ∧ ob = [.arr b2 34 3 1 [Plan.row p_0], .arr b3 34 3 1 [Plan.row q_1], .arr b4 34 3 1 [[.v (.slice none 0 0), .v (.slice none 0 0), .v (.slice none 0 0)]], .us v9 4 1 (l7.map rB), .arr b10 34 3 1 [[.v v182, .v (.slice none 0 0), .v v9]], .us v182 3 1 (st181.map rI)]) ⟨(.slice none 0 0), I, I⟩ ⟨I, trivial⟩ ⟨[0, 1, 2, 3, 4, 5], I, by decide⟩ ?_ ?_
 rintro k155 x158 st181 r196 s ob hx159 hk156 ⟨v182, rfl, rfl⟩ h
 unfold L.keep_Added.B4 at h
 have hk156t : decide ((k155 : Int) < (p_0.Rates.length : Int)) = true := by simp; omega
 refine AW.seqG (fun y197 hy197 => (AW.region (AO.p (Yp.cmpI (c := decide ((k155 : Int) < (p_0.Rates.length : Int))) I I I) I (AO.nil ?_))))
 subst hy197
 refine AW.seqG (fun y198 hy198 => (AW.condK (v := true) I hk156t (AW.skip ?_)))
 subst hy198
 refine AW.seq (AW.block (AW.seqG (fun y199 hy199 => (AW.region (AO.m I I (AO.a I I (AO.nil ?_)))))))
 subst hy199
 obtain ⟨p200, hp201, h⟩ := ob_some h
 obtain ⟨hp201i, hp201x⟩ := ix_some hp201
 obtain ⟨l203, hx204, h⟩ := ob_some h
 refine AW.regionD (.still 0 (.still 1 (.still 2 (.still 3 (.still 4 (.still 5 (.still 6 (.still 7 (.still 8 (.still 9 (.still 10 (.still 11 (.still 12 (.act 13 (.act 14 (.still 15 (.drop 16 .nil))))))))))))))))) [4, 0, 1] [_, _, _] (by kernel_rfl) I (AP.op I (Yp.fieldPtr I I I I I I) I (AP.o I (Yd.loadO 0 0 0 I I I I I (y := .v v182) I) I (AP.op I (Yp.fieldPtr I I I I I I) I (AP.o I (Yd.loadO 1 0 0 I I I I I (y := .list 1 (p_0.Rates.map rI)) I) I (AP.op I (Yp.move I) I (AP.op I (Yp.indexE (m := k155) I I I I I I I (map_get hx159)) I (AP.o I (Yd.loadE I I (y := .v (.int .i64 x158)) I) I (AP.op I (Yp.fieldPtr I I I I I I) I (AP.o I (Yd.loadO 2 0 0 I I I I I (y := .list 1 (q_1.Rates.map rI)) I) I (AP.op I (Yp.move I) I (AP.op I (Yp.indexE (m := p200.1) I I I I I I hp201i (map_get hp201x)) I (AP.o I (Yd.loadE I I (y := .v (.int .i64 p200.2)) I) I ?_))))))))))))
 refine AP.op I (Yp.binI (c := wr (x158 + p200.2)) I I I) I (AP.act [] I I I (AX.litF (sz := 1) (es := ([wr (x158 + p200.2)] : List Int).map rI) I I I I I I I I I I I (dst_some I) (AP.act [5] I I I (AX.appendU 5 I I I I I I I I I (AppSrc.list I) (app_len (app_some hx204).1) (app_map (app_some hx204).2) (dst_some I) (fun v205 => (AP.op I (Yp.fieldPtr I I I I I I) I (AP.one 5 I (fun v205o => (AP.drop [4] I I I (AX.store 4 0 0 (es' := [[.v v205, .v (.slice none 0 0), .v v9]]) I I I I I I (cells_v v205o) I (le_ble I) I I (AP.ofAO (AO.nil (AW.region (AO.p (Yp.binI (c := ((k155 + 1 : Nat) : Int)) I I (cast_wr hk156 hm157)) I (AO.m I I ?_)))))))))))))))
 obtain rfl := Option.some.inj h
 refine AO.nil ?_
 exact ⟨_, _, ⟨v205, I, I⟩, ⟨I, I, I, I, I, I, trivial⟩, [0, 1, 2, 3, 4, 5], I, by decide⟩
 rintro st181 s ob ⟨v182, rfl, rfl⟩ he
 subst he
 have h := hR194
 have hk156f : decide (((p_0.Rates.length : Nat) : Int) < (p_0.Rates.length : Int)) = false := by simp
 refine AW.seqG (fun y206 hy206 => (AW.region (AO.p (Yp.cmpI (c := decide (((p_0.Rates.length : Nat) : Int) < (p_0.Rates.length : Int))) I I I) I (AO.nil ?_))))
 subst hy206
 refine AW.seqG (fun y207 hy207 => (AW.condK (v := false) I hk156f (AW.exit ?_)))
 exact ⟨_, _, ⟨st181, v182, h, I, I⟩, ⟨I, I, I, I, trivial⟩, [0, 1, 2, 3, 4, 5], I, by decide⟩
 rintro s ob ⟨j56, v57, h, rfl, rfl⟩
 unfold L.keep_Added.J1 at h
 refine AW.cutX (fun s ob => ∃ (j98 : List Int) (v99 : Value), L.keep_Added.J2 l7 j56 j98 = some r ∧ s = [] ∧ ob = [.arr b4 34 3 1 [[.v (.slice none 0 0), .v (.slice none 0 0), .v (.slice none 0 0)]], .us v9 4 1 (l7.map rB), .arr b10 34 3 1 [[.v v57, .v v99, .v v9]], .us v57 3 1 (j56.map rI), .us v99 3 1 (j98.map rI)]) [(4, _), (5, _)] ⟨I, I, trivial⟩ ?_ ?_
 refine AW.seqG (fun y100 hy100 => (AW.region (AO.p (Yp.fieldPtr I I I I I I) I (AO.d (Yd.loadO 0 0 1 I I I I I (y := .list 1 (p_0.Ports.map rI)) I) I (AO.p (Yp.lenM I I I) I (AO.m I I (AO.nil ?_)))))))
 subst hy100
 refine AW.block (AW.listMax 54 I (fun hm103 => ?_))
 replace hm103 : p_0.Ports.length ≤ 9223372036854775806 := by rw [List.length_map] at hm103; omega
 refine AW.ghost (Ghost.nilU 3 1) ?_
 obtain ⟨o138, hL139, hR140⟩ := ob_some h
 clear h
 refine AW.forY hL139 [(2, _), (3, _), (4, _), (5, _), (55, _)] ⟨I, I, I, I, I, trivial⟩ (fun (k101 : Nat) (st127 : List Int) s ob => ∃ (v128 : Value), s = [(56, .v (.int .i64 (k101 : Int)))] ∧ ob = [.arr b2 34 3 1 [Plan.row p_0], .arr b3 34 3 1 [Plan.row q_1], .arr b4 34 3 1 [[.v (.slice none 0 0), .v (.slice none 0 0), .v (.slice none 0 0)]], .us v9 4 1 (l7.map rB), .arr b10 34 3 1 [[.v v57, .v v128, .v v9]], .us v57 3 1 (j56.map rI), .us v128 3 1 (st127.map rI)]) ⟨(.slice none 0 0), I, I⟩ ⟨I, trivial⟩ ⟨[0, 1, 2, 3, 4, 5, 6], I, by decide⟩ ?_ ?_
 rintro k101 x104 st127 r142 s ob hx105 hk102 ⟨v128, rfl, rfl⟩ h
 unfold L.keep_Added.B3 at h
 have hk102t : decide ((k101 : Int) < (p_0.Ports.length : Int)) = true := by simp; omega
 refine AW.seqG (fun y143 hy143 => (AW.region (AO.p (Yp.cmpI (c := decide ((k101 : Int) < (p_0.Ports.length : Int))) I I I) I (AO.nil ?_))))
 subst hy143
 refine AW.seqG (fun y144 hy144 => (AW.condK (v := true) I hk102t (AW.skip ?_)))
 subst hy144
 refine AW.seq (AW.block (AW.seqG (fun y145 hy145 => (AW.region (AO.m I I (AO.a I I (AO.nil ?_)))))))
 subst hy145
 obtain ⟨p146, hp147, h⟩ := ob_some h
 obtain ⟨hp147i, hp147x⟩ := ix_some hp147
 obtain ⟨l149, hx150, h⟩ := ob_some h
 refine AW.regionD (.still 0 (.still 1 (.still 2 (.still 3 (.still 4 (.still 5 (.still 6 (.still 7 (.still 8 (.still 9 (.still 10 (.still 11 (.still 12 (.act 13 (.act 14 (.still 15 (.drop 16 .nil))))))))))))))))) [4, 0, 1] [_, _, _] (by kernel_rfl) I (AP.op I (Yp.fieldPtr I I I I I I) I (AP.o I (Yd.loadO 0 0 1 I I I I I (y := .v v128) I) I (AP.op I (Yp.fieldPtr I I I I I I) I (AP.o I (Yd.loadO 1 0 1 I I I I I (y := .list 1 (p_0.Ports.map rI)) I) I (AP.op I (Yp.move I) I (AP.op I (Yp.indexE (m := k101) I I I I I I I (map_get hx105)) I (AP.o I (Yd.loadE I I (y := .v (.int .i64 x104)) I) I (AP.op I (Yp.fieldPtr I I I I I I) I (AP.o I (Yd.loadO 2 0 1 I I I I I (y := .list 1 (q_1.Ports.map rI)) I) I (AP.op I (Yp.move I) I (AP.op I (Yp.indexE (m := p146.1) I I I I I I hp147i (map_get hp147x)) I (AP.o I (Yd.loadE I I (y := .v (.int .i64 p146.2)) I) I ?_))))))))))))
 refine AP.op I (Yp.binI (c := wr (x104 + p146.2)) I I I) I (AP.act [] I I I (AX.litF (sz := 1) (es := ([wr (x104 + p146.2)] : List Int).map rI) I I I I I I I I I I I (dst_some I) (AP.act [6] I I I (AX.appendU 6 I I I I I I I I I (AppSrc.list I) (app_len (app_some hx150).1) (app_map (app_some hx150).2) (dst_some I) (fun v151 => (AP.op I (Yp.fieldPtr I I I I I I) I (AP.one 6 I (fun v151o => (AP.drop [4] I I I (AX.store 4 0 1 (es' := [[.v v57, .v v151, .v v9]]) I I I I I I (cells_v v151o) I (le_ble I) I I (AP.ofAO (AO.nil (AW.region (AO.p (Yp.binI (c := ((k101 + 1 : Nat) : Int)) I I (cast_wr hk102 hm103)) I (AO.m I I ?_)))))))))))))))
 obtain rfl := Option.some.inj h
 refine AO.nil ?_
 exact ⟨_, _, ⟨v151, I, I⟩, ⟨I, I, I, I, I, I, trivial⟩, [0, 1, 2, 3, 4, 5, 6], I, by decide⟩
 rintro st127 s ob ⟨v128, rfl, rfl⟩ he
 subst he
 have h := hR140
 have hk102f : decide (((p_0.Ports.length : Nat) : Int) < (p_0.Ports.length : Int)) = false := by simp
 refine AW.seqG (fun y152 hy152 => (AW.region (AO.p (Yp.cmpI (c := decide (((p_0.Ports.length : Nat) : Int) < (p_0.Ports.length : Int))) I I I) I (AO.nil ?_))))
 subst hy152
 refine AW.seqG (fun y153 hy153 => (AW.condK (v := false) I hk102f (AW.exit ?_)))
 exact ⟨_, _, ⟨st127, v128, h, I, I⟩, ⟨I, I, trivial⟩, [2, 3, 4, 5, 6], I, by decide⟩
 rintro s ob ⟨j98, v99, h, rfl, rfl⟩
 unfold L.keep_Added.J2 at h
 refine AW.seq (AW.region (AO.d (Yd.loadO 2 0 0 I I I I I (y := .agg [.v v57, .v v99, .v v9]) I) I (AO.act [0] I (AX.store 0 0 0 (es' := [[.v v57, .v v99, .v v9]]) I I I I I I I I (le_ble I) I I (AO.nil (AW.ghost (Ghost.freeze [1, 3, 4] (K := [.us v9 4 1 (l7.map rB), .us v57 3 1 (j56.map rI), .us v99 3 1 (j98.map rI)]) I [(76, .agg [.list 1 (j56.map rI), .list 1 (j98.map rI), .list 1 (l7.map rB)])] ⟨⟨_, I, .agg (.cons (.us 1 I) (.cons (.us 2 I) (.cons (.us 0 I) (.rest _))))⟩, trivial⟩ (ob' := [.arr b4 34 3 1 [[.list 1 (j56.map rI), .list 1 (j98.map rI), .list 1 (l7.map rB)]], .arr b10 34 3 1 [[.list 1 (j56.map rI), .list 1 (j98.map rI), .list 1 (l7.map rB)]]]) (.cons (.arr (.cons (.us 1 I) (.cons (.us 2 I) (.cons (.us 0 I) (.rest _))))) (.cons (.arr (.cons (.us 1 I) (.cons (.us 2 I) (.cons (.us 0 I) (.rest _))))) (.rest _)))) (AW.ghost (Ghost.pick [0] (K := [.arr b4 34 3 1 [[.list 1 (j56.map rI), .list 1 (j98.map rI), .list 1 (l7.map rB)]]]) I (by decide)) ?_)))))))
 obtain rfl := Option.some.inj h
 refine AW.ret ?_
 exact ⟨.inr I, [_], [], ⟨⟨0, _, _, _, _, _, _, _, I, I, I, I, I⟩, trivial⟩, sl_n, ⟨I, I⟩⟩

set_option maxRecDepth 100000 in
set_option maxHeartbeats 4000000 in
theorem L.law22_SurgeThird_ok (l_0 : List Int) (r : Bool) (h : L.law22_SurgeThird l_0 = some r) : ACalls Try.env 5 [.list 1 (l_0.map rI)] [] (fun x new => x = .v (.bool r) ∧ new = []) := by
 refine ACalls.of_body Try.func5 rfl rfl rfl (fun C hC => ?_)
 unfold L.law22_SurgeThird at h
 refine AW.seqG (fun y1 hy1 => (AW.region (AO.a I I (AO.nil ?_))))
 subst hy1
 refine AW.seqG (fun y2 hy2 => ?_)
 obtain ⟨r3, hx4, h⟩ := ob_some h
 refine AW.region (AO.m I I (AO.act [] I (AX.call0 I I I (L.keep_New_ok l_0 _ hx4) (dst_some I) ?_)))
 rintro _ _ ⟨b5, rfl, rfl⟩
 refine AO.a I I (AO.nil ?_)
 subst hy2
 refine AW.seqG (fun y6 hy6 => ?_)
 obtain ⟨r7, hx8, h⟩ := ob_some h
 refine AW.region (AO.m I I (AO.act [0] I (AX.callG [0] I I I I (by decide) (L.keep_Src_Network_ok b5 r3 _ hx8) (dst_some I) ?_)))
 rintro _ _ _ - ⟨rfl, rfl, rfl⟩
 refine AO.act [] I (AX.alloc (cs := [.v (.slice none 0 0), .v (.slice none 0 0), .v (.slice none 0 0), .v (.slice none 0 0), .v (.int .i64 0), .v (.int .i64 0)]) (m := 6) I I I I I (dst_some I) (fun b9 => (AO.act [1] I (AX.store 1 0 0 (es' := [Network.row r7.1]) I I I I I I I I (le_ble I) I I (AO.nil ?_)))))
 subst hy6
 refine AW.cutX (fun s ob => ∃ (j16 : (List Int) × Int × (List Int) × (List Int) × (List Bool) × (List Int) × (List Int) × (List Bool)) (b17 : Nat) (b18 : Nat), L.law22_SurgeThird.J1 r7 j16 = some r ∧ s = [(5, .v (.pointer (some ⟨b17, 0, none⟩))), (6, .v (.pointer (some ⟨b18, 0, none⟩)))] ∧ ob = [.arr b5 90 2 1 [[.list 1 (j16.1.map rI), .v (.int .i64 j16.2.1)]], .arr b9 30 6 1 [Network.row r7.1], .arr b17 34 3 1 [[.list 1 (j16.2.2.1.map rI), .list 1 (j16.2.2.2.1.map rI), .list 1 (j16.2.2.2.2.1.map rB)]], .arr b18 34 3 1 [[.list 1 (j16.2.2.2.2.2.1.map rI), .list 1 (j16.2.2.2.2.2.2.1.map rI), .list 1 (j16.2.2.2.2.2.2.2.map rB)]]]) [(3, _), (4, _)] ⟨I, I, trivial⟩ ?_ ?_
 obtain ⟨r294, hx295, h⟩ := ob_some h
 obtain ⟨r296, hx297, h⟩ := ob_some h
 refine AW.regionD (.still 0 (.still 1 (.still 3 (.still 4 (.three 2 6 7 (.three 5 6 7 (.two 6 7 (.act 7 (.act 8 (.act 9 .nil))) (.act 6 (.act 8 (.act 9 .nil)))) (.two 5 7 (.act 7 (.act 8 (.act 9 .nil))) (.act 5 (.act 8 (.act 9 .nil)))) (.two 5 6 (.act 6 (.act 8 (.act 9 .nil))) (.act 5 (.act 8 (.act 9 .nil))))) (.two 2 7 (.two 5 7 (.act 7 (.act 8 (.act 9 .nil))) (.act 5 (.act 8 (.act 9 .nil)))) (.act 2 (.act 5 (.act 8 (.act 9 .nil))))) (.two 2 6 (.two 5 6 (.act 6 (.act 8 (.act 9 .nil))) (.act 5 (.act 8 (.act 9 .nil)))) (.act 2 (.act 5 (.act 8 (.act 9 .nil)))))))))) [1] [_] (by kernel_rfl) I (AP.op I (Yp.move I) I (AP.o I (Yd.loadO 0 0 0 I I I I I (y := .agg (Network.row r7.1)) I) I (AP.op I (Yp.move I) I (AP.o I (Yd.loadO 0 0 0 I I I I I (y := .agg (Network.row r7.1)) I) I (AP.three ?_ ?_ ?_)))))
 refine AP.act [0] I I I (AX.callG [0] I I I I (by decide) (L.keep_Src_Plan_ok b5 r7.2 r7.1 _ hx295) (dst_some I) ?_)
 rintro _ _ _ - ⟨rfl, rfl, rfl⟩
 refine AP.three ?_ ?_ ?_
 refine AP.act [0] I I I (AX.callG [0] I I I I (by decide) (L.keep_Src_Plan_ok b5 r294.2 r7.1 _ hx297) (dst_some I) ?_)
 rintro _ _ _ - ⟨rfl, rfl, rfl⟩
 refine AP.two ?_ ?_
 refine AP.act [] I I I (AX.alloc (cs := [.v (.slice none 0 0), .v (.slice none 0 0), .v (.slice none 0 0)]) (m := 3) I I I I I (dst_some I) (fun b298 => (AP.act [] I I I (AX.alloc (cs := [.v (.slice none 0 0), .v (.slice none 0 0), .v (.slice none 0 0)]) (m := 3) I I I I I (dst_some I) (fun b299 => (AP.act [2] I I I (AX.store 2 0 0 (es' := [Plan.row r294.1]) I I I I I I I I (le_ble I) I I (AP.act [3] I I I (AX.store 3 0 0 (es' := [Plan.row r296.1]) I I I I I I I I (le_ble I) I I (AP.ofAO (AO.nil ?_)))))))))))
 exact ⟨_, _, ⟨(r296.2.L_, r296.2.At, r294.1.Rates, r294.1.Ports, r294.1.Pumps, r296.1.Rates, r296.1.Ports, r296.1.Pumps), b298, b299, h, I, I⟩, ⟨I, I, I, I, trivial⟩, [0, 1, 2, 3], I, by decide⟩
 refine AP.act [] I I I (AX.alloc (cs := [.v (.slice none 0 0), .v (.slice none 0 0), .v (.slice none 0 0)]) (m := 3) I I I I I (dst_some I) (fun b299 => (AP.act [] I I I (AX.alloc (cs := [.v (.slice none 0 0), .v (.slice none 0 0), .v (.slice none 0 0)]) (m := 3) I I I I I (dst_some I) (fun b298 => (AP.act [3] I I I (AX.store 3 0 0 (es' := [Plan.row r294.1]) I I I I I I I I (le_ble I) I I (AP.act [2] I I I (AX.store 2 0 0 (es' := [Plan.row r296.1]) I I I I I I I I (le_ble I) I I (AP.ofAO (AO.nil ?_)))))))))))
 exact ⟨_, _, ⟨(r296.2.L_, r296.2.At, r294.1.Rates, r294.1.Ports, r294.1.Pumps, r296.1.Rates, r296.1.Ports, r296.1.Pumps), b298, b299, h, I, I⟩, ⟨I, I, I, I, trivial⟩, [0, 1, 3, 2], I, by decide⟩
 refine AP.act [] I I I (AX.alloc (cs := [.v (.slice none 0 0), .v (.slice none 0 0), .v (.slice none 0 0)]) (m := 3) I I I I I (dst_some I) (fun b298 => (AP.two ?_ ?_)))
 refine AP.act [0] I I I (AX.callG [0] I I I I (by decide) (L.keep_Src_Plan_ok b5 r294.2 r7.1 _ hx297) (dst_some I) ?_)
 rintro _ _ _ - ⟨rfl, rfl, rfl⟩
 refine AP.act [] I I I (AX.alloc (cs := [.v (.slice none 0 0), .v (.slice none 0 0), .v (.slice none 0 0)]) (m := 3) I I I I I (dst_some I) (fun b299 => (AP.act [2] I I I (AX.store 2 0 0 (es' := [Plan.row r294.1]) I I I I I I I I (le_ble I) I I (AP.act [3] I I I (AX.store 3 0 0 (es' := [Plan.row r296.1]) I I I I I I I I (le_ble I) I I (AP.ofAO (AO.nil ?_))))))))
 exact ⟨_, _, ⟨(r296.2.L_, r296.2.At, r294.1.Rates, r294.1.Ports, r294.1.Pumps, r296.1.Rates, r296.1.Ports, r296.1.Pumps), b298, b299, h, I, I⟩, ⟨I, I, I, I, trivial⟩, [0, 1, 2, 3], I, by decide⟩
 refine AP.act [] I I I (AX.alloc (cs := [.v (.slice none 0 0), .v (.slice none 0 0), .v (.slice none 0 0)]) (m := 3) I I I I I (dst_some I) (fun b299 => (AP.act [0] I I I (AX.callG [0] I I I I (by decide) (L.keep_Src_Plan_ok b5 r294.2 r7.1 _ hx297) (dst_some I) ?_))))
 rintro _ _ _ - ⟨rfl, rfl, rfl⟩
 refine AP.act [2] I I I (AX.store 2 0 0 (es' := [Plan.row r294.1]) I I I I I I I I (le_ble I) I I (AP.act [3] I I I (AX.store 3 0 0 (es' := [Plan.row r296.1]) I I I I I I I I (le_ble I) I I (AP.ofAO (AO.nil ?_)))))
 exact ⟨_, _, ⟨(r296.2.L_, r296.2.At, r294.1.Rates, r294.1.Ports, r294.1.Pumps, r296.1.Rates, r296.1.Ports, r296.1.Pumps), b298, b299, h, I, I⟩, ⟨I, I, I, I, trivial⟩, [0, 1, 2, 3], I, by decide⟩
 refine AP.act [] I I I (AX.alloc (cs := [.v (.slice none 0 0), .v (.slice none 0 0), .v (.slice none 0 0)]) (m := 3) I I I I I (dst_some I) (fun b299 => (AP.two ?_ ?_)))
 refine AP.act [0] I I I (AX.callG [0] I I I I (by decide) (L.keep_Src_Plan_ok b5 r294.2 r7.1 _ hx297) (dst_some I) ?_)
 rintro _ _ _ - ⟨rfl, rfl, rfl⟩
 refine AP.act [] I I I (AX.alloc (cs := [.v (.slice none 0 0), .v (.slice none 0 0), .v (.slice none 0 0)]) (m := 3) I I I I I (dst_some I) (fun b298 => (AP.act [3] I I I (AX.store 3 0 0 (es' := [Plan.row r294.1]) I I I I I I I I (le_ble I) I I (AP.act [2] I I I (AX.store 2 0 0 (es' := [Plan.row r296.1]) I I I I I I I I (le_ble I) I I (AP.ofAO (AO.nil ?_))))))))
 exact ⟨_, _, ⟨(r296.2.L_, r296.2.At, r294.1.Rates, r294.1.Ports, r294.1.Pumps, r296.1.Rates, r296.1.Ports, r296.1.Pumps), b298, b299, h, I, I⟩, ⟨I, I, I, I, trivial⟩, [0, 1, 3, 2], I, by decide⟩
 refine AP.act [] I I I (AX.alloc (cs := [.v (.slice none 0 0), .v (.slice none 0 0), .v (.slice none 0 0)]) (m := 3) I I I I I (dst_some I) (fun b298 => (AP.act [0] I I I (AX.callG [0] I I I I (by decide) (L.keep_Src_Plan_ok b5 r294.2 r7.1 _ hx297) (dst_some I) ?_))))
 rintro _ _ _ - ⟨rfl, rfl, rfl⟩
 refine AP.act [3] I I I (AX.store 3 0 0 (es' := [Plan.row r294.1]) I I I I I I I I (le_ble I) I I (AP.act [2] I I I (AX.store 2 0 0 (es' := [Plan.row r296.1]) I I I I I I I I (le_ble I) I I (AP.ofAO (AO.nil ?_)))))
 exact ⟨_, _, ⟨(r296.2.L_, r296.2.At, r294.1.Rates, r294.1.Ports, r294.1.Pumps, r296.1.Rates, r296.1.Ports, r296.1.Pumps), b298, b299, h, I, I⟩, ⟨I, I, I, I, trivial⟩, [0, 1, 3, 2], I, by decide⟩
 refine AP.act [] I I I (AX.alloc (cs := [.v (.slice none 0 0), .v (.slice none 0 0), .v (.slice none 0 0)]) (m := 3) I I I I I (dst_some I) (fun b298 => (AP.two ?_ ?_)))
 refine AP.act [0] I I I (AX.callG [0] I I I I (by decide) (L.keep_Src_Plan_ok b5 r7.2 r7.1 _ hx295) (dst_some I) ?_)
 rintro _ _ _ - ⟨rfl, rfl, rfl⟩
 refine AP.two ?_ ?_
 refine AP.act [0] I I I (AX.callG [0] I I I I (by decide) (L.keep_Src_Plan_ok b5 r294.2 r7.1 _ hx297) (dst_some I) ?_)
 rintro _ _ _ - ⟨rfl, rfl, rfl⟩
 refine AP.act [] I I I (AX.alloc (cs := [.v (.slice none 0 0), .v (.slice none 0 0), .v (.slice none 0 0)]) (m := 3) I I I I I (dst_some I) (fun b299 => (AP.act [2] I I I (AX.store 2 0 0 (es' := [Plan.row r294.1]) I I I I I I I I (le_ble I) I I (AP.act [3] I I I (AX.store 3 0 0 (es' := [Plan.row r296.1]) I I I I I I I I (le_ble I) I I (AP.ofAO (AO.nil ?_))))))))
 exact ⟨_, _, ⟨(r296.2.L_, r296.2.At, r294.1.Rates, r294.1.Ports, r294.1.Pumps, r296.1.Rates, r296.1.Ports, r296.1.Pumps), b298, b299, h, I, I⟩, ⟨I, I, I, I, trivial⟩, [0, 1, 2, 3], I, by decide⟩
 refine AP.act [] I I I (AX.alloc (cs := [.v (.slice none 0 0), .v (.slice none 0 0), .v (.slice none 0 0)]) (m := 3) I I I I I (dst_some I) (fun b299 => (AP.act [0] I I I (AX.callG [0] I I I I (by decide) (L.keep_Src_Plan_ok b5 r294.2 r7.1 _ hx297) (dst_some I) ?_))))
 rintro _ _ _ - ⟨rfl, rfl, rfl⟩
 refine AP.act [2] I I I (AX.store 2 0 0 (es' := [Plan.row r294.1]) I I I I I I I I (le_ble I) I I (AP.act [3] I I I (AX.store 3 0 0 (es' := [Plan.row r296.1]) I I I I I I I I (le_ble I) I I (AP.ofAO (AO.nil ?_)))))
 exact ⟨_, _, ⟨(r296.2.L_, r296.2.At, r294.1.Rates, r294.1.Ports, r294.1.Pumps, r296.1.Rates, r296.1.Ports, r296.1.Pumps), b298, b299, h, I, I⟩, ⟨I, I, I, I, trivial⟩, [0, 1, 2, 3], I, by decide⟩
 refine AP.act [] I I I (AX.alloc (cs := [.v (.slice none 0 0), .v (.slice none 0 0), .v (.slice none 0 0)]) (m := 3) I I I I I (dst_some I) (fun b299 => (AP.act [0] I I I (AX.callG [0] I I I I (by decide) (L.keep_Src_Plan_ok b5 r7.2 r7.1 _ hx295) (dst_some I) ?_))))
 rintro _ _ _ - ⟨rfl, rfl, rfl⟩
 refine AP.act [0] I I I (AX.callG [0] I I I I (by decide) (L.keep_Src_Plan_ok b5 r294.2 r7.1 _ hx297) (dst_some I) ?_)
 rintro _ _ _ - ⟨rfl, rfl, rfl⟩
 refine AP.act [2] I I I (AX.store 2 0 0 (es' := [Plan.row r294.1]) I I I I I I I I (le_ble I) I I (AP.act [3] I I I (AX.store 3 0 0 (es' := [Plan.row r296.1]) I I I I I I I I (le_ble I) I I (AP.ofAO (AO.nil ?_)))))
 exact ⟨_, _, ⟨(r296.2.L_, r296.2.At, r294.1.Rates, r294.1.Ports, r294.1.Pumps, r296.1.Rates, r296.1.Ports, r296.1.Pumps), b298, b299, h, I, I⟩, ⟨I, I, I, I, trivial⟩, [0, 1, 2, 3], I, by decide⟩
 refine AP.act [] I I I (AX.alloc (cs := [.v (.slice none 0 0), .v (.slice none 0 0), .v (.slice none 0 0)]) (m := 3) I I I I I (dst_some I) (fun b299 => (AP.two ?_ ?_)))
 refine AP.act [0] I I I (AX.callG [0] I I I I (by decide) (L.keep_Src_Plan_ok b5 r7.2 r7.1 _ hx295) (dst_some I) ?_)
 rintro _ _ _ - ⟨rfl, rfl, rfl⟩
 refine AP.two ?_ ?_
 refine AP.act [0] I I I (AX.callG [0] I I I I (by decide) (L.keep_Src_Plan_ok b5 r294.2 r7.1 _ hx297) (dst_some I) ?_)
 rintro _ _ _ - ⟨rfl, rfl, rfl⟩
 refine AP.act [] I I I (AX.alloc (cs := [.v (.slice none 0 0), .v (.slice none 0 0), .v (.slice none 0 0)]) (m := 3) I I I I I (dst_some I) (fun b298 => (AP.act [3] I I I (AX.store 3 0 0 (es' := [Plan.row r294.1]) I I I I I I I I (le_ble I) I I (AP.act [2] I I I (AX.store 2 0 0 (es' := [Plan.row r296.1]) I I I I I I I I (le_ble I) I I (AP.ofAO (AO.nil ?_))))))))
 exact ⟨_, _, ⟨(r296.2.L_, r296.2.At, r294.1.Rates, r294.1.Ports, r294.1.Pumps, r296.1.Rates, r296.1.Ports, r296.1.Pumps), b298, b299, h, I, I⟩, ⟨I, I, I, I, trivial⟩, [0, 1, 3, 2], I, by decide⟩
 refine AP.act [] I I I (AX.alloc (cs := [.v (.slice none 0 0), .v (.slice none 0 0), .v (.slice none 0 0)]) (m := 3) I I I I I (dst_some I) (fun b298 => (AP.act [0] I I I (AX.callG [0] I I I I (by decide) (L.keep_Src_Plan_ok b5 r294.2 r7.1 _ hx297) (dst_some I) ?_))))
 rintro _ _ _ - ⟨rfl, rfl, rfl⟩
 refine AP.act [3] I I I (AX.store 3 0 0 (es' := [Plan.row r294.1]) I I I I I I I I (le_ble I) I I (AP.act [2] I I I (AX.store 2 0 0 (es' := [Plan.row r296.1]) I I I I I I I I (le_ble I) I I (AP.ofAO (AO.nil ?_)))))
 exact ⟨_, _, ⟨(r296.2.L_, r296.2.At, r294.1.Rates, r294.1.Ports, r294.1.Pumps, r296.1.Rates, r296.1.Ports, r296.1.Pumps), b298, b299, h, I, I⟩, ⟨I, I, I, I, trivial⟩, [0, 1, 3, 2], I, by decide⟩
 refine AP.act [] I I I (AX.alloc (cs := [.v (.slice none 0 0), .v (.slice none 0 0), .v (.slice none 0 0)]) (m := 3) I I I I I (dst_some I) (fun b298 => (AP.act [0] I I I (AX.callG [0] I I I I (by decide) (L.keep_Src_Plan_ok b5 r7.2 r7.1 _ hx295) (dst_some I) ?_))))
 rintro _ _ _ - ⟨rfl, rfl, rfl⟩
 refine AP.act [0] I I I (AX.callG [0] I I I I (by decide) (L.keep_Src_Plan_ok b5 r294.2 r7.1 _ hx297) (dst_some I) ?_)
 rintro _ _ _ - ⟨rfl, rfl, rfl⟩
 refine AP.act [3] I I I (AX.store 3 0 0 (es' := [Plan.row r294.1]) I I I I I I I I (le_ble I) I I (AP.act [2] I I I (AX.store 2 0 0 (es' := [Plan.row r296.1]) I I I I I I I I (le_ble I) I I (AP.ofAO (AO.nil ?_)))))
 exact ⟨_, _, ⟨(r296.2.L_, r296.2.At, r294.1.Rates, r294.1.Ports, r294.1.Pumps, r296.1.Rates, r296.1.Ports, r296.1.Pumps), b298, b299, h, I, I⟩, ⟨I, I, I, I, trivial⟩, [0, 1, 3, 2], I, by decide⟩
 rintro s ob ⟨j16, b17, b18, h, rfl, rfl⟩
 unfold L.law22_SurgeThird.J1 at h
 refine AW.cutX (fun s ob => ∃ (j24 : (List Int) × (List Int) × (List Bool)) (b25 : Nat), L.law22_SurgeThird.J2 r7 j16 j24 = some r ∧ s = [(7, .v (.pointer (some ⟨b25, 0, none⟩)))] ∧ ob = [.arr b9 30 6 1 [Network.row r7.1], .arr b17 34 3 1 [[.list 1 (j16.2.2.1.map rI), .list 1 (j16.2.2.2.1.map rI), .list 1 (j16.2.2.2.2.1.map rB)]], .arr b18 34 3 1 [[.list 1 (j16.2.2.2.2.2.1.map rI), .list 1 (j16.2.2.2.2.2.2.1.map rI), .list 1 (j16.2.2.2.2.2.2.2.map rB)]], .arr b25 34 3 1 [[.list 1 (j24.1.map rI), .list 1 (j24.2.1.map rI), .list 1 (j24.2.2.map rB)]]]) [(4, _), (5, _), (6, _)] ⟨I, I, I, trivial⟩ ?_ ?_
 obtain ⟨r289, hx290, h⟩ := ob_some h
 obtain ⟨r291, hx292, h⟩ := ob_some h
 refine AW.regionD (.still 0 (.still 1 (.still 2 (.two 3 5 (.two 4 5 (.act 5 (.act 6 .nil)) (.act 4 (.act 6 .nil))) (.act 3 (.act 4 (.act 6 .nil))))))) [2, 1] [_, _] (by kernel_rfl) I (AP.o I (Yd.loadO 0 0 0 I I I I I (y := .agg [.list 1 (j16.2.2.1.map rI), .list 1 (j16.2.2.2.1.map rI), .list 1 (j16.2.2.2.2.1.map rB)]) I) I (AP.op I (Yp.move I) I (AP.o I (Yd.loadO 1 0 0 I I I I I (y := .agg (Network.row r7.1)) I) I (AP.two ?_ ?_))))
 refine AP.act [0] I I I (AX.callG [0] I I I I (by decide) (L.keep_Src_Plan_ok b5 (⟨j16.1, j16.2.1⟩ : batchlinekeep_Src) r7.1 _ hx290) (dst_some I) ?_)
 rintro _ _ _ - ⟨rfl, rfl, rfl⟩
 refine AP.two ?_ ?_
 refine AP.act [] I I I (AX.call0 I I I (L.keep_Added_ok (⟨j16.2.2.1, j16.2.2.2.1, j16.2.2.2.2.1⟩ : Plan) r289.1 _ hx292) (dst_some I) ?_)
 rintro _ _ ⟨rfl, rfl⟩
 refine AP.act [] I I I (AX.alloc (cs := [.v (.slice none 0 0), .v (.slice none 0 0), .v (.slice none 0 0)]) (m := 3) I I I I I (dst_some I) (fun b293 => (AP.act [4] I I I (AX.store 4 0 0 (es' := [Plan.row r291]) I I I I I I I I (le_ble I) I I (AP.ofAO (AO.nil ?_))))))
 exact ⟨_, _, ⟨(r291.Rates, r291.Ports, r291.Pumps), b293, h, I, I⟩, ⟨I, I, I, I, trivial⟩, [1, 2, 3, 4], I, by decide⟩
 refine AP.act [] I I I (AX.alloc (cs := [.v (.slice none 0 0), .v (.slice none 0 0), .v (.slice none 0 0)]) (m := 3) I I I I I (dst_some I) (fun b293 => (AP.act [] I I I (AX.call0 I I I (L.keep_Added_ok (⟨j16.2.2.1, j16.2.2.2.1, j16.2.2.2.2.1⟩ : Plan) r289.1 _ hx292) (dst_some I) ?_))))
 rintro _ _ ⟨rfl, rfl⟩
 refine AP.act [4] I I I (AX.store 4 0 0 (es' := [Plan.row r291]) I I I I I I I I (le_ble I) I I (AP.ofAO (AO.nil ?_)))
 exact ⟨_, _, ⟨(r291.Rates, r291.Ports, r291.Pumps), b293, h, I, I⟩, ⟨I, I, I, I, trivial⟩, [1, 2, 3, 4], I, by decide⟩
 refine AP.act [] I I I (AX.alloc (cs := [.v (.slice none 0 0), .v (.slice none 0 0), .v (.slice none 0 0)]) (m := 3) I I I I I (dst_some I) (fun b293 => (AP.act [0] I I I (AX.callG [0] I I I I (by decide) (L.keep_Src_Plan_ok b5 (⟨j16.1, j16.2.1⟩ : batchlinekeep_Src) r7.1 _ hx290) (dst_some I) ?_))))
 rintro _ _ _ - ⟨rfl, rfl, rfl⟩
 refine AP.act [] I I I (AX.call0 I I I (L.keep_Added_ok (⟨j16.2.2.1, j16.2.2.2.1, j16.2.2.2.2.1⟩ : Plan) r289.1 _ hx292) (dst_some I) ?_)
 rintro _ _ ⟨rfl, rfl⟩
 refine AP.act [4] I I I (AX.store 4 0 0 (es' := [Plan.row r291]) I I I I I I I I (le_ble I) I I (AP.ofAO (AO.nil ?_)))
 exact ⟨_, _, ⟨(r291.Rates, r291.Ports, r291.Pumps), b293, h, I, I⟩, ⟨I, I, I, I, trivial⟩, [1, 2, 3, 4], I, by decide⟩
 rintro s ob ⟨j24, b25, h, rfl, rfl⟩
 unfold L.law22_SurgeThird.J2 at h
 refine AW.cutX (fun s ob => ∃ (j76 : Unit), L.law22_SurgeThird.J3 r7 j16 j24 j76 = some r ∧ s = [] ∧ ob = [.arr b9 30 6 1 [Network.row r7.1], .arr b17 34 3 1 [[.list 1 (j16.2.2.1.map rI), .list 1 (j16.2.2.2.1.map rI), .list 1 (j16.2.2.2.2.1.map rB)]], .arr b18 34 3 1 [[.list 1 (j16.2.2.2.2.2.1.map rI), .list 1 (j16.2.2.2.2.2.2.1.map rI), .list 1 (j16.2.2.2.2.2.2.2.map rB)]], .arr b25 34 3 1 [[.list 1 (j24.1.map rI), .list 1 (j24.2.1.map rI), .list 1 (j24.2.2.map rB)]]]) [(4, _), (5, _), (6, _), (7, _)] ⟨I, I, I, I, trivial⟩ ?_ ?_
 refine AW.seqG (fun y200 hy200 => (AW.region (AO.p (Yp.fieldPtr I I I I I I) I (AO.d (Yd.loadO 1 0 0 I I I I I (y := .list 1 (j16.2.2.1.map rI)) I) I (AO.p (Yp.lenM I I I) I (AO.m I I (AO.nil ?_)))))))
 subst hy200
 refine AW.block (AW.listMax 32 I (fun hm203 => ?_))
 replace hm203 : j16.2.2.1.length ≤ 9223372036854775806 := by rw [List.length_map] at hm203; omega
 obtain ⟨o248, hL249, hR250⟩ := ob_some h
 clear h
 refine AW.forX hL249 [(4, _), (5, _), (6, _), (7, _), (33, _)] ⟨I, I, I, I, I, trivial⟩ (fun (k201 : Nat) (st227 : Unit) s ob => s = [(34, .v (.int .i64 (k201 : Int)))] ∧ ob = [.arr b9 30 6 1 [Network.row r7.1], .arr b17 34 3 1 [[.list 1 (j16.2.2.1.map rI), .list 1 (j16.2.2.2.1.map rI), .list 1 (j16.2.2.2.2.1.map rB)]], .arr b18 34 3 1 [[.list 1 (j16.2.2.2.2.2.1.map rI), .list 1 (j16.2.2.2.2.2.2.1.map rI), .list 1 (j16.2.2.2.2.2.2.2.map rB)]], .arr b25 34 3 1 [[.list 1 (j24.1.map rI), .list 1 (j24.2.1.map rI), .list 1 (j24.2.2.map rB)]]]) ⟨I, I⟩ ⟨I, trivial⟩ ⟨[0, 1, 2, 3], I, by decide⟩ ?_ ?_
 rintro k201 x204 st227 r252 s ob hx205 hk202 ⟨rfl, rfl⟩ h hb251
 unfold L.law22_SurgeThird.B6 at h
 have hk202t : decide ((k201 : Int) < (j16.2.2.1.length : Int)) = true := by simp; omega
 refine AW.seqG (fun y253 hy253 => (AW.region (AO.p (Yp.cmpI (c := decide ((k201 : Int) < (j16.2.2.1.length : Int))) I I I) I (AO.nil ?_))))
 subst hy253
 refine AW.seqG (fun y254 hy254 => (AW.condK (v := true) I hk202t (AW.skip ?_)))
 subst hy254
 refine AW.seq (AW.block (AW.seqG (fun y255 hy255 => (AW.region (AO.m I I (AO.a I I (AO.nil ?_)))))))
 subst hy255
 refine AW.cutX (fun s ob => ∃ (j269 : Bool), L.law22_SurgeThird.J7 j269 = some r252 ∧ s = [(96, .v (.bool j269))] ∧ ob = [.arr b9 30 6 1 [Network.row r7.1], .arr b17 34 3 1 [[.list 1 (j16.2.2.1.map rI), .list 1 (j16.2.2.2.1.map rI), .list 1 (j16.2.2.2.2.1.map rB)]], .arr b18 34 3 1 [[.list 1 (j16.2.2.2.2.2.1.map rI), .list 1 (j16.2.2.2.2.2.2.1.map rI), .list 1 (j16.2.2.2.2.2.2.2.map rB)]], .arr b25 34 3 1 [[.list 1 (j24.1.map rI), .list 1 (j24.2.1.map rI), .list 1 (j24.2.2.map rB)]]]) [(4, _), (5, _), (6, _), (7, _), (33, _), (34, _)] ⟨I, I, I, I, I, I, trivial⟩ ?_ ?_
 rcases Bool.eq_false_or_eq_true ((x204 != 0)) with hg273 | hg273
 replace h := ife_t hg273 h
 rcases Bool.eq_false_or_eq_true ((true != true)) with hg274 | hg274
 replace h := ife_t hg274 h
 refine AW.regionD (.still 0 (.still 1 (.still 2 (.still 3 (.still 4 (.still 5 (.still 6 (.still 7 (.still 8 (.still 9 (.still 10 (.still 11 (.still 12 (.still 13 (.still 14 (.still 15 (.still 16 (.still 17 (.still 18 (.still 19 (.still 20 (.still 21 (.still 22 (.still 23 (.still 24 (.still 25 (.still 26 (.still 27 (.still 28 (.still 29 (.still 30 (.still 31 (.still 32 (.still 33 (.still 34 (.still 35 (.still 36 (.still 37 (.still 38 (.still 39 (.still 40 (.still 41 (.still 42 (.still 43 (.still 44 (.still 45 (.still 46 (.still 47 (.still 48 (.still 49 (.still 50 (.still 51 (.still 52 (.still 53 (.still 54 (.still 55 (.still 56 (.still 57 (.still 58 (.still 59 .nil)))))))))))))))))))))))))))))))))))))))))))))))))))))))))))) [1] [_] (by kernel_rfl) I (AP.op I (Yp.fieldPtr I I I I I I) I (AP.o I (Yd.loadO 0 0 0 I I I I I (y := .list 1 (j16.2.2.1.map rI)) I) I (AP.op I (Yp.move I) I (AP.op I (Yp.indexE (m := k201) I I I I I I I (map_get hx205)) I (AP.o I (Yd.loadE I I (y := .v (.int .i64 x204)) I) I (AP.op I (Yp.cmpI (c := (x204 != 0)) I I I) I (AP.op I (Yp.move I) I (AP.known 43 I hg273 (AP.skip I I I I I (dst_some I) (AP.skip I I I I I (dst_some I) (AP.skip I I I I I (dst_some I) (AP.skip I I I I I (dst_some I) ?_))))))))))))
 refine AP.skip I I I I I (dst_some I) (AP.skip I I I I I (dst_some I) (AP.p I (Yp.pickT I I) I (AP.op I (Yp.fieldPtr I I I I I I) I (AP.o I (Yd.loadO 0 0 0 I I I I I (y := .list 1 (j16.2.2.1.map rI)) I) I (AP.op I (Yp.move I) I (AP.op I (Yp.indexE (m := k201) I I I I I I I (map_get hx205)) I (AP.o I (Yd.loadE I I (y := .v (.int .i64 x204)) I) I (AP.op I (Yp.cmpI (c := (x204 != 0)) I I I) I (AP.op I (Yp.move I) I (AP.known 57 I hg273 (AP.skip I I I I I (dst_some I) (AP.skip I I I I I (dst_some I) ?_))))))))))))
 refine AP.skip I I I I I (dst_some I) (AP.skip I I I I I (dst_some I) (AP.skip I I I I I (dst_some I) (AP.skip I I I I I (dst_some I) (AP.p I (Yp.pickT I I) I (AP.p I (Yp.neqB I I I I) I (AP.p I (Yp.move I) I (AP.known 66 I hg274 (AP.skip I I I I I (dst_some I) (AP.skip I I I I I (dst_some I) (AP.skip I I I I I (dst_some I) (AP.skip I I I I I (dst_some I) (AP.skip I I I I I (dst_some I) ?_))))))))))))
 refine AP.skip I I I I I (dst_some I) (AP.skip I I I I I (dst_some I) (AP.skipU I I I I (dst_some I) (AP.skipU I I I I (dst_some I) (AP.skipU I I I I (dst_some I) (AP.skipU I I I I (dst_some I) (AP.skipU I I I I (dst_some I) (AP.skipU I I I I (dst_some I) (AP.skip I I I I I (dst_some I) (AP.skip I I I I I (dst_some I) (AP.skip I I I I I (dst_some I) (AP.skip I I I I I (dst_some I) (AP.skip I I I I I (dst_some I) ?_))))))))))))
 refine AP.skip I I I I I (dst_some I) (AP.skip I I I I I (dst_some I) (AP.skip I I I I I (dst_some I) (AP.skipU I I I I (dst_some I) (AP.skipU I I I I (dst_some I) (AP.skipU I I I I (dst_some I) (AP.skipU I I I I (dst_some I) (AP.skipU I I I I (dst_some I) (AP.skipU I I I I (dst_some I) (AP.skip I I I I I (dst_some I) (AP.skip I I I I I (dst_some I) (AP.p I (Yp.pickT I I) I (AP.ofAO ?_))))))))))))
 refine AO.nil ?_
 exact ⟨_, _, ⟨true, h, I, I⟩, ⟨I, I, I, I, I, I, I, trivial⟩, [0, 1, 2, 3], I, by decide⟩
 replace h := ife_f hg274 h
 obtain ⟨p275, hp276, h⟩ := ob_some h
 obtain ⟨hp276i, hp276x⟩ := ix_some hp276
 rcases Bool.eq_false_or_eq_true ((p275.2 != 0)) with hg277 | hg277
 replace h := ife_t hg277 h
 refine AW.regionD (.still 0 (.still 1 (.still 2 (.still 3 (.still 4 (.still 5 (.still 6 (.still 7 (.still 8 (.still 9 (.still 10 (.still 11 (.still 12 (.still 13 (.still 14 (.still 15 (.still 16 (.still 17 (.still 18 (.still 19 (.still 20 (.still 21 (.still 22 (.still 23 (.still 24 (.still 25 (.still 26 (.still 27 (.still 28 (.still 29 (.still 30 (.still 31 (.still 32 (.still 33 (.still 34 (.still 35 (.still 36 (.still 37 (.still 38 (.still 39 (.still 40 (.still 41 (.still 42 (.still 43 (.still 44 (.still 45 (.still 46 (.still 47 (.still 48 (.still 49 (.still 50 (.still 51 (.still 52 (.still 53 (.still 54 (.still 55 (.still 56 (.still 57 (.still 58 (.still 59 .nil)))))))))))))))))))))))))))))))))))))))))))))))))))))))))))) [1, 2] [_, _] (by kernel_rfl) I (AP.op I (Yp.fieldPtr I I I I I I) I (AP.o I (Yd.loadO 0 0 0 I I I I I (y := .list 1 (j16.2.2.1.map rI)) I) I (AP.op I (Yp.move I) I (AP.op I (Yp.indexE (m := k201) I I I I I I I (map_get hx205)) I (AP.o I (Yd.loadE I I (y := .v (.int .i64 x204)) I) I (AP.op I (Yp.cmpI (c := (x204 != 0)) I I I) I (AP.op I (Yp.move I) I (AP.known 43 I hg273 (AP.skip I I I I I (dst_some I) (AP.skip I I I I I (dst_some I) (AP.skip I I I I I (dst_some I) (AP.skip I I I I I (dst_some I) ?_))))))))))))
 refine AP.skip I I I I I (dst_some I) (AP.skip I I I I I (dst_some I) (AP.p I (Yp.pickT I I) I (AP.op I (Yp.fieldPtr I I I I I I) I (AP.o I (Yd.loadO 0 0 0 I I I I I (y := .list 1 (j16.2.2.1.map rI)) I) I (AP.op I (Yp.move I) I (AP.op I (Yp.indexE (m := k201) I I I I I I I (map_get hx205)) I (AP.o I (Yd.loadE I I (y := .v (.int .i64 x204)) I) I (AP.op I (Yp.cmpI (c := (x204 != 0)) I I I) I (AP.op I (Yp.move I) I (AP.known 57 I hg273 (AP.skip I I I I I (dst_some I) (AP.skip I I I I I (dst_some I) ?_))))))))))))
 refine AP.skip I I I I I (dst_some I) (AP.skip I I I I I (dst_some I) (AP.skip I I I I I (dst_some I) (AP.skip I I I I I (dst_some I) (AP.p I (Yp.pickT I I) I (AP.p I (Yp.neqB I I I I) I (AP.p I (Yp.move I) I (AP.known 66 I hg274 (AP.oldG I I I I ((Yp.fieldPtr I I I I I I).yd) (dst_some I) (AP.oldG I I I I (Yd.loadO 1 0 0 I I I I I (y := .list 1 (j16.2.2.2.2.2.1.map rI)) I) (dst_some I) (AP.oldG I I I I ((Yp.move I).yd) (dst_some I) (AP.oldG I I I I ((Yp.indexE (m := p275.1) I I I I I I hp276i (map_get hp276x)).yd) (dst_some I) (AP.oldG I I I I (Yd.loadE I I (y := .v (.int .i64 p275.2)) I) (dst_some I) ?_))))))))))))
 refine AP.oldG I I I I ((Yp.cmpI (c := (p275.2 != 0)) I I I).yd) (dst_some I) (AP.oldG I I I I ((Yp.move I).yd) (dst_some I) (AP.known 73 I hg277 (AP.skip I I I I I (dst_some I) (AP.skip I I I I I (dst_some I) (AP.skip I I I I I (dst_some I) (AP.skip I I I I I (dst_some I) (AP.skip I I I I I (dst_some I) (AP.skip I I I I I (dst_some I) (AP.newG I I I I (Yp.pickT I I) (dst_some I) (AP.oldG I I I I ((Yp.fieldPtr I I I I I I).yd) (dst_some I) (AP.oldG I I I I (Yd.loadO 0 0 0 I I I I I (y := .list 1 (j16.2.2.1.map rI)) I) (dst_some I) (AP.oldG I I I I ((Yp.move I).yd) (dst_some I) ?_))))))))))))
 refine AP.oldG I I I I ((Yp.indexE (m := k201) I I I I I I I (map_get hx205)).yd) (dst_some I) (AP.oldG I I I I (Yd.loadE I I (y := .v (.int .i64 x204)) I) (dst_some I) (AP.oldG I I I I ((Yp.cmpI (c := (x204 != 0)) I I I).yd) (dst_some I) (AP.oldG I I I I ((Yp.move I).yd) (dst_some I) (AP.known 87 I hg273 (AP.skip I I I I I (dst_some I) (AP.skip I I I I I (dst_some I) (AP.skip I I I I I (dst_some I) (AP.skip I I I I I (dst_some I) (AP.skip I I I I I (dst_some I) (AP.skip I I I I I (dst_some I) (AP.newG I I I I (Yp.pickT I I) (dst_some I) (AP.newG I I I I (Yp.neqB I I I I) (dst_some I) ?_))))))))))))
 refine AP.p I (Yp.pickF I I) I (AP.ofAO (AO.nil ?_))
 exact ⟨_, _, ⟨(true != true), h, I, I⟩, ⟨I, I, I, I, I, I, I, trivial⟩, [0, 1, 2, 3], I, by decide⟩
 replace h := ife_f hg277 h
 obtain ⟨p278, hp279, h⟩ := ob_some h
 obtain ⟨hp279i, hp279x⟩ := ix_some hp279
 refine AW.regionD (.still 0 (.still 1 (.still 2 (.still 3 (.still 4 (.still 5 (.still 6 (.still 7 (.still 8 (.still 9 (.still 10 (.still 11 (.still 12 (.still 13 (.still 14 (.still 15 (.still 16 (.still 17 (.still 18 (.still 19 (.still 20 (.still 21 (.still 22 (.still 23 (.still 24 (.still 25 (.still 26 (.still 27 (.still 28 (.still 29 (.still 30 (.still 31 (.still 32 (.still 33 (.still 34 (.still 35 (.still 36 (.still 37 (.still 38 (.still 39 (.still 40 (.still 41 (.still 42 (.still 43 (.still 44 (.still 45 (.still 46 (.still 47 (.still 48 (.still 49 (.still 50 (.still 51 (.still 52 (.still 53 (.still 54 (.still 55 (.still 56 (.still 57 (.still 58 (.still 59 .nil)))))))))))))))))))))))))))))))))))))))))))))))))))))))))))) [1, 2, 3] [_, _, _] (by kernel_rfl) I (AP.op I (Yp.fieldPtr I I I I I I) I (AP.o I (Yd.loadO 0 0 0 I I I I I (y := .list 1 (j16.2.2.1.map rI)) I) I (AP.op I (Yp.move I) I (AP.op I (Yp.indexE (m := k201) I I I I I I I (map_get hx205)) I (AP.o I (Yd.loadE I I (y := .v (.int .i64 x204)) I) I (AP.op I (Yp.cmpI (c := (x204 != 0)) I I I) I (AP.op I (Yp.move I) I (AP.known 43 I hg273 (AP.skip I I I I I (dst_some I) (AP.skip I I I I I (dst_some I) (AP.skip I I I I I (dst_some I) (AP.skip I I I I I (dst_some I) ?_))))))))))))
 refine AP.skip I I I I I (dst_some I) (AP.skip I I I I I (dst_some I) (AP.p I (Yp.pickT I I) I (AP.op I (Yp.fieldPtr I I I I I I) I (AP.o I (Yd.loadO 0 0 0 I I I I I (y := .list 1 (j16.2.2.1.map rI)) I) I (AP.op I (Yp.move I) I (AP.op I (Yp.indexE (m := k201) I I I I I I I (map_get hx205)) I (AP.o I (Yd.loadE I I (y := .v (.int .i64 x204)) I) I (AP.op I (Yp.cmpI (c := (x204 != 0)) I I I) I (AP.op I (Yp.move I) I (AP.known 57 I hg273 (AP.skip I I I I I (dst_some I) (AP.skip I I I I I (dst_some I) ?_))))))))))))
 refine AP.skip I I I I I (dst_some I) (AP.skip I I I I I (dst_some I) (AP.skip I I I I I (dst_some I) (AP.skip I I I I I (dst_some I) (AP.p I (Yp.pickT I I) I (AP.p I (Yp.neqB I I I I) I (AP.p I (Yp.move I) I (AP.known 66 I hg274 (AP.oldG I I I I ((Yp.fieldPtr I I I I I I).yd) (dst_some I) (AP.oldG I I I I (Yd.loadO 1 0 0 I I I I I (y := .list 1 (j16.2.2.2.2.2.1.map rI)) I) (dst_some I) (AP.oldG I I I I ((Yp.move I).yd) (dst_some I) (AP.oldG I I I I ((Yp.indexE (m := p275.1) I I I I I I hp276i (map_get hp276x)).yd) (dst_some I) (AP.oldG I I I I (Yd.loadE I I (y := .v (.int .i64 p275.2)) I) (dst_some I) ?_))))))))))))
 refine AP.oldG I I I I ((Yp.cmpI (c := (p275.2 != 0)) I I I).yd) (dst_some I) (AP.oldG I I I I ((Yp.move I).yd) (dst_some I) (AP.known 73 I hg277 (AP.oldG I I I I ((Yp.fieldPtr I I I I I I).yd) (dst_some I) (AP.oldG I I I I (Yd.loadO 2 0 0 I I I I I (y := .list 1 (j24.1.map rI)) I) (dst_some I) (AP.oldG I I I I ((Yp.move I).yd) (dst_some I) (AP.oldG I I I I ((Yp.indexE (m := p278.1) I I I I I I hp279i (map_get hp279x)).yd) (dst_some I) (AP.oldG I I I I (Yd.loadE I I (y := .v (.int .i64 p278.2)) I) (dst_some I) (AP.oldG I I I I ((Yp.cmpI (c := (p278.2 != 0)) I I I).yd) (dst_some I) (AP.newG I I I I (Yp.pickF I I) (dst_some I) (AP.oldG I I I I ((Yp.fieldPtr I I I I I I).yd) (dst_some I) (AP.oldG I I I I (Yd.loadO 0 0 0 I I I I I (y := .list 1 (j16.2.2.1.map rI)) I) (dst_some I) (AP.oldG I I I I ((Yp.move I).yd) (dst_some I) ?_))))))))))))
 refine AP.oldG I I I I ((Yp.indexE (m := k201) I I I I I I I (map_get hx205)).yd) (dst_some I) (AP.oldG I I I I (Yd.loadE I I (y := .v (.int .i64 x204)) I) (dst_some I) (AP.oldG I I I I ((Yp.cmpI (c := (x204 != 0)) I I I).yd) (dst_some I) (AP.oldG I I I I ((Yp.move I).yd) (dst_some I) (AP.known 87 I hg273 (AP.skip I I I I I (dst_some I) (AP.skip I I I I I (dst_some I) (AP.skip I I I I I (dst_some I) (AP.skip I I I I I (dst_some I) (AP.skip I I I I I (dst_some I) (AP.skip I I I I I (dst_some I) (AP.newG I I I I (Yp.pickT I I) (dst_some I) (AP.newG I I I I (Yp.neqB I I I I) (dst_some I) ?_))))))))))))
 refine AP.p I (Yp.pickF I I) I (AP.ofAO (AO.nil ?_))
 exact ⟨_, _, ⟨((p278.2 != 0) != true), h, I, I⟩, ⟨I, I, I, I, I, I, I, trivial⟩, [0, 1, 2, 3], I, by decide⟩
 replace h := ife_f hg273 h
 obtain ⟨p280, hp281, h⟩ := ob_some h
 obtain ⟨hp281i, hp281x⟩ := ix_some hp281
 obtain ⟨p282, hp283, h⟩ := ob_some h
 obtain ⟨hp283i, hp283x⟩ := ix_some hp283
 rcases Bool.eq_false_or_eq_true (((p280.2 != 0) != (p282.2 != 0))) with hg284 | hg284
 replace h := ife_t hg284 h
 refine AW.regionD (.still 0 (.still 1 (.still 2 (.still 3 (.still 4 (.still 5 (.still 6 (.still 7 (.still 8 (.still 9 (.still 10 (.still 11 (.still 12 (.still 13 (.still 14 (.still 15 (.still 16 (.still 17 (.still 18 (.still 19 (.still 20 (.still 21 (.still 22 (.still 23 (.still 24 (.still 25 (.still 26 (.still 27 (.still 28 (.still 29 (.still 30 (.still 31 (.still 32 (.still 33 (.still 34 (.still 35 (.still 36 (.still 37 (.still 38 (.still 39 (.still 40 (.still 41 (.still 42 (.still 43 (.still 44 (.still 45 (.still 46 (.still 47 (.still 48 (.still 49 (.still 50 (.still 51 (.still 52 (.still 53 (.still 54 (.still 55 (.still 56 (.still 57 (.still 58 (.still 59 .nil)))))))))))))))))))))))))))))))))))))))))))))))))))))))))))) [1, 2, 3] [_, _, _] (by kernel_rfl) I (AP.op I (Yp.fieldPtr I I I I I I) I (AP.o I (Yd.loadO 0 0 0 I I I I I (y := .list 1 (j16.2.2.1.map rI)) I) I (AP.op I (Yp.move I) I (AP.op I (Yp.indexE (m := k201) I I I I I I I (map_get hx205)) I (AP.o I (Yd.loadE I I (y := .v (.int .i64 x204)) I) I (AP.op I (Yp.cmpI (c := (x204 != 0)) I I I) I (AP.op I (Yp.move I) I (AP.known 43 I hg273 (AP.oldG I I I I ((Yp.fieldPtr I I I I I I).yd) (dst_some I) (AP.oldG I I I I (Yd.loadO 1 0 0 I I I I I (y := .list 1 (j16.2.2.2.2.2.1.map rI)) I) (dst_some I) (AP.oldG I I I I ((Yp.move I).yd) (dst_some I) (AP.oldG I I I I ((Yp.indexE (m := p280.1) I I I I I I hp281i (map_get hp281x)).yd) (dst_some I) ?_))))))))))))
 refine AP.oldG I I I I (Yd.loadE I I (y := .v (.int .i64 p280.2)) I) (dst_some I) (AP.oldG I I I I ((Yp.cmpI (c := (p280.2 != 0)) I I I).yd) (dst_some I) (AP.p I (Yp.pickF I I) I (AP.op I (Yp.fieldPtr I I I I I I) I (AP.o I (Yd.loadO 0 0 0 I I I I I (y := .list 1 (j16.2.2.1.map rI)) I) I (AP.op I (Yp.move I) I (AP.op I (Yp.indexE (m := k201) I I I I I I I (map_get hx205)) I (AP.o I (Yd.loadE I I (y := .v (.int .i64 x204)) I) I (AP.op I (Yp.cmpI (c := (x204 != 0)) I I I) I (AP.op I (Yp.move I) I (AP.known 57 I hg273 (AP.oldG I I I I ((Yp.fieldPtr I I I I I I).yd) (dst_some I) (AP.oldG I I I I (Yd.loadO 2 0 0 I I I I I (y := .list 1 (j24.1.map rI)) I) (dst_some I) ?_))))))))))))
 refine AP.oldG I I I I ((Yp.move I).yd) (dst_some I) (AP.oldG I I I I ((Yp.indexE (m := p282.1) I I I I I I hp283i (map_get hp283x)).yd) (dst_some I) (AP.oldG I I I I (Yd.loadE I I (y := .v (.int .i64 p282.2)) I) (dst_some I) (AP.oldG I I I I ((Yp.cmpI (c := (p282.2 != 0)) I I I).yd) (dst_some I) (AP.p I (Yp.pickF I I) I (AP.p I (Yp.neqB I I I I) I (AP.p I (Yp.move I) I (AP.known 66 I hg284 (AP.skip I I I I I (dst_some I) (AP.skip I I I I I (dst_some I) (AP.skip I I I I I (dst_some I) (AP.skip I I I I I (dst_some I) (AP.skip I I I I I (dst_some I) ?_))))))))))))
 refine AP.skip I I I I I (dst_some I) (AP.skip I I I I I (dst_some I) (AP.skipU I I I I (dst_some I) (AP.skipU I I I I (dst_some I) (AP.skipU I I I I (dst_some I) (AP.skipU I I I I (dst_some I) (AP.skipU I I I I (dst_some I) (AP.skipU I I I I (dst_some I) (AP.skip I I I I I (dst_some I) (AP.skip I I I I I (dst_some I) (AP.skip I I I I I (dst_some I) (AP.skip I I I I I (dst_some I) (AP.skip I I I I I (dst_some I) ?_))))))))))))
 refine AP.skip I I I I I (dst_some I) (AP.skip I I I I I (dst_some I) (AP.skip I I I I I (dst_some I) (AP.skipU I I I I (dst_some I) (AP.skipU I I I I (dst_some I) (AP.skipU I I I I (dst_some I) (AP.skipU I I I I (dst_some I) (AP.skipU I I I I (dst_some I) (AP.skipU I I I I (dst_some I) (AP.skip I I I I I (dst_some I) (AP.skip I I I I I (dst_some I) (AP.p I (Yp.pickT I I) I (AP.ofAO ?_))))))))))))
 refine AO.nil ?_
 exact ⟨_, _, ⟨true, h, I, I⟩, ⟨I, I, I, I, I, I, I, trivial⟩, [0, 1, 2, 3], I, by decide⟩
 replace h := ife_f hg284 h
 rcases Bool.eq_false_or_eq_true ((p280.2 != 0)) with hg285 | hg285
 replace h := ife_t hg285 h
 refine AW.regionD (.still 0 (.still 1 (.still 2 (.still 3 (.still 4 (.still 5 (.still 6 (.still 7 (.still 8 (.still 9 (.still 10 (.still 11 (.still 12 (.still 13 (.still 14 (.still 15 (.still 16 (.still 17 (.still 18 (.still 19 (.still 20 (.still 21 (.still 22 (.still 23 (.still 24 (.still 25 (.still 26 (.still 27 (.still 28 (.still 29 (.still 30 (.still 31 (.still 32 (.still 33 (.still 34 (.still 35 (.still 36 (.still 37 (.still 38 (.still 39 (.still 40 (.still 41 (.still 42 (.still 43 (.still 44 (.still 45 (.still 46 (.still 47 (.still 48 (.still 49 (.still 50 (.still 51 (.still 52 (.still 53 (.still 54 (.still 55 (.still 56 (.still 57 (.still 58 (.still 59 .nil)))))))))))))))))))))))))))))))))))))))))))))))))))))))))))) [1, 2, 3] [_, _, _] (by kernel_rfl) I (AP.op I (Yp.fieldPtr I I I I I I) I (AP.o I (Yd.loadO 0 0 0 I I I I I (y := .list 1 (j16.2.2.1.map rI)) I) I (AP.op I (Yp.move I) I (AP.op I (Yp.indexE (m := k201) I I I I I I I (map_get hx205)) I (AP.o I (Yd.loadE I I (y := .v (.int .i64 x204)) I) I (AP.op I (Yp.cmpI (c := (x204 != 0)) I I I) I (AP.op I (Yp.move I) I (AP.known 43 I hg273 (AP.oldG I I I I ((Yp.fieldPtr I I I I I I).yd) (dst_some I) (AP.oldG I I I I (Yd.loadO 1 0 0 I I I I I (y := .list 1 (j16.2.2.2.2.2.1.map rI)) I) (dst_some I) (AP.oldG I I I I ((Yp.move I).yd) (dst_some I) (AP.oldG I I I I ((Yp.indexE (m := p280.1) I I I I I I hp281i (map_get hp281x)).yd) (dst_some I) ?_))))))))))))
 refine AP.oldG I I I I (Yd.loadE I I (y := .v (.int .i64 p280.2)) I) (dst_some I) (AP.oldG I I I I ((Yp.cmpI (c := (p280.2 != 0)) I I I).yd) (dst_some I) (AP.p I (Yp.pickF I I) I (AP.op I (Yp.fieldPtr I I I I I I) I (AP.o I (Yd.loadO 0 0 0 I I I I I (y := .list 1 (j16.2.2.1.map rI)) I) I (AP.op I (Yp.move I) I (AP.op I (Yp.indexE (m := k201) I I I I I I I (map_get hx205)) I (AP.o I (Yd.loadE I I (y := .v (.int .i64 x204)) I) I (AP.op I (Yp.cmpI (c := (x204 != 0)) I I I) I (AP.op I (Yp.move I) I (AP.known 57 I hg273 (AP.oldG I I I I ((Yp.fieldPtr I I I I I I).yd) (dst_some I) (AP.oldG I I I I (Yd.loadO 2 0 0 I I I I I (y := .list 1 (j24.1.map rI)) I) (dst_some I) ?_))))))))))))
 refine AP.oldG I I I I ((Yp.move I).yd) (dst_some I) (AP.oldG I I I I ((Yp.indexE (m := p282.1) I I I I I I hp283i (map_get hp283x)).yd) (dst_some I) (AP.oldG I I I I (Yd.loadE I I (y := .v (.int .i64 p282.2)) I) (dst_some I) (AP.oldG I I I I ((Yp.cmpI (c := (p282.2 != 0)) I I I).yd) (dst_some I) (AP.p I (Yp.pickF I I) I (AP.p I (Yp.neqB I I I I) I (AP.p I (Yp.move I) I (AP.known 66 I hg284 (AP.oldG I I I I ((Yp.fieldPtr I I I I I I).yd) (dst_some I) (AP.oldG I I I I (Yd.loadO 1 0 0 I I I I I (y := .list 1 (j16.2.2.2.2.2.1.map rI)) I) (dst_some I) (AP.oldG I I I I ((Yp.move I).yd) (dst_some I) (AP.oldG I I I I ((Yp.indexE (m := p280.1) I I I I I I hp281i (map_get hp281x)).yd) (dst_some I) (AP.oldG I I I I (Yd.loadE I I (y := .v (.int .i64 p280.2)) I) (dst_some I) ?_))))))))))))
 refine AP.oldG I I I I ((Yp.cmpI (c := (p280.2 != 0)) I I I).yd) (dst_some I) (AP.oldG I I I I ((Yp.move I).yd) (dst_some I) (AP.known 73 I hg285 (AP.skip I I I I I (dst_some I) (AP.skip I I I I I (dst_some I) (AP.skip I I I I I (dst_some I) (AP.skip I I I I I (dst_some I) (AP.skip I I I I I (dst_some I) (AP.skip I I I I I (dst_some I) (AP.newG I I I I (Yp.pickT I I) (dst_some I) (AP.oldG I I I I ((Yp.fieldPtr I I I I I I).yd) (dst_some I) (AP.oldG I I I I (Yd.loadO 0 0 0 I I I I I (y := .list 1 (j16.2.2.1.map rI)) I) (dst_some I) (AP.oldG I I I I ((Yp.move I).yd) (dst_some I) ?_))))))))))))
 refine AP.oldG I I I I ((Yp.indexE (m := k201) I I I I I I I (map_get hx205)).yd) (dst_some I) (AP.oldG I I I I (Yd.loadE I I (y := .v (.int .i64 x204)) I) (dst_some I) (AP.oldG I I I I ((Yp.cmpI (c := (x204 != 0)) I I I).yd) (dst_some I) (AP.oldG I I I I ((Yp.move I).yd) (dst_some I) (AP.known 87 I hg273 (AP.oldG I I I I ((Yp.fieldPtr I I I I I I).yd) (dst_some I) (AP.oldG I I I I (Yd.loadO 2 0 0 I I I I I (y := .list 1 (j24.1.map rI)) I) (dst_some I) (AP.oldG I I I I ((Yp.move I).yd) (dst_some I) (AP.oldG I I I I ((Yp.indexE (m := p282.1) I I I I I I hp283i (map_get hp283x)).yd) (dst_some I) (AP.oldG I I I I (Yd.loadE I I (y := .v (.int .i64 p282.2)) I) (dst_some I) (AP.oldG I I I I ((Yp.cmpI (c := (p282.2 != 0)) I I I).yd) (dst_some I) (AP.newG I I I I (Yp.pickF I I) (dst_some I) (AP.newG I I I I (Yp.neqB I I I I) (dst_some I) ?_))))))))))))
 refine AP.p I (Yp.pickF I I) I (AP.ofAO (AO.nil ?_))
 exact ⟨_, _, ⟨(true != (p282.2 != 0)), h, I, I⟩, ⟨I, I, I, I, I, I, I, trivial⟩, [0, 1, 2, 3], I, by decide⟩
 replace h := ife_f hg285 h
 refine AW.regionD (.still 0 (.still 1 (.still 2 (.still 3 (.still 4 (.still 5 (.still 6 (.still 7 (.still 8 (.still 9 (.still 10 (.still 11 (.still 12 (.still 13 (.still 14 (.still 15 (.still 16 (.still 17 (.still 18 (.still 19 (.still 20 (.still 21 (.still 22 (.still 23 (.still 24 (.still 25 (.still 26 (.still 27 (.still 28 (.still 29 (.still 30 (.still 31 (.still 32 (.still 33 (.still 34 (.still 35 (.still 36 (.still 37 (.still 38 (.still 39 (.still 40 (.still 41 (.still 42 (.still 43 (.still 44 (.still 45 (.still 46 (.still 47 (.still 48 (.still 49 (.still 50 (.still 51 (.still 52 (.still 53 (.still 54 (.still 55 (.still 56 (.still 57 (.still 58 (.still 59 .nil)))))))))))))))))))))))))))))))))))))))))))))))))))))))))))) [1, 2, 3] [_, _, _] (by kernel_rfl) I (AP.op I (Yp.fieldPtr I I I I I I) I (AP.o I (Yd.loadO 0 0 0 I I I I I (y := .list 1 (j16.2.2.1.map rI)) I) I (AP.op I (Yp.move I) I (AP.op I (Yp.indexE (m := k201) I I I I I I I (map_get hx205)) I (AP.o I (Yd.loadE I I (y := .v (.int .i64 x204)) I) I (AP.op I (Yp.cmpI (c := (x204 != 0)) I I I) I (AP.op I (Yp.move I) I (AP.known 43 I hg273 (AP.oldG I I I I ((Yp.fieldPtr I I I I I I).yd) (dst_some I) (AP.oldG I I I I (Yd.loadO 1 0 0 I I I I I (y := .list 1 (j16.2.2.2.2.2.1.map rI)) I) (dst_some I) (AP.oldG I I I I ((Yp.move I).yd) (dst_some I) (AP.oldG I I I I ((Yp.indexE (m := p280.1) I I I I I I hp281i (map_get hp281x)).yd) (dst_some I) ?_))))))))))))
 refine AP.oldG I I I I (Yd.loadE I I (y := .v (.int .i64 p280.2)) I) (dst_some I) (AP.oldG I I I I ((Yp.cmpI (c := (p280.2 != 0)) I I I).yd) (dst_some I) (AP.p I (Yp.pickF I I) I (AP.op I (Yp.fieldPtr I I I I I I) I (AP.o I (Yd.loadO 0 0 0 I I I I I (y := .list 1 (j16.2.2.1.map rI)) I) I (AP.op I (Yp.move I) I (AP.op I (Yp.indexE (m := k201) I I I I I I I (map_get hx205)) I (AP.o I (Yd.loadE I I (y := .v (.int .i64 x204)) I) I (AP.op I (Yp.cmpI (c := (x204 != 0)) I I I) I (AP.op I (Yp.move I) I (AP.known 57 I hg273 (AP.oldG I I I I ((Yp.fieldPtr I I I I I I).yd) (dst_some I) (AP.oldG I I I I (Yd.loadO 2 0 0 I I I I I (y := .list 1 (j24.1.map rI)) I) (dst_some I) ?_))))))))))))
 refine AP.oldG I I I I ((Yp.move I).yd) (dst_some I) (AP.oldG I I I I ((Yp.indexE (m := p282.1) I I I I I I hp283i (map_get hp283x)).yd) (dst_some I) (AP.oldG I I I I (Yd.loadE I I (y := .v (.int .i64 p282.2)) I) (dst_some I) (AP.oldG I I I I ((Yp.cmpI (c := (p282.2 != 0)) I I I).yd) (dst_some I) (AP.p I (Yp.pickF I I) I (AP.p I (Yp.neqB I I I I) I (AP.p I (Yp.move I) I (AP.known 66 I hg284 (AP.oldG I I I I ((Yp.fieldPtr I I I I I I).yd) (dst_some I) (AP.oldG I I I I (Yd.loadO 1 0 0 I I I I I (y := .list 1 (j16.2.2.2.2.2.1.map rI)) I) (dst_some I) (AP.oldG I I I I ((Yp.move I).yd) (dst_some I) (AP.oldG I I I I ((Yp.indexE (m := p280.1) I I I I I I hp281i (map_get hp281x)).yd) (dst_some I) (AP.oldG I I I I (Yd.loadE I I (y := .v (.int .i64 p280.2)) I) (dst_some I) ?_))))))))))))
 refine AP.oldG I I I I ((Yp.cmpI (c := (p280.2 != 0)) I I I).yd) (dst_some I) (AP.oldG I I I I ((Yp.move I).yd) (dst_some I) (AP.known 73 I hg285 (AP.oldG I I I I ((Yp.fieldPtr I I I I I I).yd) (dst_some I) (AP.oldG I I I I (Yd.loadO 2 0 0 I I I I I (y := .list 1 (j24.1.map rI)) I) (dst_some I) (AP.oldG I I I I ((Yp.move I).yd) (dst_some I) (AP.oldG I I I I ((Yp.indexE (m := p282.1) I I I I I I hp283i (map_get hp283x)).yd) (dst_some I) (AP.oldG I I I I (Yd.loadE I I (y := .v (.int .i64 p282.2)) I) (dst_some I) (AP.oldG I I I I ((Yp.cmpI (c := (p282.2 != 0)) I I I).yd) (dst_some I) (AP.newG I I I I (Yp.pickF I I) (dst_some I) (AP.oldG I I I I ((Yp.fieldPtr I I I I I I).yd) (dst_some I) (AP.oldG I I I I (Yd.loadO 0 0 0 I I I I I (y := .list 1 (j16.2.2.1.map rI)) I) (dst_some I) (AP.oldG I I I I ((Yp.move I).yd) (dst_some I) ?_))))))))))))
 refine AP.oldG I I I I ((Yp.indexE (m := k201) I I I I I I I (map_get hx205)).yd) (dst_some I) (AP.oldG I I I I (Yd.loadE I I (y := .v (.int .i64 x204)) I) (dst_some I) (AP.oldG I I I I ((Yp.cmpI (c := (x204 != 0)) I I I).yd) (dst_some I) (AP.oldG I I I I ((Yp.move I).yd) (dst_some I) (AP.known 87 I hg273 (AP.oldG I I I I ((Yp.fieldPtr I I I I I I).yd) (dst_some I) (AP.oldG I I I I (Yd.loadO 2 0 0 I I I I I (y := .list 1 (j24.1.map rI)) I) (dst_some I) (AP.oldG I I I I ((Yp.move I).yd) (dst_some I) (AP.oldG I I I I ((Yp.indexE (m := p282.1) I I I I I I hp283i (map_get hp283x)).yd) (dst_some I) (AP.oldG I I I I (Yd.loadE I I (y := .v (.int .i64 p282.2)) I) (dst_some I) (AP.oldG I I I I ((Yp.cmpI (c := (p282.2 != 0)) I I I).yd) (dst_some I) (AP.newG I I I I (Yp.pickF I I) (dst_some I) (AP.newG I I I I (Yp.neqB I I I I) (dst_some I) ?_))))))))))))
 refine AP.p I (Yp.pickF I I) I (AP.ofAO (AO.nil ?_))
 exact ⟨_, _, ⟨((p282.2 != 0) != (p282.2 != 0)), h, I, I⟩, ⟨I, I, I, I, I, I, I, trivial⟩, [0, 1, 2, 3], I, by decide⟩
 rintro s ob ⟨j269, h, rfl, rfl⟩
 unfold L.law22_SurgeThird.J7 at h
 refine AW.cond I I ?_ ?_
 intro hc270
 replace h := ife_t hc270 h
 refine AW.seq ?_
 obtain ⟨r271, hx272, h⟩ := ob_some h
 refine AW.region (AO.act [] I (AX.callL I (.refl _) I I (.rest _) I (L.law22_awake_ok  _ hx272) (dst_some I) (by rintro _ _ ⟨rfl, _⟩; rfl) ?_))
 rintro _ ⟨_, rfl, -⟩
 refine AO.a I I (AO.nil ?_)
 obtain rfl := hb251 _ (Option.some.inj h).symm
 replace h := hR250
 replace h := se_r h
 refine AW.ghost (Ghost.pick [] (K := []) I (by decide)) ?_
 obtain rfl := Option.some.inj h
 refine AW.ret ?_
 exact ⟨.inr I, [_], [], ⟨I, trivial⟩, sl_n, ⟨I, I⟩⟩
 intro hc270
 replace h := ife_f hc270 h
 refine AW.skip (AW.region (AO.p (Yp.binI (c := ((k201 + 1 : Nat) : Int)) I I (cast_wr hk202 hm203)) I (AO.m I I ?_)))
 obtain rfl := Option.some.inj h
 refine AO.nil ?_
 exact ⟨_, _, _, I, ⟨I, I⟩, ⟨I, I, I, I, I, I, trivial⟩, [0, 1, 2, 3], I, by decide⟩
 rintro st227 s ob ⟨rfl, rfl⟩ he
 subst he
 have h := se_l hR250
 have hk202f : decide (((j16.2.2.1.length : Nat) : Int) < (j16.2.2.1.length : Int)) = false := by simp
 refine AW.seqG (fun y286 hy286 => (AW.region (AO.p (Yp.cmpI (c := decide (((j16.2.2.1.length : Nat) : Int) < (j16.2.2.1.length : Int))) I I I) I (AO.nil ?_))))
 subst hy286
 refine AW.seqG (fun y287 hy287 => (AW.condK (v := false) I hk202f (AW.exit ?_)))
 exact ⟨_, _, ⟨(), h, I, I⟩, ⟨I, I, I, I, trivial⟩, [0, 1, 2, 3], I, by decide⟩
 rintro s ob ⟨j76, h, rfl, rfl⟩
 unfold L.law22_SurgeThird.J3 at h
 refine AW.seqG (fun y77 hy77 => (AW.seq ?_))
 obtain ⟨r78, hx79, h⟩ := ob_some h
 refine AW.region (AO.d (Yd.loadO 0 0 0 I I I I I (y := .agg (Network.row r7.1)) I) I (AO.d (Yd.loadO 3 0 0 I I I I I (y := .agg [.list 1 (j24.1.map rI), .list 1 (j24.2.1.map rI), .list 1 (j24.2.2.map rB)]) I) I (AO.act [] I (AX.callL I (.refl _) I I (.rest _) I (L.ref16_Check_ok r7.1 (⟨j24.1, j24.2.1, j24.2.2⟩ : Plan) _ hx79) (dst_some I) (by rintro _ _ ⟨rfl, _⟩; rfl) ?_))))
 rintro _ ⟨_, rfl, -⟩
 refine AO.p (Yp.cmpI (c := (r78 != 0)) I I I) I (AO.nil (AW.cond I I ?_ ?_))
 intro hc80
 replace h := ife_t hc80 h
 refine AW.seq ?_
 obtain ⟨r81, hx82, h⟩ := ob_some h
 refine AW.region (AO.act [] I (AX.callL I (.refl _) I I (.rest _) I (L.law22_awake_ok  _ hx82) (dst_some I) (by rintro _ _ ⟨rfl, _⟩; rfl) ?_))
 rintro _ ⟨_, rfl, -⟩
 refine AO.a I I (AO.nil (AW.ghost (Ghost.pick [] (K := []) I (by decide)) ?_))
 obtain rfl := Option.some.inj h
 refine AW.ret ?_
 exact ⟨.inr I, [_], [], ⟨I, trivial⟩, sl_n, ⟨I, I⟩⟩
 intro hc80
 replace h := ife_f hc80 h
 refine AW.skip ?_
 subst hy77
 refine AW.seqG (fun y83 hy83 => ?_)
 obtain ⟨r84, hx85, h⟩ := ob_some h
 refine AW.region (AO.d (Yd.loadO 0 0 0 I I I I I (y := .agg (Network.row r7.1)) I) I (AO.d (Yd.loadO 1 0 0 I I I I I (y := .agg [.list 1 (j16.2.2.1.map rI), .list 1 (j16.2.2.2.1.map rI), .list 1 (j16.2.2.2.2.1.map rB)]) I) I (AO.d (Yd.loadO 2 0 0 I I I I I (y := .agg [.list 1 (j16.2.2.2.2.2.1.map rI), .list 1 (j16.2.2.2.2.2.2.1.map rI), .list 1 (j16.2.2.2.2.2.2.2.map rB)]) I) I (AO.act [] I (AX.call0 I I I (L.surge_Rise_ok r7.1 (⟨j16.2.2.1, j16.2.2.2.1, j16.2.2.2.2.1⟩ : Plan) (⟨j16.2.2.2.2.2.1, j16.2.2.2.2.2.2.1, j16.2.2.2.2.2.2.2⟩ : Plan) _ hx85) (dst_some I) ?_)))))
 rintro _ _ ⟨v86, rfl, rfl⟩
 refine AO.m I I (AO.p (Yp.extract I I) I (AO.p (Yp.extract I I) I (AO.a I I (AO.a I I (AO.nil ?_)))))
 subst hy83
 refine AW.seqG (fun y87 hy87 => ?_)
 obtain ⟨r88, hx89, h⟩ := ob_some h
 refine AW.region (AO.d (Yd.loadO 0 0 0 I I I I I (y := .agg (Network.row r7.1)) I) I (AO.d (Yd.loadO 1 0 0 I I I I I (y := .agg [.list 1 (j16.2.2.1.map rI), .list 1 (j16.2.2.2.1.map rI), .list 1 (j16.2.2.2.2.1.map rB)]) I) I (AO.d (Yd.loadO 3 0 0 I I I I I (y := .agg [.list 1 (j24.1.map rI), .list 1 (j24.2.1.map rI), .list 1 (j24.2.2.map rB)]) I) I (AO.act [] I (AX.call0 I I I (L.surge_Rise_ok r7.1 (⟨j16.2.2.1, j16.2.2.2.1, j16.2.2.2.2.1⟩ : Plan) (⟨j24.1, j24.2.1, j24.2.2⟩ : Plan) _ hx89) (dst_some I) ?_)))))
 rintro _ _ ⟨v90, rfl, rfl⟩
 refine AO.m I I (AO.p (Yp.extract I I) I (AO.p (Yp.extract I I) I (AO.a I I (AO.a I I (AO.nil ?_)))))
 subst hy87
 refine AW.seqG (fun y91 hy91 => ?_)
 obtain ⟨r92, hx93, h⟩ := ob_some h
 refine AW.region (AO.d (Yd.loadO 0 0 0 I I I I I (y := .agg (Network.row r7.1)) I) I (AO.d (Yd.loadO 3 0 0 I I I I I (y := .agg [.list 1 (j24.1.map rI), .list 1 (j24.2.1.map rI), .list 1 (j24.2.2.map rB)]) I) I (AO.d (Yd.loadO 2 0 0 I I I I I (y := .agg [.list 1 (j16.2.2.2.2.2.1.map rI), .list 1 (j16.2.2.2.2.2.2.1.map rI), .list 1 (j16.2.2.2.2.2.2.2.map rB)]) I) I (AO.act [] I (AX.call0 I I I (L.surge_Rise_ok r7.1 (⟨j24.1, j24.2.1, j24.2.2⟩ : Plan) (⟨j16.2.2.2.2.2.1, j16.2.2.2.2.2.2.1, j16.2.2.2.2.2.2.2⟩ : Plan) _ hx93) (dst_some I) ?_)))))
 rintro _ _ ⟨v94, rfl, rfl⟩
 refine AO.m I I (AO.p (Yp.extract I I) I (AO.p (Yp.extract I I) I (AO.a I I (AO.a I I (AO.nil ?_)))))
 subst hy91
 refine AW.seqG (fun y95 hy95 => (AW.cutX (fun s ob => s = [(156, .v (.bool ((r84.2 != 0) || ((r88.2 != 0) || ((r92.2 != 0) || (((r84.1.length : Int) != (r88.1.length : Int)) || (((r84.1.length : Int) != (r92.1.length : Int)) || ((r84.1.length : Int) != (r7.1.Segments.length : Int)))))))))] ∧ ob = [.us v86 3 1 (r84.1.map rI), .us v90 3 1 (r88.1.map rI), .us v94 3 1 (r92.1.map rI)]) [(9, _), (11, _), (13, _)] ⟨I, I, I, trivial⟩ ?_ ?_))
 rcases Bool.eq_false_or_eq_true ((r84.2 != 0)) with hg102 | hg102
 refine AW.region (AO.m I I (AO.p (Yp.cmpI (c := (r84.2 != 0)) I I I) I (AO.m I I (AO.known 127 I hg102 (AO.gf I I I (AO.gf I I I (AO.p (Yp.pickT I I) I (AO.m I I (AO.gf I I I (AO.gf I I I (AO.p (Yp.pickT I I) I (AO.m I I ?_))))))))))))
 refine AO.gf I I I (AO.gf I I I (AO.gf I I I (AO.gf I I I (AO.gf I I I (AO.p (Yp.pickT I I) I (AO.m I I (AO.gf I I I (AO.gf I I I (AO.gf I I I (AO.gf I I I (AO.gf I I I (AO.p (Yp.pickT I I) I ?_))))))))))))
 refine AO.m I I (AO.gf I I I (AO.gf I I I (AO.gf I I I (AO.gf I I I (AO.gf I I I (AO.gf I I I (AO.p (Yp.pickT I I) I (AO.nil ?_))))))))
 exact ⟨_, _, ⟨I, I⟩, ⟨(get_b (by simp only [hg102, Bool.true_and, Bool.false_and, Bool.true_or, Bool.false_or, Bool.not_true, Bool.not_false, cond_true, cond_false])), I, I, I, trivial⟩, [4, 5, 6], I, by decide⟩
 rcases Bool.eq_false_or_eq_true ((r88.2 != 0)) with hg103 | hg103
 refine AW.region (AO.m I I (AO.p (Yp.cmpI (c := (r84.2 != 0)) I I I) I (AO.m I I (AO.known 127 I hg102 (AO.gt I I I (AO.m I I (AO.gt I I I (AO.p (Yp.cmpI (c := (r88.2 != 0)) I I I) I (AO.p (Yp.pickF I I) I (AO.m I I (AO.known 131 I hg103 (AO.gf I I I ?_))))))))))))
 refine AO.gf I I I (AO.p (Yp.pickT I I) I (AO.m I I (AO.gf I I I (AO.gf I I I (AO.gf I I I (AO.gf I I I (AO.gf I I I (AO.p (Yp.pickT I I) I (AO.m I I (AO.gf I I I (AO.gf I I I (AO.gf I I I ?_))))))))))))
 refine AO.gf I I I (AO.gf I I I (AO.p (Yp.pickT I I) I (AO.m I I (AO.gf I I I (AO.gf I I I (AO.gf I I I (AO.gf I I I (AO.gf I I I (AO.gf I I I (AO.p (Yp.pickT I I) I (AO.nil ?_)))))))))))
 exact ⟨_, _, ⟨I, I⟩, ⟨(get_b (by simp only [hg102, hg103, Bool.true_and, Bool.false_and, Bool.true_or, Bool.false_or, Bool.not_true, Bool.not_false, cond_true, cond_false])), I, I, I, trivial⟩, [4, 5, 6], I, by decide⟩
 rcases Bool.eq_false_or_eq_true ((r92.2 != 0)) with hg104 | hg104
 refine AW.region (AO.m I I (AO.p (Yp.cmpI (c := (r84.2 != 0)) I I I) I (AO.m I I (AO.known 127 I hg102 (AO.gt I I I (AO.m I I (AO.gt I I I (AO.p (Yp.cmpI (c := (r88.2 != 0)) I I I) I (AO.p (Yp.pickF I I) I (AO.m I I (AO.known 131 I hg103 (AO.gt I I I ?_))))))))))))
 refine AO.m I I (AO.gt I I I (AO.p (Yp.cmpI (c := (r92.2 != 0)) I I I) I (AO.p (Yp.pickF I I) I (AO.m I I (AO.known 135 I hg104 (AO.gf I I I (AO.gf I I I (AO.gf I I I (AO.gf I I I (AO.gf I I I (AO.p (Yp.pickT I I) I (AO.m I I ?_))))))))))))
 refine AO.gf I I I (AO.gf I I I (AO.gf I I I (AO.gf I I I (AO.gf I I I (AO.p (Yp.pickT I I) I (AO.m I I (AO.gf I I I (AO.gf I I I (AO.gf I I I (AO.gf I I I (AO.gf I I I (AO.gf I I I ?_))))))))))))
 refine AO.p (Yp.pickT I I) I (AO.nil ?_)
 exact ⟨_, _, ⟨I, I⟩, ⟨(get_b (by simp only [hg102, hg103, hg104, Bool.true_and, Bool.false_and, Bool.true_or, Bool.false_or, Bool.not_true, Bool.not_false, cond_true, cond_false])), I, I, I, trivial⟩, [4, 5, 6], I, by decide⟩
 rcases Bool.eq_false_or_eq_true (((r84.1.length : Int) != (r88.1.length : Int))) with hg105 | hg105
 refine AW.region (AO.m I I (AO.p (Yp.cmpI (c := (r84.2 != 0)) I I I) I (AO.m I I (AO.known 127 I hg102 (AO.gt I I I (AO.m I I (AO.gt I I I (AO.p (Yp.cmpI (c := (r88.2 != 0)) I I I) I (AO.p (Yp.pickF I I) I (AO.m I I (AO.known 131 I hg103 (AO.gt I I I ?_))))))))))))
 refine AO.m I I (AO.gt I I I (AO.p (Yp.cmpI (c := (r92.2 != 0)) I I I) I (AO.p (Yp.pickF I I) I (AO.m I I (AO.known 135 I hg104 (AO.gt I I I (AO.m I I (AO.gt I I I (AO.d (Yd.lenUM 4 I I I I) I (AO.gt I I I (AO.m I I (AO.gt I I I ?_))))))))))))
 refine AO.d (Yd.lenUM 5 I I I I) I (AO.gt I I I (AO.p (Yp.cmpI (c := ((r84.1.length : Int) != (r88.1.length : Int))) I I I) I (AO.p (Yp.pickF I I) I (AO.m I I (AO.known 142 I hg105 (AO.gf I I I (AO.gf I I I (AO.gf I I I (AO.gf I I I (AO.gf I I I (AO.p (Yp.pickT I I) I (AO.m I I ?_))))))))))))
 refine AO.gf I I I (AO.gf I I I (AO.gf I I I (AO.gf I I I (AO.gf I I I (AO.gf I I I (AO.p (Yp.pickT I I) I (AO.nil ?_)))))))
 exact ⟨_, _, ⟨I, I⟩, ⟨(get_b (by simp only [hg102, hg103, hg104, hg105, Bool.true_and, Bool.false_and, Bool.true_or, Bool.false_or, Bool.not_true, Bool.not_false, cond_true, cond_false])), I, I, I, trivial⟩, [4, 5, 6], I, by decide⟩
 rcases Bool.eq_false_or_eq_true (((r84.1.length : Int) != (r92.1.length : Int))) with hg106 | hg106
 refine AW.region (AO.m I I (AO.p (Yp.cmpI (c := (r84.2 != 0)) I I I) I (AO.m I I (AO.known 127 I hg102 (AO.gt I I I (AO.m I I (AO.gt I I I (AO.p (Yp.cmpI (c := (r88.2 != 0)) I I I) I (AO.p (Yp.pickF I I) I (AO.m I I (AO.known 131 I hg103 (AO.gt I I I ?_))))))))))))
 refine AO.m I I (AO.gt I I I (AO.p (Yp.cmpI (c := (r92.2 != 0)) I I I) I (AO.p (Yp.pickF I I) I (AO.m I I (AO.known 135 I hg104 (AO.gt I I I (AO.m I I (AO.gt I I I (AO.d (Yd.lenUM 4 I I I I) I (AO.gt I I I (AO.m I I (AO.gt I I I ?_))))))))))))
 refine AO.d (Yd.lenUM 5 I I I I) I (AO.gt I I I (AO.p (Yp.cmpI (c := ((r84.1.length : Int) != (r88.1.length : Int))) I I I) I (AO.p (Yp.pickF I I) I (AO.m I I (AO.known 142 I hg105 (AO.gt I I I (AO.m I I (AO.gt I I I (AO.d (Yd.lenUM 4 I I I I) I (AO.gt I I I (AO.m I I (AO.gt I I I ?_))))))))))))
 refine AO.d (Yd.lenUM 6 I I I I) I (AO.gt I I I (AO.p (Yp.cmpI (c := ((r84.1.length : Int) != (r92.1.length : Int))) I I I) I (AO.p (Yp.pickF I I) I (AO.m I I (AO.known 149 I hg106 (AO.gf I I I (AO.gf I I I (AO.gf I I I (AO.gf I I I (AO.gf I I I (AO.gf I I I (AO.p (Yp.pickT I I) I ?_))))))))))))
 refine AO.nil ?_
 exact ⟨_, _, ⟨I, I⟩, ⟨(get_b (by simp only [hg102, hg103, hg104, hg105, hg106, Bool.true_and, Bool.false_and, Bool.true_or, Bool.false_or, Bool.not_true, Bool.not_false, cond_true, cond_false])), I, I, I, trivial⟩, [4, 5, 6], I, by decide⟩
 refine AW.region (AO.m I I (AO.p (Yp.cmpI (c := (r84.2 != 0)) I I I) I (AO.m I I (AO.known 127 I hg102 (AO.gt I I I (AO.m I I (AO.gt I I I (AO.p (Yp.cmpI (c := (r88.2 != 0)) I I I) I (AO.p (Yp.pickF I I) I (AO.m I I (AO.known 131 I hg103 (AO.gt I I I ?_))))))))))))
 refine AO.m I I (AO.gt I I I (AO.p (Yp.cmpI (c := (r92.2 != 0)) I I I) I (AO.p (Yp.pickF I I) I (AO.m I I (AO.known 135 I hg104 (AO.gt I I I (AO.m I I (AO.gt I I I (AO.d (Yd.lenUM 4 I I I I) I (AO.gt I I I (AO.m I I (AO.gt I I I ?_))))))))))))
 refine AO.d (Yd.lenUM 5 I I I I) I (AO.gt I I I (AO.p (Yp.cmpI (c := ((r84.1.length : Int) != (r88.1.length : Int))) I I I) I (AO.p (Yp.pickF I I) I (AO.m I I (AO.known 142 I hg105 (AO.gt I I I (AO.m I I (AO.gt I I I (AO.d (Yd.lenUM 4 I I I I) I (AO.gt I I I (AO.m I I (AO.gt I I I ?_))))))))))))
 refine AO.d (Yd.lenUM 6 I I I I) I (AO.gt I I I (AO.p (Yp.cmpI (c := ((r84.1.length : Int) != (r92.1.length : Int))) I I I) I (AO.p (Yp.pickF I I) I (AO.m I I (AO.known 149 I hg106 (AO.gt I I I (AO.m I I (AO.gt I I I (AO.d (Yd.lenUM 4 I I I I) I (AO.gt I I I (AO.p (Yp.fieldPtr I I I I I I) I (AO.gt I I I ?_))))))))))))
 refine AO.d (Yd.loadO 0 0 1 I I I I I (y := .list 7 (r7.1.Segments.map Segment.row)) I) I (AO.gt I I I (AO.p (Yp.lenM I I I) I (AO.gt I I I (AO.p (Yp.cmpI (c := ((r84.1.length : Int) != (r7.1.Segments.length : Int))) I I I) I (AO.p (Yp.pickF I I) I (AO.nil ?_))))))
 exact ⟨_, _, ⟨I, I⟩, ⟨(get_b (by simp only [hg102, hg103, hg104, hg105, hg106, Bool.true_and, Bool.false_and, Bool.true_or, Bool.false_or, Bool.not_true, Bool.not_false, cond_true, cond_false])), I, I, I, trivial⟩, [4, 5, 6], I, by decide⟩
 rintro s ob ⟨rfl, rfl⟩
 refine AW.cond I I ?_ ?_
 intro hc107
 replace h := ife_t hc107 h
 refine AW.seq (AW.region (AO.a I I (AO.nil (AW.ghost (Ghost.pick [] (K := []) I (by decide)) ?_))))
 obtain rfl := Option.some.inj h
 refine AW.ret ?_
 exact ⟨.inr I, [_], [], ⟨I, trivial⟩, sl_n, ⟨I, I⟩⟩
 intro hc107
 replace h := ife_f hc107 h
 refine AW.skip ?_
 subst hy95
 refine AW.cutX (fun s ob => ∃ (j143 : Unit), L.law22_SurgeThird.J4 j143 = some r ∧ s = [] ∧ ob = []) [] trivial ?_ ?_
 refine AW.seqG (fun y146 hy146 => (AW.region (AO.m I I (AO.d (Yd.lenUM 0 I I I I) I (AO.m I I (AO.nil ?_))))))
 subst hy146
 refine AW.block (AW.usMax 0 I (fun hm149 => ?_))
 replace hm149 : r84.1.length ≤ 9223372036854775806 := by rw [List.length_map] at hm149; omega
 obtain ⟨o179, hL180, hR181⟩ := ob_some h
 clear h
 refine AW.forIX hL180 [(9, _), (11, _), (13, _), (158, _)] ⟨I, I, I, I, trivial⟩ (fun (k147 : Nat) (st165 : Unit) s ob => s = [(159, .v (.int .i64 (k147 : Int)))] ∧ ob = [.us v86 3 1 (r84.1.map rI), .us v90 3 1 (r88.1.map rI), .us v94 3 1 (r92.1.map rI)]) ⟨I, I⟩ ⟨I, trivial⟩ ⟨[0, 1, 2], I, by decide⟩ ?_ ?_
 rintro k147 st165 r183 s ob hk148 ⟨rfl, rfl⟩ h hb182
 unfold L.law22_SurgeThird.B5 at h
 have hk148t : decide ((k147 : Int) < (r84.1.length : Int)) = true := by simp; omega
 refine AW.seqG (fun y184 hy184 => (AW.region (AO.p (Yp.cmpI (c := decide ((k147 : Int) < (r84.1.length : Int))) I I I) I (AO.nil ?_))))
 subst hy184
 refine AW.seqG (fun y185 hy185 => (AW.condK (v := true) I hk148t (AW.skip ?_)))
 subst hy185
 refine AW.seq (AW.block (AW.seqG (fun y186 hy186 => (AW.region (AO.m I I (AO.a I I (AO.nil ?_)))))))
 subst hy186
 refine AW.seq ?_
 obtain ⟨p187, hp188, h⟩ := ob_some h
 obtain ⟨hp188i, hp188x⟩ := ix_some hp188
 obtain ⟨p189, hp190, h⟩ := ob_some h
 obtain ⟨hp190i, hp190x⟩ := ix_some hp190
 obtain ⟨p191, hp192, h⟩ := ob_some h
 obtain ⟨hp192i, hp192x⟩ := ix_some hp192
 refine AW.form 1 p187.1 I hp188x (fun hf193 => (AW.form 2 p189.1 I hp190x (fun hf194 => (AW.form 0 p191.1 I hp192x (fun hf195 => (AW.regionD (.still 0 (.still 1 (.still 2 (.still 3 (.still 4 (.still 5 (.still 6 (.still 7 (.still 8 (.still 9 (.still 10 (.still 11 (.still 12 (.still 13 .nil)))))))))))))) [1, 2, 0] [_, _, _] (by kernel_rfl) I (AP.op I (Yp.move I) I (AP.op I (Yp.move I) I (AP.op I (Yp.indexUf (m := p187.1) I I I I I hf193 I hp188i hp188x) I (AP.o I (Yd.loadU 0 p187.1 0 I I I (map_get hp188x) I (y := .v (.int .i64 p187.2)) I) I (AP.op I (Yp.move I) I (AP.op I (Yp.move I) I (AP.op I (Yp.indexUf (m := p189.1) I I I I I hf194 I hp190i hp190x) I (AP.o I (Yd.loadU 1 p189.1 0 I I I (map_get hp190x) I (y := .v (.int .i64 p189.2)) I) I (AP.op I (Yp.binI (c := wr (p187.2 + p189.2)) I I I) I ?_)))))))))))))))
 refine AP.op I (Yp.move I) I (AP.op I (Yp.move I) I (AP.op I (Yp.indexUf (m := p191.1) I I I I I hf195 I hp192i hp192x) I (AP.o I (Yd.loadU 2 p191.1 0 I I I (map_get hp192x) I (y := .v (.int .i64 p191.2)) I) I (AP.op I (Yp.cmpI (c := decide ((wr (p187.2 + p189.2)) < p191.2)) I I I) I (AP.ofAO (AO.nil (AW.cond I I ?_ ?_)))))))
 intro hc196
 replace h := ife_t hc196 h
 refine AW.seq (AW.region (AO.a I I (AO.nil ?_)))
 obtain rfl := hb182 _ (Option.some.inj h).symm
 replace h := hR181
 replace h := se_r h
 refine AW.ghost (Ghost.pick [] (K := []) I (by decide)) ?_
 obtain rfl := Option.some.inj h
 refine AW.ret ?_
 exact ⟨.inr I, [_], [], ⟨I, trivial⟩, sl_n, ⟨I, I⟩⟩
 intro hc196
 replace h := ife_f hc196 h
 refine AW.skip (AW.region (AO.p (Yp.binI (c := ((k147 + 1 : Nat) : Int)) I I (cast_wr hk148 hm149)) I (AO.m I I ?_)))
 obtain rfl := Option.some.inj h
 refine AO.nil ?_
 exact ⟨_, _, _, I, ⟨I, I⟩, ⟨I, I, I, I, I, trivial⟩, [0, 1, 2], I, by decide⟩
 rintro st165 s ob ⟨rfl, rfl⟩ he
 subst he
 have h := se_l hR181
 have hk148f : decide (((r84.1.length : Nat) : Int) < (r84.1.length : Int)) = false := by simp
 refine AW.seqG (fun y197 hy197 => (AW.region (AO.p (Yp.cmpI (c := decide (((r84.1.length : Nat) : Int) < (r84.1.length : Int))) I I I) I (AO.nil ?_))))
 subst hy197
 refine AW.seqG (fun y198 hy198 => (AW.condK (v := false) I hk148f (AW.exit ?_)))
 exact ⟨_, _, ⟨(), h, I, I⟩, trivial, [], I, by decide⟩
 rintro s ob ⟨j143, h, rfl, rfl⟩
 unfold L.law22_SurgeThird.J4 at h
 refine AW.seq ?_
 obtain ⟨r144, hx145, h⟩ := ob_some h
 refine AW.region (AO.act [] I (AX.callL I (.refl _) I I (.rest _) I (L.law22_awake_ok  _ hx145) (dst_some I) (by rintro _ _ ⟨rfl, _⟩; rfl) ?_))
 rintro _ ⟨_, rfl, -⟩
 refine AO.a I I (AO.nil ?_)
 obtain rfl := Option.some.inj h
 refine AW.ret ?_
 exact ⟨.inr I, [_], [], ⟨I, trivial⟩, sl_n, ⟨I, I⟩⟩

end Go.Proofs.Ytndfiddakngjdaa
