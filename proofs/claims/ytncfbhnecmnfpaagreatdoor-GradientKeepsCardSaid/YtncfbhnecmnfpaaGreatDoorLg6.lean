/- Walks that show what functions of the program compute; printed by a program of ours. No condition. -/
import Derived.Test.YtncfbhnecmnfpaaGreatDoorLg3
import Derived.Test.YtncfbhnecmnfpaaGreatDoorLg4
namespace Go.Proofs.YtncfbhnecmnfpaaGreatDoor
open Go.Aw
set_option linter.unusedVariables false
set_option linter.unusedSimpArgs false
set_option maxRecDepth 100000
set_option maxHeartbeats 4000000

theorem L.law19_bounds_ok (b0 : Nat) (d_0 : batchlinekeep_Src) (r : Bounds × batchlinekeep_Src) (h : L.law19_bounds d_0 = some r) : ACalls Tryz.env 11 [.v (.pointer (some ⟨b0, 0, none⟩))] [.arr b0 78 2 1 [batchlinekeep_Src.row d_0]] (Gives 1 (fun x os new => x = .agg (Bounds.row r.1) ∧ os = [.arr b0 78 2 1 [batchlinekeep_Src.row r.2]] ∧ new = [])) := by
 refine ACalls.of_body Tryz.func11 rfl rfl rfl (fun C hC => ?_)
 unfold L.law19_bounds at h
 refine AW.seqG (fun y1 hy1 => (AW.region (AO.act [] I (AX.alloc (cs := [.v (.int .i64 0), .v (.int .i64 0)]) (m := 2) I I I I I (dst_some I) (fun b2 => (AO.nil ?_))))))
 subst hy1
 refine AW.seqG (fun y3 hy3 => ?_)
 obtain ⟨r5, hx6, h⟩ := ob_some h
 refine AW.region (AO.q 1 I (AO.act [] I (AX.lt 1 (([0, 300000, 5000000, (-1000)] : List Int).map rI) (AO.act [0] I (AX.cg [0] (L.keep_Src_Pick_ok b0 d_0 ([0, 300000, 5000000, (-1000)] : List Int) _ hx6) ?_)))))
 rintro _ _ _ - ⟨rfl, rfl, rfl⟩
 refine AO.q 1 I (AO.nil ?_)
 subst hy3
 refine AW.seq ?_
 obtain ⟨r7, hx8, h⟩ := ob_some h
 obtain ⟨r9, hx10, h⟩ := ob_some h
 refine AW.region (AO.q 3 I (AO.act [0] I (AX.cg [0] (L.keep_Src_N_ok b0 r5.2 3 _ hx8) ?_)))
 rintro _ _ _ - ⟨rfl, rfl, rfl⟩
 refine AO.q 1 I (AO.act [0] I (AX.cg [0] (L.keep_Src_N_ok b0 r7.2 100 _ hx10) ?_))
 rintro _ _ _ - ⟨rfl, rfl, rfl⟩
 refine AO.q 2 I (AO.p (Yp.buildP (l := [.v (.int .i64 r5.1), .v (.int .i64 (wr (r5.1 + (wr (r7.1 * r9.1)))))]) Tryz.bld36 I) I (AO.act [1] I (AX.store 1 0 0 (es' := [[.v (.int .i64 r5.1), .v (.int .i64 (wr (r5.1 + (wr (r7.1 * r9.1)))))]]) I I I I I I I I (le_ble I) I I (AO.nil ?_))))
 obtain rfl := Option.some.inj h
 exact AW.ret ⟨.inr I, [_], [.arr b0 78 2 1 [batchlinekeep_Src.row r9.2]], ⟨⟨1, _, _, _, _, _, _, _, I, I, I, I, I⟩, trivial⟩, sl_c I (sl_n), ⟨[.arr b0 78 2 1 [batchlinekeep_Src.row r9.2]], [], I, I, I, I, I⟩⟩

theorem L.law19_GradientEncloses_ok (l_0 : List Int) (rate_1 : Int) (by_2 : Int) (r : Bool) (h : L.law19_GradientEncloses l_0 rate_1 by_2 = some r) : ACalls Tryz.env 3 [.list 1 (l_0.map rI), .v (.int .i16 rate_1), .v (.int .u16 by_2)] [] (fun x new => x = .v (.bool r) ∧ new = []) := by
 refine ACalls.of_body Tryz.func3 rfl rfl rfl (fun C hC => ?_)
 unfold L.law19_GradientEncloses at h
 refine AW.z I (AW.seqG (fun y2 hy2 => ?_))
 obtain ⟨r3, hx4, h⟩ := ob_some h
 refine AW.region (AO.q 1 I (AO.act [] I (AX.call0 I I I (L.keep_New_ok l_0 _ hx4) (dst_some I) ?_)))
 rintro _ _ ⟨b5, rfl, rfl⟩
 refine AO.q 1 I (AO.nil ?_)
 subst hy2
 refine AW.seqG (fun y6 hy6 => ?_)
 obtain ⟨r7, hx8, h⟩ := ob_some h
 refine AW.region (AO.q 1 I (AO.act [0] I (AX.cg [0] (L.law19_world_ok b5 r3 _ hx8) ?_)))
 rintro _ _ _ - ⟨rfl, rfl, rfl⟩
 refine AO.q 5 I (AO.act [] I (AX.alloc (cs := [.v (.string ⟨#[]⟩), .v (.int .i64 0), .v (.int .i64 0), .v (.int .i64 0), .v (.int .i64 0), .v (.int .i64 0), .v (.slice none 0 0)]) (m := 7) I I I I I (dst_some I) (fun b9 => (AO.act [1] I (AX.store 1 0 0 (es' := [Segment.row r7.1]) I I I I I I I I (le_ble I) I I (AO.q 3 I (AO.nil ?_)))))))
 subst hy6
 refine AW.seqG (fun y10 hy10 => (AW.region (AO.q 1 I (AO.p (Yp.convI (c := wr (rate_1)) I I I I I) I (AO.r 2 [.f 0 (.v (.int .i64 ((wr (rate_1)).tmod 1001)))] I ⟨Yp.yd (Yp.binI (c := ((wr (rate_1)).tmod 1001)) I I ⟨by decide, I⟩), trivial⟩ (AO.nil ?_))))))
 subst hy10
 refine AW.cutX (fun s ob => ∃ (j12 : Int), L.law19_GradientEncloses.J1 by_2 r7 j12 = some r ∧ s = [(12, .v (.int .i64 j12))] ∧ ob = [.arr b5 78 2 1 [batchlinekeep_Src.row r7.2.2.2.2], .arr b9 29 7 1 [Segment.row r7.1]]) [(2, _), (7, _), (8, _), (9, _), (10, _), (11, _)] ⟨I, I, I, I, I, I, trivial⟩ ?_ ?_
 refine AW.z I (AW.ch h I ?_ ?_)
 intro hc235 h
 refine AW.t I ?_
 exact lg ⟨1, h, I, I⟩ [0, 1]
 intro hc235 h
 refine AW.skip ?_
 exact lg ⟨((wr (rate_1)).tmod 1001), h, I, I⟩ [0, 1]
 rintro s ob ⟨j12, h, rfl, rfl⟩
 unfold L.law19_GradientEncloses.J1 at h
 refine AW.seqG (fun y13 hy13 => ?_)
 obtain ⟨r14, hx15, h⟩ := ob_some h
 refine AW.region (AO.q 1 I (AO.act [0] I (AX.cg [0] (L.law19_bounds_ok b5 r7.2.2.2.2 _ hx15) ?_)))
 rintro _ _ _ - ⟨rfl, rfl, rfl⟩
 refine AO.act [] I (AX.alloc (cs := [.v (.int .i64 0), .v (.int .i64 0)]) (m := 2) I I I I I (dst_some I) (fun b16 => (AO.act [2] I (AX.store 2 0 0 (es' := [Bounds.row r14.1]) I I I I I I I I (le_ble I) I I (AO.nil ?_)))))
 subst hy13
 refine AW.seqG (fun y17 hy17 => ?_)
 obtain ⟨r18, hx19, h⟩ := ob_some h
 refine AW.region (AO.r 6 [.o 0 1, .o 5 2] I ⟨I, I, trivial⟩ (AO.act [] I (AX.call0 I I I (L.gradient_Along_ok r7.1 r7.2.1 r7.2.2.1 r7.2.2.2.1 j12 r14.1 _ hx19) (dst_some I) ?_)))
 rintro _ _ ⟨v20, rfl, rfl⟩
 refine AO.q 5 I (AO.nil ?_)
 subst hy17
 refine AW.seqG (fun y21 hy21 => ?_)
 obtain ⟨r22, hx23, h⟩ := ob_some h
 refine AW.region (AO.r 8 [.o 0 1, .o 6 2] I ⟨I, I, trivial⟩ (AO.p (Yp.convI (c := wr (by_2)) I I I I I) I (AO.r 4 [.o 2 2] I ⟨I, trivial⟩ (AO.p (Yp.convI (c := wr (by_2)) I I I I I) I (AO.q 1 I (AO.p (Yp.buildP (l := [.v (.int .i64 (wr (r14.1.Low + (wr (by_2))))), .v (.int .i64 (wr (r14.1.High + (wr (by_2)))))]) Tryz.bld36 I) I (AO.act [] I (AX.call0 I I I (L.gradient_Along_ok r7.1 r7.2.1 r7.2.2.1 r7.2.2.2.1 j12 (⟨wr (r14.1.Low + (wr (by_2))), wr (r14.1.High + (wr (by_2)))⟩ : Bounds) _ hx23) (dst_some I) ?_))))))))
 rintro _ _ ⟨v24, rfl, rfl⟩
 refine AO.q 5 I (AO.nil ?_)
 subst hy21
 refine AW.seqG (fun y25 hy25 => (AW.cutX (fun s ob => s = [(84, .v (.bool ((r18.2 != 0) || ((r22.2 != 0) || (((r18.1.length : Int) != (r22.1.length : Int)) || decide ((r18.1.length : Int) < 2))))))] ∧ ob = [.arr b16 36 2 1 [Bounds.row r14.1], .us v20 43 3 (r18.1.map Level.row), .us v24 43 3 (r22.1.map Level.row)]) [(2, _), (12, _), (13, _), (14, _), (16, _)] ⟨I, I, I, I, I, trivial⟩ ?_ ?_))
 rcases Bool.eq_false_or_eq_true ((r18.2 != 0)) with hg30 | hg30
 refine AW.region (AO.q 3 I (AO.known 69 I hg30 (AO.q 15 I (AO.nil ?_))))
 exact lf ⟨I, I⟩ ⟨(get_b (by simp only [hg30, bz])), I, I, I, I, I, trivial⟩ [2, 3, 4] I
 rcases Bool.eq_false_or_eq_true ((r22.2 != 0)) with hg31 | hg31
 refine AW.region (AO.q 3 I (AO.known 69 I hg30 (AO.q 4 I (AO.known 73 I hg31 (AO.q 11 I (AO.nil ?_))))))
 exact lf ⟨I, I⟩ ⟨(get_b (by simp only [hg30, hg31, bz])), I, I, I, I, I, trivial⟩ [2, 3, 4] I
 rcases Bool.eq_false_or_eq_true (((r18.1.length : Int) != (r22.1.length : Int))) with hg32 | hg32
 refine AW.region (AO.q 3 I (AO.known 69 I hg30 (AO.q 4 I (AO.known 73 I hg31 (AO.q 1 I (AO.gt I I I (AO.d (Yd.lenUM 3 I I I I) I (AO.q 1 I (AO.gt I I I (AO.d (Yd.lenUM 4 I I I I) I (AO.q 3 I (AO.known 80 I hg32 ?_))))))))))))
 refine AO.q 4 I (AO.nil ?_)
 exact lf ⟨I, I⟩ ⟨(get_b (by simp only [hg30, hg31, hg32, bz])), I, I, I, I, I, trivial⟩ [2, 3, 4] I
 refine AW.region (AO.q 3 I (AO.known 69 I hg30 (AO.q 4 I (AO.known 73 I hg31 (AO.q 1 I (AO.gt I I I (AO.d (Yd.lenUM 3 I I I I) I (AO.q 1 I (AO.gt I I I (AO.d (Yd.lenUM 4 I I I I) I (AO.q 3 I (AO.known 80 I hg32 ?_))))))))))))
 refine AO.q 1 I (AO.gt I I I (AO.d (Yd.lenUM 3 I I I I) I (AO.q 2 I (AO.nil ?_))))
 exact lf ⟨I, I⟩ ⟨(get_b (by simp only [hg30, hg31, hg32, bz])), I, I, I, I, I, trivial⟩ [2, 3, 4] I
 rintro s ob ⟨rfl, rfl⟩
 refine AW.ch h I ?_ ?_
 intro hc33 h
 refine AW.z I (AW.ghost (Ghost.pick [] (K := []) I (by decide)) ?_)
 obtain rfl := Option.some.inj h
 exact AW.ret ⟨.inr I, [_], [], ⟨I, trivial⟩, sl_n, I, I⟩
 intro hc33 h
 refine AW.skip ?_
 subst hy25
 refine AW.cutX (fun s ob => ∃ (j105 : Unit), L.law19_GradientEncloses.J2 j105 = some r ∧ s = [] ∧ ob = []) [] trivial ?_ ?_
 refine AW.seqG (fun y108 hy108 => (AW.region (AO.q 1 I (AO.d (Yd.lenUM 1 I I I I) I (AO.q 1 I (AO.nil ?_))))))
 subst hy108
 refine AW.block (AW.usMax 1 I (fun hm111 => ?_))
 replace hm111 : r18.1.length ≤ 9223372036854775806 := by rw [List.length_map] at hm111; omega
 obtain ⟨o177, hL178, hR179⟩ := ob_some h
 clear h
 refine AW.forIX hL178 [(2, _), (12, _), (13, _), (14, _), (16, _), (86, _)] ⟨I, I, I, I, I, I, trivial⟩ (fun (k109 : Nat) (st145 : Unit) s ob => s = [(87, .v (.int .i64 (k109 : Int)))] ∧ ob = [.arr b16 36 2 1 [Bounds.row r14.1], .us v20 43 3 (r18.1.map Level.row), .us v24 43 3 (r22.1.map Level.row)]) ⟨I, I⟩ ⟨I, trivial⟩ ⟨[0, 1, 2], I, by decide⟩ ?_ ?_
 rintro k109 st145 r181 s ob hk110 ⟨rfl, rfl⟩ h hb180
 unfold L.law19_GradientEncloses.B3 at h
 have hk110t : decide ((k109 : Int) < (r18.1.length : Int)) = true := decide_eq_true (by omega)
 refine AW.z I (AW.seqG (fun y183 hy183 => (AW.condK (v := true) I hk110t (AW.skip ?_))))
 subst hy183
 refine AW.seq (AW.block (AW.z I (AW.z I (AW.cutX (fun s ob => ∃ (j187 : Int), L.law19_GradientEncloses.J4 by_2 r14 r18 r22 k109 j187 = some r181 ∧ s = [(19, .v (.int .i64 j187))] ∧ ob = [.arr b16 36 2 1 [Bounds.row r14.1], .us v20 43 3 (r18.1.map Level.row), .us v24 43 3 (r22.1.map Level.row)]) [(2, _), (12, _), (13, _), (14, _), (16, _), (18, _), (86, _), (87, _)] ⟨I, I, I, I, I, I, I, I, trivial⟩ ?_ ?_))))
 refine AW.z I (AW.ch h I ?_ ?_)
 intro hc231 h
 refine AW.region (AO.q 1 I (AO.d (Yd.lenUM 1 I I I I) I (AO.q 4 I (AO.nil ?_))))
 exact lg ⟨wr ((wr ((r18.1.length : Int) - 1)) - (k109 : Int)), h, I, I⟩ [0, 1, 2]
 intro hc231 h
 refine AW.skip ?_
 exact lg ⟨(k109 : Int), h, I, I⟩ [0, 1, 2]
 rintro s ob ⟨j187, h, rfl, rfl⟩
 unfold L.law19_GradientEncloses.J4 at h
 refine AW.seqG (fun y188 hy188 => ?_)
 obtain ⟨p189, hp190, h⟩ := ob_some h
 obtain ⟨hp190i, hp190x⟩ := ix_some hp190
 refine AW.form 1 p189.1 I hp190x (fun hf191 => (AW.form 1 p189.1 I hp190x (fun hf192 => (AW.rd (pd 14 0 []) [1] [_] I (AP.q 2 I (AP.op I (Yp.indexUf (m := p189.1) I I I I I hf191 I hp190i hp190x) I (AP.q 2 I (AP.o I (Yd.loadU 0 p189.1 2 I I I (map_get hp190x) I (y := .v (.int .i64 p189.2.Bounds.High)) I) I (AP.q 2 I (AP.op I (Yp.indexUf (m := p189.1) I I I I I hf192 I hp190i hp190x) I (AP.q 2 I (AP.o I (Yd.loadU 0 p189.1 1 I I I (map_get hp190x) I (y := .v (.int .i64 p189.2.Bounds.Low)) I) I (AP.q 2 I (AP.ofAO ?_))))))))))))))
 refine AO.nil ?_
 subst hy188
 refine AW.cutX (fun s ob => ∃ (j211 : Bool), L.law19_GradientEncloses.J5 j211 = some r181 ∧ s = [(178, .v (.bool j211))] ∧ ob = [.arr b16 36 2 1 [Bounds.row r14.1], .us v20 43 3 (r18.1.map Level.row), .us v24 43 3 (r22.1.map Level.row)]) [(2, _), (12, _), (13, _), (14, _), (16, _), (86, _), (87, _)] ⟨I, I, I, I, I, I, I, trivial⟩ ?_ ?_
 rcases Bool.eq_false_or_eq_true (decide ((wr (p189.2.Bounds.High - p189.2.Bounds.Low)) < (wr (r14.1.High - r14.1.Low)))) with hg213 | hg213
 replace h := ife_t hg213 h
 refine AW.rd (pd 68 0 []) [0] [_] I (AP.r 8 [.o 2 0, .o 4 0] I ⟨I, I, trivial⟩ (AP.known 118 I hg213 (AP.q 60 I (AP.ofAO (AO.nil ?_)))))
 exact lg ⟨true, h, I, I⟩ [0, 1, 2]
 replace h := ife_f hg213 h
 rcases Bool.eq_false_or_eq_true (decide ((wr (p189.2.Bounds.High - p189.2.Bounds.Low)) > (wr ((wr (r14.1.High - r14.1.Low)) + (wr (2 * j187)))))) with hg214 | hg214
 replace h := ife_t hg214 h
 refine AW.rd (pd 68 0 []) [0] [_] I (AP.r 8 [.o 2 0, .o 4 0] I ⟨I, I, trivial⟩ (AP.known 118 I hg213 (AP.r 12 [.o 2 0, .o 4 0] I ⟨I, I, trivial⟩ (AP.known 130 I hg214 (AP.q 48 I (AP.ofAO (AO.nil ?_)))))))
 exact lg ⟨true, h, I, I⟩ [0, 1, 2]
 replace h := ife_f hg214 h
 obtain ⟨p215, hp216, h⟩ := ob_some h
 obtain ⟨hp216i, hp216x⟩ := ix_some hp216
 rcases Bool.eq_false_or_eq_true ((p215.2.Bounds.Low != (wr (p189.2.Bounds.Low + (wr (by_2)))))) with hg217 | hg217
 replace h := ife_t hg217 h
 refine AW.form 2 p215.1 I hp216x (fun hf218 => (AW.form 1 p189.1 I hp190x (fun hf219 => (AW.rd (pd 68 0 []) [0, 2, 1] [_, _, _] I (AP.r 8 [.o 2 0, .o 4 0] I ⟨I, I, trivial⟩ (AP.known 118 I hg213 (AP.r 12 [.o 2 0, .o 4 0] I ⟨I, I, trivial⟩ (AP.known 130 I hg214 (AP.q 2 I (AP.oldG I I I I ((Yp.indexUf (m := p215.1) I I I I I hf218 I hp216i hp216x).yd) (dst_some I) (AP.q 2 I (AP.oldG I I I I (Yd.loadU 1 p215.1 1 I I I (map_get hp216x) I (y := .v (.int .i64 p215.2.Bounds.Low)) I) (dst_some I) (AP.q 2 I (AP.oldG I I I I ((Yp.indexUf (m := p189.1) I I I I I hf219 I hp190i hp190x).yd) (dst_some I) ?_))))))))))))))
 refine AP.q 2 I (AP.oldG I I I I (Yd.loadU 2 p189.1 1 I I I (map_get hp190x) I (y := .v (.int .i64 p189.2.Bounds.Low)) I) (dst_some I) (AP.q 1 I (AP.oldG I I I I ((Yp.convI (c := wr (by_2)) I I I I I).yd) (dst_some I) (AP.q 4 I (AP.known 148 I hg217 (AP.q 30 I (AP.ofAO (AO.nil ?_))))))))
 exact lg ⟨true, h, I, I⟩ [0, 1, 2]
 replace h := ife_f hg217 h
 rcases Bool.eq_false_or_eq_true ((p215.2.Bounds.High != (wr (p189.2.Bounds.High + (wr (by_2)))))) with hg220 | hg220
 replace h := ife_t hg220 h
 refine AW.form 2 p215.1 I hp216x (fun hf221 => (AW.form 1 p189.1 I hp190x (fun hf222 => (AW.form 2 p215.1 I hp216x (fun hf223 => (AW.form 1 p189.1 I hp190x (fun hf224 => (AW.rd (pd 68 0 []) [0, 2, 1] [_, _, _] I (AP.r 8 [.o 2 0, .o 4 0] I ⟨I, I, trivial⟩ (AP.known 118 I hg213 (AP.r 12 [.o 2 0, .o 4 0] I ⟨I, I, trivial⟩ (AP.known 130 I hg214 (AP.q 2 I (AP.oldG I I I I ((Yp.indexUf (m := p215.1) I I I I I hf221 I hp216i hp216x).yd) (dst_some I) (AP.q 2 I (AP.oldG I I I I (Yd.loadU 1 p215.1 1 I I I (map_get hp216x) I (y := .v (.int .i64 p215.2.Bounds.Low)) I) (dst_some I) ?_))))))))))))))))
 refine AP.q 2 I (AP.oldG I I I I ((Yp.indexUf (m := p189.1) I I I I I hf222 I hp190i hp190x).yd) (dst_some I) (AP.q 2 I (AP.oldG I I I I (Yd.loadU 2 p189.1 1 I I I (map_get hp190x) I (y := .v (.int .i64 p189.2.Bounds.Low)) I) (dst_some I) (AP.q 1 I (AP.oldG I I I I ((Yp.convI (c := wr (by_2)) I I I I I).yd) (dst_some I) (AP.q 4 I (AP.known 148 I hg217 (AP.q 2 I (AP.oldG I I I I ((Yp.indexUf (m := p215.1) I I I I I hf223 I hp216i hp216x).yd) (dst_some I) (AP.q 2 I (AP.oldG I I I I (Yd.loadU 1 p215.1 2 I I I (map_get hp216x) I (y := .v (.int .i64 p215.2.Bounds.High)) I) (dst_some I) (AP.q 2 I ?_))))))))))))
 refine AP.oldG I I I I ((Yp.indexUf (m := p189.1) I I I I I hf224 I hp190i hp190x).yd) (dst_some I) (AP.q 2 I (AP.oldG I I I I (Yd.loadU 2 p189.1 2 I I I (map_get hp190x) I (y := .v (.int .i64 p189.2.Bounds.High)) I) (dst_some I) (AP.q 1 I (AP.oldG I I I I ((Yp.convI (c := wr (by_2)) I I I I I).yd) (dst_some I) (AP.q 4 I (AP.known 166 I hg220 (AP.q 12 I (AP.ofAO (AO.nil ?_)))))))))
 exact lg ⟨true, h, I, I⟩ [0, 1, 2]
 replace h := ife_f hg220 h
 refine AW.form 2 p215.1 I hp216x (fun hf225 => (AW.form 1 p189.1 I hp190x (fun hf226 => (AW.form 2 p215.1 I hp216x (fun hf227 => (AW.form 1 p189.1 I hp190x (fun hf228 => (AW.form 1 p189.1 I hp190x (fun hf229 => (AW.form 2 p215.1 I hp216x (fun hf230 => (AW.rd (pd 68 0 []) [0, 2, 1] [_, _, _] I (AP.r 8 [.o 2 0, .o 4 0] I ⟨I, I, trivial⟩ (AP.known 118 I hg213 (AP.r 12 [.o 2 0, .o 4 0] I ⟨I, I, trivial⟩ (AP.known 130 I hg214 (AP.q 2 I (AP.oldG I I I I ((Yp.indexUf (m := p215.1) I I I I I hf225 I hp216i hp216x).yd) (dst_some I) ?_))))))))))))))))))
 refine AP.q 2 I (AP.oldG I I I I (Yd.loadU 1 p215.1 1 I I I (map_get hp216x) I (y := .v (.int .i64 p215.2.Bounds.Low)) I) (dst_some I) (AP.q 2 I (AP.oldG I I I I ((Yp.indexUf (m := p189.1) I I I I I hf226 I hp190i hp190x).yd) (dst_some I) (AP.q 2 I (AP.oldG I I I I (Yd.loadU 2 p189.1 1 I I I (map_get hp190x) I (y := .v (.int .i64 p189.2.Bounds.Low)) I) (dst_some I) (AP.q 1 I (AP.oldG I I I I ((Yp.convI (c := wr (by_2)) I I I I I).yd) (dst_some I) (AP.q 4 I (AP.known 148 I hg217 (AP.q 2 I (AP.oldG I I I I ((Yp.indexUf (m := p215.1) I I I I I hf227 I hp216i hp216x).yd) (dst_some I) (AP.q 2 I ?_))))))))))))
 refine AP.oldG I I I I (Yd.loadU 1 p215.1 2 I I I (map_get hp216x) I (y := .v (.int .i64 p215.2.Bounds.High)) I) (dst_some I) (AP.q 2 I (AP.oldG I I I I ((Yp.indexUf (m := p189.1) I I I I I hf228 I hp190i hp190x).yd) (dst_some I) (AP.q 2 I (AP.oldG I I I I (Yd.loadU 2 p189.1 2 I I I (map_get hp190x) I (y := .v (.int .i64 p189.2.Bounds.High)) I) (dst_some I) (AP.q 1 I (AP.oldG I I I I ((Yp.convI (c := wr (by_2)) I I I I I).yd) (dst_some I) (AP.q 4 I (AP.known 166 I hg220 (AP.q 2 I (AP.oldG I I I I ((Yp.indexUf (m := p189.1) I I I I I hf229 I hp190i hp190x).yd) (dst_some I) (AP.q 1 I (AP.oldG I I I I (Yd.loadU 2 p189.1 0 I I I (map_get hp190x) I (y := .v (.int .i64 p189.2.At)) I) (dst_some I) ?_))))))))))))
 refine AP.q 2 I (AP.oldG I I I I ((Yp.indexUf (m := p215.1) I I I I I hf230 I hp216i hp216x).yd) (dst_some I) (AP.q 1 I (AP.oldG I I I I (Yd.loadU 1 p215.1 0 I I I (map_get hp216x) I (y := .v (.int .i64 p215.2.At)) I) (dst_some I) (AP.q 2 I (AP.ofAO (AO.nil ?_))))))
 exact lg ⟨(p189.2.At != p215.2.At), h, I, I⟩ [0, 1, 2]
 rintro s ob ⟨j211, h, rfl, rfl⟩
 unfold L.law19_GradientEncloses.J5 at h
 refine AW.ch h I ?_ ?_
 intro hc212 h
 refine AW.z I ?_
 obtain rfl := hb180 _ (Option.some.inj h).symm
 replace h := hR179
 replace h := se_r h
 refine AW.ghost (Ghost.pick [] (K := []) I (by decide)) ?_
 obtain rfl := Option.some.inj h
 exact AW.ret ⟨.inr I, [_], [], ⟨I, trivial⟩, sl_n, I, I⟩
 intro hc212 h
 refine AW.skip (AW.region (AO.r 2 [.k 0 (k109 + 1 : Nat)] I ⟨cast_wr hk110 hm111, trivial⟩ ?_))
 obtain rfl := Option.some.inj h
 refine AO.nil ?_
 exact ⟨_, _, _, I, ⟨I, I⟩, ⟨I, I, I, I, I, I, I, trivial⟩, [0, 1, 2], I, by decide⟩
 rintro st145 s ob ⟨rfl, rfl⟩ he
 subst he
 have h := se_l hR179
 have hk110f : decide (((r18.1.length : Nat) : Int) < (r18.1.length : Int)) = false := by simp
 refine AW.z I (AW.seqG (fun y233 hy233 => (AW.condK (v := false) I hk110f (AW.exit ?_))))
 exact lg ⟨(), h, I, I⟩ []
 rintro s ob ⟨j105, h, rfl, rfl⟩
 unfold L.law19_GradientEncloses.J2 at h
 refine AW.seq ?_
 obtain ⟨r106, hx107, h⟩ := ob_some h
 refine AW.region (AO.c (L.law19_awake_ok  _ hx107) (AO.q 1 I (AO.nil ?_)))
 obtain rfl := Option.some.inj h
 exact AW.ret ⟨.inr I, [_], [], ⟨I, trivial⟩, sl_n, I, I⟩

end Go.Proofs.YtncfbhnecmnfpaaGreatDoor
