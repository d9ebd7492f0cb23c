/- Walks that show what functions of the program compute; printed by a program of ours. No condition. -/
import Derived.Test.YtncfbhnecmnfpaaGreatDoorLg3
import Derived.Test.YtncfbhnecmnfpaaGreatDoorLg4
namespace Go.Proofs.YtncfbhnecmnfpaaGreatDoor
open Go.Aw
set_option linter.unusedVariables false
set_option linter.unusedSimpArgs false
set_option maxRecDepth 100000
set_option maxHeartbeats 4000000

theorem L.law19_bounds_ok (b0 : Nat) (d_0 : batchlinekeep_Src) (r : Bounds × batchlinekeep_Src) (h : L.law19_bounds d_0 = some r) : ACalls Tryz.env 11 [.v (.pointer (some ⟨b0, 0, none⟩))] [.arr b0 78 2 1 [batchlinekeep_Src.row d_0]] (Gives 1 (fun x os new => x = .agg (Bounds.row r.1) ∧ os = [.arr b0 78 2 1 [batchlinekeep_Src.row r.2]] ∧ new = [])) := by
 refine ACalls.of_body Tryz.func11 rfl rfl rfl (fun C hC => ?_)
 unfold L.law19_bounds at h
 refine AW.seqG (fun y1 hy1 => (AW.region (AO.act [] I (AX.alloc (cs := [.v (.int .i64 0), .v (.int .i64 0)]) (m := 2) I I I I I (dst_some I) (fun b2 => (AO.nil ?_))))))
 subst hy1
 refine AW.seqG (fun y3 hy3 => ?_)
 obtain ⟨r5, hx6, h⟩ := ob_some h
 refine AW.region (AO.q 1 I (AO.act [] I (AX.lt 1 (([0, 300000, 5000000, (-1000)] : List Int).map rI) (AO.act [0] I (AX.cg [0] (L.keep_Src_Pick_ok b0 d_0 ([0, 300000, 5000000, (-1000)] : List Int) _ hx6) ?_)))))
 rintro _ _ _ - ⟨rfl, rfl, rfl⟩
 refine AO.q 1 I (AO.nil ?_)
 subst hy3
 refine AW.seq ?_
 obtain ⟨r7, hx8, h⟩ := ob_some h
 obtain ⟨r9, hx10, h⟩ := ob_some h
 refine AW.region (AO.q 3 I (AO.act [0] I (AX.cg [0] (L.keep_Src_N_ok b0 r5.2 3 _ hx8) ?_)))
 rintro _ _ _ - ⟨rfl, rfl, rfl⟩
 refine AO.q 1 I (AO.act [0] I (AX.cg [0] (L.keep_Src_N_ok b0 r7.2 100 _ hx10) ?_))
 rintro _ _ _ - ⟨rfl, rfl, rfl⟩
 refine AO.q 2 I (AO.p (Yp.buildP (l := [.v (.int .i64 r5.1), .v (.int .i64 (wr (r5.1 + (wr (r7.1 * r9.1)))))]) Tryz.bld36 I) I (AO.act [1] I (AX.store 1 0 0 (es' := [[.v (.int .i64 r5.1), .v (.int .i64 (wr (r5.1 + (wr (r7.1 * r9.1)))))]]) I I I I I I I I (le_ble I) I I (AO.nil ?_))))
 obtain rfl := Option.some.inj h
 exact AW.ret ⟨.inr I, [_], [.arr b0 78 2 1 [batchlinekeep_Src.row r9.2]], ⟨⟨1, _, _, _, _, _, _, _, I, I, I, I, I⟩, trivial⟩, sl_c I (sl_n), ⟨[.arr b0 78 2 1 [batchlinekeep_Src.row r9.2]], [], I, I, I, I, I⟩⟩

theorem L.law19_GradientEncloses_ok (l_0 : List Int) (rate_1 : Int) (by_2 : Int) (r : Bool) (h : L.law19_GradientEncloses l_0 rate_1 by_2 = some r) : ACalls Tryz.env 3 [.list 1 (l_0.map rI), .v (.int .i16 rate_1), .v (.int .u16 by_2)] [] (fun x new => x = .v (.bool r) ∧ new = []) := by
 refine ACalls.of_body Tryz.func3 rfl rfl rfl (fun C hC => ?_)
 unfold L.law19_GradientEncloses at h
 refine AW.z I (AW.seqG (fun y2 hy2 => ?_))
 obtain ⟨r3, hx4, h⟩ := ob_some h
 refine AW.region (AO.q 1 I (AO.act [] I (AX.call0 I I I (L.keep_New_ok l_0 _ hx4) (dst_some I) ?_)))
 rintro _ _ ⟨b5, rfl, rfl⟩
 refine AO.q 1 I (AO.nil ?_)
 subst hy2
 refine AW.seqG (fun y6 hy6 => ?_)
 obtain ⟨r7, hx8, h⟩ := ob_some h
 refine AW.region (AO.q 1 I (AO.act [0] I (AX.cg [0] (L.law19_world_ok b5 r3 _ hx8) ?_)))
 rintro _ _ _ - ⟨v9, v10, v11, rfl, rfl, rfl⟩
 refine AO.q 5 I (AO.act [] I (AX.alloc (cs := [.v (.string ⟨#[]⟩), .v (.int .i64 0), .v (.int .i64 0), .v (.int .i64 0), .v (.int .i64 0), .v (.int .i64 0), .v (.slice none 0 0)]) (m := 7) I I I I I (dst_some I) (fun b12 => (AO.act [4] I (AX.store 4 0 0 (es' := [Segment.row r7.1]) I I I I I I I I (le_ble I) I I (AO.q 3 I (AO.nil ?_)))))))
 subst hy6
 refine AW.seqG (fun y13 hy13 => (AW.region (AO.q 1 I (AO.p (Yp.convI (c := wr (rate_1)) I I I I I) I (AO.r 2 [.f 0 (.v (.int .i64 ((wr (rate_1)).tmod 1001)))] I ⟨Yp.yd (Yp.binI (c := ((wr (rate_1)).tmod 1001)) I I ⟨by decide, I⟩), trivial⟩ (AO.nil ?_))))))
 subst hy13
 refine AW.cutX (fun s ob => ∃ (j15 : Int), L.law19_GradientEncloses.J1 by_2 r7 j15 = some r ∧ s = [(12, .v (.int .i64 j15))] ∧ ob = [.arr b5 78 2 1 [batchlinekeep_Src.row r7.2.2.2.2], .us v9 100 2 (r7.2.1.map Piece.row), .us v10 116 4 (r7.2.2.1.map Batch.row), .us v11 58 5 (r7.2.2.2.1.map Product.row), .arr b12 29 7 1 [Segment.row r7.1]]) [(2, _), (7, _), (8, _), (9, _), (10, _), (11, _)] ⟨I, I, I, I, I, I, trivial⟩ ?_ ?_
 refine AW.z I (AW.ch h I ?_ ?_)
 intro hc238 h
 refine AW.t I ?_
 exact lg ⟨1, h, I, I⟩ [0, 1, 2, 3, 4]
 intro hc238 h
 refine AW.skip ?_
 exact lg ⟨((wr (rate_1)).tmod 1001), h, I, I⟩ [0, 1, 2, 3, 4]
 rintro s ob ⟨j15, h, rfl, rfl⟩
 unfold L.law19_GradientEncloses.J1 at h
 refine AW.seqG (fun y16 hy16 => ?_)
 obtain ⟨r17, hx18, h⟩ := ob_some h
 refine AW.region (AO.q 1 I (AO.act [0] I (AX.cg [0] (L.law19_bounds_ok b5 r7.2.2.2.2 _ hx18) ?_)))
 rintro _ _ _ - ⟨rfl, rfl, rfl⟩
 refine AO.act [] I (AX.alloc (cs := [.v (.int .i64 0), .v (.int .i64 0)]) (m := 2) I I I I I (dst_some I) (fun b19 => (AO.act [5] I (AX.store 5 0 0 (es' := [Bounds.row r17.1]) I I I I I I I I (le_ble I) I I (AO.nil ?_)))))
 subst hy16
 refine AW.seqG (fun y20 hy20 => ?_)
 obtain ⟨r21, hx22, h⟩ := ob_some h
 refine AW.region (AO.r 6 [.o 0 4, .o 5 5] I ⟨I, I, trivial⟩ (AO.ghost (Ghost.freeze [1, 2, 3] (K := [.us v9 100 2 (r7.2.1.map Piece.row), .us v10 116 4 (r7.2.2.1.map Batch.row), .us v11 58 5 (r7.2.2.2.1.map Product.row)]) I [(9, .list 2 (r7.2.1.map Piece.row)), (10, .list 4 (r7.2.2.1.map Batch.row)), (11, .list 5 (r7.2.2.2.1.map Product.row)), (39, .list 2 (r7.2.1.map Piece.row)), (40, .list 4 (r7.2.2.1.map Batch.row)), (41, .list 5 (r7.2.2.2.1.map Product.row))] ⟨⟨_, I, .us 0 I⟩, ⟨_, I, .us 1 I⟩, ⟨_, I, .us 2 I⟩, ⟨_, I, .us 0 I⟩, ⟨_, I, .us 1 I⟩, ⟨_, I, .us 2 I⟩, trivial⟩ (ob' := [.arr b5 78 2 1 [batchlinekeep_Src.row r17.2], .arr b12 29 7 1 [Segment.row r7.1], .arr b19 36 2 1 [Bounds.row r17.1]]) (.rest _)) (AO.act [] I (AX.call0 I I I (L.gradient_Along_ok r7.1 r7.2.1 r7.2.2.1 r7.2.2.2.1 j15 r17.1 _ hx22) (dst_some I) ?_))))
 rintro _ _ ⟨v23, rfl, rfl⟩
 refine AO.q 5 I (AO.nil ?_)
 subst hy20
 refine AW.seqG (fun y24 hy24 => ?_)
 obtain ⟨r25, hx26, h⟩ := ob_some h
 refine AW.region (AO.r 8 [.o 0 1, .o 6 2] I ⟨I, I, trivial⟩ (AO.p (Yp.convI (c := wr (by_2)) I I I I I) I (AO.r 4 [.o 2 2] I ⟨I, trivial⟩ (AO.p (Yp.convI (c := wr (by_2)) I I I I I) I (AO.q 1 I (AO.p (Yp.buildP (l := [.v (.int .i64 (wr (r17.1.Low + (wr (by_2))))), .v (.int .i64 (wr (r17.1.High + (wr (by_2)))))]) Tryz.bld36 I) I (AO.act [] I (AX.call0 I I I (L.gradient_Along_ok r7.1 r7.2.1 r7.2.2.1 r7.2.2.2.1 j15 (⟨wr (r17.1.Low + (wr (by_2))), wr (r17.1.High + (wr (by_2)))⟩ : Bounds) _ hx26) (dst_some I) ?_))))))))
 rintro _ _ ⟨v27, rfl, rfl⟩
 refine AO.q 5 I (AO.nil ?_)
 subst hy24
 refine AW.seqG (fun y28 hy28 => (AW.cutX (fun s ob => s = [(84, .v (.bool ((r21.2 != 0) || ((r25.2 != 0) || (((r21.1.length : Int) != (r25.1.length : Int)) || decide ((r21.1.length : Int) < 2))))))] ∧ ob = [.arr b19 36 2 1 [Bounds.row r17.1], .us v23 43 3 (r21.1.map Level.row), .us v27 43 3 (r25.1.map Level.row)]) [(2, _), (12, _), (13, _), (14, _), (16, _)] ⟨I, I, I, I, I, trivial⟩ ?_ ?_))
 rcases Bool.eq_false_or_eq_true ((r21.2 != 0)) with hg33 | hg33
 refine AW.region (AO.q 3 I (AO.known 69 I hg33 (AO.q 15 I (AO.nil ?_))))
 exact lf ⟨I, I⟩ ⟨(get_b (by simp only [hg33, bz])), I, I, I, I, I, trivial⟩ [2, 3, 4] I
 rcases Bool.eq_false_or_eq_true ((r25.2 != 0)) with hg34 | hg34
 refine AW.region (AO.q 3 I (AO.known 69 I hg33 (AO.q 4 I (AO.known 73 I hg34 (AO.q 11 I (AO.nil ?_))))))
 exact lf ⟨I, I⟩ ⟨(get_b (by simp only [hg33, hg34, bz])), I, I, I, I, I, trivial⟩ [2, 3, 4] I
 rcases Bool.eq_false_or_eq_true (((r21.1.length : Int) != (r25.1.length : Int))) with hg35 | hg35
 refine AW.region (AO.q 3 I (AO.known 69 I hg33 (AO.q 4 I (AO.known 73 I hg34 (AO.q 1 I (AO.gt I I I (AO.d (Yd.lenUM 3 I I I I) I (AO.q 1 I (AO.gt I I I (AO.d (Yd.lenUM 4 I I I I) I (AO.q 3 I (AO.known 80 I hg35 ?_))))))))))))
 refine AO.q 4 I (AO.nil ?_)
 exact lf ⟨I, I⟩ ⟨(get_b (by simp only [hg33, hg34, hg35, bz])), I, I, I, I, I, trivial⟩ [2, 3, 4] I
 refine AW.region (AO.q 3 I (AO.known 69 I hg33 (AO.q 4 I (AO.known 73 I hg34 (AO.q 1 I (AO.gt I I I (AO.d (Yd.lenUM 3 I I I I) I (AO.q 1 I (AO.gt I I I (AO.d (Yd.lenUM 4 I I I I) I (AO.q 3 I (AO.known 80 I hg35 ?_))))))))))))
 refine AO.q 1 I (AO.gt I I I (AO.d (Yd.lenUM 3 I I I I) I (AO.q 2 I (AO.nil ?_))))
 exact lf ⟨I, I⟩ ⟨(get_b (by simp only [hg33, hg34, hg35, bz])), I, I, I, I, I, trivial⟩ [2, 3, 4] I
 rintro s ob ⟨rfl, rfl⟩
 refine AW.ch h I ?_ ?_
 intro hc36 h
 refine AW.z I (AW.ghost (Ghost.pick [] (K := []) I (by decide)) ?_)
 obtain rfl := Option.some.inj h
 exact AW.ret ⟨.inr I, [_], [], ⟨I, trivial⟩, sl_n, I, I⟩
 intro hc36 h
 refine AW.skip ?_
 subst hy28
 refine AW.cutX (fun s ob => ∃ (j108 : Unit), L.law19_GradientEncloses.J2 j108 = some r ∧ s = [] ∧ ob = []) [] trivial ?_ ?_
 refine AW.seqG (fun y111 hy111 => (AW.region (AO.q 1 I (AO.d (Yd.lenUM 1 I I I I) I (AO.q 1 I (AO.nil ?_))))))
 subst hy111
 refine AW.block (AW.usMax 1 I (fun hm114 => ?_))
 replace hm114 : r21.1.length ≤ 9223372036854775806 := by rw [List.length_map] at hm114; omega
 obtain ⟨o180, hL181, hR182⟩ := ob_some h
 clear h
 refine AW.forIX hL181 [(2, _), (12, _), (13, _), (14, _), (16, _), (86, _)] ⟨I, I, I, I, I, I, trivial⟩ (fun (k112 : Nat) (st148 : Unit) s ob => s = [(87, .v (.int .i64 (k112 : Int)))] ∧ ob = [.arr b19 36 2 1 [Bounds.row r17.1], .us v23 43 3 (r21.1.map Level.row), .us v27 43 3 (r25.1.map Level.row)]) ⟨I, I⟩ ⟨I, trivial⟩ ⟨[0, 1, 2], I, by decide⟩ ?_ ?_
 rintro k112 st148 r184 s ob hk113 ⟨rfl, rfl⟩ h hb183
 unfold L.law19_GradientEncloses.B3 at h
 have hk113t : decide ((k112 : Int) < (r21.1.length : Int)) = true := decide_eq_true (by omega)
 refine AW.z I (AW.seqG (fun y186 hy186 => (AW.condK (v := true) I hk113t (AW.skip ?_))))
 subst hy186
 refine AW.seq (AW.block (AW.z I (AW.z I (AW.cutX (fun s ob => ∃ (j190 : Int), L.law19_GradientEncloses.J4 by_2 r17 r21 r25 k112 j190 = some r184 ∧ s = [(19, .v (.int .i64 j190))] ∧ ob = [.arr b19 36 2 1 [Bounds.row r17.1], .us v23 43 3 (r21.1.map Level.row), .us v27 43 3 (r25.1.map Level.row)]) [(2, _), (12, _), (13, _), (14, _), (16, _), (18, _), (86, _), (87, _)] ⟨I, I, I, I, I, I, I, I, trivial⟩ ?_ ?_))))
 refine AW.z I (AW.ch h I ?_ ?_)
 intro hc234 h
 refine AW.region (AO.q 1 I (AO.d (Yd.lenUM 1 I I I I) I (AO.q 4 I (AO.nil ?_))))
 exact lg ⟨wr ((wr ((r21.1.length : Int) - 1)) - (k112 : Int)), h, I, I⟩ [0, 1, 2]
 intro hc234 h
 refine AW.skip ?_
 exact lg ⟨(k112 : Int), h, I, I⟩ [0, 1, 2]
 rintro s ob ⟨j190, h, rfl, rfl⟩
 unfold L.law19_GradientEncloses.J4 at h
 refine AW.seqG (fun y191 hy191 => ?_)
 obtain ⟨p192, hp193, h⟩ := ob_some h
 obtain ⟨hp193i, hp193x⟩ := ix_some hp193
 refine AW.form 1 p192.1 I hp193x (fun hf194 => (AW.form 1 p192.1 I hp193x (fun hf195 => (AW.rd (pd 14 0 []) [1] [_] I (AP.q 2 I (AP.op I (Yp.indexUf (m := p192.1) I I I I I hf194 I hp193i hp193x) I (AP.q 2 I (AP.o I (Yd.loadU 0 p192.1 2 I I I (map_get hp193x) I (y := .v (.int .i64 p192.2.Bounds.High)) I) I (AP.q 2 I (AP.op I (Yp.indexUf (m := p192.1) I I I I I hf195 I hp193i hp193x) I (AP.q 2 I (AP.o I (Yd.loadU 0 p192.1 1 I I I (map_get hp193x) I (y := .v (.int .i64 p192.2.Bounds.Low)) I) I (AP.q 2 I (AP.ofAO ?_))))))))))))))
 refine AO.nil ?_
 subst hy191
 refine AW.cutX (fun s ob => ∃ (j214 : Bool), L.law19_GradientEncloses.J5 j214 = some r184 ∧ s = [(178, .v (.bool j214))] ∧ ob = [.arr b19 36 2 1 [Bounds.row r17.1], .us v23 43 3 (r21.1.map Level.row), .us v27 43 3 (r25.1.map Level.row)]) [(2, _), (12, _), (13, _), (14, _), (16, _), (86, _), (87, _)] ⟨I, I, I, I, I, I, I, trivial⟩ ?_ ?_
 rcases Bool.eq_false_or_eq_true (decide ((wr (p192.2.Bounds.High - p192.2.Bounds.Low)) < (wr (r17.1.High - r17.1.Low)))) with hg216 | hg216
 replace h := ife_t hg216 h
 refine AW.rd (pd 68 0 []) [0] [_] I (AP.r 8 [.o 2 0, .o 4 0] I ⟨I, I, trivial⟩ (AP.known 118 I hg216 (AP.q 60 I (AP.ofAO (AO.nil ?_)))))
 exact lg ⟨true, h, I, I⟩ [0, 1, 2]
 replace h := ife_f hg216 h
 rcases Bool.eq_false_or_eq_true (decide ((wr (p192.2.Bounds.High - p192.2.Bounds.Low)) > (wr ((wr (r17.1.High - r17.1.Low)) + (wr (2 * j190)))))) with hg217 | hg217
 replace h := ife_t hg217 h
 refine AW.rd (pd 68 0 []) [0] [_] I (AP.r 8 [.o 2 0, .o 4 0] I ⟨I, I, trivial⟩ (AP.known 118 I hg216 (AP.r 12 [.o 2 0, .o 4 0] I ⟨I, I, trivial⟩ (AP.known 130 I hg217 (AP.q 48 I (AP.ofAO (AO.nil ?_)))))))
 exact lg ⟨true, h, I, I⟩ [0, 1, 2]
 replace h := ife_f hg217 h
 obtain ⟨p218, hp219, h⟩ := ob_some h
 obtain ⟨hp219i, hp219x⟩ := ix_some hp219
 rcases Bool.eq_false_or_eq_true ((p218.2.Bounds.Low != (wr (p192.2.Bounds.Low + (wr (by_2)))))) with hg220 | hg220
 replace h := ife_t hg220 h
 refine AW.form 2 p218.1 I hp219x (fun hf221 => (AW.form 1 p192.1 I hp193x (fun hf222 => (AW.rd (pd 68 0 []) [0, 2, 1] [_, _, _] I (AP.r 8 [.o 2 0, .o 4 0] I ⟨I, I, trivial⟩ (AP.known 118 I hg216 (AP.r 12 [.o 2 0, .o 4 0] I ⟨I, I, trivial⟩ (AP.known 130 I hg217 (AP.q 2 I (AP.oldG I I I I ((Yp.indexUf (m := p218.1) I I I I I hf221 I hp219i hp219x).yd) (dst_some I) (AP.q 2 I (AP.oldG I I I I (Yd.loadU 1 p218.1 1 I I I (map_get hp219x) I (y := .v (.int .i64 p218.2.Bounds.Low)) I) (dst_some I) (AP.q 2 I (AP.oldG I I I I ((Yp.indexUf (m := p192.1) I I I I I hf222 I hp193i hp193x).yd) (dst_some I) ?_))))))))))))))
 refine AP.q 2 I (AP.oldG I I I I (Yd.loadU 2 p192.1 1 I I I (map_get hp193x) I (y := .v (.int .i64 p192.2.Bounds.Low)) I) (dst_some I) (AP.q 1 I (AP.oldG I I I I ((Yp.convI (c := wr (by_2)) I I I I I).yd) (dst_some I) (AP.q 4 I (AP.known 148 I hg220 (AP.q 30 I (AP.ofAO (AO.nil ?_))))))))
 exact lg ⟨true, h, I, I⟩ [0, 1, 2]
 replace h := ife_f hg220 h
 rcases Bool.eq_false_or_eq_true ((p218.2.Bounds.High != (wr (p192.2.Bounds.High + (wr (by_2)))))) with hg223 | hg223
 replace h := ife_t hg223 h
 refine AW.form 2 p218.1 I hp219x (fun hf224 => (AW.form 1 p192.1 I hp193x (fun hf225 => (AW.form 2 p218.1 I hp219x (fun hf226 => (AW.form 1 p192.1 I hp193x (fun hf227 => (AW.rd (pd 68 0 []) [0, 2, 1] [_, _, _] I (AP.r 8 [.o 2 0, .o 4 0] I ⟨I, I, trivial⟩ (AP.known 118 I hg216 (AP.r 12 [.o 2 0, .o 4 0] I ⟨I, I, trivial⟩ (AP.known 130 I hg217 (AP.q 2 I (AP.oldG I I I I ((Yp.indexUf (m := p218.1) I I I I I hf224 I hp219i hp219x).yd) (dst_some I) (AP.q 2 I (AP.oldG I I I I (Yd.loadU 1 p218.1 1 I I I (map_get hp219x) I (y := .v (.int .i64 p218.2.Bounds.Low)) I) (dst_some I) ?_))))))))))))))))
 refine AP.q 2 I (AP.oldG I I I I ((Yp.indexUf (m := p192.1) I I I I I hf225 I hp193i hp193x).yd) (dst_some I) (AP.q 2 I (AP.oldG I I I I (Yd.loadU 2 p192.1 1 I I I (map_get hp193x) I (y := .v (.int .i64 p192.2.Bounds.Low)) I) (dst_some I) (AP.q 1 I (AP.oldG I I I I ((Yp.convI (c := wr (by_2)) I I I I I).yd) (dst_some I) (AP.q 4 I (AP.known 148 I hg220 (AP.q 2 I (AP.oldG I I I I ((Yp.indexUf (m := p218.1) I I I I I hf226 I hp219i hp219x).yd) (dst_some I) (AP.q 2 I (AP.oldG I I I I (Yd.loadU 1 p218.1 2 I I I (map_get hp219x) I (y := .v (.int .i64 p218.2.Bounds.High)) I) (dst_some I) (AP.q 2 I ?_))))))))))))
 refine AP.oldG I I I I ((Yp.indexUf (m := p192.1) I I I I I hf227 I hp193i hp193x).yd) (dst_some I) (AP.q 2 I (AP.oldG I I I I (Yd.loadU 2 p192.1 2 I I I (map_get hp193x) I (y := .v (.int .i64 p192.2.Bounds.High)) I) (dst_some I) (AP.q 1 I (AP.oldG I I I I ((Yp.convI (c := wr (by_2)) I I I I I).yd) (dst_some I) (AP.q 4 I (AP.known 166 I hg223 (AP.q 12 I (AP.ofAO (AO.nil ?_)))))))))
 exact lg ⟨true, h, I, I⟩ [0, 1, 2]
 replace h := ife_f hg223 h
 refine AW.form 2 p218.1 I hp219x (fun hf228 => (AW.form 1 p192.1 I hp193x (fun hf229 => (AW.form 2 p218.1 I hp219x (fun hf230 => (AW.form 1 p192.1 I hp193x (fun hf231 => (AW.form 1 p192.1 I hp193x (fun hf232 => (AW.form 2 p218.1 I hp219x (fun hf233 => (AW.rd (pd 68 0 []) [0, 2, 1] [_, _, _] I (AP.r 8 [.o 2 0, .o 4 0] I ⟨I, I, trivial⟩ (AP.known 118 I hg216 (AP.r 12 [.o 2 0, .o 4 0] I ⟨I, I, trivial⟩ (AP.known 130 I hg217 (AP.q 2 I (AP.oldG I I I I ((Yp.indexUf (m := p218.1) I I I I I hf228 I hp219i hp219x).yd) (dst_some I) ?_))))))))))))))))))
 refine AP.q 2 I (AP.oldG I I I I (Yd.loadU 1 p218.1 1 I I I (map_get hp219x) I (y := .v (.int .i64 p218.2.Bounds.Low)) I) (dst_some I) (AP.q 2 I (AP.oldG I I I I ((Yp.indexUf (m := p192.1) I I I I I hf229 I hp193i hp193x).yd) (dst_some I) (AP.q 2 I (AP.oldG I I I I (Yd.loadU 2 p192.1 1 I I I (map_get hp193x) I (y := .v (.int .i64 p192.2.Bounds.Low)) I) (dst_some I) (AP.q 1 I (AP.oldG I I I I ((Yp.convI (c := wr (by_2)) I I I I I).yd) (dst_some I) (AP.q 4 I (AP.known 148 I hg220 (AP.q 2 I (AP.oldG I I I I ((Yp.indexUf (m := p218.1) I I I I I hf230 I hp219i hp219x).yd) (dst_some I) (AP.q 2 I ?_))))))))))))
 refine AP.oldG I I I I (Yd.loadU 1 p218.1 2 I I I (map_get hp219x) I (y := .v (.int .i64 p218.2.Bounds.High)) I) (dst_some I) (AP.q 2 I (AP.oldG I I I I ((Yp.indexUf (m := p192.1) I I I I I hf231 I hp193i hp193x).yd) (dst_some I) (AP.q 2 I (AP.oldG I I I I (Yd.loadU 2 p192.1 2 I I I (map_get hp193x) I (y := .v (.int .i64 p192.2.Bounds.High)) I) (dst_some I) (AP.q 1 I (AP.oldG I I I I ((Yp.convI (c := wr (by_2)) I I I I I).yd) (dst_some I) (AP.q 4 I (AP.known 166 I hg223 (AP.q 2 I (AP.oldG I I I I ((Yp.indexUf (m := p192.1) I I I I I hf232 I hp193i hp193x).yd) (dst_some I) (AP.q 1 I (AP.oldG I I I I (Yd.loadU 2 p192.1 0 I I I (map_get hp193x) I (y := .v (.int .i64 p192.2.At)) I) (dst_some I) ?_))))))))))))
 refine AP.q 2 I (AP.oldG I I I I ((Yp.indexUf (m := p218.1) I I I I I hf233 I hp219i hp219x).yd) (dst_some I) (AP.q 1 I (AP.oldG I I I I (Yd.loadU 1 p218.1 0 I I I (map_get hp219x) I (y := .v (.int .i64 p218.2.At)) I) (dst_some I) (AP.q 2 I (AP.ofAO (AO.nil ?_))))))
 exact lg ⟨(p192.2.At != p218.2.At), h, I, I⟩ [0, 1, 2]
 rintro s ob ⟨j214, h, rfl, rfl⟩
 unfold L.law19_GradientEncloses.J5 at h
 refine AW.ch h I ?_ ?_
 intro hc215 h
 refine AW.z I ?_
 obtain rfl := hb183 _ (Option.some.inj h).symm
 replace h := hR182
 replace h := se_r h
 refine AW.ghost (Ghost.pick [] (K := []) I (by decide)) ?_
 obtain rfl := Option.some.inj h
 exact AW.ret ⟨.inr I, [_], [], ⟨I, trivial⟩, sl_n, I, I⟩
 intro hc215 h
 refine AW.skip (AW.region (AO.r 2 [.k 0 (k112 + 1 : Nat)] I ⟨cast_wr hk113 hm114, trivial⟩ ?_))
 obtain rfl := Option.some.inj h
 refine AO.nil ?_
 exact ⟨_, _, _, I, ⟨I, I⟩, ⟨I, I, I, I, I, I, I, trivial⟩, [0, 1, 2], I, by decide⟩
 rintro st148 s ob ⟨rfl, rfl⟩ he
 subst he
 have h := se_l hR182
 have hk113f : decide (((r21.1.length : Nat) : Int) < (r21.1.length : Int)) = false := by simp
 refine AW.z I (AW.seqG (fun y236 hy236 => (AW.condK (v := false) I hk113f (AW.exit ?_))))
 exact lg ⟨(), h, I, I⟩ []
 rintro s ob ⟨j108, h, rfl, rfl⟩
 unfold L.law19_GradientEncloses.J2 at h
 refine AW.seq ?_
 obtain ⟨r109, hx110, h⟩ := ob_some h
 refine AW.region (AO.c (L.law19_awake_ok  _ hx110) (AO.q 1 I (AO.nil ?_)))
 obtain rfl := Option.some.inj h
 exact AW.ret ⟨.inr I, [_], [], ⟨I, trivial⟩, sl_n, I, I⟩

end Go.Proofs.YtncfbhnecmnfpaaGreatDoor
