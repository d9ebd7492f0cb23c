/- Walks that show what functions of the program compute; printed by a program of ours. No condition. -/
import Derived.Test.YtncfbhnecmnfpaaGreatDoorLg3
import Derived.Test.YtncfbhnecmnfpaaGreatDoorLg4
namespace Go.Proofs.YtncfbhnecmnfpaaGreatDoor
open Go.Aw
set_option linter.unusedVariables false
set_option linter.unusedSimpArgs false
set_option maxRecDepth 100000
set_option maxHeartbeats 4000000

theorem L.law19_GradientTurns_ok (l_0 : List Int) (rate_1 : Int) (r : Bool) (h : L.law19_GradientTurns l_0 rate_1 = some r) : ACalls Tryz.env 6 [.list 1 (l_0.map rI), .v (.int .u16 rate_1)] [] (fun x new => x = .v (.bool r) ∧ new = []) := by
 refine ACalls.of_body Tryz.func6 rfl rfl rfl (fun C hC => ?_)
 unfold L.law19_GradientTurns at h
 refine AW.z I (AW.seqG (fun y2 hy2 => ?_))
 obtain ⟨r3, hx4, h⟩ := ob_some h
 refine AW.region (AO.q 1 I (AO.act [] I (AX.call0 I I I (L.keep_New_ok l_0 _ hx4) (dst_some I) ?_)))
 rintro _ _ ⟨b5, rfl, rfl⟩
 refine AO.q 1 I (AO.nil ?_)
 subst hy2
 refine AW.seqG (fun y6 hy6 => ?_)
 obtain ⟨r7, hx8, h⟩ := ob_some h
 refine AW.region (AO.q 1 I (AO.act [0] I (AX.cg [0] (L.law19_world_ok b5 r3 _ hx8) ?_)))
 rintro _ _ _ - ⟨v9, v10, v11, rfl, rfl, rfl⟩
 refine AO.q 5 I (AO.act [] I (AX.alloc (cs := [.v (.string ⟨#[]⟩), .v (.int .i64 0), .v (.int .i64 0), .v (.int .i64 0), .v (.int .i64 0), .v (.int .i64 0), .v (.slice none 0 0)]) (m := 7) I I I I I (dst_some I) (fun b12 => (AO.act [4] I (AX.store 4 0 0 (es' := [Segment.row r7.1]) I I I I I I I I (le_ble I) I I (AO.q 3 I (AO.nil ?_)))))))
 subst hy6
 refine AW.seqG (fun y13 hy13 => (AW.region (AO.q 1 I (AO.p (Yp.convI (c := wr (rate_1)) I I I I I) I (AO.r 3 [.f 0 (.v (.int .i64 ((wr (rate_1)).tmod 1000)))] I ⟨Yp.yd (Yp.binI (c := ((wr (rate_1)).tmod 1000)) I I ⟨by decide, I⟩), trivial⟩ (AO.nil ?_))))))
 subst hy13
 refine AW.seqG (fun y14 hy14 => ?_)
 obtain ⟨r15, hx16, h⟩ := ob_some h
 refine AW.region (AO.r 5 [.o 0 4] I ⟨I, trivial⟩ (AO.p (Yp.buildP (l := [.v (.int .i64 0), .v (.int .i64 0)]) Tryz.bld36 I) I (AO.ghost (Ghost.freeze [1, 2, 3] (K := [.us v9 100 2 (r7.2.1.map Piece.row), .us v10 116 4 (r7.2.2.1.map Batch.row), .us v11 58 5 (r7.2.2.2.1.map Product.row)]) I [(29, .list 2 (r7.2.1.map Piece.row)), (30, .list 4 (r7.2.2.1.map Batch.row)), (31, .list 5 (r7.2.2.2.1.map Product.row)), (7, .list 2 (r7.2.1.map Piece.row)), (8, .list 4 (r7.2.2.1.map Batch.row)), (9, .list 5 (r7.2.2.2.1.map Product.row)), (38, .list 2 (r7.2.1.map Piece.row)), (39, .list 4 (r7.2.2.1.map Batch.row)), (40, .list 5 (r7.2.2.2.1.map Product.row))] ⟨⟨_, I, .us 0 I⟩, ⟨_, I, .us 1 I⟩, ⟨_, I, .us 2 I⟩, ⟨_, I, .us 0 I⟩, ⟨_, I, .us 1 I⟩, ⟨_, I, .us 2 I⟩, ⟨_, I, .us 0 I⟩, ⟨_, I, .us 1 I⟩, ⟨_, I, .us 2 I⟩, trivial⟩ (ob' := [.arr b5 78 2 1 [batchlinekeep_Src.row r7.2.2.2.2], .arr b12 29 7 1 [Segment.row r7.1]]) (.rest _)) (AO.act [] I (AX.call0 I I I (L.gradient_Along_ok r7.1 r7.2.1 r7.2.2.1 r7.2.2.2.1 (wr (1 + ((wr (rate_1)).tmod 1000))) (⟨0, 0⟩ : Bounds) _ hx16) (dst_some I) ?_)))))
 rintro _ _ ⟨v17, rfl, rfl⟩
 refine AO.q 5 I (AO.nil ?_)
 subst hy14
 refine AW.seqG (fun y18 hy18 => ?_)
 obtain ⟨r19, hx20, h⟩ := ob_some h
 refine AW.region (AO.r 6 [.o 0 1] I ⟨I, trivial⟩ (AO.p (Yp.buildP (l := [.v (.int .i64 0), .v (.int .i64 0)]) Tryz.bld36 I) I (AO.act [] I (AX.call0 I I I (L.gradient_Along_ok r7.1 r7.2.1 r7.2.2.1 r7.2.2.2.1 (wr (0 - (wr (1 + ((wr (rate_1)).tmod 1000))))) (⟨0, 0⟩ : Bounds) _ hx20) (dst_some I) ?_))))
 rintro _ _ ⟨v21, rfl, rfl⟩
 refine AO.q 5 I (AO.nil ?_)
 subst hy18
 refine AW.seqG (fun y22 hy22 => (AW.region (AO.r 1 [.o 0 1] I ⟨I, trivial⟩ (AO.act [] I (AX.alloc (cs := [.v (.string ⟨#[]⟩), .v (.int .i64 0), .v (.int .i64 0), .v (.int .i64 0), .v (.int .i64 0), .v (.int .i64 0), .v (.slice none 0 0)]) (m := 7) I I I I I (dst_some I) (fun b23 => (AO.act [4] I (AX.store 4 0 0 (es' := [Segment.row r7.1]) I I I I I I I I (le_ble I) I I (AO.nil ?_)))))))))
 subst hy22
 refine AW.seqG (fun y24 hy24 => ?_)
 obtain ⟨l26, hx27, h⟩ := ob_some h
 refine AW.region (AO.act [] I (AX.buildSlice (sz := 3) (es := ([] : List Point).map Point.row) I I I I I I I I I I I (dst_some I) (fun v25 => (AO.r 2 [.o 1 1] I ⟨I, trivial⟩ (AO.act [5] I (AX.ap 5 I hx27 (fun v28 => (AO.q 1 I (AO.one 5 I (fun v28o => (AO.act [4] I (AX.store 4 0 6 (es' := [[.v (.string r7.1.Name), .v (.int .i64 r7.1.From), .v (.int .i64 r7.1.To), .v (.int .i64 r7.1.Capacity), .v (.int .i64 r7.1.Resist), .v (.int .i64 r7.1.Wave), .v v28]]) I I I I I I (cells_v v28o) I (le_ble I) I I (AO.nil ?_)))))))))))))
 subst hy24
 refine AW.cutX (fun s ob => ∃ (j51 : List Point), L.law19_GradientTurns.J1 rate_1 r7 r15 r19 j51 = some r ∧ s = [] ∧ ob = [.us v17 43 3 (r15.1.map Level.row), .us v21 43 3 (r19.1.map Level.row), .arr b23 29 7 1 [[.v (.string r7.1.Name), .v (.int .i64 r7.1.From), .v (.int .i64 r7.1.To), .v (.int .i64 r7.1.Capacity), .v (.int .i64 r7.1.Resist), .v (.int .i64 r7.1.Wave), .v v28]], .us v28 47 3 (j51.map Point.row)]) [(7, _), (8, _), (9, _), (10, _), (11, _), (12, _), (13, _), (14, _), (15, _)] ⟨I, I, I, I, I, I, I, I, I, trivial⟩ ?_ ?_
 refine AW.seqG (fun y111 hy111 => (AW.region (AO.r 2 [.o 1 4] I ⟨I, trivial⟩ (AO.d (Yd.lenUM 5 I I I I) I (AO.q 1 I (AO.nil ?_))))))
 subst hy111
 refine AW.block (AW.usMax 5 I (fun hm114 => ?_))
 replace hm114 : l26.length ≤ 9223372036854775806 := by rw [List.length_map] at hm114; omega
 obtain ⟨o131, hL132, hR133⟩ := ob_some h
 clear h
 refine AW.forJY hL132 [(7, _), (8, _), (9, _), (10, _), (11, _), (12, _), (13, _), (14, _), (15, _), (65, _)] ⟨I, I, I, I, I, I, I, I, I, I, trivial⟩ (fun (k112 : Nat) (st126 : List Point) s ob => s = [(66, .v (.int .i64 (k112 : Int)))] ∧ ob = [.us v17 43 3 (r15.1.map Level.row), .us v21 43 3 (r19.1.map Level.row), .arr b23 29 7 1 [[.v (.string r7.1.Name), .v (.int .i64 r7.1.From), .v (.int .i64 r7.1.To), .v (.int .i64 r7.1.Capacity), .v (.int .i64 r7.1.Resist), .v (.int .i64 r7.1.Wave), .v v28]], .us v28 47 3 (st126.map Point.row)]) ⟨I, I⟩ ⟨I, trivial⟩ ⟨[2, 3, 4, 5], I, by decide⟩ ?_ ?_
 rintro k112 st126 r135 s ob hk113 ⟨rfl, rfl⟩ h
 unfold L.law19_GradientTurns.B4 at h
 have hk113t : decide ((k112 : Int) < (l26.length : Int)) = true := decide_eq_true (by omega)
 refine AW.z I (AW.seqG (fun y137 hy137 => (AW.condK (v := true) I hk113t (AW.skip ?_))))
 subst hy137
 refine AW.seq (AW.block (AW.z I ?_))
 obtain ⟨p138, hp139, h⟩ := ob_some h
 obtain ⟨hp139i, hp139x⟩ := ix_some hp139
 refine AW.region (AO.r 3 [.o 1 2] I ⟨I, trivial⟩ (AO.d (Yd.indexU 3 (m := p138.1) I I I I I I I hp139i (map_get hp139x)) I (AO.q 1 I (AO.act [3] I (AX.storeU 3 p138.1 1 I I I (map_get hp139x) I I I I (le_ble I) I (us_set (x := (⟨p138.2.At, 0, p138.2.Limit⟩ : Point)) I) (AO.nil (AW.region (AO.r 2 [.k 0 (k112 + 1 : Nat)] I ⟨cast_wr hk113 hm114, trivial⟩ ?_))))))))
 obtain rfl := Option.some.inj h
 refine AO.nil ?_
 exact lg ⟨I, I⟩ [0, 1, 2, 3]
 rintro st126 s ob ⟨rfl, rfl⟩ he
 subst he
 have h := hR133
 have hk113f : decide (((l26.length : Nat) : Int) < (l26.length : Int)) = false := by simp
 refine AW.z I (AW.seqG (fun y141 hy141 => (AW.condK (v := false) I hk113f (AW.exit ?_))))
 exact lg ⟨st126, h, I, I⟩ [0, 1, 2, 3]
 rintro s ob ⟨j51, h, rfl, rfl⟩
 unfold L.law19_GradientTurns.J1 at h
 refine AW.seqG (fun y52 hy52 => ?_)
 obtain ⟨r53, hx54, h⟩ := ob_some h
 refine AW.region (AO.r 5 [.o 0 2] I ⟨I, trivial⟩ (AO.p (Yp.buildP (l := [.v (.int .i64 0), .v (.int .i64 0)]) Tryz.bld36 I) I (AO.ghost (Ghost.freeze [3] (K := [.us v28 47 3 (j51.map Point.row)]) I [(76, .agg [.v (.string r7.1.Name), .v (.int .i64 r7.1.From), .v (.int .i64 r7.1.To), .v (.int .i64 r7.1.Capacity), .v (.int .i64 r7.1.Resist), .v (.int .i64 r7.1.Wave), .list 3 (j51.map Point.row)])] ⟨⟨_, I, .agg (.cons (.refl _) (.cons (.refl _) (.cons (.refl _) (.cons (.refl _) (.cons (.refl _) (.cons (.refl _) (.cons (.us 0 I) (.rest _))))))))⟩, trivial⟩ (ob' := [.us v17 43 3 (r15.1.map Level.row), .us v21 43 3 (r19.1.map Level.row), .arr b23 29 7 1 [[.v (.string r7.1.Name), .v (.int .i64 r7.1.From), .v (.int .i64 r7.1.To), .v (.int .i64 r7.1.Capacity), .v (.int .i64 r7.1.Resist), .v (.int .i64 r7.1.Wave), .list 3 (j51.map Point.row)]]]) (.cons (.same _) (.cons (.same _) (.cons (.arr (.cons (.refl _) (.cons (.refl _) (.cons (.refl _) (.cons (.refl _) (.cons (.refl _) (.cons (.refl _) (.cons (.us 0 I) (.rest _))))))))) (.rest _))))) (AO.act [] I (AX.call0 I I I (L.gradient_Along_ok (⟨r7.1.Name, r7.1.From, r7.1.To, r7.1.Capacity, r7.1.Resist, r7.1.Wave, j51⟩ : Segment) r7.2.1 r7.2.2.1 r7.2.2.2.1 (wr (1 + ((wr (rate_1)).tmod 1000))) (⟨0, 0⟩ : Bounds) _ hx54) (dst_some I) ?_)))))
 rintro _ _ ⟨v55, rfl, rfl⟩
 refine AO.q 5 I (AO.nil ?_)
 subst hy52
 refine AW.seqG (fun y56 hy56 => (AW.cutX (fun s ob => s = [(113, .v (.bool ((r15.2 != 0) || ((r19.2 != 0) || ((r53.2 != 0) || (decide ((r15.1.length : Int) < 2) || (((r15.1.length : Int) != (r19.1.length : Int)) || ((r15.1.length : Int) != (r53.1.length : Int)))))))))] ∧ ob = [.us v17 43 3 (r15.1.map Level.row), .us v21 43 3 (r19.1.map Level.row), .us v55 43 3 (r53.1.map Level.row)]) [(11, _), (13, _), (17, _)] ⟨I, I, I, trivial⟩ ?_ ?_))
 rcases Bool.eq_false_or_eq_true ((r15.2 != 0)) with hg63 | hg63
 refine AW.region (AO.q 3 I (AO.known 87 I hg63 (AO.q 26 I (AO.nil ?_))))
 exact lf ⟨I, I⟩ ⟨(get_b (by simp only [hg63, bz])), I, I, I, trivial⟩ [0, 1, 3] I
 rcases Bool.eq_false_or_eq_true ((r19.2 != 0)) with hg64 | hg64
 refine AW.region (AO.q 3 I (AO.known 87 I hg63 (AO.q 4 I (AO.known 91 I hg64 (AO.q 22 I (AO.nil ?_))))))
 exact lf ⟨I, I⟩ ⟨(get_b (by simp only [hg63, hg64, bz])), I, I, I, trivial⟩ [0, 1, 3] I
 rcases Bool.eq_false_or_eq_true ((r53.2 != 0)) with hg65 | hg65
 refine AW.region (AO.q 3 I (AO.known 87 I hg63 (AO.q 4 I (AO.known 91 I hg64 (AO.q 4 I (AO.known 95 I hg65 (AO.q 18 I (AO.nil ?_))))))))
 exact lf ⟨I, I⟩ ⟨(get_b (by simp only [hg63, hg64, hg65, bz])), I, I, I, trivial⟩ [0, 1, 3] I
 rcases Bool.eq_false_or_eq_true (decide ((r15.1.length : Int) < 2)) with hg66 | hg66
 refine AW.region (AO.q 3 I (AO.known 87 I hg63 (AO.q 4 I (AO.known 91 I hg64 (AO.q 4 I (AO.known 95 I hg65 (AO.q 1 I (AO.gt I I I (AO.d (Yd.lenUM 0 I I I I) I (AO.q 3 I (AO.known 100 I hg66 (AO.q 13 I ?_))))))))))))
 refine AO.nil ?_
 exact lf ⟨I, I⟩ ⟨(get_b (by simp only [hg63, hg64, hg65, hg66, bz])), I, I, I, trivial⟩ [0, 1, 3] I
 rcases Bool.eq_false_or_eq_true (((r15.1.length : Int) != (r19.1.length : Int))) with hg67 | hg67
 refine AW.region (AO.q 3 I (AO.known 87 I hg63 (AO.q 4 I (AO.known 91 I hg64 (AO.q 4 I (AO.known 95 I hg65 (AO.q 1 I (AO.gt I I I (AO.d (Yd.lenUM 0 I I I I) I (AO.q 3 I (AO.known 100 I hg66 (AO.q 1 I ?_))))))))))))
 refine AO.gt I I I (AO.d (Yd.lenUM 0 I I I I) I (AO.q 1 I (AO.gt I I I (AO.d (Yd.lenUM 1 I I I I) I (AO.q 3 I (AO.known 107 I hg67 (AO.q 6 I (AO.nil ?_))))))))
 exact lf ⟨I, I⟩ ⟨(get_b (by simp only [hg63, hg64, hg65, hg66, hg67, bz])), I, I, I, trivial⟩ [0, 1, 3] I
 refine AW.region (AO.q 3 I (AO.known 87 I hg63 (AO.q 4 I (AO.known 91 I hg64 (AO.q 4 I (AO.known 95 I hg65 (AO.q 1 I (AO.gt I I I (AO.d (Yd.lenUM 0 I I I I) I (AO.q 3 I (AO.known 100 I hg66 (AO.q 1 I ?_))))))))))))
 refine AO.gt I I I (AO.d (Yd.lenUM 0 I I I I) I (AO.q 1 I (AO.gt I I I (AO.d (Yd.lenUM 1 I I I I) I (AO.q 3 I (AO.known 107 I hg67 (AO.q 1 I (AO.gt I I I (AO.d (Yd.lenUM 0 I I I I) I (AO.q 1 I (AO.gt I I I (AO.d (Yd.lenUM 3 I I I I) I ?_))))))))))))
 refine AO.q 2 I (AO.nil ?_)
 exact lf ⟨I, I⟩ ⟨(get_b (by simp only [hg63, hg64, hg65, hg66, hg67, bz])), I, I, I, trivial⟩ [0, 1, 3] I
 rintro s ob ⟨rfl, rfl⟩
 refine AW.ch h I ?_ ?_
 intro hc68 h
 refine AW.z I (AW.ghost (Ghost.pick [] (K := []) I (by decide)) ?_)
 obtain rfl := Option.some.inj h
 exact AW.ret ⟨.inr I, [_], [], ⟨I, trivial⟩, sl_n, I, I⟩
 intro hc68 h
 refine AW.skip ?_
 subst hy56
 refine AW.seqG (fun y69 hy69 => (AW.region (AO.q 1 I (AO.d (Yd.lenUM 0 I I I I) I (AO.q 1 I (AO.nil ?_))))))
 subst hy69
 refine AW.cutX (fun s ob => ∃ (j82 : Int × Int × Int × Int × Int × Int) (b83 : Nat) (b84 : Nat) (b85 : Nat), L.law19_GradientTurns.J2 r15 j82 = some r ∧ s = [(20, .v (.pointer (some ⟨b83, 0, none⟩))), (21, .v (.pointer (some ⟨b84, 0, none⟩))), (22, .v (.pointer (some ⟨b85, 0, none⟩)))] ∧ ob = [.arr b83 36 2 1 [[.v (.int .i64 j82.1), .v (.int .i64 j82.2.1)]], .arr b84 36 2 1 [[.v (.int .i64 j82.2.2.1), .v (.int .i64 j82.2.2.2.1)]], .arr b85 36 2 1 [[.v (.int .i64 j82.2.2.2.2.1), .v (.int .i64 j82.2.2.2.2.2)]]]) [(19, _)] ⟨I, trivial⟩ ?_ ?_
 obtain ⟨p99, hp100, h⟩ := ob_some h
 obtain ⟨hp100i, hp100x⟩ := ix_some hp100
 obtain ⟨p101, hp102, h⟩ := ob_some h
 obtain ⟨hp102i, hp102x⟩ := ix_some hp102
 obtain ⟨p103, hp104, h⟩ := ob_some h
 obtain ⟨hp104i, hp104x⟩ := ix_some hp104
 refine AW.form 0 p99.1 I hp100x (fun hf108 => (AW.form 1 p101.1 I hp102x (fun hf109 => (AW.form 2 p103.1 I hp104x (fun hf110 => (AW.rd (.still 0 (.still 1 (.still 2 (.still 3 (.still 4 (.still 5 (.still 6 (.still 7 (.still 8 (.still 9 (.still 10 (.still 11 (.still 12 (.still 13 (.still 14 (.still 15 (.three 16 17 18 (.two 17 18 (.act 18 (.act 19 (.act 20 (.act 21 .nil)))) (.act 17 (.act 19 (.act 20 (.act 21 .nil))))) (.two 16 18 (.act 18 (.act 19 (.act 20 (.act 21 .nil)))) (.act 16 (.act 19 (.act 20 (.act 21 .nil))))) (.two 16 17 (.act 17 (.act 19 (.act 20 (.act 21 .nil)))) (.act 16 (.act 19 (.act 20 (.act 21 .nil)))))))))))))))))))))) [0, 1, 2] [_, _, _] I (AP.q 3 I (AP.op I (Yp.indexUf (m := p99.1) I I I I I hf108 I hp100i hp100x) I (AP.q 1 I (AP.o I (Yd.loadU 0 p99.1 1 I I I (map_get hp100x) I (y := .agg (Bounds.row p99.2.Bounds)) I) I (AP.q 1 I (AP.op I (Yp.indexUf (m := p101.1) I I I I I hf109 I hp102i hp102x) I (AP.q 1 I (AP.o I (Yd.loadU 1 p101.1 1 I I I (map_get hp102x) I (y := .agg (Bounds.row p101.2.Bounds)) I) I (AP.q 3 I ?_)))))))))))))))
 refine AP.op I (Yp.indexUf (m := p103.1) I I I I I hf110 I hp104i hp104x) I (AP.q 1 I (AP.o I (Yd.loadU 2 p103.1 1 I I I (map_get hp104x) I (y := .agg (Bounds.row p103.2.Bounds)) I) I (AP.three ?_ ?_ ?_)))
 refine AP.act [] I I I (AX.alloc (cs := [.v (.int .i64 0), .v (.int .i64 0)]) (m := 2) I I I I I (dst_some I) (fun b105 => (AP.two ?_ ?_)))
 refine AP.act [] I I I (AX.alloc (cs := [.v (.int .i64 0), .v (.int .i64 0)]) (m := 2) I I I I I (dst_some I) (fun b106 => (AP.act [] I I I (AX.alloc (cs := [.v (.int .i64 0), .v (.int .i64 0)]) (m := 2) I I I I I (dst_some I) (fun b107 => (AP.act [3] I I I (AX.store 3 0 0 (es' := [Bounds.row p99.2.Bounds]) I I I I I I I I (le_ble I) I I (AP.act [4] I I I (AX.store 4 0 0 (es' := [Bounds.row p101.2.Bounds]) I I I I I I I I (le_ble I) I I (AP.act [5] I I I (AX.store 5 0 0 (es' := [Bounds.row p103.2.Bounds]) I I I I I I I I (le_ble I) I I (AP.ofAO (AO.nil ?_)))))))))))))
 exact lg ⟨(p99.2.Bounds.Low, p99.2.Bounds.High, p101.2.Bounds.Low, p101.2.Bounds.High, p103.2.Bounds.Low, p103.2.Bounds.High), b105, b106, b107, h, I, I⟩ [3, 4, 5]
 refine AP.act [] I I I (AX.alloc (cs := [.v (.int .i64 0), .v (.int .i64 0)]) (m := 2) I I I I I (dst_some I) (fun b107 => (AP.act [] I I I (AX.alloc (cs := [.v (.int .i64 0), .v (.int .i64 0)]) (m := 2) I I I I I (dst_some I) (fun b106 => (AP.act [3] I I I (AX.store 3 0 0 (es' := [Bounds.row p99.2.Bounds]) I I I I I I I I (le_ble I) I I (AP.act [5] I I I (AX.store 5 0 0 (es' := [Bounds.row p101.2.Bounds]) I I I I I I I I (le_ble I) I I (AP.act [4] I I I (AX.store 4 0 0 (es' := [Bounds.row p103.2.Bounds]) I I I I I I I I (le_ble I) I I (AP.ofAO (AO.nil ?_)))))))))))))
 exact lg ⟨(p99.2.Bounds.Low, p99.2.Bounds.High, p101.2.Bounds.Low, p101.2.Bounds.High, p103.2.Bounds.Low, p103.2.Bounds.High), b105, b106, b107, h, I, I⟩ [3, 5, 4]
 refine AP.act [] I I I (AX.alloc (cs := [.v (.int .i64 0), .v (.int .i64 0)]) (m := 2) I I I I I (dst_some I) (fun b106 => (AP.two ?_ ?_)))
 refine AP.act [] I I I (AX.alloc (cs := [.v (.int .i64 0), .v (.int .i64 0)]) (m := 2) I I I I I (dst_some I) (fun b105 => (AP.act [] I I I (AX.alloc (cs := [.v (.int .i64 0), .v (.int .i64 0)]) (m := 2) I I I I I (dst_some I) (fun b107 => (AP.act [4] I I I (AX.store 4 0 0 (es' := [Bounds.row p99.2.Bounds]) I I I I I I I I (le_ble I) I I (AP.act [3] I I I (AX.store 3 0 0 (es' := [Bounds.row p101.2.Bounds]) I I I I I I I I (le_ble I) I I (AP.act [5] I I I (AX.store 5 0 0 (es' := [Bounds.row p103.2.Bounds]) I I I I I I I I (le_ble I) I I (AP.ofAO (AO.nil ?_)))))))))))))
 exact lg ⟨(p99.2.Bounds.Low, p99.2.Bounds.High, p101.2.Bounds.Low, p101.2.Bounds.High, p103.2.Bounds.Low, p103.2.Bounds.High), b105, b106, b107, h, I, I⟩ [4, 3, 5]
 refine AP.act [] I I I (AX.alloc (cs := [.v (.int .i64 0), .v (.int .i64 0)]) (m := 2) I I I I I (dst_some I) (fun b107 => (AP.act [] I I I (AX.alloc (cs := [.v (.int .i64 0), .v (.int .i64 0)]) (m := 2) I I I I I (dst_some I) (fun b105 => (AP.act [5] I I I (AX.store 5 0 0 (es' := [Bounds.row p99.2.Bounds]) I I I I I I I I (le_ble I) I I (AP.act [3] I I I (AX.store 3 0 0 (es' := [Bounds.row p101.2.Bounds]) I I I I I I I I (le_ble I) I I (AP.act [4] I I I (AX.store 4 0 0 (es' := [Bounds.row p103.2.Bounds]) I I I I I I I I (le_ble I) I I (AP.ofAO (AO.nil ?_)))))))))))))
 exact lg ⟨(p99.2.Bounds.Low, p99.2.Bounds.High, p101.2.Bounds.Low, p101.2.Bounds.High, p103.2.Bounds.Low, p103.2.Bounds.High), b105, b106, b107, h, I, I⟩ [5, 3, 4]
 refine AP.act [] I I I (AX.alloc (cs := [.v (.int .i64 0), .v (.int .i64 0)]) (m := 2) I I I I I (dst_some I) (fun b107 => (AP.two ?_ ?_)))
 refine AP.act [] I I I (AX.alloc (cs := [.v (.int .i64 0), .v (.int .i64 0)]) (m := 2) I I I I I (dst_some I) (fun b105 => (AP.act [] I I I (AX.alloc (cs := [.v (.int .i64 0), .v (.int .i64 0)]) (m := 2) I I I I I (dst_some I) (fun b106 => (AP.act [4] I I I (AX.store 4 0 0 (es' := [Bounds.row p99.2.Bounds]) I I I I I I I I (le_ble I) I I (AP.act [5] I I I (AX.store 5 0 0 (es' := [Bounds.row p101.2.Bounds]) I I I I I I I I (le_ble I) I I (AP.act [3] I I I (AX.store 3 0 0 (es' := [Bounds.row p103.2.Bounds]) I I I I I I I I (le_ble I) I I (AP.ofAO (AO.nil ?_)))))))))))))
 exact lg ⟨(p99.2.Bounds.Low, p99.2.Bounds.High, p101.2.Bounds.Low, p101.2.Bounds.High, p103.2.Bounds.Low, p103.2.Bounds.High), b105, b106, b107, h, I, I⟩ [4, 5, 3]
 refine AP.act [] I I I (AX.alloc (cs := [.v (.int .i64 0), .v (.int .i64 0)]) (m := 2) I I I I I (dst_some I) (fun b106 => (AP.act [] I I I (AX.alloc (cs := [.v (.int .i64 0), .v (.int .i64 0)]) (m := 2) I I I I I (dst_some I) (fun b105 => (AP.act [5] I I I (AX.store 5 0 0 (es' := [Bounds.row p99.2.Bounds]) I I I I I I I I (le_ble I) I I (AP.act [4] I I I (AX.store 4 0 0 (es' := [Bounds.row p101.2.Bounds]) I I I I I I I I (le_ble I) I I (AP.act [3] I I I (AX.store 3 0 0 (es' := [Bounds.row p103.2.Bounds]) I I I I I I I I (le_ble I) I I (AP.ofAO (AO.nil ?_)))))))))))))
 exact lg ⟨(p99.2.Bounds.Low, p99.2.Bounds.High, p101.2.Bounds.Low, p101.2.Bounds.High, p103.2.Bounds.Low, p103.2.Bounds.High), b105, b106, b107, h, I, I⟩ [5, 4, 3]
 rintro s ob ⟨j82, b83, b84, b85, h, rfl, rfl⟩
 unfold L.law19_GradientTurns.J2 at h
 refine AW.cutX (fun s ob => ∃ (j92 : Bool), L.law19_GradientTurns.J3 j92 = some r ∧ s = [(4, .v (.bool j92))] ∧ ob = []) [] trivial ?_ ?_
 rcases Bool.eq_false_or_eq_true (decide ((wr (j82.1 + j82.2.2.1)) ≤ (wr (2 * j82.2.2.2.2.2)))) with hg93 | hg93
 replace h := ife_t hg93 h
 rcases Bool.eq_false_or_eq_true (decide ((wr (j82.2.1 + j82.2.2.2.1)) ≥ (wr (2 * j82.2.2.2.2.1)))) with hg94 | hg94
 replace h := ife_t hg94 h
 rcases Bool.eq_false_or_eq_true (decide ((wr ((wr (j82.2.1 + j82.2.2.2.1)) - (wr (2 * j82.2.2.2.2.2)))) ≤ (wr (4 * (r15.1.length : Int))))) with hg95 | hg95
 replace h := ife_t hg95 h
 rcases Bool.eq_false_or_eq_true (decide ((wr ((wr ((wr (2 * j82.2.2.2.2.1)) - j82.1)) - j82.2.2.1)) ≤ (wr (4 * (r15.1.length : Int))))) with hg96 | hg96
 replace h := ife_t hg96 h
 obtain ⟨r97, hx98, h⟩ := ob_some h
 refine AW.region (AO.r 10 [.o 1 0, .o 3 1, .o 6 2] I ⟨I, I, I, trivial⟩ (AO.known 141 I hg93 (AO.r 11 [.o 1 0, .o 3 1, .o 6 2] I ⟨I, I, I, trivial⟩ (AO.known 152 I hg94 (AO.r 14 [.o 1 0, .o 3 1, .o 6 2] I ⟨I, I, I, trivial⟩ (AO.known 166 I hg95 (AO.r 14 [.o 1 2, .o 4 0, .o 7 1] I ⟨I, I, I, trivial⟩ (AO.known 180 I hg96 (AO.gt I I I (AO.c (L.law19_awake_ok  _ hx98) (AO.q 2 I (AO.nil ?_))))))))))))
 exact lg ⟨r97, h, I, I⟩ []
 replace h := ife_f hg96 h
 refine AW.region (AO.r 10 [.o 1 0, .o 3 1, .o 6 2] I ⟨I, I, I, trivial⟩ (AO.known 141 I hg93 (AO.r 11 [.o 1 0, .o 3 1, .o 6 2] I ⟨I, I, I, trivial⟩ (AO.known 152 I hg94 (AO.r 14 [.o 1 0, .o 3 1, .o 6 2] I ⟨I, I, I, trivial⟩ (AO.known 166 I hg95 (AO.r 14 [.o 1 2, .o 4 0, .o 7 1] I ⟨I, I, I, trivial⟩ (AO.known 180 I hg96 (AO.q 3 I (AO.nil ?_))))))))))
 exact lg ⟨false, h, I, I⟩ []
 replace h := ife_f hg95 h
 refine AW.region (AO.r 10 [.o 1 0, .o 3 1, .o 6 2] I ⟨I, I, I, trivial⟩ (AO.known 141 I hg93 (AO.r 11 [.o 1 0, .o 3 1, .o 6 2] I ⟨I, I, I, trivial⟩ (AO.known 152 I hg94 (AO.r 14 [.o 1 0, .o 3 1, .o 6 2] I ⟨I, I, I, trivial⟩ (AO.known 166 I hg95 (AO.q 17 I (AO.nil ?_))))))))
 exact lg ⟨false, h, I, I⟩ []
 replace h := ife_f hg94 h
 refine AW.region (AO.r 10 [.o 1 0, .o 3 1, .o 6 2] I ⟨I, I, I, trivial⟩ (AO.known 141 I hg93 (AO.r 11 [.o 1 0, .o 3 1, .o 6 2] I ⟨I, I, I, trivial⟩ (AO.known 152 I hg94 (AO.q 31 I (AO.nil ?_))))))
 exact lg ⟨false, h, I, I⟩ []
 replace h := ife_f hg93 h
 refine AW.region (AO.r 10 [.o 1 0, .o 3 1, .o 6 2] I ⟨I, I, I, trivial⟩ (AO.known 141 I hg93 (AO.q 42 I (AO.nil ?_))))
 exact lg ⟨false, h, I, I⟩ []
 rintro s ob ⟨j92, h, rfl, rfl⟩
 unfold L.law19_GradientTurns.J3 at h
 obtain rfl := Option.some.inj h
 exact AW.ret ⟨.inr I, [_], [], ⟨I, trivial⟩, sl_n, I, I⟩

end Go.Proofs.YtncfbhnecmnfpaaGreatDoor
