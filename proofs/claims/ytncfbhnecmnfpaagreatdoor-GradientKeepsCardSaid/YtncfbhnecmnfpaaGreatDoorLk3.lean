/- Walks that show what functions of the program compute; printed by a program of ours. No condition. -/
import Derived.Test.YtncfbhnecmnfpaaGreatDoorLk2
import Derived.Test.YtncfbhnecmnfpaaGreatDoorLg6
namespace Go.Proofs.YtncfbhnecmnfpaaGreatDoor
open Go.Aw
set_option linter.unusedVariables false
set_option linter.unusedSimpArgs false
set_option maxRecDepth 100000
set_option maxHeartbeats 4000000

theorem L.law19_GradientKeeps_ok (l_0 : List Int) (more_1 : Int) (r : Bool) (h : L.law19_GradientKeeps l_0 more_1 = some r) : ACalls Tryz.env 5 [.list 1 (l_0.map rI), .v (.int .u16 more_1)] [] (fun x new => x = .v (.bool r) ∧ new = []) := by
 refine ACalls.of_body Tryz.func5 rfl rfl rfl (fun C hC => ?_)
 unfold L.law19_GradientKeeps at h
 refine AW.z I (AW.seqG (fun y2 hy2 => ?_))
 obtain ⟨r3, hx4, h⟩ := ob_some h
 refine AW.region (AO.q 1 I (AO.act [] I (AX.call0 I I I (L.keep_New_ok l_0 _ hx4) (dst_some I) ?_)))
 rintro _ _ ⟨b5, rfl, rfl⟩
 refine AO.q 1 I (AO.nil ?_)
 subst hy2
 refine AW.seqG (fun y6 hy6 => ?_)
 obtain ⟨r7, hx8, h⟩ := ob_some h
 refine AW.region (AO.q 1 I (AO.act [0] I (AX.cg [0] (L.law19_world_ok b5 r3 _ hx8) ?_)))
 rintro _ _ _ - ⟨rfl, rfl, rfl⟩
 refine AO.q 5 I (AO.act [] I (AX.alloc (cs := [.v (.string ⟨#[]⟩), .v (.int .i64 0), .v (.int .i64 0), .v (.int .i64 0), .v (.int .i64 0), .v (.int .i64 0), .v (.slice none 0 0)]) (m := 7) I I I I I (dst_some I) (fun b9 => (AO.act [1] I (AX.store 1 0 0 (es' := [Segment.row r7.1]) I I I I I I I I (le_ble I) I I (AO.q 3 I (AO.nil ?_)))))))
 subst hy6
 refine AW.seqG (fun y10 hy10 => ?_)
 obtain ⟨r11, hx12, h⟩ := ob_some h
 obtain ⟨r13, hx14, h⟩ := ob_some h
 obtain ⟨r15, hx16, h⟩ := ob_some h
 refine AW.rd (.still 0 (.still 1 (.still 2 (.still 3 (.still 4 (.still 6 (.act 5 (.act 7 (.act 8 (.still 9 (.still 10 (.still 11 (.still 12 (.still 13 .nil)))))))))))))) [1] [_] I (AP.r 6 [.o 0 0] I ⟨I, trivial⟩ (AP.act [0] I I I (AX.cg [0] (L.keep_Src_Range_ok b5 r7.2.2.2.2 1 20 _ hx12) ?_)))
 rintro _ _ _ - ⟨rfl, rfl, rfl⟩
 refine AP.act [0] I I I (AX.cg [0] (L.law19_bounds_ok b5 r11.2 _ hx14) ?_)
 rintro _ _ _ - ⟨rfl, rfl, rfl⟩
 refine AP.act [] I I I (AX.call0 I I I (L.ref19_Along_ok r7.1 r7.2.1 r7.2.2.1 r7.2.2.2.1 r11.1 r13.1 _ hx16) (dst_some I) ?_)
 rintro _ _ ⟨v17, rfl, rfl⟩
 refine AP.q 5 I (AP.ofAO (AO.nil ?_))
 subst hy10
 refine AW.seqG (fun y18 hy18 => ?_)
 obtain ⟨r20, hx21, h⟩ := ob_some h
 refine AW.region (AO.q 1 I (AO.act [] I (AX.lt 1 (([(-100000), 0, 200000] : List Int).map rI) (AO.act [0] I (AX.cg [0] (L.keep_Src_Pick_ok b5 r13.2 ([(-100000), 0, 200000] : List Int) _ hx21) ?_)))))
 rintro _ _ _ - ⟨rfl, rfl, rfl⟩
 refine AO.q 1 I (AO.nil ?_)
 subst hy18
 refine AW.seqG (fun y22 hy22 => ?_)
 obtain ⟨r23, hx24, h⟩ := ob_some h
 refine AW.region (AO.r 3 [.o 0 1] I ⟨I, trivial⟩ (AO.act [] I (AX.callL I (.refl _) I I (.cons (.refl _) (.cons (.us 2 I) (.rest _))) I (L.gradient_Keeps_ok r7.1 r15.1 r20.1 _ hx24) (dst_some I) (by rintro _ _ ⟨rfl, _⟩; rfl) ?_)))
 rintro _ ⟨_, rfl, -⟩
 refine AO.q 5 I (AO.nil ?_)
 subst hy22
 refine AW.cutX (fun s ob => ∃ (j86 : Unit), L.law19_GradientKeeps.J1 more_1 r7 r15 r20 r23 j86 = some r ∧ s = [] ∧ ob = [.arr b9 29 7 1 [Segment.row r7.1], .us v17 43 3 (r15.1.map Level.row)]) [(1, _), (6, _), (7, _), (10, _), (12, _), (13, _), (14, _)] ⟨I, I, I, I, I, I, I, trivial⟩ ?_ ?_
 refine AW.seqG (fun y225 hy225 => (AW.region (AO.q 1 I (AO.d (Yd.lenUM 2 I I I I) I (AO.q 1 I (AO.nil ?_))))))
 subst hy225
 refine AW.block (AW.usMax 2 I (fun hm228 => ?_))
 replace hm228 : r15.1.length ≤ 9223372036854775806 := by rw [List.length_map] at hm228; omega
 obtain ⟨o284, hL285, hR286⟩ := ob_some h
 clear h
 refine AW.forIX hL285 [(1, _), (6, _), (7, _), (10, _), (12, _), (13, _), (14, _), (53, _), (54, _)] ⟨I, I, I, I, I, I, I, I, I, trivial⟩ (fun (k226 : Nat) (st257 : Unit) s ob => s = [(55, .v (.int .i64 (k226 : Int)))] ∧ ob = [.arr b9 29 7 1 [Segment.row r7.1], .us v17 43 3 (r15.1.map Level.row)]) ⟨I, I⟩ ⟨I, trivial⟩ ⟨[1, 2], I, by decide⟩ ?_ ?_
 rintro k226 st257 r288 s ob hk227 ⟨rfl, rfl⟩ h hb287
 unfold L.law19_GradientKeeps.B5 at h
 have hk227t : decide ((k226 : Int) < (r15.1.length : Int)) = true := decide_eq_true (by omega)
 refine AW.z I (AW.seqG (fun y290 hy290 => (AW.condK (v := true) I hk227t (AW.skip ?_))))
 subst hy290
 refine AW.seq (AW.block (AW.seqG (fun y291 hy291 => ?_)))
 obtain ⟨p292, hp293, h⟩ := ob_some h
 obtain ⟨hp293i, hp293x⟩ := ix_some hp293
 refine AW.region (AO.d (Yd.indexU 1 (m := p292.1) I I I I I I I hp293i (map_get hp293x)) I (AO.d (Yd.loadU 1 p292.1 0 I I I (map_get hp293x) I (y := .agg (Level.row p292.2)) I) I (AO.act [] I (AX.alloc (cs := [.v (.int .i64 0), .v (.int .i64 0), .v (.int .i64 0)]) (m := 3) I I I I I (dst_some I) (fun b294 => (AO.act [2] I (AX.store 2 0 0 (es' := [Level.row p292.2]) I I I I I I I I (le_ble I) I I (AO.nil ?_))))))))
 subst hy291
 refine AW.cutX (fun s ob => ∃ (j298 : Bool), L.law19_GradientKeeps.J6 r23 p292 j298 = some r288 ∧ s = [(17, .v (.bool j298))] ∧ ob = [.arr b9 29 7 1 [Segment.row r7.1], .us v17 43 3 (r15.1.map Level.row), .arr b294 43 3 1 [Level.row p292.2]]) [(1, _), (6, _), (7, _), (10, _), (12, _), (13, _), (14, _), (16, _), (53, _), (54, _), (55, _)] ⟨I, I, I, I, I, I, I, I, I, I, I, trivial⟩ ?_ ?_
 obtain ⟨r315, hx316, h⟩ := ob_some h
 rcases Bool.eq_false_or_eq_true (decide (p292.2.Bounds.High > r315)) with hg317 | hg317
 replace h := ife_t hg317 h
 refine AW.rd (pd 16 0 [6]) [2, 0] [_, _] I (AP.r 6 [.o 2 0, .o 3 1, .o 5 0] I ⟨I, I, I, trivial⟩ (AP.c I (L.ref19_Limit_ok r7.1 p292.2.At _ hx316) (AP.q 2 I (AP.known 67 I hg317 (AP.q 7 I (AP.ofAO (AO.nil ?_)))))))
 exact lg ⟨true, h, I, I⟩ [0, 1, 2]
 replace h := ife_f hg317 h
 refine AW.rd (pd 16 0 [6]) [2, 0] [_, _] I (AP.r 6 [.o 2 0, .o 3 1, .o 5 0] I ⟨I, I, I, trivial⟩ (AP.c I (L.ref19_Limit_ok r7.1 p292.2.At _ hx316) (AP.q 2 I (AP.known 67 I hg317 (AP.r 7 [.o 2 0] I ⟨I, trivial⟩ (AP.ofAO (AO.nil ?_)))))))
 exact lg ⟨decide (p292.2.Bounds.Low < r20.1), h, I, I⟩ [0, 1, 2]
 rintro s ob ⟨j298, h, rfl, rfl⟩
 unfold L.law19_GradientKeeps.J6 at h
 refine AW.cutX (fun s ob => s = [(99, .v (.bool (bif (r23.2 == 15) then ((j298 != (p292.2.At == r23.1)) && ((r23.2 == 0) || (decide (p292.2.At < r23.1) || (p292.2.At == r23.1)))) else ((j298 != false) && ((r23.2 == 0) || (decide (p292.2.At < r23.1) || (p292.2.At == r23.1)))))))] ∧ ob = [.arr b9 29 7 1 [Segment.row r7.1], .us v17 43 3 (r15.1.map Level.row)]) [(1, _), (6, _), (7, _), (10, _), (12, _), (13, _), (14, _), (53, _), (54, _), (55, _)] ⟨I, I, I, I, I, I, I, I, I, I, trivial⟩ ?_ ?_
 rcases Bool.eq_false_or_eq_true ((r23.2 == 15)) with hg307 | hg307
 rcases Bool.eq_false_or_eq_true ((j298 != (p292.2.At == r23.1))) with hg308 | hg308
 rcases Bool.eq_false_or_eq_true ((r23.2 == 0)) with hg309 | hg309
 refine AW.region (AO.q 4 I (AO.known 77 I hg307 (AO.r 5 [.o 1 2] I ⟨I, trivial⟩ (AO.p (Yp.neqB I I I I) I (AO.q 1 I (AO.known 84 I hg308 (AO.q 3 I (AO.known 87 I hg309 (AO.q 12 I (AO.nil ?_))))))))))
 exact lf ⟨I, I⟩ ⟨(get_b (by simp only [hg307, hg308, hg309, bz])), I, I, I, I, I, I, I, I, I, I, trivial⟩ [0, 1] I
 rcases Bool.eq_false_or_eq_true (decide (p292.2.At < r23.1)) with hg310 | hg310
 refine AW.region (AO.q 4 I (AO.known 77 I hg307 (AO.r 5 [.o 1 2] I ⟨I, trivial⟩ (AO.p (Yp.neqB I I I I) I (AO.q 1 I (AO.known 84 I hg308 (AO.q 3 I (AO.known 87 I hg309 (AO.r 6 [.o 1 2] I ⟨I, trivial⟩ (AO.known 93 I hg310 (AO.q 6 I (AO.nil ?_))))))))))))
 exact lf ⟨I, I⟩ ⟨(get_b (by simp only [hg307, hg308, hg309, hg310, bz])), I, I, I, I, I, I, I, I, I, I, trivial⟩ [0, 1] I
 refine AW.region (AO.q 4 I (AO.known 77 I hg307 (AO.r 5 [.o 1 2] I ⟨I, trivial⟩ (AO.p (Yp.neqB I I I I) I (AO.q 1 I (AO.known 84 I hg308 (AO.q 3 I (AO.known 87 I hg309 (AO.r 6 [.o 1 2] I ⟨I, trivial⟩ (AO.known 93 I hg310 (AO.r 6 [.o 1 2] I ⟨I, trivial⟩ (AO.nil ?_))))))))))))
 exact lf ⟨I, I⟩ ⟨(get_b (by simp only [hg307, hg308, hg309, hg310, bz])), I, I, I, I, I, I, I, I, I, I, trivial⟩ [0, 1] I
 refine AW.region (AO.q 4 I (AO.known 77 I hg307 (AO.r 5 [.o 1 2] I ⟨I, trivial⟩ (AO.p (Yp.neqB I I I I) I (AO.q 1 I (AO.known 84 I hg308 (AO.q 3 I (AO.skipU I I (dst_some I) (AO.skipU I I (dst_some I) (AO.skipU I I (dst_some I) (AO.skipU I I (dst_some I) (AO.q 2 I ?_))))))))))))
 refine AO.skipU I I (dst_some I) (AO.skipU I I (dst_some I) (AO.skipU I I (dst_some I) (AO.skipU I I (dst_some I) (AO.q 2 I (AO.nil ?_)))))
 exact lf ⟨I, I⟩ ⟨(get_b (by simp only [hg307, hg308, bz])), I, I, I, I, I, I, I, I, I, I, trivial⟩ [0, 1] I
 rcases Bool.eq_false_or_eq_true ((j298 != false)) with hg311 | hg311
 rcases Bool.eq_false_or_eq_true ((r23.2 == 0)) with hg312 | hg312
 refine AW.region (AO.q 4 I (AO.known 77 I hg307 (AO.q 5 I (AO.p (Yp.neqB I I I I) I (AO.q 1 I (AO.known 84 I hg311 (AO.q 3 I (AO.known 87 I hg312 (AO.q 12 I (AO.nil ?_))))))))))
 exact lf ⟨I, I⟩ ⟨(get_b (by simp only [hg307, hg311, hg312, bz])), I, I, I, I, I, I, I, I, I, I, trivial⟩ [0, 1] I
 rcases Bool.eq_false_or_eq_true (decide (p292.2.At < r23.1)) with hg313 | hg313
 refine AW.region (AO.q 4 I (AO.known 77 I hg307 (AO.q 5 I (AO.p (Yp.neqB I I I I) I (AO.q 1 I (AO.known 84 I hg311 (AO.q 3 I (AO.known 87 I hg312 (AO.r 6 [.o 1 2] I ⟨I, trivial⟩ (AO.known 93 I hg313 (AO.q 6 I (AO.nil ?_))))))))))))
 exact lf ⟨I, I⟩ ⟨(get_b (by simp only [hg307, hg311, hg312, hg313, bz])), I, I, I, I, I, I, I, I, I, I, trivial⟩ [0, 1] I
 refine AW.region (AO.q 4 I (AO.known 77 I hg307 (AO.q 5 I (AO.p (Yp.neqB I I I I) I (AO.q 1 I (AO.known 84 I hg311 (AO.q 3 I (AO.known 87 I hg312 (AO.r 6 [.o 1 2] I ⟨I, trivial⟩ (AO.known 93 I hg313 (AO.r 6 [.o 1 2] I ⟨I, trivial⟩ (AO.nil ?_))))))))))))
 exact lf ⟨I, I⟩ ⟨(get_b (by simp only [hg307, hg311, hg312, hg313, bz])), I, I, I, I, I, I, I, I, I, I, trivial⟩ [0, 1] I
 refine AW.region (AO.q 4 I (AO.known 77 I hg307 (AO.q 5 I (AO.p (Yp.neqB I I I I) I (AO.q 1 I (AO.known 84 I hg311 (AO.q 3 I (AO.skipU I I (dst_some I) (AO.skipU I I (dst_some I) (AO.skipU I I (dst_some I) (AO.skipU I I (dst_some I) (AO.q 2 I ?_))))))))))))
 refine AO.skipU I I (dst_some I) (AO.skipU I I (dst_some I) (AO.skipU I I (dst_some I) (AO.skipU I I (dst_some I) (AO.q 2 I (AO.nil ?_)))))
 exact lf ⟨I, I⟩ ⟨(get_b (by simp only [hg307, hg311, bz])), I, I, I, I, I, I, I, I, I, I, trivial⟩ [0, 1] I
 rintro s ob ⟨rfl, rfl⟩
 refine AW.ch h I ?_ ?_
 intro hc314 h
 refine AW.z I ?_
 obtain rfl := hb287 _ (Option.some.inj h).symm
 replace h := hR286
 replace h := se_r h
 refine AW.ghost (Ghost.pick [] (K := []) I (by decide)) ?_
 obtain rfl := Option.some.inj h
 exact AW.ret ⟨.inr I, [_], [], ⟨I, trivial⟩, sl_n, I, I⟩
 intro hc314 h
 refine AW.skip (AW.region (AO.r 2 [.k 0 (k226 + 1 : Nat)] I ⟨cast_wr hk227 hm228, trivial⟩ ?_))
 obtain rfl := Option.some.inj h
 refine AO.nil ?_
 exact ⟨_, _, _, I, ⟨I, I⟩, ⟨I, I, I, I, I, I, I, I, I, I, trivial⟩, [0, 1], I, by decide⟩
 rintro st257 s ob ⟨rfl, rfl⟩ he
 subst he
 have h := se_l hR286
 have hk227f : decide (((r15.1.length : Nat) : Int) < (r15.1.length : Int)) = false := by simp
 refine AW.z I (AW.seqG (fun y319 hy319 => (AW.condK (v := false) I hk227f (AW.exit ?_))))
 exact lg ⟨(), h, I, I⟩ [0, 1]
 rintro s ob ⟨j86, h, rfl, rfl⟩
 unfold L.law19_GradientKeeps.J1 at h
 refine AW.seqG (fun y87 hy87 => (AW.region (AO.r 1 [.o 0 0] I ⟨I, trivial⟩ (AO.act [] I (AX.alloc (cs := [.v (.string ⟨#[]⟩), .v (.int .i64 0), .v (.int .i64 0), .v (.int .i64 0), .v (.int .i64 0), .v (.int .i64 0), .v (.slice none 0 0)]) (m := 7) I I I I I (dst_some I) (fun b88 => (AO.act [2] I (AX.store 2 0 0 (es' := [Segment.row r7.1]) I I I I I I I I (le_ble I) I I (AO.nil ?_)))))))))
 subst hy87
 refine AW.seqG (fun y89 hy89 => ?_)
 obtain ⟨l91, hx92, h⟩ := ob_some h
 refine AW.region (AO.act [] I (AX.buildSlice (sz := 3) (es := ([] : List Point).map Point.row) I I I I I I I I I I I (dst_some I) (fun v90 => (AO.r 2 [.o 1 0] I ⟨I, trivial⟩ (AO.act [3] I (AX.ap 3 I hx92 (fun v93 => (AO.q 1 I (AO.one 3 I (fun v93o => (AO.act [2] I (AX.store 2 0 6 (es' := [[.v (.string r7.1.Name), .v (.int .i64 r7.1.From), .v (.int .i64 r7.1.To), .v (.int .i64 r7.1.Capacity), .v (.int .i64 r7.1.Resist), .v (.int .i64 r7.1.Wave), .v v93]]) I I I I I I (cells_v v93o) I (le_ble I) I I (AO.nil ?_)))))))))))))
 subst hy89
 refine AW.cutX (fun s ob => ∃ (j125 : List Point), L.law19_GradientKeeps.J2 more_1 r7 r15 r20 r23 j125 = some r ∧ s = [] ∧ ob = [.us v17 43 3 (r15.1.map Level.row), .arr b88 29 7 1 [[.v (.string r7.1.Name), .v (.int .i64 r7.1.From), .v (.int .i64 r7.1.To), .v (.int .i64 r7.1.Capacity), .v (.int .i64 r7.1.Resist), .v (.int .i64 r7.1.Wave), .v v93]], .us v93 47 3 (j125.map Point.row)]) [(1, _), (7, _), (10, _), (12, _), (13, _), (14, _), (18, _)] ⟨I, I, I, I, I, I, I, trivial⟩ ?_ ?_
 refine AW.seqG (fun y182 hy182 => (AW.region (AO.r 2 [.o 1 2] I ⟨I, trivial⟩ (AO.d (Yd.lenUM 3 I I I I) I (AO.q 1 I (AO.nil ?_))))))
 subst hy182
 refine AW.block (AW.usMax 3 I (fun hm185 => ?_))
 replace hm185 : l91.length ≤ 9223372036854775806 := by rw [List.length_map] at hm185; omega
 obtain ⟨o211, hL212, hR213⟩ := ob_some h
 clear h
 refine AW.forJY hL212 [(1, _), (7, _), (10, _), (12, _), (13, _), (14, _), (18, _), (109, _)] ⟨I, I, I, I, I, I, I, I, trivial⟩ (fun (k183 : Nat) (st203 : List Point) s ob => s = [(110, .v (.int .i64 (k183 : Int)))] ∧ ob = [.us v17 43 3 (r15.1.map Level.row), .arr b88 29 7 1 [[.v (.string r7.1.Name), .v (.int .i64 r7.1.From), .v (.int .i64 r7.1.To), .v (.int .i64 r7.1.Capacity), .v (.int .i64 r7.1.Resist), .v (.int .i64 r7.1.Wave), .v v93]], .us v93 47 3 (st203.map Point.row)]) ⟨I, I⟩ ⟨I, trivial⟩ ⟨[1, 2, 3], I, by decide⟩ ?_ ?_
 rintro k183 st203 r215 s ob hk184 ⟨rfl, rfl⟩ h
 unfold L.law19_GradientKeeps.B4 at h
 have hk184t : decide ((k183 : Int) < (l91.length : Int)) = true := decide_eq_true (by omega)
 refine AW.z I (AW.seqG (fun y217 hy217 => (AW.condK (v := true) I hk184t (AW.skip ?_))))
 subst hy217
 refine AW.seq (AW.block (AW.z I ?_))
 obtain ⟨p219, hp220, h⟩ := ob_some h
 obtain ⟨hp220i, hp220x⟩ := ix_some hp220
 refine AW.form 2 p219.1 I hp220x (fun hf221 => (AW.form 2 p219.1 I hp220x (fun hf222 => (AW.rd (.still 0 (.still 1 (.still 2 (.still 3 (.still 4 (.still 5 (.still 6 (.still 7 (.still 8 (.still 9 (.still 10 (.still 11 (.still 12 (.still 13 (.still 14 (.drop 15 .nil)))))))))))))))) [1, 2] [_, _] I (AP.r 6 [.o 1 0, .o 4 0] I ⟨I, I, trivial⟩ (AP.op I (Yp.indexUf (m := p219.1) I I I I I hf221 I hp220i hp220x) I (AP.q 1 I (AP.o I (Yd.loadU 1 p219.1 2 I I I (map_get hp220x) I (y := .v (.int .i64 p219.2.Limit)) I) I (AP.q 1 I (AP.op I (Yp.convI (c := wr (more_1)) I I I I I) I (AP.q 2 I (AP.op I (Yp.indexUf (m := p219.1) I I I I I hf222 I hp220i hp220x) I (AP.q 1 I (AP.drop [2] I I I (AX.storeU 2 p219.1 2 I I I (map_get hp220x) I I I I (le_ble I) I (us_set (x := (⟨p219.2.At, p219.2.Height, (min 100000000 (wr (p219.2.Limit + (wr (more_1)))))⟩ : Point)) I) ?_)))))))))))))))
 refine AP.ofAO (AO.nil (AW.region (AO.r 2 [.k 0 (k183 + 1 : Nat)] I ⟨cast_wr hk184 hm185, trivial⟩ ?_)))
 obtain rfl := Option.some.inj h
 refine AO.nil ?_
 exact lg ⟨I, I⟩ [0, 1, 2]
 rintro st203 s ob ⟨rfl, rfl⟩ he
 subst he
 have h := hR213
 have hk184f : decide (((l91.length : Nat) : Int) < (l91.length : Int)) = false := by simp
 refine AW.z I (AW.seqG (fun y224 hy224 => (AW.condK (v := false) I hk184f (AW.exit ?_))))
 exact lg ⟨st203, h, I, I⟩ [0, 1, 2]
 rintro s ob ⟨j125, h, rfl, rfl⟩
 unfold L.law19_GradientKeeps.J2 at h
 refine AW.seqG (fun y126 hy126 => ?_)
 obtain ⟨r127, hx128, h⟩ := ob_some h
 refine AW.region (AO.r 4 [.o 0 1] I ⟨I, trivial⟩ (AO.p (Yp.convI (c := wr (more_1)) I I I I I) I (AO.q 1 I (AO.act [] I (AX.callL I (.refl _) I I (.cons (.agg (.cons (.refl _) (.cons (.refl _) (.cons (.refl _) (.cons (.refl _) (.cons (.refl _) (.cons (.refl _) (.cons (.us 2 I) (.rest _))))))))) (.cons (.us 0 I) (.rest _))) I (L.gradient_Keeps_ok (⟨r7.1.Name, r7.1.From, r7.1.To, r7.1.Capacity, r7.1.Resist, r7.1.Wave, j125⟩ : Segment) r15.1 (wr (r20.1 - (wr (more_1)))) _ hx128) (dst_some I) (by rintro _ _ ⟨rfl, _⟩; rfl) ?_)))))
 rintro _ ⟨_, rfl, -⟩
 refine AO.q 5 I (AO.nil ?_)
 subst hy126
 refine AW.cutX (fun s ob => ∃ (j155 : Bool), L.law19_GradientKeeps.J3 j155 = some r ∧ s = [(4, .v (.bool j155))] ∧ ob = []) [] trivial ?_ ?_
 obtain ⟨r156, hx157, h⟩ := ob_some h
 rcases Bool.eq_false_or_eq_true (r156) with hg158 | hg158
 replace h := ife_t hg158 h
 rcases Bool.eq_false_or_eq_true ((r23.2 == 0)) with hg159 | hg159
 replace h := ife_t hg159 h
 rcases Bool.eq_false_or_eq_true ((r23.1 == (-1))) with hg160 | hg160
 replace h := ife_t hg160 h
 rcases Bool.eq_false_or_eq_true ((r127.2 == 0)) with hg161 | hg161
 replace h := ife_t hg161 h
 obtain ⟨r162, hx163, h⟩ := ob_some h
 refine AW.region (AO.q 1 I (AO.c (L.ref14_Valid_ok r7.2.1 _ hx157) (AO.q 1 I (AO.known 141 I hg158 (AO.q 3 I (AO.known 144 I hg159 (AO.q 4 I (AO.known 148 I hg160 (AO.q 4 I (AO.known 152 I hg161 (AO.q 3 I (AO.skipU I I (dst_some I) ?_))))))))))))
 refine AO.skipU I I (dst_some I) (AO.skipU I I (dst_some I) (AO.skipU I I (dst_some I) (AO.skipU I I (dst_some I) (AO.skipU I I (dst_some I) (AO.q 4 I (AO.gt I I I (AO.c (L.law19_awake_ok  _ hx163) (AO.q 2 I (AO.nil ?_)))))))))
 exact lg ⟨r162, h, I, I⟩ []
 replace h := ife_f hg161 h
 rcases Bool.eq_false_or_eq_true ((r23.2 == 15)) with hg164 | hg164
 replace h := ife_t hg164 h
 rcases Bool.eq_false_or_eq_true ((r127.2 == 15)) with hg165 | hg165
 replace h := ife_t hg165 h
 obtain ⟨r166, hx167, h⟩ := ob_some h
 refine AW.region (AO.q 1 I (AO.c (L.ref14_Valid_ok r7.2.1 _ hx157) (AO.q 1 I (AO.known 141 I hg158 (AO.q 3 I (AO.known 144 I hg159 (AO.q 4 I (AO.known 148 I hg160 (AO.q 4 I (AO.known 152 I hg161 (AO.q 3 I (AO.known 155 I hg164 ?_))))))))))))
 refine AO.q 3 I (AO.known 158 I hg161 (AO.q 7 I (AO.known 165 I hg165 (AO.gt I I I (AO.c (L.law19_awake_ok  _ hx167) (AO.q 2 I (AO.nil ?_)))))))
 exact lg ⟨r166, h, I, I⟩ []
 replace h := ife_f hg165 h
 refine AW.region (AO.q 1 I (AO.c (L.ref14_Valid_ok r7.2.1 _ hx157) (AO.q 1 I (AO.known 141 I hg158 (AO.q 3 I (AO.known 144 I hg159 (AO.q 4 I (AO.known 148 I hg160 (AO.q 4 I (AO.known 152 I hg161 (AO.q 3 I (AO.known 155 I hg164 ?_))))))))))))
 refine AO.q 3 I (AO.known 158 I hg161 (AO.q 7 I (AO.known 165 I hg165 (AO.q 3 I (AO.nil ?_)))))
 exact lg ⟨false, h, I, I⟩ []
 replace h := ife_f hg164 h
 refine AW.region (AO.q 1 I (AO.c (L.ref14_Valid_ok r7.2.1 _ hx157) (AO.q 1 I (AO.known 141 I hg158 (AO.q 3 I (AO.known 144 I hg159 (AO.q 4 I (AO.known 148 I hg160 (AO.q 4 I (AO.known 152 I hg161 (AO.q 3 I (AO.known 155 I hg164 ?_))))))))))))
 refine AO.q 3 I (AO.skipU I I (dst_some I) (AO.skipU I I (dst_some I) (AO.q 8 I (AO.nil ?_))))
 exact lg ⟨false, h, I, I⟩ []
 replace h := ife_f hg160 h
 rcases Bool.eq_false_or_eq_true ((r23.2 == 15)) with hg168 | hg168
 replace h := ife_t hg168 h
 rcases Bool.eq_false_or_eq_true ((r127.2 == 0)) with hg169 | hg169
 replace h := ife_t hg169 h
 obtain ⟨r170, hx171, h⟩ := ob_some h
 refine AW.region (AO.q 1 I (AO.c (L.ref14_Valid_ok r7.2.1 _ hx157) (AO.q 1 I (AO.known 141 I hg158 (AO.q 3 I (AO.known 144 I hg159 (AO.q 4 I (AO.known 148 I hg160 (AO.q 7 I (AO.known 155 I hg168 (AO.q 3 I (AO.known 158 I hg169 ?_))))))))))))
 refine AO.q 7 I (AO.gt I I I (AO.c (L.law19_awake_ok  _ hx171) (AO.q 2 I (AO.nil ?_))))
 exact lg ⟨r170, h, I, I⟩ []
 replace h := ife_f hg169 h
 rcases Bool.eq_false_or_eq_true ((r127.2 == 15)) with hg172 | hg172
 replace h := ife_t hg172 h
 obtain ⟨r173, hx174, h⟩ := ob_some h
 refine AW.region (AO.q 1 I (AO.c (L.ref14_Valid_ok r7.2.1 _ hx157) (AO.q 1 I (AO.known 141 I hg158 (AO.q 3 I (AO.known 144 I hg159 (AO.q 4 I (AO.known 148 I hg160 (AO.q 7 I (AO.known 155 I hg168 (AO.q 3 I (AO.known 158 I hg169 ?_))))))))))))
 refine AO.q 7 I (AO.known 165 I hg172 (AO.gt I I I (AO.c (L.law19_awake_ok  _ hx174) (AO.q 2 I (AO.nil ?_)))))
 exact lg ⟨r173, h, I, I⟩ []
 replace h := ife_f hg172 h
 refine AW.region (AO.q 1 I (AO.c (L.ref14_Valid_ok r7.2.1 _ hx157) (AO.q 1 I (AO.known 141 I hg158 (AO.q 3 I (AO.known 144 I hg159 (AO.q 4 I (AO.known 148 I hg160 (AO.q 7 I (AO.known 155 I hg168 (AO.q 3 I (AO.known 158 I hg169 ?_))))))))))))
 refine AO.q 7 I (AO.known 165 I hg172 (AO.q 3 I (AO.nil ?_)))
 exact lg ⟨false, h, I, I⟩ []
 replace h := ife_f hg168 h
 refine AW.region (AO.q 1 I (AO.c (L.ref14_Valid_ok r7.2.1 _ hx157) (AO.q 1 I (AO.known 141 I hg158 (AO.q 3 I (AO.known 144 I hg159 (AO.q 4 I (AO.known 148 I hg160 (AO.q 7 I (AO.known 155 I hg168 (AO.q 3 I (AO.skipU I I (dst_some I) ?_))))))))))))
 refine AO.skipU I I (dst_some I) (AO.q 8 I (AO.nil ?_))
 exact lg ⟨false, h, I, I⟩ []
 replace h := ife_f hg159 h
 rcases Bool.eq_false_or_eq_true ((r23.2 == 15)) with hg175 | hg175
 replace h := ife_t hg175 h
 rcases Bool.eq_false_or_eq_true ((r127.2 == 0)) with hg176 | hg176
 replace h := ife_t hg176 h
 obtain ⟨r177, hx178, h⟩ := ob_some h
 refine AW.region (AO.q 1 I (AO.c (L.ref14_Valid_ok r7.2.1 _ hx157) (AO.q 1 I (AO.known 141 I hg158 (AO.q 3 I (AO.known 144 I hg159 (AO.q 11 I (AO.known 155 I hg175 (AO.q 3 I (AO.known 158 I hg176 (AO.q 7 I (AO.gt I I I ?_))))))))))))
 refine AO.c (L.law19_awake_ok  _ hx178) (AO.q 2 I (AO.nil ?_))
 exact lg ⟨r177, h, I, I⟩ []
 replace h := ife_f hg176 h
 rcases Bool.eq_false_or_eq_true ((r127.2 == 15)) with hg179 | hg179
 replace h := ife_t hg179 h
 obtain ⟨r180, hx181, h⟩ := ob_some h
 refine AW.region (AO.q 1 I (AO.c (L.ref14_Valid_ok r7.2.1 _ hx157) (AO.q 1 I (AO.known 141 I hg158 (AO.q 3 I (AO.known 144 I hg159 (AO.q 11 I (AO.known 155 I hg175 (AO.q 3 I (AO.known 158 I hg176 (AO.q 7 I (AO.known 165 I hg179 ?_))))))))))))
 refine AO.gt I I I (AO.c (L.law19_awake_ok  _ hx181) (AO.q 2 I (AO.nil ?_)))
 exact lg ⟨r180, h, I, I⟩ []
 replace h := ife_f hg179 h
 refine AW.region (AO.q 1 I (AO.c (L.ref14_Valid_ok r7.2.1 _ hx157) (AO.q 1 I (AO.known 141 I hg158 (AO.q 3 I (AO.known 144 I hg159 (AO.q 11 I (AO.known 155 I hg175 (AO.q 3 I (AO.known 158 I hg176 (AO.q 7 I (AO.known 165 I hg179 ?_))))))))))))
 refine AO.q 3 I (AO.nil ?_)
 exact lg ⟨false, h, I, I⟩ []
 replace h := ife_f hg175 h
 refine AW.region (AO.q 1 I (AO.c (L.ref14_Valid_ok r7.2.1 _ hx157) (AO.q 1 I (AO.known 141 I hg158 (AO.q 3 I (AO.known 144 I hg159 (AO.q 11 I (AO.known 155 I hg175 (AO.q 3 I (AO.skipU I I (dst_some I) (AO.skipU I I (dst_some I) (AO.q 8 I ?_))))))))))))
 refine AO.nil ?_
 exact lg ⟨false, h, I, I⟩ []
 replace h := ife_f hg158 h
 refine AW.region (AO.q 1 I (AO.c (L.ref14_Valid_ok r7.2.1 _ hx157) (AO.q 1 I (AO.known 141 I hg158 (AO.q 3 I (AO.skipU I I (dst_some I) (AO.skipU I I (dst_some I) (AO.q 2 I (AO.skipU I I (dst_some I) (AO.skipU I I (dst_some I) (AO.q 2 I (AO.skipU I I (dst_some I) ?_))))))))))))
 refine AO.skipU I I (dst_some I) (AO.skipU I I (dst_some I) (AO.skipU I I (dst_some I) (AO.skipU I I (dst_some I) (AO.skipU I I (dst_some I) (AO.skipU I I (dst_some I) (AO.skipU I I (dst_some I) (AO.skipU I I (dst_some I) (AO.skipU I I (dst_some I) (AO.q 6 I (AO.nil ?_))))))))))
 exact lg ⟨false, h, I, I⟩ []
 rintro s ob ⟨j155, h, rfl, rfl⟩
 unfold L.law19_GradientKeeps.J3 at h
 obtain rfl := Option.some.inj h
 exact AW.ret ⟨.inr I, [_], [], ⟨I, trivial⟩, sl_n, I, I⟩

end Go.Proofs.YtncfbhnecmnfpaaGreatDoor
