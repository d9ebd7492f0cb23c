/- Walks that show what functions of the program compute; printed by a program of ours. No condition. -/
import Derived.Test.YtaliejncdnegeaaGreatZvLv1
import Derived.Test.YtaliejncdnegeaaGreatZvL4c
import Derived.Test.YtaliejncdnegeaaGreatZvL4b
import Derived.Test.YtaliejncdnegeaaGreatZvD
set_option maxRecDepth 100000
namespace Go.Proofs.YtaliejncdnegeaaGreat
open Go.Aw
set_option linter.unusedVariables false
set_option linter.unusedSimpArgs false
set_option maxHeartbeats 4000000
theorem L.zznx_ok (a1 : List Int) (E : Int) (Q : Int) (r : Bool) (h : L.zznx a1 E Q = some r) : ACalls Tryz.env 4 [.list 1 (a1.map rI), .v (.int .u8 E), .v (.int .u8 Q)] [] (fun x new => x = .v (.bool r) ∧ new = []) := by
 refine ACalls.of_body Tryz.func4 rfl rfl rfl (fun C hC => ?_)
 unfold L.zznx at h
 refine AW.z I (AW.seqG (fun y2 bd => (AW.seq (AW.region (AO.q 1 I (AO.c (L.zqaf_ok a1 _ I) (AO.q 1 I (AO.nil (AW.ch h I ?_ ?_)))))))))
 intro be h
 refine AW.seq ?_
 obtain ⟨r4, bf, h⟩ := ob_some h
 refine AW.region (AO.c (L.zuro_ok  _ bf) (AO.q 1 I (AO.nil ?_)))
 obtain rfl := oi h
 exact AW.ret pr
 intro be h
 refine AW.skip ?_
 subst bd
 refine AW.seqG (fun y6 bg => ?_)
 obtain ⟨r7, bh, h⟩ := ob_some h
 refine AW.region (AO.q 1 I (AO.act [] I (AX.call0 I I I (L.ziti_ok _ _ bh) dS ?_)))
 rintro _ _ ⟨A, rfl, rfl⟩
 refine AO.q 1 I (AO.nil ?_)
 subst bg
 refine AW.seqG (fun d5 bi => ?_)
 obtain ⟨H, bj, h⟩ := ob_some h
 refine AW.region (AO.q 1 I (AO.act [0] I (AX.c0 [0] (L.zeju_ok A _ _ bj) ?_)))
 refine AO.act [] I (AX.alloc (cs := [.N, .N, .N, .N, .V 0, .V 0]) (m := 6) I I I I I dS (fun ad => (AO.act [1] I (AX.store 1 0 0 (es' := [Network.row H.1]) I I I I I I I I (le_ble I) I I (AO.nil ?_)))))
 subst bi
 refine AW.cutX (fun s ob => ∃ (i : (List Int) × Int × (List (List Piece)) × (List Int) × (List Int) × (List Bool) × (List Int)) (ap : Value) (R : Nat) (aq : Value), L.zznx.J1 E Q H i = some r ∧ s = [(9, .v ap), (10, .v (.pointer (some ⟨R, 0, none⟩))), (11, .v aq)] ∧ ob = [.arr A 86 2 1 [[.list 1 (i.1.map rI), .V i.2.1]], .arr ad 32 6 1 [Network.row H.1], .us ap 35 1 (i.2.2.1.map (rL 2 Piece.row)), .us aq 3 1 (i.2.2.2.2.2.2.map rI), .arr R 46 3 1 [[.list 1 (i.2.2.2.1.map rI), .list 1 (i.2.2.2.2.1.map rI), .list 1 (i.2.2.2.2.2.1.map rB)]]]) [(1, _), (2, _), (7, _), (8, _)] ⟨I, I, I, I, J⟩ ?_ ?_
 obtain ⟨ar, a6, h⟩ := ob_some h
 obtain ⟨w, a2, h⟩ := ob_some h
 obtain ⟨D, au, h⟩ := ob_some h
 refine AW.rd (.still 0 (.still 1 (.still 3 (.still 4 (.still 6 (.still 7 (.two 2 9 (.two 5 9 (.two 8 9 (.act 9 (.still 10 (.act 11 (.still 12 .nil)))) (.act 8 (.still 10 (.act 11 (.still 12 .nil))))) (.act 5 (.act 8 (.still 10 (.act 11 (.still 12 .nil)))))) (.act 2 (.act 5 (.act 8 (.still 10 (.act 11 (.still 12 .nil))))))))))))) [1] [_] I (AP.r 6 [.o 1 0, .o 3 0, .o 5 0] I ⟨I, I, I, J⟩ (AP.two ?_ ?_))
 refine AP.act [0] I I I (AX.cg [0] (L.zbhc_ok A _ _ _ _ a6) ?_)
 rintro _ _ _ - ⟨aj, rfl, rfl, rfl⟩
 refine AP.two ?_ ?_
 refine AP.act [0] I I I (AX.c0 [0] (L.zjbu_ok A _ _ _ a2) ?_)
 refine AP.two ?_ ?_
 refine AP.act [0] I I I (AX.cg [0] (L.zork_ok A _ _ _ _ au) ?_)
 rintro _ _ _ - ⟨Y, rfl, rfl, rfl⟩
 refine AP.act [] I I I (AX.alloc (cs := [.N, .N, .N]) (m := 3) I I I I I dS (fun Z => (AP.q 1 I (AP.act [4] I I I (AX.store 4 0 0 (es' := [Plan.row w.1]) I I I I I I I I (le_ble I) I I (AP.q 1 I (AP.ofAO (AO.nil ?_))))))))
 exact lg ⟨(D.2.L_, D.2.At, ar.1, w.1.Rates, w.1.Ports, w.1.Pumps, D.1), aj, Z, Y, h, I, I⟩ [0, 1, 2, 3, 4]
 refine AP.act [] I I I (AX.alloc (cs := [.N, .N, .N]) (m := 3) I I I I I dS (fun Z => (AP.act [0] I I I (AX.cg [0] (L.zork_ok A _ _ _ _ au) ?_))))
 rintro _ _ _ - ⟨Y, rfl, rfl, rfl⟩
 refine AP.q 1 I (AP.act [3] I I I (AX.store 3 0 0 (es' := [Plan.row w.1]) I I I I I I I I (le_ble I) I I (AP.q 1 I (AP.ofAO (AO.nil ?_)))))
 exact lg ⟨(D.2.L_, D.2.At, ar.1, w.1.Rates, w.1.Ports, w.1.Pumps, D.1), aj, Z, Y, h, I, I⟩ [0, 1, 2, 4, 3]
 refine AP.act [] I I I (AX.alloc (cs := [.N, .N, .N]) (m := 3) I I I I I dS (fun Z => (AP.act [0] I I I (AX.c0 [0] (L.zjbu_ok A _ _ _ a2) ?_))))
 refine AP.act [0] I I I (AX.cg [0] (L.zork_ok A _ _ _ _ au) ?_)
 rintro _ _ _ - ⟨Y, rfl, rfl, rfl⟩
 refine AP.q 1 I (AP.act [3] I I I (AX.store 3 0 0 (es' := [Plan.row w.1]) I I I I I I I I (le_ble I) I I (AP.q 1 I (AP.ofAO (AO.nil ?_)))))
 exact lg ⟨(D.2.L_, D.2.At, ar.1, w.1.Rates, w.1.Ports, w.1.Pumps, D.1), aj, Z, Y, h, I, I⟩ [0, 1, 2, 4, 3]
 refine AP.act [] I I I (AX.alloc (cs := [.N, .N, .N]) (m := 3) I I I I I dS (fun Z => (AP.act [0] I I I (AX.cg [0] (L.zbhc_ok A _ _ _ _ a6) ?_))))
 rintro _ _ _ - ⟨aj, rfl, rfl, rfl⟩
 refine AP.act [0] I I I (AX.c0 [0] (L.zjbu_ok A _ _ _ a2) ?_)
 refine AP.act [0] I I I (AX.cg [0] (L.zork_ok A _ _ _ _ au) ?_)
 rintro _ _ _ - ⟨Y, rfl, rfl, rfl⟩
 refine AP.q 1 I (AP.act [2] I I I (AX.store 2 0 0 (es' := [Plan.row w.1]) I I I I I I I I (le_ble I) I I (AP.q 1 I (AP.ofAO (AO.nil ?_)))))
 exact lg ⟨(D.2.L_, D.2.At, ar.1, w.1.Rates, w.1.Ports, w.1.Pumps, D.1), aj, Z, Y, h, I, I⟩ [0, 1, 3, 4, 2]
 rintro s ob ⟨i, ap, R, aq, h, rfl, rfl⟩
 unfold L.zznx.J1 at h
 refine AW.seqG (fun d6 bk => ?_)
 obtain ⟨a7, bl, h⟩ := ob_some h
 refine AW.region (AO.r 4 [.o 2 1, .l 3 (H.1.Ports.length : Int)] I ⟨len_m, I, J⟩ (AO.act [0] I (AX.c0 [0] (L.zdjb_ok A _ _ _ bl) ?_)))
 refine AO.q 1 I (AO.nil ?_)
 subst bk
 refine AW.seqG (fun d7 bm => (AW.region (AO.q 1 I (AO.p (Yp.convI (c := wr (E)) I I I I I) I (AO.r 2 [.f 0 (.V ((wr (E)).tmod 12))] I ⟨Yp.yd (Yp.binI (c := ((wr (E)).tmod 12)) I I ⟨by decide, I⟩), J⟩ (AO.p (Yp.convI (c := wr (E)) I I I I I) I (AO.r 2 [.f 0 (.V ((wr (E)).tmod 12))] I ⟨Yp.yd (Yp.binI (c := ((wr (E)).tmod 12)) I I ⟨by decide, I⟩), J⟩ (AO.p (Yp.convI (c := wr (Q)) I I I I I) I (AO.r 4 [.f 0 (.V ((wr (Q)).tmod 6))] I ⟨Yp.yd (Yp.binI (c := ((wr (Q)).tmod 6)) I I ⟨by decide, I⟩), J⟩ (AO.nil ?_))))))))))
 subst bm
 refine AW.seqG (fun d8 bn => ?_)
 obtain ⟨F, bo, h⟩ := ob_some h
 refine AW.region (AO.r 6 [.o 0 1, .o 2 4] I ⟨I, I, J⟩ (AO.ghost (Ghost.freeze [2, 3] (K := [.us ap 35 1 (i.2.2.1.map (rL 2 Piece.row)), .us aq 3 1 (i.2.2.2.2.2.2.map rI)]) I [(9, .list 1 (i.2.2.1.map (rL 2 Piece.row))), (11, .list 1 (i.2.2.2.2.2.2.map rI)), (55, .list 1 (i.2.2.1.map (rL 2 Piece.row))), (57, .list 1 (i.2.2.2.2.2.2.map rI))] ⟨⟨_, I, .us 0 I⟩, ⟨_, I, .us 1 I⟩, ⟨_, I, .us 0 I⟩, ⟨_, I, .us 1 I⟩, J⟩ (ob' := [.arr A 86 2 1 [KS.row a7.2], .arr ad 32 6 1 [Network.row H.1], .arr R 46 3 1 [[.list 1 (i.2.2.2.1.map rI), .list 1 (i.2.2.2.2.1.map rI), .list 1 (i.2.2.2.2.2.1.map rB)]]]) (.rest _)) (AO.act [] I (AX.call0 I I I (L.zrct_ok _ _ _ _ _ _ _ bo) dS ?_))))
 rintro _ _ ⟨av, rfl, rfl⟩
 refine AO.q 5 I (AO.nil ?_)
 subst bn
 refine AW.seqG (fun d9 bp => ?_)
 obtain ⟨S, bq, h⟩ := ob_some h
 refine AW.region (AO.r 6 [.o 0 1, .o 2 2] I ⟨I, I, J⟩ (AO.act [] I (AX.call0 I I I (L.zrct_ok _ _ _ _ _ _ _ bq) dS ?_)))
 rintro _ _ ⟨aw, rfl, rfl⟩
 refine AO.q 5 I (AO.nil ?_)
 subst bp
 refine AW.seqG (fun ea br => (AW.cutX (fun s ob => s = [(78, .v (.bool ((F.2 == 4) || (S.2 == 4))))] ∧ ob = [.arr ad 32 6 1 [Network.row H.1], .arr R 46 3 1 [[.list 1 (i.2.2.2.1.map rI), .list 1 (i.2.2.2.2.1.map rI), .list 1 (i.2.2.2.2.2.1.map rB)]], .us av 63 3 (F.1.map Lot.row), .us aw 63 3 (S.1.map Lot.row)]) [(8, _), (9, _), (10, _), (12, _), (14, _), (15, _), (16, _), (17, _), (18, _)] ⟨I, I, I, I, I, I, I, I, I, J⟩ ?_ ?_))
 refine AW.region (AO.q 3 I ?_)
 rcases bt ((F.2 == 4)) with ak | ak
 refine AO.known 75 I ak (AO.q 3 I (AO.nil ?_))
 exact lf ⟨I, I⟩ ⟨(get_b (by simp only [ak, bz])), I, I, I, I, I, I, I, I, I, J⟩ [1, 2, 3, 4] I
 refine AO.known 75 I ak (AO.q 3 I (AO.nil ?_))
 exact lf ⟨I, I⟩ ⟨(get_b (by simp only [ak, bz])), I, I, I, I, I, I, I, I, I, J⟩ [1, 2, 3, 4] I
 rintro s ob ⟨rfl, rfl⟩
 refine AW.ch h I ?_ ?_
 intro bs h
 refine AW.seq ?_
 obtain ⟨eb, bu, h⟩ := ob_some h
 refine AW.region (AO.c (L.zuro_ok  _ bu) (AO.q 1 I (AO.nil (AW.ghost g0 ?_))))
 obtain rfl := oi h
 exact AW.ret pr
 intro bs h
 refine AW.skip ?_
 subst br
 refine AW.z I (AW.cutX (fun s ob => ∃ (ax : Int), L.zznx.J2 E Q H i a7 F S ax = some r ∧ s = [(19, .V ax)] ∧ ob = [.arr ad 32 6 1 [Network.row H.1], .arr R 46 3 1 [[.list 1 (i.2.2.2.1.map rI), .list 1 (i.2.2.2.2.1.map rI), .list 1 (i.2.2.2.2.2.1.map rB)]], .us av 63 3 (F.1.map Lot.row), .us aw 63 3 (S.1.map Lot.row)]) [(8, _), (9, _), (10, _), (12, _), (14, _), (15, _), (16, _), (17, _), (18, _)] ⟨I, I, I, I, I, I, I, I, I, J⟩ ?_ ?_)
 refine AW.z I (AW.block ?_)
 obtain ⟨ec, bv, a8⟩ := ob_some h
 clear h
 refine AW.loopX bv [(8, _), (9, _), (10, _), (12, _), (14, _), (15, _), (16, _), (17, _), (18, _)] ⟨I, I, I, I, I, I, I, I, I, J⟩ (fun (U : Int × Int) s ob => s = [(19, .V U.1), (20, .V U.2)] ∧ ob = [.arr ad 32 6 1 [Network.row H.1], .arr R 46 3 1 [[.list 1 (i.2.2.2.1.map rI), .list 1 (i.2.2.2.2.1.map rI), .list 1 (i.2.2.2.2.2.1.map rB)]], .us av 63 3 (F.1.map Lot.row), .us aw 63 3 (S.1.map Lot.row)]) ⟨I, I⟩ ⟨I, I, J⟩ ⟨[0, 1, 2, 3], I, by decide⟩ ?_
 rintro U bw s ob ⟨rfl, rfl⟩ h a9
 unfold L.zznx.B4 at h
 refine AW.seqG (fun ed bx => (AW.seq (AW.region (AO.q 2 I (AO.d (Yd.lenUM 3 I I I I) I (AO.q 1 I (AO.nil (AW.ch h I ?_ ?_))))))))
 intro b0 h
 refine AW.skip ?_
 subst bx
 refine AW.seq (AW.block (AW.seqG (fun ee b1 => ?_)))
 obtain ⟨a, b2, h⟩ := ob_some h
 obtain ⟨n, b⟩ := ix_some b2
 refine AW.region (AO.q 3 I (AO.d (Yd.indexU 3 (m := a.1) I I I I I I I n (map_get b)) I (AO.q 1 I (AO.d (Yd.loadU 3 a.1 1 I I I (map_get b) I (y := .V a.2.Volume) I) I (AO.q 2 I (AO.nil ?_))))))
 subst b1
 refine AW.cutX (fun s ob => ∃ (a3 : Bool), L.zznx.J5 U a a3 = some bw ∧ s = [(167, .v (.bool a3))] ∧ ob = [.arr ad 32 6 1 [Network.row H.1], .arr R 46 3 1 [[.list 1 (i.2.2.2.1.map rI), .list 1 (i.2.2.2.2.1.map rI), .list 1 (i.2.2.2.2.2.1.map rB)]], .us av 63 3 (F.1.map Lot.row), .us aw 63 3 (S.1.map Lot.row)]) [(8, _), (9, _), (10, _), (12, _), (14, _), (15, _), (16, _), (17, _), (18, _), (19, _), (20, _)] ⟨I, I, I, I, I, I, I, I, I, I, I, J⟩ ?_ ?_
 rcases bt (decide (U.2 > 0)) with B | B
 replace h := ife_t B h
 obtain ⟨e, b3, h⟩ := ob_some h
 obtain ⟨G, g⟩ := ix_some b3
 rcases bt (decide (a.2.Done < e.2.Done)) with M | M
 replace h := ife_t M h
 refine AW.form 3 a.1 I b (fun b4 => (AW.form 3 e.1 I g (fun b5 => (AW.rd (pd 75 0 []) [3] [_] I (AP.q 3 I (AP.known 95 I B (AP.q 2 I (AP.oldG I I I I ((Yp.indexUf (m := a.1) I I I I I b4 I n b).yd) dS (AP.q 1 I (AP.oldG I I I I (Yd.loadU 0 a.1 2 I I I (map_get b) I (y := .V a.2.Done) I) dS (AP.q 3 I (AP.oldG I I I I ((Yp.indexUf (m := e.1) I I I I I b5 I G g).yd) dS (AP.q 1 I (AP.oldG I I I I (Yd.loadU 0 e.1 2 I I I (map_get g) I (y := .V e.2.Done) I) dS ?_))))))))))))))
 refine AP.q 2 I (AP.known 108 I M (AP.q 20 I (AP.skipU I I I I dS (AP.skipU I I I I dS (AP.skipU I I I I dS (AP.skipU I I I I dS (AP.skipU I I I I dS (AP.skipU I I I I dS (AP.skipU I I I I dS (AP.skipU I I I I dS (AP.skipU I I I I dS (AP.skipU I I I I dS ?_))))))))))))
 refine AP.skipU I I I I dS (AP.skipU I I I I dS (AP.skipU I I I I dS (AP.skipU I I I I dS (AP.skipU I I I I dS (AP.skipU I I I I dS (AP.skipU I I I I dS (AP.skipU I I I I dS (AP.skipU I I I I dS (AP.skipU I I I I dS (AP.skipU I I I I dS (AP.skipU I I I I dS (AP.skipU I I I I dS ?_))))))))))))
 refine AP.skipU I I I I dS (AP.skipU I I I I dS (AP.skipU I I I I dS (AP.skipU I I I I dS (AP.skipU I I I I dS (AP.skipU I I I I dS (AP.skipU I I I I dS (AP.skipU I I I I dS (AP.skipU I I I I dS (AP.skipU I I I I dS (AP.skipU I I I I dS (AP.skipU I I I I dS (AP.skipU I I I I dS ?_))))))))))))
 refine AP.skipU I I I I dS (AP.q 2 I (AP.ofAO (AO.nil ?_)))
 exact lg ⟨true, h, I, I⟩ [0, 1, 2, 3]
 replace h := ife_f M h
 rcases bt ((a.2.Batch == e.2.Batch)) with W | W
 replace h := ife_t W h
 refine AW.form 3 a.1 I b (fun b6 => (AW.form 3 e.1 I g (fun b7 => (AW.form 3 a.1 I b (fun b8 => (AW.form 3 e.1 I g (fun ca => (AW.rd (pd 75 0 []) [3] [_] I (AP.q 3 I (AP.known 95 I B (AP.q 2 I (AP.oldG I I I I ((Yp.indexUf (m := a.1) I I I I I b6 I n b).yd) dS (AP.q 1 I (AP.oldG I I I I (Yd.loadU 0 a.1 2 I I I (map_get b) I (y := .V a.2.Done) I) dS (AP.q 3 I (AP.oldG I I I I ((Yp.indexUf (m := e.1) I I I I I b7 I G g).yd) dS ?_))))))))))))))))
 refine AP.q 1 I (AP.oldG I I I I (Yd.loadU 0 e.1 2 I I I (map_get g) I (y := .V e.2.Done) I) dS (AP.q 2 I (AP.known 108 I M (AP.q 2 I (AP.oldG I I I I ((Yp.indexUf (m := a.1) I I I I I b8 I n b).yd) dS (AP.q 1 I (AP.oldG I I I I (Yd.loadU 0 a.1 0 I I I (map_get b) I (y := .V a.2.Batch) I) dS (AP.q 3 I (AP.oldG I I I I ((Yp.indexUf (m := e.1) I I I I I ca I G g).yd) dS (AP.q 1 I (AP.oldG I I I I (Yd.loadU 0 e.1 0 I I I (map_get g) I (y := .V e.2.Batch) I) dS (AP.q 4 I ?_))))))))))))
 refine AP.known 123 I W (AP.q 5 I (AP.skipU I I I I dS (AP.skipU I I I I dS (AP.skipU I I I I dS (AP.skipU I I I I dS (AP.skipU I I I I dS (AP.skipU I I I I dS (AP.skipU I I I I dS (AP.skipU I I I I dS (AP.skipU I I I I dS (AP.skipU I I I I dS (AP.skipU I I I I dS ?_))))))))))))
 refine AP.skipU I I I I dS (AP.skipU I I I I dS (AP.skipU I I I I dS (AP.skipU I I I I dS (AP.skipU I I I I dS (AP.skipU I I I I dS (AP.skipU I I I I dS (AP.skipU I I I I dS (AP.skipU I I I I dS (AP.skipU I I I I dS (AP.skipU I I I I dS (AP.skipU I I I I dS (AP.skipU I I I I dS ?_))))))))))))
 refine AP.skipU I I I I dS (AP.skipU I I I I dS (AP.skipU I I I I dS (AP.skipU I I I I dS (AP.skipU I I I I dS (AP.skipU I I I I dS (AP.skipU I I I I dS (AP.skipU I I I I dS (AP.skipU I I I I dS (AP.skipU I I I I dS (AP.skipU I I I I dS (AP.skipU I I I I dS (AP.skipU I I I I dS ?_))))))))))))
 refine AP.q 2 I (AP.ofAO (AO.nil ?_))
 exact lg ⟨true, h, I, I⟩ [0, 1, 2, 3]
 replace h := ife_f W h
 rcases bt (decide (U.2 < (F.1.length : Int))) with aa | aa
 replace h := ife_t aa h
 obtain ⟨j, cb, h⟩ := ob_some h
 obtain ⟨ae, t⟩ := ix_some cb
 rcases bt ((j.2.Batch != a.2.Batch)) with af | af
 replace h := ife_t af h
 refine AW.form 3 a.1 I b (fun cc => (AW.form 3 e.1 I g (fun cd => (AW.form 3 a.1 I b (fun ce => (AW.form 3 e.1 I g (fun cf => (AW.formL 2 I (fun ci => (AW.form 2 j.1 I t (fun cj => (AW.form 3 a.1 I b (fun ck => (AW.rd (pd 75 0 []) [3, 2] [_, _] I (AP.q 3 I (AP.known 95 I B (AP.q 2 I (AP.oldG I I I I ((Yp.indexUf (m := a.1) I I I I I cc I n b).yd) dS (AP.q 1 I ?_)))))))))))))))))))
 refine AP.oldG I I I I (Yd.loadU 0 a.1 2 I I I (map_get b) I (y := .V a.2.Done) I) dS (AP.q 3 I (AP.oldG I I I I ((Yp.indexUf (m := e.1) I I I I I cd I G g).yd) dS (AP.q 1 I (AP.oldG I I I I (Yd.loadU 0 e.1 2 I I I (map_get g) I (y := .V e.2.Done) I) dS (AP.q 2 I (AP.known 108 I M (AP.q 2 I (AP.oldG I I I I ((Yp.indexUf (m := a.1) I I I I I ce I n b).yd) dS (AP.q 1 I (AP.oldG I I I I (Yd.loadU 0 a.1 0 I I I (map_get b) I (y := .V a.2.Batch) I) dS (AP.q 3 I (AP.oldG I I I I ((Yp.indexUf (m := e.1) I I I I I cf I G g).yd) dS ?_))))))))))))
 refine AP.q 1 I (AP.oldG I I I I (Yd.loadU 0 e.1 0 I I I (map_get g) I (y := .V e.2.Batch) I) dS (AP.q 4 I (AP.known 123 I W (AP.q 2 I (AP.oldG I I I I ((Yp.lenUf I I I ci).yd) dS (AP.q 2 I (AP.known 128 I aa (AP.q 2 I (AP.oldG I I I I ((Yp.indexUf (m := j.1) I I I I I cj I ae t).yd) dS (AP.q 1 I (AP.oldG I I I I (Yd.loadU 1 j.1 0 I I I (map_get t) I (y := .V j.2.Batch) I) dS (AP.q 2 I ?_))))))))))))
 refine AP.oldG I I I I ((Yp.indexUf (m := a.1) I I I I I ck I n b).yd) dS (AP.q 1 I (AP.oldG I I I I (Yd.loadU 0 a.1 0 I I I (map_get b) I (y := .V a.2.Batch) I) dS (AP.q 2 I (AP.known 140 I af (AP.q 27 I (AP.ofAO (AO.nil ?_)))))))
 exact lg ⟨true, h, I, I⟩ [0, 1, 2, 3]
 replace h := ife_f af h
 rcases bt ((j.2.Done != a.2.Done)) with al | al
 replace h := ife_t al h
 refine AW.form 3 a.1 I b (fun cl => (AW.form 3 e.1 I g (fun cm => (AW.form 3 a.1 I b (fun cn => (AW.form 3 e.1 I g (fun co => (AW.formL 2 I (fun cp => (AW.form 2 j.1 I t (fun cq => (AW.form 3 a.1 I b (fun cr => (AW.form 2 j.1 I t (fun ct => (AW.form 3 a.1 I b (fun cu => (AW.rd (pd 75 0 []) [3, 2] [_, _] I (AP.q 3 I (AP.known 95 I B (AP.q 2 I ?_)))))))))))))))))))))
 refine AP.oldG I I I I ((Yp.indexUf (m := a.1) I I I I I cl I n b).yd) dS (AP.q 1 I (AP.oldG I I I I (Yd.loadU 0 a.1 2 I I I (map_get b) I (y := .V a.2.Done) I) dS (AP.q 3 I (AP.oldG I I I I ((Yp.indexUf (m := e.1) I I I I I cm I G g).yd) dS (AP.q 1 I (AP.oldG I I I I (Yd.loadU 0 e.1 2 I I I (map_get g) I (y := .V e.2.Done) I) dS (AP.q 2 I (AP.known 108 I M (AP.q 2 I (AP.oldG I I I I ((Yp.indexUf (m := a.1) I I I I I cn I n b).yd) dS (AP.q 1 I (AP.oldG I I I I (Yd.loadU 0 a.1 0 I I I (map_get b) I (y := .V a.2.Batch) I) dS ?_))))))))))))
 refine AP.q 3 I (AP.oldG I I I I ((Yp.indexUf (m := e.1) I I I I I co I G g).yd) dS (AP.q 1 I (AP.oldG I I I I (Yd.loadU 0 e.1 0 I I I (map_get g) I (y := .V e.2.Batch) I) dS (AP.q 4 I (AP.known 123 I W (AP.q 2 I (AP.oldG I I I I ((Yp.lenUf I I I cp).yd) dS (AP.q 2 I (AP.known 128 I aa (AP.q 2 I (AP.oldG I I I I ((Yp.indexUf (m := j.1) I I I I I cq I ae t).yd) dS (AP.q 1 I ?_))))))))))))
 refine AP.oldG I I I I (Yd.loadU 1 j.1 0 I I I (map_get t) I (y := .V j.2.Batch) I) dS (AP.q 2 I (AP.oldG I I I I ((Yp.indexUf (m := a.1) I I I I I cr I n b).yd) dS (AP.q 1 I (AP.oldG I I I I (Yd.loadU 0 a.1 0 I I I (map_get b) I (y := .V a.2.Batch) I) dS (AP.q 2 I (AP.known 140 I af (AP.q 2 I (AP.oldG I I I I ((Yp.indexUf (m := j.1) I I I I I ct I ae t).yd) dS (AP.q 1 I (AP.oldG I I I I (Yd.loadU 1 j.1 2 I I I (map_get t) I (y := .V j.2.Done) I) dS (AP.q 2 I (AP.oldG I I I I ((Yp.indexUf (m := a.1) I I I I I cu I n b).yd) dS ?_))))))))))))
 refine AP.q 1 I (AP.oldG I I I I (Yd.loadU 0 a.1 2 I I I (map_get b) I (y := .V a.2.Done) I) dS (AP.q 3 I (AP.known 153 I al (AP.q 14 I (AP.ofAO (AO.nil ?_))))))
 exact lg ⟨true, h, I, I⟩ [0, 1, 2, 3]
 replace h := ife_f al h
 refine AW.form 3 a.1 I b (fun cv => (AW.form 3 e.1 I g (fun cw => (AW.form 3 a.1 I b (fun cx => (AW.form 3 e.1 I g (fun cy => (AW.formL 2 I (fun cz => (AW.form 2 j.1 I t (fun c1 => (AW.form 3 a.1 I b (fun c2 => (AW.form 2 j.1 I t (fun c3 => (AW.form 3 a.1 I b (fun c4 => (AW.form 2 j.1 I t (fun c5 => (AW.form 3 a.1 I b (fun c6 => (AW.rd (pd 75 0 []) [3, 2] [_, _] I (AP.q 3 I ?_)))))))))))))))))))))))
 refine AP.known 95 I B (AP.q 2 I (AP.oldG I I I I ((Yp.indexUf (m := a.1) I I I I I cv I n b).yd) dS (AP.q 1 I (AP.oldG I I I I (Yd.loadU 0 a.1 2 I I I (map_get b) I (y := .V a.2.Done) I) dS (AP.q 3 I (AP.oldG I I I I ((Yp.indexUf (m := e.1) I I I I I cw I G g).yd) dS (AP.q 1 I (AP.oldG I I I I (Yd.loadU 0 e.1 2 I I I (map_get g) I (y := .V e.2.Done) I) dS (AP.q 2 I (AP.known 108 I M (AP.q 2 I (AP.oldG I I I I ((Yp.indexUf (m := a.1) I I I I I cx I n b).yd) dS ?_))))))))))))
 refine AP.q 1 I (AP.oldG I I I I (Yd.loadU 0 a.1 0 I I I (map_get b) I (y := .V a.2.Batch) I) dS (AP.q 3 I (AP.oldG I I I I ((Yp.indexUf (m := e.1) I I I I I cy I G g).yd) dS (AP.q 1 I (AP.oldG I I I I (Yd.loadU 0 e.1 0 I I I (map_get g) I (y := .V e.2.Batch) I) dS (AP.q 4 I (AP.known 123 I W (AP.q 2 I (AP.oldG I I I I ((Yp.lenUf I I I cz).yd) dS (AP.q 2 I (AP.known 128 I aa (AP.q 2 I ?_))))))))))))
 refine AP.oldG I I I I ((Yp.indexUf (m := j.1) I I I I I c1 I ae t).yd) dS (AP.q 1 I (AP.oldG I I I I (Yd.loadU 1 j.1 0 I I I (map_get t) I (y := .V j.2.Batch) I) dS (AP.q 2 I (AP.oldG I I I I ((Yp.indexUf (m := a.1) I I I I I c2 I n b).yd) dS (AP.q 1 I (AP.oldG I I I I (Yd.loadU 0 a.1 0 I I I (map_get b) I (y := .V a.2.Batch) I) dS (AP.q 2 I (AP.known 140 I af (AP.q 2 I (AP.oldG I I I I ((Yp.indexUf (m := j.1) I I I I I c3 I ae t).yd) dS (AP.q 1 I (AP.oldG I I I I (Yd.loadU 1 j.1 2 I I I (map_get t) I (y := .V j.2.Done) I) dS ?_))))))))))))
 refine AP.q 2 I (AP.oldG I I I I ((Yp.indexUf (m := a.1) I I I I I c4 I n b).yd) dS (AP.q 1 I (AP.oldG I I I I (Yd.loadU 0 a.1 2 I I I (map_get b) I (y := .V a.2.Done) I) dS (AP.q 3 I (AP.known 153 I al (AP.q 2 I (AP.oldG I I I I ((Yp.indexUf (m := j.1) I I I I I c5 I ae t).yd) dS (AP.q 1 I (AP.oldG I I I I (Yd.loadU 1 j.1 1 I I I (map_get t) I (y := .V j.2.Volume) I) dS (AP.q 2 I (AP.oldG I I I I ((Yp.indexUf (m := a.1) I I I I I c6 I n b).yd) dS (AP.q 1 I ?_))))))))))))
 refine AP.oldG I I I I (Yd.loadU 0 a.1 1 I I I (map_get b) I (y := .V a.2.Volume) I) dS (AP.q 4 I (AP.ofAO (AO.nil ?_)))
 exact lg ⟨decide (j.2.Volume > a.2.Volume), h, I, I⟩ [0, 1, 2, 3]
 replace h := ife_f aa h
 refine AW.form 3 a.1 I b (fun c7 => (AW.form 3 e.1 I g (fun c8 => (AW.form 3 a.1 I b (fun c9 => (AW.form 3 e.1 I g (fun da => (AW.formL 2 I (fun db => (AW.rd (pd 75 0 []) [3] [_] I (AP.q 3 I (AP.known 95 I B (AP.q 2 I (AP.oldG I I I I ((Yp.indexUf (m := a.1) I I I I I c7 I n b).yd) dS (AP.q 1 I (AP.oldG I I I I (Yd.loadU 0 a.1 2 I I I (map_get b) I (y := .V a.2.Done) I) dS (AP.q 3 I ?_)))))))))))))))))
 refine AP.oldG I I I I ((Yp.indexUf (m := e.1) I I I I I c8 I G g).yd) dS (AP.q 1 I (AP.oldG I I I I (Yd.loadU 0 e.1 2 I I I (map_get g) I (y := .V e.2.Done) I) dS (AP.q 2 I (AP.known 108 I M (AP.q 2 I (AP.oldG I I I I ((Yp.indexUf (m := a.1) I I I I I c9 I n b).yd) dS (AP.q 1 I (AP.oldG I I I I (Yd.loadU 0 a.1 0 I I I (map_get b) I (y := .V a.2.Batch) I) dS (AP.q 3 I (AP.oldG I I I I ((Yp.indexUf (m := e.1) I I I I I da I G g).yd) dS (AP.q 1 I (AP.oldG I I I I (Yd.loadU 0 e.1 0 I I I (map_get g) I (y := .V e.2.Batch) I) dS ?_))))))))))))
 refine AP.q 4 I (AP.known 123 I W (AP.q 2 I (AP.oldG I I I I ((Yp.lenUf I I I db).yd) dS (AP.q 2 I (AP.known 128 I aa (AP.q 12 I (AP.skipU I I I I dS (AP.skipU I I I I dS (AP.skipU I I I I dS (AP.skipU I I I I dS (AP.skipU I I I I dS (AP.skipU I I I I dS ?_))))))))))))
 refine AP.skipU I I I I dS (AP.skipU I I I I dS (AP.skipU I I I I dS (AP.skipU I I I I dS (AP.skipU I I I I dS (AP.q 2 I (AP.skipU I I I I dS (AP.skipU I I I I dS (AP.skipU I I I I dS (AP.skipU I I I I dS (AP.skipU I I I I dS (AP.skipU I I I I dS (AP.skipU I I I I dS ?_))))))))))))
 refine AP.skipU I I I I dS (AP.skipU I I I I dS (AP.skipU I I I I dS (AP.skipU I I I I dS (AP.q 3 I (AP.ofAO (AO.nil ?_))))))
 exact lg ⟨false, h, I, I⟩ [0, 1, 2, 3]
 replace h := ife_f B h
 rcases bt (decide (U.2 < (F.1.length : Int))) with ab | ab
 replace h := ife_t ab h
 obtain ⟨k, dc, h⟩ := ob_some h
 obtain ⟨ag, u⟩ := ix_some dc
 rcases bt ((k.2.Batch != a.2.Batch)) with ah | ah
 replace h := ife_t ah h
 refine AW.formL 2 I (fun dd => (AW.form 2 k.1 I u (fun de => (AW.form 3 a.1 I b (fun df => (AW.rd (pd 75 0 []) [2, 3] [_, _] I (AP.q 3 I (AP.known 95 I B (AP.q 13 I (AP.skipU I I I I dS (AP.skipU I I I I dS (AP.skipU I I I I dS (AP.skipU I I I I dS (AP.skipU I I I I dS (AP.skipU I I I I dS ?_)))))))))))))))
 refine AP.skipU I I I I dS (AP.skipU I I I I dS (AP.skipU I I I I dS (AP.skipU I I I I dS (AP.skipU I I I I dS (AP.skipU I I I I dS (AP.q 5 I (AP.oldG I I I I ((Yp.lenUf I I I dd).yd) dS (AP.q 2 I (AP.known 128 I ab (AP.q 2 I (AP.oldG I I I I ((Yp.indexUf (m := k.1) I I I I I de I ag u).yd) dS (AP.q 1 I ?_))))))))))))
 refine AP.oldG I I I I (Yd.loadU 0 k.1 0 I I I (map_get u) I (y := .V k.2.Batch) I) dS (AP.q 2 I (AP.oldG I I I I ((Yp.indexUf (m := a.1) I I I I I df I n b).yd) dS (AP.q 1 I (AP.oldG I I I I (Yd.loadU 1 a.1 0 I I I (map_get b) I (y := .V a.2.Batch) I) dS (AP.q 2 I (AP.known 140 I ah (AP.q 27 I (AP.ofAO (AO.nil ?_)))))))))
 exact lg ⟨true, h, I, I⟩ [0, 1, 2, 3]
 replace h := ife_f ah h
 rcases bt ((k.2.Done != a.2.Done)) with am | am
 replace h := ife_t am h
 refine AW.formL 2 I (fun dg => (AW.form 2 k.1 I u (fun dh => (AW.form 3 a.1 I b (fun di => (AW.form 2 k.1 I u (fun dj => (AW.form 3 a.1 I b (fun dk => (AW.rd (pd 75 0 []) [2, 3] [_, _] I (AP.q 3 I (AP.known 95 I B (AP.q 13 I (AP.skipU I I I I dS (AP.skipU I I I I dS (AP.skipU I I I I dS (AP.skipU I I I I dS ?_)))))))))))))))))
 refine AP.skipU I I I I dS (AP.skipU I I I I dS (AP.skipU I I I I dS (AP.skipU I I I I dS (AP.skipU I I I I dS (AP.skipU I I I I dS (AP.skipU I I I I dS (AP.skipU I I I I dS (AP.q 5 I (AP.oldG I I I I ((Yp.lenUf I I I dg).yd) dS (AP.q 2 I (AP.known 128 I ab (AP.q 2 I ?_))))))))))))
 refine AP.oldG I I I I ((Yp.indexUf (m := k.1) I I I I I dh I ag u).yd) dS (AP.q 1 I (AP.oldG I I I I (Yd.loadU 0 k.1 0 I I I (map_get u) I (y := .V k.2.Batch) I) dS (AP.q 2 I (AP.oldG I I I I ((Yp.indexUf (m := a.1) I I I I I di I n b).yd) dS (AP.q 1 I (AP.oldG I I I I (Yd.loadU 1 a.1 0 I I I (map_get b) I (y := .V a.2.Batch) I) dS (AP.q 2 I (AP.known 140 I ah (AP.q 2 I (AP.oldG I I I I ((Yp.indexUf (m := k.1) I I I I I dj I ag u).yd) dS (AP.q 1 I (AP.oldG I I I I (Yd.loadU 0 k.1 2 I I I (map_get u) I (y := .V k.2.Done) I) dS ?_))))))))))))
 refine AP.q 2 I (AP.oldG I I I I ((Yp.indexUf (m := a.1) I I I I I dk I n b).yd) dS (AP.q 1 I (AP.oldG I I I I (Yd.loadU 1 a.1 2 I I I (map_get b) I (y := .V a.2.Done) I) dS (AP.q 3 I (AP.known 153 I am (AP.q 14 I (AP.ofAO (AO.nil ?_))))))))
 exact lg ⟨true, h, I, I⟩ [0, 1, 2, 3]
 replace h := ife_f am h
 refine AW.formL 2 I (fun dl => (AW.form 2 k.1 I u (fun dm => (AW.form 3 a.1 I b (fun dn => (AW.form 2 k.1 I u (fun dp => (AW.form 3 a.1 I b (fun dq => (AW.form 2 k.1 I u (fun dr => (AW.form 3 a.1 I b (fun ds => (AW.rd (pd 75 0 []) [2, 3] [_, _] I (AP.q 3 I (AP.known 95 I B (AP.q 13 I (AP.skipU I I I I dS (AP.skipU I I I I dS ?_)))))))))))))))))))
 refine AP.skipU I I I I dS (AP.skipU I I I I dS (AP.skipU I I I I dS (AP.skipU I I I I dS (AP.skipU I I I I dS (AP.skipU I I I I dS (AP.skipU I I I I dS (AP.skipU I I I I dS (AP.skipU I I I I dS (AP.skipU I I I I dS (AP.q 5 I (AP.oldG I I I I ((Yp.lenUf I I I dl).yd) dS (AP.q 2 I ?_))))))))))))
 refine AP.known 128 I ab (AP.q 2 I (AP.oldG I I I I ((Yp.indexUf (m := k.1) I I I I I dm I ag u).yd) dS (AP.q 1 I (AP.oldG I I I I (Yd.loadU 0 k.1 0 I I I (map_get u) I (y := .V k.2.Batch) I) dS (AP.q 2 I (AP.oldG I I I I ((Yp.indexUf (m := a.1) I I I I I dn I n b).yd) dS (AP.q 1 I (AP.oldG I I I I (Yd.loadU 1 a.1 0 I I I (map_get b) I (y := .V a.2.Batch) I) dS (AP.q 2 I (AP.known 140 I ah (AP.q 2 I (AP.oldG I I I I ((Yp.indexUf (m := k.1) I I I I I dp I ag u).yd) dS ?_))))))))))))
 refine AP.q 1 I (AP.oldG I I I I (Yd.loadU 0 k.1 2 I I I (map_get u) I (y := .V k.2.Done) I) dS (AP.q 2 I (AP.oldG I I I I ((Yp.indexUf (m := a.1) I I I I I dq I n b).yd) dS (AP.q 1 I (AP.oldG I I I I (Yd.loadU 1 a.1 2 I I I (map_get b) I (y := .V a.2.Done) I) dS (AP.q 3 I (AP.known 153 I am (AP.q 2 I (AP.oldG I I I I ((Yp.indexUf (m := k.1) I I I I I dr I ag u).yd) dS (AP.q 1 I (AP.oldG I I I I (Yd.loadU 0 k.1 1 I I I (map_get u) I (y := .V k.2.Volume) I) dS (AP.q 2 I ?_))))))))))))
 refine AP.oldG I I I I ((Yp.indexUf (m := a.1) I I I I I ds I n b).yd) dS (AP.q 1 I (AP.oldG I I I I (Yd.loadU 1 a.1 1 I I I (map_get b) I (y := .V a.2.Volume) I) dS (AP.q 4 I (AP.ofAO (AO.nil ?_)))))
 exact lg ⟨decide (k.2.Volume > a.2.Volume), h, I, I⟩ [0, 1, 2, 3]
 replace h := ife_f ab h
 refine AW.formL 2 I (fun dt => (AW.rd (pd 75 0 []) [] [] I (AP.q 3 I (AP.known 95 I B (AP.q 13 I (AP.skipU I I I I dS (AP.skipU I I I I dS (AP.skipU I I I I dS (AP.skipU I I I I dS (AP.skipU I I I I dS (AP.skipU I I I I dS (AP.skipU I I I I dS (AP.skipU I I I I dS ?_)))))))))))))
 refine AP.skipU I I I I dS (AP.skipU I I I I dS (AP.skipU I I I I dS (AP.skipU I I I I dS (AP.q 5 I (AP.oldG I I I I ((Yp.lenUf I I I dt).yd) dS (AP.q 2 I (AP.known 128 I ab (AP.q 12 I (AP.skipU I I I I dS (AP.skipU I I I I dS (AP.skipU I I I I dS (AP.skipU I I I I dS ?_))))))))))))
 refine AP.skipU I I I I dS (AP.skipU I I I I dS (AP.skipU I I I I dS (AP.skipU I I I I dS (AP.skipU I I I I dS (AP.skipU I I I I dS (AP.skipU I I I I dS (AP.q 2 I (AP.skipU I I I I dS (AP.skipU I I I I dS (AP.skipU I I I I dS (AP.skipU I I I I dS (AP.skipU I I I I dS ?_))))))))))))
 refine AP.skipU I I I I dS (AP.skipU I I I I dS (AP.skipU I I I I dS (AP.skipU I I I I dS (AP.skipU I I I I dS (AP.skipU I I I I dS (AP.q 3 I (AP.ofAO (AO.nil ?_))))))))
 exact lg ⟨false, h, I, I⟩ [0, 1, 2, 3]
 rintro s ob ⟨a3, h, rfl, rfl⟩
 unfold L.zznx.J5 at h
 refine AW.ch h I ?_ ?_
 intro du h
 refine AW.z I ?_
 obtain rfl := a9 _ (oi h).symm
 replace h := a8
 replace h := se_l h
 refine AW.ghost g0 ?_
 obtain rfl := oi h
 exact AW.ret pr
 intro du h
 refine AW.skip (AW.region (AO.q 3 I ?_))
 obtain rfl := oi h
 refine AO.nil ?_
 exact ⟨_, _, _, I, ⟨I, I⟩, ⟨I, I, I, I, I, I, I, I, I, I, I, J⟩, [0, 1, 2, 3], I, by decide⟩
 intro b0 h
 obtain rfl := a9 _ (oi h).symm
 replace h := a8
 replace h := se_r h
 refine AW.exit ?_
 exact lg ⟨U.1, h, I, I⟩ [0, 1, 2, 3]
 rintro s ob ⟨ax, h, rfl, rfl⟩
 unfold L.zznx.J2 at h
 refine AW.cutX (fun s ob => ∃ (a4 : Bool), L.zznx.J3 a4 = some r ∧ s = [(6, .v (.bool a4))] ∧ ob = []) [] J ?_ ?_
 refine AW.region (AO.q 3 I ?_)
 rcases bt ((F.2 == 0)) with an | an
 replace h := ife_t an h
 refine AO.known 170 I an ?_
 rcases bt ((S.2 == 0)) with O | O
 replace h := ife_t O h
 rcases bt (decide ((F.1.length : Int) ≤ (S.1.length : Int))) with X | X
 replace h := ife_t X h
 obtain ⟨P, dv, h⟩ := ob_some h
 obtain ⟨ay, az⟩ := ix_some dv
 rcases bt ((ax == (wr ((wr (((wr (E)).tmod 12) + ((wr (Q)).tmod 6))) * (max 0 (wr (0 - P.2))))))) with ac | ac
 replace h := ife_t ac h
 obtain ⟨dw, a5, h⟩ := ob_some h
 rcases bt ((dw == 0)) with ai | ai
 replace h := ife_t ai h
 obtain ⟨a0, dx, h⟩ := ob_some h
 obtain ⟨ba, bb⟩ := ix_some dx
 obtain ⟨dy, bc, h⟩ := ob_some h
 rcases bt (dy) with ao | ao
 replace h := ife_t ao h
 obtain ⟨dz, d0, h⟩ := ob_some h
 refine AO.q 4 I (AO.known 174 I O (AO.q 1 I (AO.gt I I I (AO.d (Yd.lenUM 2 I I I I) I (AO.q 1 I (AO.gt I I I (AO.d (Yd.lenUM 3 I I I I) I (AO.q 3 I (AO.known 181 I X (AO.r 13 [.o 3 1, .x 5 P.1 (rI P.2)] I ⟨⟨ay, map_get az⟩, I, J⟩ (AO.known 194 I ac (AO.r 2 [.o 0 0] I ⟨I, J⟩ ?_))))))))))))
 refine AO.gt I I I (AO.c (L.zjfe_ok _ _ _ a5) (AO.q 3 I (AO.known 200 I ai (AO.r 3 [.x 1 a0.1 ((rL 2 Piece.row) a0.2)] I ⟨⟨ba, map_get bb⟩, J⟩ (AO.gt I I I (AO.c (L.zmux_ok _ _ bc) (AO.q 2 I (AO.known 206 I ao (AO.gt I I I (AO.c (L.zuro_ok  _ d0) (AO.q 2 I (AO.nil ?_))))))))))))
 exact lg ⟨dz, h, I, I⟩ []
 replace h := ife_f ao h
 refine AO.q 4 I (AO.known 174 I O (AO.q 1 I (AO.gt I I I (AO.d (Yd.lenUM 2 I I I I) I (AO.q 1 I (AO.gt I I I (AO.d (Yd.lenUM 3 I I I I) I (AO.q 3 I (AO.known 181 I X (AO.r 13 [.o 3 1, .x 5 P.1 (rI P.2)] I ⟨⟨ay, map_get az⟩, I, J⟩ (AO.known 194 I ac (AO.r 2 [.o 0 0] I ⟨I, J⟩ ?_))))))))))))
 refine AO.gt I I I (AO.c (L.zjfe_ok _ _ _ a5) (AO.q 3 I (AO.known 200 I ai (AO.r 3 [.x 1 a0.1 ((rL 2 Piece.row) a0.2)] I ⟨⟨ba, map_get bb⟩, J⟩ (AO.gt I I I (AO.c (L.zmux_ok _ _ bc) (AO.q 2 I (AO.known 206 I ao (AO.q 3 I (AO.nil ?_))))))))))
 exact lg ⟨false, h, I, I⟩ []
 replace h := ife_f ai h
 refine AO.q 4 I (AO.known 174 I O (AO.q 1 I (AO.gt I I I (AO.d (Yd.lenUM 2 I I I I) I (AO.q 1 I (AO.gt I I I (AO.d (Yd.lenUM 3 I I I I) I (AO.q 3 I (AO.known 181 I X (AO.r 13 [.o 3 1, .x 5 P.1 (rI P.2)] I ⟨⟨ay, map_get az⟩, I, J⟩ (AO.known 194 I ac (AO.r 2 [.o 0 0] I ⟨I, J⟩ ?_))))))))))))
 refine AO.gt I I I (AO.c (L.zjfe_ok _ _ _ a5) (AO.q 3 I (AO.known 200 I ai (AO.q 9 I (AO.nil ?_)))))
 exact lg ⟨false, h, I, I⟩ []
 replace h := ife_f ac h
 refine AO.q 4 I (AO.known 174 I O (AO.q 1 I (AO.gt I I I (AO.d (Yd.lenUM 2 I I I I) I (AO.q 1 I (AO.gt I I I (AO.d (Yd.lenUM 3 I I I I) I (AO.q 3 I (AO.known 181 I X (AO.r 13 [.o 3 1, .x 5 P.1 (rI P.2)] I ⟨⟨ay, map_get az⟩, I, J⟩ (AO.known 194 I ac (AO.q 15 I ?_))))))))))))
 refine AO.nil ?_
 exact lg ⟨false, h, I, I⟩ []
 replace h := ife_f X h
 refine AO.q 4 I (AO.known 174 I O (AO.q 1 I (AO.gt I I I (AO.d (Yd.lenUM 2 I I I I) I (AO.q 1 I (AO.gt I I I (AO.d (Yd.lenUM 3 I I I I) I (AO.q 3 I (AO.known 181 I X (AO.q 28 I (AO.nil ?_)))))))))))
 exact lg ⟨false, h, I, I⟩ []
 replace h := ife_f O h
 refine AO.q 4 I (AO.known 174 I O (AO.q 35 I (AO.nil ?_)))
 exact lg ⟨false, h, I, I⟩ []
 replace h := ife_f an h
 refine AO.known 170 I an (AO.q 39 I (AO.nil ?_))
 exact lg ⟨false, h, I, I⟩ []
 rintro s ob ⟨a4, h, rfl, rfl⟩
 unfold L.zznx.J3 at h
 obtain rfl := oi h
 exact AW.ret pr
end Go.Proofs.YtaliejncdnegeaaGreat
