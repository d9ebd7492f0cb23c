/- Walks that show what functions of the program compute; printed by a program of ours. No condition. -/
import Derived.Test.YtndfiddakngjdaaLl1
import Derived.Test.YtndfiddakngjdaaLl2
import Derived.Test.YtndfiddakngjdaaLl3
import Derived.Test.YtndfiddakngjdaaL4c
namespace Go.Proofs.Ytndfiddakngjdaa
open Go.Aw
set_option linter.unusedVariables false
set_option linter.unusedSimpArgs false
set_option maxRecDepth 100000
set_option maxHeartbeats 4000000

theorem L.second_Few_ok (l_0 : List Int) (r : Bool) (h : L.second_Few l_0 = r) : ACalls Try.env 23 [.list 1 (l_0.map rI)] [] (fun x new => x = .v (.bool r) ∧ new = []) := by
 refine ACalls.of_body Try.func23 rfl rfl rfl (fun C hC => ?_)
 unfold L.second_Few at h
 refine AW.z I (AW.zr [.l 1 (l_0.length : Int)] I ⟨len_m, trivial⟩ ?_)
 obtain rfl := h
 exact AW.ret ⟨.inr I, [_], [], ⟨I, trivial⟩, sl_n, I, I⟩

theorem L.law35_LeakSections_ok (l_0 : List Int) (r : Bool) (h : L.law35_LeakSections l_0 = some r) : ACalls Try.env 7 [.list 1 (l_0.map rI)] [] (fun x new => x = .v (.bool r) ∧ new = []) := by
 refine ACalls.of_body Try.func7 rfl rfl rfl (fun C hC => ?_)
 unfold L.law35_LeakSections at h
 refine AW.z I (AW.seqG (fun y2 hy2 => (AW.seq (AW.region (AO.q 1 I (AO.c (L.second_Few_ok l_0 _ I) (AO.q 1 I (AO.nil (AW.ch h I ?_ ?_)))))))))
 intro hc3 h
 refine AW.seq ?_
 obtain ⟨r4, hx5, h⟩ := ob_some h
 refine AW.region (AO.c (L.law35_awake_ok  _ hx5) (AO.q 1 I (AO.nil ?_)))
 obtain rfl := Option.some.inj h
 exact AW.ret ⟨.inr I, [_], [], ⟨I, trivial⟩, sl_n, I, I⟩
 intro hc3 h
 refine AW.skip ?_
 subst hy2
 refine AW.seqG (fun y6 hy6 => ?_)
 obtain ⟨r7, hx8, h⟩ := ob_some h
 refine AW.region (AO.q 1 I (AO.act [] I (AX.call0 I I I (L.keep_New_ok l_0 _ hx8) (dst_some I) ?_)))
 rintro _ _ ⟨b9, rfl, rfl⟩
 refine AO.q 1 I (AO.nil ?_)
 subst hy6
 refine AW.seqG (fun y10 hy10 => ?_)
 obtain ⟨r11, hx12, h⟩ := ob_some h
 refine AW.region (AO.q 1 I (AO.act [0] I (AX.cg [0] (L.keep_Src_Network_ok b9 r7 _ hx12) ?_)))
 rintro _ _ _ - ⟨rfl, rfl, rfl⟩
 refine AO.act [] I (AX.alloc (cs := [.v (.slice none 0 0), .v (.slice none 0 0), .v (.slice none 0 0), .v (.slice none 0 0), .v (.int .i64 0), .v (.int .i64 0)]) (m := 6) I I I I I (dst_some I) (fun b13 => (AO.act [1] I (AX.store 1 0 0 (es' := [Network.row r11.1]) I I I I I I I I (le_ble I) I I (AO.nil ?_)))))
 subst hy10
 refine AW.z I (AW.cutX (fun s ob => ∃ (j60 : (List Bool) × (List Bool)) (v61 : Value) (v62 : Value), L.law35_LeakSections.J1 r11 j60 = some r ∧ s = [(5, .v v61), (6, .v v62)] ∧ ob = [.arr b13 30 6 1 [Network.row r11.1], .us v61 4 1 (j60.1.map rB), .us v62 4 1 (j60.2.map rB)]) [(4, _)] ⟨I, trivial⟩ ?_ ?_)
 refine AW.z I (AW.block (AW.ghost (Ghost.nilU 4 1) (AW.ghost (Ghost.nilU 4 1) ?_)))
 obtain ⟨o1586, hL1587, hR1588⟩ := ob_some h
 clear h
 refine AW.loopX hL1587 [(3, _), (4, _)] ⟨I, I, trivial⟩ (fun (st1571 : (List Int) × Int × (List Bool) × (List Bool) × Int) s ob => ∃ (v1572 : Value) (v1573 : Value), s = [(5, .v v1572), (6, .v v1573), (7, .v (.int .i64 st1571.2.2.2.2))] ∧ ob = [.arr b9 90 2 1 [[.list 1 (st1571.1.map rI), .v (.int .i64 st1571.2.1)]], .arr b13 30 6 1 [Network.row r11.1], .us v1572 4 1 (st1571.2.2.1.map rB), .us v1573 4 1 (st1571.2.2.2.1.map rB)]) ⟨(.slice none 0 0), (.slice none 0 0), I, I⟩ ⟨I, I, I, trivial⟩ ⟨[0, 1, 2, 3], I, by decide⟩ ?_
 rintro st1571 r1590 s ob ⟨v1572, v1573, rfl, rfl⟩ h hb1589
 unfold L.law35_LeakSections.B18 at h
 refine AW.seqG (fun y1591 hy1591 => (AW.zr [.o 2 1, .l 3 (r11.1.Nodes.length : Int)] I ⟨len_m, I, trivial⟩ (AW.ch h I ?_ ?_)))
 intro hc1592 h
 refine AW.skip ?_
 subst hy1591
 refine AW.seq (AW.block ?_)
 obtain ⟨r1593, hx1594, h⟩ := ob_some h
 obtain ⟨l1596, hx1597, h⟩ := ob_some h
 obtain ⟨l1600, hx1601, h⟩ := ob_some h
 refine AW.region (AO.q 2 I (AO.act [0] I (AX.cg [0] (L.keep_Src_N_ok b9 (⟨st1571.1, st1571.2.1⟩ : batchlinekeep_Src) 2 _ hx1594) ?_)))
 rintro _ _ _ - ⟨rfl, rfl, rfl⟩
 refine AO.q 1 I (AO.act [] I (AX.lt 1 (([(r1593.1 == 0)] : List Bool).map rB) (AO.act [2] I (AX.ap 2 I hx1597 (fun v1598 => (AO.q 1 I (AO.act [] I (AX.lt 1 (([true] : List Bool).map rB) (AO.act [3] I (AX.ap 3 I hx1601 (fun v1602 => (AO.q 2 I (AO.nil (AW.region (AO.q 3 I ?_)))))))))))))))
 obtain rfl := Option.some.inj h
 refine AO.nil ?_
 exact ⟨_, _, _, I, ⟨v1598, v1602, I, I⟩, ⟨I, I, I, I, I, trivial⟩, [0, 1, 2, 3], I, by decide⟩
 intro hc1592 h
 obtain rfl := hb1589 _ (Option.some.inj h).symm
 replace h := hR1588
 refine AW.exit ?_
 exact lg ⟨(st1571.2.2.1, st1571.2.2.2.1), v1572, v1573, h, I, I⟩ [1, 2, 3]
 rintro s ob ⟨j60, v61, v62, h, rfl, rfl⟩
 unfold L.law35_LeakSections.J1 at h
 refine AW.seqG (fun y63 hy63 => ?_)
 obtain ⟨r64, hx65, h⟩ := ob_some h
 refine AW.region (AO.r 2 [.o 0 0] I ⟨I, trivial⟩ (AO.ghost (Ghost.freeze [1] (K := [.us v61 4 1 (j60.1.map rB)]) I [(5, .list 1 (j60.1.map rB)), (48, .list 1 (j60.1.map rB))] ⟨⟨_, I, .us 0 I⟩, ⟨_, I, .us 0 I⟩, trivial⟩ (ob' := [.arr b13 30 6 1 [Network.row r11.1], .us v62 4 1 (j60.2.map rB)]) (.rest _)) (AO.act [] I (AX.call0 I I I (L.leak_Sections_ok r11.1 j60.1 _ hx65) (dst_some I) ?_))))
 rintro _ _ ⟨rfl, rfl⟩
 refine AO.q 5 I (AO.nil ?_)
 subst hy63
 refine AW.seqG (fun y66 hy66 => ?_)
 obtain ⟨r67, hx68, h⟩ := ob_some h
 refine AW.region (AO.r 2 [.o 0 0] I ⟨I, trivial⟩ (AO.ghost (Ghost.freeze [1] (K := [.us v62 4 1 (j60.2.map rB)]) I [(6, .list 1 (j60.2.map rB)), (54, .list 1 (j60.2.map rB))] ⟨⟨_, I, .us 0 I⟩, ⟨_, I, .us 0 I⟩, trivial⟩ (ob' := [.arr b13 30 6 1 [Network.row r11.1]]) (.rest _)) (AO.act [] I (AX.call0 I I I (L.leak_Sections_ok r11.1 j60.2 _ hx68) (dst_some I) ?_))))
 rintro _ _ ⟨rfl, rfl⟩
 refine AO.q 5 I (AO.nil ?_)
 subst hy66
 refine AW.seqG (fun y69 hy69 => (AW.cutX (fun s ob => ∃ (j75 : Bool), L.law35_LeakSections.J2 r11 j60 r64 j75 = some r ∧ s = [(76, .v (.bool j75))] ∧ ob = [.arr b13 30 6 1 [Network.row r11.1]]) [(4, _), (5, _), (8, _)] ⟨I, I, I, trivial⟩ ?_ ?_))
 rcases Bool.eq_false_or_eq_true ((r64.2 != 0)) with hg1536 | hg1536
 replace h := ife_t hg1536 h
 refine AW.region (AO.q 3 I (AO.known 60 I hg1536 (AO.q 16 I (AO.nil ?_))))
 exact lg ⟨true, h, I, I⟩ [0]
 replace h := ife_f hg1536 h
 rcases Bool.eq_false_or_eq_true ((r67.2 != 0)) with hg1537 | hg1537
 replace h := ife_t hg1537 h
 refine AW.region (AO.q 3 I (AO.known 60 I hg1536 (AO.q 4 I (AO.known 64 I hg1537 (AO.q 12 I (AO.nil ?_))))))
 exact lg ⟨true, h, I, I⟩ [0]
 replace h := ife_f hg1537 h
 obtain ⟨r1538, hx1539, h⟩ := ob_some h
 rcases Bool.eq_false_or_eq_true ((r1538 != 0)) with hg1540 | hg1540
 replace h := ife_t hg1540 h
 refine AW.region (AO.q 3 I (AO.known 60 I hg1536 (AO.q 4 I (AO.known 64 I hg1537 (AO.r 1 [.o 0 0] I ⟨I, trivial⟩ (AO.gt I I I (AO.c (L.ref12_Check_ok r11.1 _ hx1539) (AO.q 3 I (AO.known 69 I hg1540 (AO.q 7 I (AO.nil ?_)))))))))))
 exact lg ⟨true, h, I, I⟩ [0]
 replace h := ife_f hg1540 h
 refine AW.region (AO.q 3 I (AO.known 60 I hg1536 (AO.q 4 I (AO.known 64 I hg1537 (AO.r 1 [.o 0 0] I ⟨I, trivial⟩ (AO.gt I I I (AO.c (L.ref12_Check_ok r11.1 _ hx1539) (AO.q 3 I (AO.known 69 I hg1540 (AO.r 7 [.l 1 (r67.1.length : Int), .o 3 0, .l 4 (r11.1.Segments.length : Int)] I ⟨len_m, I, len_m, trivial⟩ (AO.nil ?_)))))))))))
 exact lg ⟨((r67.1.length : Int) != (r11.1.Segments.length : Int)), h, I, I⟩ [0]
 rintro s ob ⟨j75, h, rfl, rfl⟩
 unfold L.law35_LeakSections.J2 at h
 refine AW.ch h I ?_ ?_
 intro hc76 h
 refine AW.z I (AW.ghost (Ghost.pick [] (K := []) I (by decide)) ?_)
 obtain rfl := Option.some.inj h
 exact AW.ret ⟨.inr I, [_], [], ⟨I, trivial⟩, sl_n, I, I⟩
 intro hc76 h
 refine AW.skip ?_
 subst hy69
 refine AW.seqG (fun y77 hy77 => ?_)
 obtain ⟨l78, hx79, h⟩ := ob_some h
 obtain ⟨m80, hx79i, hx79m, hx79r⟩ := mk_some hx79
 refine AW.region (AO.r 3 [.o 1 0, .l 2 (r11.1.Segments.length : Int)] I ⟨len_m, I, trivial⟩ (AO.act [] I (AX.makeU (sz := 1) I I I I I I I I I I hx79i hx79m (rep_map (f := rI) hx79r I) (dst_some I) (fun v81 => (AO.q 1 I (AO.nil ?_))))))
 subst hy77
 refine AW.cutX (fun s ob => ∃ (j96 : List Int), L.law35_LeakSections.J3 r11 j60 r64 j96 = some r ∧ s = [] ∧ ob = [.arr b13 30 6 1 [Network.row r11.1], .us v81 3 1 (j96.map rI)]) [(4, _), (5, _), (8, _), (12, _)] ⟨I, I, I, I, trivial⟩ ?_ ?_
 refine AW.z I (AW.block ?_)
 obtain ⟨o1527, hL1528, hR1529⟩ := ob_some h
 clear h
 refine AW.loopX hL1528 [(4, _), (5, _), (8, _), (12, _)] ⟨I, I, I, I, trivial⟩ (fun (st1523 : (List Int) × Int) s ob => s = [(13, .v (.int .i64 st1523.2))] ∧ ob = [.arr b13 30 6 1 [Network.row r11.1], .us v81 3 1 (st1523.1.map rI)]) ⟨I, I⟩ ⟨I, trivial⟩ ⟨[0, 1], I, by decide⟩ ?_
 rintro st1523 r1531 s ob ⟨rfl, rfl⟩ h hb1530
 unfold L.law35_LeakSections.B17 at h
 refine AW.seq (AW.seq (AW.region (AO.q 2 I (AO.d (Yd.lenUM 1 I I I I) I (AO.q 1 I (AO.nil (AW.ch h I ?_ ?_)))))))
 intro hc1532 h
 refine AW.skip (AW.seq (AW.block ?_))
 obtain ⟨p1533, hp1534, h⟩ := ob_some h
 obtain ⟨hp1534i, hp1534x⟩ := ix_some hp1534
 refine AW.region (AO.q 2 I (AO.d (Yd.indexU 1 (m := p1533.1) I I I I I I I hp1534i (map_get hp1534x)) I (AO.act [1] I (AX.storeU 1 p1533.1 0 I I I (map_get hp1534x) I I I I (le_ble I) I (us_set (x := (-1)) I) (AO.nil (AW.region (AO.q 3 I ?_)))))))
 obtain rfl := Option.some.inj h
 refine AO.nil ?_
 exact ⟨_, _, _, I, ⟨I, I⟩, ⟨I, I, I, I, I, trivial⟩, [0, 1], I, by decide⟩
 intro hc1532 h
 obtain rfl := hb1530 _ (Option.some.inj h).symm
 replace h := hR1529
 refine AW.exit ?_
 exact lg ⟨st1523.1, h, I, I⟩ [0, 1]
 rintro s ob ⟨j96, h, rfl, rfl⟩
 unfold L.law35_LeakSections.J3 at h
 refine AW.cutX (fun s ob => ∃ (j261 : List Int), L.law35_LeakSections.J4 r11 j60 j261 = some r ∧ s = [] ∧ ob = [.arr b13 30 6 1 [Network.row r11.1], .us v81 3 1 (j261.map rI)]) [(4, _), (5, _), (12, _)] ⟨I, I, I, trivial⟩ ?_ ?_
 refine AW.z I (AW.block ?_)
 obtain ⟨o1377, hL1378, hR1379⟩ := ob_some h
 clear h
 refine AW.loopX hL1378 [(4, _), (5, _), (8, _), (12, _)] ⟨I, I, I, I, trivial⟩ (fun (st1323 : (List Int) × Int) s ob => s = [(14, .v (.int .i64 st1323.2))] ∧ ob = [.arr b13 30 6 1 [Network.row r11.1], .us v81 3 1 (st1323.1.map rI)]) ⟨I, I⟩ ⟨I, trivial⟩ ⟨[0, 1], I, by decide⟩ ?_
 rintro st1323 r1381 s ob ⟨rfl, rfl⟩ h hb1380
 unfold L.law35_LeakSections.B13 at h
 refine AW.seqG (fun y1382 hy1382 => (AW.zr [.l 2 (r64.1.length : Int)] I ⟨len_m, trivial⟩ (AW.ch h I ?_ ?_)))
 intro hc1383 h
 refine AW.skip ?_
 subst hy1382
 refine AW.cutX (fun s ob => ∃ (j1434 : List Int), L.law35_LeakSections.J14 st1323 j1434 = some r1381 ∧ s = [] ∧ ob = [.arr b13 30 6 1 [Network.row r11.1], .us v81 3 1 (j1434.map rI)]) [(4, _), (5, _), (8, _), (12, _), (14, _)] ⟨I, I, I, I, I, trivial⟩ ?_ ?_
 refine AW.block (AW.z I (AW.block ?_))
 obtain ⟨o1485, hL1486, hR1487⟩ := ob_some h
 clear h
 refine AW.loopX hL1486 [(4, _), (5, _), (8, _), (12, _), (14, _)] ⟨I, I, I, I, I, trivial⟩ (fun (st1469 : (List Int) × Int) s ob => s = [(15, .v (.int .i64 st1469.2))] ∧ ob = [.arr b13 30 6 1 [Network.row r11.1], .us v81 3 1 (st1469.1.map rI)]) ⟨I, I⟩ ⟨I, trivial⟩ ⟨[0, 1], I, by decide⟩ ?_
 rintro st1469 r1489 s ob ⟨rfl, rfl⟩ h hb1488
 unfold L.law35_LeakSections.B15 at h
 refine AW.seqG (fun y1490 hy1490 => (AW.seq ?_))
 obtain ⟨p1491, hp1492, h⟩ := ob_some h
 obtain ⟨hp1492i, hp1492x⟩ := ix_some hp1492
 refine AW.tr [.x 3 p1491.1 ((rL 1 rI) p1491.2), .l 5 (p1491.2.length : Int)] I ⟨len_m, ⟨hp1492i, map_get hp1492x⟩, trivial⟩ (AW.ch h I ?_ ?_)
 intro hc1493 h
 refine AW.skip ?_
 subst hy1490
 refine AW.seq (AW.block (AW.seq (AW.seqG (fun y1494 hy1494 => ?_))))
 obtain ⟨p1495, hp1496, h⟩ := ob_some h
 obtain ⟨hp1496i, hp1496x⟩ := ix_some hp1496
 refine AW.tr [.x 2 p1491.1 ((rL 1 rI) p1491.2), .x 5 p1495.1 (rI p1495.2)] I ⟨⟨hp1496i, map_get hp1496x⟩, ⟨hp1492i, map_get hp1492x⟩, trivial⟩ ?_
 subst hy1494
 refine AW.cutX (fun s ob => ∃ (j1501 : Bool), L.law35_LeakSections.J16 st1323 st1469 p1495 j1501 = some r1489 ∧ s = [(126, .v (.bool j1501))] ∧ ob = [.arr b13 30 6 1 [Network.row r11.1], .us v81 3 1 (st1469.1.map rI)]) [(4, _), (5, _), (8, _), (12, _), (14, _), (15, _)] ⟨I, I, I, I, I, I, trivial⟩ ?_ ?_
 rcases Bool.eq_false_or_eq_true (decide (p1495.2 < 0)) with hg1505 | hg1505
 replace h := ife_t hg1505 h
 refine AW.region (AO.q 3 I (AO.known 114 I hg1505 (AO.q 12 I (AO.nil ?_))))
 exact lg ⟨true, h, I, I⟩ [0, 1]
 replace h := ife_f hg1505 h
 rcases Bool.eq_false_or_eq_true (decide (p1495.2 ≥ (st1469.1.length : Int))) with hg1506 | hg1506
 replace h := ife_t hg1506 h
 refine AW.region (AO.q 3 I (AO.known 114 I hg1505 (AO.q 2 I (AO.gt I I I (AO.d (Yd.lenUM 1 I I I I) I (AO.q 3 I (AO.known 120 I hg1506 (AO.q 6 I (AO.nil ?_)))))))))
 exact lg ⟨true, h, I, I⟩ [0, 1]
 replace h := ife_f hg1506 h
 obtain ⟨p1507, hp1508, h⟩ := ob_some h
 obtain ⟨hp1508i, hp1508x⟩ := ix_some hp1508
 refine AW.region (AO.q 3 I (AO.known 114 I hg1505 (AO.q 2 I (AO.gt I I I (AO.d (Yd.lenUM 1 I I I I) I (AO.q 3 I (AO.known 120 I hg1506 (AO.q 2 I (AO.gt I I I (AO.d (Yd.indexU 1 (m := p1507.1) I I I I I I I hp1508i (map_get hp1508x)) I (AO.gt I I I (AO.d (Yd.loadU 1 p1507.1 0 I I I (map_get hp1508x) I (y := .v (.int .i64 p1507.2)) I) I ?_))))))))))))
 refine AO.q 2 I (AO.nil ?_)
 exact lg ⟨decide (p1507.2 ≥ 0), h, I, I⟩ [0, 1]
 rintro s ob ⟨j1501, h, rfl, rfl⟩
 unfold L.law35_LeakSections.J16 at h
 refine AW.ch h I ?_ ?_
 intro hc1502 h
 refine AW.z I ?_
 obtain rfl := hb1488 _ (Option.some.inj h).symm
 replace h := hR1487
 replace h := se_l h
 obtain rfl := hb1380 _ (Option.some.inj h).symm
 replace h := hR1379
 replace h := se_l h
 refine AW.ghost (Ghost.pick [] (K := []) I (by decide)) ?_
 obtain rfl := Option.some.inj h
 exact AW.ret ⟨.inr I, [_], [], ⟨I, trivial⟩, sl_n, I, I⟩
 intro hc1502 h
 refine AW.skip ?_
 obtain ⟨p1503, hp1504, h⟩ := ob_some h
 obtain ⟨hp1504i, hp1504x⟩ := ix_some hp1504
 refine AW.region (AO.r 9 [.x 3 p1491.1 ((rL 1 rI) p1491.2), .x 6 p1495.1 (rI p1495.2)] I ⟨⟨hp1496i, map_get hp1496x⟩, ⟨hp1492i, map_get hp1492x⟩, trivial⟩ (AO.d (Yd.indexU 1 (m := p1503.1) I I I I I I I hp1504i (map_get hp1504x)) I (AO.act [1] I (AX.storeU 1 p1503.1 0 I I I (map_get hp1504x) I I I I (le_ble I) I (us_set (x := st1323.2) I) (AO.nil (AW.region (AO.q 3 I ?_)))))))
 obtain rfl := Option.some.inj h
 refine AO.nil ?_
 exact ⟨_, _, _, I, ⟨I, I⟩, ⟨I, I, I, I, I, I, trivial⟩, [0, 1], I, by decide⟩
 intro hc1493 h
 obtain rfl := hb1488 _ (Option.some.inj h).symm
 replace h := hR1487
 replace h := se_r h
 refine AW.exit ?_
 exact lg ⟨st1469.1, h, I, I⟩ [0, 1]
 rintro s ob ⟨j1434, h, rfl, rfl⟩
 unfold L.law35_LeakSections.J14 at h
 refine AW.region (AO.q 3 I ?_)
 obtain rfl := Option.some.inj h
 refine AO.nil ?_
 exact ⟨_, _, _, I, ⟨I, I⟩, ⟨I, I, I, I, I, trivial⟩, [0, 1], I, by decide⟩
 intro hc1383 h
 obtain rfl := hb1380 _ (Option.some.inj h).symm
 replace h := hR1379
 replace h := se_r h
 refine AW.exit ?_
 exact lg ⟨st1323.1, h, I, I⟩ [0, 1]
 rintro s ob ⟨j261, h, rfl, rfl⟩
 unfold L.law35_LeakSections.J4 at h
 refine AW.cutX (fun s ob => ∃ (j590 : Unit), L.law35_LeakSections.J5 j590 = some r ∧ s = [] ∧ ob = []) [] trivial ?_ ?_
 refine AW.z I (AW.block ?_)
 obtain ⟨o930, hL931, hR932⟩ := ob_some h
 clear h
 refine AW.loopX hL931 [(4, _), (5, _), (12, _)] ⟨I, I, I, trivial⟩ (fun (st821 : Int) s ob => s = [(17, .v (.int .i64 st821))] ∧ ob = [.arr b13 30 6 1 [Network.row r11.1], .us v81 3 1 (j261.map rI)]) ⟨I, I⟩ ⟨I, trivial⟩ ⟨[0, 1], I, by decide⟩ ?_
 rintro st821 r934 s ob ⟨rfl, rfl⟩ h hb933
 unfold L.law35_LeakSections.B7 at h
 refine AW.seqG (fun y935 hy935 => (AW.seq (AW.region (AO.q 2 I (AO.d (Yd.lenUM 1 I I I I) I (AO.q 1 I (AO.nil (AW.ch h I ?_ ?_))))))))
 intro hc936 h
 refine AW.skip ?_
 subst hy935
 refine AW.cutX (fun s ob => ∃ (j1042 : Unit), L.law35_LeakSections.J8 st821 j1042 = some r934 ∧ s = [] ∧ ob = [.arr b13 30 6 1 [Network.row r11.1], .us v81 3 1 (j261.map rI)]) [(4, _), (5, _), (12, _), (17, _)] ⟨I, I, I, I, trivial⟩ ?_ ?_
 refine AW.block (AW.seqG (fun y1043 hy1043 => (AW.seq ?_)))
 obtain ⟨p1044, hp1045, h⟩ := ob_some h
 obtain ⟨hp1045i, hp1045x⟩ := ix_some hp1045
 refine AW.region (AO.q 2 I (AO.d (Yd.indexU 1 (m := p1044.1) I I I I I I I hp1045i (map_get hp1045x)) I (AO.d (Yd.loadU 1 p1044.1 0 I I I (map_get hp1045x) I (y := .v (.int .i64 p1044.2)) I) I (AO.q 1 I (AO.nil (AW.ch h I ?_ ?_))))))
 intro hc1046 h
 refine AW.z I ?_
 obtain rfl := hb933 _ (Option.some.inj h).symm
 replace h := hR932
 replace h := se_l h
 refine AW.ghost (Ghost.pick [] (K := []) I (by decide)) ?_
 obtain rfl := Option.some.inj h
 exact AW.ret ⟨.inr I, [_], [], ⟨I, trivial⟩, sl_n, I, I⟩
 intro hc1046 h
 refine AW.skip ?_
 subst hy1043
 refine AW.z I (AW.block ?_)
 obtain ⟨o1148, hL1149, hR1150⟩ := ob_some h
 clear h
 refine AW.loopX hL1149 [(4, _), (5, _), (12, _), (17, _)] ⟨I, I, I, I, trivial⟩ (fun (st1115 : Int) s ob => s = [(18, .v (.int .i64 st1115))] ∧ ob = [.arr b13 30 6 1 [Network.row r11.1], .us v81 3 1 (j261.map rI)]) ⟨I, I⟩ ⟨I, trivial⟩ ⟨[0, 1], I, by decide⟩ ?_
 rintro st1115 r1152 s ob ⟨rfl, rfl⟩ h hb1151
 unfold L.law35_LeakSections.B9 at h
 refine AW.seqG (fun y1153 hy1153 => (AW.z I (AW.ch h I ?_ ?_)))
 intro hc1154 h
 refine AW.skip ?_
 subst hy1153
 refine AW.seq (AW.block (AW.cutX (fun s ob => ∃ (j1161 : ByteArray × Int × Int × Int × Int × Int × (List Point) × ByteArray × Int × Int × Int × Int × Int × (List Point)) (b1162 : Nat) (b1163 : Nat), L.law35_LeakSections.J10 j60 j261 p1044 st1115 j1161 = some r1152 ∧ s = [(19, .v (.pointer (some ⟨b1162, 0, none⟩))), (20, .v (.pointer (some ⟨b1163, 0, none⟩)))] ∧ ob = [.arr b13 30 6 1 [Network.row r11.1], .us v81 3 1 (j261.map rI), .arr b1162 42 7 1 [[.v (.string j1161.1), .v (.int .i64 j1161.2.1), .v (.int .i64 j1161.2.2.1), .v (.int .i64 j1161.2.2.2.1), .v (.int .i64 j1161.2.2.2.2.1), .v (.int .i64 j1161.2.2.2.2.2.1), .list 3 (j1161.2.2.2.2.2.2.1.map Point.row)]], .arr b1163 42 7 1 [[.v (.string j1161.2.2.2.2.2.2.2.1), .v (.int .i64 j1161.2.2.2.2.2.2.2.2.1), .v (.int .i64 j1161.2.2.2.2.2.2.2.2.2.1), .v (.int .i64 j1161.2.2.2.2.2.2.2.2.2.2.1), .v (.int .i64 j1161.2.2.2.2.2.2.2.2.2.2.2.1), .v (.int .i64 j1161.2.2.2.2.2.2.2.2.2.2.2.2.1), .list 3 (j1161.2.2.2.2.2.2.2.2.2.2.2.2.2.map Point.row)]]]) [(4, _), (5, _), (12, _), (17, _), (18, _)] ⟨I, I, I, I, I, trivial⟩ ?_ ?_))
 obtain ⟨p1203, hp1204, h⟩ := ob_some h
 obtain ⟨hp1204i, hp1204x⟩ := ix_some hp1204
 obtain ⟨p1205, hp1206, h⟩ := ob_some h
 obtain ⟨hp1206i, hp1206x⟩ := ix_some hp1206
 refine AW.rd (.still 0 (.still 1 (.still 2 (.still 3 (.still 4 (.still 5 (.still 6 (.still 7 (.still 8 (.still 9 (.two 10 11 (.act 11 (.act 12 (.act 13 .nil))) (.act 10 (.act 12 (.act 13 .nil)))))))))))))) [0] [_] I (AP.r 10 [.o 1 0, .x 3 p1203.1 (Segment.row p1203.2), .o 6 0, .x 8 p1205.1 (Segment.row p1205.2)] I ⟨⟨hp1206i, map_get hp1206x⟩, I, ⟨hp1204i, map_get hp1204x⟩, I, trivial⟩ (AP.two ?_ ?_))
 refine AP.act [] I I I (AX.alloc (cs := [.v (.string ⟨#[]⟩), .v (.int .i64 0), .v (.int .i64 0), .v (.int .i64 0), .v (.int .i64 0), .v (.int .i64 0), .v (.slice none 0 0)]) (m := 7) I I I I I (dst_some I) (fun b1207 => (AP.act [] I I I (AX.alloc (cs := [.v (.string ⟨#[]⟩), .v (.int .i64 0), .v (.int .i64 0), .v (.int .i64 0), .v (.int .i64 0), .v (.int .i64 0), .v (.slice none 0 0)]) (m := 7) I I I I I (dst_some I) (fun b1208 => (AP.act [2] I I I (AX.store 2 0 0 (es' := [Segment.row p1203.2]) I I I I I I I I (le_ble I) I I (AP.act [3] I I I (AX.store 3 0 0 (es' := [Segment.row p1205.2]) I I I I I I I I (le_ble I) I I (AP.ofAO (AO.nil ?_)))))))))))
 exact lg ⟨(p1203.2.Name, p1203.2.From, p1203.2.To, p1203.2.Capacity, p1203.2.Resist, p1203.2.Wave, p1203.2.Points, p1205.2.Name, p1205.2.From, p1205.2.To, p1205.2.Capacity, p1205.2.Resist, p1205.2.Wave, p1205.2.Points), b1207, b1208, h, I, I⟩ [0, 1, 2, 3]
 refine AP.act [] I I I (AX.alloc (cs := [.v (.string ⟨#[]⟩), .v (.int .i64 0), .v (.int .i64 0), .v (.int .i64 0), .v (.int .i64 0), .v (.int .i64 0), .v (.slice none 0 0)]) (m := 7) I I I I I (dst_some I) (fun b1208 => (AP.act [] I I I (AX.alloc (cs := [.v (.string ⟨#[]⟩), .v (.int .i64 0), .v (.int .i64 0), .v (.int .i64 0), .v (.int .i64 0), .v (.int .i64 0), .v (.slice none 0 0)]) (m := 7) I I I I I (dst_some I) (fun b1207 => (AP.act [3] I I I (AX.store 3 0 0 (es' := [Segment.row p1203.2]) I I I I I I I I (le_ble I) I I (AP.act [2] I I I (AX.store 2 0 0 (es' := [Segment.row p1205.2]) I I I I I I I I (le_ble I) I I (AP.ofAO (AO.nil ?_)))))))))))
 exact lg ⟨(p1203.2.Name, p1203.2.From, p1203.2.To, p1203.2.Capacity, p1203.2.Resist, p1203.2.Wave, p1203.2.Points, p1205.2.Name, p1205.2.From, p1205.2.To, p1205.2.Capacity, p1205.2.Resist, p1205.2.Wave, p1205.2.Points), b1207, b1208, h, I, I⟩ [0, 1, 3, 2]
 rintro s ob ⟨j1161, b1162, b1163, h, rfl, rfl⟩
 unfold L.law35_LeakSections.J10 at h
 refine AW.cutX (fun s ob => ∃ (j1177 : Bool), L.law35_LeakSections.J11 j261 p1044 st1115 j1177 = some r1152 ∧ s = [(21, .v (.bool j1177))] ∧ ob = [.arr b13 30 6 1 [Network.row r11.1], .us v81 3 1 (j261.map rI)]) [(4, _), (5, _), (12, _), (17, _), (18, _)] ⟨I, I, I, I, I, trivial⟩ ?_ ?_
 obtain ⟨p1190, hp1191, h⟩ := ob_some h
 obtain ⟨hp1191i, hp1191x⟩ := ix_some hp1191
 rcases Bool.eq_false_or_eq_true ((!p1190.2)) with hg1192 | hg1192
 replace h := ife_t hg1192 h
 rcases Bool.eq_false_or_eq_true ((j1161.2.1 == j1161.2.2.2.2.2.2.2.2.1)) with hg1193 | hg1193
 replace h := ife_t hg1193 h
 refine AW.region (AO.r 7 [.o 2 2, .x 3 p1190.1 (rB p1190.2)] I ⟨⟨hp1191i, map_get hp1191x⟩, I, trivial⟩ (AO.known 169 I hg1192 (AO.r 6 [.o 1 2, .o 3 3] I ⟨I, I, trivial⟩ (AO.known 175 I hg1193 (AO.q 15 I (AO.skipU I I (dst_some I) (AO.skipU I I (dst_some I) (AO.skipU I I (dst_some I) (AO.skipU I I (dst_some I) (AO.skipU I I (dst_some I) (AO.skipU I I (dst_some I) (AO.skipU I I (dst_some I) ?_))))))))))))
 refine AO.skipU I I (dst_some I) (AO.skipU I I (dst_some I) (AO.skipU I I (dst_some I) (AO.skipU I I (dst_some I) (AO.skipU I I (dst_some I) (AO.q 3 I (AO.nil ?_))))))
 exact lg ⟨true, h, I, I⟩ [0, 1]
 replace h := ife_f hg1193 h
 rcases Bool.eq_false_or_eq_true ((j1161.2.1 == j1161.2.2.2.2.2.2.2.2.2.1)) with hg1194 | hg1194
 replace h := ife_t hg1194 h
 refine AW.region (AO.r 7 [.o 2 2, .x 3 p1190.1 (rB p1190.2)] I ⟨⟨hp1191i, map_get hp1191x⟩, I, trivial⟩ (AO.known 169 I hg1192 (AO.r 6 [.o 1 2, .o 3 3] I ⟨I, I, trivial⟩ (AO.known 175 I hg1193 (AO.r 8 [.o 1 2, .o 3 3] I ⟨I, I, trivial⟩ (AO.known 183 I hg1194 (AO.q 7 I (AO.skipU I I (dst_some I) (AO.skipU I I (dst_some I) (AO.skipU I I (dst_some I) (AO.skipU I I (dst_some I) (AO.skipU I I (dst_some I) ?_))))))))))))
 refine AO.skipU I I (dst_some I) (AO.skipU I I (dst_some I) (AO.skipU I I (dst_some I) (AO.skipU I I (dst_some I) (AO.skipU I I (dst_some I) (AO.skipU I I (dst_some I) (AO.skipU I I (dst_some I) (AO.q 3 I (AO.nil ?_))))))))
 exact lg ⟨true, h, I, I⟩ [0, 1]
 replace h := ife_f hg1194 h
 obtain ⟨p1195, hp1196, h⟩ := ob_some h
 obtain ⟨hp1196i, hp1196x⟩ := ix_some hp1196
 rcases Bool.eq_false_or_eq_true ((!p1195.2)) with hg1197 | hg1197
 replace h := ife_t hg1197 h
 rcases Bool.eq_false_or_eq_true ((j1161.2.2.1 == j1161.2.2.2.2.2.2.2.2.1)) with hg1198 | hg1198
 replace h := ife_t hg1198 h
 refine AW.region (AO.r 7 [.o 2 2, .x 3 p1190.1 (rB p1190.2)] I ⟨⟨hp1191i, map_get hp1191x⟩, I, trivial⟩ (AO.known 169 I hg1192 (AO.r 6 [.o 1 2, .o 3 3] I ⟨I, I, trivial⟩ (AO.known 175 I hg1193 (AO.r 8 [.o 1 2, .o 3 3] I ⟨I, I, trivial⟩ (AO.known 183 I hg1194 (AO.r 7 [.o 2 2, .x 3 p1195.1 (rB p1195.2)] I ⟨⟨hp1196i, map_get hp1196x⟩, I, trivial⟩ (AO.known 190 I hg1197 (AO.r 6 [.o 1 2, .o 3 3] I ⟨I, I, trivial⟩ (AO.known 196 I hg1198 (AO.q 9 I (AO.nil ?_))))))))))))
 exact lg ⟨true, h, I, I⟩ [0, 1]
 replace h := ife_f hg1198 h
 refine AW.region (AO.r 7 [.o 2 2, .x 3 p1190.1 (rB p1190.2)] I ⟨⟨hp1191i, map_get hp1191x⟩, I, trivial⟩ (AO.known 169 I hg1192 (AO.r 6 [.o 1 2, .o 3 3] I ⟨I, I, trivial⟩ (AO.known 175 I hg1193 (AO.r 8 [.o 1 2, .o 3 3] I ⟨I, I, trivial⟩ (AO.known 183 I hg1194 (AO.r 7 [.o 2 2, .x 3 p1195.1 (rB p1195.2)] I ⟨⟨hp1196i, map_get hp1196x⟩, I, trivial⟩ (AO.known 190 I hg1197 (AO.r 6 [.o 1 2, .o 3 3] I ⟨I, I, trivial⟩ (AO.known 196 I hg1198 (AO.r 9 [.o 1 2, .o 3 3] I ⟨I, I, trivial⟩ (AO.nil ?_))))))))))))
 exact lg ⟨(j1161.2.2.1 == j1161.2.2.2.2.2.2.2.2.2.1), h, I, I⟩ [0, 1]
 replace h := ife_f hg1197 h
 refine AW.region (AO.r 7 [.o 2 2, .x 3 p1190.1 (rB p1190.2)] I ⟨⟨hp1191i, map_get hp1191x⟩, I, trivial⟩ (AO.known 169 I hg1192 (AO.r 6 [.o 1 2, .o 3 3] I ⟨I, I, trivial⟩ (AO.known 175 I hg1193 (AO.r 8 [.o 1 2, .o 3 3] I ⟨I, I, trivial⟩ (AO.known 183 I hg1194 (AO.r 7 [.o 2 2, .x 3 p1195.1 (rB p1195.2)] I ⟨⟨hp1196i, map_get hp1196x⟩, I, trivial⟩ (AO.known 190 I hg1197 (AO.q 6 I (AO.skipU I I (dst_some I) (AO.skipU I I (dst_some I) (AO.skipU I I (dst_some I) ?_))))))))))))
 refine AO.skipU I I (dst_some I) (AO.skipU I I (dst_some I) (AO.q 4 I (AO.nil ?_)))
 exact lg ⟨false, h, I, I⟩ [0, 1]
 replace h := ife_f hg1192 h
 obtain ⟨p1199, hp1200, h⟩ := ob_some h
 obtain ⟨hp1200i, hp1200x⟩ := ix_some hp1200
 rcases Bool.eq_false_or_eq_true ((!p1199.2)) with hg1201 | hg1201
 replace h := ife_t hg1201 h
 rcases Bool.eq_false_or_eq_true ((j1161.2.2.1 == j1161.2.2.2.2.2.2.2.2.1)) with hg1202 | hg1202
 replace h := ife_t hg1202 h
 refine AW.region (AO.r 7 [.o 2 2, .x 3 p1190.1 (rB p1190.2)] I ⟨⟨hp1191i, map_get hp1191x⟩, I, trivial⟩ (AO.known 169 I hg1192 (AO.q 6 I (AO.skipU I I (dst_some I) (AO.skipU I I (dst_some I) (AO.skipU I I (dst_some I) (AO.skipU I I (dst_some I) (AO.skipU I I (dst_some I) (AO.r 10 [.o 5 2, .x 6 p1199.1 (rB p1199.2)] I ⟨⟨hp1200i, map_get hp1200x⟩, I, trivial⟩ (AO.known 190 I hg1201 (AO.r 6 [.o 1 2, .o 3 3] I ⟨I, I, trivial⟩ (AO.known 196 I hg1202 ?_))))))))))))
 refine AO.q 9 I (AO.nil ?_)
 exact lg ⟨true, h, I, I⟩ [0, 1]
 replace h := ife_f hg1202 h
 refine AW.region (AO.r 7 [.o 2 2, .x 3 p1190.1 (rB p1190.2)] I ⟨⟨hp1191i, map_get hp1191x⟩, I, trivial⟩ (AO.known 169 I hg1192 (AO.q 6 I (AO.skipU I I (dst_some I) (AO.skipU I I (dst_some I) (AO.skipU I I (dst_some I) (AO.skipU I I (dst_some I) (AO.skipU I I (dst_some I) (AO.r 10 [.o 5 2, .x 6 p1199.1 (rB p1199.2)] I ⟨⟨hp1200i, map_get hp1200x⟩, I, trivial⟩ (AO.known 190 I hg1201 (AO.r 6 [.o 1 2, .o 3 3] I ⟨I, I, trivial⟩ (AO.known 196 I hg1202 ?_))))))))))))
 refine AO.r 9 [.o 1 2, .o 3 3] I ⟨I, I, trivial⟩ (AO.nil ?_)
 exact lg ⟨(j1161.2.2.1 == j1161.2.2.2.2.2.2.2.2.2.1), h, I, I⟩ [0, 1]
 replace h := ife_f hg1201 h
 refine AW.region (AO.r 7 [.o 2 2, .x 3 p1190.1 (rB p1190.2)] I ⟨⟨hp1191i, map_get hp1191x⟩, I, trivial⟩ (AO.known 169 I hg1192 (AO.q 6 I (AO.skipU I I (dst_some I) (AO.skipU I I (dst_some I) (AO.skipU I I (dst_some I) (AO.skipU I I (dst_some I) (AO.skipU I I (dst_some I) (AO.r 10 [.o 5 2, .x 6 p1199.1 (rB p1199.2)] I ⟨⟨hp1200i, map_get hp1200x⟩, I, trivial⟩ (AO.known 190 I hg1201 (AO.q 6 I (AO.skipU I I (dst_some I) ?_))))))))))))
 refine AO.skipU I I (dst_some I) (AO.skipU I I (dst_some I) (AO.skipU I I (dst_some I) (AO.skipU I I (dst_some I) (AO.q 4 I (AO.nil ?_)))))
 exact lg ⟨false, h, I, I⟩ [0, 1]
 rintro s ob ⟨j1177, h, rfl, rfl⟩
 unfold L.law35_LeakSections.J11 at h
 refine AW.cutX (fun s ob => ∃ (j1183 : Bool), L.law35_LeakSections.J12 st1115 j1183 = some r1152 ∧ s = [(216, .v (.bool j1183))] ∧ ob = [.arr b13 30 6 1 [Network.row r11.1], .us v81 3 1 (j261.map rI)]) [(4, _), (5, _), (12, _), (17, _), (18, _)] ⟨I, I, I, I, I, trivial⟩ ?_ ?_
 rcases Bool.eq_false_or_eq_true (j1177) with hg1185 | hg1185
 replace h := ife_t hg1185 h
 obtain ⟨p1186, hp1187, h⟩ := ob_some h
 obtain ⟨hp1187i, hp1187x⟩ := ix_some hp1187
 refine AW.form 1 p1044.1 I hp1045x (fun hf1188 => (AW.form 1 p1186.1 I hp1187x (fun hf1189 => (AW.rd (pd 12 0 []) [1] [_] I (AP.q 2 I (AP.known 206 I hg1185 (AP.q 2 I (AP.oldG I I I I ((Yp.indexUf (m := p1044.1) I I I I I hf1188 I hp1045i hp1045x).yd) (dst_some I) (AP.oldG I I I I (Yd.loadU 0 p1044.1 0 I I I (map_get hp1045x) I (y := .v (.int .i64 p1044.2)) I) (dst_some I) (AP.q 2 I (AP.oldG I I I I ((Yp.indexUf (m := p1186.1) I I I I I hf1189 I hp1187i hp1187x).yd) (dst_some I) (AP.oldG I I I I (Yd.loadU 0 p1186.1 0 I I I (map_get hp1187x) I (y := .v (.int .i64 p1186.2)) I) (dst_some I) (AP.q 2 I (AP.ofAO ?_))))))))))))))
 refine AO.nil ?_
 exact lg ⟨(p1044.2 != p1186.2), h, I, I⟩ [0, 1]
 replace h := ife_f hg1185 h
 refine AW.rd (pd 12 0 []) [] [] I (AP.q 2 I (AP.known 206 I hg1185 (AP.q 10 I (AP.ofAO (AO.nil ?_)))))
 exact lg ⟨false, h, I, I⟩ [0, 1]
 rintro s ob ⟨j1183, h, rfl, rfl⟩
 unfold L.law35_LeakSections.J12 at h
 refine AW.ch h I ?_ ?_
 intro hc1184 h
 refine AW.z I ?_
 obtain rfl := hb1151 _ (Option.some.inj h).symm
 replace h := hR1150
 replace h := se_l h
 obtain rfl := hb933 _ (Option.some.inj h).symm
 replace h := hR932
 replace h := se_l h
 refine AW.ghost (Ghost.pick [] (K := []) I (by decide)) ?_
 obtain rfl := Option.some.inj h
 exact AW.ret ⟨.inr I, [_], [], ⟨I, trivial⟩, sl_n, I, I⟩
 intro hc1184 h
 refine AW.skip (AW.region (AO.q 3 I ?_))
 obtain rfl := Option.some.inj h
 refine AO.nil ?_
 exact ⟨_, _, _, I, ⟨I, I⟩, ⟨I, I, I, I, I, trivial⟩, [0, 1], I, by decide⟩
 intro hc1154 h
 obtain rfl := hb1151 _ (Option.some.inj h).symm
 replace h := hR1150
 replace h := se_r h
 refine AW.exit ?_
 exact lg ⟨(), h, I, I⟩ [0, 1]
 rintro s ob ⟨j1042, h, rfl, rfl⟩
 unfold L.law35_LeakSections.J8 at h
 refine AW.region (AO.q 3 I ?_)
 obtain rfl := Option.some.inj h
 refine AO.nil ?_
 exact ⟨_, _, _, I, ⟨I, I⟩, ⟨I, I, I, I, trivial⟩, [0, 1], I, by decide⟩
 intro hc936 h
 obtain rfl := hb933 _ (Option.some.inj h).symm
 replace h := hR932
 replace h := se_r h
 refine AW.exit ?_
 exact lg ⟨(), h, I, I⟩ []
 rintro s ob ⟨j590, h, rfl, rfl⟩
 unfold L.law35_LeakSections.J5 at h
 refine AW.cutX (fun s ob => ∃ (j596 : Bool), L.law35_LeakSections.J6 j596 = some r ∧ s = [(2, .v (.bool j596))] ∧ ob = []) [] trivial ?_ ?_
 obtain ⟨r597, hx598, h⟩ := ob_some h
 rcases Bool.eq_false_or_eq_true ((r597 == 0)) with hg599 | hg599
 replace h := ife_t hg599 h
 obtain ⟨r600, hx601, h⟩ := ob_some h
 refine AW.region (AO.act [] I (AX.callL I (.refl _) I I (.cons (.nil _) (.rest _)) I (L.ref34_Check_ok [] _ hx598) (dst_some I) (by rintro _ _ ⟨rfl, _⟩; rfl) ?_))
 rintro _ ⟨_, rfl, -⟩
 refine AO.q 2 I (AO.known 219 I hg599 (AO.gt I I I (AO.c (L.law35_awake_ok  _ hx601) (AO.q 2 I (AO.nil ?_)))))
 exact lg ⟨r600, h, I, I⟩ []
 replace h := ife_f hg599 h
 refine AW.region (AO.act [] I (AX.callL I (.refl _) I I (.cons (.nil _) (.rest _)) I (L.ref34_Check_ok [] _ hx598) (dst_some I) (by rintro _ _ ⟨rfl, _⟩; rfl) ?_))
 rintro _ ⟨_, rfl, -⟩
 refine AO.q 2 I (AO.known 219 I hg599 (AO.q 3 I (AO.nil ?_)))
 exact lg ⟨false, h, I, I⟩ []
 rintro s ob ⟨j596, h, rfl, rfl⟩
 unfold L.law35_LeakSections.J6 at h
 obtain rfl := Option.some.inj h
 exact AW.ret ⟨.inr I, [_], [], ⟨I, trivial⟩, sl_n, I, I⟩

end Go.Proofs.Ytndfiddakngjdaa
