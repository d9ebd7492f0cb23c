/- Walks that show what functions of the program compute; printed by a program of ours. No condition. -/
import Derived.Test.YtligpmmgdjipbaaZvLa4
import Derived.Test.YtligpmmgdjipbaaZvL4c
import Derived.Test.YtligpmmgdjipbaaZvL4b
import Derived.Test.YtligpmmgdjipbaaZvD
set_option maxRecDepth 100000
namespace Go.Proofs.Ytligpmmgdjipbaa
open Go.Aw
set_option linter.unusedVariables false
set_option linter.unusedSimpArgs false
set_option maxHeartbeats 4000000
theorem L.zjuy_ok (bg : List Int) (ad : Int) (r : Bool) (h : L.zjuy bg ad = some r) : ACalls Try.env 4 [.list 1 (bg.map rI), .v (.int .u8 ad)] [] (fun x new => x = .v (.bool r) ∧ new = []) := by
 refine ACalls.of_body Try.func4 rfl rfl rfl (fun C hC => ?_)
 unfold L.zjuy at h
 refine AW.z I (AW.seqG (fun y2 bw => ?_))
 obtain ⟨r3, bx, h⟩ := ob_some h
 refine AW.region (AO.q 1 I (AO.act [] I (AX.call0 I I I (L.ziti_ok _ _ bx) dS ?_)))
 rintro _ _ ⟨F, rfl, rfl⟩
 refine AO.q 1 I (AO.nil ?_)
 subst bw
 refine AW.seqG (fun y6 bz => ?_)
 obtain ⟨g, b0, h⟩ := ob_some h
 refine AW.region (AO.q 1 I (AO.act [0] I (AX.c0 [0] (L.zeju_ok F _ _ b0) ?_)))
 refine AO.act [] I (AX.alloc (cs := [.N, .N, .N, .N, .V 0, .V 0]) (m := 6) I I I I I dS (fun O => (AO.act [1] I (AX.store 1 0 0 (es' := [Network.row g.1]) I I I I I I I I (le_ble I) I I (AO.nil ?_)))))
 subst bz
 refine AW.cutX (fun s ob => ∃ (a : (List (List Piece)) × (List Int) × (List Int) × (List Bool) × (List Int)) (X : Value) (A : Nat) (Y : Value), L.zjuy.J1 ad g a = some r ∧ s = [(7, .v X), (8, .v (.pointer (some ⟨A, 0, none⟩))), (9, .v Y)] ∧ ob = [.arr O 30 6 1 [Network.row g.1], .us X 44 1 (a.1.map (rL 2 Piece.row)), .us Y 3 1 (a.2.2.2.2.map rI), .arr A 37 3 1 [[.list 1 (a.2.1.map rI), .list 1 (a.2.2.1.map rI), .list 1 (a.2.2.2.1.map rB)]]]) [(1, _), (6, _)] ⟨I, I, J⟩ ?_ ?_
 obtain ⟨a1, bh, h⟩ := ob_some h
 obtain ⟨i, a9, h⟩ := ob_some h
 obtain ⟨a2, a3, h⟩ := ob_some h
 refine AW.rd (.still 0 (.still 1 (.still 3 (.still 4 (.still 6 (.still 7 (.two 2 9 (.two 5 9 (.two 8 9 (.act 9 (.still 10 (.act 11 (.still 12 .nil)))) (.act 8 (.still 10 (.act 11 (.still 12 .nil))))) (.act 5 (.act 8 (.still 10 (.act 11 (.still 12 .nil)))))) (.act 2 (.act 5 (.act 8 (.still 10 (.act 11 (.still 12 .nil))))))))))))) [1] [_] I (AP.r 6 [.o 1 0, .o 3 0, .o 5 0] I ⟨I, I, I, J⟩ (AP.two ?_ ?_))
 refine AP.act [0] I I I (AX.cg [0] (L.zbhc_ok F _ _ _ _ bh) ?_)
 rintro _ _ _ - ⟨an, rfl, rfl, rfl⟩
 refine AP.two ?_ ?_
 refine AP.act [0] I I I (AX.c0 [0] (L.zjbu_ok F _ _ _ a9) ?_)
 refine AP.two ?_ ?_
 refine AP.act [0] I I I (AX.cg [0] (L.zork_ok F _ _ _ _ a3) ?_)
 rintro _ _ _ - ⟨Z, rfl, rfl, rfl⟩
 refine AP.act [] I I I (AX.alloc (cs := [.N, .N, .N]) (m := 3) I I I I I dS (fun aa => (AP.q 1 I (AP.act [4] I I I (AX.store 4 0 0 (es' := [Plan.row i.1]) I I I I I I I I (le_ble I) I I (AP.q 1 I (AP.ofAO (AO.nil ?_))))))))
 exact lg ⟨(a1.1, i.1.Rates, i.1.Ports, i.1.Pumps, a2.1), an, aa, Z, h, I, I⟩ [1, 2, 3, 4]
 refine AP.act [] I I I (AX.alloc (cs := [.N, .N, .N]) (m := 3) I I I I I dS (fun aa => (AP.act [0] I I I (AX.cg [0] (L.zork_ok F _ _ _ _ a3) ?_))))
 rintro _ _ _ - ⟨Z, rfl, rfl, rfl⟩
 refine AP.q 1 I (AP.act [3] I I I (AX.store 3 0 0 (es' := [Plan.row i.1]) I I I I I I I I (le_ble I) I I (AP.q 1 I (AP.ofAO (AO.nil ?_)))))
 exact lg ⟨(a1.1, i.1.Rates, i.1.Ports, i.1.Pumps, a2.1), an, aa, Z, h, I, I⟩ [1, 2, 4, 3]
 refine AP.act [] I I I (AX.alloc (cs := [.N, .N, .N]) (m := 3) I I I I I dS (fun aa => (AP.act [0] I I I (AX.c0 [0] (L.zjbu_ok F _ _ _ a9) ?_))))
 refine AP.act [0] I I I (AX.cg [0] (L.zork_ok F _ _ _ _ a3) ?_)
 rintro _ _ _ - ⟨Z, rfl, rfl, rfl⟩
 refine AP.q 1 I (AP.act [3] I I I (AX.store 3 0 0 (es' := [Plan.row i.1]) I I I I I I I I (le_ble I) I I (AP.q 1 I (AP.ofAO (AO.nil ?_)))))
 exact lg ⟨(a1.1, i.1.Rates, i.1.Ports, i.1.Pumps, a2.1), an, aa, Z, h, I, I⟩ [1, 2, 4, 3]
 refine AP.act [] I I I (AX.alloc (cs := [.N, .N, .N]) (m := 3) I I I I I dS (fun aa => (AP.act [0] I I I (AX.cg [0] (L.zbhc_ok F _ _ _ _ bh) ?_))))
 rintro _ _ _ - ⟨an, rfl, rfl, rfl⟩
 refine AP.act [0] I I I (AX.c0 [0] (L.zjbu_ok F _ _ _ a9) ?_)
 refine AP.act [0] I I I (AX.cg [0] (L.zork_ok F _ _ _ _ a3) ?_)
 rintro _ _ _ - ⟨Z, rfl, rfl, rfl⟩
 refine AP.q 1 I (AP.act [2] I I I (AX.store 2 0 0 (es' := [Plan.row i.1]) I I I I I I I I (le_ble I) I I (AP.q 1 I (AP.ofAO (AO.nil ?_)))))
 exact lg ⟨(a1.1, i.1.Rates, i.1.Ports, i.1.Pumps, a2.1), an, aa, Z, h, I, I⟩ [1, 3, 4, 2]
 rintro s ob ⟨a, X, A, Y, h, rfl, rfl⟩
 unfold L.zjuy.J1 at h
 refine AW.seqG (fun dm b1 => (AW.region (AO.r 4 [.o 1 3, .o 3 3] I ⟨I, I, J⟩ (AO.p (Yp.buildP (l := [.list 1 (a.2.1.map rI), .list 1 (a.2.2.1.map rI), .N]) Try.bld37 I) I (AO.act [] I (AX.alloc (cs := [.N, .N, .N]) (m := 3) I I I I I dS (fun ae => (AO.act [4] I (AX.store 4 0 0 (es' := [[.list 1 (a.2.1.map rI), .list 1 (a.2.2.1.map rI), .N]]) I I I I I I I I (le_ble I) I I (AO.nil ?_))))))))))
 subst b1
 refine AW.cutX (fun s ob => ∃ (G : List Bool) (Q : Value), L.zjuy.J2 ad g a G = some r ∧ s = [] ∧ ob = [.arr O 30 6 1 [Network.row g.1], .us X 44 1 (a.1.map (rL 2 Piece.row)), .us Y 3 1 (a.2.2.2.2.map rI), .arr A 37 3 1 [[.list 1 (a.2.1.map rI), .list 1 (a.2.2.1.map rI), .list 1 (a.2.2.2.1.map rB)]], .arr ae 37 3 1 [[.list 1 (a.2.1.map rI), .list 1 (a.2.2.1.map rI), .v Q]], .us Q 4 1 (G.map rB)]) [(1, _), (6, _), (7, _), (8, _), (9, _), (10, _)] ⟨I, I, I, I, I, I, J⟩ ?_ ?_
 refine AW.z I (AW.block (AW.ghost (Ghost.nilU 4 1) ?_))
 obtain ⟨dn, b2, b3⟩ := ob_some h
 clear h
 refine AW.loopX b2 [(1, _), (6, _), (7, _), (8, _), (9, _), (10, _)] ⟨I, I, I, I, I, I, J⟩ (fun (a4 : (List Bool) × Int) s ob => ∃ (a5 : Value), s = [(11, .V a4.2)] ∧ ob = [.arr O 30 6 1 [Network.row g.1], .us X 44 1 (a.1.map (rL 2 Piece.row)), .us Y 3 1 (a.2.2.2.2.map rI), .arr A 37 3 1 [[.list 1 (a.2.1.map rI), .list 1 (a.2.2.1.map rI), .list 1 (a.2.2.2.1.map rB)]], .arr ae 37 3 1 [[.list 1 (a.2.1.map rI), .list 1 (a.2.2.1.map rI), .v a5]], .us a5 4 1 (a4.1.map rB)]) ⟨(.slice none 0 0), I, I⟩ ⟨I, J⟩ ⟨[0, 1, 2, 3, 4, 5], I, by decide⟩ ?_
 rintro a4 dp s ob ⟨a5, rfl, rfl⟩ h b4
 unfold L.zjuy.B8 at h
 refine AW.seqG (fun dq b6 => (AW.zr [.o 2 0, .l 3 (g.1.Stations.length : Int)] I ⟨len_m, I, J⟩ (AW.ch h I ?_ ?_)))
 intro b7 h
 refine AW.skip ?_
 subst b6
 refine AW.seq (AW.block ?_)
 obtain ⟨ba, b8, h⟩ := ob_some h
 obtain ⟨ca, cb⟩ := ix_some b8
 obtain ⟨dr, cc, h⟩ := ob_some h
 refine AW.rd (.still 0 (.still 1 (.still 2 (.still 3 (.still 4 (.still 5 (.still 6 (.still 7 (.act 8 (.act 9 (.still 10 (.drop 11 .nil)))))))))))) [4, 3] [_, _] I (AP.r 8 [.o 1 0, .o 3 1, .x 5 ba.1 (rB ba.2)] I ⟨⟨ca, map_get cb⟩, I, I, J⟩ (AP.act [] I I I (AX.lt 1 (([(!ba.2)] : List Bool).map rB) (AP.act [5] I I I (AX.ap 5 I cc (fun bi => (AP.q 1 I (AP.one 5 I (fun cd => (AP.drop [4] I I I (AX.store 4 0 2 (es' := [[.list 1 (a.2.1.map rI), .list 1 (a.2.2.1.map rI), .v bi]]) I I I I I I (cells_v cd) I (le_ble I) I I (AP.ofAO (AO.nil (AW.region (AO.q 3 I ?_)))))))))))))))
 obtain rfl := oi h
 refine AO.nil ?_
 exact ⟨_, _, _, I, ⟨bi, I, I⟩, ⟨I, I, I, I, I, I, I, J⟩, [0, 1, 2, 3, 4, 5], I, by decide⟩
 intro b7 h
 obtain rfl := b4 _ (oi h).symm
 replace h := b3
 refine AW.exit ?_
 exact lg ⟨a4.1, a5, h, I, I⟩ [0, 1, 2, 3, 4, 5]
 rintro s ob ⟨G, Q, h, rfl, rfl⟩
 unfold L.zjuy.J2 at h
 refine AW.cutX (fun s ob => ∃ (n : (List Int) × (List Int)) (af : Nat) (R : Value) (S : Value), L.zjuy.J3 ad g a G n = some r ∧ s = [(12, .v (.pointer (some ⟨af, 0, none⟩)))] ∧ ob = [.arr O 30 6 1 [Network.row g.1], .us X 44 1 (a.1.map (rL 2 Piece.row)), .us Y 3 1 (a.2.2.2.2.map rI), .arr A 37 3 1 [[.list 1 (a.2.1.map rI), .list 1 (a.2.2.1.map rI), .list 1 (a.2.2.2.1.map rB)]], .arr ae 37 3 1 [[.list 1 (a.2.1.map rI), .list 1 (a.2.2.1.map rI), .v Q]], .us Q 4 1 (G.map rB), .us R 3 1 (n.1.map rI), .us S 3 1 (n.2.map rI), .arr af 37 3 1 [[.v R, .v S, .list 1 (a.2.2.2.1.map rB)]]]) [(1, _), (6, _), (7, _), (8, _), (9, _), (10, _)] ⟨I, I, I, I, I, I, J⟩ ?_ ?_
 obtain ⟨ag, ce, h⟩ := ob_some h
 obtain ⟨ds, ao, aq, ar⟩ := mk_some ce
 obtain ⟨ah, cf, h⟩ := ob_some h
 obtain ⟨dt, au, av, aw⟩ := mk_some cf
 refine AW.rd (.still 0 (.still 1 (.still 2 (.still 4 (.still 5 (.still 6 (.still 8 (.still 9 (.three 3 7 11 (.two 7 11 (.still 10 (.act 11 (.act 12 .nil))) (.act 7 (.still 10 (.act 12 .nil)))) (.two 3 11 (.still 10 (.act 11 (.act 12 .nil))) (.act 3 (.still 10 (.act 12 .nil)))) (.two 3 7 (.act 7 (.still 10 (.act 12 .nil))) (.act 3 (.still 10 (.act 12 .nil))))))))))))) [0, 3] [_, _] I (AP.r 8 [.o 1 0, .l 2 (g.1.Segments.length : Int), .o 4 0, .l 5 (g.1.Ports.length : Int), .o 7 1] I ⟨I, len_m, I, len_m, I, J⟩ (AP.three ?_ ?_ ?_))
 refine AP.act [] I I I (AX.makeU (sz := 1) I I I I I I I I I I ao aq (rep_map (f := rI) ar I) dS (fun b => (AP.two ?_ ?_)))
 refine AP.act [] I I I (AX.makeU (sz := 1) I I I I I I I I I I au av (rep_map (f := rI) aw I) dS (fun e => (AP.one 6 I (fun B => (AP.one 7 I (fun D => (AP.p I (Yp.buildP (l := [.v b, .v e, .list 1 (a.2.2.2.1.map rB)]) Try.bld37 (fill_step I I (cells_v B) I (fill_step I I (cells_v D) I (fill_step I I I I (fill_nil))))) I (AP.act [] I I I (AX.alloc (cs := [.N, .N, .N]) (m := 3) I I I I I dS (fun H => (AP.act [8] I I I (AX.store 8 0 0 (es' := [[.v b, .v e, .list 1 (a.2.2.2.1.map rB)]]) I I I I I I I I (le_ble I) I I (AP.ofAO (AO.nil ?_))))))))))))))
 exact lg ⟨(ag, ah), H, b, e, h, I, I⟩ [0, 1, 2, 3, 4, 5, 6, 7, 8]
 refine AP.act [] I I I (AX.alloc (cs := [.N, .N, .N]) (m := 3) I I I I I dS (fun H => (AP.act [] I I I (AX.makeU (sz := 1) I I I I I I I I I I au av (rep_map (f := rI) aw I) dS (fun e => (AP.one 6 I (fun B => (AP.one 8 I (fun D => (AP.p I (Yp.buildP (l := [.v b, .v e, .list 1 (a.2.2.2.1.map rB)]) Try.bld37 (fill_step I I (cells_v B) I (fill_step I I (cells_v D) I (fill_step I I I I (fill_nil))))) I (AP.act [7] I I I (AX.store 7 0 0 (es' := [[.v b, .v e, .list 1 (a.2.2.2.1.map rB)]]) I I I I I I I I (le_ble I) I I (AP.ofAO (AO.nil ?_))))))))))))))
 exact lg ⟨(ag, ah), H, b, e, h, I, I⟩ [0, 1, 2, 3, 4, 5, 6, 8, 7]
 refine AP.act [] I I I (AX.makeU (sz := 1) I I I I I I I I I I au av (rep_map (f := rI) aw I) dS (fun e => (AP.two ?_ ?_)))
 refine AP.act [] I I I (AX.makeU (sz := 1) I I I I I I I I I I ao aq (rep_map (f := rI) ar I) dS (fun b => (AP.one 7 I (fun B => (AP.one 6 I (fun D => (AP.p I (Yp.buildP (l := [.v b, .v e, .list 1 (a.2.2.2.1.map rB)]) Try.bld37 (fill_step I I (cells_v B) I (fill_step I I (cells_v D) I (fill_step I I I I (fill_nil))))) I (AP.act [] I I I (AX.alloc (cs := [.N, .N, .N]) (m := 3) I I I I I dS (fun H => (AP.act [8] I I I (AX.store 8 0 0 (es' := [[.v b, .v e, .list 1 (a.2.2.2.1.map rB)]]) I I I I I I I I (le_ble I) I I (AP.ofAO (AO.nil ?_))))))))))))))
 exact lg ⟨(ag, ah), H, b, e, h, I, I⟩ [0, 1, 2, 3, 4, 5, 7, 6, 8]
 refine AP.act [] I I I (AX.alloc (cs := [.N, .N, .N]) (m := 3) I I I I I dS (fun H => (AP.act [] I I I (AX.makeU (sz := 1) I I I I I I I I I I ao aq (rep_map (f := rI) ar I) dS (fun b => (AP.one 8 I (fun B => (AP.one 6 I (fun D => (AP.p I (Yp.buildP (l := [.v b, .v e, .list 1 (a.2.2.2.1.map rB)]) Try.bld37 (fill_step I I (cells_v B) I (fill_step I I (cells_v D) I (fill_step I I I I (fill_nil))))) I (AP.act [7] I I I (AX.store 7 0 0 (es' := [[.v b, .v e, .list 1 (a.2.2.2.1.map rB)]]) I I I I I I I I (le_ble I) I I (AP.ofAO (AO.nil ?_))))))))))))))
 exact lg ⟨(ag, ah), H, b, e, h, I, I⟩ [0, 1, 2, 3, 4, 5, 8, 6, 7]
 refine AP.act [] I I I (AX.alloc (cs := [.N, .N, .N]) (m := 3) I I I I I dS (fun H => (AP.two ?_ ?_)))
 refine AP.act [] I I I (AX.makeU (sz := 1) I I I I I I I I I I ao aq (rep_map (f := rI) ar I) dS (fun b => (AP.act [] I I I (AX.makeU (sz := 1) I I I I I I I I I I au av (rep_map (f := rI) aw I) dS (fun e => (AP.one 7 I (fun B => (AP.one 8 I (fun D => (AP.p I (Yp.buildP (l := [.v b, .v e, .list 1 (a.2.2.2.1.map rB)]) Try.bld37 (fill_step I I (cells_v B) I (fill_step I I (cells_v D) I (fill_step I I I I (fill_nil))))) I (AP.act [6] I I I (AX.store 6 0 0 (es' := [[.v b, .v e, .list 1 (a.2.2.2.1.map rB)]]) I I I I I I I I (le_ble I) I I (AP.ofAO (AO.nil ?_))))))))))))))
 exact lg ⟨(ag, ah), H, b, e, h, I, I⟩ [0, 1, 2, 3, 4, 5, 7, 8, 6]
 refine AP.act [] I I I (AX.makeU (sz := 1) I I I I I I I I I I au av (rep_map (f := rI) aw I) dS (fun e => (AP.act [] I I I (AX.makeU (sz := 1) I I I I I I I I I I ao aq (rep_map (f := rI) ar I) dS (fun b => (AP.one 8 I (fun B => (AP.one 7 I (fun D => (AP.p I (Yp.buildP (l := [.v b, .v e, .list 1 (a.2.2.2.1.map rB)]) Try.bld37 (fill_step I I (cells_v B) I (fill_step I I (cells_v D) I (fill_step I I I I (fill_nil))))) I (AP.act [6] I I I (AX.store 6 0 0 (es' := [[.v b, .v e, .list 1 (a.2.2.2.1.map rB)]]) I I I I I I I I (le_ble I) I I (AP.ofAO (AO.nil ?_))))))))))))))
 exact lg ⟨(ag, ah), H, b, e, h, I, I⟩ [0, 1, 2, 3, 4, 5, 8, 7, 6]
 rintro s ob ⟨n, af, R, S, h, rfl, rfl⟩
 unfold L.zjuy.J3 at h
 refine AW.seqG (fun du ci => ?_)
 obtain ⟨j, cj, h⟩ := ob_some h
 refine AW.region (AO.r 4 [.o 0 0, .o 2 3] I ⟨I, I, J⟩ (AO.ghost (Ghost.freeze [1, 2] (K := [.us X 44 1 (a.1.map (rL 2 Piece.row)), .us Y 3 1 (a.2.2.2.2.map rI)]) I [(7, .list 1 (a.1.map (rL 2 Piece.row))), (9, .list 1 (a.2.2.2.2.map rI)), (77, .list 1 (a.1.map (rL 2 Piece.row))), (79, .list 1 (a.2.2.2.2.map rI))] ⟨⟨_, I, .us 0 I⟩, ⟨_, I, .us 1 I⟩, ⟨_, I, .us 0 I⟩, ⟨_, I, .us 1 I⟩, J⟩ (ob' := [.arr O 30 6 1 [Network.row g.1], .arr A 37 3 1 [[.list 1 (a.2.1.map rI), .list 1 (a.2.2.1.map rI), .list 1 (a.2.2.2.1.map rB)]], .arr ae 37 3 1 [[.list 1 (a.2.1.map rI), .list 1 (a.2.2.1.map rI), .v Q]], .us Q 4 1 (G.map rB), .us R 3 1 (n.1.map rI), .us S 3 1 (n.2.map rI), .arr af 37 3 1 [[.v R, .v S, .list 1 (a.2.2.2.1.map rB)]]]) (.rest _)) (AO.act [] I (AX.call0 I I I (L.zcgl_ok _ _ _ _ _ cj) dS ?_))))
 rintro _ _ ⟨ai, aj, rfl, rfl⟩
 refine AO.q 7 I (AO.nil ?_)
 subst ci
 refine AW.seqG (fun dv ck => ?_)
 obtain ⟨u, cl, h⟩ := ob_some h
 refine AW.region (AO.r 4 [.o 0 0, .o 2 2] I ⟨I, I, J⟩ (AO.ghost (Ghost.freeze [3] (K := [.us Q 4 1 (G.map rB)]) I [(87, .agg [.list 1 (a.2.1.map rI), .list 1 (a.2.2.1.map rI), .list 1 (G.map rB)])] ⟨⟨_, I, .agg (.cons (.refl _) (.cons (.refl _) (.cons (.us 0 I) (.rest _))))⟩, J⟩ (ob' := [.arr O 30 6 1 [Network.row g.1], .arr A 37 3 1 [[.list 1 (a.2.1.map rI), .list 1 (a.2.2.1.map rI), .list 1 (a.2.2.2.1.map rB)]], .arr ae 37 3 1 [[.list 1 (a.2.1.map rI), .list 1 (a.2.2.1.map rI), .list 1 (G.map rB)]], .us R 3 1 (n.1.map rI), .us S 3 1 (n.2.map rI), .arr af 37 3 1 [[.v R, .v S, .list 1 (a.2.2.2.1.map rB)]], .us ai 44 1 (j.1.map (rL 2 Piece.row)), .us aj 44 1 (j.2.1.map (rL 2 Piece.row))]) (.cons (.same _) (.cons (.same _) (.cons (.arr (.cons (.refl _) (.cons (.refl _) (.cons (.us 0 I) (.rest _))))) (.rest _))))) (AO.act [] I (AX.call0 I I I (L.zcgl_ok _ _ _ _ _ cl) dS ?_))))
 rintro _ _ ⟨ax, ay, rfl, rfl⟩
 refine AO.q 7 I (AO.nil ?_)
 subst ck
 refine AW.seqG (fun dw cm => ?_)
 obtain ⟨t, cn, h⟩ := ob_some h
 refine AW.region (AO.r 4 [.o 0 0, .o 2 5] I ⟨I, I, J⟩ (AO.ghost (Ghost.freeze [3, 4] (K := [.us R 3 1 (n.1.map rI), .us S 3 1 (n.2.map rI)]) I [(96, .agg [.list 1 (n.1.map rI), .list 1 (n.2.map rI), .list 1 (a.2.2.2.1.map rB)])] ⟨⟨_, I, .agg (.cons (.us 0 I) (.cons (.us 1 I) (.rest _)))⟩, J⟩ (ob' := [.arr O 30 6 1 [Network.row g.1], .arr A 37 3 1 [[.list 1 (a.2.1.map rI), .list 1 (a.2.2.1.map rI), .list 1 (a.2.2.2.1.map rB)]], .arr ae 37 3 1 [[.list 1 (a.2.1.map rI), .list 1 (a.2.2.1.map rI), .list 1 (G.map rB)]], .arr af 37 3 1 [[.list 1 (n.1.map rI), .list 1 (n.2.map rI), .list 1 (a.2.2.2.1.map rB)]], .us ai 44 1 (j.1.map (rL 2 Piece.row)), .us aj 44 1 (j.2.1.map (rL 2 Piece.row)), .us ax 44 1 (u.1.map (rL 2 Piece.row)), .us ay 44 1 (u.2.1.map (rL 2 Piece.row))]) (.cons (.same _) (.cons (.same _) (.cons (.same _) (.cons (.arr (.cons (.us 0 I) (.cons (.us 1 I) (.rest _)))) (.rest _)))))) (AO.act [] I (AX.call0 I I I (L.zcgl_ok _ _ _ _ _ cn) dS ?_))))
 rintro _ _ ⟨a6, bb, rfl, rfl⟩
 refine AO.q 7 I (AO.nil ?_)
 subst cm
 refine AW.seqG (fun dx co => ?_)
 obtain ⟨bj, cp, h⟩ := ob_some h
 refine AW.region (AO.act [] I (AX.buildSlice (sz := 1) (es := ([] : List Int).map rI) I I I I I I I I I I I dS (fun dy => (AO.q 1 I (AO.act [10] I (AX.ap 10 I cp (fun bk => (AO.q 1 I (AO.nil ?_)))))))))
 subst co
 refine AW.cutX (fun s ob => ∃ (ak : List Int), L.zjuy.J4 g a j u t ak = some r ∧ s = [] ∧ ob = [.arr O 30 6 1 [Network.row g.1], .arr A 37 3 1 [[.list 1 (a.2.1.map rI), .list 1 (a.2.2.1.map rI), .list 1 (a.2.2.2.1.map rB)]], .us ai 44 1 (j.1.map (rL 2 Piece.row)), .us aj 44 1 (j.2.1.map (rL 2 Piece.row)), .us ax 44 1 (u.1.map (rL 2 Piece.row)), .us ay 44 1 (u.2.1.map (rL 2 Piece.row)), .us a6 44 1 (t.1.map (rL 2 Piece.row)), .us bb 44 1 (t.2.1.map (rL 2 Piece.row)), .us bk 3 1 (ak.map rI)]) [(6, _), (7, _), (8, _), (13, _), (14, _), (15, _), (16, _), (17, _), (18, _), (19, _), (20, _), (21, _), (22, _)] ⟨I, I, I, I, I, I, I, I, I, I, I, I, I, J⟩ ?_ ?_
 refine AW.seqG (fun dz cq => ?_)
 obtain ⟨bl, cr, h⟩ := ob_some h
 refine AW.region (AO.q 1 I (AO.p (Yp.convI (c := wr (ad)) I I I I I) I (AO.q 1 I (AO.d (Yd.lenUM 10 I I I I) I (AO.r 2 [.f 0 (.V bl)] I ⟨Yp.yd (Yp.binI (c := bl) I I (rem_some cr)), J⟩ (AO.nil ?_))))))
 subst cq
 refine AW.seq ?_
 obtain ⟨bm, ct, h⟩ := ob_some h
 obtain ⟨cu, cv⟩ := ix_some ct
 refine AW.tr [.o 1 1, .x 3 bm.1 (rI bm.2)] I ⟨⟨cu, map_get cv⟩, I, J⟩ (AW.ch h I ?_ ?_)
 intro cw h
 obtain ⟨bc, cx, h⟩ := ob_some h
 obtain ⟨cy, bn⟩ := ix_some cx
 refine AW.region (AO.q 2 I (AO.d (Yd.indexU 10 (m := bc.1) I I I I I I I cy (map_get bn)) I (AO.act [10] I (AX.storeU 10 bc.1 0 I I I (map_get bn) I I I I (le_ble I) I (us_set (x := 9) I) (AO.nil ?_)))))
 exact lg ⟨(bj.set bc.1 9), h, I, I⟩ [0, 1, 4, 5, 6, 7, 8, 9, 10]
 intro cw h
 refine AW.skip ?_
 exact lg ⟨bj, h, I, I⟩ [0, 1, 4, 5, 6, 7, 8, 9, 10]
 rintro s ob ⟨ak, h, rfl, rfl⟩
 unfold L.zjuy.J4 at h
 refine AW.seqG (fun d0 cz => ?_)
 obtain ⟨al, c1, h⟩ := ob_some h
 refine AW.region (AO.r 4 [.o 0 0, .o 2 1] I ⟨I, I, J⟩ (AO.ghost (Ghost.freeze [8] (K := [.us bk 3 1 (ak.map rI)]) I [(22, .list 1 (ak.map rI)), (123, .list 1 (ak.map rI))] ⟨⟨_, I, .us 0 I⟩, ⟨_, I, .us 0 I⟩, J⟩ (ob' := [.arr O 30 6 1 [Network.row g.1], .arr A 37 3 1 [[.list 1 (a.2.1.map rI), .list 1 (a.2.2.1.map rI), .list 1 (a.2.2.2.1.map rB)]], .us ai 44 1 (j.1.map (rL 2 Piece.row)), .us aj 44 1 (j.2.1.map (rL 2 Piece.row)), .us ax 44 1 (u.1.map (rL 2 Piece.row)), .us ay 44 1 (u.2.1.map (rL 2 Piece.row)), .us a6 44 1 (t.1.map (rL 2 Piece.row)), .us bb 44 1 (t.2.1.map (rL 2 Piece.row))]) (.rest _)) (AO.act [] I (AX.call0 I I I (L.zcgl_ok _ _ _ _ _ c1) dS ?_))))
 rintro _ _ ⟨bo, bp, rfl, rfl⟩
 refine AO.q 7 I (AO.nil ?_)
 subst cz
 refine AW.cutX (fun s ob => ∃ (bq : Unit), L.zjuy.J5 a j u t al bq = some r ∧ s = [] ∧ ob = [.us ai 44 1 (j.1.map (rL 2 Piece.row)), .us aj 44 1 (j.2.1.map (rL 2 Piece.row)), .us ax 44 1 (u.1.map (rL 2 Piece.row)), .us ay 44 1 (u.2.1.map (rL 2 Piece.row)), .us a6 44 1 (t.1.map (rL 2 Piece.row)), .us bo 44 1 (al.1.map (rL 2 Piece.row)), .us bp 44 1 (al.2.1.map (rL 2 Piece.row))]) [(7, _), (13, _), (14, _), (15, _), (16, _), (17, _), (18, _), (19, _), (21, _), (24, _), (25, _), (26, _)] ⟨I, I, I, I, I, I, I, I, I, I, I, I, J⟩ ?_ ?_
 refine AW.seqG (fun d1 c2 => (AW.region (AO.q 1 I (AO.d (Yd.lenUM 7 I I I I) I (AO.q 1 I (AO.nil ?_))))))
 subst c2
 refine AW.block (AW.usMax 7 I (fun bd => ?_))
 replace bd : t.2.1.length ≤ 9223372036854775806 := by rw [List.length_map] at bd; omega
 obtain ⟨d2, c3, br⟩ := ob_some h
 clear h
 refine AW.forIX c3 [(7, _), (13, _), (14, _), (15, _), (16, _), (17, _), (18, _), (19, _), (20, _), (21, _), (24, _), (25, _), (26, _), (129, _)] ⟨I, I, I, I, I, I, I, I, I, I, I, I, I, I, J⟩ (fun (a7 : Nat) (bs : Unit) s ob => s = [(130, .V (a7 : Int))] ∧ ob = [.us ai 44 1 (j.1.map (rL 2 Piece.row)), .us aj 44 1 (j.2.1.map (rL 2 Piece.row)), .us ax 44 1 (u.1.map (rL 2 Piece.row)), .us ay 44 1 (u.2.1.map (rL 2 Piece.row)), .us a6 44 1 (t.1.map (rL 2 Piece.row)), .us bb 44 1 (t.2.1.map (rL 2 Piece.row)), .us bo 44 1 (al.1.map (rL 2 Piece.row)), .us bp 44 1 (al.2.1.map (rL 2 Piece.row))]) ⟨I, I⟩ ⟨I, J⟩ ⟨[2, 3, 4, 5, 6, 7, 8, 9], I, by decide⟩ ?_ ?_
 rintro a7 bs d3 s ob c4 ⟨rfl, rfl⟩ h c5
 unfold L.zjuy.B7 at h
 have c6 : decide ((a7 : Int) < (t.2.1.length : Int)) = true := decide_eq_true (by omega)
 refine AW.z I (AW.seqG (fun d4 c7 => (AW.condK (v := true) I c6 (AW.skip ?_))))
 subst c7
 refine AW.seq (AW.block (AW.z I (AW.seq ?_)))
 obtain ⟨a8, c8, h⟩ := ob_some h
 obtain ⟨c9, bu⟩ := ix_some c8
 refine AW.region (AO.q 2 I (AO.d (Yd.indexU 5 (m := a8.1) I I I I I I I c9 (map_get bu)) I (AO.d (Yd.loadU 5 a8.1 0 I I I (map_get bu) I (y := .list 2 (a8.2.map Piece.row)) I) I (AO.r 2 [.l 0 (a8.2.length : Int)] I ⟨len_m, J⟩ (AO.nil (AW.ch h I ?_ ?_))))))
 intro da h
 refine AW.z I ?_
 obtain rfl := c5 _ (oi h).symm
 replace h := br
 replace h := se_r h
 refine AW.ghost g0 ?_
 obtain rfl := oi h
 exact AW.ret pr
 intro da h
 refine AW.skip (AW.region (AO.r 2 [.k 0 (a7 + 1 : Nat)] I ⟨cast_wr c4 bd, J⟩ ?_))
 obtain rfl := oi h
 refine AO.nil ?_
 exact ⟨_, _, _, I, ⟨I, I⟩, ⟨I, I, I, I, I, I, I, I, I, I, I, I, I, I, I, J⟩, [0, 1, 2, 3, 4, 5, 6, 7], I, by decide⟩
 rintro bs s ob ⟨rfl, rfl⟩ he
 subst he
 have h := se_l br
 have db : decide (((t.2.1.length : Nat) : Int) < (t.2.1.length : Int)) = false := by simp
 refine AW.z I (AW.seqG (fun d5 d6 => (AW.condK (v := false) I db (AW.exit ?_))))
 exact lg ⟨(), h, I, I⟩ [0, 1, 2, 3, 4, 6, 7]
 rintro s ob ⟨bq, h, rfl, rfl⟩
 unfold L.zjuy.J5 at h
 refine AW.cutX (fun s ob => ∃ (be : Bool), L.zjuy.J6 be = some r ∧ s = [(4, .v (.bool be))] ∧ ob = []) [] J ?_ ?_
 rcases bt ((j.2.2 == u.2.2)) with w | w
 replace h := ife_t w h
 obtain ⟨dc, U, h⟩ := ob_some h
 rcases bt (dc) with E | E
 replace h := ife_t E h
 obtain ⟨dd, ab, h⟩ := ob_some h
 rcases bt (dd) with M | M
 replace h := ife_t M h
 rcases bt ((t.2.2 == 0)) with P | P
 replace h := ife_t P h
 obtain ⟨de, az, h⟩ := ob_some h
 rcases bt (de) with W | W
 replace h := ife_t W h
 rcases bt ((al.2.2 == j.2.2)) with ac | ac
 replace h := ife_t ac h
 obtain ⟨df, bf, h⟩ := ob_some h
 rcases bt (df) with am | am
 replace h := ife_t am h
 obtain ⟨dg, bv, h⟩ := ob_some h
 rcases bt (dg) with a0 | a0
 replace h := ife_t a0 h
 obtain ⟨dh, di, h⟩ := ob_some h
 refine AW.region (AO.q 4 I (AO.known 143 I w (AO.q 2 I (AO.gt I I I (AO.act [] I (AX.callL I (.refl _) I I (.cons (.us 0 I) (.cons (.us 2 I) (.rest _))) I (L.zkma_ok _ _ _ U) dS (by rintro _ _ ⟨rfl, _⟩; rfl) ?_))))))
 rintro _ ⟨_, rfl, -⟩
 refine AO.q 2 I (AO.known 148 I E (AO.q 2 I (AO.gt I I I (AO.act [] I (AX.callL I (.refl _) I I (.cons (.us 1 I) (.cons (.us 3 I) (.rest _))) I (L.zkma_ok _ _ _ ab) dS (by rintro _ _ ⟨rfl, _⟩; rfl) ?_)))))
 rintro _ ⟨_, rfl, -⟩
 refine AO.q 2 I (AO.known 153 I M (AO.q 4 I (AO.known 157 I P (AO.q 2 I (AO.gt I I I (AO.act [] I (AX.callL I (.refl _) I I (.cons (.us 4 I) (.rest _)) I (L.zkma_ok _ _ _ az) dS (by rintro _ _ ⟨rfl, _⟩; rfl) ?_)))))))
 rintro _ ⟨_, rfl, -⟩
 refine AO.q 2 I (AO.known 162 I W (AO.q 5 I (AO.known 167 I ac (AO.q 2 I (AO.gt I I I (AO.act [] I (AX.callL I (.refl _) I I (.cons (.us 0 I) (.cons (.us 5 I) (.rest _))) I (L.zkma_ok _ _ _ bf) dS (by rintro _ _ ⟨rfl, _⟩; rfl) ?_)))))))
 rintro _ ⟨_, rfl, -⟩
 refine AO.q 2 I (AO.known 172 I am (AO.q 2 I (AO.gt I I I (AO.act [] I (AX.callL I (.refl _) I I (.cons (.us 1 I) (.cons (.us 6 I) (.rest _))) I (L.zkma_ok _ _ _ bv) dS (by rintro _ _ ⟨rfl, _⟩; rfl) ?_)))))
 rintro _ ⟨_, rfl, -⟩
 refine AO.q 2 I (AO.known 177 I a0 (AO.gt I I I (AO.c (L.zdqe_ok  _ di) (AO.q 2 I (AO.nil ?_)))))
 exact lg ⟨dh, h, I, I⟩ []
 replace h := ife_f a0 h
 refine AW.region (AO.q 4 I (AO.known 143 I w (AO.q 2 I (AO.gt I I I (AO.act [] I (AX.callL I (.refl _) I I (.cons (.us 0 I) (.cons (.us 2 I) (.rest _))) I (L.zkma_ok _ _ _ U) dS (by rintro _ _ ⟨rfl, _⟩; rfl) ?_))))))
 rintro _ ⟨_, rfl, -⟩
 refine AO.q 2 I (AO.known 148 I E (AO.q 2 I (AO.gt I I I (AO.act [] I (AX.callL I (.refl _) I I (.cons (.us 1 I) (.cons (.us 3 I) (.rest _))) I (L.zkma_ok _ _ _ ab) dS (by rintro _ _ ⟨rfl, _⟩; rfl) ?_)))))
 rintro _ ⟨_, rfl, -⟩
 refine AO.q 2 I (AO.known 153 I M (AO.q 4 I (AO.known 157 I P (AO.q 2 I (AO.gt I I I (AO.act [] I (AX.callL I (.refl _) I I (.cons (.us 4 I) (.rest _)) I (L.zkma_ok _ _ _ az) dS (by rintro _ _ ⟨rfl, _⟩; rfl) ?_)))))))
 rintro _ ⟨_, rfl, -⟩
 refine AO.q 2 I (AO.known 162 I W (AO.q 5 I (AO.known 167 I ac (AO.q 2 I (AO.gt I I I (AO.act [] I (AX.callL I (.refl _) I I (.cons (.us 0 I) (.cons (.us 5 I) (.rest _))) I (L.zkma_ok _ _ _ bf) dS (by rintro _ _ ⟨rfl, _⟩; rfl) ?_)))))))
 rintro _ ⟨_, rfl, -⟩
 refine AO.q 2 I (AO.known 172 I am (AO.q 2 I (AO.gt I I I (AO.act [] I (AX.callL I (.refl _) I I (.cons (.us 1 I) (.cons (.us 6 I) (.rest _))) I (L.zkma_ok _ _ _ bv) dS (by rintro _ _ ⟨rfl, _⟩; rfl) ?_)))))
 rintro _ ⟨_, rfl, -⟩
 refine AO.q 2 I (AO.known 177 I a0 (AO.q 3 I (AO.nil ?_)))
 exact lg ⟨false, h, I, I⟩ []
 replace h := ife_f am h
 refine AW.region (AO.q 4 I (AO.known 143 I w (AO.q 2 I (AO.gt I I I (AO.act [] I (AX.callL I (.refl _) I I (.cons (.us 0 I) (.cons (.us 2 I) (.rest _))) I (L.zkma_ok _ _ _ U) dS (by rintro _ _ ⟨rfl, _⟩; rfl) ?_))))))
 rintro _ ⟨_, rfl, -⟩
 refine AO.q 2 I (AO.known 148 I E (AO.q 2 I (AO.gt I I I (AO.act [] I (AX.callL I (.refl _) I I (.cons (.us 1 I) (.cons (.us 3 I) (.rest _))) I (L.zkma_ok _ _ _ ab) dS (by rintro _ _ ⟨rfl, _⟩; rfl) ?_)))))
 rintro _ ⟨_, rfl, -⟩
 refine AO.q 2 I (AO.known 153 I M (AO.q 4 I (AO.known 157 I P (AO.q 2 I (AO.gt I I I (AO.act [] I (AX.callL I (.refl _) I I (.cons (.us 4 I) (.rest _)) I (L.zkma_ok _ _ _ az) dS (by rintro _ _ ⟨rfl, _⟩; rfl) ?_)))))))
 rintro _ ⟨_, rfl, -⟩
 refine AO.q 2 I (AO.known 162 I W (AO.q 5 I (AO.known 167 I ac (AO.q 2 I (AO.gt I I I (AO.act [] I (AX.callL I (.refl _) I I (.cons (.us 0 I) (.cons (.us 5 I) (.rest _))) I (L.zkma_ok _ _ _ bf) dS (by rintro _ _ ⟨rfl, _⟩; rfl) ?_)))))))
 rintro _ ⟨_, rfl, -⟩
 refine AO.q 2 I (AO.known 172 I am (AO.q 8 I (AO.nil ?_)))
 exact lg ⟨false, h, I, I⟩ []
 replace h := ife_f ac h
 refine AW.region (AO.q 4 I (AO.known 143 I w (AO.q 2 I (AO.gt I I I (AO.act [] I (AX.callL I (.refl _) I I (.cons (.us 0 I) (.cons (.us 2 I) (.rest _))) I (L.zkma_ok _ _ _ U) dS (by rintro _ _ ⟨rfl, _⟩; rfl) ?_))))))
 rintro _ ⟨_, rfl, -⟩
 refine AO.q 2 I (AO.known 148 I E (AO.q 2 I (AO.gt I I I (AO.act [] I (AX.callL I (.refl _) I I (.cons (.us 1 I) (.cons (.us 3 I) (.rest _))) I (L.zkma_ok _ _ _ ab) dS (by rintro _ _ ⟨rfl, _⟩; rfl) ?_)))))
 rintro _ ⟨_, rfl, -⟩
 refine AO.q 2 I (AO.known 153 I M (AO.q 4 I (AO.known 157 I P (AO.q 2 I (AO.gt I I I (AO.act [] I (AX.callL I (.refl _) I I (.cons (.us 4 I) (.rest _)) I (L.zkma_ok _ _ _ az) dS (by rintro _ _ ⟨rfl, _⟩; rfl) ?_)))))))
 rintro _ ⟨_, rfl, -⟩
 refine AO.q 2 I (AO.known 162 I W (AO.q 5 I (AO.known 167 I ac (AO.q 13 I (AO.nil ?_)))))
 exact lg ⟨false, h, I, I⟩ []
 replace h := ife_f W h
 refine AW.region (AO.q 4 I (AO.known 143 I w (AO.q 2 I (AO.gt I I I (AO.act [] I (AX.callL I (.refl _) I I (.cons (.us 0 I) (.cons (.us 2 I) (.rest _))) I (L.zkma_ok _ _ _ U) dS (by rintro _ _ ⟨rfl, _⟩; rfl) ?_))))))
 rintro _ ⟨_, rfl, -⟩
 refine AO.q 2 I (AO.known 148 I E (AO.q 2 I (AO.gt I I I (AO.act [] I (AX.callL I (.refl _) I I (.cons (.us 1 I) (.cons (.us 3 I) (.rest _))) I (L.zkma_ok _ _ _ ab) dS (by rintro _ _ ⟨rfl, _⟩; rfl) ?_)))))
 rintro _ ⟨_, rfl, -⟩
 refine AO.q 2 I (AO.known 153 I M (AO.q 4 I (AO.known 157 I P (AO.q 2 I (AO.gt I I I (AO.act [] I (AX.callL I (.refl _) I I (.cons (.us 4 I) (.rest _)) I (L.zkma_ok _ _ _ az) dS (by rintro _ _ ⟨rfl, _⟩; rfl) ?_)))))))
 rintro _ ⟨_, rfl, -⟩
 refine AO.q 2 I (AO.known 162 I W (AO.q 18 I (AO.nil ?_)))
 exact lg ⟨false, h, I, I⟩ []
 replace h := ife_f P h
 refine AW.region (AO.q 4 I (AO.known 143 I w (AO.q 2 I (AO.gt I I I (AO.act [] I (AX.callL I (.refl _) I I (.cons (.us 0 I) (.cons (.us 2 I) (.rest _))) I (L.zkma_ok _ _ _ U) dS (by rintro _ _ ⟨rfl, _⟩; rfl) ?_))))))
 rintro _ ⟨_, rfl, -⟩
 refine AO.q 2 I (AO.known 148 I E (AO.q 2 I (AO.gt I I I (AO.act [] I (AX.callL I (.refl _) I I (.cons (.us 1 I) (.cons (.us 3 I) (.rest _))) I (L.zkma_ok _ _ _ ab) dS (by rintro _ _ ⟨rfl, _⟩; rfl) ?_)))))
 rintro _ ⟨_, rfl, -⟩
 refine AO.q 2 I (AO.known 153 I M (AO.q 4 I (AO.known 157 I P (AO.q 23 I (AO.nil ?_)))))
 exact lg ⟨false, h, I, I⟩ []
 replace h := ife_f M h
 refine AW.region (AO.q 4 I (AO.known 143 I w (AO.q 2 I (AO.gt I I I (AO.act [] I (AX.callL I (.refl _) I I (.cons (.us 0 I) (.cons (.us 2 I) (.rest _))) I (L.zkma_ok _ _ _ U) dS (by rintro _ _ ⟨rfl, _⟩; rfl) ?_))))))
 rintro _ ⟨_, rfl, -⟩
 refine AO.q 2 I (AO.known 148 I E (AO.q 2 I (AO.gt I I I (AO.act [] I (AX.callL I (.refl _) I I (.cons (.us 1 I) (.cons (.us 3 I) (.rest _))) I (L.zkma_ok _ _ _ ab) dS (by rintro _ _ ⟨rfl, _⟩; rfl) ?_)))))
 rintro _ ⟨_, rfl, -⟩
 refine AO.q 2 I (AO.known 153 I M (AO.q 27 I (AO.nil ?_)))
 exact lg ⟨false, h, I, I⟩ []
 replace h := ife_f E h
 refine AW.region (AO.q 4 I (AO.known 143 I w (AO.q 2 I (AO.gt I I I (AO.act [] I (AX.callL I (.refl _) I I (.cons (.us 0 I) (.cons (.us 2 I) (.rest _))) I (L.zkma_ok _ _ _ U) dS (by rintro _ _ ⟨rfl, _⟩; rfl) ?_))))))
 rintro _ ⟨_, rfl, -⟩
 refine AO.q 2 I (AO.known 148 I E (AO.q 32 I (AO.nil ?_)))
 exact lg ⟨false, h, I, I⟩ []
 replace h := ife_f w h
 refine AW.region (AO.q 4 I (AO.known 143 I w (AO.q 37 I (AO.nil ?_))))
 exact lg ⟨false, h, I, I⟩ []
 rintro s ob ⟨be, h, rfl, rfl⟩
 unfold L.zjuy.J6 at h
 obtain rfl := oi h
 exact AW.ret pr
end Go.Proofs.Ytligpmmgdjipbaa
