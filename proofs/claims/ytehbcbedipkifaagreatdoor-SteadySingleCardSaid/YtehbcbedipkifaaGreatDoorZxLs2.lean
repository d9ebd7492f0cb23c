/- Walks that show what functions of the program compute; printed by a program of ours. No condition. -/
import Derived.Test.YtehbcbedipkifaaGreatDoorZxLs1
set_option maxRecDepth 100000
namespace Go.Proofs.YtehbcbedipkifaaGreatDoor
open Go.Aw
set_option linter.unusedVariables false
set_option linter.unusedSimpArgs false
set_option maxHeartbeats 4000000
theorem L.zkto_ok (b0 : Nat) (l_0 : steady_line) (w0_0 : Value) (w0_1 : Value) (w0_2 : Value) (node_1 : Int) (b_2 : Bounds) (r : steady_line) (h : L.zkto l_0 node_1 b_2 = some r) : ACalls Tryz.env 84 [.v (.pointer (some ⟨b0, 0, none⟩)), .V node_1, .agg (Bounds.row b_2)] [.arr b0 123 15 1 [steady_line.rowU l_0 w0_0 w0_1 w0_2], .us w0_0 4 1 (l_0.x.Known.map rB), .us w0_1 71 2 (l_0.x.Nodes.map Bounds.row), .us w0_2 38 1 (l_0.x.Segments.map (rL 3 Level.row))] (Gives 4 (fun x os new => ∃ (u0_0 : Value) (u0_1 : Value) (u0_2 : Value), x = .tup [] ∧ os = [.arr b0 123 15 1 [steady_line.rowU r u0_0 u0_1 u0_2], .us u0_0 4 1 (r.x.Known.map rB), .us u0_1 71 2 (r.x.Nodes.map Bounds.row), .us u0_2 38 1 (r.x.Segments.map (rL 3 Level.row))] ∧ new = [])) := by
 refine ACalls.of_body Tryz.func84 rfl rfl rfl (fun C hC => ?_)
 unfold L.zkto at h
 refine AW.seqG (fun y1 hy1 => (AW.region (AO.act [] I (AX.box (cs := Bounds.row b_2) (m := 2) I I I dS (fun b2 => (AO.nil ?_))))))
 subst hy1
 refine AW.cutX (fun s ob => ∃ (j11 : Int × Int), L.zkto.J1 l_0 node_1 j11 = some r ∧ s = [] ∧ ob = [.arr b0 123 15 1 [steady_line.rowU l_0 w0_0 w0_1 w0_2], .us w0_0 4 1 (l_0.x.Known.map rB), .us w0_1 71 2 (l_0.x.Nodes.map Bounds.row), .us w0_2 38 1 (l_0.x.Segments.map (rL 3 Level.row)), .arr b2 71 2 1 [[.V j11.1, .V j11.2]]]) [(0, _), (1, _), (5, _)] ⟨I, I, I, J⟩ ?_ ?_
 refine AW.seqG (fun y18 hy18 => ?_)
 obtain ⟨p19, hp20, h⟩ := ob_some h
 obtain ⟨hp20i, hp20x⟩ := ix_some hp20
 refine AW.region (AO.r 6 [.o 4 0] I ⟨I, J⟩ (AO.d (Yd.indexU 1 (m := p19.1) I I I I I I I hp20i (map_get hp20x)) I (AO.d (Yd.loadU 1 p19.1 0 I I I (map_get hp20x) I (y := .v (.bool p19.2)) I) I (AO.nil ?_))))
 subst hy18
 refine AW.ch h I ?_ ?_
 intro hc21 h
 refine AW.seqG (fun y22 hy22 => ?_)
 obtain ⟨p23, hp24, h⟩ := ob_some h
 obtain ⟨hp24i, hp24x⟩ := ix_some hp24
 refine AW.region (AO.r 6 [.o 4 0] I ⟨I, J⟩ (AO.d (Yd.indexU 2 (m := p23.1) I I I I I I I hp24i (map_get hp24x)) I (AO.d (Yd.loadU 2 p23.1 0 I I I (map_get hp24x) I (y := .agg (Bounds.row p23.2)) I) I (AO.act [] I (AX.alloc (cs := [.V 0, .V 0]) (m := 2) I I I I I dS (fun b25 => (AO.act [5] I (AX.store 5 0 0 (es' := [Bounds.row p23.2]) I I I I I I I I (le_ble I) I I (AO.nil ?_)))))))))
 subst hy22
 refine AW.region (AO.r 10 [.o 1 5, .o 3 4, .o 6 5, .o 8 4] I ⟨I, I, I, I, J⟩ (AO.p (Yp.buildP (l := [.V (min p23.2.Low b_2.Low), .V (min p23.2.High b_2.High)]) Tryz.bld71 I) I (AO.act [4] I (AX.store 4 0 0 (es' := [[.V (min p23.2.Low b_2.Low), .V (min p23.2.High b_2.High)]]) I I I I I I I I (le_ble I) I I (AO.nil ?_)))))
 exact lg ⟨((min p23.2.Low b_2.Low), (min p23.2.High b_2.High)), h, I, I⟩ [0, 1, 2, 3, 4]
 intro hc21 h
 refine AW.skip ?_
 exact lg ⟨(b_2.Low, b_2.High), h, I, I⟩ [0, 1, 2, 3, 4]
 rintro s ob ⟨j11, h, rfl, rfl⟩
 unfold L.zkto.J1 at h
 obtain ⟨p12, hp13, h⟩ := ob_some h
 obtain ⟨hp13i, hp13x⟩ := ix_some hp13
 obtain ⟨p14, hp15, h⟩ := ob_some h
 obtain ⟨hp15i, hp15x⟩ := ix_some hp15
 refine AW.form 1 p12.1 I hp13x (fun hf16 => (AW.form 2 p14.1 I hp15x (fun hf17 => (AW.rd (pd 17 0 [14, 16]) [0, 4] [_, _] I (AP.r 13 [.o 4 0, .o 10 0, .o 12 1] I ⟨I, I, I, J⟩ (AP.op I (Yp.indexUf (m := p12.1) I I I I I hf16 I hp13i hp13x) I (AP.act [1] I I I (AX.storeU 1 p12.1 0 I I I (map_get hp13x) I I I I (le_ble I) I (us_set (x := true) I) (AP.op I (Yp.indexUf (m := p14.1) I I I I I hf17 I hp15i hp15x) I (AP.act [2] I I I (AX.storeU 2 p14.1 0 I I I (map_get hp15x) I I I I (le_ble I) I (us_set (x := (⟨j11.1, j11.2⟩ : Bounds)) I) (AP.ofAO (AO.ghost (Ghost.pick [0, 1, 2, 3] (K := [.arr b0 123 15 1 [[.list 1 (l_0.n_.Nodes.map rS), .list 7 (l_0.n_.Segments.map Segment.row), .list 3 (l_0.n_.Ports.map Port.row), .list 5 (l_0.n_.Stations.map Station.row), .V l_0.n_.Vapour, .V l_0.n_.Settle, .list 4 (l_0.batches.map Batch.row), .list 5 (l_0.products.map Product.row), .list 1 (l_0.fills.map (rL 2 Piece.row)), .list 1 (l_0.p.Rates.map rI), .list 1 (l_0.p.Ports.map rI), .list 1 (l_0.p.Pumps.map rB), .v w0_0, .v w0_1, .v w0_2]], .us w0_0 4 1 ((l_0.x.Known.set p12.1 true).map rB), .us w0_1 71 2 ((l_0.x.Nodes.set p14.1 (⟨j11.1, j11.2⟩ : Bounds)).map Bounds.row), .us w0_2 38 1 (l_0.x.Segments.map (rL 3 Level.row))]) I (by decide)) ?_)))))))))))))
 obtain rfl := oi h
 refine AO.nil ?_
 exact ⟨.inl I, [], [.arr b0 123 15 1 [[.list 1 (l_0.n_.Nodes.map rS), .list 7 (l_0.n_.Segments.map Segment.row), .list 3 (l_0.n_.Ports.map Port.row), .list 5 (l_0.n_.Stations.map Station.row), .V l_0.n_.Vapour, .V l_0.n_.Settle, .list 4 (l_0.batches.map Batch.row), .list 5 (l_0.products.map Product.row), .list 1 (l_0.fills.map (rL 2 Piece.row)), .list 1 (l_0.p.Rates.map rI), .list 1 (l_0.p.Ports.map rI), .list 1 (l_0.p.Pumps.map rB), .v w0_0, .v w0_1, .v w0_2]], .us w0_0 4 1 ((l_0.x.Known.set p12.1 true).map rB), .us w0_1 71 2 ((l_0.x.Nodes.set p14.1 (⟨j11.1, j11.2⟩ : Bounds)).map Bounds.row), .us w0_2 38 1 (l_0.x.Segments.map (rL 3 Level.row))], J, sl_c I (sl_c I (sl_c I (sl_c I (sl_n)))), ⟨[.arr b0 123 15 1 [[.list 1 (l_0.n_.Nodes.map rS), .list 7 (l_0.n_.Segments.map Segment.row), .list 3 (l_0.n_.Ports.map Port.row), .list 5 (l_0.n_.Stations.map Station.row), .V l_0.n_.Vapour, .V l_0.n_.Settle, .list 4 (l_0.batches.map Batch.row), .list 5 (l_0.products.map Product.row), .list 1 (l_0.fills.map (rL 2 Piece.row)), .list 1 (l_0.p.Rates.map rI), .list 1 (l_0.p.Ports.map rI), .list 1 (l_0.p.Pumps.map rB), .v w0_0, .v w0_1, .v w0_2]], .us w0_0 4 1 ((l_0.x.Known.set p12.1 true).map rB), .us w0_1 71 2 ((l_0.x.Nodes.set p14.1 (⟨j11.1, j11.2⟩ : Bounds)).map Bounds.row), .us w0_2 38 1 (l_0.x.Segments.map (rL 3 Level.row))], [], I, I, w0_0, w0_1, w0_2, I, I, I⟩⟩
theorem L.zcba_ok (b0 : Nat) (l_0 : steady_line) (w0_0 : Value) (w0_1 : Value) (w0_2 : Value) (node_1 : Int) (r : Int × steady_line) (h : L.zcba l_0 node_1 = some r) : ACalls Tryz.env 125 [.v (.pointer (some ⟨b0, 0, none⟩)), .V node_1] [.arr b0 123 15 1 [steady_line.rowU l_0 w0_0 w0_1 w0_2], .us w0_0 4 1 (l_0.x.Known.map rB), .us w0_1 71 2 (l_0.x.Nodes.map Bounds.row), .us w0_2 38 1 (l_0.x.Segments.map (rL 3 Level.row))] (Gives 4 (fun x os new => ∃ (u1_0 : Value) (u1_1 : Value) (u1_2 : Value), x = .V r.1 ∧ os = [.arr b0 123 15 1 [steady_line.rowU r.2 u1_0 u1_1 u1_2], .us u1_0 4 1 (r.2.x.Known.map rB), .us u1_1 71 2 (r.2.x.Nodes.map Bounds.row), .us u1_2 38 1 (r.2.x.Segments.map (rL 3 Level.row))] ∧ new = [])) := by
 refine ACalls.of_body Tryz.func125 rfl rfl rfl (fun C hC => ?_)
 unfold L.zcba at h
 refine AW.z I (AW.z I (AW.cutX (fun s ob => ∃ (j44 : Int), L.zcba.J1 l_0 j44 = some r ∧ s = [(5, .V j44)] ∧ ob = [.arr b0 123 15 1 [steady_line.rowU l_0 w0_0 w0_1 w0_2], .us w0_0 4 1 (l_0.x.Known.map rB), .us w0_1 71 2 (l_0.x.Nodes.map Bounds.row), .us w0_2 38 1 (l_0.x.Segments.map (rL 3 Level.row))]) [] J ?_ ?_))
 refine AW.zr [.o 4 0, .l 5 (l_0.n_.Segments.length : Int)] I ⟨len_m, I, J⟩ (AW.block (AW.listMax 14 I (fun hm48 => ?_)))
 replace hm48 : l_0.n_.Segments.length ≤ 9223372036854775806 := by rw [List.length_map] at hm48; omega
 obtain ⟨o84, hL85, hR86⟩ := ob_some h
 clear h
 refine AW.forY hL85 [(0, _), (1, _), (14, _), (15, _)] ⟨I, I, I, I, J⟩ (fun (k46 : Nat) (st73 : Int) s ob => s = [(16, .V (k46 : Int)), (5, .V st73)] ∧ ob = [.arr b0 123 15 1 [steady_line.rowU l_0 w0_0 w0_1 w0_2], .us w0_0 4 1 (l_0.x.Known.map rB), .us w0_1 71 2 (l_0.x.Nodes.map Bounds.row), .us w0_2 38 1 (l_0.x.Segments.map (rL 3 Level.row))]) ⟨I, I⟩ ⟨I, I, J⟩ ⟨[0, 1, 2, 3], I, by decide⟩ ?_ ?_
 rintro k46 x49 st73 r88 s ob hx50 hk47 ⟨rfl, rfl⟩ h
 unfold L.zcba.B2 at h
 have hk47t : decide ((k46 : Int) < (l_0.n_.Segments.length : Int)) = true := decide_eq_true (by omega)
 refine AW.z I (AW.seqG (fun y90 hy90 => (AW.condK (v := true) I hk47t (AW.skip ?_))))
 subst hy90
 refine AW.cutX (fun s ob => ∃ (j98 : Int), L.zcba.J3 j98 = some r88 ∧ s = [(5, .V j98)] ∧ ob = [.arr b0 123 15 1 [steady_line.rowU l_0 w0_0 w0_1 w0_2], .us w0_0 4 1 (l_0.x.Known.map rB), .us w0_1 71 2 (l_0.x.Nodes.map Bounds.row), .us w0_2 38 1 (l_0.x.Segments.map (rL 3 Level.row))]) [(0, _), (1, _), (14, _), (15, _), (16, _)] ⟨I, I, I, I, I, J⟩ ?_ ?_
 refine AW.block (AW.seqG (fun y99 hy99 => (AW.region (AO.r 3 [.x 1 k46 (Segment.row x49)] I ⟨⟨I, map_get hx50⟩, J⟩ (AO.act [] I (AX.alloc (cs := [.v (.string ⟨#[]⟩), .V 0, .V 0, .V 0, .V 0, .V 0, .v (.slice none 0 0)]) (m := 7) I I I I I dS (fun b100 => (AO.q 1 I (AO.act [4] I (AX.store 4 0 0 (es' := [Segment.row x49]) I I I I I I I I (le_ble I) I I (AO.nil ?_)))))))))))
 subst hy99
 refine AW.seqG (fun y101 hy101 => ?_)
 obtain ⟨p102, hp103, h⟩ := ob_some h
 obtain ⟨hp103i, hp103x⟩ := ix_some hp103
 refine AW.rd (pd 15 0 [9]) [4, 0] [_, _] I (AP.r 9 [.o 0 0, .o 5 1, .x 7 p102.1 (rI p102.2)] I ⟨⟨hp103i, map_get hp103x⟩, I, I, J⟩ (AP.c I (L.ztzg_ok x49 p102.2 _ I) (AP.q 5 I (AP.ofAO (AO.nil ?_)))))
 subst hy101
 refine AW.z I (AW.ch h I ?_ ?_)
 intro hc105 h
 refine AW.dt (pd 21 0 []) [0] [_] [.o 5 0, .x 7 p102.1 (rI p102.2), .o 13 0, .x 15 p102.1 (rI p102.2)] I I ⟨⟨hp103i, map_get hp103x⟩, I, ⟨hp103i, map_get hp103x⟩, I, J⟩ ?_
 exact lg ⟨wr (st73 + (max p102.2 (wr (0 - p102.2)))), h, I, I⟩ [0, 1, 2, 3]
 intro hc105 h
 refine AW.skip ?_
 exact lg ⟨st73, h, I, I⟩ [0, 1, 2, 3]
 rintro s ob ⟨j98, h, rfl, rfl⟩
 unfold L.zcba.J3 at h
 refine AW.region (AO.r 2 [.k 0 (k46 + 1 : Nat)] I ⟨cast_wr hk47 hm48, J⟩ ?_)
 obtain rfl := oi h
 refine AO.nil ?_
 exact lg ⟨I, I⟩ [0, 1, 2, 3]
 rintro st73 s ob ⟨rfl, rfl⟩ he
 subst he
 have h := hR86
 have hk47f : decide (((l_0.n_.Segments.length : Nat) : Int) < (l_0.n_.Segments.length : Int)) = false := by simp
 refine AW.z I (AW.seqG (fun y107 hy107 => (AW.condK (v := false) I hk47f (AW.exit ?_))))
 exact lg ⟨st73, h, I, I⟩ [0, 1, 2, 3]
 rintro s ob ⟨j44, h, rfl, rfl⟩
 unfold L.zcba.J1 at h
 refine AW.z I ?_
 obtain rfl := oi h
 exact AW.ret ⟨.inr I, [_], [.arr b0 123 15 1 [steady_line.rowU l_0 w0_0 w0_1 w0_2], .us w0_0 4 1 (l_0.x.Known.map rB), .us w0_1 71 2 (l_0.x.Nodes.map Bounds.row), .us w0_2 38 1 (l_0.x.Segments.map (rL 3 Level.row))], ⟨I, J⟩, sl_c I (sl_c I (sl_c I (sl_c I (sl_n)))), ⟨[.arr b0 123 15 1 [steady_line.rowU l_0 w0_0 w0_1 w0_2], .us w0_0 4 1 (l_0.x.Known.map rB), .us w0_1 71 2 (l_0.x.Nodes.map Bounds.row), .us w0_2 38 1 (l_0.x.Segments.map (rL 3 Level.row))], [], I, I, w0_0, w0_1, w0_2, I, I, I⟩⟩
theorem L.zrmk_ok (b0 : Nat) (l_0 : steady_line) (w0_0 : Value) (w0_1 : Value) (w0_2 : Value) (node_1 : Int) (r : Bounds × Int × steady_line) (h : L.zrmk l_0 node_1 = some r) : ACalls Tryz.env 85 [.v (.pointer (some ⟨b0, 0, none⟩)), .V node_1] [.arr b0 123 15 1 [steady_line.rowU l_0 w0_0 w0_1 w0_2], .us w0_0 4 1 (l_0.x.Known.map rB), .us w0_1 71 2 (l_0.x.Nodes.map Bounds.row), .us w0_2 38 1 (l_0.x.Segments.map (rL 3 Level.row))] (Gives 4 (fun x os new => ∃ (u2_0 : Value) (u2_1 : Value) (u2_2 : Value), x = .tup [.agg (Bounds.row r.1), .V r.2.1] ∧ os = [.arr b0 123 15 1 [steady_line.rowU r.2.2 u2_0 u2_1 u2_2], .us u2_0 4 1 (r.2.2.x.Known.map rB), .us u2_1 71 2 (r.2.2.x.Nodes.map Bounds.row), .us u2_2 38 1 (r.2.2.x.Segments.map (rL 3 Level.row))] ∧ new = [])) := by
 refine ACalls.of_body Tryz.func85 rfl rfl rfl (fun C hC => ?_)
 unfold L.zrmk at h
 refine AW.seqG (fun y1 hy1 => (AW.region (AO.act [] I (AX.alloc (cs := [.V 0, .V 0]) (m := 2) I I I I I dS (fun b2 => (AO.q 1 I (AO.nil ?_)))))))
 subst hy1
 refine AW.seqG (fun y3 hy3 => ?_)
 obtain ⟨p4, hp5, h⟩ := ob_some h
 obtain ⟨hp5i, hp5x⟩ := ix_some hp5
 refine AW.region (AO.r 6 [.o 4 0] I ⟨I, J⟩ (AO.d (Yd.indexU 2 (m := p4.1) I I I I I I I hp5i (map_get hp5x)) I (AO.d (Yd.loadU 2 p4.1 0 I I I (map_get hp5x) I (y := .agg (Bounds.row p4.2)) I) I (AO.act [] I (AX.alloc (cs := [.V 0, .V 0]) (m := 2) I I I I I dS (fun b6 => (AO.act [5] I (AX.store 5 0 0 (es' := [Bounds.row p4.2]) I I I I I I I I (le_ble I) I I (AO.nil ?_)))))))))
 subst hy3
 refine AW.cutX (fun s ob => ∃ (j49 : Unit), L.zrmk.J1 l_0 p4 j49 = some r ∧ s = [] ∧ ob = [.arr b0 123 15 1 [steady_line.rowU l_0 w0_0 w0_1 w0_2], .us w0_0 4 1 (l_0.x.Known.map rB), .us w0_1 71 2 (l_0.x.Nodes.map Bounds.row), .us w0_2 38 1 (l_0.x.Segments.map (rL 3 Level.row)), .arr b2 71 2 1 [[.V 0, .V 0]], .arr b6 71 2 1 [Bounds.row p4.2]]) [(4, _), (6, _)] ⟨I, I, J⟩ ?_ ?_
 refine AW.zr [.o 4 0, .l 5 (l_0.n_.Stations.length : Int)] I ⟨len_m, I, J⟩ (AW.block (AW.listMax 21 I (fun hm53 => ?_)))
 replace hm53 : l_0.n_.Stations.length ≤ 9223372036854775806 := by rw [List.length_map] at hm53; omega
 obtain ⟨o90, hL91, hR92⟩ := ob_some h
 clear h
 refine AW.forX hL91 [(0, _), (1, _), (4, _), (6, _), (21, _), (22, _)] ⟨I, I, I, I, I, I, J⟩ (fun (k51 : Nat) (st73 : Unit) s ob => s = [(23, .V (k51 : Int))] ∧ ob = [.arr b0 123 15 1 [steady_line.rowU l_0 w0_0 w0_1 w0_2], .us w0_0 4 1 (l_0.x.Known.map rB), .us w0_1 71 2 (l_0.x.Nodes.map Bounds.row), .us w0_2 38 1 (l_0.x.Segments.map (rL 3 Level.row)), .arr b2 71 2 1 [[.V 0, .V 0]], .arr b6 71 2 1 [Bounds.row p4.2]]) ⟨I, I⟩ ⟨I, J⟩ ⟨[0, 1, 2, 3, 4, 5], I, by decide⟩ ?_ ?_
 rintro k51 x54 st73 r94 s ob hx55 hk52 ⟨rfl, rfl⟩ h hb93
 unfold L.zrmk.B2 at h
 have hk52t : decide ((k51 : Int) < (l_0.n_.Stations.length : Int)) = true := decide_eq_true (by omega)
 refine AW.z I (AW.seqG (fun y96 hy96 => (AW.condK (v := true) I hk52t (AW.skip ?_))))
 subst hy96
 refine AW.seq (AW.block (AW.seqG (fun y97 hy97 => (AW.region (AO.r 3 [.x 1 k51 (Station.row x54)] I ⟨⟨I, map_get hx55⟩, J⟩ (AO.act [] I (AX.alloc (cs := [.v (.string ⟨#[]⟩), .V 0, .V 0, .V 0, .V 0]) (m := 5) I I I I I dS (fun b98 => (AO.q 1 I (AO.act [6] I (AX.store 6 0 0 (es' := [Station.row x54]) I I I I I I I I (le_ble I) I I (AO.nil ?_))))))))))))
 subst hy97
 refine AW.cutX (fun s ob => ∃ (j102 : Bool), L.zrmk.J3 l_0 node_1 p4 x54 j102 = some r94 ∧ s = [(41, .v (.bool j102))] ∧ ob = [.arr b0 123 15 1 [steady_line.rowU l_0 w0_0 w0_1 w0_2], .us w0_0 4 1 (l_0.x.Known.map rB), .us w0_1 71 2 (l_0.x.Nodes.map Bounds.row), .us w0_2 38 1 (l_0.x.Segments.map (rL 3 Level.row)), .arr b2 71 2 1 [[.V 0, .V 0]], .arr b6 71 2 1 [Bounds.row p4.2], .arr b98 83 5 1 [Station.row x54]]) [(0, _), (1, _), (4, _), (6, _), (8, _), (21, _), (22, _), (23, _)] ⟨I, I, I, I, I, I, I, I, J⟩ ?_ ?_
 refine AW.region (AO.r 5 [.o 1 6] I ⟨I, J⟩ ?_)
 rcases bt ((x54.Node == node_1)) with hg111 | hg111
 replace h := ife_t hg111 h
 obtain ⟨p112, hp113, h⟩ := ob_some h
 obtain ⟨hp113i, hp113x⟩ := ix_some hp113
 refine AO.known 32 I hg111 (AO.r 9 [.o 4 0, .x 6 p112.1 (rB p112.2)] I ⟨⟨hp113i, map_get hp113x⟩, I, J⟩ (AO.nil ?_))
 exact lg ⟨p112.2, h, I, I⟩ [0, 1, 2, 3, 4, 5, 6]
 replace h := ife_f hg111 h
 refine AO.known 32 I hg111 (AO.q 9 I (AO.nil ?_))
 exact lg ⟨false, h, I, I⟩ [0, 1, 2, 3, 4, 5, 6]
 rintro s ob ⟨j102, h, rfl, rfl⟩
 unfold L.zrmk.J3 at h
 refine AW.ch h I ?_ ?_
 intro hc103 h
 refine AW.seq ?_
 obtain ⟨r104, hx105, h⟩ := ob_some h
 obtain ⟨r109, hx110, h⟩ := ob_some h
 refine AW.rd (pd 10 0 [4, 5, 8]) [6, 5] [_, _] I (AP.r 4 [.o 0 0, .o 1 1] I ⟨I, I, J⟩ (AP.act [0, 1, 2, 3] I I I (AX.cg [0, 1, 2, 3] (L.zcba_ok b0 _ w0_0 w0_1 w0_2 _ _ hx105) ?_)))
 rintro _ _ _ - ⟨v106, v107, v108, rfl, rfl, rfl⟩
 refine AP.c I (L.zzlp_ok _ _ _ _ hx110) (AP.q 2 I (AP.act [4] I I I (AX.store 4 0 0 (es' := [Bounds.row r109.1]) I I I I I I I I (le_ble I) I I (AP.q 1 I (AP.ofAO (AO.nil ?_))))))
 obtain rfl := hb93 _ (oi h).symm
 replace h := hR92
 replace h := se_r h
 refine AW.ghost (Ghost.pick [0, 1, 2, 3, 4] (K := [.arr b0 123 15 1 [steady_line.rowU r104.2 v106 v107 v108], .us v106 4 1 (r104.2.x.Known.map rB), .us v107 71 2 (r104.2.x.Nodes.map Bounds.row), .us v108 38 1 (r104.2.x.Segments.map (rL 3 Level.row)), .arr b2 71 2 1 [Bounds.row r109.1]]) I (by decide)) ?_
 obtain rfl := oi h
 exact AW.ret ⟨.inr I, [_, _], [.arr b0 123 15 1 [steady_line.rowU r104.2 v106 v107 v108], .us v106 4 1 (r104.2.x.Known.map rB), .us v107 71 2 (r104.2.x.Nodes.map Bounds.row), .us v108 38 1 (r104.2.x.Segments.map (rL 3 Level.row))], ⟨⟨4, _, _, _, _, _, _, _, I, I, I, I, I⟩, I, J⟩, sl_c I (sl_c I (sl_c I (sl_c I (sl_n)))), ⟨[.arr b0 123 15 1 [steady_line.rowU r104.2 v106 v107 v108], .us v106 4 1 (r104.2.x.Known.map rB), .us v107 71 2 (r104.2.x.Nodes.map Bounds.row), .us v108 38 1 (r104.2.x.Segments.map (rL 3 Level.row))], [], I, I, v106, v107, v108, I, I, I⟩⟩
 intro hc103 h
 refine AW.skip (AW.region (AO.r 2 [.k 0 (k51 + 1 : Nat)] I ⟨cast_wr hk52 hm53, J⟩ ?_))
 obtain rfl := oi h
 refine AO.nil ?_
 exact ⟨_, _, _, I, ⟨I, I⟩, ⟨I, I, I, I, I, I, I, J⟩, [0, 1, 2, 3, 4, 5], I, by decide⟩
 rintro st73 s ob ⟨rfl, rfl⟩ he
 subst he
 have h := se_l hR92
 have hk52f : decide (((l_0.n_.Stations.length : Nat) : Int) < (l_0.n_.Stations.length : Int)) = false := by simp
 refine AW.z I (AW.seqG (fun y115 hy115 => (AW.condK (v := false) I hk52f (AW.exit ?_))))
 exact lg ⟨(), h, I, I⟩ [0, 1, 2, 3, 4, 5]
 rintro s ob ⟨j49, h, rfl, rfl⟩
 unfold L.zrmk.J1 at h
 refine AW.seq (AW.region (AO.r 1 [.o 0 5] I ⟨I, J⟩ (AO.act [4] I (AX.store 4 0 0 (es' := [Bounds.row p4.2]) I I I I I I I I (le_ble I) I I (AO.q 1 I (AO.nil (AW.ghost (Ghost.pick [0, 1, 2, 3, 4] (K := [.arr b0 123 15 1 [steady_line.rowU l_0 w0_0 w0_1 w0_2], .us w0_0 4 1 (l_0.x.Known.map rB), .us w0_1 71 2 (l_0.x.Nodes.map Bounds.row), .us w0_2 38 1 (l_0.x.Segments.map (rL 3 Level.row)), .arr b2 71 2 1 [Bounds.row p4.2]]) I (by decide)) ?_)))))))
 obtain rfl := oi h
 exact AW.ret ⟨.inr I, [_, _], [.arr b0 123 15 1 [steady_line.rowU l_0 w0_0 w0_1 w0_2], .us w0_0 4 1 (l_0.x.Known.map rB), .us w0_1 71 2 (l_0.x.Nodes.map Bounds.row), .us w0_2 38 1 (l_0.x.Segments.map (rL 3 Level.row))], ⟨⟨4, _, _, _, _, _, _, _, I, I, I, I, I⟩, I, J⟩, sl_c I (sl_c I (sl_c I (sl_c I (sl_n)))), ⟨[.arr b0 123 15 1 [steady_line.rowU l_0 w0_0 w0_1 w0_2], .us w0_0 4 1 (l_0.x.Known.map rB), .us w0_1 71 2 (l_0.x.Nodes.map Bounds.row), .us w0_2 38 1 (l_0.x.Segments.map (rL 3 Level.row))], [], I, I, w0_0, w0_1, w0_2, I, I, I⟩⟩
theorem L.zqta_ok (b0 : Nat) (l_0 : steady_line) (w0_0 : Value) (w0_1 : Value) (w0_2 : Value) (node_1 : Int) (r : Int × steady_line) (h : L.zqta l_0 node_1 = some r) : ACalls Tryz.env 50 [.v (.pointer (some ⟨b0, 0, none⟩)), .V node_1] [.arr b0 123 15 1 [steady_line.rowU l_0 w0_0 w0_1 w0_2], .us w0_0 4 1 (l_0.x.Known.map rB), .us w0_1 71 2 (l_0.x.Nodes.map Bounds.row), .us w0_2 38 1 (l_0.x.Segments.map (rL 3 Level.row))] (Gives 4 (fun x os new => ∃ (u1_0 : Value) (u1_1 : Value) (u1_2 : Value), x = .V r.1 ∧ os = [.arr b0 123 15 1 [steady_line.rowU r.2 u1_0 u1_1 u1_2], .us u1_0 4 1 (r.2.x.Known.map rB), .us u1_1 71 2 (r.2.x.Nodes.map Bounds.row), .us u1_2 38 1 (r.2.x.Segments.map (rL 3 Level.row))] ∧ new = [])) := by
 refine ACalls.of_body Tryz.func50 rfl rfl rfl (fun C hC => ?_)
 unfold L.zqta at h
 refine AW.z I (AW.cutX (fun s ob => ∃ (j73 : steady_line) (v74 : Value) (v75 : Value) (v76 : Value), L.zqta.J1 node_1 j73 = some r ∧ s = [] ∧ ob = [.arr b0 123 15 1 [steady_line.rowU j73 v74 v75 v76], .us v74 4 1 (j73.x.Known.map rB), .us v75 71 2 (j73.x.Nodes.map Bounds.row), .us v76 38 1 (j73.x.Segments.map (rL 3 Level.row))]) [(0, _), (1, _)] ⟨I, I, J⟩ ?_ ?_)
 refine AW.zr [.o 4 0, .l 5 (l_0.n_.Ports.length : Int)] I ⟨len_m, I, J⟩ (AW.block (AW.listMax 21 I (fun hm454 => ?_)))
 replace hm454 : l_0.n_.Ports.length ≤ 9223372036854775806 := by rw [List.length_map] at hm454; omega
 obtain ⟨o520, hL521, hR522⟩ := ob_some h
 clear h
 refine AW.forY hL521 [(0, _), (1, _), (21, _), (22, _)] ⟨I, I, I, I, J⟩ (fun (k452 : Nat) (st498 : steady_line) s ob => ∃ (v499 : Value) (v500 : Value) (v501 : Value), s = [(23, .V (k452 : Int))] ∧ ob = [.arr b0 123 15 1 [steady_line.rowU st498 v499 v500 v501], .us v499 4 1 (st498.x.Known.map rB), .us v500 71 2 (st498.x.Nodes.map Bounds.row), .us v501 38 1 (st498.x.Segments.map (rL 3 Level.row))]) ⟨w0_0, w0_1, w0_2, I, I⟩ ⟨I, J⟩ ⟨[0, 1, 2, 3], I, by decide⟩ ?_ ?_
 rintro k452 x455 st498 r524 s ob hx456 hk453 ⟨v499, v500, v501, rfl, rfl⟩ h
 unfold L.zqta.B6 at h
 have hk453t : decide ((k452 : Int) < (l_0.n_.Ports.length : Int)) = true := decide_eq_true (by omega)
 refine AW.z I (AW.seqG (fun y526 hy526 => (AW.condK (v := true) I hk453t (AW.skip ?_))))
 subst hy526
 refine AW.cutX (fun s ob => ∃ (j539 : steady_line) (v540 : Value) (v541 : Value) (v542 : Value), L.zqta.J7 j539 = some r524 ∧ s = [] ∧ ob = [.arr b0 123 15 1 [steady_line.rowU j539 v540 v541 v542], .us v540 4 1 (j539.x.Known.map rB), .us v541 71 2 (j539.x.Nodes.map Bounds.row), .us v542 38 1 (j539.x.Segments.map (rL 3 Level.row))]) [(0, _), (1, _), (21, _), (22, _), (23, _)] ⟨I, I, I, I, I, J⟩ ?_ ?_
 refine AW.block (AW.seqG (fun y543 hy543 => (AW.region (AO.r 3 [.x 1 k452 (Port.row x455)] I ⟨⟨I, map_get hx456⟩, J⟩ (AO.act [] I (AX.alloc (cs := [.v (.string ⟨#[]⟩), .V 0, .V 0]) (m := 3) I I I I I dS (fun b544 => (AO.q 1 I (AO.act [4] I (AX.store 4 0 0 (es' := [Port.row x455]) I I I I I I I I (le_ble I) I I (AO.nil ?_)))))))))))
 subst hy543
 refine AW.cutX (fun s ob => ∃ (j548 : Bool), L.zqta.J8 node_1 x455 st498 j548 = some r524 ∧ s = [(42, .v (.bool j548))] ∧ ob = [.arr b0 123 15 1 [steady_line.rowU st498 v499 v500 v501], .us v499 4 1 (st498.x.Known.map rB), .us v500 71 2 (st498.x.Nodes.map Bounds.row), .us v501 38 1 (st498.x.Segments.map (rL 3 Level.row)), .arr b544 74 3 1 [Port.row x455]]) [(0, _), (1, _), (6, _), (21, _), (22, _), (23, _)] ⟨I, I, I, I, I, I, J⟩ ?_ ?_
 refine AW.region (AO.r 5 [.o 1 4] I ⟨I, J⟩ ?_)
 rcases bt ((x455.Node == node_1)) with hg555 | hg555
 replace h := ife_t hg555 h
 obtain ⟨p556, hp557, h⟩ := ob_some h
 obtain ⟨hp557i, hp557x⟩ := ix_some hp557
 refine AO.known 32 I hg555 (AO.r 10 [.o 4 0, .x 6 p556.1 (rI p556.2)] I ⟨⟨hp557i, map_get hp557x⟩, I, J⟩ (AO.nil ?_))
 exact lg ⟨decide (p556.2 > 0), h, I, I⟩ [0, 1, 2, 3, 4]
 replace h := ife_f hg555 h
 refine AO.known 32 I hg555 (AO.q 10 I (AO.nil ?_))
 exact lg ⟨false, h, I, I⟩ [0, 1, 2, 3, 4]
 rintro s ob ⟨j548, h, rfl, rfl⟩
 unfold L.zqta.J8 at h
 refine AW.ch h I ?_ ?_
 intro hc549 h
 obtain ⟨r550, hx551, h⟩ := ob_some h
 refine AW.region (AO.r 6 [.o 3 4, .o 5 4] I ⟨I, I, J⟩ (AO.p (Yp.buildP (l := [.V x455.Pressure, .V x455.Pressure]) Tryz.bld71 I) I (AO.act [0, 1, 2, 3] I (AX.cg [0, 1, 2, 3] (L.zkto_ok b0 _ v499 v500 v501 _ _ _ hx551) ?_))))
 rintro _ _ _ - ⟨v552, v553, v554, rfl, rfl, rfl⟩
 refine AO.nil ?_
 exact lg ⟨r550, v552, v553, v554, h, I, I⟩ [0, 1, 2, 3]
 intro hc549 h
 refine AW.skip ?_
 exact lg ⟨st498, v499, v500, v501, h, I, I⟩ [0, 1, 2, 3]
 rintro s ob ⟨j539, v540, v541, v542, h, rfl, rfl⟩
 unfold L.zqta.J7 at h
 refine AW.region (AO.r 2 [.k 0 (k452 + 1 : Nat)] I ⟨cast_wr hk453 hm454, J⟩ ?_)
 obtain rfl := oi h
 refine AO.nil ?_
 exact lg ⟨v540, v541, v542, I, I⟩ [0, 1, 2, 3]
 rintro st498 s ob ⟨v499, v500, v501, rfl, rfl⟩ he
 subst he
 have h := hR522
 have hk453f : decide (((l_0.n_.Ports.length : Nat) : Int) < (l_0.n_.Ports.length : Int)) = false := by simp
 refine AW.z I (AW.seqG (fun y559 hy559 => (AW.condK (v := false) I hk453f (AW.exit ?_))))
 exact lg ⟨st498, v499, v500, v501, h, I, I⟩ [0, 1, 2, 3]
 rintro s ob ⟨j73, v74, v75, v76, h, rfl, rfl⟩
 unfold L.zqta.J1 at h
 refine AW.seqG (fun y77 hy77 => (AW.seq ?_))
 obtain ⟨p78, hp79, h⟩ := ob_some h
 obtain ⟨hp79i, hp79x⟩ := ix_some hp79
 refine AW.region (AO.r 6 [.o 4 0] I ⟨I, J⟩ (AO.d (Yd.indexU 1 (m := p78.1) I I I I I I I hp79i (map_get hp79x)) I (AO.d (Yd.loadU 1 p78.1 0 I I I (map_get hp79x) I (y := .v (.bool p78.2)) I) I (AO.q 1 I (AO.nil (AW.ch h I ?_ ?_))))))
 intro hc80 h
 refine AW.z I ?_
 obtain rfl := oi h
 exact AW.ret ⟨.inr I, [_], [.arr b0 123 15 1 [steady_line.rowU j73 v74 v75 v76], .us v74 4 1 (j73.x.Known.map rB), .us v75 71 2 (j73.x.Nodes.map Bounds.row), .us v76 38 1 (j73.x.Segments.map (rL 3 Level.row))], ⟨I, J⟩, sl_c I (sl_c I (sl_c I (sl_c I (sl_n)))), ⟨[.arr b0 123 15 1 [steady_line.rowU j73 v74 v75 v76], .us v74 4 1 (j73.x.Known.map rB), .us v75 71 2 (j73.x.Nodes.map Bounds.row), .us v76 38 1 (j73.x.Segments.map (rL 3 Level.row))], [], I, I, v74, v75, v76, I, I, I⟩⟩
 intro hc80 h
 refine AW.skip ?_
 subst hy77
 refine AW.seqG (fun y81 hy81 => ?_)
 obtain ⟨r82, hx83, h⟩ := ob_some h
 refine AW.region (AO.q 2 I (AO.act [0, 1, 2, 3] I (AX.cg [0, 1, 2, 3] (L.zrmk_ok b0 _ v74 v75 v76 _ _ hx83) ?_)))
 rintro _ _ _ - ⟨v84, v85, v86, rfl, rfl, rfl⟩
 refine AO.q 3 I (AO.act [] I (AX.alloc (cs := [.V 0, .V 0]) (m := 2) I I I I I dS (fun b87 => (AO.act [4] I (AX.store 4 0 0 (es' := [Bounds.row r82.1]) I I I I I I I I (le_ble I) I I (AO.q 1 I (AO.nil ?_)))))))
 subst hy81
 refine AW.seqG (fun y88 hy88 => (AW.z I (AW.ch h I ?_ ?_)))
 intro hc89 h
 refine AW.z I (AW.ghost (Ghost.pick [0, 1, 2, 3] (K := [.arr b0 123 15 1 [steady_line.rowU r82.2.2 v84 v85 v86], .us v84 4 1 (r82.2.2.x.Known.map rB), .us v85 71 2 (r82.2.2.x.Nodes.map Bounds.row), .us v86 38 1 (r82.2.2.x.Segments.map (rL 3 Level.row))]) I (by decide)) ?_)
 obtain rfl := oi h
 exact AW.ret ⟨.inr I, [_], [.arr b0 123 15 1 [steady_line.rowU r82.2.2 v84 v85 v86], .us v84 4 1 (r82.2.2.x.Known.map rB), .us v85 71 2 (r82.2.2.x.Nodes.map Bounds.row), .us v86 38 1 (r82.2.2.x.Segments.map (rL 3 Level.row))], ⟨I, J⟩, sl_c I (sl_c I (sl_c I (sl_c I (sl_n)))), ⟨[.arr b0 123 15 1 [steady_line.rowU r82.2.2 v84 v85 v86], .us v84 4 1 (r82.2.2.x.Known.map rB), .us v85 71 2 (r82.2.2.x.Nodes.map Bounds.row), .us v86 38 1 (r82.2.2.x.Segments.map (rL 3 Level.row))], [], I, I, v84, v85, v86, I, I, I⟩⟩
 intro hc89 h
 refine AW.skip ?_
 subst hy88
 refine AW.cutX (fun s ob => ∃ (j227 : steady_line) (v228 : Value) (v229 : Value) (v230 : Value), L.zqta.J2 j227 = some r ∧ s = [] ∧ ob = [.arr b0 123 15 1 [steady_line.rowU j227 v228 v229 v230], .us v228 4 1 (j227.x.Known.map rB), .us v229 71 2 (j227.x.Nodes.map Bounds.row), .us v230 38 1 (j227.x.Segments.map (rL 3 Level.row))]) [] J ?_ ?_
 refine AW.zr [.o 4 0, .l 5 (r82.2.2.n_.Segments.length : Int)] I ⟨len_m, I, J⟩ (AW.block (AW.listMax 74 I (fun hm234 => ?_)))
 replace hm234 : r82.2.2.n_.Segments.length ≤ 9223372036854775806 := by rw [List.length_map] at hm234; omega
 obtain ⟨o366, hL367, hR368⟩ := ob_some h
 clear h
 refine AW.forX hL367 [(0, _), (1, _), (7, _), (74, _), (75, _)] ⟨I, I, I, I, I, J⟩ (fun (k232 : Nat) (st322 : steady_line) s ob => ∃ (v323 : Value) (v324 : Value) (v325 : Value), s = [(76, .V (k232 : Int))] ∧ ob = [.arr b0 123 15 1 [steady_line.rowU st322 v323 v324 v325], .us v323 4 1 (st322.x.Known.map rB), .us v324 71 2 (st322.x.Nodes.map Bounds.row), .us v325 38 1 (st322.x.Segments.map (rL 3 Level.row)), .arr b87 71 2 1 [Bounds.row r82.1]]) ⟨v84, v85, v86, I, I⟩ ⟨I, J⟩ ⟨[0, 1, 2, 3, 4], I, by decide⟩ ?_ ?_
 rintro k232 x235 st322 r370 s ob hx236 hk233 ⟨v323, v324, v325, rfl, rfl⟩ h hb369
 unfold L.zqta.B3 at h
 have hk233t : decide ((k232 : Int) < (r82.2.2.n_.Segments.length : Int)) = true := decide_eq_true (by omega)
 refine AW.z I (AW.seqG (fun y372 hy372 => (AW.condK (v := true) I hk233t (AW.skip ?_))))
 subst hy372
 refine AW.cutX (fun s ob => ∃ (j407 : steady_line) (v408 : Value) (v409 : Value) (v410 : Value), L.zqta.J4 j407 = some r370 ∧ s = [] ∧ ob = [.arr b0 123 15 1 [steady_line.rowU j407 v408 v409 v410], .us v408 4 1 (j407.x.Known.map rB), .us v409 71 2 (j407.x.Nodes.map Bounds.row), .us v410 38 1 (j407.x.Segments.map (rL 3 Level.row)), .arr b87 71 2 1 [Bounds.row r82.1]]) [(0, _), (1, _), (7, _), (74, _), (75, _), (76, _)] ⟨I, I, I, I, I, I, J⟩ ?_ ?_
 refine AW.block (AW.seqG (fun y411 hy411 => (AW.region (AO.r 3 [.x 1 k232 (Segment.row x235)] I ⟨⟨I, map_get hx236⟩, J⟩ (AO.act [] I (AX.alloc (cs := [.v (.string ⟨#[]⟩), .V 0, .V 0, .V 0, .V 0, .V 0, .v (.slice none 0 0)]) (m := 7) I I I I I dS (fun b412 => (AO.q 1 I (AO.act [5] I (AX.store 5 0 0 (es' := [Segment.row x235]) I I I I I I I I (le_ble I) I I (AO.nil ?_)))))))))))
 subst hy411
 refine AW.seqG (fun y413 hy413 => ?_)
 obtain ⟨p414, hp415, h⟩ := ob_some h
 obtain ⟨hp415i, hp415x⟩ := ix_some hp415
 refine AW.tr [.o 4 0, .x 6 p414.1 (rI p414.2)] I ⟨⟨hp415i, map_get hp415x⟩, I, J⟩ ?_
 subst hy413
 refine AW.seqG (fun y416 hy416 => (AW.region (AO.r 2 [.o 0 5] I ⟨I, J⟩ (AO.c (L.ztzg_ok x235 p414.2 _ I) (AO.q 5 I (AO.nil ?_))))))
 subst hy416
 refine AW.seqG (fun y417 hy417 => (AW.cutX (fun s ob => s = [(101, .v (.bool ((p414.2 == 0) || (((L.ztzg x235 p414.2).1) != node_1))))] ∧ ob = [.arr b0 123 15 1 [steady_line.rowU st322 v323 v324 v325], .us v323 4 1 (st322.x.Known.map rB), .us v324 71 2 (st322.x.Nodes.map Bounds.row), .us v325 38 1 (st322.x.Segments.map (rL 3 Level.row)), .arr b87 71 2 1 [Bounds.row r82.1], .arr b412 77 7 1 [Segment.row x235]]) [(0, _), (1, _), (7, _), (9, _), (10, _), (11, _), (13, _), (74, _), (75, _), (76, _)] ⟨I, I, I, I, I, I, I, I, I, I, J⟩ ?_ ?_))
 refine AW.region (AO.q 3 I ?_)
 rcases bt ((p414.2 == 0)) with hg420 | hg420
 refine AO.known 97 I hg420 (AO.q 4 I (AO.nil ?_))
 exact lf ⟨I, I⟩ ⟨(get_b (by simp only [hg420, bz])), I, I, I, I, I, I, I, I, I, I, J⟩ [0, 1, 2, 3, 4, 5] I
 refine AO.known 97 I hg420 (AO.q 4 I (AO.nil ?_))
 exact lf ⟨I, I⟩ ⟨(get_b (by simp only [hg420, bz])), I, I, I, I, I, I, I, I, I, I, J⟩ [0, 1, 2, 3, 4, 5] I
 rintro s ob ⟨rfl, rfl⟩
 refine AW.ch h I ?_ ?_
 intro hc421 h
 refine AW.exit ?_
 exact lg ⟨st322, v323, v324, v325, h, I, I⟩ [0, 1, 2, 3, 4]
 intro hc421 h
 refine AW.skip ?_
 subst hy417
 refine AW.seqG (fun y422 hy422 => ?_)
 obtain ⟨p423, hp424, h⟩ := ob_some h
 obtain ⟨hp424i, hp424x⟩ := ix_some hp424
 obtain ⟨r425, hx426, h⟩ := ob_some h
 refine AW.rd (pd 24 0 [18]) [5, 0, 4] [_, _, _] I (AP.r 18 [.o 0 0, .o 4 1, .x 6 p423.1 ((rL 2 Piece.row) p423.2), .o 11 1, .o 15 1, .o 17 2] I ⟨I, I, I, ⟨hp424i, map_get hp424x⟩, I, I, J⟩ (AP.act [] I I I (AX.call0 I I I (L.zuct_ok _ _ _ _ _ _ _ hx426) dS ?_)))
 rintro _ _ ⟨v427, rfl, rfl⟩
 refine AP.q 5 I (AP.ofAO (AO.nil ?_))
 subst hy422
 refine AW.seqG (fun y428 hy428 => (AW.z I (AW.ch h I ?_ ?_)))
 intro hc429 h
 refine AW.z I ?_
 obtain rfl := hb369 _ (oi h).symm
 replace h := hR368
 replace h := se_r h
 refine AW.ghost (Ghost.pick [0, 1, 2, 3] (K := [.arr b0 123 15 1 [steady_line.rowU st322 v323 v324 v325], .us v323 4 1 (st322.x.Known.map rB), .us v324 71 2 (st322.x.Nodes.map Bounds.row), .us v325 38 1 (st322.x.Segments.map (rL 3 Level.row))]) I (by decide)) ?_
 obtain rfl := oi h
 exact AW.ret ⟨.inr I, [_], [.arr b0 123 15 1 [steady_line.rowU st322 v323 v324 v325], .us v323 4 1 (st322.x.Known.map rB), .us v324 71 2 (st322.x.Nodes.map Bounds.row), .us v325 38 1 (st322.x.Segments.map (rL 3 Level.row))], ⟨I, J⟩, sl_c I (sl_c I (sl_c I (sl_c I (sl_n)))), ⟨[.arr b0 123 15 1 [steady_line.rowU st322 v323 v324 v325], .us v323 4 1 (st322.x.Known.map rB), .us v324 71 2 (st322.x.Nodes.map Bounds.row), .us v325 38 1 (st322.x.Segments.map (rL 3 Level.row))], [], I, I, v323, v324, v325, I, I, I⟩⟩
 intro hc429 h
 refine AW.skip ?_
 subst hy428
 refine AW.seqG (fun y430 hy430 => ?_)
 obtain ⟨p431, hp432, h⟩ := ob_some h
 obtain ⟨hp432i, hp432x⟩ := ix_some hp432
 refine AW.region (AO.q 1 I (AO.d (Yd.indexU 6 (m := p431.1) I I I I I I I hp432i (map_get hp432x)) I (AO.d (Yd.loadU 6 p431.1 0 I I I (map_get hp432x) I (y := .agg (Level.row p431.2)) I) I (AO.act [] I (AX.alloc (cs := [.V 0, .V 0, .V 0]) (m := 3) I I I I I dS (fun b433 => (AO.act [7] I (AX.store 7 0 0 (es' := [Level.row p431.2]) I I I I I I I I (le_ble I) I I (AO.nil ?_)))))))))
 subst hy430
 refine AW.cutX (fun s ob => ∃ (j437 : Int × Int × Int), L.zqta.J5 k232 x235 st322 p414 r425 j437 = some r370 ∧ s = [] ∧ ob = [.arr b0 123 15 1 [steady_line.rowU st322 v323 v324 v325], .us v323 4 1 (st322.x.Known.map rB), .us v324 71 2 (st322.x.Nodes.map Bounds.row), .us v325 38 1 (st322.x.Segments.map (rL 3 Level.row)), .arr b87 71 2 1 [Bounds.row r82.1], .us v427 81 3 (r425.1.map Level.row), .arr b433 81 3 1 [[.V j437.1, .V j437.2.1, .V j437.2.2]]]) [(0, _), (1, _), (7, _), (9, _), (13, _), (14, _), (16, _), (74, _), (75, _), (76, _)] ⟨I, I, I, I, I, I, I, I, I, I, J⟩ ?_ ?_
 refine AW.z I (AW.ch h I ?_ ?_)
 intro hc445 h
 obtain ⟨p446, hp447, h⟩ := ob_some h
 obtain ⟨hp447i, hp447x⟩ := ix_some hp447
 refine AW.region (AO.q 2 I (AO.d (Yd.lenUM 6 I I I I) I (AO.q 1 I (AO.d (Yd.indexU 6 (m := p446.1) I I I I I I I hp447i (map_get hp447x)) I (AO.d (Yd.loadU 6 p446.1 0 I I I (map_get hp447x) I (y := .agg (Level.row p446.2)) I) I (AO.act [7] I (AX.store 7 0 0 (es' := [Level.row p446.2]) I I I I I I I I (le_ble I) I I (AO.nil ?_))))))))
 exact lg ⟨(p446.2.At, p446.2.Bounds.Low, p446.2.Bounds.High), h, I, I⟩ [0, 1, 2, 3, 4, 6, 7]
 intro hc445 h
 refine AW.skip ?_
 exact lg ⟨(p431.2.At, p431.2.Bounds.Low, p431.2.Bounds.High), h, I, I⟩ [0, 1, 2, 3, 4, 6, 7]
 rintro s ob ⟨j437, h, rfl, rfl⟩
 unfold L.zqta.J5 at h
 refine AW.seq ?_
 obtain ⟨p438, hp439, h⟩ := ob_some h
 obtain ⟨hp439i, hp439x⟩ := ix_some hp439
 refine AW.region (AO.r 7 [.o 4 0] I ⟨I, J⟩ (AO.d (Yd.indexU 3 (m := p438.1) I I I I I I I hp439i (map_get hp439x)) I (AO.ghost (Ghost.freeze [5] (K := [.us v427 81 3 (r425.1.map Level.row)]) I [(14, .list 3 (r425.1.map Level.row)), (144, .list 3 (r425.1.map Level.row))] ⟨⟨_, I, .us 0 I⟩, ⟨_, I, .us 0 I⟩, J⟩ (ob' := [.arr b0 123 15 1 [steady_line.rowU st322 v323 v324 v325], .us v323 4 1 (st322.x.Known.map rB), .us v324 71 2 (st322.x.Nodes.map Bounds.row), .us v325 38 1 (st322.x.Segments.map (rL 3 Level.row)), .arr b87 71 2 1 [Bounds.row r82.1], .arr b433 81 3 1 [[.V j437.1, .V j437.2.1, .V j437.2.2]]]) (.rest _)) (AO.act [3] I (AX.storeU 3 p438.1 0 I I I (map_get hp439x) I I I I (le_ble I) I (us_set (x := r425.1) I) (AO.nil ?_))))))
 obtain ⟨r440, hx441, h⟩ := ob_some h
 refine AW.region (AO.q 3 I (AO.d (Yd.loadO 5 0 1 I I I I I (y := .agg [.V j437.2.1, .V j437.2.2]) I) I (AO.act [0, 1, 2, 3] I (AX.cg [0, 1, 2, 3] (L.zkto_ok b0 _ v323 v324 v325 _ _ _ hx441) ?_))))
 rintro _ _ _ - ⟨v442, v443, v444, rfl, rfl, rfl⟩
 refine AO.nil ?_
 exact lg ⟨r440, v442, v443, v444, h, I, I⟩ [0, 1, 2, 3, 4]
 rintro s ob ⟨j407, v408, v409, v410, h, rfl, rfl⟩
 unfold L.zqta.J4 at h
 refine AW.region (AO.r 2 [.k 0 (k232 + 1 : Nat)] I ⟨cast_wr hk233 hm234, J⟩ ?_)
 obtain rfl := oi h
 refine AO.nil ?_
 exact ⟨_, _, _, I, ⟨v408, v409, v410, I, I⟩, ⟨I, I, I, I, I, I, J⟩, [0, 1, 2, 3, 4], I, by decide⟩
 rintro st322 s ob ⟨v323, v324, v325, rfl, rfl⟩ he
 subst he
 have h := se_l hR368
 have hk233f : decide (((r82.2.2.n_.Segments.length : Nat) : Int) < (r82.2.2.n_.Segments.length : Int)) = false := by simp
 refine AW.z I (AW.seqG (fun y449 hy449 => (AW.condK (v := false) I hk233f (AW.exit ?_))))
 exact lg ⟨st322, v323, v324, v325, h, I, I⟩ [0, 1, 2, 3]
 rintro s ob ⟨j227, v228, v229, v230, h, rfl, rfl⟩
 unfold L.zqta.J2 at h
 refine AW.z I ?_
 obtain rfl := oi h
 exact AW.ret ⟨.inr I, [_], [.arr b0 123 15 1 [steady_line.rowU j227 v228 v229 v230], .us v228 4 1 (j227.x.Known.map rB), .us v229 71 2 (j227.x.Nodes.map Bounds.row), .us v230 38 1 (j227.x.Segments.map (rL 3 Level.row))], ⟨I, J⟩, sl_c I (sl_c I (sl_c I (sl_c I (sl_n)))), ⟨[.arr b0 123 15 1 [steady_line.rowU j227 v228 v229 v230], .us v228 4 1 (j227.x.Known.map rB), .us v229 71 2 (j227.x.Nodes.map Bounds.row), .us v230 38 1 (j227.x.Segments.map (rL 3 Level.row))], [], I, I, v228, v229, v230, I, I, I⟩⟩
theorem L.zkmq_ok (s_0 : List Piece) (F1 : T) {f1 : FuncId} {p1 s1 : List T} (h1 : fnT F1 = some (f1, p1, s1)) (g1 : Piece → Option Bool) (hg1 : ∀ (y0 : Piece) r, g1 y0 = some r → ACalls Tryz.env f1 (p1 ++ [.agg (Piece.row y0)] ++ s1) [] (fun x new => x = .v (.bool r) ∧ new = [])) (r : Int) (h : L.zkmq s_0 g1 = some r) : ACalls Tryz.env 83 [.list 2 (s_0.map Piece.row), F1] [] (fun x new => x = .V r ∧ new = []) := by
 refine ACalls.of_body Tryz.func83 rfl rfl rfl (fun C hC => ?_)
 unfold L.zkmq at h
 refine AW.z I (AW.cutX (fun s ob => ∃ (j24 : Unit), L.zkmq.J1 j24 = some r ∧ s = [] ∧ ob = []) [] J ?_ ?_)
 refine AW.zr [.l 1 (s_0.length : Int)] I ⟨len_m, J⟩ (AW.block (AW.listMax 6 I (fun hm28 => ?_)))
 replace hm28 : s_0.length ≤ 9223372036854775806 := by rw [List.length_map] at hm28; omega
 obtain ⟨o45, hL46, hR47⟩ := ob_some h
 clear h
 refine AW.forX hL46 [(0, _), (1, _), (7, _)] ⟨I, I, I, J⟩ (fun (k26 : Nat) (st38 : Unit) s ob => s = [(8, .V (k26 : Int))] ∧ ob = []) ⟨I, I⟩ ⟨I, J⟩ ⟨[], I, by decide⟩ ?_ ?_
 rintro k26 x29 st38 r49 s ob hx30 hk27 ⟨rfl, rfl⟩ h hb48
 unfold L.zkmq.B2 at h
 have hk27t : decide ((k26 : Int) < (s_0.length : Int)) = true := decide_eq_true (by omega)
 refine AW.z I (AW.seqG (fun y51 hy51 => (AW.condK (v := true) I hk27t (AW.skip ?_))))
 subst hy51
 refine AW.seq (AW.block (AW.z I (AW.seq ?_)))
 obtain ⟨r53, hx54, h⟩ := ob_some h
 refine AW.region (AO.r 5 [.x 3 k26 (Piece.row x29)] I ⟨⟨I, map_get hx30⟩, J⟩ (AO.act [] I (AX.callL I (.refl _) h1 I (.rest _) I (hg1 _ _ hx54) dS (by rintro _ _ ⟨rfl, _⟩; rfl) ?_)))
 rintro _ ⟨_, rfl, -⟩
 refine AO.nil (AW.ch h I ?_ ?_)
 intro hc55 h
 refine AW.z I ?_
 obtain rfl := hb48 _ (oi h).symm
 replace h := hR47
 replace h := se_r h
 obtain rfl := oi h
 exact AW.ret pr
 intro hc55 h
 refine AW.skip (AW.region (AO.r 2 [.k 0 (k26 + 1 : Nat)] I ⟨cast_wr hk27 hm28, J⟩ ?_))
 obtain rfl := oi h
 refine AO.nil ?_
 exact ⟨_, _, _, I, ⟨I, I⟩, ⟨I, I, I, I, J⟩, [], I, by decide⟩
 rintro st38 s ob ⟨rfl, rfl⟩ he
 subst he
 have h := se_l hR47
 have hk27f : decide (((s_0.length : Nat) : Int) < (s_0.length : Int)) = false := by simp
 refine AW.z I (AW.seqG (fun y57 hy57 => (AW.condK (v := false) I hk27f (AW.exit ?_))))
 exact lg ⟨(), h, I, I⟩ []
 rintro s ob ⟨j24, h, rfl, rfl⟩
 unfold L.zkmq.J1 at h
 refine AW.z I ?_
 obtain rfl := oi h
 exact AW.ret pr
theorem L.zytx_ok (s_0 : List Piece) (F1 : T) {f1 : FuncId} {p1 s1 : List T} (h1 : fnT F1 = some (f1, p1, s1)) (g1 : Piece → Option Bool) (hg1 : ∀ (y0 : Piece) r, g1 y0 = some r → ACalls Tryz.env f1 (p1 ++ [.agg (Piece.row y0)] ++ s1) [] (fun x new => x = .v (.bool r) ∧ new = [])) (r : Bool) (h : L.zytx s_0 g1 = some r) : ACalls Tryz.env 47 [.list 2 (s_0.map Piece.row), F1] [] (fun x new => x = .v (.bool r) ∧ new = []) := by
 refine ACalls.of_body Tryz.func47 rfl rfl rfl (fun C hC => ?_)
 unfold L.zytx at h
 refine AW.z I (AW.seq ?_)
 obtain ⟨r1, hx2, h⟩ := ob_some h
 refine AW.region (AO.q 2 I (AO.c (L.zkmq_ok _ F1 h1 g1 hg1 _ hx2) (AO.q 2 I (AO.nil ?_))))
 obtain rfl := oi h
 exact AW.ret pr
theorem L.zsma_ok (x_0 : Piece) (a_1 : List Batch) (a_2 : List Product) (r : Bool) (h : L.zsma x_0 a_1 a_2 = some r) : ACalls Tryz.env 48 [.agg (Piece.row x_0), .eptr ((rL 4 Batch.row) a_1), .eptr ((rL 5 Product.row) a_2)] [] (fun x new => x = .v (.bool r) ∧ new = []) := by
 refine ACalls.of_body Tryz.func48 rfl rfl rfl (fun C hC => ?_)
 unfold L.zsma at h
 refine AW.seq (AW.region (AO.act [] I (AX.box (cs := Piece.row x_0) (m := 2) I I I dS (fun b1 => (AO.q 1 I (AO.nil (AW.seq ?_)))))))
 obtain ⟨r2, hx3, h⟩ := ob_some h
 refine AW.region (AO.r 4 [.o 1 0] I ⟨I, J⟩ (AO.c (L.zokq_ok _ _ _ _ hx3) (AO.q 2 I (AO.nil (AW.ghost g0 ?_)))))
 obtain rfl := oi h
 exact AW.ret pr
theorem L.zonc_ok (n_0 : Network) (batches_1 : List Batch) (products_2 : List Product) (fills_3 : List (List Piece)) (p_4 : Plan) (r : Pressures × Int) (h : L.zonc n_0 batches_1 products_2 fills_3 p_4 = some r) : ACalls Tryz.env 16 [.agg (Network.row n_0), .list 4 (batches_1.map Batch.row), .list 5 (products_2.map Product.row), .list 1 (fills_3.map (rL 2 Piece.row)), .agg (Plan.row p_4)] [] (fun x new => x = .tup [.agg (Pressures.row r.1), .V r.2] ∧ new = []) := by
 refine ACalls.of_body Tryz.func16 rfl rfl rfl (fun C hC => ?_)
 unfold L.zonc at h
 refine AW.seqG (fun y1 hy1 => (AW.region (AO.act [] I (AX.box (cs := Network.row n_0) (m := 6) I I I dS (fun b2 => (AO.act [] I (AX.box (cs := [.list 4 (batches_1.map Batch.row)]) (m := 1) I I I dS (fun b3 => (AO.act [] I (AX.box (cs := [.list 5 (products_2.map Product.row)]) (m := 1) I I I dS (fun b4 => (AO.act [] I (AX.box (cs := Plan.row p_4) (m := 3) I I I dS (fun b5 => (AO.act [] I (AX.alloc (cs := [.v (.slice none 0 0), .v (.slice none 0 0), .v (.slice none 0 0)]) (m := 3) I I I I I dS (fun b6 => (AO.q 1 I (AO.nil ?_)))))))))))))))))))
 subst hy1
 refine AW.seqG (fun y7 hy7 => ?_)
 obtain ⟨r8, hx9, h⟩ := ob_some h
 refine AW.region (AO.r 2 [.o 0 0, .o 1 3] I ⟨I, I, J⟩ (AO.act [] I (AX.call0 I I I (L.zyyp_ok _ _ _ hx9) dS ?_)))
 rintro _ _ ⟨v10, rfl, rfl⟩
 refine AO.q 5 I (AO.nil ?_)
 subst hy7
 refine AW.seqG (fun y11 hy11 => (AW.z I (AW.ch h I ?_ ?_)))
 intro hc12 h
 refine AW.seq (AW.region (AO.p (Yp.buildP (l := [.v (.slice none 0 0), .v (.slice none 0 0), .v (.slice none 0 0)]) Tryz.bld36 I) I (AO.q 1 I (AO.act [4] I (AX.store 4 0 0 (es' := [[.v (.slice none 0 0), .v (.slice none 0 0), .v (.slice none 0 0)]]) I I I I I I I I (le_ble I) I I (AO.q 1 I (AO.nil (AW.ghost (Ghost.freeze [] (K := []) I [] J (ob' := [.arr b2 27 6 1 [Network.row n_0], .arr b3 28 1 1 [[.list 4 (batches_1.map Batch.row)]], .arr b4 41 1 1 [[.list 5 (products_2.map Product.row)]], .arr b5 32 3 1 [Plan.row p_4], .arr b6 36 3 1 [[.list 1 ([].map rB), .list 2 ([].map Bounds.row), .list 1 ([].map (rL 3 Level.row))]], .us v10 3 1 (r8.1.map rI)]) (.cons (.same _) (.cons (.same _) (.cons (.same _) (.cons (.same _) (.cons (.arr (.cons (.nil _) (.cons (.nil _) (.cons (.nil _) (.rest _))))) (.rest _))))))) (AW.ghost (Ghost.pick [4] (K := [.arr b6 36 3 1 [[.list 1 ([].map rB), .list 2 ([].map Bounds.row), .list 1 ([].map (rL 3 Level.row))]]]) I (by decide)) ?_)))))))))
 obtain rfl := oi h
 rotate_left
 intro hc12 h
 refine AW.skip ?_
 subst hy11
 refine AW.seqG (fun y13 hy13 => (AW.seq ?_))
 obtain ⟨r14, hx15, h⟩ := ob_some h
 refine AW.region (AO.r 2 [.o 0 0] I ⟨I, J⟩ (AO.c (L.zspo_ok _ _ _ hx15) (AO.q 1 I (AO.nil (AW.z I (AW.ch h I ?_ ?_))))))
 intro hc16 h
 refine AW.seq (AW.region (AO.p (Yp.buildP (l := [.v (.slice none 0 0), .v (.slice none 0 0), .v (.slice none 0 0)]) Tryz.bld36 I) I (AO.q 1 I (AO.act [4] I (AX.store 4 0 0 (es' := [[.v (.slice none 0 0), .v (.slice none 0 0), .v (.slice none 0 0)]]) I I I I I I I I (le_ble I) I I (AO.q 1 I (AO.nil (AW.ghost (Ghost.freeze [] (K := []) I [] J (ob' := [.arr b2 27 6 1 [Network.row n_0], .arr b3 28 1 1 [[.list 4 (batches_1.map Batch.row)]], .arr b4 41 1 1 [[.list 5 (products_2.map Product.row)]], .arr b5 32 3 1 [Plan.row p_4], .arr b6 36 3 1 [[.list 1 ([].map rB), .list 2 ([].map Bounds.row), .list 1 ([].map (rL 3 Level.row))]], .us v10 3 1 (r8.1.map rI)]) (.cons (.same _) (.cons (.same _) (.cons (.same _) (.cons (.same _) (.cons (.arr (.cons (.nil _) (.cons (.nil _) (.cons (.nil _) (.rest _))))) (.rest _))))))) (AW.ghost (Ghost.pick [4] (K := [.arr b6 36 3 1 [[.list 1 ([].map rB), .list 2 ([].map Bounds.row), .list 1 ([].map (rL 3 Level.row))]]]) I (by decide)) ?_)))))))))
 obtain rfl := oi h
 rotate_left
 intro hc16 h
 refine AW.skip ?_
 subst hy13
 refine AW.seqG (fun y17 hy17 => (AW.seq ?_))
 obtain ⟨r18, hx19, h⟩ := ob_some h
 refine AW.region (AO.r 1 [.o 0 2] I ⟨I, J⟩ (AO.c (L.zwas_ok _ _ hx19) (AO.q 1 I (AO.nil (AW.z I (AW.ch h I ?_ ?_))))))
 intro hc20 h
 refine AW.seq (AW.region (AO.p (Yp.buildP (l := [.v (.slice none 0 0), .v (.slice none 0 0), .v (.slice none 0 0)]) Tryz.bld36 I) I (AO.q 1 I (AO.act [4] I (AX.store 4 0 0 (es' := [[.v (.slice none 0 0), .v (.slice none 0 0), .v (.slice none 0 0)]]) I I I I I I I I (le_ble I) I I (AO.q 1 I (AO.nil (AW.ghost (Ghost.freeze [] (K := []) I [] J (ob' := [.arr b2 27 6 1 [Network.row n_0], .arr b3 28 1 1 [[.list 4 (batches_1.map Batch.row)]], .arr b4 41 1 1 [[.list 5 (products_2.map Product.row)]], .arr b5 32 3 1 [Plan.row p_4], .arr b6 36 3 1 [[.list 1 ([].map rB), .list 2 ([].map Bounds.row), .list 1 ([].map (rL 3 Level.row))]], .us v10 3 1 (r8.1.map rI)]) (.cons (.same _) (.cons (.same _) (.cons (.same _) (.cons (.same _) (.cons (.arr (.cons (.nil _) (.cons (.nil _) (.cons (.nil _) (.rest _))))) (.rest _))))))) (AW.ghost (Ghost.pick [4] (K := [.arr b6 36 3 1 [[.list 1 ([].map rB), .list 2 ([].map Bounds.row), .list 1 ([].map (rL 3 Level.row))]]]) I (by decide)) ?_)))))))))
 obtain rfl := oi h
 rotate_left
 intro hc20 h
 refine AW.skip ?_
 subst hy17
 refine AW.cutX (fun s ob => ∃ (j41 : Unit), L.zonc.J1 n_0 batches_1 products_2 fills_3 p_4 r8 j41 = some r ∧ s = [] ∧ ob = [.arr b2 27 6 1 [Network.row n_0], .arr b3 28 1 1 [[.list 4 (batches_1.map Batch.row)]], .arr b4 41 1 1 [[.list 5 (products_2.map Product.row)]], .arr b5 32 3 1 [Plan.row p_4], .arr b6 36 3 1 [[.v (.slice none 0 0), .v (.slice none 0 0), .v (.slice none 0 0)]], .us v10 3 1 (r8.1.map rI)]) [(3, _), (5, _), (6, _), (7, _), (9, _), (10, _), (12, _)] ⟨I, I, I, I, I, I, I, J⟩ ?_ ?_
 refine AW.zr [.l 1 (fills_3.length : Int)] I ⟨len_m, J⟩ (AW.block (AW.listMax 45 I (fun hm194 => ?_)))
 replace hm194 : fills_3.length ≤ 9223372036854775806 := by rw [List.length_map] at hm194; omega
 obtain ⟨o209, hL210, hR211⟩ := ob_some h
 clear h
 refine AW.forX hL210 [(3, _), (5, _), (6, _), (7, _), (9, _), (10, _), (12, _), (45, _), (46, _)] ⟨I, I, I, I, I, I, I, I, I, J⟩ (fun (k192 : Nat) (st203 : Unit) s ob => s = [(47, .V (k192 : Int))] ∧ ob = [.arr b2 27 6 1 [Network.row n_0], .arr b3 28 1 1 [[.list 4 (batches_1.map Batch.row)]], .arr b4 41 1 1 [[.list 5 (products_2.map Product.row)]], .arr b5 32 3 1 [Plan.row p_4], .arr b6 36 3 1 [[.v (.slice none 0 0), .v (.slice none 0 0), .v (.slice none 0 0)]], .us v10 3 1 (r8.1.map rI)]) ⟨I, I⟩ ⟨I, J⟩ ⟨[0, 1, 2, 3, 4, 5], I, by decide⟩ ?_ ?_
 rintro k192 x195 st203 r213 s ob hx196 hk193 ⟨rfl, rfl⟩ h hb212
 unfold L.zonc.B5 at h
 have hk193t : decide ((k192 : Int) < (fills_3.length : Int)) = true := decide_eq_true (by omega)
 refine AW.z I (AW.seqG (fun y215 hy215 => (AW.condK (v := true) I hk193t (AW.skip ?_))))
 subst hy215
 refine AW.seq (AW.block (AW.zr [.x 0 k192 ((rL 2 Piece.row) x195)] I ⟨⟨I, map_get hx196⟩, J⟩ (AW.seq ?_)))
 obtain ⟨r216, hx217, h⟩ := ob_some h
 refine AW.region (AO.q 1 I (AO.p (Yp.makeFunc I I) I (AO.act [] I (AX.callL I (.refl _) I I (.cons (.refl _) (.cons (.fn (.rest _) (.cons (.box 1 I (.rest _)) (.cons (.box 2 I (.rest _)) (.rest _)))) (.rest _))) I (L.zytx_ok _ (.fn 48 [] [.eptr ((rL 4 Batch.row) batches_1), .eptr ((rL 5 Product.row) products_2)]) I (fun x => L.zsma x batches_1 products_2) (fun x r h => L.zsma_ok x batches_1 products_2 r h) _ hx217) dS (by rintro _ _ ⟨rfl, _⟩; rfl) ?_))))
 rintro _ ⟨_, rfl, -⟩
 refine AO.nil (AW.ch h I ?_ ?_)
 intro hc218 h
 refine AW.seq (AW.region (AO.p (Yp.buildP (l := [.v (.slice none 0 0), .v (.slice none 0 0), .v (.slice none 0 0)]) Tryz.bld36 I) I (AO.act [4] I (AX.store 4 0 0 (es' := [[.v (.slice none 0 0), .v (.slice none 0 0), .v (.slice none 0 0)]]) I I I I I I I I (le_ble I) I I (AO.q 1 I (AO.nil ?_))))))
 obtain rfl := hb212 _ (oi h).symm
 replace h := hR211
 replace h := se_r h
 refine AW.ghost (Ghost.freeze [] (K := []) I [] J (ob' := [.arr b2 27 6 1 [Network.row n_0], .arr b3 28 1 1 [[.list 4 (batches_1.map Batch.row)]], .arr b4 41 1 1 [[.list 5 (products_2.map Product.row)]], .arr b5 32 3 1 [Plan.row p_4], .arr b6 36 3 1 [[.list 1 ([].map rB), .list 2 ([].map Bounds.row), .list 1 ([].map (rL 3 Level.row))]], .us v10 3 1 (r8.1.map rI)]) (.cons (.same _) (.cons (.same _) (.cons (.same _) (.cons (.same _) (.cons (.arr (.cons (.nil _) (.cons (.nil _) (.cons (.nil _) (.rest _))))) (.rest _))))))) (AW.ghost (Ghost.pick [4] (K := [.arr b6 36 3 1 [[.list 1 ([].map rB), .list 2 ([].map Bounds.row), .list 1 ([].map (rL 3 Level.row))]]]) I (by decide)) ?_)
 obtain rfl := oi h
 any_goals
  exact AW.ret ⟨.inr I, [_, _], [], ⟨⟨0, _, _, _, _, _, _, _, I, I, I, I, I⟩, I, J⟩, sl_n, I, I⟩
 intro hc218 h
 refine AW.skip (AW.region (AO.r 2 [.k 0 (k192 + 1 : Nat)] I ⟨cast_wr hk193 hm194, J⟩ ?_))
 obtain rfl := oi h
 refine AO.nil ?_
 exact ⟨_, _, _, I, ⟨I, I⟩, ⟨I, I, I, I, I, I, I, I, I, I, J⟩, [0, 1, 2, 3, 4, 5], I, by decide⟩
 rintro st203 s ob ⟨rfl, rfl⟩ he
 subst he
 have h := se_l hR211
 have hk193f : decide (((fills_3.length : Nat) : Int) < (fills_3.length : Int)) = false := by simp
 refine AW.z I (AW.seqG (fun y220 hy220 => (AW.condK (v := false) I hk193f (AW.exit ?_))))
 exact lg ⟨(), h, I, I⟩ [0, 1, 2, 3, 4, 5]
 rintro s ob ⟨j41, h, rfl, rfl⟩
 unfold L.zonc.J1 at h
 refine AW.seqG (fun y42 hy42 => (AW.region (AO.r 5 [.o 0 0, .o 1 1, .o 2 2, .o 4 3] I ⟨I, I, I, I, J⟩ (AO.p (Yp.buildP (l := [.list 1 (n_0.Nodes.map rS), .list 7 (n_0.Segments.map Segment.row), .list 3 (n_0.Ports.map Port.row), .list 5 (n_0.Stations.map Station.row), .V n_0.Vapour, .V n_0.Settle, .list 4 (batches_1.map Batch.row), .list 5 (products_2.map Product.row), .list 1 (fills_3.map (rL 2 Piece.row)), .list 1 (p_4.Rates.map rI), .list 1 (p_4.Ports.map rI), .list 1 (p_4.Pumps.map rB), .v (.slice none 0 0), .v (.slice none 0 0), .v (.slice none 0 0)]) Tryz.bld123 I) I (AO.act [] I (AX.box (cs := [.list 1 (n_0.Nodes.map rS), .list 7 (n_0.Segments.map Segment.row), .list 3 (n_0.Ports.map Port.row), .list 5 (n_0.Stations.map Station.row), .V n_0.Vapour, .V n_0.Settle, .list 4 (batches_1.map Batch.row), .list 5 (products_2.map Product.row), .list 1 (fills_3.map (rL 2 Piece.row)), .list 1 (p_4.Rates.map rI), .list 1 (p_4.Ports.map rI), .list 1 (p_4.Pumps.map rB), .v (.slice none 0 0), .v (.slice none 0 0), .v (.slice none 0 0)]) (m := 15) I I I dS (fun b43 => (AO.q 1 I (AO.nil ?_)))))))))
 subst hy42
 refine AW.cutX (fun s ob => ∃ (j56 : steady_line) (v57 : Value) (v58 : Value) (v59 : Value), L.zonc.J2 r8 j56 = some r ∧ s = [] ∧ ob = [.arr b6 36 3 1 [[.v (.slice none 0 0), .v (.slice none 0 0), .v (.slice none 0 0)]], .us v10 3 1 (r8.1.map rI), .arr b43 123 15 1 [steady_line.rowU j56 v57 v58 v59], .us v57 4 1 (j56.x.Known.map rB), .us v58 71 2 (j56.x.Nodes.map Bounds.row), .us v59 38 1 (j56.x.Segments.map (rL 3 Level.row))]) [(10, _), (12, _), (18, _)] ⟨I, I, I, J⟩ ?_ ?_
 obtain ⟨l179, hx180, h⟩ := ob_some h
 obtain ⟨m181, hx180i, hx180m, hx180r⟩ := mk_some hx180
 obtain ⟨l183, hx184, h⟩ := ob_some h
 obtain ⟨m185, hx184i, hx184m, hx184r⟩ := mk_some hx184
 obtain ⟨l187, hx188, h⟩ := ob_some h
 obtain ⟨m189, hx188i, hx188m, hx188r⟩ := mk_some hx188
 refine AW.rd (.still 0 (.still 1 (.still 2 (.still 3 (.still 5 (.still 6 (.still 7 (.still 9 (.still 10 (.still 11 (.three 4 8 12 (.two 8 12 (.act 12 (.still 13 (.still 14 (.still 15 (.act 16 .nil))))) (.act 8 (.still 13 (.still 14 (.still 15 (.act 16 .nil)))))) (.two 4 12 (.act 12 (.still 13 (.still 14 (.still 15 (.act 16 .nil))))) (.act 4 (.still 13 (.still 14 (.still 15 (.act 16 .nil)))))) (.two 4 8 (.act 8 (.still 13 (.still 14 (.still 15 (.act 16 .nil))))) (.act 4 (.still 13 (.still 14 (.still 15 (.act 16 .nil))))))))))))))))) [0] [_] I (AP.r 10 [.o 2 0, .l 3 (n_0.Nodes.length : Int), .o 5 0, .l 6 (n_0.Nodes.length : Int), .o 8 0, .l 9 (n_0.Segments.length : Int)] I ⟨len_m, I, len_m, I, len_m, I, J⟩ (AP.three ?_ ?_ ?_))
 refine AP.act [] I I I (AX.makeU (sz := 1) I I I I I I I I I I hx180i hx180m (rep_map (f := rB) hx180r I) dS (fun v182 => (AP.two ?_ ?_)))
 refine AP.act [] I I I (AX.makeU (sz := 2) I I I I I I I I I I hx184i hx184m (rep_map (f := Bounds.row) hx184r I) dS (fun v186 => (AP.act [] I I I (AX.makeU (sz := 1) (es' := List.replicate m189 [.v (.slice none 0 0)]) I I I I I I I I I I hx188i hx188m I dS (fun v190 => (AP.ghostS (Ghost.toLists (f := Level.row) 9 m189 3 hx188r I) I (AP.one 7 I (fun v182o => (AP.one 8 I (fun v186o => (AP.one 9 I (fun v190o => (AP.p I (Yp.buildP (l := [.v v182, .v v186, .v v190]) Tryz.bld36 (fill_step I I (cells_v v182o) I (fill_step I I (cells_v v186o) I (fill_step I I (cells_v v190o) I (fill_nil))))) I (AP.q 2 I (AP.act [6] I I I (AX.store 6 0 12 (es' := [[.list 1 (n_0.Nodes.map rS), .list 7 (n_0.Segments.map Segment.row), .list 3 (n_0.Ports.map Port.row), .list 5 (n_0.Stations.map Station.row), .V n_0.Vapour, .V n_0.Settle, .list 4 (batches_1.map Batch.row), .list 5 (products_2.map Product.row), .list 1 (fills_3.map (rL 2 Piece.row)), .list 1 (p_4.Rates.map rI), .list 1 (p_4.Ports.map rI), .list 1 (p_4.Pumps.map rB), .v v182, .v v186, .v v190]]) I I I I I I I I (le_ble I) I I (AP.ofAO (AO.nil ?_))))))))))))))))))
 exact lg ⟨(⟨n_0, batches_1, products_2, fills_3, p_4, (⟨l179, l183, l187⟩ : Pressures)⟩ : steady_line), v182, v186, v190, h, I, I⟩ [4, 5, 6, 7, 8, 9]
 refine AP.act [] I I I (AX.makeU (sz := 1) (es' := List.replicate m189 [.v (.slice none 0 0)]) I I I I I I I I I I hx188i hx188m I dS (fun v190 => (AP.ghostS (Ghost.toLists (f := Level.row) 8 m189 3 hx188r I) I (AP.act [] I I I (AX.makeU (sz := 2) I I I I I I I I I I hx184i hx184m (rep_map (f := Bounds.row) hx184r I) dS (fun v186 => (AP.one 7 I (fun v182o => (AP.one 9 I (fun v186o => (AP.one 8 I (fun v190o => (AP.p I (Yp.buildP (l := [.v v182, .v v186, .v v190]) Tryz.bld36 (fill_step I I (cells_v v182o) I (fill_step I I (cells_v v186o) I (fill_step I I (cells_v v190o) I (fill_nil))))) I (AP.q 2 I (AP.act [6] I I I (AX.store 6 0 12 (es' := [[.list 1 (n_0.Nodes.map rS), .list 7 (n_0.Segments.map Segment.row), .list 3 (n_0.Ports.map Port.row), .list 5 (n_0.Stations.map Station.row), .V n_0.Vapour, .V n_0.Settle, .list 4 (batches_1.map Batch.row), .list 5 (products_2.map Product.row), .list 1 (fills_3.map (rL 2 Piece.row)), .list 1 (p_4.Rates.map rI), .list 1 (p_4.Ports.map rI), .list 1 (p_4.Pumps.map rB), .v v182, .v v186, .v v190]]) I I I I I I I I (le_ble I) I I (AP.ofAO (AO.nil ?_))))))))))))))))))
 exact lg ⟨(⟨n_0, batches_1, products_2, fills_3, p_4, (⟨l179, l183, l187⟩ : Pressures)⟩ : steady_line), v182, v186, v190, h, I, I⟩ [4, 5, 6, 7, 9, 8]
 refine AP.act [] I I I (AX.makeU (sz := 2) I I I I I I I I I I hx184i hx184m (rep_map (f := Bounds.row) hx184r I) dS (fun v186 => (AP.two ?_ ?_)))
 refine AP.act [] I I I (AX.makeU (sz := 1) I I I I I I I I I I hx180i hx180m (rep_map (f := rB) hx180r I) dS (fun v182 => (AP.act [] I I I (AX.makeU (sz := 1) (es' := List.replicate m189 [.v (.slice none 0 0)]) I I I I I I I I I I hx188i hx188m I dS (fun v190 => (AP.ghostS (Ghost.toLists (f := Level.row) 9 m189 3 hx188r I) I (AP.one 8 I (fun v182o => (AP.one 7 I (fun v186o => (AP.one 9 I (fun v190o => (AP.p I (Yp.buildP (l := [.v v182, .v v186, .v v190]) Tryz.bld36 (fill_step I I (cells_v v182o) I (fill_step I I (cells_v v186o) I (fill_step I I (cells_v v190o) I (fill_nil))))) I (AP.q 2 I (AP.act [6] I I I (AX.store 6 0 12 (es' := [[.list 1 (n_0.Nodes.map rS), .list 7 (n_0.Segments.map Segment.row), .list 3 (n_0.Ports.map Port.row), .list 5 (n_0.Stations.map Station.row), .V n_0.Vapour, .V n_0.Settle, .list 4 (batches_1.map Batch.row), .list 5 (products_2.map Product.row), .list 1 (fills_3.map (rL 2 Piece.row)), .list 1 (p_4.Rates.map rI), .list 1 (p_4.Ports.map rI), .list 1 (p_4.Pumps.map rB), .v v182, .v v186, .v v190]]) I I I I I I I I (le_ble I) I I (AP.ofAO (AO.nil ?_))))))))))))))))))
 exact lg ⟨(⟨n_0, batches_1, products_2, fills_3, p_4, (⟨l179, l183, l187⟩ : Pressures)⟩ : steady_line), v182, v186, v190, h, I, I⟩ [4, 5, 6, 8, 7, 9]
 refine AP.act [] I I I (AX.makeU (sz := 1) (es' := List.replicate m189 [.v (.slice none 0 0)]) I I I I I I I I I I hx188i hx188m I dS (fun v190 => (AP.ghostS (Ghost.toLists (f := Level.row) 8 m189 3 hx188r I) I (AP.act [] I I I (AX.makeU (sz := 1) I I I I I I I I I I hx180i hx180m (rep_map (f := rB) hx180r I) dS (fun v182 => (AP.one 9 I (fun v182o => (AP.one 7 I (fun v186o => (AP.one 8 I (fun v190o => (AP.p I (Yp.buildP (l := [.v v182, .v v186, .v v190]) Tryz.bld36 (fill_step I I (cells_v v182o) I (fill_step I I (cells_v v186o) I (fill_step I I (cells_v v190o) I (fill_nil))))) I (AP.q 2 I (AP.act [6] I I I (AX.store 6 0 12 (es' := [[.list 1 (n_0.Nodes.map rS), .list 7 (n_0.Segments.map Segment.row), .list 3 (n_0.Ports.map Port.row), .list 5 (n_0.Stations.map Station.row), .V n_0.Vapour, .V n_0.Settle, .list 4 (batches_1.map Batch.row), .list 5 (products_2.map Product.row), .list 1 (fills_3.map (rL 2 Piece.row)), .list 1 (p_4.Rates.map rI), .list 1 (p_4.Ports.map rI), .list 1 (p_4.Pumps.map rB), .v v182, .v v186, .v v190]]) I I I I I I I I (le_ble I) I I (AP.ofAO (AO.nil ?_))))))))))))))))))
 exact lg ⟨(⟨n_0, batches_1, products_2, fills_3, p_4, (⟨l179, l183, l187⟩ : Pressures)⟩ : steady_line), v182, v186, v190, h, I, I⟩ [4, 5, 6, 9, 7, 8]
 refine AP.act [] I I I (AX.makeU (sz := 1) (es' := List.replicate m189 [.v (.slice none 0 0)]) I I I I I I I I I I hx188i hx188m I dS (fun v190 => (AP.ghostS (Ghost.toLists (f := Level.row) 7 m189 3 hx188r I) I (AP.two ?_ ?_))))
 refine AP.act [] I I I (AX.makeU (sz := 1) I I I I I I I I I I hx180i hx180m (rep_map (f := rB) hx180r I) dS (fun v182 => (AP.act [] I I I (AX.makeU (sz := 2) I I I I I I I I I I hx184i hx184m (rep_map (f := Bounds.row) hx184r I) dS (fun v186 => (AP.one 8 I (fun v182o => (AP.one 9 I (fun v186o => (AP.one 7 I (fun v190o => (AP.p I (Yp.buildP (l := [.v v182, .v v186, .v v190]) Tryz.bld36 (fill_step I I (cells_v v182o) I (fill_step I I (cells_v v186o) I (fill_step I I (cells_v v190o) I (fill_nil))))) I (AP.q 2 I (AP.act [6] I I I (AX.store 6 0 12 (es' := [[.list 1 (n_0.Nodes.map rS), .list 7 (n_0.Segments.map Segment.row), .list 3 (n_0.Ports.map Port.row), .list 5 (n_0.Stations.map Station.row), .V n_0.Vapour, .V n_0.Settle, .list 4 (batches_1.map Batch.row), .list 5 (products_2.map Product.row), .list 1 (fills_3.map (rL 2 Piece.row)), .list 1 (p_4.Rates.map rI), .list 1 (p_4.Ports.map rI), .list 1 (p_4.Pumps.map rB), .v v182, .v v186, .v v190]]) I I I I I I I I (le_ble I) I I (AP.ofAO (AO.nil ?_)))))))))))))))))
 exact lg ⟨(⟨n_0, batches_1, products_2, fills_3, p_4, (⟨l179, l183, l187⟩ : Pressures)⟩ : steady_line), v182, v186, v190, h, I, I⟩ [4, 5, 6, 8, 9, 7]
 refine AP.act [] I I I (AX.makeU (sz := 2) I I I I I I I I I I hx184i hx184m (rep_map (f := Bounds.row) hx184r I) dS (fun v186 => (AP.act [] I I I (AX.makeU (sz := 1) I I I I I I I I I I hx180i hx180m (rep_map (f := rB) hx180r I) dS (fun v182 => (AP.one 9 I (fun v182o => (AP.one 8 I (fun v186o => (AP.one 7 I (fun v190o => (AP.p I (Yp.buildP (l := [.v v182, .v v186, .v v190]) Tryz.bld36 (fill_step I I (cells_v v182o) I (fill_step I I (cells_v v186o) I (fill_step I I (cells_v v190o) I (fill_nil))))) I (AP.q 2 I (AP.act [6] I I I (AX.store 6 0 12 (es' := [[.list 1 (n_0.Nodes.map rS), .list 7 (n_0.Segments.map Segment.row), .list 3 (n_0.Ports.map Port.row), .list 5 (n_0.Stations.map Station.row), .V n_0.Vapour, .V n_0.Settle, .list 4 (batches_1.map Batch.row), .list 5 (products_2.map Product.row), .list 1 (fills_3.map (rL 2 Piece.row)), .list 1 (p_4.Rates.map rI), .list 1 (p_4.Ports.map rI), .list 1 (p_4.Pumps.map rB), .v v182, .v v186, .v v190]]) I I I I I I I I (le_ble I) I I (AP.ofAO (AO.nil ?_)))))))))))))))))
 exact lg ⟨(⟨n_0, batches_1, products_2, fills_3, p_4, (⟨l179, l183, l187⟩ : Pressures)⟩ : steady_line), v182, v186, v190, h, I, I⟩ [4, 5, 6, 9, 8, 7]
 rintro s ob ⟨j56, v57, v58, v59, h, rfl, rfl⟩
 unfold L.zonc.J2 at h
 refine AW.cutX (fun s ob => ∃ (j109 : steady_line) (v110 : Value) (v111 : Value) (v112 : Value), L.zonc.J3 j109 = some r ∧ s = [] ∧ ob = [.arr b6 36 3 1 [[.v (.slice none 0 0), .v (.slice none 0 0), .v (.slice none 0 0)]], .arr b43 123 15 1 [steady_line.rowU j109 v110 v111 v112], .us v110 4 1 (j109.x.Known.map rB), .us v111 71 2 (j109.x.Nodes.map Bounds.row), .us v112 38 1 (j109.x.Segments.map (rL 3 Level.row))]) [(10, _), (18, _)] ⟨I, I, J⟩ ?_ ?_
 refine AW.seqG (fun y113 hy113 => (AW.region (AO.q 1 I (AO.d (Yd.lenUM 1 I I I I) I (AO.q 1 I (AO.nil ?_))))))
 subst hy113
 refine AW.block (AW.usMax 1 I (fun hm116 => ?_))
 replace hm116 : r8.1.length ≤ 9223372036854775806 := by rw [List.length_map] at hm116; omega
 obtain ⟨o160, hL161, hR162⟩ := ob_some h
 clear h
 refine AW.forIX hL161 [(10, _), (18, _), (79, _), (80, _)] ⟨I, I, I, I, J⟩ (fun (k114 : Nat) (st145 : steady_line) s ob => ∃ (v146 : Value) (v147 : Value) (v148 : Value), s = [(81, .V (k114 : Int))] ∧ ob = [.arr b6 36 3 1 [[.v (.slice none 0 0), .v (.slice none 0 0), .v (.slice none 0 0)]], .us v10 3 1 (r8.1.map rI), .arr b43 123 15 1 [steady_line.rowU st145 v146 v147 v148], .us v146 4 1 (st145.x.Known.map rB), .us v147 71 2 (st145.x.Nodes.map Bounds.row), .us v148 38 1 (st145.x.Segments.map (rL 3 Level.row))]) ⟨v57, v58, v59, I, I⟩ ⟨I, J⟩ ⟨[0, 1, 2, 3, 4, 5], I, by decide⟩ ?_ ?_
 rintro k114 st145 r164 s ob hk115 ⟨v146, v147, v148, rfl, rfl⟩ h hb163
 unfold L.zonc.B4 at h
 have hk115t : decide ((k114 : Int) < (r8.1.length : Int)) = true := decide_eq_true (by omega)
 refine AW.z I (AW.seqG (fun y166 hy166 => (AW.condK (v := true) I hk115t (AW.skip ?_))))
 subst hy166
 refine AW.seq (AW.block (AW.seqG (fun y167 hy167 => ?_)))
 obtain ⟨p168, hp169, h⟩ := ob_some h
 obtain ⟨hp169i, hp169x⟩ := ix_some hp169
 refine AW.region (AO.d (Yd.indexU 1 (m := p168.1) I I I I I I I hp169i (map_get hp169x)) I (AO.d (Yd.loadU 1 p168.1 0 I I I (map_get hp169x) I (y := .V p168.2) I) I (AO.q 1 I (AO.nil ?_))))
 subst hy167
 refine AW.seq ?_
 obtain ⟨r170, hx171, h⟩ := ob_some h
 refine AW.region (AO.q 2 I (AO.act [2, 3, 4, 5] I (AX.cg [2, 3, 4, 5] (L.zqta_ok b43 _ v146 v147 v148 _ _ hx171) ?_)))
 rintro _ _ _ - ⟨v172, v173, v174, rfl, rfl, rfl⟩
 refine AO.q 1 I (AO.nil (AW.z I (AW.ch h I ?_ ?_)))
 intro hc175 h
 refine AW.seq (AW.region (AO.p (Yp.buildP (l := [.v (.slice none 0 0), .v (.slice none 0 0), .v (.slice none 0 0)]) Tryz.bld36 I) I (AO.q 1 I (AO.act [0] I (AX.store 0 0 0 (es' := [[.v (.slice none 0 0), .v (.slice none 0 0), .v (.slice none 0 0)]]) I I I I I I I I (le_ble I) I I (AO.q 1 I (AO.nil ?_)))))))
 obtain rfl := hb163 _ (oi h).symm
 replace h := hR162
 replace h := se_r h
 refine AW.ghost (Ghost.freeze [] (K := []) I [] J (ob' := [.arr b6 36 3 1 [[.list 1 ([].map rB), .list 2 ([].map Bounds.row), .list 1 ([].map (rL 3 Level.row))]], .us v10 3 1 (r8.1.map rI), .arr b43 123 15 1 [steady_line.rowU r170.2 v172 v173 v174], .us v172 4 1 (r170.2.x.Known.map rB), .us v173 71 2 (r170.2.x.Nodes.map Bounds.row), .us v174 38 1 (r170.2.x.Segments.map (rL 3 Level.row))]) (.cons (.arr (.cons (.nil _) (.cons (.nil _) (.cons (.nil _) (.rest _))))) (.rest _))) (AW.ghost (Ghost.pick [0] (K := [.arr b6 36 3 1 [[.list 1 ([].map rB), .list 2 ([].map Bounds.row), .list 1 ([].map (rL 3 Level.row))]]]) I (by decide)) ?_)
 obtain rfl := oi h
 exact AW.ret ⟨.inr I, [_, _], [], ⟨⟨0, _, _, _, _, _, _, _, I, I, I, I, I⟩, I, J⟩, sl_n, I, I⟩
 intro hc175 h
 refine AW.skip (AW.region (AO.r 2 [.k 0 (k114 + 1 : Nat)] I ⟨cast_wr hk115 hm116, J⟩ ?_))
 obtain rfl := oi h
 refine AO.nil ?_
 exact ⟨_, _, _, I, ⟨v172, v173, v174, I, I⟩, ⟨I, I, I, I, I, J⟩, [0, 1, 2, 3, 4, 5], I, by decide⟩
 rintro st145 s ob ⟨v146, v147, v148, rfl, rfl⟩ he
 subst he
 have h := se_l hR162
 have hk115f : decide (((r8.1.length : Nat) : Int) < (r8.1.length : Int)) = false := by simp
 refine AW.z I (AW.seqG (fun y177 hy177 => (AW.condK (v := false) I hk115f (AW.exit ?_))))
 exact lg ⟨st145, v146, v147, v148, h, I, I⟩ [0, 2, 3, 4, 5]
 rintro s ob ⟨j109, v110, v111, v112, h, rfl, rfl⟩
 unfold L.zonc.J3 at h
 refine AW.seq (AW.region (AO.q 3 I (AO.d (Yd.loadO 1 0 12 I I I I I (y := .agg [.v v110, .v v111, .v v112]) I) I (AO.act [0] I (AX.store 0 0 0 (es' := [[.v v110, .v v111, .v v112]]) I I I I I I I I (le_ble I) I I (AO.q 1 I (AO.nil (AW.ghost (Ghost.freeze [2, 3, 4] (K := [.us v110 4 1 (j109.x.Known.map rB), .us v111 71 2 (j109.x.Nodes.map Bounds.row), .us v112 38 1 (j109.x.Segments.map (rL 3 Level.row))]) I [(96, .agg [.list 1 (j109.x.Known.map rB), .list 2 (j109.x.Nodes.map Bounds.row), .list 1 (j109.x.Segments.map (rL 3 Level.row))])] ⟨⟨_, I, .agg (.cons (.us 0 I) (.cons (.us 1 I) (.cons (.us 2 I) (.rest _))))⟩, J⟩ (ob' := [.arr b6 36 3 1 [Pressures.row j109.x], .arr b43 123 15 1 [steady_line.row j109]]) (.cons (.arr (.cons (.us 0 I) (.cons (.us 1 I) (.cons (.us 2 I) (.rest _))))) (.cons (.arr (.cons (.refl _) (.cons (.refl _) (.cons (.refl _) (.cons (.refl _) (.cons (.refl _) (.cons (.refl _) (.cons (.refl _) (.cons (.refl _) (.cons (.refl _) (.cons (.refl _) (.cons (.refl _) (.cons (.refl _) (.cons (.us 0 I) (.cons (.us 1 I) (.cons (.us 2 I) (.rest _))))))))))))))))) (.rest _)))) (AW.ghost (Ghost.pick [0] (K := [.arr b6 36 3 1 [Pressures.row j109.x]]) I (by decide)) ?_)))))))))
 obtain rfl := oi h
 exact AW.ret ⟨.inr I, [_, _], [], ⟨⟨0, _, _, _, _, _, _, _, I, I, I, I, I⟩, I, J⟩, sl_n, I, I⟩
end Go.Proofs.YtehbcbedipkifaaGreatDoor
