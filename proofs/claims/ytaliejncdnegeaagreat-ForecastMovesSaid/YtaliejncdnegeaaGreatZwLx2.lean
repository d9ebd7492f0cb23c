/- Walks that show what functions of the program compute; printed by a program of ours. No condition. -/
import Derived.Test.YtaliejncdnegeaaGreatZwLx1
import Derived.Test.YtaliejncdnegeaaGreatZwL4
import Derived.Test.YtaliejncdnegeaaGreatZwD
set_option maxRecDepth 100000
namespace Go.Proofs.YtaliejncdnegeaaGreat
open Go.Aw
set_option linter.unusedVariables false
set_option linter.unusedSimpArgs false
set_option maxHeartbeats 4000000
theorem L.zqig_ok (a : Network) (W : List (List Piece)) (b : Plan) (X : List Int) (B : Int) (r : (List (List Piece)) × (List (List Piece)) × Int) (h : L.zqig a W b X B = some r) : ACalls Tryz.env 13 [.agg (Network.row a), .list 1 (W.map (rL 2 Piece.row)), .agg (Plan.row b), .list 1 (X.map rI), .V B] [] (fun x new => ∃ (Y : Value), x = .tup [.list 1 (r.1.map (rL 2 Piece.row)), .v Y, .V r.2.2] ∧ new = [.us Y 35 1 (r.2.1.map (rL 2 Piece.row))]) := by
 refine ACalls.of_body Tryz.func13 rfl rfl rfl (fun C hC => ?_)
 unfold L.zqig at h
 refine AW.seqG (fun y1 ae => (AW.region (AO.act [] I (AX.box (cs := Network.row a) (m := 6) I I I dS (fun g => (AO.act [] I (AX.box (cs := Plan.row b) (m := 3) I I I dS (fun i => (AO.q 3 I (AO.nil ?_))))))))))
 subst ae
 refine AW.seqG (fun y4 af => (AW.cutX (fun s ob => s = [(25, .v (.bool (decide (B < 0) || decide (B > 400))))] ∧ ob = [.arr g 32 6 1 [Network.row a], .arr i 46 3 1 [Plan.row b]]) [(1, _), (3, _), (4, _), (5, _), (7, _)] ⟨I, I, I, I, I, J⟩ ?_ ?_))
 refine AW.region (AO.q 3 I ?_)
 rcases bt (decide (B < 0)) with D | D
 refine AO.known 22 I D (AO.q 3 I (AO.nil ?_))
 exact lf ⟨I, I⟩ ⟨(get_b (by simp only [D, bz])), I, I, I, I, I, J⟩ [0, 1] I
 refine AO.known 22 I D (AO.q 3 I (AO.nil ?_))
 exact lf ⟨I, I⟩ ⟨(get_b (by simp only [D, bz])), I, I, I, I, I, J⟩ [0, 1] I
 rintro s ob ⟨rfl, rfl⟩
 refine AW.ch h I ?_ ?_
 intro ag h
 refine AW.z I (AW.ghost (Ghost.nilU 35 1) (AW.ghost (Ghost.freeze [] (K := []) I [(10, .list 1 ([].map (rL 2 Piece.row)))] ⟨⟨_, I, .nil _⟩, J⟩ (ob' := [.arr g 32 6 1 [Network.row a], .arr i 46 3 1 [Plan.row b], .us (.slice none 0 0) 35 1 ([].map (rL 2 Piece.row))]) (.rest _)) (AW.ghost (Ghost.pick [2] (K := [.us (.slice none 0 0) 35 1 ([].map (rL 2 Piece.row))]) I (by decide)) ?_)))
 obtain rfl := oi h
 rotate_left
 intro ag h
 refine AW.skip ?_
 subst af
 refine AW.seqG (fun y9 ah => (AW.seq ?_))
 obtain ⟨bp, ai, h⟩ := ob_some h
 refine AW.region (AO.r 4 [.o 0 0, .o 2 1] I ⟨I, I, J⟩ (AO.c (L.zkim_ok _ _ _ _ _ ai) (AO.q 1 I (AO.nil (AW.z I (AW.ch h I ?_ ?_))))))
 intro aj h
 refine AW.z I (AW.ghost (Ghost.nilU 35 1) (AW.ghost (Ghost.freeze [] (K := []) I [(10, .list 1 ([].map (rL 2 Piece.row)))] ⟨⟨_, I, .nil _⟩, J⟩ (ob' := [.arr g 32 6 1 [Network.row a], .arr i 46 3 1 [Plan.row b], .us (.slice none 0 0) 35 1 ([].map (rL 2 Piece.row))]) (.rest _)) (AW.ghost (Ghost.pick [2] (K := [.us (.slice none 0 0) 35 1 ([].map (rL 2 Piece.row))]) I (by decide)) ?_)))
 obtain rfl := oi h
 rotate_left
 intro aj h
 refine AW.skip ?_
 subst ah
 refine AW.seqG (fun bq ak => ?_)
 obtain ⟨br, al, h⟩ := ob_some h
 obtain ⟨Z, am, an, ao⟩ := mk_some al
 refine AW.region (AO.r 3 [.o 1 0, .l 2 (a.Ports.length : Int)] I ⟨len_m, I, J⟩ (AO.act [] I (AX.makeU (sz := 1) (es' := List.replicate Z [.N]) I I I I I I I I I I am an I dS (fun j => (AO.ghost (Ghost.toLists (f := Piece.row) 2 Z 2 ao I) (AO.q 1 I (AO.nil ?_)))))))
 subst ak
 refine AW.cutX (fun s ob => ∃ (E : (List (List Piece)) × (List (List Piece))), L.zqig.J1 E = some r ∧ s = [(1, .list 1 (E.1.map (rL 2 Piece.row)))] ∧ ob = [.us j 35 1 (E.2.map (rL 2 Piece.row))]) [(14, _)] ⟨I, J⟩ ?_ ?_
 refine AW.z I (AW.block ?_)
 obtain ⟨bs, aq, Q⟩ := ob_some h
 clear h
 refine AW.loopX aq [(3, _), (4, _), (5, _), (7, _), (14, _)] ⟨I, I, I, I, I, J⟩ (fun (e : (List (List Piece)) × (List (List Piece)) × Int) s ob => s = [(1, .list 1 (e.1.map (rL 2 Piece.row))), (15, .V e.2.2)] ∧ ob = [.arr g 32 6 1 [Network.row a], .arr i 46 3 1 [Plan.row b], .us j 35 1 (e.2.1.map (rL 2 Piece.row))]) ⟨I, I⟩ ⟨I, I, J⟩ ⟨[0, 1, 2], I, by decide⟩ ?_
 rintro e ar s ob ⟨rfl, rfl⟩ h R
 unfold L.zqig.B2 at h
 refine AW.seqG (fun bu au => (AW.z I (AW.ch h I ?_ ?_)))
 intro av h
 refine AW.skip ?_
 subst au
 refine AW.cutX (fun s ob => ∃ (t : (List (List Piece)) × (List (List Piece))) (G : Value), L.zqig.J3 e t = some ar ∧ s = [(1, .v G)] ∧ ob = [.arr g 32 6 1 [Network.row a], .arr i 46 3 1 [Plan.row b], .us j 35 1 (t.2.map (rL 2 Piece.row)), .us G 35 1 (t.1.map (rL 2 Piece.row))]) [(3, _), (4, _), (5, _), (7, _), (14, _), (15, _)] ⟨I, I, I, I, I, I, J⟩ ?_ ?_
 refine AW.block (AW.seqG (fun bv aw => ?_))
 obtain ⟨n, ax, h⟩ := ob_some h
 refine AW.region (AO.r 4 [.o 0 0, .o 2 1] I ⟨I, I, J⟩ (AO.act [] I (AX.call0 I I I (L.zthj_ok _ _ _ _ _ ax) dS ?_)))
 rintro _ _ ⟨w, F, rfl, rfl⟩
 refine AO.q 7 I (AO.nil ?_)
 subst aw
 refine AW.seqG (fun bw ay => (AW.z I (AW.ch h I ?_ ?_)))
 intro az h
 refine AW.z I ?_
 obtain rfl := R _ (oi h).symm
 replace h := Q
 replace h := se_l h
 refine AW.ghost (Ghost.nilU 35 1) (AW.ghost (Ghost.freeze [] (K := []) I [(10, .list 1 ([].map (rL 2 Piece.row)))] ⟨⟨_, I, .nil _⟩, J⟩ (ob' := [.arr g 32 6 1 [Network.row a], .arr i 46 3 1 [Plan.row b], .us j 35 1 (e.2.1.map (rL 2 Piece.row)), .us w 35 1 (n.1.map (rL 2 Piece.row)), .us F 35 1 (n.2.1.map (rL 2 Piece.row)), .us (.slice none 0 0) 35 1 ([].map (rL 2 Piece.row))]) (.rest _)) (AW.ghost (Ghost.pick [5] (K := [.us (.slice none 0 0) 35 1 ([].map (rL 2 Piece.row))]) I (by decide)) ?_))
 obtain rfl := oi h
 rotate_left
 intro az h
 refine AW.skip ?_
 subst ay
 refine AW.z I (AW.seqG (fun bx a0 => (AW.region (AO.q 1 I (AO.d (Yd.lenUM 2 I I I I) I (AO.q 1 I (AO.nil ?_)))))))
 subst a0
 refine AW.block (AW.usMax 2 I (fun S => ?_))
 replace S : e.2.1.length ≤ 9223372036854775806 := by rw [List.length_map] at S; omega
 obtain ⟨b0, a1, aa⟩ := ob_some h
 clear h
 refine AW.forIX a1 [(1, _), (3, _), (4, _), (5, _), (7, _), (14, _), (15, _), (17, _), (57, _)] ⟨I, I, I, I, I, I, I, I, I, J⟩ (fun (H : Nat) (u : List (List Piece)) s ob => s = [(58, .V (H : Int))] ∧ ob = [.arr g 32 6 1 [Network.row a], .arr i 46 3 1 [Plan.row b], .us j 35 1 (u.map (rL 2 Piece.row)), .us w 35 1 (n.1.map (rL 2 Piece.row)), .us F 35 1 (n.2.1.map (rL 2 Piece.row))]) ⟨I, I⟩ ⟨I, J⟩ ⟨[0, 1, 2, 3, 4], I, by decide⟩ ?_ ?_
 rintro H u b1 s ob a2 ⟨rfl, rfl⟩ h a3
 unfold L.zqig.B4 at h
 have a4 : decide ((H : Int) < (e.2.1.length : Int)) = true := decide_eq_true (by omega)
 refine AW.z I (AW.seqG (fun b4 a5 => (AW.condK (v := true) I a4 (AW.skip ?_))))
 subst a5
 refine AW.seq (AW.block (AW.z I (AW.seqG (fun b5 a6 => ?_))))
 obtain ⟨p, a7, h⟩ := ob_some h
 obtain ⟨ab, A⟩ := ix_some a7
 obtain ⟨b6, a8, h⟩ := ob_some h
 obtain ⟨M, a9, h⟩ := ob_some h
 obtain ⟨ba, U⟩ := ix_some a9
 obtain ⟨ac, bb, h⟩ := ob_some h
 obtain ⟨O, bc, h⟩ := ob_some h
 refine AW.form 2 p.1 I A (fun bd => (AW.form 4 M.1 I U (fun be => (AW.form 2 p.1 I A (fun bf => (AW.rd (.still 0 (.still 1 (.still 3 (.still 4 (.still 5 (.still 6 (.still 8 (.still 9 (.still 10 (.still 11 (.act 2 (.act 7 (.act 12 (.act 13 (.still 14 (.drop 15 .nil)))))))))))))))) [2, 4] [_, _] I (AP.q 4 I (AP.op I (Yp.indexUf (m := p.1) I I I I I bd I ab A) I (AP.o I (Yd.loadU 0 p.1 0 I I I (map_get A) I (y := .list 2 (p.2.map Piece.row)) I) I (AP.q 2 I (AP.op I (Yp.indexUf (m := M.1) I I I I I be I ba U) I (AP.o I (Yd.loadU 1 M.1 0 I I I (map_get U) I (y := .list 2 (M.2.map Piece.row)) I) I (AP.act [] I I I (AX.buildSlice (sz := 2) (es := ([] : List Piece).map Piece.row) I I I I I I I I I I I dS (fun b7 => (AP.act [5] I I I (AX.ap 5 I a8 (fun b8 => (AP.act [5] I I I (AX.ap 5 I bb (fun bg => ?_)))))))))))))))))))))
 refine AP.ghostS (Ghost.freeze [5] (K := [.us bg 66 2 (ac.map Piece.row)]) I [(73, .list 2 (ac.map Piece.row))] ⟨⟨_, I, .us 0 I⟩, J⟩ (ob' := [.arr g 32 6 1 [Network.row a], .arr i 46 3 1 [Plan.row b], .us j 35 1 (u.map (rL 2 Piece.row)), .us w 35 1 (n.1.map (rL 2 Piece.row)), .us F 35 1 (n.2.1.map (rL 2 Piece.row))]) (.rest _)) I (AP.act [] I I I (AX.call0 I I I (L.zuyb_ok _ _ bc) dS ?_))
 rintro _ _ ⟨bh, rfl, rfl⟩
 refine AP.op I (Yp.indexUf (m := p.1) I I I I I bf I ab A) I (AP.ghostS (Ghost.freeze [5] (K := [.us bh 66 2 (O.map Piece.row)]) I [(74, .list 2 (O.map Piece.row))] ⟨⟨_, I, .us 0 I⟩, J⟩ (ob' := [.arr g 32 6 1 [Network.row a], .arr i 46 3 1 [Plan.row b], .us j 35 1 (u.map (rL 2 Piece.row)), .us w 35 1 (n.1.map (rL 2 Piece.row)), .us F 35 1 (n.2.1.map (rL 2 Piece.row))]) (.rest _)) I (AP.drop [2] I I I (AX.storeU 2 p.1 0 I I I (map_get A) I I I I (le_ble I) I (us_set (x := O) I) (AP.ofAO (AO.nil ?_)))))
 subst a6
 refine AW.seq ?_
 obtain ⟨P, bi, h⟩ := ob_some h
 obtain ⟨bj, ad⟩ := ix_some bi
 refine AW.region (AO.q 2 I (AO.d (Yd.indexU 2 (m := P.1) I I I I I I I bj (map_get ad)) I (AO.d (Yd.loadU 2 P.1 0 I I I (map_get ad) I (y := .list 2 (P.2.map Piece.row)) I) I (AO.r 2 [.l 0 (P.2.length : Int)] I ⟨len_m, J⟩ (AO.nil (AW.ch h I ?_ ?_))))))
 intro bk h
 refine AW.z I ?_
 obtain rfl := a3 _ (oi h).symm
 replace h := aa
 replace h := se_r h
 obtain rfl := R _ (oi h).symm
 replace h := Q
 replace h := se_l h
 refine AW.ghost (Ghost.nilU 35 1) (AW.ghost (Ghost.freeze [] (K := []) I [(10, .list 1 ([].map (rL 2 Piece.row)))] ⟨⟨_, I, .nil _⟩, J⟩ (ob' := [.arr g 32 6 1 [Network.row a], .arr i 46 3 1 [Plan.row b], .us j 35 1 ((u.set p.1 O).map (rL 2 Piece.row)), .us w 35 1 (n.1.map (rL 2 Piece.row)), .us F 35 1 (n.2.1.map (rL 2 Piece.row)), .us (.slice none 0 0) 35 1 ([].map (rL 2 Piece.row))]) (.rest _)) (AW.ghost (Ghost.pick [5] (K := [.us (.slice none 0 0) 35 1 ([].map (rL 2 Piece.row))]) I (by decide)) ?_))
 obtain rfl := oi h
 any_goals
  exact AW.ret ⟨.inr I, [_, _, _], [.us (.slice none 0 0) 35 1 ([].map (rL 2 Piece.row))], ⟨I, I, I, J⟩, sl_c I (sl_n), ⟨(.slice none 0 0), I, I⟩⟩
 intro bk h
 refine AW.skip (AW.region (AO.r 2 [.k 0 (H + 1 : Nat)] I ⟨cast_wr a2 S, J⟩ ?_))
 obtain rfl := oi h
 refine AO.nil ?_
 exact ⟨_, _, _, I, ⟨I, I⟩, ⟨I, I, I, I, I, I, I, I, I, I, J⟩, [0, 1, 2, 3, 4], I, by decide⟩
 rintro u s ob ⟨rfl, rfl⟩ he
 subst he
 have h := se_l aa
 have bl : decide (((e.2.1.length : Nat) : Int) < (e.2.1.length : Int)) = false := by simp
 refine AW.z I (AW.seqG (fun b9 ca => (AW.condK (v := false) I bl (AW.exit ?_))))
 exact lg ⟨(n.1, u), w, h, I, I⟩ [0, 1, 2, 3]
 rintro s ob ⟨t, G, h, rfl, rfl⟩
 unfold L.zqig.J3 at h
 refine AW.region (AO.q 3 I (AO.ghost (Ghost.freeze [3] (K := [.us G 35 1 (t.1.map (rL 2 Piece.row))]) I [(1, .list 1 (t.1.map (rL 2 Piece.row)))] ⟨⟨_, I, .us 0 I⟩, J⟩ (ob' := [.arr g 32 6 1 [Network.row a], .arr i 46 3 1 [Plan.row b], .us j 35 1 (t.2.map (rL 2 Piece.row))]) (.rest _)) ?_))
 obtain rfl := oi h
 refine AO.nil ?_
 exact ⟨_, _, _, I, ⟨I, I⟩, ⟨I, I, I, I, I, I, I, J⟩, [0, 1, 2], I, by decide⟩
 intro av h
 obtain rfl := R _ (oi h).symm
 replace h := Q
 replace h := se_r h
 refine AW.exit ?_
 exact lg ⟨(e.1, e.2.1), h, I, I⟩ [2]
 rintro s ob ⟨E, h, rfl, rfl⟩
 unfold L.zqig.J1 at h
 refine AW.z I ?_
 obtain rfl := oi h
 exact AW.ret ⟨.inr I, [_, _, _], [.us j 35 1 (E.2.map (rL 2 Piece.row))], ⟨I, I, I, J⟩, sl_c I (sl_n), ⟨j, I, I⟩⟩
theorem L.zijd_ok (B : List Int) (a : Int) (e : Int) (r : Bool) (h : L.zijd B a e = some r) : ACalls Tryz.env 3 [.list 1 (B.map rI), .v (.int .u8 a), .v (.int .u8 e)] [] (fun x new => x = .v (.bool r) ∧ new = []) := by
 refine ACalls.of_body Tryz.func3 rfl rfl rfl (fun C hC => ?_)
 unfold L.zijd at h
 refine AW.z I (AW.seqG (fun y2 R => (AW.seq (AW.region (AO.q 1 I (AO.c (L.zqaf_ok B _ I) (AO.q 1 I (AO.nil (AW.ch h I ?_ ?_)))))))))
 intro S h
 refine AW.seq ?_
 obtain ⟨r4, U, h⟩ := ob_some h
 refine AW.region (AO.c (L.zuro_ok  _ U) (AO.q 1 I (AO.nil ?_)))
 obtain rfl := oi h
 exact AW.ret pr
 intro S h
 refine AW.skip ?_
 subst R
 refine AW.seqG (fun y6 W => ?_)
 obtain ⟨r7, X, h⟩ := ob_some h
 refine AW.region (AO.q 1 I (AO.act [] I (AX.call0 I I I (L.ziti_ok _ _ X) dS ?_)))
 rintro _ _ ⟨y, rfl, rfl⟩
 refine AO.q 1 I (AO.nil ?_)
 subst W
 refine AW.seqG (fun ba Y => ?_)
 obtain ⟨k, Z, h⟩ := ob_some h
 refine AW.region (AO.q 1 I (AO.act [0] I (AX.c0 [0] (L.ziuk_ok y _ _ _ _ Z) ?_)))
 refine AO.act [] I (AX.call0 I I I (L.zvce_ok k.1 _ I) dS ?_)
 rintro _ _ ⟨rfl, rfl⟩
 refine AO.act [] I (AX.alloc (cs := [.N, .N, .N, .N, .V 0, .V 0]) (m := 6) I I I I I dS (fun A => (AO.act [1] I (AX.store 1 0 0 (es' := [Network.row (L.zvce k.1)]) I I I I I I I I (le_ble I) I I (AO.nil ?_)))))
 subst Y
 refine AW.seqG (fun bb aa => ?_)
 obtain ⟨E, ab, h⟩ := ob_some h
 obtain ⟨ac, ad⟩ := ix_some ab
 obtain ⟨b, ae, h⟩ := ob_some h
 refine AW.region (AO.r 6 [.o 2 1, .x 3 E.1 (Segment.row E.2)] I ⟨⟨ac, map_get ad⟩, I, J⟩ (AO.act [0] I (AX.cg [0] (L.zdti_ok y _ _ _ _ ae) ?_)))
 rintro _ _ _ - ⟨af, rfl, rfl, rfl⟩
 refine AO.ghost (Ghost.freeze [2] (K := [.us af 66 2 (b.1.map Piece.row)]) I [(37, .list 2 (b.1.map Piece.row))] ⟨⟨_, I, .us 0 I⟩, J⟩ (ob' := [.arr y 86 2 1 [KS.row b.2], .arr A 32 6 1 [Network.row (L.zvce k.1)]]) (.rest _)) (AO.act [] I (AX.buildSlice (sz := 1) (es := ([b.1] : List (List Piece)).map (rL 2 Piece.row)) I I I I I I I I I I I dS (fun ag => (AO.q 1 I (AO.nil ?_)))))
 subst aa
 refine AW.seqG (fun bc ah => (AW.region (AO.q 1 I (AO.p (Yp.convI (c := wr (a)) I I I I I) I (AO.r 3 [.f 0 (.V ((wr (a)).tmod 20))] I ⟨Yp.yd (Yp.binI (c := ((wr (a)).tmod 20)) I I ⟨by decide, I⟩), J⟩ (AO.p (Yp.convI (c := wr (e)) I I I I I) I (AO.r 3 [.f 0 (.V ((wr (e)).tmod 20))] I ⟨Yp.yd (Yp.binI (c := ((wr (e)).tmod 20)) I I ⟨by decide, I⟩), J⟩ (AO.nil ?_))))))))
 subst ah
 refine AW.seqG (fun bd ai => ?_)
 obtain ⟨aj, ak, h⟩ := ob_some h
 refine AW.region (AO.r 3 [.o 0 1] I ⟨I, J⟩ (AO.act [] I (AX.buildSlice (sz := 1) (es := ([wr (1 + ((wr (a)).tmod 20))] : List Int).map rI) I I I I I I I I I I I dS (fun F => (AO.q 3 I (AO.act [] I (AX.buildSlice (sz := 1) (es := ([wr (1 + ((wr (a)).tmod 20)), wr (0 - (wr (1 + ((wr (a)).tmod 20))))] : List Int).map rI) I I I I I I I I I I I dS (fun G => (AO.one 3 I (fun al => (AO.one 4 I (fun am => (AO.p (Yp.buildP (l := [.v F, .v G, .N]) Tryz.bld46 (fill_step I I (cells_v al) I (fill_step I I (cells_v am) I (fill_nil)))) I (AO.act [] I (AX.lt 1 (([9, 0] : List Int).map rI) (AO.q 1 I (AO.ghost (Ghost.freeze [2, 3, 4] (K := [.us ag 35 1 (([b.1] : List (List Piece)).map (rL 2 Piece.row)), .us F 3 1 (([wr (1 + ((wr (a)).tmod 20))] : List Int).map rI), .us G 3 1 (([wr (1 + ((wr (a)).tmod 20)), wr (0 - (wr (1 + ((wr (a)).tmod 20))))] : List Int).map rI)]) I [(38, .list 1 (([b.1] : List (List Piece)).map (rL 2 Piece.row))), (9, .list 1 (([b.1] : List (List Piece)).map (rL 2 Piece.row))), (48, .list 1 (([b.1] : List (List Piece)).map (rL 2 Piece.row))), (50, .list 1 (([wr (1 + ((wr (a)).tmod 20))] : List Int).map rI)), (54, .list 1 (([wr (1 + ((wr (a)).tmod 20)), wr (0 - (wr (1 + ((wr (a)).tmod 20))))] : List Int).map rI)), (55, .agg [.list 1 (([wr (1 + ((wr (a)).tmod 20))] : List Int).map rI), .list 1 (([wr (1 + ((wr (a)).tmod 20)), wr (0 - (wr (1 + ((wr (a)).tmod 20))))] : List Int).map rI), .list 1 ([].map rB)])] ⟨⟨_, I, .us 0 I⟩, ⟨_, I, .us 0 I⟩, ⟨_, I, .us 0 I⟩, ⟨_, I, .us 1 I⟩, ⟨_, I, .us 2 I⟩, ⟨_, I, .agg (.cons (.us 1 I) (.cons (.us 2 I) (.cons (.nil _) (.rest _))))⟩, J⟩ (ob' := [.arr y 86 2 1 [KS.row b.2], .arr A 32 6 1 [Network.row (L.zvce k.1)]]) (.rest _)) ?_)))))))))))))))))
 refine AO.act [] I (AX.call0 I I I (L.zqig_ok _ _ _ _ _ _ ak) dS ?_)
 rintro _ _ ⟨be, rfl, rfl⟩
 refine AO.q 7 I (AO.nil ?_)
 subst ai
 refine AW.seqG (fun bf an => (AW.z I (AW.ch h I ?_ ?_)))
 intro ao h
 refine AW.z I (AW.ghost g0 ?_)
 obtain rfl := oi h
 exact AW.ret pr
 intro ao h
 refine AW.skip ?_
 subst an
 refine AW.cutX (fun s ob => ∃ (H : Unit), L.zijd.J1 aj H = some r ∧ s = [] ∧ ob = []) [(12, _)] ⟨I, J⟩ ?_ ?_
 refine AW.z I (AW.block ?_)
 obtain ⟨bg, ap, M⟩ := ob_some h
 clear h
 refine AW.loopX ap [(8, _), (9, _), (10, _), (11, _), (12, _)] ⟨I, I, I, I, I, J⟩ (fun (O : Int) s ob => s = [(15, .V O)] ∧ ob = [.arr A 32 6 1 [Network.row (L.zvce k.1)]]) ⟨I, I⟩ ⟨I, J⟩ ⟨[1], I, by decide⟩ ?_
 rintro O bh s ob ⟨rfl, rfl⟩ h P
 unfold L.zijd.B3 at h
 refine AW.seqG (fun bi aq => (AW.z I (AW.ch h I ?_ ?_)))
 intro ar h
 refine AW.skip ?_
 subst aq
 refine AW.seq (AW.block (AW.seqG (fun bj au => ?_)))
 obtain ⟨i, av, h⟩ := ob_some h
 refine AW.region (AO.r 2 [.o 0 0] I ⟨I, J⟩ (AO.p (Yp.buildP (l := [.V 0, .v (.bool false)]) Tryz.bld50 I) I (AO.act [] I (AX.lt 2 (([(⟨0, false⟩ : Hop)] : List Hop).map Hop.row) (AO.q 1 I (AO.c (L.zeyd_ok _ _ _ _ _ av) (AO.q 7 I (AO.nil ?_))))))))
 subst au
 refine AW.seqG (fun bk aw => ?_)
 obtain ⟨t, ax, h⟩ := ob_some h
 refine AW.region (AO.r 2 [.o 0 0] I ⟨I, J⟩ (AO.p (Yp.buildP (l := [.V 0, .v (.bool false)]) Tryz.bld50 I) I (AO.act [] I (AX.lt 2 (([(⟨0, false⟩ : Hop)] : List Hop).map Hop.row) (AO.q 1 I (AO.c (L.zeyd_ok _ _ _ _ _ ax) (AO.q 7 I (AO.nil ?_))))))))
 subst aw
 refine AW.cutX (fun s ob => s = [(116, .v (.bool ((i.2.2 != 0) || ((t.2.2 != 0) || (i.2.1 && (decide (i.1 ≥ (wr ((wr (1 + ((wr (a)).tmod 20))) * ((wr (e)).tmod 20)))) && ((!t.2.1) || (t.1 != (wr (i.1 - (wr ((wr (1 + ((wr (a)).tmod 20))) * ((wr (e)).tmod 20)))))))))))))] ∧ ob = [.arr A 32 6 1 [Network.row (L.zvce k.1)]]) [(8, _), (9, _), (10, _), (11, _), (12, _), (15, _)] ⟨I, I, I, I, I, I, J⟩ ?_ ?_
 refine AW.region (AO.q 3 I ?_)
 rcases bt ((i.2.2 != 0)) with d | d
 refine AO.known 90 I d (AO.q 6 I (AO.skipU I I dS (AO.skipU I I dS (AO.skipU I I dS (AO.skipU I I dS (AO.skipU I I dS (AO.q 2 I (AO.skipU I I dS (AO.skipU I I dS (AO.skipU I I dS (AO.skipU I I dS (AO.skipU I I dS ?_))))))))))))
 refine AO.skipU I I dS (AO.skipU I I dS (AO.skipU I I dS (AO.skipU I I dS (AO.skipU I I dS (AO.skipU I I dS (AO.q 2 I (AO.nil ?_)))))))
 exact lf ⟨I, I⟩ ⟨(get_b (by simp only [d, bz])), I, I, I, I, I, I, J⟩ [0] I
 refine AO.known 90 I d (AO.q 4 I ?_)
 rcases bt ((t.2.2 != 0)) with g | g
 refine AO.known 94 I g (AO.q 2 I (AO.skipU I I dS (AO.skipU I I dS (AO.skipU I I dS (AO.skipU I I dS (AO.skipU I I dS (AO.q 2 I (AO.skipU I I dS (AO.skipU I I dS (AO.skipU I I dS (AO.skipU I I dS (AO.skipU I I dS ?_))))))))))))
 refine AO.skipU I I dS (AO.skipU I I dS (AO.skipU I I dS (AO.skipU I I dS (AO.skipU I I dS (AO.skipU I I dS (AO.q 2 I (AO.nil ?_)))))))
 exact lf ⟨I, I⟩ ⟨(get_b (by simp only [d, g, bz])), I, I, I, I, I, I, J⟩ [0] I
 refine AO.known 94 I g (AO.q 2 I ?_)
 rcases bt (i.2.1) with j | j
 refine AO.known 96 I j (AO.q 7 I ?_)
 rcases bt (decide (i.1 ≥ (wr ((wr (1 + ((wr (a)).tmod 20))) * ((wr (e)).tmod 20))))) with n | n
 refine AO.known 103 I n (AO.q 3 I ?_)
 rcases bt ((!t.2.1)) with u | u
 refine AO.known 106 I u (AO.q 10 I (AO.nil ?_))
 exact lf ⟨I, I⟩ ⟨(get_b (by simp only [d, g, j, n, u, bz])), I, I, I, I, I, I, J⟩ [0] I
 refine AO.known 106 I u (AO.q 10 I (AO.nil ?_))
 exact lf ⟨I, I⟩ ⟨(get_b (by simp only [d, g, j, n, u, bz])), I, I, I, I, I, I, J⟩ [0] I
 refine AO.known 103 I n (AO.q 3 I (AO.skipU I I dS (AO.skipU I I dS (AO.skipU I I dS (AO.skipU I I dS (AO.skipU I I dS (AO.skipU I I dS (AO.skipU I I dS (AO.q 3 I (AO.nil ?_))))))))))
 exact lf ⟨I, I⟩ ⟨(get_b (by simp only [d, g, j, n, bz])), I, I, I, I, I, I, J⟩ [0] I
 refine AO.known 96 I j (AO.q 10 I (AO.skipU I I dS (AO.skipU I I dS (AO.skipU I I dS (AO.skipU I I dS (AO.skipU I I dS (AO.skipU I I dS (AO.skipU I I dS (AO.q 3 I (AO.nil ?_))))))))))
 exact lf ⟨I, I⟩ ⟨(get_b (by simp only [d, g, j, bz])), I, I, I, I, I, I, J⟩ [0] I
 rintro s ob ⟨rfl, rfl⟩
 refine AW.ch h I ?_ ?_
 intro ay h
 refine AW.z I ?_
 obtain rfl := P _ (oi h).symm
 replace h := M
 replace h := se_l h
 refine AW.ghost g0 ?_
 obtain rfl := oi h
 exact AW.ret pr
 intro ay h
 refine AW.skip (AW.region (AO.q 3 I ?_))
 obtain rfl := oi h
 refine AO.nil ?_
 exact ⟨_, _, _, I, ⟨I, I⟩, ⟨I, I, I, I, I, I, J⟩, [0], I, by decide⟩
 intro ar h
 obtain rfl := P _ (oi h).symm
 replace h := M
 replace h := se_r h
 refine AW.exit ?_
 exact lg ⟨(), h, I, I⟩ []
 rintro s ob ⟨H, h, rfl, rfl⟩
 unfold L.zijd.J1 at h
 refine AW.cutX (fun s ob => ∃ (D : Bool), L.zijd.J2 D = some r ∧ s = [(6, .v (.bool D))] ∧ ob = []) [] J ?_ ?_
 obtain ⟨Q, az, h⟩ := ob_some h
 obtain ⟨a0, a1⟩ := ix_some az
 obtain ⟨a2, a3, h⟩ := ob_some h
 refine AW.region (AO.r 3 [.x 1 Q.1 ((rL 2 Piece.row) Q.2)] I ⟨⟨a0, map_get a1⟩, J⟩ (AO.c (L.zmux_ok _ _ a3) (AO.q 1 I ?_)))
 rcases bt (a2) with w | w
 replace h := ife_t w h
 obtain ⟨a4, a5, h⟩ := ob_some h
 refine AO.known 121 I w (AO.gt I I I (AO.c (L.zuro_ok  _ a5) (AO.q 2 I (AO.nil ?_))))
 exact lg ⟨a4, h, I, I⟩ []
 replace h := ife_f w h
 refine AO.known 121 I w (AO.q 3 I (AO.nil ?_))
 exact lg ⟨false, h, I, I⟩ []
 rintro s ob ⟨D, h, rfl, rfl⟩
 unfold L.zijd.J2 at h
 obtain rfl := oi h
 exact AW.ret pr
end Go.Proofs.YtaliejncdnegeaaGreat
