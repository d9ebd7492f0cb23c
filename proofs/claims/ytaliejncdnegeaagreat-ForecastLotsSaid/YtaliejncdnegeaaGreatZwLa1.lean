/- Walks that show what functions of the program compute; printed by a program of ours. No condition. -/
import Derived.Test.YtaliejncdnegeaaGreatZwL2
import Derived.Test.YtaliejncdnegeaaGreatZwD
set_option maxRecDepth 100000
namespace Go.Proofs.YtaliejncdnegeaaGreat
open Go.Aw
set_option linter.unusedVariables false
set_option linter.unusedSimpArgs false
set_option maxHeartbeats 4000000
theorem L.zxpl_ok (b : Nat) (a : KS) (r : Int × KS) (h : L.zxpl a = some r) : ACalls Tryz.env 52 [.v (.pointer (some ⟨b, 0, none⟩))] [.arr b 86 2 1 [KS.row a]] (Gives 1 (fun x os new => x = .V r.1 ∧ os = [.arr b 86 2 1 [KS.row r.2]] ∧ new = [])) := by
 refine ACalls.of_body Tryz.func52 rfl rfl rfl (fun C hC => ?_)
 unfold L.zxpl at h
 refine AW.z I (AW.seqG (fun k d => (AW.dz (pd 10 0 []) [0] [_] [.o 3 0, .o 7 0, .l 8 (a.L_.length : Int)] I I ⟨len_m, I, I, J⟩ (AW.ch h I ?_ ?_))))
 intro e h
 refine AW.z I ?_
 obtain rfl := oi h
 exact AW.ret ⟨.inr I, [_], [.arr b 86 2 1 [KS.row a]], ⟨I, J⟩, sl_c I (sl_n), ⟨[.arr b 86 2 1 [KS.row a]], [], I, I, I, I, I⟩⟩
 intro e h
 refine AW.skip ?_
 subst d
 refine AW.seqG (fun m f => (AW.region (AO.r 7 [.o 3 0] I ⟨I, J⟩ (AO.act [0] I (AX.store 0 0 1 (es' := [[.list 1 (a.L_.map rI), .V (wr (a.At + 1))]]) I I I I I I I I (le_ble I) I I (AO.nil ?_))))))
 subst f
 refine AW.seq ?_
 obtain ⟨c, g, h⟩ := ob_some h
 obtain ⟨i, j⟩ := ix_some g
 refine AW.dt (pd 12 0 []) [0] [_] [.o 3 0, .o 7 0, .x 9 c.1 (rI c.2)] I I ⟨⟨i, map_get j⟩, I, I, J⟩ ?_
 obtain rfl := oi h
 exact AW.ret ⟨.inr I, [_], [.arr b 86 2 1 [[.list 1 (a.L_.map rI), .V (wr (a.At + 1))]]], ⟨I, J⟩, sl_c I (sl_n), ⟨[.arr b 86 2 1 [[.list 1 (a.L_.map rI), .V (wr (a.At + 1))]]], [], I, I, I, I, I⟩⟩
theorem L.zdjb_ok (a : Nat) (b : KS) (d : Int) (r : Int × KS) (h : L.zdjb b d = some r) : ACalls Tryz.env 20 [.v (.pointer (some ⟨a, 0, none⟩)), .V d] [.arr a 86 2 1 [KS.row b]] (Gives 1 (fun x os new => x = .V r.1 ∧ os = [.arr a 86 2 1 [KS.row r.2]] ∧ new = [])) := by
 refine ACalls.of_body Tryz.func20 rfl rfl rfl (fun C hC => ?_)
 unfold L.zdjb at h
 refine AW.z I (AW.seq ?_)
 obtain ⟨e, f, h⟩ := ob_some h
 obtain ⟨i, g, h⟩ := ob_some h
 refine AW.region (AO.q 1 I (AO.act [0] I (AX.c0 [0] (L.zxpl_ok a _ _ f) ?_)))
 refine AO.q 1 I (AO.c (L.zbjp_ok _ _ _ g) (AO.q 1 I (AO.nil ?_)))
 obtain rfl := oi h
 exact AW.ret ⟨.inr I, [_], [.arr a 86 2 1 [KS.row e.2]], ⟨I, J⟩, sl_c I (sl_n), ⟨[.arr a 86 2 1 [KS.row e.2]], [], I, I, I, I, I⟩⟩
theorem L.ziuk_ok (a : Nat) (b : KS) (c : Int) (d : Int) (r : Int × KS) (h : L.ziuk b c d = some r) : ACalls Tryz.env 11 [.v (.pointer (some ⟨a, 0, none⟩)), .V c, .V d] [.arr a 86 2 1 [KS.row b]] (Gives 1 (fun x os new => x = .V r.1 ∧ os = [.arr a 86 2 1 [KS.row r.2]] ∧ new = [])) := by
 refine ACalls.of_body Tryz.func11 rfl rfl rfl (fun C hC => ?_)
 unfold L.ziuk at h
 refine AW.z I (AW.seq ?_)
 obtain ⟨e, f, h⟩ := ob_some h
 refine AW.region (AO.q 6 I (AO.act [0] I (AX.c0 [0] (L.zdjb_ok a _ _ _ f) ?_)))
 refine AO.q 2 I (AO.nil ?_)
 obtain rfl := oi h
 exact AW.ret ⟨.inr I, [_], [.arr a 86 2 1 [KS.row e.2]], ⟨I, J⟩, sl_c I (sl_n), ⟨[.arr a 86 2 1 [KS.row e.2]], [], I, I, I, I, I⟩⟩
theorem L.zdti_ok (b : Nat) (O : KS) (P : Int) (D : Int) (r : (List Piece) × KS) (h : L.zdti O P D = some r) : ACalls Tryz.env 12 [.v (.pointer (some ⟨b, 0, none⟩)), .V P, .V D] [.arr b 86 2 1 [KS.row O]] (Gives 1 (fun x os new => ∃ (Q : Value), x = .v Q ∧ os = [.arr b 86 2 1 [KS.row r.2]] ∧ new = [.us Q 66 2 (r.1.map Piece.row)])) := by
 refine ACalls.of_body Tryz.func12 rfl rfl rfl (fun C hC => ?_)
 unfold L.zdti at h
 refine AW.z I (AW.z I (AW.cutX (fun s ob => ∃ (g : (List Int) × Int × (List Piece)) (u : Value), L.zdti.J1 g = some r ∧ s = [(7, .v u)] ∧ ob = [.arr b 86 2 1 [[.list 1 (g.1.map rI), .V g.2.1]], .us u 66 2 (g.2.2.map Piece.row)]) [] J ?_ ?_))
 refine AW.block (AW.ghost (Ghost.nilU 66 2) ?_)
 obtain ⟨az, R, S⟩ := ob_some h
 clear h
 refine AW.loopX R [(0, _), (2, _)] ⟨I, I, J⟩ (fun (a : (List Int) × Int × Int × (List Piece)) s ob => ∃ (k : Value), s = [(1, .V a.2.2.1), (7, .v k)] ∧ ob = [.arr b 86 2 1 [[.list 1 (a.1.map rI), .V a.2.1]], .us k 66 2 (a.2.2.2.map Piece.row)]) ⟨(.slice none 0 0), I, I⟩ ⟨I, I, J⟩ ⟨[0, 1], I, by decide⟩ ?_
 rintro a G s ob ⟨k, rfl, rfl⟩ h U
 unfold L.zdti.B2 at h
 refine AW.seqG (fun a0 W => (AW.cutX (fun s ob => s = [(15, .v (.bool (decide (a.2.2.1 > 0) && decide ((a.2.2.2.length : Int) < 12))))] ∧ ob = [.arr b 86 2 1 [[.list 1 (a.1.map rI), .V a.2.1]], .us k 66 2 (a.2.2.2.map Piece.row)]) [(0, _), (1, _), (2, _), (7, _)] ⟨I, I, I, I, J⟩ ?_ ?_))
 refine AW.region (AO.q 3 I ?_)
 rcases bt (decide (a.2.2.1 > 0)) with w | w
 refine AO.known 11 I w (AO.q 1 I (AO.gt I I I (AO.d (Yd.lenUM 1 I I I I) I (AO.q 2 I (AO.nil ?_)))))
 exact lf ⟨I, I⟩ ⟨(get_b (by simp only [w, bz])), I, I, I, I, J⟩ [0, 1] I
 refine AO.known 11 I w (AO.q 4 I (AO.nil ?_))
 exact lf ⟨I, I⟩ ⟨(get_b (by simp only [w, bz])), I, I, I, I, J⟩ [0, 1] I
 rintro s ob ⟨rfl, rfl⟩
 refine AW.ch h I ?_ ?_
 intro X h
 refine AW.skip ?_
 subst W
 refine AW.block (AW.seqG (fun a1 Y => ?_))
 obtain ⟨j, Z, h⟩ := ob_some h
 obtain ⟨n, aa, h⟩ := ob_some h
 refine AW.region (AO.q 2 I (AO.act [0] I (AX.c0 [0] (L.zdjb_ok b _ _ _ Z) ?_)))
 refine AO.r 5 [.f 3 (.V (wr ((wr (a.2.2.1 * 2)).tdiv 3)))] I ⟨Yp.yd (Yp.binI (c := wr ((wr (a.2.2.1 * 2)).tdiv 3)) I I ⟨by decide, I⟩), J⟩ (AO.act [0] I (AX.c0 [0] (L.ziuk_ok b _ _ _ _ aa) ?_))
 refine AO.p (Yp.buildP (l := [.V j.1, .V n.1]) Tryz.bld66 I) I (AO.act [] I (AX.alloc (cs := [.V 0, .V 0]) (m := 2) I I I I I dS (fun H => (AO.act [2] I (AX.store 2 0 0 (es' := [[.V j.1, .V n.1]]) I I I I I I I I (le_ble I) I I (AO.nil ?_))))))
 subst Y
 refine AW.cutX (fun s ob => ∃ (i : Int), L.zdti.J3 D a j n i = some G ∧ s = [] ∧ ob = [.arr b 86 2 1 [KS.row n.2], .us k 66 2 (a.2.2.2.map Piece.row), .arr H 66 2 1 [[.V j.1, .V i]]]) [(0, _), (1, _), (2, _), (7, _), (8, _)] ⟨I, I, I, I, I, J⟩ ?_ ?_
 refine AW.seq (AW.region (AO.q 1 I (AO.d (Yd.lenUM 1 I I I I) I (AO.q 1 I (AO.nil (AW.ch h I ?_ ?_))))))
 intro ab h
 refine AW.region (AO.q 2 I (AO.act [2] I (AX.store 2 0 1 (es' := [[.V j.1, .V a.2.2.1]]) I I I I I I I I (le_ble I) I I (AO.nil ?_))))
 exact lg ⟨a.2.2.1, h, I, I⟩ [0, 1, 2]
 intro ab h
 refine AW.skip ?_
 exact lg ⟨n.1, h, I, I⟩ [0, 1, 2]
 rintro s ob ⟨i, h, rfl, rfl⟩
 unfold L.zdti.J3 at h
 refine AW.seqG (fun a2 ac => (AW.region (AO.r 5 [.o 1 2] I ⟨I, J⟩ (AO.act [2] I (AX.store 2 0 1 (es' := [[.V j.1, .V (min i a.2.2.1)]]) I I I I I I I I (le_ble I) I I (AO.nil ?_))))))
 subst ac
 refine AW.cutX (fun s ob => ∃ (E : Int), L.zdti.J4 a n i E = some G ∧ s = [(1, .V a.2.2.1)] ∧ ob = [.arr b 86 2 1 [KS.row n.2], .us k 66 2 (a.2.2.2.map Piece.row), .arr H 66 2 1 [[.V E, .V (min i a.2.2.1)]]]) [(0, _), (2, _), (7, _), (8, _)] ⟨I, I, I, I, J⟩ ?_ ?_
 refine AW.cutX (fun s ob => ∃ (K : Bool), L.zdti.J5 D a j n i K = some G ∧ s = [(50, .v (.bool K))] ∧ ob = [.arr b 86 2 1 [KS.row n.2], .us k 66 2 (a.2.2.2.map Piece.row), .arr H 66 2 1 [[.V j.1, .V (min i a.2.2.1)]]]) [(0, _), (1, _), (2, _), (7, _), (8, _)] ⟨I, I, I, I, I, J⟩ ?_ ?_
 rcases bt (decide ((a.2.2.2.length : Int) > 0)) with A | A
 replace h := ife_t A h
 obtain ⟨B, ad, h⟩ := ob_some h
 obtain ⟨ae, M⟩ := ix_some ad
 refine AW.formL 1 I (fun af => (AW.formL 1 I (fun ag => (AW.form 1 B.1 I M (fun ah => (AW.rd (pd 15 0 []) [1, 2] [_, _] I (AP.q 1 I (AP.op I (Yp.lenUf I I I af) I (AP.q 2 I (AP.known 39 I A (AP.q 2 I (AP.oldG I I I I ((Yp.lenUf I I I ag).yd) dS (AP.q 1 I (AP.oldG I I I I ((Yp.indexUf (m := B.1) I I I I I ah I ae M).yd) dS (AP.q 1 I ?_)))))))))))))))
 refine AP.oldG I I I I (Yd.loadU 0 B.1 0 I I I (map_get M) I (y := .V B.2.Batch) I) dS (AP.r 4 [.o 1 1] I ⟨I, J⟩ (AP.ofAO (AO.nil ?_)))
 exact lg ⟨(B.2.Batch == j.1), h, I, I⟩ [0, 1, 2]
 replace h := ife_f A h
 refine AW.formL 1 I (fun ai => (AW.rd (pd 15 0 []) [] [] I (AP.q 1 I (AP.op I (Yp.lenUf I I I ai) I (AP.q 2 I (AP.known 39 I A (AP.q 11 I (AP.ofAO (AO.nil ?_)))))))))
 exact lg ⟨false, h, I, I⟩ [0, 1, 2]
 rintro s ob ⟨K, h, rfl, rfl⟩
 unfold L.zdti.J5 at h
 refine AW.ch h I ?_ ?_
 intro aj h
 refine AW.seqG (fun a3 ak => ?_)
 obtain ⟨F, al, h⟩ := ob_some h
 refine AW.region (AO.r 6 [.o 1 2, .f 4 (.V F)] I ⟨Yp.yd (Yp.binI (c := F) I I (rem_some al)), I, J⟩ (AO.act [2] I (AX.store 2 0 0 (es' := [[.V F, .V (min i a.2.2.1)]]) I I I I I I I I (le_ble I) I I (AO.nil ?_))))
 subst ak
 refine AW.seqG (fun a4 am => ?_)
 obtain ⟨e, an, h⟩ := ob_some h
 obtain ⟨N, t⟩ := ix_some an
 refine AW.formL 1 I (fun ao => (AW.form 1 e.1 I t (fun aq => (AW.rd (pd 10 0 []) [1, 2] [_, _] I (AP.q 2 I (AP.op I (Yp.lenUf I I I ao) I (AP.q 1 I (AP.op I (Yp.indexUf (m := e.1) I I I I I aq I N t) I (AP.q 1 I (AP.o I (Yd.loadU 0 e.1 0 I I I (map_get t) I (y := .V e.2.Batch) I) I (AP.r 3 [.o 1 1] I ⟨I, J⟩ (AP.ofAO (AO.nil ?_)))))))))))))
 subst am
 refine AW.ch h I ?_ ?_
 intro ar h
 refine AW.seq (AW.formL 1 I (fun au => (AW.form 1 e.1 I t (fun av => (AW.form 1 e.1 I t (fun aw => (AW.rd (.still 0 (.still 1 (.still 2 (.still 3 (.still 4 (.still 5 (.still 6 (.still 7 (.still 8 (.still 9 (.still 10 (.still 11 (.drop 12 .nil))))))))))))) [1, 2] [_, _] I (AP.q 2 I (AP.op I (Yp.lenUf I I I au) I (AP.q 1 I (AP.op I (Yp.indexUf (m := e.1) I I I I I av I N t) I (AP.q 1 I (AP.o I (Yd.loadU 0 e.1 1 I I I (map_get t) I (y := .V e.2.Volume) I) I (AP.r 3 [.o 1 1] I ⟨I, J⟩ (AP.op I (Yp.indexUf (m := e.1) I I I I I aw I N t) I ?_)))))))))))))))
 refine AP.q 1 I (AP.drop [1] I I I (AX.storeU 1 e.1 1 I I I (map_get t) I I I I (le_ble I) I (us_set (x := (⟨e.2.Batch, wr (e.2.Volume + (min i a.2.2.1))⟩ : Piece)) I) (AP.ofAO (AO.nil (AW.zr [.o 2 2] I ⟨I, J⟩ ?_)))))
 obtain rfl := oi h
 refine AW.exit ?_
 exact ⟨_, _, _, I, ⟨k, I, I⟩, ⟨I, I, I, I, J⟩, [0, 1], I, by decide⟩
 intro ar h
 refine AW.skip ?_
 exact lg ⟨F, h, I, I⟩ [0, 1, 2]
 intro aj h
 refine AW.skip ?_
 exact lg ⟨j.1, h, I, I⟩ [0, 1, 2]
 rintro s ob ⟨E, h, rfl, rfl⟩
 unfold L.zdti.J4 at h
 refine AW.zr [.o 2 2] I ⟨I, J⟩ ?_
 obtain ⟨a5, ax, h⟩ := ob_some h
 refine AW.region (AO.r 2 [.o 1 2] I ⟨I, J⟩ (AO.act [] I (AX.lt 2 (([(⟨E, (min i a.2.2.1)⟩ : Piece)] : List Piece).map Piece.row) (AO.act [1] I (AX.ap 1 I ax (fun ay => (AO.q 1 I ?_)))))))
 obtain rfl := oi h
 refine AO.nil ?_
 exact ⟨_, _, _, I, ⟨ay, I, I⟩, ⟨I, I, I, I, J⟩, [0, 1], I, by decide⟩
 intro X h
 obtain rfl := U _ (oi h).symm
 replace h := S
 refine AW.exit ?_
 exact lg ⟨(a.1, a.2.1, a.2.2.2), k, h, I, I⟩ [0, 1]
 rintro s ob ⟨g, u, h, rfl, rfl⟩
 unfold L.zdti.J1 at h
 refine AW.z I ?_
 obtain rfl := oi h
 exact AW.ret ⟨.inr I, [_], [.arr b 86 2 1 [[.list 1 (g.1.map rI), .V g.2.1]], .us u 66 2 (g.2.2.map Piece.row)], ⟨I, J⟩, sl_c I (sl_c I (sl_n)), ⟨[.arr b 86 2 1 [[.list 1 (g.1.map rI), .V g.2.1]]], [.us u 66 2 (g.2.2.map Piece.row)], I, I, u, I, I, I⟩⟩
theorem L.zyyp_ok (a : Network) (b : Plan) (r : (List Int) × Int) (h : L.zyyp a b = some r) : ACalls Tryz.env 117 [.agg (Network.row a), .agg (Plan.row b)] [] (fun x new => ∃ (e : Value), x = .tup [.v e, .V r.2] ∧ new = [.us e 3 1 (r.1.map rI)]) := by
 refine ACalls.of_body Tryz.func117 rfl rfl rfl (fun C hC => ?_)
 unfold L.zyyp at h
 refine AW.seqG (fun l g => (AW.region (AO.act [] I (AX.box (cs := Network.row a) (m := 6) I I I dS (fun n => (AO.act [] I (AX.box (cs := Plan.row b) (m := 3) I I I dS (fun p => (AO.q 2 I (AO.nil ?_))))))))))
 subst g
 refine AW.seq (AW.seq ?_)
 obtain ⟨s, i, h⟩ := ob_some h
 refine AW.region (AO.r 2 [.o 0 0, .o 1 1] I ⟨I, I, J⟩ (AO.c (L.zmqu_ok _ _ _ i) (AO.q 1 I (AO.nil (AW.z I (AW.ch h I ?_ ?_))))))
 intro j h
 refine AW.z I (AW.ghost (Ghost.nilU 3 1) (AW.ghost (Ghost.pick [2] (K := [.us (.slice none 0 0) 3 1 ([].map rI)]) I (by decide)) ?_))
 obtain rfl := oi h
 exact AW.ret ⟨.inr I, [_, _], [.us (.slice none 0 0) 3 1 ([].map rI)], ⟨I, I, J⟩, sl_c I (sl_n), ⟨(.slice none 0 0), I, I⟩⟩
 intro j h
 refine AW.skip (AW.seq ?_)
 obtain ⟨f, k, h⟩ := ob_some h
 refine AW.region (AO.r 2 [.o 0 0, .o 1 1] I ⟨I, I, J⟩ (AO.act [] I (AX.call0 I I I (L.zsgw_ok _ _ _ k) dS ?_)))
 rintro _ _ ⟨d, rfl, rfl⟩
 refine AO.q 2 I (AO.nil (AW.ghost (Ghost.pick [2] (K := [.us d 3 1 (f.map rI)]) I (by decide)) ?_))
 obtain rfl := oi h
 exact AW.ret ⟨.inr I, [_, _], [.us d 3 1 (f.map rI)], ⟨I, I, J⟩, sl_c I (sl_n), ⟨d, I, I⟩⟩
theorem L.zojo_ok (a : Piece) (r : Bool) (h : L.zojo a = r) : ACalls Tryz.env 96 [.agg (Piece.row a)] [] (fun x new => x = .v (.bool r) ∧ new = []) := by
 refine ACalls.of_body Tryz.func96 rfl rfl rfl (fun C hC => ?_)
 unfold L.zojo at h
 refine AW.seqG (fun f e => (AW.region (AO.act [] I (AX.box (cs := Piece.row a) (m := 2) I I I dS (fun g => (AO.q 1 I (AO.nil ?_)))))))
 subst e
 refine AW.cutX (fun s ob => s = [(2, .v (.bool (decide (a.Batch ≥ 0) && (decide (a.Batch < 1000) && (decide (a.Volume ≥ 0) && decide (a.Volume ≤ 1000000))))))] ∧ ob = []) [] J ?_ ?_
 refine AW.region (AO.r 4 [.o 1 0] I ⟨I, J⟩ ?_)
 rcases bt (decide (a.Batch ≥ 0)) with b | b
 refine AO.known 6 I b (AO.r 5 [.o 1 0] I ⟨I, J⟩ ?_)
 rcases bt (decide (a.Batch < 1000)) with c | c
 refine AO.known 11 I c (AO.r 5 [.o 1 0] I ⟨I, J⟩ ?_)
 rcases bt (decide (a.Volume ≥ 0)) with d | d
 refine AO.known 16 I d (AO.r 5 [.o 1 0] I ⟨I, J⟩ (AO.nil ?_))
 exact lf ⟨I, I⟩ ⟨(get_b (by simp only [b, c, d, bz])), J⟩ [] I
 refine AO.known 16 I d (AO.q 5 I (AO.nil ?_))
 exact lf ⟨I, I⟩ ⟨(get_b (by simp only [b, c, d, bz])), J⟩ [] I
 refine AO.known 11 I c (AO.q 10 I (AO.nil ?_))
 exact lf ⟨I, I⟩ ⟨(get_b (by simp only [b, c, bz])), J⟩ [] I
 refine AO.known 6 I b (AO.q 15 I (AO.nil ?_))
 exact lf ⟨I, I⟩ ⟨(get_b (by simp only [b, bz])), J⟩ [] I
 rintro s ob ⟨rfl, rfl⟩
 obtain rfl := h
 exact AW.ret pr
theorem L.zmsl_ok (a : List Piece) (r : Int) (h : L.zmsl a = some r) : ACalls Tryz.env 97 [.list 2 (a.map Piece.row)] [] (fun x new => x = .V r ∧ new = []) := by
 refine ACalls.of_body Tryz.func97 rfl rfl rfl (fun C hC => ?_)
 unfold L.zmsl at h
 refine AW.z I (AW.z I (AW.cutX (fun s ob => ∃ (d : Int), L.zmsl.J1 d = some r ∧ s = [(3, .V d)] ∧ ob = []) [] J ?_ ?_))
 refine AW.zr [.l 1 (a.length : Int)] I ⟨len_m, J⟩ (AW.block (AW.listMax 6 I (fun e => ?_)))
 replace e : a.length ≤ 9223372036854775806 := by rw [List.length_map] at e; omega
 obtain ⟨u, g, i⟩ := ob_some h
 clear h
 refine AW.forY g [(6, _), (7, _)] ⟨I, I, J⟩ (fun (b : Nat) (c : Int) s ob => s = [(8, .V (b : Int)), (3, .V c)] ∧ ob = []) ⟨I, I⟩ ⟨I, I, J⟩ ⟨[], I, by decide⟩ ?_ ?_
 rintro b f c w s ob j n ⟨rfl, rfl⟩ h
 unfold L.zmsl.B2 at h
 have p : decide ((b : Int) < (a.length : Int)) = true := decide_eq_true (by omega)
 refine AW.z I (AW.seqG (fun y q => (AW.condK (v := true) I p (AW.skip ?_))))
 subst q
 refine AW.seq (AW.block (AW.seq (AW.region (AO.r 2 [.x 0 b (Piece.row f)] I ⟨⟨I, map_get j⟩, J⟩ (AO.act [] I (AX.alloc (cs := [.V 0, .V 0]) (m := 2) I I I I I dS (fun A => (AO.act [0] I (AX.store 0 0 0 (es' := [Piece.row f]) I I I I I I I I (le_ble I) I I (AO.nil (AW.tr [.o 2 0] I ⟨I, J⟩ (AW.region (AO.r 2 [.k 0 (b + 1 : Nat)] I ⟨cast_wr n e, J⟩ ?_)))))))))))))
 obtain rfl := oi h
 refine AO.nil ?_
 exact lg ⟨I, I⟩ []
 rintro c s ob ⟨rfl, rfl⟩ he
 subst he
 have h := i
 have t : decide (((a.length : Nat) : Int) < (a.length : Int)) = false := by simp
 refine AW.z I (AW.seqG (fun B D => (AW.condK (v := false) I t (AW.exit ?_))))
 exact lg ⟨c, h, I, I⟩ []
 rintro s ob ⟨d, h, rfl, rfl⟩
 unfold L.zmsl.J1 at h
 refine AW.z I ?_
 obtain rfl := oi h
 exact AW.ret pr
theorem L.zqwg_ok (a : List Piece) (r : Bool) (h : L.zqwg a = some r) : ACalls Tryz.env 67 [.list 2 (a.map Piece.row)] [] (fun x new => x = .v (.bool r) ∧ new = []) := by
 refine ACalls.of_body Tryz.func67 rfl rfl rfl (fun C hC => ?_)
 unfold L.zqwg at h
 refine AW.z I (AW.seqG (fun S w => (AW.zr [.l 1 (a.length : Int)] I ⟨len_m, J⟩ (AW.ch h I ?_ ?_))))
 intro y h
 refine AW.z I ?_
 obtain rfl := oi h
 exact AW.ret pr
 intro y h
 refine AW.skip ?_
 subst w
 refine AW.cutX (fun s ob => ∃ (p : Unit), L.zqwg.J1 a p = some r ∧ s = [] ∧ ob = []) [(0, _)] ⟨I, J⟩ ?_ ?_
 refine AW.zr [.l 1 (a.length : Int)] I ⟨len_m, J⟩ (AW.block (AW.listMax 8 I (fun i => ?_)))
 replace i : a.length ≤ 9223372036854775806 := by rw [List.length_map] at i; omega
 obtain ⟨U, A, t⟩ := ob_some h
 clear h
 refine AW.forX A [(0, _), (8, _), (9, _)] ⟨I, I, I, J⟩ (fun (b : Nat) (u : Unit) s ob => s = [(10, .V (b : Int))] ∧ ob = []) ⟨I, I⟩ ⟨I, J⟩ ⟨[], I, by decide⟩ ?_ ?_
 rintro b d u B s ob D E ⟨rfl, rfl⟩ h F
 unfold L.zqwg.B2 at h
 have G : decide ((b : Int) < (a.length : Int)) = true := decide_eq_true (by omega)
 refine AW.z I (AW.seqG (fun W H => (AW.condK (v := true) I G (AW.skip ?_))))
 subst H
 refine AW.seq (AW.block (AW.seqG (fun X K => (AW.region (AO.r 3 [.x 1 b (Piece.row d)] I ⟨⟨I, map_get D⟩, J⟩ (AO.act [] I (AX.alloc (cs := [.V 0, .V 0]) (m := 2) I I I I I dS (fun Y => (AO.q 1 I (AO.act [0] I (AX.store 0 0 0 (es' := [Piece.row d]) I I I I I I I I (le_ble I) I I (AO.nil ?_))))))))))))
 subst K
 refine AW.cutX (fun s ob => ∃ (j : Bool), L.zqwg.J3 j = some B ∧ s = [(37, .v (.bool j))] ∧ ob = []) [(0, _), (8, _), (9, _), (10, _)] ⟨I, I, I, I, J⟩ ?_ ?_
 refine AW.rd (pd 23 0 [1]) [0] [_] I (AP.r 1 [.o 0 0] I ⟨I, J⟩ (AP.c I (L.zojo_ok d _ I) (AP.q 2 I ?_)))
 rcases bt ((!(L.zojo d))) with e | e
 replace h := ife_t e h
 refine AP.known 18 I e (AP.q 8 I (AP.skipU I I I I dS (AP.skipU I I I I dS (AP.skipU I I I I dS (AP.skipU I I I I dS (AP.skipU I I I I dS (AP.skipU I I I I dS (AP.skipU I I I I dS (AP.skipU I I I I dS (AP.skipU I I I I dS (AP.q 2 I (AP.ofAO ?_))))))))))))
 refine AO.nil ?_
 exact lg ⟨true, h, I, I⟩ []
 replace h := ife_f e h
 refine AP.known 18 I e (AP.r 5 [.o 1 0] I ⟨I, J⟩ ?_)
 rcases bt ((d.Volume == 0)) with f | f
 replace h := ife_t f h
 refine AP.known 23 I f (AP.q 3 I (AP.skipU I I I I dS (AP.skipU I I I I dS (AP.skipU I I I I dS (AP.skipU I I I I dS (AP.skipU I I I I dS (AP.skipU I I I I dS (AP.skipU I I I I dS (AP.skipU I I I I dS (AP.skipU I I I I dS (AP.q 2 I (AP.ofAO ?_))))))))))))
 refine AO.nil ?_
 exact lg ⟨true, h, I, I⟩ []
 replace h := ife_f f h
 refine AP.known 23 I f (AP.q 3 I ?_)
 rcases bt (decide ((b : Int) > 0)) with g | g
 replace h := ife_t g h
 obtain ⟨n, M, h⟩ := ob_some h
 obtain ⟨N, O⟩ := ix_some M
 refine AP.known 26 I g (AP.r 11 [.x 3 n.1 (Piece.row n.2), .o 7 0] I ⟨I, ⟨N, map_get O⟩, J⟩ (AP.ofAO (AO.nil ?_)))
 exact lg ⟨(n.2.Batch == d.Batch), h, I, I⟩ []
 replace h := ife_f g h
 refine AP.known 26 I g (AP.q 11 I (AP.ofAO (AO.nil ?_)))
 exact lg ⟨false, h, I, I⟩ []
 rintro s ob ⟨j, h, rfl, rfl⟩
 unfold L.zqwg.J3 at h
 refine AW.ch h I ?_ ?_
 intro P h
 refine AW.z I ?_
 obtain rfl := F _ (oi h).symm
 replace h := t
 replace h := se_r h
 obtain rfl := oi h
 exact AW.ret pr
 intro P h
 refine AW.skip (AW.region (AO.r 2 [.k 0 (b + 1 : Nat)] I ⟨cast_wr E i, J⟩ ?_))
 obtain rfl := oi h
 refine AO.nil ?_
 exact ⟨_, _, _, I, ⟨I, I⟩, ⟨I, I, I, I, J⟩, [], I, by decide⟩
 rintro u s ob ⟨rfl, rfl⟩ he
 subst he
 have h := se_l t
 have Q : decide (((a.length : Nat) : Int) < (a.length : Int)) = false := by simp
 refine AW.z I (AW.seqG (fun Z aa => (AW.condK (v := false) I Q (AW.exit ?_))))
 exact lg ⟨(), h, I, I⟩ []
 rintro s ob ⟨p, h, rfl, rfl⟩
 unfold L.zqwg.J1 at h
 refine AW.seq ?_
 obtain ⟨ab, R, h⟩ := ob_some h
 refine AW.region (AO.q 1 I (AO.c (L.zmsl_ok _ _ R) (AO.q 2 I (AO.nil ?_))))
 obtain rfl := oi h
 exact AW.ret pr
theorem L.zryf_ok (a : List Piece) (r : Int) (h : L.zryf a = some r) : ACalls Tryz.env 80 [.list 2 (a.map Piece.row)] [] (fun x new => x = .V r ∧ new = []) := by
 refine ACalls.of_body Tryz.func80 rfl rfl rfl (fun C hC => ?_)
 unfold L.zryf at h
 refine AW.z I (AW.seq (AW.seq ?_))
 obtain ⟨f, b, h⟩ := ob_some h
 refine AW.region (AO.q 1 I (AO.c (L.zqwg_ok _ _ b) (AO.q 1 I (AO.nil (AW.ch h I ?_ ?_)))))
 intro d h
 refine AW.z I ?_
 obtain rfl := oi h
 exact AW.ret pr
 intro d h
 refine AW.skip (AW.seq ?_)
 obtain ⟨g, e, h⟩ := ob_some h
 refine AW.region (AO.q 1 I (AO.c (L.zmsl_ok _ _ e) (AO.q 1 I (AO.nil ?_))))
 obtain rfl := oi h
 exact AW.ret pr
theorem L.zkmq_ok (a : List Piece) (F1 : T) {d : FuncId} {e f : List T} (o : fnT F1 = some (d, e, f)) (g : Piece → Option Bool) (p : ∀ (i : Piece) r, g i = some r → ACalls Tryz.env d (e ++ [.agg (Piece.row i)] ++ f) [] (fun x new => x = .v (.bool r) ∧ new = [])) (r : Int) (h : L.zkmq a g = some r) : ACalls Tryz.env 150 [.list 2 (a.map Piece.row), F1] [] (fun x new => x = .V r ∧ new = []) := by
 refine ACalls.of_body Tryz.func150 rfl rfl rfl (fun C hC => ?_)
 unfold L.zkmq at h
 refine AW.z I (AW.cutX (fun s ob => ∃ (j : Unit), L.zkmq.J1 j = some r ∧ s = [] ∧ ob = []) [] J ?_ ?_)
 refine AW.zr [.l 1 (a.length : Int)] I ⟨len_m, J⟩ (AW.block (AW.listMax 6 I (fun c => ?_)))
 replace c : a.length ≤ 9223372036854775806 := by rw [List.length_map] at c; omega
 obtain ⟨G, q, m⟩ := ob_some h
 clear h
 refine AW.forX q [(0, _), (1, _), (7, _)] ⟨I, I, I, J⟩ (fun (b : Nat) (n : Unit) s ob => s = [(8, .V (b : Int))] ∧ ob = []) ⟨I, I⟩ ⟨I, J⟩ ⟨[], I, by decide⟩ ?_ ?_
 rintro b t n H s ob u w ⟨rfl, rfl⟩ h y
 unfold L.zkmq.B2 at h
 have A : decide ((b : Int) < (a.length : Int)) = true := decide_eq_true (by omega)
 refine AW.z I (AW.seqG (fun K B => (AW.condK (v := true) I A (AW.skip ?_))))
 subst B
 refine AW.seq (AW.block (AW.z I (AW.seq ?_)))
 obtain ⟨M, D, h⟩ := ob_some h
 refine AW.region (AO.r 5 [.x 3 b (Piece.row t)] I ⟨⟨I, map_get u⟩, J⟩ (AO.act [] I (AX.callL I (.refl _) o I (.rest _) I (p _ _ D) dS (by rintro _ _ ⟨rfl, _⟩; rfl) ?_)))
 rintro _ ⟨_, rfl, -⟩
 refine AO.nil (AW.ch h I ?_ ?_)
 intro E h
 refine AW.z I ?_
 obtain rfl := y _ (oi h).symm
 replace h := m
 replace h := se_r h
 obtain rfl := oi h
 exact AW.ret pr
 intro E h
 refine AW.skip (AW.region (AO.r 2 [.k 0 (b + 1 : Nat)] I ⟨cast_wr w c, J⟩ ?_))
 obtain rfl := oi h
 refine AO.nil ?_
 exact ⟨_, _, _, I, ⟨I, I⟩, ⟨I, I, I, I, J⟩, [], I, by decide⟩
 rintro n s ob ⟨rfl, rfl⟩ he
 subst he
 have h := se_l m
 have F : decide (((a.length : Nat) : Int) < (a.length : Int)) = false := by simp
 refine AW.z I (AW.seqG (fun N O => (AW.condK (v := false) I F (AW.exit ?_))))
 exact lg ⟨(), h, I, I⟩ []
 rintro s ob ⟨j, h, rfl, rfl⟩
 unfold L.zkmq.J1 at h
 refine AW.z I ?_
 obtain rfl := oi h
 exact AW.ret pr
theorem L.zytx_ok (b : List Piece) (F1 : T) {d : FuncId} {e f : List T} (i : fnT F1 = some (d, e, f)) (a : Piece → Option Bool) (j : ∀ (g : Piece) r, a g = some r → ACalls Tryz.env d (e ++ [.agg (Piece.row g)] ++ f) [] (fun x new => x = .v (.bool r) ∧ new = [])) (r : Bool) (h : L.zytx b a = some r) : ACalls Tryz.env 145 [.list 2 (b.map Piece.row), F1] [] (fun x new => x = .v (.bool r) ∧ new = []) := by
 refine ACalls.of_body Tryz.func145 rfl rfl rfl (fun C hC => ?_)
 unfold L.zytx at h
 refine AW.z I (AW.seq ?_)
 obtain ⟨l, k, h⟩ := ob_some h
 refine AW.region (AO.q 2 I (AO.c (L.zkmq_ok _ F1 i a j _ k) (AO.q 2 I (AO.nil ?_))))
 obtain rfl := oi h
 exact AW.ret pr
theorem L.zjyd_ok (a : Piece) (r : Bool) (h : L.zjyd a = r) : ACalls Tryz.env 146 [.agg (Piece.row a)] [] (fun x new => x = .v (.bool r) ∧ new = []) := by
 refine ACalls.of_body Tryz.func146 rfl rfl rfl (fun C hC => ?_)
 unfold L.zjyd at h
 refine AW.seq (AW.region (AO.act [] I (AX.box (cs := Piece.row a) (m := 2) I I I dS (fun b => (AO.q 1 I (AO.nil (AW.seq (AW.region (AO.r 1 [.o 0 0] I ⟨I, J⟩ (AO.c (L.zojo_ok a _ I) (AO.q 2 I (AO.nil (AW.ghost g0 ?_)))))))))))))
 obtain rfl := h
 exact AW.ret pr
theorem L.zzum_ok (f : List Piece) (r : List Piece) (h : L.zzum f = some r) : ACalls Tryz.env 147 [.list 2 (f.map Piece.row)] [] (fun x new => ∃ (F : Value), x = .v F ∧ new = [.us F 66 2 (r.map Piece.row)]) := by
 refine ACalls.of_body Tryz.func147 rfl rfl rfl (fun C hC => ?_)
 unfold L.zzum at h
 refine AW.z I (AW.z I (AW.cutX (fun s ob => ∃ (u : List Piece) (i : Value), L.zzum.J1 u = some r ∧ s = [(3, .v i)] ∧ ob = [.us i 66 2 (u.map Piece.row)]) [] J ?_ ?_))
 refine AW.zr [.l 1 (f.length : Int)] I ⟨len_m, J⟩ (AW.block (AW.listMax 7 I (fun A => ?_)))
 replace A : f.length ≤ 9223372036854775806 := by rw [List.length_map] at A; omega
 refine AW.ghost (Ghost.nilU 66 2) ?_
 obtain ⟨aj, K, M⟩ := ob_some h
 clear h
 refine AW.forY K [(7, _), (8, _)] ⟨I, I, J⟩ (fun (j : Nat) (c : List Piece) s ob => ∃ (e : Value), s = [(9, .V (j : Int)), (3, .v e)] ∧ ob = [.us e 66 2 (c.map Piece.row)]) ⟨(.slice none 0 0), I, I⟩ ⟨I, I, J⟩ ⟨[0], I, by decide⟩ ?_ ?_
 rintro j a c G s ob N O ⟨e, rfl, rfl⟩ h
 unfold L.zzum.B2 at h
 have P : decide ((j : Int) < (f.length : Int)) = true := decide_eq_true (by omega)
 refine AW.z I (AW.seqG (fun ak Q => (AW.condK (v := true) I P (AW.skip ?_))))
 subst Q
 refine AW.cutX (fun s ob => ∃ (B : List Piece) (w : Value), L.zzum.J3 B = some G ∧ s = [(3, .v w)] ∧ ob = [.us w 66 2 (B.map Piece.row)]) [(7, _), (8, _), (9, _)] ⟨I, I, I, J⟩ ?_ ?_
 refine AW.block (AW.seqG (fun al R => (AW.region (AO.r 2 [.x 0 j (Piece.row a)] I ⟨⟨I, map_get N⟩, J⟩ (AO.act [] I (AX.alloc (cs := [.V 0, .V 0]) (m := 2) I I I I I dS (fun S => (AO.act [1] I (AX.store 1 0 0 (es' := [Piece.row a]) I I I I I I I I (le_ble I) I I (AO.nil ?_))))))))))
 subst R
 refine AW.seqG (fun am U => (AW.region (AO.q 1 I (AO.d (Yd.lenUM 0 I I I I) I (AO.q 1 I (AO.nil ?_))))))
 subst U
 refine AW.block (AW.seqG (fun an W => (AW.region (AO.r 3 [.o 0 1, .o 2 1] I ⟨I, I, J⟩ (AO.p (Yp.buildP (l := [.V a.Batch, .V 0]) Tryz.bld66 I) I (AO.p (Yp.eqStruct (r := ((a.Batch == a.Batch) && ((a.Volume == 0) && true))) I I Tryz.eq66 I I I I) I (AO.q 1 I (AO.nil ?_))))))))
 subst W
 refine AW.ch h I ?_ ?_
 intro X h
 refine AW.skip ?_
 exact lg ⟨c, e, h, I, I⟩ [0]
 intro X h
 refine AW.cutX (fun s ob => ∃ (D : Bool), L.zzum.J4 a c D = some G ∧ s = [(25, .v (.bool D))] ∧ ob = [.us e 66 2 (c.map Piece.row), .arr S 66 2 1 [Piece.row a]]) [(3, _), (5, _), (6, _), (7, _), (8, _), (9, _)] ⟨I, I, I, I, I, I, J⟩ ?_ ?_
 rcases bt (decide ((c.length : Int) > 0)) with n | n
 replace h := ife_t n h
 obtain ⟨t, Y, h⟩ := ob_some h
 obtain ⟨Z, E⟩ := ix_some Y
 refine AW.form 0 t.1 I E (fun aa => (AW.rd (pd 14 0 []) [0, 1] [_, _] I (AP.q 3 I (AP.known 28 I n (AP.q 3 I (AP.oldG I I I I ((Yp.indexUf (m := t.1) I I I I I aa I Z E).yd) dS (AP.q 1 I (AP.oldG I I I I (Yd.loadU 0 t.1 0 I I I (map_get E) I (y := .V t.2.Batch) I) dS (AP.r 5 [.o 1 1] I ⟨I, J⟩ (AP.ofAO (AO.nil ?_)))))))))))
 exact lg ⟨(t.2.Batch == a.Batch), h, I, I⟩ [0, 1]
 replace h := ife_f n h
 refine AW.rd (pd 14 0 []) [] [] I (AP.q 3 I (AP.known 28 I n (AP.q 11 I (AP.ofAO (AO.nil ?_)))))
 exact lg ⟨false, h, I, I⟩ [0, 1]
 rintro s ob ⟨D, h, rfl, rfl⟩
 unfold L.zzum.J4 at h
 refine AW.ch h I ?_ ?_
 intro ab h
 obtain ⟨b, ac, h⟩ := ob_some h
 obtain ⟨H, g⟩ := ix_some ac
 refine AW.form 0 b.1 I g (fun ad => (AW.form 0 b.1 I g (fun ae => (AW.rd (.still 0 (.still 1 (.still 2 (.still 3 (.still 4 (.still 5 (.still 6 (.still 7 (.still 8 (.still 9 (.still 10 (.drop 11 .nil)))))))))))) [0, 1] [_, _] I (AP.q 3 I (AP.op I (Yp.indexUf (m := b.1) I I I I I ad I H g) I (AP.q 1 I (AP.o I (Yd.loadU 0 b.1 1 I I I (map_get g) I (y := .V b.2.Volume) I) I (AP.r 3 [.o 1 1] I ⟨I, J⟩ (AP.op I (Yp.indexUf (m := b.1) I I I I I ae I H g) I (AP.q 1 I (AP.drop [0] I I I (AX.storeU 0 b.1 1 I I I (map_get g) I I I I (le_ble I) I (us_set (x := (⟨b.2.Batch, wr (b.2.Volume + a.Volume)⟩ : Piece)) I) (AP.ofAO (AO.nil ?_)))))))))))))))
 exact lg ⟨(c.set b.1 (⟨b.2.Batch, wr (b.2.Volume + a.Volume)⟩ : Piece)), e, h, I, I⟩ [0]
 intro ab h
 obtain ⟨af, ag, h⟩ := ob_some h
 refine AW.region (AO.r 2 [.o 1 1] I ⟨I, J⟩ (AO.act [] I (AX.lt 2 (([a] : List Piece).map Piece.row) (AO.act [0] I (AX.ap 0 I ag (fun ah => (AO.q 1 I (AO.nil ?_))))))))
 exact lg ⟨af, ah, h, I, I⟩ [0]
 rintro s ob ⟨B, w, h, rfl, rfl⟩
 unfold L.zzum.J3 at h
 refine AW.region (AO.r 2 [.k 0 (j + 1 : Nat)] I ⟨cast_wr O A, J⟩ ?_)
 obtain rfl := oi h
 refine AO.nil ?_
 exact lg ⟨w, I, I⟩ [0]
 rintro c s ob ⟨e, rfl, rfl⟩ he
 subst he
 have h := M
 have ai : decide (((f.length : Nat) : Int) < (f.length : Int)) = false := by simp
 refine AW.z I (AW.seqG (fun ao aq => (AW.condK (v := false) I ai (AW.exit ?_))))
 exact lg ⟨c, e, h, I, I⟩ [0]
 rintro s ob ⟨u, i, h, rfl, rfl⟩
 unfold L.zzum.J1 at h
 refine AW.z I ?_
 obtain rfl := oi h
 exact AW.ret ⟨.inr I, [_], [.us i 66 2 (u.map Piece.row)], ⟨I, J⟩, sl_c I (sl_n), ⟨i, I, I⟩⟩
theorem L.zmbh_ok (a : List Piece) (r : List Piece) (h : L.zmbh a = some r) : ACalls Tryz.env 138 [.list 2 (a.map Piece.row)] [] (fun x new => ∃ (e : Value), x = .v e ∧ new = [.us e 66 2 (r.map Piece.row)]) := by
 refine ACalls.of_body Tryz.func138 rfl rfl rfl (fun C hC => ?_)
 unfold L.zmbh at h
 refine AW.z I (AW.seq (AW.cutX (fun s ob => ∃ (d : Bool), L.zmbh.J1 a d = some r ∧ s = [(9, .v (.bool d))] ∧ ob = []) [(0, _)] ⟨I, J⟩ ?_ ?_))
 refine AW.region (AO.r 4 [.l 1 (a.length : Int)] I ⟨len_m, J⟩ ?_)
 rcases bt (decide ((a.length : Int) > 400)) with b | b
 replace h := ife_t b h
 refine AO.known 6 I b (AO.q 3 I (AO.nil ?_))
 exact lg ⟨true, h, I, I⟩ []
 replace h := ife_f b h
 obtain ⟨g, i, h⟩ := ob_some h
 refine AO.known 6 I b (AO.q 1 I (AO.gt I I I (AO.c (L.zytx_ok _ (.v (.func (.func 146) #[] #[])) I (fun x => some (L.zjyd x)) (fun x r h => by obtain I := oi h; exact L.zjyd_ok x _ I) _ i) (AO.q 1 I (AO.nil ?_)))))
 exact lg ⟨g, h, I, I⟩ []
 rintro s ob ⟨d, h, rfl, rfl⟩
 unfold L.zmbh.J1 at h
 refine AW.ch h I ?_ ?_
 intro j h
 refine AW.z I (AW.ghost (Ghost.nilU 66 2) ?_)
 obtain rfl := oi h
 exact AW.ret ⟨.inr I, [_], [.us (.slice none 0 0) 66 2 ([].map Piece.row)], ⟨I, J⟩, sl_c I (sl_n), ⟨(.slice none 0 0), I, I⟩⟩
 intro j h
 refine AW.skip (AW.seq ?_)
 obtain ⟨k, m, h⟩ := ob_some h
 refine AW.region (AO.q 1 I (AO.act [] I (AX.call0 I I I (L.zzum_ok _ _ m) dS ?_)))
 rintro _ _ ⟨f, rfl, rfl⟩
 refine AO.q 1 I (AO.nil ?_)
 obtain rfl := oi h
 exact AW.ret ⟨.inr I, [_], [.us f 66 2 (k.map Piece.row)], ⟨I, J⟩, sl_c I (sl_n), ⟨f, I, I⟩⟩
theorem L.zgxj_ok (a : List Piece) (r : List Piece) (h : L.zgxj a = some r) : ACalls Tryz.env 119 [.list 2 (a.map Piece.row)] [] (fun x new => ∃ (b : Value), x = .v b ∧ new = [.us b 66 2 (r.map Piece.row)]) := by
  refine ACalls.of_body Tryz.func119 rfl rfl rfl (fun C hC => ?_)
  unfold L.zgxj at h
  obtain ⟨e, d⟩ := app_some h
  refine AW.seq ?_
  refine AW.region ?_
  refine AO.p (Yp.assign rfl) rfl ?_
  refine AO.nil ?_
  refine AW.seq ?_
  refine AW.seq ?_
  refine AW.region ?_
  refine AO.p (Yp.move rfl) rfl ?_
  refine AO.act [] rfl (AX.eqNil rfl rfl rfl (dst_some rfl) (fun c hc => ?_))
  refine AO.nil ?_
  refine AW.cond rfl rfl ?_ ?_
  · intro hb
    have hs : a = [] := by have := hc hb; simpa using this
    subst hs
    refine AW.seq ?_
    refine AW.region ?_
    refine AO.p (Yp.assign rfl) rfl ?_
    refine AO.ghost (Ghost.nilU 66 2) ?_
    refine AO.nil ?_
    refine AW.ret ?_
    have hr : r = [] := by simpa using d.symm
    subst hr
    exact ⟨.inr rfl, [_], [.us (.slice none 0 0) 66 2 ([].map Piece.row)], ⟨rfl, J⟩, sl_c rfl sl_n, ⟨_, rfl, rfl⟩⟩
  · intro hb
    refine AW.skip ?_
    refine AW.seq ?_
    refine AW.region ?_
    refine AO.act [] rfl (AX.buildSlice (sz := 2) (es := []) rfl rfl rfl rfl rfl rfl rfl rfl rfl rfl rfl (dst_some rfl) (fun g => ?_))
    refine AO.p (Yp.move rfl) rfl ?_
    refine AO.act [0] rfl (AX.appendU 0 (es' := r.map Piece.row) rfl rfl rfl rfl rfl rfl rfl rfl rfl (AppSrc.list rfl) (by simpa using e) (by rw [← d]; simp) (dst_some rfl) (fun f => ?_))
    refine AO.p (Yp.assign rfl) rfl ?_
    refine AO.nil ?_
    refine AW.ret ?_
    exact ⟨.inr rfl, [_], [.us f 66 2 (r.map Piece.row)], ⟨rfl, J⟩, sl_c rfl sl_n, ⟨_, rfl, rfl⟩⟩
theorem L.zbkm_ok (e : List Piece) (B : Int) (r : (List Piece) × (List Piece)) (h : L.zbkm e B = some r) : ACalls Tryz.env 149 [.list 2 (e.map Piece.row), .V B] [] (fun x new => ∃ (D : Value) (E : Value), x = .tup [.v D, .v E] ∧ new = [.us D 66 2 (r.1.map Piece.row), .us E 66 2 (r.2.map Piece.row)]) := by
 refine ACalls.of_body Tryz.func149 rfl rfl rfl (fun C hC => ?_)
 unfold L.zbkm at h
 refine AW.z I (AW.seqG (fun y2 N => ?_))
 obtain ⟨r3, O, h⟩ := ob_some h
 obtain ⟨r6, P, h⟩ := ob_some h
 refine AW.region (AO.q 1 I (AO.act [] I (AX.call0 I I I (L.zgxj_ok _ _ O) dS ?_)))
 rintro _ _ ⟨p, rfl, rfl⟩
 refine AO.q 1 I (AO.act [] I (AX.call0 I I I (L.zgxj_ok _ _ P) dS ?_))
 rintro _ _ ⟨i, rfl, rfl⟩
 refine AO.q 2 I (AO.nil ?_)
 subst N
 refine AW.cutX (fun s ob => ∃ (a : (List Piece) × (List Piece)), L.zbkm.J1 a = some r ∧ s = [] ∧ ob = [.us p 66 2 (a.1.map Piece.row), .us i 66 2 (a.2.map Piece.row)]) [(6, _), (7, _)] ⟨I, I, J⟩ ?_ ?_
 refine AW.zr [.l 1 (e.length : Int)] I ⟨len_m, J⟩ (AW.block (AW.listMax 14 I (fun t => ?_)))
 replace t : e.length ≤ 9223372036854775806 := by rw [List.length_map] at t; omega
 obtain ⟨ap, Q, R⟩ := ob_some h
 clear h
 refine AW.forY Q [(6, _), (7, _), (14, _), (15, _)] ⟨I, I, I, I, J⟩ (fun (f : Nat) (b : Int × (List Piece) × (List Piece)) s ob => s = [(16, .V (f : Int)), (1, .V b.1)] ∧ ob = [.us p 66 2 (b.2.1.map Piece.row), .us i 66 2 (b.2.2.map Piece.row)]) ⟨I, I⟩ ⟨I, I, J⟩ ⟨[0, 1], I, by decide⟩ ?_ ?_
 rintro f j b aq s ob S U ⟨rfl, rfl⟩ h
 unfold L.zbkm.B2 at h
 have W : decide ((f : Int) < (e.length : Int)) = true := decide_eq_true (by omega)
 refine AW.z I (AW.seqG (fun ar X => (AW.condK (v := true) I W (AW.skip ?_))))
 subst X
 refine AW.seq (AW.block (AW.seqG (fun au Y => (AW.region (AO.r 3 [.x 1 f (Piece.row j)] I ⟨⟨I, map_get S⟩, J⟩ (AO.act [] I (AX.alloc (cs := [.V 0, .V 0]) (m := 2) I I I I I dS (fun av => (AO.q 1 I (AO.act [2] I (AX.store 2 0 0 (es' := [Piece.row j]) I I I I I I I I (le_ble I) I I (AO.nil ?_))))))))))))
 subst Y
 refine AW.seqG (fun aw Z => ?_)
 obtain ⟨u, aa, h⟩ := ob_some h
 obtain ⟨ab, F⟩ := ix_some aa
 refine AW.region (AO.r 6 [.o 3 2] I ⟨I, J⟩ (AO.d (Yd.indexU 0 (m := u.1) I I I I I I I ab (map_get F)) I (AO.q 1 I (AO.act [0] I (AX.storeU 0 u.1 1 I I I (map_get F) I I I I (le_ble I) I (us_set (x := (⟨u.2.Batch, (min j.Volume b.1)⟩ : Piece)) I) (AO.nil ?_))))))
 subst Z
 refine AW.seqG (fun ax ac => ?_)
 obtain ⟨c, ad, h⟩ := ob_some h
 obtain ⟨G, g⟩ := ix_some ad
 refine AW.region (AO.q 3 I (AO.d (Yd.indexU 0 (m := c.1) I I I I I I I G (map_get g)) I (AO.q 1 I (AO.d (Yd.loadU 0 c.1 1 I I I (map_get g) I (y := .V c.2.Volume) I) I (AO.q 2 I (AO.nil ?_))))))
 subst ac
 obtain ⟨n, ae, h⟩ := ob_some h
 obtain ⟨af, w⟩ := ix_some ae
 refine AW.form 0 c.1 I g (fun ag => (AW.form 1 n.1 I w (fun ah => (AW.rd (pd 13 0 [12]) [2, 0] [_, _] I (AP.r 6 [.o 3 0] I ⟨I, J⟩ (AP.op I (Yp.indexUf (m := c.1) I I I I I ag I G g) I (AP.q 1 I (AP.o I (Yd.loadU 1 c.1 1 I I I (map_get g) I (y := .V c.2.Volume) I) I (AP.q 1 I (AP.op I (Yp.indexUf (m := n.1) I I I I I ah I af w) I (AP.q 1 I (AP.act [1] I I I (AX.storeU 1 n.1 1 I I I (map_get w) I I I I (le_ble I) I (us_set (x := (⟨n.2.Batch, wr (j.Volume - c.2.Volume)⟩ : Piece)) I) (AP.ofAO (AO.nil ?_)))))))))))))))
 refine AW.region (AO.r 2 [.k 0 (f + 1 : Nat)] I ⟨cast_wr U t, J⟩ ?_)
 obtain rfl := oi h
 refine AO.nil ?_
 exact lg ⟨I, I⟩ [0, 1]
 rintro b s ob ⟨rfl, rfl⟩ he
 subst he
 have h := R
 have ai : decide (((e.length : Nat) : Int) < (e.length : Int)) = false := by simp
 refine AW.z I (AW.seqG (fun ay az => (AW.condK (v := false) I ai (AW.exit ?_))))
 exact lg ⟨(b.2.1, b.2.2), h, I, I⟩ [0, 1]
 rintro s ob ⟨a, h, rfl, rfl⟩
 unfold L.zbkm.J1 at h
 refine AW.seq ?_
 obtain ⟨H, aj, h⟩ := ob_some h
 obtain ⟨ak, al, h⟩ := ob_some h
 refine AW.region (AO.q 1 I (AO.ghost (Ghost.freeze [0] (K := [.us p 66 2 (a.1.map Piece.row)]) I [(6, .list 2 (a.1.map Piece.row)), (49, .list 2 (a.1.map Piece.row))] ⟨⟨_, I, .us 0 I⟩, ⟨_, I, .us 0 I⟩, J⟩ (ob' := [.us i 66 2 (a.2.map Piece.row)]) (.rest _)) (AO.act [] I (AX.call0 I I I (L.zzum_ok _ _ aj) dS ?_))))
 rintro _ _ ⟨A, rfl, rfl⟩
 refine AO.q 1 I (AO.ghost (Ghost.freeze [0] (K := [.us i 66 2 (a.2.map Piece.row)]) I [(7, .list 2 (a.2.map Piece.row)), (51, .list 2 (a.2.map Piece.row))] ⟨⟨_, I, .us 0 I⟩, ⟨_, I, .us 0 I⟩, J⟩ (ob' := [.us A 66 2 (H.map Piece.row)]) (.rest _)) (AO.act [] I (AX.call0 I I I (L.zzum_ok _ _ al) dS ?_)))
 rintro _ _ ⟨M, rfl, rfl⟩
 refine AO.q 2 I (AO.nil ?_)
 obtain rfl := oi h
 exact AW.ret ⟨.inr I, [_, _], [.us A 66 2 (H.map Piece.row), .us M 66 2 (ak.map Piece.row)], ⟨I, I, J⟩, sl_c I (sl_c I (sl_n)), ⟨A, M, I, I⟩⟩
theorem L.zbil_ok (i : List Piece) (j : List Piece) (k : Bool) (r : (List Piece) × (List Piece) × Int) (h : L.zbil i j k = some r) : ACalls Tryz.env 143 [.list 2 (i.map Piece.row), .list 2 (j.map Piece.row), .v (.bool k)] [] (fun x new => ∃ (m : Value) (n : Value), x = .tup [.v m, .v n, .V r.2.2] ∧ new = [.us m 66 2 (r.1.map Piece.row), .us n 66 2 (r.2.1.map Piece.row)]) := by
 refine ACalls.of_body Tryz.func143 rfl rfl rfl (fun C hC => ?_)
 unfold L.zbil at h
 refine AW.z I (AW.seqG (fun y2 w => (AW.cutX (fun s ob => ∃ (l : Bool), L.zbil.J1 i j k l = some r ∧ s = [(18, .v (.bool l))] ∧ ob = []) [(0, _), (1, _), (2, _)] ⟨I, I, I, J⟩ ?_ ?_)))
 obtain ⟨y, A, h⟩ := ob_some h
 refine AW.region (AO.q 1 I (AO.c (L.zqwg_ok _ _ A) (AO.q 2 I ?_)))
 rcases bt ((!y)) with f | f
 replace h := ife_t f h
 refine AO.known 14 I f (AO.q 4 I (AO.nil ?_))
 exact lg ⟨true, h, I, I⟩ []
 replace h := ife_f f h
 obtain ⟨B, D, h⟩ := ob_some h
 refine AO.known 14 I f (AO.q 1 I (AO.gt I I I (AO.c (L.zqwg_ok _ _ D) (AO.q 2 I (AO.nil ?_)))))
 exact lg ⟨(!B), h, I, I⟩ []
 rintro s ob ⟨l, h, rfl, rfl⟩
 unfold L.zbil.J1 at h
 refine AW.ch h I ?_ ?_
 intro E h
 refine AW.z I (AW.ghost (Ghost.nilU 66 2) (AW.ghost (Ghost.nilU 66 2) ?_))
 obtain rfl := oi h
 exact AW.ret ⟨.inr I, [_, _, _], [.us (.slice none 0 0) 66 2 ([].map Piece.row), .us (.slice none 0 0) 66 2 ([].map Piece.row)], ⟨I, I, I, J⟩, sl_c I (sl_c I (sl_n)), ⟨(.slice none 0 0), (.slice none 0 0), I, I⟩⟩
 intro E h
 refine AW.skip ?_
 subst w
 refine AW.z I (AW.cutX (fun s ob => ∃ (a : (List Piece) × (List Piece)) (b : Value) (e : Value), L.zbil.J2 a = some r ∧ s = [(9, .v b), (10, .v e)] ∧ ob = [.us e 66 2 (a.2.map Piece.row), .us b 66 2 (a.1.map Piece.row)]) [] J ?_ ?_)
 refine AW.z I (AW.ch h I ?_ ?_)
 intro F h
 obtain ⟨ac, G, h⟩ := ob_some h
 obtain ⟨o, H, h⟩ := ob_some h
 obtain ⟨ad, M, h⟩ := ob_some h
 obtain ⟨p, N, h⟩ := ob_some h
 refine AW.region (AO.q 1 I (AO.act [] I (AX.call0 I I I (L.zgxj_ok _ _ G) dS ?_)))
 rintro _ _ ⟨ae, rfl, rfl⟩
 refine AO.q 1 I (AO.act [0] I (AX.ap 0 I H (fun O => (AO.q 1 I (AO.c (L.zmsl_ok _ _ M) (AO.ghost (Ghost.freeze [0] (K := [.us O 66 2 (o.map Piece.row)]) I [(24, .list 2 (o.map Piece.row))] ⟨⟨_, I, .us 0 I⟩, J⟩ (ob' := []) (.rest _)) (AO.act [] I (AX.call0 I I I (L.zbkm_ok _ _ _ N) dS ?_))))))))
 rintro _ _ ⟨P, Q, rfl, rfl⟩
 refine AO.q 5 I (AO.nil ?_)
 exact lg ⟨(p.2, p.1), Q, P, h, I, I⟩ [0, 1]
 intro F h
 obtain ⟨af, R, h⟩ := ob_some h
 obtain ⟨t, S, h⟩ := ob_some h
 obtain ⟨ag, U, h⟩ := ob_some h
 obtain ⟨u, W, h⟩ := ob_some h
 refine AW.region (AO.q 1 I (AO.act [] I (AX.call0 I I I (L.zgxj_ok _ _ R) dS ?_)))
 rintro _ _ ⟨ah, rfl, rfl⟩
 refine AO.q 1 I (AO.act [0] I (AX.ap 0 I S (fun X => (AO.q 1 I (AO.c (L.zmsl_ok _ _ U) (AO.ghost (Ghost.freeze [0] (K := [.us X 66 2 (t.map Piece.row)]) I [(34, .list 2 (t.map Piece.row))] ⟨⟨_, I, .us 0 I⟩, J⟩ (ob' := []) (.rest _)) (AO.act [] I (AX.call0 I I I (L.zbkm_ok _ _ _ W) dS ?_))))))))
 rintro _ _ ⟨Y, Z, rfl, rfl⟩
 refine AO.q 5 I (AO.nil ?_)
 exact lg ⟨(u.1, u.2), Y, Z, h, I, I⟩ [1, 0]
 rintro s ob ⟨a, b, e, h, rfl, rfl⟩
 unfold L.zbil.J2 at h
 refine AW.seq (AW.cutX (fun s ob => s = [(47, .v (.bool (decide ((a.1.length : Int) > 200) || decide ((a.2.length : Int) > 200))))] ∧ ob = [.us e 66 2 (a.2.map Piece.row), .us b 66 2 (a.1.map Piece.row)]) [(9, _), (10, _)] ⟨I, I, J⟩ ?_ ?_)
 refine AW.region (AO.q 1 I (AO.d (Yd.lenUM 1 I I I I) I (AO.q 2 I ?_)))
 rcases bt (decide ((a.1.length : Int) > 200)) with g | g
 refine AO.known 43 I g (AO.q 4 I (AO.nil ?_))
 exact lf ⟨I, I⟩ ⟨(get_b (by simp only [g, bz])), I, I, J⟩ [0, 1] I
 refine AO.known 43 I g (AO.q 1 I (AO.gt I I I (AO.d (Yd.lenUM 0 I I I I) I (AO.q 2 I (AO.nil ?_)))))
 exact lf ⟨I, I⟩ ⟨(get_b (by simp only [g, bz])), I, I, J⟩ [0, 1] I
 rintro s ob ⟨rfl, rfl⟩
 refine AW.ch h I ?_ ?_
 intro aa h
 refine AW.z I (AW.ghost (Ghost.nilU 66 2) (AW.ghost (Ghost.nilU 66 2) (AW.ghost (Ghost.pick [2, 3] (K := [.us (.slice none 0 0) 66 2 ([].map Piece.row), .us (.slice none 0 0) 66 2 ([].map Piece.row)]) I (by decide)) ?_)))
 obtain rfl := oi h
 exact AW.ret ⟨.inr I, [_, _, _], [.us (.slice none 0 0) 66 2 ([].map Piece.row), .us (.slice none 0 0) 66 2 ([].map Piece.row)], ⟨I, I, I, J⟩, sl_c I (sl_c I (sl_n)), ⟨(.slice none 0 0), (.slice none 0 0), I, I⟩⟩
 intro aa h
 refine AW.skip (AW.z I (AW.ghost (Ghost.pick [1, 0] (K := [.us b 66 2 (a.1.map Piece.row), .us e 66 2 (a.2.map Piece.row)]) I (by decide)) ?_))
 obtain rfl := oi h
 exact AW.ret ⟨.inr I, [_, _, _], [.us b 66 2 (a.1.map Piece.row), .us e 66 2 (a.2.map Piece.row)], ⟨I, I, I, J⟩, sl_c I (sl_c I (sl_n)), ⟨b, e, I, I⟩⟩
end Go.Proofs.YtaliejncdnegeaaGreat
