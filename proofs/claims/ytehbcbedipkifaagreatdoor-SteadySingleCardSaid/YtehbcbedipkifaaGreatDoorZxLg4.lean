/- Walks that show what functions of the program compute; printed by a program of ours. No condition. -/
import Derived.Test.YtehbcbedipkifaaGreatDoorZxL4
import Derived.Test.YtehbcbedipkifaaGreatDoorZxD
set_option maxRecDepth 100000
namespace Go.Proofs.YtehbcbedipkifaaGreatDoor
open Go.Aw
set_option linter.unusedVariables false
set_option linter.unusedSimpArgs false
set_option maxHeartbeats 4000000
theorem L.zjig_ok (b0 : Nat) (s_0 : KS) (n_1 : Int) (r : Product × KS) (h : L.zjig s_0 n_1 = some r) : ACalls Tryz.env 65 [.v (.pointer (some ⟨b0, 0, none⟩)), .V n_1] [.arr b0 106 2 1 [KS.row s_0]] (Gives 1 (fun x os new => x = .agg (Product.row r.1) ∧ os = [.arr b0 106 2 1 [KS.row r.2]] ∧ new = [])) := by
 refine ACalls.of_body Tryz.func65 rfl rfl rfl (fun C hC => ?_)
 unfold L.zjig at h
 refine AW.seqG (fun y1 hy1 => (AW.region (AO.act [] I (AX.alloc (cs := [.v (.string ⟨#[]⟩), .V 0, .V 0, .V 0, .V 0]) (m := 5) I I I I I dS (fun b2 => (AO.nil ?_))))))
 subst hy1
 refine AW.seq ?_
 obtain ⟨r3, hx4, h⟩ := ob_some h
 obtain ⟨r5, hx6, h⟩ := ob_some h
 obtain ⟨r8, hx9, h⟩ := ob_some h
 obtain ⟨r11, hx12, h⟩ := ob_some h
 obtain ⟨r14, hx15, h⟩ := ob_some h
 refine AW.region (AO.q 1 I (AO.c (L.zeyi_ok _ _ _ hx4) (AO.q 1 I (AO.act [0] I (AX.c0 [0] (L.ziuk_ok b0 _ _ _ _ hx6) ?_)))))
 refine AO.q 1 I (AO.act [] I (AX.lt 1 (([0, 830, 2000, 1] : List Int).map rI) (AO.act [0] I (AX.c0 [0] (L.ztqk_ok b0 _ _ _ hx9) ?_))))
 refine AO.q 1 I (AO.act [] I (AX.lt 1 (([0, 800, 5000, 3] : List Int).map rI) (AO.act [0] I (AX.c0 [0] (L.ztqk_ok b0 _ _ _ hx12) ?_))))
 refine AO.q 1 I (AO.act [] I (AX.lt 1 (([1, 700, 1000, 1300, 2000] : List Int).map rI) (AO.act [0] I (AX.c0 [0] (L.ztqk_ok b0 _ _ _ hx15) ?_))))
 refine AO.p (Yp.buildP (l := [.v (.string r3), .V r5.1, .V r8.1, .V r11.1, .V r14.1]) Tryz.bld46 I) I (AO.act [1] I (AX.store 1 0 0 (es' := [[.v (.string r3), .V r5.1, .V r8.1, .V r11.1, .V r14.1]]) I I I I I I I I (le_ble I) I I (AO.nil ?_)))
 obtain rfl := oi h
 exact AW.ret ⟨.inr I, [_], [.arr b0 106 2 1 [KS.row r14.2]], ⟨⟨1, _, _, _, _, _, _, _, I, I, I, I, I⟩, J⟩, sl_c I (sl_n), ⟨[.arr b0 106 2 1 [KS.row r14.2]], [], I, I, I, I, I⟩⟩
theorem L.zexx_ok (b0 : Nat) (s_0 : KS) (r : (List Product) × KS) (h : L.zexx s_0 = some r) : ACalls Tryz.env 31 [.v (.pointer (some ⟨b0, 0, none⟩))] [.arr b0 106 2 1 [KS.row s_0]] (Gives 1 (fun x os new => ∃ (u0 : Value), x = .v u0 ∧ os = [.arr b0 106 2 1 [KS.row r.2]] ∧ new = [.us u0 46 5 (r.1.map Product.row)])) := by
 refine ACalls.of_body Tryz.func31 rfl rfl rfl (fun C hC => ?_)
 unfold L.zexx at h
 refine AW.z I (AW.z I (AW.cutX (fun s ob => ∃ (j36 : (List Int) × Int × (List Product)) (v37 : Value), L.zexx.J1 j36 = some r ∧ s = [(3, .v v37)] ∧ ob = [.arr b0 106 2 1 [[.list 1 (j36.1.map rI), .V j36.2.1]], .us v37 46 5 (j36.2.2.map Product.row)]) [] J ?_ ?_))
 refine AW.seqG (fun y38 hy38 => ?_)
 obtain ⟨r39, hx40, h⟩ := ob_some h
 refine AW.region (AO.q 1 I (AO.act [0] I (AX.c0 [0] (L.ziuk_ok b0 _ _ _ _ hx40) ?_)))
 refine AO.q 1 I (AO.nil ?_)
 subst hy38
 refine AW.block (AW.ghost (Ghost.nilU 46 5) ?_)
 obtain ⟨o71, hL72, hR73⟩ := ob_some h
 clear h
 refine AW.loopX hL72 [(0, _)] ⟨I, J⟩ (fun (st61 : (List Int) × Int × (List Product) × Int) s ob => ∃ (v62 : Value), s = [(3, .v v62), (4, .V st61.2.2.2)] ∧ ob = [.arr b0 106 2 1 [[.list 1 (st61.1.map rI), .V st61.2.1]], .us v62 46 5 (st61.2.2.1.map Product.row)]) ⟨(.slice none 0 0), I, I⟩ ⟨I, I, J⟩ ⟨[0, 1], I, by decide⟩ ?_
 rintro st61 r75 s ob ⟨v62, rfl, rfl⟩ h hb74
 unfold L.zexx.B2 at h
 refine AW.seqG (fun y76 hy76 => (AW.z I (AW.ch h I ?_ ?_)))
 intro hc77 h
 refine AW.skip ?_
 subst hy76
 refine AW.seq (AW.block ?_)
 obtain ⟨r78, hx79, h⟩ := ob_some h
 obtain ⟨l81, hx82, h⟩ := ob_some h
 refine AW.region (AO.q 3 I (AO.d (Yd.lenUM 1 I I I I) I (AO.act [0] I (AX.c0 [0] (L.zjig_ok b0 _ _ _ hx79) ?_))))
 refine AO.act [] I (AX.lt 5 (([r78.1] : List Product).map Product.row) (AO.act [1] I (AX.ap 1 I hx82 (fun v83 => (AO.q 1 I (AO.nil (AW.region (AO.q 3 I ?_))))))))
 obtain rfl := oi h
 refine AO.nil ?_
 exact ⟨_, _, _, I, ⟨v83, I, I⟩, ⟨I, I, I, J⟩, [0, 1], I, by decide⟩
 intro hc77 h
 obtain rfl := hb74 _ (oi h).symm
 replace h := hR73
 refine AW.exit ?_
 exact lg ⟨(st61.1, st61.2.1, st61.2.2.1), v62, h, I, I⟩ [0, 1]
 rintro s ob ⟨j36, v37, h, rfl, rfl⟩
 unfold L.zexx.J1 at h
 refine AW.z I ?_
 obtain rfl := oi h
 exact AW.ret ⟨.inr I, [_], [.arr b0 106 2 1 [[.list 1 (j36.1.map rI), .V j36.2.1]], .us v37 46 5 (j36.2.2.map Product.row)], ⟨I, J⟩, sl_c I (sl_c I (sl_n)), ⟨[.arr b0 106 2 1 [[.list 1 (j36.1.map rI), .V j36.2.1]]], [.us v37 46 5 (j36.2.2.map Product.row)], I, I, v37, I, I, I⟩⟩
theorem L.zdti_ok (b0 : Nat) (s_0 : KS) (volume_1 : Int) (batches_2 : Int) (r : (List Piece) × KS) (h : L.zdti s_0 volume_1 batches_2 = some r) : ACalls Tryz.env 13 [.v (.pointer (some ⟨b0, 0, none⟩)), .V volume_1, .V batches_2] [.arr b0 106 2 1 [KS.row s_0]] (Gives 1 (fun x os new => ∃ (u0 : Value), x = .v u0 ∧ os = [.arr b0 106 2 1 [KS.row r.2]] ∧ new = [.us u0 102 2 (r.1.map Piece.row)])) := by
 refine ACalls.of_body Tryz.func13 rfl rfl rfl (fun C hC => ?_)
 unfold L.zdti at h
 refine AW.z I (AW.z I (AW.cutX (fun s ob => ∃ (j110 : (List Int) × Int × (List Piece)) (v111 : Value), L.zdti.J1 j110 = some r ∧ s = [(7, .v v111)] ∧ ob = [.arr b0 106 2 1 [[.list 1 (j110.1.map rI), .V j110.2.1]], .us v111 102 2 (j110.2.2.map Piece.row)]) [] J ?_ ?_))
 refine AW.block (AW.ghost (Ghost.nilU 102 2) ?_)
 obtain ⟨o219, hL220, hR221⟩ := ob_some h
 clear h
 refine AW.loopX hL220 [(0, _), (2, _)] ⟨I, I, J⟩ (fun (st177 : (List Int) × Int × Int × (List Piece)) s ob => ∃ (v178 : Value), s = [(1, .V st177.2.2.1), (7, .v v178)] ∧ ob = [.arr b0 106 2 1 [[.list 1 (st177.1.map rI), .V st177.2.1]], .us v178 102 2 (st177.2.2.2.map Piece.row)]) ⟨(.slice none 0 0), I, I⟩ ⟨I, I, J⟩ ⟨[0, 1], I, by decide⟩ ?_
 rintro st177 r223 s ob ⟨v178, rfl, rfl⟩ h hb222
 unfold L.zdti.B2 at h
 refine AW.seqG (fun y224 hy224 => (AW.cutX (fun s ob => s = [(15, .v (.bool (decide (st177.2.2.1 > 0) && decide ((st177.2.2.2.length : Int) < 12))))] ∧ ob = [.arr b0 106 2 1 [[.list 1 (st177.1.map rI), .V st177.2.1]], .us v178 102 2 (st177.2.2.2.map Piece.row)]) [(0, _), (1, _), (2, _), (7, _)] ⟨I, I, I, I, J⟩ ?_ ?_))
 refine AW.region (AO.q 3 I ?_)
 rcases bt (decide (st177.2.2.1 > 0)) with hg227 | hg227
 refine AO.known 11 I hg227 (AO.q 1 I (AO.gt I I I (AO.d (Yd.lenUM 1 I I I I) I (AO.q 2 I (AO.nil ?_)))))
 exact lf ⟨I, I⟩ ⟨(get_b (by simp only [hg227, bz])), I, I, I, I, J⟩ [0, 1] I
 refine AO.known 11 I hg227 (AO.q 4 I (AO.nil ?_))
 exact lf ⟨I, I⟩ ⟨(get_b (by simp only [hg227, bz])), I, I, I, I, J⟩ [0, 1] I
 rintro s ob ⟨rfl, rfl⟩
 refine AW.ch h I ?_ ?_
 intro hc228 h
 refine AW.skip ?_
 subst hy224
 refine AW.block (AW.seqG (fun y229 hy229 => ?_))
 obtain ⟨r230, hx231, h⟩ := ob_some h
 obtain ⟨r232, hx233, h⟩ := ob_some h
 refine AW.region (AO.q 2 I (AO.act [0] I (AX.c0 [0] (L.zdjb_ok b0 _ _ _ hx231) ?_)))
 refine AO.r 5 [.f 3 (.V (wr ((wr (st177.2.2.1 * 2)).tdiv 3)))] I ⟨Yp.yd (Yp.binI (c := wr ((wr (st177.2.2.1 * 2)).tdiv 3)) I I ⟨by decide, I⟩), J⟩ (AO.act [0] I (AX.c0 [0] (L.ziuk_ok b0 _ _ _ _ hx233) ?_))
 refine AO.p (Yp.buildP (l := [.V r230.1, .V r232.1]) Tryz.bld102 I) I (AO.act [] I (AX.alloc (cs := [.V 0, .V 0]) (m := 2) I I I I I dS (fun b234 => (AO.act [2] I (AX.store 2 0 0 (es' := [[.V r230.1, .V r232.1]]) I I I I I I I I (le_ble I) I I (AO.nil ?_))))))
 subst hy229
 refine AW.cutX (fun s ob => ∃ (j236 : Int), L.zdti.J3 batches_2 st177 r230 r232 j236 = some r223 ∧ s = [] ∧ ob = [.arr b0 106 2 1 [KS.row r232.2], .us v178 102 2 (st177.2.2.2.map Piece.row), .arr b234 102 2 1 [[.V r230.1, .V j236]]]) [(0, _), (1, _), (2, _), (7, _), (8, _)] ⟨I, I, I, I, I, J⟩ ?_ ?_
 refine AW.seq (AW.region (AO.q 1 I (AO.d (Yd.lenUM 1 I I I I) I (AO.q 1 I (AO.nil (AW.ch h I ?_ ?_))))))
 intro hc292 h
 refine AW.region (AO.q 2 I (AO.act [2] I (AX.store 2 0 1 (es' := [[.V r230.1, .V st177.2.2.1]]) I I I I I I I I (le_ble I) I I (AO.nil ?_))))
 exact lg ⟨st177.2.2.1, h, I, I⟩ [0, 1, 2]
 intro hc292 h
 refine AW.skip ?_
 exact lg ⟨r232.1, h, I, I⟩ [0, 1, 2]
 rintro s ob ⟨j236, h, rfl, rfl⟩
 unfold L.zdti.J3 at h
 refine AW.seqG (fun y237 hy237 => (AW.region (AO.r 5 [.o 1 2] I ⟨I, J⟩ (AO.act [2] I (AX.store 2 0 1 (es' := [[.V r230.1, .V (min j236 st177.2.2.1)]]) I I I I I I I I (le_ble I) I I (AO.nil ?_))))))
 subst hy237
 refine AW.cutX (fun s ob => ∃ (j259 : Int), L.zdti.J4 st177 r232 j236 j259 = some r223 ∧ s = [(1, .V st177.2.2.1)] ∧ ob = [.arr b0 106 2 1 [KS.row r232.2], .us v178 102 2 (st177.2.2.2.map Piece.row), .arr b234 102 2 1 [[.V j259, .V (min j236 st177.2.2.1)]]]) [(0, _), (2, _), (7, _), (8, _)] ⟨I, I, I, I, J⟩ ?_ ?_
 refine AW.cutX (fun s ob => ∃ (j271 : Bool), L.zdti.J5 batches_2 st177 r230 r232 j236 j271 = some r223 ∧ s = [(50, .v (.bool j271))] ∧ ob = [.arr b0 106 2 1 [KS.row r232.2], .us v178 102 2 (st177.2.2.2.map Piece.row), .arr b234 102 2 1 [[.V r230.1, .V (min j236 st177.2.2.1)]]]) [(0, _), (1, _), (2, _), (7, _), (8, _)] ⟨I, I, I, I, I, J⟩ ?_ ?_
 rcases bt (decide ((st177.2.2.2.length : Int) > 0)) with hg285 | hg285
 replace h := ife_t hg285 h
 obtain ⟨p286, hp287, h⟩ := ob_some h
 obtain ⟨hp287i, hp287x⟩ := ix_some hp287
 refine AW.formL 1 I (fun hf288 => (AW.formL 1 I (fun hf289 => (AW.form 1 p286.1 I hp287x (fun hf290 => (AW.rd (pd 15 0 []) [1, 2] [_, _] I (AP.q 1 I (AP.op I (Yp.lenUf I I I hf288) I (AP.q 2 I (AP.known 39 I hg285 (AP.q 2 I (AP.oldG I I I I ((Yp.lenUf I I I hf289).yd) dS (AP.q 1 I (AP.oldG I I I I ((Yp.indexUf (m := p286.1) I I I I I hf290 I hp287i hp287x).yd) dS (AP.q 1 I ?_)))))))))))))))
 refine AP.oldG I I I I (Yd.loadU 0 p286.1 0 I I I (map_get hp287x) I (y := .V p286.2.Batch) I) dS (AP.r 4 [.o 1 1] I ⟨I, J⟩ (AP.ofAO (AO.nil ?_)))
 exact lg ⟨(p286.2.Batch == r230.1), h, I, I⟩ [0, 1, 2]
 replace h := ife_f hg285 h
 refine AW.formL 1 I (fun hf291 => (AW.rd (pd 15 0 []) [] [] I (AP.q 1 I (AP.op I (Yp.lenUf I I I hf291) I (AP.q 2 I (AP.known 39 I hg285 (AP.q 11 I (AP.ofAO (AO.nil ?_)))))))))
 exact lg ⟨false, h, I, I⟩ [0, 1, 2]
 rintro s ob ⟨j271, h, rfl, rfl⟩
 unfold L.zdti.J5 at h
 refine AW.ch h I ?_ ?_
 intro hc272 h
 refine AW.seqG (fun y273 hy273 => ?_)
 obtain ⟨x274, hx275, h⟩ := ob_some h
 refine AW.region (AO.r 6 [.o 1 2, .f 4 (.V x274)] I ⟨Yp.yd (Yp.binI (c := x274) I I (rem_some hx275)), I, J⟩ (AO.act [2] I (AX.store 2 0 0 (es' := [[.V x274, .V (min j236 st177.2.2.1)]]) I I I I I I I I (le_ble I) I I (AO.nil ?_))))
 subst hy273
 refine AW.seqG (fun y276 hy276 => ?_)
 obtain ⟨p277, hp278, h⟩ := ob_some h
 obtain ⟨hp278i, hp278x⟩ := ix_some hp278
 refine AW.formL 1 I (fun hf279 => (AW.form 1 p277.1 I hp278x (fun hf280 => (AW.rd (pd 10 0 []) [1, 2] [_, _] I (AP.q 2 I (AP.op I (Yp.lenUf I I I hf279) I (AP.q 1 I (AP.op I (Yp.indexUf (m := p277.1) I I I I I hf280 I hp278i hp278x) I (AP.q 1 I (AP.o I (Yd.loadU 0 p277.1 0 I I I (map_get hp278x) I (y := .V p277.2.Batch) I) I (AP.r 3 [.o 1 1] I ⟨I, J⟩ (AP.ofAO (AO.nil ?_)))))))))))))
 subst hy276
 refine AW.ch h I ?_ ?_
 intro hc281 h
 refine AW.seq (AW.formL 1 I (fun hf282 => (AW.form 1 p277.1 I hp278x (fun hf283 => (AW.form 1 p277.1 I hp278x (fun hf284 => (AW.rd (.still 0 (.still 1 (.still 2 (.still 3 (.still 4 (.still 5 (.still 6 (.still 7 (.still 8 (.still 9 (.still 10 (.still 11 (.drop 12 .nil))))))))))))) [1, 2] [_, _] I (AP.q 2 I (AP.op I (Yp.lenUf I I I hf282) I (AP.q 1 I (AP.op I (Yp.indexUf (m := p277.1) I I I I I hf283 I hp278i hp278x) I (AP.q 1 I (AP.o I (Yd.loadU 0 p277.1 1 I I I (map_get hp278x) I (y := .V p277.2.Volume) I) I (AP.r 3 [.o 1 1] I ⟨I, J⟩ (AP.op I (Yp.indexUf (m := p277.1) I I I I I hf284 I hp278i hp278x) I ?_)))))))))))))))
 refine AP.q 1 I (AP.drop [1] I I I (AX.storeU 1 p277.1 1 I I I (map_get hp278x) I I I I (le_ble I) I (us_set (x := (⟨p277.2.Batch, wr (p277.2.Volume + (min j236 st177.2.2.1))⟩ : Piece)) I) (AP.ofAO (AO.nil (AW.zr [.o 2 2] I ⟨I, J⟩ ?_)))))
 obtain rfl := oi h
 refine AW.exit ?_
 exact ⟨_, _, _, I, ⟨v178, I, I⟩, ⟨I, I, I, I, J⟩, [0, 1], I, by decide⟩
 intro hc281 h
 refine AW.skip ?_
 exact lg ⟨x274, h, I, I⟩ [0, 1, 2]
 intro hc272 h
 refine AW.skip ?_
 exact lg ⟨r230.1, h, I, I⟩ [0, 1, 2]
 rintro s ob ⟨j259, h, rfl, rfl⟩
 unfold L.zdti.J4 at h
 refine AW.zr [.o 2 2] I ⟨I, J⟩ ?_
 obtain ⟨l261, hx262, h⟩ := ob_some h
 refine AW.region (AO.r 2 [.o 1 2] I ⟨I, J⟩ (AO.act [] I (AX.lt 2 (([(⟨j259, (min j236 st177.2.2.1)⟩ : Piece)] : List Piece).map Piece.row) (AO.act [1] I (AX.ap 1 I hx262 (fun v263 => (AO.q 1 I ?_)))))))
 obtain rfl := oi h
 refine AO.nil ?_
 exact ⟨_, _, _, I, ⟨v263, I, I⟩, ⟨I, I, I, I, J⟩, [0, 1], I, by decide⟩
 intro hc228 h
 obtain rfl := hb222 _ (oi h).symm
 replace h := hR221
 refine AW.exit ?_
 exact lg ⟨(st177.1, st177.2.1, st177.2.2.2), v178, h, I, I⟩ [0, 1]
 rintro s ob ⟨j110, v111, h, rfl, rfl⟩
 unfold L.zdti.J1 at h
 refine AW.z I ?_
 obtain rfl := oi h
 exact AW.ret ⟨.inr I, [_], [.arr b0 106 2 1 [[.list 1 (j110.1.map rI), .V j110.2.1]], .us v111 102 2 (j110.2.2.map Piece.row)], ⟨I, J⟩, sl_c I (sl_c I (sl_n)), ⟨[.arr b0 106 2 1 [[.list 1 (j110.1.map rI), .V j110.2.1]]], [.us v111 102 2 (j110.2.2.map Piece.row)], I, I, v111, I, I, I⟩⟩
theorem L.ziyq_ok (b0 : Nat) (s_0 : KS) (count_1 : Int) (products_2 : Int) (r : (List Batch) × KS) (h : L.ziyq s_0 count_1 products_2 = some r) : ACalls Tryz.env 32 [.v (.pointer (some ⟨b0, 0, none⟩)), .V count_1, .V products_2] [.arr b0 106 2 1 [KS.row s_0]] (Gives 1 (fun x os new => ∃ (u0 : Value), x = .v u0 ∧ os = [.arr b0 106 2 1 [KS.row r.2]] ∧ new = [.us u0 135 4 (r.1.map Batch.row)])) := by
 refine ACalls.of_body Tryz.func32 rfl rfl rfl (fun C hC => ?_)
 unfold L.ziyq at h
 refine AW.z I (AW.z I (AW.cutX (fun s ob => ∃ (j46 : (List Int) × Int × (List Batch)) (v47 : Value), L.ziyq.J1 j46 = some r ∧ s = [(7, .v v47)] ∧ ob = [.arr b0 106 2 1 [[.list 1 (j46.1.map rI), .V j46.2.1]], .us v47 135 4 (j46.2.2.map Batch.row)]) [] J ?_ ?_))
 refine AW.z I (AW.block (AW.ghost (Ghost.nilU 135 4) ?_))
 obtain ⟨o91, hL92, hR93⟩ := ob_some h
 clear h
 refine AW.loopX hL92 [(0, _), (1, _), (2, _)] ⟨I, I, I, J⟩ (fun (st77 : (List Int) × Int × (List Batch) × Int) s ob => ∃ (v78 : Value), s = [(7, .v v78), (8, .V st77.2.2.2)] ∧ ob = [.arr b0 106 2 1 [[.list 1 (st77.1.map rI), .V st77.2.1]], .us v78 135 4 (st77.2.2.1.map Batch.row)]) ⟨(.slice none 0 0), I, I⟩ ⟨I, I, J⟩ ⟨[0, 1], I, by decide⟩ ?_
 rintro st77 r95 s ob ⟨v78, rfl, rfl⟩ h hb94
 unfold L.ziyq.B2 at h
 refine AW.seqG (fun y96 hy96 => (AW.z I (AW.ch h I ?_ ?_)))
 intro hc97 h
 refine AW.skip ?_
 subst hy96
 refine AW.seq (AW.block ?_)
 obtain ⟨r98, hx99, h⟩ := ob_some h
 obtain ⟨r100, hx101, h⟩ := ob_some h
 obtain ⟨r102, hx103, h⟩ := ob_some h
 obtain ⟨l105, hx106, h⟩ := ob_some h
 refine AW.region (AO.q 3 I (AO.act [0] I (AX.c0 [0] (L.zdjb_ok b0 _ _ _ hx99) ?_)))
 refine AO.q 1 I (AO.act [0] I (AX.c0 [0] (L.zdjb_ok b0 _ _ _ hx101) ?_))
 refine AO.c (L.zeyi_ok _ _ _ hx103) (AO.p (Yp.buildP (l := [.V r98.1, .v (.string r102), .V 0, .V 1]) Tryz.bld135 I) I (AO.act [] I (AX.lt 4 (([(⟨r98.1, r102, 0, 1⟩ : Batch)] : List Batch).map Batch.row) (AO.act [1] I (AX.ap 1 I hx106 (fun v107 => (AO.q 1 I (AO.nil (AW.region (AO.q 3 I ?_))))))))))
 obtain rfl := oi h
 refine AO.nil ?_
 exact ⟨_, _, _, I, ⟨v107, I, I⟩, ⟨I, I, I, I, I, J⟩, [0, 1], I, by decide⟩
 intro hc97 h
 obtain rfl := hb94 _ (oi h).symm
 replace h := hR93
 refine AW.exit ?_
 exact lg ⟨(st77.1, st77.2.1, st77.2.2.1), v78, h, I, I⟩ [0, 1]
 rintro s ob ⟨j46, v47, h, rfl, rfl⟩
 unfold L.ziyq.J1 at h
 refine AW.z I ?_
 obtain rfl := oi h
 exact AW.ret ⟨.inr I, [_], [.arr b0 106 2 1 [[.list 1 (j46.1.map rI), .V j46.2.1]], .us v47 135 4 (j46.2.2.map Batch.row)], ⟨I, J⟩, sl_c I (sl_c I (sl_n)), ⟨[.arr b0 106 2 1 [[.list 1 (j46.1.map rI), .V j46.2.1]]], [.us v47 135 4 (j46.2.2.map Batch.row)], I, I, v47, I, I, I⟩⟩
end Go.Proofs.YtehbcbedipkifaaGreatDoor
