/- Walks that show what functions of the program compute; printed by a program of ours. No condition. -/
import Derived.Test.YtehbcbedipkifaaGreatDoorZxLh1
set_option maxRecDepth 100000
namespace Go.Proofs.YtehbcbedipkifaaGreatDoor
open Go.Aw
set_option linter.unusedVariables false
set_option linter.unusedSimpArgs false
set_option maxHeartbeats 4000000
theorem L.zqwn_ok : ACalls Tryz.env 29 [] [] (fun x new => ∃ (v5 : Value) (v9 : Value) (v8 : Value) (v11 : Value) (v12 : Value) (v13 : Value) (v14 : Value) (v15 : Value), x = .tup [.agg [.v v5, .v v9, .v v11, .v v12, .V 50000, .V 10], .agg [.v v13, .v v14, .v v15]] ∧ new = [.us v5 9 1 (([(⟨#[97]⟩ : ByteArray), (⟨#[98]⟩ : ByteArray)] : List ByteArray).map rS), .us v9 77 7 [[.v (.string (⟨#[115]⟩ : ByteArray)), .V 0, .V 1, .V 100, .V 1, .V 50, .v v8]], .us v8 104 3 (([(⟨0, 0, 900000⟩ : Point), (⟨100, 20, 900000⟩ : Point)] : List Point).map Point.row), .us v11 74 3 (([(⟨(⟨#[105, 110]⟩ : ByteArray), 0, 300000⟩ : Port), (⟨(⟨#[111, 117, 116]⟩ : ByteArray), 1, 0⟩ : Port)] : List Port).map Port.row), .us v12 83 5 (([(⟨(⟨#[112]⟩ : ByteArray), 0, 500000, 200, 100000⟩ : Station)] : List Station).map Station.row), .us v13 3 1 (([20] : List Int).map rI), .us v14 3 1 (([20, (-20)] : List Int).map rI), .us v15 4 1 (([true] : List Bool).map rB)]) := by
 refine ACalls.of_body Tryz.func29 rfl rfl rfl (fun C hC => ?_)
 refine AW.seqG (fun y1 hy1 => (AW.region (AO.act [] I (AX.alloc (cs := [.v (.slice none 0 0), .v (.slice none 0 0), .v (.slice none 0 0), .v (.slice none 0 0), .V 0, .V 0]) (m := 6) I I I I I dS (fun b2 => (AO.act [] I (AX.alloc (cs := [.v (.slice none 0 0), .v (.slice none 0 0), .v (.slice none 0 0)]) (m := 3) I I I I I dS (fun b3 => (AO.nil ?_)))))))))
 subst hy1
 refine AW.seqG (fun y4 hy4 => (AW.region (AO.act [] I (AX.buildSlice (sz := 1) (es := ([(⟨#[97]⟩ : ByteArray), (⟨#[98]⟩ : ByteArray)] : List ByteArray).map rS) I I I I I I I I I I I dS (fun v5 => (AO.one 2 I (fun v5o => (AO.p (Yp.buildP (l := [.v v5, .v (.slice none 0 0), .v (.slice none 0 0), .v (.slice none 0 0), .V 50000, .V 10]) Tryz.bld27 (fill_step I I (cells_v v5o) I (fill_step I I I I (fill_step I I I I (fill_nil))))) I (AO.act [] I (AX.alloc (cs := [.v (.slice none 0 0), .v (.slice none 0 0), .v (.slice none 0 0), .v (.slice none 0 0), .V 0, .V 0]) (m := 6) I I I I I dS (fun b6 => (AO.act [3] I (AX.store 3 0 0 (es' := [[.v v5, .v (.slice none 0 0), .v (.slice none 0 0), .v (.slice none 0 0), .V 50000, .V 10]]) I I I I I I I I (le_ble I) I I (AO.nil ?_))))))))))))))
 subst hy4
 refine AW.seqG (fun y7 hy7 => (AW.region (AO.p (Yp.buildP (l := [.V 0, .V 0, .V 900000]) Tryz.bld104 I) I (AO.p (Yp.buildP (l := [.V 100, .V 20, .V 900000]) Tryz.bld104 I) I (AO.act [] I (AX.buildSlice (sz := 3) (es := ([(⟨0, 0, 900000⟩ : Point), (⟨100, 20, 900000⟩ : Point)] : List Point).map Point.row) I I I I I I I I I I I dS (fun v8 => (AO.one 4 I (fun v8o => (AO.p (Yp.buildP (l := [.v (.string (⟨#[115]⟩ : ByteArray)), .V 0, .V 1, .V 100, .V 1, .V 50, .v v8]) Tryz.bld77 (fill_step I I I I (fill_step I I I I (fill_step I I I I (fill_step I I I I (fill_step I I I I (fill_step I I (cells_v v8o) I (fill_nil)))))))) I (AO.act [] I (AX.buildSlice (sz := 7) (es := [[.v (.string (⟨#[115]⟩ : ByteArray)), .V 0, .V 1, .V 100, .V 1, .V 50, .v v8]]) I I I I I I I I I I I dS (fun v9 => (AO.q 1 I (AO.one 5 I (fun v9o => (AO.act [3] I (AX.store 3 0 1 (es' := [[.v v5, .v v9, .v (.slice none 0 0), .v (.slice none 0 0), .V 50000, .V 10]]) I I I I I I (cells_v v9o) I (le_ble I) I I (AO.nil ?_)))))))))))))))))))
 subst hy7
 refine AW.seqG (fun y10 hy10 => (AW.region (AO.p (Yp.buildP (l := [.v (.string (⟨#[105, 110]⟩ : ByteArray)), .V 0, .V 300000]) Tryz.bld74 I) I (AO.p (Yp.buildP (l := [.v (.string (⟨#[111, 117, 116]⟩ : ByteArray)), .V 1, .V 0]) Tryz.bld74 I) I (AO.act [] I (AX.buildSlice (sz := 3) (es := ([(⟨(⟨#[105, 110]⟩ : ByteArray), 0, 300000⟩ : Port), (⟨(⟨#[111, 117, 116]⟩ : ByteArray), 1, 0⟩ : Port)] : List Port).map Port.row) I I I I I I I I I I I dS (fun v11 => (AO.q 1 I (AO.one 6 I (fun v11o => (AO.act [3] I (AX.store 3 0 2 (es' := [[.v v5, .v v9, .v v11, .v (.slice none 0 0), .V 50000, .V 10]]) I I I I I I (cells_v v11o) I (le_ble I) I I (AO.nil ?_)))))))))))))
 subst hy10
 refine AW.seq (AW.region (AO.p (Yp.buildP (l := [.v (.string (⟨#[112]⟩ : ByteArray)), .V 0, .V 500000, .V 200, .V 100000]) Tryz.bld83 I) I (AO.act [] I (AX.buildSlice (sz := 5) (es := ([(⟨(⟨#[112]⟩ : ByteArray), 0, 500000, 200, 100000⟩ : Station)] : List Station).map Station.row) I I I I I I I I I I I dS (fun v12 => (AO.q 1 I (AO.one 7 I (fun v12o => (AO.act [3] I (AX.store 3 0 3 (es' := [[.v v5, .v v9, .v v11, .v v12, .V 50000, .V 10]]) I I I I I I (cells_v v12o) I (le_ble I) I I (AO.nil (AW.seq (AW.region (AO.r 1 [.o 0 3] I ⟨I, J⟩ (AO.act [] I (AX.buildSlice (sz := 1) (es := ([20] : List Int).map rI) I I I I I I I I I I I dS (fun v13 => (AO.act [] I (AX.buildSlice (sz := 1) (es := ([20, (-20)] : List Int).map rI) I I I I I I I I I I I dS (fun v14 => ?_))))))))))))))))))))
 refine AO.act [] I (AX.buildSlice (sz := 1) (es := ([true] : List Bool).map rB) I I I I I I I I I I I dS (fun v15 => (AO.one 8 I (fun v13o => (AO.one 9 I (fun v14o => (AO.one 10 I (fun v15o => (AO.p (Yp.buildP (l := [.v v13, .v v14, .v v15]) Tryz.bld32 (fill_step I I (cells_v v13o) I (fill_step I I (cells_v v14o) I (fill_step I I (cells_v v15o) I (fill_nil))))) I (AO.act [0] I (AX.store 0 0 0 (es' := [[.v v5, .v v9, .v v11, .v v12, .V 50000, .V 10]]) I I I I I I I I (le_ble I) I I (AO.act [1] I (AX.store 1 0 0 (es' := [[.v v13, .v v14, .v v15]]) I I I I I I I I (le_ble I) I I (AO.nil (AW.ghost (Ghost.pick [2, 5, 4, 6, 7, 8, 9, 10, 0, 1] (K := [.us v5 9 1 (([(⟨#[97]⟩ : ByteArray), (⟨#[98]⟩ : ByteArray)] : List ByteArray).map rS), .us v9 77 7 [[.v (.string (⟨#[115]⟩ : ByteArray)), .V 0, .V 1, .V 100, .V 1, .V 50, .v v8]], .us v8 104 3 (([(⟨0, 0, 900000⟩ : Point), (⟨100, 20, 900000⟩ : Point)] : List Point).map Point.row), .us v11 74 3 (([(⟨(⟨#[105, 110]⟩ : ByteArray), 0, 300000⟩ : Port), (⟨(⟨#[111, 117, 116]⟩ : ByteArray), 1, 0⟩ : Port)] : List Port).map Port.row), .us v12 83 5 (([(⟨(⟨#[112]⟩ : ByteArray), 0, 500000, 200, 100000⟩ : Station)] : List Station).map Station.row), .us v13 3 1 (([20] : List Int).map rI), .us v14 3 1 (([20, (-20)] : List Int).map rI), .us v15 4 1 (([true] : List Bool).map rB), .arr b2 27 6 1 [[.v v5, .v v9, .v v11, .v v12, .V 50000, .V 10]], .arr b3 32 3 1 [[.v v13, .v v14, .v v15]]]) I (by decide)) ?_)))))))))))))))
 exact AW.ret ⟨.inr I, [_, _], [.us v5 9 1 (([(⟨#[97]⟩ : ByteArray), (⟨#[98]⟩ : ByteArray)] : List ByteArray).map rS), .us v9 77 7 [[.v (.string (⟨#[115]⟩ : ByteArray)), .V 0, .V 1, .V 100, .V 1, .V 50, .v v8]], .us v8 104 3 (([(⟨0, 0, 900000⟩ : Point), (⟨100, 20, 900000⟩ : Point)] : List Point).map Point.row), .us v11 74 3 (([(⟨(⟨#[105, 110]⟩ : ByteArray), 0, 300000⟩ : Port), (⟨(⟨#[111, 117, 116]⟩ : ByteArray), 1, 0⟩ : Port)] : List Port).map Port.row), .us v12 83 5 (([(⟨(⟨#[112]⟩ : ByteArray), 0, 500000, 200, 100000⟩ : Station)] : List Station).map Station.row), .us v13 3 1 (([20] : List Int).map rI), .us v14 3 1 (([20, (-20)] : List Int).map rI), .us v15 4 1 (([true] : List Bool).map rB)], ⟨⟨8, _, _, _, _, _, _, _, I, I, I, I, I⟩, ⟨9, _, _, _, _, _, _, _, I, I, I, I, I⟩, J⟩, sl_c I (sl_c I (sl_c I (sl_c I (sl_c I (sl_c I (sl_c I (sl_c I (sl_n)))))))), ⟨v5, v9, v8, v11, v12, v13, v14, v15, I, I⟩⟩
theorem L.zonc_own (n_0 : Network) (batches_1 : List Batch) (products_2 : List Product) (fills_3 : List (List Piece)) (p_4 : Plan) (r : Pressures × Int) (h : L.zonc n_0 batches_1 products_2 fills_3 p_4 = some r) : ACalls Tryz.env 16 [.agg (Network.row n_0), .list 4 (batches_1.map Batch.row), .list 5 (products_2.map Product.row), .list 1 (fills_3.map (rL 2 Piece.row)), .agg (Plan.row p_4)] [] (fun x new => ∃ (v1 : Value) (v2 : Value) (v3 : Value), x = .tup [.agg [.v v1, .v v2, .v (v3)], .V r.2] ∧ new = [.us v1 4 1 (r.1.Known.map rB), .us v2 71 2 (r.1.Nodes.map Bounds.row)]) := by
 refine ACalls.of_body Tryz.func16 rfl rfl rfl (fun C hC => ?_)
 unfold L.zonc at h
 refine AW.seqG (fun y4 hy4 => (AW.region (AO.act [] I (AX.box (cs := Network.row n_0) (m := 6) I I I dS (fun b5 => (AO.act [] I (AX.box (cs := [.list 4 (batches_1.map Batch.row)]) (m := 1) I I I dS (fun b6 => (AO.act [] I (AX.box (cs := [.list 5 (products_2.map Product.row)]) (m := 1) I I I dS (fun b7 => (AO.act [] I (AX.box (cs := Plan.row p_4) (m := 3) I I I dS (fun b8 => (AO.act [] I (AX.alloc (cs := [.v (.slice none 0 0), .v (.slice none 0 0), .v (.slice none 0 0)]) (m := 3) I I I I I dS (fun b9 => (AO.q 1 I (AO.nil ?_)))))))))))))))))))
 subst hy4
 refine AW.seqG (fun y10 hy10 => ?_)
 obtain ⟨r11, hx12, h⟩ := ob_some h
 refine AW.region (AO.r 2 [.o 0 0, .o 1 3] I ⟨I, I, J⟩ (AO.act [] I (AX.call0 I I I (L.zyyp_ok _ _ _ hx12) dS ?_)))
 rintro _ _ ⟨v13, rfl, rfl⟩
 refine AO.q 5 I (AO.nil ?_)
 subst hy10
 refine AW.seqG (fun y14 hy14 => (AW.z I (AW.ch h I ?_ ?_)))
 intro hc15 h
 refine AW.seq (AW.region (AO.p (Yp.buildP (l := [.v (.slice none 0 0), .v (.slice none 0 0), .v (.slice none 0 0)]) Tryz.bld36 I) I (AO.q 1 I (AO.act [4] I (AX.store 4 0 0 (es' := [[.v (.slice none 0 0), .v (.slice none 0 0), .v (.slice none 0 0)]]) I I I I I I I I (le_ble I) I I (AO.q 1 I (AO.nil (AW.ghost (Ghost.nilU 4 1) (AW.ghost (Ghost.nilU 71 2) (AW.ghost (Ghost.pick [6, 7, 4] (K := [.us (.slice none 0 0) 4 1 ([].map rB), .us (.slice none 0 0) 71 2 ([].map Bounds.row), .arr b9 36 3 1 [[.v (.slice none 0 0), .v (.slice none 0 0), .v (.slice none 0 0)]]]) I (by decide)) ?_))))))))))
 obtain rfl := oi h
 rotate_left
 intro hc15 h
 refine AW.skip ?_
 subst hy14
 refine AW.seqG (fun y16 hy16 => (AW.seq ?_))
 obtain ⟨r17, hx18, h⟩ := ob_some h
 refine AW.region (AO.r 2 [.o 0 0] I ⟨I, J⟩ (AO.c (L.zspo_ok _ _ _ hx18) (AO.q 1 I (AO.nil (AW.z I (AW.ch h I ?_ ?_))))))
 intro hc19 h
 refine AW.seq (AW.region (AO.p (Yp.buildP (l := [.v (.slice none 0 0), .v (.slice none 0 0), .v (.slice none 0 0)]) Tryz.bld36 I) I (AO.q 1 I (AO.act [4] I (AX.store 4 0 0 (es' := [[.v (.slice none 0 0), .v (.slice none 0 0), .v (.slice none 0 0)]]) I I I I I I I I (le_ble I) I I (AO.q 1 I (AO.nil (AW.ghost (Ghost.nilU 4 1) (AW.ghost (Ghost.nilU 71 2) (AW.ghost (Ghost.pick [6, 7, 4] (K := [.us (.slice none 0 0) 4 1 ([].map rB), .us (.slice none 0 0) 71 2 ([].map Bounds.row), .arr b9 36 3 1 [[.v (.slice none 0 0), .v (.slice none 0 0), .v (.slice none 0 0)]]]) I (by decide)) ?_))))))))))
 obtain rfl := oi h
 rotate_left
 intro hc19 h
 refine AW.skip ?_
 subst hy16
 refine AW.seqG (fun y20 hy20 => (AW.seq ?_))
 obtain ⟨r21, hx22, h⟩ := ob_some h
 refine AW.region (AO.r 1 [.o 0 2] I ⟨I, J⟩ (AO.c (L.zwas_ok _ _ hx22) (AO.q 1 I (AO.nil (AW.z I (AW.ch h I ?_ ?_))))))
 intro hc23 h
 refine AW.seq (AW.region (AO.p (Yp.buildP (l := [.v (.slice none 0 0), .v (.slice none 0 0), .v (.slice none 0 0)]) Tryz.bld36 I) I (AO.q 1 I (AO.act [4] I (AX.store 4 0 0 (es' := [[.v (.slice none 0 0), .v (.slice none 0 0), .v (.slice none 0 0)]]) I I I I I I I I (le_ble I) I I (AO.q 1 I (AO.nil (AW.ghost (Ghost.nilU 4 1) (AW.ghost (Ghost.nilU 71 2) (AW.ghost (Ghost.pick [6, 7, 4] (K := [.us (.slice none 0 0) 4 1 ([].map rB), .us (.slice none 0 0) 71 2 ([].map Bounds.row), .arr b9 36 3 1 [[.v (.slice none 0 0), .v (.slice none 0 0), .v (.slice none 0 0)]]]) I (by decide)) ?_))))))))))
 obtain rfl := oi h
 rotate_left
 intro hc23 h
 refine AW.skip ?_
 subst hy20
 refine AW.cutX (fun s ob => ∃ (j44 : Unit), L.zonc.J1 n_0 batches_1 products_2 fills_3 p_4 r11 j44 = some r ∧ s = [] ∧ ob = [.arr b5 27 6 1 [Network.row n_0], .arr b6 28 1 1 [[.list 4 (batches_1.map Batch.row)]], .arr b7 41 1 1 [[.list 5 (products_2.map Product.row)]], .arr b8 32 3 1 [Plan.row p_4], .arr b9 36 3 1 [[.v (.slice none 0 0), .v (.slice none 0 0), .v (.slice none 0 0)]], .us v13 3 1 (r11.1.map rI)]) [(3, _), (5, _), (6, _), (7, _), (9, _), (10, _), (12, _)] ⟨I, I, I, I, I, I, I, J⟩ ?_ ?_
 refine AW.zr [.l 1 (fills_3.length : Int)] I ⟨len_m, J⟩ (AW.block (AW.listMax 45 I (fun hm197 => ?_)))
 replace hm197 : fills_3.length ≤ 9223372036854775806 := by rw [List.length_map] at hm197; omega
 obtain ⟨o212, hL213, hR214⟩ := ob_some h
 clear h
 refine AW.forX hL213 [(3, _), (5, _), (6, _), (7, _), (9, _), (10, _), (12, _), (45, _), (46, _)] ⟨I, I, I, I, I, I, I, I, I, J⟩ (fun (k195 : Nat) (st206 : Unit) s ob => s = [(47, .V (k195 : Int))] ∧ ob = [.arr b5 27 6 1 [Network.row n_0], .arr b6 28 1 1 [[.list 4 (batches_1.map Batch.row)]], .arr b7 41 1 1 [[.list 5 (products_2.map Product.row)]], .arr b8 32 3 1 [Plan.row p_4], .arr b9 36 3 1 [[.v (.slice none 0 0), .v (.slice none 0 0), .v (.slice none 0 0)]], .us v13 3 1 (r11.1.map rI)]) ⟨I, I⟩ ⟨I, J⟩ ⟨[0, 1, 2, 3, 4, 5], I, by decide⟩ ?_ ?_
 rintro k195 x198 st206 r216 s ob hx199 hk196 ⟨rfl, rfl⟩ h hb215
 unfold L.zonc.B5 at h
 have hk196t : decide ((k195 : Int) < (fills_3.length : Int)) = true := decide_eq_true (by omega)
 refine AW.z I (AW.seqG (fun y218 hy218 => (AW.condK (v := true) I hk196t (AW.skip ?_))))
 subst hy218
 refine AW.seq (AW.block (AW.zr [.x 0 k195 ((rL 2 Piece.row) x198)] I ⟨⟨I, map_get hx199⟩, J⟩ (AW.seq ?_)))
 obtain ⟨r219, hx220, h⟩ := ob_some h
 refine AW.region (AO.q 1 I (AO.p (Yp.makeFunc I I) I (AO.act [] I (AX.callL I (.refl _) I I (.cons (.refl _) (.cons (.fn (.rest _) (.cons (.box 1 I (.rest _)) (.cons (.box 2 I (.rest _)) (.rest _)))) (.rest _))) I (L.zytx_ok _ (.fn 48 [] [.eptr ((rL 4 Batch.row) batches_1), .eptr ((rL 5 Product.row) products_2)]) I (fun x => L.zsma x batches_1 products_2) (fun x r h => L.zsma_ok x batches_1 products_2 r h) _ hx220) dS (by rintro _ _ ⟨rfl, _⟩; rfl) ?_))))
 rintro _ ⟨_, rfl, -⟩
 refine AO.nil (AW.ch h I ?_ ?_)
 intro hc221 h
 refine AW.seq (AW.region (AO.p (Yp.buildP (l := [.v (.slice none 0 0), .v (.slice none 0 0), .v (.slice none 0 0)]) Tryz.bld36 I) I (AO.act [4] I (AX.store 4 0 0 (es' := [[.v (.slice none 0 0), .v (.slice none 0 0), .v (.slice none 0 0)]]) I I I I I I I I (le_ble I) I I (AO.q 1 I (AO.nil ?_))))))
 obtain rfl := hb215 _ (oi h).symm
 replace h := hR214
 replace h := se_r h
 refine AW.ghost (Ghost.nilU 4 1) (AW.ghost (Ghost.nilU 71 2) (AW.ghost (Ghost.pick [6, 7, 4] (K := [.us (.slice none 0 0) 4 1 ([].map rB), .us (.slice none 0 0) 71 2 ([].map Bounds.row), .arr b9 36 3 1 [[.v (.slice none 0 0), .v (.slice none 0 0), .v (.slice none 0 0)]]]) I (by decide)) ?_))
 obtain rfl := oi h
 any_goals
  exact AW.ret ⟨.inr I, [_, _], [.us (.slice none 0 0) 4 1 ([].map rB), .us (.slice none 0 0) 71 2 ([].map Bounds.row)], ⟨⟨2, _, _, _, _, _, _, _, I, I, I, I, I⟩, I, J⟩, sl_c I (sl_c I (sl_n)), ⟨(.slice none 0 0), (.slice none 0 0), (.slice none 0 0), I, I⟩⟩
 intro hc221 h
 refine AW.skip (AW.region (AO.r 2 [.k 0 (k195 + 1 : Nat)] I ⟨cast_wr hk196 hm197, J⟩ ?_))
 obtain rfl := oi h
 refine AO.nil ?_
 exact ⟨_, _, _, I, ⟨I, I⟩, ⟨I, I, I, I, I, I, I, I, I, I, J⟩, [0, 1, 2, 3, 4, 5], I, by decide⟩
 rintro st206 s ob ⟨rfl, rfl⟩ he
 subst he
 have h := se_l hR214
 have hk196f : decide (((fills_3.length : Nat) : Int) < (fills_3.length : Int)) = false := by simp
 refine AW.z I (AW.seqG (fun y223 hy223 => (AW.condK (v := false) I hk196f (AW.exit ?_))))
 exact lg ⟨(), h, I, I⟩ [0, 1, 2, 3, 4, 5]
 rintro s ob ⟨j44, h, rfl, rfl⟩
 unfold L.zonc.J1 at h
 refine AW.seqG (fun y45 hy45 => (AW.region (AO.r 5 [.o 0 0, .o 1 1, .o 2 2, .o 4 3] I ⟨I, I, I, I, J⟩ (AO.p (Yp.buildP (l := [.list 1 (n_0.Nodes.map rS), .list 7 (n_0.Segments.map Segment.row), .list 3 (n_0.Ports.map Port.row), .list 5 (n_0.Stations.map Station.row), .V n_0.Vapour, .V n_0.Settle, .list 4 (batches_1.map Batch.row), .list 5 (products_2.map Product.row), .list 1 (fills_3.map (rL 2 Piece.row)), .list 1 (p_4.Rates.map rI), .list 1 (p_4.Ports.map rI), .list 1 (p_4.Pumps.map rB), .v (.slice none 0 0), .v (.slice none 0 0), .v (.slice none 0 0)]) Tryz.bld123 I) I (AO.act [] I (AX.box (cs := [.list 1 (n_0.Nodes.map rS), .list 7 (n_0.Segments.map Segment.row), .list 3 (n_0.Ports.map Port.row), .list 5 (n_0.Stations.map Station.row), .V n_0.Vapour, .V n_0.Settle, .list 4 (batches_1.map Batch.row), .list 5 (products_2.map Product.row), .list 1 (fills_3.map (rL 2 Piece.row)), .list 1 (p_4.Rates.map rI), .list 1 (p_4.Ports.map rI), .list 1 (p_4.Pumps.map rB), .v (.slice none 0 0), .v (.slice none 0 0), .v (.slice none 0 0)]) (m := 15) I I I dS (fun b46 => (AO.q 1 I (AO.nil ?_)))))))))
 subst hy45
 refine AW.cutX (fun s ob => ∃ (j59 : steady_line) (v60 : Value) (v61 : Value) (v62 : Value), L.zonc.J2 r11 j59 = some r ∧ s = [] ∧ ob = [.arr b9 36 3 1 [[.v (.slice none 0 0), .v (.slice none 0 0), .v (.slice none 0 0)]], .us v13 3 1 (r11.1.map rI), .arr b46 123 15 1 [steady_line.rowU j59 v60 v61 v62], .us v60 4 1 (j59.x.Known.map rB), .us v61 71 2 (j59.x.Nodes.map Bounds.row), .us v62 38 1 (j59.x.Segments.map (rL 3 Level.row))]) [(10, _), (12, _), (18, _)] ⟨I, I, I, J⟩ ?_ ?_
 obtain ⟨l182, hx183, h⟩ := ob_some h
 obtain ⟨m184, hx183i, hx183m, hx183r⟩ := mk_some hx183
 obtain ⟨l186, hx187, h⟩ := ob_some h
 obtain ⟨m188, hx187i, hx187m, hx187r⟩ := mk_some hx187
 obtain ⟨l190, hx191, h⟩ := ob_some h
 obtain ⟨m192, hx191i, hx191m, hx191r⟩ := mk_some hx191
 refine AW.rd (.still 0 (.still 1 (.still 2 (.still 3 (.still 5 (.still 6 (.still 7 (.still 9 (.still 10 (.still 11 (.three 4 8 12 (.two 8 12 (.act 12 (.still 13 (.still 14 (.still 15 (.act 16 .nil))))) (.act 8 (.still 13 (.still 14 (.still 15 (.act 16 .nil)))))) (.two 4 12 (.act 12 (.still 13 (.still 14 (.still 15 (.act 16 .nil))))) (.act 4 (.still 13 (.still 14 (.still 15 (.act 16 .nil)))))) (.two 4 8 (.act 8 (.still 13 (.still 14 (.still 15 (.act 16 .nil))))) (.act 4 (.still 13 (.still 14 (.still 15 (.act 16 .nil))))))))))))))))) [0] [_] I (AP.r 10 [.o 2 0, .l 3 (n_0.Nodes.length : Int), .o 5 0, .l 6 (n_0.Nodes.length : Int), .o 8 0, .l 9 (n_0.Segments.length : Int)] I ⟨len_m, I, len_m, I, len_m, I, J⟩ (AP.three ?_ ?_ ?_))
 refine AP.act [] I I I (AX.makeU (sz := 1) I I I I I I I I I I hx183i hx183m (rep_map (f := rB) hx183r I) dS (fun v185 => (AP.two ?_ ?_)))
 refine AP.act [] I I I (AX.makeU (sz := 2) I I I I I I I I I I hx187i hx187m (rep_map (f := Bounds.row) hx187r I) dS (fun v189 => (AP.act [] I I I (AX.makeU (sz := 1) (es' := List.replicate m192 [.v (.slice none 0 0)]) I I I I I I I I I I hx191i hx191m I dS (fun v193 => (AP.ghostS (Ghost.toLists (f := Level.row) 9 m192 3 hx191r I) I (AP.one 7 I (fun v185o => (AP.one 8 I (fun v189o => (AP.one 9 I (fun v193o => (AP.p I (Yp.buildP (l := [.v v185, .v v189, .v v193]) Tryz.bld36 (fill_step I I (cells_v v185o) I (fill_step I I (cells_v v189o) I (fill_step I I (cells_v v193o) I (fill_nil))))) I (AP.q 2 I (AP.act [6] I I I (AX.store 6 0 12 (es' := [[.list 1 (n_0.Nodes.map rS), .list 7 (n_0.Segments.map Segment.row), .list 3 (n_0.Ports.map Port.row), .list 5 (n_0.Stations.map Station.row), .V n_0.Vapour, .V n_0.Settle, .list 4 (batches_1.map Batch.row), .list 5 (products_2.map Product.row), .list 1 (fills_3.map (rL 2 Piece.row)), .list 1 (p_4.Rates.map rI), .list 1 (p_4.Ports.map rI), .list 1 (p_4.Pumps.map rB), .v v185, .v v189, .v v193]]) I I I I I I I I (le_ble I) I I (AP.ofAO (AO.nil ?_))))))))))))))))))
 exact lg ⟨(⟨n_0, batches_1, products_2, fills_3, p_4, (⟨l182, l186, l190⟩ : Pressures)⟩ : steady_line), v185, v189, v193, h, I, I⟩ [4, 5, 6, 7, 8, 9]
 refine AP.act [] I I I (AX.makeU (sz := 1) (es' := List.replicate m192 [.v (.slice none 0 0)]) I I I I I I I I I I hx191i hx191m I dS (fun v193 => (AP.ghostS (Ghost.toLists (f := Level.row) 8 m192 3 hx191r I) I (AP.act [] I I I (AX.makeU (sz := 2) I I I I I I I I I I hx187i hx187m (rep_map (f := Bounds.row) hx187r I) dS (fun v189 => (AP.one 7 I (fun v185o => (AP.one 9 I (fun v189o => (AP.one 8 I (fun v193o => (AP.p I (Yp.buildP (l := [.v v185, .v v189, .v v193]) Tryz.bld36 (fill_step I I (cells_v v185o) I (fill_step I I (cells_v v189o) I (fill_step I I (cells_v v193o) I (fill_nil))))) I (AP.q 2 I (AP.act [6] I I I (AX.store 6 0 12 (es' := [[.list 1 (n_0.Nodes.map rS), .list 7 (n_0.Segments.map Segment.row), .list 3 (n_0.Ports.map Port.row), .list 5 (n_0.Stations.map Station.row), .V n_0.Vapour, .V n_0.Settle, .list 4 (batches_1.map Batch.row), .list 5 (products_2.map Product.row), .list 1 (fills_3.map (rL 2 Piece.row)), .list 1 (p_4.Rates.map rI), .list 1 (p_4.Ports.map rI), .list 1 (p_4.Pumps.map rB), .v v185, .v v189, .v v193]]) I I I I I I I I (le_ble I) I I (AP.ofAO (AO.nil ?_))))))))))))))))))
 exact lg ⟨(⟨n_0, batches_1, products_2, fills_3, p_4, (⟨l182, l186, l190⟩ : Pressures)⟩ : steady_line), v185, v189, v193, h, I, I⟩ [4, 5, 6, 7, 9, 8]
 refine AP.act [] I I I (AX.makeU (sz := 2) I I I I I I I I I I hx187i hx187m (rep_map (f := Bounds.row) hx187r I) dS (fun v189 => (AP.two ?_ ?_)))
 refine AP.act [] I I I (AX.makeU (sz := 1) I I I I I I I I I I hx183i hx183m (rep_map (f := rB) hx183r I) dS (fun v185 => (AP.act [] I I I (AX.makeU (sz := 1) (es' := List.replicate m192 [.v (.slice none 0 0)]) I I I I I I I I I I hx191i hx191m I dS (fun v193 => (AP.ghostS (Ghost.toLists (f := Level.row) 9 m192 3 hx191r I) I (AP.one 8 I (fun v185o => (AP.one 7 I (fun v189o => (AP.one 9 I (fun v193o => (AP.p I (Yp.buildP (l := [.v v185, .v v189, .v v193]) Tryz.bld36 (fill_step I I (cells_v v185o) I (fill_step I I (cells_v v189o) I (fill_step I I (cells_v v193o) I (fill_nil))))) I (AP.q 2 I (AP.act [6] I I I (AX.store 6 0 12 (es' := [[.list 1 (n_0.Nodes.map rS), .list 7 (n_0.Segments.map Segment.row), .list 3 (n_0.Ports.map Port.row), .list 5 (n_0.Stations.map Station.row), .V n_0.Vapour, .V n_0.Settle, .list 4 (batches_1.map Batch.row), .list 5 (products_2.map Product.row), .list 1 (fills_3.map (rL 2 Piece.row)), .list 1 (p_4.Rates.map rI), .list 1 (p_4.Ports.map rI), .list 1 (p_4.Pumps.map rB), .v v185, .v v189, .v v193]]) I I I I I I I I (le_ble I) I I (AP.ofAO (AO.nil ?_))))))))))))))))))
 exact lg ⟨(⟨n_0, batches_1, products_2, fills_3, p_4, (⟨l182, l186, l190⟩ : Pressures)⟩ : steady_line), v185, v189, v193, h, I, I⟩ [4, 5, 6, 8, 7, 9]
 refine AP.act [] I I I (AX.makeU (sz := 1) (es' := List.replicate m192 [.v (.slice none 0 0)]) I I I I I I I I I I hx191i hx191m I dS (fun v193 => (AP.ghostS (Ghost.toLists (f := Level.row) 8 m192 3 hx191r I) I (AP.act [] I I I (AX.makeU (sz := 1) I I I I I I I I I I hx183i hx183m (rep_map (f := rB) hx183r I) dS (fun v185 => (AP.one 9 I (fun v185o => (AP.one 7 I (fun v189o => (AP.one 8 I (fun v193o => (AP.p I (Yp.buildP (l := [.v v185, .v v189, .v v193]) Tryz.bld36 (fill_step I I (cells_v v185o) I (fill_step I I (cells_v v189o) I (fill_step I I (cells_v v193o) I (fill_nil))))) I (AP.q 2 I (AP.act [6] I I I (AX.store 6 0 12 (es' := [[.list 1 (n_0.Nodes.map rS), .list 7 (n_0.Segments.map Segment.row), .list 3 (n_0.Ports.map Port.row), .list 5 (n_0.Stations.map Station.row), .V n_0.Vapour, .V n_0.Settle, .list 4 (batches_1.map Batch.row), .list 5 (products_2.map Product.row), .list 1 (fills_3.map (rL 2 Piece.row)), .list 1 (p_4.Rates.map rI), .list 1 (p_4.Ports.map rI), .list 1 (p_4.Pumps.map rB), .v v185, .v v189, .v v193]]) I I I I I I I I (le_ble I) I I (AP.ofAO (AO.nil ?_))))))))))))))))))
 exact lg ⟨(⟨n_0, batches_1, products_2, fills_3, p_4, (⟨l182, l186, l190⟩ : Pressures)⟩ : steady_line), v185, v189, v193, h, I, I⟩ [4, 5, 6, 9, 7, 8]
 refine AP.act [] I I I (AX.makeU (sz := 1) (es' := List.replicate m192 [.v (.slice none 0 0)]) I I I I I I I I I I hx191i hx191m I dS (fun v193 => (AP.ghostS (Ghost.toLists (f := Level.row) 7 m192 3 hx191r I) I (AP.two ?_ ?_))))
 refine AP.act [] I I I (AX.makeU (sz := 1) I I I I I I I I I I hx183i hx183m (rep_map (f := rB) hx183r I) dS (fun v185 => (AP.act [] I I I (AX.makeU (sz := 2) I I I I I I I I I I hx187i hx187m (rep_map (f := Bounds.row) hx187r I) dS (fun v189 => (AP.one 8 I (fun v185o => (AP.one 9 I (fun v189o => (AP.one 7 I (fun v193o => (AP.p I (Yp.buildP (l := [.v v185, .v v189, .v v193]) Tryz.bld36 (fill_step I I (cells_v v185o) I (fill_step I I (cells_v v189o) I (fill_step I I (cells_v v193o) I (fill_nil))))) I (AP.q 2 I (AP.act [6] I I I (AX.store 6 0 12 (es' := [[.list 1 (n_0.Nodes.map rS), .list 7 (n_0.Segments.map Segment.row), .list 3 (n_0.Ports.map Port.row), .list 5 (n_0.Stations.map Station.row), .V n_0.Vapour, .V n_0.Settle, .list 4 (batches_1.map Batch.row), .list 5 (products_2.map Product.row), .list 1 (fills_3.map (rL 2 Piece.row)), .list 1 (p_4.Rates.map rI), .list 1 (p_4.Ports.map rI), .list 1 (p_4.Pumps.map rB), .v v185, .v v189, .v v193]]) I I I I I I I I (le_ble I) I I (AP.ofAO (AO.nil ?_)))))))))))))))))
 exact lg ⟨(⟨n_0, batches_1, products_2, fills_3, p_4, (⟨l182, l186, l190⟩ : Pressures)⟩ : steady_line), v185, v189, v193, h, I, I⟩ [4, 5, 6, 8, 9, 7]
 refine AP.act [] I I I (AX.makeU (sz := 2) I I I I I I I I I I hx187i hx187m (rep_map (f := Bounds.row) hx187r I) dS (fun v189 => (AP.act [] I I I (AX.makeU (sz := 1) I I I I I I I I I I hx183i hx183m (rep_map (f := rB) hx183r I) dS (fun v185 => (AP.one 9 I (fun v185o => (AP.one 8 I (fun v189o => (AP.one 7 I (fun v193o => (AP.p I (Yp.buildP (l := [.v v185, .v v189, .v v193]) Tryz.bld36 (fill_step I I (cells_v v185o) I (fill_step I I (cells_v v189o) I (fill_step I I (cells_v v193o) I (fill_nil))))) I (AP.q 2 I (AP.act [6] I I I (AX.store 6 0 12 (es' := [[.list 1 (n_0.Nodes.map rS), .list 7 (n_0.Segments.map Segment.row), .list 3 (n_0.Ports.map Port.row), .list 5 (n_0.Stations.map Station.row), .V n_0.Vapour, .V n_0.Settle, .list 4 (batches_1.map Batch.row), .list 5 (products_2.map Product.row), .list 1 (fills_3.map (rL 2 Piece.row)), .list 1 (p_4.Rates.map rI), .list 1 (p_4.Ports.map rI), .list 1 (p_4.Pumps.map rB), .v v185, .v v189, .v v193]]) I I I I I I I I (le_ble I) I I (AP.ofAO (AO.nil ?_)))))))))))))))))
 exact lg ⟨(⟨n_0, batches_1, products_2, fills_3, p_4, (⟨l182, l186, l190⟩ : Pressures)⟩ : steady_line), v185, v189, v193, h, I, I⟩ [4, 5, 6, 9, 8, 7]
 rintro s ob ⟨j59, v60, v61, v62, h, rfl, rfl⟩
 unfold L.zonc.J2 at h
 refine AW.cutX (fun s ob => ∃ (j112 : steady_line) (v113 : Value) (v114 : Value) (v115 : Value), L.zonc.J3 j112 = some r ∧ s = [] ∧ ob = [.arr b9 36 3 1 [[.v (.slice none 0 0), .v (.slice none 0 0), .v (.slice none 0 0)]], .arr b46 123 15 1 [steady_line.rowU j112 v113 v114 v115], .us v113 4 1 (j112.x.Known.map rB), .us v114 71 2 (j112.x.Nodes.map Bounds.row), .us v115 38 1 (j112.x.Segments.map (rL 3 Level.row))]) [(10, _), (18, _)] ⟨I, I, J⟩ ?_ ?_
 refine AW.seqG (fun y116 hy116 => (AW.region (AO.q 1 I (AO.d (Yd.lenUM 1 I I I I) I (AO.q 1 I (AO.nil ?_))))))
 subst hy116
 refine AW.block (AW.usMax 1 I (fun hm119 => ?_))
 replace hm119 : r11.1.length ≤ 9223372036854775806 := by rw [List.length_map] at hm119; omega
 obtain ⟨o163, hL164, hR165⟩ := ob_some h
 clear h
 refine AW.forIX hL164 [(10, _), (18, _), (79, _), (80, _)] ⟨I, I, I, I, J⟩ (fun (k117 : Nat) (st148 : steady_line) s ob => ∃ (v149 : Value) (v150 : Value) (v151 : Value), s = [(81, .V (k117 : Int))] ∧ ob = [.arr b9 36 3 1 [[.v (.slice none 0 0), .v (.slice none 0 0), .v (.slice none 0 0)]], .us v13 3 1 (r11.1.map rI), .arr b46 123 15 1 [steady_line.rowU st148 v149 v150 v151], .us v149 4 1 (st148.x.Known.map rB), .us v150 71 2 (st148.x.Nodes.map Bounds.row), .us v151 38 1 (st148.x.Segments.map (rL 3 Level.row))]) ⟨v60, v61, v62, I, I⟩ ⟨I, J⟩ ⟨[0, 1, 2, 3, 4, 5], I, by decide⟩ ?_ ?_
 rintro k117 st148 r167 s ob hk118 ⟨v149, v150, v151, rfl, rfl⟩ h hb166
 unfold L.zonc.B4 at h
 have hk118t : decide ((k117 : Int) < (r11.1.length : Int)) = true := decide_eq_true (by omega)
 refine AW.z I (AW.seqG (fun y169 hy169 => (AW.condK (v := true) I hk118t (AW.skip ?_))))
 subst hy169
 refine AW.seq (AW.block (AW.seqG (fun y170 hy170 => ?_)))
 obtain ⟨p171, hp172, h⟩ := ob_some h
 obtain ⟨hp172i, hp172x⟩ := ix_some hp172
 refine AW.region (AO.d (Yd.indexU 1 (m := p171.1) I I I I I I I hp172i (map_get hp172x)) I (AO.d (Yd.loadU 1 p171.1 0 I I I (map_get hp172x) I (y := .V p171.2) I) I (AO.q 1 I (AO.nil ?_))))
 subst hy170
 refine AW.seq ?_
 obtain ⟨r173, hx174, h⟩ := ob_some h
 refine AW.region (AO.q 2 I (AO.act [2, 3, 4, 5] I (AX.cg [2, 3, 4, 5] (L.zqta_ok b46 _ v149 v150 v151 _ _ hx174) ?_)))
 rintro _ _ _ - ⟨v175, v176, v177, rfl, rfl, rfl⟩
 refine AO.q 1 I (AO.nil (AW.z I (AW.ch h I ?_ ?_)))
 intro hc178 h
 refine AW.seq (AW.region (AO.p (Yp.buildP (l := [.v (.slice none 0 0), .v (.slice none 0 0), .v (.slice none 0 0)]) Tryz.bld36 I) I (AO.q 1 I (AO.act [0] I (AX.store 0 0 0 (es' := [[.v (.slice none 0 0), .v (.slice none 0 0), .v (.slice none 0 0)]]) I I I I I I I I (le_ble I) I I (AO.q 1 I (AO.nil ?_)))))))
 obtain rfl := hb166 _ (oi h).symm
 replace h := hR165
 replace h := se_r h
 refine AW.ghost (Ghost.nilU 4 1) (AW.ghost (Ghost.nilU 71 2) (AW.ghost (Ghost.pick [6, 7, 0] (K := [.us (.slice none 0 0) 4 1 ([].map rB), .us (.slice none 0 0) 71 2 ([].map Bounds.row), .arr b9 36 3 1 [[.v (.slice none 0 0), .v (.slice none 0 0), .v (.slice none 0 0)]]]) I (by decide)) ?_))
 obtain rfl := oi h
 exact AW.ret ⟨.inr I, [_, _], [.us (.slice none 0 0) 4 1 ([].map rB), .us (.slice none 0 0) 71 2 ([].map Bounds.row)], ⟨⟨2, _, _, _, _, _, _, _, I, I, I, I, I⟩, I, J⟩, sl_c I (sl_c I (sl_n)), ⟨(.slice none 0 0), (.slice none 0 0), (.slice none 0 0), I, I⟩⟩
 intro hc178 h
 refine AW.skip (AW.region (AO.r 2 [.k 0 (k117 + 1 : Nat)] I ⟨cast_wr hk118 hm119, J⟩ ?_))
 obtain rfl := oi h
 refine AO.nil ?_
 exact ⟨_, _, _, I, ⟨v175, v176, v177, I, I⟩, ⟨I, I, I, I, I, J⟩, [0, 1, 2, 3, 4, 5], I, by decide⟩
 rintro st148 s ob ⟨v149, v150, v151, rfl, rfl⟩ he
 subst he
 have h := se_l hR165
 have hk118f : decide (((r11.1.length : Nat) : Int) < (r11.1.length : Int)) = false := by simp
 refine AW.z I (AW.seqG (fun y180 hy180 => (AW.condK (v := false) I hk118f (AW.exit ?_))))
 exact lg ⟨st148, v149, v150, v151, h, I, I⟩ [0, 2, 3, 4, 5]
 rintro s ob ⟨j112, v113, v114, v115, h, rfl, rfl⟩
 unfold L.zonc.J3 at h
 refine AW.seq (AW.region (AO.q 3 I (AO.d (Yd.loadO 1 0 12 I I I I I (y := .agg [.v v113, .v v114, .v v115]) I) I (AO.act [0] I (AX.store 0 0 0 (es' := [[.v v113, .v v114, .v v115]]) I I I I I I I I (le_ble I) I I (AO.q 1 I (AO.nil (AW.ghost (Ghost.pick [2, 3, 0] (K := [.us v113 4 1 (j112.x.Known.map rB), .us v114 71 2 (j112.x.Nodes.map Bounds.row), .arr b9 36 3 1 [[.v v113, .v v114, .v v115]]]) I (by decide)) ?_))))))))
 obtain rfl := oi h
 exact AW.ret ⟨.inr I, [_, _], [.us v113 4 1 (j112.x.Known.map rB), .us v114 71 2 (j112.x.Nodes.map Bounds.row)], ⟨⟨2, _, _, _, _, _, _, _, I, I, I, I, I⟩, I, J⟩, sl_c I (sl_c I (sl_n)), ⟨v113, v114, v115, I, I⟩⟩
theorem L.zusz_ok  (r : Bool) (h : L.zusz = some r) : ACalls Tryz.env 9 [] [] (fun x new => x = .v (.bool r) ∧ new = []) := by
 refine ACalls.of_body Tryz.func9 rfl rfl rfl (fun C hC => ?_)
 unfold L.zusz at h
 refine AW.z I (AW.seqG (fun y2 hy2 => (AW.region (AO.act [] I (AX.call0 I I I (L.zqwn_ok) dS ?_)))))
 rintro _ _ ⟨v3, v4, v5, v6, v7, v8, v9, v10, rfl, rfl⟩
 refine AO.q 3 I (AO.act [] I (AX.alloc (cs := [.v (.slice none 0 0), .v (.slice none 0 0), .v (.slice none 0 0), .v (.slice none 0 0), .V 0, .V 0]) (m := 6) I I I I I dS (fun b11 => (AO.act [] I (AX.alloc (cs := [.v (.slice none 0 0), .v (.slice none 0 0), .v (.slice none 0 0)]) (m := 3) I I I I I dS (fun b12 => (AO.act [8] I (AX.store 8 0 0 (es' := [[.v v3, .v v4, .v v6, .v v7, .V 50000, .V 10]]) I I I I I I I I (le_ble I) I I (AO.act [9] I (AX.store 9 0 0 (es' := [[.v v8, .v v9, .v v10]]) I I I I I I I I (le_ble I) I I (AO.nil ?_)))))))))))
 subst hy2
 refine AW.seqG (fun y13 hy13 => (AW.region (AO.p (Yp.buildP (l := [.V 0, .V 100]) Tryz.bld102 I) I (AO.act [] I (AX.buildSlice (sz := 2) (es := ([(⟨0, 100⟩ : Piece)] : List Piece).map Piece.row) I I I I I I I I I I I dS (fun v14 => (AO.ghost (Ghost.freeze [10] (K := [.us v14 102 2 (([(⟨0, 100⟩ : Piece)] : List Piece).map Piece.row)]) I [(16, .list 2 (([(⟨0, 100⟩ : Piece)] : List Piece).map Piece.row))] ⟨⟨_, I, .us 0 I⟩, J⟩ (ob' := [.us v3 9 1 (([(⟨#[97]⟩ : ByteArray), (⟨#[98]⟩ : ByteArray)] : List ByteArray).map rS), .us v4 77 7 [[.v (.string (⟨#[115]⟩ : ByteArray)), .V 0, .V 1, .V 100, .V 1, .V 50, .v v5]], .us v5 104 3 (([(⟨0, 0, 900000⟩ : Point), (⟨100, 20, 900000⟩ : Point)] : List Point).map Point.row), .us v6 74 3 (([(⟨(⟨#[105, 110]⟩ : ByteArray), 0, 300000⟩ : Port), (⟨(⟨#[111, 117, 116]⟩ : ByteArray), 1, 0⟩ : Port)] : List Port).map Port.row), .us v7 83 5 (([(⟨(⟨#[112]⟩ : ByteArray), 0, 500000, 200, 100000⟩ : Station)] : List Station).map Station.row), .us v8 3 1 (([20] : List Int).map rI), .us v9 3 1 (([20, (-20)] : List Int).map rI), .us v10 4 1 (([true] : List Bool).map rB), .arr b11 27 6 1 [[.v v3, .v v4, .v v6, .v v7, .V 50000, .V 10]], .arr b12 32 3 1 [[.v v8, .v v9, .v v10]]]) (.rest _)) (AO.act [] I (AX.buildSlice (sz := 1) (es := ([([(⟨0, 100⟩ : Piece)] : List Piece)] : List (List Piece)).map (rL 2 Piece.row)) I I I I I I I I I I I dS (fun v15 => ?_))))))))))
 refine AO.q 1 I (AO.nil ?_)
 subst hy13
 refine AW.seqG (fun y16 hy16 => (AW.region (AO.p (Yp.buildP (l := [.v (.string (⟨#[111, 105, 108]⟩ : ByteArray)), .V 800, .V 0, .V 0, .V 1000]) Tryz.bld46 I) I (AO.act [] I (AX.buildSlice (sz := 5) (es := ([(⟨(⟨#[111, 105, 108]⟩ : ByteArray), 800, 0, 0, 1000⟩ : Product)] : List Product).map Product.row) I I I I I I I I I I I dS (fun v17 => (AO.q 1 I (AO.nil ?_))))))))
 subst hy16
 refine AW.cutX (fun s ob => ∃ (j28 : (List Bool) × (List Bounds) × Int) (b29 : Nat) (v30 : Value) (v31 : Value) (v32 : Value), L.zusz.J1 j28 = some r ∧ s = [(5, .v (.pointer (some ⟨b29, 0, none⟩))), (6, .V j28.2.2)] ∧ ob = [.us v3 9 1 (([(⟨#[97]⟩ : ByteArray), (⟨#[98]⟩ : ByteArray)] : List ByteArray).map rS), .us v4 77 7 [[.v (.string (⟨#[115]⟩ : ByteArray)), .V 0, .V 1, .V 100, .V 1, .V 50, .v v5]], .us v5 104 3 (([(⟨0, 0, 900000⟩ : Point), (⟨100, 20, 900000⟩ : Point)] : List Point).map Point.row), .us v6 74 3 (([(⟨(⟨#[105, 110]⟩ : ByteArray), 0, 300000⟩ : Port), (⟨(⟨#[111, 117, 116]⟩ : ByteArray), 1, 0⟩ : Port)] : List Port).map Port.row), .us v7 83 5 (([(⟨(⟨#[112]⟩ : ByteArray), 0, 500000, 200, 100000⟩ : Station)] : List Station).map Station.row), .us v8 3 1 (([20] : List Int).map rI), .us v9 3 1 (([20, (-20)] : List Int).map rI), .us v10 4 1 (([true] : List Bool).map rB), .arr b11 27 6 1 [[.v v3, .v v4, .v v6, .v v7, .V 50000, .V 10]], .arr b12 32 3 1 [[.v v8, .v v9, .v v10]], .us v15 48 1 (([([(⟨0, 100⟩ : Piece)] : List Piece)] : List (List Piece)).map (rL 2 Piece.row)), .us v17 46 5 (([(⟨(⟨#[111, 105, 108]⟩ : ByteArray), 800, 0, 0, 1000⟩ : Product)] : List Product).map Product.row), .us v30 4 1 (j28.1.map rB), .us v31 71 2 (j28.2.1.map Bounds.row), .arr b29 36 3 1 [[.v v30, .v v31, .v (v32)]]]) [(1, _), (2, _), (3, _), (4, _)] ⟨I, I, I, I, J⟩ ?_ ?_
 obtain ⟨l82, hx83, h⟩ := ob_some h
 obtain ⟨m84, hx83i, hx83m, hx83r⟩ := mk_some hx83
 obtain ⟨r86, hx87, h⟩ := ob_some h
 refine AW.rd (.still 0 (.still 2 (.still 3 (.still 4 (.two 1 9 (.two 5 9 (.still 6 (.still 7 (.still 8 (.act 9 (.act 10 (.still 11 .nil)))))) (.act 5 (.still 6 (.still 7 (.still 8 (.act 10 (.still 11 .nil))))))) (.act 1 (.act 5 (.still 6 (.still 7 (.still 8 (.act 10 (.still 11 .nil)))))))))))) [8, 9] [_, _] I (AP.r 4 [.o 0 0, .o 3 1] I ⟨I, I, J⟩ (AP.two ?_ ?_))
 refine AP.act [] I I I (AX.makeU (sz := 4) I I I I I I I I I I hx83i hx83m (rep_map (f := Batch.row) hx83r I) dS (fun v85 => (AP.two ?_ ?_)))
 refine AP.act [] I I I (AX.callN I (.refl _) I I (.cons (.agg (.cons (.us 0 I) (.cons (.usd 1 I (.cons (.cons (.refl _) (.cons (.refl _) (.cons (.refl _) (.cons (.refl _) (.cons (.refl _) (.cons (.refl _) (.cons (.us 2 I) (.rest _)))))))) (.nil))) (.cons (.us 3 I) (.cons (.us 4 I) (.rest _)))))) (.cons (.us 12 I) (.cons (.us 11 I) (.cons (.us 10 I) (.cons (.agg (.cons (.us 5 I) (.cons (.us 6 I) (.cons (.us 7 I) (.rest _))))) (.rest _)))))) I (L.zonc_own _ _ _ _ _ _ hx87) dS (by rintro _ _ ⟨_, _, _, rfl, rfl⟩; exact ⟨rfl, by intro p hp; simp only [List.mem_cons, List.not_mem_nil, or_false] at hp; rcases hp with rfl | rfl <;> exact flat_map fun _ => rfl⟩) ?_)
 rintro _ _ ⟨v88, v89, v90, rfl, rfl⟩
 refine AP.q 3 I (AP.act [] I I I (AX.alloc (cs := [.v (.slice none 0 0), .v (.slice none 0 0), .v (.slice none 0 0)]) (m := 3) I I I I I dS (fun b91 => (AP.act [15] I I I (AX.store 15 0 0 (es' := [[.v v88, .v v89, .v (v90)]]) I I I I I I I I (le_ble I) I I (AP.q 1 I (AP.ofAO (AO.nil ?_))))))))
 exact lg ⟨(r86.1.Known, r86.1.Nodes, r86.2), b91, v88, v89, v90, h, I, I⟩ [0, 1, 2, 3, 4, 5, 6, 7, 8, 9, 10, 11, 13, 14, 15]
 refine AP.act [] I I I (AX.alloc (cs := [.v (.slice none 0 0), .v (.slice none 0 0), .v (.slice none 0 0)]) (m := 3) I I I I I dS (fun b91 => (AP.act [] I I I (AX.callN I (.refl _) I I (.cons (.agg (.cons (.us 0 I) (.cons (.usd 1 I (.cons (.cons (.refl _) (.cons (.refl _) (.cons (.refl _) (.cons (.refl _) (.cons (.refl _) (.cons (.refl _) (.cons (.us 2 I) (.rest _)))))))) (.nil))) (.cons (.us 3 I) (.cons (.us 4 I) (.rest _)))))) (.cons (.us 12 I) (.cons (.us 11 I) (.cons (.us 10 I) (.cons (.agg (.cons (.us 5 I) (.cons (.us 6 I) (.cons (.us 7 I) (.rest _))))) (.rest _)))))) I (L.zonc_own _ _ _ _ _ _ hx87) dS (by rintro _ _ ⟨_, _, _, rfl, rfl⟩; exact ⟨rfl, by intro p hp; simp only [List.mem_cons, List.not_mem_nil, or_false] at hp; rcases hp with rfl | rfl <;> exact flat_map fun _ => rfl⟩) ?_))))
 rintro _ _ ⟨v88, v89, v90, rfl, rfl⟩
 refine AP.q 3 I (AP.act [13] I I I (AX.store 13 0 0 (es' := [[.v v88, .v v89, .v (v90)]]) I I I I I I I I (le_ble I) I I (AP.q 1 I (AP.ofAO (AO.nil ?_)))))
 exact lg ⟨(r86.1.Known, r86.1.Nodes, r86.2), b91, v88, v89, v90, h, I, I⟩ [0, 1, 2, 3, 4, 5, 6, 7, 8, 9, 10, 11, 14, 15, 13]
 refine AP.act [] I I I (AX.alloc (cs := [.v (.slice none 0 0), .v (.slice none 0 0), .v (.slice none 0 0)]) (m := 3) I I I I I dS (fun b91 => (AP.act [] I I I (AX.makeU (sz := 4) I I I I I I I I I I hx83i hx83m (rep_map (f := Batch.row) hx83r I) dS (fun v85 => (AP.act [] I I I (AX.callN I (.refl _) I I (.cons (.agg (.cons (.us 0 I) (.cons (.usd 1 I (.cons (.cons (.refl _) (.cons (.refl _) (.cons (.refl _) (.cons (.refl _) (.cons (.refl _) (.cons (.refl _) (.cons (.us 2 I) (.rest _)))))))) (.nil))) (.cons (.us 3 I) (.cons (.us 4 I) (.rest _)))))) (.cons (.us 13 I) (.cons (.us 11 I) (.cons (.us 10 I) (.cons (.agg (.cons (.us 5 I) (.cons (.us 6 I) (.cons (.us 7 I) (.rest _))))) (.rest _)))))) I (L.zonc_own _ _ _ _ _ _ hx87) dS (by rintro _ _ ⟨_, _, _, rfl, rfl⟩; exact ⟨rfl, by intro p hp; simp only [List.mem_cons, List.not_mem_nil, or_false] at hp; rcases hp with rfl | rfl <;> exact flat_map fun _ => rfl⟩) ?_)))))))
 rintro _ _ ⟨v88, v89, v90, rfl, rfl⟩
 refine AP.q 3 I (AP.act [12] I I I (AX.store 12 0 0 (es' := [[.v v88, .v v89, .v (v90)]]) I I I I I I I I (le_ble I) I I (AP.q 1 I (AP.ofAO (AO.nil ?_)))))
 exact lg ⟨(r86.1.Known, r86.1.Nodes, r86.2), b91, v88, v89, v90, h, I, I⟩ [0, 1, 2, 3, 4, 5, 6, 7, 8, 9, 10, 11, 14, 15, 12]
 rintro s ob ⟨j28, b29, v30, v31, v32, h, rfl, rfl⟩
 unfold L.zusz.J1 at h
 refine AW.cutX (fun s ob => ∃ (j40 : Int), L.zusz.J2 j28 j40 = some r ∧ s = [(8, .V j40)] ∧ ob = [.us v3 9 1 (([(⟨#[97]⟩ : ByteArray), (⟨#[98]⟩ : ByteArray)] : List ByteArray).map rS), .us v4 77 7 [[.v (.string (⟨#[115]⟩ : ByteArray)), .V 0, .V 1, .V 100, .V 1, .V 50, .v v5]], .us v5 104 3 (([(⟨0, 0, 900000⟩ : Point), (⟨100, 20, 900000⟩ : Point)] : List Point).map Point.row), .us v6 74 3 (([(⟨(⟨#[105, 110]⟩ : ByteArray), 0, 300000⟩ : Port), (⟨(⟨#[111, 117, 116]⟩ : ByteArray), 1, 0⟩ : Port)] : List Port).map Port.row), .us v7 83 5 (([(⟨(⟨#[112]⟩ : ByteArray), 0, 500000, 200, 100000⟩ : Station)] : List Station).map Station.row), .us v8 3 1 (([20] : List Int).map rI), .us v9 3 1 (([20, (-20)] : List Int).map rI), .us v10 4 1 (([true] : List Bool).map rB), .arr b11 27 6 1 [[.v v3, .v v4, .v v6, .v v7, .V 50000, .V 10]], .arr b12 32 3 1 [[.v v8, .v v9, .v v10]], .us v15 48 1 (([([(⟨0, 100⟩ : Piece)] : List Piece)] : List (List Piece)).map (rL 2 Piece.row)), .us v17 46 5 (([(⟨(⟨#[111, 105, 108]⟩ : ByteArray), 800, 0, 0, 1000⟩ : Product)] : List Product).map Product.row), .us v30 4 1 (j28.1.map rB), .us v31 71 2 (j28.2.1.map Bounds.row), .arr b29 36 3 1 [[.v v30, .v v31, .v (v32)]]]) [(1, _), (2, _), (3, _), (4, _), (5, _), (6, _)] ⟨I, I, I, I, I, I, J⟩ ?_ ?_
 obtain ⟨l75, hx76, h⟩ := ob_some h
 obtain ⟨m77, hx76i, hx76m, hx76r⟩ := mk_some hx76
 obtain ⟨r79, hx80, h⟩ := ob_some h
 refine AW.rd (.still 0 (.still 2 (.still 3 (.still 4 (.two 1 9 (.two 5 9 (.still 6 (.still 7 (.still 8 (.act 9 (.act 10 (.still 11 .nil)))))) (.act 5 (.still 6 (.still 7 (.still 8 (.act 10 (.still 11 .nil))))))) (.act 1 (.act 5 (.still 6 (.still 7 (.still 8 (.act 10 (.still 11 .nil)))))))))))) [8, 9] [_, _] I (AP.r 4 [.o 0 0, .o 3 1] I ⟨I, I, J⟩ (AP.two ?_ ?_))
 refine AP.act [] I I I (AX.makeU (sz := 4) I I I I I I I I I I hx76i hx76m (rep_map (f := Batch.row) hx76r I) dS (fun v78 => (AP.two ?_ ?_)))
 refine AP.act [] I I I (AX.callL I (.refl _) I I (.cons (.agg (.cons (.us 0 I) (.cons (.usd 1 I (.cons (.cons (.refl _) (.cons (.refl _) (.cons (.refl _) (.cons (.refl _) (.cons (.refl _) (.cons (.refl _) (.cons (.us 2 I) (.rest _)))))))) (.nil))) (.cons (.us 3 I) (.cons (.us 4 I) (.rest _)))))) (.cons (.us 15 I) (.cons (.us 11 I) (.cons (.us 10 I) (.cons (.agg (.cons (.us 5 I) (.cons (.us 6 I) (.cons (.us 7 I) (.rest _))))) (.rest _)))))) I (L.zdbv_ok _ _ _ _ _ _ hx80) dS (by rintro _ _ ⟨rfl, _⟩; rfl) ?_)
 rintro _ ⟨_, rfl, -⟩
 refine AP.q 3 I (AP.act [] I I I (AX.alloc (cs := [.V 0, .V 0, .V 0]) (m := 3) I I I I I dS (fun b81 => (AP.act [16] I I I (AX.store 16 0 0 (es' := [Fault.row r79.1]) I I I I I I I I (le_ble I) I I (AP.q 1 I (AP.ofAO (AO.nil ?_))))))))
 exact lg ⟨r79.2, h, I, I⟩ [0, 1, 2, 3, 4, 5, 6, 7, 8, 9, 10, 11, 12, 13, 14]
 refine AP.act [] I I I (AX.alloc (cs := [.V 0, .V 0, .V 0]) (m := 3) I I I I I dS (fun b81 => (AP.act [] I I I (AX.callL I (.refl _) I I (.cons (.agg (.cons (.us 0 I) (.cons (.usd 1 I (.cons (.cons (.refl _) (.cons (.refl _) (.cons (.refl _) (.cons (.refl _) (.cons (.refl _) (.cons (.refl _) (.cons (.us 2 I) (.rest _)))))))) (.nil))) (.cons (.us 3 I) (.cons (.us 4 I) (.rest _)))))) (.cons (.us 15 I) (.cons (.us 11 I) (.cons (.us 10 I) (.cons (.agg (.cons (.us 5 I) (.cons (.us 6 I) (.cons (.us 7 I) (.rest _))))) (.rest _)))))) I (L.zdbv_ok _ _ _ _ _ _ hx80) dS (by rintro _ _ ⟨rfl, _⟩; rfl) ?_))))
 rintro _ ⟨_, rfl, -⟩
 refine AP.q 3 I (AP.act [16] I I I (AX.store 16 0 0 (es' := [Fault.row r79.1]) I I I I I I I I (le_ble I) I I (AP.q 1 I (AP.ofAO (AO.nil ?_)))))
 exact lg ⟨r79.2, h, I, I⟩ [0, 1, 2, 3, 4, 5, 6, 7, 8, 9, 10, 11, 12, 13, 14]
 refine AP.act [] I I I (AX.alloc (cs := [.V 0, .V 0, .V 0]) (m := 3) I I I I I dS (fun b81 => (AP.act [] I I I (AX.makeU (sz := 4) I I I I I I I I I I hx76i hx76m (rep_map (f := Batch.row) hx76r I) dS (fun v78 => (AP.act [] I I I (AX.callL I (.refl _) I I (.cons (.agg (.cons (.us 0 I) (.cons (.usd 1 I (.cons (.cons (.refl _) (.cons (.refl _) (.cons (.refl _) (.cons (.refl _) (.cons (.refl _) (.cons (.refl _) (.cons (.us 2 I) (.rest _)))))))) (.nil))) (.cons (.us 3 I) (.cons (.us 4 I) (.rest _)))))) (.cons (.us 16 I) (.cons (.us 11 I) (.cons (.us 10 I) (.cons (.agg (.cons (.us 5 I) (.cons (.us 6 I) (.cons (.us 7 I) (.rest _))))) (.rest _)))))) I (L.zdbv_ok _ _ _ _ _ _ hx80) dS (by rintro _ _ ⟨rfl, _⟩; rfl) ?_)))))))
 rintro _ ⟨_, rfl, -⟩
 refine AP.q 3 I (AP.act [15] I I I (AX.store 15 0 0 (es' := [Fault.row r79.1]) I I I I I I I I (le_ble I) I I (AP.q 1 I (AP.ofAO (AO.nil ?_)))))
 exact lg ⟨r79.2, h, I, I⟩ [0, 1, 2, 3, 4, 5, 6, 7, 8, 9, 10, 11, 12, 13, 14]
 rintro s ob ⟨j40, h, rfl, rfl⟩
 unfold L.zusz.J2 at h
 refine AW.seqG (fun y41 hy41 => ?_)
 obtain ⟨p42, hp43, h⟩ := ob_some h
 obtain ⟨hp43i, hp43x⟩ := ix_some hp43
 refine AW.region (AO.r 2 [.o 1 8] I ⟨I, J⟩ (AO.d (Yd.indexU 1 (m := 0) I I I I I I I I I) I (AO.q 1 I (AO.d (Yd.loadU 1 0 6 I I I I I (y := .v v5) I) I (AO.d (Yd.indexU 2 (m := p42.1) I I I I I I I hp43i (map_get hp43x)) I (AO.q 1 I (AO.act [2] I (AX.storeU 2 p42.1 2 I I I (map_get hp43x) I I I I (le_ble I) I (us_set (x := (⟨p42.2.At, p42.2.Height, 700000⟩ : Point)) I) (AO.nil ?_)))))))))
 subst hy41
 refine AW.cutX (fun s ob => ∃ (j51 : Int × Int × Int × Int) (b52 : Nat), L.zusz.J3 j28 j40 j51 = some r ∧ s = [(9, .v (.pointer (some ⟨b52, 0, none⟩))), (10, .V j51.2.2.2)] ∧ ob = [.us v30 4 1 (j28.1.map rB), .us v31 71 2 (j28.2.1.map Bounds.row), .arr b29 36 3 1 [[.v v30, .v v31, .v (v32)]], .arr b52 59 3 1 [[.V j51.1, .V j51.2.1, .V j51.2.2.1]]]) [(5, _), (6, _), (8, _)] ⟨I, I, I, J⟩ ?_ ?_
 obtain ⟨l68, hx69, h⟩ := ob_some h
 obtain ⟨m70, hx69i, hx69m, hx69r⟩ := mk_some hx69
 obtain ⟨r72, hx73, h⟩ := ob_some h
 refine AW.rd (.still 0 (.still 2 (.still 3 (.still 4 (.two 1 9 (.two 5 9 (.still 6 (.still 7 (.still 8 (.act 9 (.act 10 (.still 11 .nil)))))) (.act 5 (.still 6 (.still 7 (.still 8 (.act 10 (.still 11 .nil))))))) (.act 1 (.act 5 (.still 6 (.still 7 (.still 8 (.act 10 (.still 11 .nil)))))))))))) [8, 9] [_, _] I (AP.r 4 [.o 0 0, .o 3 1] I ⟨I, I, J⟩ (AP.two ?_ ?_))
 refine AP.act [] I I I (AX.makeU (sz := 4) I I I I I I I I I I hx69i hx69m (rep_map (f := Batch.row) hx69r I) dS (fun v71 => (AP.two ?_ ?_)))
 refine AP.act [] I I I (AX.callL I (.refl _) I I (.cons (.agg (.cons (.us 0 I) (.cons (.usd 1 I (.cons (.cons (.refl _) (.cons (.refl _) (.cons (.refl _) (.cons (.refl _) (.cons (.refl _) (.cons (.refl _) (.cons (.us 2 I) (.rest _)))))))) (.nil))) (.cons (.us 3 I) (.cons (.us 4 I) (.rest _)))))) (.cons (.us 15 I) (.cons (.us 11 I) (.cons (.us 10 I) (.cons (.agg (.cons (.us 5 I) (.cons (.us 6 I) (.cons (.us 7 I) (.rest _))))) (.rest _)))))) I (L.zdbv_ok _ _ _ _ _ _ hx73) dS (by rintro _ _ ⟨rfl, _⟩; rfl) ?_)
 rintro _ ⟨_, rfl, -⟩
 refine AP.q 3 I (AP.act [] I I I (AX.alloc (cs := [.V 0, .V 0, .V 0]) (m := 3) I I I I I dS (fun b74 => (AP.act [16] I I I (AX.store 16 0 0 (es' := [Fault.row r72.1]) I I I I I I I I (le_ble I) I I (AP.q 1 I (AP.ofAO (AO.nil ?_))))))))
 exact lg ⟨(r72.1.Kind, r72.1.Index, r72.1.At, r72.2), b74, h, I, I⟩ [12, 13, 14, 16]
 refine AP.act [] I I I (AX.alloc (cs := [.V 0, .V 0, .V 0]) (m := 3) I I I I I dS (fun b74 => (AP.act [] I I I (AX.callL I (.refl _) I I (.cons (.agg (.cons (.us 0 I) (.cons (.usd 1 I (.cons (.cons (.refl _) (.cons (.refl _) (.cons (.refl _) (.cons (.refl _) (.cons (.refl _) (.cons (.refl _) (.cons (.us 2 I) (.rest _)))))))) (.nil))) (.cons (.us 3 I) (.cons (.us 4 I) (.rest _)))))) (.cons (.us 15 I) (.cons (.us 11 I) (.cons (.us 10 I) (.cons (.agg (.cons (.us 5 I) (.cons (.us 6 I) (.cons (.us 7 I) (.rest _))))) (.rest _)))))) I (L.zdbv_ok _ _ _ _ _ _ hx73) dS (by rintro _ _ ⟨rfl, _⟩; rfl) ?_))))
 rintro _ ⟨_, rfl, -⟩
 refine AP.q 3 I (AP.act [16] I I I (AX.store 16 0 0 (es' := [Fault.row r72.1]) I I I I I I I I (le_ble I) I I (AP.q 1 I (AP.ofAO (AO.nil ?_)))))
 exact lg ⟨(r72.1.Kind, r72.1.Index, r72.1.At, r72.2), b74, h, I, I⟩ [12, 13, 14, 16]
 refine AP.act [] I I I (AX.alloc (cs := [.V 0, .V 0, .V 0]) (m := 3) I I I I I dS (fun b74 => (AP.act [] I I I (AX.makeU (sz := 4) I I I I I I I I I I hx69i hx69m (rep_map (f := Batch.row) hx69r I) dS (fun v71 => (AP.act [] I I I (AX.callL I (.refl _) I I (.cons (.agg (.cons (.us 0 I) (.cons (.usd 1 I (.cons (.cons (.refl _) (.cons (.refl _) (.cons (.refl _) (.cons (.refl _) (.cons (.refl _) (.cons (.refl _) (.cons (.us 2 I) (.rest _)))))))) (.nil))) (.cons (.us 3 I) (.cons (.us 4 I) (.rest _)))))) (.cons (.us 16 I) (.cons (.us 11 I) (.cons (.us 10 I) (.cons (.agg (.cons (.us 5 I) (.cons (.us 6 I) (.cons (.us 7 I) (.rest _))))) (.rest _)))))) I (L.zdbv_ok _ _ _ _ _ _ hx73) dS (by rintro _ _ ⟨rfl, _⟩; rfl) ?_)))))))
 rintro _ ⟨_, rfl, -⟩
 refine AP.q 3 I (AP.act [15] I I I (AX.store 15 0 0 (es' := [Fault.row r72.1]) I I I I I I I I (le_ble I) I I (AP.q 1 I (AP.ofAO (AO.nil ?_)))))
 exact lg ⟨(r72.1.Kind, r72.1.Index, r72.1.At, r72.2), b74, h, I, I⟩ [12, 13, 14, 15]
 rintro s ob ⟨j51, b52, h, rfl, rfl⟩
 unfold L.zusz.J3 at h
 refine AW.cutX (fun s ob => ∃ (j60 : Bool), L.zusz.J4 j60 = some r ∧ s = [(0, .v (.bool j60))] ∧ ob = []) [] J ?_ ?_
 refine AW.region (AO.q 3 I ?_)
 rcases bt ((j28.2.2 == 0)) with hg61 | hg61
 replace h := ife_t hg61 h
 refine AO.known 56 I hg61 ?_
 rcases bt (((j28.2.1.length : Int) == 2)) with hg62 | hg62
 replace h := ife_t hg62 h
 obtain ⟨p63, hp64, h⟩ := ob_some h
 obtain ⟨hp64i, hp64x⟩ := ix_some hp64
 refine AO.r 2 [.o 1 2] I ⟨I, J⟩ (AO.gt I I I (AO.d (Yd.lenUM 1 I I I I) I (AO.q 3 I (AO.known 62 I hg62 (AO.r 2 [.o 1 2] I ⟨I, J⟩ (AO.gt I I I (AO.d (Yd.indexU 1 (m := p63.1) I I I I I I I hp64i (map_get hp64x)) I (AO.gt I I I (AO.d (Yd.loadU 1 p63.1 0 I I I (map_get hp64x) I (y := .agg (Bounds.row p63.2)) I) I (AO.gt I I I (AO.p (Yp.buildP (l := [.V 642608, .V 642608]) Tryz.bld71 I) I (AO.gt I I I ?_))))))))))))
 refine AO.p (Yp.eqStruct (r := ((p63.2.Low == 642608) && ((p63.2.High == 642608) && true))) I I Tryz.eq71 I I I I) I (AO.q 2 I ?_)
 rcases bt (((p63.2.Low == 642608) && ((p63.2.High == 642608) && true))) with hg65 | hg65
 replace h := ife_t hg65 h
 refine AO.known 70 I hg65 (AO.q 4 I ?_)
 rcases bt ((j40 == 0)) with hg66 | hg66
 replace h := ife_t hg66 h
 refine AO.known 74 I hg66 (AO.q 4 I ?_)
 rcases bt ((j51.2.2.2 == 15)) with hg67 | hg67
 replace h := ife_t hg67 h
 refine AO.known 78 I hg67 (AO.r 1 [.o 0 3] I ⟨I, J⟩ (AO.gt I I I (AO.p (Yp.buildP (l := [.V 1, .V 0, .V 0]) Tryz.bld59 I) I (AO.gt I I I (AO.p (Yp.eqStruct (r := ((j51.1 == 1) && ((j51.2.1 == 0) && ((j51.2.2.1 == 0) && true)))) I I Tryz.eq59 I I I I) I (AO.q 2 I (AO.nil ?_)))))))
 exact lg ⟨((j51.1 == 1) && ((j51.2.1 == 0) && ((j51.2.2.1 == 0) && true))), h, I, I⟩ []
 replace h := ife_f hg67 h
 refine AO.known 78 I hg67 (AO.q 5 I (AO.nil ?_))
 exact lg ⟨false, h, I, I⟩ []
 replace h := ife_f hg66 h
 refine AO.known 74 I hg66 (AO.q 9 I (AO.nil ?_))
 exact lg ⟨false, h, I, I⟩ []
 replace h := ife_f hg65 h
 refine AO.known 70 I hg65 (AO.q 13 I (AO.nil ?_))
 exact lg ⟨false, h, I, I⟩ []
 replace h := ife_f hg62 h
 refine AO.r 2 [.o 1 2] I ⟨I, J⟩ (AO.gt I I I (AO.d (Yd.lenUM 1 I I I I) I (AO.q 3 I (AO.known 62 I hg62 (AO.q 21 I (AO.nil ?_))))))
 exact lg ⟨false, h, I, I⟩ []
 replace h := ife_f hg61 h
 refine AO.known 56 I hg61 (AO.q 27 I (AO.nil ?_))
 exact lg ⟨false, h, I, I⟩ []
 rintro s ob ⟨j60, h, rfl, rfl⟩
 unfold L.zusz.J4 at h
 obtain rfl := oi h
 exact AW.ret pr
end Go.Proofs.YtehbcbedipkifaaGreatDoor
