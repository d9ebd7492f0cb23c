/- Walks that show what functions of the program compute; printed by a program of ours. No condition. -/
import Derived.Test.YtmaamhgjeampmaaGreatZtLd1
set_option maxRecDepth 100000
namespace Go.Proofs.YtmaamhgjeampmaaGreat
open Go.Aw
set_option linter.unusedVariables false
set_option linter.unusedSimpArgs false
set_option maxHeartbeats 4000000
theorem L.zbxx_own (D : Plan) (r : Plan) (h : L.zbxx D = some r) : ACalls Tryz.env 83 [.agg (Plan.row D)] [] (fun x new => ∃ (E : Value) (F : Value) (G : Value), x = .agg [.v E, .v F, .v G] ∧ new = [.us E 3 1 (r.Rates.map rI), .us F 3 1 (r.Ports.map rI), .us G 4 1 (r.Pumps.map rB)]) := by
 refine ACalls.of_body Tryz.func83 rfl rfl rfl (fun C hC => ?_)
 unfold L.zbxx at h
 refine AW.seqG (fun M H => (AW.region (AO.act [] I (AX.box (cs := Plan.row D) (m := 3) I I I dS (fun O => (AO.act [] I (AX.alloc (cs := [.N, .N, .N]) (m := 3) I I I I I dS (fun K => (AO.nil ?_)))))))))
 subst H
 refine AW.cutX (fun s ob => ∃ (u : (List Int) × (List Int) × (List Bool)) (y : Value) (z : Value) (A : Value), L.zbxx.J1 u = some r ∧ s = [] ∧ ob = [.arr K 37 3 1 [[.v y, .v z, .v A]], .us y 3 1 (u.1.map rI), .us z 3 1 (u.2.1.map rI), .us A 4 1 (u.2.2.map rB)]) [(2, _)] ⟨I, J⟩ ?_ ?_
 obtain ⟨g, q, h⟩ := ob_some h
 obtain ⟨i, j, h⟩ := ob_some h
 obtain ⟨k, n, h⟩ := ob_some h
 refine AW.rd (.still 1 (.still 2 (.still 5 (.still 6 (.still 9 (.still 10 (.three 0 4 8 (.three 3 4 8 (.two 4 8 (.two 7 8 (.act 8 (.act 11 (.still 12 (.act 13 .nil)))) (.act 7 (.act 11 (.still 12 (.act 13 .nil))))) (.act 4 (.act 7 (.act 11 (.still 12 (.act 13 .nil)))))) (.two 3 8 (.two 7 8 (.act 8 (.act 11 (.still 12 (.act 13 .nil)))) (.act 7 (.act 11 (.still 12 (.act 13 .nil))))) (.act 3 (.act 7 (.act 11 (.still 12 (.act 13 .nil)))))) (.two 3 4 (.act 4 (.act 7 (.act 11 (.still 12 (.act 13 .nil))))) (.act 3 (.act 7 (.act 11 (.still 12 (.act 13 .nil))))))) (.two 0 8 (.two 3 8 (.two 7 8 (.act 8 (.act 11 (.still 12 (.act 13 .nil)))) (.act 7 (.act 11 (.still 12 (.act 13 .nil))))) (.act 3 (.act 7 (.act 11 (.still 12 (.act 13 .nil)))))) (.act 0 (.act 3 (.act 7 (.act 11 (.still 12 (.act 13 .nil))))))) (.two 0 4 (.two 3 4 (.act 4 (.act 7 (.act 11 (.still 12 (.act 13 .nil))))) (.act 3 (.act 7 (.act 11 (.still 12 (.act 13 .nil)))))) (.act 0 (.act 3 (.act 7 (.act 11 (.still 12 (.act 13 .nil)))))))))))))) [0] [_] I (AP.r 6 [.o 1 0, .o 3 0, .o 5 0] I ⟨I, I, I, J⟩ (AP.three ?_ ?_ ?_))
 refine AP.act [] I I I (AX.buildSlice (sz := 1) (es := ([] : List Int).map rI) I I I I I I I I I I I dS (fun B => (AP.three ?_ ?_ ?_)))
 refine AP.act [2] I I I (AX.ap 2 I q (fun c => (AP.two ?_ ?_)))
 refine AP.act [] I I I (AX.buildSlice (sz := 1) (es := ([] : List Int).map rI) I I I I I I I I I I I dS (fun w => (AP.two ?_ ?_)))
 refine AP.act [3] I I I (AX.ap 3 I j (fun a => (AP.act [] I I I (AX.buildSlice (sz := 1) (es := ([] : List Bool).map rB) I I I I I I I I I I I dS (fun t => (AP.act [4] I I I (AX.ap 4 I n (fun b => (AP.one 2 I (fun d => (AP.one 3 I (fun e => (AP.one 4 I (fun f => (AP.p I (Yp.buildP (l := [.v c, .v a, .v b]) Tryz.bld37 (fill_step I I (cells_v d) I (fill_step I I (cells_v e) I (fill_step I I (cells_v f) I (fill_nil))))) I (AP.act [1] I I I (AX.st 1 0 0 [[.v c, .v a, .v b]] I (AP.ofAO (AO.nil ?_)))))))))))))))))))
 exact lg ⟨(g, i, k), c, a, b, h, I, I⟩ [1, 2, 3, 4]
 refine AP.act [] I I I (AX.buildSlice (sz := 1) (es := ([] : List Bool).map rB) I I I I I I I I I I I dS (fun t => (AP.act [3] I I I (AX.ap 3 I j (fun a => (AP.act [4] I I I (AX.ap 4 I n (fun b => (AP.one 2 I (fun d => (AP.one 3 I (fun e => (AP.one 4 I (fun f => (AP.p I (Yp.buildP (l := [.v c, .v a, .v b]) Tryz.bld37 (fill_step I I (cells_v d) I (fill_step I I (cells_v e) I (fill_step I I (cells_v f) I (fill_nil))))) I (AP.act [1] I I I (AX.st 1 0 0 [[.v c, .v a, .v b]] I (AP.ofAO (AO.nil ?_)))))))))))))))))))
 exact lg ⟨(g, i, k), c, a, b, h, I, I⟩ [1, 2, 3, 4]
 refine AP.act [] I I I (AX.buildSlice (sz := 1) (es := ([] : List Bool).map rB) I I I I I I I I I I I dS (fun t => (AP.act [] I I I (AX.buildSlice (sz := 1) (es := ([] : List Int).map rI) I I I I I I I I I I I dS (fun w => (AP.act [4] I I I (AX.ap 4 I j (fun a => (AP.act [3] I I I (AX.ap 3 I n (fun b => (AP.one 2 I (fun d => (AP.one 4 I (fun e => (AP.one 3 I (fun f => (AP.p I (Yp.buildP (l := [.v c, .v a, .v b]) Tryz.bld37 (fill_step I I (cells_v d) I (fill_step I I (cells_v e) I (fill_step I I (cells_v f) I (fill_nil))))) I (AP.act [1] I I I (AX.st 1 0 0 [[.v c, .v a, .v b]] I (AP.ofAO (AO.nil ?_))))))))))))))))))))))
 exact lg ⟨(g, i, k), c, a, b, h, I, I⟩ [1, 2, 4, 3]
 refine AP.act [] I I I (AX.buildSlice (sz := 1) (es := ([] : List Int).map rI) I I I I I I I I I I I dS (fun w => (AP.two ?_ ?_)))
 refine AP.act [2] I I I (AX.ap 2 I q (fun c => (AP.two ?_ ?_)))
 refine AP.act [3] I I I (AX.ap 3 I j (fun a => (AP.act [] I I I (AX.buildSlice (sz := 1) (es := ([] : List Bool).map rB) I I I I I I I I I I I dS (fun t => (AP.act [4] I I I (AX.ap 4 I n (fun b => (AP.one 2 I (fun d => (AP.one 3 I (fun e => (AP.one 4 I (fun f => (AP.p I (Yp.buildP (l := [.v c, .v a, .v b]) Tryz.bld37 (fill_step I I (cells_v d) I (fill_step I I (cells_v e) I (fill_step I I (cells_v f) I (fill_nil))))) I (AP.act [1] I I I (AX.st 1 0 0 [[.v c, .v a, .v b]] I (AP.ofAO (AO.nil ?_)))))))))))))))))))
 exact lg ⟨(g, i, k), c, a, b, h, I, I⟩ [1, 2, 3, 4]
 refine AP.act [] I I I (AX.buildSlice (sz := 1) (es := ([] : List Bool).map rB) I I I I I I I I I I I dS (fun t => (AP.act [3] I I I (AX.ap 3 I j (fun a => (AP.act [4] I I I (AX.ap 4 I n (fun b => (AP.one 2 I (fun d => (AP.one 3 I (fun e => (AP.one 4 I (fun f => (AP.p I (Yp.buildP (l := [.v c, .v a, .v b]) Tryz.bld37 (fill_step I I (cells_v d) I (fill_step I I (cells_v e) I (fill_step I I (cells_v f) I (fill_nil))))) I (AP.act [1] I I I (AX.st 1 0 0 [[.v c, .v a, .v b]] I (AP.ofAO (AO.nil ?_)))))))))))))))))))
 exact lg ⟨(g, i, k), c, a, b, h, I, I⟩ [1, 2, 3, 4]
 refine AP.act [] I I I (AX.buildSlice (sz := 1) (es := ([] : List Bool).map rB) I I I I I I I I I I I dS (fun t => (AP.act [2] I I I (AX.ap 2 I q (fun c => (AP.act [3] I I I (AX.ap 3 I j (fun a => (AP.act [4] I I I (AX.ap 4 I n (fun b => (AP.one 2 I (fun d => (AP.one 3 I (fun e => (AP.one 4 I (fun f => (AP.p I (Yp.buildP (l := [.v c, .v a, .v b]) Tryz.bld37 (fill_step I I (cells_v d) I (fill_step I I (cells_v e) I (fill_step I I (cells_v f) I (fill_nil))))) I (AP.act [1] I I I (AX.st 1 0 0 [[.v c, .v a, .v b]] I (AP.ofAO (AO.nil ?_))))))))))))))))))))))
 exact lg ⟨(g, i, k), c, a, b, h, I, I⟩ [1, 2, 3, 4]
 refine AP.act [] I I I (AX.buildSlice (sz := 1) (es := ([] : List Bool).map rB) I I I I I I I I I I I dS (fun t => (AP.two ?_ ?_)))
 refine AP.act [2] I I I (AX.ap 2 I q (fun c => (AP.act [] I I I (AX.buildSlice (sz := 1) (es := ([] : List Int).map rI) I I I I I I I I I I I dS (fun w => (AP.act [4] I I I (AX.ap 4 I j (fun a => (AP.act [3] I I I (AX.ap 3 I n (fun b => (AP.one 2 I (fun d => (AP.one 4 I (fun e => (AP.one 3 I (fun f => (AP.p I (Yp.buildP (l := [.v c, .v a, .v b]) Tryz.bld37 (fill_step I I (cells_v d) I (fill_step I I (cells_v e) I (fill_step I I (cells_v f) I (fill_nil))))) I (AP.act [1] I I I (AX.st 1 0 0 [[.v c, .v a, .v b]] I (AP.ofAO (AO.nil ?_))))))))))))))))))))))
 exact lg ⟨(g, i, k), c, a, b, h, I, I⟩ [1, 2, 4, 3]
 refine AP.act [] I I I (AX.buildSlice (sz := 1) (es := ([] : List Int).map rI) I I I I I I I I I I I dS (fun w => (AP.act [2] I I I (AX.ap 2 I q (fun c => (AP.act [4] I I I (AX.ap 4 I j (fun a => (AP.act [3] I I I (AX.ap 3 I n (fun b => (AP.one 2 I (fun d => (AP.one 4 I (fun e => (AP.one 3 I (fun f => (AP.p I (Yp.buildP (l := [.v c, .v a, .v b]) Tryz.bld37 (fill_step I I (cells_v d) I (fill_step I I (cells_v e) I (fill_step I I (cells_v f) I (fill_nil))))) I (AP.act [1] I I I (AX.st 1 0 0 [[.v c, .v a, .v b]] I (AP.ofAO (AO.nil ?_))))))))))))))))))))))
 exact lg ⟨(g, i, k), c, a, b, h, I, I⟩ [1, 2, 4, 3]
 refine AP.act [] I I I (AX.buildSlice (sz := 1) (es := ([] : List Int).map rI) I I I I I I I I I I I dS (fun w => (AP.two ?_ ?_)))
 refine AP.act [] I I I (AX.buildSlice (sz := 1) (es := ([] : List Int).map rI) I I I I I I I I I I I dS (fun B => (AP.two ?_ ?_)))
 refine AP.act [3] I I I (AX.ap 3 I q (fun c => (AP.two ?_ ?_)))
 refine AP.act [2] I I I (AX.ap 2 I j (fun a => (AP.act [] I I I (AX.buildSlice (sz := 1) (es := ([] : List Bool).map rB) I I I I I I I I I I I dS (fun t => (AP.act [4] I I I (AX.ap 4 I n (fun b => (AP.one 3 I (fun d => (AP.one 2 I (fun e => (AP.one 4 I (fun f => (AP.p I (Yp.buildP (l := [.v c, .v a, .v b]) Tryz.bld37 (fill_step I I (cells_v d) I (fill_step I I (cells_v e) I (fill_step I I (cells_v f) I (fill_nil))))) I (AP.act [1] I I I (AX.st 1 0 0 [[.v c, .v a, .v b]] I (AP.ofAO (AO.nil ?_)))))))))))))))))))
 exact lg ⟨(g, i, k), c, a, b, h, I, I⟩ [1, 3, 2, 4]
 refine AP.act [] I I I (AX.buildSlice (sz := 1) (es := ([] : List Bool).map rB) I I I I I I I I I I I dS (fun t => (AP.act [2] I I I (AX.ap 2 I j (fun a => (AP.act [4] I I I (AX.ap 4 I n (fun b => (AP.one 3 I (fun d => (AP.one 2 I (fun e => (AP.one 4 I (fun f => (AP.p I (Yp.buildP (l := [.v c, .v a, .v b]) Tryz.bld37 (fill_step I I (cells_v d) I (fill_step I I (cells_v e) I (fill_step I I (cells_v f) I (fill_nil))))) I (AP.act [1] I I I (AX.st 1 0 0 [[.v c, .v a, .v b]] I (AP.ofAO (AO.nil ?_)))))))))))))))))))
 exact lg ⟨(g, i, k), c, a, b, h, I, I⟩ [1, 3, 2, 4]
 refine AP.act [] I I I (AX.buildSlice (sz := 1) (es := ([] : List Bool).map rB) I I I I I I I I I I I dS (fun t => (AP.act [3] I I I (AX.ap 3 I q (fun c => (AP.act [2] I I I (AX.ap 2 I j (fun a => (AP.act [4] I I I (AX.ap 4 I n (fun b => (AP.one 3 I (fun d => (AP.one 2 I (fun e => (AP.one 4 I (fun f => (AP.p I (Yp.buildP (l := [.v c, .v a, .v b]) Tryz.bld37 (fill_step I I (cells_v d) I (fill_step I I (cells_v e) I (fill_step I I (cells_v f) I (fill_nil))))) I (AP.act [1] I I I (AX.st 1 0 0 [[.v c, .v a, .v b]] I (AP.ofAO (AO.nil ?_))))))))))))))))))))))
 exact lg ⟨(g, i, k), c, a, b, h, I, I⟩ [1, 3, 2, 4]
 refine AP.act [] I I I (AX.buildSlice (sz := 1) (es := ([] : List Bool).map rB) I I I I I I I I I I I dS (fun t => (AP.act [] I I I (AX.buildSlice (sz := 1) (es := ([] : List Int).map rI) I I I I I I I I I I I dS (fun B => (AP.act [4] I I I (AX.ap 4 I q (fun c => (AP.act [2] I I I (AX.ap 2 I j (fun a => (AP.act [3] I I I (AX.ap 3 I n (fun b => (AP.one 4 I (fun d => (AP.one 2 I (fun e => (AP.one 3 I (fun f => (AP.p I (Yp.buildP (l := [.v c, .v a, .v b]) Tryz.bld37 (fill_step I I (cells_v d) I (fill_step I I (cells_v e) I (fill_step I I (cells_v f) I (fill_nil))))) I (AP.act [1] I I I (AX.st 1 0 0 [[.v c, .v a, .v b]] I (AP.ofAO (AO.nil ?_)))))))))))))))))))))))))
 exact lg ⟨(g, i, k), c, a, b, h, I, I⟩ [1, 4, 2, 3]
 refine AP.act [] I I I (AX.buildSlice (sz := 1) (es := ([] : List Bool).map rB) I I I I I I I I I I I dS (fun t => (AP.two ?_ ?_)))
 refine AP.act [] I I I (AX.buildSlice (sz := 1) (es := ([] : List Int).map rI) I I I I I I I I I I I dS (fun B => (AP.two ?_ ?_)))
 refine AP.act [3] I I I (AX.ap 3 I q (fun c => (AP.act [] I I I (AX.buildSlice (sz := 1) (es := ([] : List Int).map rI) I I I I I I I I I I I dS (fun w => (AP.act [4] I I I (AX.ap 4 I j (fun a => (AP.act [2] I I I (AX.ap 2 I n (fun b => (AP.one 3 I (fun d => (AP.one 4 I (fun e => (AP.one 2 I (fun f => (AP.p I (Yp.buildP (l := [.v c, .v a, .v b]) Tryz.bld37 (fill_step I I (cells_v d) I (fill_step I I (cells_v e) I (fill_step I I (cells_v f) I (fill_nil))))) I (AP.act [1] I I I (AX.st 1 0 0 [[.v c, .v a, .v b]] I (AP.ofAO (AO.nil ?_))))))))))))))))))))))
 exact lg ⟨(g, i, k), c, a, b, h, I, I⟩ [1, 3, 4, 2]
 refine AP.act [] I I I (AX.buildSlice (sz := 1) (es := ([] : List Int).map rI) I I I I I I I I I I I dS (fun w => (AP.act [3] I I I (AX.ap 3 I q (fun c => (AP.act [4] I I I (AX.ap 4 I j (fun a => (AP.act [2] I I I (AX.ap 2 I n (fun b => (AP.one 3 I (fun d => (AP.one 4 I (fun e => (AP.one 2 I (fun f => (AP.p I (Yp.buildP (l := [.v c, .v a, .v b]) Tryz.bld37 (fill_step I I (cells_v d) I (fill_step I I (cells_v e) I (fill_step I I (cells_v f) I (fill_nil))))) I (AP.act [1] I I I (AX.st 1 0 0 [[.v c, .v a, .v b]] I (AP.ofAO (AO.nil ?_))))))))))))))))))))))
 exact lg ⟨(g, i, k), c, a, b, h, I, I⟩ [1, 3, 4, 2]
 refine AP.act [] I I I (AX.buildSlice (sz := 1) (es := ([] : List Int).map rI) I I I I I I I I I I I dS (fun w => (AP.act [] I I I (AX.buildSlice (sz := 1) (es := ([] : List Int).map rI) I I I I I I I I I I I dS (fun B => (AP.act [4] I I I (AX.ap 4 I q (fun c => (AP.act [3] I I I (AX.ap 3 I j (fun a => (AP.act [2] I I I (AX.ap 2 I n (fun b => (AP.one 4 I (fun d => (AP.one 3 I (fun e => (AP.one 2 I (fun f => (AP.p I (Yp.buildP (l := [.v c, .v a, .v b]) Tryz.bld37 (fill_step I I (cells_v d) I (fill_step I I (cells_v e) I (fill_step I I (cells_v f) I (fill_nil))))) I (AP.act [1] I I I (AX.st 1 0 0 [[.v c, .v a, .v b]] I (AP.ofAO (AO.nil ?_)))))))))))))))))))))))))
 exact lg ⟨(g, i, k), c, a, b, h, I, I⟩ [1, 4, 3, 2]
 rintro s ob ⟨u, y, z, A, h, rfl, rfl⟩
 unfold L.zbxx.J1 at h
 refine AW.gp [1, 2, 3, 0] I ?_
 obtain rfl := oi h
 exact AW.ret ⟨.inr I, [_], [.us y 3 1 (u.1.map rI), .us z 3 1 (u.2.1.map rI), .us A 4 1 (u.2.2.map rB)], ⟨⟨3, _, _, _, _, _, _, _, I, I, I, I, I⟩, J⟩, sl_c I (sl_c I (sl_c I (sl_n))), ⟨y, z, A, I, I⟩⟩
theorem L.zbva_ok (a : Path) (r : Bool) (h : L.zbva a = r) : ACalls Tryz.env 102 [.agg (Path.row a)] [] (fun x new => x = .v (.bool r) ∧ new = []) := by
 refine ACalls.of_body Tryz.func102 rfl rfl rfl (fun C hC => ?_)
 unfold L.zbva at h
 refine AW.seqG (fun f e => (AW.region (AO.act [] I (AX.box (cs := Path.row a) (m := 4) I I I dS (fun g => (AO.q 1 I (AO.nil ?_)))))))
 subst e
 refine AW.cutX (fun s ob => s = [(2, .v (.bool ((a.In == 0) && ((a.Out == 0) && (((a.Hops.length : Int) == 0) && (a.Rate == 0))))))] ∧ ob = []) [] J ?_ ?_
 refine AW.region (AO.r 4 [.o 1 0] I ⟨I, J⟩ ?_)
 rcases bt ((a.In == 0)) with b | b
 refine AO.known 6 I b (AO.r 5 [.o 1 0] I ⟨I, J⟩ ?_)
 rcases bt ((a.Out == 0)) with c | c
 refine AO.known 11 I c (AO.r 6 [.o 1 0, .l 2 (a.Hops.length : Int)] I ⟨len_m, I, J⟩ ?_)
 rcases bt (((a.Hops.length : Int) == 0)) with d | d
 refine AO.known 17 I d (AO.r 5 [.o 1 0] I ⟨I, J⟩ (AO.nil ?_))
 exact lf ⟨I, I⟩ ⟨(get_b (by simp only [b, c, d, bz])), J⟩ [] I
 refine AO.known 17 I d (AO.q 5 I (AO.nil ?_))
 exact lf ⟨I, I⟩ ⟨(get_b (by simp only [b, c, d, bz])), J⟩ [] I
 refine AO.known 11 I c (AO.q 11 I (AO.nil ?_))
 exact lf ⟨I, I⟩ ⟨(get_b (by simp only [b, c, bz])), J⟩ [] I
 refine AO.known 6 I b (AO.q 16 I (AO.nil ?_))
 exact lf ⟨I, I⟩ ⟨(get_b (by simp only [b, bz])), J⟩ [] I
 rintro s ob ⟨rfl, rfl⟩
 obtain rfl := h
 exact AW.ret pr
theorem L.zrblx_ok (a : Step) (r : Bool) (h : L.zrblx a = r) : ACalls Tryz.env 61 [.agg (Step.row a)] [] (fun x new => x = .v (.bool r) ∧ new = []) := by
 refine ACalls.of_body Tryz.func61 rfl rfl rfl (fun C hC => ?_)
 unfold L.zrblx at h
 refine AW.seqG (fun A i => (AW.region (AO.act [] I (AX.box (cs := Step.row a) (m := 7) I I I dS (fun j => (AO.q 1 I (AO.nil ?_)))))))
 subst i
 refine AW.seq (AW.zr [.o 1 0] I ⟨I, J⟩ (AW.block (AW.cutX (fun s ob => ∃ (g : Bool), L.zrblx.J1 a g = r ∧ s = [(5, .v (.bool g))] ∧ ob = [.arr j 54 7 1 [Step.row a]]) [(1, _), (4, _)] ⟨I, I, J⟩ ?_ ?_)))
 refine AW.z I (AW.ch h I ?_ ?_)
 intro k h
 refine AW.skip ?_
 exact lg ⟨(a.Kind == 1), h, I, I⟩ [0]
 intro k h
 refine AW.z I (AW.ch h I ?_ ?_)
 intro l h
 refine AW.skip ?_
 exact lg ⟨(a.Kind == 2), h, I, I⟩ [0]
 intro l h
 refine AW.z I (AW.ch h I ?_ ?_)
 intro n h
 refine AW.skip ?_
 exact lg ⟨(a.Kind == 3), h, I, I⟩ [0]
 intro n h
 refine AW.t I ?_
 exact lg ⟨(a.Kind == 4), h, I, I⟩ [0]
 rintro s ob ⟨g, h, rfl, rfl⟩
 unfold L.zrblx.J1 at h
 refine AW.ch h I ?_ ?_
 intro p h
 refine AW.jb 2 ((a.Value == 0) && (L.zbva a.Path)) ?_ ?_
 refine AW.region (AO.r 4 [.o 1 0] I ⟨I, J⟩ ?_)
 rcases bt ((a.Value == 0)) with b | b
 refine AO.known 13 I b (AO.q 1 I (AO.gt I I I (AO.d (Yd.loadO 0 0 3 I I I I I (y := .agg (Path.row a.Path)) I) I (AO.gt I I I (AO.c (L.zbva_ok a.Path _ I) (AO.q 2 I (AO.nil ?_)))))))
 exact jf (by simp only [b, bz]) I I ⟨I, I⟩
 refine AO.known 13 I b (AO.q 5 I (AO.nil ?_))
 exact jf (by simp only [b, bz]) I I ⟨I, I⟩
 refine AW.ghost g0 ?_
 obtain rfl := h
 exact AW.ret pr
 intro p h
 refine AW.z I (AW.ch h I ?_ ?_)
 intro u h
 refine AW.jb 2 ((a.Index == 0) && (a.Path.Rate == 0)) ?_ ?_
 refine AW.region (AO.r 4 [.o 1 0] I ⟨I, J⟩ ?_)
 rcases bt ((a.Index == 0)) with e | e
 refine AO.known 23 I e (AO.r 6 [.o 2 0] I ⟨I, J⟩ (AO.nil ?_))
 exact jf (by simp only [e, bz]) I I ⟨I, I⟩
 refine AO.known 23 I e (AO.q 6 I (AO.nil ?_))
 exact jf (by simp only [e, bz]) I I ⟨I, I⟩
 refine AW.ghost g0 ?_
 obtain rfl := h
 exact AW.ret pr
 intro u h
 refine AW.z I (AW.ch h I ?_ ?_)
 intro w h
 refine AW.jb 2 ((a.Index == 0) && (L.zbva a.Path)) ?_ ?_
 refine AW.region (AO.r 4 [.o 1 0] I ⟨I, J⟩ ?_)
 rcases bt ((a.Index == 0)) with f | f
 refine AO.known 34 I f (AO.q 1 I (AO.gt I I I (AO.d (Yd.loadO 0 0 3 I I I I I (y := .agg (Path.row a.Path)) I) I (AO.gt I I I (AO.c (L.zbva_ok a.Path _ I) (AO.q 2 I (AO.nil ?_)))))))
 exact jf (by simp only [f, bz]) I I ⟨I, I⟩
 refine AO.known 34 I f (AO.q 5 I (AO.nil ?_))
 exact jf (by simp only [f, bz]) I I ⟨I, I⟩
 refine AW.ghost g0 ?_
 obtain rfl := h
 exact AW.ret pr
 intro w h
 refine AW.skip (AW.z I (AW.ghost g0 ?_))
 obtain rfl := h
 exact AW.ret pr
theorem L.zkss_ok (a : Network) (b : Plan) (r : Bool) (h : L.zkss a b = some r) : ACalls Tryz.env 101 [.agg (Network.row a), .agg (Plan.row b)] [] (fun x new => x = .v (.bool r) ∧ new = []) := by
 refine ACalls.of_body Tryz.func101 rfl rfl rfl (fun C hC => ?_)
 unfold L.zkss at h
 refine AW.seqG (fun Q w => (AW.region (AO.act [] I (AX.box (cs := Network.row a) (m := 6) I I I dS (fun g => (AO.act [] I (AX.box (cs := Plan.row b) (m := 3) I I I dS (fun i => (AO.q 1 I (AO.nil ?_))))))))))
 subst w
 refine AW.cutX (fun s ob => ∃ (j : Unit), L.zkss.J1 j = some r ∧ s = [] ∧ ob = []) [] J ?_ ?_
 refine AW.z I (AW.block ?_)
 obtain ⟨R, y, k⟩ := ob_some h
 clear h
 refine AW.loopX y [(2, _), (3, _)] ⟨I, I, J⟩ (fun (e : Int) s ob => s = [(5, .V e)] ∧ ob = [.arr g 32 6 1 [Network.row a], .arr i 37 3 1 [Plan.row b]]) ⟨I, I⟩ ⟨I, J⟩ ⟨[0, 1], I, by decide⟩ ?_
 rintro e A s ob ⟨rfl, rfl⟩ h n
 unfold L.zkss.B2 at h
 refine AW.seqG (fun S B => (AW.zr [.o 2 0, .l 3 (a.Stations.length : Int)] I ⟨len_m, I, J⟩ (AW.ch h I ?_ ?_)))
 intro D h
 refine AW.skip ?_
 subst B
 refine AW.cutX (fun s ob => ∃ (p : Unit), L.zkss.J3 e p = some A ∧ s = [] ∧ ob = [.arr g 32 6 1 [Network.row a], .arr i 37 3 1 [Plan.row b]]) [(2, _), (3, _), (5, _)] ⟨I, I, I, J⟩ ?_ ?_
 refine AW.block (AW.seqG (fun U E => ?_))
 obtain ⟨t, ⟨F, G⟩, h⟩ := ob_ix h
 refine AW.tr [.o 1 1, .x 3 t.1 (rB t.2)] I ⟨⟨F, map_get G⟩, I, J⟩ ?_
 subst E
 refine AW.ch h I ?_ ?_
 intro H h
 refine AW.seqG (fun W K => ?_)
 obtain ⟨u, ⟨M, N⟩, h⟩ := ob_ix h
 obtain ⟨f, O, h⟩ := ob_some h
 refine AW.rd (pd 14 0 [8]) [0, 1] [_, _] I (AP.r 8 [.o 0 0, .o 1 1, .o 3 0, .x 5 u.1 (Station.row u.2)] I ⟨⟨M, map_get N⟩, I, I, I, J⟩ (AP.c I (L.zcfu_ok _ _ _ _ O) (AP.q 5 I (AP.ofAO (AO.nil ?_)))))
 subst K
 refine AW.jb 37 ((f.2 != 0) || (f.1 == 0)) ?_ ?_
 refine AW.region (AO.q 3 I ?_)
 rcases bt ((f.2 != 0)) with d | d
 refine AO.known 34 I d (AO.q 3 I (AO.nil ?_))
 exact jf (by simp only [d, bz]) I I ⟨I, I⟩
 refine AO.known 34 I d (AO.q 3 I (AO.nil ?_))
 exact jf (by simp only [d, bz]) I I ⟨I, I⟩
 refine AW.ch h I ?_ ?_
 intro P h
 refine AW.z I ?_
 obtain rfl := n _ (oi h).symm
 replace h := k
 replace h := se_l h
 refine AW.ghost g0 ?_
 obtain rfl := oi h
 exact AW.ret pr
 intro P h
 refine AW.skip ?_
 exact lg ⟨(), h, I, I⟩ [0, 1]
 intro H h
 refine AW.skip ?_
 exact lg ⟨(), h, I, I⟩ [0, 1]
 rintro s ob ⟨p, h, rfl, rfl⟩
 unfold L.zkss.J3 at h
 refine AW.region (AO.q 3 I ?_)
 obtain rfl := oi h
 refine AO.nil ?_
 exact ⟨_, _, _, I, ⟨I, I⟩, ⟨I, I, I, J⟩, [0, 1], I, by decide⟩
 intro D h
 obtain rfl := n _ (oi h).symm
 replace h := k
 replace h := se_r h
 refine AW.exit ?_
 exact lg ⟨(), h, I, I⟩ []
 rintro s ob ⟨j, h, rfl, rfl⟩
 unfold L.zkss.J1 at h
 refine AW.z I ?_
 obtain rfl := oi h
 exact AW.ret pr
theorem L.zupr_ok (b : Network) (a : Desk) (r : Int) (h : L.zupr b a = some r) : ACalls Tryz.env 60 [.agg (Network.row b), .agg (Desk.row a)] [] (fun x new => x = .V r ∧ new = []) := by
 refine ACalls.of_body Tryz.func60 rfl rfl rfl (fun C hC => ?_)
 unfold L.zupr at h
 refine AW.seqG (fun y1 F => (AW.region (AO.act [] I (AX.box (cs := Network.row b) (m := 6) I I I dS (fun j => (AO.act [] I (AX.box (cs := Desk.row a) (m := 4) I I I dS (fun k => (AO.q 1 I (AO.nil ?_))))))))))
 subst F
 refine AW.seqG (fun y4 G => (AW.seq ?_))
 obtain ⟨r5, H, h⟩ := ob_some h
 refine AW.region (AO.r 1 [.o 0 0] I ⟨I, J⟩ (AO.c (L.zgcl_ok _ _ H) (AO.q 1 I (AO.nil (AW.z I (AW.ch h I ?_ ?_))))))
 intro K h
 refine AW.z I (AW.ghost g0 ?_)
 obtain rfl := oi h
 exact AW.ret pr
 intro K h
 refine AW.skip ?_
 subst G
 refine AW.seqG (fun y8 M => (AW.seq ?_))
 obtain ⟨r9, N, h⟩ := ob_some h
 refine AW.region (AO.r 3 [.o 0 0, .o 2 1] I ⟨I, I, J⟩ (AO.c (L.zbne_ok _ _ _ N) (AO.q 1 I (AO.nil (AW.z I (AW.ch h I ?_ ?_))))))
 intro O h
 refine AW.z I (AW.ghost g0 ?_)
 obtain rfl := oi h
 exact AW.ret pr
 intro O h
 refine AW.skip ?_
 subst M
 refine AW.seqG (fun ak P => (AW.seq ?_))
 obtain ⟨al, Q, h⟩ := ob_some h
 refine AW.region (AO.r 2 [.o 0 0] I ⟨I, J⟩ (AO.d (Yd.loadO 1 0 1 I I I I I (y := .agg (Plan.row a.Plan)) I) I (AO.c (L.zvqa_ok _ _ _ Q) (AO.q 1 I (AO.nil (AW.z I (AW.ch h I ?_ ?_)))))))
 intro R h
 refine AW.z I (AW.ghost g0 ?_)
 obtain rfl := oi h
 exact AW.ret pr
 intro R h
 refine AW.skip ?_
 subst P
 refine AW.seqG (fun am S => ?_)
 obtain ⟨an, U, h⟩ := ob_some h
 obtain ⟨p, W, h⟩ := ob_some h
 refine AW.region (AO.q 1 I (AO.d (Yd.loadO 1 0 1 I I I I I (y := .agg (Plan.row a.Plan)) I) I (AO.act [] I (AX.call0 I I I (L.zyrr_ok _ _ U) dS ?_))))
 rintro _ _ ⟨rfl, rfl⟩
 refine AO.act [] I (AX.call0 I I I (L.zjdk_ok _ _ W) dS ?_)
 rintro _ _ ⟨t, rfl, rfl⟩
 refine AO.q 1 I (AO.nil ?_)
 subst S
 refine AW.cutX (fun s ob => ∃ (u : Unit), L.zupr.J1 b a u = some r ∧ s = [] ∧ ob = [.arr j 32 6 1 [Network.row b], .arr k 39 4 1 [Desk.row a]]) [(2, _), (3, _)] ⟨I, I, J⟩ ?_ ?_
 refine AW.z I (AW.block ?_)
 obtain ⟨ao, X, w⟩ := ob_some h
 clear h
 refine AW.loopX X [(2, _), (3, _), (8, _)] ⟨I, I, I, J⟩ (fun (l : Int) s ob => s = [(9, .V l)] ∧ ob = [.arr j 32 6 1 [Network.row b], .arr k 39 4 1 [Desk.row a], .us t 4 1 (p.map rB)]) ⟨I, I⟩ ⟨I, J⟩ ⟨[0, 1, 2], I, by decide⟩ ?_
 rintro l Y s ob ⟨rfl, rfl⟩ h A
 unfold L.zupr.B2 at h
 refine AW.seqG (fun ap Z => (AW.seq (AW.region (AO.q 2 I (AO.d (Yd.lenUM 2 I I I I) I (AO.q 1 I (AO.nil (AW.ch h I ?_ ?_))))))))
 intro aa h
 refine AW.skip ?_
 subst Z
 refine AW.seq (AW.block (AW.cutX (fun s ob => ∃ (n : Bool), L.zupr.J3 l n = some Y ∧ s = [(60, .v (.bool n))] ∧ ob = [.arr j 32 6 1 [Network.row b], .arr k 39 4 1 [Desk.row a], .us t 4 1 (p.map rB)]) [(2, _), (3, _), (8, _), (9, _)] ⟨I, I, I, I, J⟩ ?_ ?_))
 obtain ⟨i, ⟨ab, B⟩, h⟩ := ob_ix h
 refine AW.region (AO.q 2 I (AO.d (Yd.indexU 2 (m := i.1) I I I I I I I ab (map_get B)) I (AO.d (Yd.loadU 2 i.1 0 I I I (map_get B) I (y := .v (.bool i.2)) I) I (AO.q 1 I ?_))))
 rcases bt (i.2) with f | f
 replace h := ife_t f h
 obtain ⟨e, ⟨D, E⟩, h⟩ := ob_ix h
 refine AO.known 43 I f (AO.r 5 [.o 1 1, .x 3 e.1 (Valve.row e.2)] I ⟨⟨D, map_get E⟩, I, J⟩ (AO.gt I I I (AO.c (L.zwdc_ok e.2 _ I) (AO.q 2 I ?_))))
 rcases bt ((!(L.zwdc e.2))) with g | g
 replace h := ife_t g h
 refine AO.known 51 I g (AO.q 9 I (AO.nil ?_))
 exact lg ⟨true, h, I, I⟩ [0, 1, 2]
 replace h := ife_f g h
 refine AO.known 51 I g (AO.r 9 [.o 1 1, .x 3 e.1 (Valve.row e.2)] I ⟨⟨D, map_get E⟩, I, J⟩ (AO.nil ?_))
 exact lg ⟨(!e.2.Want), h, I, I⟩ [0, 1, 2]
 replace h := ife_f f h
 refine AO.known 43 I f (AO.q 8 I (AO.skipU I I dS (AO.skipU I I dS (AO.skipU I I dS (AO.skipU I I dS (AO.skipU I I dS (AO.skipU I I dS (AO.skipU I I dS (AO.q 2 I (AO.nil ?_))))))))))
 exact lg ⟨false, h, I, I⟩ [0, 1, 2]
 rintro s ob ⟨n, h, rfl, rfl⟩
 unfold L.zupr.J3 at h
 refine AW.ch h I ?_ ?_
 intro ac h
 refine AW.z I ?_
 obtain rfl := A _ (oi h).symm
 replace h := w
 replace h := se_l h
 refine AW.ghost g0 ?_
 obtain rfl := oi h
 exact AW.ret pr
 intro ac h
 refine AW.skip (AW.region (AO.q 3 I ?_))
 obtain rfl := oi h
 refine AO.nil ?_
 exact ⟨_, _, _, I, ⟨I, I⟩, ⟨I, I, I, I, J⟩, [0, 1, 2], I, by decide⟩
 intro aa h
 obtain rfl := A _ (oi h).symm
 replace h := w
 replace h := se_r h
 refine AW.exit ?_
 exact lg ⟨(), h, I, I⟩ [0, 1]
 rintro s ob ⟨u, h, rfl, rfl⟩
 unfold L.zupr.J1 at h
 refine AW.seq (AW.seq ?_)
 obtain ⟨aq, ad, h⟩ := ob_some h
 refine AW.region (AO.r 2 [.o 0 0] I ⟨I, J⟩ (AO.d (Yd.loadO 1 0 1 I I I I I (y := .agg (Plan.row a.Plan)) I) I (AO.c (L.zkss_ok _ _ _ ad) (AO.q 1 I (AO.nil (AW.ch h I ?_ ?_))))))
 intro ae h
 refine AW.z I (AW.ghost g0 ?_)
 obtain rfl := oi h
 exact AW.ret pr
 intro ae h
 refine AW.skip (AW.z I (AW.ghost g0 ?_))
 obtain rfl := oi h
 exact AW.ret pr
theorem L.zryh_own (a : Desk) (r : Desk) (h : L.zryh a = some r) : ACalls Tryz.env 42 [.agg (Desk.row a)] [] (fun x new => ∃ (g : Value) (i : Value) (j : Value) (k : Value), x = .agg [.v g, .v i, .v j, .v k] ∧ new = [.us g 74 4 (r.Valves.map Valve.row), .us i 3 1 (r.Plan.Rates.map rI), .us j 3 1 (r.Plan.Ports.map rI), .us k 4 1 (r.Plan.Pumps.map rB)]) := by
 refine ACalls.of_body Tryz.func42 rfl rfl rfl (fun C hC => ?_)
 unfold L.zryh at h
 refine AW.seq (AW.region (AO.act [] I (AX.box (cs := Desk.row a) (m := 4) I I I dS (fun u => (AO.act [] I (AX.alloc (cs := [.N, .N, .N, .N]) (m := 4) I I I I I dS (fun w => (AO.nil (AW.seq ?_)))))))))
 obtain ⟨n, q, h⟩ := ob_some h
 obtain ⟨f, s, h⟩ := ob_some h
 refine AW.rd (.still 1 (.still 2 (.still 4 (.still 5 (.act 0 (.act 3 (.act 6 (.still 7 (.act 8 .nil))))))))) [0] [_] I (AP.r 3 [.o 1 0] I ⟨I, J⟩ (AP.o I (Yd.loadO 0 0 1 I I I I I (y := .agg (Plan.row a.Plan)) I) I (AP.act [] I I I (AX.buildSlice (sz := 4) (es := ([] : List Valve).map Valve.row) I I I I I I I I I I I dS (fun z => (AP.act [2] I I I (AX.ap 2 I q (fun b => (AP.act [] I I I (AX.callN I (.refl _) I I (.rest _) I (L.zbxx_own _ _ s) dS (by rintro _ _ ⟨_, _, _, rfl, rfl⟩; exact ⟨rfl, by intro p hp; simp only [List.mem_cons, List.not_mem_nil, or_false] at hp; rcases hp with rfl | rfl | rfl <;> exact flat_map fun _ => rfl⟩) ?_))))))))))
 rintro _ _ ⟨c, d, e, rfl, rfl⟩
 refine AP.one 2 I (fun t => (AP.p I (Yp.buildP (l := [.v b, .v c, .v d, .v e]) Tryz.bld39 (fill_step I I (cells_v t) I (fill_step I I I I (fill_nil)))) I (AP.act [1] I I I (AX.st 1 0 0 [[.v b, .v c, .v d, .v e]] I (AP.ofAO (AO.nil (AW.gp [2, 3, 4, 5, 1] I ?_)))))))
 obtain rfl := oi h
 exact AW.ret ⟨.inr I, [_], [.us b 74 4 (n.map Valve.row), .us c 3 1 (f.Rates.map rI), .us d 3 1 (f.Ports.map rI), .us e 4 1 (f.Pumps.map rB)], ⟨⟨4, _, _, _, _, _, _, _, I, I, I, I, I⟩, J⟩, sl_c I (sl_c I (sl_c I (sl_c I (sl_n)))), ⟨b, c, d, e, I, I⟩⟩
theorem L.zdmi_ok (d : Desk) (a : Step) (r : Desk × Int) (h : L.zdmi d a = some r) : ACalls Tryz.env 62 [.agg (Desk.row d), .agg (Step.row a)] [] (fun x new => x = .tup [.agg (Desk.row r.1), .V r.2] ∧ new = []) := by
 refine ACalls.of_body Tryz.func62 rfl rfl rfl (fun C hC => ?_)
 unfold L.zdmi at h
 refine AW.seqG (fun Z F => (AW.region (AO.act [] I (AX.box (cs := Desk.row d) (m := 4) I I I dS (fun z => (AO.act [] I (AX.box (cs := Step.row a) (m := 7) I I I dS (fun A => (AO.act [] I (AX.alloc (cs := [.N, .N, .N, .N]) (m := 4) I I I I I dS (fun B => (AO.q 1 I (AO.nil ?_)))))))))))))
 subst F
 refine AW.seqG (fun y5 G => (AW.jb 17 (decide (a.Index < 0) || decide (a.Index ≥ (d.Valves.length : Int))) ?_ ?_))
 refine AW.region (AO.r 4 [.o 1 1] I ⟨I, J⟩ ?_)
 rcases bt (decide (a.Index < 0)) with g | g
 refine AO.known 10 I g (AO.q 7 I (AO.nil ?_))
 exact jf (by simp only [g, bz]) I I ⟨I, I⟩
 refine AO.known 10 I g (AO.r 7 [.o 1 1, .o 3 0, .l 4 (d.Valves.length : Int)] I ⟨len_m, I, I, J⟩ (AO.nil ?_))
 exact jf (by simp only [g, bz]) I I ⟨I, I⟩
 refine AW.ch h I ?_ ?_
 intro H h
 refine AW.seq (AW.region (AO.r 1 [.o 0 0] I ⟨I, J⟩ (AO.act [2] I (AX.st 2 0 0 [Desk.row d] I (AO.q 1 I (AO.nil (AW.gp [2] I ?_)))))))
 obtain rfl := oi h
 exact AW.ret ⟨.inr I, [_, _], [], ⟨⟨0, _, _, _, _, _, _, _, I, I, I, I, I⟩, I, J⟩, sl_n, I, I⟩
 intro H h
 refine AW.skip ?_
 subst G
 refine AW.seqG (fun ab M => (AW.cutX (fun s ob => ∃ (w : Bool), L.zdmi.J1 d a w = some r ∧ s = [(31, .v (.bool w))] ∧ ob = [.arr z 39 4 1 [Desk.row d], .arr A 54 7 1 [Step.row a], .arr B 39 4 1 [[.N, .N, .N, .N]]]) [(2, _), (3, _), (4, _)] ⟨I, I, I, J⟩ ?_ ?_))
 rcases bt ((a.Kind == 2)) with i | i
 replace h := ife_t i h
 obtain ⟨ac, O, h⟩ := ob_some h
 obtain ⟨ad, P, h⟩ := ob_some h
 obtain ⟨j, ⟨Q, D⟩, h⟩ := ob_ix h
 refine AW.rd (.still 0 (.still 1 (.still 2 (.still 3 (.still 4 (.still 5 (.still 8 (.still 9 (.act 6 (.act 7 (.act 10 (.act 11 (.still 12 .nil))))))))))))) [1, 0] [_, _] I (AP.r 4 [.o 1 0] I ⟨I, J⟩ (AP.known 22 I i (AP.q 1 I (AP.oldG I I I I (Yd.loadO 1 0 1 I I I I I (y := .agg (Plan.row d.Plan)) I) dS (AP.r 2 [.o 1 0] I ⟨I, J⟩ (AP.actG [] I I I I I (AX.call0 I I I (L.zyrr_ok _ _ O) dS ?_)))))))
 rintro _ _ ⟨rfl, rfl⟩
 refine AP.actG [] I I I I I (AX.call0 I I I (L.zjdk_ok _ _ P) dS ?_)
 rintro _ _ ⟨ae, rfl, rfl⟩
 refine AP.actG [] I I I I I (AX.of_yd (Yd.indexU 3 (m := j.1) I I I I I I I Q (map_get D)) dS (AP.actG [] I I I I I (AX.of_yd (Yd.loadU 3 j.1 0 I I I (map_get D) I (y := .v (.bool j.2)) I) dS (AP.q 1 I (AP.ofAO (AO.nil ?_))))))
 exact lg ⟨j.2, h, I, I⟩ [0, 1, 2]
 replace h := ife_f i h
 refine AW.rd (.still 0 (.still 1 (.still 2 (.still 3 (.still 4 (.still 5 (.still 8 (.still 9 (.act 6 (.act 7 (.act 10 (.act 11 (.still 12 .nil))))))))))))) [1] [_] I (AP.r 4 [.o 1 0] I ⟨I, J⟩ (AP.known 22 I i (AP.q 9 I (AP.ofAO (AO.nil ?_)))))
 exact lg ⟨false, h, I, I⟩ [0, 1, 2]
 rintro s ob ⟨w, h, rfl, rfl⟩
 unfold L.zdmi.J1 at h
 refine AW.ch h I ?_ ?_
 intro R h
 refine AW.seq (AW.region (AO.r 1 [.o 0 0] I ⟨I, J⟩ (AO.act [2] I (AX.st 2 0 0 [Desk.row d] I (AO.q 1 I (AO.nil (AW.gp [2] I ?_)))))))
 obtain rfl := oi h
 exact AW.ret ⟨.inr I, [_, _], [], ⟨⟨0, _, _, _, _, _, _, _, I, I, I, I, I⟩, I, J⟩, sl_n, I, I⟩
 intro R h
 refine AW.skip ?_
 subst M
 refine AW.seqG (fun af S => ?_)
 obtain ⟨e, U, h⟩ := ob_some h
 refine AW.region (AO.r 1 [.o 0 0] I ⟨I, J⟩ (AO.act [] I (AX.callN I (.refl _) I I (.rest _) I (L.zryh_own _ _ U) dS (by rintro _ _ ⟨_, _, _, _, rfl, rfl⟩; exact ⟨rfl, by intro p hp; simp only [List.mem_cons, List.not_mem_nil, or_false] at hp; rcases hp with rfl | rfl | rfl | rfl <;> exact flat_map fun _ => rfl⟩) ?_)))
 rintro _ _ ⟨k, n, t, u, rfl, rfl⟩
 refine AO.act [] I (AX.alloc (cs := [.N, .N, .N, .N]) (m := 4) I I I I I dS (fun W => (AO.act [7] I (AX.st 7 0 0 [[.v k, .v n, .v t, .v u]] I (AO.nil ?_)))))
 subst S
 refine AW.seq ?_
 obtain ⟨b, ⟨E, f⟩, h⟩ := ob_ix h
 refine AW.form 3 b.1 I f (fun X => (AW.form 3 b.1 I f (fun Y => (AW.rd (.still 0 (.still 1 (.still 2 (.still 3 (.still 4 (.still 5 (.still 6 (.still 7 (.still 8 (.still 10 (.still 11 (.still 12 (.act 9 (.act 13 (.still 14 (.still 15 (.still 16 (.still 17 (.act 18 .nil))))))))))))))))))) [7, 1] [_, _] I (AP.r 8 [.o 1 0, .o 3 1, .o 5 0, .o 7 1] I ⟨I, I, I, I, J⟩ (AP.op I (Yp.indexUf (m := b.1) I I I I I X I E f) I (AP.r 3 [.o 1 1] I ⟨I, J⟩ (AP.act [] I I I (AX.of_yd (Yd.loadU 3 b.1 0 I I I (map_get f) I (y := .agg (Valve.row b.2)) I) dS (AP.c I (L.zfax_ok b.2 (a.Kind == 1) _ I) (AP.q 3 I (AP.op I (Yp.indexUf (m := b.1) I I I I I Y I E f) I (AP.act [3] I I I (AX.storeU 3 b.1 0 I I I (map_get f) I I I I (le_ble I) I (us_set (x := (L.zfax b.2 (a.Kind == 1)).1) I) (AP.ofAO (AO.nil ?_))))))))))))))))
 refine AW.seq (AW.region (AO.r 1 [.o 0 7] I ⟨I, J⟩ (AO.act [2] I (AX.st 2 0 0 [[.v k, .v n, .v t, .v u]] I (AO.q 1 I (AO.nil (AW.ghost (Ghost.freeze [3, 4, 5, 6] (K := [.us k 74 4 ((e.Valves.set b.1 ((L.zfax b.2 (a.Kind == 1)).1)).map Valve.row), .us n 3 1 (e.Plan.Rates.map rI), .us t 3 1 (e.Plan.Ports.map rI), .us u 4 1 (e.Plan.Pumps.map rB)]) I [] J (ob' := [.arr z 39 4 1 [Desk.row d], .arr A 54 7 1 [Step.row a], .arr B 39 4 1 [[.list 4 ((e.Valves.set b.1 ((L.zfax b.2 (a.Kind == 1)).1)).map Valve.row), .list 1 (e.Plan.Rates.map rI), .list 1 (e.Plan.Ports.map rI), .list 1 (e.Plan.Pumps.map rB)]], .arr W 39 4 1 [[.v k, .v n, .v t, .v u]]]) (.cons (.same _) (.cons (.same _) (.cons (.arr (.cons (.us 0 I) (.cons (.us 1 I) (.cons (.us 2 I) (.cons (.us 3 I) (.rest _)))))) (.rest _))))) (AW.gp [2] I ?_))))))))
 obtain rfl := oi h
 exact AW.ret ⟨.inr I, [_, _], [], ⟨⟨0, _, _, _, _, _, _, _, I, I, I, I, I⟩, I, J⟩, sl_n, I, I⟩
theorem L.zhuq_ok (c : Network) (e : Desk) (a : Step) (r : Desk × Int) (h : L.zhuq c e a = some r) : ACalls Tryz.env 63 [.agg (Network.row c), .agg (Desk.row e), .agg (Step.row a)] [] (fun x new => x = .tup [.agg (Desk.row r.1), .V r.2] ∧ new = []) := by
 refine ACalls.of_body Tryz.func63 rfl rfl rfl (fun C hC => ?_)
 unfold L.zhuq at h
 refine AW.seqG (fun Q t => (AW.region (AO.act [] I (AX.box (cs := Network.row c) (m := 6) I I I dS (fun u => (AO.act [] I (AX.box (cs := Desk.row e) (m := 4) I I I dS (fun w => (AO.act [] I (AX.box (cs := Step.row a) (m := 7) I I I dS (fun z => (AO.act [] I (AX.alloc (cs := [.N, .N, .N, .N]) (m := 4) I I I I I dS (fun A => (AO.q 1 I (AO.nil ?_))))))))))))))))
 subst t
 refine AW.seqG (fun R B => (AW.jb 19 (decide (a.Index < 0) || decide (a.Index ≥ (c.Stations.length : Int))) ?_ ?_))
 refine AW.region (AO.r 4 [.o 1 2] I ⟨I, J⟩ ?_)
 rcases bt (decide (a.Index < 0)) with f | f
 refine AO.known 12 I f (AO.q 7 I (AO.nil ?_))
 exact jf (by simp only [f, bz]) I I ⟨I, I⟩
 refine AO.known 12 I f (AO.r 7 [.o 1 2, .o 3 0, .l 4 (c.Stations.length : Int)] I ⟨len_m, I, I, J⟩ (AO.nil ?_))
 exact jf (by simp only [f, bz]) I I ⟨I, I⟩
 refine AW.ch h I ?_ ?_
 intro D h
 refine AW.seq (AW.region (AO.r 1 [.o 0 1] I ⟨I, J⟩ (AO.act [3] I (AX.st 3 0 0 [Desk.row e] I (AO.q 1 I (AO.nil (AW.gp [3] I ?_)))))))
 obtain rfl := oi h
 exact AW.ret ⟨.inr I, [_, _], [], ⟨⟨0, _, _, _, _, _, _, _, I, I, I, I, I⟩, I, J⟩, sl_n, I, I⟩
 intro D h
 refine AW.skip ?_
 subst B
 refine AW.seqG (fun S E => ?_)
 obtain ⟨b, F, h⟩ := ob_some h
 refine AW.region (AO.r 1 [.o 0 1] I ⟨I, J⟩ (AO.act [] I (AX.callN I (.refl _) I I (.rest _) I (L.zryh_own _ _ F) dS (by rintro _ _ ⟨_, _, _, _, rfl, rfl⟩; exact ⟨rfl, by intro p hp; simp only [List.mem_cons, List.not_mem_nil, or_false] at hp; rcases hp with rfl | rfl | rfl | rfl <;> exact flat_map fun _ => rfl⟩) ?_)))
 rintro _ _ ⟨k, g, i, j, rfl, rfl⟩
 refine AO.act [] I (AX.alloc (cs := [.N, .N, .N, .N]) (m := 4) I I I I I dS (fun G => (AO.act [8] I (AX.st 8 0 0 [[.v k, .v g, .v i, .v j]] I (AO.nil ?_)))))
 subst E
 refine AW.seqG (fun U H => ?_)
 obtain ⟨n, ⟨M, s⟩, h⟩ := ob_ix h
 refine AW.region (AO.r 8 [.o 2 8, .o 4 2, .o 6 2] I ⟨I, I, I, J⟩ (AO.d (Yd.indexU 7 (m := n.1) I I I I I I I M (map_get s)) I (AO.act [7] I (AX.storeU 7 n.1 0 I I I (map_get s) I I I I (le_ble I) I (us_set (x := (a.Kind == 3)) I) (AO.nil ?_)))))
 subst H
 refine AW.seq (AW.seq ?_)
 obtain ⟨W, O, h⟩ := ob_some h
 refine AW.region (AO.r 2 [.o 0 0] I ⟨I, J⟩ (AO.d (Yd.loadO 8 0 1 I I I I I (y := .agg [.v g, .v i, .v j]) I) I (AO.act [] I (AX.callL I (.refl _) I I (.cons (.refl _) (.cons (.agg (.cons (.us 5 I) (.cons (.us 6 I) (.cons (.us 7 I) (.rest _))))) (.rest _))) I (L.zkss_ok _ _ _ O) dS (by rintro _ _ ⟨rfl, _⟩; rfl) ?_))))
 rintro _ ⟨_, rfl, -⟩
 refine AO.q 1 I (AO.nil (AW.ch h I ?_ ?_))
 intro P h
 refine AW.seq (AW.region (AO.r 1 [.o 0 1] I ⟨I, J⟩ (AO.act [3] I (AX.st 3 0 0 [Desk.row e] I (AO.q 1 I (AO.nil (AW.gp [3] I ?_)))))))
 obtain rfl := oi h
 exact AW.ret ⟨.inr I, [_, _], [], ⟨⟨0, _, _, _, _, _, _, _, I, I, I, I, I⟩, I, J⟩, sl_n, I, I⟩
 intro P h
 refine AW.skip (AW.seq (AW.region (AO.r 1 [.o 0 8] I ⟨I, J⟩ (AO.act [3] I (AX.st 3 0 0 [[.v k, .v g, .v i, .v j]] I (AO.q 1 I (AO.nil (AW.ghost (Ghost.freeze [4, 5, 6, 7] (K := [.us k 74 4 (b.Valves.map Valve.row), .us g 3 1 (b.Plan.Rates.map rI), .us i 3 1 (b.Plan.Ports.map rI), .us j 4 1 ((b.Plan.Pumps.set n.1 (a.Kind == 3)).map rB)]) I [] J (ob' := [.arr u 32 6 1 [Network.row c], .arr w 39 4 1 [Desk.row e], .arr z 54 7 1 [Step.row a], .arr A 39 4 1 [[.list 4 (b.Valves.map Valve.row), .list 1 (b.Plan.Rates.map rI), .list 1 (b.Plan.Ports.map rI), .list 1 ((b.Plan.Pumps.set n.1 (a.Kind == 3)).map rB)]], .arr G 39 4 1 [[.v k, .v g, .v i, .v j]]]) (.cons (.same _) (.cons (.same _) (.cons (.same _) (.cons (.arr (.cons (.us 0 I) (.cons (.us 1 I) (.cons (.us 2 I) (.cons (.us 3 I) (.rest _)))))) (.rest _)))))) (AW.gp [3] I ?_)))))))))
 obtain rfl := oi h
 exact AW.ret ⟨.inr I, [_, _], [], ⟨⟨0, _, _, _, _, _, _, _, I, I, I, I, I⟩, I, J⟩, sl_n, I, I⟩
theorem L.zrxf_ok (g : Network) (f : Desk) (i : Path) (r : Bool) (h : L.zrxf g f i = some r) : ACalls Tryz.env 105 [.agg (Network.row g), .agg (Desk.row f), .agg (Path.row i)] [] (fun x new => x = .v (.bool r) ∧ new = []) := by
 refine ACalls.of_body Tryz.func105 rfl rfl rfl (fun C hC => ?_)
 unfold L.zrxf at h
 refine AW.seqG (fun y1 M => (AW.region (AO.act [] I (AX.box (cs := Network.row g) (m := 6) I I I dS (fun b2 => (AO.act [] I (AX.box (cs := Desk.row f) (m := 4) I I I dS (fun p => (AO.act [] I (AX.box (cs := Path.row i) (m := 4) I I I dS (fun N => (AO.q 1 I (AO.nil ?_)))))))))))))
 subst M
 refine AW.seqG (fun y5 O => (AW.region (AO.r 12 [.o 1 0, .l 2 (g.Segments.length : Int), .o 4 2, .o 7 0, .l 8 (g.Segments.length : Int), .o 10 2] I ⟨I, len_m, I, I, len_m, I, J⟩ (AO.act [] I (AX.buildSlice (sz := 1) (es := ([wr ((g.Segments.length : Int) + i.In), wr ((g.Segments.length : Int) + i.Out)] : List Int).map rI) I I I I I I I I I I I dS (fun P => (AO.q 1 I (AO.nil ?_))))))))
 subst O
 refine AW.cutX (fun s ob => ∃ (j : List Int) (k : Value), L.zrxf.J1 f j = some r ∧ s = [(7, .v k)] ∧ ob = [.arr p 39 4 1 [Desk.row f], .us k 3 1 (j.map rI)]) [(4, _)] ⟨I, J⟩ ?_ ?_
 refine AW.z I (AW.block ?_)
 obtain ⟨am, Q, R⟩ := ob_some h
 clear h
 refine AW.loopX Q [(4, _), (5, _)] ⟨I, I, J⟩ (fun (t : (List Int) × Int) s ob => ∃ (u : Value), s = [(7, .v u), (8, .V t.2)] ∧ ob = [.arr p 39 4 1 [Desk.row f], .arr N 52 4 1 [Path.row i], .us u 3 1 (t.1.map rI)]) ⟨P, I, I⟩ ⟨I, I, J⟩ ⟨[1, 2, 3], I, by decide⟩ ?_
 rintro t an s ob ⟨u, rfl, rfl⟩ h S
 unfold L.zrxf.B5 at h
 refine AW.seqG (fun ao U => (AW.zr [.o 2 1, .l 3 (i.Hops.length : Int)] I ⟨len_m, I, J⟩ (AW.ch h I ?_ ?_)))
 intro W h
 refine AW.skip ?_
 subst U
 refine AW.seq (AW.block ?_)
 obtain ⟨w, ⟨X, Y⟩, h⟩ := ob_ix h
 obtain ⟨aq, Z, h⟩ := ob_some h
 refine AW.region (AO.r 7 [.o 2 1, .x 4 w.1 (Hop.row w.2)] I ⟨⟨X, map_get Y⟩, I, J⟩ (AO.act [] I (AX.lt 1 (([w.2.Segment] : List Int).map rI) (AO.act [2] I (AX.ap 2 I Z (fun aa => (AO.q 1 I (AO.nil (AW.region (AO.q 3 I ?_))))))))))
 obtain rfl := oi h
 refine AO.nil ?_
 exact ⟨_, _, _, I, ⟨aa, I, I⟩, ⟨I, I, I, I, J⟩, [0, 1, 2], I, by decide⟩
 intro W h
 obtain rfl := S _ (oi h).symm
 replace h := R
 refine AW.exit ?_
 exact lg ⟨t.1, u, h, I, I⟩ [0, 2]
 rintro s ob ⟨j, k, h, rfl, rfl⟩
 unfold L.zrxf.J1 at h
 refine AW.cutX (fun s ob => ∃ (G : Unit), L.zrxf.J2 G = some r ∧ s = [] ∧ ob = []) [] J ?_ ?_
 refine AW.z I (AW.block ?_)
 obtain ⟨ar, ab, H⟩ := ob_some h
 clear h
 refine AW.loopX ab [(4, _), (7, _)] ⟨I, I, J⟩ (fun (A : Int) s ob => s = [(9, .V A)] ∧ ob = [.arr p 39 4 1 [Desk.row f], .us k 3 1 (j.map rI)]) ⟨I, I⟩ ⟨I, J⟩ ⟨[0, 1], I, by decide⟩ ?_
 rintro A ac s ob ⟨rfl, rfl⟩ h K
 unfold L.zrxf.B3 at h
 refine AW.seqG (fun au ad => (AW.seq (AW.region (AO.q 2 I (AO.d (Yd.lenUM 1 I I I I) I (AO.q 1 I (AO.nil (AW.ch h I ?_ ?_))))))))
 intro ae h
 refine AW.skip ?_
 subst ad
 refine AW.seq (AW.block (AW.cutX (fun s ob => ∃ (B : Bool), L.zrxf.J4 A B = some ac ∧ s = [(66, .v (.bool B))] ∧ ob = [.arr p 39 4 1 [Desk.row f], .us k 3 1 (j.map rI)]) [(4, _), (7, _), (9, _)] ⟨I, I, I, J⟩ ?_ ?_))
 obtain ⟨a, ⟨D, e⟩, h⟩ := ob_ix h
 obtain ⟨b, ⟨E, F⟩, h⟩ := ob_ix h
 rcases bt ((!(L.zwdc b.2))) with n | n
 replace h := ife_t n h
 refine AW.form 1 a.1 I e (fun af => (AW.rd (pd 22 0 [8]) [0, 1] [_, _] I (AP.r 4 [.o 1 0] I ⟨I, J⟩ (AP.op I (Yp.indexUf (m := a.1) I I I I I af I D e) I (AP.o I (Yd.loadU 1 a.1 0 I I I (map_get e) I (y := .V a.2) I) I (AP.r 2 [.x 0 b.1 (Valve.row b.2)] I ⟨⟨E, map_get F⟩, J⟩ (AP.c I (L.zwdc_ok b.2 _ I) (AP.q 2 I (AP.known 55 I n (AP.q 11 I (AP.ofAO (AO.nil ?_))))))))))))
 exact lg ⟨true, h, I, I⟩ [0, 1]
 replace h := ife_f n h
 refine AW.form 1 a.1 I e (fun ag => (AW.form 1 a.1 I e (fun ah => (AW.rd (pd 22 0 [8]) [0, 1] [_, _] I (AP.r 4 [.o 1 0] I ⟨I, J⟩ (AP.op I (Yp.indexUf (m := a.1) I I I I I ag I D e) I (AP.o I (Yd.loadU 1 a.1 0 I I I (map_get e) I (y := .V a.2) I) I (AP.r 2 [.x 0 b.1 (Valve.row b.2)] I ⟨⟨E, map_get F⟩, J⟩ (AP.c I (L.zwdc_ok b.2 _ I) (AP.q 2 I (AP.known 55 I n (AP.r 4 [.o 1 0] I ⟨I, J⟩ (AP.oldG I I I I ((Yp.indexUf (m := a.1) I I I I I ah I D e).yd) dS (AP.oldG I I I I (Yd.loadU 1 a.1 0 I I I (map_get e) I (y := .V a.2) I) dS ?_))))))))))))))
 refine AP.r 5 [.x 0 b.1 (Valve.row b.2)] I ⟨⟨E, map_get F⟩, J⟩ (AP.ofAO (AO.nil ?_))
 exact lg ⟨(!b.2.Want), h, I, I⟩ [0, 1]
 rintro s ob ⟨B, h, rfl, rfl⟩
 unfold L.zrxf.J4 at h
 refine AW.ch h I ?_ ?_
 intro ai h
 refine AW.z I ?_
 obtain rfl := K _ (oi h).symm
 replace h := H
 replace h := se_l h
 refine AW.ghost g0 ?_
 obtain rfl := oi h
 exact AW.ret pr
 intro ai h
 refine AW.skip (AW.region (AO.q 3 I ?_))
 obtain rfl := oi h
 refine AO.nil ?_
 exact ⟨_, _, _, I, ⟨I, I⟩, ⟨I, I, I, J⟩, [0, 1], I, by decide⟩
 intro ae h
 obtain rfl := K _ (oi h).symm
 replace h := H
 replace h := se_r h
 refine AW.exit ?_
 exact lg ⟨(), h, I, I⟩ []
 rintro s ob ⟨G, h, rfl, rfl⟩
 unfold L.zrxf.J2 at h
 refine AW.z I ?_
 obtain rfl := oi h
 exact AW.ret pr
theorem L.zkvy_ok (w : Network) (g : Desk) (a : Step) (r : Desk × Int) (h : L.zkvy w g a = some r) : ACalls Tryz.env 64 [.agg (Network.row w), .agg (Desk.row g), .agg (Step.row a)] [] (fun x new => x = .tup [.agg (Desk.row r.1), .V r.2] ∧ new = []) := by
 refine ACalls.of_body Tryz.func64 rfl rfl rfl (fun C hC => ?_)
 unfold L.zkvy at h
 refine AW.seqG (fun y1 aq => (AW.region (AO.act [] I (AX.box (cs := Network.row w) (m := 6) I I I dS (fun O => (AO.act [] I (AX.box (cs := Desk.row g) (m := 4) I I I dS (fun P => (AO.act [] I (AX.box (cs := Step.row a) (m := 7) I I I dS (fun b4 => (AO.act [] I (AX.alloc (cs := [.N, .N, .N, .N]) (m := 4) I I I I I dS (fun Q => (AO.q 1 I (AO.nil ?_))))))))))))))))
 subst aq
 refine AW.seqG (fun y6 ar => (AW.jb 22 (decide (a.Value < (-1000)) || decide (a.Value > 1000)) ?_ ?_))
 refine AW.region (AO.r 4 [.o 1 2] I ⟨I, J⟩ ?_)
 rcases bt (decide (a.Value < (-1000))) with R | R
 refine AO.known 18 I R (AO.q 4 I (AO.nil ?_))
 exact jf (by simp only [R, bz]) I I ⟨I, I⟩
 refine AO.known 18 I R (AO.r 4 [.o 1 2] I ⟨I, J⟩ (AO.nil ?_))
 exact jf (by simp only [R, bz]) I I ⟨I, I⟩
 refine AW.ch h I ?_ ?_
 intro au h
 refine AW.seq (AW.region (AO.r 1 [.o 0 1] I ⟨I, J⟩ (AO.act [3] I (AX.st 3 0 0 [Desk.row g] I (AO.q 1 I (AO.nil (AW.gp [3] I ?_)))))))
 obtain rfl := oi h
 exact AW.ret ⟨.inr I, [_, _], [], ⟨⟨0, _, _, _, _, _, _, _, I, I, I, I, I⟩, I, J⟩, sl_n, I, I⟩
 intro au h
 refine AW.skip ?_
 subst ar
 refine AW.seqG (fun ca av => ?_)
 obtain ⟨i, aw, h⟩ := ob_some h
 refine AW.region (AO.q 1 I (AO.d (Yd.loadO 2 0 3 I I I I I (y := .agg (Path.row a.Path)) I) I (AO.act [] I (AX.call0 I I I (L.zkfu_ok _ _ aw) dS ?_))))
 rintro _ _ ⟨rfl, rfl⟩
 refine AO.act [] I (AX.alloc (cs := [.V 0, .V 0, .N, .V 0]) (m := 4) I I I I I dS (fun ad => (AO.act [4] I (AX.st 4 0 0 [Path.row i] I (AO.nil ?_)))))
 subst av
 refine AW.seqG (fun cb ax => (AW.region (AO.r 7 [.o 1 2, .o 3 2] I ⟨I, I, J⟩ (AO.act [4] I (AX.st 4 0 3 [[.V i.In, .V i.Out, .list 2 (i.Hops.map Hop.row), .V (max a.Value (wr (0 - a.Value)))]] I (AO.nil ?_))))))
 subst ax
 refine AW.seqG (fun cc ay => (AW.seq ?_))
 obtain ⟨cd, az, h⟩ := ob_some h
 refine AW.region (AO.r 2 [.o 0 0, .o 1 4] I ⟨I, I, J⟩ (AO.c (L.zouh_ok _ _ _ az) (AO.q 1 I (AO.nil (AW.ch h I ?_ ?_)))))
 intro a0 h
 refine AW.seq (AW.region (AO.r 1 [.o 0 1] I ⟨I, J⟩ (AO.act [3] I (AX.st 3 0 0 [Desk.row g] I (AO.q 1 I (AO.nil (AW.gp [3] I ?_)))))))
 obtain rfl := oi h
 exact AW.ret ⟨.inr I, [_, _], [], ⟨⟨0, _, _, _, _, _, _, _, I, I, I, I, I⟩, I, J⟩, sl_n, I, I⟩
 intro a0 h
 refine AW.skip ?_
 subst ay
 refine AW.seqG (fun ce a1 => ?_)
 obtain ⟨f, a2, h⟩ := ob_some h
 refine AW.region (AO.r 1 [.o 0 1] I ⟨I, J⟩ (AO.act [] I (AX.callN I (.refl _) I I (.rest _) I (L.zryh_own _ _ a2) dS (by rintro _ _ ⟨_, _, _, _, rfl, rfl⟩; exact ⟨rfl, by intro p hp; simp only [List.mem_cons, List.not_mem_nil, or_false] at hp; rcases hp with rfl | rfl | rfl | rfl <;> exact flat_map fun _ => rfl⟩) ?_)))
 rintro _ _ ⟨u, j, k, n, rfl, rfl⟩
 refine AO.act [] I (AX.alloc (cs := [.N, .N, .N, .N]) (m := 4) I I I I I dS (fun S => (AO.act [9] I (AX.st 9 0 0 [[.v u, .v j, .v k, .v n]] I (AO.nil ?_)))))
 subst a1
 refine AW.seqG (fun cf a3 => (AW.seq ?_))
 obtain ⟨cg, a4, h⟩ := ob_some h
 refine AW.region (AO.r 3 [.o 0 0, .o 1 9, .o 2 4] I ⟨I, I, I, J⟩ (AO.act [] I (AX.callL I (.refl _) I I (.cons (.refl _) (.cons (.agg (.cons (.us 5 I) (.cons (.us 6 I) (.cons (.us 7 I) (.cons (.us 8 I) (.rest _)))))) (.rest _))) I (L.zrxf_ok _ _ _ _ a4) dS (by rintro _ _ ⟨rfl, _⟩; rfl) ?_)))
 rintro _ ⟨_, rfl, -⟩
 refine AO.q 1 I (AO.nil (AW.ch h I ?_ ?_))
 intro a5 h
 refine AW.seq (AW.region (AO.r 1 [.o 0 1] I ⟨I, J⟩ (AO.act [3] I (AX.st 3 0 0 [Desk.row g] I (AO.q 1 I (AO.nil (AW.gp [3] I ?_)))))))
 obtain rfl := oi h
 exact AW.ret ⟨.inr I, [_, _], [], ⟨⟨0, _, _, _, _, _, _, _, I, I, I, I, I⟩, I, J⟩, sl_n, I, I⟩
 intro a5 h
 refine AW.skip ?_
 subst a3
 refine AW.seqG (fun ci a6 => ?_)
 obtain ⟨b, ⟨ah, D⟩, h⟩ := ob_ix h
 refine AW.form 7 b.1 I D (fun a7 => (AW.form 7 b.1 I D (fun a8 => (AW.rd (.still 0 (.still 1 (.still 2 (.still 3 (.still 4 (.still 5 (.still 6 (.still 7 (.still 8 (.still 9 (.still 10 (.still 11 (.still 12 (.still 13 (.still 14 (.still 15 (.drop 16 .nil))))))))))))))))) [9, 4, 7, 2] [_, _, _, _] I (AP.r 10 [.o 2 0, .o 4 1, .o 7 0, .o 9 1] I ⟨I, I, I, I, J⟩ (AP.op I (Yp.indexUf (m := b.1) I I I I I a7 I ah D) I (AP.o I (Yd.loadU 2 b.1 0 I I I (map_get D) I (y := .V b.2) I) I (AP.r 3 [.o 1 3] I ⟨I, J⟩ (AP.op I (Yp.indexUf (m := b.1) I I I I I a8 I ah D) I (AP.drop [7] I I I (AX.storeU 7 b.1 0 I I I (map_get D) I I I I (le_ble I) I (us_set (x := wr (b.2 + a.Value)) I) (AP.ofAO (AO.nil ?_)))))))))))))
 subst a6
 refine AW.seqG (fun cj a9 => ?_)
 obtain ⟨e, ⟨ai, E⟩, h⟩ := ob_ix h
 refine AW.form 7 e.1 I E (fun ba => (AW.form 7 e.1 I E (fun bb => (AW.rd (.still 0 (.still 1 (.still 2 (.still 3 (.still 4 (.still 5 (.still 6 (.still 7 (.still 8 (.still 9 (.still 10 (.still 11 (.still 12 (.still 13 (.still 14 (.still 15 (.drop 16 .nil))))))))))))))))) [9, 4, 7, 2] [_, _, _, _] I (AP.r 10 [.o 2 0, .o 4 1, .o 7 0, .o 9 1] I ⟨I, I, I, I, J⟩ (AP.op I (Yp.indexUf (m := e.1) I I I I I ba I ai E) I (AP.o I (Yd.loadU 2 e.1 0 I I I (map_get E) I (y := .V e.2) I) I (AP.r 3 [.o 1 3] I ⟨I, J⟩ (AP.op I (Yp.indexUf (m := e.1) I I I I I bb I ai E) I (AP.drop [7] I I I (AX.storeU 7 e.1 0 I I I (map_get E) I I I I (le_ble I) I (us_set (x := wr (e.2 - a.Value)) I) (AP.ofAO (AO.nil ?_)))))))))))))
 subst a9
 refine AW.seqG (fun ck bc => (AW.cutX (fun s ob => ∃ (ae : Bool), L.zkvy.J1 w g a i f b e ae = some r ∧ s = [(116, .v (.bool ae))] ∧ ob = [.arr O 32 6 1 [Network.row w], .arr P 39 4 1 [Desk.row g], .arr b4 54 7 1 [Step.row a], .arr Q 39 4 1 [[.N, .N, .N, .N]], .arr ad 52 4 1 [[.V i.In, .V i.Out, .list 2 (i.Hops.map Hop.row), .V (max a.Value (wr (0 - a.Value)))]], .us u 74 4 (f.Valves.map Valve.row), .us j 3 1 (f.Plan.Rates.map rI), .us k 3 1 (((f.Plan.Ports.set b.1 (wr (b.2 + a.Value))).set e.1 (wr (e.2 - a.Value))).map rI), .us n 4 1 (f.Plan.Pumps.map rB), .arr S 39 4 1 [[.v u, .v j, .v k, .v n]]]) [(3, _), (4, _), (5, _), (6, _), (8, _), (9, _)] ⟨I, I, I, I, I, I, J⟩ ?_ ?_))
 obtain ⟨ab, ⟨bd, aj⟩, h⟩ := ob_ix h
 refine AW.region (AO.r 5 [.o 2 9, .o 4 4] I ⟨I, I, J⟩ (AO.d (Yd.indexU 7 (m := ab.1) I I I I I I I bd (map_get aj)) I (AO.d (Yd.loadU 7 ab.1 0 I I I (map_get aj) I (y := .V ab.2) I) I (AO.q 2 I ?_))))
 rcases bt (decide (ab.2 < 0)) with U | U
 replace h := ife_t U h
 refine AO.known 87 I U (AO.q 29 I (AO.nil ?_))
 exact lg ⟨true, h, I, I⟩ [0, 1, 2, 3, 4, 5, 6, 7, 8, 9]
 replace h := ife_f U h
 obtain ⟨A, ⟨af, F⟩, h⟩ := ob_ix h
 refine AO.known 87 I U ?_
 rcases bt (decide (A.2 > 0)) with G | G
 replace h := ife_t G h
 refine AO.r 5 [.o 2 9, .o 4 4] I ⟨I, I, J⟩ (AO.gt I I I (AO.d (Yd.indexU 7 (m := A.1) I I I I I I I af (map_get F)) I (AO.gt I I I (AO.d (Yd.loadU 7 A.1 0 I I I (map_get F) I (y := .V A.2) I) I (AO.q 3 I (AO.known 97 I G (AO.q 19 I (AO.nil ?_))))))))
 exact lg ⟨true, h, I, I⟩ [0, 1, 2, 3, 4, 5, 6, 7, 8, 9]
 replace h := ife_f G h
 obtain ⟨W, ⟨ak, al⟩, h⟩ := ob_ix h
 rcases bt (decide (W.2 < 0)) with X | X
 replace h := ife_t X h
 refine AO.r 5 [.o 2 9, .o 4 4] I ⟨I, I, J⟩ (AO.gt I I I (AO.d (Yd.indexU 7 (m := A.1) I I I I I I I af (map_get F)) I (AO.gt I I I (AO.d (Yd.loadU 7 A.1 0 I I I (map_get F) I (y := .V A.2) I) I (AO.q 3 I (AO.known 97 I G (AO.r 10 [.o 2 1, .o 4 4, .x 5 W.1 (rI W.2)] I ⟨⟨ak, map_get al⟩, I, I, J⟩ (AO.known 107 I X (AO.q 9 I (AO.nil ?_))))))))))
 exact lg ⟨true, h, I, I⟩ [0, 1, 2, 3, 4, 5, 6, 7, 8, 9]
 replace h := ife_f X h
 obtain ⟨ag, ⟨be, bf⟩, h⟩ := ob_ix h
 refine AO.r 5 [.o 2 9, .o 4 4] I ⟨I, I, J⟩ (AO.gt I I I (AO.d (Yd.indexU 7 (m := A.1) I I I I I I I af (map_get F)) I (AO.gt I I I (AO.d (Yd.loadU 7 A.1 0 I I I (map_get F) I (y := .V A.2) I) I (AO.q 3 I (AO.known 97 I G (AO.r 10 [.o 2 1, .o 4 4, .x 5 W.1 (rI W.2)] I ⟨⟨ak, map_get al⟩, I, I, J⟩ (AO.known 107 I X (AO.r 9 [.o 2 1, .o 4 4, .x 5 ag.1 (rI ag.2)] I ⟨⟨be, map_get bf⟩, I, I, J⟩ (AO.nil ?_))))))))))
 exact lg ⟨decide (ag.2 > 0), h, I, I⟩ [0, 1, 2, 3, 4, 5, 6, 7, 8, 9]
 rintro s ob ⟨ae, h, rfl, rfl⟩
 unfold L.zkvy.J1 at h
 refine AW.ch h I ?_ ?_
 intro bg h
 refine AW.seq (AW.region (AO.r 1 [.o 0 1] I ⟨I, J⟩ (AO.act [3] I (AX.st 3 0 0 [Desk.row g] I (AO.q 1 I (AO.nil (AW.gp [3] I ?_)))))))
 obtain rfl := oi h
 exact AW.ret ⟨.inr I, [_, _], [], ⟨⟨0, _, _, _, _, _, _, _, I, I, I, I, I⟩, I, J⟩, sl_n, I, I⟩
 intro bg h
 refine AW.skip ?_
 subst bc
 refine AW.cutX (fun s ob => ∃ (Y : List Int), L.zkvy.J2 w g a f b e Y = some r ∧ s = [] ∧ ob = [.arr O 32 6 1 [Network.row w], .arr P 39 4 1 [Desk.row g], .arr Q 39 4 1 [[.N, .N, .N, .N]], .us u 74 4 (f.Valves.map Valve.row), .us j 3 1 (Y.map rI), .us k 3 1 (((f.Plan.Ports.set b.1 (wr (b.2 + a.Value))).set e.1 (wr (e.2 - a.Value))).map rI), .us n 4 1 (f.Plan.Pumps.map rB), .arr S 39 4 1 [[.v u, .v j, .v k, .v n]]]) [(3, _), (4, _), (6, _), (9, _)] ⟨I, I, I, I, J⟩ ?_ ?_
 refine AW.z I (AW.block ?_)
 obtain ⟨cl, bh, am⟩ := ob_some h
 clear h
 refine AW.loopX bh [(3, _), (4, _), (5, _), (6, _), (8, _), (9, _)] ⟨I, I, I, I, I, I, J⟩ (fun (H : (List Int) × Int) s ob => s = [(10, .V H.2)] ∧ ob = [.arr O 32 6 1 [Network.row w], .arr P 39 4 1 [Desk.row g], .arr b4 54 7 1 [Step.row a], .arr Q 39 4 1 [[.N, .N, .N, .N]], .arr ad 52 4 1 [[.V i.In, .V i.Out, .list 2 (i.Hops.map Hop.row), .V (max a.Value (wr (0 - a.Value)))]], .us u 74 4 (f.Valves.map Valve.row), .us j 3 1 (H.1.map rI), .us k 3 1 (((f.Plan.Ports.set b.1 (wr (b.2 + a.Value))).set e.1 (wr (e.2 - a.Value))).map rI), .us n 4 1 (f.Plan.Pumps.map rB), .arr S 39 4 1 [[.v u, .v j, .v k, .v n]]]) ⟨I, I⟩ ⟨I, J⟩ ⟨[0, 1, 2, 3, 4, 5, 6, 7, 8, 9], I, by decide⟩ ?_
 rintro H bi s ob ⟨rfl, rfl⟩ h an
 unfold L.zkvy.B3 at h
 refine AW.seqG (fun cm bj => (AW.zr [.o 2 4, .l 3 (i.Hops.length : Int)] I ⟨len_m, I, J⟩ (AW.ch h I ?_ ?_)))
 intro bk h
 refine AW.skip ?_
 subst bj
 refine AW.seq (AW.block (AW.seqG (fun cn bl => ?_)))
 obtain ⟨Z, ⟨bm, bn⟩, h⟩ := ob_ix h
 refine AW.region (AO.r 5 [.o 1 4, .x 3 Z.1 (Hop.row Z.2)] I ⟨⟨bm, map_get bn⟩, I, J⟩ (AO.act [] I (AX.alloc (cs := [.V 0, .v (.bool false)]) (m := 2) I I I I I dS (fun bo => (AO.act [10] I (AX.st 10 0 0 [Hop.row Z.2] I (AO.nil ?_)))))))
 subst bl
 refine AW.z I (AW.cutX (fun s ob => ∃ (B : Int), L.zkvy.J4 g a H Z B = some bi ∧ s = [(12, .V B)] ∧ ob = [.arr O 32 6 1 [Network.row w], .arr P 39 4 1 [Desk.row g], .arr b4 54 7 1 [Step.row a], .arr Q 39 4 1 [[.N, .N, .N, .N]], .arr ad 52 4 1 [[.V i.In, .V i.Out, .list 2 (i.Hops.map Hop.row), .V (max a.Value (wr (0 - a.Value)))]], .us u 74 4 (f.Valves.map Valve.row), .us j 3 1 (H.1.map rI), .us k 3 1 (((f.Plan.Ports.set b.1 (wr (b.2 + a.Value))).set e.1 (wr (e.2 - a.Value))).map rI), .us n 4 1 (f.Plan.Pumps.map rB), .arr S 39 4 1 [[.v u, .v j, .v k, .v n]], .arr bo 107 2 1 [Hop.row Z.2]]) [(3, _), (4, _), (5, _), (6, _), (8, _), (9, _), (10, _), (11, _)] ⟨I, I, I, I, I, I, I, I, J⟩ ?_ ?_)
 refine AW.zr [.o 1 10] I ⟨I, J⟩ (AW.ch h I ?_ ?_)
 intro bp h
 refine AW.t I ?_
 exact lg ⟨(-1), h, I, I⟩ [0, 1, 2, 3, 4, 5, 6, 7, 8, 9, 10]
 intro bp h
 refine AW.skip ?_
 exact lg ⟨1, h, I, I⟩ [0, 1, 2, 3, 4, 5, 6, 7, 8, 9, 10]
 rintro s ob ⟨B, h, rfl, rfl⟩
 unfold L.zkvy.J4 at h
 refine AW.seqG (fun co bq => ?_)
 obtain ⟨M, ⟨br, bs⟩, h⟩ := ob_ix h
 refine AW.tr [.o 3 1, .o 5 10, .x 6 M.1 (rI M.2)] I ⟨⟨br, map_get bs⟩, I, I, J⟩ ?_
 subst bq
 refine AW.seqG (fun cp bu => (AW.jb 149 (decide ((wr (B * M.2)) < 0) || decide ((wr ((wr (B * M.2)) + a.Value)) < 0)) ?_ ?_))
 refine AW.region (AO.q 3 I ?_)
 rcases bt (decide ((wr (B * M.2)) < 0)) with aa | aa
 refine AO.known 143 I aa (AO.q 6 I (AO.nil ?_))
 exact jf (by simp only [aa, bz]) I I ⟨I, I⟩
 refine AO.known 143 I aa (AO.r 6 [.o 2 2] I ⟨I, J⟩ (AO.nil ?_))
 exact jf (by simp only [aa, bz]) I I ⟨I, I⟩
 refine AW.ch h I ?_ ?_
 intro bv h
 refine AW.seq (AW.region (AO.r 1 [.o 0 1] I ⟨I, J⟩ (AO.act [3] I (AX.st 3 0 0 [Desk.row g] I (AO.q 1 I (AO.nil ?_))))))
 obtain rfl := an _ (oi h).symm
 replace h := am
 replace h := se_l h
 refine AW.gp [3] I ?_
 obtain rfl := oi h
 exact AW.ret ⟨.inr I, [_, _], [], ⟨⟨0, _, _, _, _, _, _, _, I, I, I, I, I⟩, I, J⟩, sl_n, I, I⟩
 intro bv h
 refine AW.skip ?_
 subst bu
 obtain ⟨ao, ⟨bw, ap⟩, h⟩ := ob_ix h
 refine AW.region (AO.r 11 [.o 2 9, .o 4 10, .o 8 2] I ⟨I, I, I, J⟩ (AO.d (Yd.indexU 6 (m := ao.1) I I I I I I I bw (map_get ap)) I (AO.act [6] I (AX.storeU 6 ao.1 0 I I I (map_get ap) I I I I (le_ble I) I (us_set (x := wr (B * (wr ((wr (B * M.2)) + a.Value)))) I) (AO.nil (AW.region (AO.q 3 I ?_)))))))
 obtain rfl := oi h
 refine AO.nil ?_
 exact ⟨_, _, _, I, ⟨I, I⟩, ⟨I, I, I, I, I, I, I, J⟩, [0, 1, 2, 3, 4, 5, 6, 7, 8, 9], I, by decide⟩
 intro bk h
 obtain rfl := an _ (oi h).symm
 replace h := am
 replace h := se_r h
 refine AW.exit ?_
 exact lg ⟨H.1, h, I, I⟩ [0, 1, 3, 5, 6, 7, 8, 9]
 rintro s ob ⟨Y, h, rfl, rfl⟩
 unfold L.zkvy.J2 at h
 refine AW.seqG (fun cq bx => (AW.seq ?_))
 obtain ⟨cr, b0, h⟩ := ob_some h
 refine AW.region (AO.r 2 [.o 0 0] I ⟨I, J⟩ (AO.d (Yd.loadO 7 0 1 I I I I I (y := .agg [.v j, .v k, .v n]) I) I (AO.act [] I (AX.callL I (.refl _) I I (.cons (.refl _) (.cons (.agg (.cons (.us 4 I) (.cons (.us 5 I) (.cons (.us 6 I) (.rest _))))) (.rest _))) I (L.zvqa_ok _ _ _ b0) dS (by rintro _ _ ⟨rfl, _⟩; rfl) ?_))))
 rintro _ ⟨_, rfl, -⟩
 refine AO.q 1 I (AO.nil (AW.z I (AW.ch h I ?_ ?_)))
 intro b1 h
 refine AW.seq (AW.region (AO.r 2 [.o 0 1] I ⟨I, J⟩ (AO.act [2] I (AX.st 2 0 0 [Desk.row g] I (AO.q 1 I (AO.nil (AW.gp [2] I ?_)))))))
 obtain rfl := oi h
 exact AW.ret ⟨.inr I, [_, _], [], ⟨⟨0, _, _, _, _, _, _, _, I, I, I, I, I⟩, I, J⟩, sl_n, I, I⟩
 intro b1 h
 refine AW.skip ?_
 subst bx
 refine AW.seq (AW.seq ?_)
 obtain ⟨ct, b6, h⟩ := ob_some h
 refine AW.region (AO.r 2 [.o 0 0] I ⟨I, J⟩ (AO.d (Yd.loadO 7 0 1 I I I I I (y := .agg [.v j, .v k, .v n]) I) I (AO.act [] I (AX.callL I (.refl _) I I (.cons (.refl _) (.cons (.agg (.cons (.us 4 I) (.cons (.us 5 I) (.cons (.us 6 I) (.rest _))))) (.rest _))) I (L.zkss_ok _ _ _ b6) dS (by rintro _ _ ⟨rfl, _⟩; rfl) ?_))))
 rintro _ ⟨_, rfl, -⟩
 refine AO.q 1 I (AO.nil (AW.ch h I ?_ ?_))
 intro b7 h
 refine AW.seq (AW.region (AO.r 1 [.o 0 1] I ⟨I, J⟩ (AO.act [2] I (AX.st 2 0 0 [Desk.row g] I (AO.q 1 I (AO.nil (AW.gp [2] I ?_)))))))
 obtain rfl := oi h
 exact AW.ret ⟨.inr I, [_, _], [], ⟨⟨0, _, _, _, _, _, _, _, I, I, I, I, I⟩, I, J⟩, sl_n, I, I⟩
 intro b7 h
 refine AW.skip (AW.seq (AW.region (AO.r 1 [.o 0 7] I ⟨I, J⟩ (AO.act [2] I (AX.st 2 0 0 [[.v u, .v j, .v k, .v n]] I (AO.q 1 I (AO.nil (AW.ghost (Ghost.freeze [3, 4, 5, 6] (K := [.us u 74 4 (f.Valves.map Valve.row), .us j 3 1 (Y.map rI), .us k 3 1 (((f.Plan.Ports.set b.1 (wr (b.2 + a.Value))).set e.1 (wr (e.2 - a.Value))).map rI), .us n 4 1 (f.Plan.Pumps.map rB)]) I [] J (ob' := [.arr O 32 6 1 [Network.row w], .arr P 39 4 1 [Desk.row g], .arr Q 39 4 1 [[.list 4 (f.Valves.map Valve.row), .list 1 (Y.map rI), .list 1 (((f.Plan.Ports.set b.1 (wr (b.2 + a.Value))).set e.1 (wr (e.2 - a.Value))).map rI), .list 1 (f.Plan.Pumps.map rB)]], .arr S 39 4 1 [[.v u, .v j, .v k, .v n]]]) (.cons (.same _) (.cons (.same _) (.cons (.arr (.cons (.us 0 I) (.cons (.us 1 I) (.cons (.us 2 I) (.cons (.us 3 I) (.rest _)))))) (.rest _))))) (AW.gp [2] I ?_)))))))))
 obtain rfl := oi h
 exact AW.ret ⟨.inr I, [_, _], [], ⟨⟨0, _, _, _, _, _, _, _, I, I, I, I, I⟩, I, J⟩, sl_n, I, I⟩
theorem L.zvix_ok (k : Network) (e : Desk) (a : Step) (r : Desk × Int) (h : L.zvix k e a = some r) : ACalls Tryz.env 18 [.agg (Network.row k), .agg (Desk.row e), .agg (Step.row a)] [] (fun x new => x = .tup [.agg (Desk.row r.1), .V r.2] ∧ new = []) := by
 refine ACalls.of_body Tryz.func18 rfl rfl rfl (fun C hC => ?_)
 unfold L.zvix at h
 refine AW.seqG (fun y1 P => (AW.region (AO.act [] I (AX.box (cs := Network.row k) (m := 6) I I I dS (fun H => (AO.act [] I (AX.box (cs := Desk.row e) (m := 4) I I I dS (fun M => (AO.act [] I (AX.box (cs := Step.row a) (m := 7) I I I dS (fun D => (AO.act [] I (AX.alloc (cs := [.N, .N, .N, .N]) (m := 4) I I I I I dS (fun u => (AO.q 1 I (AO.nil ?_))))))))))))))))
 subst P
 refine AW.seqG (fun y6 Q => (AW.seq ?_))
 obtain ⟨r7, R, h⟩ := ob_some h
 refine AW.region (AO.r 2 [.o 0 0, .o 1 1] I ⟨I, I, J⟩ (AO.c (L.zupr_ok _ _ _ R) (AO.q 1 I (AO.nil (AW.z I (AW.ch h I ?_ ?_))))))
 intro S h
 refine AW.seq (AW.region (AO.r 2 [.o 0 1] I ⟨I, J⟩ (AO.act [3] I (AX.st 3 0 0 [Desk.row e] I (AO.q 1 I (AO.nil (AW.gp [3] I ?_)))))))
 obtain rfl := oi h
 exact AW.ret ⟨.inr I, [_, _], [], ⟨⟨0, _, _, _, _, _, _, _, I, I, I, I, I⟩, I, J⟩, sl_n, I, I⟩
 intro S h
 refine AW.skip ?_
 subst Q
 refine AW.seqG (fun a1 U => (AW.seq (AW.region (AO.r 1 [.o 0 2] I ⟨I, J⟩ (AO.c (L.zrblx_ok a _ I) (AO.q 1 I (AO.nil (AW.ch h I ?_ ?_))))))))
 intro W h
 refine AW.seq (AW.region (AO.r 1 [.o 0 1] I ⟨I, J⟩ (AO.act [3] I (AX.st 3 0 0 [Desk.row e] I (AO.q 1 I (AO.nil (AW.gp [3] I ?_)))))))
 obtain rfl := oi h
 exact AW.ret ⟨.inr I, [_, _], [], ⟨⟨0, _, _, _, _, _, _, _, I, I, I, I, I⟩, I, J⟩, sl_n, I, I⟩
 intro W h
 refine AW.skip ?_
 subst U
 refine AW.seqG (fun a2 X => (AW.zr [.o 1 2] I ⟨I, J⟩ (AW.block (AW.cutX (fun s ob => ∃ (E : Bool), L.zvix.J1 k e a E = some r ∧ s = [(24, .v (.bool E))] ∧ ob = [.arr H 32 6 1 [Network.row k], .arr M 39 4 1 [Desk.row e], .arr D 54 7 1 [Step.row a], .arr u 39 4 1 [[.N, .N, .N, .N]]]) [(3, _), (4, _), (5, _), (6, _), (23, _)] ⟨I, I, I, I, I, J⟩ ?_ ?_))))
 refine AW.z I (AW.ch h I ?_ ?_)
 intro Y h
 refine AW.skip ?_
 exact lg ⟨(a.Kind == 1), h, I, I⟩ [0, 1, 2, 3]
 intro Y h
 refine AW.t I ?_
 exact lg ⟨(a.Kind == 2), h, I, I⟩ [0, 1, 2, 3]
 rintro s ob ⟨E, h, rfl, rfl⟩
 unfold L.zvix.J1 at h
 refine AW.ch h I ?_ ?_
 intro Z h
 refine AW.seq ?_
 obtain ⟨aa, ab, h⟩ := ob_some h
 refine AW.region (AO.r 2 [.o 0 1, .o 1 2] I ⟨I, I, J⟩ (AO.act [] I (AX.call0 I I I (L.zdmi_ok _ _ _ ab) dS ?_)))
 rintro _ _ ⟨rfl, rfl⟩
 refine AO.q 2 I (AO.act [3] I (AX.st 3 0 0 [Desk.row aa.1] I (AO.q 1 I (AO.nil (AW.gp [3] I ?_)))))
 obtain rfl := oi h
 exact AW.ret ⟨.inr I, [_, _], [], ⟨⟨0, _, _, _, _, _, _, _, I, I, I, I, I⟩, I, J⟩, sl_n, I, I⟩
 intro Z h
 refine AW.cutX (fun s ob => ∃ (F : Bool), L.zvix.J2 k e a F = some r ∧ s = [(32, .v (.bool F))] ∧ ob = [.arr H 32 6 1 [Network.row k], .arr M 39 4 1 [Desk.row e], .arr D 54 7 1 [Step.row a], .arr u 39 4 1 [[.N, .N, .N, .N]]]) [(3, _), (4, _), (5, _), (6, _), (23, _)] ⟨I, I, I, I, I, J⟩ ?_ ?_
 refine AW.z I (AW.ch h I ?_ ?_)
 intro ac h
 refine AW.skip ?_
 exact lg ⟨(a.Kind == 3), h, I, I⟩ [0, 1, 2, 3]
 intro ac h
 refine AW.t I ?_
 exact lg ⟨(a.Kind == 4), h, I, I⟩ [0, 1, 2, 3]
 rintro s ob ⟨F, h, rfl, rfl⟩
 unfold L.zvix.J2 at h
 refine AW.ch h I ?_ ?_
 intro ad h
 refine AW.seq ?_
 obtain ⟨ae, af, h⟩ := ob_some h
 refine AW.region (AO.r 3 [.o 0 0, .o 1 1, .o 2 2] I ⟨I, I, I, J⟩ (AO.act [] I (AX.call0 I I I (L.zhuq_ok _ _ _ _ af) dS ?_)))
 rintro _ _ ⟨rfl, rfl⟩
 refine AO.q 2 I (AO.act [3] I (AX.st 3 0 0 [Desk.row ae.1] I (AO.q 1 I (AO.nil (AW.gp [3] I ?_)))))
 obtain rfl := oi h
 exact AW.ret ⟨.inr I, [_, _], [], ⟨⟨0, _, _, _, _, _, _, _, I, I, I, I, I⟩, I, J⟩, sl_n, I, I⟩
 intro ad h
 refine AW.z I (AW.ch h I ?_ ?_)
 intro ag h
 refine AW.seq ?_
 obtain ⟨ah, ai, h⟩ := ob_some h
 refine AW.region (AO.r 3 [.o 0 0, .o 1 1, .o 2 2] I ⟨I, I, I, J⟩ (AO.act [] I (AX.call0 I I I (L.zkvy_ok _ _ _ _ ai) dS ?_)))
 rintro _ _ ⟨rfl, rfl⟩
 refine AO.q 2 I (AO.act [3] I (AX.st 3 0 0 [Desk.row ah.1] I (AO.q 1 I (AO.nil (AW.gp [3] I ?_)))))
 obtain rfl := oi h
 exact AW.ret ⟨.inr I, [_, _], [], ⟨⟨0, _, _, _, _, _, _, _, I, I, I, I, I⟩, I, J⟩, sl_n, I, I⟩
 intro ag h
 refine AW.skip ?_
 subst X
 refine AW.seqG (fun a3 aj => (AW.jb 56 (decide (a.Value < 1) || decide (a.Value > 100)) ?_ ?_))
 refine AW.region (AO.r 4 [.o 1 2] I ⟨I, J⟩ ?_)
 rcases bt (decide (a.Value < 1)) with w | w
 refine AO.known 52 I w (AO.q 4 I (AO.nil ?_))
 exact jf (by simp only [w, bz]) I I ⟨I, I⟩
 refine AO.known 52 I w (AO.r 4 [.o 1 2] I ⟨I, J⟩ (AO.nil ?_))
 exact jf (by simp only [w, bz]) I I ⟨I, I⟩
 refine AW.ch h I ?_ ?_
 intro ak h
 refine AW.seq (AW.region (AO.r 1 [.o 0 1] I ⟨I, J⟩ (AO.act [3] I (AX.st 3 0 0 [Desk.row e] I (AO.q 1 I (AO.nil (AW.gp [3] I ?_)))))))
 obtain rfl := oi h
 exact AW.ret ⟨.inr I, [_, _], [], ⟨⟨0, _, _, _, _, _, _, _, I, I, I, I, I⟩, I, J⟩, sl_n, I, I⟩
 intro ak h
 refine AW.skip ?_
 subst aj
 refine AW.seqG (fun a4 al => ?_)
 obtain ⟨b, am, h⟩ := ob_some h
 refine AW.region (AO.r 1 [.o 0 1] I ⟨I, J⟩ (AO.act [] I (AX.callN I (.refl _) I I (.rest _) I (L.zryh_own _ _ am) dS (by rintro _ _ ⟨_, _, _, _, rfl, rfl⟩; exact ⟨rfl, by intro p hp; simp only [List.mem_cons, List.not_mem_nil, or_false] at hp; rcases hp with rfl | rfl | rfl | rfl <;> exact flat_map fun _ => rfl⟩) ?_)))
 rintro _ _ ⟨f, g, i, j, rfl, rfl⟩
 refine AO.act [] I (AX.alloc (cs := [.N, .N, .N, .N]) (m := 4) I I I I I dS (fun G => (AO.act [8] I (AX.st 8 0 0 [[.v f, .v g, .v i, .v j]] I (AO.nil ?_)))))
 subst al
 refine AW.cutX (fun s ob => ∃ (A : List Valve), L.zvix.J3 b A = some r ∧ s = [] ∧ ob = [.arr u 39 4 1 [[.N, .N, .N, .N]], .us f 74 4 (A.map Valve.row), .us g 3 1 (b.Plan.Rates.map rI), .us i 3 1 (b.Plan.Ports.map rI), .us j 4 1 (b.Plan.Pumps.map rB), .arr G 39 4 1 [[.v f, .v g, .v i, .v j]]]) [(6, _), (9, _)] ⟨I, I, J⟩ ?_ ?_
 refine AW.z I (AW.block ?_)
 obtain ⟨a5, an, ao⟩ := ob_some h
 clear h
 refine AW.loopX an [(5, _), (6, _), (9, _)] ⟨I, I, I, J⟩ (fun (B : (List Valve) × Int) s ob => s = [(10, .V B.2)] ∧ ob = [.arr D 54 7 1 [Step.row a], .arr u 39 4 1 [[.N, .N, .N, .N]], .us f 74 4 (B.1.map Valve.row), .us g 3 1 (b.Plan.Rates.map rI), .us i 3 1 (b.Plan.Ports.map rI), .us j 4 1 (b.Plan.Pumps.map rB), .arr G 39 4 1 [[.v f, .v g, .v i, .v j]]]) ⟨I, I⟩ ⟨I, J⟩ ⟨[2, 3, 4, 5, 6, 7, 8], I, by decide⟩ ?_
 rintro B a6 s ob ⟨rfl, rfl⟩ h ap
 unfold L.zvix.B4 at h
 refine AW.seqG (fun a7 aq => (AW.seq (AW.region (AO.r 3 [.o 2 6] I ⟨I, J⟩ (AO.d (Yd.lenUM 2 I I I I) I (AO.q 1 I (AO.nil (AW.ch h I ?_ ?_))))))))
 intro ar h
 refine AW.skip ?_
 subst aq
 refine AW.seq (AW.block ?_)
 obtain ⟨l, ⟨O, n⟩, h⟩ := ob_ix h
 obtain ⟨au, av, h⟩ := ob_some h
 refine AW.form 2 l.1 I n (fun aw => (AW.form 2 l.1 I n (fun ax => (AW.rd (.still 0 (.still 1 (.still 2 (.still 3 (.still 4 (.still 5 (.still 6 (.still 8 (.still 9 (.act 7 (.act 10 (.still 11 (.still 12 (.still 13 (.still 14 (.act 15 .nil)))))))))))))))) [6, 0] [_, _] I (AP.r 6 [.o 1 0, .o 4 0] I ⟨I, I, J⟩ (AP.op I (Yp.indexUf (m := l.1) I I I I I aw I O n) I (AP.r 2 [.o 1 1] I ⟨I, J⟩ (AP.act [] I I I (AX.of_yd (Yd.loadU 2 l.1 0 I I I (map_get n) I (y := .agg (Valve.row l.2)) I) dS (AP.c I (L.zbvl_ok _ _ _ av) (AP.q 3 I (AP.op I (Yp.indexUf (m := l.1) I I I I I ax I O n) I (AP.act [2] I I I (AX.storeU 2 l.1 0 I I I (map_get n) I I I I (le_ble I) I (us_set (x := au.1) I) (AP.ofAO (AO.nil ?_))))))))))))))))
 refine AW.region (AO.q 3 I ?_)
 obtain rfl := oi h
 refine AO.nil ?_
 exact ⟨_, _, _, I, ⟨I, I⟩, ⟨I, I, I, I, J⟩, [0, 1, 2, 3, 4, 5, 6], I, by decide⟩
 intro ar h
 obtain rfl := ap _ (oi h).symm
 replace h := ao
 refine AW.exit ?_
 exact lg ⟨B.1, h, I, I⟩ [1, 2, 3, 4, 5, 6]
 rintro s ob ⟨A, h, rfl, rfl⟩
 unfold L.zvix.J3 at h
 refine AW.seq (AW.region (AO.r 1 [.o 0 5] I ⟨I, J⟩ (AO.act [0] I (AX.st 0 0 0 [[.v f, .v g, .v i, .v j]] I (AO.q 1 I (AO.nil (AW.ghost (Ghost.freeze [1, 2, 3, 4] (K := [.us f 74 4 (A.map Valve.row), .us g 3 1 (b.Plan.Rates.map rI), .us i 3 1 (b.Plan.Ports.map rI), .us j 4 1 (b.Plan.Pumps.map rB)]) I [] J (ob' := [.arr u 39 4 1 [[.list 4 (A.map Valve.row), .list 1 (b.Plan.Rates.map rI), .list 1 (b.Plan.Ports.map rI), .list 1 (b.Plan.Pumps.map rB)]], .arr G 39 4 1 [[.v f, .v g, .v i, .v j]]]) (.cons (.arr (.cons (.us 0 I) (.cons (.us 1 I) (.cons (.us 2 I) (.cons (.us 3 I) (.rest _)))))) (.rest _))) (AW.gp [0] I ?_))))))))
 obtain rfl := oi h
 exact AW.ret ⟨.inr I, [_, _], [], ⟨⟨0, _, _, _, _, _, _, _, I, I, I, I, I⟩, I, J⟩, sl_n, I, I⟩
theorem L.zcvf_ok (w : Network) (R : Int) (r : Desk × Int) (h : L.zcvf w R = some r) : ACalls Tryz.env 37 [.agg (Network.row w), .V R] [] (fun x new => x = .tup [.agg (Desk.row r.1), .V r.2] ∧ new = []) := by
 refine ACalls.of_body Tryz.func37 rfl rfl rfl (fun C hC => ?_)
 unfold L.zcvf at h
 refine AW.seqG (fun y1 ad => (AW.region (AO.act [] I (AX.box (cs := Network.row w) (m := 6) I I I dS (fun Z => (AO.act [] I (AX.alloc (cs := [.N, .N, .N, .N]) (m := 4) I I I I I dS (fun S => (AO.q 1 I (AO.nil ?_))))))))))
 subst ad
 refine AW.seqG (fun y4 ae => (AW.seq ?_))
 obtain ⟨r5, af, h⟩ := ob_some h
 refine AW.region (AO.r 1 [.o 0 0] I ⟨I, J⟩ (AO.c (L.zgcl_ok _ _ af) (AO.q 1 I (AO.nil (AW.z I (AW.ch h I ?_ ?_))))))
 intro ag h
 refine AW.seq (AW.region (AO.p (Yp.buildP (l := [.N, .N, .N, .N]) Tryz.bld39 I) I (AO.q 1 I (AO.act [1] I (AX.st 1 0 0 [[.N, .N, .N, .N]] I (AO.q 1 I (AO.nil (AW.ghost (Ghost.freeze [] (K := []) I [] J (ob' := [.arr Z 32 6 1 [Network.row w], .arr S 39 4 1 [[.list 4 ([].map Valve.row), .list 1 ([].map rI), .list 1 ([].map rI), .list 1 ([].map rB)]]]) (.cons (.same _) (.cons (.arr (.cons (.nil _) (.cons (.nil _) (.cons (.nil _) (.cons (.nil _) (.rest _)))))) (.rest _)))) (AW.gp [1] I ?_)))))))))
 obtain rfl := oi h
 exact AW.ret ⟨.inr I, [_, _], [], ⟨⟨0, _, _, _, _, _, _, _, I, I, I, I, I⟩, I, J⟩, sl_n, I, I⟩
 intro ag h
 refine AW.skip ?_
 subst ae
 refine AW.seqG (fun y8 ah => (AW.jb 20 (decide (R < 1) || decide (R > 60)) ?_ ?_))
 refine AW.region (AO.q 3 I ?_)
 rcases bt (decide (R < 1)) with X | X
 refine AO.known 17 I X (AO.q 3 I (AO.nil ?_))
 exact jf (by simp only [X, bz]) I I ⟨I, I⟩
 refine AO.known 17 I X (AO.q 3 I (AO.nil ?_))
 exact jf (by simp only [X, bz]) I I ⟨I, I⟩
 refine AW.ch h I ?_ ?_
 intro ai h
 refine AW.seq (AW.region (AO.p (Yp.buildP (l := [.N, .N, .N, .N]) Tryz.bld39 I) I (AO.act [1] I (AX.st 1 0 0 [[.N, .N, .N, .N]] I (AO.q 1 I (AO.nil (AW.ghost (Ghost.freeze [] (K := []) I [] J (ob' := [.arr Z 32 6 1 [Network.row w], .arr S 39 4 1 [[.list 4 ([].map Valve.row), .list 1 ([].map rI), .list 1 ([].map rI), .list 1 ([].map rB)]]]) (.cons (.same _) (.cons (.arr (.cons (.nil _) (.cons (.nil _) (.cons (.nil _) (.cons (.nil _) (.rest _)))))) (.rest _)))) (AW.gp [1] I ?_))))))))
 obtain rfl := oi h
 exact AW.ret ⟨.inr I, [_, _], [], ⟨⟨0, _, _, _, _, _, _, _, I, I, I, I, I⟩, I, J⟩, sl_n, I, I⟩
 intro ai h
 refine AW.skip ?_
 subst ah
 refine AW.cutX (fun s ob => ∃ (u : (List Int) × (List Int) × (List Bool)) (U : Nat) (y : Value) (A : Value) (B : Value), L.zcvf.J1 w R u = some r ∧ s = [(7, .v (.pointer (some ⟨U, 0, none⟩)))] ∧ ob = [.arr Z 32 6 1 [Network.row w], .arr S 39 4 1 [[.N, .N, .N, .N]], .us y 3 1 (u.1.map rI), .us A 3 1 (u.2.1.map rI), .us B 4 1 (u.2.2.map rB), .arr U 39 4 1 [[.N, .v y, .v A, .v B]]]) [(1, _), (2, _), (4, _)] ⟨I, I, I, J⟩ ?_ ?_
 obtain ⟨k, ⟨ax, D, E, F⟩, h⟩ := ob_mk h
 obtain ⟨n, ⟨ay, G, H, M⟩, h⟩ := ob_mk h
 obtain ⟨t, ⟨az, O, P, Q⟩, h⟩ := ob_mk h
 refine AW.rd (.still 0 (.still 1 (.still 2 (.still 4 (.still 5 (.still 6 (.still 8 (.still 9 (.still 10 (.four 3 7 11 14 (.three 7 11 14 (.two 11 14 (.still 12 (.still 13 (.act 14 (.act 15 .nil)))) (.act 11 (.still 12 (.still 13 (.act 15 .nil))))) (.two 7 14 (.still 12 (.still 13 (.act 14 (.act 15 .nil)))) (.act 7 (.still 12 (.still 13 (.act 15 .nil))))) (.par [(7, []), (11, [])] (.still 12 (.still 13 (.act 15 .nil))))) (.three 3 11 14 (.two 11 14 (.still 12 (.still 13 (.act 14 (.act 15 .nil)))) (.act 11 (.still 12 (.still 13 (.act 15 .nil))))) (.two 3 14 (.still 12 (.still 13 (.act 14 (.act 15 .nil)))) (.act 3 (.still 12 (.still 13 (.act 15 .nil))))) (.par [(3, []), (11, [])] (.still 12 (.still 13 (.act 15 .nil))))) (.three 3 7 14 (.two 7 14 (.still 12 (.still 13 (.act 14 (.act 15 .nil)))) (.act 7 (.still 12 (.still 13 (.act 15 .nil))))) (.two 3 14 (.still 12 (.still 13 (.act 14 (.act 15 .nil)))) (.act 3 (.still 12 (.still 13 (.act 15 .nil))))) (.par [(3, []), (7, [])] (.still 12 (.still 13 (.act 15 .nil))))) (.par [(3, []), (7, []), (11, [])] (.still 12 (.still 13 (.act 15 .nil)))))))))))))) [0] [_] I (AP.r 9 [.o 1 0, .l 2 (w.Segments.length : Int), .o 4 0, .l 5 (w.Ports.length : Int), .o 7 0, .l 8 (w.Stations.length : Int)] I ⟨len_m, I, len_m, I, len_m, I, J⟩ (AP.four ?_ ?_ ?_ ?_))
 refine AP.act [] I I I (AX.makeU (sz := 1) I I I I I I I I I I D E (rep_map (f := rI) F I) dS (fun a => (AP.three ?_ ?_ ?_)))
 refine AP.act [] I I I (AX.makeU (sz := 1) I I I I I I I I I I G H (rep_map (f := rI) M I) dS (fun b => (AP.two ?_ ?_)))
 refine AP.act [] I I I (AX.makeU (sz := 1) I I I I I I I I I I O P (rep_map (f := rB) Q I) dS (fun d => (AP.one 2 I (fun e => (AP.one 3 I (fun g => (AP.one 4 I (fun i => (AP.p I (Yp.buildP (l := [.v a, .v b, .v d]) Tryz.bld37 (fill_step I I (cells_v e) I (fill_step I I (cells_v g) I (fill_step I I (cells_v i) I (fill_nil))))) I (AP.p I (Yp.buildP (l := [.N, .v a, .v b, .v d]) Tryz.bld39 I) I (AP.act [] I I I (AX.alloc (cs := [.N, .N, .N, .N]) (m := 4) I I I I I dS (fun j => (AP.act [5] I I I (AX.st 5 0 0 [[.N, .v a, .v b, .v d]] I (AP.ofAO (AO.nil ?_)))))))))))))))))
 exact lg ⟨(k, n, t), j, a, b, d, h, I, I⟩ [0, 1, 2, 3, 4, 5]
 refine AP.act [] I I I (AX.alloc (cs := [.N, .N, .N, .N]) (m := 4) I I I I I dS (fun j => (AP.act [] I I I (AX.makeU (sz := 1) I I I I I I I I I I O P (rep_map (f := rB) Q I) dS (fun d => (AP.one 2 I (fun e => (AP.one 3 I (fun g => (AP.one 5 I (fun i => (AP.p I (Yp.buildP (l := [.v a, .v b, .v d]) Tryz.bld37 (fill_step I I (cells_v e) I (fill_step I I (cells_v g) I (fill_step I I (cells_v i) I (fill_nil))))) I (AP.p I (Yp.buildP (l := [.N, .v a, .v b, .v d]) Tryz.bld39 I) I (AP.act [4] I I I (AX.st 4 0 0 [[.N, .v a, .v b, .v d]] I (AP.ofAO (AO.nil ?_)))))))))))))))))
 exact lg ⟨(k, n, t), j, a, b, d, h, I, I⟩ [0, 1, 2, 3, 5, 4]
 refine AP.act [] I I I (AX.makeU (sz := 1) I I I I I I I I I I O P (rep_map (f := rB) Q I) dS (fun d => (AP.two ?_ ?_)))
 refine AP.act [] I I I (AX.makeU (sz := 1) I I I I I I I I I I G H (rep_map (f := rI) M I) dS (fun b => (AP.one 2 I (fun e => (AP.one 4 I (fun g => (AP.one 3 I (fun i => (AP.p I (Yp.buildP (l := [.v a, .v b, .v d]) Tryz.bld37 (fill_step I I (cells_v e) I (fill_step I I (cells_v g) I (fill_step I I (cells_v i) I (fill_nil))))) I (AP.p I (Yp.buildP (l := [.N, .v a, .v b, .v d]) Tryz.bld39 I) I (AP.act [] I I I (AX.alloc (cs := [.N, .N, .N, .N]) (m := 4) I I I I I dS (fun j => (AP.act [5] I I I (AX.st 5 0 0 [[.N, .v a, .v b, .v d]] I (AP.ofAO (AO.nil ?_)))))))))))))))))
 exact lg ⟨(k, n, t), j, a, b, d, h, I, I⟩ [0, 1, 2, 4, 3, 5]
 refine AP.act [] I I I (AX.alloc (cs := [.N, .N, .N, .N]) (m := 4) I I I I I dS (fun j => (AP.act [] I I I (AX.makeU (sz := 1) I I I I I I I I I I G H (rep_map (f := rI) M I) dS (fun b => (AP.one 2 I (fun e => (AP.one 5 I (fun g => (AP.one 3 I (fun i => (AP.p I (Yp.buildP (l := [.v a, .v b, .v d]) Tryz.bld37 (fill_step I I (cells_v e) I (fill_step I I (cells_v g) I (fill_step I I (cells_v i) I (fill_nil))))) I (AP.p I (Yp.buildP (l := [.N, .v a, .v b, .v d]) Tryz.bld39 I) I (AP.act [4] I I I (AX.st 4 0 0 [[.N, .v a, .v b, .v d]] I (AP.ofAO (AO.nil ?_)))))))))))))))))
 exact lg ⟨(k, n, t), j, a, b, d, h, I, I⟩ [0, 1, 2, 5, 3, 4]
 refine AP.act [] I I I (AX.alloc (cs := [.N, .N, .N, .N]) (m := 4) I I I I I dS (fun j => (AP.any [⟨7, [], 29, .us 3 1 (n.map rI)⟩, ⟨11, [], 33, .us 4 1 (t.map rB)⟩] I ⟨⟨_, I, I, I, fun _ => AX.makeU (sz := 1) I I I I I I I I I I G H (rep_map (f := rI) M I) dS (fun v => ⟨_, I, ⟨v, I⟩, I⟩)⟩, ⟨_, I, I, I, fun _ => AX.makeU (sz := 1) I I I I I I I I I I O P (rep_map (f := rB) Q I) dS (fun v => ⟨_, I, ⟨v, I⟩, I⟩)⟩, J⟩ ?_)))
 intro b g d i
 refine AP.one 2 I (fun e => (AP.one 4 I (fun g => (AP.one 5 I (fun i => (AP.p I (Yp.buildP (l := [.v a, .v b, .v d]) Tryz.bld37 (fill_step I I (cells_v e) I (fill_step I I (cells_v g) I (fill_step I I (cells_v i) I (fill_nil))))) I (AP.p I (Yp.buildP (l := [.N, .v a, .v b, .v d]) Tryz.bld39 I) I (AP.act [3] I I I (AX.st 3 0 0 [[.N, .v a, .v b, .v d]] I (AP.ofAO (AO.nil ?_)))))))))))
 exact lg ⟨(k, n, t), j, a, b, d, h, I, I⟩ [0, 1, 2, 4, 5, 3]
 refine AP.act [] I I I (AX.makeU (sz := 1) I I I I I I I I I I G H (rep_map (f := rI) M I) dS (fun b => (AP.three ?_ ?_ ?_)))
 refine AP.act [] I I I (AX.makeU (sz := 1) I I I I I I I I I I D E (rep_map (f := rI) F I) dS (fun a => (AP.two ?_ ?_)))
 refine AP.act [] I I I (AX.makeU (sz := 1) I I I I I I I I I I O P (rep_map (f := rB) Q I) dS (fun d => (AP.one 3 I (fun e => (AP.one 2 I (fun g => (AP.one 4 I (fun i => (AP.p I (Yp.buildP (l := [.v a, .v b, .v d]) Tryz.bld37 (fill_step I I (cells_v e) I (fill_step I I (cells_v g) I (fill_step I I (cells_v i) I (fill_nil))))) I (AP.p I (Yp.buildP (l := [.N, .v a, .v b, .v d]) Tryz.bld39 I) I (AP.act [] I I I (AX.alloc (cs := [.N, .N, .N, .N]) (m := 4) I I I I I dS (fun j => (AP.act [5] I I I (AX.st 5 0 0 [[.N, .v a, .v b, .v d]] I (AP.ofAO (AO.nil ?_)))))))))))))))))
 exact lg ⟨(k, n, t), j, a, b, d, h, I, I⟩ [0, 1, 3, 2, 4, 5]
 refine AP.act [] I I I (AX.alloc (cs := [.N, .N, .N, .N]) (m := 4) I I I I I dS (fun j => (AP.act [] I I I (AX.makeU (sz := 1) I I I I I I I I I I O P (rep_map (f := rB) Q I) dS (fun d => (AP.one 3 I (fun e => (AP.one 2 I (fun g => (AP.one 5 I (fun i => (AP.p I (Yp.buildP (l := [.v a, .v b, .v d]) Tryz.bld37 (fill_step I I (cells_v e) I (fill_step I I (cells_v g) I (fill_step I I (cells_v i) I (fill_nil))))) I (AP.p I (Yp.buildP (l := [.N, .v a, .v b, .v d]) Tryz.bld39 I) I (AP.act [4] I I I (AX.st 4 0 0 [[.N, .v a, .v b, .v d]] I (AP.ofAO (AO.nil ?_)))))))))))))))))
 exact lg ⟨(k, n, t), j, a, b, d, h, I, I⟩ [0, 1, 3, 2, 5, 4]
 refine AP.act [] I I I (AX.makeU (sz := 1) I I I I I I I I I I O P (rep_map (f := rB) Q I) dS (fun d => (AP.two ?_ ?_)))
 refine AP.act [] I I I (AX.makeU (sz := 1) I I I I I I I I I I D E (rep_map (f := rI) F I) dS (fun a => (AP.one 4 I (fun e => (AP.one 2 I (fun g => (AP.one 3 I (fun i => (AP.p I (Yp.buildP (l := [.v a, .v b, .v d]) Tryz.bld37 (fill_step I I (cells_v e) I (fill_step I I (cells_v g) I (fill_step I I (cells_v i) I (fill_nil))))) I (AP.p I (Yp.buildP (l := [.N, .v a, .v b, .v d]) Tryz.bld39 I) I (AP.act [] I I I (AX.alloc (cs := [.N, .N, .N, .N]) (m := 4) I I I I I dS (fun j => (AP.act [5] I I I (AX.st 5 0 0 [[.N, .v a, .v b, .v d]] I (AP.ofAO (AO.nil ?_)))))))))))))))))
 exact lg ⟨(k, n, t), j, a, b, d, h, I, I⟩ [0, 1, 4, 2, 3, 5]
 refine AP.act [] I I I (AX.alloc (cs := [.N, .N, .N, .N]) (m := 4) I I I I I dS (fun j => (AP.act [] I I I (AX.makeU (sz := 1) I I I I I I I I I I D E (rep_map (f := rI) F I) dS (fun a => (AP.one 5 I (fun e => (AP.one 2 I (fun g => (AP.one 3 I (fun i => (AP.p I (Yp.buildP (l := [.v a, .v b, .v d]) Tryz.bld37 (fill_step I I (cells_v e) I (fill_step I I (cells_v g) I (fill_step I I (cells_v i) I (fill_nil))))) I (AP.p I (Yp.buildP (l := [.N, .v a, .v b, .v d]) Tryz.bld39 I) I (AP.act [4] I I I (AX.st 4 0 0 [[.N, .v a, .v b, .v d]] I (AP.ofAO (AO.nil ?_)))))))))))))))))
 exact lg ⟨(k, n, t), j, a, b, d, h, I, I⟩ [0, 1, 5, 2, 3, 4]
 refine AP.act [] I I I (AX.alloc (cs := [.N, .N, .N, .N]) (m := 4) I I I I I dS (fun j => (AP.any [⟨3, [], 25, .us 3 1 (k.map rI)⟩, ⟨11, [], 33, .us 4 1 (t.map rB)⟩] I ⟨⟨_, I, I, I, fun _ => AX.makeU (sz := 1) I I I I I I I I I I D E (rep_map (f := rI) F I) dS (fun v => ⟨_, I, ⟨v, I⟩, I⟩)⟩, ⟨_, I, I, I, fun _ => AX.makeU (sz := 1) I I I I I I I I I I O P (rep_map (f := rB) Q I) dS (fun v => ⟨_, I, ⟨v, I⟩, I⟩)⟩, J⟩ ?_)))
 intro a e d i
 refine AP.one 4 I (fun e => (AP.one 2 I (fun g => (AP.one 5 I (fun i => (AP.p I (Yp.buildP (l := [.v a, .v b, .v d]) Tryz.bld37 (fill_step I I (cells_v e) I (fill_step I I (cells_v g) I (fill_step I I (cells_v i) I (fill_nil))))) I (AP.p I (Yp.buildP (l := [.N, .v a, .v b, .v d]) Tryz.bld39 I) I (AP.act [3] I I I (AX.st 3 0 0 [[.N, .v a, .v b, .v d]] I (AP.ofAO (AO.nil ?_)))))))))))
 exact lg ⟨(k, n, t), j, a, b, d, h, I, I⟩ [0, 1, 4, 2, 5, 3]
 refine AP.act [] I I I (AX.makeU (sz := 1) I I I I I I I I I I O P (rep_map (f := rB) Q I) dS (fun d => (AP.three ?_ ?_ ?_)))
 refine AP.act [] I I I (AX.makeU (sz := 1) I I I I I I I I I I D E (rep_map (f := rI) F I) dS (fun a => (AP.two ?_ ?_)))
 refine AP.act [] I I I (AX.makeU (sz := 1) I I I I I I I I I I G H (rep_map (f := rI) M I) dS (fun b => (AP.one 3 I (fun e => (AP.one 4 I (fun g => (AP.one 2 I (fun i => (AP.p I (Yp.buildP (l := [.v a, .v b, .v d]) Tryz.bld37 (fill_step I I (cells_v e) I (fill_step I I (cells_v g) I (fill_step I I (cells_v i) I (fill_nil))))) I (AP.p I (Yp.buildP (l := [.N, .v a, .v b, .v d]) Tryz.bld39 I) I (AP.act [] I I I (AX.alloc (cs := [.N, .N, .N, .N]) (m := 4) I I I I I dS (fun j => (AP.act [5] I I I (AX.st 5 0 0 [[.N, .v a, .v b, .v d]] I (AP.ofAO (AO.nil ?_)))))))))))))))))
 exact lg ⟨(k, n, t), j, a, b, d, h, I, I⟩ [0, 1, 3, 4, 2, 5]
 refine AP.act [] I I I (AX.alloc (cs := [.N, .N, .N, .N]) (m := 4) I I I I I dS (fun j => (AP.act [] I I I (AX.makeU (sz := 1) I I I I I I I I I I G H (rep_map (f := rI) M I) dS (fun b => (AP.one 3 I (fun e => (AP.one 5 I (fun g => (AP.one 2 I (fun i => (AP.p I (Yp.buildP (l := [.v a, .v b, .v d]) Tryz.bld37 (fill_step I I (cells_v e) I (fill_step I I (cells_v g) I (fill_step I I (cells_v i) I (fill_nil))))) I (AP.p I (Yp.buildP (l := [.N, .v a, .v b, .v d]) Tryz.bld39 I) I (AP.act [4] I I I (AX.st 4 0 0 [[.N, .v a, .v b, .v d]] I (AP.ofAO (AO.nil ?_)))))))))))))))))
 exact lg ⟨(k, n, t), j, a, b, d, h, I, I⟩ [0, 1, 3, 5, 2, 4]
 refine AP.act [] I I I (AX.makeU (sz := 1) I I I I I I I I I I G H (rep_map (f := rI) M I) dS (fun b => (AP.two ?_ ?_)))
 refine AP.act [] I I I (AX.makeU (sz := 1) I I I I I I I I I I D E (rep_map (f := rI) F I) dS (fun a => (AP.one 4 I (fun e => (AP.one 3 I (fun g => (AP.one 2 I (fun i => (AP.p I (Yp.buildP (l := [.v a, .v b, .v d]) Tryz.bld37 (fill_step I I (cells_v e) I (fill_step I I (cells_v g) I (fill_step I I (cells_v i) I (fill_nil))))) I (AP.p I (Yp.buildP (l := [.N, .v a, .v b, .v d]) Tryz.bld39 I) I (AP.act [] I I I (AX.alloc (cs := [.N, .N, .N, .N]) (m := 4) I I I I I dS (fun j => (AP.act [5] I I I (AX.st 5 0 0 [[.N, .v a, .v b, .v d]] I (AP.ofAO (AO.nil ?_)))))))))))))))))
 exact lg ⟨(k, n, t), j, a, b, d, h, I, I⟩ [0, 1, 4, 3, 2, 5]
 refine AP.act [] I I I (AX.alloc (cs := [.N, .N, .N, .N]) (m := 4) I I I I I dS (fun j => (AP.act [] I I I (AX.makeU (sz := 1) I I I I I I I I I I D E (rep_map (f := rI) F I) dS (fun a => (AP.one 5 I (fun e => (AP.one 3 I (fun g => (AP.one 2 I (fun i => (AP.p I (Yp.buildP (l := [.v a, .v b, .v d]) Tryz.bld37 (fill_step I I (cells_v e) I (fill_step I I (cells_v g) I (fill_step I I (cells_v i) I (fill_nil))))) I (AP.p I (Yp.buildP (l := [.N, .v a, .v b, .v d]) Tryz.bld39 I) I (AP.act [4] I I I (AX.st 4 0 0 [[.N, .v a, .v b, .v d]] I (AP.ofAO (AO.nil ?_)))))))))))))))))
 exact lg ⟨(k, n, t), j, a, b, d, h, I, I⟩ [0, 1, 5, 3, 2, 4]
 refine AP.act [] I I I (AX.alloc (cs := [.N, .N, .N, .N]) (m := 4) I I I I I dS (fun j => (AP.any [⟨3, [], 25, .us 3 1 (k.map rI)⟩, ⟨7, [], 29, .us 3 1 (n.map rI)⟩] I ⟨⟨_, I, I, I, fun _ => AX.makeU (sz := 1) I I I I I I I I I I D E (rep_map (f := rI) F I) dS (fun v => ⟨_, I, ⟨v, I⟩, I⟩)⟩, ⟨_, I, I, I, fun _ => AX.makeU (sz := 1) I I I I I I I I I I G H (rep_map (f := rI) M I) dS (fun v => ⟨_, I, ⟨v, I⟩, I⟩)⟩, J⟩ ?_)))
 intro a e b g
 refine AP.one 4 I (fun e => (AP.one 5 I (fun g => (AP.one 2 I (fun i => (AP.p I (Yp.buildP (l := [.v a, .v b, .v d]) Tryz.bld37 (fill_step I I (cells_v e) I (fill_step I I (cells_v g) I (fill_step I I (cells_v i) I (fill_nil))))) I (AP.p I (Yp.buildP (l := [.N, .v a, .v b, .v d]) Tryz.bld39 I) I (AP.act [3] I I I (AX.st 3 0 0 [[.N, .v a, .v b, .v d]] I (AP.ofAO (AO.nil ?_)))))))))))
 exact lg ⟨(k, n, t), j, a, b, d, h, I, I⟩ [0, 1, 4, 5, 2, 3]
 refine AP.act [] I I I (AX.alloc (cs := [.N, .N, .N, .N]) (m := 4) I I I I I dS (fun j => (AP.any [⟨3, [], 25, .us 3 1 (k.map rI)⟩, ⟨7, [], 29, .us 3 1 (n.map rI)⟩, ⟨11, [], 33, .us 4 1 (t.map rB)⟩] I ⟨⟨_, I, I, I, fun _ => AX.makeU (sz := 1) I I I I I I I I I I D E (rep_map (f := rI) F I) dS (fun v => ⟨_, I, ⟨v, I⟩, I⟩)⟩, ⟨_, I, I, I, fun _ => AX.makeU (sz := 1) I I I I I I I I I I G H (rep_map (f := rI) M I) dS (fun v => ⟨_, I, ⟨v, I⟩, I⟩)⟩, ⟨_, I, I, I, fun _ => AX.makeU (sz := 1) I I I I I I I I I I O P (rep_map (f := rB) Q I) dS (fun v => ⟨_, I, ⟨v, I⟩, I⟩)⟩, J⟩ ?_)))
 intro a e b g d i
 refine AP.one 3 I (fun e => (AP.one 4 I (fun g => (AP.one 5 I (fun i => (AP.p I (Yp.buildP (l := [.v a, .v b, .v d]) Tryz.bld37 (fill_step I I (cells_v e) I (fill_step I I (cells_v g) I (fill_step I I (cells_v i) I (fill_nil))))) I (AP.p I (Yp.buildP (l := [.N, .v a, .v b, .v d]) Tryz.bld39 I) I (AP.act [2] I I I (AX.st 2 0 0 [[.N, .v a, .v b, .v d]] I (AP.ofAO (AO.nil ?_)))))))))))
 exact lg ⟨(k, n, t), j, a, b, d, h, I, I⟩ [0, 1, 3, 4, 5, 2]
 rintro s ob ⟨u, U, y, A, B, h, rfl, rfl⟩
 unfold L.zcvf.J1 at h
 refine AW.cutX (fun s ob => ∃ (Y : List Valve) (W : Value), L.zcvf.J2 u Y = some r ∧ s = [] ∧ ob = [.arr S 39 4 1 [[.N, .N, .N, .N]], .us y 3 1 (u.1.map rI), .us A 3 1 (u.2.1.map rI), .us B 4 1 (u.2.2.map rB), .arr U 39 4 1 [[.v W, .v y, .v A, .v B]], .us W 74 4 (Y.map Valve.row)]) [(4, _), (7, _)] ⟨I, I, J⟩ ?_ ?_
 refine AW.z I (AW.block (AW.ghost (Ghost.nilU 74 4) ?_))
 obtain ⟨a0, aj, ak⟩ := ob_some h
 clear h
 refine AW.loopX aj [(1, _), (2, _), (4, _), (7, _)] ⟨I, I, I, I, J⟩ (fun (aa : (List Valve) × Int) s ob => ∃ (ab : Value), s = [(8, .V aa.2)] ∧ ob = [.arr Z 32 6 1 [Network.row w], .arr S 39 4 1 [[.N, .N, .N, .N]], .us y 3 1 (u.1.map rI), .us A 3 1 (u.2.1.map rI), .us B 4 1 (u.2.2.map rB), .arr U 39 4 1 [[.v ab, .v y, .v A, .v B]], .us ab 74 4 (aa.1.map Valve.row)]) ⟨(.slice none 0 0), I, I⟩ ⟨I, J⟩ ⟨[0, 1, 2, 3, 4, 5, 6], I, by decide⟩ ?_
 rintro aa a1 s ob ⟨ab, rfl, rfl⟩ h al
 unfold L.zcvf.B3 at h
 refine AW.seqG (fun a2 am => (AW.seq (AW.region (AO.r 2 [.o 1 0] I ⟨I, J⟩ (AO.c (L.zazn_ok w _ I) (AO.q 1 I (AO.nil (AW.ch h I ?_ ?_))))))))
 intro an h
 refine AW.skip ?_
 subst am
 refine AW.seq (AW.block ?_)
 obtain ⟨a3, ao, h⟩ := ob_some h
 refine AW.region (AO.r 3 [.o 1 5] I ⟨I, J⟩ (AO.p (Yp.buildP (l := [.V R, .V 0, .v (.bool false), .v (.bool false)]) Tryz.bld74 I) I (AO.act [] I (AX.lt 4 (([(⟨R, 0, false, false⟩ : Valve)] : List Valve).map Valve.row) (AO.act [6] I (AX.ap 6 I ao (fun ac => (AO.q 1 I (AO.one 6 I (fun aq => (AO.act [5] I (AX.store 5 0 0 (es' := [[.v ac, .v y, .v A, .v B]]) I I I I I I (cells_v aq) I (le_ble I) I I (AO.nil (AW.region (AO.q 3 I ?_)))))))))))))))
 obtain rfl := oi h
 refine AO.nil ?_
 exact ⟨_, _, _, I, ⟨ac, I, I⟩, ⟨I, I, I, I, I, J⟩, [0, 1, 2, 3, 4, 5, 6], I, by decide⟩
 intro an h
 obtain rfl := al _ (oi h).symm
 replace h := ak
 refine AW.exit ?_
 exact lg ⟨aa.1, ab, h, I, I⟩ [1, 2, 3, 4, 5, 6]
 rintro s ob ⟨Y, W, h, rfl, rfl⟩
 unfold L.zcvf.J2 at h
 refine AW.seq (AW.region (AO.r 1 [.o 0 4] I ⟨I, J⟩ (AO.act [0] I (AX.st 0 0 0 [[.v W, .v y, .v A, .v B]] I (AO.q 1 I (AO.nil (AW.ghost (Ghost.freeze [1, 2, 3, 5] (K := [.us y 3 1 (u.1.map rI), .us A 3 1 (u.2.1.map rI), .us B 4 1 (u.2.2.map rB), .us W 74 4 (Y.map Valve.row)]) I [] J (ob' := [.arr S 39 4 1 [[.list 4 (Y.map Valve.row), .list 1 (u.1.map rI), .list 1 (u.2.1.map rI), .list 1 (u.2.2.map rB)]], .arr U 39 4 1 [[.v W, .v y, .v A, .v B]]]) (.cons (.arr (.cons (.us 3 I) (.cons (.us 0 I) (.cons (.us 1 I) (.cons (.us 2 I) (.rest _)))))) (.rest _))) (AW.gp [0] I ?_))))))))
 obtain rfl := oi h
 exact AW.ret ⟨.inr I, [_, _], [], ⟨⟨0, _, _, _, _, _, _, _, I, I, I, I, I⟩, I, J⟩, sl_n, I, I⟩
end Go.Proofs.YtmaamhgjeampmaaGreat
