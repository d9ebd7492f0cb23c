/- Walks that show what functions of the program compute; printed by a program of ours. No condition. -/
import Derived.Test.YtmaamhgjeampmaaGreatYsLd1
set_option maxRecDepth 100000
namespace Go.Proofs.YtmaamhgjeampmaaGreat
open Go.Aw
set_option linter.unusedVariables false
set_option linter.unusedSimpArgs false
set_option maxHeartbeats 4000000
theorem L.zbxx_own (D : Plan) (r : Plan) (h : L.zbxx D = some r) : ACalls Tryz.env 83 [.agg (Plan.row D)] [] (fun x new => ∃ (E : Value) (F : Value) (G : Value), x = .agg [.v E, .v F, .v G] ∧ new = [.us E 3 1 (r.Rates.map rI), .us F 3 1 (r.Ports.map rI), .us G 4 1 (r.Pumps.map rB)]) := by
 refine ACalls.of_body Tryz.func83 rfl rfl rfl (fun C hC => ?_)
 unfold L.zbxx at h
 refine AW.seqG (fun M H => (AW.region (AO.act [] I (AX.box (cs := Plan.row D) (m := 3) I I I dS (fun O => (AO.act [] I (AX.alloc (cs := [.N, .N, .N]) (m := 3) I I I I I dS (fun K => (AO.nil ?_)))))))))
 subst H
 refine AW.cutX (fun s ob => ∃ (u : (List Int) × (List Int) × (List Bool)) (y : Value) (z : Value) (A : Value), L.zbxx.J1 u = some r ∧ s = [] ∧ ob = [.arr K 37 3 1 [[.v y, .v z, .v A]], .us y 3 1 (u.1.map rI), .us z 3 1 (u.2.1.map rI), .us A 4 1 (u.2.2.map rB)]) [(2, _)] ⟨I, J⟩ ?_ ?_
 obtain ⟨g, q, h⟩ := ob_some h
 obtain ⟨i, j, h⟩ := ob_some h
 obtain ⟨k, n, h⟩ := ob_some h
 refine AW.rd (.still 1 (.still 2 (.still 5 (.still 6 (.still 9 (.still 10 (.three 0 4 8 (.three 3 4 8 (.two 4 8 (.two 7 8 (.act 8 (.act 11 (.still 12 (.act 13 .nil)))) (.act 7 (.act 11 (.still 12 (.act 13 .nil))))) (.act 4 (.act 7 (.act 11 (.still 12 (.act 13 .nil)))))) (.two 3 8 (.two 7 8 (.act 8 (.act 11 (.still 12 (.act 13 .nil)))) (.act 7 (.act 11 (.still 12 (.act 13 .nil))))) (.act 3 (.act 7 (.act 11 (.still 12 (.act 13 .nil)))))) (.two 3 4 (.act 4 (.act 7 (.act 11 (.still 12 (.act 13 .nil))))) (.act 3 (.act 7 (.act 11 (.still 12 (.act 13 .nil))))))) (.two 0 8 (.two 3 8 (.two 7 8 (.act 8 (.act 11 (.still 12 (.act 13 .nil)))) (.act 7 (.act 11 (.still 12 (.act 13 .nil))))) (.act 3 (.act 7 (.act 11 (.still 12 (.act 13 .nil)))))) (.act 0 (.act 3 (.act 7 (.act 11 (.still 12 (.act 13 .nil))))))) (.two 0 4 (.two 3 4 (.act 4 (.act 7 (.act 11 (.still 12 (.act 13 .nil))))) (.act 3 (.act 7 (.act 11 (.still 12 (.act 13 .nil)))))) (.act 0 (.act 3 (.act 7 (.act 11 (.still 12 (.act 13 .nil)))))))))))))) [0] [_] I (AP.r 6 [.o 1 0, .o 3 0, .o 5 0] I ⟨I, I, I, J⟩ (AP.three ?_ ?_ ?_))
 refine AP.act [] I I I (AX.buildSlice (sz := 1) (es := ([] : List Int).map rI) I I I I I I I I I I I dS (fun B => (AP.three ?_ ?_ ?_)))
 refine AP.act [2] I I I (AX.ap 2 I q (fun c => (AP.two ?_ ?_)))
 refine AP.act [] I I I (AX.buildSlice (sz := 1) (es := ([] : List Int).map rI) I I I I I I I I I I I dS (fun w => (AP.two ?_ ?_)))
 refine AP.act [3] I I I (AX.ap 3 I j (fun a => (AP.act [] I I I (AX.buildSlice (sz := 1) (es := ([] : List Bool).map rB) I I I I I I I I I I I dS (fun t => (AP.act [4] I I I (AX.ap 4 I n (fun b => (AP.one 2 I (fun d => (AP.one 3 I (fun e => (AP.one 4 I (fun f => (AP.p I (Yp.buildP (l := [.v c, .v a, .v b]) Tryz.bld37 (fill_step I I (cells_v d) I (fill_step I I (cells_v e) I (fill_step I I (cells_v f) I (fill_nil))))) I (AP.act [1] I I I (AX.st 1 0 0 [[.v c, .v a, .v b]] I (AP.ofAO (AO.nil ?_)))))))))))))))))))
 exact lg ⟨(g, i, k), c, a, b, h, I, I⟩ [1, 2, 3, 4]
 refine AP.act [] I I I (AX.buildSlice (sz := 1) (es := ([] : List Bool).map rB) I I I I I I I I I I I dS (fun t => (AP.act [3] I I I (AX.ap 3 I j (fun a => (AP.act [4] I I I (AX.ap 4 I n (fun b => (AP.one 2 I (fun d => (AP.one 3 I (fun e => (AP.one 4 I (fun f => (AP.p I (Yp.buildP (l := [.v c, .v a, .v b]) Tryz.bld37 (fill_step I I (cells_v d) I (fill_step I I (cells_v e) I (fill_step I I (cells_v f) I (fill_nil))))) I (AP.act [1] I I I (AX.st 1 0 0 [[.v c, .v a, .v b]] I (AP.ofAO (AO.nil ?_)))))))))))))))))))
 exact lg ⟨(g, i, k), c, a, b, h, I, I⟩ [1, 2, 3, 4]
 refine AP.act [] I I I (AX.buildSlice (sz := 1) (es := ([] : List Bool).map rB) I I I I I I I I I I I dS (fun t => (AP.act [] I I I (AX.buildSlice (sz := 1) (es := ([] : List Int).map rI) I I I I I I I I I I I dS (fun w => (AP.act [4] I I I (AX.ap 4 I j (fun a => (AP.act [3] I I I (AX.ap 3 I n (fun b => (AP.one 2 I (fun d => (AP.one 4 I (fun e => (AP.one 3 I (fun f => (AP.p I (Yp.buildP (l := [.v c, .v a, .v b]) Tryz.bld37 (fill_step I I (cells_v d) I (fill_step I I (cells_v e) I (fill_step I I (cells_v f) I (fill_nil))))) I (AP.act [1] I I I (AX.st 1 0 0 [[.v c, .v a, .v b]] I (AP.ofAO (AO.nil ?_))))))))))))))))))))))
 exact lg ⟨(g, i, k), c, a, b, h, I, I⟩ [1, 2, 4, 3]
 refine AP.act [] I I I (AX.buildSlice (sz := 1) (es := ([] : List Int).map rI) I I I I I I I I I I I dS (fun w => (AP.two ?_ ?_)))
 refine AP.act [2] I I I (AX.ap 2 I q (fun c => (AP.two ?_ ?_)))
 refine AP.act [3] I I I (AX.ap 3 I j (fun a => (AP.act [] I I I (AX.buildSlice (sz := 1) (es := ([] : List Bool).map rB) I I I I I I I I I I I dS (fun t => (AP.act [4] I I I (AX.ap 4 I n (fun b => (AP.one 2 I (fun d => (AP.one 3 I (fun e => (AP.one 4 I (fun f => (AP.p I (Yp.buildP (l := [.v c, .v a, .v b]) Tryz.bld37 (fill_step I I (cells_v d) I (fill_step I I (cells_v e) I (fill_step I I (cells_v f) I (fill_nil))))) I (AP.act [1] I I I (AX.st 1 0 0 [[.v c, .v a, .v b]] I (AP.ofAO (AO.nil ?_)))))))))))))))))))
 exact lg ⟨(g, i, k), c, a, b, h, I, I⟩ [1, 2, 3, 4]
 refine AP.act [] I I I (AX.buildSlice (sz := 1) (es := ([] : List Bool).map rB) I I I I I I I I I I I dS (fun t => (AP.act [3] I I I (AX.ap 3 I j (fun a => (AP.act [4] I I I (AX.ap 4 I n (fun b => (AP.one 2 I (fun d => (AP.one 3 I (fun e => (AP.one 4 I (fun f => (AP.p I (Yp.buildP (l := [.v c, .v a, .v b]) Tryz.bld37 (fill_step I I (cells_v d) I (fill_step I I (cells_v e) I (fill_step I I (cells_v f) I (fill_nil))))) I (AP.act [1] I I I (AX.st 1 0 0 [[.v c, .v a, .v b]] I (AP.ofAO (AO.nil ?_)))))))))))))))))))
 exact lg ⟨(g, i, k), c, a, b, h, I, I⟩ [1, 2, 3, 4]
 refine AP.act [] I I I (AX.buildSlice (sz := 1) (es := ([] : List Bool).map rB) I I I I I I I I I I I dS (fun t => (AP.act [2] I I I (AX.ap 2 I q (fun c => (AP.act [3] I I I (AX.ap 3 I j (fun a => (AP.act [4] I I I (AX.ap 4 I n (fun b => (AP.one 2 I (fun d => (AP.one 3 I (fun e => (AP.one 4 I (fun f => (AP.p I (Yp.buildP (l := [.v c, .v a, .v b]) Tryz.bld37 (fill_step I I (cells_v d) I (fill_step I I (cells_v e) I (fill_step I I (cells_v f) I (fill_nil))))) I (AP.act [1] I I I (AX.st 1 0 0 [[.v c, .v a, .v b]] I (AP.ofAO (AO.nil ?_))))))))))))))))))))))
 exact lg ⟨(g, i, k), c, a, b, h, I, I⟩ [1, 2, 3, 4]
 refine AP.act [] I I I (AX.buildSlice (sz := 1) (es := ([] : List Bool).map rB) I I I I I I I I I I I dS (fun t => (AP.two ?_ ?_)))
 refine AP.act [2] I I I (AX.ap 2 I q (fun c => (AP.act [] I I I (AX.buildSlice (sz := 1) (es := ([] : List Int).map rI) I I I I I I I I I I I dS (fun w => (AP.act [4] I I I (AX.ap 4 I j (fun a => (AP.act [3] I I I (AX.ap 3 I n (fun b => (AP.one 2 I (fun d => (AP.one 4 I (fun e => (AP.one 3 I (fun f => (AP.p I (Yp.buildP (l := [.v c, .v a, .v b]) Tryz.bld37 (fill_step I I (cells_v d) I (fill_step I I (cells_v e) I (fill_step I I (cells_v f) I (fill_nil))))) I (AP.act [1] I I I (AX.st 1 0 0 [[.v c, .v a, .v b]] I (AP.ofAO (AO.nil ?_))))))))))))))))))))))
 exact lg ⟨(g, i, k), c, a, b, h, I, I⟩ [1, 2, 4, 3]
 refine AP.act [] I I I (AX.buildSlice (sz := 1) (es := ([] : List Int).map rI) I I I I I I I I I I I dS (fun w => (AP.act [2] I I I (AX.ap 2 I q (fun c => (AP.act [4] I I I (AX.ap 4 I j (fun a => (AP.act [3] I I I (AX.ap 3 I n (fun b => (AP.one 2 I (fun d => (AP.one 4 I (fun e => (AP.one 3 I (fun f => (AP.p I (Yp.buildP (l := [.v c, .v a, .v b]) Tryz.bld37 (fill_step I I (cells_v d) I (fill_step I I (cells_v e) I (fill_step I I (cells_v f) I (fill_nil))))) I (AP.act [1] I I I (AX.st 1 0 0 [[.v c, .v a, .v b]] I (AP.ofAO (AO.nil ?_))))))))))))))))))))))
 exact lg ⟨(g, i, k), c, a, b, h, I, I⟩ [1, 2, 4, 3]
 refine AP.act [] I I I (AX.buildSlice (sz := 1) (es := ([] : List Int).map rI) I I I I I I I I I I I dS (fun w => (AP.two ?_ ?_)))
 refine AP.act [] I I I (AX.buildSlice (sz := 1) (es := ([] : List Int).map rI) I I I I I I I I I I I dS (fun B => (AP.two ?_ ?_)))
 refine AP.act [3] I I I (AX.ap 3 I q (fun c => (AP.two ?_ ?_)))
 refine AP.act [2] I I I (AX.ap 2 I j (fun a => (AP.act [] I I I (AX.buildSlice (sz := 1) (es := ([] : List Bool).map rB) I I I I I I I I I I I dS (fun t => (AP.act [4] I I I (AX.ap 4 I n (fun b => (AP.one 3 I (fun d => (AP.one 2 I (fun e => (AP.one 4 I (fun f => (AP.p I (Yp.buildP (l := [.v c, .v a, .v b]) Tryz.bld37 (fill_step I I (cells_v d) I (fill_step I I (cells_v e) I (fill_step I I (cells_v f) I (fill_nil))))) I (AP.act [1] I I I (AX.st 1 0 0 [[.v c, .v a, .v b]] I (AP.ofAO (AO.nil ?_)))))))))))))))))))
 exact lg ⟨(g, i, k), c, a, b, h, I, I⟩ [1, 3, 2, 4]
 refine AP.act [] I I I (AX.buildSlice (sz := 1) (es := ([] : List Bool).map rB) I I I I I I I I I I I dS (fun t => (AP.act [2] I I I (AX.ap 2 I j (fun a => (AP.act [4] I I I (AX.ap 4 I n (fun b => (AP.one 3 I (fun d => (AP.one 2 I (fun e => (AP.one 4 I (fun f => (AP.p I (Yp.buildP (l := [.v c, .v a, .v b]) Tryz.bld37 (fill_step I I (cells_v d) I (fill_step I I (cells_v e) I (fill_step I I (cells_v f) I (fill_nil))))) I (AP.act [1] I I I (AX.st 1 0 0 [[.v c, .v a, .v b]] I (AP.ofAO (AO.nil ?_)))))))))))))))))))
 exact lg ⟨(g, i, k), c, a, b, h, I, I⟩ [1, 3, 2, 4]
 refine AP.act [] I I I (AX.buildSlice (sz := 1) (es := ([] : List Bool).map rB) I I I I I I I I I I I dS (fun t => (AP.act [3] I I I (AX.ap 3 I q (fun c => (AP.act [2] I I I (AX.ap 2 I j (fun a => (AP.act [4] I I I (AX.ap 4 I n (fun b => (AP.one 3 I (fun d => (AP.one 2 I (fun e => (AP.one 4 I (fun f => (AP.p I (Yp.buildP (l := [.v c, .v a, .v b]) Tryz.bld37 (fill_step I I (cells_v d) I (fill_step I I (cells_v e) I (fill_step I I (cells_v f) I (fill_nil))))) I (AP.act [1] I I I (AX.st 1 0 0 [[.v c, .v a, .v b]] I (AP.ofAO (AO.nil ?_))))))))))))))))))))))
 exact lg ⟨(g, i, k), c, a, b, h, I, I⟩ [1, 3, 2, 4]
 refine AP.act [] I I I (AX.buildSlice (sz := 1) (es := ([] : List Bool).map rB) I I I I I I I I I I I dS (fun t => (AP.act [] I I I (AX.buildSlice (sz := 1) (es := ([] : List Int).map rI) I I I I I I I I I I I dS (fun B => (AP.act [4] I I I (AX.ap 4 I q (fun c => (AP.act [2] I I I (AX.ap 2 I j (fun a => (AP.act [3] I I I (AX.ap 3 I n (fun b => (AP.one 4 I (fun d => (AP.one 2 I (fun e => (AP.one 3 I (fun f => (AP.p I (Yp.buildP (l := [.v c, .v a, .v b]) Tryz.bld37 (fill_step I I (cells_v d) I (fill_step I I (cells_v e) I (fill_step I I (cells_v f) I (fill_nil))))) I (AP.act [1] I I I (AX.st 1 0 0 [[.v c, .v a, .v b]] I (AP.ofAO (AO.nil ?_)))))))))))))))))))))))))
 exact lg ⟨(g, i, k), c, a, b, h, I, I⟩ [1, 4, 2, 3]
 refine AP.act [] I I I (AX.buildSlice (sz := 1) (es := ([] : List Bool).map rB) I I I I I I I I I I I dS (fun t => (AP.two ?_ ?_)))
 refine AP.act [] I I I (AX.buildSlice (sz := 1) (es := ([] : List Int).map rI) I I I I I I I I I I I dS (fun B => (AP.two ?_ ?_)))
 refine AP.act [3] I I I (AX.ap 3 I q (fun c => (AP.act [] I I I (AX.buildSlice (sz := 1) (es := ([] : List Int).map rI) I I I I I I I I I I I dS (fun w => (AP.act [4] I I I (AX.ap 4 I j (fun a => (AP.act [2] I I I (AX.ap 2 I n (fun b => (AP.one 3 I (fun d => (AP.one 4 I (fun e => (AP.one 2 I (fun f => (AP.p I (Yp.buildP (l := [.v c, .v a, .v b]) Tryz.bld37 (fill_step I I (cells_v d) I (fill_step I I (cells_v e) I (fill_step I I (cells_v f) I (fill_nil))))) I (AP.act [1] I I I (AX.st 1 0 0 [[.v c, .v a, .v b]] I (AP.ofAO (AO.nil ?_))))))))))))))))))))))
 exact lg ⟨(g, i, k), c, a, b, h, I, I⟩ [1, 3, 4, 2]
 refine AP.act [] I I I (AX.buildSlice (sz := 1) (es := ([] : List Int).map rI) I I I I I I I I I I I dS (fun w => (AP.act [3] I I I (AX.ap 3 I q (fun c => (AP.act [4] I I I (AX.ap 4 I j (fun a => (AP.act [2] I I I (AX.ap 2 I n (fun b => (AP.one 3 I (fun d => (AP.one 4 I (fun e => (AP.one 2 I (fun f => (AP.p I (Yp.buildP (l := [.v c, .v a, .v b]) Tryz.bld37 (fill_step I I (cells_v d) I (fill_step I I (cells_v e) I (fill_step I I (cells_v f) I (fill_nil))))) I (AP.act [1] I I I (AX.st 1 0 0 [[.v c, .v a, .v b]] I (AP.ofAO (AO.nil ?_))))))))))))))))))))))
 exact lg ⟨(g, i, k), c, a, b, h, I, I⟩ [1, 3, 4, 2]
 refine AP.act [] I I I (AX.buildSlice (sz := 1) (es := ([] : List Int).map rI) I I I I I I I I I I I dS (fun w => (AP.act [] I I I (AX.buildSlice (sz := 1) (es := ([] : List Int).map rI) I I I I I I I I I I I dS (fun B => (AP.act [4] I I I (AX.ap 4 I q (fun c => (AP.act [3] I I I (AX.ap 3 I j (fun a => (AP.act [2] I I I (AX.ap 2 I n (fun b => (AP.one 4 I (fun d => (AP.one 3 I (fun e => (AP.one 2 I (fun f => (AP.p I (Yp.buildP (l := [.v c, .v a, .v b]) Tryz.bld37 (fill_step I I (cells_v d) I (fill_step I I (cells_v e) I (fill_step I I (cells_v f) I (fill_nil))))) I (AP.act [1] I I I (AX.st 1 0 0 [[.v c, .v a, .v b]] I (AP.ofAO (AO.nil ?_)))))))))))))))))))))))))
 exact lg ⟨(g, i, k), c, a, b, h, I, I⟩ [1, 4, 3, 2]
 rintro s ob ⟨u, y, z, A, h, rfl, rfl⟩
 unfold L.zbxx.J1 at h
 refine AW.gp [1, 2, 3, 0] I ?_
 obtain rfl := oi h
 exact AW.ret ⟨.inr I, [_], [.us y 3 1 (u.1.map rI), .us z 3 1 (u.2.1.map rI), .us A 4 1 (u.2.2.map rB)], ⟨⟨3, _, _, _, _, _, _, _, I, I, I, I, I⟩, J⟩, sl_c I (sl_c I (sl_c I (sl_n))), ⟨y, z, A, I, I⟩⟩
theorem L.zryh_own (a : Desk) (r : Desk) (h : L.zryh a = some r) : ACalls Tryz.env 42 [.agg (Desk.row a)] [] (fun x new => ∃ (g : Value) (i : Value) (j : Value) (k : Value), x = .agg [.v g, .v i, .v j, .v k] ∧ new = [.us g 74 4 (r.Valves.map Valve.row), .us i 3 1 (r.Plan.Rates.map rI), .us j 3 1 (r.Plan.Ports.map rI), .us k 4 1 (r.Plan.Pumps.map rB)]) := by
 refine ACalls.of_body Tryz.func42 rfl rfl rfl (fun C hC => ?_)
 unfold L.zryh at h
 refine AW.seq (AW.region (AO.act [] I (AX.box (cs := Desk.row a) (m := 4) I I I dS (fun u => (AO.act [] I (AX.alloc (cs := [.N, .N, .N, .N]) (m := 4) I I I I I dS (fun w => (AO.nil (AW.seq ?_)))))))))
 obtain ⟨n, q, h⟩ := ob_some h
 obtain ⟨f, s, h⟩ := ob_some h
 refine AW.rd (.still 1 (.still 2 (.still 4 (.still 5 (.act 0 (.act 3 (.act 6 (.still 7 (.act 8 .nil))))))))) [0] [_] I (AP.r 3 [.o 1 0] I ⟨I, J⟩ (AP.o I (Yd.loadO 0 0 1 I I I I I (y := .agg (Plan.row a.Plan)) I) I (AP.act [] I I I (AX.buildSlice (sz := 4) (es := ([] : List Valve).map Valve.row) I I I I I I I I I I I dS (fun z => (AP.act [2] I I I (AX.ap 2 I q (fun b => (AP.act [] I I I (AX.callN I (.refl _) I I (.rest _) I (L.zbxx_own _ _ s) dS (by rintro _ _ ⟨_, _, _, rfl, rfl⟩; exact ⟨rfl, by intro p hp; simp only [List.mem_cons, List.not_mem_nil, or_false] at hp; rcases hp with rfl | rfl | rfl <;> exact flat_map fun _ => rfl⟩) ?_))))))))))
 rintro _ _ ⟨c, d, e, rfl, rfl⟩
 refine AP.one 2 I (fun t => (AP.p I (Yp.buildP (l := [.v b, .v c, .v d, .v e]) Tryz.bld39 (fill_step I I (cells_v t) I (fill_step I I I I (fill_nil)))) I (AP.act [1] I I I (AX.st 1 0 0 [[.v b, .v c, .v d, .v e]] I (AP.ofAO (AO.nil (AW.gp [2, 3, 4, 5, 1] I ?_)))))))
 obtain rfl := oi h
 exact AW.ret ⟨.inr I, [_], [.us b 74 4 (n.map Valve.row), .us c 3 1 (f.Rates.map rI), .us d 3 1 (f.Ports.map rI), .us e 4 1 (f.Pumps.map rB)], ⟨⟨4, _, _, _, _, _, _, _, I, I, I, I, I⟩, J⟩, sl_c I (sl_c I (sl_c I (sl_c I (sl_n)))), ⟨b, c, d, e, I, I⟩⟩
theorem L.zcvf_ok (w : Network) (R : Int) (r : Desk × Int) (h : L.zcvf w R = some r) : ACalls Tryz.env 37 [.agg (Network.row w), .V R] [] (fun x new => x = .tup [.agg (Desk.row r.1), .V r.2] ∧ new = []) := by
 refine ACalls.of_body Tryz.func37 rfl rfl rfl (fun C hC => ?_)
 unfold L.zcvf at h
 refine AW.seqG (fun y1 ad => (AW.region (AO.act [] I (AX.box (cs := Network.row w) (m := 6) I I I dS (fun Z => (AO.act [] I (AX.alloc (cs := [.N, .N, .N, .N]) (m := 4) I I I I I dS (fun S => (AO.q 1 I (AO.nil ?_))))))))))
 subst ad
 refine AW.seqG (fun y4 ae => (AW.seq ?_))
 obtain ⟨r5, af, h⟩ := ob_some h
 refine AW.region (AO.r 1 [.o 0 0] I ⟨I, J⟩ (AO.c (L.zgcl_ok _ _ af) (AO.q 1 I (AO.nil (AW.z I (AW.ch h I ?_ ?_))))))
 intro ag h
 refine AW.seq (AW.region (AO.p (Yp.buildP (l := [.N, .N, .N, .N]) Tryz.bld39 I) I (AO.q 1 I (AO.act [1] I (AX.st 1 0 0 [[.N, .N, .N, .N]] I (AO.q 1 I (AO.nil (AW.ghost (Ghost.freeze [] (K := []) I [] J (ob' := [.arr Z 32 6 1 [Network.row w], .arr S 39 4 1 [[.list 4 ([].map Valve.row), .list 1 ([].map rI), .list 1 ([].map rI), .list 1 ([].map rB)]]]) (.cons (.same _) (.cons (.arr (.cons (.nil _) (.cons (.nil _) (.cons (.nil _) (.cons (.nil _) (.rest _)))))) (.rest _)))) (AW.gp [1] I ?_)))))))))
 obtain rfl := oi h
 exact AW.ret ⟨.inr I, [_, _], [], ⟨⟨0, _, _, _, _, _, _, _, I, I, I, I, I⟩, I, J⟩, sl_n, I, I⟩
 intro ag h
 refine AW.skip ?_
 subst ae
 refine AW.seqG (fun y8 ah => (AW.jb 20 (decide (R < 1) || decide (R > 60)) ?_ ?_))
 refine AW.region (AO.q 3 I ?_)
 rcases bt (decide (R < 1)) with X | X
 refine AO.known 17 I X (AO.q 3 I (AO.nil ?_))
 exact jf (by simp only [X, bz]) I I ⟨I, I⟩
 refine AO.known 17 I X (AO.q 3 I (AO.nil ?_))
 exact jf (by simp only [X, bz]) I I ⟨I, I⟩
 refine AW.ch h I ?_ ?_
 intro ai h
 refine AW.seq (AW.region (AO.p (Yp.buildP (l := [.N, .N, .N, .N]) Tryz.bld39 I) I (AO.act [1] I (AX.st 1 0 0 [[.N, .N, .N, .N]] I (AO.q 1 I (AO.nil (AW.ghost (Ghost.freeze [] (K := []) I [] J (ob' := [.arr Z 32 6 1 [Network.row w], .arr S 39 4 1 [[.list 4 ([].map Valve.row), .list 1 ([].map rI), .list 1 ([].map rI), .list 1 ([].map rB)]]]) (.cons (.same _) (.cons (.arr (.cons (.nil _) (.cons (.nil _) (.cons (.nil _) (.cons (.nil _) (.rest _)))))) (.rest _)))) (AW.gp [1] I ?_))))))))
 obtain rfl := oi h
 exact AW.ret ⟨.inr I, [_, _], [], ⟨⟨0, _, _, _, _, _, _, _, I, I, I, I, I⟩, I, J⟩, sl_n, I, I⟩
 intro ai h
 refine AW.skip ?_
 subst ah
 refine AW.cutX (fun s ob => ∃ (u : (List Int) × (List Int) × (List Bool)) (U : Nat) (y : Value) (A : Value) (B : Value), L.zcvf.J1 w R u = some r ∧ s = [(7, .v (.pointer (some ⟨U, 0, none⟩)))] ∧ ob = [.arr Z 32 6 1 [Network.row w], .arr S 39 4 1 [[.N, .N, .N, .N]], .us y 3 1 (u.1.map rI), .us A 3 1 (u.2.1.map rI), .us B 4 1 (u.2.2.map rB), .arr U 39 4 1 [[.N, .v y, .v A, .v B]]]) [(1, _), (2, _), (4, _)] ⟨I, I, I, J⟩ ?_ ?_
 obtain ⟨k, ⟨ax, D, E, F⟩, h⟩ := ob_mk h
 obtain ⟨n, ⟨ay, G, H, M⟩, h⟩ := ob_mk h
 obtain ⟨t, ⟨az, O, P, Q⟩, h⟩ := ob_mk h
 refine AW.rd (.still 0 (.still 1 (.still 2 (.still 4 (.still 5 (.still 6 (.still 8 (.still 9 (.still 10 (.four 3 7 11 14 (.three 7 11 14 (.two 11 14 (.still 12 (.still 13 (.act 14 (.act 15 .nil)))) (.act 11 (.still 12 (.still 13 (.act 15 .nil))))) (.two 7 14 (.still 12 (.still 13 (.act 14 (.act 15 .nil)))) (.act 7 (.still 12 (.still 13 (.act 15 .nil))))) (.par [(7, []), (11, [])] (.still 12 (.still 13 (.act 15 .nil))))) (.three 3 11 14 (.two 11 14 (.still 12 (.still 13 (.act 14 (.act 15 .nil)))) (.act 11 (.still 12 (.still 13 (.act 15 .nil))))) (.two 3 14 (.still 12 (.still 13 (.act 14 (.act 15 .nil)))) (.act 3 (.still 12 (.still 13 (.act 15 .nil))))) (.par [(3, []), (11, [])] (.still 12 (.still 13 (.act 15 .nil))))) (.three 3 7 14 (.two 7 14 (.still 12 (.still 13 (.act 14 (.act 15 .nil)))) (.act 7 (.still 12 (.still 13 (.act 15 .nil))))) (.two 3 14 (.still 12 (.still 13 (.act 14 (.act 15 .nil)))) (.act 3 (.still 12 (.still 13 (.act 15 .nil))))) (.par [(3, []), (7, [])] (.still 12 (.still 13 (.act 15 .nil))))) (.par [(3, []), (7, []), (11, [])] (.still 12 (.still 13 (.act 15 .nil)))))))))))))) [0] [_] I (AP.r 9 [.o 1 0, .l 2 (w.Segments.length : Int), .o 4 0, .l 5 (w.Ports.length : Int), .o 7 0, .l 8 (w.Stations.length : Int)] I ⟨len_m, I, len_m, I, len_m, I, J⟩ (AP.four ?_ ?_ ?_ ?_))
 refine AP.act [] I I I (AX.makeU (sz := 1) I I I I I I I I I I D E (rep_map (f := rI) F I) dS (fun a => (AP.three ?_ ?_ ?_)))
 refine AP.act [] I I I (AX.makeU (sz := 1) I I I I I I I I I I G H (rep_map (f := rI) M I) dS (fun b => (AP.two ?_ ?_)))
 refine AP.act [] I I I (AX.makeU (sz := 1) I I I I I I I I I I O P (rep_map (f := rB) Q I) dS (fun d => (AP.one 2 I (fun e => (AP.one 3 I (fun g => (AP.one 4 I (fun i => (AP.p I (Yp.buildP (l := [.v a, .v b, .v d]) Tryz.bld37 (fill_step I I (cells_v e) I (fill_step I I (cells_v g) I (fill_step I I (cells_v i) I (fill_nil))))) I (AP.p I (Yp.buildP (l := [.N, .v a, .v b, .v d]) Tryz.bld39 I) I (AP.act [] I I I (AX.alloc (cs := [.N, .N, .N, .N]) (m := 4) I I I I I dS (fun j => (AP.act [5] I I I (AX.st 5 0 0 [[.N, .v a, .v b, .v d]] I (AP.ofAO (AO.nil ?_)))))))))))))))))
 exact lg ⟨(k, n, t), j, a, b, d, h, I, I⟩ [0, 1, 2, 3, 4, 5]
 refine AP.act [] I I I (AX.alloc (cs := [.N, .N, .N, .N]) (m := 4) I I I I I dS (fun j => (AP.act [] I I I (AX.makeU (sz := 1) I I I I I I I I I I O P (rep_map (f := rB) Q I) dS (fun d => (AP.one 2 I (fun e => (AP.one 3 I (fun g => (AP.one 5 I (fun i => (AP.p I (Yp.buildP (l := [.v a, .v b, .v d]) Tryz.bld37 (fill_step I I (cells_v e) I (fill_step I I (cells_v g) I (fill_step I I (cells_v i) I (fill_nil))))) I (AP.p I (Yp.buildP (l := [.N, .v a, .v b, .v d]) Tryz.bld39 I) I (AP.act [4] I I I (AX.st 4 0 0 [[.N, .v a, .v b, .v d]] I (AP.ofAO (AO.nil ?_)))))))))))))))))
 exact lg ⟨(k, n, t), j, a, b, d, h, I, I⟩ [0, 1, 2, 3, 5, 4]
 refine AP.act [] I I I (AX.makeU (sz := 1) I I I I I I I I I I O P (rep_map (f := rB) Q I) dS (fun d => (AP.two ?_ ?_)))
 refine AP.act [] I I I (AX.makeU (sz := 1) I I I I I I I I I I G H (rep_map (f := rI) M I) dS (fun b => (AP.one 2 I (fun e => (AP.one 4 I (fun g => (AP.one 3 I (fun i => (AP.p I (Yp.buildP (l := [.v a, .v b, .v d]) Tryz.bld37 (fill_step I I (cells_v e) I (fill_step I I (cells_v g) I (fill_step I I (cells_v i) I (fill_nil))))) I (AP.p I (Yp.buildP (l := [.N, .v a, .v b, .v d]) Tryz.bld39 I) I (AP.act [] I I I (AX.alloc (cs := [.N, .N, .N, .N]) (m := 4) I I I I I dS (fun j => (AP.act [5] I I I (AX.st 5 0 0 [[.N, .v a, .v b, .v d]] I (AP.ofAO (AO.nil ?_)))))))))))))))))
 exact lg ⟨(k, n, t), j, a, b, d, h, I, I⟩ [0, 1, 2, 4, 3, 5]
 refine AP.act [] I I I (AX.alloc (cs := [.N, .N, .N, .N]) (m := 4) I I I I I dS (fun j => (AP.act [] I I I (AX.makeU (sz := 1) I I I I I I I I I I G H (rep_map (f := rI) M I) dS (fun b => (AP.one 2 I (fun e => (AP.one 5 I (fun g => (AP.one 3 I (fun i => (AP.p I (Yp.buildP (l := [.v a, .v b, .v d]) Tryz.bld37 (fill_step I I (cells_v e) I (fill_step I I (cells_v g) I (fill_step I I (cells_v i) I (fill_nil))))) I (AP.p I (Yp.buildP (l := [.N, .v a, .v b, .v d]) Tryz.bld39 I) I (AP.act [4] I I I (AX.st 4 0 0 [[.N, .v a, .v b, .v d]] I (AP.ofAO (AO.nil ?_)))))))))))))))))
 exact lg ⟨(k, n, t), j, a, b, d, h, I, I⟩ [0, 1, 2, 5, 3, 4]
 refine AP.act [] I I I (AX.alloc (cs := [.N, .N, .N, .N]) (m := 4) I I I I I dS (fun j => (AP.any [⟨7, [], 29, .us 3 1 (n.map rI)⟩, ⟨11, [], 33, .us 4 1 (t.map rB)⟩] I ⟨⟨_, I, I, I, fun _ => AX.makeU (sz := 1) I I I I I I I I I I G H (rep_map (f := rI) M I) dS (fun v => ⟨_, I, ⟨v, I⟩, I⟩)⟩, ⟨_, I, I, I, fun _ => AX.makeU (sz := 1) I I I I I I I I I I O P (rep_map (f := rB) Q I) dS (fun v => ⟨_, I, ⟨v, I⟩, I⟩)⟩, J⟩ ?_)))
 intro b g d i
 refine AP.one 2 I (fun e => (AP.one 4 I (fun g => (AP.one 5 I (fun i => (AP.p I (Yp.buildP (l := [.v a, .v b, .v d]) Tryz.bld37 (fill_step I I (cells_v e) I (fill_step I I (cells_v g) I (fill_step I I (cells_v i) I (fill_nil))))) I (AP.p I (Yp.buildP (l := [.N, .v a, .v b, .v d]) Tryz.bld39 I) I (AP.act [3] I I I (AX.st 3 0 0 [[.N, .v a, .v b, .v d]] I (AP.ofAO (AO.nil ?_)))))))))))
 exact lg ⟨(k, n, t), j, a, b, d, h, I, I⟩ [0, 1, 2, 4, 5, 3]
 refine AP.act [] I I I (AX.makeU (sz := 1) I I I I I I I I I I G H (rep_map (f := rI) M I) dS (fun b => (AP.three ?_ ?_ ?_)))
 refine AP.act [] I I I (AX.makeU (sz := 1) I I I I I I I I I I D E (rep_map (f := rI) F I) dS (fun a => (AP.two ?_ ?_)))
 refine AP.act [] I I I (AX.makeU (sz := 1) I I I I I I I I I I O P (rep_map (f := rB) Q I) dS (fun d => (AP.one 3 I (fun e => (AP.one 2 I (fun g => (AP.one 4 I (fun i => (AP.p I (Yp.buildP (l := [.v a, .v b, .v d]) Tryz.bld37 (fill_step I I (cells_v e) I (fill_step I I (cells_v g) I (fill_step I I (cells_v i) I (fill_nil))))) I (AP.p I (Yp.buildP (l := [.N, .v a, .v b, .v d]) Tryz.bld39 I) I (AP.act [] I I I (AX.alloc (cs := [.N, .N, .N, .N]) (m := 4) I I I I I dS (fun j => (AP.act [5] I I I (AX.st 5 0 0 [[.N, .v a, .v b, .v d]] I (AP.ofAO (AO.nil ?_)))))))))))))))))
 exact lg ⟨(k, n, t), j, a, b, d, h, I, I⟩ [0, 1, 3, 2, 4, 5]
 refine AP.act [] I I I (AX.alloc (cs := [.N, .N, .N, .N]) (m := 4) I I I I I dS (fun j => (AP.act [] I I I (AX.makeU (sz := 1) I I I I I I I I I I O P (rep_map (f := rB) Q I) dS (fun d => (AP.one 3 I (fun e => (AP.one 2 I (fun g => (AP.one 5 I (fun i => (AP.p I (Yp.buildP (l := [.v a, .v b, .v d]) Tryz.bld37 (fill_step I I (cells_v e) I (fill_step I I (cells_v g) I (fill_step I I (cells_v i) I (fill_nil))))) I (AP.p I (Yp.buildP (l := [.N, .v a, .v b, .v d]) Tryz.bld39 I) I (AP.act [4] I I I (AX.st 4 0 0 [[.N, .v a, .v b, .v d]] I (AP.ofAO (AO.nil ?_)))))))))))))))))
 exact lg ⟨(k, n, t), j, a, b, d, h, I, I⟩ [0, 1, 3, 2, 5, 4]
 refine AP.act [] I I I (AX.makeU (sz := 1) I I I I I I I I I I O P (rep_map (f := rB) Q I) dS (fun d => (AP.two ?_ ?_)))
 refine AP.act [] I I I (AX.makeU (sz := 1) I I I I I I I I I I D E (rep_map (f := rI) F I) dS (fun a => (AP.one 4 I (fun e => (AP.one 2 I (fun g => (AP.one 3 I (fun i => (AP.p I (Yp.buildP (l := [.v a, .v b, .v d]) Tryz.bld37 (fill_step I I (cells_v e) I (fill_step I I (cells_v g) I (fill_step I I (cells_v i) I (fill_nil))))) I (AP.p I (Yp.buildP (l := [.N, .v a, .v b, .v d]) Tryz.bld39 I) I (AP.act [] I I I (AX.alloc (cs := [.N, .N, .N, .N]) (m := 4) I I I I I dS (fun j => (AP.act [5] I I I (AX.st 5 0 0 [[.N, .v a, .v b, .v d]] I (AP.ofAO (AO.nil ?_)))))))))))))))))
 exact lg ⟨(k, n, t), j, a, b, d, h, I, I⟩ [0, 1, 4, 2, 3, 5]
 refine AP.act [] I I I (AX.alloc (cs := [.N, .N, .N, .N]) (m := 4) I I I I I dS (fun j => (AP.act [] I I I (AX.makeU (sz := 1) I I I I I I I I I I D E (rep_map (f := rI) F I) dS (fun a => (AP.one 5 I (fun e => (AP.one 2 I (fun g => (AP.one 3 I (fun i => (AP.p I (Yp.buildP (l := [.v a, .v b, .v d]) Tryz.bld37 (fill_step I I (cells_v e) I (fill_step I I (cells_v g) I (fill_step I I (cells_v i) I (fill_nil))))) I (AP.p I (Yp.buildP (l := [.N, .v a, .v b, .v d]) Tryz.bld39 I) I (AP.act [4] I I I (AX.st 4 0 0 [[.N, .v a, .v b, .v d]] I (AP.ofAO (AO.nil ?_)))))))))))))))))
 exact lg ⟨(k, n, t), j, a, b, d, h, I, I⟩ [0, 1, 5, 2, 3, 4]
 refine AP.act [] I I I (AX.alloc (cs := [.N, .N, .N, .N]) (m := 4) I I I I I dS (fun j => (AP.any [⟨3, [], 25, .us 3 1 (k.map rI)⟩, ⟨11, [], 33, .us 4 1 (t.map rB)⟩] I ⟨⟨_, I, I, I, fun _ => AX.makeU (sz := 1) I I I I I I I I I I D E (rep_map (f := rI) F I) dS (fun v => ⟨_, I, ⟨v, I⟩, I⟩)⟩, ⟨_, I, I, I, fun _ => AX.makeU (sz := 1) I I I I I I I I I I O P (rep_map (f := rB) Q I) dS (fun v => ⟨_, I, ⟨v, I⟩, I⟩)⟩, J⟩ ?_)))
 intro a e d i
 refine AP.one 4 I (fun e => (AP.one 2 I (fun g => (AP.one 5 I (fun i => (AP.p I (Yp.buildP (l := [.v a, .v b, .v d]) Tryz.bld37 (fill_step I I (cells_v e) I (fill_step I I (cells_v g) I (fill_step I I (cells_v i) I (fill_nil))))) I (AP.p I (Yp.buildP (l := [.N, .v a, .v b, .v d]) Tryz.bld39 I) I (AP.act [3] I I I (AX.st 3 0 0 [[.N, .v a, .v b, .v d]] I (AP.ofAO (AO.nil ?_)))))))))))
 exact lg ⟨(k, n, t), j, a, b, d, h, I, I⟩ [0, 1, 4, 2, 5, 3]
 refine AP.act [] I I I (AX.makeU (sz := 1) I I I I I I I I I I O P (rep_map (f := rB) Q I) dS (fun d => (AP.three ?_ ?_ ?_)))
 refine AP.act [] I I I (AX.makeU (sz := 1) I I I I I I I I I I D E (rep_map (f := rI) F I) dS (fun a => (AP.two ?_ ?_)))
 refine AP.act [] I I I (AX.makeU (sz := 1) I I I I I I I I I I G H (rep_map (f := rI) M I) dS (fun b => (AP.one 3 I (fun e => (AP.one 4 I (fun g => (AP.one 2 I (fun i => (AP.p I (Yp.buildP (l := [.v a, .v b, .v d]) Tryz.bld37 (fill_step I I (cells_v e) I (fill_step I I (cells_v g) I (fill_step I I (cells_v i) I (fill_nil))))) I (AP.p I (Yp.buildP (l := [.N, .v a, .v b, .v d]) Tryz.bld39 I) I (AP.act [] I I I (AX.alloc (cs := [.N, .N, .N, .N]) (m := 4) I I I I I dS (fun j => (AP.act [5] I I I (AX.st 5 0 0 [[.N, .v a, .v b, .v d]] I (AP.ofAO (AO.nil ?_)))))))))))))))))
 exact lg ⟨(k, n, t), j, a, b, d, h, I, I⟩ [0, 1, 3, 4, 2, 5]
 refine AP.act [] I I I (AX.alloc (cs := [.N, .N, .N, .N]) (m := 4) I I I I I dS (fun j => (AP.act [] I I I (AX.makeU (sz := 1) I I I I I I I I I I G H (rep_map (f := rI) M I) dS (fun b => (AP.one 3 I (fun e => (AP.one 5 I (fun g => (AP.one 2 I (fun i => (AP.p I (Yp.buildP (l := [.v a, .v b, .v d]) Tryz.bld37 (fill_step I I (cells_v e) I (fill_step I I (cells_v g) I (fill_step I I (cells_v i) I (fill_nil))))) I (AP.p I (Yp.buildP (l := [.N, .v a, .v b, .v d]) Tryz.bld39 I) I (AP.act [4] I I I (AX.st 4 0 0 [[.N, .v a, .v b, .v d]] I (AP.ofAO (AO.nil ?_)))))))))))))))))
 exact lg ⟨(k, n, t), j, a, b, d, h, I, I⟩ [0, 1, 3, 5, 2, 4]
 refine AP.act [] I I I (AX.makeU (sz := 1) I I I I I I I I I I G H (rep_map (f := rI) M I) dS (fun b => (AP.two ?_ ?_)))
 refine AP.act [] I I I (AX.makeU (sz := 1) I I I I I I I I I I D E (rep_map (f := rI) F I) dS (fun a => (AP.one 4 I (fun e => (AP.one 3 I (fun g => (AP.one 2 I (fun i => (AP.p I (Yp.buildP (l := [.v a, .v b, .v d]) Tryz.bld37 (fill_step I I (cells_v e) I (fill_step I I (cells_v g) I (fill_step I I (cells_v i) I (fill_nil))))) I (AP.p I (Yp.buildP (l := [.N, .v a, .v b, .v d]) Tryz.bld39 I) I (AP.act [] I I I (AX.alloc (cs := [.N, .N, .N, .N]) (m := 4) I I I I I dS (fun j => (AP.act [5] I I I (AX.st 5 0 0 [[.N, .v a, .v b, .v d]] I (AP.ofAO (AO.nil ?_)))))))))))))))))
 exact lg ⟨(k, n, t), j, a, b, d, h, I, I⟩ [0, 1, 4, 3, 2, 5]
 refine AP.act [] I I I (AX.alloc (cs := [.N, .N, .N, .N]) (m := 4) I I I I I dS (fun j => (AP.act [] I I I (AX.makeU (sz := 1) I I I I I I I I I I D E (rep_map (f := rI) F I) dS (fun a => (AP.one 5 I (fun e => (AP.one 3 I (fun g => (AP.one 2 I (fun i => (AP.p I (Yp.buildP (l := [.v a, .v b, .v d]) Tryz.bld37 (fill_step I I (cells_v e) I (fill_step I I (cells_v g) I (fill_step I I (cells_v i) I (fill_nil))))) I (AP.p I (Yp.buildP (l := [.N, .v a, .v b, .v d]) Tryz.bld39 I) I (AP.act [4] I I I (AX.st 4 0 0 [[.N, .v a, .v b, .v d]] I (AP.ofAO (AO.nil ?_)))))))))))))))))
 exact lg ⟨(k, n, t), j, a, b, d, h, I, I⟩ [0, 1, 5, 3, 2, 4]
 refine AP.act [] I I I (AX.alloc (cs := [.N, .N, .N, .N]) (m := 4) I I I I I dS (fun j => (AP.any [⟨3, [], 25, .us 3 1 (k.map rI)⟩, ⟨7, [], 29, .us 3 1 (n.map rI)⟩] I ⟨⟨_, I, I, I, fun _ => AX.makeU (sz := 1) I I I I I I I I I I D E (rep_map (f := rI) F I) dS (fun v => ⟨_, I, ⟨v, I⟩, I⟩)⟩, ⟨_, I, I, I, fun _ => AX.makeU (sz := 1) I I I I I I I I I I G H (rep_map (f := rI) M I) dS (fun v => ⟨_, I, ⟨v, I⟩, I⟩)⟩, J⟩ ?_)))
 intro a e b g
 refine AP.one 4 I (fun e => (AP.one 5 I (fun g => (AP.one 2 I (fun i => (AP.p I (Yp.buildP (l := [.v a, .v b, .v d]) Tryz.bld37 (fill_step I I (cells_v e) I (fill_step I I (cells_v g) I (fill_step I I (cells_v i) I (fill_nil))))) I (AP.p I (Yp.buildP (l := [.N, .v a, .v b, .v d]) Tryz.bld39 I) I (AP.act [3] I I I (AX.st 3 0 0 [[.N, .v a, .v b, .v d]] I (AP.ofAO (AO.nil ?_)))))))))))
 exact lg ⟨(k, n, t), j, a, b, d, h, I, I⟩ [0, 1, 4, 5, 2, 3]
 refine AP.act [] I I I (AX.alloc (cs := [.N, .N, .N, .N]) (m := 4) I I I I I dS (fun j => (AP.any [⟨3, [], 25, .us 3 1 (k.map rI)⟩, ⟨7, [], 29, .us 3 1 (n.map rI)⟩, ⟨11, [], 33, .us 4 1 (t.map rB)⟩] I ⟨⟨_, I, I, I, fun _ => AX.makeU (sz := 1) I I I I I I I I I I D E (rep_map (f := rI) F I) dS (fun v => ⟨_, I, ⟨v, I⟩, I⟩)⟩, ⟨_, I, I, I, fun _ => AX.makeU (sz := 1) I I I I I I I I I I G H (rep_map (f := rI) M I) dS (fun v => ⟨_, I, ⟨v, I⟩, I⟩)⟩, ⟨_, I, I, I, fun _ => AX.makeU (sz := 1) I I I I I I I I I I O P (rep_map (f := rB) Q I) dS (fun v => ⟨_, I, ⟨v, I⟩, I⟩)⟩, J⟩ ?_)))
 intro a e b g d i
 refine AP.one 3 I (fun e => (AP.one 4 I (fun g => (AP.one 5 I (fun i => (AP.p I (Yp.buildP (l := [.v a, .v b, .v d]) Tryz.bld37 (fill_step I I (cells_v e) I (fill_step I I (cells_v g) I (fill_step I I (cells_v i) I (fill_nil))))) I (AP.p I (Yp.buildP (l := [.N, .v a, .v b, .v d]) Tryz.bld39 I) I (AP.act [2] I I I (AX.st 2 0 0 [[.N, .v a, .v b, .v d]] I (AP.ofAO (AO.nil ?_)))))))))))
 exact lg ⟨(k, n, t), j, a, b, d, h, I, I⟩ [0, 1, 3, 4, 5, 2]
 rintro s ob ⟨u, U, y, A, B, h, rfl, rfl⟩
 unfold L.zcvf.J1 at h
 refine AW.cutX (fun s ob => ∃ (Y : List Valve) (W : Value), L.zcvf.J2 u Y = some r ∧ s = [] ∧ ob = [.arr S 39 4 1 [[.N, .N, .N, .N]], .us y 3 1 (u.1.map rI), .us A 3 1 (u.2.1.map rI), .us B 4 1 (u.2.2.map rB), .arr U 39 4 1 [[.v W, .v y, .v A, .v B]], .us W 74 4 (Y.map Valve.row)]) [(4, _), (7, _)] ⟨I, I, J⟩ ?_ ?_
 refine AW.z I (AW.block (AW.ghost (Ghost.nilU 74 4) ?_))
 obtain ⟨a0, aj, ak⟩ := ob_some h
 clear h
 refine AW.loopX aj [(1, _), (2, _), (4, _), (7, _)] ⟨I, I, I, I, J⟩ (fun (aa : (List Valve) × Int) s ob => ∃ (ab : Value), s = [(8, .V aa.2)] ∧ ob = [.arr Z 32 6 1 [Network.row w], .arr S 39 4 1 [[.N, .N, .N, .N]], .us y 3 1 (u.1.map rI), .us A 3 1 (u.2.1.map rI), .us B 4 1 (u.2.2.map rB), .arr U 39 4 1 [[.v ab, .v y, .v A, .v B]], .us ab 74 4 (aa.1.map Valve.row)]) ⟨(.slice none 0 0), I, I⟩ ⟨I, J⟩ ⟨[0, 1, 2, 3, 4, 5, 6], I, by decide⟩ ?_
 rintro aa a1 s ob ⟨ab, rfl, rfl⟩ h al
 unfold L.zcvf.B3 at h
 refine AW.seqG (fun a2 am => (AW.seq (AW.region (AO.r 2 [.o 1 0] I ⟨I, J⟩ (AO.c (L.zazn_ok w _ I) (AO.q 1 I (AO.nil (AW.ch h I ?_ ?_))))))))
 intro an h
 refine AW.skip ?_
 subst am
 refine AW.seq (AW.block ?_)
 obtain ⟨a3, ao, h⟩ := ob_some h
 refine AW.region (AO.r 3 [.o 1 5] I ⟨I, J⟩ (AO.p (Yp.buildP (l := [.V R, .V 0, .v (.bool false), .v (.bool false)]) Tryz.bld74 I) I (AO.act [] I (AX.lt 4 (([(⟨R, 0, false, false⟩ : Valve)] : List Valve).map Valve.row) (AO.act [6] I (AX.ap 6 I ao (fun ac => (AO.q 1 I (AO.one 6 I (fun aq => (AO.act [5] I (AX.store 5 0 0 (es' := [[.v ac, .v y, .v A, .v B]]) I I I I I I (cells_v aq) I (le_ble I) I I (AO.nil (AW.region (AO.q 3 I ?_)))))))))))))))
 obtain rfl := oi h
 refine AO.nil ?_
 exact ⟨_, _, _, I, ⟨ac, I, I⟩, ⟨I, I, I, I, I, J⟩, [0, 1, 2, 3, 4, 5, 6], I, by decide⟩
 intro an h
 obtain rfl := al _ (oi h).symm
 replace h := ak
 refine AW.exit ?_
 exact lg ⟨aa.1, ab, h, I, I⟩ [1, 2, 3, 4, 5, 6]
 rintro s ob ⟨Y, W, h, rfl, rfl⟩
 unfold L.zcvf.J2 at h
 refine AW.seq (AW.region (AO.r 1 [.o 0 4] I ⟨I, J⟩ (AO.act [0] I (AX.st 0 0 0 [[.v W, .v y, .v A, .v B]] I (AO.q 1 I (AO.nil (AW.ghost (Ghost.freeze [1, 2, 3, 5] (K := [.us y 3 1 (u.1.map rI), .us A 3 1 (u.2.1.map rI), .us B 4 1 (u.2.2.map rB), .us W 74 4 (Y.map Valve.row)]) I [] J (ob' := [.arr S 39 4 1 [[.list 4 (Y.map Valve.row), .list 1 (u.1.map rI), .list 1 (u.2.1.map rI), .list 1 (u.2.2.map rB)]], .arr U 39 4 1 [[.v W, .v y, .v A, .v B]]]) (.cons (.arr (.cons (.us 3 I) (.cons (.us 0 I) (.cons (.us 1 I) (.cons (.us 2 I) (.rest _)))))) (.rest _))) (AW.gp [0] I ?_))))))))
 obtain rfl := oi h
 exact AW.ret ⟨.inr I, [_, _], [], ⟨⟨0, _, _, _, _, _, _, _, I, I, I, I, I⟩, I, J⟩, sl_n, I, I⟩
end Go.Proofs.YtmaamhgjeampmaaGreat
