/- Walks that show what functions of the program compute; printed by a program of ours. No condition. -/
import Derived.Test.YtaliejncdnegeaaGreatZvL4
set_option maxRecDepth 100000
namespace Go.Proofs.YtaliejncdnegeaaGreat
open Go.Aw
set_option linter.unusedVariables false
set_option linter.unusedSimpArgs false
set_option maxHeartbeats 4000000
theorem L.zhea_ok (a : Int) (r : Int) (h : L.zhea a = r) : ACalls Tryz.env 49 [.V a] [] (fun x new => x = .V r ∧ new = []) := by
 refine ACalls.of_body Tryz.func49 rfl rfl rfl (fun C hC => ?_)
 unfold L.zhea at h
 refine AW.z I (AW.z I ?_)
 obtain rfl := h
 exact AW.ret pr
theorem L.znbg_ok (a : Plan) (r : Plan) (h : L.znbg a = some r) : ACalls Tryz.env 50 [.agg (Plan.row a)] [] (fun x new => x = .agg (Plan.row r) ∧ new = []) := by
 refine ACalls.of_body Tryz.func50 rfl rfl rfl (fun C hC => ?_)
 unfold L.znbg at h
 refine AW.seqG (fun y1 O => (AW.region (AO.act [] I (AX.box (cs := Plan.row a) (m := 3) I I I dS (fun B => (AO.act [] I (AX.alloc (cs := [.N, .N, .N]) (m := 3) I I I I I dS (fun g => (AO.nil ?_)))))))))
 subst O
 refine AW.seqG (fun y4 P => ?_)
 obtain ⟨c, Q, h⟩ := ob_some h
 refine AW.region (AO.act [] I (AX.buildSlice (sz := 1) (es := ([] : List Bool).map rB) I I I I I I I I I I I dS (fun v5 => (AO.r 2 [.o 1 0] I ⟨I, J⟩ (AO.act [2] I (AX.ap 2 I Q (fun b => (AO.one 2 I (fun R => (AO.p (Yp.buildP (l := [.N, .N, .v b]) Tryz.bld46 (fill_step I I (cells_v R) I (fill_nil))) I (AO.act [] I (AX.alloc (cs := [.N, .N, .N]) (m := 3) I I I I I dS (fun i => (AO.act [3] I (AX.store 3 0 0 (es' := [[.N, .N, .v b]]) I I I I I I I I (le_ble I) I I (AO.nil ?_))))))))))))))))
 subst P
 refine AW.cutX (fun s ob => ∃ (d : List Int) (e : Value), L.znbg.J1 a c d = some r ∧ s = [] ∧ ob = [.arr B 46 3 1 [Plan.row a], .arr g 46 3 1 [[.N, .N, .N]], .us b 4 1 (c.map rB), .arr i 46 3 1 [[.v e, .N, .v b]], .us e 3 1 (d.map rI)]) [(1, _), (2, _), (3, _)] ⟨I, I, I, J⟩ ?_ ?_
 refine AW.zr [.o 1 0, .l 2 (a.Rates.length : Int)] I ⟨len_m, I, J⟩ (AW.block (AW.listMax 12 I (fun D => ?_)))
 replace D : a.Rates.length ≤ 9223372036854775806 := by rw [List.length_map] at D; omega
 refine AW.ghost (Ghost.nilU 3 1) ?_
 obtain ⟨aq, S, U⟩ := ob_some h
 clear h
 refine AW.forY S [(1, _), (2, _), (3, _), (13, _)] ⟨I, I, I, I, J⟩ (fun (j : Nat) (y : List Int) s ob => ∃ (n : Value), s = [(14, .V (j : Int))] ∧ ob = [.arr B 46 3 1 [Plan.row a], .arr g 46 3 1 [[.N, .N, .N]], .us b 4 1 (c.map rB), .arr i 46 3 1 [[.v n, .N, .v b]], .us n 3 1 (y.map rI)]) ⟨(.slice none 0 0), I, I⟩ ⟨I, J⟩ ⟨[0, 1, 2, 3, 4], I, by decide⟩ ?_ ?_
 rintro j F y ar s ob W X ⟨n, rfl, rfl⟩ h
 unfold L.znbg.B4 at h
 have Y : decide ((j : Int) < (a.Rates.length : Int)) = true := decide_eq_true (by omega)
 refine AW.z I (AW.seqG (fun au Z => (AW.condK (v := true) I Y (AW.skip ?_))))
 subst Z
 refine AW.seq (AW.block (AW.z I ?_))
 obtain ⟨av, aa, h⟩ := ob_some h
 refine AW.rd (.still 0 (.still 1 (.still 2 (.still 3 (.still 4 (.still 5 (.still 6 (.still 7 (.act 8 (.act 9 (.still 10 (.drop 11 .nil)))))))))))) [3, 0] [_, _] I (AP.r 8 [.o 1 0, .o 3 1, .x 5 j (rI F)] I ⟨⟨I, map_get W⟩, I, I, J⟩ (AP.act [] I I I (AX.lt 1 (([wr (0 - F)] : List Int).map rI) (AP.act [4] I I I (AX.ap 4 I aa (fun G => (AP.q 1 I (AP.one 4 I (fun ab => (AP.drop [3] I I I (AX.store 3 0 0 (es' := [[.v G, .N, .v b]]) I I I I I I (cells_v ab) I (le_ble I) I I (AP.ofAO (AO.nil (AW.region (AO.r 2 [.k 0 (j + 1 : Nat)] I ⟨cast_wr X D, J⟩ ?_)))))))))))))))
 obtain rfl := oi h
 refine AO.nil ?_
 exact lg ⟨G, I, I⟩ [0, 1, 2, 3, 4]
 rintro y s ob ⟨n, rfl, rfl⟩ he
 subst he
 have h := U
 have ac : decide (((a.Rates.length : Nat) : Int) < (a.Rates.length : Int)) = false := by simp
 refine AW.z I (AW.seqG (fun aw ax => (AW.condK (v := false) I ac (AW.exit ?_))))
 exact lg ⟨y, n, h, I, I⟩ [0, 1, 2, 3, 4]
 rintro s ob ⟨d, e, h, rfl, rfl⟩
 unfold L.znbg.J1 at h
 refine AW.cutX (fun s ob => ∃ (f : List Int) (t : Value), L.znbg.J2 c d f = some r ∧ s = [] ∧ ob = [.arr g 46 3 1 [[.N, .N, .N]], .us b 4 1 (c.map rB), .arr i 46 3 1 [[.v e, .v t, .v b]], .us e 3 1 (d.map rI), .us t 3 1 (f.map rI)]) [(2, _), (3, _)] ⟨I, I, J⟩ ?_ ?_
 refine AW.zr [.o 1 0, .l 2 (a.Ports.length : Int)] I ⟨len_m, I, J⟩ (AW.block (AW.listMax 30 I (fun E => ?_)))
 replace E : a.Ports.length ≤ 9223372036854775806 := by rw [List.length_map] at E; omega
 refine AW.ghost (Ghost.nilU 3 1) ?_
 obtain ⟨ay, ad, ae⟩ := ob_some h
 clear h
 refine AW.forY ad [(1, _), (2, _), (3, _), (31, _)] ⟨I, I, I, I, J⟩ (fun (u : Nat) (A : List Int) s ob => ∃ (w : Value), s = [(32, .V (u : Int))] ∧ ob = [.arr B 46 3 1 [Plan.row a], .arr g 46 3 1 [[.N, .N, .N]], .us b 4 1 (c.map rB), .arr i 46 3 1 [[.v e, .v w, .v b]], .us e 3 1 (d.map rI), .us w 3 1 (A.map rI)]) ⟨(.slice none 0 0), I, I⟩ ⟨I, J⟩ ⟨[0, 1, 2, 3, 4, 5], I, by decide⟩ ?_ ?_
 rintro u H A az s ob af ag ⟨w, rfl, rfl⟩ h
 unfold L.znbg.B3 at h
 have ah : decide ((u : Int) < (a.Ports.length : Int)) = true := decide_eq_true (by omega)
 refine AW.z I (AW.seqG (fun a0 ai => (AW.condK (v := true) I ah (AW.skip ?_))))
 subst ai
 refine AW.seq (AW.block (AW.z I ?_))
 obtain ⟨a1, aj, h⟩ := ob_some h
 refine AW.rd (.still 0 (.still 1 (.still 2 (.still 3 (.still 4 (.still 5 (.still 6 (.still 7 (.act 8 (.act 9 (.still 10 (.drop 11 .nil)))))))))))) [3, 0] [_, _] I (AP.r 8 [.o 1 0, .o 3 1, .x 5 u (rI H)] I ⟨⟨I, map_get af⟩, I, I, J⟩ (AP.act [] I I I (AX.lt 1 (([wr (0 - H)] : List Int).map rI) (AP.act [5] I I I (AX.ap 5 I aj (fun M => (AP.q 1 I (AP.one 5 I (fun ak => (AP.drop [3] I I I (AX.store 3 0 1 (es' := [[.v e, .v M, .v b]]) I I I I I I (cells_v ak) I (le_ble I) I I (AP.ofAO (AO.nil (AW.region (AO.r 2 [.k 0 (u + 1 : Nat)] I ⟨cast_wr ag E, J⟩ ?_)))))))))))))))
 obtain rfl := oi h
 refine AO.nil ?_
 exact lg ⟨M, I, I⟩ [0, 1, 2, 3, 4, 5]
 rintro A s ob ⟨w, rfl, rfl⟩ he
 subst he
 have h := ae
 have al : decide (((a.Ports.length : Nat) : Int) < (a.Ports.length : Int)) = false := by simp
 refine AW.z I (AW.seqG (fun a2 a3 => (AW.condK (v := false) I al (AW.exit ?_))))
 exact lg ⟨A, w, h, I, I⟩ [1, 2, 3, 4, 5]
 rintro s ob ⟨f, t, h, rfl, rfl⟩
 unfold L.znbg.J2 at h
 refine AW.seq (AW.region (AO.r 1 [.o 0 2] I ⟨I, J⟩ (AO.act [0] I (AX.store 0 0 0 (es' := [[.v e, .v t, .v b]]) I I I I I I I I (le_ble I) I I (AO.nil (AW.ghost (Ghost.freeze [1, 3, 4] (K := [.us b 4 1 (c.map rB), .us e 3 1 (d.map rI), .us t 3 1 (f.map rI)]) I [(47, .agg [.list 1 (d.map rI), .list 1 (f.map rI), .list 1 (c.map rB)])] ⟨⟨_, I, .agg (.cons (.us 1 I) (.cons (.us 2 I) (.cons (.us 0 I) (.rest _))))⟩, J⟩ (ob' := [.arr g 46 3 1 [[.list 1 (d.map rI), .list 1 (f.map rI), .list 1 (c.map rB)]], .arr i 46 3 1 [[.list 1 (d.map rI), .list 1 (f.map rI), .list 1 (c.map rB)]]]) (.cons (.arr (.cons (.us 1 I) (.cons (.us 2 I) (.cons (.us 0 I) (.rest _))))) (.cons (.arr (.cons (.us 1 I) (.cons (.us 2 I) (.cons (.us 0 I) (.rest _))))) (.rest _)))) (AW.ghost (Ghost.pick [0] (K := [.arr g 46 3 1 [[.list 1 (d.map rI), .list 1 (f.map rI), .list 1 (c.map rB)]]]) I (by decide)) ?_)))))))
 obtain rfl := oi h
 exact AW.ret ⟨.inr I, [_], [], ⟨⟨0, _, _, _, _, _, _, _, I, I, I, I, I⟩, J⟩, sl_n, I, I⟩
theorem L.zjbu_ok (i : Nat) (be : KS) (e : Network) (r : Plan × KS) (h : L.zjbu be e = some r) : ACalls Tryz.env 18 [.v (.pointer (some ⟨i, 0, none⟩)), .agg (Network.row e)] [.arr i 86 2 1 [KS.row be]] (Gives 1 (fun x os new => x = .agg (Plan.row r.1) ∧ os = [.arr i 86 2 1 [KS.row r.2]] ∧ new = [])) := by
 refine ACalls.of_body Tryz.func18 rfl rfl rfl (fun C hC => ?_)
 unfold L.zjbu at h
 refine AW.seqG (fun y1 cx => (AW.region (AO.act [] I (AX.box (cs := Network.row e) (m := 6) I I I dS (fun M => (AO.act [] I (AX.alloc (cs := [.N, .N, .N]) (m := 3) I I I I I dS (fun w => (AO.nil ?_)))))))))
 subst cx
 refine AW.cutX (fun s ob => ∃ (Z : (List Int) × (List Int)) (A : Nat) (a : Value) (b : Value), L.zjbu.J1 be e Z = some r ∧ s = [(5, .v (.pointer (some ⟨A, 0, none⟩)))] ∧ ob = [.arr i 86 2 1 [KS.row be], .arr M 32 6 1 [Network.row e], .arr w 46 3 1 [[.N, .N, .N]], .us a 3 1 (Z.1.map rI), .us b 3 1 (Z.2.map rI), .arr A 46 3 1 [[.v a, .v b, .N]]]) [(0, _), (3, _), (4, _)] ⟨I, I, I, J⟩ ?_ ?_
 obtain ⟨aq, cy, h⟩ := ob_some h
 obtain ⟨fw, a3, a4, a5⟩ := mk_some cy
 obtain ⟨ar, cz, h⟩ := ob_some h
 obtain ⟨fx, a6, a7, a8⟩ := mk_some cz
 refine AW.rd (.still 0 (.still 1 (.still 2 (.still 4 (.still 5 (.still 6 (.three 3 7 9 (.two 7 9 (.still 8 (.act 9 (.act 10 .nil))) (.act 7 (.still 8 (.act 10 .nil)))) (.two 3 9 (.still 8 (.act 9 (.act 10 .nil))) (.act 3 (.still 8 (.act 10 .nil)))) (.two 3 7 (.act 7 (.still 8 (.act 10 .nil))) (.act 3 (.still 8 (.act 10 .nil))))))))))) [1] [_] I (AP.r 6 [.o 1 0, .l 2 (e.Segments.length : Int), .o 4 0, .l 5 (e.Ports.length : Int)] I ⟨len_m, I, len_m, I, J⟩ (AP.three ?_ ?_ ?_))
 refine AP.act [] I I I (AX.makeU (sz := 1) I I I I I I I I I I a3 a4 (rep_map (f := rI) a5 I) dS (fun F => (AP.two ?_ ?_)))
 refine AP.act [] I I I (AX.makeU (sz := 1) I I I I I I I I I I a6 a7 (rep_map (f := rI) a8 I) dS (fun G => (AP.one 3 I (fun S => (AP.one 4 I (fun U => (AP.p I (Yp.buildP (l := [.v F, .v G, .N]) Tryz.bld46 (fill_step I I (cells_v S) I (fill_step I I (cells_v U) I (fill_nil)))) I (AP.act [] I I I (AX.alloc (cs := [.N, .N, .N]) (m := 3) I I I I I dS (fun W => (AP.act [5] I I I (AX.store 5 0 0 (es' := [[.v F, .v G, .N]]) I I I I I I I I (le_ble I) I I (AP.ofAO (AO.nil ?_))))))))))))))
 exact lg ⟨(aq, ar), W, F, G, h, I, I⟩ [0, 1, 2, 3, 4, 5]
 refine AP.act [] I I I (AX.alloc (cs := [.N, .N, .N]) (m := 3) I I I I I dS (fun W => (AP.act [] I I I (AX.makeU (sz := 1) I I I I I I I I I I a6 a7 (rep_map (f := rI) a8 I) dS (fun G => (AP.one 3 I (fun S => (AP.one 5 I (fun U => (AP.p I (Yp.buildP (l := [.v F, .v G, .N]) Tryz.bld46 (fill_step I I (cells_v S) I (fill_step I I (cells_v U) I (fill_nil)))) I (AP.act [4] I I I (AX.store 4 0 0 (es' := [[.v F, .v G, .N]]) I I I I I I I I (le_ble I) I I (AP.ofAO (AO.nil ?_))))))))))))))
 exact lg ⟨(aq, ar), W, F, G, h, I, I⟩ [0, 1, 2, 3, 5, 4]
 refine AP.act [] I I I (AX.makeU (sz := 1) I I I I I I I I I I a6 a7 (rep_map (f := rI) a8 I) dS (fun G => (AP.two ?_ ?_)))
 refine AP.act [] I I I (AX.makeU (sz := 1) I I I I I I I I I I a3 a4 (rep_map (f := rI) a5 I) dS (fun F => (AP.one 4 I (fun S => (AP.one 3 I (fun U => (AP.p I (Yp.buildP (l := [.v F, .v G, .N]) Tryz.bld46 (fill_step I I (cells_v S) I (fill_step I I (cells_v U) I (fill_nil)))) I (AP.act [] I I I (AX.alloc (cs := [.N, .N, .N]) (m := 3) I I I I I dS (fun W => (AP.act [5] I I I (AX.store 5 0 0 (es' := [[.v F, .v G, .N]]) I I I I I I I I (le_ble I) I I (AP.ofAO (AO.nil ?_))))))))))))))
 exact lg ⟨(aq, ar), W, F, G, h, I, I⟩ [0, 1, 2, 4, 3, 5]
 refine AP.act [] I I I (AX.alloc (cs := [.N, .N, .N]) (m := 3) I I I I I dS (fun W => (AP.act [] I I I (AX.makeU (sz := 1) I I I I I I I I I I a3 a4 (rep_map (f := rI) a5 I) dS (fun F => (AP.one 5 I (fun S => (AP.one 3 I (fun U => (AP.p I (Yp.buildP (l := [.v F, .v G, .N]) Tryz.bld46 (fill_step I I (cells_v S) I (fill_step I I (cells_v U) I (fill_nil)))) I (AP.act [4] I I I (AX.store 4 0 0 (es' := [[.v F, .v G, .N]]) I I I I I I I I (le_ble I) I I (AP.ofAO (AO.nil ?_))))))))))))))
 exact lg ⟨(aq, ar), W, F, G, h, I, I⟩ [0, 1, 2, 5, 3, 4]
 refine AP.act [] I I I (AX.alloc (cs := [.N, .N, .N]) (m := 3) I I I I I dS (fun W => (AP.two ?_ ?_)))
 refine AP.act [] I I I (AX.makeU (sz := 1) I I I I I I I I I I a3 a4 (rep_map (f := rI) a5 I) dS (fun F => (AP.act [] I I I (AX.makeU (sz := 1) I I I I I I I I I I a6 a7 (rep_map (f := rI) a8 I) dS (fun G => (AP.one 4 I (fun S => (AP.one 5 I (fun U => (AP.p I (Yp.buildP (l := [.v F, .v G, .N]) Tryz.bld46 (fill_step I I (cells_v S) I (fill_step I I (cells_v U) I (fill_nil)))) I (AP.act [3] I I I (AX.store 3 0 0 (es' := [[.v F, .v G, .N]]) I I I I I I I I (le_ble I) I I (AP.ofAO (AO.nil ?_))))))))))))))
 exact lg ⟨(aq, ar), W, F, G, h, I, I⟩ [0, 1, 2, 4, 5, 3]
 refine AP.act [] I I I (AX.makeU (sz := 1) I I I I I I I I I I a6 a7 (rep_map (f := rI) a8 I) dS (fun G => (AP.act [] I I I (AX.makeU (sz := 1) I I I I I I I I I I a3 a4 (rep_map (f := rI) a5 I) dS (fun F => (AP.one 5 I (fun S => (AP.one 4 I (fun U => (AP.p I (Yp.buildP (l := [.v F, .v G, .N]) Tryz.bld46 (fill_step I I (cells_v S) I (fill_step I I (cells_v U) I (fill_nil)))) I (AP.act [3] I I I (AX.store 3 0 0 (es' := [[.v F, .v G, .N]]) I I I I I I I I (le_ble I) I I (AP.ofAO (AO.nil ?_))))))))))))))
 exact lg ⟨(aq, ar), W, F, G, h, I, I⟩ [0, 1, 2, 5, 4, 3]
 rintro s ob ⟨Z, A, a, b, h, rfl, rfl⟩
 unfold L.zjbu.J1 at h
 refine AW.cutX (fun s ob => ∃ (n : (List Int) × Int × (List Bool)) (g : Value), L.zjbu.J2 e Z n = some r ∧ s = [] ∧ ob = [.arr i 86 2 1 [[.list 1 (n.1.map rI), .V n.2.1]], .arr M 32 6 1 [Network.row e], .arr w 46 3 1 [[.N, .N, .N]], .us a 3 1 (Z.1.map rI), .us b 3 1 (Z.2.map rI), .arr A 46 3 1 [[.v a, .v b, .v g]], .us g 4 1 (n.2.2.map rB)]) [(0, _), (3, _), (4, _), (5, _)] ⟨I, I, I, I, J⟩ ?_ ?_
 refine AW.z I (AW.block (AW.ghost (Ghost.nilU 4 1) ?_))
 obtain ⟨fy, c1, c2⟩ := ob_some h
 clear h
 refine AW.loopX c1 [(0, _), (3, _), (4, _), (5, _)] ⟨I, I, I, I, J⟩ (fun (ad : (List Int) × Int × (List Bool) × Int) s ob => ∃ (bf : Value), s = [(6, .V ad.2.2.2)] ∧ ob = [.arr i 86 2 1 [[.list 1 (ad.1.map rI), .V ad.2.1]], .arr M 32 6 1 [Network.row e], .arr w 46 3 1 [[.N, .N, .N]], .us a 3 1 (Z.1.map rI), .us b 3 1 (Z.2.map rI), .arr A 46 3 1 [[.v a, .v b, .v bf]], .us bf 4 1 (ad.2.2.1.map rB)]) ⟨(.slice none 0 0), I, I⟩ ⟨I, J⟩ ⟨[0, 1, 2, 3, 4, 5, 6], I, by decide⟩ ?_
 rintro ad fz s ob ⟨bf, rfl, rfl⟩ h c3
 unfold L.zjbu.B20 at h
 refine AW.seqG (fun f0 c4 => (AW.zr [.o 2 1, .l 3 (e.Stations.length : Int)] I ⟨len_m, I, J⟩ (AW.ch h I ?_ ?_)))
 intro c5 h
 refine AW.skip ?_
 subst c4
 refine AW.seq (AW.block ?_)
 obtain ⟨c6, c7, h⟩ := ob_some h
 obtain ⟨f1, c8, h⟩ := ob_some h
 refine AW.rd (.still 0 (.still 1 (.still 2 (.act 3 (.still 4 (.act 5 (.act 6 (.still 7 (.drop 8 .nil))))))))) [5] [_] I (AP.r 3 [.o 1 0] I ⟨I, J⟩ (AP.act [0] I I I (AX.c0 [0] (L.zdjb_ok i _ _ _ c7) ?_)))
 refine AP.q 1 I (AP.act [] I I I (AX.lt 1 (([(c6.1 == 0)] : List Bool).map rB) (AP.act [6] I I I (AX.ap 6 I c8 (fun cf => (AP.q 1 I (AP.one 6 I (fun c9 => (AP.drop [5] I I I (AX.store 5 0 2 (es' := [[.v a, .v b, .v cf]]) I I I I I I (cells_v c9) I (le_ble I) I I (AP.ofAO (AO.nil (AW.region (AO.q 3 I ?_))))))))))))))
 obtain rfl := oi h
 refine AO.nil ?_
 exact ⟨_, _, _, I, ⟨cf, I, I⟩, ⟨I, I, I, I, I, J⟩, [0, 1, 2, 3, 4, 5, 6], I, by decide⟩
 intro c5 h
 obtain rfl := c3 _ (oi h).symm
 replace h := c2
 refine AW.exit ?_
 exact lg ⟨(ad.1, ad.2.1, ad.2.2.1), bf, h, I, I⟩ [0, 1, 2, 3, 4, 5, 6]
 rintro s ob ⟨n, g, h, rfl, rfl⟩
 unfold L.zjbu.J2 at h
 refine AW.seqG (fun f2 da => ?_)
 obtain ⟨db, dc, h⟩ := ob_some h
 refine AW.region (AO.q 1 I (AO.act [0] I (AX.c0 [0] (L.zdjb_ok i _ _ _ dc) ?_)))
 refine AO.q 2 I (AO.nil ?_)
 subst da
 refine AW.cutX (fun s ob => ∃ (j : (List Int) × Int × (List Int) × (List Int)), L.zjbu.J3 n db j = some r ∧ s = [] ∧ ob = [.arr i 86 2 1 [[.list 1 (j.1.map rI), .V j.2.1]], .arr w 46 3 1 [[.N, .N, .N]], .us a 3 1 (j.2.2.1.map rI), .us b 3 1 (j.2.2.2.map rI), .arr A 46 3 1 [[.v a, .v b, .v g]], .us g 4 1 (n.2.2.map rB)]) [(4, _), (5, _), (7, _)] ⟨I, I, I, J⟩ ?_ ?_
 refine AW.seqG (fun f3 dd => ?_)
 obtain ⟨f4, de, h⟩ := ob_some h
 refine AW.region (AO.q 1 I (AO.act [0] I (AX.c0 [0] (L.zdjb_ok i _ _ _ de) ?_)))
 refine AO.q 1 I (AO.nil ?_)
 subst dd
 refine AW.block ?_
 obtain ⟨f5, df, dg⟩ := ob_some h
 clear h
 refine AW.loopX df [(0, _), (3, _), (4, _), (5, _), (7, _)] ⟨I, I, I, I, I, J⟩ (fun (c : (List Int) × Int × (List Int) × (List Int) × Int) s ob => s = [(8, .V c.2.2.2.2)] ∧ ob = [.arr i 86 2 1 [[.list 1 (c.1.map rI), .V c.2.1]], .arr M 32 6 1 [Network.row e], .arr w 46 3 1 [[.N, .N, .N]], .us a 3 1 (c.2.2.1.map rI), .us b 3 1 (c.2.2.2.1.map rI), .arr A 46 3 1 [[.v a, .v b, .v g]], .us g 4 1 (n.2.2.map rB)]) ⟨I, I⟩ ⟨I, J⟩ ⟨[0, 1, 2, 3, 4, 5, 6], I, by decide⟩ ?_
 rintro c bg s ob ⟨rfl, rfl⟩ h dh
 unfold L.zjbu.B4 at h
 refine AW.seqG (fun f6 di => (AW.z I (AW.ch h I ?_ ?_)))
 intro dj h
 refine AW.skip ?_
 subst di
 refine AW.cutX (fun s ob => ∃ (au : (List Int) × Int × (List Int) × (List Int)), L.zjbu.J5 c au = some bg ∧ s = [] ∧ ob = [.arr i 86 2 1 [[.list 1 (au.1.map rI), .V au.2.1]], .arr M 32 6 1 [Network.row e], .arr w 46 3 1 [[.N, .N, .N]], .us a 3 1 (au.2.2.1.map rI), .us b 3 1 (au.2.2.2.map rI), .arr A 46 3 1 [[.v a, .v b, .v g]], .us g 4 1 (n.2.2.map rB)]) [(0, _), (3, _), (4, _), (5, _), (7, _), (8, _)] ⟨I, I, I, I, I, I, J⟩ ?_ ?_
 refine AW.block (AW.seqG (fun f7 dk => ?_))
 obtain ⟨br, dl, h⟩ := ob_some h
 refine AW.region (AO.r 4 [.o 2 1, .l 3 (e.Ports.length : Int)] I ⟨len_m, I, J⟩ (AO.act [0] I (AX.c0 [0] (L.zdjb_ok i _ _ _ dl) ?_)))
 refine AO.q 1 I (AO.nil ?_)
 subst dk
 refine AW.seqG (fun f8 dm => ?_)
 obtain ⟨bs, dn, h⟩ := ob_some h
 obtain ⟨dp, dq⟩ := ix_some dn
 obtain ⟨f9, dr, h⟩ := ob_some h
 obtain ⟨D, ds, h⟩ := ob_some h
 refine AW.rd (pd 13 0 [8, 9, 10]) [1] [_] I (AP.r 8 [.o 1 0, .x 3 bs.1 (Port.row bs.2)] I ⟨⟨dp, map_get dq⟩, I, J⟩ (AP.act [] I I I (AX.lt 1 (([1, 5, 30, 300] : List Int).map rI) (AP.act [0] I I I (AX.c0 [0] (L.ztqk_ok i _ _ _ dr) ?_)))))
 refine AP.act [0] I I I (AX.c0 [0] (L.ziuk_ok i _ _ _ _ ds) ?_)
 refine AP.q 2 I (AP.ofAO (AO.nil ?_))
 subst dm
 refine AW.seqG (fun ga du => (AW.cutX (fun s ob => ∃ (bu : Bool), L.zjbu.J6 e c br bs D bu = some bg ∧ s = [(86, .v (.bool bu))] ∧ ob = [.arr i 86 2 1 [KS.row D.2], .arr M 32 6 1 [Network.row e], .arr w 46 3 1 [[.N, .N, .N]], .us a 3 1 (c.2.2.1.map rI), .us b 3 1 (c.2.2.2.1.map rI), .arr A 46 3 1 [[.v a, .v b, .v g]], .us g 4 1 (n.2.2.map rB)]) [(0, _), (3, _), (4, _), (5, _), (7, _), (8, _), (9, _), (10, _), (11, _)] ⟨I, I, I, I, I, I, I, I, I, J⟩ ?_ ?_))
 obtain ⟨ae, dv, h⟩ := ob_some h
 obtain ⟨cg, bh⟩ := ix_some dv
 refine AW.region (AO.r 3 [.o 1 5] I ⟨I, J⟩ (AO.d (Yd.indexU 4 (m := ae.1) I I I I I I I cg (map_get bh)) I (AO.d (Yd.loadU 4 ae.1 0 I I I (map_get bh) I (y := .V ae.2) I) I (AO.q 2 I ?_))))
 rcases bt (decide (ae.2 < 0)) with a9 | a9
 replace h := ife_t a9 h
 refine AO.known 77 I a9 (AO.q 9 I (AO.nil ?_))
 exact lg ⟨true, h, I, I⟩ [0, 1, 2, 3, 4, 5, 6]
 replace h := ife_f a9 h
 refine AO.known 77 I a9 (AO.r 3 [.o 1 5] I ⟨I, J⟩ (AO.gt I I I (AO.d (Yd.indexU 4 (m := ae.1) I I I I I I I cg (map_get bh)) I (AO.gt I I I (AO.d (Yd.loadU 4 ae.1 0 I I I (map_get bh) I (y := .V ae.2) I) I (AO.q 4 I (AO.nil ?_)))))))
 exact lg ⟨decide ((wr (ae.2 + D.1)) > 1000), h, I, I⟩ [0, 1, 2, 3, 4, 5, 6]
 rintro s ob ⟨bu, h, rfl, rfl⟩
 unfold L.zjbu.J6 at h
 refine AW.ch h I ?_ ?_
 intro dw h
 refine AW.exit ?_
 exact lg ⟨(D.2.L_, D.2.At, c.2.2.1, c.2.2.2.1), h, I, I⟩ [0, 1, 2, 3, 4, 5, 6]
 intro dw h
 refine AW.skip ?_
 subst du
 refine AW.z I (AW.z I (AW.cutX (fun s ob => ∃ (B : (List Int) × Int × (List Int) × Int) (av : Value), L.zjbu.J7 e c br D B = some bg ∧ s = [(12, .v av), (13, .V B.2.2.2)] ∧ ob = [.arr i 86 2 1 [[.list 1 (B.1.map rI), .V B.2.1]], .arr M 32 6 1 [Network.row e], .arr w 46 3 1 [[.N, .N, .N]], .us a 3 1 (c.2.2.1.map rI), .us b 3 1 (c.2.2.2.1.map rI), .arr A 46 3 1 [[.v a, .v b, .v g]], .us g 4 1 (n.2.2.map rB), .us av 3 1 (B.2.2.1.map rI)]) [(0, _), (3, _), (4, _), (5, _), (7, _), (8, _), (9, _), (11, _)] ⟨I, I, I, I, I, I, I, I, J⟩ ?_ ?_))
 refine AW.block (AW.ghost (Ghost.nilU 3 1) ?_)
 obtain ⟨gb, dx, bv⟩ := ob_some h
 clear h
 refine AW.loopX dx [(0, _), (3, _), (4, _), (5, _), (7, _), (8, _), (9, _), (11, _)] ⟨I, I, I, I, I, I, I, I, J⟩ (fun (u : (List Int) × Int × Int × (List Int) × Int) s ob => ∃ (P : Value), s = [(10, .V u.2.2.1), (12, .v P), (13, .V u.2.2.2.2)] ∧ ob = [.arr i 86 2 1 [[.list 1 (u.1.map rI), .V u.2.1]], .arr M 32 6 1 [Network.row e], .arr w 46 3 1 [[.N, .N, .N]], .us a 3 1 (c.2.2.1.map rI), .us b 3 1 (c.2.2.2.1.map rI), .arr A 46 3 1 [[.v a, .v b, .v g]], .us g 4 1 (n.2.2.map rB), .us P 3 1 (u.2.2.2.1.map rI)]) ⟨(.slice none 0 0), I, I⟩ ⟨I, I, I, J⟩ ⟨[0, 1, 2, 3, 4, 5, 6, 7], I, by decide⟩ ?_
 rintro u ci s ob ⟨P, rfl, rfl⟩ h bw
 unfold L.zjbu.B11 at h
 refine AW.seqG (fun gc dy => (AW.z I (AW.ch h I ?_ ?_)))
 intro dz h
 refine AW.skip ?_
 subst dy
 refine AW.block (AW.cutX (fun s ob => ∃ (H : (List Int) × Int × Int), L.zjbu.J12 e c D u H = some ci ∧ s = [(13, .V H.2.2)] ∧ ob = [.arr i 86 2 1 [[.list 1 (H.1.map rI), .V H.2.1]], .arr M 32 6 1 [Network.row e], .arr w 46 3 1 [[.N, .N, .N]], .us a 3 1 (c.2.2.1.map rI), .us b 3 1 (c.2.2.2.1.map rI), .arr A 46 3 1 [[.v a, .v b, .v g]], .us g 4 1 (n.2.2.map rB), .us P 3 1 (u.2.2.2.1.map rI)]) [(0, _), (3, _), (4, _), (5, _), (7, _), (8, _), (9, _), (10, _), (11, _), (12, _)] ⟨I, I, I, I, I, I, I, I, I, I, J⟩ ?_ ?_)
 refine AW.zr [.o 1 1, .l 2 (e.Ports.length : Int)] I ⟨len_m, I, J⟩ (AW.block (AW.listMax 90 I (fun bx => ?_)))
 replace bx : e.Ports.length ≤ 9223372036854775806 := by rw [List.length_map] at bx; omega
 obtain ⟨gd, d0, d1⟩ := ob_some h
 clear h
 refine AW.forY d0 [(0, _), (3, _), (4, _), (5, _), (7, _), (8, _), (9, _), (10, _), (11, _), (12, _), (90, _), (91, _)] ⟨I, I, I, I, I, I, I, I, I, I, I, I, J⟩ (fun (af : Nat) (R : (List Int) × Int × Int) s ob => s = [(92, .V (af : Int)), (13, .V R.2.2)] ∧ ob = [.arr i 86 2 1 [[.list 1 (R.1.map rI), .V R.2.1]], .arr M 32 6 1 [Network.row e], .arr w 46 3 1 [[.N, .N, .N]], .us a 3 1 (c.2.2.1.map rI), .us b 3 1 (c.2.2.2.1.map rI), .arr A 46 3 1 [[.v a, .v b, .v g]], .us g 4 1 (n.2.2.map rB), .us P 3 1 (u.2.2.2.1.map rI)]) ⟨I, I⟩ ⟨I, I, J⟩ ⟨[0, 1, 2, 3, 4, 5, 6, 7], I, by decide⟩ ?_ ?_
 rintro af bz R cj s ob d2 d3 ⟨rfl, rfl⟩ h
 unfold L.zjbu.B17 at h
 have d4 : decide ((af : Int) < (e.Ports.length : Int)) = true := decide_eq_true (by omega)
 refine AW.z I (AW.seqG (fun ge d5 => (AW.condK (v := true) I d4 (AW.skip ?_))))
 subst d5
 refine AW.cutX (fun s ob => ∃ (ba : (List Int) × Int × Int), L.zjbu.J18 ba = some cj ∧ s = [(13, .V ba.2.2)] ∧ ob = [.arr i 86 2 1 [[.list 1 (ba.1.map rI), .V ba.2.1]], .arr M 32 6 1 [Network.row e], .arr w 46 3 1 [[.N, .N, .N]], .us a 3 1 (c.2.2.1.map rI), .us b 3 1 (c.2.2.2.1.map rI), .arr A 46 3 1 [[.v a, .v b, .v g]], .us g 4 1 (n.2.2.map rB), .us P 3 1 (u.2.2.2.1.map rI)]) [(0, _), (3, _), (4, _), (5, _), (7, _), (8, _), (9, _), (10, _), (11, _), (12, _), (90, _), (91, _), (92, _)] ⟨I, I, I, I, I, I, I, I, I, I, I, I, I, J⟩ ?_ ?_
 refine AW.block (AW.seqG (fun gf d6 => (AW.region (AO.r 3 [.x 1 af (Port.row bz)] I ⟨⟨I, map_get d2⟩, J⟩ (AO.act [] I (AX.alloc (cs := [.v (.string ⟨#[]⟩), .V 0, .V 0]) (m := 3) I I I I I dS (fun gg => (AO.q 1 I (AO.act [8] I (AX.store 8 0 0 (es' := [Port.row bz]) I I I I I I I I (le_ble I) I I (AO.nil ?_)))))))))))
 subst d6
 refine AW.cutX (fun s ob => ∃ (aa : (List Int) × Int × Bool), L.zjbu.J19 af R aa = some cj ∧ s = [(133, .v (.bool aa.2.2))] ∧ ob = [.arr i 86 2 1 [[.list 1 (aa.1.map rI), .V aa.2.1]], .arr M 32 6 1 [Network.row e], .arr w 46 3 1 [[.N, .N, .N]], .us a 3 1 (c.2.2.1.map rI), .us b 3 1 (c.2.2.2.1.map rI), .arr A 46 3 1 [[.v a, .v b, .v g]], .us g 4 1 (n.2.2.map rB), .us P 3 1 (u.2.2.2.1.map rI)]) [(0, _), (3, _), (4, _), (5, _), (7, _), (8, _), (9, _), (10, _), (11, _), (12, _), (13, _), (14, _), (90, _), (91, _), (92, _)] ⟨I, I, I, I, I, I, I, I, I, I, I, I, I, I, I, J⟩ ?_ ?_
 rcases bt ((bz.Node == u.2.2.1)) with ab | ab
 replace h := ife_t ab h
 rcases bt (((af : Int) != br.1)) with ag | ag
 replace h := ife_t ag h
 obtain ⟨E, d7, h⟩ := ob_some h
 obtain ⟨ak, Q⟩ := ix_some d7
 rcases bt (decide (E.2 ≤ 0)) with al | al
 replace h := ife_t al h
 rcases bt (decide ((wr (E.2 - D.1)) ≥ (-1000))) with aw | aw
 replace h := ife_t aw h
 rcases bt (decide ((u.2.2.2.1.length : Int) > 0)) with bb | bb
 replace h := ife_t bb h
 obtain ⟨b1, d8, h⟩ := ob_some h
 refine AW.region (AO.r 5 [.o 1 8] I ⟨I, J⟩ (AO.known 101 I ab (AO.q 5 I (AO.known 106 I ag (AO.r 3 [.o 1 5] I ⟨I, J⟩ (AO.gt I I I (AO.d (Yd.indexU 4 (m := E.1) I I I I I I I ak (map_get Q)) I (AO.gt I I I (AO.d (Yd.loadU 4 E.1 0 I I I (map_get Q) I (y := .V E.2) I) I (AO.q 3 I (AO.known 114 I al (AO.r 3 [.o 1 5] I ⟨I, J⟩ ?_))))))))))))
 refine AO.gt I I I (AO.d (Yd.indexU 4 (m := E.1) I I I I I I I ak (map_get Q)) I (AO.gt I I I (AO.d (Yd.loadU 4 E.1 0 I I I (map_get Q) I (y := .V E.2) I) I (AO.q 5 I (AO.known 124 I aw (AO.q 1 I (AO.gt I I I (AO.d (Yd.lenUM 7 I I I I) I (AO.q 3 I (AO.known 129 I bb (AO.q 1 I (AO.gt I I I ?_))))))))))))
 refine AO.act [0] I (AX.c0 [0] (L.zdjb_ok i _ _ _ d8) ?_)
 refine AO.q 2 I (AO.nil ?_)
 exact lg ⟨(b1.2.L_, b1.2.At, (b1.1 == 0)), h, I, I⟩ [0, 1, 2, 3, 4, 5, 6, 7]
 replace h := ife_f bb h
 refine AW.region (AO.r 5 [.o 1 8] I ⟨I, J⟩ (AO.known 101 I ab (AO.q 5 I (AO.known 106 I ag (AO.r 3 [.o 1 5] I ⟨I, J⟩ (AO.gt I I I (AO.d (Yd.indexU 4 (m := E.1) I I I I I I I ak (map_get Q)) I (AO.gt I I I (AO.d (Yd.loadU 4 E.1 0 I I I (map_get Q) I (y := .V E.2) I) I (AO.q 3 I (AO.known 114 I al (AO.r 3 [.o 1 5] I ⟨I, J⟩ ?_))))))))))))
 refine AO.gt I I I (AO.d (Yd.indexU 4 (m := E.1) I I I I I I I ak (map_get Q)) I (AO.gt I I I (AO.d (Yd.loadU 4 E.1 0 I I I (map_get Q) I (y := .V E.2) I) I (AO.q 5 I (AO.known 124 I aw (AO.q 1 I (AO.gt I I I (AO.d (Yd.lenUM 7 I I I I) I (AO.q 3 I (AO.known 129 I bb (AO.q 4 I (AO.nil ?_))))))))))))
 rotate_left
 replace h := ife_f aw h
 refine AW.region (AO.r 5 [.o 1 8] I ⟨I, J⟩ (AO.known 101 I ab (AO.q 5 I (AO.known 106 I ag (AO.r 3 [.o 1 5] I ⟨I, J⟩ (AO.gt I I I (AO.d (Yd.indexU 4 (m := E.1) I I I I I I I ak (map_get Q)) I (AO.gt I I I (AO.d (Yd.loadU 4 E.1 0 I I I (map_get Q) I (y := .V E.2) I) I (AO.q 3 I (AO.known 114 I al (AO.r 3 [.o 1 5] I ⟨I, J⟩ ?_))))))))))))
 refine AO.gt I I I (AO.d (Yd.indexU 4 (m := E.1) I I I I I I I ak (map_get Q)) I (AO.gt I I I (AO.d (Yd.loadU 4 E.1 0 I I I (map_get Q) I (y := .V E.2) I) I (AO.q 5 I (AO.known 124 I aw (AO.q 9 I (AO.nil ?_)))))))
 rotate_left
 replace h := ife_f al h
 refine AW.region (AO.r 5 [.o 1 8] I ⟨I, J⟩ (AO.known 101 I ab (AO.q 5 I (AO.known 106 I ag (AO.r 3 [.o 1 5] I ⟨I, J⟩ (AO.gt I I I (AO.d (Yd.indexU 4 (m := E.1) I I I I I I I ak (map_get Q)) I (AO.gt I I I (AO.d (Yd.loadU 4 E.1 0 I I I (map_get Q) I (y := .V E.2) I) I (AO.q 3 I (AO.known 114 I al (AO.q 19 I ?_))))))))))))
 refine AO.nil ?_
 rotate_left
 replace h := ife_f ag h
 refine AW.region (AO.r 5 [.o 1 8] I ⟨I, J⟩ (AO.known 101 I ab (AO.q 5 I (AO.known 106 I ag (AO.q 27 I (AO.nil ?_))))))
 rotate_left
 replace h := ife_f ab h
 refine AW.region (AO.r 5 [.o 1 8] I ⟨I, J⟩ (AO.known 101 I ab (AO.q 32 I (AO.nil ?_))))
 any_goals
  exact lg ⟨(R.1, R.2.1, false), h, I, I⟩ [0, 1, 2, 3, 4, 5, 6, 7]
 rintro s ob ⟨aa, h, rfl, rfl⟩
 unfold L.zjbu.J19 at h
 refine AW.ch h I ?_ ?_
 intro d9 h
 refine AW.t I ?_
 exact lg ⟨(aa.1, aa.2.1, (af : Int)), h, I, I⟩ [0, 1, 2, 3, 4, 5, 6, 7]
 intro d9 h
 refine AW.skip ?_
 exact lg ⟨(aa.1, aa.2.1, R.2.2), h, I, I⟩ [0, 1, 2, 3, 4, 5, 6, 7]
 rintro s ob ⟨ba, h, rfl, rfl⟩
 unfold L.zjbu.J18 at h
 refine AW.region (AO.r 2 [.k 0 (af + 1 : Nat)] I ⟨cast_wr d3 bx, J⟩ ?_)
 obtain rfl := oi h
 refine AO.nil ?_
 exact lg ⟨I, I⟩ [0, 1, 2, 3, 4, 5, 6, 7]
 rintro R s ob ⟨rfl, rfl⟩ he
 subst he
 have h := d1
 have ea : decide (((e.Ports.length : Nat) : Int) < (e.Ports.length : Int)) = false := by simp
 refine AW.z I (AW.seqG (fun gh gi => (AW.condK (v := false) I ea (AW.exit ?_))))
 exact lg ⟨(R.1, R.2.1, R.2.2), h, I, I⟩ [0, 1, 2, 3, 4, 5, 6, 7]
 rintro s ob ⟨H, h, rfl, rfl⟩
 unfold L.zjbu.J12 at h
 refine AW.seqG (fun gj eb => (AW.z I (AW.ch h I ?_ ?_)))
 intro ec h
 obtain rfl := bw _ (oi h).symm
 replace h := bv
 refine AW.exit ?_
 exact lg ⟨(H.1, H.2.1, u.2.2.2.1, H.2.2), P, h, I, I⟩ [0, 1, 2, 3, 4, 5, 6, 7]
 intro ec h
 refine AW.skip ?_
 subst eb
 refine AW.z I (AW.cutX (fun s ob => ∃ (b4 : List Int) (b5 : Value), L.zjbu.J13 e u H b4 = some ci ∧ s = [(16, .v b5)] ∧ ob = [.arr i 86 2 1 [[.list 1 (H.1.map rI), .V H.2.1]], .arr M 32 6 1 [Network.row e], .arr w 46 3 1 [[.N, .N, .N]], .us a 3 1 (c.2.2.1.map rI), .us b 3 1 (c.2.2.2.1.map rI), .arr A 46 3 1 [[.v a, .v b, .v g]], .us g 4 1 (n.2.2.map rB), .us P 3 1 (u.2.2.2.1.map rI), .us b5 3 1 (b4.map rI)]) [(0, _), (3, _), (4, _), (5, _), (7, _), (8, _), (9, _), (10, _), (11, _), (12, _), (13, _)] ⟨I, I, I, I, I, I, I, I, I, I, I, J⟩ ?_ ?_)
 refine AW.zr [.o 1 1, .l 2 (e.Segments.length : Int)] I ⟨len_m, I, J⟩ (AW.block (AW.listMax 139 I (fun b6 => ?_)))
 replace b6 : e.Segments.length ≤ 9223372036854775806 := by rw [List.length_map] at b6; omega
 refine AW.ghost (Ghost.nilU 3 1) ?_
 obtain ⟨gk, ed, ee⟩ := ob_some h
 clear h
 refine AW.forY ed [(0, _), (3, _), (4, _), (5, _), (7, _), (8, _), (9, _), (10, _), (11, _), (12, _), (13, _), (139, _), (140, _)] ⟨I, I, I, I, I, I, I, I, I, I, I, I, I, J⟩ (fun (am : Nat) (an : List Int) s ob => ∃ (ao : Value), s = [(141, .V (am : Int)), (16, .v ao)] ∧ ob = [.arr i 86 2 1 [[.list 1 (H.1.map rI), .V H.2.1]], .arr M 32 6 1 [Network.row e], .arr w 46 3 1 [[.N, .N, .N]], .us a 3 1 (c.2.2.1.map rI), .us b 3 1 (c.2.2.2.1.map rI), .arr A 46 3 1 [[.v a, .v b, .v g]], .us g 4 1 (n.2.2.map rB), .us P 3 1 (u.2.2.2.1.map rI), .us ao 3 1 (an.map rI)]) ⟨(.slice none 0 0), I, I⟩ ⟨I, I, J⟩ ⟨[0, 1, 2, 3, 4, 5, 6, 7, 8], I, by decide⟩ ?_ ?_
 rintro am X an ck s ob ef eg ⟨ao, rfl, rfl⟩ h
 unfold L.zjbu.B14 at h
 have eh : decide ((am : Int) < (e.Segments.length : Int)) = true := decide_eq_true (by omega)
 refine AW.z I (AW.seqG (fun gl ei => (AW.condK (v := true) I eh (AW.skip ?_))))
 subst ei
 refine AW.cutX (fun s ob => ∃ (b7 : List Int) (bi : Value), L.zjbu.J15 b7 = some ck ∧ s = [(16, .v bi)] ∧ ob = [.arr i 86 2 1 [[.list 1 (H.1.map rI), .V H.2.1]], .arr M 32 6 1 [Network.row e], .arr w 46 3 1 [[.N, .N, .N]], .us a 3 1 (c.2.2.1.map rI), .us b 3 1 (c.2.2.2.1.map rI), .arr A 46 3 1 [[.v a, .v b, .v g]], .us g 4 1 (n.2.2.map rB), .us P 3 1 (u.2.2.2.1.map rI), .us bi 3 1 (b7.map rI)]) [(0, _), (3, _), (4, _), (5, _), (7, _), (8, _), (9, _), (10, _), (11, _), (12, _), (13, _), (139, _), (140, _), (141, _)] ⟨I, I, I, I, I, I, I, I, I, I, I, I, I, I, J⟩ ?_ ?_
 refine AW.block (AW.seqG (fun gm ej => (AW.region (AO.r 3 [.x 1 am (Segment.row X)] I ⟨⟨I, map_get ef⟩, J⟩ (AO.act [] I (AX.alloc (cs := [.v (.string ⟨#[]⟩), .V 0, .V 0, .V 0, .V 0, .V 0, .N]) (m := 7) I I I I I dS (fun gn => (AO.q 1 I (AO.act [9] I (AX.store 9 0 0 (es' := [Segment.row X]) I I I I I I I I (le_ble I) I I (AO.nil ?_)))))))))))
 subst ej
 refine AW.cutX (fun s ob => ∃ (b8 : Bool), L.zjbu.J16 am an b8 = some ck ∧ s = [(180, .v (.bool b8))] ∧ ob = [.arr i 86 2 1 [[.list 1 (H.1.map rI), .V H.2.1]], .arr M 32 6 1 [Network.row e], .arr w 46 3 1 [[.N, .N, .N]], .us a 3 1 (c.2.2.1.map rI), .us b 3 1 (c.2.2.2.1.map rI), .arr A 46 3 1 [[.v a, .v b, .v g]], .us g 4 1 (n.2.2.map rB), .us P 3 1 (u.2.2.2.1.map rI), .us ao 3 1 (an.map rI)]) [(0, _), (3, _), (4, _), (5, _), (7, _), (8, _), (9, _), (10, _), (11, _), (12, _), (13, _), (16, _), (17, _), (139, _), (140, _), (141, _)] ⟨I, I, I, I, I, I, I, I, I, I, I, I, I, I, I, I, J⟩ ?_ ?_
 rcases bt ((X.From == u.2.2.1)) with ah | ah
 replace h := ife_t ah h
 rcases bt (decide ((wr ((wr (X.From + X.To)) - u.2.2.1)) > u.2.2.1)) with bc | bc
 replace h := ife_t bc h
 obtain ⟨ax, ek, h⟩ := ob_some h
 obtain ⟨el, b9⟩ := ix_some ek
 refine AW.form 3 ax.1 I b9 (fun em => (AW.rd (.still 0 (.still 1 (.still 2 (.still 3 (.still 4 (.still 5 (.still 6 (.still 7 (.still 8 (.still 9 (.still 10 (.still 11 (.still 12 (.still 13 (.still 14 (.still 15 (.still 16 (.still 17 (.still 18 (.still 19 (.still 20 (.still 21 (.still 22 (.still 23 (.still 24 (.still 25 (.still 26 (.still 28 (.still 30 (.still 31 (.still 32 (.act 27 (.still 29 (.still 33 (.still 34 .nil))))))))))))))))))))))))))))))))))) [9, 5, 3] [_, _, _] I (AP.r 5 [.o 1 0] I ⟨I, J⟩ (AP.known 150 I ah (AP.r 17 [.o 7 0, .o 9 0] I ⟨I, I, J⟩ (AP.known 167 I bc (AP.r 3 [.o 1 1] I ⟨I, J⟩ (AP.oldG I I I I ((Yp.indexUf (m := ax.1) I I I I I em I el b9).yd) dS (AP.oldG I I I I (Yd.loadU 2 ax.1 0 I I I (map_get b9) I (y := .V ax.2) I) dS (AP.r 4 [.o 2 0] I ⟨I, J⟩ (AP.cG I (L.zhea_ok ax.2 _ I) (AP.q 3 I (AP.ofAO ?_)))))))))))))
 refine AO.nil ?_
 exact lg ⟨decide ((wr ((L.zhea ax.2) + D.1)) ≤ (min 1000 X.Capacity)), h, I, I⟩ [0, 1, 2, 3, 4, 5, 6, 7, 8]
 replace h := ife_f bc h
 refine AW.rd (.still 0 (.still 1 (.still 2 (.still 3 (.still 4 (.still 5 (.still 6 (.still 7 (.still 8 (.still 9 (.still 10 (.still 11 (.still 12 (.still 13 (.still 14 (.still 15 (.still 16 (.still 17 (.still 18 (.still 19 (.still 20 (.still 21 (.still 22 (.still 23 (.still 24 (.still 25 (.still 26 (.still 28 (.still 30 (.still 31 (.still 32 (.act 27 (.still 29 (.still 33 (.still 34 .nil))))))))))))))))))))))))))))))))))) [9] [_] I (AP.r 5 [.o 1 0] I ⟨I, J⟩ (AP.known 150 I ah (AP.r 17 [.o 7 0, .o 9 0] I ⟨I, I, J⟩ (AP.known 167 I bc (AP.q 13 I (AP.ofAO (AO.nil ?_)))))))
 exact lg ⟨false, h, I, I⟩ [0, 1, 2, 3, 4, 5, 6, 7, 8]
 replace h := ife_f ah h
 rcases bt ((X.To == u.2.2.1)) with ay | ay
 replace h := ife_t ay h
 rcases bt (decide ((wr ((wr (X.From + X.To)) - u.2.2.1)) > u.2.2.1)) with bd | bd
 replace h := ife_t bd h
 obtain ⟨az, en, h⟩ := ob_some h
 obtain ⟨eo, ca⟩ := ix_some en
 refine AW.form 3 az.1 I ca (fun ep => (AW.rd (.still 0 (.still 1 (.still 2 (.still 3 (.still 4 (.still 5 (.still 6 (.still 7 (.still 8 (.still 9 (.still 10 (.still 11 (.still 12 (.still 13 (.still 14 (.still 15 (.still 16 (.still 17 (.still 18 (.still 19 (.still 20 (.still 21 (.still 22 (.still 23 (.still 24 (.still 25 (.still 26 (.still 28 (.still 30 (.still 31 (.still 32 (.act 27 (.still 29 (.still 33 (.still 34 .nil))))))))))))))))))))))))))))))))))) [9, 5, 3] [_, _, _] I (AP.r 5 [.o 1 0] I ⟨I, J⟩ (AP.known 150 I ah (AP.r 6 [.o 1 0] I ⟨I, J⟩ (AP.known 156 I ay (AP.r 11 [.o 1 0, .o 3 0] I ⟨I, I, J⟩ (AP.known 167 I bd (AP.r 3 [.o 1 1] I ⟨I, J⟩ (AP.oldG I I I I ((Yp.indexUf (m := az.1) I I I I I ep I eo ca).yd) dS (AP.oldG I I I I (Yd.loadU 2 az.1 0 I I I (map_get ca) I (y := .V az.2) I) dS (AP.r 4 [.o 2 0] I ⟨I, J⟩ (AP.cG I (L.zhea_ok az.2 _ I) ?_)))))))))))))
 refine AP.q 3 I (AP.ofAO (AO.nil ?_))
 exact lg ⟨decide ((wr ((L.zhea az.2) + D.1)) ≤ (min 1000 X.Capacity)), h, I, I⟩ [0, 1, 2, 3, 4, 5, 6, 7, 8]
 replace h := ife_f bd h
 refine AW.rd (.still 0 (.still 1 (.still 2 (.still 3 (.still 4 (.still 5 (.still 6 (.still 7 (.still 8 (.still 9 (.still 10 (.still 11 (.still 12 (.still 13 (.still 14 (.still 15 (.still 16 (.still 17 (.still 18 (.still 19 (.still 20 (.still 21 (.still 22 (.still 23 (.still 24 (.still 25 (.still 26 (.still 28 (.still 30 (.still 31 (.still 32 (.act 27 (.still 29 (.still 33 (.still 34 .nil))))))))))))))))))))))))))))))))))) [9] [_] I (AP.r 5 [.o 1 0] I ⟨I, J⟩ (AP.known 150 I ah (AP.r 6 [.o 1 0] I ⟨I, J⟩ (AP.known 156 I ay (AP.r 11 [.o 1 0, .o 3 0] I ⟨I, I, J⟩ (AP.known 167 I bd (AP.q 13 I (AP.ofAO (AO.nil ?_)))))))))
 exact lg ⟨false, h, I, I⟩ [0, 1, 2, 3, 4, 5, 6, 7, 8]
 replace h := ife_f ay h
 refine AW.rd (.still 0 (.still 1 (.still 2 (.still 3 (.still 4 (.still 5 (.still 6 (.still 7 (.still 8 (.still 9 (.still 10 (.still 11 (.still 12 (.still 13 (.still 14 (.still 15 (.still 16 (.still 17 (.still 18 (.still 19 (.still 20 (.still 21 (.still 22 (.still 23 (.still 24 (.still 25 (.still 26 (.still 28 (.still 30 (.still 31 (.still 32 (.act 27 (.still 29 (.still 33 (.still 34 .nil))))))))))))))))))))))))))))))))))) [9] [_] I (AP.r 5 [.o 1 0] I ⟨I, J⟩ (AP.known 150 I ah (AP.r 6 [.o 1 0] I ⟨I, J⟩ (AP.known 156 I ay (AP.q 24 I (AP.ofAO (AO.nil ?_)))))))
 exact lg ⟨false, h, I, I⟩ [0, 1, 2, 3, 4, 5, 6, 7, 8]
 rintro s ob ⟨b8, h, rfl, rfl⟩
 unfold L.zjbu.J16 at h
 refine AW.ch h I ?_ ?_
 intro eq h
 obtain ⟨er, es, h⟩ := ob_some h
 refine AW.region (AO.q 2 I (AO.act [] I (AX.lt 1 (([(am : Int)] : List Int).map rI) (AO.act [8] I (AX.ap 8 I es (fun et => (AO.q 1 I (AO.nil ?_))))))))
 exact lg ⟨er, et, h, I, I⟩ [0, 1, 2, 3, 4, 5, 6, 7, 8]
 intro eq h
 refine AW.skip ?_
 exact lg ⟨an, ao, h, I, I⟩ [0, 1, 2, 3, 4, 5, 6, 7, 8]
 rintro s ob ⟨b7, bi, h, rfl, rfl⟩
 unfold L.zjbu.J15 at h
 refine AW.region (AO.r 2 [.k 0 (am + 1 : Nat)] I ⟨cast_wr eg b6, J⟩ ?_)
 obtain rfl := oi h
 refine AO.nil ?_
 exact lg ⟨bi, I, I⟩ [0, 1, 2, 3, 4, 5, 6, 7, 8]
 rintro an s ob ⟨ao, rfl, rfl⟩ he
 subst he
 have h := ee
 have eu : decide (((e.Segments.length : Nat) : Int) < (e.Segments.length : Int)) = false := by simp
 refine AW.z I (AW.seqG (fun go gp => (AW.condK (v := false) I eu (AW.exit ?_))))
 exact lg ⟨an, ao, h, I, I⟩ [0, 1, 2, 3, 4, 5, 6, 7, 8]
 rintro s ob ⟨b4, b5, h, rfl, rfl⟩
 unfold L.zjbu.J13 at h
 refine AW.seqG (fun gq ev => (AW.seq (AW.region (AO.q 1 I (AO.d (Yd.lenUM 8 I I I I) I (AO.q 1 I (AO.nil (AW.ch h I ?_ ?_))))))))
 intro ew h
 obtain rfl := bw _ (oi h).symm
 replace h := bv
 refine AW.exit ?_
 exact lg ⟨(H.1, H.2.1, u.2.2.2.1, H.2.2), P, h, I, I⟩ [0, 1, 2, 3, 4, 5, 6, 7]
 intro ew h
 refine AW.skip ?_
 subst ev
 refine AW.seqG (fun gr ex => ?_)
 obtain ⟨gs, ey, h⟩ := ob_some h
 obtain ⟨bj, ez, h⟩ := ob_some h
 obtain ⟨e0, cl⟩ := ix_some ez
 refine AW.region (AO.q 3 I (AO.d (Yd.lenUM 8 I I I I) I (AO.act [0] I (AX.c0 [0] (L.zdjb_ok i _ _ _ ey) ?_))))
 refine AO.d (Yd.indexU 8 (m := bj.1) I I I I I I I e0 (map_get cl)) I (AO.d (Yd.loadU 8 bj.1 0 I I I (map_get cl) I (y := .V bj.2) I) I (AO.q 1 I (AO.nil ?_)))
 subst ex
 refine AW.seqG (fun gu e1 => ?_)
 obtain ⟨gv, e2, h⟩ := ob_some h
 refine AW.region (AO.q 2 I (AO.act [] I (AX.lt 1 (([bj.2] : List Int).map rI) (AO.act [7] I (AX.ap 7 I e2 (fun e3 => (AO.q 1 I (AO.nil ?_))))))))
 subst e1
 obtain ⟨bk, e4, h⟩ := ob_some h
 obtain ⟨cm, cn⟩ := ix_some e4
 refine AW.rd (pd 16 0 []) [1] [_] I (AP.r 16 [.o 1 0, .x 3 bk.1 (Segment.row bk.2), .o 7 0, .x 9 bk.1 (Segment.row bk.2)] I ⟨⟨cm, map_get cn⟩, I, ⟨cm, map_get cn⟩, I, J⟩ (AP.ofAO ?_))
 obtain rfl := oi h
 refine AO.nil ?_
 exact ⟨_, _, _, I, ⟨e3, I, I⟩, ⟨I, I, I, I, I, I, I, I, I, I, I, J⟩, [0, 1, 2, 3, 4, 5, 6, 7], I, by decide⟩
 intro dz h
 obtain rfl := bw _ (oi h).symm
 replace h := bv
 refine AW.exit ?_
 exact lg ⟨(u.1, u.2.1, u.2.2.2.1, u.2.2.2.2), P, h, I, I⟩ [0, 1, 2, 3, 4, 5, 6, 7]
 rintro s ob ⟨B, av, h, rfl, rfl⟩
 unfold L.zjbu.J7 at h
 refine AW.seqG (fun gw e5 => (AW.z I (AW.ch h I ?_ ?_)))
 intro e6 h
 refine AW.exit ?_
 exact lg ⟨(B.1, B.2.1, c.2.2.1, c.2.2.2.1), h, I, I⟩ [0, 1, 2, 3, 4, 5, 6]
 intro e6 h
 refine AW.skip ?_
 subst e5
 refine AW.cutX (fun s ob => ∃ (a0 : List Int), L.zjbu.J8 e c D B a0 = some bg ∧ s = [] ∧ ob = [.arr i 86 2 1 [[.list 1 (B.1.map rI), .V B.2.1]], .arr M 32 6 1 [Network.row e], .arr w 46 3 1 [[.N, .N, .N]], .us a 3 1 (c.2.2.1.map rI), .us b 3 1 (a0.map rI), .arr A 46 3 1 [[.v a, .v b, .v g]], .us g 4 1 (n.2.2.map rB), .us av 3 1 (B.2.2.1.map rI)]) [(0, _), (3, _), (4, _), (5, _), (7, _), (8, _), (11, _), (12, _)] ⟨I, I, I, I, I, I, I, I, J⟩ ?_ ?_
 obtain ⟨O, e7, h⟩ := ob_some h
 obtain ⟨cb, ac⟩ := ix_some e7
 obtain ⟨Y, e8, h⟩ := ob_some h
 obtain ⟨e9, bl⟩ := ix_some e8
 obtain ⟨a1, fa, h⟩ := ob_some h
 obtain ⟨co, bm⟩ := ix_some fa
 refine AW.form 4 O.1 I ac (fun fb => (AW.form 4 Y.1 I bl (fun fc => (AW.form 4 O.1 I ac (fun cp => (AW.rd (.still 0 (.still 1 (.still 2 (.still 3 (.still 4 (.still 5 (.still 6 (.still 7 (.still 8 (.still 9 (.still 11 (.still 13 (.still 14 (.still 15 (.still 16 (.still 18 (.two 10 17 (.still 12 (.act 17 (.still 19 (.still 20 (.act 21 (.act 22 (.act 23 .nil))))))) (.still 19 (.act 10 (.still 12 (.still 20 (.act 21 (.act 22 (.act 23 .nil)))))))))))))))))))))))) [5] [_] I (AP.r 9 [.o 1 0, .o 4 0, .o 7 0] I ⟨I, I, I, J⟩ (AP.op I (Yp.indexUf (m := O.1) I I I I I fb I cb ac) I (AP.r 4 [.o 2 0] I ⟨I, J⟩ (AP.op I (Yp.indexUf (m := Y.1) I I I I I fc I e9 bl) I (AP.q 1 I (AP.two ?_ ?_))))))))))))
 refine AP.act [] I I I (AX.of_yd (Yd.loadU 4 O.1 0 I I I (map_get ac) I (y := .V O.2) I) dS (AP.q 1 I (AP.act [] I I I (AX.of_yd (Yd.loadU 4 Y.1 0 I I I (map_get bl) I (y := .V Y.2) I) dS (AP.q 1 I (AP.op I (Yp.indexUf (m := O.1) I I I I I cp I cb ac) I (AP.act [4] I I I (AX.storeU 4 O.1 0 I I I (map_get ac) I I I I (le_ble I) I (us_set (x := wr (O.2 + D.1)) I) (AP.act [] I I I (AX.of_yd (Yd.indexU 4 (m := a1.1) I I I I I I I co (map_get bm)) dS (AP.act [4] I I I (AX.storeU 4 a1.1 0 I I I (map_get bm) I I I I (le_ble I) I (us_set (x := wr (Y.2 - D.1)) I) (AP.ofAO (AO.nil ?_))))))))))))))
 exact lg ⟨((c.2.2.2.1.set O.1 (wr (O.2 + D.1))).set a1.1 (wr (Y.2 - D.1))), h, I, I⟩ [0, 1, 2, 3, 4, 5, 6, 7]
 refine AP.act [] I I I (AX.of_yd (Yd.loadU 4 Y.1 0 I I I (map_get bl) I (y := .V Y.2) I) dS (AP.q 1 I (AP.act [] I I I (AX.of_yd (Yd.loadU 4 O.1 0 I I I (map_get ac) I (y := .V O.2) I) dS (AP.q 1 I (AP.op I (Yp.indexUf (m := O.1) I I I I I cp I cb ac) I (AP.act [4] I I I (AX.storeU 4 O.1 0 I I I (map_get ac) I I I I (le_ble I) I (us_set (x := wr (O.2 + D.1)) I) (AP.act [] I I I (AX.of_yd (Yd.indexU 4 (m := a1.1) I I I I I I I co (map_get bm)) dS (AP.act [4] I I I (AX.storeU 4 a1.1 0 I I I (map_get bm) I I I I (le_ble I) I (us_set (x := wr (Y.2 - D.1)) I) (AP.ofAO (AO.nil ?_))))))))))))))
 exact lg ⟨((c.2.2.2.1.set O.1 (wr (O.2 + D.1))).set a1.1 (wr (Y.2 - D.1))), h, I, I⟩ [0, 1, 2, 3, 4, 5, 6, 7]
 rintro s ob ⟨a0, h, rfl, rfl⟩
 unfold L.zjbu.J8 at h
 refine AW.seqG (fun gx fd => (AW.region (AO.q 1 I (AO.d (Yd.lenUM 7 I I I I) I (AO.q 1 I (AO.nil ?_))))))
 subst fd
 refine AW.block (AW.usMax 7 I (fun cc => ?_))
 replace cc : B.2.2.1.length ≤ 9223372036854775806 := by rw [List.length_map] at cc; omega
 obtain ⟨gy, fe, ff⟩ := ob_some h
 clear h
 refine AW.forJY fe [(0, _), (3, _), (4, _), (5, _), (7, _), (8, _), (11, _), (239, _), (240, _)] ⟨I, I, I, I, I, I, I, I, I, J⟩ (fun (bn : Nat) (a2 : List Int) s ob => s = [(241, .V (bn : Int))] ∧ ob = [.arr i 86 2 1 [[.list 1 (B.1.map rI), .V B.2.1]], .arr M 32 6 1 [Network.row e], .arr w 46 3 1 [[.N, .N, .N]], .us a 3 1 (a2.map rI), .us b 3 1 (a0.map rI), .arr A 46 3 1 [[.v a, .v b, .v g]], .us g 4 1 (n.2.2.map rB), .us av 3 1 (B.2.2.1.map rI)]) ⟨I, I⟩ ⟨I, J⟩ ⟨[0, 1, 2, 3, 4, 5, 6, 7], I, by decide⟩ ?_ ?_
 rintro bn a2 fg s ob fh ⟨rfl, rfl⟩ h
 unfold L.zjbu.B9 at h
 have fi : decide ((bn : Int) < (B.2.2.1.length : Int)) = true := decide_eq_true (by omega)
 refine AW.z I (AW.seqG (fun gz fj => (AW.condK (v := true) I fi (AW.skip ?_))))
 subst fj
 refine AW.cutX (fun s ob => ∃ (cd : List Int), L.zjbu.J10 cd = some fg ∧ s = [] ∧ ob = [.arr i 86 2 1 [[.list 1 (B.1.map rI), .V B.2.1]], .arr M 32 6 1 [Network.row e], .arr w 46 3 1 [[.N, .N, .N]], .us a 3 1 (cd.map rI), .us b 3 1 (a0.map rI), .arr A 46 3 1 [[.v a, .v b, .v g]], .us g 4 1 (n.2.2.map rB), .us av 3 1 (B.2.2.1.map rI)]) [(0, _), (3, _), (4, _), (5, _), (7, _), (8, _), (11, _), (239, _), (240, _), (241, _)] ⟨I, I, I, I, I, I, I, I, I, I, J⟩ ?_ ?_
 refine AW.block (AW.seqG (fun g0 fk => ?_))
 obtain ⟨ce, fl, h⟩ := ob_some h
 obtain ⟨fm, cq⟩ := ix_some fl
 refine AW.region (AO.d (Yd.indexU 7 (m := ce.1) I I I I I I I fm (map_get cq)) I (AO.d (Yd.loadU 7 ce.1 0 I I I (map_get cq) I (y := .V ce.2) I) I (AO.q 1 I (AO.nil ?_))))
 subst fk
 refine AW.seqG (fun g1 fn => ?_)
 obtain ⟨bo, fo, h⟩ := ob_some h
 obtain ⟨cr, ct⟩ := ix_some fo
 refine AW.dt (pd 13 0 []) [1] [_] [.o 1 0, .x 3 bo.1 (Segment.row bo.2), .o 7 0, .x 9 bo.1 (Segment.row bo.2)] I I ⟨⟨cr, map_get ct⟩, I, ⟨cr, map_get ct⟩, I, J⟩ ?_
 subst fn
 refine AW.ch h I ?_ ?_
 intro fp h
 obtain ⟨ai, fq, h⟩ := ob_some h
 obtain ⟨cu, bp⟩ := ix_some fq
 refine AW.region (AO.r 3 [.o 1 5] I ⟨I, J⟩ (AO.d (Yd.indexU 3 (m := ai.1) I I I I I I I cu (map_get bp)) I (AO.d (Yd.loadU 3 ai.1 0 I I I (map_get bp) I (y := .V ai.2) I) I (AO.q 2 I (AO.d (Yd.indexU 3 (m := ai.1) I I I I I I I cu (map_get bp)) I (AO.act [3] I (AX.storeU 3 ai.1 0 I I I (map_get bp) I I I I (le_ble I) I (us_set (x := wr (ai.2 + D.1)) I) (AO.nil ?_))))))))
 exact lg ⟨(a2.set ai.1 (wr (ai.2 + D.1))), h, I, I⟩ [0, 1, 2, 3, 4, 5, 6, 7]
 intro fp h
 obtain ⟨aj, fr, h⟩ := ob_some h
 obtain ⟨cv, bq⟩ := ix_some fr
 refine AW.region (AO.r 3 [.o 1 5] I ⟨I, J⟩ (AO.d (Yd.indexU 3 (m := aj.1) I I I I I I I cv (map_get bq)) I (AO.d (Yd.loadU 3 aj.1 0 I I I (map_get bq) I (y := .V aj.2) I) I (AO.q 2 I (AO.d (Yd.indexU 3 (m := aj.1) I I I I I I I cv (map_get bq)) I (AO.act [3] I (AX.storeU 3 aj.1 0 I I I (map_get bq) I I I I (le_ble I) I (us_set (x := wr (aj.2 - D.1)) I) (AO.nil ?_))))))))
 exact lg ⟨(a2.set aj.1 (wr (aj.2 - D.1))), h, I, I⟩ [0, 1, 2, 3, 4, 5, 6, 7]
 rintro s ob ⟨cd, h, rfl, rfl⟩
 unfold L.zjbu.J10 at h
 refine AW.region (AO.r 2 [.k 0 (bn + 1 : Nat)] I ⟨cast_wr fh cc, J⟩ ?_)
 obtain rfl := oi h
 refine AO.nil ?_
 exact lg ⟨I, I⟩ [0, 1, 2, 3, 4, 5, 6, 7]
 rintro a2 s ob ⟨rfl, rfl⟩ he
 subst he
 have h := ff
 have fs : decide (((B.2.2.1.length : Nat) : Int) < (B.2.2.1.length : Int)) = false := by simp
 refine AW.z I (AW.seqG (fun g2 g3 => (AW.condK (v := false) I fs (AW.exit ?_))))
 exact lg ⟨(B.1, B.2.1, a2, a0), h, I, I⟩ [0, 1, 2, 3, 4, 5, 6]
 rintro s ob ⟨au, h, rfl, rfl⟩
 unfold L.zjbu.J5 at h
 refine AW.region (AO.q 3 I ?_)
 obtain rfl := oi h
 refine AO.nil ?_
 exact ⟨_, _, _, I, ⟨I, I⟩, ⟨I, I, I, I, I, I, J⟩, [0, 1, 2, 3, 4, 5, 6], I, by decide⟩
 intro dj h
 obtain rfl := dh _ (oi h).symm
 replace h := dg
 refine AW.exit ?_
 exact lg ⟨(c.1, c.2.1, c.2.2.1, c.2.2.2.1), h, I, I⟩ [0, 2, 3, 4, 5, 6]
 rintro s ob ⟨j, h, rfl, rfl⟩
 unfold L.zjbu.J3 at h
 refine AW.seq (AW.z I (AW.ch h I ?_ ?_))
 intro ft h
 refine AW.seq ?_
 obtain ⟨cw, fu, h⟩ := ob_some h
 refine AW.region (AO.r 1 [.o 0 4] I ⟨I, J⟩ (AO.ghost (Ghost.freeze [2, 3, 5] (K := [.us a 3 1 (j.2.2.1.map rI), .us b 3 1 (j.2.2.2.map rI), .us g 4 1 (n.2.2.map rB)]) I [(276, .agg [.list 1 (j.2.2.1.map rI), .list 1 (j.2.2.2.map rI), .list 1 (n.2.2.map rB)])] ⟨⟨_, I, .agg (.cons (.us 0 I) (.cons (.us 1 I) (.cons (.us 2 I) (.rest _))))⟩, J⟩ (ob' := [.arr i 86 2 1 [[.list 1 (j.1.map rI), .V j.2.1]], .arr w 46 3 1 [[.N, .N, .N]], .arr A 46 3 1 [[.list 1 (j.2.2.1.map rI), .list 1 (j.2.2.2.map rI), .list 1 (n.2.2.map rB)]]]) (.cons (.same _) (.cons (.same _) (.cons (.arr (.cons (.us 0 I) (.cons (.us 1 I) (.cons (.us 2 I) (.rest _))))) (.rest _))))) (AO.act [] I (AX.call0 I I I (L.znbg_ok _ _ fu) dS ?_))))
 rintro _ _ ⟨rfl, rfl⟩
 refine AO.act [1] I (AX.store 1 0 0 (es' := [Plan.row cw]) I I I I I I I I (le_ble I) I I (AO.nil (AW.ghost (Ghost.pick [0, 1] (K := [.arr i 86 2 1 [[.list 1 (j.1.map rI), .V j.2.1]], .arr w 46 3 1 [Plan.row cw]]) I (by decide)) ?_)))
 obtain rfl := oi h
 exact AW.ret ⟨.inr I, [_], [.arr i 86 2 1 [[.list 1 (j.1.map rI), .V j.2.1]]], ⟨⟨1, _, _, _, _, _, _, _, I, I, I, I, I⟩, J⟩, sl_c I (sl_n), ⟨[.arr i 86 2 1 [[.list 1 (j.1.map rI), .V j.2.1]]], [], I, I, I, I, I⟩⟩
 intro ft h
 refine AW.skip (AW.seq (AW.region (AO.r 1 [.o 0 4] I ⟨I, J⟩ (AO.act [1] I (AX.store 1 0 0 (es' := [[.v a, .v b, .v g]]) I I I I I I I I (le_ble I) I I (AO.nil (AW.ghost (Ghost.freeze [2, 3, 5] (K := [.us a 3 1 (j.2.2.1.map rI), .us b 3 1 (j.2.2.2.map rI), .us g 4 1 (n.2.2.map rB)]) I [(278, .agg [.list 1 (j.2.2.1.map rI), .list 1 (j.2.2.2.map rI), .list 1 (n.2.2.map rB)])] ⟨⟨_, I, .agg (.cons (.us 0 I) (.cons (.us 1 I) (.cons (.us 2 I) (.rest _))))⟩, J⟩ (ob' := [.arr i 86 2 1 [[.list 1 (j.1.map rI), .V j.2.1]], .arr w 46 3 1 [[.list 1 (j.2.2.1.map rI), .list 1 (j.2.2.2.map rI), .list 1 (n.2.2.map rB)]], .arr A 46 3 1 [[.list 1 (j.2.2.1.map rI), .list 1 (j.2.2.2.map rI), .list 1 (n.2.2.map rB)]]]) (.cons (.same _) (.cons (.arr (.cons (.us 0 I) (.cons (.us 1 I) (.cons (.us 2 I) (.rest _))))) (.cons (.arr (.cons (.us 0 I) (.cons (.us 1 I) (.cons (.us 2 I) (.rest _))))) (.rest _))))) (AW.ghost (Ghost.pick [0, 1] (K := [.arr i 86 2 1 [[.list 1 (j.1.map rI), .V j.2.1]], .arr w 46 3 1 [[.list 1 (j.2.2.1.map rI), .list 1 (j.2.2.2.map rI), .list 1 (n.2.2.map rB)]]]) I (by decide)) ?_))))))))
 obtain rfl := oi h
 exact AW.ret ⟨.inr I, [_], [.arr i 86 2 1 [[.list 1 (j.1.map rI), .V j.2.1]]], ⟨⟨1, _, _, _, _, _, _, _, I, I, I, I, I⟩, J⟩, sl_c I (sl_n), ⟨[.arr i 86 2 1 [[.list 1 (j.1.map rI), .V j.2.1]]], [], I, I, I, I, I⟩⟩
end Go.Proofs.YtaliejncdnegeaaGreat
