/- Walks that show what functions of the program compute; printed by a program of ours. No condition. -/
import Derived.Test.YtmaamhgjeampmaaGreatYsL4
set_option maxRecDepth 100000
namespace Go.Proofs.YtmaamhgjeampmaaGreat
open Go.Aw
set_option linter.unusedVariables false
set_option linter.unusedSimpArgs false
set_option maxHeartbeats 4000000
theorem L.zhea_ok (a : Int) (r : Int) (h : L.zhea a = r) : ACalls Tryz.env 77 [.V a] [] (fun x new => x = .V r ∧ new = []) := by
 refine ACalls.of_body Tryz.func77 rfl rfl rfl (fun C hC => ?_)
 unfold L.zhea at h
 refine AW.z I (AW.z I ?_)
 obtain rfl := h
 exact AW.ret pr
theorem L.znbg_ok (b : Plan) (r : Plan) (h : L.znbg b = some r) : ACalls Tryz.env 78 [.agg (Plan.row b)] [] (fun x new => x = .agg (Plan.row r) ∧ new = []) := by
 refine ACalls.of_body Tryz.func78 rfl rfl rfl (fun C hC => ?_)
 unfold L.znbg at h
 refine AW.seqG (fun y1 O => (AW.region (AO.act [] I (AX.box (cs := Plan.row b) (m := 3) I I I dS (fun B => (AO.act [] I (AX.alloc (cs := [.N, .N, .N]) (m := 3) I I I I I dS (fun g => (AO.nil ?_)))))))))
 subst O
 refine AW.seqG (fun y4 P => ?_)
 obtain ⟨d, Q, h⟩ := ob_some h
 refine AW.region (AO.act [] I (AX.buildSlice (sz := 1) (es := ([] : List Bool).map rB) I I I I I I I I I I I dS (fun v5 => (AO.r 2 [.o 1 0] I ⟨I, J⟩ (AO.act [2] I (AX.ap 2 I Q (fun a => (AO.one 2 I (fun R => (AO.p (Yp.buildP (l := [.N, .N, .v a]) Tryz.bld37 (fill_step I I (cells_v R) I (fill_nil))) I (AO.act [] I (AX.alloc (cs := [.N, .N, .N]) (m := 3) I I I I I dS (fun i => (AO.act [3] I (AX.st 3 0 0 [[.N, .N, .v a]] I (AO.nil ?_))))))))))))))))
 subst P
 refine AW.cutX (fun s ob => ∃ (e : List Int) (c : Value), L.znbg.J1 b d e = some r ∧ s = [] ∧ ob = [.arr B 37 3 1 [Plan.row b], .arr g 37 3 1 [[.N, .N, .N]], .us a 4 1 (d.map rB), .arr i 37 3 1 [[.v c, .N, .v a]], .us c 3 1 (e.map rI)]) [(1, _), (2, _), (3, _)] ⟨I, I, I, J⟩ ?_ ?_
 refine AW.zr [.o 1 0, .l 2 (b.Rates.length : Int)] I ⟨len_m, I, J⟩ (AW.block (AW.lm 12 I (fun S => (AW.ghost (Ghost.nilU 3 1) ?_))))
 obtain ⟨aq, U, W⟩ := ob_some h
 clear h
 refine AW.forY U [(1, _), (2, _), (3, _), (13, _)] ⟨I, I, I, I, J⟩ (fun (u : Nat) (w : List Int) s ob => ∃ (j : Value), s = [(14, .V (u : Int))] ∧ ob = [.arr B 37 3 1 [Plan.row b], .arr g 37 3 1 [[.N, .N, .N]], .us a 4 1 (d.map rB), .arr i 37 3 1 [[.v j, .N, .v a]], .us j 3 1 (w.map rI)]) ⟨(.slice none 0 0), I, I⟩ ⟨I, J⟩ ⟨[0, 1, 2, 3, 4], I, by decide⟩ ?_ ?_
 rintro u D w ar s ob X E ⟨j, rfl, rfl⟩ h
 unfold L.znbg.B4 at h
 have Y := lt_t E
 refine AW.z I (AW.seqG (fun au Z => (AW.condK (v := true) I Y (AW.skip ?_))))
 subst Z
 refine AW.seq (AW.block (AW.z I ?_))
 obtain ⟨av, aa, h⟩ := ob_some h
 refine AW.rd (.still 0 (.still 1 (.still 2 (.still 3 (.still 4 (.still 5 (.still 6 (.still 7 (.act 8 (.act 9 (.still 10 (.drop 11 .nil)))))))))))) [3, 0] [_, _] I (AP.r 8 [.o 1 0, .o 3 1, .x 5 u (rI D)] I ⟨⟨I, map_get X⟩, I, I, J⟩ (AP.act [] I I I (AX.lt 1 (([wr (0 - D)] : List Int).map rI) (AP.act [4] I I I (AX.ap 4 I aa (fun F => (AP.q 1 I (AP.one 4 I (fun ab => (AP.drop [3] I I I (AX.store 3 0 0 (es' := [[.v F, .N, .v a]]) I I I I I I (cells_v ab) I (le_ble I) I I (AP.ofAO (AO.nil (AW.region (AO.r 2 [.k 0 (u + 1 : Nat)] I ⟨cast_wr E S, J⟩ ?_)))))))))))))))
 obtain rfl := oi h
 refine AO.nil ?_
 exact lg ⟨F, I, I⟩ [0, 1, 2, 3, 4]
 rintro w s ob ⟨j, rfl, rfl⟩ he
 subst he
 have h := W
 have ac := lt_f b.Rates.length
 refine AW.z I (AW.seqG (fun aw ax => (AW.condK (v := false) I ac (AW.exit ?_))))
 exact lg ⟨w, j, h, I, I⟩ [0, 1, 2, 3, 4]
 rintro s ob ⟨e, c, h, rfl, rfl⟩
 unfold L.znbg.J1 at h
 refine AW.cutX (fun s ob => ∃ (n : List Int) (f : Value), L.znbg.J2 d e n = some r ∧ s = [] ∧ ob = [.arr g 37 3 1 [[.N, .N, .N]], .us a 4 1 (d.map rB), .arr i 37 3 1 [[.v c, .v f, .v a]], .us c 3 1 (e.map rI), .us f 3 1 (n.map rI)]) [(2, _), (3, _)] ⟨I, I, J⟩ ?_ ?_
 refine AW.zr [.o 1 0, .l 2 (b.Ports.length : Int)] I ⟨len_m, I, J⟩ (AW.block (AW.lm 30 I (fun ad => (AW.ghost (Ghost.nilU 3 1) ?_))))
 obtain ⟨ay, ae, af⟩ := ob_some h
 clear h
 refine AW.forY ae [(1, _), (2, _), (3, _), (31, _)] ⟨I, I, I, I, J⟩ (fun (y : Nat) (A : List Int) s ob => ∃ (t : Value), s = [(32, .V (y : Int))] ∧ ob = [.arr B 37 3 1 [Plan.row b], .arr g 37 3 1 [[.N, .N, .N]], .us a 4 1 (d.map rB), .arr i 37 3 1 [[.v c, .v t, .v a]], .us c 3 1 (e.map rI), .us t 3 1 (A.map rI)]) ⟨(.slice none 0 0), I, I⟩ ⟨I, J⟩ ⟨[0, 1, 2, 3, 4, 5], I, by decide⟩ ?_ ?_
 rintro y G A az s ob ag H ⟨t, rfl, rfl⟩ h
 unfold L.znbg.B3 at h
 have ah := lt_t H
 refine AW.z I (AW.seqG (fun a0 ai => (AW.condK (v := true) I ah (AW.skip ?_))))
 subst ai
 refine AW.seq (AW.block (AW.z I ?_))
 obtain ⟨a1, aj, h⟩ := ob_some h
 refine AW.rd (.still 0 (.still 1 (.still 2 (.still 3 (.still 4 (.still 5 (.still 6 (.still 7 (.act 8 (.act 9 (.still 10 (.drop 11 .nil)))))))))))) [3, 0] [_, _] I (AP.r 8 [.o 1 0, .o 3 1, .x 5 y (rI G)] I ⟨⟨I, map_get ag⟩, I, I, J⟩ (AP.act [] I I I (AX.lt 1 (([wr (0 - G)] : List Int).map rI) (AP.act [5] I I I (AX.ap 5 I aj (fun M => (AP.q 1 I (AP.one 5 I (fun ak => (AP.drop [3] I I I (AX.store 3 0 1 (es' := [[.v c, .v M, .v a]]) I I I I I I (cells_v ak) I (le_ble I) I I (AP.ofAO (AO.nil (AW.region (AO.r 2 [.k 0 (y + 1 : Nat)] I ⟨cast_wr H ad, J⟩ ?_)))))))))))))))
 obtain rfl := oi h
 refine AO.nil ?_
 exact lg ⟨M, I, I⟩ [0, 1, 2, 3, 4, 5]
 rintro A s ob ⟨t, rfl, rfl⟩ he
 subst he
 have h := af
 have al := lt_f b.Ports.length
 refine AW.z I (AW.seqG (fun a2 a3 => (AW.condK (v := false) I al (AW.exit ?_))))
 exact lg ⟨A, t, h, I, I⟩ [1, 2, 3, 4, 5]
 rintro s ob ⟨n, f, h, rfl, rfl⟩
 unfold L.znbg.J2 at h
 refine AW.seq (AW.region (AO.r 1 [.o 0 2] I ⟨I, J⟩ (AO.act [0] I (AX.st 0 0 0 [[.v c, .v f, .v a]] I (AO.nil (AW.ghost (Ghost.freeze [1, 3, 4] (K := [.us a 4 1 (d.map rB), .us c 3 1 (e.map rI), .us f 3 1 (n.map rI)]) I [] J (ob' := [.arr g 37 3 1 [[.list 1 (e.map rI), .list 1 (n.map rI), .list 1 (d.map rB)]], .arr i 37 3 1 [[.v c, .v f, .v a]]]) (.cons (.arr (.cons (.us 1 I) (.cons (.us 2 I) (.cons (.us 0 I) (.rest _))))) (.rest _))) (AW.gp [0] I ?_)))))))
 obtain rfl := oi h
 exact AW.ret ⟨.inr I, [_], [], ⟨⟨0, _, _, _, _, _, _, _, I, I, I, I, I⟩, J⟩, sl_n, I, I⟩
theorem L.zjbu_ok (i : Nat) (a3 : KS) (j : Network) (r : Plan × KS) (h : L.zjbu a3 j = some r) : ACalls Tryz.env 31 [.v (.pointer (some ⟨i, 0, none⟩)), .agg (Network.row j)] [.arr i 88 2 1 [KS.row a3]] (Gives 1 (fun x os new => x = .agg (Plan.row r.1) ∧ os = [.arr i 88 2 1 [KS.row r.2]] ∧ new = [])) := by
 refine ACalls.of_body Tryz.func31 rfl rfl rfl (fun C hC => ?_)
 unfold L.zjbu at h
 refine AW.seqG (fun y1 co => (AW.region (AO.act [] I (AX.box (cs := Network.row j) (m := 6) I I I dS (fun G => (AO.act [] I (AX.alloc (cs := [.N, .N, .N]) (m := 3) I I I I I dS (fun D => (AO.nil ?_)))))))))
 subst co
 refine AW.cutX (fun s ob => ∃ (S : (List Int) × (List Int)) (w : Nat) (a : Value) (c : Value), L.zjbu.J1 a3 j S = some r ∧ s = [(5, .v (.pointer (some ⟨w, 0, none⟩)))] ∧ ob = [.arr i 88 2 1 [KS.row a3], .arr G 32 6 1 [Network.row j], .arr D 37 3 1 [[.N, .N, .N]], .us a 3 1 (S.1.map rI), .us c 3 1 (S.2.map rI), .arr w 37 3 1 [[.v a, .v c, .N]]]) [(0, _), (3, _), (4, _)] ⟨I, I, I, J⟩ ?_ ?_
 obtain ⟨bx, ⟨fg, cp, cq, cr⟩, h⟩ := ob_mk h
 obtain ⟨bz, ⟨fh, ct, cu, cv⟩, h⟩ := ob_mk h
 refine AW.rd (.still 0 (.still 1 (.still 2 (.still 4 (.still 5 (.still 6 (.par [(3, []), (7, []), (9, []), (8, [3, 7])] (.act 10 .nil)))))))) [1] [_] I (AP.r 6 [.o 1 0, .l 2 (j.Segments.length : Int), .o 4 0, .l 5 (j.Ports.length : Int)] I ⟨len_m, I, len_m, I, J⟩ (AP.any [⟨3, [], 25, .us 3 1 (bx.map rI)⟩, ⟨7, [], 29, .us 3 1 (bz.map rI)⟩, ⟨9, [], 5, .box 37 3 ([.N, .N, .N])⟩, ⟨8, [3, 7], 30, .fn (fun l => match l with | [.v ae, .v af] => .agg [.v ae, .v af, .N] | _ => .tup [])⟩] I ⟨⟨_, I, I, I, fun _ => AX.makeU (sz := 1) I I I I I I I I I I cp cq (rep_map (f := rI) cr I) dS (fun v => ⟨_, I, ⟨v, I⟩, I⟩)⟩, ⟨_, I, I, I, fun _ => AX.makeU (sz := 1) I I I I I I I I I I ct cu (rep_map (f := rI) cv I) dS (fun v => ⟨_, I, ⟨v, I⟩, I⟩)⟩, ⟨_, I, I, I, fun _ => AX.alloc (cs := [.N, .N, .N]) (m := 3) I I I I I dS (fun b => ⟨_, I, ⟨b, I⟩, I⟩)⟩, ⟨_, I, I, I, fun ae b1 af b4 _ => AX.of_yd (Yp.yd (Yp.buildP (l := [.v ae, .v af, .N]) Tryz.bld37 (fill_step I I (cells_v b1) I (fill_step I I (cells_v b4) I (fill_nil))))) dS ⟨_, I, I, nb⟩⟩, J⟩ ?_))
 intro ae b1 af b4 cw
 refine AP.same 30 (.agg [.v ae, .v af, .N]) I (AP.act [5] I I I (AX.st 5 0 0 [[.v ae, .v af, .N]] I (AP.ofAO (AO.nil ?_))))
 exact lg ⟨(bx, bz), cw, ae, af, h, I, I⟩ [0, 1, 2, 3, 4, 5]
 rintro s ob ⟨S, w, a, c, h, rfl, rfl⟩
 unfold L.zjbu.J1 at h
 refine AW.cutX (fun s ob => ∃ (p : (List Int) × Int × (List Bool)) (g : Value), L.zjbu.J2 j S p = some r ∧ s = [] ∧ ob = [.arr i 88 2 1 [[.list 1 (p.1.map rI), .V p.2.1]], .arr G 32 6 1 [Network.row j], .arr D 37 3 1 [[.N, .N, .N]], .us a 3 1 (S.1.map rI), .us c 3 1 (S.2.map rI), .arr w 37 3 1 [[.v a, .v c, .v g]], .us g 4 1 (p.2.2.map rB)]) [(0, _), (3, _), (4, _), (5, _)] ⟨I, I, I, I, J⟩ ?_ ?_
 refine AW.z I (AW.block (AW.ghost (Ghost.nilU 4 1) ?_))
 obtain ⟨fi, cx, cy⟩ := ob_some h
 clear h
 refine AW.loopX cx [(0, _), (3, _), (4, _), (5, _)] ⟨I, I, I, I, J⟩ (fun (Y : (List Int) × Int × (List Bool) × Int) s ob => ∃ (a4 : Value), s = [(6, .V Y.2.2.2)] ∧ ob = [.arr i 88 2 1 [[.list 1 (Y.1.map rI), .V Y.2.1]], .arr G 32 6 1 [Network.row j], .arr D 37 3 1 [[.N, .N, .N]], .us a 3 1 (S.1.map rI), .us c 3 1 (S.2.map rI), .arr w 37 3 1 [[.v a, .v c, .v a4]], .us a4 4 1 (Y.2.2.1.map rB)]) ⟨(.slice none 0 0), I, I⟩ ⟨I, J⟩ ⟨[0, 1, 2, 3, 4, 5, 6], I, by decide⟩ ?_
 rintro Y fj s ob ⟨a4, rfl, rfl⟩ h cz
 unfold L.zjbu.B20 at h
 refine AW.seqG (fun fk c1 => (AW.zr [.o 2 1, .l 3 (j.Stations.length : Int)] I ⟨len_m, I, J⟩ (AW.ch h I ?_ ?_)))
 intro c2 h
 refine AW.skip ?_
 subst c1
 refine AW.seq (AW.block ?_)
 obtain ⟨c3, c4, h⟩ := ob_some h
 obtain ⟨fl, c5, h⟩ := ob_some h
 refine AW.rd (.still 0 (.still 1 (.still 2 (.act 3 (.still 4 (.act 5 (.act 6 (.still 7 (.drop 8 .nil))))))))) [5] [_] I (AP.r 3 [.o 1 0] I ⟨I, J⟩ (AP.act [0] I I I (AX.c0 [0] (L.zdjb_ok i _ _ _ c4) ?_)))
 refine AP.q 1 I (AP.act [] I I I (AX.lt 1 (([(c3.1 == 0)] : List Bool).map rB) (AP.act [6] I I I (AX.ap 6 I c5 (fun b5 => (AP.q 1 I (AP.one 6 I (fun c6 => (AP.drop [5] I I I (AX.store 5 0 2 (es' := [[.v a, .v c, .v b5]]) I I I I I I (cells_v c6) I (le_ble I) I I (AP.ofAO (AO.nil (AW.region (AO.q 3 I ?_))))))))))))))
 obtain rfl := oi h
 refine AO.nil ?_
 exact ⟨_, _, _, I, ⟨b5, I, I⟩, ⟨I, I, I, I, I, J⟩, [0, 1, 2, 3, 4, 5, 6], I, by decide⟩
 intro c2 h
 obtain rfl := cz _ (oi h).symm
 replace h := cy
 refine AW.exit ?_
 exact lg ⟨(Y.1, Y.2.1, Y.2.2.1), a4, h, I, I⟩ [0, 1, 2, 3, 4, 5, 6]
 rintro s ob ⟨p, g, h, rfl, rfl⟩
 unfold L.zjbu.J2 at h
 refine AW.seqG (fun fm c7 => ?_)
 obtain ⟨c8, c9, h⟩ := ob_some h
 refine AW.region (AO.q 1 I (AO.act [0] I (AX.c0 [0] (L.zdjb_ok i _ _ _ c9) ?_)))
 refine AO.q 2 I (AO.nil ?_)
 subst c7
 refine AW.cutX (fun s ob => ∃ (u : (List Int) × Int × (List Int) × (List Int)), L.zjbu.J3 p c8 u = some r ∧ s = [] ∧ ob = [.arr i 88 2 1 [[.list 1 (u.1.map rI), .V u.2.1]], .arr D 37 3 1 [[.N, .N, .N]], .us a 3 1 (u.2.2.1.map rI), .us c 3 1 (u.2.2.2.map rI), .arr w 37 3 1 [[.v a, .v c, .v g]], .us g 4 1 (p.2.2.map rB)]) [(4, _), (5, _), (7, _)] ⟨I, I, I, J⟩ ?_ ?_
 refine AW.seqG (fun fo da => ?_)
 obtain ⟨fp, db, h⟩ := ob_some h
 refine AW.region (AO.q 1 I (AO.act [0] I (AX.c0 [0] (L.zdjb_ok i _ _ _ db) ?_)))
 refine AO.q 1 I (AO.nil ?_)
 subst da
 refine AW.block ?_
 obtain ⟨fq, dc, dd⟩ := ob_some h
 clear h
 refine AW.loopX dc [(0, _), (3, _), (4, _), (5, _), (7, _)] ⟨I, I, I, I, I, J⟩ (fun (e : (List Int) × Int × (List Int) × (List Int) × Int) s ob => s = [(8, .V e.2.2.2.2)] ∧ ob = [.arr i 88 2 1 [[.list 1 (e.1.map rI), .V e.2.1]], .arr G 32 6 1 [Network.row j], .arr D 37 3 1 [[.N, .N, .N]], .us a 3 1 (e.2.2.1.map rI), .us c 3 1 (e.2.2.2.1.map rI), .arr w 37 3 1 [[.v a, .v c, .v g]], .us g 4 1 (p.2.2.map rB)]) ⟨I, I⟩ ⟨I, J⟩ ⟨[0, 1, 2, 3, 4, 5, 6], I, by decide⟩ ?_
 rintro e a5 s ob ⟨rfl, rfl⟩ h de
 unfold L.zjbu.B4 at h
 refine AW.seqG (fun fr df => (AW.z I (AW.ch h I ?_ ?_)))
 intro dg h
 refine AW.skip ?_
 subst df
 refine AW.cutX (fun s ob => ∃ (al : (List Int) × Int × (List Int) × (List Int)), L.zjbu.J5 e al = some a5 ∧ s = [] ∧ ob = [.arr i 88 2 1 [[.list 1 (al.1.map rI), .V al.2.1]], .arr G 32 6 1 [Network.row j], .arr D 37 3 1 [[.N, .N, .N]], .us a 3 1 (al.2.2.1.map rI), .us c 3 1 (al.2.2.2.map rI), .arr w 37 3 1 [[.v a, .v c, .v g]], .us g 4 1 (p.2.2.map rB)]) [(0, _), (3, _), (4, _), (5, _), (7, _), (8, _)] ⟨I, I, I, I, I, I, J⟩ ?_ ?_
 refine AW.block (AW.seqG (fun fs dh => ?_))
 obtain ⟨bf, di, h⟩ := ob_some h
 refine AW.region (AO.r 4 [.o 2 1, .l 3 (j.Ports.length : Int)] I ⟨len_m, I, J⟩ (AO.act [0] I (AX.c0 [0] (L.zdjb_ok i _ _ _ di) ?_)))
 refine AO.q 1 I (AO.nil ?_)
 subst dh
 refine AW.seqG (fun ft dj => ?_)
 obtain ⟨bg, ⟨dk, dl⟩, h⟩ := ob_ix h
 obtain ⟨fu, dm, h⟩ := ob_some h
 obtain ⟨A, dn, h⟩ := ob_some h
 refine AW.rd (pd 13 0 [8, 9, 10]) [1] [_] I (AP.r 8 [.o 1 0, .x 3 bg.1 (Port.row bg.2)] I ⟨⟨dk, map_get dl⟩, I, J⟩ (AP.act [] I I I (AX.lt 1 (([1, 5, 30, 300] : List Int).map rI) (AP.act [0] I I I (AX.c0 [0] (L.ztqk_ok i _ _ _ dm) ?_)))))
 refine AP.act [0] I I I (AX.c0 [0] (L.ziuk_ok i _ _ _ _ dn) ?_)
 refine AP.q 2 I (AP.ofAO (AO.nil ?_))
 subst dj
 refine AW.seqG (fun fv dp => (AW.cutX (fun s ob => ∃ (bh : Bool), L.zjbu.J6 j e bf bg A bh = some a5 ∧ s = [(86, .v (.bool bh))] ∧ ob = [.arr i 88 2 1 [KS.row A.2], .arr G 32 6 1 [Network.row j], .arr D 37 3 1 [[.N, .N, .N]], .us a 3 1 (e.2.2.1.map rI), .us c 3 1 (e.2.2.2.1.map rI), .arr w 37 3 1 [[.v a, .v c, .v g]], .us g 4 1 (p.2.2.map rB)]) [(0, _), (3, _), (4, _), (5, _), (7, _), (8, _), (9, _), (10, _), (11, _)] ⟨I, I, I, I, I, I, I, I, I, J⟩ ?_ ?_))
 obtain ⟨Z, ⟨b6, a6⟩, h⟩ := ob_ix h
 refine AW.region (AO.r 3 [.o 1 5] I ⟨I, J⟩ (AO.d (Yd.indexU 4 (m := Z.1) I I I I I I I b6 (map_get a6)) I (AO.d (Yd.loadU 4 Z.1 0 I I I (map_get a6) I (y := .V Z.2) I) I (AO.q 2 I ?_))))
 rcases bt (decide (Z.2 < 0)) with ay | ay
 replace h := ife_t ay h
 refine AO.known 77 I ay (AO.q 9 I (AO.nil ?_))
 exact lg ⟨true, h, I, I⟩ [0, 1, 2, 3, 4, 5, 6]
 replace h := ife_f ay h
 refine AO.known 77 I ay (AO.r 3 [.o 1 5] I ⟨I, J⟩ (AO.gt I I I (AO.d (Yd.indexU 4 (m := Z.1) I I I I I I I b6 (map_get a6)) I (AO.gt I I I (AO.d (Yd.loadU 4 Z.1 0 I I I (map_get a6) I (y := .V Z.2) I) I (AO.q 4 I (AO.nil ?_)))))))
 exact lg ⟨decide ((wr (Z.2 + A.1)) > 1000), h, I, I⟩ [0, 1, 2, 3, 4, 5, 6]
 rintro s ob ⟨bh, h, rfl, rfl⟩
 unfold L.zjbu.J6 at h
 refine AW.ch h I ?_ ?_
 intro dq h
 refine AW.exit ?_
 exact lg ⟨(A.2.L_, A.2.At, e.2.2.1, e.2.2.2.1), h, I, I⟩ [0, 1, 2, 3, 4, 5, 6]
 intro dq h
 refine AW.skip ?_
 subst dp
 refine AW.z I (AW.z I (AW.cutX (fun s ob => ∃ (E : (List Int) × Int × (List Int) × Int) (am : Value), L.zjbu.J7 j e bf A E = some a5 ∧ s = [(12, .v am), (13, .V E.2.2.2)] ∧ ob = [.arr i 88 2 1 [[.list 1 (E.1.map rI), .V E.2.1]], .arr G 32 6 1 [Network.row j], .arr D 37 3 1 [[.N, .N, .N]], .us a 3 1 (e.2.2.1.map rI), .us c 3 1 (e.2.2.2.1.map rI), .arr w 37 3 1 [[.v a, .v c, .v g]], .us g 4 1 (p.2.2.map rB), .us am 3 1 (E.2.2.1.map rI)]) [(0, _), (3, _), (4, _), (5, _), (7, _), (8, _), (9, _), (11, _)] ⟨I, I, I, I, I, I, I, I, J⟩ ?_ ?_))
 refine AW.block (AW.ghost (Ghost.nilU 3 1) ?_)
 obtain ⟨fw, dr, bi⟩ := ob_some h
 clear h
 refine AW.loopX dr [(0, _), (3, _), (4, _), (5, _), (7, _), (8, _), (9, _), (11, _)] ⟨I, I, I, I, I, I, I, I, J⟩ (fun (n : (List Int) × Int × Int × (List Int) × Int) s ob => ∃ (M : Value), s = [(10, .V n.2.2.1), (12, .v M), (13, .V n.2.2.2.2)] ∧ ob = [.arr i 88 2 1 [[.list 1 (n.1.map rI), .V n.2.1]], .arr G 32 6 1 [Network.row j], .arr D 37 3 1 [[.N, .N, .N]], .us a 3 1 (e.2.2.1.map rI), .us c 3 1 (e.2.2.2.1.map rI), .arr w 37 3 1 [[.v a, .v c, .v g]], .us g 4 1 (p.2.2.map rB), .us M 3 1 (n.2.2.2.1.map rI)]) ⟨(.slice none 0 0), I, I⟩ ⟨I, I, I, J⟩ ⟨[0, 1, 2, 3, 4, 5, 6, 7], I, by decide⟩ ?_
 rintro n b7 s ob ⟨M, rfl, rfl⟩ h bj
 unfold L.zjbu.B11 at h
 refine AW.seqG (fun fx ds => (AW.z I (AW.ch h I ?_ ?_)))
 intro du h
 refine AW.skip ?_
 subst ds
 refine AW.block (AW.cutX (fun s ob => ∃ (F : (List Int) × Int × Int), L.zjbu.J12 j e A n F = some b7 ∧ s = [(13, .V F.2.2)] ∧ ob = [.arr i 88 2 1 [[.list 1 (F.1.map rI), .V F.2.1]], .arr G 32 6 1 [Network.row j], .arr D 37 3 1 [[.N, .N, .N]], .us a 3 1 (e.2.2.1.map rI), .us c 3 1 (e.2.2.2.1.map rI), .arr w 37 3 1 [[.v a, .v c, .v g]], .us g 4 1 (p.2.2.map rB), .us M 3 1 (n.2.2.2.1.map rI)]) [(0, _), (3, _), (4, _), (5, _), (7, _), (8, _), (9, _), (10, _), (11, _), (12, _)] ⟨I, I, I, I, I, I, I, I, I, I, J⟩ ?_ ?_)
 refine AW.zr [.o 1 1, .l 2 (j.Ports.length : Int)] I ⟨len_m, I, J⟩ (AW.block (AW.lm 90 I (fun dv => ?_)))
 obtain ⟨fy, dw, dx⟩ := ob_some h
 clear h
 refine AW.forY dw [(0, _), (3, _), (4, _), (5, _), (7, _), (8, _), (9, _), (10, _), (11, _), (12, _), (90, _), (91, _)] ⟨I, I, I, I, I, I, I, I, I, I, I, I, J⟩ (fun (ag : Nat) (P : (List Int) × Int × Int) s ob => s = [(92, .V (ag : Int)), (13, .V P.2.2)] ∧ ob = [.arr i 88 2 1 [[.list 1 (P.1.map rI), .V P.2.1]], .arr G 32 6 1 [Network.row j], .arr D 37 3 1 [[.N, .N, .N]], .us a 3 1 (e.2.2.1.map rI), .us c 3 1 (e.2.2.2.1.map rI), .arr w 37 3 1 [[.v a, .v c, .v g]], .us g 4 1 (p.2.2.map rB), .us M 3 1 (n.2.2.2.1.map rI)]) ⟨I, I⟩ ⟨I, I, J⟩ ⟨[0, 1, 2, 3, 4, 5, 6, 7], I, by decide⟩ ?_ ?_
 rintro ag bk P b8 s ob dy b9 ⟨rfl, rfl⟩ h
 unfold L.zjbu.B17 at h
 have dz := lt_t b9
 refine AW.z I (AW.seqG (fun fz d0 => (AW.condK (v := true) I dz (AW.skip ?_))))
 subst d0
 refine AW.cutX (fun s ob => ∃ (az : (List Int) × Int × Int), L.zjbu.J18 az = some b8 ∧ s = [(13, .V az.2.2)] ∧ ob = [.arr i 88 2 1 [[.list 1 (az.1.map rI), .V az.2.1]], .arr G 32 6 1 [Network.row j], .arr D 37 3 1 [[.N, .N, .N]], .us a 3 1 (e.2.2.1.map rI), .us c 3 1 (e.2.2.2.1.map rI), .arr w 37 3 1 [[.v a, .v c, .v g]], .us g 4 1 (p.2.2.map rB), .us M 3 1 (n.2.2.2.1.map rI)]) [(0, _), (3, _), (4, _), (5, _), (7, _), (8, _), (9, _), (10, _), (11, _), (12, _), (90, _), (91, _), (92, _)] ⟨I, I, I, I, I, I, I, I, I, I, I, I, I, J⟩ ?_ ?_
 refine AW.block (AW.seqG (fun f0 d1 => (AW.region (AO.r 3 [.x 1 ag (Port.row bk)] I ⟨⟨I, map_get dy⟩, J⟩ (AO.act [] I (AX.alloc (cs := [.v (.string ⟨#[]⟩), .V 0, .V 0]) (m := 3) I I I I I dS (fun f1 => (AO.q 1 I (AO.act [8] I (AX.st 8 0 0 [Port.row bk] I (AO.nil ?_)))))))))))
 subst d1
 refine AW.cutX (fun s ob => ∃ (U : (List Int) × Int × Bool), L.zjbu.J19 ag P U = some b8 ∧ s = [(133, .v (.bool U.2.2))] ∧ ob = [.arr i 88 2 1 [[.list 1 (U.1.map rI), .V U.2.1]], .arr G 32 6 1 [Network.row j], .arr D 37 3 1 [[.N, .N, .N]], .us a 3 1 (e.2.2.1.map rI), .us c 3 1 (e.2.2.2.1.map rI), .arr w 37 3 1 [[.v a, .v c, .v g]], .us g 4 1 (p.2.2.map rB), .us M 3 1 (n.2.2.2.1.map rI)]) [(0, _), (3, _), (4, _), (5, _), (7, _), (8, _), (9, _), (10, _), (11, _), (12, _), (13, _), (14, _), (90, _), (91, _), (92, _)] ⟨I, I, I, I, I, I, I, I, I, I, I, I, I, I, I, J⟩ ?_ ?_
 rcases bt ((bk.Node == n.2.2.1)) with W | W
 replace h := ife_t W h
 rcases bt (((ag : Int) != bf.1)) with aa | aa
 replace h := ife_t aa h
 obtain ⟨B, ⟨ah, O⟩, h⟩ := ob_ix h
 rcases bt (decide (B.2 ≤ 0)) with ai | ai
 replace h := ife_t ai h
 rcases bt (decide ((wr (B.2 - A.1)) ≥ (-1000))) with an | an
 replace h := ife_t an h
 rcases bt (decide ((n.2.2.2.1.length : Int) > 0)) with a0 | a0
 replace h := ife_t a0 h
 obtain ⟨bl, d2, h⟩ := ob_some h
 refine AW.region (AO.r 5 [.o 1 8] I ⟨I, J⟩ (AO.known 101 I W (AO.q 5 I (AO.known 106 I aa (AO.r 3 [.o 1 5] I ⟨I, J⟩ (AO.gt I I I (AO.d (Yd.indexU 4 (m := B.1) I I I I I I I ah (map_get O)) I (AO.gt I I I (AO.d (Yd.loadU 4 B.1 0 I I I (map_get O) I (y := .V B.2) I) I (AO.q 3 I (AO.known 114 I ai (AO.r 3 [.o 1 5] I ⟨I, J⟩ ?_))))))))))))
 refine AO.gt I I I (AO.d (Yd.indexU 4 (m := B.1) I I I I I I I ah (map_get O)) I (AO.gt I I I (AO.d (Yd.loadU 4 B.1 0 I I I (map_get O) I (y := .V B.2) I) I (AO.q 5 I (AO.known 124 I an (AO.q 1 I (AO.gt I I I (AO.d (Yd.lenUM 7 I I I I) I (AO.q 3 I (AO.known 129 I a0 (AO.q 1 I (AO.gt I I I ?_))))))))))))
 refine AO.act [0] I (AX.c0 [0] (L.zdjb_ok i _ _ _ d2) ?_)
 refine AO.q 2 I (AO.nil ?_)
 exact lg ⟨(bl.2.L_, bl.2.At, (bl.1 == 0)), h, I, I⟩ [0, 1, 2, 3, 4, 5, 6, 7]
 replace h := ife_f a0 h
 refine AW.region (AO.r 5 [.o 1 8] I ⟨I, J⟩ (AO.known 101 I W (AO.q 5 I (AO.known 106 I aa (AO.r 3 [.o 1 5] I ⟨I, J⟩ (AO.gt I I I (AO.d (Yd.indexU 4 (m := B.1) I I I I I I I ah (map_get O)) I (AO.gt I I I (AO.d (Yd.loadU 4 B.1 0 I I I (map_get O) I (y := .V B.2) I) I (AO.q 3 I (AO.known 114 I ai (AO.r 3 [.o 1 5] I ⟨I, J⟩ ?_))))))))))))
 refine AO.gt I I I (AO.d (Yd.indexU 4 (m := B.1) I I I I I I I ah (map_get O)) I (AO.gt I I I (AO.d (Yd.loadU 4 B.1 0 I I I (map_get O) I (y := .V B.2) I) I (AO.q 5 I (AO.known 124 I an (AO.q 1 I (AO.gt I I I (AO.d (Yd.lenUM 7 I I I I) I (AO.q 3 I (AO.known 129 I a0 (AO.q 4 I (AO.nil ?_))))))))))))
 rotate_left
 replace h := ife_f an h
 refine AW.region (AO.r 5 [.o 1 8] I ⟨I, J⟩ (AO.known 101 I W (AO.q 5 I (AO.known 106 I aa (AO.r 3 [.o 1 5] I ⟨I, J⟩ (AO.gt I I I (AO.d (Yd.indexU 4 (m := B.1) I I I I I I I ah (map_get O)) I (AO.gt I I I (AO.d (Yd.loadU 4 B.1 0 I I I (map_get O) I (y := .V B.2) I) I (AO.q 3 I (AO.known 114 I ai (AO.r 3 [.o 1 5] I ⟨I, J⟩ ?_))))))))))))
 refine AO.gt I I I (AO.d (Yd.indexU 4 (m := B.1) I I I I I I I ah (map_get O)) I (AO.gt I I I (AO.d (Yd.loadU 4 B.1 0 I I I (map_get O) I (y := .V B.2) I) I (AO.q 5 I (AO.known 124 I an (AO.q 9 I (AO.nil ?_)))))))
 rotate_left
 replace h := ife_f ai h
 refine AW.region (AO.r 5 [.o 1 8] I ⟨I, J⟩ (AO.known 101 I W (AO.q 5 I (AO.known 106 I aa (AO.r 3 [.o 1 5] I ⟨I, J⟩ (AO.gt I I I (AO.d (Yd.indexU 4 (m := B.1) I I I I I I I ah (map_get O)) I (AO.gt I I I (AO.d (Yd.loadU 4 B.1 0 I I I (map_get O) I (y := .V B.2) I) I (AO.q 3 I (AO.known 114 I ai (AO.q 19 I ?_))))))))))))
 refine AO.nil ?_
 rotate_left
 replace h := ife_f aa h
 refine AW.region (AO.r 5 [.o 1 8] I ⟨I, J⟩ (AO.known 101 I W (AO.q 5 I (AO.known 106 I aa (AO.q 27 I (AO.nil ?_))))))
 rotate_left
 replace h := ife_f W h
 refine AW.region (AO.r 5 [.o 1 8] I ⟨I, J⟩ (AO.known 101 I W (AO.q 32 I (AO.nil ?_))))
 any_goals
  exact lg ⟨(P.1, P.2.1, false), h, I, I⟩ [0, 1, 2, 3, 4, 5, 6, 7]
 rintro s ob ⟨U, h, rfl, rfl⟩
 unfold L.zjbu.J19 at h
 refine AW.ch h I ?_ ?_
 intro d3 h
 refine AW.t I ?_
 exact lg ⟨(U.1, U.2.1, (ag : Int)), h, I, I⟩ [0, 1, 2, 3, 4, 5, 6, 7]
 intro d3 h
 refine AW.skip ?_
 exact lg ⟨(U.1, U.2.1, P.2.2), h, I, I⟩ [0, 1, 2, 3, 4, 5, 6, 7]
 rintro s ob ⟨az, h, rfl, rfl⟩
 unfold L.zjbu.J18 at h
 refine AW.region (AO.r 2 [.k 0 (ag + 1 : Nat)] I ⟨cast_wr b9 dv, J⟩ ?_)
 obtain rfl := oi h
 refine AO.nil ?_
 exact lg ⟨I, I⟩ [0, 1, 2, 3, 4, 5, 6, 7]
 rintro P s ob ⟨rfl, rfl⟩ he
 subst he
 have h := dx
 have d4 := lt_f j.Ports.length
 refine AW.z I (AW.seqG (fun f2 f3 => (AW.condK (v := false) I d4 (AW.exit ?_))))
 exact lg ⟨(P.1, P.2.1, P.2.2), h, I, I⟩ [0, 1, 2, 3, 4, 5, 6, 7]
 rintro s ob ⟨F, h, rfl, rfl⟩
 unfold L.zjbu.J12 at h
 refine AW.seqG (fun f4 d5 => (AW.z I (AW.ch h I ?_ ?_)))
 intro d6 h
 obtain rfl := bj _ (oi h).symm
 replace h := bi
 refine AW.exit ?_
 exact lg ⟨(F.1, F.2.1, n.2.2.2.1, F.2.2), M, h, I, I⟩ [0, 1, 2, 3, 4, 5, 6, 7]
 intro d6 h
 refine AW.skip ?_
 subst d5
 refine AW.z I (AW.cutX (fun s ob => ∃ (bm : List Int) (bn : Value), L.zjbu.J13 j n F bm = some b7 ∧ s = [(16, .v bn)] ∧ ob = [.arr i 88 2 1 [[.list 1 (F.1.map rI), .V F.2.1]], .arr G 32 6 1 [Network.row j], .arr D 37 3 1 [[.N, .N, .N]], .us a 3 1 (e.2.2.1.map rI), .us c 3 1 (e.2.2.2.1.map rI), .arr w 37 3 1 [[.v a, .v c, .v g]], .us g 4 1 (p.2.2.map rB), .us M 3 1 (n.2.2.2.1.map rI), .us bn 3 1 (bm.map rI)]) [(0, _), (3, _), (4, _), (5, _), (7, _), (8, _), (9, _), (10, _), (11, _), (12, _), (13, _)] ⟨I, I, I, I, I, I, I, I, I, I, I, J⟩ ?_ ?_)
 refine AW.zr [.o 1 1, .l 2 (j.Segments.length : Int)] I ⟨len_m, I, J⟩ (AW.block (AW.lm 139 I (fun d7 => (AW.ghost (Ghost.nilU 3 1) ?_))))
 obtain ⟨f5, d8, d9⟩ := ob_some h
 clear h
 refine AW.forY d8 [(0, _), (3, _), (4, _), (5, _), (7, _), (8, _), (9, _), (10, _), (11, _), (12, _), (13, _), (139, _), (140, _)] ⟨I, I, I, I, I, I, I, I, I, I, I, I, I, J⟩ (fun (ao : Nat) (aj : List Int) s ob => ∃ (ak : Value), s = [(141, .V (ao : Int)), (16, .v ak)] ∧ ob = [.arr i 88 2 1 [[.list 1 (F.1.map rI), .V F.2.1]], .arr G 32 6 1 [Network.row j], .arr D 37 3 1 [[.N, .N, .N]], .us a 3 1 (e.2.2.1.map rI), .us c 3 1 (e.2.2.2.1.map rI), .arr w 37 3 1 [[.v a, .v c, .v g]], .us g 4 1 (p.2.2.map rB), .us M 3 1 (n.2.2.2.1.map rI), .us ak 3 1 (aj.map rI)]) ⟨(.slice none 0 0), I, I⟩ ⟨I, I, J⟩ ⟨[0, 1, 2, 3, 4, 5, 6, 7, 8], I, by decide⟩ ?_ ?_
 rintro ao Q aj ca s ob ea cb ⟨ak, rfl, rfl⟩ h
 unfold L.zjbu.B14 at h
 have eb := lt_t cb
 refine AW.z I (AW.seqG (fun f6 ec => (AW.condK (v := true) I eb (AW.skip ?_))))
 subst ec
 refine AW.cutX (fun s ob => ∃ (bo : List Int) (a7 : Value), L.zjbu.J15 bo = some ca ∧ s = [(16, .v a7)] ∧ ob = [.arr i 88 2 1 [[.list 1 (F.1.map rI), .V F.2.1]], .arr G 32 6 1 [Network.row j], .arr D 37 3 1 [[.N, .N, .N]], .us a 3 1 (e.2.2.1.map rI), .us c 3 1 (e.2.2.2.1.map rI), .arr w 37 3 1 [[.v a, .v c, .v g]], .us g 4 1 (p.2.2.map rB), .us M 3 1 (n.2.2.2.1.map rI), .us a7 3 1 (bo.map rI)]) [(0, _), (3, _), (4, _), (5, _), (7, _), (8, _), (9, _), (10, _), (11, _), (12, _), (13, _), (139, _), (140, _), (141, _)] ⟨I, I, I, I, I, I, I, I, I, I, I, I, I, I, J⟩ ?_ ?_
 refine AW.block (AW.seqG (fun f7 ed => (AW.region (AO.r 3 [.x 1 ao (Segment.row Q)] I ⟨⟨I, map_get ea⟩, J⟩ (AO.act [] I (AX.alloc (cs := [.v (.string ⟨#[]⟩), .V 0, .V 0, .V 0, .V 0, .V 0, .N]) (m := 7) I I I I I dS (fun f8 => (AO.q 1 I (AO.act [9] I (AX.st 9 0 0 [Segment.row Q] I (AO.nil ?_)))))))))))
 subst ed
 refine AW.cutX (fun s ob => ∃ (bp : Bool), L.zjbu.J16 ao aj bp = some ca ∧ s = [(180, .v (.bool bp))] ∧ ob = [.arr i 88 2 1 [[.list 1 (F.1.map rI), .V F.2.1]], .arr G 32 6 1 [Network.row j], .arr D 37 3 1 [[.N, .N, .N]], .us a 3 1 (e.2.2.1.map rI), .us c 3 1 (e.2.2.2.1.map rI), .arr w 37 3 1 [[.v a, .v c, .v g]], .us g 4 1 (p.2.2.map rB), .us M 3 1 (n.2.2.2.1.map rI), .us ak 3 1 (aj.map rI)]) [(0, _), (3, _), (4, _), (5, _), (7, _), (8, _), (9, _), (10, _), (11, _), (12, _), (13, _), (16, _), (17, _), (139, _), (140, _), (141, _)] ⟨I, I, I, I, I, I, I, I, I, I, I, I, I, I, I, I, J⟩ ?_ ?_
 rcases bt ((Q.From == n.2.2.1)) with ab | ab
 replace h := ife_t ab h
 rcases bt (decide ((wr ((wr (Q.From + Q.To)) - n.2.2.1)) > n.2.2.1)) with a1 | a1
 replace h := ife_t a1 h
 obtain ⟨aq, ⟨ee, bq⟩, h⟩ := ob_ix h
 refine AW.form 3 aq.1 I bq (fun ef => (AW.rd (.still 0 (.still 1 (.still 2 (.still 3 (.still 4 (.still 5 (.still 6 (.still 7 (.still 8 (.still 9 (.still 10 (.still 11 (.still 12 (.still 13 (.still 14 (.still 15 (.still 16 (.still 17 (.still 18 (.still 19 (.still 20 (.still 21 (.still 22 (.still 23 (.still 24 (.still 25 (.still 26 (.still 28 (.still 30 (.still 31 (.still 32 (.act 27 (.still 29 (.still 33 (.still 34 .nil))))))))))))))))))))))))))))))))))) [9, 5, 3] [_, _, _] I (AP.r 5 [.o 1 0] I ⟨I, J⟩ (AP.known 150 I ab (AP.r 17 [.o 7 0, .o 9 0] I ⟨I, I, J⟩ (AP.known 167 I a1 (AP.r 3 [.o 1 1] I ⟨I, J⟩ (AP.oldG I I I I ((Yp.indexUf (m := aq.1) I I I I I ef I ee bq).yd) dS (AP.oldG I I I I (Yd.loadU 2 aq.1 0 I I I (map_get bq) I (y := .V aq.2) I) dS (AP.r 4 [.o 2 0] I ⟨I, J⟩ (AP.cG I (L.zhea_ok aq.2 _ I) (AP.q 3 I (AP.ofAO ?_)))))))))))))
 refine AO.nil ?_
 exact lg ⟨decide ((wr ((L.zhea aq.2) + A.1)) ≤ (min 1000 Q.Capacity)), h, I, I⟩ [0, 1, 2, 3, 4, 5, 6, 7, 8]
 replace h := ife_f a1 h
 refine AW.rd (.still 0 (.still 1 (.still 2 (.still 3 (.still 4 (.still 5 (.still 6 (.still 7 (.still 8 (.still 9 (.still 10 (.still 11 (.still 12 (.still 13 (.still 14 (.still 15 (.still 16 (.still 17 (.still 18 (.still 19 (.still 20 (.still 21 (.still 22 (.still 23 (.still 24 (.still 25 (.still 26 (.still 28 (.still 30 (.still 31 (.still 32 (.act 27 (.still 29 (.still 33 (.still 34 .nil))))))))))))))))))))))))))))))))))) [9] [_] I (AP.r 5 [.o 1 0] I ⟨I, J⟩ (AP.known 150 I ab (AP.r 17 [.o 7 0, .o 9 0] I ⟨I, I, J⟩ (AP.known 167 I a1 (AP.q 13 I (AP.ofAO (AO.nil ?_)))))))
 exact lg ⟨false, h, I, I⟩ [0, 1, 2, 3, 4, 5, 6, 7, 8]
 replace h := ife_f ab h
 rcases bt ((Q.To == n.2.2.1)) with ar | ar
 replace h := ife_t ar h
 rcases bt (decide ((wr ((wr (Q.From + Q.To)) - n.2.2.1)) > n.2.2.1)) with a2 | a2
 replace h := ife_t a2 h
 obtain ⟨au, ⟨eg, br⟩, h⟩ := ob_ix h
 refine AW.form 3 au.1 I br (fun eh => (AW.rd (.still 0 (.still 1 (.still 2 (.still 3 (.still 4 (.still 5 (.still 6 (.still 7 (.still 8 (.still 9 (.still 10 (.still 11 (.still 12 (.still 13 (.still 14 (.still 15 (.still 16 (.still 17 (.still 18 (.still 19 (.still 20 (.still 21 (.still 22 (.still 23 (.still 24 (.still 25 (.still 26 (.still 28 (.still 30 (.still 31 (.still 32 (.act 27 (.still 29 (.still 33 (.still 34 .nil))))))))))))))))))))))))))))))))))) [9, 5, 3] [_, _, _] I (AP.r 5 [.o 1 0] I ⟨I, J⟩ (AP.known 150 I ab (AP.r 6 [.o 1 0] I ⟨I, J⟩ (AP.known 156 I ar (AP.r 11 [.o 1 0, .o 3 0] I ⟨I, I, J⟩ (AP.known 167 I a2 (AP.r 3 [.o 1 1] I ⟨I, J⟩ (AP.oldG I I I I ((Yp.indexUf (m := au.1) I I I I I eh I eg br).yd) dS (AP.oldG I I I I (Yd.loadU 2 au.1 0 I I I (map_get br) I (y := .V au.2) I) dS (AP.r 4 [.o 2 0] I ⟨I, J⟩ (AP.cG I (L.zhea_ok au.2 _ I) ?_)))))))))))))
 refine AP.q 3 I (AP.ofAO (AO.nil ?_))
 exact lg ⟨decide ((wr ((L.zhea au.2) + A.1)) ≤ (min 1000 Q.Capacity)), h, I, I⟩ [0, 1, 2, 3, 4, 5, 6, 7, 8]
 replace h := ife_f a2 h
 refine AW.rd (.still 0 (.still 1 (.still 2 (.still 3 (.still 4 (.still 5 (.still 6 (.still 7 (.still 8 (.still 9 (.still 10 (.still 11 (.still 12 (.still 13 (.still 14 (.still 15 (.still 16 (.still 17 (.still 18 (.still 19 (.still 20 (.still 21 (.still 22 (.still 23 (.still 24 (.still 25 (.still 26 (.still 28 (.still 30 (.still 31 (.still 32 (.act 27 (.still 29 (.still 33 (.still 34 .nil))))))))))))))))))))))))))))))))))) [9] [_] I (AP.r 5 [.o 1 0] I ⟨I, J⟩ (AP.known 150 I ab (AP.r 6 [.o 1 0] I ⟨I, J⟩ (AP.known 156 I ar (AP.r 11 [.o 1 0, .o 3 0] I ⟨I, I, J⟩ (AP.known 167 I a2 (AP.q 13 I (AP.ofAO (AO.nil ?_)))))))))
 exact lg ⟨false, h, I, I⟩ [0, 1, 2, 3, 4, 5, 6, 7, 8]
 replace h := ife_f ar h
 refine AW.rd (.still 0 (.still 1 (.still 2 (.still 3 (.still 4 (.still 5 (.still 6 (.still 7 (.still 8 (.still 9 (.still 10 (.still 11 (.still 12 (.still 13 (.still 14 (.still 15 (.still 16 (.still 17 (.still 18 (.still 19 (.still 20 (.still 21 (.still 22 (.still 23 (.still 24 (.still 25 (.still 26 (.still 28 (.still 30 (.still 31 (.still 32 (.act 27 (.still 29 (.still 33 (.still 34 .nil))))))))))))))))))))))))))))))))))) [9] [_] I (AP.r 5 [.o 1 0] I ⟨I, J⟩ (AP.known 150 I ab (AP.r 6 [.o 1 0] I ⟨I, J⟩ (AP.known 156 I ar (AP.q 24 I (AP.ofAO (AO.nil ?_)))))))
 exact lg ⟨false, h, I, I⟩ [0, 1, 2, 3, 4, 5, 6, 7, 8]
 rintro s ob ⟨bp, h, rfl, rfl⟩
 unfold L.zjbu.J16 at h
 refine AW.ch h I ?_ ?_
 intro ei h
 obtain ⟨ej, ek, h⟩ := ob_some h
 refine AW.region (AO.q 2 I (AO.act [] I (AX.lt 1 (([(ao : Int)] : List Int).map rI) (AO.act [8] I (AX.ap 8 I ek (fun el => (AO.q 1 I (AO.nil ?_))))))))
 exact lg ⟨ej, el, h, I, I⟩ [0, 1, 2, 3, 4, 5, 6, 7, 8]
 intro ei h
 refine AW.skip ?_
 exact lg ⟨aj, ak, h, I, I⟩ [0, 1, 2, 3, 4, 5, 6, 7, 8]
 rintro s ob ⟨bo, a7, h, rfl, rfl⟩
 unfold L.zjbu.J15 at h
 refine AW.region (AO.r 2 [.k 0 (ao + 1 : Nat)] I ⟨cast_wr cb d7, J⟩ ?_)
 obtain rfl := oi h
 refine AO.nil ?_
 exact lg ⟨a7, I, I⟩ [0, 1, 2, 3, 4, 5, 6, 7, 8]
 rintro aj s ob ⟨ak, rfl, rfl⟩ he
 subst he
 have h := d9
 have em := lt_f j.Segments.length
 refine AW.z I (AW.seqG (fun f9 ga => (AW.condK (v := false) I em (AW.exit ?_))))
 exact lg ⟨aj, ak, h, I, I⟩ [0, 1, 2, 3, 4, 5, 6, 7, 8]
 rintro s ob ⟨bm, bn, h, rfl, rfl⟩
 unfold L.zjbu.J13 at h
 refine AW.seqG (fun gb en => (AW.seq (AW.region (AO.q 1 I (AO.d (Yd.lenUM 8 I I I I) I (AO.q 1 I (AO.nil (AW.ch h I ?_ ?_))))))))
 intro eo h
 obtain rfl := bj _ (oi h).symm
 replace h := bi
 refine AW.exit ?_
 exact lg ⟨(F.1, F.2.1, n.2.2.2.1, F.2.2), M, h, I, I⟩ [0, 1, 2, 3, 4, 5, 6, 7]
 intro eo h
 refine AW.skip ?_
 subst en
 refine AW.seqG (fun gc ep => ?_)
 obtain ⟨gd, eq, h⟩ := ob_some h
 obtain ⟨a8, ⟨er, cc⟩, h⟩ := ob_ix h
 refine AW.region (AO.q 3 I (AO.d (Yd.lenUM 8 I I I I) I (AO.act [0] I (AX.c0 [0] (L.zdjb_ok i _ _ _ eq) ?_))))
 refine AO.d (Yd.indexU 8 (m := a8.1) I I I I I I I er (map_get cc)) I (AO.d (Yd.loadU 8 a8.1 0 I I I (map_get cc) I (y := .V a8.2) I) I (AO.q 1 I (AO.nil ?_)))
 subst ep
 refine AW.seqG (fun ge es => ?_)
 obtain ⟨gf, et, h⟩ := ob_some h
 refine AW.region (AO.q 2 I (AO.act [] I (AX.lt 1 (([a8.2] : List Int).map rI) (AO.act [7] I (AX.ap 7 I et (fun eu => (AO.q 1 I (AO.nil ?_))))))))
 subst es
 obtain ⟨a9, ⟨cd, ce⟩, h⟩ := ob_ix h
 refine AW.rd (pd 16 0 []) [1] [_] I (AP.r 16 [.o 1 0, .x 3 a9.1 (Segment.row a9.2), .o 7 0, .x 9 a9.1 (Segment.row a9.2)] I ⟨⟨cd, map_get ce⟩, I, ⟨cd, map_get ce⟩, I, J⟩ (AP.ofAO ?_))
 obtain rfl := oi h
 refine AO.nil ?_
 exact ⟨_, _, _, I, ⟨eu, I, I⟩, ⟨I, I, I, I, I, I, I, I, I, I, I, J⟩, [0, 1, 2, 3, 4, 5, 6, 7], I, by decide⟩
 intro du h
 obtain rfl := bj _ (oi h).symm
 replace h := bi
 refine AW.exit ?_
 exact lg ⟨(n.1, n.2.1, n.2.2.2.1, n.2.2.2.2), M, h, I, I⟩ [0, 1, 2, 3, 4, 5, 6, 7]
 rintro s ob ⟨E, am, h, rfl, rfl⟩
 unfold L.zjbu.J7 at h
 refine AW.seqG (fun gg ev => (AW.z I (AW.ch h I ?_ ?_)))
 intro ew h
 refine AW.exit ?_
 exact lg ⟨(E.1, E.2.1, e.2.2.1, e.2.2.2.1), h, I, I⟩ [0, 1, 2, 3, 4, 5, 6]
 intro ew h
 refine AW.skip ?_
 subst ev
 refine AW.cutX (fun s ob => ∃ (av : List Int), L.zjbu.J8 j e A E av = some a5 ∧ s = [] ∧ ob = [.arr i 88 2 1 [[.list 1 (E.1.map rI), .V E.2.1]], .arr G 32 6 1 [Network.row j], .arr D 37 3 1 [[.N, .N, .N]], .us a 3 1 (e.2.2.1.map rI), .us c 3 1 (av.map rI), .arr w 37 3 1 [[.v a, .v c, .v g]], .us g 4 1 (p.2.2.map rB), .us am 3 1 (E.2.2.1.map rI)]) [(0, _), (3, _), (4, _), (5, _), (7, _), (8, _), (11, _), (12, _)] ⟨I, I, I, I, I, I, I, I, J⟩ ?_ ?_
 obtain ⟨H, ⟨bs, X⟩, h⟩ := ob_ix h
 obtain ⟨R, ⟨ex, ba⟩, h⟩ := ob_ix h
 obtain ⟨aw, ⟨cf, bb⟩, h⟩ := ob_ix h
 refine AW.form 4 H.1 I X (fun ey => (AW.form 4 R.1 I ba (fun ez => (AW.form 4 H.1 I X (fun cg => (AW.rd (.still 0 (.still 1 (.still 2 (.still 3 (.still 4 (.still 5 (.still 6 (.still 7 (.still 8 (.still 9 (.still 11 (.still 13 (.still 14 (.still 15 (.still 16 (.still 18 (.two 10 17 (.still 12 (.act 17 (.still 19 (.still 20 (.act 21 (.act 22 (.act 23 .nil))))))) (.still 19 (.act 10 (.still 12 (.still 20 (.act 21 (.act 22 (.act 23 .nil)))))))))))))))))))))))) [5] [_] I (AP.r 9 [.o 1 0, .o 4 0, .o 7 0] I ⟨I, I, I, J⟩ (AP.op I (Yp.indexUf (m := H.1) I I I I I ey I bs X) I (AP.r 4 [.o 2 0] I ⟨I, J⟩ (AP.op I (Yp.indexUf (m := R.1) I I I I I ez I ex ba) I (AP.q 1 I (AP.two ?_ ?_))))))))))))
 refine AP.act [] I I I (AX.of_yd (Yd.loadU 4 H.1 0 I I I (map_get X) I (y := .V H.2) I) dS (AP.q 1 I (AP.act [] I I I (AX.of_yd (Yd.loadU 4 R.1 0 I I I (map_get ba) I (y := .V R.2) I) dS (AP.q 1 I (AP.op I (Yp.indexUf (m := H.1) I I I I I cg I bs X) I (AP.act [4] I I I (AX.storeU 4 H.1 0 I I I (map_get X) I I I I (le_ble I) I (us_set (x := wr (H.2 + A.1)) I) (AP.act [] I I I (AX.of_yd (Yd.indexU 4 (m := aw.1) I I I I I I I cf (map_get bb)) dS (AP.act [4] I I I (AX.storeU 4 aw.1 0 I I I (map_get bb) I I I I (le_ble I) I (us_set (x := wr (R.2 - A.1)) I) (AP.ofAO (AO.nil ?_))))))))))))))
 exact lg ⟨((e.2.2.2.1.set H.1 (wr (H.2 + A.1))).set aw.1 (wr (R.2 - A.1))), h, I, I⟩ [0, 1, 2, 3, 4, 5, 6, 7]
 refine AP.act [] I I I (AX.of_yd (Yd.loadU 4 R.1 0 I I I (map_get ba) I (y := .V R.2) I) dS (AP.q 1 I (AP.act [] I I I (AX.of_yd (Yd.loadU 4 H.1 0 I I I (map_get X) I (y := .V H.2) I) dS (AP.q 1 I (AP.op I (Yp.indexUf (m := H.1) I I I I I cg I bs X) I (AP.act [4] I I I (AX.storeU 4 H.1 0 I I I (map_get X) I I I I (le_ble I) I (us_set (x := wr (H.2 + A.1)) I) (AP.act [] I I I (AX.of_yd (Yd.indexU 4 (m := aw.1) I I I I I I I cf (map_get bb)) dS (AP.act [4] I I I (AX.storeU 4 aw.1 0 I I I (map_get bb) I I I I (le_ble I) I (us_set (x := wr (R.2 - A.1)) I) (AP.ofAO (AO.nil ?_))))))))))))))
 exact lg ⟨((e.2.2.2.1.set H.1 (wr (H.2 + A.1))).set aw.1 (wr (R.2 - A.1))), h, I, I⟩ [0, 1, 2, 3, 4, 5, 6, 7]
 rintro s ob ⟨av, h, rfl, rfl⟩
 unfold L.zjbu.J8 at h
 refine AW.seqG (fun gh e0 => (AW.region (AO.q 1 I (AO.d (Yd.lenUM 7 I I I I) I (AO.q 1 I (AO.nil ?_))))))
 subst e0
 refine AW.block (AW.um 7 I (fun e1 => ?_))
 obtain ⟨gi, e2, e3⟩ := ob_some h
 clear h
 refine AW.forJY e2 [(0, _), (3, _), (4, _), (5, _), (7, _), (8, _), (11, _), (239, _), (240, _)] ⟨I, I, I, I, I, I, I, I, I, J⟩ (fun (bu : Nat) (ax : List Int) s ob => s = [(241, .V (bu : Int))] ∧ ob = [.arr i 88 2 1 [[.list 1 (E.1.map rI), .V E.2.1]], .arr G 32 6 1 [Network.row j], .arr D 37 3 1 [[.N, .N, .N]], .us a 3 1 (ax.map rI), .us c 3 1 (av.map rI), .arr w 37 3 1 [[.v a, .v c, .v g]], .us g 4 1 (p.2.2.map rB), .us am 3 1 (E.2.2.1.map rI)]) ⟨I, I⟩ ⟨I, J⟩ ⟨[0, 1, 2, 3, 4, 5, 6, 7], I, by decide⟩ ?_ ?_
 rintro bu ax e4 s ob ci ⟨rfl, rfl⟩ h
 unfold L.zjbu.B9 at h
 have e5 := lt_t ci
 refine AW.z I (AW.seqG (fun gj e6 => (AW.condK (v := true) I e5 (AW.skip ?_))))
 subst e6
 refine AW.cutX (fun s ob => ∃ (bv : List Int), L.zjbu.J10 bv = some e4 ∧ s = [] ∧ ob = [.arr i 88 2 1 [[.list 1 (E.1.map rI), .V E.2.1]], .arr G 32 6 1 [Network.row j], .arr D 37 3 1 [[.N, .N, .N]], .us a 3 1 (bv.map rI), .us c 3 1 (av.map rI), .arr w 37 3 1 [[.v a, .v c, .v g]], .us g 4 1 (p.2.2.map rB), .us am 3 1 (E.2.2.1.map rI)]) [(0, _), (3, _), (4, _), (5, _), (7, _), (8, _), (11, _), (239, _), (240, _), (241, _)] ⟨I, I, I, I, I, I, I, I, I, I, J⟩ ?_ ?_
 refine AW.block (AW.seqG (fun gk e7 => ?_))
 obtain ⟨bw, ⟨e8, cj⟩, h⟩ := ob_ix h
 refine AW.region (AO.d (Yd.indexU 7 (m := bw.1) I I I I I I I e8 (map_get cj)) I (AO.d (Yd.loadU 7 bw.1 0 I I I (map_get cj) I (y := .V bw.2) I) I (AO.q 1 I (AO.nil ?_))))
 subst e7
 refine AW.seqG (fun gl e9 => ?_)
 obtain ⟨bc, ⟨ck, cl⟩, h⟩ := ob_ix h
 refine AW.dt (pd 13 0 []) [1] [_] [.o 1 0, .x 3 bc.1 (Segment.row bc.2), .o 7 0, .x 9 bc.1 (Segment.row bc.2)] I I ⟨⟨ck, map_get cl⟩, I, ⟨ck, map_get cl⟩, I, J⟩ ?_
 subst e9
 refine AW.ch h I ?_ ?_
 intro fa h
 obtain ⟨ac, ⟨cm, bd⟩, h⟩ := ob_ix h
 refine AW.region (AO.r 3 [.o 1 5] I ⟨I, J⟩ (AO.d (Yd.indexU 3 (m := ac.1) I I I I I I I cm (map_get bd)) I (AO.d (Yd.loadU 3 ac.1 0 I I I (map_get bd) I (y := .V ac.2) I) I (AO.q 2 I (AO.d (Yd.indexU 3 (m := ac.1) I I I I I I I cm (map_get bd)) I (AO.act [3] I (AX.storeU 3 ac.1 0 I I I (map_get bd) I I I I (le_ble I) I (us_set (x := wr (ac.2 + A.1)) I) (AO.nil ?_))))))))
 exact lg ⟨(ax.set ac.1 (wr (ac.2 + A.1))), h, I, I⟩ [0, 1, 2, 3, 4, 5, 6, 7]
 intro fa h
 obtain ⟨ad, ⟨cn, be⟩, h⟩ := ob_ix h
 refine AW.region (AO.r 3 [.o 1 5] I ⟨I, J⟩ (AO.d (Yd.indexU 3 (m := ad.1) I I I I I I I cn (map_get be)) I (AO.d (Yd.loadU 3 ad.1 0 I I I (map_get be) I (y := .V ad.2) I) I (AO.q 2 I (AO.d (Yd.indexU 3 (m := ad.1) I I I I I I I cn (map_get be)) I (AO.act [3] I (AX.storeU 3 ad.1 0 I I I (map_get be) I I I I (le_ble I) I (us_set (x := wr (ad.2 - A.1)) I) (AO.nil ?_))))))))
 exact lg ⟨(ax.set ad.1 (wr (ad.2 - A.1))), h, I, I⟩ [0, 1, 2, 3, 4, 5, 6, 7]
 rintro s ob ⟨bv, h, rfl, rfl⟩
 unfold L.zjbu.J10 at h
 refine AW.region (AO.r 2 [.k 0 (bu + 1 : Nat)] I ⟨cast_wr ci e1, J⟩ ?_)
 obtain rfl := oi h
 refine AO.nil ?_
 exact lg ⟨I, I⟩ [0, 1, 2, 3, 4, 5, 6, 7]
 rintro ax s ob ⟨rfl, rfl⟩ he
 subst he
 have h := e3
 have fb := lt_f E.2.2.1.length
 refine AW.z I (AW.seqG (fun gm gn => (AW.condK (v := false) I fb (AW.exit ?_))))
 exact lg ⟨(E.1, E.2.1, ax, av), h, I, I⟩ [0, 1, 2, 3, 4, 5, 6]
 rintro s ob ⟨al, h, rfl, rfl⟩
 unfold L.zjbu.J5 at h
 refine AW.region (AO.q 3 I ?_)
 obtain rfl := oi h
 refine AO.nil ?_
 exact ⟨_, _, _, I, ⟨I, I⟩, ⟨I, I, I, I, I, I, J⟩, [0, 1, 2, 3, 4, 5, 6], I, by decide⟩
 intro dg h
 obtain rfl := de _ (oi h).symm
 replace h := dd
 refine AW.exit ?_
 exact lg ⟨(e.1, e.2.1, e.2.2.1, e.2.2.2.1), h, I, I⟩ [0, 2, 3, 4, 5, 6]
 rintro s ob ⟨u, h, rfl, rfl⟩
 unfold L.zjbu.J3 at h
 refine AW.seq (AW.z I (AW.ch h I ?_ ?_))
 intro fc h
 refine AW.seq ?_
 obtain ⟨fd, fe, h⟩ := ob_some h
 refine AW.region (AO.r 1 [.o 0 4] I ⟨I, J⟩ (AO.ghost (Ghost.freeze [2, 3, 5] (K := [.us a 3 1 (u.2.2.1.map rI), .us c 3 1 (u.2.2.2.map rI), .us g 4 1 (p.2.2.map rB)]) I [(276, .agg [.list 1 (u.2.2.1.map rI), .list 1 (u.2.2.2.map rI), .list 1 (p.2.2.map rB)])] ⟨⟨_, I, .agg (.cons (.us 0 I) (.cons (.us 1 I) (.cons (.us 2 I) (.rest _))))⟩, J⟩ (ob' := [.arr i 88 2 1 [[.list 1 (u.1.map rI), .V u.2.1]], .arr D 37 3 1 [[.N, .N, .N]], .arr w 37 3 1 [[.list 1 (u.2.2.1.map rI), .list 1 (u.2.2.2.map rI), .list 1 (p.2.2.map rB)]]]) (.cons (.same _) (.cons (.same _) (.cons (.arr (.cons (.us 0 I) (.cons (.us 1 I) (.cons (.us 2 I) (.rest _))))) (.rest _))))) (AO.act [] I (AX.call0 I I I (L.znbg_ok _ _ fe) dS ?_))))
 rintro _ _ ⟨rfl, rfl⟩
 refine AO.act [1] I (AX.st 1 0 0 [Plan.row fd] I (AO.nil (AW.gp [0, 1] I ?_)))
 obtain rfl := oi h
 exact AW.ret ⟨.inr I, [_], [.arr i 88 2 1 [[.list 1 (u.1.map rI), .V u.2.1]]], ⟨⟨1, _, _, _, _, _, _, _, I, I, I, I, I⟩, J⟩, sl_c I (sl_n), ⟨[.arr i 88 2 1 [[.list 1 (u.1.map rI), .V u.2.1]]], [], I, I, I, I, I⟩⟩
 intro fc h
 refine AW.skip (AW.seq (AW.region (AO.r 1 [.o 0 4] I ⟨I, J⟩ (AO.act [1] I (AX.st 1 0 0 [[.v a, .v c, .v g]] I (AO.nil (AW.ghost (Ghost.freeze [2, 3, 5] (K := [.us a 3 1 (u.2.2.1.map rI), .us c 3 1 (u.2.2.2.map rI), .us g 4 1 (p.2.2.map rB)]) I [] J (ob' := [.arr i 88 2 1 [[.list 1 (u.1.map rI), .V u.2.1]], .arr D 37 3 1 [[.list 1 (u.2.2.1.map rI), .list 1 (u.2.2.2.map rI), .list 1 (p.2.2.map rB)]], .arr w 37 3 1 [[.v a, .v c, .v g]]]) (.cons (.same _) (.cons (.arr (.cons (.us 0 I) (.cons (.us 1 I) (.cons (.us 2 I) (.rest _))))) (.rest _)))) (AW.gp [0, 1] I ?_))))))))
 obtain rfl := oi h
 exact AW.ret ⟨.inr I, [_], [.arr i 88 2 1 [[.list 1 (u.1.map rI), .V u.2.1]]], ⟨⟨1, _, _, _, _, _, _, _, I, I, I, I, I⟩, J⟩, sl_c I (sl_n), ⟨[.arr i 88 2 1 [[.list 1 (u.1.map rI), .V u.2.1]]], [], I, I, I, I, I⟩⟩
end Go.Proofs.YtmaamhgjeampmaaGreat
