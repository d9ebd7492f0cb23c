/- Walks that show what functions of the program compute; printed by a program of ours. No condition. -/
import Derived.Test.YtaliejncdnegeaaGreatZvL1
set_option maxRecDepth 100000
namespace Go.Proofs.YtaliejncdnegeaaGreat
open Go.Aw
set_option linter.unusedVariables false
set_option linter.unusedSimpArgs false
set_option maxHeartbeats 4000000
theorem L.ziti_ok (a : List Int) (r : KS) (h : L.ziti a = some r) : ACalls Tryz.env 9 [.list 1 (a.map rI)] [] (fun x new => ∃ (c : Nat), x = .v (.pointer (some ⟨c, 0, none⟩)) ∧ new = [.arr c 86 2 1 [KS.row r]]) := by
 refine ACalls.of_body Tryz.func9 rfl rfl rfl (fun C hC => ?_)
 unfold L.ziti at h
 refine AW.z I (AW.seq ?_)
 obtain ⟨b, e, h⟩ := ob_some h
 obtain ⟨f, g, i, j, k, n, o⟩ := sub_some e
 refine AW.region (AO.r 4 [.l 2 (a.length : Int)] I ⟨len_m, J⟩ (AO.p (Yp.subL f g 0 I I I I I (bnd0 i) ⟨_, _, I, j⟩ I k n o) I (AO.p (Yp.buildP (l := [.list 1 (b.map rI), .V 0]) Tryz.bld86 I) I (AO.act [] I (AX.box (cs := [.list 1 (b.map rI), .V 0]) (m := 2) I I I dS (fun d => (AO.q 1 I (AO.nil ?_))))))))
 obtain rfl := oi h
 exact AW.ret ⟨.inr I, [_], [.arr d 86 2 1 [[.list 1 (b.map rI), .V 0]]], ⟨I, J⟩, sl_c I (sl_n), ⟨d, I, I⟩⟩
theorem L.zxpl_ok (b : Nat) (a : KS) (r : Int × KS) (h : L.zxpl a = some r) : ACalls Tryz.env 52 [.v (.pointer (some ⟨b, 0, none⟩))] [.arr b 86 2 1 [KS.row a]] (Gives 1 (fun x os new => x = .V r.1 ∧ os = [.arr b 86 2 1 [KS.row r.2]] ∧ new = [])) := by
 refine ACalls.of_body Tryz.func52 rfl rfl rfl (fun C hC => ?_)
 unfold L.zxpl at h
 refine AW.z I (AW.seqG (fun k d => (AW.dz (pd 10 0 []) [0] [_] [.o 3 0, .o 7 0, .l 8 (a.L_.length : Int)] I I ⟨len_m, I, I, J⟩ (AW.ch h I ?_ ?_))))
 intro e h
 refine AW.z I ?_
 obtain rfl := oi h
 exact AW.ret ⟨.inr I, [_], [.arr b 86 2 1 [KS.row a]], ⟨I, J⟩, sl_c I (sl_n), ⟨[.arr b 86 2 1 [KS.row a]], [], I, I, I, I, I⟩⟩
 intro e h
 refine AW.skip ?_
 subst d
 refine AW.seqG (fun m f => (AW.region (AO.r 7 [.o 3 0] I ⟨I, J⟩ (AO.act [0] I (AX.store 0 0 1 (es' := [[.list 1 (a.L_.map rI), .V (wr (a.At + 1))]]) I I I I I I I I (le_ble I) I I (AO.nil ?_))))))
 subst f
 refine AW.seq ?_
 obtain ⟨c, g, h⟩ := ob_some h
 obtain ⟨i, j⟩ := ix_some g
 refine AW.dt (pd 12 0 []) [0] [_] [.o 3 0, .o 7 0, .x 9 c.1 (rI c.2)] I I ⟨⟨i, map_get j⟩, I, I, J⟩ ?_
 obtain rfl := oi h
 exact AW.ret ⟨.inr I, [_], [.arr b 86 2 1 [[.list 1 (a.L_.map rI), .V (wr (a.At + 1))]]], ⟨I, J⟩, sl_c I (sl_n), ⟨[.arr b 86 2 1 [[.list 1 (a.L_.map rI), .V (wr (a.At + 1))]]], [], I, I, I, I, I⟩⟩
theorem L.zdjb_ok (a : Nat) (b : KS) (d : Int) (r : Int × KS) (h : L.zdjb b d = some r) : ACalls Tryz.env 20 [.v (.pointer (some ⟨a, 0, none⟩)), .V d] [.arr a 86 2 1 [KS.row b]] (Gives 1 (fun x os new => x = .V r.1 ∧ os = [.arr a 86 2 1 [KS.row r.2]] ∧ new = [])) := by
 refine ACalls.of_body Tryz.func20 rfl rfl rfl (fun C hC => ?_)
 unfold L.zdjb at h
 refine AW.z I (AW.seq ?_)
 obtain ⟨e, f, h⟩ := ob_some h
 obtain ⟨i, g, h⟩ := ob_some h
 refine AW.region (AO.q 1 I (AO.act [0] I (AX.c0 [0] (L.zxpl_ok a _ _ f) ?_)))
 refine AO.q 1 I (AO.c (L.zbjp_ok _ _ _ g) (AO.q 1 I (AO.nil ?_)))
 obtain rfl := oi h
 exact AW.ret ⟨.inr I, [_], [.arr a 86 2 1 [KS.row e.2]], ⟨I, J⟩, sl_c I (sl_n), ⟨[.arr a 86 2 1 [KS.row e.2]], [], I, I, I, I, I⟩⟩
theorem L.zeyi_ok (b : ByteArray) (a : Int) (r : ByteArray) (h : L.zeyi b a = some r) : ACalls Tryz.env 47 [.v (.string b), .V a] [] (fun x new => x = .v (.string r) ∧ new = []) := by
 refine ACalls.of_body Tryz.func47 rfl rfl rfl (fun C hC => ?_)
 unfold L.zeyi at h
 refine AW.z I (AW.seq ?_)
 obtain ⟨g, d, h⟩ := ob_some h
 obtain ⟨i, e, h⟩ := ob_some h
 refine AW.region (AO.r 4 [.f 2 (.V (a.tmod 26))] I ⟨Yp.yd (Yp.binI (c := (a.tmod 26)) I I ⟨by decide, I⟩), J⟩ (AO.p (Yp.convI (c := IntKind.u8.wrap (wr (97 + (a.tmod 26)))) I I I I I) I (AO.act [] I (AX.buildSlice (sz := 1) (es := ([IntKind.u8.wrap (wr (97 + (a.tmod 26)))] : List Int).map (rK .u8)) I I I I I I I I I I I dS (fun j => (AO.act [] I (AX.bytesX 0 d I I I I I I I I dS (AO.p (Yp.addSX I I (cat_some e)) I (AO.q 1 I (AO.nil (AW.ghost g0 ?_)))))))))))
 obtain rfl := oi h
 exact AW.ret pr
theorem L.ztqk_ok (a : Nat) (c : KS) (b : List Int) (r : Int × KS) (h : L.ztqk c b = some r) : ACalls Tryz.env 46 [.v (.pointer (some ⟨a, 0, none⟩)), .list 1 (b.map rI)] [.arr a 86 2 1 [KS.row c]] (Gives 1 (fun x os new => x = .V r.1 ∧ os = [.arr a 86 2 1 [KS.row r.2]] ∧ new = [])) := by
 refine ACalls.of_body Tryz.func46 rfl rfl rfl (fun C hC => ?_)
 unfold L.ztqk at h
 refine AW.z I (AW.seq ?_)
 obtain ⟨d, f, h⟩ := ob_some h
 obtain ⟨e, g, h⟩ := ob_some h
 obtain ⟨i, j⟩ := ix_some g
 refine AW.region (AO.r 4 [.l 3 (b.length : Int)] I ⟨len_m, J⟩ (AO.act [0] I (AX.c0 [0] (L.zdjb_ok a _ _ _ f) ?_)))
 refine AO.r 3 [.x 0 e.1 (rI e.2)] I ⟨⟨i, map_get j⟩, J⟩ (AO.nil ?_)
 obtain rfl := oi h
 exact AW.ret ⟨.inr I, [_], [.arr a 86 2 1 [KS.row d.2]], ⟨I, J⟩, sl_c I (sl_n), ⟨[.arr a 86 2 1 [KS.row d.2]], [], I, I, I, I, I⟩⟩
theorem L.ziuk_ok (a : Nat) (b : KS) (c : Int) (d : Int) (r : Int × KS) (h : L.ziuk b c d = some r) : ACalls Tryz.env 11 [.v (.pointer (some ⟨a, 0, none⟩)), .V c, .V d] [.arr a 86 2 1 [KS.row b]] (Gives 1 (fun x os new => x = .V r.1 ∧ os = [.arr a 86 2 1 [KS.row r.2]] ∧ new = [])) := by
 refine ACalls.of_body Tryz.func11 rfl rfl rfl (fun C hC => ?_)
 unfold L.ziuk at h
 refine AW.z I (AW.seq ?_)
 obtain ⟨e, f, h⟩ := ob_some h
 refine AW.region (AO.q 6 I (AO.act [0] I (AX.c0 [0] (L.zdjb_ok a _ _ _ f) ?_)))
 refine AO.q 2 I (AO.nil ?_)
 obtain rfl := oi h
 exact AW.ret ⟨.inr I, [_], [.arr a 86 2 1 [KS.row e.2]], ⟨I, J⟩, sl_c I (sl_n), ⟨[.arr a 86 2 1 [KS.row e.2]], [], I, I, I, I, I⟩⟩
theorem L.zsex_ok (b : Nat) (Z : KS) (S : Int) (G : Int) (H : Int) (r : Segment × KS) (h : L.zsex Z S G H = some r) : ACalls Tryz.env 48 [.v (.pointer (some ⟨b, 0, none⟩)), .V S, .V G, .V H] [.arr b 86 2 1 [KS.row Z]] (Gives 1 (fun x os new => x = .agg (Segment.row r.1) ∧ os = [.arr b 86 2 1 [KS.row r.2]] ∧ new = [])) := by
 refine ACalls.of_body Tryz.func48 rfl rfl rfl (fun C hC => ?_)
 unfold L.zsex at h
 refine AW.seqG (fun y1 aj => (AW.region (AO.act [] I (AX.alloc (cs := [.v (.string ⟨#[]⟩), .V 0, .V 0, .V 0, .V 0, .V 0, .N]) (m := 7) I I I I I dS (fun w => (AO.nil ?_))))))
 subst aj
 refine AW.cutX (fun s ob => ∃ (a : (List Int) × Int × Int × Int), L.zsex.J1 S a = some r ∧ s = [(2, .V a.2.2.1), (3, .V a.2.2.2)] ∧ ob = [.arr b 86 2 1 [[.list 1 (a.1.map rI), .V a.2.1]], .arr w 39 7 1 [[.v (.string ⟨#[]⟩), .V 0, .V 0, .V 0, .V 0, .V 0, .N]]]) [(0, _), (1, _), (8, _)] ⟨I, I, I, J⟩ ?_ ?_
 refine AW.seq ?_
 obtain ⟨M, ak, h⟩ := ob_some h
 refine AW.region (AO.q 1 I (AO.act [0] I (AX.c0 [0] (L.zdjb_ok b _ _ _ ak) ?_)))
 refine AO.q 1 I (AO.nil (AW.ch h I ?_ ?_))
 intro al h
 refine AW.t I ?_
 exact lg ⟨(M.2.L_, M.2.At, H, G), h, I, I⟩ [0, 1]
 intro al h
 refine AW.skip ?_
 exact lg ⟨(M.2.L_, M.2.At, G, H), h, I, I⟩ [0, 1]
 rintro s ob ⟨a, h, rfl, rfl⟩
 unfold L.zsex.J1 at h
 refine AW.seqG (fun y7 am => ?_)
 obtain ⟨g, an, h⟩ := ob_some h
 obtain ⟨e, ao, h⟩ := ob_some h
 obtain ⟨i, aq, h⟩ := ob_some h
 obtain ⟨j, ar, h⟩ := ob_some h
 refine AW.region (AO.q 1 I (AO.c (L.zeyi_ok _ _ _ an) (AO.q 3 I (AO.act [] I (AX.lt 1 (([1, 2, 7, 20, 60, 200, 1000] : List Int).map rI) (AO.act [0] I (AX.c0 [0] (L.ztqk_ok b _ _ _ ao) ?_)))))))
 refine AO.q 1 I (AO.act [] I (AX.lt 1 (([0, 1, 5, 1000] : List Int).map rI) (AO.act [0] I (AX.c0 [0] (L.ztqk_ok b _ _ _ aq) ?_))))
 refine AO.q 1 I (AO.act [] I (AX.lt 1 (([0, 50, 1000, 100000] : List Int).map rI) (AO.act [0] I (AX.c0 [0] (L.ztqk_ok b _ _ _ ar) ?_))))
 refine AO.p (Yp.buildP (l := [.v (.string g), .V a.2.2.1, .V a.2.2.2, .V e.1, .V i.1, .V j.1, .N]) Tryz.bld39 I) I (AO.act [] I (AX.alloc (cs := [.v (.string ⟨#[]⟩), .V 0, .V 0, .V 0, .V 0, .V 0, .N]) (m := 7) I I I I I dS (fun O => (AO.act [2] I (AX.store 2 0 0 (es' := [[.v (.string g), .V a.2.2.1, .V a.2.2.2, .V e.1, .V i.1, .V j.1, .N]]) I I I I I I I I (le_ble I) I I (AO.nil ?_))))))
 subst am
 refine AW.seqG (fun bd au => ?_)
 obtain ⟨k, av, h⟩ := ob_some h
 refine AW.region (AO.q 1 I (AO.act [] I (AX.lt 1 (([1000000, 6000000, 100000000] : List Int).map rI) (AO.act [0] I (AX.c0 [0] (L.ztqk_ok b _ _ _ av) ?_)))))
 refine AO.q 1 I (AO.nil ?_)
 subst au
 refine AW.seqG (fun be aw => ?_)
 obtain ⟨aa, ax, h⟩ := ob_some h
 obtain ⟨bf, ab, h⟩ := ob_some h
 refine AW.rd (.still 0 (.still 1 (.still 2 (.still 4 (.act 3 (.still 5 (.act 6 (.act 7 (.still 8 (.drop 9 .nil)))))))))) [2] [_] I (AP.r 4 [.o 1 0] I ⟨I, J⟩ (AP.act [0] I I I (AX.c0 [0] (L.ziuk_ok b _ _ _ _ ax) ?_)))
 refine AP.p I (Yp.buildP (l := [.V 0, .V aa.1, .V k.1]) Tryz.bld88 I) I (AP.act [] I I I (AX.lt 3 (([(⟨0, aa.1, k.1⟩ : Point)] : List Point).map Point.row) (AP.act [] I I I (AX.appendN I I I I I I I I (AppSrc.list I) (app_len0 (app_some ab).1) (app_map0 (app_some ab).2) dS (fun ac => (AP.q 1 I (AP.one 3 I (fun ay => (AP.drop [2] I I I (AX.store 2 0 6 (es' := [[.v (.string g), .V a.2.2.1, .V a.2.2.2, .V e.1, .V i.1, .V j.1, .v ac]]) I I I I I I (cells_v ay) I (le_ble I) I I (AP.ofAO (AO.nil ?_))))))))))))
 subst aw
 refine AW.cutX (fun s ob => ∃ (D : (List Int) × Int × (List Point)) (U : Value), L.zsex.J2 a g e i j k D = some r ∧ s = [] ∧ ob = [.arr b 86 2 1 [[.list 1 (D.1.map rI), .V D.2.1]], .arr w 39 7 1 [[.v (.string ⟨#[]⟩), .V 0, .V 0, .V 0, .V 0, .V 0, .N]], .arr O 39 7 1 [[.v (.string g), .V a.2.2.1, .V a.2.2.2, .V e.1, .V i.1, .V j.1, .v U]], .us U 88 3 (D.2.2.map Point.row)]) [(0, _), (8, _), (9, _), (10, _)] ⟨I, I, I, I, J⟩ ?_ ?_
 refine AW.z I (AW.block ?_)
 obtain ⟨bg, az, ad⟩ := ob_some h
 clear h
 refine AW.loopX az [(0, _), (8, _), (9, _), (10, _)] ⟨I, I, I, I, J⟩ (fun (f : (List Int) × Int × (List Point) × Int) s ob => ∃ (n : Value), s = [(11, .V f.2.2.2)] ∧ ob = [.arr b 86 2 1 [[.list 1 (f.1.map rI), .V f.2.1]], .arr w 39 7 1 [[.v (.string ⟨#[]⟩), .V 0, .V 0, .V 0, .V 0, .V 0, .N]], .arr O 39 7 1 [[.v (.string g), .V a.2.2.1, .V a.2.2.2, .V e.1, .V i.1, .V j.1, .v n]], .us n 88 3 (f.2.2.1.map Point.row)]) ⟨ac, I, I⟩ ⟨I, J⟩ ⟨[0, 1, 2, 3], I, by decide⟩ ?_
 rintro f a0 s ob ⟨n, rfl, rfl⟩ h ae
 unfold L.zsex.B3 at h
 refine AW.seqG (fun bh a1 => (AW.cutX (fun s ob => ∃ (u : (List Int) × Int × Bool), L.zsex.J4 e k f u = some a0 ∧ s = [(51, .v (.bool u.2.2))] ∧ ob = [.arr b 86 2 1 [[.list 1 (u.1.map rI), .V u.2.1]], .arr w 39 7 1 [[.v (.string ⟨#[]⟩), .V 0, .V 0, .V 0, .V 0, .V 0, .N]], .arr O 39 7 1 [[.v (.string g), .V a.2.2.1, .V a.2.2.2, .V e.1, .V i.1, .V j.1, .v n]], .us n 88 3 (f.2.2.1.map Point.row)]) [(0, _), (8, _), (9, _), (10, _), (11, _)] ⟨I, I, I, I, I, J⟩ ?_ ?_))
 rcases bt (decide ((f.2.2.1.length : Int) < 7)) with E | E
 replace h := ife_t E h
 obtain ⟨W, a2, h⟩ := ob_some h
 refine AW.region (AO.r 2 [.o 1 2] I ⟨I, J⟩ (AO.d (Yd.lenUM 3 I I I I) I (AO.q 2 I (AO.known 47 I E (AO.q 1 I (AO.gt I I I (AO.act [0] I (AX.c0 [0] (L.zdjb_ok b _ _ _ a2) ?_))))))))
 refine AO.q 2 I (AO.nil ?_)
 exact lg ⟨(W.2.L_, W.2.At, decide (W.1 > 0)), h, I, I⟩ [0, 1, 2, 3]
 replace h := ife_f E h
 refine AW.region (AO.r 2 [.o 1 2] I ⟨I, J⟩ (AO.d (Yd.lenUM 3 I I I I) I (AO.q 2 I (AO.known 47 I E (AO.q 4 I (AO.nil ?_))))))
 exact lg ⟨(f.1, f.2.1, false), h, I, I⟩ [0, 1, 2, 3]
 rintro s ob ⟨u, h, rfl, rfl⟩
 unfold L.zsex.J4 at h
 refine AW.ch h I ?_ ?_
 intro a3 h
 refine AW.skip ?_
 subst a1
 refine AW.block (AW.seqG (fun bi a4 => ?_))
 obtain ⟨y, a5, h⟩ := ob_some h
 refine AW.region (AO.q 2 I (AO.act [0] I (AX.c0 [0] (L.ziuk_ok b _ _ _ _ a5) ?_)))
 refine AO.q 2 I (AO.nil ?_)
 subst a4
 refine AW.seqG (fun bj a6 => (AW.zr [.o 2 2] I ⟨I, J⟩ (AW.ch h I ?_ ?_)))
 intro a7 h
 obtain rfl := ae _ (oi h).symm
 replace h := ad
 refine AW.exit ?_
 exact lg ⟨(y.2.L_, y.2.At, f.2.2.1), n, h, I, I⟩ [0, 1, 2, 3]
 intro a7 h
 refine AW.skip ?_
 subst a6
 obtain ⟨P, af, h⟩ := ob_some h
 obtain ⟨Q, ag, h⟩ := ob_some h
 obtain ⟨R, ah, h⟩ := ob_some h
 obtain ⟨bk, ai, h⟩ := ob_some h
 refine AW.rd (.still 0 (.still 1 (.still 2 (.still 3 (.still 5 (.still 9 (.still 10 (.two 4 6 (.act 6 (.act 7 (.still 8 (.act 11 (.still 12 (.still 13 (.still 14 (.act 15 (.act 16 (.still 17 (.drop 18 .nil))))))))))) (.act 4 (.act 7 (.still 8 (.act 11 (.still 12 (.still 13 (.still 14 (.act 15 (.act 16 (.still 17 (.drop 18 .nil))))))))))))))))))) [2] [_] I (AP.r 7 [.o 1 0] I ⟨I, J⟩ (AP.two ?_ ?_))
 refine AP.act [0] I I I (AX.c0 [0] (L.ziuk_ok b _ _ _ _ af) ?_)
 refine AP.act [] I I I (AX.lt 1 (([1, 1, 10] : List Int).map rI) (AP.act [0] I I I (AX.c0 [0] (L.ztqk_ok b _ _ _ ag) ?_)))
 refine AP.q 1 I (AP.act [0] I I I (AX.c0 [0] (L.zdjb_ok b _ _ _ ah) ?_))
 refine AP.q 2 I (AP.p I (Yp.buildP (l := [.V (wr (f.2.2.2 + y.1)), .V (wr (P.1 * Q.1)), .V (wr (k.1 - (wr (R.1 * 1000))))]) Tryz.bld88 I) I (AP.act [] I I I (AX.lt 3 (([(⟨wr (f.2.2.2 + y.1), wr (P.1 * Q.1), wr (k.1 - (wr (R.1 * 1000)))⟩ : Point)] : List Point).map Point.row) (AP.act [3] I I I (AX.ap 3 I ai (fun F => (AP.q 1 I (AP.one 3 I (fun X => (AP.drop [2] I I I (AX.store 2 0 6 (es' := [[.v (.string g), .V a.2.2.1, .V a.2.2.2, .V e.1, .V i.1, .V j.1, .v F]]) I I I I I I (cells_v X) I (le_ble I) I I (AP.ofAO ?_))))))))))))
 obtain rfl := oi h
 refine AO.nil ?_
 exact ⟨_, _, _, I, ⟨F, I, I⟩, ⟨I, I, I, I, I, J⟩, [0, 1, 2, 3], I, by decide⟩
 refine AP.act [] I I I (AX.lt 1 (([1, 1, 10] : List Int).map rI) (AP.act [0] I I I (AX.c0 [0] (L.ziuk_ok b _ _ _ _ af) ?_)))
 refine AP.act [0] I I I (AX.c0 [0] (L.ztqk_ok b _ _ _ ag) ?_)
 refine AP.q 1 I (AP.act [0] I I I (AX.c0 [0] (L.zdjb_ok b _ _ _ ah) ?_))
 refine AP.q 2 I (AP.p I (Yp.buildP (l := [.V (wr (f.2.2.2 + y.1)), .V (wr (P.1 * Q.1)), .V (wr (k.1 - (wr (R.1 * 1000))))]) Tryz.bld88 I) I (AP.act [] I I I (AX.lt 3 (([(⟨wr (f.2.2.2 + y.1), wr (P.1 * Q.1), wr (k.1 - (wr (R.1 * 1000)))⟩ : Point)] : List Point).map Point.row) (AP.act [3] I I I (AX.ap 3 I ai (fun F => (AP.q 1 I (AP.one 3 I (fun X => (AP.drop [2] I I I (AX.store 2 0 6 (es' := [[.v (.string g), .V a.2.2.1, .V a.2.2.2, .V e.1, .V i.1, .V j.1, .v F]]) I I I I I I (cells_v X) I (le_ble I) I I (AP.ofAO ?_))))))))))))
 obtain rfl := oi h
 refine AO.nil ?_
 exact ⟨_, _, _, I, ⟨F, I, I⟩, ⟨I, I, I, I, I, J⟩, [0, 1, 2, 3], I, by decide⟩
 intro a3 h
 obtain rfl := ae _ (oi h).symm
 replace h := ad
 refine AW.exit ?_
 exact lg ⟨(u.1, u.2.1, f.2.2.1), n, h, I, I⟩ [0, 1, 2, 3]
 rintro s ob ⟨D, U, h, rfl, rfl⟩
 unfold L.zsex.J2 at h
 refine AW.seq ?_
 obtain ⟨A, a8, h⟩ := ob_some h
 obtain ⟨B, a9, h⟩ := ob_some h
 refine AW.rd (.still 0 (.still 1 (.still 2 (.still 3 (.still 4 (.still 6 (.act 5 (.still 7 (.act 8 (.act 9 (.still 10 (.drop 11 .nil)))))))))))) [2] [_] I (AP.r 6 [.o 1 0, .o 3 0] I ⟨I, I, J⟩ (AP.act [0] I I I (AX.c0 [0] (L.ziuk_ok b _ _ _ _ a8) ?_)))
 refine AP.p I (Yp.buildP (l := [.V e.1, .V A.1, .V k.1]) Tryz.bld88 I) I (AP.act [] I I I (AX.lt 3 (([(⟨e.1, A.1, k.1⟩ : Point)] : List Point).map Point.row) (AP.act [3] I I I (AX.ap 3 I a9 (fun Y => (AP.q 1 I (AP.one 3 I (fun ba => (AP.drop [2] I I I (AX.store 2 0 6 (es' := [[.v (.string g), .V a.2.2.1, .V a.2.2.2, .V e.1, .V i.1, .V j.1, .v Y]]) I I I I I I (cells_v ba) I (le_ble I) I I (AP.ofAO (AO.nil (AW.seq (AW.region (AO.r 1 [.o 0 2] I ⟨I, J⟩ (AO.act [1] I (AX.store 1 0 0 (es' := [[.v (.string g), .V a.2.2.1, .V a.2.2.2, .V e.1, .V i.1, .V j.1, .v Y]]) I I I I I I I I (le_ble I) I I (AO.nil ?_))))))))))))))))))
 refine AW.ghost (Ghost.freeze [3] (K := [.us Y 88 3 (B.map Point.row)]) I [(87, .list 3 (B.map Point.row)), (89, .agg [.v (.string g), .V a.2.2.1, .V a.2.2.2, .V e.1, .V i.1, .V j.1, .list 3 (B.map Point.row)])] ⟨⟨_, I, .us 0 I⟩, ⟨_, I, .agg (.cons (.refl _) (.cons (.refl _) (.cons (.refl _) (.cons (.refl _) (.cons (.refl _) (.cons (.refl _) (.cons (.us 0 I) (.rest _))))))))⟩, J⟩ (ob' := [.arr b 86 2 1 [KS.row A.2], .arr w 39 7 1 [[.v (.string g), .V a.2.2.1, .V a.2.2.2, .V e.1, .V i.1, .V j.1, .list 3 (B.map Point.row)]], .arr O 39 7 1 [[.v (.string g), .V a.2.2.1, .V a.2.2.2, .V e.1, .V i.1, .V j.1, .list 3 (B.map Point.row)]]]) (.cons (.same _) (.cons (.arr (.cons (.refl _) (.cons (.refl _) (.cons (.refl _) (.cons (.refl _) (.cons (.refl _) (.cons (.refl _) (.cons (.us 0 I) (.rest _))))))))) (.cons (.arr (.cons (.refl _) (.cons (.refl _) (.cons (.refl _) (.cons (.refl _) (.cons (.refl _) (.cons (.refl _) (.cons (.us 0 I) (.rest _))))))))) (.rest _))))) (AW.ghost (Ghost.pick [0, 1] (K := [.arr b 86 2 1 [KS.row A.2], .arr w 39 7 1 [[.v (.string g), .V a.2.2.1, .V a.2.2.2, .V e.1, .V i.1, .V j.1, .list 3 (B.map Point.row)]]]) I (by decide)) ?_)
 obtain rfl := oi h
 exact AW.ret ⟨.inr I, [_], [.arr b 86 2 1 [KS.row A.2]], ⟨⟨1, _, _, _, _, _, _, _, I, I, I, I, I⟩, J⟩, sl_c I (sl_n), ⟨[.arr b 86 2 1 [KS.row A.2]], [], I, I, I, I, I⟩⟩
end Go.Proofs.YtaliejncdnegeaaGreat
