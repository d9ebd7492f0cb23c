/- Walks that show what functions of the program compute; printed by a program of ours. No condition. -/
import Derived.Test.YtmaamhgjeampmaaGreatYsL1
set_option maxRecDepth 100000
namespace Go.Proofs.YtmaamhgjeampmaaGreat
open Go.Aw
set_option linter.unusedVariables false
set_option linter.unusedSimpArgs false
set_option maxHeartbeats 4000000
theorem L.ziti_ok (a : List Int) (r : KS) (h : L.ziti a = some r) : ACalls Tryz.env 11 [.list 1 (a.map rI)] [] (fun x new => ∃ (c : Nat), x = .v (.pointer (some ⟨c, 0, none⟩)) ∧ new = [.arr c 88 2 1 [KS.row r]]) := by
 refine ACalls.of_body Tryz.func11 rfl rfl rfl (fun C hC => ?_)
 unfold L.ziti at h
 refine AW.z I (AW.seq ?_)
 obtain ⟨b, e, h⟩ := ob_some h
 obtain ⟨f, g, i, j, k, n, o⟩ := sub_some e
 refine AW.region (AO.r 4 [.l 2 (a.length : Int)] I ⟨len_m, J⟩ (AO.p (Yp.subL f g 0 I I I I I (bnd0 i) ⟨_, _, I, j⟩ I k n o) I (AO.p (Yp.buildP (l := [.list 1 (b.map rI), .V 0]) Tryz.bld88 I) I (AO.act [] I (AX.box (cs := [.list 1 (b.map rI), .V 0]) (m := 2) I I I dS (fun d => (AO.q 1 I (AO.nil ?_))))))))
 obtain rfl := oi h
 exact AW.ret ⟨.inr I, [_], [.arr d 88 2 1 [[.list 1 (b.map rI), .V 0]]], ⟨I, J⟩, sl_c I (sl_n), ⟨d, I, I⟩⟩
theorem L.zxpl_ok (b : Nat) (a : KS) (r : Int × KS) (h : L.zxpl a = some r) : ACalls Tryz.env 75 [.v (.pointer (some ⟨b, 0, none⟩))] [.arr b 88 2 1 [KS.row a]] (Gives 1 (fun x os new => x = .V r.1 ∧ os = [.arr b 88 2 1 [KS.row r.2]] ∧ new = [])) := by
 refine ACalls.of_body Tryz.func75 rfl rfl rfl (fun C hC => ?_)
 unfold L.zxpl at h
 refine AW.z I (AW.seqG (fun j d => (AW.dz (pd 10 0 []) [0] [_] [.o 3 0, .o 7 0, .l 8 (a.L_.length : Int)] I I ⟨len_m, I, I, J⟩ (AW.ch h I ?_ ?_))))
 intro e h
 refine AW.z I ?_
 obtain rfl := oi h
 exact AW.ret ⟨.inr I, [_], [.arr b 88 2 1 [KS.row a]], ⟨I, J⟩, sl_c I (sl_n), ⟨[.arr b 88 2 1 [KS.row a]], [], I, I, I, I, I⟩⟩
 intro e h
 refine AW.skip ?_
 subst d
 refine AW.seqG (fun k f => (AW.region (AO.r 7 [.o 3 0] I ⟨I, J⟩ (AO.act [0] I (AX.st 0 0 1 [[.list 1 (a.L_.map rI), .V (wr (a.At + 1))]] I (AO.nil ?_))))))
 subst f
 refine AW.seq ?_
 obtain ⟨c, ⟨g, i⟩, h⟩ := ob_ix h
 refine AW.dt (pd 12 0 []) [0] [_] [.o 3 0, .o 7 0, .x 9 c.1 (rI c.2)] I I ⟨⟨g, map_get i⟩, I, I, J⟩ ?_
 obtain rfl := oi h
 exact AW.ret ⟨.inr I, [_], [.arr b 88 2 1 [[.list 1 (a.L_.map rI), .V (wr (a.At + 1))]]], ⟨I, J⟩, sl_c I (sl_n), ⟨[.arr b 88 2 1 [[.list 1 (a.L_.map rI), .V (wr (a.At + 1))]]], [], I, I, I, I, I⟩⟩
theorem L.zdjb_ok (a : Nat) (b : KS) (d : Int) (r : Int × KS) (h : L.zdjb b d = some r) : ACalls Tryz.env 27 [.v (.pointer (some ⟨a, 0, none⟩)), .V d] [.arr a 88 2 1 [KS.row b]] (Gives 1 (fun x os new => x = .V r.1 ∧ os = [.arr a 88 2 1 [KS.row r.2]] ∧ new = [])) := by
 refine ACalls.of_body Tryz.func27 rfl rfl rfl (fun C hC => ?_)
 unfold L.zdjb at h
 refine AW.z I (AW.seq ?_)
 obtain ⟨e, f, h⟩ := ob_some h
 obtain ⟨i, g, h⟩ := ob_some h
 refine AW.region (AO.q 1 I (AO.act [0] I (AX.c0 [0] (L.zxpl_ok a _ _ f) ?_)))
 refine AO.q 1 I (AO.c (L.zbjp_ok _ _ _ g) (AO.q 1 I (AO.nil ?_)))
 obtain rfl := oi h
 exact AW.ret ⟨.inr I, [_], [.arr a 88 2 1 [KS.row e.2]], ⟨I, J⟩, sl_c I (sl_n), ⟨[.arr a 88 2 1 [KS.row e.2]], [], I, I, I, I, I⟩⟩
theorem L.zeyi_ok (b : ByteArray) (a : Int) (r : ByteArray) (h : L.zeyi b a = some r) : ACalls Tryz.env 40 [.v (.string b), .V a] [] (fun x new => x = .v (.string r) ∧ new = []) := by
 refine ACalls.of_body Tryz.func40 rfl rfl rfl (fun C hC => ?_)
 unfold L.zeyi at h
 refine AW.z I (AW.seq ?_)
 obtain ⟨g, d, h⟩ := ob_some h
 obtain ⟨i, e, h⟩ := ob_some h
 refine AW.region (AO.r 4 [.f 2 (.V (a.tmod 26))] I ⟨Yp.yd (Yp.binI (c := (a.tmod 26)) I I ⟨by decide, I⟩), J⟩ (AO.p (Yp.convI (c := IntKind.u8.wrap (wr (97 + (a.tmod 26)))) I I I I I) I (AO.act [] I (AX.buildSlice (sz := 1) (es := ([IntKind.u8.wrap (wr (97 + (a.tmod 26)))] : List Int).map (rK .u8)) I I I I I I I I I I I dS (fun j => (AO.act [] I (AX.bytesX 0 d I I I I I I I I dS (AO.p (Yp.addSX I I (cat_some e)) I (AO.q 1 I (AO.nil (AW.ghost g0 ?_)))))))))))
 obtain rfl := oi h
 exact AW.ret pr
theorem L.ztqk_ok (a : Nat) (c : KS) (b : List Int) (r : Int × KS) (h : L.ztqk c b = some r) : ACalls Tryz.env 38 [.v (.pointer (some ⟨a, 0, none⟩)), .list 1 (b.map rI)] [.arr a 88 2 1 [KS.row c]] (Gives 1 (fun x os new => x = .V r.1 ∧ os = [.arr a 88 2 1 [KS.row r.2]] ∧ new = [])) := by
 refine ACalls.of_body Tryz.func38 rfl rfl rfl (fun C hC => ?_)
 unfold L.ztqk at h
 refine AW.z I (AW.seq ?_)
 obtain ⟨d, f, h⟩ := ob_some h
 obtain ⟨e, ⟨g, i⟩, h⟩ := ob_ix h
 refine AW.region (AO.r 4 [.l 3 (b.length : Int)] I ⟨len_m, J⟩ (AO.act [0] I (AX.c0 [0] (L.zdjb_ok a _ _ _ f) ?_)))
 refine AO.r 3 [.x 0 e.1 (rI e.2)] I ⟨⟨g, map_get i⟩, J⟩ (AO.nil ?_)
 obtain rfl := oi h
 exact AW.ret ⟨.inr I, [_], [.arr a 88 2 1 [KS.row d.2]], ⟨I, J⟩, sl_c I (sl_n), ⟨[.arr a 88 2 1 [KS.row d.2]], [], I, I, I, I, I⟩⟩
theorem L.ziuk_ok (a : Nat) (b : KS) (c : Int) (d : Int) (r : Int × KS) (h : L.ziuk b c d = some r) : ACalls Tryz.env 39 [.v (.pointer (some ⟨a, 0, none⟩)), .V c, .V d] [.arr a 88 2 1 [KS.row b]] (Gives 1 (fun x os new => x = .V r.1 ∧ os = [.arr a 88 2 1 [KS.row r.2]] ∧ new = [])) := by
 refine ACalls.of_body Tryz.func39 rfl rfl rfl (fun C hC => ?_)
 unfold L.ziuk at h
 refine AW.z I (AW.seq ?_)
 obtain ⟨e, f, h⟩ := ob_some h
 refine AW.region (AO.q 6 I (AO.act [0] I (AX.c0 [0] (L.zdjb_ok a _ _ _ f) ?_)))
 refine AO.q 2 I (AO.nil ?_)
 obtain rfl := oi h
 exact AW.ret ⟨.inr I, [_], [.arr a 88 2 1 [KS.row e.2]], ⟨I, J⟩, sl_c I (sl_n), ⟨[.arr a 88 2 1 [KS.row e.2]], [], I, I, I, I, I⟩⟩
theorem L.zsex_ok (b : Nat) (Y : KS) (S : Int) (F : Int) (G : Int) (r : Segment × KS) (h : L.zsex Y S F G = some r) : ACalls Tryz.env 41 [.v (.pointer (some ⟨b, 0, none⟩)), .V S, .V F, .V G] [.arr b 88 2 1 [KS.row Y]] (Gives 1 (fun x os new => x = .agg (Segment.row r.1) ∧ os = [.arr b 88 2 1 [KS.row r.2]] ∧ new = [])) := by
 refine ACalls.of_body Tryz.func41 rfl rfl rfl (fun C hC => ?_)
 unfold L.zsex at h
 refine AW.seqG (fun y1 aj => (AW.region (AO.act [] I (AX.alloc (cs := [.v (.string ⟨#[]⟩), .V 0, .V 0, .V 0, .V 0, .V 0, .N]) (m := 7) I I I I I dS (fun y => (AO.nil ?_))))))
 subst aj
 refine AW.cutX (fun s ob => ∃ (a : (List Int) × Int × Int × Int), L.zsex.J1 S a = some r ∧ s = [(2, .V a.2.2.1), (3, .V a.2.2.2)] ∧ ob = [.arr b 88 2 1 [[.list 1 (a.1.map rI), .V a.2.1]], .arr y 83 7 1 [[.v (.string ⟨#[]⟩), .V 0, .V 0, .V 0, .V 0, .V 0, .N]]]) [(0, _), (1, _), (8, _)] ⟨I, I, I, J⟩ ?_ ?_
 refine AW.seq ?_
 obtain ⟨H, ak, h⟩ := ob_some h
 refine AW.region (AO.q 1 I (AO.act [0] I (AX.c0 [0] (L.zdjb_ok b _ _ _ ak) ?_)))
 refine AO.q 1 I (AO.nil (AW.ch h I ?_ ?_))
 intro al h
 refine AW.t I ?_
 exact lg ⟨(H.2.L_, H.2.At, G, F), h, I, I⟩ [0, 1]
 intro al h
 refine AW.skip ?_
 exact lg ⟨(H.2.L_, H.2.At, F, G), h, I, I⟩ [0, 1]
 rintro s ob ⟨a, h, rfl, rfl⟩
 unfold L.zsex.J1 at h
 refine AW.seqG (fun y7 am => ?_)
 obtain ⟨g, an, h⟩ := ob_some h
 obtain ⟨e, ao, h⟩ := ob_some h
 obtain ⟨i, aq, h⟩ := ob_some h
 obtain ⟨j, ar, h⟩ := ob_some h
 refine AW.region (AO.q 1 I (AO.c (L.zeyi_ok _ _ _ an) (AO.q 3 I (AO.act [] I (AX.lt 1 (([1, 2, 7, 20, 60, 200, 1000] : List Int).map rI) (AO.act [0] I (AX.c0 [0] (L.ztqk_ok b _ _ _ ao) ?_)))))))
 refine AO.q 1 I (AO.act [] I (AX.lt 1 (([0, 1, 5, 1000] : List Int).map rI) (AO.act [0] I (AX.c0 [0] (L.ztqk_ok b _ _ _ aq) ?_))))
 refine AO.q 1 I (AO.act [] I (AX.lt 1 (([0, 50, 1000, 100000] : List Int).map rI) (AO.act [0] I (AX.c0 [0] (L.ztqk_ok b _ _ _ ar) ?_))))
 refine AO.p (Yp.buildP (l := [.v (.string g), .V a.2.2.1, .V a.2.2.2, .V e.1, .V i.1, .V j.1, .N]) Tryz.bld83 I) I (AO.act [] I (AX.alloc (cs := [.v (.string ⟨#[]⟩), .V 0, .V 0, .V 0, .V 0, .V 0, .N]) (m := 7) I I I I I dS (fun M => (AO.act [2] I (AX.st 2 0 0 [[.v (.string g), .V a.2.2.1, .V a.2.2.2, .V e.1, .V i.1, .V j.1, .N]] I (AO.nil ?_))))))
 subst am
 refine AW.seqG (fun bd au => ?_)
 obtain ⟨k, av, h⟩ := ob_some h
 refine AW.region (AO.q 1 I (AO.act [] I (AX.lt 1 (([1000000, 6000000, 100000000] : List Int).map rI) (AO.act [0] I (AX.c0 [0] (L.ztqk_ok b _ _ _ av) ?_)))))
 refine AO.q 1 I (AO.nil ?_)
 subst au
 refine AW.seqG (fun be aw => ?_)
 obtain ⟨Z, ax, h⟩ := ob_some h
 obtain ⟨bf, aa, h⟩ := ob_some h
 refine AW.rd (.still 0 (.still 1 (.still 2 (.still 4 (.act 3 (.still 5 (.act 6 (.act 7 (.still 8 (.drop 9 .nil)))))))))) [2] [_] I (AP.r 4 [.o 1 0] I ⟨I, J⟩ (AP.act [0] I I I (AX.c0 [0] (L.ziuk_ok b _ _ _ _ ax) ?_)))
 refine AP.p I (Yp.buildP (l := [.V 0, .V Z.1, .V k.1]) Tryz.bld80 I) I (AP.act [] I I I (AX.lt 3 (([(⟨0, Z.1, k.1⟩ : Point)] : List Point).map Point.row) (AP.act [] I I I (AX.appendN I I I I I I I I (AppSrc.list I) (app_len0 (app_some aa).1) (app_map0 (app_some aa).2) dS (fun ab => (AP.q 1 I (AP.one 3 I (fun ay => (AP.drop [2] I I I (AX.store 2 0 6 (es' := [[.v (.string g), .V a.2.2.1, .V a.2.2.2, .V e.1, .V i.1, .V j.1, .v ab]]) I I I I I I (cells_v ay) I (le_ble I) I I (AP.ofAO (AO.nil ?_))))))))))))
 subst aw
 refine AW.cutX (fun s ob => ∃ (A : (List Int) × Int × (List Point)) (U : Value), L.zsex.J2 a g e i j k A = some r ∧ s = [] ∧ ob = [.arr b 88 2 1 [[.list 1 (A.1.map rI), .V A.2.1]], .arr y 83 7 1 [[.v (.string ⟨#[]⟩), .V 0, .V 0, .V 0, .V 0, .V 0, .N]], .arr M 83 7 1 [[.v (.string g), .V a.2.2.1, .V a.2.2.2, .V e.1, .V i.1, .V j.1, .v U]], .us U 80 3 (A.2.2.map Point.row)]) [(0, _), (8, _), (9, _), (10, _)] ⟨I, I, I, I, J⟩ ?_ ?_
 refine AW.z I (AW.block ?_)
 obtain ⟨bg, az, ac⟩ := ob_some h
 clear h
 refine AW.loopX az [(0, _), (8, _), (9, _), (10, _)] ⟨I, I, I, I, J⟩ (fun (f : (List Int) × Int × (List Point) × Int) s ob => ∃ (n : Value), s = [(11, .V f.2.2.2)] ∧ ob = [.arr b 88 2 1 [[.list 1 (f.1.map rI), .V f.2.1]], .arr y 83 7 1 [[.v (.string ⟨#[]⟩), .V 0, .V 0, .V 0, .V 0, .V 0, .N]], .arr M 83 7 1 [[.v (.string g), .V a.2.2.1, .V a.2.2.2, .V e.1, .V i.1, .V j.1, .v n]], .us n 80 3 (f.2.2.1.map Point.row)]) ⟨ab, I, I⟩ ⟨I, J⟩ ⟨[0, 1, 2, 3], I, by decide⟩ ?_
 rintro f a0 s ob ⟨n, rfl, rfl⟩ h ad
 unfold L.zsex.B3 at h
 refine AW.seqG (fun bh a1 => (AW.cutX (fun s ob => ∃ (u : (List Int) × Int × Bool), L.zsex.J4 e k f u = some a0 ∧ s = [(51, .v (.bool u.2.2))] ∧ ob = [.arr b 88 2 1 [[.list 1 (u.1.map rI), .V u.2.1]], .arr y 83 7 1 [[.v (.string ⟨#[]⟩), .V 0, .V 0, .V 0, .V 0, .V 0, .N]], .arr M 83 7 1 [[.v (.string g), .V a.2.2.1, .V a.2.2.2, .V e.1, .V i.1, .V j.1, .v n]], .us n 80 3 (f.2.2.1.map Point.row)]) [(0, _), (8, _), (9, _), (10, _), (11, _)] ⟨I, I, I, I, I, J⟩ ?_ ?_))
 rcases bt (decide ((f.2.2.1.length : Int) < 7)) with B | B
 replace h := ife_t B h
 obtain ⟨W, a2, h⟩ := ob_some h
 refine AW.region (AO.r 2 [.o 1 2] I ⟨I, J⟩ (AO.d (Yd.lenUM 3 I I I I) I (AO.q 2 I (AO.known 47 I B (AO.q 1 I (AO.gt I I I (AO.act [0] I (AX.c0 [0] (L.zdjb_ok b _ _ _ a2) ?_))))))))
 refine AO.q 2 I (AO.nil ?_)
 exact lg ⟨(W.2.L_, W.2.At, decide (W.1 > 0)), h, I, I⟩ [0, 1, 2, 3]
 replace h := ife_f B h
 refine AW.region (AO.r 2 [.o 1 2] I ⟨I, J⟩ (AO.d (Yd.lenUM 3 I I I I) I (AO.q 2 I (AO.known 47 I B (AO.q 4 I (AO.nil ?_))))))
 exact lg ⟨(f.1, f.2.1, false), h, I, I⟩ [0, 1, 2, 3]
 rintro s ob ⟨u, h, rfl, rfl⟩
 unfold L.zsex.J4 at h
 refine AW.ch h I ?_ ?_
 intro a3 h
 refine AW.skip ?_
 subst a1
 refine AW.block (AW.seqG (fun bi a4 => ?_))
 obtain ⟨w, a5, h⟩ := ob_some h
 refine AW.region (AO.q 2 I (AO.act [0] I (AX.c0 [0] (L.ziuk_ok b _ _ _ _ a5) ?_)))
 refine AO.q 2 I (AO.nil ?_)
 subst a4
 refine AW.seqG (fun bj a6 => (AW.zr [.o 2 2] I ⟨I, J⟩ (AW.ch h I ?_ ?_)))
 intro a7 h
 obtain rfl := ad _ (oi h).symm
 replace h := ac
 refine AW.exit ?_
 exact lg ⟨(w.2.L_, w.2.At, f.2.2.1), n, h, I, I⟩ [0, 1, 2, 3]
 intro a7 h
 refine AW.skip ?_
 subst a6
 obtain ⟨O, ae, h⟩ := ob_some h
 obtain ⟨P, af, h⟩ := ob_some h
 obtain ⟨Q, ag, h⟩ := ob_some h
 obtain ⟨bk, ah, h⟩ := ob_some h
 refine AW.rd (.still 0 (.still 1 (.still 2 (.still 3 (.still 5 (.still 9 (.still 10 (.two 4 6 (.act 6 (.act 7 (.still 8 (.act 11 (.still 12 (.still 13 (.still 14 (.act 15 (.act 16 (.still 17 (.drop 18 .nil))))))))))) (.act 4 (.act 7 (.still 8 (.act 11 (.still 12 (.still 13 (.still 14 (.act 15 (.act 16 (.still 17 (.drop 18 .nil))))))))))))))))))) [2] [_] I (AP.r 7 [.o 1 0] I ⟨I, J⟩ (AP.two ?_ ?_))
 refine AP.act [0] I I I (AX.c0 [0] (L.ziuk_ok b _ _ _ _ ae) ?_)
 refine AP.act [] I I I (AX.lt 1 (([1, 1, 10] : List Int).map rI) (AP.act [0] I I I (AX.c0 [0] (L.ztqk_ok b _ _ _ af) ?_)))
 refine AP.q 1 I (AP.act [0] I I I (AX.c0 [0] (L.zdjb_ok b _ _ _ ag) ?_))
 refine AP.q 2 I (AP.p I (Yp.buildP (l := [.V (wr (f.2.2.2 + w.1)), .V (wr (O.1 * P.1)), .V (wr (k.1 - (wr (Q.1 * 1000))))]) Tryz.bld80 I) I (AP.act [] I I I (AX.lt 3 (([(⟨wr (f.2.2.2 + w.1), wr (O.1 * P.1), wr (k.1 - (wr (Q.1 * 1000)))⟩ : Point)] : List Point).map Point.row) (AP.act [3] I I I (AX.ap 3 I ah (fun D => (AP.q 1 I (AP.one 3 I (fun X => (AP.drop [2] I I I (AX.store 2 0 6 (es' := [[.v (.string g), .V a.2.2.1, .V a.2.2.2, .V e.1, .V i.1, .V j.1, .v D]]) I I I I I I (cells_v X) I (le_ble I) I I (AP.ofAO ?_))))))))))))
 obtain rfl := oi h
 refine AO.nil ?_
 exact ⟨_, _, _, I, ⟨D, I, I⟩, ⟨I, I, I, I, I, J⟩, [0, 1, 2, 3], I, by decide⟩
 refine AP.act [] I I I (AX.lt 1 (([1, 1, 10] : List Int).map rI) (AP.act [0] I I I (AX.c0 [0] (L.ziuk_ok b _ _ _ _ ae) ?_)))
 refine AP.act [0] I I I (AX.c0 [0] (L.ztqk_ok b _ _ _ af) ?_)
 refine AP.q 1 I (AP.act [0] I I I (AX.c0 [0] (L.zdjb_ok b _ _ _ ag) ?_))
 refine AP.q 2 I (AP.p I (Yp.buildP (l := [.V (wr (f.2.2.2 + w.1)), .V (wr (O.1 * P.1)), .V (wr (k.1 - (wr (Q.1 * 1000))))]) Tryz.bld80 I) I (AP.act [] I I I (AX.lt 3 (([(⟨wr (f.2.2.2 + w.1), wr (O.1 * P.1), wr (k.1 - (wr (Q.1 * 1000)))⟩ : Point)] : List Point).map Point.row) (AP.act [3] I I I (AX.ap 3 I ah (fun D => (AP.q 1 I (AP.one 3 I (fun X => (AP.drop [2] I I I (AX.store 2 0 6 (es' := [[.v (.string g), .V a.2.2.1, .V a.2.2.2, .V e.1, .V i.1, .V j.1, .v D]]) I I I I I I (cells_v X) I (le_ble I) I I (AP.ofAO ?_))))))))))))
 obtain rfl := oi h
 refine AO.nil ?_
 exact ⟨_, _, _, I, ⟨D, I, I⟩, ⟨I, I, I, I, I, J⟩, [0, 1, 2, 3], I, by decide⟩
 intro a3 h
 obtain rfl := ad _ (oi h).symm
 replace h := ac
 refine AW.exit ?_
 exact lg ⟨(u.1, u.2.1, f.2.2.1), n, h, I, I⟩ [0, 1, 2, 3]
 rintro s ob ⟨A, U, h, rfl, rfl⟩
 unfold L.zsex.J2 at h
 refine AW.seq ?_
 obtain ⟨E, a8, h⟩ := ob_some h
 obtain ⟨ai, a9, h⟩ := ob_some h
 refine AW.rd (.still 0 (.still 1 (.still 2 (.still 3 (.still 4 (.still 6 (.act 5 (.still 7 (.act 8 (.act 9 (.still 10 (.drop 11 .nil)))))))))))) [2] [_] I (AP.r 6 [.o 1 0, .o 3 0] I ⟨I, I, J⟩ (AP.act [0] I I I (AX.c0 [0] (L.ziuk_ok b _ _ _ _ a8) ?_)))
 refine AP.p I (Yp.buildP (l := [.V e.1, .V E.1, .V k.1]) Tryz.bld80 I) I (AP.act [] I I I (AX.lt 3 (([(⟨e.1, E.1, k.1⟩ : Point)] : List Point).map Point.row) (AP.act [3] I I I (AX.ap 3 I a9 (fun R => (AP.q 1 I (AP.one 3 I (fun ba => (AP.drop [2] I I I (AX.store 2 0 6 (es' := [[.v (.string g), .V a.2.2.1, .V a.2.2.2, .V e.1, .V i.1, .V j.1, .v R]]) I I I I I I (cells_v ba) I (le_ble I) I I (AP.ofAO (AO.nil (AW.seq (AW.region (AO.r 1 [.o 0 2] I ⟨I, J⟩ (AO.act [1] I (AX.st 1 0 0 [[.v (.string g), .V a.2.2.1, .V a.2.2.2, .V e.1, .V i.1, .V j.1, .v R]] I (AO.nil ?_))))))))))))))))))
 refine AW.ghost (Ghost.freeze [3] (K := [.us R 80 3 (ai.map Point.row)]) I [] J (ob' := [.arr b 88 2 1 [KS.row E.2], .arr y 83 7 1 [[.v (.string g), .V a.2.2.1, .V a.2.2.2, .V e.1, .V i.1, .V j.1, .list 3 (ai.map Point.row)]], .arr M 83 7 1 [[.v (.string g), .V a.2.2.1, .V a.2.2.2, .V e.1, .V i.1, .V j.1, .v R]]]) (.cons (.same _) (.cons (.arr (.cons (.refl _) (.cons (.refl _) (.cons (.refl _) (.cons (.refl _) (.cons (.refl _) (.cons (.refl _) (.cons (.us 0 I) (.rest _))))))))) (.rest _)))) (AW.gp [0, 1] I ?_)
 obtain rfl := oi h
 exact AW.ret ⟨.inr I, [_], [.arr b 88 2 1 [KS.row E.2]], ⟨⟨1, _, _, _, _, _, _, _, I, I, I, I, I⟩, J⟩, sl_c I (sl_n), ⟨[.arr b 88 2 1 [KS.row E.2]], [], I, I, I, I, I⟩⟩
end Go.Proofs.YtmaamhgjeampmaaGreat
