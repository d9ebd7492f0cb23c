/- Walks that show what functions of the program compute; printed by a program of ours. No condition. -/
import Derived.Test.YtmaamhgjeampmaaGreatYsL4
set_option maxRecDepth 100000
namespace Go.Proofs.YtmaamhgjeampmaaGreat
open Go.Aw
set_option linter.unusedVariables false
set_option linter.unusedSimpArgs false
set_option maxHeartbeats 4000000
theorem L.zeju_ok (a : Nat) (aq : KS) (r : Network × KS) (h : L.zeju aq = some r) : ACalls Tryz.env 12 [.v (.pointer (some ⟨a, 0, none⟩))] [.arr a 88 2 1 [KS.row aq]] (Gives 1 (fun x os new => x = .agg (Network.row r.1) ∧ os = [.arr a 88 2 1 [KS.row r.2]] ∧ new = [])) := by
 refine ACalls.of_body Tryz.func12 rfl rfl rfl (fun C hC => ?_)
 unfold L.zeju at h
 refine AW.seqG (fun y1 a4 => (AW.region (AO.act [] I (AX.alloc (cs := [.N, .N, .N, .N, .V 0, .V 0]) (m := 6) I I I I I dS (fun A => (AO.nil ?_))))))
 subst a4
 refine AW.seqG (fun y3 a5 => ?_)
 obtain ⟨j, a6, h⟩ := ob_some h
 obtain ⟨k, a7, h⟩ := ob_some h
 refine AW.region (AO.q 1 I (AO.act [] I (AX.lt 1 (([(-100000), 0, 50000] : List Int).map rI) (AO.act [0] I (AX.c0 [0] (L.ztqk_ok a _ _ _ a6) ?_)))))
 refine AO.q 1 I (AO.act [] I (AX.lt 1 (([0, 1, 5, 100] : List Int).map rI) (AO.act [0] I (AX.c0 [0] (L.ztqk_ok a _ _ _ a7) ?_))))
 refine AO.p (Yp.buildP (l := [.N, .N, .N, .N, .V j.1, .V k.1]) Tryz.bld32 I) I (AO.act [] I (AX.alloc (cs := [.N, .N, .N, .N, .V 0, .V 0]) (m := 6) I I I I I dS (fun B => (AO.act [2] I (AX.st 2 0 0 [[.N, .N, .N, .N, .V j.1, .V k.1]] I (AO.nil ?_))))))
 subst a5
 refine AW.cutX (fun s ob => ∃ (n : (List Int) × Int × (List ByteArray)) (i : Value), L.zeju.J1 j k n = some r ∧ s = [] ∧ ob = [.arr a 88 2 1 [[.list 1 (n.1.map rI), .V n.2.1]], .arr A 32 6 1 [[.N, .N, .N, .N, .V 0, .V 0]], .arr B 32 6 1 [[.v i, .N, .N, .N, .V j.1, .V k.1]], .us i 9 1 (n.2.2.map rS)]) [(0, _), (2, _), (3, _)] ⟨I, I, I, J⟩ ?_ ?_
 refine AW.seqG (fun cw a8 => ?_)
 obtain ⟨al, a9, h⟩ := ob_some h
 refine AW.region (AO.q 1 I (AO.act [0] I (AX.c0 [0] (L.ziuk_ok a _ _ _ _ a9) ?_)))
 refine AO.q 1 I (AO.nil ?_)
 subst a8
 refine AW.block (AW.ghost (Ghost.nilU 9 1) ?_)
 obtain ⟨cx, ba, bb⟩ := ob_some h
 clear h
 refine AW.loopX ba [(0, _), (2, _), (3, _)] ⟨I, I, I, J⟩ (fun (ab : (List ByteArray) × Int) s ob => ∃ (ac : Value), s = [(4, .V ab.2)] ∧ ob = [.arr a 88 2 1 [KS.row al.2], .arr A 32 6 1 [[.N, .N, .N, .N, .V 0, .V 0]], .arr B 32 6 1 [[.v ac, .N, .N, .N, .V j.1, .V k.1]], .us ac 9 1 (ab.1.map rS)]) ⟨(.slice none 0 0), I, I⟩ ⟨I, J⟩ ⟨[0, 1, 2, 3], I, by decide⟩ ?_
 rintro ab cy s ob ⟨ac, rfl, rfl⟩ h bc
 unfold L.zeju.B12 at h
 refine AW.seqG (fun cz bd => (AW.z I (AW.ch h I ?_ ?_)))
 intro be h
 refine AW.skip ?_
 subst bd
 refine AW.seq (AW.block ?_)
 obtain ⟨bf, bg, h⟩ := ob_some h
 obtain ⟨c1, bh, h⟩ := ob_some h
 refine AW.formL 3 I (fun bi => (AW.rd (.still 0 (.still 1 (.still 2 (.still 3 (.still 4 (.act 5 (.act 6 (.act 7 (.still 8 (.drop 9 .nil)))))))))) [2] [_] I (AP.r 4 [.o 1 0, .o 3 0] I ⟨I, I, J⟩ (AP.op I (Yp.lenUf I I I bi) I (AP.c I (L.zeyi_ok _ _ _ bg) (AP.act [] I I I (AX.lt 1 (([bf] : List ByteArray).map rS) (AP.act [3] I I I (AX.ap 3 I bh (fun ar => (AP.q 1 I (AP.one 3 I (fun bj => (AP.drop [2] I I I (AX.store 2 0 0 (es' := [[.v ar, .N, .N, .N, .V j.1, .V k.1]]) I I I I I I (cells_v bj) I (le_ble I) I I (AP.ofAO (AO.nil (AW.region ?_))))))))))))))))))
 refine AO.q 3 I ?_
 obtain rfl := oi h
 refine AO.nil ?_
 exact ⟨_, _, _, I, ⟨ar, I, I⟩, ⟨I, I, I, I, J⟩, [0, 1, 2, 3], I, by decide⟩
 intro be h
 obtain rfl := bc _ (oi h).symm
 replace h := bb
 refine AW.exit ?_
 exact lg ⟨(al.2.L_, al.2.At, ab.1), ac, h, I, I⟩ [0, 1, 2, 3]
 rintro s ob ⟨n, i, h, rfl, rfl⟩
 unfold L.zeju.J1 at h
 refine AW.seqG (fun c2 bk => (AW.region (AO.r 2 [.o 1 2] I ⟨I, J⟩ (AO.d (Yd.lenUM 3 I I I I) I (AO.q 2 I (AO.nil ?_))))))
 subst bk
 refine AW.cutX (fun s ob => ∃ (X : (List Int) × Int × (List Segment)) (ad : Value), L.zeju.J2 j k n X = some r ∧ s = [] ∧ ob = [.arr a 88 2 1 [[.list 1 (X.1.map rI), .V X.2.1]], .arr A 32 6 1 [[.N, .N, .N, .N, .V 0, .V 0]], .arr B 32 6 1 [[.v i, .v ad, .N, .N, .V j.1, .V k.1]], .us i 9 1 (n.2.2.map rS), .us ad 83 7 (X.2.2.map Segment.row)]) [(0, _), (2, _), (3, _), (5, _)] ⟨I, I, I, I, J⟩ ?_ ?_
 refine AW.z I (AW.block (AW.ghost (Ghost.nilU 83 7) ?_))
 obtain ⟨c3, bl, bm⟩ := ob_some h
 clear h
 refine AW.loopX bl [(0, _), (2, _), (3, _), (5, _)] ⟨I, I, I, I, J⟩ (fun (F : (List Int) × Int × (List Segment) × Int) s ob => ∃ (ae : Value), s = [(6, .V F.2.2.2)] ∧ ob = [.arr a 88 2 1 [[.list 1 (F.1.map rI), .V F.2.1]], .arr A 32 6 1 [[.N, .N, .N, .N, .V 0, .V 0]], .arr B 32 6 1 [[.v i, .v ae, .N, .N, .V j.1, .V k.1]], .us i 9 1 (n.2.2.map rS), .us ae 83 7 (F.2.2.1.map Segment.row)]) ⟨(.slice none 0 0), I, I⟩ ⟨I, J⟩ ⟨[0, 1, 2, 3, 4], I, by decide⟩ ?_
 rintro F c4 s ob ⟨ae, rfl, rfl⟩ h bn
 unfold L.zeju.B11 at h
 refine AW.seqG (fun c5 bo => (AW.z I (AW.ch h I ?_ ?_)))
 intro bp h
 refine AW.skip ?_
 subst bo
 refine AW.seq (AW.block ?_)
 obtain ⟨bq, br, h⟩ := ob_some h
 obtain ⟨c6, bs, h⟩ := ob_some h
 refine AW.formL 4 I (fun bu => (AW.rd (.still 0 (.still 1 (.still 2 (.still 3 (.still 4 (.still 5 (.still 6 (.still 7 (.still 8 (.act 9 (.act 10 (.act 11 (.still 12 (.drop 13 .nil)))))))))))))) [2] [_] I (AP.r 5 [.o 1 0, .o 4 0] I ⟨I, I, J⟩ (AP.op I (Yp.lenUf I I I bu) I (AP.q 3 I (AP.act [0] I I I (AX.c0 [0] (L.zsex_ok a _ _ _ _ _ br) ?_)))))))
 refine AP.act [] I I I (AX.lt 7 (([bq.1] : List Segment).map Segment.row) (AP.act [4] I I I (AX.ap 4 I bs (fun au => (AP.q 1 I (AP.one 4 I (fun bv => (AP.drop [2] I I I (AX.store 2 0 1 (es' := [[.v i, .v au, .N, .N, .V j.1, .V k.1]]) I I I I I I (cells_v bv) I (le_ble I) I I (AP.ofAO (AO.nil (AW.region (AO.q 3 I ?_)))))))))))))
 obtain rfl := oi h
 refine AO.nil ?_
 exact ⟨_, _, _, I, ⟨au, I, I⟩, ⟨I, I, I, I, I, J⟩, [0, 1, 2, 3, 4], I, by decide⟩
 intro bp h
 obtain rfl := bn _ (oi h).symm
 replace h := bm
 refine AW.exit ?_
 exact lg ⟨(F.1, F.2.1, F.2.2.1), ae, h, I, I⟩ [0, 1, 2, 3, 4]
 rintro s ob ⟨X, ad, h, rfl, rfl⟩
 unfold L.zeju.J2 at h
 refine AW.cutX (fun s ob => ∃ (y : (List Int) × Int × (List Segment)) (t : Value), L.zeju.J3 j k n y = some r ∧ s = [] ∧ ob = [.arr a 88 2 1 [[.list 1 (y.1.map rI), .V y.2.1]], .arr A 32 6 1 [[.N, .N, .N, .N, .V 0, .V 0]], .arr B 32 6 1 [[.v i, .v t, .N, .N, .V j.1, .V k.1]], .us i 9 1 (n.2.2.map rS), .us t 83 7 (y.2.2.map Segment.row)]) [(0, _), (2, _), (3, _), (5, _)] ⟨I, I, I, I, J⟩ ?_ ?_
 refine AW.seqG (fun c7 bw => ?_)
 obtain ⟨c8, bx, h⟩ := ob_some h
 refine AW.region (AO.q 1 I (AO.act [0] I (AX.c0 [0] (L.zdjb_ok a _ _ _ bx) ?_)))
 refine AO.q 1 I (AO.nil ?_)
 subst bw
 refine AW.block ?_
 obtain ⟨c9, bz, b1⟩ := ob_some h
 clear h
 refine AW.loopX bz [(0, _), (2, _), (3, _), (5, _)] ⟨I, I, I, I, J⟩ (fun (G : (List Int) × Int × (List Segment) × Int) s ob => ∃ (af : Value), s = [(7, .V G.2.2.2)] ∧ ob = [.arr a 88 2 1 [[.list 1 (G.1.map rI), .V G.2.1]], .arr A 32 6 1 [[.N, .N, .N, .N, .V 0, .V 0]], .arr B 32 6 1 [[.v i, .v af, .N, .N, .V j.1, .V k.1]], .us i 9 1 (n.2.2.map rS), .us af 83 7 (G.2.2.1.map Segment.row)]) ⟨ad, I, I⟩ ⟨I, J⟩ ⟨[0, 1, 2, 3, 4], I, by decide⟩ ?_
 rintro G da s ob ⟨af, rfl, rfl⟩ h b3
 unfold L.zeju.B10 at h
 refine AW.seqG (fun db b4 => (AW.z I (AW.ch h I ?_ ?_)))
 intro b5 h
 refine AW.skip ?_
 subst b4
 refine AW.seq (AW.block (AW.seqG (fun dc b6 => ?_)))
 obtain ⟨dd, b7, h⟩ := ob_some h
 refine AW.region (AO.q 2 I (AO.act [0] I (AX.c0 [0] (L.zdjb_ok a _ _ _ b7) ?_)))
 refine AO.q 1 I (AO.nil ?_)
 subst b6
 obtain ⟨de, b8, h⟩ := ob_some h
 obtain ⟨b9, ca, h⟩ := ob_some h
 obtain ⟨df, cb, h⟩ := ob_some h
 refine AW.formL 4 I (fun cc => (AW.rd (.still 0 (.still 1 (.still 2 (.still 3 (.still 4 (.still 5 (.still 6 (.still 7 (.still 8 (.still 9 (.still 10 (.act 11 (.act 12 (.act 13 (.act 14 (.still 15 (.drop 16 .nil))))))))))))))))) [2] [_] I (AP.r 5 [.o 1 0, .o 4 0] I ⟨I, I, J⟩ (AP.op I (Yp.lenUf I I I cc) I (AP.q 5 I (AP.act [0] I I I (AX.c0 [0] (L.ziuk_ok a _ _ _ _ b8) ?_)))))))
 refine AP.act [0] I I I (AX.c0 [0] (L.zsex_ok a _ _ _ _ _ ca) ?_)
 refine AP.act [] I I I (AX.lt 7 (([b9.1] : List Segment).map Segment.row) (AP.act [4] I I I (AX.ap 4 I cb (fun av => (AP.q 1 I (AP.one 4 I (fun cd => (AP.drop [2] I I I (AX.store 2 0 1 (es' := [[.v i, .v av, .N, .N, .V j.1, .V k.1]]) I I I I I I (cells_v cd) I (le_ble I) I I (AP.ofAO (AO.nil (AW.region (AO.q 3 I ?_)))))))))))))
 obtain rfl := oi h
 refine AO.nil ?_
 exact ⟨_, _, _, I, ⟨av, I, I⟩, ⟨I, I, I, I, I, J⟩, [0, 1, 2, 3, 4], I, by decide⟩
 intro b5 h
 obtain rfl := b3 _ (oi h).symm
 replace h := b1
 refine AW.exit ?_
 exact lg ⟨(G.1, G.2.1, G.2.2.1), af, h, I, I⟩ [0, 1, 2, 3, 4]
 rintro s ob ⟨y, t, h, rfl, rfl⟩
 unfold L.zeju.J3 at h
 refine AW.cutX (fun s ob => ∃ (u : (List Int) × Int × (List Port) × (List Station)) (R : Value) (S : Value), L.zeju.J4 j k n y u = some r ∧ s = [] ∧ ob = [.arr a 88 2 1 [[.list 1 (u.1.map rI), .V u.2.1]], .arr A 32 6 1 [[.N, .N, .N, .N, .V 0, .V 0]], .arr B 32 6 1 [[.v i, .v t, .v R, .v S, .V j.1, .V k.1]], .us i 9 1 (n.2.2.map rS), .us t 83 7 (y.2.2.map Segment.row), .us R 85 3 (u.2.2.1.map Port.row), .us S 93 5 (u.2.2.2.map Station.row)]) [(2, _), (3, _)] ⟨I, I, J⟩ ?_ ?_
 refine AW.z I (AW.block (AW.ghost (Ghost.nilU 85 3) (AW.ghost (Ghost.nilU 93 5) ?_)))
 obtain ⟨dg, ce, cf⟩ := ob_some h
 clear h
 refine AW.loopX ce [(0, _), (2, _), (3, _), (5, _)] ⟨I, I, I, I, J⟩ (fun (g : (List Int) × Int × (List Port) × (List Station) × Int) s ob => ∃ (O : Value) (D : Value), s = [(9, .V g.2.2.2.2)] ∧ ob = [.arr a 88 2 1 [[.list 1 (g.1.map rI), .V g.2.1]], .arr A 32 6 1 [[.N, .N, .N, .N, .V 0, .V 0]], .arr B 32 6 1 [[.v i, .v t, .v O, .v D, .V j.1, .V k.1]], .us i 9 1 (n.2.2.map rS), .us t 83 7 (y.2.2.map Segment.row), .us O 85 3 (g.2.2.1.map Port.row), .us D 93 5 (g.2.2.2.1.map Station.row)]) ⟨(.slice none 0 0), (.slice none 0 0), I, I⟩ ⟨I, J⟩ ⟨[0, 1, 2, 3, 4, 5, 6], I, by decide⟩ ?_
 rintro g ag s ob ⟨O, D, rfl, rfl⟩ h cg
 unfold L.zeju.B5 at h
 refine AW.seqG (fun dh ci => (AW.z I (AW.ch h I ?_ ?_)))
 intro cj h
 refine AW.skip ?_
 subst ci
 refine AW.cutX (fun s ob => ∃ (U : (List Int) × Int × (List Port) × (List Station)) (ah : Value) (ai : Value), L.zeju.J6 g U = some ag ∧ s = [] ∧ ob = [.arr a 88 2 1 [[.list 1 (U.1.map rI), .V U.2.1]], .arr A 32 6 1 [[.N, .N, .N, .N, .V 0, .V 0]], .arr B 32 6 1 [[.v i, .v t, .v ah, .v ai, .V j.1, .V k.1]], .us i 9 1 (n.2.2.map rS), .us t 83 7 (y.2.2.map Segment.row), .us ah 85 3 (U.2.2.1.map Port.row), .us ai 93 5 (U.2.2.2.map Station.row)]) [(0, _), (2, _), (3, _), (5, _), (9, _)] ⟨I, I, I, I, I, J⟩ ?_ ?_
 refine AW.block (AW.cutX (fun s ob => ∃ (E : (List Int) × Int × (List Port)) (H : Value), L.zeju.J7 n g E = some ag ∧ s = [] ∧ ob = [.arr a 88 2 1 [[.list 1 (E.1.map rI), .V E.2.1]], .arr A 32 6 1 [[.N, .N, .N, .N, .V 0, .V 0]], .arr B 32 6 1 [[.v i, .v t, .v H, .v D, .V j.1, .V k.1]], .us i 9 1 (n.2.2.map rS), .us t 83 7 (y.2.2.map Segment.row), .us H 85 3 (E.2.2.map Port.row), .us D 93 5 (g.2.2.2.1.map Station.row)]) [(0, _), (2, _), (3, _), (5, _), (9, _)] ⟨I, I, I, I, I, J⟩ ?_ ?_)
 refine AW.cutX (fun s ob => ∃ (P : (List Int) × Int × Bool), L.zeju.J9 n g P = some ag ∧ s = [(95, .v (.bool P.2.2))] ∧ ob = [.arr a 88 2 1 [[.list 1 (P.1.map rI), .V P.2.1]], .arr A 32 6 1 [[.N, .N, .N, .N, .V 0, .V 0]], .arr B 32 6 1 [[.v i, .v t, .v O, .v D, .V j.1, .V k.1]], .us i 9 1 (n.2.2.map rS), .us t 83 7 (y.2.2.map Segment.row), .us O 85 3 (g.2.2.1.map Port.row), .us D 93 5 (g.2.2.2.1.map Station.row)]) [(0, _), (2, _), (3, _), (5, _), (9, _)] ⟨I, I, I, I, I, J⟩ ?_ ?_
 rcases bt ((g.2.2.2.2 == 0)) with W | W
 replace h := ife_t W h
 refine AW.region (AO.q 3 I (AO.known 86 I W (AO.q 9 I (AO.nil ?_))))
 exact lg ⟨(g.1, g.2.1, true), h, I, I⟩ [0, 1, 2, 3, 4, 5, 6]
 replace h := ife_f W h
 rcases bt ((g.2.2.2.2 == (wr ((n.2.2.length : Int) - 1)))) with Y | Y
 replace h := ife_t Y h
 refine AW.region (AO.q 3 I (AO.known 86 I W (AO.q 5 I (AO.known 91 I Y (AO.q 4 I (AO.nil ?_))))))
 exact lg ⟨(g.1, g.2.1, true), h, I, I⟩ [0, 1, 2, 3, 4, 5, 6]
 replace h := ife_f Y h
 obtain ⟨am, ck, h⟩ := ob_some h
 refine AW.region (AO.q 3 I (AO.known 86 I W (AO.q 5 I (AO.known 91 I Y (AO.q 1 I (AO.gt I I I (AO.act [0] I (AX.c0 [0] (L.zdjb_ok a _ _ _ ck) ?_))))))))
 refine AO.q 2 I (AO.nil ?_)
 exact lg ⟨(am.2.L_, am.2.At, (am.1 == 0)), h, I, I⟩ [0, 1, 2, 3, 4, 5, 6]
 rintro s ob ⟨P, h, rfl, rfl⟩
 unfold L.zeju.J9 at h
 refine AW.ch h I ?_ ?_
 intro cl h
 obtain ⟨aj, aw, h⟩ := ob_some h
 obtain ⟨M, ax, h⟩ := ob_some h
 obtain ⟨ay, az, h⟩ := ob_some h
 refine AW.formL 5 I (fun cm => (AW.rd (.still 0 (.still 1 (.still 2 (.still 3 (.still 4 (.still 6 (.still 7 (.two 5 8 (.act 8 (.act 9 (.still 10 (.act 11 (.act 12 (.still 13 (.drop 14 .nil))))))) (.act 5 (.act 9 (.still 10 (.act 11 (.act 12 (.still 13 (.drop 14 .nil))))))))))))))) [2] [_] I (AP.r 4 [.o 1 0, .o 3 0] I ⟨I, I, J⟩ (AP.op I (Yp.lenUf I I I cm) I (AP.q 2 I (AP.two ?_ ?_))))))
 refine AP.c I (L.zeyi_ok _ _ _ aw) (AP.act [] I I I (AX.lt 1 (([300000, 1000000, 0, 5000000] : List Int).map rI) (AP.act [0] I I I (AX.c0 [0] (L.ztqk_ok a _ _ _ ax) ?_))))
 refine AP.p I (Yp.buildP (l := [.v (.string aj), .V g.2.2.2.2, .V M.1]) Tryz.bld85 I) I (AP.act [] I I I (AX.lt 3 (([(⟨aj, g.2.2.2.2, M.1⟩ : Port)] : List Port).map Port.row) (AP.act [5] I I I (AX.ap 5 I az (fun Z => (AP.q 1 I (AP.one 5 I (fun an => (AP.drop [2] I I I (AX.store 2 0 2 (es' := [[.v i, .v t, .v Z, .v D, .V j.1, .V k.1]]) I I I I I I (cells_v an) I (le_ble I) I I (AP.ofAO (AO.nil ?_))))))))))))
 exact lg ⟨(M.2.L_, M.2.At, ay), Z, h, I, I⟩ [0, 1, 2, 3, 4, 5, 6]
 refine AP.act [] I I I (AX.lt 1 (([300000, 1000000, 0, 5000000] : List Int).map rI) (AP.c I (L.zeyi_ok _ _ _ aw) (AP.act [0] I I I (AX.c0 [0] (L.ztqk_ok a _ _ _ ax) ?_))))
 refine AP.p I (Yp.buildP (l := [.v (.string aj), .V g.2.2.2.2, .V M.1]) Tryz.bld85 I) I (AP.act [] I I I (AX.lt 3 (([(⟨aj, g.2.2.2.2, M.1⟩ : Port)] : List Port).map Port.row) (AP.act [5] I I I (AX.ap 5 I az (fun Z => (AP.q 1 I (AP.one 5 I (fun an => (AP.drop [2] I I I (AX.store 2 0 2 (es' := [[.v i, .v t, .v Z, .v D, .V j.1, .V k.1]]) I I I I I I (cells_v an) I (le_ble I) I I (AP.ofAO (AO.nil ?_))))))))))))
 exact lg ⟨(M.2.L_, M.2.At, ay), Z, h, I, I⟩ [0, 1, 2, 3, 4, 5, 6]
 intro cl h
 refine AW.skip ?_
 exact lg ⟨(P.1, P.2.1, g.2.2.1), O, h, I, I⟩ [0, 1, 2, 3, 4, 5, 6]
 rintro s ob ⟨E, H, h, rfl, rfl⟩
 unfold L.zeju.J7 at h
 refine AW.cutX (fun s ob => ∃ (Q : (List Int) × Int × Bool), L.zeju.J8 g E Q = some ag ∧ s = [(117, .v (.bool Q.2.2))] ∧ ob = [.arr a 88 2 1 [[.list 1 (Q.1.map rI), .V Q.2.1]], .arr A 32 6 1 [[.N, .N, .N, .N, .V 0, .V 0]], .arr B 32 6 1 [[.v i, .v t, .v H, .v D, .V j.1, .V k.1]], .us i 9 1 (n.2.2.map rS), .us t 83 7 (y.2.2.map Segment.row), .us H 85 3 (E.2.2.map Port.row), .us D 93 5 (g.2.2.2.1.map Station.row)]) [(0, _), (2, _), (3, _), (5, _), (9, _)] ⟨I, I, I, I, I, J⟩ ?_ ?_
 rcases bt (decide (g.2.2.2.2 < (wr ((n.2.2.length : Int) - 1)))) with aa | aa
 replace h := ife_t aa h
 obtain ⟨ao, cn, h⟩ := ob_some h
 refine AW.region (AO.q 4 I (AO.known 113 I aa (AO.q 1 I (AO.gt I I I (AO.act [0] I (AX.c0 [0] (L.zdjb_ok a _ _ _ cn) ?_))))))
 refine AO.q 2 I (AO.nil ?_)
 exact lg ⟨(ao.2.L_, ao.2.At, (ao.1 == 0)), h, I, I⟩ [0, 1, 2, 3, 4, 5, 6]
 replace h := ife_f aa h
 refine AW.region (AO.q 4 I (AO.known 113 I aa (AO.q 4 I (AO.nil ?_))))
 exact lg ⟨(E.1, E.2.1, false), h, I, I⟩ [0, 1, 2, 3, 4, 5, 6]
 rintro s ob ⟨Q, h, rfl, rfl⟩
 unfold L.zeju.J8 at h
 refine AW.ch h I ?_ ?_
 intro co h
 obtain ⟨a0, w, h⟩ := ob_some h
 obtain ⟨a1, f, h⟩ := ob_some h
 obtain ⟨a2, b, h⟩ := ob_some h
 obtain ⟨ak, e, h⟩ := ob_some h
 obtain ⟨cp, cq, h⟩ := ob_some h
 refine AW.formL 6 I (fun cr => (AW.rd (.still 0 (.still 1 (.still 2 (.still 3 (.still 4 (.still 6 (.still 7 (.still 10 (.still 13 (.four 5 8 11 14 (.three 8 11 14 (.three 9 11 14 (.two 11 14 (.two 12 14 (.act 14 (.act 15 (.still 16 (.act 17 (.act 18 (.still 19 (.drop 20 .nil))))))) (.act 12 (.act 15 (.still 16 (.act 17 (.act 18 (.still 19 (.drop 20 .nil)))))))) (.act 11 (.act 12 (.act 15 (.still 16 (.act 17 (.act 18 (.still 19 (.drop 20 .nil))))))))) (.two 9 14 (.two 12 14 (.act 14 (.act 15 (.still 16 (.act 17 (.act 18 (.still 19 (.drop 20 .nil))))))) (.act 12 (.act 15 (.still 16 (.act 17 (.act 18 (.still 19 (.drop 20 .nil)))))))) (.act 9 (.act 12 (.act 15 (.still 16 (.act 17 (.act 18 (.still 19 (.drop 20 .nil))))))))) (.two 9 11 (.act 11 (.act 12 (.act 15 (.still 16 (.act 17 (.act 18 (.still 19 (.drop 20 .nil)))))))) (.act 9 (.act 12 (.act 15 (.still 16 (.act 17 (.act 18 (.still 19 (.drop 20 .nil)))))))))) (.two 8 14 (.two 9 14 (.two 12 14 (.act 14 (.act 15 (.still 16 (.act 17 (.act 18 (.still 19 (.drop 20 .nil))))))) (.act 12 (.act 15 (.still 16 (.act 17 (.act 18 (.still 19 (.drop 20 .nil)))))))) (.act 9 (.act 12 (.act 15 (.still 16 (.act 17 (.act 18 (.still 19 (.drop 20 .nil))))))))) (.act 8 (.act 9 (.act 12 (.act 15 (.still 16 (.act 17 (.act 18 (.still 19 (.drop 20 .nil)))))))))) (.two 8 11 (.two 9 11 (.act 11 (.act 12 (.act 15 (.still 16 (.act 17 (.act 18 (.still 19 (.drop 20 .nil)))))))) (.act 9 (.act 12 (.act 15 (.still 16 (.act 17 (.act 18 (.still 19 (.drop 20 .nil))))))))) (.act 8 (.act 9 (.act 12 (.act 15 (.still 16 (.act 17 (.act 18 (.still 19 (.drop 20 .nil))))))))))) (.three 5 11 14 (.three 9 11 14 (.two 11 14 (.two 12 14 (.act 14 (.act 15 (.still 16 (.act 17 (.act 18 (.still 19 (.drop 20 .nil))))))) (.act 12 (.act 15 (.still 16 (.act 17 (.act 18 (.still 19 (.drop 20 .nil)))))))) (.act 11 (.act 12 (.act 15 (.still 16 (.act 17 (.act 18 (.still 19 (.drop 20 .nil))))))))) (.two 9 14 (.two 12 14 (.act 14 (.act 15 (.still 16 (.act 17 (.act 18 (.still 19 (.drop 20 .nil))))))) (.act 12 (.act 15 (.still 16 (.act 17 (.act 18 (.still 19 (.drop 20 .nil)))))))) (.act 9 (.act 12 (.act 15 (.still 16 (.act 17 (.act 18 (.still 19 (.drop 20 .nil))))))))) (.two 9 11 (.act 11 (.act 12 (.act 15 (.still 16 (.act 17 (.act 18 (.still 19 (.drop 20 .nil)))))))) (.act 9 (.act 12 (.act 15 (.still 16 (.act 17 (.act 18 (.still 19 (.drop 20 .nil)))))))))) (.two 5 14 (.two 9 14 (.two 12 14 (.act 14 (.act 15 (.still 16 (.act 17 (.act 18 (.still 19 (.drop 20 .nil))))))) (.act 12 (.act 15 (.still 16 (.act 17 (.act 18 (.still 19 (.drop 20 .nil)))))))) (.act 9 (.act 12 (.act 15 (.still 16 (.act 17 (.act 18 (.still 19 (.drop 20 .nil))))))))) (.act 5 (.act 9 (.act 12 (.act 15 (.still 16 (.act 17 (.act 18 (.still 19 (.drop 20 .nil)))))))))) (.two 5 11 (.two 9 11 (.act 11 (.act 12 (.act 15 (.still 16 (.act 17 (.act 18 (.still 19 (.drop 20 .nil)))))))) (.act 9 (.act 12 (.act 15 (.still 16 (.act 17 (.act 18 (.still 19 (.drop 20 .nil))))))))) (.act 5 (.act 9 (.act 12 (.act 15 (.still 16 (.act 17 (.act 18 (.still 19 (.drop 20 .nil))))))))))) (.three 5 8 14 (.two 8 14 (.two 9 14 (.two 12 14 (.act 14 (.act 15 (.still 16 (.act 17 (.act 18 (.still 19 (.drop 20 .nil))))))) (.act 12 (.act 15 (.still 16 (.act 17 (.act 18 (.still 19 (.drop 20 .nil)))))))) (.act 9 (.act 12 (.act 15 (.still 16 (.act 17 (.act 18 (.still 19 (.drop 20 .nil))))))))) (.act 8 (.act 9 (.act 12 (.act 15 (.still 16 (.act 17 (.act 18 (.still 19 (.drop 20 .nil)))))))))) (.two 5 14 (.two 9 14 (.two 12 14 (.act 14 (.act 15 (.still 16 (.act 17 (.act 18 (.still 19 (.drop 20 .nil))))))) (.act 12 (.act 15 (.still 16 (.act 17 (.act 18 (.still 19 (.drop 20 .nil)))))))) (.act 9 (.act 12 (.act 15 (.still 16 (.act 17 (.act 18 (.still 19 (.drop 20 .nil))))))))) (.act 5 (.act 9 (.act 12 (.act 15 (.still 16 (.act 17 (.act 18 (.still 19 (.drop 20 .nil)))))))))) (.two 5 8 (.act 8 (.act 9 (.act 12 (.act 15 (.still 16 (.act 17 (.act 18 (.still 19 (.drop 20 .nil))))))))) (.act 5 (.act 9 (.act 12 (.act 15 (.still 16 (.act 17 (.act 18 (.still 19 (.drop 20 .nil))))))))))) (.three 5 8 11 (.two 8 11 (.two 9 11 (.act 11 (.act 12 (.act 15 (.still 16 (.act 17 (.act 18 (.still 19 (.drop 20 .nil)))))))) (.act 9 (.act 12 (.act 15 (.still 16 (.act 17 (.act 18 (.still 19 (.drop 20 .nil))))))))) (.act 8 (.act 9 (.act 12 (.act 15 (.still 16 (.act 17 (.act 18 (.still 19 (.drop 20 .nil)))))))))) (.two 5 11 (.two 9 11 (.act 11 (.act 12 (.act 15 (.still 16 (.act 17 (.act 18 (.still 19 (.drop 20 .nil)))))))) (.act 9 (.act 12 (.act 15 (.still 16 (.act 17 (.act 18 (.still 19 (.drop 20 .nil))))))))) (.act 5 (.act 9 (.act 12 (.act 15 (.still 16 (.act 17 (.act 18 (.still 19 (.drop 20 .nil)))))))))) (.two 5 8 (.act 8 (.act 9 (.act 12 (.act 15 (.still 16 (.act 17 (.act 18 (.still 19 (.drop 20 .nil))))))))) (.act 5 (.act 9 (.act 12 (.act 15 (.still 16 (.act 17 (.act 18 (.still 19 (.drop 20 .nil))))))))))))))))))))) [2] [_] I ?_))
 refine AP.r 4 [.o 1 0, .o 3 0] I ⟨I, I, J⟩ (AP.op I (Yp.lenUf I I I cr) I (AP.q 4 I (AP.four ?_ ?_ ?_ ?_)))
 refine AP.c I (L.zeyi_ok _ _ _ w) (AP.three ?_ ?_ ?_)
 refine AP.act [] I I I (AX.lt 1 (([500000, 2000000, 0] : List Int).map rI) (AP.three ?_ ?_ ?_))
 refine AP.act [0] I I I (AX.c0 [0] (L.ztqk_ok a _ _ _ f) ?_)
 refine AP.two ?_ ?_
 refine AP.act [] I I I (AX.lt 1 (([0, 200, 100000] : List Int).map rI) (AP.two ?_ ?_))
 refine AP.act [0] I I I (AX.c0 [0] (L.ztqk_ok a _ _ _ b) ?_)
 refine AP.act [] I I I (AX.lt 1 (([0, 100000, 400000] : List Int).map rI) (AP.act [0] I I I (AX.c0 [0] (L.ztqk_ok a _ _ _ e) ?_)))
 rotate_left
 refine AP.act [] I I I (AX.lt 1 (([0, 100000, 400000] : List Int).map rI) (AP.act [0] I I I (AX.c0 [0] (L.ztqk_ok a _ _ _ b) ?_)))
 refine AP.act [0] I I I (AX.c0 [0] (L.ztqk_ok a _ _ _ e) ?_)
 rotate_left
 refine AP.act [] I I I (AX.lt 1 (([0, 100000, 400000] : List Int).map rI) (AP.act [] I I I (AX.lt 1 (([0, 200, 100000] : List Int).map rI) (AP.act [0] I I I (AX.c0 [0] (L.ztqk_ok a _ _ _ b) ?_)))))
 refine AP.act [0] I I I (AX.c0 [0] (L.ztqk_ok a _ _ _ e) ?_)
 rotate_left
 refine AP.act [] I I I (AX.lt 1 (([0, 200, 100000] : List Int).map rI) (AP.two ?_ ?_))
 refine AP.act [0] I I I (AX.c0 [0] (L.ztqk_ok a _ _ _ f) ?_)
 refine AP.two ?_ ?_
 refine AP.act [0] I I I (AX.c0 [0] (L.ztqk_ok a _ _ _ b) ?_)
 refine AP.act [] I I I (AX.lt 1 (([0, 100000, 400000] : List Int).map rI) (AP.act [0] I I I (AX.c0 [0] (L.ztqk_ok a _ _ _ e) ?_)))
 rotate_left
 refine AP.act [] I I I (AX.lt 1 (([0, 100000, 400000] : List Int).map rI) (AP.act [0] I I I (AX.c0 [0] (L.ztqk_ok a _ _ _ b) ?_)))
 refine AP.act [0] I I I (AX.c0 [0] (L.ztqk_ok a _ _ _ e) ?_)
 rotate_left
 refine AP.act [] I I I (AX.lt 1 (([0, 100000, 400000] : List Int).map rI) (AP.act [0] I I I (AX.c0 [0] (L.ztqk_ok a _ _ _ f) ?_)))
 refine AP.act [0] I I I (AX.c0 [0] (L.ztqk_ok a _ _ _ b) ?_)
 refine AP.act [0] I I I (AX.c0 [0] (L.ztqk_ok a _ _ _ e) ?_)
 rotate_left
 refine AP.act [] I I I (AX.lt 1 (([0, 100000, 400000] : List Int).map rI) (AP.two ?_ ?_))
 refine AP.act [0] I I I (AX.c0 [0] (L.ztqk_ok a _ _ _ f) ?_)
 refine AP.act [] I I I (AX.lt 1 (([0, 200, 100000] : List Int).map rI) (AP.act [0] I I I (AX.c0 [0] (L.ztqk_ok a _ _ _ b) ?_)))
 refine AP.act [0] I I I (AX.c0 [0] (L.ztqk_ok a _ _ _ e) ?_)
 rotate_left
 refine AP.act [] I I I (AX.lt 1 (([0, 200, 100000] : List Int).map rI) (AP.act [0] I I I (AX.c0 [0] (L.ztqk_ok a _ _ _ f) ?_)))
 refine AP.act [0] I I I (AX.c0 [0] (L.ztqk_ok a _ _ _ b) ?_)
 refine AP.act [0] I I I (AX.c0 [0] (L.ztqk_ok a _ _ _ e) ?_)
 rotate_left
 refine AP.act [] I I I (AX.lt 1 (([0, 200, 100000] : List Int).map rI) (AP.two ?_ ?_))
 refine AP.act [] I I I (AX.lt 1 (([500000, 2000000, 0] : List Int).map rI) (AP.two ?_ ?_))
 refine AP.act [0] I I I (AX.c0 [0] (L.ztqk_ok a _ _ _ f) ?_)
 refine AP.two ?_ ?_
 refine AP.act [0] I I I (AX.c0 [0] (L.ztqk_ok a _ _ _ b) ?_)
 refine AP.act [] I I I (AX.lt 1 (([0, 100000, 400000] : List Int).map rI) (AP.act [0] I I I (AX.c0 [0] (L.ztqk_ok a _ _ _ e) ?_)))
 rotate_left
 refine AP.act [] I I I (AX.lt 1 (([0, 100000, 400000] : List Int).map rI) (AP.act [0] I I I (AX.c0 [0] (L.ztqk_ok a _ _ _ b) ?_)))
 refine AP.act [0] I I I (AX.c0 [0] (L.ztqk_ok a _ _ _ e) ?_)
 rotate_left
 refine AP.act [] I I I (AX.lt 1 (([0, 100000, 400000] : List Int).map rI) (AP.act [0] I I I (AX.c0 [0] (L.ztqk_ok a _ _ _ f) ?_)))
 refine AP.act [0] I I I (AX.c0 [0] (L.ztqk_ok a _ _ _ b) ?_)
 refine AP.act [0] I I I (AX.c0 [0] (L.ztqk_ok a _ _ _ e) ?_)
 rotate_left
 refine AP.act [] I I I (AX.lt 1 (([0, 100000, 400000] : List Int).map rI) (AP.act [] I I I (AX.lt 1 (([500000, 2000000, 0] : List Int).map rI) (AP.act [0] I I I (AX.c0 [0] (L.ztqk_ok a _ _ _ f) ?_)))))
 refine AP.act [0] I I I (AX.c0 [0] (L.ztqk_ok a _ _ _ b) ?_)
 refine AP.act [0] I I I (AX.c0 [0] (L.ztqk_ok a _ _ _ e) ?_)
 rotate_left
 refine AP.act [] I I I (AX.lt 1 (([0, 100000, 400000] : List Int).map rI) (AP.two ?_ ?_))
 refine AP.act [] I I I (AX.lt 1 (([500000, 2000000, 0] : List Int).map rI) (AP.two ?_ ?_))
 refine AP.act [0] I I I (AX.c0 [0] (L.ztqk_ok a _ _ _ f) ?_)
 refine AP.act [] I I I (AX.lt 1 (([0, 200, 100000] : List Int).map rI) (AP.act [0] I I I (AX.c0 [0] (L.ztqk_ok a _ _ _ b) ?_)))
 refine AP.act [0] I I I (AX.c0 [0] (L.ztqk_ok a _ _ _ e) ?_)
 rotate_left
 refine AP.act [] I I I (AX.lt 1 (([0, 200, 100000] : List Int).map rI) (AP.act [0] I I I (AX.c0 [0] (L.ztqk_ok a _ _ _ f) ?_)))
 refine AP.act [0] I I I (AX.c0 [0] (L.ztqk_ok a _ _ _ b) ?_)
 refine AP.act [0] I I I (AX.c0 [0] (L.ztqk_ok a _ _ _ e) ?_)
 rotate_left
 refine AP.act [] I I I (AX.lt 1 (([0, 200, 100000] : List Int).map rI) (AP.act [] I I I (AX.lt 1 (([500000, 2000000, 0] : List Int).map rI) (AP.act [0] I I I (AX.c0 [0] (L.ztqk_ok a _ _ _ f) ?_)))))
 refine AP.act [0] I I I (AX.c0 [0] (L.ztqk_ok a _ _ _ b) ?_)
 refine AP.act [0] I I I (AX.c0 [0] (L.ztqk_ok a _ _ _ e) ?_)
 rotate_left
 refine AP.act [] I I I (AX.lt 1 (([500000, 2000000, 0] : List Int).map rI) (AP.three ?_ ?_ ?_))
 refine AP.c I (L.zeyi_ok _ _ _ w) (AP.three ?_ ?_ ?_)
 refine AP.act [0] I I I (AX.c0 [0] (L.ztqk_ok a _ _ _ f) ?_)
 refine AP.two ?_ ?_
 refine AP.act [] I I I (AX.lt 1 (([0, 200, 100000] : List Int).map rI) (AP.two ?_ ?_))
 refine AP.act [0] I I I (AX.c0 [0] (L.ztqk_ok a _ _ _ b) ?_)
 refine AP.act [] I I I (AX.lt 1 (([0, 100000, 400000] : List Int).map rI) (AP.act [0] I I I (AX.c0 [0] (L.ztqk_ok a _ _ _ e) ?_)))
 rotate_left
 refine AP.act [] I I I (AX.lt 1 (([0, 100000, 400000] : List Int).map rI) (AP.act [0] I I I (AX.c0 [0] (L.ztqk_ok a _ _ _ b) ?_)))
 refine AP.act [0] I I I (AX.c0 [0] (L.ztqk_ok a _ _ _ e) ?_)
 rotate_left
 refine AP.act [] I I I (AX.lt 1 (([0, 100000, 400000] : List Int).map rI) (AP.act [] I I I (AX.lt 1 (([0, 200, 100000] : List Int).map rI) (AP.act [0] I I I (AX.c0 [0] (L.ztqk_ok a _ _ _ b) ?_)))))
 refine AP.act [0] I I I (AX.c0 [0] (L.ztqk_ok a _ _ _ e) ?_)
 rotate_left
 refine AP.act [] I I I (AX.lt 1 (([0, 200, 100000] : List Int).map rI) (AP.two ?_ ?_))
 refine AP.act [0] I I I (AX.c0 [0] (L.ztqk_ok a _ _ _ f) ?_)
 refine AP.two ?_ ?_
 refine AP.act [0] I I I (AX.c0 [0] (L.ztqk_ok a _ _ _ b) ?_)
 refine AP.act [] I I I (AX.lt 1 (([0, 100000, 400000] : List Int).map rI) (AP.act [0] I I I (AX.c0 [0] (L.ztqk_ok a _ _ _ e) ?_)))
 rotate_left
 refine AP.act [] I I I (AX.lt 1 (([0, 100000, 400000] : List Int).map rI) (AP.act [0] I I I (AX.c0 [0] (L.ztqk_ok a _ _ _ b) ?_)))
 refine AP.act [0] I I I (AX.c0 [0] (L.ztqk_ok a _ _ _ e) ?_)
 rotate_left
 refine AP.act [] I I I (AX.lt 1 (([0, 100000, 400000] : List Int).map rI) (AP.act [0] I I I (AX.c0 [0] (L.ztqk_ok a _ _ _ f) ?_)))
 refine AP.act [0] I I I (AX.c0 [0] (L.ztqk_ok a _ _ _ b) ?_)
 refine AP.act [0] I I I (AX.c0 [0] (L.ztqk_ok a _ _ _ e) ?_)
 rotate_left
 refine AP.act [] I I I (AX.lt 1 (([0, 100000, 400000] : List Int).map rI) (AP.two ?_ ?_))
 refine AP.act [0] I I I (AX.c0 [0] (L.ztqk_ok a _ _ _ f) ?_)
 refine AP.act [] I I I (AX.lt 1 (([0, 200, 100000] : List Int).map rI) (AP.act [0] I I I (AX.c0 [0] (L.ztqk_ok a _ _ _ b) ?_)))
 refine AP.act [0] I I I (AX.c0 [0] (L.ztqk_ok a _ _ _ e) ?_)
 rotate_left
 refine AP.act [] I I I (AX.lt 1 (([0, 200, 100000] : List Int).map rI) (AP.act [0] I I I (AX.c0 [0] (L.ztqk_ok a _ _ _ f) ?_)))
 refine AP.act [0] I I I (AX.c0 [0] (L.ztqk_ok a _ _ _ b) ?_)
 refine AP.act [0] I I I (AX.c0 [0] (L.ztqk_ok a _ _ _ e) ?_)
 rotate_left
 refine AP.act [] I I I (AX.lt 1 (([0, 200, 100000] : List Int).map rI) (AP.two ?_ ?_))
 refine AP.c I (L.zeyi_ok _ _ _ w) (AP.two ?_ ?_)
 refine AP.act [0] I I I (AX.c0 [0] (L.ztqk_ok a _ _ _ f) ?_)
 refine AP.two ?_ ?_
 refine AP.act [0] I I I (AX.c0 [0] (L.ztqk_ok a _ _ _ b) ?_)
 refine AP.act [] I I I (AX.lt 1 (([0, 100000, 400000] : List Int).map rI) (AP.act [0] I I I (AX.c0 [0] (L.ztqk_ok a _ _ _ e) ?_)))
 rotate_left
 refine AP.act [] I I I (AX.lt 1 (([0, 100000, 400000] : List Int).map rI) (AP.act [0] I I I (AX.c0 [0] (L.ztqk_ok a _ _ _ b) ?_)))
 refine AP.act [0] I I I (AX.c0 [0] (L.ztqk_ok a _ _ _ e) ?_)
 rotate_left
 refine AP.act [] I I I (AX.lt 1 (([0, 100000, 400000] : List Int).map rI) (AP.act [0] I I I (AX.c0 [0] (L.ztqk_ok a _ _ _ f) ?_)))
 refine AP.act [0] I I I (AX.c0 [0] (L.ztqk_ok a _ _ _ b) ?_)
 refine AP.act [0] I I I (AX.c0 [0] (L.ztqk_ok a _ _ _ e) ?_)
 rotate_left
 refine AP.act [] I I I (AX.lt 1 (([0, 100000, 400000] : List Int).map rI) (AP.c I (L.zeyi_ok _ _ _ w) (AP.act [0] I I I (AX.c0 [0] (L.ztqk_ok a _ _ _ f) ?_))))
 refine AP.act [0] I I I (AX.c0 [0] (L.ztqk_ok a _ _ _ b) ?_)
 refine AP.act [0] I I I (AX.c0 [0] (L.ztqk_ok a _ _ _ e) ?_)
 rotate_left
 refine AP.act [] I I I (AX.lt 1 (([0, 100000, 400000] : List Int).map rI) (AP.two ?_ ?_))
 refine AP.c I (L.zeyi_ok _ _ _ w) (AP.two ?_ ?_)
 refine AP.act [0] I I I (AX.c0 [0] (L.ztqk_ok a _ _ _ f) ?_)
 refine AP.act [] I I I (AX.lt 1 (([0, 200, 100000] : List Int).map rI) (AP.act [0] I I I (AX.c0 [0] (L.ztqk_ok a _ _ _ b) ?_)))
 refine AP.act [0] I I I (AX.c0 [0] (L.ztqk_ok a _ _ _ e) ?_)
 rotate_left
 refine AP.act [] I I I (AX.lt 1 (([0, 200, 100000] : List Int).map rI) (AP.act [0] I I I (AX.c0 [0] (L.ztqk_ok a _ _ _ f) ?_)))
 refine AP.act [0] I I I (AX.c0 [0] (L.ztqk_ok a _ _ _ b) ?_)
 refine AP.act [0] I I I (AX.c0 [0] (L.ztqk_ok a _ _ _ e) ?_)
 rotate_left
 refine AP.act [] I I I (AX.lt 1 (([0, 200, 100000] : List Int).map rI) (AP.c I (L.zeyi_ok _ _ _ w) (AP.act [0] I I I (AX.c0 [0] (L.ztqk_ok a _ _ _ f) ?_))))
 refine AP.act [0] I I I (AX.c0 [0] (L.ztqk_ok a _ _ _ b) ?_)
 refine AP.act [0] I I I (AX.c0 [0] (L.ztqk_ok a _ _ _ e) ?_)
 rotate_left
 refine AP.act [] I I I (AX.lt 1 (([0, 200, 100000] : List Int).map rI) (AP.three ?_ ?_ ?_))
 refine AP.c I (L.zeyi_ok _ _ _ w) (AP.two ?_ ?_)
 refine AP.act [] I I I (AX.lt 1 (([500000, 2000000, 0] : List Int).map rI) (AP.two ?_ ?_))
 refine AP.act [0] I I I (AX.c0 [0] (L.ztqk_ok a _ _ _ f) ?_)
 refine AP.two ?_ ?_
 refine AP.act [0] I I I (AX.c0 [0] (L.ztqk_ok a _ _ _ b) ?_)
 refine AP.act [] I I I (AX.lt 1 (([0, 100000, 400000] : List Int).map rI) (AP.act [0] I I I (AX.c0 [0] (L.ztqk_ok a _ _ _ e) ?_)))
 rotate_left
 refine AP.act [] I I I (AX.lt 1 (([0, 100000, 400000] : List Int).map rI) (AP.act [0] I I I (AX.c0 [0] (L.ztqk_ok a _ _ _ b) ?_)))
 refine AP.act [0] I I I (AX.c0 [0] (L.ztqk_ok a _ _ _ e) ?_)
 rotate_left
 refine AP.act [] I I I (AX.lt 1 (([0, 100000, 400000] : List Int).map rI) (AP.act [0] I I I (AX.c0 [0] (L.ztqk_ok a _ _ _ f) ?_)))
 refine AP.act [0] I I I (AX.c0 [0] (L.ztqk_ok a _ _ _ b) ?_)
 refine AP.act [0] I I I (AX.c0 [0] (L.ztqk_ok a _ _ _ e) ?_)
 rotate_left
 refine AP.act [] I I I (AX.lt 1 (([0, 100000, 400000] : List Int).map rI) (AP.act [] I I I (AX.lt 1 (([500000, 2000000, 0] : List Int).map rI) (AP.act [0] I I I (AX.c0 [0] (L.ztqk_ok a _ _ _ f) ?_)))))
 refine AP.act [0] I I I (AX.c0 [0] (L.ztqk_ok a _ _ _ b) ?_)
 refine AP.act [0] I I I (AX.c0 [0] (L.ztqk_ok a _ _ _ e) ?_)
 rotate_left
 refine AP.act [] I I I (AX.lt 1 (([500000, 2000000, 0] : List Int).map rI) (AP.two ?_ ?_))
 refine AP.c I (L.zeyi_ok _ _ _ w) (AP.two ?_ ?_)
 refine AP.act [0] I I I (AX.c0 [0] (L.ztqk_ok a _ _ _ f) ?_)
 refine AP.two ?_ ?_
 refine AP.act [0] I I I (AX.c0 [0] (L.ztqk_ok a _ _ _ b) ?_)
 refine AP.act [] I I I (AX.lt 1 (([0, 100000, 400000] : List Int).map rI) (AP.act [0] I I I (AX.c0 [0] (L.ztqk_ok a _ _ _ e) ?_)))
 rotate_left
 refine AP.act [] I I I (AX.lt 1 (([0, 100000, 400000] : List Int).map rI) (AP.act [0] I I I (AX.c0 [0] (L.ztqk_ok a _ _ _ b) ?_)))
 refine AP.act [0] I I I (AX.c0 [0] (L.ztqk_ok a _ _ _ e) ?_)
 rotate_left
 refine AP.act [] I I I (AX.lt 1 (([0, 100000, 400000] : List Int).map rI) (AP.act [0] I I I (AX.c0 [0] (L.ztqk_ok a _ _ _ f) ?_)))
 refine AP.act [0] I I I (AX.c0 [0] (L.ztqk_ok a _ _ _ b) ?_)
 refine AP.act [0] I I I (AX.c0 [0] (L.ztqk_ok a _ _ _ e) ?_)
 rotate_left
 refine AP.act [] I I I (AX.lt 1 (([0, 100000, 400000] : List Int).map rI) (AP.c I (L.zeyi_ok _ _ _ w) (AP.act [0] I I I (AX.c0 [0] (L.ztqk_ok a _ _ _ f) ?_))))
 refine AP.act [0] I I I (AX.c0 [0] (L.ztqk_ok a _ _ _ b) ?_)
 refine AP.act [0] I I I (AX.c0 [0] (L.ztqk_ok a _ _ _ e) ?_)
 rotate_left
 refine AP.act [] I I I (AX.lt 1 (([0, 100000, 400000] : List Int).map rI) (AP.two ?_ ?_))
 refine AP.c I (L.zeyi_ok _ _ _ w) (AP.act [] I I I (AX.lt 1 (([500000, 2000000, 0] : List Int).map rI) (AP.act [0] I I I (AX.c0 [0] (L.ztqk_ok a _ _ _ f) ?_))))
 refine AP.act [0] I I I (AX.c0 [0] (L.ztqk_ok a _ _ _ b) ?_)
 refine AP.act [0] I I I (AX.c0 [0] (L.ztqk_ok a _ _ _ e) ?_)
 rotate_left
 refine AP.act [] I I I (AX.lt 1 (([500000, 2000000, 0] : List Int).map rI) (AP.c I (L.zeyi_ok _ _ _ w) (AP.act [0] I I I (AX.c0 [0] (L.ztqk_ok a _ _ _ f) ?_))))
 refine AP.act [0] I I I (AX.c0 [0] (L.ztqk_ok a _ _ _ b) ?_)
 refine AP.act [0] I I I (AX.c0 [0] (L.ztqk_ok a _ _ _ e) ?_)
 rotate_left
 refine AP.act [] I I I (AX.lt 1 (([0, 100000, 400000] : List Int).map rI) (AP.three ?_ ?_ ?_))
 refine AP.c I (L.zeyi_ok _ _ _ w) (AP.two ?_ ?_)
 refine AP.act [] I I I (AX.lt 1 (([500000, 2000000, 0] : List Int).map rI) (AP.two ?_ ?_))
 refine AP.act [0] I I I (AX.c0 [0] (L.ztqk_ok a _ _ _ f) ?_)
 refine AP.act [] I I I (AX.lt 1 (([0, 200, 100000] : List Int).map rI) (AP.act [0] I I I (AX.c0 [0] (L.ztqk_ok a _ _ _ b) ?_)))
 refine AP.act [0] I I I (AX.c0 [0] (L.ztqk_ok a _ _ _ e) ?_)
 rotate_left
 refine AP.act [] I I I (AX.lt 1 (([0, 200, 100000] : List Int).map rI) (AP.act [0] I I I (AX.c0 [0] (L.ztqk_ok a _ _ _ f) ?_)))
 refine AP.act [0] I I I (AX.c0 [0] (L.ztqk_ok a _ _ _ b) ?_)
 refine AP.act [0] I I I (AX.c0 [0] (L.ztqk_ok a _ _ _ e) ?_)
 rotate_left
 refine AP.act [] I I I (AX.lt 1 (([0, 200, 100000] : List Int).map rI) (AP.act [] I I I (AX.lt 1 (([500000, 2000000, 0] : List Int).map rI) (AP.act [0] I I I (AX.c0 [0] (L.ztqk_ok a _ _ _ f) ?_)))))
 refine AP.act [0] I I I (AX.c0 [0] (L.ztqk_ok a _ _ _ b) ?_)
 refine AP.act [0] I I I (AX.c0 [0] (L.ztqk_ok a _ _ _ e) ?_)
 rotate_left
 refine AP.act [] I I I (AX.lt 1 (([500000, 2000000, 0] : List Int).map rI) (AP.two ?_ ?_))
 refine AP.c I (L.zeyi_ok _ _ _ w) (AP.two ?_ ?_)
 refine AP.act [0] I I I (AX.c0 [0] (L.ztqk_ok a _ _ _ f) ?_)
 refine AP.act [] I I I (AX.lt 1 (([0, 200, 100000] : List Int).map rI) (AP.act [0] I I I (AX.c0 [0] (L.ztqk_ok a _ _ _ b) ?_)))
 refine AP.act [0] I I I (AX.c0 [0] (L.ztqk_ok a _ _ _ e) ?_)
 rotate_left
 refine AP.act [] I I I (AX.lt 1 (([0, 200, 100000] : List Int).map rI) (AP.act [0] I I I (AX.c0 [0] (L.ztqk_ok a _ _ _ f) ?_)))
 refine AP.act [0] I I I (AX.c0 [0] (L.ztqk_ok a _ _ _ b) ?_)
 refine AP.act [0] I I I (AX.c0 [0] (L.ztqk_ok a _ _ _ e) ?_)
 rotate_left
 refine AP.act [] I I I (AX.lt 1 (([0, 200, 100000] : List Int).map rI) (AP.c I (L.zeyi_ok _ _ _ w) (AP.act [0] I I I (AX.c0 [0] (L.ztqk_ok a _ _ _ f) ?_))))
 refine AP.act [0] I I I (AX.c0 [0] (L.ztqk_ok a _ _ _ b) ?_)
 refine AP.act [0] I I I (AX.c0 [0] (L.ztqk_ok a _ _ _ e) ?_)
 rotate_left
 refine AP.act [] I I I (AX.lt 1 (([0, 200, 100000] : List Int).map rI) (AP.two ?_ ?_))
 refine AP.c I (L.zeyi_ok _ _ _ w) (AP.act [] I I I (AX.lt 1 (([500000, 2000000, 0] : List Int).map rI) (AP.act [0] I I I (AX.c0 [0] (L.ztqk_ok a _ _ _ f) ?_))))
 refine AP.act [0] I I I (AX.c0 [0] (L.ztqk_ok a _ _ _ b) ?_)
 refine AP.act [0] I I I (AX.c0 [0] (L.ztqk_ok a _ _ _ e) ?_)
 rotate_left
 refine AP.act [] I I I (AX.lt 1 (([500000, 2000000, 0] : List Int).map rI) (AP.c I (L.zeyi_ok _ _ _ w) (AP.act [0] I I I (AX.c0 [0] (L.ztqk_ok a _ _ _ f) ?_))))
 refine AP.act [0] I I I (AX.c0 [0] (L.ztqk_ok a _ _ _ b) ?_)
 refine AP.act [0] I I I (AX.c0 [0] (L.ztqk_ok a _ _ _ e) ?_)
 any_goals
  refine AP.p I (Yp.buildP (l := [.v (.string a0), .V g.2.2.2.2, .V a1.1, .V a2.1, .V ak.1]) Tryz.bld93 I) I (AP.act [] I I I (AX.lt 5 (([(⟨a0, g.2.2.2.2, a1.1, a2.1, ak.1⟩ : Station)] : List Station).map Station.row) (AP.act [6] I I I (AX.ap 6 I cq (fun a3 => (AP.q 1 I (AP.one 6 I (fun ct => (AP.drop [2] I I I (AX.store 2 0 3 (es' := [[.v i, .v t, .v H, .v a3, .V j.1, .V k.1]]) I I I I I I (cells_v ct) I (le_ble I) I I (AP.ofAO (AO.nil ?_))))))))))))
  exact lg ⟨(ak.2.L_, ak.2.At, E.2.2, cp), H, a3, h, I, I⟩ [0, 1, 2, 3, 4, 5, 6]
 intro co h
 refine AW.skip ?_
 exact lg ⟨(Q.1, Q.2.1, E.2.2, g.2.2.2.1), H, D, h, I, I⟩ [0, 1, 2, 3, 4, 5, 6]
 rintro s ob ⟨U, ah, ai, h, rfl, rfl⟩
 unfold L.zeju.J6 at h
 refine AW.region (AO.q 3 I ?_)
 obtain rfl := oi h
 refine AO.nil ?_
 exact ⟨_, _, _, I, ⟨ah, ai, I, I⟩, ⟨I, I, I, I, I, J⟩, [0, 1, 2, 3, 4, 5, 6], I, by decide⟩
 intro cj h
 obtain rfl := cg _ (oi h).symm
 replace h := cf
 refine AW.exit ?_
 exact lg ⟨(g.1, g.2.1, g.2.2.1, g.2.2.2.1), O, D, h, I, I⟩ [0, 1, 2, 3, 4, 5, 6]
 rintro s ob ⟨u, R, S, h, rfl, rfl⟩
 unfold L.zeju.J4 at h
 refine AW.seq (AW.region (AO.r 1 [.o 0 2] I ⟨I, J⟩ (AO.act [1] I (AX.st 1 0 0 [[.v i, .v t, .v R, .v S, .V j.1, .V k.1]] I (AO.nil (AW.ghost (Ghost.freeze [3, 4, 5, 6] (K := [.us i 9 1 (n.2.2.map rS), .us t 83 7 (y.2.2.map Segment.row), .us R 85 3 (u.2.2.1.map Port.row), .us S 93 5 (u.2.2.2.map Station.row)]) I [] J (ob' := [.arr a 88 2 1 [[.list 1 (u.1.map rI), .V u.2.1]], .arr A 32 6 1 [[.list 1 (n.2.2.map rS), .list 7 (y.2.2.map Segment.row), .list 3 (u.2.2.1.map Port.row), .list 5 (u.2.2.2.map Station.row), .V j.1, .V k.1]], .arr B 32 6 1 [[.v i, .v t, .v R, .v S, .V j.1, .V k.1]]]) (.cons (.same _) (.cons (.arr (.cons (.us 0 I) (.cons (.us 1 I) (.cons (.us 2 I) (.cons (.us 3 I) (.rest _)))))) (.rest _)))) (AW.gp [0, 1] I ?_)))))))
 obtain rfl := oi h
 exact AW.ret ⟨.inr I, [_], [.arr a 88 2 1 [[.list 1 (u.1.map rI), .V u.2.1]]], ⟨⟨1, _, _, _, _, _, _, _, I, I, I, I, I⟩, J⟩, sl_c I (sl_n), ⟨[.arr a 88 2 1 [[.list 1 (u.1.map rI), .V u.2.1]]], [], I, I, I, I, I⟩⟩
end Go.Proofs.YtmaamhgjeampmaaGreat
