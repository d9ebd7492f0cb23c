/- Walks that show what functions of the program compute; printed by a program of ours. No condition. -/
import Derived.Test.YtmaamhgjeampmaaGreatYsLh1
set_option maxRecDepth 100000
namespace Go.Proofs.YtmaamhgjeampmaaGreat
open Go.Aw
set_option linter.unusedVariables false
set_option linter.unusedSimpArgs false
set_option maxHeartbeats 4000000
theorem L.zhuo_ok (ag : List Int) (W : Int) (r : Bool) (h : L.zhuo ag W = some r) : ACalls Tryz.env 6 [.list 1 (ag.map rI), .v (.int .u8 W)] [] (fun x new => x = .v (.bool r) ∧ new = []) := by
 refine ACalls.of_body Tryz.func6 rfl rfl rfl (fun C hC => ?_)
 unfold L.zhuo at h
 refine AW.z I (AW.seqG (fun y2 a5 => (AW.seq (AW.region (AO.q 1 I (AO.c (L.zqaf_ok ag _ I) (AO.q 1 I (AO.nil (AW.ch h I ?_ ?_)))))))))
 intro a6 h
 refine AW.seq ?_
 obtain ⟨r4, a7, h⟩ := ob_some h
 refine AW.region (AO.c (L.zgom_ok  _ a7) (AO.q 1 I (AO.nil ?_)))
 obtain rfl := oi h
 exact AW.ret pr
 intro a6 h
 refine AW.skip ?_
 subst a5
 refine AW.seqG (fun y6 a8 => ?_)
 obtain ⟨r7, a9, h⟩ := ob_some h
 refine AW.region (AO.q 1 I (AO.act [] I (AX.call0 I I I (L.ziti_ok _ _ a9) dS ?_)))
 rintro _ _ ⟨w, rfl, rfl⟩
 refine AO.q 1 I (AO.nil ?_)
 subst a8
 refine AW.seqG (fun c4 ba => ?_)
 obtain ⟨ah, bb, h⟩ := ob_some h
 refine AW.region (AO.q 1 I (AO.act [0] I (AX.c0 [0] (L.zeju_ok w _ _ bb) ?_)))
 refine AO.act [] I (AX.alloc (cs := [.N, .N, .N, .N, .V 0, .V 0]) (m := 6) I I I I I dS (fun bc => (AO.act [1] I (AX.st 1 0 0 [Network.row ah.1] I (AO.nil ?_)))))
 subst ba
 refine AW.cutX (fun s ob => ∃ (g : (List Int) × Int × (List Valve) × (List Int) × (List Int) × (List Bool)) (ai : Nat), L.zhuo.J1 W ah g = some r ∧ s = [(7, .v (.pointer (some ⟨ai, 0, none⟩)))] ∧ ob = [.arr w 88 2 1 [[.list 1 (g.1.map rI), .V g.2.1]], .arr bc 32 6 1 [Network.row ah.1], .arr ai 39 4 1 [[.list 4 (g.2.2.1.map Valve.row), .list 1 (g.2.2.2.1.map rI), .list 1 (g.2.2.2.2.1.map rI), .list 1 (g.2.2.2.2.2.map rB)]]]) [(1, _), (5, _), (6, _)] ⟨I, I, I, J⟩ ?_ ?_
 obtain ⟨c5, au, h⟩ := ob_some h
 obtain ⟨av, aj, h⟩ := ob_some h
 obtain ⟨A, X, h⟩ := ob_some h
 refine AW.rd (.still 0 (.still 1 (.still 2 (.still 3 (.two 4 7 (.two 5 7 (.two 6 7 (.act 7 (.act 8 .nil)) (.act 6 (.act 8 .nil))) (.act 5 (.act 6 (.act 8 .nil)))) (.act 4 (.act 5 (.act 6 (.act 8 .nil))))))))) [1] [_] I (AP.r 4 [.o 1 0, .o 3 0] I ⟨I, I, J⟩ (AP.two ?_ ?_))
 refine AP.act [0] I I I (AX.c0 [0] (L.zhma_ok w _ _ _ au) ?_)
 refine AP.two ?_ ?_
 refine AP.act [0] I I I (AX.c0 [0] (L.zrqy_ok w _ _ _ _ aj) ?_)
 refine AP.two ?_ ?_
 refine AP.act [] I I I (AX.call0 I I I (L.zqyk_ok _ _ X) dS ?_)
 rintro _ _ ⟨rfl, rfl⟩
 refine AP.act [] I I I (AX.alloc (cs := [.N, .N, .N, .N]) (m := 4) I I I I I dS (fun Y => (AP.act [2] I I I (AX.st 2 0 0 [Desk.row A] I (AP.ofAO (AO.nil ?_))))))
 rotate_left
 refine AP.act [] I I I (AX.alloc (cs := [.N, .N, .N, .N]) (m := 4) I I I I I dS (fun Y => (AP.act [] I I I (AX.call0 I I I (L.zqyk_ok _ _ X) dS ?_))))
 rintro _ _ ⟨rfl, rfl⟩
 refine AP.act [2] I I I (AX.st 2 0 0 [Desk.row A] I (AP.ofAO (AO.nil ?_)))
 rotate_left
 refine AP.act [] I I I (AX.alloc (cs := [.N, .N, .N, .N]) (m := 4) I I I I I dS (fun Y => (AP.act [0] I I I (AX.c0 [0] (L.zrqy_ok w _ _ _ _ aj) ?_))))
 refine AP.act [] I I I (AX.call0 I I I (L.zqyk_ok _ _ X) dS ?_)
 rintro _ _ ⟨rfl, rfl⟩
 refine AP.act [2] I I I (AX.st 2 0 0 [Desk.row A] I (AP.ofAO (AO.nil ?_)))
 rotate_left
 refine AP.act [] I I I (AX.alloc (cs := [.N, .N, .N, .N]) (m := 4) I I I I I dS (fun Y => (AP.act [0] I I I (AX.c0 [0] (L.zhma_ok w _ _ _ au) ?_))))
 refine AP.act [0] I I I (AX.c0 [0] (L.zrqy_ok w _ _ _ _ aj) ?_)
 refine AP.act [] I I I (AX.call0 I I I (L.zqyk_ok _ _ X) dS ?_)
 rintro _ _ ⟨rfl, rfl⟩
 refine AP.act [2] I I I (AX.st 2 0 0 [Desk.row A] I (AP.ofAO (AO.nil ?_)))
 any_goals
  exact lg ⟨(av.2.L_, av.2.At, A.Valves, A.Plan.Rates, A.Plan.Ports, A.Plan.Pumps), Y, h, I, I⟩ [0, 1, 2]
 rintro s ob ⟨g, ai, h, rfl, rfl⟩
 unfold L.zhuo.J1 at h
 refine AW.seqG (fun c6 bd => ?_)
 obtain ⟨be, bf, h⟩ := ob_some h
 refine AW.region (AO.r 2 [.o 1 1] I ⟨I, J⟩ (AO.act [0] I (AX.c0 [0] (L.zhma_ok w _ _ _ bf) ?_)))
 refine AO.act [] I (AX.alloc (cs := [.N, .N, .N]) (m := 3) I I I I I dS (fun c7 => (AO.act [3] I (AX.st 3 0 0 [Plan.row be.1] I (AO.nil ?_)))))
 subst bd
 refine AW.seqG (fun c8 bg => ?_)
 obtain ⟨a, bh, h⟩ := ob_some h
 refine AW.region (AO.r 4 [.o 0 1, .o 1 2, .o 2 3] I ⟨I, I, I, J⟩ (AO.p (Yp.convI (c := wr (W)) I I I I I) I (AO.q 1 I (AO.act [] I (AX.call0 I I I (L.zzjm_ok _ _ _ _ _ _ bh) dS ?_)))))
 rintro _ _ ⟨i, rfl, rfl⟩
 refine AO.q 5 I (AO.nil ?_)
 subst bg
 refine AW.seqG (fun c9 bi => ?_)
 obtain ⟨j, bj, h⟩ := ob_some h
 refine AW.region (AO.r 2 [.o 0 1] I ⟨I, J⟩ (AO.d (Yd.loadO 2 0 1 I I I I I (y := .agg [.list 1 (g.2.2.2.1.map rI), .list 1 (g.2.2.2.2.1.map rI), .list 1 (g.2.2.2.2.2.map rB)]) I) I (AO.act [] I (AX.call0 I I I (L.ztrc_ok _ _ _ bj) dS ?_))))
 rintro _ _ ⟨B, rfl, rfl⟩
 refine AO.q 5 I (AO.nil ?_)
 subst bi
 refine AW.seqG (fun da bk => ?_)
 obtain ⟨k, bl, h⟩ := ob_some h
 refine AW.region (AO.r 2 [.o 0 1, .o 1 3] I ⟨I, I, J⟩ (AO.act [] I (AX.call0 I I I (L.ztrc_ok _ _ _ bl) dS ?_)))
 rintro _ _ ⟨D, rfl, rfl⟩
 refine AO.q 5 I (AO.nil ?_)
 subst bk
 refine AW.seqG (fun db bm => (AW.z I (AW.ch h I ?_ ?_)))
 intro bn h
 refine AW.seq ?_
 obtain ⟨dc, bo, h⟩ := ob_some h
 refine AW.region (AO.c (L.zgom_ok  _ bo) (AO.q 1 I (AO.nil (AW.ghost g0 ?_))))
 obtain rfl := oi h
 exact AW.ret pr
 intro bn h
 refine AW.skip ?_
 subst bm
 refine AW.seqG (fun dd bp => (AW.jb 78 ((a.2 != 0) || ((j.2 != 0) || (k.2 != 0))) ?_ ?_))
 refine AW.region (AO.q 3 I ?_)
 rcases bt ((a.2 != 0)) with K | K
 refine AO.known 71 I K (AO.q 7 I (AO.nil ?_))
 exact jf (by simp only [K, bz]) I I ⟨I, I⟩
 refine AO.known 71 I K (AO.q 4 I ?_)
 rcases bt ((j.2 != 0)) with M | M
 refine AO.known 75 I M (AO.q 3 I (AO.nil ?_))
 exact jf (by simp only [K, M, bz]) I I ⟨I, I⟩
 refine AO.known 75 I M (AO.q 3 I (AO.nil ?_))
 exact jf (by simp only [K, M, bz]) I I ⟨I, I⟩
 refine AW.ch h I ?_ ?_
 intro bq h
 refine AW.z I (AW.ghost g0 ?_)
 obtain rfl := oi h
 exact AW.ret pr
 intro bq h
 refine AW.skip ?_
 subst bp
 refine AW.seqG (fun de br => ?_)
 obtain ⟨df, aw, h⟩ := ob_some h
 obtain ⟨E, ax, h⟩ := ob_some h
 refine AW.region (AO.act [] I (AX.buildSlice (sz := 4) (es := ([] : List Path).map Path.row) I I I I I I I I I I I dS (fun dg => (AO.q 1 I (AO.act [7] I (AX.appendU 7 I I I I I I I I I (AppSrc.own 5 I I) (app_len (app_some aw).1) (app_map (app_some aw).2) dS (fun dh => (AO.q 1 I (AO.act [7] I (AX.appendU 7 I I I I I I I I I (AppSrc.own 6 I I) (app_len (app_some ax).1) (app_map (app_some ax).2) dS (fun F => (AO.q 1 I (AO.nil ?_)))))))))))))
 subst br
 refine AW.z I (AW.cutX (fun s ob => ∃ (O : Int), L.zhuo.J2 a O = some r ∧ s = [(16, .V O)] ∧ ob = [.us i 54 7 (a.1.map Step.row)]) [(9, _)] ⟨I, J⟩ ?_ ?_)
 refine AW.z I (AW.block ?_)
 obtain ⟨di, bs, ak⟩ := ob_some h
 clear h
 refine AW.loopX bs [(9, _), (11, _), (13, _), (15, _)] ⟨I, I, I, I, J⟩ (fun (l : Int × Int) s ob => s = [(16, .V l.1), (17, .V l.2)] ∧ ob = [.us i 54 7 (a.1.map Step.row), .us B 52 4 (j.1.map Path.row), .us D 52 4 (k.1.map Path.row), .us F 52 4 (E.map Path.row)]) ⟨I, I⟩ ⟨I, I, J⟩ ⟨[4, 5, 6, 7], I, by decide⟩ ?_
 rintro l Z s ob ⟨rfl, rfl⟩ h al
 unfold L.zhuo.B7 at h
 refine AW.seqG (fun dj bu => (AW.seq (AW.region (AO.q 2 I (AO.d (Yd.lenUM 3 I I I I) I (AO.q 1 I (AO.nil (AW.ch h I ?_ ?_))))))))
 intro bv h
 refine AW.skip ?_
 subst bu
 refine AW.cutX (fun s ob => ∃ (am : Int), L.zhuo.J8 l am = some Z ∧ s = [(16, .V am)] ∧ ob = [.us i 54 7 (a.1.map Step.row), .us B 52 4 (j.1.map Path.row), .us D 52 4 (k.1.map Path.row), .us F 52 4 (E.map Path.row)]) [(9, _), (11, _), (13, _), (15, _), (17, _)] ⟨I, I, I, I, I, J⟩ ?_ ?_
 refine AW.block (AW.seqG (fun dk bw => (AW.seq ?_)))
 obtain ⟨b, ⟨aa, n⟩, h⟩ := ob_ix h
 obtain ⟨dl, bx, h⟩ := ob_some h
 refine AW.region (AO.q 3 I (AO.d (Yd.indexU 3 (m := b.1) I I I I I I I aa (map_get n)) I (AO.d (Yd.loadU 3 b.1 0 I I I (map_get n) I (y := .agg (Path.row b.2)) I) I (AO.act [] I (AX.callL I (.refl _) I I (.cons (.us 3 I) (.rest _)) I (L.zden_ok _ _ _ bx) dS (by rintro _ _ ⟨rfl, _⟩; rfl) ?_)))))
 rintro _ ⟨_, rfl, -⟩
 refine AO.q 2 I (AO.nil (AW.ch h I ?_ ?_))
 intro b0 h
 refine AW.exit ?_
 exact lg ⟨l.1, h, I, I⟩ [0, 1, 2, 3]
 intro b0 h
 refine AW.skip ?_
 subst bw
 refine AW.z I (AW.cutX (fun s ob => ∃ (P : Int), L.zhuo.J9 a k l b P = some Z ∧ s = [(19, .V P)] ∧ ob = [.us i 54 7 (a.1.map Step.row), .us B 52 4 (j.1.map Path.row), .us D 52 4 (k.1.map Path.row), .us F 52 4 (E.map Path.row)]) [(9, _), (11, _), (13, _), (15, _), (16, _), (17, _), (18, _)] ⟨I, I, I, I, I, I, I, J⟩ ?_ ?_)
 refine AW.seqG (fun dm b1 => ?_)
 obtain ⟨dn, b2, h⟩ := ob_some h
 refine AW.region (AO.q 3 I (AO.d (Yd.indexU 3 (m := b.1) I I I I I I I aa (map_get n)) I (AO.d (Yd.loadU 3 b.1 0 I I I (map_get n) I (y := .agg (Path.row b.2)) I) I (AO.act [] I (AX.callL I (.refl _) I I (.cons (.us 1 I) (.rest _)) I (L.zden_ok _ _ _ b2) dS (by rintro _ _ ⟨rfl, _⟩; rfl) ?_)))))
 rintro _ ⟨_, rfl, -⟩
 refine AO.q 1 I (AO.nil ?_)
 subst b1
 refine AW.z I (AW.ch h I ?_ ?_)
 intro b3 h
 obtain ⟨ab, ⟨b4, ay⟩, h⟩ := ob_ix h
 refine AW.region (AO.q 3 I (AO.d (Yd.indexU 1 (m := ab.1) I I I I I I I b4 (map_get ay)) I (AO.q 1 I (AO.d (Yd.loadU 1 ab.1 3 I I I (map_get ay) I (y := .V ab.2.Rate) I) I (AO.q 2 I (AO.nil ?_))))))
 exact lg ⟨wr (0 - ab.2.Rate), h, I, I⟩ [0, 1, 2, 3]
 intro b3 h
 refine AW.skip ?_
 exact lg ⟨0, h, I, I⟩ [0, 1, 2, 3]
 rintro s ob ⟨P, h, rfl, rfl⟩
 unfold L.zhuo.J9 at h
 refine AW.cutX (fun s ob => ∃ (Q : Int), L.zhuo.J10 a l b Q = some Z ∧ s = [(19, .V Q)] ∧ ob = [.us i 54 7 (a.1.map Step.row), .us B 52 4 (j.1.map Path.row), .us D 52 4 (k.1.map Path.row), .us F 52 4 (E.map Path.row)]) [(9, _), (11, _), (13, _), (15, _), (16, _), (17, _), (18, _)] ⟨I, I, I, I, I, I, I, J⟩ ?_ ?_
 refine AW.seqG (fun dp b5 => ?_)
 obtain ⟨dq, b6, h⟩ := ob_some h
 refine AW.region (AO.q 3 I (AO.d (Yd.indexU 3 (m := b.1) I I I I I I I aa (map_get n)) I (AO.d (Yd.loadU 3 b.1 0 I I I (map_get n) I (y := .agg (Path.row b.2)) I) I (AO.act [] I (AX.callL I (.refl _) I I (.cons (.us 2 I) (.rest _)) I (L.zden_ok _ _ _ b6) dS (by rintro _ _ ⟨rfl, _⟩; rfl) ?_)))))
 rintro _ ⟨_, rfl, -⟩
 refine AO.q 1 I (AO.nil ?_)
 subst b5
 refine AW.z I (AW.ch h I ?_ ?_)
 intro b7 h
 obtain ⟨ac, ⟨b8, az⟩, h⟩ := ob_ix h
 refine AW.region (AO.q 3 I (AO.d (Yd.indexU 2 (m := ac.1) I I I I I I I b8 (map_get az)) I (AO.q 1 I (AO.d (Yd.loadU 2 ac.1 3 I I I (map_get az) I (y := .V ac.2.Rate) I) I (AO.q 2 I (AO.nil ?_))))))
 exact lg ⟨wr (P + ac.2.Rate), h, I, I⟩ [0, 1, 2, 3]
 intro b7 h
 refine AW.skip ?_
 exact lg ⟨P, h, I, I⟩ [0, 1, 2, 3]
 rintro s ob ⟨Q, h, rfl, rfl⟩
 unfold L.zhuo.J10 at h
 refine AW.cutX (fun s ob => ∃ (R : Int × Int), L.zhuo.J11 l Q R = some Z ∧ s = [(16, .V R.1), (18, .V R.2)] ∧ ob = [.us i 54 7 (a.1.map Step.row), .us B 52 4 (j.1.map Path.row), .us D 52 4 (k.1.map Path.row), .us F 52 4 (E.map Path.row)]) [(9, _), (11, _), (13, _), (15, _), (17, _), (19, _)] ⟨I, I, I, I, I, I, J⟩ ?_ ?_
 refine AW.z I (AW.block ?_)
 obtain ⟨dr, ca, a0⟩ := ob_some h
 clear h
 refine AW.loopX ca [(9, _), (11, _), (13, _), (15, _), (17, _), (19, _)] ⟨I, I, I, I, I, I, J⟩ (fun (f : Int × Int × Int) s ob => s = [(16, .V f.1), (18, .V f.2.1), (22, .V f.2.2)] ∧ ob = [.us i 54 7 (a.1.map Step.row), .us B 52 4 (j.1.map Path.row), .us D 52 4 (k.1.map Path.row), .us F 52 4 (E.map Path.row)]) ⟨I, I⟩ ⟨I, I, I, J⟩ ⟨[0, 1, 2, 3], I, by decide⟩ ?_
 rintro f a1 s ob ⟨rfl, rfl⟩ h a2
 unfold L.zhuo.B12 at h
 refine AW.seqG (fun ds cb => (AW.seq (AW.region (AO.q 2 I (AO.d (Yd.lenUM 0 I I I I) I (AO.q 1 I (AO.nil (AW.ch h I ?_ ?_))))))))
 intro cc h
 refine AW.skip ?_
 subst cb
 refine AW.cutX (fun s ob => ∃ (ad : Int × Int), L.zhuo.J13 f ad = some a1 ∧ s = [(16, .V ad.1), (18, .V ad.2)] ∧ ob = [.us i 54 7 (a.1.map Step.row), .us B 52 4 (j.1.map Path.row), .us D 52 4 (k.1.map Path.row), .us F 52 4 (E.map Path.row)]) [(9, _), (11, _), (13, _), (15, _), (17, _), (19, _), (22, _)] ⟨I, I, I, I, I, I, I, J⟩ ?_ ?_
 refine AW.block (AW.cutX (fun s ob => ∃ (an : Bool), L.zhuo.J14 a Q f an = some a1 ∧ s = [(151, .v (.bool an))] ∧ ob = [.us i 54 7 (a.1.map Step.row), .us B 52 4 (j.1.map Path.row), .us D 52 4 (k.1.map Path.row), .us F 52 4 (E.map Path.row)]) [(9, _), (11, _), (13, _), (15, _), (16, _), (17, _), (18, _), (19, _), (22, _)] ⟨I, I, I, I, I, I, I, I, I, J⟩ ?_ ?_)
 obtain ⟨e, ⟨ao, u⟩, h⟩ := ob_ix h
 rcases bt ((e.2.Kind == 5)) with S | S
 replace h := ife_t S h
 obtain ⟨cd, ce, h⟩ := ob_some h
 refine AW.form 0 e.1 I u (fun cf => (AW.form 0 e.1 I u (fun cg => (AW.form 3 b.1 I n (fun ci => (AW.rd (pd 18 0 [16]) [0, 3] [_, _] I (AP.q 2 I (AP.op I (Yp.indexUf (m := e.1) I I I I I cf I ao u) I (AP.q 1 I (AP.o I (Yd.loadU 0 e.1 0 I I I (map_get u) I (y := .V e.2.Kind) I) I (AP.q 2 I (AP.known 140 I S (AP.q 2 I (AP.oldG I I I I ((Yp.indexUf (m := e.1) I I I I I cg I ao u).yd) dS (AP.q 1 I ?_)))))))))))))))
 refine AP.oldG I I I I (Yd.loadU 0 e.1 3 I I I (map_get u) I (y := .agg (Path.row e.2.Path)) I) dS (AP.q 2 I (AP.oldG I I I I ((Yp.indexUf (m := b.1) I I I I I ci I aa n).yd) dS (AP.oldG I I I I (Yd.loadU 1 b.1 0 I I I (map_get n) I (y := .agg (Path.row b.2)) I) dS (AP.cG I (L.zjuq_ok _ _ _ ce) (AP.q 1 I (AP.ofAO (AO.nil ?_)))))))
 exact lg ⟨cd, h, I, I⟩ [0, 1, 2, 3]
 replace h := ife_f S h
 refine AW.form 0 e.1 I u (fun cj => (AW.rd (pd 18 0 [16]) [0] [_] I (AP.q 2 I (AP.op I (Yp.indexUf (m := e.1) I I I I I cj I ao u) I (AP.q 1 I (AP.o I (Yd.loadU 0 e.1 0 I I I (map_get u) I (y := .V e.2.Kind) I) I (AP.q 2 I (AP.known 140 I S (AP.q 11 I (AP.ofAO (AO.nil ?_)))))))))))
 exact lg ⟨false, h, I, I⟩ [0, 1, 2, 3]
 rintro s ob ⟨an, h, rfl, rfl⟩
 unfold L.zhuo.J14 at h
 refine AW.ch h I ?_ ?_
 intro ck h
 refine AW.seqG (fun dt cl => ?_)
 obtain ⟨G, ⟨a3, ae⟩, h⟩ := ob_ix h
 refine AW.region (AO.q 3 I (AO.d (Yd.indexU 0 (m := G.1) I I I I I I I a3 (map_get ae)) I (AO.q 1 I (AO.d (Yd.loadU 0 G.1 2 I I I (map_get ae) I (y := .V G.2.Value) I) I (AO.q 2 I (AO.nil ?_))))))
 subst cl
 refine AW.z I (AW.seq (AW.region (AO.q 2 I (AO.d (Yd.indexU 0 (m := G.1) I I I I I I I a3 (map_get ae)) I (AO.q 1 I (AO.d (Yd.loadU 0 G.1 2 I I I (map_get ae) I (y := .V G.2.Value) I) I (AO.q 3 I (AO.nil (AW.ch h I ?_ ?_)))))))))
 intro cm h
 refine AW.z I ?_
 obtain rfl := a2 _ (oi h).symm
 replace h := a0
 replace h := se_l h
 obtain rfl := al _ (oi h).symm
 replace h := ak
 replace h := se_l h
 refine AW.ghost g0 ?_
 obtain rfl := oi h
 exact AW.ret pr
 intro cm h
 refine AW.skip ?_
 exact lg ⟨(wr (f.1 + 1), wr (f.2.1 + G.2.Value)), h, I, I⟩ [0, 1, 2, 3]
 intro ck h
 refine AW.skip ?_
 exact lg ⟨(f.1, f.2.1), h, I, I⟩ [0, 1, 2, 3]
 rintro s ob ⟨ad, h, rfl, rfl⟩
 unfold L.zhuo.J13 at h
 refine AW.region (AO.q 3 I ?_)
 obtain rfl := oi h
 refine AO.nil ?_
 exact ⟨_, _, _, I, ⟨I, I⟩, ⟨I, I, I, I, I, I, I, I, I, J⟩, [0, 1, 2, 3], I, by decide⟩
 intro cc h
 obtain rfl := a2 _ (oi h).symm
 replace h := a0
 replace h := se_r h
 refine AW.exit ?_
 exact lg ⟨(f.1, f.2.1), h, I, I⟩ [0, 1, 2, 3]
 rintro s ob ⟨R, h, rfl, rfl⟩
 unfold L.zhuo.J11 at h
 refine AW.z I (AW.ch h I ?_ ?_)
 intro cn h
 refine AW.z I ?_
 obtain rfl := al _ (oi h).symm
 replace h := ak
 replace h := se_l h
 refine AW.ghost g0 ?_
 obtain rfl := oi h
 exact AW.ret pr
 intro cn h
 refine AW.skip ?_
 exact lg ⟨R.1, h, I, I⟩ [0, 1, 2, 3]
 rintro s ob ⟨am, h, rfl, rfl⟩
 unfold L.zhuo.J8 at h
 refine AW.region (AO.q 3 I ?_)
 obtain rfl := oi h
 refine AO.nil ?_
 exact ⟨_, _, _, I, ⟨I, I⟩, ⟨I, I, I, I, I, I, J⟩, [0, 1, 2, 3], I, by decide⟩
 intro bv h
 obtain rfl := al _ (oi h).symm
 replace h := ak
 replace h := se_r h
 refine AW.exit ?_
 exact lg ⟨l.1, h, I, I⟩ [0]
 rintro s ob ⟨O, h, rfl, rfl⟩
 unfold L.zhuo.J2 at h
 refine AW.z I (AW.cutX (fun s ob => ∃ (af : Int), L.zhuo.J3 O af = some r ∧ s = [(23, .V af)] ∧ ob = []) [(16, _)] ⟨I, J⟩ ?_ ?_)
 refine AW.z I (AW.block ?_)
 obtain ⟨du, co, cp⟩ := ob_some h
 clear h
 refine AW.loopX co [(9, _), (16, _)] ⟨I, I, J⟩ (fun (H : Int × Int) s ob => s = [(23, .V H.1), (24, .V H.2)] ∧ ob = [.us i 54 7 (a.1.map Step.row)]) ⟨I, I⟩ ⟨I, I, J⟩ ⟨[0], I, by decide⟩ ?_
 rintro H cq s ob ⟨rfl, rfl⟩ h cr
 unfold L.zhuo.B5 at h
 refine AW.seqG (fun dv ct => (AW.seq (AW.region (AO.q 2 I (AO.d (Yd.lenUM 0 I I I I) I (AO.q 1 I (AO.nil (AW.ch h I ?_ ?_))))))))
 intro cu h
 refine AW.skip ?_
 subst ct
 refine AW.cutX (fun s ob => ∃ (ap : Int), L.zhuo.J6 H ap = some cq ∧ s = [(23, .V ap)] ∧ ob = [.us i 54 7 (a.1.map Step.row)]) [(9, _), (16, _), (24, _)] ⟨I, I, I, J⟩ ?_ ?_
 refine AW.block (AW.seq ?_)
 obtain ⟨aq, ⟨cv, a4⟩, h⟩ := ob_ix h
 refine AW.region (AO.q 2 I (AO.d (Yd.indexU 0 (m := aq.1) I I I I I I I cv (map_get a4)) I (AO.q 1 I (AO.d (Yd.loadU 0 aq.1 0 I I I (map_get a4) I (y := .V aq.2.Kind) I) I (AO.q 1 I (AO.nil (AW.ch h I ?_ ?_)))))))
 intro cw h
 refine AW.t I ?_
 exact lg ⟨wr (H.1 + 1), h, I, I⟩ [0]
 intro cw h
 refine AW.skip ?_
 exact lg ⟨H.1, h, I, I⟩ [0]
 rintro s ob ⟨ap, h, rfl, rfl⟩
 unfold L.zhuo.J6 at h
 refine AW.region (AO.q 3 I ?_)
 obtain rfl := oi h
 refine AO.nil ?_
 exact ⟨_, _, _, I, ⟨I, I⟩, ⟨I, I, I, I, J⟩, [0], I, by decide⟩
 intro cu h
 obtain rfl := cr _ (oi h).symm
 replace h := cp
 refine AW.exit ?_
 exact lg ⟨H.1, h, I, I⟩ []
 rintro s ob ⟨af, h, rfl, rfl⟩
 unfold L.zhuo.J3 at h
 refine AW.cutX (fun s ob => ∃ (ar : Bool), L.zhuo.J4 ar = some r ∧ s = [(4, .v (.bool ar))] ∧ ob = []) [] J ?_ ?_
 refine AW.region (AO.q 4 I ?_)
 rcases bt ((af == O)) with U | U
 replace h := ife_t U h
 obtain ⟨cx, cy, h⟩ := ob_some h
 refine AO.known 189 I U (AO.gt I I I (AO.c (L.zgom_ok  _ cy) (AO.q 2 I (AO.nil ?_))))
 exact lg ⟨cx, h, I, I⟩ []
 replace h := ife_f U h
 refine AO.known 189 I U (AO.q 3 I (AO.nil ?_))
 exact lg ⟨false, h, I, I⟩ []
 rintro s ob ⟨ar, h, rfl, rfl⟩
 unfold L.zhuo.J4 at h
 obtain rfl := oi h
 exact AW.ret pr
end Go.Proofs.YtmaamhgjeampmaaGreat
