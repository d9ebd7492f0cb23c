/- Walks that show what functions of the program compute; printed by a program of ours. No condition. -/
import Derived.Test.YtligpmmgdjipbaaZwLa8
set_option maxRecDepth 100000
namespace Go.Proofs.Ytligpmmgdjipbaa
open Go.Aw
set_option linter.unusedVariables false
set_option linter.unusedSimpArgs false
set_option maxHeartbeats 4000000
theorem L.zxvu_ok (aj : List Int) (r : Bool) (h : L.zxvu aj = some r) : ACalls Try.env 7 [.list 1 (aj.map rI)] [] (fun x new => x = .v (.bool r) ∧ new = []) := by
 refine ACalls.of_body Try.func7 rfl rfl rfl (fun C hC => ?_)
 unfold L.zxvu at h
 refine AW.z I (AW.seqG (fun y2 az => ?_))
 obtain ⟨r3, a0, h⟩ := ob_some h
 refine AW.region (AO.q 1 I (AO.act [] I (AX.call0 I I I (L.ziti_ok _ _ a0) dS ?_)))
 rintro _ _ ⟨w, rfl, rfl⟩
 refine AO.q 1 I (AO.nil ?_)
 subst az
 refine AW.seqG (fun y6 a1 => ?_)
 obtain ⟨b, a2, h⟩ := ob_some h
 refine AW.region (AO.q 1 I (AO.act [0] I (AX.c0 [0] (L.zhiu_ok w _ _ a2) ?_)))
 refine AO.act [] I (AX.alloc (cs := [.N, .N, .N, .N, .V 0, .V 0]) (m := 6) I I I I I dS (fun j => (AO.act [1] I (AX.store 1 0 0 (es' := [Network.row b.1]) I I I I I I I I (le_ble I) I I (AO.nil ?_)))))
 subst a1
 refine AW.z I (AW.cutX (fun s ob => ∃ (a : Int × Int), L.zxvu.J1 b a = some r ∧ s = [(5, .V a.1), (6, .V a.2)] ∧ ob = [.arr w 65 2 1 [KS.row b.2], .arr j 30 6 1 [Network.row b.1]]) [(3, _), (4, _)] ⟨I, I, J⟩ ?_ ?_)
 refine AW.zr [.o 1 1, .l 2 (b.1.Segments.length : Int)] I ⟨len_m, I, J⟩ (AW.block (AW.listMax 27 I (fun aa => ?_)))
 replace aa : b.1.Segments.length ≤ 9223372036854775806 := by rw [List.length_map] at aa; omega
 obtain ⟨c9, a3, a4⟩ := ob_some h
 clear h
 refine AW.forY a3 [(3, _), (4, _), (27, _), (28, _)] ⟨I, I, I, I, J⟩ (fun (F : Nat) (D : Int × Int) s ob => s = [(29, .V (F : Int)), (5, .V D.1), (6, .V D.2)] ∧ ob = [.arr w 65 2 1 [KS.row b.2], .arr j 30 6 1 [Network.row b.1]]) ⟨I, I⟩ ⟨I, I, I, J⟩ ⟨[0, 1], I, by decide⟩ ?_ ?_
 rintro F ak D da s ob a5 a6 ⟨rfl, rfl⟩ h
 unfold L.zxvu.B9 at h
 have a7 : decide ((F : Int) < (b.1.Segments.length : Int)) = true := decide_eq_true (by omega)
 refine AW.z I (AW.seqG (fun db a8 => (AW.condK (v := true) I a7 (AW.skip ?_))))
 subst a8
 refine AW.seq (AW.block (AW.seq (AW.region (AO.r 2 [.x 0 F (Segment.row ak)] I ⟨⟨I, map_get a5⟩, J⟩ (AO.act [] I (AX.alloc (cs := [.v (.string ⟨#[]⟩), .V 0, .V 0, .V 0, .V 0, .V 0, .N]) (m := 7) I I I I I dS (fun dc => (AO.act [2] I (AX.store 2 0 0 (es' := [Segment.row ak]) I I I I I I I I (le_ble I) I I (AO.nil (AW.dt (pd 10 0 []) [2] [_] [.o 2 0, .o 6 0] I I ⟨I, I, J⟩ (AW.region (AO.r 2 [.k 0 (F + 1 : Nat)] I ⟨cast_wr a6 aa, J⟩ ?_)))))))))))))
 obtain rfl := oi h
 refine AO.nil ?_
 exact lg ⟨I, I⟩ [0, 1]
 rintro D s ob ⟨rfl, rfl⟩ he
 subst he
 have h := a4
 have a9 : decide (((b.1.Segments.length : Nat) : Int) < (b.1.Segments.length : Int)) = false := by simp
 refine AW.z I (AW.seqG (fun dd de => (AW.condK (v := false) I a9 (AW.exit ?_))))
 exact lg ⟨(D.1, D.2), h, I, I⟩ [0, 1]
 rintro s ob ⟨a, h, rfl, rfl⟩
 unfold L.zxvu.J1 at h
 refine AW.seqG (fun df ba => (AW.region (AO.q 3 I (AO.act [] I (AX.buildSlice (sz := 1) (es := ([a.1, wr (0 - a.1)] : List Int).map rI) I I I I I I I I I I I dS (fun e => (AO.one 2 I (fun bb => (AO.p (Yp.buildP (l := [.N, .v e, .N]) Try.bld37 (fill_step I I (cells_v bb) I (fill_nil))) I (AO.act [] I (AX.alloc (cs := [.N, .N, .N]) (m := 3) I I I I I dS (fun A => (AO.act [3] I (AX.store 3 0 0 (es' := [[.N, .v e, .N]]) I I I I I I I I (le_ble I) I I (AO.nil ?_)))))))))))))))
 subst ba
 refine AW.z I (AW.cutX (fun s ob => ∃ (g : (List Int) × (List Hop)) (i : Value) (G : Value), L.zxvu.J2 b a g = some r ∧ s = [(10, .v G)] ∧ ob = [.arr w 65 2 1 [KS.row b.2], .arr j 30 6 1 [Network.row b.1], .us e 3 1 (([a.1, wr (0 - a.1)] : List Int).map rI), .arr A 37 3 1 [[.v i, .v e, .N]], .us i 3 1 (g.1.map rI), .us G 60 2 (g.2.map Hop.row)]) [(3, _), (4, _), (5, _), (6, _), (9, _)] ⟨I, I, I, I, I, J⟩ ?_ ?_)
 refine AW.zr [.o 1 1, .l 2 (b.1.Segments.length : Int)] I ⟨len_m, I, J⟩ (AW.block (AW.listMax 48 I (fun ab => ?_)))
 replace ab : b.1.Segments.length ≤ 9223372036854775806 := by rw [List.length_map] at ab; omega
 refine AW.ghost (Ghost.nilU 3 1) (AW.ghost (Ghost.nilU 60 2) ?_)
 obtain ⟨dg, bc, bd⟩ := ob_some h
 clear h
 refine AW.forY bc [(3, _), (4, _), (5, _), (6, _), (9, _), (48, _), (49, _)] ⟨I, I, I, I, I, I, I, J⟩ (fun (n : Nat) (t : (List Int) × (List Hop)) s ob => ∃ (H : Value) (E : Value), s = [(50, .V (n : Int)), (10, .v E)] ∧ ob = [.arr w 65 2 1 [KS.row b.2], .arr j 30 6 1 [Network.row b.1], .us e 3 1 (([a.1, wr (0 - a.1)] : List Int).map rI), .arr A 37 3 1 [[.v H, .v e, .N]], .us H 3 1 (t.1.map rI), .us E 60 2 (t.2.map Hop.row)]) ⟨(.slice none 0 0), (.slice none 0 0), I, I⟩ ⟨I, I, J⟩ ⟨[0, 1, 2, 3, 4, 5], I, by decide⟩ ?_ ?_
 rintro n u t be s ob bf bg ⟨H, E, rfl, rfl⟩ h
 unfold L.zxvu.B7 at h
 have bh : decide ((n : Int) < (b.1.Segments.length : Int)) = true := decide_eq_true (by omega)
 refine AW.z I (AW.seqG (fun dh bi => (AW.condK (v := true) I bh (AW.skip ?_))))
 subst bi
 refine AW.seq (AW.block (AW.seqG (fun di bj => (AW.region (AO.r 3 [.x 1 n (Segment.row u)] I ⟨⟨I, map_get bf⟩, J⟩ (AO.act [] I (AX.alloc (cs := [.v (.string ⟨#[]⟩), .V 0, .V 0, .V 0, .V 0, .V 0, .N]) (m := 7) I I I I I dS (fun bk => (AO.q 1 I (AO.act [6] I (AX.store 6 0 0 (es' := [Segment.row u]) I I I I I I I I (le_ble I) I I (AO.nil ?_))))))))))))
 subst bj
 refine AW.seqG (fun dj bl => ?_)
 obtain ⟨al, bm, h⟩ := ob_some h
 refine AW.region (AO.r 3 [.o 1 3] I ⟨I, J⟩ (AO.act [] I (AX.lt 1 (([a.1] : List Int).map rI) (AO.act [4] I (AX.ap 4 I bm (fun S => (AO.q 1 I (AO.one 4 I (fun bn => (AO.act [3] I (AX.store 3 0 0 (es' := [[.v S, .v e, .N]]) I I I I I I (cells_v bn) I (le_ble I) I I (AO.nil ?_))))))))))))
 subst bl
 refine AW.cutX (fun s ob => ∃ (ac : List Int), L.zxvu.J8 n u t ac = some be ∧ s = [] ∧ ob = [.arr w 65 2 1 [KS.row b.2], .arr j 30 6 1 [Network.row b.1], .us e 3 1 (([a.1, wr (0 - a.1)] : List Int).map rI), .arr A 37 3 1 [[.v S, .v e, .N]], .us S 3 1 (ac.map rI), .us E 60 2 (t.2.map Hop.row), .arr bk 34 7 1 [Segment.row u]]) [(3, _), (4, _), (5, _), (6, _), (9, _), (10, _), (11, _), (12, _), (48, _), (49, _), (50, _)] ⟨I, I, I, I, I, I, I, I, I, I, I, J⟩ ?_ ?_
 refine AW.zr [.o 1 6, .o 3 6] I ⟨I, I, J⟩ (AW.ch h I ?_ ?_)
 intro bo h
 obtain ⟨ad, bp, h⟩ := ob_some h
 obtain ⟨bq, am⟩ := ix_some bp
 refine AW.region (AO.r 5 [.o 1 3] I ⟨I, J⟩ (AO.d (Yd.indexU 4 (m := ad.1) I I I I I I I bq (map_get am)) I (AO.act [4] I (AX.storeU 4 ad.1 0 I I I (map_get am) I I I I (le_ble I) I (us_set (x := wr (0 - a.1)) I) (AO.nil ?_)))))
 exact lg ⟨(al.set ad.1 (wr (0 - a.1))), h, I, I⟩ [0, 1, 2, 3, 4, 5, 6]
 intro bo h
 refine AW.skip ?_
 exact lg ⟨al, h, I, I⟩ [0, 1, 2, 3, 4, 5, 6]
 rintro s ob ⟨ac, h, rfl, rfl⟩
 unfold L.zxvu.J8 at h
 obtain ⟨dk, br, h⟩ := ob_some h
 refine AW.region (AO.r 7 [.o 3 6, .o 5 6] I ⟨I, I, J⟩ (AO.p (Yp.buildP (l := [.V (n : Int), .v (.bool (decide (u.From > u.To)))]) Try.bld60 I) I (AO.act [] I (AX.lt 2 (([(⟨(n : Int), decide (u.From > u.To)⟩ : Hop)] : List Hop).map Hop.row) (AO.act [5] I (AX.ap 5 I br (fun bs => (AO.q 1 I (AO.nil (AW.region (AO.r 2 [.k 0 (n + 1 : Nat)] I ⟨cast_wr bg ab, J⟩ ?_)))))))))))
 obtain rfl := oi h
 refine AO.nil ?_
 exact lg ⟨S, bs, I, I⟩ [0, 1, 2, 3, 4, 5]
 rintro t s ob ⟨H, E, rfl, rfl⟩ he
 subst he
 have h := bd
 have bu : decide (((b.1.Segments.length : Nat) : Int) < (b.1.Segments.length : Int)) = false := by simp
 refine AW.z I (AW.seqG (fun dl dm => (AW.condK (v := false) I bu (AW.exit ?_))))
 exact lg ⟨(t.1, t.2), H, E, h, I, I⟩ [0, 1, 2, 3, 4, 5]
 rintro s ob ⟨g, i, G, h, rfl, rfl⟩
 unfold L.zxvu.J2 at h
 refine AW.seqG (fun dn bv => ?_)
 obtain ⟨B, bw, h⟩ := ob_some h
 refine AW.region (AO.r 2 [.o 1 1] I ⟨I, J⟩ (AO.act [0] I (AX.cg [0] (L.zbhc_ok w _ _ _ _ bw) ?_)))
 rintro _ _ _ - ⟨U, rfl, rfl, rfl⟩
 refine AO.q 1 I (AO.nil ?_)
 subst bv
 refine AW.z I (AW.cutX (fun s ob => ∃ (M : List Piece) (O : Value), L.zxvu.J3 b a g B M = some r ∧ s = [(14, .v O)] ∧ ob = [.arr j 30 6 1 [Network.row b.1], .us e 3 1 (([a.1, wr (0 - a.1)] : List Int).map rI), .arr A 37 3 1 [[.v i, .v e, .N]], .us i 3 1 (g.1.map rI), .us U 44 1 (B.1.map (rL 2 Piece.row)), .us O 46 2 (M.map Piece.row)]) [(4, _), (5, _), (6, _), (9, _), (13, _)] ⟨I, I, I, I, I, J⟩ ?_ ?_)
 refine AW.seqG (fun dp bx => (AW.region (AO.q 1 I (AO.d (Yd.lenUM 5 I I I I) I (AO.q 2 I (AO.nil ?_))))))
 subst bx
 refine AW.block (AW.ghost (Ghost.nilU 46 2) ?_)
 obtain ⟨dq, b0, b1⟩ := ob_some h
 clear h
 refine AW.loopX b0 [(4, _), (5, _), (6, _), (9, _), (10, _), (13, _)] ⟨I, I, I, I, I, I, J⟩ (fun (P : (List Piece) × Int) s ob => ∃ (W : Value), s = [(14, .v W), (15, .V P.2)] ∧ ob = [.arr j 30 6 1 [Network.row b.1], .us e 3 1 (([a.1, wr (0 - a.1)] : List Int).map rI), .arr A 37 3 1 [[.v i, .v e, .N]], .us i 3 1 (g.1.map rI), .us G 60 2 (g.2.map Hop.row), .us U 44 1 (B.1.map (rL 2 Piece.row)), .us W 46 2 (P.1.map Piece.row)]) ⟨(.slice none 0 0), I, I⟩ ⟨I, I, J⟩ ⟨[1, 2, 3, 4, 5, 6, 7], I, by decide⟩ ?_
 rintro P b2 s ob ⟨W, rfl, rfl⟩ h b3
 unfold L.zxvu.B5 at h
 refine AW.seqG (fun dr b4 => (AW.z I (AW.ch h I ?_ ?_)))
 intro b6 h
 refine AW.skip ?_
 subst b4
 refine AW.cutX (fun s ob => ∃ (ae : List Piece) (X : Value), L.zxvu.J6 P ae = some b2 ∧ s = [(14, .v X)] ∧ ob = [.arr j 30 6 1 [Network.row b.1], .us e 3 1 (([a.1, wr (0 - a.1)] : List Int).map rI), .arr A 37 3 1 [[.v i, .v e, .N]], .us i 3 1 (g.1.map rI), .us G 60 2 (g.2.map Hop.row), .us U 44 1 (B.1.map (rL 2 Piece.row)), .us X 46 2 (ae.map Piece.row)]) [(4, _), (5, _), (6, _), (9, _), (10, _), (13, _), (15, _)] ⟨I, I, I, I, I, I, I, J⟩ ?_ ?_
 refine AW.block (AW.seqG (fun ds b7 => ?_))
 obtain ⟨af, b8, h⟩ := ob_some h
 obtain ⟨ca, an⟩ := ix_some b8
 refine AW.region (AO.q 2 I (AO.d (Yd.indexU 4 (m := af.1) I I I I I I I ca (map_get an)) I (AO.q 1 I (AO.d (Yd.loadU 4 af.1 1 I I I (map_get an) I (y := .v (.bool af.2.Back)) I) I (AO.nil ?_)))))
 subst b7
 refine AW.ch h I ?_ ?_
 intro cb h
 obtain ⟨ag, cc, h⟩ := ob_some h
 obtain ⟨cd, ao⟩ := ix_some cc
 obtain ⟨ce, cf, h⟩ := ob_some h
 refine AW.region (AO.q 3 I (AO.d (Yd.indexU 5 (m := ag.1) I I I I I I I cd (map_get ao)) I (AO.d (Yd.loadU 5 ag.1 0 I I I (map_get ao) I (y := .list 2 (ag.2.map Piece.row)) I) I (AO.act [6] I (AX.ap 6 I cf (fun ci => (AO.q 1 I (AO.nil ?_))))))))
 exact lg ⟨ce, ci, h, I, I⟩ [0, 1, 2, 3, 4, 5, 6]
 intro cb h
 obtain ⟨ah, cj, h⟩ := ob_some h
 obtain ⟨ck, aq⟩ := ix_some cj
 obtain ⟨du, cl, h⟩ := ob_some h
 obtain ⟨cm, ar, h⟩ := ob_some h
 refine AW.region (AO.q 3 I (AO.d (Yd.indexU 5 (m := ah.1) I I I I I I I ck (map_get aq)) I (AO.d (Yd.loadU 5 ah.1 0 I I I (map_get aq) I (y := .list 2 (ah.2.map Piece.row)) I) I (AO.act [] I (AX.call0 I I I (L.zyjz_ok _ _ cl) dS ?_)))))
 rintro _ _ ⟨dv, rfl, rfl⟩
 refine AO.act [6] I (AX.appendU 6 I I I I I I I I I (AppSrc.own 7 I I) (app_len (app_some ar).1) (app_map (app_some ar).2) dS (fun cn => (AO.q 1 I (AO.nil ?_))))
 exact lg ⟨cm, cn, h, I, I⟩ [0, 1, 2, 3, 4, 5, 6]
 rintro s ob ⟨ae, X, h, rfl, rfl⟩
 unfold L.zxvu.J6 at h
 refine AW.region (AO.q 3 I ?_)
 obtain rfl := oi h
 refine AO.nil ?_
 exact ⟨_, _, _, I, ⟨X, I, I⟩, ⟨I, I, I, I, I, I, I, I, J⟩, [0, 1, 2, 3, 4, 5, 6], I, by decide⟩
 intro b6 h
 obtain rfl := b3 _ (oi h).symm
 replace h := b1
 refine AW.exit ?_
 exact lg ⟨P.1, W, h, I, I⟩ [0, 1, 2, 3, 5, 6]
 rintro s ob ⟨M, O, h, rfl, rfl⟩
 unfold L.zxvu.J3 at h
 refine AW.seqG (fun dw co => ?_)
 obtain ⟨au, cp, h⟩ := ob_some h
 refine AW.tr [.f 2 (.V au)] I ⟨Yp.yd (Yp.binI (c := au) I I (quo_some cp)), J⟩ ?_
 subst co
 refine AW.seqG (fun dx cq => ?_)
 obtain ⟨Y, cr, h⟩ := ob_some h
 refine AW.region (AO.r 3 [.o 0 0, .o 2 2] I ⟨I, I, J⟩ (AO.act [] I (AX.lt 1 (([9, 0] : List Int).map rI) (AO.q 1 I (AO.ghost (Ghost.freeze [1, 3, 4] (K := [.us e 3 1 (([a.1, wr (0 - a.1)] : List Int).map rI), .us i 3 1 (g.1.map rI), .us U 44 1 (B.1.map (rL 2 Piece.row))]) I [(13, .list 1 (B.1.map (rL 2 Piece.row))), (118, .list 1 (B.1.map (rL 2 Piece.row))), (119, .agg [.list 1 (g.1.map rI), .list 1 (([a.1, wr (0 - a.1)] : List Int).map rI), .list 1 ([].map rB)])] ⟨⟨_, I, .us 2 I⟩, ⟨_, I, .us 2 I⟩, ⟨_, I, .agg (.cons (.us 1 I) (.cons (.us 0 I) (.cons (.nil _) (.rest _))))⟩, J⟩ (ob' := [.arr j 30 6 1 [Network.row b.1], .arr A 37 3 1 [[.list 1 (g.1.map rI), .list 1 (([a.1, wr (0 - a.1)] : List Int).map rI), .N]], .us O 46 2 (M.map Piece.row)]) (.cons (.same _) (.cons (.arr (.cons (.us 1 I) (.cons (.us 0 I) (.rest _)))) (.rest _)))) (AO.act [] I (AX.call0 I I I (L.zctt_ok _ _ _ _ _ _ cr) dS ?_)))))))
 rintro _ _ ⟨dy, rfl, rfl⟩
 refine AO.q 7 I (AO.nil ?_)
 subst cq
 refine AW.seqG (fun dz ct => (AW.z I (AW.ch h I ?_ ?_)))
 intro cu h
 refine AW.seq ?_
 obtain ⟨d0, cv, h⟩ := ob_some h
 refine AW.region (AO.c (L.zdqe_ok  _ cv) (AO.q 1 I (AO.nil (AW.ghost g0 ?_))))
 obtain rfl := oi h
 exact AW.ret pr
 intro cu h
 refine AW.skip ?_
 subst ct
 refine AW.seqG (fun d1 cw => (AW.cutX (fun s ob => s = [(135, .v (.bool ((Y.2.2 != 0) || ((Y.2.1.length : Int) != 2))))] ∧ ob = [.us O 46 2 (M.map Piece.row)]) [(5, _), (14, _), (16, _), (18, _)] ⟨I, I, I, I, J⟩ ?_ ?_))
 refine AW.region (AO.q 3 I ?_)
 rcases bt ((Y.2.2 != 0)) with Q | Q
 refine AO.known 131 I Q (AO.q 4 I (AO.nil ?_))
 exact lf ⟨I, I⟩ ⟨(get_b (by simp only [Q, bz])), I, I, I, I, J⟩ [2] I
 refine AO.known 131 I Q (AO.r 4 [.l 1 (Y.2.1.length : Int)] I ⟨len_m, J⟩ (AO.nil ?_))
 exact lf ⟨I, I⟩ ⟨(get_b (by simp only [Q, bz])), I, I, I, I, J⟩ [2] I
 rintro s ob ⟨rfl, rfl⟩
 refine AW.ch h I ?_ ?_
 intro cx h
 refine AW.z I (AW.ghost g0 ?_)
 obtain rfl := oi h
 exact AW.ret pr
 intro cx h
 refine AW.skip ?_
 subst cw
 refine AW.seq ?_
 obtain ⟨av, cy, h⟩ := ob_some h
 obtain ⟨d2, cz, h⟩ := ob_some h
 refine AW.region (AO.q 3 I (AO.p (Yp.buildP (l := [.V 9, .V (wr (2 * a.1))]) Try.bld46 I) I (AO.act [] I (AX.lt 2 (([(⟨9, wr (2 * a.1)⟩ : Piece)] : List Piece).map Piece.row) (AO.act [0] I (AX.ap 0 I cy (fun c1 => (AO.q 3 I (AO.ghost (Ghost.freeze [0] (K := [.us c1 46 2 (av.map Piece.row)]) I [(142, .list 2 (av.map Piece.row))] ⟨⟨_, I, .us 0 I⟩, J⟩ (ob' := []) (.rest _)) (AO.act [] I (AX.call0 I I I (L.zewb_ok _ _ _ cz) dS ?_)))))))))))
 rintro _ _ ⟨d3, d4, rfl, rfl⟩
 refine AO.q 5 I (AO.nil (AW.cutX (fun s ob => ∃ (ai : Bool), L.zxvu.J4 ai = some r ∧ s = [(2, .v (.bool ai))] ∧ ob = []) [] J ?_ ?_))
 obtain ⟨Z, c2, h⟩ := ob_some h
 obtain ⟨aw, ax⟩ := ix_some c2
 obtain ⟨c3, ay, h⟩ := ob_some h
 rcases bt (c3) with R | R
 replace h := ife_t R h
 obtain ⟨c4, c5, h⟩ := ob_some h
 refine AW.region (AO.r 4 [.x 1 Z.1 ((rL 2 Piece.row) Z.2)] I ⟨⟨aw, map_get ax⟩, J⟩ (AO.act [] I (AX.callL I (.refl _) I I (.cons (.refl _) (.cons (.us 0 I) (.rest _))) I (L.zjsx_ok _ _ _ ay) dS (by rintro _ _ ⟨rfl, _⟩; rfl) ?_)))
 rintro _ ⟨_, rfl, -⟩
 refine AO.q 1 I (AO.known 154 I R (AO.gt I I I (AO.c (L.zdqe_ok  _ c5) (AO.q 2 I (AO.nil ?_)))))
 exact lg ⟨c4, h, I, I⟩ []
 replace h := ife_f R h
 refine AW.region (AO.r 4 [.x 1 Z.1 ((rL 2 Piece.row) Z.2)] I ⟨⟨aw, map_get ax⟩, J⟩ (AO.act [] I (AX.callL I (.refl _) I I (.cons (.refl _) (.cons (.us 0 I) (.rest _))) I (L.zjsx_ok _ _ _ ay) dS (by rintro _ _ ⟨rfl, _⟩; rfl) ?_)))
 rintro _ ⟨_, rfl, -⟩
 refine AO.q 1 I (AO.known 154 I R (AO.q 3 I (AO.nil ?_)))
 exact lg ⟨false, h, I, I⟩ []
 rintro s ob ⟨ai, h, rfl, rfl⟩
 unfold L.zxvu.J4 at h
 obtain rfl := oi h
 exact AW.ret pr
end Go.Proofs.Ytligpmmgdjipbaa
