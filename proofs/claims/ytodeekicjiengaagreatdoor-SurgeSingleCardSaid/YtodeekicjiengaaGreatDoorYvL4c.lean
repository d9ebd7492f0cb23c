/- Walks that show what functions of the program compute; printed by a program of ours. No condition. -/
import Derived.Test.YtodeekicjiengaaGreatDoorYvL4
set_option maxRecDepth 100000
namespace Go.Proofs.YtodeekicjiengaaGreatDoor
open Go.Aw
set_option linter.unusedVariables false
set_option linter.unusedSimpArgs false
set_option maxHeartbeats 4000000
theorem gZ (a : Nat) (aq : KS) (r : Nw × KS) (h : Vt aq = some r) : ACalls Aj 7 [.v (.pointer (some ⟨a, 0, none⟩))] [O2 a [Cp aq]] (D6 1 fun x os new => x = .agg (Ab r.1) ∧ os = [O2 a [Cp r.2]] ∧ new = []) := by
 refine Ad Tryz.func7 I I I fun C hC => ?_
 refine Aa fun y1 a4 => sH (sJ [] I (sS W3 6 fun A => sI ?_))
 subst a4
 refine Aa fun y3 a5 => ?_
 obtain ⟨j, a6, h⟩ := Ac h
 obtain ⟨k, a7, h⟩ := Ac h
 refine sH (Ag 1 I (sJ [] I (sR 1 (([(-100000), 0, 50000] : Li).map rI) (sJ [0] I (A1 [0] (Al a _ _ _ a6) ?_)))))
 refine Ag 1 I (sJ [] I (sR 1 (([0, 1, 5, 100] : Li).map rI) (sJ [0] I (A1 [0] (Al a _ _ _ a7) ?_))))
 refine sT (Au (l := [.N, .N, .N, .N, .V j.1, .V k.1]) H7 I) I (sJ [] I (sS W3 6 fun B => sJ [2] I (A3 2 0 0 [[.N, .N, .N, .N, .V j.1, .V k.1]] I (sI ?_))))
 subst a5
 refine Ai (fun s ob => ∃ (n : Li × Int × (List Bt)) (i : Value), Vt.J1 j k n = some r ∧ s = [] ∧ ob = [O2 a [[Q0 n.1, .V n.2.1]], O0 A [W3], O0 B [[.v i, .N, .N, .N, .V j.1, .V k.1]], U3 i n.2.2]) [(0, _), (2, _), (3, _)] J3 ?_ ?_
 refine Aa fun cw a8 => ?_
 obtain ⟨al, a9, h⟩ := Ac h
 refine sH (Ag 1 I (sJ [0] I (A1 [0] (Ea a _ _ _ _ a9) ?_)))
 refine Ag 1 I (sI ?_)
 subst a8
 refine sM (sP (Bv 9 1) ?_)
 obtain ⟨cx, ba, bb⟩ := Ac h
 clear h
 refine Cs ba [(0, _), (2, _), (3, _)] J3 (fun (ab : (List Bt) × Int) s ob => ∃ (ac : Value), s = [(4, .V ab.2)] ∧ ob = [O2 a [Cp al.2], O0 A [W3], O0 B [[.v ac, .N, .N, .N, .V j.1, .V k.1]], U3 ac ab.1]) ⟨(.slice none 0 0), I2⟩ ⟨I, J⟩ ⟨[0, 1, 2, 3], I, by decide⟩ ?_
 rintro ab cy s ob ⟨ac, rfl, rfl⟩ h bc
 refine Aa fun cz bd => Ah I (Ar h I ?_ ?_)
 intro be h
 refine sL ?_
 subst bd
 refine sN (sM ?_)
 obtain ⟨bf, bg, h⟩ := Ac h
 obtain ⟨c1, bh, h⟩ := Ac h
 refine E2 3 I fun bi => By (sl 5 0 (.act 5 (.act 6 (.act 7 (.still 8 (.drop 9 .nil)))))) [2] [_] I (B8 4 [.o 1 0, .o 3 0] I J2 (sY I (E1 I I I bi) I (Dp I (C3 _ _ _ bg) (sK [] I I I (sR 1 (([bf] : List Bt).map rS) (sK [3] I I I (C7 3 I bh fun ar => Bg 1 I (sU 3 I fun bj => tB [2] I I I (sZ 2 0 0 (es' := [[.v ar, .N, .N, .N, .V j.1, .V k.1]]) I I I I I I (A7 bj) I (Ca I) I I (Ap (sI (sH ?_))))))))))))
 refine Ag 3 I ?_
 obtain rfl := oi h
 exact sI ⟨_, _, _, I, ⟨ar, I2⟩, J4, [0, 1, 2, 3], I, by decide⟩
 intro be h
 obtain rfl := bc _ (oi h).symm
 replace h := bb
 refine sQ ?_
 exact lg ⟨(al.2.L_, al.2.At, ab.1), ac, h, I2⟩ [0, 1, 2, 3]
 rintro s ob ⟨n, i, h, rfl, rfl⟩
 unfold Vt.J1 at h
 refine Aa fun c2 bk => sH (An 2 [.o 1 2] I J1 (sV (Cz 3 I I I I) I (Ag 2 I (sI ?_))))
 subst bk
 refine Ai (fun s ob => ∃ (X : Li × Int × (List Sg)) (ad : Value), Vt.J2 j k n X = some r ∧ s = [] ∧ ob = [O2 a [[Q0 X.1, .V X.2.1]], O0 A [W3], O0 B [[.v i, .v ad, .N, .N, .V j.1, .V k.1]], U3 i n.2.2, U5 ad X.2.2]) [(0, _), (2, _), (3, _), (5, _)] J4 ?_ ?_
 refine Ah I (sM (sP (Bv 64 7) ?_))
 obtain ⟨c3, bl, bm⟩ := Ac h
 clear h
 refine Cs bl [(0, _), (2, _), (3, _), (5, _)] J4 (fun (F : Li × Int × (List Sg) × Int) s ob => ∃ (ae : Value), s = [(6, .V F.2.2.2)] ∧ ob = [O2 a [[Q0 F.1, .V F.2.1]], O0 A [W3], O0 B [[.v i, .v ae, .N, .N, .V j.1, .V k.1]], U3 i n.2.2, U5 ae F.2.2.1]) ⟨(.slice none 0 0), I2⟩ ⟨I, J⟩ ⟨[0, 1, 2, 3, 4], I, by decide⟩ ?_
 rintro F c4 s ob ⟨ae, rfl, rfl⟩ h bn
 refine Aa fun c5 bo => Ah I (Ar h I ?_ ?_)
 intro bp h
 refine sL ?_
 subst bo
 refine sN (sM ?_)
 obtain ⟨bq, br, h⟩ := Ac h
 obtain ⟨c6, bs, h⟩ := Ac h
 refine E2 4 I fun bu => By (sl 9 0 (.act 9 (.act 10 (.act 11 (.still 12 (.drop 13 .nil)))))) [2] [_] I (B8 5 [.o 1 0, .o 4 0] I J2 (sY I (E1 I I I bu) I (Bg 3 I (sK [0] I I I (A1 [0] (Tw a _ _ _ _ _ br) ?_)))))
 refine sK [] I I I (sR 7 (([bq.1] : List Sg).map Ak) (sK [4] I I I (C7 4 I bs fun au => Bg 1 I (sU 4 I fun bv => tB [2] I I I (sZ 2 0 1 (es' := [[.v i, .v au, .N, .N, .V j.1, .V k.1]]) I I I I I I (A7 bv) I (Ca I) I I (Ap (sI (sH (Ag 3 I ?_)))))))))
 obtain rfl := oi h
 exact sI ⟨_, _, _, I, ⟨au, I2⟩, J5, [0, 1, 2, 3, 4], I, by decide⟩
 intro bp h
 obtain rfl := bn _ (oi h).symm
 replace h := bm
 refine sQ ?_
 exact lg ⟨(F.1, F.2.1, F.2.2.1), ae, h, I2⟩ [0, 1, 2, 3, 4]
 rintro s ob ⟨X, ad, h, rfl, rfl⟩
 unfold Vt.J2 at h
 refine Ai (fun s ob => ∃ (y : Li × Int × (List Sg)) (t : Value), Vt.J3 j k n y = some r ∧ s = [] ∧ ob = [O2 a [[Q0 y.1, .V y.2.1]], O0 A [W3], O0 B [[.v i, .v t, .N, .N, .V j.1, .V k.1]], U3 i n.2.2, U5 t y.2.2]) [(0, _), (2, _), (3, _), (5, _)] J4 ?_ ?_
 refine Aa fun c7 bw => ?_
 obtain ⟨c8, bx, h⟩ := Ac h
 refine sH (Ag 1 I (sJ [0] I (A1 [0] (Di a _ _ _ bx) ?_)))
 refine Ag 1 I (sI ?_)
 subst bw
 refine sM ?_
 obtain ⟨c9, bz, b1⟩ := Ac h
 clear h
 refine Cs bz [(0, _), (2, _), (3, _), (5, _)] J4 (fun (G : Li × Int × (List Sg) × Int) s ob => ∃ (af : Value), s = [(7, .V G.2.2.2)] ∧ ob = [O2 a [[Q0 G.1, .V G.2.1]], O0 A [W3], O0 B [[.v i, .v af, .N, .N, .V j.1, .V k.1]], U3 i n.2.2, U5 af G.2.2.1]) ⟨ad, I2⟩ ⟨I, J⟩ ⟨[0, 1, 2, 3, 4], I, by decide⟩ ?_
 rintro G da s ob ⟨af, rfl, rfl⟩ h b3
 refine Aa fun db b4 => Ah I (Ar h I ?_ ?_)
 intro b5 h
 refine sL ?_
 subst b4
 refine sN (sM (Aa fun dc b6 => ?_))
 obtain ⟨dd, b7, h⟩ := Ac h
 refine sH (Ag 2 I (sJ [0] I (A1 [0] (Di a _ _ _ b7) ?_)))
 refine Ag 1 I (sI ?_)
 subst b6
 obtain ⟨de, b8, h⟩ := Ac h
 obtain ⟨b9, ca, h⟩ := Ac h
 obtain ⟨df, cb, h⟩ := Ac h
 refine E2 4 I fun cc => By (sl 11 0 (.act 11 (.act 12 (.act 13 (.act 14 (.still 15 (.drop 16 .nil))))))) [2] [_] I (B8 5 [.o 1 0, .o 4 0] I J2 (sY I (E1 I I I cc) I (Bg 5 I (sK [0] I I I (A1 [0] (Ea a _ _ _ _ b8) ?_)))))
 refine sK [0] I I I (A1 [0] (Tw a _ _ _ _ _ ca) ?_)
 refine sK [] I I I (sR 7 (([b9.1] : List Sg).map Ak) (sK [4] I I I (C7 4 I cb fun av => Bg 1 I (sU 4 I fun cd => tB [2] I I I (sZ 2 0 1 (es' := [[.v i, .v av, .N, .N, .V j.1, .V k.1]]) I I I I I I (A7 cd) I (Ca I) I I (Ap (sI (sH (Ag 3 I ?_)))))))))
 obtain rfl := oi h
 exact sI ⟨_, _, _, I, ⟨av, I2⟩, J5, [0, 1, 2, 3, 4], I, by decide⟩
 intro b5 h
 obtain rfl := b3 _ (oi h).symm
 replace h := b1
 refine sQ ?_
 exact lg ⟨(G.1, G.2.1, G.2.2.1), af, h, I2⟩ [0, 1, 2, 3, 4]
 rintro s ob ⟨y, t, h, rfl, rfl⟩
 unfold Vt.J3 at h
 refine Ai (fun s ob => ∃ (u : Li × Int × (List Port) × (List Sn)) (R : Value) (S : Value), Vt.J4 j k n y u = some r ∧ s = [] ∧ ob = [O2 a [[Q0 u.1, .V u.2.1]], O0 A [W3], O0 B [[.v i, .v t, .v R, .v S, .V j.1, .V k.1]], U3 i n.2.2, U5 t y.2.2, pN R u.2.2.1, pM S u.2.2.2]) [(2, _), (3, _)] J2 ?_ ?_
 refine Ah I (sM (sP (Bv 68 3) (sP (Bv 70 5) ?_)))
 obtain ⟨dg, ce, cf⟩ := Ac h
 clear h
 refine Cs ce [(0, _), (2, _), (3, _), (5, _)] J4 (fun (g : Li × Int × (List Port) × (List Sn) × Int) s ob => ∃ (O : Value) (D : Value), s = [(9, .V g.2.2.2.2)] ∧ ob = [O2 a [[Q0 g.1, .V g.2.1]], O0 A [W3], O0 B [[.v i, .v t, .v O, .v D, .V j.1, .V k.1]], U3 i n.2.2, U5 t y.2.2, pN O g.2.2.1, pM D g.2.2.2.1]) ⟨(.slice none 0 0), (.slice none 0 0), I2⟩ ⟨I, J⟩ ⟨[0, 1, 2, 3, 4, 5, 6], I, by decide⟩ ?_
 rintro g ag s ob ⟨O, D, rfl, rfl⟩ h cg
 refine Aa fun dh ci => Ah I (Ar h I ?_ ?_)
 intro cj h
 refine sL ?_
 subst ci
 refine Ai (fun s ob => ∃ (U : Li × Int × (List Port) × (List Sn)) (ah : Value) (ai : Value), Vt.J6 g U = some ag ∧ s = [] ∧ ob = [O2 a [[Q0 U.1, .V U.2.1]], O0 A [W3], O0 B [[.v i, .v t, .v ah, .v ai, .V j.1, .V k.1]], U3 i n.2.2, U5 t y.2.2, pN ah U.2.2.1, pM ai U.2.2.2]) [(0, _), (2, _), (3, _), (5, _), (9, _)] J5 ?_ ?_
 refine sM (Ai (fun s ob => ∃ (E : Li × Int × (List Port)) (H : Value), Vt.J7 n g E = some ag ∧ s = [] ∧ ob = [O2 a [[Q0 E.1, .V E.2.1]], O0 A [W3], O0 B [[.v i, .v t, .v H, .v D, .V j.1, .V k.1]], U3 i n.2.2, U5 t y.2.2, pN H E.2.2, pM D g.2.2.2.1]) [(0, _), (2, _), (3, _), (5, _), (9, _)] J5 ?_ ?_)
 refine Ai (fun s ob => ∃ (P : Li × Int × Bool), Vt.J9 n g P = some ag ∧ s = [(95, .v (.bool P.2.2))] ∧ ob = [O2 a [[Q0 P.1, .V P.2.1]], O0 A [W3], O0 B [[.v i, .v t, .v O, .v D, .V j.1, .V k.1]], U3 i n.2.2, U5 t y.2.2, pN O g.2.2.1, pM D g.2.2.2.1]) [(0, _), (2, _), (3, _), (5, _), (9, _)] J5 ?_ ?_
 rcases bt ((g.2.2.2.2 == 0)) with W | W
 replace h := Bq W h
 refine sH (Ag 3 I (Af 86 I W (Ag 9 I (sI ?_))))
 exact lg ⟨(g.1, g.2.1, true), h, I2⟩ [0, 1, 2, 3, 4, 5, 6]
 replace h := Br W h
 rcases bt ((g.2.2.2.2 == (wr ((n.2.2.length : Int) - 1)))) with Y | Y
 replace h := Bq Y h
 refine sH (Ag 3 I (Af 86 I W (Ag 5 I (Af 91 I Y (Ag 4 I (sI ?_))))))
 exact lg ⟨(g.1, g.2.1, true), h, I2⟩ [0, 1, 2, 3, 4, 5, 6]
 replace h := Br Y h
 obtain ⟨am, ck, h⟩ := Ac h
 refine sH (Ag 3 I (Af 86 I W (Ag 5 I (Af 91 I Y (Ag 1 I (Cd I I I (sJ [0] I (A1 [0] (Di a _ _ _ ck) ?_))))))))
 refine Ag 2 I (sI ?_)
 exact lg ⟨(am.2.L_, am.2.At, (am.1 == 0)), h, I2⟩ [0, 1, 2, 3, 4, 5, 6]
 rintro s ob ⟨P, h, rfl, rfl⟩
 refine Ar h I ?_ ?_
 intro cl h
 obtain ⟨aj, aw, h⟩ := Ac h
 obtain ⟨M, ax, h⟩ := Ac h
 obtain ⟨ay, az, h⟩ := Ac h
 refine E2 5 I fun cm => By (sl 5 0 (.still 6 (.still 7 (.two 5 8 (.act 8 (.act 9 (.still 10 (.act 11 (.act 12 (.still 13 (.drop 14 .nil))))))) (.act 5 (.act 9 (.still 10 (.act 11 (.act 12 (.still 13 (.drop 14 .nil))))))))))) [2] [_] I (B8 4 [.o 1 0, .o 3 0] I J2 (sY I (E1 I I I cm) I (Bg 2 I (sW ?_ ?_))))
 refine Dp I (C3 _ _ _ aw) (sK [] I I I (sR 1 (([300000, 1000000, 0, 5000000] : Li).map rI) (sK [0] I I I (A1 [0] (Al a _ _ _ ax) ?_))))
 refine tC I (Au (l := [.v (.string aj), .V g.2.2.2.2, .V M.1]) H6 I) I (sK [] I I I (sR 3 (([(⟨aj, g.2.2.2.2, M.1⟩ : Port)] : List Port).map Cb) (sK [5] I I I (C7 5 I az fun Z => Bg 1 I (sU 5 I fun an => tB [2] I I I (sZ 2 0 2 (es' := [[.v i, .v t, .v Z, .v D, .V j.1, .V k.1]]) I I I I I I (A7 an) I (Ca I) I I (Ap (sI ?_))))))))
 exact lg ⟨(M.2.L_, M.2.At, ay), Z, h, I2⟩ [0, 1, 2, 3, 4, 5, 6]
 refine sK [] I I I (sR 1 (([300000, 1000000, 0, 5000000] : Li).map rI) (Dp I (C3 _ _ _ aw) (sK [0] I I I (A1 [0] (Al a _ _ _ ax) ?_))))
 refine tC I (Au (l := [.v (.string aj), .V g.2.2.2.2, .V M.1]) H6 I) I (sK [] I I I (sR 3 (([(⟨aj, g.2.2.2.2, M.1⟩ : Port)] : List Port).map Cb) (sK [5] I I I (C7 5 I az fun Z => Bg 1 I (sU 5 I fun an => tB [2] I I I (sZ 2 0 2 (es' := [[.v i, .v t, .v Z, .v D, .V j.1, .V k.1]]) I I I I I I (A7 an) I (Ca I) I I (Ap (sI ?_))))))))
 exact lg ⟨(M.2.L_, M.2.At, ay), Z, h, I2⟩ [0, 1, 2, 3, 4, 5, 6]
 intro cl h
 refine sL ?_
 exact lg ⟨(P.1, P.2.1, g.2.2.1), O, h, I2⟩ [0, 1, 2, 3, 4, 5, 6]
 rintro s ob ⟨E, H, h, rfl, rfl⟩
 unfold Vt.J7 at h
 refine Ai (fun s ob => ∃ (Q : Li × Int × Bool), Vt.J8 g E Q = some ag ∧ s = [(117, .v (.bool Q.2.2))] ∧ ob = [O2 a [[Q0 Q.1, .V Q.2.1]], O0 A [W3], O0 B [[.v i, .v t, .v H, .v D, .V j.1, .V k.1]], U3 i n.2.2, U5 t y.2.2, pN H E.2.2, pM D g.2.2.2.1]) [(0, _), (2, _), (3, _), (5, _), (9, _)] J5 ?_ ?_
 rcases bt (decide (g.2.2.2.2 < (wr ((n.2.2.length : Int) - 1)))) with aa | aa
 replace h := Bq aa h
 obtain ⟨ao, cn, h⟩ := Ac h
 refine sH (Ag 4 I (Af 113 I aa (Ag 1 I (Cd I I I (sJ [0] I (A1 [0] (Di a _ _ _ cn) ?_))))))
 refine Ag 2 I (sI ?_)
 exact lg ⟨(ao.2.L_, ao.2.At, (ao.1 == 0)), h, I2⟩ [0, 1, 2, 3, 4, 5, 6]
 replace h := Br aa h
 refine sH (Ag 4 I (Af 113 I aa (Ag 4 I (sI ?_))))
 exact lg ⟨(E.1, E.2.1, false), h, I2⟩ [0, 1, 2, 3, 4, 5, 6]
 rintro s ob ⟨Q, h, rfl, rfl⟩
 refine Ar h I ?_ ?_
 intro co h
 obtain ⟨a0, w, h⟩ := Ac h
 obtain ⟨a1, f, h⟩ := Ac h
 obtain ⟨a2, b, h⟩ := Ac h
 obtain ⟨ak, e, h⟩ := Ac h
 obtain ⟨cp, cq, h⟩ := Ac h
 refine E2 6 I fun cr => By (sl 5 0 (.still 6 (.still 7 (.still 10 (.still 13 (.four 5 8 11 14 (.three 8 11 14 (.three 9 11 14 (.two 11 14 (.two 12 14 (.act 14 (.act 15 (.still 16 (.act 17 (.act 18 (.still 19 (.drop 20 .nil))))))) (.act 12 (.act 15 (.still 16 (.act 17 (.act 18 (.still 19 (.drop 20 .nil)))))))) (.act 11 (.act 12 (.act 15 (.still 16 (.act 17 (.act 18 (.still 19 (.drop 20 .nil))))))))) (.two 9 14 (.two 12 14 (.act 14 (.act 15 (.still 16 (.act 17 (.act 18 (.still 19 (.drop 20 .nil))))))) (.act 12 (.act 15 (.still 16 (.act 17 (.act 18 (.still 19 (.drop 20 .nil)))))))) (.act 9 (.act 12 (.act 15 (.still 16 (.act 17 (.act 18 (.still 19 (.drop 20 .nil))))))))) (.two 9 11 (.act 11 (.act 12 (.act 15 (.still 16 (.act 17 (.act 18 (.still 19 (.drop 20 .nil)))))))) (.act 9 (.act 12 (.act 15 (.still 16 (.act 17 (.act 18 (.still 19 (.drop 20 .nil)))))))))) (.two 8 14 (.two 9 14 (.two 12 14 (.act 14 (.act 15 (.still 16 (.act 17 (.act 18 (.still 19 (.drop 20 .nil))))))) (.act 12 (.act 15 (.still 16 (.act 17 (.act 18 (.still 19 (.drop 20 .nil)))))))) (.act 9 (.act 12 (.act 15 (.still 16 (.act 17 (.act 18 (.still 19 (.drop 20 .nil))))))))) (.act 8 (.act 9 (.act 12 (.act 15 (.still 16 (.act 17 (.act 18 (.still 19 (.drop 20 .nil)))))))))) (.two 8 11 (.two 9 11 (.act 11 (.act 12 (.act 15 (.still 16 (.act 17 (.act 18 (.still 19 (.drop 20 .nil)))))))) (.act 9 (.act 12 (.act 15 (.still 16 (.act 17 (.act 18 (.still 19 (.drop 20 .nil))))))))) (.act 8 (.act 9 (.act 12 (.act 15 (.still 16 (.act 17 (.act 18 (.still 19 (.drop 20 .nil))))))))))) (.three 5 11 14 (.three 9 11 14 (.two 11 14 (.two 12 14 (.act 14 (.act 15 (.still 16 (.act 17 (.act 18 (.still 19 (.drop 20 .nil))))))) (.act 12 (.act 15 (.still 16 (.act 17 (.act 18 (.still 19 (.drop 20 .nil)))))))) (.act 11 (.act 12 (.act 15 (.still 16 (.act 17 (.act 18 (.still 19 (.drop 20 .nil))))))))) (.two 9 14 (.two 12 14 (.act 14 (.act 15 (.still 16 (.act 17 (.act 18 (.still 19 (.drop 20 .nil))))))) (.act 12 (.act 15 (.still 16 (.act 17 (.act 18 (.still 19 (.drop 20 .nil)))))))) (.act 9 (.act 12 (.act 15 (.still 16 (.act 17 (.act 18 (.still 19 (.drop 20 .nil))))))))) (.two 9 11 (.act 11 (.act 12 (.act 15 (.still 16 (.act 17 (.act 18 (.still 19 (.drop 20 .nil)))))))) (.act 9 (.act 12 (.act 15 (.still 16 (.act 17 (.act 18 (.still 19 (.drop 20 .nil)))))))))) (.two 5 14 (.two 9 14 (.two 12 14 (.act 14 (.act 15 (.still 16 (.act 17 (.act 18 (.still 19 (.drop 20 .nil))))))) (.act 12 (.act 15 (.still 16 (.act 17 (.act 18 (.still 19 (.drop 20 .nil)))))))) (.act 9 (.act 12 (.act 15 (.still 16 (.act 17 (.act 18 (.still 19 (.drop 20 .nil))))))))) (.act 5 (.act 9 (.act 12 (.act 15 (.still 16 (.act 17 (.act 18 (.still 19 (.drop 20 .nil)))))))))) (.two 5 11 (.two 9 11 (.act 11 (.act 12 (.act 15 (.still 16 (.act 17 (.act 18 (.still 19 (.drop 20 .nil)))))))) (.act 9 (.act 12 (.act 15 (.still 16 (.act 17 (.act 18 (.still 19 (.drop 20 .nil))))))))) (.act 5 (.act 9 (.act 12 (.act 15 (.still 16 (.act 17 (.act 18 (.still 19 (.drop 20 .nil))))))))))) (.three 5 8 14 (.two 8 14 (.two 9 14 (.two 12 14 (.act 14 (.act 15 (.still 16 (.act 17 (.act 18 (.still 19 (.drop 20 .nil))))))) (.act 12 (.act 15 (.still 16 (.act 17 (.act 18 (.still 19 (.drop 20 .nil)))))))) (.act 9 (.act 12 (.act 15 (.still 16 (.act 17 (.act 18 (.still 19 (.drop 20 .nil))))))))) (.act 8 (.act 9 (.act 12 (.act 15 (.still 16 (.act 17 (.act 18 (.still 19 (.drop 20 .nil)))))))))) (.two 5 14 (.two 9 14 (.two 12 14 (.act 14 (.act 15 (.still 16 (.act 17 (.act 18 (.still 19 (.drop 20 .nil))))))) (.act 12 (.act 15 (.still 16 (.act 17 (.act 18 (.still 19 (.drop 20 .nil)))))))) (.act 9 (.act 12 (.act 15 (.still 16 (.act 17 (.act 18 (.still 19 (.drop 20 .nil))))))))) (.act 5 (.act 9 (.act 12 (.act 15 (.still 16 (.act 17 (.act 18 (.still 19 (.drop 20 .nil)))))))))) (.two 5 8 (.act 8 (.act 9 (.act 12 (.act 15 (.still 16 (.act 17 (.act 18 (.still 19 (.drop 20 .nil))))))))) (.act 5 (.act 9 (.act 12 (.act 15 (.still 16 (.act 17 (.act 18 (.still 19 (.drop 20 .nil))))))))))) (.three 5 8 11 (.two 8 11 (.two 9 11 (.act 11 (.act 12 (.act 15 (.still 16 (.act 17 (.act 18 (.still 19 (.drop 20 .nil)))))))) (.act 9 (.act 12 (.act 15 (.still 16 (.act 17 (.act 18 (.still 19 (.drop 20 .nil))))))))) (.act 8 (.act 9 (.act 12 (.act 15 (.still 16 (.act 17 (.act 18 (.still 19 (.drop 20 .nil)))))))))) (.two 5 11 (.two 9 11 (.act 11 (.act 12 (.act 15 (.still 16 (.act 17 (.act 18 (.still 19 (.drop 20 .nil)))))))) (.act 9 (.act 12 (.act 15 (.still 16 (.act 17 (.act 18 (.still 19 (.drop 20 .nil))))))))) (.act 5 (.act 9 (.act 12 (.act 15 (.still 16 (.act 17 (.act 18 (.still 19 (.drop 20 .nil)))))))))) (.two 5 8 (.act 8 (.act 9 (.act 12 (.act 15 (.still 16 (.act 17 (.act 18 (.still 19 (.drop 20 .nil))))))))) (.act 5 (.act 9 (.act 12 (.act 15 (.still 16 (.act 17 (.act 18 (.still 19 (.drop 20 .nil))))))))))))))))) [2] [_] I ?_
 refine B8 4 [.o 1 0, .o 3 0] I J2 (sY I (E1 I I I cr) I (Bg 4 I (AP.four ?_ ?_ ?_ ?_)))
 refine Dp I (C3 _ _ _ w) (tF ?_ ?_ ?_)
 refine sK [] I I I (sR 1 (([500000, 2000000, 0] : Li).map rI) (tF ?_ ?_ ?_))
 refine sK [0] I I I (A1 [0] (Al a _ _ _ f) ?_)
 refine sW ?_ ?_
 refine sK [] I I I (sR 1 (([0, 200, 100000] : Li).map rI) (sW ?_ ?_))
 refine sK [0] I I I (A1 [0] (Al a _ _ _ b) ?_)
 refine sK [] I I I (sR 1 (([0, 100000, 400000] : Li).map rI) (sK [0] I I I (A1 [0] (Al a _ _ _ e) ?_)))
 rotate_left
 refine sK [] I I I (sR 1 (([0, 100000, 400000] : Li).map rI) (sK [0] I I I (A1 [0] (Al a _ _ _ b) ?_)))
 refine sK [0] I I I (A1 [0] (Al a _ _ _ e) ?_)
 rotate_left
 refine sK [] I I I (sR 1 (([0, 100000, 400000] : Li).map rI) (sK [] I I I (sR 1 (([0, 200, 100000] : Li).map rI) (sK [0] I I I (A1 [0] (Al a _ _ _ b) ?_)))))
 refine sK [0] I I I (A1 [0] (Al a _ _ _ e) ?_)
 rotate_left
 refine sK [] I I I (sR 1 (([0, 200, 100000] : Li).map rI) (sW ?_ ?_))
 refine sK [0] I I I (A1 [0] (Al a _ _ _ f) ?_)
 refine sW ?_ ?_
 refine sK [0] I I I (A1 [0] (Al a _ _ _ b) ?_)
 refine sK [] I I I (sR 1 (([0, 100000, 400000] : Li).map rI) (sK [0] I I I (A1 [0] (Al a _ _ _ e) ?_)))
 rotate_left
 refine sK [] I I I (sR 1 (([0, 100000, 400000] : Li).map rI) (sK [0] I I I (A1 [0] (Al a _ _ _ b) ?_)))
 refine sK [0] I I I (A1 [0] (Al a _ _ _ e) ?_)
 rotate_left
 refine sK [] I I I (sR 1 (([0, 100000, 400000] : Li).map rI) (sK [0] I I I (A1 [0] (Al a _ _ _ f) ?_)))
 refine sK [0] I I I (A1 [0] (Al a _ _ _ b) ?_)
 refine sK [0] I I I (A1 [0] (Al a _ _ _ e) ?_)
 rotate_left
 refine sK [] I I I (sR 1 (([0, 100000, 400000] : Li).map rI) (sW ?_ ?_))
 refine sK [0] I I I (A1 [0] (Al a _ _ _ f) ?_)
 refine sK [] I I I (sR 1 (([0, 200, 100000] : Li).map rI) (sK [0] I I I (A1 [0] (Al a _ _ _ b) ?_)))
 refine sK [0] I I I (A1 [0] (Al a _ _ _ e) ?_)
 rotate_left
 refine sK [] I I I (sR 1 (([0, 200, 100000] : Li).map rI) (sK [0] I I I (A1 [0] (Al a _ _ _ f) ?_)))
 refine sK [0] I I I (A1 [0] (Al a _ _ _ b) ?_)
 refine sK [0] I I I (A1 [0] (Al a _ _ _ e) ?_)
 rotate_left
 refine sK [] I I I (sR 1 (([0, 200, 100000] : Li).map rI) (sW ?_ ?_))
 refine sK [] I I I (sR 1 (([500000, 2000000, 0] : Li).map rI) (sW ?_ ?_))
 refine sK [0] I I I (A1 [0] (Al a _ _ _ f) ?_)
 refine sW ?_ ?_
 refine sK [0] I I I (A1 [0] (Al a _ _ _ b) ?_)
 refine sK [] I I I (sR 1 (([0, 100000, 400000] : Li).map rI) (sK [0] I I I (A1 [0] (Al a _ _ _ e) ?_)))
 rotate_left
 refine sK [] I I I (sR 1 (([0, 100000, 400000] : Li).map rI) (sK [0] I I I (A1 [0] (Al a _ _ _ b) ?_)))
 refine sK [0] I I I (A1 [0] (Al a _ _ _ e) ?_)
 rotate_left
 refine sK [] I I I (sR 1 (([0, 100000, 400000] : Li).map rI) (sK [0] I I I (A1 [0] (Al a _ _ _ f) ?_)))
 refine sK [0] I I I (A1 [0] (Al a _ _ _ b) ?_)
 refine sK [0] I I I (A1 [0] (Al a _ _ _ e) ?_)
 rotate_left
 refine sK [] I I I (sR 1 (([0, 100000, 400000] : Li).map rI) (sK [] I I I (sR 1 (([500000, 2000000, 0] : Li).map rI) (sK [0] I I I (A1 [0] (Al a _ _ _ f) ?_)))))
 refine sK [0] I I I (A1 [0] (Al a _ _ _ b) ?_)
 refine sK [0] I I I (A1 [0] (Al a _ _ _ e) ?_)
 rotate_left
 refine sK [] I I I (sR 1 (([0, 100000, 400000] : Li).map rI) (sW ?_ ?_))
 refine sK [] I I I (sR 1 (([500000, 2000000, 0] : Li).map rI) (sW ?_ ?_))
 refine sK [0] I I I (A1 [0] (Al a _ _ _ f) ?_)
 refine sK [] I I I (sR 1 (([0, 200, 100000] : Li).map rI) (sK [0] I I I (A1 [0] (Al a _ _ _ b) ?_)))
 refine sK [0] I I I (A1 [0] (Al a _ _ _ e) ?_)
 rotate_left
 refine sK [] I I I (sR 1 (([0, 200, 100000] : Li).map rI) (sK [0] I I I (A1 [0] (Al a _ _ _ f) ?_)))
 refine sK [0] I I I (A1 [0] (Al a _ _ _ b) ?_)
 refine sK [0] I I I (A1 [0] (Al a _ _ _ e) ?_)
 rotate_left
 refine sK [] I I I (sR 1 (([0, 200, 100000] : Li).map rI) (sK [] I I I (sR 1 (([500000, 2000000, 0] : Li).map rI) (sK [0] I I I (A1 [0] (Al a _ _ _ f) ?_)))))
 refine sK [0] I I I (A1 [0] (Al a _ _ _ b) ?_)
 refine sK [0] I I I (A1 [0] (Al a _ _ _ e) ?_)
 rotate_left
 refine sK [] I I I (sR 1 (([500000, 2000000, 0] : Li).map rI) (tF ?_ ?_ ?_))
 refine Dp I (C3 _ _ _ w) (tF ?_ ?_ ?_)
 refine sK [0] I I I (A1 [0] (Al a _ _ _ f) ?_)
 refine sW ?_ ?_
 refine sK [] I I I (sR 1 (([0, 200, 100000] : Li).map rI) (sW ?_ ?_))
 refine sK [0] I I I (A1 [0] (Al a _ _ _ b) ?_)
 refine sK [] I I I (sR 1 (([0, 100000, 400000] : Li).map rI) (sK [0] I I I (A1 [0] (Al a _ _ _ e) ?_)))
 rotate_left
 refine sK [] I I I (sR 1 (([0, 100000, 400000] : Li).map rI) (sK [0] I I I (A1 [0] (Al a _ _ _ b) ?_)))
 refine sK [0] I I I (A1 [0] (Al a _ _ _ e) ?_)
 rotate_left
 refine sK [] I I I (sR 1 (([0, 100000, 400000] : Li).map rI) (sK [] I I I (sR 1 (([0, 200, 100000] : Li).map rI) (sK [0] I I I (A1 [0] (Al a _ _ _ b) ?_)))))
 refine sK [0] I I I (A1 [0] (Al a _ _ _ e) ?_)
 rotate_left
 refine sK [] I I I (sR 1 (([0, 200, 100000] : Li).map rI) (sW ?_ ?_))
 refine sK [0] I I I (A1 [0] (Al a _ _ _ f) ?_)
 refine sW ?_ ?_
 refine sK [0] I I I (A1 [0] (Al a _ _ _ b) ?_)
 refine sK [] I I I (sR 1 (([0, 100000, 400000] : Li).map rI) (sK [0] I I I (A1 [0] (Al a _ _ _ e) ?_)))
 rotate_left
 refine sK [] I I I (sR 1 (([0, 100000, 400000] : Li).map rI) (sK [0] I I I (A1 [0] (Al a _ _ _ b) ?_)))
 refine sK [0] I I I (A1 [0] (Al a _ _ _ e) ?_)
 rotate_left
 refine sK [] I I I (sR 1 (([0, 100000, 400000] : Li).map rI) (sK [0] I I I (A1 [0] (Al a _ _ _ f) ?_)))
 refine sK [0] I I I (A1 [0] (Al a _ _ _ b) ?_)
 refine sK [0] I I I (A1 [0] (Al a _ _ _ e) ?_)
 rotate_left
 refine sK [] I I I (sR 1 (([0, 100000, 400000] : Li).map rI) (sW ?_ ?_))
 refine sK [0] I I I (A1 [0] (Al a _ _ _ f) ?_)
 refine sK [] I I I (sR 1 (([0, 200, 100000] : Li).map rI) (sK [0] I I I (A1 [0] (Al a _ _ _ b) ?_)))
 refine sK [0] I I I (A1 [0] (Al a _ _ _ e) ?_)
 rotate_left
 refine sK [] I I I (sR 1 (([0, 200, 100000] : Li).map rI) (sK [0] I I I (A1 [0] (Al a _ _ _ f) ?_)))
 refine sK [0] I I I (A1 [0] (Al a _ _ _ b) ?_)
 refine sK [0] I I I (A1 [0] (Al a _ _ _ e) ?_)
 rotate_left
 refine sK [] I I I (sR 1 (([0, 200, 100000] : Li).map rI) (sW ?_ ?_))
 refine Dp I (C3 _ _ _ w) (sW ?_ ?_)
 refine sK [0] I I I (A1 [0] (Al a _ _ _ f) ?_)
 refine sW ?_ ?_
 refine sK [0] I I I (A1 [0] (Al a _ _ _ b) ?_)
 refine sK [] I I I (sR 1 (([0, 100000, 400000] : Li).map rI) (sK [0] I I I (A1 [0] (Al a _ _ _ e) ?_)))
 rotate_left
 refine sK [] I I I (sR 1 (([0, 100000, 400000] : Li).map rI) (sK [0] I I I (A1 [0] (Al a _ _ _ b) ?_)))
 refine sK [0] I I I (A1 [0] (Al a _ _ _ e) ?_)
 rotate_left
 refine sK [] I I I (sR 1 (([0, 100000, 400000] : Li).map rI) (sK [0] I I I (A1 [0] (Al a _ _ _ f) ?_)))
 refine sK [0] I I I (A1 [0] (Al a _ _ _ b) ?_)
 refine sK [0] I I I (A1 [0] (Al a _ _ _ e) ?_)
 rotate_left
 refine sK [] I I I (sR 1 (([0, 100000, 400000] : Li).map rI) (Dp I (C3 _ _ _ w) (sK [0] I I I (A1 [0] (Al a _ _ _ f) ?_))))
 refine sK [0] I I I (A1 [0] (Al a _ _ _ b) ?_)
 refine sK [0] I I I (A1 [0] (Al a _ _ _ e) ?_)
 rotate_left
 refine sK [] I I I (sR 1 (([0, 100000, 400000] : Li).map rI) (sW ?_ ?_))
 refine Dp I (C3 _ _ _ w) (sW ?_ ?_)
 refine sK [0] I I I (A1 [0] (Al a _ _ _ f) ?_)
 refine sK [] I I I (sR 1 (([0, 200, 100000] : Li).map rI) (sK [0] I I I (A1 [0] (Al a _ _ _ b) ?_)))
 refine sK [0] I I I (A1 [0] (Al a _ _ _ e) ?_)
 rotate_left
 refine sK [] I I I (sR 1 (([0, 200, 100000] : Li).map rI) (sK [0] I I I (A1 [0] (Al a _ _ _ f) ?_)))
 refine sK [0] I I I (A1 [0] (Al a _ _ _ b) ?_)
 refine sK [0] I I I (A1 [0] (Al a _ _ _ e) ?_)
 rotate_left
 refine sK [] I I I (sR 1 (([0, 200, 100000] : Li).map rI) (Dp I (C3 _ _ _ w) (sK [0] I I I (A1 [0] (Al a _ _ _ f) ?_))))
 refine sK [0] I I I (A1 [0] (Al a _ _ _ b) ?_)
 refine sK [0] I I I (A1 [0] (Al a _ _ _ e) ?_)
 rotate_left
 refine sK [] I I I (sR 1 (([0, 200, 100000] : Li).map rI) (tF ?_ ?_ ?_))
 refine Dp I (C3 _ _ _ w) (sW ?_ ?_)
 refine sK [] I I I (sR 1 (([500000, 2000000, 0] : Li).map rI) (sW ?_ ?_))
 refine sK [0] I I I (A1 [0] (Al a _ _ _ f) ?_)
 refine sW ?_ ?_
 refine sK [0] I I I (A1 [0] (Al a _ _ _ b) ?_)
 refine sK [] I I I (sR 1 (([0, 100000, 400000] : Li).map rI) (sK [0] I I I (A1 [0] (Al a _ _ _ e) ?_)))
 rotate_left
 refine sK [] I I I (sR 1 (([0, 100000, 400000] : Li).map rI) (sK [0] I I I (A1 [0] (Al a _ _ _ b) ?_)))
 refine sK [0] I I I (A1 [0] (Al a _ _ _ e) ?_)
 rotate_left
 refine sK [] I I I (sR 1 (([0, 100000, 400000] : Li).map rI) (sK [0] I I I (A1 [0] (Al a _ _ _ f) ?_)))
 refine sK [0] I I I (A1 [0] (Al a _ _ _ b) ?_)
 refine sK [0] I I I (A1 [0] (Al a _ _ _ e) ?_)
 rotate_left
 refine sK [] I I I (sR 1 (([0, 100000, 400000] : Li).map rI) (sK [] I I I (sR 1 (([500000, 2000000, 0] : Li).map rI) (sK [0] I I I (A1 [0] (Al a _ _ _ f) ?_)))))
 refine sK [0] I I I (A1 [0] (Al a _ _ _ b) ?_)
 refine sK [0] I I I (A1 [0] (Al a _ _ _ e) ?_)
 rotate_left
 refine sK [] I I I (sR 1 (([500000, 2000000, 0] : Li).map rI) (sW ?_ ?_))
 refine Dp I (C3 _ _ _ w) (sW ?_ ?_)
 refine sK [0] I I I (A1 [0] (Al a _ _ _ f) ?_)
 refine sW ?_ ?_
 refine sK [0] I I I (A1 [0] (Al a _ _ _ b) ?_)
 refine sK [] I I I (sR 1 (([0, 100000, 400000] : Li).map rI) (sK [0] I I I (A1 [0] (Al a _ _ _ e) ?_)))
 rotate_left
 refine sK [] I I I (sR 1 (([0, 100000, 400000] : Li).map rI) (sK [0] I I I (A1 [0] (Al a _ _ _ b) ?_)))
 refine sK [0] I I I (A1 [0] (Al a _ _ _ e) ?_)
 rotate_left
 refine sK [] I I I (sR 1 (([0, 100000, 400000] : Li).map rI) (sK [0] I I I (A1 [0] (Al a _ _ _ f) ?_)))
 refine sK [0] I I I (A1 [0] (Al a _ _ _ b) ?_)
 refine sK [0] I I I (A1 [0] (Al a _ _ _ e) ?_)
 rotate_left
 refine sK [] I I I (sR 1 (([0, 100000, 400000] : Li).map rI) (Dp I (C3 _ _ _ w) (sK [0] I I I (A1 [0] (Al a _ _ _ f) ?_))))
 refine sK [0] I I I (A1 [0] (Al a _ _ _ b) ?_)
 refine sK [0] I I I (A1 [0] (Al a _ _ _ e) ?_)
 rotate_left
 refine sK [] I I I (sR 1 (([0, 100000, 400000] : Li).map rI) (sW ?_ ?_))
 refine Dp I (C3 _ _ _ w) (sK [] I I I (sR 1 (([500000, 2000000, 0] : Li).map rI) (sK [0] I I I (A1 [0] (Al a _ _ _ f) ?_))))
 refine sK [0] I I I (A1 [0] (Al a _ _ _ b) ?_)
 refine sK [0] I I I (A1 [0] (Al a _ _ _ e) ?_)
 rotate_left
 refine sK [] I I I (sR 1 (([500000, 2000000, 0] : Li).map rI) (Dp I (C3 _ _ _ w) (sK [0] I I I (A1 [0] (Al a _ _ _ f) ?_))))
 refine sK [0] I I I (A1 [0] (Al a _ _ _ b) ?_)
 refine sK [0] I I I (A1 [0] (Al a _ _ _ e) ?_)
 rotate_left
 refine sK [] I I I (sR 1 (([0, 100000, 400000] : Li).map rI) (tF ?_ ?_ ?_))
 refine Dp I (C3 _ _ _ w) (sW ?_ ?_)
 refine sK [] I I I (sR 1 (([500000, 2000000, 0] : Li).map rI) (sW ?_ ?_))
 refine sK [0] I I I (A1 [0] (Al a _ _ _ f) ?_)
 refine sK [] I I I (sR 1 (([0, 200, 100000] : Li).map rI) (sK [0] I I I (A1 [0] (Al a _ _ _ b) ?_)))
 refine sK [0] I I I (A1 [0] (Al a _ _ _ e) ?_)
 rotate_left
 refine sK [] I I I (sR 1 (([0, 200, 100000] : Li).map rI) (sK [0] I I I (A1 [0] (Al a _ _ _ f) ?_)))
 refine sK [0] I I I (A1 [0] (Al a _ _ _ b) ?_)
 refine sK [0] I I I (A1 [0] (Al a _ _ _ e) ?_)
 rotate_left
 refine sK [] I I I (sR 1 (([0, 200, 100000] : Li).map rI) (sK [] I I I (sR 1 (([500000, 2000000, 0] : Li).map rI) (sK [0] I I I (A1 [0] (Al a _ _ _ f) ?_)))))
 refine sK [0] I I I (A1 [0] (Al a _ _ _ b) ?_)
 refine sK [0] I I I (A1 [0] (Al a _ _ _ e) ?_)
 rotate_left
 refine sK [] I I I (sR 1 (([500000, 2000000, 0] : Li).map rI) (sW ?_ ?_))
 refine Dp I (C3 _ _ _ w) (sW ?_ ?_)
 refine sK [0] I I I (A1 [0] (Al a _ _ _ f) ?_)
 refine sK [] I I I (sR 1 (([0, 200, 100000] : Li).map rI) (sK [0] I I I (A1 [0] (Al a _ _ _ b) ?_)))
 refine sK [0] I I I (A1 [0] (Al a _ _ _ e) ?_)
 rotate_left
 refine sK [] I I I (sR 1 (([0, 200, 100000] : Li).map rI) (sK [0] I I I (A1 [0] (Al a _ _ _ f) ?_)))
 refine sK [0] I I I (A1 [0] (Al a _ _ _ b) ?_)
 refine sK [0] I I I (A1 [0] (Al a _ _ _ e) ?_)
 rotate_left
 refine sK [] I I I (sR 1 (([0, 200, 100000] : Li).map rI) (Dp I (C3 _ _ _ w) (sK [0] I I I (A1 [0] (Al a _ _ _ f) ?_))))
 refine sK [0] I I I (A1 [0] (Al a _ _ _ b) ?_)
 refine sK [0] I I I (A1 [0] (Al a _ _ _ e) ?_)
 rotate_left
 refine sK [] I I I (sR 1 (([0, 200, 100000] : Li).map rI) (sW ?_ ?_))
 refine Dp I (C3 _ _ _ w) (sK [] I I I (sR 1 (([500000, 2000000, 0] : Li).map rI) (sK [0] I I I (A1 [0] (Al a _ _ _ f) ?_))))
 refine sK [0] I I I (A1 [0] (Al a _ _ _ b) ?_)
 refine sK [0] I I I (A1 [0] (Al a _ _ _ e) ?_)
 rotate_left
 refine sK [] I I I (sR 1 (([500000, 2000000, 0] : Li).map rI) (Dp I (C3 _ _ _ w) (sK [0] I I I (A1 [0] (Al a _ _ _ f) ?_))))
 refine sK [0] I I I (A1 [0] (Al a _ _ _ b) ?_)
 refine sK [0] I I I (A1 [0] (Al a _ _ _ e) ?_)
 any_goals
  refine tC I (Au (l := [.v (.string a0), .V g.2.2.2.2, .V a1.1, .V a2.1, .V ak.1]) Z0 I) I (sK [] I I I (sR 5 (([(⟨a0, g.2.2.2.2, a1.1, a2.1, ak.1⟩ : Sn)] : List Sn).map Ba) (sK [6] I I I (C7 6 I cq fun a3 => Bg 1 I (sU 6 I fun ct => tB [2] I I I (sZ 2 0 3 (es' := [[.v i, .v t, .v H, .v a3, .V j.1, .V k.1]]) I I I I I I (A7 ct) I (Ca I) I I (Ap (sI ?_))))))))
  exact lg ⟨(ak.2.L_, ak.2.At, E.2.2, cp), H, a3, h, I2⟩ [0, 1, 2, 3, 4, 5, 6]
 intro co h
 refine sL ?_
 exact lg ⟨(Q.1, Q.2.1, E.2.2, g.2.2.2.1), H, D, h, I2⟩ [0, 1, 2, 3, 4, 5, 6]
 rintro s ob ⟨U, ah, ai, h, rfl, rfl⟩
 refine sH (Ag 3 I ?_)
 obtain rfl := oi h
 exact sI ⟨_, _, _, I, ⟨ah, ai, I2⟩, J5, [0, 1, 2, 3, 4, 5, 6], I, by decide⟩
 intro cj h
 obtain rfl := cg _ (oi h).symm
 replace h := cf
 refine sQ ?_
 exact lg ⟨(g.1, g.2.1, g.2.2.1, g.2.2.2.1), O, D, h, I2⟩ [0, 1, 2, 3, 4, 5, 6]
 rintro s ob ⟨u, R, S, h, rfl, rfl⟩
 refine sN (sH (An 1 [.o 0 2] I J1 (sJ [1] I (A3 1 0 0 [[.v i, .v t, .v R, .v S, .V j.1, .V k.1]] I (sI (sP (Bk [3, 4, 5, 6] (K := [U3 i n.2.2, U5 t y.2.2, pN R u.2.2.1, pM S u.2.2.2]) I [] J (ob' := [O2 a [[Q0 u.1, .V u.2.1]], O0 A [[Q1 n.2.2, Q6 y.2.2, Q7 u.2.2.1, Q8 u.2.2.2, .V j.1, .V k.1]], O0 B [[.v i, .v t, .v R, .v S, .V j.1, .V k.1]]]) (.cons (.same _) (.cons (.arr (.cons (.us 0 I) (.cons (.us 1 I) (.cons (.us 2 I) (.cons (.us 3 I) (.rest _)))))) (.rest _)))) (Cu [0, 1] I ?_)))))))
 obtain rfl := oi h
 exact sO ⟨.inr I, [_], [O2 a [[Q0 u.1, .V u.2.1]]], ⟨⟨1, _, _, _, _, _, _, _, I5⟩, J⟩, Cy I (Cm), ⟨[O2 a [[Q0 u.1, .V u.2.1]]], [], I5⟩⟩
end Go.Proofs.YtodeekicjiengaaGreatDoor
