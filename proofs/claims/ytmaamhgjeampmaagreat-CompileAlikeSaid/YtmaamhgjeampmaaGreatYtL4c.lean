/- Walks that show what functions of the program compute; printed by a program of ours. No condition. -/
import Derived.Test.YtmaamhgjeampmaaGreatYtL4
set_option maxRecDepth 100000
namespace Go.Proofs.YtmaamhgjeampmaaGreat
open Go.Aw
set_option linter.unusedVariables false
set_option linter.unusedSimpArgs false
set_option maxHeartbeats 4000000
theorem cO (a : Nat) (aq : KS) (r : Network × KS) (h : It aq = some r) : ACalls Am 12 [.v (.pointer (some ⟨a, 0, none⟩))] [.arr a 88 2 1 [Cp aq]] (Gp 1 fun x os new => x = .agg (Ab r.1) ∧ os = [.arr a 88 2 1 [Cp r.2]] ∧ new = []) := by
 refine Ag Tryz.func12 rfl rfl rfl fun C hC => ?_
 unfold It at h
 refine Aa fun y1 a4 => nD (nG [] I (nN (cs := [.N, .N, .N, .N, .V 0, .V 0]) (m := 6) I I I I I dS fun A => nE ?_))
 subst a4
 refine Aa fun y3 a5 => ?_
 obtain ⟨j, a6, h⟩ := Ac h
 obtain ⟨k, a7, h⟩ := Ac h
 refine nD (Af 1 I (nG [] I (nR 1 (([(-100000), 0, 50000] : List Int).map rI) (nG [0] I (A5 [0] (An a _ _ _ a6) ?_)))))
 refine Af 1 I (nG [] I (nR 1 (([0, 1, 5, 100] : List Int).map rI) (nG [0] I (A5 [0] (An a _ _ _ a7) ?_))))
 refine Ck (Ao (l := [.N, .N, .N, .N, .V j.1, .V k.1]) Rn I) I (nG [] I (nN (cs := [.N, .N, .N, .N, .V 0, .V 0]) (m := 6) I I I I I dS fun B => nG [2] I (Ax 2 0 0 [[.N, .N, .N, .N, .V j.1, .V k.1]] I (nE ?_))))
 subst a5
 refine Al (fun s ob => ∃ (n : (List Int) × Int × (List ByteArray)) (i : Value), It.J1 j k n = some r ∧ s = [] ∧ ob = [.arr a 88 2 1 [[.list 1 (n.1.map rI), .V n.2.1]], .arr A 32 6 1 [[.N, .N, .N, .N, .V 0, .V 0]], .arr B 32 6 1 [[.v i, .N, .N, .N, .V j.1, .V k.1]], .us i 9 1 (n.2.2.map rS)]) [(0, _), (2, _), (3, _)] J3 ?_ ?_
 refine Aa fun cw a8 => ?_
 obtain ⟨al, a9, h⟩ := Ac h
 refine nD (Af 1 I (nG [0] I (A5 [0] (Fb a _ _ _ _ a9) ?_)))
 refine Af 1 I (nE ?_)
 subst a8
 refine nJ (nM (Bo 9 1) ?_)
 obtain ⟨cx, ba, bb⟩ := Ac h
 clear h
 refine Bz ba [(0, _), (2, _), (3, _)] J3 (fun (ab : (List ByteArray) × Int) s ob => ∃ (ac : Value), s = [(4, .V ab.2)] ∧ ob = [.arr a 88 2 1 [Cp al.2], .arr A 32 6 1 [[.N, .N, .N, .N, .V 0, .V 0]], .arr B 32 6 1 [[.v ac, .N, .N, .N, .V j.1, .V k.1]], .us ac 9 1 (ab.1.map rS)]) ⟨(.slice none 0 0), I2⟩ ⟨I, J⟩ ⟨[0, 1, 2, 3], I, by decide⟩ ?_
 rintro ab cy s ob ⟨ac, rfl, rfl⟩ h bc
 unfold It.B12 at h
 refine Aa fun cz bd => Aq I (Ay h I ?_ ?_)
 intro be h
 refine nI ?_
 subst bd
 refine nH (nJ ?_)
 obtain ⟨bf, bg, h⟩ := Ac h
 obtain ⟨c1, bh, h⟩ := Ac h
 refine Ju 3 I fun bi => Bw (sl 5 0 (.act 5 (.act 6 (.act 7 (.still 8 (.drop 9 .nil)))))) [2] [_] I (By 4 [.o 1 0, .o 3 0] I J2 (nV I (Jt I I I bi) I (Ee I (Db _ _ _ bg) (nF [] I I I (nR 1 (([bf] : List ByteArray).map rS) (nF [3] I I I (Bf 3 I bh fun ar => Bm 1 I (nL 3 I fun bj => nW [2] I I I (nU 2 0 0 (es' := [[.v ar, .N, .N, .N, .V j.1, .V k.1]]) I I I I I I (Ai bj) I (Bs I) I I (Ak (nE (nD ?_))))))))))))
 refine Af 3 I ?_
 obtain rfl := oi h
 refine nE ?_
 exact ⟨_, _, _, I, ⟨ar, I2⟩, J4, [0, 1, 2, 3], I, by decide⟩
 intro be h
 obtain rfl := bc _ (oi h).symm
 replace h := bb
 refine nO ?_
 exact lg ⟨(al.2.L_, al.2.At, ab.1), ac, h, I2⟩ [0, 1, 2, 3]
 rintro s ob ⟨n, i, h, rfl, rfl⟩
 unfold It.J1 at h
 refine Aa fun c2 bk => nD (Ap 2 [.o 1 2] I J1 (nS (Cn 3 I I I I) I (Af 2 I (nE ?_))))
 subst bk
 refine Al (fun s ob => ∃ (X : (List Int) × Int × (List Segment)) (ad : Value), It.J2 j k n X = some r ∧ s = [] ∧ ob = [.arr a 88 2 1 [[.list 1 (X.1.map rI), .V X.2.1]], .arr A 32 6 1 [[.N, .N, .N, .N, .V 0, .V 0]], .arr B 32 6 1 [[.v i, .v ad, .N, .N, .V j.1, .V k.1]], .us i 9 1 (n.2.2.map rS), .us ad 83 7 (X.2.2.map Ar)]) [(0, _), (2, _), (3, _), (5, _)] J4 ?_ ?_
 refine Aq I (nJ (nM (Bo 83 7) ?_))
 obtain ⟨c3, bl, bm⟩ := Ac h
 clear h
 refine Bz bl [(0, _), (2, _), (3, _), (5, _)] J4 (fun (F : (List Int) × Int × (List Segment) × Int) s ob => ∃ (ae : Value), s = [(6, .V F.2.2.2)] ∧ ob = [.arr a 88 2 1 [[.list 1 (F.1.map rI), .V F.2.1]], .arr A 32 6 1 [[.N, .N, .N, .N, .V 0, .V 0]], .arr B 32 6 1 [[.v i, .v ae, .N, .N, .V j.1, .V k.1]], .us i 9 1 (n.2.2.map rS), .us ae 83 7 (F.2.2.1.map Ar)]) ⟨(.slice none 0 0), I2⟩ ⟨I, J⟩ ⟨[0, 1, 2, 3, 4], I, by decide⟩ ?_
 rintro F c4 s ob ⟨ae, rfl, rfl⟩ h bn
 unfold It.B11 at h
 refine Aa fun c5 bo => Aq I (Ay h I ?_ ?_)
 intro bp h
 refine nI ?_
 subst bo
 refine nH (nJ ?_)
 obtain ⟨bq, br, h⟩ := Ac h
 obtain ⟨c6, bs, h⟩ := Ac h
 refine Ju 4 I fun bu => Bw (sl 9 0 (.act 9 (.act 10 (.act 11 (.still 12 (.drop 13 .nil)))))) [2] [_] I (By 5 [.o 1 0, .o 4 0] I J2 (nV I (Jt I I I bu) I (Bm 3 I (nF [0] I I I (A5 [0] (Ta a _ _ _ _ _ br) ?_)))))
 refine nF [] I I I (nR 7 (([bq.1] : List Segment).map Ar) (nF [4] I I I (Bf 4 I bs fun au => Bm 1 I (nL 4 I fun bv => nW [2] I I I (nU 2 0 1 (es' := [[.v i, .v au, .N, .N, .V j.1, .V k.1]]) I I I I I I (Ai bv) I (Bs I) I I (Ak (nE (nD (Af 3 I ?_)))))))))
 obtain rfl := oi h
 refine nE ?_
 exact ⟨_, _, _, I, ⟨au, I2⟩, J5, [0, 1, 2, 3, 4], I, by decide⟩
 intro bp h
 obtain rfl := bn _ (oi h).symm
 replace h := bm
 refine nO ?_
 exact lg ⟨(F.1, F.2.1, F.2.2.1), ae, h, I2⟩ [0, 1, 2, 3, 4]
 rintro s ob ⟨X, ad, h, rfl, rfl⟩
 unfold It.J2 at h
 refine Al (fun s ob => ∃ (y : (List Int) × Int × (List Segment)) (t : Value), It.J3 j k n y = some r ∧ s = [] ∧ ob = [.arr a 88 2 1 [[.list 1 (y.1.map rI), .V y.2.1]], .arr A 32 6 1 [[.N, .N, .N, .N, .V 0, .V 0]], .arr B 32 6 1 [[.v i, .v t, .N, .N, .V j.1, .V k.1]], .us i 9 1 (n.2.2.map rS), .us t 83 7 (y.2.2.map Ar)]) [(0, _), (2, _), (3, _), (5, _)] J4 ?_ ?_
 refine Aa fun c7 bw => ?_
 obtain ⟨c8, bx, h⟩ := Ac h
 refine nD (Af 1 I (nG [0] I (A5 [0] (Dg a _ _ _ bx) ?_)))
 refine Af 1 I (nE ?_)
 subst bw
 refine nJ ?_
 obtain ⟨c9, bz, b1⟩ := Ac h
 clear h
 refine Bz bz [(0, _), (2, _), (3, _), (5, _)] J4 (fun (G : (List Int) × Int × (List Segment) × Int) s ob => ∃ (af : Value), s = [(7, .V G.2.2.2)] ∧ ob = [.arr a 88 2 1 [[.list 1 (G.1.map rI), .V G.2.1]], .arr A 32 6 1 [[.N, .N, .N, .N, .V 0, .V 0]], .arr B 32 6 1 [[.v i, .v af, .N, .N, .V j.1, .V k.1]], .us i 9 1 (n.2.2.map rS), .us af 83 7 (G.2.2.1.map Ar)]) ⟨ad, I2⟩ ⟨I, J⟩ ⟨[0, 1, 2, 3, 4], I, by decide⟩ ?_
 rintro G da s ob ⟨af, rfl, rfl⟩ h b3
 unfold It.B10 at h
 refine Aa fun db b4 => Aq I (Ay h I ?_ ?_)
 intro b5 h
 refine nI ?_
 subst b4
 refine nH (nJ (Aa fun dc b6 => ?_))
 obtain ⟨dd, b7, h⟩ := Ac h
 refine nD (Af 2 I (nG [0] I (A5 [0] (Dg a _ _ _ b7) ?_)))
 refine Af 1 I (nE ?_)
 subst b6
 obtain ⟨de, b8, h⟩ := Ac h
 obtain ⟨b9, ca, h⟩ := Ac h
 obtain ⟨df, cb, h⟩ := Ac h
 refine Ju 4 I fun cc => Bw (sl 11 0 (.act 11 (.act 12 (.act 13 (.act 14 (.still 15 (.drop 16 .nil))))))) [2] [_] I (By 5 [.o 1 0, .o 4 0] I J2 (nV I (Jt I I I cc) I (Bm 5 I (nF [0] I I I (A5 [0] (Fb a _ _ _ _ b8) ?_)))))
 refine nF [0] I I I (A5 [0] (Ta a _ _ _ _ _ ca) ?_)
 refine nF [] I I I (nR 7 (([b9.1] : List Segment).map Ar) (nF [4] I I I (Bf 4 I cb fun av => Bm 1 I (nL 4 I fun cd => nW [2] I I I (nU 2 0 1 (es' := [[.v i, .v av, .N, .N, .V j.1, .V k.1]]) I I I I I I (Ai cd) I (Bs I) I I (Ak (nE (nD (Af 3 I ?_)))))))))
 obtain rfl := oi h
 refine nE ?_
 exact ⟨_, _, _, I, ⟨av, I2⟩, J5, [0, 1, 2, 3, 4], I, by decide⟩
 intro b5 h
 obtain rfl := b3 _ (oi h).symm
 replace h := b1
 refine nO ?_
 exact lg ⟨(G.1, G.2.1, G.2.2.1), af, h, I2⟩ [0, 1, 2, 3, 4]
 rintro s ob ⟨y, t, h, rfl, rfl⟩
 unfold It.J3 at h
 refine Al (fun s ob => ∃ (u : (List Int) × Int × (List Port) × (List Station)) (R : Value) (S : Value), It.J4 j k n y u = some r ∧ s = [] ∧ ob = [.arr a 88 2 1 [[.list 1 (u.1.map rI), .V u.2.1]], .arr A 32 6 1 [[.N, .N, .N, .N, .V 0, .V 0]], .arr B 32 6 1 [[.v i, .v t, .v R, .v S, .V j.1, .V k.1]], .us i 9 1 (n.2.2.map rS), .us t 83 7 (y.2.2.map Ar), .us R 85 3 (u.2.2.1.map Bj), .us S 93 5 (u.2.2.2.map A4)]) [(2, _), (3, _)] J2 ?_ ?_
 refine Aq I (nJ (nM (Bo 85 3) (nM (Bo 93 5) ?_)))
 obtain ⟨dg, ce, cf⟩ := Ac h
 clear h
 refine Bz ce [(0, _), (2, _), (3, _), (5, _)] J4 (fun (g : (List Int) × Int × (List Port) × (List Station) × Int) s ob => ∃ (O : Value) (D : Value), s = [(9, .V g.2.2.2.2)] ∧ ob = [.arr a 88 2 1 [[.list 1 (g.1.map rI), .V g.2.1]], .arr A 32 6 1 [[.N, .N, .N, .N, .V 0, .V 0]], .arr B 32 6 1 [[.v i, .v t, .v O, .v D, .V j.1, .V k.1]], .us i 9 1 (n.2.2.map rS), .us t 83 7 (y.2.2.map Ar), .us O 85 3 (g.2.2.1.map Bj), .us D 93 5 (g.2.2.2.1.map A4)]) ⟨(.slice none 0 0), (.slice none 0 0), I2⟩ ⟨I, J⟩ ⟨[0, 1, 2, 3, 4, 5, 6], I, by decide⟩ ?_
 rintro g ag s ob ⟨O, D, rfl, rfl⟩ h cg
 unfold It.B5 at h
 refine Aa fun dh ci => Aq I (Ay h I ?_ ?_)
 intro cj h
 refine nI ?_
 subst ci
 refine Al (fun s ob => ∃ (U : (List Int) × Int × (List Port) × (List Station)) (ah : Value) (ai : Value), It.J6 g U = some ag ∧ s = [] ∧ ob = [.arr a 88 2 1 [[.list 1 (U.1.map rI), .V U.2.1]], .arr A 32 6 1 [[.N, .N, .N, .N, .V 0, .V 0]], .arr B 32 6 1 [[.v i, .v t, .v ah, .v ai, .V j.1, .V k.1]], .us i 9 1 (n.2.2.map rS), .us t 83 7 (y.2.2.map Ar), .us ah 85 3 (U.2.2.1.map Bj), .us ai 93 5 (U.2.2.2.map A4)]) [(0, _), (2, _), (3, _), (5, _), (9, _)] J5 ?_ ?_
 refine nJ (Al (fun s ob => ∃ (E : (List Int) × Int × (List Port)) (H : Value), It.J7 n g E = some ag ∧ s = [] ∧ ob = [.arr a 88 2 1 [[.list 1 (E.1.map rI), .V E.2.1]], .arr A 32 6 1 [[.N, .N, .N, .N, .V 0, .V 0]], .arr B 32 6 1 [[.v i, .v t, .v H, .v D, .V j.1, .V k.1]], .us i 9 1 (n.2.2.map rS), .us t 83 7 (y.2.2.map Ar), .us H 85 3 (E.2.2.map Bj), .us D 93 5 (g.2.2.2.1.map A4)]) [(0, _), (2, _), (3, _), (5, _), (9, _)] J5 ?_ ?_)
 refine Al (fun s ob => ∃ (P : (List Int) × Int × Bool), It.J9 n g P = some ag ∧ s = [(95, .v (.bool P.2.2))] ∧ ob = [.arr a 88 2 1 [[.list 1 (P.1.map rI), .V P.2.1]], .arr A 32 6 1 [[.N, .N, .N, .N, .V 0, .V 0]], .arr B 32 6 1 [[.v i, .v t, .v O, .v D, .V j.1, .V k.1]], .us i 9 1 (n.2.2.map rS), .us t 83 7 (y.2.2.map Ar), .us O 85 3 (g.2.2.1.map Bj), .us D 93 5 (g.2.2.2.1.map A4)]) [(0, _), (2, _), (3, _), (5, _), (9, _)] J5 ?_ ?_
 rcases bt ((g.2.2.2.2 == 0)) with W | W
 replace h := B0 W h
 refine nD (Af 3 I (Ad 86 I W (Af 9 I (nE ?_))))
 exact lg ⟨(g.1, g.2.1, true), h, I2⟩ [0, 1, 2, 3, 4, 5, 6]
 replace h := Ca W h
 rcases bt ((g.2.2.2.2 == (wr ((n.2.2.length : Int) - 1)))) with Y | Y
 replace h := B0 Y h
 refine nD (Af 3 I (Ad 86 I W (Af 5 I (Ad 91 I Y (Af 4 I (nE ?_))))))
 exact lg ⟨(g.1, g.2.1, true), h, I2⟩ [0, 1, 2, 3, 4, 5, 6]
 replace h := Ca Y h
 obtain ⟨am, ck, h⟩ := Ac h
 refine nD (Af 3 I (Ad 86 I W (Af 5 I (Ad 91 I Y (Af 1 I (Br I I I (nG [0] I (A5 [0] (Dg a _ _ _ ck) ?_))))))))
 refine Af 2 I (nE ?_)
 exact lg ⟨(am.2.L_, am.2.At, (am.1 == 0)), h, I2⟩ [0, 1, 2, 3, 4, 5, 6]
 rintro s ob ⟨P, h, rfl, rfl⟩
 unfold It.J9 at h
 refine Ay h I ?_ ?_
 intro cl h
 obtain ⟨aj, aw, h⟩ := Ac h
 obtain ⟨M, ax, h⟩ := Ac h
 obtain ⟨ay, az, h⟩ := Ac h
 refine Ju 5 I fun cm => Bw (sl 5 0 (.still 6 (.still 7 (.two 5 8 (.act 8 (.act 9 (.still 10 (.act 11 (.act 12 (.still 13 (.drop 14 .nil))))))) (.act 5 (.act 9 (.still 10 (.act 11 (.act 12 (.still 13 (.drop 14 .nil))))))))))) [2] [_] I (By 4 [.o 1 0, .o 3 0] I J2 (nV I (Jt I I I cm) I (Bm 2 I (nT ?_ ?_))))
 refine Ee I (Db _ _ _ aw) (nF [] I I I (nR 1 (([300000, 1000000, 0, 5000000] : List Int).map rI) (nF [0] I I I (A5 [0] (An a _ _ _ ax) ?_))))
 refine Cr I (Ao (l := [.v (.string aj), .V g.2.2.2.2, .V M.1]) I0 I) I (nF [] I I I (nR 3 (([(⟨aj, g.2.2.2.2, M.1⟩ : Port)] : List Port).map Bj) (nF [5] I I I (Bf 5 I az fun Z => Bm 1 I (nL 5 I fun an => nW [2] I I I (nU 2 0 2 (es' := [[.v i, .v t, .v Z, .v D, .V j.1, .V k.1]]) I I I I I I (Ai an) I (Bs I) I I (Ak (nE ?_))))))))
 exact lg ⟨(M.2.L_, M.2.At, ay), Z, h, I2⟩ [0, 1, 2, 3, 4, 5, 6]
 refine nF [] I I I (nR 1 (([300000, 1000000, 0, 5000000] : List Int).map rI) (Ee I (Db _ _ _ aw) (nF [0] I I I (A5 [0] (An a _ _ _ ax) ?_))))
 refine Cr I (Ao (l := [.v (.string aj), .V g.2.2.2.2, .V M.1]) I0 I) I (nF [] I I I (nR 3 (([(⟨aj, g.2.2.2.2, M.1⟩ : Port)] : List Port).map Bj) (nF [5] I I I (Bf 5 I az fun Z => Bm 1 I (nL 5 I fun an => nW [2] I I I (nU 2 0 2 (es' := [[.v i, .v t, .v Z, .v D, .V j.1, .V k.1]]) I I I I I I (Ai an) I (Bs I) I I (Ak (nE ?_))))))))
 exact lg ⟨(M.2.L_, M.2.At, ay), Z, h, I2⟩ [0, 1, 2, 3, 4, 5, 6]
 intro cl h
 refine nI ?_
 exact lg ⟨(P.1, P.2.1, g.2.2.1), O, h, I2⟩ [0, 1, 2, 3, 4, 5, 6]
 rintro s ob ⟨E, H, h, rfl, rfl⟩
 unfold It.J7 at h
 refine Al (fun s ob => ∃ (Q : (List Int) × Int × Bool), It.J8 g E Q = some ag ∧ s = [(117, .v (.bool Q.2.2))] ∧ ob = [.arr a 88 2 1 [[.list 1 (Q.1.map rI), .V Q.2.1]], .arr A 32 6 1 [[.N, .N, .N, .N, .V 0, .V 0]], .arr B 32 6 1 [[.v i, .v t, .v H, .v D, .V j.1, .V k.1]], .us i 9 1 (n.2.2.map rS), .us t 83 7 (y.2.2.map Ar), .us H 85 3 (E.2.2.map Bj), .us D 93 5 (g.2.2.2.1.map A4)]) [(0, _), (2, _), (3, _), (5, _), (9, _)] J5 ?_ ?_
 rcases bt (decide (g.2.2.2.2 < (wr ((n.2.2.length : Int) - 1)))) with aa | aa
 replace h := B0 aa h
 obtain ⟨ao, cn, h⟩ := Ac h
 refine nD (Af 4 I (Ad 113 I aa (Af 1 I (Br I I I (nG [0] I (A5 [0] (Dg a _ _ _ cn) ?_))))))
 refine Af 2 I (nE ?_)
 exact lg ⟨(ao.2.L_, ao.2.At, (ao.1 == 0)), h, I2⟩ [0, 1, 2, 3, 4, 5, 6]
 replace h := Ca aa h
 refine nD (Af 4 I (Ad 113 I aa (Af 4 I (nE ?_))))
 exact lg ⟨(E.1, E.2.1, false), h, I2⟩ [0, 1, 2, 3, 4, 5, 6]
 rintro s ob ⟨Q, h, rfl, rfl⟩
 unfold It.J8 at h
 refine Ay h I ?_ ?_
 intro co h
 obtain ⟨a0, w, h⟩ := Ac h
 obtain ⟨a1, f, h⟩ := Ac h
 obtain ⟨a2, b, h⟩ := Ac h
 obtain ⟨ak, e, h⟩ := Ac h
 obtain ⟨cp, cq, h⟩ := Ac h
 refine Ju 6 I fun cr => Bw (sl 5 0 (.still 6 (.still 7 (.still 10 (.still 13 (.four 5 8 11 14 (.three 8 11 14 (.three 9 11 14 (.two 11 14 (.two 12 14 (.act 14 (.act 15 (.still 16 (.act 17 (.act 18 (.still 19 (.drop 20 .nil))))))) (.act 12 (.act 15 (.still 16 (.act 17 (.act 18 (.still 19 (.drop 20 .nil)))))))) (.act 11 (.act 12 (.act 15 (.still 16 (.act 17 (.act 18 (.still 19 (.drop 20 .nil))))))))) (.two 9 14 (.two 12 14 (.act 14 (.act 15 (.still 16 (.act 17 (.act 18 (.still 19 (.drop 20 .nil))))))) (.act 12 (.act 15 (.still 16 (.act 17 (.act 18 (.still 19 (.drop 20 .nil)))))))) (.act 9 (.act 12 (.act 15 (.still 16 (.act 17 (.act 18 (.still 19 (.drop 20 .nil))))))))) (.two 9 11 (.act 11 (.act 12 (.act 15 (.still 16 (.act 17 (.act 18 (.still 19 (.drop 20 .nil)))))))) (.act 9 (.act 12 (.act 15 (.still 16 (.act 17 (.act 18 (.still 19 (.drop 20 .nil)))))))))) (.two 8 14 (.two 9 14 (.two 12 14 (.act 14 (.act 15 (.still 16 (.act 17 (.act 18 (.still 19 (.drop 20 .nil))))))) (.act 12 (.act 15 (.still 16 (.act 17 (.act 18 (.still 19 (.drop 20 .nil)))))))) (.act 9 (.act 12 (.act 15 (.still 16 (.act 17 (.act 18 (.still 19 (.drop 20 .nil))))))))) (.act 8 (.act 9 (.act 12 (.act 15 (.still 16 (.act 17 (.act 18 (.still 19 (.drop 20 .nil)))))))))) (.two 8 11 (.two 9 11 (.act 11 (.act 12 (.act 15 (.still 16 (.act 17 (.act 18 (.still 19 (.drop 20 .nil)))))))) (.act 9 (.act 12 (.act 15 (.still 16 (.act 17 (.act 18 (.still 19 (.drop 20 .nil))))))))) (.act 8 (.act 9 (.act 12 (.act 15 (.still 16 (.act 17 (.act 18 (.still 19 (.drop 20 .nil))))))))))) (.three 5 11 14 (.three 9 11 14 (.two 11 14 (.two 12 14 (.act 14 (.act 15 (.still 16 (.act 17 (.act 18 (.still 19 (.drop 20 .nil))))))) (.act 12 (.act 15 (.still 16 (.act 17 (.act 18 (.still 19 (.drop 20 .nil)))))))) (.act 11 (.act 12 (.act 15 (.still 16 (.act 17 (.act 18 (.still 19 (.drop 20 .nil))))))))) (.two 9 14 (.two 12 14 (.act 14 (.act 15 (.still 16 (.act 17 (.act 18 (.still 19 (.drop 20 .nil))))))) (.act 12 (.act 15 (.still 16 (.act 17 (.act 18 (.still 19 (.drop 20 .nil)))))))) (.act 9 (.act 12 (.act 15 (.still 16 (.act 17 (.act 18 (.still 19 (.drop 20 .nil))))))))) (.two 9 11 (.act 11 (.act 12 (.act 15 (.still 16 (.act 17 (.act 18 (.still 19 (.drop 20 .nil)))))))) (.act 9 (.act 12 (.act 15 (.still 16 (.act 17 (.act 18 (.still 19 (.drop 20 .nil)))))))))) (.two 5 14 (.two 9 14 (.two 12 14 (.act 14 (.act 15 (.still 16 (.act 17 (.act 18 (.still 19 (.drop 20 .nil))))))) (.act 12 (.act 15 (.still 16 (.act 17 (.act 18 (.still 19 (.drop 20 .nil)))))))) (.act 9 (.act 12 (.act 15 (.still 16 (.act 17 (.act 18 (.still 19 (.drop 20 .nil))))))))) (.act 5 (.act 9 (.act 12 (.act 15 (.still 16 (.act 17 (.act 18 (.still 19 (.drop 20 .nil)))))))))) (.two 5 11 (.two 9 11 (.act 11 (.act 12 (.act 15 (.still 16 (.act 17 (.act 18 (.still 19 (.drop 20 .nil)))))))) (.act 9 (.act 12 (.act 15 (.still 16 (.act 17 (.act 18 (.still 19 (.drop 20 .nil))))))))) (.act 5 (.act 9 (.act 12 (.act 15 (.still 16 (.act 17 (.act 18 (.still 19 (.drop 20 .nil))))))))))) (.three 5 8 14 (.two 8 14 (.two 9 14 (.two 12 14 (.act 14 (.act 15 (.still 16 (.act 17 (.act 18 (.still 19 (.drop 20 .nil))))))) (.act 12 (.act 15 (.still 16 (.act 17 (.act 18 (.still 19 (.drop 20 .nil)))))))) (.act 9 (.act 12 (.act 15 (.still 16 (.act 17 (.act 18 (.still 19 (.drop 20 .nil))))))))) (.act 8 (.act 9 (.act 12 (.act 15 (.still 16 (.act 17 (.act 18 (.still 19 (.drop 20 .nil)))))))))) (.two 5 14 (.two 9 14 (.two 12 14 (.act 14 (.act 15 (.still 16 (.act 17 (.act 18 (.still 19 (.drop 20 .nil))))))) (.act 12 (.act 15 (.still 16 (.act 17 (.act 18 (.still 19 (.drop 20 .nil)))))))) (.act 9 (.act 12 (.act 15 (.still 16 (.act 17 (.act 18 (.still 19 (.drop 20 .nil))))))))) (.act 5 (.act 9 (.act 12 (.act 15 (.still 16 (.act 17 (.act 18 (.still 19 (.drop 20 .nil)))))))))) (.two 5 8 (.act 8 (.act 9 (.act 12 (.act 15 (.still 16 (.act 17 (.act 18 (.still 19 (.drop 20 .nil))))))))) (.act 5 (.act 9 (.act 12 (.act 15 (.still 16 (.act 17 (.act 18 (.still 19 (.drop 20 .nil))))))))))) (.three 5 8 11 (.two 8 11 (.two 9 11 (.act 11 (.act 12 (.act 15 (.still 16 (.act 17 (.act 18 (.still 19 (.drop 20 .nil)))))))) (.act 9 (.act 12 (.act 15 (.still 16 (.act 17 (.act 18 (.still 19 (.drop 20 .nil))))))))) (.act 8 (.act 9 (.act 12 (.act 15 (.still 16 (.act 17 (.act 18 (.still 19 (.drop 20 .nil)))))))))) (.two 5 11 (.two 9 11 (.act 11 (.act 12 (.act 15 (.still 16 (.act 17 (.act 18 (.still 19 (.drop 20 .nil)))))))) (.act 9 (.act 12 (.act 15 (.still 16 (.act 17 (.act 18 (.still 19 (.drop 20 .nil))))))))) (.act 5 (.act 9 (.act 12 (.act 15 (.still 16 (.act 17 (.act 18 (.still 19 (.drop 20 .nil)))))))))) (.two 5 8 (.act 8 (.act 9 (.act 12 (.act 15 (.still 16 (.act 17 (.act 18 (.still 19 (.drop 20 .nil))))))))) (.act 5 (.act 9 (.act 12 (.act 15 (.still 16 (.act 17 (.act 18 (.still 19 (.drop 20 .nil))))))))))))))))) [2] [_] I ?_
 refine By 4 [.o 1 0, .o 3 0] I J2 (nV I (Jt I I I cr) I (Bm 4 I (AP.four ?_ ?_ ?_ ?_)))
 refine Ee I (Db _ _ _ w) (nX ?_ ?_ ?_)
 refine nF [] I I I (nR 1 (([500000, 2000000, 0] : List Int).map rI) (nX ?_ ?_ ?_))
 refine nF [0] I I I (A5 [0] (An a _ _ _ f) ?_)
 refine nT ?_ ?_
 refine nF [] I I I (nR 1 (([0, 200, 100000] : List Int).map rI) (nT ?_ ?_))
 refine nF [0] I I I (A5 [0] (An a _ _ _ b) ?_)
 refine nF [] I I I (nR 1 (([0, 100000, 400000] : List Int).map rI) (nF [0] I I I (A5 [0] (An a _ _ _ e) ?_)))
 rotate_left
 refine nF [] I I I (nR 1 (([0, 100000, 400000] : List Int).map rI) (nF [0] I I I (A5 [0] (An a _ _ _ b) ?_)))
 refine nF [0] I I I (A5 [0] (An a _ _ _ e) ?_)
 rotate_left
 refine nF [] I I I (nR 1 (([0, 100000, 400000] : List Int).map rI) (nF [] I I I (nR 1 (([0, 200, 100000] : List Int).map rI) (nF [0] I I I (A5 [0] (An a _ _ _ b) ?_)))))
 refine nF [0] I I I (A5 [0] (An a _ _ _ e) ?_)
 rotate_left
 refine nF [] I I I (nR 1 (([0, 200, 100000] : List Int).map rI) (nT ?_ ?_))
 refine nF [0] I I I (A5 [0] (An a _ _ _ f) ?_)
 refine nT ?_ ?_
 refine nF [0] I I I (A5 [0] (An a _ _ _ b) ?_)
 refine nF [] I I I (nR 1 (([0, 100000, 400000] : List Int).map rI) (nF [0] I I I (A5 [0] (An a _ _ _ e) ?_)))
 rotate_left
 refine nF [] I I I (nR 1 (([0, 100000, 400000] : List Int).map rI) (nF [0] I I I (A5 [0] (An a _ _ _ b) ?_)))
 refine nF [0] I I I (A5 [0] (An a _ _ _ e) ?_)
 rotate_left
 refine nF [] I I I (nR 1 (([0, 100000, 400000] : List Int).map rI) (nF [0] I I I (A5 [0] (An a _ _ _ f) ?_)))
 refine nF [0] I I I (A5 [0] (An a _ _ _ b) ?_)
 refine nF [0] I I I (A5 [0] (An a _ _ _ e) ?_)
 rotate_left
 refine nF [] I I I (nR 1 (([0, 100000, 400000] : List Int).map rI) (nT ?_ ?_))
 refine nF [0] I I I (A5 [0] (An a _ _ _ f) ?_)
 refine nF [] I I I (nR 1 (([0, 200, 100000] : List Int).map rI) (nF [0] I I I (A5 [0] (An a _ _ _ b) ?_)))
 refine nF [0] I I I (A5 [0] (An a _ _ _ e) ?_)
 rotate_left
 refine nF [] I I I (nR 1 (([0, 200, 100000] : List Int).map rI) (nF [0] I I I (A5 [0] (An a _ _ _ f) ?_)))
 refine nF [0] I I I (A5 [0] (An a _ _ _ b) ?_)
 refine nF [0] I I I (A5 [0] (An a _ _ _ e) ?_)
 rotate_left
 refine nF [] I I I (nR 1 (([0, 200, 100000] : List Int).map rI) (nT ?_ ?_))
 refine nF [] I I I (nR 1 (([500000, 2000000, 0] : List Int).map rI) (nT ?_ ?_))
 refine nF [0] I I I (A5 [0] (An a _ _ _ f) ?_)
 refine nT ?_ ?_
 refine nF [0] I I I (A5 [0] (An a _ _ _ b) ?_)
 refine nF [] I I I (nR 1 (([0, 100000, 400000] : List Int).map rI) (nF [0] I I I (A5 [0] (An a _ _ _ e) ?_)))
 rotate_left
 refine nF [] I I I (nR 1 (([0, 100000, 400000] : List Int).map rI) (nF [0] I I I (A5 [0] (An a _ _ _ b) ?_)))
 refine nF [0] I I I (A5 [0] (An a _ _ _ e) ?_)
 rotate_left
 refine nF [] I I I (nR 1 (([0, 100000, 400000] : List Int).map rI) (nF [0] I I I (A5 [0] (An a _ _ _ f) ?_)))
 refine nF [0] I I I (A5 [0] (An a _ _ _ b) ?_)
 refine nF [0] I I I (A5 [0] (An a _ _ _ e) ?_)
 rotate_left
 refine nF [] I I I (nR 1 (([0, 100000, 400000] : List Int).map rI) (nF [] I I I (nR 1 (([500000, 2000000, 0] : List Int).map rI) (nF [0] I I I (A5 [0] (An a _ _ _ f) ?_)))))
 refine nF [0] I I I (A5 [0] (An a _ _ _ b) ?_)
 refine nF [0] I I I (A5 [0] (An a _ _ _ e) ?_)
 rotate_left
 refine nF [] I I I (nR 1 (([0, 100000, 400000] : List Int).map rI) (nT ?_ ?_))
 refine nF [] I I I (nR 1 (([500000, 2000000, 0] : List Int).map rI) (nT ?_ ?_))
 refine nF [0] I I I (A5 [0] (An a _ _ _ f) ?_)
 refine nF [] I I I (nR 1 (([0, 200, 100000] : List Int).map rI) (nF [0] I I I (A5 [0] (An a _ _ _ b) ?_)))
 refine nF [0] I I I (A5 [0] (An a _ _ _ e) ?_)
 rotate_left
 refine nF [] I I I (nR 1 (([0, 200, 100000] : List Int).map rI) (nF [0] I I I (A5 [0] (An a _ _ _ f) ?_)))
 refine nF [0] I I I (A5 [0] (An a _ _ _ b) ?_)
 refine nF [0] I I I (A5 [0] (An a _ _ _ e) ?_)
 rotate_left
 refine nF [] I I I (nR 1 (([0, 200, 100000] : List Int).map rI) (nF [] I I I (nR 1 (([500000, 2000000, 0] : List Int).map rI) (nF [0] I I I (A5 [0] (An a _ _ _ f) ?_)))))
 refine nF [0] I I I (A5 [0] (An a _ _ _ b) ?_)
 refine nF [0] I I I (A5 [0] (An a _ _ _ e) ?_)
 rotate_left
 refine nF [] I I I (nR 1 (([500000, 2000000, 0] : List Int).map rI) (nX ?_ ?_ ?_))
 refine Ee I (Db _ _ _ w) (nX ?_ ?_ ?_)
 refine nF [0] I I I (A5 [0] (An a _ _ _ f) ?_)
 refine nT ?_ ?_
 refine nF [] I I I (nR 1 (([0, 200, 100000] : List Int).map rI) (nT ?_ ?_))
 refine nF [0] I I I (A5 [0] (An a _ _ _ b) ?_)
 refine nF [] I I I (nR 1 (([0, 100000, 400000] : List Int).map rI) (nF [0] I I I (A5 [0] (An a _ _ _ e) ?_)))
 rotate_left
 refine nF [] I I I (nR 1 (([0, 100000, 400000] : List Int).map rI) (nF [0] I I I (A5 [0] (An a _ _ _ b) ?_)))
 refine nF [0] I I I (A5 [0] (An a _ _ _ e) ?_)
 rotate_left
 refine nF [] I I I (nR 1 (([0, 100000, 400000] : List Int).map rI) (nF [] I I I (nR 1 (([0, 200, 100000] : List Int).map rI) (nF [0] I I I (A5 [0] (An a _ _ _ b) ?_)))))
 refine nF [0] I I I (A5 [0] (An a _ _ _ e) ?_)
 rotate_left
 refine nF [] I I I (nR 1 (([0, 200, 100000] : List Int).map rI) (nT ?_ ?_))
 refine nF [0] I I I (A5 [0] (An a _ _ _ f) ?_)
 refine nT ?_ ?_
 refine nF [0] I I I (A5 [0] (An a _ _ _ b) ?_)
 refine nF [] I I I (nR 1 (([0, 100000, 400000] : List Int).map rI) (nF [0] I I I (A5 [0] (An a _ _ _ e) ?_)))
 rotate_left
 refine nF [] I I I (nR 1 (([0, 100000, 400000] : List Int).map rI) (nF [0] I I I (A5 [0] (An a _ _ _ b) ?_)))
 refine nF [0] I I I (A5 [0] (An a _ _ _ e) ?_)
 rotate_left
 refine nF [] I I I (nR 1 (([0, 100000, 400000] : List Int).map rI) (nF [0] I I I (A5 [0] (An a _ _ _ f) ?_)))
 refine nF [0] I I I (A5 [0] (An a _ _ _ b) ?_)
 refine nF [0] I I I (A5 [0] (An a _ _ _ e) ?_)
 rotate_left
 refine nF [] I I I (nR 1 (([0, 100000, 400000] : List Int).map rI) (nT ?_ ?_))
 refine nF [0] I I I (A5 [0] (An a _ _ _ f) ?_)
 refine nF [] I I I (nR 1 (([0, 200, 100000] : List Int).map rI) (nF [0] I I I (A5 [0] (An a _ _ _ b) ?_)))
 refine nF [0] I I I (A5 [0] (An a _ _ _ e) ?_)
 rotate_left
 refine nF [] I I I (nR 1 (([0, 200, 100000] : List Int).map rI) (nF [0] I I I (A5 [0] (An a _ _ _ f) ?_)))
 refine nF [0] I I I (A5 [0] (An a _ _ _ b) ?_)
 refine nF [0] I I I (A5 [0] (An a _ _ _ e) ?_)
 rotate_left
 refine nF [] I I I (nR 1 (([0, 200, 100000] : List Int).map rI) (nT ?_ ?_))
 refine Ee I (Db _ _ _ w) (nT ?_ ?_)
 refine nF [0] I I I (A5 [0] (An a _ _ _ f) ?_)
 refine nT ?_ ?_
 refine nF [0] I I I (A5 [0] (An a _ _ _ b) ?_)
 refine nF [] I I I (nR 1 (([0, 100000, 400000] : List Int).map rI) (nF [0] I I I (A5 [0] (An a _ _ _ e) ?_)))
 rotate_left
 refine nF [] I I I (nR 1 (([0, 100000, 400000] : List Int).map rI) (nF [0] I I I (A5 [0] (An a _ _ _ b) ?_)))
 refine nF [0] I I I (A5 [0] (An a _ _ _ e) ?_)
 rotate_left
 refine nF [] I I I (nR 1 (([0, 100000, 400000] : List Int).map rI) (nF [0] I I I (A5 [0] (An a _ _ _ f) ?_)))
 refine nF [0] I I I (A5 [0] (An a _ _ _ b) ?_)
 refine nF [0] I I I (A5 [0] (An a _ _ _ e) ?_)
 rotate_left
 refine nF [] I I I (nR 1 (([0, 100000, 400000] : List Int).map rI) (Ee I (Db _ _ _ w) (nF [0] I I I (A5 [0] (An a _ _ _ f) ?_))))
 refine nF [0] I I I (A5 [0] (An a _ _ _ b) ?_)
 refine nF [0] I I I (A5 [0] (An a _ _ _ e) ?_)
 rotate_left
 refine nF [] I I I (nR 1 (([0, 100000, 400000] : List Int).map rI) (nT ?_ ?_))
 refine Ee I (Db _ _ _ w) (nT ?_ ?_)
 refine nF [0] I I I (A5 [0] (An a _ _ _ f) ?_)
 refine nF [] I I I (nR 1 (([0, 200, 100000] : List Int).map rI) (nF [0] I I I (A5 [0] (An a _ _ _ b) ?_)))
 refine nF [0] I I I (A5 [0] (An a _ _ _ e) ?_)
 rotate_left
 refine nF [] I I I (nR 1 (([0, 200, 100000] : List Int).map rI) (nF [0] I I I (A5 [0] (An a _ _ _ f) ?_)))
 refine nF [0] I I I (A5 [0] (An a _ _ _ b) ?_)
 refine nF [0] I I I (A5 [0] (An a _ _ _ e) ?_)
 rotate_left
 refine nF [] I I I (nR 1 (([0, 200, 100000] : List Int).map rI) (Ee I (Db _ _ _ w) (nF [0] I I I (A5 [0] (An a _ _ _ f) ?_))))
 refine nF [0] I I I (A5 [0] (An a _ _ _ b) ?_)
 refine nF [0] I I I (A5 [0] (An a _ _ _ e) ?_)
 rotate_left
 refine nF [] I I I (nR 1 (([0, 200, 100000] : List Int).map rI) (nX ?_ ?_ ?_))
 refine Ee I (Db _ _ _ w) (nT ?_ ?_)
 refine nF [] I I I (nR 1 (([500000, 2000000, 0] : List Int).map rI) (nT ?_ ?_))
 refine nF [0] I I I (A5 [0] (An a _ _ _ f) ?_)
 refine nT ?_ ?_
 refine nF [0] I I I (A5 [0] (An a _ _ _ b) ?_)
 refine nF [] I I I (nR 1 (([0, 100000, 400000] : List Int).map rI) (nF [0] I I I (A5 [0] (An a _ _ _ e) ?_)))
 rotate_left
 refine nF [] I I I (nR 1 (([0, 100000, 400000] : List Int).map rI) (nF [0] I I I (A5 [0] (An a _ _ _ b) ?_)))
 refine nF [0] I I I (A5 [0] (An a _ _ _ e) ?_)
 rotate_left
 refine nF [] I I I (nR 1 (([0, 100000, 400000] : List Int).map rI) (nF [0] I I I (A5 [0] (An a _ _ _ f) ?_)))
 refine nF [0] I I I (A5 [0] (An a _ _ _ b) ?_)
 refine nF [0] I I I (A5 [0] (An a _ _ _ e) ?_)
 rotate_left
 refine nF [] I I I (nR 1 (([0, 100000, 400000] : List Int).map rI) (nF [] I I I (nR 1 (([500000, 2000000, 0] : List Int).map rI) (nF [0] I I I (A5 [0] (An a _ _ _ f) ?_)))))
 refine nF [0] I I I (A5 [0] (An a _ _ _ b) ?_)
 refine nF [0] I I I (A5 [0] (An a _ _ _ e) ?_)
 rotate_left
 refine nF [] I I I (nR 1 (([500000, 2000000, 0] : List Int).map rI) (nT ?_ ?_))
 refine Ee I (Db _ _ _ w) (nT ?_ ?_)
 refine nF [0] I I I (A5 [0] (An a _ _ _ f) ?_)
 refine nT ?_ ?_
 refine nF [0] I I I (A5 [0] (An a _ _ _ b) ?_)
 refine nF [] I I I (nR 1 (([0, 100000, 400000] : List Int).map rI) (nF [0] I I I (A5 [0] (An a _ _ _ e) ?_)))
 rotate_left
 refine nF [] I I I (nR 1 (([0, 100000, 400000] : List Int).map rI) (nF [0] I I I (A5 [0] (An a _ _ _ b) ?_)))
 refine nF [0] I I I (A5 [0] (An a _ _ _ e) ?_)
 rotate_left
 refine nF [] I I I (nR 1 (([0, 100000, 400000] : List Int).map rI) (nF [0] I I I (A5 [0] (An a _ _ _ f) ?_)))
 refine nF [0] I I I (A5 [0] (An a _ _ _ b) ?_)
 refine nF [0] I I I (A5 [0] (An a _ _ _ e) ?_)
 rotate_left
 refine nF [] I I I (nR 1 (([0, 100000, 400000] : List Int).map rI) (Ee I (Db _ _ _ w) (nF [0] I I I (A5 [0] (An a _ _ _ f) ?_))))
 refine nF [0] I I I (A5 [0] (An a _ _ _ b) ?_)
 refine nF [0] I I I (A5 [0] (An a _ _ _ e) ?_)
 rotate_left
 refine nF [] I I I (nR 1 (([0, 100000, 400000] : List Int).map rI) (nT ?_ ?_))
 refine Ee I (Db _ _ _ w) (nF [] I I I (nR 1 (([500000, 2000000, 0] : List Int).map rI) (nF [0] I I I (A5 [0] (An a _ _ _ f) ?_))))
 refine nF [0] I I I (A5 [0] (An a _ _ _ b) ?_)
 refine nF [0] I I I (A5 [0] (An a _ _ _ e) ?_)
 rotate_left
 refine nF [] I I I (nR 1 (([500000, 2000000, 0] : List Int).map rI) (Ee I (Db _ _ _ w) (nF [0] I I I (A5 [0] (An a _ _ _ f) ?_))))
 refine nF [0] I I I (A5 [0] (An a _ _ _ b) ?_)
 refine nF [0] I I I (A5 [0] (An a _ _ _ e) ?_)
 rotate_left
 refine nF [] I I I (nR 1 (([0, 100000, 400000] : List Int).map rI) (nX ?_ ?_ ?_))
 refine Ee I (Db _ _ _ w) (nT ?_ ?_)
 refine nF [] I I I (nR 1 (([500000, 2000000, 0] : List Int).map rI) (nT ?_ ?_))
 refine nF [0] I I I (A5 [0] (An a _ _ _ f) ?_)
 refine nF [] I I I (nR 1 (([0, 200, 100000] : List Int).map rI) (nF [0] I I I (A5 [0] (An a _ _ _ b) ?_)))
 refine nF [0] I I I (A5 [0] (An a _ _ _ e) ?_)
 rotate_left
 refine nF [] I I I (nR 1 (([0, 200, 100000] : List Int).map rI) (nF [0] I I I (A5 [0] (An a _ _ _ f) ?_)))
 refine nF [0] I I I (A5 [0] (An a _ _ _ b) ?_)
 refine nF [0] I I I (A5 [0] (An a _ _ _ e) ?_)
 rotate_left
 refine nF [] I I I (nR 1 (([0, 200, 100000] : List Int).map rI) (nF [] I I I (nR 1 (([500000, 2000000, 0] : List Int).map rI) (nF [0] I I I (A5 [0] (An a _ _ _ f) ?_)))))
 refine nF [0] I I I (A5 [0] (An a _ _ _ b) ?_)
 refine nF [0] I I I (A5 [0] (An a _ _ _ e) ?_)
 rotate_left
 refine nF [] I I I (nR 1 (([500000, 2000000, 0] : List Int).map rI) (nT ?_ ?_))
 refine Ee I (Db _ _ _ w) (nT ?_ ?_)
 refine nF [0] I I I (A5 [0] (An a _ _ _ f) ?_)
 refine nF [] I I I (nR 1 (([0, 200, 100000] : List Int).map rI) (nF [0] I I I (A5 [0] (An a _ _ _ b) ?_)))
 refine nF [0] I I I (A5 [0] (An a _ _ _ e) ?_)
 rotate_left
 refine nF [] I I I (nR 1 (([0, 200, 100000] : List Int).map rI) (nF [0] I I I (A5 [0] (An a _ _ _ f) ?_)))
 refine nF [0] I I I (A5 [0] (An a _ _ _ b) ?_)
 refine nF [0] I I I (A5 [0] (An a _ _ _ e) ?_)
 rotate_left
 refine nF [] I I I (nR 1 (([0, 200, 100000] : List Int).map rI) (Ee I (Db _ _ _ w) (nF [0] I I I (A5 [0] (An a _ _ _ f) ?_))))
 refine nF [0] I I I (A5 [0] (An a _ _ _ b) ?_)
 refine nF [0] I I I (A5 [0] (An a _ _ _ e) ?_)
 rotate_left
 refine nF [] I I I (nR 1 (([0, 200, 100000] : List Int).map rI) (nT ?_ ?_))
 refine Ee I (Db _ _ _ w) (nF [] I I I (nR 1 (([500000, 2000000, 0] : List Int).map rI) (nF [0] I I I (A5 [0] (An a _ _ _ f) ?_))))
 refine nF [0] I I I (A5 [0] (An a _ _ _ b) ?_)
 refine nF [0] I I I (A5 [0] (An a _ _ _ e) ?_)
 rotate_left
 refine nF [] I I I (nR 1 (([500000, 2000000, 0] : List Int).map rI) (Ee I (Db _ _ _ w) (nF [0] I I I (A5 [0] (An a _ _ _ f) ?_))))
 refine nF [0] I I I (A5 [0] (An a _ _ _ b) ?_)
 refine nF [0] I I I (A5 [0] (An a _ _ _ e) ?_)
 any_goals
  refine Cr I (Ao (l := [.v (.string a0), .V g.2.2.2.2, .V a1.1, .V a2.1, .V ak.1]) Xj I) I (nF [] I I I (nR 5 (([(⟨a0, g.2.2.2.2, a1.1, a2.1, ak.1⟩ : Station)] : List Station).map A4) (nF [6] I I I (Bf 6 I cq fun a3 => Bm 1 I (nL 6 I fun ct => nW [2] I I I (nU 2 0 3 (es' := [[.v i, .v t, .v H, .v a3, .V j.1, .V k.1]]) I I I I I I (Ai ct) I (Bs I) I I (Ak (nE ?_))))))))
  exact lg ⟨(ak.2.L_, ak.2.At, E.2.2, cp), H, a3, h, I2⟩ [0, 1, 2, 3, 4, 5, 6]
 intro co h
 refine nI ?_
 exact lg ⟨(Q.1, Q.2.1, E.2.2, g.2.2.2.1), H, D, h, I2⟩ [0, 1, 2, 3, 4, 5, 6]
 rintro s ob ⟨U, ah, ai, h, rfl, rfl⟩
 unfold It.J6 at h
 refine nD (Af 3 I ?_)
 obtain rfl := oi h
 refine nE ?_
 exact ⟨_, _, _, I, ⟨ah, ai, I2⟩, J5, [0, 1, 2, 3, 4, 5, 6], I, by decide⟩
 intro cj h
 obtain rfl := cg _ (oi h).symm
 replace h := cf
 refine nO ?_
 exact lg ⟨(g.1, g.2.1, g.2.2.1, g.2.2.2.1), O, D, h, I2⟩ [0, 1, 2, 3, 4, 5, 6]
 rintro s ob ⟨u, R, S, h, rfl, rfl⟩
 unfold It.J4 at h
 refine nH (nD (Ap 1 [.o 0 2] I J1 (nG [1] I (Ax 1 0 0 [[.v i, .v t, .v R, .v S, .V j.1, .V k.1]] I (nE (nM (A0 [3, 4, 5, 6] (K := [.us i 9 1 (n.2.2.map rS), .us t 83 7 (y.2.2.map Ar), .us R 85 3 (u.2.2.1.map Bj), .us S 93 5 (u.2.2.2.map A4)]) I [] J (ob' := [.arr a 88 2 1 [[.list 1 (u.1.map rI), .V u.2.1]], .arr A 32 6 1 [[.list 1 (n.2.2.map rS), .list 7 (y.2.2.map Ar), .list 3 (u.2.2.1.map Bj), .list 5 (u.2.2.2.map A4), .V j.1, .V k.1]], .arr B 32 6 1 [[.v i, .v t, .v R, .v S, .V j.1, .V k.1]]]) (.cons (.same _) (.cons (.arr (.cons (.us 0 I) (.cons (.us 1 I) (.cons (.us 2 I) (.cons (.us 3 I) (.rest _)))))) (.rest _)))) (Cb [0, 1] I ?_)))))))
 obtain rfl := oi h
 exact nK ⟨.inr I, [_], [.arr a 88 2 1 [[.list 1 (u.1.map rI), .V u.2.1]]], ⟨⟨1, _, _, _, _, _, _, _, I5⟩, J⟩, Dn I (Cf), ⟨[.arr a 88 2 1 [[.list 1 (u.1.map rI), .V u.2.1]]], [], I5⟩⟩
end Go.Proofs.YtmaamhgjeampmaaGreat
