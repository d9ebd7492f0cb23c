/- Walks that show what functions of the program compute; printed by a program of ours. No condition. -/
import Derived.Test.YtodeekicjiengaaGreatDoorYwL3
import Derived.Test.YtodeekicjiengaaGreatDoorYwD
set_option maxRecDepth 100000
namespace Go.Proofs.YtodeekicjiengaaGreatDoor
open Go.Aw
set_option linter.unusedVariables false
set_option linter.unusedSimpArgs false
set_option maxHeartbeats 4000000
abbrev Pr : PL := .act 15 (.still 16 (.act 17 (.act 18 (.still 19 (.drop 20 .nil)))))
abbrev bD : PL := .act 9 (.act 12 Pr)
abbrev Xo : PL := sl 27 0 (.still 28 (sl 3 30 (.act 27 (.still 29 (.still 33 (.still 34 .nil))))))
abbrev Xn : PL := .two 9 14 (.two 12 14 (.act 14 Pr) (.act 12 Pr)) bD
abbrev Xm : PL := .two 9 11 (.act 11 (.act 12 Pr)) bD
abbrev qW : PL := .three 9 11 14 (.two 11 14 (.two 12 14 (.act 14 Pr) (.act 12 Pr)) (.act 11 (.act 12 Pr))) Xn Xm
abbrev qV : PL := .act 9 (.still 10 (.act 11 (.act 12 (.still 13 (.drop 14 .nil)))))
abbrev S5 : PL := .act 8 bD
abbrev S4 : PL := .act 5 bD
abbrev kX : PL := sl 8 0 (.act 8 (.act 9 (.still 10 (.drop 11 .nil))))
abbrev kW : PL := .still 20 (.act 21 (.act 22 (.act 23 .nil)))
theorem iX (a : Nat) (aq : KS) (r : Nw × KS) (h : V6 aq = some r) : ACalls Aj 7 [.v (.pointer (some ⟨a, 0, none⟩))] [O2 a [Cq aq]] (Ea 1 fun x os new => x = .agg (Ab r.1) ∧ os = [O2 a [Cq r.2]] ∧ new = []) := by
 refine Ae Tryz.func7 I I I fun C hC => ?_
 refine Aa fun y1 a4 => tV (tX [] I (uF W3 6 fun A => tW ?_))
 subst a4
 refine Aa fun y3 a5 => ?_
 obtain ⟨j, a6, h⟩ := Ac h
 obtain ⟨k, a7, h⟩ := Ac h
 refine tV (Af 1 I (tX [] I (uG 1 (([(-100000), 0, 50000] : Li).map rI) (tX [0] I (A1 [0] (Al a _ _ _ a6) ?_)))))
 refine Af 1 I (tX [] I (uG 1 (([0, 1, 5, 100] : Li).map rI) (tX [0] I (A1 [0] (Al a _ _ _ a7) ?_))))
 refine uH (Au (l := [.N, .N, .N, .N, .V j.1, .V k.1]) H9 I) I (tX [] I (uF W3 6 fun B => tX [2] I (A3 2 0 0 [[.N, .N, .N, .N, .V j.1, .V k.1]] I (tW ?_))))
 subst a5
 refine Ai (fun s ob => ∃ (n : Li × Int × (List Bt)) (i : Value), V6.J1 j k n = some r ∧ s = [] ∧ ob = [O2 a [[Q0 n.1, .V n.2.1]], O0 A [W3], O0 B [[.v i, .N, .N, .N, .V j.1, .V k.1]], U3 i n.2.2]) [(0, _), (2, _), (3, _)] J3 ?_ ?_
 refine Aa fun cw a8 => ?_
 obtain ⟨al, a9, h⟩ := Ac h
 refine tV (Af 1 I (tX [0] I (A1 [0] (D3 a _ _ _ _ a9) ?_)))
 refine Af 1 I (tW ?_)
 subst a8
 refine uA (uD (Bs 9 1) ?_)
 obtain ⟨cx, ba, bb⟩ := Ac h
 refine Cs ba [(0, _), (2, _), (3, _)] J3 (fun (ab : (List Bt) × Int) s ob => ∃ (ac : Value), s = [(4, .V ab.2)] ∧ ob = [O2 a [Cq al.2], O0 A [W3], O0 B [[.v ac, .N, .N, .N, .V j.1, .V k.1]], U3 ac ab.1]) ⟨(.slice none 0 0), I2⟩ ⟨I, J⟩ ⟨[0, 1, 2, 3], I, by decide⟩ ?_
 rintro ab cy s ob ⟨ac, rfl, rfl⟩ h bc
 refine Aa fun cz bd => Ah I (Ar h I ?_ ?_)
 intro be h
 refine tZ ?_
 subst bd
 refine uB (uA ?_)
 obtain ⟨bf, bg, h⟩ := Ac h
 obtain ⟨c1, bh, h⟩ := Ac h
 refine E5 3 I fun bi => Bz (sl 5 0 (.act 5 (.act 6 (.act 7 (.still 8 (.drop 9 .nil)))))) [2] [_] I (Ca 4 [.o 1 0, .o 3 0] I J2 (uM I (E4 I I I bi) I (Dq I (C5 _ _ _ bg) (tY [] I I I (uG 1 (([bf] : List Bt).map rS) (tY [3] I I I (C9 3 I bh fun ar => Bf 1 I (uI 3 I fun bj => uP [2] I I I (uN 2 0 0 (es' := [[.v ar, .N, .N, .N, .V j.1, .V k.1]]) I I I I I I (A8 bj) I (Cb I) I I (Ap (tW (tV ?_))))))))))))
 refine Af 3 I ?_
 cases io h
 exact tW ⟨_, _, _, I, ⟨ar, I2⟩, J4, [0, 1, 2, 3], I, by decide⟩
 intro be h
 obtain rfl := bc _ (oi h).symm
 have h := bb
 exact uE (lg ⟨(al.2.L_, al.2.At, ab.1), ac, h, I2⟩ [0, 1, 2, 3])
 rintro s ob ⟨n, i, h, rfl, rfl⟩
 unfold V6.J1 at h
 refine Aa fun c2 bk => tV (An 2 [.o 1 2] I J1 (uJ (C0 3 I I I I) I (Af 2 I (tW ?_))))
 subst bk
 refine Ai (fun s ob => ∃ (X : Li × Int × (List Sg)) (ad : Value), V6.J2 j k n X = some r ∧ s = [] ∧ ob = [O2 a [[Q0 X.1, .V X.2.1]], O0 A [W3], O0 B [[.v i, .v ad, .N, .N, .V j.1, .V k.1]], U3 i n.2.2, U7 ad X.2.2]) [(0, _), (2, _), (3, _), (5, _)] J4 ?_ ?_
 refine Ah I (uA (uD (Bs 64 7) ?_))
 obtain ⟨c3, bl, bm⟩ := Ac h
 refine Cs bl [(0, _), (2, _), (3, _), (5, _)] J4 (fun (F : Li × Int × (List Sg) × Int) s ob => ∃ (ae : Value), s = [(6, .V F.2.2.2)] ∧ ob = [O2 a [[Q0 F.1, .V F.2.1]], O0 A [W3], O0 B [[.v i, .v ae, .N, .N, .V j.1, .V k.1]], U3 i n.2.2, U7 ae F.2.2.1]) ⟨(.slice none 0 0), I2⟩ ⟨I, J⟩ ⟨[0, 1, 2, 3, 4], I, by decide⟩ ?_
 rintro F c4 s ob ⟨ae, rfl, rfl⟩ h bn
 refine Aa fun c5 bo => Ah I (Ar h I ?_ ?_)
 intro bp h
 refine tZ ?_
 subst bo
 refine uB (uA ?_)
 obtain ⟨bq, br, h⟩ := Ac h
 obtain ⟨c6, bs, h⟩ := Ac h
 refine E5 4 I fun bu => Bz (sl 9 0 (.act 9 (.act 10 (.act 11 (.still 12 (.drop 13 .nil)))))) [2] [_] I (Ca 5 [.o 1 0, .o 4 0] I J2 (uM I (E4 I I I bu) I (Bf 3 I (tY [0] I I I (A1 [0] (T9 a _ _ _ _ _ br) ?_)))))
 refine tY [] I I I (uG 7 (([bq.1] : List Sg).map Ak) (tY [4] I I I (C9 4 I bs fun au => Bf 1 I (uI 4 I fun bv => uP [2] I I I (uN 2 0 1 (es' := [[.v i, .v au, .N, .N, .V j.1, .V k.1]]) I I I I I I (A8 bv) I (Cb I) I I (Ap (tW (tV (Af 3 I ?_)))))))))
 cases io h
 exact tW ⟨_, _, _, I, ⟨au, I2⟩, J5, [0, 1, 2, 3, 4], I, by decide⟩
 intro bp h
 obtain rfl := bn _ (oi h).symm
 have h := bm
 exact uE (lg ⟨(F.1, F.2.1, F.2.2.1), ae, h, I2⟩ [0, 1, 2, 3, 4])
 rintro s ob ⟨X, ad, h, rfl, rfl⟩
 unfold V6.J2 at h
 refine Ai (fun s ob => ∃ (y : Li × Int × (List Sg)) (t : Value), V6.J3 j k n y = some r ∧ s = [] ∧ ob = [O2 a [[Q0 y.1, .V y.2.1]], O0 A [W3], O0 B [[.v i, .v t, .N, .N, .V j.1, .V k.1]], U3 i n.2.2, U7 t y.2.2]) [(0, _), (2, _), (3, _), (5, _)] J4 ?_ ?_
 refine Aa fun c7 bw => ?_
 obtain ⟨c8, bx, h⟩ := Ac h
 refine tV (Af 1 I (tX [0] I (A1 [0] (Dj a _ _ _ bx) ?_)))
 refine Af 1 I (tW ?_)
 subst bw
 refine uA ?_
 obtain ⟨c9, bz, b1⟩ := Ac h
 refine Cs bz [(0, _), (2, _), (3, _), (5, _)] J4 (fun (G : Li × Int × (List Sg) × Int) s ob => ∃ (af : Value), s = [(7, .V G.2.2.2)] ∧ ob = [O2 a [[Q0 G.1, .V G.2.1]], O0 A [W3], O0 B [[.v i, .v af, .N, .N, .V j.1, .V k.1]], U3 i n.2.2, U7 af G.2.2.1]) ⟨ad, I2⟩ ⟨I, J⟩ ⟨[0, 1, 2, 3, 4], I, by decide⟩ ?_
 rintro G da s ob ⟨af, rfl, rfl⟩ h b3
 refine Aa fun db b4 => Ah I (Ar h I ?_ ?_)
 intro b5 h
 refine tZ ?_
 subst b4
 refine uB (uA (Aa fun dc b6 => ?_))
 obtain ⟨dd, b7, h⟩ := Ac h
 refine tV (Af 2 I (tX [0] I (A1 [0] (Dj a _ _ _ b7) ?_)))
 refine Af 1 I (tW ?_)
 subst b6
 obtain ⟨de, b8, h⟩ := Ac h
 obtain ⟨b9, ca, h⟩ := Ac h
 obtain ⟨df, cb, h⟩ := Ac h
 refine E5 4 I fun cc => Bz (sl 11 0 (.act 11 (.act 12 (.act 13 (.act 14 (.still 15 (.drop 16 .nil))))))) [2] [_] I (Ca 5 [.o 1 0, .o 4 0] I J2 (uM I (E4 I I I cc) I (Bf 5 I (tY [0] I I I (A1 [0] (D3 a _ _ _ _ b8) ?_)))))
 refine tY [0] I I I (A1 [0] (T9 a _ _ _ _ _ ca) ?_)
 refine tY [] I I I (uG 7 (([b9.1] : List Sg).map Ak) (tY [4] I I I (C9 4 I cb fun av => Bf 1 I (uI 4 I fun cd => uP [2] I I I (uN 2 0 1 (es' := [[.v i, .v av, .N, .N, .V j.1, .V k.1]]) I I I I I I (A8 cd) I (Cb I) I I (Ap (tW (tV (Af 3 I ?_)))))))))
 cases io h
 exact tW ⟨_, _, _, I, ⟨av, I2⟩, J5, [0, 1, 2, 3, 4], I, by decide⟩
 intro b5 h
 obtain rfl := b3 _ (oi h).symm
 have h := b1
 exact uE (lg ⟨(G.1, G.2.1, G.2.2.1), af, h, I2⟩ [0, 1, 2, 3, 4])
 rintro s ob ⟨y, t, h, rfl, rfl⟩
 unfold V6.J3 at h
 refine Ai (fun s ob => ∃ (u : Li × Int × (List Port) × (List Sn)) (R : Value) (S : Value), V6.J4 j k n y u = some r ∧ s = [] ∧ ob = [O2 a [[Q0 u.1, .V u.2.1]], O0 A [W3], O0 B [[.v i, .v t, .v R, .v S, .V j.1, .V k.1]], U3 i n.2.2, U7 t y.2.2, rC R u.2.2.1, rA S u.2.2.2]) [(2, _), (3, _)] J2 ?_ ?_
 refine Ah I (uA (uD (Bs 68 3) (uD (Bs 70 5) ?_)))
 obtain ⟨dg, ce, cf⟩ := Ac h
 refine Cs ce [(0, _), (2, _), (3, _), (5, _)] J4 (fun (g : Li × Int × (List Port) × (List Sn) × Int) s ob => ∃ (O : Value) (D : Value), s = [(9, .V g.2.2.2.2)] ∧ ob = [O2 a [[Q0 g.1, .V g.2.1]], O0 A [W3], O0 B [[.v i, .v t, .v O, .v D, .V j.1, .V k.1]], U3 i n.2.2, U7 t y.2.2, rC O g.2.2.1, rA D g.2.2.2.1]) ⟨(.slice none 0 0), (.slice none 0 0), I2⟩ ⟨I, J⟩ ⟨[0, 1, 2, 3, 4, 5, 6], I, by decide⟩ ?_
 rintro g ag s ob ⟨O, D, rfl, rfl⟩ h cg
 refine Aa fun dh ci => Ah I (Ar h I ?_ ?_)
 intro cj h
 refine tZ ?_
 subst ci
 refine Ai (fun s ob => ∃ (U : Li × Int × (List Port) × (List Sn)) (ah : Value) (ai : Value), V6.J6 g U = some ag ∧ s = [] ∧ ob = [O2 a [[Q0 U.1, .V U.2.1]], O0 A [W3], O0 B [[.v i, .v t, .v ah, .v ai, .V j.1, .V k.1]], U3 i n.2.2, U7 t y.2.2, rC ah U.2.2.1, rA ai U.2.2.2]) [(0, _), (2, _), (3, _), (5, _), (9, _)] J5 ?_ ?_
 refine uA (Ai (fun s ob => ∃ (E : Li × Int × (List Port)) (H : Value), V6.J7 n g E = some ag ∧ s = [] ∧ ob = [O2 a [[Q0 E.1, .V E.2.1]], O0 A [W3], O0 B [[.v i, .v t, .v H, .v D, .V j.1, .V k.1]], U3 i n.2.2, U7 t y.2.2, rC H E.2.2, rA D g.2.2.2.1]) [(0, _), (2, _), (3, _), (5, _), (9, _)] J5 ?_ ?_)
 refine Ai (fun s ob => ∃ (P : Li × Int × Bool), V6.J9 n g P = some ag ∧ s = [(95, .v (.bool P.2.2))] ∧ ob = [O2 a [[Q0 P.1, .V P.2.1]], O0 A [W3], O0 B [[.v i, .v t, .v O, .v D, .V j.1, .V k.1]], U3 i n.2.2, U7 t y.2.2, rC O g.2.2.1, rA D g.2.2.2.1]) [(0, _), (2, _), (3, _), (5, _), (9, _)] J5 ?_ ?_
 rcases bt ((g.2.2.2.2 == 0)) with W | W
 have h := Bu W h
 exact tV (Af 3 I (Ad 86 I W (Af 9 I (tW (lg ⟨(g.1, g.2.1, true), h, I2⟩ [0, 1, 2, 3, 4, 5, 6])))))
 have h := Bv W h
 rcases bt ((g.2.2.2.2 == (wr ((n.2.2.length : Int) - 1)))) with Y | Y
 have h := Bu Y h
 exact tV (Af 3 I (Ad 86 I W (Af 5 I (Ad 91 I Y (Af 4 I (tW (lg ⟨(g.1, g.2.1, true), h, I2⟩ [0, 1, 2, 3, 4, 5, 6])))))))
 have h := Bv Y h
 obtain ⟨am, ck, h⟩ := Ac h
 refine tV (Af 3 I (Ad 86 I W (Af 5 I (Ad 91 I Y (Af 1 I (Cf I I I (tX [0] I (A1 [0] (Dj a _ _ _ ck) ?_))))))))
 exact Af 2 I (tW (lg ⟨(am.2.L_, am.2.At, (am.1 == 0)), h, I2⟩ [0, 1, 2, 3, 4, 5, 6]))
 rintro s ob ⟨P, h, rfl, rfl⟩
 refine Ar h I ?_ ?_
 intro cl h
 obtain ⟨aj, aw, h⟩ := Ac h
 obtain ⟨M, ax, h⟩ := Ac h
 obtain ⟨ay, az, h⟩ := Ac h
 refine E5 5 I fun cm => Bz (sl 5 0 (.still 6 (.still 7 (.two 5 8 (.act 8 qV) (.act 5 qV))))) [2] [_] I (Ca 4 [.o 1 0, .o 3 0] I J2 (uM I (E4 I I I cm) I (Bf 2 I (uK ?_ ?_))))
 refine Dq I (C5 _ _ _ aw) (tY [] I I I (uG 1 (([300000, 1000000, 0, 5000000] : Li).map rI) (tY [0] I I I (A1 [0] (Al a _ _ _ ax) ?_))))
 exact uQ I (Au (l := [.v (.string aj), .V g.2.2.2.2, .V M.1]) H8 I) I (tY [] I I I (uG 3 (([(⟨aj, g.2.2.2.2, M.1⟩ : Port)] : List Port).map Cc) (tY [5] I I I (C9 5 I az fun Z => Bf 1 I (uI 5 I fun an => uP [2] I I I (uN 2 0 2 (es' := [[.v i, .v t, .v Z, .v D, .V j.1, .V k.1]]) I I I I I I (A8 an) I (Cb I) I I (Ap (tW (lg ⟨(M.2.L_, M.2.At, ay), Z, h, I2⟩ [0, 1, 2, 3, 4, 5, 6])))))))))
 refine tY [] I I I (uG 1 (([300000, 1000000, 0, 5000000] : Li).map rI) (Dq I (C5 _ _ _ aw) (tY [0] I I I (A1 [0] (Al a _ _ _ ax) ?_))))
 exact uQ I (Au (l := [.v (.string aj), .V g.2.2.2.2, .V M.1]) H8 I) I (tY [] I I I (uG 3 (([(⟨aj, g.2.2.2.2, M.1⟩ : Port)] : List Port).map Cc) (tY [5] I I I (C9 5 I az fun Z => Bf 1 I (uI 5 I fun an => uP [2] I I I (uN 2 0 2 (es' := [[.v i, .v t, .v Z, .v D, .V j.1, .V k.1]]) I I I I I I (A8 an) I (Cb I) I I (Ap (tW (lg ⟨(M.2.L_, M.2.At, ay), Z, h, I2⟩ [0, 1, 2, 3, 4, 5, 6])))))))))
 intro cl h
 exact tZ (lg ⟨(P.1, P.2.1, g.2.2.1), O, h, I2⟩ [0, 1, 2, 3, 4, 5, 6])
 rintro s ob ⟨E, H, h, rfl, rfl⟩
 unfold V6.J7 at h
 refine Ai (fun s ob => ∃ (Q : Li × Int × Bool), V6.J8 g E Q = some ag ∧ s = [(117, .v (.bool Q.2.2))] ∧ ob = [O2 a [[Q0 Q.1, .V Q.2.1]], O0 A [W3], O0 B [[.v i, .v t, .v H, .v D, .V j.1, .V k.1]], U3 i n.2.2, U7 t y.2.2, rC H E.2.2, rA D g.2.2.2.1]) [(0, _), (2, _), (3, _), (5, _), (9, _)] J5 ?_ ?_
 rcases bt (decide (g.2.2.2.2 < (wr ((n.2.2.length : Int) - 1)))) with aa | aa
 have h := Bu aa h
 obtain ⟨ao, cn, h⟩ := Ac h
 refine tV (Af 4 I (Ad 113 I aa (Af 1 I (Cf I I I (tX [0] I (A1 [0] (Dj a _ _ _ cn) ?_))))))
 exact Af 2 I (tW (lg ⟨(ao.2.L_, ao.2.At, (ao.1 == 0)), h, I2⟩ [0, 1, 2, 3, 4, 5, 6]))
 have h := Bv aa h
 exact tV (Af 4 I (Ad 113 I aa (Af 4 I (tW (lg ⟨(E.1, E.2.1, false), h, I2⟩ [0, 1, 2, 3, 4, 5, 6])))))
 rintro s ob ⟨Q, h, rfl, rfl⟩
 refine Ar h I ?_ ?_
 intro co h
 obtain ⟨a0, w, h⟩ := Ac h
 obtain ⟨a1, f, h⟩ := Ac h
 obtain ⟨a2, b, h⟩ := Ac h
 obtain ⟨ak, e, h⟩ := Ac h
 obtain ⟨cp, cq, h⟩ := Ac h
 refine E5 6 I fun cr => Bz (sl 5 0 (.still 6 (.still 7 (.still 10 (.still 13 (.four 5 8 11 14 (.three 8 11 14 qW (.two 8 14 Xn S5) (.two 8 11 Xm S5)) (.three 5 11 14 qW (.two 5 14 Xn S4) (.two 5 11 Xm S4)) (.three 5 8 14 (.two 8 14 Xn S5) (.two 5 14 Xn S4) (.two 5 8 S5 S4)) (.three 5 8 11 (.two 8 11 Xm S5) (.two 5 11 Xm S4) (.two 5 8 S5 S4)))))))) [2] [_] I ?_
 refine Ca 4 [.o 1 0, .o 3 0] I J2 (uM I (E4 I I I cr) I (Bf 4 I (AP.four ?_ ?_ ?_ ?_)))
 refine Dq I (C5 _ _ _ w) (uT ?_ ?_ ?_)
 refine tY [] I I I (uG 1 (([500000, 2000000, 0] : Li).map rI) (uT ?_ ?_ ?_))
 refine tY [0] I I I (A1 [0] (Al a _ _ _ f) ?_)
 refine uK ?_ ?_
 refine tY [] I I I (uG 1 (([0, 200, 100000] : Li).map rI) (uK ?_ ?_))
 refine tY [0] I I I (A1 [0] (Al a _ _ _ b) ?_)
 refine tY [] I I I (uG 1 (([0, 100000, 400000] : Li).map rI) (tY [0] I I I (A1 [0] (Al a _ _ _ e) ?_)))
 rotate_left
 refine tY [] I I I (uG 1 (([0, 100000, 400000] : Li).map rI) (tY [0] I I I (A1 [0] (Al a _ _ _ b) ?_)))
 refine tY [0] I I I (A1 [0] (Al a _ _ _ e) ?_)
 rotate_left
 refine tY [] I I I (uG 1 (([0, 100000, 400000] : Li).map rI) (tY [] I I I (uG 1 (([0, 200, 100000] : Li).map rI) (tY [0] I I I (A1 [0] (Al a _ _ _ b) ?_)))))
 refine tY [0] I I I (A1 [0] (Al a _ _ _ e) ?_)
 rotate_left
 refine tY [] I I I (uG 1 (([0, 200, 100000] : Li).map rI) (uK ?_ ?_))
 refine tY [0] I I I (A1 [0] (Al a _ _ _ f) ?_)
 refine uK ?_ ?_
 refine tY [0] I I I (A1 [0] (Al a _ _ _ b) ?_)
 refine tY [] I I I (uG 1 (([0, 100000, 400000] : Li).map rI) (tY [0] I I I (A1 [0] (Al a _ _ _ e) ?_)))
 rotate_left
 refine tY [] I I I (uG 1 (([0, 100000, 400000] : Li).map rI) (tY [0] I I I (A1 [0] (Al a _ _ _ b) ?_)))
 refine tY [0] I I I (A1 [0] (Al a _ _ _ e) ?_)
 rotate_left
 refine tY [] I I I (uG 1 (([0, 100000, 400000] : Li).map rI) (tY [0] I I I (A1 [0] (Al a _ _ _ f) ?_)))
 refine tY [0] I I I (A1 [0] (Al a _ _ _ b) ?_)
 refine tY [0] I I I (A1 [0] (Al a _ _ _ e) ?_)
 rotate_left
 refine tY [] I I I (uG 1 (([0, 100000, 400000] : Li).map rI) (uK ?_ ?_))
 refine tY [0] I I I (A1 [0] (Al a _ _ _ f) ?_)
 refine tY [] I I I (uG 1 (([0, 200, 100000] : Li).map rI) (tY [0] I I I (A1 [0] (Al a _ _ _ b) ?_)))
 refine tY [0] I I I (A1 [0] (Al a _ _ _ e) ?_)
 rotate_left
 refine tY [] I I I (uG 1 (([0, 200, 100000] : Li).map rI) (tY [0] I I I (A1 [0] (Al a _ _ _ f) ?_)))
 refine tY [0] I I I (A1 [0] (Al a _ _ _ b) ?_)
 refine tY [0] I I I (A1 [0] (Al a _ _ _ e) ?_)
 rotate_left
 refine tY [] I I I (uG 1 (([0, 200, 100000] : Li).map rI) (uK ?_ ?_))
 refine tY [] I I I (uG 1 (([500000, 2000000, 0] : Li).map rI) (uK ?_ ?_))
 refine tY [0] I I I (A1 [0] (Al a _ _ _ f) ?_)
 refine uK ?_ ?_
 refine tY [0] I I I (A1 [0] (Al a _ _ _ b) ?_)
 refine tY [] I I I (uG 1 (([0, 100000, 400000] : Li).map rI) (tY [0] I I I (A1 [0] (Al a _ _ _ e) ?_)))
 rotate_left
 refine tY [] I I I (uG 1 (([0, 100000, 400000] : Li).map rI) (tY [0] I I I (A1 [0] (Al a _ _ _ b) ?_)))
 refine tY [0] I I I (A1 [0] (Al a _ _ _ e) ?_)
 rotate_left
 refine tY [] I I I (uG 1 (([0, 100000, 400000] : Li).map rI) (tY [0] I I I (A1 [0] (Al a _ _ _ f) ?_)))
 refine tY [0] I I I (A1 [0] (Al a _ _ _ b) ?_)
 refine tY [0] I I I (A1 [0] (Al a _ _ _ e) ?_)
 rotate_left
 refine tY [] I I I (uG 1 (([0, 100000, 400000] : Li).map rI) (tY [] I I I (uG 1 (([500000, 2000000, 0] : Li).map rI) (tY [0] I I I (A1 [0] (Al a _ _ _ f) ?_)))))
 refine tY [0] I I I (A1 [0] (Al a _ _ _ b) ?_)
 refine tY [0] I I I (A1 [0] (Al a _ _ _ e) ?_)
 rotate_left
 refine tY [] I I I (uG 1 (([0, 100000, 400000] : Li).map rI) (uK ?_ ?_))
 refine tY [] I I I (uG 1 (([500000, 2000000, 0] : Li).map rI) (uK ?_ ?_))
 refine tY [0] I I I (A1 [0] (Al a _ _ _ f) ?_)
 refine tY [] I I I (uG 1 (([0, 200, 100000] : Li).map rI) (tY [0] I I I (A1 [0] (Al a _ _ _ b) ?_)))
 refine tY [0] I I I (A1 [0] (Al a _ _ _ e) ?_)
 rotate_left
 refine tY [] I I I (uG 1 (([0, 200, 100000] : Li).map rI) (tY [0] I I I (A1 [0] (Al a _ _ _ f) ?_)))
 refine tY [0] I I I (A1 [0] (Al a _ _ _ b) ?_)
 refine tY [0] I I I (A1 [0] (Al a _ _ _ e) ?_)
 rotate_left
 refine tY [] I I I (uG 1 (([0, 200, 100000] : Li).map rI) (tY [] I I I (uG 1 (([500000, 2000000, 0] : Li).map rI) (tY [0] I I I (A1 [0] (Al a _ _ _ f) ?_)))))
 refine tY [0] I I I (A1 [0] (Al a _ _ _ b) ?_)
 refine tY [0] I I I (A1 [0] (Al a _ _ _ e) ?_)
 rotate_left
 refine tY [] I I I (uG 1 (([500000, 2000000, 0] : Li).map rI) (uT ?_ ?_ ?_))
 refine Dq I (C5 _ _ _ w) (uT ?_ ?_ ?_)
 refine tY [0] I I I (A1 [0] (Al a _ _ _ f) ?_)
 refine uK ?_ ?_
 refine tY [] I I I (uG 1 (([0, 200, 100000] : Li).map rI) (uK ?_ ?_))
 refine tY [0] I I I (A1 [0] (Al a _ _ _ b) ?_)
 refine tY [] I I I (uG 1 (([0, 100000, 400000] : Li).map rI) (tY [0] I I I (A1 [0] (Al a _ _ _ e) ?_)))
 rotate_left
 refine tY [] I I I (uG 1 (([0, 100000, 400000] : Li).map rI) (tY [0] I I I (A1 [0] (Al a _ _ _ b) ?_)))
 refine tY [0] I I I (A1 [0] (Al a _ _ _ e) ?_)
 rotate_left
 refine tY [] I I I (uG 1 (([0, 100000, 400000] : Li).map rI) (tY [] I I I (uG 1 (([0, 200, 100000] : Li).map rI) (tY [0] I I I (A1 [0] (Al a _ _ _ b) ?_)))))
 refine tY [0] I I I (A1 [0] (Al a _ _ _ e) ?_)
 rotate_left
 refine tY [] I I I (uG 1 (([0, 200, 100000] : Li).map rI) (uK ?_ ?_))
 refine tY [0] I I I (A1 [0] (Al a _ _ _ f) ?_)
 refine uK ?_ ?_
 refine tY [0] I I I (A1 [0] (Al a _ _ _ b) ?_)
 refine tY [] I I I (uG 1 (([0, 100000, 400000] : Li).map rI) (tY [0] I I I (A1 [0] (Al a _ _ _ e) ?_)))
 rotate_left
 refine tY [] I I I (uG 1 (([0, 100000, 400000] : Li).map rI) (tY [0] I I I (A1 [0] (Al a _ _ _ b) ?_)))
 refine tY [0] I I I (A1 [0] (Al a _ _ _ e) ?_)
 rotate_left
 refine tY [] I I I (uG 1 (([0, 100000, 400000] : Li).map rI) (tY [0] I I I (A1 [0] (Al a _ _ _ f) ?_)))
 refine tY [0] I I I (A1 [0] (Al a _ _ _ b) ?_)
 refine tY [0] I I I (A1 [0] (Al a _ _ _ e) ?_)
 rotate_left
 refine tY [] I I I (uG 1 (([0, 100000, 400000] : Li).map rI) (uK ?_ ?_))
 refine tY [0] I I I (A1 [0] (Al a _ _ _ f) ?_)
 refine tY [] I I I (uG 1 (([0, 200, 100000] : Li).map rI) (tY [0] I I I (A1 [0] (Al a _ _ _ b) ?_)))
 refine tY [0] I I I (A1 [0] (Al a _ _ _ e) ?_)
 rotate_left
 refine tY [] I I I (uG 1 (([0, 200, 100000] : Li).map rI) (tY [0] I I I (A1 [0] (Al a _ _ _ f) ?_)))
 refine tY [0] I I I (A1 [0] (Al a _ _ _ b) ?_)
 refine tY [0] I I I (A1 [0] (Al a _ _ _ e) ?_)
 rotate_left
 refine tY [] I I I (uG 1 (([0, 200, 100000] : Li).map rI) (uK ?_ ?_))
 refine Dq I (C5 _ _ _ w) (uK ?_ ?_)
 refine tY [0] I I I (A1 [0] (Al a _ _ _ f) ?_)
 refine uK ?_ ?_
 refine tY [0] I I I (A1 [0] (Al a _ _ _ b) ?_)
 refine tY [] I I I (uG 1 (([0, 100000, 400000] : Li).map rI) (tY [0] I I I (A1 [0] (Al a _ _ _ e) ?_)))
 rotate_left
 refine tY [] I I I (uG 1 (([0, 100000, 400000] : Li).map rI) (tY [0] I I I (A1 [0] (Al a _ _ _ b) ?_)))
 refine tY [0] I I I (A1 [0] (Al a _ _ _ e) ?_)
 rotate_left
 refine tY [] I I I (uG 1 (([0, 100000, 400000] : Li).map rI) (tY [0] I I I (A1 [0] (Al a _ _ _ f) ?_)))
 refine tY [0] I I I (A1 [0] (Al a _ _ _ b) ?_)
 refine tY [0] I I I (A1 [0] (Al a _ _ _ e) ?_)
 rotate_left
 refine tY [] I I I (uG 1 (([0, 100000, 400000] : Li).map rI) (Dq I (C5 _ _ _ w) (tY [0] I I I (A1 [0] (Al a _ _ _ f) ?_))))
 refine tY [0] I I I (A1 [0] (Al a _ _ _ b) ?_)
 refine tY [0] I I I (A1 [0] (Al a _ _ _ e) ?_)
 rotate_left
 refine tY [] I I I (uG 1 (([0, 100000, 400000] : Li).map rI) (uK ?_ ?_))
 refine Dq I (C5 _ _ _ w) (uK ?_ ?_)
 refine tY [0] I I I (A1 [0] (Al a _ _ _ f) ?_)
 refine tY [] I I I (uG 1 (([0, 200, 100000] : Li).map rI) (tY [0] I I I (A1 [0] (Al a _ _ _ b) ?_)))
 refine tY [0] I I I (A1 [0] (Al a _ _ _ e) ?_)
 rotate_left
 refine tY [] I I I (uG 1 (([0, 200, 100000] : Li).map rI) (tY [0] I I I (A1 [0] (Al a _ _ _ f) ?_)))
 refine tY [0] I I I (A1 [0] (Al a _ _ _ b) ?_)
 refine tY [0] I I I (A1 [0] (Al a _ _ _ e) ?_)
 rotate_left
 refine tY [] I I I (uG 1 (([0, 200, 100000] : Li).map rI) (Dq I (C5 _ _ _ w) (tY [0] I I I (A1 [0] (Al a _ _ _ f) ?_))))
 refine tY [0] I I I (A1 [0] (Al a _ _ _ b) ?_)
 refine tY [0] I I I (A1 [0] (Al a _ _ _ e) ?_)
 rotate_left
 refine tY [] I I I (uG 1 (([0, 200, 100000] : Li).map rI) (uT ?_ ?_ ?_))
 refine Dq I (C5 _ _ _ w) (uK ?_ ?_)
 refine tY [] I I I (uG 1 (([500000, 2000000, 0] : Li).map rI) (uK ?_ ?_))
 refine tY [0] I I I (A1 [0] (Al a _ _ _ f) ?_)
 refine uK ?_ ?_
 refine tY [0] I I I (A1 [0] (Al a _ _ _ b) ?_)
 refine tY [] I I I (uG 1 (([0, 100000, 400000] : Li).map rI) (tY [0] I I I (A1 [0] (Al a _ _ _ e) ?_)))
 rotate_left
 refine tY [] I I I (uG 1 (([0, 100000, 400000] : Li).map rI) (tY [0] I I I (A1 [0] (Al a _ _ _ b) ?_)))
 refine tY [0] I I I (A1 [0] (Al a _ _ _ e) ?_)
 rotate_left
 refine tY [] I I I (uG 1 (([0, 100000, 400000] : Li).map rI) (tY [0] I I I (A1 [0] (Al a _ _ _ f) ?_)))
 refine tY [0] I I I (A1 [0] (Al a _ _ _ b) ?_)
 refine tY [0] I I I (A1 [0] (Al a _ _ _ e) ?_)
 rotate_left
 refine tY [] I I I (uG 1 (([0, 100000, 400000] : Li).map rI) (tY [] I I I (uG 1 (([500000, 2000000, 0] : Li).map rI) (tY [0] I I I (A1 [0] (Al a _ _ _ f) ?_)))))
 refine tY [0] I I I (A1 [0] (Al a _ _ _ b) ?_)
 refine tY [0] I I I (A1 [0] (Al a _ _ _ e) ?_)
 rotate_left
 refine tY [] I I I (uG 1 (([500000, 2000000, 0] : Li).map rI) (uK ?_ ?_))
 refine Dq I (C5 _ _ _ w) (uK ?_ ?_)
 refine tY [0] I I I (A1 [0] (Al a _ _ _ f) ?_)
 refine uK ?_ ?_
 refine tY [0] I I I (A1 [0] (Al a _ _ _ b) ?_)
 refine tY [] I I I (uG 1 (([0, 100000, 400000] : Li).map rI) (tY [0] I I I (A1 [0] (Al a _ _ _ e) ?_)))
 rotate_left
 refine tY [] I I I (uG 1 (([0, 100000, 400000] : Li).map rI) (tY [0] I I I (A1 [0] (Al a _ _ _ b) ?_)))
 refine tY [0] I I I (A1 [0] (Al a _ _ _ e) ?_)
 rotate_left
 refine tY [] I I I (uG 1 (([0, 100000, 400000] : Li).map rI) (tY [0] I I I (A1 [0] (Al a _ _ _ f) ?_)))
 refine tY [0] I I I (A1 [0] (Al a _ _ _ b) ?_)
 refine tY [0] I I I (A1 [0] (Al a _ _ _ e) ?_)
 rotate_left
 refine tY [] I I I (uG 1 (([0, 100000, 400000] : Li).map rI) (Dq I (C5 _ _ _ w) (tY [0] I I I (A1 [0] (Al a _ _ _ f) ?_))))
 refine tY [0] I I I (A1 [0] (Al a _ _ _ b) ?_)
 refine tY [0] I I I (A1 [0] (Al a _ _ _ e) ?_)
 rotate_left
 refine tY [] I I I (uG 1 (([0, 100000, 400000] : Li).map rI) (uK ?_ ?_))
 refine Dq I (C5 _ _ _ w) (tY [] I I I (uG 1 (([500000, 2000000, 0] : Li).map rI) (tY [0] I I I (A1 [0] (Al a _ _ _ f) ?_))))
 refine tY [0] I I I (A1 [0] (Al a _ _ _ b) ?_)
 refine tY [0] I I I (A1 [0] (Al a _ _ _ e) ?_)
 rotate_left
 refine tY [] I I I (uG 1 (([500000, 2000000, 0] : Li).map rI) (Dq I (C5 _ _ _ w) (tY [0] I I I (A1 [0] (Al a _ _ _ f) ?_))))
 refine tY [0] I I I (A1 [0] (Al a _ _ _ b) ?_)
 refine tY [0] I I I (A1 [0] (Al a _ _ _ e) ?_)
 rotate_left
 refine tY [] I I I (uG 1 (([0, 100000, 400000] : Li).map rI) (uT ?_ ?_ ?_))
 refine Dq I (C5 _ _ _ w) (uK ?_ ?_)
 refine tY [] I I I (uG 1 (([500000, 2000000, 0] : Li).map rI) (uK ?_ ?_))
 refine tY [0] I I I (A1 [0] (Al a _ _ _ f) ?_)
 refine tY [] I I I (uG 1 (([0, 200, 100000] : Li).map rI) (tY [0] I I I (A1 [0] (Al a _ _ _ b) ?_)))
 refine tY [0] I I I (A1 [0] (Al a _ _ _ e) ?_)
 rotate_left
 refine tY [] I I I (uG 1 (([0, 200, 100000] : Li).map rI) (tY [0] I I I (A1 [0] (Al a _ _ _ f) ?_)))
 refine tY [0] I I I (A1 [0] (Al a _ _ _ b) ?_)
 refine tY [0] I I I (A1 [0] (Al a _ _ _ e) ?_)
 rotate_left
 refine tY [] I I I (uG 1 (([0, 200, 100000] : Li).map rI) (tY [] I I I (uG 1 (([500000, 2000000, 0] : Li).map rI) (tY [0] I I I (A1 [0] (Al a _ _ _ f) ?_)))))
 refine tY [0] I I I (A1 [0] (Al a _ _ _ b) ?_)
 refine tY [0] I I I (A1 [0] (Al a _ _ _ e) ?_)
 rotate_left
 refine tY [] I I I (uG 1 (([500000, 2000000, 0] : Li).map rI) (uK ?_ ?_))
 refine Dq I (C5 _ _ _ w) (uK ?_ ?_)
 refine tY [0] I I I (A1 [0] (Al a _ _ _ f) ?_)
 refine tY [] I I I (uG 1 (([0, 200, 100000] : Li).map rI) (tY [0] I I I (A1 [0] (Al a _ _ _ b) ?_)))
 refine tY [0] I I I (A1 [0] (Al a _ _ _ e) ?_)
 rotate_left
 refine tY [] I I I (uG 1 (([0, 200, 100000] : Li).map rI) (tY [0] I I I (A1 [0] (Al a _ _ _ f) ?_)))
 refine tY [0] I I I (A1 [0] (Al a _ _ _ b) ?_)
 refine tY [0] I I I (A1 [0] (Al a _ _ _ e) ?_)
 rotate_left
 refine tY [] I I I (uG 1 (([0, 200, 100000] : Li).map rI) (Dq I (C5 _ _ _ w) (tY [0] I I I (A1 [0] (Al a _ _ _ f) ?_))))
 refine tY [0] I I I (A1 [0] (Al a _ _ _ b) ?_)
 refine tY [0] I I I (A1 [0] (Al a _ _ _ e) ?_)
 rotate_left
 refine tY [] I I I (uG 1 (([0, 200, 100000] : Li).map rI) (uK ?_ ?_))
 refine Dq I (C5 _ _ _ w) (tY [] I I I (uG 1 (([500000, 2000000, 0] : Li).map rI) (tY [0] I I I (A1 [0] (Al a _ _ _ f) ?_))))
 refine tY [0] I I I (A1 [0] (Al a _ _ _ b) ?_)
 refine tY [0] I I I (A1 [0] (Al a _ _ _ e) ?_)
 rotate_left
 refine tY [] I I I (uG 1 (([500000, 2000000, 0] : Li).map rI) (Dq I (C5 _ _ _ w) (tY [0] I I I (A1 [0] (Al a _ _ _ f) ?_))))
 refine tY [0] I I I (A1 [0] (Al a _ _ _ b) ?_)
 refine tY [0] I I I (A1 [0] (Al a _ _ _ e) ?_)
 any_goals
  refine uQ I (Au (l := [.v (.string a0), .V g.2.2.2.2, .V a1.1, .V a2.1, .V ak.1]) aS I) I (tY [] I I I (uG 5 (([(⟨a0, g.2.2.2.2, a1.1, a2.1, ak.1⟩ : Sn)] : List Sn).map Ba) (tY [6] I I I (C9 6 I cq fun a3 => Bf 1 I (uI 6 I fun ct => uP [2] I I I (uN 2 0 3 (es' := [[.v i, .v t, .v H, .v a3, .V j.1, .V k.1]]) I I I I I I (A8 ct) I (Cb I) I I (Ap (tW ?_))))))))
  exact lg ⟨(ak.2.L_, ak.2.At, E.2.2, cp), H, a3, h, I2⟩ [0, 1, 2, 3, 4, 5, 6]
 intro co h
 exact tZ (lg ⟨(Q.1, Q.2.1, E.2.2, g.2.2.2.1), H, D, h, I2⟩ [0, 1, 2, 3, 4, 5, 6])
 rintro s ob ⟨U, ah, ai, h, rfl, rfl⟩
 unfold V6.J6 at h
 refine tV (Af 3 I ?_)
 cases io h
 exact tW ⟨_, _, _, I, ⟨ah, ai, I2⟩, J5, [0, 1, 2, 3, 4, 5, 6], I, by decide⟩
 intro cj h
 obtain rfl := cg _ (oi h).symm
 have h := cf
 exact uE (lg ⟨(g.1, g.2.1, g.2.2.1, g.2.2.2.1), O, D, h, I2⟩ [0, 1, 2, 3, 4, 5, 6])
 rintro s ob ⟨u, R, S, h, rfl, rfl⟩
 refine uB (tV (An 1 [.o 0 2] I J1 (tX [1] I (A3 1 0 0 [[.v i, .v t, .v R, .v S, .V j.1, .V k.1]] I (tW (uD (Bi [3, 4, 5, 6] (K := [U3 i n.2.2, U7 t y.2.2, rC R u.2.2.1, rA S u.2.2.2]) I [] J (ob' := [O2 a [[Q0 u.1, .V u.2.1]], O0 A [[Q1 n.2.2, Q5 y.2.2, Q6 u.2.2.1, Q7 u.2.2.2, .V j.1, .V k.1]], O0 B [[.v i, .v t, .v R, .v S, .V j.1, .V k.1]]]) (.cons (.same _) (.cons (.arr (.cons (.us 0 I) (.cons (.us 1 I) (.cons (.us 2 I) (.cons (.us 3 I) (.rest _)))))) (.rest _)))) (Cv [0, 1] I ?_)))))))
 obtain rfl := oi h
 exact uC ⟨.inr I, [_], [O2 a [[Q0 u.1, .V u.2.1]]], ⟨⟨1, _, _, _, _, _, _, _, I5⟩, J⟩, Cz I (Cm), ⟨[O2 a [[Q0 u.1, .V u.2.1]]], [], I5⟩⟩
theorem Up (a : Int) (r : Int) (h : Hy a = r) : ACalls Aj 37 [.V a] [] (RV (.V r)) := by
 refine Ae Tryz.func37 I I I fun C hC => ?_
 unfold Hy at h
 refine Ah I (Ah I ?_)
 obtain rfl := h
 exact uC pr
theorem gU (b : Plan) (r : Plan) (h : Qd b = some r) : ACalls Aj 38 [.agg (Am b)] [] (RV (.agg (Am r))) := by
 refine Ae Tryz.func38 I I I fun C hC => ?_
 refine Aa fun y1 O => tV (tX [] I (Bo (Am b) 3 fun B => tX [] I (uF W0 3 fun g => tW ?_)))
 subst O
 refine Aa fun y4 P => ?_
 obtain ⟨d, Q, h⟩ := Ac h
 refine tV (tX [] I (uL (sz := 1) (es := ([] : List Bool).map rB) I I I I I I I I I I I dS fun v5 => An 2 [.o 1 0] I J1 (tX [2] I (C9 2 I Q fun a => uS 2 I fun R => uH (Au (l := [.N, .N, .v a]) Ll (As I I (A8 R) I (Cw))) I (tX [] I (uF W0 3 fun i => tX [3] I (A3 3 0 0 [[.N, .N, .v a]] I (tW ?_))))))))
 subst P
 refine Ai (fun s ob => ∃ (e : Li) (c : Value), Qd.J1 b d e = some r ∧ s = [] ∧ ob = [O1 B [Am b], O1 g [W0], U1 a d, O1 i [[.v c, .N, .v a]], U0 c e]) [(1, _), (2, _), (3, _)] J3 ?_ ?_
 refine Bh [.o 1 0, .l 2 (b.Rates.length : Int)] I ⟨Ax, I, J⟩ (uA (B0 12 I fun S => uD (Bs 3 1) ?_))
 obtain ⟨aq, U, W⟩ := Ac h
 refine Cu U [(1, _), (2, _), (3, _), (13, _)] J4 (fun (u : Nat) (w : Li) s ob => ∃ (j : Value), s = [(14, .V (u : Int))] ∧ ob = [O1 B [Am b], O1 g [W0], U1 a d, O1 i [[.v j, .N, .v a]], U0 j w]) ⟨(.slice none 0 0), I2⟩ ⟨I, J⟩ ⟨[0, 1, 2, 3, 4], I, by decide⟩ ?_ ?_
 rintro u D w ar s ob X E ⟨j, rfl, rfl⟩ h
 have Y := Co E
 refine Ah I (Aa fun au Z => Bp I Y (tZ ?_))
 subst Z
 refine uB (uA (Ah I ?_))
 obtain ⟨av, aa, h⟩ := Ac h
 refine Bz kX [3, 0] [_, _] I (Ca 8 [.o 1 0, .o 3 1, .x 5 u (rI D)] I ⟨⟨I, Ag X⟩, I, I, J⟩ (tY [] I I I (uG 1 (([wr (0 - D)] : Li).map rI) (tY [4] I I I (C9 4 I aa fun F => Bf 1 I (uI 4 I fun ab => uP [3] I I I (uN 3 0 0 (es' := [[.v F, .N, .v a]]) I I I I I I (A8 ab) I (Cb I) I I (Ap (tW (tV (An 2 [.k 0 (u + 1 : Nat)] I ⟨A0 E S, J⟩ ?_)))))))))))
 cases io h
 exact tW (lg ⟨F, I2⟩ [0, 1, 2, 3, 4])
 rintro w s ob ⟨j, rfl, rfl⟩ he
 subst he
 have h := W
 have ac := Cp b.Rates.length
 exact Ah I (Aa fun aw ax => Br I ac (uE (lg ⟨w, j, h, I2⟩ [0, 1, 2, 3, 4])))
 rintro s ob ⟨e, c, h, rfl, rfl⟩
 unfold Qd.J1 at h
 refine Ai (fun s ob => ∃ (n : Li) (f : Value), Qd.J2 d e n = some r ∧ s = [] ∧ ob = [O1 g [W0], U1 a d, O1 i [[.v c, .v f, .v a]], U0 c e, U0 f n]) [(2, _), (3, _)] J2 ?_ ?_
 refine Bh [.o 1 0, .l 2 (b.Ports.length : Int)] I ⟨Ax, I, J⟩ (uA (B0 30 I fun ad => uD (Bs 3 1) ?_))
 obtain ⟨ay, ae, af⟩ := Ac h
 refine Cu ae [(1, _), (2, _), (3, _), (31, _)] J4 (fun (y : Nat) (A : Li) s ob => ∃ (t : Value), s = [(32, .V (y : Int))] ∧ ob = [O1 B [Am b], O1 g [W0], U1 a d, O1 i [[.v c, .v t, .v a]], U0 c e, U0 t A]) ⟨(.slice none 0 0), I2⟩ ⟨I, J⟩ ⟨[0, 1, 2, 3, 4, 5], I, by decide⟩ ?_ ?_
 rintro y G A az s ob ag H ⟨t, rfl, rfl⟩ h
 have ah := Co H
 refine Ah I (Aa fun a0 ai => Bp I ah (tZ ?_))
 subst ai
 refine uB (uA (Ah I ?_))
 obtain ⟨a1, aj, h⟩ := Ac h
 refine Bz kX [3, 0] [_, _] I (Ca 8 [.o 1 0, .o 3 1, .x 5 y (rI G)] I ⟨⟨I, Ag ag⟩, I, I, J⟩ (tY [] I I I (uG 1 (([wr (0 - G)] : Li).map rI) (tY [5] I I I (C9 5 I aj fun M => Bf 1 I (uI 5 I fun ak => uP [3] I I I (uN 3 0 1 (es' := [[.v c, .v M, .v a]]) I I I I I I (A8 ak) I (Cb I) I I (Ap (tW (tV (An 2 [.k 0 (y + 1 : Nat)] I ⟨A0 H ad, J⟩ ?_)))))))))))
 cases io h
 exact tW (lg ⟨M, I2⟩ [0, 1, 2, 3, 4, 5])
 rintro A s ob ⟨t, rfl, rfl⟩ he
 subst he
 have h := af
 have al := Cp b.Ports.length
 exact Ah I (Aa fun a2 a3 => Br I al (uE (lg ⟨A, t, h, I2⟩ [1, 2, 3, 4, 5])))
 rintro s ob ⟨n, f, h, rfl, rfl⟩
 unfold Qd.J2 at h
 refine uB (tV (An 1 [.o 0 2] I J1 (tX [0] I (A3 0 0 0 [[.v c, .v f, .v a]] I (tW (uD (Bi [1, 3, 4] (K := [U1 a d, U0 c e, U0 f n]) I [] J (ob' := [O1 g [[Q0 e, Q0 n, Q9 d]], O1 i [[.v c, .v f, .v a]]]) (.cons (.arr (.cons (.us 1 I) (.cons (.us 2 I) (.cons (.us 0 I) (.rest _))))) (.rest _))) (Cv [0] I ?_)))))))
 cases io h
 exact uC ⟨.inr I, [_], [], ⟨⟨0, _, _, _, _, _, _, _, I5⟩, J⟩, Cm, I2⟩
theorem iI (i : Nat) (a3 : KS) (j : Nw) (r : Plan × KS) (h : Ql a3 j = some r) : ACalls Aj 15 [.v (.pointer (some ⟨i, 0, none⟩)), .agg (Ab j)] [O2 i [Cq a3]] (Ea 1 fun x os new => x = .agg (Am r.1) ∧ os = [O2 i [Cq r.2]] ∧ new = []) := by
 refine Ae Tryz.func15 I I I fun C hC => ?_
 unfold Ql at h
 refine Aa fun y1 co => tV (tX [] I (Bo (Ab j) 6 fun G => tX [] I (uF W0 3 fun D => tW ?_)))
 subst co
 refine Ai (fun s ob => ∃ (S : Li × Li) (w : Nat) (a : Value) (c : Value), Ql.J1 a3 j S = some r ∧ s = [(5, .v (.pointer (some ⟨w, 0, none⟩)))] ∧ ob = [O2 i [Cq a3], O0 G [Ab j], O1 D [W0], U0 a S.1, U0 c S.2, O1 w [[.v a, .v c, .N]]]) [(0, _), (3, _), (4, _)] J3 ?_ ?_
 obtain ⟨bx, ⟨fg, cp, cq, cr⟩, h⟩ := Gl h
 obtain ⟨bz, ⟨fh, ct, cu, cv⟩, h⟩ := Gl h
 refine Bz (sl 3 0 (sl 3 4 (.par [(3, []), (7, []), (9, []), (8, [3, 7])] (.act 10 .nil)))) [1] [_] I (Ca 6 [.o 1 0, .l 2 (j.Segments.length : Int), .o 4 0, .l 5 (j.Ports.length : Int)] I ⟨Ax, I, Ax, I, J⟩ (AP.any [⟨3, [], 25, .us 3 1 (bx.map rI)⟩, ⟨7, [], 29, .us 3 1 (bz.map rI)⟩, ⟨9, [], 5, .box 48 3 (W0)⟩, ⟨8, [3, 7], 30, .fn fun l => match l with | [.v ae, .v af] => .agg [.v ae, .v af, .N] | _ => .tup []⟩] I ⟨⟨_, I, I, I, fun _ => Bq (sz := 1) I I I I I I I I I I cp cq (Ct (f := rI) cr I) dS fun v => ⟨_, I, ⟨v, I⟩, I⟩⟩, ⟨_, I, I, I, fun _ => Bq (sz := 1) I I I I I I I I I I ct cu (Ct (f := rI) cv I) dS fun v => ⟨_, I, ⟨v, I⟩, I⟩⟩, ⟨_, I, I, I, fun _ => uF W0 3 fun b => ⟨_, I, ⟨b, I⟩, I⟩⟩, ⟨_, I, I, I, fun ae b1 af b4 _ => Ce (Yp.yd (Au (l := [.v ae, .v af, .N]) Ll (As I I (A8 b1) I (As I I (A8 b4) I (Cw))))) dS ⟨_, I, I, nb⟩⟩, J⟩ ?_))
 intro ae b1 af b4 cw
 exact AP.same 30 (.agg [.v ae, .v af, .N]) I (tY [5] I I I (A3 5 0 0 [[.v ae, .v af, .N]] I (Ap (tW (lg ⟨(bx, bz), cw, ae, af, h, I2⟩ [0, 1, 2, 3, 4, 5])))))
 rintro s ob ⟨S, w, a, c, h, rfl, rfl⟩
 unfold Ql.J1 at h
 refine Ai (fun s ob => ∃ (p : Li × Int × (List Bool)) (g : Value), Ql.J2 j S p = some r ∧ s = [] ∧ ob = [O2 i [[Q0 p.1, .V p.2.1]], O0 G [Ab j], O1 D [W0], U0 a S.1, U0 c S.2, O1 w [[.v a, .v c, .v g]], U1 g p.2.2]) [(0, _), (3, _), (4, _), (5, _)] J4 ?_ ?_
 refine Ah I (uA (uD (Bs 4 1) ?_))
 obtain ⟨fi, cx, cy⟩ := Ac h
 refine Cs cx [(0, _), (3, _), (4, _), (5, _)] J4 (fun (Y : Li × Int × (List Bool) × Int) s ob => ∃ (a4 : Value), s = [(6, .V Y.2.2.2)] ∧ ob = [O2 i [[Q0 Y.1, .V Y.2.1]], O0 G [Ab j], O1 D [W0], U0 a S.1, U0 c S.2, O1 w [[.v a, .v c, .v a4]], U1 a4 Y.2.2.1]) ⟨(.slice none 0 0), I2⟩ ⟨I, J⟩ ⟨[0, 1, 2, 3, 4, 5, 6], I, by decide⟩ ?_
 rintro Y fj s ob ⟨a4, rfl, rfl⟩ h cz
 refine Aa fun fk c1 => Bh [.o 2 1, .l 3 (j.Stations.length : Int)] I ⟨Ax, I, J⟩ (Ar h I ?_ ?_)
 intro c2 h
 refine tZ ?_
 subst c1
 refine uB (uA ?_)
 obtain ⟨c3, c4, h⟩ := Ac h
 obtain ⟨fl, c5, h⟩ := Ac h
 refine Bz (sl 3 0 (.act 3 (.still 4 (.act 5 (.act 6 (.still 7 (.drop 8 .nil))))))) [5] [_] I (Ca 3 [.o 1 0] I J1 (tY [0] I I I (A1 [0] (Dj i _ _ _ c4) ?_)))
 refine Bf 1 I (tY [] I I I (uG 1 (([(c3.1 == 0)] : List Bool).map rB) (tY [6] I I I (C9 6 I c5 fun b5 => Bf 1 I (uI 6 I fun c6 => uP [5] I I I (uN 5 0 2 (es' := [[.v a, .v c, .v b5]]) I I I I I I (A8 c6) I (Cb I) I I (Ap (tW (tV (Af 3 I ?_))))))))))
 cases io h
 exact tW ⟨_, _, _, I, ⟨b5, I2⟩, J5, [0, 1, 2, 3, 4, 5, 6], I, by decide⟩
 intro c2 h
 obtain rfl := cz _ (oi h).symm
 have h := cy
 exact uE (lg ⟨(Y.1, Y.2.1, Y.2.2.1), a4, h, I2⟩ [0, 1, 2, 3, 4, 5, 6])
 rintro s ob ⟨p, g, h, rfl, rfl⟩
 refine Aa fun fm c7 => ?_
 obtain ⟨c8, c9, h⟩ := Ac h
 refine tV (Af 1 I (tX [0] I (A1 [0] (Dj i _ _ _ c9) ?_)))
 refine Af 2 I (tW ?_)
 subst c7
 refine Ai (fun s ob => ∃ (u : Li × Int × Li × Li), Ql.J3 p c8 u = some r ∧ s = [] ∧ ob = [O2 i [[Q0 u.1, .V u.2.1]], O1 D [W0], U0 a u.2.2.1, U0 c u.2.2.2, O1 w [[.v a, .v c, .v g]], U1 g p.2.2]) [(4, _), (5, _), (7, _)] J3 ?_ ?_
 refine Aa fun fo da => ?_
 obtain ⟨fp, db, h⟩ := Ac h
 refine tV (Af 1 I (tX [0] I (A1 [0] (Dj i _ _ _ db) ?_)))
 refine Af 1 I (tW ?_)
 subst da
 refine uA ?_
 obtain ⟨fq, dc, dd⟩ := Ac h
 refine Cs dc [(0, _), (3, _), (4, _), (5, _), (7, _)] J5 (fun (e : Li × Int × Li × Li × Int) s ob => s = [(8, .V e.2.2.2.2)] ∧ ob = [O2 i [[Q0 e.1, .V e.2.1]], O0 G [Ab j], O1 D [W0], U0 a e.2.2.1, U0 c e.2.2.2.1, O1 w [[.v a, .v c, .v g]], U1 g p.2.2]) ⟨I, I⟩ ⟨I, J⟩ ⟨[0, 1, 2, 3, 4, 5, 6], I, by decide⟩ ?_
 rintro e a5 s ob ⟨rfl, rfl⟩ h de
 refine Aa fun fr df => Ah I (Ar h I ?_ ?_)
 intro dg h
 refine tZ ?_
 subst df
 refine Ai (fun s ob => ∃ (al : Li × Int × Li × Li), Ql.J5 e al = some a5 ∧ s = [] ∧ ob = [O2 i [[Q0 al.1, .V al.2.1]], O0 G [Ab j], O1 D [W0], U0 a al.2.2.1, U0 c al.2.2.2, O1 w [[.v a, .v c, .v g]], U1 g p.2.2]) [(0, _), (3, _), (4, _), (5, _), (7, _), (8, _)] J6 ?_ ?_
 refine uA (Aa fun fs dh => ?_)
 obtain ⟨bf, di, h⟩ := Ac h
 refine tV (An 4 [.o 2 1, .l 3 (j.Ports.length : Int)] I ⟨Ax, I, J⟩ (tX [0] I (A1 [0] (Dj i _ _ _ di) ?_)))
 refine Af 1 I (tW ?_)
 subst dh
 refine Aa fun ft dj => ?_
 obtain ⟨bg, ⟨dk, dl⟩, h⟩ := A6 h
 obtain ⟨fu, dm, h⟩ := Ac h
 obtain ⟨A, dn, h⟩ := Ac h
 refine Bz (pd 13 0 [8, 9, 10]) [1] [_] I (Ca 8 [.o 1 0, .x 3 bg.1 (Cc bg.2)] I ⟨⟨dk, Ag dl⟩, I, J⟩ (tY [] I I I (uG 1 (([1, 5, 30, 300] : Li).map rI) (tY [0] I I I (A1 [0] (Al i _ _ _ dm) ?_)))))
 refine tY [0] I I I (A1 [0] (D3 i _ _ _ _ dn) ?_)
 refine Bf 2 I (Ap (tW ?_))
 subst dj
 refine Aa fun fv dp => Ai (fun s ob => ∃ (bh : Bool), Ql.J6 j e bf bg A bh = some a5 ∧ s = [(86, .v (.bool bh))] ∧ ob = [O2 i [Cq A.2], O0 G [Ab j], O1 D [W0], U0 a e.2.2.1, U0 c e.2.2.2.1, O1 w [[.v a, .v c, .v g]], U1 g p.2.2]) [(0, _), (3, _), (4, _), (5, _), (7, _), (8, _), (9, _), (10, _), (11, _)] J9 ?_ ?_
 obtain ⟨Z, ⟨b6, a6⟩, h⟩ := A6 h
 refine tV (An 3 [.o 1 5] I J1 (uJ (Bm 4 (m := Z.1) I I I I I I I b6 (Ag a6)) I (uJ (Bl 4 Z.1 0 I I I (Ag a6) I (y := .V Z.2) I) I (Af 2 I ?_))))
 rcases bt (decide (Z.2 < 0)) with ay | ay
 have h := Bu ay h
 exact Ad 77 I ay (Af 9 I (tW (lg ⟨true, h, I2⟩ [0, 1, 2, 3, 4, 5, 6])))
 have h := Bv ay h
 exact Ad 77 I ay (An 3 [.o 1 5] I J1 (Cf I I I (uJ (Bm 4 (m := Z.1) I I I I I I I b6 (Ag a6)) I (Cf I I I (uJ (Bl 4 Z.1 0 I I I (Ag a6) I (y := .V Z.2) I) I (Af 4 I (tW (lg ⟨decide ((wr (Z.2 + A.1)) > 1000), h, I2⟩ [0, 1, 2, 3, 4, 5, 6]))))))))
 rintro s ob ⟨bh, h, rfl, rfl⟩
 refine Ar h I ?_ ?_
 intro dq h
 exact uE (lg ⟨(A.2.L_, A.2.At, e.2.2.1, e.2.2.2.1), h, I2⟩ [0, 1, 2, 3, 4, 5, 6])
 intro dq h
 refine tZ ?_
 subst dp
 refine Ah I (Ah I (Ai (fun s ob => ∃ (E : Li × Int × Li × Int) (am : Value), Ql.J7 j e bf A E = some a5 ∧ s = [(12, .v am), (13, .V E.2.2.2)] ∧ ob = [O2 i [[Q0 E.1, .V E.2.1]], O0 G [Ab j], O1 D [W0], U0 a e.2.2.1, U0 c e.2.2.2.1, O1 w [[.v a, .v c, .v g]], U1 g p.2.2, U0 am E.2.2.1]) [(0, _), (3, _), (4, _), (5, _), (7, _), (8, _), (9, _), (11, _)] J8 ?_ ?_))
 refine uA (uD (Bs 3 1) ?_)
 obtain ⟨fw, dr, bi⟩ := Ac h
 refine Cs dr [(0, _), (3, _), (4, _), (5, _), (7, _), (8, _), (9, _), (11, _)] J8 (fun (n : Li × Int × Int × Li × Int) s ob => ∃ (M : Value), s = [(10, .V n.2.2.1), (12, .v M), (13, .V n.2.2.2.2)] ∧ ob = [O2 i [[Q0 n.1, .V n.2.1]], O0 G [Ab j], O1 D [W0], U0 a e.2.2.1, U0 c e.2.2.2.1, O1 w [[.v a, .v c, .v g]], U1 g p.2.2, U0 M n.2.2.2.1]) ⟨(.slice none 0 0), I2⟩ ⟨I, I, I, J⟩ ⟨[0, 1, 2, 3, 4, 5, 6, 7], I, by decide⟩ ?_
 rintro n b7 s ob ⟨M, rfl, rfl⟩ h bj
 refine Aa fun fx ds => Ah I (Ar h I ?_ ?_)
 intro du h
 refine tZ ?_
 subst ds
 refine uA (Ai (fun s ob => ∃ (F : Li × Int × Int), Ql.J12 j e A n F = some b7 ∧ s = [(13, .V F.2.2)] ∧ ob = [O2 i [[Q0 F.1, .V F.2.1]], O0 G [Ab j], O1 D [W0], U0 a e.2.2.1, U0 c e.2.2.2.1, O1 w [[.v a, .v c, .v g]], U1 g p.2.2, U0 M n.2.2.2.1]) [(0, _), (3, _), (4, _), (5, _), (7, _), (8, _), (9, _), (10, _), (11, _), (12, _)] jW ?_ ?_)
 refine Bh [.o 1 1, .l 2 (j.Ports.length : Int)] I ⟨Ax, I, J⟩ (uA (B0 90 I fun dv => ?_))
 obtain ⟨fy, dw, dx⟩ := Ac h
 refine Cu dw [(0, _), (3, _), (4, _), (5, _), (7, _), (8, _), (9, _), (10, _), (11, _), (12, _), (90, _), (91, _)] sQ (fun (ag : Nat) (P : Li × Int × Int) s ob => s = [(92, .V (ag : Int)), (13, .V P.2.2)] ∧ ob = [O2 i [[Q0 P.1, .V P.2.1]], O0 G [Ab j], O1 D [W0], U0 a e.2.2.1, U0 c e.2.2.2.1, O1 w [[.v a, .v c, .v g]], U1 g p.2.2, U0 M n.2.2.2.1]) ⟨I, I⟩ ⟨I, I, J⟩ ⟨[0, 1, 2, 3, 4, 5, 6, 7], I, by decide⟩ ?_ ?_
 rintro ag bk P b8 s ob dy b9 ⟨rfl, rfl⟩ h
 unfold Ql.B17 at h
 have dz := Co b9
 refine Ah I (Aa fun fz d0 => Bp I dz (tZ ?_))
 subst d0
 refine Ai (fun s ob => ∃ (az : Li × Int × Int), Ql.J18 az = some b8 ∧ s = [(13, .V az.2.2)] ∧ ob = [O2 i [[Q0 az.1, .V az.2.1]], O0 G [Ab j], O1 D [W0], U0 a e.2.2.1, U0 c e.2.2.2.1, O1 w [[.v a, .v c, .v g]], U1 g p.2.2, U0 M n.2.2.2.1]) [(0, _), (3, _), (4, _), (5, _), (7, _), (8, _), (9, _), (10, _), (11, _), (12, _), (90, _), (91, _), (92, _)] sN ?_ ?_
 refine uA (Aa fun f0 d1 => tV (An 3 [.x 1 ag (Cc bk)] I ⟨⟨I, Ag dy⟩, J⟩ (tX [] I (uF W6 3 fun f1 => Af 1 I (tX [8] I (A3 8 0 0 [Cc bk] I (tW ?_)))))))
 subst d1
 refine Ai (fun s ob => ∃ (U : Li × Int × Bool), Ql.J19 ag P U = some b8 ∧ s = [(133, .v (.bool U.2.2))] ∧ ob = [O2 i [[Q0 U.1, .V U.2.1]], O0 G [Ab j], O1 D [W0], U0 a e.2.2.1, U0 c e.2.2.2.1, O1 w [[.v a, .v c, .v g]], U1 g p.2.2, U0 M n.2.2.2.1]) [(0, _), (3, _), (4, _), (5, _), (7, _), (8, _), (9, _), (10, _), (11, _), (12, _), (13, _), (14, _), (90, _), (91, _), (92, _)] tI ?_ ?_
 rcases bt ((bk.Node == n.2.2.1)) with W | W
 have h := Bu W h
 rcases bt (((ag : Int) != bf.1)) with aa | aa
 have h := Bu aa h
 obtain ⟨B, ⟨ah, O⟩, h⟩ := A6 h
 rcases bt (decide (B.2 ≤ 0)) with ai | ai
 have h := Bu ai h
 rcases bt (decide ((wr (B.2 - A.1)) ≥ (-1000))) with an | an
 have h := Bu an h
 rcases bt (decide ((n.2.2.2.1.length : Int) > 0)) with a0 | a0
 have h := Bu a0 h
 obtain ⟨bl, d2, h⟩ := Ac h
 refine tV (An 5 [.o 1 8] I J1 (Ad 101 I W (Af 5 I (Ad 106 I aa (An 3 [.o 1 5] I J1 (Cf I I I (uJ (Bm 4 (m := B.1) I I I I I I I ah (Ag O)) I (Cf I I I (uJ (Bl 4 B.1 0 I I I (Ag O) I (y := .V B.2) I) I (Af 3 I (Ad 114 I ai (An 3 [.o 1 5] I J1 ?_))))))))))))
 refine Cf I I I (uJ (Bm 4 (m := B.1) I I I I I I I ah (Ag O)) I (Cf I I I (uJ (Bl 4 B.1 0 I I I (Ag O) I (y := .V B.2) I) I (Af 5 I (Ad 124 I an (Af 1 I (Cf I I I (uJ (C0 7 I I I I) I (Af 3 I (Ad 129 I a0 (Af 1 I (Cf I I I ?_))))))))))))
 refine tX [0] I (A1 [0] (Dj i _ _ _ d2) ?_)
 exact Af 2 I (tW (lg ⟨(bl.2.L_, bl.2.At, (bl.1 == 0)), h, I2⟩ [0, 1, 2, 3, 4, 5, 6, 7]))
 have h := Bv a0 h
 refine tV (An 5 [.o 1 8] I J1 (Ad 101 I W (Af 5 I (Ad 106 I aa (An 3 [.o 1 5] I J1 (Cf I I I (uJ (Bm 4 (m := B.1) I I I I I I I ah (Ag O)) I (Cf I I I (uJ (Bl 4 B.1 0 I I I (Ag O) I (y := .V B.2) I) I (Af 3 I (Ad 114 I ai (An 3 [.o 1 5] I J1 ?_))))))))))))
 refine Cf I I I (uJ (Bm 4 (m := B.1) I I I I I I I ah (Ag O)) I (Cf I I I (uJ (Bl 4 B.1 0 I I I (Ag O) I (y := .V B.2) I) I (Af 5 I (Ad 124 I an (Af 1 I (Cf I I I (uJ (C0 7 I I I I) I (Af 3 I (Ad 129 I a0 (Af 4 I (tW ?_))))))))))))
 rotate_left
 have h := Bv an h
 refine tV (An 5 [.o 1 8] I J1 (Ad 101 I W (Af 5 I (Ad 106 I aa (An 3 [.o 1 5] I J1 (Cf I I I (uJ (Bm 4 (m := B.1) I I I I I I I ah (Ag O)) I (Cf I I I (uJ (Bl 4 B.1 0 I I I (Ag O) I (y := .V B.2) I) I (Af 3 I (Ad 114 I ai (An 3 [.o 1 5] I J1 ?_))))))))))))
 refine Cf I I I (uJ (Bm 4 (m := B.1) I I I I I I I ah (Ag O)) I (Cf I I I (uJ (Bl 4 B.1 0 I I I (Ag O) I (y := .V B.2) I) I (Af 5 I (Ad 124 I an (Af 9 I (tW ?_)))))))
 rotate_left
 have h := Bv ai h
 refine tV (An 5 [.o 1 8] I J1 (Ad 101 I W (Af 5 I (Ad 106 I aa (An 3 [.o 1 5] I J1 (Cf I I I (uJ (Bm 4 (m := B.1) I I I I I I I ah (Ag O)) I (Cf I I I (uJ (Bl 4 B.1 0 I I I (Ag O) I (y := .V B.2) I) I (Af 3 I (Ad 114 I ai (Af 19 I ?_))))))))))))
 refine tW ?_
 rotate_left
 have h := Bv aa h
 refine tV (An 5 [.o 1 8] I J1 (Ad 101 I W (Af 5 I (Ad 106 I aa (Af 27 I (tW ?_))))))
 rotate_left
 have h := Bv W h
 refine tV (An 5 [.o 1 8] I J1 (Ad 101 I W (Af 32 I (tW ?_))))
 any_goals
  exact lg ⟨(P.1, P.2.1, false), h, I2⟩ [0, 1, 2, 3, 4, 5, 6, 7]
 rintro s ob ⟨U, h, rfl, rfl⟩
 refine Ar h I ?_ ?_
 intro d3 h
 exact Sq I (lg ⟨(U.1, U.2.1, (ag : Int)), h, I2⟩ [0, 1, 2, 3, 4, 5, 6, 7])
 intro d3 h
 exact tZ (lg ⟨(U.1, U.2.1, P.2.2), h, I2⟩ [0, 1, 2, 3, 4, 5, 6, 7])
 rintro s ob ⟨az, h, rfl, rfl⟩
 unfold Ql.J18 at h
 refine tV (An 2 [.k 0 (ag + 1 : Nat)] I ⟨A0 b9 dv, J⟩ ?_)
 cases io h
 exact tW (lg I2 [0, 1, 2, 3, 4, 5, 6, 7])
 rintro P s ob ⟨rfl, rfl⟩ he
 subst he
 have h := dx
 have d4 := Cp j.Ports.length
 exact Ah I (Aa fun f2 f3 => Br I d4 (uE (lg ⟨(P.1, P.2.1, P.2.2), h, I2⟩ [0, 1, 2, 3, 4, 5, 6, 7])))
 rintro s ob ⟨F, h, rfl, rfl⟩
 refine Aa fun f4 d5 => Ah I (Ar h I ?_ ?_)
 intro d6 h
 obtain rfl := bj _ (oi h).symm
 have h := bi
 exact uE (lg ⟨(F.1, F.2.1, n.2.2.2.1, F.2.2), M, h, I2⟩ [0, 1, 2, 3, 4, 5, 6, 7])
 intro d6 h
 refine tZ ?_
 subst d5
 refine Ah I (Ai (fun s ob => ∃ (bm : Li) (bn : Value), Ql.J13 j n F bm = some b7 ∧ s = [(16, .v bn)] ∧ ob = [O2 i [[Q0 F.1, .V F.2.1]], O0 G [Ab j], O1 D [W0], U0 a e.2.2.1, U0 c e.2.2.2.1, O1 w [[.v a, .v c, .v g]], U1 g p.2.2, U0 M n.2.2.2.1, U0 bn bm]) [(0, _), (3, _), (4, _), (5, _), (7, _), (8, _), (9, _), (10, _), (11, _), (12, _), (13, _)] sO ?_ ?_)
 refine Bh [.o 1 1, .l 2 (j.Segments.length : Int)] I ⟨Ax, I, J⟩ (uA (B0 139 I fun d7 => uD (Bs 3 1) ?_))
 obtain ⟨f5, d8, d9⟩ := Ac h
 refine Cu d8 [(0, _), (3, _), (4, _), (5, _), (7, _), (8, _), (9, _), (10, _), (11, _), (12, _), (13, _), (139, _), (140, _)] sN (fun (ao : Nat) (aj : Li) s ob => ∃ (ak : Value), s = [(141, .V (ao : Int)), (16, .v ak)] ∧ ob = [O2 i [[Q0 F.1, .V F.2.1]], O0 G [Ab j], O1 D [W0], U0 a e.2.2.1, U0 c e.2.2.2.1, O1 w [[.v a, .v c, .v g]], U1 g p.2.2, U0 M n.2.2.2.1, U0 ak aj]) ⟨(.slice none 0 0), I2⟩ ⟨I, I, J⟩ ⟨[0, 1, 2, 3, 4, 5, 6, 7, 8], I, by decide⟩ ?_ ?_
 rintro ao Q aj ca s ob ea cb ⟨ak, rfl, rfl⟩ h
 unfold Ql.B14 at h
 have eb := Co cb
 refine Ah I (Aa fun f6 ec => Bp I eb (tZ ?_))
 subst ec
 refine Ai (fun s ob => ∃ (bo : Li) (a7 : Value), Ql.J15 bo = some ca ∧ s = [(16, .v a7)] ∧ ob = [O2 i [[Q0 F.1, .V F.2.1]], O0 G [Ab j], O1 D [W0], U0 a e.2.2.1, U0 c e.2.2.2.1, O1 w [[.v a, .v c, .v g]], U1 g p.2.2, U0 M n.2.2.2.1, U0 a7 bo]) [(0, _), (3, _), (4, _), (5, _), (7, _), (8, _), (9, _), (10, _), (11, _), (12, _), (13, _), (139, _), (140, _), (141, _)] rD ?_ ?_
 refine uA (Aa fun f7 ed => tV (An 3 [.x 1 ao (Ak Q)] I ⟨⟨I, Ag ea⟩, J⟩ (tX [] I (uF W2 7 fun f8 => Af 1 I (tX [9] I (A3 9 0 0 [Ak Q] I (tW ?_)))))))
 subst ed
 refine Ai (fun s ob => ∃ (bp : Bool), Ql.J16 ao aj bp = some ca ∧ s = [(180, .v (.bool bp))] ∧ ob = [O2 i [[Q0 F.1, .V F.2.1]], O0 G [Ab j], O1 D [W0], U0 a e.2.2.1, U0 c e.2.2.2.1, O1 w [[.v a, .v c, .v g]], U1 g p.2.2, U0 M n.2.2.2.1, U0 ak aj]) [(0, _), (3, _), (4, _), (5, _), (7, _), (8, _), (9, _), (10, _), (11, _), (12, _), (13, _), (16, _), (17, _), (139, _), (140, _), (141, _)] ⟨I, I, I, I, I, I, I, I, I, I, I, I, I, I, I, I, J⟩ ?_ ?_
 rcases bt ((Q.From == n.2.2.1)) with ab | ab
 have h := Bu ab h
 rcases bt (decide ((wr ((wr (Q.From + Q.To)) - n.2.2.1)) > n.2.2.1)) with a1 | a1
 have h := Bu a1 h
 obtain ⟨aq, ⟨ee, bq⟩, h⟩ := A6 h
 refine C7 3 aq.1 I bq fun ef => Bz Xo [9, 5, 3] [_, _, _] I (Ca 5 [.o 1 0] I J1 (A5 150 I ab (Ca 17 [.o 7 0, .o 9 0] I J2 (A5 167 I a1 (Ca 3 [.o 1 1] I J1 (Fv I I I I ((B8 (m := aq.1) I I I I I ef I ee bq).yd) dS (Fv I I I I (Bl 2 aq.1 0 I I I (Ag bq) I (y := .V aq.2) I) dS (Ca 4 [.o 2 0] I J1 (Ie I (Up aq.2 _ I) (Bf 3 I (Ap ?_)))))))))))
 exact tW (lg ⟨decide ((wr ((Hy aq.2) + A.1)) ≤ (min 1000 Q.Capacity)), h, I2⟩ [0, 1, 2, 3, 4, 5, 6, 7, 8])
 have h := Bv a1 h
 exact Bz Xo [9] [_] I (Ca 5 [.o 1 0] I J1 (A5 150 I ab (Ca 17 [.o 7 0, .o 9 0] I J2 (A5 167 I a1 (Bf 13 I (Ap (tW (lg ⟨false, h, I2⟩ [0, 1, 2, 3, 4, 5, 6, 7, 8]))))))))
 have h := Bv ab h
 rcases bt ((Q.To == n.2.2.1)) with ar | ar
 have h := Bu ar h
 rcases bt (decide ((wr ((wr (Q.From + Q.To)) - n.2.2.1)) > n.2.2.1)) with a2 | a2
 have h := Bu a2 h
 obtain ⟨au, ⟨eg, br⟩, h⟩ := A6 h
 refine C7 3 au.1 I br fun eh => Bz Xo [9, 5, 3] [_, _, _] I (Ca 5 [.o 1 0] I J1 (A5 150 I ab (Ca 6 [.o 1 0] I J1 (A5 156 I ar (Ca 11 [.o 1 0, .o 3 0] I J2 (A5 167 I a2 (Ca 3 [.o 1 1] I J1 (Fv I I I I ((B8 (m := au.1) I I I I I eh I eg br).yd) dS (Fv I I I I (Bl 2 au.1 0 I I I (Ag br) I (y := .V au.2) I) dS (Ca 4 [.o 2 0] I J1 (Ie I (Up au.2 _ I) ?_)))))))))))
 exact Bf 3 I (Ap (tW (lg ⟨decide ((wr ((Hy au.2) + A.1)) ≤ (min 1000 Q.Capacity)), h, I2⟩ [0, 1, 2, 3, 4, 5, 6, 7, 8])))
 have h := Bv a2 h
 exact Bz Xo [9] [_] I (Ca 5 [.o 1 0] I J1 (A5 150 I ab (Ca 6 [.o 1 0] I J1 (A5 156 I ar (Ca 11 [.o 1 0, .o 3 0] I J2 (A5 167 I a2 (Bf 13 I (Ap (tW (lg ⟨false, h, I2⟩ [0, 1, 2, 3, 4, 5, 6, 7, 8]))))))))))
 have h := Bv ar h
 exact Bz Xo [9] [_] I (Ca 5 [.o 1 0] I J1 (A5 150 I ab (Ca 6 [.o 1 0] I J1 (A5 156 I ar (Bf 24 I (Ap (tW (lg ⟨false, h, I2⟩ [0, 1, 2, 3, 4, 5, 6, 7, 8]))))))))
 rintro s ob ⟨bp, h, rfl, rfl⟩
 refine Ar h I ?_ ?_
 intro ei h
 obtain ⟨ej, ek, h⟩ := Ac h
 exact tV (Af 2 I (tX [] I (uG 1 (([(ao : Int)] : Li).map rI) (tX [8] I (C9 8 I ek fun el => Af 1 I (tW (lg ⟨ej, el, h, I2⟩ [0, 1, 2, 3, 4, 5, 6, 7, 8])))))))
 intro ei h
 exact tZ (lg ⟨aj, ak, h, I2⟩ [0, 1, 2, 3, 4, 5, 6, 7, 8])
 rintro s ob ⟨bo, a7, h, rfl, rfl⟩
 unfold Ql.J15 at h
 refine tV (An 2 [.k 0 (ao + 1 : Nat)] I ⟨A0 cb d7, J⟩ ?_)
 cases io h
 exact tW (lg ⟨a7, I2⟩ [0, 1, 2, 3, 4, 5, 6, 7, 8])
 rintro aj s ob ⟨ak, rfl, rfl⟩ he
 subst he
 have h := d9
 have em := Cp j.Segments.length
 exact Ah I (Aa fun f9 ga => Br I em (uE (lg ⟨aj, ak, h, I2⟩ [0, 1, 2, 3, 4, 5, 6, 7, 8])))
 rintro s ob ⟨bm, bn, h, rfl, rfl⟩
 refine Aa fun gb en => uB (tV (Af 1 I (uJ (C0 8 I I I I) I (Af 1 I (tW (Ar h I ?_ ?_))))))
 intro eo h
 obtain rfl := bj _ (oi h).symm
 have h := bi
 exact uE (lg ⟨(F.1, F.2.1, n.2.2.2.1, F.2.2), M, h, I2⟩ [0, 1, 2, 3, 4, 5, 6, 7])
 intro eo h
 refine tZ ?_
 subst en
 refine Aa fun gc ep => ?_
 obtain ⟨gd, eq, h⟩ := Ac h
 obtain ⟨a8, ⟨er, cc⟩, h⟩ := A6 h
 refine tV (Af 3 I (uJ (C0 8 I I I I) I (tX [0] I (A1 [0] (Dj i _ _ _ eq) ?_))))
 refine uJ (Bm 8 (m := a8.1) I I I I I I I er (Ag cc)) I (uJ (Bl 8 a8.1 0 I I I (Ag cc) I (y := .V a8.2) I) I (Af 1 I (tW ?_)))
 subst ep
 refine Aa fun ge es => ?_
 obtain ⟨gf, et, h⟩ := Ac h
 refine tV (Af 2 I (tX [] I (uG 1 (([a8.2] : Li).map rI) (tX [7] I (C9 7 I et fun eu => Af 1 I (tW ?_))))))
 subst es
 obtain ⟨a9, ⟨cd, ce⟩, h⟩ := A6 h
 refine Bz (pd 16 0 []) [1] [_] I (Ca 16 [.o 1 0, .x 3 a9.1 (Ak a9.2), .o 7 0, .x 9 a9.1 (Ak a9.2)] I ⟨⟨cd, Ag ce⟩, I, ⟨cd, Ag ce⟩, I, J⟩ (Ap ?_))
 cases io h
 exact tW ⟨_, _, _, I, ⟨eu, I2⟩, sO, [0, 1, 2, 3, 4, 5, 6, 7], I, by decide⟩
 intro du h
 obtain rfl := bj _ (oi h).symm
 have h := bi
 exact uE (lg ⟨(n.1, n.2.1, n.2.2.2.1, n.2.2.2.2), M, h, I2⟩ [0, 1, 2, 3, 4, 5, 6, 7])
 rintro s ob ⟨E, am, h, rfl, rfl⟩
 refine Aa fun gg ev => Ah I (Ar h I ?_ ?_)
 intro ew h
 exact uE (lg ⟨(E.1, E.2.1, e.2.2.1, e.2.2.2.1), h, I2⟩ [0, 1, 2, 3, 4, 5, 6])
 intro ew h
 refine tZ ?_
 subst ev
 refine Ai (fun s ob => ∃ (av : Li), Ql.J8 j e A E av = some a5 ∧ s = [] ∧ ob = [O2 i [[Q0 E.1, .V E.2.1]], O0 G [Ab j], O1 D [W0], U0 a e.2.2.1, U0 c av, O1 w [[.v a, .v c, .v g]], U1 g p.2.2, U0 am E.2.2.1]) [(0, _), (3, _), (4, _), (5, _), (7, _), (8, _), (11, _), (12, _)] J8 ?_ ?_
 obtain ⟨H, ⟨bs, X⟩, h⟩ := A6 h
 obtain ⟨R, ⟨ex, ba⟩, h⟩ := A6 h
 obtain ⟨aw, ⟨cf, bb⟩, h⟩ := A6 h
 refine C7 4 H.1 I X fun ey => C7 4 R.1 I ba fun ez => C7 4 H.1 I X fun cg => Bz (sl 10 0 (.still 11 (sl 4 13 (.still 18 (.two 10 17 (.still 12 (.act 17 (.still 19 kW))) (.still 19 (.act 10 (.still 12 kW)))))))) [5] [_] I (Ca 9 [.o 1 0, .o 4 0, .o 7 0] I J3 (uM I (B8 (m := H.1) I I I I I ey I bs X) I (Ca 4 [.o 2 0] I J1 (uM I (B8 (m := R.1) I I I I I ez I ex ba) I (Bf 1 I (uK ?_ ?_))))))
 exact tY [] I I I (Ce (Bl 4 H.1 0 I I I (Ag X) I (y := .V H.2) I) dS (Bf 1 I (tY [] I I I (Ce (Bl 4 R.1 0 I I I (Ag ba) I (y := .V R.2) I) dS (Bf 1 I (uM I (B8 (m := H.1) I I I I I cg I bs X) I (tY [4] I I I (Ci 4 H.1 0 I I I (Ag X) I I I I (Cb I) I (Dg (x := wr (H.2 + A.1)) I) (tY [] I I I (Ce (Bm 4 (m := aw.1) I I I I I I I cf (Ag bb)) dS (tY [4] I I I (Ci 4 aw.1 0 I I I (Ag bb) I I I I (Cb I) I (Dg (x := wr (R.2 - A.1)) I) (Ap (tW (lg ⟨((e.2.2.2.1.set H.1 (wr (H.2 + A.1))).set aw.1 (wr (R.2 - A.1))), h, I2⟩ [0, 1, 2, 3, 4, 5, 6, 7])))))))))))))))
 exact tY [] I I I (Ce (Bl 4 R.1 0 I I I (Ag ba) I (y := .V R.2) I) dS (Bf 1 I (tY [] I I I (Ce (Bl 4 H.1 0 I I I (Ag X) I (y := .V H.2) I) dS (Bf 1 I (uM I (B8 (m := H.1) I I I I I cg I bs X) I (tY [4] I I I (Ci 4 H.1 0 I I I (Ag X) I I I I (Cb I) I (Dg (x := wr (H.2 + A.1)) I) (tY [] I I I (Ce (Bm 4 (m := aw.1) I I I I I I I cf (Ag bb)) dS (tY [4] I I I (Ci 4 aw.1 0 I I I (Ag bb) I I I I (Cb I) I (Dg (x := wr (R.2 - A.1)) I) (Ap (tW (lg ⟨((e.2.2.2.1.set H.1 (wr (H.2 + A.1))).set aw.1 (wr (R.2 - A.1))), h, I2⟩ [0, 1, 2, 3, 4, 5, 6, 7])))))))))))))))
 rintro s ob ⟨av, h, rfl, rfl⟩
 refine Aa fun gh e0 => tV (Af 1 I (uJ (C0 7 I I I I) I (Af 1 I (tW ?_))))
 subst e0
 refine uA (Ot 7 I fun e1 => ?_)
 obtain ⟨gi, e2, e3⟩ := Ac h
 refine Gv e2 [(0, _), (3, _), (4, _), (5, _), (7, _), (8, _), (11, _), (239, _), (240, _)] J9 (fun (bu : Nat) (ax : Li) s ob => s = [(241, .V (bu : Int))] ∧ ob = [O2 i [[Q0 E.1, .V E.2.1]], O0 G [Ab j], O1 D [W0], U0 a ax, U0 c av, O1 w [[.v a, .v c, .v g]], U1 g p.2.2, U0 am E.2.2.1]) ⟨I, I⟩ ⟨I, J⟩ ⟨[0, 1, 2, 3, 4, 5, 6, 7], I, by decide⟩ ?_ ?_
 rintro bu ax e4 s ob ci ⟨rfl, rfl⟩ h
 unfold Ql.B9 at h
 have e5 := Co ci
 refine Ah I (Aa fun gj e6 => Bp I e5 (tZ ?_))
 subst e6
 refine Ai (fun s ob => ∃ (bv : Li), Ql.J10 bv = some e4 ∧ s = [] ∧ ob = [O2 i [[Q0 E.1, .V E.2.1]], O0 G [Ab j], O1 D [W0], U0 a bv, U0 c av, O1 w [[.v a, .v c, .v g]], U1 g p.2.2, U0 am E.2.2.1]) [(0, _), (3, _), (4, _), (5, _), (7, _), (8, _), (11, _), (239, _), (240, _), (241, _)] jW ?_ ?_
 refine uA (Aa fun gk e7 => ?_)
 obtain ⟨bw, ⟨e8, cj⟩, h⟩ := A6 h
 refine tV (uJ (Bm 7 (m := bw.1) I I I I I I I e8 (Ag cj)) I (uJ (Bl 7 bw.1 0 I I I (Ag cj) I (y := .V bw.2) I) I (Af 1 I (tW ?_))))
 subst e7
 refine Aa fun gl e9 => ?_
 obtain ⟨bc, ⟨ck, cl⟩, h⟩ := A6 h
 refine In (pd 13 0 []) [1] [_] [.o 1 0, .x 3 bc.1 (Ak bc.2), .o 7 0, .x 9 bc.1 (Ak bc.2)] I I ⟨⟨ck, Ag cl⟩, I, ⟨ck, Ag cl⟩, I, J⟩ ?_
 subst e9
 refine Ar h I ?_ ?_
 intro fa h
 obtain ⟨ac, ⟨cm, bd⟩, h⟩ := A6 h
 exact tV (An 3 [.o 1 5] I J1 (uJ (Bm 3 (m := ac.1) I I I I I I I cm (Ag bd)) I (uJ (Bl 3 ac.1 0 I I I (Ag bd) I (y := .V ac.2) I) I (Af 2 I (uJ (Bm 3 (m := ac.1) I I I I I I I cm (Ag bd)) I (tX [3] I (Ci 3 ac.1 0 I I I (Ag bd) I I I I (Cb I) I (Dg (x := wr (ac.2 + A.1)) I) (tW (lg ⟨(ax.set ac.1 (wr (ac.2 + A.1))), h, I2⟩ [0, 1, 2, 3, 4, 5, 6, 7])))))))))
 intro fa h
 obtain ⟨ad, ⟨cn, be⟩, h⟩ := A6 h
 exact tV (An 3 [.o 1 5] I J1 (uJ (Bm 3 (m := ad.1) I I I I I I I cn (Ag be)) I (uJ (Bl 3 ad.1 0 I I I (Ag be) I (y := .V ad.2) I) I (Af 2 I (uJ (Bm 3 (m := ad.1) I I I I I I I cn (Ag be)) I (tX [3] I (Ci 3 ad.1 0 I I I (Ag be) I I I I (Cb I) I (Dg (x := wr (ad.2 - A.1)) I) (tW (lg ⟨(ax.set ad.1 (wr (ad.2 - A.1))), h, I2⟩ [0, 1, 2, 3, 4, 5, 6, 7])))))))))
 rintro s ob ⟨bv, h, rfl, rfl⟩
 unfold Ql.J10 at h
 refine tV (An 2 [.k 0 (bu + 1 : Nat)] I ⟨A0 ci e1, J⟩ ?_)
 cases io h
 exact tW (lg I2 [0, 1, 2, 3, 4, 5, 6, 7])
 rintro ax s ob ⟨rfl, rfl⟩ he
 subst he
 have h := e3
 have fb := Cp E.2.2.1.length
 exact Ah I (Aa fun gm gn => Br I fb (uE (lg ⟨(E.1, E.2.1, ax, av), h, I2⟩ [0, 1, 2, 3, 4, 5, 6])))
 rintro s ob ⟨al, h, rfl, rfl⟩
 unfold Ql.J5 at h
 refine tV (Af 3 I ?_)
 cases io h
 exact tW ⟨_, _, _, I, I2, J6, [0, 1, 2, 3, 4, 5, 6], I, by decide⟩
 intro dg h
 obtain rfl := de _ (oi h).symm
 have h := dd
 exact uE (lg ⟨(e.1, e.2.1, e.2.2.1, e.2.2.2.1), h, I2⟩ [0, 2, 3, 4, 5, 6])
 rintro s ob ⟨u, h, rfl, rfl⟩
 refine uB (Ah I (Ar h I ?_ ?_))
 intro fc h
 refine uB ?_
 obtain ⟨fd, fe, h⟩ := Ac h
 refine tV (An 1 [.o 0 4] I J1 (AO.ghost (Bi [2, 3, 5] (K := [U0 a u.2.2.1, U0 c u.2.2.2, U1 g p.2.2]) I [(276, .agg [Q0 u.2.2.1, Q0 u.2.2.2, Q9 p.2.2])] ⟨⟨_, I, .agg (.cons (.us 0 I) (.cons (.us 1 I) (.cons (.us 2 I) (.rest _))))⟩, J⟩ (ob' := [O2 i [[Q0 u.1, .V u.2.1]], O1 D [W0], O1 w [[Q0 u.2.2.1, Q0 u.2.2.2, Q9 p.2.2]]]) (.cons (.same _) (.cons (.same _) (.cons (.arr (.cons (.us 0 I) (.cons (.us 1 I) (.cons (.us 2 I) (.rest _))))) (.rest _))))) (tX [] I (Ck I I I (gU _ _ fe) dS ?_))))
 rintro _ _ ⟨rfl, rfl⟩
 refine tX [1] I (A3 1 0 0 [Am fd] I (tW (Cv [0, 1] I ?_)))
 obtain rfl := oi h
 exact uC ⟨.inr I, [_], [O2 i [[Q0 u.1, .V u.2.1]]], ⟨⟨1, _, _, _, _, _, _, _, I5⟩, J⟩, Cz I (Cm), ⟨[O2 i [[Q0 u.1, .V u.2.1]]], [], I5⟩⟩
 intro fc h
 refine tZ (uB (tV (An 1 [.o 0 4] I J1 (tX [1] I (A3 1 0 0 [[.v a, .v c, .v g]] I (tW (uD (Bi [2, 3, 5] (K := [U0 a u.2.2.1, U0 c u.2.2.2, U1 g p.2.2]) I [] J (ob' := [O2 i [[Q0 u.1, .V u.2.1]], O1 D [[Q0 u.2.2.1, Q0 u.2.2.2, Q9 p.2.2]], O1 w [[.v a, .v c, .v g]]]) (.cons (.same _) (.cons (.arr (.cons (.us 0 I) (.cons (.us 1 I) (.cons (.us 2 I) (.rest _))))) (.rest _)))) (Cv [0, 1] I ?_))))))))
 obtain rfl := oi h
 exact uC ⟨.inr I, [_], [O2 i [[Q0 u.1, .V u.2.1]]], ⟨⟨1, _, _, _, _, _, _, _, I5⟩, J⟩, Cz I (Cm), ⟨[O2 i [[Q0 u.1, .V u.2.1]]], [], I5⟩⟩
theorem iE (a : Nat) (d : KS) (e : Int) (r : Product × KS) (h : V0 d e = some r) : ACalls Aj 21 [.v (.pointer (some ⟨a, 0, none⟩)), .V e] [O2 a [Cq d]] (Ea 1 fun x os new => x = .agg (Bw r.1) ∧ os = [O2 a [Cq r.2]] ∧ new = []) := by
 refine Ae Tryz.func21 I I I fun C hC => ?_
 refine Aa fun w k => tV (tX [] I (uF W5 5 fun y => tW ?_))
 subst k
 refine uB ?_
 obtain ⟨f, n, h⟩ := Ac h
 obtain ⟨g, o, h⟩ := Ac h
 obtain ⟨i, s, h⟩ := Ac h
 obtain ⟨j, t, h⟩ := Ac h
 obtain ⟨b, u, h⟩ := Ac h
 refine tV (Af 1 I (Cd (C5 _ _ _ n) (Af 1 I (tX [0] I (A1 [0] (D3 a _ _ _ _ o) ?_)))))
 refine Af 1 I (tX [] I (uG 1 (([0, 830, 2000, 1] : Li).map rI) (tX [0] I (A1 [0] (Al a _ _ _ s) ?_))))
 refine Af 1 I (tX [] I (uG 1 (([0, 800, 5000, 3] : Li).map rI) (tX [0] I (A1 [0] (Al a _ _ _ t) ?_))))
 refine Af 1 I (tX [] I (uG 1 (([1, 700, 1000, 1300, 2000] : Li).map rI) (tX [0] I (A1 [0] (Al a _ _ _ u) ?_))))
 refine uH (Au (l := [.v (.string f), .V g.1, .V i.1, .V j.1, .V b.1]) aR I) I (tX [1] I (A3 1 0 0 [[.v (.string f), .V g.1, .V i.1, .V j.1, .V b.1]] I (tW ?_)))
 obtain rfl := oi h
 exact uC ⟨.inr I, [_], [O2 a [Cq b.2]], ⟨⟨1, _, _, _, _, _, _, _, I5⟩, J⟩, Cz I (Cm), ⟨[O2 a [Cq b.2]], [], I5⟩⟩
theorem iV (b : Nat) (g : KS) (r : (List Product) × KS) (h : Qq g = some r) : ACalls Aj 8 [.v (.pointer (some ⟨b, 0, none⟩))] [O2 b [Cq g]] (Ea 1 fun x os new => ∃ (i : Value), x = .v i ∧ os = [O2 b [Cq r.2]] ∧ new = [U4 i r.1]) := by
 refine Ae Tryz.func8 I I I fun C hC => ?_
 unfold Qq at h
 refine Ah I (Ah I (Ai (fun s ob => ∃ (a : Li × Int × (List Product)) (e : Value), Qq.J1 a = some r ∧ s = [(3, .v e)] ∧ ob = [O2 b [[Q0 a.1, .V a.2.1]], U4 e a.2.2]) [] J ?_ ?_))
 refine Aa fun A j => ?_
 obtain ⟨B, k, h⟩ := Ac h
 refine tV (Af 1 I (tX [0] I (A1 [0] (D3 b _ _ _ _ k) ?_)))
 refine Af 1 I (tW ?_)
 subst j
 refine uA (uD (Bs 72 5) ?_)
 obtain ⟨D, l, m⟩ := Ac h
 refine Cs l [(0, _)] J1 (fun (c : Li × Int × (List Product) × Int) s ob => ∃ (f : Value), s = [(3, .v f), (4, .V c.2.2.2)] ∧ ob = [O2 b [[Q0 c.1, .V c.2.1]], U4 f c.2.2.1]) ⟨(.slice none 0 0), I2⟩ ⟨I, I, J⟩ ⟨[0, 1], I, by decide⟩ ?_
 rintro c E s ob ⟨f, rfl, rfl⟩ h n
 refine Aa fun F o => Ah I (Ar h I ?_ ?_)
 intro p h
 refine tZ ?_
 subst o
 refine uB (uA ?_)
 obtain ⟨t, u, h⟩ := Ac h
 obtain ⟨G, w, h⟩ := Ac h
 refine tV (Af 3 I (uJ (C0 1 I I I I) I (tX [0] I (A1 [0] (iE b _ _ _ u) ?_))))
 refine tX [] I (uG 5 (([t.1] : List Product).map Bw) (tX [1] I (C9 1 I w fun y => Af 1 I (tW (tV (Af 3 I ?_))))))
 cases io h
 exact tW ⟨_, _, _, I, ⟨y, I2⟩, J3, [0, 1], I, by decide⟩
 intro p h
 obtain rfl := n _ (oi h).symm
 have h := m
 exact uE (lg ⟨(c.1, c.2.1, c.2.2.1), f, h, I2⟩ [0, 1])
 rintro s ob ⟨a, e, h, rfl, rfl⟩
 refine Ah I ?_
 obtain rfl := oi h
 exact uC ⟨.inr I, [_], [O2 b [[Q0 a.1, .V a.2.1]], U4 e a.2.2], J1, Cz I (Cz I (Cm)), ⟨[O2 b [[Q0 a.1, .V a.2.1]]], [U4 e a.2.2], I, I, e, I3⟩⟩
theorem jA (e : Nat) (O : KS) (P : Int) (D : Int) (r : (List Piece) × KS) (h : Qs O P D = some r) : ACalls Aj 22 [.v (.pointer (some ⟨e, 0, none⟩)), .V P, .V D] [O2 e [Cq O]] (Ea 1 fun x os new => ∃ (Q : Value), x = .v Q ∧ os = [O2 e [Cq r.2]] ∧ new = [U9 Q r.1]) := by
 refine Ae Tryz.func22 I I I fun C hC => ?_
 unfold Qs at h
 refine Ah I (Ah I (Ai (fun s ob => ∃ (g : Li × Int × (List Piece)) (u : Value), Qs.J1 g = some r ∧ s = [(7, .v u)] ∧ ob = [O2 e [[Q0 g.1, .V g.2.1]], U9 u g.2.2]) [] J ?_ ?_))
 refine uA (uD (Bs 105 2) ?_)
 obtain ⟨ax, R, S⟩ := Ac h
 refine Cs R [(0, _), (2, _)] J2 (fun (a : Li × Int × Int × (List Piece)) s ob => ∃ (t : Value), s = [(1, .V a.2.2.1), (7, .v t)] ∧ ob = [O2 e [[Q0 a.1, .V a.2.1]], U9 t a.2.2.2]) ⟨(.slice none 0 0), I2⟩ ⟨I, I, J⟩ ⟨[0, 1], I, by decide⟩ ?_
 rintro a G s ob ⟨t, rfl, rfl⟩ h U
 unfold Qs.B2 at h
 refine Aa fun ay W => Eb 15 (decide (a.2.2.1 > 0) && decide ((a.2.2.2.length : Int) < 12)) ?_ ?_
 refine tV (Af 3 I ?_)
 rcases bt (decide (a.2.2.1 > 0)) with w | w
 exact Ad 11 I w (Af 1 I (Cf I I I (uJ (C0 1 I I I I) I (Af 2 I (tW (jf (by simp only [w, bz]) I I I2))))))
 exact Ad 11 I w (Af 4 I (tW (jf (by simp only [w, bz]) I I I2)))
 refine Ar h I ?_ ?_
 intro X h
 refine tZ ?_
 subst W
 refine uA (Aa fun az Y => ?_)
 obtain ⟨j, Z, h⟩ := Ac h
 obtain ⟨k, aa, h⟩ := Ac h
 refine tV (Af 2 I (tX [0] I (A1 [0] (Dj e _ _ _ Z) ?_)))
 refine An 5 [.f 3 (.V (wr ((wr (a.2.2.1 * 2)).tdiv 3)))] I ⟨Yp.yd (El (c := wr ((wr (a.2.2.1 * 2)).tdiv 3)) I I ⟨by decide, I⟩), J⟩ (tX [0] I (A1 [0] (D3 e _ _ _ _ aa) ?_))
 refine uH (Au (l := [.V j.1, .V k.1]) Za I) I (tX [] I (uF [.V 0, .V 0] 2 fun H => tX [2] I (A3 2 0 0 [[.V j.1, .V k.1]] I (tW ?_))))
 subst Y
 refine Ai (fun s ob => ∃ (i : Int), Qs.J3 D a j k i = some G ∧ s = [] ∧ ob = [O2 e [Cq k.2], U9 t a.2.2.2, .arr H 105 2 1 [[.V j.1, .V i]]]) [(0, _), (1, _), (2, _), (7, _), (8, _)] J5 ?_ ?_
 refine uB (tV (Af 1 I (uJ (C0 1 I I I I) I (Af 1 I (tW (Ar h I ?_ ?_))))))
 intro ab h
 exact tV (Af 2 I (tX [2] I (A3 2 0 1 [[.V j.1, .V a.2.2.1]] I (tW (lg ⟨a.2.2.1, h, I2⟩ [0, 1, 2])))))
 intro ab h
 exact tZ (lg ⟨k.1, h, I2⟩ [0, 1, 2])
 rintro s ob ⟨i, h, rfl, rfl⟩
 unfold Qs.J3 at h
 refine Aa fun a0 ac => tV (An 5 [.o 1 2] I J1 (tX [2] I (A3 2 0 1 [[.V j.1, .V (min i a.2.2.1)]] I (tW ?_))))
 subst ac
 refine Ai (fun s ob => ∃ (E : Int), Qs.J4 a k i E = some G ∧ s = [(1, .V a.2.2.1)] ∧ ob = [O2 e [Cq k.2], U9 t a.2.2.2, .arr H 105 2 1 [[.V E, .V (min i a.2.2.1)]]]) [(0, _), (2, _), (7, _), (8, _)] J4 ?_ ?_
 refine Ai (fun s ob => ∃ (K : Bool), Qs.J5 D a j k i K = some G ∧ s = [(50, .v (.bool K))] ∧ ob = [O2 e [Cq k.2], U9 t a.2.2.2, .arr H 105 2 1 [[.V j.1, .V (min i a.2.2.1)]]]) [(0, _), (1, _), (2, _), (7, _), (8, _)] J5 ?_ ?_
 rcases bt (decide ((a.2.2.2.length : Int) > 0)) with A | A
 have h := Bu A h
 obtain ⟨B, ⟨ad, M⟩, h⟩ := A6 h
 refine E5 1 I fun ae => E5 1 I fun af => C7 1 B.1 I M fun ag => Bz (pd 15 0 []) [1, 2] [_, _] I (Bf 1 I (uM I (E4 I I I ae) I (Bf 2 I (A5 39 I A (Bf 2 I (Fv I I I I ((E4 I I I af).yd) dS (Bf 1 I (Fv I I I I ((B8 (m := B.1) I I I I I ag I ad M).yd) dS (Bf 1 I ?_)))))))))
 exact Fv I I I I (Bl 0 B.1 0 I I I (Ag M) I (y := .V B.2.Batch) I) dS (Ca 4 [.o 1 1] I J1 (Ap (tW (lg ⟨(B.2.Batch == j.1), h, I2⟩ [0, 1, 2]))))
 have h := Bv A h
 exact E5 1 I fun ah => Bz (pd 15 0 []) [] [] I (Bf 1 I (uM I (E4 I I I ah) I (Bf 2 I (A5 39 I A (Bf 11 I (Ap (tW (lg ⟨false, h, I2⟩ [0, 1, 2]))))))))
 rintro s ob ⟨K, h, rfl, rfl⟩
 refine Ar h I ?_ ?_
 intro ai h
 refine Aa fun a1 aj => ?_
 obtain ⟨F, ak, h⟩ := Ac h
 refine tV (An 6 [.o 1 2, .f 4 (.V F)] I ⟨Yp.yd (El (c := F) I I (Hh ak)), I, J⟩ (tX [2] I (A3 2 0 0 [[.V F, .V (min i a.2.2.1)]] I (tW ?_))))
 subst aj
 refine Aa fun a2 al => ?_
 obtain ⟨b, ⟨N, n⟩, h⟩ := A6 h
 refine E5 1 I fun am => C7 1 b.1 I n fun an => Bz (pd 10 0 []) [1, 2] [_, _] I (Bf 2 I (uM I (E4 I I I am) I (Bf 1 I (uM I (B8 (m := b.1) I I I I I an I N n) I (Bf 1 I (AP.o I (Bl 0 b.1 0 I I I (Ag n) I (y := .V b.2.Batch) I) I (Ca 3 [.o 1 1] I J1 (Ap (tW ?_)))))))))
 subst al
 refine Ar h I ?_ ?_
 intro ao h
 refine uB (E5 1 I fun aq => C7 1 b.1 I n fun ar => C7 1 b.1 I n fun au => Bz (sl 12 0 (.drop 12 .nil)) [1, 2] [_, _] I (Bf 2 I (uM I (E4 I I I aq) I (Bf 1 I (uM I (B8 (m := b.1) I I I I I ar I N n) I (Bf 1 I (AP.o I (Bl 0 b.1 1 I I I (Ag n) I (y := .V b.2.Volume) I) I (Ca 3 [.o 1 1] I J1 (uM I (B8 (m := b.1) I I I I I au I N n) I ?_)))))))))
 refine Bf 1 I (uP [1] I I I (Ci 1 b.1 1 I I I (Ag n) I I I I (Cb I) I (Dg (x := (⟨b.2.Batch, wr (b.2.Volume + (min i a.2.2.1))⟩ : Piece)) I) (Ap (tW (Bh [.o 2 2] I J1 ?_)))))
 cases io h
 refine uE ?_
 exact ⟨_, _, _, I, ⟨t, I2⟩, J4, [0, 1], I, by decide⟩
 intro ao h
 exact tZ (lg ⟨F, h, I2⟩ [0, 1, 2])
 intro ai h
 exact tZ (lg ⟨j.1, h, I2⟩ [0, 1, 2])
 rintro s ob ⟨E, h, rfl, rfl⟩
 refine Bh [.o 2 2] I J1 ?_
 obtain ⟨a3, av, h⟩ := Ac h
 refine tV (An 2 [.o 1 2] I J1 (tX [] I (uG 2 (([(⟨E, (min i a.2.2.1)⟩ : Piece)] : List Piece).map A4) (tX [1] I (C9 1 I av fun aw => Af 1 I ?_)))))
 cases io h
 exact tW ⟨_, _, _, I, ⟨aw, I2⟩, J4, [0, 1], I, by decide⟩
 intro X h
 obtain rfl := U _ (oi h).symm
 have h := S
 exact uE (lg ⟨(a.1, a.2.1, a.2.2.2), t, h, I2⟩ [0, 1])
 rintro s ob ⟨g, u, h, rfl, rfl⟩
 refine Ah I ?_
 obtain rfl := oi h
 exact uC ⟨.inr I, [_], [O2 e [[Q0 g.1, .V g.2.1]], U9 u g.2.2], J1, Cz I (Cz I (Cm)), ⟨[O2 e [[Q0 g.1, .V g.2.1]]], [U9 u g.2.2], I, I, u, I3⟩⟩
theorem iJ (b : Nat) (g : KS) (i : Int) (j : Int) (r : (List Batch) × KS) (h : Qm g i j = some r) : ACalls Aj 10 [.v (.pointer (some ⟨b, 0, none⟩)), .V i, .V j] [O2 b [Cq g]] (Ea 1 fun x os new => ∃ (k : Value), x = .v k ∧ os = [O2 b [Cq r.2]] ∧ new = [U6 k r.1]) := by
 refine Ae Tryz.func10 I I I fun C hC => ?_
 unfold Qm at h
 refine Ah I (Ah I (Ai (fun s ob => ∃ (a : Li × Int × (List Batch)) (e : Value), Qm.J1 a = some r ∧ s = [(7, .v e)] ∧ ob = [O2 b [[Q0 a.1, .V a.2.1]], U6 e a.2.2]) [] J ?_ ?_))
 refine Ah I (uA (uD (Bs 77 4) ?_))
 obtain ⟨G, o, t⟩ := Ac h
 refine Cs o [(0, _), (1, _), (2, _)] J3 (fun (d : Li × Int × (List Batch) × Int) s ob => ∃ (f : Value), s = [(7, .v f), (8, .V d.2.2.2)] ∧ ob = [O2 b [[Q0 d.1, .V d.2.1]], U6 f d.2.2.1]) ⟨(.slice none 0 0), I2⟩ ⟨I, I, J⟩ ⟨[0, 1], I, by decide⟩ ?_
 rintro d H s ob ⟨f, rfl, rfl⟩ h u
 refine Aa fun K w => Ah I (Ar h I ?_ ?_)
 intro y h
 refine tZ ?_
 subst w
 refine uB (uA ?_)
 obtain ⟨m, A, h⟩ := Ac h
 obtain ⟨M, B, h⟩ := Ac h
 obtain ⟨n, D, h⟩ := Ac h
 obtain ⟨N, E, h⟩ := Ac h
 refine tV (Af 3 I (tX [0] I (A1 [0] (Dj b _ _ _ A) ?_)))
 refine Af 1 I (tX [0] I (A1 [0] (Dj b _ _ _ B) ?_))
 refine Cd (C5 _ _ _ D) (uH (Au (l := [.V m.1, .v (.string n), .V 0, .V 1]) aQ I) I (tX [] I (uG 4 (([(⟨m.1, n, 0, 1⟩ : Batch)] : List Batch).map D7) (tX [1] I (C9 1 I E fun F => Af 1 I (tW (tV (Af 3 I ?_))))))))
 cases io h
 exact tW ⟨_, _, _, I, ⟨F, I2⟩, J5, [0, 1], I, by decide⟩
 intro y h
 obtain rfl := u _ (oi h).symm
 have h := t
 exact uE (lg ⟨(d.1, d.2.1, d.2.2.1), f, h, I2⟩ [0, 1])
 rintro s ob ⟨a, e, h, rfl, rfl⟩
 refine Ah I ?_
 obtain rfl := oi h
 exact uC ⟨.inr I, [_], [O2 b [[Q0 a.1, .V a.2.1]], U6 e a.2.2], J1, Cz I (Cz I (Cm)), ⟨[O2 b [[Q0 a.1, .V a.2.1]]], [U6 e a.2.2], I, I, e, I3⟩⟩
theorem jP (b : Nat) (n : KS) (f : Nw) (p : Int) (r : (List (List Piece)) × KS) (h : Qy n f p = some r) : ACalls Aj 9 [.v (.pointer (some ⟨b, 0, none⟩)), .agg (Ab f), .V p] [O2 b [Cq n]] (Ea 1 fun x os new => ∃ (t : Value), x = .v t ∧ os = [O2 b [Cq r.2]] ∧ new = [.us t 74 1 (r.1.map (rL 2 A4))]) := by
 refine Ae Tryz.func9 I I I fun C hC => ?_
 unfold Qy at h
 refine Aa fun R w => tV (tX [] I (Bo (Ab f) 6 fun S => Af 1 I (tW ?_)))
 subst w
 refine Ah I (Ai (fun s ob => ∃ (a : Li × Int × (List (List Piece))) (d : Value), Qy.J1 a = some r ∧ s = [(7, .v d)] ∧ ob = [O2 b [[Q0 a.1, .V a.2.1]], .us d 74 1 (a.2.2.map (rL 2 A4))]) [] J ?_ ?_)
 refine Bh [.o 1 1, .l 2 (f.Segments.length : Int)] I ⟨Ax, I, J⟩ (uA (B0 11 I fun y => uD (Bs 74 1) ?_))
 obtain ⟨U, A, B⟩ := Ac h
 refine Cu A [(0, _), (2, _), (11, _), (12, _)] J4 (fun (g : Nat) (c : Li × Int × (List (List Piece))) s ob => ∃ (e : Value), s = [(13, .V (g : Int)), (7, .v e)] ∧ ob = [O2 b [[Q0 c.1, .V c.2.1]], .us e 74 1 (c.2.2.map (rL 2 A4))]) ⟨(.slice none 0 0), I2⟩ ⟨I, I, J⟩ ⟨[0, 2], I, by decide⟩ ?_ ?_
 rintro g j c W s ob D u ⟨e, rfl, rfl⟩ h
 have E := Co u
 refine Ah I (Aa fun X F => Bp I E (tZ ?_))
 subst F
 refine uB (uA (uB (tV (An 2 [.x 0 g (Ak j)] I ⟨⟨I, Ag D⟩, J⟩ (tX [] I (uF W2 7 fun G => tX [2] I (A3 2 0 0 [Ak j] I (tW ?_))))))))
 obtain ⟨i, H, h⟩ := Ac h
 obtain ⟨Y, M, h⟩ := Ac h
 refine tV (An 5 [.o 3 2] I J1 (tX [0] I (Im [0] (jA b _ _ _ _ H) ?_)))
 rintro _ _ _ - ⟨O, rfl, rfl, rfl⟩
 refine AO.ghost (Bi [3] (K := [U9 O i.1]) I [(22, Q4 i.1)] ⟨⟨_, I, .us 0 I⟩, J⟩ (ob' := [O2 b [Cq i.2], .us e 74 1 (c.2.2.map (rL 2 A4)), O5 G [Ak j]]) (.rest _)) (tX [] I (uG 1 (([i.1] : List (List Piece)).map (rL 2 A4)) (tX [1] I (C9 1 I M fun P => Af 1 I (tW (tV (An 2 [.k 0 (g + 1 : Nat)] I ⟨A0 u y, J⟩ ?_)))))))
 cases io h
 exact tW (lg ⟨P, I2⟩ [0, 1])
 rintro c s ob ⟨e, rfl, rfl⟩ he
 subst he
 have h := B
 have Q := Cp f.Segments.length
 exact Ah I (Aa fun Z aa => Br I Q (uE (lg ⟨(c.1, c.2.1, c.2.2), e, h, I2⟩ [0, 1])))
 rintro s ob ⟨a, d, h, rfl, rfl⟩
 refine Ah I ?_
 obtain rfl := oi h
 exact uC ⟨.inr I, [_], [O2 b [[Q0 a.1, .V a.2.1]], .us d 74 1 (a.2.2.map (rL 2 A4))], J1, Cz I (Cz I (Cm)), ⟨[O2 b [[Q0 a.1, .V a.2.1]]], [.us d 74 1 (a.2.2.map (rL 2 A4))], I, I, d, I3⟩⟩
end Go.Proofs.YtodeekicjiengaaGreatDoor
