/- Walks that show what functions of the program compute; printed by a program of ours. No condition. -/
import Derived.Test.YtmaamhgjeampmaaGreatZwL4
import Derived.Test.YtmaamhgjeampmaaGreatZwD
set_option maxRecDepth 100000
namespace Go.Proofs.YtmaamhgjeampmaaGreat
open Go.Aw
set_option linter.unusedVariables false
set_option linter.unusedSimpArgs false
set_option maxHeartbeats 4000000
abbrev Ub : PL := .act 15 (.still 16 (.act 17 (.act 18 (.still 19 (.drop 20 .nil)))))
abbrev Qs : PL := .act 9 (.act 12 Ub)
abbrev kB : PL := .two 9 14 (.two 12 14 (.act 14 Ub) (.act 12 Ub)) Qs
abbrev kA : PL := .two 9 11 (.act 11 (.act 12 Ub)) Qs
abbrev qZ : PL := .act 9 (.still 10 (.act 11 (.act 12 (.still 13 (.drop 14 .nil)))))
abbrev cT : PL := sl 12 0 (.drop 12 .nil)
abbrev T9 : PL := .act 5 Qs
theorem iT (a : Nat) (au : KS) (r : Nw × KS) (h : Xo au = some r) : ACalls Ai 12 [.P a] [O2 a [Ca au]] (E7 1 fun x os new => x = .agg (Ab r.1) ∧ os = [O2 a [Ca r.2]] ∧ new = []) := by
 refine Ag Tryz.func12 I I I fun C hC => ?_
 refine Aa fun y1 a4 => vH (vJ [] I (Bm W3 6 fun A => vI ?_))
 subst a4
 refine Aa fun y3 a5 => ?_
 obtain ⟨f, a6, h⟩ := Ac h
 obtain ⟨g, a7, h⟩ := Ac h
 refine vH (Af 1 I (vJ [] I (vR 1 (([(-100000), 0, 50000] : Li).map rI) (vJ [0] I (A1 [0] (Am a _ _ _ a6) ?_)))))
 refine Af 1 I (vJ [] I (vR 1 (([0, 1, 5, 100] : Li).map rI) (vJ [0] I (A1 [0] (Am a _ _ _ a7) ?_))))
 refine Ch (Bd (l := [.N, .N, .N, .N, .V f.1, .V g.1]) Tq I) I (vJ [] I (Bm W3 6 fun B => vJ [2] I (A3 2 0 0 [[.N, .N, .N, .N, .V f.1, .V g.1]] I (vI ?_))))
 subst a5
 refine Ah (fun s ob => ∃ (k : Li × Int × (List Bt)) (e : Value), Xo.J1 f g k = some r ∧ s = [] ∧ ob = [O2 a [[Q0 k.1, .V k.2.1]], O0 A [W3], O0 B [[.v e, .N, .N, .N, .V f.1, .V g.1]], U5 e k.2.2]) (K3 0 2 3) J3 ?_ ?_
 refine Aa fun cx a8 => ?_
 obtain ⟨an, a9, h⟩ := Ac h
 refine vH (Af 1 I (vJ [0] I (A1 [0] (Fk a _ _ _ _ a9) ?_)))
 refine Af 1 I (vI ?_)
 subst a8
 refine vN (vP (A7 9 1) ?_)
 obtain ⟨cy, ba, bb⟩ := Ac h
 refine Bo ba (K3 0 2 3) J3 (fun (ad : (List Bt) × Int) s ob => ∃ (ae : Value), s = [(4, .V ad.2)] ∧ ob = [O2 a [Ca an.2], O0 A [W3], O0 B [[.v ae, .N, .N, .N, .V f.1, .V g.1]], U5 ae ad.1]) ⟨nS, I2⟩ ⟨I, J⟩ (pk N4) ?_
 rintro ad cz s ob ⟨ae, rfl, rfl⟩ h bc
 refine Aa fun c1 bd => Aj I (Ao h I ?_ ?_)
 intro be h
 refine vL ?_
 subst bd
 refine vM (vN ?_)
 obtain ⟨bf, bg, h⟩ := Ac h
 obtain ⟨c2, bh, h⟩ := Ac h
 refine D4 3 I fun bi => Bi (sl 5 0 (.act 5 (.act 6 (.act 7 (.still 8 (.drop 9 .nil)))))) [2] [_] I (Br 4 [.o 1 0, .o 3 0] I J2 (vX I (D3 I I I bi) I (wE I (C2 _ _ _ bg) (vK [] I I I (vR 1 (([bf] : List Bt).map rS) (vK [3] I I I (vV 3 I bh fun av => A9 1 I (wA 3 I fun bj => vZ [2] I I I (vT 2 0 0 (es' := [[.v av, .N, .N, .N, .V f.1, .V g.1]]) I I I I I I (A6 bj) I (A4 I) I I (An (vI (vH ?_))))))))))))
 refine Af 3 I ?_
 cases io h
 exact vI ⟨_, _, _, I, ⟨av, I2⟩, J4, pk N4⟩
 intro be h
 obtain rfl := bc _ (oi h).symm
 have h := bb
 exact vQ (lg ⟨(an.2.L_, an.2.At, ad.1), ae, h, I2⟩ N4)
 rintro s ob ⟨k, e, h, rfl, rfl⟩
 unfold Xo.J1 at h
 refine Aa fun c3 bk => vH (Al 2 [.o 1 2] I J1 (vS (By 3 I I I I) I (Af 2 I (vI ?_))))
 subst bk
 refine Ah (fun s ob => ∃ (Z : Li × Int × (List Sg)) (af : Value), Xo.J2 f g k Z = some r ∧ s = [] ∧ ob = [O2 a [[Q0 Z.1, .V Z.2.1]], O0 A [W3], O0 B [[.v e, .v af, .N, .N, .V f.1, .V g.1]], U5 e k.2.2, U7 af Z.2.2]) (K4 0 2 3 5) J4 ?_ ?_
 refine Aj I (vN (vP (A7 83 7) ?_))
 obtain ⟨c4, bl, bm⟩ := Ac h
 refine Bo bl (K4 0 2 3 5) J4 (fun (F : Li × Int × (List Sg) × Int) s ob => ∃ (ag : Value), s = [(6, .V F.2.2.2)] ∧ ob = [O2 a [[Q0 F.1, .V F.2.1]], O0 A [W3], O0 B [[.v e, .v ag, .N, .N, .V f.1, .V g.1]], U5 e k.2.2, U7 ag F.2.2.1]) ⟨nS, I2⟩ ⟨I, J⟩ (pk N5) ?_
 rintro F c5 s ob ⟨ag, rfl, rfl⟩ h bn
 refine Aa fun c6 bo => Aj I (Ao h I ?_ ?_)
 intro bp h
 refine vL ?_
 subst bo
 refine vM (vN ?_)
 obtain ⟨bq, br, h⟩ := Ac h
 obtain ⟨c7, bs, h⟩ := Ac h
 refine D4 4 I fun bu => Bi (sl 9 0 (.act 9 (.act 10 (.act 11 (.still 12 (.drop 13 .nil)))))) [2] [_] I (Br 5 [.o 1 0, .o 4 0] I J2 (vX I (D3 I I I bu) I (A9 3 I (vK [0] I I I (A1 [0] (Vv a _ _ _ _ _ br) ?_)))))
 refine vK [] I I I (vR 7 (([bq.1] : List Sg).map Ap) (vK [4] I I I (vV 4 I bs fun aw => A9 1 I (wA 4 I fun bv => vZ [2] I I I (vT 2 0 1 (es' := [[.v e, .v aw, .N, .N, .V f.1, .V g.1]]) I I I I I I (A6 bv) I (A4 I) I I (An (vI (vH (Af 3 I ?_)))))))))
 cases io h
 exact vI ⟨_, _, _, I, ⟨aw, I2⟩, J5, pk N5⟩
 intro bp h
 obtain rfl := bn _ (oi h).symm
 have h := bm
 exact vQ (lg ⟨(F.1, F.2.1, F.2.2.1), ag, h, I2⟩ N5)
 rintro s ob ⟨Z, af, h, rfl, rfl⟩
 unfold Xo.J2 at h
 refine Ah (fun s ob => ∃ (y : Li × Int × (List Sg)) (t : Value), Xo.J3 f g k y = some r ∧ s = [] ∧ ob = [O2 a [[Q0 y.1, .V y.2.1]], O0 A [W3], O0 B [[.v e, .v t, .N, .N, .V f.1, .V g.1]], U5 e k.2.2, U7 t y.2.2]) (K4 0 2 3 5) J4 ?_ ?_
 refine Aa fun c8 bw => ?_
 obtain ⟨c9, bx, h⟩ := Ac h
 refine vH (Af 1 I (vJ [0] I (A1 [0] (Bz a _ _ _ bx) ?_)))
 refine Af 1 I (vI ?_)
 subst bw
 refine vN ?_
 obtain ⟨da, bz, b1⟩ := Ac h
 refine Bo bz (K4 0 2 3 5) J4 (fun (G : Li × Int × (List Sg) × Int) s ob => ∃ (ah : Value), s = [(7, .V G.2.2.2)] ∧ ob = [O2 a [[Q0 G.1, .V G.2.1]], O0 A [W3], O0 B [[.v e, .v ah, .N, .N, .V f.1, .V g.1]], U5 e k.2.2, U7 ah G.2.2.1]) ⟨af, I2⟩ ⟨I, J⟩ (pk N5) ?_
 rintro G db s ob ⟨ah, rfl, rfl⟩ h b3
 refine Aa fun dc b4 => Aj I (Ao h I ?_ ?_)
 intro b5 h
 refine vL ?_
 subst b4
 refine vM (vN (Aa fun dd b6 => ?_))
 obtain ⟨de, b7, h⟩ := Ac h
 refine vH (Af 2 I (vJ [0] I (A1 [0] (Bz a _ _ _ b7) ?_)))
 refine Af 1 I (vI ?_)
 subst b6
 obtain ⟨df, b8, h⟩ := Ac h
 obtain ⟨b9, ca, h⟩ := Ac h
 obtain ⟨dg, cb, h⟩ := Ac h
 refine D4 4 I fun cc => Bi (sl 11 0 (.act 11 (.act 12 (.act 13 (.act 14 (.still 15 (.drop 16 .nil))))))) [2] [_] I (Br 5 [.o 1 0, .o 4 0] I J2 (vX I (D3 I I I cc) I (A9 5 I (vK [0] I I I (A1 [0] (Fk a _ _ _ _ b8) ?_)))))
 refine vK [0] I I I (A1 [0] (Vv a _ _ _ _ _ ca) ?_)
 refine vK [] I I I (vR 7 (([b9.1] : List Sg).map Ap) (vK [4] I I I (vV 4 I cb fun ax => A9 1 I (wA 4 I fun cd => vZ [2] I I I (vT 2 0 1 (es' := [[.v e, .v ax, .N, .N, .V f.1, .V g.1]]) I I I I I I (A6 cd) I (A4 I) I I (An (vI (vH (Af 3 I ?_)))))))))
 cases io h
 exact vI ⟨_, _, _, I, ⟨ax, I2⟩, J5, pk N5⟩
 intro b5 h
 obtain rfl := b3 _ (oi h).symm
 have h := b1
 exact vQ (lg ⟨(G.1, G.2.1, G.2.2.1), ah, h, I2⟩ N5)
 rintro s ob ⟨y, t, h, rfl, rfl⟩
 unfold Xo.J3 at h
 refine Ah (fun s ob => ∃ (u : Li × Int × (List Port) × (List Sn)) (R : Value) (S : Value), Xo.J4 f g k y u = some r ∧ s = [] ∧ ob = [O2 a [[Q0 u.1, .V u.2.1]], O0 A [W3], O0 B [[.v e, .v t, .v R, .v S, .V f.1, .V g.1]], U5 e k.2.2, U7 t y.2.2, U8 R u.2.2.1, U9 S u.2.2.2]) (K2 2 3) J2 ?_ ?_
 refine Aj I (vN (vP (A7 85 3) (vP (A7 93 5) ?_)))
 obtain ⟨dh, ce, cf⟩ := Ac h
 refine Bo ce (K4 0 2 3 5) J4 (fun (b : Li × Int × (List Port) × (List Sn) × Int) s ob => ∃ (O : Value) (D : Value), s = [(9, .V b.2.2.2.2)] ∧ ob = [O2 a [[Q0 b.1, .V b.2.1]], O0 A [W3], O0 B [[.v e, .v t, .v O, .v D, .V f.1, .V g.1]], U5 e k.2.2, U7 t y.2.2, U8 O b.2.2.1, U9 D b.2.2.2.1]) ⟨nS, nS, I2⟩ ⟨I, J⟩ (pk N7) ?_
 rintro b ai s ob ⟨O, D, rfl, rfl⟩ h ci
 refine Aa fun di cj => Aj I (Ao h I ?_ ?_)
 intro ck h
 refine vL ?_
 subst cj
 refine Ah (fun s ob => ∃ (U : Li × Int × (List Port) × (List Sn)) (aj : Value) (ak : Value), Xo.J6 b U = some ai ∧ s = [] ∧ ob = [O2 a [[Q0 U.1, .V U.2.1]], O0 A [W3], O0 B [[.v e, .v t, .v aj, .v ak, .V f.1, .V g.1]], U5 e k.2.2, U7 t y.2.2, U8 aj U.2.2.1, U9 ak U.2.2.2]) (K5 0 2 3 5 9) J5 ?_ ?_
 refine vN (Ah (fun s ob => ∃ (E : Li × Int × (List Port)) (H : Value), Xo.J7 k b E = some ai ∧ s = [] ∧ ob = [O2 a [[Q0 E.1, .V E.2.1]], O0 A [W3], O0 B [[.v e, .v t, .v H, .v D, .V f.1, .V g.1]], U5 e k.2.2, U7 t y.2.2, U8 H E.2.2, U9 D b.2.2.2.1]) (K5 0 2 3 5 9) J5 ?_ ?_)
 refine Ah (fun s ob => ∃ (P : Li × Int × Bool), Xo.J9 k b P = some ai ∧ s = [(95, .v (.bool P.2.2))] ∧ ob = [O2 a [[Q0 P.1, .V P.2.1]], O0 A [W3], O0 B [[.v e, .v t, .v O, .v D, .V f.1, .V g.1]], U5 e k.2.2, U7 t y.2.2, U8 O b.2.2.1, U9 D b.2.2.2.1]) (K5 0 2 3 5 9) J5 ?_ ?_
 rcases bt ((b.2.2.2.2 == 0)) with W | W
 have h := B0 W h
 exact vH (Af 3 I (Ad 86 I W (Af 9 I (vI (lg ⟨(b.1, b.2.1, true), h, I2⟩ N7)))))
 have h := B8 W h
 rcases bt ((b.2.2.2.2 == (wr ((k.2.2.length : Int) - 1)))) with aa | aa
 have h := B0 aa h
 exact vH (Af 3 I (Ad 86 I W (Af 5 I (Ad 91 I aa (Af 4 I (vI (lg ⟨(b.1, b.2.1, true), h, I2⟩ N7)))))))
 have h := B8 aa h
 obtain ⟨ao, cl, h⟩ := Ac h
 refine vH (Af 3 I (Ad 86 I W (Af 5 I (Ad 91 I aa (Af 1 I (Bf I I I (vJ [0] I (A1 [0] (Bz a _ _ _ cl) ?_))))))))
 exact Af 2 I (vI (lg ⟨(ao.2.L_, ao.2.At, (ao.1 == 0)), h, I2⟩ N7))
 rintro s ob ⟨P, h, rfl, rfl⟩
 refine Ao h I ?_ ?_
 intro cm h
 obtain ⟨al, ay, h⟩ := Ac h
 obtain ⟨M, az, h⟩ := Ac h
 obtain ⟨a0, a1, h⟩ := Ac h
 refine D4 5 I fun cn => Bi (sl 5 0 (.still 6 (.still 7 (.two 5 8 (.act 8 qZ) (.act 5 qZ))))) [2] [_] I (Br 4 [.o 1 0, .o 3 0] I J2 (vX I (D3 I I I cn) I (A9 2 I (vY ?_ ?_))))
 refine wE I (C2 _ _ _ ay) (vK [] I I I (vR 1 (([300000, 1000000, 0, 5000000] : Li).map rI) (vK [0] I I I (A1 [0] (Am a _ _ _ az) ?_))))
 exact Lh I (Bd (l := [.v (.string al), .V b.2.2.2.2, .V M.1]) Hh I) I (vK [] I I I (vR 3 (([(⟨al, b.2.2.2.2, M.1⟩ : Port)] : List Port).map Cc) (vK [5] I I I (vV 5 I a1 fun ab => A9 1 I (wA 5 I fun aq => vZ [2] I I I (vT 2 0 2 (es' := [[.v e, .v t, .v ab, .v D, .V f.1, .V g.1]]) I I I I I I (A6 aq) I (A4 I) I I (An (vI (lg ⟨(M.2.L_, M.2.At, a0), ab, h, I2⟩ N7)))))))))
 refine vK [] I I I (vR 1 (([300000, 1000000, 0, 5000000] : Li).map rI) (wE I (C2 _ _ _ ay) (vK [0] I I I (A1 [0] (Am a _ _ _ az) ?_))))
 exact Lh I (Bd (l := [.v (.string al), .V b.2.2.2.2, .V M.1]) Hh I) I (vK [] I I I (vR 3 (([(⟨al, b.2.2.2.2, M.1⟩ : Port)] : List Port).map Cc) (vK [5] I I I (vV 5 I a1 fun ab => A9 1 I (wA 5 I fun aq => vZ [2] I I I (vT 2 0 2 (es' := [[.v e, .v t, .v ab, .v D, .V f.1, .V g.1]]) I I I I I I (A6 aq) I (A4 I) I I (An (vI (lg ⟨(M.2.L_, M.2.At, a0), ab, h, I2⟩ N7)))))))))
 intro cm h
 exact vL (lg ⟨(P.1, P.2.1, b.2.2.1), O, h, I2⟩ N7)
 rintro s ob ⟨E, H, h, rfl, rfl⟩
 unfold Xo.J7 at h
 refine Ah (fun s ob => ∃ (Q : Li × Int × Bool), Xo.J8 b E Q = some ai ∧ s = [(117, .v (.bool Q.2.2))] ∧ ob = [O2 a [[Q0 Q.1, .V Q.2.1]], O0 A [W3], O0 B [[.v e, .v t, .v H, .v D, .V f.1, .V g.1]], U5 e k.2.2, U7 t y.2.2, U8 H E.2.2, U9 D b.2.2.2.1]) (K5 0 2 3 5 9) J5 ?_ ?_
 rcases bt (decide (b.2.2.2.2 < (wr ((k.2.2.length : Int) - 1)))) with ac | ac
 have h := B0 ac h
 obtain ⟨ar, co, h⟩ := Ac h
 refine vH (Af 4 I (Ad 113 I ac (Af 1 I (Bf I I I (vJ [0] I (A1 [0] (Bz a _ _ _ co) ?_))))))
 exact Af 2 I (vI (lg ⟨(ar.2.L_, ar.2.At, (ar.1 == 0)), h, I2⟩ N7))
 have h := B8 ac h
 exact vH (Af 4 I (Ad 113 I ac (Af 4 I (vI (lg ⟨(E.1, E.2.1, false), h, I2⟩ N7)))))
 rintro s ob ⟨Q, h, rfl, rfl⟩
 refine Ao h I ?_ ?_
 intro cp h
 obtain ⟨a2, w, h⟩ := Ac h
 obtain ⟨X, n, h⟩ := Ac h
 obtain ⟨Y, i, h⟩ := Ac h
 obtain ⟨am, j, h⟩ := Ac h
 obtain ⟨cq, cr, h⟩ := Ac h
 refine D4 6 I fun ct => Bi (sl 5 0 (.still 6 (.still 7 (.still 10 (.still 13 (.four 5 8 11 14 (.parS [(8, []), (9, [8]), (11, []), (12, [8, 9, 11]), (14, [])] [[], [8], [11], [14], [8, 9], [8, 11], [8, 14], [11, 14], [8, 9, 11], [8, 9, 14], [8, 11, 14], [8, 9, 11, 12], [8, 9, 11, 14], [8, 9, 11, 12, 14]] Ub) (.three 5 11 14 (.parS [(9, []), (11, []), (12, [9, 11]), (14, [])] [[], [9], [11], [14], [9, 11], [9, 14], [11, 14], [9, 11, 12], [9, 11, 14], [9, 11, 12, 14]] Ub) (.two 5 14 kB T9) (.two 5 11 kA T9)) (.three 5 8 14 (.two 8 14 kB (.act 8 Qs)) (.two 5 14 kB T9) (.two 5 8 (.act 8 Qs) T9)) (.three 5 8 11 (.two 8 11 kA (.act 8 Qs)) (.two 5 11 kA T9) (.two 5 8 (.act 8 Qs) T9)))))))) [2] [_] I ?_
 refine Br 4 [.o 1 0, .o 3 0] I J2 (vX I (D3 I I I ct) I (A9 4 I (AP.four ?_ ?_ ?_ ?_)))
 refine wE I (C2 _ _ _ w) (Xs [⟨8, [], 126, .list 1 (([500000, 2000000, 0] : Li).map rI), [], []⟩, ⟨9, [8], 127, .V X.1, [0], [O2 a [Ca X.2]]⟩, ⟨11, [], 129, .list 1 (([0, 200, 100000] : Li).map rI), [], []⟩, ⟨12, [8, 9, 11], 130, .V Y.1, [0], [O2 a [Ca Y.2]]⟩, ⟨14, [], 132, .list 1 (([0, 100000, 400000] : Li).map rI), [], []⟩] I ⟨⟨_, I, I, I, fun _ _ => vR 1 (([500000, 2000000, 0] : Li).map rI) I2⟩, ⟨_, I, I, I, fun _ h => by cases h; exact Es [0] (Am a _ _ _ n) (by rintro _ _ _ - ⟨rfl, rfl, rfl⟩; exact ⟨rfl, rfl⟩)⟩, ⟨_, I, I, I, fun _ _ => vR 1 (([0, 200, 100000] : Li).map rI) I2⟩, ⟨_, I, I, I, fun _ h => by cases h; exact Es [0] (Am a _ _ _ i) (by rintro _ _ _ - ⟨rfl, rfl, rfl⟩; exact ⟨rfl, rfl⟩)⟩, ⟨_, I, I, I, fun _ _ => vR 1 (([0, 100000, 400000] : Li).map rI) I2⟩, J⟩ (vK [0] I I I (A1 [0] (Am a _ _ _ j) ?_)))
 rotate_left
 refine vK [] I I I (vR 1 (([500000, 2000000, 0] : Li).map rI) (AP.three ?_ ?_ ?_))
 refine wE I (C2 _ _ _ w) (Xs [⟨9, [], 127, .V X.1, [0], [O2 a [Ca X.2]]⟩, ⟨11, [], 129, .list 1 (([0, 200, 100000] : Li).map rI), [], []⟩, ⟨12, [9, 11], 130, .V Y.1, [0], [O2 a [Ca Y.2]]⟩, ⟨14, [], 132, .list 1 (([0, 100000, 400000] : Li).map rI), [], []⟩] I ⟨⟨_, I, I, I, fun _ h => by cases h; exact Es [0] (Am a _ _ _ n) (by rintro _ _ _ - ⟨rfl, rfl, rfl⟩; exact ⟨rfl, rfl⟩)⟩, ⟨_, I, I, I, fun _ _ => vR 1 (([0, 200, 100000] : Li).map rI) I2⟩, ⟨_, I, I, I, fun _ h => by cases h; exact Es [0] (Am a _ _ _ i) (by rintro _ _ _ - ⟨rfl, rfl, rfl⟩; exact ⟨rfl, rfl⟩)⟩, ⟨_, I, I, I, fun _ _ => vR 1 (([0, 100000, 400000] : Li).map rI) I2⟩, J⟩ (vK [0] I I I (A1 [0] (Am a _ _ _ j) ?_)))
 rotate_left
 refine vK [] I I I (vR 1 (([0, 200, 100000] : Li).map rI) (vY ?_ ?_))
 refine wE I (C2 _ _ _ w) (vY ?_ ?_)
 refine vK [0] I I I (A1 [0] (Am a _ _ _ n) ?_)
 refine vY ?_ ?_
 refine vK [0] I I I (A1 [0] (Am a _ _ _ i) ?_)
 refine vK [] I I I (vR 1 (([0, 100000, 400000] : Li).map rI) (vK [0] I I I (A1 [0] (Am a _ _ _ j) ?_)))
 rotate_left
 refine vK [] I I I (vR 1 (([0, 100000, 400000] : Li).map rI) (vK [0] I I I (A1 [0] (Am a _ _ _ i) ?_)))
 refine vK [0] I I I (A1 [0] (Am a _ _ _ j) ?_)
 rotate_left
 refine vK [] I I I (vR 1 (([0, 100000, 400000] : Li).map rI) (vK [0] I I I (A1 [0] (Am a _ _ _ n) ?_)))
 refine vK [0] I I I (A1 [0] (Am a _ _ _ i) ?_)
 refine vK [0] I I I (A1 [0] (Am a _ _ _ j) ?_)
 rotate_left
 refine vK [] I I I (vR 1 (([0, 100000, 400000] : Li).map rI) (wE I (C2 _ _ _ w) (vK [0] I I I (A1 [0] (Am a _ _ _ n) ?_))))
 refine vK [0] I I I (A1 [0] (Am a _ _ _ i) ?_)
 refine vK [0] I I I (A1 [0] (Am a _ _ _ j) ?_)
 rotate_left
 refine vK [] I I I (vR 1 (([0, 100000, 400000] : Li).map rI) (vY ?_ ?_))
 refine wE I (C2 _ _ _ w) (vY ?_ ?_)
 refine vK [0] I I I (A1 [0] (Am a _ _ _ n) ?_)
 refine vK [] I I I (vR 1 (([0, 200, 100000] : Li).map rI) (vK [0] I I I (A1 [0] (Am a _ _ _ i) ?_)))
 refine vK [0] I I I (A1 [0] (Am a _ _ _ j) ?_)
 rotate_left
 refine vK [] I I I (vR 1 (([0, 200, 100000] : Li).map rI) (vK [0] I I I (A1 [0] (Am a _ _ _ n) ?_)))
 refine vK [0] I I I (A1 [0] (Am a _ _ _ i) ?_)
 refine vK [0] I I I (A1 [0] (Am a _ _ _ j) ?_)
 rotate_left
 refine vK [] I I I (vR 1 (([0, 200, 100000] : Li).map rI) (wE I (C2 _ _ _ w) (vK [0] I I I (A1 [0] (Am a _ _ _ n) ?_))))
 refine vK [0] I I I (A1 [0] (Am a _ _ _ i) ?_)
 refine vK [0] I I I (A1 [0] (Am a _ _ _ j) ?_)
 rotate_left
 refine vK [] I I I (vR 1 (([0, 200, 100000] : Li).map rI) (AP.three ?_ ?_ ?_))
 refine wE I (C2 _ _ _ w) (vY ?_ ?_)
 refine vK [] I I I (vR 1 (([500000, 2000000, 0] : Li).map rI) (vY ?_ ?_))
 refine vK [0] I I I (A1 [0] (Am a _ _ _ n) ?_)
 refine vY ?_ ?_
 refine vK [0] I I I (A1 [0] (Am a _ _ _ i) ?_)
 refine vK [] I I I (vR 1 (([0, 100000, 400000] : Li).map rI) (vK [0] I I I (A1 [0] (Am a _ _ _ j) ?_)))
 rotate_left
 refine vK [] I I I (vR 1 (([0, 100000, 400000] : Li).map rI) (vK [0] I I I (A1 [0] (Am a _ _ _ i) ?_)))
 refine vK [0] I I I (A1 [0] (Am a _ _ _ j) ?_)
 rotate_left
 refine vK [] I I I (vR 1 (([0, 100000, 400000] : Li).map rI) (vK [0] I I I (A1 [0] (Am a _ _ _ n) ?_)))
 refine vK [0] I I I (A1 [0] (Am a _ _ _ i) ?_)
 refine vK [0] I I I (A1 [0] (Am a _ _ _ j) ?_)
 rotate_left
 refine vK [] I I I (vR 1 (([0, 100000, 400000] : Li).map rI) (vK [] I I I (vR 1 (([500000, 2000000, 0] : Li).map rI) (vK [0] I I I (A1 [0] (Am a _ _ _ n) ?_)))))
 refine vK [0] I I I (A1 [0] (Am a _ _ _ i) ?_)
 refine vK [0] I I I (A1 [0] (Am a _ _ _ j) ?_)
 rotate_left
 refine vK [] I I I (vR 1 (([500000, 2000000, 0] : Li).map rI) (vY ?_ ?_))
 refine wE I (C2 _ _ _ w) (vY ?_ ?_)
 refine vK [0] I I I (A1 [0] (Am a _ _ _ n) ?_)
 refine vY ?_ ?_
 refine vK [0] I I I (A1 [0] (Am a _ _ _ i) ?_)
 refine vK [] I I I (vR 1 (([0, 100000, 400000] : Li).map rI) (vK [0] I I I (A1 [0] (Am a _ _ _ j) ?_)))
 rotate_left
 refine vK [] I I I (vR 1 (([0, 100000, 400000] : Li).map rI) (vK [0] I I I (A1 [0] (Am a _ _ _ i) ?_)))
 refine vK [0] I I I (A1 [0] (Am a _ _ _ j) ?_)
 rotate_left
 refine vK [] I I I (vR 1 (([0, 100000, 400000] : Li).map rI) (vK [0] I I I (A1 [0] (Am a _ _ _ n) ?_)))
 refine vK [0] I I I (A1 [0] (Am a _ _ _ i) ?_)
 refine vK [0] I I I (A1 [0] (Am a _ _ _ j) ?_)
 rotate_left
 refine vK [] I I I (vR 1 (([0, 100000, 400000] : Li).map rI) (wE I (C2 _ _ _ w) (vK [0] I I I (A1 [0] (Am a _ _ _ n) ?_))))
 refine vK [0] I I I (A1 [0] (Am a _ _ _ i) ?_)
 refine vK [0] I I I (A1 [0] (Am a _ _ _ j) ?_)
 rotate_left
 refine vK [] I I I (vR 1 (([0, 100000, 400000] : Li).map rI) (vY ?_ ?_))
 refine wE I (C2 _ _ _ w) (vK [] I I I (vR 1 (([500000, 2000000, 0] : Li).map rI) (vK [0] I I I (A1 [0] (Am a _ _ _ n) ?_))))
 refine vK [0] I I I (A1 [0] (Am a _ _ _ i) ?_)
 refine vK [0] I I I (A1 [0] (Am a _ _ _ j) ?_)
 rotate_left
 refine vK [] I I I (vR 1 (([500000, 2000000, 0] : Li).map rI) (wE I (C2 _ _ _ w) (vK [0] I I I (A1 [0] (Am a _ _ _ n) ?_))))
 refine vK [0] I I I (A1 [0] (Am a _ _ _ i) ?_)
 refine vK [0] I I I (A1 [0] (Am a _ _ _ j) ?_)
 rotate_left
 refine vK [] I I I (vR 1 (([0, 100000, 400000] : Li).map rI) (AP.three ?_ ?_ ?_))
 refine wE I (C2 _ _ _ w) (vY ?_ ?_)
 refine vK [] I I I (vR 1 (([500000, 2000000, 0] : Li).map rI) (vY ?_ ?_))
 refine vK [0] I I I (A1 [0] (Am a _ _ _ n) ?_)
 refine vK [] I I I (vR 1 (([0, 200, 100000] : Li).map rI) (vK [0] I I I (A1 [0] (Am a _ _ _ i) ?_)))
 refine vK [0] I I I (A1 [0] (Am a _ _ _ j) ?_)
 rotate_left
 refine vK [] I I I (vR 1 (([0, 200, 100000] : Li).map rI) (vK [0] I I I (A1 [0] (Am a _ _ _ n) ?_)))
 refine vK [0] I I I (A1 [0] (Am a _ _ _ i) ?_)
 refine vK [0] I I I (A1 [0] (Am a _ _ _ j) ?_)
 rotate_left
 refine vK [] I I I (vR 1 (([0, 200, 100000] : Li).map rI) (vK [] I I I (vR 1 (([500000, 2000000, 0] : Li).map rI) (vK [0] I I I (A1 [0] (Am a _ _ _ n) ?_)))))
 refine vK [0] I I I (A1 [0] (Am a _ _ _ i) ?_)
 refine vK [0] I I I (A1 [0] (Am a _ _ _ j) ?_)
 rotate_left
 refine vK [] I I I (vR 1 (([500000, 2000000, 0] : Li).map rI) (vY ?_ ?_))
 refine wE I (C2 _ _ _ w) (vY ?_ ?_)
 refine vK [0] I I I (A1 [0] (Am a _ _ _ n) ?_)
 refine vK [] I I I (vR 1 (([0, 200, 100000] : Li).map rI) (vK [0] I I I (A1 [0] (Am a _ _ _ i) ?_)))
 refine vK [0] I I I (A1 [0] (Am a _ _ _ j) ?_)
 rotate_left
 refine vK [] I I I (vR 1 (([0, 200, 100000] : Li).map rI) (vK [0] I I I (A1 [0] (Am a _ _ _ n) ?_)))
 refine vK [0] I I I (A1 [0] (Am a _ _ _ i) ?_)
 refine vK [0] I I I (A1 [0] (Am a _ _ _ j) ?_)
 rotate_left
 refine vK [] I I I (vR 1 (([0, 200, 100000] : Li).map rI) (wE I (C2 _ _ _ w) (vK [0] I I I (A1 [0] (Am a _ _ _ n) ?_))))
 refine vK [0] I I I (A1 [0] (Am a _ _ _ i) ?_)
 refine vK [0] I I I (A1 [0] (Am a _ _ _ j) ?_)
 rotate_left
 refine vK [] I I I (vR 1 (([0, 200, 100000] : Li).map rI) (vY ?_ ?_))
 refine wE I (C2 _ _ _ w) (vK [] I I I (vR 1 (([500000, 2000000, 0] : Li).map rI) (vK [0] I I I (A1 [0] (Am a _ _ _ n) ?_))))
 refine vK [0] I I I (A1 [0] (Am a _ _ _ i) ?_)
 refine vK [0] I I I (A1 [0] (Am a _ _ _ j) ?_)
 rotate_left
 refine vK [] I I I (vR 1 (([500000, 2000000, 0] : Li).map rI) (wE I (C2 _ _ _ w) (vK [0] I I I (A1 [0] (Am a _ _ _ n) ?_))))
 refine vK [0] I I I (A1 [0] (Am a _ _ _ i) ?_)
 refine vK [0] I I I (A1 [0] (Am a _ _ _ j) ?_)
 any_goals
  refine Lh I (Bd (l := [.v (.string a2), .V b.2.2.2.2, .V X.1, .V Y.1, .V am.1]) Tk I) I (vK [] I I I (vR 5 (([(⟨a2, b.2.2.2.2, X.1, Y.1, am.1⟩ : Sn)] : List Sn).map Bn) (vK [6] I I I (vV 6 I cr fun a3 => A9 1 I (wA 6 I fun cu => vZ [2] I I I (vT 2 0 3 (es' := [[.v e, .v t, .v H, .v a3, .V f.1, .V g.1]]) I I I I I I (A6 cu) I (A4 I) I I (An (vI ?_))))))))
  exact lg ⟨(am.2.L_, am.2.At, E.2.2, cq), H, a3, h, I2⟩ N7
 intro cp h
 exact vL (lg ⟨(Q.1, Q.2.1, E.2.2, b.2.2.2.1), H, D, h, I2⟩ N7)
 rintro s ob ⟨U, aj, ak, h, rfl, rfl⟩
 unfold Xo.J6 at h
 refine vH (Af 3 I ?_)
 cases io h
 exact vI ⟨_, _, _, I, ⟨aj, ak, I2⟩, J5, pk N7⟩
 intro ck h
 obtain rfl := ci _ (oi h).symm
 have h := cf
 exact vQ (lg ⟨(b.1, b.2.1, b.2.2.1, b.2.2.2.1), O, D, h, I2⟩ N7)
 rintro s ob ⟨u, R, S, h, rfl, rfl⟩
 refine vM (vH (Al 1 [.o 0 2] I J1 (vJ [1] I (A3 1 0 0 [[.v e, .v t, .v R, .v S, .V f.1, .V g.1]] I (vI (vP (Av [3, 4, 5, 6] (K := [U5 e k.2.2, U7 t y.2.2, U8 R u.2.2.1, U9 S u.2.2.2]) I [] J (ob' := [O2 a [[Q0 u.1, .V u.2.1]], O0 A [[Q1 k.2.2, Q5 y.2.2, Q4 u.2.2.1, Q3 u.2.2.2, .V f.1, .V g.1]], O0 B [[.v e, .v t, .v R, .v S, .V f.1, .V g.1]]]) (.cons (.same _) (.cons (.arr (.cons (.us 0 I) (.cons (.us 1 I) (.cons (.us 2 I) (.cons (.us 3 I) (.rest _)))))) (.rest _)))) (Cd [0, 1] I ?_)))))))
 obtain rfl := oi h
 exact vO ⟨.inr I, [_], [O2 a [[Q0 u.1, .V u.2.1]]], ⟨⟨1, _, _, _, _, _, _, _, I5⟩, J⟩, Cy I (Cf), ⟨[O2 a [[Q0 u.1, .V u.2.1]]], [], I5⟩⟩
theorem jE (c : Nw) (k : Li) (d : Int) (r : Hop × Bool) (h : Sh c k d = some r) : ACalls Ai 108 [.agg (Ab c), Q0 k, .V d] [] (RV (.tup [.agg (Cb r.1), .v (.bool r.2)])) := by
 refine Ag Tryz.func108 I I I fun C hC => ?_
 unfold Sh at h
 refine Aa fun X K => vH (vJ [] I (Bh (Ab c) 6 fun B => vJ [] I (Bm [.V 0, .v (.bool false)] 2 fun w => Af 1 I (vI ?_))))
 subst K
 refine Ah (fun s ob => ∃ (D : Unit), Sh.J1 D = some r ∧ s = [] ∧ ob = [.arr w 107 2 1 [[.V 0, .v (.bool false)]]]) [(6, _)] J1 ?_ ?_
 refine Aj I (vN ?_)
 obtain ⟨Y, M, E⟩ := Ac h
 refine Bo M (K4 1 2 3 6) J4 (fun (e : Int) s ob => s = [(8, .V e)] ∧ ob = [O0 B [Ab c], .arr w 107 2 1 [[.V 0, .v (.bool false)]]]) ⟨I, I⟩ ⟨I, J⟩ (pk [0, 1]) ?_
 rintro e N s ob ⟨rfl, rfl⟩ h F
 refine Aa fun Z O => Bl [.l 2 (k.length : Int)] I ⟨A8, J⟩ (Ao h I ?_ ?_)
 intro P h
 refine vL ?_
 subst O
 refine vM (vN (Ah (fun s ob => ∃ (y : Bool), Sh.J3 k e y = some N ∧ s = [(46, .v (.bool y))] ∧ ob = [O0 B [Ab c], .arr w 107 2 1 [[.V 0, .v (.bool false)]]]) (K5 1 2 3 6 8) J5 ?_ ?_))
 obtain ⟨a, ⟨n, t⟩, h⟩ := Ba h
 refine vH (Al 6 [.x 2 a.1 (rI a.2)] I ⟨⟨n, Ae t⟩, J⟩ ?_)
 rcases bt (decide (a.2 > 0)) with f | f
 have h := B0 f h
 obtain ⟨b, ⟨G, H⟩, h⟩ := Ba h
 refine Ad 20 I f (Al 10 [.o 1 0, .x 3 b.1 (Ap b.2)] I ⟨⟨G, Ae H⟩, I, J⟩ ?_)
 rcases bt ((b.2.From == d)) with g | g
 have h := B0 g h
 exact Ad 30 I g (Af 6 I (Ce I I dS (Ce I I dS (Ce I I dS (Ce I I dS (Ce I I dS (Ce I I dS (Ce I I dS (Ce I I dS (Af 2 I (vI (lg ⟨true, h, I2⟩ [0, 1]))))))))))))
 have h := B8 g h
 refine Ad 30 I g (Al 6 [.x 2 a.1 (rI a.2)] I ⟨⟨n, Ae t⟩, J⟩ ?_)
 rcases bt (decide (a.2 < 0)) with i | i
 have h := B0 i h
 exact Ad 36 I i (Al 10 [.o 1 0, .x 3 b.1 (Ap b.2)] I ⟨⟨G, Ae H⟩, I, J⟩ (vI (lg ⟨(b.2.To == d), h, I2⟩ [0, 1])))
 have h := B8 i h
 exact Ad 36 I i (Af 10 I (vI (lg ⟨false, h, I2⟩ [0, 1])))
 have h := B8 f h
 refine Ad 20 I f ?_
 rcases bt (decide (a.2 < 0)) with j | j
 have h := B0 j h
 obtain ⟨A, ⟨Q, R⟩, h⟩ := Ba h
 exact Al 16 [.x 12 a.1 (rI a.2)] I ⟨⟨n, Ae t⟩, J⟩ (Ad 36 I j (Al 10 [.o 1 0, .x 3 A.1 (Ap A.2)] I ⟨⟨Q, Ae R⟩, I, J⟩ (vI (lg ⟨(A.2.To == d), h, I2⟩ [0, 1]))))
 have h := B8 j h
 exact Al 16 [.x 12 a.1 (rI a.2)] I ⟨⟨n, Ae t⟩, J⟩ (Ad 36 I j (Af 10 I (vI (lg ⟨false, h, I2⟩ [0, 1]))))
 rintro s ob ⟨y, h, rfl, rfl⟩
 refine Ao h I ?_ ?_
 intro S h
 refine vM ?_
 obtain ⟨u, ⟨U, W⟩, h⟩ := Ba h
 refine vH (Al 6 [.x 3 u.1 (rI u.2)] I ⟨⟨U, Ae W⟩, J⟩ (Ch (Bd (l := [.V e, .v (.bool (decide (u.2 < 0)))]) Hw I) I (vJ [1] I (A3 1 0 0 [[.V e, .v (.bool (decide (u.2 < 0)))]] I (Af 1 I (vI ?_))))))
 obtain rfl := F _ (oi h).symm
 have h := E
 have h := Dn h
 refine Cd [1] I ?_
 cases io h
 exact vO ⟨.inr I, [_, _], [], ⟨⟨0, _, _, _, _, _, _, _, I5⟩, I, J⟩, Cf, I2⟩
 intro S h
 refine vL (vH (Af 3 I ?_))
 cases io h
 exact vI ⟨_, _, _, I, I2, J5, pk [0, 1]⟩
 intro P h
 obtain rfl := F _ (oi h).symm
 have h := E
 have h := Do h
 exact vQ (lg ⟨(), h, I2⟩ [1])
 rintro s ob ⟨D, h, rfl, rfl⟩
 unfold Sh.J1 at h
 refine vM (vH (Ch (Bd (l := [.V 0, .v (.bool false)]) Hw I) I (vJ [0] I (A3 0 0 0 [[.V 0, .v (.bool false)]] I (Af 1 I (vI ?_))))))
 cases io h
 exact vO ⟨.inr I, [_, _], [], ⟨⟨0, _, _, _, _, _, _, _, I5⟩, I, J⟩, Cf, I2⟩
theorem iE (a : Int) (r : Int) (h : Oh a = r) : ACalls Ai 109 [.V a] [] (RV (.V r)) := by
 refine Ag Tryz.func109 I I I fun C hC => ?_
 unfold Oh at h
 refine Aj I (Aj I ?_)
 obtain rfl := h
 exact vO pr
theorem cA (e : Nw) (E : Li) (y : Li) (b : Int) (r : Path × Bool) (h : Rv e E y b = some r) : ACalls Ai 68 [.agg (Ab e), Q0 E, Q0 y, .V b] [] (fun x new => ∃ (P : Value), x = .tup [.agg [.V r.1.In, .V r.1.Out, .v P, .V r.1.Rate], .v (.bool r.2)] ∧ new = [U6 P r.1.Hops]) := by
 refine Ag Tryz.func68 I I I fun C hC => ?_
 refine Aa fun y2 Y => vH (vJ [] I (Bh (Ab e) 6 fun n => vJ [] I (Bm W2 4 fun f => Af 1 I (vI ?_))))
 subst Y
 refine Aa fun y5 Z => ?_
 obtain ⟨A, ⟨aa, ab⟩, h⟩ := Ba h
 refine vH (Al 5 [.x 3 A.1 (rI A.2)] I ⟨⟨aa, Ae ab⟩, J⟩ (Ch (Bd (l := [.V b, .V 0, .N, .V A.2]) Tp I) I (vJ [] I (Bm W2 4 fun g => vJ [2] I (A3 2 0 0 [[.V b, .V 0, .N, .V A.2]] I (vI ?_))))))
 subst Z
 refine Aa fun y9 ac => ?_
 obtain ⟨Q, ⟨ad, ae⟩, h⟩ := Ba h
 refine Hm [.o 1 0, .x 3 Q.1 (Cc Q.2)] I ⟨⟨ad, Ae ae⟩, I, J⟩ ?_
 subst ac
 refine Ah (fun s ob => ∃ (i : (List Hop) × Int) (j : Value), Rv.J1 b i = some r ∧ s = [] ∧ ob = [O3 f [W2], O3 g [[.V b, .V 0, .v j, .V i.2]], U6 j i.1]) (K2 8 10) J2 ?_ ?_
 refine Aj I (vN (vP (A7 107 2) ?_))
 obtain ⟨bc, af, F⟩ := Ac h
 refine Bo af (K5 1 2 4 8 10) J5 (fun (a : (List Hop) × Int × Int × Int) s ob => ∃ (d : Value), s = [(11, .V a.2.2.1), (12, .V a.2.2.2)] ∧ ob = [O0 n [Ab e], O3 f [W2], O3 g [[.V b, .V 0, .v d, .V a.2.1]], U6 d a.1]) ⟨nS, I2⟩ ⟨I, I, J⟩ (pk N4) ?_
 rintro a R s ob ⟨d, rfl, rfl⟩ h G
 refine Aa fun bd ag => Bl [.o 2 0, .l 3 (e.Nodes.length : Int)] I ⟨A8, I, J⟩ (Ao h I ?_ ?_)
 intro ah h
 refine vL ?_
 subst ag
 refine Ah (fun s ob => ∃ (t : (List Hop) × Int × Int) (B : Value), Rv.J3 a t = some R ∧ s = [(11, .V t.2.2)] ∧ ob = [O0 n [Ab e], O3 f [W2], O3 g [[.V b, .V 0, .v B, .V t.2.1]], U6 B t.1]) (K6 1 2 4 8 10 12) J6 ?_ ?_
 refine vN (Ah (fun s ob => ∃ (S : Unit), Rv.J4 e E b a S = some R ∧ s = [] ∧ ob = [O0 n [Ab e], O3 f [W2], O3 g [[.V b, .V 0, .v d, .V a.2.1]], U6 d a.1]) (K7 1 2 4 8 10 11 12) J7 ?_ ?_)
 refine Aj I (vN ?_)
 obtain ⟨be, ai, U⟩ := Ac h
 refine Bo ai (K7 1 2 4 8 10 11 12) J7 (fun (k : Int) s ob => s = [(13, .V k)] ∧ ob = [O0 n [Ab e], O3 f [W2], O3 g [[.V b, .V 0, .v d, .V a.2.1]], U6 d a.1]) ⟨I, I⟩ ⟨I, J⟩ (pk N4) ?_
 rintro k aj s ob ⟨rfl, rfl⟩ h W
 refine Aa fun bf ak => Bl [.l 2 (y.length : Int)] I ⟨A8, J⟩ (Ao h I ?_ ?_)
 intro al h
 refine vL ?_
 subst ak
 refine vM (vN (Ah (fun s ob => ∃ (H : Bool), Rv.J6 y b a k H = some aj ∧ s = [(55, .v (.bool H))] ∧ ob = [O0 n [Ab e], O3 f [W2], O3 g [[.V b, .V 0, .v d, .V a.2.1]], U6 d a.1]) (K8 1 2 4 8 10 11 12 13) J8 ?_ ?_))
 obtain ⟨K, ⟨am, an⟩, h⟩ := Ba h
 refine vH (Al 9 [.o 1 0, .x 3 K.1 (Cc K.2)] I ⟨⟨am, Ae an⟩, I, J⟩ ?_)
 rcases bt ((K.2.Node == a.2.2.1)) with u | u
 have h := B0 u h
 obtain ⟨M, ⟨ao, aq⟩, h⟩ := Ba h
 exact Ad 49 I u (Al 6 [.x 2 M.1 (rI M.2)] I ⟨⟨ao, Ae aq⟩, J⟩ (vI (lg ⟨decide (M.2 < 0), h, I2⟩ N4)))
 have h := B8 u h
 exact Ad 49 I u (Af 6 I (vI (lg ⟨false, h, I2⟩ N4)))
 rintro s ob ⟨H, h, rfl, rfl⟩
 refine Ao h I ?_ ?_
 intro ar h
 refine Aa fun bg au => vH (Af 2 I (vJ [2] I (A3 2 0 1 [[.V b, .V k, .v d, .V a.2.1]] I (vI ?_))))
 subst au
 refine vM ?_
 obtain ⟨D, ⟨av, aw⟩, h⟩ := Ba h
 refine Bi (sl 9 0 (.drop 9 .nil)) [2] [_] I (Br 9 [.o 1 0, .x 4 D.1 (rI D.2)] I ⟨⟨av, Ae aw⟩, I, J⟩ (vZ [2] I I I (A3 2 0 3 [[.V b, .V k, .v d, .V (min a.2.1 (wr (0 - D.2)))]] I (An (vI (vM (vH (Al 1 [.o 0 2] I J1 (vJ [1] I (A3 1 0 0 [[.V b, .V k, .v d, .V (min a.2.1 (wr (0 - D.2)))]] I (Af 1 I (vI ?_))))))))))))
 obtain rfl := W _ (oi h).symm
 have h := U
 have h := Dn h
 obtain rfl := G _ (oi h).symm
 have h := F
 have h := Dn h
 refine Cd [3, 1] I ?_
 cases io h
 exact vO ⟨.inr I, [_, _], [U6 d a.1], ⟨⟨1, _, _, _, _, _, _, _, I5⟩, I, J⟩, Cy I (Cf), ⟨d, I2⟩⟩
 intro ar h
 refine vL (vH (Af 3 I ?_))
 cases io h
 exact vI ⟨_, _, _, I, I2, J8, pk N4⟩
 intro al h
 obtain rfl := W _ (oi h).symm
 have h := U
 have h := Do h
 exact vQ (lg ⟨(), h, I2⟩ N4)
 rintro s ob ⟨S, h, rfl, rfl⟩
 refine Aa fun bh ax => ?_
 obtain ⟨X, ay, h⟩ := Ac h
 refine vH (Al 3 [.o 0 0] I J1 (vU (jE _ _ _ _ ay) (Af 3 I (vJ [] I (Bm [.V 0, .v (.bool false)] 2 fun bi => vJ [4] I (A3 4 0 0 [Cb X.1] I (Af 1 I (vI ?_))))))))
 subst ax
 refine Aa fun bj az => Aj I (Ao h I ?_ ?_)
 intro a0 h
 refine vM (vH (Al 1 [.o 0 2] I J1 (vJ [1] I (A3 1 0 0 [[.V b, .V 0, .v d, .V a.2.1]] I (Af 1 I (vI ?_))))))
 obtain rfl := G _ (oi h).symm
 have h := F
 have h := Dn h
 refine Cd [3, 1] I ?_
 cases io h
 exact vO ⟨.inr I, [_, _], [U6 d a.1], ⟨⟨1, _, _, _, _, _, _, _, I5⟩, I, J⟩, Cy I (Cf), ⟨d, I2⟩⟩
 intro a0 h
 refine vL ?_
 subst az
 refine Aa fun bk a1 => ?_
 obtain ⟨a2, a3, h⟩ := Ac h
 refine vH (Al 3 [.o 1 2, .o 2 4] I J2 (vJ [] I (vR 2 (([X.1] : List Hop).map Cb) (vJ [3] I (vV 3 I a3 fun O => Af 1 I (wC 3 I fun a4 => vJ [2] I (vT 2 0 2 (es' := [[.V b, .V 0, .v O, .V a.2.1]]) I I I I I I (A6 a4) I (A4 I) I I (vI ?_))))))))
 subst a1
 refine vM ?_
 obtain ⟨w, ⟨a5, a6⟩, h⟩ := Ba h
 refine Bi (sl 7 0 (.act 7 (.still 8 (.still 9 (.drop 10 .nil))))) [2, 4] [_, _] I (Br 7 [.o 1 0, .o 4 1, .x 5 w.1 (rI w.2)] I ⟨⟨a5, Ae a6⟩, I, I, J⟩ (wE I (iE w.2 _ I) (A9 2 I (vZ [2] I I I (A3 2 0 3 [[.V b, .V 0, .v O, .V (min a.2.1 (Oh w.2))]] I (An (vI ?_)))))))
 obtain ⟨a7, a8, h⟩ := Ac h
 exact vH (Al 2 [.o 0 0, .o 1 4] I J2 (vU (Vu _ _ _ a8) (Af 4 I (vI (lg ⟨(a2, (min a.2.1 (Oh w.2)), a7.2), O, h, I2⟩ N4)))))
 rintro s ob ⟨t, B, h, rfl, rfl⟩
 unfold Rv.J3 at h
 refine vH (Af 3 I ?_)
 cases io h
 exact vI ⟨_, _, _, I, ⟨B, I2⟩, J7, pk N4⟩
 intro ah h
 obtain rfl := G _ (oi h).symm
 have h := F
 have h := Do h
 exact vQ (lg ⟨(a.1, a.2.1), d, h, I2⟩ [1, 2, 3])
 rintro s ob ⟨i, j, h, rfl, rfl⟩
 unfold Rv.J1 at h
 refine vM (vH (Al 1 [.o 0 1] I J1 (vJ [0] I (A3 0 0 0 [[.V b, .V 0, .v j, .V i.2]] I (Af 1 I (vI (Cd [2, 0] I ?_)))))))
 cases io h
 exact vO ⟨.inr I, [_, _], [U6 j i.1], ⟨⟨1, _, _, _, _, _, _, _, I5⟩, I, J⟩, Cy I (Cf), ⟨j, I2⟩⟩
theorem Vt (g : Nw) (X : Plan) (r : (List Path) × Int) (h : N2 g X = some r) : ACalls Ai 20 [.agg (Ab g), .agg (Ak X)] [] (fun x new => ∃ (u0 : Value), x = .tup [.v u0, .V r.2] ∧ new = [U3 u0 r.1]) := by
 refine Ag Tryz.func20 I I I fun C hC => ?_
 refine Aa fun y1 al => vH (vJ [] I (Bh (Ab g) 6 fun n => vJ [] I (Bh (Ak X) 3 fun b3 => Af 2 I (vI ?_))))
 subst al
 refine Aa fun y4 am => vM ?_
 obtain ⟨r5, an, h⟩ := Ac h
 refine vH (Al 2 [.o 0 0, .o 1 1] I J2 (vU (Ii _ _ _ an) (Af 1 I (vI (Aj I (Ao h I ?_ ?_))))))
 intro ao h
 refine Aj I (vP (A7 52 4) (Cd [2] I ?_))
 cases io h
 exact vO ⟨.inr I, [_, _], [.us nS 52 4 ([].map Az)], J2, Cy I (Cf), ⟨nS, I2⟩⟩
 intro ao h
 refine vL ?_
 subst am
 refine Aa fun y8 aq => ?_
 obtain ⟨b4, ar, h⟩ := Ac h
 refine vH (vJ [] I (vW (sz := 1) (es := ([] : Li).map rI) I I I I I I I I I I I dS fun v9 => Al 2 [.o 1 1] I J1 (vJ [2] I (vV 2 I ar fun t => Af 1 I (vI ?_)))))
 subst aq
 refine Aa fun b6 au => ?_
 obtain ⟨b7, av, h⟩ := Ac h
 refine vH (vJ [] I (vW (sz := 1) (es := ([] : Li).map rI) I I I I I I I I I I I dS fun b8 => Al 2 [.o 1 1] I J1 (vJ [3] I (vV 3 I av fun u => Af 1 I (vI ?_)))))
 subst au
 refine Aj I (Ah (fun s ob => ∃ (Q : List Path) (H : Value), N2.J1 Q = some r ∧ s = [(9, .v H)] ∧ ob = [U3 H Q]) [] J ?_ ?_)
 refine Aj I (vN (vP (A7 52 4) ?_))
 obtain ⟨b9, aw, ab⟩ := Ac h
 refine Bo aw (K3 2 7 8) J3 (fun (w : Li × Li × (List Path) × Int) s ob => ∃ (M : Value), s = [(9, .v M), (10, .V w.2.2.2)] ∧ ob = [O0 n [Ab g], U0 t w.1, U0 u w.2.1, U3 M w.2.2.1]) ⟨nS, I2⟩ ⟨I, I, J⟩ (pk [0, 2, 3, 4]) ?_
 rintro w ax s ob ⟨M, rfl, rfl⟩ h ac
 refine Aa fun ca ay => vM (vH (Af 2 I (vS (By 2 I I I I) I (Af 1 I (vI (Ao h I ?_ ?_))))))
 intro az h
 refine vL ?_
 subst ay
 refine Ah (fun s ob => ∃ (O : Li × Li × (List Path)) (R : Value), N2.J3 w O = some ax ∧ s = [(9, .v R)] ∧ ob = [O0 n [Ab g], U0 t O.1, U0 u O.2.1, U3 R O.2.2]) (K4 2 7 8 10) J4 ?_ ?_
 refine vN (vN ?_)
 obtain ⟨cb, a0, ad⟩ := Ac h
 refine Bo a0 (K4 2 7 8 10) J4 (fun (b : Li × Li × (List Path)) s ob => ∃ (k : Value), s = [(9, .v k)] ∧ ob = [O0 n [Ab g], U0 t b.1, U0 u b.2.1, U3 k b.2.2]) ⟨M, I2⟩ ⟨I, J⟩ (pk N4) ?_
 rintro b a1 s ob ⟨k, rfl, rfl⟩ h ae
 refine Aa fun cc a2 => vM ?_
 obtain ⟨Y, ⟨a3, af⟩, h⟩ := Ba h
 refine vH (Af 2 I (vS (Bb 2 (m := Y.1) I I I I I I I a3 (Ae af)) I (vS (Au 2 Y.1 0 I I I (Ae af) I (y := .V Y.2) I) I (Af 1 I (vI (Ao h I ?_ ?_))))))
 intro a4 h
 refine vL ?_
 subst a2
 refine vN (Aa fun cd a5 => ?_)
 obtain ⟨a, a6, h⟩ := Ac h
 refine vH (Al 4 [.o 0 0] I J1 (vJ [] I (S4 I (.refl _) I I (.cons (.refl _) (.cons (.us 1 I) (.cons (.us 2 I) (.rest _)))) I (cA _ _ _ _ _ a6) dS (by rintro _ _ ⟨_, rfl, rfl⟩; exact ⟨rfl, by intro p hp; simp only [List.mem_cons, List.not_mem_nil, or_false] at hp; rcases hp with rfl <;> exact Zk fun _ => rfl⟩) ?_)))
 rintro _ _ ⟨l, rfl, rfl⟩
 refine Af 3 I (vJ [] I (Bm W2 4 fun S => vJ [5] I (A3 5 0 0 [[.V a.1.In, .V a.1.Out, .v l, .V a.1.Rate]] I (Af 1 I (vI ?_)))))
 subst a5
 refine Aa fun ce a7 => D2 60 ((!a.2) || (((b.2.2.length : Int) == 64) || decide ((a.1.Hops.length : Int) > 32))) ?_ ?_
 refine vH (Af 3 I ?_)
 rcases bt ((!a.2)) with B | B
 exact Ad 50 I B (Af 10 I (vI (jf (by simp only [B, bz]) I I I2)))
 refine Ad 50 I B (Af 1 I (Bf I I I (vS (By 3 I I I I) I (Af 3 I ?_))))
 rcases bt (((b.2.2.length : Int) == 64)) with P | P
 exact Ad 55 I P (Af 5 I (vI (jf (by simp only [B, P, bz]) I I I2)))
 exact Ad 55 I P (Al 2 [.o 1 5] I J1 (Bf I I I (vS (By 4 I I I I) I (Af 2 I (vI (jf (by simp only [B, P, bz]) I I I2))))))
 refine Ao h I ?_ ?_
 intro a8 h
 refine Aj I ?_
 obtain rfl := ae _ (oi h).symm
 have h := ad
 have h := Dn h
 obtain rfl := ac _ (oi h).symm
 have h := ab
 have h := Dn h
 refine vP (A7 52 4) (Cd [6] I ?_)
 cases io h
 exact vO ⟨.inr I, [_, _], [.us nS 52 4 ([].map Az)], J2, Cy I (Cf), ⟨nS, I2⟩⟩
 intro a8 h
 refine vL ?_
 subst a7
 refine Aa fun cf a9 => ?_
 obtain ⟨e, ⟨ag, D⟩, h⟩ := Ba h
 refine Bw 2 e.1 I D fun ba => Bw 2 e.1 I D fun bb => Bi cT [5, 2] [_, _] I (Br 6 [.o 2 0, .o 5 0] I J2 (vX I (Aq (m := e.1) I I I I I ba I ag D) I (AP.o I (Au 1 e.1 0 I I I (Ae D) I (y := .V e.2) I) I (Br 3 [.o 1 0] I J1 (vX I (Aq (m := e.1) I I I I I bb I ag D) I (vZ [2] I I I (Bg 2 e.1 0 I I I (Ae D) I I I I (A4 I) I (Ci (x := wr (e.2 - a.1.Rate)) I) (An (vI ?_)))))))))
 subst a9
 refine Aa fun cg bc => ?_
 obtain ⟨f, ⟨ah, E⟩, h⟩ := Ba h
 refine Bw 2 f.1 I E fun bd => Bw 2 f.1 I E fun be => Bi cT [5, 2] [_, _] I (Br 6 [.o 2 0, .o 5 0] I J2 (vX I (Aq (m := f.1) I I I I I bd I ah E) I (AP.o I (Au 1 f.1 0 I I I (Ae E) I (y := .V f.2) I) I (Br 3 [.o 1 0] I J1 (vX I (Aq (m := f.1) I I I I I be I ah E) I (vZ [2] I I I (Bg 2 f.1 0 I I I (Ae E) I I I I (A4 I) I (Ci (x := wr (f.2 + a.1.Rate)) I) (An (vI ?_)))))))))
 subst bc
 refine Ah (fun s ob => ∃ (U : Li), N2.J5 b a e f U = some a1 ∧ s = [] ∧ ob = [O0 n [Ab g], U0 t U, .us u 3 1 (((b.2.1.set e.1 (wr (e.2 - a.1.Rate))).set f.1 (wr (f.2 + a.1.Rate))).map rI), U3 k b.2.2, U6 l a.1.Hops, O3 S [[.V a.1.In, .V a.1.Out, .v l, .V a.1.Rate]]]) (K6 2 7 8 9 10 11) J6 ?_ ?_
 refine Aj I (vN ?_)
 obtain ⟨ci, bf, bg⟩ := Ac h
 refine Bo bf (K6 2 7 8 9 10 11) J6 (fun (A : Li × Int) s ob => s = [(13, .V A.2)] ∧ ob = [O0 n [Ab g], U0 t A.1, .us u 3 1 (((b.2.1.set e.1 (wr (e.2 - a.1.Rate))).set f.1 (wr (f.2 + a.1.Rate))).map rI), U3 k b.2.2, U6 l a.1.Hops, O3 S [[.V a.1.In, .V a.1.Out, .v l, .V a.1.Rate]]]) ⟨I, I⟩ ⟨I, J⟩ (pk N6) ?_
 rintro A bh s ob ⟨rfl, rfl⟩ h bi
 refine Aa fun cj bj => vM (vH (Al 3 [.o 2 5] I J1 (vS (By 4 I I I I) I (Af 1 I (vI (Ao h I ?_ ?_))))))
 intro bk h
 refine vL ?_
 subst bj
 refine Ah (fun s ob => ∃ (Z : Li), N2.J7 A Z = some bh ∧ s = [] ∧ ob = [O0 n [Ab g], U0 t Z, .us u 3 1 (((b.2.1.set e.1 (wr (e.2 - a.1.Rate))).set f.1 (wr (f.2 + a.1.Rate))).map rI), U3 k b.2.2, U6 l a.1.Hops, O3 S [[.V a.1.In, .V a.1.Out, .v l, .V a.1.Rate]]]) (K7 2 7 8 9 10 11 13) J7 ?_ ?_
 refine vN (Aa fun ck bl => ?_)
 obtain ⟨W, ⟨bm, ai⟩, h⟩ := Ba h
 refine vH (Al 3 [.o 1 5] I J1 (vS (Bb 4 (m := W.1) I I I I I I I bm (Ae ai)) I (vS (Au 4 W.1 0 I I I (Ae ai) I (y := .agg (Cb W.2)) I) I (vJ [] I (Bm [.V 0, .v (.bool false)] 2 fun cl => vJ [6] I (A3 6 0 0 [Cb W.2] I (vI ?_)))))))
 subst bl
 refine Bl [.o 1 6] I J1 (Ao h I ?_ ?_)
 intro bn h
 obtain ⟨i, ⟨aj, F⟩, h⟩ := Ba h
 exact Bw 1 i.1 I F fun bo => Bw 1 i.1 I F fun bp => Bi cT [6, 1, 5] [_, _, _] I (Br 6 [.o 2 0, .o 5 0] I J2 (vX I (Aq (m := i.1) I I I I I bo I aj F) I (AP.o I (Au 1 i.1 0 I I I (Ae F) I (y := .V i.2) I) I (Br 3 [.o 1 2] I J1 (vX I (Aq (m := i.1) I I I I I bp I aj F) I (vZ [1] I I I (Bg 1 i.1 0 I I I (Ae F) I I I I (A4 I) I (Ci (x := wr (i.2 + a.1.Rate)) I) (An (vI (lg ⟨(A.1.set i.1 (wr (i.2 + a.1.Rate))), h, I2⟩ N6))))))))))
 intro bn h
 obtain ⟨j, ⟨ak, G⟩, h⟩ := Ba h
 exact Bw 1 j.1 I G fun bq => Bw 1 j.1 I G fun br => Bi cT [6, 1, 5] [_, _, _] I (Br 6 [.o 2 0, .o 5 0] I J2 (vX I (Aq (m := j.1) I I I I I bq I ak G) I (AP.o I (Au 1 j.1 0 I I I (Ae G) I (y := .V j.2) I) I (Br 3 [.o 1 2] I J1 (vX I (Aq (m := j.1) I I I I I br I ak G) I (vZ [1] I I I (Bg 1 j.1 0 I I I (Ae G) I I I I (A4 I) I (Ci (x := wr (j.2 - a.1.Rate)) I) (An (vI (lg ⟨(A.1.set j.1 (wr (j.2 - a.1.Rate))), h, I2⟩ N6))))))))))
 rintro s ob ⟨Z, h, rfl, rfl⟩
 unfold N2.J7 at h
 refine vH (Af 3 I ?_)
 cases io h
 exact vI ⟨_, _, _, I, I2, J7, pk N6⟩
 intro bk h
 obtain rfl := bi _ (oi h).symm
 have h := bg
 exact vQ (lg ⟨A.1, h, I2⟩ N6)
 rintro s ob ⟨U, h, rfl, rfl⟩
 obtain ⟨cm, bs, h⟩ := Ac h
 refine vH (Al 2 [.o 1 5] I J1 (wD (Av [4] (K := [U6 l a.1.Hops]) I [(124, .agg [.V a.1.In, .V a.1.Out, Q7 a.1.Hops, .V a.1.Rate])] ⟨⟨_, I, .agg (.cons (.refl _) (.cons (.refl _) (.cons (.us 0 I) (.rest _))))⟩, J⟩ (ob' := [O0 n [Ab g], U0 t U, .us u 3 1 (((b.2.1.set e.1 (wr (e.2 - a.1.Rate))).set f.1 (wr (f.2 + a.1.Rate))).map rI), U3 k b.2.2, O3 S [Az a.1]]) (.cons (.same _) (.cons (.same _) (.cons (.same _) (.cons (.same _) (.cons (.arr (.cons (.refl _) (.cons (.refl _) (.cons (.us 0 I) (.rest _))))) (.rest _))))))) (vJ [] I (vR 4 (([a.1] : List Path).map Az) (vJ [3] I (vV 3 I bs fun bu => Af 1 I ?_))))))
 cases io h
 exact vI ⟨_, _, _, I, ⟨bu, I2⟩, J5, pk N4⟩
 intro a4 h
 obtain rfl := ae _ (oi h).symm
 have h := ad
 have h := Do h
 exact vQ (lg ⟨(b.1, b.2.1, b.2.2), k, h, I2⟩ N4)
 rintro s ob ⟨O, R, h, rfl, rfl⟩
 unfold N2.J3 at h
 refine vH (Af 3 I ?_)
 cases io h
 exact vI ⟨_, _, _, I, ⟨R, I2⟩, J5, pk N4⟩
 intro az h
 obtain rfl := ac _ (oi h).symm
 have h := ab
 have h := Do h
 exact vQ (lg ⟨w.2.2.1, M, h, I2⟩ [3])
 rintro s ob ⟨Q, H, h, rfl, rfl⟩
 unfold N2.J1 at h
 refine Aj I ?_
 cases io h
 exact vO ⟨.inr I, [_, _], [U3 H Q], J2, Cy I (Cf), ⟨H, I2⟩⟩
theorem V2 (a : Path) (b : Path) (r : Bool) (h : Lu a b = some r) : ACalls Ai 26 [.agg (Az a), .agg (Az b)] [] (RB r) := by
 refine Ag Tryz.func26 I I I fun C hC => ?_
 unfold Lu at h
 refine Aa fun K n => vH (vJ [] I (Bh (Az a) 4 fun p => vJ [] I (Bh (Az b) 4 fun t => Af 1 I (vI ?_))))
 subst n
 refine Aa fun M u => D2 26 ((a.In != b.In) || ((a.Out != b.Out) || ((a.Hops.length : Int) != (b.Hops.length : Int)))) ?_ ?_
 refine vH (Al 6 [.o 1 0, .o 3 1] I J2 ?_)
 rcases bt ((a.In != b.In)) with c | c
 exact Ad 11 I c (Af 15 I (vI (jf (by simp only [c, bz]) I I I2)))
 refine Ad 11 I c (Al 7 [.o 1 0, .o 3 1] I J2 ?_)
 rcases bt ((a.Out != b.Out)) with d | d
 exact Ad 18 I d (Af 8 I (vI (jf (by simp only [c, d, bz]) I I I2)))
 exact Ad 18 I d (Al 8 [.o 1 0, .l 2 (a.Hops.length : Int), .o 4 1, .l 5 (b.Hops.length : Int)] I ⟨A8, I, A8, I, J⟩ (vI (jf (by simp only [c, d, bz]) I I I2)))
 refine Ao h I ?_ ?_
 intro w h
 refine Aj I (vP g0 ?_)
 cases io h
 exact vO pr
 intro w h
 refine vL ?_
 subst u
 refine Ah (fun s ob => ∃ (g : Unit), Lu.J1 g = some r ∧ s = [] ∧ ob = []) [] J ?_ ?_
 refine Aj I (vN ?_)
 obtain ⟨N, y, i⟩ := Ac h
 refine Bo y (K2 2 3) J2 (fun (j : Int) s ob => s = [(5, .V j)] ∧ ob = [O3 p [Az a], O3 t [Az b]]) ⟨I, I⟩ ⟨I, J⟩ (pk [0, 1]) ?_
 rintro j O s ob ⟨rfl, rfl⟩ h k
 refine Aa fun P A => Bl [.o 2 0, .l 3 (a.Hops.length : Int)] I ⟨A8, I, J⟩ (Ao h I ?_ ?_)
 intro B h
 refine vL ?_
 subst A
 refine vM (vN (vM ?_))
 obtain ⟨e, ⟨D, E⟩, h⟩ := Ba h
 obtain ⟨f, ⟨F, G⟩, h⟩ := Ba h
 refine Bi (pd 11 0 []) [0, 1] [_, _] I (Br 10 [.o 1 0, .x 3 e.1 (Cb e.2), .o 6 1, .x 8 f.1 (Cb f.2)] I ⟨⟨F, Ae G⟩, I, ⟨D, Ae E⟩, I, J⟩ (vX I (Kb (r := ((e.2.Segment == f.2.Segment) && ((e.2.Back == f.2.Back) && true))) I I Tj I I I I) I (An (vI (Ao h I ?_ ?_)))))
 intro H h
 refine Aj I ?_
 obtain rfl := k _ (oi h).symm
 have h := i
 have h := Dn h
 refine vP g0 ?_
 cases io h
 exact vO pr
 intro H h
 refine vL (vH (Af 3 I ?_))
 cases io h
 exact vI ⟨_, _, _, I, I2, J3, pk [0, 1]⟩
 intro B h
 obtain rfl := k _ (oi h).symm
 have h := i
 have h := Do h
 exact vQ (lg ⟨(), h, I2⟩ [])
 rintro s ob ⟨g, h, rfl, rfl⟩
 unfold Lu.J1 at h
 refine Aj I ?_
 cases io h
 exact vO pr
theorem Wh (b : List Path) (a : Path) (r : Int) (h : Ou b a = some r) : ACalls Ai 25 [Q6 b, .agg (Az a)] [] (RV (.V r)) := by
 refine Ag Tryz.func25 I I I fun C hC => ?_
 unfold Ou at h
 refine Aa fun A j => vH (vJ [] I (Bh (Az a) 4 fun k => Af 1 I (vI ?_)))
 subst j
 refine Ah (fun s ob => ∃ (d : Unit), Ou.J1 d = some r ∧ s = [] ∧ ob = []) [] J ?_ ?_
 refine Aj I (vN ?_)
 obtain ⟨B, n, e⟩ := Ac h
 refine Bo n (K2 0 3) J2 (fun (f : Int) s ob => s = [(5, .V f)] ∧ ob = [O3 k [Az a]]) ⟨I, I⟩ ⟨I, J⟩ (pk [0]) ?_
 rintro f D s ob ⟨rfl, rfl⟩ h g
 refine Aa fun E p => Bl [.l 2 (b.length : Int)] I ⟨A8, J⟩ (Ao h I ?_ ?_)
 intro t h
 refine vL ?_
 subst p
 refine vM (vN (vM ?_))
 obtain ⟨i, ⟨u, v⟩, h⟩ := Ba h
 obtain ⟨F, w, h⟩ := Ac h
 refine Bi (pd 6 0 [5]) [0] [_] I (Br 5 [.x 2 i.1 (Az i.2), .o 4 0] I ⟨I, ⟨u, Ae v⟩, J⟩ (wE I (V2 _ _ _ w) (An (vI (Ao h I ?_ ?_)))))
 intro y h
 refine Aj I ?_
 obtain rfl := g _ (oi h).symm
 have h := e
 have h := Dn h
 refine vP g0 ?_
 cases io h
 exact vO pr
 intro y h
 refine vL (vH (Af 3 I ?_))
 cases io h
 exact vI ⟨_, _, _, I, I2, J3, pk [0]⟩
 intro t h
 obtain rfl := g _ (oi h).symm
 have h := e
 have h := Do h
 exact vQ (lg ⟨(), h, I2⟩ [])
 rintro s ob ⟨d, h, rfl, rfl⟩
 unfold Ou.J1 at h
 refine Aj I ?_
 cases io h
 exact vO pr
theorem gU (k : List Path) (p : List Path) (r : List Path) (h : Rp k p = some r) : ACalls Ai 22 [Q6 k, Q6 p] [] (fun x new => ∃ (t : Value), x = .v t ∧ new = [U3 t r]) := by
 refine Ag Tryz.func22 I I I fun C hC => ?_
 unfold Rp at h
 refine Aj I (Aj I (Ah (fun s ob => ∃ (f : List Path) (d : Value), Rp.J1 f = some r ∧ s = [(5, .v d)] ∧ ob = [U3 d f]) [] J ?_ ?_))
 refine Aj I (vN (vP (A7 52 4) ?_))
 obtain ⟨W, y, A⟩ := Ac h
 refine Bo y (K2 0 1) J2 (fun (b : (List Path) × Int) s ob => ∃ (e : Value), s = [(5, .v e), (6, .V b.2)] ∧ ob = [U3 e b.1]) ⟨nS, I2⟩ ⟨I, I, J⟩ (pk [0]) ?_
 rintro b B s ob ⟨e, rfl, rfl⟩ h D
 refine Aa fun X E => Bl [.l 2 (k.length : Int)] I ⟨A8, J⟩ (Ao h I ?_ ?_)
 intro F h
 refine vL ?_
 subst E
 refine Ah (fun s ob => ∃ (n : List Path) (g : Value), Rp.J3 b n = some B ∧ s = [(5, .v g)] ∧ ob = [U3 g n]) (K3 0 1 6) J3 ?_ ?_
 refine vN (Aa fun Y G => ?_)
 obtain ⟨i, ⟨u, w⟩, h⟩ := Ba h
 obtain ⟨Z, H, h⟩ := Ac h
 refine vH (Al 5 [.x 3 i.1 (Az i.2)] I ⟨⟨u, Ae w⟩, J⟩ (vU (Wh _ _ _ H) (Af 1 I (vI ?_))))
 subst G
 refine Aj I (Ao h I ?_ ?_)
 intro K h
 refine Aa fun aa M => ?_
 obtain ⟨a, O, h⟩ := Ac h
 refine vH (Al 4 [.x 2 i.1 (Az i.2)] I ⟨⟨u, Ae w⟩, J⟩ (vJ [] I (Bp I I I (Ps _ _ O) dS ?_)))
 rintro _ _ ⟨rfl, rfl⟩
 refine vJ [] I (Bm W2 4 fun ab => vJ [1] I (A3 1 0 0 [Az a] I (vI ?_)))
 subst M
 refine vM ?_
 obtain ⟨j, ⟨P, Q⟩, h⟩ := Ba h
 refine Bi (sl 9 0 (.drop 9 .nil)) [1] [_] I (Br 9 [.o 1 0, .x 4 j.1 (Az j.2)] I ⟨⟨P, Ae Q⟩, I, J⟩ (vZ [1] I I I (A3 1 0 3 [[.V a.In, .V a.Out, Q7 a.Hops, .V (min a.Rate j.2.Rate)]] I (An (vI ?_)))))
 obtain ⟨R, S, h⟩ := Ac h
 exact vH (Al 2 [.o 1 1] I J1 (vJ [] I (vR 4 (([(⟨a.In, a.Out, a.Hops, (min a.Rate j.2.Rate)⟩ : Path)] : List Path).map Az) (vJ [0] I (vV 0 I S fun U => Af 1 I (vI (lg ⟨R, U, h, I2⟩ [0])))))))
 intro K h
 exact vL (lg ⟨b.1, e, h, I2⟩ [0])
 rintro s ob ⟨n, g, h, rfl, rfl⟩
 unfold Rp.J3 at h
 refine vH (Af 3 I ?_)
 cases io h
 exact vI ⟨_, _, _, I, ⟨g, I2⟩, J4, pk [0]⟩
 intro F h
 obtain rfl := D _ (oi h).symm
 have h := A
 exact vQ (lg ⟨b.1, e, h, I2⟩ [0])
 rintro s ob ⟨f, d, h, rfl, rfl⟩
 refine Aj I ?_
 obtain rfl := oi h
 exact vO ⟨.inr I, [_], [U3 d f], J1, Cy I (Cf), ⟨d, I2⟩⟩
theorem Pr (j : Nw) (P : List Path) (U : List Bool) (r : Plan × Int) (h : Jn j P U = some r) : ACalls Ai 21 [.agg (Ab j), Q6 P, Q2 U] [] (RV (.tup [.agg (Ak r.1), .V r.2])) := by
 refine Ag Tryz.func21 I I I fun C hC => ?_
 refine Aa fun y1 a7 => vH (vJ [] I (Bh (Ab j) 6 fun w => vJ [] I (Bm W0 3 fun A => Af 1 I (vI ?_))))
 subst a7
 refine Aa fun y4 a8 => vM ?_
 obtain ⟨r5, a9, h⟩ := Ac h
 refine vH (Al 1 [.o 0 0] I J1 (vU (Kv _ _ a9) (Af 1 I (vI (Aj I (Ao h I ?_ ?_))))))
 intro ba h
 refine vM (vH (Ch (Bd (l := W0) Dj I) I (Af 1 I (vJ [1] I (A3 1 0 0 [W0] I (Af 1 I (vI (vP (Av [] (K := []) I [] J (ob' := [O0 w [Ab j], O1 A [[.list 1 ([].map rI), .list 1 ([].map rI), .list 1 ([].map rB)]]]) (.cons (.same _) (.cons (.arr (.cons (.nil _) (.cons (.nil _) (.cons (.nil _) (.rest _))))) (.rest _)))) (Cd [1] I ?_)))))))))
 cases io h
 exact vO ⟨.inr I, [_, _], [], ⟨⟨0, _, _, _, _, _, _, _, I5⟩, I, J⟩, Cf, I2⟩
 intro ba h
 refine vL ?_
 subst a8
 refine Aa fun y8 bb => Bl [.l 1 (P.length : Int)] I ⟨A8, J⟩ (Ao h I ?_ ?_)
 intro bc h
 refine vM (vH (Ch (Bd (l := W0) Dj I) I (vJ [1] I (A3 1 0 0 [W0] I (Af 1 I (vI (vP (Av [] (K := []) I [] J (ob' := [O0 w [Ab j], O1 A [[.list 1 ([].map rI), .list 1 ([].map rI), .list 1 ([].map rB)]]]) (.cons (.same _) (.cons (.arr (.cons (.nil _) (.cons (.nil _) (.cons (.nil _) (.rest _))))) (.rest _)))) (Cd [1] I ?_))))))))
 cases io h
 exact vO ⟨.inr I, [_, _], [], ⟨⟨0, _, _, _, _, _, _, _, I5⟩, I, J⟩, Cf, I2⟩
 intro bc h
 refine vL ?_
 subst bb
 refine Ah (fun s ob => ∃ (i : Li × Li × (List Bool)) (B : Nat) (a : Value) (e : Value) (g : Value), Jn.J1 j P U i = some r ∧ s = [(9, .P B)] ∧ ob = [O0 w [Ab j], O1 A [W0], U0 a i.1, U0 e i.2.1, U1 g i.2.2, O1 B [[.v a, .v e, .v g]]]) (K4 1 2 3 6) J4 ?_ ?_
 obtain ⟨aj, ⟨cv, bd, be, bf⟩, h⟩ := Fo h
 obtain ⟨ak, ⟨cw, bg, bh, bi⟩, h⟩ := Fo h
 obtain ⟨al, bj, h⟩ := Ac h
 refine Bi (sl 3 0 (sl 3 4 (.still 9 (.par [(3, []), (7, []), (8, []), (10, [8]), (12, []), (11, [3, 7, 10])] (.act 13 .nil))))) [0] [_] I (Br 7 [.o 1 0, .l 2 (j.Segments.length : Int), .o 4 0, .l 5 (j.Ports.length : Int)] I ⟨A8, I, A8, I, J⟩ (AP.any [⟨3, [], 30, .us 3 1 (aj.map rI)⟩, ⟨7, [], 34, .us 3 1 (ak.map rI)⟩, ⟨8, [], 35, .lt 4 1⟩, ⟨10, [8], 37, .ap 8 4 1 (al.map rB)⟩, ⟨12, [], 9, .box 37 3 (W0)⟩, ⟨11, [3, 7, 10], 38, .fn fun l => match l with | [.v Q, .v R, .v S] => .agg [.v Q, .v R, .v S] | _ => .tup []⟩] I ⟨⟨_, I, I, I, fun _ => Dq (sz := 1) I I I I I I I I I I bd be (D5 (f := rI) bf I) dS fun v => ⟨_, I, ⟨v, I⟩, I⟩⟩, ⟨_, I, I, I, fun _ => Dq (sz := 1) I I I I I I I I I I bg bh (D5 (f := rI) bi I) dS fun v => ⟨_, I, ⟨v, I⟩, I⟩⟩, ⟨_, I, I, I, fun _ => vW (sz := 1) (es := ([] : List Bool).map rB) I I I I I I I I I I I dS fun v => ⟨_, I, ⟨v, I⟩, I⟩⟩, ⟨_, I, I, I, fun _ _ _ => vV (la := []) (fr := rB) 0 I bj fun v => ⟨v, I2⟩⟩, ⟨_, I, I, I, fun _ => Bm W0 3 fun b => ⟨_, I, ⟨b, I⟩, I⟩⟩, ⟨_, I, I, I, fun Q am R an S ao _ => Ay (wB (Bd (l := [.v Q, .v R, .v S]) Dj (Bu I I (A6 am) I (Bu I I (A6 an) I (Bu I I (A6 ao) I (Eb)))))) dS ⟨_, I, I, nb⟩⟩, J⟩ ?_))
 intro Q am R an _ _ S ao bk
 exact AP.same 38 (.agg [.v Q, .v R, .v S]) I (vK [5] I I I (A3 5 0 0 [[.v Q, .v R, .v S]] I (An (vI (lg ⟨(aj, ak, al), bk, Q, R, S, h, I2⟩ N6)))))
 rintro s ob ⟨i, B, a, e, g, h, rfl, rfl⟩
 unfold Jn.J1 at h
 refine Ah (fun s ob => ∃ (aq : Unit), Jn.J2 j P U i aq = some r ∧ s = [] ∧ ob = [O0 w [Ab j], O1 A [W0], U0 a i.1, U0 e i.2.1, U1 g i.2.2, O1 B [[.v a, .v e, .v g]]]) (K5 1 2 3 6 9) J5 ?_ ?_
 refine Aj I (vN ?_)
 obtain ⟨cx, bl, ar⟩ := Ac h
 refine Bo bl (K5 1 2 3 6 9) J5 (fun (au : Int) s ob => s = [(10, .V au)] ∧ ob = [O0 w [Ab j], O1 A [W0], U0 a i.1, U0 e i.2.1, U1 g i.2.2, O1 B [[.v a, .v e, .v g]]]) ⟨I, I⟩ ⟨I, J⟩ (pk N6) ?_
 rintro au cy s ob ⟨rfl, rfl⟩ h av
 refine Aa fun cz bm => Bl [.l 2 (P.length : Int)] I ⟨A8, J⟩ (Ao h I ?_ ?_)
 intro bn h
 refine vL ?_
 subst bm
 refine vM (vN (vM ?_))
 obtain ⟨aw, ⟨bo, bp⟩, h⟩ := Ba h
 obtain ⟨c0, bq, h⟩ := Ac h
 refine Bi (pd 7 0 [5]) [0] [_] I (Br 5 [.o 0 0, .x 3 aw.1 (Az aw.2)] I ⟨⟨bo, Ae bp⟩, I, J⟩ (wE I (fS _ _ _ bq) (A9 1 I (An (vI (Ao h I ?_ ?_))))))
 intro br h
 refine vM (vH (Ch (Bd (l := W0) Dj I) I (vJ [1] I (A3 1 0 0 [W0] I (Af 1 I (vI ?_))))))
 obtain rfl := av _ (oi h).symm
 have h := ar
 have h := Dn h
 refine vP (Av [] (K := []) I [] J (ob' := [O0 w [Ab j], O1 A [[.list 1 ([].map rI), .list 1 ([].map rI), .list 1 ([].map rB)]], U0 a i.1, U0 e i.2.1, U1 g i.2.2, O1 B [[.v a, .v e, .v g]]]) (.cons (.same _) (.cons (.arr (.cons (.nil _) (.cons (.nil _) (.cons (.nil _) (.rest _))))) (.rest _)))) (Cd [1] I ?_)
 cases io h
 exact vO ⟨.inr I, [_, _], [], ⟨⟨0, _, _, _, _, _, _, _, I5⟩, I, J⟩, Cf, I2⟩
 intro br h
 refine vL (vH (Af 3 I ?_))
 cases io h
 exact vI ⟨_, _, _, I, I2, J6, pk N6⟩
 intro bn h
 obtain rfl := av _ (oi h).symm
 have h := ar
 have h := Do h
 exact vQ (lg ⟨(), h, I2⟩ N6)
 rintro s ob ⟨aq, h, rfl, rfl⟩
 unfold Jn.J2 at h
 refine Ah (fun s ob => ∃ (D : Li × Li), Jn.J3 j U i D = some r ∧ s = [] ∧ ob = [O0 w [Ab j], O1 A [W0], U0 a D.1, U0 e D.2, U1 g i.2.2, O1 B [[.v a, .v e, .v g]]]) (K4 2 3 6 9) J4 ?_ ?_
 refine Aj I (vN ?_)
 obtain ⟨c1, bs, ax⟩ := Ac h
 refine Bo bs (K5 1 2 3 6 9) J5 (fun (E : Li × Li × Int) s ob => s = [(11, .V E.2.2)] ∧ ob = [O0 w [Ab j], O1 A [W0], U0 a E.1, U0 e E.2.1, U1 g i.2.2, O1 B [[.v a, .v e, .v g]]]) ⟨I, I⟩ ⟨I, J⟩ (pk N6) ?_
 rintro E bu s ob ⟨rfl, rfl⟩ h ay
 refine Aa fun c2 bv => Bl [.l 2 (P.length : Int)] I ⟨A8, J⟩ (Ao h I ?_ ?_)
 intro bw h
 refine vL ?_
 subst bv
 refine Ah (fun s ob => ∃ (ad : Li × Li), Jn.J5 E ad = some bu ∧ s = [] ∧ ob = [O0 w [Ab j], O1 A [W0], U0 a ad.1, U0 e ad.2, U1 g i.2.2, O1 B [[.v a, .v e, .v g]]]) (K6 1 2 3 6 9 11) J6 ?_ ?_
 refine vN (Aa fun c3 bx => ?_)
 obtain ⟨k, ⟨bz, b0⟩, h⟩ := Ba h
 refine vH (Al 4 [.x 2 k.1 (Az k.2)] I ⟨⟨bz, Ae b0⟩, J⟩ (vJ [] I (Bm W2 4 fun ae => vJ [6] I (A3 6 0 0 [Az k.2] I (vI ?_)))))
 subst bx
 refine Aa fun c4 b1 => ?_
 obtain ⟨n, ⟨az, W⟩, h⟩ := Ba h
 refine Bw 3 n.1 I W fun b4 => Bw 3 n.1 I W fun b5 => Bi (sl 14 0 (.drop 14 .nil)) [5, 6, 3] [_, _, _] I (Br 8 [.o 1 0, .o 3 1, .o 5 0, .o 7 1] I J4 (vX I (Aq (m := n.1) I I I I I b4 I az W) I (AP.o I (Au 2 n.1 0 I I I (Ae W) I (y := .V n.2) I) I (Br 3 [.o 1 1] I J1 (vX I (Aq (m := n.1) I I I I I b5 I az W) I (vZ [3] I I I (Bg 3 n.1 0 I I I (Ae W) I I I I (A4 I) I (Ci (x := wr (n.2 + k.2.Rate)) I) (An (vI ?_)))))))))
 subst b1
 refine Aa fun c5 b6 => ?_
 obtain ⟨u, ⟨a0, X⟩, h⟩ := Ba h
 refine Bw 3 u.1 I X fun b7 => Bw 3 u.1 I X fun b8 => Bi (sl 14 0 (.drop 14 .nil)) [5, 6, 3] [_, _, _] I (Br 8 [.o 1 0, .o 3 1, .o 5 0, .o 7 1] I J4 (vX I (Aq (m := u.1) I I I I I b7 I a0 X) I (AP.o I (Au 2 u.1 0 I I I (Ae X) I (y := .V u.2) I) I (Br 3 [.o 1 1] I J1 (vX I (Aq (m := u.1) I I I I I b8 I a0 X) I (vZ [3] I I I (Bg 3 u.1 0 I I I (Ae X) I I I I (A4 I) I (Ci (x := wr (u.2 - k.2.Rate)) I) (An (vI ?_)))))))))
 subst b6
 refine Aj I (vN ?_)
 obtain ⟨c6, b9, a1⟩ := Ac h
 refine Bo b9 (K7 1 2 3 6 9 11 12) J7 (fun (F : Li × Int) s ob => s = [(13, .V F.2)] ∧ ob = [O0 w [Ab j], O1 A [W0], U0 a F.1, .us e 3 1 (((E.2.1.set n.1 (wr (n.2 + k.2.Rate))).set u.1 (wr (u.2 - k.2.Rate))).map rI), U1 g i.2.2, O1 B [[.v a, .v e, .v g]], O3 ae [Az k.2]]) ⟨I, I⟩ ⟨I, J⟩ (pk N7) ?_
 rintro F a2 s ob ⟨rfl, rfl⟩ h a3
 refine Aa fun c7 ca => Bl [.o 2 6, .l 3 (k.2.Hops.length : Int)] I ⟨A8, I, J⟩ (Ao h I ?_ ?_)
 intro cb h
 refine vL ?_
 subst ca
 refine vM (vN (Aa fun c8 cc => ?_))
 obtain ⟨G, ⟨cd, ce⟩, h⟩ := Ba h
 refine vH (Al 5 [.o 1 6, .x 3 G.1 (Cb G.2)] I ⟨⟨cd, Ae ce⟩, I, J⟩ (vJ [] I (Bm [.V 0, .v (.bool false)] 2 fun ah => vJ [7] I (A3 7 0 0 [Cb G.2] I (vI ?_)))))
 subst cc
 refine Bl [.o 1 6] I J1 (Ah (fun s ob => ∃ (H : Int), Jn.J7 F G H = some a2 ∧ s = [(15, .V H)] ∧ ob = [O0 w [Ab j], O1 A [W0], U0 a F.1, .us e 3 1 (((E.2.1.set n.1 (wr (n.2 + k.2.Rate))).set u.1 (wr (u.2 - k.2.Rate))).map rI), U1 g i.2.2, O1 B [[.v a, .v e, .v g]], O3 ae [Az k.2], .arr ah 107 2 1 [Cb G.2]]) (K9 1 2 3 6 9 11 12 13 14) J9 ?_ ?_)
 refine Bl [.o 1 7] I J1 (Ao h I ?_ ?_)
 intro cf h
 exact Yl I (lg ⟨wr (0 - k.2.Rate), h, I2⟩ N8)
 intro cf h
 exact vL (lg ⟨k.2.Rate, h, I2⟩ N8)
 rintro s ob ⟨H, h, rfl, rfl⟩
 unfold Jn.J7 at h
 refine Aa fun c9 cg => Ah (fun s ob => ∃ (ai : Bool), Jn.J8 F G H ai = some a2 ∧ s = [(132, .v (.bool ai))] ∧ ob = [O0 w [Ab j], O1 A [W0], U0 a F.1, .us e 3 1 (((E.2.1.set n.1 (wr (n.2 + k.2.Rate))).set u.1 (wr (u.2 - k.2.Rate))).map rI), U1 g i.2.2, O1 B [[.v a, .v e, .v g]], O3 ae [Az k.2], .arr ah 107 2 1 [Cb G.2]]) (rM 1 2 3 6 9 11 12 13 14 15) oF ?_ ?_
 refine vH (Af 3 I ?_)
 rcases bt (decide (H > 0)) with Z | Z
 have h := B0 Z h
 obtain ⟨M, ⟨a4, af⟩, h⟩ := Ba h
 refine Ad 111 I Z (Al 4 [.o 1 5, .o 3 7] I J2 (Bf I I I (vS (Bb 2 (m := M.1) I I I I I I I a4 (Ae af)) I (Bf I I I (vS (Au 2 M.1 0 I I I (Ae af) I (y := .V M.2) I) I (Af 3 I ?_))))))
 rcases bt (decide (M.2 < 0)) with aa | aa
 have h := B0 aa h
 exact Ad 120 I aa (Af 3 I (Ce I I dS (Ce I I dS (Ce I I dS (Ce I I dS (Ce I I dS (Ce I I dS (Ce I I dS (Af 2 I (vI (lg ⟨true, h, I2⟩ N8)))))))))))
 have h := B8 aa h
 refine Ad 120 I aa (Af 3 I ?_)
 rcases bt (decide (H < 0)) with ab | ab
 have h := B0 ab h
 exact Ad 123 I ab (Al 4 [.o 1 5, .o 3 7] I J2 (Bf I I I (vS (Bb 2 (m := M.1) I I I I I I I a4 (Ae af)) I (Bf I I I (vS (Au 2 M.1 0 I I I (Ae af) I (y := .V M.2) I) I (Af 3 I (vI (lg ⟨decide (M.2 > 0), h, I2⟩ N8))))))))
 have h := B8 ab h
 exact Ad 123 I ab (Af 9 I (vI (lg ⟨false, h, I2⟩ N8)))
 have h := B8 Z h
 refine Ad 111 I Z ?_
 rcases bt (decide (H < 0)) with ac | ac
 have h := B0 ac h
 obtain ⟨ag, ⟨ci, a5⟩, h⟩ := Ba h
 exact Af 12 I (Ad 123 I ac (Al 4 [.o 1 5, .o 3 7] I J2 (Bf I I I (vS (Bb 2 (m := ag.1) I I I I I I I ci (Ae a5)) I (Bf I I I (vS (Au 2 ag.1 0 I I I (Ae a5) I (y := .V ag.2) I) I (Af 3 I (vI (lg ⟨decide (ag.2 > 0), h, I2⟩ N8)))))))))
 have h := B8 ac h
 exact Af 12 I (Ad 123 I ac (Af 9 I (vI (lg ⟨false, h, I2⟩ N8))))
 rintro s ob ⟨ai, h, rfl, rfl⟩
 refine Ao h I ?_ ?_
 intro cj h
 refine vM (vH (Ch (Bd (l := W0) Dj I) I (vJ [1] I (A3 1 0 0 [W0] I (Af 1 I (vI ?_))))))
 obtain rfl := a3 _ (oi h).symm
 have h := a1
 have h := Dn h
 obtain rfl := ay _ (oi h).symm
 have h := ax
 have h := Dn h
 refine vP (Av [] (K := []) I [] J (ob' := [O0 w [Ab j], O1 A [[.list 1 ([].map rI), .list 1 ([].map rI), .list 1 ([].map rB)]], U0 a F.1, .us e 3 1 (((E.2.1.set n.1 (wr (n.2 + k.2.Rate))).set u.1 (wr (u.2 - k.2.Rate))).map rI), U1 g i.2.2, O1 B [[.v a, .v e, .v g]], O3 ae [Az k.2], .arr ah 107 2 1 [Cb G.2]]) (.cons (.same _) (.cons (.arr (.cons (.nil _) (.cons (.nil _) (.cons (.nil _) (.rest _))))) (.rest _)))) (Cd [1] I ?_)
 cases io h
 exact vO ⟨.inr I, [_, _], [], ⟨⟨0, _, _, _, _, _, _, _, I5⟩, I, J⟩, Cf, I2⟩
 intro cj h
 refine vL ?_
 subst cg
 obtain ⟨O, ⟨a6, Y⟩, h⟩ := Ba h
 refine Bw 2 O.1 I Y fun ck => Bw 2 O.1 I Y fun cl => Bi (sl 13 0 (.drop 13 .nil)) [5, 7, 2] [_, _, _] I (Br 8 [.o 1 0, .o 3 1, .o 5 0, .o 7 1] I J4 (vX I (Aq (m := O.1) I I I I I ck I a6 Y) I (AP.o I (Au 2 O.1 0 I I I (Ae Y) I (y := .V O.2) I) I (A9 2 I (vX I (Aq (m := O.1) I I I I I cl I a6 Y) I (vZ [2] I I I (Bg 2 O.1 0 I I I (Ae Y) I I I I (A4 I) I (Ci (x := wr (O.2 + H)) I) (An (vI (vH (Af 3 I ?_)))))))))))
 cases io h
 exact vI ⟨_, _, _, I, I2, J8, pk N7⟩
 intro cb h
 obtain rfl := a3 _ (oi h).symm
 have h := a1
 have h := Do h
 exact vQ (lg ⟨(F.1, ((E.2.1.set n.1 (wr (n.2 + k.2.Rate))).set u.1 (wr (u.2 - k.2.Rate)))), h, I2⟩ N6)
 rintro s ob ⟨ad, h, rfl, rfl⟩
 unfold Jn.J5 at h
 refine vH (Af 3 I ?_)
 cases io h
 exact vI ⟨_, _, _, I, I2, J6, pk N6⟩
 intro bw h
 obtain rfl := ay _ (oi h).symm
 have h := ax
 have h := Do h
 exact vQ (lg ⟨(E.1, E.2.1), h, I2⟩ N6)
 rintro s ob ⟨D, h, rfl, rfl⟩
 refine Aa fun da cm => Bl [.l 1 (U.length : Int), .o 3 0, .l 4 (j.Stations.length : Int)] I ⟨A8, I, A8, J⟩ (Ao h I ?_ ?_)
 intro cn h
 refine vM (vH (Ch (Bd (l := W0) Dj I) I (vJ [1] I (A3 1 0 0 [W0] I (Af 1 I (vI (vP (Av [] (K := []) I [] J (ob' := [O0 w [Ab j], O1 A [[.list 1 ([].map rI), .list 1 ([].map rI), .list 1 ([].map rB)]], U0 a D.1, U0 e D.2, U1 g i.2.2, O1 B [[.v a, .v e, .v g]]]) (.cons (.same _) (.cons (.arr (.cons (.nil _) (.cons (.nil _) (.cons (.nil _) (.rest _))))) (.rest _)))) (Cd [1] I ?_))))))))
 cases io h
 exact vO ⟨.inr I, [_, _], [], ⟨⟨0, _, _, _, _, _, _, _, I5⟩, I, J⟩, Cf, I2⟩
 intro cn h
 refine vL ?_
 subst cm
 refine vM (vM ?_)
 obtain ⟨db, co, h⟩ := Ac h
 refine vH (Al 2 [.o 0 0, .o 1 5] I J2 (vJ [] I (Cw I (.refl _) I I (.cons (.refl _) (.cons (.agg (.cons (.us 2 I) (.cons (.us 3 I) (.cons (.us 4 I) (.rest _))))) (.rest _))) I (Ii _ _ _ co) dS (by rintro _ _ ⟨rfl, _⟩; rfl) ?_)))
 rintro _ ⟨_, rfl, -⟩
 refine Af 1 I (vI (Aj I (Ao h I ?_ ?_)))
 intro cp h
 refine vM (vH (Ch (Bd (l := W0) Dj I) I (Af 1 I (vJ [1] I (A3 1 0 0 [W0] I (Af 1 I (vI (vP (Av [] (K := []) I [] J (ob' := [O0 w [Ab j], O1 A [[.list 1 ([].map rI), .list 1 ([].map rI), .list 1 ([].map rB)]], U0 a D.1, U0 e D.2, U1 g i.2.2, O1 B [[.v a, .v e, .v g]]]) (.cons (.same _) (.cons (.arr (.cons (.nil _) (.cons (.nil _) (.cons (.nil _) (.rest _))))) (.rest _)))) (Cd [1] I ?_)))))))))
 cases io h
 exact vO ⟨.inr I, [_, _], [], ⟨⟨0, _, _, _, _, _, _, _, I5⟩, I, J⟩, Cf, I2⟩
 intro cp h
 refine vL (vM (vH (Al 1 [.o 0 5] I J1 (vJ [1] I (A3 1 0 0 [[.v a, .v e, .v g]] I (Af 1 I (vI (vP (Av [2, 3, 4] (K := [U0 a D.1, U0 e D.2, U1 g i.2.2]) I [] J (ob' := [O0 w [Ab j], O1 A [[Q0 D.1, Q0 D.2, Q2 i.2.2]], O1 B [[.v a, .v e, .v g]]]) (.cons (.same _) (.cons (.arr (.cons (.us 0 I) (.cons (.us 1 I) (.cons (.us 2 I) (.rest _))))) (.rest _)))) (Cd [1] I ?_)))))))))
 cases io h
 exact vO ⟨.inr I, [_, _], [], ⟨⟨0, _, _, _, _, _, _, _, I5⟩, I, J⟩, Cf, I2⟩
end Go.Proofs.YtmaamhgjeampmaaGreat
