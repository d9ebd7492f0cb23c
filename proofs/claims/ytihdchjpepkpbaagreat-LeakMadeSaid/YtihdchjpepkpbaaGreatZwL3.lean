/- Walks that show what functions of the program compute; printed by a program of ours. No condition. -/
import Derived.Test.YtihdchjpepkpbaaGreatZwL2
import Derived.Test.YtihdchjpepkpbaaGreatZwL1
import Derived.Test.YtihdchjpepkpbaaGreatZwD
set_option maxRecDepth 100000
namespace Go.Proofs.YtihdchjpepkpbaaGreat
open Go.Aw
set_option linter.unusedVariables false
set_option linter.unusedSimpArgs false
set_option maxHeartbeats 4000000
abbrev Oh : PL := .act 15 (.still 16 (.act 17 (.act 18 (.still 19 (.drop 20 .nil)))))
abbrev Lv : PL := .act 9 (.act 12 Oh)
abbrev Y1 : PL := .two 9 14 (.two 12 14 (.act 14 Oh) (.act 12 Oh)) Lv
abbrev Y0 : PL := .two 9 11 (.act 11 (.act 12 Oh)) Lv
abbrev dY : PL := .act 9 (.still 10 (.act 11 (.act 12 (.still 13 (.drop 14 .nil)))))
abbrev Og : PL := .act 5 Lv
theorem Yb (a : Nat) (au : KS) (r : Nw × KS) (h : Qm au = some r) : ACalls Ah 9 [.v (.pointer (some ⟨a, 0, none⟩))] [O1 a [A0 au]] (Er 1 fun x os new => x = .agg (Af r.1) ∧ os = [O1 a [A0 r.2]] ∧ new = []) := by
 refine Ad Tryz.func9 I I I fun C hC => ?_
 refine Ab fun y1 a4 => gQ (gS [] I (Cl W0 6 fun A => gR ?_))
 subst a4
 refine Ab fun y3 a5 => ?_
 obtain ⟨f, a6, h⟩ := Aa h
 obtain ⟨g, a7, h⟩ := Aa h
 refine gQ (Ac 1 I (gS [] I (hE 1 (([(-100000), 0, 50000] : Li).map rI) (gS [0] I (Ar [0] (Ai a _ _ _ a6) ?_)))))
 refine Ac 1 I (gS [] I (hE 1 (([0, 1, 5, 100] : Li).map rI) (gS [0] I (Ar [0] (Ai a _ _ _ a7) ?_))))
 refine Bn (Bq (l := [.N, .N, .N, .N, .V f.1, .V g.1]) Ug I) I (gS [] I (Cl W0 6 fun B => gS [2] I (Bo 2 0 0 [[.N, .N, .N, .N, .V f.1, .V g.1]] I (gR ?_))))
 subst a5
 refine Aj (fun s ob => ∃ (k : Li × Int × (List Bt)) (e : Value), Qm.J1 f g k = some r ∧ s = [] ∧ ob = [O1 a [[Q0 k.1, .V k.2.1]], O0 A [W0], O0 B [[.v e, .N, .N, .N, .V f.1, .V g.1]], U1 e k.2.2]) [(0, _), (2, _), (3, _)] J3 ?_ ?_
 refine Ab fun cx a8 => ?_
 obtain ⟨an, a9, h⟩ := Aa h
 refine gQ (Ac 1 I (gS [0] I (Ar [0] (D5 a _ _ _ _ a9) ?_)))
 refine Ac 1 I (gR ?_)
 subst a8
 refine gV (gY (Ay 9 1) ?_)
 obtain ⟨cy, ba, bb⟩ := Aa h
 refine A5 ba [(0, _), (2, _), (3, _)] J3 (fun (ad : (List Bt) × Int) s ob => ∃ (ae : Value), s = [(4, .V ad.2)] ∧ ob = [O1 a [A0 an.2], O0 A [W0], O0 B [[.v ae, .N, .N, .N, .V f.1, .V g.1]], U1 ae ad.1]) ⟨(.slice none 0 0), I2⟩ ⟨I, J⟩ ⟨[0, 1, 2, 3], I, by decide⟩ ?_
 rintro ad cz s ob ⟨ae, rfl, rfl⟩ h bc
 refine Ab fun c1 bd => Ag I (An h I ?_ ?_)
 intro be h
 refine gU ?_
 subst bd
 refine gT (gV ?_)
 obtain ⟨bf, bg, h⟩ := Aa h
 obtain ⟨c2, bh, h⟩ := Aa h
 refine Di 3 I fun bi => C4 (sl 5 0 (.act 5 (.act 6 (.act 7 (.still 8 (.drop 9 .nil)))))) [2] [_] I (C6 4 [.o 1 0, .o 3 0] I J2 (AP.op I (Dg I I I bi) I (iA I (Bl _ _ _ bg) (gX [] I I I (hE 1 (([bf] : List Bt).map rS) (gX [3] I I I (Cq 3 I bh fun av => Bm 1 I (AP.one 3 I fun bj => iD [2] I I I (hO 2 0 0 (es' := [[.v av, .N, .N, .N, .V f.1, .V g.1]]) I I I I I I (Ci bj) I (A9 I) I I (A2 (gR (gQ ?_))))))))))))
 refine Ac 3 I ?_
 cases io h
 exact gR ⟨_, _, _, I, ⟨av, I2⟩, J4, [0, 1, 2, 3], I, by decide⟩
 intro be h
 obtain rfl := bc _ (oi h).symm
 have h := bb
 exact gZ (lg ⟨(an.2.L_, an.2.At, ad.1), ae, h, I2⟩ [0, 1, 2, 3])
 rintro s ob ⟨k, e, h, rfl, rfl⟩
 unfold Qm.J1 at h
 refine Ab fun c3 bk => gQ (Aq 2 [.o 1 2] I J1 (hM (B0 3 I I I I) I (Ac 2 I (gR ?_))))
 subst bk
 refine Aj (fun s ob => ∃ (Z : Li × Int × (List Sg)) (af : Value), Qm.J2 f g k Z = some r ∧ s = [] ∧ ob = [O1 a [[Q0 Z.1, .V Z.2.1]], O0 A [W0], O0 B [[.v e, .v af, .N, .N, .V f.1, .V g.1]], U1 e k.2.2, U4 af Z.2.2]) [(0, _), (2, _), (3, _), (5, _)] J4 ?_ ?_
 refine Ag I (gV (gY (Ay 93 7) ?_))
 obtain ⟨c4, bl, bm⟩ := Aa h
 refine A5 bl [(0, _), (2, _), (3, _), (5, _)] J4 (fun (F : Li × Int × (List Sg) × Int) s ob => ∃ (ag : Value), s = [(6, .V F.2.2.2)] ∧ ob = [O1 a [[Q0 F.1, .V F.2.1]], O0 A [W0], O0 B [[.v e, .v ag, .N, .N, .V f.1, .V g.1]], U1 e k.2.2, U4 ag F.2.2.1]) ⟨(.slice none 0 0), I2⟩ ⟨I, J⟩ ⟨[0, 1, 2, 3, 4], I, by decide⟩ ?_
 rintro F c5 s ob ⟨ag, rfl, rfl⟩ h bn
 refine Ab fun c6 bo => Ag I (An h I ?_ ?_)
 intro bp h
 refine gU ?_
 subst bo
 refine gT (gV ?_)
 obtain ⟨bq, br, h⟩ := Aa h
 obtain ⟨c7, bs, h⟩ := Aa h
 refine Di 4 I fun bu => C4 (sl 9 0 (.act 9 (.act 10 (.act 11 (.still 12 (.drop 13 .nil)))))) [2] [_] I (C6 5 [.o 1 0, .o 4 0] I J2 (AP.op I (Dg I I I bu) I (Bm 3 I (gX [0] I I I (Ar [0] (Pf a _ _ _ _ _ br) ?_)))))
 refine gX [] I I I (hE 7 (([bq.1] : List Sg).map Ao) (gX [4] I I I (Cq 4 I bs fun aw => Bm 1 I (AP.one 4 I fun bv => iD [2] I I I (hO 2 0 1 (es' := [[.v e, .v aw, .N, .N, .V f.1, .V g.1]]) I I I I I I (Ci bv) I (A9 I) I I (A2 (gR (gQ (Ac 3 I ?_)))))))))
 cases io h
 exact gR ⟨_, _, _, I, ⟨aw, I2⟩, J5, [0, 1, 2, 3, 4], I, by decide⟩
 intro bp h
 obtain rfl := bn _ (oi h).symm
 have h := bm
 exact gZ (lg ⟨(F.1, F.2.1, F.2.2.1), ag, h, I2⟩ [0, 1, 2, 3, 4])
 rintro s ob ⟨Z, af, h, rfl, rfl⟩
 unfold Qm.J2 at h
 refine Aj (fun s ob => ∃ (y : Li × Int × (List Sg)) (t : Value), Qm.J3 f g k y = some r ∧ s = [] ∧ ob = [O1 a [[Q0 y.1, .V y.2.1]], O0 A [W0], O0 B [[.v e, .v t, .N, .N, .V f.1, .V g.1]], U1 e k.2.2, U4 t y.2.2]) [(0, _), (2, _), (3, _), (5, _)] J4 ?_ ?_
 refine Ab fun c8 bw => ?_
 obtain ⟨c9, bx, h⟩ := Aa h
 refine gQ (Ac 1 I (gS [0] I (Ar [0] (A3 a _ _ _ bx) ?_)))
 refine Ac 1 I (gR ?_)
 subst bw
 refine gV ?_
 obtain ⟨da, bz, b1⟩ := Aa h
 refine A5 bz [(0, _), (2, _), (3, _), (5, _)] J4 (fun (G : Li × Int × (List Sg) × Int) s ob => ∃ (ah : Value), s = [(7, .V G.2.2.2)] ∧ ob = [O1 a [[Q0 G.1, .V G.2.1]], O0 A [W0], O0 B [[.v e, .v ah, .N, .N, .V f.1, .V g.1]], U1 e k.2.2, U4 ah G.2.2.1]) ⟨af, I2⟩ ⟨I, J⟩ ⟨[0, 1, 2, 3, 4], I, by decide⟩ ?_
 rintro G db s ob ⟨ah, rfl, rfl⟩ h b3
 refine Ab fun dc b4 => Ag I (An h I ?_ ?_)
 intro b5 h
 refine gU ?_
 subst b4
 refine gT (gV (Ab fun dd b6 => ?_))
 obtain ⟨de, b7, h⟩ := Aa h
 refine gQ (Ac 2 I (gS [0] I (Ar [0] (A3 a _ _ _ b7) ?_)))
 refine Ac 1 I (gR ?_)
 subst b6
 obtain ⟨df, b8, h⟩ := Aa h
 obtain ⟨b9, ca, h⟩ := Aa h
 obtain ⟨dg, cb, h⟩ := Aa h
 refine Di 4 I fun cc => C4 (sl 11 0 (.act 11 (.act 12 (.act 13 (.act 14 (.still 15 (.drop 16 .nil))))))) [2] [_] I (C6 5 [.o 1 0, .o 4 0] I J2 (AP.op I (Dg I I I cc) I (Bm 5 I (gX [0] I I I (Ar [0] (D5 a _ _ _ _ b8) ?_)))))
 refine gX [0] I I I (Ar [0] (Pf a _ _ _ _ _ ca) ?_)
 refine gX [] I I I (hE 7 (([b9.1] : List Sg).map Ao) (gX [4] I I I (Cq 4 I cb fun ax => Bm 1 I (AP.one 4 I fun cd => iD [2] I I I (hO 2 0 1 (es' := [[.v e, .v ax, .N, .N, .V f.1, .V g.1]]) I I I I I I (Ci cd) I (A9 I) I I (A2 (gR (gQ (Ac 3 I ?_)))))))))
 cases io h
 exact gR ⟨_, _, _, I, ⟨ax, I2⟩, J5, [0, 1, 2, 3, 4], I, by decide⟩
 intro b5 h
 obtain rfl := b3 _ (oi h).symm
 have h := b1
 exact gZ (lg ⟨(G.1, G.2.1, G.2.2.1), ah, h, I2⟩ [0, 1, 2, 3, 4])
 rintro s ob ⟨y, t, h, rfl, rfl⟩
 unfold Qm.J3 at h
 refine Aj (fun s ob => ∃ (u : Li × Int × (List Port) × (List Sn)) (R : Value) (S : Value), Qm.J4 f g k y u = some r ∧ s = [] ∧ ob = [O1 a [[Q0 u.1, .V u.2.1]], O0 A [W0], O0 B [[.v e, .v t, .v R, .v S, .V f.1, .V g.1]], U1 e k.2.2, U4 t y.2.2, U5 R u.2.2.1, U6 S u.2.2.2]) [(2, _), (3, _)] J2 ?_ ?_
 refine Ag I (gV (gY (Ay 95 3) (gY (Ay 102 5) ?_)))
 obtain ⟨dh, ce, cf⟩ := Aa h
 refine A5 ce [(0, _), (2, _), (3, _), (5, _)] J4 (fun (b : Li × Int × (List Port) × (List Sn) × Int) s ob => ∃ (O : Value) (D : Value), s = [(9, .V b.2.2.2.2)] ∧ ob = [O1 a [[Q0 b.1, .V b.2.1]], O0 A [W0], O0 B [[.v e, .v t, .v O, .v D, .V f.1, .V g.1]], U1 e k.2.2, U4 t y.2.2, U5 O b.2.2.1, U6 D b.2.2.2.1]) ⟨(.slice none 0 0), (.slice none 0 0), I2⟩ ⟨I, J⟩ ⟨[0, 1, 2, 3, 4, 5, 6], I, by decide⟩ ?_
 rintro b ai s ob ⟨O, D, rfl, rfl⟩ h ci
 refine Ab fun di cj => Ag I (An h I ?_ ?_)
 intro ck h
 refine gU ?_
 subst cj
 refine Aj (fun s ob => ∃ (U : Li × Int × (List Port) × (List Sn)) (aj : Value) (ak : Value), Qm.J6 b U = some ai ∧ s = [] ∧ ob = [O1 a [[Q0 U.1, .V U.2.1]], O0 A [W0], O0 B [[.v e, .v t, .v aj, .v ak, .V f.1, .V g.1]], U1 e k.2.2, U4 t y.2.2, U5 aj U.2.2.1, U6 ak U.2.2.2]) [(0, _), (2, _), (3, _), (5, _), (9, _)] J5 ?_ ?_
 refine gV (Aj (fun s ob => ∃ (E : Li × Int × (List Port)) (H : Value), Qm.J7 k b E = some ai ∧ s = [] ∧ ob = [O1 a [[Q0 E.1, .V E.2.1]], O0 A [W0], O0 B [[.v e, .v t, .v H, .v D, .V f.1, .V g.1]], U1 e k.2.2, U4 t y.2.2, U5 H E.2.2, U6 D b.2.2.2.1]) [(0, _), (2, _), (3, _), (5, _), (9, _)] J5 ?_ ?_)
 refine Aj (fun s ob => ∃ (P : Li × Int × Bool), Qm.J9 k b P = some ai ∧ s = [(95, .v (.bool P.2.2))] ∧ ob = [O1 a [[Q0 P.1, .V P.2.1]], O0 A [W0], O0 B [[.v e, .v t, .v O, .v D, .V f.1, .V g.1]], U1 e k.2.2, U4 t y.2.2, U5 O b.2.2.1, U6 D b.2.2.2.1]) [(0, _), (2, _), (3, _), (5, _), (9, _)] J5 ?_ ?_
 rcases bt ((b.2.2.2.2 == 0)) with W | W
 have h := Bc W h
 exact gQ (Ac 3 I (Ae 86 I W (Ac 9 I (gR (lg ⟨(b.1, b.2.1, true), h, I2⟩ [0, 1, 2, 3, 4, 5, 6])))))
 have h := Bd W h
 rcases bt ((b.2.2.2.2 == (wr ((k.2.2.length : Int) - 1)))) with aa | aa
 have h := Bc aa h
 exact gQ (Ac 3 I (Ae 86 I W (Ac 5 I (Ae 91 I aa (Ac 4 I (gR (lg ⟨(b.1, b.2.1, true), h, I2⟩ [0, 1, 2, 3, 4, 5, 6])))))))
 have h := Bd aa h
 obtain ⟨ao, cl, h⟩ := Aa h
 refine gQ (Ac 3 I (Ae 86 I W (Ac 5 I (Ae 91 I aa (Ac 1 I (Bg I I I (gS [0] I (Ar [0] (A3 a _ _ _ cl) ?_))))))))
 exact Ac 2 I (gR (lg ⟨(ao.2.L_, ao.2.At, (ao.1 == 0)), h, I2⟩ [0, 1, 2, 3, 4, 5, 6]))
 rintro s ob ⟨P, h, rfl, rfl⟩
 refine An h I ?_ ?_
 intro cm h
 obtain ⟨al, ay, h⟩ := Aa h
 obtain ⟨M, az, h⟩ := Aa h
 obtain ⟨a0, a1, h⟩ := Aa h
 refine Di 5 I fun cn => C4 (sl 5 0 (.still 6 (.still 7 (.two 5 8 (.act 8 dY) (.act 5 dY))))) [2] [_] I (C6 4 [.o 1 0, .o 3 0] I J2 (AP.op I (Dg I I I cn) I (Bm 2 I (hZ ?_ ?_))))
 refine iA I (Bl _ _ _ ay) (gX [] I I I (hE 1 (([300000, 1000000, 0, 5000000] : Li).map rI) (gX [0] I I I (Ar [0] (Ai a _ _ _ az) ?_))))
 exact N3 I (Bq (l := [.v (.string al), .V b.2.2.2.2, .V M.1]) Iz I) I (gX [] I I I (hE 3 (([(⟨al, b.2.2.2.2, M.1⟩ : Port)] : List Port).map B1) (gX [5] I I I (Cq 5 I a1 fun ab => Bm 1 I (AP.one 5 I fun aq => iD [2] I I I (hO 2 0 2 (es' := [[.v e, .v t, .v ab, .v D, .V f.1, .V g.1]]) I I I I I I (Ci aq) I (A9 I) I I (A2 (gR (lg ⟨(M.2.L_, M.2.At, a0), ab, h, I2⟩ [0, 1, 2, 3, 4, 5, 6])))))))))
 refine gX [] I I I (hE 1 (([300000, 1000000, 0, 5000000] : Li).map rI) (iA I (Bl _ _ _ ay) (gX [0] I I I (Ar [0] (Ai a _ _ _ az) ?_))))
 exact N3 I (Bq (l := [.v (.string al), .V b.2.2.2.2, .V M.1]) Iz I) I (gX [] I I I (hE 3 (([(⟨al, b.2.2.2.2, M.1⟩ : Port)] : List Port).map B1) (gX [5] I I I (Cq 5 I a1 fun ab => Bm 1 I (AP.one 5 I fun aq => iD [2] I I I (hO 2 0 2 (es' := [[.v e, .v t, .v ab, .v D, .V f.1, .V g.1]]) I I I I I I (Ci aq) I (A9 I) I I (A2 (gR (lg ⟨(M.2.L_, M.2.At, a0), ab, h, I2⟩ [0, 1, 2, 3, 4, 5, 6])))))))))
 intro cm h
 exact gU (lg ⟨(P.1, P.2.1, b.2.2.1), O, h, I2⟩ [0, 1, 2, 3, 4, 5, 6])
 rintro s ob ⟨E, H, h, rfl, rfl⟩
 unfold Qm.J7 at h
 refine Aj (fun s ob => ∃ (Q : Li × Int × Bool), Qm.J8 b E Q = some ai ∧ s = [(117, .v (.bool Q.2.2))] ∧ ob = [O1 a [[Q0 Q.1, .V Q.2.1]], O0 A [W0], O0 B [[.v e, .v t, .v H, .v D, .V f.1, .V g.1]], U1 e k.2.2, U4 t y.2.2, U5 H E.2.2, U6 D b.2.2.2.1]) [(0, _), (2, _), (3, _), (5, _), (9, _)] J5 ?_ ?_
 rcases bt (decide (b.2.2.2.2 < (wr ((k.2.2.length : Int) - 1)))) with ac | ac
 have h := Bc ac h
 obtain ⟨ar, co, h⟩ := Aa h
 refine gQ (Ac 4 I (Ae 113 I ac (Ac 1 I (Bg I I I (gS [0] I (Ar [0] (A3 a _ _ _ co) ?_))))))
 exact Ac 2 I (gR (lg ⟨(ar.2.L_, ar.2.At, (ar.1 == 0)), h, I2⟩ [0, 1, 2, 3, 4, 5, 6]))
 have h := Bd ac h
 exact gQ (Ac 4 I (Ae 113 I ac (Ac 4 I (gR (lg ⟨(E.1, E.2.1, false), h, I2⟩ [0, 1, 2, 3, 4, 5, 6])))))
 rintro s ob ⟨Q, h, rfl, rfl⟩
 refine An h I ?_ ?_
 intro cp h
 obtain ⟨a2, w, h⟩ := Aa h
 obtain ⟨X, n, h⟩ := Aa h
 obtain ⟨Y, i, h⟩ := Aa h
 obtain ⟨am, j, h⟩ := Aa h
 obtain ⟨cq, cr, h⟩ := Aa h
 refine Di 6 I fun ct => C4 (sl 5 0 (.still 6 (.still 7 (.still 10 (.still 13 (.four 5 8 11 14 (.parS [(8, []), (9, [8]), (11, []), (12, [8, 9, 11]), (14, [])] [[], [8], [11], [14], [8, 9], [8, 11], [8, 14], [11, 14], [8, 9, 11], [8, 9, 14], [8, 11, 14], [8, 9, 11, 12], [8, 9, 11, 14], [8, 9, 11, 12, 14]] Oh) (.three 5 11 14 (.parS [(9, []), (11, []), (12, [9, 11]), (14, [])] [[], [9], [11], [14], [9, 11], [9, 14], [11, 14], [9, 11, 12], [9, 11, 14], [9, 11, 12, 14]] Oh) (.two 5 14 Y1 Og) (.two 5 11 Y0 Og)) (.three 5 8 14 (.two 8 14 Y1 (.act 8 Lv)) (.two 5 14 Y1 Og) (.two 5 8 (.act 8 Lv) Og)) (.three 5 8 11 (.two 8 11 Y0 (.act 8 Lv)) (.two 5 11 Y0 Og) (.two 5 8 (.act 8 Lv) Og)))))))) [2] [_] I ?_
 refine C6 4 [.o 1 0, .o 3 0] I J2 (AP.op I (Dg I I I ct) I (Bm 4 I (AP.four ?_ ?_ ?_ ?_)))
 refine iA I (Bl _ _ _ w) (Qr [⟨8, [], 126, .list 1 (([500000, 2000000, 0] : Li).map rI), [], []⟩, ⟨9, [8], 127, .V X.1, [0], [O1 a [A0 X.2]]⟩, ⟨11, [], 129, .list 1 (([0, 200, 100000] : Li).map rI), [], []⟩, ⟨12, [8, 9, 11], 130, .V Y.1, [0], [O1 a [A0 Y.2]]⟩, ⟨14, [], 132, .list 1 (([0, 100000, 400000] : Li).map rI), [], []⟩] I ⟨⟨_, I, I, I, fun _ _ => hE 1 (([500000, 2000000, 0] : Li).map rI) I2⟩, ⟨_, I, I, I, fun _ h => by cases h; exact E7 [0] (Ai a _ _ _ n) (by rintro _ _ _ - ⟨rfl, rfl, rfl⟩; exact ⟨rfl, rfl⟩)⟩, ⟨_, I, I, I, fun _ _ => hE 1 (([0, 200, 100000] : Li).map rI) I2⟩, ⟨_, I, I, I, fun _ h => by cases h; exact E7 [0] (Ai a _ _ _ i) (by rintro _ _ _ - ⟨rfl, rfl, rfl⟩; exact ⟨rfl, rfl⟩)⟩, ⟨_, I, I, I, fun _ _ => hE 1 (([0, 100000, 400000] : Li).map rI) I2⟩, J⟩ (gX [0] I I I (Ar [0] (Ai a _ _ _ j) ?_)))
 rotate_left
 refine gX [] I I I (hE 1 (([500000, 2000000, 0] : Li).map rI) (AP.three ?_ ?_ ?_))
 refine iA I (Bl _ _ _ w) (Qr [⟨9, [], 127, .V X.1, [0], [O1 a [A0 X.2]]⟩, ⟨11, [], 129, .list 1 (([0, 200, 100000] : Li).map rI), [], []⟩, ⟨12, [9, 11], 130, .V Y.1, [0], [O1 a [A0 Y.2]]⟩, ⟨14, [], 132, .list 1 (([0, 100000, 400000] : Li).map rI), [], []⟩] I ⟨⟨_, I, I, I, fun _ h => by cases h; exact E7 [0] (Ai a _ _ _ n) (by rintro _ _ _ - ⟨rfl, rfl, rfl⟩; exact ⟨rfl, rfl⟩)⟩, ⟨_, I, I, I, fun _ _ => hE 1 (([0, 200, 100000] : Li).map rI) I2⟩, ⟨_, I, I, I, fun _ h => by cases h; exact E7 [0] (Ai a _ _ _ i) (by rintro _ _ _ - ⟨rfl, rfl, rfl⟩; exact ⟨rfl, rfl⟩)⟩, ⟨_, I, I, I, fun _ _ => hE 1 (([0, 100000, 400000] : Li).map rI) I2⟩, J⟩ (gX [0] I I I (Ar [0] (Ai a _ _ _ j) ?_)))
 rotate_left
 refine gX [] I I I (hE 1 (([0, 200, 100000] : Li).map rI) (hZ ?_ ?_))
 refine iA I (Bl _ _ _ w) (hZ ?_ ?_)
 refine gX [0] I I I (Ar [0] (Ai a _ _ _ n) ?_)
 refine hZ ?_ ?_
 refine gX [0] I I I (Ar [0] (Ai a _ _ _ i) ?_)
 refine gX [] I I I (hE 1 (([0, 100000, 400000] : Li).map rI) (gX [0] I I I (Ar [0] (Ai a _ _ _ j) ?_)))
 rotate_left
 refine gX [] I I I (hE 1 (([0, 100000, 400000] : Li).map rI) (gX [0] I I I (Ar [0] (Ai a _ _ _ i) ?_)))
 refine gX [0] I I I (Ar [0] (Ai a _ _ _ j) ?_)
 rotate_left
 refine gX [] I I I (hE 1 (([0, 100000, 400000] : Li).map rI) (gX [0] I I I (Ar [0] (Ai a _ _ _ n) ?_)))
 refine gX [0] I I I (Ar [0] (Ai a _ _ _ i) ?_)
 refine gX [0] I I I (Ar [0] (Ai a _ _ _ j) ?_)
 rotate_left
 refine gX [] I I I (hE 1 (([0, 100000, 400000] : Li).map rI) (iA I (Bl _ _ _ w) (gX [0] I I I (Ar [0] (Ai a _ _ _ n) ?_))))
 refine gX [0] I I I (Ar [0] (Ai a _ _ _ i) ?_)
 refine gX [0] I I I (Ar [0] (Ai a _ _ _ j) ?_)
 rotate_left
 refine gX [] I I I (hE 1 (([0, 100000, 400000] : Li).map rI) (hZ ?_ ?_))
 refine iA I (Bl _ _ _ w) (hZ ?_ ?_)
 refine gX [0] I I I (Ar [0] (Ai a _ _ _ n) ?_)
 refine gX [] I I I (hE 1 (([0, 200, 100000] : Li).map rI) (gX [0] I I I (Ar [0] (Ai a _ _ _ i) ?_)))
 refine gX [0] I I I (Ar [0] (Ai a _ _ _ j) ?_)
 rotate_left
 refine gX [] I I I (hE 1 (([0, 200, 100000] : Li).map rI) (gX [0] I I I (Ar [0] (Ai a _ _ _ n) ?_)))
 refine gX [0] I I I (Ar [0] (Ai a _ _ _ i) ?_)
 refine gX [0] I I I (Ar [0] (Ai a _ _ _ j) ?_)
 rotate_left
 refine gX [] I I I (hE 1 (([0, 200, 100000] : Li).map rI) (iA I (Bl _ _ _ w) (gX [0] I I I (Ar [0] (Ai a _ _ _ n) ?_))))
 refine gX [0] I I I (Ar [0] (Ai a _ _ _ i) ?_)
 refine gX [0] I I I (Ar [0] (Ai a _ _ _ j) ?_)
 rotate_left
 refine gX [] I I I (hE 1 (([0, 200, 100000] : Li).map rI) (AP.three ?_ ?_ ?_))
 refine iA I (Bl _ _ _ w) (hZ ?_ ?_)
 refine gX [] I I I (hE 1 (([500000, 2000000, 0] : Li).map rI) (hZ ?_ ?_))
 refine gX [0] I I I (Ar [0] (Ai a _ _ _ n) ?_)
 refine hZ ?_ ?_
 refine gX [0] I I I (Ar [0] (Ai a _ _ _ i) ?_)
 refine gX [] I I I (hE 1 (([0, 100000, 400000] : Li).map rI) (gX [0] I I I (Ar [0] (Ai a _ _ _ j) ?_)))
 rotate_left
 refine gX [] I I I (hE 1 (([0, 100000, 400000] : Li).map rI) (gX [0] I I I (Ar [0] (Ai a _ _ _ i) ?_)))
 refine gX [0] I I I (Ar [0] (Ai a _ _ _ j) ?_)
 rotate_left
 refine gX [] I I I (hE 1 (([0, 100000, 400000] : Li).map rI) (gX [0] I I I (Ar [0] (Ai a _ _ _ n) ?_)))
 refine gX [0] I I I (Ar [0] (Ai a _ _ _ i) ?_)
 refine gX [0] I I I (Ar [0] (Ai a _ _ _ j) ?_)
 rotate_left
 refine gX [] I I I (hE 1 (([0, 100000, 400000] : Li).map rI) (gX [] I I I (hE 1 (([500000, 2000000, 0] : Li).map rI) (gX [0] I I I (Ar [0] (Ai a _ _ _ n) ?_)))))
 refine gX [0] I I I (Ar [0] (Ai a _ _ _ i) ?_)
 refine gX [0] I I I (Ar [0] (Ai a _ _ _ j) ?_)
 rotate_left
 refine gX [] I I I (hE 1 (([500000, 2000000, 0] : Li).map rI) (hZ ?_ ?_))
 refine iA I (Bl _ _ _ w) (hZ ?_ ?_)
 refine gX [0] I I I (Ar [0] (Ai a _ _ _ n) ?_)
 refine hZ ?_ ?_
 refine gX [0] I I I (Ar [0] (Ai a _ _ _ i) ?_)
 refine gX [] I I I (hE 1 (([0, 100000, 400000] : Li).map rI) (gX [0] I I I (Ar [0] (Ai a _ _ _ j) ?_)))
 rotate_left
 refine gX [] I I I (hE 1 (([0, 100000, 400000] : Li).map rI) (gX [0] I I I (Ar [0] (Ai a _ _ _ i) ?_)))
 refine gX [0] I I I (Ar [0] (Ai a _ _ _ j) ?_)
 rotate_left
 refine gX [] I I I (hE 1 (([0, 100000, 400000] : Li).map rI) (gX [0] I I I (Ar [0] (Ai a _ _ _ n) ?_)))
 refine gX [0] I I I (Ar [0] (Ai a _ _ _ i) ?_)
 refine gX [0] I I I (Ar [0] (Ai a _ _ _ j) ?_)
 rotate_left
 refine gX [] I I I (hE 1 (([0, 100000, 400000] : Li).map rI) (iA I (Bl _ _ _ w) (gX [0] I I I (Ar [0] (Ai a _ _ _ n) ?_))))
 refine gX [0] I I I (Ar [0] (Ai a _ _ _ i) ?_)
 refine gX [0] I I I (Ar [0] (Ai a _ _ _ j) ?_)
 rotate_left
 refine gX [] I I I (hE 1 (([0, 100000, 400000] : Li).map rI) (hZ ?_ ?_))
 refine iA I (Bl _ _ _ w) (gX [] I I I (hE 1 (([500000, 2000000, 0] : Li).map rI) (gX [0] I I I (Ar [0] (Ai a _ _ _ n) ?_))))
 refine gX [0] I I I (Ar [0] (Ai a _ _ _ i) ?_)
 refine gX [0] I I I (Ar [0] (Ai a _ _ _ j) ?_)
 rotate_left
 refine gX [] I I I (hE 1 (([500000, 2000000, 0] : Li).map rI) (iA I (Bl _ _ _ w) (gX [0] I I I (Ar [0] (Ai a _ _ _ n) ?_))))
 refine gX [0] I I I (Ar [0] (Ai a _ _ _ i) ?_)
 refine gX [0] I I I (Ar [0] (Ai a _ _ _ j) ?_)
 rotate_left
 refine gX [] I I I (hE 1 (([0, 100000, 400000] : Li).map rI) (AP.three ?_ ?_ ?_))
 refine iA I (Bl _ _ _ w) (hZ ?_ ?_)
 refine gX [] I I I (hE 1 (([500000, 2000000, 0] : Li).map rI) (hZ ?_ ?_))
 refine gX [0] I I I (Ar [0] (Ai a _ _ _ n) ?_)
 refine gX [] I I I (hE 1 (([0, 200, 100000] : Li).map rI) (gX [0] I I I (Ar [0] (Ai a _ _ _ i) ?_)))
 refine gX [0] I I I (Ar [0] (Ai a _ _ _ j) ?_)
 rotate_left
 refine gX [] I I I (hE 1 (([0, 200, 100000] : Li).map rI) (gX [0] I I I (Ar [0] (Ai a _ _ _ n) ?_)))
 refine gX [0] I I I (Ar [0] (Ai a _ _ _ i) ?_)
 refine gX [0] I I I (Ar [0] (Ai a _ _ _ j) ?_)
 rotate_left
 refine gX [] I I I (hE 1 (([0, 200, 100000] : Li).map rI) (gX [] I I I (hE 1 (([500000, 2000000, 0] : Li).map rI) (gX [0] I I I (Ar [0] (Ai a _ _ _ n) ?_)))))
 refine gX [0] I I I (Ar [0] (Ai a _ _ _ i) ?_)
 refine gX [0] I I I (Ar [0] (Ai a _ _ _ j) ?_)
 rotate_left
 refine gX [] I I I (hE 1 (([500000, 2000000, 0] : Li).map rI) (hZ ?_ ?_))
 refine iA I (Bl _ _ _ w) (hZ ?_ ?_)
 refine gX [0] I I I (Ar [0] (Ai a _ _ _ n) ?_)
 refine gX [] I I I (hE 1 (([0, 200, 100000] : Li).map rI) (gX [0] I I I (Ar [0] (Ai a _ _ _ i) ?_)))
 refine gX [0] I I I (Ar [0] (Ai a _ _ _ j) ?_)
 rotate_left
 refine gX [] I I I (hE 1 (([0, 200, 100000] : Li).map rI) (gX [0] I I I (Ar [0] (Ai a _ _ _ n) ?_)))
 refine gX [0] I I I (Ar [0] (Ai a _ _ _ i) ?_)
 refine gX [0] I I I (Ar [0] (Ai a _ _ _ j) ?_)
 rotate_left
 refine gX [] I I I (hE 1 (([0, 200, 100000] : Li).map rI) (iA I (Bl _ _ _ w) (gX [0] I I I (Ar [0] (Ai a _ _ _ n) ?_))))
 refine gX [0] I I I (Ar [0] (Ai a _ _ _ i) ?_)
 refine gX [0] I I I (Ar [0] (Ai a _ _ _ j) ?_)
 rotate_left
 refine gX [] I I I (hE 1 (([0, 200, 100000] : Li).map rI) (hZ ?_ ?_))
 refine iA I (Bl _ _ _ w) (gX [] I I I (hE 1 (([500000, 2000000, 0] : Li).map rI) (gX [0] I I I (Ar [0] (Ai a _ _ _ n) ?_))))
 refine gX [0] I I I (Ar [0] (Ai a _ _ _ i) ?_)
 refine gX [0] I I I (Ar [0] (Ai a _ _ _ j) ?_)
 rotate_left
 refine gX [] I I I (hE 1 (([500000, 2000000, 0] : Li).map rI) (iA I (Bl _ _ _ w) (gX [0] I I I (Ar [0] (Ai a _ _ _ n) ?_))))
 refine gX [0] I I I (Ar [0] (Ai a _ _ _ i) ?_)
 refine gX [0] I I I (Ar [0] (Ai a _ _ _ j) ?_)
 any_goals
  refine N3 I (Bq (l := [.v (.string a2), .V b.2.2.2.2, .V X.1, .V Y.1, .V am.1]) Lh I) I (gX [] I I I (hE 5 (([(⟨a2, b.2.2.2.2, X.1, Y.1, am.1⟩ : Sn)] : List Sn).map Az) (gX [6] I I I (Cq 6 I cr fun a3 => Bm 1 I (AP.one 6 I fun cu => iD [2] I I I (hO 2 0 3 (es' := [[.v e, .v t, .v H, .v a3, .V f.1, .V g.1]]) I I I I I I (Ci cu) I (A9 I) I I (A2 (gR ?_))))))))
  exact lg ⟨(am.2.L_, am.2.At, E.2.2, cq), H, a3, h, I2⟩ [0, 1, 2, 3, 4, 5, 6]
 intro cp h
 exact gU (lg ⟨(Q.1, Q.2.1, E.2.2, b.2.2.2.1), H, D, h, I2⟩ [0, 1, 2, 3, 4, 5, 6])
 rintro s ob ⟨U, aj, ak, h, rfl, rfl⟩
 unfold Qm.J6 at h
 refine gQ (Ac 3 I ?_)
 cases io h
 exact gR ⟨_, _, _, I, ⟨aj, ak, I2⟩, J5, [0, 1, 2, 3, 4, 5, 6], I, by decide⟩
 intro ck h
 obtain rfl := ci _ (oi h).symm
 have h := cf
 exact gZ (lg ⟨(b.1, b.2.1, b.2.2.1, b.2.2.2.1), O, D, h, I2⟩ [0, 1, 2, 3, 4, 5, 6])
 rintro s ob ⟨u, R, S, h, rfl, rfl⟩
 refine gT (gQ (Aq 1 [.o 0 2] I J1 (gS [1] I (Bo 1 0 0 [[.v e, .v t, .v R, .v S, .V f.1, .V g.1]] I (gR (gY (Bi [3, 4, 5, 6] (K := [U1 e k.2.2, U4 t y.2.2, U5 R u.2.2.1, U6 S u.2.2.2]) I [] J (ob' := [O1 a [[Q0 u.1, .V u.2.1]], O0 A [[Q1 k.2.2, Q5 y.2.2, Q4 u.2.2.1, Q3 u.2.2.2, .V f.1, .V g.1]], O0 B [[.v e, .v t, .v R, .v S, .V f.1, .V g.1]]]) (.cons (.same _) (.cons (.arr (.cons (.us 0 I) (.cons (.us 1 I) (.cons (.us 2 I) (.cons (.us 3 I) (.rest _)))))) (.rest _)))) (F2 [0, 1] I ?_)))))))
 obtain rfl := oi h
 exact gW ⟨.inr I, [_], [O1 a [[Q0 u.1, .V u.2.1]]], ⟨⟨1, _, _, _, _, _, _, _, I5⟩, J⟩, Dt I (Cd), ⟨[O1 a [[Q0 u.1, .V u.2.1]]], [], I5⟩⟩
theorem Xj (a : Li) (r : Bool) (h : Tx a = r) : ACalls Ah 6 [Q0 a] [] (RB r) := by
 refine Ad Tryz.func6 I I I fun C hC => ?_
 unfold Tx at h
 refine Ag I (A8 [.l 1 (a.length : Int)] I ⟨Ax, J⟩ ?_)
 obtain rfl := h
 exact gW pr
theorem K6 (a : Int) (b : Int) (r : Int) (h : Ij a b = some r) : ACalls Ah 18 [.V a, .V b] [] (RV (.V r)) := by
 refine Ad Tryz.func18 I I I fun C hC => ?_
 refine Ag I (gT ?_)
 obtain ⟨e, d, h⟩ := Aa h
 refine gQ (Ac 2 I (hG (Ps _ _ _ d) (Ac 1 I (gR ?_))))
 cases io h
 exact gW pr
theorem K5 (a : Li) (b : Li) (r : Bool) (h : Kr a b = some r) : ACalls Ah 31 [Q0 a, Q0 b] [] (RB r) := by
 refine Ad Tryz.func31 I I I fun C hC => ?_
 refine Ag I (Ab fun A j => A8 [.l 1 (a.length : Int), .l 3 (b.length : Int)] I ⟨Ax, Ax, J⟩ (An h I ?_ ?_))
 intro k h
 refine Ag I ?_
 cases io h
 exact gW pr
 intro k h
 refine gU ?_
 subst j
 refine Aj (fun s ob => ∃ (c : Unit), Kr.J1 c = some r ∧ s = [] ∧ ob = []) [] J ?_ ?_
 refine Ag I (gV ?_)
 obtain ⟨B, m, d⟩ := Aa h
 refine A5 m [(0, _), (1, _)] J2 (fun (e : Int) s ob => s = [(5, .V e)] ∧ ob = []) ⟨I, I⟩ ⟨I, J⟩ ⟨[], I, by decide⟩ ?_
 rintro e D s ob ⟨rfl, rfl⟩ h f
 refine Ab fun E n => A8 [.l 2 (a.length : Int)] I ⟨Ax, J⟩ (An h I ?_ ?_)
 intro o h
 refine gU ?_
 subst n
 refine gT (gV (gT ?_))
 obtain ⟨g, ⟨p, t⟩, h⟩ := Bh h
 obtain ⟨i, ⟨u, w⟩, h⟩ := Bh h
 refine Gw (pd 9 0 []) [] [] [.x 2 g.1 (rI g.2), .x 6 i.1 (rI i.2)] I I ⟨⟨u, Al w⟩, ⟨p, Al t⟩, J⟩ (An h I ?_ ?_)
 intro y h
 refine Ag I ?_
 obtain rfl := f _ (oi h).symm
 have h := d
 have h := Dl h
 cases io h
 exact gW pr
 intro y h
 refine gU (gQ (Ac 3 I ?_))
 cases io h
 exact gR ⟨_, _, _, I, I2, J3, [], I, by decide⟩
 intro o h
 obtain rfl := f _ (oi h).symm
 have h := d
 have h := Dm h
 exact gZ (lg ⟨(), h, I2⟩ [])
 rintro s ob ⟨c, h, rfl, rfl⟩
 unfold Kr.J1 at h
 refine Ag I ?_
 cases io h
 exact gW pr
theorem Wz (ao : Li) (M : Int) (F : Int) (j : Int) (u : Int) (r : Bool) (h : P9 ao M F j u = some r) : ACalls Ah 4 [Q0 ao, .V M, .V F, .V j, .V u] [] (RB r) := by
 refine Ad Tryz.func4 I I I fun C hC => ?_
 refine Ag I (A6 (s' := [(0, Q0 ao), (1, .V M), (2, .V F), (3, .V j), (4, .V u)]) (ob' := []) ⟨J5, [], I, by decide⟩ (Ab fun y2 ba => gT (gQ (Ac 1 I (hG (Xj ao _ I) (Ac 1 I (gR (An h I ?_ ?_))))))))
 intro bb h
 refine gT ?_
 obtain ⟨r4, bc, h⟩ := Aa h
 refine gQ (hG (Pn  _ bc) (Ac 1 I (gR ?_)))
 cases io h
 exact gW pr
 intro bb h
 refine gU ?_
 subst ba
 refine A6 (s' := [(0, Q0 ao), (1, .V M), (2, .V F), (3, .V j), (4, .V u)]) (ob' := []) ⟨J5, [], I, by decide⟩ (Ab fun y6 bd => ?_)
 obtain ⟨r7, bf, h⟩ := Aa h
 refine gQ (Ac 1 I (gS [] I (Dh I I I (Xz _ _ bf) dS ?_)))
 rintro _ _ ⟨b, rfl, rfl⟩
 refine Ac 1 I (gR ?_)
 subst bd
 refine A6 (s' := [(1, .V M), (2, .V F), (3, .V j), (4, .V u), (11, .v (.pointer (some ⟨b, 0, none⟩)))]) (ob' := [O1 b [A0 r7]]) ⟨J5, [0], I, by decide⟩ (Ab fun d6 bg => ?_)
 obtain ⟨e, bh, h⟩ := Aa h
 refine gQ (Ac 1 I (gS [0] I (Ar [0] (Yb b _ _ bh) ?_)))
 refine gS [] I (Cl W0 6 fun f => gS [1] I (Bo 1 0 0 [Af e.1] I (gR ?_)))
 subst bg
 refine A6 (s' := [(1, .V M), (2, .V F), (3, .V j), (4, .V u), (11, .v (.pointer (some ⟨b, 0, none⟩))), (12, .v (.pointer (some ⟨f, 0, none⟩)))]) (ob' := [O1 b [A0 e.2], O0 f [Af e.1]]) ⟨J6, [0, 1], I, by decide⟩ (Ab fun d7 bi => ?_)
 obtain ⟨p, bj, h⟩ := Aa h
 obtain ⟨k, bk, h⟩ := Aa h
 refine gQ (Ac 1 I (gS [0] I (E7 [0] (Yn b _ _ _ bj) ?_)))
 rintro _ _ _ - ⟨n, rfl, rfl, rfl⟩
 refine Ac 1 I (gS [0] I (Ar [0] (Wq b _ _ bk) ?_))
 refine gS [] I (Cl [.V 0, .V 0] 2 fun i => Ac 1 I (gS [3] I (Bo 3 0 0 [Am k.1] I (gR ?_))))
 subst bi
 refine A6 (s' := [(1, .V M), (2, .V F), (3, .V j), (4, .V u), (11, .v (.pointer (some ⟨b, 0, none⟩))), (12, .v (.pointer (some ⟨f, 0, none⟩))), (13, .v n), (14, .v (.pointer (some ⟨i, 0, none⟩)))]) (ob' := [O1 b [A0 k.2], O0 f [Af e.1], U3 n p.1, O4 i [Am k.1]]) ⟨J8, [0, 1, 2, 3], I, by decide⟩ (Ab fun d8 bl => ?_)
 obtain ⟨D, bm, h⟩ := Aa h
 obtain ⟨y, bn, h⟩ := Aa h
 refine gQ (Ac 1 I (gS [0] I (Ar [0] (A3 b _ _ _ bm) ?_)))
 refine Ac 2 I (gS [0] I (Ar [0] (A3 b _ _ _ bn) ?_))
 refine Ac 2 I (gR ?_)
 subst bl
 refine A6 (s' := [(1, .V M), (2, .V F), (3, .V j), (4, .V u), (11, .v (.pointer (some ⟨b, 0, none⟩))), (12, .v (.pointer (some ⟨f, 0, none⟩))), (13, .v n), (14, .v (.pointer (some ⟨i, 0, none⟩))), (15, .V (wr (1 + D.1))), (16, .V y.1)]) (ob' := [O1 b [A0 y.2], O0 f [Af e.1], U3 n p.1, O4 i [Am k.1]]) ⟨gB, [0, 1, 2, 3], I, by decide⟩ (Ab fun d9 bo => ?_)
 obtain ⟨G, bp, h⟩ := Aa h
 obtain ⟨A, bq, h⟩ := Aa h
 refine gQ (Ac 1 I (gS [0] I (Ar [0] (A3 b _ _ _ bp) ?_)))
 refine Ac 2 I (gS [0] I (Ar [0] (A3 b _ _ _ bq) ?_))
 refine Ac 3 I (gR ?_)
 subst bo
 refine A6 (s' := [(1, .V M), (2, .V F), (3, .V j), (4, .V u), (11, .v (.pointer (some ⟨b, 0, none⟩))), (12, .v (.pointer (some ⟨f, 0, none⟩))), (13, .v n), (14, .v (.pointer (some ⟨i, 0, none⟩))), (15, .V (wr (1 + D.1))), (16, .V y.1), (17, .V (wr (G.1 - 1))), (18, .V (wr (A.1 - 1)))]) (ob' := [O1 b [A0 A.2], O0 f [Af e.1], U3 n p.1, O4 i [Am k.1]]) ⟨fI, [0, 1, 2, 3], I, by decide⟩ (Ag I (A6 (s' := [(1, .V M), (2, .V F), (3, .V j), (4, .V u), (11, .v (.pointer (some ⟨b, 0, none⟩))), (12, .v (.pointer (some ⟨f, 0, none⟩))), (13, .v n), (14, .v (.pointer (some ⟨i, 0, none⟩))), (15, .V (wr (1 + D.1))), (16, .V y.1), (17, .V (wr (G.1 - 1))), (18, .V (wr (A.1 - 1))), (19, .N)]) (ob' := [O1 b [A0 A.2], O0 f [Af e.1], U3 n p.1, O4 i [Am k.1]]) ⟨fY, [0, 1, 2, 3], I, by decide⟩ (Aj (fun s ob => ∃ (g : Li × Int × (List Bool)) (w : Value), P9.J1 M F j u e p k D y G A g = some r ∧ s = [(19, .v w)] ∧ ob = [O1 b [[Q0 g.1, .V g.2.1]], O0 f [Af e.1], U3 n p.1, O4 i [Am k.1], U2 w g.2.2]) [(1, _), (2, _), (3, _), (4, _), (11, _), (12, _), (13, _), (14, _), (15, _), (16, _), (17, _), (18, _)] fI ?_ ?_)))
 refine Ag I (A6 (s' := [(1, .V M), (2, .V F), (3, .V j), (4, .V u), (11, .v (.pointer (some ⟨b, 0, none⟩))), (12, .v (.pointer (some ⟨f, 0, none⟩))), (13, .v n), (14, .v (.pointer (some ⟨i, 0, none⟩))), (15, .V (wr (1 + D.1))), (16, .V y.1), (17, .V (wr (G.1 - 1))), (18, .V (wr (A.1 - 1))), (19, .N), (20, .V 0)]) (ob' := [O1 b [A0 A.2], O0 f [Af e.1], U3 n p.1, O4 i [Am k.1]]) ⟨eC, [0, 1, 2, 3], I, by decide⟩ (gV (gY (Ay 4 1) ?_)))
 obtain ⟨ea, br, bs⟩ := Aa h
 refine A5 br [(1, _), (2, _), (3, _), (4, _), (11, _), (12, _), (13, _), (14, _), (15, _), (16, _), (17, _), (18, _)] fI (fun (P : Li × Int × (List Bool) × Int) s ob => ∃ (ai : Value), s = [(19, .v ai), (20, .V P.2.2.2)] ∧ ob = [O1 b [[Q0 P.1, .V P.2.1]], O0 f [Af e.1], U3 n p.1, O4 i [Am k.1], U2 ai P.2.2.1]) ⟨(.slice none 0 0), I2⟩ ⟨I, I, J⟩ ⟨[0, 1, 2, 3, 4], I, by decide⟩ ?_
 rintro P eb s ob ⟨ai, rfl, rfl⟩ h bu
 refine Ab fun ec bv => A8 [.o 2 1, .l 3 (e.1.Nodes.length : Int)] I ⟨Ax, I, J⟩ (An h I ?_ ?_)
 intro bw h
 refine gU ?_
 subst bv
 refine A6 (s' := [(1, .V M), (2, .V F), (3, .V j), (4, .V u), (11, .v (.pointer (some ⟨b, 0, none⟩))), (12, .v (.pointer (some ⟨f, 0, none⟩))), (13, .v n), (14, .v (.pointer (some ⟨i, 0, none⟩))), (15, .V (wr (1 + D.1))), (16, .V y.1), (17, .V (wr (G.1 - 1))), (18, .V (wr (A.1 - 1))), (19, .v ai), (20, .V P.2.2.2)]) (ob' := [O1 b [[Q0 P.1, .V P.2.1]], O0 f [Af e.1], U3 n p.1, O4 i [Am k.1], U2 ai P.2.2.1]) ⟨eC, [0, 1, 2, 3, 4], I, by decide⟩ (gT (gV ?_))
 obtain ⟨bx, bz, h⟩ := Aa h
 obtain ⟨ed, b0, h⟩ := Aa h
 refine gQ (Ac 2 I (gS [0] I (Ar [0] (A3 b _ _ _ bz) ?_)))
 refine Ac 1 I (gS [] I (hE 1 (([(bx.1 == 0)] : List Bool).map rB) (gS [4] I (Cq 4 I b0 fun b1 => Ac 1 I (gR (gQ (Ac 3 I ?_)))))))
 cases io h
 exact gR ⟨_, _, _, I, ⟨b1, I2⟩, eC, [0, 1, 2, 3, 4], I, by decide⟩
 intro bw h
 obtain rfl := bu _ (oi h).symm
 have h := bs
 exact gZ (lg ⟨(P.1, P.2.1, P.2.2.1), ai, h, I2⟩ [0, 1, 2, 3, 4])
 rintro s ob ⟨g, w, h, rfl, rfl⟩
 unfold P9.J1 at h
 refine Aj (fun s ob => ∃ (a : Li × Int × (List Bt) × (List Sg) × (List Port) × (List Sn) × Int × Int × (List Balance) × Int × Int × Int × (List Bool)) (B : Value), P9.J2 j k G A a = some r ∧ s = [(15, .V a.2.2.2.2.2.2.2.2.2.2.1), (16, .V a.2.2.2.2.2.2.2.2.2.2.2.1), (19, .v B)] ∧ ob = [O1 b [[Q0 a.1, .V a.2.1]], O0 f [[Q1 a.2.2.1, Q5 a.2.2.2.1, Q4 a.2.2.2.2.1, Q3 a.2.2.2.2.2.1, .V a.2.2.2.2.2.2.1, .V a.2.2.2.2.2.2.2.1]], U3 n a.2.2.2.2.2.2.2.2.1, O4 i [[.V k.1.Meter, .V a.2.2.2.2.2.2.2.2.2.1]], U2 B a.2.2.2.2.2.2.2.2.2.2.2.2]) [(3, _), (11, _), (12, _), (13, _), (14, _), (17, _), (18, _)] J7 ?_ ?_
 refine Ab fun ee b2 => ?_
 obtain ⟨S, b3, h⟩ := Aa h
 refine gQ (Ac 1 I (hG (K6 _ _ _ b3) (gR ?_)))
 subst b2
 refine A6 (s' := [(1, .V M), (2, .V F), (3, .V j), (4, .V u), (11, .v (.pointer (some ⟨b, 0, none⟩))), (12, .v (.pointer (some ⟨f, 0, none⟩))), (13, .v n), (14, .v (.pointer (some ⟨i, 0, none⟩))), (15, .V (wr (1 + D.1))), (16, .V y.1), (17, .V (wr (G.1 - 1))), (18, .V (wr (A.1 - 1))), (19, .v w), (78, .V S)]) (ob' := [O1 b [[Q0 g.1, .V g.2.1]], O0 f [Af e.1], U3 n p.1, O4 i [Am k.1], U2 w g.2.2]) ⟨eC, [0, 1, 2, 3, 4], I, by decide⟩ (gV (Ag I (A6 (s' := [(1, .V M), (2, .V F), (3, .V j), (4, .V u), (11, .v (.pointer (some ⟨b, 0, none⟩))), (12, .v (.pointer (some ⟨f, 0, none⟩))), (13, .v n), (14, .v (.pointer (some ⟨i, 0, none⟩))), (15, .V (wr (1 + D.1))), (16, .V y.1), (17, .V (wr (G.1 - 1))), (18, .V (wr (A.1 - 1))), (19, .v w), (78, .V S), (79, .v (.bool (S == 0)))]) (ob' := [O1 b [[Q0 g.1, .V g.2.1]], O0 f [Af e.1], U3 n p.1, O4 i [Am k.1], U2 w g.2.2]) ⟨gL, [0, 1, 2, 3, 4], I, by decide⟩ ?_)))
 refine An h I ?_ ?_
 intro b4 h
 obtain ⟨b5, b6, h⟩ := Aa h
 exact gQ (Ac 1 I (hG (K6 _ _ _ b6) (Ac 2 I (gR (lg ⟨(g.1, g.2.1, e.1.Nodes, e.1.Segments, e.1.Ports, e.1.Stations, e.1.Vapour, e.1.Settle, p.1, k.1.Pack, wr (b5 - 1), y.1, g.2.2), w, h, I2⟩ [0, 1, 2, 3, 4])))))
 intro b4 h
 refine Ag I (A6 (s' := [(2, .V F), (3, .V j), (4, .V u), (11, .v (.pointer (some ⟨b, 0, none⟩))), (12, .v (.pointer (some ⟨f, 0, none⟩))), (13, .v n), (14, .v (.pointer (some ⟨i, 0, none⟩))), (15, .V (wr (1 + D.1))), (16, .V y.1), (17, .V (wr (G.1 - 1))), (18, .V (wr (A.1 - 1))), (19, .v w), (78, .V S), (84, .v (.bool (S == 1)))]) (ob' := [O1 b [[Q0 g.1, .V g.2.1]], O0 f [Af e.1], U3 n p.1, O4 i [Am k.1], U2 w g.2.2]) ⟨eC, [0, 1, 2, 3, 4], I, by decide⟩ (An h I ?_ ?_))
 intro b7 h
 exact N2 I (lg ⟨(g.1, g.2.1, e.1.Nodes, e.1.Segments, e.1.Ports, e.1.Stations, e.1.Vapour, e.1.Settle, p.1, k.1.Pack, wr (1 + D.1), F, g.2.2), w, h, I2⟩ [0, 1, 2, 3, 4])
 intro b7 h
 refine Ag I (A6 (s' := [(3, .V j), (4, .V u), (11, .v (.pointer (some ⟨b, 0, none⟩))), (12, .v (.pointer (some ⟨f, 0, none⟩))), (13, .v n), (14, .v (.pointer (some ⟨i, 0, none⟩))), (15, .V (wr (1 + D.1))), (16, .V y.1), (17, .V (wr (G.1 - 1))), (18, .V (wr (A.1 - 1))), (19, .v w), (78, .V S), (87, .v (.bool (S == 2)))]) (ob' := [O1 b [[Q0 g.1, .V g.2.1]], O0 f [Af e.1], U3 n p.1, O4 i [Am k.1], U2 w g.2.2]) ⟨fY, [0, 1, 2, 3, 4], I, by decide⟩ (An h I ?_ ?_))
 intro b8 h
 exact gQ (Ac 2 I (gS [3] I (Bo 3 0 1 [[.V k.1.Meter, .V u]] I (gR (lg ⟨(g.1, g.2.1, e.1.Nodes, e.1.Segments, e.1.Ports, e.1.Stations, e.1.Vapour, e.1.Settle, p.1, u, wr (1 + D.1), y.1, g.2.2), w, h, I2⟩ [0, 1, 2, 3, 4])))))
 intro b8 h
 refine Ag I (A6 (s' := [(3, .V j), (4, .V u), (11, .v (.pointer (some ⟨b, 0, none⟩))), (12, .v (.pointer (some ⟨f, 0, none⟩))), (13, .v n), (14, .v (.pointer (some ⟨i, 0, none⟩))), (15, .V (wr (1 + D.1))), (16, .V y.1), (17, .V (wr (G.1 - 1))), (18, .V (wr (A.1 - 1))), (19, .v w), (78, .V S), (91, .v (.bool (S == 3)))]) (ob' := [O1 b [[Q0 g.1, .V g.2.1]], O0 f [Af e.1], U3 n p.1, O4 i [Am k.1], U2 w g.2.2]) ⟨fY, [0, 1, 2, 3, 4], I, by decide⟩ (An h I ?_ ?_))
 intro ca h
 refine gT (gQ (Ac 1 I (hM (B0 2 I I I I) I (Ac 1 I (gR (An h I ?_ ?_))))))
 intro cb h
 obtain ⟨ag, ⟨cc, a5⟩, h⟩ := Bh h
 exact gQ (Ac 2 I (hM (Dd 2 (m := ag.1) I I I I I I I cc (Al a5)) I (Ac 1 I (gS [2] I (De 2 ag.1 0 I I I (Al a5) I I I I (A9 I) I (Ew (x := (⟨u, ag.2.Out, ag.2.Pack⟩ : Balance)) I) (gR (lg ⟨(g.1, g.2.1, e.1.Nodes, e.1.Segments, e.1.Ports, e.1.Stations, e.1.Vapour, e.1.Settle, (p.1.set ag.1 (⟨u, ag.2.Out, ag.2.Pack⟩ : Balance)), k.1.Pack, wr (1 + D.1), y.1, g.2.2), w, h, I2⟩ [0, 1, 2, 3, 4])))))))
 intro cb h
 exact gU (lg ⟨(g.1, g.2.1, e.1.Nodes, e.1.Segments, e.1.Ports, e.1.Stations, e.1.Vapour, e.1.Settle, p.1, k.1.Pack, wr (1 + D.1), y.1, g.2.2), w, h, I2⟩ [0, 1, 2, 3, 4])
 intro ca h
 refine Ag I (A6 (s' := [(3, .V j), (11, .v (.pointer (some ⟨b, 0, none⟩))), (12, .v (.pointer (some ⟨f, 0, none⟩))), (13, .v n), (14, .v (.pointer (some ⟨i, 0, none⟩))), (15, .V (wr (1 + D.1))), (16, .V y.1), (17, .V (wr (G.1 - 1))), (18, .V (wr (A.1 - 1))), (19, .v w), (78, .V S), (100, .v (.bool (S == 4)))]) (ob' := [O1 b [[Q0 g.1, .V g.2.1]], O0 f [Af e.1], U3 n p.1, O4 i [Am k.1], U2 w g.2.2]) ⟨fI, [0, 1, 2, 3, 4], I, by decide⟩ (An h I ?_ ?_))
 intro cd h
 obtain ⟨ce, cf, h⟩ := Aa h
 exact gQ (Ac 1 I (gS [] I (hE 1 (([true] : List Bool).map rB) (gS [4] I (Cq 4 I cf fun ci => Ac 1 I (gR (lg ⟨(g.1, g.2.1, e.1.Nodes, e.1.Segments, e.1.Ports, e.1.Stations, e.1.Vapour, e.1.Settle, p.1, k.1.Pack, wr (1 + D.1), y.1, ce), ci, h, I2⟩ [0, 1, 2, 3, 4])))))))
 intro cd h
 refine Ag I (An h I ?_ ?_)
 intro cj h
 obtain ⟨aa, ck, h⟩ := Aa h
 refine gQ (Aq 2 [.o 1 1] I J1 (gS [0] I (Ar [0] (Yl b _ _ _ ck) ?_)))
 exact gS [1] I (Bo 1 0 0 [Af aa.1] I (gR (lg ⟨(aa.2.L_, aa.2.At, aa.1.Nodes, aa.1.Segments, aa.1.Ports, aa.1.Stations, aa.1.Vapour, aa.1.Settle, p.1, k.1.Pack, wr (1 + D.1), y.1, g.2.2), w, h, I2⟩ [0, 1, 2, 3, 4])))
 intro cj h
 exact gU (lg ⟨(g.1, g.2.1, e.1.Nodes, e.1.Segments, e.1.Ports, e.1.Stations, e.1.Vapour, e.1.Settle, p.1, k.1.Pack, wr (1 + D.1), y.1, g.2.2), w, h, I2⟩ [0, 1, 2, 3, 4])
 rintro s ob ⟨a, B, h, rfl, rfl⟩
 refine Ab fun ef cl => ?_
 obtain ⟨O, cm, h⟩ := Aa h
 refine gQ (Aq 4 [.o 1 3] I J1 (iE (Bi [2] (K := [U3 n a.2.2.2.2.2.2.2.2.1]) I [(13, Q2 a.2.2.2.2.2.2.2.2.1), (111, Q2 a.2.2.2.2.2.2.2.2.1)] ⟨⟨_, I, .us 0 I⟩, ⟨_, I, .us 0 I⟩, J⟩ (ob' := [O1 b [[Q0 a.1, .V a.2.1]], O0 f [[Q1 a.2.2.1, Q5 a.2.2.2.1, Q4 a.2.2.2.2.1, Q3 a.2.2.2.2.2.1, .V a.2.2.2.2.2.2.1, .V a.2.2.2.2.2.2.2.1]], O4 i [[.V k.1.Meter, .V a.2.2.2.2.2.2.2.2.2.1]], U2 B a.2.2.2.2.2.2.2.2.2.2.2.2]) (.rest _)) (gS [] I (Dh I I I (K8 _ _ _ _ _ cm) dS ?_))))
 rintro _ _ ⟨Q, rfl, rfl⟩
 refine Ac 5 I (gR ?_)
 subst cl
 refine A6 (s' := [(3, .V j), (11, .v (.pointer (some ⟨b, 0, none⟩))), (12, .v (.pointer (some ⟨f, 0, none⟩))), (13, Q2 a.2.2.2.2.2.2.2.2.1), (14, .v (.pointer (some ⟨i, 0, none⟩))), (15, .V a.2.2.2.2.2.2.2.2.2.2.1), (16, .V a.2.2.2.2.2.2.2.2.2.2.2.1), (17, .V (wr (G.1 - 1))), (18, .V (wr (A.1 - 1))), (19, .v B), (21, .v Q), (22, .V O.2)]) (ob' := [O1 b [[Q0 a.1, .V a.2.1]], O0 f [[Q1 a.2.2.1, Q5 a.2.2.2.1, Q4 a.2.2.2.2.1, Q3 a.2.2.2.2.2.1, .V a.2.2.2.2.2.2.1, .V a.2.2.2.2.2.2.2.1]], O4 i [[.V k.1.Meter, .V a.2.2.2.2.2.2.2.2.2.1]], U2 B a.2.2.2.2.2.2.2.2.2.2.2.2, U0 Q O.1]) ⟨fI, [0, 1, 2, 3, 4], I, by decide⟩ (Ab fun eg cn => ?_)
 obtain ⟨U, co, h⟩ := Aa h
 refine gQ (Aq 4 [.o 1 2] I J1 (gS [] I (Dh I I I (Ye _ _ _ _ _ co) dS ?_)))
 rintro _ _ ⟨W, rfl, rfl⟩
 refine Ac 5 I (gR ?_)
 subst cn
 refine A6 (s' := [(3, .V j), (11, .v (.pointer (some ⟨b, 0, none⟩))), (12, .v (.pointer (some ⟨f, 0, none⟩))), (13, Q2 a.2.2.2.2.2.2.2.2.1), (14, .v (.pointer (some ⟨i, 0, none⟩))), (15, .V a.2.2.2.2.2.2.2.2.2.2.1), (16, .V a.2.2.2.2.2.2.2.2.2.2.2.1), (17, .V (wr (G.1 - 1))), (18, .V (wr (A.1 - 1))), (19, .v B), (21, .v Q), (22, .V O.2), (23, .v W), (24, .V U.2)]) (ob' := [O1 b [[Q0 a.1, .V a.2.1]], O0 f [[Q1 a.2.2.1, Q5 a.2.2.2.1, Q4 a.2.2.2.2.1, Q3 a.2.2.2.2.2.1, .V a.2.2.2.2.2.2.1, .V a.2.2.2.2.2.2.2.1]], O4 i [[.V k.1.Meter, .V a.2.2.2.2.2.2.2.2.2.1]], U2 B a.2.2.2.2.2.2.2.2.2.2.2.2, U0 Q O.1, U0 W U.1]) ⟨eC, [0, 1, 2, 3, 4, 5], I, by decide⟩ (Ab fun eh cp => ?_)
 obtain ⟨X, cq, h⟩ := Aa h
 refine gQ (Aq 4 [.o 1 2] I J1 (hG (Pv _ _ _ _ _ cq) (Ac 5 I (gR ?_))))
 subst cp
 refine A6 (s' := [(3, .V j), (11, .v (.pointer (some ⟨b, 0, none⟩))), (12, .v (.pointer (some ⟨f, 0, none⟩))), (13, Q2 a.2.2.2.2.2.2.2.2.1), (14, .v (.pointer (some ⟨i, 0, none⟩))), (15, .V a.2.2.2.2.2.2.2.2.2.2.1), (16, .V a.2.2.2.2.2.2.2.2.2.2.2.1), (17, .V (wr (G.1 - 1))), (18, .V (wr (A.1 - 1))), (19, .v B), (21, .v Q), (22, .V O.2), (23, .v W), (24, .V U.2), (25, .V X.1), (26, .V X.2)]) (ob' := [O1 b [[Q0 a.1, .V a.2.1]], O0 f [[Q1 a.2.2.1, Q5 a.2.2.2.1, Q4 a.2.2.2.2.1, Q3 a.2.2.2.2.2.1, .V a.2.2.2.2.2.2.1, .V a.2.2.2.2.2.2.2.1]], O4 i [[.V k.1.Meter, .V a.2.2.2.2.2.2.2.2.2.1]], U2 B a.2.2.2.2.2.2.2.2.2.2.2.2, U0 Q O.1, U0 W U.1]) ⟨⟨I, I, I, I, I, I, I, I, I, I, I, I, I, I, I, I, J⟩, [0, 1, 2, 3, 4, 5], I, by decide⟩ (Ab fun ei cr => ?_)
 obtain ⟨ad, ct, h⟩ := Aa h
 refine gQ (Aq 4 [.o 1 2] I J1 (hG (Wy _ _ _ _ _ ct) (Ac 5 I (gR ?_))))
 subst cr
 refine A6 (s' := [(3, .V j), (11, .v (.pointer (some ⟨b, 0, none⟩))), (12, .v (.pointer (some ⟨f, 0, none⟩))), (13, Q2 a.2.2.2.2.2.2.2.2.1), (14, .v (.pointer (some ⟨i, 0, none⟩))), (17, .V (wr (G.1 - 1))), (18, .V (wr (A.1 - 1))), (19, .v B), (21, .v Q), (22, .V O.2), (23, .v W), (24, .V U.2), (25, .V X.1), (26, .V X.2), (27, .V ad.1), (28, .V ad.2)]) (ob' := [O1 b [[Q0 a.1, .V a.2.1]], O0 f [[Q1 a.2.2.1, Q5 a.2.2.2.1, Q4 a.2.2.2.2.1, Q3 a.2.2.2.2.2.1, .V a.2.2.2.2.2.2.1, .V a.2.2.2.2.2.2.2.1]], O4 i [[.V k.1.Meter, .V a.2.2.2.2.2.2.2.2.2.1]], U2 B a.2.2.2.2.2.2.2.2.2.2.2.2, U0 Q O.1, U0 W U.1]) ⟨⟨I, I, I, I, I, I, I, I, I, I, I, I, I, I, I, I, J⟩, [0, 1, 2, 3, 4, 5], I, by decide⟩ (Ab fun ej cu => ?_)
 obtain ⟨ab, cv, h⟩ := Aa h
 refine gQ (Aq 4 [.o 1 2] I J1 (hG (X8 _ _ _ _ _ cv) (Ac 7 I (gR ?_))))
 subst cu
 refine A6 (s' := [(3, .V j), (11, .v (.pointer (some ⟨b, 0, none⟩))), (12, .v (.pointer (some ⟨f, 0, none⟩))), (13, Q2 a.2.2.2.2.2.2.2.2.1), (14, .v (.pointer (some ⟨i, 0, none⟩))), (17, .V (wr (G.1 - 1))), (18, .V (wr (A.1 - 1))), (19, .v B), (21, .v Q), (22, .V O.2), (23, .v W), (24, .V U.2), (25, .V X.1), (26, .V X.2), (27, .V ad.1), (28, .V ad.2), (29, .V ab.1), (30, .V ab.2.1), (31, .V ab.2.2)]) (ob' := [O1 b [[Q0 a.1, .V a.2.1]], O0 f [[Q1 a.2.2.1, Q5 a.2.2.2.1, Q4 a.2.2.2.2.1, Q3 a.2.2.2.2.2.1, .V a.2.2.2.2.2.2.1, .V a.2.2.2.2.2.2.2.1]], O4 i [[.V k.1.Meter, .V a.2.2.2.2.2.2.2.2.2.1]], U2 B a.2.2.2.2.2.2.2.2.2.2.2.2, U0 Q O.1, U0 W U.1]) ⟨⟨I, I, I, I, I, I, I, I, I, I, I, I, I, I, I, I, I, I, I, J⟩, [0, 1, 2, 3, 4, 5], I, by decide⟩ (Ab fun ek cw => ?_)
 obtain ⟨aj, cx, h⟩ := Aa h
 refine gQ (Aq 4 [.o 1 2] I J1 (hG (W8 _ _ _ _ _ cx) (Ac 7 I (gR ?_))))
 subst cw
 refine A6 (s' := [(3, .V j), (11, .v (.pointer (some ⟨b, 0, none⟩))), (12, .v (.pointer (some ⟨f, 0, none⟩))), (19, .v B), (21, .v Q), (22, .V O.2), (23, .v W), (24, .V U.2), (25, .V X.1), (26, .V X.2), (27, .V ad.1), (28, .V ad.2), (29, .V ab.1), (30, .V ab.2.1), (31, .V ab.2.2), (32, .V aj.1), (33, .V aj.2.1), (34, .V aj.2.2)]) (ob' := [O1 b [[Q0 a.1, .V a.2.1]], O0 f [[Q1 a.2.2.1, Q5 a.2.2.2.1, Q4 a.2.2.2.2.1, Q3 a.2.2.2.2.2.1, .V a.2.2.2.2.2.2.1, .V a.2.2.2.2.2.2.2.1]], O4 i [[.V k.1.Meter, .V a.2.2.2.2.2.2.2.2.2.1]], U2 B a.2.2.2.2.2.2.2.2.2.2.2.2, U0 Q O.1, U0 W U.1]) ⟨⟨I, I, I, I, I, I, I, I, I, I, I, I, I, I, I, I, I, I, J⟩, [0, 1, 2, 3, 4, 5], I, by decide⟩ (Ab fun el cy => Aj (fun s ob => ∃ (a0 : Bool), P9.J3 j a a0 = some r ∧ s = [(193, .v (.bool a0))] ∧ ob = [O1 b [[Q0 a.1, .V a.2.1]], O0 f [[Q1 a.2.2.1, Q5 a.2.2.2.1, Q4 a.2.2.2.2.1, Q3 a.2.2.2.2.2.1, .V a.2.2.2.2.2.2.1, .V a.2.2.2.2.2.2.2.1]], U2 B a.2.2.2.2.2.2.2.2.2.2.2.2]) [(3, _), (11, _), (12, _), (19, _)] J4 ?_ ?_)
 rcases bt ((O.2 != U.2)) with Y | Y
 have h := Bc Y h
 exact gQ (Ac 4 I (Ae 163 I Y (Ac 30 I (gR (lg ⟨true, h, I2⟩ [0, 1, 3])))))
 have h := Bd Y h
 rcases bt ((X.2 != ad.2)) with ac | ac
 have h := Bc ac h
 exact gQ (Ac 4 I (Ae 163 I Y (Ac 5 I (Ae 168 I ac (Ac 25 I (gR (lg ⟨true, h, I2⟩ [0, 1, 3])))))))
 have h := Bd ac h
 rcases bt ((ab.2.2 != aj.2.2)) with ae | ae
 have h := Bc ae h
 exact gQ (Ac 4 I (Ae 163 I Y (Ac 5 I (Ae 168 I ac (Ac 5 I (Ae 173 I ae (Ac 20 I (gR (lg ⟨true, h, I2⟩ [0, 1, 3])))))))))
 have h := Bd ae h
 rcases bt ((X.1 != ad.1)) with ah | ah
 have h := Bc ah h
 exact gQ (Ac 4 I (Ae 163 I Y (Ac 5 I (Ae 168 I ac (Ac 5 I (Ae 173 I ae (Ac 5 I (Ae 178 I ah (Ac 15 I (gR (lg ⟨true, h, I2⟩ [0, 1, 3])))))))))))
 have h := Bd ah h
 rcases bt ((ab.1 != aj.1)) with ak | ak
 have h := Bc ak h
 exact gQ (Ac 4 I (Ae 163 I Y (Ac 5 I (Ae 168 I ac (Ac 5 I (Ae 173 I ae (Ac 5 I (Ae 178 I ah (Ac 5 I (Ae 183 I ak (Ac 10 I (gR (lg ⟨true, h, I2⟩ [0, 1, 3])))))))))))))
 have h := Bd ak h
 rcases bt ((ab.2.1 != aj.2.1)) with aq | aq
 have h := Bc aq h
 refine gQ (Ac 4 I (Ae 163 I Y (Ac 5 I (Ae 168 I ac (Ac 5 I (Ae 173 I ae (Ac 5 I (Ae 178 I ah (Ac 5 I (Ae 183 I ak (Ac 5 I (Ae 188 I aq ?_))))))))))))
 exact Ac 5 I (gR (lg ⟨true, h, I2⟩ [0, 1, 3]))
 have h := Bd aq h
 obtain ⟨cz, c1, h⟩ := Aa h
 refine gQ (Ac 4 I (Ae 163 I Y (Ac 5 I (Ae 168 I ac (Ac 5 I (Ae 173 I ae (Ac 5 I (Ae 178 I ah (Ac 5 I (Ae 183 I ak (Ac 5 I (Ae 188 I aq ?_))))))))))))
 refine Ac 2 I (Bg I I I (gS [] I (Cw I (.refl _) I I (.cons (.us 4 I) (.cons (.us 5 I) (.rest _))) I (K5 _ _ _ c1) dS (by rintro _ _ ⟨rfl, _⟩; rfl) ?_)))
 rintro _ ⟨_, rfl, -⟩
 exact Ac 2 I (gR (lg ⟨(!cz), h, I2⟩ [0, 1, 3]))
 rintro s ob ⟨a0, h, rfl, rfl⟩
 refine An h I ?_ ?_
 intro c2 h
 refine Ag I (gY g0 ?_)
 cases io h
 exact gW pr
 intro c2 h
 refine gU ?_
 subst cy
 refine A6 (s' := [(3, .V j), (11, .v (.pointer (some ⟨b, 0, none⟩))), (12, .v (.pointer (some ⟨f, 0, none⟩))), (19, .v B)]) (ob' := [O1 b [[Q0 a.1, .V a.2.1]], O0 f [[Q1 a.2.2.1, Q5 a.2.2.2.1, Q4 a.2.2.2.2.1, Q3 a.2.2.2.2.2.1, .V a.2.2.2.2.2.2.1, .V a.2.2.2.2.2.2.2.1]], U2 B a.2.2.2.2.2.2.2.2.2.2.2.2]) ⟨J4, [0, 1, 2], I, by decide⟩ (Ab fun em c3 => ?_)
 obtain ⟨ar, c4, h⟩ := Aa h
 refine gQ (Aq 2 [.o 0 1] I J1 (iE (Bi [2] (K := [U2 B a.2.2.2.2.2.2.2.2.2.2.2.2]) I [(19, Q6 a.2.2.2.2.2.2.2.2.2.2.2.2), (196, Q6 a.2.2.2.2.2.2.2.2.2.2.2.2)] ⟨⟨_, I, .us 0 I⟩, ⟨_, I, .us 0 I⟩, J⟩ (ob' := [O1 b [[Q0 a.1, .V a.2.1]], O0 f [[Q1 a.2.2.1, Q5 a.2.2.2.1, Q4 a.2.2.2.2.1, Q3 a.2.2.2.2.2.1, .V a.2.2.2.2.2.2.1, .V a.2.2.2.2.2.2.2.1]]]) (.rest _)) (gS [] I (Dh I I I (Xx _ _ _ c4) dS ?_))))
 rintro _ _ ⟨rfl, rfl⟩
 refine Ac 5 I (gR ?_)
 subst c3
 refine A6 (s' := [(3, .V j), (11, .v (.pointer (some ⟨b, 0, none⟩))), (12, .v (.pointer (some ⟨f, 0, none⟩))), (19, Q6 a.2.2.2.2.2.2.2.2.2.2.2.2), (22, .V ar.2), (35, .list 1 (ar.1.map (rL 1 rI)))]) (ob' := [O1 b [[Q0 a.1, .V a.2.1]], O0 f [[Q1 a.2.2.1, Q5 a.2.2.2.1, Q4 a.2.2.2.2.1, Q3 a.2.2.2.2.2.1, .V a.2.2.2.2.2.2.1, .V a.2.2.2.2.2.2.2.1]]]) ⟨J6, [0, 1], I, by decide⟩ (Ab fun en c5 => ?_)
 obtain ⟨H, c6, h⟩ := Aa h
 refine gQ (Aq 2 [.o 0 1] I J1 (gS [] I (Dh I I I (Wn _ _ _ c6) dS ?_)))
 rintro _ _ ⟨E, rfl, rfl⟩
 refine Ac 5 I (gR ?_)
 subst c5
 refine A6 (s' := [(3, .V j), (11, .v (.pointer (some ⟨b, 0, none⟩))), (22, .V ar.2), (24, .V H.2), (35, .list 1 (ar.1.map (rL 1 rI))), (36, .v E)]) (ob' := [O1 b [[Q0 a.1, .V a.2.1]], O0 f [[Q1 a.2.2.1, Q5 a.2.2.2.1, Q4 a.2.2.2.2.1, Q3 a.2.2.2.2.2.1, .V a.2.2.2.2.2.2.1, .V a.2.2.2.2.2.2.2.1]], .us E 22 1 (H.1.map (rL 1 rI))]) ⟨J6, [0, 1, 2], I, by decide⟩ (Ab fun eo c7 => Aj (fun s ob => ∃ (a1 : Bool), P9.J4 j a H a1 = some r ∧ s = [(214, .v (.bool a1))] ∧ ob = [O1 b [[Q0 a.1, .V a.2.1]], .us E 22 1 (H.1.map (rL 1 rI))]) [(3, _), (11, _), (36, _)] J3 ?_ ?_)
 rcases bt ((ar.2 != H.2)) with au | au
 have h := Bc au h
 exact gQ (Ac 4 I (Ae 209 I au (Ac 5 I (gR (lg ⟨true, h, I2⟩ [0, 2])))))
 have h := Bd au h
 obtain ⟨c8, c9, h⟩ := Aa h
 refine gQ (Ac 4 I (Ae 209 I au (Ac 2 I (Bg I I I (gS [] I (Cw I (.refl _) I I (.cons (.refl _) (.cons (.us 2 I) (.rest _))) I (Xl _ _ _ c9) dS (by rintro _ _ ⟨rfl, _⟩; rfl) ?_))))))
 rintro _ ⟨_, rfl, -⟩
 exact Ac 2 I (gR (lg ⟨(!c8), h, I2⟩ [0, 2]))
 rintro s ob ⟨a1, h, rfl, rfl⟩
 refine An h I ?_ ?_
 intro da h
 refine Ag I (gY g0 ?_)
 cases io h
 exact gW pr
 intro da h
 refine gU ?_
 subst c7
 refine A6 (s' := [(3, .V j), (11, .v (.pointer (some ⟨b, 0, none⟩))), (36, .v E)]) (ob' := [O1 b [[Q0 a.1, .V a.2.1]], .us E 22 1 (H.1.map (rL 1 rI))]) ⟨J3, [0, 1], I, by decide⟩ (Ag I (A6 (s' := [(3, .V j), (11, .v (.pointer (some ⟨b, 0, none⟩))), (36, .v E), (37, .N)]) (ob' := [O1 b [[Q0 a.1, .V a.2.1]], .us E 22 1 (H.1.map (rL 1 rI))]) ⟨J4, [0, 1], I, by decide⟩ (Aj (fun s ob => ∃ (al : List Bool) (af : Value), P9.J5 j H al = some r ∧ s = [(37, .v af)] ∧ ob = [.us E 22 1 (H.1.map (rL 1 rI)), U2 af al]) [(3, _), (36, _)] J2 ?_ ?_)))
 refine Ag I (A6 (s' := [(3, .V j), (11, .v (.pointer (some ⟨b, 0, none⟩))), (36, .v E), (37, .N), (38, .V 0)]) (ob' := [O1 b [[Q0 a.1, .V a.2.1]], .us E 22 1 (H.1.map (rL 1 rI))]) ⟨J5, [0, 1], I, by decide⟩ (gV (gY (Ay 4 1) ?_)))
 obtain ⟨ep, db, dc⟩ := Aa h
 refine A5 db [(3, _), (11, _), (36, _)] J3 (fun (Z : Li × Int × (List Bool) × Int) s ob => ∃ (am : Value), s = [(37, .v am), (38, .V Z.2.2.2)] ∧ ob = [O1 b [[Q0 Z.1, .V Z.2.1]], .us E 22 1 (H.1.map (rL 1 rI)), U2 am Z.2.2.1]) ⟨(.slice none 0 0), I2⟩ ⟨I, I, J⟩ ⟨[0, 1, 2], I, by decide⟩ ?_
 rintro Z eq s ob ⟨am, rfl, rfl⟩ h dd
 refine Ab fun er de => gT (gQ (Ac 2 I (hM (B0 1 I I I I) I (Ac 1 I (gR (An h I ?_ ?_))))))
 intro df h
 refine gU ?_
 subst de
 refine A6 (s' := [(3, .V j), (11, .v (.pointer (some ⟨b, 0, none⟩))), (36, .v E), (37, .v am), (38, .V Z.2.2.2)]) (ob' := [O1 b [[Q0 Z.1, .V Z.2.1]], .us E 22 1 (H.1.map (rL 1 rI)), U2 am Z.2.2.1]) ⟨J5, [0, 1, 2], I, by decide⟩ (gT (gV ?_))
 obtain ⟨dg, dh, h⟩ := Aa h
 obtain ⟨es, di, h⟩ := Aa h
 refine gQ (Ac 2 I (gS [0] I (Ar [0] (A3 b _ _ _ dh) ?_)))
 refine Ac 1 I (gS [] I (hE 1 (([(dg.1 == 0)] : List Bool).map rB) (gS [2] I (Cq 2 I di fun dj => Ac 1 I (gR (gQ (Ac 3 I ?_)))))))
 cases io h
 exact gR ⟨_, _, _, I, ⟨dj, I2⟩, J5, [0, 1, 2], I, by decide⟩
 intro df h
 obtain rfl := dd _ (oi h).symm
 have h := dc
 exact gZ (lg ⟨Z.2.2.1, am, h, I2⟩ [1, 2])
 rintro s ob ⟨al, af, h, rfl, rfl⟩
 unfold P9.J5 at h
 refine Aj (fun s ob => ∃ (R : (List Li) × (List Bool)) (ax : Value) (ay : Value), P9.J6 R = some r ∧ s = [(36, .v ax), (37, .v ay)] ∧ ob = [.us ax 22 1 (R.1.map (rL 1 rI)), U2 ay R.2]) [] J ?_ ?_
 refine Ab fun et dk => ?_
 obtain ⟨a2, dl, h⟩ := Aa h
 refine gQ (Ac 1 I (hG (K6 _ _ _ dl) (gR ?_)))
 subst dk
 refine A6 (s' := [(36, .v E), (37, .v af), (228, .V a2)]) (ob' := [.us E 22 1 (H.1.map (rL 1 rI)), U2 af al]) ⟨J3, [0, 1], I, by decide⟩ (gV (Ag I (A6 (s' := [(36, .v E), (37, .v af), (228, .V a2), (229, .v (.bool (a2 == 6)))]) (ob' := [.us E 22 1 (H.1.map (rL 1 rI)), U2 af al]) ⟨J4, [0, 1], I, by decide⟩ (An h I ?_ ?_))))
 intro dm h
 obtain ⟨dn, dp, h⟩ := Aa h
 exact gQ (Ac 1 I (gS [] I (hE 1 (([true] : List Bool).map rB) (gS [1] I (Cq 1 I dp fun dq => Ac 1 I (gR (lg ⟨(H.1, dn), E, dq, h, I2⟩ [0, 1])))))))
 intro dm h
 refine Ag I (An h I ?_ ?_)
 intro dr h
 refine gT ?_
 obtain ⟨ds, a6, h⟩ := Aa h
 refine gQ (Ac 2 I (gS [0] I (Gj 0 I I I I I I I I I (Gi 0 I I) (Q9 (Du a6).1) (Q8 (Du a6).2) dS fun dt => Ac 1 I (gR ?_))))
 obtain ⟨du, a7, h⟩ := Aa h
 exact gQ (Ac 2 I (gS [1] I (Gj 1 I I I I I I I I I (Gi 1 I I) (Q9 (Du a7).1) (Q8 (Du a7).2) dS fun dv => Ac 1 I (gR (lg ⟨(ds, du), dt, dv, h, I2⟩ [0, 1])))))
 intro dr h
 exact gU (lg ⟨(H.1, al), E, af, h, I2⟩ [0, 1])
 rintro s ob ⟨R, ax, ay, h, rfl, rfl⟩
 refine Ab fun eu dw => ?_
 obtain ⟨av, dx, h⟩ := Aa h
 refine gQ (Ac 2 I (iE (Bi [0, 1] (K := [.us ax 22 1 (R.1.map (rL 1 rI)), U2 ay R.2]) I [(36, .list 1 (R.1.map (rL 1 rI))), (37, Q6 R.2), (243, .list 1 (R.1.map (rL 1 rI))), (244, Q6 R.2)] ⟨⟨_, I, .us 0 I⟩, ⟨_, I, .us 1 I⟩, ⟨_, I, .us 0 I⟩, ⟨_, I, .us 1 I⟩, J⟩ (ob' := []) (.rest _)) (gS [] I (Dh I I I (Xb _ _ _ dx) dS ?_))))
 rintro _ _ ⟨az, rfl, rfl⟩
 refine Ac 5 I (gR ?_)
 subst dw
 refine A6 (s' := [(26, .V av.2), (36, .list 1 (R.1.map (rL 1 rI))), (37, Q6 R.2), (39, .v az)]) (ob' := [U0 az av.1]) ⟨J4, [0], I, by decide⟩ (Ab fun ev dy => ?_)
 obtain ⟨a3, dz, h⟩ := Aa h
 refine gQ (Ac 2 I (gS [] I (Dh I I I (Wl _ _ _ dz) dS ?_)))
 rintro _ _ ⟨a8, rfl, rfl⟩
 refine Ac 5 I (gR ?_)
 subst dy
 refine A6 (s' := [(26, .V av.2), (28, .V a3.2), (39, .v az), (40, .v a8)]) (ob' := [U0 az av.1, U0 a8 a3.1]) ⟨J4, [0, 1], I, by decide⟩ (Aj (fun s ob => ∃ (a4 : Bool), P9.J7 a4 = some r ∧ s = [(10, .v (.bool a4))] ∧ ob = []) [] J ?_ ?_)
 rcases bt ((av.2 == a3.2)) with an | an
 have h := Bc an h
 obtain ⟨d0, a9, h⟩ := Aa h
 rcases bt (d0) with aw | aw
 have h := Bc aw h
 obtain ⟨d1, d2, h⟩ := Aa h
 refine gQ (Ac 4 I (Ae 257 I an (Ac 2 I (Bg I I I (gS [] I (Cw I (.refl _) I I (.cons (.us 0 I) (.cons (.us 1 I) (.rest _))) I (K5 _ _ _ a9) dS (by rintro _ _ ⟨rfl, _⟩; rfl) ?_))))))
 rintro _ ⟨_, rfl, -⟩
 exact Ac 2 I (Ae 262 I aw (Bg I I I (hG (Pn  _ d2) (Ac 2 I (gR (lg ⟨d1, h, I2⟩ []))))))
 have h := Bd aw h
 refine gQ (Ac 4 I (Ae 257 I an (Ac 2 I (Bg I I I (gS [] I (Cw I (.refl _) I I (.cons (.us 0 I) (.cons (.us 1 I) (.rest _))) I (K5 _ _ _ a9) dS (by rintro _ _ ⟨rfl, _⟩; rfl) ?_))))))
 rintro _ ⟨_, rfl, -⟩
 exact Ac 2 I (Ae 262 I aw (Ac 3 I (gR (lg ⟨false, h, I2⟩ []))))
 have h := Bd an h
 exact gQ (Ac 4 I (Ae 257 I an (Ac 8 I (gR (lg ⟨false, h, I2⟩ [])))))
 rintro s ob ⟨a4, h, rfl, rfl⟩
 unfold P9.J7 at h
 cases io h
 exact gW pr
theorem M1 {s : Uk} (h : SrcOk s) {l : List Bt} (a : 1 ≤ l.length) (b : l.length ≤ 1000) : Ok (Ks s l) fun r => SrcOk r.2 := by
  unfold Ks
  exact .bind (Ee h (by omega) (by omega)) fun r hr => .bind' (.ix' (by omega) (by omega) fun _ _ _ _ => .pure hr.1)
theorem Sa {f : Bt} (hf : f.size ≤ 100) (n : Int) : Ok (Fa f n) fun r => r.size ≤ 200 := by
  have hw : 0 ≤ IntKind.u8.wrap (wr (97 + n.tmod 26)) ∧ IntKind.u8.wrap (wr (97 + n.tmod 26)) ≤ 255 := by
    generalize wr (97 + n.tmod 26) = z
    have a : IntKind.u8.bits = 8 := rfl
    have : IntKind.u8.wrap z = z % 256 := rfl
    omega
  unfold Fa
  refine .bind (Q := fun r : Bt => r.size ≤ 100) ?_ fun r hr => .bind' (.cat (by omega) (.pure (by rw [ByteArray.size_append]; omega)))
  unfold P3
  rw [if_pos (by simp only [List.all_cons, List.all_nil, Bool.and_true, decide_eq_true_eq]; omega)]
  exact ⟨_, rfl, by simp [ByteArray.size]⟩
structure Odd12 (n m : Network) : Prop where
  nodes : 1 ≤ m.Nodes.length ∧ m.Nodes.length ≤ 100
  segs : m.Segments.length = n.Segments.length
  ports : m.Ports.length = n.Ports.length
  sts : m.Stations.length ≤ n.Stations.length + 1
  pts : ∀ (k : Nat) (s : Sg), m.Segments[k]? = some s → s.Points.length ≤ 100
structure Few12 (n : Network) : Prop where
  nodes : 1 ≤ n.Nodes.length ∧ n.Nodes.length ≤ 20
  segs : 1 ≤ n.Segments.length ∧ n.Segments.length ≤ 100
  ports : n.Ports.length ≤ 100
  sts : n.Stations.length ≤ 100
  pts : ∀ (k : Nat) (s : Sg), n.Segments[k]? = some s → s.Points.length ≤ 100
theorem Odd12.sane {n m : Nw} (h : Odd12 n m) (hn : Few12 n) : Sane m := by
  have a := h.nodes; have b := h.segs; have c := h.ports; have d := h.sts; have e := hn.segs; have f := hn.ports; have g := hn.sts
  exact ⟨by omega, by omega, by omega, by omega, fun k s hs => by have := h.pts k s hs; omega⟩
theorem Few12.sane {n : Nw} (hn : Few12 n) : Sane n := by
  have a := hn.nodes; have b := hn.segs; have c := hn.ports; have d := hn.sts
  exact ⟨by omega, by omega, by omega, by omega, fun k s hs => by have := hn.pts k s hs; omega⟩
theorem Zj {s : Uk} (hs : SrcOk s) {n : Nw} (hn : Few12 n) : Ok (Qo s n) fun r => Odd12 n r.1 ∧ SrcOk r.2 := by
  have h := hn.nodes; have u := hn.segs; have v := hn.ports; have w := hn.sts
  unfold Qo
  refine .bind' (.app (by simp; omega) (.bind' (.app (by simp; omega) (.bind' (.app (by simp; omega) (.bind' (.app (by simp; omega) ?_)))))))
  simp only [List.nil_append]
  refine .bind (Ee hs (by omega) (by omega)) fun k hk => .bind' (.ix' (by omega) (by omega) fun i x hi hx => ?_)
  have hil := (List.getElem?_eq_some_iff.1 hx).1
  have hpx := hn.pts i x hx
  refine .bind' (.app (by simp; omega) ?_)
  simp only [List.nil_append]
  refine .bind (Ee hk.1 (by decide) (by decide)) fun c hc => ?_
  have fin : ∀ (a : Li) (b : Int) (no : List Bt) (po : List Port) (st : List Sn) (va se f ca re wa : Int) (pt : List Point), SrcOk ⟨a, b⟩ → (1 ≤ no.length ∧ no.length ≤ 100) → po.length = n.Ports.length → st.length ≤ n.Stations.length + 1 → pt.length ≤ 100 →
      Ok (Qo.J1 n.Segments (i, x) (a, b, no, po, st, va, se, f, ca, re, wa, pt)) fun r => Odd12 n r.1 ∧ SrcOk r.2 := by
    intro a b no po st va se f ca re wa pt l m o p t
    unfold Qo.J1
    refine .pure ⟨⟨m, by simp, o, p, fun q z hz => ?_⟩, l⟩
    dsimp only at hz
    rw [List.getElem?_set] at hz
    split at hz
    · cases hz; exact t
    · exact hn.pts q z hz
  have same := fun (a : Uk) (ha : SrcOk a) (va se f ca re wa : Int) => fin a.L_ a.At n.Nodes n.Ports n.Stations va se f ca re wa x.Points ha ⟨h.1, by omega⟩ rfl (by omega) hpx
  refine Av (fun _ => ?_) fun _ => Av (fun _ => ?_) fun _ => Av (fun _ => ?_) fun _ => Av (fun _ => ?_) fun _ => Av (fun _ => ?_) fun _ => Av (fun _ => ?_) fun _ => Av (fun _ => ?_) fun _ => Av (fun _ => ?_) fun _ => Av (fun _ => ?_) fun _ => Av (fun _ => ?_) fun _ => Av (fun _ => ?_) fun _ => ?_
  · exact .bind (Ee hc.1 (by omega) (by omega)) fun a ha => .bind (M1 ha.1 (by simp) (by simp)) fun b hb => .bind' (.ix' (by omega) (by omega) fun _ _ _ _ => fin _ _ _ _ _ _ _ _ _ _ _ _ hb ⟨by simp; omega, by simp; omega⟩ rfl (by omega) hpx)
  · exact .bind (Br hc.1 (by simp) (by simp)) fun a ha => same a.2 ha.1 _ _ _ _ _ _
  · exact .bind (Br hc.1 (by simp) (by simp)) fun a ha => same a.2 ha.1 _ _ _ _ _ _
  · exact .bind (Br hc.1 (by simp) (by simp)) fun a ha => same a.2 ha.1 _ _ _ _ _ _
  · exact .bind (Br hc.1 (by simp) (by simp)) fun a ha => same a.2 ha.1 _ _ _ _ _ _
  · exact Au (fun hp => .bind (Ee hc.1 (by omega) (by omega)) fun a ha => .bind (Br ha.1 (by simp) (by simp)) fun b hb => .bind' (.ix' (by omega) (by omega) fun _ _ _ _ => fin _ _ _ _ _ _ _ _ _ _ _ _ hb.1 ⟨h.1, by omega⟩ rfl (by omega) (by simp; omega))) fun _ => same c.2 hc.1 _ _ _ _ _ _
  · have hw : wr ((x.Points.length : Int) + 1) = (x.Points.length : Int) + 1 := As (by omega)
    rw [hw]
    refine .bind (Ee hc.1 (by omega) (by omega)) fun a ha => ?_
    obtain ⟨j, hj⟩ := F8 ha.2.1
    exact .bind' (.sub 0 j rfl hj (Nat.zero_le _) (by omega) (fin _ _ _ _ _ _ _ _ _ _ _ _ ha.1 ⟨h.1, by omega⟩ rfl (by omega) (by simp; omega)))
  · exact Au (fun hp => .bind (Ee hc.1 (by omega) (by omega)) fun a ha => .bind (Br ha.1 (by simp) (by simp)) fun b hb => .bind' (.ix' (by omega) (by omega) fun _ _ _ _ => fin _ _ _ _ _ _ _ _ _ _ _ _ hb.1 ⟨h.1, by omega⟩ rfl (by omega) (by simp; omega))) fun _ => same c.2 hc.1 _ _ _ _ _ _
  · exact Au (fun hp => .bind (Ee hc.1 (by omega) (by omega)) fun a ha => .bind (M1 ha.1 (by simp) (by simp)) fun b hb => .bind (Br hb (by simp) (by simp)) fun d hd => .bind (Br hd.1 (by simp) (by simp)) fun e he => .bind' (.ix' (by omega) (by omega) fun _ _ _ _ => fin _ _ _ _ _ _ _ _ _ _ _ _ he.1 ⟨h.1, by omega⟩ (by simp) (by omega) hpx)) fun _ => same c.2 hc.1 _ _ _ _ _ _
  · exact .bind (M1 hc.1 (by simp) (by simp)) fun b hb => .bind (Br hb (by simp) (by simp)) fun d hd => .bind (Br hd.1 (by simp) (by simp)) fun e he => .bind (Br he.1 (by simp) (by simp)) fun g hg => .bind (Br hg.1 (by simp) (by simp)) fun z hz => .bind' (.app (by simp; omega) (fin _ _ _ _ _ _ _ _ _ _ _ _ hz.1 ⟨h.1, by omega⟩ rfl (by simp) hpx))
  · exact .bind (Br hc.1 (by simp) (by simp)) fun a ha => .bind (Br ha.1 (by simp) (by simp)) fun b hb => same b.2 hb.1 _ _ _ _ _ _
  · refine .bind (Q := fun d : Li × Int × (List Bt) × (List Port) × (List Sn) × Int × Int × Int × Int × Int × Int × (List Point) => ∃ (a : Li) (b : Int) (no : List Bt) (va se f ca re wa : Int), d = (a, b, no, n.Ports, n.Stations, va, se, f, ca, re, wa, x.Points) ∧ SrcOk ⟨a, b⟩ ∧ 1 ≤ no.length ∧ no.length ≤ 100) ?_ ?_
    · refine .loop (fun st : Li × Int × List Bt => SrcOk ⟨st.1, st.2.1⟩ ∧ 1 ≤ st.2.2.length ∧ st.2.2.length ≤ 25) (fun st => 100 - st.2.2.length) ⟨hc.1, h.1, by dsimp only; omega⟩ (by dsimp only; omega) ?_
      rintro ⟨a, b, no⟩ ⟨l, m, o⟩
      dsimp only at l m o
      unfold Qo.B2
      dsimp only
      refine .bind (Ee (s := ⟨a, b⟩) l (by decide) (by decide)) fun e he => ?_
      rw [As (x := 23 + e.1) (by omega)]
      refine Au (fun hh => .bind (Sa (by decide) _) fun y hy => .bind (Sa (by decide) _) fun z hz => .bind' (.cat (by omega) (.bind' (.app (by simp; omega) (.pure ⟨⟨he.1, by simp, by simp; omega⟩, by simp; omega⟩))))) fun hh => .pure ⟨_, _, _, _, _, _, _, _, _, rfl, he.1, m, by omega⟩
    · rintro _ ⟨a, b, no, va, se, f, ca, re, wa, rfl, l, m, o⟩
      exact fin _ _ _ _ _ _ _ _ _ _ _ _ l ⟨m, o⟩ rfl (by omega) hpx
end Go.Proofs.YtihdchjpepkpbaaGreat
