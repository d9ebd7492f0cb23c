/- Walks that show what functions of the program compute; printed by a program of ours. No condition. -/
import Derived.Test.YtihdchjpepkpbaaGreatZwL3
set_option maxRecDepth 100000
namespace Go.Proofs.YtihdchjpepkpbaaGreat
open Go.Aw
set_option linter.unusedVariables false
set_option linter.unusedSimpArgs false
set_option maxHeartbeats 4000000
abbrev Ud : PL := sl 27 0 (.still 28 (sl 3 30 (.act 27 (.still 29 (.still 33 (.still 34 .nil))))))
abbrev jH : PL := sl 8 0 (.act 8 (.act 9 (.still 10 (.drop 11 .nil))))
abbrev jF : PL := .still 20 (.act 21 (.act 22 (.act 23 .nil)))
theorem Se (a : Int) (r : Int) (h : G7 a = r) : ACalls Ak 51 [.V a] [] (RV (.V r)) := by
 refine Ag Tryz.func51 I I I fun C hC => ?_
 unfold G7 at h
 refine Ai I (Ai I ?_)
 obtain rfl := h
 exact mL pr
theorem aP (b : Plan) (r : Plan) (h : S4 b = some r) : ACalls Ak 52 [.agg (Au b)] [] (RV (.agg (Au r))) := by
 refine Ag Tryz.func52 I I I fun C hC => ?_
 refine Aa fun y1 O => mE (mG [] I (Bz (Au b) 3 fun B => mG [] I (Br W0 3 fun g => mF ?_)))
 subst O
 refine Aa fun y4 P => ?_
 obtain ⟨d, Q, h⟩ := Ab h
 refine mE (mG [] I (mS (sz := 1) (es := ([] : List Bool).map rB) I I I I I I I I I I I dS fun v5 => Al 2 [.o 1 0] I J1 (mG [2] I (mT 2 I Q fun a => nD 2 I fun R => B0 (Bi (l := [.N, .N, .v a]) C3 (Ci I I (Bd R) I (E6))) I (mG [] I (Br W0 3 fun i => mG [3] I (Ba 3 0 0 [[.N, .N, .v a]] I (mF ?_))))))))
 subst P
 refine Ah (fun s ob => ∃ (e : Li) (c : Value), S4.J1 b d e = some r ∧ s = [] ∧ ob = [O1 B [Au b], O1 g [W0], U1 a d, O1 i [[.v c, .N, .v a]], U0 c e]) (K3 1 2 3) J3 ?_ ?_
 refine Bg [.o 1 0, .l 2 (b.Rates.length : Int)] I ⟨A0, I, J⟩ (mJ (Cj 12 I fun S => mM (A6 3 1) ?_))
 obtain ⟨aq, U, W⟩ := Ab h
 refine Dc U (K4 1 2 3 13) J4 (fun (u : Nat) (w : Li) s ob => ∃ (j : Value), s = [(14, .V (u : Int))] ∧ ob = [O1 B [Au b], O1 g [W0], U1 a d, O1 i [[.v j, .N, .v a]], U0 j w]) ⟨nS, I2⟩ ⟨I, J⟩ (pk N5) ?_ ?_
 rintro u D w ar s ob X E ⟨j, rfl, rfl⟩ h
 have Y := C9 E
 refine Ai I (Aa fun au Z => Cd I Y (mI ?_))
 subst Z
 refine mK (mJ (Ai I ?_))
 obtain ⟨av, aa, h⟩ := Ab h
 refine Bm jH [3, 0] [_, _] I (Bo 8 [.o 1 0, .o 3 1, .x 5 u (rI D)] I ⟨⟨I, Ae X⟩, I, I, J⟩ (mH [] I I I (mO 1 (([wr (0 - D)] : Li).map rI) (mH [4] I I I (mT 4 I aa fun F => A4 1 I (mX 4 I fun ab => mW [3] I I I (mP 3 0 0 (es' := [[.v F, .N, .v a]]) I I I I I I (Bd ab) I (As I) I I (An (mF (mE (Al 2 [.k 0 (u + 1 : Nat)] I ⟨Bf E S, J⟩ ?_)))))))))))
 cases io h
 exact mF (lg ⟨F, I2⟩ N5)
 rintro w s ob ⟨j, rfl, rfl⟩ he
 subst he
 have h := W
 have ac := Da b.Rates.length
 exact Ai I (Aa fun aw ax => Ce I ac (mN (lg ⟨w, j, h, I2⟩ N5)))
 rintro s ob ⟨e, c, h, rfl, rfl⟩
 unfold S4.J1 at h
 refine Ah (fun s ob => ∃ (n : Li) (f : Value), S4.J2 d e n = some r ∧ s = [] ∧ ob = [O1 g [W0], U1 a d, O1 i [[.v c, .v f, .v a]], U0 c e, U0 f n]) (K2 2 3) J2 ?_ ?_
 refine Bg [.o 1 0, .l 2 (b.Ports.length : Int)] I ⟨A0, I, J⟩ (mJ (Cj 30 I fun ad => mM (A6 3 1) ?_))
 obtain ⟨ay, ae, af⟩ := Ab h
 refine Dc ae (K4 1 2 3 31) J4 (fun (y : Nat) (A : Li) s ob => ∃ (t : Value), s = [(32, .V (y : Int))] ∧ ob = [O1 B [Au b], O1 g [W0], U1 a d, O1 i [[.v c, .v t, .v a]], U0 c e, U0 t A]) ⟨nS, I2⟩ ⟨I, J⟩ (pk N6) ?_ ?_
 rintro y G A az s ob ag H ⟨t, rfl, rfl⟩ h
 have ah := C9 H
 refine Ai I (Aa fun a0 ai => Cd I ah (mI ?_))
 subst ai
 refine mK (mJ (Ai I ?_))
 obtain ⟨a1, aj, h⟩ := Ab h
 refine Bm jH [3, 0] [_, _] I (Bo 8 [.o 1 0, .o 3 1, .x 5 y (rI G)] I ⟨⟨I, Ae ag⟩, I, I, J⟩ (mH [] I I I (mO 1 (([wr (0 - G)] : Li).map rI) (mH [5] I I I (mT 5 I aj fun M => A4 1 I (mX 5 I fun ak => mW [3] I I I (mP 3 0 1 (es' := [[.v c, .v M, .v a]]) I I I I I I (Bd ak) I (As I) I I (An (mF (mE (Al 2 [.k 0 (y + 1 : Nat)] I ⟨Bf H ad, J⟩ ?_)))))))))))
 cases io h
 exact mF (lg ⟨M, I2⟩ N6)
 rintro A s ob ⟨t, rfl, rfl⟩ he
 subst he
 have h := af
 have al := Da b.Ports.length
 exact Ai I (Aa fun a2 a3 => Ce I al (mN (lg ⟨A, t, h, I2⟩ [1, 2, 3, 4, 5])))
 rintro s ob ⟨n, f, h, rfl, rfl⟩
 unfold S4.J2 at h
 refine mK (mE (Al 1 [.o 0 2] I J1 (mG [0] I (Ba 0 0 0 [[.v c, .v f, .v a]] I (mF (mM (Be [1, 3, 4] (K := [U1 a d, U0 c e, U0 f n]) I [] J (ob' := [O1 g [[Q0 e, Q0 n, Q5 d]], O1 i [[.v c, .v f, .v a]]]) (.cons (.arr (.cons (.us 1 I) (.cons (.us 2 I) (.cons (.us 0 I) (.rest _))))) (.rest _))) (Dd [0] I ?_)))))))
 cases io h
 exact mL ⟨.inr I, [_], [], ⟨⟨0, _, _, _, _, _, _, _, I5⟩, J⟩, Cm, I2⟩
theorem Dh (i : Nat) (a3 : KS) (j : Nw) (r : Plan × KS) (h : Lz a3 j = some r) : ACalls Ak 10 [.P i, .agg (Ac j)] [O2 i [Bx a3]] (Gm 1 fun x os new => x = .agg (Au r.1) ∧ os = [O2 i [Bx r.2]] ∧ new = []) := by
 refine Ag Tryz.func10 I I I fun C hC => ?_
 unfold Lz at h
 refine Aa fun y1 co => mE (mG [] I (Bz (Ac j) 6 fun G => mG [] I (Br W0 3 fun D => mF ?_)))
 subst co
 refine Ah (fun s ob => ∃ (S : Li × Li) (w : Nat) (a : Value) (c : Value), Lz.J1 a3 j S = some r ∧ s = [(5, .P w)] ∧ ob = [O2 i [Bx a3], O0 G [Ac j], O1 D [W0], U0 a S.1, U0 c S.2, O1 w [[.v a, .v c, .N]]]) (K3 0 3 4) J3 ?_ ?_
 obtain ⟨bx, ⟨fg, cp, cq, cr⟩, h⟩ := Mr h
 obtain ⟨bz, ⟨fh, ct, cu, cv⟩, h⟩ := Mr h
 refine Bm (sl 3 0 (sl 3 4 (.par [(3, []), (7, []), (9, []), (8, [3, 7])] (.act 10 .nil)))) [1] [_] I (Bo 6 [.o 1 0, .l 2 (j.Segments.length : Int), .o 4 0, .l 5 (j.Ports.length : Int)] I ⟨A0, I, A0, I, J⟩ (AP.any [⟨3, [], 25, .us 3 1 (bx.map rI)⟩, ⟨7, [], 29, .us 3 1 (bz.map rI)⟩, ⟨9, [], 5, .box 36 3 (W0)⟩, ⟨8, [3, 7], 30, .fn fun l => match l with | [.v ae, .v af] => .agg [.v ae, .v af, .N] | _ => .tup []⟩] I ⟨⟨_, I, I, I, fun _ => Ft (sz := 1) I I I I I I I I I I cp cq (Gn (f := rI) cr I) dS fun v => ⟨_, I, ⟨v, I⟩, I⟩⟩, ⟨_, I, I, I, fun _ => Ft (sz := 1) I I I I I I I I I I ct cu (Gn (f := rI) cv I) dS fun v => ⟨_, I, ⟨v, I⟩, I⟩⟩, ⟨_, I, I, I, fun _ => Br W0 3 fun b => ⟨_, I, ⟨b, I⟩, I⟩⟩, ⟨_, I, I, I, fun ae b1 af b4 _ => Av (mY (Bi (l := [.v ae, .v af, .N]) C3 (Ci I I (Bd b1) I (Ci I I (Bd b4) I (E6))))) dS ⟨_, I, I, nb⟩⟩, J⟩ ?_))
 intro ae b1 af b4 cw
 exact AP.same 30 (.agg [.v ae, .v af, .N]) I (mH [5] I I I (Ba 5 0 0 [[.v ae, .v af, .N]] I (An (mF (lg ⟨(bx, bz), cw, ae, af, h, I2⟩ N6)))))
 rintro s ob ⟨S, w, a, c, h, rfl, rfl⟩
 unfold Lz.J1 at h
 refine Ah (fun s ob => ∃ (p : Li × Int × (List Bool)) (g : Value), Lz.J2 j S p = some r ∧ s = [] ∧ ob = [O2 i [[Q0 p.1, .V p.2.1]], O0 G [Ac j], O1 D [W0], U0 a S.1, U0 c S.2, O1 w [[.v a, .v c, .v g]], U1 g p.2.2]) (K4 0 3 4 5) J4 ?_ ?_
 refine Ai I (mJ (mM (A6 4 1) ?_))
 obtain ⟨fi, cx, cy⟩ := Ab h
 refine Bs cx (K4 0 3 4 5) J4 (fun (Y : Li × Int × (List Bool) × Int) s ob => ∃ (a4 : Value), s = [(6, .V Y.2.2.2)] ∧ ob = [O2 i [[Q0 Y.1, .V Y.2.1]], O0 G [Ac j], O1 D [W0], U0 a S.1, U0 c S.2, O1 w [[.v a, .v c, .v a4]], U1 a4 Y.2.2.1]) ⟨nS, I2⟩ ⟨I, J⟩ (pk N7) ?_
 rintro Y fj s ob ⟨a4, rfl, rfl⟩ h cz
 refine Aa fun fk c1 => Bg [.o 2 1, .l 3 (j.Stations.length : Int)] I ⟨A0, I, J⟩ (Aq h I ?_ ?_)
 intro c2 h
 refine mI ?_
 subst c1
 refine mK (mJ ?_)
 obtain ⟨c3, c4, h⟩ := Ab h
 obtain ⟨fl, c5, h⟩ := Ab h
 refine Bm (sl 3 0 (.act 3 (.still 4 (.act 5 (.act 6 (.still 7 (.drop 8 .nil))))))) [5] [_] I (Bo 3 [.o 1 0] I J1 (mH [0] I I I (Az [0] (Bu i _ _ _ c4) ?_)))
 refine A4 1 I (mH [] I I I (mO 1 (([(c3.1 == 0)] : List Bool).map rB) (mH [6] I I I (mT 6 I c5 fun b5 => A4 1 I (mX 6 I fun c6 => mW [5] I I I (mP 5 0 2 (es' := [[.v a, .v c, .v b5]]) I I I I I I (Bd c6) I (As I) I I (An (mF (mE (Af 3 I ?_))))))))))
 cases io h
 exact mF ⟨_, _, _, I, ⟨b5, I2⟩, J5, pk N7⟩
 intro c2 h
 obtain rfl := cz _ (oi h).symm
 have h := cy
 exact mN (lg ⟨(Y.1, Y.2.1, Y.2.2.1), a4, h, I2⟩ N7)
 rintro s ob ⟨p, g, h, rfl, rfl⟩
 refine Aa fun fm c7 => ?_
 obtain ⟨c8, c9, h⟩ := Ab h
 refine mE (Af 1 I (mG [0] I (Az [0] (Bu i _ _ _ c9) ?_)))
 refine Af 2 I (mF ?_)
 subst c7
 refine Ah (fun s ob => ∃ (u : Li × Int × Li × Li), Lz.J3 p c8 u = some r ∧ s = [] ∧ ob = [O2 i [[Q0 u.1, .V u.2.1]], O1 D [W0], U0 a u.2.2.1, U0 c u.2.2.2, O1 w [[.v a, .v c, .v g]], U1 g p.2.2]) (K3 4 5 7) J3 ?_ ?_
 refine Aa fun fo da => ?_
 obtain ⟨fp, db, h⟩ := Ab h
 refine mE (Af 1 I (mG [0] I (Az [0] (Bu i _ _ _ db) ?_)))
 refine Af 1 I (mF ?_)
 subst da
 refine mJ ?_
 obtain ⟨fq, dc, dd⟩ := Ab h
 refine Bs dc (K5 0 3 4 5 7) J5 (fun (e : Li × Int × Li × Li × Int) s ob => s = [(8, .V e.2.2.2.2)] ∧ ob = [O2 i [[Q0 e.1, .V e.2.1]], O0 G [Ac j], O1 D [W0], U0 a e.2.2.1, U0 c e.2.2.2.1, O1 w [[.v a, .v c, .v g]], U1 g p.2.2]) ⟨I, I⟩ ⟨I, J⟩ (pk N7) ?_
 rintro e a5 s ob ⟨rfl, rfl⟩ h de
 refine Aa fun fr df => Ai I (Aq h I ?_ ?_)
 intro dg h
 refine mI ?_
 subst df
 refine Ah (fun s ob => ∃ (al : Li × Int × Li × Li), Lz.J5 e al = some a5 ∧ s = [] ∧ ob = [O2 i [[Q0 al.1, .V al.2.1]], O0 G [Ac j], O1 D [W0], U0 a al.2.2.1, U0 c al.2.2.2, O1 w [[.v a, .v c, .v g]], U1 g p.2.2]) (K6 0 3 4 5 7 8) J6 ?_ ?_
 refine mJ (Aa fun fs dh => ?_)
 obtain ⟨bf, di, h⟩ := Ab h
 refine mE (Al 4 [.o 2 1, .l 3 (j.Ports.length : Int)] I ⟨A0, I, J⟩ (mG [0] I (Az [0] (Bu i _ _ _ di) ?_)))
 refine Af 1 I (mF ?_)
 subst dh
 refine Aa fun ft dj => ?_
 obtain ⟨bg, ⟨dk, dl⟩, h⟩ := Bb h
 obtain ⟨fu, dm, h⟩ := Ab h
 obtain ⟨A, dn, h⟩ := Ab h
 refine Bm (pd 13 0 [8, 9, 10]) [1] [_] I (Bo 8 [.o 1 0, .x 3 bg.1 (Bp bg.2)] I ⟨⟨dk, Ae dl⟩, I, J⟩ (mH [] I I I (mO 1 (([1, 5, 30, 300] : Li).map rI) (mH [0] I I I (Az [0] (Aj i _ _ _ dm) ?_)))))
 refine mH [0] I I I (Az [0] (Ey i _ _ _ _ dn) ?_)
 refine A4 2 I (An (mF ?_))
 subst dj
 refine Aa fun fv dp => Ah (fun s ob => ∃ (bh : Bool), Lz.J6 j e bf bg A bh = some a5 ∧ s = [(86, .v (.bool bh))] ∧ ob = [O2 i [Bx A.2], O0 G [Ac j], O1 D [W0], U0 a e.2.2.1, U0 c e.2.2.2.1, O1 w [[.v a, .v c, .v g]], U1 g p.2.2]) (K9 0 3 4 5 7 8 9 10 11) J9 ?_ ?_
 obtain ⟨Z, ⟨b6, a6⟩, h⟩ := Bb h
 refine mE (Al 3 [.o 1 5] I J1 (mQ (Bh 4 (m := Z.1) I I I I I I I b6 (Ae a6)) I (mQ (Ay 4 Z.1 0 I I I (Ae a6) I (y := .V Z.2) I) I (Af 2 I ?_))))
 rcases bt (decide (Z.2 < 0)) with ay | ay
 have h := Bv ay h
 exact Ad 77 I ay (Af 9 I (mF (lg ⟨true, h, I2⟩ N7)))
 have h := Bw ay h
 exact Ad 77 I ay (Al 3 [.o 1 5] I J1 (Bc I I I (mQ (Bh 4 (m := Z.1) I I I I I I I b6 (Ae a6)) I (Bc I I I (mQ (Ay 4 Z.1 0 I I I (Ae a6) I (y := .V Z.2) I) I (Af 4 I (mF (lg ⟨decide ((wr (Z.2 + A.1)) > 1000), h, I2⟩ N7))))))))
 rintro s ob ⟨bh, h, rfl, rfl⟩
 refine Aq h I ?_ ?_
 intro dq h
 exact mN (lg ⟨(A.2.L_, A.2.At, e.2.2.1, e.2.2.2.1), h, I2⟩ N7)
 intro dq h
 refine mI ?_
 subst dp
 refine Ai I (Ai I (Ah (fun s ob => ∃ (E : Li × Int × Li × Int) (am : Value), Lz.J7 j e bf A E = some a5 ∧ s = [(12, .v am), (13, .V E.2.2.2)] ∧ ob = [O2 i [[Q0 E.1, .V E.2.1]], O0 G [Ac j], O1 D [W0], U0 a e.2.2.1, U0 c e.2.2.2.1, O1 w [[.v a, .v c, .v g]], U1 g p.2.2, U0 am E.2.2.1]) (K8 0 3 4 5 7 8 9 11) J8 ?_ ?_))
 refine mJ (mM (A6 3 1) ?_)
 obtain ⟨fw, dr, bi⟩ := Ab h
 refine Bs dr (K8 0 3 4 5 7 8 9 11) J8 (fun (n : Li × Int × Int × Li × Int) s ob => ∃ (M : Value), s = [(10, .V n.2.2.1), (12, .v M), (13, .V n.2.2.2.2)] ∧ ob = [O2 i [[Q0 n.1, .V n.2.1]], O0 G [Ac j], O1 D [W0], U0 a e.2.2.1, U0 c e.2.2.2.1, O1 w [[.v a, .v c, .v g]], U1 g p.2.2, U0 M n.2.2.2.1]) ⟨nS, I2⟩ ⟨I, I, I, J⟩ (pk N8) ?_
 rintro n b7 s ob ⟨M, rfl, rfl⟩ h bj
 refine Aa fun fx ds => Ai I (Aq h I ?_ ?_)
 intro du h
 refine mI ?_
 subst ds
 refine mJ (Ah (fun s ob => ∃ (F : Li × Int × Int), Lz.J12 j e A n F = some b7 ∧ s = [(13, .V F.2.2)] ∧ ob = [O2 i [[Q0 F.1, .V F.2.1]], O0 G [Ac j], O1 D [W0], U0 a e.2.2.1, U0 c e.2.2.2.1, O1 w [[.v a, .v c, .v g]], U1 g p.2.2, U0 M n.2.2.2.1]) (lJ 0 3 4 5 7 8 9 10 11 12) kR ?_ ?_)
 refine Bg [.o 1 1, .l 2 (j.Ports.length : Int)] I ⟨A0, I, J⟩ (mJ (Cj 90 I fun dv => ?_))
 obtain ⟨fy, dw, dx⟩ := Ab h
 refine Dc dw [(0, _), (3, _), (4, _), (5, _), (7, _), (8, _), (9, _), (10, _), (11, _), (12, _), (90, _), (91, _)] lR (fun (ag : Nat) (P : Li × Int × Int) s ob => s = [(92, .V (ag : Int)), (13, .V P.2.2)] ∧ ob = [O2 i [[Q0 P.1, .V P.2.1]], O0 G [Ac j], O1 D [W0], U0 a e.2.2.1, U0 c e.2.2.2.1, O1 w [[.v a, .v c, .v g]], U1 g p.2.2, U0 M n.2.2.2.1]) ⟨I, I⟩ ⟨I, I, J⟩ (pk N8) ?_ ?_
 rintro ag bk P b8 s ob dy b9 ⟨rfl, rfl⟩ h
 unfold Lz.B17 at h
 have dz := C9 b9
 refine Ai I (Aa fun fz d0 => Cd I dz (mI ?_))
 subst d0
 refine Ah (fun s ob => ∃ (az : Li × Int × Int), Lz.J18 az = some b8 ∧ s = [(13, .V az.2.2)] ∧ ob = [O2 i [[Q0 az.1, .V az.2.1]], O0 G [Ac j], O1 D [W0], U0 a e.2.2.1, U0 c e.2.2.2.1, O1 w [[.v a, .v c, .v g]], U1 g p.2.2, U0 M n.2.2.2.1]) [(0, _), (3, _), (4, _), (5, _), (7, _), (8, _), (9, _), (10, _), (11, _), (12, _), (90, _), (91, _), (92, _)] lM ?_ ?_
 refine mJ (Aa fun f0 d1 => mE (Al 3 [.x 1 ag (Bp bk)] I ⟨⟨I, Ae dy⟩, J⟩ (mG [] I (Br W5 3 fun f1 => Af 1 I (mG [8] I (Ba 8 0 0 [Bp bk] I (mF ?_)))))))
 subst d1
 refine Ah (fun s ob => ∃ (U : Li × Int × Bool), Lz.J19 ag P U = some b8 ∧ s = [(133, .v (.bool U.2.2))] ∧ ob = [O2 i [[Q0 U.1, .V U.2.1]], O0 G [Ac j], O1 D [W0], U0 a e.2.2.1, U0 c e.2.2.2.1, O1 w [[.v a, .v c, .v g]], U1 g p.2.2, U0 M n.2.2.2.1]) [(0, _), (3, _), (4, _), (5, _), (7, _), (8, _), (9, _), (10, _), (11, _), (12, _), (13, _), (14, _), (90, _), (91, _), (92, _)] lW ?_ ?_
 rcases bt ((bk.Node == n.2.2.1)) with W | W
 have h := Bv W h
 rcases bt (((ag : Int) != bf.1)) with aa | aa
 have h := Bv aa h
 obtain ⟨B, ⟨ah, O⟩, h⟩ := Bb h
 rcases bt (decide (B.2 ≤ 0)) with ai | ai
 have h := Bv ai h
 rcases bt (decide ((wr (B.2 - A.1)) ≥ (-1000))) with an | an
 have h := Bv an h
 rcases bt (decide ((n.2.2.2.1.length : Int) > 0)) with a0 | a0
 have h := Bv a0 h
 obtain ⟨bl, d2, h⟩ := Ab h
 refine mE (Al 5 [.o 1 8] I J1 (Ad 101 I W (Af 5 I (Ad 106 I aa (Al 3 [.o 1 5] I J1 (Bc I I I (mQ (Bh 4 (m := B.1) I I I I I I I ah (Ae O)) I (Bc I I I (mQ (Ay 4 B.1 0 I I I (Ae O) I (y := .V B.2) I) I (Af 3 I (Ad 114 I ai (Al 3 [.o 1 5] I J1 ?_))))))))))))
 refine Bc I I I (mQ (Bh 4 (m := B.1) I I I I I I I ah (Ae O)) I (Bc I I I (mQ (Ay 4 B.1 0 I I I (Ae O) I (y := .V B.2) I) I (Af 5 I (Ad 124 I an (Af 1 I (Bc I I I (mQ (Cf 7 I I I I) I (Af 3 I (Ad 129 I a0 (Af 1 I (Bc I I I ?_))))))))))))
 refine mG [0] I (Az [0] (Bu i _ _ _ d2) ?_)
 exact Af 2 I (mF (lg ⟨(bl.2.L_, bl.2.At, (bl.1 == 0)), h, I2⟩ N8))
 have h := Bw a0 h
 refine mE (Al 5 [.o 1 8] I J1 (Ad 101 I W (Af 5 I (Ad 106 I aa (Al 3 [.o 1 5] I J1 (Bc I I I (mQ (Bh 4 (m := B.1) I I I I I I I ah (Ae O)) I (Bc I I I (mQ (Ay 4 B.1 0 I I I (Ae O) I (y := .V B.2) I) I (Af 3 I (Ad 114 I ai (Al 3 [.o 1 5] I J1 ?_))))))))))))
 refine Bc I I I (mQ (Bh 4 (m := B.1) I I I I I I I ah (Ae O)) I (Bc I I I (mQ (Ay 4 B.1 0 I I I (Ae O) I (y := .V B.2) I) I (Af 5 I (Ad 124 I an (Af 1 I (Bc I I I (mQ (Cf 7 I I I I) I (Af 3 I (Ad 129 I a0 (Af 4 I (mF ?_))))))))))))
 rotate_left
 have h := Bw an h
 refine mE (Al 5 [.o 1 8] I J1 (Ad 101 I W (Af 5 I (Ad 106 I aa (Al 3 [.o 1 5] I J1 (Bc I I I (mQ (Bh 4 (m := B.1) I I I I I I I ah (Ae O)) I (Bc I I I (mQ (Ay 4 B.1 0 I I I (Ae O) I (y := .V B.2) I) I (Af 3 I (Ad 114 I ai (Al 3 [.o 1 5] I J1 ?_))))))))))))
 refine Bc I I I (mQ (Bh 4 (m := B.1) I I I I I I I ah (Ae O)) I (Bc I I I (mQ (Ay 4 B.1 0 I I I (Ae O) I (y := .V B.2) I) I (Af 5 I (Ad 124 I an (Af 9 I (mF ?_)))))))
 rotate_left
 have h := Bw ai h
 refine mE (Al 5 [.o 1 8] I J1 (Ad 101 I W (Af 5 I (Ad 106 I aa (Al 3 [.o 1 5] I J1 (Bc I I I (mQ (Bh 4 (m := B.1) I I I I I I I ah (Ae O)) I (Bc I I I (mQ (Ay 4 B.1 0 I I I (Ae O) I (y := .V B.2) I) I (Af 3 I (Ad 114 I ai (Af 19 I ?_))))))))))))
 refine mF ?_
 rotate_left
 have h := Bw aa h
 refine mE (Al 5 [.o 1 8] I J1 (Ad 101 I W (Af 5 I (Ad 106 I aa (Af 27 I (mF ?_))))))
 rotate_left
 have h := Bw W h
 refine mE (Al 5 [.o 1 8] I J1 (Ad 101 I W (Af 32 I (mF ?_))))
 any_goals
  exact lg ⟨(P.1, P.2.1, false), h, I2⟩ N8
 rintro s ob ⟨U, h, rfl, rfl⟩
 refine Aq h I ?_ ?_
 intro d3 h
 exact We I (lg ⟨(U.1, U.2.1, (ag : Int)), h, I2⟩ N8)
 intro d3 h
 exact mI (lg ⟨(U.1, U.2.1, P.2.2), h, I2⟩ N8)
 rintro s ob ⟨az, h, rfl, rfl⟩
 unfold Lz.J18 at h
 refine mE (Al 2 [.k 0 (ag + 1 : Nat)] I ⟨Bf b9 dv, J⟩ ?_)
 cases io h
 exact mF (lg I2 N8)
 rintro P s ob ⟨rfl, rfl⟩ he
 subst he
 have h := dx
 have d4 := Da j.Ports.length
 exact Ai I (Aa fun f2 f3 => Ce I d4 (mN (lg ⟨(P.1, P.2.1, P.2.2), h, I2⟩ N8)))
 rintro s ob ⟨F, h, rfl, rfl⟩
 refine Aa fun f4 d5 => Ai I (Aq h I ?_ ?_)
 intro d6 h
 obtain rfl := bj _ (oi h).symm
 have h := bi
 exact mN (lg ⟨(F.1, F.2.1, n.2.2.2.1, F.2.2), M, h, I2⟩ N8)
 intro d6 h
 refine mI ?_
 subst d5
 refine Ai I (Ah (fun s ob => ∃ (bm : Li) (bn : Value), Lz.J13 j n F bm = some b7 ∧ s = [(16, .v bn)] ∧ ob = [O2 i [[Q0 F.1, .V F.2.1]], O0 G [Ac j], O1 D [W0], U0 a e.2.2.1, U0 c e.2.2.2.1, O1 w [[.v a, .v c, .v g]], U1 g p.2.2, U0 M n.2.2.2.1, U0 bn bm]) [(0, _), (3, _), (4, _), (5, _), (7, _), (8, _), (9, _), (10, _), (11, _), (12, _), (13, _)] lK ?_ ?_)
 refine Bg [.o 1 1, .l 2 (j.Segments.length : Int)] I ⟨A0, I, J⟩ (mJ (Cj 139 I fun d7 => mM (A6 3 1) ?_))
 obtain ⟨f5, d8, d9⟩ := Ab h
 refine Dc d8 [(0, _), (3, _), (4, _), (5, _), (7, _), (8, _), (9, _), (10, _), (11, _), (12, _), (13, _), (139, _), (140, _)] lM (fun (ao : Nat) (aj : Li) s ob => ∃ (ak : Value), s = [(141, .V (ao : Int)), (16, .v ak)] ∧ ob = [O2 i [[Q0 F.1, .V F.2.1]], O0 G [Ac j], O1 D [W0], U0 a e.2.2.1, U0 c e.2.2.2.1, O1 w [[.v a, .v c, .v g]], U1 g p.2.2, U0 M n.2.2.2.1, U0 ak aj]) ⟨nS, I2⟩ ⟨I, I, J⟩ (pk N9) ?_ ?_
 rintro ao Q aj ca s ob ea cb ⟨ak, rfl, rfl⟩ h
 unfold Lz.B14 at h
 have eb := C9 cb
 refine Ai I (Aa fun f6 ec => Cd I eb (mI ?_))
 subst ec
 refine Ah (fun s ob => ∃ (bo : Li) (a7 : Value), Lz.J15 bo = some ca ∧ s = [(16, .v a7)] ∧ ob = [O2 i [[Q0 F.1, .V F.2.1]], O0 G [Ac j], O1 D [W0], U0 a e.2.2.1, U0 c e.2.2.2.1, O1 w [[.v a, .v c, .v g]], U1 g p.2.2, U0 M n.2.2.2.1, U0 a7 bo]) [(0, _), (3, _), (4, _), (5, _), (7, _), (8, _), (9, _), (10, _), (11, _), (12, _), (13, _), (139, _), (140, _), (141, _)] lQ ?_ ?_
 refine mJ (Aa fun f7 ed => mE (Al 3 [.x 1 ao (Ap Q)] I ⟨⟨I, Ae ea⟩, J⟩ (mG [] I (Br W3 7 fun f8 => Af 1 I (mG [9] I (Ba 9 0 0 [Ap Q] I (mF ?_)))))))
 subst ed
 refine Ah (fun s ob => ∃ (bp : Bool), Lz.J16 ao aj bp = some ca ∧ s = [(180, .v (.bool bp))] ∧ ob = [O2 i [[Q0 F.1, .V F.2.1]], O0 G [Ac j], O1 D [W0], U0 a e.2.2.1, U0 c e.2.2.2.1, O1 w [[.v a, .v c, .v g]], U1 g p.2.2, U0 M n.2.2.2.1, U0 ak aj]) [(0, _), (3, _), (4, _), (5, _), (7, _), (8, _), (9, _), (10, _), (11, _), (12, _), (13, _), (16, _), (17, _), (139, _), (140, _), (141, _)] ⟨I, I, I, I, I, I, I, I, I, I, I, I, I, I, I, I, J⟩ ?_ ?_
 rcases bt ((Q.From == n.2.2.1)) with ab | ab
 have h := Bv ab h
 rcases bt (decide ((wr ((wr (Q.From + Q.To)) - n.2.2.1)) > n.2.2.1)) with a1 | a1
 have h := Bv a1 h
 obtain ⟨aq, ⟨ee, bq⟩, h⟩ := Bb h
 refine Bq 3 aq.1 I bq fun ef => Bm Ud [9, 5, 3] [_, _, _] I (Bo 5 [.o 1 0] I J1 (Bk 150 I ab (Bo 17 [.o 7 0, .o 9 0] I J2 (Bk 167 I a1 (Bo 3 [.o 1 1] I J1 (J0 I I I I ((Ar (m := aq.1) I I I I I ef I ee bq).yd) dS (J0 I I I I (Ay 2 aq.1 0 I I I (Ae bq) I (y := .V aq.2) I) dS (Bo 4 [.o 2 0] I J1 (Hi I (Se aq.2 _ I) (A4 3 I (An ?_)))))))))))
 exact mF (lg ⟨decide ((wr ((G7 aq.2) + A.1)) ≤ (min 1000 Q.Capacity)), h, I2⟩ N9)
 have h := Bw a1 h
 exact Bm Ud [9] [_] I (Bo 5 [.o 1 0] I J1 (Bk 150 I ab (Bo 17 [.o 7 0, .o 9 0] I J2 (Bk 167 I a1 (A4 13 I (An (mF (lg ⟨false, h, I2⟩ N9))))))))
 have h := Bw ab h
 rcases bt ((Q.To == n.2.2.1)) with ar | ar
 have h := Bv ar h
 rcases bt (decide ((wr ((wr (Q.From + Q.To)) - n.2.2.1)) > n.2.2.1)) with a2 | a2
 have h := Bv a2 h
 obtain ⟨au, ⟨eg, br⟩, h⟩ := Bb h
 refine Bq 3 au.1 I br fun eh => Bm Ud [9, 5, 3] [_, _, _] I (Bo 5 [.o 1 0] I J1 (Bk 150 I ab (Bo 6 [.o 1 0] I J1 (Bk 156 I ar (Bo 11 [.o 1 0, .o 3 0] I J2 (Bk 167 I a2 (Bo 3 [.o 1 1] I J1 (J0 I I I I ((Ar (m := au.1) I I I I I eh I eg br).yd) dS (J0 I I I I (Ay 2 au.1 0 I I I (Ae br) I (y := .V au.2) I) dS (Bo 4 [.o 2 0] I J1 (Hi I (Se au.2 _ I) ?_)))))))))))
 exact A4 3 I (An (mF (lg ⟨decide ((wr ((G7 au.2) + A.1)) ≤ (min 1000 Q.Capacity)), h, I2⟩ N9)))
 have h := Bw a2 h
 exact Bm Ud [9] [_] I (Bo 5 [.o 1 0] I J1 (Bk 150 I ab (Bo 6 [.o 1 0] I J1 (Bk 156 I ar (Bo 11 [.o 1 0, .o 3 0] I J2 (Bk 167 I a2 (A4 13 I (An (mF (lg ⟨false, h, I2⟩ N9))))))))))
 have h := Bw ar h
 exact Bm Ud [9] [_] I (Bo 5 [.o 1 0] I J1 (Bk 150 I ab (Bo 6 [.o 1 0] I J1 (Bk 156 I ar (A4 24 I (An (mF (lg ⟨false, h, I2⟩ N9))))))))
 rintro s ob ⟨bp, h, rfl, rfl⟩
 refine Aq h I ?_ ?_
 intro ei h
 obtain ⟨ej, ek, h⟩ := Ab h
 exact mE (Af 2 I (mG [] I (mO 1 (([(ao : Int)] : Li).map rI) (mG [8] I (mT 8 I ek fun el => Af 1 I (mF (lg ⟨ej, el, h, I2⟩ N9)))))))
 intro ei h
 exact mI (lg ⟨aj, ak, h, I2⟩ N9)
 rintro s ob ⟨bo, a7, h, rfl, rfl⟩
 unfold Lz.J15 at h
 refine mE (Al 2 [.k 0 (ao + 1 : Nat)] I ⟨Bf cb d7, J⟩ ?_)
 cases io h
 exact mF (lg ⟨a7, I2⟩ N9)
 rintro aj s ob ⟨ak, rfl, rfl⟩ he
 subst he
 have h := d9
 have em := Da j.Segments.length
 exact Ai I (Aa fun f9 ga => Ce I em (mN (lg ⟨aj, ak, h, I2⟩ N9)))
 rintro s ob ⟨bm, bn, h, rfl, rfl⟩
 refine Aa fun gb en => mK (mE (Af 1 I (mQ (Cf 8 I I I I) I (Af 1 I (mF (Aq h I ?_ ?_))))))
 intro eo h
 obtain rfl := bj _ (oi h).symm
 have h := bi
 exact mN (lg ⟨(F.1, F.2.1, n.2.2.2.1, F.2.2), M, h, I2⟩ N8)
 intro eo h
 refine mI ?_
 subst en
 refine Aa fun gc ep => ?_
 obtain ⟨gd, eq, h⟩ := Ab h
 obtain ⟨a8, ⟨er, cc⟩, h⟩ := Bb h
 refine mE (Af 3 I (mQ (Cf 8 I I I I) I (mG [0] I (Az [0] (Bu i _ _ _ eq) ?_))))
 refine mQ (Bh 8 (m := a8.1) I I I I I I I er (Ae cc)) I (mQ (Ay 8 a8.1 0 I I I (Ae cc) I (y := .V a8.2) I) I (Af 1 I (mF ?_)))
 subst ep
 refine Aa fun ge es => ?_
 obtain ⟨gf, et, h⟩ := Ab h
 refine mE (Af 2 I (mG [] I (mO 1 (([a8.2] : Li).map rI) (mG [7] I (mT 7 I et fun eu => Af 1 I (mF ?_))))))
 subst es
 obtain ⟨a9, ⟨cd, ce⟩, h⟩ := Bb h
 refine Bm (pd 16 0 []) [1] [_] I (Bo 16 [.o 1 0, .x 3 a9.1 (Ap a9.2), .o 7 0, .x 9 a9.1 (Ap a9.2)] I ⟨⟨cd, Ae ce⟩, I, ⟨cd, Ae ce⟩, I, J⟩ (An ?_))
 cases io h
 exact mF ⟨_, _, _, I, ⟨eu, I2⟩, lK, pk N8⟩
 intro du h
 obtain rfl := bj _ (oi h).symm
 have h := bi
 exact mN (lg ⟨(n.1, n.2.1, n.2.2.2.1, n.2.2.2.2), M, h, I2⟩ N8)
 rintro s ob ⟨E, am, h, rfl, rfl⟩
 refine Aa fun gg ev => Ai I (Aq h I ?_ ?_)
 intro ew h
 exact mN (lg ⟨(E.1, E.2.1, e.2.2.1, e.2.2.2.1), h, I2⟩ N7)
 intro ew h
 refine mI ?_
 subst ev
 refine Ah (fun s ob => ∃ (av : Li), Lz.J8 j e A E av = some a5 ∧ s = [] ∧ ob = [O2 i [[Q0 E.1, .V E.2.1]], O0 G [Ac j], O1 D [W0], U0 a e.2.2.1, U0 c av, O1 w [[.v a, .v c, .v g]], U1 g p.2.2, U0 am E.2.2.1]) (K8 0 3 4 5 7 8 11 12) J8 ?_ ?_
 obtain ⟨H, ⟨bs, X⟩, h⟩ := Bb h
 obtain ⟨R, ⟨ex, ba⟩, h⟩ := Bb h
 obtain ⟨aw, ⟨cf, bb⟩, h⟩ := Bb h
 refine Bq 4 H.1 I X fun ey => Bq 4 R.1 I ba fun ez => Bq 4 H.1 I X fun cg => Bm (sl 10 0 (.still 11 (sl 4 13 (.still 18 (.two 10 17 (.still 12 (.act 17 (.still 19 jF))) (.still 19 (.act 10 (.still 12 jF)))))))) [5] [_] I (Bo 9 [.o 1 0, .o 4 0, .o 7 0] I J3 (mU I (Ar (m := H.1) I I I I I ey I bs X) I (Bo 4 [.o 2 0] I J1 (mU I (Ar (m := R.1) I I I I I ez I ex ba) I (A4 1 I (mV ?_ ?_))))))
 exact mH [] I I I (Av (Ay 4 H.1 0 I I I (Ae X) I (y := .V H.2) I) dS (A4 1 I (mH [] I I I (Av (Ay 4 R.1 0 I I I (Ae ba) I (y := .V R.2) I) dS (A4 1 I (mU I (Ar (m := H.1) I I I I I cg I bs X) I (mH [4] I I I (A5 4 H.1 0 I I I (Ae X) I I I I (As I) I (Ca (x := wr (H.2 + A.1)) I) (mH [] I I I (Av (Bh 4 (m := aw.1) I I I I I I I cf (Ae bb)) dS (mH [4] I I I (A5 4 aw.1 0 I I I (Ae bb) I I I I (As I) I (Ca (x := wr (R.2 - A.1)) I) (An (mF (lg ⟨((e.2.2.2.1.set H.1 (wr (H.2 + A.1))).set aw.1 (wr (R.2 - A.1))), h, I2⟩ N8)))))))))))))))
 exact mH [] I I I (Av (Ay 4 R.1 0 I I I (Ae ba) I (y := .V R.2) I) dS (A4 1 I (mH [] I I I (Av (Ay 4 H.1 0 I I I (Ae X) I (y := .V H.2) I) dS (A4 1 I (mU I (Ar (m := H.1) I I I I I cg I bs X) I (mH [4] I I I (A5 4 H.1 0 I I I (Ae X) I I I I (As I) I (Ca (x := wr (H.2 + A.1)) I) (mH [] I I I (Av (Bh 4 (m := aw.1) I I I I I I I cf (Ae bb)) dS (mH [4] I I I (A5 4 aw.1 0 I I I (Ae bb) I I I I (As I) I (Ca (x := wr (R.2 - A.1)) I) (An (mF (lg ⟨((e.2.2.2.1.set H.1 (wr (H.2 + A.1))).set aw.1 (wr (R.2 - A.1))), h, I2⟩ N8)))))))))))))))
 rintro s ob ⟨av, h, rfl, rfl⟩
 refine Aa fun gh e0 => mE (Af 1 I (mQ (Cf 7 I I I I) I (Af 1 I (mF ?_))))
 subst e0
 refine mJ (cS 7 I fun e1 => ?_)
 obtain ⟨gi, e2, e3⟩ := Ab h
 refine Vu e2 (K9 0 3 4 5 7 8 11 239 240) J9 (fun (bu : Nat) (ax : Li) s ob => s = [(241, .V (bu : Int))] ∧ ob = [O2 i [[Q0 E.1, .V E.2.1]], O0 G [Ac j], O1 D [W0], U0 a ax, U0 c av, O1 w [[.v a, .v c, .v g]], U1 g p.2.2, U0 am E.2.2.1]) ⟨I, I⟩ ⟨I, J⟩ (pk N8) ?_ ?_
 rintro bu ax e4 s ob ci ⟨rfl, rfl⟩ h
 unfold Lz.B9 at h
 have e5 := C9 ci
 refine Ai I (Aa fun gj e6 => Cd I e5 (mI ?_))
 subst e6
 refine Ah (fun s ob => ∃ (bv : Li), Lz.J10 bv = some e4 ∧ s = [] ∧ ob = [O2 i [[Q0 E.1, .V E.2.1]], O0 G [Ac j], O1 D [W0], U0 a bv, U0 c av, O1 w [[.v a, .v c, .v g]], U1 g p.2.2, U0 am E.2.2.1]) (lJ 0 3 4 5 7 8 11 239 240 241) kR ?_ ?_
 refine mJ (Aa fun gk e7 => ?_)
 obtain ⟨bw, ⟨e8, cj⟩, h⟩ := Bb h
 refine mE (mQ (Bh 7 (m := bw.1) I I I I I I I e8 (Ae cj)) I (mQ (Ay 7 bw.1 0 I I I (Ae cj) I (y := .V bw.2) I) I (Af 1 I (mF ?_))))
 subst e7
 refine Aa fun gl e9 => ?_
 obtain ⟨bc, ⟨ck, cl⟩, h⟩ := Bb h
 refine Ue (pd 13 0 []) [1] [_] [.o 1 0, .x 3 bc.1 (Ap bc.2), .o 7 0, .x 9 bc.1 (Ap bc.2)] I I ⟨⟨ck, Ae cl⟩, I, ⟨ck, Ae cl⟩, I, J⟩ ?_
 subst e9
 refine Aq h I ?_ ?_
 intro fa h
 obtain ⟨ac, ⟨cm, bd⟩, h⟩ := Bb h
 exact mE (Al 3 [.o 1 5] I J1 (mQ (Bh 3 (m := ac.1) I I I I I I I cm (Ae bd)) I (mQ (Ay 3 ac.1 0 I I I (Ae bd) I (y := .V ac.2) I) I (Af 2 I (mQ (Bh 3 (m := ac.1) I I I I I I I cm (Ae bd)) I (mG [3] I (A5 3 ac.1 0 I I I (Ae bd) I I I I (As I) I (Ca (x := wr (ac.2 + A.1)) I) (mF (lg ⟨(ax.set ac.1 (wr (ac.2 + A.1))), h, I2⟩ N8)))))))))
 intro fa h
 obtain ⟨ad, ⟨cn, be⟩, h⟩ := Bb h
 exact mE (Al 3 [.o 1 5] I J1 (mQ (Bh 3 (m := ad.1) I I I I I I I cn (Ae be)) I (mQ (Ay 3 ad.1 0 I I I (Ae be) I (y := .V ad.2) I) I (Af 2 I (mQ (Bh 3 (m := ad.1) I I I I I I I cn (Ae be)) I (mG [3] I (A5 3 ad.1 0 I I I (Ae be) I I I I (As I) I (Ca (x := wr (ad.2 - A.1)) I) (mF (lg ⟨(ax.set ad.1 (wr (ad.2 - A.1))), h, I2⟩ N8)))))))))
 rintro s ob ⟨bv, h, rfl, rfl⟩
 unfold Lz.J10 at h
 refine mE (Al 2 [.k 0 (bu + 1 : Nat)] I ⟨Bf ci e1, J⟩ ?_)
 cases io h
 exact mF (lg I2 N8)
 rintro ax s ob ⟨rfl, rfl⟩ he
 subst he
 have h := e3
 have fb := Da E.2.2.1.length
 exact Ai I (Aa fun gm gn => Ce I fb (mN (lg ⟨(E.1, E.2.1, ax, av), h, I2⟩ N7)))
 rintro s ob ⟨al, h, rfl, rfl⟩
 unfold Lz.J5 at h
 refine mE (Af 3 I ?_)
 cases io h
 exact mF ⟨_, _, _, I, I2, J6, pk N7⟩
 intro dg h
 obtain rfl := de _ (oi h).symm
 have h := dd
 exact mN (lg ⟨(e.1, e.2.1, e.2.2.1, e.2.2.2.1), h, I2⟩ [0, 2, 3, 4, 5, 6])
 rintro s ob ⟨u, h, rfl, rfl⟩
 refine mK (Ai I (Aq h I ?_ ?_))
 intro fc h
 refine mK ?_
 obtain ⟨fd, fe, h⟩ := Ab h
 refine mE (Al 1 [.o 0 4] I J1 (mZ (Be [2, 3, 5] (K := [U0 a u.2.2.1, U0 c u.2.2.2, U1 g p.2.2]) I [(276, .agg [Q0 u.2.2.1, Q0 u.2.2.2, Q5 p.2.2])] ⟨⟨_, I, .agg (.cons (.us 0 I) (.cons (.us 1 I) (.cons (.us 2 I) (.rest _))))⟩, J⟩ (ob' := [O2 i [[Q0 u.1, .V u.2.1]], O1 D [W0], O1 w [[Q0 u.2.2.1, Q0 u.2.2.2, Q5 p.2.2]]]) (.cons (.same _) (.cons (.same _) (.cons (.arr (.cons (.us 0 I) (.cons (.us 1 I) (.cons (.us 2 I) (.rest _))))) (.rest _))))) (mG [] I (Cb I I I (aP _ _ fe) dS ?_))))
 rintro _ _ ⟨rfl, rfl⟩
 refine mG [1] I (Ba 1 0 0 [Au fd] I (mF (Dd [0, 1] I ?_)))
 obtain rfl := oi h
 exact mL ⟨.inr I, [_], [O2 i [[Q0 u.1, .V u.2.1]]], ⟨⟨1, _, _, _, _, _, _, _, I5⟩, J⟩, Dj I (Cm), ⟨[O2 i [[Q0 u.1, .V u.2.1]]], [], I5⟩⟩
 intro fc h
 refine mI (mK (mE (Al 1 [.o 0 4] I J1 (mG [1] I (Ba 1 0 0 [[.v a, .v c, .v g]] I (mF (mM (Be [2, 3, 5] (K := [U0 a u.2.2.1, U0 c u.2.2.2, U1 g p.2.2]) I [] J (ob' := [O2 i [[Q0 u.1, .V u.2.1]], O1 D [[Q0 u.2.2.1, Q0 u.2.2.2, Q5 p.2.2]], O1 w [[.v a, .v c, .v g]]]) (.cons (.same _) (.cons (.arr (.cons (.us 0 I) (.cons (.us 1 I) (.cons (.us 2 I) (.rest _))))) (.rest _)))) (Dd [0, 1] I ?_))))))))
 obtain rfl := oi h
 exact mL ⟨.inr I, [_], [O2 i [[Q0 u.1, .V u.2.1]]], ⟨⟨1, _, _, _, _, _, _, _, I5⟩, J⟩, Dj I (Cm), ⟨[O2 i [[Q0 u.1, .V u.2.1]]], [], I5⟩⟩
end Go.Proofs.YtihdchjpepkpbaaGreat
