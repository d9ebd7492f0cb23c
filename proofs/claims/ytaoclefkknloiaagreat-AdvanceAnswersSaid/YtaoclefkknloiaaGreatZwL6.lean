/- Walks that show what functions of the program compute; printed by a program of ours. No condition. -/
import Derived.Test.YtaoclefkknloiaaGreatZwL0
import Derived.Test.YtaoclefkknloiaaGreatZwL5
import Derived.Test.YtaoclefkknloiaaGreatZwL4
import Derived.Test.YtaoclefkknloiaaGreatZwD
set_option maxRecDepth 100000
namespace Go.Proofs.YtaoclefkknloiaaGreat
open Go.Aw
set_option linter.unusedVariables false
set_option linter.unusedSimpArgs false
set_option maxHeartbeats 4000000
abbrev Wp : PL := sl 27 0 (.still 28 (sl 3 30 (.act 27 (.still 29 (.still 33 (.still 34 .nil))))))
abbrev Zt : PL := .still 10 (.act 11 (.still 12 .nil))
abbrev nF : PL := sl 8 0 (.act 8 (.act 9 (.still 10 (.drop 11 .nil))))
abbrev nE : PL := .still 20 (.act 21 (.act 22 (.act 23 .nil)))
theorem Uh (a : Int) (r : Int) (h : Ij a = r) : ACalls Al 42 [.V a] [] (RV (.V r)) := by
 refine Ag Tryz.func42 I I I fun C hC => ?_
 unfold Ij at h
 refine Ai I (Ai I ?_)
 obtain rfl := h
 exact qK pr
theorem dH (b : Plan) (r : Plan) (h : Vj b = some r) : ACalls Al 43 [.agg (Aj b)] [] (RV (.agg (Aj r))) := by
 refine Ag Tryz.func43 I I I fun C hC => ?_
 refine Ac fun y1 O => qD (qF [] I (Cp (Aj b) 3 fun B => qF [] I (B0 W0 3 fun g => qE ?_)))
 subst O
 refine Ac fun y4 P => ?_
 obtain ⟨d, Q, h⟩ := Ad h
 refine qD (qF [] I (qP (sz := 1) (es := ([] : List Bool).map rB) I I I I I I I I I I I dS fun v5 => Ao 2 [.o 1 0] I J1 (qF [2] I (qU 2 I Q fun a => AO.one 2 I fun R => qQ (Bi (l := [.N, .N, .v a]) Iz (Ce I I (Bz R) I (Fr))) I (qF [] I (B0 W0 3 fun i => qF [3] I (By 3 0 0 [[.N, .N, .v a]] I (qE ?_))))))))
 subst P
 refine Ak (fun s ob => ∃ (e : Li) (c : Value), Vj.J1 b d e = some r ∧ s = [] ∧ ob = [O1 B [Aj b], O1 g [W0], U3 a d, O1 i [[.v c, .N, .v a]], U0 c e]) (K3 1 2 3) J3 ?_ ?_
 refine Bk [.o 1 0, .l 2 (b.Rates.length : Int)] I ⟨A6, I, J⟩ (qH (Cd 12 I fun S => qL (Ay 3 1) ?_))
 obtain ⟨aq, U, W⟩ := Ad h
 refine Cr U (K4 1 2 3 13) J4 (fun (u : Nat) (w : Li) s ob => ∃ (j : Value), s = [(14, .V (u : Int))] ∧ ob = [O1 B [Aj b], O1 g [W0], U3 a d, O1 i [[.v j, .N, .v a]], U0 j w]) ⟨nS, I2⟩ ⟨I, J⟩ (pk N5) ?_ ?_
 rintro u D w ar s ob X E ⟨j, rfl, rfl⟩ h
 have Y := Cm E
 refine Ai I (Ac fun au Z => Bl I Y (qI ?_))
 subst Z
 refine qJ (qH (Ai I ?_))
 obtain ⟨av, aa, h⟩ := Ad h
 refine Bv nF [3, 0] [_, _] I (Cf 8 [.o 1 0, .o 3 1, .x 5 u (rI D)] I ⟨⟨I, Ae X⟩, I, I, J⟩ (qG [] I I I (qO 1 (([wr (0 - D)] : Li).map rI) (qG [4] I I I (qU 4 I aa fun F => A9 1 I (rC 4 I fun ab => qX [3] I I I (qT 3 0 0 (es' := [[.v F, .N, .v a]]) I I I I I I (Bz ab) I (Be I) I I (Ar (qE (qD (Ao 2 [.k 0 (u + 1 : Nat)] I ⟨Az E S, J⟩ ?_)))))))))))
 cases io h
 exact qE (lg ⟨F, I2⟩ N5)
 rintro w s ob ⟨j, rfl, rfl⟩ he
 subst he
 have h := W
 have ac := Cn b.Rates.length
 exact Ai I (Ac fun aw ax => Bm I ac (qM (lg ⟨w, j, h, I2⟩ N5)))
 rintro s ob ⟨e, c, h, rfl, rfl⟩
 unfold Vj.J1 at h
 refine Ak (fun s ob => ∃ (n : Li) (f : Value), Vj.J2 d e n = some r ∧ s = [] ∧ ob = [O1 g [W0], U3 a d, O1 i [[.v c, .v f, .v a]], U0 c e, U0 f n]) (K2 2 3) J2 ?_ ?_
 refine Bk [.o 1 0, .l 2 (b.Ports.length : Int)] I ⟨A6, I, J⟩ (qH (Cd 30 I fun ad => qL (Ay 3 1) ?_))
 obtain ⟨ay, ae, af⟩ := Ad h
 refine Cr ae (K4 1 2 3 31) J4 (fun (y : Nat) (A : Li) s ob => ∃ (t : Value), s = [(32, .V (y : Int))] ∧ ob = [O1 B [Aj b], O1 g [W0], U3 a d, O1 i [[.v c, .v t, .v a]], U0 c e, U0 t A]) ⟨nS, I2⟩ ⟨I, J⟩ (pk N6) ?_ ?_
 rintro y G A az s ob ag H ⟨t, rfl, rfl⟩ h
 have ah := Cm H
 refine Ai I (Ac fun a0 ai => Bl I ah (qI ?_))
 subst ai
 refine qJ (qH (Ai I ?_))
 obtain ⟨a1, aj, h⟩ := Ad h
 refine Bv nF [3, 0] [_, _] I (Cf 8 [.o 1 0, .o 3 1, .x 5 y (rI G)] I ⟨⟨I, Ae ag⟩, I, I, J⟩ (qG [] I I I (qO 1 (([wr (0 - G)] : Li).map rI) (qG [5] I I I (qU 5 I aj fun M => A9 1 I (rC 5 I fun ak => qX [3] I I I (qT 3 0 1 (es' := [[.v c, .v M, .v a]]) I I I I I I (Bz ak) I (Be I) I I (Ar (qE (qD (Ao 2 [.k 0 (y + 1 : Nat)] I ⟨Az H ad, J⟩ ?_)))))))))))
 cases io h
 exact qE (lg ⟨M, I2⟩ N6)
 rintro A s ob ⟨t, rfl, rfl⟩ he
 subst he
 have h := af
 have al := Cn b.Ports.length
 exact Ai I (Ac fun a2 a3 => Bm I al (qM (lg ⟨A, t, h, I2⟩ [1, 2, 3, 4, 5])))
 rintro s ob ⟨n, f, h, rfl, rfl⟩
 unfold Vj.J2 at h
 refine qJ (qD (Ao 1 [.o 0 2] I J1 (qF [0] I (By 0 0 0 [[.v c, .v f, .v a]] I (qE (qL (As [1, 3, 4] (K := [U3 a d, U0 c e, U0 f n]) I [] J (ob' := [O1 g [[Q0 e, Q0 n, Q2 d]], O1 i [[.v c, .v f, .v a]]]) (.cons (.arr (.cons (.us 1 I) (.cons (.us 2 I) (.cons (.us 0 I) (.rest _))))) (.rest _))) (Dd [0] I ?_)))))))
 cases io h
 exact qK ⟨.inr I, [_], [], ⟨⟨0, _, _, _, _, _, _, _, I5⟩, J⟩, Cv, I2⟩
theorem Ou (i : Nat) (a3 : KS) (j : Nw) (r : Plan × KS) (h : Qu a3 j = some r) : ACalls Al 9 [.P i, .agg (Ab j)] [O2 i [Bs a3]] (Fh 1 fun x os new => x = .agg (Aj r.1) ∧ os = [O2 i [Bs r.2]] ∧ new = []) := by
 refine Ag Tryz.func9 I I I fun C hC => ?_
 unfold Qu at h
 refine Ac fun y1 co => qD (qF [] I (Cp (Ab j) 6 fun G => qF [] I (B0 W0 3 fun D => qE ?_)))
 subst co
 refine Ak (fun s ob => ∃ (S : Li × Li) (w : Nat) (a : Value) (c : Value), Qu.J1 a3 j S = some r ∧ s = [(5, .P w)] ∧ ob = [O2 i [Bs a3], O0 G [Ab j], O1 D [W0], U0 a S.1, U0 c S.2, O1 w [[.v a, .v c, .N]]]) (K3 0 3 4) J3 ?_ ?_
 obtain ⟨bx, ⟨fg, cp, cq, cr⟩, h⟩ := G0 h
 obtain ⟨bz, ⟨fh, ct, cu, cv⟩, h⟩ := G0 h
 refine Bv (sl 3 0 (sl 3 4 (.par [(3, []), (7, []), (9, []), (8, [3, 7])] (.act 10 .nil)))) [1] [_] I (Cf 6 [.o 1 0, .l 2 (j.Segments.length : Int), .o 4 0, .l 5 (j.Ports.length : Int)] I ⟨A6, I, A6, I, J⟩ (AP.any [⟨3, [], 25, .us 3 1 (bx.map rI)⟩, ⟨7, [], 29, .us 3 1 (bz.map rI)⟩, ⟨9, [], 5, .box 32 3 (W0)⟩, ⟨8, [3, 7], 30, .fn fun l => match l with | [.v ae, .v af] => .agg [.v ae, .v af, .N] | _ => .tup []⟩] I ⟨⟨_, I, I, I, fun _ => Dg (sz := 1) I I I I I I I I I I cp cq (Mi (f := rI) cr I) dS fun v => ⟨_, I, ⟨v, I⟩, I⟩⟩, ⟨_, I, I, I, fun _ => Dg (sz := 1) I I I I I I I I I I ct cu (Mi (f := rI) cv I) dS fun v => ⟨_, I, ⟨v, I⟩, I⟩⟩, ⟨_, I, I, I, fun _ => B0 W0 3 fun b => ⟨_, I, ⟨b, I⟩, I⟩⟩, ⟨_, I, I, I, fun ae b1 af b4 _ => Ba (qY (Bi (l := [.v ae, .v af, .N]) Iz (Ce I I (Bz b1) I (Ce I I (Bz b4) I (Fr))))) dS ⟨_, I, I, nb⟩⟩, J⟩ ?_))
 intro ae b1 af b4 cw
 exact AP.same 30 (.agg [.v ae, .v af, .N]) I (qG [5] I I I (By 5 0 0 [[.v ae, .v af, .N]] I (Ar (qE (lg ⟨(bx, bz), cw, ae, af, h, I2⟩ N6)))))
 rintro s ob ⟨S, w, a, c, h, rfl, rfl⟩
 unfold Qu.J1 at h
 refine Ak (fun s ob => ∃ (p : Li × Int × (List Bool)) (g : Value), Qu.J2 j S p = some r ∧ s = [] ∧ ob = [O2 i [[Q0 p.1, .V p.2.1]], O0 G [Ab j], O1 D [W0], U0 a S.1, U0 c S.2, O1 w [[.v a, .v c, .v g]], U3 g p.2.2]) (K4 0 3 4 5) J4 ?_ ?_
 refine Ai I (qH (qL (Ay 4 1) ?_))
 obtain ⟨fi, cx, cy⟩ := Ad h
 refine Dm cx (K4 0 3 4 5) J4 (fun (Y : Li × Int × (List Bool) × Int) s ob => ∃ (a4 : Value), s = [(6, .V Y.2.2.2)] ∧ ob = [O2 i [[Q0 Y.1, .V Y.2.1]], O0 G [Ab j], O1 D [W0], U0 a S.1, U0 c S.2, O1 w [[.v a, .v c, .v a4]], U3 a4 Y.2.2.1]) ⟨nS, I2⟩ ⟨I, J⟩ (pk N7) ?_
 rintro Y fj s ob ⟨a4, rfl, rfl⟩ h cz
 refine Ac fun fk c1 => Bk [.o 2 1, .l 3 (j.Stations.length : Int)] I ⟨A6, I, J⟩ (Av h I ?_ ?_)
 intro c2 h
 refine qI ?_
 subst c1
 refine qJ (qH ?_)
 obtain ⟨c3, c4, h⟩ := Ad h
 obtain ⟨fl, c5, h⟩ := Ad h
 refine Bv (sl 3 0 (.act 3 (.still 4 (.act 5 (.act 6 (.still 7 (.drop 8 .nil))))))) [5] [_] I (Cf 3 [.o 1 0] I J1 (qG [0] I I I (A7 [0] (Ch i _ _ _ c4) ?_)))
 refine A9 1 I (qG [] I I I (qO 1 (([(c3.1 == 0)] : List Bool).map rB) (qG [6] I I I (qU 6 I c5 fun b5 => A9 1 I (rC 6 I fun c6 => qX [5] I I I (qT 5 0 2 (es' := [[.v a, .v c, .v b5]]) I I I I I I (Bz c6) I (Be I) I I (Ar (qE (qD (Af 3 I ?_))))))))))
 cases io h
 exact qE ⟨_, _, _, I, ⟨b5, I2⟩, J5, pk N7⟩
 intro c2 h
 obtain rfl := cz _ (oi h).symm
 have h := cy
 exact qM (lg ⟨(Y.1, Y.2.1, Y.2.2.1), a4, h, I2⟩ N7)
 rintro s ob ⟨p, g, h, rfl, rfl⟩
 refine Ac fun fm c7 => ?_
 obtain ⟨c8, c9, h⟩ := Ad h
 refine qD (Af 1 I (qF [0] I (A7 [0] (Ch i _ _ _ c9) ?_)))
 refine Af 2 I (qE ?_)
 subst c7
 refine Ak (fun s ob => ∃ (u : Li × Int × Li × Li), Qu.J3 p c8 u = some r ∧ s = [] ∧ ob = [O2 i [[Q0 u.1, .V u.2.1]], O1 D [W0], U0 a u.2.2.1, U0 c u.2.2.2, O1 w [[.v a, .v c, .v g]], U3 g p.2.2]) (K3 4 5 7) J3 ?_ ?_
 refine Ac fun fo da => ?_
 obtain ⟨fp, db, h⟩ := Ad h
 refine qD (Af 1 I (qF [0] I (A7 [0] (Ch i _ _ _ db) ?_)))
 refine Af 1 I (qE ?_)
 subst da
 refine qH ?_
 obtain ⟨fq, dc, dd⟩ := Ad h
 refine Dm dc (K5 0 3 4 5 7) J5 (fun (e : Li × Int × Li × Li × Int) s ob => s = [(8, .V e.2.2.2.2)] ∧ ob = [O2 i [[Q0 e.1, .V e.2.1]], O0 G [Ab j], O1 D [W0], U0 a e.2.2.1, U0 c e.2.2.2.1, O1 w [[.v a, .v c, .v g]], U3 g p.2.2]) ⟨I, I⟩ ⟨I, J⟩ (pk N7) ?_
 rintro e a5 s ob ⟨rfl, rfl⟩ h de
 refine Ac fun fr df => Ai I (Av h I ?_ ?_)
 intro dg h
 refine qI ?_
 subst df
 refine Ak (fun s ob => ∃ (al : Li × Int × Li × Li), Qu.J5 e al = some a5 ∧ s = [] ∧ ob = [O2 i [[Q0 al.1, .V al.2.1]], O0 G [Ab j], O1 D [W0], U0 a al.2.2.1, U0 c al.2.2.2, O1 w [[.v a, .v c, .v g]], U3 g p.2.2]) (K6 0 3 4 5 7 8) J6 ?_ ?_
 refine qH (Ac fun fs dh => ?_)
 obtain ⟨bf, di, h⟩ := Ad h
 refine qD (Ao 4 [.o 2 1, .l 3 (j.Ports.length : Int)] I ⟨A6, I, J⟩ (qF [0] I (A7 [0] (Ch i _ _ _ di) ?_)))
 refine Af 1 I (qE ?_)
 subst dh
 refine Ac fun ft dj => ?_
 obtain ⟨bg, ⟨dk, dl⟩, h⟩ := Bc h
 obtain ⟨fu, dm, h⟩ := Ad h
 obtain ⟨A, dn, h⟩ := Ad h
 refine Bv (pd 13 0 [8, 9, 10]) [1] [_] I (Cf 8 [.o 1 0, .x 3 bg.1 (Bn bg.2)] I ⟨⟨dk, Ae dl⟩, I, J⟩ (qG [] I I I (qO 1 (([1, 5, 30, 300] : Li).map rI) (qG [0] I I I (A7 [0] (An i _ _ _ dm) ?_)))))
 refine qG [0] I I I (A7 [0] (E3 i _ _ _ _ dn) ?_)
 refine A9 2 I (Ar (qE ?_))
 subst dj
 refine Ac fun fv dp => Ak (fun s ob => ∃ (bh : Bool), Qu.J6 j e bf bg A bh = some a5 ∧ s = [(86, .v (.bool bh))] ∧ ob = [O2 i [Bs A.2], O0 G [Ab j], O1 D [W0], U0 a e.2.2.1, U0 c e.2.2.2.1, O1 w [[.v a, .v c, .v g]], U3 g p.2.2]) (K9 0 3 4 5 7 8 9 10 11) J9 ?_ ?_
 obtain ⟨Z, ⟨b6, a6⟩, h⟩ := Bc h
 refine qD (Ao 3 [.o 1 5] I J1 (qN (Bb 4 (m := Z.1) I I I I I I I b6 (Ae a6)) I (qN (Ax 4 Z.1 0 I I I (Ae a6) I (y := .V Z.2) I) I (Af 2 I ?_))))
 rcases bt (decide (Z.2 < 0)) with ay | ay
 have h := Cb ay h
 exact Ah 77 I ay (Af 9 I (qE (lg ⟨true, h, I2⟩ N7)))
 have h := Cc ay h
 exact Ah 77 I ay (Ao 3 [.o 1 5] I J1 (Bj I I I (qN (Bb 4 (m := Z.1) I I I I I I I b6 (Ae a6)) I (Bj I I I (qN (Ax 4 Z.1 0 I I I (Ae a6) I (y := .V Z.2) I) I (Af 4 I (qE (lg ⟨decide ((wr (Z.2 + A.1)) > 1000), h, I2⟩ N7))))))))
 rintro s ob ⟨bh, h, rfl, rfl⟩
 refine Av h I ?_ ?_
 intro dq h
 exact qM (lg ⟨(A.2.L_, A.2.At, e.2.2.1, e.2.2.2.1), h, I2⟩ N7)
 intro dq h
 refine qI ?_
 subst dp
 refine Ai I (Ai I (Ak (fun s ob => ∃ (E : Li × Int × Li × Int) (am : Value), Qu.J7 j e bf A E = some a5 ∧ s = [(12, .v am), (13, .V E.2.2.2)] ∧ ob = [O2 i [[Q0 E.1, .V E.2.1]], O0 G [Ab j], O1 D [W0], U0 a e.2.2.1, U0 c e.2.2.2.1, O1 w [[.v a, .v c, .v g]], U3 g p.2.2, U0 am E.2.2.1]) (K8 0 3 4 5 7 8 9 11) J8 ?_ ?_))
 refine qH (qL (Ay 3 1) ?_)
 obtain ⟨fw, dr, bi⟩ := Ad h
 refine Dm dr (K8 0 3 4 5 7 8 9 11) J8 (fun (n : Li × Int × Int × Li × Int) s ob => ∃ (M : Value), s = [(10, .V n.2.2.1), (12, .v M), (13, .V n.2.2.2.2)] ∧ ob = [O2 i [[Q0 n.1, .V n.2.1]], O0 G [Ab j], O1 D [W0], U0 a e.2.2.1, U0 c e.2.2.2.1, O1 w [[.v a, .v c, .v g]], U3 g p.2.2, U0 M n.2.2.2.1]) ⟨nS, I2⟩ ⟨I, I, I, J⟩ (pk N8) ?_
 rintro n b7 s ob ⟨M, rfl, rfl⟩ h bj
 refine Ac fun fx ds => Ai I (Av h I ?_ ?_)
 intro du h
 refine qI ?_
 subst ds
 refine qH (Ak (fun s ob => ∃ (F : Li × Int × Int), Qu.J12 j e A n F = some b7 ∧ s = [(13, .V F.2.2)] ∧ ob = [O2 i [[Q0 F.1, .V F.2.1]], O0 G [Ab j], O1 D [W0], U0 a e.2.2.1, U0 c e.2.2.2.1, O1 w [[.v a, .v c, .v g]], U3 g p.2.2, U0 M n.2.2.2.1]) (pT 0 3 4 5 7 8 9 10 11 12) pE ?_ ?_)
 refine Bk [.o 1 1, .l 2 (j.Ports.length : Int)] I ⟨A6, I, J⟩ (qH (Cd 90 I fun dv => ?_))
 obtain ⟨fy, dw, dx⟩ := Ad h
 refine Cr dw [(0, _), (3, _), (4, _), (5, _), (7, _), (8, _), (9, _), (10, _), (11, _), (12, _), (90, _), (91, _)] pU (fun (ag : Nat) (P : Li × Int × Int) s ob => s = [(92, .V (ag : Int)), (13, .V P.2.2)] ∧ ob = [O2 i [[Q0 P.1, .V P.2.1]], O0 G [Ab j], O1 D [W0], U0 a e.2.2.1, U0 c e.2.2.2.1, O1 w [[.v a, .v c, .v g]], U3 g p.2.2, U0 M n.2.2.2.1]) ⟨I, I⟩ ⟨I, I, J⟩ (pk N8) ?_ ?_
 rintro ag bk P b8 s ob dy b9 ⟨rfl, rfl⟩ h
 unfold Qu.B17 at h
 have dz := Cm b9
 refine Ai I (Ac fun fz d0 => Bl I dz (qI ?_))
 subst d0
 refine Ak (fun s ob => ∃ (az : Li × Int × Int), Qu.J18 az = some b8 ∧ s = [(13, .V az.2.2)] ∧ ob = [O2 i [[Q0 az.1, .V az.2.1]], O0 G [Ab j], O1 D [W0], U0 a e.2.2.1, U0 c e.2.2.2.1, O1 w [[.v a, .v c, .v g]], U3 g p.2.2, U0 M n.2.2.2.1]) [(0, _), (3, _), (4, _), (5, _), (7, _), (8, _), (9, _), (10, _), (11, _), (12, _), (90, _), (91, _), (92, _)] mY ?_ ?_
 refine qH (Ac fun f0 d1 => qD (Ao 3 [.x 1 ag (Bn bk)] I ⟨⟨I, Ae dy⟩, J⟩ (qF [] I (B0 W4 3 fun f1 => Af 1 I (qF [8] I (By 8 0 0 [Bn bk] I (qE ?_)))))))
 subst d1
 refine Ak (fun s ob => ∃ (U : Li × Int × Bool), Qu.J19 ag P U = some b8 ∧ s = [(133, .v (.bool U.2.2))] ∧ ob = [O2 i [[Q0 U.1, .V U.2.1]], O0 G [Ab j], O1 D [W0], U0 a e.2.2.1, U0 c e.2.2.2.1, O1 w [[.v a, .v c, .v g]], U3 g p.2.2, U0 M n.2.2.2.1]) [(0, _), (3, _), (4, _), (5, _), (7, _), (8, _), (9, _), (10, _), (11, _), (12, _), (13, _), (14, _), (90, _), (91, _), (92, _)] pQ ?_ ?_
 rcases bt ((bk.Node == n.2.2.1)) with W | W
 have h := Cb W h
 rcases bt (((ag : Int) != bf.1)) with aa | aa
 have h := Cb aa h
 obtain ⟨B, ⟨ah, O⟩, h⟩ := Bc h
 rcases bt (decide (B.2 ≤ 0)) with ai | ai
 have h := Cb ai h
 rcases bt (decide ((wr (B.2 - A.1)) ≥ (-1000))) with an | an
 have h := Cb an h
 rcases bt (decide ((n.2.2.2.1.length : Int) > 0)) with a0 | a0
 have h := Cb a0 h
 obtain ⟨bl, d2, h⟩ := Ad h
 refine qD (Ao 5 [.o 1 8] I J1 (Ah 101 I W (Af 5 I (Ah 106 I aa (Ao 3 [.o 1 5] I J1 (Bj I I I (qN (Bb 4 (m := B.1) I I I I I I I ah (Ae O)) I (Bj I I I (qN (Ax 4 B.1 0 I I I (Ae O) I (y := .V B.2) I) I (Af 3 I (Ah 114 I ai (Ao 3 [.o 1 5] I J1 ?_))))))))))))
 refine Bj I I I (qN (Bb 4 (m := B.1) I I I I I I I ah (Ae O)) I (Bj I I I (qN (Ax 4 B.1 0 I I I (Ae O) I (y := .V B.2) I) I (Af 5 I (Ah 124 I an (Af 1 I (Bj I I I (qN (Bu 7 I I I I) I (Af 3 I (Ah 129 I a0 (Af 1 I (Bj I I I ?_))))))))))))
 refine qF [0] I (A7 [0] (Ch i _ _ _ d2) ?_)
 exact Af 2 I (qE (lg ⟨(bl.2.L_, bl.2.At, (bl.1 == 0)), h, I2⟩ N8))
 have h := Cc a0 h
 refine qD (Ao 5 [.o 1 8] I J1 (Ah 101 I W (Af 5 I (Ah 106 I aa (Ao 3 [.o 1 5] I J1 (Bj I I I (qN (Bb 4 (m := B.1) I I I I I I I ah (Ae O)) I (Bj I I I (qN (Ax 4 B.1 0 I I I (Ae O) I (y := .V B.2) I) I (Af 3 I (Ah 114 I ai (Ao 3 [.o 1 5] I J1 ?_))))))))))))
 refine Bj I I I (qN (Bb 4 (m := B.1) I I I I I I I ah (Ae O)) I (Bj I I I (qN (Ax 4 B.1 0 I I I (Ae O) I (y := .V B.2) I) I (Af 5 I (Ah 124 I an (Af 1 I (Bj I I I (qN (Bu 7 I I I I) I (Af 3 I (Ah 129 I a0 (Af 4 I (qE ?_))))))))))))
 rotate_left
 have h := Cc an h
 refine qD (Ao 5 [.o 1 8] I J1 (Ah 101 I W (Af 5 I (Ah 106 I aa (Ao 3 [.o 1 5] I J1 (Bj I I I (qN (Bb 4 (m := B.1) I I I I I I I ah (Ae O)) I (Bj I I I (qN (Ax 4 B.1 0 I I I (Ae O) I (y := .V B.2) I) I (Af 3 I (Ah 114 I ai (Ao 3 [.o 1 5] I J1 ?_))))))))))))
 refine Bj I I I (qN (Bb 4 (m := B.1) I I I I I I I ah (Ae O)) I (Bj I I I (qN (Ax 4 B.1 0 I I I (Ae O) I (y := .V B.2) I) I (Af 5 I (Ah 124 I an (Af 9 I (qE ?_)))))))
 rotate_left
 have h := Cc ai h
 refine qD (Ao 5 [.o 1 8] I J1 (Ah 101 I W (Af 5 I (Ah 106 I aa (Ao 3 [.o 1 5] I J1 (Bj I I I (qN (Bb 4 (m := B.1) I I I I I I I ah (Ae O)) I (Bj I I I (qN (Ax 4 B.1 0 I I I (Ae O) I (y := .V B.2) I) I (Af 3 I (Ah 114 I ai (Af 19 I ?_))))))))))))
 refine qE ?_
 rotate_left
 have h := Cc aa h
 refine qD (Ao 5 [.o 1 8] I J1 (Ah 101 I W (Af 5 I (Ah 106 I aa (Af 27 I (qE ?_))))))
 rotate_left
 have h := Cc W h
 refine qD (Ao 5 [.o 1 8] I J1 (Ah 101 I W (Af 32 I (qE ?_))))
 any_goals
  exact lg ⟨(P.1, P.2.1, false), h, I2⟩ N8
 rintro s ob ⟨U, h, rfl, rfl⟩
 refine Av h I ?_ ?_
 intro d3 h
 exact Uz I (lg ⟨(U.1, U.2.1, (ag : Int)), h, I2⟩ N8)
 intro d3 h
 exact qI (lg ⟨(U.1, U.2.1, P.2.2), h, I2⟩ N8)
 rintro s ob ⟨az, h, rfl, rfl⟩
 unfold Qu.J18 at h
 refine qD (Ao 2 [.k 0 (ag + 1 : Nat)] I ⟨Az b9 dv, J⟩ ?_)
 cases io h
 exact qE (lg I2 N8)
 rintro P s ob ⟨rfl, rfl⟩ he
 subst he
 have h := dx
 have d4 := Cn j.Ports.length
 exact Ai I (Ac fun f2 f3 => Bm I d4 (qM (lg ⟨(P.1, P.2.1, P.2.2), h, I2⟩ N8)))
 rintro s ob ⟨F, h, rfl, rfl⟩
 refine Ac fun f4 d5 => Ai I (Av h I ?_ ?_)
 intro d6 h
 obtain rfl := bj _ (oi h).symm
 have h := bi
 exact qM (lg ⟨(F.1, F.2.1, n.2.2.2.1, F.2.2), M, h, I2⟩ N8)
 intro d6 h
 refine qI ?_
 subst d5
 refine Ai I (Ak (fun s ob => ∃ (bm : Li) (bn : Value), Qu.J13 j n F bm = some b7 ∧ s = [(16, .v bn)] ∧ ob = [O2 i [[Q0 F.1, .V F.2.1]], O0 G [Ab j], O1 D [W0], U0 a e.2.2.1, U0 c e.2.2.2.1, O1 w [[.v a, .v c, .v g]], U3 g p.2.2, U0 M n.2.2.2.1, U0 bn bm]) [(0, _), (3, _), (4, _), (5, _), (7, _), (8, _), (9, _), (10, _), (11, _), (12, _), (13, _)] nN ?_ ?_)
 refine Bk [.o 1 1, .l 2 (j.Segments.length : Int)] I ⟨A6, I, J⟩ (qH (Cd 139 I fun d7 => qL (Ay 3 1) ?_))
 obtain ⟨f5, d8, d9⟩ := Ad h
 refine Cr d8 [(0, _), (3, _), (4, _), (5, _), (7, _), (8, _), (9, _), (10, _), (11, _), (12, _), (13, _), (139, _), (140, _)] mY (fun (ao : Nat) (aj : Li) s ob => ∃ (ak : Value), s = [(141, .V (ao : Int)), (16, .v ak)] ∧ ob = [O2 i [[Q0 F.1, .V F.2.1]], O0 G [Ab j], O1 D [W0], U0 a e.2.2.1, U0 c e.2.2.2.1, O1 w [[.v a, .v c, .v g]], U3 g p.2.2, U0 M n.2.2.2.1, U0 ak aj]) ⟨nS, I2⟩ ⟨I, I, J⟩ (pk N9) ?_ ?_
 rintro ao Q aj ca s ob ea cb ⟨ak, rfl, rfl⟩ h
 unfold Qu.B14 at h
 have eb := Cm cb
 refine Ai I (Ac fun f6 ec => Bl I eb (qI ?_))
 subst ec
 refine Ak (fun s ob => ∃ (bo : Li) (a7 : Value), Qu.J15 bo = some ca ∧ s = [(16, .v a7)] ∧ ob = [O2 i [[Q0 F.1, .V F.2.1]], O0 G [Ab j], O1 D [W0], U0 a e.2.2.1, U0 c e.2.2.2.1, O1 w [[.v a, .v c, .v g]], U3 g p.2.2, U0 M n.2.2.2.1, U0 a7 bo]) [(0, _), (3, _), (4, _), (5, _), (7, _), (8, _), (9, _), (10, _), (11, _), (12, _), (13, _), (139, _), (140, _), (141, _)] mX ?_ ?_
 refine qH (Ac fun f7 ed => qD (Ao 3 [.x 1 ao (Au Q)] I ⟨⟨I, Ae ea⟩, J⟩ (qF [] I (B0 W1 7 fun f8 => Af 1 I (qF [9] I (By 9 0 0 [Au Q] I (qE ?_)))))))
 subst ed
 refine Ak (fun s ob => ∃ (bp : Bool), Qu.J16 ao aj bp = some ca ∧ s = [(180, .v (.bool bp))] ∧ ob = [O2 i [[Q0 F.1, .V F.2.1]], O0 G [Ab j], O1 D [W0], U0 a e.2.2.1, U0 c e.2.2.2.1, O1 w [[.v a, .v c, .v g]], U3 g p.2.2, U0 M n.2.2.2.1, U0 ak aj]) [(0, _), (3, _), (4, _), (5, _), (7, _), (8, _), (9, _), (10, _), (11, _), (12, _), (13, _), (16, _), (17, _), (139, _), (140, _), (141, _)] ⟨I, I, I, I, I, I, I, I, I, I, I, I, I, I, I, I, J⟩ ?_ ?_
 rcases bt ((Q.From == n.2.2.1)) with ab | ab
 have h := Cb ab h
 rcases bt (decide ((wr ((wr (Q.From + Q.To)) - n.2.2.1)) > n.2.2.1)) with a1 | a1
 have h := Cb a1 h
 obtain ⟨aq, ⟨ee, bq⟩, h⟩ := Bc h
 refine Cl 3 aq.1 I bq fun ef => Bv Wp [9, 5, 3] [_, _, _] I (Cf 5 [.o 1 0] I J1 (A8 150 I ab (Cf 17 [.o 7 0, .o 9 0] I J2 (A8 167 I a1 (Cf 3 [.o 1 1] I J1 (Dl I I I I ((A3 (m := aq.1) I I I I I ef I ee bq).yd) dS (Dl I I I I (Ax 2 aq.1 0 I I I (Ae bq) I (y := .V aq.2) I) dS (Cf 4 [.o 2 0] I J1 (I4 I (Uh aq.2 _ I) (A9 3 I (Ar ?_)))))))))))
 exact qE (lg ⟨decide ((wr ((Ij aq.2) + A.1)) ≤ (min 1000 Q.Capacity)), h, I2⟩ N9)
 have h := Cc a1 h
 exact Bv Wp [9] [_] I (Cf 5 [.o 1 0] I J1 (A8 150 I ab (Cf 17 [.o 7 0, .o 9 0] I J2 (A8 167 I a1 (A9 13 I (Ar (qE (lg ⟨false, h, I2⟩ N9))))))))
 have h := Cc ab h
 rcases bt ((Q.To == n.2.2.1)) with ar | ar
 have h := Cb ar h
 rcases bt (decide ((wr ((wr (Q.From + Q.To)) - n.2.2.1)) > n.2.2.1)) with a2 | a2
 have h := Cb a2 h
 obtain ⟨au, ⟨eg, br⟩, h⟩ := Bc h
 refine Cl 3 au.1 I br fun eh => Bv Wp [9, 5, 3] [_, _, _] I (Cf 5 [.o 1 0] I J1 (A8 150 I ab (Cf 6 [.o 1 0] I J1 (A8 156 I ar (Cf 11 [.o 1 0, .o 3 0] I J2 (A8 167 I a2 (Cf 3 [.o 1 1] I J1 (Dl I I I I ((A3 (m := au.1) I I I I I eh I eg br).yd) dS (Dl I I I I (Ax 2 au.1 0 I I I (Ae br) I (y := .V au.2) I) dS (Cf 4 [.o 2 0] I J1 (I4 I (Uh au.2 _ I) ?_)))))))))))
 exact A9 3 I (Ar (qE (lg ⟨decide ((wr ((Ij au.2) + A.1)) ≤ (min 1000 Q.Capacity)), h, I2⟩ N9)))
 have h := Cc a2 h
 exact Bv Wp [9] [_] I (Cf 5 [.o 1 0] I J1 (A8 150 I ab (Cf 6 [.o 1 0] I J1 (A8 156 I ar (Cf 11 [.o 1 0, .o 3 0] I J2 (A8 167 I a2 (A9 13 I (Ar (qE (lg ⟨false, h, I2⟩ N9))))))))))
 have h := Cc ar h
 exact Bv Wp [9] [_] I (Cf 5 [.o 1 0] I J1 (A8 150 I ab (Cf 6 [.o 1 0] I J1 (A8 156 I ar (A9 24 I (Ar (qE (lg ⟨false, h, I2⟩ N9))))))))
 rintro s ob ⟨bp, h, rfl, rfl⟩
 refine Av h I ?_ ?_
 intro ei h
 obtain ⟨ej, ek, h⟩ := Ad h
 exact qD (Af 2 I (qF [] I (qO 1 (([(ao : Int)] : Li).map rI) (qF [8] I (qU 8 I ek fun el => Af 1 I (qE (lg ⟨ej, el, h, I2⟩ N9)))))))
 intro ei h
 exact qI (lg ⟨aj, ak, h, I2⟩ N9)
 rintro s ob ⟨bo, a7, h, rfl, rfl⟩
 unfold Qu.J15 at h
 refine qD (Ao 2 [.k 0 (ao + 1 : Nat)] I ⟨Az cb d7, J⟩ ?_)
 cases io h
 exact qE (lg ⟨a7, I2⟩ N9)
 rintro aj s ob ⟨ak, rfl, rfl⟩ he
 subst he
 have h := d9
 have em := Cn j.Segments.length
 exact Ai I (Ac fun f9 ga => Bm I em (qM (lg ⟨aj, ak, h, I2⟩ N9)))
 rintro s ob ⟨bm, bn, h, rfl, rfl⟩
 refine Ac fun gb en => qJ (qD (Af 1 I (qN (Bu 8 I I I I) I (Af 1 I (qE (Av h I ?_ ?_))))))
 intro eo h
 obtain rfl := bj _ (oi h).symm
 have h := bi
 exact qM (lg ⟨(F.1, F.2.1, n.2.2.2.1, F.2.2), M, h, I2⟩ N8)
 intro eo h
 refine qI ?_
 subst en
 refine Ac fun gc ep => ?_
 obtain ⟨gd, eq, h⟩ := Ad h
 obtain ⟨a8, ⟨er, cc⟩, h⟩ := Bc h
 refine qD (Af 3 I (qN (Bu 8 I I I I) I (qF [0] I (A7 [0] (Ch i _ _ _ eq) ?_))))
 refine qN (Bb 8 (m := a8.1) I I I I I I I er (Ae cc)) I (qN (Ax 8 a8.1 0 I I I (Ae cc) I (y := .V a8.2) I) I (Af 1 I (qE ?_)))
 subst ep
 refine Ac fun ge es => ?_
 obtain ⟨gf, et, h⟩ := Ad h
 refine qD (Af 2 I (qF [] I (qO 1 (([a8.2] : Li).map rI) (qF [7] I (qU 7 I et fun eu => Af 1 I (qE ?_))))))
 subst es
 obtain ⟨a9, ⟨cd, ce⟩, h⟩ := Bc h
 refine Bv (pd 16 0 []) [1] [_] I (Cf 16 [.o 1 0, .x 3 a9.1 (Au a9.2), .o 7 0, .x 9 a9.1 (Au a9.2)] I ⟨⟨cd, Ae ce⟩, I, ⟨cd, Ae ce⟩, I, J⟩ (Ar ?_))
 cases io h
 exact qE ⟨_, _, _, I, ⟨eu, I2⟩, nN, pk N8⟩
 intro du h
 obtain rfl := bj _ (oi h).symm
 have h := bi
 exact qM (lg ⟨(n.1, n.2.1, n.2.2.2.1, n.2.2.2.2), M, h, I2⟩ N8)
 rintro s ob ⟨E, am, h, rfl, rfl⟩
 refine Ac fun gg ev => Ai I (Av h I ?_ ?_)
 intro ew h
 exact qM (lg ⟨(E.1, E.2.1, e.2.2.1, e.2.2.2.1), h, I2⟩ N7)
 intro ew h
 refine qI ?_
 subst ev
 refine Ak (fun s ob => ∃ (av : Li), Qu.J8 j e A E av = some a5 ∧ s = [] ∧ ob = [O2 i [[Q0 E.1, .V E.2.1]], O0 G [Ab j], O1 D [W0], U0 a e.2.2.1, U0 c av, O1 w [[.v a, .v c, .v g]], U3 g p.2.2, U0 am E.2.2.1]) (K8 0 3 4 5 7 8 11 12) J8 ?_ ?_
 obtain ⟨H, ⟨bs, X⟩, h⟩ := Bc h
 obtain ⟨R, ⟨ex, ba⟩, h⟩ := Bc h
 obtain ⟨aw, ⟨cf, bb⟩, h⟩ := Bc h
 refine Cl 4 H.1 I X fun ey => Cl 4 R.1 I ba fun ez => Cl 4 H.1 I X fun cg => Bv (sl 10 0 (.still 11 (sl 4 13 (.still 18 (.two 10 17 (.still 12 (.act 17 (.still 19 nE))) (.still 19 (.act 10 (.still 12 nE)))))))) [5] [_] I (Cf 9 [.o 1 0, .o 4 0, .o 7 0] I J3 (qV I (A3 (m := H.1) I I I I I ey I bs X) I (Cf 4 [.o 2 0] I J1 (qV I (A3 (m := R.1) I I I I I ez I ex ba) I (A9 1 I (qW ?_ ?_))))))
 exact qG [] I I I (Ba (Ax 4 H.1 0 I I I (Ae X) I (y := .V H.2) I) dS (A9 1 I (qG [] I I I (Ba (Ax 4 R.1 0 I I I (Ae ba) I (y := .V R.2) I) dS (A9 1 I (qV I (A3 (m := H.1) I I I I I cg I bs X) I (qG [4] I I I (Bh 4 H.1 0 I I I (Ae X) I I I I (Be I) I (Cj (x := wr (H.2 + A.1)) I) (qG [] I I I (Ba (Bb 4 (m := aw.1) I I I I I I I cf (Ae bb)) dS (qG [4] I I I (Bh 4 aw.1 0 I I I (Ae bb) I I I I (Be I) I (Cj (x := wr (R.2 - A.1)) I) (Ar (qE (lg ⟨((e.2.2.2.1.set H.1 (wr (H.2 + A.1))).set aw.1 (wr (R.2 - A.1))), h, I2⟩ N8)))))))))))))))
 exact qG [] I I I (Ba (Ax 4 R.1 0 I I I (Ae ba) I (y := .V R.2) I) dS (A9 1 I (qG [] I I I (Ba (Ax 4 H.1 0 I I I (Ae X) I (y := .V H.2) I) dS (A9 1 I (qV I (A3 (m := H.1) I I I I I cg I bs X) I (qG [4] I I I (Bh 4 H.1 0 I I I (Ae X) I I I I (Be I) I (Cj (x := wr (H.2 + A.1)) I) (qG [] I I I (Ba (Bb 4 (m := aw.1) I I I I I I I cf (Ae bb)) dS (qG [4] I I I (Bh 4 aw.1 0 I I I (Ae bb) I I I I (Be I) I (Cj (x := wr (R.2 - A.1)) I) (Ar (qE (lg ⟨((e.2.2.2.1.set H.1 (wr (H.2 + A.1))).set aw.1 (wr (R.2 - A.1))), h, I2⟩ N8)))))))))))))))
 rintro s ob ⟨av, h, rfl, rfl⟩
 refine Ac fun gh e0 => qD (Af 1 I (qN (Bu 7 I I I I) I (Af 1 I (qE ?_))))
 subst e0
 refine qH (Gq 7 I fun e1 => ?_)
 obtain ⟨gi, e2, e3⟩ := Ad h
 refine D8 e2 (K9 0 3 4 5 7 8 11 239 240) J9 (fun (bu : Nat) (ax : Li) s ob => s = [(241, .V (bu : Int))] ∧ ob = [O2 i [[Q0 E.1, .V E.2.1]], O0 G [Ab j], O1 D [W0], U0 a ax, U0 c av, O1 w [[.v a, .v c, .v g]], U3 g p.2.2, U0 am E.2.2.1]) ⟨I, I⟩ ⟨I, J⟩ (pk N8) ?_ ?_
 rintro bu ax e4 s ob ci ⟨rfl, rfl⟩ h
 unfold Qu.B9 at h
 have e5 := Cm ci
 refine Ai I (Ac fun gj e6 => Bl I e5 (qI ?_))
 subst e6
 refine Ak (fun s ob => ∃ (bv : Li), Qu.J10 bv = some e4 ∧ s = [] ∧ ob = [O2 i [[Q0 E.1, .V E.2.1]], O0 G [Ab j], O1 D [W0], U0 a bv, U0 c av, O1 w [[.v a, .v c, .v g]], U3 g p.2.2, U0 am E.2.2.1]) (pT 0 3 4 5 7 8 11 239 240 241) pE ?_ ?_
 refine qH (Ac fun gk e7 => ?_)
 obtain ⟨bw, ⟨e8, cj⟩, h⟩ := Bc h
 refine qD (qN (Bb 7 (m := bw.1) I I I I I I I e8 (Ae cj)) I (qN (Ax 7 bw.1 0 I I I (Ae cj) I (y := .V bw.2) I) I (Af 1 I (qE ?_))))
 subst e7
 refine Ac fun gl e9 => ?_
 obtain ⟨bc, ⟨ck, cl⟩, h⟩ := Bc h
 refine Zw (pd 13 0 []) [1] [_] [.o 1 0, .x 3 bc.1 (Au bc.2), .o 7 0, .x 9 bc.1 (Au bc.2)] I I ⟨⟨ck, Ae cl⟩, I, ⟨ck, Ae cl⟩, I, J⟩ ?_
 subst e9
 refine Av h I ?_ ?_
 intro fa h
 obtain ⟨ac, ⟨cm, bd⟩, h⟩ := Bc h
 exact qD (Ao 3 [.o 1 5] I J1 (qN (Bb 3 (m := ac.1) I I I I I I I cm (Ae bd)) I (qN (Ax 3 ac.1 0 I I I (Ae bd) I (y := .V ac.2) I) I (Af 2 I (qN (Bb 3 (m := ac.1) I I I I I I I cm (Ae bd)) I (qF [3] I (Bh 3 ac.1 0 I I I (Ae bd) I I I I (Be I) I (Cj (x := wr (ac.2 + A.1)) I) (qE (lg ⟨(ax.set ac.1 (wr (ac.2 + A.1))), h, I2⟩ N8)))))))))
 intro fa h
 obtain ⟨ad, ⟨cn, be⟩, h⟩ := Bc h
 exact qD (Ao 3 [.o 1 5] I J1 (qN (Bb 3 (m := ad.1) I I I I I I I cn (Ae be)) I (qN (Ax 3 ad.1 0 I I I (Ae be) I (y := .V ad.2) I) I (Af 2 I (qN (Bb 3 (m := ad.1) I I I I I I I cn (Ae be)) I (qF [3] I (Bh 3 ad.1 0 I I I (Ae be) I I I I (Be I) I (Cj (x := wr (ad.2 - A.1)) I) (qE (lg ⟨(ax.set ad.1 (wr (ad.2 - A.1))), h, I2⟩ N8)))))))))
 rintro s ob ⟨bv, h, rfl, rfl⟩
 unfold Qu.J10 at h
 refine qD (Ao 2 [.k 0 (bu + 1 : Nat)] I ⟨Az ci e1, J⟩ ?_)
 cases io h
 exact qE (lg I2 N8)
 rintro ax s ob ⟨rfl, rfl⟩ he
 subst he
 have h := e3
 have fb := Cn E.2.2.1.length
 exact Ai I (Ac fun gm gn => Bm I fb (qM (lg ⟨(E.1, E.2.1, ax, av), h, I2⟩ N7)))
 rintro s ob ⟨al, h, rfl, rfl⟩
 unfold Qu.J5 at h
 refine qD (Af 3 I ?_)
 cases io h
 exact qE ⟨_, _, _, I, I2, J6, pk N7⟩
 intro dg h
 obtain rfl := de _ (oi h).symm
 have h := dd
 exact qM (lg ⟨(e.1, e.2.1, e.2.2.1, e.2.2.2.1), h, I2⟩ [0, 2, 3, 4, 5, 6])
 rintro s ob ⟨u, h, rfl, rfl⟩
 refine qJ (Ai I (Av h I ?_ ?_))
 intro fc h
 refine qJ ?_
 obtain ⟨fd, fe, h⟩ := Ad h
 refine qD (Ao 1 [.o 0 4] I J1 (qS (As [2, 3, 5] (K := [U0 a u.2.2.1, U0 c u.2.2.2, U3 g p.2.2]) I [(276, .agg [Q0 u.2.2.1, Q0 u.2.2.2, Q2 p.2.2])] ⟨⟨_, I, .agg (.cons (.us 0 I) (.cons (.us 1 I) (.cons (.us 2 I) (.rest _))))⟩, J⟩ (ob' := [O2 i [[Q0 u.1, .V u.2.1]], O1 D [W0], O1 w [[Q0 u.2.2.1, Q0 u.2.2.2, Q2 p.2.2]]]) (.cons (.same _) (.cons (.same _) (.cons (.arr (.cons (.us 0 I) (.cons (.us 1 I) (.cons (.us 2 I) (.rest _))))) (.rest _))))) (qF [] I (Bg I I I (dH _ _ fe) dS ?_))))
 rintro _ _ ⟨rfl, rfl⟩
 refine qF [1] I (By 1 0 0 [Aj fd] I (qE (Dd [0, 1] I ?_)))
 obtain rfl := oi h
 exact qK ⟨.inr I, [_], [O2 i [[Q0 u.1, .V u.2.1]]], ⟨⟨1, _, _, _, _, _, _, _, I5⟩, J⟩, Ca I (Cv), ⟨[O2 i [[Q0 u.1, .V u.2.1]]], [], I5⟩⟩
 intro fc h
 refine qI (qJ (qD (Ao 1 [.o 0 4] I J1 (qF [1] I (By 1 0 0 [[.v a, .v c, .v g]] I (qE (qL (As [2, 3, 5] (K := [U0 a u.2.2.1, U0 c u.2.2.2, U3 g p.2.2]) I [] J (ob' := [O2 i [[Q0 u.1, .V u.2.1]], O1 D [[Q0 u.2.2.1, Q0 u.2.2.2, Q2 p.2.2]], O1 w [[.v a, .v c, .v g]]]) (.cons (.same _) (.cons (.arr (.cons (.us 0 I) (.cons (.us 1 I) (.cons (.us 2 I) (.rest _))))) (.rest _)))) (Dd [0, 1] I ?_))))))))
 obtain rfl := oi h
 exact qK ⟨.inr I, [_], [O2 i [[Q0 u.1, .V u.2.1]]], ⟨⟨1, _, _, _, _, _, _, _, I5⟩, J⟩, Ca I (Cv), ⟨[O2 i [[Q0 u.1, .V u.2.1]]], [], I5⟩⟩
theorem eQ (b : Nw) (f : List (List Piece)) (e : Plan) (D : Li) (A : Int) (ad : Li) (r : Bool) (h : Vt b f e D A ad = some r) : ACalls Al 3 [.agg (Ab b), .list 1 (f.map (rL 2 Aa)), .agg (Aj e), Q0 D, .V A, Q0 ad] [] (RB r) := by
 refine Ag Tryz.func3 I I I fun C hC => ?_
 unfold Vt at h
 refine Ac fun y1 co => qD (qF [] I (Cp (Ab b) 6 fun R => qF [] I (Cp (Aj e) 3 fun i => Af 1 I (qE ?_))))
 subst co
 refine C6 (s' := [(1, .list 1 (f.map (rL 2 Aa))), (3, Q0 D), (4, .V A), (5, Q0 ad), (6, .P R), (8, .P i)]) (ob' := [O0 R [Ab b], O1 i [Aj e]]) ⟨J6, pk [0, 1]⟩ (Ac fun y4 cp => E9 82 (decide ((b.Nodes.length : Int) > 40) || (decide ((b.Segments.length : Int) > 50) || (decide ((f.length : Int) > 60) || (decide ((D.length : Int) > 60) || (decide ((e.Rates.length : Int) > 60) || (decide ((e.Ports.length : Int) > 60) || (decide (A > 8) && decide (A ≤ 400)))))))) ?_ ?_)
 refine qD (Ao 5 [.o 1 0, .l 2 (b.Nodes.length : Int)] I ⟨A6, I, J⟩ ?_)
 rcases bt (decide ((b.Nodes.length : Int) > 40)) with ac | ac
 exact Ah 47 I ac (Af 31 I (Cq I I dS (Cq I I dS (Af 2 I (qE (jf (by simp only [ac, bz]) I I I2))))))
 refine Ah 47 I ac (Ao 6 [.o 1 0, .l 2 (b.Segments.length : Int)] I ⟨A6, I, J⟩ ?_)
 rcases bt (decide ((b.Segments.length : Int) > 50)) with ae | ae
 exact Ah 53 I ae (Af 25 I (Cq I I dS (Cq I I dS (Af 2 I (qE (jf (by simp only [ac, ae, bz]) I I I2))))))
 refine Ah 53 I ae (Ao 5 [.l 1 (f.length : Int)] I ⟨A6, J⟩ ?_)
 rcases bt (decide ((f.length : Int) > 60)) with ag | ag
 exact Ah 58 I ag (Af 20 I (Cq I I dS (Cq I I dS (Af 2 I (qE (jf (by simp only [ac, ae, ag, bz]) I I I2))))))
 refine Ah 58 I ag (Ao 5 [.l 1 (D.length : Int)] I ⟨A6, J⟩ ?_)
 rcases bt (decide ((D.length : Int) > 60)) with al | al
 exact Ah 63 I al (Af 15 I (Cq I I dS (Cq I I dS (Af 2 I (qE (jf (by simp only [ac, ae, ag, al, bz]) I I I2))))))
 refine Ah 63 I al (Ao 6 [.o 1 1, .l 2 (e.Rates.length : Int)] I ⟨A6, I, J⟩ ?_)
 rcases bt (decide ((e.Rates.length : Int) > 60)) with ao | ao
 exact Ah 69 I ao (Af 9 I (Cq I I dS (Cq I I dS (Af 2 I (qE (jf (by simp only [ac, ae, ag, al, ao, bz]) I I I2))))))
 refine Ah 69 I ao (Ao 6 [.o 1 1, .l 2 (e.Ports.length : Int)] I ⟨A6, I, J⟩ ?_)
 rcases bt (decide ((e.Ports.length : Int) > 60)) with aw | aw
 exact Ah 75 I aw (Af 3 I (Cq I I dS (Cq I I dS (Af 2 I (qE (jf (by simp only [ac, ae, ag, al, ao, aw, bz]) I I I2))))))
 refine Ah 75 I aw (Af 3 I ?_)
 rcases bt (decide (A > 8)) with a1 | a1
 exact Ah 78 I a1 (Af 4 I (qE (jf (by simp only [ac, ae, ag, al, ao, aw, a1, bz]) I I I2)))
 exact Ah 78 I a1 (Af 4 I (qE (jf (by simp only [ac, ae, ag, al, ao, aw, a1, bz]) I I I2)))
 refine Av h I ?_ ?_
 intro cq h
 refine qJ ?_
 obtain ⟨fx, cr, h⟩ := Ad h
 refine qD (qR (Ow  _ cr) (Af 1 I (qE (qL g0 ?_))))
 cases io h
 exact qK pr
 intro cq h
 refine qI ?_
 subst cp
 refine C6 (s' := [(1, .list 1 (f.map (rL 2 Aa))), (3, Q0 D), (4, .V A), (5, Q0 ad), (6, .P R), (8, .P i)]) (ob' := [O0 R [Ab b], O1 i [Aj e]]) ⟨J6, pk [0, 1]⟩ (Ak (fun s ob => ∃ (bl : Unit), Vt.J1 b f e D A ad bl = some r ∧ s = [] ∧ ob = [O0 R [Ab b], O1 i [Aj e]]) (K6 1 3 4 5 6 8) J6 ?_ ?_)
 refine Bk [.l 1 (f.length : Int)] I ⟨A6, J⟩ (C6 (s' := [(1, .list 1 (f.map (rL 2 Aa))), (3, Q0 D), (4, .V A), (5, Q0 ad), (6, .P R), (8, .P i), (85, .V (f.length : Int)), (86, .V 0)]) (ob' := [O0 R [Ab b], O1 i [Aj e]]) ⟨J8, pk [0, 1]⟩ (qH (Cd 1 I fun ct => ?_)))
 obtain ⟨fy, cu, bm⟩ := Ad h
 refine Cg cu (K7 1 3 4 5 6 8 85) J7 (fun (ah : Nat) (bn : Unit) s ob => s = [(86, .V (ah : Int))] ∧ ob = [O0 R [Ab b], O1 i [Aj e]]) ⟨I, I⟩ ⟨I, J⟩ (pk [0, 1]) ?_ ?_
 rintro ah bo bn fz s ob cv bp ⟨rfl, rfl⟩ h cw
 have cx := Cm bp
 refine Ai I (C6 (s' := [(1, .list 1 (f.map (rL 2 Aa))), (3, Q0 D), (4, .V A), (5, Q0 ad), (6, .P R), (8, .P i), (85, .V (f.length : Int)), (86, .V (ah : Int)), (87, .v (.bool (decide ((ah : Int) < (f.length : Int)))))]) (ob' := [O0 R [Ab b], O1 i [Aj e]]) ⟨J9, pk [0, 1]⟩ (Ac fun f0 cy => Bl I cx (qI ?_)))
 subst cy
 refine C6 (s' := [(1, .list 1 (f.map (rL 2 Aa))), (3, Q0 D), (4, .V A), (5, Q0 ad), (6, .P R), (8, .P i), (85, .V (f.length : Int)), (86, .V (ah : Int))]) (ob' := [O0 R [Ab b], O1 i [Aj e]]) ⟨J8, pk [0, 1]⟩ (qJ (qH (Ai I (C6 (s' := [(1, .list 1 (f.map (rL 2 Aa))), (3, Q0 D), (4, .V A), (5, Q0 ad), (6, .P R), (8, .P i), (13, .V (ah : Int)), (85, .V (f.length : Int)), (86, .V (ah : Int))]) (ob' := [O0 R [Ab b], O1 i [Aj e]]) ⟨J9, pk [0, 1]⟩ (Bk [.x 2 ah ((rL 2 Aa) bo), .l 4 (bo.length : Int)] I ⟨A6, ⟨I, Ae cv⟩, J⟩ (Av h I ?_ ?_))))))
 intro cz h
 refine qJ ?_
 obtain ⟨f1, c1, h⟩ := Ad h
 refine qD (qR (Ow  _ c1) (Af 1 I (qE ?_)))
 obtain rfl := cw _ (oi h).symm
 have h := bm
 have h := Dj h
 refine qL g0 ?_
 cases io h
 exact qK pr
 intro cz h
 refine qI (qD (Ao 2 [.k 0 (ah + 1 : Nat)] I ⟨Az bp ct, J⟩ ?_))
 cases io h
 exact qE ⟨_, _, _, I, I2, J8, pk [0, 1]⟩
 rintro bn s ob ⟨rfl, rfl⟩ he
 subst he
 have h := Dp bm
 have c2 := Cn f.length
 exact Ai I (C6 (s' := [(1, .list 1 (f.map (rL 2 Aa))), (3, Q0 D), (4, .V A), (5, Q0 ad), (6, .P R), (8, .P i), (85, .V (f.length : Int)), (86, .V ((f.length : Nat) : Int)), (87, .v (.bool (decide (((f.length : Nat) : Int) < (f.length : Int)))))]) (ob' := [O0 R [Ab b], O1 i [Aj e]]) ⟨J9, pk [0, 1]⟩ (Ac fun f2 f3 => Bm I c2 (qM (lg ⟨(), h, I2⟩ [0, 1]))))
 rintro s ob ⟨bl, h, rfl, rfl⟩
 refine Ac fun f4 c3 => ?_
 obtain ⟨c4, c5, h⟩ := Ad h
 refine qD (Af 1 I (qF [] I (Bg I I I (dU _ _ c5) dS ?_)))
 rintro _ _ ⟨g, rfl, rfl⟩
 refine Af 1 I (qE ?_)
 subst c3
 refine C6 (s' := [(1, .list 1 (f.map (rL 2 Aa))), (3, Q0 D), (4, .V A), (6, .P R), (8, .P i), (14, .P g)]) (ob' := [O0 R [Ab b], O1 i [Aj e], O2 g [Bs c4]]) ⟨J6, pk N3⟩ (Ac fun f5 c6 => ?_)
 obtain ⟨n, c7, h⟩ := Ad h
 refine qD (Af 1 I (qF [2] I (A7 [2] (eF g _ _ c7) ?_)))
 refine qF [] I (B0 W3 6 fun ap => qF [3] I (By 3 0 0 [Ab n.1] I (qE ?_)))
 subst c6
 refine C6 (s' := [(1, .list 1 (f.map (rL 2 Aa))), (3, Q0 D), (4, .V A), (6, .P R), (8, .P i), (14, .P g), (15, .P ap)]) (ob' := [O0 R [Ab b], O1 i [Aj e], O2 g [Bs n.2], O0 ap [Ab n.1]]) ⟨J7, pk N4⟩ (Ak (fun s ob => ∃ (a : Li × Int × (List (List Piece)) × Li × Li × (List Bool) × Li) (aq : Value) (B : Nat) (ar : Value), Vt.J2 b f e D A n a = some r ∧ s = [(16, .v aq), (17, .P B), (18, .v ar)] ∧ ob = [O0 R [Ab b], O1 i [Aj e], O2 g [[Q0 a.1, .V a.2.1]], O0 ap [Ab n.1], .us aq 34 1 (a.2.2.1.map (rL 2 Aa)), U0 ar a.2.2.2.2.2.2, O1 B [[Q0 a.2.2.2.1, Q0 a.2.2.2.2.1, Q2 a.2.2.2.2.2.1]]]) (K7 1 3 4 6 8 14 15) J7 ?_ ?_)
 obtain ⟨a5, bq, h⟩ := Ad h
 obtain ⟨X, bc, h⟩ := Ad h
 obtain ⟨Z, a6, h⟩ := Ad h
 refine Bv (.still 0 (.still 1 (.still 3 (.still 4 (.still 6 (.still 7 (.two 2 9 (.two 5 9 (.two 8 9 (.act 9 Zt) (.act 8 Zt)) (.act 5 (.act 8 Zt))) (.act 2 (.act 5 (.act 8 Zt)))))))))) [3] [_] I (Cf 6 [.o 1 0, .o 3 0, .o 5 0] I J3 (qW ?_ ?_))
 refine qG [2] I I I (E8 [2] (Uq g _ _ _ _ bq) ?_)
 rintro _ _ _ - ⟨a2, rfl, rfl, rfl⟩
 refine qW ?_ ?_
 refine qG [2] I I I (A7 [2] (Ou g _ _ _ bc) ?_)
 refine qW ?_ ?_
 refine qG [2] I I I (E8 [2] (Kr g _ _ _ _ a6) ?_)
 rintro _ _ _ - ⟨au, rfl, rfl, rfl⟩
 exact qG [] I I I (B0 W0 3 fun av => A9 1 I (qG [6] I I I (By 6 0 0 [Aj X.1] I (A9 1 I (Ar (qE (lg ⟨(Z.2.L_, Z.2.At, a5.1, X.1.Rates, X.1.Ports, X.1.Pumps, Z.1), a2, av, au, h, I2⟩ N7)))))))
 refine qG [] I I I (B0 W0 3 fun av => qG [2] I I I (E8 [2] (Kr g _ _ _ _ a6) ?_))
 rintro _ _ _ - ⟨au, rfl, rfl, rfl⟩
 exact A9 1 I (qG [5] I I I (By 5 0 0 [Aj X.1] I (A9 1 I (Ar (qE (lg ⟨(Z.2.L_, Z.2.At, a5.1, X.1.Rates, X.1.Ports, X.1.Pumps, Z.1), a2, av, au, h, I2⟩ [0, 1, 2, 3, 4, 6, 5]))))))
 refine qG [] I I I (B0 W0 3 fun av => qG [2] I I I (A7 [2] (Ou g _ _ _ bc) ?_))
 refine qG [2] I I I (E8 [2] (Kr g _ _ _ _ a6) ?_)
 rintro _ _ _ - ⟨au, rfl, rfl, rfl⟩
 exact A9 1 I (qG [5] I I I (By 5 0 0 [Aj X.1] I (A9 1 I (Ar (qE (lg ⟨(Z.2.L_, Z.2.At, a5.1, X.1.Rates, X.1.Ports, X.1.Pumps, Z.1), a2, av, au, h, I2⟩ [0, 1, 2, 3, 4, 6, 5]))))))
 refine qG [] I I I (B0 W0 3 fun av => qG [2] I I I (E8 [2] (Uq g _ _ _ _ bq) ?_))
 rintro _ _ _ - ⟨a2, rfl, rfl, rfl⟩
 refine qG [2] I I I (A7 [2] (Ou g _ _ _ bc) ?_)
 refine qG [2] I I I (E8 [2] (Kr g _ _ _ _ a6) ?_)
 rintro _ _ _ - ⟨au, rfl, rfl, rfl⟩
 exact A9 1 I (qG [4] I I I (By 4 0 0 [Aj X.1] I (A9 1 I (Ar (qE (lg ⟨(Z.2.L_, Z.2.At, a5.1, X.1.Rates, X.1.Ports, X.1.Pumps, Z.1), a2, av, au, h, I2⟩ [0, 1, 2, 3, 5, 6, 4]))))))
 rintro s ob ⟨a, aq, B, ar, h, rfl, rfl⟩
 refine Ac fun f6 c8 => ?_
 obtain ⟨u, br, h⟩ := Ad h
 refine qD (qF [] I (qP (sz := 1) (es := ([] : List (List Piece)).map (rL 2 Aa)) I I I I I I I I I I I dS fun f7 => Af 1 I (qF [7] I (Hc 7 I I I I I I I I I (I0 4 I I) (Pt (Ez br).1) (Ps (Ez br).2) dS fun a7 => Af 1 I (qE ?_)))))
 subst c8
 refine C6 (s' := [(1, .list 1 (f.map (rL 2 Aa))), (3, Q0 D), (4, .V A), (6, .P R), (8, .P i), (14, .P g), (15, .P ap), (16, .v aq), (17, .P B), (18, .v ar), (19, .v a7)]) (ob' := [O0 R [Ab b], O1 i [Aj e], O2 g [[Q0 a.1, .V a.2.1]], O0 ap [Ab n.1], .us aq 34 1 (a.2.2.1.map (rL 2 Aa)), U0 ar a.2.2.2.2.2.2, O1 B [[Q0 a.2.2.2.1, Q0 a.2.2.2.2.1, Q2 a.2.2.2.2.2.1]], .us a7 34 1 (u.map (rL 2 Aa))]) ⟨nN, pk N8⟩ (Ac fun f8 c9 => ?_)
 obtain ⟨f9, da, h⟩ := Ad h
 obtain ⟨ga, db, h⟩ := Ad h
 obtain ⟨t, dc, h⟩ := Ad h
 obtain ⟨w, ⟨dd, bs⟩, h⟩ := Bc h
 refine qD (Af 3 I (qN (Bu 7 I I I I) I (qF [2] I (A7 [2] (Ch g _ _ _ da) ?_))))
 refine Af 2 I (qF [2] I (A7 [2] (Ch g _ _ _ db) ?_))
 refine qF [2] I (E8 [2] (Um g _ _ _ _ dc) ?_)
 rintro _ _ _ - ⟨de, rfl, rfl, rfl⟩
 refine qN (Bb 7 (m := w.1) I I I I I I I dd (Ae bs)) I (qS (As [8] (K := [U1 de t.1]) I [(121, Q3 t.1)] ⟨⟨_, I, .us 0 I⟩, J⟩ (ob' := [O0 R [Ab b], O1 i [Aj e], O2 g [Bs t.2], O0 ap [Ab n.1], .us aq 34 1 (a.2.2.1.map (rL 2 Aa)), U0 ar a.2.2.2.2.2.2, O1 B [[Q0 a.2.2.2.1, Q0 a.2.2.2.2.1, Q2 a.2.2.2.2.2.1]], .us a7 34 1 (u.map (rL 2 Aa))]) (.rest _)) (qF [7] I (Bh 7 w.1 0 I I I (Ae bs) I I I I (Be I) I (Cj (x := t.1) I) (qE ?_))))
 subst c9
 refine Ac fun gb df => ?_
 obtain ⟨H, bu, h⟩ := Ad h
 refine qD (qF [] I (qP (sz := 1) (es := ([] : Li).map rI) I I I I I I I I I I I dS fun gc => Af 1 I (qF [8] I (Hc 8 I I I I I I I I I (I0 5 I I) (Pt (Ez bu).1) (Ps (Ez bu).2) dS fun dg => Af 1 I (qE ?_)))))
 subst df
 refine Ac fun gd dh => ?_
 obtain ⟨ge, di, h⟩ := Ad h
 obtain ⟨F, dj, h⟩ := Ad h
 obtain ⟨G, ⟨dk, bv⟩, h⟩ := Bc h
 refine qD (Af 3 I (qN (Bu 8 I I I I) I (qF [2] I (A7 [2] (Ch g _ _ _ di) ?_))))
 refine Af 1 I (qF [] I (qO 1 (([(-1), 0, 999, 1000] : Li).map rI) (qF [2] I (A7 [2] (An g _ _ _ dj) ?_))))
 refine qN (Bb 8 (m := G.1) I I I I I I I dk (Ae bv)) I (qF [8] I (Bh 8 G.1 0 I I I (Ae bv) I I I I (Be I) I (Cj (x := F.1) I) (qE ?_)))
 subst dh
 refine Ak (fun s ob => ∃ (bw : Unit), Vt.J3 bw = some r ∧ s = [] ∧ ob = []) [] J ?_ ?_
 refine Ac fun gf dl => qD (Ao 2 [.o 0 0, .o 1 3] I J2 (qF [] I (qP (sz := 6) (es := ([b, n.1] : List Nw).map Ab) I I I I I I I I I I I dS fun E => qN (Bu 9 I I I I) I (Af 1 I (qE ?_)))))
 subst dl
 refine qH (Gq 9 I fun dm => qL (As [4, 5, 7, 8] (K := [.us aq 34 1 (a.2.2.1.map (rL 2 Aa)), U0 ar a.2.2.2.2.2.2, .us a7 34 1 ((u.set w.1 t.1).map (rL 2 Aa)), .us dg 3 1 ((H.set G.1 F.1).map rI)]) I [(16, .list 1 (a.2.2.1.map (rL 2 Aa))), (18, Q0 a.2.2.2.2.2.2), (19, .list 1 ((u.set w.1 t.1).map (rL 2 Aa))), (113, .list 1 ((u.set w.1 t.1).map (rL 2 Aa))), (115, .list 1 ((u.set w.1 t.1).map (rL 2 Aa))), (124, Q0 a.2.2.2.2.2.2), (125, .list 1 ((H.set G.1 F.1).map rI)), (20, .list 1 ((H.set G.1 F.1).map rI)), (126, .list 1 ((H.set G.1 F.1).map rI)), (128, .list 1 ((H.set G.1 F.1).map rI))] ⟨⟨_, I, .us 0 I⟩, ⟨_, I, .us 1 I⟩, ⟨_, I, .us 2 I⟩, ⟨_, I, .us 2 I⟩, ⟨_, I, .us 2 I⟩, ⟨_, I, .us 1 I⟩, ⟨_, I, .us 3 I⟩, ⟨_, I, .us 3 I⟩, ⟨_, I, .us 3 I⟩, ⟨_, I, .us 3 I⟩, J⟩ (ob' := [O0 R [Ab b], O1 i [Aj e], O2 g [Bs F.2], O0 ap [Ab n.1], O1 B [[Q0 a.2.2.2.1, Q0 a.2.2.2.2.1, Q2 a.2.2.2.2.2.1]], .us E 27 6 (([b, n.1] : List Nw).map Ab)]) (.rest _)) ?_)
 obtain ⟨gg, dn, a8⟩ := Ad h
 refine Ee dn [(1, _), (3, _), (4, _), (8, _), (14, _), (17, _), (18, _), (19, _), (20, _), (137, _), (138, _)] nN (fun (W : Nat) (j : Li × Int × (List (List Piece))) s ob => s = [(139, .V (W : Int)), (16, .list 1 (j.2.2.map (rL 2 Aa)))] ∧ ob = [O1 i [Aj e], O2 g [[Q0 j.1, .V j.2.1]], O1 B [[Q0 a.2.2.2.1, Q0 a.2.2.2.2.1, Q2 a.2.2.2.2.2.1]], .us E 27 6 (([b, n.1] : List Nw).map Ab)]) ⟨I, I⟩ ⟨I, I, J⟩ (pk [1, 2, 4, 5]) ?_ ?_
 rintro W j bx s ob b0 ⟨rfl, rfl⟩ h bd
 unfold Vt.B4 at h
 have dp := Cm b0
 refine Ai I (C6 (s' := [(1, .list 1 (f.map (rL 2 Aa))), (3, Q0 D), (4, .V A), (8, .P i), (14, .P g), (16, .list 1 (j.2.2.map (rL 2 Aa))), (17, .P B), (18, Q0 a.2.2.2.2.2.2), (19, .list 1 ((u.set w.1 t.1).map (rL 2 Aa))), (20, .list 1 ((H.set G.1 F.1).map rI)), (137, .v E), (138, .V (([b, n.1] : List Nw).length : Int)), (139, .V (W : Int)), (140, .v (.bool (decide ((W : Int) < (([b, n.1] : List Nw).length : Int)))))]) (ob' := [O1 i [Aj e], O2 g [[Q0 j.1, .V j.2.1]], O1 B [[Q0 a.2.2.2.1, Q0 a.2.2.2.2.1, Q2 a.2.2.2.2.2.1]], .us E 27 6 (([b, n.1] : List Nw).map Ab)]) ⟨mX, pk N4⟩ (Ac fun gh dq => Bl I dp (qI ?_)))
 subst dq
 refine C6 (s' := [(1, .list 1 (f.map (rL 2 Aa))), (3, Q0 D), (4, .V A), (8, .P i), (14, .P g), (16, .list 1 (j.2.2.map (rL 2 Aa))), (17, .P B), (18, Q0 a.2.2.2.2.2.2), (19, .list 1 ((u.set w.1 t.1).map (rL 2 Aa))), (20, .list 1 ((H.set G.1 F.1).map rI)), (137, .v E), (138, .V (([b, n.1] : List Nw).length : Int)), (139, .V (W : Int))]) (ob' := [O1 i [Aj e], O2 g [[Q0 j.1, .V j.2.1]], O1 B [[Q0 a.2.2.2.1, Q0 a.2.2.2.2.1, Q2 a.2.2.2.2.2.1]], .us E 27 6 (([b, n.1] : List Nw).map Ab)]) ⟨mY, pk N4⟩ (Ak (fun s ob => ∃ (a9 : Li × Int), Vt.J5 j a9 = some bx ∧ s = [] ∧ ob = [O1 i [Aj e], O2 g [[Q0 a9.1, .V a9.2]], O1 B [[Q0 a.2.2.2.1, Q0 a.2.2.2.2.1, Q2 a.2.2.2.2.2.1]], .us E 27 6 (([b, n.1] : List Nw).map Ab)]) [(1, _), (3, _), (4, _), (8, _), (14, _), (16, _), (17, _), (18, _), (19, _), (20, _), (137, _), (138, _), (139, _)] mY ?_ ?_)
 refine qH (Ac fun gi dr => ?_)
 obtain ⟨Q, ⟨ds, b1⟩, h⟩ := Bc h
 refine qD (qN (Bb 3 (m := Q.1) I I I I I I I ds (Ae b1)) I (qN (Ax 3 Q.1 0 I I I (Ae b1) I (y := .agg (Ab Q.2)) I) I (qF [] I (B0 W3 6 fun M => qF [4] I (By 4 0 0 [Ab Q.2] I (qE ?_))))))
 subst dr
 refine Ak (fun s ob => ∃ (ba : Li × Int), Vt.J6 A a j Q ba = some bx ∧ s = [] ∧ ob = [O1 i [Aj e], O2 g [[Q0 ba.1, .V ba.2]], O1 B [[Q0 a.2.2.2.1, Q0 a.2.2.2.2.1, Q2 a.2.2.2.2.2.1]], .us E 27 6 (([b, n.1] : List Nw).map Ab), O0 M [Ab Q.2]]) [(1, _), (3, _), (4, _), (8, _), (14, _), (16, _), (17, _), (18, _), (19, _), (20, _), (22, _), (137, _), (138, _), (139, _)] mX ?_ ?_
 refine Ac fun gj dt => ?_
 obtain ⟨P, du, h⟩ := Ad h
 obtain ⟨dv, dw, dx, dy, dz, d0, d1⟩ := Rm du
 refine qD (Ao 7 [.l 5 (j.2.2.length : Int)] I ⟨A6, J⟩ (qQ (aJ dv dw 0 I I I I I (pI dx) ⟨_, _, I, dy⟩ I dz d0 d1) I (qF [] I (qP (sz := 1) (es := ([f, j.2.2, (u.set w.1 t.1), P] : List (List (List Piece))).map (rL 1 (rL 2 Aa))) I I I I I I I I I I I dS fun S => qN (Bu 5 I I I I) I (Af 1 I (qE ?_))))))
 subst dt
 refine qH (Gq 5 I fun d2 => ?_)
 obtain ⟨gk, d3, be⟩ := Ad h
 refine Ee d3 [(1, _), (3, _), (4, _), (8, _), (14, _), (16, _), (17, _), (18, _), (19, _), (20, _), (22, _), (137, _), (138, _), (139, _), (151, _), (152, _)] ⟨I, I, I, I, I, I, I, I, I, I, I, I, I, I, I, I, J⟩ (fun (aa : Nat) (ab : Li × Int) s ob => s = [(153, .V (aa : Int))] ∧ ob = [O1 i [Aj e], O2 g [[Q0 ab.1, .V ab.2]], O1 B [[Q0 a.2.2.2.1, Q0 a.2.2.2.2.1, Q2 a.2.2.2.2.2.1]], .us E 27 6 (([b, n.1] : List Nw).map Ab), O0 M [Ab Q.2], .us S 28 1 (([f, j.2.2, (u.set w.1 t.1), P] : List (List (List Piece))).map (rL 1 (rL 2 Aa)))]) ⟨I, I⟩ ⟨I, J⟩ (pk N6) ?_ ?_
 rintro aa ab d4 s ob b4 ⟨rfl, rfl⟩ h b5
 unfold Vt.B9 at h
 have d5 := Cm b4
 refine Ai I (C6 (s' := [(1, .list 1 (f.map (rL 2 Aa))), (3, Q0 D), (4, .V A), (8, .P i), (14, .P g), (16, .list 1 (j.2.2.map (rL 2 Aa))), (17, .P B), (18, Q0 a.2.2.2.2.2.2), (19, .list 1 ((u.set w.1 t.1).map (rL 2 Aa))), (20, .list 1 ((H.set G.1 F.1).map rI)), (22, .P M), (137, .v E), (138, .V (([b, n.1] : List Nw).length : Int)), (139, .V (W : Int)), (151, .v S), (152, .V (([f, j.2.2, (u.set w.1 t.1), P] : List (List (List Piece))).length : Int)), (153, .V (aa : Int)), (154, .v (.bool (decide ((aa : Int) < (([f, j.2.2, (u.set w.1 t.1), P] : List (List (List Piece))).length : Int)))))]) (ob' := [O1 i [Aj e], O2 g [[Q0 ab.1, .V ab.2]], O1 B [[Q0 a.2.2.2.1, Q0 a.2.2.2.2.1, Q2 a.2.2.2.2.2.1]], .us E 27 6 (([b, n.1] : List Nw).map Ab), O0 M [Ab Q.2], .us S 28 1 (([f, j.2.2, (u.set w.1 t.1), P] : List (List (List Piece))).map (rL 1 (rL 2 Aa)))]) ⟨⟨I, I, I, I, I, I, I, I, I, I, I, I, I, I, I, I, I, I, J⟩, pk N6⟩ ?_)
 refine Ac fun gl d6 => Bl I d5 (qI ?_)
 subst d6
 refine C6 (s' := [(1, .list 1 (f.map (rL 2 Aa))), (3, Q0 D), (4, .V A), (8, .P i), (14, .P g), (16, .list 1 (j.2.2.map (rL 2 Aa))), (17, .P B), (18, Q0 a.2.2.2.2.2.2), (19, .list 1 ((u.set w.1 t.1).map (rL 2 Aa))), (20, .list 1 ((H.set G.1 F.1).map rI)), (22, .P M), (137, .v E), (138, .V (([b, n.1] : List Nw).length : Int)), (139, .V (W : Int)), (151, .v S), (152, .V (([f, j.2.2, (u.set w.1 t.1), P] : List (List (List Piece))).length : Int)), (153, .V (aa : Int))]) (ob' := [O1 i [Aj e], O2 g [[Q0 ab.1, .V ab.2]], O1 B [[Q0 a.2.2.2.1, Q0 a.2.2.2.2.1, Q2 a.2.2.2.2.2.1]], .us E 27 6 (([b, n.1] : List Nw).map Ab), O0 M [Ab Q.2], .us S 28 1 (([f, j.2.2, (u.set w.1 t.1), P] : List (List (List Piece))).map (rL 1 (rL 2 Aa)))]) ⟨⟨I, I, I, I, I, I, I, I, I, I, I, I, I, I, I, I, I, J⟩, pk N6⟩ (Ak (fun s ob => ∃ (bb : Li × Int), Vt.J10 bb = some d4 ∧ s = [] ∧ ob = [O1 i [Aj e], O2 g [[Q0 bb.1, .V bb.2]], O1 B [[Q0 a.2.2.2.1, Q0 a.2.2.2.2.1, Q2 a.2.2.2.2.2.1]], .us E 27 6 (([b, n.1] : List Nw).map Ab), O0 M [Ab Q.2], .us S 28 1 (([f, j.2.2, (u.set w.1 t.1), P] : List (List (List Piece))).map (rL 1 (rL 2 Aa)))]) [(1, _), (3, _), (4, _), (8, _), (14, _), (16, _), (17, _), (18, _), (19, _), (20, _), (22, _), (137, _), (138, _), (139, _), (151, _), (152, _), (153, _)] ⟨I, I, I, I, I, I, I, I, I, I, I, I, I, I, I, I, I, J⟩ ?_ ?_)
 refine qH (Ac fun gm d7 => ?_)
 obtain ⟨ai, ⟨d8, b6⟩, h⟩ := Bc h
 refine qD (qN (Bb 5 (m := ai.1) I I I I I I I d8 (Ae b6)) I (qN (Ax 5 ai.1 0 I I I (Ae b6) I (y := .list 1 (ai.2.map (rL 2 Aa))) I) I (Af 1 I (qE ?_))))
 subst d7
 refine Ac fun gn d9 => qJ ?_
 obtain ⟨go, ea, h⟩ := Ad h
 obtain ⟨gp, eb, h⟩ := Ad h
 refine Bv (.still 0 (.still 1 (.still 3 (.still 4 (.act 2 (.act 5 (.still 6 .nil))))))) [4] [_] I (Cf 4 [.o 0 0, .o 2 0] I J2 (rD I (T7 _ _ _ ea) (rD I (Ug _ _ _ eb) (A9 1 I (Ar (qE (Av h I ?_ ?_)))))))
 intro ec h
 refine Ai I ?_
 obtain rfl := b5 _ (oi h).symm
 have h := be
 have h := Dj h
 obtain rfl := bd _ (oi h).symm
 have h := a8
 have h := Dj h
 refine qL g0 ?_
 cases io h
 exact qK pr
 intro ec h
 refine qI ?_
 subst d9
 refine Ac fun gq ed => ?_
 obtain ⟨O, ee, h⟩ := Ad h
 refine Bv (sl 4 0 (.still 7 (.act 4 (.act 5 (.act 6 .nil))))) [0, 2] [_, _] I (Cf 5 [.o 0 0, .o 1 1, .o 3 1] I J3 (qG [1] I I I (A7 [1] (dO g _ _ _ ee) ?_)))
 refine qG [] I I I (qP (sz := 3) (es := ([e, (⟨a.2.2.2.1, a.2.2.2.2.1, a.2.2.2.2.2.1⟩ : Plan), O.1] : List Plan).map Aj) I I I I I I I I I I I dS fun Y => qG [] I I I (Ba (Bu 6 I I I I) dS (Ar (qE ?_))))
 subst ed
 refine qH (Gq 6 I fun ef => ?_)
 obtain ⟨gr, eg, b7⟩ := Ad h
 refine Ee eg [(1, _), (3, _), (4, _), (8, _), (14, _), (16, _), (17, _), (18, _), (19, _), (20, _), (22, _), (24, _), (137, _), (138, _), (139, _), (151, _), (152, _), (153, _), (169, _), (170, _)] ⟨I, I, I, I, I, I, I, I, I, I, I, I, I, I, I, I, I, I, I, I, J⟩ (fun (aj : Nat) (b8 : Unit) s ob => s = [(171, .V (aj : Int))] ∧ ob = [O1 i [Aj e], O2 g [Bs O.2], O1 B [[Q0 a.2.2.2.1, Q0 a.2.2.2.2.1, Q2 a.2.2.2.2.2.1]], .us E 27 6 (([b, n.1] : List Nw).map Ab), O0 M [Ab Q.2], .us S 28 1 (([f, j.2.2, (u.set w.1 t.1), P] : List (List (List Piece))).map (rL 1 (rL 2 Aa))), .us Y 32 3 (([e, (⟨a.2.2.2.1, a.2.2.2.2.1, a.2.2.2.2.2.1⟩ : Plan), O.1] : List Plan).map Aj)]) ⟨I, I⟩ ⟨I, J⟩ (pk N7) ?_ ?_
 rintro aj b8 eh s ob b9 ⟨rfl, rfl⟩ h ei
 unfold Vt.B11 at h
 have ej := Cm b9
 refine Ai I (C6 (s' := [(1, .list 1 (f.map (rL 2 Aa))), (3, Q0 D), (4, .V A), (8, .P i), (14, .P g), (16, .list 1 (j.2.2.map (rL 2 Aa))), (17, .P B), (18, Q0 a.2.2.2.2.2.2), (19, .list 1 ((u.set w.1 t.1).map (rL 2 Aa))), (20, .list 1 ((H.set G.1 F.1).map rI)), (22, .P M), (24, .list 1 (ai.2.map (rL 2 Aa))), (137, .v E), (138, .V (([b, n.1] : List Nw).length : Int)), (139, .V (W : Int)), (151, .v S), (152, .V (([f, j.2.2, (u.set w.1 t.1), P] : List (List (List Piece))).length : Int)), (153, .V (aa : Int)), (169, .v Y), (170, .V (([e, (⟨a.2.2.2.1, a.2.2.2.2.1, a.2.2.2.2.2.1⟩ : Plan), O.1] : List Plan).length : Int)), (171, .V (aj : Int)), (172, .v (.bool (decide ((aj : Int) < (([e, (⟨a.2.2.2.1, a.2.2.2.2.1, a.2.2.2.2.2.1⟩ : Plan), O.1] : List Plan).length : Int)))))]) (ob' := [O1 i [Aj e], O2 g [Bs O.2], O1 B [[Q0 a.2.2.2.1, Q0 a.2.2.2.2.1, Q2 a.2.2.2.2.2.1]], .us E 27 6 (([b, n.1] : List Nw).map Ab), O0 M [Ab Q.2], .us S 28 1 (([f, j.2.2, (u.set w.1 t.1), P] : List (List (List Piece))).map (rL 1 (rL 2 Aa))), .us Y 32 3 (([e, (⟨a.2.2.2.1, a.2.2.2.2.1, a.2.2.2.2.2.1⟩ : Plan), O.1] : List Plan).map Aj)]) ⟨⟨I, I, I, I, I, I, I, I, I, I, I, I, I, I, I, I, I, I, I, I, I, I, J⟩, pk N7⟩ ?_)
 refine Ac fun gs ek => Bl I ej (qI ?_)
 subst ek
 refine C6 (s' := [(1, .list 1 (f.map (rL 2 Aa))), (3, Q0 D), (4, .V A), (8, .P i), (14, .P g), (16, .list 1 (j.2.2.map (rL 2 Aa))), (17, .P B), (18, Q0 a.2.2.2.2.2.2), (19, .list 1 ((u.set w.1 t.1).map (rL 2 Aa))), (20, .list 1 ((H.set G.1 F.1).map rI)), (22, .P M), (24, .list 1 (ai.2.map (rL 2 Aa))), (137, .v E), (138, .V (([b, n.1] : List Nw).length : Int)), (139, .V (W : Int)), (151, .v S), (152, .V (([f, j.2.2, (u.set w.1 t.1), P] : List (List (List Piece))).length : Int)), (153, .V (aa : Int)), (169, .v Y), (170, .V (([e, (⟨a.2.2.2.1, a.2.2.2.2.1, a.2.2.2.2.2.1⟩ : Plan), O.1] : List Plan).length : Int)), (171, .V (aj : Int))]) (ob' := [O1 i [Aj e], O2 g [Bs O.2], O1 B [[Q0 a.2.2.2.1, Q0 a.2.2.2.2.1, Q2 a.2.2.2.2.2.1]], .us E 27 6 (([b, n.1] : List Nw).map Ab), O0 M [Ab Q.2], .us S 28 1 (([f, j.2.2, (u.set w.1 t.1), P] : List (List (List Piece))).map (rL 1 (rL 2 Aa))), .us Y 32 3 (([e, (⟨a.2.2.2.1, a.2.2.2.2.1, a.2.2.2.2.2.1⟩ : Plan), O.1] : List Plan).map Aj)]) ⟨⟨I, I, I, I, I, I, I, I, I, I, I, I, I, I, I, I, I, I, I, I, I, J⟩, pk N7⟩ ?_
 refine Ak (fun s ob => ∃ (ca : Unit), Vt.J12 ca = some eh ∧ s = [] ∧ ob = [O1 i [Aj e], O2 g [Bs O.2], O1 B [[Q0 a.2.2.2.1, Q0 a.2.2.2.2.1, Q2 a.2.2.2.2.2.1]], .us E 27 6 (([b, n.1] : List Nw).map Ab), O0 M [Ab Q.2], .us S 28 1 (([f, j.2.2, (u.set w.1 t.1), P] : List (List (List Piece))).map (rL 1 (rL 2 Aa))), .us Y 32 3 (([e, (⟨a.2.2.2.1, a.2.2.2.2.1, a.2.2.2.2.2.1⟩ : Plan), O.1] : List Plan).map Aj)]) [(1, _), (3, _), (4, _), (8, _), (14, _), (16, _), (17, _), (18, _), (19, _), (20, _), (22, _), (24, _), (137, _), (138, _), (139, _), (151, _), (152, _), (153, _), (169, _), (170, _), (171, _)] ⟨I, I, I, I, I, I, I, I, I, I, I, I, I, I, I, I, I, I, I, I, I, J⟩ ?_ ?_
 refine qH (Ac fun gu el => ?_)
 obtain ⟨ak, ⟨em, cb⟩, h⟩ := Bc h
 refine qD (qN (Bb 6 (m := ak.1) I I I I I I I em (Ae cb)) I (qN (Ax 6 ak.1 0 I I I (Ae cb) I (y := .agg (Aj ak.2)) I) I (qF [] I (B0 W0 3 fun am => qF [7] I (By 7 0 0 [Aj ak.2] I (qE ?_))))))
 subst el
 refine Ac fun gv en => qD (Af 3 I (qF [] I (qP (sz := 1) (es := ([D, a.2.2.2.2.2.2, (H.set G.1 F.1)] : List Li).map (rL 1 rI)) I I I I I I I I I I I dS fun an => qN (Bu 8 I I I I) I (Af 1 I (qE ?_)))))
 subst en
 refine qH (Gq 8 I fun eo => ?_)
 obtain ⟨gw, ep, cc⟩ := Ad h
 refine Ee ep [(1, _), (3, _), (4, _), (8, _), (14, _), (16, _), (17, _), (18, _), (19, _), (20, _), (22, _), (24, _), (26, _), (137, _), (138, _), (139, _), (151, _), (152, _), (153, _), (169, _), (170, _), (171, _), (178, _), (179, _)] ⟨I, I, I, I, I, I, I, I, I, I, I, I, I, I, I, I, I, I, I, I, I, I, I, I, J⟩ (fun (ax : Nat) (cd : Unit) s ob => s = [(180, .V (ax : Int))] ∧ ob = [O1 i [Aj e], O2 g [Bs O.2], O1 B [[Q0 a.2.2.2.1, Q0 a.2.2.2.2.1, Q2 a.2.2.2.2.2.1]], .us E 27 6 (([b, n.1] : List Nw).map Ab), O0 M [Ab Q.2], .us S 28 1 (([f, j.2.2, (u.set w.1 t.1), P] : List (List (List Piece))).map (rL 1 (rL 2 Aa))), .us Y 32 3 (([e, (⟨a.2.2.2.1, a.2.2.2.2.1, a.2.2.2.2.2.1⟩ : Plan), O.1] : List Plan).map Aj), O1 am [Aj ak.2], .us an 29 1 (([D, a.2.2.2.2.2.2, (H.set G.1 F.1)] : List Li).map (rL 1 rI))]) ⟨I, I⟩ ⟨I, J⟩ (pk N9) ?_ ?_
 rintro ax cd eq s ob ce ⟨rfl, rfl⟩ h er
 have et := Cm ce
 refine Ai I (C6 (s' := [(1, .list 1 (f.map (rL 2 Aa))), (3, Q0 D), (4, .V A), (8, .P i), (14, .P g), (16, .list 1 (j.2.2.map (rL 2 Aa))), (17, .P B), (18, Q0 a.2.2.2.2.2.2), (19, .list 1 ((u.set w.1 t.1).map (rL 2 Aa))), (20, .list 1 ((H.set G.1 F.1).map rI)), (22, .P M), (24, .list 1 (ai.2.map (rL 2 Aa))), (26, .P am), (137, .v E), (138, .V (([b, n.1] : List Nw).length : Int)), (139, .V (W : Int)), (151, .v S), (152, .V (([f, j.2.2, (u.set w.1 t.1), P] : List (List (List Piece))).length : Int)), (153, .V (aa : Int)), (169, .v Y), (170, .V (([e, (⟨a.2.2.2.1, a.2.2.2.2.1, a.2.2.2.2.2.1⟩ : Plan), O.1] : List Plan).length : Int)), (171, .V (aj : Int)), (178, .v an), (179, .V (([D, a.2.2.2.2.2.2, (H.set G.1 F.1)] : List Li).length : Int)), (180, .V (ax : Int)), (181, .v (.bool (decide ((ax : Int) < (([D, a.2.2.2.2.2.2, (H.set G.1 F.1)] : List Li).length : Int)))))]) (ob' := [O1 i [Aj e], O2 g [Bs O.2], O1 B [[Q0 a.2.2.2.1, Q0 a.2.2.2.2.1, Q2 a.2.2.2.2.2.1]], .us E 27 6 (([b, n.1] : List Nw).map Ab), O0 M [Ab Q.2], .us S 28 1 (([f, j.2.2, (u.set w.1 t.1), P] : List (List (List Piece))).map (rL 1 (rL 2 Aa))), .us Y 32 3 (([e, (⟨a.2.2.2.1, a.2.2.2.2.1, a.2.2.2.2.2.1⟩ : Plan), O.1] : List Plan).map Aj), O1 am [Aj ak.2], .us an 29 1 (([D, a.2.2.2.2.2.2, (H.set G.1 F.1)] : List Li).map (rL 1 rI))]) ⟨⟨I, I, I, I, I, I, I, I, I, I, I, I, I, I, I, I, I, I, I, I, I, I, I, I, I, I, J⟩, pk N9⟩ ?_)
 refine Ac fun gx eu => Bl I et (qI ?_)
 subst eu
 refine C6 (s' := [(1, .list 1 (f.map (rL 2 Aa))), (3, Q0 D), (4, .V A), (8, .P i), (14, .P g), (16, .list 1 (j.2.2.map (rL 2 Aa))), (17, .P B), (18, Q0 a.2.2.2.2.2.2), (19, .list 1 ((u.set w.1 t.1).map (rL 2 Aa))), (20, .list 1 ((H.set G.1 F.1).map rI)), (22, .P M), (24, .list 1 (ai.2.map (rL 2 Aa))), (26, .P am), (137, .v E), (138, .V (([b, n.1] : List Nw).length : Int)), (139, .V (W : Int)), (151, .v S), (152, .V (([f, j.2.2, (u.set w.1 t.1), P] : List (List (List Piece))).length : Int)), (153, .V (aa : Int)), (169, .v Y), (170, .V (([e, (⟨a.2.2.2.1, a.2.2.2.2.1, a.2.2.2.2.2.1⟩ : Plan), O.1] : List Plan).length : Int)), (171, .V (aj : Int)), (178, .v an), (179, .V (([D, a.2.2.2.2.2.2, (H.set G.1 F.1)] : List Li).length : Int)), (180, .V (ax : Int))]) (ob' := [O1 i [Aj e], O2 g [Bs O.2], O1 B [[Q0 a.2.2.2.1, Q0 a.2.2.2.2.1, Q2 a.2.2.2.2.2.1]], .us E 27 6 (([b, n.1] : List Nw).map Ab), O0 M [Ab Q.2], .us S 28 1 (([f, j.2.2, (u.set w.1 t.1), P] : List (List (List Piece))).map (rL 1 (rL 2 Aa))), .us Y 32 3 (([e, (⟨a.2.2.2.1, a.2.2.2.2.1, a.2.2.2.2.2.1⟩ : Plan), O.1] : List Plan).map Aj), O1 am [Aj ak.2], .us an 29 1 (([D, a.2.2.2.2.2.2, (H.set G.1 F.1)] : List Li).map (rL 1 rI))]) ⟨⟨I, I, I, I, I, I, I, I, I, I, I, I, I, I, I, I, I, I, I, I, I, I, I, I, I, J⟩, pk N9⟩ ?_
 refine qJ (qH (Ac fun gy ev => ?_))
 obtain ⟨bf, ⟨ew, cf⟩, h⟩ := Bc h
 refine qD (qN (Bb 8 (m := bf.1) I I I I I I I ew (Ae cf)) I (qN (Ax 8 bf.1 0 I I I (Ae cf) I (y := Q0 bf.2) I) I (Af 1 I (qE ?_))))
 subst ev
 refine Ac fun gz ex => ?_
 obtain ⟨ey, ez, h⟩ := Ad h
 refine qD (Ao 4 [.o 0 4, .o 2 7] I J2 (qF [] I (Bg I I I (Uo _ _ _ _ _ ez) dS ?_)))
 rintro _ _ ⟨g1, g2, rfl, rfl⟩
 refine Af 7 I (qE ?_)
 subst ex
 refine Ac fun g3 e0 => ?_
 obtain ⟨e1, e2, h⟩ := Ad h
 refine qD (Ao 4 [.o 0 4, .o 2 7] I J2 (qF [] I (Bg I I I (T6 _ _ _ _ _ e2) dS ?_)))
 rintro _ _ ⟨g4, g5, rfl, rfl⟩
 refine Af 7 I (qE ?_)
 subst e0
 refine Ak (fun s ob => ∃ (bg : Bool), Vt.J14 bg = some eq ∧ s = [(216, .v (.bool bg))] ∧ ob = [O1 i [Aj e], O2 g [Bs O.2], O1 B [[Q0 a.2.2.2.1, Q0 a.2.2.2.2.1, Q2 a.2.2.2.2.2.1]], .us E 27 6 (([b, n.1] : List Nw).map Ab), O0 M [Ab Q.2], .us S 28 1 (([f, j.2.2, (u.set w.1 t.1), P] : List (List (List Piece))).map (rL 1 (rL 2 Aa))), .us Y 32 3 (([e, (⟨a.2.2.2.1, a.2.2.2.2.1, a.2.2.2.2.2.1⟩ : Plan), O.1] : List Plan).map Aj), O1 am [Aj ak.2], .us an 29 1 (([D, a.2.2.2.2.2.2, (H.set G.1 F.1)] : List Li).map (rL 1 rI))]) [(1, _), (3, _), (4, _), (8, _), (14, _), (16, _), (17, _), (18, _), (19, _), (20, _), (22, _), (24, _), (26, _), (137, _), (138, _), (139, _), (151, _), (152, _), (153, _), (169, _), (170, _), (171, _), (178, _), (179, _), (180, _)] ⟨I, I, I, I, I, I, I, I, I, I, I, I, I, I, I, I, I, I, I, I, I, I, I, I, I, J⟩ ?_ ?_
 obtain ⟨e3, bh, h⟩ := Ad h
 rcases bt ((!e3)) with ay | ay
 have h := Cb ay h
 refine qD (Af 2 I (qF [] I (Cz I (.refl _) I I (.cons (.us 9 I) (.cons (.us 11 I) (.rest _))) I (D5 _ _ _ bh) dS (by rintro _ _ ⟨rfl, _⟩; rfl) ?_)))
 rintro _ ⟨_, rfl, -⟩
 exact Af 2 I (Ah 206 I ay (Af 10 I (qE (lg ⟨true, h, I2⟩ N9))))
 have h := Cc ay h
 obtain ⟨e4, ci, h⟩ := Ad h
 rcases bt ((!e4)) with a3 | a3
 have h := Cb a3 h
 refine qD (Af 2 I (qF [] I (Cz I (.refl _) I I (.cons (.us 9 I) (.cons (.us 11 I) (.rest _))) I (D5 _ _ _ bh) dS (by rintro _ _ ⟨rfl, _⟩; rfl) ?_)))
 rintro _ ⟨_, rfl, -⟩
 refine Af 2 I (Ah 206 I ay (Af 2 I (Bj I I I (qF [] I (Cz I (.refl _) I I (.cons (.us 10 I) (.cons (.us 12 I) (.rest _))) I (D5 _ _ _ ci) dS (by rintro _ _ ⟨rfl, _⟩; rfl) ?_)))))
 rintro _ ⟨_, rfl, -⟩
 exact Af 3 I (Ah 212 I a3 (Af 4 I (qE (lg ⟨true, h, I2⟩ N9))))
 have h := Cc a3 h
 refine qD (Af 2 I (qF [] I (Cz I (.refl _) I I (.cons (.us 9 I) (.cons (.us 11 I) (.rest _))) I (D5 _ _ _ bh) dS (by rintro _ _ ⟨rfl, _⟩; rfl) ?_)))
 rintro _ ⟨_, rfl, -⟩
 refine Af 2 I (Ah 206 I ay (Af 2 I (Bj I I I (qF [] I (Cz I (.refl _) I I (.cons (.us 10 I) (.cons (.us 12 I) (.rest _))) I (D5 _ _ _ ci) dS (by rintro _ _ ⟨rfl, _⟩; rfl) ?_)))))
 rintro _ ⟨_, rfl, -⟩
 exact Af 3 I (Ah 212 I a3 (Af 4 I (qE (lg ⟨(ey.2.2 != e1.2.2), h, I2⟩ N9))))
 rintro s ob ⟨bg, h, rfl, rfl⟩
 refine Av h I ?_ ?_
 intro e5 h
 refine Ai I ?_
 obtain rfl := er _ (oi h).symm
 have h := cc
 have h := Dj h
 obtain rfl := ei _ (oi h).symm
 have h := b7
 have h := Dj h
 obtain rfl := b5 _ (oi h).symm
 have h := be
 have h := Dj h
 obtain rfl := bd _ (oi h).symm
 have h := a8
 have h := Dj h
 refine qL g0 ?_
 cases io h
 exact qK pr
 intro e5 h
 refine qI (qD (Ao 2 [.k 0 (ax + 1 : Nat)] I ⟨Az ce eo, J⟩ ?_))
 cases io h
 exact qE ⟨_, _, _, I, I2, ⟨I, I, I, I, I, I, I, I, I, I, I, I, I, I, I, I, I, I, I, I, I, I, I, I, I, J⟩, pk N9⟩
 rintro cd s ob ⟨rfl, rfl⟩ he
 subst he
 have h := Dp cc
 have e6 := Cn (([D, a.2.2.2.2.2.2, (H.set G.1 F.1)] : List Li).length)
 refine Ai I (C6 (s' := [(1, .list 1 (f.map (rL 2 Aa))), (3, Q0 D), (4, .V A), (8, .P i), (14, .P g), (16, .list 1 (j.2.2.map (rL 2 Aa))), (17, .P B), (18, Q0 a.2.2.2.2.2.2), (19, .list 1 ((u.set w.1 t.1).map (rL 2 Aa))), (20, .list 1 ((H.set G.1 F.1).map rI)), (22, .P M), (24, .list 1 (ai.2.map (rL 2 Aa))), (26, .P am), (137, .v E), (138, .V (([b, n.1] : List Nw).length : Int)), (139, .V (W : Int)), (151, .v S), (152, .V (([f, j.2.2, (u.set w.1 t.1), P] : List (List (List Piece))).length : Int)), (153, .V (aa : Int)), (169, .v Y), (170, .V (([e, (⟨a.2.2.2.1, a.2.2.2.2.1, a.2.2.2.2.2.1⟩ : Plan), O.1] : List Plan).length : Int)), (171, .V (aj : Int)), (178, .v an), (179, .V (([D, a.2.2.2.2.2.2, (H.set G.1 F.1)] : List Li).length : Int)), (180, .V ((([D, a.2.2.2.2.2.2, (H.set G.1 F.1)] : List Li).length : Nat) : Int)), (181, .v (.bool (decide (((([D, a.2.2.2.2.2.2, (H.set G.1 F.1)] : List Li).length : Nat) : Int) < (([D, a.2.2.2.2.2.2, (H.set G.1 F.1)] : List Li).length : Int)))))]) (ob' := [O1 i [Aj e], O2 g [Bs O.2], O1 B [[Q0 a.2.2.2.1, Q0 a.2.2.2.2.1, Q2 a.2.2.2.2.2.1]], .us E 27 6 (([b, n.1] : List Nw).map Ab), O0 M [Ab Q.2], .us S 28 1 (([f, j.2.2, (u.set w.1 t.1), P] : List (List (List Piece))).map (rL 1 (rL 2 Aa))), .us Y 32 3 (([e, (⟨a.2.2.2.1, a.2.2.2.2.1, a.2.2.2.2.2.1⟩ : Plan), O.1] : List Plan).map Aj), O1 am [Aj ak.2], .us an 29 1 (([D, a.2.2.2.2.2.2, (H.set G.1 F.1)] : List Li).map (rL 1 rI))]) ⟨⟨I, I, I, I, I, I, I, I, I, I, I, I, I, I, I, I, I, I, I, I, I, I, I, I, I, I, J⟩, pk N9⟩ ?_)
 exact Ac fun g6 g7 => Bm I e6 (qM (lg ⟨(), h, I2⟩ N7))
 rintro s ob ⟨ca, h, rfl, rfl⟩
 unfold Vt.J12 at h
 refine qD (Ao 2 [.k 0 (aj + 1 : Nat)] I ⟨Az b9 ef, J⟩ ?_)
 cases io h
 exact qE ⟨_, _, _, I, I2, ⟨I, I, I, I, I, I, I, I, I, I, I, I, I, I, I, I, I, I, I, I, I, J⟩, pk N7⟩
 rintro b8 s ob ⟨rfl, rfl⟩ he
 subst he
 have h := Dp b7
 have e7 := Cn (([e, (⟨a.2.2.2.1, a.2.2.2.2.1, a.2.2.2.2.2.1⟩ : Plan), O.1] : List Plan).length)
 refine Ai I (C6 (s' := [(1, .list 1 (f.map (rL 2 Aa))), (3, Q0 D), (4, .V A), (8, .P i), (14, .P g), (16, .list 1 (j.2.2.map (rL 2 Aa))), (17, .P B), (18, Q0 a.2.2.2.2.2.2), (19, .list 1 ((u.set w.1 t.1).map (rL 2 Aa))), (20, .list 1 ((H.set G.1 F.1).map rI)), (22, .P M), (24, .list 1 (ai.2.map (rL 2 Aa))), (137, .v E), (138, .V (([b, n.1] : List Nw).length : Int)), (139, .V (W : Int)), (151, .v S), (152, .V (([f, j.2.2, (u.set w.1 t.1), P] : List (List (List Piece))).length : Int)), (153, .V (aa : Int)), (169, .v Y), (170, .V (([e, (⟨a.2.2.2.1, a.2.2.2.2.1, a.2.2.2.2.2.1⟩ : Plan), O.1] : List Plan).length : Int)), (171, .V ((([e, (⟨a.2.2.2.1, a.2.2.2.2.1, a.2.2.2.2.2.1⟩ : Plan), O.1] : List Plan).length : Nat) : Int)), (172, .v (.bool (decide (((([e, (⟨a.2.2.2.1, a.2.2.2.2.1, a.2.2.2.2.2.1⟩ : Plan), O.1] : List Plan).length : Nat) : Int) < (([e, (⟨a.2.2.2.1, a.2.2.2.2.1, a.2.2.2.2.2.1⟩ : Plan), O.1] : List Plan).length : Int)))))]) (ob' := [O1 i [Aj e], O2 g [Bs O.2], O1 B [[Q0 a.2.2.2.1, Q0 a.2.2.2.2.1, Q2 a.2.2.2.2.2.1]], .us E 27 6 (([b, n.1] : List Nw).map Ab), O0 M [Ab Q.2], .us S 28 1 (([f, j.2.2, (u.set w.1 t.1), P] : List (List (List Piece))).map (rL 1 (rL 2 Aa))), .us Y 32 3 (([e, (⟨a.2.2.2.1, a.2.2.2.2.1, a.2.2.2.2.2.1⟩ : Plan), O.1] : List Plan).map Aj)]) ⟨⟨I, I, I, I, I, I, I, I, I, I, I, I, I, I, I, I, I, I, I, I, I, I, J⟩, pk N7⟩ ?_)
 exact Ac fun g8 g9 => Bm I e7 (qM (lg ⟨(O.2.L_, O.2.At), h, I2⟩ N6))
 rintro s ob ⟨bb, h, rfl, rfl⟩
 unfold Vt.J10 at h
 refine qD (Ao 2 [.k 0 (aa + 1 : Nat)] I ⟨Az b4 d2, J⟩ ?_)
 cases io h
 exact qE ⟨_, _, _, I, I2, ⟨I, I, I, I, I, I, I, I, I, I, I, I, I, I, I, I, I, J⟩, pk N6⟩
 rintro ab s ob ⟨rfl, rfl⟩ he
 subst he
 have h := Dp be
 have e8 := Cn (([f, j.2.2, (u.set w.1 t.1), P] : List (List (List Piece))).length)
 refine Ai I (C6 (s' := [(1, .list 1 (f.map (rL 2 Aa))), (3, Q0 D), (4, .V A), (8, .P i), (14, .P g), (16, .list 1 (j.2.2.map (rL 2 Aa))), (17, .P B), (18, Q0 a.2.2.2.2.2.2), (19, .list 1 ((u.set w.1 t.1).map (rL 2 Aa))), (20, .list 1 ((H.set G.1 F.1).map rI)), (22, .P M), (137, .v E), (138, .V (([b, n.1] : List Nw).length : Int)), (139, .V (W : Int)), (151, .v S), (152, .V (([f, j.2.2, (u.set w.1 t.1), P] : List (List (List Piece))).length : Int)), (153, .V ((([f, j.2.2, (u.set w.1 t.1), P] : List (List (List Piece))).length : Nat) : Int)), (154, .v (.bool (decide (((([f, j.2.2, (u.set w.1 t.1), P] : List (List (List Piece))).length : Nat) : Int) < (([f, j.2.2, (u.set w.1 t.1), P] : List (List (List Piece))).length : Int)))))]) (ob' := [O1 i [Aj e], O2 g [[Q0 ab.1, .V ab.2]], O1 B [[Q0 a.2.2.2.1, Q0 a.2.2.2.2.1, Q2 a.2.2.2.2.2.1]], .us E 27 6 (([b, n.1] : List Nw).map Ab), O0 M [Ab Q.2], .us S 28 1 (([f, j.2.2, (u.set w.1 t.1), P] : List (List (List Piece))).map (rL 1 (rL 2 Aa)))]) ⟨⟨I, I, I, I, I, I, I, I, I, I, I, I, I, I, I, I, I, I, J⟩, pk N6⟩ ?_)
 exact Ac fun ha hb => Bm I e8 (qM (lg ⟨(ab.1, ab.2), h, I2⟩ N5))
 rintro s ob ⟨ba, h, rfl, rfl⟩
 refine Ac fun hc e9 => ?_
 obtain ⟨U, fa, h⟩ := Ad h
 refine qD (Af 2 I (qF [1] I (A7 [1] (Ch g _ _ _ fa) ?_)))
 refine qF [] I (qP (sz := 1) (es := ([A, U.1] : Li).map rI) I I I I I I I I I I I dS fun af => qN (Bu 5 I I I I) I (Af 1 I (qE ?_)))
 subst e9
 refine C6 (s' := [(1, .list 1 (f.map (rL 2 Aa))), (3, Q0 D), (4, .V A), (8, .P i), (14, .P g), (16, .list 1 (j.2.2.map (rL 2 Aa))), (17, .P B), (18, Q0 a.2.2.2.2.2.2), (19, .list 1 ((u.set w.1 t.1).map (rL 2 Aa))), (20, .list 1 ((H.set G.1 F.1).map rI)), (22, .P M), (137, .v E), (138, .V (([b, n.1] : List Nw).length : Int)), (139, .V (W : Int)), (223, .v af), (224, .V (([A, U.1] : Li).length : Int)), (225, .V 0)]) (ob' := [O1 i [Aj e], O2 g [Bs U.2], O1 B [[Q0 a.2.2.2.1, Q0 a.2.2.2.2.1, Q2 a.2.2.2.2.2.1]], .us E 27 6 (([b, n.1] : List Nw).map Ab), O0 M [Ab Q.2], .us af 3 1 (([A, U.1] : Li).map rI)]) ⟨⟨I, I, I, I, I, I, I, I, I, I, I, I, I, I, I, I, I, J⟩, pk N6⟩ (qH (Gq 5 I fun fb => ?_))
 obtain ⟨hd, fc, cj⟩ := Ad h
 refine Ee fc [(1, _), (3, _), (4, _), (8, _), (14, _), (16, _), (17, _), (18, _), (19, _), (20, _), (22, _), (137, _), (138, _), (139, _), (223, _), (224, _)] ⟨I, I, I, I, I, I, I, I, I, I, I, I, I, I, I, I, J⟩ (fun (az : Nat) (ck : Unit) s ob => s = [(225, .V (az : Int))] ∧ ob = [O1 i [Aj e], O2 g [Bs U.2], O1 B [[Q0 a.2.2.2.1, Q0 a.2.2.2.2.1, Q2 a.2.2.2.2.2.1]], .us E 27 6 (([b, n.1] : List Nw).map Ab), O0 M [Ab Q.2], .us af 3 1 (([A, U.1] : Li).map rI)]) ⟨I, I⟩ ⟨I, J⟩ (pk N6) ?_ ?_
 rintro az ck fd s ob cl ⟨rfl, rfl⟩ h fe
 have ff := Cm cl
 refine Ai I (C6 (s' := [(1, .list 1 (f.map (rL 2 Aa))), (3, Q0 D), (4, .V A), (8, .P i), (14, .P g), (16, .list 1 (j.2.2.map (rL 2 Aa))), (17, .P B), (18, Q0 a.2.2.2.2.2.2), (19, .list 1 ((u.set w.1 t.1).map (rL 2 Aa))), (20, .list 1 ((H.set G.1 F.1).map rI)), (22, .P M), (137, .v E), (138, .V (([b, n.1] : List Nw).length : Int)), (139, .V (W : Int)), (223, .v af), (224, .V (([A, U.1] : Li).length : Int)), (225, .V (az : Int)), (226, .v (.bool (decide ((az : Int) < (([A, U.1] : Li).length : Int)))))]) (ob' := [O1 i [Aj e], O2 g [Bs U.2], O1 B [[Q0 a.2.2.2.1, Q0 a.2.2.2.2.1, Q2 a.2.2.2.2.2.1]], .us E 27 6 (([b, n.1] : List Nw).map Ab), O0 M [Ab Q.2], .us af 3 1 (([A, U.1] : Li).map rI)]) ⟨⟨I, I, I, I, I, I, I, I, I, I, I, I, I, I, I, I, I, I, J⟩, pk N6⟩ (Ac fun hf fg => Bl I ff (qI ?_)))
 subst fg
 refine C6 (s' := [(1, .list 1 (f.map (rL 2 Aa))), (3, Q0 D), (4, .V A), (8, .P i), (14, .P g), (16, .list 1 (j.2.2.map (rL 2 Aa))), (17, .P B), (18, Q0 a.2.2.2.2.2.2), (19, .list 1 ((u.set w.1 t.1).map (rL 2 Aa))), (20, .list 1 ((H.set G.1 F.1).map rI)), (22, .P M), (137, .v E), (138, .V (([b, n.1] : List Nw).length : Int)), (139, .V (W : Int)), (223, .v af), (224, .V (([A, U.1] : Li).length : Int)), (225, .V (az : Int))]) (ob' := [O1 i [Aj e], O2 g [Bs U.2], O1 B [[Q0 a.2.2.2.1, Q0 a.2.2.2.2.1, Q2 a.2.2.2.2.2.1]], .us E 27 6 (([b, n.1] : List Nw).map Ab), O0 M [Ab Q.2], .us af 3 1 (([A, U.1] : Li).map rI)]) ⟨⟨I, I, I, I, I, I, I, I, I, I, I, I, I, I, I, I, I, J⟩, pk N6⟩ (qJ (qH (Ac fun hg fh => ?_)))
 obtain ⟨bi, ⟨fi, cm⟩, h⟩ := Bc h
 refine qD (qN (Bb 5 (m := bi.1) I I I I I I I fi (Ae cm)) I (qN (Ax 5 bi.1 0 I I I (Ae cm) I (y := .V bi.2) I) I (Af 1 I (qE ?_))))
 subst fh
 refine Ac fun hh fj => ?_
 obtain ⟨fk, fl, h⟩ := Ad h
 refine qD (Ao 5 [.o 0 4, .o 2 2] I J2 (qF [] I (Bg I I I (eL _ _ _ _ _ _ fl) dS ?_)))
 rintro _ _ ⟨hi, rfl, rfl⟩
 refine Af 7 I (qE ?_)
 subst fj
 refine Ac fun hj fm => ?_
 obtain ⟨fn, fo, h⟩ := Ad h
 refine qD (Ao 5 [.o 0 4, .o 2 2] I J2 (qF [] I (Bg I I I (dB _ _ _ _ _ _ fo) dS ?_)))
 rintro _ _ ⟨hk, rfl, rfl⟩
 refine Af 7 I (qE ?_)
 subst fm
 refine Ak (fun s ob => ∃ (bj : Bool), Vt.J8 bj = some fd ∧ s = [(263, .v (.bool bj))] ∧ ob = [O1 i [Aj e], O2 g [Bs U.2], O1 B [[Q0 a.2.2.2.1, Q0 a.2.2.2.2.1, Q2 a.2.2.2.2.2.1]], .us E 27 6 (([b, n.1] : List Nw).map Ab), O0 M [Ab Q.2], .us af 3 1 (([A, U.1] : Li).map rI)]) [(1, _), (3, _), (4, _), (8, _), (14, _), (16, _), (17, _), (18, _), (19, _), (20, _), (22, _), (137, _), (138, _), (139, _), (223, _), (224, _), (225, _)] ⟨I, I, I, I, I, I, I, I, I, I, I, I, I, I, I, I, I, J⟩ ?_ ?_
 obtain ⟨fp, bk, h⟩ := Ad h
 rcases bt ((!fp)) with a0 | a0
 have h := Cb a0 h
 refine qD (Af 2 I (qF [] I (Cz I (.refl _) I I (.cons (.us 6 I) (.rest _)) I (D5 _ _ _ bk) dS (by rintro _ _ ⟨rfl, _⟩; rfl) ?_)))
 rintro _ ⟨_, rfl, -⟩
 exact Af 2 I (Ah 253 I a0 (Af 10 I (qE (lg ⟨true, h, I2⟩ N6))))
 have h := Cc a0 h
 obtain ⟨fq, cn, h⟩ := Ad h
 rcases bt ((!fq)) with a4 | a4
 have h := Cb a4 h
 refine qD (Af 2 I (qF [] I (Cz I (.refl _) I I (.cons (.us 6 I) (.rest _)) I (D5 _ _ _ bk) dS (by rintro _ _ ⟨rfl, _⟩; rfl) ?_)))
 rintro _ ⟨_, rfl, -⟩
 refine Af 2 I (Ah 253 I a0 (Af 2 I (Bj I I I (qF [] I (Cz I (.refl _) I I (.cons (.refl _) (.cons (.us 7 I) (.rest _))) I (D5 _ _ _ cn) dS (by rintro _ _ ⟨rfl, _⟩; rfl) ?_)))))
 rintro _ ⟨_, rfl, -⟩
 exact Af 3 I (Ah 259 I a4 (Af 4 I (qE (lg ⟨true, h, I2⟩ N6))))
 have h := Cc a4 h
 refine qD (Af 2 I (qF [] I (Cz I (.refl _) I I (.cons (.us 6 I) (.rest _)) I (D5 _ _ _ bk) dS (by rintro _ _ ⟨rfl, _⟩; rfl) ?_)))
 rintro _ ⟨_, rfl, -⟩
 refine Af 2 I (Ah 253 I a0 (Af 2 I (Bj I I I (qF [] I (Cz I (.refl _) I I (.cons (.refl _) (.cons (.us 7 I) (.rest _))) I (D5 _ _ _ cn) dS (by rintro _ _ ⟨rfl, _⟩; rfl) ?_)))))
 rintro _ ⟨_, rfl, -⟩
 exact Af 3 I (Ah 259 I a4 (Af 4 I (qE (lg ⟨(fk.2.2 != fn.2.2), h, I2⟩ N6))))
 rintro s ob ⟨bj, h, rfl, rfl⟩
 refine Av h I ?_ ?_
 intro fr h
 refine Ai I ?_
 obtain rfl := fe _ (oi h).symm
 have h := cj
 have h := Dj h
 obtain rfl := bd _ (oi h).symm
 have h := a8
 have h := Dj h
 refine qL g0 ?_
 cases io h
 exact qK pr
 intro fr h
 refine qI (qD (Ao 2 [.k 0 (az + 1 : Nat)] I ⟨Az cl fb, J⟩ ?_))
 cases io h
 exact qE ⟨_, _, _, I, I2, ⟨I, I, I, I, I, I, I, I, I, I, I, I, I, I, I, I, I, J⟩, pk N6⟩
 rintro ck s ob ⟨rfl, rfl⟩ he
 subst he
 have h := Dp cj
 have fs := Cn (([A, U.1] : Li).length)
 exact Ai I (C6 (s' := [(1, .list 1 (f.map (rL 2 Aa))), (3, Q0 D), (4, .V A), (8, .P i), (14, .P g), (16, .list 1 (j.2.2.map (rL 2 Aa))), (17, .P B), (18, Q0 a.2.2.2.2.2.2), (19, .list 1 ((u.set w.1 t.1).map (rL 2 Aa))), (20, .list 1 ((H.set G.1 F.1).map rI)), (22, .P M), (137, .v E), (138, .V (([b, n.1] : List Nw).length : Int)), (139, .V (W : Int)), (223, .v af), (224, .V (([A, U.1] : Li).length : Int)), (225, .V ((([A, U.1] : Li).length : Nat) : Int)), (226, .v (.bool (decide (((([A, U.1] : Li).length : Nat) : Int) < (([A, U.1] : Li).length : Int)))))]) (ob' := [O1 i [Aj e], O2 g [Bs U.2], O1 B [[Q0 a.2.2.2.1, Q0 a.2.2.2.2.1, Q2 a.2.2.2.2.2.1]], .us E 27 6 (([b, n.1] : List Nw).map Ab), O0 M [Ab Q.2], .us af 3 1 (([A, U.1] : Li).map rI)]) ⟨⟨I, I, I, I, I, I, I, I, I, I, I, I, I, I, I, I, I, I, J⟩, pk N6⟩ (Ac fun hl hm => Bm I fs (qM (lg ⟨(U.2.L_, U.2.At), h, I2⟩ N4))))
 rintro s ob ⟨a9, h, rfl, rfl⟩
 unfold Vt.J5 at h
 refine qD (Ao 2 [.k 0 (W + 1 : Nat)] I ⟨Az b0 dm, J⟩ ?_)
 cases io h
 exact qE ⟨_, _, _, I, I2, mY, pk N4⟩
 rintro j s ob ⟨rfl, rfl⟩ he
 subst he
 have h := Dp a8
 have ft := Cn (([b, n.1] : List Nw).length)
 exact Ai I (C6 (s' := [(1, .list 1 (f.map (rL 2 Aa))), (3, Q0 D), (4, .V A), (8, .P i), (14, .P g), (16, .list 1 (j.2.2.map (rL 2 Aa))), (17, .P B), (18, Q0 a.2.2.2.2.2.2), (19, .list 1 ((u.set w.1 t.1).map (rL 2 Aa))), (20, .list 1 ((H.set G.1 F.1).map rI)), (137, .v E), (138, .V (([b, n.1] : List Nw).length : Int)), (139, .V ((([b, n.1] : List Nw).length : Nat) : Int)), (140, .v (.bool (decide (((([b, n.1] : List Nw).length : Nat) : Int) < (([b, n.1] : List Nw).length : Int)))))]) (ob' := [O1 i [Aj e], O2 g [[Q0 j.1, .V j.2.1]], O1 B [[Q0 a.2.2.2.1, Q0 a.2.2.2.2.1, Q2 a.2.2.2.2.2.1]], .us E 27 6 (([b, n.1] : List Nw).map Ab)]) ⟨mX, pk N4⟩ (Ac fun hn ho => Bm I ft (qM (lg ⟨(), h, I2⟩ []))))
 rintro s ob ⟨bw, h, rfl, rfl⟩
 refine qJ ?_
 obtain ⟨hp, fu, h⟩ := Ad h
 refine qD (qR (Ow  _ fu) (Af 1 I (qE ?_)))
 cases io h
 exact qK pr
end Go.Proofs.YtaoclefkknloiaaGreat
