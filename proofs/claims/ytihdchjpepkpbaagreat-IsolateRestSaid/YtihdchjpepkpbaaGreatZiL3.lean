/- Walks that show what functions of the program compute; printed by a program of ours. No condition. -/
import Derived.Test.YtihdchjpepkpbaaGreatZiL2
set_option maxRecDepth 100000
namespace Go.Proofs.YtihdchjpepkpbaaGreat
open Go.Aw
set_option linter.unusedVariables false
set_option linter.unusedSimpArgs false
set_option maxHeartbeats 4000000
abbrev Ps : PL := .act 15 (.still 16 (.act 17 (.act 18 (.still 19 (.drop 20 .nil)))))
abbrev Ss : PL := sl 27 0 (.still 28 (sl 3 30 (.act 27 (.still 29 (.still 33 (.still 34 .nil))))))
abbrev Mj : PL := .act 9 (.act 12 Ps)
abbrev aF : PL := .two 9 14 (.two 12 14 (.act 14 Ps) (.act 12 Ps)) Mj
abbrev aE : PL := .two 9 11 (.act 11 (.act 12 Ps)) Mj
abbrev fP : PL := .act 9 (.still 10 (.act 11 (.act 12 (.still 13 (.drop 14 .nil)))))
abbrev fO : PL := sl 8 0 (.act 8 (.act 9 (.still 10 (.drop 11 .nil))))
abbrev Pq : PL := .act 5 Mj
abbrev fN : PL := .still 20 (.act 21 (.act 22 (.act 23 .nil)))
abbrev Uk : PL := sl 17 0 (.drop 17 .nil)
theorem Qp (a : Int) (r : Int) (h : Gr a = r) : ACalls Ah 51 [.V a] [] (RV (.V r)) := by
 refine Ae Tryz.func51 I I I fun C hC => ?_
 unfold Gr at h
 refine Aj I (Aj I ?_)
 obtain rfl := h
 exact jN pr
theorem Yz (b : Plan) (r : Plan) (h : Rm b = some r) : ACalls Ah 52 [.agg (Al b)] [] (RV (.agg (Al r))) := by
 refine Ae Tryz.func52 I I I fun C hC => ?_
 refine Ab fun y1 O => jG (jI [] I (Br (Al b) 3 fun B => jI [] I (Bf W0 3 fun g => jH ?_)))
 subst O
 refine Ab fun y4 P => ?_
 obtain ⟨d, Q, h⟩ := Ac h
 refine jG (jI [] I (jY (sz := 1) (es := ([] : List Bool).map rB) I I I I I I I I I I I dS fun v5 => Ao 2 [.o 1 0] I J1 (jI [2] I (jV 2 I Q fun a => AO.one 2 I fun R => Bv (Bk (l := [.N, .N, .v a]) Di (Ci I I (A8 R) I (Fr))) I (jI [] I (Bf W0 3 fun i => jI [3] I (A1 3 0 0 [[.N, .N, .v a]] I (jH ?_))))))))
 subst P
 refine Ai (fun s ob => ∃ (e : Li) (c : Value), Rm.J1 b d e = some r ∧ s = [] ∧ ob = [O0 B [Al b], O0 g [W0], U1 a d, O0 i [[.v c, .N, .v a]], U0 c e]) (K3 1 2 3) J3 ?_ ?_
 refine Bd [.o 1 0, .l 2 (b.Rates.length : Int)] I ⟨As, I, J⟩ (jM (Ca 12 I fun S => jO (Au 3 1) ?_))
 obtain ⟨aq, U, W⟩ := Ac h
 refine C1 U (K4 1 2 3 13) J4 (fun (u : Nat) (w : Li) s ob => ∃ (j : Value), s = [(14, .V (u : Int))] ∧ ob = [O0 B [Al b], O0 g [W0], U1 a d, O0 i [[.v j, .N, .v a]], U0 j w]) ⟨nS, I2⟩ ⟨I, J⟩ (pk N5) ?_ ?_
 rintro u D w ar s ob X E ⟨j, rfl, rfl⟩ h
 have Y := Cy E
 refine Aj I (Ab fun au Z => Bs I Y (jL ?_))
 subst Z
 refine jK (jM (Aj I ?_))
 obtain ⟨av, aa, h⟩ := Ac h
 refine jT fO [3, 0] [_, _] I (Bx 8 [.o 1 0, .o 3 1, .x 5 u (rI D)] I ⟨⟨I, Ag X⟩, I, I, J⟩ (jJ [] I I I (jQ 1 (([wr (0 - D)] : Li).map rI) (jJ [4] I I I (jV 4 I aa fun F => Ax 1 I (jW 4 I fun ab => kA [3] I I I (jS 3 0 0 (es' := [[.v F, .N, .v a]]) I I I I I I (A8 ab) I (A6 I) I I (Ap (jH (jG (Ao 2 [.k 0 (u + 1 : Nat)] I ⟨Ay E S, J⟩ ?_)))))))))))
 cases io h
 exact jH (lg ⟨F, I2⟩ N5)
 rintro w s ob ⟨j, rfl, rfl⟩ he
 subst he
 have h := W
 have ac := Cz b.Rates.length
 exact Aj I (Ab fun aw ax => Bu I ac (jP (lg ⟨w, j, h, I2⟩ N5)))
 rintro s ob ⟨e, c, h, rfl, rfl⟩
 unfold Rm.J1 at h
 refine Ai (fun s ob => ∃ (n : Li) (f : Value), Rm.J2 d e n = some r ∧ s = [] ∧ ob = [O0 g [W0], U1 a d, O0 i [[.v c, .v f, .v a]], U0 c e, U0 f n]) (K2 2 3) J2 ?_ ?_
 refine Bd [.o 1 0, .l 2 (b.Ports.length : Int)] I ⟨As, I, J⟩ (jM (Ca 30 I fun ad => jO (Au 3 1) ?_))
 obtain ⟨ay, ae, af⟩ := Ac h
 refine C1 ae (K4 1 2 3 31) J4 (fun (y : Nat) (A : Li) s ob => ∃ (t : Value), s = [(32, .V (y : Int))] ∧ ob = [O0 B [Al b], O0 g [W0], U1 a d, O0 i [[.v c, .v t, .v a]], U0 c e, U0 t A]) ⟨nS, I2⟩ ⟨I, J⟩ (pk N6) ?_ ?_
 rintro y G A az s ob ag H ⟨t, rfl, rfl⟩ h
 have ah := Cy H
 refine Aj I (Ab fun a0 ai => Bs I ah (jL ?_))
 subst ai
 refine jK (jM (Aj I ?_))
 obtain ⟨a1, aj, h⟩ := Ac h
 refine jT fO [3, 0] [_, _] I (Bx 8 [.o 1 0, .o 3 1, .x 5 y (rI G)] I ⟨⟨I, Ag ag⟩, I, I, J⟩ (jJ [] I I I (jQ 1 (([wr (0 - G)] : Li).map rI) (jJ [5] I I I (jV 5 I aj fun M => Ax 1 I (jW 5 I fun ak => kA [3] I I I (jS 3 0 1 (es' := [[.v c, .v M, .v a]]) I I I I I I (A8 ak) I (A6 I) I I (Ap (jH (jG (Ao 2 [.k 0 (y + 1 : Nat)] I ⟨Ay H ad, J⟩ ?_)))))))))))
 cases io h
 exact jH (lg ⟨M, I2⟩ N6)
 rintro A s ob ⟨t, rfl, rfl⟩ he
 subst he
 have h := af
 have al := Cz b.Ports.length
 exact Aj I (Ab fun a2 a3 => Bu I al (jP (lg ⟨A, t, h, I2⟩ [1, 2, 3, 4, 5])))
 rintro s ob ⟨n, f, h, rfl, rfl⟩
 unfold Rm.J2 at h
 refine jK (jG (Ao 1 [.o 0 2] I J1 (jI [0] I (A1 0 0 0 [[.v c, .v f, .v a]] I (jH (jO (Ba [1, 3, 4] (K := [U1 a d, U0 c e, U0 f n]) I [] J (ob' := [O0 g [[Q0 e, Q0 n, Q5 d]], O0 i [[.v c, .v f, .v a]]]) (.cons (.arr (.cons (.us 1 I) (.cons (.us 2 I) (.cons (.us 0 I) (.rest _))))) (.rest _))) (C9 [0] I ?_)))))))
 cases io h
 exact jN ⟨.inr I, [_], [], ⟨⟨0, _, _, _, _, _, _, _, I5⟩, J⟩, Ct, I2⟩
theorem Y4 (i : Nat) (a3 : KS) (j : Nw) (r : Plan × KS) (h : Nf a3 j = some r) : ACalls Ah 10 [.P i, .agg (Aa j)] [O2 i [Cd a3]] (En 1 fun x os new => x = .agg (Al r.1) ∧ os = [O2 i [Cd r.2]] ∧ new = []) := by
 refine Ae Tryz.func10 I I I fun C hC => ?_
 unfold Nf at h
 refine Ab fun y1 co => jG (jI [] I (Br (Aa j) 6 fun G => jI [] I (Bf W0 3 fun D => jH ?_)))
 subst co
 refine Ai (fun s ob => ∃ (S : Li × Li) (w : Nat) (a : Value) (c : Value), Nf.J1 a3 j S = some r ∧ s = [(5, .P w)] ∧ ob = [O2 i [Cd a3], O1 G [Aa j], O0 D [W0], U0 a S.1, U0 c S.2, O0 w [[.v a, .v c, .N]]]) (K3 0 3 4) J3 ?_ ?_
 obtain ⟨bx, ⟨fg, cp, cq, cr⟩, h⟩ := Mh h
 obtain ⟨bz, ⟨fh, ct, cu, cv⟩, h⟩ := Mh h
 refine jT (sl 3 0 (sl 3 4 (.par [(3, []), (7, []), (9, []), (8, [3, 7])] (.act 10 .nil)))) [1] [_] I (Bx 6 [.o 1 0, .l 2 (j.Segments.length : Int), .o 4 0, .l 5 (j.Ports.length : Int)] I ⟨As, I, As, I, J⟩ (AP.any [⟨3, [], 25, .us 3 1 (bx.map rI)⟩, ⟨7, [], 29, .us 3 1 (bz.map rI)⟩, ⟨9, [], 5, .box 36 3 (W0)⟩, ⟨8, [3, 7], 30, .fn fun l => match l with | [.v ae, .v af] => .agg [.v ae, .v af, .N] | _ => .tup []⟩] I ⟨⟨_, I, I, I, fun _ => Dy (sz := 1) I I I I I I I I I I cp cq (Er (f := rI) cr I) dS fun v => ⟨_, I, ⟨v, I⟩, I⟩⟩, ⟨_, I, I, I, fun _ => Dy (sz := 1) I I I I I I I I I I ct cu (Er (f := rI) cv I) dS fun v => ⟨_, I, ⟨v, I⟩, I⟩⟩, ⟨_, I, I, I, fun _ => Bf W0 3 fun b => ⟨_, I, ⟨b, I⟩, I⟩⟩, ⟨_, I, I, I, fun ae b1 af b4 _ => Bm (Yp.yd (Bk (l := [.v ae, .v af, .N]) Di (Ci I I (A8 b1) I (Ci I I (A8 b4) I (Fr))))) dS ⟨_, I, I, nb⟩⟩, J⟩ ?_))
 intro ae b1 af b4 cw
 exact AP.same 30 (.agg [.v ae, .v af, .N]) I (jJ [5] I I I (A1 5 0 0 [[.v ae, .v af, .N]] I (Ap (jH (lg ⟨(bx, bz), cw, ae, af, h, I2⟩ N6)))))
 rintro s ob ⟨S, w, a, c, h, rfl, rfl⟩
 unfold Nf.J1 at h
 refine Ai (fun s ob => ∃ (p : Li × Int × (List Bool)) (g : Value), Nf.J2 j S p = some r ∧ s = [] ∧ ob = [O2 i [[Q0 p.1, .V p.2.1]], O1 G [Aa j], O0 D [W0], U0 a S.1, U0 c S.2, O0 w [[.v a, .v c, .v g]], U1 g p.2.2]) (K4 0 3 4 5) J4 ?_ ?_
 refine Aj I (jM (jO (Au 4 1) ?_))
 obtain ⟨fi, cx, cy⟩ := Ac h
 refine Cg cx (K4 0 3 4 5) J4 (fun (Y : Li × Int × (List Bool) × Int) s ob => ∃ (a4 : Value), s = [(6, .V Y.2.2.2)] ∧ ob = [O2 i [[Q0 Y.1, .V Y.2.1]], O1 G [Aa j], O0 D [W0], U0 a S.1, U0 c S.2, O0 w [[.v a, .v c, .v a4]], U1 a4 Y.2.2.1]) ⟨nS, I2⟩ ⟨I, J⟩ (pk N7) ?_
 rintro Y fj s ob ⟨a4, rfl, rfl⟩ h cz
 refine Ab fun fk c1 => Bd [.o 2 1, .l 3 (j.Stations.length : Int)] I ⟨As, I, J⟩ (Ar h I ?_ ?_)
 intro c2 h
 refine jL ?_
 subst c1
 refine jK (jM ?_)
 obtain ⟨c3, c4, h⟩ := Ac h
 obtain ⟨fl, c5, h⟩ := Ac h
 refine jT (sl 3 0 (.act 3 (.still 4 (.act 5 (.act 6 (.still 7 (.drop 8 .nil))))))) [5] [_] I (Bx 3 [.o 1 0] I J1 (jJ [0] I I I (Av [0] (Cs i _ _ _ c4) ?_)))
 refine Ax 1 I (jJ [] I I I (jQ 1 (([(c3.1 == 0)] : List Bool).map rB) (jJ [6] I I I (jV 6 I c5 fun b5 => Ax 1 I (jW 6 I fun c6 => kA [5] I I I (jS 5 0 2 (es' := [[.v a, .v c, .v b5]]) I I I I I I (A8 c6) I (A6 I) I I (Ap (jH (jG (Af 3 I ?_))))))))))
 cases io h
 exact jH ⟨_, _, _, I, ⟨b5, I2⟩, J5, pk N7⟩
 intro c2 h
 obtain rfl := cz _ (oi h).symm
 have h := cy
 exact jP (lg ⟨(Y.1, Y.2.1, Y.2.2.1), a4, h, I2⟩ N7)
 rintro s ob ⟨p, g, h, rfl, rfl⟩
 refine Ab fun fm c7 => ?_
 obtain ⟨c8, c9, h⟩ := Ac h
 refine jG (Af 1 I (jI [0] I (Av [0] (Cs i _ _ _ c9) ?_)))
 refine Af 2 I (jH ?_)
 subst c7
 refine Ai (fun s ob => ∃ (u : Li × Int × Li × Li), Nf.J3 p c8 u = some r ∧ s = [] ∧ ob = [O2 i [[Q0 u.1, .V u.2.1]], O0 D [W0], U0 a u.2.2.1, U0 c u.2.2.2, O0 w [[.v a, .v c, .v g]], U1 g p.2.2]) (K3 4 5 7) J3 ?_ ?_
 refine Ab fun fo da => ?_
 obtain ⟨fp, db, h⟩ := Ac h
 refine jG (Af 1 I (jI [0] I (Av [0] (Cs i _ _ _ db) ?_)))
 refine Af 1 I (jH ?_)
 subst da
 refine jM ?_
 obtain ⟨fq, dc, dd⟩ := Ac h
 refine Cg dc (K5 0 3 4 5 7) J5 (fun (e : Li × Int × Li × Li × Int) s ob => s = [(8, .V e.2.2.2.2)] ∧ ob = [O2 i [[Q0 e.1, .V e.2.1]], O1 G [Aa j], O0 D [W0], U0 a e.2.2.1, U0 c e.2.2.2.1, O0 w [[.v a, .v c, .v g]], U1 g p.2.2]) ⟨I, I⟩ ⟨I, J⟩ (pk N7) ?_
 rintro e a5 s ob ⟨rfl, rfl⟩ h de
 refine Ab fun fr df => Aj I (Ar h I ?_ ?_)
 intro dg h
 refine jL ?_
 subst df
 refine Ai (fun s ob => ∃ (al : Li × Int × Li × Li), Nf.J5 e al = some a5 ∧ s = [] ∧ ob = [O2 i [[Q0 al.1, .V al.2.1]], O1 G [Aa j], O0 D [W0], U0 a al.2.2.1, U0 c al.2.2.2, O0 w [[.v a, .v c, .v g]], U1 g p.2.2]) (K6 0 3 4 5 7 8) J6 ?_ ?_
 refine jM (Ab fun fs dh => ?_)
 obtain ⟨bf, di, h⟩ := Ac h
 refine jG (Ao 4 [.o 2 1, .l 3 (j.Ports.length : Int)] I ⟨As, I, J⟩ (jI [0] I (Av [0] (Cs i _ _ _ di) ?_)))
 refine Af 1 I (jH ?_)
 subst dh
 refine Ab fun ft dj => ?_
 obtain ⟨bg, ⟨dk, dl⟩, h⟩ := Bh h
 obtain ⟨fu, dm, h⟩ := Ac h
 obtain ⟨A, dn, h⟩ := Ac h
 refine jT (pd 13 0 [8, 9, 10]) [1] [_] I (Bx 8 [.o 1 0, .x 3 bg.1 (Bb bg.2)] I ⟨⟨dk, Ag dl⟩, I, J⟩ (jJ [] I I I (jQ 1 (([1, 5, 30, 300] : Li).map rI) (jJ [0] I I I (Av [0] (An i _ _ _ dm) ?_)))))
 refine jJ [0] I I I (Av [0] (Ei i _ _ _ _ dn) ?_)
 refine Ax 2 I (Ap (jH ?_))
 subst dj
 refine Ab fun fv dp => Ai (fun s ob => ∃ (bh : Bool), Nf.J6 j e bf bg A bh = some a5 ∧ s = [(86, .v (.bool bh))] ∧ ob = [O2 i [Cd A.2], O1 G [Aa j], O0 D [W0], U0 a e.2.2.1, U0 c e.2.2.2.1, O0 w [[.v a, .v c, .v g]], U1 g p.2.2]) (K9 0 3 4 5 7 8 9 10 11) J9 ?_ ?_
 obtain ⟨Z, ⟨b6, a6⟩, h⟩ := Bh h
 refine jG (Ao 3 [.o 1 5] I J1 (jR (Be 4 (m := Z.1) I I I I I I I b6 (Ag a6)) I (jR (A7 4 Z.1 0 I I I (Ag a6) I (y := .V Z.2) I) I (Af 2 I ?_))))
 rcases bt (decide (Z.2 < 0)) with ay | ay
 have h := Bp ay h
 exact Ad 77 I ay (Af 9 I (jH (lg ⟨true, h, I2⟩ N7)))
 have h := Bq ay h
 exact Ad 77 I ay (Ao 3 [.o 1 5] I J1 (A3 I I I (jR (Be 4 (m := Z.1) I I I I I I I b6 (Ag a6)) I (A3 I I I (jR (A7 4 Z.1 0 I I I (Ag a6) I (y := .V Z.2) I) I (Af 4 I (jH (lg ⟨decide ((wr (Z.2 + A.1)) > 1000), h, I2⟩ N7))))))))
 rintro s ob ⟨bh, h, rfl, rfl⟩
 refine Ar h I ?_ ?_
 intro dq h
 exact jP (lg ⟨(A.2.L_, A.2.At, e.2.2.1, e.2.2.2.1), h, I2⟩ N7)
 intro dq h
 refine jL ?_
 subst dp
 refine Aj I (Aj I (Ai (fun s ob => ∃ (E : Li × Int × Li × Int) (am : Value), Nf.J7 j e bf A E = some a5 ∧ s = [(12, .v am), (13, .V E.2.2.2)] ∧ ob = [O2 i [[Q0 E.1, .V E.2.1]], O1 G [Aa j], O0 D [W0], U0 a e.2.2.1, U0 c e.2.2.2.1, O0 w [[.v a, .v c, .v g]], U1 g p.2.2, U0 am E.2.2.1]) (K8 0 3 4 5 7 8 9 11) J8 ?_ ?_))
 refine jM (jO (Au 3 1) ?_)
 obtain ⟨fw, dr, bi⟩ := Ac h
 refine Cg dr (K8 0 3 4 5 7 8 9 11) J8 (fun (n : Li × Int × Int × Li × Int) s ob => ∃ (M : Value), s = [(10, .V n.2.2.1), (12, .v M), (13, .V n.2.2.2.2)] ∧ ob = [O2 i [[Q0 n.1, .V n.2.1]], O1 G [Aa j], O0 D [W0], U0 a e.2.2.1, U0 c e.2.2.2.1, O0 w [[.v a, .v c, .v g]], U1 g p.2.2, U0 M n.2.2.2.1]) ⟨nS, I2⟩ ⟨I, I, I, J⟩ (pk N8) ?_
 rintro n b7 s ob ⟨M, rfl, rfl⟩ h bj
 refine Ab fun fx ds => Aj I (Ar h I ?_ ?_)
 intro du h
 refine jL ?_
 subst ds
 refine jM (Ai (fun s ob => ∃ (F : Li × Int × Int), Nf.J12 j e A n F = some b7 ∧ s = [(13, .V F.2.2)] ∧ ob = [O2 i [[Q0 F.1, .V F.2.1]], O1 G [Aa j], O0 D [W0], U0 a e.2.2.1, U0 c e.2.2.2.1, O0 w [[.v a, .v c, .v g]], U1 g p.2.2, U0 M n.2.2.2.1]) (iL 0 3 4 5 7 8 9 10 11 12) iJ ?_ ?_)
 refine Bd [.o 1 1, .l 2 (j.Ports.length : Int)] I ⟨As, I, J⟩ (jM (Ca 90 I fun dv => ?_))
 obtain ⟨fy, dw, dx⟩ := Ac h
 refine C1 dw [(0, _), (3, _), (4, _), (5, _), (7, _), (8, _), (9, _), (10, _), (11, _), (12, _), (90, _), (91, _)] iS (fun (ag : Nat) (P : Li × Int × Int) s ob => s = [(92, .V (ag : Int)), (13, .V P.2.2)] ∧ ob = [O2 i [[Q0 P.1, .V P.2.1]], O1 G [Aa j], O0 D [W0], U0 a e.2.2.1, U0 c e.2.2.2.1, O0 w [[.v a, .v c, .v g]], U1 g p.2.2, U0 M n.2.2.2.1]) ⟨I, I⟩ ⟨I, I, J⟩ (pk N8) ?_ ?_
 rintro ag bk P b8 s ob dy b9 ⟨rfl, rfl⟩ h
 unfold Nf.B17 at h
 have dz := Cy b9
 refine Aj I (Ab fun fz d0 => Bs I dz (jL ?_))
 subst d0
 refine Ai (fun s ob => ∃ (az : Li × Int × Int), Nf.J18 az = some b8 ∧ s = [(13, .V az.2.2)] ∧ ob = [O2 i [[Q0 az.1, .V az.2.1]], O1 G [Aa j], O0 D [W0], U0 a e.2.2.1, U0 c e.2.2.2.1, O0 w [[.v a, .v c, .v g]], U1 g p.2.2, U0 M n.2.2.2.1]) [(0, _), (3, _), (4, _), (5, _), (7, _), (8, _), (9, _), (10, _), (11, _), (12, _), (90, _), (91, _), (92, _)] iM ?_ ?_
 refine jM (Ab fun f0 d1 => jG (Ao 3 [.x 1 ag (Bb bk)] I ⟨⟨I, Ag dy⟩, J⟩ (jI [] I (Bf W5 3 fun f1 => Af 1 I (jI [8] I (A1 8 0 0 [Bb bk] I (jH ?_)))))))
 subst d1
 refine Ai (fun s ob => ∃ (U : Li × Int × Bool), Nf.J19 ag P U = some b8 ∧ s = [(133, .v (.bool U.2.2))] ∧ ob = [O2 i [[Q0 U.1, .V U.2.1]], O1 G [Aa j], O0 D [W0], U0 a e.2.2.1, U0 c e.2.2.2.1, O0 w [[.v a, .v c, .v g]], U1 g p.2.2, U0 M n.2.2.2.1]) [(0, _), (3, _), (4, _), (5, _), (7, _), (8, _), (9, _), (10, _), (11, _), (12, _), (13, _), (14, _), (90, _), (91, _), (92, _)] iZ ?_ ?_
 rcases bt ((bk.Node == n.2.2.1)) with W | W
 have h := Bp W h
 rcases bt (((ag : Int) != bf.1)) with aa | aa
 have h := Bp aa h
 obtain ⟨B, ⟨ah, O⟩, h⟩ := Bh h
 rcases bt (decide (B.2 ≤ 0)) with ai | ai
 have h := Bp ai h
 rcases bt (decide ((wr (B.2 - A.1)) ≥ (-1000))) with an | an
 have h := Bp an h
 rcases bt (decide ((n.2.2.2.1.length : Int) > 0)) with a0 | a0
 have h := Bp a0 h
 obtain ⟨bl, d2, h⟩ := Ac h
 refine jG (Ao 5 [.o 1 8] I J1 (Ad 101 I W (Af 5 I (Ad 106 I aa (Ao 3 [.o 1 5] I J1 (A3 I I I (jR (Be 4 (m := B.1) I I I I I I I ah (Ag O)) I (A3 I I I (jR (A7 4 B.1 0 I I I (Ag O) I (y := .V B.2) I) I (Af 3 I (Ad 114 I ai (Ao 3 [.o 1 5] I J1 ?_))))))))))))
 refine A3 I I I (jR (Be 4 (m := B.1) I I I I I I I ah (Ag O)) I (A3 I I I (jR (A7 4 B.1 0 I I I (Ag O) I (y := .V B.2) I) I (Af 5 I (Ad 124 I an (Af 1 I (A3 I I I (jR (Cp 7 I I I I) I (Af 3 I (Ad 129 I a0 (Af 1 I (A3 I I I ?_))))))))))))
 refine jI [0] I (Av [0] (Cs i _ _ _ d2) ?_)
 exact Af 2 I (jH (lg ⟨(bl.2.L_, bl.2.At, (bl.1 == 0)), h, I2⟩ N8))
 have h := Bq a0 h
 refine jG (Ao 5 [.o 1 8] I J1 (Ad 101 I W (Af 5 I (Ad 106 I aa (Ao 3 [.o 1 5] I J1 (A3 I I I (jR (Be 4 (m := B.1) I I I I I I I ah (Ag O)) I (A3 I I I (jR (A7 4 B.1 0 I I I (Ag O) I (y := .V B.2) I) I (Af 3 I (Ad 114 I ai (Ao 3 [.o 1 5] I J1 ?_))))))))))))
 refine A3 I I I (jR (Be 4 (m := B.1) I I I I I I I ah (Ag O)) I (A3 I I I (jR (A7 4 B.1 0 I I I (Ag O) I (y := .V B.2) I) I (Af 5 I (Ad 124 I an (Af 1 I (A3 I I I (jR (Cp 7 I I I I) I (Af 3 I (Ad 129 I a0 (Af 4 I (jH ?_))))))))))))
 rotate_left
 have h := Bq an h
 refine jG (Ao 5 [.o 1 8] I J1 (Ad 101 I W (Af 5 I (Ad 106 I aa (Ao 3 [.o 1 5] I J1 (A3 I I I (jR (Be 4 (m := B.1) I I I I I I I ah (Ag O)) I (A3 I I I (jR (A7 4 B.1 0 I I I (Ag O) I (y := .V B.2) I) I (Af 3 I (Ad 114 I ai (Ao 3 [.o 1 5] I J1 ?_))))))))))))
 refine A3 I I I (jR (Be 4 (m := B.1) I I I I I I I ah (Ag O)) I (A3 I I I (jR (A7 4 B.1 0 I I I (Ag O) I (y := .V B.2) I) I (Af 5 I (Ad 124 I an (Af 9 I (jH ?_)))))))
 rotate_left
 have h := Bq ai h
 refine jG (Ao 5 [.o 1 8] I J1 (Ad 101 I W (Af 5 I (Ad 106 I aa (Ao 3 [.o 1 5] I J1 (A3 I I I (jR (Be 4 (m := B.1) I I I I I I I ah (Ag O)) I (A3 I I I (jR (A7 4 B.1 0 I I I (Ag O) I (y := .V B.2) I) I (Af 3 I (Ad 114 I ai (Af 19 I ?_))))))))))))
 refine jH ?_
 rotate_left
 have h := Bq aa h
 refine jG (Ao 5 [.o 1 8] I J1 (Ad 101 I W (Af 5 I (Ad 106 I aa (Af 27 I (jH ?_))))))
 rotate_left
 have h := Bq W h
 refine jG (Ao 5 [.o 1 8] I J1 (Ad 101 I W (Af 32 I (jH ?_))))
 any_goals
  exact lg ⟨(P.1, P.2.1, false), h, I2⟩ N8
 rintro s ob ⟨U, h, rfl, rfl⟩
 refine Ar h I ?_ ?_
 intro d3 h
 exact Sm I (lg ⟨(U.1, U.2.1, (ag : Int)), h, I2⟩ N8)
 intro d3 h
 exact jL (lg ⟨(U.1, U.2.1, P.2.2), h, I2⟩ N8)
 rintro s ob ⟨az, h, rfl, rfl⟩
 unfold Nf.J18 at h
 refine jG (Ao 2 [.k 0 (ag + 1 : Nat)] I ⟨Ay b9 dv, J⟩ ?_)
 cases io h
 exact jH (lg I2 N8)
 rintro P s ob ⟨rfl, rfl⟩ he
 subst he
 have h := dx
 have d4 := Cz j.Ports.length
 exact Aj I (Ab fun f2 f3 => Bu I d4 (jP (lg ⟨(P.1, P.2.1, P.2.2), h, I2⟩ N8)))
 rintro s ob ⟨F, h, rfl, rfl⟩
 refine Ab fun f4 d5 => Aj I (Ar h I ?_ ?_)
 intro d6 h
 obtain rfl := bj _ (oi h).symm
 have h := bi
 exact jP (lg ⟨(F.1, F.2.1, n.2.2.2.1, F.2.2), M, h, I2⟩ N8)
 intro d6 h
 refine jL ?_
 subst d5
 refine Aj I (Ai (fun s ob => ∃ (bm : Li) (bn : Value), Nf.J13 j n F bm = some b7 ∧ s = [(16, .v bn)] ∧ ob = [O2 i [[Q0 F.1, .V F.2.1]], O1 G [Aa j], O0 D [W0], U0 a e.2.2.1, U0 c e.2.2.2.1, O0 w [[.v a, .v c, .v g]], U1 g p.2.2, U0 M n.2.2.2.1, U0 bn bm]) [(0, _), (3, _), (4, _), (5, _), (7, _), (8, _), (9, _), (10, _), (11, _), (12, _), (13, _)] iI ?_ ?_)
 refine Bd [.o 1 1, .l 2 (j.Segments.length : Int)] I ⟨As, I, J⟩ (jM (Ca 139 I fun d7 => jO (Au 3 1) ?_))
 obtain ⟨f5, d8, d9⟩ := Ac h
 refine C1 d8 [(0, _), (3, _), (4, _), (5, _), (7, _), (8, _), (9, _), (10, _), (11, _), (12, _), (13, _), (139, _), (140, _)] iM (fun (ao : Nat) (aj : Li) s ob => ∃ (ak : Value), s = [(141, .V (ao : Int)), (16, .v ak)] ∧ ob = [O2 i [[Q0 F.1, .V F.2.1]], O1 G [Aa j], O0 D [W0], U0 a e.2.2.1, U0 c e.2.2.2.1, O0 w [[.v a, .v c, .v g]], U1 g p.2.2, U0 M n.2.2.2.1, U0 ak aj]) ⟨nS, I2⟩ ⟨I, I, J⟩ (pk N9) ?_ ?_
 rintro ao Q aj ca s ob ea cb ⟨ak, rfl, rfl⟩ h
 unfold Nf.B14 at h
 have eb := Cy cb
 refine Aj I (Ab fun f6 ec => Bs I eb (jL ?_))
 subst ec
 refine Ai (fun s ob => ∃ (bo : Li) (a7 : Value), Nf.J15 bo = some ca ∧ s = [(16, .v a7)] ∧ ob = [O2 i [[Q0 F.1, .V F.2.1]], O1 G [Aa j], O0 D [W0], U0 a e.2.2.1, U0 c e.2.2.2.1, O0 w [[.v a, .v c, .v g]], U1 g p.2.2, U0 M n.2.2.2.1, U0 a7 bo]) [(0, _), (3, _), (4, _), (5, _), (7, _), (8, _), (9, _), (10, _), (11, _), (12, _), (13, _), (139, _), (140, _), (141, _)] iR ?_ ?_
 refine jM (Ab fun f7 ed => jG (Ao 3 [.x 1 ao (Am Q)] I ⟨⟨I, Ag ea⟩, J⟩ (jI [] I (Bf W1 7 fun f8 => Af 1 I (jI [9] I (A1 9 0 0 [Am Q] I (jH ?_)))))))
 subst ed
 refine Ai (fun s ob => ∃ (bp : Bool), Nf.J16 ao aj bp = some ca ∧ s = [(180, .v (.bool bp))] ∧ ob = [O2 i [[Q0 F.1, .V F.2.1]], O1 G [Aa j], O0 D [W0], U0 a e.2.2.1, U0 c e.2.2.2.1, O0 w [[.v a, .v c, .v g]], U1 g p.2.2, U0 M n.2.2.2.1, U0 ak aj]) [(0, _), (3, _), (4, _), (5, _), (7, _), (8, _), (9, _), (10, _), (11, _), (12, _), (13, _), (16, _), (17, _), (139, _), (140, _), (141, _)] ⟨I, I, I, I, I, I, I, I, I, I, I, I, I, I, I, I, J⟩ ?_ ?_
 rcases bt ((Q.From == n.2.2.1)) with ab | ab
 have h := Bp ab h
 rcases bt (decide ((wr ((wr (Q.From + Q.To)) - n.2.2.1)) > n.2.2.1)) with a1 | a1
 have h := Bp a1 h
 obtain ⟨aq, ⟨ee, bq⟩, h⟩ := Bh h
 refine Cn 3 aq.1 I bq fun ef => jT Ss [9, 5, 3] [_, _, _] I (Bx 5 [.o 1 0] I J1 (A4 150 I ab (Bx 17 [.o 7 0, .o 9 0] I J2 (A4 167 I a1 (Bx 3 [.o 1 1] I J1 (Jj I I I I ((Bi (m := aq.1) I I I I I ef I ee bq).yd) dS (Jj I I I I (A7 2 aq.1 0 I I I (Ag bq) I (y := .V aq.2) I) dS (Bx 4 [.o 2 0] I J1 (G2 I (Qp aq.2 _ I) (Ax 3 I (Ap ?_)))))))))))
 exact jH (lg ⟨decide ((wr ((Gr aq.2) + A.1)) ≤ (min 1000 Q.Capacity)), h, I2⟩ N9)
 have h := Bq a1 h
 exact jT Ss [9] [_] I (Bx 5 [.o 1 0] I J1 (A4 150 I ab (Bx 17 [.o 7 0, .o 9 0] I J2 (A4 167 I a1 (Ax 13 I (Ap (jH (lg ⟨false, h, I2⟩ N9))))))))
 have h := Bq ab h
 rcases bt ((Q.To == n.2.2.1)) with ar | ar
 have h := Bp ar h
 rcases bt (decide ((wr ((wr (Q.From + Q.To)) - n.2.2.1)) > n.2.2.1)) with a2 | a2
 have h := Bp a2 h
 obtain ⟨au, ⟨eg, br⟩, h⟩ := Bh h
 refine Cn 3 au.1 I br fun eh => jT Ss [9, 5, 3] [_, _, _] I (Bx 5 [.o 1 0] I J1 (A4 150 I ab (Bx 6 [.o 1 0] I J1 (A4 156 I ar (Bx 11 [.o 1 0, .o 3 0] I J2 (A4 167 I a2 (Bx 3 [.o 1 1] I J1 (Jj I I I I ((Bi (m := au.1) I I I I I eh I eg br).yd) dS (Jj I I I I (A7 2 au.1 0 I I I (Ag br) I (y := .V au.2) I) dS (Bx 4 [.o 2 0] I J1 (G2 I (Qp au.2 _ I) ?_)))))))))))
 exact Ax 3 I (Ap (jH (lg ⟨decide ((wr ((Gr au.2) + A.1)) ≤ (min 1000 Q.Capacity)), h, I2⟩ N9)))
 have h := Bq a2 h
 exact jT Ss [9] [_] I (Bx 5 [.o 1 0] I J1 (A4 150 I ab (Bx 6 [.o 1 0] I J1 (A4 156 I ar (Bx 11 [.o 1 0, .o 3 0] I J2 (A4 167 I a2 (Ax 13 I (Ap (jH (lg ⟨false, h, I2⟩ N9))))))))))
 have h := Bq ar h
 exact jT Ss [9] [_] I (Bx 5 [.o 1 0] I J1 (A4 150 I ab (Bx 6 [.o 1 0] I J1 (A4 156 I ar (Ax 24 I (Ap (jH (lg ⟨false, h, I2⟩ N9))))))))
 rintro s ob ⟨bp, h, rfl, rfl⟩
 refine Ar h I ?_ ?_
 intro ei h
 obtain ⟨ej, ek, h⟩ := Ac h
 exact jG (Af 2 I (jI [] I (jQ 1 (([(ao : Int)] : Li).map rI) (jI [8] I (jV 8 I ek fun el => Af 1 I (jH (lg ⟨ej, el, h, I2⟩ N9)))))))
 intro ei h
 exact jL (lg ⟨aj, ak, h, I2⟩ N9)
 rintro s ob ⟨bo, a7, h, rfl, rfl⟩
 unfold Nf.J15 at h
 refine jG (Ao 2 [.k 0 (ao + 1 : Nat)] I ⟨Ay cb d7, J⟩ ?_)
 cases io h
 exact jH (lg ⟨a7, I2⟩ N9)
 rintro aj s ob ⟨ak, rfl, rfl⟩ he
 subst he
 have h := d9
 have em := Cz j.Segments.length
 exact Aj I (Ab fun f9 ga => Bu I em (jP (lg ⟨aj, ak, h, I2⟩ N9)))
 rintro s ob ⟨bm, bn, h, rfl, rfl⟩
 refine Ab fun gb en => jK (jG (Af 1 I (jR (Cp 8 I I I I) I (Af 1 I (jH (Ar h I ?_ ?_))))))
 intro eo h
 obtain rfl := bj _ (oi h).symm
 have h := bi
 exact jP (lg ⟨(F.1, F.2.1, n.2.2.2.1, F.2.2), M, h, I2⟩ N8)
 intro eo h
 refine jL ?_
 subst en
 refine Ab fun gc ep => ?_
 obtain ⟨gd, eq, h⟩ := Ac h
 obtain ⟨a8, ⟨er, cc⟩, h⟩ := Bh h
 refine jG (Af 3 I (jR (Cp 8 I I I I) I (jI [0] I (Av [0] (Cs i _ _ _ eq) ?_))))
 refine jR (Be 8 (m := a8.1) I I I I I I I er (Ag cc)) I (jR (A7 8 a8.1 0 I I I (Ag cc) I (y := .V a8.2) I) I (Af 1 I (jH ?_)))
 subst ep
 refine Ab fun ge es => ?_
 obtain ⟨gf, et, h⟩ := Ac h
 refine jG (Af 2 I (jI [] I (jQ 1 (([a8.2] : Li).map rI) (jI [7] I (jV 7 I et fun eu => Af 1 I (jH ?_))))))
 subst es
 obtain ⟨a9, ⟨cd, ce⟩, h⟩ := Bh h
 refine jT (pd 16 0 []) [1] [_] I (Bx 16 [.o 1 0, .x 3 a9.1 (Am a9.2), .o 7 0, .x 9 a9.1 (Am a9.2)] I ⟨⟨cd, Ag ce⟩, I, ⟨cd, Ag ce⟩, I, J⟩ (Ap ?_))
 cases io h
 exact jH ⟨_, _, _, I, ⟨eu, I2⟩, iI, pk N8⟩
 intro du h
 obtain rfl := bj _ (oi h).symm
 have h := bi
 exact jP (lg ⟨(n.1, n.2.1, n.2.2.2.1, n.2.2.2.2), M, h, I2⟩ N8)
 rintro s ob ⟨E, am, h, rfl, rfl⟩
 refine Ab fun gg ev => Aj I (Ar h I ?_ ?_)
 intro ew h
 exact jP (lg ⟨(E.1, E.2.1, e.2.2.1, e.2.2.2.1), h, I2⟩ N7)
 intro ew h
 refine jL ?_
 subst ev
 refine Ai (fun s ob => ∃ (av : Li), Nf.J8 j e A E av = some a5 ∧ s = [] ∧ ob = [O2 i [[Q0 E.1, .V E.2.1]], O1 G [Aa j], O0 D [W0], U0 a e.2.2.1, U0 c av, O0 w [[.v a, .v c, .v g]], U1 g p.2.2, U0 am E.2.2.1]) (K8 0 3 4 5 7 8 11 12) J8 ?_ ?_
 obtain ⟨H, ⟨bs, X⟩, h⟩ := Bh h
 obtain ⟨R, ⟨ex, ba⟩, h⟩ := Bh h
 obtain ⟨aw, ⟨cf, bb⟩, h⟩ := Bh h
 refine Cn 4 H.1 I X fun ey => Cn 4 R.1 I ba fun ez => Cn 4 H.1 I X fun cg => jT (sl 10 0 (.still 11 (sl 4 13 (.still 18 (.two 10 17 (.still 12 (.act 17 (.still 19 fN))) (.still 19 (.act 10 (.still 12 fN)))))))) [5] [_] I (Bx 9 [.o 1 0, .o 4 0, .o 7 0] I J3 (jZ I (Bi (m := H.1) I I I I I ey I bs X) I (Bx 4 [.o 2 0] I J1 (jZ I (Bi (m := R.1) I I I I I ez I ex ba) I (Ax 1 I (jX ?_ ?_))))))
 exact jJ [] I I I (Bm (A7 4 H.1 0 I I I (Ag X) I (y := .V H.2) I) dS (Ax 1 I (jJ [] I I I (Bm (A7 4 R.1 0 I I I (Ag ba) I (y := .V R.2) I) dS (Ax 1 I (jZ I (Bi (m := H.1) I I I I I cg I bs X) I (jJ [4] I I I (Ck 4 H.1 0 I I I (Ag X) I I I I (A6 I) I (Dp (x := wr (H.2 + A.1)) I) (jJ [] I I I (Bm (Be 4 (m := aw.1) I I I I I I I cf (Ag bb)) dS (jJ [4] I I I (Ck 4 aw.1 0 I I I (Ag bb) I I I I (A6 I) I (Dp (x := wr (R.2 - A.1)) I) (Ap (jH (lg ⟨((e.2.2.2.1.set H.1 (wr (H.2 + A.1))).set aw.1 (wr (R.2 - A.1))), h, I2⟩ N8)))))))))))))))
 exact jJ [] I I I (Bm (A7 4 R.1 0 I I I (Ag ba) I (y := .V R.2) I) dS (Ax 1 I (jJ [] I I I (Bm (A7 4 H.1 0 I I I (Ag X) I (y := .V H.2) I) dS (Ax 1 I (jZ I (Bi (m := H.1) I I I I I cg I bs X) I (jJ [4] I I I (Ck 4 H.1 0 I I I (Ag X) I I I I (A6 I) I (Dp (x := wr (H.2 + A.1)) I) (jJ [] I I I (Bm (Be 4 (m := aw.1) I I I I I I I cf (Ag bb)) dS (jJ [4] I I I (Ck 4 aw.1 0 I I I (Ag bb) I I I I (A6 I) I (Dp (x := wr (R.2 - A.1)) I) (Ap (jH (lg ⟨((e.2.2.2.1.set H.1 (wr (H.2 + A.1))).set aw.1 (wr (R.2 - A.1))), h, I2⟩ N8)))))))))))))))
 rintro s ob ⟨av, h, rfl, rfl⟩
 refine Ab fun gh e0 => jG (Af 1 I (jR (Cp 7 I I I I) I (Af 1 I (jH ?_))))
 subst e0
 refine jM (aJ 7 I fun e1 => ?_)
 obtain ⟨gi, e2, e3⟩ := Ac h
 refine Tr e2 (K9 0 3 4 5 7 8 11 239 240) J9 (fun (bu : Nat) (ax : Li) s ob => s = [(241, .V (bu : Int))] ∧ ob = [O2 i [[Q0 E.1, .V E.2.1]], O1 G [Aa j], O0 D [W0], U0 a ax, U0 c av, O0 w [[.v a, .v c, .v g]], U1 g p.2.2, U0 am E.2.2.1]) ⟨I, I⟩ ⟨I, J⟩ (pk N8) ?_ ?_
 rintro bu ax e4 s ob ci ⟨rfl, rfl⟩ h
 unfold Nf.B9 at h
 have e5 := Cy ci
 refine Aj I (Ab fun gj e6 => Bs I e5 (jL ?_))
 subst e6
 refine Ai (fun s ob => ∃ (bv : Li), Nf.J10 bv = some e4 ∧ s = [] ∧ ob = [O2 i [[Q0 E.1, .V E.2.1]], O1 G [Aa j], O0 D [W0], U0 a bv, U0 c av, O0 w [[.v a, .v c, .v g]], U1 g p.2.2, U0 am E.2.2.1]) (iL 0 3 4 5 7 8 11 239 240 241) iJ ?_ ?_
 refine jM (Ab fun gk e7 => ?_)
 obtain ⟨bw, ⟨e8, cj⟩, h⟩ := Bh h
 refine jG (jR (Be 7 (m := bw.1) I I I I I I I e8 (Ag cj)) I (jR (A7 7 bw.1 0 I I I (Ag cj) I (y := .V bw.2) I) I (Af 1 I (jH ?_))))
 subst e7
 refine Ab fun gl e9 => ?_
 obtain ⟨bc, ⟨ck, cl⟩, h⟩ := Bh h
 refine Su (pd 13 0 []) [1] [_] [.o 1 0, .x 3 bc.1 (Am bc.2), .o 7 0, .x 9 bc.1 (Am bc.2)] I I ⟨⟨ck, Ag cl⟩, I, ⟨ck, Ag cl⟩, I, J⟩ ?_
 subst e9
 refine Ar h I ?_ ?_
 intro fa h
 obtain ⟨ac, ⟨cm, bd⟩, h⟩ := Bh h
 exact jG (Ao 3 [.o 1 5] I J1 (jR (Be 3 (m := ac.1) I I I I I I I cm (Ag bd)) I (jR (A7 3 ac.1 0 I I I (Ag bd) I (y := .V ac.2) I) I (Af 2 I (jR (Be 3 (m := ac.1) I I I I I I I cm (Ag bd)) I (jI [3] I (Ck 3 ac.1 0 I I I (Ag bd) I I I I (A6 I) I (Dp (x := wr (ac.2 + A.1)) I) (jH (lg ⟨(ax.set ac.1 (wr (ac.2 + A.1))), h, I2⟩ N8)))))))))
 intro fa h
 obtain ⟨ad, ⟨cn, be⟩, h⟩ := Bh h
 exact jG (Ao 3 [.o 1 5] I J1 (jR (Be 3 (m := ad.1) I I I I I I I cn (Ag be)) I (jR (A7 3 ad.1 0 I I I (Ag be) I (y := .V ad.2) I) I (Af 2 I (jR (Be 3 (m := ad.1) I I I I I I I cn (Ag be)) I (jI [3] I (Ck 3 ad.1 0 I I I (Ag be) I I I I (A6 I) I (Dp (x := wr (ad.2 - A.1)) I) (jH (lg ⟨(ax.set ad.1 (wr (ad.2 - A.1))), h, I2⟩ N8)))))))))
 rintro s ob ⟨bv, h, rfl, rfl⟩
 unfold Nf.J10 at h
 refine jG (Ao 2 [.k 0 (bu + 1 : Nat)] I ⟨Ay ci e1, J⟩ ?_)
 cases io h
 exact jH (lg I2 N8)
 rintro ax s ob ⟨rfl, rfl⟩ he
 subst he
 have h := e3
 have fb := Cz E.2.2.1.length
 exact Aj I (Ab fun gm gn => Bu I fb (jP (lg ⟨(E.1, E.2.1, ax, av), h, I2⟩ N7)))
 rintro s ob ⟨al, h, rfl, rfl⟩
 unfold Nf.J5 at h
 refine jG (Af 3 I ?_)
 cases io h
 exact jH ⟨_, _, _, I, I2, J6, pk N7⟩
 intro dg h
 obtain rfl := de _ (oi h).symm
 have h := dd
 exact jP (lg ⟨(e.1, e.2.1, e.2.2.1, e.2.2.2.1), h, I2⟩ [0, 2, 3, 4, 5, 6])
 rintro s ob ⟨u, h, rfl, rfl⟩
 refine jK (Aj I (Ar h I ?_ ?_))
 intro fc h
 refine jK ?_
 obtain ⟨fd, fe, h⟩ := Ac h
 refine jG (Ao 1 [.o 0 4] I J1 (AO.ghost (Ba [2, 3, 5] (K := [U0 a u.2.2.1, U0 c u.2.2.2, U1 g p.2.2]) I [(276, .agg [Q0 u.2.2.1, Q0 u.2.2.2, Q5 p.2.2])] ⟨⟨_, I, .agg (.cons (.us 0 I) (.cons (.us 1 I) (.cons (.us 2 I) (.rest _))))⟩, J⟩ (ob' := [O2 i [[Q0 u.1, .V u.2.1]], O0 D [W0], O0 w [[Q0 u.2.2.1, Q0 u.2.2.2, Q5 p.2.2]]]) (.cons (.same _) (.cons (.same _) (.cons (.arr (.cons (.us 0 I) (.cons (.us 1 I) (.cons (.us 2 I) (.rest _))))) (.rest _))))) (jI [] I (Cq I I I (Yz _ _ fe) dS ?_))))
 rintro _ _ ⟨rfl, rfl⟩
 refine jI [1] I (A1 1 0 0 [Al fd] I (jH (C9 [0, 1] I ?_)))
 obtain rfl := oi h
 exact jN ⟨.inr I, [_], [O2 i [[Q0 u.1, .V u.2.1]]], ⟨⟨1, _, _, _, _, _, _, _, I5⟩, J⟩, Cx I (Ct), ⟨[O2 i [[Q0 u.1, .V u.2.1]]], [], I5⟩⟩
 intro fc h
 refine jL (jK (jG (Ao 1 [.o 0 4] I J1 (jI [1] I (A1 1 0 0 [[.v a, .v c, .v g]] I (jH (jO (Ba [2, 3, 5] (K := [U0 a u.2.2.1, U0 c u.2.2.2, U1 g p.2.2]) I [] J (ob' := [O2 i [[Q0 u.1, .V u.2.1]], O0 D [[Q0 u.2.2.1, Q0 u.2.2.2, Q5 p.2.2]], O0 w [[.v a, .v c, .v g]]]) (.cons (.same _) (.cons (.arr (.cons (.us 0 I) (.cons (.us 1 I) (.cons (.us 2 I) (.rest _))))) (.rest _)))) (C9 [0, 1] I ?_))))))))
 obtain rfl := oi h
 exact jN ⟨.inr I, [_], [O2 i [[Q0 u.1, .V u.2.1]]], ⟨⟨1, _, _, _, _, _, _, _, I5⟩, J⟩, Cx I (Ct), ⟨[O2 i [[Q0 u.1, .V u.2.1]]], [], I5⟩⟩
theorem Vn (e : Plan) (r : Plan) (h : Nq e = some r) : ACalls Ah 155 [.agg (Al e)] [] (fun x new => ∃ (j : Value) (k : Value) (n : Value), x = .agg [.v j, .v k, .v n] ∧ new = [U0 j r.Rates, U0 k r.Ports, U1 n r.Pumps]) := by
 refine Ae Tryz.func155 I I I fun C hC => ?_
 unfold Nq at h
 refine Ab fun G A => jG (jI [] I (Br (Al e) 3 fun H => jI [] I (Bf W0 3 fun B => jH ?_)))
 subst A
 refine Ai (fun s ob => ∃ (a : Li × Li × (List Bool)) (b : Value) (c : Value) (d : Value), Nq.J1 a = some r ∧ s = [] ∧ ob = [O0 B [[.v b, .v c, .v d]], U0 b a.1, U0 c a.2.1, U1 d a.2.2]) [(2, _)] J1 ?_ ?_
 obtain ⟨q, D, h⟩ := Ac h
 obtain ⟨t, E, h⟩ := Ac h
 obtain ⟨u, F, h⟩ := Ac h
 refine jT (.still 1 (.still 2 (.still 5 (.still 6 (.still 9 (.still 10 (.par [(0, []), (3, [0]), (4, []), (7, [4]), (8, []), (11, [8])] (.still 12 (.act 13 .nil))))))))) [0] [_] I (Bx 6 [.o 1 0, .o 3 0, .o 5 0] I J3 (AP.any [⟨0, [], 3, .lt 3 1⟩, ⟨3, [0], 6, .ap 0 3 1 (q.map rI)⟩, ⟨4, [], 7, .lt 3 1⟩, ⟨7, [4], 10, .ap 4 3 1 (t.map rI)⟩, ⟨8, [], 11, .lt 4 1⟩, ⟨11, [8], 14, .ap 8 4 1 (u.map rB)⟩] I ⟨⟨_, I, I, I, fun _ => jY (sz := 1) (es := ([] : Li).map rI) I I I I I I I I I I I dS fun v => ⟨_, I, ⟨v, I⟩, I⟩⟩, ⟨_, I, I, I, fun _ _ _ => jV (la := []) (fr := rI) 0 I D fun v => ⟨v, I2⟩⟩, ⟨_, I, I, I, fun _ => jY (sz := 1) (es := ([] : Li).map rI) I I I I I I I I I I I dS fun v => ⟨_, I, ⟨v, I⟩, I⟩⟩, ⟨_, I, I, I, fun _ _ _ => jV (la := []) (fr := rI) 0 I E fun v => ⟨v, I2⟩⟩, ⟨_, I, I, I, fun _ => jY (sz := 1) (es := ([] : List Bool).map rB) I I I I I I I I I I I dS fun v => ⟨_, I, ⟨v, I⟩, I⟩⟩, ⟨_, I, I, I, fun _ _ _ => jV (la := []) (fr := rB) 0 I F fun v => ⟨v, I2⟩⟩, J⟩ ?_))
 intro _ _ f w _ _ g y _ _ i z
 exact jW 2 I fun w => jW 3 I fun y => jW 4 I fun z => Q7 I (Bk (l := [.v f, .v g, .v i]) Di (Ci I I (A8 w) I (Ci I I (A8 y) I (Ci I I (A8 z) I (Fr))))) I (jJ [1] I I I (A1 1 0 0 [[.v f, .v g, .v i]] I (Ap (jH (lg ⟨(q, t, u), f, g, i, h, I2⟩ [1, 2, 3, 4])))))
 rintro s ob ⟨a, b, c, d, h, rfl, rfl⟩
 refine C9 [1, 2, 3, 0] I ?_
 obtain rfl := oi h
 exact jN ⟨.inr I, [_], [U0 b a.1, U0 c a.2.1, U1 d a.2.2], ⟨⟨3, _, _, _, _, _, _, _, I5⟩, J⟩, Cx I (Cx I (Cx I (Ct))), ⟨b, c, d, I2⟩⟩
theorem Zt (k : Nw) (u : Plan) (r : Plan) (h : Rx k u = some r) : ACalls Ah 94 [.agg (Aa k), .agg (Al u)] [] (RV (.agg (Al r))) := by
 refine Ae Tryz.func94 I I I fun C hC => ?_
 refine Ab fun y1 P => jG (jI [] I (Br (Aa k) 6 fun H => jI [] I (Br (Al u) 3 fun M => jI [] I (Bf W0 3 fun D => jH ?_))))
 subst P
 refine Ab fun y5 Q => ?_
 obtain ⟨f, R, h⟩ := Ac h
 refine jG (Ao 1 [.o 0 1] I J1 (jI [] I (Dz I (.refl _) I I (.rest _) I (Vn _ _ R) dS (by rintro _ _ ⟨_, _, _, rfl, rfl⟩; exact ⟨rfl, by intro p hp; simp only [List.mem_cons, List.not_mem_nil, or_false] at hp; rcases hp with rfl | rfl | rfl <;> exact D9 fun _ => rfl⟩) ?_)))
 rintro _ _ ⟨g, i, j, rfl, rfl⟩
 refine jI [] I (Bf W0 3 fun E => jI [6] I (A1 6 0 0 [[.v g, .v i, .v j]] I (jH ?_)))
 subst Q
 refine Ai (fun s ob => ∃ (w : List Bool), Rx.J1 f w = some r ∧ s = [] ∧ ob = [O0 D [W0], U0 g f.Rates, U0 i f.Ports, U1 j w, O0 E [[.v g, .v i, .v j]]]) (K2 4 5) J2 ?_ ?_
 refine Aj I (jM ?_)
 obtain ⟨am, S, U⟩ := Ac h
 refine Cg S (K4 2 3 4 5) J4 (fun (e : (List Bool) × Int) s ob => s = [(6, .V e.2)] ∧ ob = [O1 H [Aa k], O0 M [Al u], O0 D [W0], U0 g f.Rates, U0 i f.Ports, U1 j e.1, O0 E [[.v g, .v i, .v j]]]) ⟨I, I⟩ ⟨I, J⟩ (pk N7) ?_
 rintro e W s ob ⟨rfl, rfl⟩ h X
 unfold Rx.B2 at h
 refine Ab fun an Y => Dv 22 (decide (e.2 < (k.Stations.length : Int)) && decide (e.2 < (e.1.length : Int))) ?_ ?_
 refine jG (Ao 6 [.o 2 0, .l 3 (k.Stations.length : Int)] I ⟨As, I, J⟩ ?_)
 rcases bt (decide (e.2 < (k.Stations.length : Int))) with A | A
 exact Ad 16 I A (Ao 3 [.o 2 6] I J1 (A3 I I I (jR (Cp 5 I I I I) I (Af 2 I (jH (jf (by simp only [A, bz]) I I I2))))))
 exact Ad 16 I A (Af 6 I (jH (jf (by simp only [A, bz]) I I I2)))
 refine Ar h I ?_ ?_
 intro Z h
 refine jL ?_
 subst Y
 refine Ai (fun s ob => ∃ (F : List Bool), Rx.J3 e F = some W ∧ s = [] ∧ ob = [O1 H [Aa k], O0 M [Al u], O0 D [W0], U0 g f.Rates, U0 i f.Ports, U1 j F, O0 E [[.v g, .v i, .v j]]]) (K5 2 3 4 5 6) J5 ?_ ?_
 refine jM (Ab fun ao aa => ?_)
 obtain ⟨O, ⟨ab, ac⟩, h⟩ := Bh h
 obtain ⟨G, ad, h⟩ := Ac h
 refine jT (pd 14 0 [8]) [0, 1] [_, _] I (Bx 8 [.o 0 0, .o 1 1, .o 3 0, .x 5 O.1 (A5 O.2)] I ⟨⟨ab, Ag ac⟩, I, I, I, J⟩ (kC I (Zq _ _ _ _ ad) (Ax 5 I (Ap (jH ?_)))))
 subst aa
 obtain ⟨a, ⟨n, b⟩, h⟩ := Bh h
 rcases bt (a.2) with t | t
 have h := Bp t h
 rcases bt ((G.2 == 0)) with B | B
 have h := Bp B h
 refine Cn 5 a.1 I b fun ae => Cn 5 a.1 I b fun af => jT Uk [6, 5] [_, _] I (Bx 6 [.o 1 0, .o 4 0] I J2 (jZ I (Bi (m := a.1) I I I I I ae I n b) I (AP.o I (A7 1 a.1 0 I I I (Ag b) I (y := .v (.bool a.2)) I) I (Ax 1 I (A4 45 I t (Ax 4 I (A4 49 I B (Ax 3 I (jZ I (Bi (m := a.1) I I I I I af I n b) I (kA [5] I I I (Ck 5 a.1 0 I I I (Ag b) I I I I (A6 I) I (Dp (x := decide (G.1 > 0)) I) ?_)))))))))))
 exact Ap (jH (lg ⟨(e.1.set a.1 (decide (G.1 > 0))), h, I2⟩ N7))
 have h := Bq B h
 refine Cn 5 a.1 I b fun ag => Cn 5 a.1 I b fun ah => jT Uk [6, 5] [_, _] I (Bx 6 [.o 1 0, .o 4 0] I J2 (jZ I (Bi (m := a.1) I I I I I ag I n b) I (AP.o I (A7 1 a.1 0 I I I (Ag b) I (y := .v (.bool a.2)) I) I (Ax 1 I (A4 45 I t (Ax 4 I (A4 49 I B (Ax 3 I (jZ I (Bi (m := a.1) I I I I I ah I n b) I (kA [5] I I I (Ck 5 a.1 0 I I I (Ag b) I I I I (A6 I) I (Dp (x := false) I) ?_)))))))))))
 exact Ap (jH (lg ⟨(e.1.set a.1 false), h, I2⟩ N7))
 have h := Bq t h
 exact Cn 5 a.1 I b fun ai => Cn 5 a.1 I b fun aj => jT Uk [6, 5] [_, _] I (Bx 6 [.o 1 0, .o 4 0] I J2 (jZ I (Bi (m := a.1) I I I I I ai I n b) I (AP.o I (A7 1 a.1 0 I I I (Ag b) I (y := .v (.bool a.2)) I) I (Ax 1 I (A4 45 I t (Ax 7 I (jZ I (Bi (m := a.1) I I I I I aj I n b) I (kA [5] I I I (Ck 5 a.1 0 I I I (Ag b) I I I I (A6 I) I (Dp (x := false) I) (Ap (jH (lg ⟨(e.1.set a.1 false), h, I2⟩ N7))))))))))))
 rintro s ob ⟨F, h, rfl, rfl⟩
 unfold Rx.J3 at h
 refine jG (Af 3 I ?_)
 cases io h
 exact jH ⟨_, _, _, I, I2, J5, pk N7⟩
 intro Z h
 obtain rfl := X _ (oi h).symm
 have h := U
 exact jP (lg ⟨e.1, h, I2⟩ [2, 3, 4, 5, 6])
 rintro s ob ⟨w, h, rfl, rfl⟩
 unfold Rx.J1 at h
 refine jK (jG (Ao 1 [.o 0 4] I J1 (jI [0] I (A1 0 0 0 [[.v g, .v i, .v j]] I (jH (jO (Ba [1, 2, 3] (K := [U0 g f.Rates, U0 i f.Ports, U1 j w]) I [] J (ob' := [O0 D [[Q0 f.Rates, Q0 f.Ports, Q5 w]], O0 E [[.v g, .v i, .v j]]]) (.cons (.arr (.cons (.us 0 I) (.cons (.us 1 I) (.cons (.us 2 I) (.rest _))))) (.rest _))) (C9 [0] I ?_)))))))
 cases io h
 exact jN ⟨.inr I, [_], [], ⟨⟨0, _, _, _, _, _, _, _, I5⟩, J⟩, Ct, I2⟩
theorem Y7 (a : Nat) (c : KS) (b : Nw) (r : Plan × KS) (h : Rq c b = some r) : ACalls Ah 38 [.P a, .agg (Aa b)] [O2 a [Cd c]] (En 1 fun x os new => x = .agg (Al r.1) ∧ os = [O2 a [Cd r.2]] ∧ new = []) := by
 refine Ae Tryz.func38 I I I fun C hC => ?_
 refine jK (jG (jI [] I (Br (Aa b) 6 fun i => jI [] I (Bf W0 3 fun j => jH (jK ?_)))))
 obtain ⟨d, e, h⟩ := Ac h
 obtain ⟨f, g, h⟩ := Ac h
 refine jT (pd 6 0 [3, 4, 5]) [1] [_] I (Bx 3 [.o 0 0, .o 2 0] I J2 (jJ [0] I I I (Av [0] (Y4 a _ _ _ e) ?_)))
 refine jJ [] I I I (Cq I I I (Zt _ _ _ g) dS ?_)
 rintro _ _ ⟨rfl, rfl⟩
 refine jJ [2] I I I (A1 2 0 0 [Al f] I (Ap (jH (C9 [0, 2] I ?_))))
 obtain rfl := oi h
 exact jN ⟨.inr I, [_], [O2 a [Cd d.2]], ⟨⟨1, _, _, _, _, _, _, _, I5⟩, J⟩, Cx I (Ct), ⟨[O2 a [Cd d.2]], [], I5⟩⟩
theorem Ze (a : Nat) (au : KS) (r : Nw × KS) (h : Rr au = some r) : ACalls Ah 9 [.P a] [O2 a [Cd au]] (En 1 fun x os new => x = .agg (Aa r.1) ∧ os = [O2 a [Cd r.2]] ∧ new = []) := by
 refine Ae Tryz.func9 I I I fun C hC => ?_
 refine Ab fun y1 a4 => jG (jI [] I (Bf W4 6 fun A => jH ?_))
 subst a4
 refine Ab fun y3 a5 => ?_
 obtain ⟨f, a6, h⟩ := Ac h
 obtain ⟨g, a7, h⟩ := Ac h
 refine jG (Af 1 I (jI [] I (jQ 1 (([(-100000), 0, 50000] : Li).map rI) (jI [0] I (Av [0] (An a _ _ _ a6) ?_)))))
 refine Af 1 I (jI [] I (jQ 1 (([0, 1, 5, 100] : Li).map rI) (jI [0] I (Av [0] (An a _ _ _ a7) ?_))))
 refine Bv (Bk (l := [.N, .N, .N, .N, .V f.1, .V g.1]) Ox I) I (jI [] I (Bf W4 6 fun B => jI [2] I (A1 2 0 0 [[.N, .N, .N, .N, .V f.1, .V g.1]] I (jH ?_))))
 subst a5
 refine Ai (fun s ob => ∃ (k : Li × Int × (List Bt)) (e : Value), Rr.J1 f g k = some r ∧ s = [] ∧ ob = [O2 a [[Q0 k.1, .V k.2.1]], O1 A [W4], O1 B [[.v e, .N, .N, .N, .V f.1, .V g.1]], U2 e k.2.2]) (K3 0 2 3) J3 ?_ ?_
 refine Ab fun cx a8 => ?_
 obtain ⟨an, a9, h⟩ := Ac h
 refine jG (Af 1 I (jI [0] I (Av [0] (Ei a _ _ _ _ a9) ?_)))
 refine Af 1 I (jH ?_)
 subst a8
 refine jM (jO (Au 9 1) ?_)
 obtain ⟨cy, ba, bb⟩ := Ac h
 refine Cg ba (K3 0 2 3) J3 (fun (ad : (List Bt) × Int) s ob => ∃ (ae : Value), s = [(4, .V ad.2)] ∧ ob = [O2 a [Cd an.2], O1 A [W4], O1 B [[.v ae, .N, .N, .N, .V f.1, .V g.1]], U2 ae ad.1]) ⟨nS, I2⟩ ⟨I, J⟩ (pk N4) ?_
 rintro ad cz s ob ⟨ae, rfl, rfl⟩ h bc
 refine Ab fun c1 bd => Aj I (Ar h I ?_ ?_)
 intro be h
 refine jL ?_
 subst bd
 refine jK (jM ?_)
 obtain ⟨bf, bg, h⟩ := Ac h
 obtain ⟨c2, bh, h⟩ := Ac h
 refine Ho 3 I fun bi => jT (sl 5 0 (.act 5 (.act 6 (.act 7 (.still 8 (.drop 9 .nil)))))) [2] [_] I (Bx 4 [.o 1 0, .o 3 0] I J2 (jZ I (Hl I I I bi) I (kC I (Cj _ _ _ bg) (jJ [] I I I (jQ 1 (([bf] : List Bt).map rS) (jJ [3] I I I (jV 3 I bh fun av => Ax 1 I (jW 3 I fun bj => kA [2] I I I (jS 2 0 0 (es' := [[.v av, .N, .N, .N, .V f.1, .V g.1]]) I I I I I I (A8 bj) I (A6 I) I I (Ap (jH (jG ?_))))))))))))
 refine Af 3 I ?_
 cases io h
 exact jH ⟨_, _, _, I, ⟨av, I2⟩, J4, pk N4⟩
 intro be h
 obtain rfl := bc _ (oi h).symm
 have h := bb
 exact jP (lg ⟨(an.2.L_, an.2.At, ad.1), ae, h, I2⟩ N4)
 rintro s ob ⟨k, e, h, rfl, rfl⟩
 unfold Rr.J1 at h
 refine Ab fun c3 bk => jG (Ao 2 [.o 1 2] I J1 (jR (Cp 3 I I I I) I (Af 2 I (jH ?_))))
 subst bk
 refine Ai (fun s ob => ∃ (Z : Li × Int × (List Sg)) (af : Value), Rr.J2 f g k Z = some r ∧ s = [] ∧ ob = [O2 a [[Q0 Z.1, .V Z.2.1]], O1 A [W4], O1 B [[.v e, .v af, .N, .N, .V f.1, .V g.1]], U2 e k.2.2, U5 af Z.2.2]) (K4 0 2 3 5) J4 ?_ ?_
 refine Aj I (jM (jO (Au 93 7) ?_))
 obtain ⟨c4, bl, bm⟩ := Ac h
 refine Cg bl (K4 0 2 3 5) J4 (fun (F : Li × Int × (List Sg) × Int) s ob => ∃ (ag : Value), s = [(6, .V F.2.2.2)] ∧ ob = [O2 a [[Q0 F.1, .V F.2.1]], O1 A [W4], O1 B [[.v e, .v ag, .N, .N, .V f.1, .V g.1]], U2 e k.2.2, U5 ag F.2.2.1]) ⟨nS, I2⟩ ⟨I, J⟩ (pk N5) ?_
 rintro F c5 s ob ⟨ag, rfl, rfl⟩ h bn
 refine Ab fun c6 bo => Aj I (Ar h I ?_ ?_)
 intro bp h
 refine jL ?_
 subst bo
 refine jK (jM ?_)
 obtain ⟨bq, br, h⟩ := Ac h
 obtain ⟨c7, bs, h⟩ := Ac h
 refine Ho 4 I fun bu => jT (sl 9 0 (.act 9 (.act 10 (.act 11 (.still 12 (.drop 13 .nil)))))) [2] [_] I (Bx 5 [.o 1 0, .o 4 0] I J2 (jZ I (Hl I I I bu) I (Ax 3 I (jJ [0] I I I (Av [0] (Ql a _ _ _ _ _ br) ?_)))))
 refine jJ [] I I I (jQ 7 (([bq.1] : List Sg).map Am) (jJ [4] I I I (jV 4 I bs fun aw => Ax 1 I (jW 4 I fun bv => kA [2] I I I (jS 2 0 1 (es' := [[.v e, .v aw, .N, .N, .V f.1, .V g.1]]) I I I I I I (A8 bv) I (A6 I) I I (Ap (jH (jG (Af 3 I ?_)))))))))
 cases io h
 exact jH ⟨_, _, _, I, ⟨aw, I2⟩, J5, pk N5⟩
 intro bp h
 obtain rfl := bn _ (oi h).symm
 have h := bm
 exact jP (lg ⟨(F.1, F.2.1, F.2.2.1), ag, h, I2⟩ N5)
 rintro s ob ⟨Z, af, h, rfl, rfl⟩
 unfold Rr.J2 at h
 refine Ai (fun s ob => ∃ (y : Li × Int × (List Sg)) (t : Value), Rr.J3 f g k y = some r ∧ s = [] ∧ ob = [O2 a [[Q0 y.1, .V y.2.1]], O1 A [W4], O1 B [[.v e, .v t, .N, .N, .V f.1, .V g.1]], U2 e k.2.2, U5 t y.2.2]) (K4 0 2 3 5) J4 ?_ ?_
 refine Ab fun c8 bw => ?_
 obtain ⟨c9, bx, h⟩ := Ac h
 refine jG (Af 1 I (jI [0] I (Av [0] (Cs a _ _ _ bx) ?_)))
 refine Af 1 I (jH ?_)
 subst bw
 refine jM ?_
 obtain ⟨da, bz, b1⟩ := Ac h
 refine Cg bz (K4 0 2 3 5) J4 (fun (G : Li × Int × (List Sg) × Int) s ob => ∃ (ah : Value), s = [(7, .V G.2.2.2)] ∧ ob = [O2 a [[Q0 G.1, .V G.2.1]], O1 A [W4], O1 B [[.v e, .v ah, .N, .N, .V f.1, .V g.1]], U2 e k.2.2, U5 ah G.2.2.1]) ⟨af, I2⟩ ⟨I, J⟩ (pk N5) ?_
 rintro G db s ob ⟨ah, rfl, rfl⟩ h b3
 refine Ab fun dc b4 => Aj I (Ar h I ?_ ?_)
 intro b5 h
 refine jL ?_
 subst b4
 refine jK (jM (Ab fun dd b6 => ?_))
 obtain ⟨de, b7, h⟩ := Ac h
 refine jG (Af 2 I (jI [0] I (Av [0] (Cs a _ _ _ b7) ?_)))
 refine Af 1 I (jH ?_)
 subst b6
 obtain ⟨df, b8, h⟩ := Ac h
 obtain ⟨b9, ca, h⟩ := Ac h
 obtain ⟨dg, cb, h⟩ := Ac h
 refine Ho 4 I fun cc => jT (sl 11 0 (.act 11 (.act 12 (.act 13 (.act 14 (.still 15 (.drop 16 .nil))))))) [2] [_] I (Bx 5 [.o 1 0, .o 4 0] I J2 (jZ I (Hl I I I cc) I (Ax 5 I (jJ [0] I I I (Av [0] (Ei a _ _ _ _ b8) ?_)))))
 refine jJ [0] I I I (Av [0] (Ql a _ _ _ _ _ ca) ?_)
 refine jJ [] I I I (jQ 7 (([b9.1] : List Sg).map Am) (jJ [4] I I I (jV 4 I cb fun ax => Ax 1 I (jW 4 I fun cd => kA [2] I I I (jS 2 0 1 (es' := [[.v e, .v ax, .N, .N, .V f.1, .V g.1]]) I I I I I I (A8 cd) I (A6 I) I I (Ap (jH (jG (Af 3 I ?_)))))))))
 cases io h
 exact jH ⟨_, _, _, I, ⟨ax, I2⟩, J5, pk N5⟩
 intro b5 h
 obtain rfl := b3 _ (oi h).symm
 have h := b1
 exact jP (lg ⟨(G.1, G.2.1, G.2.2.1), ah, h, I2⟩ N5)
 rintro s ob ⟨y, t, h, rfl, rfl⟩
 unfold Rr.J3 at h
 refine Ai (fun s ob => ∃ (u : Li × Int × (List Port) × (List Sn)) (R : Value) (S : Value), Rr.J4 f g k y u = some r ∧ s = [] ∧ ob = [O2 a [[Q0 u.1, .V u.2.1]], O1 A [W4], O1 B [[.v e, .v t, .v R, .v S, .V f.1, .V g.1]], U2 e k.2.2, U5 t y.2.2, U6 R u.2.2.1, U7 S u.2.2.2]) (K2 2 3) J2 ?_ ?_
 refine Aj I (jM (jO (Au 95 3) (jO (Au 102 5) ?_)))
 obtain ⟨dh, ce, cf⟩ := Ac h
 refine Cg ce (K4 0 2 3 5) J4 (fun (b : Li × Int × (List Port) × (List Sn) × Int) s ob => ∃ (O : Value) (D : Value), s = [(9, .V b.2.2.2.2)] ∧ ob = [O2 a [[Q0 b.1, .V b.2.1]], O1 A [W4], O1 B [[.v e, .v t, .v O, .v D, .V f.1, .V g.1]], U2 e k.2.2, U5 t y.2.2, U6 O b.2.2.1, U7 D b.2.2.2.1]) ⟨nS, nS, I2⟩ ⟨I, J⟩ (pk N7) ?_
 rintro b ai s ob ⟨O, D, rfl, rfl⟩ h ci
 refine Ab fun di cj => Aj I (Ar h I ?_ ?_)
 intro ck h
 refine jL ?_
 subst cj
 refine Ai (fun s ob => ∃ (U : Li × Int × (List Port) × (List Sn)) (aj : Value) (ak : Value), Rr.J6 b U = some ai ∧ s = [] ∧ ob = [O2 a [[Q0 U.1, .V U.2.1]], O1 A [W4], O1 B [[.v e, .v t, .v aj, .v ak, .V f.1, .V g.1]], U2 e k.2.2, U5 t y.2.2, U6 aj U.2.2.1, U7 ak U.2.2.2]) (K5 0 2 3 5 9) J5 ?_ ?_
 refine jM (Ai (fun s ob => ∃ (E : Li × Int × (List Port)) (H : Value), Rr.J7 k b E = some ai ∧ s = [] ∧ ob = [O2 a [[Q0 E.1, .V E.2.1]], O1 A [W4], O1 B [[.v e, .v t, .v H, .v D, .V f.1, .V g.1]], U2 e k.2.2, U5 t y.2.2, U6 H E.2.2, U7 D b.2.2.2.1]) (K5 0 2 3 5 9) J5 ?_ ?_)
 refine Ai (fun s ob => ∃ (P : Li × Int × Bool), Rr.J9 k b P = some ai ∧ s = [(95, .v (.bool P.2.2))] ∧ ob = [O2 a [[Q0 P.1, .V P.2.1]], O1 A [W4], O1 B [[.v e, .v t, .v O, .v D, .V f.1, .V g.1]], U2 e k.2.2, U5 t y.2.2, U6 O b.2.2.1, U7 D b.2.2.2.1]) (K5 0 2 3 5 9) J5 ?_ ?_
 rcases bt ((b.2.2.2.2 == 0)) with W | W
 have h := Bp W h
 exact jG (Af 3 I (Ad 86 I W (Af 9 I (jH (lg ⟨(b.1, b.2.1, true), h, I2⟩ N7)))))
 have h := Bq W h
 rcases bt ((b.2.2.2.2 == (wr ((k.2.2.length : Int) - 1)))) with aa | aa
 have h := Bp aa h
 exact jG (Af 3 I (Ad 86 I W (Af 5 I (Ad 91 I aa (Af 4 I (jH (lg ⟨(b.1, b.2.1, true), h, I2⟩ N7)))))))
 have h := Bq aa h
 obtain ⟨ao, cl, h⟩ := Ac h
 refine jG (Af 3 I (Ad 86 I W (Af 5 I (Ad 91 I aa (Af 1 I (A3 I I I (jI [0] I (Av [0] (Cs a _ _ _ cl) ?_))))))))
 exact Af 2 I (jH (lg ⟨(ao.2.L_, ao.2.At, (ao.1 == 0)), h, I2⟩ N7))
 rintro s ob ⟨P, h, rfl, rfl⟩
 refine Ar h I ?_ ?_
 intro cm h
 obtain ⟨al, ay, h⟩ := Ac h
 obtain ⟨M, az, h⟩ := Ac h
 obtain ⟨a0, a1, h⟩ := Ac h
 refine Ho 5 I fun cn => jT (sl 5 0 (.still 6 (.still 7 (.two 5 8 (.act 8 fP) (.act 5 fP))))) [2] [_] I (Bx 4 [.o 1 0, .o 3 0] I J2 (jZ I (Hl I I I cn) I (Ax 2 I (jX ?_ ?_))))
 refine kC I (Cj _ _ _ ay) (jJ [] I I I (jQ 1 (([300000, 1000000, 0, 5000000] : Li).map rI) (jJ [0] I I I (Av [0] (An a _ _ _ az) ?_))))
 exact Q7 I (Bk (l := [.v (.string al), .V b.2.2.2.2, .V M.1]) G0 I) I (jJ [] I I I (jQ 3 (([(⟨al, b.2.2.2.2, M.1⟩ : Port)] : List Port).map Bb) (jJ [5] I I I (jV 5 I a1 fun ab => Ax 1 I (jW 5 I fun aq => kA [2] I I I (jS 2 0 2 (es' := [[.v e, .v t, .v ab, .v D, .V f.1, .V g.1]]) I I I I I I (A8 aq) I (A6 I) I I (Ap (jH (lg ⟨(M.2.L_, M.2.At, a0), ab, h, I2⟩ N7)))))))))
 refine jJ [] I I I (jQ 1 (([300000, 1000000, 0, 5000000] : Li).map rI) (kC I (Cj _ _ _ ay) (jJ [0] I I I (Av [0] (An a _ _ _ az) ?_))))
 exact Q7 I (Bk (l := [.v (.string al), .V b.2.2.2.2, .V M.1]) G0 I) I (jJ [] I I I (jQ 3 (([(⟨al, b.2.2.2.2, M.1⟩ : Port)] : List Port).map Bb) (jJ [5] I I I (jV 5 I a1 fun ab => Ax 1 I (jW 5 I fun aq => kA [2] I I I (jS 2 0 2 (es' := [[.v e, .v t, .v ab, .v D, .V f.1, .V g.1]]) I I I I I I (A8 aq) I (A6 I) I I (Ap (jH (lg ⟨(M.2.L_, M.2.At, a0), ab, h, I2⟩ N7)))))))))
 intro cm h
 exact jL (lg ⟨(P.1, P.2.1, b.2.2.1), O, h, I2⟩ N7)
 rintro s ob ⟨E, H, h, rfl, rfl⟩
 unfold Rr.J7 at h
 refine Ai (fun s ob => ∃ (Q : Li × Int × Bool), Rr.J8 b E Q = some ai ∧ s = [(117, .v (.bool Q.2.2))] ∧ ob = [O2 a [[Q0 Q.1, .V Q.2.1]], O1 A [W4], O1 B [[.v e, .v t, .v H, .v D, .V f.1, .V g.1]], U2 e k.2.2, U5 t y.2.2, U6 H E.2.2, U7 D b.2.2.2.1]) (K5 0 2 3 5 9) J5 ?_ ?_
 rcases bt (decide (b.2.2.2.2 < (wr ((k.2.2.length : Int) - 1)))) with ac | ac
 have h := Bp ac h
 obtain ⟨ar, co, h⟩ := Ac h
 refine jG (Af 4 I (Ad 113 I ac (Af 1 I (A3 I I I (jI [0] I (Av [0] (Cs a _ _ _ co) ?_))))))
 exact Af 2 I (jH (lg ⟨(ar.2.L_, ar.2.At, (ar.1 == 0)), h, I2⟩ N7))
 have h := Bq ac h
 exact jG (Af 4 I (Ad 113 I ac (Af 4 I (jH (lg ⟨(E.1, E.2.1, false), h, I2⟩ N7)))))
 rintro s ob ⟨Q, h, rfl, rfl⟩
 refine Ar h I ?_ ?_
 intro cp h
 obtain ⟨a2, w, h⟩ := Ac h
 obtain ⟨X, n, h⟩ := Ac h
 obtain ⟨Y, i, h⟩ := Ac h
 obtain ⟨am, j, h⟩ := Ac h
 obtain ⟨cq, cr, h⟩ := Ac h
 refine Ho 6 I fun ct => jT (sl 5 0 (.still 6 (.still 7 (.still 10 (.still 13 (.four 5 8 11 14 (.parS [(8, []), (9, [8]), (11, []), (12, [8, 9, 11]), (14, [])] [[], [8], [11], [14], [8, 9], [8, 11], [8, 14], [11, 14], [8, 9, 11], [8, 9, 14], [8, 11, 14], [8, 9, 11, 12], [8, 9, 11, 14], [8, 9, 11, 12, 14]] Ps) (.three 5 11 14 (.parS [(9, []), (11, []), (12, [9, 11]), (14, [])] [[], [9], [11], [14], [9, 11], [9, 14], [11, 14], [9, 11, 12], [9, 11, 14], [9, 11, 12, 14]] Ps) (.two 5 14 aF Pq) (.two 5 11 aE Pq)) (.three 5 8 14 (.two 8 14 aF (.act 8 Mj)) (.two 5 14 aF Pq) (.two 5 8 (.act 8 Mj) Pq)) (.three 5 8 11 (.two 8 11 aE (.act 8 Mj)) (.two 5 11 aE Pq) (.two 5 8 (.act 8 Mj) Pq)))))))) [2] [_] I ?_
 refine Bx 4 [.o 1 0, .o 3 0] I J2 (jZ I (Hl I I I ct) I (Ax 4 I (AP.four ?_ ?_ ?_ ?_)))
 refine kC I (Cj _ _ _ w) (aW [⟨8, [], 126, .list 1 (([500000, 2000000, 0] : Li).map rI), [], []⟩, ⟨9, [8], 127, .V X.1, [0], [O2 a [Cd X.2]]⟩, ⟨11, [], 129, .list 1 (([0, 200, 100000] : Li).map rI), [], []⟩, ⟨12, [8, 9, 11], 130, .V Y.1, [0], [O2 a [Cd Y.2]]⟩, ⟨14, [], 132, .list 1 (([0, 100000, 400000] : Li).map rI), [], []⟩] I ⟨⟨_, I, I, I, fun _ _ => jQ 1 (([500000, 2000000, 0] : Li).map rI) I2⟩, ⟨_, I, I, I, fun _ h => by cases h; exact Fk [0] (An a _ _ _ n) (by rintro _ _ _ - ⟨rfl, rfl, rfl⟩; exact ⟨rfl, rfl⟩)⟩, ⟨_, I, I, I, fun _ _ => jQ 1 (([0, 200, 100000] : Li).map rI) I2⟩, ⟨_, I, I, I, fun _ h => by cases h; exact Fk [0] (An a _ _ _ i) (by rintro _ _ _ - ⟨rfl, rfl, rfl⟩; exact ⟨rfl, rfl⟩)⟩, ⟨_, I, I, I, fun _ _ => jQ 1 (([0, 100000, 400000] : Li).map rI) I2⟩, J⟩ (jJ [0] I I I (Av [0] (An a _ _ _ j) ?_)))
 rotate_left
 refine jJ [] I I I (jQ 1 (([500000, 2000000, 0] : Li).map rI) (AP.three ?_ ?_ ?_))
 refine kC I (Cj _ _ _ w) (aW [⟨9, [], 127, .V X.1, [0], [O2 a [Cd X.2]]⟩, ⟨11, [], 129, .list 1 (([0, 200, 100000] : Li).map rI), [], []⟩, ⟨12, [9, 11], 130, .V Y.1, [0], [O2 a [Cd Y.2]]⟩, ⟨14, [], 132, .list 1 (([0, 100000, 400000] : Li).map rI), [], []⟩] I ⟨⟨_, I, I, I, fun _ h => by cases h; exact Fk [0] (An a _ _ _ n) (by rintro _ _ _ - ⟨rfl, rfl, rfl⟩; exact ⟨rfl, rfl⟩)⟩, ⟨_, I, I, I, fun _ _ => jQ 1 (([0, 200, 100000] : Li).map rI) I2⟩, ⟨_, I, I, I, fun _ h => by cases h; exact Fk [0] (An a _ _ _ i) (by rintro _ _ _ - ⟨rfl, rfl, rfl⟩; exact ⟨rfl, rfl⟩)⟩, ⟨_, I, I, I, fun _ _ => jQ 1 (([0, 100000, 400000] : Li).map rI) I2⟩, J⟩ (jJ [0] I I I (Av [0] (An a _ _ _ j) ?_)))
 rotate_left
 refine jJ [] I I I (jQ 1 (([0, 200, 100000] : Li).map rI) (jX ?_ ?_))
 refine kC I (Cj _ _ _ w) (jX ?_ ?_)
 refine jJ [0] I I I (Av [0] (An a _ _ _ n) ?_)
 refine jX ?_ ?_
 refine jJ [0] I I I (Av [0] (An a _ _ _ i) ?_)
 refine jJ [] I I I (jQ 1 (([0, 100000, 400000] : Li).map rI) (jJ [0] I I I (Av [0] (An a _ _ _ j) ?_)))
 rotate_left
 refine jJ [] I I I (jQ 1 (([0, 100000, 400000] : Li).map rI) (jJ [0] I I I (Av [0] (An a _ _ _ i) ?_)))
 refine jJ [0] I I I (Av [0] (An a _ _ _ j) ?_)
 rotate_left
 refine jJ [] I I I (jQ 1 (([0, 100000, 400000] : Li).map rI) (jJ [0] I I I (Av [0] (An a _ _ _ n) ?_)))
 refine jJ [0] I I I (Av [0] (An a _ _ _ i) ?_)
 refine jJ [0] I I I (Av [0] (An a _ _ _ j) ?_)
 rotate_left
 refine jJ [] I I I (jQ 1 (([0, 100000, 400000] : Li).map rI) (kC I (Cj _ _ _ w) (jJ [0] I I I (Av [0] (An a _ _ _ n) ?_))))
 refine jJ [0] I I I (Av [0] (An a _ _ _ i) ?_)
 refine jJ [0] I I I (Av [0] (An a _ _ _ j) ?_)
 rotate_left
 refine jJ [] I I I (jQ 1 (([0, 100000, 400000] : Li).map rI) (jX ?_ ?_))
 refine kC I (Cj _ _ _ w) (jX ?_ ?_)
 refine jJ [0] I I I (Av [0] (An a _ _ _ n) ?_)
 refine jJ [] I I I (jQ 1 (([0, 200, 100000] : Li).map rI) (jJ [0] I I I (Av [0] (An a _ _ _ i) ?_)))
 refine jJ [0] I I I (Av [0] (An a _ _ _ j) ?_)
 rotate_left
 refine jJ [] I I I (jQ 1 (([0, 200, 100000] : Li).map rI) (jJ [0] I I I (Av [0] (An a _ _ _ n) ?_)))
 refine jJ [0] I I I (Av [0] (An a _ _ _ i) ?_)
 refine jJ [0] I I I (Av [0] (An a _ _ _ j) ?_)
 rotate_left
 refine jJ [] I I I (jQ 1 (([0, 200, 100000] : Li).map rI) (kC I (Cj _ _ _ w) (jJ [0] I I I (Av [0] (An a _ _ _ n) ?_))))
 refine jJ [0] I I I (Av [0] (An a _ _ _ i) ?_)
 refine jJ [0] I I I (Av [0] (An a _ _ _ j) ?_)
 rotate_left
 refine jJ [] I I I (jQ 1 (([0, 200, 100000] : Li).map rI) (AP.three ?_ ?_ ?_))
 refine kC I (Cj _ _ _ w) (jX ?_ ?_)
 refine jJ [] I I I (jQ 1 (([500000, 2000000, 0] : Li).map rI) (jX ?_ ?_))
 refine jJ [0] I I I (Av [0] (An a _ _ _ n) ?_)
 refine jX ?_ ?_
 refine jJ [0] I I I (Av [0] (An a _ _ _ i) ?_)
 refine jJ [] I I I (jQ 1 (([0, 100000, 400000] : Li).map rI) (jJ [0] I I I (Av [0] (An a _ _ _ j) ?_)))
 rotate_left
 refine jJ [] I I I (jQ 1 (([0, 100000, 400000] : Li).map rI) (jJ [0] I I I (Av [0] (An a _ _ _ i) ?_)))
 refine jJ [0] I I I (Av [0] (An a _ _ _ j) ?_)
 rotate_left
 refine jJ [] I I I (jQ 1 (([0, 100000, 400000] : Li).map rI) (jJ [0] I I I (Av [0] (An a _ _ _ n) ?_)))
 refine jJ [0] I I I (Av [0] (An a _ _ _ i) ?_)
 refine jJ [0] I I I (Av [0] (An a _ _ _ j) ?_)
 rotate_left
 refine jJ [] I I I (jQ 1 (([0, 100000, 400000] : Li).map rI) (jJ [] I I I (jQ 1 (([500000, 2000000, 0] : Li).map rI) (jJ [0] I I I (Av [0] (An a _ _ _ n) ?_)))))
 refine jJ [0] I I I (Av [0] (An a _ _ _ i) ?_)
 refine jJ [0] I I I (Av [0] (An a _ _ _ j) ?_)
 rotate_left
 refine jJ [] I I I (jQ 1 (([500000, 2000000, 0] : Li).map rI) (jX ?_ ?_))
 refine kC I (Cj _ _ _ w) (jX ?_ ?_)
 refine jJ [0] I I I (Av [0] (An a _ _ _ n) ?_)
 refine jX ?_ ?_
 refine jJ [0] I I I (Av [0] (An a _ _ _ i) ?_)
 refine jJ [] I I I (jQ 1 (([0, 100000, 400000] : Li).map rI) (jJ [0] I I I (Av [0] (An a _ _ _ j) ?_)))
 rotate_left
 refine jJ [] I I I (jQ 1 (([0, 100000, 400000] : Li).map rI) (jJ [0] I I I (Av [0] (An a _ _ _ i) ?_)))
 refine jJ [0] I I I (Av [0] (An a _ _ _ j) ?_)
 rotate_left
 refine jJ [] I I I (jQ 1 (([0, 100000, 400000] : Li).map rI) (jJ [0] I I I (Av [0] (An a _ _ _ n) ?_)))
 refine jJ [0] I I I (Av [0] (An a _ _ _ i) ?_)
 refine jJ [0] I I I (Av [0] (An a _ _ _ j) ?_)
 rotate_left
 refine jJ [] I I I (jQ 1 (([0, 100000, 400000] : Li).map rI) (kC I (Cj _ _ _ w) (jJ [0] I I I (Av [0] (An a _ _ _ n) ?_))))
 refine jJ [0] I I I (Av [0] (An a _ _ _ i) ?_)
 refine jJ [0] I I I (Av [0] (An a _ _ _ j) ?_)
 rotate_left
 refine jJ [] I I I (jQ 1 (([0, 100000, 400000] : Li).map rI) (jX ?_ ?_))
 refine kC I (Cj _ _ _ w) (jJ [] I I I (jQ 1 (([500000, 2000000, 0] : Li).map rI) (jJ [0] I I I (Av [0] (An a _ _ _ n) ?_))))
 refine jJ [0] I I I (Av [0] (An a _ _ _ i) ?_)
 refine jJ [0] I I I (Av [0] (An a _ _ _ j) ?_)
 rotate_left
 refine jJ [] I I I (jQ 1 (([500000, 2000000, 0] : Li).map rI) (kC I (Cj _ _ _ w) (jJ [0] I I I (Av [0] (An a _ _ _ n) ?_))))
 refine jJ [0] I I I (Av [0] (An a _ _ _ i) ?_)
 refine jJ [0] I I I (Av [0] (An a _ _ _ j) ?_)
 rotate_left
 refine jJ [] I I I (jQ 1 (([0, 100000, 400000] : Li).map rI) (AP.three ?_ ?_ ?_))
 refine kC I (Cj _ _ _ w) (jX ?_ ?_)
 refine jJ [] I I I (jQ 1 (([500000, 2000000, 0] : Li).map rI) (jX ?_ ?_))
 refine jJ [0] I I I (Av [0] (An a _ _ _ n) ?_)
 refine jJ [] I I I (jQ 1 (([0, 200, 100000] : Li).map rI) (jJ [0] I I I (Av [0] (An a _ _ _ i) ?_)))
 refine jJ [0] I I I (Av [0] (An a _ _ _ j) ?_)
 rotate_left
 refine jJ [] I I I (jQ 1 (([0, 200, 100000] : Li).map rI) (jJ [0] I I I (Av [0] (An a _ _ _ n) ?_)))
 refine jJ [0] I I I (Av [0] (An a _ _ _ i) ?_)
 refine jJ [0] I I I (Av [0] (An a _ _ _ j) ?_)
 rotate_left
 refine jJ [] I I I (jQ 1 (([0, 200, 100000] : Li).map rI) (jJ [] I I I (jQ 1 (([500000, 2000000, 0] : Li).map rI) (jJ [0] I I I (Av [0] (An a _ _ _ n) ?_)))))
 refine jJ [0] I I I (Av [0] (An a _ _ _ i) ?_)
 refine jJ [0] I I I (Av [0] (An a _ _ _ j) ?_)
 rotate_left
 refine jJ [] I I I (jQ 1 (([500000, 2000000, 0] : Li).map rI) (jX ?_ ?_))
 refine kC I (Cj _ _ _ w) (jX ?_ ?_)
 refine jJ [0] I I I (Av [0] (An a _ _ _ n) ?_)
 refine jJ [] I I I (jQ 1 (([0, 200, 100000] : Li).map rI) (jJ [0] I I I (Av [0] (An a _ _ _ i) ?_)))
 refine jJ [0] I I I (Av [0] (An a _ _ _ j) ?_)
 rotate_left
 refine jJ [] I I I (jQ 1 (([0, 200, 100000] : Li).map rI) (jJ [0] I I I (Av [0] (An a _ _ _ n) ?_)))
 refine jJ [0] I I I (Av [0] (An a _ _ _ i) ?_)
 refine jJ [0] I I I (Av [0] (An a _ _ _ j) ?_)
 rotate_left
 refine jJ [] I I I (jQ 1 (([0, 200, 100000] : Li).map rI) (kC I (Cj _ _ _ w) (jJ [0] I I I (Av [0] (An a _ _ _ n) ?_))))
 refine jJ [0] I I I (Av [0] (An a _ _ _ i) ?_)
 refine jJ [0] I I I (Av [0] (An a _ _ _ j) ?_)
 rotate_left
 refine jJ [] I I I (jQ 1 (([0, 200, 100000] : Li).map rI) (jX ?_ ?_))
 refine kC I (Cj _ _ _ w) (jJ [] I I I (jQ 1 (([500000, 2000000, 0] : Li).map rI) (jJ [0] I I I (Av [0] (An a _ _ _ n) ?_))))
 refine jJ [0] I I I (Av [0] (An a _ _ _ i) ?_)
 refine jJ [0] I I I (Av [0] (An a _ _ _ j) ?_)
 rotate_left
 refine jJ [] I I I (jQ 1 (([500000, 2000000, 0] : Li).map rI) (kC I (Cj _ _ _ w) (jJ [0] I I I (Av [0] (An a _ _ _ n) ?_))))
 refine jJ [0] I I I (Av [0] (An a _ _ _ i) ?_)
 refine jJ [0] I I I (Av [0] (An a _ _ _ j) ?_)
 any_goals
  refine Q7 I (Bk (l := [.v (.string a2), .V b.2.2.2.2, .V X.1, .V Y.1, .V am.1]) T8 I) I (jJ [] I I I (jQ 5 (([(⟨a2, b.2.2.2.2, X.1, Y.1, am.1⟩ : Sn)] : List Sn).map A5) (jJ [6] I I I (jV 6 I cr fun a3 => Ax 1 I (jW 6 I fun cu => kA [2] I I I (jS 2 0 3 (es' := [[.v e, .v t, .v H, .v a3, .V f.1, .V g.1]]) I I I I I I (A8 cu) I (A6 I) I I (Ap (jH ?_))))))))
  exact lg ⟨(am.2.L_, am.2.At, E.2.2, cq), H, a3, h, I2⟩ N7
 intro cp h
 exact jL (lg ⟨(Q.1, Q.2.1, E.2.2, b.2.2.2.1), H, D, h, I2⟩ N7)
 rintro s ob ⟨U, aj, ak, h, rfl, rfl⟩
 unfold Rr.J6 at h
 refine jG (Af 3 I ?_)
 cases io h
 exact jH ⟨_, _, _, I, ⟨aj, ak, I2⟩, J5, pk N7⟩
 intro ck h
 obtain rfl := ci _ (oi h).symm
 have h := cf
 exact jP (lg ⟨(b.1, b.2.1, b.2.2.1, b.2.2.2.1), O, D, h, I2⟩ N7)
 rintro s ob ⟨u, R, S, h, rfl, rfl⟩
 refine jK (jG (Ao 1 [.o 0 2] I J1 (jI [1] I (A1 1 0 0 [[.v e, .v t, .v R, .v S, .V f.1, .V g.1]] I (jH (jO (Ba [3, 4, 5, 6] (K := [U2 e k.2.2, U5 t y.2.2, U6 R u.2.2.1, U7 S u.2.2.2]) I [] J (ob' := [O2 a [[Q0 u.1, .V u.2.1]], O1 A [[Q1 k.2.2, Q2 y.2.2, Q3 u.2.2.1, Q4 u.2.2.2, .V f.1, .V g.1]], O1 B [[.v e, .v t, .v R, .v S, .V f.1, .V g.1]]]) (.cons (.same _) (.cons (.arr (.cons (.us 0 I) (.cons (.us 1 I) (.cons (.us 2 I) (.cons (.us 3 I) (.rest _)))))) (.rest _)))) (C9 [0, 1] I ?_)))))))
 obtain rfl := oi h
 exact jN ⟨.inr I, [_], [O2 a [[Q0 u.1, .V u.2.1]]], ⟨⟨1, _, _, _, _, _, _, _, I5⟩, J⟩, Cx I (Ct), ⟨[O2 a [[Q0 u.1, .V u.2.1]]], [], I5⟩⟩
end Go.Proofs.YtihdchjpepkpbaaGreat
