/- Walks that show what functions of the program compute; printed by a program of ours. No condition. -/
import Derived.Test.YtaoclefkknloiaaGreatZvL0
import Derived.Test.YtaoclefkknloiaaGreatZvL4
import Derived.Test.YtaoclefkknloiaaGreatZvL5
import Derived.Test.YtaoclefkknloiaaGreatZvD
set_option maxRecDepth 100000
namespace Go.Proofs.YtaoclefkknloiaaGreat
open Go.Aw
set_option linter.unusedVariables false
set_option linter.unusedSimpArgs false
set_option maxHeartbeats 4000000
abbrev X9 : PL := sl 27 0 (.still 28 (sl 3 30 (.act 27 (.still 29 (.still 33 (.still 34 .nil))))))
abbrev cH : PL := .still 10 (.act 11 (.still 12 .nil))
abbrev qU : PL := sl 8 0 (.act 8 (.act 9 (.still 10 (.drop 11 .nil))))
abbrev qT : PL := .still 20 (.act 21 (.act 22 (.act 23 .nil)))
theorem Vl (a : Int) (r : Int) (h : Ik a = r) : ACalls Ak 42 [.V a] [] (RV (.V r)) := by
 refine Ag Tryz.func42 I I I fun C hC => ?_
 unfold Ik at h
 refine Ai I (Ai I ?_)
 obtain rfl := h
 exact uE pr
theorem gQ (b : Plan) (r : Plan) (h : Wq b = some r) : ACalls Ak 43 [.agg (Aq b)] [] (RV (.agg (Aq r))) := by
 refine Ag Tryz.func43 I I I fun C hC => ?_
 refine Ab fun y1 O => tX (tZ [] I (Cf (Aq b) 3 fun B => tZ [] I (Bs W0 3 fun g => tY ?_)))
 subst O
 refine Ab fun y4 P => ?_
 obtain ⟨d, Q, h⟩ := Ac h
 refine tX (tZ [] I (uM (sz := 1) (es := ([] : List Bool).map rB) I I I I I I I I I I I dS fun v5 => Am 2 [.o 1 0] I J1 (tZ [2] I (uO 2 I Q fun a => uV 2 I fun R => uK (Bl (l := [.N, .N, .v a]) I6 (Ds I I (Bw R) I (H6))) I (tZ [] I (Bs W0 3 fun i => tZ [3] I (Bj 3 0 0 [[.N, .N, .v a]] I (tY ?_))))))))
 subst P
 refine Aj (fun s ob => ∃ (e : Li) (c : Value), Wq.J1 b d e = some r ∧ s = [] ∧ ob = [O1 B [Aq b], O1 g [W0], U4 a d, O1 i [[.v c, .N, .v a]], U0 c e]) (K3 1 2 3) J3 ?_ ?_
 refine Bg [.o 1 0, .l 2 (b.Rates.length : Int)] I ⟨A4, I, J⟩ (uB (Cg 12 I fun S => uF (Az 3 1) ?_))
 obtain ⟨aq, U, W⟩ := Ac h
 refine Cl U (K4 1 2 3 13) J4 (fun (u : Nat) (w : Li) s ob => ∃ (j : Value), s = [(14, .V (u : Int))] ∧ ob = [O1 B [Aq b], O1 g [W0], U4 a d, O1 i [[.v j, .N, .v a]], U0 j w]) ⟨nS, I2⟩ ⟨I, J⟩ (pk N5) ?_ ?_
 rintro u D w ar s ob X E ⟨j, rfl, rfl⟩ h
 have Y := Cr E
 refine Ai I (Ab fun au Z => Bq I Y (uA ?_))
 subst Z
 refine uD (uB (Ai I ?_))
 obtain ⟨av, aa, h⟩ := Ac h
 refine Bk qU [3, 0] [_, _] I (Bv 8 [.o 1 0, .o 3 1, .x 5 u (rI D)] I ⟨⟨I, Ae X⟩, I, I, J⟩ (uC [] I I I (uH 1 (([wr (0 - D)] : Li).map rI) (uC [4] I I I (uO 4 I aa fun F => A3 1 I (uW 4 I fun ab => uR [3] I I I (uL 3 0 0 (es' := [[.v F, .N, .v a]]) I I I I I I (Bw ab) I (Ba I) I I (Ap (tY (tX (Am 2 [.k 0 (u + 1 : Nat)] I ⟨A6 E S, J⟩ ?_)))))))))))
 cases io h
 exact tY (lg ⟨F, I2⟩ N5)
 rintro w s ob ⟨j, rfl, rfl⟩ he
 subst he
 have h := W
 have ac := Cs b.Rates.length
 exact Ai I (Ab fun aw ax => Br I ac (uG (lg ⟨w, j, h, I2⟩ N5)))
 rintro s ob ⟨e, c, h, rfl, rfl⟩
 unfold Wq.J1 at h
 refine Aj (fun s ob => ∃ (n : Li) (f : Value), Wq.J2 d e n = some r ∧ s = [] ∧ ob = [O1 g [W0], U4 a d, O1 i [[.v c, .v f, .v a]], U0 c e, U0 f n]) (K2 2 3) J2 ?_ ?_
 refine Bg [.o 1 0, .l 2 (b.Ports.length : Int)] I ⟨A4, I, J⟩ (uB (Cg 30 I fun ad => uF (Az 3 1) ?_))
 obtain ⟨ay, ae, af⟩ := Ac h
 refine Cl ae (K4 1 2 3 31) J4 (fun (y : Nat) (A : Li) s ob => ∃ (t : Value), s = [(32, .V (y : Int))] ∧ ob = [O1 B [Aq b], O1 g [W0], U4 a d, O1 i [[.v c, .v t, .v a]], U0 c e, U0 t A]) ⟨nS, I2⟩ ⟨I, J⟩ (pk N6) ?_ ?_
 rintro y G A az s ob ag H ⟨t, rfl, rfl⟩ h
 have ah := Cr H
 refine Ai I (Ab fun a0 ai => Bq I ah (uA ?_))
 subst ai
 refine uD (uB (Ai I ?_))
 obtain ⟨a1, aj, h⟩ := Ac h
 refine Bk qU [3, 0] [_, _] I (Bv 8 [.o 1 0, .o 3 1, .x 5 y (rI G)] I ⟨⟨I, Ae ag⟩, I, I, J⟩ (uC [] I I I (uH 1 (([wr (0 - G)] : Li).map rI) (uC [5] I I I (uO 5 I aj fun M => A3 1 I (uW 5 I fun ak => uR [3] I I I (uL 3 0 1 (es' := [[.v c, .v M, .v a]]) I I I I I I (Bw ak) I (Ba I) I I (Ap (tY (tX (Am 2 [.k 0 (y + 1 : Nat)] I ⟨A6 H ad, J⟩ ?_)))))))))))
 cases io h
 exact tY (lg ⟨M, I2⟩ N6)
 rintro A s ob ⟨t, rfl, rfl⟩ he
 subst he
 have h := af
 have al := Cs b.Ports.length
 exact Ai I (Ab fun a2 a3 => Br I al (uG (lg ⟨A, t, h, I2⟩ [1, 2, 3, 4, 5])))
 rintro s ob ⟨n, f, h, rfl, rfl⟩
 unfold Wq.J2 at h
 refine uD (tX (Am 1 [.o 0 2] I J1 (tZ [0] I (Bj 0 0 0 [[.v c, .v f, .v a]] I (tY (uF (Ax [1, 3, 4] (K := [U4 a d, U0 c e, U0 f n]) I [] J (ob' := [O1 g [[Q0 e, Q0 n, Q3 d]], O1 i [[.v c, .v f, .v a]]]) (.cons (.arr (.cons (.us 1 I) (.cons (.us 2 I) (.cons (.us 0 I) (.rest _))))) (.rest _))) (C9 [0] I ?_)))))))
 cases io h
 exact uE ⟨.inr I, [_], [], ⟨⟨0, _, _, _, _, _, _, _, I5⟩, J⟩, B0, I2⟩
theorem Pf (i : Nat) (a3 : KS) (j : Nw) (r : Plan × KS) (h : Rk a3 j = some r) : ACalls Ak 9 [.P i, .agg (Ad j)] [O2 i [Bi a3]] (E8 1 fun x os new => x = .agg (Aq r.1) ∧ os = [O2 i [Bi r.2]] ∧ new = []) := by
 refine Ag Tryz.func9 I I I fun C hC => ?_
 unfold Rk at h
 refine Ab fun y1 co => tX (tZ [] I (Cf (Ad j) 6 fun G => tZ [] I (Bs W0 3 fun D => tY ?_)))
 subst co
 refine Aj (fun s ob => ∃ (S : Li × Li) (w : Nat) (a : Value) (c : Value), Rk.J1 a3 j S = some r ∧ s = [(5, .P w)] ∧ ob = [O2 i [Bi a3], O0 G [Ad j], O1 D [W0], U0 a S.1, U0 c S.2, O1 w [[.v a, .v c, .N]]]) (K3 0 3 4) J3 ?_ ?_
 obtain ⟨bx, ⟨fg, cp, cq, cr⟩, h⟩ := I9 h
 obtain ⟨bz, ⟨fh, ct, cu, cv⟩, h⟩ := I9 h
 refine Bk (sl 3 0 (sl 3 4 (.par [(3, []), (7, []), (9, []), (8, [3, 7])] (.act 10 .nil)))) [1] [_] I (Bv 6 [.o 1 0, .l 2 (j.Segments.length : Int), .o 4 0, .l 5 (j.Ports.length : Int)] I ⟨A4, I, A4, I, J⟩ (AP.any [⟨3, [], 25, .us 3 1 (bx.map rI)⟩, ⟨7, [], 29, .us 3 1 (bz.map rI)⟩, ⟨9, [], 5, .box 32 3 (W0)⟩, ⟨8, [3, 7], 30, .fn fun l => match l with | [.v ae, .v af] => .agg [.v ae, .v af, .N] | _ => .tup []⟩] I ⟨⟨_, I, I, I, fun _ => D1 (sz := 1) I I I I I I I I I I cp cq (Mj (f := rI) cr I) dS fun v => ⟨_, I, ⟨v, I⟩, I⟩⟩, ⟨_, I, I, I, fun _ => D1 (sz := 1) I I I I I I I I I I ct cu (Mj (f := rI) cv I) dS fun v => ⟨_, I, ⟨v, I⟩, I⟩⟩, ⟨_, I, I, I, fun _ => Bs W0 3 fun b => ⟨_, I, ⟨b, I⟩, I⟩⟩, ⟨_, I, I, I, fun ae b1 af b4 _ => Bf (uS (Bl (l := [.v ae, .v af, .N]) I6 (Ds I I (Bw b1) I (Ds I I (Bw b4) I (H6))))) dS ⟨_, I, I, nb⟩⟩, J⟩ ?_))
 intro ae b1 af b4 cw
 exact AP.same 30 (.agg [.v ae, .v af, .N]) I (uC [5] I I I (Bj 5 0 0 [[.v ae, .v af, .N]] I (Ap (tY (lg ⟨(bx, bz), cw, ae, af, h, I2⟩ N6)))))
 rintro s ob ⟨S, w, a, c, h, rfl, rfl⟩
 unfold Rk.J1 at h
 refine Aj (fun s ob => ∃ (p : Li × Int × (List Bool)) (g : Value), Rk.J2 j S p = some r ∧ s = [] ∧ ob = [O2 i [[Q0 p.1, .V p.2.1]], O0 G [Ad j], O1 D [W0], U0 a S.1, U0 c S.2, O1 w [[.v a, .v c, .v g]], U4 g p.2.2]) (K4 0 3 4 5) J4 ?_ ?_
 refine Ai I (uB (uF (Az 4 1) ?_))
 obtain ⟨fi, cx, cy⟩ := Ac h
 refine Ci cx (K4 0 3 4 5) J4 (fun (Y : Li × Int × (List Bool) × Int) s ob => ∃ (a4 : Value), s = [(6, .V Y.2.2.2)] ∧ ob = [O2 i [[Q0 Y.1, .V Y.2.1]], O0 G [Ad j], O1 D [W0], U0 a S.1, U0 c S.2, O1 w [[.v a, .v c, .v a4]], U4 a4 Y.2.2.1]) ⟨nS, I2⟩ ⟨I, J⟩ (pk N7) ?_
 rintro Y fj s ob ⟨a4, rfl, rfl⟩ h cz
 refine Ab fun fk c1 => Bg [.o 2 1, .l 3 (j.Stations.length : Int)] I ⟨A4, I, J⟩ (Ao h I ?_ ?_)
 intro c2 h
 refine uA ?_
 subst c1
 refine uD (uB ?_)
 obtain ⟨c3, c4, h⟩ := Ac h
 obtain ⟨fl, c5, h⟩ := Ac h
 refine Bk (sl 3 0 (.act 3 (.still 4 (.act 5 (.act 6 (.still 7 (.drop 8 .nil))))))) [5] [_] I (Bv 3 [.o 1 0] I J1 (uC [0] I I I (A0 [0] (Bm i _ _ _ c4) ?_)))
 refine A3 1 I (uC [] I I I (uH 1 (([(c3.1 == 0)] : List Bool).map rB) (uC [6] I I I (uO 6 I c5 fun b5 => A3 1 I (uW 6 I fun c6 => uR [5] I I I (uL 5 0 2 (es' := [[.v a, .v c, .v b5]]) I I I I I I (Bw c6) I (Ba I) I I (Ap (tY (tX (Af 3 I ?_))))))))))
 cases io h
 exact tY ⟨_, _, _, I, ⟨b5, I2⟩, J5, pk N7⟩
 intro c2 h
 obtain rfl := cz _ (oi h).symm
 have h := cy
 exact uG (lg ⟨(Y.1, Y.2.1, Y.2.2.1), a4, h, I2⟩ N7)
 rintro s ob ⟨p, g, h, rfl, rfl⟩
 refine Ab fun fm c7 => ?_
 obtain ⟨c8, c9, h⟩ := Ac h
 refine tX (Af 1 I (tZ [0] I (A0 [0] (Bm i _ _ _ c9) ?_)))
 refine Af 2 I (tY ?_)
 subst c7
 refine Aj (fun s ob => ∃ (u : Li × Int × Li × Li), Rk.J3 p c8 u = some r ∧ s = [] ∧ ob = [O2 i [[Q0 u.1, .V u.2.1]], O1 D [W0], U0 a u.2.2.1, U0 c u.2.2.2, O1 w [[.v a, .v c, .v g]], U4 g p.2.2]) (K3 4 5 7) J3 ?_ ?_
 refine Ab fun fo da => ?_
 obtain ⟨fp, db, h⟩ := Ac h
 refine tX (Af 1 I (tZ [0] I (A0 [0] (Bm i _ _ _ db) ?_)))
 refine Af 1 I (tY ?_)
 subst da
 refine uB ?_
 obtain ⟨fq, dc, dd⟩ := Ac h
 refine Ci dc (K5 0 3 4 5 7) J5 (fun (e : Li × Int × Li × Li × Int) s ob => s = [(8, .V e.2.2.2.2)] ∧ ob = [O2 i [[Q0 e.1, .V e.2.1]], O0 G [Ad j], O1 D [W0], U0 a e.2.2.1, U0 c e.2.2.2.1, O1 w [[.v a, .v c, .v g]], U4 g p.2.2]) ⟨I, I⟩ ⟨I, J⟩ (pk N7) ?_
 rintro e a5 s ob ⟨rfl, rfl⟩ h de
 refine Ab fun fr df => Ai I (Ao h I ?_ ?_)
 intro dg h
 refine uA ?_
 subst df
 refine Aj (fun s ob => ∃ (al : Li × Int × Li × Li), Rk.J5 e al = some a5 ∧ s = [] ∧ ob = [O2 i [[Q0 al.1, .V al.2.1]], O0 G [Ad j], O1 D [W0], U0 a al.2.2.1, U0 c al.2.2.2, O1 w [[.v a, .v c, .v g]], U4 g p.2.2]) (K6 0 3 4 5 7 8) J6 ?_ ?_
 refine uB (Ab fun fs dh => ?_)
 obtain ⟨bf, di, h⟩ := Ac h
 refine tX (Am 4 [.o 2 1, .l 3 (j.Ports.length : Int)] I ⟨A4, I, J⟩ (tZ [0] I (A0 [0] (Bm i _ _ _ di) ?_)))
 refine Af 1 I (tY ?_)
 subst dh
 refine Ab fun ft dj => ?_
 obtain ⟨bg, ⟨dk, dl⟩, h⟩ := A5 h
 obtain ⟨fu, dm, h⟩ := Ac h
 obtain ⟨A, dn, h⟩ := Ac h
 refine Bk (pd 13 0 [8, 9, 10]) [1] [_] I (Bv 8 [.o 1 0, .x 3 bg.1 (Ca bg.2)] I ⟨⟨dk, Ae dl⟩, I, J⟩ (uC [] I I I (uH 1 (([1, 5, 30, 300] : Li).map rI) (uC [0] I I I (A0 [0] (Al i _ _ _ dm) ?_)))))
 refine uC [0] I I I (A0 [0] (E7 i _ _ _ _ dn) ?_)
 refine A3 2 I (Ap (tY ?_))
 subst dj
 refine Ab fun fv dp => Aj (fun s ob => ∃ (bh : Bool), Rk.J6 j e bf bg A bh = some a5 ∧ s = [(86, .v (.bool bh))] ∧ ob = [O2 i [Bi A.2], O0 G [Ad j], O1 D [W0], U0 a e.2.2.1, U0 c e.2.2.2.1, O1 w [[.v a, .v c, .v g]], U4 g p.2.2]) (K9 0 3 4 5 7 8 9 10 11) J9 ?_ ?_
 obtain ⟨Z, ⟨b6, a6⟩, h⟩ := A5 h
 refine tX (Am 3 [.o 1 5] I J1 (uI (Bc 4 (m := Z.1) I I I I I I I b6 (Ae a6)) I (uI (Ay 4 Z.1 0 I I I (Ae a6) I (y := .V Z.2) I) I (Af 2 I ?_))))
 rcases bt (decide (Z.2 < 0)) with ay | ay
 have h := Cc ay h
 exact Ah 77 I ay (Af 9 I (tY (lg ⟨true, h, I2⟩ N7)))
 have h := Cd ay h
 exact Ah 77 I ay (Am 3 [.o 1 5] I J1 (Bx I I I (uI (Bc 4 (m := Z.1) I I I I I I I b6 (Ae a6)) I (Bx I I I (uI (Ay 4 Z.1 0 I I I (Ae a6) I (y := .V Z.2) I) I (Af 4 I (tY (lg ⟨decide ((wr (Z.2 + A.1)) > 1000), h, I2⟩ N7))))))))
 rintro s ob ⟨bh, h, rfl, rfl⟩
 refine Ao h I ?_ ?_
 intro dq h
 exact uG (lg ⟨(A.2.L_, A.2.At, e.2.2.1, e.2.2.2.1), h, I2⟩ N7)
 intro dq h
 refine uA ?_
 subst dp
 refine Ai I (Ai I (Aj (fun s ob => ∃ (E : Li × Int × Li × Int) (am : Value), Rk.J7 j e bf A E = some a5 ∧ s = [(12, .v am), (13, .V E.2.2.2)] ∧ ob = [O2 i [[Q0 E.1, .V E.2.1]], O0 G [Ad j], O1 D [W0], U0 a e.2.2.1, U0 c e.2.2.2.1, O1 w [[.v a, .v c, .v g]], U4 g p.2.2, U0 am E.2.2.1]) (K8 0 3 4 5 7 8 9 11) J8 ?_ ?_))
 refine uB (uF (Az 3 1) ?_)
 obtain ⟨fw, dr, bi⟩ := Ac h
 refine Ci dr (K8 0 3 4 5 7 8 9 11) J8 (fun (n : Li × Int × Int × Li × Int) s ob => ∃ (M : Value), s = [(10, .V n.2.2.1), (12, .v M), (13, .V n.2.2.2.2)] ∧ ob = [O2 i [[Q0 n.1, .V n.2.1]], O0 G [Ad j], O1 D [W0], U0 a e.2.2.1, U0 c e.2.2.2.1, O1 w [[.v a, .v c, .v g]], U4 g p.2.2, U0 M n.2.2.2.1]) ⟨nS, I2⟩ ⟨I, I, I, J⟩ (pk N8) ?_
 rintro n b7 s ob ⟨M, rfl, rfl⟩ h bj
 refine Ab fun fx ds => Ai I (Ao h I ?_ ?_)
 intro du h
 refine uA ?_
 subst ds
 refine uB (Aj (fun s ob => ∃ (F : Li × Int × Int), Rk.J12 j e A n F = some b7 ∧ s = [(13, .V F.2.2)] ∧ ob = [O2 i [[Q0 F.1, .V F.2.1]], O0 G [Ad j], O1 D [W0], U0 a e.2.2.1, U0 c e.2.2.2.1, O1 w [[.v a, .v c, .v g]], U4 g p.2.2, U0 M n.2.2.2.1]) (sV 0 3 4 5 7 8 9 10 11 12) oM ?_ ?_)
 refine Bg [.o 1 1, .l 2 (j.Ports.length : Int)] I ⟨A4, I, J⟩ (uB (Cg 90 I fun dv => ?_))
 obtain ⟨fy, dw, dx⟩ := Ac h
 refine Cl dw [(0, _), (3, _), (4, _), (5, _), (7, _), (8, _), (9, _), (10, _), (11, _), (12, _), (90, _), (91, _)] rG (fun (ag : Nat) (P : Li × Int × Int) s ob => s = [(92, .V (ag : Int)), (13, .V P.2.2)] ∧ ob = [O2 i [[Q0 P.1, .V P.2.1]], O0 G [Ad j], O1 D [W0], U0 a e.2.2.1, U0 c e.2.2.2.1, O1 w [[.v a, .v c, .v g]], U4 g p.2.2, U0 M n.2.2.2.1]) ⟨I, I⟩ ⟨I, I, J⟩ (pk N8) ?_ ?_
 rintro ag bk P b8 s ob dy b9 ⟨rfl, rfl⟩ h
 unfold Rk.B17 at h
 have dz := Cr b9
 refine Ai I (Ab fun fz d0 => Bq I dz (uA ?_))
 subst d0
 refine Aj (fun s ob => ∃ (az : Li × Int × Int), Rk.J18 az = some b8 ∧ s = [(13, .V az.2.2)] ∧ ob = [O2 i [[Q0 az.1, .V az.2.1]], O0 G [Ad j], O1 D [W0], U0 a e.2.2.1, U0 c e.2.2.2.1, O1 w [[.v a, .v c, .v g]], U4 g p.2.2, U0 M n.2.2.2.1]) [(0, _), (3, _), (4, _), (5, _), (7, _), (8, _), (9, _), (10, _), (11, _), (12, _), (90, _), (91, _), (92, _)] rF ?_ ?_
 refine uB (Ab fun f0 d1 => tX (Am 3 [.x 1 ag (Ca bk)] I ⟨⟨I, Ae dy⟩, J⟩ (tZ [] I (Bs W4 3 fun f1 => Af 1 I (tZ [8] I (Bj 8 0 0 [Ca bk] I (tY ?_)))))))
 subst d1
 refine Aj (fun s ob => ∃ (U : Li × Int × Bool), Rk.J19 ag P U = some b8 ∧ s = [(133, .v (.bool U.2.2))] ∧ ob = [O2 i [[Q0 U.1, .V U.2.1]], O0 G [Ad j], O1 D [W0], U0 a e.2.2.1, U0 c e.2.2.2.1, O1 w [[.v a, .v c, .v g]], U4 g p.2.2, U0 M n.2.2.2.1]) [(0, _), (3, _), (4, _), (5, _), (7, _), (8, _), (9, _), (10, _), (11, _), (12, _), (13, _), (14, _), (90, _), (91, _), (92, _)] rD ?_ ?_
 rcases bt ((bk.Node == n.2.2.1)) with W | W
 have h := Cc W h
 rcases bt (((ag : Int) != bf.1)) with aa | aa
 have h := Cc aa h
 obtain ⟨B, ⟨ah, O⟩, h⟩ := A5 h
 rcases bt (decide (B.2 ≤ 0)) with ai | ai
 have h := Cc ai h
 rcases bt (decide ((wr (B.2 - A.1)) ≥ (-1000))) with an | an
 have h := Cc an h
 rcases bt (decide ((n.2.2.2.1.length : Int) > 0)) with a0 | a0
 have h := Cc a0 h
 obtain ⟨bl, d2, h⟩ := Ac h
 refine tX (Am 5 [.o 1 8] I J1 (Ah 101 I W (Af 5 I (Ah 106 I aa (Am 3 [.o 1 5] I J1 (Bx I I I (uI (Bc 4 (m := B.1) I I I I I I I ah (Ae O)) I (Bx I I I (uI (Ay 4 B.1 0 I I I (Ae O) I (y := .V B.2) I) I (Af 3 I (Ah 114 I ai (Am 3 [.o 1 5] I J1 ?_))))))))))))
 refine Bx I I I (uI (Bc 4 (m := B.1) I I I I I I I ah (Ae O)) I (Bx I I I (uI (Ay 4 B.1 0 I I I (Ae O) I (y := .V B.2) I) I (Af 5 I (Ah 124 I an (Af 1 I (Bx I I I (uI (Bp 7 I I I I) I (Af 3 I (Ah 129 I a0 (Af 1 I (Bx I I I ?_))))))))))))
 refine tZ [0] I (A0 [0] (Bm i _ _ _ d2) ?_)
 exact Af 2 I (tY (lg ⟨(bl.2.L_, bl.2.At, (bl.1 == 0)), h, I2⟩ N8))
 have h := Cd a0 h
 refine tX (Am 5 [.o 1 8] I J1 (Ah 101 I W (Af 5 I (Ah 106 I aa (Am 3 [.o 1 5] I J1 (Bx I I I (uI (Bc 4 (m := B.1) I I I I I I I ah (Ae O)) I (Bx I I I (uI (Ay 4 B.1 0 I I I (Ae O) I (y := .V B.2) I) I (Af 3 I (Ah 114 I ai (Am 3 [.o 1 5] I J1 ?_))))))))))))
 refine Bx I I I (uI (Bc 4 (m := B.1) I I I I I I I ah (Ae O)) I (Bx I I I (uI (Ay 4 B.1 0 I I I (Ae O) I (y := .V B.2) I) I (Af 5 I (Ah 124 I an (Af 1 I (Bx I I I (uI (Bp 7 I I I I) I (Af 3 I (Ah 129 I a0 (Af 4 I (tY ?_))))))))))))
 rotate_left
 have h := Cd an h
 refine tX (Am 5 [.o 1 8] I J1 (Ah 101 I W (Af 5 I (Ah 106 I aa (Am 3 [.o 1 5] I J1 (Bx I I I (uI (Bc 4 (m := B.1) I I I I I I I ah (Ae O)) I (Bx I I I (uI (Ay 4 B.1 0 I I I (Ae O) I (y := .V B.2) I) I (Af 3 I (Ah 114 I ai (Am 3 [.o 1 5] I J1 ?_))))))))))))
 refine Bx I I I (uI (Bc 4 (m := B.1) I I I I I I I ah (Ae O)) I (Bx I I I (uI (Ay 4 B.1 0 I I I (Ae O) I (y := .V B.2) I) I (Af 5 I (Ah 124 I an (Af 9 I (tY ?_)))))))
 rotate_left
 have h := Cd ai h
 refine tX (Am 5 [.o 1 8] I J1 (Ah 101 I W (Af 5 I (Ah 106 I aa (Am 3 [.o 1 5] I J1 (Bx I I I (uI (Bc 4 (m := B.1) I I I I I I I ah (Ae O)) I (Bx I I I (uI (Ay 4 B.1 0 I I I (Ae O) I (y := .V B.2) I) I (Af 3 I (Ah 114 I ai (Af 19 I ?_))))))))))))
 refine tY ?_
 rotate_left
 have h := Cd aa h
 refine tX (Am 5 [.o 1 8] I J1 (Ah 101 I W (Af 5 I (Ah 106 I aa (Af 27 I (tY ?_))))))
 rotate_left
 have h := Cd W h
 refine tX (Am 5 [.o 1 8] I J1 (Ah 101 I W (Af 32 I (tY ?_))))
 any_goals
  exact lg ⟨(P.1, P.2.1, false), h, I2⟩ N8
 rintro s ob ⟨U, h, rfl, rfl⟩
 refine Ao h I ?_ ?_
 intro d3 h
 exact Lj I (lg ⟨(U.1, U.2.1, (ag : Int)), h, I2⟩ N8)
 intro d3 h
 exact uA (lg ⟨(U.1, U.2.1, P.2.2), h, I2⟩ N8)
 rintro s ob ⟨az, h, rfl, rfl⟩
 unfold Rk.J18 at h
 refine tX (Am 2 [.k 0 (ag + 1 : Nat)] I ⟨A6 b9 dv, J⟩ ?_)
 cases io h
 exact tY (lg I2 N8)
 rintro P s ob ⟨rfl, rfl⟩ he
 subst he
 have h := dx
 have d4 := Cs j.Ports.length
 exact Ai I (Ab fun f2 f3 => Br I d4 (uG (lg ⟨(P.1, P.2.1, P.2.2), h, I2⟩ N8)))
 rintro s ob ⟨F, h, rfl, rfl⟩
 refine Ab fun f4 d5 => Ai I (Ao h I ?_ ?_)
 intro d6 h
 obtain rfl := bj _ (oi h).symm
 have h := bi
 exact uG (lg ⟨(F.1, F.2.1, n.2.2.2.1, F.2.2), M, h, I2⟩ N8)
 intro d6 h
 refine uA ?_
 subst d5
 refine Ai I (Aj (fun s ob => ∃ (bm : Li) (bn : Value), Rk.J13 j n F bm = some b7 ∧ s = [(16, .v bn)] ∧ ob = [O2 i [[Q0 F.1, .V F.2.1]], O0 G [Ad j], O1 D [W0], U0 a e.2.2.1, U0 c e.2.2.2.1, O1 w [[.v a, .v c, .v g]], U4 g p.2.2, U0 M n.2.2.2.1, U0 bn bm]) [(0, _), (3, _), (4, _), (5, _), (7, _), (8, _), (9, _), (10, _), (11, _), (12, _), (13, _)] oL ?_ ?_)
 refine Bg [.o 1 1, .l 2 (j.Segments.length : Int)] I ⟨A4, I, J⟩ (uB (Cg 139 I fun d7 => uF (Az 3 1) ?_))
 obtain ⟨f5, d8, d9⟩ := Ac h
 refine Cl d8 [(0, _), (3, _), (4, _), (5, _), (7, _), (8, _), (9, _), (10, _), (11, _), (12, _), (13, _), (139, _), (140, _)] rF (fun (ao : Nat) (aj : Li) s ob => ∃ (ak : Value), s = [(141, .V (ao : Int)), (16, .v ak)] ∧ ob = [O2 i [[Q0 F.1, .V F.2.1]], O0 G [Ad j], O1 D [W0], U0 a e.2.2.1, U0 c e.2.2.2.1, O1 w [[.v a, .v c, .v g]], U4 g p.2.2, U0 M n.2.2.2.1, U0 ak aj]) ⟨nS, I2⟩ ⟨I, I, J⟩ (pk N9) ?_ ?_
 rintro ao Q aj ca s ob ea cb ⟨ak, rfl, rfl⟩ h
 unfold Rk.B14 at h
 have eb := Cr cb
 refine Ai I (Ab fun f6 ec => Bq I eb (uA ?_))
 subst ec
 refine Aj (fun s ob => ∃ (bo : Li) (a7 : Value), Rk.J15 bo = some ca ∧ s = [(16, .v a7)] ∧ ob = [O2 i [[Q0 F.1, .V F.2.1]], O0 G [Ad j], O1 D [W0], U0 a e.2.2.1, U0 c e.2.2.2.1, O1 w [[.v a, .v c, .v g]], U4 g p.2.2, U0 M n.2.2.2.1, U0 a7 bo]) [(0, _), (3, _), (4, _), (5, _), (7, _), (8, _), (9, _), (10, _), (11, _), (12, _), (13, _), (139, _), (140, _), (141, _)] rE ?_ ?_
 refine uB (Ab fun f7 ed => tX (Am 3 [.x 1 ao (Ar Q)] I ⟨⟨I, Ae ea⟩, J⟩ (tZ [] I (Bs W2 7 fun f8 => Af 1 I (tZ [9] I (Bj 9 0 0 [Ar Q] I (tY ?_)))))))
 subst ed
 refine Aj (fun s ob => ∃ (bp : Bool), Rk.J16 ao aj bp = some ca ∧ s = [(180, .v (.bool bp))] ∧ ob = [O2 i [[Q0 F.1, .V F.2.1]], O0 G [Ad j], O1 D [W0], U0 a e.2.2.1, U0 c e.2.2.2.1, O1 w [[.v a, .v c, .v g]], U4 g p.2.2, U0 M n.2.2.2.1, U0 ak aj]) [(0, _), (3, _), (4, _), (5, _), (7, _), (8, _), (9, _), (10, _), (11, _), (12, _), (13, _), (16, _), (17, _), (139, _), (140, _), (141, _)] ⟨I, I, I, I, I, I, I, I, I, I, I, I, I, I, I, I, J⟩ ?_ ?_
 rcases bt ((Q.From == n.2.2.1)) with ab | ab
 have h := Cc ab h
 rcases bt (decide ((wr ((wr (Q.From + Q.To)) - n.2.2.1)) > n.2.2.1)) with a1 | a1
 have h := Cc a1 h
 obtain ⟨aq, ⟨ee, bq⟩, h⟩ := A5 h
 refine Bz 3 aq.1 I bq fun ef => Bk X9 [9, 5, 3] [_, _, _] I (Bv 5 [.o 1 0] I J1 (A9 150 I ab (Bv 17 [.o 7 0, .o 9 0] I J2 (A9 167 I a1 (Bv 3 [.o 1 1] I J1 (Dd I I I I ((Av (m := aq.1) I I I I I ef I ee bq).yd) dS (Dd I I I I (Ay 2 aq.1 0 I I I (Ae bq) I (y := .V aq.2) I) dS (Bv 4 [.o 2 0] I J1 (Ja I (Vl aq.2 _ I) (A3 3 I (Ap ?_)))))))))))
 exact tY (lg ⟨decide ((wr ((Ik aq.2) + A.1)) ≤ (min 1000 Q.Capacity)), h, I2⟩ N9)
 have h := Cd a1 h
 exact Bk X9 [9] [_] I (Bv 5 [.o 1 0] I J1 (A9 150 I ab (Bv 17 [.o 7 0, .o 9 0] I J2 (A9 167 I a1 (A3 13 I (Ap (tY (lg ⟨false, h, I2⟩ N9))))))))
 have h := Cd ab h
 rcases bt ((Q.To == n.2.2.1)) with ar | ar
 have h := Cc ar h
 rcases bt (decide ((wr ((wr (Q.From + Q.To)) - n.2.2.1)) > n.2.2.1)) with a2 | a2
 have h := Cc a2 h
 obtain ⟨au, ⟨eg, br⟩, h⟩ := A5 h
 refine Bz 3 au.1 I br fun eh => Bk X9 [9, 5, 3] [_, _, _] I (Bv 5 [.o 1 0] I J1 (A9 150 I ab (Bv 6 [.o 1 0] I J1 (A9 156 I ar (Bv 11 [.o 1 0, .o 3 0] I J2 (A9 167 I a2 (Bv 3 [.o 1 1] I J1 (Dd I I I I ((Av (m := au.1) I I I I I eh I eg br).yd) dS (Dd I I I I (Ay 2 au.1 0 I I I (Ae br) I (y := .V au.2) I) dS (Bv 4 [.o 2 0] I J1 (Ja I (Vl au.2 _ I) ?_)))))))))))
 exact A3 3 I (Ap (tY (lg ⟨decide ((wr ((Ik au.2) + A.1)) ≤ (min 1000 Q.Capacity)), h, I2⟩ N9)))
 have h := Cd a2 h
 exact Bk X9 [9] [_] I (Bv 5 [.o 1 0] I J1 (A9 150 I ab (Bv 6 [.o 1 0] I J1 (A9 156 I ar (Bv 11 [.o 1 0, .o 3 0] I J2 (A9 167 I a2 (A3 13 I (Ap (tY (lg ⟨false, h, I2⟩ N9))))))))))
 have h := Cd ar h
 exact Bk X9 [9] [_] I (Bv 5 [.o 1 0] I J1 (A9 150 I ab (Bv 6 [.o 1 0] I J1 (A9 156 I ar (A3 24 I (Ap (tY (lg ⟨false, h, I2⟩ N9))))))))
 rintro s ob ⟨bp, h, rfl, rfl⟩
 refine Ao h I ?_ ?_
 intro ei h
 obtain ⟨ej, ek, h⟩ := Ac h
 exact tX (Af 2 I (tZ [] I (uH 1 (([(ao : Int)] : Li).map rI) (tZ [8] I (uO 8 I ek fun el => Af 1 I (tY (lg ⟨ej, el, h, I2⟩ N9)))))))
 intro ei h
 exact uA (lg ⟨aj, ak, h, I2⟩ N9)
 rintro s ob ⟨bo, a7, h, rfl, rfl⟩
 unfold Rk.J15 at h
 refine tX (Am 2 [.k 0 (ao + 1 : Nat)] I ⟨A6 cb d7, J⟩ ?_)
 cases io h
 exact tY (lg ⟨a7, I2⟩ N9)
 rintro aj s ob ⟨ak, rfl, rfl⟩ he
 subst he
 have h := d9
 have em := Cs j.Segments.length
 exact Ai I (Ab fun f9 ga => Br I em (uG (lg ⟨aj, ak, h, I2⟩ N9)))
 rintro s ob ⟨bm, bn, h, rfl, rfl⟩
 refine Ab fun gb en => uD (tX (Af 1 I (uI (Bp 8 I I I I) I (Af 1 I (tY (Ao h I ?_ ?_))))))
 intro eo h
 obtain rfl := bj _ (oi h).symm
 have h := bi
 exact uG (lg ⟨(F.1, F.2.1, n.2.2.2.1, F.2.2), M, h, I2⟩ N8)
 intro eo h
 refine uA ?_
 subst en
 refine Ab fun gc ep => ?_
 obtain ⟨gd, eq, h⟩ := Ac h
 obtain ⟨a8, ⟨er, cc⟩, h⟩ := A5 h
 refine tX (Af 3 I (uI (Bp 8 I I I I) I (tZ [0] I (A0 [0] (Bm i _ _ _ eq) ?_))))
 refine uI (Bc 8 (m := a8.1) I I I I I I I er (Ae cc)) I (uI (Ay 8 a8.1 0 I I I (Ae cc) I (y := .V a8.2) I) I (Af 1 I (tY ?_)))
 subst ep
 refine Ab fun ge es => ?_
 obtain ⟨gf, et, h⟩ := Ac h
 refine tX (Af 2 I (tZ [] I (uH 1 (([a8.2] : Li).map rI) (tZ [7] I (uO 7 I et fun eu => Af 1 I (tY ?_))))))
 subst es
 obtain ⟨a9, ⟨cd, ce⟩, h⟩ := A5 h
 refine Bk (pd 16 0 []) [1] [_] I (Bv 16 [.o 1 0, .x 3 a9.1 (Ar a9.2), .o 7 0, .x 9 a9.1 (Ar a9.2)] I ⟨⟨cd, Ae ce⟩, I, ⟨cd, Ae ce⟩, I, J⟩ (Ap ?_))
 cases io h
 exact tY ⟨_, _, _, I, ⟨eu, I2⟩, oL, pk N8⟩
 intro du h
 obtain rfl := bj _ (oi h).symm
 have h := bi
 exact uG (lg ⟨(n.1, n.2.1, n.2.2.2.1, n.2.2.2.2), M, h, I2⟩ N8)
 rintro s ob ⟨E, am, h, rfl, rfl⟩
 refine Ab fun gg ev => Ai I (Ao h I ?_ ?_)
 intro ew h
 exact uG (lg ⟨(E.1, E.2.1, e.2.2.1, e.2.2.2.1), h, I2⟩ N7)
 intro ew h
 refine uA ?_
 subst ev
 refine Aj (fun s ob => ∃ (av : Li), Rk.J8 j e A E av = some a5 ∧ s = [] ∧ ob = [O2 i [[Q0 E.1, .V E.2.1]], O0 G [Ad j], O1 D [W0], U0 a e.2.2.1, U0 c av, O1 w [[.v a, .v c, .v g]], U4 g p.2.2, U0 am E.2.2.1]) (K8 0 3 4 5 7 8 11 12) J8 ?_ ?_
 obtain ⟨H, ⟨bs, X⟩, h⟩ := A5 h
 obtain ⟨R, ⟨ex, ba⟩, h⟩ := A5 h
 obtain ⟨aw, ⟨cf, bb⟩, h⟩ := A5 h
 refine Bz 4 H.1 I X fun ey => Bz 4 R.1 I ba fun ez => Bz 4 H.1 I X fun cg => Bk (sl 10 0 (.still 11 (sl 4 13 (.still 18 (.two 10 17 (.still 12 (.act 17 (.still 19 qT))) (.still 19 (.act 10 (.still 12 qT)))))))) [5] [_] I (Bv 9 [.o 1 0, .o 4 0, .o 7 0] I J3 (uN I (Av (m := H.1) I I I I I ey I bs X) I (Bv 4 [.o 2 0] I J1 (uN I (Av (m := R.1) I I I I I ez I ex ba) I (A3 1 I (uQ ?_ ?_))))))
 exact uC [] I I I (Bf (Ay 4 H.1 0 I I I (Ae X) I (y := .V H.2) I) dS (A3 1 I (uC [] I I I (Bf (Ay 4 R.1 0 I I I (Ae ba) I (y := .V R.2) I) dS (A3 1 I (uN I (Av (m := H.1) I I I I I cg I bs X) I (uC [4] I I I (Bd 4 H.1 0 I I I (Ae X) I I I I (Ba I) I (Ce (x := wr (H.2 + A.1)) I) (uC [] I I I (Bf (Bc 4 (m := aw.1) I I I I I I I cf (Ae bb)) dS (uC [4] I I I (Bd 4 aw.1 0 I I I (Ae bb) I I I I (Ba I) I (Ce (x := wr (R.2 - A.1)) I) (Ap (tY (lg ⟨((e.2.2.2.1.set H.1 (wr (H.2 + A.1))).set aw.1 (wr (R.2 - A.1))), h, I2⟩ N8)))))))))))))))
 exact uC [] I I I (Bf (Ay 4 R.1 0 I I I (Ae ba) I (y := .V R.2) I) dS (A3 1 I (uC [] I I I (Bf (Ay 4 H.1 0 I I I (Ae X) I (y := .V H.2) I) dS (A3 1 I (uN I (Av (m := H.1) I I I I I cg I bs X) I (uC [4] I I I (Bd 4 H.1 0 I I I (Ae X) I I I I (Ba I) I (Ce (x := wr (H.2 + A.1)) I) (uC [] I I I (Bf (Bc 4 (m := aw.1) I I I I I I I cf (Ae bb)) dS (uC [4] I I I (Bd 4 aw.1 0 I I I (Ae bb) I I I I (Ba I) I (Ce (x := wr (R.2 - A.1)) I) (Ap (tY (lg ⟨((e.2.2.2.1.set H.1 (wr (H.2 + A.1))).set aw.1 (wr (R.2 - A.1))), h, I2⟩ N8)))))))))))))))
 rintro s ob ⟨av, h, rfl, rfl⟩
 refine Ab fun gh e0 => tX (Af 1 I (uI (Bp 7 I I I I) I (Af 1 I (tY ?_))))
 subst e0
 refine uB (Pl 7 I fun e1 => ?_)
 obtain ⟨gi, e2, e3⟩ := Ac h
 refine Eo e2 (K9 0 3 4 5 7 8 11 239 240) J9 (fun (bu : Nat) (ax : Li) s ob => s = [(241, .V (bu : Int))] ∧ ob = [O2 i [[Q0 E.1, .V E.2.1]], O0 G [Ad j], O1 D [W0], U0 a ax, U0 c av, O1 w [[.v a, .v c, .v g]], U4 g p.2.2, U0 am E.2.2.1]) ⟨I, I⟩ ⟨I, J⟩ (pk N8) ?_ ?_
 rintro bu ax e4 s ob ci ⟨rfl, rfl⟩ h
 unfold Rk.B9 at h
 have e5 := Cr ci
 refine Ai I (Ab fun gj e6 => Bq I e5 (uA ?_))
 subst e6
 refine Aj (fun s ob => ∃ (bv : Li), Rk.J10 bv = some e4 ∧ s = [] ∧ ob = [O2 i [[Q0 E.1, .V E.2.1]], O0 G [Ad j], O1 D [W0], U0 a bv, U0 c av, O1 w [[.v a, .v c, .v g]], U4 g p.2.2, U0 am E.2.2.1]) (sV 0 3 4 5 7 8 11 239 240 241) oM ?_ ?_
 refine uB (Ab fun gk e7 => ?_)
 obtain ⟨bw, ⟨e8, cj⟩, h⟩ := A5 h
 refine tX (uI (Bc 7 (m := bw.1) I I I I I I I e8 (Ae cj)) I (uI (Ay 7 bw.1 0 I I I (Ae cj) I (y := .V bw.2) I) I (Af 1 I (tY ?_))))
 subst e7
 refine Ab fun gl e9 => ?_
 obtain ⟨bc, ⟨ck, cl⟩, h⟩ := A5 h
 refine Ya (pd 13 0 []) [1] [_] [.o 1 0, .x 3 bc.1 (Ar bc.2), .o 7 0, .x 9 bc.1 (Ar bc.2)] I I ⟨⟨ck, Ae cl⟩, I, ⟨ck, Ae cl⟩, I, J⟩ ?_
 subst e9
 refine Ao h I ?_ ?_
 intro fa h
 obtain ⟨ac, ⟨cm, bd⟩, h⟩ := A5 h
 exact tX (Am 3 [.o 1 5] I J1 (uI (Bc 3 (m := ac.1) I I I I I I I cm (Ae bd)) I (uI (Ay 3 ac.1 0 I I I (Ae bd) I (y := .V ac.2) I) I (Af 2 I (uI (Bc 3 (m := ac.1) I I I I I I I cm (Ae bd)) I (tZ [3] I (Bd 3 ac.1 0 I I I (Ae bd) I I I I (Ba I) I (Ce (x := wr (ac.2 + A.1)) I) (tY (lg ⟨(ax.set ac.1 (wr (ac.2 + A.1))), h, I2⟩ N8)))))))))
 intro fa h
 obtain ⟨ad, ⟨cn, be⟩, h⟩ := A5 h
 exact tX (Am 3 [.o 1 5] I J1 (uI (Bc 3 (m := ad.1) I I I I I I I cn (Ae be)) I (uI (Ay 3 ad.1 0 I I I (Ae be) I (y := .V ad.2) I) I (Af 2 I (uI (Bc 3 (m := ad.1) I I I I I I I cn (Ae be)) I (tZ [3] I (Bd 3 ad.1 0 I I I (Ae be) I I I I (Ba I) I (Ce (x := wr (ad.2 - A.1)) I) (tY (lg ⟨(ax.set ad.1 (wr (ad.2 - A.1))), h, I2⟩ N8)))))))))
 rintro s ob ⟨bv, h, rfl, rfl⟩
 unfold Rk.J10 at h
 refine tX (Am 2 [.k 0 (bu + 1 : Nat)] I ⟨A6 ci e1, J⟩ ?_)
 cases io h
 exact tY (lg I2 N8)
 rintro ax s ob ⟨rfl, rfl⟩ he
 subst he
 have h := e3
 have fb := Cs E.2.2.1.length
 exact Ai I (Ab fun gm gn => Br I fb (uG (lg ⟨(E.1, E.2.1, ax, av), h, I2⟩ N7)))
 rintro s ob ⟨al, h, rfl, rfl⟩
 unfold Rk.J5 at h
 refine tX (Af 3 I ?_)
 cases io h
 exact tY ⟨_, _, _, I, I2, J6, pk N7⟩
 intro dg h
 obtain rfl := de _ (oi h).symm
 have h := dd
 exact uG (lg ⟨(e.1, e.2.1, e.2.2.1, e.2.2.2.1), h, I2⟩ [0, 2, 3, 4, 5, 6])
 rintro s ob ⟨u, h, rfl, rfl⟩
 refine uD (Ai I (Ao h I ?_ ?_))
 intro fc h
 refine uD ?_
 obtain ⟨fd, fe, h⟩ := Ac h
 refine tX (Am 1 [.o 0 4] I J1 (uP (Ax [2, 3, 5] (K := [U0 a u.2.2.1, U0 c u.2.2.2, U4 g p.2.2]) I [(276, .agg [Q0 u.2.2.1, Q0 u.2.2.2, Q3 p.2.2])] ⟨⟨_, I, .agg (.cons (.us 0 I) (.cons (.us 1 I) (.cons (.us 2 I) (.rest _))))⟩, J⟩ (ob' := [O2 i [[Q0 u.1, .V u.2.1]], O1 D [W0], O1 w [[Q0 u.2.2.1, Q0 u.2.2.2, Q3 p.2.2]]]) (.cons (.same _) (.cons (.same _) (.cons (.arr (.cons (.us 0 I) (.cons (.us 1 I) (.cons (.us 2 I) (.rest _))))) (.rest _))))) (tZ [] I (Bh I I I (gQ _ _ fe) dS ?_))))
 rintro _ _ ⟨rfl, rfl⟩
 refine tZ [1] I (Bj 1 0 0 [Aq fd] I (tY (C9 [0, 1] I ?_)))
 obtain rfl := oi h
 exact uE ⟨.inr I, [_], [O2 i [[Q0 u.1, .V u.2.1]]], ⟨⟨1, _, _, _, _, _, _, _, I5⟩, J⟩, Cb I (B0), ⟨[O2 i [[Q0 u.1, .V u.2.1]]], [], I5⟩⟩
 intro fc h
 refine uA (uD (tX (Am 1 [.o 0 4] I J1 (tZ [1] I (Bj 1 0 0 [[.v a, .v c, .v g]] I (tY (uF (Ax [2, 3, 5] (K := [U0 a u.2.2.1, U0 c u.2.2.2, U4 g p.2.2]) I [] J (ob' := [O2 i [[Q0 u.1, .V u.2.1]], O1 D [[Q0 u.2.2.1, Q0 u.2.2.2, Q3 p.2.2]], O1 w [[.v a, .v c, .v g]]]) (.cons (.same _) (.cons (.arr (.cons (.us 0 I) (.cons (.us 1 I) (.cons (.us 2 I) (.rest _))))) (.rest _)))) (C9 [0, 1] I ?_))))))))
 obtain rfl := oi h
 exact uE ⟨.inr I, [_], [O2 i [[Q0 u.1, .V u.2.1]]], ⟨⟨1, _, _, _, _, _, _, _, I5⟩, J⟩, Cb I (B0), ⟨[O2 i [[Q0 u.1, .V u.2.1]]], [], I5⟩⟩
theorem bW (a : Path) (r : Path) (h : aS a = some r) : ACalls Ak 25 [.agg (Gh a)] [] (fun x new => ∃ (c : Value), x = .agg [.V r.In, .V r.Out, .v c, .V r.Rate] ∧ new = [U3 c r.Hops]) := by
 refine Ag Tryz.func25 I I I fun C hC => ?_
 refine uD (tX (tZ [] I (Cf (Gh a) 4 fun g => tZ [] I (Bs W5 4 fun i => tY (uD ?_)))))
 obtain ⟨d, e, h⟩ := Ac h
 refine tX (tZ [] I (uM (sz := 2) (es := ([] : List Hop).map Df) I I I I I I I I I I I dS fun j => Am 2 [.o 1 0] I J1 (tZ [2] I (uO 2 I e fun b => Af 1 I (uV 2 I fun f => tZ [0] I (uL 0 0 2 (es' := [[.V a.In, .V a.Out, .v b, .V a.Rate]]) I I I I I I (Bw f) I (Ba I) I I (tY (uD (tX (Am 1 [.o 0 0] I J1 (tZ [1] I (Bj 1 0 0 [[.V a.In, .V a.Out, .v b, .V a.Rate]] I (tY ?_)))))))))))))
 refine C9 [2, 1] I ?_
 obtain rfl := oi h
 exact uE ⟨.inr I, [_], [U3 b d], ⟨⟨1, _, _, _, _, _, _, _, I5⟩, J⟩, Cb I (B0), ⟨b, I2⟩⟩
theorem jF (av : Li) (w : Int) (k : Int) (r : Bool) (h : aT av w k = some r) : ACalls Ak 4 [Q0 av, .V w, .V k] [] (RB r) := by
 refine Ag Tryz.func4 I I I fun C hC => ?_
 refine Ai I (Cx (s' := [(0, Q0 av), (1, .V w), (2, .V k)]) (ob' := []) ⟨J3, pk []⟩ (Ab fun y2 bn => uD (tX (Af 1 I (uJ (gI av _ I) (Af 1 I (tY (Ao h I ?_ ?_))))))))
 intro bo h
 refine uD ?_
 obtain ⟨r4, bp, h⟩ := Ac h
 refine tX (uJ (Ux  _ bp) (Af 1 I (tY ?_)))
 cases io h
 exact uE pr
 intro bo h
 refine uA ?_
 subst bn
 refine Cx (s' := [(0, Q0 av), (1, .V w), (2, .V k)]) (ob' := []) ⟨J3, pk []⟩ (Ab fun y6 bq => ?_)
 obtain ⟨r7, bs, h⟩ := Ac h
 refine tX (Af 1 I (tZ [] I (Bh I I I (iD _ _ bs) dS ?_)))
 rintro _ _ ⟨j, rfl, rfl⟩
 refine Af 1 I (tY ?_)
 subst bq
 refine Cx (s' := [(1, .V w), (2, .V k), (7, .P j)]) (ob' := [O2 j [Bi r7]]) ⟨J3, pk [0]⟩ (Ab fun ek bu => ?_)
 obtain ⟨e, bv, h⟩ := Ac h
 refine tX (Af 1 I (tZ [0] I (A0 [0] (iP j _ _ bv) ?_)))
 refine tZ [] I (Bs W1 6 fun f => tZ [1] I (Bj 1 0 0 [Ad e.1] I (tY ?_)))
 subst bu
 refine Cx (s' := [(1, .V w), (2, .V k), (7, .P j), (8, .P f)]) (ob' := [O2 j [Bi e.2], O0 f [Ad e.1]]) ⟨J4, pk [0, 1]⟩ (Aj (fun s ob => ∃ (b : Li × Int × (List (List Piece)) × Li × Li × (List Bool) × Li) (n : Value) (g : Nat) (i : Value), aT.J1 w k e b = some r ∧ s = [(9, .v n), (10, .P g), (11, .v i)] ∧ ob = [O2 j [[Q0 b.1, .V b.2.1]], O0 f [Ad e.1], .us n 34 1 (b.2.2.1.map (rL 2 Aa)), U0 i b.2.2.2.2.2.2, O1 g [[Q0 b.2.2.2.1, Q0 b.2.2.2.2.1, Q3 b.2.2.2.2.2.1]]]) (K4 1 2 7 8) J4 ?_ ?_)
 obtain ⟨a1, bc, h⟩ := Ac h
 obtain ⟨F, a8, h⟩ := Ac h
 obtain ⟨O, a2, h⟩ := Ac h
 refine Bk (.still 0 (.still 1 (.still 3 (.still 4 (.still 6 (.still 7 (.two 2 9 (.two 5 9 (.two 8 9 (.act 9 cH) (.act 8 cH)) (.act 5 (.act 8 cH))) (.act 2 (.act 5 (.act 8 cH)))))))))) [1] [_] I (Bv 6 [.o 1 0, .o 3 0, .o 5 0] I J3 (uQ ?_ ?_))
 refine uC [0] I I I (Ex [0] (Vx j _ _ _ _ bc) ?_)
 rintro _ _ _ - ⟨aw, rfl, rfl, rfl⟩
 refine uQ ?_ ?_
 refine uC [0] I I I (A0 [0] (Pf j _ _ _ a8) ?_)
 refine uQ ?_ ?_
 refine uC [0] I I I (Ex [0] (Kp j _ _ _ _ a2) ?_)
 rintro _ _ _ - ⟨af, rfl, rfl, rfl⟩
 exact uC [] I I I (Bs W0 3 fun ag => A3 1 I (uC [4] I I I (Bj 4 0 0 [Aq F.1] I (A3 1 I (Ap (tY (lg ⟨(O.2.L_, O.2.At, a1.1, F.1.Rates, F.1.Ports, F.1.Pumps, O.1), aw, ag, af, h, I2⟩ N5)))))))
 refine uC [] I I I (Bs W0 3 fun ag => uC [0] I I I (Ex [0] (Kp j _ _ _ _ a2) ?_))
 rintro _ _ _ - ⟨af, rfl, rfl, rfl⟩
 exact A3 1 I (uC [3] I I I (Bj 3 0 0 [Aq F.1] I (A3 1 I (Ap (tY (lg ⟨(O.2.L_, O.2.At, a1.1, F.1.Rates, F.1.Ports, F.1.Pumps, O.1), aw, ag, af, h, I2⟩ [0, 1, 2, 4, 3]))))))
 refine uC [] I I I (Bs W0 3 fun ag => uC [0] I I I (A0 [0] (Pf j _ _ _ a8) ?_))
 refine uC [0] I I I (Ex [0] (Kp j _ _ _ _ a2) ?_)
 rintro _ _ _ - ⟨af, rfl, rfl, rfl⟩
 exact A3 1 I (uC [3] I I I (Bj 3 0 0 [Aq F.1] I (A3 1 I (Ap (tY (lg ⟨(O.2.L_, O.2.At, a1.1, F.1.Rates, F.1.Ports, F.1.Pumps, O.1), aw, ag, af, h, I2⟩ [0, 1, 2, 4, 3]))))))
 refine uC [] I I I (Bs W0 3 fun ag => uC [0] I I I (Ex [0] (Vx j _ _ _ _ bc) ?_))
 rintro _ _ _ - ⟨aw, rfl, rfl, rfl⟩
 refine uC [0] I I I (A0 [0] (Pf j _ _ _ a8) ?_)
 refine uC [0] I I I (Ex [0] (Kp j _ _ _ _ a2) ?_)
 rintro _ _ _ - ⟨af, rfl, rfl, rfl⟩
 exact A3 1 I (uC [2] I I I (Bj 2 0 0 [Aq F.1] I (A3 1 I (Ap (tY (lg ⟨(O.2.L_, O.2.At, a1.1, F.1.Rates, F.1.Ports, F.1.Pumps, O.1), aw, ag, af, h, I2⟩ [0, 1, 3, 4, 2]))))))
 rintro s ob ⟨b, n, g, i, h, rfl, rfl⟩
 refine Ab fun el bw => ?_
 obtain ⟨D, bx, h⟩ := Ac h
 obtain ⟨G, b0, h⟩ := Ac h
 obtain ⟨A, b1, h⟩ := Ac h
 refine Bk (.still 0 (sl 4 2 (.still 7 (.act 1 (.act 6 (.act 8 (sl 3 9 .nil))))))) [1] [_] I (Bv 6 [.o 3 0, .l 4 (e.1.Ports.length : Int)] I ⟨A4, I, J⟩ (uC [0] I I I (A0 [0] (Bm j _ _ _ bx) ?_)))
 refine uC [0] I I I (A0 [0] (Bm j _ _ _ b0) ?_)
 refine uC [0] I I I (A0 [0] (Bm j _ _ _ b1) ?_)
 refine A3 3 I (Ap (tY ?_))
 subst bw
 refine Cx (s' := [(1, .V w), (2, .V k), (7, .P j), (8, .P f), (9, .v n), (10, .P g), (11, .v i), (12, .V D.1), (13, .V G.1), (14, .V A.1)]) (ob' := [O2 j [Bi A.2], O0 f [Ad e.1], .us n 34 1 (b.2.2.1.map (rL 2 Aa)), U0 i b.2.2.2.2.2.2, O1 g [[Q0 b.2.2.2.1, Q0 b.2.2.2.2.1, Q3 b.2.2.2.2.2.1]]]) ⟨oM, pk N5⟩ (Ai I (Cx (s' := [(1, .V w), (2, .V k), (7, .P j), (8, .P f), (9, .v n), (10, .P g), (11, .v i), (12, .V D.1), (13, .V G.1), (14, .V A.1), (15, .N)]) (ob' := [O2 j [Bi A.2], O0 f [Ad e.1], .us n 34 1 (b.2.2.1.map (rL 2 Aa)), U0 i b.2.2.2.2.2.2, O1 g [[Q0 b.2.2.2.1, Q0 b.2.2.2.2.1, Q3 b.2.2.2.2.2.1]]]) ⟨oL, pk N5⟩ (Aj (fun s ob => ∃ (t : Li × Int × (List Hop)) (u : Value), aT.J2 w k e b D G A t = some r ∧ s = [(15, .v u)] ∧ ob = [O2 j [[Q0 t.1, .V t.2.1]], O0 f [Ad e.1], .us n 34 1 (b.2.2.1.map (rL 2 Aa)), U0 i b.2.2.2.2.2.2, O1 g [[Q0 b.2.2.2.1, Q0 b.2.2.2.2.1, Q3 b.2.2.2.2.2.1]], U3 u t.2.2]) (sV 1 2 7 8 9 10 11 12 13 14) oM ?_ ?_)))
 refine Ab fun em b2 => ?_
 obtain ⟨a9, b3, h⟩ := Ac h
 refine tX (Am 2 [.o 0 1, .o 1 4] I J2 (tZ [] I (Bh I I I (fZ _ _ _ b3) dS ?_)))
 rintro _ _ ⟨a3, rfl, rfl⟩
 refine Af 5 I (tY ?_)
 subst b2
 refine Cx (s' := [(1, .V w), (2, .V k), (7, .P j), (8, .P f), (9, .v n), (10, .P g), (11, .v i), (12, .V D.1), (13, .V G.1), (14, .V A.1), (15, .N), (16, .v a3)]) (ob' := [O2 j [Bi A.2], O0 f [Ad e.1], .us n 34 1 (b.2.2.1.map (rL 2 Aa)), U0 i b.2.2.2.2.2.2, O1 g [[Q0 b.2.2.2.1, Q0 b.2.2.2.2.1, Q3 b.2.2.2.2.2.1]], U9 a3 a9.1]) ⟨rG, pk N6⟩ (Ab fun en b4 => tX (Af 1 I (uI (Bp 5 I I I I) I (Af 1 I (tY ?_)))))
 subst b4
 refine Cx (s' := [(1, .V w), (2, .V k), (7, .P j), (8, .P f), (9, .v n), (10, .P g), (11, .v i), (12, .V D.1), (13, .V G.1), (14, .V A.1), (15, .N), (16, .v a3), (74, .v (.bool (decide ((a9.1.length : Int) > 0))))]) (ob' := [O2 j [Bi A.2], O0 f [Ad e.1], .us n 34 1 (b.2.2.1.map (rL 2 Aa)), U0 i b.2.2.2.2.2.2, O1 g [[Q0 b.2.2.2.1, Q0 b.2.2.2.2.1, Q3 b.2.2.2.2.2.1]], U9 a3 a9.1]) ⟨rF, pk N6⟩ (Ao h I ?_ ?_)
 intro b5 h
 obtain ⟨bd, b6, h⟩ := Ac h
 obtain ⟨ba, ⟨b7, be⟩, h⟩ := A5 h
 obtain ⟨b8, ca, h⟩ := Ac h
 refine tX (Af 3 I (uI (Bp 5 I I I I) I (tZ [0] I (A0 [0] (Bm j _ _ _ b6) ?_))))
 refine uI (Bc 5 (m := ba.1) I I I I I I I b7 (Ae be)) I (uI (Ay 5 ba.1 0 I I I (Ae be) I (y := .agg (Gh ba.2)) I) I (tZ [] I (S7 I (.refl _) I I (.rest _) I (bW _ _ ca) dS (by rintro _ _ ⟨_, rfl, rfl⟩; exact ⟨rfl, by intro p hp; simp only [List.mem_cons, List.not_mem_nil, or_false] at hp; rcases hp with rfl <;> exact Y5 fun _ => rfl⟩) ?_)))
 rintro _ _ ⟨bf, rfl, rfl⟩
 exact uK (Yp.field I I I I I (y := .v bf) I) I (Af 1 I (tY (lg ⟨(bd.2.L_, bd.2.At, b8.Hops), bf, h, I2⟩ [0, 1, 2, 3, 4, 6])))
 intro b5 h
 exact uF (Az 67 2) (uA (lg ⟨(A.2.L_, A.2.At, []), nS, h, I2⟩ [0, 1, 2, 3, 4, 6]))
 rintro s ob ⟨t, u, h, rfl, rfl⟩
 refine Ab fun eo cb => ?_
 obtain ⟨a4, cc, h⟩ := Ac h
 refine tX (Af 1 I (tZ [0] I (A0 [0] (Bm j _ _ _ cc) ?_)))
 refine Af 2 I (tY ?_)
 subst cb
 refine Cx (s' := [(1, .V w), (2, .V k), (7, .P j), (8, .P f), (9, .v n), (10, .P g), (11, .v i), (12, .V D.1), (13, .V G.1), (14, .V A.1), (15, .v u), (18, .v (.bool (a4.1 == 0)))]) (ob' := [O2 j [Bi a4.2], O0 f [Ad e.1], .us n 34 1 (b.2.2.1.map (rL 2 Aa)), U0 i b.2.2.2.2.2.2, O1 g [[Q0 b.2.2.2.1, Q0 b.2.2.2.2.1, Q3 b.2.2.2.2.2.1]], U3 u t.2.2]) ⟨rG, pk N6⟩ (Ab fun ep cd => ?_)
 obtain ⟨aa, ce, h⟩ := Ac h
 obtain ⟨P, ⟨cf, bg⟩, h⟩ := A5 h
 refine tX (Af 3 I (uI (Bp 2 I I I I) I (tZ [0] I (A0 [0] (Bm j _ _ _ ce) ?_))))
 refine uI (Bc 2 (m := P.1) I I I I I I I cf (Ae bg)) I (uI (Ay 2 P.1 0 I I I (Ae bg) I (y := Q2 P.2) I) I (Af 1 I (tY ?_)))
 subst cd
 refine Aj (fun s ob => ∃ (a : (List Bt) × (List Sg) × (List Port) × (List Sn) × Int × Int × (List (List Piece)) × Li × Li × (List Bool) × Int × Int × (List Hop) × (List Piece)) (B : Value), aT.J3 w k b D a4 a = some r ∧ s = [(9, .list 1 (a.2.2.2.2.2.2.1.map (rL 2 Aa))), (13, .V a.2.2.2.2.2.2.2.2.2.2.1), (14, .V a.2.2.2.2.2.2.2.2.2.2.2.1), (15, .v B), (19, Q2 a.2.2.2.2.2.2.2.2.2.2.2.2.2)] ∧ ob = [O0 f [[Q1 a.1, Q6 a.2.1, Q4 a.2.2.1, Q5 a.2.2.2.1, .V a.2.2.2.2.1, .V a.2.2.2.2.2.1]], U0 i b.2.2.2.2.2.2, O1 g [[Q0 a.2.2.2.2.2.2.2.1, Q0 a.2.2.2.2.2.2.2.2.1, Q3 a.2.2.2.2.2.2.2.2.2.1]], U3 B a.2.2.2.2.2.2.2.2.2.2.2.2.1]) (K7 1 2 8 10 11 12 18) J7 ?_ ?_
 refine Ab fun eq ci => ?_
 obtain ⟨er, cj, h⟩ := Ac h
 refine tX (Af 1 I (uJ (Ez _ _ _ cj) (tY ?_)))
 subst ci
 refine uB (Ai I (Ao h I ?_ ?_))
 intro ck h
 obtain ⟨U, cl, h⟩ := Ac h
 refine tX (Am 2 [.o 1 1] I J1 (tZ [0] I (A0 [0] (jH j _ _ _ cl) ?_)))
 exact tZ [1] I (Bj 1 0 0 [Ad U.1] I (uP (Ax [2] (K := [.us n 34 1 (b.2.2.1.map (rL 2 Aa))]) I [(9, .list 1 (b.2.2.1.map (rL 2 Aa))), (87, .list 1 (b.2.2.1.map (rL 2 Aa))), (89, .list 1 (b.2.2.1.map (rL 2 Aa)))] ⟨⟨_, I, .us 0 I⟩, ⟨_, I, .us 0 I⟩, ⟨_, I, .us 0 I⟩, J⟩ (ob' := [O2 j [Bi U.2], O0 f [Ad U.1], U0 i b.2.2.2.2.2.2, O1 g [[Q0 b.2.2.2.1, Q0 b.2.2.2.2.1, Q3 b.2.2.2.2.2.1]], U3 u t.2.2]) (.rest _)) (tY (lg ⟨(U.1.Nodes, U.1.Segments, U.1.Ports, U.1.Stations, U.1.Vapour, U.1.Settle, b.2.2.1, b.2.2.2.1, b.2.2.2.2.1, b.2.2.2.2.2.1, G.1, A.1, t.2.2, P.2), u, h, I2⟩ [1, 2, 3, 4]))))
 intro ck h
 refine Ai I (Ao h I ?_ ?_)
 intro cm h
 obtain ⟨am, cn, h⟩ := Ac h
 refine tX (Am 2 [.o 1 4] I J1 (tZ [0] I (A0 [0] (gZ j _ _ _ cn) ?_)))
 exact tZ [4] I (Bj 4 0 0 [Aq am.1] I (uP (Ax [2] (K := [.us n 34 1 (b.2.2.1.map (rL 2 Aa))]) I [(9, .list 1 (b.2.2.1.map (rL 2 Aa))), (87, .list 1 (b.2.2.1.map (rL 2 Aa))), (89, .list 1 (b.2.2.1.map (rL 2 Aa)))] ⟨⟨_, I, .us 0 I⟩, ⟨_, I, .us 0 I⟩, ⟨_, I, .us 0 I⟩, J⟩ (ob' := [O2 j [Bi am.2], O0 f [Ad e.1], U0 i b.2.2.2.2.2.2, O1 g [Aq am.1], U3 u t.2.2]) (.rest _)) (tY (lg ⟨(e.1.Nodes, e.1.Segments, e.1.Ports, e.1.Stations, e.1.Vapour, e.1.Settle, b.2.2.1, am.1.Rates, am.1.Ports, am.1.Pumps, G.1, A.1, t.2.2, P.2), u, h, I2⟩ [1, 2, 3, 4]))))
 intro cm h
 refine Ai I (Ao h I ?_ ?_)
 intro co h
 obtain ⟨cp, cq, h⟩ := Ac h
 exact tX (Af 1 I (uJ (Ez _ _ _ cq) (Af 2 I (uP (Ax [2] (K := [.us n 34 1 (b.2.2.1.map (rL 2 Aa))]) I [(9, .list 1 (b.2.2.1.map (rL 2 Aa))), (87, .list 1 (b.2.2.1.map (rL 2 Aa))), (89, .list 1 (b.2.2.1.map (rL 2 Aa)))] ⟨⟨_, I, .us 0 I⟩, ⟨_, I, .us 0 I⟩, ⟨_, I, .us 0 I⟩, J⟩ (ob' := [O2 j [Bi aa.2], O0 f [Ad e.1], U0 i b.2.2.2.2.2.2, O1 g [[Q0 b.2.2.2.1, Q0 b.2.2.2.2.1, Q3 b.2.2.2.2.2.1]], U3 u t.2.2]) (.rest _)) (tY (lg ⟨(e.1.Nodes, e.1.Segments, e.1.Ports, e.1.Stations, e.1.Vapour, e.1.Settle, b.2.2.1, b.2.2.2.1, b.2.2.2.2.1, b.2.2.2.2.2.1, wr (cp - 2), A.1, t.2.2, P.2), u, h, I2⟩ [1, 2, 3, 4]))))))
 intro co h
 refine Ai I (Ao h I ?_ ?_)
 intro cr h
 obtain ⟨et, ct, h⟩ := Ac h
 obtain ⟨a5, ⟨cu, bh⟩, h⟩ := A5 h
 exact tX (tZ [] I (uM (sz := 1) (es := ([(-1), 401] : Li).map rI) I I I I I I I I I I I dS fun cv => Af 1 I (uJ (Ez _ _ _ ct) (uI (Bc 6 (m := a5.1) I I I I I I I cu (Ae bh)) I (uI (Ay 6 a5.1 0 I I I (Ae bh) I (y := .V a5.2) I) I (Af 1 I (uP (Ax [2] (K := [.us n 34 1 (b.2.2.1.map (rL 2 Aa))]) I [(9, .list 1 (b.2.2.1.map (rL 2 Aa))), (87, .list 1 (b.2.2.1.map (rL 2 Aa))), (89, .list 1 (b.2.2.1.map (rL 2 Aa)))] ⟨⟨_, I, .us 0 I⟩, ⟨_, I, .us 0 I⟩, ⟨_, I, .us 0 I⟩, J⟩ (ob' := [O2 j [Bi aa.2], O0 f [Ad e.1], U0 i b.2.2.2.2.2.2, O1 g [[Q0 b.2.2.2.1, Q0 b.2.2.2.2.1, Q3 b.2.2.2.2.2.1]], U3 u t.2.2, .us cv 3 1 (([(-1), 401] : Li).map rI)]) (.rest _)) (tY (lg ⟨(e.1.Nodes, e.1.Segments, e.1.Ports, e.1.Stations, e.1.Vapour, e.1.Settle, b.2.2.1, b.2.2.2.1, b.2.2.2.2.1, b.2.2.2.2.2.1, G.1, a5.2, t.2.2, P.2), u, h, I2⟩ [1, 2, 3, 4])))))))))
 intro cr h
 refine Ai I (Ao h I ?_ ?_)
 intro cw h
 refine uD (tX (Af 1 I (uI (Bp 5 I I I I) I (Af 1 I (tY (Ao h I ?_ ?_))))))
 intro cx h
 obtain ⟨M, ⟨bi, a6⟩, h⟩ := A5 h
 exact tX (Af 2 I (uI (Bc 5 (m := M.1) I I I I I I I bi (Ae a6)) I (Af 1 I (uI (Ay 5 M.1 1 I I I (Ae a6) I (y := .v (.bool M.2.Back)) I) I (Af 1 I (uI (Bc 5 (m := M.1) I I I I I I I bi (Ae a6)) I (Af 1 I (tZ [5] I (Bd 5 M.1 1 I I I (Ae a6) I I I I (Ba I) I (Ce (x := (⟨M.2.Segment, (!M.2.Back)⟩ : Hop)) I) (uP (Ax [2] (K := [.us n 34 1 (b.2.2.1.map (rL 2 Aa))]) I [(9, .list 1 (b.2.2.1.map (rL 2 Aa))), (87, .list 1 (b.2.2.1.map (rL 2 Aa))), (89, .list 1 (b.2.2.1.map (rL 2 Aa)))] ⟨⟨_, I, .us 0 I⟩, ⟨_, I, .us 0 I⟩, ⟨_, I, .us 0 I⟩, J⟩ (ob' := [O2 j [Bi aa.2], O0 f [Ad e.1], U0 i b.2.2.2.2.2.2, O1 g [[Q0 b.2.2.2.1, Q0 b.2.2.2.2.1, Q3 b.2.2.2.2.2.1]], .us u 67 2 ((t.2.2.set M.1 (⟨M.2.Segment, (!M.2.Back)⟩ : Hop)).map Df)]) (.rest _)) (tY (lg ⟨(e.1.Nodes, e.1.Segments, e.1.Ports, e.1.Stations, e.1.Vapour, e.1.Settle, b.2.2.1, b.2.2.2.1, b.2.2.2.2.1, b.2.2.2.2.2.1, G.1, A.1, (t.2.2.set M.1 (⟨M.2.Segment, (!M.2.Back)⟩ : Hop)), P.2), u, h, I2⟩ [1, 2, 3, 4]))))))))))))
 intro cx h
 exact uF (Ax [2] (K := [.us n 34 1 (b.2.2.1.map (rL 2 Aa))]) I [(9, .list 1 (b.2.2.1.map (rL 2 Aa))), (87, .list 1 (b.2.2.1.map (rL 2 Aa))), (89, .list 1 (b.2.2.1.map (rL 2 Aa)))] ⟨⟨_, I, .us 0 I⟩, ⟨_, I, .us 0 I⟩, ⟨_, I, .us 0 I⟩, J⟩ (ob' := [O2 j [Bi aa.2], O0 f [Ad e.1], U0 i b.2.2.2.2.2.2, O1 g [[Q0 b.2.2.2.1, Q0 b.2.2.2.2.1, Q3 b.2.2.2.2.2.1]], U3 u t.2.2]) (.rest _)) (uA (lg ⟨(e.1.Nodes, e.1.Segments, e.1.Ports, e.1.Stations, e.1.Vapour, e.1.Settle, b.2.2.1, b.2.2.2.1, b.2.2.2.2.1, b.2.2.2.2.2.1, G.1, A.1, t.2.2, P.2), u, h, I2⟩ [1, 2, 3, 4]))
 intro cw h
 refine Ai I (Ao h I ?_ ?_)
 intro cy h
 obtain ⟨bj, cz, h⟩ := Ac h
 obtain ⟨bk, c1, h⟩ := Ac h
 exact tX (Af 2 I (uJ (Ez _ _ _ cz) (Af 1 I (uK (Bl (l := [.V (wr (bj - 2)), .v (.bool false)]) I4 I) I (tZ [] I (uH 2 (([(⟨wr (bj - 2), false⟩ : Hop)] : List Hop).map Df) (tZ [5] I (uO 5 I c1 fun bl => Af 1 I (uP (Ax [2] (K := [.us n 34 1 (b.2.2.1.map (rL 2 Aa))]) I [(9, .list 1 (b.2.2.1.map (rL 2 Aa))), (87, .list 1 (b.2.2.1.map (rL 2 Aa))), (89, .list 1 (b.2.2.1.map (rL 2 Aa)))] ⟨⟨_, I, .us 0 I⟩, ⟨_, I, .us 0 I⟩, ⟨_, I, .us 0 I⟩, J⟩ (ob' := [O2 j [Bi aa.2], O0 f [Ad e.1], U0 i b.2.2.2.2.2.2, O1 g [[Q0 b.2.2.2.1, Q0 b.2.2.2.2.1, Q3 b.2.2.2.2.2.1]], U3 bl bk]) (.rest _)) (tY (lg ⟨(e.1.Nodes, e.1.Segments, e.1.Ports, e.1.Stations, e.1.Vapour, e.1.Settle, b.2.2.1, b.2.2.2.1, b.2.2.2.2.1, b.2.2.2.2.2.1, G.1, A.1, bk, P.2), bl, h, I2⟩ [1, 2, 3, 4])))))))))))
 intro cy h
 refine Ai I (Ao h I ?_ ?_)
 intro c2 h
 obtain ⟨a7, c3, h⟩ := Ac h
 exact tX (Af 1 I (uK (Bl (l := [.V 0, .V k]) D9 I) I (tZ [] I (uM (sz := 2) (es := ([(⟨0, k⟩ : Piece)] : List Piece).map Aa) I I I I I I I I I I I dS fun eu => Af 1 I (tZ [6] I (uO 6 I c3 fun c4 => Af 1 I (uP (Ax [2, 6] (K := [.us n 34 1 (b.2.2.1.map (rL 2 Aa)), U1 c4 a7]) I [(9, .list 1 (b.2.2.1.map (rL 2 Aa))), (87, .list 1 (b.2.2.1.map (rL 2 Aa))), (89, .list 1 (b.2.2.1.map (rL 2 Aa))), (19, Q2 a7), (146, Q2 a7)] ⟨⟨_, I, .us 0 I⟩, ⟨_, I, .us 0 I⟩, ⟨_, I, .us 0 I⟩, ⟨_, I, .us 1 I⟩, ⟨_, I, .us 1 I⟩, J⟩ (ob' := [O2 j [Bi aa.2], O0 f [Ad e.1], U0 i b.2.2.2.2.2.2, O1 g [[Q0 b.2.2.2.1, Q0 b.2.2.2.2.1, Q3 b.2.2.2.2.2.1]], U3 u t.2.2]) (.rest _)) (tY (lg ⟨(e.1.Nodes, e.1.Segments, e.1.Ports, e.1.Stations, e.1.Vapour, e.1.Settle, b.2.2.1, b.2.2.2.1, b.2.2.2.2.1, b.2.2.2.2.2.1, G.1, A.1, t.2.2, a7), u, h, I2⟩ [1, 2, 3, 4])))))))))
 intro c2 h
 refine Ai I (Ao h I ?_ ?_)
 intro c5 h
 obtain ⟨c6, c7, h⟩ := Ac h
 obtain ⟨c8, c9, da, db, dc, dd, de⟩ := Jw c7
 exact tX (Af 1 I (uP (Ax [2] (K := [.us n 34 1 (b.2.2.1.map (rL 2 Aa))]) I [(9, .list 1 (b.2.2.1.map (rL 2 Aa))), (87, .list 1 (b.2.2.1.map (rL 2 Aa))), (89, .list 1 (b.2.2.1.map (rL 2 Aa))), (149, .list 1 (b.2.2.1.map (rL 2 Aa)))] ⟨⟨_, I, .us 0 I⟩, ⟨_, I, .us 0 I⟩, ⟨_, I, .us 0 I⟩, ⟨_, I, .us 0 I⟩, J⟩ (ob' := [O2 j [Bi aa.2], O0 f [Ad e.1], U0 i b.2.2.2.2.2.2, O1 g [[Q0 b.2.2.2.1, Q0 b.2.2.2.2.1, Q3 b.2.2.2.2.2.1]], U3 u t.2.2]) (.rest _)) (uK (P6 c8 c9 0 I I I I I ⟨_, _, I, da⟩ (tA db) I dc dd de) I (Af 1 I (tY (lg ⟨(e.1.Nodes, e.1.Segments, e.1.Ports, e.1.Stations, e.1.Vapour, e.1.Settle, c6, b.2.2.2.1, b.2.2.2.2.1, b.2.2.2.2.2.1, G.1, A.1, t.2.2, P.2), u, h, I2⟩ [1, 2, 3, 4]))))))
 intro c5 h
 exact uF (Ax [2] (K := [.us n 34 1 (b.2.2.1.map (rL 2 Aa))]) I [(9, .list 1 (b.2.2.1.map (rL 2 Aa))), (87, .list 1 (b.2.2.1.map (rL 2 Aa))), (89, .list 1 (b.2.2.1.map (rL 2 Aa)))] ⟨⟨_, I, .us 0 I⟩, ⟨_, I, .us 0 I⟩, ⟨_, I, .us 0 I⟩, J⟩ (ob' := [O2 j [Bi aa.2], O0 f [Ad e.1], U0 i b.2.2.2.2.2.2, O1 g [[Q0 b.2.2.2.1, Q0 b.2.2.2.2.1, Q3 b.2.2.2.2.2.1]], U3 u t.2.2]) (.rest _)) (uA (lg ⟨(e.1.Nodes, e.1.Segments, e.1.Ports, e.1.Stations, e.1.Vapour, e.1.Settle, b.2.2.1, b.2.2.2.1, b.2.2.2.2.1, b.2.2.2.2.2.1, G.1, A.1, t.2.2, P.2), u, h, I2⟩ [1, 2, 3, 4]))
 rintro s ob ⟨a, B, h, rfl, rfl⟩
 refine Ab fun ev df => ?_
 obtain ⟨E, dg, h⟩ := Ac h
 refine tX (Af 3 I (uJ (gK _ _ _ _ dg) (Af 7 I (tY ?_))))
 subst df
 refine Cx (s' := [(1, .V w), (2, .V k), (8, .P f), (9, .list 1 (a.2.2.2.2.2.2.1.map (rL 2 Aa))), (10, .P g), (11, .v i), (12, .V D.1), (13, .V a.2.2.2.2.2.2.2.2.2.2.1), (14, .V a.2.2.2.2.2.2.2.2.2.2.2.1), (15, .v B), (18, .v (.bool (a4.1 == 0))), (19, Q2 a.2.2.2.2.2.2.2.2.2.2.2.2.2), (20, .V E.1), (21, .v (.bool E.2.1)), (22, .V E.2.2)]) (ob' := [O0 f [[Q1 a.1, Q6 a.2.1, Q4 a.2.2.1, Q5 a.2.2.2.1, .V a.2.2.2.2.1, .V a.2.2.2.2.2.1]], U0 i b.2.2.2.2.2.2, O1 g [[Q0 a.2.2.2.2.2.2.2.1, Q0 a.2.2.2.2.2.2.2.2.1, Q3 a.2.2.2.2.2.2.2.2.2.1]], U3 B a.2.2.2.2.2.2.2.2.2.2.2.2.1]) ⟨rD, pk N4⟩ (Ab fun ew dh => ?_)
 obtain ⟨H, di, h⟩ := Ac h
 refine tX (Af 3 I (uJ (gJ _ _ _ _ di) (Af 7 I (tY ?_))))
 subst dh
 refine Cx (s' := [(1, .V w), (2, .V k), (8, .P f), (9, .list 1 (a.2.2.2.2.2.2.1.map (rL 2 Aa))), (10, .P g), (11, .v i), (12, .V D.1), (13, .V a.2.2.2.2.2.2.2.2.2.2.1), (14, .V a.2.2.2.2.2.2.2.2.2.2.2.1), (15, .v B), (20, .V E.1), (21, .v (.bool E.2.1)), (22, .V E.2.2), (23, .V H.1), (24, .v (.bool H.2.1)), (25, .V H.2.2)]) (ob' := [O0 f [[Q1 a.1, Q6 a.2.1, Q4 a.2.2.1, Q5 a.2.2.2.1, .V a.2.2.2.2.1, .V a.2.2.2.2.2.1]], U0 i b.2.2.2.2.2.2, O1 g [[Q0 a.2.2.2.2.2.2.2.1, Q0 a.2.2.2.2.2.2.2.2.1, Q3 a.2.2.2.2.2.2.2.2.2.1]], U3 B a.2.2.2.2.2.2.2.2.2.2.2.2.1]) ⟨⟨I, I, I, I, I, I, I, I, I, I, I, I, I, I, I, I, J⟩, pk N4⟩ (Ab fun ex dj => ?_)
 obtain ⟨R, dk, h⟩ := Ac h
 refine tX (Am 4 [.o 0 0] I J1 (tZ [] I (Dv I (.refl _) I I (.cons (.refl _) (.cons (.refl _) (.cons (.us 3 I) (.rest _)))) I (Vo _ _ _ _ _ dk) dS (by rintro _ _ ⟨rfl, _⟩; rfl) ?_)))
 rintro _ ⟨_, rfl, -⟩
 refine Af 7 I (tY ?_)
 subst dj
 refine Cx (s' := [(1, .V w), (2, .V k), (8, .P f), (9, .list 1 (a.2.2.2.2.2.2.1.map (rL 2 Aa))), (10, .P g), (11, .v i), (12, .V D.1), (13, .V a.2.2.2.2.2.2.2.2.2.2.1), (14, .V a.2.2.2.2.2.2.2.2.2.2.2.1), (15, .v B), (20, .V E.1), (21, .v (.bool E.2.1)), (22, .V E.2.2), (23, .V H.1), (24, .v (.bool H.2.1)), (25, .V H.2.2), (26, .V R.1), (27, .v (.bool R.2.1)), (28, .V R.2.2)]) (ob' := [O0 f [[Q1 a.1, Q6 a.2.1, Q4 a.2.2.1, Q5 a.2.2.2.1, .V a.2.2.2.2.1, .V a.2.2.2.2.2.1]], U0 i b.2.2.2.2.2.2, O1 g [[Q0 a.2.2.2.2.2.2.2.1, Q0 a.2.2.2.2.2.2.2.2.1, Q3 a.2.2.2.2.2.2.2.2.2.1]], U3 B a.2.2.2.2.2.2.2.2.2.2.2.2.1]) ⟨⟨I, I, I, I, I, I, I, I, I, I, I, I, I, I, I, I, I, I, I, J⟩, pk N4⟩ (Ab fun ey dl => ?_)
 obtain ⟨ab, dm, h⟩ := Ac h
 refine tX (Am 4 [.o 0 0] I J1 (tZ [] I (Dv I (.refl _) I I (.cons (.refl _) (.cons (.refl _) (.cons (.us 3 I) (.rest _)))) I (iM _ _ _ _ _ dm) dS (by rintro _ _ ⟨rfl, _⟩; rfl) ?_)))
 rintro _ ⟨_, rfl, -⟩
 refine Af 7 I (tY ?_)
 subst dl
 refine Cx (s' := [(1, .V w), (2, .V k), (8, .P f), (9, .list 1 (a.2.2.2.2.2.2.1.map (rL 2 Aa))), (10, .P g), (11, .v i), (12, .V D.1), (13, .V a.2.2.2.2.2.2.2.2.2.2.1), (14, .V a.2.2.2.2.2.2.2.2.2.2.2.1), (20, .V E.1), (21, .v (.bool E.2.1)), (22, .V E.2.2), (23, .V H.1), (24, .v (.bool H.2.1)), (25, .V H.2.2), (26, .V R.1), (27, .v (.bool R.2.1)), (28, .V R.2.2), (29, .V ab.1), (30, .v (.bool ab.2.1)), (31, .V ab.2.2)]) (ob' := [O0 f [[Q1 a.1, Q6 a.2.1, Q4 a.2.2.1, Q5 a.2.2.2.1, .V a.2.2.2.2.1, .V a.2.2.2.2.2.1]], U0 i b.2.2.2.2.2.2, O1 g [[Q0 a.2.2.2.2.2.2.2.1, Q0 a.2.2.2.2.2.2.2.2.1, Q3 a.2.2.2.2.2.2.2.2.2.1]], U3 B a.2.2.2.2.2.2.2.2.2.2.2.2.1]) ⟨⟨I, I, I, I, I, I, I, I, I, I, I, I, I, I, I, I, I, I, I, I, I, J⟩, pk N4⟩ (Ab fun ez dn => Ea 212 ((E.1 != H.1) || ((E.2.1 != H.2.1) || ((E.2.2 != H.2.2) || ((R.1 != ab.1) || ((R.2.1 != ab.2.1) || (R.2.2 != ab.2.2)))))) ?_ ?_)
 refine tX (Af 4 I ?_)
 rcases bt ((E.1 != H.1)) with W | W
 exact Ah 188 I W (Af 24 I (tY (jf (by simp only [W, bz]) I I I2)))
 refine Ah 188 I W (Af 2 I (Bx I I I (uK (Xp I I I I) I (Af 2 I ?_))))
 rcases bt ((E.2.1 != H.2.1)) with ac | ac
 exact Ah 193 I ac (Af 19 I (tY (jf (by simp only [W, ac, bz]) I I I2)))
 refine Ah 193 I ac (Af 5 I ?_)
 rcases bt ((E.2.2 != H.2.2)) with ah | ah
 exact Ah 198 I ah (Af 14 I (tY (jf (by simp only [W, ac, ah, bz]) I I I2)))
 refine Ah 198 I ah (Af 5 I ?_)
 rcases bt ((R.1 != ab.1)) with an | an
 exact Ah 203 I an (Af 9 I (tY (jf (by simp only [W, ac, ah, an, bz]) I I I2)))
 refine Ah 203 I an (Af 2 I (Bx I I I (uK (Xp I I I I) I (Af 2 I ?_))))
 rcases bt ((R.2.1 != ab.2.1)) with ax | ax
 exact Ah 208 I ax (Af 4 I (tY (jf (by simp only [W, ac, ah, an, ax, bz]) I I I2)))
 exact Ah 208 I ax (Af 4 I (tY (jf (by simp only [W, ac, ah, an, ax, bz]) I I I2)))
 refine Ao h I ?_ ?_
 intro dp h
 refine Ai I (uF g0 ?_)
 cases io h
 exact uE pr
 intro dp h
 refine uA ?_
 subst dn
 refine Cx (s' := [(1, .V w), (2, .V k), (8, .P f), (9, .list 1 (a.2.2.2.2.2.2.1.map (rL 2 Aa))), (10, .P g), (11, .v i), (12, .V D.1), (13, .V a.2.2.2.2.2.2.2.2.2.2.1), (14, .V a.2.2.2.2.2.2.2.2.2.2.2.1)]) (ob' := [O0 f [[Q1 a.1, Q6 a.2.1, Q4 a.2.2.1, Q5 a.2.2.2.1, .V a.2.2.2.2.1, .V a.2.2.2.2.2.1]], U0 i b.2.2.2.2.2.2, O1 g [[Q0 a.2.2.2.2.2.2.2.1, Q0 a.2.2.2.2.2.2.2.2.1, Q3 a.2.2.2.2.2.2.2.2.2.1]], U3 B a.2.2.2.2.2.2.2.2.2.2.2.2.1]) ⟨J9, pk N4⟩ (Ab fun e0 dq => ?_)
 obtain ⟨e1, dr, h⟩ := Ac h
 obtain ⟨Q, ds, h⟩ := Ac h
 refine tX (Af 2 I (uJ (Ez _ _ _ dr) (Af 1 I (uJ (Pg _ _ _ ds) (Af 5 I (tY ?_))))))
 subst dq
 refine Cx (s' := [(1, .V w), (2, .V k), (8, .P f), (9, .list 1 (a.2.2.2.2.2.2.1.map (rL 2 Aa))), (10, .P g), (11, .v i), (12, .V D.1), (13, .V a.2.2.2.2.2.2.2.2.2.2.1), (14, .V a.2.2.2.2.2.2.2.2.2.2.2.1), (22, .V Q.2), (32, .V Q.1)]) (ob' := [O0 f [[Q1 a.1, Q6 a.2.1, Q4 a.2.2.1, Q5 a.2.2.2.1, .V a.2.2.2.2.1, .V a.2.2.2.2.2.1]], U0 i b.2.2.2.2.2.2, O1 g [[Q0 a.2.2.2.2.2.2.2.1, Q0 a.2.2.2.2.2.2.2.2.1, Q3 a.2.2.2.2.2.2.2.2.2.1]], U3 B a.2.2.2.2.2.2.2.2.2.2.2.2.1]) ⟨oL, pk N4⟩ (Ab fun e2 dt => ?_)
 obtain ⟨e3, du, h⟩ := Ac h
 obtain ⟨S, dv, h⟩ := Ac h
 refine tX (Af 2 I (uJ (Ez _ _ _ du) (Af 1 I (uJ (Uu _ _ _ dv) (Af 5 I (tY ?_))))))
 subst dt
 refine Cx (s' := [(1, .V w), (2, .V k), (8, .P f), (9, .list 1 (a.2.2.2.2.2.2.1.map (rL 2 Aa))), (10, .P g), (11, .v i), (12, .V D.1), (13, .V a.2.2.2.2.2.2.2.2.2.2.1), (14, .V a.2.2.2.2.2.2.2.2.2.2.2.1), (22, .V Q.2), (25, .V S.2), (32, .V Q.1), (33, .V S.1)]) (ob' := [O0 f [[Q1 a.1, Q6 a.2.1, Q4 a.2.2.1, Q5 a.2.2.2.1, .V a.2.2.2.2.1, .V a.2.2.2.2.2.1]], U0 i b.2.2.2.2.2.2, O1 g [[Q0 a.2.2.2.2.2.2.2.1, Q0 a.2.2.2.2.2.2.2.2.1, Q3 a.2.2.2.2.2.2.2.2.2.1]], U3 B a.2.2.2.2.2.2.2.2.2.2.2.2.1]) ⟨rF, pk N4⟩ (Ab fun e4 dw => ?_)
 obtain ⟨e5, dx, h⟩ := Ac h
 obtain ⟨e6, dy, h⟩ := Ac h
 obtain ⟨ai, dz, h⟩ := Ac h
 refine tX (Af 1 I (uJ (Ez _ _ _ dx) (Af 1 I (uJ (Ez _ _ _ dy) (Af 1 I (uJ (Pg _ _ _ dz) (Af 5 I (tY ?_))))))))
 subst dw
 refine Cx (s' := [(1, .V w), (2, .V k), (8, .P f), (9, .list 1 (a.2.2.2.2.2.2.1.map (rL 2 Aa))), (10, .P g), (11, .v i), (12, .V D.1), (13, .V a.2.2.2.2.2.2.2.2.2.2.1), (14, .V a.2.2.2.2.2.2.2.2.2.2.2.1), (22, .V Q.2), (25, .V S.2), (32, .V Q.1), (33, .V S.1), (34, .V ai.1), (35, .V ai.2)]) (ob' := [O0 f [[Q1 a.1, Q6 a.2.1, Q4 a.2.2.1, Q5 a.2.2.2.1, .V a.2.2.2.2.1, .V a.2.2.2.2.2.1]], U0 i b.2.2.2.2.2.2, O1 g [[Q0 a.2.2.2.2.2.2.2.1, Q0 a.2.2.2.2.2.2.2.2.1, Q3 a.2.2.2.2.2.2.2.2.2.1]], U3 B a.2.2.2.2.2.2.2.2.2.2.2.2.1]) ⟨rD, pk N4⟩ (Ab fun e7 d0 => ?_)
 obtain ⟨e8, d1, h⟩ := Ac h
 obtain ⟨e9, d2, h⟩ := Ac h
 obtain ⟨ay, d3, h⟩ := Ac h
 refine tX (Af 1 I (uJ (Ez _ _ _ d1) (Af 1 I (uJ (Ez _ _ _ d2) (Af 1 I (uJ (Uu _ _ _ d3) (Af 5 I (tY ?_))))))))
 subst d0
 refine Cx (s' := [(8, .P f), (9, .list 1 (a.2.2.2.2.2.2.1.map (rL 2 Aa))), (10, .P g), (11, .v i), (12, .V D.1), (13, .V a.2.2.2.2.2.2.2.2.2.2.1), (14, .V a.2.2.2.2.2.2.2.2.2.2.2.1), (22, .V Q.2), (25, .V S.2), (32, .V Q.1), (33, .V S.1), (34, .V ai.1), (35, .V ai.2), (36, .V ay.1), (37, .V ay.2)]) (ob' := [O0 f [[Q1 a.1, Q6 a.2.1, Q4 a.2.2.1, Q5 a.2.2.2.1, .V a.2.2.2.2.1, .V a.2.2.2.2.2.1]], U0 i b.2.2.2.2.2.2, O1 g [[Q0 a.2.2.2.2.2.2.2.1, Q0 a.2.2.2.2.2.2.2.2.1, Q3 a.2.2.2.2.2.2.2.2.2.1]], U3 B a.2.2.2.2.2.2.2.2.2.2.2.2.1]) ⟨rD, pk N4⟩ (Ab fun fa d4 => Ea 264 ((Q.1 != S.1) || ((Q.2 != S.2) || ((ai.1 != ay.1) || (ai.2 != ay.2)))) ?_ ?_)
 refine tX (Af 4 I ?_)
 rcases bt ((Q.1 != S.1)) with aj | aj
 exact Ah 250 I aj (Af 14 I (tY (jf (by simp only [aj, bz]) I I I2)))
 refine Ah 250 I aj (Af 5 I ?_)
 rcases bt ((Q.2 != S.2)) with ao | ao
 exact Ah 255 I ao (Af 9 I (tY (jf (by simp only [aj, ao, bz]) I I I2)))
 refine Ah 255 I ao (Af 5 I ?_)
 rcases bt ((ai.1 != ay.1)) with az | az
 exact Ah 260 I az (Af 4 I (tY (jf (by simp only [aj, ao, az, bz]) I I I2)))
 exact Ah 260 I az (Af 4 I (tY (jf (by simp only [aj, ao, az, bz]) I I I2)))
 refine Ao h I ?_ ?_
 intro d5 h
 refine Ai I (uF g0 ?_)
 cases io h
 exact uE pr
 intro d5 h
 refine uA ?_
 subst d4
 refine Cx (s' := [(8, .P f), (9, .list 1 (a.2.2.2.2.2.2.1.map (rL 2 Aa))), (10, .P g), (11, .v i), (12, .V D.1), (13, .V a.2.2.2.2.2.2.2.2.2.2.1), (14, .V a.2.2.2.2.2.2.2.2.2.2.2.1)]) (ob' := [O0 f [[Q1 a.1, Q6 a.2.1, Q4 a.2.2.1, Q5 a.2.2.2.1, .V a.2.2.2.2.1, .V a.2.2.2.2.2.1]], U0 i b.2.2.2.2.2.2, O1 g [[Q0 a.2.2.2.2.2.2.2.1, Q0 a.2.2.2.2.2.2.2.2.1, Q3 a.2.2.2.2.2.2.2.2.2.1]], U3 B a.2.2.2.2.2.2.2.2.2.2.2.2.1]) ⟨J7, pk N4⟩ (Ab fun fb d6 => ?_)
 obtain ⟨X, d7, h⟩ := Ac h
 refine tX (Am 6 [.o 0 0, .o 2 2] I J2 (uP (Ax [1] (K := [U0 i b.2.2.2.2.2.2]) I [(11, Q0 b.2.2.2.2.2.2), (269, Q0 b.2.2.2.2.2.2)] ⟨⟨_, I, .us 0 I⟩, ⟨_, I, .us 0 I⟩, J⟩ (ob' := [O0 f [[Q1 a.1, Q6 a.2.1, Q4 a.2.2.1, Q5 a.2.2.2.1, .V a.2.2.2.2.1, .V a.2.2.2.2.2.1]], O1 g [[Q0 a.2.2.2.2.2.2.2.1, Q0 a.2.2.2.2.2.2.2.2.1, Q3 a.2.2.2.2.2.2.2.2.2.1]], U3 B a.2.2.2.2.2.2.2.2.2.2.2.2.1]) (.rest _)) (tZ [] I (Bh I I I (gF _ _ _ _ _ _ _ d7) dS ?_))))
 rintro _ _ ⟨ad, rfl, rfl⟩
 refine Af 5 I (tY ?_)
 subst d6
 refine Cx (s' := [(8, .P f), (9, .list 1 (a.2.2.2.2.2.2.1.map (rL 2 Aa))), (10, .P g), (11, Q0 b.2.2.2.2.2.2), (12, .V D.1), (13, .V a.2.2.2.2.2.2.2.2.2.2.1), (14, .V a.2.2.2.2.2.2.2.2.2.2.2.1), (22, .V X.2), (38, .v ad)]) (ob' := [O0 f [[Q1 a.1, Q6 a.2.1, Q4 a.2.2.1, Q5 a.2.2.2.1, .V a.2.2.2.2.1, .V a.2.2.2.2.2.1]], O1 g [[Q0 a.2.2.2.2.2.2.2.1, Q0 a.2.2.2.2.2.2.2.2.1, Q3 a.2.2.2.2.2.2.2.2.2.1]], U3 B a.2.2.2.2.2.2.2.2.2.2.2.2.1, U5 ad X.1]) ⟨J9, pk N4⟩ (Ab fun fc d8 => ?_)
 obtain ⟨ak, d9, h⟩ := Ac h
 refine tX (Am 6 [.o 0 0, .o 2 1] I J2 (tZ [] I (Bh I I I (Vk _ _ _ _ _ _ _ d9) dS ?_)))
 rintro _ _ ⟨aq, rfl, rfl⟩
 refine Af 5 I (tY ?_)
 subst d8
 refine Cx (s' := [(8, .P f), (9, .list 1 (a.2.2.2.2.2.2.1.map (rL 2 Aa))), (10, .P g), (11, Q0 b.2.2.2.2.2.2), (12, .V D.1), (13, .V a.2.2.2.2.2.2.2.2.2.2.1), (14, .V a.2.2.2.2.2.2.2.2.2.2.2.1), (22, .V X.2), (25, .V ak.2), (38, .v ad), (39, .v aq)]) (ob' := [O0 f [[Q1 a.1, Q6 a.2.1, Q4 a.2.2.1, Q5 a.2.2.2.1, .V a.2.2.2.2.1, .V a.2.2.2.2.2.1]], O1 g [[Q0 a.2.2.2.2.2.2.2.1, Q0 a.2.2.2.2.2.2.2.2.1, Q3 a.2.2.2.2.2.2.2.2.2.1]], U3 B a.2.2.2.2.2.2.2.2.2.2.2.2.1, U5 ad X.1, U5 aq ak.1]) ⟨oL, pk N5⟩ (Ab fun fd ea => ?_)
 obtain ⟨Y, eb, h⟩ := Ac h
 refine tX (Am 7 [.o 0 0, .o 2 1] I J2 (uJ (Vj _ _ _ _ _ _ _ _ eb) (Af 7 I (tY ?_))))
 subst ea
 refine Cx (s' := [(8, .P f), (9, .list 1 (a.2.2.2.2.2.2.1.map (rL 2 Aa))), (10, .P g), (11, Q0 b.2.2.2.2.2.2), (12, .V D.1), (13, .V a.2.2.2.2.2.2.2.2.2.2.1), (14, .V a.2.2.2.2.2.2.2.2.2.2.2.1), (22, .V X.2), (25, .V ak.2), (26, .V Y.1), (27, .v (.bool Y.2.1)), (28, .V Y.2.2), (38, .v ad), (39, .v aq)]) (ob' := [O0 f [[Q1 a.1, Q6 a.2.1, Q4 a.2.2.1, Q5 a.2.2.2.1, .V a.2.2.2.2.1, .V a.2.2.2.2.2.1]], O1 g [[Q0 a.2.2.2.2.2.2.2.1, Q0 a.2.2.2.2.2.2.2.2.1, Q3 a.2.2.2.2.2.2.2.2.2.1]], U3 B a.2.2.2.2.2.2.2.2.2.2.2.2.1, U5 ad X.1, U5 aq ak.1]) ⟨rE, pk N5⟩ (Ab fun fe ec => ?_)
 obtain ⟨ar, ed, h⟩ := Ac h
 refine tX (Am 7 [.o 0 0, .o 2 1] I J2 (uJ (iV _ _ _ _ _ _ _ _ ed) (Af 7 I (tY ?_))))
 subst ec
 refine Cx (s' := [(22, .V X.2), (25, .V ak.2), (26, .V Y.1), (27, .v (.bool Y.2.1)), (28, .V Y.2.2), (29, .V ar.1), (30, .v (.bool ar.2.1)), (31, .V ar.2.2), (38, .v ad), (39, .v aq)]) (ob' := [O0 f [[Q1 a.1, Q6 a.2.1, Q4 a.2.2.1, Q5 a.2.2.2.1, .V a.2.2.2.2.1, .V a.2.2.2.2.2.1]], O1 g [[Q0 a.2.2.2.2.2.2.2.1, Q0 a.2.2.2.2.2.2.2.2.1, Q3 a.2.2.2.2.2.2.2.2.2.1]], U3 B a.2.2.2.2.2.2.2.2.2.2.2.2.1, U5 ad X.1, U5 aq ak.1]) ⟨oM, pk N5⟩ (Aj (fun s ob => ∃ (bb : Bool), aT.J4 bb = some r ∧ s = [(6, .v (.bool bb))] ∧ ob = []) [] J ?_ ?_)
 rcases bt ((X.2 == ak.2)) with Z | Z
 have h := Cc Z h
 rcases bt ((Y.2.2 == ar.2.2)) with ae | ae
 have h := Cc ae h
 rcases bt ((Y.1 == ar.1)) with al | al
 have h := Cc al h
 rcases bt ((Y.2.1 == ar.2.1)) with au | au
 have h := Cc au h
 obtain ⟨ee, bm, h⟩ := Ac h
 rcases bt (ee) with a0 | a0
 have h := Cc a0 h
 obtain ⟨ef, eg, h⟩ := Ac h
 refine tX (Af 4 I (Ah 312 I Z (Af 5 I (Ah 317 I ae (Af 5 I (Ah 322 I al (Af 2 I (Bx I I I (uK (aL I I I I) I (Af 2 I (Ah 327 I au (Af 2 I ?_))))))))))))
 refine Bx I I I (tZ [] I (Dv I (.refl _) I I (.cons (.us 3 I) (.cons (.us 4 I) (.rest _))) I (Vm _ _ _ bm) dS (by rintro _ _ ⟨rfl, _⟩; rfl) ?_))
 rintro _ ⟨_, rfl, -⟩
 exact Af 2 I (Ah 332 I a0 (Bx I I I (uJ (Ux  _ eg) (Af 2 I (tY (lg ⟨ef, h, I2⟩ []))))))
 have h := Cd a0 h
 refine tX (Af 4 I (Ah 312 I Z (Af 5 I (Ah 317 I ae (Af 5 I (Ah 322 I al (Af 2 I (Bx I I I (uK (aL I I I I) I (Af 2 I (Ah 327 I au (Af 2 I ?_))))))))))))
 refine Bx I I I (tZ [] I (Dv I (.refl _) I I (.cons (.us 3 I) (.cons (.us 4 I) (.rest _))) I (Vm _ _ _ bm) dS (by rintro _ _ ⟨rfl, _⟩; rfl) ?_))
 rintro _ ⟨_, rfl, -⟩
 exact Af 2 I (Ah 332 I a0 (Af 3 I (tY (lg ⟨false, h, I2⟩ []))))
 have h := Cd au h
 refine tX (Af 4 I (Ah 312 I Z (Af 5 I (Ah 317 I ae (Af 5 I (Ah 322 I al (Af 2 I (Bx I I I (uK (aL I I I I) I (Af 2 I (Ah 327 I au (Af 8 I ?_))))))))))))
 exact tY (lg ⟨false, h, I2⟩ [])
 have h := Cd al h
 exact tX (Af 4 I (Ah 312 I Z (Af 5 I (Ah 317 I ae (Af 5 I (Ah 322 I al (Af 13 I (tY (lg ⟨false, h, I2⟩ [])))))))))
 have h := Cd ae h
 exact tX (Af 4 I (Ah 312 I Z (Af 5 I (Ah 317 I ae (Af 18 I (tY (lg ⟨false, h, I2⟩ [])))))))
 have h := Cd Z h
 exact tX (Af 4 I (Ah 312 I Z (Af 23 I (tY (lg ⟨false, h, I2⟩ [])))))
 rintro s ob ⟨bb, h, rfl, rfl⟩
 unfold aT.J4 at h
 cases io h
 exact uE pr
end Go.Proofs.YtaoclefkknloiaaGreat
