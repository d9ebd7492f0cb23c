/- Walks that show what functions of the program compute; printed by a program of ours. No condition. -/
import Derived.Test.YtodeekicjiengaaGreatDoorYvL4
set_option maxRecDepth 100000
namespace Go.Proofs.YtodeekicjiengaaGreatDoor
open Go.Aw
set_option linter.unusedVariables false
set_option linter.unusedSimpArgs false
set_option maxHeartbeats 4000000
theorem Uc (a : Int) (r : Int) (h : Hx a = r) : ACalls Aj 37 [.V a] [] (fun x new => x = .V r ∧ new = []) := by
 refine Ad Tryz.func37 I I I fun C hC => ?_
 unfold Hx at h
 refine Ah I (Ah I ?_)
 obtain rfl := h
 exact sO pr
theorem fP (b : Plan) (r : Plan) (h : P4 b = some r) : ACalls Aj 38 [.agg (Am b)] [] (fun x new => x = .agg (Am r) ∧ new = []) := by
 refine Ad Tryz.func38 I I I fun C hC => ?_
 refine Aa fun y1 O => sH (sJ [] I (Bo (Am b) 3 fun B => sJ [] I (sS W0 3 fun g => sI ?_)))
 subst O
 refine Aa fun y4 P => ?_
 obtain ⟨d, Q, h⟩ := Ac h
 refine sH (sJ [] I (sX (sz := 1) (es := ([] : List Bool).map rB) I I I I I I I I I I I dS fun v5 => An 2 [.o 1 0] I J1 (sJ [2] I (C7 2 I Q fun a => tE 2 I fun R => sT (Au (l := [.N, .N, .v a]) Lg (As I I (A7 R) I (Cv))) I (sJ [] I (sS W0 3 fun i => sJ [3] I (A3 3 0 0 [[.N, .N, .v a]] I (sI ?_))))))))
 subst P
 refine Ai (fun s ob => ∃ (e : Li) (c : Value), P4.J1 b d e = some r ∧ s = [] ∧ ob = [O1 B [Am b], O1 g [W0], U1 a d, O1 i [[.v c, .N, .v a]], U0 c e]) [(1, _), (2, _), (3, _)] J3 ?_ ?_
 refine Bh [.o 1 0, .l 2 (b.Rates.length : Int)] I ⟨Ay, I, J⟩ (sM (Bz 12 I fun S => sP (Bv 3 1) ?_))
 obtain ⟨aq, U, W⟩ := Ac h
 clear h
 refine Ct U [(1, _), (2, _), (3, _), (13, _)] J4 (fun (u : Nat) (w : Li) s ob => ∃ (j : Value), s = [(14, .V (u : Int))] ∧ ob = [O1 B [Am b], O1 g [W0], U1 a d, O1 i [[.v j, .N, .v a]], U0 j w]) ⟨(.slice none 0 0), I2⟩ ⟨I, J⟩ ⟨[0, 1, 2, 3, 4], I, by decide⟩ ?_ ?_
 rintro u D w ar s ob X E ⟨j, rfl, rfl⟩ h
 have Y := Cn E
 refine Ah I (Aa fun au Z => Bs I Y (sL ?_))
 subst Z
 refine sN (sM (Ah I ?_))
 obtain ⟨av, aa, h⟩ := Ac h
 refine By (sl 8 0 (.act 8 (.act 9 (.still 10 (.drop 11 .nil))))) [3, 0] [_, _] I (B8 8 [.o 1 0, .o 3 1, .x 5 u (rI D)] I ⟨⟨I, Ae X⟩, I, I, J⟩ (sK [] I I I (sR 1 (([wr (0 - D)] : Li).map rI) (sK [4] I I I (C7 4 I aa fun F => Bg 1 I (sU 4 I fun ab => tB [3] I I I (sZ 3 0 0 (es' := [[.v F, .N, .v a]]) I I I I I I (A7 ab) I (Ca I) I I (Ap (sI (sH (An 2 [.k 0 (u + 1 : Nat)] I ⟨A0 E S, J⟩ ?_)))))))))))
 obtain rfl := oi h
 exact sI (lg ⟨F, I2⟩ [0, 1, 2, 3, 4])
 rintro w s ob ⟨j, rfl, rfl⟩ he
 subst he
 have h := W
 have ac := Co b.Rates.length
 refine Ah I (Aa fun aw ax => Bu I ac (sQ ?_))
 exact lg ⟨w, j, h, I2⟩ [0, 1, 2, 3, 4]
 rintro s ob ⟨e, c, h, rfl, rfl⟩
 unfold P4.J1 at h
 refine Ai (fun s ob => ∃ (n : Li) (f : Value), P4.J2 d e n = some r ∧ s = [] ∧ ob = [O1 g [W0], U1 a d, O1 i [[.v c, .v f, .v a]], U0 c e, U0 f n]) [(2, _), (3, _)] J2 ?_ ?_
 refine Bh [.o 1 0, .l 2 (b.Ports.length : Int)] I ⟨Ay, I, J⟩ (sM (Bz 30 I fun ad => sP (Bv 3 1) ?_))
 obtain ⟨ay, ae, af⟩ := Ac h
 clear h
 refine Ct ae [(1, _), (2, _), (3, _), (31, _)] J4 (fun (y : Nat) (A : Li) s ob => ∃ (t : Value), s = [(32, .V (y : Int))] ∧ ob = [O1 B [Am b], O1 g [W0], U1 a d, O1 i [[.v c, .v t, .v a]], U0 c e, U0 t A]) ⟨(.slice none 0 0), I2⟩ ⟨I, J⟩ ⟨[0, 1, 2, 3, 4, 5], I, by decide⟩ ?_ ?_
 rintro y G A az s ob ag H ⟨t, rfl, rfl⟩ h
 have ah := Cn H
 refine Ah I (Aa fun a0 ai => Bs I ah (sL ?_))
 subst ai
 refine sN (sM (Ah I ?_))
 obtain ⟨a1, aj, h⟩ := Ac h
 refine By (sl 8 0 (.act 8 (.act 9 (.still 10 (.drop 11 .nil))))) [3, 0] [_, _] I (B8 8 [.o 1 0, .o 3 1, .x 5 y (rI G)] I ⟨⟨I, Ae ag⟩, I, I, J⟩ (sK [] I I I (sR 1 (([wr (0 - G)] : Li).map rI) (sK [5] I I I (C7 5 I aj fun M => Bg 1 I (sU 5 I fun ak => tB [3] I I I (sZ 3 0 1 (es' := [[.v c, .v M, .v a]]) I I I I I I (A7 ak) I (Ca I) I I (Ap (sI (sH (An 2 [.k 0 (y + 1 : Nat)] I ⟨A0 H ad, J⟩ ?_)))))))))))
 obtain rfl := oi h
 exact sI (lg ⟨M, I2⟩ [0, 1, 2, 3, 4, 5])
 rintro A s ob ⟨t, rfl, rfl⟩ he
 subst he
 have h := af
 have al := Co b.Ports.length
 refine Ah I (Aa fun a2 a3 => Bu I al (sQ ?_))
 exact lg ⟨A, t, h, I2⟩ [1, 2, 3, 4, 5]
 rintro s ob ⟨n, f, h, rfl, rfl⟩
 refine sN (sH (An 1 [.o 0 2] I J1 (sJ [0] I (A3 0 0 0 [[.v c, .v f, .v a]] I (sI (sP (Bk [1, 3, 4] (K := [U1 a d, U0 c e, U0 f n]) I [] J (ob' := [O1 g [[Q0 e, Q0 n, Q5 d]], O1 i [[.v c, .v f, .v a]]]) (.cons (.arr (.cons (.us 1 I) (.cons (.us 2 I) (.cons (.us 0 I) (.rest _))))) (.rest _))) (Cu [0] I ?_)))))))
 obtain rfl := oi h
 exact sO ⟨.inr I, [_], [], ⟨⟨0, _, _, _, _, _, _, _, I5⟩, J⟩, Cm, I2⟩
theorem gJ (i : Nat) (a3 : KS) (j : Nw) (r : Plan × KS) (h : Qc a3 j = some r) : ACalls Aj 15 [.v (.pointer (some ⟨i, 0, none⟩)), .agg (Ab j)] [O2 i [Cp a3]] (D6 1 fun x os new => x = .agg (Am r.1) ∧ os = [O2 i [Cp r.2]] ∧ new = []) := by
 refine Ad Tryz.func15 I I I fun C hC => ?_
 unfold Qc at h
 refine Aa fun y1 co => sH (sJ [] I (Bo (Ab j) 6 fun G => sJ [] I (sS W0 3 fun D => sI ?_)))
 subst co
 refine Ai (fun s ob => ∃ (S : Li × Li) (w : Nat) (a : Value) (c : Value), Qc.J1 a3 j S = some r ∧ s = [(5, .v (.pointer (some ⟨w, 0, none⟩)))] ∧ ob = [O2 i [Cp a3], O0 G [Ab j], O1 D [W0], U0 a S.1, U0 c S.2, O1 w [[.v a, .v c, .N]]]) [(0, _), (3, _), (4, _)] J3 ?_ ?_
 obtain ⟨bx, ⟨fg, cp, cq, cr⟩, h⟩ := Gm h
 obtain ⟨bz, ⟨fh, ct, cu, cv⟩, h⟩ := Gm h
 refine By (sl 3 0 (sl 3 4 (.par [(3, []), (7, []), (9, []), (8, [3, 7])] (.act 10 .nil)))) [1] [_] I (B8 6 [.o 1 0, .l 2 (j.Segments.length : Int), .o 4 0, .l 5 (j.Ports.length : Int)] I ⟨Ay, I, Ay, I, J⟩ (AP.any [⟨3, [], 25, .us 3 1 (bx.map rI)⟩, ⟨7, [], 29, .us 3 1 (bz.map rI)⟩, ⟨9, [], 5, .box 48 3 (W0)⟩, ⟨8, [3, 7], 30, .fn fun l => match l with | [.v ae, .v af] => .agg [.v ae, .v af, .N] | _ => .tup []⟩] I ⟨⟨_, I, I, I, fun _ => Bp (sz := 1) I I I I I I I I I I cp cq (Cr (f := rI) cr I) dS fun v => ⟨_, I, ⟨v, I⟩, I⟩⟩, ⟨_, I, I, I, fun _ => Bp (sz := 1) I I I I I I I I I I ct cu (Cr (f := rI) cv I) dS fun v => ⟨_, I, ⟨v, I⟩, I⟩⟩, ⟨_, I, I, I, fun _ => sS W0 3 fun b => ⟨_, I, ⟨b, I⟩, I⟩⟩, ⟨_, I, I, I, fun ae b1 af b4 _ => Ce (Yp.yd (Au (l := [.v ae, .v af, .N]) Lg (As I I (A7 b1) I (As I I (A7 b4) I (Cv))))) dS ⟨_, I, I, nb⟩⟩, J⟩ ?_))
 intro ae b1 af b4 cw
 refine AP.same 30 (.agg [.v ae, .v af, .N]) I (sK [5] I I I (A3 5 0 0 [[.v ae, .v af, .N]] I (Ap (sI ?_))))
 exact lg ⟨(bx, bz), cw, ae, af, h, I2⟩ [0, 1, 2, 3, 4, 5]
 rintro s ob ⟨S, w, a, c, h, rfl, rfl⟩
 unfold Qc.J1 at h
 refine Ai (fun s ob => ∃ (p : Li × Int × (List Bool)) (g : Value), Qc.J2 j S p = some r ∧ s = [] ∧ ob = [O2 i [[Q0 p.1, .V p.2.1]], O0 G [Ab j], O1 D [W0], U0 a S.1, U0 c S.2, O1 w [[.v a, .v c, .v g]], U1 g p.2.2]) [(0, _), (3, _), (4, _), (5, _)] J4 ?_ ?_
 refine Ah I (sM (sP (Bv 4 1) ?_))
 obtain ⟨fi, cx, cy⟩ := Ac h
 clear h
 refine Cs cx [(0, _), (3, _), (4, _), (5, _)] J4 (fun (Y : Li × Int × (List Bool) × Int) s ob => ∃ (a4 : Value), s = [(6, .V Y.2.2.2)] ∧ ob = [O2 i [[Q0 Y.1, .V Y.2.1]], O0 G [Ab j], O1 D [W0], U0 a S.1, U0 c S.2, O1 w [[.v a, .v c, .v a4]], U1 a4 Y.2.2.1]) ⟨(.slice none 0 0), I2⟩ ⟨I, J⟩ ⟨[0, 1, 2, 3, 4, 5, 6], I, by decide⟩ ?_
 rintro Y fj s ob ⟨a4, rfl, rfl⟩ h cz
 refine Aa fun fk c1 => Bh [.o 2 1, .l 3 (j.Stations.length : Int)] I ⟨Ay, I, J⟩ (Ar h I ?_ ?_)
 intro c2 h
 refine sL ?_
 subst c1
 refine sN (sM ?_)
 obtain ⟨c3, c4, h⟩ := Ac h
 obtain ⟨fl, c5, h⟩ := Ac h
 refine By (sl 3 0 (.act 3 (.still 4 (.act 5 (.act 6 (.still 7 (.drop 8 .nil))))))) [5] [_] I (B8 3 [.o 1 0] I J1 (sK [0] I I I (A1 [0] (Di i _ _ _ c4) ?_)))
 refine Bg 1 I (sK [] I I I (sR 1 (([(c3.1 == 0)] : List Bool).map rB) (sK [6] I I I (C7 6 I c5 fun b5 => Bg 1 I (sU 6 I fun c6 => tB [5] I I I (sZ 5 0 2 (es' := [[.v a, .v c, .v b5]]) I I I I I I (A7 c6) I (Ca I) I I (Ap (sI (sH (Ag 3 I ?_))))))))))
 obtain rfl := oi h
 exact sI ⟨_, _, _, I, ⟨b5, I2⟩, J5, [0, 1, 2, 3, 4, 5, 6], I, by decide⟩
 intro c2 h
 obtain rfl := cz _ (oi h).symm
 replace h := cy
 refine sQ ?_
 exact lg ⟨(Y.1, Y.2.1, Y.2.2.1), a4, h, I2⟩ [0, 1, 2, 3, 4, 5, 6]
 rintro s ob ⟨p, g, h, rfl, rfl⟩
 refine Aa fun fm c7 => ?_
 obtain ⟨c8, c9, h⟩ := Ac h
 refine sH (Ag 1 I (sJ [0] I (A1 [0] (Di i _ _ _ c9) ?_)))
 refine Ag 2 I (sI ?_)
 subst c7
 refine Ai (fun s ob => ∃ (u : Li × Int × Li × Li), Qc.J3 p c8 u = some r ∧ s = [] ∧ ob = [O2 i [[Q0 u.1, .V u.2.1]], O1 D [W0], U0 a u.2.2.1, U0 c u.2.2.2, O1 w [[.v a, .v c, .v g]], U1 g p.2.2]) [(4, _), (5, _), (7, _)] J3 ?_ ?_
 refine Aa fun fo da => ?_
 obtain ⟨fp, db, h⟩ := Ac h
 refine sH (Ag 1 I (sJ [0] I (A1 [0] (Di i _ _ _ db) ?_)))
 refine Ag 1 I (sI ?_)
 subst da
 refine sM ?_
 obtain ⟨fq, dc, dd⟩ := Ac h
 clear h
 refine Cs dc [(0, _), (3, _), (4, _), (5, _), (7, _)] J5 (fun (e : Li × Int × Li × Li × Int) s ob => s = [(8, .V e.2.2.2.2)] ∧ ob = [O2 i [[Q0 e.1, .V e.2.1]], O0 G [Ab j], O1 D [W0], U0 a e.2.2.1, U0 c e.2.2.2.1, O1 w [[.v a, .v c, .v g]], U1 g p.2.2]) ⟨I, I⟩ ⟨I, J⟩ ⟨[0, 1, 2, 3, 4, 5, 6], I, by decide⟩ ?_
 rintro e a5 s ob ⟨rfl, rfl⟩ h de
 refine Aa fun fr df => Ah I (Ar h I ?_ ?_)
 intro dg h
 refine sL ?_
 subst df
 refine Ai (fun s ob => ∃ (al : Li × Int × Li × Li), Qc.J5 e al = some a5 ∧ s = [] ∧ ob = [O2 i [[Q0 al.1, .V al.2.1]], O0 G [Ab j], O1 D [W0], U0 a al.2.2.1, U0 c al.2.2.2, O1 w [[.v a, .v c, .v g]], U1 g p.2.2]) [(0, _), (3, _), (4, _), (5, _), (7, _), (8, _)] J6 ?_ ?_
 refine sM (Aa fun fs dh => ?_)
 obtain ⟨bf, di, h⟩ := Ac h
 refine sH (An 4 [.o 2 1, .l 3 (j.Ports.length : Int)] I ⟨Ay, I, J⟩ (sJ [0] I (A1 [0] (Di i _ _ _ di) ?_)))
 refine Ag 1 I (sI ?_)
 subst dh
 refine Aa fun ft dj => ?_
 obtain ⟨bg, ⟨dk, dl⟩, h⟩ := A5 h
 obtain ⟨fu, dm, h⟩ := Ac h
 obtain ⟨A, dn, h⟩ := Ac h
 refine By (pd 13 0 [8, 9, 10]) [1] [_] I (B8 8 [.o 1 0, .x 3 bg.1 (Cb bg.2)] I ⟨⟨dk, Ae dl⟩, I, J⟩ (sK [] I I I (sR 1 (([1, 5, 30, 300] : Li).map rI) (sK [0] I I I (A1 [0] (Al i _ _ _ dm) ?_)))))
 refine sK [0] I I I (A1 [0] (Ea i _ _ _ _ dn) ?_)
 refine Bg 2 I (Ap (sI ?_))
 subst dj
 refine Aa fun fv dp => Ai (fun s ob => ∃ (bh : Bool), Qc.J6 j e bf bg A bh = some a5 ∧ s = [(86, .v (.bool bh))] ∧ ob = [O2 i [Cp A.2], O0 G [Ab j], O1 D [W0], U0 a e.2.2.1, U0 c e.2.2.2.1, O1 w [[.v a, .v c, .v g]], U1 g p.2.2]) [(0, _), (3, _), (4, _), (5, _), (7, _), (8, _), (9, _), (10, _), (11, _)] J9 ?_ ?_
 obtain ⟨Z, ⟨b6, a6⟩, h⟩ := A5 h
 refine sH (An 3 [.o 1 5] I J1 (sV (Bm 4 (m := Z.1) I I I I I I I b6 (Ae a6)) I (sV (Bl 4 Z.1 0 I I I (Ae a6) I (y := .V Z.2) I) I (Ag 2 I ?_))))
 rcases bt (decide (Z.2 < 0)) with ay | ay
 replace h := Bq ay h
 refine Af 77 I ay (Ag 9 I (sI ?_))
 exact lg ⟨true, h, I2⟩ [0, 1, 2, 3, 4, 5, 6]
 replace h := Br ay h
 refine Af 77 I ay (An 3 [.o 1 5] I J1 (Cd I I I (sV (Bm 4 (m := Z.1) I I I I I I I b6 (Ae a6)) I (Cd I I I (sV (Bl 4 Z.1 0 I I I (Ae a6) I (y := .V Z.2) I) I (Ag 4 I (sI ?_)))))))
 exact lg ⟨decide ((wr (Z.2 + A.1)) > 1000), h, I2⟩ [0, 1, 2, 3, 4, 5, 6]
 rintro s ob ⟨bh, h, rfl, rfl⟩
 refine Ar h I ?_ ?_
 intro dq h
 refine sQ ?_
 exact lg ⟨(A.2.L_, A.2.At, e.2.2.1, e.2.2.2.1), h, I2⟩ [0, 1, 2, 3, 4, 5, 6]
 intro dq h
 refine sL ?_
 subst dp
 refine Ah I (Ah I (Ai (fun s ob => ∃ (E : Li × Int × Li × Int) (am : Value), Qc.J7 j e bf A E = some a5 ∧ s = [(12, .v am), (13, .V E.2.2.2)] ∧ ob = [O2 i [[Q0 E.1, .V E.2.1]], O0 G [Ab j], O1 D [W0], U0 a e.2.2.1, U0 c e.2.2.2.1, O1 w [[.v a, .v c, .v g]], U1 g p.2.2, U0 am E.2.2.1]) [(0, _), (3, _), (4, _), (5, _), (7, _), (8, _), (9, _), (11, _)] J8 ?_ ?_))
 refine sM (sP (Bv 3 1) ?_)
 obtain ⟨fw, dr, bi⟩ := Ac h
 clear h
 refine Cs dr [(0, _), (3, _), (4, _), (5, _), (7, _), (8, _), (9, _), (11, _)] J8 (fun (n : Li × Int × Int × Li × Int) s ob => ∃ (M : Value), s = [(10, .V n.2.2.1), (12, .v M), (13, .V n.2.2.2.2)] ∧ ob = [O2 i [[Q0 n.1, .V n.2.1]], O0 G [Ab j], O1 D [W0], U0 a e.2.2.1, U0 c e.2.2.2.1, O1 w [[.v a, .v c, .v g]], U1 g p.2.2, U0 M n.2.2.2.1]) ⟨(.slice none 0 0), I2⟩ ⟨I, I, I, J⟩ ⟨[0, 1, 2, 3, 4, 5, 6, 7], I, by decide⟩ ?_
 rintro n b7 s ob ⟨M, rfl, rfl⟩ h bj
 refine Aa fun fx ds => Ah I (Ar h I ?_ ?_)
 intro du h
 refine sL ?_
 subst ds
 refine sM (Ai (fun s ob => ∃ (F : Li × Int × Int), Qc.J12 j e A n F = some b7 ∧ s = [(13, .V F.2.2)] ∧ ob = [O2 i [[Q0 F.1, .V F.2.1]], O0 G [Ab j], O1 D [W0], U0 a e.2.2.1, U0 c e.2.2.2.1, O1 w [[.v a, .v c, .v g]], U1 g p.2.2, U0 M n.2.2.2.1]) [(0, _), (3, _), (4, _), (5, _), (7, _), (8, _), (9, _), (10, _), (11, _), (12, _)] iR ?_ ?_)
 refine Bh [.o 1 1, .l 2 (j.Ports.length : Int)] I ⟨Ay, I, J⟩ (sM (Bz 90 I fun dv => ?_))
 obtain ⟨fy, dw, dx⟩ := Ac h
 clear h
 refine Ct dw [(0, _), (3, _), (4, _), (5, _), (7, _), (8, _), (9, _), (10, _), (11, _), (12, _), (90, _), (91, _)] qT (fun (ag : Nat) (P : Li × Int × Int) s ob => s = [(92, .V (ag : Int)), (13, .V P.2.2)] ∧ ob = [O2 i [[Q0 P.1, .V P.2.1]], O0 G [Ab j], O1 D [W0], U0 a e.2.2.1, U0 c e.2.2.2.1, O1 w [[.v a, .v c, .v g]], U1 g p.2.2, U0 M n.2.2.2.1]) ⟨I, I⟩ ⟨I, I, J⟩ ⟨[0, 1, 2, 3, 4, 5, 6, 7], I, by decide⟩ ?_ ?_
 rintro ag bk P b8 s ob dy b9 ⟨rfl, rfl⟩ h
 unfold Qc.B17 at h
 have dz := Cn b9
 refine Ah I (Aa fun fz d0 => Bs I dz (sL ?_))
 subst d0
 refine Ai (fun s ob => ∃ (az : Li × Int × Int), Qc.J18 az = some b8 ∧ s = [(13, .V az.2.2)] ∧ ob = [O2 i [[Q0 az.1, .V az.2.1]], O0 G [Ab j], O1 D [W0], U0 a e.2.2.1, U0 c e.2.2.2.1, O1 w [[.v a, .v c, .v g]], U1 g p.2.2, U0 M n.2.2.2.1]) [(0, _), (3, _), (4, _), (5, _), (7, _), (8, _), (9, _), (10, _), (11, _), (12, _), (90, _), (91, _), (92, _)] qQ ?_ ?_
 refine sM (Aa fun f0 d1 => sH (An 3 [.x 1 ag (Cb bk)] I ⟨⟨I, Ae dy⟩, J⟩ (sJ [] I (sS W6 3 fun f1 => Ag 1 I (sJ [8] I (A3 8 0 0 [Cb bk] I (sI ?_)))))))
 subst d1
 refine Ai (fun s ob => ∃ (U : Li × Int × Bool), Qc.J19 ag P U = some b8 ∧ s = [(133, .v (.bool U.2.2))] ∧ ob = [O2 i [[Q0 U.1, .V U.2.1]], O0 G [Ab j], O1 D [W0], U0 a e.2.2.1, U0 c e.2.2.2.1, O1 w [[.v a, .v c, .v g]], U1 g p.2.2, U0 M n.2.2.2.1]) [(0, _), (3, _), (4, _), (5, _), (7, _), (8, _), (9, _), (10, _), (11, _), (12, _), (13, _), (14, _), (90, _), (91, _), (92, _)] rU ?_ ?_
 rcases bt ((bk.Node == n.2.2.1)) with W | W
 replace h := Bq W h
 rcases bt (((ag : Int) != bf.1)) with aa | aa
 replace h := Bq aa h
 obtain ⟨B, ⟨ah, O⟩, h⟩ := A5 h
 rcases bt (decide (B.2 ≤ 0)) with ai | ai
 replace h := Bq ai h
 rcases bt (decide ((wr (B.2 - A.1)) ≥ (-1000))) with an | an
 replace h := Bq an h
 rcases bt (decide ((n.2.2.2.1.length : Int) > 0)) with a0 | a0
 replace h := Bq a0 h
 obtain ⟨bl, d2, h⟩ := Ac h
 refine sH (An 5 [.o 1 8] I J1 (Af 101 I W (Ag 5 I (Af 106 I aa (An 3 [.o 1 5] I J1 (Cd I I I (sV (Bm 4 (m := B.1) I I I I I I I ah (Ae O)) I (Cd I I I (sV (Bl 4 B.1 0 I I I (Ae O) I (y := .V B.2) I) I (Ag 3 I (Af 114 I ai (An 3 [.o 1 5] I J1 ?_))))))))))))
 refine Cd I I I (sV (Bm 4 (m := B.1) I I I I I I I ah (Ae O)) I (Cd I I I (sV (Bl 4 B.1 0 I I I (Ae O) I (y := .V B.2) I) I (Ag 5 I (Af 124 I an (Ag 1 I (Cd I I I (sV (Cz 7 I I I I) I (Ag 3 I (Af 129 I a0 (Ag 1 I (Cd I I I ?_))))))))))))
 refine sJ [0] I (A1 [0] (Di i _ _ _ d2) ?_)
 refine Ag 2 I (sI ?_)
 exact lg ⟨(bl.2.L_, bl.2.At, (bl.1 == 0)), h, I2⟩ [0, 1, 2, 3, 4, 5, 6, 7]
 replace h := Br a0 h
 refine sH (An 5 [.o 1 8] I J1 (Af 101 I W (Ag 5 I (Af 106 I aa (An 3 [.o 1 5] I J1 (Cd I I I (sV (Bm 4 (m := B.1) I I I I I I I ah (Ae O)) I (Cd I I I (sV (Bl 4 B.1 0 I I I (Ae O) I (y := .V B.2) I) I (Ag 3 I (Af 114 I ai (An 3 [.o 1 5] I J1 ?_))))))))))))
 refine Cd I I I (sV (Bm 4 (m := B.1) I I I I I I I ah (Ae O)) I (Cd I I I (sV (Bl 4 B.1 0 I I I (Ae O) I (y := .V B.2) I) I (Ag 5 I (Af 124 I an (Ag 1 I (Cd I I I (sV (Cz 7 I I I I) I (Ag 3 I (Af 129 I a0 (Ag 4 I (sI ?_))))))))))))
 rotate_left
 replace h := Br an h
 refine sH (An 5 [.o 1 8] I J1 (Af 101 I W (Ag 5 I (Af 106 I aa (An 3 [.o 1 5] I J1 (Cd I I I (sV (Bm 4 (m := B.1) I I I I I I I ah (Ae O)) I (Cd I I I (sV (Bl 4 B.1 0 I I I (Ae O) I (y := .V B.2) I) I (Ag 3 I (Af 114 I ai (An 3 [.o 1 5] I J1 ?_))))))))))))
 refine Cd I I I (sV (Bm 4 (m := B.1) I I I I I I I ah (Ae O)) I (Cd I I I (sV (Bl 4 B.1 0 I I I (Ae O) I (y := .V B.2) I) I (Ag 5 I (Af 124 I an (Ag 9 I (sI ?_)))))))
 rotate_left
 replace h := Br ai h
 refine sH (An 5 [.o 1 8] I J1 (Af 101 I W (Ag 5 I (Af 106 I aa (An 3 [.o 1 5] I J1 (Cd I I I (sV (Bm 4 (m := B.1) I I I I I I I ah (Ae O)) I (Cd I I I (sV (Bl 4 B.1 0 I I I (Ae O) I (y := .V B.2) I) I (Ag 3 I (Af 114 I ai (Ag 19 I ?_))))))))))))
 refine sI ?_
 rotate_left
 replace h := Br aa h
 refine sH (An 5 [.o 1 8] I J1 (Af 101 I W (Ag 5 I (Af 106 I aa (Ag 27 I (sI ?_))))))
 rotate_left
 replace h := Br W h
 refine sH (An 5 [.o 1 8] I J1 (Af 101 I W (Ag 32 I (sI ?_))))
 any_goals
  exact lg ⟨(P.1, P.2.1, false), h, I2⟩ [0, 1, 2, 3, 4, 5, 6, 7]
 rintro s ob ⟨U, h, rfl, rfl⟩
 refine Ar h I ?_ ?_
 intro d3 h
 refine Sj I ?_
 exact lg ⟨(U.1, U.2.1, (ag : Int)), h, I2⟩ [0, 1, 2, 3, 4, 5, 6, 7]
 intro d3 h
 refine sL ?_
 exact lg ⟨(U.1, U.2.1, P.2.2), h, I2⟩ [0, 1, 2, 3, 4, 5, 6, 7]
 rintro s ob ⟨az, h, rfl, rfl⟩
 refine sH (An 2 [.k 0 (ag + 1 : Nat)] I ⟨A0 b9 dv, J⟩ ?_)
 obtain rfl := oi h
 exact sI (lg I2 [0, 1, 2, 3, 4, 5, 6, 7])
 rintro P s ob ⟨rfl, rfl⟩ he
 subst he
 have h := dx
 have d4 := Co j.Ports.length
 refine Ah I (Aa fun f2 f3 => Bu I d4 (sQ ?_))
 exact lg ⟨(P.1, P.2.1, P.2.2), h, I2⟩ [0, 1, 2, 3, 4, 5, 6, 7]
 rintro s ob ⟨F, h, rfl, rfl⟩
 refine Aa fun f4 d5 => Ah I (Ar h I ?_ ?_)
 intro d6 h
 obtain rfl := bj _ (oi h).symm
 replace h := bi
 refine sQ ?_
 exact lg ⟨(F.1, F.2.1, n.2.2.2.1, F.2.2), M, h, I2⟩ [0, 1, 2, 3, 4, 5, 6, 7]
 intro d6 h
 refine sL ?_
 subst d5
 refine Ah I (Ai (fun s ob => ∃ (bm : Li) (bn : Value), Qc.J13 j n F bm = some b7 ∧ s = [(16, .v bn)] ∧ ob = [O2 i [[Q0 F.1, .V F.2.1]], O0 G [Ab j], O1 D [W0], U0 a e.2.2.1, U0 c e.2.2.2.1, O1 w [[.v a, .v c, .v g]], U1 g p.2.2, U0 M n.2.2.2.1, U0 bn bm]) [(0, _), (3, _), (4, _), (5, _), (7, _), (8, _), (9, _), (10, _), (11, _), (12, _), (13, _)] qR ?_ ?_)
 refine Bh [.o 1 1, .l 2 (j.Segments.length : Int)] I ⟨Ay, I, J⟩ (sM (Bz 139 I fun d7 => sP (Bv 3 1) ?_))
 obtain ⟨f5, d8, d9⟩ := Ac h
 clear h
 refine Ct d8 [(0, _), (3, _), (4, _), (5, _), (7, _), (8, _), (9, _), (10, _), (11, _), (12, _), (13, _), (139, _), (140, _)] qQ (fun (ao : Nat) (aj : Li) s ob => ∃ (ak : Value), s = [(141, .V (ao : Int)), (16, .v ak)] ∧ ob = [O2 i [[Q0 F.1, .V F.2.1]], O0 G [Ab j], O1 D [W0], U0 a e.2.2.1, U0 c e.2.2.2.1, O1 w [[.v a, .v c, .v g]], U1 g p.2.2, U0 M n.2.2.2.1, U0 ak aj]) ⟨(.slice none 0 0), I2⟩ ⟨I, I, J⟩ ⟨[0, 1, 2, 3, 4, 5, 6, 7, 8], I, by decide⟩ ?_ ?_
 rintro ao Q aj ca s ob ea cb ⟨ak, rfl, rfl⟩ h
 unfold Qc.B14 at h
 have eb := Cn cb
 refine Ah I (Aa fun f6 ec => Bs I eb (sL ?_))
 subst ec
 refine Ai (fun s ob => ∃ (bo : Li) (a7 : Value), Qc.J15 bo = some ca ∧ s = [(16, .v a7)] ∧ ob = [O2 i [[Q0 F.1, .V F.2.1]], O0 G [Ab j], O1 D [W0], U0 a e.2.2.1, U0 c e.2.2.2.1, O1 w [[.v a, .v c, .v g]], U1 g p.2.2, U0 M n.2.2.2.1, U0 a7 bo]) [(0, _), (3, _), (4, _), (5, _), (7, _), (8, _), (9, _), (10, _), (11, _), (12, _), (13, _), (139, _), (140, _), (141, _)] pO ?_ ?_
 refine sM (Aa fun f7 ed => sH (An 3 [.x 1 ao (Ak Q)] I ⟨⟨I, Ae ea⟩, J⟩ (sJ [] I (sS W2 7 fun f8 => Ag 1 I (sJ [9] I (A3 9 0 0 [Ak Q] I (sI ?_)))))))
 subst ed
 refine Ai (fun s ob => ∃ (bp : Bool), Qc.J16 ao aj bp = some ca ∧ s = [(180, .v (.bool bp))] ∧ ob = [O2 i [[Q0 F.1, .V F.2.1]], O0 G [Ab j], O1 D [W0], U0 a e.2.2.1, U0 c e.2.2.2.1, O1 w [[.v a, .v c, .v g]], U1 g p.2.2, U0 M n.2.2.2.1, U0 ak aj]) [(0, _), (3, _), (4, _), (5, _), (7, _), (8, _), (9, _), (10, _), (11, _), (12, _), (13, _), (16, _), (17, _), (139, _), (140, _), (141, _)] ⟨I, I, I, I, I, I, I, I, I, I, I, I, I, I, I, I, J⟩ ?_ ?_
 rcases bt ((Q.From == n.2.2.1)) with ab | ab
 replace h := Bq ab h
 rcases bt (decide ((wr ((wr (Q.From + Q.To)) - n.2.2.1)) > n.2.2.1)) with a1 | a1
 replace h := Bq a1 h
 obtain ⟨aq, ⟨ee, bq⟩, h⟩ := A5 h
 refine C5 3 aq.1 I bq fun ef => By (sl 27 0 (.still 28 (sl 3 30 (.act 27 (.still 29 (.still 33 (.still 34 .nil))))))) [9, 5, 3] [_, _, _] I (B8 5 [.o 1 0] I J1 (A4 150 I ab (B8 17 [.o 7 0, .o 9 0] I J2 (A4 167 I a1 (B8 3 [.o 1 1] I J1 (Fw I I I I ((B0 (m := aq.1) I I I I I ef I ee bq).yd) dS (Fw I I I I (Bl 2 aq.1 0 I I I (Ae bq) I (y := .V aq.2) I) dS (B8 4 [.o 2 0] I J1 (Ia I (Uc aq.2 _ I) (Bg 3 I (Ap ?_)))))))))))
 exact sI (lg ⟨decide ((wr ((Hx aq.2) + A.1)) ≤ (min 1000 Q.Capacity)), h, I2⟩ [0, 1, 2, 3, 4, 5, 6, 7, 8])
 replace h := Br a1 h
 refine By (sl 27 0 (.still 28 (sl 3 30 (.act 27 (.still 29 (.still 33 (.still 34 .nil))))))) [9] [_] I (B8 5 [.o 1 0] I J1 (A4 150 I ab (B8 17 [.o 7 0, .o 9 0] I J2 (A4 167 I a1 (Bg 13 I (Ap (sI ?_)))))))
 exact lg ⟨false, h, I2⟩ [0, 1, 2, 3, 4, 5, 6, 7, 8]
 replace h := Br ab h
 rcases bt ((Q.To == n.2.2.1)) with ar | ar
 replace h := Bq ar h
 rcases bt (decide ((wr ((wr (Q.From + Q.To)) - n.2.2.1)) > n.2.2.1)) with a2 | a2
 replace h := Bq a2 h
 obtain ⟨au, ⟨eg, br⟩, h⟩ := A5 h
 refine C5 3 au.1 I br fun eh => By (sl 27 0 (.still 28 (sl 3 30 (.act 27 (.still 29 (.still 33 (.still 34 .nil))))))) [9, 5, 3] [_, _, _] I (B8 5 [.o 1 0] I J1 (A4 150 I ab (B8 6 [.o 1 0] I J1 (A4 156 I ar (B8 11 [.o 1 0, .o 3 0] I J2 (A4 167 I a2 (B8 3 [.o 1 1] I J1 (Fw I I I I ((B0 (m := au.1) I I I I I eh I eg br).yd) dS (Fw I I I I (Bl 2 au.1 0 I I I (Ae br) I (y := .V au.2) I) dS (B8 4 [.o 2 0] I J1 (Ia I (Uc au.2 _ I) ?_)))))))))))
 refine Bg 3 I (Ap (sI ?_))
 exact lg ⟨decide ((wr ((Hx au.2) + A.1)) ≤ (min 1000 Q.Capacity)), h, I2⟩ [0, 1, 2, 3, 4, 5, 6, 7, 8]
 replace h := Br a2 h
 refine By (sl 27 0 (.still 28 (sl 3 30 (.act 27 (.still 29 (.still 33 (.still 34 .nil))))))) [9] [_] I (B8 5 [.o 1 0] I J1 (A4 150 I ab (B8 6 [.o 1 0] I J1 (A4 156 I ar (B8 11 [.o 1 0, .o 3 0] I J2 (A4 167 I a2 (Bg 13 I (Ap (sI ?_)))))))))
 exact lg ⟨false, h, I2⟩ [0, 1, 2, 3, 4, 5, 6, 7, 8]
 replace h := Br ar h
 refine By (sl 27 0 (.still 28 (sl 3 30 (.act 27 (.still 29 (.still 33 (.still 34 .nil))))))) [9] [_] I (B8 5 [.o 1 0] I J1 (A4 150 I ab (B8 6 [.o 1 0] I J1 (A4 156 I ar (Bg 24 I (Ap (sI ?_)))))))
 exact lg ⟨false, h, I2⟩ [0, 1, 2, 3, 4, 5, 6, 7, 8]
 rintro s ob ⟨bp, h, rfl, rfl⟩
 refine Ar h I ?_ ?_
 intro ei h
 obtain ⟨ej, ek, h⟩ := Ac h
 refine sH (Ag 2 I (sJ [] I (sR 1 (([(ao : Int)] : Li).map rI) (sJ [8] I (C7 8 I ek fun el => Ag 1 I (sI ?_))))))
 exact lg ⟨ej, el, h, I2⟩ [0, 1, 2, 3, 4, 5, 6, 7, 8]
 intro ei h
 refine sL ?_
 exact lg ⟨aj, ak, h, I2⟩ [0, 1, 2, 3, 4, 5, 6, 7, 8]
 rintro s ob ⟨bo, a7, h, rfl, rfl⟩
 refine sH (An 2 [.k 0 (ao + 1 : Nat)] I ⟨A0 cb d7, J⟩ ?_)
 obtain rfl := oi h
 exact sI (lg ⟨a7, I2⟩ [0, 1, 2, 3, 4, 5, 6, 7, 8])
 rintro aj s ob ⟨ak, rfl, rfl⟩ he
 subst he
 have h := d9
 have em := Co j.Segments.length
 refine Ah I (Aa fun f9 ga => Bu I em (sQ ?_))
 exact lg ⟨aj, ak, h, I2⟩ [0, 1, 2, 3, 4, 5, 6, 7, 8]
 rintro s ob ⟨bm, bn, h, rfl, rfl⟩
 refine Aa fun gb en => sN (sH (Ag 1 I (sV (Cz 8 I I I I) I (Ag 1 I (sI (Ar h I ?_ ?_))))))
 intro eo h
 obtain rfl := bj _ (oi h).symm
 replace h := bi
 refine sQ ?_
 exact lg ⟨(F.1, F.2.1, n.2.2.2.1, F.2.2), M, h, I2⟩ [0, 1, 2, 3, 4, 5, 6, 7]
 intro eo h
 refine sL ?_
 subst en
 refine Aa fun gc ep => ?_
 obtain ⟨gd, eq, h⟩ := Ac h
 obtain ⟨a8, ⟨er, cc⟩, h⟩ := A5 h
 refine sH (Ag 3 I (sV (Cz 8 I I I I) I (sJ [0] I (A1 [0] (Di i _ _ _ eq) ?_))))
 refine sV (Bm 8 (m := a8.1) I I I I I I I er (Ae cc)) I (sV (Bl 8 a8.1 0 I I I (Ae cc) I (y := .V a8.2) I) I (Ag 1 I (sI ?_)))
 subst ep
 refine Aa fun ge es => ?_
 obtain ⟨gf, et, h⟩ := Ac h
 refine sH (Ag 2 I (sJ [] I (sR 1 (([a8.2] : Li).map rI) (sJ [7] I (C7 7 I et fun eu => Ag 1 I (sI ?_))))))
 subst es
 obtain ⟨a9, ⟨cd, ce⟩, h⟩ := A5 h
 refine By (pd 16 0 []) [1] [_] I (B8 16 [.o 1 0, .x 3 a9.1 (Ak a9.2), .o 7 0, .x 9 a9.1 (Ak a9.2)] I ⟨⟨cd, Ae ce⟩, I, ⟨cd, Ae ce⟩, I, J⟩ (Ap ?_))
 obtain rfl := oi h
 exact sI ⟨_, _, _, I, ⟨eu, I2⟩, qR, [0, 1, 2, 3, 4, 5, 6, 7], I, by decide⟩
 intro du h
 obtain rfl := bj _ (oi h).symm
 replace h := bi
 refine sQ ?_
 exact lg ⟨(n.1, n.2.1, n.2.2.2.1, n.2.2.2.2), M, h, I2⟩ [0, 1, 2, 3, 4, 5, 6, 7]
 rintro s ob ⟨E, am, h, rfl, rfl⟩
 refine Aa fun gg ev => Ah I (Ar h I ?_ ?_)
 intro ew h
 refine sQ ?_
 exact lg ⟨(E.1, E.2.1, e.2.2.1, e.2.2.2.1), h, I2⟩ [0, 1, 2, 3, 4, 5, 6]
 intro ew h
 refine sL ?_
 subst ev
 refine Ai (fun s ob => ∃ (av : Li), Qc.J8 j e A E av = some a5 ∧ s = [] ∧ ob = [O2 i [[Q0 E.1, .V E.2.1]], O0 G [Ab j], O1 D [W0], U0 a e.2.2.1, U0 c av, O1 w [[.v a, .v c, .v g]], U1 g p.2.2, U0 am E.2.2.1]) [(0, _), (3, _), (4, _), (5, _), (7, _), (8, _), (11, _), (12, _)] J8 ?_ ?_
 obtain ⟨H, ⟨bs, X⟩, h⟩ := A5 h
 obtain ⟨R, ⟨ex, ba⟩, h⟩ := A5 h
 obtain ⟨aw, ⟨cf, bb⟩, h⟩ := A5 h
 refine C5 4 H.1 I X fun ey => C5 4 R.1 I ba fun ez => C5 4 H.1 I X fun cg => By (sl 10 0 (.still 11 (sl 4 13 (.still 18 (.two 10 17 (.still 12 (.act 17 (.still 19 (.still 20 (.act 21 (.act 22 (.act 23 .nil))))))) (.still 19 (.act 10 (.still 12 (.still 20 (.act 21 (.act 22 (.act 23 .nil)))))))))))) [5] [_] I (B8 9 [.o 1 0, .o 4 0, .o 7 0] I J3 (sY I (B0 (m := H.1) I I I I I ey I bs X) I (B8 4 [.o 2 0] I J1 (sY I (B0 (m := R.1) I I I I I ez I ex ba) I (Bg 1 I (sW ?_ ?_))))))
 refine sK [] I I I (Ce (Bl 4 H.1 0 I I I (Ae X) I (y := .V H.2) I) dS (Bg 1 I (sK [] I I I (Ce (Bl 4 R.1 0 I I I (Ae ba) I (y := .V R.2) I) dS (Bg 1 I (sY I (B0 (m := H.1) I I I I I cg I bs X) I (sK [4] I I I (Cg 4 H.1 0 I I I (Ae X) I I I I (Ca I) I (Df (x := wr (H.2 + A.1)) I) (sK [] I I I (Ce (Bm 4 (m := aw.1) I I I I I I I cf (Ae bb)) dS (sK [4] I I I (Cg 4 aw.1 0 I I I (Ae bb) I I I I (Ca I) I (Df (x := wr (R.2 - A.1)) I) (Ap (sI ?_))))))))))))))
 exact lg ⟨((e.2.2.2.1.set H.1 (wr (H.2 + A.1))).set aw.1 (wr (R.2 - A.1))), h, I2⟩ [0, 1, 2, 3, 4, 5, 6, 7]
 refine sK [] I I I (Ce (Bl 4 R.1 0 I I I (Ae ba) I (y := .V R.2) I) dS (Bg 1 I (sK [] I I I (Ce (Bl 4 H.1 0 I I I (Ae X) I (y := .V H.2) I) dS (Bg 1 I (sY I (B0 (m := H.1) I I I I I cg I bs X) I (sK [4] I I I (Cg 4 H.1 0 I I I (Ae X) I I I I (Ca I) I (Df (x := wr (H.2 + A.1)) I) (sK [] I I I (Ce (Bm 4 (m := aw.1) I I I I I I I cf (Ae bb)) dS (sK [4] I I I (Cg 4 aw.1 0 I I I (Ae bb) I I I I (Ca I) I (Df (x := wr (R.2 - A.1)) I) (Ap (sI ?_))))))))))))))
 exact lg ⟨((e.2.2.2.1.set H.1 (wr (H.2 + A.1))).set aw.1 (wr (R.2 - A.1))), h, I2⟩ [0, 1, 2, 3, 4, 5, 6, 7]
 rintro s ob ⟨av, h, rfl, rfl⟩
 refine Aa fun gh e0 => sH (Ag 1 I (sV (Cz 7 I I I I) I (Ag 1 I (sI ?_))))
 subst e0
 refine sM (Oi 7 I fun e1 => ?_)
 obtain ⟨gi, e2, e3⟩ := Ac h
 clear h
 refine Gw e2 [(0, _), (3, _), (4, _), (5, _), (7, _), (8, _), (11, _), (239, _), (240, _)] J9 (fun (bu : Nat) (ax : Li) s ob => s = [(241, .V (bu : Int))] ∧ ob = [O2 i [[Q0 E.1, .V E.2.1]], O0 G [Ab j], O1 D [W0], U0 a ax, U0 c av, O1 w [[.v a, .v c, .v g]], U1 g p.2.2, U0 am E.2.2.1]) ⟨I, I⟩ ⟨I, J⟩ ⟨[0, 1, 2, 3, 4, 5, 6, 7], I, by decide⟩ ?_ ?_
 rintro bu ax e4 s ob ci ⟨rfl, rfl⟩ h
 unfold Qc.B9 at h
 have e5 := Cn ci
 refine Ah I (Aa fun gj e6 => Bs I e5 (sL ?_))
 subst e6
 refine Ai (fun s ob => ∃ (bv : Li), Qc.J10 bv = some e4 ∧ s = [] ∧ ob = [O2 i [[Q0 E.1, .V E.2.1]], O0 G [Ab j], O1 D [W0], U0 a bv, U0 c av, O1 w [[.v a, .v c, .v g]], U1 g p.2.2, U0 am E.2.2.1]) [(0, _), (3, _), (4, _), (5, _), (7, _), (8, _), (11, _), (239, _), (240, _), (241, _)] iR ?_ ?_
 refine sM (Aa fun gk e7 => ?_)
 obtain ⟨bw, ⟨e8, cj⟩, h⟩ := A5 h
 refine sH (sV (Bm 7 (m := bw.1) I I I I I I I e8 (Ae cj)) I (sV (Bl 7 bw.1 0 I I I (Ae cj) I (y := .V bw.2) I) I (Ag 1 I (sI ?_))))
 subst e7
 refine Aa fun gl e9 => ?_
 obtain ⟨bc, ⟨ck, cl⟩, h⟩ := A5 h
 refine Il (pd 13 0 []) [1] [_] [.o 1 0, .x 3 bc.1 (Ak bc.2), .o 7 0, .x 9 bc.1 (Ak bc.2)] I I ⟨⟨ck, Ae cl⟩, I, ⟨ck, Ae cl⟩, I, J⟩ ?_
 subst e9
 refine Ar h I ?_ ?_
 intro fa h
 obtain ⟨ac, ⟨cm, bd⟩, h⟩ := A5 h
 refine sH (An 3 [.o 1 5] I J1 (sV (Bm 3 (m := ac.1) I I I I I I I cm (Ae bd)) I (sV (Bl 3 ac.1 0 I I I (Ae bd) I (y := .V ac.2) I) I (Ag 2 I (sV (Bm 3 (m := ac.1) I I I I I I I cm (Ae bd)) I (sJ [3] I (Cg 3 ac.1 0 I I I (Ae bd) I I I I (Ca I) I (Df (x := wr (ac.2 + A.1)) I) (sI ?_))))))))
 exact lg ⟨(ax.set ac.1 (wr (ac.2 + A.1))), h, I2⟩ [0, 1, 2, 3, 4, 5, 6, 7]
 intro fa h
 obtain ⟨ad, ⟨cn, be⟩, h⟩ := A5 h
 refine sH (An 3 [.o 1 5] I J1 (sV (Bm 3 (m := ad.1) I I I I I I I cn (Ae be)) I (sV (Bl 3 ad.1 0 I I I (Ae be) I (y := .V ad.2) I) I (Ag 2 I (sV (Bm 3 (m := ad.1) I I I I I I I cn (Ae be)) I (sJ [3] I (Cg 3 ad.1 0 I I I (Ae be) I I I I (Ca I) I (Df (x := wr (ad.2 - A.1)) I) (sI ?_))))))))
 exact lg ⟨(ax.set ad.1 (wr (ad.2 - A.1))), h, I2⟩ [0, 1, 2, 3, 4, 5, 6, 7]
 rintro s ob ⟨bv, h, rfl, rfl⟩
 refine sH (An 2 [.k 0 (bu + 1 : Nat)] I ⟨A0 ci e1, J⟩ ?_)
 obtain rfl := oi h
 exact sI (lg I2 [0, 1, 2, 3, 4, 5, 6, 7])
 rintro ax s ob ⟨rfl, rfl⟩ he
 subst he
 have h := e3
 have fb := Co E.2.2.1.length
 refine Ah I (Aa fun gm gn => Bu I fb (sQ ?_))
 exact lg ⟨(E.1, E.2.1, ax, av), h, I2⟩ [0, 1, 2, 3, 4, 5, 6]
 rintro s ob ⟨al, h, rfl, rfl⟩
 refine sH (Ag 3 I ?_)
 obtain rfl := oi h
 exact sI ⟨_, _, _, I, I2, J6, [0, 1, 2, 3, 4, 5, 6], I, by decide⟩
 intro dg h
 obtain rfl := de _ (oi h).symm
 replace h := dd
 refine sQ ?_
 exact lg ⟨(e.1, e.2.1, e.2.2.1, e.2.2.2.1), h, I2⟩ [0, 2, 3, 4, 5, 6]
 rintro s ob ⟨u, h, rfl, rfl⟩
 refine sN (Ah I (Ar h I ?_ ?_))
 intro fc h
 refine sN ?_
 obtain ⟨fd, fe, h⟩ := Ac h
 refine sH (An 1 [.o 0 4] I J1 (AO.ghost (Bk [2, 3, 5] (K := [U0 a u.2.2.1, U0 c u.2.2.2, U1 g p.2.2]) I [(276, .agg [Q0 u.2.2.1, Q0 u.2.2.2, Q5 p.2.2])] ⟨⟨_, I, .agg (.cons (.us 0 I) (.cons (.us 1 I) (.cons (.us 2 I) (.rest _))))⟩, J⟩ (ob' := [O2 i [[Q0 u.1, .V u.2.1]], O1 D [W0], O1 w [[Q0 u.2.2.1, Q0 u.2.2.2, Q5 p.2.2]]]) (.cons (.same _) (.cons (.same _) (.cons (.arr (.cons (.us 0 I) (.cons (.us 1 I) (.cons (.us 2 I) (.rest _))))) (.rest _))))) (sJ [] I (Ci I I I (fP _ _ fe) dS ?_))))
 rintro _ _ ⟨rfl, rfl⟩
 refine sJ [1] I (A3 1 0 0 [Am fd] I (sI (Cu [0, 1] I ?_)))
 obtain rfl := oi h
 exact sO ⟨.inr I, [_], [O2 i [[Q0 u.1, .V u.2.1]]], ⟨⟨1, _, _, _, _, _, _, _, I5⟩, J⟩, Cy I (Cm), ⟨[O2 i [[Q0 u.1, .V u.2.1]]], [], I5⟩⟩
 intro fc h
 refine sL (sN (sH (An 1 [.o 0 4] I J1 (sJ [1] I (A3 1 0 0 [[.v a, .v c, .v g]] I (sI (sP (Bk [2, 3, 5] (K := [U0 a u.2.2.1, U0 c u.2.2.2, U1 g p.2.2]) I [] J (ob' := [O2 i [[Q0 u.1, .V u.2.1]], O1 D [[Q0 u.2.2.1, Q0 u.2.2.2, Q5 p.2.2]], O1 w [[.v a, .v c, .v g]]]) (.cons (.same _) (.cons (.arr (.cons (.us 0 I) (.cons (.us 1 I) (.cons (.us 2 I) (.rest _))))) (.rest _)))) (Cu [0, 1] I ?_))))))))
 obtain rfl := oi h
 exact sO ⟨.inr I, [_], [O2 i [[Q0 u.1, .V u.2.1]]], ⟨⟨1, _, _, _, _, _, _, _, I5⟩, J⟩, Cy I (Cm), ⟨[O2 i [[Q0 u.1, .V u.2.1]]], [], I5⟩⟩
end Go.Proofs.YtodeekicjiengaaGreatDoor
