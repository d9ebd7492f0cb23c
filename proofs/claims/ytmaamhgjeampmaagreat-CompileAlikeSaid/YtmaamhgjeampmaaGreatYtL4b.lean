/- Walks that show what functions of the program compute; printed by a program of ours. No condition. -/
import Derived.Test.YtmaamhgjeampmaaGreatYtL4
set_option maxRecDepth 100000
namespace Go.Proofs.YtmaamhgjeampmaaGreat
open Go.Aw
set_option linter.unusedVariables false
set_option linter.unusedSimpArgs false
set_option maxHeartbeats 4000000
theorem Th (a : Int) (r : Int) (h : Is a = r) : ACalls Am 77 [.V a] [] (fun x new => x = .V r ∧ new = []) := by
 refine Ag Tryz.func77 rfl rfl rfl fun C hC => ?_
 unfold Is at h
 refine Aq I (Aq I ?_)
 obtain rfl := h
 exact nK pr
theorem bK (b : Plan) (r : Plan) (h : M8 b = some r) : ACalls Am 78 [.agg (As b)] [] (fun x new => x = .agg (As r) ∧ new = []) := by
 refine Ag Tryz.func78 rfl rfl rfl fun C hC => ?_
 unfold M8 at h
 refine Aa fun y1 O => nD (nG [] I (nQ (cs := As b) (m := 3) I I I dS fun B => nG [] I (nN (cs := [.N, .N, .N]) (m := 3) I I I I I dS fun g => nE ?_)))
 subst O
 refine Aa fun y4 P => ?_
 obtain ⟨d, Q, h⟩ := Ac h
 refine nD (nG [] I (nP (sz := 1) (es := ([] : List Bool).map rB) I I I I I I I I I I I dS fun v5 => Ap 2 [.o 1 0] I J1 (nG [2] I (Bf 2 I Q fun a => nZ 2 I fun R => Ck (Ao (l := [.N, .N, .v a]) Az (Ae I I (Ai R) I (A8))) I (nG [] I (nN (cs := [.N, .N, .N]) (m := 3) I I I I I dS fun i => nG [3] I (Ax 3 0 0 [[.N, .N, .v a]] I (nE ?_))))))))
 subst P
 refine Al (fun s ob => ∃ (e : List Int) (c : Value), M8.J1 b d e = some r ∧ s = [] ∧ ob = [.arr B 37 3 1 [As b], .arr g 37 3 1 [[.N, .N, .N]], .us a 4 1 (d.map rB), .arr i 37 3 1 [[.v c, .N, .v a]], .us c 3 1 (e.map rI)]) [(1, _), (2, _), (3, _)] J3 ?_ ?_
 refine Bu [.o 1 0, .l 2 (b.Rates.length : Int)] I ⟨Bh, I, J⟩ (nJ (Cz 12 I fun S => nM (Bo 3 1) ?_))
 obtain ⟨aq, U, W⟩ := Ac h
 clear h
 refine Dl U [(1, _), (2, _), (3, _), (13, _)] J4 (fun (u : Nat) (w : List Int) s ob => ∃ (j : Value), s = [(14, .V (u : Int))] ∧ ob = [.arr B 37 3 1 [As b], .arr g 37 3 1 [[.N, .N, .N]], .us a 4 1 (d.map rB), .arr i 37 3 1 [[.v j, .N, .v a]], .us j 3 1 (w.map rI)]) ⟨(.slice none 0 0), I2⟩ ⟨I, J⟩ ⟨[0, 1, 2, 3, 4], I, by decide⟩ ?_ ?_
 rintro u D w ar s ob X E ⟨j, rfl, rfl⟩ h
 unfold M8.B4 at h
 have Y := Di E
 refine Aq I (Aa fun au Z => Av (v := true) I Y (nI ?_))
 subst Z
 refine nH (nJ (Aq I ?_))
 obtain ⟨av, aa, h⟩ := Ac h
 refine Bw (sl 8 0 (.act 8 (.act 9 (.still 10 (.drop 11 .nil))))) [3, 0] [_, _] I (By 8 [.o 1 0, .o 3 1, .x 5 u (rI D)] I ⟨⟨I, Ah X⟩, I, I, J⟩ (nF [] I I I (nR 1 (([wr (0 - D)] : List Int).map rI) (nF [4] I I I (Bf 4 I aa fun F => Bm 1 I (nL 4 I fun ab => nW [3] I I I (nU 3 0 0 (es' := [[.v F, .N, .v a]]) I I I I I I (Ai ab) I (Bs I) I I (Ak (nE (nD (Ap 2 [.k 0 (u + 1 : Nat)] I ⟨Bt E S, J⟩ ?_)))))))))))
 obtain rfl := oi h
 refine nE ?_
 exact lg ⟨F, I2⟩ [0, 1, 2, 3, 4]
 rintro w s ob ⟨j, rfl, rfl⟩ he
 subst he
 have h := W
 have ac := Dj b.Rates.length
 refine Aq I (Aa fun aw ax => Av (v := false) I ac (nO ?_))
 exact lg ⟨w, j, h, I2⟩ [0, 1, 2, 3, 4]
 rintro s ob ⟨e, c, h, rfl, rfl⟩
 unfold M8.J1 at h
 refine Al (fun s ob => ∃ (n : List Int) (f : Value), M8.J2 d e n = some r ∧ s = [] ∧ ob = [.arr g 37 3 1 [[.N, .N, .N]], .us a 4 1 (d.map rB), .arr i 37 3 1 [[.v c, .v f, .v a]], .us c 3 1 (e.map rI), .us f 3 1 (n.map rI)]) [(2, _), (3, _)] J2 ?_ ?_
 refine Bu [.o 1 0, .l 2 (b.Ports.length : Int)] I ⟨Bh, I, J⟩ (nJ (Cz 30 I fun ad => nM (Bo 3 1) ?_))
 obtain ⟨ay, ae, af⟩ := Ac h
 clear h
 refine Dl ae [(1, _), (2, _), (3, _), (31, _)] J4 (fun (y : Nat) (A : List Int) s ob => ∃ (t : Value), s = [(32, .V (y : Int))] ∧ ob = [.arr B 37 3 1 [As b], .arr g 37 3 1 [[.N, .N, .N]], .us a 4 1 (d.map rB), .arr i 37 3 1 [[.v c, .v t, .v a]], .us c 3 1 (e.map rI), .us t 3 1 (A.map rI)]) ⟨(.slice none 0 0), I2⟩ ⟨I, J⟩ ⟨[0, 1, 2, 3, 4, 5], I, by decide⟩ ?_ ?_
 rintro y G A az s ob ag H ⟨t, rfl, rfl⟩ h
 unfold M8.B3 at h
 have ah := Di H
 refine Aq I (Aa fun a0 ai => Av (v := true) I ah (nI ?_))
 subst ai
 refine nH (nJ (Aq I ?_))
 obtain ⟨a1, aj, h⟩ := Ac h
 refine Bw (sl 8 0 (.act 8 (.act 9 (.still 10 (.drop 11 .nil))))) [3, 0] [_, _] I (By 8 [.o 1 0, .o 3 1, .x 5 y (rI G)] I ⟨⟨I, Ah ag⟩, I, I, J⟩ (nF [] I I I (nR 1 (([wr (0 - G)] : List Int).map rI) (nF [5] I I I (Bf 5 I aj fun M => Bm 1 I (nL 5 I fun ak => nW [3] I I I (nU 3 0 1 (es' := [[.v c, .v M, .v a]]) I I I I I I (Ai ak) I (Bs I) I I (Ak (nE (nD (Ap 2 [.k 0 (y + 1 : Nat)] I ⟨Bt H ad, J⟩ ?_)))))))))))
 obtain rfl := oi h
 refine nE ?_
 exact lg ⟨M, I2⟩ [0, 1, 2, 3, 4, 5]
 rintro A s ob ⟨t, rfl, rfl⟩ he
 subst he
 have h := af
 have al := Dj b.Ports.length
 refine Aq I (Aa fun a2 a3 => Av (v := false) I al (nO ?_))
 exact lg ⟨A, t, h, I2⟩ [1, 2, 3, 4, 5]
 rintro s ob ⟨n, f, h, rfl, rfl⟩
 unfold M8.J2 at h
 refine nH (nD (Ap 1 [.o 0 2] I J1 (nG [0] I (Ax 0 0 0 [[.v c, .v f, .v a]] I (nE (nM (A0 [1, 3, 4] (K := [.us a 4 1 (d.map rB), .us c 3 1 (e.map rI), .us f 3 1 (n.map rI)]) I [] J (ob' := [.arr g 37 3 1 [[.list 1 (e.map rI), .list 1 (n.map rI), .list 1 (d.map rB)]], .arr i 37 3 1 [[.v c, .v f, .v a]]]) (.cons (.arr (.cons (.us 1 I) (.cons (.us 2 I) (.cons (.us 0 I) (.rest _))))) (.rest _))) (Cb [0] I ?_)))))))
 obtain rfl := oi h
 exact nK ⟨.inr I, [_], [], ⟨⟨0, _, _, _, _, _, _, _, I5⟩, J⟩, Cf, I2⟩
theorem bV (i : Nat) (a3 : KS) (j : Network) (r : Plan × KS) (h : P7 a3 j = some r) : ACalls Am 31 [.v (.pointer (some ⟨i, 0, none⟩)), .agg (Ab j)] [.arr i 88 2 1 [Cp a3]] (Gp 1 fun x os new => x = .agg (As r.1) ∧ os = [.arr i 88 2 1 [Cp r.2]] ∧ new = []) := by
 refine Ag Tryz.func31 rfl rfl rfl fun C hC => ?_
 unfold P7 at h
 refine Aa fun y1 co => nD (nG [] I (nQ (cs := Ab j) (m := 6) I I I dS fun G => nG [] I (nN (cs := [.N, .N, .N]) (m := 3) I I I I I dS fun D => nE ?_)))
 subst co
 refine Al (fun s ob => ∃ (S : (List Int) × (List Int)) (w : Nat) (a : Value) (c : Value), P7.J1 a3 j S = some r ∧ s = [(5, .v (.pointer (some ⟨w, 0, none⟩)))] ∧ ob = [.arr i 88 2 1 [Cp a3], .arr G 32 6 1 [Ab j], .arr D 37 3 1 [[.N, .N, .N]], .us a 3 1 (S.1.map rI), .us c 3 1 (S.2.map rI), .arr w 37 3 1 [[.v a, .v c, .N]]]) [(0, _), (3, _), (4, _)] J3 ?_ ?_
 obtain ⟨bx, ⟨fg, cp, cq, cr⟩, h⟩ := Hx h
 obtain ⟨bz, ⟨fh, ct, cu, cv⟩, h⟩ := Hx h
 refine Bw (sl 3 0 (sl 3 4 (.par [(3, []), (7, []), (9, []), (8, [3, 7])] (.act 10 .nil)))) [1] [_] I (By 6 [.o 1 0, .l 2 (j.Segments.length : Int), .o 4 0, .l 5 (j.Ports.length : Int)] I ⟨Bh, I, Bh, I, J⟩ (AP.any [⟨3, [], 25, .us 3 1 (bx.map rI)⟩, ⟨7, [], 29, .us 3 1 (bz.map rI)⟩, ⟨9, [], 5, .box 37 3 ([.N, .N, .N])⟩, ⟨8, [3, 7], 30, .fn fun l => match l with | [.v ae, .v af] => .agg [.v ae, .v af, .N] | _ => .tup []⟩] I ⟨⟨_, I, I, I, fun _ => A3 (sz := 1) I I I I I I I I I I cp cq (Be (f := rI) cr I) dS fun v => ⟨_, I, ⟨v, I⟩, I⟩⟩, ⟨_, I, I, I, fun _ => A3 (sz := 1) I I I I I I I I I I ct cu (Be (f := rI) cv I) dS fun v => ⟨_, I, ⟨v, I⟩, I⟩⟩, ⟨_, I, I, I, fun _ => nN (cs := [.N, .N, .N]) (m := 3) I I I I I dS fun b => ⟨_, I, ⟨b, I⟩, I⟩⟩, ⟨_, I, I, I, fun ae b1 af b4 _ => Cd (Yp.yd (Ao (l := [.v ae, .v af, .N]) Az (Ae I I (Ai b1) I (Ae I I (Ai b4) I (A8))))) dS ⟨_, I, I, nb⟩⟩, J⟩ ?_))
 intro ae b1 af b4 cw
 refine AP.same 30 (.agg [.v ae, .v af, .N]) I (nF [5] I I I (Ax 5 0 0 [[.v ae, .v af, .N]] I (Ak (nE ?_))))
 exact lg ⟨(bx, bz), cw, ae, af, h, I2⟩ [0, 1, 2, 3, 4, 5]
 rintro s ob ⟨S, w, a, c, h, rfl, rfl⟩
 unfold P7.J1 at h
 refine Al (fun s ob => ∃ (p : (List Int) × Int × (List Bool)) (g : Value), P7.J2 j S p = some r ∧ s = [] ∧ ob = [.arr i 88 2 1 [[.list 1 (p.1.map rI), .V p.2.1]], .arr G 32 6 1 [Ab j], .arr D 37 3 1 [[.N, .N, .N]], .us a 3 1 (S.1.map rI), .us c 3 1 (S.2.map rI), .arr w 37 3 1 [[.v a, .v c, .v g]], .us g 4 1 (p.2.2.map rB)]) [(0, _), (3, _), (4, _), (5, _)] J4 ?_ ?_
 refine Aq I (nJ (nM (Bo 4 1) ?_))
 obtain ⟨fi, cx, cy⟩ := Ac h
 clear h
 refine Bz cx [(0, _), (3, _), (4, _), (5, _)] J4 (fun (Y : (List Int) × Int × (List Bool) × Int) s ob => ∃ (a4 : Value), s = [(6, .V Y.2.2.2)] ∧ ob = [.arr i 88 2 1 [[.list 1 (Y.1.map rI), .V Y.2.1]], .arr G 32 6 1 [Ab j], .arr D 37 3 1 [[.N, .N, .N]], .us a 3 1 (S.1.map rI), .us c 3 1 (S.2.map rI), .arr w 37 3 1 [[.v a, .v c, .v a4]], .us a4 4 1 (Y.2.2.1.map rB)]) ⟨(.slice none 0 0), I2⟩ ⟨I, J⟩ ⟨[0, 1, 2, 3, 4, 5, 6], I, by decide⟩ ?_
 rintro Y fj s ob ⟨a4, rfl, rfl⟩ h cz
 unfold P7.B20 at h
 refine Aa fun fk c1 => Bu [.o 2 1, .l 3 (j.Stations.length : Int)] I ⟨Bh, I, J⟩ (Ay h I ?_ ?_)
 intro c2 h
 refine nI ?_
 subst c1
 refine nH (nJ ?_)
 obtain ⟨c3, c4, h⟩ := Ac h
 obtain ⟨fl, c5, h⟩ := Ac h
 refine Bw (sl 3 0 (.act 3 (.still 4 (.act 5 (.act 6 (.still 7 (.drop 8 .nil))))))) [5] [_] I (By 3 [.o 1 0] I J1 (nF [0] I I I (A5 [0] (Dg i _ _ _ c4) ?_)))
 refine Bm 1 I (nF [] I I I (nR 1 (([(c3.1 == 0)] : List Bool).map rB) (nF [6] I I I (Bf 6 I c5 fun b5 => Bm 1 I (nL 6 I fun c6 => nW [5] I I I (nU 5 0 2 (es' := [[.v a, .v c, .v b5]]) I I I I I I (Ai c6) I (Bs I) I I (Ak (nE (nD (Af 3 I ?_))))))))))
 obtain rfl := oi h
 refine nE ?_
 exact ⟨_, _, _, I, ⟨b5, I2⟩, J5, [0, 1, 2, 3, 4, 5, 6], I, by decide⟩
 intro c2 h
 obtain rfl := cz _ (oi h).symm
 replace h := cy
 refine nO ?_
 exact lg ⟨(Y.1, Y.2.1, Y.2.2.1), a4, h, I2⟩ [0, 1, 2, 3, 4, 5, 6]
 rintro s ob ⟨p, g, h, rfl, rfl⟩
 unfold P7.J2 at h
 refine Aa fun fm c7 => ?_
 obtain ⟨c8, c9, h⟩ := Ac h
 refine nD (Af 1 I (nG [0] I (A5 [0] (Dg i _ _ _ c9) ?_)))
 refine Af 2 I (nE ?_)
 subst c7
 refine Al (fun s ob => ∃ (u : (List Int) × Int × (List Int) × (List Int)), P7.J3 p c8 u = some r ∧ s = [] ∧ ob = [.arr i 88 2 1 [[.list 1 (u.1.map rI), .V u.2.1]], .arr D 37 3 1 [[.N, .N, .N]], .us a 3 1 (u.2.2.1.map rI), .us c 3 1 (u.2.2.2.map rI), .arr w 37 3 1 [[.v a, .v c, .v g]], .us g 4 1 (p.2.2.map rB)]) [(4, _), (5, _), (7, _)] J3 ?_ ?_
 refine Aa fun fo da => ?_
 obtain ⟨fp, db, h⟩ := Ac h
 refine nD (Af 1 I (nG [0] I (A5 [0] (Dg i _ _ _ db) ?_)))
 refine Af 1 I (nE ?_)
 subst da
 refine nJ ?_
 obtain ⟨fq, dc, dd⟩ := Ac h
 clear h
 refine Bz dc [(0, _), (3, _), (4, _), (5, _), (7, _)] J5 (fun (e : (List Int) × Int × (List Int) × (List Int) × Int) s ob => s = [(8, .V e.2.2.2.2)] ∧ ob = [.arr i 88 2 1 [[.list 1 (e.1.map rI), .V e.2.1]], .arr G 32 6 1 [Ab j], .arr D 37 3 1 [[.N, .N, .N]], .us a 3 1 (e.2.2.1.map rI), .us c 3 1 (e.2.2.2.1.map rI), .arr w 37 3 1 [[.v a, .v c, .v g]], .us g 4 1 (p.2.2.map rB)]) ⟨I, I⟩ ⟨I, J⟩ ⟨[0, 1, 2, 3, 4, 5, 6], I, by decide⟩ ?_
 rintro e a5 s ob ⟨rfl, rfl⟩ h de
 unfold P7.B4 at h
 refine Aa fun fr df => Aq I (Ay h I ?_ ?_)
 intro dg h
 refine nI ?_
 subst df
 refine Al (fun s ob => ∃ (al : (List Int) × Int × (List Int) × (List Int)), P7.J5 e al = some a5 ∧ s = [] ∧ ob = [.arr i 88 2 1 [[.list 1 (al.1.map rI), .V al.2.1]], .arr G 32 6 1 [Ab j], .arr D 37 3 1 [[.N, .N, .N]], .us a 3 1 (al.2.2.1.map rI), .us c 3 1 (al.2.2.2.map rI), .arr w 37 3 1 [[.v a, .v c, .v g]], .us g 4 1 (p.2.2.map rB)]) [(0, _), (3, _), (4, _), (5, _), (7, _), (8, _)] J6 ?_ ?_
 refine nJ (Aa fun fs dh => ?_)
 obtain ⟨bf, di, h⟩ := Ac h
 refine nD (Ap 4 [.o 2 1, .l 3 (j.Ports.length : Int)] I ⟨Bh, I, J⟩ (nG [0] I (A5 [0] (Dg i _ _ _ di) ?_)))
 refine Af 1 I (nE ?_)
 subst dh
 refine Aa fun ft dj => ?_
 obtain ⟨bg, ⟨dk, dl⟩, h⟩ := Bk h
 obtain ⟨fu, dm, h⟩ := Ac h
 obtain ⟨A, dn, h⟩ := Ac h
 refine Bw (pd 13 0 [8, 9, 10]) [1] [_] I (By 8 [.o 1 0, .x 3 bg.1 (Bj bg.2)] I ⟨⟨dk, Ah dl⟩, I, J⟩ (nF [] I I I (nR 1 (([1, 5, 30, 300] : List Int).map rI) (nF [0] I I I (A5 [0] (An i _ _ _ dm) ?_)))))
 refine nF [0] I I I (A5 [0] (Fb i _ _ _ _ dn) ?_)
 refine Bm 2 I (Ak (nE ?_))
 subst dj
 refine Aa fun fv dp => Al (fun s ob => ∃ (bh : Bool), P7.J6 j e bf bg A bh = some a5 ∧ s = [(86, .v (.bool bh))] ∧ ob = [.arr i 88 2 1 [Cp A.2], .arr G 32 6 1 [Ab j], .arr D 37 3 1 [[.N, .N, .N]], .us a 3 1 (e.2.2.1.map rI), .us c 3 1 (e.2.2.2.1.map rI), .arr w 37 3 1 [[.v a, .v c, .v g]], .us g 4 1 (p.2.2.map rB)]) [(0, _), (3, _), (4, _), (5, _), (7, _), (8, _), (9, _), (10, _), (11, _)] J9 ?_ ?_
 obtain ⟨Z, ⟨b6, a6⟩, h⟩ := Bk h
 refine nD (Ap 3 [.o 1 5] I J1 (nS (Bi 4 (m := Z.1) I I I I I I I b6 (Ah a6)) I (nS (Ba 4 Z.1 0 I I I (Ah a6) I (y := .V Z.2) I) I (Af 2 I ?_))))
 rcases bt (decide (Z.2 < 0)) with ay | ay
 replace h := B0 ay h
 refine Ad 77 I ay (Af 9 I (nE ?_))
 exact lg ⟨true, h, I2⟩ [0, 1, 2, 3, 4, 5, 6]
 replace h := Ca ay h
 refine Ad 77 I ay (Ap 3 [.o 1 5] I J1 (Br I I I (nS (Bi 4 (m := Z.1) I I I I I I I b6 (Ah a6)) I (Br I I I (nS (Ba 4 Z.1 0 I I I (Ah a6) I (y := .V Z.2) I) I (Af 4 I (nE ?_)))))))
 exact lg ⟨decide ((wr (Z.2 + A.1)) > 1000), h, I2⟩ [0, 1, 2, 3, 4, 5, 6]
 rintro s ob ⟨bh, h, rfl, rfl⟩
 unfold P7.J6 at h
 refine Ay h I ?_ ?_
 intro dq h
 refine nO ?_
 exact lg ⟨(A.2.L_, A.2.At, e.2.2.1, e.2.2.2.1), h, I2⟩ [0, 1, 2, 3, 4, 5, 6]
 intro dq h
 refine nI ?_
 subst dp
 refine Aq I (Aq I (Al (fun s ob => ∃ (E : (List Int) × Int × (List Int) × Int) (am : Value), P7.J7 j e bf A E = some a5 ∧ s = [(12, .v am), (13, .V E.2.2.2)] ∧ ob = [.arr i 88 2 1 [[.list 1 (E.1.map rI), .V E.2.1]], .arr G 32 6 1 [Ab j], .arr D 37 3 1 [[.N, .N, .N]], .us a 3 1 (e.2.2.1.map rI), .us c 3 1 (e.2.2.2.1.map rI), .arr w 37 3 1 [[.v a, .v c, .v g]], .us g 4 1 (p.2.2.map rB), .us am 3 1 (E.2.2.1.map rI)]) [(0, _), (3, _), (4, _), (5, _), (7, _), (8, _), (9, _), (11, _)] J8 ?_ ?_))
 refine nJ (nM (Bo 3 1) ?_)
 obtain ⟨fw, dr, bi⟩ := Ac h
 clear h
 refine Bz dr [(0, _), (3, _), (4, _), (5, _), (7, _), (8, _), (9, _), (11, _)] J8 (fun (n : (List Int) × Int × Int × (List Int) × Int) s ob => ∃ (M : Value), s = [(10, .V n.2.2.1), (12, .v M), (13, .V n.2.2.2.2)] ∧ ob = [.arr i 88 2 1 [[.list 1 (n.1.map rI), .V n.2.1]], .arr G 32 6 1 [Ab j], .arr D 37 3 1 [[.N, .N, .N]], .us a 3 1 (e.2.2.1.map rI), .us c 3 1 (e.2.2.2.1.map rI), .arr w 37 3 1 [[.v a, .v c, .v g]], .us g 4 1 (p.2.2.map rB), .us M 3 1 (n.2.2.2.1.map rI)]) ⟨(.slice none 0 0), I2⟩ ⟨I, I, I, J⟩ ⟨[0, 1, 2, 3, 4, 5, 6, 7], I, by decide⟩ ?_
 rintro n b7 s ob ⟨M, rfl, rfl⟩ h bj
 unfold P7.B11 at h
 refine Aa fun fx ds => Aq I (Ay h I ?_ ?_)
 intro du h
 refine nI ?_
 subst ds
 refine nJ (Al (fun s ob => ∃ (F : (List Int) × Int × Int), P7.J12 j e A n F = some b7 ∧ s = [(13, .V F.2.2)] ∧ ob = [.arr i 88 2 1 [[.list 1 (F.1.map rI), .V F.2.1]], .arr G 32 6 1 [Ab j], .arr D 37 3 1 [[.N, .N, .N]], .us a 3 1 (e.2.2.1.map rI), .us c 3 1 (e.2.2.2.1.map rI), .arr w 37 3 1 [[.v a, .v c, .v g]], .us g 4 1 (p.2.2.map rB), .us M 3 1 (n.2.2.2.1.map rI)]) [(0, _), (3, _), (4, _), (5, _), (7, _), (8, _), (9, _), (10, _), (11, _), (12, _)] kK ?_ ?_)
 refine Bu [.o 1 1, .l 2 (j.Ports.length : Int)] I ⟨Bh, I, J⟩ (nJ (Cz 90 I fun dv => ?_))
 obtain ⟨fy, dw, dx⟩ := Ac h
 clear h
 refine Dl dw [(0, _), (3, _), (4, _), (5, _), (7, _), (8, _), (9, _), (10, _), (11, _), (12, _), (90, _), (91, _)] mX (fun (ag : Nat) (P : (List Int) × Int × Int) s ob => s = [(92, .V (ag : Int)), (13, .V P.2.2)] ∧ ob = [.arr i 88 2 1 [[.list 1 (P.1.map rI), .V P.2.1]], .arr G 32 6 1 [Ab j], .arr D 37 3 1 [[.N, .N, .N]], .us a 3 1 (e.2.2.1.map rI), .us c 3 1 (e.2.2.2.1.map rI), .arr w 37 3 1 [[.v a, .v c, .v g]], .us g 4 1 (p.2.2.map rB), .us M 3 1 (n.2.2.2.1.map rI)]) ⟨I, I⟩ ⟨I, I, J⟩ ⟨[0, 1, 2, 3, 4, 5, 6, 7], I, by decide⟩ ?_ ?_
 rintro ag bk P b8 s ob dy b9 ⟨rfl, rfl⟩ h
 unfold P7.B17 at h
 have dz := Di b9
 refine Aq I (Aa fun fz d0 => Av (v := true) I dz (nI ?_))
 subst d0
 refine Al (fun s ob => ∃ (az : (List Int) × Int × Int), P7.J18 az = some b8 ∧ s = [(13, .V az.2.2)] ∧ ob = [.arr i 88 2 1 [[.list 1 (az.1.map rI), .V az.2.1]], .arr G 32 6 1 [Ab j], .arr D 37 3 1 [[.N, .N, .N]], .us a 3 1 (e.2.2.1.map rI), .us c 3 1 (e.2.2.2.1.map rI), .arr w 37 3 1 [[.v a, .v c, .v g]], .us g 4 1 (p.2.2.map rB), .us M 3 1 (n.2.2.2.1.map rI)]) [(0, _), (3, _), (4, _), (5, _), (7, _), (8, _), (9, _), (10, _), (11, _), (12, _), (90, _), (91, _), (92, _)] mK ?_ ?_
 refine nJ (Aa fun f0 d1 => nD (Ap 3 [.x 1 ag (Bj bk)] I ⟨⟨I, Ah dy⟩, J⟩ (nG [] I (nN (cs := [.v (.string ⟨#[]⟩), .V 0, .V 0]) (m := 3) I I I I I dS fun f1 => Af 1 I (nG [8] I (Ax 8 0 0 [Bj bk] I (nE ?_)))))))
 subst d1
 refine Al (fun s ob => ∃ (U : (List Int) × Int × Bool), P7.J19 ag P U = some b8 ∧ s = [(133, .v (.bool U.2.2))] ∧ ob = [.arr i 88 2 1 [[.list 1 (U.1.map rI), .V U.2.1]], .arr G 32 6 1 [Ab j], .arr D 37 3 1 [[.N, .N, .N]], .us a 3 1 (e.2.2.1.map rI), .us c 3 1 (e.2.2.2.1.map rI), .arr w 37 3 1 [[.v a, .v c, .v g]], .us g 4 1 (p.2.2.map rB), .us M 3 1 (n.2.2.2.1.map rI)]) [(0, _), (3, _), (4, _), (5, _), (7, _), (8, _), (9, _), (10, _), (11, _), (12, _), (13, _), (14, _), (90, _), (91, _), (92, _)] mW ?_ ?_
 rcases bt ((bk.Node == n.2.2.1)) with W | W
 replace h := B0 W h
 rcases bt (((ag : Int) != bf.1)) with aa | aa
 replace h := B0 aa h
 obtain ⟨B, ⟨ah, O⟩, h⟩ := Bk h
 rcases bt (decide (B.2 ≤ 0)) with ai | ai
 replace h := B0 ai h
 rcases bt (decide ((wr (B.2 - A.1)) ≥ (-1000))) with an | an
 replace h := B0 an h
 rcases bt (decide ((n.2.2.2.1.length : Int) > 0)) with a0 | a0
 replace h := B0 a0 h
 obtain ⟨bl, d2, h⟩ := Ac h
 refine nD (Ap 5 [.o 1 8] I J1 (Ad 101 I W (Af 5 I (Ad 106 I aa (Ap 3 [.o 1 5] I J1 (Br I I I (nS (Bi 4 (m := B.1) I I I I I I I ah (Ah O)) I (Br I I I (nS (Ba 4 B.1 0 I I I (Ah O) I (y := .V B.2) I) I (Af 3 I (Ad 114 I ai (Ap 3 [.o 1 5] I J1 ?_))))))))))))
 refine Br I I I (nS (Bi 4 (m := B.1) I I I I I I I ah (Ah O)) I (Br I I I (nS (Ba 4 B.1 0 I I I (Ah O) I (y := .V B.2) I) I (Af 5 I (Ad 124 I an (Af 1 I (Br I I I (nS (Cn 7 I I I I) I (Af 3 I (Ad 129 I a0 (Af 1 I (Br I I I ?_))))))))))))
 refine nG [0] I (A5 [0] (Dg i _ _ _ d2) ?_)
 refine Af 2 I (nE ?_)
 exact lg ⟨(bl.2.L_, bl.2.At, (bl.1 == 0)), h, I2⟩ [0, 1, 2, 3, 4, 5, 6, 7]
 replace h := Ca a0 h
 refine nD (Ap 5 [.o 1 8] I J1 (Ad 101 I W (Af 5 I (Ad 106 I aa (Ap 3 [.o 1 5] I J1 (Br I I I (nS (Bi 4 (m := B.1) I I I I I I I ah (Ah O)) I (Br I I I (nS (Ba 4 B.1 0 I I I (Ah O) I (y := .V B.2) I) I (Af 3 I (Ad 114 I ai (Ap 3 [.o 1 5] I J1 ?_))))))))))))
 refine Br I I I (nS (Bi 4 (m := B.1) I I I I I I I ah (Ah O)) I (Br I I I (nS (Ba 4 B.1 0 I I I (Ah O) I (y := .V B.2) I) I (Af 5 I (Ad 124 I an (Af 1 I (Br I I I (nS (Cn 7 I I I I) I (Af 3 I (Ad 129 I a0 (Af 4 I (nE ?_))))))))))))
 rotate_left
 replace h := Ca an h
 refine nD (Ap 5 [.o 1 8] I J1 (Ad 101 I W (Af 5 I (Ad 106 I aa (Ap 3 [.o 1 5] I J1 (Br I I I (nS (Bi 4 (m := B.1) I I I I I I I ah (Ah O)) I (Br I I I (nS (Ba 4 B.1 0 I I I (Ah O) I (y := .V B.2) I) I (Af 3 I (Ad 114 I ai (Ap 3 [.o 1 5] I J1 ?_))))))))))))
 refine Br I I I (nS (Bi 4 (m := B.1) I I I I I I I ah (Ah O)) I (Br I I I (nS (Ba 4 B.1 0 I I I (Ah O) I (y := .V B.2) I) I (Af 5 I (Ad 124 I an (Af 9 I (nE ?_)))))))
 rotate_left
 replace h := Ca ai h
 refine nD (Ap 5 [.o 1 8] I J1 (Ad 101 I W (Af 5 I (Ad 106 I aa (Ap 3 [.o 1 5] I J1 (Br I I I (nS (Bi 4 (m := B.1) I I I I I I I ah (Ah O)) I (Br I I I (nS (Ba 4 B.1 0 I I I (Ah O) I (y := .V B.2) I) I (Af 3 I (Ad 114 I ai (Af 19 I ?_))))))))))))
 refine nE ?_
 rotate_left
 replace h := Ca aa h
 refine nD (Ap 5 [.o 1 8] I J1 (Ad 101 I W (Af 5 I (Ad 106 I aa (Af 27 I (nE ?_))))))
 rotate_left
 replace h := Ca W h
 refine nD (Ap 5 [.o 1 8] I J1 (Ad 101 I W (Af 32 I (nE ?_))))
 any_goals
  exact lg ⟨(P.1, P.2.1, false), h, I2⟩ [0, 1, 2, 3, 4, 5, 6, 7]
 rintro s ob ⟨U, h, rfl, rfl⟩
 unfold P7.J19 at h
 refine Ay h I ?_ ?_
 intro d3 h
 refine Pd I ?_
 exact lg ⟨(U.1, U.2.1, (ag : Int)), h, I2⟩ [0, 1, 2, 3, 4, 5, 6, 7]
 intro d3 h
 refine nI ?_
 exact lg ⟨(U.1, U.2.1, P.2.2), h, I2⟩ [0, 1, 2, 3, 4, 5, 6, 7]
 rintro s ob ⟨az, h, rfl, rfl⟩
 unfold P7.J18 at h
 refine nD (Ap 2 [.k 0 (ag + 1 : Nat)] I ⟨Bt b9 dv, J⟩ ?_)
 obtain rfl := oi h
 refine nE ?_
 exact lg I2 [0, 1, 2, 3, 4, 5, 6, 7]
 rintro P s ob ⟨rfl, rfl⟩ he
 subst he
 have h := dx
 have d4 := Dj j.Ports.length
 refine Aq I (Aa fun f2 f3 => Av (v := false) I d4 (nO ?_))
 exact lg ⟨(P.1, P.2.1, P.2.2), h, I2⟩ [0, 1, 2, 3, 4, 5, 6, 7]
 rintro s ob ⟨F, h, rfl, rfl⟩
 unfold P7.J12 at h
 refine Aa fun f4 d5 => Aq I (Ay h I ?_ ?_)
 intro d6 h
 obtain rfl := bj _ (oi h).symm
 replace h := bi
 refine nO ?_
 exact lg ⟨(F.1, F.2.1, n.2.2.2.1, F.2.2), M, h, I2⟩ [0, 1, 2, 3, 4, 5, 6, 7]
 intro d6 h
 refine nI ?_
 subst d5
 refine Aq I (Al (fun s ob => ∃ (bm : List Int) (bn : Value), P7.J13 j n F bm = some b7 ∧ s = [(16, .v bn)] ∧ ob = [.arr i 88 2 1 [[.list 1 (F.1.map rI), .V F.2.1]], .arr G 32 6 1 [Ab j], .arr D 37 3 1 [[.N, .N, .N]], .us a 3 1 (e.2.2.1.map rI), .us c 3 1 (e.2.2.2.1.map rI), .arr w 37 3 1 [[.v a, .v c, .v g]], .us g 4 1 (p.2.2.map rB), .us M 3 1 (n.2.2.2.1.map rI), .us bn 3 1 (bm.map rI)]) [(0, _), (3, _), (4, _), (5, _), (7, _), (8, _), (9, _), (10, _), (11, _), (12, _), (13, _)] kJ ?_ ?_)
 refine Bu [.o 1 1, .l 2 (j.Segments.length : Int)] I ⟨Bh, I, J⟩ (nJ (Cz 139 I fun d7 => nM (Bo 3 1) ?_))
 obtain ⟨f5, d8, d9⟩ := Ac h
 clear h
 refine Dl d8 [(0, _), (3, _), (4, _), (5, _), (7, _), (8, _), (9, _), (10, _), (11, _), (12, _), (13, _), (139, _), (140, _)] mK (fun (ao : Nat) (aj : List Int) s ob => ∃ (ak : Value), s = [(141, .V (ao : Int)), (16, .v ak)] ∧ ob = [.arr i 88 2 1 [[.list 1 (F.1.map rI), .V F.2.1]], .arr G 32 6 1 [Ab j], .arr D 37 3 1 [[.N, .N, .N]], .us a 3 1 (e.2.2.1.map rI), .us c 3 1 (e.2.2.2.1.map rI), .arr w 37 3 1 [[.v a, .v c, .v g]], .us g 4 1 (p.2.2.map rB), .us M 3 1 (n.2.2.2.1.map rI), .us ak 3 1 (aj.map rI)]) ⟨(.slice none 0 0), I2⟩ ⟨I, I, J⟩ ⟨[0, 1, 2, 3, 4, 5, 6, 7, 8], I, by decide⟩ ?_ ?_
 rintro ao Q aj ca s ob ea cb ⟨ak, rfl, rfl⟩ h
 unfold P7.B14 at h
 have eb := Di cb
 refine Aq I (Aa fun f6 ec => Av (v := true) I eb (nI ?_))
 subst ec
 refine Al (fun s ob => ∃ (bo : List Int) (a7 : Value), P7.J15 bo = some ca ∧ s = [(16, .v a7)] ∧ ob = [.arr i 88 2 1 [[.list 1 (F.1.map rI), .V F.2.1]], .arr G 32 6 1 [Ab j], .arr D 37 3 1 [[.N, .N, .N]], .us a 3 1 (e.2.2.1.map rI), .us c 3 1 (e.2.2.2.1.map rI), .arr w 37 3 1 [[.v a, .v c, .v g]], .us g 4 1 (p.2.2.map rB), .us M 3 1 (n.2.2.2.1.map rI), .us a7 3 1 (bo.map rI)]) [(0, _), (3, _), (4, _), (5, _), (7, _), (8, _), (9, _), (10, _), (11, _), (12, _), (13, _), (139, _), (140, _), (141, _)] mL ?_ ?_
 refine nJ (Aa fun f7 ed => nD (Ap 3 [.x 1 ao (Ar Q)] I ⟨⟨I, Ah ea⟩, J⟩ (nG [] I (nN (cs := [.v (.string ⟨#[]⟩), .V 0, .V 0, .V 0, .V 0, .V 0, .N]) (m := 7) I I I I I dS fun f8 => Af 1 I (nG [9] I (Ax 9 0 0 [Ar Q] I (nE ?_)))))))
 subst ed
 refine Al (fun s ob => ∃ (bp : Bool), P7.J16 ao aj bp = some ca ∧ s = [(180, .v (.bool bp))] ∧ ob = [.arr i 88 2 1 [[.list 1 (F.1.map rI), .V F.2.1]], .arr G 32 6 1 [Ab j], .arr D 37 3 1 [[.N, .N, .N]], .us a 3 1 (e.2.2.1.map rI), .us c 3 1 (e.2.2.2.1.map rI), .arr w 37 3 1 [[.v a, .v c, .v g]], .us g 4 1 (p.2.2.map rB), .us M 3 1 (n.2.2.2.1.map rI), .us ak 3 1 (aj.map rI)]) [(0, _), (3, _), (4, _), (5, _), (7, _), (8, _), (9, _), (10, _), (11, _), (12, _), (13, _), (16, _), (17, _), (139, _), (140, _), (141, _)] ⟨I, I, I, I, I, I, I, I, I, I, I, I, I, I, I, I, J⟩ ?_ ?_
 rcases bt ((Q.From == n.2.2.1)) with ab | ab
 replace h := B0 ab h
 rcases bt (decide ((wr ((wr (Q.From + Q.To)) - n.2.2.1)) > n.2.2.1)) with a1 | a1
 replace h := B0 a1 h
 obtain ⟨aq, ⟨ee, bq⟩, h⟩ := Bk h
 refine Ce 3 aq.1 I bq fun ef => Bw (sl 27 0 (.still 28 (sl 3 30 (.act 27 (.still 29 (.still 33 (.still 34 .nil))))))) [9, 5, 3] [_, _, _] I (By 5 [.o 1 0] I J1 (Bq 150 I ab (By 17 [.o 7 0, .o 9 0] I J2 (Bq 167 I a1 (By 3 [.o 1 1] I J1 (Gu I I I I ((Bl (m := aq.1) I I I I I ef I ee bq).yd) dS (Gu I I I I (Ba 2 aq.1 0 I I I (Ah bq) I (y := .V aq.2) I) dS (By 4 [.o 2 0] I J1 (Hy I (Th aq.2 _ I) (Bm 3 I (Ak ?_)))))))))))
 refine nE ?_
 exact lg ⟨decide ((wr ((Is aq.2) + A.1)) ≤ (min 1000 Q.Capacity)), h, I2⟩ [0, 1, 2, 3, 4, 5, 6, 7, 8]
 replace h := Ca a1 h
 refine Bw (sl 27 0 (.still 28 (sl 3 30 (.act 27 (.still 29 (.still 33 (.still 34 .nil))))))) [9] [_] I (By 5 [.o 1 0] I J1 (Bq 150 I ab (By 17 [.o 7 0, .o 9 0] I J2 (Bq 167 I a1 (Bm 13 I (Ak (nE ?_)))))))
 exact lg ⟨false, h, I2⟩ [0, 1, 2, 3, 4, 5, 6, 7, 8]
 replace h := Ca ab h
 rcases bt ((Q.To == n.2.2.1)) with ar | ar
 replace h := B0 ar h
 rcases bt (decide ((wr ((wr (Q.From + Q.To)) - n.2.2.1)) > n.2.2.1)) with a2 | a2
 replace h := B0 a2 h
 obtain ⟨au, ⟨eg, br⟩, h⟩ := Bk h
 refine Ce 3 au.1 I br fun eh => Bw (sl 27 0 (.still 28 (sl 3 30 (.act 27 (.still 29 (.still 33 (.still 34 .nil))))))) [9, 5, 3] [_, _, _] I (By 5 [.o 1 0] I J1 (Bq 150 I ab (By 6 [.o 1 0] I J1 (Bq 156 I ar (By 11 [.o 1 0, .o 3 0] I J2 (Bq 167 I a2 (By 3 [.o 1 1] I J1 (Gu I I I I ((Bl (m := au.1) I I I I I eh I eg br).yd) dS (Gu I I I I (Ba 2 au.1 0 I I I (Ah br) I (y := .V au.2) I) dS (By 4 [.o 2 0] I J1 (Hy I (Th au.2 _ I) ?_)))))))))))
 refine Bm 3 I (Ak (nE ?_))
 exact lg ⟨decide ((wr ((Is au.2) + A.1)) ≤ (min 1000 Q.Capacity)), h, I2⟩ [0, 1, 2, 3, 4, 5, 6, 7, 8]
 replace h := Ca a2 h
 refine Bw (sl 27 0 (.still 28 (sl 3 30 (.act 27 (.still 29 (.still 33 (.still 34 .nil))))))) [9] [_] I (By 5 [.o 1 0] I J1 (Bq 150 I ab (By 6 [.o 1 0] I J1 (Bq 156 I ar (By 11 [.o 1 0, .o 3 0] I J2 (Bq 167 I a2 (Bm 13 I (Ak (nE ?_)))))))))
 exact lg ⟨false, h, I2⟩ [0, 1, 2, 3, 4, 5, 6, 7, 8]
 replace h := Ca ar h
 refine Bw (sl 27 0 (.still 28 (sl 3 30 (.act 27 (.still 29 (.still 33 (.still 34 .nil))))))) [9] [_] I (By 5 [.o 1 0] I J1 (Bq 150 I ab (By 6 [.o 1 0] I J1 (Bq 156 I ar (Bm 24 I (Ak (nE ?_)))))))
 exact lg ⟨false, h, I2⟩ [0, 1, 2, 3, 4, 5, 6, 7, 8]
 rintro s ob ⟨bp, h, rfl, rfl⟩
 unfold P7.J16 at h
 refine Ay h I ?_ ?_
 intro ei h
 obtain ⟨ej, ek, h⟩ := Ac h
 refine nD (Af 2 I (nG [] I (nR 1 (([(ao : Int)] : List Int).map rI) (nG [8] I (Bf 8 I ek fun el => Af 1 I (nE ?_))))))
 exact lg ⟨ej, el, h, I2⟩ [0, 1, 2, 3, 4, 5, 6, 7, 8]
 intro ei h
 refine nI ?_
 exact lg ⟨aj, ak, h, I2⟩ [0, 1, 2, 3, 4, 5, 6, 7, 8]
 rintro s ob ⟨bo, a7, h, rfl, rfl⟩
 unfold P7.J15 at h
 refine nD (Ap 2 [.k 0 (ao + 1 : Nat)] I ⟨Bt cb d7, J⟩ ?_)
 obtain rfl := oi h
 refine nE ?_
 exact lg ⟨a7, I2⟩ [0, 1, 2, 3, 4, 5, 6, 7, 8]
 rintro aj s ob ⟨ak, rfl, rfl⟩ he
 subst he
 have h := d9
 have em := Dj j.Segments.length
 refine Aq I (Aa fun f9 ga => Av (v := false) I em (nO ?_))
 exact lg ⟨aj, ak, h, I2⟩ [0, 1, 2, 3, 4, 5, 6, 7, 8]
 rintro s ob ⟨bm, bn, h, rfl, rfl⟩
 unfold P7.J13 at h
 refine Aa fun gb en => nH (nD (Af 1 I (nS (Cn 8 I I I I) I (Af 1 I (nE (Ay h I ?_ ?_))))))
 intro eo h
 obtain rfl := bj _ (oi h).symm
 replace h := bi
 refine nO ?_
 exact lg ⟨(F.1, F.2.1, n.2.2.2.1, F.2.2), M, h, I2⟩ [0, 1, 2, 3, 4, 5, 6, 7]
 intro eo h
 refine nI ?_
 subst en
 refine Aa fun gc ep => ?_
 obtain ⟨gd, eq, h⟩ := Ac h
 obtain ⟨a8, ⟨er, cc⟩, h⟩ := Bk h
 refine nD (Af 3 I (nS (Cn 8 I I I I) I (nG [0] I (A5 [0] (Dg i _ _ _ eq) ?_))))
 refine nS (Bi 8 (m := a8.1) I I I I I I I er (Ah cc)) I (nS (Ba 8 a8.1 0 I I I (Ah cc) I (y := .V a8.2) I) I (Af 1 I (nE ?_)))
 subst ep
 refine Aa fun ge es => ?_
 obtain ⟨gf, et, h⟩ := Ac h
 refine nD (Af 2 I (nG [] I (nR 1 (([a8.2] : List Int).map rI) (nG [7] I (Bf 7 I et fun eu => Af 1 I (nE ?_))))))
 subst es
 obtain ⟨a9, ⟨cd, ce⟩, h⟩ := Bk h
 refine Bw (pd 16 0 []) [1] [_] I (By 16 [.o 1 0, .x 3 a9.1 (Ar a9.2), .o 7 0, .x 9 a9.1 (Ar a9.2)] I ⟨⟨cd, Ah ce⟩, I, ⟨cd, Ah ce⟩, I, J⟩ (Ak ?_))
 obtain rfl := oi h
 refine nE ?_
 exact ⟨_, _, _, I, ⟨eu, I2⟩, kJ, [0, 1, 2, 3, 4, 5, 6, 7], I, by decide⟩
 intro du h
 obtain rfl := bj _ (oi h).symm
 replace h := bi
 refine nO ?_
 exact lg ⟨(n.1, n.2.1, n.2.2.2.1, n.2.2.2.2), M, h, I2⟩ [0, 1, 2, 3, 4, 5, 6, 7]
 rintro s ob ⟨E, am, h, rfl, rfl⟩
 unfold P7.J7 at h
 refine Aa fun gg ev => Aq I (Ay h I ?_ ?_)
 intro ew h
 refine nO ?_
 exact lg ⟨(E.1, E.2.1, e.2.2.1, e.2.2.2.1), h, I2⟩ [0, 1, 2, 3, 4, 5, 6]
 intro ew h
 refine nI ?_
 subst ev
 refine Al (fun s ob => ∃ (av : List Int), P7.J8 j e A E av = some a5 ∧ s = [] ∧ ob = [.arr i 88 2 1 [[.list 1 (E.1.map rI), .V E.2.1]], .arr G 32 6 1 [Ab j], .arr D 37 3 1 [[.N, .N, .N]], .us a 3 1 (e.2.2.1.map rI), .us c 3 1 (av.map rI), .arr w 37 3 1 [[.v a, .v c, .v g]], .us g 4 1 (p.2.2.map rB), .us am 3 1 (E.2.2.1.map rI)]) [(0, _), (3, _), (4, _), (5, _), (7, _), (8, _), (11, _), (12, _)] J8 ?_ ?_
 obtain ⟨H, ⟨bs, X⟩, h⟩ := Bk h
 obtain ⟨R, ⟨ex, ba⟩, h⟩ := Bk h
 obtain ⟨aw, ⟨cf, bb⟩, h⟩ := Bk h
 refine Ce 4 H.1 I X fun ey => Ce 4 R.1 I ba fun ez => Ce 4 H.1 I X fun cg => Bw (sl 10 0 (.still 11 (sl 4 13 (.still 18 (.two 10 17 (.still 12 (.act 17 (.still 19 (.still 20 (.act 21 (.act 22 (.act 23 .nil))))))) (.still 19 (.act 10 (.still 12 (.still 20 (.act 21 (.act 22 (.act 23 .nil)))))))))))) [5] [_] I (By 9 [.o 1 0, .o 4 0, .o 7 0] I J3 (nV I (Bl (m := H.1) I I I I I ey I bs X) I (By 4 [.o 2 0] I J1 (nV I (Bl (m := R.1) I I I I I ez I ex ba) I (Bm 1 I (nT ?_ ?_))))))
 refine nF [] I I I (Cd (Ba 4 H.1 0 I I I (Ah X) I (y := .V H.2) I) dS (Bm 1 I (nF [] I I I (Cd (Ba 4 R.1 0 I I I (Ah ba) I (y := .V R.2) I) dS (Bm 1 I (nV I (Bl (m := H.1) I I I I I cg I bs X) I (nF [4] I I I (Ci 4 H.1 0 I I I (Ah X) I I I I (Bs I) I (Dp (x := wr (H.2 + A.1)) I) (nF [] I I I (Cd (Bi 4 (m := aw.1) I I I I I I I cf (Ah bb)) dS (nF [4] I I I (Ci 4 aw.1 0 I I I (Ah bb) I I I I (Bs I) I (Dp (x := wr (R.2 - A.1)) I) (Ak (nE ?_))))))))))))))
 exact lg ⟨((e.2.2.2.1.set H.1 (wr (H.2 + A.1))).set aw.1 (wr (R.2 - A.1))), h, I2⟩ [0, 1, 2, 3, 4, 5, 6, 7]
 refine nF [] I I I (Cd (Ba 4 R.1 0 I I I (Ah ba) I (y := .V R.2) I) dS (Bm 1 I (nF [] I I I (Cd (Ba 4 H.1 0 I I I (Ah X) I (y := .V H.2) I) dS (Bm 1 I (nV I (Bl (m := H.1) I I I I I cg I bs X) I (nF [4] I I I (Ci 4 H.1 0 I I I (Ah X) I I I I (Bs I) I (Dp (x := wr (H.2 + A.1)) I) (nF [] I I I (Cd (Bi 4 (m := aw.1) I I I I I I I cf (Ah bb)) dS (nF [4] I I I (Ci 4 aw.1 0 I I I (Ah bb) I I I I (Bs I) I (Dp (x := wr (R.2 - A.1)) I) (Ak (nE ?_))))))))))))))
 exact lg ⟨((e.2.2.2.1.set H.1 (wr (H.2 + A.1))).set aw.1 (wr (R.2 - A.1))), h, I2⟩ [0, 1, 2, 3, 4, 5, 6, 7]
 rintro s ob ⟨av, h, rfl, rfl⟩
 unfold P7.J8 at h
 refine Aa fun gh e0 => nD (Af 1 I (nS (Cn 7 I I I I) I (Af 1 I (nE ?_))))
 subst e0
 refine nJ (Oq 7 I fun e1 => ?_)
 obtain ⟨gi, e2, e3⟩ := Ac h
 clear h
 refine Hz e2 [(0, _), (3, _), (4, _), (5, _), (7, _), (8, _), (11, _), (239, _), (240, _)] J9 (fun (bu : Nat) (ax : List Int) s ob => s = [(241, .V (bu : Int))] ∧ ob = [.arr i 88 2 1 [[.list 1 (E.1.map rI), .V E.2.1]], .arr G 32 6 1 [Ab j], .arr D 37 3 1 [[.N, .N, .N]], .us a 3 1 (ax.map rI), .us c 3 1 (av.map rI), .arr w 37 3 1 [[.v a, .v c, .v g]], .us g 4 1 (p.2.2.map rB), .us am 3 1 (E.2.2.1.map rI)]) ⟨I, I⟩ ⟨I, J⟩ ⟨[0, 1, 2, 3, 4, 5, 6, 7], I, by decide⟩ ?_ ?_
 rintro bu ax e4 s ob ci ⟨rfl, rfl⟩ h
 unfold P7.B9 at h
 have e5 := Di ci
 refine Aq I (Aa fun gj e6 => Av (v := true) I e5 (nI ?_))
 subst e6
 refine Al (fun s ob => ∃ (bv : List Int), P7.J10 bv = some e4 ∧ s = [] ∧ ob = [.arr i 88 2 1 [[.list 1 (E.1.map rI), .V E.2.1]], .arr G 32 6 1 [Ab j], .arr D 37 3 1 [[.N, .N, .N]], .us a 3 1 (bv.map rI), .us c 3 1 (av.map rI), .arr w 37 3 1 [[.v a, .v c, .v g]], .us g 4 1 (p.2.2.map rB), .us am 3 1 (E.2.2.1.map rI)]) [(0, _), (3, _), (4, _), (5, _), (7, _), (8, _), (11, _), (239, _), (240, _), (241, _)] kK ?_ ?_
 refine nJ (Aa fun gk e7 => ?_)
 obtain ⟨bw, ⟨e8, cj⟩, h⟩ := Bk h
 refine nD (nS (Bi 7 (m := bw.1) I I I I I I I e8 (Ah cj)) I (nS (Ba 7 bw.1 0 I I I (Ah cj) I (y := .V bw.2) I) I (Af 1 I (nE ?_))))
 subst e7
 refine Aa fun gl e9 => ?_
 obtain ⟨bc, ⟨ck, cl⟩, h⟩ := Bk h
 refine U4 (pd 13 0 []) [1] [_] [.o 1 0, .x 3 bc.1 (Ar bc.2), .o 7 0, .x 9 bc.1 (Ar bc.2)] I I ⟨⟨ck, Ah cl⟩, I, ⟨ck, Ah cl⟩, I, J⟩ ?_
 subst e9
 refine Ay h I ?_ ?_
 intro fa h
 obtain ⟨ac, ⟨cm, bd⟩, h⟩ := Bk h
 refine nD (Ap 3 [.o 1 5] I J1 (nS (Bi 3 (m := ac.1) I I I I I I I cm (Ah bd)) I (nS (Ba 3 ac.1 0 I I I (Ah bd) I (y := .V ac.2) I) I (Af 2 I (nS (Bi 3 (m := ac.1) I I I I I I I cm (Ah bd)) I (nG [3] I (Ci 3 ac.1 0 I I I (Ah bd) I I I I (Bs I) I (Dp (x := wr (ac.2 + A.1)) I) (nE ?_))))))))
 exact lg ⟨(ax.set ac.1 (wr (ac.2 + A.1))), h, I2⟩ [0, 1, 2, 3, 4, 5, 6, 7]
 intro fa h
 obtain ⟨ad, ⟨cn, be⟩, h⟩ := Bk h
 refine nD (Ap 3 [.o 1 5] I J1 (nS (Bi 3 (m := ad.1) I I I I I I I cn (Ah be)) I (nS (Ba 3 ad.1 0 I I I (Ah be) I (y := .V ad.2) I) I (Af 2 I (nS (Bi 3 (m := ad.1) I I I I I I I cn (Ah be)) I (nG [3] I (Ci 3 ad.1 0 I I I (Ah be) I I I I (Bs I) I (Dp (x := wr (ad.2 - A.1)) I) (nE ?_))))))))
 exact lg ⟨(ax.set ad.1 (wr (ad.2 - A.1))), h, I2⟩ [0, 1, 2, 3, 4, 5, 6, 7]
 rintro s ob ⟨bv, h, rfl, rfl⟩
 unfold P7.J10 at h
 refine nD (Ap 2 [.k 0 (bu + 1 : Nat)] I ⟨Bt ci e1, J⟩ ?_)
 obtain rfl := oi h
 refine nE ?_
 exact lg I2 [0, 1, 2, 3, 4, 5, 6, 7]
 rintro ax s ob ⟨rfl, rfl⟩ he
 subst he
 have h := e3
 have fb := Dj E.2.2.1.length
 refine Aq I (Aa fun gm gn => Av (v := false) I fb (nO ?_))
 exact lg ⟨(E.1, E.2.1, ax, av), h, I2⟩ [0, 1, 2, 3, 4, 5, 6]
 rintro s ob ⟨al, h, rfl, rfl⟩
 unfold P7.J5 at h
 refine nD (Af 3 I ?_)
 obtain rfl := oi h
 refine nE ?_
 exact ⟨_, _, _, I, I2, J6, [0, 1, 2, 3, 4, 5, 6], I, by decide⟩
 intro dg h
 obtain rfl := de _ (oi h).symm
 replace h := dd
 refine nO ?_
 exact lg ⟨(e.1, e.2.1, e.2.2.1, e.2.2.2.1), h, I2⟩ [0, 2, 3, 4, 5, 6]
 rintro s ob ⟨u, h, rfl, rfl⟩
 unfold P7.J3 at h
 refine nH (Aq I (Ay h I ?_ ?_))
 intro fc h
 refine nH ?_
 obtain ⟨fd, fe, h⟩ := Ac h
 refine nD (Ap 1 [.o 0 4] I J1 (oA (A0 [2, 3, 5] (K := [.us a 3 1 (u.2.2.1.map rI), .us c 3 1 (u.2.2.2.map rI), .us g 4 1 (p.2.2.map rB)]) I [(276, .agg [.list 1 (u.2.2.1.map rI), .list 1 (u.2.2.2.map rI), .list 1 (p.2.2.map rB)])] ⟨⟨_, I, .agg (.cons (.us 0 I) (.cons (.us 1 I) (.cons (.us 2 I) (.rest _))))⟩, J⟩ (ob' := [.arr i 88 2 1 [[.list 1 (u.1.map rI), .V u.2.1]], .arr D 37 3 1 [[.N, .N, .N]], .arr w 37 3 1 [[.list 1 (u.2.2.1.map rI), .list 1 (u.2.2.2.map rI), .list 1 (p.2.2.map rB)]]]) (.cons (.same _) (.cons (.same _) (.cons (.arr (.cons (.us 0 I) (.cons (.us 1 I) (.cons (.us 2 I) (.rest _))))) (.rest _))))) (nG [] I (Bp I I I (bK _ _ fe) dS ?_))))
 rintro _ _ ⟨rfl, rfl⟩
 refine nG [1] I (Ax 1 0 0 [As fd] I (nE (Cb [0, 1] I ?_)))
 obtain rfl := oi h
 exact nK ⟨.inr I, [_], [.arr i 88 2 1 [[.list 1 (u.1.map rI), .V u.2.1]]], ⟨⟨1, _, _, _, _, _, _, _, I5⟩, J⟩, Dn I (Cf), ⟨[.arr i 88 2 1 [[.list 1 (u.1.map rI), .V u.2.1]]], [], I5⟩⟩
 intro fc h
 refine nI (nH (nD (Ap 1 [.o 0 4] I J1 (nG [1] I (Ax 1 0 0 [[.v a, .v c, .v g]] I (nE (nM (A0 [2, 3, 5] (K := [.us a 3 1 (u.2.2.1.map rI), .us c 3 1 (u.2.2.2.map rI), .us g 4 1 (p.2.2.map rB)]) I [] J (ob' := [.arr i 88 2 1 [[.list 1 (u.1.map rI), .V u.2.1]], .arr D 37 3 1 [[.list 1 (u.2.2.1.map rI), .list 1 (u.2.2.2.map rI), .list 1 (p.2.2.map rB)]], .arr w 37 3 1 [[.v a, .v c, .v g]]]) (.cons (.same _) (.cons (.arr (.cons (.us 0 I) (.cons (.us 1 I) (.cons (.us 2 I) (.rest _))))) (.rest _)))) (Cb [0, 1] I ?_))))))))
 obtain rfl := oi h
 exact nK ⟨.inr I, [_], [.arr i 88 2 1 [[.list 1 (u.1.map rI), .V u.2.1]]], ⟨⟨1, _, _, _, _, _, _, _, I5⟩, J⟩, Dn I (Cf), ⟨[.arr i 88 2 1 [[.list 1 (u.1.map rI), .V u.2.1]]], [], I5⟩⟩
end Go.Proofs.YtmaamhgjeampmaaGreat
