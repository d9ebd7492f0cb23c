/- Walks that show what functions of the program compute; printed by a program of ours. No condition. -/
import Derived.Test.YtmaamhgjeampmaaGreatYtL1
set_option maxRecDepth 100000
namespace Go.Proofs.YtmaamhgjeampmaaGreat
open Go.Aw
set_option linter.unusedVariables false
set_option linter.unusedSimpArgs false
set_option maxHeartbeats 4000000
theorem bW (a : List Int) (r : KS) (h : Ir a = some r) : ACalls Am 11 [.list 1 (a.map rI)] [] (fun x new => ∃ (c : Nat), x = .v (.pointer (some ⟨c, 0, none⟩)) ∧ new = [.arr c 88 2 1 [Cp r]]) := by
 refine Ag Tryz.func11 rfl rfl rfl fun C hC => ?_
 unfold Ir at h
 refine Aq I (nH ?_)
 obtain ⟨b, e, h⟩ := Ac h
 obtain ⟨f, g, i, j, k, n, o⟩ := eY e
 refine nD (Ap 4 [.l 2 (a.length : Int)] I ⟨Bh, J⟩ (Ck (jQ f g 0 I I I I I (mN i) ⟨_, _, I, j⟩ I k n o) I (Ck (Ao (l := [.list 1 (b.map rI), .V 0]) Xk I) I (nG [] I (nQ (cs := [.list 1 (b.map rI), .V 0]) (m := 2) I I I dS fun d => Af 1 I (nE ?_))))))
 obtain rfl := oi h
 exact nK ⟨.inr I, [_], [.arr d 88 2 1 [[.list 1 (b.map rI), .V 0]]], J1, Dn I (Cf), ⟨d, I2⟩⟩
theorem aI (b : Nat) (a : KS) (r : Int × KS) (h : Pq a = some r) : ACalls Am 75 [.v (.pointer (some ⟨b, 0, none⟩))] [.arr b 88 2 1 [Cp a]] (Gp 1 fun x os new => x = .V r.1 ∧ os = [.arr b 88 2 1 [Cp r.2]] ∧ new = []) := by
 refine Ag Tryz.func75 rfl rfl rfl fun C hC => ?_
 unfold Pq at h
 refine Aq I (Aa fun j d => Pk (pd 10 0 []) [0] [_] [.o 3 0, .o 7 0, .l 8 (a.L_.length : Int)] I I ⟨Bh, I, I, J⟩ (Ay h I ?_ ?_))
 intro e h
 refine Aq I ?_
 obtain rfl := oi h
 exact nK ⟨.inr I, [_], [.arr b 88 2 1 [Cp a]], J1, Dn I (Cf), ⟨[.arr b 88 2 1 [Cp a]], [], I5⟩⟩
 intro e h
 refine nI ?_
 subst d
 refine Aa fun k f => nD (Ap 7 [.o 3 0] I J1 (nG [0] I (Ax 0 0 1 [[.list 1 (a.L_.map rI), .V (wr (a.At + 1))]] I (nE ?_))))
 subst f
 refine nH ?_
 obtain ⟨c, ⟨g, i⟩, h⟩ := Bk h
 refine U4 (pd 12 0 []) [0] [_] [.o 3 0, .o 7 0, .x 9 c.1 (rI c.2)] I I ⟨⟨g, Ah i⟩, I, I, J⟩ ?_
 obtain rfl := oi h
 exact nK ⟨.inr I, [_], [.arr b 88 2 1 [[.list 1 (a.L_.map rI), .V (wr (a.At + 1))]]], J1, Dn I (Cf), ⟨[.arr b 88 2 1 [[.list 1 (a.L_.map rI), .V (wr (a.At + 1))]]], [], I5⟩⟩
theorem Dg (a : Nat) (b : KS) (d : Int) (r : Int × KS) (h : Ec b d = some r) : ACalls Am 27 [.v (.pointer (some ⟨a, 0, none⟩)), .V d] [.arr a 88 2 1 [Cp b]] (Gp 1 fun x os new => x = .V r.1 ∧ os = [.arr a 88 2 1 [Cp r.2]] ∧ new = []) := by
 refine Ag Tryz.func27 rfl rfl rfl fun C hC => ?_
 unfold Ec at h
 refine Aq I (nH ?_)
 obtain ⟨e, f, h⟩ := Ac h
 obtain ⟨i, g, h⟩ := Ac h
 refine nD (Af 1 I (nG [0] I (A5 [0] (aI a _ _ f) ?_)))
 refine Af 1 I (Cg (dB _ _ _ g) (Af 1 I (nE ?_)))
 obtain rfl := oi h
 exact nK ⟨.inr I, [_], [.arr a 88 2 1 [Cp e.2]], J1, Dn I (Cf), ⟨[.arr a 88 2 1 [Cp e.2]], [], I5⟩⟩
theorem Db (b : ByteArray) (a : Int) (r : ByteArray) (h : Jl b a = some r) : ACalls Am 40 [.v (.string b), .V a] [] (fun x new => x = .v (.string r) ∧ new = []) := by
 refine Ag Tryz.func40 rfl rfl rfl fun C hC => ?_
 unfold Jl at h
 refine Aq I (nH ?_)
 obtain ⟨g, d, h⟩ := Ac h
 obtain ⟨i, e, h⟩ := Ac h
 refine nD (Ap 4 [.f 2 (.V (a.tmod 26))] I ⟨Yp.yd (Lr (c := (a.tmod 26)) I I ⟨by decide, I⟩), J⟩ (Ck (gE (c := IntKind.u8.wrap (wr (97 + (a.tmod 26)))) I I I I I) I (nG [] I (nP (sz := 1) (es := ([IntKind.u8.wrap (wr (97 + (a.tmod 26)))] : List Int).map (rK .u8)) I I I I I I I I I I I dS fun j => nG [] I (dI 0 d I I I I I I I I dS (Ck (gF I I (fW e)) I (Af 1 I (nE (nM g0 ?_)))))))))
 obtain rfl := oi h
 exact nK pr
theorem An (a : Nat) (c : KS) (b : List Int) (r : Int × KS) (h : Em c b = some r) : ACalls Am 38 [.v (.pointer (some ⟨a, 0, none⟩)), .list 1 (b.map rI)] [.arr a 88 2 1 [Cp c]] (Gp 1 fun x os new => x = .V r.1 ∧ os = [.arr a 88 2 1 [Cp r.2]] ∧ new = []) := by
 refine Ag Tryz.func38 rfl rfl rfl fun C hC => ?_
 unfold Em at h
 refine Aq I (nH ?_)
 obtain ⟨d, f, h⟩ := Ac h
 obtain ⟨e, ⟨g, i⟩, h⟩ := Bk h
 refine nD (Ap 4 [.l 3 (b.length : Int)] I ⟨Bh, J⟩ (nG [0] I (A5 [0] (Dg a _ _ _ f) ?_)))
 refine Ap 3 [.x 0 e.1 (rI e.2)] I ⟨⟨g, Ah i⟩, J⟩ (nE ?_)
 obtain rfl := oi h
 exact nK ⟨.inr I, [_], [.arr a 88 2 1 [Cp d.2]], J1, Dn I (Cf), ⟨[.arr a 88 2 1 [Cp d.2]], [], I5⟩⟩
theorem Fb (a : Nat) (b : KS) (c : Int) (d : Int) (r : Int × KS) (h : G5 b c d = some r) : ACalls Am 39 [.v (.pointer (some ⟨a, 0, none⟩)), .V c, .V d] [.arr a 88 2 1 [Cp b]] (Gp 1 fun x os new => x = .V r.1 ∧ os = [.arr a 88 2 1 [Cp r.2]] ∧ new = []) := by
 refine Ag Tryz.func39 rfl rfl rfl fun C hC => ?_
 unfold G5 at h
 refine Aq I (nH ?_)
 obtain ⟨e, f, h⟩ := Ac h
 refine nD (Af 6 I (nG [0] I (A5 [0] (Dg a _ _ _ f) ?_)))
 refine Af 2 I (nE ?_)
 obtain rfl := oi h
 exact nK ⟨.inr I, [_], [.arr a 88 2 1 [Cp e.2]], J1, Dn I (Cf), ⟨[.arr a 88 2 1 [Cp e.2]], [], I5⟩⟩
theorem Ta (b : Nat) (Y : KS) (S : Int) (F : Int) (G : Int) (r : Segment × KS) (h : Mx Y S F G = some r) : ACalls Am 41 [.v (.pointer (some ⟨b, 0, none⟩)), .V S, .V F, .V G] [.arr b 88 2 1 [Cp Y]] (Gp 1 fun x os new => x = .agg (Ar r.1) ∧ os = [.arr b 88 2 1 [Cp r.2]] ∧ new = []) := by
 refine Ag Tryz.func41 rfl rfl rfl fun C hC => ?_
 unfold Mx at h
 refine Aa fun y1 aj => nD (nG [] I (nN (cs := [.v (.string ⟨#[]⟩), .V 0, .V 0, .V 0, .V 0, .V 0, .N]) (m := 7) I I I I I dS fun y => nE ?_))
 subst aj
 refine Al (fun s ob => ∃ (a : (List Int) × Int × Int × Int), Mx.J1 S a = some r ∧ s = [(2, .V a.2.2.1), (3, .V a.2.2.2)] ∧ ob = [.arr b 88 2 1 [[.list 1 (a.1.map rI), .V a.2.1]], .arr y 83 7 1 [[.v (.string ⟨#[]⟩), .V 0, .V 0, .V 0, .V 0, .V 0, .N]]]) [(0, _), (1, _), (8, _)] J3 ?_ ?_
 refine nH ?_
 obtain ⟨H, ak, h⟩ := Ac h
 refine nD (Af 1 I (nG [0] I (A5 [0] (Dg b _ _ _ ak) ?_)))
 refine Af 1 I (nE (Ay h I ?_ ?_))
 intro al h
 refine Pd I ?_
 exact lg ⟨(H.2.L_, H.2.At, G, F), h, I2⟩ [0, 1]
 intro al h
 refine nI ?_
 exact lg ⟨(H.2.L_, H.2.At, F, G), h, I2⟩ [0, 1]
 rintro s ob ⟨a, h, rfl, rfl⟩
 unfold Mx.J1 at h
 refine Aa fun y7 am => ?_
 obtain ⟨g, an, h⟩ := Ac h
 obtain ⟨e, ao, h⟩ := Ac h
 obtain ⟨i, aq, h⟩ := Ac h
 obtain ⟨j, ar, h⟩ := Ac h
 refine nD (Af 1 I (Cg (Db _ _ _ an) (Af 3 I (nG [] I (nR 1 (([1, 2, 7, 20, 60, 200, 1000] : List Int).map rI) (nG [0] I (A5 [0] (An b _ _ _ ao) ?_)))))))
 refine Af 1 I (nG [] I (nR 1 (([0, 1, 5, 1000] : List Int).map rI) (nG [0] I (A5 [0] (An b _ _ _ aq) ?_))))
 refine Af 1 I (nG [] I (nR 1 (([0, 50, 1000, 100000] : List Int).map rI) (nG [0] I (A5 [0] (An b _ _ _ ar) ?_))))
 refine Ck (Ao (l := [.v (.string g), .V a.2.2.1, .V a.2.2.2, .V e.1, .V i.1, .V j.1, .N]) Rk I) I (nG [] I (nN (cs := [.v (.string ⟨#[]⟩), .V 0, .V 0, .V 0, .V 0, .V 0, .N]) (m := 7) I I I I I dS fun M => nG [2] I (Ax 2 0 0 [[.v (.string g), .V a.2.2.1, .V a.2.2.2, .V e.1, .V i.1, .V j.1, .N]] I (nE ?_))))
 subst am
 refine Aa fun bd au => ?_
 obtain ⟨k, av, h⟩ := Ac h
 refine nD (Af 1 I (nG [] I (nR 1 (([1000000, 6000000, 100000000] : List Int).map rI) (nG [0] I (A5 [0] (An b _ _ _ av) ?_)))))
 refine Af 1 I (nE ?_)
 subst au
 refine Aa fun be aw => ?_
 obtain ⟨Z, ax, h⟩ := Ac h
 obtain ⟨bf, aa, h⟩ := Ac h
 refine Bw (sl 3 0 (.still 4 (.act 3 (.still 5 (.act 6 (.act 7 (.still 8 (.drop 9 .nil)))))))) [2] [_] I (By 4 [.o 1 0] I J1 (nF [0] I I I (A5 [0] (Fb b _ _ _ _ ax) ?_)))
 refine Cr I (Ao (l := [.V 0, .V Z.1, .V k.1]) Fv I) I (nF [] I I I (nR 3 (([(⟨0, Z.1, k.1⟩ : Point)] : List Point).map C2) (nF [] I I I (Rq I I I I I I I I (AppSrc.list I) (Vv (Eh aa).1) (Vu (Eh aa).2) dS fun ab => Bm 1 I (nL 3 I fun ay => nW [2] I I I (nU 2 0 6 (es' := [[.v (.string g), .V a.2.2.1, .V a.2.2.2, .V e.1, .V i.1, .V j.1, .v ab]]) I I I I I I (Ai ay) I (Bs I) I I (Ak (nE ?_))))))))
 subst aw
 refine Al (fun s ob => ∃ (A : (List Int) × Int × (List Point)) (U : Value), Mx.J2 a g e i j k A = some r ∧ s = [] ∧ ob = [.arr b 88 2 1 [[.list 1 (A.1.map rI), .V A.2.1]], .arr y 83 7 1 [[.v (.string ⟨#[]⟩), .V 0, .V 0, .V 0, .V 0, .V 0, .N]], .arr M 83 7 1 [[.v (.string g), .V a.2.2.1, .V a.2.2.2, .V e.1, .V i.1, .V j.1, .v U]], .us U 80 3 (A.2.2.map C2)]) [(0, _), (8, _), (9, _), (10, _)] J4 ?_ ?_
 refine Aq I (nJ ?_)
 obtain ⟨bg, az, ac⟩ := Ac h
 clear h
 refine Bz az [(0, _), (8, _), (9, _), (10, _)] J4 (fun (f : (List Int) × Int × (List Point) × Int) s ob => ∃ (n : Value), s = [(11, .V f.2.2.2)] ∧ ob = [.arr b 88 2 1 [[.list 1 (f.1.map rI), .V f.2.1]], .arr y 83 7 1 [[.v (.string ⟨#[]⟩), .V 0, .V 0, .V 0, .V 0, .V 0, .N]], .arr M 83 7 1 [[.v (.string g), .V a.2.2.1, .V a.2.2.2, .V e.1, .V i.1, .V j.1, .v n]], .us n 80 3 (f.2.2.1.map C2)]) ⟨ab, I2⟩ ⟨I, J⟩ ⟨[0, 1, 2, 3], I, by decide⟩ ?_
 rintro f a0 s ob ⟨n, rfl, rfl⟩ h ad
 unfold Mx.B3 at h
 refine Aa fun bh a1 => Al (fun s ob => ∃ (u : (List Int) × Int × Bool), Mx.J4 e k f u = some a0 ∧ s = [(51, .v (.bool u.2.2))] ∧ ob = [.arr b 88 2 1 [[.list 1 (u.1.map rI), .V u.2.1]], .arr y 83 7 1 [[.v (.string ⟨#[]⟩), .V 0, .V 0, .V 0, .V 0, .V 0, .N]], .arr M 83 7 1 [[.v (.string g), .V a.2.2.1, .V a.2.2.2, .V e.1, .V i.1, .V j.1, .v n]], .us n 80 3 (f.2.2.1.map C2)]) [(0, _), (8, _), (9, _), (10, _), (11, _)] J5 ?_ ?_
 rcases bt (decide ((f.2.2.1.length : Int) < 7)) with B | B
 replace h := B0 B h
 obtain ⟨W, a2, h⟩ := Ac h
 refine nD (Ap 2 [.o 1 2] I J1 (nS (Cn 3 I I I I) I (Af 2 I (Ad 47 I B (Af 1 I (Br I I I (nG [0] I (A5 [0] (Dg b _ _ _ a2) ?_))))))))
 refine Af 2 I (nE ?_)
 exact lg ⟨(W.2.L_, W.2.At, decide (W.1 > 0)), h, I2⟩ [0, 1, 2, 3]
 replace h := Ca B h
 refine nD (Ap 2 [.o 1 2] I J1 (nS (Cn 3 I I I I) I (Af 2 I (Ad 47 I B (Af 4 I (nE ?_))))))
 exact lg ⟨(f.1, f.2.1, false), h, I2⟩ [0, 1, 2, 3]
 rintro s ob ⟨u, h, rfl, rfl⟩
 unfold Mx.J4 at h
 refine Ay h I ?_ ?_
 intro a3 h
 refine nI ?_
 subst a1
 refine nJ (Aa fun bi a4 => ?_)
 obtain ⟨w, a5, h⟩ := Ac h
 refine nD (Af 2 I (nG [0] I (A5 [0] (Fb b _ _ _ _ a5) ?_)))
 refine Af 2 I (nE ?_)
 subst a4
 refine Aa fun bj a6 => Bu [.o 2 2] I J1 (Ay h I ?_ ?_)
 intro a7 h
 obtain rfl := ad _ (oi h).symm
 replace h := ac
 refine nO ?_
 exact lg ⟨(w.2.L_, w.2.At, f.2.2.1), n, h, I2⟩ [0, 1, 2, 3]
 intro a7 h
 refine nI ?_
 subst a6
 obtain ⟨O, ae, h⟩ := Ac h
 obtain ⟨P, af, h⟩ := Ac h
 obtain ⟨Q, ag, h⟩ := Ac h
 obtain ⟨bk, ah, h⟩ := Ac h
 refine Bw (sl 4 0 (.still 5 (.still 9 (.still 10 (.two 4 6 (.act 6 (.act 7 (.still 8 (.act 11 (sl 3 12 (.act 15 (.act 16 (.still 17 (.drop 18 .nil))))))))) (.act 4 (.act 7 (.still 8 (.act 11 (sl 3 12 (.act 15 (.act 16 (.still 17 (.drop 18 .nil)))))))))))))) [2] [_] I (By 7 [.o 1 0] I J1 (nT ?_ ?_))
 refine nF [0] I I I (A5 [0] (Fb b _ _ _ _ ae) ?_)
 refine nF [] I I I (nR 1 (([1, 1, 10] : List Int).map rI) (nF [0] I I I (A5 [0] (An b _ _ _ af) ?_)))
 refine Bm 1 I (nF [0] I I I (A5 [0] (Dg b _ _ _ ag) ?_))
 refine Bm 2 I (Cr I (Ao (l := [.V (wr (f.2.2.2 + w.1)), .V (wr (O.1 * P.1)), .V (wr (k.1 - (wr (Q.1 * 1000))))]) Fv I) I (nF [] I I I (nR 3 (([(⟨wr (f.2.2.2 + w.1), wr (O.1 * P.1), wr (k.1 - (wr (Q.1 * 1000)))⟩ : Point)] : List Point).map C2) (nF [3] I I I (Bf 3 I ah fun D => Bm 1 I (nL 3 I fun X => nW [2] I I I (nU 2 0 6 (es' := [[.v (.string g), .V a.2.2.1, .V a.2.2.2, .V e.1, .V i.1, .V j.1, .v D]]) I I I I I I (Ai X) I (Bs I) I I (Ak ?_))))))))
 obtain rfl := oi h
 refine nE ?_
 exact ⟨_, _, _, I, ⟨D, I2⟩, J5, [0, 1, 2, 3], I, by decide⟩
 refine nF [] I I I (nR 1 (([1, 1, 10] : List Int).map rI) (nF [0] I I I (A5 [0] (Fb b _ _ _ _ ae) ?_)))
 refine nF [0] I I I (A5 [0] (An b _ _ _ af) ?_)
 refine Bm 1 I (nF [0] I I I (A5 [0] (Dg b _ _ _ ag) ?_))
 refine Bm 2 I (Cr I (Ao (l := [.V (wr (f.2.2.2 + w.1)), .V (wr (O.1 * P.1)), .V (wr (k.1 - (wr (Q.1 * 1000))))]) Fv I) I (nF [] I I I (nR 3 (([(⟨wr (f.2.2.2 + w.1), wr (O.1 * P.1), wr (k.1 - (wr (Q.1 * 1000)))⟩ : Point)] : List Point).map C2) (nF [3] I I I (Bf 3 I ah fun D => Bm 1 I (nL 3 I fun X => nW [2] I I I (nU 2 0 6 (es' := [[.v (.string g), .V a.2.2.1, .V a.2.2.2, .V e.1, .V i.1, .V j.1, .v D]]) I I I I I I (Ai X) I (Bs I) I I (Ak ?_))))))))
 obtain rfl := oi h
 refine nE ?_
 exact ⟨_, _, _, I, ⟨D, I2⟩, J5, [0, 1, 2, 3], I, by decide⟩
 intro a3 h
 obtain rfl := ad _ (oi h).symm
 replace h := ac
 refine nO ?_
 exact lg ⟨(u.1, u.2.1, f.2.2.1), n, h, I2⟩ [0, 1, 2, 3]
 rintro s ob ⟨A, U, h, rfl, rfl⟩
 unfold Mx.J2 at h
 refine nH ?_
 obtain ⟨E, a8, h⟩ := Ac h
 obtain ⟨ai, a9, h⟩ := Ac h
 refine Bw (sl 5 0 (.still 6 (.act 5 (.still 7 (.act 8 (.act 9 (.still 10 (.drop 11 .nil)))))))) [2] [_] I (By 6 [.o 1 0, .o 3 0] I J2 (nF [0] I I I (A5 [0] (Fb b _ _ _ _ a8) ?_)))
 refine Cr I (Ao (l := [.V e.1, .V E.1, .V k.1]) Fv I) I (nF [] I I I (nR 3 (([(⟨e.1, E.1, k.1⟩ : Point)] : List Point).map C2) (nF [3] I I I (Bf 3 I a9 fun R => Bm 1 I (nL 3 I fun ba => nW [2] I I I (nU 2 0 6 (es' := [[.v (.string g), .V a.2.2.1, .V a.2.2.2, .V e.1, .V i.1, .V j.1, .v R]]) I I I I I I (Ai ba) I (Bs I) I I (Ak (nE (nH (nD (Ap 1 [.o 0 2] I J1 (nG [1] I (Ax 1 0 0 [[.v (.string g), .V a.2.2.1, .V a.2.2.2, .V e.1, .V i.1, .V j.1, .v R]] I (nE ?_))))))))))))))
 refine nM (A0 [3] (K := [.us R 80 3 (ai.map C2)]) I [] J (ob' := [.arr b 88 2 1 [Cp E.2], .arr y 83 7 1 [[.v (.string g), .V a.2.2.1, .V a.2.2.2, .V e.1, .V i.1, .V j.1, .list 3 (ai.map C2)]], .arr M 83 7 1 [[.v (.string g), .V a.2.2.1, .V a.2.2.2, .V e.1, .V i.1, .V j.1, .v R]]]) (.cons (.same _) (.cons (.arr (.cons (.refl _) (.cons (.refl _) (.cons (.refl _) (.cons (.refl _) (.cons (.refl _) (.cons (.refl _) (.cons (.us 0 I) (.rest _))))))))) (.rest _)))) (Cb [0, 1] I ?_)
 obtain rfl := oi h
 exact nK ⟨.inr I, [_], [.arr b 88 2 1 [Cp E.2]], ⟨⟨1, _, _, _, _, _, _, _, I5⟩, J⟩, Dn I (Cf), ⟨[.arr b 88 2 1 [Cp E.2]], [], I5⟩⟩
end Go.Proofs.YtmaamhgjeampmaaGreat
