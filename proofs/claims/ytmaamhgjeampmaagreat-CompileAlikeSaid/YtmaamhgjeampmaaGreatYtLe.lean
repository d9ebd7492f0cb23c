/- Walks that show what functions of the program compute; printed by a program of ours. No condition. -/
import Derived.Test.YtmaamhgjeampmaaGreatYtLc2
import Derived.Test.YtmaamhgjeampmaaGreatYtLd2
import Derived.Test.YtmaamhgjeampmaaGreatYtL4b
import Derived.Test.YtmaamhgjeampmaaGreatYtD
set_option maxRecDepth 100000
namespace Go.Proofs.YtmaamhgjeampmaaGreat
open Go.Aw
set_option linter.unusedVariables false
set_option linter.unusedSimpArgs false
set_option maxHeartbeats 4000000
theorem bB (a : List Int) (r : Bool) (h : K2 a = r) : ACalls Am 9 [.list 1 (a.map rI)] [] (fun x new => x = .v (.bool r) ∧ new = []) := by
 refine Ag Tryz.func9 rfl rfl rfl fun C hC => ?_
 unfold K2 at h
 refine Aq I (Bu [.l 1 (a.length : Int)] I ⟨Bh, J⟩ ?_)
 obtain rfl := h
 exact nK pr
theorem Kk (k : Desk) (r : Desk) (h : Iq k = some r) : ACalls Am 13 [.agg (A7 k)] [] (fun x new => x = .agg (A7 r) ∧ new = []) := by
 refine Ag Tryz.func13 rfl rfl rfl fun C hC => ?_
 unfold Iq at h
 refine Aa fun G u => nD (nG [] I (nQ (cs := A7 k) (m := 4) I I I dS fun l => nG [] I (nN (cs := [.N, .N, .N, .N]) (m := 4) I I I I I dS fun n => nE ?_)))
 subst u
 refine Aa fun H w => ?_
 obtain ⟨a, y, h⟩ := Ac h
 refine nD (Ap 1 [.o 0 0] I J1 (nG [] I (F9 I (.refl _) I I (.rest _) I (Hh _ _ y) dS (by rintro _ _ ⟨_, _, _, _, rfl, rfl⟩; exact ⟨rfl, by intro p hp; simp only [List.mem_cons, List.not_mem_nil, or_false] at hp; rcases hp with rfl | rfl | rfl | rfl <;> exact F8 fun _ => rfl⟩) ?_)))
 rintro _ _ ⟨b, c, e, f, rfl, rfl⟩
 refine nG [0] I (Ax 0 0 0 [[.v b, .v c, .v e, .v f]] I (nE ?_))
 subst w
 refine Al (fun s ob => ∃ (g : List Valve), Iq.J1 a g = some r ∧ s = [] ∧ ob = [.arr l 39 4 1 [[.v b, .v c, .v e, .v f]], .arr n 39 4 1 [[.N, .N, .N, .N]], .us b 74 4 (g.map Au), .us c 3 1 (a.Plan.Rates.map rI), .us e 3 1 (a.Plan.Ports.map rI), .us f 4 1 (a.Plan.Pumps.map rB)]) [(1, _), (2, _)] J2 ?_ ?_
 refine Aq I (nJ ?_)
 obtain ⟨M, A, B⟩ := Ac h
 clear h
 refine Bz A [(1, _), (2, _)] J2 (fun (j : (List Valve) × Int) s ob => s = [(3, .V j.2)] ∧ ob = [.arr l 39 4 1 [[.v b, .v c, .v e, .v f]], .arr n 39 4 1 [[.N, .N, .N, .N]], .us b 74 4 (j.1.map Au), .us c 3 1 (a.Plan.Rates.map rI), .us e 3 1 (a.Plan.Ports.map rI), .us f 4 1 (a.Plan.Pumps.map rB)]) ⟨I, I⟩ ⟨I, J⟩ ⟨[0, 1, 2, 3, 4, 5], I, by decide⟩ ?_
 rintro j O s ob ⟨rfl, rfl⟩ h D
 unfold Iq.B2 at h
 refine nH (nH (nD (Ap 3 [.o 2 0] I J1 (nS (Cn 2 I I I I) I (Af 1 I (nE (Ay h I ?_ ?_)))))))
 intro E h
 refine nI (nH (nJ ?_))
 obtain ⟨i, ⟨F, t⟩, h⟩ := Bk h
 refine nD (Ap 3 [.o 1 0] I J1 (nS (Bi 2 (m := i.1) I I I I I I I F (Ah t)) I (Af 1 I (nG [2] I (Ci 2 i.1 3 I I I (Ah t) I I I I (Bs I) I (Dp (x := (⟨i.2.Travel, i.2.Open, i.2.Want, false⟩ : Valve)) I) (nE (nD (Af 3 I ?_))))))))
 obtain rfl := oi h
 refine nE ?_
 exact ⟨_, _, _, I, I2, J3, [0, 1, 2, 3, 4, 5], I, by decide⟩
 intro E h
 obtain rfl := D _ (oi h).symm
 replace h := B
 refine nO ?_
 exact lg ⟨j.1, h, I2⟩ [0, 1, 2, 3, 4, 5]
 rintro s ob ⟨g, h, rfl, rfl⟩
 unfold Iq.J1 at h
 refine nH (nD (Ap 1 [.o 0 0] I J1 (nG [1] I (Ax 1 0 0 [[.v b, .v c, .v e, .v f]] I (nE (nM (A0 [2, 3, 4, 5] (K := [.us b 74 4 (g.map Au), .us c 3 1 (a.Plan.Rates.map rI), .us e 3 1 (a.Plan.Ports.map rI), .us f 4 1 (a.Plan.Pumps.map rB)]) I [] J (ob' := [.arr l 39 4 1 [[.v b, .v c, .v e, .v f]], .arr n 39 4 1 [[.list 4 (g.map Au), .list 1 (a.Plan.Rates.map rI), .list 1 (a.Plan.Ports.map rI), .list 1 (a.Plan.Pumps.map rB)]]]) (.cons (.same _) (.cons (.arr (.cons (.us 0 I) (.cons (.us 1 I) (.cons (.us 2 I) (.cons (.us 3 I) (.rest _)))))) (.rest _)))) (Cb [1] I ?_)))))))
 obtain rfl := oi h
 exact nK ⟨.inr I, [_], [], ⟨⟨0, _, _, _, _, _, _, _, I5⟩, J⟩, Cf, I2⟩
theorem Tt (k : Network) (u : Plan) (r : Plan) (h : Ns k u = some r) : ACalls Am 43 [.agg (Ab k), .agg (As u)] [] (fun x new => x = .agg (As r) ∧ new = []) := by
 refine Ag Tryz.func43 rfl rfl rfl fun C hC => ?_
 unfold Ns at h
 refine Aa fun y1 P => nD (nG [] I (nQ (cs := Ab k) (m := 6) I I I dS fun H => nG [] I (nQ (cs := As u) (m := 3) I I I dS fun M => nG [] I (nN (cs := [.N, .N, .N]) (m := 3) I I I I I dS fun D => nE ?_))))
 subst P
 refine Aa fun y5 Q => ?_
 obtain ⟨f, R, h⟩ := Ac h
 refine nD (Ap 1 [.o 0 1] I J1 (nG [] I (F9 I (.refl _) I I (.rest _) I (Ro _ _ R) dS (by rintro _ _ ⟨_, _, _, rfl, rfl⟩; exact ⟨rfl, by intro p hp; simp only [List.mem_cons, List.not_mem_nil, or_false] at hp; rcases hp with rfl | rfl | rfl <;> exact F8 fun _ => rfl⟩) ?_)))
 rintro _ _ ⟨g, i, j, rfl, rfl⟩
 refine nG [] I (nN (cs := [.N, .N, .N]) (m := 3) I I I I I dS fun E => nG [6] I (Ax 6 0 0 [[.v g, .v i, .v j]] I (nE ?_)))
 subst Q
 refine Al (fun s ob => ∃ (w : List Bool), Ns.J1 f w = some r ∧ s = [] ∧ ob = [.arr D 37 3 1 [[.N, .N, .N]], .us g 3 1 (f.Rates.map rI), .us i 3 1 (f.Ports.map rI), .us j 4 1 (w.map rB), .arr E 37 3 1 [[.v g, .v i, .v j]]]) [(4, _), (5, _)] J2 ?_ ?_
 refine Aq I (nJ ?_)
 obtain ⟨am, S, U⟩ := Ac h
 clear h
 refine Bz S [(2, _), (3, _), (4, _), (5, _)] J4 (fun (e : (List Bool) × Int) s ob => s = [(6, .V e.2)] ∧ ob = [.arr H 32 6 1 [Ab k], .arr M 37 3 1 [As u], .arr D 37 3 1 [[.N, .N, .N]], .us g 3 1 (f.Rates.map rI), .us i 3 1 (f.Ports.map rI), .us j 4 1 (e.1.map rB), .arr E 37 3 1 [[.v g, .v i, .v j]]]) ⟨I, I⟩ ⟨I, J⟩ ⟨[0, 1, 2, 3, 4, 5, 6], I, by decide⟩ ?_
 rintro e W s ob ⟨rfl, rfl⟩ h X
 unfold Ns.B2 at h
 refine Aa fun an Y => Dt 22 (decide (e.2 < (k.Stations.length : Int)) && decide (e.2 < (e.1.length : Int))) ?_ ?_
 refine nD (Ap 6 [.o 2 0, .l 3 (k.Stations.length : Int)] I ⟨Bh, I, J⟩ ?_)
 rcases bt (decide (e.2 < (k.Stations.length : Int))) with A | A
 refine Ad 16 I A (Ap 3 [.o 2 6] I J1 (Br I I I (nS (Cn 5 I I I I) I (Af 2 I (nE ?_)))))
 exact jf (by simp only [A, bz]) I I I2
 refine Ad 16 I A (Af 6 I (nE ?_))
 exact jf (by simp only [A, bz]) I I I2
 refine Ay h I ?_ ?_
 intro Z h
 refine nI ?_
 subst Y
 refine Al (fun s ob => ∃ (F : List Bool), Ns.J3 e F = some W ∧ s = [] ∧ ob = [.arr H 32 6 1 [Ab k], .arr M 37 3 1 [As u], .arr D 37 3 1 [[.N, .N, .N]], .us g 3 1 (f.Rates.map rI), .us i 3 1 (f.Ports.map rI), .us j 4 1 (F.map rB), .arr E 37 3 1 [[.v g, .v i, .v j]]]) [(2, _), (3, _), (4, _), (5, _), (6, _)] J5 ?_ ?_
 refine nJ (Aa fun ao aa => ?_)
 obtain ⟨O, ⟨ab, ac⟩, h⟩ := Bk h
 obtain ⟨G, ad, h⟩ := Ac h
 refine Bw (pd 14 0 [8]) [0, 1] [_, _] I (By 8 [.o 0 0, .o 1 1, .o 3 0, .x 5 O.1 (A4 O.2)] I ⟨⟨ab, Ah ac⟩, I, I, I, J⟩ (Ee I (Tr _ _ _ _ ad) (Bm 5 I (Ak (nE ?_)))))
 subst aa
 obtain ⟨a, ⟨n, b⟩, h⟩ := Bk h
 rcases bt (a.2) with t | t
 replace h := B0 t h
 rcases bt ((G.2 == 0)) with B | B
 replace h := B0 B h
 refine Ce 5 a.1 I b fun ae => Ce 5 a.1 I b fun af => Bw (sl 17 0 (.drop 17 .nil)) [6, 5] [_, _] I (By 6 [.o 1 0, .o 4 0] I J2 (nV I (Bl (m := a.1) I I I I I ae I n b) I (AP.o I (Ba 1 a.1 0 I I I (Ah b) I (y := .v (.bool a.2)) I) I (Bm 1 I (Bq 45 I t (Bm 4 I (Bq 49 I B (Bm 3 I (nV I (Bl (m := a.1) I I I I I af I n b) I (nW [5] I I I (Ci 5 a.1 0 I I I (Ah b) I I I I (Bs I) I (Dp (x := decide (G.1 > 0)) I) ?_)))))))))))
 refine Ak (nE ?_)
 exact lg ⟨(e.1.set a.1 (decide (G.1 > 0))), h, I2⟩ [0, 1, 2, 3, 4, 5, 6]
 replace h := Ca B h
 refine Ce 5 a.1 I b fun ag => Ce 5 a.1 I b fun ah => Bw (sl 17 0 (.drop 17 .nil)) [6, 5] [_, _] I (By 6 [.o 1 0, .o 4 0] I J2 (nV I (Bl (m := a.1) I I I I I ag I n b) I (AP.o I (Ba 1 a.1 0 I I I (Ah b) I (y := .v (.bool a.2)) I) I (Bm 1 I (Bq 45 I t (Bm 4 I (Bq 49 I B (Bm 3 I (nV I (Bl (m := a.1) I I I I I ah I n b) I (nW [5] I I I (Ci 5 a.1 0 I I I (Ah b) I I I I (Bs I) I (Dp (x := false) I) ?_)))))))))))
 refine Ak (nE ?_)
 exact lg ⟨(e.1.set a.1 false), h, I2⟩ [0, 1, 2, 3, 4, 5, 6]
 replace h := Ca t h
 refine Ce 5 a.1 I b fun ai => Ce 5 a.1 I b fun aj => Bw (sl 17 0 (.drop 17 .nil)) [6, 5] [_, _] I (By 6 [.o 1 0, .o 4 0] I J2 (nV I (Bl (m := a.1) I I I I I ai I n b) I (AP.o I (Ba 1 a.1 0 I I I (Ah b) I (y := .v (.bool a.2)) I) I (Bm 1 I (Bq 45 I t (Bm 7 I (nV I (Bl (m := a.1) I I I I I aj I n b) I (nW [5] I I I (Ci 5 a.1 0 I I I (Ah b) I I I I (Bs I) I (Dp (x := false) I) (Ak (nE ?_)))))))))))
 exact lg ⟨(e.1.set a.1 false), h, I2⟩ [0, 1, 2, 3, 4, 5, 6]
 rintro s ob ⟨F, h, rfl, rfl⟩
 unfold Ns.J3 at h
 refine nD (Af 3 I ?_)
 obtain rfl := oi h
 refine nE ?_
 exact ⟨_, _, _, I, I2, J5, [0, 1, 2, 3, 4, 5, 6], I, by decide⟩
 intro Z h
 obtain rfl := X _ (oi h).symm
 replace h := U
 refine nO ?_
 exact lg ⟨e.1, h, I2⟩ [2, 3, 4, 5, 6]
 rintro s ob ⟨w, h, rfl, rfl⟩
 unfold Ns.J1 at h
 refine nH (nD (Ap 1 [.o 0 4] I J1 (nG [0] I (Ax 0 0 0 [[.v g, .v i, .v j]] I (nE (nM (A0 [1, 2, 3] (K := [.us g 3 1 (f.Rates.map rI), .us i 3 1 (f.Ports.map rI), .us j 4 1 (w.map rB)]) I [] J (ob' := [.arr D 37 3 1 [[.list 1 (f.Rates.map rI), .list 1 (f.Ports.map rI), .list 1 (w.map rB)]], .arr E 37 3 1 [[.v g, .v i, .v j]]]) (.cons (.arr (.cons (.us 0 I) (.cons (.us 1 I) (.cons (.us 2 I) (.rest _))))) (.rest _))) (Cb [0] I ?_)))))))
 obtain rfl := oi h
 exact nK ⟨.inr I, [_], [], ⟨⟨0, _, _, _, _, _, _, _, I5⟩, J⟩, Cf, I2⟩
theorem Om (a : Nat) (c : KS) (b : Network) (r : Plan × KS) (h : Fp c b = some r) : ACalls Am 15 [.v (.pointer (some ⟨a, 0, none⟩)), .agg (Ab b)] [.arr a 88 2 1 [Cp c]] (Gp 1 fun x os new => x = .agg (As r.1) ∧ os = [.arr a 88 2 1 [Cp r.2]] ∧ new = []) := by
 refine Ag Tryz.func15 rfl rfl rfl fun C hC => ?_
 unfold Fp at h
 refine nH (nD (nG [] I (nQ (cs := Ab b) (m := 6) I I I dS fun i => nG [] I (nN (cs := [.N, .N, .N]) (m := 3) I I I I I dS fun j => nE (nH ?_)))))
 obtain ⟨d, e, h⟩ := Ac h
 obtain ⟨f, g, h⟩ := Ac h
 refine Bw (pd 6 0 [3, 4, 5]) [1] [_] I (By 3 [.o 0 0, .o 2 0] I J2 (nF [0] I I I (A5 [0] (bV a _ _ _ e) ?_)))
 refine nF [] I I I (Bp I I I (Tt _ _ _ g) dS ?_)
 rintro _ _ ⟨rfl, rfl⟩
 refine nF [2] I I I (Ax 2 0 0 [As f] I (Ak (nE (Cb [0, 2] I ?_))))
 obtain rfl := oi h
 exact nK ⟨.inr I, [_], [.arr a 88 2 1 [Cp d.2]], ⟨⟨1, _, _, _, _, _, _, _, I5⟩, J⟩, Dn I (Cf), ⟨[.arr a 88 2 1 [Cp d.2]], [], I5⟩⟩
theorem aR (a : Nat) (f : KS) (r : Valve × KS) (h : Pw f = some r) : ACalls Am 46 [.v (.pointer (some ⟨a, 0, none⟩))] [.arr a 88 2 1 [Cp f]] (Gp 1 fun x os new => x = .agg (Au r.1) ∧ os = [.arr a 88 2 1 [Cp r.2]] ∧ new = []) := by
 refine Ag Tryz.func46 rfl rfl rfl fun C hC => ?_
 unfold Pw at h
 refine Aa fun w g => nD (nG [] I (nN (cs := [.V 0, .V 0, .v (.bool false), .v (.bool false)]) (m := 4) I I I I I dS fun y => nE ?_))
 subst g
 refine Aa fun z i => ?_
 obtain ⟨b, j, h⟩ := Ac h
 obtain ⟨c, k, h⟩ := Ac h
 obtain ⟨d, n, h⟩ := Ac h
 refine nD (Af 1 I (nG [] I (nR 1 (([1, 2, 3, 6, 60] : List Int).map rI) (nG [0] I (A5 [0] (An a _ _ _ j) ?_)))))
 refine Af 1 I (nG [0] I (A5 [0] (Dg a _ _ _ k) ?_))
 refine Af 2 I (nG [0] I (A5 [0] (Dg a _ _ _ n) ?_))
 refine Af 1 I (Ck (Ao (l := [.V b.1, .V 0, .v (.bool (c.1 == 0)), .v (.bool (d.1 == 7))]) Rl I) I (nG [] I (nN (cs := [.V 0, .V 0, .v (.bool false), .v (.bool false)]) (m := 4) I I I I I dS fun A => nG [2] I (Ax 2 0 0 [[.V b.1, .V 0, .v (.bool (c.1 == 0)), .v (.bool (d.1 == 7))]] I (nE ?_)))))
 subst i
 refine nH ?_
 obtain ⟨s, t, h⟩ := Ac h
 obtain ⟨e, u, h⟩ := Ac h
 refine Bw (sl 7 0 (.act 7 (.act 8 (.act 9 (.still 10 (.drop 11 .nil)))))) [2] [_] I (By 7 [.o 2 0, .o 5 0] I J2 (nF [0] I I I (A5 [0] (Dg a _ _ _ t) ?_)))
 refine nF [] I I I (nR 1 (([0, b.1, s.1] : List Int).map rI) (nF [0] I I I (A5 [0] (An a _ _ _ u) ?_)))
 refine Bm 1 I (nW [2] I I I (Ax 2 0 1 [[.V b.1, .V e.1, .v (.bool (c.1 == 0)), .v (.bool (d.1 == 7))]] I (Ak (nE (nH (nD (Ap 1 [.o 0 2] I J1 (nG [1] I (Ax 1 0 0 [[.V b.1, .V e.1, .v (.bool (c.1 == 0)), .v (.bool (d.1 == 7))]] I (nE (Cb [0, 1] I ?_)))))))))))
 obtain rfl := oi h
 exact nK ⟨.inr I, [_], [.arr a 88 2 1 [Cp e.2]], ⟨⟨1, _, _, _, _, _, _, _, I5⟩, J⟩, Dn I (Cf), ⟨[.arr a 88 2 1 [Cp e.2]], [], I5⟩⟩
theorem Og (e : Nat) (A : KS) (t : Network) (u : Plan) (r : Desk × KS) (h : Ip A t u = some r) : ACalls Am 14 [.v (.pointer (some ⟨e, 0, none⟩)), .agg (Ab t), .agg (As u)] [.arr e 88 2 1 [Cp A]] (Gp 1 fun x os new => x = .agg (A7 r.1) ∧ os = [.arr e 88 2 1 [Cp r.2]] ∧ new = []) := by
 refine Ag Tryz.func14 rfl rfl rfl fun C hC => ?_
 unfold Ip at h
 refine Aa fun y1 G => nD (nG [] I (nQ (cs := Ab t) (m := 6) I I I dS fun b2 => nG [] I (nQ (cs := As u) (m := 3) I I I dS fun b3 => nG [] I (nN (cs := [.N, .N, .N, .N]) (m := 4) I I I I I dS fun k => nE ?_))))
 subst G
 refine Aa fun y5 H => ?_
 obtain ⟨a, M, h⟩ := Ac h
 refine nD (Ap 2 [.o 0 1, .o 1 2] I J2 (nG [] I (Bp I I I (Tt _ _ _ M) dS ?_)))
 rintro _ _ ⟨rfl, rfl⟩
 refine Ck (Ao (l := [.N, .list 1 (a.Rates.map rI), .list 1 (a.Ports.map rI), .list 1 (a.Pumps.map rB)]) C4 I) I (nG [] I (nN (cs := [.N, .N, .N, .N]) (m := 4) I I I I I dS fun n => nG [4] I (Ax 4 0 0 [[.N, .list 1 (a.Rates.map rI), .list 1 (a.Ports.map rI), .list 1 (a.Pumps.map rB)]] I (nE ?_))))
 subst H
 refine Aa fun y9 O => ?_
 obtain ⟨al, P, h⟩ := Ac h
 obtain ⟨B, Q, h⟩ := Ac h
 refine nD (Af 1 I (nS (Bx 4 0 1 I I I I I (y := .agg (As a)) I) I (nG [] I (Bp I I I (Oe _ _ P) dS ?_))))
 rintro _ _ ⟨rfl, rfl⟩
 refine nG [] I (Bp I I I (Ol _ _ Q) dS ?_)
 rintro _ _ ⟨D, rfl, rfl⟩
 refine Af 1 I (nE ?_)
 subst O
 refine Al (fun s ob => ∃ (c : (List Int) × Int × (List Valve)) (g : Value), Ip.J1 a c = some r ∧ s = [] ∧ ob = [.arr e 88 2 1 [[.list 1 (c.1.map rI), .V c.2.1]], .arr k 39 4 1 [[.N, .N, .N, .N]], .arr n 39 4 1 [[.v g, .list 1 (a.Rates.map rI), .list 1 (a.Ports.map rI), .list 1 (a.Pumps.map rB)]], .us g 74 4 (c.2.2.map Au)]) [(6, _), (7, _)] J2 ?_ ?_
 refine Aq I (nJ (nM (Bo 74 4) ?_))
 obtain ⟨am, R, S⟩ := Ac h
 clear h
 refine Bz R [(0, _), (6, _), (7, _), (8, _)] J4 (fun (f : (List Int) × Int × (List Valve) × Int) s ob => ∃ (i : Value), s = [(9, .V f.2.2.2)] ∧ ob = [.arr e 88 2 1 [[.list 1 (f.1.map rI), .V f.2.1]], .arr k 39 4 1 [[.N, .N, .N, .N]], .arr n 39 4 1 [[.v i, .list 1 (a.Rates.map rI), .list 1 (a.Ports.map rI), .list 1 (a.Pumps.map rB)]], .us D 4 1 (B.map rB), .us i 74 4 (f.2.2.1.map Au)]) ⟨(.slice none 0 0), I2⟩ ⟨I, J⟩ ⟨[0, 3, 4, 5, 6], I, by decide⟩ ?_
 rintro f U s ob ⟨i, rfl, rfl⟩ h W
 unfold Ip.B2 at h
 refine Aa fun an X => nH (nD (Af 2 I (nS (Cn 3 I I I I) I (Af 1 I (nE (Ay h I ?_ ?_))))))
 intro Y h
 refine nI ?_
 subst X
 refine nH (nJ (Aa fun ao Z => ?_))
 obtain ⟨b, aa, h⟩ := Ac h
 refine nD (Af 1 I (nG [0] I (A5 [0] (aR e _ _ aa) ?_)))
 refine nG [] I (nN (cs := [.V 0, .V 0, .v (.bool false), .v (.bool false)]) (m := 4) I I I I I dS fun ab => nG [5] I (Ax 5 0 0 [Au b.1] I (nE ?_)))
 subst Z
 refine Al (fun s ob => ∃ (j : Int × Bool), Ip.J3 f b j = some U ∧ s = [] ∧ ob = [.arr e 88 2 1 [Cp b.2], .arr k 39 4 1 [[.N, .N, .N, .N]], .arr n 39 4 1 [[.v i, .list 1 (a.Rates.map rI), .list 1 (a.Ports.map rI), .list 1 (a.Pumps.map rB)]], .us D 4 1 (B.map rB), .us i 74 4 (f.2.2.1.map Au), .arr ab 74 4 1 [[.V b.1.Travel, .V j.1, .v (.bool j.2), .v (.bool b.1.Stuck)]]]) [(0, _), (6, _), (7, _), (8, _), (9, _), (10, _)] J6 ?_ ?_
 refine nH ?_
 obtain ⟨w, ⟨ac, E⟩, h⟩ := Bk h
 refine nD (Af 2 I (nS (Bi 3 (m := w.1) I I I I I I I ac (Ah E)) I (nS (Ba 3 w.1 0 I I I (Ah E) I (y := .v (.bool w.2)) I) I (nE (Ay h I ?_ ?_)))))
 intro ad h
 refine nD (Ap 3 [.o 1 5] I J1 (nG [5] I (Ax 5 0 1 [[.V b.1.Travel, .V b.1.Travel, .v (.bool b.1.Want), .v (.bool b.1.Stuck)]] I (Af 1 I (nG [5] I (Ax 5 0 2 [[.V b.1.Travel, .V b.1.Travel, .v (.bool true), .v (.bool b.1.Stuck)]] I (nE ?_)))))))
 exact lg ⟨(b.1.Travel, true), h, I2⟩ [0, 1, 2, 3, 4, 5]
 intro ad h
 refine nI ?_
 exact lg ⟨(b.1.Open, b.1.Want), h, I2⟩ [0, 1, 2, 3, 4, 5]
 rintro s ob ⟨j, h, rfl, rfl⟩
 unfold Ip.J3 at h
 obtain ⟨aq, ae, h⟩ := Ac h
 refine nD (Ap 3 [.o 1 2, .o 2 5] I J2 (nG [] I (nR 4 (([(⟨b.1.Travel, j.1, j.2, b.1.Stuck⟩ : Valve)] : List Valve).map Au) (nG [4] I (Bf 4 I ae fun F => Af 1 I (nZ 4 I fun af => nG [2] I (nU 2 0 0 (es' := [[.v F, .list 1 (a.Rates.map rI), .list 1 (a.Ports.map rI), .list 1 (a.Pumps.map rB)]]) I I I I I I (Ai af) I (Bs I) I I (nE (nD (Af 3 I ?_))))))))))
 obtain rfl := oi h
 refine nE ?_
 exact ⟨_, _, _, I, ⟨F, I2⟩, J5, [0, 1, 2, 3, 4], I, by decide⟩
 intro Y h
 obtain rfl := W _ (oi h).symm
 replace h := S
 refine nO ?_
 exact lg ⟨(f.1, f.2.1, f.2.2.1), i, h, I2⟩ [0, 1, 2, 4]
 rintro s ob ⟨c, g, h, rfl, rfl⟩
 unfold Ip.J1 at h
 refine nH (nD (Ap 1 [.o 0 2] I J1 (nG [1] I (Ax 1 0 0 [[.v g, .list 1 (a.Rates.map rI), .list 1 (a.Ports.map rI), .list 1 (a.Pumps.map rB)]] I (nE (nM (A0 [3] (K := [.us g 74 4 (c.2.2.map Au)]) I [] J (ob' := [.arr e 88 2 1 [[.list 1 (c.1.map rI), .V c.2.1]], .arr k 39 4 1 [[.list 4 (c.2.2.map Au), .list 1 (a.Rates.map rI), .list 1 (a.Ports.map rI), .list 1 (a.Pumps.map rB)]], .arr n 39 4 1 [[.v g, .list 1 (a.Rates.map rI), .list 1 (a.Ports.map rI), .list 1 (a.Pumps.map rB)]]]) (.cons (.same _) (.cons (.arr (.cons (.us 0 I) (.rest _))) (.rest _)))) (Cb [0, 1] I ?_)))))))
 obtain rfl := oi h
 exact nK ⟨.inr I, [_], [.arr e 88 2 1 [[.list 1 (c.1.map rI), .V c.2.1]]], ⟨⟨1, _, _, _, _, _, _, _, I5⟩, J⟩, Dn I (Cf), ⟨[.arr e 88 2 1 [[.list 1 (c.1.map rI), .V c.2.1]]], [], I5⟩⟩
theorem Ti  (r : Bool) (h : Eu = some r) : ACalls Am 10 [] [] (fun x new => x = .v (.bool r) ∧ new = []) := by
 refine Ag Tryz.func10 rfl rfl rfl fun C hC => ?_
 unfold Eu at h
 refine Aq I (Aa fun y2 S => nD (nG [] I (nP (sz := 1) (es := ([(⟨#[97]⟩ : ByteArray), (⟨#[98]⟩ : ByteArray)] : List ByteArray).map rS) I I I I I I I I I I I dS fun w => Ck (Ao (l := [.V 0, .V 0, .V 1000]) Fv I) I (Ck (Ao (l := [.V 10, .V 0, .V 1000]) Fv I) I (nG [] I (nP (sz := 3) (es := ([(⟨0, 0, 1000⟩ : Point), (⟨10, 0, 1000⟩ : Point)] : List Point).map C2) I I I I I I I I I I I dS fun G => nZ 1 I fun U => Ck (Ao (l := [.v (.string (⟨#[103]⟩ : ByteArray)), .V 0, .V 1, .V 10, .V 0, .V 0, .v G]) Rk (Ae I I I I (Ae I I I I (Ae I I I I (Ae I I I I (Ae I I (Ai U) I (A8))))))) I (oA (A0 [1] (K := [.us G 80 3 (([(⟨0, 0, 1000⟩ : Point), (⟨10, 0, 1000⟩ : Point)] : List Point).map C2)]) I [(9, .list 3 (([(⟨0, 0, 1000⟩ : Point), (⟨10, 0, 1000⟩ : Point)] : List Point).map C2)), (10, .agg [.v (.string (⟨#[103]⟩ : ByteArray)), .V 0, .V 1, .V 10, .V 0, .V 0, .list 3 (([(⟨0, 0, 1000⟩ : Point), (⟨10, 0, 1000⟩ : Point)] : List Point).map C2)])] ⟨⟨_, I, .us 0 I⟩, ⟨_, I, .agg (.cons (.refl _) (.cons (.refl _) (.cons (.refl _) (.cons (.refl _) (.cons (.refl _) (.cons (.refl _) (.cons (.us 0 I) (.rest _))))))))⟩, J⟩ (ob' := [.us w 9 1 (([(⟨#[97]⟩ : ByteArray), (⟨#[98]⟩ : ByteArray)] : List ByteArray).map rS)]) (.rest _)) ?_)))))))
 refine nG [] I (nP (sz := 7) (es := ([(⟨(⟨#[103]⟩ : ByteArray), 0, 1, 10, 0, 0, ([(⟨0, 0, 1000⟩ : Point), (⟨10, 0, 1000⟩ : Point)] : List Point)⟩ : Segment)] : List Segment).map Ar) I I I I I I I I I I I dS fun B => Ck (Ao (l := [.v (.string (⟨#[112]⟩ : ByteArray)), .V 0, .V 0]) I0 I) I (Ck (Ao (l := [.v (.string (⟨#[113]⟩ : ByteArray)), .V 1, .V 0]) I0 I) I (nG [] I (nP (sz := 3) (es := ([(⟨(⟨#[112]⟩ : ByteArray), 0, 0⟩ : Port), (⟨(⟨#[113]⟩ : ByteArray), 1, 0⟩ : Port)] : List Port).map Bj) I I I I I I I I I I I dS fun D => nZ 0 I fun W => nZ 1 I fun X => nZ 2 I fun Y => Ck (Ao (l := [.v w, .v B, .v D, .N, .V 0, .V 0]) Rn (Ae I I (Ai W) I (Ae I I (Ai X) I (Ae I I (Ai Y) I (A8))))) I (nG [] I (nN (cs := [.N, .N, .N, .N, .V 0, .V 0]) (m := 6) I I I I I dS fun H => nG [3] I (Ax 3 0 0 [[.v w, .v B, .v D, .N, .V 0, .V 0]] I (nE ?_))))))))
 subst S
 refine Aa fun y8 Z => ?_
 obtain ⟨M, aa, h⟩ := Ac h
 refine nD (Ap 1 [.o 0 3] I J1 (oA (A0 [0, 1, 2] (K := [.us w 9 1 (([(⟨#[97]⟩ : ByteArray), (⟨#[98]⟩ : ByteArray)] : List ByteArray).map rS), .us B 83 7 (([(⟨(⟨#[103]⟩ : ByteArray), 0, 1, 10, 0, 0, ([(⟨0, 0, 1000⟩ : Point), (⟨10, 0, 1000⟩ : Point)] : List Point)⟩ : Segment)] : List Segment).map Ar), .us D 85 3 (([(⟨(⟨#[112]⟩ : ByteArray), 0, 0⟩ : Port), (⟨(⟨#[113]⟩ : ByteArray), 1, 0⟩ : Port)] : List Port).map Bj)]) I [(6, .list 1 (([(⟨#[97]⟩ : ByteArray), (⟨#[98]⟩ : ByteArray)] : List ByteArray).map rS)), (11, .list 7 (([(⟨(⟨#[103]⟩ : ByteArray), 0, 1, 10, 0, 0, ([(⟨0, 0, 1000⟩ : Point), (⟨10, 0, 1000⟩ : Point)] : List Point)⟩ : Segment)] : List Segment).map Ar)), (14, .list 3 (([(⟨(⟨#[112]⟩ : ByteArray), 0, 0⟩ : Port), (⟨(⟨#[113]⟩ : ByteArray), 1, 0⟩ : Port)] : List Port).map Bj)), (15, .agg [.list 1 (([(⟨#[97]⟩ : ByteArray), (⟨#[98]⟩ : ByteArray)] : List ByteArray).map rS), .list 7 (([(⟨(⟨#[103]⟩ : ByteArray), 0, 1, 10, 0, 0, ([(⟨0, 0, 1000⟩ : Point), (⟨10, 0, 1000⟩ : Point)] : List Point)⟩ : Segment)] : List Segment).map Ar), .list 3 (([(⟨(⟨#[112]⟩ : ByteArray), 0, 0⟩ : Port), (⟨(⟨#[113]⟩ : ByteArray), 1, 0⟩ : Port)] : List Port).map Bj), .list 5 ([].map A4), .V 0, .V 0]), (17, .agg [.list 1 (([(⟨#[97]⟩ : ByteArray), (⟨#[98]⟩ : ByteArray)] : List ByteArray).map rS), .list 7 (([(⟨(⟨#[103]⟩ : ByteArray), 0, 1, 10, 0, 0, ([(⟨0, 0, 1000⟩ : Point), (⟨10, 0, 1000⟩ : Point)] : List Point)⟩ : Segment)] : List Segment).map Ar), .list 3 (([(⟨(⟨#[112]⟩ : ByteArray), 0, 0⟩ : Port), (⟨(⟨#[113]⟩ : ByteArray), 1, 0⟩ : Port)] : List Port).map Bj), .list 5 ([].map A4), .V 0, .V 0])] ⟨⟨_, I, .us 0 I⟩, ⟨_, I, .us 1 I⟩, ⟨_, I, .us 2 I⟩, ⟨_, I, .agg (.cons (.us 0 I) (.cons (.us 1 I) (.cons (.us 2 I) (.cons (.nil _) (.rest _)))))⟩, ⟨_, I, .agg (.cons (.us 0 I) (.cons (.us 1 I) (.cons (.us 2 I) (.cons (.nil _) (.rest _)))))⟩, J⟩ (ob' := [.arr H 32 6 1 [[.list 1 (([(⟨#[97]⟩ : ByteArray), (⟨#[98]⟩ : ByteArray)] : List ByteArray).map rS), .list 7 (([(⟨(⟨#[103]⟩ : ByteArray), 0, 1, 10, 0, 0, ([(⟨0, 0, 1000⟩ : Point), (⟨10, 0, 1000⟩ : Point)] : List Point)⟩ : Segment)] : List Segment).map Ar), .list 3 (([(⟨(⟨#[112]⟩ : ByteArray), 0, 0⟩ : Port), (⟨(⟨#[113]⟩ : ByteArray), 1, 0⟩ : Port)] : List Port).map Bj), .N, .V 0, .V 0]]]) (.cons (.arr (.cons (.us 0 I) (.cons (.us 1 I) (.cons (.us 2 I) (.rest _))))) (.rest _))) ?_))
 refine nG [] I (Bp I I I (cV _ _ _ aa) dS ?_)
 rintro _ _ ⟨rfl, rfl⟩
 refine Af 3 I (nG [] I (nN (cs := [.N, .N, .N, .N]) (m := 4) I I I I I dS fun ab => nG [1] I (Ax 1 0 0 [A7 M.1] I (Af 1 I (nE ?_)))))
 subst Z
 refine Aa fun ak ac => ?_
 obtain ⟨O, ad, h⟩ := Ac h
 refine nD (Ap 2 [.o 0 0, .o 1 1] I J2 (nG [] I (nP (sz := 1) (es := ([5] : List Int).map rI) I I I I I I I I I I I dS fun P => nG [] I (nP (sz := 1) (es := ([5, (-5)] : List Int).map rI) I I I I I I I I I I I dS fun Q => nZ 2 I fun ae => nZ 3 I fun af => Ck (Ao (l := [.v P, .v Q, .N]) Az (Ae I I (Ai ae) I (Ae I I (Ai af) I (A8)))) I (oA (A0 [2, 3] (K := [.us P 3 1 (([5] : List Int).map rI), .us Q 3 1 (([5, (-5)] : List Int).map rI)]) I [(22, .agg [.list 1 (([(⟨#[97]⟩ : ByteArray), (⟨#[98]⟩ : ByteArray)] : List ByteArray).map rS), .list 7 (([(⟨(⟨#[103]⟩ : ByteArray), 0, 1, 10, 0, 0, ([(⟨0, 0, 1000⟩ : Point), (⟨10, 0, 1000⟩ : Point)] : List Point)⟩ : Segment)] : List Segment).map Ar), .list 3 (([(⟨(⟨#[112]⟩ : ByteArray), 0, 0⟩ : Port), (⟨(⟨#[113]⟩ : ByteArray), 1, 0⟩ : Port)] : List Port).map Bj), .list 5 ([].map A4), .V 0, .V 0]), (24, .list 1 (([5] : List Int).map rI)), (25, .list 1 (([5, (-5)] : List Int).map rI)), (26, .agg [.list 1 (([5] : List Int).map rI), .list 1 (([5, (-5)] : List Int).map rI), .list 1 ([].map rB)])] ⟨⟨_, I, .agg (.cons (.refl _) (.cons (.refl _) (.cons (.refl _) (.cons (.nil _) (.rest _)))))⟩, ⟨_, I, .us 0 I⟩, ⟨_, I, .us 1 I⟩, ⟨_, I, .agg (.cons (.us 0 I) (.cons (.us 1 I) (.cons (.nil _) (.rest _))))⟩, J⟩ (ob' := [.arr H 32 6 1 [[.list 1 (([(⟨#[97]⟩ : ByteArray), (⟨#[98]⟩ : ByteArray)] : List ByteArray).map rS), .list 7 (([(⟨(⟨#[103]⟩ : ByteArray), 0, 1, 10, 0, 0, ([(⟨0, 0, 1000⟩ : Point), (⟨10, 0, 1000⟩ : Point)] : List Point)⟩ : Segment)] : List Segment).map Ar), .list 3 (([(⟨(⟨#[112]⟩ : ByteArray), 0, 0⟩ : Port), (⟨(⟨#[113]⟩ : ByteArray), 1, 0⟩ : Port)] : List Port).map Bj), .N, .V 0, .V 0]], .arr ab 39 4 1 [A7 M.1]]) (.rest _)) ?_)))))
 refine nG [] I (Bp I I I (Od _ _ _ _ _ _ ad) dS ?_)
 rintro _ _ ⟨al, rfl, rfl⟩
 refine Af 5 I (nE ?_)
 subst ac
 refine Al (fun s ob => ∃ (E : Bool), Eu.J1 E = some r ∧ s = [(0, .v (.bool E))] ∧ ob = []) [] J ?_ ?_
 rcases bt ((O.2 == 0)) with c | c
 replace h := B0 c h
 rcases bt (((O.1.length : Int) == 8)) with f | f
 replace h := B0 f h
 obtain ⟨a, ⟨g, b⟩, h⟩ := Bk h
 rcases bt ((a.2.Kind == 6)) with i | i
 replace h := B0 i h
 rcases bt ((a.2.Value == 2)) with j | j
 replace h := B0 j h
 obtain ⟨e, ⟨F, n⟩, h⟩ := Bk h
 rcases bt ((e.2.Value == 3)) with t | t
 replace h := B0 t h
 obtain ⟨k, ⟨R, A⟩, h⟩ := Bk h
 rcases bt ((k.2.Value == 2)) with u | u
 replace h := B0 u h
 obtain ⟨ag, ah, h⟩ := Ac h
 refine nD (Af 3 I (Ad 32 I c (Af 1 I (Br I I I (nS (Cn 2 I I I I) I (Af 3 I (Ad 37 I f (Af 1 I (Br I I I (nS (Bi 2 (m := a.1) I I I I I I I g (Ah b)) I (Af 1 I (Br I I I ?_))))))))))))
 refine nS (Ba 2 a.1 0 I I I (Ah b) I (y := .V a.2.Kind) I) I (Af 3 I (Ad 44 I i (Af 1 I (Br I I I (nS (Bi 2 (m := a.1) I I I I I I I g (Ah b)) I (Af 1 I (Br I I I (nS (Ba 2 a.1 2 I I I (Ah b) I (y := .V a.2.Value) I) I (Af 3 I (Ad 51 I j (Af 1 I (Br I I I ?_))))))))))))
 refine nS (Bi 2 (m := e.1) I I I I I I I F (Ah n)) I (Af 1 I (Br I I I (nS (Ba 2 e.1 2 I I I (Ah n) I (y := .V e.2.Value) I) I (Af 3 I (Ad 58 I t (Af 1 I (Br I I I (nS (Bi 2 (m := k.1) I I I I I I I R (Ah A)) I (Af 1 I (Br I I I (nS (Ba 2 k.1 2 I I I (Ah A) I (y := .V k.2.Value) I) I (Af 3 I ?_))))))))))))
 refine Ad 65 I u (Af 1 I (Br I I I (nG [] I (Dq I (.refl _) I I (.cons (.us 2 I) (.rest _)) I (Oh _ _ ah) dS (by rintro _ _ ⟨rfl, _⟩; rfl) ?_))))
 rintro _ ⟨_, rfl, -⟩
 refine Af 3 I (nE ?_)
 exact lg ⟨(ag == 3), h, I2⟩ []
 replace h := Ca u h
 refine nD (Af 3 I (Ad 32 I c (Af 1 I (Br I I I (nS (Cn 2 I I I I) I (Af 3 I (Ad 37 I f (Af 1 I (Br I I I (nS (Bi 2 (m := a.1) I I I I I I I g (Ah b)) I (Af 1 I (Br I I I ?_))))))))))))
 refine nS (Ba 2 a.1 0 I I I (Ah b) I (y := .V a.2.Kind) I) I (Af 3 I (Ad 44 I i (Af 1 I (Br I I I (nS (Bi 2 (m := a.1) I I I I I I I g (Ah b)) I (Af 1 I (Br I I I (nS (Ba 2 a.1 2 I I I (Ah b) I (y := .V a.2.Value) I) I (Af 3 I (Ad 51 I j (Af 1 I (Br I I I ?_))))))))))))
 refine nS (Bi 2 (m := e.1) I I I I I I I F (Ah n)) I (Af 1 I (Br I I I (nS (Ba 2 e.1 2 I I I (Ah n) I (y := .V e.2.Value) I) I (Af 3 I (Ad 58 I t (Af 1 I (Br I I I (nS (Bi 2 (m := k.1) I I I I I I I R (Ah A)) I (Af 1 I (Br I I I (nS (Ba 2 k.1 2 I I I (Ah A) I (y := .V k.2.Value) I) I (Af 3 I ?_))))))))))))
 refine Ad 65 I u (Af 5 I (nE ?_))
 exact lg ⟨false, h, I2⟩ []
 replace h := Ca t h
 refine nD (Af 3 I (Ad 32 I c (Af 1 I (Br I I I (nS (Cn 2 I I I I) I (Af 3 I (Ad 37 I f (Af 1 I (Br I I I (nS (Bi 2 (m := a.1) I I I I I I I g (Ah b)) I (Af 1 I (Br I I I ?_))))))))))))
 refine nS (Ba 2 a.1 0 I I I (Ah b) I (y := .V a.2.Kind) I) I (Af 3 I (Ad 44 I i (Af 1 I (Br I I I (nS (Bi 2 (m := a.1) I I I I I I I g (Ah b)) I (Af 1 I (Br I I I (nS (Ba 2 a.1 2 I I I (Ah b) I (y := .V a.2.Value) I) I (Af 3 I (Ad 51 I j (Af 1 I (Br I I I ?_))))))))))))
 refine nS (Bi 2 (m := e.1) I I I I I I I F (Ah n)) I (Af 1 I (Br I I I (nS (Ba 2 e.1 2 I I I (Ah n) I (y := .V e.2.Value) I) I (Af 3 I (Ad 58 I t (Af 12 I (nE ?_)))))))
 exact lg ⟨false, h, I2⟩ []
 replace h := Ca j h
 refine nD (Af 3 I (Ad 32 I c (Af 1 I (Br I I I (nS (Cn 2 I I I I) I (Af 3 I (Ad 37 I f (Af 1 I (Br I I I (nS (Bi 2 (m := a.1) I I I I I I I g (Ah b)) I (Af 1 I (Br I I I ?_))))))))))))
 refine nS (Ba 2 a.1 0 I I I (Ah b) I (y := .V a.2.Kind) I) I (Af 3 I (Ad 44 I i (Af 1 I (Br I I I (nS (Bi 2 (m := a.1) I I I I I I I g (Ah b)) I (Af 1 I (Br I I I (nS (Ba 2 a.1 2 I I I (Ah b) I (y := .V a.2.Value) I) I (Af 3 I (Ad 51 I j (Af 19 I (nE ?_))))))))))))
 exact lg ⟨false, h, I2⟩ []
 replace h := Ca i h
 refine nD (Af 3 I (Ad 32 I c (Af 1 I (Br I I I (nS (Cn 2 I I I I) I (Af 3 I (Ad 37 I f (Af 1 I (Br I I I (nS (Bi 2 (m := a.1) I I I I I I I g (Ah b)) I (Af 1 I (Br I I I ?_))))))))))))
 refine nS (Ba 2 a.1 0 I I I (Ah b) I (y := .V a.2.Kind) I) I (Af 3 I (Ad 44 I i (Af 26 I (nE ?_))))
 exact lg ⟨false, h, I2⟩ []
 replace h := Ca f h
 refine nD (Af 3 I (Ad 32 I c (Af 1 I (Br I I I (nS (Cn 2 I I I I) I (Af 3 I (Ad 37 I f (Af 33 I (nE ?_)))))))))
 exact lg ⟨false, h, I2⟩ []
 replace h := Ca c h
 refine nD (Af 3 I (Ad 32 I c (Af 38 I (nE ?_))))
 exact lg ⟨false, h, I2⟩ []
 rintro s ob ⟨E, h, rfl, rfl⟩
 unfold Eu.J1 at h
 obtain rfl := oi h
 exact nK pr
end Go.Proofs.YtmaamhgjeampmaaGreat
