/- Walks that show what functions of the program compute; printed by a program of ours. No condition. -/
import Derived.Test.YtmaamhgjeampmaaGreatYtLp1
import Derived.Test.YtmaamhgjeampmaaGreatYtLp2
import Derived.Test.YtmaamhgjeampmaaGreatYtD
set_option maxRecDepth 100000
namespace Go.Proofs.YtmaamhgjeampmaaGreat
open Go.Aw
set_option linter.unusedVariables false
set_option linter.unusedSimpArgs false
set_option maxHeartbeats 4000000
theorem Ig (a : Valve) (r : Bool) (h : Gl a = r) : ACalls Am 125 [.agg (Au a)] [] (fun x new => x = .v (.bool r) ∧ new = []) := by
 refine Ag Tryz.func125 rfl rfl rfl fun C hC => ?_
 unfold Gl at h
 refine Aa fun f e => nD (nG [] I (nQ (cs := Au a) (m := 4) I I I dS fun g => Af 1 I (nE ?_)))
 subst e
 refine Al (fun s ob => s = [(2, .v (.bool (decide (a.Travel ≥ 1) && (decide (a.Travel ≤ 60) && (decide (a.Open ≥ 0) && decide (a.Open ≤ a.Travel))))))] ∧ ob = []) [] J ?_ ?_
 refine nD (Ap 4 [.o 1 0] I J1 ?_)
 rcases bt (decide (a.Travel ≥ 1)) with b | b
 refine Ad 6 I b (Ap 5 [.o 1 0] I J1 ?_)
 rcases bt (decide (a.Travel ≤ 60)) with c | c
 refine Ad 11 I c (Ap 5 [.o 1 0] I J1 ?_)
 rcases bt (decide (a.Open ≥ 0)) with d | d
 refine Ad 16 I d (Ap 7 [.o 1 0, .o 3 0] I J2 (nE ?_))
 exact lf I2 ⟨(Dz (by simp only [b, c, d, bz])), J⟩ [] I
 refine Ad 16 I d (Af 7 I (nE ?_))
 exact lf I2 ⟨(Dz (by simp only [b, c, d, bz])), J⟩ [] I
 refine Ad 11 I c (Af 12 I (nE ?_))
 exact lf I2 ⟨(Dz (by simp only [b, c, bz])), J⟩ [] I
 refine Ad 6 I b (Af 17 I (nE ?_))
 exact lf I2 ⟨(Dz (by simp only [b, bz])), J⟩ [] I
 rintro s ob ⟨rfl, rfl⟩
 obtain rfl := h
 exact nK pr
theorem On (a : Valve) (r : Int) (h : Et a = r) : ACalls Am 148 [.agg (Au a)] [] (fun x new => x = .V r ∧ new = []) := by
 refine Ag Tryz.func148 rfl rfl rfl fun C hC => ?_
 unfold Et at h
 refine Aa fun d b => nD (nG [] I (nQ (cs := Au a) (m := 4) I I I dS fun e => Af 1 I (nE ?_)))
 subst b
 refine nH (Bu [.o 1 0] I J1 (Ay h I ?_ ?_))
 intro c h
 refine Bu [.o 1 0] I J1 (nM g0 ?_)
 obtain rfl := h
 exact nK pr
 intro c h
 refine nI (Aq I (nM g0 ?_))
 obtain rfl := h
 exact nK pr
theorem cM (a : Valve) (b : Int) (r : Valve) (h : Qd a b = r) : ACalls Am 147 [.agg (Au a), .V b] [] (fun x new => x = .agg (Au r) ∧ new = []) := by
 refine Ag Tryz.func147 rfl rfl rfl fun C hC => ?_
 unfold Qd at h
 refine Aa fun u e => nD (nG [] I (nQ (cs := Au a) (m := 4) I I I dS fun f => nG [] I (nN (cs := [.V 0, .V 0, .v (.bool false), .v (.bool false)]) (m := 4) I I I I I dS fun g => nE ?_)))
 subst e
 refine Aa fun w i => nD (Ap 1 [.o 0 0] I J1 (nG [] I (nN (cs := [.V 0, .V 0, .v (.bool false), .v (.bool false)]) (m := 4) I I I I I dS fun j => nG [2] I (Ax 2 0 0 [Au a] I (nE ?_)))))
 subst i
 refine Al (fun s ob => ∃ (d : Int), Qd.J1 a d = r ∧ s = [] ∧ ob = [.arr f 74 4 1 [[.V a.Travel, .V d, .v (.bool a.Want), .v (.bool a.Stuck)]], .arr g 74 4 1 [[.V 0, .V 0, .v (.bool false), .v (.bool false)]], .arr j 74 4 1 [Au a]]) [(2, _), (4, _), (5, _)] J3 ?_ ?_
 refine Aa fun y k => nD (Ap 1 [.o 0 0] I J1 (Cg (On a _ I) (Af 1 I (nE ?_))))
 subst k
 refine nJ (Bu [.o 1 0] I J1 (Ay h I ?_ ?_))
 intro l h
 refine nI ?_
 exact lg ⟨a.Open, h, I2⟩ [0, 1, 2]
 intro l h
 refine Bu [.o 1 0] I J1 (Ay h I ?_ ?_)
 intro n h
 refine nD (Ap 7 [.o 2 0] I J1 (nG [0] I (Ax 0 0 1 [[.V a.Travel, .V (min (Et a) (wr (a.Open + b))), .v (.bool a.Want), .v (.bool a.Stuck)]] I (nE ?_))))
 exact lg ⟨(min (Et a) (wr (a.Open + b))), h, I2⟩ [0, 1, 2]
 intro n h
 refine nD (Ap 7 [.o 2 0] I J1 (nG [0] I (Ax 0 0 1 [[.V a.Travel, .V (max (Et a) (wr (a.Open - b))), .v (.bool a.Want), .v (.bool a.Stuck)]] I (nE ?_))))
 exact lg ⟨(max (Et a) (wr (a.Open - b))), h, I2⟩ [0, 1, 2]
 rintro s ob ⟨d, h, rfl, rfl⟩
 unfold Qd.J1 at h
 refine nH (nH (nD (Ap 2 [.o 0 0, .o 1 2] I J2 (Ck (Jy (r := ((a.Travel == a.Travel) && ((d == a.Open) && ((a.Want == a.Want) && ((a.Stuck == a.Stuck) && true))))) I I aC I I I I) I (nE (Ay h I ?_ ?_))))))
 intro t h
 refine nH (nD (Ap 1 [.o 0 2] I J1 (nG [1] I (Ax 1 0 0 [Au a] I (nE (Cb [1] I ?_))))))
 obtain rfl := h
 exact nK ⟨.inr I, [_], [], ⟨⟨0, _, _, _, _, _, _, _, I5⟩, J⟩, Cf, I2⟩
 intro t h
 refine nI (nH (nD (Ap 1 [.o 0 0] I J1 (nG [1] I (Ax 1 0 0 [[.V a.Travel, .V d, .v (.bool a.Want), .v (.bool a.Stuck)]] I (nE (Cb [1] I ?_)))))))
 obtain rfl := h
 exact nK ⟨.inr I, [_], [], ⟨⟨0, _, _, _, _, _, _, _, I5⟩, J⟩, Cf, I2⟩
theorem aM (a : Valve) (b : Int) (r : Valve × Int) (h : C0 a b = r) : ACalls Am 95 [.agg (Au a), .V b] [] (fun x new => x = .tup [.agg (Au r.1), .V r.2] ∧ new = []) := by
 refine Ag Tryz.func95 rfl rfl rfl fun C hC => ?_
 unfold C0 at h
 refine Aa fun j e => nD (nG [] I (nQ (cs := Au a) (m := 4) I I I dS fun k => nG [] I (nN (cs := [.V 0, .V 0, .v (.bool false), .v (.bool false)]) (m := 4) I I I I I dS fun l => Af 1 I (nE ?_))))
 subst e
 refine nH (nJ (Aa fun n f => nD (Ap 1 [.o 0 0] I J1 (Cg (Ig a _ I) (Af 2 I (nE ?_))))))
 subst f
 refine Ay h I ?_ ?_
 intro g h
 refine nH (nD (Ap 1 [.o 0 0] I J1 (nG [1] I (Ax 1 0 0 [Au a] I (Af 1 I (nE (Cb [1] I ?_)))))))
 obtain rfl := h
 exact nK ⟨.inr I, [_, _], [], ⟨⟨0, _, _, _, _, _, _, _, I5⟩, I, J⟩, Cf, I2⟩
 intro g h
 refine Dt 11 (decide (b < 0) || decide (b > 400)) ?_ ?_
 refine nD (Af 3 I ?_)
 rcases bt (decide (b < 0)) with d | d
 refine Ad 14 I d (Af 4 I (nE ?_))
 exact jf (by simp only [d, bz]) I I I2
 refine Ad 14 I d (Af 4 I (nE ?_))
 exact jf (by simp only [d, bz]) I I I2
 refine Ay h I ?_ ?_
 intro i h
 refine nH (nD (Ap 1 [.o 0 0] I J1 (nG [1] I (Ax 1 0 0 [Au a] I (Af 1 I (nE (Cb [1] I ?_)))))))
 obtain rfl := h
 exact nK ⟨.inr I, [_, _], [], ⟨⟨0, _, _, _, _, _, _, _, I5⟩, I, J⟩, Cf, I2⟩
 intro i h
 refine nI (nH (nD (Ap 2 [.o 0 0] I J1 (Cg (cM a b _ I) (nG [1] I (Ax 1 0 0 [Au (Qd a b)] I (Af 1 I (nE (Cb [1] I ?_)))))))))
 obtain rfl := h
 exact nK ⟨.inr I, [_, _], [], ⟨⟨0, _, _, _, _, _, _, _, I5⟩, I, J⟩, Cf, I2⟩
theorem dF (a : Valve) (r : Bool) (h : Nv a = r) : ACalls Am 96 [.agg (Au a)] [] (fun x new => x = .v (.bool r) ∧ new = []) := by
 refine Ag Tryz.func96 rfl rfl rfl fun C hC => ?_
 unfold Nv at h
 refine nH (nD (nG [] I (nQ (cs := Au a) (m := 4) I I I dS fun d => Af 1 I (nE (Al (fun s ob => s = [(2, .v (.bool ((Gl a) && (a.Open == 0))))] ∧ ob = []) [] J ?_ ?_)))))
 refine nD (Ap 1 [.o 0 0] I J1 (Cg (Ig a _ I) (Af 1 I ?_)))
 rcases bt ((Gl a)) with b | b
 refine Ad 5 I b (Ap 5 [.o 1 0] I J1 (nE ?_))
 exact lf I2 ⟨(Dz (by simp only [b, bz])), J⟩ [] I
 refine Ad 5 I b (Af 5 I (nE ?_))
 exact lf I2 ⟨(Dz (by simp only [b, bz])), J⟩ [] I
 rintro s ob ⟨rfl, rfl⟩
 obtain rfl := h
 exact nK pr
theorem Tk (a : Valve) (r : Bool) (h : Iu a = r) : ACalls Am 97 [.agg (Au a)] [] (fun x new => x = .v (.bool r) ∧ new = []) := by
 refine Ag Tryz.func97 rfl rfl rfl fun C hC => ?_
 unfold Iu at h
 refine Aa fun e d => nD (nG [] I (nQ (cs := Au a) (m := 4) I I I dS fun f => Af 1 I (nE ?_)))
 subst d
 refine Al (fun s ob => s = [(2, .v (.bool ((Gl a) && (a.Open == a.Travel))))] ∧ ob = []) [] J ?_ ?_
 refine nD (Ap 1 [.o 0 0] I J1 (Cg (Ig a _ I) (Af 1 I ?_)))
 rcases bt ((Gl a)) with b | b
 refine Ad 5 I b (Ap 7 [.o 1 0, .o 3 0] I J2 (nE ?_))
 exact lf I2 ⟨(Dz (by simp only [b, bz])), J⟩ [] I
 refine Ad 5 I b (Af 7 I (nE ?_))
 exact lf I2 ⟨(Dz (by simp only [b, bz])), J⟩ [] I
 rintro s ob ⟨rfl, rfl⟩
 obtain rfl := h
 exact nK pr
theorem aO (a : Valve) (r : Int) (h : Il a = r) : ACalls Am 98 [.agg (Au a)] [] (fun x new => x = .V r ∧ new = []) := by
 refine Ag Tryz.func98 rfl rfl rfl fun C hC => ?_
 unfold Il at h
 refine Aa fun j d => nD (nG [] I (nQ (cs := Au a) (m := 4) I I I dS fun k => Af 1 I (nE ?_)))
 subst d
 refine Aa fun l e => nH (nD (Ap 1 [.o 0 0] I J1 (Cg (Ig a _ I) (Af 1 I (nE (Ay h I ?_ ?_))))))
 intro f h
 refine Aq I (nM g0 ?_)
 obtain rfl := h
 exact nK pr
 intro f h
 refine nI ?_
 subst e
 refine Aa fun n g => Bw (.still 0 (.still 2 (.still 3 (sl 3 5 (.act 1 (.still 4 (.act 8 (sl 3 9 .nil)))))))) [0] [_] I (By 6 [.o 0 0, .o 2 0, .o 4 0, .o 5 0] I J4 (Ee I (On a _ I) (Bm 1 I (Ee I (On a _ I) (Bm 3 I (Ak (nE ?_)))))))
 subst g
 refine nH (Dt 23 (a.Stuck && decide ((max (wr ((Et a) - a.Open)) (wr (a.Open - (Et a)))) > 0)) ?_ ?_)
 refine nD (Ap 3 [.o 1 0] I J1 ?_)
 rcases bt (a.Stuck) with b | b
 refine Ad 20 I b (Af 3 I (nE ?_))
 exact jf (by simp only [b, bz]) I I I2
 refine Ad 20 I b (Af 3 I (nE ?_))
 exact jf (by simp only [b, bz]) I I I2
 refine Ay h I ?_ ?_
 intro i h
 refine Aq I (nM g0 ?_)
 obtain rfl := h
 exact nK pr
 intro i h
 refine nI (Aq I (nM g0 ?_))
 obtain rfl := h
 exact nK pr
theorem bQ (a : Network) (e : Plan) (b : Int) (r : Int × Int) (h : P6 a e b = some r) : ACalls Am 142 [.agg (Ab a), .agg (As e), .V b] [] (fun x new => x = .tup [.V r.1, .V r.2] ∧ new = []) := by
 refine Ag Tryz.func142 rfl rfl rfl fun C hC => ?_
 unfold P6 at h
 refine Aa fun w f => nD (nG [] I (nQ (cs := Ab a) (m := 6) I I I dS fun A => nG [] I (nQ (cs := As e) (m := 3) I I I dS fun B => Af 2 I (nE ?_))))
 subst f
 refine Aa fun D g => nH ?_
 obtain ⟨E, i, h⟩ := Ac h
 refine nD (Ap 2 [.o 0 0, .o 1 1] I J2 (Cg (Ie _ _ _ i) (Af 1 I (nE (Aq I (Ay h I ?_ ?_))))))
 intro j h
 refine Aq I (nM g0 ?_)
 obtain rfl := oi h
 exact nK ⟨.inr I, [_, _], [], J2, Cf, I2⟩
 intro j h
 refine nI ?_
 subst g
 refine nH (Dt 23 (decide (b < 0) || decide (b ≥ (a.Nodes.length : Int))) ?_ ?_)
 refine nD (Af 3 I ?_)
 rcases bt (decide (b < 0)) with d | d
 refine Ad 17 I d (Af 6 I (nE ?_))
 exact jf (by simp only [d, bz]) I I I2
 refine Ad 17 I d (Ap 6 [.o 2 0, .l 3 (a.Nodes.length : Int)] I ⟨Bh, I, J⟩ (nE ?_))
 exact jf (by simp only [d, bz]) I I I2
 refine Ay h I ?_ ?_
 intro k h
 refine Aq I (nM g0 ?_)
 obtain rfl := oi h
 exact nK ⟨.inr I, [_, _], [], J2, Cf, I2⟩
 intro k h
 refine nI (nH ?_)
 obtain ⟨n, s, h⟩ := Ac h
 obtain ⟨t, ⟨u, v⟩, h⟩ := Bk h
 refine nD (Ap 2 [.o 0 0, .o 1 1] I J2 (nG [] I (Bp I I I (Sw _ _ _ s) dS ?_)))
 rintro _ _ ⟨rfl, rfl⟩
 refine Ck (Yp.field I I I I I (y := .agg (n.come.l.map cI)) (N2 I (by simp [Arr.h, Bv]))) I (Af 1 I (Ck (Ge (m := t.1) I I I I I I I u v (hlen := Arr.h _)) I (Af 2 I (nE (nM g0 ?_)))))
 obtain rfl := oi h
 exact nK ⟨.inr I, [_, _], [], J2, Cf, I2⟩
theorem dD (a : Valve) (r : Bool) (h : Qk a = r) : ACalls Am 126 [.agg (Au a)] [] (fun x new => x = .v (.bool r) ∧ new = []) := by
 refine Ag Tryz.func126 rfl rfl rfl fun C hC => ?_
 unfold Qk at h
 refine nH (nD (nG [] I (nQ (cs := Au a) (m := 4) I I I dS fun d => Af 1 I (nE (Al (fun s ob => s = [(2, .v (.bool ((Iu a) && a.Want)))] ∧ ob = []) [] J ?_ ?_)))))
 refine nD (Ap 1 [.o 0 0] I J1 (Cg (Tk a _ I) (Af 1 I ?_)))
 rcases bt ((Iu a)) with b | b
 refine Ad 5 I b (Ap 4 [.o 1 0] I J1 (nE ?_))
 exact lf I2 ⟨(Dz (by simp only [b, bz])), J⟩ [] I
 refine Ad 5 I b (Af 4 I (nE ?_))
 exact lf I2 ⟨(Dz (by simp only [b, bz])), J⟩ [] I
 rintro s ob ⟨rfl, rfl⟩
 obtain rfl := h
 exact nK pr
theorem Tn (b : Network) (d : Plan) (f : Int) (r : Bool) (h : Nk b d f = some r) : ACalls Am 90 [.agg (Ab b), .agg (As d), .V f] [] (fun x new => x = .v (.bool r) ∧ new = []) := by
 refine Ag Tryz.func90 rfl rfl rfl fun C hC => ?_
 unfold Nk at h
 refine Aa fun n i => nD (nG [] I (nQ (cs := Ab b) (m := 6) I I I dS fun p => nG [] I (nQ (cs := As d) (m := 3) I I I dS fun t => Af 1 I (nE ?_))))
 subst i
 refine nH ?_
 obtain ⟨g, ⟨j, k⟩, h⟩ := Bk h
 obtain ⟨e, l, h⟩ := Ac h
 refine Bw (pd 14 0 [8]) [0, 1] [_, _] I (By 8 [.o 0 0, .o 1 1, .o 3 0, .x 5 g.1 (A4 g.2)] I ⟨⟨j, Ah k⟩, I, I, I, J⟩ (Ee I (bQ _ _ _ _ l) (Bm 5 I (Ak (nE (Al (fun s ob => s = [(6, .v (.bool ((e.2 == 0) && (e.1 != 0))))] ∧ ob = []) [] J ?_ ?_))))))
 refine nD (Af 3 I ?_)
 rcases bt ((e.2 == 0)) with a | a
 refine Ad 23 I a (Af 4 I (nE ?_))
 exact lf I2 ⟨(Dz (by simp only [a, bz])), J⟩ [] I
 refine Ad 23 I a (Af 4 I (nE ?_))
 exact lf I2 ⟨(Dz (by simp only [a, bz])), J⟩ [] I
 rintro s ob ⟨rfl, rfl⟩
 obtain rfl := oi h
 exact nK pr
theorem S3 (a : Network) (b : Plan) (d : Int) (r : Bool) (h : Pu a b d = some r) : ACalls Am 49 [.agg (Ab a), .agg (As b), .V d] [] (fun x new => x = .v (.bool r) ∧ new = []) := by
 refine Ag Tryz.func49 rfl rfl rfl fun C hC => ?_
 unfold Pu at h
 refine nH (nD (nG [] I (nQ (cs := Ab a) (m := 6) I I I dS fun f => nG [] I (nQ (cs := As b) (m := 3) I I I dS fun g => Af 1 I (nE (nH ?_))))))
 obtain ⟨i, e, h⟩ := Ac h
 refine nD (Ap 3 [.o 0 0, .o 1 1] I J2 (Cg (Tn _ _ _ _ e) (Af 1 I (nE (nM g0 ?_)))))
 obtain rfl := oi h
 exact nK pr
theorem bX (e : List Step) (r : Int) (h : Nd e = some r) : ACalls Am 58 [.list 7 (e.map A6)] [] (fun x new => x = .V r ∧ new = []) := by
 refine Ag Tryz.func58 rfl rfl rfl fun C hC => ?_
 unfold Nd at h
 refine Aq I (Aq I (Al (fun s ob => ∃ (g : Int), Nd.J1 g = some r ∧ s = [(3, .V g)] ∧ ob = []) [] J ?_ ?_))
 refine Bu [.l 1 (e.length : Int)] I ⟨Bh, J⟩ (nJ (Cz 6 I fun n => ?_))
 obtain ⟨F, p, t⟩ := Ac h
 clear h
 refine Dl p [(6, _), (7, _)] J2 (fun (f : Nat) (b : Int) s ob => s = [(8, .V (f : Int)), (3, .V b)] ∧ ob = []) ⟨I, I⟩ ⟨I, I, J⟩ ⟨[], I, by decide⟩ ?_ ?_
 rintro f a b u s ob w j ⟨rfl, rfl⟩ h
 unfold Nd.B2 at h
 have y := Di j
 refine Aq I (Aa fun G A => Av (v := true) I y (nI ?_))
 subst A
 refine Al (fun s ob => ∃ (i : Int), Nd.J3 i = some u ∧ s = [(3, .V i)] ∧ ob = []) [(6, _), (7, _), (8, _)] J3 ?_ ?_
 refine nJ (Aa fun H B => nD (Ap 2 [.x 0 f (A6 a)] I ⟨⟨I, Ah w⟩, J⟩ (nG [] I (nN (cs := [.V 0, .V 0, .V 0, .V 0, .V 0, .N, .V 0]) (m := 7) I I I I I dS fun K => nG [0] I (Ax 0 0 0 [A6 a] I (nE ?_))))))
 subst B
 refine Dt 24 ((a.Kind == 6) && (decide (a.Value ≥ 1) && decide (a.Value ≤ 100))) ?_ ?_
 refine nD (Ap 4 [.o 1 0] I J1 ?_)
 rcases bt ((a.Kind == 6)) with c | c
 refine Ad 15 I c (Ap 5 [.o 1 0] I J1 ?_)
 rcases bt (decide (a.Value ≥ 1)) with d | d
 refine Ad 20 I d (Ap 4 [.o 1 0] I J1 (nE ?_))
 exact jf (by simp only [c, d, bz]) I I I2
 refine Ad 20 I d (Af 4 I (nE ?_))
 exact jf (by simp only [c, d, bz]) I I I2
 refine Ad 15 I c (Af 9 I (nE ?_))
 exact jf (by simp only [c, bz]) I I I2
 refine Ay h I ?_ ?_
 intro D h
 refine I6 [.o 2 0] I J1 ?_
 exact lg ⟨wr (b + a.Value), h, I2⟩ []
 intro D h
 refine nI ?_
 exact lg ⟨b, h, I2⟩ []
 rintro s ob ⟨i, h, rfl, rfl⟩
 unfold Nd.J3 at h
 refine nD (Ap 2 [.k 0 (f + 1 : Nat)] I ⟨Bt j n, J⟩ ?_)
 obtain rfl := oi h
 refine nE ?_
 exact lg I2 []
 rintro b s ob ⟨rfl, rfl⟩ he
 subst he
 have h := t
 have E := Dj e.length
 refine Aq I (Aa fun M O => Av (v := false) I E (nO ?_))
 exact lg ⟨b, h, I2⟩ []
 rintro s ob ⟨g, h, rfl, rfl⟩
 unfold Nd.J1 at h
 refine Aq I ?_
 obtain rfl := oi h
 exact nK pr
theorem aL (a : Network) (r : Int) (h : Ps a = r) : ACalls Am 122 [.agg (Ab a)] [] (fun x new => x = .V r ∧ new = []) := by
 refine Ag Tryz.func122 rfl rfl rfl fun C hC => ?_
 unfold Ps at h
 refine nH (nD (nG [] I (nQ (cs := Ab a) (m := 6) I I I dS fun b => Af 1 I (nE (Bu [.o 1 0, .l 2 (a.Segments.length : Int), .o 4 0, .l 5 (a.Ports.length : Int)] I ⟨Bh, I, Bh, I, J⟩ (nM g0 ?_))))))
 obtain rfl := h
 exact nK pr
theorem S4 (a : Lineup) (r : List Bool) (h : Pv a = some r) : ACalls Am 59 [.agg (C8 a)] [] (fun x new => ∃ (b : Value), x = .v b ∧ new = [.us b 4 1 (r.map rB)]) := by
 refine Ag Tryz.func59 rfl rfl rfl fun C hC => ?_
 unfold Pv at h
 refine Aa fun i e => nD (nG [] I (nQ (cs := C8 a) (m := 2) I I I dS fun j => Af 1 I (nE ?_)))
 subst e
 refine nH ?_
 obtain ⟨k, c, h⟩ := Ac h
 refine nD (Ap 2 [.o 1 0] I J1 (nG [] I (Rq I I I I I I I I (AppSrc.list I) (Vv (Eh c).1) (Vu (Eh c).2) dS fun l => Af 1 I (nE (nH ?_)))))
 obtain ⟨f, g, h⟩ := Ac h
 refine nD (Ap 3 [.o 2 0] I J1 (nG [1] I (Bf 1 I g fun d => Af 1 I (nE (Cb [1] I ?_)))))
 obtain rfl := oi h
 exact nK ⟨.inr I, [_], [.us d 4 1 (f.map rB)], J1, Dn I (Cf), ⟨d, I2⟩⟩
theorem Sy (c : List Int) (r : List Bool) (h : Ky c = some r) : ACalls Am 91 [.list 1 (c.map rI)] [] (fun x new => ∃ (g : Value), x = .v g ∧ new = [.us g 4 1 (r.map rB)]) := by
 refine Ag Tryz.func91 rfl rfl rfl fun C hC => ?_
 unfold Ky at h
 refine Aq I (Aq I (Al (fun s ob => ∃ (d : List Bool) (a : Value), Ky.J1 d = some r ∧ s = [(3, .v a)] ∧ ob = [.us a 4 1 (d.map rB)]) [] J ?_ ?_))
 refine Bu [.l 1 (c.length : Int)] I ⟨Bh, J⟩ (nJ (Cz 6 I fun m => nM (Bo 4 1) ?_))
 obtain ⟨B, n, o⟩ := Ac h
 clear h
 refine Dl n [(6, _), (7, _)] J2 (fun (e : Nat) (f : List Bool) s ob => ∃ (b : Value), s = [(8, .V (e : Int)), (3, .v b)] ∧ ob = [.us b 4 1 (f.map rB)]) ⟨(.slice none 0 0), I2⟩ ⟨I, I, J⟩ ⟨[0], I, by decide⟩ ?_ ?_
 rintro e i f D s ob p j ⟨b, rfl, rfl⟩ h
 unfold Ky.B2 at h
 have t := Di j
 refine Aq I (Aa fun E u => Av (v := true) I t (nI ?_))
 subst u
 refine nH (nJ (Bu [.x 0 e (rI i)] I ⟨⟨I, Ah p⟩, J⟩ ?_))
 obtain ⟨F, w, h⟩ := Ac h
 refine nD (Af 3 I (nG [] I (nR 1 (([(i != 0)] : List Bool).map rB) (nG [0] I (Bf 0 I w fun y => Af 1 I (nE (nD (Ap 2 [.k 0 (e + 1 : Nat)] I ⟨Bt j m, J⟩ ?_))))))))
 obtain rfl := oi h
 refine nE ?_
 exact lg ⟨y, I2⟩ [0]
 rintro f s ob ⟨b, rfl, rfl⟩ he
 subst he
 have h := o
 have A := Dj c.length
 refine Aq I (Aa fun G H => Av (v := false) I A (nO ?_))
 exact lg ⟨f, b, h, I2⟩ [0]
 rintro s ob ⟨d, a, h, rfl, rfl⟩
 unfold Ky.J1 at h
 refine Aq I ?_
 obtain rfl := oi h
 exact nK ⟨.inr I, [_], [.us a 4 1 (d.map rB)], J1, Dn I (Cf), ⟨a, I2⟩⟩
theorem Tc (a : Network) (b : Plan) (r : Lineup × Int) (h : M5 a b = some r) : ACalls Am 50 [.agg (Ab a), .agg (As b)] [] (fun x new => x = .tup [.agg (C8 r.1), .V r.2] ∧ new = []) := by
 refine Ag Tryz.func50 rfl rfl rfl fun C hC => ?_
 unfold M5 at h
 refine Aa fun F n => nD (nG [] I (nQ (cs := Ab a) (m := 6) I I I dS fun d => nG [] I (nQ (cs := As b) (m := 3) I I I dS fun e => nG [] I (nN (cs := [.N, .N]) (m := 2) I I I I I dS fun f => Af 1 I (nE ?_)))))
 subst n
 refine Aa fun G s => nH ?_
 obtain ⟨H, t, h⟩ := Ac h
 refine nD (Ap 1 [.o 0 0] I J1 (Cg (Kl _ _ t) (Af 1 I (nE (Aq I (Ay h I ?_ ?_))))))
 intro u h
 refine nH (nD (Ck (Ao (l := [.N, .N]) Le I) I (Af 1 I (nG [2] I (Ax 2 0 0 [[.N, .N]] I (Af 1 I (nE (nM (A0 [] (K := []) I [] J (ob' := [.arr d 32 6 1 [Ab a], .arr e 37 3 1 [As b], .arr f 97 2 1 [[.list 1 ([].map rB), .list 1 ([].map rB)]]]) (.cons (.same _) (.cons (.same _) (.cons (.arr (.cons (.nil _) (.cons (.nil _) (.rest _)))) (.rest _))))) (Cb [2] I ?_)))))))))
 obtain rfl := oi h
 exact nK ⟨.inr I, [_, _], [], ⟨⟨0, _, _, _, _, _, _, _, I5⟩, I, J⟩, Cf, I2⟩
 intro u h
 refine nI ?_
 subst s
 refine nH (nH ?_)
 obtain ⟨M, w, h⟩ := Ac h
 refine nD (Ap 2 [.o 0 0, .o 1 1] I J2 (Cg (Ie _ _ _ w) (Af 1 I (nE (Aq I (Ay h I ?_ ?_))))))
 intro y h
 refine nH (nD (Ck (Ao (l := [.N, .N]) Le I) I (Af 1 I (nG [2] I (Ax 2 0 0 [[.N, .N]] I (Af 1 I (nE (nM (A0 [] (K := []) I [] J (ob' := [.arr d 32 6 1 [Ab a], .arr e 37 3 1 [As b], .arr f 97 2 1 [[.list 1 ([].map rB), .list 1 ([].map rB)]]]) (.cons (.same _) (.cons (.same _) (.cons (.arr (.cons (.nil _) (.cons (.nil _) (.rest _)))) (.rest _))))) (Cb [2] I ?_)))))))))
 obtain rfl := oi h
 exact nK ⟨.inr I, [_, _], [], ⟨⟨0, _, _, _, _, _, _, _, I5⟩, I, J⟩, Cf, I2⟩
 intro y h
 refine nI (nH ?_)
 obtain ⟨j, A, h⟩ := Ac h
 obtain ⟨k, B, h⟩ := Ac h
 refine Bw (.still 0 (.still 1 (.still 3 (.still 4 (.act 2 (.act 5 (.still 6 (.act 7 (.still 8 .nil))))))))) [1] [_] I (By 4 [.o 1 0, .o 3 0] I J2 (nF [] I I I (Bp I I I (Sy _ _ A) dS ?_)))
 rintro _ _ ⟨g, rfl, rfl⟩
 refine nF [] I I I (Bp I I I (Sy _ _ B) dS ?_)
 rintro _ _ ⟨i, rfl, rfl⟩
 refine nL 3 I fun D => nL 4 I fun E => Cr I (Ao (l := [.v g, .v i]) Le (Ae I I (Ai D) I (Ae I I (Ai E) I (A8)))) I (nF [2] I I I (Ax 2 0 0 [[.v g, .v i]] I (Bm 1 I (Ak (nE (nM (A0 [3, 4] (K := [.us g 4 1 (j.map rB), .us i 4 1 (k.map rB)]) I [] J (ob' := [.arr d 32 6 1 [Ab a], .arr e 37 3 1 [As b], .arr f 97 2 1 [[.list 1 (j.map rB), .list 1 (k.map rB)]]]) (.cons (.same _) (.cons (.same _) (.cons (.arr (.cons (.us 0 I) (.cons (.us 1 I) (.rest _)))) (.rest _))))) (Cb [2] I ?_)))))))
 obtain rfl := oi h
 exact nK ⟨.inr I, [_, _], [], ⟨⟨0, _, _, _, _, _, _, _, I5⟩, I, J⟩, Cf, I2⟩
theorem bH (a : List Valve) (F1 : T) {c : FuncId} {d e : List T} (o : Mk F1 = some (c, d, e)) (f : Valve → Option Bool) (p : ∀ (g : Valve) r, f g = some r → ACalls Am c (d ++ [.agg (Au g)] ++ e) [] fun x new => x = .v (.bool r) ∧ new = []) (r : Int) (h : T7 a f = some r) : ACalls Am 151 [.list 4 (a.map Au), F1] [] (fun x new => x = .V r ∧ new = []) := by
 refine Ag Tryz.func151 rfl rfl rfl fun C hC => ?_
 unfold T7 at h
 refine Aq I (Al (fun s ob => ∃ (i : Unit), T7.J1 i = some r ∧ s = [] ∧ ob = []) [] J ?_ ?_)
 refine Bu [.l 1 (a.length : Int)] I ⟨Bh, J⟩ (nJ (Cz 6 I fun q => ?_))
 obtain ⟨G, t, j⟩ := Ac h
 clear h
 refine C1 t [(0, _), (1, _), (7, _)] J3 (fun (b : Nat) (m : Unit) s ob => s = [(8, .V (b : Int))] ∧ ob = []) ⟨I, I⟩ ⟨I, J⟩ ⟨[], I, by decide⟩ ?_ ?_
 rintro b u m H s ob w n ⟨rfl, rfl⟩ h y
 unfold T7.B2 at h
 have A := Di n
 refine Aq I (Aa fun K B => Av (v := true) I A (nI ?_))
 subst B
 refine nH (nJ (Aq I (nH ?_)))
 obtain ⟨M, D, h⟩ := Ac h
 refine nD (Ap 5 [.x 3 b (Au u)] I ⟨⟨I, Ah w⟩, J⟩ (nG [] I (Dq I (.refl _) o I (.rest _) I (p _ _ D) dS (by rintro _ _ ⟨rfl, _⟩; rfl) ?_)))
 rintro _ ⟨_, rfl, -⟩
 refine nE (Ay h I ?_ ?_)
 intro E h
 refine Aq I ?_
 obtain rfl := y _ (oi h).symm
 replace h := j
 replace h := Do h
 obtain rfl := oi h
 exact nK pr
 intro E h
 refine nI (nD (Ap 2 [.k 0 (b + 1 : Nat)] I ⟨Bt n q, J⟩ ?_))
 obtain rfl := oi h
 refine nE ?_
 exact ⟨_, _, _, I, I2, J4, [], I, by decide⟩
 rintro m s ob ⟨rfl, rfl⟩ he
 subst he
 have h := Dh j
 have F := Dj a.length
 refine Aq I (Aa fun N O => Av (v := false) I F (nO ?_))
 exact lg ⟨(), h, I2⟩ []
 rintro s ob ⟨i, h, rfl, rfl⟩
 unfold T7.J1 at h
 refine Aq I ?_
 obtain rfl := oi h
 exact nK pr
theorem cE (b : List Valve) (F1 : T) {d : FuncId} {e f : List T} (i : Mk F1 = some (d, e, f)) (a : Valve → Option Bool) (j : ∀ (g : Valve) r, a g = some r → ACalls Am d (e ++ [.agg (Au g)] ++ f) [] fun x new => x = .v (.bool r) ∧ new = []) (r : Bool) (h : Ng b a = some r) : ACalls Am 123 [.list 4 (b.map Au), F1] [] (fun x new => x = .v (.bool r) ∧ new = []) := by
 refine Ag Tryz.func123 rfl rfl rfl fun C hC => ?_
 unfold Ng at h
 refine Aq I (nH ?_)
 obtain ⟨l, k, h⟩ := Ac h
 refine nD (Af 2 I (Cg (bH _ F1 i a j _ k) (Af 2 I (nE ?_))))
 obtain rfl := oi h
 exact nK pr
theorem cF (a : Valve) (r : Bool) (h : Qa a = r) : ACalls Am 124 [.agg (Au a)] [] (fun x new => x = .v (.bool r) ∧ new = []) := by
 refine Ag Tryz.func124 rfl rfl rfl fun C hC => ?_
 unfold Qa at h
 refine nH (nD (nG [] I (nQ (cs := Au a) (m := 4) I I I dS fun b => Af 1 I (nE (nH (nD (Ap 1 [.o 0 0] I J1 (Cg (Ig a _ I) (Af 2 I (nE (nM g0 ?_)))))))))))
 obtain rfl := h
 exact nK pr
theorem bE (a : Network) (b : Plan) (r : Bool) (h : M3 a b = some r) : ACalls Am 127 [.agg (Ab a), .agg (As b)] [] (fun x new => x = .v (.bool r) ∧ new = []) := by
 refine Ag Tryz.func127 rfl rfl rfl fun C hC => ?_
 unfold M3 at h
 refine Aa fun P y => nD (nG [] I (nQ (cs := Ab a) (m := 6) I I I dS fun i => nG [] I (nQ (cs := As b) (m := 3) I I I dS fun j => Af 1 I (nE ?_))))
 subst y
 refine Al (fun s ob => ∃ (n : Unit), M3.J1 n = some r ∧ s = [] ∧ ob = []) [] J ?_ ?_
 refine Bu [.o 1 1, .l 2 (b.Pumps.length : Int)] I ⟨Bh, I, J⟩ (nJ (Cz 8 I fun A => ?_))
 obtain ⟨Q, B, p⟩ := Ac h
 clear h
 refine C1 B [(2, _), (3, _), (8, _), (9, _)] J4 (fun (d : Nat) (t : Unit) s ob => s = [(10, .V (d : Int))] ∧ ob = [.arr i 32 6 1 [Ab a], .arr j 37 3 1 [As b]]) ⟨I, I⟩ ⟨I, J⟩ ⟨[0, 1], I, by decide⟩ ?_ ?_
 rintro d u t D s ob E w ⟨rfl, rfl⟩ h F
 unfold M3.B2 at h
 have G := Di w
 refine Aq I (Aa fun R H => Av (v := true) I G (nI ?_))
 subst H
 refine nH (nJ (Bu [.x 1 d (rB u)] I ⟨⟨I, Ah E⟩, J⟩ (Al (fun s ob => ∃ (g : Bool), M3.J3 g = some D ∧ s = [(29, .v (.bool g))] ∧ ob = [.arr i 32 6 1 [Ab a], .arr j 37 3 1 [As b]]) [(2, _), (3, _), (8, _), (9, _), (10, _)] J5 ?_ ?_)))
 refine nD (Af 2 I ?_)
 rcases bt (u) with e | e
 replace h := B0 e h
 refine Ad 16 I e ?_
 rcases bt (decide ((d : Int) < (a.Stations.length : Int))) with f | f
 replace h := B0 f h
 obtain ⟨K, M, h⟩ := Ac h
 refine Ap 7 [.o 2 0, .l 3 (a.Stations.length : Int)] I ⟨Bh, I, J⟩ (Ad 23 I f (Ap 3 [.o 0 0, .o 1 1] I J2 (Br I I I (Cg (Tn _ _ _ _ M) (Af 2 I (nE ?_))))))
 exact lg ⟨(!K), h, I2⟩ [0, 1]
 replace h := Ca f h
 refine Ap 7 [.o 2 0, .l 3 (a.Stations.length : Int)] I ⟨Bh, I, J⟩ (Ad 23 I f (Af 6 I (nE ?_)))
 exact lg ⟨false, h, I2⟩ [0, 1]
 replace h := Ca e h
 refine Ad 16 I e (Af 13 I (nE ?_))
 exact lg ⟨false, h, I2⟩ [0, 1]
 rintro s ob ⟨g, h, rfl, rfl⟩
 unfold M3.J3 at h
 refine Ay h I ?_ ?_
 intro N h
 refine Aq I ?_
 obtain rfl := F _ (oi h).symm
 replace h := p
 replace h := Do h
 refine nM g0 ?_
 obtain rfl := oi h
 exact nK pr
 intro N h
 refine nI (nD (Ap 2 [.k 0 (d + 1 : Nat)] I ⟨Bt w A, J⟩ ?_))
 obtain rfl := oi h
 refine nE ?_
 exact ⟨_, _, _, I, I2, J5, [0, 1], I, by decide⟩
 rintro t s ob ⟨rfl, rfl⟩ he
 subst he
 have h := Dh p
 have O := Dj b.Pumps.length
 refine Aq I (Aa fun S U => Av (v := false) I O (nO ?_))
 exact lg ⟨(), h, I2⟩ []
 rintro s ob ⟨n, h, rfl, rfl⟩
 unfold M3.J1 at h
 refine Aq I ?_
 obtain rfl := oi h
 exact nK pr
theorem bO (b : Network) (a : Desk) (r : Int) (h : Na b a = some r) : ACalls Am 85 [.agg (Ab b), .agg (A7 a)] [] (fun x new => x = .V r ∧ new = []) := by
 refine Ag Tryz.func85 rfl rfl rfl fun C hC => ?_
 unfold Na at h
 refine Aa fun y1 H => nD (nG [] I (nQ (cs := Ab b) (m := 6) I I I dS fun g => nG [] I (nQ (cs := A7 a) (m := 4) I I I dS fun i => Af 1 I (nE ?_))))
 subst H
 refine Aa fun y4 K => nH ?_
 obtain ⟨r5, M, h⟩ := Ac h
 refine nD (Ap 1 [.o 0 0] I J1 (Cg (Kl _ _ M) (Af 1 I (nE (Aq I (Ay h I ?_ ?_))))))
 intro O h
 refine Aq I (nM g0 ?_)
 obtain rfl := oi h
 exact nK pr
 intro O h
 refine nI ?_
 subst K
 refine Aa fun y8 P => Al (fun s ob => ∃ (p : Bool), Na.J1 b a p = some r ∧ s = [(26, .v (.bool p))] ∧ ob = [.arr g 32 6 1 [Ab b], .arr i 39 4 1 [A7 a]]) [(2, _), (3, _)] J2 ?_ ?_
 refine Bw (pd 11 0 [4, 9]) [1, 0] [_, _] I (By 4 [.o 1 0, .l 2 (a.Valves.length : Int), .o 3 1] I ⟨I, Bh, I, J⟩ (Ee I (aL b _ I) (Bm 2 I ?_)))
 rcases bt (((a.Valves.length : Int) != (Ps b))) with e | e
 replace h := B0 e h
 refine Bq 22 I e (Bm 4 I (Ak (nE ?_)))
 exact lg ⟨true, h, I2⟩ [0, 1]
 replace h := Ca e h
 obtain ⟨Q, R, h⟩ := Ac h
 refine Bq 22 I e (By 2 [.o 1 0] I J1 (Hy I (cE _ (.v (.func (.func 124) #[] #[])) I (fun x => some (Qa x)) (fun x r h => by obtain I := oi h; exact cF x _ I) _ R) (Bm 1 I (Ak (nE ?_)))))
 exact lg ⟨Q, h, I2⟩ [0, 1]
 rintro s ob ⟨p, h, rfl, rfl⟩
 unfold Na.J1 at h
 refine Ay h I ?_ ?_
 intro S h
 refine Aq I (nM g0 ?_)
 obtain rfl := oi h
 exact nK pr
 intro S h
 refine nI ?_
 subst P
 refine Aa fun az U => nH ?_
 obtain ⟨a0, W, h⟩ := Ac h
 refine nD (Ap 2 [.o 0 0] I J1 (nS (Bx 1 0 1 I I I I I (y := .agg (As a.Plan)) I) I (Cg (Ie _ _ _ W) (Af 1 I (nE (Aq I (Ay h I ?_ ?_)))))))
 intro X h
 refine Aq I (nM g0 ?_)
 obtain rfl := oi h
 exact nK pr
 intro X h
 refine nI ?_
 subst U
 refine Aa fun a1 Y => ?_
 obtain ⟨Z, aa, h⟩ := Ac h
 refine nD (Ap 2 [.o 0 0] I J1 (nS (Bx 1 0 1 I I I I I (y := .agg (As a.Plan)) I) I (nG [] I (Bp I I I (Tc _ _ _ aa) dS ?_))))
 rintro _ _ ⟨rfl, rfl⟩
 refine Af 3 I (nG [] I (nN (cs := [.N, .N]) (m := 2) I I I I I dS fun a2 => nG [2] I (Ax 2 0 0 [C8 Z.1] I (Af 1 I (nE ?_)))))
 subst Y
 refine Aa fun a3 ab => Aq I (Ay h I ?_ ?_)
 intro ac h
 refine Aq I (nM g0 ?_)
 obtain rfl := oi h
 exact nK pr
 intro ac h
 refine nI ?_
 subst ab
 refine Al (fun s ob => ∃ (A : Unit), Na.J2 b a A = some r ∧ s = [] ∧ ob = [.arr g 32 6 1 [Ab b], .arr i 39 4 1 [A7 a]]) [(2, _), (3, _)] J2 ?_ ?_
 refine Aa fun a4 ad => ?_
 obtain ⟨t, ae, h⟩ := Ac h
 refine nD (Ap 1 [.o 0 2] I J1 (nG [] I (Bp I I I (S4 _ _ ae) dS ?_)))
 rintro _ _ ⟨B, rfl, rfl⟩
 refine nS (Cn 3 I I I I) I (Af 1 I (nE ?_))
 subst ad
 refine nJ (Oq 3 I fun af => ?_)
 obtain ⟨a5, ag, D⟩ := Ac h
 clear h
 refine Ga ag [(2, _), (3, _), (45, _), (46, _)] J4 (fun (u : Nat) (E : Unit) s ob => s = [(47, .V (u : Int))] ∧ ob = [.arr g 32 6 1 [Ab b], .arr i 39 4 1 [A7 a], .us B 4 1 (t.map rB)]) ⟨I, I⟩ ⟨I, J⟩ ⟨[0, 1, 3], I, by decide⟩ ?_ ?_
 rintro u E ah s ob F ⟨rfl, rfl⟩ h ai
 unfold Na.B3 at h
 have aj := Di F
 refine Aq I (Aa fun a6 ak => Av (v := true) I aj (nI ?_))
 subst ak
 refine nH (nJ (Aa fun a7 al => ?_))
 obtain ⟨j, ⟨am, G⟩, h⟩ := Bk h
 refine nD (Af 1 I (nS (Bi 2 (m := j.1) I I I I I I I am (Ah G)) I (nS (Ba 2 j.1 0 I I I (Ah G) I (y := .v (.bool j.2)) I) I (Af 2 I (nE ?_)))))
 subst al
 refine Al (fun s ob => ∃ (w : Bool), Na.J4 w = some ah ∧ s = [(61, .v (.bool w))] ∧ ob = [.arr g 32 6 1 [Ab b], .arr i 39 4 1 [A7 a], .us B 4 1 (t.map rB)]) [(2, _), (3, _), (45, _), (46, _), (47, _)] J5 ?_ ?_
 refine nD (Af 2 I ?_)
 rcases bt (j.2) with f | f
 replace h := B0 f h
 obtain ⟨n, ⟨an, ao⟩, h⟩ := Bk h
 refine Ad 53 I f (Ap 5 [.o 1 1, .x 3 n.1 (Au n.2)] I ⟨⟨an, Ah ao⟩, I, J⟩ (Br I I I (Cg (dD n.2 _ I) (Af 2 I (nE ?_)))))
 exact lg ⟨(!(Qk n.2)), h, I2⟩ [0, 1, 2]
 replace h := Ca f h
 refine Ad 53 I f (Af 8 I (nE ?_))
 exact lg ⟨false, h, I2⟩ [0, 1, 2]
 rintro s ob ⟨w, h, rfl, rfl⟩
 unfold Na.J4 at h
 refine Ay h I ?_ ?_
 intro ap h
 refine Aq I ?_
 obtain rfl := ai _ (oi h).symm
 replace h := D
 replace h := Do h
 refine nM g0 ?_
 obtain rfl := oi h
 exact nK pr
 intro ap h
 refine nI (nD (Ap 2 [.k 0 (u + 1 : Nat)] I ⟨Bt F af, J⟩ ?_))
 obtain rfl := oi h
 refine nE ?_
 exact ⟨_, _, _, I, I2, J5, [0, 1, 2], I, by decide⟩
 rintro E s ob ⟨rfl, rfl⟩ he
 subst he
 have h := Dh D
 have aq := Dj t.length
 refine Aq I (Aa fun a8 a9 => Av (v := false) I aq (nO ?_))
 exact lg ⟨(), h, I2⟩ [0, 1]
 rintro s ob ⟨A, h, rfl, rfl⟩
 unfold Na.J2 at h
 refine nH (nH ?_)
 obtain ⟨ba, ar, h⟩ := Ac h
 refine nD (Ap 2 [.o 0 0] I J1 (nS (Bx 1 0 1 I I I I I (y := .agg (As a.Plan)) I) I (Cg (bE _ _ _ ar) (nE (Ay h I ?_ ?_)))))
 intro au h
 refine Aq I (nM g0 ?_)
 obtain rfl := oi h
 exact nK pr
 intro au h
 refine nI (Aq I (nM g0 ?_))
 obtain rfl := oi h
 exact nK pr
theorem Tq (e : List Path) (p : List Path) (r : List Int) (h : K8 e p = some r) : ACalls Am 56 [.list 4 (e.map Aj), .list 4 (p.map Aj)] [] (fun x new => ∃ (t : Value), x = .v t ∧ new = [.us t 3 1 (r.map rI)]) := by
 refine Ag Tryz.func56 rfl rfl rfl fun C hC => ?_
 unfold K8 at h
 refine Aq I (Aq I (Al (fun s ob => ∃ (f : List Int) (d : Value), K8.J1 f = some r ∧ s = [(5, .v d)] ∧ ob = [.us d 3 1 (f.map rI)]) [] J ?_ ?_))
 refine Bu [.l 1 (e.length : Int)] I ⟨Bh, J⟩ (nJ (Cz 10 I fun w => nM (Bo 3 1) ?_))
 obtain ⟨U, y, A⟩ := Ac h
 clear h
 refine Dl y [(1, _), (10, _), (11, _)] J3 (fun (g : Nat) (a : List Int) s ob => ∃ (b : Value), s = [(12, .V (g : Int)), (5, .v b)] ∧ ob = [.us b 3 1 (a.map rI)]) ⟨(.slice none 0 0), I2⟩ ⟨I, I, J⟩ ⟨[0], I, by decide⟩ ?_ ?_
 rintro g j a B s ob D u ⟨b, rfl, rfl⟩ h
 unfold K8.B2 at h
 have E := Di u
 refine Aq I (Aa fun W F => Av (v := true) I E (nI ?_))
 subst F
 refine nH (nJ (Aa fun X G => nD (Ap 2 [.x 0 g (Aj j)] I ⟨⟨I, Ah D⟩, J⟩ (nG [] I (nN (cs := [.V 0, .V 0, .N, .V 0]) (m := 4) I I I I I dS fun Y => nG [1] I (Ax 1 0 0 [Aj j] I (nE ?_)))))))
 subst G
 refine Aq I (Al (fun s ob => ∃ (i : Int), K8.J3 a i = some B ∧ s = [(8, .V i)] ∧ ob = [.us b 3 1 (a.map rI)]) [(1, _), (5, _), (10, _), (11, _), (12, _)] J5 ?_ ?_)
 refine Aa fun Z H => ?_
 obtain ⟨aa, K, h⟩ := Ac h
 refine nD (Ap 2 [.o 1 1] I J1 (Cg (Tp _ _ _ K) (Af 1 I (nE ?_))))
 subst H
 refine Aq I (Ay h I ?_ ?_)
 intro M h
 obtain ⟨n, ⟨O, P⟩, h⟩ := Bk h
 refine U4 (pd 9 0 []) [1] [_] [.o 1 0, .x 4 n.1 (Aj n.2)] I I ⟨⟨O, Ah P⟩, I, J⟩ ?_
 exact lg ⟨(min j.Rate n.2.Rate), h, I2⟩ [0]
 intro M h
 refine nI ?_
 exact lg ⟨0, h, I2⟩ [0]
 rintro s ob ⟨i, h, rfl, rfl⟩
 unfold K8.J3 at h
 obtain ⟨ab, Q, h⟩ := Ac h
 refine nD (Af 2 I (nG [] I (nR 1 (([i] : List Int).map rI) (nG [0] I (Bf 0 I Q fun R => Af 1 I (nE (nD (Ap 2 [.k 0 (g + 1 : Nat)] I ⟨Bt u w, J⟩ ?_))))))))
 obtain rfl := oi h
 refine nE ?_
 exact lg ⟨R, I2⟩ [0]
 rintro a s ob ⟨b, rfl, rfl⟩ he
 subst he
 have h := A
 have S := Dj e.length
 refine Aq I (Aa fun ac ad => Av (v := false) I S (nO ?_))
 exact lg ⟨a, b, h, I2⟩ [0]
 rintro s ob ⟨f, d, h, rfl, rfl⟩
 unfold K8.J1 at h
 refine Aq I ?_
 obtain rfl := oi h
 exact nK ⟨.inr I, [_], [.us d 3 1 (f.map rI)], J1, Dn I (Cf), ⟨d, I2⟩⟩
theorem aF (p : Network) (H : List Path) (M : List Path) (r : Plan) (h : Mq p H M = some r) : ACalls Am 54 [.agg (Ab p), .list 4 (H.map Aj), .list 4 (M.map Aj)] [] (fun x new => x = .agg (As r) ∧ new = []) := by
 refine Ag Tryz.func54 rfl rfl rfl fun C hC => ?_
 unfold Mq at h
 refine Aa fun y1 ab => nD (nG [] I (nQ (cs := Ab p) (m := 6) I I I dS fun b2 => nG [] I (nN (cs := [.N, .N, .N]) (m := 3) I I I I I dS fun E => nE ?_)))
 subst ab
 refine Al (fun s ob => ∃ (c : (List Int) × (List Int) × (List Bool)) (e : Nat) (t : Value) (u : Value) (F : Value), Mq.J1 H M c = some r ∧ s = [(7, .v (.pointer (some ⟨e, 0, none⟩)))] ∧ ob = [.arr E 37 3 1 [[.N, .N, .N]], .us t 3 1 (c.1.map rI), .us u 3 1 (c.2.1.map rI), .us F 4 1 (c.2.2.map rB), .arr e 37 3 1 [[.v t, .v u, .v F]]]) [(1, _), (2, _), (6, _)] J3 ?_ ?_
 obtain ⟨Q, ⟨a2, ac, ad, ae⟩, h⟩ := Hx h
 obtain ⟨R, ⟨a3, af, ag, ah⟩, h⟩ := Hx h
 obtain ⟨S, ⟨a4, ai, aj, ak⟩, h⟩ := Hx h
 refine Bw (sl 3 0 (sl 3 4 (sl 3 8 (.par [(3, []), (7, []), (11, []), (13, []), (12, [3, 7, 11])] (.act 14 .nil))))) [0] [_] I (By 9 [.o 1 0, .l 2 (p.Segments.length : Int), .o 4 0, .l 5 (p.Ports.length : Int), .o 7 0, .l 8 (p.Stations.length : Int)] I ⟨Bh, I, Bh, I, Bh, I, J⟩ (AP.any [⟨3, [], 13, .us 3 1 (Q.map rI)⟩, ⟨7, [], 17, .us 3 1 (R.map rI)⟩, ⟨11, [], 21, .us 4 1 (S.map rB)⟩, ⟨13, [], 7, .box 37 3 ([.N, .N, .N])⟩, ⟨12, [3, 7, 11], 22, .fn fun l => match l with | [.v i, .v j, .v n] => .agg [.v i, .v j, .v n] | _ => .tup []⟩] I ⟨⟨_, I, I, I, fun _ => A3 (sz := 1) I I I I I I I I I I ac ad (Be (f := rI) ae I) dS fun v => ⟨_, I, ⟨v, I⟩, I⟩⟩, ⟨_, I, I, I, fun _ => A3 (sz := 1) I I I I I I I I I I af ag (Be (f := rI) ah I) dS fun v => ⟨_, I, ⟨v, I⟩, I⟩⟩, ⟨_, I, I, I, fun _ => A3 (sz := 1) I I I I I I I I I I ai aj (Be (f := rB) ak I) dS fun v => ⟨_, I, ⟨v, I⟩, I⟩⟩, ⟨_, I, I, I, fun _ => nN (cs := [.N, .N, .N]) (m := 3) I I I I I dS fun b => ⟨_, I, ⟨b, I⟩, I⟩⟩, ⟨_, I, I, I, fun i U j W n X _ => Cd (Yp.yd (Ao (l := [.v i, .v j, .v n]) Az (Ae I I (Ai U) I (Ae I I (Ai W) I (Ae I I (Ai X) I (A8)))))) dS ⟨_, I, I, nb⟩⟩, J⟩ ?_))
 intro i U j W n X al
 refine AP.same 22 (.agg [.v i, .v j, .v n]) I (nF [5] I I I (Ax 5 0 0 [[.v i, .v j, .v n]] I (Ak (nE ?_))))
 exact lg ⟨(Q, R, S), al, i, j, n, h, I2⟩ [1, 2, 3, 4, 5]
 rintro s ob ⟨c, e, t, u, F, h, rfl, rfl⟩
 unfold Mq.J1 at h
 refine Al (fun s ob => ∃ (a : (List Int) × (List Int) × (List Bool)) (w : Value) (A : Value), Mq.J2 a = some r ∧ s = [] ∧ ob = [.arr E 37 3 1 [[.N, .N, .N]], .us w 3 1 (a.1.map rI), .us A 3 1 (a.2.1.map rI), .arr e 37 3 1 [[.v w, .v A, .list 1 (a.2.2.map rB)]]]) [(6, _), (7, _)] J2 ?_ ?_
 refine Aa fun a5 am => ?_
 obtain ⟨O, an, h⟩ := Ac h
 refine nD (Af 2 I (nG [] I (Bp I I I (bC _ _ _ an) dS ?_)))
 rintro _ _ ⟨Y, rfl, rfl⟩
 refine nS (Cn 5 I I I I) I (Af 1 I (nE ?_))
 subst am
 refine nJ (Oq 5 I fun ao => nM (A0 [3] (K := [.us F 4 1 (c.2.2.map rB)]) I [] J (ob' := [.arr E 37 3 1 [[.N, .N, .N]], .us t 3 1 (c.1.map rI), .us u 3 1 (c.2.1.map rI), .arr e 37 3 1 [[.v t, .v u, .list 1 (c.2.2.map rB)]], .us Y 52 4 (O.map Aj)]) (.cons (.same _) (.cons (.same _) (.cons (.same _) (.cons (.arr (.cons (.refl _) (.cons (.refl _) (.cons (.us 0 I) (.rest _))))) (.rest _)))))) ?_)
 obtain ⟨a6, ap, aq⟩ := Ac h
 clear h
 refine Hz ap [(6, _), (7, _), (25, _), (26, _)] J4 (fun (P : Nat) (g : (List Int) × (List Int) × (List Bool)) s ob => ∃ (B : Value) (D : Value), s = [(27, .V (P : Int))] ∧ ob = [.arr E 37 3 1 [[.N, .N, .N]], .us B 3 1 (g.1.map rI), .us D 3 1 (g.2.1.map rI), .arr e 37 3 1 [[.v B, .v D, .list 1 (g.2.2.map rB)]], .us Y 52 4 (O.map Aj)]) ⟨t, u, I2⟩ ⟨I, J⟩ ⟨[0, 1, 2, 3, 4], I, by decide⟩ ?_ ?_
 rintro P g a7 s ob Z ⟨B, D, rfl, rfl⟩ h
 unfold Mq.B3 at h
 have ar := Di Z
 refine Aq I (Aa fun a8 au => Av (v := true) I ar (nI ?_))
 subst au
 refine nH (nJ (nH ?_))
 obtain ⟨G, ⟨av, aa⟩, h⟩ := Bk h
 refine nD (nS (Bi 4 (m := G.1) I I I I I I I av (Ah aa)) I (nS (Ba 4 G.1 0 I I I (Ah aa) I (y := .agg (Aj G.2)) I) I (nG [] I (nN (cs := [.V 0, .V 0, .N, .V 0]) (m := 4) I I I I I dS fun a9 => nG [5] I (Ax 5 0 0 [Aj G.2] I (nE ?_))))))
 obtain ⟨ba, aw, h⟩ := Ac h
 refine nD (Ap 3 [.o 0 5, .o 2 5] I J2 (nG [3, 1, 2] I (Pj [3, 1, 2] (aN e _ B D _ _ _ aw) ?_)))
 rintro _ _ _ - ⟨ax, ay, rfl, rfl, rfl⟩
 refine nE (nD (Ap 2 [.k 0 (P + 1 : Nat)] I ⟨Bt Z ao, J⟩ ?_))
 obtain rfl := oi h
 refine nE ?_
 exact lg ⟨ax, ay, I2⟩ [0, 1, 2, 3, 4]
 rintro g s ob ⟨B, D, rfl, rfl⟩ he
 subst he
 have h := aq
 have az := Dj O.length
 refine Aq I (Aa fun bb bc => Av (v := false) I az (nO ?_))
 exact lg ⟨(g.1, g.2.1, g.2.2), B, D, h, I2⟩ [0, 1, 2, 3]
 rintro s ob ⟨a, w, A, h, rfl, rfl⟩
 unfold Mq.J2 at h
 refine nH (nD (Ap 1 [.o 0 3] I J1 (nG [0] I (Ax 0 0 0 [[.v w, .v A, .list 1 (a.2.2.map rB)]] I (nE (nM (A0 [1, 2] (K := [.us w 3 1 (a.1.map rI), .us A 3 1 (a.2.1.map rI)]) I [] J (ob' := [.arr E 37 3 1 [[.list 1 (a.1.map rI), .list 1 (a.2.1.map rI), .list 1 (a.2.2.map rB)]], .arr e 37 3 1 [[.v w, .v A, .list 1 (a.2.2.map rB)]]]) (.cons (.arr (.cons (.us 0 I) (.cons (.us 1 I) (.rest _)))) (.rest _))) (Cb [0] I ?_)))))))
 obtain rfl := oi h
 exact nK ⟨.inr I, [_], [], ⟨⟨0, _, _, _, _, _, _, _, I5⟩, J⟩, Cf, I2⟩
theorem bD (n : Desk) (a : Int) (y : List Bool) (r : (List Step) × Int × Bool) (h : P2 n a y = some r) : ACalls Am 57 [.agg (A7 n), .V a, .list 1 (y.map rB)] [] (fun x new => ∃ (Q : Value), x = .tup [.v Q, .V r.2.1, .v (.bool r.2.2)] ∧ new = [.us Q 54 7 (r.1.map A6)]) := by
 refine Ag Tryz.func57 rfl rfl rfl fun C hC => ?_
 unfold P2 at h
 refine Aa fun y1 aa => nD (nG [] I (nQ (cs := A7 n) (m := 4) I I I dS fun b2 => Af 3 I (nE ?_)))
 subst aa
 refine Aq I (Aq I (Al (fun s ob => ∃ (t : (List Step) × (List Step) × Int) (F : Value) (G : Value), P2.J1 t = some r ∧ s = [(9, .v F), (10, .v G), (11, .V t.2.2)] ∧ ob = [.us F 54 7 (t.1.map A6), .us G 54 7 (t.2.1.map A6)]) [] J ?_ ?_))
 refine Bu [.o 1 0, .l 2 (n.Valves.length : Int)] I ⟨Bh, I, J⟩ (nJ (Cz 20 I fun ab => nM (Bo 54 7) (nM (Bo 54 7) ?_)))
 obtain ⟨bb, ac, H⟩ := Ac h
 clear h
 refine C1 ac [(1, _), (2, _), (20, _), (21, _)] J4 (fun (e : Nat) (d : (List Step) × (List Step) × Int) s ob => ∃ (g : Value) (i : Value), s = [(22, .V (e : Int)), (9, .v g), (10, .v i), (11, .V d.2.2)] ∧ ob = [.us g 54 7 (d.1.map A6), .us i 54 7 (d.2.1.map A6)]) ⟨(.slice none 0 0), (.slice none 0 0), I2⟩ ⟨I, I, I, I, J⟩ ⟨[1, 2], I, by decide⟩ ?_ ?_
 rintro e b d M s ob ad R ⟨g, i, rfl, rfl⟩ h S
 unfold P2.B2 at h
 have ae := Di R
 refine Aq I (Aa fun bc af => Av (v := true) I ae (nI ?_))
 subst af
 refine Al (fun s ob => ∃ (u : (List Step) × (List Step) × Int) (A : Value) (B : Value), P2.J3 u = some M ∧ s = [(9, .v A), (10, .v B), (11, .V u.2.2)] ∧ ob = [.us A 54 7 (u.1.map A6), .us B 54 7 (u.2.1.map A6)]) [(1, _), (2, _), (20, _), (21, _), (22, _)] J5 ?_ ?_
 refine nJ (Aa fun bd ag => nD (Ap 3 [.x 1 e (Au b)] I ⟨⟨I, Ah ad⟩, J⟩ (nG [] I (nN (cs := [.V 0, .V 0, .v (.bool false), .v (.bool false)]) (m := 4) I I I I I dS fun be => Af 1 I (nG [2] I (Ax 2 0 0 [Au b] I (nE ?_)))))))
 subst ag
 refine Aa fun bf ah => nD (Ap 3 [.o 0 2] I J1 (Cg (aM b (min a 60) _ I) (Af 3 I (nG [] I (nN (cs := [.V 0, .V 0, .v (.bool false), .v (.bool false)]) (m := 4) I I I I I dS fun D => nG [3] I (Ax 3 0 0 [Au ((C0 b (min a 60)).1)] I (Af 1 I (nE ?_))))))))
 subst ah
 refine Aa fun bg ai => Aq I (Ay h I ?_ ?_)
 intro aj h
 refine Aq I ?_
 obtain rfl := S _ (oi h).symm
 replace h := H
 replace h := Do h
 refine nM (Bo 54 7) (Cb [4] I ?_)
 obtain rfl := oi h
 exact nK ⟨.inr I, [_, _, _], [.us (.slice none 0 0) 54 7 ([].map A6)], J3, Dn I (Cf), ⟨(.slice none 0 0), I2⟩⟩
 intro aj h
 refine nI ?_
 subst ai
 refine Aa fun bh ak => nD (Af 1 I (Ck (Ao (l := [.V 2, .V (e : Int), .V 0, .V 0, .V 0, .N, .V 0]) Hg I) I (nG [] I (nN (cs := [.V 0, .V 0, .V 0, .V 0, .V 0, .N, .V 0]) (m := 7) I I I I I dS fun E => nG [4] I (Ax 4 0 0 [[.V 2, .V (e : Int), .V 0, .V 0, .V 0, .N, .V 0]] I (nE ?_))))))
 subst ak
 refine Aa fun bi al => nD (Ap 1 [.o 0 3] I J1 (Cg (dF ((C0 b (min a 60)).1) _ I) (Af 1 I (nE ?_))))
 subst al
 refine Al (fun s ob => ∃ (f : Int × Bool), P2.J4 a y e b d f = some M ∧ s = [(17, .v (.bool f.2))] ∧ ob = [.us g 54 7 (d.1.map A6), .us i 54 7 (d.2.1.map A6), .arr D 74 4 1 [Au ((C0 b (min a 60)).1)], .arr E 54 7 1 [[.V f.1, .V (e : Int), .V 0, .V 0, .V 0, .N, .V 0]]]) [(1, _), (2, _), (9, _), (10, _), (11, _), (12, _), (14, _), (16, _), (20, _), (21, _), (22, _)] kJ ?_ ?_
 refine nH ?_
 obtain ⟨U, ⟨am, an⟩, h⟩ := Bk h
 refine I6 [.x 2 U.1 (rB U.2)] I ⟨⟨am, Ah an⟩, J⟩ (Ay h I ?_ ?_)
 intro ao h
 refine nD (Ap 1 [.o 0 3] I J1 (Cg (Tk ((C0 b (min a 60)).1) _ I) (Af 1 I (nG [4] I (Ax 4 0 0 [[.V 1, .V (e : Int), .V 0, .V 0, .V 0, .N, .V 0]] I (Af 1 I (nE ?_)))))))
 exact lg ⟨(1, (Iu ((C0 b (min a 60)).1))), h, I2⟩ [0, 1, 3, 4]
 intro ao h
 refine nI ?_
 exact lg ⟨(2, (Nv ((C0 b (min a 60)).1))), h, I2⟩ [0, 1, 3, 4]
 rintro s ob ⟨f, h, rfl, rfl⟩
 unfold P2.J4 at h
 refine Aa fun bj aq => Al (fun s ob => ∃ (O : Bool), P2.J5 a y e b d f O = some M ∧ s = [(56, .v (.bool O))] ∧ ob = [.us g 54 7 (d.1.map A6), .us i 54 7 (d.2.1.map A6), .arr D 74 4 1 [Au ((C0 b (min a 60)).1)], .arr E 54 7 1 [[.V f.1, .V (e : Int), .V 0, .V 0, .V 0, .N, .V 0]]]) [(1, _), (2, _), (9, _), (10, _), (11, _), (12, _), (14, _), (16, _), (20, _), (21, _), (22, _)] kJ ?_ ?_
 rcases bt (f.2) with w | w
 replace h := B0 w h
 obtain ⟨P, ⟨ar, au⟩, h⟩ := Bk h
 refine Bw (pd 10 0 []) [2] [_] I (Bm 2 I (Bq 48 I w (By 6 [.o 1 0, .x 4 P.1 (rB P.2)] I ⟨⟨ar, Ah au⟩, I, J⟩ (Gu I I I I ((lJ I I I I).yd) dS (Bm 1 I (Ak (nE ?_)))))))
 exact lg ⟨(((C0 b (min a 60)).1).Want == P.2), h, I2⟩ [0, 1, 2, 3]
 replace h := Ca w h
 refine Bw (pd 10 0 []) [] [] I (Bm 2 I (Bq 48 I w (Bm 8 I (Ak (nE ?_)))))
 exact lg ⟨false, h, I2⟩ [0, 1, 2, 3]
 rintro s ob ⟨O, h, rfl, rfl⟩
 unfold P2.J5 at h
 refine Ay h I ?_ ?_
 intro av h
 refine nO ?_
 exact lg ⟨(d.1, d.2.1, d.2.2), g, i, h, I2⟩ [0, 1]
 intro av h
 refine nI ?_
 subst aq
 refine Aa fun bk aw => ?_
 obtain ⟨j, ⟨W, X⟩, h⟩ := Bk h
 refine nD (Ap 5 [.x 2 j.1 (rB j.2)] I ⟨⟨W, Ah X⟩, J⟩ (nG [2] I (Ax 2 0 2 [[.V (((C0 b (min a 60)).1).Travel), .V (((C0 b (min a 60)).1).Open), .v (.bool j.2), .v (.bool (((C0 b (min a 60)).1).Stuck))]] I (nE ?_))))
 subst aw
 refine Aa fun bl ax => nD (Ap 1 [.o 0 2] I J1 (Cg (aO (⟨((C0 b (min a 60)).1).Travel, ((C0 b (min a 60)).1).Open, j.2, ((C0 b (min a 60)).1).Stuck⟩ : Valve) _ I) (Af 1 I (nE ?_))))
 subst ax
 refine Aa fun bm ay => Aq I (Ay h I ?_ ?_)
 intro az h
 refine Aq I ?_
 obtain rfl := S _ (oi h).symm
 replace h := H
 replace h := Do h
 refine nM (Bo 54 7) (Cb [4] I ?_)
 obtain rfl := oi h
 exact nK ⟨.inr I, [_, _, _], [.us (.slice none 0 0) 54 7 ([].map A6)], J3, Dn I (Cf), ⟨(.slice none 0 0), I2⟩⟩
 intro az h
 refine nI ?_
 subst ay
 refine Aq I (Bu [.x 2 j.1 (rB j.2)] I ⟨⟨W, Ah X⟩, J⟩ (Ay h I ?_ ?_))
 intro a0 h
 obtain ⟨a1, a2, h⟩ := Ac h
 refine nD (Ap 2 [.o 1 3] I J1 (oA (A0 [] (K := []) I [(74, .agg [.V f.1, .V (e : Int), .V 0, .V 0, .V 0, .list 2 ([].map Bc), .V 0])] ⟨⟨_, I, .agg (.cons (.refl _) (.cons (.refl _) (.cons (.refl _) (.cons (.refl _) (.cons (.refl _) (.cons (.nil _) (.rest _)))))))⟩, J⟩ (ob' := [.us g 54 7 (d.1.map A6), .us i 54 7 (d.2.1.map A6), .arr D 74 4 1 [[.V (((C0 b (min a 60)).1).Travel), .V (((C0 b (min a 60)).1).Open), .v (.bool j.2), .v (.bool (((C0 b (min a 60)).1).Stuck))]], .arr E 54 7 1 [[.V f.1, .V (e : Int), .V 0, .V 0, .V 0, .N, .V 0]]]) (.rest _)) (nG [] I (nR 7 (([(⟨f.1, (e : Int), 0, (⟨0, 0, [], 0⟩ : Path)⟩ : Step)] : List Step).map A6) (nG [1] I (Bf 1 I a2 fun a3 => Af 1 I (nE ?_)))))))
 exact lg ⟨(d.1, a1, (max d.2.2 (Il (⟨((C0 b (min a 60)).1).Travel, ((C0 b (min a 60)).1).Open, j.2, ((C0 b (min a 60)).1).Stuck⟩ : Valve)))), g, a3, h, I2⟩ [0, 1]
 intro a0 h
 obtain ⟨a4, a5, h⟩ := Ac h
 refine nD (Ap 2 [.o 1 3] I J1 (oA (A0 [] (K := []) I [(78, .agg [.V f.1, .V (e : Int), .V 0, .V 0, .V 0, .list 2 ([].map Bc), .V 0])] ⟨⟨_, I, .agg (.cons (.refl _) (.cons (.refl _) (.cons (.refl _) (.cons (.refl _) (.cons (.refl _) (.cons (.nil _) (.rest _)))))))⟩, J⟩ (ob' := [.us g 54 7 (d.1.map A6), .us i 54 7 (d.2.1.map A6), .arr D 74 4 1 [[.V (((C0 b (min a 60)).1).Travel), .V (((C0 b (min a 60)).1).Open), .v (.bool j.2), .v (.bool (((C0 b (min a 60)).1).Stuck))]], .arr E 54 7 1 [[.V f.1, .V (e : Int), .V 0, .V 0, .V 0, .N, .V 0]]]) (.rest _)) (nG [] I (nR 7 (([(⟨f.1, (e : Int), 0, (⟨0, 0, [], 0⟩ : Path)⟩ : Step)] : List Step).map A6) (nG [0] I (Bf 0 I a5 fun a6 => Af 1 I (nE ?_)))))))
 exact lg ⟨(a4, d.2.1, (max d.2.2 (Il (⟨((C0 b (min a 60)).1).Travel, ((C0 b (min a 60)).1).Open, j.2, ((C0 b (min a 60)).1).Stuck⟩ : Valve)))), a6, i, h, I2⟩ [0, 1]
 rintro s ob ⟨u, A, B, h, rfl, rfl⟩
 unfold P2.J3 at h
 refine nD (Ap 2 [.k 0 (e + 1 : Nat)] I ⟨Bt R ab, J⟩ ?_)
 obtain rfl := oi h
 refine nE ?_
 exact ⟨_, _, _, I, ⟨A, B, I2⟩, J8, [0, 1], I, by decide⟩
 rintro d s ob ⟨g, i, rfl, rfl⟩ he
 subst he
 have h := Dh H
 have a7 := Dj n.Valves.length
 refine Aq I (Aa fun bn bo => Av (v := false) I a7 (nO ?_))
 exact lg ⟨(d.1, d.2.1, d.2.2), g, i, h, I2⟩ [0, 1]
 rintro s ob ⟨t, F, G, h, rfl, rfl⟩
 unfold P2.J1 at h
 refine nH ?_
 obtain ⟨a8, Y, h⟩ := Ac h
 refine nD (Af 2 I (nG [0] I (Fw 0 I I I I I I I I I (Lg 1 I I) (Up (Eh Y).1) (Uo (Eh Y).2) dS fun Z => Af 4 I (nE (Cb [0] I ?_)))))
 obtain rfl := oi h
 exact nK ⟨.inr I, [_, _, _], [.us Z 54 7 (a8.map A6)], J3, Dn I (Cf), ⟨Z, I2⟩⟩
theorem bU (g : Network) (i : Desk) (j : Plan) (b : Int) (e : Int) (r : Int) (h : Ub g i j b e = some r) : ACalls Am 47 [.agg (Ab g), .agg (A7 i), .agg (As j), .V b, .V e] [] (fun x new => x = .V r ∧ new = []) := by
 refine Ag Tryz.func47 rfl rfl rfl fun C hC => ?_
 unfold Ub at h
 refine Aa fun w k => nD (nG [] I (nQ (cs := Ab g) (m := 6) I I I dS fun y => nG [] I (nQ (cs := A7 i) (m := 4) I I I dS fun A => nG [] I (nQ (cs := As j) (m := 3) I I I dS fun B => Af 1 I (nE ?_)))))
 subst k
 refine Aa fun D l => nH ?_
 obtain ⟨E, n, h⟩ := Ac h
 refine nD (Ap 2 [.o 0 0, .o 1 1] I J2 (Cg (bO _ _ _ n) (Af 1 I (nE (Aq I (Ay h I ?_ ?_))))))
 intro p h
 refine Aq I (nM g0 ?_)
 obtain rfl := oi h
 exact nK pr
 intro p h
 refine nI ?_
 subst l
 refine Aa fun F s => nH ?_
 obtain ⟨G, t, h⟩ := Ac h
 refine nD (Ap 2 [.o 0 0, .o 1 2] I J2 (Cg (Ie _ _ _ t) (Af 1 I (nE (Aq I (Ay h I ?_ ?_))))))
 intro u h
 refine Aq I (nM g0 ?_)
 obtain rfl := oi h
 exact nK pr
 intro u h
 refine nI ?_
 subst s
 refine nH (Dt 38 (decide (b < 1) || (decide (b > 1000) || (decide (e < 0) || decide (e > 100)))) ?_ ?_)
 refine nD (Af 3 I ?_)
 rcases bt (decide (b < 1)) with a | a
 refine Ad 27 I a (Af 11 I (nE ?_))
 exact jf (by simp only [a, bz]) I I I2
 refine Ad 27 I a (Af 4 I ?_)
 rcases bt (decide (b > 1000)) with d | d
 refine Ad 31 I d (Af 7 I (nE ?_))
 exact jf (by simp only [a, d, bz]) I I I2
 refine Ad 31 I d (Af 4 I ?_)
 rcases bt (decide (e < 0)) with f | f
 refine Ad 35 I f (Af 3 I (nE ?_))
 exact jf (by simp only [a, d, f, bz]) I I I2
 refine Ad 35 I f (Af 3 I (nE ?_))
 exact jf (by simp only [a, d, f, bz]) I I I2
 refine Ay h I ?_ ?_
 intro v h
 refine Aq I (nM g0 ?_)
 obtain rfl := oi h
 exact nK pr
 intro v h
 refine nI (Aq I (nM g0 ?_))
 obtain rfl := oi h
 exact nK pr
end Go.Proofs.YtmaamhgjeampmaaGreat
