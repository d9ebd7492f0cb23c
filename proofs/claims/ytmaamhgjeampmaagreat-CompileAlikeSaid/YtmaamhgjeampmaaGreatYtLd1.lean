/- Walks that show what functions of the program compute; printed by a program of ours. No condition. -/
import Derived.Test.YtmaamhgjeampmaaGreatYtL6
import Derived.Test.YtmaamhgjeampmaaGreatYtD
set_option maxRecDepth 100000
namespace Go.Proofs.YtmaamhgjeampmaaGreat
open Go.Aw
set_option linter.unusedVariables false
set_option linter.unusedSimpArgs false
set_option maxHeartbeats 4000000
theorem Tr (a : Network) (e : Plan) (b : Int) (r : Int × Int) (h : Nn a e b = some r) : ACalls Am 84 [.agg (Ab a), .agg (As e), .V b] [] (fun x new => x = .tup [.V r.1, .V r.2] ∧ new = []) := by
 refine Ag Tryz.func84 rfl rfl rfl fun C hC => ?_
 unfold Nn at h
 refine Aa fun s f => nD (nG [] I (nQ (cs := Ab a) (m := 6) I I I dS fun t => nG [] I (nQ (cs := As e) (m := 3) I I I dS fun u => Af 2 I (nE ?_))))
 subst f
 refine Aa fun v g => nH ?_
 obtain ⟨w, i, h⟩ := Ac h
 refine nD (Ap 2 [.o 0 0, .o 1 1] I J2 (Cg (Gy _ _ _ i) (Af 1 I (nE (Aq I (Ay h I ?_ ?_))))))
 intro j h
 refine Aq I (nM g0 ?_)
 obtain rfl := oi h
 exact nK ⟨.inr I, [_, _], [], J2, Cf, I2⟩
 intro j h
 refine nI ?_
 subst g
 refine Aa fun y k => Dt 25 (decide (b < 0) || decide (b ≥ (a.Nodes.length : Int))) ?_ ?_
 refine nD (Af 3 I ?_)
 rcases bt (decide (b < 0)) with d | d
 refine Ad 19 I d (Af 6 I (nE ?_))
 exact jf (by simp only [d, bz]) I I I2
 refine Ad 19 I d (Ap 6 [.o 2 0, .l 3 (a.Nodes.length : Int)] I ⟨Bh, I, J⟩ (nE ?_))
 exact jf (by simp only [d, bz]) I I I2
 refine Ay h I ?_ ?_
 intro n h
 refine Aq I (nM g0 ?_)
 obtain rfl := oi h
 exact nK ⟨.inr I, [_, _], [], J2, Cf, I2⟩
 intro n h
 refine nI ?_
 subst k
 refine nH ?_
 obtain ⟨A, p, h⟩ := Ac h
 refine nD (Ap 3 [.o 0 0, .o 1 1] I J2 (Cg (Tl _ _ _ _ p) (Af 5 I (nE (Aq I (nM g0 ?_))))))
 obtain rfl := oi h
 exact nK ⟨.inr I, [_, _], [], J2, Cf, I2⟩
theorem Ib (a : Valve) (r : Bool) (h : G4 a = r) : ACalls Am 106 [.agg (Au a)] [] (fun x new => x = .v (.bool r) ∧ new = []) := by
 refine Ag Tryz.func106 rfl rfl rfl fun C hC => ?_
 unfold G4 at h
 refine Aa fun f e => nD (nG [] I (nQ (cs := Au a) (m := 4) I I I dS fun g => Af 1 I (nE ?_)))
 subst e
 refine Al (fun s ob => s = [(2, .v (.bool (decide (a.Travel ≥ 1) && (decide (a.Travel ≤ 60) && (decide (a.Open ≥ 0) && decide (a.Open ≤ a.Travel))))))] ∧ ob = []) [] J ?_ ?_
 refine nD (Ap 4 [.o 1 0] I J1 ?_)
 rcases bt (decide (a.Travel ≥ 1)) with b | b
 refine Ad 6 I b (Ap 5 [.o 1 0] I J1 ?_)
 rcases bt (decide (a.Travel ≤ 60)) with c | c
 refine Ad 11 I c (Ap 5 [.o 1 0] I J1 ?_)
 rcases bt (decide (a.Open ≥ 0)) with d | d
 refine Ad 16 I d (Ap 7 [.o 1 0, .o 3 0] I J2 (nE ?_))
 exact lf I2 ⟨(Dz (by simp only [b, c, d, bz])), J⟩ [] I
 refine Ad 16 I d (Af 7 I (nE ?_))
 exact lf I2 ⟨(Dz (by simp only [b, c, d, bz])), J⟩ [] I
 refine Ad 11 I c (Af 12 I (nE ?_))
 exact lf I2 ⟨(Dz (by simp only [b, c, bz])), J⟩ [] I
 refine Ad 6 I b (Af 17 I (nE ?_))
 exact lf I2 ⟨(Dz (by simp only [b, bz])), J⟩ [] I
 rintro s ob ⟨rfl, rfl⟩
 obtain rfl := h
 exact nK pr
theorem Of (a : Valve) (r : Bool) (h : Jf a = r) : ACalls Am 100 [.agg (Au a)] [] (fun x new => x = .v (.bool r) ∧ new = []) := by
 refine Ag Tryz.func100 rfl rfl rfl fun C hC => ?_
 unfold Jf at h
 refine Aa fun e d => nD (nG [] I (nQ (cs := Au a) (m := 4) I I I dS fun f => Af 1 I (nE ?_)))
 subst d
 refine Al (fun s ob => s = [(2, .v (.bool ((G4 a) && (a.Open == a.Travel))))] ∧ ob = []) [] J ?_ ?_
 refine nD (Ap 1 [.o 0 0] I J1 (Cg (Ib a _ I) (Af 1 I ?_)))
 rcases bt ((G4 a)) with b | b
 refine Ad 5 I b (Ap 7 [.o 1 0, .o 3 0] I J2 (nE ?_))
 exact lf I2 ⟨(Dz (by simp only [b, bz])), J⟩ [] I
 refine Ad 5 I b (Af 7 I (nE ?_))
 exact lf I2 ⟨(Dz (by simp only [b, bz])), J⟩ [] I
 rintro s ob ⟨rfl, rfl⟩
 obtain rfl := h
 exact nK pr
theorem bM (a : Valve) (r : Valve × Int) (h : Ht a = r) : ACalls Am 107 [.agg (Au a)] [] (fun x new => x = .tup [.agg (Au r.1), .V r.2] ∧ new = []) := by
 refine Ag Tryz.func107 rfl rfl rfl fun C hC => ?_
 unfold Ht at h
 refine Aa fun u f => nD (nG [] I (nQ (cs := Au a) (m := 4) I I I dS fun g => nG [] I (nN (cs := [.V 0, .V 0, .v (.bool false), .v (.bool false)]) (m := 4) I I I I I dS fun i => Af 1 I (nE ?_))))
 subst f
 refine Aa fun w j => nH (nD (Ap 1 [.o 0 0] I J1 (Cg (Ib a _ I) (Af 1 I (nE (Ay h I ?_ ?_))))))
 intro k h
 refine nH (nD (Ap 1 [.o 0 0] I J1 (nG [1] I (Ax 1 0 0 [Au a] I (Af 1 I (nE (Cb [1] I ?_)))))))
 obtain rfl := h
 exact nK ⟨.inr I, [_, _], [], ⟨⟨0, _, _, _, _, _, _, _, I5⟩, I, J⟩, Cf, I2⟩
 intro k h
 refine nI ?_
 subst j
 refine Aa fun y l => Bu [.o 1 0] I J1 (Ay h I ?_ ?_)
 intro n h
 refine nH (nD (Ap 1 [.o 0 0] I J1 (nG [1] I (Ax 1 0 0 [Au a] I (Af 1 I (nE (Cb [1] I ?_)))))))
 obtain rfl := h
 exact nK ⟨.inr I, [_, _], [], ⟨⟨0, _, _, _, _, _, _, _, I5⟩, I, J⟩, Cf, I2⟩
 intro n h
 refine nI ?_
 subst l
 refine Al (fun s ob => ∃ (e : Int), Ht.J1 a e = r ∧ s = [] ∧ ob = [.arr g 74 4 1 [[.V a.Travel, .V e, .v (.bool a.Want), .v (.bool a.Stuck)]], .arr i 74 4 1 [[.V 0, .V 0, .v (.bool false), .v (.bool false)]]]) [(1, _), (2, _)] J2 ?_ ?_
 refine Dt 19 (a.Want && decide (a.Open < a.Travel)) ?_ ?_
 refine nD (Ap 3 [.o 1 0] I J1 ?_)
 rcases bt (a.Want) with b | b
 refine Ad 13 I b (Ap 6 [.o 1 0, .o 3 0] I J2 (nE ?_))
 exact jf (by simp only [b, bz]) I I I2
 refine Ad 13 I b (Af 6 I (nE ?_))
 exact jf (by simp only [b, bz]) I I I2
 refine Ay h I ?_ ?_
 intro p h
 refine nD (Ap 4 [.o 1 0] I J1 (nG [0] I (Ax 0 0 1 [[.V a.Travel, .V (wr (a.Open + 1)), .v (.bool a.Want), .v (.bool a.Stuck)]] I (nE ?_))))
 exact lg ⟨wr (a.Open + 1), h, I2⟩ [0, 1]
 intro p h
 refine Dt 31 ((!a.Want) && decide (a.Open > 0)) ?_ ?_
 refine nD (Ap 4 [.o 1 0] I J1 ?_)
 rcases bt ((!a.Want)) with d | d
 refine Ad 27 I d (Ap 4 [.o 1 0] I J1 (nE ?_))
 exact jf (by simp only [d, bz]) I I I2
 refine Ad 27 I d (Af 4 I (nE ?_))
 exact jf (by simp only [d, bz]) I I I2
 refine Ay h I ?_ ?_
 intro t h
 refine nD (Ap 4 [.o 1 0] I J1 (nG [0] I (Ax 0 0 1 [[.V a.Travel, .V (wr (a.Open - 1)), .v (.bool a.Want), .v (.bool a.Stuck)]] I (nE ?_))))
 exact lg ⟨wr (a.Open - 1), h, I2⟩ [0, 1]
 intro t h
 refine nI ?_
 exact lg ⟨a.Open, h, I2⟩ [0, 1]
 rintro s ob ⟨e, h, rfl, rfl⟩
 unfold Ht.J1 at h
 refine nH (nD (Ap 1 [.o 0 0] I J1 (nG [1] I (Ax 1 0 0 [[.V a.Travel, .V e, .v (.bool a.Want), .v (.bool a.Stuck)]] I (Af 1 I (nE (Cb [1] I ?_)))))))
 obtain rfl := h
 exact nK ⟨.inr I, [_, _], [], ⟨⟨0, _, _, _, _, _, _, _, I5⟩, I, J⟩, Cf, I2⟩
theorem cY (d : Valve) (e : Int) (r : Valve × Int) (h : Nq d e = some r) : ACalls Am 65 [.agg (Au d), .V e] [] (fun x new => x = .tup [.agg (Au r.1), .V r.2] ∧ new = []) := by
 refine Ag Tryz.func65 rfl rfl rfl fun C hC => ?_
 unfold Nq at h
 refine Aa fun A j => nD (nG [] I (nQ (cs := Au d) (m := 4) I I I dS fun g => nG [] I (nN (cs := [.V 0, .V 0, .v (.bool false), .v (.bool false)]) (m := 4) I I I I I dS fun i => Af 1 I (nE ?_))))
 subst j
 refine Aa fun B k => nH (nD (Ap 1 [.o 0 0] I J1 (Cg (Ib d _ I) (Af 1 I (nE (Ay h I ?_ ?_))))))
 intro l h
 refine nH (nD (Ap 1 [.o 0 0] I J1 (nG [1] I (Ax 1 0 0 [Au d] I (Af 1 I (nE (Cb [1] I ?_)))))))
 obtain rfl := oi h
 exact nK ⟨.inr I, [_, _], [], ⟨⟨0, _, _, _, _, _, _, _, I5⟩, I, J⟩, Cf, I2⟩
 intro l h
 refine nI ?_
 subst k
 refine Aa fun D n => Dt 16 (decide (e < 0) || decide (e > 400)) ?_ ?_
 refine nD (Af 3 I ?_)
 rcases bt (decide (e < 0)) with f | f
 refine Ad 13 I f (Af 3 I (nE ?_))
 exact jf (by simp only [f, bz]) I I I2
 refine Ad 13 I f (Af 3 I (nE ?_))
 exact jf (by simp only [f, bz]) I I I2
 refine Ay h I ?_ ?_
 intro p h
 refine nH (nD (Ap 1 [.o 0 0] I J1 (nG [1] I (Ax 1 0 0 [Au d] I (Af 1 I (nE (Cb [1] I ?_)))))))
 obtain rfl := oi h
 exact nK ⟨.inr I, [_, _], [], ⟨⟨0, _, _, _, _, _, _, _, I5⟩, I, J⟩, Cf, I2⟩
 intro p h
 refine nI ?_
 subst n
 refine Al (fun s ob => ∃ (b : Int × Int × Bool × Bool), Nq.J1 b = some r ∧ s = [] ∧ ob = [.arr g 74 4 1 [[.V b.1, .V b.2.1, .v (.bool b.2.2.1), .v (.bool b.2.2.2)]], .arr i 74 4 1 [[.V 0, .V 0, .v (.bool false), .v (.bool false)]]]) [(2, _), (4, _)] J2 ?_ ?_
 refine Aq I (nJ ?_)
 obtain ⟨E, t, u⟩ := Ac h
 clear h
 refine Bz t [(1, _), (2, _), (4, _)] J3 (fun (a : Int × Int × Bool × Bool × Int) s ob => s = [(6, .V a.2.2.2.2)] ∧ ob = [.arr g 74 4 1 [[.V a.1, .V a.2.1, .v (.bool a.2.2.1), .v (.bool a.2.2.2.1)]], .arr i 74 4 1 [[.V 0, .V 0, .v (.bool false), .v (.bool false)]]]) ⟨I, I⟩ ⟨I, J⟩ ⟨[0, 1], I, by decide⟩ ?_
 rintro a F s ob ⟨rfl, rfl⟩ h w
 unfold Nq.B2 at h
 refine nH (Aq I (Ay h I ?_ ?_))
 intro y h
 refine nI (nH (nJ (nD (Ap 1 [.o 0 0] I J1 (Cg (bM (⟨a.1, a.2.1, a.2.2.1, a.2.2.2.1⟩ : Valve) _ I) (Af 3 I (nG [0] I (Ax 0 0 0 [Au ((Ht (⟨a.1, a.2.1, a.2.2.1, a.2.2.2.1⟩ : Valve)).1)] I (nE (nD (Af 3 I ?_)))))))))))
 obtain rfl := oi h
 refine nE ?_
 exact ⟨_, _, _, I, I2, J4, [0, 1], I, by decide⟩
 intro y h
 obtain rfl := w _ (oi h).symm
 replace h := u
 refine nO ?_
 exact lg ⟨(a.1, a.2.1, a.2.2.1, a.2.2.2.1), h, I2⟩ [0, 1]
 rintro s ob ⟨b, h, rfl, rfl⟩
 unfold Nq.J1 at h
 refine nH (nD (Ap 1 [.o 0 0] I J1 (nG [1] I (Ax 1 0 0 [[.V b.1, .V b.2.1, .v (.bool b.2.2.1), .v (.bool b.2.2.2)]] I (Af 1 I (nE (Cb [1] I ?_)))))))
 obtain rfl := oi h
 exact nK ⟨.inr I, [_, _], [], ⟨⟨0, _, _, _, _, _, _, _, I5⟩, I, J⟩, Cf, I2⟩
theorem cK (a : Valve) (b : Bool) (r : Valve × Int) (h : K7 a b = r) : ACalls Am 103 [.agg (Au a), .v (.bool b)] [] (fun x new => x = .tup [.agg (Au r.1), .V r.2] ∧ new = []) := by
 refine Ag Tryz.func103 rfl rfl rfl fun C hC => ?_
 unfold K7 at h
 refine Aa fun f d => nD (nG [] I (nQ (cs := Au a) (m := 4) I I I dS fun g => nG [] I (nN (cs := [.V 0, .V 0, .v (.bool false), .v (.bool false)]) (m := 4) I I I I I dS fun i => Af 1 I (nE ?_))))
 subst d
 refine nH (nH (nD (Ap 1 [.o 0 0] I J1 (Cg (Ib a _ I) (Af 1 I (nE (Ay h I ?_ ?_)))))))
 intro e h
 refine nH (nD (Ap 1 [.o 0 0] I J1 (nG [1] I (Ax 1 0 0 [Au a] I (Af 1 I (nE (Cb [1] I ?_)))))))
 obtain rfl := h
 exact nK ⟨.inr I, [_, _], [], ⟨⟨0, _, _, _, _, _, _, _, I5⟩, I, J⟩, Cf, I2⟩
 intro e h
 refine nI (nH (nD (Af 2 I (nG [0] I (Ax 0 0 2 [[.V a.Travel, .V a.Open, .v (.bool b), .v (.bool a.Stuck)]] I (nE (nH (nD (Ap 1 [.o 0 0] I J1 (nG [1] I (Ax 1 0 0 [[.V a.Travel, .V a.Open, .v (.bool b), .v (.bool a.Stuck)]] I (Af 1 I (nE (Cb [1] I ?_))))))))))))))
 obtain rfl := h
 exact nK ⟨.inr I, [_, _], [], ⟨⟨0, _, _, _, _, _, _, _, I5⟩, I, J⟩, Cf, I2⟩
theorem Ol (a : Lineup) (r : List Bool) (h : K6 a = some r) : ACalls Am 44 [.agg (C8 a)] [] (fun x new => ∃ (b : Value), x = .v b ∧ new = [.us b 4 1 (r.map rB)]) := by
 refine Ag Tryz.func44 rfl rfl rfl fun C hC => ?_
 unfold K6 at h
 refine nH (nD (nG [] I (nQ (cs := C8 a) (m := 2) I I I dS fun g => Af 1 I (nE (nH ?_)))))
 obtain ⟨i, d, h⟩ := Ac h
 obtain ⟨e, f, h⟩ := Ac h
 refine Bw (.still 1 (.still 2 (.still 4 (.still 5 (.act 0 (.act 3 (.act 6 (.still 7 .nil)))))))) [0] [_] I (By 4 [.o 1 0, .o 3 0] I J2 (nF [] I I I (nP (sz := 1) (es := ([] : List Bool).map rB) I I I I I I I I I I I dS fun j => nF [1] I I I (Bf 1 I d fun k => nF [1] I I I (Bf 1 I f fun c => Yn 2 (Bm 1 I (Ak (nE (Cb [1] I ?_)))))))))
 obtain rfl := oi h
 exact nK ⟨.inr I, [_], [.us c 4 1 (e.map rB)], J1, Dn I (Cf), ⟨c, I2⟩⟩
theorem Oe (b : Plan) (r : Lineup) (h : Je b = some r) : ACalls Am 45 [.agg (As b)] [] (fun x new => x = .agg (C8 r) ∧ new = []) := by
 refine Ag Tryz.func45 rfl rfl rfl fun C hC => ?_
 unfold Je at h
 refine Aa fun y1 A => nD (nG [] I (nQ (cs := As b) (m := 3) I I I dS fun p => nG [] I (nN (cs := [.N, .N]) (m := 2) I I I I I dS fun e => nE ?_)))
 subst A
 refine Aa fun y4 B => nD (nG [] I (nN (cs := [.N, .N]) (m := 2) I I I I I dS fun f => nE ?_))
 subst B
 refine Al (fun s ob => ∃ (c : List Bool) (a : Value), Je.J1 b c = some r ∧ s = [] ∧ ob = [.arr p 37 3 1 [As b], .arr e 97 2 1 [[.N, .N]], .arr f 97 2 1 [[.v a, .N]], .us a 4 1 (c.map rB)]) [(1, _), (2, _), (3, _)] J3 ?_ ?_
 refine Aq I (nJ (nM (Bo 4 1) ?_))
 obtain ⟨ae, D, E⟩ := Ac h
 clear h
 refine Bz D [(1, _), (2, _), (3, _)] J3 (fun (i : (List Bool) × Int) s ob => ∃ (j : Value), s = [(4, .V i.2)] ∧ ob = [.arr p 37 3 1 [As b], .arr e 97 2 1 [[.N, .N]], .arr f 97 2 1 [[.v j, .N]], .us j 4 1 (i.1.map rB)]) ⟨(.slice none 0 0), I2⟩ ⟨I, J⟩ ⟨[0, 1, 2, 3], I, by decide⟩ ?_
 rintro i af s ob ⟨j, rfl, rfl⟩ h F
 unfold Je.B4 at h
 refine Aa fun ag G => Bu [.o 2 0, .l 3 (b.Rates.length : Int)] I ⟨Bh, I, J⟩ (Ay h I ?_ ?_)
 intro H h
 refine nI ?_
 subst G
 refine nH (nJ ?_)
 obtain ⟨t, ⟨M, O⟩, h⟩ := Bk h
 obtain ⟨ah, P, h⟩ := Ac h
 refine Bw (sl 8 0 (.act 8 (.act 9 (.still 10 (.drop 11 .nil))))) [2, 0] [_, _] I (By 8 [.o 1 0, .o 3 1, .x 5 t.1 (rI t.2)] I ⟨⟨M, Ah O⟩, I, I, J⟩ (nF [] I I I (nR 1 (([(t.2 != 0)] : List Bool).map rB) (nF [3] I I I (Bf 3 I P fun w => Bm 1 I (nL 3 I fun Q => nW [2] I I I (nU 2 0 0 (es' := [[.v w, .N]]) I I I I I I (Ai Q) I (Bs I) I I (Ak (nE (nD (Af 3 I ?_)))))))))))
 obtain rfl := oi h
 refine nE ?_
 exact ⟨_, _, _, I, ⟨w, I2⟩, J4, [0, 1, 2, 3], I, by decide⟩
 intro H h
 obtain rfl := F _ (oi h).symm
 replace h := E
 refine nO ?_
 exact lg ⟨i.1, j, h, I2⟩ [0, 1, 2, 3]
 rintro s ob ⟨c, a, h, rfl, rfl⟩
 unfold Je.J1 at h
 refine Al (fun s ob => ∃ (g : List Bool) (d : Value), Je.J2 c g = some r ∧ s = [] ∧ ob = [.arr e 97 2 1 [[.N, .N]], .arr f 97 2 1 [[.v a, .v d]], .us a 4 1 (c.map rB), .us d 4 1 (g.map rB)]) [(2, _), (3, _)] J2 ?_ ?_
 refine Aq I (nJ (nM (Bo 4 1) ?_))
 obtain ⟨ai, R, S⟩ := Ac h
 clear h
 refine Bz R [(1, _), (2, _), (3, _)] J3 (fun (k : (List Bool) × Int) s ob => ∃ (n : Value), s = [(5, .V k.2)] ∧ ob = [.arr p 37 3 1 [As b], .arr e 97 2 1 [[.N, .N]], .arr f 97 2 1 [[.v a, .v n]], .us a 4 1 (c.map rB), .us n 4 1 (k.1.map rB)]) ⟨(.slice none 0 0), I2⟩ ⟨I, J⟩ ⟨[0, 1, 2, 3, 4], I, by decide⟩ ?_
 rintro k aj s ob ⟨n, rfl, rfl⟩ h U
 unfold Je.B3 at h
 refine Aa fun ak W => Bu [.o 2 0, .l 3 (b.Ports.length : Int)] I ⟨Bh, I, J⟩ (Ay h I ?_ ?_)
 intro X h
 refine nI ?_
 subst W
 refine nH (nJ ?_)
 obtain ⟨u, ⟨Y, Z⟩, h⟩ := Bk h
 obtain ⟨al, aa, h⟩ := Ac h
 refine Bw (sl 8 0 (.act 8 (.act 9 (.still 10 (.drop 11 .nil))))) [2, 0] [_, _] I (By 8 [.o 1 0, .o 3 1, .x 5 u.1 (rI u.2)] I ⟨⟨Y, Ah Z⟩, I, I, J⟩ (nF [] I I I (nR 1 (([(u.2 != 0)] : List Bool).map rB) (nF [4] I I I (Bf 4 I aa fun y => Bm 1 I (nL 4 I fun ab => nW [2] I I I (nU 2 0 1 (es' := [[.v a, .v y]]) I I I I I I (Ai ab) I (Bs I) I I (Ak (nE (nD (Af 3 I ?_)))))))))))
 obtain rfl := oi h
 refine nE ?_
 exact ⟨_, _, _, I, ⟨y, I2⟩, J4, [0, 1, 2, 3, 4], I, by decide⟩
 intro X h
 obtain rfl := U _ (oi h).symm
 replace h := S
 refine nO ?_
 exact lg ⟨k.1, n, h, I2⟩ [1, 2, 3, 4]
 rintro s ob ⟨g, d, h, rfl, rfl⟩
 unfold Je.J2 at h
 refine nH (nD (Ap 1 [.o 0 1] I J1 (nG [0] I (Ax 0 0 0 [[.v a, .v d]] I (nE (nM (A0 [2, 3] (K := [.us a 4 1 (c.map rB), .us d 4 1 (g.map rB)]) I [] J (ob' := [.arr e 97 2 1 [[.list 1 (c.map rB), .list 1 (g.map rB)]], .arr f 97 2 1 [[.v a, .v d]]]) (.cons (.arr (.cons (.us 0 I) (.cons (.us 1 I) (.rest _)))) (.rest _))) (Cb [0] I ?_)))))))
 obtain rfl := oi h
 exact nK ⟨.inr I, [_], [], ⟨⟨0, _, _, _, _, _, _, _, I5⟩, J⟩, Cf, I2⟩
theorem Tu (a : Network) (r : Int) (h : Qj a = r) : ACalls Am 82 [.agg (Ab a)] [] (fun x new => x = .V r ∧ new = []) := by
 refine Ag Tryz.func82 rfl rfl rfl fun C hC => ?_
 unfold Qj at h
 refine nH (nD (nG [] I (nQ (cs := Ab a) (m := 6) I I I dS fun b => Af 1 I (nE (Bu [.o 1 0, .l 2 (a.Segments.length : Int), .o 4 0, .l 5 (a.Ports.length : Int)] I ⟨Bh, I, Bh, I, J⟩ (nM g0 ?_))))))
 obtain rfl := h
 exact nK pr
theorem dA (a : Network) (b : List Valve) (r : Int) (h : Nt a b = some r) : ACalls Am 99 [.agg (Ab a), .list 4 (b.map Au)] [] (fun x new => x = .V r ∧ new = []) := by
 refine Ag Tryz.func99 rfl rfl rfl fun C hC => ?_
 unfold Nt at h
 refine Aa fun A j => nD (nG [] I (nQ (cs := Ab a) (m := 6) I I I dS fun B => Af 1 I (nE ?_)))
 subst j
 refine Aa fun D k => nH (nD (Ap 3 [.l 1 (b.length : Int), .o 2 0] I ⟨I, Bh, J⟩ (Cg (Tu a _ I) (Af 1 I (nE (Ay h I ?_ ?_))))))
 intro n h
 refine Aq I (nM g0 ?_)
 obtain rfl := oi h
 exact nK pr
 intro n h
 refine nI ?_
 subst k
 refine Al (fun s ob => ∃ (e : Unit), Nt.J1 e = some r ∧ s = [] ∧ ob = []) [] J ?_ ?_
 refine Aq I (nJ ?_)
 obtain ⟨E, p, f⟩ := Ac h
 clear h
 refine Bz p [(1, _)] J1 (fun (g : Int) s ob => s = [(5, .V g)] ∧ ob = []) ⟨I, I⟩ ⟨I, J⟩ ⟨[], I, by decide⟩ ?_
 rintro g F s ob ⟨rfl, rfl⟩ h i
 unfold Nt.B2 at h
 refine Aa fun G t => Bu [.l 2 (b.length : Int)] I ⟨Bh, J⟩ (Ay h I ?_ ?_)
 intro u h
 refine nI ?_
 subst t
 refine nH (nJ (nH ?_))
 obtain ⟨d, ⟨v, w⟩, h⟩ := Bk h
 refine nD (Ap 4 [.x 2 d.1 (Au d.2)] I ⟨⟨v, Ah w⟩, J⟩ (Cg (Ib d.2 _ I) (Af 1 I (nE (Ay h I ?_ ?_)))))
 intro y h
 refine Aq I ?_
 obtain rfl := i _ (oi h).symm
 replace h := f
 replace h := Dh h
 obtain rfl := oi h
 exact nK pr
 intro y h
 refine nI (nD (Af 3 I ?_))
 obtain rfl := oi h
 refine nE ?_
 exact ⟨_, _, _, I, I2, J2, [], I, by decide⟩
 intro u h
 obtain rfl := i _ (oi h).symm
 replace h := f
 replace h := Do h
 refine nO ?_
 exact lg ⟨(), h, I2⟩ []
 rintro s ob ⟨e, h, rfl, rfl⟩
 unfold Nt.J1 at h
 refine Aq I ?_
 obtain rfl := oi h
 exact nK pr
theorem Te (a : Path) (r : Path) (h : Nb a = some r) : ACalls Am 71 [.agg (Aj a)] [] (fun x new => x = .agg (Aj r) ∧ new = []) := by
 refine Ag Tryz.func71 rfl rfl rfl fun C hC => ?_
 unfold Nb at h
 refine nH (nD (nG [] I (nQ (cs := Aj a) (m := 4) I I I dS fun d => nG [] I (nN (cs := [.V 0, .V 0, .N, .V 0]) (m := 4) I I I I I dS fun e => nE (nH ?_)))))
 obtain ⟨c, f, h⟩ := Ac h
 refine nD (nG [] I (nP (sz := 2) (es := ([] : List Hop).map Bc) I I I I I I I I I I I dS fun i => Ap 2 [.o 1 0] I J1 (nG [2] I (Bf 2 I f fun b => Af 1 I (nZ 2 I fun g => nG [0] I (nU 0 0 2 (es' := [[.V a.In, .V a.Out, .v b, .V a.Rate]]) I I I I I I (Ai g) I (Bs I) I I (nE (nH (nD (Ap 1 [.o 0 0] I J1 (nG [1] I (Ax 1 0 0 [[.V a.In, .V a.Out, .v b, .V a.Rate]] I (nE ?_)))))))))))))
 refine nM (A0 [2] (K := [.us b 107 2 (c.map Bc)]) I [] J (ob' := [.arr d 52 4 1 [[.V a.In, .V a.Out, .v b, .V a.Rate]], .arr e 52 4 1 [[.V a.In, .V a.Out, .list 2 (c.map Bc), .V a.Rate]]]) (.cons (.same _) (.cons (.arr (.cons (.refl _) (.cons (.refl _) (.cons (.us 0 I) (.rest _))))) (.rest _)))) (Cb [1] I ?_)
 obtain rfl := oi h
 exact nK ⟨.inr I, [_], [], ⟨⟨0, _, _, _, _, _, _, _, I5⟩, J⟩, Cf, I2⟩
theorem S9 (a : Network) (b : Hop) (r : Int × Int) (h : Mw a b = some r) : ACalls Am 110 [.agg (Ab a), .agg (Bc b)] [] (fun x new => x = .tup [.V r.1, .V r.2] ∧ new = []) := by
 refine Ag Tryz.func110 rfl rfl rfl fun C hC => ?_
 unfold Mw at h
 refine Aa fun j d => nD (nG [] I (nQ (cs := Ab a) (m := 6) I I I dS fun k => nG [] I (nQ (cs := Bc b) (m := 2) I I I dS fun l => Af 2 I (nE ?_))))
 subst d
 refine Aa fun n e => ?_
 obtain ⟨c, ⟨f, g⟩, h⟩ := Bk h
 refine nD (Ap 6 [.o 1 0, .o 3 1, .x 4 c.1 (Ar c.2)] I ⟨⟨f, Ah g⟩, I, I, J⟩ (nG [] I (nN (cs := [.v (.string ⟨#[]⟩), .V 0, .V 0, .V 0, .V 0, .V 0, .N]) (m := 7) I I I I I dS fun p => nG [2] I (Ax 2 0 0 [Ar c.2] I (nE ?_)))))
 subst e
 refine nH (Bu [.o 1 1] I J1 (Ay h I ?_ ?_))
 intro i h
 refine Pk (pd 6 0 []) [2] [_] [.o 1 0, .o 3 0] I I J2 (nM g0 ?_)
 obtain rfl := oi h
 exact nK ⟨.inr I, [_, _], [], J2, Cf, I2⟩
 intro i h
 refine nI (Pk (pd 6 0 []) [2] [_] [.o 1 0, .o 3 0] I I J2 (nM g0 ?_))
 obtain rfl := oi h
 exact nK ⟨.inr I, [_, _], [], J2, Cf, I2⟩
theorem Sv (b : Network) (a : Path) (r : Bool) (h : Kx b a = some r) : ACalls Am 70 [.agg (Ab b), .agg (Aj a)] [] (fun x new => x = .v (.bool r) ∧ new = []) := by
 refine Ag Tryz.func70 rfl rfl rfl fun C hC => ?_
 unfold Kx at h
 refine Aa fun y1 ab => nD (nG [] I (nQ (cs := Ab b) (m := 6) I I I dS fun p => nG [] I (nQ (cs := Aj a) (m := 4) I I I dS fun t => Af 1 I (nE ?_))))
 subst ab
 refine Aa fun y4 ac => Dt 57 (decide (a.In < 0) || (decide (a.In ≥ (b.Ports.length : Int)) || (decide (a.Out < 0) || (decide (a.Out ≥ (b.Ports.length : Int)) || ((a.In == a.Out) || (decide (a.Rate < 1) || (decide (a.Rate > 1000) || decide ((a.Hops.length : Int) > 32)))))))) ?_ ?_
 refine nD (Ap 4 [.o 1 1] I J1 ?_)
 rcases bt (decide (a.In < 0)) with e | e
 refine Ad 14 I e (Af 43 I (nE ?_))
 exact jf (by simp only [e, bz]) I I I2
 refine Ad 14 I e (Ap 8 [.o 1 1, .o 3 0, .l 4 (b.Ports.length : Int)] I ⟨Bh, I, I, J⟩ ?_)
 rcases bt (decide (a.In ≥ (b.Ports.length : Int))) with g | g
 refine Ad 22 I g (Af 35 I (nE ?_))
 exact jf (by simp only [e, g, bz]) I I I2
 refine Ad 22 I g (Ap 5 [.o 1 1] I J1 ?_)
 rcases bt (decide (a.Out < 0)) with i | i
 refine Ad 27 I i (Af 30 I (nE ?_))
 exact jf (by simp only [e, g, i, bz]) I I I2
 refine Ad 27 I i (Ap 8 [.o 1 1, .o 3 0, .l 4 (b.Ports.length : Int)] I ⟨Bh, I, I, J⟩ ?_)
 rcases bt (decide (a.Out ≥ (b.Ports.length : Int))) with j | j
 refine Ad 35 I j (Af 22 I (nE ?_))
 exact jf (by simp only [e, g, i, j, bz]) I I I2
 refine Ad 35 I j (Ap 7 [.o 1 1, .o 3 1] I J2 ?_)
 rcases bt ((a.In == a.Out)) with n | n
 refine Ad 42 I n (Af 15 I (nE ?_))
 exact jf (by simp only [e, g, i, j, n, bz]) I I I2
 refine Ad 42 I n (Ap 5 [.o 1 1] I J1 ?_)
 rcases bt (decide (a.Rate < 1)) with u | u
 refine Ad 47 I u (Af 10 I (nE ?_))
 exact jf (by simp only [e, g, i, j, n, u, bz]) I I I2
 refine Ad 47 I u (Ap 5 [.o 1 1] I J1 ?_)
 rcases bt (decide (a.Rate > 1000)) with A | A
 refine Ad 52 I A (Af 5 I (nE ?_))
 exact jf (by simp only [e, g, i, j, n, u, A, bz]) I I I2
 refine Ad 52 I A (Ap 5 [.o 1 1, .l 2 (a.Hops.length : Int)] I ⟨Bh, I, J⟩ (nE ?_))
 exact jf (by simp only [e, g, i, j, n, u, A, bz]) I I I2
 refine Ay h I ?_ ?_
 intro ad h
 refine Aq I (nM g0 ?_)
 obtain rfl := oi h
 exact nK pr
 intro ad h
 refine nI ?_
 subst ac
 refine Aa fun a9 ae => ?_
 obtain ⟨H, ⟨af, ag⟩, h⟩ := Bk h
 refine I6 [.o 1 0, .o 3 1, .x 4 H.1 (Bj H.2)] I ⟨⟨af, Ah ag⟩, I, I, J⟩ ?_
 subst ae
 refine Aa fun ba ah => nD (Af 1 I (nG [] I (nP (sz := 1) (es := ([H.2.Node] : List Int).map rI) I I I I I I I I I I I dS fun ai => Af 1 I (nE ?_))))
 subst ah
 refine Al (fun s ob => ∃ (K : Int), Kx.J1 b a K = some r ∧ s = [(5, .V K)] ∧ ob = [.arr p 32 6 1 [Ab b], .arr t 52 4 1 [Aj a]]) [(2, _), (3, _)] J2 ?_ ?_
 refine Aq I (nJ ?_)
 obtain ⟨bb, aj, D⟩ := Ac h
 clear h
 refine Bz aj [(2, _), (3, _)] J2 (fun (f : Int × (List Int) × Int) s ob => ∃ (w : Value), s = [(5, .V f.1), (6, .v w), (7, .V f.2.2)] ∧ ob = [.arr p 32 6 1 [Ab b], .arr t 52 4 1 [Aj a], .us w 3 1 (f.2.1.map rI)]) ⟨ai, I2⟩ ⟨I, I, I, J⟩ ⟨[0, 1, 2], I, by decide⟩ ?_
 rintro f M s ob ⟨w, rfl, rfl⟩ h E
 unfold Kx.B2 at h
 refine Aa fun bc ak => Bu [.o 2 1, .l 3 (a.Hops.length : Int)] I ⟨Bh, I, J⟩ (Ay h I ?_ ?_)
 intro al h
 refine nI ?_
 subst ak
 refine Al (fun s ob => ∃ (F : Int × (List Int)) (G : Value), Kx.J3 f F = some M ∧ s = [(5, .V F.1), (6, .v G)] ∧ ob = [.arr p 32 6 1 [Ab b], .arr t 52 4 1 [Aj a], .us G 3 1 (F.2.map rI)]) [(2, _), (3, _), (7, _)] J3 ?_ ?_
 refine nJ (Aa fun bd am => Al (fun s ob => ∃ (N : Bool), Kx.J4 b a f N = some M ∧ s = [(92, .v (.bool N))] ∧ ob = [.arr p 32 6 1 [Ab b], .arr t 52 4 1 [Aj a], .us w 3 1 (f.2.1.map rI)]) [(2, _), (3, _), (5, _), (6, _), (7, _)] J5 ?_ ?_)
 obtain ⟨k, ⟨O, P⟩, h⟩ := Bk h
 rcases bt (decide (k.2.Segment < 0)) with B | B
 replace h := B0 B h
 refine Bw (pd 19 0 []) [1] [_] I (By 8 [.o 1 0, .x 3 k.1 (Bc k.2)] I ⟨⟨O, Ah P⟩, I, J⟩ (Bq 81 I B (Bm 11 I (Ak (nE ?_)))))
 exact lg ⟨true, h, I2⟩ [0, 1, 2]
 replace h := Ca B h
 refine Bw (pd 19 0 []) [1, 0] [_, _] I (By 8 [.o 1 0, .x 3 k.1 (Bc k.2)] I ⟨⟨O, Ah P⟩, I, J⟩ (Bq 81 I B (By 11 [.o 1 0, .x 3 k.1 (Bc k.2), .o 7 1, .l 8 (b.Segments.length : Int)] I ⟨Bh, I, ⟨O, Ah P⟩, I, J⟩ (Ak (nE ?_)))))
 exact lg ⟨decide (k.2.Segment ≥ (b.Segments.length : Int)), h, I2⟩ [0, 1, 2]
 rintro s ob ⟨N, h, rfl, rfl⟩
 unfold Kx.J4 at h
 refine Ay h I ?_ ?_
 intro an h
 refine Aq I ?_
 obtain rfl := E _ (oi h).symm
 replace h := D
 replace h := Dh h
 refine nM g0 ?_
 obtain rfl := oi h
 exact nK pr
 intro an h
 refine nI ?_
 subst am
 refine Aa fun be ao => ?_
 obtain ⟨S, ⟨aq, ar⟩, h⟩ := Bk h
 obtain ⟨Q, au, h⟩ := Ac h
 refine Bw (pd 12 0 [6]) [0, 1] [_, _] I (By 6 [.o 0 0, .o 2 1, .x 4 S.1 (Bc S.2)] I ⟨⟨aq, Ah ar⟩, I, I, J⟩ (Ee I (S9 _ _ _ au) (Bm 5 I (Ak (nE ?_)))))
 subst ao
 refine Aa fun bf av => Aq I (Ay h I ?_ ?_)
 intro aw h
 refine Aq I ?_
 obtain rfl := E _ (oi h).symm
 replace h := D
 replace h := Dh h
 refine nM g0 ?_
 obtain rfl := oi h
 exact nK pr
 intro aw h
 refine nI ?_
 subst av
 refine Al (fun s ob => ∃ (U : Unit), Kx.J5 f Q U = some M ∧ s = [] ∧ ob = [.arr p 32 6 1 [Ab b], .arr t 52 4 1 [Aj a], .us w 3 1 (f.2.1.map rI)]) [(2, _), (3, _), (6, _), (7, _), (9, _)] J5 ?_ ?_
 refine Aq I (nJ ?_)
 obtain ⟨bg, ax, W⟩ := Ac h
 clear h
 refine Bz ax [(2, _), (3, _), (6, _), (7, _), (9, _)] J5 (fun (X : Int) s ob => s = [(10, .V X)] ∧ ob = [.arr p 32 6 1 [Ab b], .arr t 52 4 1 [Aj a], .us w 3 1 (f.2.1.map rI)]) ⟨I, I⟩ ⟨I, J⟩ ⟨[0, 1, 2], I, by decide⟩ ?_
 rintro X bh s ob ⟨rfl, rfl⟩ h Y
 unfold Kx.B6 at h
 refine Aa fun bi ay => nH (nD (Af 2 I (nS (Cn 2 I I I I) I (Af 1 I (nE (Ay h I ?_ ?_))))))
 intro az h
 refine nI ?_
 subst ay
 refine nH (nJ (nH ?_))
 obtain ⟨R, ⟨a0, Z⟩, h⟩ := Bk h
 refine nD (Af 2 I (nS (Bi 2 (m := R.1) I I I I I I I a0 (Ah Z)) I (nS (Ba 2 R.1 0 I I I (Ah Z) I (y := .V R.2) I) I (Af 2 I (nE (Ay h I ?_ ?_))))))
 intro a1 h
 refine Aq I ?_
 obtain rfl := Y _ (oi h).symm
 replace h := W
 replace h := Dh h
 obtain rfl := E _ (oi h).symm
 replace h := D
 replace h := Dh h
 refine nM g0 ?_
 obtain rfl := oi h
 exact nK pr
 intro a1 h
 refine nI (nD (Af 3 I ?_))
 obtain rfl := oi h
 refine nE ?_
 exact ⟨_, _, _, I, I2, J6, [0, 1, 2], I, by decide⟩
 intro az h
 obtain rfl := Y _ (oi h).symm
 replace h := W
 replace h := Do h
 refine nO ?_
 exact lg ⟨(), h, I2⟩ [0, 1, 2]
 rintro s ob ⟨U, h, rfl, rfl⟩
 unfold Kx.J5 at h
 refine Aq I ?_
 obtain ⟨a2, a3, h⟩ := Ac h
 refine nD (Af 2 I (nG [] I (nR 1 (([Q.2] : List Int).map rI) (nG [2] I (Bf 2 I a3 fun a4 => Af 1 I (nE ?_))))))
 exact lg ⟨(Q.2, a2), a4, h, I2⟩ [0, 1, 2]
 rintro s ob ⟨F, G, h, rfl, rfl⟩
 unfold Kx.J3 at h
 refine nD (Af 3 I ?_)
 obtain rfl := oi h
 refine nE ?_
 exact ⟨_, _, _, I, ⟨G, I2⟩, J5, [0, 1, 2], I, by decide⟩
 intro al h
 obtain rfl := E _ (oi h).symm
 replace h := D
 replace h := Do h
 refine nO ?_
 exact lg ⟨f.1, h, I2⟩ [0, 1]
 rintro s ob ⟨K, h, rfl, rfl⟩
 unfold Kx.J1 at h
 refine nH ?_
 obtain ⟨aa, ⟨a5, a6⟩, h⟩ := Bk h
 refine I6 [.o 2 0, .o 4 1, .x 5 aa.1 (Bj aa.2)] I ⟨⟨a5, Ah a6⟩, I, I, J⟩ (nM g0 ?_)
 obtain rfl := oi h
 exact nK pr
theorem bF (b : Network) (d : Path) (r : Bool) (h : M4 b d = some r) : ACalls Am 104 [.agg (Ab b), .agg (Aj d)] [] (fun x new => x = .v (.bool r) ∧ new = []) := by
 refine Ag Tryz.func104 rfl rfl rfl fun C hC => ?_
 unfold M4 at h
 refine nH (nD (nG [] I (nQ (cs := Ab b) (m := 6) I I I dS fun k => nG [] I (nQ (cs := Aj d) (m := 4) I I I dS fun l => Af 1 I (nE (Al (fun s ob => ∃ (e : Bool), M4.J1 e = some r ∧ s = [(4, .v (.bool e))] ∧ ob = []) [] J ?_ ?_))))))
 obtain ⟨f, g, h⟩ := Ac h
 refine nD (Ap 1 [.o 0 0] I J1 (Cg (If _ _ g) (Af 2 I ?_)))
 rcases bt ((f == 0)) with a | a
 replace h := B0 a h
 obtain ⟨i, j, h⟩ := Ac h
 refine Ad 8 I a (Ap 2 [.o 0 0, .o 1 1] I J2 (Br I I I (Cg (Sv _ _ _ j) (Af 2 I (nE ?_)))))
 exact lg ⟨i, h, I2⟩ []
 replace h := Ca a h
 refine Ad 8 I a (Af 5 I (nE ?_))
 exact lg ⟨false, h, I2⟩ []
 rintro s ob ⟨e, h, rfl, rfl⟩
 unfold M4.J1 at h
 obtain rfl := oi h
 exact nK pr
end Go.Proofs.YtmaamhgjeampmaaGreat
