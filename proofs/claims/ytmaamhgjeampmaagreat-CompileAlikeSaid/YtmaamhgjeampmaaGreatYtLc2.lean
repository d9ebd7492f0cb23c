/- Walks that show what functions of the program compute; printed by a program of ours. No condition. -/
import Derived.Test.YtmaamhgjeampmaaGreatYtLc1
import Derived.Test.YtmaamhgjeampmaaGreatYtB0
set_option maxRecDepth 100000
namespace Go.Proofs.YtmaamhgjeampmaaGreat
open Go.Aw
set_option linter.unusedVariables false
set_option linter.unusedSimpArgs false
set_option maxHeartbeats 4000000
theorem Td (d : Int) (c : Nat) (e : List Step) (w1_0 : Value) (r : List Step) (h : K3 d e = some r) : ACalls Am 51 [.V d, .v (.pointer (some ⟨c, 0, none⟩))] [.arr c 43 1 1 [[.v w1_0]], .us w1_0 54 7 (e.map A6)] (Gp 2 fun x os new => ∃ (u0_0 : Value), x = .tup [] ∧ os = [.arr c 43 1 1 [[.v u0_0]], .us u0_0 54 7 (r.map A6)] ∧ new = []) := by
 refine Ag Tryz.func51 rfl rfl rfl fun C hC => ?_
 unfold K3 at h
 refine nJ ?_
 obtain ⟨u, g, i⟩ := Ac h
 clear h
 refine Bz g [(1, _)] J1 (fun (b : (List Step) × Int) s ob => ∃ (a : Value), s = [(0, .V b.2)] ∧ ob = [.arr c 43 1 1 [[.v a]], .us a 54 7 (b.1.map A6)]) ⟨w1_0, I2⟩ ⟨I, J⟩ ⟨[0, 1], I, by decide⟩ ?_
 rintro b w s ob ⟨a, rfl, rfl⟩ h j
 unfold K3.B1 at h
 refine Aa fun y k => Aq I (Ay h I ?_ ?_)
 intro m h
 refine nI ?_
 subst k
 refine nH (nJ ?_)
 obtain ⟨A, n, h⟩ := Ac h
 refine nD (Ap 3 [.o 0 0] I J1 (Ck (Ao (l := [.V 6, .V 0, .V (min b.2 100), .V 0, .V 0, .N, .V 0]) Hg I) I (oA (A0 [] (K := []) I [(10, .agg [.V 6, .V 0, .V (min b.2 100), .V 0, .V 0, .list 2 ([].map Bc), .V 0])] ⟨⟨_, I, .agg (.cons (.refl _) (.cons (.refl _) (.cons (.refl _) (.cons (.refl _) (.cons (.refl _) (.cons (.nil _) (.rest _)))))))⟩, J⟩ (ob' := [.arr c 43 1 1 [[.v a]], .us a 54 7 (b.1.map A6)]) (.rest _)) (nG [] I (nR 7 (([(⟨6, 0, (min b.2 100), (⟨0, 0, [], 0⟩ : Path)⟩ : Step)] : List Step).map A6) (nG [1] I (Bf 1 I n fun f => nZ 1 I fun t => nG [0] I (nU 0 0 0 (es' := [[.v f]]) I I I I I I (Ai t) I (Bs I) I I (nE (nD (Af 3 I ?_)))))))))))
 obtain rfl := oi h
 refine nE ?_
 exact ⟨_, _, _, I, ⟨f, I2⟩, J2, [0, 1], I, by decide⟩
 intro m h
 obtain rfl := j _ (oi h).symm
 replace h := i
 obtain rfl := oi h
 refine nO ?_
 exact ⟨.inl I, [], [.arr c 43 1 1 [[.v a]], .us a 54 7 (b.1.map A6)], J, Dn I (Dn I (Cf)), ⟨[.arr c 43 1 1 [[.v a]], .us a 54 7 (b.1.map A6)], [], I, I, a, I3⟩⟩
theorem Tg (a : Path) (n : Int) (g : Int) (i : Int) (b : Nat) (j : List Step) (w4_0 : Value) (t : Int) (r : List Step) (h : Jk a n g i j t = some r) : ACalls Am 52 [.agg (Aj a), .V n, .V g, .eptr (rI i), .v (.pointer (some ⟨b, 0, none⟩)), .eptr [.fn 51 [] [.v (.pointer (some ⟨b, 0, none⟩))]], .eptr (rI t)] [.arr b 43 1 1 [[.v w4_0]], .us w4_0 54 7 (j.map A6)] (Gp 2 fun x os new => ∃ (u0_0 : Value), x = .tup [] ∧ os = [.arr b 43 1 1 [[.v u0_0]], .us u0_0 54 7 (r.map A6)] ∧ new = []) := by
 refine Ag Tryz.func52 rfl rfl rfl fun C hC => ?_
 unfold Jk at h
 refine Aa fun S A => nD (nG [] I (nQ (cs := Aj a) (m := 4) I I I dS fun u => nE ?_))
 subst A
 refine Aa fun U B => ?_
 obtain ⟨f, D, h⟩ := Ac h
 refine nD (Ap 2 [.o 1 2] I J1 (nG [] I (Bp I I I (Tf _ _ D) dS ?_)))
 rintro _ _ ⟨k, rfl, rfl⟩
 refine Af 1 I (nZ 3 I fun E => nG [2] I (nU 2 0 2 (es' := [[.V a.In, .V a.Out, .v k, .V a.Rate]]) I I I I I I (Ai E) I (Bs I) I I (Af 1 I (nG [2] I (Ax 2 0 3 [[.V a.In, .V a.Out, .v k, .V 0]] I (nE ?_))))))
 subst B
 refine nJ (nM (A0 [3] (K := [.us k 107 2 (f.map Bc)]) I [(12, .list 2 (f.map Bc))] ⟨⟨_, I, .us 0 I⟩, J⟩ (ob' := [.arr b 43 1 1 [[.v w4_0]], .us w4_0 54 7 (j.map A6), .arr u 52 4 1 [[.V a.In, .V a.Out, .list 2 (f.map Bc), .V 0]]]) (.cons (.same _) (.cons (.same _) (.cons (.arr (.cons (.refl _) (.cons (.refl _) (.cons (.us 0 I) (.rest _))))) (.rest _))))) ?_)
 obtain ⟨W, F, G⟩ := Ac h
 clear h
 refine Bz F [(2, _), (3, _), (4, _), (5, _), (6, _), (7, _)] J6 (fun (e : (List Step) × Int) s ob => ∃ (c : Value), s = [(1, .V e.2)] ∧ ob = [.arr b 43 1 1 [[.v c]], .us c 54 7 (e.1.map A6), .arr u 52 4 1 [[.V a.In, .V a.Out, .list 2 (f.map Bc), .V 0]]]) ⟨w4_0, I2⟩ ⟨I, J⟩ ⟨[0, 1, 2], I, by decide⟩ ?_
 rintro e X s ob ⟨c, rfl, rfl⟩ h H
 unfold Jk.B1 at h
 refine Aa fun Y M => Aq I (Ay h I ?_ ?_)
 intro N h
 refine nI ?_
 subst M
 refine nH (nJ (nH ?_))
 obtain ⟨Z, O, h⟩ := Ac h
 refine nD (Ap 7 [.o 0 0, .o 6 2] I J2 (Ck (Ao (l := [.V 5, .V 0, .V (wr (g * (min e.2 i))), .V a.In, .V a.Out, .list 2 (f.map Bc), .V 0]) Hg I) I (nG [] I (nR 7 (([(⟨5, 0, wr (g * (min e.2 i)), (⟨a.In, a.Out, f, 0⟩ : Path)⟩ : Step)] : List Step).map A6) (nG [1] I (Bf 1 I O fun w => nZ 1 I fun P => nG [0] I (nU 0 0 0 (es' := [[.v w]]) I I I I I I (Ai P) I (Bs I) I I (nE ?_))))))))
 obtain ⟨aa, Q, h⟩ := Ac h
 refine nD (nS (Q0 I I (y := .fn 51 [] [.v (.pointer (some ⟨b, 0, none⟩))]) I) I (Af 1 I (nG [0, 1] I (Pj [0, 1] (Td _ b _ w _ Q) ?_))))
 rintro _ _ _ - ⟨R, rfl, rfl, rfl⟩
 refine nE (nD (Af 4 I ?_))
 obtain rfl := oi h
 refine nE ?_
 exact ⟨_, _, _, I, ⟨R, I2⟩, J7, [0, 1, 2], I, by decide⟩
 intro N h
 obtain rfl := H _ (oi h).symm
 replace h := G
 refine Cb [0, 1] I ?_
 obtain rfl := oi h
 refine nO ?_
 exact ⟨.inl I, [], [.arr b 43 1 1 [[.v c]], .us c 54 7 (e.1.map A6)], J, Dn I (Dn I (Cf)), ⟨[.arr b 43 1 1 [[.v c]], .us c 54 7 (e.1.map A6)], [], I, I, c, I3⟩⟩
theorem Od (n : Network) (e : Desk) (a : Plan) (w : Int) (A : Int) (r : (List Step) × Int) (h : Fe n e a w A = some r) : ACalls Am 16 [.agg (Ab n), .agg (A7 e), .agg (As a), .V w, .V A] [] (fun x new => ∃ (u0 : Value), x = .tup [.v u0, .V r.2] ∧ new = [.us u0 54 7 (r.1.map A6)]) := by
 refine Ag Tryz.func16 rfl rfl rfl fun C hC => ?_
 unfold Fe at h
 refine Aa fun y1 b9 => nD (nG [] I (nQ (cs := Ab n) (m := 6) I I I dS fun H => nG [] I (nQ (cs := A7 e) (m := 4) I I I dS fun t => nG [] I (nQ (cs := As a) (m := 3) I I I dS fun f => nG [] I (nQ (cs := [.V w]) (m := 1) I I I dS fun b5 => nG [] I (nQ (cs := [.V A]) (m := 1) I I I dS fun b6 => Af 2 I (nE ?_)))))))
 subst b9
 refine Aa fun y7 ca => nH ?_
 obtain ⟨r8, cb, h⟩ := Ac h
 refine nD (Ap 5 [.o 0 0, .o 1 1, .o 2 2, .o 3 3, .o 4 4] I J5 (Cg (bU _ _ _ _ _ _ cb) (Af 1 I (nE (Aq I (Ay h I ?_ ?_))))))
 intro cc h
 refine Aq I (nM (Bo 54 7) (Cb [5] I ?_))
 obtain rfl := oi h
 rotate_left
 intro cc h
 refine nI ?_
 subst ca
 refine Aa fun e9 cd => ?_
 obtain ⟨B, ce, h⟩ := Ac h
 refine nD (Ap 2 [.o 0 0] I J1 (nS (Bx 1 0 1 I I I I I (y := .agg (As e.Plan)) I) I (nG [] I (Bp I I I (Sz _ _ _ ce) dS ?_))))
 rintro _ _ ⟨U, rfl, rfl⟩
 refine Af 5 I (nE ?_)
 subst cd
 refine Aa fun fa cf => Aq I (Ay h I ?_ ?_)
 intro ci h
 refine Aq I (nM (Bo 54 7) (Cb [6] I ?_))
 obtain rfl := oi h
 rotate_left
 intro ci h
 refine nI ?_
 subst cf
 refine Aa fun fb cj => ?_
 obtain ⟨D, ck, h⟩ := Ac h
 refine nD (Ap 2 [.o 0 0, .o 1 2] I J2 (nG [] I (Bp I I I (Sz _ _ _ ck) dS ?_)))
 rintro _ _ ⟨W, rfl, rfl⟩
 refine Af 5 I (nE ?_)
 subst cj
 refine Aa fun fc cl => Aq I (Ay h I ?_ ?_)
 intro cm h
 refine Aq I (nM (Bo 54 7) (Cb [7] I ?_))
 obtain rfl := oi h
 any_goals
  exact nK ⟨.inr I, [_, _], [.us (.slice none 0 0) 54 7 ([].map A6)], J2, Dn I (Cf), ⟨(.slice none 0 0), I2⟩⟩
 intro cm h
 refine nI ?_
 subst cl
 refine Al (fun s ob => ∃ (a9 : Unit), Fe.J1 n e a w A B D a9 = some r ∧ s = [] ∧ ob = [.arr H 32 6 1 [Ab n], .arr t 39 4 1 [A7 e], .arr f 37 3 1 [As a], .arr b5 3 1 1 [[.V w]], .arr b6 3 1 1 [[.V A]], .us U 52 4 (B.1.map Aj), .us W 52 4 (D.1.map Aj)]) [(5, _), (6, _), (7, _), (8, _), (9, _), (13, _), (15, _)] J7 ?_ ?_
 refine Bu [.o 1 2, .l 2 (a.Pumps.length : Int)] I ⟨Bh, I, J⟩ (nJ (Cz 64 I fun cn => ?_))
 obtain ⟨fd, co, ba⟩ := Ac h
 clear h
 refine C1 co [(5, _), (6, _), (7, _), (8, _), (9, _), (13, _), (15, _), (64, _), (65, _)] J9 (fun (ah : Nat) (bb : Unit) s ob => s = [(66, .V (ah : Int))] ∧ ob = [.arr H 32 6 1 [Ab n], .arr t 39 4 1 [A7 e], .arr f 37 3 1 [As a], .arr b5 3 1 1 [[.V w]], .arr b6 3 1 1 [[.V A]], .us U 52 4 (B.1.map Aj), .us W 52 4 (D.1.map Aj)]) ⟨I, I⟩ ⟨I, J⟩ ⟨[0, 1, 2, 3, 4, 5, 6], I, by decide⟩ ?_ ?_
 rintro ah bc bb cp s ob cq bd ⟨rfl, rfl⟩ h cr
 unfold Fe.B14 at h
 have ct := Di bd
 refine Aq I (Aa fun fe cu => Av (v := true) I ct (nI ?_))
 subst cu
 refine nH (nJ (Bu [.x 1 ah (rB bc)] I ⟨⟨I, Ah cq⟩, J⟩ (Al (fun s ob => ∃ (az : Bool), Fe.J15 az = some cp ∧ s = [(78, .v (.bool az))] ∧ ob = [.arr H 32 6 1 [Ab n], .arr t 39 4 1 [A7 e], .arr f 37 3 1 [As a], .arr b5 3 1 1 [[.V w]], .arr b6 3 1 1 [[.V A]], .us U 52 4 (B.1.map Aj), .us W 52 4 (D.1.map Aj)]) [(5, _), (6, _), (7, _), (8, _), (9, _), (13, _), (15, _), (64, _), (65, _), (66, _)] kK ?_ ?_)))
 refine nD (Af 2 I ?_)
 rcases bt (bc) with X | X
 replace h := B0 X h
 obtain ⟨cv, cw, h⟩ := Ac h
 refine Ad 72 I X (Ap 3 [.o 0 0, .o 1 2] I J2 (Br I I I (Cg (S3 _ _ _ _ cw) (Af 2 I (nE ?_)))))
 exact lg ⟨(!cv), h, I2⟩ [0, 1, 2, 3, 4, 5, 6]
 replace h := Ca X h
 refine Ad 72 I X (Af 6 I (nE ?_))
 exact lg ⟨false, h, I2⟩ [0, 1, 2, 3, 4, 5, 6]
 rintro s ob ⟨az, h, rfl, rfl⟩
 unfold Fe.J15 at h
 refine Ay h I ?_ ?_
 intro cx h
 refine Aq I ?_
 obtain rfl := cr _ (oi h).symm
 replace h := ba
 replace h := Do h
 refine nM (Bo 54 7) (Cb [7] I ?_)
 obtain rfl := oi h
 exact nK ⟨.inr I, [_, _], [.us (.slice none 0 0) 54 7 ([].map A6)], J2, Dn I (Cf), ⟨(.slice none 0 0), I2⟩⟩
 intro cx h
 refine nI (nD (Ap 2 [.k 0 (ah + 1 : Nat)] I ⟨Bt bd cn, J⟩ ?_))
 obtain rfl := oi h
 refine nE ?_
 exact ⟨_, _, _, I, I2, kK, [0, 1, 2, 3, 4, 5, 6], I, by decide⟩
 rintro bb s ob ⟨rfl, rfl⟩ he
 subst he
 have h := Dh ba
 have cy := Dj a.Pumps.length
 refine Aq I (Aa fun ff fg => Av (v := false) I cy (nO ?_))
 exact lg ⟨(), h, I2⟩ [0, 1, 2, 3, 4, 5, 6]
 rintro s ob ⟨a9, h, rfl, rfl⟩
 unfold Fe.J1 at h
 refine Aa fun fh cz => ?_
 obtain ⟨u, c0, h⟩ := Ac h
 refine nD (Ap 2 [.o 0 0, .o 1 2] I J2 (nG [] I (Bp I I I (Tc _ _ _ c0) dS ?_)))
 rintro _ _ ⟨rfl, rfl⟩
 refine Af 3 I (nG [] I (nN (cs := [.N, .N]) (m := 2) I I I I I dS fun E => nG [7] I (Ax 7 0 0 [C8 u.1] I (Af 1 I (nE ?_)))))
 subst cz
 refine Aa fun fi c1 => Aq I (Ay h I ?_ ?_)
 intro c2 h
 refine Aq I (nM (Bo 54 7) (Cb [8] I ?_))
 obtain rfl := oi h
 exact nK ⟨.inr I, [_, _], [.us (.slice none 0 0) 54 7 ([].map A6)], J2, Dn I (Cf), ⟨(.slice none 0 0), I2⟩⟩
 intro c2 h
 refine nI ?_
 subst c1
 refine Aa fun fj c3 => nD (nG [] I (nN (cs := [.N]) (m := 1) I I I I I dS fun b => nE ?_))
 subst c3
 refine Aa fun fk c4 => nD (Ck (Yp.makeFunc I I) I (nG [] I (nN (cs := [.v (.nilFunc)]) (m := 1) I I I I I dS fun c5 => nG [9] I (Ax 9 0 0 [[.fn 51 [] [.v (.pointer (some ⟨b, 0, none⟩))]]] I (nE ?_)))))
 subst c4
 refine Aa fun fl c6 => nD (oA (A0 [3, 4, 9] (K := [.arr b5 3 1 1 [[.V w]], .arr b6 3 1 1 [[.V A]], .arr c5 104 1 1 [[.fn 51 [] [.v (.pointer (some ⟨b, 0, none⟩))]]]]) I [(8, .eptr (rI w)), (9, .eptr (rI A)), (20, .eptr [.fn 51 [] [.v (.pointer (some ⟨b, 0, none⟩))]])] ⟨⟨_, I, .box 0 I (.rest _)⟩, ⟨_, I, .box 1 I (.rest _)⟩, ⟨_, I, .box 2 I (.rest _)⟩, J⟩ (ob' := [.arr H 32 6 1 [Ab n], .arr t 39 4 1 [A7 e], .arr f 37 3 1 [As a], .us U 52 4 (B.1.map Aj), .us W 52 4 (D.1.map Aj), .arr E 97 2 1 [C8 u.1], .arr b 43 1 1 [[.N]]]) (.rest _)) (Ck (Yp.makeFunc I I) I (Af 1 I (nE ?_))))
 subst c6
 refine Aa fun fm c7 => ?_
 obtain ⟨Y, c8, h⟩ := Ac h
 refine nD (Ap 3 [.o 0 0] I J1 (oA (A0 [3, 4] (K := [.us U 52 4 (B.1.map Aj), .us W 52 4 (D.1.map Aj)]) I [(13, .list 4 (B.1.map Aj)), (15, .list 4 (D.1.map Aj)), (92, .list 4 (B.1.map Aj)), (93, .list 4 (D.1.map Aj))] ⟨⟨_, I, .us 0 I⟩, ⟨_, I, .us 1 I⟩, ⟨_, I, .us 0 I⟩, ⟨_, I, .us 1 I⟩, J⟩ (ob' := [.arr H 32 6 1 [Ab n], .arr t 39 4 1 [A7 e], .arr f 37 3 1 [As a], .arr E 97 2 1 [C8 u.1], .arr b 43 1 1 [[.N]]]) (.rest _)) (nG [] I (Bp I I I (aF _ _ _ _ c8) dS ?_))))
 rintro _ _ ⟨rfl, rfl⟩
 refine nG [] I (nN (cs := [.N, .N, .N]) (m := 3) I I I I I dS fun ai => nG [5] I (Ax 5 0 0 [As Y] I (nE ?_)))
 subst c7
 refine Aa fun fo c9 => ?_
 obtain ⟨da, db, h⟩ := Ac h
 refine nD (Ap 3 [.o 2 1] I J1 (nG [] I (Bp I I I (bN _ _ db) dS ?_)))
 rintro _ _ ⟨i, rfl, rfl⟩
 refine Af 1 I (nE ?_)
 subst c9
 refine Al (fun s ob => ∃ (g : (List Step) × (List Bool)) (aj : Value), Fe.J2 e a w A B D u g = some r ∧ s = [] ∧ ob = [.arr t 39 4 1 [A7 e], .arr f 37 3 1 [As a], .arr E 97 2 1 [C8 u.1], .arr b 43 1 1 [[.v aj]], .us i 4 1 (g.2.map rB), .us aj 54 7 (g.1.map A6)]) [(6, _), (7, _), (13, _), (15, _), (18, _), (19, _), (20, _), (21, _), (23, _)] J9 ?_ ?_
 refine Aa fun fp dc => nD (Af 1 I (nS (Cn 6 I I I I) I (Af 1 I (nE ?_))))
 subst dc
 refine nJ (Oq 6 I fun dd => nM (Bo 54 7) ?_)
 obtain ⟨fq, de, df⟩ := Ac h
 clear h
 refine Hz de [(5, _), (6, _), (7, _), (13, _), (15, _), (18, _), (19, _), (20, _), (21, _), (22, _), (23, _), (99, _), (100, _)] mK (fun (Q : Nat) (j : (List Step) × (List Bool)) s ob => ∃ (F : Value), s = [(101, .V (Q : Int))] ∧ ob = [.arr H 32 6 1 [Ab n], .arr t 39 4 1 [A7 e], .arr f 37 3 1 [As a], .arr E 97 2 1 [C8 u.1], .arr b 43 1 1 [[.v F]], .arr ai 37 3 1 [As Y], .us i 4 1 (j.2.map rB), .us F 54 7 (j.1.map A6)]) ⟨(.slice none 0 0), I2⟩ ⟨I, J⟩ ⟨[0, 1, 2, 3, 4, 5, 6, 7], I, by decide⟩ ?_ ?_
 rintro Q j be s ob bf ⟨F, rfl, rfl⟩ h
 unfold Fe.B11 at h
 have dg := Di bf
 refine Aq I (Aa fun fr dh => Av (v := true) I dg (nI ?_))
 subst dh
 refine Al (fun s ob => ∃ (ak : (List Step) × (List Bool)) (al : Value), Fe.J12 ak = some be ∧ s = [] ∧ ob = [.arr H 32 6 1 [Ab n], .arr t 39 4 1 [A7 e], .arr f 37 3 1 [As a], .arr E 97 2 1 [C8 u.1], .arr b 43 1 1 [[.v al]], .arr ai 37 3 1 [As Y], .us i 4 1 (ak.2.map rB), .us al 54 7 (ak.1.map A6)]) [(5, _), (6, _), (7, _), (13, _), (15, _), (18, _), (19, _), (20, _), (21, _), (22, _), (23, _), (99, _), (100, _), (101, _)] mL ?_ ?_
 refine nJ (Aa fun fs di => ?_)
 obtain ⟨M, ⟨bg, am⟩, h⟩ := Bk h
 refine nD (Af 1 I (nS (Bi 6 (m := M.1) I I I I I I I bg (Ah am)) I (nS (Ba 6 M.1 0 I I I (Ah am) I (y := .v (.bool M.2)) I) I (Af 2 I (nE ?_)))))
 subst di
 refine Al (fun s ob => ∃ (a0 : Bool), Fe.J13 Q j M a0 = some be ∧ s = [(121, .v (.bool a0))] ∧ ob = [.arr H 32 6 1 [Ab n], .arr t 39 4 1 [A7 e], .arr f 37 3 1 [As a], .arr E 97 2 1 [C8 u.1], .arr b 43 1 1 [[.v F]], .arr ai 37 3 1 [As Y], .us i 4 1 (j.2.map rB), .us F 54 7 (j.1.map A6)]) [(5, _), (6, _), (7, _), (13, _), (15, _), (18, _), (19, _), (20, _), (21, _), (22, _), (23, _), (24, _), (99, _), (100, _), (101, _)] mW ?_ ?_
 refine nD (Af 2 I ?_)
 rcases bt (M.2) with Z | Z
 replace h := B0 Z h
 obtain ⟨aa, ⟨bh, bi⟩, h⟩ := Bk h
 refine Ad 107 I Z ?_
 rcases bt ((!aa.2)) with ab | ab
 replace h := B0 ab h
 refine Ap 7 [.o 1 2, .x 3 aa.1 (rB aa.2)] I ⟨⟨bh, Ah bi⟩, I, J⟩ (Ad 114 I ab (Af 7 I (nE ?_)))
 exact lg ⟨true, h, I2⟩ [0, 1, 2, 3, 4, 5, 6, 7]
 replace h := Ca ab h
 obtain ⟨dj, dk, h⟩ := Ac h
 refine Ap 7 [.o 1 2, .x 3 aa.1 (rB aa.2)] I ⟨⟨bh, Ah bi⟩, I, J⟩ (Ad 114 I ab (Ap 3 [.o 0 0, .o 1 5] I J2 (Br I I I (Cg (S3 _ _ _ _ dk) (Af 3 I (nE ?_))))))
 exact lg ⟨(!dj), h, I2⟩ [0, 1, 2, 3, 4, 5, 6, 7]
 replace h := Ca Z h
 refine Ad 107 I Z (Af 7 I (Cq I I dS (Cq I I dS (Cq I I dS (Cq I I dS (Cq I I dS (Af 2 I (nE ?_))))))))
 exact lg ⟨false, h, I2⟩ [0, 1, 2, 3, 4, 5, 6, 7]
 rintro s ob ⟨a0, h, rfl, rfl⟩
 unfold Fe.J13 at h
 refine Ay h I ?_ ?_
 intro dl h
 refine nH (nD (Af 2 I (nS (Bi 6 (m := M.1) I I I I I I I bg (Ah am)) I (nG [6] I (Ci 6 M.1 0 I I I (Ah am) I I I I (Bs I) I (Dp (x := false) I) (nE ?_))))))
 obtain ⟨dm, dn, h⟩ := Ac h
 refine nD (Ap 2 [.o 0 4] I J1 (Ck (Ao (l := [.V 4, .V (Q : Int), .V 0, .V 0, .V 0, .N, .V 0]) Hg I) I (oA (A0 [] (K := []) I [(127, .agg [.V 4, .V (Q : Int), .V 0, .V 0, .V 0, .list 2 ([].map Bc), .V 0])] ⟨⟨_, I, .agg (.cons (.refl _) (.cons (.refl _) (.cons (.refl _) (.cons (.refl _) (.cons (.refl _) (.cons (.nil _) (.rest _)))))))⟩, J⟩ (ob' := [.arr H 32 6 1 [Ab n], .arr t 39 4 1 [A7 e], .arr f 37 3 1 [As a], .arr E 97 2 1 [C8 u.1], .arr b 43 1 1 [[.v F]], .arr ai 37 3 1 [As Y], .us i 4 1 ((j.2.set M.1 false).map rB), .us F 54 7 (j.1.map A6)]) (.rest _)) (nG [] I (nR 7 (([(⟨4, (Q : Int), 0, (⟨0, 0, [], 0⟩ : Path)⟩ : Step)] : List Step).map A6) (nG [7] I (Bf 7 I dn fun bj => nZ 7 I fun dp => nG [4] I (nU 4 0 0 (es' := [[.v bj]]) I I I I I I (Ai dp) I (Bs I) I I (nE ?_)))))))))
 exact lg ⟨(dm, (j.2.set M.1 false)), bj, h, I2⟩ [0, 1, 2, 3, 4, 5, 6, 7]
 intro dl h
 refine nI ?_
 exact lg ⟨(j.1, j.2), F, h, I2⟩ [0, 1, 2, 3, 4, 5, 6, 7]
 rintro s ob ⟨ak, al, h, rfl, rfl⟩
 unfold Fe.J12 at h
 refine nD (Ap 2 [.k 0 (Q + 1 : Nat)] I ⟨Bt bf dd, J⟩ ?_)
 obtain rfl := oi h
 refine nE ?_
 exact lg ⟨al, I2⟩ [0, 1, 2, 3, 4, 5, 6, 7]
 rintro j s ob ⟨F, rfl, rfl⟩ he
 subst he
 have h := df
 have dq := Dj da.length
 refine Aq I (Aa fun ft fu => Av (v := false) I dq (nO ?_))
 exact lg ⟨(j.1, j.2), F, h, I2⟩ [1, 2, 3, 4, 6, 7]
 rintro s ob ⟨g, aj, h, rfl, rfl⟩
 unfold Fe.J2 at h
 refine Al (fun s ob => ∃ (an : List Step) (ac : Value), Fe.J3 e a w A B D u g an = some r ∧ s = [] ∧ ob = [.arr t 39 4 1 [A7 e], .arr f 37 3 1 [As a], .arr E 97 2 1 [C8 u.1], .arr b 43 1 1 [[.v ac]], .us i 4 1 (g.2.map rB), .us ac 54 7 (an.map A6)]) [(6, _), (7, _), (13, _), (15, _), (18, _), (19, _), (20, _), (21, _), (23, _)] J9 ?_ ?_
 refine Aa fun fv dr => ?_
 obtain ⟨bk, ds, h⟩ := Ac h
 refine nD (Af 2 I (nG [] I (Bp I I I (Tq _ _ _ ds) dS ?_)))
 rintro _ _ ⟨dt, rfl, rfl⟩
 refine nS (Cn 6 I I I I) I (Af 1 I (nE ?_))
 subst dr
 refine nJ (Oq 6 I fun du => ?_)
 obtain ⟨fw, dv, dw⟩ := Ac h
 clear h
 refine Hz dv [(6, _), (7, _), (13, _), (15, _), (18, _), (19, _), (20, _), (21, _), (23, _), (133, _), (134, _)] kJ (fun (a1 : Nat) (ao : List Step) s ob => ∃ (R : Value), s = [(135, .V (a1 : Int))] ∧ ob = [.arr t 39 4 1 [A7 e], .arr f 37 3 1 [As a], .arr E 97 2 1 [C8 u.1], .arr b 43 1 1 [[.v R]], .us i 4 1 (g.2.map rB), .us R 54 7 (ao.map A6), .us dt 3 1 (bk.map rI)]) ⟨aj, I2⟩ ⟨I, J⟩ ⟨[0, 1, 2, 3, 4, 5, 6], I, by decide⟩ ?_ ?_
 rintro a1 ao fx s ob bl ⟨R, rfl, rfl⟩ h
 unfold Fe.B10 at h
 have dx := Di bl
 refine Aq I (Aa fun fy dy => Av (v := true) I dx (nI ?_))
 subst dy
 refine nH (nJ (Aa fun fz dz => ?_))
 obtain ⟨a2, ⟨d0, bm⟩, h⟩ := Bk h
 refine nD (Af 1 I (nS (Bi 6 (m := a2.1) I I I I I I I d0 (Ah bm)) I (nS (Ba 6 a2.1 0 I I I (Ah bm) I (y := .V a2.2) I) I (Af 2 I (nE ?_)))))
 subst dz
 obtain ⟨aq, ⟨bn, bo⟩, h⟩ := Bk h
 obtain ⟨f0, d1, h⟩ := Ac h
 refine Bw (pd 13 0 [12]) [] [] I (By 12 [.x 3 aq.1 (Aj aq.2), .x 7 aq.1 (Aj aq.2)] I ⟨⟨bn, Ah bo⟩, ⟨bn, Ah bo⟩, J⟩ (nF [3, 5] I I I (Pj [3, 5] (Tg _ _ _ _ b _ R _ _ d1) ?_)))
 rintro _ _ _ - ⟨d2, rfl, rfl, rfl⟩
 refine Ak (nE (nD (Ap 2 [.k 0 (a1 + 1 : Nat)] I ⟨Bt bl du, J⟩ ?_)))
 obtain rfl := oi h
 refine nE ?_
 exact lg ⟨d2, I2⟩ [0, 1, 2, 3, 4, 5, 6]
 rintro ao s ob ⟨R, rfl, rfl⟩ he
 subst he
 have h := dw
 have d3 := Dj bk.length
 refine Aq I (Aa fun f1 f2 => Av (v := false) I d3 (nO ?_))
 exact lg ⟨ao, R, h, I2⟩ [0, 1, 2, 3, 4, 5]
 rintro s ob ⟨an, ac, h, rfl, rfl⟩
 unfold Fe.J3 at h
 refine Aa fun f3 d4 => ?_
 obtain ⟨f4, d5, h⟩ := Ac h
 obtain ⟨bp, d6, h⟩ := Ac h
 obtain ⟨f5, d7, h⟩ := Ac h
 refine Bw (.still 0 (.still 1 (.still 3 (.act 2 (.act 4 (.act 5 (sl 7 6 .nil))))))) [0, 3, 2] [_, _, _] I (By 3 [.o 0 0, .o 1 1, .o 2 2] I J3 (nF [] I I I (Dq I (.refl _) I I (.cons (.us 5 I) (.rest _)) I (bX _ _ d5) dS (by rintro _ _ ⟨rfl, _⟩; rfl) ?_)))
 rintro _ ⟨_, rfl, -⟩
 refine nF [] I I I (Bp I I I (S4 _ _ d6) dS ?_)
 rintro _ _ ⟨d8, rfl, rfl⟩
 refine D4 (A0 [6] (K := [.us d8 4 1 (bp.map rB)]) I [(159, .list 1 (bp.map rB))] ⟨⟨_, I, .us 0 I⟩, J⟩ (ob' := [.arr t 39 4 1 [A7 e], .arr f 37 3 1 [As a], .arr E 97 2 1 [C8 u.1], .arr b 43 1 1 [[.v ac]], .us i 4 1 (g.2.map rB), .us ac 54 7 (an.map A6)]) (.rest _)) I (nF [] I I I (Bp I I I (bD _ _ _ _ d7) dS ?_))
 rintro _ _ ⟨f6, rfl, rfl⟩
 refine Bm 7 I (Ak (nE ?_))
 subst d4
 refine Aa fun f7 d9 => Aq I (Ay h I ?_ ?_)
 intro ea h
 refine Aq I (nM (Bo 54 7) (Cb [7] I ?_))
 obtain rfl := oi h
 exact nK ⟨.inr I, [_, _], [.us (.slice none 0 0) 54 7 ([].map A6)], J2, Dn I (Cf), ⟨(.slice none 0 0), I2⟩⟩
 intro ea h
 refine nI ?_
 subst d9
 refine Aa fun f8 eb => ?_
 obtain ⟨f9, bq, h⟩ := Ac h
 refine nD (Ap 2 [.o 0 3] I J1 (nG [5] I (Fw 5 I I I I I I I I I (Lg 6 I I) (Up (Eh bq).1) (Uo (Eh bq).2) dS fun br => nZ 5 I fun ec => nG [3] I (nU 3 0 0 (es' := [[.v br]]) I I I I I I (Ai ec) I (Bs I) I I (nE ?_)))))
 subst eb
 refine Aa fun ga ed => ?_
 obtain ⟨gb, ee, h⟩ := Ac h
 refine nD (nS (Q0 I I (y := .fn 51 [] [.v (.pointer (some ⟨b, 0, none⟩))]) I) I (Af 1 I (nG [3, 5] I (Pj [3, 5] (Td _ b _ br _ ee) ?_))))
 rintro _ _ _ - ⟨ef, rfl, rfl, rfl⟩
 refine nE ?_
 subst ed
 refine Al (fun s ob => ∃ (a3 : List Step) (ar : Value), Fe.J4 a g a3 = some r ∧ s = [] ∧ ob = [.arr f 37 3 1 [As a], .arr b 43 1 1 [[.v ar]], .us i 4 1 (g.2.map rB), .us ar 54 7 (a3.map A6)]) [(7, _), (19, _), (23, _)] J3 ?_ ?_
 refine Aa fun gc eg => ?_
 obtain ⟨bs, eh, h⟩ := Ac h
 refine nD (Af 2 I (nG [] I (Bp I I I (Tq _ _ _ eh) dS ?_)))
 rintro _ _ ⟨ei, rfl, rfl⟩
 refine nS (Cn 7 I I I I) I (Af 1 I (nE ?_))
 subst eg
 refine nJ (Oq 7 I fun ej => ?_)
 obtain ⟨gd, ek, el⟩ := Ac h
 clear h
 refine Hz ek [(7, _), (15, _), (19, _), (21, _), (23, _), (174, _), (175, _)] J7 (fun (a4 : Nat) (au : List Step) s ob => ∃ (S : Value), s = [(176, .V (a4 : Int))] ∧ ob = [.arr f 37 3 1 [As a], .arr b 43 1 1 [[.v S]], .us i 4 1 (g.2.map rB), .us S 54 7 (au.map A6), .us ei 3 1 (bs.map rI)]) ⟨ef, I2⟩ ⟨I, J⟩ ⟨[1, 3, 4, 5, 7], I, by decide⟩ ?_ ?_
 rintro a4 au ge s ob bu ⟨S, rfl, rfl⟩ h
 unfold Fe.B9 at h
 have em := Di bu
 refine Aq I (Aa fun gf en => Av (v := true) I em (nI ?_))
 subst en
 refine nH (nJ (Aa fun gg eo => ?_))
 obtain ⟨a5, ⟨ep, bv⟩, h⟩ := Bk h
 refine nD (Af 1 I (nS (Bi 4 (m := a5.1) I I I I I I I ep (Ah bv)) I (nS (Ba 4 a5.1 0 I I I (Ah bv) I (y := .V a5.2) I) I (Af 2 I (nE ?_)))))
 subst eo
 obtain ⟨av, ⟨bw, bx⟩, h⟩ := Bk h
 obtain ⟨gh, eq, h⟩ := Ac h
 refine Bw (pd 13 0 [12]) [] [] I (By 12 [.x 3 av.1 (Aj av.2), .x 7 av.1 (Aj av.2)] I ⟨⟨bw, Ah bx⟩, ⟨bw, Ah bx⟩, J⟩ (nF [1, 3] I I I (Pj [1, 3] (Tg _ _ _ _ b _ S _ _ eq) ?_)))
 rintro _ _ _ - ⟨er, rfl, rfl, rfl⟩
 refine Ak (nE (nD (Ap 2 [.k 0 (a4 + 1 : Nat)] I ⟨Bt bu ej, J⟩ ?_)))
 obtain rfl := oi h
 refine nE ?_
 exact lg ⟨er, I2⟩ [0, 1, 2, 3, 4]
 rintro au s ob ⟨S, rfl, rfl⟩ he
 subst he
 have h := el
 have es := Dj bs.length
 refine Aq I (Aa fun gi gj => Av (v := false) I es (nO ?_))
 exact lg ⟨au, S, h, I2⟩ [0, 1, 2, 3]
 rintro s ob ⟨a3, ar, h, rfl, rfl⟩
 unfold Fe.J4 at h
 refine Al (fun s ob => ∃ (aw : List Step) (ad : Value), Fe.J5 aw = some r ∧ s = [] ∧ ob = [.arr b 43 1 1 [[.v ad]], .us ad 54 7 (aw.map A6)]) [(19, _)] J1 ?_ ?_
 refine Bu [.o 1 0, .l 2 (a.Pumps.length : Int)] I ⟨Bh, I, J⟩ (nJ (Cz 196 I fun et => ?_))
 obtain ⟨gk, eu, ev⟩ := Ac h
 clear h
 refine Dl eu [(19, _), (23, _), (196, _), (197, _)] J4 (fun (O : Nat) (P : List Step) s ob => ∃ (G : Value), s = [(198, .V (O : Int))] ∧ ob = [.arr b 43 1 1 [[.v G]], .us i 4 1 (g.2.map rB), .us G 54 7 (P.map A6)]) ⟨ar, I2⟩ ⟨I, J⟩ ⟨[1, 2, 3], I, by decide⟩ ?_ ?_
 rintro O bz P b0 s ob ew b1 ⟨G, rfl, rfl⟩ h
 unfold Fe.B6 at h
 have ex := Di b1
 refine Aq I (Aa fun gl ey => Av (v := true) I ex (nI ?_))
 subst ey
 refine Al (fun s ob => ∃ (a6 : List Step) (ax : Value), Fe.J7 a6 = some b0 ∧ s = [] ∧ ob = [.arr b 43 1 1 [[.v ax]], .us i 4 1 (g.2.map rB), .us ax 54 7 (a6.map A6)]) [(19, _), (23, _), (196, _), (197, _), (198, _)] J5 ?_ ?_
 refine nJ (Bu [.x 1 O (rB bz)] I ⟨⟨I, Ah ew⟩, J⟩ (Al (fun s ob => ∃ (a7 : Bool), Fe.J8 O P a7 = some b0 ∧ s = [(210, .v (.bool a7))] ∧ ob = [.arr b 43 1 1 [[.v G]], .us i 4 1 (g.2.map rB), .us G 54 7 (P.map A6)]) [(19, _), (23, _), (33, _), (196, _), (197, _), (198, _)] J6 ?_ ?_))
 refine nD (Af 2 I ?_)
 rcases bt (bz) with ae | ae
 replace h := B0 ae h
 obtain ⟨ay, ⟨ez, b7⟩, h⟩ := Bk h
 refine Ad 204 I ae (Af 2 I (Br I I I (nS (Bi 1 (m := ay.1) I I I I I I I ez (Ah b7)) I (Br I I I (nS (Ba 1 ay.1 0 I I I (Ah b7) I (y := .v (.bool ay.2)) I) I (Af 2 I (nE ?_)))))))
 exact lg ⟨(!ay.2), h, I2⟩ [0, 1, 2]
 replace h := Ca ae h
 refine Ad 204 I ae (Af 6 I (nE ?_))
 exact lg ⟨false, h, I2⟩ [0, 1, 2]
 rintro s ob ⟨a7, h, rfl, rfl⟩
 unfold Fe.J8 at h
 refine Ay h I ?_ ?_
 intro e0 h
 obtain ⟨e1, e2, h⟩ := Ac h
 refine nD (Ap 2 [.o 0 0] I J1 (Ck (Ao (l := [.V 3, .V (O : Int), .V 0, .V 0, .V 0, .N, .V 0]) Hg I) I (oA (A0 [] (K := []) I [(213, .agg [.V 3, .V (O : Int), .V 0, .V 0, .V 0, .list 2 ([].map Bc), .V 0])] ⟨⟨_, I, .agg (.cons (.refl _) (.cons (.refl _) (.cons (.refl _) (.cons (.refl _) (.cons (.refl _) (.cons (.nil _) (.rest _)))))))⟩, J⟩ (ob' := [.arr b 43 1 1 [[.v G]], .us i 4 1 (g.2.map rB), .us G 54 7 (P.map A6)]) (.rest _)) (nG [] I (nR 7 (([(⟨3, (O : Int), 0, (⟨0, 0, [], 0⟩ : Path)⟩ : Step)] : List Step).map A6) (nG [2] I (Bf 2 I e2 fun b8 => nZ 2 I fun e3 => nG [0] I (nU 0 0 0 (es' := [[.v b8]]) I I I I I I (Ai e3) I (Bs I) I I (nE ?_)))))))))
 exact lg ⟨e1, b8, h, I2⟩ [0, 1, 2]
 intro e0 h
 refine nI ?_
 exact lg ⟨P, G, h, I2⟩ [0, 1, 2]
 rintro s ob ⟨a6, ax, h, rfl, rfl⟩
 unfold Fe.J7 at h
 refine nD (Ap 2 [.k 0 (O + 1 : Nat)] I ⟨Bt b1 et, J⟩ ?_)
 obtain rfl := oi h
 refine nE ?_
 exact lg ⟨ax, I2⟩ [0, 1, 2]
 rintro P s ob ⟨G, rfl, rfl⟩ he
 subst he
 have h := ev
 have e4 := Dj a.Pumps.length
 refine Aq I (Aa fun gm gn => Av (v := false) I e4 (nO ?_))
 exact lg ⟨P, G, h, I2⟩ [0, 2]
 rintro s ob ⟨aw, ad, h, rfl, rfl⟩
 unfold Fe.J5 at h
 refine nH (nH (nD (Ap 1 [.o 0 0] I J1 (nS (Cn 1 I I I I) I (Af 1 I (nE (Ay h I ?_ ?_)))))))
 intro e5 h
 refine Aq I (nM (Bo 54 7) (Cb [2] I ?_))
 obtain rfl := oi h
 exact nK ⟨.inr I, [_, _], [.us (.slice none 0 0) 54 7 ([].map A6)], J2, Dn I (Cf), ⟨(.slice none 0 0), I2⟩⟩
 intro e5 h
 refine nI (Bu [.o 0 0] I J1 (Cb [1] I ?_))
 obtain rfl := oi h
 exact nK ⟨.inr I, [_, _], [.us ad 54 7 (aw.map A6)], J2, Dn I (Cf), ⟨ad, I2⟩⟩
theorem Oh (b : List Step) (r : Int) (h : Ji b = some r) : ACalls Am 17 [.list 7 (b.map A6)] [] (fun x new => x = .V r ∧ new = []) := by
 refine Ag Tryz.func17 rfl rfl rfl fun C hC => ?_
 unfold Ji at h
 refine Aq I (Aq I (Al (fun s ob => ∃ (e : Int), Ji.J1 e = some r ∧ s = [(3, .V e)] ∧ ob = []) [] J ?_ ?_))
 refine Bu [.l 1 (b.length : Int)] I ⟨Bh, J⟩ (nJ (Cz 6 I fun i => ?_))
 obtain ⟨E, j, n⟩ := Ac h
 clear h
 refine Dl j [(6, _), (7, _)] J2 (fun (c : Nat) (a : Int) s ob => s = [(8, .V (c : Int)), (3, .V a)] ∧ ob = []) ⟨I, I⟩ ⟨I, I, J⟩ ⟨[], I, by decide⟩ ?_ ?_
 rintro c d a t s ob u g ⟨rfl, rfl⟩ h
 unfold Ji.B2 at h
 have w := Di g
 refine Aq I (Aa fun F y => Av (v := true) I w (nI ?_))
 subst y
 refine Al (fun s ob => ∃ (f : Int), Ji.J3 f = some t ∧ s = [(3, .V f)] ∧ ob = []) [(6, _), (7, _), (8, _)] J3 ?_ ?_
 refine nJ (Aa fun G A => nD (Ap 2 [.x 0 c (A6 d)] I ⟨⟨I, Ah u⟩, J⟩ (nG [] I (nN (cs := [.V 0, .V 0, .V 0, .V 0, .V 0, .N, .V 0]) (m := 7) I I I I I dS fun H => nG [0] I (Ax 0 0 0 [A6 d] I (nE ?_))))))
 subst A
 refine Bu [.o 1 0] I J1 (Ay h I ?_ ?_)
 intro B h
 refine nD (Ap 6 [.o 2 0, .o 4 0] I J2 (Ck (gC I I I) I (Af 1 I (nE ?_))))
 exact lg ⟨(max (max a d.Value) (wr (0 - d.Value))), h, I2⟩ []
 intro B h
 refine nI ?_
 exact lg ⟨a, h, I2⟩ []
 rintro s ob ⟨f, h, rfl, rfl⟩
 unfold Ji.J3 at h
 refine nD (Ap 2 [.k 0 (c + 1 : Nat)] I ⟨Bt g i, J⟩ ?_)
 obtain rfl := oi h
 refine nE ?_
 exact lg I2 []
 rintro a s ob ⟨rfl, rfl⟩ he
 subst he
 have h := n
 have D := Dj b.length
 refine Aq I (Aa fun K M => Av (v := false) I D (nO ?_))
 exact lg ⟨a, h, I2⟩ []
 rintro s ob ⟨e, h, rfl, rfl⟩
 unfold Ji.J1 at h
 refine Aq I ?_
 obtain rfl := oi h
 exact nK pr
end Go.Proofs.YtmaamhgjeampmaaGreat
