/- Walks that show what functions of the program compute; printed by a program of ours. No condition. -/
import Derived.Test.YtaoclefkknloiaaGreatZvL1
import Derived.Test.YtaoclefkknloiaaGreatZvD
set_option maxRecDepth 100000
namespace Go.Proofs.YtaoclefkknloiaaGreat
open Go.Aw
set_option linter.unusedVariables false
set_option linter.unusedSimpArgs false
set_option maxHeartbeats 4000000
abbrev kH : PL := .act 16 (.still 17 (.still 18 .nil))
theorem Ph (a : Sg) (b : Int) (r : Int × Int) (h : Im a b = r) : ACalls Ak 58 [.agg (Ar a), .V b] [] (RV (.tup [.V r.1, .V r.2])) := by
 refine Ag Tryz.func58 I I I fun C hC => ?_
 refine Ab fun e c => tX (tZ [] I (Cf (Ar a) 7 fun f => Af 2 I (tY ?_)))
 subst c
 refine uD (Ai I (Ao h I ?_ ?_))
 intro d h
 refine Me (pd 6 0 []) [0] [_] [.o 1 0, .o 3 0] I I J2 (uF g0 ?_)
 obtain rfl := h
 exact uE ⟨.inr I, [_, _], [], J2, B0, I2⟩
 intro d h
 refine uA (Me (pd 6 0 []) [0] [_] [.o 1 0, .o 3 0] I I J2 (uF g0 ?_))
 obtain rfl := h
 exact uE ⟨.inr I, [_, _], [], J2, B0, I2⟩
theorem iQ (d : Nw) (e : Plan) (n : Int) (r : Int × Int) (h : Rs d e n = some r) : ACalls Ak 100 [.agg (Ad d), .agg (Aq e), .V n] [] (RV (.tup [.V r.1, .V r.2])) := by
 refine Ag Tryz.func100 I I I fun C hC => ?_
 unfold Rs at h
 refine Ab fun y1 Q => tX (tZ [] I (Cf (Ad d) 6 fun p => tZ [] I (Cf (Aq e) 3 fun g => Af 2 I (tY ?_))))
 subst Q
 refine Ai I (Aj (fun s ob => ∃ (t : Int × Int), Rs.J1 d e n t = some r ∧ s = [(8, .V t.1), (9, .V t.2)] ∧ ob = [O0 p [Ad d], O1 g [Aq e]]) (K3 2 3 4) J3 ?_ ?_)
 refine Bg [.o 1 0, .l 2 (d.Segments.length : Int)] I ⟨A4, I, J⟩ (uB (Cg 17 I fun R => ?_))
 obtain ⟨ar, S, U⟩ := Ac h
 refine Cl S (K5 2 3 4 17 18) J5 (fun (u : Nat) (b : Int × Int) s ob => s = [(19, .V (u : Int)), (8, .V b.1), (9, .V b.2)] ∧ ob = [O0 p [Ad d], O1 g [Aq e]]) ⟨I, I⟩ ⟨I, I, I, J⟩ (pk [0, 1]) ?_ ?_
 rintro u w b G s ob W H ⟨rfl, rfl⟩ h
 unfold Rs.B5 at h
 have X := Cr H
 refine Ai I (Ab fun au Y => Bq I X (uA ?_))
 subst Y
 refine Aj (fun s ob => ∃ (y : Int × Int), Rs.J6 y = some G ∧ s = [(8, .V y.1), (9, .V y.2)] ∧ ob = [O0 p [Ad d], O1 g [Aq e]]) (K6 2 3 4 17 18 19) J6 ?_ ?_
 refine uB (Ab fun av Z => tX (Am 3 [.x 1 u (Ar w)] I ⟨⟨I, Ae W⟩, J⟩ (tZ [] I (Bs W2 7 fun aw => Af 1 I (tZ [2] I (Bj 2 0 0 [Ar w] I (tY ?_)))))))
 subst Z
 refine Ab fun ax aa => uD ?_
 obtain ⟨a, ⟨A, B⟩, h⟩ := A5 h
 refine Gd [.o 1 1, .x 3 a.1 (rI a.2)] I ⟨⟨A, Ae B⟩, I, J⟩ (Ao h I ?_ ?_)
 intro ab h
 exact uG (lg ⟨(b.1, b.2), h, I2⟩ [0, 1])
 intro ab h
 refine uA ?_
 subst aa
 refine Ab fun ay ac => Bk (pd 12 0 [6]) [2, 1] [_, _] I (Bv 6 [.o 0 0, .o 2 1, .x 4 a.1 (rI a.2)] I ⟨⟨A, Ae B⟩, I, I, J⟩ (uU I (Ph w a.2 _ I) (A3 5 I (Ap (tY ?_)))))
 subst ac
 refine Aj (fun s ob => ∃ (j : Int), Rs.J7 n w b a j = some G ∧ s = [(9, .V j)] ∧ ob = [O0 p [Ad d], O1 g [Aq e]]) (K9 2 3 4 8 10 13 17 18 19) J9 ?_ ?_
 refine Ai I (Ao h I ?_ ?_)
 intro ad h
 exact tX (Am 6 [.o 2 1, .x 4 a.1 (rI a.2)] I ⟨⟨A, Ae B⟩, I, J⟩ (uJ (Pb a.2 _ I) (Af 2 I (tY (lg ⟨wr (b.2 + (Gp a.2)), h, I2⟩ [0, 1])))))
 intro ad h
 exact uA (lg ⟨b.2, h, I2⟩ [0, 1])
 rintro s ob ⟨j, h, rfl, rfl⟩
 refine Ai I (Ao h I ?_ ?_)
 intro ae h
 exact tX (Am 6 [.o 2 1, .x 4 a.1 (rI a.2)] I ⟨⟨A, Ae B⟩, I, J⟩ (uJ (Pb a.2 _ I) (Af 2 I (tY (lg ⟨(wr (b.1 + (Gp a.2)), j), h, I2⟩ [0, 1])))))
 intro ae h
 exact uA (lg ⟨(b.1, j), h, I2⟩ [0, 1])
 rintro s ob ⟨y, h, rfl, rfl⟩
 unfold Rs.J6 at h
 refine tX (Am 2 [.k 0 (u + 1 : Nat)] I ⟨A6 H R, J⟩ ?_)
 cases io h
 exact tY (lg I2 [0, 1])
 rintro b s ob ⟨rfl, rfl⟩ he
 subst he
 have h := U
 have af := Cs d.Segments.length
 exact Ai I (Ab fun az a0 => Br I af (uG (lg ⟨(b.1, b.2), h, I2⟩ [0, 1])))
 rintro s ob ⟨t, h, rfl, rfl⟩
 unfold Rs.J1 at h
 refine Aj (fun s ob => ∃ (D : Int × Int), Rs.J2 D = some r ∧ s = [(8, .V D.1), (9, .V D.2)] ∧ ob = []) [] J ?_ ?_
 refine Bg [.o 1 0, .l 2 (d.Ports.length : Int)] I ⟨A4, I, J⟩ (uB (Cg 64 I fun ag => ?_))
 obtain ⟨a1, ah, ai⟩ := Ac h
 refine Cl ah (K4 2 4 64 65) J4 (fun (E : Nat) (f : Int × Int) s ob => s = [(66, .V (E : Int)), (8, .V f.1), (9, .V f.2)] ∧ ob = [O1 g [Aq e]]) ⟨I, I⟩ ⟨I, I, I, J⟩ (pk [1]) ?_ ?_
 rintro E K f aj s ob ak M ⟨rfl, rfl⟩ h
 unfold Rs.B3 at h
 have al := Cr M
 refine Ai I (Ab fun a2 am => Bq I al (uA ?_))
 subst am
 refine Aj (fun s ob => ∃ (F : Int × Int), Rs.J4 F = some aj ∧ s = [(8, .V F.1), (9, .V F.2)] ∧ ob = [O1 g [Aq e]]) (K5 2 4 64 65 66) J5 ?_ ?_
 refine uB (Ab fun a3 an => tX (Am 3 [.x 1 E (Ca K)] I ⟨⟨I, Ae ak⟩, J⟩ (tZ [] I (Bs W4 3 fun a4 => Af 1 I (tZ [1] I (Bj 1 0 0 [Ca K] I (tY ?_)))))))
 subst an
 refine Bg [.o 1 1] I J1 (Ao h I ?_ ?_)
 intro ao h
 obtain ⟨i, ⟨O, P⟩, h⟩ := A5 h
 exact Ya (pd 19 0 []) [0] [_] [.o 2 0, .x 4 i.1 (rI i.2), .o 10 0, .x 12 i.1 (rI i.2)] I I ⟨⟨O, Ae P⟩, I, ⟨O, Ae P⟩, I, J⟩ (lg ⟨(wr (f.1 + (max 0 i.2)), wr (f.2 + (max 0 (wr (0 - i.2))))), h, I2⟩ [0])
 intro ao h
 exact uA (lg ⟨(f.1, f.2), h, I2⟩ [0])
 rintro s ob ⟨F, h, rfl, rfl⟩
 unfold Rs.J4 at h
 refine tX (Am 2 [.k 0 (E + 1 : Nat)] I ⟨A6 M ag, J⟩ ?_)
 cases io h
 exact tY (lg I2 [0])
 rintro f s ob ⟨rfl, rfl⟩ he
 subst he
 have h := ai
 have ap := Cs d.Ports.length
 exact Ai I (Ab fun a5 a6 => Br I ap (uG (lg ⟨(f.1, f.2), h, I2⟩ [])))
 rintro s ob ⟨D, h, rfl, rfl⟩
 unfold Rs.J2 at h
 refine Ai I ?_
 cases io h
 exact uE ⟨.inr I, [_, _], [], J2, B0, I2⟩
theorem Vz (b : Nw) (g : Plan) (r : Li) (h : Ju b g = some r) : ACalls Ak 97 [.agg (Ad b), .agg (Aq g)] [] (fun x new => ∃ (R : Value), x = .v R ∧ new = [U0 R r]) := by
 refine Ag Tryz.func97 I I I fun C hC => ?_
 refine Ab fun y1 ad => tX (tZ [] I (Cf (Ad b) 6 fun i => tZ [] I (Cf (Aq g) 3 fun j => Af 1 I (tY ?_))))
 subst ad
 refine Ai I (Ab fun y5 ae => ?_)
 obtain ⟨l6, ⟨m8, af, ag, ah⟩, h⟩ := I9 h
 refine tX (Am 3 [.o 1 0, .l 2 (b.Nodes.length : Int)] I ⟨A4, I, J⟩ (tZ [] I (D1 (sz := 1) I I I I I I I I I I af ag (Mj (f := rB) ah I) dS fun n => Af 1 I (tY ?_))))
 subst ae
 refine uB (uF (Az 3 1) ?_)
 obtain ⟨bj, ai, aj⟩ := Ac h
 refine Ci ai (K3 2 3 6) J3 (fun (a : Li × (List Bool)) s ob => ∃ (e : Value), s = [(5, .v e)] ∧ ob = [O0 i [Ad b], O1 j [Aq g], U4 n a.2, U0 e a.1]) ⟨nS, I2⟩ ⟨I, J⟩ (pk N4) ?_
 rintro a ak s ob ⟨e, rfl, rfl⟩ h al
 unfold Ju.B1 at h
 refine uB (Ai I (Aj (fun s ob => ∃ (G : Int), Ju.J2 a G = some ak ∧ s = [(7, .V G)] ∧ ob = [O0 i [Ad b], O1 j [Aq g], U4 n a.2, U0 e a.1]) (K4 2 3 5 6) J4 ?_ ?_))
 refine Bg [.o 1 0, .l 2 (b.Nodes.length : Int)] I ⟨A4, I, J⟩ (uB (Cg 19 I fun am => ?_))
 obtain ⟨bk, an, ao⟩ := Ac h
 refine Cl an (K5 2 3 5 6 20) J5 (fun (u : Nat) (p : Int) s ob => s = [(21, .V (u : Int)), (7, .V p)] ∧ ob = [O0 i [Ad b], O1 j [Aq g], U4 n a.2, U0 e a.1]) ⟨I, I⟩ ⟨I, I, J⟩ (pk N4) ?_ ?_
 rintro u bl p S s ob bm U ⟨rfl, rfl⟩ h
 unfold Ju.B3 at h
 have aq := Cr U
 refine Ai I (Ab fun bn ar => Bq I aq (uA ?_))
 subst ar
 refine Aj (fun s ob => ∃ (O : Int), Ju.J4 O = some S ∧ s = [(7, .V O)] ∧ ob = [O0 i [Ad b], O1 j [Aq g], U4 n a.2, U0 e a.1]) (K6 2 3 5 6 20 21) J6 ?_ ?_
 refine uB (Ai I (Ab fun bo au => ?_))
 obtain ⟨P, ⟨av, W⟩, h⟩ := A5 h
 refine tX (Af 2 I (uI (Bc 2 (m := P.1) I I I I I I I av (Ae W)) I (uI (Ay 2 P.1 0 I I I (Ae W) I (y := .v (.bool P.2)) I) I (Af 2 I (tY ?_)))))
 subst au
 refine Aj (fun s ob => ∃ (B : Bool), Ju.J5 u p B = some S ∧ s = [(9, .v (.bool B))] ∧ ob = [O0 i [Ad b], O1 j [Aq g], U4 n a.2, U0 e a.1]) (K8 2 3 5 6 7 8 20 21) J8 ?_ ?_
 refine Bg [.o 1 0, .l 2 (b.Segments.length : Int)] I ⟨A4, I, J⟩ (uB (Cg 30 I fun aw => ?_))
 obtain ⟨bp, ax, ay⟩ := Ac h
 refine Cl ax (sV 2 3 5 6 7 8 20 21 30 31) oM (fun (H : Nat) (w : Bool) s ob => s = [(32, .V (H : Int)), (9, .v (.bool w))] ∧ ob = [O0 i [Ad b], O1 j [Aq g], U4 n a.2, U0 e a.1]) ⟨I, I⟩ ⟨I, I, J⟩ (pk N4) ?_ ?_
 rintro H K w az s ob a0 X ⟨rfl, rfl⟩ h
 unfold Ju.B6 at h
 have a1 := Cr X
 refine Ai I (Ab fun bq a2 => Bq I a1 (uA ?_))
 subst a2
 refine Aj (fun s ob => ∃ (Q : Bool), Ju.J7 Q = some az ∧ s = [(9, .v (.bool Q))] ∧ ob = [O0 i [Ad b], O1 j [Aq g], U4 n a.2, U0 e a.1]) [(2, _), (3, _), (5, _), (6, _), (7, _), (8, _), (20, _), (21, _), (30, _), (31, _), (32, _)] oL ?_ ?_
 refine uB (Ab fun br a3 => tX (Am 3 [.x 1 H (Ar K)] I ⟨⟨I, Ae a0⟩, J⟩ (tZ [] I (Bs W2 7 fun bs => Af 1 I (tZ [4] I (Bj 4 0 0 [Ar K] I (tY ?_)))))))
 subst a3
 refine Ab fun bu a4 => ?_
 obtain ⟨A, ⟨Y, Z⟩, h⟩ := A5 h
 refine Gd [.o 1 1, .x 3 A.1 (rI A.2)] I ⟨⟨Y, Ae Z⟩, I, J⟩ ?_
 subst a4
 refine Ao h I ?_ ?_
 intro a5 h
 refine Ab fun bv a6 => Bk (pd 12 0 [6]) [4, 1] [_, _] I (Bv 6 [.o 0 0, .o 2 1, .x 4 A.1 (rI A.2)] I ⟨⟨Y, Ae Z⟩, I, I, J⟩ (uU I (Ph K A.2 _ I) (A3 5 I (Ap (tY ?_)))))
 subst a6
 refine tX (Af 2 I ?_)
 rcases bt (w) with D | D
 have h := Cc D h
 refine Ah 54 I D ?_
 rcases bt ((((Im K A.2).2) != (u : Int))) with E | E
 have h := Cc E h
 exact Af 4 I (Ah 58 I E (Af 7 I (tY (lg ⟨true, h, I2⟩ N4))))
 have h := Cd E h
 obtain ⟨M, ⟨a7, aa⟩, h⟩ := A5 h
 exact Af 4 I (Ah 58 I E (Af 2 I (Bx I I I (uI (Bc 2 (m := M.1) I I I I I I I a7 (Ae aa)) I (Bx I I I (uI (Ay 2 M.1 0 I I I (Ae aa) I (y := .v (.bool M.2)) I) I (Af 3 I (tY (lg ⟨M.2, h, I2⟩ N4)))))))))
 have h := Cd D h
 exact Ah 54 I D (Af 4 I (C3 I I dS (C3 I I dS (C3 I I dS (C3 I I dS (Af 3 I (tY (lg ⟨false, h, I2⟩ N4))))))))
 intro a5 h
 exact uA (lg ⟨w, h, I2⟩ N4)
 rintro s ob ⟨Q, h, rfl, rfl⟩
 unfold Ju.J7 at h
 refine tX (Am 2 [.k 0 (H + 1 : Nat)] I ⟨A6 X aw, J⟩ ?_)
 cases io h
 exact tY (lg I2 N4)
 rintro w s ob ⟨rfl, rfl⟩ he
 subst he
 have h := ay
 have a8 := Cs b.Segments.length
 exact Ai I (Ab fun bw bx => Br I a8 (uG (lg ⟨w, h, I2⟩ N4)))
 rintro s ob ⟨B, h, rfl, rfl⟩
 unfold Ju.J5 at h
 refine Ea 70 (B && decide (p < 0)) ?_ ?_
 refine tX (Af 2 I ?_)
 rcases bt (B) with F | F
 exact Ah 67 I F (Af 3 I (tY (jf (by simp only [F, bz]) I I I2)))
 exact Ah 67 I F (Af 3 I (tY (jf (by simp only [F, bz]) I I I2)))
 refine Ao h I ?_ ?_
 intro a9 h
 exact Lj I (lg ⟨(u : Int), h, I2⟩ N4)
 intro a9 h
 exact uA (lg ⟨p, h, I2⟩ N4)
 rintro s ob ⟨O, h, rfl, rfl⟩
 unfold Ju.J4 at h
 refine tX (Am 2 [.k 0 (u + 1 : Nat)] I ⟨A6 U am, J⟩ ?_)
 cases io h
 exact tY (lg I2 N4)
 rintro p s ob ⟨rfl, rfl⟩ he
 subst he
 have h := ao
 have ba := Cs b.Nodes.length
 exact Ai I (Ab fun b0 b1 => Br I ba (uG (lg ⟨p, h, I2⟩ N4)))
 rintro s ob ⟨G, h, rfl, rfl⟩
 refine uD (Ai I (Ao h I ?_ ?_))
 intro bb h
 refine Ai I ?_
 obtain rfl := al _ (oi h).symm
 have h := aj
 refine C9 [3] I ?_
 obtain rfl := oi h
 exact uE ⟨.inr I, [_], [U0 e a.1], J1, Cb I (B0), ⟨e, I2⟩⟩
 intro bb h
 refine uA (uD ?_)
 obtain ⟨b4, bc, h⟩ := Ac h
 refine tX (Af 2 I (tZ [] I (uH 1 (([G] : Li).map rI) (tZ [3] I (uO 3 I bc fun bd => Af 1 I (tY ?_))))))
 obtain ⟨ab, ⟨be, ac⟩, h⟩ := A5 h
 refine tX (Af 2 I (uI (Bc 2 (m := ab.1) I I I I I I I be (Ae ac)) I (tZ [2] I (Bd 2 ab.1 0 I I I (Ae ac) I I I I (Ba I) I (Ce (x := true) I) ?_))))
 cases io h
 exact tY ⟨_, _, _, I, ⟨bd, I2⟩, J4, pk N4⟩
theorem Oz (b : Nw) (a : Plan) (r : Int) (h : Jj b a = some r) : ACalls Ak 67 [.agg (Ad b), .agg (Aq a)] [] (RV (.V r)) := by
 refine Ag Tryz.func67 I I I fun C hC => ?_
 refine Ab fun y1 Q => tX (tZ [] I (Cf (Ad b) 6 fun d => tZ [] I (Cf (Aq a) 3 fun e => Af 1 I (tY ?_))))
 subst Q
 refine Ab fun y4 R => uD ?_
 obtain ⟨r5, S, h⟩ := Ac h
 refine tX (Am 1 [.o 0 0] I J1 (uJ (Kt _ _ S) (Af 1 I (tY (Ai I (Ao h I ?_ ?_))))))
 intro U h
 refine Ai I (uF g0 ?_)
 cases io h
 exact uE pr
 intro U h
 refine uA ?_
 subst R
 refine Ab fun y8 W => Ea 43 (((a.Rates.length : Int) != (b.Segments.length : Int)) || (((a.Ports.length : Int) != (b.Ports.length : Int)) || ((a.Pumps.length : Int) != (b.Stations.length : Int)))) ?_ ?_
 refine tX (Am 8 [.o 1 1, .l 2 (a.Rates.length : Int), .o 4 0, .l 5 (b.Segments.length : Int)] I ⟨A4, I, A4, I, J⟩ ?_)
 rcases bt (((a.Rates.length : Int) != (b.Segments.length : Int))) with f | f
 exact Ah 26 I f (Af 17 I (tY (jf (by simp only [f, bz]) I I I2)))
 refine Ah 26 I f (Am 9 [.o 1 1, .l 2 (a.Ports.length : Int), .o 4 0, .l 5 (b.Ports.length : Int)] I ⟨A4, I, A4, I, J⟩ ?_)
 rcases bt (((a.Ports.length : Int) != (b.Ports.length : Int))) with g | g
 exact Ah 35 I g (Af 8 I (tY (jf (by simp only [f, g, bz]) I I I2)))
 exact Ah 35 I g (Am 8 [.o 1 1, .l 2 (a.Pumps.length : Int), .o 4 0, .l 5 (b.Stations.length : Int)] I ⟨A4, I, A4, I, J⟩ (tY (jf (by simp only [f, g, bz]) I I I2)))
 refine Ao h I ?_ ?_
 intro X h
 refine Ai I (uF g0 ?_)
 cases io h
 exact uE pr
 intro X h
 refine uA ?_
 subst W
 refine Aj (fun s ob => ∃ (A : Unit), Jj.J1 b a A = some r ∧ s = [] ∧ ob = [O0 d [Ad b], O1 e [Aq a]]) (K2 2 3) J2 ?_ ?_
 refine Bg [.o 1 1, .l 2 (a.Rates.length : Int)] I ⟨A4, I, J⟩ (uB (Cg 45 I fun Y => ?_))
 obtain ⟨a7, Z, B⟩ := Ac h
 refine Cj Z (K4 2 3 45 46) J4 (fun (p : Nat) (D : Unit) s ob => s = [(47, .V (p : Int))] ∧ ob = [O0 d [Ad b], O1 e [Aq a]]) ⟨I, I⟩ ⟨I, J⟩ (pk [0, 1]) ?_ ?_
 rintro p t D a8 s ob aa E ⟨rfl, rfl⟩ h ab
 have ac := Cr E
 refine Ai I (Ab fun a9 ad => Bq I ac (uA ?_))
 subst ad
 refine uD (uB (Bg [.x 1 p (rI t)] I ⟨⟨I, Ae aa⟩, J⟩ (Ab fun ba ae => ?_)))
 obtain ⟨i, ⟨af, ag⟩, h⟩ := A5 h
 refine Gd [.o 1 0, .x 3 i.1 (Ar i.2)] I ⟨⟨af, Ae ag⟩, I, J⟩ ?_
 subst ae
 refine Ea 67 (decide (t < (wr (0 - (min 1000 i.2.Capacity)))) || decide (t > (min 1000 i.2.Capacity))) ?_ ?_
 refine tX (Af 5 I ?_)
 rcases bt (decide (t < (wr (0 - (min 1000 i.2.Capacity))))) with j | j
 exact Ah 63 I j (Af 4 I (tY (jf (by simp only [j, bz]) I I I2)))
 exact Ah 63 I j (Af 4 I (tY (jf (by simp only [j, bz]) I I I2)))
 refine Ao h I ?_ ?_
 intro ah h
 refine Ai I ?_
 obtain rfl := ab _ (oi h).symm
 have h := B
 have h := Dj h
 refine uF g0 ?_
 cases io h
 exact uE pr
 intro ah h
 refine uA (tX (Am 2 [.k 0 (p + 1 : Nat)] I ⟨A6 E Y, J⟩ ?_))
 cases io h
 exact tY ⟨_, _, _, I, I2, J5, pk [0, 1]⟩
 rintro D s ob ⟨rfl, rfl⟩ he
 subst he
 have h := Dk B
 have ai := Cs a.Rates.length
 exact Ai I (Ab fun bb bc => Br I ai (uG (lg ⟨(), h, I2⟩ [0, 1])))
 rintro s ob ⟨A, h, rfl, rfl⟩
 unfold Jj.J1 at h
 refine Aj (fun s ob => ∃ (F : Unit), Jj.J2 b a F = some r ∧ s = [] ∧ ob = [O0 d [Ad b], O1 e [Aq a]]) (K2 2 3) J2 ?_ ?_
 refine Bg [.o 1 1, .l 2 (a.Ports.length : Int)] I ⟨A4, I, J⟩ (uB (Cg 70 I fun aj => ?_))
 obtain ⟨bd, ak, G⟩ := Ac h
 refine Cj ak (K4 2 3 70 71) J4 (fun (u : Nat) (H : Unit) s ob => s = [(72, .V (u : Int))] ∧ ob = [O0 d [Ad b], O1 e [Aq a]]) ⟨I, I⟩ ⟨I, J⟩ (pk [0, 1]) ?_ ?_
 rintro u w H be s ob al K ⟨rfl, rfl⟩ h am
 unfold Jj.B5 at h
 have an := Cr K
 refine Ai I (Ab fun bf ao => Bq I an (uA ?_))
 subst ao
 refine uD (uB (Bg [.x 0 u (rI w)] I ⟨⟨I, Ae al⟩, J⟩ (Ea 81 (decide (w < (-1000)) || decide (w > 1000)) ?_ ?_)))
 refine tX (Af 3 I ?_)
 rcases bt (decide (w < (-1000))) with n | n
 exact Ah 78 I n (Af 3 I (tY (jf (by simp only [n, bz]) I I I2)))
 exact Ah 78 I n (Af 3 I (tY (jf (by simp only [n, bz]) I I I2)))
 refine Ao h I ?_ ?_
 intro ap h
 refine Ai I ?_
 obtain rfl := am _ (oi h).symm
 have h := G
 have h := Dj h
 refine uF g0 ?_
 cases io h
 exact uE pr
 intro ap h
 refine uA (tX (Am 2 [.k 0 (u + 1 : Nat)] I ⟨A6 K aj, J⟩ ?_))
 cases io h
 exact tY ⟨_, _, _, I, I2, J5, pk [0, 1]⟩
 rintro H s ob ⟨rfl, rfl⟩ he
 subst he
 have h := Dk G
 have aq := Cs a.Ports.length
 exact Ai I (Ab fun bg bh => Br I aq (uG (lg ⟨(), h, I2⟩ [0, 1])))
 rintro s ob ⟨F, h, rfl, rfl⟩
 unfold Jj.J2 at h
 refine Aj (fun s ob => ∃ (M : Unit), Jj.J3 b a M = some r ∧ s = [] ∧ ob = [O0 d [Ad b], O1 e [Aq a]]) (K2 2 3) J2 ?_ ?_
 refine Bg [.o 1 0, .l 2 (b.Nodes.length : Int)] I ⟨A4, I, J⟩ (uB (Cg 84 I fun ar => ?_))
 obtain ⟨bi, au, N⟩ := Ac h
 refine Cj au (K3 2 3 85) J3 (fun (y : Nat) (O : Unit) s ob => s = [(86, .V (y : Int))] ∧ ob = [O0 d [Ad b], O1 e [Aq a]]) ⟨I, I⟩ ⟨I, J⟩ (pk [0, 1]) ?_ ?_
 rintro y bj O bk s ob bl P ⟨rfl, rfl⟩ h av
 have aw := Cr P
 refine Ai I (Ab fun bm ax => Bq I aw (uA ?_))
 subst ax
 refine uD (uB (Ai I (uD ?_)))
 obtain ⟨bn, ay, h⟩ := Ac h
 refine tX (Am 3 [.o 0 0, .o 1 1] I J2 (uJ (iQ _ _ _ _ ay) (Af 5 I (tY (Ai I (Ao h I ?_ ?_))))))
 intro az h
 refine Ai I ?_
 obtain rfl := av _ (oi h).symm
 have h := N
 have h := Dj h
 refine uF g0 ?_
 cases io h
 exact uE pr
 intro az h
 refine uA (tX (Am 2 [.k 0 (y + 1 : Nat)] I ⟨A6 P ar, J⟩ ?_))
 cases io h
 exact tY ⟨_, _, _, I, I2, J4, pk [0, 1]⟩
 rintro O s ob ⟨rfl, rfl⟩ he
 subst he
 have h := Dk N
 have a0 := Cs b.Nodes.length
 exact Ai I (Ab fun bo bp => Br I a0 (uG (lg ⟨(), h, I2⟩ [0, 1])))
 rintro s ob ⟨M, h, rfl, rfl⟩
 refine uD (uD ?_)
 obtain ⟨bq, a1, h⟩ := Ac h
 refine Bk (.still 0 (.still 1 (sl 3 4 (.act 2 (.act 3 (.still 7 .nil)))))) [0, 1] [_, _] I (Bv 5 [.o 0 0, .o 1 1, .o 3 0, .l 4 (b.Nodes.length : Int)] I ⟨A4, I, I, I, J⟩ (uC [] I I I (Bh I I I (Vz _ _ _ a1) dS ?_)))
 rintro _ _ ⟨br, rfl, rfl⟩
 refine uC [] I I I (Bf (Bp 2 I I I I) dS (A3 1 I (Ap (tY (Ao h I ?_ ?_)))))
 intro a2 h
 refine Ai I (uF g0 ?_)
 cases io h
 exact uE pr
 intro a2 h
 refine uA (Ai I (uF g0 ?_))
 cases io h
 exact uE pr
theorem iL (a : Nw) (b : Plan) (r : Li × Int) (h : Wz a b = some r) : ACalls Ak 57 [.agg (Ad a), .agg (Aq b)] [] (fun x new => ∃ (d : Value), x = .tup [.v d, .V r.2] ∧ new = [U0 d r.1]) := by
 refine Ag Tryz.func57 I I I fun C hC => ?_
 refine Ab fun l f => tX (tZ [] I (Cf (Ad a) 6 fun n => tZ [] I (Cf (Aq b) 3 fun p => Af 2 I (tY ?_))))
 subst f
 refine uD (uD ?_)
 obtain ⟨s, g, h⟩ := Ac h
 refine tX (Am 2 [.o 0 0, .o 1 1] I J2 (uJ (Oz _ _ _ g) (Af 1 I (tY (Ai I (Ao h I ?_ ?_))))))
 intro i h
 refine Ai I (uF (Az 3 1) (C9 [2] I ?_))
 cases io h
 exact uE ⟨.inr I, [_, _], [.us nS 3 1 ([].map rI)], J2, Cb I (B0), ⟨nS, I2⟩⟩
 intro i h
 refine uA (uD ?_)
 obtain ⟨j, k, h⟩ := Ac h
 refine tX (Am 2 [.o 0 0, .o 1 1] I J2 (tZ [] I (Bh I I I (Vz _ _ _ k) dS ?_)))
 rintro _ _ ⟨e, rfl, rfl⟩
 refine Af 2 I (tY (C9 [2] I ?_))
 cases io h
 exact uE ⟨.inr I, [_, _], [U0 e j], J2, Cb I (B0), ⟨e, I2⟩⟩
theorem Ox (a : List Piece) (r : Int) (h : Lq a = some r) : ACalls Ak 53 [Q2 a] [] (RV (.V r)) := by
 refine Ag Tryz.func53 I I I fun C hC => ?_
 unfold Lq at h
 refine Ai I (Ai I (Aj (fun s ob => ∃ (d : Int), Lq.J1 d = some r ∧ s = [(3, .V d)] ∧ ob = []) [] J ?_ ?_))
 refine Bg [.l 1 (a.length : Int)] I ⟨A4, J⟩ (uB (Cg 5 I fun f => ?_))
 obtain ⟨q, g, i⟩ := Ac h
 refine Cl g (K2 0 6) J2 (fun (b : Nat) (c : Int) s ob => s = [(7, .V (b : Int)), (3, .V c)] ∧ ob = []) ⟨I, I⟩ ⟨I, I, J⟩ (pk []) ?_ ?_
 rintro b j c t s ob m e ⟨rfl, rfl⟩ h
 unfold Lq.B2 at h
 have n := Cr e
 refine Ai I (Ab fun u o => Bq I n (uA ?_))
 subst o
 refine uD (uB (Ai I (Gd [.x 3 b (Aa j)] I ⟨⟨I, Ae m⟩, J⟩ (tX (Am 2 [.k 0 (b + 1 : Nat)] I ⟨A6 e f, J⟩ ?_)))))
 cases io h
 exact tY (lg I2 [])
 rintro c s ob ⟨rfl, rfl⟩ he
 subst he
 have h := i
 have p := Cs a.length
 exact Ai I (Ab fun w y => Br I p (uG (lg ⟨c, h, I2⟩ [])))
 rintro s ob ⟨d, h, rfl, rfl⟩
 unfold Lq.J1 at h
 refine Ai I ?_
 cases io h
 exact uE pr
theorem Ko (j : List Piece) (r : List Piece) (h : Jm j = some r) : ACalls Ak 60 [Q2 j] [] (fun x new => ∃ (B : Value), x = .v B ∧ new = [U1 B r]) := by
 refine Ag Tryz.func60 I I I fun C hC => ?_
 unfold Jm at h
 refine Ai I (Ai I (Aj (fun s ob => ∃ (n : List Piece) (f : Value), Jm.J1 n = some r ∧ s = [(3, .v f)] ∧ ob = [U1 f n]) [] J ?_ ?_))
 refine Bg [.l 1 (j.length : Int)] I ⟨A4, J⟩ (uB (Cg 6 I fun G => uF (Az 69 2) ?_))
 obtain ⟨ah, H, K⟩ := Ac h
 refine Cl H (K2 6 7) J2 (fun (p : Nat) (b : List Piece) s ob => ∃ (c : Value), s = [(8, .V (p : Int)), (3, .v c)] ∧ ob = [U1 c b]) ⟨nS, I2⟩ ⟨I, I, J⟩ (pk [0]) ?_ ?_
 rintro p d b D s ob M E ⟨c, rfl, rfl⟩ h
 unfold Jm.B2 at h
 have N := Cr E
 refine Ai I (Ab fun ai O => Bq I N (uA ?_))
 subst O
 refine Aj (fun s ob => ∃ (u : List Piece) (t : Value), Jm.J3 u = some D ∧ s = [(3, .v t)] ∧ ob = [U1 t u]) (K3 6 7 8) J3 ?_ ?_
 refine uB (Ab fun aj P => tX (Am 2 [.x 0 p (Aa d)] I ⟨⟨I, Ae M⟩, J⟩ (tZ [] I (Bs [.V 0, .V 0] 2 fun Q => tZ [1] I (Bj 1 0 0 [Aa d] I (tY ?_))))))
 subst P
 refine uB (Bg [.o 1 1] I J1 (Ao h I ?_ ?_))
 intro R h
 exact uA (lg ⟨b, c, h, I2⟩ [0])
 intro R h
 refine Aj (fun s ob => ∃ (w : Bool), Jm.J4 d b w = some D ∧ s = [(20, .v (.bool w))] ∧ ob = [U1 c b, O8 Q [Aa d]]) (K5 3 5 6 7 8) J5 ?_ ?_
 rcases bt (decide ((b.length : Int) > 0)) with g | g
 have h := Cc g h
 obtain ⟨i, ⟨S, A⟩, h⟩ := A5 h
 refine Cu 0 I fun U => Cu 0 I fun W => Bz 0 i.1 I A fun X => Bk (pd 16 0 []) [0, 1] [_, _] I (A3 1 I (uN I (Ct I I I U) I (A3 2 I (A9 24 I g (A3 2 I (Dd I I I I ((Ct I I I W).yd) dS (A3 1 I (Dd I I I I ((Av (m := i.1) I I I I I X I S A).yd) dS (A3 1 I ?_)))))))))
 exact Dd I I I I (Ay 0 i.1 0 I I I (Ae A) I (y := .V i.2.Batch) I) dS (Bv 5 [.o 1 1] I J1 (Ap (tY (lg ⟨(i.2.Batch == d.Batch), h, I2⟩ [0, 1]))))
 have h := Cd g h
 exact Cu 0 I fun Y => Bk (pd 16 0 []) [] [] I (A3 1 I (uN I (Ct I I I Y) I (A3 2 I (A9 24 I g (A3 12 I (Ap (tY (lg ⟨false, h, I2⟩ [0, 1]))))))))
 rintro s ob ⟨w, h, rfl, rfl⟩
 refine Ao h I ?_ ?_
 intro Z h
 obtain ⟨a, ⟨F, e⟩, h⟩ := A5 h
 refine Cu 0 I fun aa => Bz 0 a.1 I e fun ab => Bz 0 a.1 I e fun ac => Bk (sl 12 0 (.drop 12 .nil)) [0, 1] [_, _] I (A3 2 I (uN I (Ct I I I aa) I (A3 1 I (uN I (Av (m := a.1) I I I I I ab I F e) I (A3 1 I (AP.o I (Ay 0 a.1 1 I I I (Ae e) I (y := .V a.2.Volume) I) I (Bv 3 [.o 1 1] I J1 (uN I (Av (m := a.1) I I I I I ac I F e) I (A3 1 I ?_)))))))))
 exact uR [0] I I I (Bd 0 a.1 1 I I I (Ae e) I I I I (Ba I) I (Ce (x := (⟨a.2.Batch, wr (a.2.Volume + d.Volume)⟩ : Piece)) I) (Ap (tY (lg ⟨(b.set a.1 (⟨a.2.Batch, wr (a.2.Volume + d.Volume)⟩ : Piece)), c, h, I2⟩ [0]))))
 intro Z h
 obtain ⟨ad, ae, h⟩ := Ac h
 exact tX (Am 2 [.o 1 1] I J1 (tZ [] I (uH 2 (([d] : List Piece).map Aa) (tZ [0] I (uO 0 I ae fun af => Af 1 I (tY (lg ⟨ad, af, h, I2⟩ [0])))))))
 rintro s ob ⟨u, t, h, rfl, rfl⟩
 unfold Jm.J3 at h
 refine tX (Am 2 [.k 0 (p + 1 : Nat)] I ⟨A6 E G, J⟩ ?_)
 cases io h
 exact tY (lg ⟨t, I2⟩ [0])
 rintro b s ob ⟨c, rfl, rfl⟩ he
 subst he
 have h := K
 have ag := Cs j.length
 exact Ai I (Ab fun ak al => Br I ag (uG (lg ⟨b, c, h, I2⟩ [0])))
 rintro s ob ⟨n, f, h, rfl, rfl⟩
 refine Ai I ?_
 obtain rfl := oi h
 exact uE ⟨.inr I, [_], [U1 f n], J1, Cb I (B0), ⟨f, I2⟩⟩
theorem Vt (a : Int) (r : Bool) (h : Js a = r) : ACalls Ak 91 [.V a] [] (RB r) := by
 refine Ag Tryz.func91 I I I fun C hC => ?_
 unfold Js at h
 refine Ai I (Aj (fun s ob => s = [(2, .v (.bool (decide (a ≥ 0) && decide (a < 1000))))] ∧ ob = []) [] J ?_ ?_)
 refine tX (Af 3 I ?_)
 rcases bt (decide (a ≥ 0)) with b | b
 refine Ah 5 I b (Af 4 I (tY ?_))
 exact lf I2 ⟨(Dn (by simp only [b, bz])), J⟩ [] I
 refine Ah 5 I b (Af 4 I (tY ?_))
 exact lf I2 ⟨(Dn (by simp only [b, bz])), J⟩ [] I
 rintro s ob ⟨rfl, rfl⟩
 obtain rfl := h
 exact uE pr
theorem Vg (b : List Piece) (r : Bool) (h : Re b = some r) : ACalls Ak 52 [Q2 b] [] (RB r) := by
 refine Ag Tryz.func52 I I I fun C hC => ?_
 refine Ai I (Ab fun S y => Bg [.l 1 (b.length : Int)] I ⟨A4, J⟩ (Ao h I ?_ ?_))
 intro A h
 refine Ai I ?_
 cases io h
 exact uE pr
 intro A h
 refine uA ?_
 subst y
 refine Ai I (Aj (fun s ob => ∃ (n : Int), Re.J1 n = some r ∧ s = [(3, .V n)] ∧ ob = []) [] J ?_ ?_)
 refine Bg [.l 1 (b.length : Int)] I ⟨A4, J⟩ (uB (Cg 9 I fun B => ?_))
 obtain ⟨U, D, u⟩ := Ac h
 refine Cj D (K3 0 9 10) J3 (fun (d : Nat) (e : Int) s ob => s = [(11, .V (d : Int)), (3, .V e)] ∧ ob = []) ⟨I, I⟩ ⟨I, I, J⟩ (pk []) ?_ ?_
 rintro d a e E s ob F w ⟨rfl, rfl⟩ h G
 unfold Re.B2 at h
 have H := Cr w
 refine Ai I (Ab fun W K => Bq I H (uA ?_))
 subst K
 refine uD (uB (Ab fun X M => tX (Am 3 [.x 1 d (Aa a)] I ⟨⟨I, Ae F⟩, J⟩ (tZ [] I (Bs [.V 0, .V 0] 2 fun N => Af 1 I (tZ [0] I (Bj 0 0 0 [Aa a] I (tY ?_))))))))
 subst M
 refine uD (Aj (fun s ob => ∃ (p : Bool), Re.J3 a e p = some E ∧ s = [(44, .v (.bool p))] ∧ ob = [O8 N [Aa a]]) (K6 0 3 5 9 10 11) J6 ?_ ?_)
 refine Bk (pd 29 0 [2]) [0] [_] I (Bv 2 [.o 1 0] I J1 (uU I (Vt a.Batch _ I) (A3 2 I ?_)))
 rcases bt ((!(Js a.Batch))) with f | f
 have h := Cc f h
 refine A9 20 I f (A3 13 I (As I I I I dS (As I I I I dS (As I I I I dS (As I I I I dS (As I I I I dS (As I I I I dS (As I I I I dS (As I I I I dS (As I I I I dS (A3 2 I (Ap ?_))))))))))))
 exact tY (lg ⟨true, h, I2⟩ [0])
 have h := Cd f h
 refine A9 20 I f (Bv 5 [.o 1 0] I J1 ?_)
 rcases bt (decide (a.Volume < 1)) with g | g
 have h := Cc g h
 refine A9 25 I g (A3 8 I (As I I I I dS (As I I I I dS (As I I I I dS (As I I I I dS (As I I I I dS (As I I I I dS (As I I I I dS (As I I I I dS (As I I I I dS (A3 2 I (Ap ?_))))))))))))
 exact tY (lg ⟨true, h, I2⟩ [0])
 have h := Cd g h
 refine A9 25 I g (Bv 5 [.o 1 0] I J1 ?_)
 rcases bt (decide (a.Volume > 1000000)) with i | i
 have h := Cc i h
 refine A9 30 I i (A3 3 I (As I I I I dS (As I I I I dS (As I I I I dS (As I I I I dS (As I I I I dS (As I I I I dS (As I I I I dS (As I I I I dS (As I I I I dS (A3 2 I (Ap ?_))))))))))))
 exact tY (lg ⟨true, h, I2⟩ [0])
 have h := Cd i h
 refine A9 30 I i (A3 3 I ?_)
 rcases bt (decide ((d : Int) > 0)) with j | j
 have h := Cc j h
 obtain ⟨t, ⟨O, P⟩, h⟩ := A5 h
 exact A9 33 I j (Bv 11 [.o 1 0, .x 5 t.1 (Aa t.2)] I ⟨⟨O, Ae P⟩, I, J⟩ (Ap (tY (lg ⟨(a.Batch == t.2.Batch), h, I2⟩ [0]))))
 have h := Cd j h
 exact A9 33 I j (A3 11 I (Ap (tY (lg ⟨false, h, I2⟩ [0]))))
 rintro s ob ⟨p, h, rfl, rfl⟩
 refine Ao h I ?_ ?_
 intro Q h
 refine Ai I ?_
 obtain rfl := G _ (oi h).symm
 have h := u
 have h := Dj h
 refine uF g0 ?_
 cases io h
 exact uE pr
 intro Q h
 refine uA (Gd [.o 2 0] I J1 (tX (Am 2 [.k 0 (d + 1 : Nat)] I ⟨A6 w B, J⟩ ?_)))
 cases io h
 exact tY ⟨_, _, _, I, I2, J5, pk []⟩
 rintro e s ob ⟨rfl, rfl⟩ he
 subst he
 have h := Dk u
 have R := Cs b.length
 exact Ai I (Ab fun Y Z => Br I R (uG (lg ⟨e, h, I2⟩ [])))
 rintro s ob ⟨n, h, rfl, rfl⟩
 unfold Re.J1 at h
 refine Ai I ?_
 cases io h
 exact uE pr
theorem Us (e : List Piece) (r : List Piece) (h : Lm e = some r) : ACalls Ak 62 [Q2 e] [] (fun x new => ∃ (g : Value), x = .v g ∧ new = [U1 g r]) := by
 refine Ag Tryz.func62 I I I fun C hC => ?_
 unfold Lm at h
 refine Ai I (Ai I (Aj (fun s ob => ∃ (b : List Piece) (a : Value), Lm.J1 b = some r ∧ s = [(3, .v a)] ∧ ob = [U1 a b]) [] J ?_ ?_))
 refine Bg [.l 1 (e.length : Int)] I ⟨A4, J⟩ (uB (uF (Az 69 2) ?_))
 obtain ⟨w, i, j⟩ := Ac h
 refine Ci i [(0, _)] J1 (fun (c : (List Piece) × Int) s ob => ∃ (d : Value), s = [(3, .v d), (4, .V c.2)] ∧ ob = [U1 d c.1]) ⟨nS, I2⟩ ⟨I, I, J⟩ (pk [0]) ?_
 rintro c y s ob ⟨d, rfl, rfl⟩ h k
 refine Ab fun A m => Ai I (Ao h I ?_ ?_)
 intro n h
 refine uA ?_
 subst m
 refine uD (uB ?_)
 obtain ⟨f, ⟨o, p⟩, h⟩ := A5 h
 obtain ⟨B, t, h⟩ := Ac h
 refine tX (Am 5 [.x 3 f.1 (Aa f.2)] I ⟨⟨o, Ae p⟩, J⟩ (tZ [] I (uH 2 (([f.2] : List Piece).map Aa) (tZ [0] I (uO 0 I t fun u => Af 1 I (tY (tX (Af 3 I ?_))))))))
 cases io h
 exact tY ⟨_, _, _, I, ⟨u, I2⟩, J3, pk [0]⟩
 intro n h
 obtain rfl := k _ (oi h).symm
 have h := j
 exact uG (lg ⟨c.1, d, h, I2⟩ [0])
 rintro s ob ⟨b, a, h, rfl, rfl⟩
 refine Ai I ?_
 obtain rfl := oi h
 exact uE ⟨.inr I, [_], [U1 a b], J1, Cb I (B0), ⟨a, I2⟩⟩
theorem Vp (j : List Piece) (F : Int) (r : (List Piece) × (List Piece)) (h : Jr j F = some r) : ACalls Ak 99 [Q2 j, .V F] [] (fun x new => ∃ (G : Value) (H : Value), x = .tup [.v G, .v H] ∧ new = [U1 G r.1, U1 H r.2]) := by
 refine Ag Tryz.func99 I I I fun C hC => ?_
 unfold Jr at h
 refine Ai I (Ai I (Aj (fun s ob => ∃ (c : (List Piece) × (List Piece)) (n : Value) (d : Value), Jr.J1 c = some r ∧ s = [(6, .v n), (7, .v d)] ∧ ob = [U1 n c.1, U1 d c.2]) [] J ?_ ?_))
 refine Bg [.l 1 (j.length : Int)] I ⟨A4, J⟩ (uB (Cg 11 I fun P => uF (Az 69 2) (uF (Az 69 2) ?_)))
 obtain ⟨ad, Q, R⟩ := Ac h
 refine Cl Q (K2 11 12) J2 (fun (p : Nat) (b : Int × (List Piece) × (List Piece)) s ob => ∃ (e : Value) (f : Value), s = [(13, .V (p : Int)), (1, .V b.1), (6, .v e), (7, .v f)] ∧ ob = [U1 e b.2.1, U1 f b.2.2]) ⟨nS, nS, I2⟩ ⟨I, I, I, I, J⟩ (pk [0, 1]) ?_ ?_
 rintro p a b S s ob U M ⟨e, f, rfl, rfl⟩ h
 unfold Jr.B2 at h
 have W := Cr M
 refine Ai I (Ab fun ae X => Bq I W (uA ?_))
 subst X
 refine Aj (fun s ob => ∃ (t : (List Piece) × (List Piece)) (u : Value) (w : Value), Jr.J3 a b t = some S ∧ s = [(1, .V (wr (b.1 - (min b.1 a.Volume)))), (6, .v u), (7, .v w)] ∧ ob = [U1 u t.1, U1 w t.2]) (K3 11 12 13) J3 ?_ ?_
 refine uB (Ab fun af Y => tX (Am 2 [.x 0 p (Aa a)] I ⟨⟨I, Ae U⟩, J⟩ (tZ [] I (Bs [.V 0, .V 0] 2 fun ag => tZ [2] I (Bj 2 0 0 [Aa a] I (tY ?_))))))
 subst Y
 refine Bg [.o 2 2] I J1 (Ai I ?_)
 obtain ⟨y, A, h⟩ := Ac h
 obtain ⟨B, D, h⟩ := Ac h
 refine Bk (sl 5 0 (sl 8 7 (.two 5 15 (.two 6 15 (.act 15 kH) (.act 6 kH)) (.act 5 (.act 6 kH))))) [2] [_] I (Bv 4 [.o 2 0] I J1 (uN I (Bl (l := [.V a.Batch, .V (min b.1 a.Volume)]) D9 I) I (Bv 7 [.o 2 0, .o 4 0] I J2 (uN I (Bl (l := [.V a.Batch, .V (wr (a.Volume - (min b.1 a.Volume)))]) D9 I) I (uQ ?_ ?_)))))
 refine uC [] I I I (uH 2 (([(⟨a.Batch, (min b.1 a.Volume)⟩ : Piece)] : List Piece).map Aa) (uQ ?_ ?_))
 exact uC [0] I I I (uO 0 I A fun g => uC [] I I I (uH 2 (([(⟨a.Batch, wr (a.Volume - (min b.1 a.Volume))⟩ : Piece)] : List Piece).map Aa) (uC [1] I I I (uO 1 I D fun i => Ix 6 (A3 1 I (Ix 7 (A3 1 I (Ap (tY (lg ⟨(y, B), g, i, h, I2⟩ [0, 1]))))))))))
 exact uC [] I I I (uH 2 (([(⟨a.Batch, wr (a.Volume - (min b.1 a.Volume))⟩ : Piece)] : List Piece).map Aa) (uC [0] I I I (uO 0 I A fun g => uC [1] I I I (uO 1 I D fun i => Ix 6 (A3 1 I (Ix 7 (A3 1 I (Ap (tY (lg ⟨(y, B), g, i, h, I2⟩ [0, 1]))))))))))
 exact uC [] I I I (uH 2 (([(⟨a.Batch, wr (a.Volume - (min b.1 a.Volume))⟩ : Piece)] : List Piece).map Aa) (uC [] I I I (uH 2 (([(⟨a.Batch, (min b.1 a.Volume)⟩ : Piece)] : List Piece).map Aa) (uC [0] I I I (uO 0 I A fun g => uC [1] I I I (uO 1 I D fun i => Ix 6 (A3 1 I (Ix 7 (A3 1 I (Ap (tY (lg ⟨(y, B), g, i, h, I2⟩ [0, 1]))))))))))))
 rintro s ob ⟨t, u, w, h, rfl, rfl⟩
 unfold Jr.J3 at h
 refine tX (Am 2 [.k 0 (p + 1 : Nat)] I ⟨A6 M P, J⟩ ?_)
 cases io h
 exact tY (lg ⟨u, w, I2⟩ [0, 1])
 rintro b s ob ⟨e, f, rfl, rfl⟩ he
 subst he
 have h := R
 have Z := Cs j.length
 exact Ai I (Ab fun ah ai => Br I Z (uG (lg ⟨(b.2.1, b.2.2), e, f, h, I2⟩ [0, 1])))
 rintro s ob ⟨c, n, d, h, rfl, rfl⟩
 refine uD ?_
 obtain ⟨N, aa, h⟩ := Ac h
 obtain ⟨ab, ac, h⟩ := Ac h
 refine tX (Af 1 I (uP (Ax [0] (K := [U1 n c.1]) I [(6, Q2 c.1), (42, Q2 c.1)] ⟨⟨_, I, .us 0 I⟩, ⟨_, I, .us 0 I⟩, J⟩ (ob' := [U1 d c.2]) (.rest _)) (tZ [] I (Bh I I I (Ko _ _ aa) dS ?_))))
 rintro _ _ ⟨E, rfl, rfl⟩
 refine Af 1 I (uP (Ax [0] (K := [U1 d c.2]) I [(7, Q2 c.2), (44, Q2 c.2)] ⟨⟨_, I, .us 0 I⟩, ⟨_, I, .us 0 I⟩, J⟩ (ob' := [U1 E N]) (.rest _)) (tZ [] I (Bh I I I (Ko _ _ ac) dS ?_)))
 rintro _ _ ⟨O, rfl, rfl⟩
 refine Af 2 I (tY ?_)
 cases io h
 exact uE ⟨.inr I, [_, _], [U1 E N, U1 O ab], J2, Cb I (Cb I (B0)), ⟨E, O, I2⟩⟩
theorem iC (a : List Piece) (b : List Piece) (d : Bool) (r : (List Piece) × (List Piece)) (h : Wv a b d = some r) : ACalls Ak 63 [Q2 a, Q2 b, .v (.bool d)] [] (fun x new => ∃ (e : Value) (f : Value), x = .tup [.v e, .v f] ∧ new = [U1 e r.1, U1 f r.2]) := by
 refine Ag Tryz.func63 I I I fun C hC => ?_
 refine Ai I (Ab fun H p => Ai I (Ao h I ?_ ?_))
 intro s h
 refine uD ?_
 obtain ⟨M, t, h⟩ := Ac h
 obtain ⟨g, u, h⟩ := Ac h
 obtain ⟨N, w, h⟩ := Ac h
 obtain ⟨i, y, h⟩ := Ac h
 refine tX (tZ [] I (uM (sz := 2) (es := ([] : List Piece).map Aa) I I I I I I I I I I I dS fun O => Af 1 I (tZ [0] I (uO 0 I t fun P => Af 1 I (tZ [0] I (uO 0 I u fun A => Af 1 I (uJ (Ox _ _ w) (uP (Ax [0] (K := [U1 A g]) I [(16, Q2 g)] ⟨⟨_, I, .us 0 I⟩, J⟩ (ob' := []) (.rest _)) (tZ [] I (Bh I I I (Vp _ _ _ y) dS ?_))))))))))
 rintro _ _ ⟨j, k, rfl, rfl⟩
 refine Af 5 I (tY (Ai I (C9 [1, 0] I ?_)))
 cases io h
 exact uE ⟨.inr I, [_, _], [U1 k i.2, U1 j i.1], J2, Cb I (Cb I (B0)), ⟨k, j, I2⟩⟩
 intro s h
 refine uA ?_
 subst p
 refine uD ?_
 obtain ⟨Q, B, h⟩ := Ac h
 obtain ⟨l, D, h⟩ := Ac h
 obtain ⟨R, E, h⟩ := Ac h
 obtain ⟨m, F, h⟩ := Ac h
 refine tX (tZ [] I (uM (sz := 2) (es := ([] : List Piece).map Aa) I I I I I I I I I I I dS fun S => Af 1 I (tZ [0] I (uO 0 I B fun U => Af 1 I (tZ [0] I (uO 0 I D fun G => Af 1 I (uJ (Ox _ _ E) (uP (Ax [0] (K := [U1 G l]) I [(28, Q2 l)] ⟨⟨_, I, .us 0 I⟩, J⟩ (ob' := []) (.rest _)) (tZ [] I (Bh I I I (Vp _ _ _ F) dS ?_))))))))))
 rintro _ _ ⟨n, o, rfl, rfl⟩
 refine Af 4 I (tY ?_)
 cases io h
 exact uE ⟨.inr I, [_, _], [U1 n m.1, U1 o m.2], J2, Cb I (Cb I (B0)), ⟨n, o, I2⟩⟩
theorem iZ (e : Li) (p : Li) (r : Int) (h : Rx e p = some r) : ACalls Ak 98 [Q0 e, Q0 p] [] (RV (.V r)) := by
 refine Ag Tryz.func98 I I I fun C hC => ?_
 unfold Rx at h
 refine Ai I (Ai I (Aj (fun s ob => ∃ (g : Int), Rx.J1 g = some r ∧ s = [(5, .V g)] ∧ ob = []) [] J ?_ ?_))
 refine Bg [.l 1 (e.length : Int)] I ⟨A4, J⟩ (uB (Cg 7 I fun A => ?_))
 obtain ⟨R, B, D⟩ := Ac h
 refine Cl B (K3 0 1 8) J3 (fun (a : Nat) (b : Int) s ob => s = [(9, .V (a : Int)), (5, .V b)] ∧ ob = []) ⟨I, I⟩ ⟨I, I, J⟩ (pk []) ?_ ?_
 rintro a f b u s ob w y ⟨rfl, rfl⟩ h
 unfold Rx.B2 at h
 have E := Cr y
 refine Ai I (Ab fun S F => Bq I E (uA ?_))
 subst F
 refine Aj (fun s ob => ∃ (i : Int), Rx.J3 i = some u ∧ s = [(5, .V i)] ∧ ob = []) (K4 0 1 8 9) J4 ?_ ?_
 refine uB (Ai I (Aj (fun s ob => ∃ (j : Bool), Rx.J4 a b j = some u ∧ s = [(43, .v (.bool j))] ∧ ob = []) (K6 0 1 5 6 8 9) J6 ?_ ?_))
 refine Bk (pd 32 0 []) [] [] I (Bv 6 [.x 2 a (rI f)] I ⟨⟨I, Ae w⟩, J⟩ ?_)
 rcases bt (decide (f > 0)) with c | c
 have h := Cc c h
 refine A9 17 I c (A3 3 I ?_)
 rcases bt (decide (b < 0)) with d | d
 have h := Cc d h
 exact A9 20 I d (A3 23 I (Ap (tY (lg ⟨true, h, I2⟩ []))))
 have h := Cd d h
 obtain ⟨m, ⟨G, H⟩, h⟩ := A5 h
 obtain ⟨n, ⟨K, M⟩, h⟩ := A5 h
 obtain ⟨o, ⟨N, O⟩, h⟩ := A5 h
 exact A9 20 I d (Bv 23 [.x 2 m.1 (rI m.2), .x 7 n.1 (rI n.2), .x 12 o.1 (rI o.2), .x 17 a (rI f)] I ⟨⟨I, Ae w⟩, ⟨N, Ae O⟩, ⟨K, Ae M⟩, ⟨G, Ae H⟩, J⟩ (Ap (tY (lg ⟨decide ((wr ((wr (m.2 + 1)) * n.2)) < (wr ((wr (o.2 + 1)) * f))), h, I2⟩ []))))
 have h := Cd c h
 refine A9 17 I c (A3 3 I (As I I I I dS (As I I I I dS (As I I I I dS (As I I I I dS (As I I I I dS (As I I I I dS (As I I I I dS (As I I I I dS (As I I I I dS (As I I I I dS (As I I I I dS ?_))))))))))))
 exact As I I I I dS (As I I I I dS (As I I I I dS (As I I I I dS (As I I I I dS (As I I I I dS (As I I I I dS (As I I I I dS (As I I I I dS (As I I I I dS (A3 2 I (Ap (tY (lg ⟨false, h, I2⟩ [])))))))))))))
 rintro s ob ⟨j, h, rfl, rfl⟩
 refine Ao h I ?_ ?_
 intro P h
 exact Lj I (lg ⟨(a : Int), h, I2⟩ [])
 intro P h
 exact uA (lg ⟨b, h, I2⟩ [])
 rintro s ob ⟨i, h, rfl, rfl⟩
 unfold Rx.J3 at h
 refine tX (Am 2 [.k 0 (a + 1 : Nat)] I ⟨A6 y A, J⟩ ?_)
 cases io h
 exact tY (lg I2 [])
 rintro b s ob ⟨rfl, rfl⟩ he
 subst he
 have h := D
 have Q := Cs e.length
 exact Ai I (Ab fun U W => Br I Q (uG (lg ⟨b, h, I2⟩ [])))
 rintro s ob ⟨g, h, rfl, rfl⟩
 unfold Rx.J1 at h
 refine Ai I ?_
 cases io h
 exact uE pr
theorem iB (H : List Piece) (g : Li) (r : List (List Piece)) (h : Wu H g = some r) : ACalls Ak 61 [Q2 H, Q0 g] [] (RV (.list 1 (r.map (rL 2 Aa)))) := by
 refine Ag Tryz.func61 I I I fun C hC => ?_
 refine Ai I (Ab fun y2 ao => ?_)
 obtain ⟨l3, ⟨W, aq, ar, au⟩, h⟩ := I9 h
 refine tX (Am 2 [.l 1 (g.length : Int)] I ⟨A4, J⟩ (tZ [] I (D1 (sz := 1) (es' := List.replicate W [.N]) I I I I I I I I I I aq ar I dS fun a => uP (Nd (f := Aa) 0 W 69 2 au I) (Af 1 I (tY ?_)))))
 subst ao
 refine Ab fun y7 av => ?_
 obtain ⟨l8, ⟨b4, aw, ax, ay⟩, h⟩ := I9 h
 refine tX (Am 2 [.l 1 (g.length : Int)] I ⟨A4, J⟩ (tZ [] I (D1 (sz := 1) I I I I I I I I I I aw ax (Mj (f := rI) ay I) dS fun w => Af 1 I (tY ?_))))
 subst av
 refine Aj (fun s ob => ∃ (M : List (List Piece)) (X : List Value), Wu.J1 M = some r ∧ s = [] ∧ ob = [.uss a 34 69 2 X (M.map fun x => some (x.map Aa))]) [(5, _)] J1 ?_ ?_
 refine Bg [.l 1 (H.length : Int)] I ⟨A4, J⟩ (uB (Cg 19 I fun az => ?_))
 obtain ⟨b5, a0, a1⟩ := Ac h
 refine Cl a0 (K5 1 5 6 19 20) J5 (fun (O : Nat) (c : (List (List Piece)) × Li) s ob => ∃ (i : List Value), s = [(21, .V (O : Int))] ∧ ob = [.uss a 34 69 2 i (c.1.map fun x => some (x.map Aa)), U0 w c.2]) ⟨(List.replicate W nS), I, I⟩ ⟨I, J⟩ (pk [0, 1]) ?_ ?_
 rintro O e c ag s ob a2 ah ⟨i, rfl, rfl⟩ h
 unfold Wu.B4 at h
 have a3 := Cr ah
 refine Ai I (Ab fun b6 a4 => Bq I a3 (uA ?_))
 subst a4
 refine Aj (fun s ob => ∃ (P : (List (List Piece)) × Li) (Y : List Value), Wu.J5 P = some ag ∧ s = [] ∧ ob = [.uss a 34 69 2 Y (P.1.map fun x => some (x.map Aa)), U0 w P.2]) (K6 1 5 6 19 20 21) J6 ?_ ?_
 refine uB (Ab fun b7 a5 => tX (Am 2 [.x 0 O (Aa e)] I ⟨⟨I, Ae a2⟩, J⟩ (tZ [] I (Bs [.V 0, .V 0] 2 fun Z => tZ [2] I (Bj 2 0 0 [Aa e] I (tY ?_))))))
 subst a5
 refine Ab fun b8 a6 => ?_
 obtain ⟨Q, ai, h⟩ := Ac h
 refine tX (tZ [] I (uM (sz := 1) (es := ([] : Li).map rI) I I I I I I I I I I I dS fun b9 => Af 1 I (tZ [3] I (L7 3 I I I I I I I I I (Ts 1 I I) (dN (G7 ai).1) (dL (G7 ai).2) dS fun aa => Af 1 I (tY ?_)))))
 subst a6
 refine Aj (fun s ob => ∃ (A : Li), Wu.J6 g e c Q A = some ag ∧ s = [] ∧ ob = [.uss a 34 69 2 i (c.1.map fun x => some (x.map Aa)), U0 w A, O8 Z [Aa e], U0 aa Q]) (K8 1 5 6 8 9 19 20 21) J8 ?_ ?_
 refine Ai I (uB ?_)
 obtain ⟨ca, a7, a8⟩ := Ac h
 refine Ci a7 (K8 1 5 6 8 9 19 20 21) J8 (fun (R : Li × Int) s ob => s = [(10, .V R.2)] ∧ ob = [.uss a 34 69 2 i (c.1.map fun x => some (x.map Aa)), U0 w R.1, O8 Z [Aa e], U0 aa Q]) ⟨I, I⟩ ⟨I, J⟩ (pk N4) ?_
 rintro R cb s ob ⟨rfl, rfl⟩ h a9
 refine Ab fun cc ba => Bg [.o 2 2] I J1 (Ao h I ?_ ?_)
 intro bb h
 refine uA ?_
 subst ba
 refine uD (uB ?_)
 obtain ⟨cd, bc, h⟩ := Ac h
 obtain ⟨n, ⟨aj, S⟩, h⟩ := A5 h
 refine tX (Af 3 I (tZ [] I (Dv I (.refl _) I I (.cons (.refl _) (.cons (.us 1 I) (.rest _))) I (iZ _ _ _ bc) dS (by rintro _ _ ⟨rfl, _⟩; rfl) ?_)))
 rintro _ ⟨_, rfl, -⟩
 refine uI (Bc 1 (m := n.1) I I I I I I I aj (Ae S)) I (uI (Ay 1 n.1 0 I I I (Ae S) I (y := .V n.2) I) I (Af 1 I (uI (Bc 1 (m := n.1) I I I I I I I aj (Ae S)) I (tZ [1] I (Bd 1 n.1 0 I I I (Ae S) I I I I (Ba I) I (Ce (x := wr (n.2 + 1)) I) (tY (tX (Af 3 I ?_))))))))
 cases io h
 exact tY ⟨_, _, _, I, I2, J9, pk N4⟩
 intro bb h
 obtain rfl := a9 _ (oi h).symm
 have h := a8
 exact uG (lg ⟨R.1, h, I2⟩ N4)
 rintro s ob ⟨A, h, rfl, rfl⟩
 refine Bg [.l 1 (g.length : Int)] I ⟨A4, J⟩ (uB (Cg 42 I fun bd => ?_))
 obtain ⟨ce, be, bf⟩ := Ac h
 refine Cl be (K9 1 5 6 8 9 19 20 21 43) J9 (fun (ab : Nat) (U : List (List Piece)) s ob => ∃ (B : List Value), s = [(44, .V (ab : Int))] ∧ ob = [.uss a 34 69 2 B (U.map fun x => some (x.map Aa)), U0 w A, O8 Z [Aa e], U0 aa Q]) ⟨i, I, I⟩ ⟨I, J⟩ (pk N4) ?_ ?_
 rintro ab cf U cg s ob ci ak ⟨B, rfl, rfl⟩ h
 have bg := Cr ak
 refine Ai I (Ab fun cj bh => Bq I bg (uA ?_))
 subst bh
 refine uD (uB (Ai I ?_))
 obtain ⟨p, ⟨al, D⟩, h⟩ := A5 h
 obtain ⟨t, ⟨bi, ac⟩, h⟩ := A5 h
 obtain ⟨u, ⟨bj, ad⟩, h⟩ := A5 h
 obtain ⟨ck, bk, h⟩ := Ac h
 refine uF (Ghost.take 0 p.1 I (Ae D)) (Bz 1 t.1 I ac fun bl => Bz 3 u.1 I ad fun bm => Bk (sl 18 0 (.act 18 (.act 19 (.still 20 (.drop 21 .nil))))) [0, 2, 1, 3] [_, _, _, _] I (A3 4 I (AP.o I (Es 0 (m := p.1) I I I I I I I al (Hc D)) I (AP.o I (I1 0 (m := p.1) I I I I (Hc D)) I (Bv 4 [.o 1 1] I J1 (uN I (Av (m := t.1) I I I I I bl I bi ac) I (AP.o I (Ay 2 t.1 0 I I I (Ae ac) I (y := .V t.2) I) I (A3 2 I (uN I (Av (m := u.1) I I I I I bm I bj ad) I (AP.o I (Ay 3 u.1 0 I I I (Ae ad) I (y := .V u.2) I) I ?_))))))))))
 refine A3 1 I (uN I (Bl (l := [.V e.Batch, .V (wr (t.2 - u.2))]) D9 I) I (uC [] I I I (uH 2 (([(⟨e.Batch, wr (t.2 - u.2)⟩ : Piece)] : List Piece).map Aa) (uC [4] I I I (uO 4 I bk fun bn => AP.o I (Es 0 (m := p.1) I I I I I I I al (Hc D)) I (uR [0, 4] I I I (Hi 0 4 p.1 I I I I (Mw D) I I I (Gb _ _ _ _) (Ap (tY (tX (Am 2 [.k 0 (ab + 1 : Nat)] I ⟨A6 ak bd, J⟩ ?_)))))))))))
 cases io h
 exact tY (lg ⟨(B.set p.1 bn), I2⟩ N4)
 rintro U s ob ⟨B, rfl, rfl⟩ he
 subst he
 have h := bf
 have bo := Cs g.length
 exact Ai I (Ab fun cl cm => Br I bo (uG (lg ⟨(U, A), B, h, I2⟩ [0, 1])))
 rintro s ob ⟨P, Y, h, rfl, rfl⟩
 unfold Wu.J5 at h
 refine tX (Am 2 [.k 0 (O + 1 : Nat)] I ⟨A6 ah az, J⟩ ?_)
 cases io h
 exact tY (lg ⟨Y, I2⟩ [0, 1])
 rintro c s ob ⟨i, rfl, rfl⟩ he
 subst he
 have h := a1
 have bp := Cs H.length
 exact Ai I (Ab fun cn co => Br I bp (uG (lg ⟨c.1, i, h, I2⟩ [0])))
 rintro s ob ⟨M, X, h, rfl, rfl⟩
 unfold Wu.J1 at h
 refine Aj (fun s ob => ∃ (E : List (List Piece)) (ae : List Value), Wu.J2 E = some r ∧ s = [] ∧ ob = [.uss a 34 69 2 ae (E.map fun x => some (x.map Aa))]) [(5, _)] J1 ?_ ?_
 refine Ab fun cp bq => tX (Af 1 I (uI (L6 0 I I I I) I (Af 1 I (tY ?_))))
 subst bq
 refine uB (kL 0 I fun br => ?_)
 obtain ⟨cq, bs, bt⟩ := Ac h
 refine Eo bs (K2 5 71) J2 (fun (af : Nat) (F : List (List Piece)) s ob => ∃ (j : List Value), s = [(72, .V (af : Int))] ∧ ob = [.uss a 34 69 2 j (F.map fun x => some (x.map Aa))]) ⟨X, I, I⟩ ⟨I, J⟩ (pk [0]) ?_ ?_
 rintro af F cr s ob am ⟨j, rfl, rfl⟩ h
 have bu := Cr am
 refine Ai I (Ab fun ct bv => Bq I bu (uA ?_))
 subst bv
 refine uD (uB (Ai I ?_))
 obtain ⟨b, ⟨an, G⟩, h⟩ := A5 h
 obtain ⟨cu, bw, h⟩ := Ac h
 refine tX (Af 4 I (uI (Es 0 (m := b.1) I I I I I I I an (Wa G)) I (uI (I1 0 (m := b.1) I I I I (Wa G)) I (uP (Ghost.take 0 b.1 I (Ae G)) (uP (Ax [1] (K := [.us (j.getD b.1 undef) 69 2 (b.2.map Aa)]) I [(80, Q2 b.2)] ⟨⟨_, I, .us 0 I⟩, J⟩ (ob' := [.uss a 34 69 2 j (List.set (F.map fun x => some (x.map Aa)) b.1 none)]) (.rest _)) (tZ [] I (Bh I I I (Ko _ _ bw) dS ?_)))))))
 rintro _ _ ⟨bx, rfl, rfl⟩
 refine uI (Es 0 (m := b.1) I I I I I I I an (Hc G)) I (tZ [0, 1] I (Hi 0 1 b.1 I I I I (Mw G) I I I (Gb _ _ _ _) (tY (tX (Am 2 [.k 0 (af + 1 : Nat)] I ⟨A6 am br, J⟩ ?_)))))
 cases io h
 exact tY (lg ⟨(j.set b.1 bx), I2⟩ [0])
 rintro F s ob ⟨j, rfl, rfl⟩ he
 subst he
 have h := bt
 have bz := Cs M.length
 exact Ai I (Ab fun cv cw => Br I bz (uG (lg ⟨F, j, h, I2⟩ [0])))
 rintro s ob ⟨E, ae, h, rfl, rfl⟩
 unfold Wu.J2 at h
 refine Ai I (uF (Ax [0] (K := [.uss a 34 69 2 ae (E.map fun x => some (x.map Aa))]) I [(4, .list 1 (E.map (rL 2 Aa)))] ⟨⟨_, I, Uq 0 I⟩, J⟩ (ob' := []) (.rest _)) ?_)
 cases io h
 exact uE pr
theorem Pe (a : Nw) (b : List (List Piece)) (r : Int) (h : Lw a b = some r) : ACalls Ak 15 [.agg (Ad a), .list 1 (b.map (rL 2 Aa))] [] (RV (.V r)) := by
 refine Ag Tryz.func15 I I I fun C hC => ?_
 refine Ab fun y1 A => tX (tZ [] I (Cf (Ad a) 6 fun f => Af 1 I (tY ?_)))
 subst A
 refine Ab fun y3 B => uD ?_
 obtain ⟨r4, D, h⟩ := Ac h
 refine tX (Am 1 [.o 0 0] I J1 (uJ (Kt _ _ D) (Af 1 I (tY (Ai I (Ao h I ?_ ?_))))))
 intro E h
 refine Ai I (uF g0 ?_)
 cases io h
 exact uE pr
 intro E h
 refine uA ?_
 subst B
 refine Ab fun y7 F => Bg [.l 1 (b.length : Int), .o 3 0, .l 4 (a.Segments.length : Int)] I ⟨A4, I, A4, J⟩ (Ao h I ?_ ?_)
 intro G h
 refine Ai I (uF g0 ?_)
 cases io h
 exact uE pr
 intro G h
 refine uA ?_
 subst F
 refine Aj (fun s ob => ∃ (g : Unit), Lw.J1 a b g = some r ∧ s = [] ∧ ob = [O0 f [Ad a]]) (K2 1 2) J2 ?_ ?_
 refine Bg [.l 1 (b.length : Int)] I ⟨A4, J⟩ (uB (Cg 19 I fun H => ?_))
 obtain ⟨am, K, i⟩ := Ac h
 refine Cj K (K3 1 2 20) J3 (fun (d : Nat) (j : Unit) s ob => s = [(21, .V (d : Int))] ∧ ob = [O0 f [Ad a]]) ⟨I, I⟩ ⟨I, J⟩ (pk [0]) ?_ ?_
 rintro d M j an s ob N n ⟨rfl, rfl⟩ h O
 have P := Cr n
 refine Ai I (Ab fun ao Q => Bq I P (uA ?_))
 subst Q
 refine uD (uB (Ai I (uD ?_)))
 obtain ⟨ap, R, h⟩ := Ac h
 refine tX (Am 4 [.x 2 d ((rL 2 Aa) M)] I ⟨⟨I, Ae N⟩, J⟩ (uJ (Vg _ _ R) (Af 1 I (tY (Ao h I ?_ ?_)))))
 intro S h
 refine Ai I ?_
 obtain rfl := O _ (oi h).symm
 have h := i
 have h := Dj h
 refine uF g0 ?_
 cases io h
 exact uE pr
 intro S h
 refine uA (tX (Am 2 [.k 0 (d + 1 : Nat)] I ⟨A6 n H, J⟩ ?_))
 cases io h
 exact tY ⟨_, _, _, I, I2, J4, pk [0]⟩
 rintro j s ob ⟨rfl, rfl⟩ he
 subst he
 have h := Dk i
 have U := Cs b.length
 exact Ai I (Ab fun aq ar => Br I U (uG (lg ⟨(), h, I2⟩ [0])))
 rintro s ob ⟨g, h, rfl, rfl⟩
 unfold Lw.J1 at h
 refine Aj (fun s ob => ∃ (p : Unit), Lw.J2 p = some r ∧ s = [] ∧ ob = []) [] J ?_ ?_
 refine Bg [.l 1 (b.length : Int)] I ⟨A4, J⟩ (uB (Cg 31 I fun W => ?_))
 obtain ⟨au, X, t⟩ := Ac h
 refine Cj X (K3 1 2 32) J3 (fun (e : Nat) (u : Unit) s ob => s = [(33, .V (e : Int))] ∧ ob = [O0 f [Ad a]]) ⟨I, I⟩ ⟨I, J⟩ (pk [0]) ?_ ?_
 rintro e Y u av s ob Z w ⟨rfl, rfl⟩ h aa
 have ab := Cr w
 refine Ai I (Ab fun aw ac => Bq I ab (uA ?_))
 subst ac
 refine uD (uB (Ai I (uD ?_)))
 obtain ⟨ax, ad, h⟩ := Ac h
 obtain ⟨y, ⟨ae, af⟩, h⟩ := A5 h
 refine Bk (sl 4 0 (sl 6 5 (.act 4 (.still 11 .nil)))) [0] [_] I (Bv 10 [.x 2 e ((rL 2 Aa) Y), .o 5 0, .x 7 y.1 (Ar y.2)] I ⟨⟨ae, Ae af⟩, I, ⟨I, Ae Z⟩, J⟩ (uU I (Ox _ _ ad) (A3 1 I (Ap (tY (Ao h I ?_ ?_))))))
 intro ag h
 refine Ai I ?_
 obtain rfl := aa _ (oi h).symm
 have h := t
 have h := Dj h
 refine uF g0 ?_
 cases io h
 exact uE pr
 intro ag h
 refine uA (tX (Am 2 [.k 0 (e + 1 : Nat)] I ⟨A6 w W, J⟩ ?_))
 cases io h
 exact tY ⟨_, _, _, I, I2, J4, pk [0]⟩
 rintro u s ob ⟨rfl, rfl⟩ he
 subst he
 have h := Dk t
 have ah := Cs b.length
 exact Ai I (Ab fun ay az => Br I ah (uG (lg ⟨(), h, I2⟩ [])))
 rintro s ob ⟨p, h, rfl, rfl⟩
 unfold Lw.J2 at h
 refine Ai I ?_
 cases io h
 exact uE pr
theorem gY (b : Nw) (f : List (List Piece)) (e : Plan) (a : Li) (r : Int) (h : Rh b f e a = some r) : ACalls Ak 56 [.agg (Ad b), .list 1 (f.map (rL 2 Aa)), .agg (Aq e), Q0 a] [] (RV (.V r)) := by
 refine Ag Tryz.func56 I I I fun C hC => ?_
 refine Ab fun R t => tX (tZ [] I (Cf (Ad b) 6 fun S => tZ [] I (Cf (Aq e) 3 fun U => Af 1 I (tY ?_))))
 subst t
 refine Ab fun W u => uD ?_
 obtain ⟨X, w, h⟩ := Ac h
 refine tX (Am 2 [.o 0 0] I J1 (uJ (Pe _ _ _ w) (Af 1 I (tY (Ai I (Ao h I ?_ ?_))))))
 intro y h
 refine Ai I (uF g0 ?_)
 cases io h
 exact uE pr
 intro y h
 refine uA ?_
 subst u
 refine Ab fun Y A => uD ?_
 obtain ⟨Z, B, h⟩ := Ac h
 refine tX (Am 2 [.o 0 0, .o 1 1] I J2 (uJ (Oz _ _ _ B) (Af 1 I (tY (Ai I (Ao h I ?_ ?_))))))
 intro D h
 refine Ai I (uF g0 ?_)
 cases io h
 exact uE pr
 intro D h
 refine uA ?_
 subst A
 refine Ab fun aa E => Bg [.l 1 (a.length : Int), .o 3 0, .l 4 (b.Ports.length : Int)] I ⟨A4, I, A4, J⟩ (Ao h I ?_ ?_)
 intro F h
 refine Ai I (uF g0 ?_)
 cases io h
 exact uE pr
 intro F h
 refine uA ?_
 subst E
 refine Aj (fun s ob => ∃ (g : Unit), Rh.J1 g = some r ∧ s = [] ∧ ob = []) [] J ?_ ?_
 refine Bg [.l 1 (a.length : Int)] I ⟨A4, J⟩ (uB (Cg 30 I fun G => ?_))
 obtain ⟨ab, H, i⟩ := Ac h
 refine Cj H (K2 3 31) J2 (fun (d : Nat) (j : Unit) s ob => s = [(32, .V (d : Int))] ∧ ob = []) ⟨I, I⟩ ⟨I, J⟩ (pk []) ?_ ?_
 rintro d n j ac s ob K p ⟨rfl, rfl⟩ h M
 have N := Cr p
 refine Ai I (Ab fun ad O => Bq I N (uA ?_))
 subst O
 refine uD (uB (Ai I (uD (tX (Am 4 [.x 2 d (rI n)] I ⟨⟨I, Ae K⟩, J⟩ (uJ (Vt n _ I) (Af 1 I (tY (Ao h I ?_ ?_)))))))))
 intro P h
 refine Ai I ?_
 obtain rfl := M _ (oi h).symm
 have h := i
 have h := Dj h
 cases io h
 exact uE pr
 intro P h
 refine uA (tX (Am 2 [.k 0 (d + 1 : Nat)] I ⟨A6 p G, J⟩ ?_))
 cases io h
 exact tY ⟨_, _, _, I, I2, J3, pk []⟩
 rintro j s ob ⟨rfl, rfl⟩ he
 subst he
 have h := Dk i
 have Q := Cs a.length
 exact Ai I (Ab fun ae af => Br I Q (uG (lg ⟨(), h, I2⟩ [])))
 rintro s ob ⟨g, h, rfl, rfl⟩
 unfold Rh.J1 at h
 refine Ai I ?_
 cases io h
 exact uE pr
theorem gB (b : Nw) (ad : List (List Piece)) (e : Plan) (am : Li) (r : (List (List Piece)) × (List (List Piece)) × Int) (h : Fx b ad e am = some r) : ACalls Ak 18 [.agg (Ad b), .list 1 (ad.map (rL 2 Aa)), .agg (Aq e), Q0 am] [] (fun x new => ∃ (u0 : Value) (u1 : Value), x = .tup [.v u0, .v u1, .V r.2.2] ∧ new = [.us u0 34 1 (r.1.map (rL 2 Aa)), .us u1 34 1 (r.2.1.map (rL 2 Aa))]) := by
 refine Ag Tryz.func18 I I I fun C hC => ?_
 refine Ab fun y1 dt => tX (tZ [] I (Cf (Ad b) 6 fun n => tZ [] I (Cf (Aq e) 3 fun p => Af 3 I (tY ?_))))
 subst dt
 refine Ab fun y4 du => uD ?_
 obtain ⟨r5, dv, h⟩ := Ac h
 refine tX (Am 4 [.o 0 0, .o 2 1] I J2 (uJ (gY _ _ _ _ _ dv) (Af 1 I (tY (Ai I (Ao h I ?_ ?_))))))
 intro dw h
 refine Ai I (uF (Az 34 1) (uF (Az 34 1) (C9 [2, 3] I ?_)))
 cases io h
 exact uE ⟨.inr I, [_, _, _], [.us nS 34 1 ([].map (rL 2 Aa)), .us nS 34 1 ([].map (rL 2 Aa))], J3, Cb I (Cb I (B0)), ⟨nS, nS, I2⟩⟩
 intro dw h
 refine uA ?_
 subst du
 refine Aj (fun s ob => ∃ (Y : (List (List Piece)) × (List (List Piece))) (g : Value) (i : Value), Fx.J1 b ad e am Y = some r ∧ s = [(12, .v g), (13, .v i)] ∧ ob = [O0 n [Ad b], O1 p [Aq e], .us g 34 1 (Y.1.map (rL 2 Aa)), .us i 34 1 (Y.2.map (rL 2 Aa))]) (K4 1 3 4 6) J4 ?_ ?_
 obtain ⟨ct, ⟨a6, cu, cv, cw⟩, h⟩ := I9 h
 obtain ⟨cx, ⟨a7, cy, cz, c0⟩, h⟩ := I9 h
 refine Bk (.still 0 (.still 1 (sl 3 3 (.two 2 6 (.still 7 (.act 6 (.still 8 .nil))) (.act 2 (.still 7 (.still 8 .nil))))))) [0] [_] I (Bv 5 [.l 1 (ad.length : Int), .o 3 0, .l 4 (b.Ports.length : Int)] I ⟨A4, I, A4, J⟩ (uQ ?_ ?_))
 exact uC [] I I I (D1 (sz := 1) (es' := List.replicate a6 [.N]) I I I I I I I I I I cu cv I dS fun bu => Fz (Dp (f := Aa) 2 a6 2 cw I) I (A3 1 I (uC [] I I I (D1 (sz := 1) (es' := List.replicate a7 [.N]) I I I I I I I I I I cy cz I dS fun bv => Fz (Dp (f := Aa) 3 a7 2 c0 I) I (A3 1 I (Ap (tY (lg ⟨(ct, cx), bu, bv, h, I2⟩ N4))))))))
 exact uC [] I I I (D1 (sz := 1) (es' := List.replicate a7 [.N]) I I I I I I I I I I cy cz I dS fun bv => Fz (Dp (f := Aa) 2 a7 2 c0 I) I (uC [] I I I (D1 (sz := 1) (es' := List.replicate a6 [.N]) I I I I I I I I I I cu cv I dS fun bu => Fz (Dp (f := Aa) 3 a6 2 cw I) I (A3 2 I (Ap (tY (lg ⟨(ct, cx), bu, bv, h, I2⟩ [0, 1, 3, 2])))))))
 rintro s ob ⟨Y, g, i, h, rfl, rfl⟩
 refine Ab fun h1 dx => ?_
 obtain ⟨a8, ⟨c1, dy, dz, d0⟩, h⟩ := I9 h
 refine tX (Am 2 [.l 1 (ad.length : Int)] I ⟨A4, J⟩ (tZ [] I (D1 (sz := 1) (es' := List.replicate c1 [.N]) I I I I I I I I I I dy dz I dS fun j => uP (Dp (f := Aa) 4 c1 2 d0 I) (Af 1 I (tY ?_)))))
 subst dx
 refine Ai I (Aj (fun s ob => ∃ (bw : List (List Piece)), Fx.J2 b e am Y a8 bw = some r ∧ s = [] ∧ ob = [O0 n [Ad b], O1 p [Aq e], .us g 34 1 (bw.map (rL 2 Aa)), .us i 34 1 (Y.2.map (rL 2 Aa)), .us j 34 1 (a8.map (rL 2 Aa))]) (K7 3 4 6 12 13 14 15) J7 ?_ ?_)
 refine Bg [.l 1 (ad.length : Int)] I ⟨A4, J⟩ (uB (Cg 59 I fun d1 => ?_))
 obtain ⟨h2, d2, d3⟩ := Ac h
 refine Cl d2 (K9 1 3 4 6 12 13 14 15 60) J9 (fun (a9 : Nat) (an : List (List Piece)) s ob => s = [(61, .V (a9 : Int))] ∧ ob = [O0 n [Ad b], O1 p [Aq e], .us g 34 1 (an.map (rL 2 Aa)), .us i 34 1 (Y.2.map (rL 2 Aa)), .us j 34 1 (a8.map (rL 2 Aa))]) ⟨I, I⟩ ⟨I, J⟩ (pk N5) ?_ ?_
 rintro a9 d4 an h3 s ob d5 c2 ⟨rfl, rfl⟩ h
 have d6 := Cr c2
 refine Ai I (Ab fun h4 d7 => Bq I d6 (uA ?_))
 subst d7
 refine uD (uB (Ai I ?_))
 obtain ⟨bx, d8, h⟩ := Ac h
 obtain ⟨c3, ⟨d9, c4⟩, h⟩ := A5 h
 refine tX (Af 2 I (tZ [] I (uM (sz := 2) (es := ([] : List Piece).map Aa) I I I I I I I I I I I dS fun h5 => Am 4 [.x 2 a9 ((rL 2 Aa) d4)] I ⟨⟨I, Ae d5⟩, J⟩ (tZ [5] I (uO 5 I d8 fun ea => uI (Bc 2 (m := c3.1) I I I I I I I d9 (Ae c4)) I (uP (Ax [5] (K := [U1 ea bx]) I [(71, Q2 bx)] ⟨⟨_, I, .us 0 I⟩, J⟩ (ob' := [O0 n [Ad b], O1 p [Aq e], .us g 34 1 (an.map (rL 2 Aa)), .us i 34 1 (Y.2.map (rL 2 Aa)), .us j 34 1 (a8.map (rL 2 Aa))]) (.rest _)) (tZ [2] I (Bd 2 c3.1 0 I I I (Ae c4) I I I I (Ba I) I (Ce (x := bx) I) (tY (tX (Am 2 [.k 0 (a9 + 1 : Nat)] I ⟨A6 c2 d1, J⟩ ?_)))))))))))
 cases io h
 exact tY (lg I2 N5)
 rintro an s ob ⟨rfl, rfl⟩ he
 subst he
 have h := d3
 have eb := Cs ad.length
 exact Ai I (Ab fun h6 h7 => Br I eb (uG (lg ⟨an, h, I2⟩ N5)))
 rintro s ob ⟨bw, h, rfl, rfl⟩
 refine Ab fun h8 ec => ?_
 obtain ⟨w, ed, h⟩ := Ac h
 refine tX (Am 2 [.o 0 0, .o 1 1] I J2 (tZ [] I (Bh I I I (iL _ _ _ ed) dS ?_)))
 rintro _ _ ⟨A, rfl, rfl⟩
 refine Af 5 I (tY ?_)
 subst ec
 refine Aj (fun s ob => ∃ (u : (List (List Piece)) × (List (List Piece)) × (List (List Piece)) × Bool), Fx.J3 u = some r ∧ s = [(15, .v (.bool u.2.2.2))] ∧ ob = [.us g 34 1 (u.1.map (rL 2 Aa)), .us i 34 1 (u.2.1.map (rL 2 Aa)), .us j 34 1 (u.2.2.1.map (rL 2 Aa))]) (K3 12 13 14) J3 ?_ ?_
 refine Ab fun h9 ee => tX (Af 1 I (uI (Bp 5 I I I I) I (Af 1 I (tY ?_))))
 subst ee
 refine uB (Pl 5 I fun ef => ?_)
 obtain ⟨ia, eg, eh⟩ := Ac h
 refine Eo eg (K8 3 4 6 12 13 14 80 81) J8 (fun (b0 : Nat) (a : (List (List Piece)) × (List (List Piece)) × (List (List Piece)) × Bool) s ob => s = [(82, .V (b0 : Int)), (15, .v (.bool a.2.2.2))] ∧ ob = [O0 n [Ad b], O1 p [Aq e], .us g 34 1 (a.1.map (rL 2 Aa)), .us i 34 1 (a.2.1.map (rL 2 Aa)), .us j 34 1 (a.2.2.1.map (rL 2 Aa)), U0 A w.1]) ⟨I, I⟩ ⟨I, I, J⟩ (pk N6) ?_ ?_
 rintro b0 a ba s ob c5 ⟨rfl, rfl⟩ h
 unfold Fx.B10 at h
 have ei := Cr c5
 refine Ai I (Ab fun ib ej => Bq I ei (uA ?_))
 subst ej
 refine Aj (fun s ob => ∃ (ai : (List (List Piece)) × (List (List Piece)) × (List (List Piece)) × Bool), Fx.J11 ai = some ba ∧ s = [(15, .v (.bool ai.2.2.2))] ∧ ob = [O0 n [Ad b], O1 p [Aq e], .us g 34 1 (ai.1.map (rL 2 Aa)), .us i 34 1 (ai.2.1.map (rL 2 Aa)), .us j 34 1 (ai.2.2.1.map (rL 2 Aa)), U0 A w.1]) (K9 3 4 6 12 13 14 80 81 82) J9 ?_ ?_
 refine uB (Ab fun ic ek => ?_)
 obtain ⟨Q, ⟨el, c6⟩, h⟩ := A5 h
 refine tX (uI (Bc 5 (m := Q.1) I I I I I I I el (Ae c6)) I (uI (Ay 5 Q.1 0 I I I (Ae c6) I (y := .V Q.2) I) I (Af 1 I (tY ?_))))
 subst ek
 refine Ai I (Ai I (Aj (fun s ob => ∃ (B : (List Piece) × Li × Li) (bb : Value) (bc : Value) (F : Value), Fx.J12 b e a Q B = some ba ∧ s = [(21, .v bb), (22, .v bc), (23, .v F)] ∧ ob = [O0 n [Ad b], O1 p [Aq e], .us g 34 1 (a.1.map (rL 2 Aa)), .us i 34 1 (a.2.1.map (rL 2 Aa)), .us j 34 1 (a.2.2.1.map (rL 2 Aa)), U0 A w.1, U1 bb B.1, U0 bc B.2.1, U0 F B.2.2]) [(3, _), (4, _), (6, _), (12, _), (13, _), (14, _), (15, _), (20, _), (24, _), (80, _), (81, _), (82, _)] rG ?_ ?_))
 refine Bg [.o 1 0, .l 2 (b.Ports.length : Int)] I ⟨A4, I, J⟩ (uB (Cg 87 I fun em => uF (Az 69 2) (uF (Az 3 1) (uF (Az 3 1) ?_))))
 obtain ⟨id, en, eo⟩ := Ac h
 refine Cl en [(3, _), (4, _), (6, _), (12, _), (13, _), (14, _), (15, _), (20, _), (24, _), (80, _), (81, _), (82, _), (87, _), (88, _)] rE (fun (Z : Nat) (D : (List Piece) × Li × Li) s ob => ∃ (ae : Value) (R : Value) (S : Value), s = [(89, .V (Z : Int)), (21, .v ae), (22, .v R), (23, .v S)] ∧ ob = [O0 n [Ad b], O1 p [Aq e], .us g 34 1 (a.1.map (rL 2 Aa)), .us i 34 1 (a.2.1.map (rL 2 Aa)), .us j 34 1 (a.2.2.1.map (rL 2 Aa)), U0 A w.1, U1 ae D.1, U0 R D.2.1, U0 S D.2.2]) ⟨nS, nS, nS, I2⟩ ⟨I, I, I, I, J⟩ (pk N9) ?_ ?_
 rintro Z aa D bd s ob ep c7 ⟨ae, R, S, rfl, rfl⟩ h
 unfold Fx.B22 at h
 have eq := Cr c7
 refine Ai I (Ab fun ie er => Bq I eq (uA ?_))
 subst er
 refine Aj (fun s ob => ∃ (ao : (List Piece) × Li × Li) (be : Value) (bf : Value) (bg : Value), Fx.J23 ao = some bd ∧ s = [(21, .v be), (22, .v bf), (23, .v bg)] ∧ ob = [O0 n [Ad b], O1 p [Aq e], .us g 34 1 (a.1.map (rL 2 Aa)), .us i 34 1 (a.2.1.map (rL 2 Aa)), .us j 34 1 (a.2.2.1.map (rL 2 Aa)), U0 A w.1, U1 be ao.1, U0 bf ao.2.1, U0 bg ao.2.2]) [(3, _), (4, _), (6, _), (12, _), (13, _), (14, _), (15, _), (20, _), (24, _), (80, _), (81, _), (82, _), (87, _), (88, _), (89, _)] rD ?_ ?_
 refine uB (Ab fun ig et => tX (Am 3 [.x 1 Z (Ca aa)] I ⟨⟨I, Ae ep⟩, J⟩ (tZ [] I (Bs W4 3 fun c8 => Af 1 I (tZ [9] I (Bj 9 0 0 [Ca aa] I (tY ?_)))))))
 subst et
 refine Aj (fun s ob => ∃ (af : List Piece) (aj : Value), Fx.J24 e Q Z aa D af = some bd ∧ s = [(21, .v aj)] ∧ ob = [O0 n [Ad b], O1 p [Aq e], .us g 34 1 (a.1.map (rL 2 Aa)), .us i 34 1 (a.2.1.map (rL 2 Aa)), .us j 34 1 (a.2.2.1.map (rL 2 Aa)), U0 A w.1, U1 aj af, U0 R D.2.1, U0 S D.2.2, .arr c8 82 3 1 [Ca aa]]) [(3, _), (4, _), (6, _), (12, _), (13, _), (14, _), (15, _), (20, _), (22, _), (23, _), (24, _), (25, _), (26, _), (80, _), (81, _), (82, _), (87, _), (88, _), (89, _)] ⟨I, I, I, I, I, I, I, I, I, I, I, I, I, I, I, I, I, I, I, J⟩ ?_ ?_
 refine Aj (fun s ob => ∃ (b1 : Bool), Fx.J26 e am Q Z aa D b1 = some bd ∧ s = [(105, .v (.bool b1))] ∧ ob = [O0 n [Ad b], O1 p [Aq e], .us g 34 1 (a.1.map (rL 2 Aa)), .us i 34 1 (a.2.1.map (rL 2 Aa)), .us j 34 1 (a.2.2.1.map (rL 2 Aa)), U0 A w.1, U1 ae D.1, U0 R D.2.1, U0 S D.2.2, .arr c8 82 3 1 [Ca aa]]) [(3, _), (4, _), (6, _), (12, _), (13, _), (14, _), (15, _), (20, _), (21, _), (22, _), (23, _), (24, _), (25, _), (26, _), (80, _), (81, _), (82, _), (87, _), (88, _), (89, _)] ⟨I, I, I, I, I, I, I, I, I, I, I, I, I, I, I, I, I, I, I, I, J⟩ ?_ ?_
 refine tX (Am 5 [.o 1 9] I J1 ?_)
 rcases bt ((aa.Node == Q.2)) with aq | aq
 have h := Cc aq h
 obtain ⟨b4, ⟨eu, ev⟩, h⟩ := A5 h
 exact Ah 98 I aq (Am 7 [.o 1 1, .x 3 b4.1 (rI b4.2)] I ⟨⟨eu, Ae ev⟩, I, J⟩ (tY (lg ⟨decide (b4.2 > 0), h, I2⟩ bY)))
 have h := Cd aq h
 exact Ah 98 I aq (Af 7 I (tY (lg ⟨false, h, I2⟩ bY)))
 rintro s ob ⟨b1, h, rfl, rfl⟩
 refine Ao h I ?_ ?_
 intro ew h
 obtain ⟨bh, ⟨ex, ey⟩, h⟩ := A5 h
 obtain ⟨bi, ⟨ez, e0⟩, h⟩ := A5 h
 obtain ⟨e1, e2, h⟩ := Ac h
 exact Bk (pd 14 0 [11, 12]) [1] [_] I (Bv 10 [.x 3 bh.1 (rI bh.2), .o 6 0, .x 8 bi.1 (rI bi.2)] I ⟨⟨ez, Ae e0⟩, I, ⟨ex, Ae ey⟩, J⟩ (uN I (Bl (l := [.V bh.2, .V bi.2]) D9 I) I (uC [] I I I (uH 2 (([(⟨bh.2, bi.2⟩ : Piece)] : List Piece).map Aa) (uC [6] I I I (uO 6 I e2 fun e3 => Ix 21 (A3 1 I (Ap (tY (lg ⟨e1, e3, h, I2⟩ bY))))))))))
 intro ew h
 exact uA (lg ⟨D.1, ae, h, I2⟩ bY)
 rintro s ob ⟨af, aj, h, rfl, rfl⟩
 unfold Fx.J24 at h
 refine Aj (fun s ob => ∃ (b5 : Bool), Fx.J25 e Z D af b5 = some bd ∧ s = [(130, .v (.bool b5))] ∧ ob = [O0 n [Ad b], O1 p [Aq e], .us g 34 1 (a.1.map (rL 2 Aa)), .us i 34 1 (a.2.1.map (rL 2 Aa)), .us j 34 1 (a.2.2.1.map (rL 2 Aa)), U0 A w.1, U1 aj af, U0 R D.2.1, U0 S D.2.2]) [(3, _), (4, _), (6, _), (12, _), (13, _), (14, _), (15, _), (20, _), (21, _), (22, _), (23, _), (24, _), (25, _), (80, _), (81, _), (82, _), (87, _), (88, _), (89, _)] ⟨I, I, I, I, I, I, I, I, I, I, I, I, I, I, I, I, I, I, I, J⟩ ?_ ?_
 refine tX (Am 5 [.o 1 9] I J1 ?_)
 rcases bt ((aa.Node == Q.2)) with ar | ar
 have h := Cc ar h
 obtain ⟨b6, ⟨e4, e5⟩, h⟩ := A5 h
 exact Ah 123 I ar (Am 7 [.o 1 1, .x 3 b6.1 (rI b6.2)] I ⟨⟨e4, Ae e5⟩, I, J⟩ (tY (lg ⟨decide (b6.2 < 0), h, I2⟩ N9)))
 have h := Cd ar h
 exact Ah 123 I ar (Af 7 I (tY (lg ⟨false, h, I2⟩ N9)))
 rintro s ob ⟨b5, h, rfl, rfl⟩
 refine Ao h I ?_ ?_
 intro e6 h
 obtain ⟨b7, ⟨e7, e8⟩, h⟩ := A5 h
 obtain ⟨e9, fa, h⟩ := Ac h
 obtain ⟨fb, fc, h⟩ := Ac h
 exact tX (Am 7 [.o 2 1, .x 4 b7.1 (rI b7.2)] I ⟨⟨e7, Ae e8⟩, I, J⟩ (tZ [] I (uH 1 (([wr (0 - b7.2)] : Li).map rI) (tZ [7] I (uO 7 I fa fun fd => Af 2 I (tZ [] I (uH 1 (([(Z : Int)] : Li).map rI) (tZ [8] I (uO 8 I fc fun fe => Af 2 I (tY (lg ⟨(af, e9, fb), aj, fd, fe, h, I2⟩ N9)))))))))))
 intro e6 h
 exact uA (lg ⟨(af, D.2.1, D.2.2), aj, R, S, h, I2⟩ N9)
 rintro s ob ⟨ao, be, bf, bg, h, rfl, rfl⟩
 unfold Fx.J23 at h
 refine tX (Am 2 [.k 0 (Z + 1 : Nat)] I ⟨A6 c7 em, J⟩ ?_)
 cases io h
 exact tY (lg ⟨be, bf, bg, I2⟩ N9)
 rintro D s ob ⟨ae, R, S, rfl, rfl⟩ he
 subst he
 have h := eo
 have ff := Cs b.Ports.length
 exact Ai I (Ab fun ih ii => Br I ff (uG (lg ⟨(D.1, D.2.1, D.2.2), ae, R, S, h, I2⟩ N9)))
 rintro s ob ⟨B, bb, bc, F, h, rfl, rfl⟩
 unfold Fx.J12 at h
 refine Aj (fun s ob => ∃ (t : (List Piece) × Li × Li) (bj : Value) (ak : Value) (H : Value), Fx.J13 e a B t = some ba ∧ s = [(21, .v bj), (22, .v ak), (24, .v H)] ∧ ob = [O0 n [Ad b], O1 p [Aq e], .us g 34 1 (a.1.map (rL 2 Aa)), .us i 34 1 (a.2.1.map (rL 2 Aa)), .us j 34 1 (a.2.2.1.map (rL 2 Aa)), U0 A w.1, U1 bj t.1, U0 ak t.2.1, U0 F B.2.2, U0 H t.2.2]) [(3, _), (4, _), (6, _), (12, _), (13, _), (14, _), (15, _), (23, _), (80, _), (81, _), (82, _)] oL ?_ ?_
 refine Bg [.o 1 0, .l 2 (b.Segments.length : Int)] I ⟨A4, I, J⟩ (uB (Cg 146 I fun fg => uF (Az 3 1) ?_))
 obtain ⟨ij, fh, fi⟩ := Ac h
 refine Cl fh [(3, _), (4, _), (6, _), (12, _), (13, _), (14, _), (15, _), (20, _), (23, _), (80, _), (81, _), (82, _), (146, _), (147, _)] rE (fun (al : Nat) (G : (List Piece) × Li × Li) s ob => ∃ (ag : Value) (ab : Value) (ac : Value), s = [(148, .V (al : Int)), (21, .v ag), (22, .v ab), (24, .v ac)] ∧ ob = [O0 n [Ad b], O1 p [Aq e], .us g 34 1 (a.1.map (rL 2 Aa)), .us i 34 1 (a.2.1.map (rL 2 Aa)), .us j 34 1 (a.2.2.1.map (rL 2 Aa)), U0 A w.1, U1 ag G.1, U0 ab G.2.1, U0 F B.2.2, U0 ac G.2.2]) ⟨bb, bc, nS, I2⟩ ⟨I, I, I, I, J⟩ (pk bY) ?_ ?_
 rintro al bk G c9 s ob fj da ⟨ag, ab, ac, rfl, rfl⟩ h
 unfold Fx.B19 at h
 have fk := Cr da
 refine Ai I (Ab fun ik fl => Bq I fk (uA ?_))
 subst fl
 refine Aj (fun s ob => ∃ (au : (List Piece) × Li × Li) (bl : Value) (bm : Value) (bn : Value), Fx.J20 au = some c9 ∧ s = [(21, .v bl), (22, .v bm), (24, .v bn)] ∧ ob = [O0 n [Ad b], O1 p [Aq e], .us g 34 1 (a.1.map (rL 2 Aa)), .us i 34 1 (a.2.1.map (rL 2 Aa)), .us j 34 1 (a.2.2.1.map (rL 2 Aa)), U0 A w.1, U1 bl au.1, U0 bm au.2.1, U0 F B.2.2, U0 bn au.2.2]) [(3, _), (4, _), (6, _), (12, _), (13, _), (14, _), (15, _), (20, _), (23, _), (80, _), (81, _), (82, _), (146, _), (147, _), (148, _)] rD ?_ ?_
 refine uB (Ab fun il fm => tX (Am 3 [.x 1 al (Ar bk)] I ⟨⟨I, Ae fj⟩, J⟩ (tZ [] I (Bs W2 7 fun im => Af 1 I (tZ [10] I (Bj 10 0 0 [Ar bk] I (tY ?_)))))))
 subst fm
 refine Ab fun io fn => uD ?_
 obtain ⟨P, ⟨b8, b9⟩, h⟩ := A5 h
 refine Gd [.o 1 1, .x 3 P.1 (rI P.2)] I ⟨⟨b8, Ae b9⟩, I, J⟩ (Ao h I ?_ ?_)
 intro fo h
 exact uG (lg ⟨(G.1, G.2.1, G.2.2), ag, ab, ac, h, I2⟩ bY)
 intro fo h
 refine uA ?_
 subst fn
 refine Ab fun ip fp => Bk (pd 12 0 [6]) [10, 1] [_, _] I (Bv 6 [.o 0 0, .o 2 1, .x 4 P.1 (rI P.2)] I ⟨⟨b8, Ae b9⟩, I, I, J⟩ (uU I (Ph bk P.2 _ I) (A3 5 I (Ap (tY ?_)))))
 subst fp
 refine Aj (fun s ob => ∃ (av : List Piece) (aw : Value), Fx.J21 Q al bk G P av = some c9 ∧ s = [(21, .v aw)] ∧ ob = [O0 n [Ad b], O1 p [Aq e], .us g 34 1 (a.1.map (rL 2 Aa)), .us i 34 1 (a.2.1.map (rL 2 Aa)), .us j 34 1 (a.2.2.1.map (rL 2 Aa)), U0 A w.1, U1 aw av, U0 ab G.2.1, U0 F B.2.2, U0 ac G.2.2]) [(3, _), (4, _), (6, _), (12, _), (13, _), (14, _), (15, _), (20, _), (22, _), (23, _), (24, _), (27, _), (29, _), (80, _), (81, _), (82, _), (146, _), (147, _), (148, _)] ⟨I, I, I, I, I, I, I, I, I, I, I, I, I, I, I, I, I, I, I, J⟩ ?_ ?_
 refine Ai I (Ao h I ?_ ?_)
 intro fq h
 obtain ⟨ca, ⟨fr, db⟩, h⟩ := A5 h
 obtain ⟨fs, ft, h⟩ := Ac h
 exact tX (Af 3 I (uI (Bc 4 (m := ca.1) I I I I I I I fr (Ae db)) I (uI (Ay 4 ca.1 0 I I I (Ae db) I (y := Q2 ca.2) I) I (tZ [6] I (uO 6 I ft fun fu => Af 1 I (tY (lg ⟨fs, fu, h, I2⟩ bY)))))))
 intro fq h
 exact uA (lg ⟨G.1, ag, h, I2⟩ bY)
 rintro s ob ⟨av, aw, h, rfl, rfl⟩
 refine Ai I (Ao h I ?_ ?_)
 intro fv h
 obtain ⟨fw, fx, h⟩ := Ac h
 obtain ⟨fy, fz, h⟩ := Ac h
 exact tX (Am 6 [.o 2 1, .x 4 P.1 (rI P.2)] I ⟨⟨b8, Ae b9⟩, I, J⟩ (uJ (Pb P.2 _ I) (tZ [] I (uH 1 (([(Gp P.2)] : Li).map rI) (tZ [7] I (uO 7 I fx fun f0 => Af 2 I (tZ [] I (uH 1 (([(al : Int)] : Li).map rI) (tZ [9] I (uO 9 I fz fun f1 => Af 2 I (tY (lg ⟨(av, fw, fy), aw, f0, f1, h, I2⟩ bY))))))))))))
 intro fv h
 exact uA (lg ⟨(av, G.2.1, G.2.2), aw, ab, ac, h, I2⟩ bY)
 rintro s ob ⟨au, bl, bm, bn, h, rfl, rfl⟩
 unfold Fx.J20 at h
 refine tX (Am 2 [.k 0 (al + 1 : Nat)] I ⟨A6 da fg, J⟩ ?_)
 cases io h
 exact tY (lg ⟨bl, bm, bn, I2⟩ bY)
 rintro G s ob ⟨ag, ab, ac, rfl, rfl⟩ he
 subst he
 have h := fi
 have f2 := Cs b.Segments.length
 exact Ai I (Ab fun iq ir => Br I f2 (uG (lg ⟨(G.1, G.2.1, G.2.2), ag, ab, ac, h, I2⟩ bY)))
 rintro s ob ⟨t, bj, ak, H, h, rfl, rfl⟩
 refine Ab fun it f3 => ?_
 obtain ⟨U, f4, h⟩ := Ac h
 refine tX (Af 1 I (uP (Ax [6] (K := [U1 bj t.1]) I [(21, Q2 t.1), (195, Q2 t.1)] ⟨⟨_, I, .us 0 I⟩, ⟨_, I, .us 0 I⟩, J⟩ (ob' := [O0 n [Ad b], O1 p [Aq e], .us g 34 1 (a.1.map (rL 2 Aa)), .us i 34 1 (a.2.1.map (rL 2 Aa)), .us j 34 1 (a.2.2.1.map (rL 2 Aa)), U0 A w.1, U0 ak t.2.1, U0 F B.2.2, U0 H t.2.2]) (.rest _)) (tZ [] I (Bh I I I (Ko _ _ f4) dS ?_))))
 rintro _ _ ⟨dc, rfl, rfl⟩
 refine Af 1 I (tY ?_)
 subst f3
 refine Aj (fun s ob => s = [(15, .v (.bool (a.2.2.2 || decide ((U.length : Int) > 200))))] ∧ ob = [O0 n [Ad b], O1 p [Aq e], .us g 34 1 (a.1.map (rL 2 Aa)), .us i 34 1 (a.2.1.map (rL 2 Aa)), .us j 34 1 (a.2.2.1.map (rL 2 Aa)), U0 A w.1, U0 ak t.2.1, U0 F B.2.2, U0 H t.2.2, U1 dc U]) [(3, _), (4, _), (6, _), (12, _), (13, _), (14, _), (21, _), (22, _), (23, _), (24, _), (80, _), (81, _), (82, _)] rF ?_ ?_
 refine tX (Af 2 I ?_)
 rcases bt (a.2.2.2) with ax | ax
 refine Ah 198 I ax (Af 5 I (tY ?_))
 exact lf I2 ⟨(Dn (by simp only [ax, bz])), I, I, I, I, I, I, I, I, I, I, I, I, I, J⟩ bY I
 refine Ah 198 I ax (Af 1 I (Bx I I I (uI (Bp 9 I I I I) I (Af 3 I (tY ?_)))))
 exact lf I2 ⟨(Dn (by simp only [ax, bz])), I, I, I, I, I, I, I, I, I, I, I, I, I, J⟩ bY I
 rintro s ob ⟨rfl, rfl⟩
 refine Ab fun iu f5 => uD (tX (Af 1 I (uI (Bp 9 I I I I) I (Af 1 I (tY (Ao h I ?_ ?_))))))
 intro f6 h
 exact uG (lg ⟨(a.1, a.2.1, a.2.2.1, (a.2.2.2 || decide ((U.length : Int) > 200))), h, I2⟩ N6)
 intro f6 h
 refine uA ?_
 subst f5
 refine Ab fun iv f7 => ?_
 obtain ⟨f8, f9, h⟩ := Ac h
 refine tX (Af 2 I (uP (Ax [6, 9] (K := [U0 ak t.2.1, U1 dc U]) I [(21, Q2 U), (22, Q0 t.2.1), (203, Q2 U), (206, Q2 U), (207, Q0 t.2.1)] ⟨⟨_, I, .us 1 I⟩, ⟨_, I, .us 0 I⟩, ⟨_, I, .us 1 I⟩, ⟨_, I, .us 1 I⟩, ⟨_, I, .us 0 I⟩, J⟩ (ob' := [O0 n [Ad b], O1 p [Aq e], .us g 34 1 (a.1.map (rL 2 Aa)), .us i 34 1 (a.2.1.map (rL 2 Aa)), .us j 34 1 (a.2.2.1.map (rL 2 Aa)), U0 A w.1, U0 F B.2.2, U0 H t.2.2]) (.rest _)) (tZ [] I (Bh I I I (iB _ _ _ f9) dS ?_))))
 rintro _ _ ⟨rfl, rfl⟩
 refine Af 1 I (tY ?_)
 subst f7
 refine Aj (fun s ob => ∃ (O : List (List Piece)), Fx.J14 e a B t U f8 O = some ba ∧ s = [] ∧ ob = [O0 n [Ad b], O1 p [Aq e], .us g 34 1 (a.1.map (rL 2 Aa)), .us i 34 1 (O.map (rL 2 Aa)), .us j 34 1 (a.2.2.1.map (rL 2 Aa)), U0 A w.1, U0 F B.2.2, U0 H t.2.2]) [(3, _), (4, _), (6, _), (12, _), (13, _), (14, _), (15, _), (23, _), (24, _), (31, _), (80, _), (81, _), (82, _)] rF ?_ ?_
 refine Ab fun iw ga => tX (Af 1 I (uI (Bp 6 I I I I) I (Af 1 I (tY ?_))))
 subst ga
 refine uB (Pl 6 I fun gb => ?_)
 obtain ⟨ix, gc, gd⟩ := Ac h
 refine Eo gc [(3, _), (4, _), (6, _), (12, _), (13, _), (14, _), (15, _), (23, _), (24, _), (31, _), (80, _), (81, _), (82, _), (209, _), (210, _)] rD (fun (cb : Nat) (bo : List (List Piece)) s ob => s = [(211, .V (cb : Int))] ∧ ob = [O0 n [Ad b], O1 p [Aq e], .us g 34 1 (a.1.map (rL 2 Aa)), .us i 34 1 (bo.map (rL 2 Aa)), .us j 34 1 (a.2.2.1.map (rL 2 Aa)), U0 A w.1, U0 F B.2.2, U0 H t.2.2]) ⟨I, I⟩ ⟨I, J⟩ (pk N8) ?_ ?_
 rintro cb bo iy s ob dd ⟨rfl, rfl⟩ h
 have ge := Cr dd
 refine Ai I (Ab fun iz gf => Bq I ge (uA ?_))
 subst gf
 refine uD (uB (uD ?_))
 obtain ⟨cc, ⟨gg, de⟩, h⟩ := A5 h
 refine tX (Af 1 I (uI (Bc 6 (m := cc.1) I I I I I I I gg (Ae de)) I (uI (Ay 6 cc.1 0 I I I (Ae de) I (y := .V cc.2) I) I (Af 2 I (tY ?_)))))
 obtain ⟨cd, ⟨gh, gi⟩, h⟩ := A5 h
 obtain ⟨df, ⟨gj, dg⟩, h⟩ := A5 h
 refine tX (Am 6 [.x 4 cd.1 ((rL 2 Aa) cd.2)] I ⟨⟨gh, Ae gi⟩, J⟩ (uI (Bc 3 (m := df.1) I I I I I I I gj (Ae dg)) I (tZ [3] I (Bd 3 df.1 0 I I I (Ae dg) I I I I (Ba I) I (Ce (x := cd.2) I) (tY (tX (Am 2 [.k 0 (cb + 1 : Nat)] I ⟨A6 dd gb, J⟩ ?_)))))))
 cases io h
 exact tY (lg I2 N8)
 rintro bo s ob ⟨rfl, rfl⟩ he
 subst he
 have h := gd
 have gk := Cs B.2.2.length
 exact Ai I (Ab fun i0 i1 => Br I gk (uG (lg ⟨bo, h, I2⟩ N8)))
 rintro s ob ⟨O, h, rfl, rfl⟩
 refine Ab fun i2 gl => tX (Af 1 I (uI (Bp 7 I I I I) I (Af 1 I (tY ?_))))
 subst gl
 refine uB (Pl 7 I fun gm => ?_)
 obtain ⟨i3, gn, go⟩ := Ac h
 refine Eo gn [(3, _), (4, _), (6, _), (12, _), (13, _), (14, _), (15, _), (23, _), (31, _), (80, _), (81, _), (82, _), (224, _), (225, _)] rE (fun (ce : Nat) (E : (List (List Piece)) × (List (List Piece))) s ob => s = [(226, .V (ce : Int))] ∧ ob = [O0 n [Ad b], O1 p [Aq e], .us g 34 1 (E.1.map (rL 2 Aa)), .us i 34 1 (O.map (rL 2 Aa)), .us j 34 1 (E.2.map (rL 2 Aa)), U0 A w.1, U0 F B.2.2, U0 H t.2.2]) ⟨I, I⟩ ⟨I, J⟩ (pk N8) ?_ ?_
 rintro ce E dh s ob di ⟨rfl, rfl⟩ h
 have gq := Cr di
 refine Ai I (Ab fun i4 gr => Bq I gq (uA ?_))
 subst gr
 refine uD (uB (Ab fun i5 gs => ?_))
 obtain ⟨ay, ⟨gu, dj⟩, h⟩ := A5 h
 refine tX (Af 1 I (uI (Bc 7 (m := ay.1) I I I I I I I gu (Ae dj)) I (uI (Ay 7 ay.1 0 I I I (Ae dj) I (y := .V ay.2) I) I (Af 2 I (tY ?_)))))
 subst gs
 refine Ab fun i6 gv => ?_
 obtain ⟨cf, ⟨gw, gx⟩, h⟩ := A5 h
 obtain ⟨cg, ⟨gy, gz⟩, h⟩ := A5 h
 refine Cu 6 I fun g0 => Bk (pd 15 0 []) [1] [_] I (A3 2 I (uN I (Ct I I I g0) I (Bv 12 [.x 2 cf.1 ((rL 2 Aa) cf.2), .o 5 0, .x 7 cg.1 (rI cg.2)] I ⟨⟨gy, Ae gz⟩, I, ⟨gw, Ae gx⟩, J⟩ (Ap (tY ?_)))))
 subst gv
 refine Aj (fun s ob => ∃ (ci : List Piece), Fx.J16 E ay cg ci = some dh ∧ s = [(36, Q2 ci)] ∧ ob = [O0 n [Ad b], O1 p [Aq e], .us g 34 1 (E.1.map (rL 2 Aa)), .us i 34 1 (O.map (rL 2 Aa)), .us j 34 1 (E.2.map (rL 2 Aa)), U0 A w.1, U0 F B.2.2, U0 H t.2.2]) [(3, _), (4, _), (6, _), (12, _), (13, _), (14, _), (15, _), (23, _), (31, _), (35, _), (37, _), (80, _), (81, _), (82, _), (224, _), (225, _), (226, _)] ⟨I, I, I, I, I, I, I, I, I, I, I, I, I, I, I, I, I, J⟩ ?_ ?_
 refine Ai I (Ao h I ?_ ?_)
 intro g1 h
 obtain ⟨bp, g2, h⟩ := Ac h
 refine tX (Af 1 I (tZ [] I (Bh I I I (Us _ _ g2) dS ?_)))
 rintro _ _ ⟨g3, rfl, rfl⟩
 exact Af 1 I (uP (Ax [8] (K := [U1 g3 bp]) I [(36, Q2 bp), (247, Q2 bp)] ⟨⟨_, I, .us 0 I⟩, ⟨_, I, .us 0 I⟩, J⟩ (ob' := [O0 n [Ad b], O1 p [Aq e], .us g 34 1 (E.1.map (rL 2 Aa)), .us i 34 1 (O.map (rL 2 Aa)), .us j 34 1 (E.2.map (rL 2 Aa)), U0 A w.1, U0 F B.2.2, U0 H t.2.2]) (.rest _)) (tY (lg ⟨bp, h, I2⟩ N8)))
 intro g1 h
 exact uA (lg ⟨cf.2, h, I2⟩ N8)
 rintro s ob ⟨ci, h, rfl, rfl⟩
 refine Ai I (Ab fun i7 g4 => ?_)
 obtain ⟨W, ⟨dk, bq⟩, h⟩ := A5 h
 obtain ⟨M, g5, h⟩ := Ac h
 refine tX (Af 4 I (uI (Bc 2 (m := W.1) I I I I I I I dk (Ae bq)) I (uI (Ay 2 W.1 0 I I I (Ae bq) I (y := Q2 W.2) I) I (Af 2 I (tZ [] I (Bh I I I (iC _ _ _ _ g5) dS ?_))))))
 rintro _ _ ⟨g6, cj, rfl, rfl⟩
 refine Af 3 I (uI (Bc 2 (m := W.1) I I I I I I I dk (Ae bq)) I (uP (Ax [8] (K := [U1 g6 M.1]) I [(258, Q2 M.1)] ⟨⟨_, I, .us 0 I⟩, J⟩ (ob' := [O0 n [Ad b], O1 p [Aq e], .us g 34 1 (E.1.map (rL 2 Aa)), .us i 34 1 (O.map (rL 2 Aa)), .us j 34 1 (E.2.map (rL 2 Aa)), U0 A w.1, U0 F B.2.2, U0 H t.2.2, U1 cj M.2]) (.rest _)) (tZ [2] I (Bd 2 W.1 0 I I I (Ae bq) I I I I (Ba I) I (Ce (x := M.1) I) (Af 1 I (tY ?_))))))
 subst g4
 refine Aj (fun s ob => ∃ (ah : List Piece) (br : Value), Fx.J17 E ay W M ah = some dh ∧ s = [(38, .v br)] ∧ ob = [O0 n [Ad b], O1 p [Aq e], .us g 34 1 ((E.1.set W.1 M.1).map (rL 2 Aa)), .us i 34 1 (O.map (rL 2 Aa)), .us j 34 1 (E.2.map (rL 2 Aa)), U0 A w.1, U0 F B.2.2, U0 H t.2.2, U1 br ah]) [(3, _), (4, _), (6, _), (12, _), (13, _), (14, _), (15, _), (23, _), (31, _), (35, _), (80, _), (81, _), (82, _), (224, _), (225, _), (226, _)] ⟨I, I, I, I, I, I, I, I, I, I, I, I, I, I, I, I, J⟩ ?_ ?_
 refine Ai I (Ao h I ?_ ?_)
 intro g7 h
 obtain ⟨g8, g9, h⟩ := Ac h
 refine tX (Af 1 I (uP (Ax [8] (K := [U1 cj M.2]) I [(38, Q2 M.2), (259, Q2 M.2), (263, Q2 M.2)] ⟨⟨_, I, .us 0 I⟩, ⟨_, I, .us 0 I⟩, ⟨_, I, .us 0 I⟩, J⟩ (ob' := [O0 n [Ad b], O1 p [Aq e], .us g 34 1 ((E.1.set W.1 M.1).map (rL 2 Aa)), .us i 34 1 (O.map (rL 2 Aa)), .us j 34 1 (E.2.map (rL 2 Aa)), U0 A w.1, U0 F B.2.2, U0 H t.2.2]) (.rest _)) (tZ [] I (Bh I I I (Us _ _ g9) dS ?_))))
 rintro _ _ ⟨ha, rfl, rfl⟩
 exact Af 1 I (tY (lg ⟨g8, ha, h, I2⟩ N9))
 intro g7 h
 exact uA (lg ⟨M.2, cj, h, I2⟩ N9)
 rintro s ob ⟨ah, br, h, rfl, rfl⟩
 obtain ⟨dl, ⟨hb, dm⟩, h⟩ := A5 h
 refine tX (Af 3 I (uI (Bc 4 (m := dl.1) I I I I I I I hb (Ae dm)) I (uP (Ax [8] (K := [U1 br ah]) I [(38, Q2 ah), (267, Q2 ah)] ⟨⟨_, I, .us 0 I⟩, ⟨_, I, .us 0 I⟩, J⟩ (ob' := [O0 n [Ad b], O1 p [Aq e], .us g 34 1 ((E.1.set W.1 M.1).map (rL 2 Aa)), .us i 34 1 (O.map (rL 2 Aa)), .us j 34 1 (E.2.map (rL 2 Aa)), U0 A w.1, U0 F B.2.2, U0 H t.2.2]) (.rest _)) (tZ [4] I (Bd 4 dl.1 0 I I I (Ae dm) I I I I (Ba I) I (Ce (x := ah) I) (tY (tX (Am 2 [.k 0 (ce + 1 : Nat)] I ⟨A6 di gm, J⟩ ?_))))))))
 cases io h
 exact tY (lg I2 N8)
 rintro E s ob ⟨rfl, rfl⟩ he
 subst he
 have h := go
 have hc := Cs t.2.2.length
 exact Ai I (Ab fun i8 i9 => Br I hc (uG (lg ⟨(E.1, O, E.2, (a.2.2.2 || decide ((U.length : Int) > 200))), h, I2⟩ N6)))
 rintro s ob ⟨ai, h, rfl, rfl⟩
 unfold Fx.J11 at h
 refine tX (Am 2 [.k 0 (b0 + 1 : Nat)] I ⟨A6 c5 ef, J⟩ ?_)
 cases io h
 exact tY (lg I2 N6)
 rintro a s ob ⟨rfl, rfl⟩ he
 subst he
 have h := eh
 have hd := Cs w.1.length
 exact Ai I (Ab fun ja jb => Br I hd (uG (lg ⟨(a.1, a.2.1, a.2.2.1, a.2.2.2), h, I2⟩ [2, 3, 4])))
 rintro s ob ⟨u, h, rfl, rfl⟩
 unfold Fx.J3 at h
 refine Aj (fun s ob => ∃ (ck : Bool), Fx.J4 u ck = some r ∧ s = [(15, .v (.bool ck))] ∧ ob = [.us g 34 1 (u.1.map (rL 2 Aa)), .us i 34 1 (u.2.1.map (rL 2 Aa))]) (K2 12 13) J2 ?_ ?_
 refine Ab fun jc hf => tX (Af 1 I (uI (Bp 0 I I I I) I (Af 1 I (tY ?_))))
 subst hf
 refine uB (Pl 0 I fun hg => ?_)
 obtain ⟨jd, hh, hi⟩ := Ac h
 refine Eo hh (K4 12 13 14 272) J4 (fun (cl : Nat) (az : Bool) s ob => s = [(273, .V (cl : Int)), (15, .v (.bool az))] ∧ ob = [.us g 34 1 (u.1.map (rL 2 Aa)), .us i 34 1 (u.2.1.map (rL 2 Aa)), .us j 34 1 (u.2.2.1.map (rL 2 Aa))]) ⟨I, I⟩ ⟨I, I, J⟩ (pk N3) ?_ ?_
 rintro cl az hj s ob dn ⟨rfl, rfl⟩ h
 unfold Fx.B8 at h
 have hk := Cr dn
 refine Ai I (Ab fun je hl => Bq I hk (uA ?_))
 subst hl
 refine Aj (fun s ob => ∃ (cm : Bool), Fx.J9 cm = some hj ∧ s = [(15, .v (.bool cm))] ∧ ob = [.us g 34 1 (u.1.map (rL 2 Aa)), .us i 34 1 (u.2.1.map (rL 2 Aa)), .us j 34 1 (u.2.2.1.map (rL 2 Aa))]) (K5 12 13 14 272 273) J5 ?_ ?_
 refine uB (Ai I (tX (Af 2 I ?_)))
 rcases bt (az) with a0 | a0
 have h := Cc a0 h
 exact Ah 277 I a0 (Af 16 I (tY (lg ⟨true, h, I2⟩ N3)))
 have h := Cd a0 h
 obtain ⟨X, ⟨dp, bs⟩, h⟩ := A5 h
 refine Ah 277 I a0 ?_
 rcases bt (decide ((X.2.length : Int) > 200)) with a1 | a1
 have h := Cc a1 h
 exact Af 2 I (Bx I I I (uI (Bc 0 (m := X.1) I I I I I I I dp (Ae bs)) I (Bx I I I (uI (Ay 0 X.1 0 I I I (Ae bs) I (y := Q2 X.2) I) I (Am 4 [.l 0 (X.2.length : Int)] I ⟨A4, J⟩ (Ah 285 I a1 (Af 8 I (tY (lg ⟨true, h, I2⟩ N3)))))))))
 have h := Cd a1 h
 obtain ⟨a2, ⟨hm, dq⟩, h⟩ := A5 h
 refine Af 2 I (Bx I I I (uI (Bc 0 (m := X.1) I I I I I I I dp (Ae bs)) I (Bx I I I (uI (Ay 0 X.1 0 I I I (Ae bs) I (y := Q2 X.2) I) I (Am 4 [.l 0 (X.2.length : Int)] I ⟨A4, J⟩ (Ah 285 I a1 (Af 2 I (Bx I I I (uI (Bc 2 (m := a2.1) I I I I I I I hm (Ae dq)) I (Bx I I I (uI (Ay 2 a2.1 0 I I I (Ae dq) I (y := Q2 a2.2) I) I (Am 4 [.l 0 (a2.2.length : Int)] I ⟨A4, J⟩ ?_))))))))))))
 exact tY (lg ⟨decide ((a2.2.length : Int) > 200), h, I2⟩ N3)
 rintro s ob ⟨cm, h, rfl, rfl⟩
 unfold Fx.J9 at h
 refine tX (Am 2 [.k 0 (cl + 1 : Nat)] I ⟨A6 dn hg, J⟩ ?_)
 cases io h
 exact tY (lg I2 N3)
 rintro az s ob ⟨rfl, rfl⟩ he
 subst he
 have h := hi
 have hn := Cs u.1.length
 exact Ai I (Ab fun jf jg => Br I hn (uG (lg ⟨az, h, I2⟩ [0, 1])))
 rintro s ob ⟨ck, h, rfl, rfl⟩
 unfold Fx.J4 at h
 refine Aj (fun s ob => ∃ (cn : Bool), Fx.J5 u cn = some r ∧ s = [(15, .v (.bool cn))] ∧ ob = [.us g 34 1 (u.1.map (rL 2 Aa)), .us i 34 1 (u.2.1.map (rL 2 Aa))]) (K2 12 13) J2 ?_ ?_
 refine Ab fun jh ho => tX (Af 1 I (uI (Bp 1 I I I I) I (Af 1 I (tY ?_))))
 subst ho
 refine uB (Pl 1 I fun hp => ?_)
 obtain ⟨ji, hq, hr⟩ := Ac h
 refine Eo hq (K3 12 13 295) J3 (fun (co : Nat) (a3 : Bool) s ob => s = [(296, .V (co : Int)), (15, .v (.bool a3))] ∧ ob = [.us g 34 1 (u.1.map (rL 2 Aa)), .us i 34 1 (u.2.1.map (rL 2 Aa))]) ⟨I, I⟩ ⟨I, I, J⟩ (pk [0, 1]) ?_ ?_
 rintro co a3 hs s ob dr ⟨rfl, rfl⟩ h
 unfold Fx.B6 at h
 have ht := Cr dr
 refine Ai I (Ab fun jj hu => Bq I ht (uA ?_))
 subst hu
 refine Aj (fun s ob => ∃ (cp : Bool), Fx.J7 cp = some hs ∧ s = [(15, .v (.bool cp))] ∧ ob = [.us g 34 1 (u.1.map (rL 2 Aa)), .us i 34 1 (u.2.1.map (rL 2 Aa))]) (K4 12 13 295 296) J4 ?_ ?_
 refine uB (Ai I (tX (Af 2 I ?_)))
 rcases bt (a3) with a4 | a4
 have h := Cc a4 h
 exact Ah 300 I a4 (Af 8 I (tY (lg ⟨true, h, I2⟩ [0, 1])))
 have h := Cd a4 h
 obtain ⟨a5, ⟨hv, ds⟩, h⟩ := A5 h
 exact Ah 300 I a4 (Af 2 I (Bx I I I (uI (Bc 1 (m := a5.1) I I I I I I I hv (Ae ds)) I (Bx I I I (uI (Ay 1 a5.1 0 I I I (Ae ds) I (y := Q2 a5.2) I) I (Am 4 [.l 0 (a5.2.length : Int)] I ⟨A4, J⟩ (tY (lg ⟨decide ((a5.2.length : Int) > 200), h, I2⟩ [0, 1]))))))))
 rintro s ob ⟨cp, h, rfl, rfl⟩
 unfold Fx.J7 at h
 refine tX (Am 2 [.k 0 (co + 1 : Nat)] I ⟨A6 dr hp, J⟩ ?_)
 cases io h
 exact tY (lg I2 [0, 1])
 rintro a3 s ob ⟨rfl, rfl⟩ he
 subst he
 have h := hr
 have hw := Cs u.2.1.length
 exact Ai I (Ab fun jk jl => Br I hw (uG (lg ⟨a3, h, I2⟩ [0, 1])))
 rintro s ob ⟨cn, h, rfl, rfl⟩
 refine uD (Ai I (Ao h I ?_ ?_))
 intro hx h
 refine Ai I (uF (Az 34 1) (uF (Az 34 1) (C9 [2, 3] I ?_)))
 cases io h
 exact uE ⟨.inr I, [_, _, _], [.us nS 34 1 ([].map (rL 2 Aa)), .us nS 34 1 ([].map (rL 2 Aa))], J3, Cb I (Cb I (B0)), ⟨nS, nS, I2⟩⟩
 intro hx h
 refine uA (Ai I ?_)
 cases io h
 exact uE ⟨.inr I, [_, _, _], [.us g 34 1 (u.1.map (rL 2 Aa)), .us i 34 1 (u.2.1.map (rL 2 Aa))], J3, Cb I (Cb I (B0)), ⟨g, i, I2⟩⟩
end Go.Proofs.YtaoclefkknloiaaGreat
