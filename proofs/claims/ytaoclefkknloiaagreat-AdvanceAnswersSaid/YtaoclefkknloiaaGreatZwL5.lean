/- Walks that show what functions of the program compute; printed by a program of ours. No condition. -/
import Derived.Test.YtaoclefkknloiaaGreatZwL2
import Derived.Test.YtaoclefkknloiaaGreatZwL4
import Derived.Test.YtaoclefkknloiaaGreatZwD
import Derived.Test.YtaoclefkknloiaaGreatZwL0
set_option maxRecDepth 100000
namespace Go.Proofs.YtaoclefkknloiaaGreat
open Go.Aw
set_option linter.unusedVariables false
set_option linter.unusedSimpArgs false
set_option maxHeartbeats 4000000
abbrev Ta : PL := .act 15 (.still 16 (.act 17 (.act 18 (.still 19 (.drop 20 .nil)))))
abbrev Pz : PL := .act 9 (.act 12 Ta)
abbrev Zs : PL := .still 13 (.act 14 (.act 15 (.still 16 (.drop 17 .nil))))
abbrev fK : PL := .two 9 14 (.two 12 14 (.act 14 Ta) (.act 12 Ta)) Pz
abbrev fJ : PL := .two 9 11 (.act 11 (.act 12 Ta)) Pz
abbrev nD : PL := .act 9 (.still 10 (.act 11 (.act 12 (.still 13 (.drop 14 .nil)))))
abbrev S9 : PL := .act 5 Pz
theorem eL (n : Nw) (aq : List (List Piece)) (E : Plan) (ar : Li) (b : Int) (r : (List (List Piece)) × (List (List Piece)) × Int) (h : Jq n aq E ar b = some r) : ACalls Al 20 [.agg (Ab n), .list 1 (aq.map (rL 2 Aa)), .agg (Aj E), Q0 ar, .V b] [] (fun x new => ∃ (u0 : Value), x = .tup [.v u0, .list 1 (r.2.1.map (rL 2 Aa)), .V r.2.2] ∧ new = [.us u0 34 1 (r.1.map (rL 2 Aa))]) := by
 refine Ag Tryz.func20 I I I fun C hC => ?_
 unfold Jq at h
 refine Ac fun y1 a7 => qD (qF [] I (Cp (Ab n) 6 fun b2 => qF [] I (Cp (Aj E) 3 fun b3 => Af 3 I (qE ?_))))
 subst a7
 refine Ac fun y4 a8 => E9 24 (decide (b < 0) || decide (b > 400)) ?_ ?_
 refine qD (Af 3 I ?_)
 rcases bt (decide (b < 0)) with P | P
 exact Ah 21 I P (Af 3 I (qE (jf (by simp only [P, bz]) I I I2)))
 exact Ah 21 I P (Af 3 I (qE (jf (by simp only [P, bz]) I I I2)))
 refine Av h I ?_ ?_
 intro a9 h
 refine Ai I (qL (Ay 34 1) (qL (As [] (K := []) I [(11, .list 1 ([].map (rL 2 Aa)))] ⟨⟨_, I, .nil _⟩, J⟩ (ob' := [O0 b2 [Ab n], O1 b3 [Aj E], .us nS 34 1 ([].map (rL 2 Aa))]) (.rest _)) (Dd [2] I ?_)))
 cases io h
 exact qK ⟨.inr I, [_, _, _], [.us nS 34 1 ([].map (rL 2 Aa))], J3, Ca I (Cv), ⟨nS, I2⟩⟩
 intro a9 h
 refine qI ?_
 subst a8
 refine Ac fun y9 av => ?_
 obtain ⟨ba, aw, h⟩ := Ad h
 rcases W : ba.1 with _ | a
 have h := nA W h
 refine qD (Ao 4 [.o 0 0, .o 2 1] I J2 (qF [] I (Bg I I I (Pg W (Ko _ _ _ _ _ aw)) dS ?_)))
 rintro _ _ ⟨rfl, rfl⟩
 refine Af 5 I (qE ?_)
 subst av
 refine Ac fun ct bb => Ai I (Av h I ?_ ?_)
 intro bc h
 refine Ai I (qL (Ay 34 1) (qL (As [] (K := []) I [(11, .list 1 ([].map (rL 2 Aa)))] ⟨⟨_, I, .nil _⟩, J⟩ (ob' := [O0 b2 [Ab n], O1 b3 [Aj E], .us nS 34 1 ([].map (rL 2 Aa))]) (.rest _)) (Dd [2] I ?_)))
 cases io h
 exact qK ⟨.inr I, [_, _, _], [.us nS 34 1 ([].map (rL 2 Aa))], J3, Ca I (Cv), ⟨nS, I2⟩⟩
 intro bc h
 refine qI ?_
 subst bb
 refine Ac fun cu bd => ?_
 obtain ⟨ax, ⟨X, be, bf, bg⟩, h⟩ := G0 h
 refine qD (Ao 3 [.o 1 0, .l 2 (n.Ports.length : Int)] I ⟨A6, I, J⟩ (qF [] I (Dg (sz := 1) (es' := List.replicate X [.N]) I I I I I I I I I I be bf I dS fun ay => qS (Gw (f := Aa) 2 X 69 2 bg I) (Af 1 I (qE ?_)))))
 subst bd
 refine Ak (fun s ob => ∃ (az : Unit), Jq.J1 az = some r ∧ s = [] ∧ ob = [.uss ay 34 69 2 (List.replicate X nS) (ax.map fun x => some (x.map Aa))]) (K2 13 15) J2 ?_ ?_
 refine Ai I (qH ?_)
 obtain ⟨cv, bh, h⟩ := Ad h
 have cw : b.toNat ≤ 9223372036854775806 := by have := J0 bh; omega
 obtain ⟨cx, bi, bj⟩ := Ad h
 refine D8 bi (K3 13 15 40) J3 (fun (ae : Nat) (a0 : Unit) s ob => s = [(41, .V (ae : Int))] ∧ ob = [.uss ay 34 69 2 (List.replicate X nS) (ax.map fun x => some (x.map Aa))]) ⟨I, I⟩ ⟨I, J⟩ (pk [2]) ?_ ?_
 rintro ae a0 cy s ob cz ⟨rfl, rfl⟩ h
 unfold Jq.B2 at h
 have bk : decide ((ae : Int) < b) = true := decide_eq_true (by omega)
 refine Ai I (Ac fun c0 bl => Bl I bk (qI ?_))
 subst bl
 refine qJ (qH (Ac fun c1 c2 => qJ ?_))
 cases h
 rintro a0 s ob ⟨rfl, rfl⟩ he
 subst he
 have h := bj
 have bm : decide (((b.toNat : Nat) : Int) < b) = false := decide_eq_false (by omega)
 exact Ai I (Ac fun c3 c4 => Bm I bm (qM (lg ⟨(), h, I2⟩ [0])))
 rintro s ob ⟨az, h, rfl, rfl⟩
 unfold Jq.J1 at h
 refine qJ ?_
 cases h
 have h := mZ W h
 refine qD (Ao 4 [.o 0 0, .o 2 1] I J2 (qF [] I (Bg I I I (Pf W (Ko _ _ _ _ _ aw)) dS ?_)))
 rintro _ _ ⟨i, af, ag, ah, rfl, rfl⟩
 refine Af 5 I (qE ?_)
 subst av
 refine Ac fun c5 bn => Ai I (Av h I ?_ ?_)
 intro bo h
 refine Ai I (qL (Ay 34 1) (qL (As [] (K := []) I [(11, .list 1 ([].map (rL 2 Aa)))] ⟨⟨_, I, .nil _⟩, J⟩ (ob' := [O0 b2 [Ab n], O1 b3 [Aj E], O3 i [[Q1 a.n_.Nodes, Q4 a.n_.Segments, Q5 a.n_.Ports, Q6 a.n_.Stations, .V a.n_.Vapour, .V a.n_.Settle, Q0 a.p.Rates, Q0 a.p.Ports, Q2 a.p.Pumps, Q0 a.feeds, Q0 a.order, .v af, .v ag, .v ah]], .us af 34 1 (a.fills.map (rL 2 Aa)), .us ag 34 1 (a.given.map (rL 2 Aa)), .us ah 34 1 (a.out_.map (rL 2 Aa)), .us nS 34 1 ([].map (rL 2 Aa))]) (.rest _)) (Dd [6] I ?_)))
 cases io h
 rotate_left
 intro bo h
 refine qI ?_
 subst bn
 refine Ac fun c6 bp => ?_
 obtain ⟨c7, ⟨ai, bq, br, bs⟩, h⟩ := G0 h
 refine qD (Ao 3 [.o 1 0, .l 2 (n.Ports.length : Int)] I ⟨A6, I, J⟩ (qF [] I (Dg (sz := 1) (es' := List.replicate ai [.N]) I I I I I I I I I I bq br I dS fun t => qS (Gw (f := Aa) 6 ai 69 2 bs I) (Af 1 I (qE ?_)))))
 subst bp
 refine Ak (fun s ob => ∃ (e : (List (List Piece)) × (List (List Piece)) × (List (List Piece)) × (List (List Piece))) (u : Value) (Q : Value) (R : Value) (aj : List Value), Jq.J3 e = some r ∧ s = [] ∧ ob = [O3 i [[Q1 a.n_.Nodes, Q4 a.n_.Segments, Q5 a.n_.Ports, Q6 a.n_.Stations, .V a.n_.Vapour, .V a.n_.Settle, Q0 a.p.Rates, Q0 a.p.Ports, Q2 a.p.Pumps, Q0 a.feeds, Q0 a.order, .v u, .v Q, .v R]], .us u 34 1 (e.1.map (rL 2 Aa)), .us Q 34 1 (e.2.1.map (rL 2 Aa)), .us R 34 1 (e.2.2.1.map (rL 2 Aa)), .uss t 34 69 2 aj (e.2.2.2.map fun x => some (x.map Aa))]) (K2 13 15) J2 ?_ ?_
 refine Ai I (qH ?_)
 obtain ⟨c8, bu, h⟩ := Ad h
 have bv : b.toNat ≤ 9223372036854775806 := by have := J0 bu; omega
 obtain ⟨c9, bw, ak⟩ := Ad h
 refine Ee bw (K3 13 15 40) J3 (fun (Y : Nat) (g : (List (List Piece)) × (List (List Piece)) × (List (List Piece)) × (List (List Piece))) s ob => ∃ (F : Value) (G : Value) (H : Value) (M : List Value), s = [(41, .V (Y : Int))] ∧ ob = [O3 i [[Q1 a.n_.Nodes, Q4 a.n_.Segments, Q5 a.n_.Ports, Q6 a.n_.Stations, .V a.n_.Vapour, .V a.n_.Settle, Q0 a.p.Rates, Q0 a.p.Ports, Q2 a.p.Pumps, Q0 a.feeds, Q0 a.order, .v F, .v G, .v H]], .us F 34 1 (g.1.map (rL 2 Aa)), .us G 34 1 (g.2.1.map (rL 2 Aa)), .us H 34 1 (g.2.2.1.map (rL 2 Aa)), .uss t 34 69 2 M (g.2.2.2.map fun x => some (x.map Aa))]) ⟨af, ag, ah, (List.replicate ai nS), I, I⟩ ⟨I, J⟩ (pk [2, 3, 4, 5, 6]) ?_ ?_
 rintro Y g bx s ob b0 ⟨F, G, H, M, rfl, rfl⟩ h a1
 unfold Jq.B4 at h
 have b1 : decide ((Y : Int) < b) = true := decide_eq_true (by omega)
 refine Ai I (Ac fun da b4 => Bl I b1 (qI ?_))
 subst b4
 refine Ak (fun s ob => ∃ (O : (List (List Piece)) × (List (List Piece)) × (List (List Piece)) × (List (List Piece))) (Z : Value) (aa : Value) (ab : Value) (al : List Value), Jq.J5 O = some bx ∧ s = [] ∧ ob = [O3 i [[Q1 a.n_.Nodes, Q4 a.n_.Segments, Q5 a.n_.Ports, Q6 a.n_.Stations, .V a.n_.Vapour, .V a.n_.Settle, Q0 a.p.Rates, Q0 a.p.Ports, Q2 a.p.Pumps, Q0 a.feeds, Q0 a.order, .v Z, .v aa, .v ab]], .us Z 34 1 (O.1.map (rL 2 Aa)), .us aa 34 1 (O.2.1.map (rL 2 Aa)), .us ab 34 1 (O.2.2.1.map (rL 2 Aa)), .uss t 34 69 2 al (O.2.2.2.map fun x => some (x.map Aa))]) (K4 13 15 40 41) J4 ?_ ?_
 refine qH (Ac fun db b5 => qJ ?_)
 obtain ⟨c, b6, h⟩ := Ad h
 refine qD (Af 1 I (qF N4 I (E8 N4 (Ue i _ F G H _ b6) ?_)))
 rintro _ _ _ - ⟨w, A, B, rfl, rfl, rfl⟩
 refine Af 1 I (qE (Ai I (Av h I ?_ ?_)))
 intro b7 h
 refine Ai I ?_
 obtain rfl := a1 _ (oi h).symm
 have h := ak
 have h := Dj h
 refine qL (Ay 34 1) (qL (As [] (K := []) I [(11, .list 1 ([].map (rL 2 Aa)))] ⟨⟨_, I, .nil _⟩, J⟩ (ob' := [O3 i [[Q1 a.n_.Nodes, Q4 a.n_.Segments, Q5 a.n_.Ports, Q6 a.n_.Stations, .V a.n_.Vapour, .V a.n_.Settle, Q0 a.p.Rates, Q0 a.p.Ports, Q2 a.p.Pumps, Q0 a.feeds, Q0 a.order, .v w, .v A, .v B]], .us w 34 1 (c.2.1.map (rL 2 Aa)), .us A 34 1 (c.2.2.1.map (rL 2 Aa)), .us B 34 1 (c.2.2.2.map (rL 2 Aa)), .uss t 34 69 2 M (g.2.2.2.map fun x => some (x.map Aa)), .us nS 34 1 ([].map (rL 2 Aa))]) (.rest _)) (Dd [5] I ?_))
 cases io h
 rotate_left
 intro b7 h
 refine qI ?_
 subst b5
 refine Ac fun dc b8 => qD (Ao 4 [.o 3 0] I J1 (qN (Bu 3 I I I I) I (Af 1 I (qE ?_))))
 subst b8
 refine qH (Gq 3 I fun b9 => ?_)
 obtain ⟨dd, ca, a2⟩ := Ad h
 refine Ee ca (K6 13 15 40 41 51 52) J6 (fun (am : Nat) (S : List (List Piece)) s ob => ∃ (D : List Value), s = [(53, .V (am : Int))] ∧ ob = [O3 i [[Q1 a.n_.Nodes, Q4 a.n_.Segments, Q5 a.n_.Ports, Q6 a.n_.Stations, .V a.n_.Vapour, .V a.n_.Settle, Q0 a.p.Rates, Q0 a.p.Ports, Q2 a.p.Pumps, Q0 a.feeds, Q0 a.order, .v w, .v A, .v B]], .us w 34 1 (c.2.1.map (rL 2 Aa)), .us A 34 1 (c.2.2.1.map (rL 2 Aa)), .us B 34 1 (c.2.2.2.map (rL 2 Aa)), .uss t 34 69 2 D (S.map fun x => some (x.map Aa))]) ⟨M, I, I⟩ ⟨I, J⟩ (pk N5) ?_ ?_
 rintro am S de s ob a3 ⟨D, rfl, rfl⟩ h cb
 have cc := Cm a3
 refine Ai I (Ac fun df cd => Bl I cc (qI ?_))
 subst cd
 refine qJ (qH (Ac fun dg ce => ?_))
 obtain ⟨an, ⟨cf, a4⟩, h⟩ := Bc h
 refine qD (Af 1 I (qN (Bb 3 (m := an.1) I I I I I I I cf (Ae a4)) I (qN (Ax 3 an.1 0 I I I (Ae a4) I (y := Q3 an.2) I) I (Af 2 I (qE ?_)))))
 subst ce
 refine Ac fun dh ci => ?_
 obtain ⟨j, ⟨a5, U⟩, h⟩ := Bc h
 obtain ⟨cj, ck, h⟩ := Ad h
 refine qD (Af 4 I (qN (Dw 4 (m := j.1) I I I I I I I a5 (Jc U)) I (qN (F4 4 (m := j.1) I I I I (Jc U)) I (qS (Ghost.take 4 j.1 I (Ae U)) (Af 1 I (qF [5] I (E8 [5] (Ot (D.getD j.1 undef) _ _ _ ck) ?_)))))))
 rintro _ _ _ - ⟨a6, rfl, rfl, rfl⟩
 refine qN (Dw 4 (m := j.1) I I I I I I I a5 (Gs U)) I (qF [4, 6] I (Gi 4 6 j.1 I I I I (Jx U) I I I (Fb _ _ _ _) (qE ?_)))
 subst ci
 refine qJ ?_
 obtain ⟨ao, ⟨cl, ap⟩, h⟩ := Bc h
 refine qD (Af 2 I (qN (Dw 4 (m := ao.1) I I I I I I I cl (Jc ap)) I (qN (F4 4 (m := ao.1) I I I I (Jc ap)) I (qN (iX 4 ao.1 I I I I (gQ ap) (List.length_map _)) I (Af 1 I (qE (Av h I ?_ ?_)))))))
 intro cm h
 refine Ai I ?_
 obtain rfl := cb _ (oi h).symm
 have h := a2
 have h := Dj h
 obtain rfl := a1 _ (oi h).symm
 have h := ak
 have h := Dj h
 refine qL (Ay 34 1) (qL (As [] (K := []) I [(11, .list 1 ([].map (rL 2 Aa)))] ⟨⟨_, I, .nil _⟩, J⟩ (ob' := [O3 i [[Q1 a.n_.Nodes, Q4 a.n_.Segments, Q5 a.n_.Ports, Q6 a.n_.Stations, .V a.n_.Vapour, .V a.n_.Settle, Q0 a.p.Rates, Q0 a.p.Ports, Q2 a.p.Pumps, Q0 a.feeds, Q0 a.order, .v w, .v A, .v B]], .us w 34 1 (c.2.1.map (rL 2 Aa)), .us A 34 1 (c.2.2.1.map (rL 2 Aa)), .us B 34 1 (c.2.2.2.map (rL 2 Aa)), .uss t 34 69 2 (D.set j.1 a6) ((S.set j.1 cj).map fun x => some (x.map Aa)), .us nS 69 2 ([].map Aa), .us nS 69 2 ([].map Aa), .us nS 34 1 ([].map (rL 2 Aa))]) (.rest _)) (Dd [7] I ?_))
 cases io h
 any_goals
  exact qK ⟨.inr I, [_, _, _], [.us nS 34 1 ([].map (rL 2 Aa))], J3, Ca I (Cv), ⟨nS, I2⟩⟩
 intro cm h
 refine qI (qD (Ao 2 [.k 0 (am + 1 : Nat)] I ⟨Az a3 b9, J⟩ ?_))
 cases io h
 exact qE ⟨_, _, _, I, ⟨(D.set j.1 a6), I2⟩, J7, pk N5⟩
 rintro S s ob ⟨D, rfl, rfl⟩ he
 subst he
 have h := Dp a2
 have cn := Cn c.2.2.2.length
 exact Ai I (Ac fun di dj => Bm I cn (qM (lg ⟨(c.2.1, c.2.2.1, c.2.2.2, S), w, A, B, D, h, I2⟩ N5)))
 rintro s ob ⟨O, Z, aa, ab, al, h, rfl, rfl⟩
 unfold Jq.J5 at h
 refine qD (Ao 2 [.k 0 (Y + 1 : Nat)] I ⟨Az b0 bv, J⟩ ?_)
 cases io h
 exact qE ⟨_, _, _, I, ⟨Z, aa, ab, al, I2⟩, J4, pk N5⟩
 rintro g s ob ⟨F, G, H, M, rfl, rfl⟩ he
 subst he
 have h := Dp ak
 have co : decide (((b.toNat : Nat) : Int) < b) = false := decide_eq_false (by omega)
 exact Ai I (Ac fun dk dl => Bm I co (qM (lg ⟨(g.1, g.2.1, g.2.2.1, g.2.2.2), F, G, H, M, h, I2⟩ N5)))
 rintro s ob ⟨e, u, Q, R, aj, h, rfl, rfl⟩
 unfold Jq.J3 at h
 refine Bk [.o 3 0] I J1 (qL (As [4] (K := [.uss t 34 69 2 aj (e.2.2.2.map fun x => some (x.map Aa))]) I [(11, .list 1 (e.2.2.2.map (rL 2 Aa)))] ⟨⟨_, I, Oj 0 I⟩, J⟩ (ob' := [O3 i [[Q1 a.n_.Nodes, Q4 a.n_.Segments, Q5 a.n_.Ports, Q6 a.n_.Stations, .V a.n_.Vapour, .V a.n_.Settle, Q0 a.p.Rates, Q0 a.p.Ports, Q2 a.p.Pumps, Q0 a.feeds, Q0 a.order, .v u, .v Q, .v R]], .us u 34 1 (e.1.map (rL 2 Aa)), .us Q 34 1 (e.2.1.map (rL 2 Aa)), .us R 34 1 (e.2.2.1.map (rL 2 Aa))]) (.rest _)) (Dd [1] I ?_))
 cases io h
 exact qK ⟨.inr I, [_, _, _], [.us u 34 1 (e.1.map (rL 2 Aa))], J3, Ca I (Cv), ⟨u, I2⟩⟩
theorem dB (a : Nw) (U : List (List Piece)) (b : Plan) (W : Li) (B : Int) (r : (List (List Piece)) × (List (List Piece)) × Int) (h : Jj a U b W B = some r) : ACalls Al 21 [.agg (Ab a), .list 1 (U.map (rL 2 Aa)), .agg (Aj b), Q0 W, .V B] [] (fun x new => ∃ (X : Value), x = .tup [.list 1 (r.1.map (rL 2 Aa)), .v X, .V r.2.2] ∧ new = [.us X 34 1 (r.2.1.map (rL 2 Aa))]) := by
 refine Ag Tryz.func21 I I I fun C hC => ?_
 unfold Jj at h
 refine Ac fun y1 ae => qD (qF [] I (Cp (Ab a) 6 fun i => qF [] I (Cp (Aj b) 3 fun j => Af 3 I (qE ?_))))
 subst ae
 refine Ac fun y4 af => E9 25 (decide (B < 0) || decide (B > 400)) ?_ ?_
 refine qD (Af 3 I ?_)
 rcases bt (decide (B < 0)) with D | D
 exact Ah 22 I D (Af 3 I (qE (jf (by simp only [D, bz]) I I I2)))
 exact Ah 22 I D (Af 3 I (qE (jf (by simp only [D, bz]) I I I2)))
 refine Av h I ?_ ?_
 intro ag h
 refine Ai I (qL (Ay 34 1) (qL (As [] (K := []) I [(10, .list 1 ([].map (rL 2 Aa)))] ⟨⟨_, I, .nil _⟩, J⟩ (ob' := [O0 i [Ab a], O1 j [Aj b], .us nS 34 1 ([].map (rL 2 Aa))]) (.rest _)) (Dd [2] I ?_)))
 cases io h
 rotate_left
 intro ag h
 refine qI ?_
 subst af
 refine Ac fun y9 ah => qJ ?_
 obtain ⟨bl, ai, h⟩ := Ad h
 refine qD (Ao 4 [.o 0 0, .o 2 1] I J2 (qR (Uf _ _ _ _ _ ai) (Af 1 I (qE (Ai I (Av h I ?_ ?_))))))
 intro aj h
 refine Ai I (qL (Ay 34 1) (qL (As [] (K := []) I [(10, .list 1 ([].map (rL 2 Aa)))] ⟨⟨_, I, .nil _⟩, J⟩ (ob' := [O0 i [Ab a], O1 j [Aj b], .us nS 34 1 ([].map (rL 2 Aa))]) (.rest _)) (Dd [2] I ?_)))
 cases io h
 rotate_left
 intro aj h
 refine qI ?_
 subst ah
 refine Ac fun bm ak => ?_
 obtain ⟨bn, ⟨Y, al, am, an⟩, h⟩ := G0 h
 refine qD (Ao 3 [.o 1 0, .l 2 (a.Ports.length : Int)] I ⟨A6, I, J⟩ (qF [] I (Dg (sz := 1) (es' := List.replicate Y [.N]) I I I I I I I I I I al am I dS fun e => qS (Db (f := Aa) 2 Y 2 an I) (Af 1 I (qE ?_)))))
 subst ak
 refine Ak (fun s ob => ∃ (E : (List (List Piece)) × (List (List Piece))), Jj.J1 E = some r ∧ s = [(1, .list 1 (E.1.map (rL 2 Aa)))] ∧ ob = [.us e 34 1 (E.2.map (rL 2 Aa))]) [(14, _)] J1 ?_ ?_
 refine Ai I (qH ?_)
 obtain ⟨bo, ao, P⟩ := Ad h
 refine Dm ao (K5 3 4 5 7 14) J5 (fun (n : (List (List Piece)) × (List (List Piece)) × Int) s ob => s = [(1, .list 1 (n.1.map (rL 2 Aa))), (15, .V n.2.2)] ∧ ob = [O0 i [Ab a], O1 j [Aj b], .us e 34 1 (n.2.1.map (rL 2 Aa))]) ⟨I, I⟩ ⟨I, I, J⟩ (pk N3) ?_
 rintro n aq s ob ⟨rfl, rfl⟩ h Q
 refine Ac fun bp ar => Ai I (Av h I ?_ ?_)
 intro au h
 refine qI ?_
 subst ar
 refine Ak (fun s ob => ∃ (t : (List (List Piece)) × (List (List Piece))) (G : Value), Jj.J3 n t = some aq ∧ s = [(1, .v G)] ∧ ob = [O0 i [Ab a], O1 j [Aj b], .us e 34 1 (t.2.map (rL 2 Aa)), .us G 34 1 (t.1.map (rL 2 Aa))]) (K6 3 4 5 7 14 15) J6 ?_ ?_
 refine qH (Ac fun bq av => ?_)
 obtain ⟨g, aw, h⟩ := Ad h
 refine qD (Ao 4 [.o 0 0, .o 2 1] I J2 (qF [] I (Bg I I I (T6 _ _ _ _ _ aw) dS ?_)))
 rintro _ _ ⟨w, F, rfl, rfl⟩
 refine Af 7 I (qE ?_)
 subst av
 refine Ac fun br ax => Ai I (Av h I ?_ ?_)
 intro ay h
 refine Ai I ?_
 obtain rfl := Q _ (oi h).symm
 have h := P
 have h := Dp h
 refine qL (Ay 34 1) (qL (As [] (K := []) I [(10, .list 1 ([].map (rL 2 Aa)))] ⟨⟨_, I, .nil _⟩, J⟩ (ob' := [O0 i [Ab a], O1 j [Aj b], .us e 34 1 (n.2.1.map (rL 2 Aa)), .us w 34 1 (g.1.map (rL 2 Aa)), .us F 34 1 (g.2.1.map (rL 2 Aa)), .us nS 34 1 ([].map (rL 2 Aa))]) (.rest _)) (Dd [5] I ?_))
 cases io h
 rotate_left
 intro ay h
 refine qI ?_
 subst ax
 refine Ai I (Ac fun bs az => qD (Af 1 I (qN (Bu 2 I I I I) I (Af 1 I (qE ?_)))))
 subst az
 refine qH (Gq 2 I fun a0 => ?_)
 obtain ⟨bu, a1, Z⟩ := Ad h
 refine Ee a1 (K9 1 3 4 5 7 14 15 17 57) J9 (fun (R : Nat) (u : List (List Piece)) s ob => s = [(58, .V (R : Int))] ∧ ob = [O0 i [Ab a], O1 j [Aj b], .us e 34 1 (u.map (rL 2 Aa)), .us w 34 1 (g.1.map (rL 2 Aa)), .us F 34 1 (g.2.1.map (rL 2 Aa))]) ⟨I, I⟩ ⟨I, J⟩ (pk N5) ?_ ?_
 rintro R u bv s ob aa ⟨rfl, rfl⟩ h a2
 have a3 := Cm aa
 refine Ai I (Ac fun bw a4 => Bl I a3 (qI ?_))
 subst a4
 refine qJ (qH (Ai I (Ac fun bx a5 => ?_)))
 obtain ⟨p, ⟨ab, A⟩, h⟩ := Bc h
 obtain ⟨b0, a6, h⟩ := Ad h
 obtain ⟨H, ⟨a7, S⟩, h⟩ := Bc h
 obtain ⟨ac, a8, h⟩ := Ad h
 obtain ⟨M, a9, h⟩ := Ad h
 refine Cl 2 p.1 I A fun ba => Cl 4 H.1 I S fun bb => Cl 2 p.1 I A fun bc => Bv (.still 0 (.still 1 (sl 4 3 (sl 4 8 (.act 2 (.act 7 (.act 12 (.act 13 (.still 14 (.drop 15 .nil)))))))))) [2, 4] [_, _] I (A9 4 I (qV I (A3 (m := p.1) I I I I I ba I ab A) I (AP.o I (Ax 0 p.1 0 I I I (Ae A) I (y := Q3 p.2) I) I (A9 2 I (qV I (A3 (m := H.1) I I I I I bb I a7 S) I (AP.o I (Ax 1 H.1 0 I I I (Ae S) I (y := Q3 H.2) I) I (qG [] I I I (qP (sz := 2) (es := ([] : List Piece).map Aa) I I I I I I I I I I I dS fun b1 => qG [5] I I I (qU 5 I a6 fun b4 => qG [5] I I I (qU 5 I a8 fun bd => ?_))))))))))
 refine D6 (As [5] (K := [U1 bd ac]) I [(73, Q3 ac)] ⟨⟨_, I, .us 0 I⟩, J⟩ (ob' := [O0 i [Ab a], O1 j [Aj b], .us e 34 1 (u.map (rL 2 Aa)), .us w 34 1 (g.1.map (rL 2 Aa)), .us F 34 1 (g.2.1.map (rL 2 Aa))]) (.rest _)) I (qG [] I I I (Bg I I I (Ia _ _ a9) dS ?_))
 rintro _ _ ⟨be, rfl, rfl⟩
 refine qV I (A3 (m := p.1) I I I I I bc I ab A) I (D6 (As [5] (K := [U1 be M]) I [(74, Q3 M)] ⟨⟨_, I, .us 0 I⟩, J⟩ (ob' := [O0 i [Ab a], O1 j [Aj b], .us e 34 1 (u.map (rL 2 Aa)), .us w 34 1 (g.1.map (rL 2 Aa)), .us F 34 1 (g.2.1.map (rL 2 Aa))]) (.rest _)) I (qX [2] I I I (Bh 2 p.1 0 I I I (Ae A) I I I I (Be I) I (Cj (x := M) I) (Ar (qE ?_)))))
 subst a5
 refine qJ ?_
 obtain ⟨O, ⟨bf, ad⟩, h⟩ := Bc h
 refine qD (Af 2 I (qN (Bb 2 (m := O.1) I I I I I I I bf (Ae ad)) I (qN (Ax 2 O.1 0 I I I (Ae ad) I (y := Q3 O.2) I) I (Ao 2 [.l 0 (O.2.length : Int)] I ⟨A6, J⟩ (qE (Av h I ?_ ?_))))))
 intro bg h
 refine Ai I ?_
 obtain rfl := a2 _ (oi h).symm
 have h := Z
 have h := Dj h
 obtain rfl := Q _ (oi h).symm
 have h := P
 have h := Dp h
 refine qL (Ay 34 1) (qL (As [] (K := []) I [(10, .list 1 ([].map (rL 2 Aa)))] ⟨⟨_, I, .nil _⟩, J⟩ (ob' := [O0 i [Ab a], O1 j [Aj b], .us e 34 1 ((u.set p.1 M).map (rL 2 Aa)), .us w 34 1 (g.1.map (rL 2 Aa)), .us F 34 1 (g.2.1.map (rL 2 Aa)), .us nS 34 1 ([].map (rL 2 Aa))]) (.rest _)) (Dd [5] I ?_))
 cases io h
 any_goals
  exact qK ⟨.inr I, [_, _, _], [.us nS 34 1 ([].map (rL 2 Aa))], J3, Ca I (Cv), ⟨nS, I2⟩⟩
 intro bg h
 refine qI (qD (Ao 2 [.k 0 (R + 1 : Nat)] I ⟨Az aa a0, J⟩ ?_))
 cases io h
 exact qE ⟨_, _, _, I, I2, pE, pk N5⟩
 rintro u s ob ⟨rfl, rfl⟩ he
 subst he
 have h := Dp Z
 have bh := Cn n.2.1.length
 exact Ai I (Ac fun b5 b6 => Bm I bh (qM (lg ⟨(g.1, u), w, h, I2⟩ N4)))
 rintro s ob ⟨t, G, h, rfl, rfl⟩
 unfold Jj.J3 at h
 refine qD (Af 3 I (qS (As [3] (K := [.us G 34 1 (t.1.map (rL 2 Aa))]) I [(1, .list 1 (t.1.map (rL 2 Aa)))] ⟨⟨_, I, .us 0 I⟩, J⟩ (ob' := [O0 i [Ab a], O1 j [Aj b], .us e 34 1 (t.2.map (rL 2 Aa))]) (.rest _)) ?_))
 cases io h
 exact qE ⟨_, _, _, I, I2, J7, pk N3⟩
 intro au h
 obtain rfl := Q _ (oi h).symm
 have h := P
 have h := Dj h
 exact qM (lg ⟨(n.1, n.2.1), h, I2⟩ [2])
 rintro s ob ⟨E, h, rfl, rfl⟩
 unfold Jj.J1 at h
 refine Ai I ?_
 cases io h
 exact qK ⟨.inr I, [_, _, _], [.us e 34 1 (E.2.map (rL 2 Aa))], J3, Ca I (Cv), ⟨e, I2⟩⟩
theorem Ow  (r : Bool) (h : Lv = some r) : ACalls Al 5 [] [] (RB r) := by
 refine Ag Tryz.func5 I I I fun C hC => ?_
 unfold Lv at h
 refine Ai I (Ac fun y2 ah => qD (qF [] I (qP (sz := 1) (es := ([(⟨#[97]⟩ : Bt), (⟨#[98]⟩ : Bt), (⟨#[99]⟩ : Bt)] : List Bt).map rS) I I I I I I I I I I I dS fun a => qQ (Bi (l := [.v (.string (⟨#[105, 110]⟩ : Bt)), .V 0, .V 0]) Hb I) I (qQ (Bi (l := [.v (.string (⟨#[109, 105, 100]⟩ : Bt)), .V 1, .V 0]) Hb I) I (qQ (Bi (l := [.v (.string (⟨#[111, 117, 116]⟩ : Bt)), .V 2, .V 0]) Hb I) I (qF [] I (qP (sz := 3) (es := ([(⟨(⟨#[105, 110]⟩ : Bt), 0, 0⟩ : Port), (⟨(⟨#[109, 105, 100]⟩ : Bt), 1, 0⟩ : Port), (⟨(⟨#[111, 117, 116]⟩ : Bt), 2, 0⟩ : Port)] : List Port).map Bn) I I I I I I I I I I I dS fun b => AO.one 0 I fun ai => AO.one 1 I fun aj => qQ (Bi (l := [.v a, .N, .v b, .N, .V 0, .V 0]) Sp (Ce I I (Bz ai) I (Ce I I (Bz aj) I (Fr)))) I (qF [] I (B0 W3 6 fun f => qF [2] I (By 2 0 0 [[.v a, .N, .v b, .N, .V 0, .V 0]] I ?_))))))))))
 refine qE ?_
 subst ah
 refine Ak (fun s ob => ∃ (n : List Sg) (D : Value), Lv.J1 n = some r ∧ s = [] ∧ ob = [.us a 9 1 (([(⟨#[97]⟩ : Bt), (⟨#[98]⟩ : Bt), (⟨#[99]⟩ : Bt)] : List Bt).map rS), .us b 82 3 (([(⟨(⟨#[105, 110]⟩ : Bt), 0, 0⟩ : Port), (⟨(⟨#[109, 105, 100]⟩ : Bt), 1, 0⟩ : Port), (⟨(⟨#[111, 117, 116]⟩ : Bt), 2, 0⟩ : Port)] : List Port).map Bn), O0 f [[.v a, .v D, .v b, .N, .V 0, .V 0]], U4 D n]) [(1, _)] J1 ?_ ?_
 refine Ac fun be ak => qD (qQ (Tw (l := [.V 0, .V 1]) I I I I I I) I (qQ (Tw (l := [.V 2, .V 1]) I I I I I I) I (qF [] I (qP (sz := 2) (es := ([(⟨[0, 1], I⟩ : Arr Int 2), (⟨[2, 1], I⟩ : Arr Int 2)] : List (Arr Int 2)).map (rA cI)) I I I I I I I I I I I dS fun E => qN (Bu 3 I I I I) I (Af 1 I (qE ?_))))))
 subst ak
 refine qH (Gq 3 I fun al => qL (Ay 89 7) ?_)
 obtain ⟨bf, am, an⟩ := Ad h
 refine D8 am (K3 1 15 16) J3 (fun (P : Nat) (t : List Sg) s ob => ∃ (e : Value), s = [(17, .V (P : Int))] ∧ ob = [.us a 9 1 (([(⟨#[97]⟩ : Bt), (⟨#[98]⟩ : Bt), (⟨#[99]⟩ : Bt)] : List Bt).map rS), .us b 82 3 (([(⟨(⟨#[105, 110]⟩ : Bt), 0, 0⟩ : Port), (⟨(⟨#[109, 105, 100]⟩ : Bt), 1, 0⟩ : Port), (⟨(⟨#[111, 117, 116]⟩ : Bt), 2, 0⟩ : Port)] : List Port).map Bn), O0 f [[.v a, .v e, .v b, .N, .V 0, .V 0]], .us E 83 2 (([(⟨[0, 1], I⟩ : Arr Int 2), (⟨[2, 1], I⟩ : Arr Int 2)] : List (Arr Int 2)).map (rA cI)), U4 e t]) ⟨nS, I2⟩ ⟨I, J⟩ (pk N5) ?_ ?_
 rintro P t ao s ob Z ⟨e, rfl, rfl⟩ h
 unfold Lv.B3 at h
 have aq := Cm Z
 refine Ai I (Ac fun bg ar => Bl I aq (qI ?_))
 subst ar
 refine Ak (fun s ob => ∃ (Q : List Sg) (M : Value), Lv.J4 Q = some ao ∧ s = [] ∧ ob = [.us a 9 1 (([(⟨#[97]⟩ : Bt), (⟨#[98]⟩ : Bt), (⟨#[99]⟩ : Bt)] : List Bt).map rS), .us b 82 3 (([(⟨(⟨#[105, 110]⟩ : Bt), 0, 0⟩ : Port), (⟨(⟨#[109, 105, 100]⟩ : Bt), 1, 0⟩ : Port), (⟨(⟨#[111, 117, 116]⟩ : Bt), 2, 0⟩ : Port)] : List Port).map Bn), O0 f [[.v a, .v M, .v b, .N, .V 0, .V 0]], .us E 83 2 (([(⟨[0, 1], I⟩ : Arr Int 2), (⟨[2, 1], I⟩ : Arr Int 2)] : List (Arr Int 2)).map (rA cI)), U4 M Q]) (K4 1 15 16 17) J4 ?_ ?_
 refine qH (Ac fun bh au => ?_)
 obtain ⟨u, ⟨av, aa⟩, h⟩ := Bc h
 refine qD (Af 1 I (qN (Bb 3 (m := u.1) I I I I I I I av (Ae aa)) I (qN (Ax 3 u.1 0 I I I (Ae aa) I (y := .agg (u.2.l.map cI)) (G6 I (by simp [rA, Arr.h]))) I (qF [] I (B0 [.V 0, .V 0] 2 fun O => Af 1 I (qF [5] I (qT 5 0 0 (es' := [u.2.l.map cI]) I I I I I I I (by simp [Arr.h, Am, A4]) (by simp [Arr.h, Am, A4]) I (congrArg (fun r => [r]) (Fq (by simp [Arr.h, Am, A4]))) (qE ?_))))))))
 subst au
 obtain ⟨c, ⟨R, w⟩, h⟩ := Bc h
 obtain ⟨g, ⟨aw, ab⟩, h⟩ := Bc h
 obtain ⟨i, ⟨ax, ac⟩, h⟩ := Bc h
 obtain ⟨ay, az, h⟩ := Ad h
 refine Bv (.still 0 (.still 1 (.still 3 (sl 6 6 (.two 2 12 (.two 4 12 (.two 5 12 (.act 12 Zs) (.act 5 Zs)) (.act 4 (.act 5 Zs))) (.act 2 (.act 4 (.act 5 Zs)))))))) [2, 5] [_, _] I (Cf 3 [.o 1 0] I J1 (qV I (Df (m := g.1) I I I I I I aw (Eu ab)) I (AP.o I (Ck 1 0 (0 + g.1) I I I I (by omega) (y := .V g.2) (by rw [Nat.zero_add]; exact Ae ab)) I (qV I (Df (m := i.1) I I I I I I ax (Eu ac)) I (AP.o I (Ck 1 0 (0 + i.1) I I I I (by omega) (y := .V i.2) (by rw [Nat.zero_add]; exact Ae ac)) I (qV I (Bi (l := [.V 0, .V 0, .V 0]) F5 I) I (qV I (Bi (l := [.V 10, .V 0, .V 0]) F5 I) I (qW ?_ ?_))))))))
 refine qG [] I I I (qP (sz := 1) (es := ([(⟨#[120]⟩ : Bt), (⟨#[121]⟩ : Bt)] : List Bt).map rS) I I I I I I I I I I I dS fun G => qW ?_ ?_)
 refine qG [] I I I (Ba (Bb 6 (m := c.1) I I I I I I I R (Ae w)) dS (qW ?_ ?_))
 refine qG [] I I I (Ba (Ax 6 c.1 0 I I I (Ae w) I (y := .v (.string c.2)) I) dS (qG [] I I I (qP (sz := 3) (es := ([(⟨0, 0, 0⟩ : Point), (⟨10, 0, 0⟩ : Point)] : List Point).map Bx) I I I I I I I I I I I dS fun j => rC 7 I fun A => AP.p I (Bi (l := [.v (.string c.2), .V g.2, .V i.2, .V 10, .V 0, .V 0, .v j]) Ha (Ce I I I I (Ce I I I I (Ce I I I I (Ce I I I I (Ce I I (Bz A) I (Fr))))))) I (D6 (As [7] (K := [.us j 86 3 (([(⟨0, 0, 0⟩ : Point), (⟨10, 0, 0⟩ : Point)] : List Point).map Bx)]) I [(34, .list 3 (([(⟨0, 0, 0⟩ : Point), (⟨10, 0, 0⟩ : Point)] : List Point).map Bx)), (35, .agg [.v (.string c.2), .V g.2, .V i.2, .V 10, .V 0, .V 0, .list 3 (([(⟨0, 0, 0⟩ : Point), (⟨10, 0, 0⟩ : Point)] : List Point).map Bx)])] ⟨⟨_, I, .us 0 I⟩, ⟨_, I, .agg (.cons (.refl _) (.cons (.refl _) (.cons (.refl _) (.cons (.refl _) (.cons (.refl _) (.cons (.refl _) (.cons (.us 0 I) (.rest _))))))))⟩, J⟩ (ob' := [.us a 9 1 (([(⟨#[97]⟩ : Bt), (⟨#[98]⟩ : Bt), (⟨#[99]⟩ : Bt)] : List Bt).map rS), .us b 82 3 (([(⟨(⟨#[105, 110]⟩ : Bt), 0, 0⟩ : Port), (⟨(⟨#[109, 105, 100]⟩ : Bt), 1, 0⟩ : Port), (⟨(⟨#[111, 117, 116]⟩ : Bt), 2, 0⟩ : Port)] : List Port).map Bn), O0 f [[.v a, .v e, .v b, .N, .V 0, .V 0]], .us E 83 2 (([(⟨[0, 1], I⟩ : Arr Int 2), (⟨[2, 1], I⟩ : Arr Int 2)] : List (Arr Int 2)).map (rA cI)), U4 e t, .arr O 83 2 1 [u.2.l.map cI], .us G 9 1 (([(⟨#[120]⟩ : Bt), (⟨#[121]⟩ : Bt)] : List Bt).map rS)]) (.rest _)) I ?_))))
 rotate_left
 refine qG [] I I I (qP (sz := 3) (es := ([(⟨0, 0, 0⟩ : Point), (⟨10, 0, 0⟩ : Point)] : List Point).map Bx) I I I I I I I I I I I dS fun j => qG [] I I I (Ba (Ax 6 c.1 0 I I I (Ae w) I (y := .v (.string c.2)) I) dS (rC 7 I fun A => AP.p I (Bi (l := [.v (.string c.2), .V g.2, .V i.2, .V 10, .V 0, .V 0, .v j]) Ha (Ce I I I I (Ce I I I I (Ce I I I I (Ce I I I I (Ce I I (Bz A) I (Fr))))))) I (D6 (As [7] (K := [.us j 86 3 (([(⟨0, 0, 0⟩ : Point), (⟨10, 0, 0⟩ : Point)] : List Point).map Bx)]) I [(34, .list 3 (([(⟨0, 0, 0⟩ : Point), (⟨10, 0, 0⟩ : Point)] : List Point).map Bx)), (35, .agg [.v (.string c.2), .V g.2, .V i.2, .V 10, .V 0, .V 0, .list 3 (([(⟨0, 0, 0⟩ : Point), (⟨10, 0, 0⟩ : Point)] : List Point).map Bx)])] ⟨⟨_, I, .us 0 I⟩, ⟨_, I, .agg (.cons (.refl _) (.cons (.refl _) (.cons (.refl _) (.cons (.refl _) (.cons (.refl _) (.cons (.refl _) (.cons (.us 0 I) (.rest _))))))))⟩, J⟩ (ob' := [.us a 9 1 (([(⟨#[97]⟩ : Bt), (⟨#[98]⟩ : Bt), (⟨#[99]⟩ : Bt)] : List Bt).map rS), .us b 82 3 (([(⟨(⟨#[105, 110]⟩ : Bt), 0, 0⟩ : Port), (⟨(⟨#[109, 105, 100]⟩ : Bt), 1, 0⟩ : Port), (⟨(⟨#[111, 117, 116]⟩ : Bt), 2, 0⟩ : Port)] : List Port).map Bn), O0 f [[.v a, .v e, .v b, .N, .V 0, .V 0]], .us E 83 2 (([(⟨[0, 1], I⟩ : Arr Int 2), (⟨[2, 1], I⟩ : Arr Int 2)] : List (Arr Int 2)).map (rA cI)), U4 e t, .arr O 83 2 1 [u.2.l.map cI], .us G 9 1 (([(⟨#[120]⟩ : Bt), (⟨#[121]⟩ : Bt)] : List Bt).map rS)]) (.rest _)) I ?_))))
 rotate_left
 refine qG [] I I I (qP (sz := 3) (es := ([(⟨0, 0, 0⟩ : Point), (⟨10, 0, 0⟩ : Point)] : List Point).map Bx) I I I I I I I I I I I dS fun j => qG [] I I I (Ba (Bb 6 (m := c.1) I I I I I I I R (Ae w)) dS (qG [] I I I (Ba (Ax 6 c.1 0 I I I (Ae w) I (y := .v (.string c.2)) I) dS (rC 7 I fun A => AP.p I (Bi (l := [.v (.string c.2), .V g.2, .V i.2, .V 10, .V 0, .V 0, .v j]) Ha (Ce I I I I (Ce I I I I (Ce I I I I (Ce I I I I (Ce I I (Bz A) I (Fr))))))) I (D6 (As [7] (K := [.us j 86 3 (([(⟨0, 0, 0⟩ : Point), (⟨10, 0, 0⟩ : Point)] : List Point).map Bx)]) I [(34, .list 3 (([(⟨0, 0, 0⟩ : Point), (⟨10, 0, 0⟩ : Point)] : List Point).map Bx)), (35, .agg [.v (.string c.2), .V g.2, .V i.2, .V 10, .V 0, .V 0, .list 3 (([(⟨0, 0, 0⟩ : Point), (⟨10, 0, 0⟩ : Point)] : List Point).map Bx)])] ⟨⟨_, I, .us 0 I⟩, ⟨_, I, .agg (.cons (.refl _) (.cons (.refl _) (.cons (.refl _) (.cons (.refl _) (.cons (.refl _) (.cons (.refl _) (.cons (.us 0 I) (.rest _))))))))⟩, J⟩ (ob' := [.us a 9 1 (([(⟨#[97]⟩ : Bt), (⟨#[98]⟩ : Bt), (⟨#[99]⟩ : Bt)] : List Bt).map rS), .us b 82 3 (([(⟨(⟨#[105, 110]⟩ : Bt), 0, 0⟩ : Port), (⟨(⟨#[109, 105, 100]⟩ : Bt), 1, 0⟩ : Port), (⟨(⟨#[111, 117, 116]⟩ : Bt), 2, 0⟩ : Port)] : List Port).map Bn), O0 f [[.v a, .v e, .v b, .N, .V 0, .V 0]], .us E 83 2 (([(⟨[0, 1], I⟩ : Arr Int 2), (⟨[2, 1], I⟩ : Arr Int 2)] : List (Arr Int 2)).map (rA cI)), U4 e t, .arr O 83 2 1 [u.2.l.map cI], .us G 9 1 (([(⟨#[120]⟩ : Bt), (⟨#[121]⟩ : Bt)] : List Bt).map rS)]) (.rest _)) I ?_))))))
 rotate_left
 refine qG [] I I I (qP (sz := 3) (es := ([(⟨0, 0, 0⟩ : Point), (⟨10, 0, 0⟩ : Point)] : List Point).map Bx) I I I I I I I I I I I dS fun j => qG [] I I I (qP (sz := 1) (es := ([(⟨#[120]⟩ : Bt), (⟨#[121]⟩ : Bt)] : List Bt).map rS) I I I I I I I I I I I dS fun G => qG [] I I I (Ba (Bb 7 (m := c.1) I I I I I I I R (Ae w)) dS (qG [] I I I (Ba (Ax 7 c.1 0 I I I (Ae w) I (y := .v (.string c.2)) I) dS (rC 6 I fun A => AP.p I (Bi (l := [.v (.string c.2), .V g.2, .V i.2, .V 10, .V 0, .V 0, .v j]) Ha (Ce I I I I (Ce I I I I (Ce I I I I (Ce I I I I (Ce I I (Bz A) I (Fr))))))) I (D6 (As [6] (K := [.us j 86 3 (([(⟨0, 0, 0⟩ : Point), (⟨10, 0, 0⟩ : Point)] : List Point).map Bx)]) I [(34, .list 3 (([(⟨0, 0, 0⟩ : Point), (⟨10, 0, 0⟩ : Point)] : List Point).map Bx)), (35, .agg [.v (.string c.2), .V g.2, .V i.2, .V 10, .V 0, .V 0, .list 3 (([(⟨0, 0, 0⟩ : Point), (⟨10, 0, 0⟩ : Point)] : List Point).map Bx)])] ⟨⟨_, I, .us 0 I⟩, ⟨_, I, .agg (.cons (.refl _) (.cons (.refl _) (.cons (.refl _) (.cons (.refl _) (.cons (.refl _) (.cons (.refl _) (.cons (.us 0 I) (.rest _))))))))⟩, J⟩ (ob' := [.us a 9 1 (([(⟨#[97]⟩ : Bt), (⟨#[98]⟩ : Bt), (⟨#[99]⟩ : Bt)] : List Bt).map rS), .us b 82 3 (([(⟨(⟨#[105, 110]⟩ : Bt), 0, 0⟩ : Port), (⟨(⟨#[109, 105, 100]⟩ : Bt), 1, 0⟩ : Port), (⟨(⟨#[111, 117, 116]⟩ : Bt), 2, 0⟩ : Port)] : List Port).map Bn), O0 f [[.v a, .v e, .v b, .N, .V 0, .V 0]], .us E 83 2 (([(⟨[0, 1], I⟩ : Arr Int 2), (⟨[2, 1], I⟩ : Arr Int 2)] : List (Arr Int 2)).map (rA cI)), U4 e t, .arr O 83 2 1 [u.2.l.map cI], .us G 9 1 (([(⟨#[120]⟩ : Bt), (⟨#[121]⟩ : Bt)] : List Bt).map rS)]) (.rest _)) I ?_)))))))
 any_goals
  refine qG [] I I I (qO 7 (([(⟨c.2, g.2, i.2, 10, 0, 0, ([(⟨0, 0, 0⟩ : Point), (⟨10, 0, 0⟩ : Point)] : List Point)⟩ : Sg)] : List Sg).map Au) (qG [4] I I I (qU 4 I az fun ad => A9 1 I (rC 4 I fun a0 => qX [2] I I I (qT 2 0 1 (es' := [[.v a, .v ad, .v b, .N, .V 0, .V 0]]) I I I I I I (Bz a0) I (Be I) I I (Ar (qE ?_)))))))
  exact lg ⟨ay, ad, h, I2⟩ N5
 rintro s ob ⟨Q, M, h, rfl, rfl⟩
 unfold Lv.J4 at h
 refine qD (Ao 2 [.k 0 (P + 1 : Nat)] I ⟨Az Z al, J⟩ ?_)
 cases io h
 exact qE (lg ⟨M, I2⟩ N5)
 rintro t s ob ⟨e, rfl, rfl⟩ he
 subst he
 have h := an
 have a1 := Cn (([(⟨[0, 1], rfl⟩ : Arr Int 2), (⟨[2, 1], rfl⟩ : Arr Int 2)] : List (Arr Int 2)).length)
 exact Ai I (Ac fun bi bj => Bm I a1 (qM (lg ⟨t, e, h, I2⟩ [0, 1, 2, 4])))
 rintro s ob ⟨n, D, h, rfl, rfl⟩
 refine Ac fun bk a2 => ?_
 obtain ⟨B, a3, h⟩ := Ad h
 refine qD (Ao 1 [.o 0 2] I J1 (qQ (Bi (l := [.V 1, .V 10]) Ct I) I (qF [] I (qP (sz := 2) (es := ([(⟨1, 10⟩ : Piece)] : List Piece).map Aa) I I I I I I I I I I I dS fun a4 => qQ (Bi (l := [.V 2, .V 10]) Ct I) I (qF [] I (qP (sz := 2) (es := ([(⟨2, 10⟩ : Piece)] : List Piece).map Aa) I I I I I I I I I I I dS fun a5 => qS (As [4, 5] (K := [.us a4 69 2 (([(⟨1, 10⟩ : Piece)] : List Piece).map Aa), .us a5 69 2 (([(⟨2, 10⟩ : Piece)] : List Piece).map Aa)]) I [(43, .list 2 (([(⟨1, 10⟩ : Piece)] : List Piece).map Aa)), (45, .list 2 (([(⟨2, 10⟩ : Piece)] : List Piece).map Aa))] ⟨⟨_, I, .us 0 I⟩, ⟨_, I, .us 1 I⟩, J⟩ (ob' := [.us a 9 1 (([(⟨#[97]⟩ : Bt), (⟨#[98]⟩ : Bt), (⟨#[99]⟩ : Bt)] : List Bt).map rS), .us b 82 3 (([(⟨(⟨#[105, 110]⟩ : Bt), 0, 0⟩ : Port), (⟨(⟨#[109, 105, 100]⟩ : Bt), 1, 0⟩ : Port), (⟨(⟨#[111, 117, 116]⟩ : Bt), 2, 0⟩ : Port)] : List Port).map Bn), O0 f [[.v a, .v D, .v b, .N, .V 0, .V 0]], U4 D n]) (.rest _)) (qF [] I (qO 1 (([([(⟨1, 10⟩ : Piece)] : List Piece), ([(⟨2, 10⟩ : Piece)] : List Piece)] : List (List Piece)).map (rL 2 Aa)) (qF [] I (qP (sz := 1) (es := ([4, (-3)] : Li).map rI) I I I I I I I I I I I dS fun ae => ?_))))))))))
 refine qF [] I (qP (sz := 1) (es := ([4, (-1), (-3)] : Li).map rI) I I I I I I I I I I I dS fun af => AO.one 4 I fun a6 => AO.one 5 I fun a7 => qQ (Bi (l := [.v ae, .v af, .N]) Iz (Ce I I (Bz a6) I (Ce I I (Bz a7) I (Fr)))) I (qF [] I (qO 1 (([5, 0, 0] : Li).map rI) (qS (As [0, 1, 3, 4, 5] (K := [.us a 9 1 (([(⟨#[97]⟩ : Bt), (⟨#[98]⟩ : Bt), (⟨#[99]⟩ : Bt)] : List Bt).map rS), .us b 82 3 (([(⟨(⟨#[105, 110]⟩ : Bt), 0, 0⟩ : Port), (⟨(⟨#[109, 105, 100]⟩ : Bt), 1, 0⟩ : Port), (⟨(⟨#[111, 117, 116]⟩ : Bt), 2, 0⟩ : Port)] : List Port).map Bn), U4 D n, .us ae 3 1 (([4, (-3)] : Li).map rI), .us af 3 1 (([4, (-1), (-3)] : Li).map rI)]) I [(41, .agg [.list 1 (([(⟨#[97]⟩ : Bt), (⟨#[98]⟩ : Bt), (⟨#[99]⟩ : Bt)] : List Bt).map rS), Q4 n, .list 3 (([(⟨(⟨#[105, 110]⟩ : Bt), 0, 0⟩ : Port), (⟨(⟨#[109, 105, 100]⟩ : Bt), 1, 0⟩ : Port), (⟨(⟨#[111, 117, 116]⟩ : Bt), 2, 0⟩ : Port)] : List Port).map Bn), .list 5 ([].map Br), .V 0, .V 0]), (47, .list 1 (([4, (-3)] : Li).map rI)), (48, .list 1 (([4, (-1), (-3)] : Li).map rI)), (49, .agg [.list 1 (([4, (-3)] : Li).map rI), .list 1 (([4, (-1), (-3)] : Li).map rI), .list 1 ([].map rB)])] ⟨⟨_, I, .agg (.cons (.us 0 I) (.cons (.us 2 I) (.cons (.us 1 I) (.cons (.nil _) (.rest _)))))⟩, ⟨_, I, .us 3 I⟩, ⟨_, I, .us 4 I⟩, ⟨_, I, .agg (.cons (.us 3 I) (.cons (.us 4 I) (.cons (.nil _) (.rest _))))⟩, J⟩ (ob' := [O0 f [[.list 1 (([(⟨#[97]⟩ : Bt), (⟨#[98]⟩ : Bt), (⟨#[99]⟩ : Bt)] : List Bt).map rS), Q4 n, .list 3 (([(⟨(⟨#[105, 110]⟩ : Bt), 0, 0⟩ : Port), (⟨(⟨#[109, 105, 100]⟩ : Bt), 1, 0⟩ : Port), (⟨(⟨#[111, 117, 116]⟩ : Bt), 2, 0⟩ : Port)] : List Port).map Bn), .N, .V 0, .V 0]]]) (.cons (.arr (.cons (.us 0 I) (.cons (.us 2 I) (.cons (.us 1 I) (.rest _))))) (.rest _))) ?_))))
 refine qF [] I (Bg I I I (Uo _ _ _ _ _ a3) dS ?_)
 rintro _ _ ⟨S, U, rfl, rfl⟩
 refine Af 7 I (qE ?_)
 subst a2
 refine Ak (fun s ob => ∃ (W : Bool), Lv.J2 W = some r ∧ s = [(0, .v (.bool W))] ∧ ob = []) [] J ?_ ?_
 rcases bt ((B.2.2 == 0)) with F | F
 have h := Cb F h
 obtain ⟨a8, ag, h⟩ := Ad h
 rcases bt (a8) with H | H
 have h := Cb H h
 obtain ⟨a9, ba, h⟩ := Ad h
 refine qD (Af 3 I (Ah 57 I F (Af 1 I (Bj I I I (qQ (Bi (l := [.V 5, .V 4]) Ct I) I (Bj I I I (qQ (Bi (l := [.V 1, .V 6]) Ct I) I (Bj I I I (qF [] I (qP (sz := 2) (es := ([(⟨5, 4⟩ : Piece), (⟨1, 6⟩ : Piece)] : List Piece).map Aa) I I I I I I I I I I I dS fun X => Bj I I I (qQ (Bi (l := [.V 2, .V 7]) Ct I) I (Bj I I I ?_))))))))))))
 refine qQ (Bi (l := [.V 1, .V 3]) Ct I) I (Bj I I I (qF [] I (qP (sz := 2) (es := ([(⟨2, 7⟩ : Piece), (⟨1, 3⟩ : Piece)] : List Piece).map Aa) I I I I I I I I I I I dS fun Y => qS (As [3, 4] (K := [.us X 69 2 (([(⟨5, 4⟩ : Piece), (⟨1, 6⟩ : Piece)] : List Piece).map Aa), .us Y 69 2 (([(⟨2, 7⟩ : Piece), (⟨1, 3⟩ : Piece)] : List Piece).map Aa)]) I [(61, .list 2 (([(⟨5, 4⟩ : Piece), (⟨1, 6⟩ : Piece)] : List Piece).map Aa)), (64, .list 2 (([(⟨2, 7⟩ : Piece), (⟨1, 3⟩ : Piece)] : List Piece).map Aa))] ⟨⟨_, I, .us 0 I⟩, ⟨_, I, .us 1 I⟩, J⟩ (ob' := [O0 f [[.list 1 (([(⟨#[97]⟩ : Bt), (⟨#[98]⟩ : Bt), (⟨#[99]⟩ : Bt)] : List Bt).map rS), Q4 n, .list 3 (([(⟨(⟨#[105, 110]⟩ : Bt), 0, 0⟩ : Port), (⟨(⟨#[109, 105, 100]⟩ : Bt), 1, 0⟩ : Port), (⟨(⟨#[111, 117, 116]⟩ : Bt), 2, 0⟩ : Port)] : List Port).map Bn), .N, .V 0, .V 0]], .us S 34 1 (B.1.map (rL 2 Aa)), .us U 34 1 (B.2.1.map (rL 2 Aa))]) (.rest _)) (Bj I I I (qF [] I (qO 1 (([([(⟨5, 4⟩ : Piece), (⟨1, 6⟩ : Piece)] : List Piece), ([(⟨2, 7⟩ : Piece), (⟨1, 3⟩ : Piece)] : List Piece)] : List (List Piece)).map (rL 2 Aa)) (Bj I I I (qF [] I (Cz I (.refl _) I I (.cons (.us 1 I) (.rest _)) I (D5 _ _ _ ag) dS (by rintro _ _ ⟨rfl, _⟩; rfl) ?_)))))))))
 rintro _ ⟨_, rfl, -⟩
 refine Af 2 I (Ah 68 I H (Af 1 I (Bj I I I (qQ (Bi (l := [.V 1, .V 1]) Ct I) I (Bj I I I (qF [] I (qP (sz := 2) (es := ([(⟨1, 1⟩ : Piece)] : List Piece).map Aa) I I I I I I I I I I I dS fun bb => Bj I I I (qQ (Bi (l := [.V 2, .V 3]) Ct I) I (Bj I I I (qF [] I (qP (sz := 2) (es := ([(⟨2, 3⟩ : Piece)] : List Piece).map Aa) I I I I I I I I I I I dS fun bc => qS (As [3, 4] (K := [.us bb 69 2 (([(⟨1, 1⟩ : Piece)] : List Piece).map Aa), .us bc 69 2 (([(⟨2, 3⟩ : Piece)] : List Piece).map Aa)]) I [(71, .list 2 (([(⟨1, 1⟩ : Piece)] : List Piece).map Aa)), (73, .list 2 (([(⟨2, 3⟩ : Piece)] : List Piece).map Aa))] ⟨⟨_, I, .us 0 I⟩, ⟨_, I, .us 1 I⟩, J⟩ (ob' := [O0 f [[.list 1 (([(⟨#[97]⟩ : Bt), (⟨#[98]⟩ : Bt), (⟨#[99]⟩ : Bt)] : List Bt).map rS), Q4 n, .list 3 (([(⟨(⟨#[105, 110]⟩ : Bt), 0, 0⟩ : Port), (⟨(⟨#[109, 105, 100]⟩ : Bt), 1, 0⟩ : Port), (⟨(⟨#[111, 117, 116]⟩ : Bt), 2, 0⟩ : Port)] : List Port).map Bn), .N, .V 0, .V 0]], .us S 34 1 (B.1.map (rL 2 Aa)), .us U 34 1 (B.2.1.map (rL 2 Aa))]) (.rest _)) (Bj I I I ?_))))))))))))
 refine qF [] I (qO 1 [[.N], [.list 2 (([(⟨1, 1⟩ : Piece)] : List Piece).map Aa)], [.list 2 (([(⟨2, 3⟩ : Piece)] : List Piece).map Aa)]] (qS (Ghost.lit 74 (es' := ([[], ([(⟨1, 1⟩ : Piece)] : List Piece), ([(⟨2, 3⟩ : Piece)] : List Piece)] : List (List Piece)).map (rL 2 Aa)) I (.cons (.cons (.nil _) .nil) (.cons (.rest _) (.cons (.rest _) (.nil))))) (Bj I I I (qF [] I (Cz I (.refl _) I I (.cons (.us 2 I) (.rest _)) I (D5 _ _ _ ba) dS (by rintro _ _ ⟨rfl, _⟩; rfl) ?_)))))
 rintro _ ⟨_, rfl, -⟩
 exact Af 2 I (qE (lg ⟨a9, h, I2⟩ []))
 have h := Cc H h
 refine qD (Af 3 I (Ah 57 I F (Af 1 I (Bj I I I (qQ (Bi (l := [.V 5, .V 4]) Ct I) I (Bj I I I (qQ (Bi (l := [.V 1, .V 6]) Ct I) I (Bj I I I (qF [] I (qP (sz := 2) (es := ([(⟨5, 4⟩ : Piece), (⟨1, 6⟩ : Piece)] : List Piece).map Aa) I I I I I I I I I I I dS fun X => Bj I I I (qQ (Bi (l := [.V 2, .V 7]) Ct I) I (Bj I I I ?_))))))))))))
 refine qQ (Bi (l := [.V 1, .V 3]) Ct I) I (Bj I I I (qF [] I (qP (sz := 2) (es := ([(⟨2, 7⟩ : Piece), (⟨1, 3⟩ : Piece)] : List Piece).map Aa) I I I I I I I I I I I dS fun Y => qS (As [3, 4] (K := [.us X 69 2 (([(⟨5, 4⟩ : Piece), (⟨1, 6⟩ : Piece)] : List Piece).map Aa), .us Y 69 2 (([(⟨2, 7⟩ : Piece), (⟨1, 3⟩ : Piece)] : List Piece).map Aa)]) I [(61, .list 2 (([(⟨5, 4⟩ : Piece), (⟨1, 6⟩ : Piece)] : List Piece).map Aa)), (64, .list 2 (([(⟨2, 7⟩ : Piece), (⟨1, 3⟩ : Piece)] : List Piece).map Aa))] ⟨⟨_, I, .us 0 I⟩, ⟨_, I, .us 1 I⟩, J⟩ (ob' := [O0 f [[.list 1 (([(⟨#[97]⟩ : Bt), (⟨#[98]⟩ : Bt), (⟨#[99]⟩ : Bt)] : List Bt).map rS), Q4 n, .list 3 (([(⟨(⟨#[105, 110]⟩ : Bt), 0, 0⟩ : Port), (⟨(⟨#[109, 105, 100]⟩ : Bt), 1, 0⟩ : Port), (⟨(⟨#[111, 117, 116]⟩ : Bt), 2, 0⟩ : Port)] : List Port).map Bn), .N, .V 0, .V 0]], .us S 34 1 (B.1.map (rL 2 Aa)), .us U 34 1 (B.2.1.map (rL 2 Aa))]) (.rest _)) (Bj I I I (qF [] I (qO 1 (([([(⟨5, 4⟩ : Piece), (⟨1, 6⟩ : Piece)] : List Piece), ([(⟨2, 7⟩ : Piece), (⟨1, 3⟩ : Piece)] : List Piece)] : List (List Piece)).map (rL 2 Aa)) (Bj I I I (qF [] I (Cz I (.refl _) I I (.cons (.us 1 I) (.rest _)) I (D5 _ _ _ ag) dS (by rintro _ _ ⟨rfl, _⟩; rfl) ?_)))))))))
 rintro _ ⟨_, rfl, -⟩
 exact Af 2 I (Ah 68 I H (Af 9 I (qE (lg ⟨false, h, I2⟩ []))))
 have h := Cc F h
 exact qD (Af 3 I (Ah 57 I F (Af 20 I (qE (lg ⟨false, h, I2⟩ [])))))
 rintro s ob ⟨W, h, rfl, rfl⟩
 unfold Lv.J2 at h
 cases io h
 exact qK pr
theorem eF (a : Nat) (au : KS) (r : Nw × KS) (h : Vr au = some r) : ACalls Al 7 [.P a] [O2 a [Bs au]] (Fh 1 fun x os new => x = .agg (Ab r.1) ∧ os = [O2 a [Bs r.2]] ∧ new = []) := by
 refine Ag Tryz.func7 I I I fun C hC => ?_
 refine Ac fun y1 a4 => qD (qF [] I (B0 W3 6 fun A => qE ?_))
 subst a4
 refine Ac fun y3 a5 => ?_
 obtain ⟨f, a6, h⟩ := Ad h
 obtain ⟨g, a7, h⟩ := Ad h
 refine qD (Af 1 I (qF [] I (qO 1 (([(-100000), 0, 50000] : Li).map rI) (qF [0] I (A7 [0] (An a _ _ _ a6) ?_)))))
 refine Af 1 I (qF [] I (qO 1 (([0, 1, 5, 100] : Li).map rI) (qF [0] I (A7 [0] (An a _ _ _ a7) ?_))))
 refine qQ (Bi (l := [.N, .N, .N, .N, .V f.1, .V g.1]) Sp I) I (qF [] I (B0 W3 6 fun B => qF [2] I (By 2 0 0 [[.N, .N, .N, .N, .V f.1, .V g.1]] I (qE ?_))))
 subst a5
 refine Ak (fun s ob => ∃ (k : Li × Int × (List Bt)) (e : Value), Vr.J1 f g k = some r ∧ s = [] ∧ ob = [O2 a [[Q0 k.1, .V k.2.1]], O0 A [W3], O0 B [[.v e, .N, .N, .N, .V f.1, .V g.1]], U2 e k.2.2]) (K3 0 2 3) J3 ?_ ?_
 refine Ac fun cx a8 => ?_
 obtain ⟨an, a9, h⟩ := Ad h
 refine qD (Af 1 I (qF [0] I (A7 [0] (E3 a _ _ _ _ a9) ?_)))
 refine Af 1 I (qE ?_)
 subst a8
 refine qH (qL (Ay 9 1) ?_)
 obtain ⟨cy, ba, bb⟩ := Ad h
 refine Dm ba (K3 0 2 3) J3 (fun (ad : (List Bt) × Int) s ob => ∃ (ae : Value), s = [(4, .V ad.2)] ∧ ob = [O2 a [Bs an.2], O0 A [W3], O0 B [[.v ae, .N, .N, .N, .V f.1, .V g.1]], U2 ae ad.1]) ⟨nS, I2⟩ ⟨I, J⟩ (pk N4) ?_
 rintro ad cz s ob ⟨ae, rfl, rfl⟩ h bc
 refine Ac fun c1 bd => Ai I (Av h I ?_ ?_)
 intro be h
 refine qI ?_
 subst bd
 refine qJ (qH ?_)
 obtain ⟨bf, bg, h⟩ := Ad h
 obtain ⟨c2, bh, h⟩ := Ad h
 refine Dt 3 I fun bi => Bv (sl 5 0 (.act 5 (.act 6 (.act 7 (.still 8 (.drop 9 .nil)))))) [2] [_] I (Cf 4 [.o 1 0, .o 3 0] I J2 (qV I (Ds I I I bi) I (rD I (C4 _ _ _ bg) (qG [] I I I (qO 1 (([bf] : List Bt).map rS) (qG [3] I I I (qU 3 I bh fun av => A9 1 I (rC 3 I fun bj => qX [2] I I I (qT 2 0 0 (es' := [[.v av, .N, .N, .N, .V f.1, .V g.1]]) I I I I I I (Bz bj) I (Be I) I I (Ar (qE (qD ?_))))))))))))
 refine Af 3 I ?_
 cases io h
 exact qE ⟨_, _, _, I, ⟨av, I2⟩, J4, pk N4⟩
 intro be h
 obtain rfl := bc _ (oi h).symm
 have h := bb
 exact qM (lg ⟨(an.2.L_, an.2.At, ad.1), ae, h, I2⟩ N4)
 rintro s ob ⟨k, e, h, rfl, rfl⟩
 unfold Vr.J1 at h
 refine Ac fun c3 bk => qD (Ao 2 [.o 1 2] I J1 (qN (Bu 3 I I I I) I (Af 2 I (qE ?_))))
 subst bk
 refine Ak (fun s ob => ∃ (Z : Li × Int × (List Sg)) (af : Value), Vr.J2 f g k Z = some r ∧ s = [] ∧ ob = [O2 a [[Q0 Z.1, .V Z.2.1]], O0 A [W3], O0 B [[.v e, .v af, .N, .N, .V f.1, .V g.1]], U2 e k.2.2, U4 af Z.2.2]) (K4 0 2 3 5) J4 ?_ ?_
 refine Ai I (qH (qL (Ay 89 7) ?_))
 obtain ⟨c4, bl, bm⟩ := Ad h
 refine Dm bl (K4 0 2 3 5) J4 (fun (F : Li × Int × (List Sg) × Int) s ob => ∃ (ag : Value), s = [(6, .V F.2.2.2)] ∧ ob = [O2 a [[Q0 F.1, .V F.2.1]], O0 A [W3], O0 B [[.v e, .v ag, .N, .N, .V f.1, .V g.1]], U2 e k.2.2, U4 ag F.2.2.1]) ⟨nS, I2⟩ ⟨I, J⟩ (pk N5) ?_
 rintro F c5 s ob ⟨ag, rfl, rfl⟩ h bn
 refine Ac fun c6 bo => Ai I (Av h I ?_ ?_)
 intro bp h
 refine qI ?_
 subst bo
 refine qJ (qH ?_)
 obtain ⟨bq, br, h⟩ := Ad h
 obtain ⟨c7, bs, h⟩ := Ad h
 refine Dt 4 I fun bu => Bv (sl 9 0 (.act 9 (.act 10 (.act 11 (.still 12 (.drop 13 .nil)))))) [2] [_] I (Cf 5 [.o 1 0, .o 4 0] I J2 (qV I (Ds I I I bu) I (A9 3 I (qG [0] I I I (A7 [0] (T9 a _ _ _ _ _ br) ?_)))))
 refine qG [] I I I (qO 7 (([bq.1] : List Sg).map Au) (qG [4] I I I (qU 4 I bs fun aw => A9 1 I (rC 4 I fun bv => qX [2] I I I (qT 2 0 1 (es' := [[.v e, .v aw, .N, .N, .V f.1, .V g.1]]) I I I I I I (Bz bv) I (Be I) I I (Ar (qE (qD (Af 3 I ?_)))))))))
 cases io h
 exact qE ⟨_, _, _, I, ⟨aw, I2⟩, J5, pk N5⟩
 intro bp h
 obtain rfl := bn _ (oi h).symm
 have h := bm
 exact qM (lg ⟨(F.1, F.2.1, F.2.2.1), ag, h, I2⟩ N5)
 rintro s ob ⟨Z, af, h, rfl, rfl⟩
 unfold Vr.J2 at h
 refine Ak (fun s ob => ∃ (y : Li × Int × (List Sg)) (t : Value), Vr.J3 f g k y = some r ∧ s = [] ∧ ob = [O2 a [[Q0 y.1, .V y.2.1]], O0 A [W3], O0 B [[.v e, .v t, .N, .N, .V f.1, .V g.1]], U2 e k.2.2, U4 t y.2.2]) (K4 0 2 3 5) J4 ?_ ?_
 refine Ac fun c8 bw => ?_
 obtain ⟨c9, bx, h⟩ := Ad h
 refine qD (Af 1 I (qF [0] I (A7 [0] (Ch a _ _ _ bx) ?_)))
 refine Af 1 I (qE ?_)
 subst bw
 refine qH ?_
 obtain ⟨da, bz, b1⟩ := Ad h
 refine Dm bz (K4 0 2 3 5) J4 (fun (G : Li × Int × (List Sg) × Int) s ob => ∃ (ah : Value), s = [(7, .V G.2.2.2)] ∧ ob = [O2 a [[Q0 G.1, .V G.2.1]], O0 A [W3], O0 B [[.v e, .v ah, .N, .N, .V f.1, .V g.1]], U2 e k.2.2, U4 ah G.2.2.1]) ⟨af, I2⟩ ⟨I, J⟩ (pk N5) ?_
 rintro G db s ob ⟨ah, rfl, rfl⟩ h b3
 refine Ac fun dc b4 => Ai I (Av h I ?_ ?_)
 intro b5 h
 refine qI ?_
 subst b4
 refine qJ (qH (Ac fun dd b6 => ?_))
 obtain ⟨de, b7, h⟩ := Ad h
 refine qD (Af 2 I (qF [0] I (A7 [0] (Ch a _ _ _ b7) ?_)))
 refine Af 1 I (qE ?_)
 subst b6
 obtain ⟨df, b8, h⟩ := Ad h
 obtain ⟨b9, ca, h⟩ := Ad h
 obtain ⟨dg, cb, h⟩ := Ad h
 refine Dt 4 I fun cc => Bv (sl 11 0 (.act 11 (.act 12 (.act 13 (.act 14 (.still 15 (.drop 16 .nil))))))) [2] [_] I (Cf 5 [.o 1 0, .o 4 0] I J2 (qV I (Ds I I I cc) I (A9 5 I (qG [0] I I I (A7 [0] (E3 a _ _ _ _ b8) ?_)))))
 refine qG [0] I I I (A7 [0] (T9 a _ _ _ _ _ ca) ?_)
 refine qG [] I I I (qO 7 (([b9.1] : List Sg).map Au) (qG [4] I I I (qU 4 I cb fun ax => A9 1 I (rC 4 I fun cd => qX [2] I I I (qT 2 0 1 (es' := [[.v e, .v ax, .N, .N, .V f.1, .V g.1]]) I I I I I I (Bz cd) I (Be I) I I (Ar (qE (qD (Af 3 I ?_)))))))))
 cases io h
 exact qE ⟨_, _, _, I, ⟨ax, I2⟩, J5, pk N5⟩
 intro b5 h
 obtain rfl := b3 _ (oi h).symm
 have h := b1
 exact qM (lg ⟨(G.1, G.2.1, G.2.2.1), ah, h, I2⟩ N5)
 rintro s ob ⟨y, t, h, rfl, rfl⟩
 unfold Vr.J3 at h
 refine Ak (fun s ob => ∃ (u : Li × Int × (List Port) × (List Sn)) (R : Value) (S : Value), Vr.J4 f g k y u = some r ∧ s = [] ∧ ob = [O2 a [[Q0 u.1, .V u.2.1]], O0 A [W3], O0 B [[.v e, .v t, .v R, .v S, .V f.1, .V g.1]], U2 e k.2.2, U4 t y.2.2, U5 R u.2.2.1, U6 S u.2.2.2]) (K2 2 3) J2 ?_ ?_
 refine Ai I (qH (qL (Ay 82 3) (qL (Ay 95 5) ?_)))
 obtain ⟨dh, ce, cf⟩ := Ad h
 refine Dm ce (K4 0 2 3 5) J4 (fun (b : Li × Int × (List Port) × (List Sn) × Int) s ob => ∃ (O : Value) (D : Value), s = [(9, .V b.2.2.2.2)] ∧ ob = [O2 a [[Q0 b.1, .V b.2.1]], O0 A [W3], O0 B [[.v e, .v t, .v O, .v D, .V f.1, .V g.1]], U2 e k.2.2, U4 t y.2.2, U5 O b.2.2.1, U6 D b.2.2.2.1]) ⟨nS, nS, I2⟩ ⟨I, J⟩ (pk N7) ?_
 rintro b ai s ob ⟨O, D, rfl, rfl⟩ h ci
 refine Ac fun di cj => Ai I (Av h I ?_ ?_)
 intro ck h
 refine qI ?_
 subst cj
 refine Ak (fun s ob => ∃ (U : Li × Int × (List Port) × (List Sn)) (aj : Value) (ak : Value), Vr.J6 b U = some ai ∧ s = [] ∧ ob = [O2 a [[Q0 U.1, .V U.2.1]], O0 A [W3], O0 B [[.v e, .v t, .v aj, .v ak, .V f.1, .V g.1]], U2 e k.2.2, U4 t y.2.2, U5 aj U.2.2.1, U6 ak U.2.2.2]) (K5 0 2 3 5 9) J5 ?_ ?_
 refine qH (Ak (fun s ob => ∃ (E : Li × Int × (List Port)) (H : Value), Vr.J7 k b E = some ai ∧ s = [] ∧ ob = [O2 a [[Q0 E.1, .V E.2.1]], O0 A [W3], O0 B [[.v e, .v t, .v H, .v D, .V f.1, .V g.1]], U2 e k.2.2, U4 t y.2.2, U5 H E.2.2, U6 D b.2.2.2.1]) (K5 0 2 3 5 9) J5 ?_ ?_)
 refine Ak (fun s ob => ∃ (P : Li × Int × Bool), Vr.J9 k b P = some ai ∧ s = [(95, .v (.bool P.2.2))] ∧ ob = [O2 a [[Q0 P.1, .V P.2.1]], O0 A [W3], O0 B [[.v e, .v t, .v O, .v D, .V f.1, .V g.1]], U2 e k.2.2, U4 t y.2.2, U5 O b.2.2.1, U6 D b.2.2.2.1]) (K5 0 2 3 5 9) J5 ?_ ?_
 rcases bt ((b.2.2.2.2 == 0)) with W | W
 have h := Cb W h
 exact qD (Af 3 I (Ah 86 I W (Af 9 I (qE (lg ⟨(b.1, b.2.1, true), h, I2⟩ N7)))))
 have h := Cc W h
 rcases bt ((b.2.2.2.2 == (wr ((k.2.2.length : Int) - 1)))) with aa | aa
 have h := Cb aa h
 exact qD (Af 3 I (Ah 86 I W (Af 5 I (Ah 91 I aa (Af 4 I (qE (lg ⟨(b.1, b.2.1, true), h, I2⟩ N7)))))))
 have h := Cc aa h
 obtain ⟨ao, cl, h⟩ := Ad h
 refine qD (Af 3 I (Ah 86 I W (Af 5 I (Ah 91 I aa (Af 1 I (Bj I I I (qF [0] I (A7 [0] (Ch a _ _ _ cl) ?_))))))))
 exact Af 2 I (qE (lg ⟨(ao.2.L_, ao.2.At, (ao.1 == 0)), h, I2⟩ N7))
 rintro s ob ⟨P, h, rfl, rfl⟩
 refine Av h I ?_ ?_
 intro cm h
 obtain ⟨al, ay, h⟩ := Ad h
 obtain ⟨M, az, h⟩ := Ad h
 obtain ⟨a0, a1, h⟩ := Ad h
 refine Dt 5 I fun cn => Bv (sl 5 0 (.still 6 (.still 7 (.two 5 8 (.act 8 nD) (.act 5 nD))))) [2] [_] I (Cf 4 [.o 1 0, .o 3 0] I J2 (qV I (Ds I I I cn) I (A9 2 I (qW ?_ ?_))))
 refine rD I (C4 _ _ _ ay) (qG [] I I I (qO 1 (([300000, 1000000, 0, 5000000] : Li).map rI) (qG [0] I I I (A7 [0] (An a _ _ _ az) ?_))))
 exact AP.p I (Bi (l := [.v (.string al), .V b.2.2.2.2, .V M.1]) Hb I) I (qG [] I I I (qO 3 (([(⟨al, b.2.2.2.2, M.1⟩ : Port)] : List Port).map Bn) (qG [5] I I I (qU 5 I a1 fun ab => A9 1 I (rC 5 I fun aq => qX [2] I I I (qT 2 0 2 (es' := [[.v e, .v t, .v ab, .v D, .V f.1, .V g.1]]) I I I I I I (Bz aq) I (Be I) I I (Ar (qE (lg ⟨(M.2.L_, M.2.At, a0), ab, h, I2⟩ N7)))))))))
 refine qG [] I I I (qO 1 (([300000, 1000000, 0, 5000000] : Li).map rI) (rD I (C4 _ _ _ ay) (qG [0] I I I (A7 [0] (An a _ _ _ az) ?_))))
 exact AP.p I (Bi (l := [.v (.string al), .V b.2.2.2.2, .V M.1]) Hb I) I (qG [] I I I (qO 3 (([(⟨al, b.2.2.2.2, M.1⟩ : Port)] : List Port).map Bn) (qG [5] I I I (qU 5 I a1 fun ab => A9 1 I (rC 5 I fun aq => qX [2] I I I (qT 2 0 2 (es' := [[.v e, .v t, .v ab, .v D, .V f.1, .V g.1]]) I I I I I I (Bz aq) I (Be I) I I (Ar (qE (lg ⟨(M.2.L_, M.2.At, a0), ab, h, I2⟩ N7)))))))))
 intro cm h
 exact qI (lg ⟨(P.1, P.2.1, b.2.2.1), O, h, I2⟩ N7)
 rintro s ob ⟨E, H, h, rfl, rfl⟩
 unfold Vr.J7 at h
 refine Ak (fun s ob => ∃ (Q : Li × Int × Bool), Vr.J8 b E Q = some ai ∧ s = [(117, .v (.bool Q.2.2))] ∧ ob = [O2 a [[Q0 Q.1, .V Q.2.1]], O0 A [W3], O0 B [[.v e, .v t, .v H, .v D, .V f.1, .V g.1]], U2 e k.2.2, U4 t y.2.2, U5 H E.2.2, U6 D b.2.2.2.1]) (K5 0 2 3 5 9) J5 ?_ ?_
 rcases bt (decide (b.2.2.2.2 < (wr ((k.2.2.length : Int) - 1)))) with ac | ac
 have h := Cb ac h
 obtain ⟨ar, co, h⟩ := Ad h
 refine qD (Af 4 I (Ah 113 I ac (Af 1 I (Bj I I I (qF [0] I (A7 [0] (Ch a _ _ _ co) ?_))))))
 exact Af 2 I (qE (lg ⟨(ar.2.L_, ar.2.At, (ar.1 == 0)), h, I2⟩ N7))
 have h := Cc ac h
 exact qD (Af 4 I (Ah 113 I ac (Af 4 I (qE (lg ⟨(E.1, E.2.1, false), h, I2⟩ N7)))))
 rintro s ob ⟨Q, h, rfl, rfl⟩
 refine Av h I ?_ ?_
 intro cp h
 obtain ⟨a2, w, h⟩ := Ad h
 obtain ⟨X, n, h⟩ := Ad h
 obtain ⟨Y, i, h⟩ := Ad h
 obtain ⟨am, j, h⟩ := Ad h
 obtain ⟨cq, cr, h⟩ := Ad h
 refine Dt 6 I fun ct => Bv (sl 5 0 (.still 6 (.still 7 (.still 10 (.still 13 (.four 5 8 11 14 (.parS [(8, []), (9, [8]), (11, []), (12, [8, 9, 11]), (14, [])] [[], [8], [11], [14], [8, 9], [8, 11], [8, 14], [11, 14], [8, 9, 11], [8, 9, 14], [8, 11, 14], [8, 9, 11, 12], [8, 9, 11, 14], [8, 9, 11, 12, 14]] Ta) (.three 5 11 14 (.parS [(9, []), (11, []), (12, [9, 11]), (14, [])] [[], [9], [11], [14], [9, 11], [9, 14], [11, 14], [9, 11, 12], [9, 11, 14], [9, 11, 12, 14]] Ta) (.two 5 14 fK S9) (.two 5 11 fJ S9)) (.three 5 8 14 (.two 8 14 fK (.act 8 Pz)) (.two 5 14 fK S9) (.two 5 8 (.act 8 Pz) S9)) (.three 5 8 11 (.two 8 11 fJ (.act 8 Pz)) (.two 5 11 fJ S9) (.two 5 8 (.act 8 Pz) S9)))))))) [2] [_] I ?_
 refine Cf 4 [.o 1 0, .o 3 0] I J2 (qV I (Ds I I I ct) I (A9 4 I (AP.four ?_ ?_ ?_ ?_)))
 refine rD I (C4 _ _ _ w) (gK [⟨8, [], 126, .list 1 (([500000, 2000000, 0] : Li).map rI), [], []⟩, ⟨9, [8], 127, .V X.1, [0], [O2 a [Bs X.2]]⟩, ⟨11, [], 129, .list 1 (([0, 200, 100000] : Li).map rI), [], []⟩, ⟨12, [8, 9, 11], 130, .V Y.1, [0], [O2 a [Bs Y.2]]⟩, ⟨14, [], 132, .list 1 (([0, 100000, 400000] : Li).map rI), [], []⟩] I ⟨⟨_, I, I, I, fun _ _ => qO 1 (([500000, 2000000, 0] : Li).map rI) I2⟩, ⟨_, I, I, I, fun _ h => by cases h; exact E8 [0] (An a _ _ _ n) (by rintro _ _ _ - ⟨rfl, rfl, rfl⟩; exact ⟨rfl, rfl⟩)⟩, ⟨_, I, I, I, fun _ _ => qO 1 (([0, 200, 100000] : Li).map rI) I2⟩, ⟨_, I, I, I, fun _ h => by cases h; exact E8 [0] (An a _ _ _ i) (by rintro _ _ _ - ⟨rfl, rfl, rfl⟩; exact ⟨rfl, rfl⟩)⟩, ⟨_, I, I, I, fun _ _ => qO 1 (([0, 100000, 400000] : Li).map rI) I2⟩, J⟩ (qG [0] I I I (A7 [0] (An a _ _ _ j) ?_)))
 rotate_left
 refine qG [] I I I (qO 1 (([500000, 2000000, 0] : Li).map rI) (AP.three ?_ ?_ ?_))
 refine rD I (C4 _ _ _ w) (gK [⟨9, [], 127, .V X.1, [0], [O2 a [Bs X.2]]⟩, ⟨11, [], 129, .list 1 (([0, 200, 100000] : Li).map rI), [], []⟩, ⟨12, [9, 11], 130, .V Y.1, [0], [O2 a [Bs Y.2]]⟩, ⟨14, [], 132, .list 1 (([0, 100000, 400000] : Li).map rI), [], []⟩] I ⟨⟨_, I, I, I, fun _ h => by cases h; exact E8 [0] (An a _ _ _ n) (by rintro _ _ _ - ⟨rfl, rfl, rfl⟩; exact ⟨rfl, rfl⟩)⟩, ⟨_, I, I, I, fun _ _ => qO 1 (([0, 200, 100000] : Li).map rI) I2⟩, ⟨_, I, I, I, fun _ h => by cases h; exact E8 [0] (An a _ _ _ i) (by rintro _ _ _ - ⟨rfl, rfl, rfl⟩; exact ⟨rfl, rfl⟩)⟩, ⟨_, I, I, I, fun _ _ => qO 1 (([0, 100000, 400000] : Li).map rI) I2⟩, J⟩ (qG [0] I I I (A7 [0] (An a _ _ _ j) ?_)))
 rotate_left
 refine qG [] I I I (qO 1 (([0, 200, 100000] : Li).map rI) (qW ?_ ?_))
 refine rD I (C4 _ _ _ w) (qW ?_ ?_)
 refine qG [0] I I I (A7 [0] (An a _ _ _ n) ?_)
 refine qW ?_ ?_
 refine qG [0] I I I (A7 [0] (An a _ _ _ i) ?_)
 refine qG [] I I I (qO 1 (([0, 100000, 400000] : Li).map rI) (qG [0] I I I (A7 [0] (An a _ _ _ j) ?_)))
 rotate_left
 refine qG [] I I I (qO 1 (([0, 100000, 400000] : Li).map rI) (qG [0] I I I (A7 [0] (An a _ _ _ i) ?_)))
 refine qG [0] I I I (A7 [0] (An a _ _ _ j) ?_)
 rotate_left
 refine qG [] I I I (qO 1 (([0, 100000, 400000] : Li).map rI) (qG [0] I I I (A7 [0] (An a _ _ _ n) ?_)))
 refine qG [0] I I I (A7 [0] (An a _ _ _ i) ?_)
 refine qG [0] I I I (A7 [0] (An a _ _ _ j) ?_)
 rotate_left
 refine qG [] I I I (qO 1 (([0, 100000, 400000] : Li).map rI) (rD I (C4 _ _ _ w) (qG [0] I I I (A7 [0] (An a _ _ _ n) ?_))))
 refine qG [0] I I I (A7 [0] (An a _ _ _ i) ?_)
 refine qG [0] I I I (A7 [0] (An a _ _ _ j) ?_)
 rotate_left
 refine qG [] I I I (qO 1 (([0, 100000, 400000] : Li).map rI) (qW ?_ ?_))
 refine rD I (C4 _ _ _ w) (qW ?_ ?_)
 refine qG [0] I I I (A7 [0] (An a _ _ _ n) ?_)
 refine qG [] I I I (qO 1 (([0, 200, 100000] : Li).map rI) (qG [0] I I I (A7 [0] (An a _ _ _ i) ?_)))
 refine qG [0] I I I (A7 [0] (An a _ _ _ j) ?_)
 rotate_left
 refine qG [] I I I (qO 1 (([0, 200, 100000] : Li).map rI) (qG [0] I I I (A7 [0] (An a _ _ _ n) ?_)))
 refine qG [0] I I I (A7 [0] (An a _ _ _ i) ?_)
 refine qG [0] I I I (A7 [0] (An a _ _ _ j) ?_)
 rotate_left
 refine qG [] I I I (qO 1 (([0, 200, 100000] : Li).map rI) (rD I (C4 _ _ _ w) (qG [0] I I I (A7 [0] (An a _ _ _ n) ?_))))
 refine qG [0] I I I (A7 [0] (An a _ _ _ i) ?_)
 refine qG [0] I I I (A7 [0] (An a _ _ _ j) ?_)
 rotate_left
 refine qG [] I I I (qO 1 (([0, 200, 100000] : Li).map rI) (AP.three ?_ ?_ ?_))
 refine rD I (C4 _ _ _ w) (qW ?_ ?_)
 refine qG [] I I I (qO 1 (([500000, 2000000, 0] : Li).map rI) (qW ?_ ?_))
 refine qG [0] I I I (A7 [0] (An a _ _ _ n) ?_)
 refine qW ?_ ?_
 refine qG [0] I I I (A7 [0] (An a _ _ _ i) ?_)
 refine qG [] I I I (qO 1 (([0, 100000, 400000] : Li).map rI) (qG [0] I I I (A7 [0] (An a _ _ _ j) ?_)))
 rotate_left
 refine qG [] I I I (qO 1 (([0, 100000, 400000] : Li).map rI) (qG [0] I I I (A7 [0] (An a _ _ _ i) ?_)))
 refine qG [0] I I I (A7 [0] (An a _ _ _ j) ?_)
 rotate_left
 refine qG [] I I I (qO 1 (([0, 100000, 400000] : Li).map rI) (qG [0] I I I (A7 [0] (An a _ _ _ n) ?_)))
 refine qG [0] I I I (A7 [0] (An a _ _ _ i) ?_)
 refine qG [0] I I I (A7 [0] (An a _ _ _ j) ?_)
 rotate_left
 refine qG [] I I I (qO 1 (([0, 100000, 400000] : Li).map rI) (qG [] I I I (qO 1 (([500000, 2000000, 0] : Li).map rI) (qG [0] I I I (A7 [0] (An a _ _ _ n) ?_)))))
 refine qG [0] I I I (A7 [0] (An a _ _ _ i) ?_)
 refine qG [0] I I I (A7 [0] (An a _ _ _ j) ?_)
 rotate_left
 refine qG [] I I I (qO 1 (([500000, 2000000, 0] : Li).map rI) (qW ?_ ?_))
 refine rD I (C4 _ _ _ w) (qW ?_ ?_)
 refine qG [0] I I I (A7 [0] (An a _ _ _ n) ?_)
 refine qW ?_ ?_
 refine qG [0] I I I (A7 [0] (An a _ _ _ i) ?_)
 refine qG [] I I I (qO 1 (([0, 100000, 400000] : Li).map rI) (qG [0] I I I (A7 [0] (An a _ _ _ j) ?_)))
 rotate_left
 refine qG [] I I I (qO 1 (([0, 100000, 400000] : Li).map rI) (qG [0] I I I (A7 [0] (An a _ _ _ i) ?_)))
 refine qG [0] I I I (A7 [0] (An a _ _ _ j) ?_)
 rotate_left
 refine qG [] I I I (qO 1 (([0, 100000, 400000] : Li).map rI) (qG [0] I I I (A7 [0] (An a _ _ _ n) ?_)))
 refine qG [0] I I I (A7 [0] (An a _ _ _ i) ?_)
 refine qG [0] I I I (A7 [0] (An a _ _ _ j) ?_)
 rotate_left
 refine qG [] I I I (qO 1 (([0, 100000, 400000] : Li).map rI) (rD I (C4 _ _ _ w) (qG [0] I I I (A7 [0] (An a _ _ _ n) ?_))))
 refine qG [0] I I I (A7 [0] (An a _ _ _ i) ?_)
 refine qG [0] I I I (A7 [0] (An a _ _ _ j) ?_)
 rotate_left
 refine qG [] I I I (qO 1 (([0, 100000, 400000] : Li).map rI) (qW ?_ ?_))
 refine rD I (C4 _ _ _ w) (qG [] I I I (qO 1 (([500000, 2000000, 0] : Li).map rI) (qG [0] I I I (A7 [0] (An a _ _ _ n) ?_))))
 refine qG [0] I I I (A7 [0] (An a _ _ _ i) ?_)
 refine qG [0] I I I (A7 [0] (An a _ _ _ j) ?_)
 rotate_left
 refine qG [] I I I (qO 1 (([500000, 2000000, 0] : Li).map rI) (rD I (C4 _ _ _ w) (qG [0] I I I (A7 [0] (An a _ _ _ n) ?_))))
 refine qG [0] I I I (A7 [0] (An a _ _ _ i) ?_)
 refine qG [0] I I I (A7 [0] (An a _ _ _ j) ?_)
 rotate_left
 refine qG [] I I I (qO 1 (([0, 100000, 400000] : Li).map rI) (AP.three ?_ ?_ ?_))
 refine rD I (C4 _ _ _ w) (qW ?_ ?_)
 refine qG [] I I I (qO 1 (([500000, 2000000, 0] : Li).map rI) (qW ?_ ?_))
 refine qG [0] I I I (A7 [0] (An a _ _ _ n) ?_)
 refine qG [] I I I (qO 1 (([0, 200, 100000] : Li).map rI) (qG [0] I I I (A7 [0] (An a _ _ _ i) ?_)))
 refine qG [0] I I I (A7 [0] (An a _ _ _ j) ?_)
 rotate_left
 refine qG [] I I I (qO 1 (([0, 200, 100000] : Li).map rI) (qG [0] I I I (A7 [0] (An a _ _ _ n) ?_)))
 refine qG [0] I I I (A7 [0] (An a _ _ _ i) ?_)
 refine qG [0] I I I (A7 [0] (An a _ _ _ j) ?_)
 rotate_left
 refine qG [] I I I (qO 1 (([0, 200, 100000] : Li).map rI) (qG [] I I I (qO 1 (([500000, 2000000, 0] : Li).map rI) (qG [0] I I I (A7 [0] (An a _ _ _ n) ?_)))))
 refine qG [0] I I I (A7 [0] (An a _ _ _ i) ?_)
 refine qG [0] I I I (A7 [0] (An a _ _ _ j) ?_)
 rotate_left
 refine qG [] I I I (qO 1 (([500000, 2000000, 0] : Li).map rI) (qW ?_ ?_))
 refine rD I (C4 _ _ _ w) (qW ?_ ?_)
 refine qG [0] I I I (A7 [0] (An a _ _ _ n) ?_)
 refine qG [] I I I (qO 1 (([0, 200, 100000] : Li).map rI) (qG [0] I I I (A7 [0] (An a _ _ _ i) ?_)))
 refine qG [0] I I I (A7 [0] (An a _ _ _ j) ?_)
 rotate_left
 refine qG [] I I I (qO 1 (([0, 200, 100000] : Li).map rI) (qG [0] I I I (A7 [0] (An a _ _ _ n) ?_)))
 refine qG [0] I I I (A7 [0] (An a _ _ _ i) ?_)
 refine qG [0] I I I (A7 [0] (An a _ _ _ j) ?_)
 rotate_left
 refine qG [] I I I (qO 1 (([0, 200, 100000] : Li).map rI) (rD I (C4 _ _ _ w) (qG [0] I I I (A7 [0] (An a _ _ _ n) ?_))))
 refine qG [0] I I I (A7 [0] (An a _ _ _ i) ?_)
 refine qG [0] I I I (A7 [0] (An a _ _ _ j) ?_)
 rotate_left
 refine qG [] I I I (qO 1 (([0, 200, 100000] : Li).map rI) (qW ?_ ?_))
 refine rD I (C4 _ _ _ w) (qG [] I I I (qO 1 (([500000, 2000000, 0] : Li).map rI) (qG [0] I I I (A7 [0] (An a _ _ _ n) ?_))))
 refine qG [0] I I I (A7 [0] (An a _ _ _ i) ?_)
 refine qG [0] I I I (A7 [0] (An a _ _ _ j) ?_)
 rotate_left
 refine qG [] I I I (qO 1 (([500000, 2000000, 0] : Li).map rI) (rD I (C4 _ _ _ w) (qG [0] I I I (A7 [0] (An a _ _ _ n) ?_))))
 refine qG [0] I I I (A7 [0] (An a _ _ _ i) ?_)
 refine qG [0] I I I (A7 [0] (An a _ _ _ j) ?_)
 any_goals
  refine AP.p I (Bi (l := [.v (.string a2), .V b.2.2.2.2, .V X.1, .V Y.1, .V am.1]) Zi I) I (qG [] I I I (qO 5 (([(⟨a2, b.2.2.2.2, X.1, Y.1, am.1⟩ : Sn)] : List Sn).map Br) (qG [6] I I I (qU 6 I cr fun a3 => A9 1 I (rC 6 I fun cu => qX [2] I I I (qT 2 0 3 (es' := [[.v e, .v t, .v H, .v a3, .V f.1, .V g.1]]) I I I I I I (Bz cu) I (Be I) I I (Ar (qE ?_))))))))
  exact lg ⟨(am.2.L_, am.2.At, E.2.2, cq), H, a3, h, I2⟩ N7
 intro cp h
 exact qI (lg ⟨(Q.1, Q.2.1, E.2.2, b.2.2.2.1), H, D, h, I2⟩ N7)
 rintro s ob ⟨U, aj, ak, h, rfl, rfl⟩
 unfold Vr.J6 at h
 refine qD (Af 3 I ?_)
 cases io h
 exact qE ⟨_, _, _, I, ⟨aj, ak, I2⟩, J5, pk N7⟩
 intro ck h
 obtain rfl := ci _ (oi h).symm
 have h := cf
 exact qM (lg ⟨(b.1, b.2.1, b.2.2.1, b.2.2.2.1), O, D, h, I2⟩ N7)
 rintro s ob ⟨u, R, S, h, rfl, rfl⟩
 refine qJ (qD (Ao 1 [.o 0 2] I J1 (qF [1] I (By 1 0 0 [[.v e, .v t, .v R, .v S, .V f.1, .V g.1]] I (qE (qL (As [3, 4, 5, 6] (K := [U2 e k.2.2, U4 t y.2.2, U5 R u.2.2.1, U6 S u.2.2.2]) I [] J (ob' := [O2 a [[Q0 u.1, .V u.2.1]], O0 A [[Q1 k.2.2, Q4 y.2.2, Q5 u.2.2.1, Q6 u.2.2.2, .V f.1, .V g.1]], O0 B [[.v e, .v t, .v R, .v S, .V f.1, .V g.1]]]) (.cons (.same _) (.cons (.arr (.cons (.us 0 I) (.cons (.us 1 I) (.cons (.us 2 I) (.cons (.us 3 I) (.rest _)))))) (.rest _)))) (Dd [0, 1] I ?_)))))))
 obtain rfl := oi h
 exact qK ⟨.inr I, [_], [O2 a [[Q0 u.1, .V u.2.1]]], ⟨⟨1, _, _, _, _, _, _, _, I5⟩, J⟩, Ca I (Cv), ⟨[O2 a [[Q0 u.1, .V u.2.1]]], [], I5⟩⟩
end Go.Proofs.YtaoclefkknloiaaGreat
