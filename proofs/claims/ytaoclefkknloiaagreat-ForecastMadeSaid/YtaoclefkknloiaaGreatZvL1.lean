/- Walks that show what functions of the program compute; printed by a program of ours. No condition. -/
import Derived.Test.YtaoclefkknloiaaGreatZvL0
import Derived.Test.YtaoclefkknloiaaGreatZvD
set_option maxRecDepth 100000
namespace Go.Proofs.YtaoclefkknloiaaGreat
open Go.Aw
set_option linter.unusedVariables false
set_option linter.unusedSimpArgs false
set_option maxHeartbeats 4000000
theorem iR (e : Nat) (O : KS) (P : Int) (D : Int) (r : (List Piece) × KS) (h : Rt O P D = some r) : ACalls Ak 11 [.P e, .V P, .V D] [O2 e [Bi O]] (E8 1 fun x os new => ∃ (Q : Value), x = .v Q ∧ os = [O2 e [Bi r.2]] ∧ new = [U1 Q r.1]) := by
 refine Ag Tryz.func11 I I I fun C hC => ?_
 unfold Rt at h
 refine Ai I (Ai I (Aj (fun s ob => ∃ (g : Li × Int × (List Piece)) (u : Value), Rt.J1 g = some r ∧ s = [(7, .v u)] ∧ ob = [O2 e [[Q0 g.1, .V g.2.1]], U1 u g.2.2]) [] J ?_ ?_))
 refine uB (uF (Az 69 2) ?_)
 obtain ⟨ax, R, S⟩ := Ac h
 refine Ci R (K2 0 2) J2 (fun (a : Li × Int × Int × (List Piece)) s ob => ∃ (t : Value), s = [(1, .V a.2.2.1), (7, .v t)] ∧ ob = [O2 e [[Q0 a.1, .V a.2.1]], U1 t a.2.2.2]) ⟨nS, I2⟩ ⟨I, I, J⟩ (pk [0, 1]) ?_
 rintro a G s ob ⟨t, rfl, rfl⟩ h U
 unfold Rt.B2 at h
 refine Ab fun ay W => Ea 15 (decide (a.2.2.1 > 0) && decide ((a.2.2.2.length : Int) < 12)) ?_ ?_
 refine tX (Af 3 I ?_)
 rcases bt (decide (a.2.2.1 > 0)) with w | w
 exact Ah 11 I w (Af 1 I (Bx I I I (uI (Bp 1 I I I I) I (Af 2 I (tY (jf (by simp only [w, bz]) I I I2))))))
 exact Ah 11 I w (Af 4 I (tY (jf (by simp only [w, bz]) I I I2)))
 refine Ao h I ?_ ?_
 intro X h
 refine uA ?_
 subst W
 refine uB (Ab fun az Y => ?_)
 obtain ⟨j, Z, h⟩ := Ac h
 obtain ⟨k, aa, h⟩ := Ac h
 refine tX (Af 2 I (tZ [0] I (A0 [0] (Bm e _ _ _ Z) ?_)))
 refine Am 5 [.f 3 (.V (wr ((wr (a.2.2.1 * 2)).tdiv 3)))] I ⟨uS (Ga (c := wr ((wr (a.2.2.1 * 2)).tdiv 3)) I I ⟨by decide, I⟩), J⟩ (tZ [0] I (A0 [0] (E7 e _ _ _ _ aa) ?_))
 refine uK (Bl (l := [.V j.1, .V k.1]) D9 I) I (tZ [] I (Bs [.V 0, .V 0] 2 fun H => tZ [2] I (Bj 2 0 0 [[.V j.1, .V k.1]] I (tY ?_))))
 subst Y
 refine Aj (fun s ob => ∃ (i : Int), Rt.J3 D a j k i = some G ∧ s = [] ∧ ob = [O2 e [Bi k.2], U1 t a.2.2.2, O8 H [[.V j.1, .V i]]]) (K5 0 1 2 7 8) J5 ?_ ?_
 refine uD (tX (Af 1 I (uI (Bp 1 I I I I) I (Af 1 I (tY (Ao h I ?_ ?_))))))
 intro ab h
 exact tX (Af 2 I (tZ [2] I (Bj 2 0 1 [[.V j.1, .V a.2.2.1]] I (tY (lg ⟨a.2.2.1, h, I2⟩ N3)))))
 intro ab h
 exact uA (lg ⟨k.1, h, I2⟩ N3)
 rintro s ob ⟨i, h, rfl, rfl⟩
 unfold Rt.J3 at h
 refine Ab fun a0 ac => tX (Am 5 [.o 1 2] I J1 (tZ [2] I (Bj 2 0 1 [[.V j.1, .V (min i a.2.2.1)]] I (tY ?_))))
 subst ac
 refine Aj (fun s ob => ∃ (E : Int), Rt.J4 a k i E = some G ∧ s = [(1, .V a.2.2.1)] ∧ ob = [O2 e [Bi k.2], U1 t a.2.2.2, O8 H [[.V E, .V (min i a.2.2.1)]]]) (K4 0 2 7 8) J4 ?_ ?_
 refine Aj (fun s ob => ∃ (K : Bool), Rt.J5 D a j k i K = some G ∧ s = [(50, .v (.bool K))] ∧ ob = [O2 e [Bi k.2], U1 t a.2.2.2, O8 H [[.V j.1, .V (min i a.2.2.1)]]]) (K5 0 1 2 7 8) J5 ?_ ?_
 rcases bt (decide ((a.2.2.2.length : Int) > 0)) with A | A
 have h := Cc A h
 obtain ⟨B, ⟨ad, M⟩, h⟩ := A5 h
 refine Cu 1 I fun ae => Cu 1 I fun af => Bz 1 B.1 I M fun ag => Bk (pd 15 0 []) [1, 2] [_, _] I (A3 1 I (uN I (Ct I I I ae) I (A3 2 I (A9 39 I A (A3 2 I (Dd I I I I ((Ct I I I af).yd) dS (A3 1 I (Dd I I I I ((Av (m := B.1) I I I I I ag I ad M).yd) dS (A3 1 I ?_)))))))))
 exact Dd I I I I (Ay 0 B.1 0 I I I (Ae M) I (y := .V B.2.Batch) I) dS (Bv 4 [.o 1 1] I J1 (Ap (tY (lg ⟨(B.2.Batch == j.1), h, I2⟩ N3))))
 have h := Cd A h
 exact Cu 1 I fun ah => Bk (pd 15 0 []) [] [] I (A3 1 I (uN I (Ct I I I ah) I (A3 2 I (A9 39 I A (A3 11 I (Ap (tY (lg ⟨false, h, I2⟩ N3))))))))
 rintro s ob ⟨K, h, rfl, rfl⟩
 refine Ao h I ?_ ?_
 intro ai h
 refine Ab fun a1 aj => ?_
 obtain ⟨F, ak, h⟩ := Ac h
 refine tX (Am 6 [.o 1 2, .f 4 (.V F)] I ⟨uS (Ga (c := F) I I (Yn ak)), I, J⟩ (tZ [2] I (Bj 2 0 0 [[.V F, .V (min i a.2.2.1)]] I (tY ?_))))
 subst aj
 refine Ab fun a2 al => ?_
 obtain ⟨b, ⟨N, n⟩, h⟩ := A5 h
 refine Cu 1 I fun am => Bz 1 b.1 I n fun an => Bk (pd 10 0 []) [1, 2] [_, _] I (A3 2 I (uN I (Ct I I I am) I (A3 1 I (uN I (Av (m := b.1) I I I I I an I N n) I (A3 1 I (AP.o I (Ay 0 b.1 0 I I I (Ae n) I (y := .V b.2.Batch) I) I (Bv 3 [.o 1 1] I J1 (Ap (tY ?_)))))))))
 subst al
 refine Ao h I ?_ ?_
 intro ao h
 refine uD (Cu 1 I fun aq => Bz 1 b.1 I n fun ar => Bz 1 b.1 I n fun au => Bk (sl 12 0 (.drop 12 .nil)) [1, 2] [_, _] I (A3 2 I (uN I (Ct I I I aq) I (A3 1 I (uN I (Av (m := b.1) I I I I I ar I N n) I (A3 1 I (AP.o I (Ay 0 b.1 1 I I I (Ae n) I (y := .V b.2.Volume) I) I (Bv 3 [.o 1 1] I J1 (uN I (Av (m := b.1) I I I I I au I N n) I ?_)))))))))
 refine A3 1 I (uR [1] I I I (Bd 1 b.1 1 I I I (Ae n) I I I I (Ba I) I (Ce (x := (⟨b.2.Batch, wr (b.2.Volume + (min i a.2.2.1))⟩ : Piece)) I) (Ap (tY (Bg [.o 2 2] I J1 ?_)))))
 cases io h
 refine uG ?_
 exact ⟨_, _, _, I, ⟨t, I2⟩, J4, pk [0, 1]⟩
 intro ao h
 exact uA (lg ⟨F, h, I2⟩ N3)
 intro ai h
 exact uA (lg ⟨j.1, h, I2⟩ N3)
 rintro s ob ⟨E, h, rfl, rfl⟩
 refine Bg [.o 2 2] I J1 ?_
 obtain ⟨a3, av, h⟩ := Ac h
 refine tX (Am 2 [.o 1 2] I J1 (tZ [] I (uH 2 (([(⟨E, (min i a.2.2.1)⟩ : Piece)] : List Piece).map Aa) (tZ [1] I (uO 1 I av fun aw => Af 1 I ?_)))))
 cases io h
 exact tY ⟨_, _, _, I, ⟨aw, I2⟩, J4, pk [0, 1]⟩
 intro X h
 obtain rfl := U _ (oi h).symm
 have h := S
 exact uG (lg ⟨(a.1, a.2.1, a.2.2.2), t, h, I2⟩ [0, 1])
 rintro s ob ⟨g, u, h, rfl, rfl⟩
 refine Ai I ?_
 obtain rfl := oi h
 exact uE ⟨.inr I, [_], [O2 e [[Q0 g.1, .V g.2.1]], U1 u g.2.2], J1, Cb I (Cb I (B0)), ⟨[O2 e [[Q0 g.1, .V g.2.1]]], [U1 u g.2.2], I, I, u, I3⟩⟩
theorem Vx (b : Nat) (n : KS) (f : Nw) (p : Int) (r : (List (List Piece)) × KS) (h : R4 n f p = some r) : ACalls Ak 8 [.P b, .agg (Ad f), .V p] [O2 b [Bi n]] (E8 1 fun x os new => ∃ (t : Value), x = .v t ∧ os = [O2 b [Bi r.2]] ∧ new = [.us t 34 1 (r.1.map (rL 2 Aa))]) := by
 refine Ag Tryz.func8 I I I fun C hC => ?_
 unfold R4 at h
 refine Ab fun R w => tX (tZ [] I (Cf (Ad f) 6 fun S => Af 1 I (tY ?_)))
 subst w
 refine Ai I (Aj (fun s ob => ∃ (a : Li × Int × (List (List Piece))) (d : Value), R4.J1 a = some r ∧ s = [(7, .v d)] ∧ ob = [O2 b [[Q0 a.1, .V a.2.1]], .us d 34 1 (a.2.2.map (rL 2 Aa))]) [] J ?_ ?_)
 refine Bg [.o 1 1, .l 2 (f.Segments.length : Int)] I ⟨A4, I, J⟩ (uB (Cg 11 I fun y => uF (Az 34 1) ?_))
 obtain ⟨U, A, B⟩ := Ac h
 refine Cl A (K4 0 2 11 12) J4 (fun (g : Nat) (c : Li × Int × (List (List Piece))) s ob => ∃ (e : Value), s = [(13, .V (g : Int)), (7, .v e)] ∧ ob = [O2 b [[Q0 c.1, .V c.2.1]], .us e 34 1 (c.2.2.map (rL 2 Aa))]) ⟨nS, I2⟩ ⟨I, I, J⟩ (pk [0, 2]) ?_ ?_
 rintro g j c W s ob D u ⟨e, rfl, rfl⟩ h
 have E := Cr u
 refine Ai I (Ab fun X F => Bq I E (uA ?_))
 subst F
 refine uD (uB (uD (tX (Am 2 [.x 0 g (Ar j)] I ⟨⟨I, Ae D⟩, J⟩ (tZ [] I (Bs W2 7 fun G => tZ [2] I (Bj 2 0 0 [Ar j] I (tY ?_))))))))
 obtain ⟨i, H, h⟩ := Ac h
 obtain ⟨Y, M, h⟩ := Ac h
 refine tX (Am 5 [.o 3 2] I J1 (tZ [0] I (Ex [0] (iR b _ _ _ _ H) ?_)))
 rintro _ _ _ - ⟨O, rfl, rfl, rfl⟩
 refine uP (Ax [3] (K := [U1 O i.1]) I [(22, Q2 i.1)] ⟨⟨_, I, .us 0 I⟩, J⟩ (ob' := [O2 b [Bi i.2], .us e 34 1 (c.2.2.map (rL 2 Aa)), O5 G [Ar j]]) (.rest _)) (tZ [] I (uH 1 (([i.1] : List (List Piece)).map (rL 2 Aa)) (tZ [1] I (uO 1 I M fun P => Af 1 I (tY (tX (Am 2 [.k 0 (g + 1 : Nat)] I ⟨A6 u y, J⟩ ?_)))))))
 cases io h
 exact tY (lg ⟨P, I2⟩ [0, 1])
 rintro c s ob ⟨e, rfl, rfl⟩ he
 subst he
 have h := B
 have Q := Cs f.Segments.length
 exact Ai I (Ab fun Z aa => Br I Q (uG (lg ⟨(c.1, c.2.1, c.2.2), e, h, I2⟩ [0, 1])))
 rintro s ob ⟨a, d, h, rfl, rfl⟩
 refine Ai I ?_
 obtain rfl := oi h
 exact uE ⟨.inr I, [_], [O2 b [[Q0 a.1, .V a.2.1]], .us d 34 1 (a.2.2.map (rL 2 Aa))], J1, Cb I (Cb I (B0)), ⟨[O2 b [[Q0 a.1, .V a.2.1]]], [.us d 34 1 (a.2.2.map (rL 2 Aa))], I, I, d, I3⟩⟩
theorem Kp (b : Nat) (g : KS) (e : Nw) (i : Int) (r : Li × KS) (h : Qz g e i = some r) : ACalls Ak 10 [.P b, .agg (Ad e), .V i] [O2 b [Bi g]] (E8 1 fun x os new => ∃ (j : Value), x = .v j ∧ os = [O2 b [Bi r.2]] ∧ new = [U0 j r.1]) := by
 refine Ag Tryz.func10 I I I fun C hC => ?_
 unfold Qz at h
 refine Ab fun F k => tX (tZ [] I (Cf (Ad e) 6 fun n => Af 1 I (tY ?_)))
 subst k
 refine Ai I (Aj (fun s ob => ∃ (a : Li × Int × Li) (d : Value), Qz.J1 a = some r ∧ s = [(7, .v d)] ∧ ob = [O2 b [[Q0 a.1, .V a.2.1]], U0 d a.2.2]) [] J ?_ ?_)
 refine Ai I (uB (uF (Az 3 1) ?_))
 obtain ⟨G, p, t⟩ := Ac h
 refine Ci p (K3 0 2 4) J3 (fun (c : Li × Int × Li × Int) s ob => ∃ (f : Value), s = [(7, .v f), (8, .V c.2.2.2)] ∧ ob = [O2 b [[Q0 c.1, .V c.2.1]], O0 n [Ad e], U0 f c.2.2.1]) ⟨nS, I2⟩ ⟨I, I, J⟩ (pk N3) ?_
 rintro c H s ob ⟨f, rfl, rfl⟩ h u
 refine Ab fun K w => Bg [.o 2 1, .l 3 (e.Ports.length : Int)] I ⟨A4, I, J⟩ (Ao h I ?_ ?_)
 intro y h
 refine uA ?_
 subst w
 refine uD (uB ?_)
 obtain ⟨A, B, h⟩ := Ac h
 obtain ⟨M, D, h⟩ := Ac h
 refine tX (Af 3 I (tZ [0] I (A0 [0] (Bm b _ _ _ B) ?_)))
 refine tZ [] I (uH 1 (([A.1] : Li).map rI) (tZ [2] I (uO 2 I D fun E => Af 1 I (tY (tX (Af 3 I ?_))))))
 cases io h
 exact tY ⟨_, _, _, I, ⟨E, I2⟩, J5, pk N3⟩
 intro y h
 obtain rfl := u _ (oi h).symm
 have h := t
 exact uG (lg ⟨(c.1, c.2.1, c.2.2.1), f, h, I2⟩ [0, 2])
 rintro s ob ⟨a, d, h, rfl, rfl⟩
 refine Ai I ?_
 obtain rfl := oi h
 exact uE ⟨.inr I, [_], [O2 b [[Q0 a.1, .V a.2.1]], U0 d a.2.2], J1, Cb I (Cb I (B0)), ⟨[O2 b [[Q0 a.1, .V a.2.1]]], [U0 d a.2.2], I, I, d, I3⟩⟩
theorem fO (a : Nw) (b : Plan) (r : Li × Int) (h : Wg a b = some r) : ACalls Ak 92 [.agg (Ad a), .agg (Aq b)] [] (fun x new => ∃ (d : Value), x = .tup [.v d, .V r.2] ∧ new = [U0 d r.1]) := by
 refine Ag Tryz.func92 I I I fun C hC => ?_
 refine Ab fun l f => tX (tZ [] I (Cf (Ad a) 6 fun n => tZ [] I (Cf (Aq b) 3 fun p => Af 2 I (tY ?_))))
 subst f
 refine uD (uD ?_)
 obtain ⟨s, g, h⟩ := Ac h
 refine tX (Am 2 [.o 0 0, .o 1 1] I J2 (uJ (gT _ _ _ g) (Af 1 I (tY (Ai I (Ao h I ?_ ?_))))))
 intro i h
 refine Ai I (uF (Az 3 1) (C9 [2] I ?_))
 cases io h
 exact uE ⟨.inr I, [_, _], [.us nS 3 1 ([].map rI)], J2, Cb I (B0), ⟨nS, I2⟩⟩
 intro i h
 refine uA (uD ?_)
 obtain ⟨j, k, h⟩ := Ac h
 refine tX (Am 2 [.o 0 0, .o 1 1] I J2 (tZ [] I (Bh I I I (Uz _ _ _ k) dS ?_)))
 rintro _ _ ⟨e, rfl, rfl⟩
 refine Af 2 I (tY (C9 [2] I ?_))
 cases io h
 exact uE ⟨.inr I, [_, _], [U0 e j], J2, Cb I (B0), ⟨e, I2⟩⟩
theorem Vf (a : Piece) (r : Bool) (h : Ho a = r) : ACalls Ak 84 [.agg (Aa a)] [] (RB r) := by
 refine Ag Tryz.func84 I I I fun C hC => ?_
 unfold Ho at h
 refine Ab fun f e => tX (tZ [] I (Cf (Aa a) 2 fun g => Af 1 I (tY ?_)))
 subst e
 refine Aj (fun s ob => s = [(2, .v (.bool (decide (a.Batch ≥ 0) && (decide (a.Batch < 1000) && (decide (a.Volume ≥ 0) && decide (a.Volume ≤ 1000000))))))] ∧ ob = []) [] J ?_ ?_
 refine tX (Am 4 [.o 1 0] I J1 ?_)
 rcases bt (decide (a.Batch ≥ 0)) with b | b
 refine Ah 6 I b (Am 5 [.o 1 0] I J1 ?_)
 rcases bt (decide (a.Batch < 1000)) with c | c
 refine Ah 11 I c (Am 5 [.o 1 0] I J1 ?_)
 rcases bt (decide (a.Volume ≥ 0)) with d | d
 refine Ah 16 I d (Am 5 [.o 1 0] I J1 (tY ?_))
 exact lf I2 ⟨(Dn (by simp only [b, c, d, bz])), J⟩ [] I
 refine Ah 16 I d (Af 5 I (tY ?_))
 exact lf I2 ⟨(Dn (by simp only [b, c, d, bz])), J⟩ [] I
 refine Ah 11 I c (Af 10 I (tY ?_))
 exact lf I2 ⟨(Dn (by simp only [b, c, bz])), J⟩ [] I
 refine Ah 6 I b (Af 15 I (tY ?_))
 exact lf I2 ⟨(Dn (by simp only [b, bz])), J⟩ [] I
 rintro s ob ⟨rfl, rfl⟩
 obtain rfl := h
 exact uE pr
theorem Kr (a : List Piece) (r : Int) (h : Jo a = some r) : ACalls Ak 85 [Q2 a] [] (RV (.V r)) := by
 refine Ag Tryz.func85 I I I fun C hC => ?_
 unfold Jo at h
 refine Ai I (Ai I (Aj (fun s ob => ∃ (d : Int), Jo.J1 d = some r ∧ s = [(3, .V d)] ∧ ob = []) [] J ?_ ?_))
 refine Bg [.l 1 (a.length : Int)] I ⟨A4, J⟩ (uB (Cg 6 I fun g => ?_))
 obtain ⟨u, i, j⟩ := Ac h
 refine Cl i (K2 6 7) J2 (fun (b : Nat) (c : Int) s ob => s = [(8, .V (b : Int)), (3, .V c)] ∧ ob = []) ⟨I, I⟩ ⟨I, I, J⟩ (pk []) ?_ ?_
 rintro b e c w s ob n f ⟨rfl, rfl⟩ h
 unfold Jo.B2 at h
 have p := Cr f
 refine Ai I (Ab fun y q => Bq I p (uA ?_))
 subst q
 refine uD (uB (uD (tX (Am 2 [.x 0 b (Aa e)] I ⟨⟨I, Ae n⟩, J⟩ (tZ [] I (Bs [.V 0, .V 0] 2 fun A => tZ [0] I (Bj 0 0 0 [Aa e] I (tY (Gd [.o 2 0] I J1 (tX (Am 2 [.k 0 (b + 1 : Nat)] I ⟨A6 f g, J⟩ ?_)))))))))))
 cases io h
 exact tY (lg I2 [])
 rintro c s ob ⟨rfl, rfl⟩ he
 subst he
 have h := j
 have t := Cs a.length
 exact Ai I (Ab fun B D => Br I t (uG (lg ⟨c, h, I2⟩ [])))
 rintro s ob ⟨d, h, rfl, rfl⟩
 unfold Jo.J1 at h
 refine Ai I ?_
 cases io h
 exact uE pr
theorem If (a : List Piece) (r : Bool) (h : G1 a = some r) : ACalls Ak 49 [Q2 a] [] (RB r) := by
 refine Ag Tryz.func49 I I I fun C hC => ?_
 refine Ai I (Ab fun R w => Bg [.l 1 (a.length : Int)] I ⟨A4, J⟩ (Ao h I ?_ ?_))
 intro y h
 refine Ai I ?_
 cases io h
 exact uE pr
 intro y h
 refine uA ?_
 subst w
 refine Aj (fun s ob => ∃ (n : Unit), G1.J1 a n = some r ∧ s = [] ∧ ob = []) [(0, _)] J1 ?_ ?_
 refine Bg [.l 1 (a.length : Int)] I ⟨A4, J⟩ (uB (Cg 8 I fun A => ?_))
 obtain ⟨S, B, p⟩ := Ac h
 refine Cj B (K3 0 8 9) J3 (fun (d : Nat) (t : Unit) s ob => s = [(10, .V (d : Int))] ∧ ob = []) ⟨I, I⟩ ⟨I, J⟩ (pk []) ?_ ?_
 rintro d b t D s ob E u ⟨rfl, rfl⟩ h F
 unfold G1.B2 at h
 have G := Cr u
 refine Ai I (Ab fun U H => Bq I G (uA ?_))
 subst H
 refine uD (uB (Ab fun W K => tX (Am 3 [.x 1 d (Aa b)] I ⟨⟨I, Ae E⟩, J⟩ (tZ [] I (Bs [.V 0, .V 0] 2 fun X => Af 1 I (tZ [0] I (Bj 0 0 0 [Aa b] I (tY ?_))))))))
 subst K
 refine Aj (fun s ob => ∃ (i : Bool), G1.J3 i = some D ∧ s = [(37, .v (.bool i))] ∧ ob = []) (K4 0 8 9 10) J4 ?_ ?_
 refine Bk (pd 23 0 [1]) [0] [_] I (Bv 1 [.o 0 0] I J1 (uU I (Vf b _ I) (A3 2 I ?_)))
 rcases bt ((!(Ho b))) with e | e
 have h := Cc e h
 refine A9 18 I e (A3 8 I (As I I I I dS (As I I I I dS (As I I I I dS (As I I I I dS (As I I I I dS (As I I I I dS (As I I I I dS (As I I I I dS (As I I I I dS (A3 2 I (Ap ?_))))))))))))
 exact tY (lg ⟨true, h, I2⟩ [])
 have h := Cd e h
 refine A9 18 I e (Bv 5 [.o 1 0] I J1 ?_)
 rcases bt ((b.Volume == 0)) with f | f
 have h := Cc f h
 refine A9 23 I f (A3 3 I (As I I I I dS (As I I I I dS (As I I I I dS (As I I I I dS (As I I I I dS (As I I I I dS (As I I I I dS (As I I I I dS (As I I I I dS (A3 2 I (Ap ?_))))))))))))
 exact tY (lg ⟨true, h, I2⟩ [])
 have h := Cd f h
 refine A9 23 I f (A3 3 I ?_)
 rcases bt (decide ((d : Int) > 0)) with g | g
 have h := Cc g h
 obtain ⟨j, ⟨M, N⟩, h⟩ := A5 h
 exact A9 26 I g (Bv 11 [.x 3 j.1 (Aa j.2), .o 7 0] I ⟨I, ⟨M, Ae N⟩, J⟩ (Ap (tY (lg ⟨(j.2.Batch == b.Batch), h, I2⟩ []))))
 have h := Cd g h
 exact A9 26 I g (A3 11 I (Ap (tY (lg ⟨false, h, I2⟩ []))))
 rintro s ob ⟨i, h, rfl, rfl⟩
 refine Ao h I ?_ ?_
 intro O h
 refine Ai I ?_
 obtain rfl := F _ (oi h).symm
 have h := p
 have h := Dj h
 cases io h
 exact uE pr
 intro O h
 refine uA (tX (Am 2 [.k 0 (d + 1 : Nat)] I ⟨A6 u A, J⟩ ?_))
 cases io h
 exact tY ⟨_, _, _, I, I2, J4, pk []⟩
 rintro t s ob ⟨rfl, rfl⟩ he
 subst he
 have h := Dk p
 have P := Cs a.length
 exact Ai I (Ab fun Y Z => Br I P (uG (lg ⟨(), h, I2⟩ [])))
 rintro s ob ⟨n, h, rfl, rfl⟩
 refine uD ?_
 obtain ⟨aa, Q, h⟩ := Ac h
 refine tX (Af 1 I (uJ (Kr _ _ Q) (Af 2 I (tY ?_))))
 cases io h
 exact uE pr
theorem gE (a : List Piece) (r : Int) (h : Wk a = some r) : ACalls Ak 50 [Q2 a] [] (RV (.V r)) := by
 refine Ag Tryz.func50 I I I fun C hC => ?_
 refine Ai I (uD (uD ?_))
 obtain ⟨f, b, h⟩ := Ac h
 refine tX (Af 1 I (uJ (If _ _ b) (Af 1 I (tY (Ao h I ?_ ?_)))))
 intro d h
 refine Ai I ?_
 cases io h
 exact uE pr
 intro d h
 refine uA (uD ?_)
 obtain ⟨g, e, h⟩ := Ac h
 refine tX (Af 1 I (uJ (Kr _ _ e) (Af 1 I (tY ?_))))
 cases io h
 exact uE pr
theorem gX (a : List Piece) (F1 : T) {c : FuncId} {d e : List T} (o : Kw F1 = some (c, d, e)) (f : Piece → Option Bool) (p : ∀ (g : Piece) r, f g = some r → ACalls Ak c (d ++ [.agg (Aa g)] ++ e) [] (RB r)) (r : Int) (h : Rg a f = some r) : ACalls Ak 150 [Q2 a, F1] [] (RV (.V r)) := by
 refine Ag Tryz.func150 I I I fun C hC => ?_
 unfold Rg at h
 refine Ai I (Aj (fun s ob => ∃ (i : Unit), Rg.J1 i = some r ∧ s = [] ∧ ob = []) [] J ?_ ?_)
 refine Bg [.l 1 (a.length : Int)] I ⟨A4, J⟩ (uB (Cg 6 I fun q => ?_))
 obtain ⟨G, t, j⟩ := Ac h
 refine Cj t (K3 0 1 7) J3 (fun (b : Nat) (m : Unit) s ob => s = [(8, .V (b : Int))] ∧ ob = []) ⟨I, I⟩ ⟨I, J⟩ (pk []) ?_ ?_
 rintro b u m H s ob w n ⟨rfl, rfl⟩ h y
 have A := Cr n
 refine Ai I (Ab fun K B => Bq I A (uA ?_))
 subst B
 refine uD (uB (Ai I (uD ?_)))
 obtain ⟨M, D, h⟩ := Ac h
 refine tX (Am 5 [.x 3 b (Aa u)] I ⟨⟨I, Ae w⟩, J⟩ (tZ [] I (Dv I (.refl _) o I (.rest _) I (p _ _ D) dS (by rintro _ _ ⟨rfl, _⟩; rfl) ?_)))
 rintro _ ⟨_, rfl, -⟩
 refine tY (Ao h I ?_ ?_)
 intro E h
 refine Ai I ?_
 obtain rfl := y _ (oi h).symm
 have h := j
 have h := Dj h
 cases io h
 exact uE pr
 intro E h
 refine uA (tX (Am 2 [.k 0 (b + 1 : Nat)] I ⟨A6 n q, J⟩ ?_))
 cases io h
 exact tY ⟨_, _, _, I, I2, J4, pk []⟩
 rintro m s ob ⟨rfl, rfl⟩ he
 subst he
 have h := Dk j
 have F := Cs a.length
 exact Ai I (Ab fun N O => Br I F (uG (lg ⟨(), h, I2⟩ [])))
 rintro s ob ⟨i, h, rfl, rfl⟩
 unfold Rg.J1 at h
 refine Ai I ?_
 cases io h
 exact uE pr
theorem fP (b : List Piece) (F1 : T) {d : FuncId} {e f : List T} (i : Kw F1 = some (d, e, f)) (a : Piece → Option Bool) (j : ∀ (g : Piece) r, a g = some r → ACalls Ak d (e ++ [.agg (Aa g)] ++ f) [] (RB r)) (r : Bool) (h : Nm b a = some r) : ACalls Ak 145 [Q2 b, F1] [] (RB r) := by
 refine Ag Tryz.func145 I I I fun C hC => ?_
 refine Ai I (uD ?_)
 obtain ⟨l, k, h⟩ := Ac h
 refine tX (Af 2 I (uJ (gX _ F1 i a j _ k) (Af 2 I (tY ?_))))
 cases io h
 exact uE pr
theorem iA (a : Piece) (r : Bool) (h : Ij a = r) : ACalls Ak 146 [.agg (Aa a)] [] (RB r) := by
 refine Ag Tryz.func146 I I I fun C hC => ?_
 unfold Ij at h
 refine uD (tX (tZ [] I (Cf (Aa a) 2 fun b => Af 1 I (tY (uD (tX (Am 1 [.o 0 0] I J1 (uJ (Vf a _ I) (Af 2 I (tY (uF g0 ?_)))))))))))
 obtain rfl := h
 exact uE pr
theorem Ow (n : List Piece) (r : List Piece) (h : Lk n = some r) : ACalls Ak 147 [Q2 n] [] (fun x new => ∃ (E : Value), x = .v E ∧ new = [U1 E r]) := by
 refine Ag Tryz.func147 I I I fun C hC => ?_
 unfold Lk at h
 refine Ai I (Ai I (Aj (fun s ob => ∃ (t : List Piece) (g : Value), Lk.J1 t = some r ∧ s = [(3, .v g)] ∧ ob = [U1 g t]) [] J ?_ ?_))
 refine Bg [.l 1 (n.length : Int)] I ⟨A4, J⟩ (uB (Cg 7 I fun K => uF (Az 69 2) ?_))
 obtain ⟨ah, M, N⟩ := Ac h
 refine Cl M (K2 7 8) J2 (fun (u : Nat) (c : List Piece) s ob => ∃ (e : Value), s = [(9, .V (u : Int)), (3, .v e)] ∧ ob = [U1 e c]) ⟨nS, I2⟩ ⟨I, I, J⟩ (pk [0]) ?_ ?_
 rintro u a c F s ob O G ⟨e, rfl, rfl⟩ h
 unfold Lk.B2 at h
 have P := Cr G
 refine Ai I (Ab fun ai Q => Bq I P (uA ?_))
 subst Q
 refine Aj (fun s ob => ∃ (A : List Piece) (w : Value), Lk.J3 A = some F ∧ s = [(3, .v w)] ∧ ob = [U1 w A]) (K3 7 8 9) J3 ?_ ?_
 refine uB (Ab fun aj R => tX (Am 2 [.x 0 u (Aa a)] I ⟨⟨I, Ae O⟩, J⟩ (tZ [] I (Bs [.V 0, .V 0] 2 fun S => tZ [1] I (Bj 1 0 0 [Aa a] I (tY ?_))))))
 subst R
 refine Ab fun ak U => tX (Af 1 I (uI (Bp 0 I I I I) I (Af 1 I (tY ?_))))
 subst U
 refine uB (Ab fun al W => tX (Am 3 [.o 0 1, .o 2 1] I J2 (uK (Bl (l := [.V a.Batch, .V 0]) D9 I) I (uK (Pt (r := ((a.Batch == a.Batch) && ((a.Volume == 0) && true))) I I fL I I I I) I (Af 1 I (tY ?_))))))
 subst W
 refine Ao h I ?_ ?_
 intro X h
 exact uA (lg ⟨c, e, h, I2⟩ [0])
 intro X h
 refine Aj (fun s ob => ∃ (B : Bool), Lk.J4 a c B = some F ∧ s = [(25, .v (.bool B))] ∧ ob = [U1 e c, O8 S [Aa a]]) (K6 3 5 6 7 8 9) J6 ?_ ?_
 rcases bt (decide ((c.length : Int) > 0)) with i | i
 have h := Cc i h
 obtain ⟨j, ⟨Y, D⟩, h⟩ := A5 h
 exact Bz 0 j.1 I D fun Z => Bk (pd 14 0 []) [0, 1] [_, _] I (A3 3 I (A9 28 I i (A3 3 I (Dd I I I I ((Av (m := j.1) I I I I I Z I Y D).yd) dS (A3 1 I (Dd I I I I (Ay 0 j.1 0 I I I (Ae D) I (y := .V j.2.Batch) I) dS (Bv 5 [.o 1 1] I J1 (Ap (tY (lg ⟨(j.2.Batch == a.Batch), h, I2⟩ [0, 1]))))))))))
 have h := Cd i h
 exact Bk (pd 14 0 []) [] [] I (A3 3 I (A9 28 I i (A3 11 I (Ap (tY (lg ⟨false, h, I2⟩ [0, 1]))))))
 rintro s ob ⟨B, h, rfl, rfl⟩
 refine Ao h I ?_ ?_
 intro aa h
 obtain ⟨b, ⟨H, f⟩, h⟩ := A5 h
 exact Bz 0 b.1 I f fun ab => Bz 0 b.1 I f fun ac => Bk (sl 11 0 (.drop 11 .nil)) [0, 1] [_, _] I (A3 3 I (uN I (Av (m := b.1) I I I I I ab I H f) I (A3 1 I (AP.o I (Ay 0 b.1 1 I I I (Ae f) I (y := .V b.2.Volume) I) I (Bv 3 [.o 1 1] I J1 (uN I (Av (m := b.1) I I I I I ac I H f) I (A3 1 I (uR [0] I I I (Bd 0 b.1 1 I I I (Ae f) I I I I (Ba I) I (Ce (x := (⟨b.2.Batch, wr (b.2.Volume + a.Volume)⟩ : Piece)) I) (Ap (tY (lg ⟨(c.set b.1 (⟨b.2.Batch, wr (b.2.Volume + a.Volume)⟩ : Piece)), e, h, I2⟩ [0]))))))))))))
 intro aa h
 obtain ⟨ad, ae, h⟩ := Ac h
 exact tX (Am 2 [.o 1 1] I J1 (tZ [] I (uH 2 (([a] : List Piece).map Aa) (tZ [0] I (uO 0 I ae fun af => Af 1 I (tY (lg ⟨ad, af, h, I2⟩ [0])))))))
 rintro s ob ⟨A, w, h, rfl, rfl⟩
 unfold Lk.J3 at h
 refine tX (Am 2 [.k 0 (u + 1 : Nat)] I ⟨A6 G K, J⟩ ?_)
 cases io h
 exact tY (lg ⟨w, I2⟩ [0])
 rintro c s ob ⟨e, rfl, rfl⟩ he
 subst he
 have h := N
 have ag := Cs n.length
 exact Ai I (Ab fun am an => Br I ag (uG (lg ⟨c, e, h, I2⟩ [0])))
 rintro s ob ⟨t, g, h, rfl, rfl⟩
 refine Ai I ?_
 obtain rfl := oi h
 exact uE ⟨.inr I, [_], [U1 g t], J1, Cb I (B0), ⟨g, I2⟩⟩
theorem Vh (a : List Piece) (r : List Piece) (h : Jp a = some r) : ACalls Ak 138 [Q2 a] [] (fun x new => ∃ (e : Value), x = .v e ∧ new = [U1 e r]) := by
 refine Ag Tryz.func138 I I I fun C hC => ?_
 unfold Jp at h
 refine Ai I (uD (Aj (fun s ob => ∃ (d : Bool), Jp.J1 a d = some r ∧ s = [(9, .v (.bool d))] ∧ ob = []) [(0, _)] J1 ?_ ?_))
 refine tX (Am 4 [.l 1 (a.length : Int)] I ⟨A4, J⟩ ?_)
 rcases bt (decide ((a.length : Int) > 400)) with b | b
 have h := Cc b h
 exact Ah 6 I b (Af 3 I (tY (lg ⟨true, h, I2⟩ [])))
 have h := Cd b h
 obtain ⟨g, i, h⟩ := Ac h
 exact Ah 6 I b (Af 1 I (Bx I I I (uJ (fP _ (.v (.func (.func 146) #[] #[])) I (fun x => some (Ij x)) (fun x r h => by obtain I := oi h; exact iA x _ I) _ i) (Af 1 I (tY (lg ⟨g, h, I2⟩ []))))))
 rintro s ob ⟨d, h, rfl, rfl⟩
 refine Ao h I ?_ ?_
 intro j h
 refine Ai I (uF (Az 69 2) ?_)
 obtain rfl := oi h
 exact uE ⟨.inr I, [_], [.us nS 69 2 ([].map Aa)], J1, Cb I (B0), ⟨nS, I2⟩⟩
 intro j h
 refine uA (uD ?_)
 obtain ⟨k, m, h⟩ := Ac h
 refine tX (Af 1 I (tZ [] I (Bh I I I (Ow _ _ m) dS ?_)))
 rintro _ _ ⟨f, rfl, rfl⟩
 refine Af 1 I (tY ?_)
 obtain rfl := oi h
 exact uE ⟨.inr I, [_], [U1 f k], J1, Cb I (B0), ⟨f, I2⟩⟩
theorem Gx (a : List Piece) (r : List Piece) (h : Hp a = some r) : ACalls Ak 95 [Q2 a] [] (fun x new => ∃ (b : Value), x = .v b ∧ new = [U1 b r]) := by
  refine Ag Tryz.func95 rfl rfl rfl (fun C hC => ?_)
  unfold Hp at h
  obtain ⟨e, d⟩ := G7 h
  refine uD ?_
  refine tX ?_
  refine uK (Yp.assign rfl) rfl ?_
  refine tY ?_
  refine uD ?_
  refine uD ?_
  refine tX ?_
  refine uK (Yp.move rfl) rfl ?_
  refine tZ [] rfl (oG rfl rfl rfl (By rfl) fun c hc => ?_)
  refine tY ?_
  refine AW.cond rfl rfl ?_ ?_
  · intro hb
    have hs : a = [] := by have := hc hb; simpa using this
    subst hs
    refine uD ?_
    refine tX ?_
    refine uK (Yp.assign rfl) rfl ?_
    refine uP (Az 69 2) ?_
    refine tY ?_
    refine uE ?_
    have hr : r = [] := by simpa using d.symm
    subst hr
    exact ⟨.inr rfl, [_], [.us nS 69 2 ([].map Aa)], ⟨rfl, J⟩, Cb rfl B0, ⟨_, rfl, rfl⟩⟩
  · intro hb
    refine uA ?_
    refine uD ?_
    refine tX ?_
    refine tZ [] rfl (uM (sz := 2) (es := []) rfl rfl rfl rfl rfl rfl rfl rfl rfl rfl rfl (By rfl) fun g => ?_)
    refine uK (Yp.move rfl) rfl ?_
    refine tZ [0] rfl (L7 0 (es' := r.map Aa) rfl rfl rfl rfl rfl rfl rfl rfl rfl (AppSrc.list rfl) (by simpa using e) (by rw [← d]; simp) (By rfl) fun f => ?_)
    refine uK (Yp.assign rfl) rfl ?_
    refine tY ?_
    refine uE ?_
    exact ⟨.inr rfl, [_], [U1 f r], ⟨rfl, J⟩, Cb rfl B0, ⟨_, rfl, rfl⟩⟩
theorem Vv (f : List Piece) (A : Int) (r : (List Piece) × (List Piece)) (h : Oa f A = some r) : ACalls Ak 149 [Q2 f, .V A] [] (fun x new => ∃ (B : Value) (D : Value), x = .tup [.v B, .v D] ∧ new = [U1 B r.1, U1 D r.2]) := by
 refine Ag Tryz.func149 I I I fun C hC => ?_
 refine Ai I (Ab fun y2 N => ?_)
 obtain ⟨r3, O, h⟩ := Ac h
 obtain ⟨r6, P, h⟩ := Ac h
 refine tX (Af 1 I (tZ [] I (Bh I I I (Gx _ _ O) dS ?_)))
 rintro _ _ ⟨p, rfl, rfl⟩
 refine Af 1 I (tZ [] I (Bh I I I (Gx _ _ P) dS ?_))
 rintro _ _ ⟨g, rfl, rfl⟩
 refine Af 2 I (tY ?_)
 subst N
 refine Aj (fun s ob => ∃ (a : (List Piece) × (List Piece)), Oa.J1 a = some r ∧ s = [] ∧ ob = [U1 p a.1, U1 g a.2]) (K2 6 7) J2 ?_ ?_
 refine Bg [.l 1 (f.length : Int)] I ⟨A4, J⟩ (uB (Cg 14 I fun Q => ?_))
 obtain ⟨am, R, S⟩ := Ac h
 refine Cl R (K4 6 7 14 15) J4 (fun (i : Nat) (b : Int × (List Piece) × (List Piece)) s ob => s = [(16, .V (i : Int)), (1, .V b.1)] ∧ ob = [U1 p b.2.1, U1 g b.2.2]) ⟨I, I⟩ ⟨I, I, J⟩ (pk [0, 1]) ?_ ?_
 rintro i j b an s ob U E ⟨rfl, rfl⟩ h
 have W := Cr E
 refine Ai I (Ab fun ao X => Bq I W (uA ?_))
 subst X
 refine uD (uB (Ab fun ap Y => tX (Am 3 [.x 1 i (Aa j)] I ⟨⟨I, Ae U⟩, J⟩ (tZ [] I (Bs [.V 0, .V 0] 2 fun aq => Af 1 I (tZ [2] I (Bj 2 0 0 [Aa j] I (tY ?_))))))))
 subst Y
 refine Ab fun ar Z => ?_
 obtain ⟨t, ⟨aa, F⟩, h⟩ := A5 h
 refine tX (Am 6 [.o 3 2] I J1 (uI (Bc 0 (m := t.1) I I I I I I I aa (Ae F)) I (Af 1 I (tZ [0] I (Bd 0 t.1 1 I I I (Ae F) I I I I (Ba I) I (Ce (x := (⟨t.2.Batch, (min j.Volume b.1)⟩ : Piece)) I) (tY ?_))))))
 subst Z
 refine Ab fun au ab => ?_
 obtain ⟨c, ⟨G, e⟩, h⟩ := A5 h
 refine tX (Af 3 I (uI (Bc 0 (m := c.1) I I I I I I I G (Ae e)) I (Af 1 I (uI (Ay 0 c.1 1 I I I (Ae e) I (y := .V c.2.Volume) I) I (Af 2 I (tY ?_))))))
 subst ab
 obtain ⟨n, ⟨ac, u⟩, h⟩ := A5 h
 refine Bz 0 c.1 I e fun ad => Bz 1 n.1 I u fun ae => Bk (pd 13 0 [12]) [2, 0] [_, _] I (Bv 6 [.o 3 0] I J1 (uN I (Av (m := c.1) I I I I I ad I G e) I (A3 1 I (AP.o I (Ay 1 c.1 1 I I I (Ae e) I (y := .V c.2.Volume) I) I (A3 1 I (uN I (Av (m := n.1) I I I I I ae I ac u) I (A3 1 I (uC [1] I I I (Bd 1 n.1 1 I I I (Ae u) I I I I (Ba I) I (Ce (x := (⟨n.2.Batch, wr (j.Volume - c.2.Volume)⟩ : Piece)) I) (Ap (tY ?_)))))))))))
 refine tX (Am 2 [.k 0 (i + 1 : Nat)] I ⟨A6 E Q, J⟩ ?_)
 cases io h
 exact tY (lg I2 [0, 1])
 rintro b s ob ⟨rfl, rfl⟩ he
 subst he
 have h := S
 have af := Cs f.length
 exact Ai I (Ab fun av aw => Br I af (uG (lg ⟨(b.2.1, b.2.2), h, I2⟩ [0, 1])))
 rintro s ob ⟨a, h, rfl, rfl⟩
 refine uD ?_
 obtain ⟨H, ag, h⟩ := Ac h
 obtain ⟨ah, ai, h⟩ := Ac h
 refine tX (Af 1 I (uP (Ax [0] (K := [U1 p a.1]) I [(6, Q2 a.1), (49, Q2 a.1)] ⟨⟨_, I, .us 0 I⟩, ⟨_, I, .us 0 I⟩, J⟩ (ob' := [U1 g a.2]) (.rest _)) (tZ [] I (Bh I I I (Ow _ _ ag) dS ?_))))
 rintro _ _ ⟨w, rfl, rfl⟩
 refine Af 1 I (uP (Ax [0] (K := [U1 g a.2]) I [(7, Q2 a.2), (51, Q2 a.2)] ⟨⟨_, I, .us 0 I⟩, ⟨_, I, .us 0 I⟩, J⟩ (ob' := [U1 w H]) (.rest _)) (tZ [] I (Bh I I I (Ow _ _ ai) dS ?_)))
 rintro _ _ ⟨M, rfl, rfl⟩
 refine Af 2 I (tY ?_)
 cases io h
 exact uE ⟨.inr I, [_, _], [U1 w H, U1 M ah], J2, Cb I (Cb I (B0)), ⟨w, M, I2⟩⟩
theorem jE (i : List Piece) (j : List Piece) (k : Bool) (r : (List Piece) × (List Piece) × Int) (h : Lz i j k = some r) : ACalls Ak 143 [Q2 i, Q2 j, .v (.bool k)] [] (fun x new => ∃ (m : Value) (n : Value), x = .tup [.v m, .v n, .V r.2.2] ∧ new = [U1 m r.1, U1 n r.2.1]) := by
 refine Ag Tryz.func143 I I I fun C hC => ?_
 unfold Lz at h
 refine Ai I (Ab fun y2 w => Aj (fun s ob => ∃ (l : Bool), Lz.J1 i j k l = some r ∧ s = [(18, .v (.bool l))] ∧ ob = []) (K3 0 1 2) J3 ?_ ?_)
 obtain ⟨y, A, h⟩ := Ac h
 refine tX (Af 1 I (uJ (If _ _ A) (Af 2 I ?_)))
 rcases bt ((!y)) with b | b
 have h := Cc b h
 exact Ah 14 I b (Af 4 I (tY (lg ⟨true, h, I2⟩ [])))
 have h := Cd b h
 obtain ⟨B, D, h⟩ := Ac h
 exact Ah 14 I b (Af 1 I (Bx I I I (uJ (If _ _ D) (Af 2 I (tY (lg ⟨(!B), h, I2⟩ []))))))
 rintro s ob ⟨l, h, rfl, rfl⟩
 refine Ao h I ?_ ?_
 intro E h
 refine Ai I (uF (Az 69 2) (uF (Az 69 2) ?_))
 cases io h
 exact uE ⟨.inr I, [_, _, _], [.us nS 69 2 ([].map Aa), .us nS 69 2 ([].map Aa)], J3, Cb I (Cb I (B0)), ⟨nS, nS, I2⟩⟩
 intro E h
 refine uA ?_
 subst w
 refine Ai I (Aj (fun s ob => ∃ (a : (List Piece) × (List Piece)) (e : Value) (f : Value), Lz.J2 a = some r ∧ s = [(9, .v e), (10, .v f)] ∧ ob = [U1 f a.2, U1 e a.1]) [] J ?_ ?_)
 refine Ai I (Ao h I ?_ ?_)
 intro F h
 obtain ⟨ac, G, h⟩ := Ac h
 obtain ⟨o, H, h⟩ := Ac h
 obtain ⟨ad, M, h⟩ := Ac h
 obtain ⟨p, N, h⟩ := Ac h
 refine tX (Af 1 I (tZ [] I (Bh I I I (Gx _ _ G) dS ?_)))
 rintro _ _ ⟨ae, rfl, rfl⟩
 refine Af 1 I (tZ [0] I (uO 0 I H fun O => Af 1 I (uJ (Kr _ _ M) (uP (Ax [0] (K := [U1 O o]) I [(24, Q2 o)] ⟨⟨_, I, .us 0 I⟩, J⟩ (ob' := []) (.rest _)) (tZ [] I (Bh I I I (Vv _ _ _ N) dS ?_))))))
 rintro _ _ ⟨P, Q, rfl, rfl⟩
 exact Af 5 I (tY (lg ⟨(p.2, p.1), Q, P, h, I2⟩ [0, 1]))
 intro F h
 obtain ⟨af, R, h⟩ := Ac h
 obtain ⟨t, S, h⟩ := Ac h
 obtain ⟨ag, U, h⟩ := Ac h
 obtain ⟨u, W, h⟩ := Ac h
 refine tX (Af 1 I (tZ [] I (Bh I I I (Gx _ _ R) dS ?_)))
 rintro _ _ ⟨ah, rfl, rfl⟩
 refine Af 1 I (tZ [0] I (uO 0 I S fun X => Af 1 I (uJ (Kr _ _ U) (uP (Ax [0] (K := [U1 X t]) I [(34, Q2 t)] ⟨⟨_, I, .us 0 I⟩, J⟩ (ob' := []) (.rest _)) (tZ [] I (Bh I I I (Vv _ _ _ W) dS ?_))))))
 rintro _ _ ⟨Y, Z, rfl, rfl⟩
 exact Af 5 I (tY (lg ⟨(u.1, u.2), Y, Z, h, I2⟩ [1, 0]))
 rintro s ob ⟨a, e, f, h, rfl, rfl⟩
 unfold Lz.J2 at h
 refine uD (Ea 47 (decide ((a.1.length : Int) > 200) || decide ((a.2.length : Int) > 200)) ?_ ?_)
 refine tX (Af 1 I (uI (Bp 1 I I I I) I (Af 2 I ?_)))
 rcases bt (decide ((a.1.length : Int) > 200)) with g | g
 exact Ah 43 I g (Af 4 I (tY (jf (by simp only [g, bz]) I I I2)))
 exact Ah 43 I g (Af 1 I (Bx I I I (uI (Bp 0 I I I I) I (Af 2 I (tY (jf (by simp only [g, bz]) I I I2))))))
 refine Ao h I ?_ ?_
 intro aa h
 refine Ai I (uF (Az 69 2) (uF (Az 69 2) (C9 [2, 3] I ?_)))
 cases io h
 exact uE ⟨.inr I, [_, _, _], [.us nS 69 2 ([].map Aa), .us nS 69 2 ([].map Aa)], J3, Cb I (Cb I (B0)), ⟨nS, nS, I2⟩⟩
 intro aa h
 refine uA (Ai I (C9 [1, 0] I ?_))
 cases io h
 exact uE ⟨.inr I, [_, _, _], [U1 e a.1, U1 f a.2], J3, Cb I (Cb I (B0)), ⟨e, f, I2⟩⟩
theorem De (a : Int) (c : Int) (d : Int) (r : Bool) (h : Co a c d = r) : ACalls Ak 86 [.V a, .V c, .V d] [] (RB r) := by
 refine Ag Tryz.func86 I I I fun C hC => ?_
 unfold Co at h
 refine Ai I (Aj (fun s ob => s = [(6, .v (.bool (decide (a ≥ c) && decide (a ≤ d))))] ∧ ob = []) [] J ?_ ?_)
 refine tX (Af 4 I ?_)
 rcases bt (decide (a ≥ c)) with b | b
 refine Ah 10 I b (Af 5 I (tY ?_))
 exact lf I2 ⟨(Dn (by simp only [b, bz])), J⟩ [] I
 refine Ah 10 I b (Af 5 I (tY ?_))
 exact lf I2 ⟨(Dn (by simp only [b, bz])), J⟩ [] I
 rintro s ob ⟨rfl, rfl⟩
 obtain rfl := h
 exact uE pr
theorem iI (a : Nw) (r : Arr (List Bt) 4) (h : Rn a = some r) : ACalls Ak 87 [.agg (Ad a)] [] (RV (.agg (r.l.map (cL 1 rS)))) := by
 refine Ag Tryz.func87 I I I fun C hC => ?_
 unfold Rn at h
 refine Ab fun y1 U => tX (tZ [] I (Cf (Ad a) 6 fun u => tZ [] I (Bs W3 4 fun f => tY ?_)))
 subst U
 refine Ab fun y4 W => tX (tZ [] I (Bs W3 4 fun g => tY ?_))
 subst W
 refine Ab fun y6 X => tX (Am 2 [.o 1 0] I J1 (uK (Dw (m := 0) I I I I I I (Ba I)) I (tZ [2] I (Bj 2 0 0 [[Q1 a.Nodes, .N, .N, .N]] I (tY ?_)))))
 subst X
 refine Aj (fun s ob => ∃ (c : List Bt) (b : Value), Rn.J1 a c = some r ∧ s = [] ∧ ob = [O0 u [Ad a], O4 f [W3], O4 g [[Q1 a.Nodes, .v b, .N, .N]], U2 b c]) (K3 1 2 3) J3 ?_ ?_
 refine Bg [.o 1 0, .l 2 (a.Segments.length : Int)] I ⟨A4, I, J⟩ (uB (Cg 14 I fun Y => uF (Az 9 1) ?_))
 obtain ⟨a5, Z, aa⟩ := Ac h
 refine Cl Z (K5 1 2 3 14 15) J5 (fun (w : Nat) (y : List Bt) s ob => ∃ (j : Value), s = [(16, .V (w : Int))] ∧ ob = [O0 u [Ad a], O4 f [W3], O4 g [[Q1 a.Nodes, .v j, .N, .N]], U2 j y]) ⟨nS, I2⟩ ⟨I, J⟩ (pk N4) ?_ ?_
 rintro w F y a6 s ob ab M ⟨j, rfl, rfl⟩ h
 have ac := Cr M
 refine Ai I (Ab fun a7 ad => Bq I ac (uA ?_))
 subst ad
 refine uD (uB (uD (tX (Am 2 [.x 0 w (Ar F)] I ⟨⟨I, Ae ab⟩, J⟩ (tZ [] I (Bs W2 7 fun a8 => tZ [4] I (Bj 4 0 0 [Ar F] I (tY ?_))))))))
 obtain ⟨a9, ae, h⟩ := Ac h
 refine tX (uK (Dw (m := 1) I I I I I I (Ba I)) I (Am 3 [.o 0 2, .o 2 4] I J2 (tZ [] I (uH 1 (([F.Name] : List Bt).map rS) (tZ [3] I (uO 3 I ae fun O => uK (Dw (m := 1) I I I I I I (Ba I)) I (uV 3 I fun af => tZ [2] I (uL 2 0 1 (es' := [[Q1 a.Nodes, .v O, .N, .N]]) I I I I I I (Bw af) I (Ba I) I I (tY (tX (Am 2 [.k 0 (w + 1 : Nat)] I ⟨A6 M Y, J⟩ ?_)))))))))))
 cases io h
 exact tY (lg ⟨O, I2⟩ N4)
 rintro y s ob ⟨j, rfl, rfl⟩ he
 subst he
 have h := aa
 have ag := Cs a.Segments.length
 exact Ai I (Ab fun ba bb => Br I ag (uG (lg ⟨y, j, h, I2⟩ N4)))
 rintro s ob ⟨c, b, h, rfl, rfl⟩
 unfold Rn.J1 at h
 refine Aj (fun s ob => ∃ (e : List Bt) (d : Value), Rn.J2 a c e = some r ∧ s = [] ∧ ob = [O0 u [Ad a], O4 f [W3], O4 g [[Q1 a.Nodes, .v b, .v d, .N]], U2 b c, U2 d e]) (K3 1 2 3) J3 ?_ ?_
 refine Bg [.o 1 0, .l 2 (a.Ports.length : Int)] I ⟨A4, I, J⟩ (uB (Cg 29 I fun ah => uF (Az 9 1) ?_))
 obtain ⟨bc, ai, aj⟩ := Ac h
 refine Cl ai (K5 1 2 3 29 30) J5 (fun (A : Nat) (B : List Bt) s ob => ∃ (n : Value), s = [(31, .V (A : Int))] ∧ ob = [O0 u [Ad a], O4 f [W3], O4 g [[Q1 a.Nodes, .v b, .v n, .N]], U2 b c, U2 n B]) ⟨nS, I2⟩ ⟨I, J⟩ (pk N5) ?_ ?_
 rintro A G B bd s ob ak P ⟨n, rfl, rfl⟩ h
 have al := Cr P
 refine Ai I (Ab fun be am => Bq I al (uA ?_))
 subst am
 refine uD (uB (uD (tX (Am 2 [.x 0 A (Ca G)] I ⟨⟨I, Ae ak⟩, J⟩ (tZ [] I (Bs W4 3 fun bf => tZ [5] I (Bj 5 0 0 [Ca G] I (tY ?_))))))))
 obtain ⟨bg, an, h⟩ := Ac h
 refine tX (uK (Dw (m := 2) I I I I I I (Ba I)) I (Am 3 [.o 0 2, .o 2 5] I J2 (tZ [] I (uH 1 (([G.Name] : List Bt).map rS) (tZ [4] I (uO 4 I an fun Q => uK (Dw (m := 2) I I I I I I (Ba I)) I (uV 4 I fun ao => tZ [2] I (uL 2 0 2 (es' := [[Q1 a.Nodes, .v b, .v Q, .N]]) I I I I I I (Bw ao) I (Ba I) I I (tY (tX (Am 2 [.k 0 (A + 1 : Nat)] I ⟨A6 P ah, J⟩ ?_)))))))))))
 cases io h
 exact tY (lg ⟨Q, I2⟩ N5)
 rintro B s ob ⟨n, rfl, rfl⟩ he
 subst he
 have h := aj
 have aq := Cs a.Ports.length
 exact Ai I (Ab fun bh bi => Br I aq (uG (lg ⟨B, n, h, I2⟩ N5)))
 rintro s ob ⟨e, d, h, rfl, rfl⟩
 unfold Rn.J2 at h
 refine Aj (fun s ob => ∃ (q : List Bt) (i : Value), Rn.J3 a c e q = some r ∧ s = [] ∧ ob = [O4 f [W3], O4 g [[Q1 a.Nodes, .v b, .v d, .v i]], U2 b c, U2 d e, U2 i q]) (K2 2 3) J2 ?_ ?_
 refine Bg [.o 1 0, .l 2 (a.Stations.length : Int)] I ⟨A4, I, J⟩ (uB (Cg 44 I fun ar => uF (Az 9 1) ?_))
 obtain ⟨bj, au, av⟩ := Ac h
 refine Cl au (K4 2 3 44 45) J4 (fun (D : Nat) (E : List Bt) s ob => ∃ (t : Value), s = [(46, .V (D : Int))] ∧ ob = [O4 f [W3], O4 g [[Q1 a.Nodes, .v b, .v d, .v t]], U2 b c, U2 d e, U2 t E]) ⟨nS, I2⟩ ⟨I, J⟩ (pk [1, 2, 3, 4, 5]) ?_ ?_
 rintro D H E bk s ob aw R ⟨t, rfl, rfl⟩ h
 have ax := Cr R
 refine Ai I (Ab fun bl ay => Bq I ax (uA ?_))
 subst ay
 refine uD (uB (uD (tX (Am 2 [.x 0 D (Bu H)] I ⟨⟨I, Ae aw⟩, J⟩ (tZ [] I (Bs W6 5 fun bm => tZ [5] I (Bj 5 0 0 [Bu H] I (tY ?_))))))))
 obtain ⟨bn, az, h⟩ := Ac h
 refine tX (uK (Dw (m := 3) I I I I I I (Ba I)) I (Am 3 [.o 0 1, .o 2 5] I J2 (tZ [] I (uH 1 (([H.Name] : List Bt).map rS) (tZ [4] I (uO 4 I az fun S => uK (Dw (m := 3) I I I I I I (Ba I)) I (uV 4 I fun a0 => tZ [1] I (uL 1 0 3 (es' := [[Q1 a.Nodes, .v b, .v d, .v S]]) I I I I I I (Bw a0) I (Ba I) I I (tY (tX (Am 2 [.k 0 (D + 1 : Nat)] I ⟨A6 R ar, J⟩ ?_)))))))))))
 cases io h
 exact tY (lg ⟨S, I2⟩ N5)
 rintro E s ob ⟨t, rfl, rfl⟩ he
 subst he
 have h := av
 have a1 := Cs a.Stations.length
 exact Ai I (Ab fun bo bp => Br I a1 (uG (lg ⟨E, t, h, I2⟩ N5)))
 rintro s ob ⟨q, i, h, rfl, rfl⟩
 unfold Rn.J3 at h
 refine uD (tX (Am 1 [.o 0 1] I J1 (tZ [0] I (Bj 0 0 0 [[Q1 a.Nodes, .v b, .v d, .v i]] I (tY (uF (Ax [2, 3, 4] (K := [U2 b c, U2 d e, U2 i q]) I [] J (ob' := [O4 f [[Q1 a.Nodes, Q1 c, Q1 e, Q1 q]], O4 g [[Q1 a.Nodes, .v b, .v d, .v i]]]) (.cons (.arr (.cons (.refl _) (.cons (.us 0 I) (.cons (.us 1 I) (.cons (.us 2 I) (.rest _)))))) (.rest _))) (C9 [0] I ?_)))))))
 cases io h
 exact uE ⟨.inr I, [_], [], ⟨⟨0, _, _, _, _, _, _, _, I5⟩, J⟩, B0, I2⟩
theorem iH (g : Bt) (r : Bool) (h : Rm g = some r) : ACalls Ak 88 [.v (.string g)] [] (RB r) := by
 refine Ag Tryz.func88 I I I fun C hC => ?_
 unfold Rm at h
 refine Ai I (Ab fun X M => Aj (fun s ob => ∃ (y : Bool), Rm.J1 g y = some r ∧ s = [(21, .v (.bool y))] ∧ ob = []) [(0, _)] J1 ?_ ?_)
 refine tX (Af 4 I ?_)
 rcases bt (decide ((g.size : Int) < 1)) with i | i
 have h := Cc i h
 exact Ah 7 I i (Af 14 I (tY (lg ⟨true, h, I2⟩ [])))
 have h := Cd i h
 refine Ah 7 I i ?_
 rcases bt (decide ((g.size : Int) > 12)) with j | j
 have h := Cc j h
 exact Af 5 I (Ah 12 I j (Af 9 I (tY (lg ⟨true, h, I2⟩ []))))
 have h := Cd j h
 obtain ⟨f, N, h⟩ := Ac h
 obtain ⟨D, E, F⟩ := Mv N
 refine Af 5 I (Ah 12 I j (Af 1 I (Bx I I I (uK (C7 (m := f.1) I I I I D E F) I (Bx I I I (uK (uT (c := decide (f.2 < 97)) I I I) I (Af 2 I ?_)))))))
 rcases bt (decide (f.2 < 97)) with k | k
 have h := Cc k h
 exact Ah 17 I k (Af 4 I (tY (lg ⟨true, h, I2⟩ [])))
 have h := Cd k h
 exact Ah 17 I k (Af 1 I (Bx I I I (uK (C7 (m := f.1) I I I I D E F) I (Bx I I I (uK (uT (c := decide (f.2 > 122)) I I I) I (Af 1 I (tY (lg ⟨decide (f.2 > 122), h, I2⟩ []))))))))
 rintro s ob ⟨y, h, rfl, rfl⟩
 refine Ao h I ?_ ?_
 intro O h
 refine Ai I ?_
 cases io h
 exact uE pr
 intro O h
 refine uA ?_
 subst M
 refine Aj (fun s ob => ∃ (G : Unit), Rm.J2 G = some r ∧ s = [] ∧ ob = []) [] J ?_ ?_
 refine Ai I (uB ?_)
 obtain ⟨Y, P, H⟩ := Ac h
 refine Ci P [(0, _)] J1 (fun (A : Int) s ob => s = [(3, .V A)] ∧ ob = []) ⟨I, I⟩ ⟨I, J⟩ (pk []) ?_
 rintro A Q s ob ⟨rfl, rfl⟩ h K
 refine Ab fun Z R => Ai I (Ao h I ?_ ?_)
 intro S h
 refine uA ?_
 subst R
 refine uD (uB (Aj (fun s ob => ∃ (B : Bool), Rm.J4 A B = some Q ∧ s = [(55, .v (.bool B))] ∧ ob = []) (K2 0 3) J2 ?_ ?_))
 obtain ⟨a, U, h⟩ := Ac h
 obtain ⟨b, d, e⟩ := Mv U
 refine tX (Af 2 I (uK (C7 (m := a.1) I I I I b d e) I (uK (uT (c := decide (a.2 < 97)) I I I) I (Af 1 I ?_))))
 rcases bt (decide (a.2 < 97)) with l | l
 have h := Cc l h
 refine Ah 32 I l (Af 8 I (Bx I I I (uK (C7 (m := a.1) I I I I b d e) I (Bx I I I (uK (uT (c := decide (a.2 < 48)) I I I) I (Af 1 I ?_))))))
 rcases bt (decide (a.2 < 48)) with n | n
 have h := Cc n h
 exact Ah 43 I n (Af 9 I (Bx I I I (uK (C7 (m := a.1) I I I I b d e) I (Bx I I I (uK (uT (c := (a.2 != 45)) I I I) I (Af 1 I (tY (lg ⟨(a.2 != 45), h, I2⟩ []))))))))
 have h := Cd n h
 refine Ah 43 I n (Af 2 I (Bx I I I (uK (C7 (m := a.1) I I I I b d e) I (Bx I I I (uK (uT (c := decide (a.2 > 57)) I I I) I (Af 3 I ?_))))))
 rcases bt (decide (a.2 > 57)) with o | o
 have h := Cc o h
 exact Ah 50 I o (Af 2 I (Bx I I I (uK (C7 (m := a.1) I I I I b d e) I (Bx I I I (uK (uT (c := (a.2 != 45)) I I I) I (Af 1 I (tY (lg ⟨(a.2 != 45), h, I2⟩ []))))))))
 have h := Cd o h
 exact Ah 50 I o (Af 5 I (tY (lg ⟨false, h, I2⟩ [])))
 have h := Cd l h
 refine Ah 32 I l (Af 2 I (Bx I I I (uK (C7 (m := a.1) I I I I b d e) I (Bx I I I (uK (uT (c := decide (a.2 > 122)) I I I) I (Af 2 I ?_))))))
 rcases bt (decide (a.2 > 122)) with t | t
 have h := Cc t h
 refine Ah 38 I t (Af 2 I (Bx I I I (uK (C7 (m := a.1) I I I I b d e) I (Bx I I I (uK (uT (c := decide (a.2 < 48)) I I I) I (Af 1 I ?_))))))
 rcases bt (decide (a.2 < 48)) with u | u
 have h := Cc u h
 exact Ah 43 I u (Af 9 I (Bx I I I (uK (C7 (m := a.1) I I I I b d e) I (Bx I I I (uK (uT (c := (a.2 != 45)) I I I) I (Af 1 I (tY (lg ⟨(a.2 != 45), h, I2⟩ []))))))))
 have h := Cd u h
 refine Ah 43 I u (Af 2 I (Bx I I I (uK (C7 (m := a.1) I I I I b d e) I (Bx I I I (uK (uT (c := decide (a.2 > 57)) I I I) I (Af 3 I ?_))))))
 rcases bt (decide (a.2 > 57)) with w | w
 have h := Cc w h
 exact Ah 50 I w (Af 2 I (Bx I I I (uK (C7 (m := a.1) I I I I b d e) I (Bx I I I (uK (uT (c := (a.2 != 45)) I I I) I (Af 1 I (tY (lg ⟨(a.2 != 45), h, I2⟩ []))))))))
 have h := Cd w h
 exact Ah 50 I w (Af 5 I (tY (lg ⟨false, h, I2⟩ [])))
 have h := Cd t h
 exact Ah 38 I t (Af 5 I (C3 I I dS (C3 I I dS (C3 I I dS (C3 I I dS (Af 8 I (tY (lg ⟨false, h, I2⟩ []))))))))
 rintro s ob ⟨B, h, rfl, rfl⟩
 refine Ao h I ?_ ?_
 intro W h
 refine Ai I ?_
 obtain rfl := K _ (oi h).symm
 have h := H
 have h := Dk h
 cases io h
 exact uE pr
 intro W h
 refine uA (tX (Af 3 I ?_))
 cases io h
 exact tY ⟨_, _, _, I, I2, J2, pk []⟩
 intro S h
 obtain rfl := K _ (oi h).symm
 have h := H
 have h := Dj h
 exact uG (lg ⟨(), h, I2⟩ [])
 rintro s ob ⟨G, h, rfl, rfl⟩
 unfold Rm.J2 at h
 refine Ai I ?_
 cases io h
 exact uE pr
theorem jL (a : List Bt) (r : Bool) (h : Sa a = some r) : ACalls Ak 89 [Q1 a] [] (RB r) := by
 refine Ag Tryz.func89 I I I fun C hC => ?_
 unfold Sa at h
 refine Ai I (Aj (fun s ob => ∃ (e : Unit), Sa.J1 e = some r ∧ s = [] ∧ ob = []) [] J ?_ ?_)
 refine Bg [.l 1 (a.length : Int)] I ⟨A4, J⟩ (uB (Cg 5 I fun t => ?_))
 obtain ⟨O, u, f⟩ := Ac h
 refine Cj u (K2 0 6) J2 (fun (b : Nat) (g : Unit) s ob => s = [(7, .V (b : Int))] ∧ ob = []) ⟨I, I⟩ ⟨I, J⟩ (pk []) ?_ ?_
 rintro b i g w s ob y j ⟨rfl, rfl⟩ h A
 unfold Sa.B2 at h
 have B := Cr j
 refine Ai I (Ab fun P D => Bq I B (uA ?_))
 subst D
 refine Aj (fun s ob => ∃ (m : Unit), Sa.J3 m = some w ∧ s = [] ∧ ob = []) (K3 0 6 7) J3 ?_ ?_
 refine uB (Ai I (Ai I (uB ?_)))
 obtain ⟨Q, E, n⟩ := Ac h
 refine Ci E (K4 0 3 6 7) J4 (fun (o : Int) s ob => s = [(4, .V o)] ∧ ob = []) ⟨I, I⟩ ⟨I, J⟩ (pk []) ?_
 rintro o R s ob ⟨rfl, rfl⟩ h p
 refine Ab fun S F => Ai I (Ao h I ?_ ?_)
 intro G h
 refine uA ?_
 subst F
 refine uD (uB (uD ?_))
 obtain ⟨d, ⟨H, K⟩, h⟩ := A5 h
 refine Bk (pd 9 0 []) [] [] I (Bv 8 [.x 2 b (rS i), .x 6 d.1 (rS d.2)] I ⟨⟨H, Ae K⟩, ⟨I, Ae y⟩, J⟩ (uN I (Yp.cmpS (c := Xz i d.2) I I I) I (Ap (tY (Ao h I ?_ ?_)))))
 intro M h
 refine Ai I ?_
 obtain rfl := p _ (oi h).symm
 have h := n
 have h := Dk h
 obtain rfl := A _ (oi h).symm
 have h := f
 have h := Dj h
 cases io h
 exact uE pr
 intro M h
 refine uA (tX (Af 3 I ?_))
 cases io h
 exact tY ⟨_, _, _, I, I2, J5, pk []⟩
 intro G h
 obtain rfl := p _ (oi h).symm
 have h := n
 have h := Dj h
 exact uG (lg ⟨(), h, I2⟩ [])
 rintro s ob ⟨m, h, rfl, rfl⟩
 unfold Sa.J3 at h
 refine tX (Am 2 [.k 0 (b + 1 : Nat)] I ⟨A6 j t, J⟩ ?_)
 cases io h
 exact tY ⟨_, _, _, I, I2, J3, pk []⟩
 rintro g s ob ⟨rfl, rfl⟩ he
 subst he
 have h := Dk f
 have N := Cs a.length
 exact Ai I (Ab fun U W => Br I N (uG (lg ⟨(), h, I2⟩ [])))
 rintro s ob ⟨e, h, rfl, rfl⟩
 unfold Sa.J1 at h
 refine Ai I ?_
 cases io h
 exact uE pr
theorem iE (a : Sg) (r : Bool) (h : Rl a = some r) : ACalls Ak 90 [.agg (Ar a)] [] (RB r) := by
 refine Ag Tryz.func90 I I I fun C hC => ?_
 unfold Rl at h
 refine Ab fun y1 K => tX (tZ [] I (Cf (Ar a) 7 fun u => Af 1 I (tY ?_)))
 subst K
 refine Ab fun y3 M => Aj (fun s ob => ∃ (w : Bool), Rl.J1 a w = some r ∧ s = [(49, .v (.bool w))] ∧ ob = [O5 u [Ar a]]) [(1, _)] J1 ?_ ?_
 refine Bk (pd 45 0 [8, 14, 20]) [0] [_] I (Bv 6 [.o 1 0, .o 3 0] I J2 ?_)
 rcases bt ((a.From == a.To)) with c | c
 have h := Cc c h
 exact A9 10 I c (A3 39 I (Ap (tY (lg ⟨true, h, I2⟩ [0]))))
 have h := Cd c h
 refine A9 10 I c (Bv 2 [.o 1 0] I J1 (Ja I (De a.Capacity 1 1000000 _ I) (A3 3 I ?_)))
 rcases bt ((!(Co a.Capacity 1 1000000))) with d | d
 have h := Cc d h
 exact A9 16 I d (A3 33 I (Ap (tY (lg ⟨true, h, I2⟩ [0]))))
 have h := Cd d h
 refine A9 16 I d (Bv 2 [.o 1 0] I J1 (Ja I (De a.Resist 0 1000 _ I) (A3 3 I ?_)))
 rcases bt ((!(Co a.Resist 0 1000))) with e | e
 have h := Cc e h
 exact A9 22 I e (A3 27 I (Ap (tY (lg ⟨true, h, I2⟩ [0]))))
 have h := Cd e h
 refine A9 22 I e (Bv 2 [.o 1 0] I J1 (Ja I (De a.Wave 0 100000 _ I) (A3 3 I ?_)))
 rcases bt ((!(Co a.Wave 0 100000))) with f | f
 have h := Cc f h
 exact A9 28 I f (A3 21 I (Ap (tY (lg ⟨true, h, I2⟩ [0]))))
 have h := Cd f h
 obtain ⟨y, ⟨N, O⟩, h⟩ := A5 h
 refine A9 28 I f (Bv 8 [.o 1 0, .x 2 y.1 (Cy y.2)] I ⟨⟨N, Ae O⟩, I, J⟩ ?_)
 rcases bt ((y.2.At != 0)) with g | g
 have h := Cc g h
 exact A9 36 I g (A3 13 I (Ap (tY (lg ⟨true, h, I2⟩ [0]))))
 have h := Cd g h
 obtain ⟨A, ⟨P, Q⟩, h⟩ := A5 h
 exact A9 36 I g (Bv 13 [.o 1 0, .o 3 0, .l 4 (a.Points.length : Int), .x 6 A.1 (Cy A.2), .o 10 0] I ⟨I, ⟨P, Ae Q⟩, A4, I, I, J⟩ (Ap (tY (lg ⟨(A.2.At != a.Capacity), h, I2⟩ [0]))))
 rintro s ob ⟨w, h, rfl, rfl⟩
 refine Ao h I ?_ ?_
 intro R h
 refine Ai I (uF g0 ?_)
 cases io h
 exact uE pr
 intro R h
 refine uA ?_
 subst M
 refine Aj (fun s ob => ∃ (E : Unit), Rl.J2 E = some r ∧ s = [] ∧ ob = []) [] J ?_ ?_
 refine Bg [.o 1 0, .l 2 (a.Points.length : Int)] I ⟨A4, I, J⟩ (uB (Cg 51 I fun S => ?_))
 obtain ⟨ai, U, F⟩ := Ac h
 refine Cj U (K3 1 51 52) J3 (fun (i : Nat) (G : Unit) s ob => s = [(53, .V (i : Int))] ∧ ob = [O5 u [Ar a]]) ⟨I, I⟩ ⟨I, J⟩ (pk [0]) ?_ ?_
 rintro i b G W s ob X H ⟨rfl, rfl⟩ h Y
 unfold Rl.B3 at h
 have Z := Cr H
 refine Ai I (Ab fun aj aa => Bq I Z (uA ?_))
 subst aa
 refine uD (uB (Ab fun ak ab => tX (Am 3 [.x 1 i (Cy b)] I ⟨⟨I, Ae X⟩, J⟩ (tZ [] I (Bs [.V 0, .V 0, .V 0] 3 fun al => Af 1 I (tZ [1] I (Bj 1 0 0 [Cy b] I (tY ?_))))))))
 subst ab
 refine Aj (fun s ob => ∃ (B : Bool), Rl.J4 B = some W ∧ s = [(83, .v (.bool B))] ∧ ob = [O5 u [Ar a]]) (K4 1 51 52 53) J4 ?_ ?_
 rcases bt (decide ((i : Int) > 0)) with j | j
 have h := Cc j h
 obtain ⟨D, ⟨ac, ad⟩, h⟩ := A5 h
 refine Bk (pd 26 0 [17, 23]) [1, 0] [_, _] I (A3 3 I (A9 60 I j (Bv 12 [.o 1 0, .o 3 1, .x 6 D.1 (Cy D.2)] I ⟨⟨ac, Ae ad⟩, I, I, J⟩ ?_)))
 rcases bt (decide (b.At ≤ D.2.At)) with n | n
 have h := Cc n h
 exact A9 72 I n (A3 11 I (Ap (tY (lg ⟨true, h, I2⟩ [0]))))
 have h := Cd n h
 refine A9 72 I n (Bv 2 [.o 1 0] I J1 (Ja I (De b.Height (-500) 5000 _ I) (A3 3 I ?_)))
 rcases bt ((!(Co b.Height (-500) 5000))) with p | p
 have h := Cc p h
 exact A9 78 I p (A3 5 I (Ap (tY (lg ⟨true, h, I2⟩ [0]))))
 have h := Cd p h
 exact A9 78 I p (Bv 2 [.o 1 0] I J1 (Ja I (De b.Limit 0 100000000 _ I) (A3 2 I (Ap (tY (lg ⟨(!(Co b.Limit 0 100000000)), h, I2⟩ [0]))))))
 have h := Cd j h
 refine Bk (pd 26 0 [17, 23]) [1] [_] I (A3 3 I (A9 60 I j (Bv 14 [.o 13 0] I J1 (Ja I (De b.Height (-500) 5000 _ I) (A3 3 I ?_)))))
 rcases bt ((!(Co b.Height (-500) 5000))) with t | t
 have h := Cc t h
 exact A9 78 I t (A3 5 I (Ap (tY (lg ⟨true, h, I2⟩ [0]))))
 have h := Cd t h
 exact A9 78 I t (Bv 2 [.o 1 0] I J1 (Ja I (De b.Limit 0 100000000 _ I) (A3 2 I (Ap (tY (lg ⟨(!(Co b.Limit 0 100000000)), h, I2⟩ [0]))))))
 rintro s ob ⟨B, h, rfl, rfl⟩
 refine Ao h I ?_ ?_
 intro ae h
 refine Ai I ?_
 obtain rfl := Y _ (oi h).symm
 have h := F
 have h := Dj h
 refine uF g0 ?_
 cases io h
 exact uE pr
 intro ae h
 refine uA (tX (Am 2 [.k 0 (i + 1 : Nat)] I ⟨A6 H S, J⟩ ?_))
 cases io h
 exact tY ⟨_, _, _, I, I2, J4, pk [0]⟩
 rintro G s ob ⟨rfl, rfl⟩ he
 subst he
 have h := Dk F
 have af := Cs a.Points.length
 exact Ai I (Ab fun am an => Br I af (uG (lg ⟨(), h, I2⟩ [])))
 rintro s ob ⟨E, h, rfl, rfl⟩
 unfold Rl.J2 at h
 refine Ai I ?_
 cases io h
 exact uE pr
theorem Kt (a : Nw) (r : Int) (h : Hq a = some r) : ACalls Ak 51 [.agg (Ad a)] [] (RV (.V r)) := by
 refine Ag Tryz.func51 I I I fun C hC => ?_
 unfold Hq at h
 refine Ab fun y1 bn => tX (tZ [] I (Cf (Ad a) 6 fun b => Af 1 I (tY ?_)))
 subst bn
 refine Ab fun y3 bo => Ea 49 ((!(Co (a.Nodes.length : Int) 1 24)) || (decide ((a.Segments.length : Int) > 32) || (decide ((a.Ports.length : Int) > 24) || decide ((a.Stations.length : Int) > 12)))) ?_ ?_
 refine tX (Am 3 [.o 1 0, .l 2 (a.Nodes.length : Int)] I ⟨A4, I, J⟩ (uJ (De (a.Nodes.length : Int) 1 24 _ I) (Af 2 I ?_)))
 rcases bt ((!(Co (a.Nodes.length : Int) 1 24))) with g | g
 exact Ah 32 I g (Af 17 I (tY (jf (by simp only [g, bz]) I I I2)))
 refine Ah 32 I g (Am 6 [.o 1 0, .l 2 (a.Segments.length : Int)] I ⟨A4, I, J⟩ ?_)
 rcases bt (decide ((a.Segments.length : Int) > 32)) with j | j
 exact Ah 38 I j (Af 11 I (tY (jf (by simp only [g, j, bz]) I I I2)))
 refine Ah 38 I j (Am 6 [.o 1 0, .l 2 (a.Ports.length : Int)] I ⟨A4, I, J⟩ ?_)
 rcases bt (decide ((a.Ports.length : Int) > 24)) with t | t
 exact Ah 44 I t (Af 5 I (tY (jf (by simp only [g, j, t, bz]) I I I2)))
 exact Ah 44 I t (Am 5 [.o 1 0, .l 2 (a.Stations.length : Int)] I ⟨A4, I, J⟩ (tY (jf (by simp only [g, j, t, bz]) I I I2)))
 refine Ao h I ?_ ?_
 intro bp h
 refine Ai I (uF g0 ?_)
 cases io h
 exact uE pr
 intro bp h
 refine uA ?_
 subst bo
 refine Aj (fun s ob => ∃ (Z : Unit), Hq.J1 a Z = some r ∧ s = [] ∧ ob = [O0 b [Ad a]]) [(1, _)] J1 ?_ ?_
 refine Bg [.o 1 0, .l 2 (a.Segments.length : Int)] I ⟨A4, I, J⟩ (uB (Cg 51 I fun bq => ?_))
 obtain ⟨e4, br, aa⟩ := Ac h
 refine Cj br (K3 1 51 52) J3 (fun (B : Nat) (ab : Unit) s ob => s = [(53, .V (B : Int))] ∧ ob = [O0 b [Ad a]]) ⟨I, I⟩ ⟨I, J⟩ (pk [0]) ?_ ?_
 rintro B D ab e5 s ob bs ac ⟨rfl, rfl⟩ h bu
 have bv := Cr ac
 refine Ai I (Ab fun e6 bw => Bq I bv (uA ?_))
 subst bw
 refine uD (uB (uD (tX (Am 2 [.x 0 B (Ar D)] I ⟨⟨I, Ae bs⟩, J⟩ (tZ [] I (Bs W2 7 fun e7 => tZ [1] I (Bj 1 0 0 [Ar D] I (tY (uD (tX (Am 3 [.o 1 1, .l 2 (D.Points.length : Int)] I ⟨A4, I, J⟩ (uJ (De (D.Points.length : Int) 2 8 _ I) (Af 1 I ?_)))))))))))))
 refine tY (Ao h I ?_ ?_)
 intro bx h
 refine Ai I ?_
 obtain rfl := bu _ (oi h).symm
 have h := aa
 have h := Dj h
 refine uF g0 ?_
 cases io h
 exact uE pr
 intro bx h
 refine uA (tX (Am 2 [.k 0 (B + 1 : Nat)] I ⟨A6 ac bq, J⟩ ?_))
 cases io h
 exact tY ⟨_, _, _, I, I2, J4, pk [0]⟩
 rintro ab s ob ⟨rfl, rfl⟩ he
 subst he
 have h := Dk aa
 have b0 := Cs a.Segments.length
 exact Ai I (Ab fun e8 e9 => Br I b0 (uG (lg ⟨(), h, I2⟩ [0])))
 rintro s ob ⟨Z, h, rfl, rfl⟩
 refine Ab fun fa b1 => ?_
 obtain ⟨f, b3, h⟩ := Ac h
 refine tX (Am 1 [.o 0 0] I J1 (tZ [] I (Bh I I I (iI _ _ b3) dS ?_)))
 rintro _ _ ⟨rfl, rfl⟩
 refine tZ [] I (Bs W3 4 fun E => tZ [1] I (uL 1 0 0 (es' := [f.l.map (cL 1 rS)]) I I I I I I I (by simp [Arr.h, An]) (by simp [Arr.h, An]) I (congrArg (fun r => [r]) (Ge (by simp [Arr.h, An]))) (tY ?_)))
 subst b1
 refine Aj (fun s ob => ∃ (ad : Unit), Hq.J2 a f ad = some r ∧ s = [] ∧ ob = [O0 b [Ad a], O4 E [f.l.map (cL 1 rS)]]) (K2 1 5) J2 ?_ ?_
 refine Ab fun fb b4 => tX (uI (Cq 1 0 0 I I I I I (y := .agg (f.l.map (cL 1 rS))) (Hy I (by simp [Arr.h, An]))) I (Af 1 I (tY ?_)))
 subst b4
 refine uB ?_
 have b5 : (4 : Nat) ≤ 9223372036854775806 := by decide
 obtain ⟨fc, b6, ae⟩ := Ac h
 refine Gj b6 (K3 1 5 65) J3 (fun (F : Nat) (af : Unit) s ob => s = [(66, .V (F : Int))] ∧ ob = [O0 b [Ad a], O4 E [f.l.map (cL 1 rS)]]) ⟨I, I⟩ ⟨I, J⟩ (pk [0, 1]) ?_ ?_
 rintro F af b7 s ob b8 ⟨rfl, rfl⟩ h b9
 unfold Hq.B21 at h
 have ca : decide ((F : Int) < 4) = true := decide_eq_true (by omega)
 refine Ai I (Ab fun fd cb => Bq I ca (uA ?_))
 subst cb
 refine Aj (fun s ob => ∃ (ag : Unit), Hq.J22 ag = some b7 ∧ s = [] ∧ ob = [O0 b [Ad a], O4 E [f.l.map (cL 1 rS)]]) (K4 1 5 65 66) J4 ?_ ?_
 refine uB (Ab fun fe cc => ?_)
 obtain ⟨U, ⟨cd, ce⟩, h⟩ := A5 h
 refine tX (uK (Hh (m := U.1) I I I I I I I cd ce (hlen := Arr.h _)) I (Af 1 I (tY ?_)))
 subst cc
 refine Bg [.l 1 (U.2.length : Int)] I ⟨A4, J⟩ (uB (Cg 69 I fun cf => ?_))
 obtain ⟨ff, cg, ah⟩ := Ac h
 refine Cj cg (K6 1 5 65 66 69 70) J6 (fun (G : Nat) (ai : Unit) s ob => s = [(71, .V (G : Int))] ∧ ob = [O0 b [Ad a], O4 E [f.l.map (cL 1 rS)]]) ⟨I, I⟩ ⟨I, J⟩ (pk [0, 1]) ?_ ?_
 rintro G ci ai fg s ob cj aj ⟨rfl, rfl⟩ h ck
 have cl := Cr aj
 refine Ai I (Ab fun fh cm => Bq I cl (uA ?_))
 subst cm
 refine uD (uB (Bg [.x 0 G (rS ci)] I ⟨⟨I, Ae cj⟩, J⟩ (uD ?_)))
 obtain ⟨fi, cn, h⟩ := Ac h
 refine tX (Af 1 I (uJ (iH _ _ cn) (Af 1 I (tY (Ao h I ?_ ?_)))))
 intro co h
 refine Ai I ?_
 obtain rfl := ck _ (oi h).symm
 have h := ah
 have h := Dj h
 obtain rfl := b9 _ (oi h).symm
 have h := ae
 have h := Dj h
 refine uF g0 ?_
 cases io h
 exact uE pr
 intro co h
 refine uA (tX (Am 2 [.k 0 (G + 1 : Nat)] I ⟨A6 aj cf, J⟩ ?_))
 cases io h
 exact tY ⟨_, _, _, I, I2, J7, pk [0, 1]⟩
 rintro ai s ob ⟨rfl, rfl⟩ he
 subst he
 have h := Dk ah
 have cp := Cs U.2.length
 exact Ai I (Ab fun fj fk => Br I cp (uG (lg ⟨(), h, I2⟩ [0, 1])))
 rintro s ob ⟨ag, h, rfl, rfl⟩
 unfold Hq.J22 at h
 refine tX (Am 2 [.k 0 (F + 1 : Nat)] I ⟨A6 b8 b5, J⟩ ?_)
 cases io h
 exact tY ⟨_, _, _, I, I2, J4, pk [0, 1]⟩
 rintro af s ob ⟨rfl, rfl⟩ he
 subst he
 have h := Dk ae
 have cq : decide (((4 : Nat) : Int) < 4) = false := by simp
 exact Ai I (Ab fun fl fm => Br I cq (uG (lg ⟨(), h, I2⟩ [0, 1])))
 rintro s ob ⟨ad, h, rfl, rfl⟩
 unfold Hq.J2 at h
 refine Aj (fun s ob => ∃ (ak : Unit), Hq.J3 a ak = some r ∧ s = [] ∧ ob = [O0 b [Ad a]]) [(1, _)] J1 ?_ ?_
 refine Ab fun fn cr => tX (uI (Cq 1 0 0 I I I I I (y := .agg (f.l.map (cL 1 rS))) (Hy I (by simp [Arr.h, An]))) I (Af 1 I (tY ?_)))
 subst cr
 refine uB ?_
 have ct : (4 : Nat) ≤ 9223372036854775806 := by decide
 obtain ⟨fo, cu, al⟩ := Ac h
 refine Gj cu (K2 1 80) J2 (fun (H : Nat) (am : Unit) s ob => s = [(81, .V (H : Int))] ∧ ob = [O0 b [Ad a]]) ⟨I, I⟩ ⟨I, J⟩ (pk [0]) ?_ ?_
 rintro H am fp s ob cv ⟨rfl, rfl⟩ h cw
 have cx : decide ((H : Int) < 4) = true := decide_eq_true (by omega)
 refine Ai I (Ab fun fq cy => Bq I cx (uA ?_))
 subst cy
 refine uD (uB (uD ?_))
 obtain ⟨cz, ⟨c0, c1⟩, h⟩ := A5 h
 refine tX (uK (Hh (m := cz.1) I I I I I I I c0 c1 (hlen := Arr.h _)) I (Af 1 I (tY (uD ?_))))
 obtain ⟨fr, c2, h⟩ := Ac h
 refine tX (Af 1 I (uJ (jL _ _ c2) (tY (Ao h I ?_ ?_))))
 intro c3 h
 refine Ai I ?_
 obtain rfl := cw _ (oi h).symm
 have h := al
 have h := Dj h
 refine uF g0 ?_
 cases io h
 exact uE pr
 intro c3 h
 refine uA (tX (Am 2 [.k 0 (H + 1 : Nat)] I ⟨A6 cv ct, J⟩ ?_))
 cases io h
 exact tY ⟨_, _, _, I, I2, J3, pk [0]⟩
 rintro am s ob ⟨rfl, rfl⟩ he
 subst he
 have h := Dk al
 have c4 : decide (((4 : Nat) : Int) < 4) = false := by simp
 exact Ai I (Ab fun fs ft => Br I c4 (uG (lg ⟨(), h, I2⟩ [0])))
 rintro s ob ⟨ak, h, rfl, rfl⟩
 unfold Hq.J3 at h
 refine Aj (fun s ob => ∃ (an : Unit), Hq.J4 a an = some r ∧ s = [] ∧ ob = [O0 b [Ad a]]) [(1, _)] J1 ?_ ?_
 refine Bg [.o 1 0, .l 2 (a.Stations.length : Int)] I ⟨A4, I, J⟩ (uB (Cg 88 I fun c5 => ?_))
 obtain ⟨fu, c6, ao⟩ := Ac h
 refine Cj c6 (K2 1 89) J2 (fun (K : Nat) (ap : Unit) s ob => s = [(90, .V (K : Int))] ∧ ob = [O0 b [Ad a]]) ⟨I, I⟩ ⟨I, J⟩ (pk [0]) ?_ ?_
 rintro K c7 ap c8 s ob c9 aq ⟨rfl, rfl⟩ h da
 unfold Hq.B17 at h
 have db := Cr aq
 refine Ai I (Ab fun fv dc => Bq I db (uA ?_))
 subst dc
 refine Aj (fun s ob => ∃ (ar : Unit), Hq.J18 ar = some c8 ∧ s = [] ∧ ob = [O0 b [Ad a]]) (K3 1 89 90) J3 ?_ ?_
 refine uB (Ai I (Ai I (uB ?_)))
 obtain ⟨fw, dd, au⟩ := Ac h
 refine Ci dd (K4 1 12 89 90) J4 (fun (av : Int) s ob => s = [(13, .V av)] ∧ ob = [O0 b [Ad a]]) ⟨I, I⟩ ⟨I, J⟩ (pk [0]) ?_
 rintro av fx s ob ⟨rfl, rfl⟩ h aw
 refine Ab fun fy de => Ai I (Ao h I ?_ ?_)
 intro df h
 refine uA ?_
 subst de
 refine uD (uB (uD ?_))
 obtain ⟨ax, ⟨dg, dh⟩, h⟩ := A5 h
 refine Ya (pd 13 0 []) [0] [_] [.o 1 0, .x 3 K (Bu c7), .o 7 0, .x 9 ax.1 (Bu ax.2)] I I ⟨⟨dg, Ae dh⟩, I, ⟨I, Ae c9⟩, I, J⟩ (Ao h I ?_ ?_)
 intro di h
 refine Ai I ?_
 obtain rfl := aw _ (oi h).symm
 have h := au
 have h := Dk h
 obtain rfl := da _ (oi h).symm
 have h := ao
 have h := Dj h
 refine uF g0 ?_
 cases io h
 exact uE pr
 intro di h
 refine uA (tX (Af 3 I ?_))
 cases io h
 exact tY ⟨_, _, _, I, I2, J5, pk [0]⟩
 intro df h
 obtain rfl := aw _ (oi h).symm
 have h := au
 have h := Dj h
 exact uG (lg ⟨(), h, I2⟩ [0])
 rintro s ob ⟨ar, h, rfl, rfl⟩
 unfold Hq.J18 at h
 refine tX (Am 2 [.k 0 (K + 1 : Nat)] I ⟨A6 aq c5, J⟩ ?_)
 cases io h
 exact tY ⟨_, _, _, I, I2, J3, pk [0]⟩
 rintro ap s ob ⟨rfl, rfl⟩ he
 subst he
 have h := Dk ao
 have dj := Cs a.Stations.length
 exact Ai I (Ab fun fz f0 => Br I dj (uG (lg ⟨(), h, I2⟩ [0])))
 rintro s ob ⟨an, h, rfl, rfl⟩
 unfold Hq.J4 at h
 refine Bg [.o 1 0, .l 2 (a.Nodes.length : Int)] I ⟨A4, I, J⟩ (Aj (fun s ob => ∃ (ay : Unit), Hq.J5 a ay = some r ∧ s = [] ∧ ob = [O0 b [Ad a]]) (K2 1 14) J2 ?_ ?_)
 refine Bg [.o 1 0, .l 2 (a.Segments.length : Int)] I ⟨A4, I, J⟩ (uB (Cg 117 I fun dk => ?_))
 obtain ⟨f1, dl, az⟩ := Ac h
 refine Cj dl (K4 1 14 117 118) J4 (fun (M : Nat) (a0 : Unit) s ob => s = [(119, .V (M : Int))] ∧ ob = [O0 b [Ad a]]) ⟨I, I⟩ ⟨I, J⟩ (pk [0]) ?_ ?_
 rintro M i a0 f2 s ob dm a1 ⟨rfl, rfl⟩ h dn
 unfold Hq.B16 at h
 have dp := Cr a1
 refine Ai I (Ab fun f3 dq => Bq I dp (uA ?_))
 subst dq
 refine uD (uB (Ab fun f4 dr => tX (Am 2 [.x 0 M (Ar i)] I ⟨⟨I, Ae dm⟩, J⟩ (tZ [] I (Bs W2 7 fun f5 => tZ [1] I (Bj 1 0 0 [Ar i] I (tY ?_)))))))
 subst dr
 refine Ea 134 ((!(Co i.From 0 (wr ((a.Nodes.length : Int) - 1)))) || (!(Co i.To 0 (wr ((a.Nodes.length : Int) - 1))))) ?_ ?_
 refine tX (Am 3 [.o 1 1] I J1 (uJ (De i.From 0 (wr ((a.Nodes.length : Int) - 1)) _ I) (Af 2 I ?_)))
 rcases bt ((!(Co i.From 0 (wr ((a.Nodes.length : Int) - 1))))) with u | u
 exact Ah 128 I u (Af 6 I (tY (jf (by simp only [u, bz]) I I I2)))
 exact Ah 128 I u (Am 3 [.o 1 1] I J1 (Bx I I I (uJ (De i.To 0 (wr ((a.Nodes.length : Int) - 1)) _ I) (Af 2 I (tY (jf (by simp only [u, bz]) I I I2))))))
 refine Ao h I ?_ ?_
 intro ds h
 refine Ai I ?_
 obtain rfl := dn _ (oi h).symm
 have h := az
 have h := Dj h
 refine uF g0 ?_
 cases io h
 exact uE pr
 intro ds h
 refine uA (tX (Am 2 [.k 0 (M + 1 : Nat)] I ⟨A6 a1 dk, J⟩ ?_))
 cases io h
 exact tY ⟨_, _, _, I, I2, J5, pk [0]⟩
 rintro a0 s ob ⟨rfl, rfl⟩ he
 subst he
 have h := Dk az
 have du := Cs a.Segments.length
 exact Ai I (Ab fun f6 f7 => Br I du (uG (lg ⟨(), h, I2⟩ [0])))
 rintro s ob ⟨ay, h, rfl, rfl⟩
 unfold Hq.J5 at h
 refine Aj (fun s ob => ∃ (a2 : Unit), Hq.J6 a a2 = some r ∧ s = [] ∧ ob = [O0 b [Ad a]]) (K2 1 14) J2 ?_ ?_
 refine Bg [.o 1 0, .l 2 (a.Ports.length : Int)] I ⟨A4, I, J⟩ (uB (Cg 137 I fun dv => ?_))
 obtain ⟨f8, dw, a3⟩ := Ac h
 refine Cj dw (K4 1 14 137 138) J4 (fun (O : Nat) (a4 : Unit) s ob => s = [(139, .V (O : Int))] ∧ ob = [O0 b [Ad a]]) ⟨I, I⟩ ⟨I, J⟩ (pk [0]) ?_ ?_
 rintro O W a4 f9 s ob dx a5 ⟨rfl, rfl⟩ h dy
 have dz := Cr a5
 refine Ai I (Ab fun ga d0 => Bq I dz (uA ?_))
 subst d0
 refine uD (uB (uD (tX (Am 2 [.x 0 O (Ca W)] I ⟨⟨I, Ae dx⟩, J⟩ (tZ [] I (Bs W4 3 fun gb => tZ [1] I (Bj 1 0 0 [Ca W] I (tY (uD (tX (Am 3 [.o 1 1] I J1 (uJ (De W.Node 0 (wr ((a.Nodes.length : Int) - 1)) _ I) (Af 1 I ?_)))))))))))))
 refine tY (Ao h I ?_ ?_)
 intro d1 h
 refine Ai I ?_
 obtain rfl := dy _ (oi h).symm
 have h := a3
 have h := Dj h
 refine uF g0 ?_
 cases io h
 exact uE pr
 intro d1 h
 refine uA (tX (Am 2 [.k 0 (O + 1 : Nat)] I ⟨A6 a5 dv, J⟩ ?_))
 cases io h
 exact tY ⟨_, _, _, I, I2, J5, pk [0]⟩
 rintro a4 s ob ⟨rfl, rfl⟩ he
 subst he
 have h := Dk a3
 have d2 := Cs a.Ports.length
 exact Ai I (Ab fun gc gd => Br I d2 (uG (lg ⟨(), h, I2⟩ [0])))
 rintro s ob ⟨a2, h, rfl, rfl⟩
 unfold Hq.J6 at h
 refine Aj (fun s ob => ∃ (a6 : Unit), Hq.J7 a a6 = some r ∧ s = [] ∧ ob = [O0 b [Ad a]]) [(1, _)] J1 ?_ ?_
 refine Bg [.o 1 0, .l 2 (a.Stations.length : Int)] I ⟨A4, I, J⟩ (uB (Cg 150 I fun d3 => ?_))
 obtain ⟨ge, d4, a7⟩ := Ac h
 refine Cj d4 (K4 1 14 150 151) J4 (fun (P : Nat) (a8 : Unit) s ob => s = [(152, .V (P : Int))] ∧ ob = [O0 b [Ad a]]) ⟨I, I⟩ ⟨I, J⟩ (pk [0]) ?_ ?_
 rintro P X a8 gf s ob d5 a9 ⟨rfl, rfl⟩ h d6
 have d7 := Cr a9
 refine Ai I (Ab fun gg d8 => Bq I d7 (uA ?_))
 subst d8
 refine uD (uB (uD (tX (Am 2 [.x 0 P (Bu X)] I ⟨⟨I, Ae d5⟩, J⟩ (tZ [] I (Bs W6 5 fun gh => tZ [1] I (Bj 1 0 0 [Bu X] I (tY (uD (tX (Am 3 [.o 1 1] I J1 (uJ (De X.Node 0 (wr ((a.Nodes.length : Int) - 1)) _ I) (Af 1 I ?_)))))))))))))
 refine tY (Ao h I ?_ ?_)
 intro d9 h
 refine Ai I ?_
 obtain rfl := d6 _ (oi h).symm
 have h := a7
 have h := Dj h
 refine uF g0 ?_
 cases io h
 exact uE pr
 intro d9 h
 refine uA (tX (Am 2 [.k 0 (P + 1 : Nat)] I ⟨A6 a9 d3, J⟩ ?_))
 cases io h
 exact tY ⟨_, _, _, I, I2, J5, pk [0]⟩
 rintro a8 s ob ⟨rfl, rfl⟩ he
 subst he
 have h := Dk a7
 have ea := Cs a.Stations.length
 exact Ai I (Ab fun gi gj => Br I ea (uG (lg ⟨(), h, I2⟩ [0])))
 rintro s ob ⟨a6, h, rfl, rfl⟩
 unfold Hq.J7 at h
 refine Aj (fun s ob => ∃ (ba : Unit), Hq.J8 a ba = some r ∧ s = [] ∧ ob = [O0 b [Ad a]]) [(1, _)] J1 ?_ ?_
 refine Bg [.o 1 0, .l 2 (a.Segments.length : Int)] I ⟨A4, I, J⟩ (uB (Cg 163 I fun eb => ?_))
 obtain ⟨gk, ec, bb⟩ := Ac h
 refine Cj ec (K3 1 163 164) J3 (fun (Q : Nat) (bc : Unit) s ob => s = [(165, .V (Q : Int))] ∧ ob = [O0 b [Ad a]]) ⟨I, I⟩ ⟨I, J⟩ (pk [0]) ?_ ?_
 rintro Q bd bc gl s ob ed be ⟨rfl, rfl⟩ h ee
 have ef := Cr be
 refine Ai I (Ab fun gm eg => Bq I ef (uA ?_))
 subst eg
 refine uD (uB (uD (tX (Am 2 [.x 0 Q (Ar bd)] I ⟨⟨I, Ae ed⟩, J⟩ (tZ [] I (Bs W2 7 fun gn => tZ [1] I (Bj 1 0 0 [Ar bd] I (tY (uD ?_)))))))))
 obtain ⟨go, eh, h⟩ := Ac h
 refine tX (Am 1 [.o 0 1] I J1 (uJ (iE _ _ eh) (Af 1 I (tY (Ao h I ?_ ?_)))))
 intro ei h
 refine Ai I ?_
 obtain rfl := ee _ (oi h).symm
 have h := bb
 have h := Dj h
 refine uF g0 ?_
 cases io h
 exact uE pr
 intro ei h
 refine uA (tX (Am 2 [.k 0 (Q + 1 : Nat)] I ⟨A6 be eb, J⟩ ?_))
 cases io h
 exact tY ⟨_, _, _, I, I2, J4, pk [0]⟩
 rintro bc s ob ⟨rfl, rfl⟩ he
 subst he
 have h := Dk bb
 have ej := Cs a.Segments.length
 exact Ai I (Ab fun gp gq => Br I ej (uG (lg ⟨(), h, I2⟩ [0])))
 rintro s ob ⟨ba, h, rfl, rfl⟩
 unfold Hq.J8 at h
 refine Aj (fun s ob => ∃ (bf : Unit), Hq.J9 a bf = some r ∧ s = [] ∧ ob = [O0 b [Ad a]]) [(1, _)] J1 ?_ ?_
 refine Bg [.o 1 0, .l 2 (a.Ports.length : Int)] I ⟨A4, I, J⟩ (uB (Cg 174 I fun ek => ?_))
 obtain ⟨gr, el, bg⟩ := Ac h
 refine Cj el (K3 1 174 175) J3 (fun (R : Nat) (bh : Unit) s ob => s = [(176, .V (R : Int))] ∧ ob = [O0 b [Ad a]]) ⟨I, I⟩ ⟨I, J⟩ (pk [0]) ?_ ?_
 rintro R Y bh gs s ob em bi ⟨rfl, rfl⟩ h en
 have eo := Cr bi
 refine Ai I (Ab fun gu ep => Bq I eo (uA ?_))
 subst ep
 refine uD (uB (uD (tX (Am 2 [.x 0 R (Ca Y)] I ⟨⟨I, Ae em⟩, J⟩ (tZ [] I (Bs W4 3 fun gv => tZ [1] I (Bj 1 0 0 [Ca Y] I (tY (uD (tX (Am 2 [.o 1 1] I J1 (uJ (De Y.Pressure 0 100000000 _ I) (Af 1 I ?_)))))))))))))
 refine tY (Ao h I ?_ ?_)
 intro eq h
 refine Ai I ?_
 obtain rfl := en _ (oi h).symm
 have h := bg
 have h := Dj h
 refine uF g0 ?_
 cases io h
 exact uE pr
 intro eq h
 refine uA (tX (Am 2 [.k 0 (R + 1 : Nat)] I ⟨A6 bi ek, J⟩ ?_))
 cases io h
 exact tY ⟨_, _, _, I, I2, J4, pk [0]⟩
 rintro bh s ob ⟨rfl, rfl⟩ he
 subst he
 have h := Dk bg
 have er := Cs a.Ports.length
 exact Ai I (Ab fun gw gx => Br I er (uG (lg ⟨(), h, I2⟩ [0])))
 rintro s ob ⟨bf, h, rfl, rfl⟩
 unfold Hq.J9 at h
 refine Aj (fun s ob => ∃ (bj : Unit), Hq.J10 a bj = some r ∧ s = [] ∧ ob = [O0 b [Ad a]]) [(1, _)] J1 ?_ ?_
 refine Bg [.o 1 0, .l 2 (a.Stations.length : Int)] I ⟨A4, I, J⟩ (uB (Cg 186 I fun es => ?_))
 obtain ⟨gy, et, bk⟩ := Ac h
 refine Cj et (K3 1 186 187) J3 (fun (S : Nat) (bl : Unit) s ob => s = [(188, .V (S : Int))] ∧ ob = [O0 b [Ad a]]) ⟨I, I⟩ ⟨I, J⟩ (pk [0]) ?_ ?_
 rintro S e bl gz s ob eu bm ⟨rfl, rfl⟩ h ev
 unfold Hq.B11 at h
 have ew := Cr bm
 refine Ai I (Ab fun g1 ex => Bq I ew (uA ?_))
 subst ex
 refine uD (uB (Ab fun g2 ey => tX (Am 2 [.x 0 S (Bu e)] I ⟨⟨I, Ae eu⟩, J⟩ (tZ [] I (Bs W6 5 fun g3 => tZ [1] I (Bj 1 0 0 [Bu e] I (tY ?_)))))))
 subst ey
 refine Ea 207 ((!(Co e.Head 0 100000000)) || ((!(Co e.Fall 0 100000)) || (!(Co e.Suction 0 100000000)))) ?_ ?_
 refine tX (Am 2 [.o 1 1] I J1 (uJ (De e.Head 0 100000000 _ I) (Af 2 I ?_)))
 rcases bt ((!(Co e.Head 0 100000000))) with n | n
 exact Ah 196 I n (Af 11 I (tY (jf (by simp only [n, bz]) I I I2)))
 refine Ah 196 I n (Am 2 [.o 1 1] I J1 (Bx I I I (uJ (De e.Fall 0 100000 _ I) (Af 3 I ?_))))
 rcases bt ((!(Co e.Fall 0 100000))) with w | w
 exact Ah 202 I w (Af 5 I (tY (jf (by simp only [n, w, bz]) I I I2)))
 exact Ah 202 I w (Am 2 [.o 1 1] I J1 (Bx I I I (uJ (De e.Suction 0 100000000 _ I) (Af 2 I (tY (jf (by simp only [n, w, bz]) I I I2))))))
 refine Ao h I ?_ ?_
 intro ez h
 refine Ai I ?_
 obtain rfl := ev _ (oi h).symm
 have h := bk
 have h := Dj h
 refine uF g0 ?_
 cases io h
 exact uE pr
 intro ez h
 refine uA (tX (Am 2 [.k 0 (S + 1 : Nat)] I ⟨A6 bm es, J⟩ ?_))
 cases io h
 exact tY ⟨_, _, _, I, I2, J4, pk [0]⟩
 rintro bl s ob ⟨rfl, rfl⟩ he
 subst he
 have h := Dk bk
 have e0 := Cs a.Stations.length
 exact Ai I (Ab fun g4 g5 => Br I e0 (uG (lg ⟨(), h, I2⟩ [0])))
 rintro s ob ⟨bj, h, rfl, rfl⟩
 unfold Hq.J10 at h
 refine uD (Ea 218 ((!(Co a.Vapour (-100000) 100000000)) || (!(Co a.Settle 0 100))) ?_ ?_)
 refine tX (Am 2 [.o 1 0] I J1 (uJ (De a.Vapour (-100000) 100000000 _ I) (Af 2 I ?_)))
 rcases bt ((!(Co a.Vapour (-100000) 100000000))) with A | A
 exact Ah 213 I A (Af 5 I (tY (jf (by simp only [A, bz]) I I I2)))
 exact Ah 213 I A (Am 2 [.o 1 0] I J1 (Bx I I I (uJ (De a.Settle 0 100 _ I) (Af 2 I (tY (jf (by simp only [A, bz]) I I I2))))))
 refine Ao h I ?_ ?_
 intro e1 h
 refine Ai I (uF g0 ?_)
 cases io h
 exact uE pr
 intro e1 h
 refine uA (Ai I (uF g0 ?_))
 cases io h
 exact uE pr
end Go.Proofs.YtaoclefkknloiaaGreat
