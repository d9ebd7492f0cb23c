/- Walks that show what functions of the program compute; printed by a program of ours. No condition. -/
import Derived.Test.YtaoclefkknloiaaGreatZwL0
import Derived.Test.YtaoclefkknloiaaGreatZwD
import Derived.Test.YtaoclefkknloiaaGreatZwB2
set_option maxRecDepth 100000
namespace Go.Proofs.YtaoclefkknloiaaGreat
open Go.Aw
set_option linter.unusedVariables false
set_option linter.unusedSimpArgs false
set_option maxHeartbeats 4000000
theorem Um (e : Nat) (O : KS) (P : Int) (D : Int) (r : (List Piece) × KS) (h : Nt O P D = some r) : ACalls Al 11 [.P e, .V P, .V D] [O2 e [Bs O]] (Fh 1 fun x os new => ∃ (Q : Value), x = .v Q ∧ os = [O2 e [Bs r.2]] ∧ new = [U1 Q r.1]) := by
 refine Ag Tryz.func11 I I I fun C hC => ?_
 unfold Nt at h
 refine Ai I (Ai I (Ak (fun s ob => ∃ (g : Li × Int × (List Piece)) (u : Value), Nt.J1 g = some r ∧ s = [(7, .v u)] ∧ ob = [O2 e [[Q0 g.1, .V g.2.1]], U1 u g.2.2]) [] J ?_ ?_))
 refine qH (qL (Ay 69 2) ?_)
 obtain ⟨ax, R, S⟩ := Ad h
 refine Dm R (K2 0 2) J2 (fun (a : Li × Int × Int × (List Piece)) s ob => ∃ (t : Value), s = [(1, .V a.2.2.1), (7, .v t)] ∧ ob = [O2 e [[Q0 a.1, .V a.2.1]], U1 t a.2.2.2]) ⟨nS, I2⟩ ⟨I, I, J⟩ (pk [0, 1]) ?_
 rintro a G s ob ⟨t, rfl, rfl⟩ h U
 unfold Nt.B2 at h
 refine Ac fun ay W => E9 15 (decide (a.2.2.1 > 0) && decide ((a.2.2.2.length : Int) < 12)) ?_ ?_
 refine qD (Af 3 I ?_)
 rcases bt (decide (a.2.2.1 > 0)) with w | w
 exact Ah 11 I w (Af 1 I (Bj I I I (qN (Bu 1 I I I I) I (Af 2 I (qE (jf (by simp only [w, bz]) I I I2))))))
 exact Ah 11 I w (Af 4 I (qE (jf (by simp only [w, bz]) I I I2)))
 refine Av h I ?_ ?_
 intro X h
 refine qI ?_
 subst W
 refine qH (Ac fun az Y => ?_)
 obtain ⟨j, Z, h⟩ := Ad h
 obtain ⟨k, aa, h⟩ := Ad h
 refine qD (Af 2 I (qF [0] I (A7 [0] (Ch e _ _ _ Z) ?_)))
 refine Ao 5 [.f 3 (.V (wr ((wr (a.2.2.1 * 2)).tdiv 3)))] I ⟨qY (Iu (c := wr ((wr (a.2.2.1 * 2)).tdiv 3)) I I ⟨by decide, I⟩), J⟩ (qF [0] I (A7 [0] (E3 e _ _ _ _ aa) ?_))
 refine qQ (Bi (l := [.V j.1, .V k.1]) Ct I) I (qF [] I (B0 [.V 0, .V 0] 2 fun H => qF [2] I (By 2 0 0 [[.V j.1, .V k.1]] I (qE ?_))))
 subst Y
 refine Ak (fun s ob => ∃ (i : Int), Nt.J3 D a j k i = some G ∧ s = [] ∧ ob = [O2 e [Bs k.2], U1 t a.2.2.2, O7 H [[.V j.1, .V i]]]) (K5 0 1 2 7 8) J5 ?_ ?_
 refine qJ (qD (Af 1 I (qN (Bu 1 I I I I) I (Af 1 I (qE (Av h I ?_ ?_))))))
 intro ab h
 exact qD (Af 2 I (qF [2] I (By 2 0 1 [[.V j.1, .V a.2.2.1]] I (qE (lg ⟨a.2.2.1, h, I2⟩ N3)))))
 intro ab h
 exact qI (lg ⟨k.1, h, I2⟩ N3)
 rintro s ob ⟨i, h, rfl, rfl⟩
 unfold Nt.J3 at h
 refine Ac fun a0 ac => qD (Ao 5 [.o 1 2] I J1 (qF [2] I (By 2 0 1 [[.V j.1, .V (min i a.2.2.1)]] I (qE ?_))))
 subst ac
 refine Ak (fun s ob => ∃ (E : Int), Nt.J4 a k i E = some G ∧ s = [(1, .V a.2.2.1)] ∧ ob = [O2 e [Bs k.2], U1 t a.2.2.2, O7 H [[.V E, .V (min i a.2.2.1)]]]) (K4 0 2 7 8) J4 ?_ ?_
 refine Ak (fun s ob => ∃ (K : Bool), Nt.J5 D a j k i K = some G ∧ s = [(50, .v (.bool K))] ∧ ob = [O2 e [Bs k.2], U1 t a.2.2.2, O7 H [[.V j.1, .V (min i a.2.2.1)]]]) (K5 0 1 2 7 8) J5 ?_ ?_
 rcases bt (decide ((a.2.2.2.length : Int) > 0)) with A | A
 have h := Cb A h
 obtain ⟨B, ⟨ad, M⟩, h⟩ := Bc h
 refine Dt 1 I fun ae => Dt 1 I fun af => Cl 1 B.1 I M fun ag => Bv (pd 15 0 []) [1, 2] [_, _] I (A9 1 I (qV I (Ds I I I ae) I (A9 2 I (A8 39 I A (A9 2 I (Dl I I I I ((Ds I I I af).yd) dS (A9 1 I (Dl I I I I ((A3 (m := B.1) I I I I I ag I ad M).yd) dS (A9 1 I ?_)))))))))
 exact Dl I I I I (Ax 0 B.1 0 I I I (Ae M) I (y := .V B.2.Batch) I) dS (Cf 4 [.o 1 1] I J1 (Ar (qE (lg ⟨(B.2.Batch == j.1), h, I2⟩ N3))))
 have h := Cc A h
 exact Dt 1 I fun ah => Bv (pd 15 0 []) [] [] I (A9 1 I (qV I (Ds I I I ah) I (A9 2 I (A8 39 I A (A9 11 I (Ar (qE (lg ⟨false, h, I2⟩ N3))))))))
 rintro s ob ⟨K, h, rfl, rfl⟩
 refine Av h I ?_ ?_
 intro ai h
 refine Ac fun a1 aj => ?_
 obtain ⟨F, ak, h⟩ := Ad h
 refine qD (Ao 6 [.o 1 2, .f 4 (.V F)] I ⟨qY (Iu (c := F) I I (W6 ak)), I, J⟩ (qF [2] I (By 2 0 0 [[.V F, .V (min i a.2.2.1)]] I (qE ?_))))
 subst aj
 refine Ac fun a2 al => ?_
 obtain ⟨b, ⟨N, n⟩, h⟩ := Bc h
 refine Dt 1 I fun am => Cl 1 b.1 I n fun an => Bv (pd 10 0 []) [1, 2] [_, _] I (A9 2 I (qV I (Ds I I I am) I (A9 1 I (qV I (A3 (m := b.1) I I I I I an I N n) I (A9 1 I (AP.o I (Ax 0 b.1 0 I I I (Ae n) I (y := .V b.2.Batch) I) I (Cf 3 [.o 1 1] I J1 (Ar (qE ?_)))))))))
 subst al
 refine Av h I ?_ ?_
 intro ao h
 refine qJ (Dt 1 I fun aq => Cl 1 b.1 I n fun ar => Cl 1 b.1 I n fun au => Bv (sl 12 0 (.drop 12 .nil)) [1, 2] [_, _] I (A9 2 I (qV I (Ds I I I aq) I (A9 1 I (qV I (A3 (m := b.1) I I I I I ar I N n) I (A9 1 I (AP.o I (Ax 0 b.1 1 I I I (Ae n) I (y := .V b.2.Volume) I) I (Cf 3 [.o 1 1] I J1 (qV I (A3 (m := b.1) I I I I I au I N n) I ?_)))))))))
 refine A9 1 I (qX [1] I I I (Bh 1 b.1 1 I I I (Ae n) I I I I (Be I) I (Cj (x := (⟨b.2.Batch, wr (b.2.Volume + (min i a.2.2.1))⟩ : Piece)) I) (Ar (qE (Bk [.o 2 2] I J1 ?_)))))
 cases io h
 refine qM ?_
 exact ⟨_, _, _, I, ⟨t, I2⟩, J4, pk [0, 1]⟩
 intro ao h
 exact qI (lg ⟨F, h, I2⟩ N3)
 intro ai h
 exact qI (lg ⟨j.1, h, I2⟩ N3)
 rintro s ob ⟨E, h, rfl, rfl⟩
 refine Bk [.o 2 2] I J1 ?_
 obtain ⟨a3, av, h⟩ := Ad h
 refine qD (Ao 2 [.o 1 2] I J1 (qF [] I (qO 2 (([(⟨E, (min i a.2.2.1)⟩ : Piece)] : List Piece).map Aa) (qF [1] I (qU 1 I av fun aw => Af 1 I ?_)))))
 cases io h
 exact qE ⟨_, _, _, I, ⟨aw, I2⟩, J4, pk [0, 1]⟩
 intro X h
 obtain rfl := U _ (oi h).symm
 have h := S
 exact qM (lg ⟨(a.1, a.2.1, a.2.2.2), t, h, I2⟩ [0, 1])
 rintro s ob ⟨g, u, h, rfl, rfl⟩
 refine Ai I ?_
 obtain rfl := oi h
 exact qK ⟨.inr I, [_], [O2 e [[Q0 g.1, .V g.2.1]], U1 u g.2.2], J1, Ca I (Ca I (Cv)), ⟨[O2 e [[Q0 g.1, .V g.2.1]]], [U1 u g.2.2], I, I, u, I3⟩⟩
theorem Uq (b : Nat) (n : KS) (f : Nw) (p : Int) (r : (List (List Piece)) × KS) (h : Rd n f p = some r) : ACalls Al 8 [.P b, .agg (Ab f), .V p] [O2 b [Bs n]] (Fh 1 fun x os new => ∃ (t : Value), x = .v t ∧ os = [O2 b [Bs r.2]] ∧ new = [.us t 34 1 (r.1.map (rL 2 Aa))]) := by
 refine Ag Tryz.func8 I I I fun C hC => ?_
 unfold Rd at h
 refine Ac fun R w => qD (qF [] I (Cp (Ab f) 6 fun S => Af 1 I (qE ?_)))
 subst w
 refine Ai I (Ak (fun s ob => ∃ (a : Li × Int × (List (List Piece))) (d : Value), Rd.J1 a = some r ∧ s = [(7, .v d)] ∧ ob = [O2 b [[Q0 a.1, .V a.2.1]], .us d 34 1 (a.2.2.map (rL 2 Aa))]) [] J ?_ ?_)
 refine Bk [.o 1 1, .l 2 (f.Segments.length : Int)] I ⟨A6, I, J⟩ (qH (Cd 11 I fun y => qL (Ay 34 1) ?_))
 obtain ⟨U, A, B⟩ := Ad h
 refine Cr A (K4 0 2 11 12) J4 (fun (g : Nat) (c : Li × Int × (List (List Piece))) s ob => ∃ (e : Value), s = [(13, .V (g : Int)), (7, .v e)] ∧ ob = [O2 b [[Q0 c.1, .V c.2.1]], .us e 34 1 (c.2.2.map (rL 2 Aa))]) ⟨nS, I2⟩ ⟨I, I, J⟩ (pk [0, 2]) ?_ ?_
 rintro g j c W s ob D u ⟨e, rfl, rfl⟩ h
 have E := Cm u
 refine Ai I (Ac fun X F => Bl I E (qI ?_))
 subst F
 refine qJ (qH (qJ (qD (Ao 2 [.x 0 g (Au j)] I ⟨⟨I, Ae D⟩, J⟩ (qF [] I (B0 W1 7 fun G => qF [2] I (By 2 0 0 [Au j] I (qE ?_))))))))
 obtain ⟨i, H, h⟩ := Ad h
 obtain ⟨Y, M, h⟩ := Ad h
 refine qD (Ao 5 [.o 3 2] I J1 (qF [0] I (E8 [0] (Um b _ _ _ _ H) ?_)))
 rintro _ _ _ - ⟨O, rfl, rfl, rfl⟩
 refine qS (As [3] (K := [U1 O i.1]) I [(22, Q3 i.1)] ⟨⟨_, I, .us 0 I⟩, J⟩ (ob' := [O2 b [Bs i.2], .us e 34 1 (c.2.2.map (rL 2 Aa)), O5 G [Au j]]) (.rest _)) (qF [] I (qO 1 (([i.1] : List (List Piece)).map (rL 2 Aa)) (qF [1] I (qU 1 I M fun P => Af 1 I (qE (qD (Ao 2 [.k 0 (g + 1 : Nat)] I ⟨Az u y, J⟩ ?_)))))))
 cases io h
 exact qE (lg ⟨P, I2⟩ [0, 1])
 rintro c s ob ⟨e, rfl, rfl⟩ he
 subst he
 have h := B
 have Q := Cn f.Segments.length
 exact Ai I (Ac fun Z aa => Bm I Q (qM (lg ⟨(c.1, c.2.1, c.2.2), e, h, I2⟩ [0, 1])))
 rintro s ob ⟨a, d, h, rfl, rfl⟩
 refine Ai I ?_
 obtain rfl := oi h
 exact qK ⟨.inr I, [_], [O2 b [[Q0 a.1, .V a.2.1]], .us d 34 1 (a.2.2.map (rL 2 Aa))], J1, Ca I (Ca I (Cv)), ⟨[O2 b [[Q0 a.1, .V a.2.1]]], [.us d 34 1 (a.2.2.map (rL 2 Aa))], I, I, d, I3⟩⟩
theorem Kr (b : Nat) (g : KS) (e : Nw) (i : Int) (r : Li × KS) (h : Ql g e i = some r) : ACalls Al 10 [.P b, .agg (Ab e), .V i] [O2 b [Bs g]] (Fh 1 fun x os new => ∃ (j : Value), x = .v j ∧ os = [O2 b [Bs r.2]] ∧ new = [U0 j r.1]) := by
 refine Ag Tryz.func10 I I I fun C hC => ?_
 unfold Ql at h
 refine Ac fun F k => qD (qF [] I (Cp (Ab e) 6 fun n => Af 1 I (qE ?_)))
 subst k
 refine Ai I (Ak (fun s ob => ∃ (a : Li × Int × Li) (d : Value), Ql.J1 a = some r ∧ s = [(7, .v d)] ∧ ob = [O2 b [[Q0 a.1, .V a.2.1]], U0 d a.2.2]) [] J ?_ ?_)
 refine Ai I (qH (qL (Ay 3 1) ?_))
 obtain ⟨G, p, t⟩ := Ad h
 refine Dm p (K3 0 2 4) J3 (fun (c : Li × Int × Li × Int) s ob => ∃ (f : Value), s = [(7, .v f), (8, .V c.2.2.2)] ∧ ob = [O2 b [[Q0 c.1, .V c.2.1]], O0 n [Ab e], U0 f c.2.2.1]) ⟨nS, I2⟩ ⟨I, I, J⟩ (pk N3) ?_
 rintro c H s ob ⟨f, rfl, rfl⟩ h u
 refine Ac fun K w => Bk [.o 2 1, .l 3 (e.Ports.length : Int)] I ⟨A6, I, J⟩ (Av h I ?_ ?_)
 intro y h
 refine qI ?_
 subst w
 refine qJ (qH ?_)
 obtain ⟨A, B, h⟩ := Ad h
 obtain ⟨M, D, h⟩ := Ad h
 refine qD (Af 3 I (qF [0] I (A7 [0] (Ch b _ _ _ B) ?_)))
 refine qF [] I (qO 1 (([A.1] : Li).map rI) (qF [2] I (qU 2 I D fun E => Af 1 I (qE (qD (Af 3 I ?_))))))
 cases io h
 exact qE ⟨_, _, _, I, ⟨E, I2⟩, J5, pk N3⟩
 intro y h
 obtain rfl := u _ (oi h).symm
 have h := t
 exact qM (lg ⟨(c.1, c.2.1, c.2.2.1), f, h, I2⟩ [0, 2])
 rintro s ob ⟨a, d, h, rfl, rfl⟩
 refine Ai I ?_
 obtain rfl := oi h
 exact qK ⟨.inr I, [_], [O2 b [[Q0 a.1, .V a.2.1]], U0 d a.2.2], J1, Ca I (Ca I (Cv)), ⟨[O2 b [[Q0 a.1, .V a.2.1]]], [U0 d a.2.2], I, I, d, I3⟩⟩
theorem cJ (a : Nw) (b : Plan) (r : Li × Int) (h : Ve a b = some r) : ACalls Al 92 [.agg (Ab a), .agg (Aj b)] [] (fun x new => ∃ (d : Value), x = .tup [.v d, .V r.2] ∧ new = [U0 d r.1]) := by
 refine Ag Tryz.func92 I I I fun C hC => ?_
 refine Ac fun l f => qD (qF [] I (Cp (Ab a) 6 fun n => qF [] I (Cp (Aj b) 3 fun p => Af 2 I (qE ?_))))
 subst f
 refine qJ (qJ ?_)
 obtain ⟨s, g, h⟩ := Ad h
 refine qD (Ao 2 [.o 0 0, .o 1 1] I J2 (qR (dK _ _ _ g) (Af 1 I (qE (Ai I (Av h I ?_ ?_))))))
 intro i h
 refine Ai I (qL (Ay 3 1) (Dd [2] I ?_))
 cases io h
 exact qK ⟨.inr I, [_, _], [.us nS 3 1 ([].map rI)], J2, Ca I (Cv), ⟨nS, I2⟩⟩
 intro i h
 refine qI (qJ ?_)
 obtain ⟨j, k, h⟩ := Ad h
 refine qD (Ao 2 [.o 0 0, .o 1 1] I J2 (qF [] I (Bg I I I (T8 _ _ _ k) dS ?_)))
 rintro _ _ ⟨e, rfl, rfl⟩
 refine Af 2 I (qE (Dd [2] I ?_))
 cases io h
 exact qK ⟨.inr I, [_, _], [U0 e j], J2, Ca I (Cv), ⟨e, I2⟩⟩
theorem Uc (a : Piece) (r : Bool) (h : Ho a = r) : ACalls Al 84 [.agg (Aa a)] [] (RB r) := by
 refine Ag Tryz.func84 I I I fun C hC => ?_
 unfold Ho at h
 refine Ac fun f e => qD (qF [] I (Cp (Aa a) 2 fun g => Af 1 I (qE ?_)))
 subst e
 refine Ak (fun s ob => s = [(2, .v (.bool (decide (a.Batch ≥ 0) && (decide (a.Batch < 1000) && (decide (a.Volume ≥ 0) && decide (a.Volume ≤ 1000000))))))] ∧ ob = []) [] J ?_ ?_
 refine qD (Ao 4 [.o 1 0] I J1 ?_)
 rcases bt (decide (a.Batch ≥ 0)) with b | b
 refine Ah 6 I b (Ao 5 [.o 1 0] I J1 ?_)
 rcases bt (decide (a.Batch < 1000)) with c | c
 refine Ah 11 I c (Ao 5 [.o 1 0] I J1 ?_)
 rcases bt (decide (a.Volume ≥ 0)) with d | d
 refine Ah 16 I d (Ao 5 [.o 1 0] I J1 (qE ?_))
 exact lf I2 ⟨(D3 (by simp only [b, c, d, bz])), J⟩ [] I
 refine Ah 16 I d (Af 5 I (qE ?_))
 exact lf I2 ⟨(D3 (by simp only [b, c, d, bz])), J⟩ [] I
 refine Ah 11 I c (Af 10 I (qE ?_))
 exact lf I2 ⟨(D3 (by simp only [b, c, bz])), J⟩ [] I
 refine Ah 6 I b (Af 15 I (qE ?_))
 exact lf I2 ⟨(D3 (by simp only [b, bz])), J⟩ [] I
 rintro s ob ⟨rfl, rfl⟩
 obtain rfl := h
 exact qK pr
theorem Ks (a : List Piece) (r : Int) (h : Jk a = some r) : ACalls Al 85 [Q3 a] [] (RV (.V r)) := by
 refine Ag Tryz.func85 I I I fun C hC => ?_
 unfold Jk at h
 refine Ai I (Ai I (Ak (fun s ob => ∃ (d : Int), Jk.J1 d = some r ∧ s = [(3, .V d)] ∧ ob = []) [] J ?_ ?_))
 refine Bk [.l 1 (a.length : Int)] I ⟨A6, J⟩ (qH (Cd 6 I fun g => ?_))
 obtain ⟨u, i, j⟩ := Ad h
 refine Cr i (K2 6 7) J2 (fun (b : Nat) (c : Int) s ob => s = [(8, .V (b : Int)), (3, .V c)] ∧ ob = []) ⟨I, I⟩ ⟨I, I, J⟩ (pk []) ?_ ?_
 rintro b e c w s ob n f ⟨rfl, rfl⟩ h
 unfold Jk.B2 at h
 have p := Cm f
 refine Ai I (Ac fun y q => Bl I p (qI ?_))
 subst q
 refine qJ (qH (qJ (qD (Ao 2 [.x 0 b (Aa e)] I ⟨⟨I, Ae n⟩, J⟩ (qF [] I (B0 [.V 0, .V 0] 2 fun A => qF [0] I (By 0 0 0 [Aa e] I (qE (Lb [.o 2 0] I J1 (qD (Ao 2 [.k 0 (b + 1 : Nat)] I ⟨Az f g, J⟩ ?_)))))))))))
 cases io h
 exact qE (lg I2 [])
 rintro c s ob ⟨rfl, rfl⟩ he
 subst he
 have h := j
 have t := Cn a.length
 exact Ai I (Ac fun B D => Bm I t (qM (lg ⟨c, h, I2⟩ [])))
 rintro s ob ⟨d, h, rfl, rfl⟩
 unfold Jk.J1 at h
 refine Ai I ?_
 cases io h
 exact qK pr
theorem Kp (a : List Piece) (r : Bool) (h : Hm a = some r) : ACalls Al 49 [Q3 a] [] (RB r) := by
 refine Ag Tryz.func49 I I I fun C hC => ?_
 refine Ai I (Ac fun R w => Bk [.l 1 (a.length : Int)] I ⟨A6, J⟩ (Av h I ?_ ?_))
 intro y h
 refine Ai I ?_
 cases io h
 exact qK pr
 intro y h
 refine qI ?_
 subst w
 refine Ak (fun s ob => ∃ (n : Unit), Hm.J1 a n = some r ∧ s = [] ∧ ob = []) [(0, _)] J1 ?_ ?_
 refine Bk [.l 1 (a.length : Int)] I ⟨A6, J⟩ (qH (Cd 8 I fun A => ?_))
 obtain ⟨S, B, p⟩ := Ad h
 refine Cg B (K3 0 8 9) J3 (fun (d : Nat) (t : Unit) s ob => s = [(10, .V (d : Int))] ∧ ob = []) ⟨I, I⟩ ⟨I, J⟩ (pk []) ?_ ?_
 rintro d b t D s ob E u ⟨rfl, rfl⟩ h F
 unfold Hm.B2 at h
 have G := Cm u
 refine Ai I (Ac fun U H => Bl I G (qI ?_))
 subst H
 refine qJ (qH (Ac fun W K => qD (Ao 3 [.x 1 d (Aa b)] I ⟨⟨I, Ae E⟩, J⟩ (qF [] I (B0 [.V 0, .V 0] 2 fun X => Af 1 I (qF [0] I (By 0 0 0 [Aa b] I (qE ?_))))))))
 subst K
 refine Ak (fun s ob => ∃ (i : Bool), Hm.J3 i = some D ∧ s = [(37, .v (.bool i))] ∧ ob = []) (K4 0 8 9 10) J4 ?_ ?_
 refine Bv (pd 23 0 [1]) [0] [_] I (Cf 1 [.o 0 0] I J1 (rD I (Uc b _ I) (A9 2 I ?_)))
 rcases bt ((!(Ho b))) with e | e
 have h := Cb e h
 refine A8 18 I e (A9 8 I (Ap I I I I dS (Ap I I I I dS (Ap I I I I dS (Ap I I I I dS (Ap I I I I dS (Ap I I I I dS (Ap I I I I dS (Ap I I I I dS (Ap I I I I dS (A9 2 I (Ar ?_))))))))))))
 exact qE (lg ⟨true, h, I2⟩ [])
 have h := Cc e h
 refine A8 18 I e (Cf 5 [.o 1 0] I J1 ?_)
 rcases bt ((b.Volume == 0)) with f | f
 have h := Cb f h
 refine A8 23 I f (A9 3 I (Ap I I I I dS (Ap I I I I dS (Ap I I I I dS (Ap I I I I dS (Ap I I I I dS (Ap I I I I dS (Ap I I I I dS (Ap I I I I dS (Ap I I I I dS (A9 2 I (Ar ?_))))))))))))
 exact qE (lg ⟨true, h, I2⟩ [])
 have h := Cc f h
 refine A8 23 I f (A9 3 I ?_)
 rcases bt (decide ((d : Int) > 0)) with g | g
 have h := Cb g h
 obtain ⟨j, ⟨M, N⟩, h⟩ := Bc h
 exact A8 26 I g (Cf 11 [.x 3 j.1 (Aa j.2), .o 7 0] I ⟨I, ⟨M, Ae N⟩, J⟩ (Ar (qE (lg ⟨(j.2.Batch == b.Batch), h, I2⟩ []))))
 have h := Cc g h
 exact A8 26 I g (A9 11 I (Ar (qE (lg ⟨false, h, I2⟩ []))))
 rintro s ob ⟨i, h, rfl, rfl⟩
 refine Av h I ?_ ?_
 intro O h
 refine Ai I ?_
 obtain rfl := F _ (oi h).symm
 have h := p
 have h := Dj h
 cases io h
 exact qK pr
 intro O h
 refine qI (qD (Ao 2 [.k 0 (d + 1 : Nat)] I ⟨Az u A, J⟩ ?_))
 cases io h
 exact qE ⟨_, _, _, I, I2, J4, pk []⟩
 rintro t s ob ⟨rfl, rfl⟩ he
 subst he
 have h := Dp p
 have P := Cn a.length
 exact Ai I (Ac fun Y Z => Bm I P (qM (lg ⟨(), h, I2⟩ [])))
 rintro s ob ⟨n, h, rfl, rfl⟩
 refine qJ ?_
 obtain ⟨aa, Q, h⟩ := Ad h
 refine qD (Af 1 I (qR (Ks _ _ Q) (Af 2 I (qE ?_))))
 cases io h
 exact qK pr
theorem cZ (a : List Piece) (r : Int) (h : Vh a = some r) : ACalls Al 50 [Q3 a] [] (RV (.V r)) := by
 refine Ag Tryz.func50 I I I fun C hC => ?_
 refine Ai I (qJ (qJ ?_))
 obtain ⟨f, b, h⟩ := Ad h
 refine qD (Af 1 I (qR (Kp _ _ b) (Af 1 I (qE (Av h I ?_ ?_)))))
 intro d h
 refine Ai I ?_
 cases io h
 exact qK pr
 intro d h
 refine qI (qJ ?_)
 obtain ⟨g, e, h⟩ := Ad h
 refine qD (Af 1 I (qR (Ks _ _ e) (Af 1 I (qE ?_))))
 cases io h
 exact qK pr
theorem dN (a : List Piece) (F1 : T) {c : FuncId} {d e : List T} (o : Kz F1 = some (c, d, e)) (f : Piece → Option Bool) (p : ∀ (g : Piece) r, f g = some r → ACalls Al c (d ++ [.agg (Aa g)] ++ e) [] (RB r)) (r : Int) (h : Qr a f = some r) : ACalls Al 150 [Q3 a, F1] [] (RV (.V r)) := by
 refine Ag Tryz.func150 I I I fun C hC => ?_
 unfold Qr at h
 refine Ai I (Ak (fun s ob => ∃ (i : Unit), Qr.J1 i = some r ∧ s = [] ∧ ob = []) [] J ?_ ?_)
 refine Bk [.l 1 (a.length : Int)] I ⟨A6, J⟩ (qH (Cd 6 I fun q => ?_))
 obtain ⟨G, t, j⟩ := Ad h
 refine Cg t (K3 0 1 7) J3 (fun (b : Nat) (m : Unit) s ob => s = [(8, .V (b : Int))] ∧ ob = []) ⟨I, I⟩ ⟨I, J⟩ (pk []) ?_ ?_
 rintro b u m H s ob w n ⟨rfl, rfl⟩ h y
 have A := Cm n
 refine Ai I (Ac fun K B => Bl I A (qI ?_))
 subst B
 refine qJ (qH (Ai I (qJ ?_)))
 obtain ⟨M, D, h⟩ := Ad h
 refine qD (Ao 5 [.x 3 b (Aa u)] I ⟨⟨I, Ae w⟩, J⟩ (qF [] I (Cz I (.refl _) o I (.rest _) I (p _ _ D) dS (by rintro _ _ ⟨rfl, _⟩; rfl) ?_)))
 rintro _ ⟨_, rfl, -⟩
 refine qE (Av h I ?_ ?_)
 intro E h
 refine Ai I ?_
 obtain rfl := y _ (oi h).symm
 have h := j
 have h := Dj h
 cases io h
 exact qK pr
 intro E h
 refine qI (qD (Ao 2 [.k 0 (b + 1 : Nat)] I ⟨Az n q, J⟩ ?_))
 cases io h
 exact qE ⟨_, _, _, I, I2, J4, pk []⟩
 rintro m s ob ⟨rfl, rfl⟩ he
 subst he
 have h := Dp j
 have F := Cn a.length
 exact Ai I (Ac fun N O => Bm I F (qM (lg ⟨(), h, I2⟩ [])))
 rintro s ob ⟨i, h, rfl, rfl⟩
 unfold Qr.J1 at h
 refine Ai I ?_
 cases io h
 exact qK pr
theorem cK (b : List Piece) (F1 : T) {d : FuncId} {e f : List T} (i : Kz F1 = some (d, e, f)) (a : Piece → Option Bool) (j : ∀ (g : Piece) r, a g = some r → ACalls Al d (e ++ [.agg (Aa g)] ++ f) [] (RB r)) (r : Bool) (h : Nk b a = some r) : ACalls Al 145 [Q3 b, F1] [] (RB r) := by
 refine Ag Tryz.func145 I I I fun C hC => ?_
 refine Ai I (qJ ?_)
 obtain ⟨l, k, h⟩ := Ad h
 refine qD (Af 2 I (qR (dN _ F1 i a j _ k) (Af 2 I (qE ?_))))
 cases io h
 exact qK pr
theorem dP (a : Piece) (r : Bool) (h : Ii a = r) : ACalls Al 146 [.agg (Aa a)] [] (RB r) := by
 refine Ag Tryz.func146 I I I fun C hC => ?_
 unfold Ii at h
 refine qJ (qD (qF [] I (Cp (Aa a) 2 fun b => Af 1 I (qE (qJ (qD (Ao 1 [.o 0 0] I J1 (qR (Uc a _ I) (Af 2 I (qE (qL g0 ?_)))))))))))
 obtain rfl := h
 exact qK pr
theorem Ol (n : List Piece) (r : List Piece) (h : Lh n = some r) : ACalls Al 147 [Q3 n] [] (fun x new => ∃ (E : Value), x = .v E ∧ new = [U1 E r]) := by
 refine Ag Tryz.func147 I I I fun C hC => ?_
 unfold Lh at h
 refine Ai I (Ai I (Ak (fun s ob => ∃ (t : List Piece) (g : Value), Lh.J1 t = some r ∧ s = [(3, .v g)] ∧ ob = [U1 g t]) [] J ?_ ?_))
 refine Bk [.l 1 (n.length : Int)] I ⟨A6, J⟩ (qH (Cd 7 I fun K => qL (Ay 69 2) ?_))
 obtain ⟨ah, M, N⟩ := Ad h
 refine Cr M (K2 7 8) J2 (fun (u : Nat) (c : List Piece) s ob => ∃ (e : Value), s = [(9, .V (u : Int)), (3, .v e)] ∧ ob = [U1 e c]) ⟨nS, I2⟩ ⟨I, I, J⟩ (pk [0]) ?_ ?_
 rintro u a c F s ob O G ⟨e, rfl, rfl⟩ h
 unfold Lh.B2 at h
 have P := Cm G
 refine Ai I (Ac fun ai Q => Bl I P (qI ?_))
 subst Q
 refine Ak (fun s ob => ∃ (A : List Piece) (w : Value), Lh.J3 A = some F ∧ s = [(3, .v w)] ∧ ob = [U1 w A]) (K3 7 8 9) J3 ?_ ?_
 refine qH (Ac fun aj R => qD (Ao 2 [.x 0 u (Aa a)] I ⟨⟨I, Ae O⟩, J⟩ (qF [] I (B0 [.V 0, .V 0] 2 fun S => qF [1] I (By 1 0 0 [Aa a] I (qE ?_))))))
 subst R
 refine Ac fun ak U => qD (Af 1 I (qN (Bu 0 I I I I) I (Af 1 I (qE ?_))))
 subst U
 refine qH (Ac fun al W => qD (Ao 3 [.o 0 1, .o 2 1] I J2 (qQ (Bi (l := [.V a.Batch, .V 0]) Ct I) I (qQ (Pe (r := ((a.Batch == a.Batch) && ((a.Volume == 0) && true))) I I Ty I I I I) I (Af 1 I (qE ?_))))))
 subst W
 refine Av h I ?_ ?_
 intro X h
 exact qI (lg ⟨c, e, h, I2⟩ [0])
 intro X h
 refine Ak (fun s ob => ∃ (B : Bool), Lh.J4 a c B = some F ∧ s = [(25, .v (.bool B))] ∧ ob = [U1 e c, O7 S [Aa a]]) (K6 3 5 6 7 8 9) J6 ?_ ?_
 rcases bt (decide ((c.length : Int) > 0)) with i | i
 have h := Cb i h
 obtain ⟨j, ⟨Y, D⟩, h⟩ := Bc h
 exact Cl 0 j.1 I D fun Z => Bv (pd 14 0 []) [0, 1] [_, _] I (A9 3 I (A8 28 I i (A9 3 I (Dl I I I I ((A3 (m := j.1) I I I I I Z I Y D).yd) dS (A9 1 I (Dl I I I I (Ax 0 j.1 0 I I I (Ae D) I (y := .V j.2.Batch) I) dS (Cf 5 [.o 1 1] I J1 (Ar (qE (lg ⟨(j.2.Batch == a.Batch), h, I2⟩ [0, 1]))))))))))
 have h := Cc i h
 exact Bv (pd 14 0 []) [] [] I (A9 3 I (A8 28 I i (A9 11 I (Ar (qE (lg ⟨false, h, I2⟩ [0, 1]))))))
 rintro s ob ⟨B, h, rfl, rfl⟩
 refine Av h I ?_ ?_
 intro aa h
 obtain ⟨b, ⟨H, f⟩, h⟩ := Bc h
 exact Cl 0 b.1 I f fun ab => Cl 0 b.1 I f fun ac => Bv (sl 11 0 (.drop 11 .nil)) [0, 1] [_, _] I (A9 3 I (qV I (A3 (m := b.1) I I I I I ab I H f) I (A9 1 I (AP.o I (Ax 0 b.1 1 I I I (Ae f) I (y := .V b.2.Volume) I) I (Cf 3 [.o 1 1] I J1 (qV I (A3 (m := b.1) I I I I I ac I H f) I (A9 1 I (qX [0] I I I (Bh 0 b.1 1 I I I (Ae f) I I I I (Be I) I (Cj (x := (⟨b.2.Batch, wr (b.2.Volume + a.Volume)⟩ : Piece)) I) (Ar (qE (lg ⟨(c.set b.1 (⟨b.2.Batch, wr (b.2.Volume + a.Volume)⟩ : Piece)), e, h, I2⟩ [0]))))))))))))
 intro aa h
 obtain ⟨ad, ae, h⟩ := Ad h
 exact qD (Ao 2 [.o 1 1] I J1 (qF [] I (qO 2 (([a] : List Piece).map Aa) (qF [0] I (qU 0 I ae fun af => Af 1 I (qE (lg ⟨ad, af, h, I2⟩ [0])))))))
 rintro s ob ⟨A, w, h, rfl, rfl⟩
 unfold Lh.J3 at h
 refine qD (Ao 2 [.k 0 (u + 1 : Nat)] I ⟨Az G K, J⟩ ?_)
 cases io h
 exact qE (lg ⟨w, I2⟩ [0])
 rintro c s ob ⟨e, rfl, rfl⟩ he
 subst he
 have h := N
 have ag := Cn n.length
 exact Ai I (Ac fun am an => Bm I ag (qM (lg ⟨c, e, h, I2⟩ [0])))
 rintro s ob ⟨t, g, h, rfl, rfl⟩
 refine Ai I ?_
 obtain rfl := oi h
 exact qK ⟨.inr I, [_], [U1 g t], J1, Ca I (Cv), ⟨g, I2⟩⟩
theorem Ud (a : List Piece) (r : List Piece) (h : Jl a = some r) : ACalls Al 138 [Q3 a] [] (fun x new => ∃ (e : Value), x = .v e ∧ new = [U1 e r]) := by
 refine Ag Tryz.func138 I I I fun C hC => ?_
 unfold Jl at h
 refine Ai I (qJ (Ak (fun s ob => ∃ (d : Bool), Jl.J1 a d = some r ∧ s = [(9, .v (.bool d))] ∧ ob = []) [(0, _)] J1 ?_ ?_))
 refine qD (Ao 4 [.l 1 (a.length : Int)] I ⟨A6, J⟩ ?_)
 rcases bt (decide ((a.length : Int) > 400)) with b | b
 have h := Cb b h
 exact Ah 6 I b (Af 3 I (qE (lg ⟨true, h, I2⟩ [])))
 have h := Cc b h
 obtain ⟨g, i, h⟩ := Ad h
 exact Ah 6 I b (Af 1 I (Bj I I I (qR (cK _ (.v (.func (.func 146) #[] #[])) I (fun x => some (Ii x)) (fun x r h => by obtain I := oi h; exact dP x _ I) _ i) (Af 1 I (qE (lg ⟨g, h, I2⟩ []))))))
 rintro s ob ⟨d, h, rfl, rfl⟩
 refine Av h I ?_ ?_
 intro j h
 refine Ai I (qL (Ay 69 2) ?_)
 obtain rfl := oi h
 exact qK ⟨.inr I, [_], [.us nS 69 2 ([].map Aa)], J1, Ca I (Cv), ⟨nS, I2⟩⟩
 intro j h
 refine qI (qJ ?_)
 obtain ⟨k, m, h⟩ := Ad h
 refine qD (Af 1 I (qF [] I (Bg I I I (Ol _ _ m) dS ?_)))
 rintro _ _ ⟨f, rfl, rfl⟩
 refine Af 1 I (qE ?_)
 obtain rfl := oi h
 exact qK ⟨.inr I, [_], [U1 f k], J1, Ca I (Cv), ⟨f, I2⟩⟩
theorem Gy (a : List Piece) (r : List Piece) (h : Hq a = some r) : ACalls Al 95 [Q3 a] [] (fun x new => ∃ (b : Value), x = .v b ∧ new = [U1 b r]) := by
  refine Ag Tryz.func95 rfl rfl rfl (fun C hC => ?_)
  unfold Hq at h
  obtain ⟨e, d⟩ := Ez h
  refine qJ ?_
  refine qD ?_
  refine qQ (Yp.assign rfl) rfl ?_
  refine qE ?_
  refine qJ ?_
  refine qJ ?_
  refine qD ?_
  refine qQ (Yp.move rfl) rfl ?_
  refine qF [] rfl (kG rfl rfl rfl (Bq rfl) fun c hc => ?_)
  refine qE ?_
  refine AW.cond rfl rfl ?_ ?_
  · intro hb
    have hs : a = [] := by have := hc hb; simpa using this
    subst hs
    refine qJ ?_
    refine qD ?_
    refine qQ (Yp.assign rfl) rfl ?_
    refine qS (Ay 69 2) ?_
    refine qE ?_
    refine qK ?_
    have hr : r = [] := by simpa using d.symm
    subst hr
    exact ⟨.inr rfl, [_], [.us nS 69 2 ([].map Aa)], ⟨rfl, J⟩, Ca rfl Cv, ⟨_, rfl, rfl⟩⟩
  · intro hb
    refine qI ?_
    refine qJ ?_
    refine qD ?_
    refine qF [] rfl (qP (sz := 2) (es := []) rfl rfl rfl rfl rfl rfl rfl rfl rfl rfl rfl (Bq rfl) fun g => ?_)
    refine qQ (Yp.move rfl) rfl ?_
    refine qF [0] rfl (Hc 0 (es' := r.map Aa) rfl rfl rfl rfl rfl rfl rfl rfl rfl (AppSrc.list rfl) (by simpa using e) (by rw [← d]; simp) (Bq rfl) fun f => ?_)
    refine qQ (Yp.assign rfl) rfl ?_
    refine qE ?_
    refine qK ?_
    exact ⟨.inr rfl, [_], [U1 f r], ⟨rfl, J⟩, Ca rfl Cv, ⟨_, rfl, rfl⟩⟩
theorem Up (f : List Piece) (A : Int) (r : (List Piece) × (List Piece)) (h : Nu f A = some r) : ACalls Al 149 [Q3 f, .V A] [] (fun x new => ∃ (B : Value) (D : Value), x = .tup [.v B, .v D] ∧ new = [U1 B r.1, U1 D r.2]) := by
 refine Ag Tryz.func149 I I I fun C hC => ?_
 refine Ai I (Ac fun y2 N => ?_)
 obtain ⟨r3, O, h⟩ := Ad h
 obtain ⟨r6, P, h⟩ := Ad h
 refine qD (Af 1 I (qF [] I (Bg I I I (Gy _ _ O) dS ?_)))
 rintro _ _ ⟨p, rfl, rfl⟩
 refine Af 1 I (qF [] I (Bg I I I (Gy _ _ P) dS ?_))
 rintro _ _ ⟨g, rfl, rfl⟩
 refine Af 2 I (qE ?_)
 subst N
 refine Ak (fun s ob => ∃ (a : (List Piece) × (List Piece)), Nu.J1 a = some r ∧ s = [] ∧ ob = [U1 p a.1, U1 g a.2]) (K2 6 7) J2 ?_ ?_
 refine Bk [.l 1 (f.length : Int)] I ⟨A6, J⟩ (qH (Cd 14 I fun Q => ?_))
 obtain ⟨am, R, S⟩ := Ad h
 refine Cr R (K4 6 7 14 15) J4 (fun (i : Nat) (b : Int × (List Piece) × (List Piece)) s ob => s = [(16, .V (i : Int)), (1, .V b.1)] ∧ ob = [U1 p b.2.1, U1 g b.2.2]) ⟨I, I⟩ ⟨I, I, J⟩ (pk [0, 1]) ?_ ?_
 rintro i j b an s ob U E ⟨rfl, rfl⟩ h
 have W := Cm E
 refine Ai I (Ac fun ao X => Bl I W (qI ?_))
 subst X
 refine qJ (qH (Ac fun ap Y => qD (Ao 3 [.x 1 i (Aa j)] I ⟨⟨I, Ae U⟩, J⟩ (qF [] I (B0 [.V 0, .V 0] 2 fun aq => Af 1 I (qF [2] I (By 2 0 0 [Aa j] I (qE ?_))))))))
 subst Y
 refine Ac fun ar Z => ?_
 obtain ⟨t, ⟨aa, F⟩, h⟩ := Bc h
 refine qD (Ao 6 [.o 3 2] I J1 (qN (Bb 0 (m := t.1) I I I I I I I aa (Ae F)) I (Af 1 I (qF [0] I (Bh 0 t.1 1 I I I (Ae F) I I I I (Be I) I (Cj (x := (⟨t.2.Batch, (min j.Volume b.1)⟩ : Piece)) I) (qE ?_))))))
 subst Z
 refine Ac fun au ab => ?_
 obtain ⟨c, ⟨G, e⟩, h⟩ := Bc h
 refine qD (Af 3 I (qN (Bb 0 (m := c.1) I I I I I I I G (Ae e)) I (Af 1 I (qN (Ax 0 c.1 1 I I I (Ae e) I (y := .V c.2.Volume) I) I (Af 2 I (qE ?_))))))
 subst ab
 obtain ⟨n, ⟨ac, u⟩, h⟩ := Bc h
 refine Cl 0 c.1 I e fun ad => Cl 1 n.1 I u fun ae => Bv (pd 13 0 [12]) [2, 0] [_, _] I (Cf 6 [.o 3 0] I J1 (qV I (A3 (m := c.1) I I I I I ad I G e) I (A9 1 I (AP.o I (Ax 1 c.1 1 I I I (Ae e) I (y := .V c.2.Volume) I) I (A9 1 I (qV I (A3 (m := n.1) I I I I I ae I ac u) I (A9 1 I (qG [1] I I I (Bh 1 n.1 1 I I I (Ae u) I I I I (Be I) I (Cj (x := (⟨n.2.Batch, wr (j.Volume - c.2.Volume)⟩ : Piece)) I) (Ar (qE ?_)))))))))))
 refine qD (Ao 2 [.k 0 (i + 1 : Nat)] I ⟨Az E Q, J⟩ ?_)
 cases io h
 exact qE (lg I2 [0, 1])
 rintro b s ob ⟨rfl, rfl⟩ he
 subst he
 have h := S
 have af := Cn f.length
 exact Ai I (Ac fun av aw => Bm I af (qM (lg ⟨(b.2.1, b.2.2), h, I2⟩ [0, 1])))
 rintro s ob ⟨a, h, rfl, rfl⟩
 refine qJ ?_
 obtain ⟨H, ag, h⟩ := Ad h
 obtain ⟨ah, ai, h⟩ := Ad h
 refine qD (Af 1 I (qS (As [0] (K := [U1 p a.1]) I [(6, Q3 a.1), (49, Q3 a.1)] ⟨⟨_, I, .us 0 I⟩, ⟨_, I, .us 0 I⟩, J⟩ (ob' := [U1 g a.2]) (.rest _)) (qF [] I (Bg I I I (Ol _ _ ag) dS ?_))))
 rintro _ _ ⟨w, rfl, rfl⟩
 refine Af 1 I (qS (As [0] (K := [U1 g a.2]) I [(7, Q3 a.2), (51, Q3 a.2)] ⟨⟨_, I, .us 0 I⟩, ⟨_, I, .us 0 I⟩, J⟩ (ob' := [U1 w H]) (.rest _)) (qF [] I (Bg I I I (Ol _ _ ai) dS ?_)))
 rintro _ _ ⟨M, rfl, rfl⟩
 refine Af 2 I (qE ?_)
 cases io h
 exact qK ⟨.inr I, [_, _], [U1 w H, U1 M ah], J2, Ca I (Ca I (Cv)), ⟨w, M, I2⟩⟩
theorem eS (i : List Piece) (j : List Piece) (k : Bool) (r : (List Piece) × (List Piece) × Int) (h : Lx i j k = some r) : ACalls Al 143 [Q3 i, Q3 j, .v (.bool k)] [] (fun x new => ∃ (m : Value) (n : Value), x = .tup [.v m, .v n, .V r.2.2] ∧ new = [U1 m r.1, U1 n r.2.1]) := by
 refine Ag Tryz.func143 I I I fun C hC => ?_
 unfold Lx at h
 refine Ai I (Ac fun y2 w => Ak (fun s ob => ∃ (l : Bool), Lx.J1 i j k l = some r ∧ s = [(18, .v (.bool l))] ∧ ob = []) (K3 0 1 2) J3 ?_ ?_)
 obtain ⟨y, A, h⟩ := Ad h
 refine qD (Af 1 I (qR (Kp _ _ A) (Af 2 I ?_)))
 rcases bt ((!y)) with b | b
 have h := Cb b h
 exact Ah 14 I b (Af 4 I (qE (lg ⟨true, h, I2⟩ [])))
 have h := Cc b h
 obtain ⟨B, D, h⟩ := Ad h
 exact Ah 14 I b (Af 1 I (Bj I I I (qR (Kp _ _ D) (Af 2 I (qE (lg ⟨(!B), h, I2⟩ []))))))
 rintro s ob ⟨l, h, rfl, rfl⟩
 refine Av h I ?_ ?_
 intro E h
 refine Ai I (qL (Ay 69 2) (qL (Ay 69 2) ?_))
 cases io h
 exact qK ⟨.inr I, [_, _, _], [.us nS 69 2 ([].map Aa), .us nS 69 2 ([].map Aa)], J3, Ca I (Ca I (Cv)), ⟨nS, nS, I2⟩⟩
 intro E h
 refine qI ?_
 subst w
 refine Ai I (Ak (fun s ob => ∃ (a : (List Piece) × (List Piece)) (e : Value) (f : Value), Lx.J2 a = some r ∧ s = [(9, .v e), (10, .v f)] ∧ ob = [U1 f a.2, U1 e a.1]) [] J ?_ ?_)
 refine Ai I (Av h I ?_ ?_)
 intro F h
 obtain ⟨ac, G, h⟩ := Ad h
 obtain ⟨o, H, h⟩ := Ad h
 obtain ⟨ad, M, h⟩ := Ad h
 obtain ⟨p, N, h⟩ := Ad h
 refine qD (Af 1 I (qF [] I (Bg I I I (Gy _ _ G) dS ?_)))
 rintro _ _ ⟨ae, rfl, rfl⟩
 refine Af 1 I (qF [0] I (qU 0 I H fun O => Af 1 I (qR (Ks _ _ M) (qS (As [0] (K := [U1 O o]) I [(24, Q3 o)] ⟨⟨_, I, .us 0 I⟩, J⟩ (ob' := []) (.rest _)) (qF [] I (Bg I I I (Up _ _ _ N) dS ?_))))))
 rintro _ _ ⟨P, Q, rfl, rfl⟩
 exact Af 5 I (qE (lg ⟨(p.2, p.1), Q, P, h, I2⟩ [0, 1]))
 intro F h
 obtain ⟨af, R, h⟩ := Ad h
 obtain ⟨t, S, h⟩ := Ad h
 obtain ⟨ag, U, h⟩ := Ad h
 obtain ⟨u, W, h⟩ := Ad h
 refine qD (Af 1 I (qF [] I (Bg I I I (Gy _ _ R) dS ?_)))
 rintro _ _ ⟨ah, rfl, rfl⟩
 refine Af 1 I (qF [0] I (qU 0 I S fun X => Af 1 I (qR (Ks _ _ U) (qS (As [0] (K := [U1 X t]) I [(34, Q3 t)] ⟨⟨_, I, .us 0 I⟩, J⟩ (ob' := []) (.rest _)) (qF [] I (Bg I I I (Up _ _ _ W) dS ?_))))))
 rintro _ _ ⟨Y, Z, rfl, rfl⟩
 exact Af 5 I (qE (lg ⟨(u.1, u.2), Y, Z, h, I2⟩ [1, 0]))
 rintro s ob ⟨a, e, f, h, rfl, rfl⟩
 unfold Lx.J2 at h
 refine qJ (E9 47 (decide ((a.1.length : Int) > 200) || decide ((a.2.length : Int) > 200)) ?_ ?_)
 refine qD (Af 1 I (qN (Bu 1 I I I I) I (Af 2 I ?_)))
 rcases bt (decide ((a.1.length : Int) > 200)) with g | g
 exact Ah 43 I g (Af 4 I (qE (jf (by simp only [g, bz]) I I I2)))
 exact Ah 43 I g (Af 1 I (Bj I I I (qN (Bu 0 I I I I) I (Af 2 I (qE (jf (by simp only [g, bz]) I I I2))))))
 refine Av h I ?_ ?_
 intro aa h
 refine Ai I (qL (Ay 69 2) (qL (Ay 69 2) (Dd [2, 3] I ?_)))
 cases io h
 exact qK ⟨.inr I, [_, _, _], [.us nS 69 2 ([].map Aa), .us nS 69 2 ([].map Aa)], J3, Ca I (Ca I (Cv)), ⟨nS, nS, I2⟩⟩
 intro aa h
 refine qI (Ai I (Dd [1, 0] I ?_))
 cases io h
 exact qK ⟨.inr I, [_, _, _], [U1 e a.1, U1 f a.2], J3, Ca I (Ca I (Cv)), ⟨e, f, I2⟩⟩
theorem eU (b : Li) (a : Int) (r : Int) (h : Rf b a = some r) : ACalls Al 139 [Q0 b, .V a] [] (RV (.V r)) := by
 refine Ag Tryz.func139 I I I fun C hC => ?_
 refine Ai I (Ac fun H n => Bk [.l 1 (b.length : Int)] I ⟨A6, J⟩ (Av h I ?_ ?_))
 intro o h
 refine Ai I ?_
 cases io h
 exact qK pr
 intro o h
 refine qI ?_
 subst n
 refine Ai I (Ak (fun s ob => ∃ (e : Int), Rf.J1 a e = some r ∧ s = [(5, .V e)] ∧ ob = []) [(1, _)] J1 ?_ ?_)
 refine Bk [.l 1 (b.length : Int)] I ⟨A6, J⟩ (qH (Cd 11 I fun p => ?_))
 obtain ⟨K, u, j⟩ := Ad h
 refine Cg u (K3 1 11 12) J3 (fun (f : Nat) (g : Int) s ob => s = [(13, .V (f : Int)), (5, .V g)] ∧ ob = []) ⟨I, I⟩ ⟨I, I, J⟩ (pk []) ?_ ?_
 rintro f i g M s ob w m ⟨rfl, rfl⟩ h y
 unfold Rf.B2 at h
 have A := Cm m
 refine Ai I (Ac fun N B => Bl I A (qI ?_))
 subst B
 refine qJ (qH (Bk [.x 0 f (rI i)] I ⟨⟨I, Ae w⟩, J⟩ (qJ (E9 22 (decide (i < 0) || decide (i > 1000)) ?_ ?_))))
 refine qD (Af 3 I ?_)
 rcases bt (decide (i < 0)) with c | c
 exact Ah 19 I c (Af 3 I (qE (jf (by simp only [c, bz]) I I I2)))
 exact Ah 19 I c (Af 3 I (qE (jf (by simp only [c, bz]) I I I2)))
 refine Av h I ?_ ?_
 intro D h
 refine Ai I ?_
 obtain rfl := y _ (oi h).symm
 have h := j
 have h := Dj h
 cases io h
 exact qK pr
 intro D h
 refine qI (Uz I (qD (Ao 2 [.k 0 (f + 1 : Nat)] I ⟨Az m p, J⟩ ?_)))
 cases io h
 exact qE ⟨_, _, _, I, I2, J5, pk []⟩
 rintro g s ob ⟨rfl, rfl⟩ he
 subst he
 have h := Dp j
 have E := Cn b.length
 exact Ai I (Ac fun O P => Bm I E (qM (lg ⟨g, h, I2⟩ [])))
 rintro s ob ⟨e, h, rfl, rfl⟩
 refine qJ (qH (Ai I (Av h I ?_ ?_)))
 intro F h
 refine Ai I ?_
 cases io h
 exact qK pr
 intro F h
 refine E9 30 (decide (a < 0) || decide (a > e)) ?_ ?_
 refine qD (Af 3 I ?_)
 rcases bt (decide (a < 0)) with d | d
 exact Ah 33 I d (Af 5 I (qE (jf (by simp only [d, bz]) I I I2)))
 exact Ah 33 I d (Af 5 I (qE (jf (by simp only [d, bz]) I I I2)))
 refine Av h I ?_ ?_
 intro G h
 refine Ai I ?_
 cases io h
 exact qK pr
 intro G h
 refine qI (Ai I ?_)
 cases io h
 exact qK pr
theorem cU (a : Li) (r : deal_table) (h : Yy a = some r) : ACalls Al 140 [Q0 a] [] (RV (.agg (A4 r))) := by
 refine Ag Tryz.func140 I I I fun C hC => ?_
 refine Ac fun f e => qD (qF [] I (B0 ([.V 0] ++ ((Arr.rep 64 (0 : Int)).l.map cI ++ ((Arr.rep 64 (0 : Int)).l.map cI ++ []))) 129 fun g => qE ?_))
 subst e
 refine qJ (qD (Ao 2 [.l 1 (a.length : Int)] I ⟨A6, J⟩ (qQ (Bi (l := [.V (a.length : Int)] ++ ((Arr.rep 64 (0 : Int)).l.map cI ++ ((Arr.rep 64 (0 : Int)).l.map cI ++ []))) X5 I) I (qF [] I (B0 ([.V 0] ++ ((Arr.rep 64 (0 : Int)).l.map cI ++ ((Arr.rep 64 (0 : Int)).l.map cI ++ []))) 129 fun i => qF [1] I (qT 1 0 0 (es' := [[.V (a.length : Int)] ++ ((Arr.rep 64 (0 : Int)).l.map cI ++ ((Arr.rep 64 (0 : Int)).l.map cI ++ []))]) I I I I I I I (by simp [Arr.h, Am, A4]) (by simp [Arr.h, Am, A4]) I (congrArg (fun r => [r]) (Fq (by simp [Arr.h, Am, A4]))) (qE (qJ ?_))))))))
 obtain ⟨c, b, h⟩ := Ad h
 refine qD (Af 1 I (qQ (bR I I I I (by decide)) I (Af 1 I (qF [1] I (kH 1 (es := a.map rI) I I I I I I I (AppSrc.list I) (by rw [List.length_map]; exact (R8 b).1) (by have := (R8 b).1; simp [Arr.h, Am, A4]; omega) (congrArg (fun r => [r]) (Gu (k := 1) (by simp [Arr.h, Am, A4]) (gS b))) dS (qE (qJ (qD (qN (Ck 1 0 0 I I I I I (y := .agg ([.V (a.length : Int)] ++ (c.l.map cI ++ ((Arr.rep 64 (0 : Int)).l.map cI ++ [])))) (G6 I (by simp [Arr.h, Am, A4]))) I (qF [0] I (qT 0 0 0 (es' := [[.V (a.length : Int)] ++ (c.l.map cI ++ ((Arr.rep 64 (0 : Int)).l.map cI ++ []))]) I I I I I I I (by simp [Arr.h, Am, A4]) (by simp [Arr.h, Am, A4]) I (congrArg (fun r => [r]) (Fq (by simp [Arr.h, Am, A4]))) (qE (Dd [0] I ?_)))))))))))))
 cases io h
 exact qK ⟨.inr I, [_], [], ⟨⟨0, _, _, _, _, _, _, _, I, I, I, I, (G6 I (by simp [Arr.h, Am, A4]))⟩, J⟩, Cv, I2⟩
theorem eB (c : Nat) (a : deal_table) (r : Int × deal_table) (h : Qy a = some r) : ACalls Al 141 [.P c] [O8 c [[.V a.n_] ++ (a.rates.l.map cI ++ (a.counts.l.map cI ++ []))]] (Fh 1 fun x os new => x = .V r.1 ∧ os = [O8 c [[.V r.2.n_] ++ (r.2.rates.l.map cI ++ (r.2.counts.l.map cI ++ []))]] ∧ new = []) := by
 refine Ag Tryz.func141 I I I fun C hC => ?_
 unfold Qy at h
 refine Ai I (Ai I (Ak (fun s ob => ∃ (w : Int), Qy.J1 a w = some r ∧ s = [(3, .V w)] ∧ ob = [O8 c [[.V a.n_] ++ (a.rates.l.map cI ++ (a.counts.l.map cI ++ []))]]) [] J ?_ ?_))
 refine Ac fun aa K => qD (Af 3 I (qN (Ck 0 0 0 I I I I I (y := .V a.n_) I) I (Af 1 I (qE ?_))))
 subst K
 refine qH ?_
 obtain ⟨ab, M, h⟩ := Ad h
 have N : a.n_.toNat ≤ 9223372036854775806 := by have := J0 M; omega
 obtain ⟨ac, O, P⟩ := Ad h
 refine D8 O (K2 0 8) J2 (fun (f : Nat) (e : Int) s ob => s = [(9, .V (f : Int)), (3, .V e)] ∧ ob = [O8 c [[.V a.n_] ++ (a.rates.l.map cI ++ (a.counts.l.map cI ++ []))]]) ⟨I, I⟩ ⟨I, I, J⟩ (pk [0]) ?_ ?_
 rintro f e D s ob Q ⟨rfl, rfl⟩ h
 unfold Qy.B2 at h
 have R : decide ((f : Int) < a.n_) = true := decide_eq_true (by omega)
 refine Ai I (Ac fun ad S => Bl I R (qI ?_))
 subst S
 refine Ak (fun s ob => ∃ (A : Int), Qy.J3 A = some D ∧ s = [(3, .V A)] ∧ ob = [O8 c [[.V a.n_] ++ (a.rates.l.map cI ++ (a.counts.l.map cI ++ []))]]) (K3 0 8 9) J3 ?_ ?_
 refine qH (Ai I (Ak (fun s ob => ∃ (B : Bool), Qy.J4 f e B = some D ∧ s = [(53, .v (.bool B))] ∧ ob = [O8 c [[.V a.n_] ++ (a.rates.l.map cI ++ (a.counts.l.map cI ++ []))]]) (K5 0 3 4 8 9) J5 ?_ ?_))
 obtain ⟨b, ⟨E, g⟩, h⟩ := Bc h
 refine Bv (pd 42 0 []) [0] [_] I (A9 4 I (qV I (Df (m := b.1) I I I I I I E (Eu g)) I ?_))
 rcases bt (decide (b.2 > 0)) with i | i
 have h := Cb i h
 rcases bt (decide (e < 0)) with p | p
 have h := Cb p h
 exact AP.o I (Ck 0 0 (1 + b.1) I I I I (by omega) (y := .V b.2) (Ed (k := 1) (by simp [Arr.h, Am, A4]) (Ey g))) I (A9 2 I (A8 19 I i (A9 3 I (A8 22 I p (A9 31 I (Ar (qE (lg ⟨true, h, I2⟩ [0]))))))))
 have h := Cc p h
 obtain ⟨j, ⟨U, F⟩, h⟩ := Bc h
 obtain ⟨u, ⟨W, G⟩, h⟩ := Bc h
 obtain ⟨n, ⟨X, H⟩, h⟩ := Bc h
 refine AP.o I (Ck 0 0 (1 + b.1) I I I I (by omega) (y := .V b.2) (Ed (k := 1) (by simp [Arr.h, Am, A4]) (Ey g))) I (A9 2 I (A8 19 I i (A9 3 I (A8 22 I p (A9 4 I (Dl I I I I ((Df (m := j.1) I I I I I I U (Eu F)).yd) dS (Dl I I I I (Ck 0 0 (65 + j.1) I I I I (by omega) (y := .V j.2) (by rw [show 65 + j.1 = 1 + (64 + (j.1)) from by omega]; exact Ed (k := 1) (by simp [Arr.h, Am, A4]) (Ed (k := 64) (by simp [Arr.h, Am, A4]) (Ey F)))) dS (A9 5 I (Dl I I I I ((Df (m := u.1) I I I I I I W (Eu G)).yd) dS (Dl I I I I (Ck 0 0 (1 + u.1) I I I I (by omega) (y := .V u.2) (Ed (k := 1) (by simp [Arr.h, Am, A4]) (Ey G))) dS (A9 5 I (Dl I I I I ((Df (m := n.1) I I I I I I X (Eu H)).yd) dS ?_))))))))))))
 exact Dl I I I I (Ck 0 0 (65 + n.1) I I I I (by omega) (y := .V n.2) (by rw [show 65 + n.1 = 1 + (64 + (n.1)) from by omega]; exact Ed (k := 1) (by simp [Arr.h, Am, A4]) (Ed (k := 64) (by simp [Arr.h, Am, A4]) (Ey H)))) dS (A9 5 I (Dl I I I I ((Df (m := b.1) I I I I I I E (Eu g)).yd) dS (Dl I I I I (Ck 0 0 (1 + b.1) I I I I (by omega) (y := .V b.2) (Ed (k := 1) (by simp [Arr.h, Am, A4]) (Ey g))) dS (A9 4 I (Ar (qE (lg ⟨decide ((wr ((wr (j.2 + 1)) * u.2)) < (wr ((wr (n.2 + 1)) * b.2))), h, I2⟩ [0])))))))
 have h := Cc i h
 refine AP.o I (Ck 0 0 (1 + b.1) I I I I (by omega) (y := .V b.2) (Ed (k := 1) (by simp [Arr.h, Am, A4]) (Ey g))) I (A9 2 I (A8 19 I i (A9 3 I (Ap I I I I dS (Ap I I I I dS (Ap I I I I dS (Ap I I I I dS (Ap I I I I dS (Ap I I I I dS (Ap I I I I dS (Ap I I I I dS (Ap I I I I dS ?_))))))))))))
 refine Ap I I I I dS (Ap I I I I dS (Ap I I I I dS (Ap I I I I dS (Ap I I I I dS (Ap I I I I dS (Ap I I I I dS (Ap I I I I dS (Ap I I I I dS (Ap I I I I dS (Ap I I I I dS (Ap I I I I dS (Ap I I I I dS ?_))))))))))))
 exact Ap I I I I dS (Ap I I I I dS (Ap I I I I dS (Ap I I I I dS (Ap I I I I dS (Ap I I I I dS (Ap I I I I dS (A9 2 I (Ar (qE (lg ⟨false, h, I2⟩ [0]))))))))))
 rintro s ob ⟨B, h, rfl, rfl⟩
 refine Av h I ?_ ?_
 intro Y h
 exact Uz I (lg ⟨(f : Int), h, I2⟩ [0])
 intro Y h
 exact qI (lg ⟨e, h, I2⟩ [0])
 rintro s ob ⟨A, h, rfl, rfl⟩
 unfold Qy.J3 at h
 refine qD (Ao 2 [.k 0 (f + 1 : Nat)] I ⟨Az Q N, J⟩ ?_)
 cases io h
 exact qE (lg I2 [0])
 rintro e s ob ⟨rfl, rfl⟩ he
 subst he
 have h := P
 have Z : decide (((a.n_.toNat : Nat) : Int) < a.n_) = false := decide_eq_false (by omega)
 exact Ai I (Ac fun ae af => Bm I Z (qM (lg ⟨e, h, I2⟩ [0])))
 rintro s ob ⟨w, h, rfl, rfl⟩
 refine Ai I ?_
 obtain rfl := oi h
 exact qK ⟨.inr I, [_], [O8 c [[.V a.n_] ++ (a.rates.l.map cI ++ (a.counts.l.map cI ++ []))]], J1, Ca I (Cv), ⟨[O8 c [[.V a.n_] ++ (a.rates.l.map cI ++ (a.counts.l.map cI ++ []))]], [], I5⟩⟩
theorem dI (H : List Piece) (X : Li) (r : (List (List Piece)) × Int) (h : Vk H X = some r) : ACalls Al 126 [Q3 H, Q0 X] [] (RV (.tup [.list 1 (r.1.map (rL 2 Aa)), .V r.2])) := by
 refine Ag Tryz.func126 I I I fun C hC => ?_
 refine Ai I (Ac fun y2 a5 => ?_)
 obtain ⟨a, a6, h⟩ := Ad h
 refine qD (Af 1 I (qF [] I (Bg I I I (Ud _ _ a6) dS ?_)))
 rintro _ _ ⟨t, rfl, rfl⟩
 refine Af 1 I (qE ?_)
 subst a5
 refine Ac fun y6 a7 => E9 32 (bif ((a.length : Int) == 0) then (decide ((H.length : Int) > 0) || decide ((a.length : Int) > 200)) else decide ((a.length : Int) > 200)) ?_ ?_
 refine qD (Af 1 I (qN (Bu 0 I I I I) I (Af 2 I ?_)))
 rcases bt (((a.length : Int) == 0)) with D | D
 refine Ah 23 I D (Ao 5 [.l 1 (H.length : Int)] I ⟨A6, J⟩ ?_)
 rcases bt (decide ((H.length : Int) > 0)) with M | M
 exact Ah 28 I M (Af 4 I (qE (jf (by simp only [D, M, bz]) I I I2)))
 exact Ah 28 I M (Af 1 I (Bj I I I (qN (Bu 0 I I I I) I (Af 2 I (qE (jf (by simp only [D, M, bz]) I I I2))))))
 exact Ah 23 I D (Af 6 I (Bj I I I (qN (Bu 0 I I I I) I (Af 2 I (qE (jf (by simp only [D, bz]) I I I2))))))
 refine Av h I ?_ ?_
 intro a8 h
 refine Ai I (qL (As [] (K := []) I [(4, .list 1 ([].map (rL 2 Aa)))] ⟨⟨_, I, .nil _⟩, J⟩ (ob' := [U1 t a]) (.rest _)) (qL g0 ?_))
 cases io h
 exact qK ⟨.inr I, [_, _], [], J2, Cv, I2⟩
 intro a8 h
 refine qI ?_
 subst a7
 refine Ai I (Ak (fun s ob => ∃ (ad : Int), Vk.J1 X a ad = some r ∧ s = [(7, .V ad)] ∧ ob = [U1 t a]) (K2 1 6) J2 ?_ ?_)
 refine Ac fun c1 a9 => qD (Af 1 I (qN (Bu 0 I I I I) I (Af 1 I (qE ?_))))
 subst a9
 refine qH (Gq 0 I fun ba => ?_)
 obtain ⟨c2, bb, bc⟩ := Ad h
 refine D8 bb (K4 1 6 33 34) J4 (fun (ae : Nat) (Y : Int) s ob => s = [(35, .V (ae : Int)), (7, .V Y)] ∧ ob = [U1 t a]) ⟨I, I⟩ ⟨I, I, J⟩ (pk [0]) ?_ ?_
 rintro ae Y c3 s ob ar ⟨rfl, rfl⟩ h
 have bd := Cm ar
 refine Ai I (Ac fun c4 be => Bl I bd (qI ?_))
 subst be
 refine qJ (qH (qJ ?_))
 obtain ⟨Z, ⟨bf, au⟩, h⟩ := Bc h
 refine qD (qN (Bb 0 (m := Z.1) I I I I I I I bf (Ae au)) I (qN (Ax 0 Z.1 0 I I I (Ae au) I (y := .agg (Aa Z.2)) I) I (qF [] I (B0 [.V 0, .V 0] 2 fun c5 => qF [1] I (By 1 0 0 [Aa Z.2] I (qE (Lb [.o 2 1] I J1 (qD (Ao 2 [.k 0 (ae + 1 : Nat)] I ⟨Az ar ba, J⟩ ?_)))))))))
 cases io h
 exact qE (lg I2 [0])
 rintro Y s ob ⟨rfl, rfl⟩ he
 subst he
 have h := bc
 have bg := Cn a.length
 exact Ai I (Ac fun c6 c7 => Bm I bg (qM (lg ⟨Y, h, I2⟩ [0])))
 rintro s ob ⟨ad, h, rfl, rfl⟩
 refine Ac fun c8 bh => qJ ?_
 obtain ⟨c9, bi, h⟩ := Ad h
 refine qD (Af 2 I (qR (eU _ _ _ bi) (Af 1 I (qE (Ai I (Av h I ?_ ?_))))))
 intro bj h
 refine Ai I (qL (As [] (K := []) I [(4, .list 1 ([].map (rL 2 Aa)))] ⟨⟨_, I, .nil _⟩, J⟩ (ob' := [U1 t a]) (.rest _)) (qL g0 ?_))
 cases io h
 exact qK ⟨.inr I, [_, _], [], J2, Cv, I2⟩
 intro bj h
 refine qI ?_
 subst bh
 refine Ac fun da bk => ?_
 obtain ⟨db, ⟨af, bl, bm, bn⟩, h⟩ := G0 h
 refine qD (Ao 2 [.l 1 (X.length : Int)] I ⟨A6, J⟩ (qF [] I (Dg (sz := 1) (es' := List.replicate af [.N]) I I I I I I I I I I bl bm I dS fun j => qS (Gw (f := Aa) 1 af 69 2 bn I) (Af 1 I (qE ?_)))))
 subst bk
 refine Ac fun dc bo => ?_
 obtain ⟨ag, bp, h⟩ := Ad h
 refine qD (Af 1 I (qF [] I (Bg I I I (cU _ _ bp) dS ?_)))
 rintro _ _ ⟨rfl, rfl⟩
 refine qF [] I (B0 ([.V 0] ++ ((Arr.rep 64 (0 : Int)).l.map cI ++ ((Arr.rep 64 (0 : Int)).l.map cI ++ []))) 129 fun E => qF [2] I (qT 2 0 0 (es' := [[.V ag.n_] ++ (ag.rates.l.map cI ++ (ag.counts.l.map cI ++ []))]) I I I I I I I (by simp [Arr.h, Am, A4]) (by simp [Arr.h, Am, A4]) I (congrArg (fun r => [r]) (Fq (by simp [Arr.h, Am, A4]))) (qE ?_)))
 subst bo
 refine Ak (fun s ob => ∃ (aa : List (List Piece)) (ah : List Value), Vk.J2 aa = some r ∧ s = [] ∧ ob = [.uss j 34 69 2 ah (aa.map fun x => some (x.map Aa))]) [(11, _)] J1 ?_ ?_
 refine Ac fun dd bq => qD (Af 1 I (qN (Bu 0 I I I I) I (Af 1 I (qE ?_))))
 subst bq
 refine qH (Gq 0 I fun br => ?_)
 obtain ⟨de, bs, bu⟩ := Ad h
 refine D8 bs (K4 11 12 55 56) J4 (fun (ai : Nat) (b : (List (List Piece)) × Int × (Arr Int 64) × (Arr Int 64)) s ob => ∃ (w : List Value), s = [(57, .V (ai : Int))] ∧ ob = [U1 t a, .uss j 34 69 2 w (b.1.map fun x => some (x.map Aa)), O8 E [[.V b.2.1] ++ (b.2.2.1.l.map cI ++ (b.2.2.2.l.map cI ++ []))]]) ⟨(List.replicate af nS), I, I⟩ ⟨I, J⟩ (pk N3) ?_ ?_
 rintro ai b av s ob aw ⟨w, rfl, rfl⟩ h
 unfold Vk.B5 at h
 have bv := Cm aw
 refine Ai I (Ac fun df bw => Bl I bv (qI ?_))
 subst bw
 refine Ak (fun s ob => ∃ (F : (List (List Piece)) × Int × (Arr Int 64) × (Arr Int 64)) (aj : List Value), Vk.J6 F = some av ∧ s = [] ∧ ob = [U1 t a, .uss j 34 69 2 aj (F.1.map fun x => some (x.map Aa)), O8 E [[.V F.2.1] ++ (F.2.2.1.l.map cI ++ (F.2.2.2.l.map cI ++ []))]]) (K5 11 12 55 56 57) J5 ?_ ?_
 refine qH (Ac fun dg bx => ?_)
 obtain ⟨e, ⟨b0, ax⟩, h⟩ := Bc h
 refine qD (qN (Bb 0 (m := e.1) I I I I I I I b0 (Ae ax)) I (qN (Ax 0 e.1 0 I I I (Ae ax) I (y := .agg (Aa e.2)) I) I (qF [] I (B0 [.V 0, .V 0] 2 fun ak => qF [3] I (By 3 0 0 [Aa e.2] I (qE ?_))))))
 subst bx
 refine Ac fun dh b1 => qD (Af 1 I (qN (Ck 2 0 65 I I I I I (y := .agg (b.2.2.2.l.map cI)) (N1 (k := 1) I I (by simp [Arr.h, Am, A4]) (N1 (k := 64) I I (by simp [Arr.h, Am, A4]) (N2 I (by simp [Arr.h, Am, A4]))))) I (qF [] I (B0 ((Arr.rep 64 (0 : Int)).l.map cI) 64 fun al => qF [4] I (qT 4 0 0 (es' := [b.2.2.2.l.map cI]) I I I I I I I (by simp [Arr.h, Am, A4]) (by simp [Arr.h, Am, A4]) I (congrArg (fun r => [r]) (Fq (by simp [Arr.h, Am, A4]))) (qE ?_))))))
 subst b1
 refine Ak (fun s ob => ∃ (g : Int × (Arr Int 64) × (Arr Int 64)), Vk.J7 b e g = some av ∧ s = [] ∧ ob = [U1 t a, .uss j 34 69 2 w (b.1.map fun x => some (x.map Aa)), O8 E [[.V g.1] ++ (g.2.1.l.map cI ++ (g.2.2.l.map cI ++ []))], O7 ak [Aa e.2], .arr al 178 64 1 [b.2.2.2.l.map cI]]) (K7 11 12 14 15 55 56 57) J7 ?_ ?_
 refine Bk [.o 1 3] I J1 (qH ?_)
 obtain ⟨di, b2, h⟩ := Ad h
 have b3 : e.2.Volume.toNat ≤ 9223372036854775806 := by have := J0 b2; omega
 obtain ⟨dj, b4, b5⟩ := Ad h
 refine D8 b4 (K8 11 12 14 15 55 56 57 64) J8 (fun (ab : Nat) (u : Int × (Arr Int 64) × (Arr Int 64)) s ob => s = [(65, .V (ab : Int))] ∧ ob = [U1 t a, .uss j 34 69 2 w (b.1.map fun x => some (x.map Aa)), O8 E [[.V u.1] ++ (u.2.1.l.map cI ++ (u.2.2.l.map cI ++ []))], O7 ak [Aa e.2], .arr al 178 64 1 [b.2.2.2.l.map cI]]) ⟨I, I⟩ ⟨I, J⟩ (pk N5) ?_ ?_
 rintro ab u dk s ob b6 ⟨rfl, rfl⟩ h
 have b7 : decide ((ab : Int) < e.2.Volume) = true := decide_eq_true (by omega)
 refine Ai I (Ac fun dl b8 => Bl I b7 (qI ?_))
 subst b8
 refine qJ (qH ?_)
 obtain ⟨am, b9, h⟩ := Ad h
 obtain ⟨i, ⟨ay, O⟩, h⟩ := Bc h
 refine qD (qF [2] I (A7 [2] (eB E _ _ b9) ?_))
 refine Af 1 I (qQ (Df (m := i.1) I I I I I I ay (Eu O)) I (qN (Ck 2 0 (65 + i.1) I I I I (by omega) (y := .V i.2) (by rw [show 65 + i.1 = 1 + (64 + (i.1)) from by omega]; exact Ed (k := 1) (by simp [Arr.h, Am, A4]) (Ed (k := 64) (by simp [Arr.h, Am, A4]) (Ey O)))) I (Af 2 I (qQ (Df (m := i.1) I I I I I I ay (Eu O)) I (qF [2] I (qT 2 0 (65 + i.1) (es' := [[.V am.2.n_] ++ (am.2.rates.l.map cI ++ ((am.2.counts.set i.1 (wr (i.2 + 1))).l.map cI ++ []))]) I I I I (by omega) I I I (V0 (Eu O) (by simp [Arr.h, Am, A4])) I (congrArg (fun r => [r]) (by rw [show 65 + i.1 = 1 + (64 + (i.1)) from by omega]; exact Gu (k := 1) (by simp [Arr.h, Am, A4]) (Gu (k := 64) (by simp [Arr.h, Am, A4]) (I1 (P8 O))))) (qE (qD (Ao 2 [.k 0 (ab + 1 : Nat)] I ⟨Az b6 b3, J⟩ ?_)))))))))
 cases io h
 exact qE (lg I2 N5)
 rintro u s ob ⟨rfl, rfl⟩ he
 subst he
 have h := b5
 have ca : decide (((e.2.Volume.toNat : Nat) : Int) < e.2.Volume) = false := decide_eq_false (by omega)
 exact Ai I (Ac fun dm dn => Bm I ca (qM (lg ⟨(u.1, u.2.1, u.2.2), h, I2⟩ N5)))
 rintro s ob ⟨g, h, rfl, rfl⟩
 refine Ac fun dp cb => qD (Af 1 I (qN (L6 1 I I I I) I (Af 1 I (qE ?_))))
 subst cb
 refine qH (fQ 1 I fun cc => ?_)
 obtain ⟨dq, cd, ce⟩ := Ad h
 refine D8 cd (K8 11 12 14 15 55 56 57 76) J8 (fun (an : Nat) (ac : List (List Piece)) s ob => ∃ (P : List Value), s = [(77, .V (an : Int))] ∧ ob = [U1 t a, .uss j 34 69 2 P (ac.map fun x => some (x.map Aa)), O8 E [[.V g.1] ++ (g.2.1.l.map cI ++ (g.2.2.l.map cI ++ []))], O7 ak [Aa e.2], .arr al 178 64 1 [b.2.2.2.l.map cI]]) ⟨w, I, I⟩ ⟨I, J⟩ (pk N5) ?_ ?_
 rintro an ac dr s ob az ⟨P, rfl, rfl⟩ h
 have cf := Cm az
 refine Ai I (Ac fun ds cg => Bl I cf (qI ?_))
 subst cg
 refine qJ (qH (Ai I ?_))
 obtain ⟨G, ⟨a0, Q⟩, h⟩ := Bc h
 obtain ⟨A, ⟨ci, a1⟩, h⟩ := Bc h
 obtain ⟨R, ⟨cj, a2⟩, h⟩ := Bc h
 obtain ⟨dt, ck, h⟩ := Ad h
 refine qL (Ghost.take 1 G.1 I (Ae Q)) (Bv (sl 17 0 (.act 17 (.act 18 (.still 19 (.drop 20 .nil))))) [1, 3, 2, 4] [_, _, _, _] I (A9 4 I (AP.o I (Dw 0 (m := G.1) I I I I I I I a0 (Gs Q)) I (AP.o I (F4 0 (m := G.1) I I I I (Gs Q)) I (Cf 4 [.o 1 1] I J1 (qV I (Df (m := A.1) I I I I I I ci (Eu a1)) I (AP.o I (Ck 2 0 (65 + A.1) I I I I (by omega) (y := .V A.2) (by rw [show 65 + A.1 = 1 + (64 + (A.1)) from by omega]; exact Ed (k := 1) (by simp [Arr.h, Am, A4]) (Ed (k := 64) (by simp [Arr.h, Am, A4]) (Ey a1)))) I (A9 1 I (qV I (Df (m := R.1) I I I I I I cj (Eu a2)) I (AP.o I (Ck 3 0 (0 + R.1) I I I I (by omega) (y := .V R.2) (by rw [Nat.zero_add]; exact Ae a2)) I (A9 1 I (qV I (Bi (l := [.V e.2.Batch, .V (wr (A.2 - R.2))]) Ct I) I ?_))))))))))))
 refine qG [] I I I (qO 2 (([(⟨e.2.Batch, wr (A.2 - R.2)⟩ : Piece)] : List Piece).map Aa) (qG [5] I I I (qU 5 I ck fun cl => AP.o I (Dw 0 (m := G.1) I I I I I I I a0 (Gs Q)) I (qX [1, 5] I I I (Gi 1 5 G.1 I I I I (Jx Q) I I I (Fb _ _ _ _) (Ar (qE (qD (Ao 2 [.k 0 (an + 1 : Nat)] I ⟨Az az cc, J⟩ ?_)))))))))
 cases io h
 exact qE (lg ⟨(P.set G.1 cl), I2⟩ N5)
 rintro ac s ob ⟨P, rfl, rfl⟩ he
 subst he
 have h := ce
 have cm := Cn b.1.length
 exact Ai I (Ac fun du dv => Bm I cm (qM (lg ⟨(ac, g.1, g.2.1, g.2.2), P, h, I2⟩ N3)))
 rintro s ob ⟨F, aj, h, rfl, rfl⟩
 unfold Vk.J6 at h
 refine qD (Ao 2 [.k 0 (ai + 1 : Nat)] I ⟨Az aw br, J⟩ ?_)
 cases io h
 exact qE (lg ⟨aj, I2⟩ N3)
 rintro b s ob ⟨w, rfl, rfl⟩ he
 subst he
 have h := bu
 have cn := Cn a.length
 exact Ai I (Ac fun dw dx => Bm I cn (qM (lg ⟨b.1, w, h, I2⟩ [1])))
 rintro s ob ⟨aa, ah, h, rfl, rfl⟩
 unfold Vk.J2 at h
 refine Ak (fun s ob => ∃ (S : List (List Piece)) (ao : List Value), Vk.J3 S = some r ∧ s = [] ∧ ob = [.uss j 34 69 2 ao (S.map fun x => some (x.map Aa))]) [(11, _)] J1 ?_ ?_
 refine Ac fun dy co => qD (Af 1 I (qN (L6 0 I I I I) I (Af 1 I (qE ?_))))
 subst co
 refine qH (fQ 0 I fun cp => ?_)
 obtain ⟨dz, cq, cr⟩ := Ad h
 refine D8 cq (K2 11 103) J2 (fun (aq : Nat) (U : List (List Piece)) s ob => ∃ (B : List Value), s = [(104, .V (aq : Int))] ∧ ob = [.uss j 34 69 2 B (U.map fun x => some (x.map Aa))]) ⟨ah, I, I⟩ ⟨I, J⟩ (pk [0]) ?_ ?_
 rintro aq U d0 s ob a3 ⟨B, rfl, rfl⟩ h
 have ct := Cm a3
 refine Ai I (Ac fun d1 cu => Bl I ct (qI ?_))
 subst cu
 refine qJ (qH (Ai I ?_))
 obtain ⟨n, ⟨a4, W⟩, h⟩ := Bc h
 obtain ⟨d2, cv, h⟩ := Ad h
 refine qD (Af 4 I (qN (Dw 0 (m := n.1) I I I I I I I a4 (Jc W)) I (qN (F4 0 (m := n.1) I I I I (Jc W)) I (qS (Ghost.take 0 n.1 I (Ae W)) (qS (As [1] (K := [.us (B.getD n.1 undef) 69 2 (n.2.map Aa)]) I [(112, Q3 n.2)] ⟨⟨_, I, .us 0 I⟩, J⟩ (ob' := [.uss j 34 69 2 B (List.set (U.map fun x => some (x.map Aa)) n.1 none)]) (.rest _)) (qF [] I (Bg I I I (Ud _ _ cv) dS ?_)))))))
 rintro _ _ ⟨cw, rfl, rfl⟩
 refine qN (Dw 0 (m := n.1) I I I I I I I a4 (Gs W)) I (qF [0, 1] I (Gi 0 1 n.1 I I I I (Jx W) I I I (Fb _ _ _ _) (qE (qD (Ao 2 [.k 0 (aq + 1 : Nat)] I ⟨Az a3 cp, J⟩ ?_)))))
 cases io h
 exact qE (lg ⟨(B.set n.1 cw), I2⟩ [0])
 rintro U s ob ⟨B, rfl, rfl⟩ he
 subst he
 have h := cr
 have cx := Cn aa.length
 exact Ai I (Ac fun d3 d4 => Bm I cx (qM (lg ⟨U, B, h, I2⟩ [0])))
 rintro s ob ⟨S, ao, h, rfl, rfl⟩
 unfold Vk.J3 at h
 refine Ai I (qL (As [0] (K := [.uss j 34 69 2 ao (S.map fun x => some (x.map Aa))]) I [(4, .list 1 (S.map (rL 2 Aa)))] ⟨⟨_, I, Oj 0 I⟩, J⟩ (ob' := []) (.rest _)) ?_)
 cases io h
 exact qK ⟨.inr I, [_, _], [], J2, Cv, I2⟩
end Go.Proofs.YtaoclefkknloiaaGreat
