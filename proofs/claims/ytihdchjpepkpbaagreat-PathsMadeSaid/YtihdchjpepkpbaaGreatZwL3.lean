/- Walks that show what functions of the program compute; printed by a program of ours. No condition. -/
import Derived.Test.YtihdchjpepkpbaaGreatZwL2
import Derived.Test.YtihdchjpepkpbaaGreatZwD
import Derived.Test.YtihdchjpepkpbaaGreatZwL1
import Derived.Test.YtihdchjpepkpbaaGreatZwL0
set_option maxRecDepth 100000
namespace Go.Proofs.YtihdchjpepkpbaaGreat
open Go.Aw
set_option linter.unusedVariables false
set_option linter.unusedSimpArgs false
set_option maxHeartbeats 4000000
abbrev jJ : PL := .act 7 (.still 8 (.act 11 (sl 3 12 (.act 15 (.act 16 (.still 17 (.drop 18 .nil)))))))
theorem aE (s1_0 : List Hop) (s2_1 : List Hop) (r : Bool) (h : S2 s1_0 s2_1 = some r) : ACalls Ak 170 [Q7 s1_0, Q7 s2_1] [] (RB r) := by
 refine Ag Tryz.func170 I I I fun C hC => ?_
 refine Ai I (Aa fun B i => Bg [.l 1 (s1_0.length : Int), .l 3 (s2_1.length : Int)] I ⟨A0, A0, J⟩ (Aq h I ?_ ?_))
 intro j h
 refine Ai I ?_
 cases io h
 exact mL pr
 intro j h
 refine mI ?_
 subst i
 refine Ah (fun s ob => ∃ (d : Unit), S2.J1 d = some r ∧ s = [] ∧ ob = []) [] J ?_ ?_
 refine Bg [.l 1 (s1_0.length : Int)] I ⟨A0, J⟩ (mJ (Cj 11 I fun m => ?_))
 obtain ⟨D, n, e⟩ := Ab h
 refine Cg n (K3 0 1 12) J3 (fun (a : Nat) (f : Unit) s ob => s = [(13, .V (a : Int))] ∧ ob = []) ⟨I, I⟩ ⟨I, J⟩ (pk []) ?_ ?_
 rintro a c f E s ob o g ⟨rfl, rfl⟩ h p
 have q := C9 g
 refine Ai I (Aa fun F t => Cd I q (mI ?_))
 subst t
 refine mK (mJ (Ai I (mK ?_)))
 obtain ⟨b, ⟨u, w⟩, h⟩ := Bb h
 refine Bm (pd 9 0 []) [] [] I (Bo 8 [.x 2 a (A9 c), .x 6 b.1 (A9 b.2)] I ⟨⟨u, Ae w⟩, ⟨I, Ae o⟩, J⟩ (mU I (M2 (r := ((c.Segment == b.2.Segment) && ((c.Back == b.2.Back) && true))) I I Rq I I I I) I (An (mF (Aq h I ?_ ?_)))))
 intro y h
 refine Ai I ?_
 obtain rfl := p _ (oi h).symm
 have h := e
 have h := C2 h
 cases io h
 exact mL pr
 intro y h
 refine mI (mE (Al 2 [.k 0 (a + 1 : Nat)] I ⟨Bf g m, J⟩ ?_))
 cases io h
 exact mF ⟨_, _, _, I, I2, J4, pk []⟩
 rintro f s ob ⟨rfl, rfl⟩ he
 subst he
 have h := Cz e
 have A := Da s1_0.length
 exact Ai I (Aa fun G H => Ce I A (mN (lg ⟨(), h, I2⟩ [])))
 rintro s ob ⟨d, h, rfl, rfl⟩
 unfold S2.J1 at h
 refine Ai I ?_
 cases io h
 exact mL pr
theorem Z8 (a : Path) (b : Path) (r : Bool) (h : Oa a b = some r) : ACalls Ak 114 [.agg (Am a), .agg (Am b)] [] (RB r) := by
 refine Ag Tryz.func114 I I I fun C hC => ?_
 unfold Oa at h
 refine Aa fun k g => mE (mG [] I (Bz (Am a) 4 fun l => mG [] I (Bz (Am b) 4 fun n => Af 1 I (mF ?_))))
 subst g
 refine Ah (fun s ob => ∃ (f : Bool), Oa.J1 f = some r ∧ s = [(4, .v (.bool f))] ∧ ob = []) [] J ?_ ?_
 refine mE (Al 6 [.o 1 0, .o 3 1] I J2 ?_)
 rcases bt ((a.In == b.In)) with d | d
 have h := Bv d h
 refine Ad 10 I d ?_
 rcases bt ((a.Out == b.Out)) with e | e
 have h := Bv e h
 obtain ⟨i, j, h⟩ := Ab h
 exact Al 7 [.o 1 0, .o 3 1] I J2 (Ad 17 I e (Al 4 [.o 1 0, .o 3 1] I J2 (Bc I I I (mR (aE _ _ _ j) (Af 2 I (mF (lg ⟨i, h, I2⟩ [])))))))
 have h := Bw e h
 exact Al 7 [.o 1 0, .o 3 1] I J2 (Ad 17 I e (Af 7 I (mF (lg ⟨false, h, I2⟩ []))))
 have h := Bw d h
 exact Ad 10 I d (Af 14 I (mF (lg ⟨false, h, I2⟩ [])))
 rintro s ob ⟨f, h, rfl, rfl⟩
 unfold Oa.J1 at h
 cases io h
 exact mL pr
theorem bB (a : Path) (b : Path) (r : Bool) (h : S8 a b = some r) : ACalls Ak 113 [.agg (Am a), .eptr (Am b)] [] (RB r) := by
 refine Ag Tryz.func113 I I I fun C hC => ?_
 refine mK (mE (mG [] I (Bz (Am a) 4 fun e => Af 1 I (mF (mK ?_)))))
 obtain ⟨f, d, h⟩ := Ab h
 refine mE (Al 2 [.o 0 0] I J1 (mR (Z8 _ _ _ d) (Af 1 I (mF (mM g0 ?_)))))
 cases io h
 exact mL pr
theorem Mn (b : List Path) (a : Path) (r : Int) (h : L3 b a = some r) : ACalls Ak 57 [Q6 b, .agg (Am a)] [] (RV (.V r)) := by
 refine Ag Tryz.func57 I I I fun C hC => ?_
 refine mK (mE (mG [] I (Bz (Am a) 4 fun d => Af 1 I (mF (mK ?_)))))
 obtain ⟨e, c, h⟩ := Ab h
 refine mE (Af 1 I (B0 (nF I I) I (mG [] I (By I (.refl _) I I (.cons (.refl _) (.cons (.fn (.rest _) (.cons (.box 0 I (.rest _)) (.rest _))) (.rest _))) I (Sd _ (.fn 113 [] [.eptr (Am a)]) I (fun x => S8 x a) (fun x r h => bB x a r h) _ c) dS (by rintro _ _ ⟨rfl, _⟩; rfl) ?_))))
 rintro _ ⟨_, rfl, -⟩
 refine Af 1 I (mF (mM g0 ?_))
 cases io h
 exact mL pr
theorem aI (e : List Path) (n : List Path) (r : List Path) (h : Of e n = some r) : ACalls Ak 14 [Q6 e, Q6 n] [] (fun x new => ∃ (p : Value), x = .v p ∧ new = [U3 p r]) := by
 refine Ag Tryz.func14 I I I fun C hC => ?_
 unfold Of at h
 refine Ai I (Ai I (Ah (fun s ob => ∃ (f : List Path) (b : Value), Of.J1 f = some r ∧ s = [(5, .v b)] ∧ ob = [U3 b f]) [] J ?_ ?_))
 refine Bg [.l 1 (e.length : Int)] I ⟨A0, J⟩ (mJ (Cj 9 I fun y => mM (A6 50 4) ?_))
 obtain ⟨Z, A, B⟩ := Ab h
 refine Dc A (K3 1 9 10) J3 (fun (g : Nat) (d : List Path) s ob => ∃ (a : Value), s = [(11, .V (g : Int)), (5, .v a)] ∧ ob = [U3 a d]) ⟨nS, I2⟩ ⟨I, I, J⟩ (pk [0]) ?_ ?_
 rintro g t d D s ob E u ⟨a, rfl, rfl⟩ h
 unfold Of.B2 at h
 have F := C9 u
 refine Ai I (Aa fun aa G => Cd I F (mI ?_))
 subst G
 refine Ah (fun s ob => ∃ (j : List Path) (i : Value), Of.J3 j = some D ∧ s = [(5, .v i)] ∧ ob = [U3 i j]) (K4 1 9 10 11) J4 ?_ ?_
 refine mJ (Aa fun ab H => mE (Al 2 [.x 0 g (Am t)] I ⟨⟨I, Ae E⟩, J⟩ (mG [] I (Br W1 4 fun ac => mG [1] I (Ba 1 0 0 [Am t] I (mF ?_))))))
 subst H
 refine Aa fun ad K => ?_
 obtain ⟨ae, M, h⟩ := Ab h
 refine mE (Al 2 [.o 1 1] I J1 (mR (Mn _ _ _ M) (Af 1 I (mF ?_))))
 subst K
 refine Ai I (Aq h I ?_ ?_)
 intro O h
 obtain ⟨w, ⟨P, Q⟩, h⟩ := Bb h
 obtain ⟨R, S, h⟩ := Ab h
 obtain ⟨U, W, h⟩ := Ab h
 refine Bm (pd 14 0 [10, 11, 12]) [1] [_] I (Bo 10 [.o 1 0, .o 3 0, .x 6 w.1 (Am w.2)] I ⟨⟨P, Ae Q⟩, I, I, J⟩ (mH [] I I I (Cb I I I (Mk _ _ _ S) dS ?_)))
 rintro _ _ ⟨rfl, rfl⟩
 exact mH [] I I I (mO 4 (([R] : List Path).map Am) (mH [0] I I I (mT 0 I W fun X => iS 5 (A4 1 I (An (mF (lg ⟨U, X, h, I2⟩ [0])))))))
 intro O h
 exact mI (lg ⟨d, a, h, I2⟩ [0])
 rintro s ob ⟨j, i, h, rfl, rfl⟩
 unfold Of.J3 at h
 refine mE (Al 2 [.k 0 (g + 1 : Nat)] I ⟨Bf u y, J⟩ ?_)
 cases io h
 exact mF (lg ⟨i, I2⟩ [0])
 rintro d s ob ⟨a, rfl, rfl⟩ he
 subst he
 have h := B
 have Y := Da e.length
 exact Ai I (Aa fun af ag => Ce I Y (mN (lg ⟨d, a, h, I2⟩ [0])))
 rintro s ob ⟨f, b, h, rfl, rfl⟩
 refine Ai I ?_
 obtain rfl := oi h
 exact mL ⟨.inr I, [_], [U3 b f], J1, Dj I (Cm), ⟨b, I2⟩⟩
theorem Rt (e : List Path) (f : List Path) (r : (List Path) × Bool) (h : Lg e f = some r) : ACalls Ak 16 [Q6 e, Q6 f] [] (fun x new => ∃ (E : Value), x = .tup [.v E, .v (.bool r.2)] ∧ new = [U3 E r.1]) := by
 refine Ag Tryz.func16 I I I fun C hC => ?_
 unfold Lg at h
 refine Ai I (Ah (fun s ob => ∃ (F : Unit), Lg.J1 e f F = some r ∧ s = [] ∧ ob = []) (K2 0 1) J2 ?_ ?_)
 refine Bg [.l 1 (f.length : Int)] I ⟨A0, J⟩ (mJ (Cj 14 I fun P => ?_))
 obtain ⟨a3, Q, G⟩ := Ab h
 refine Cg Q (K4 0 1 14 15) J4 (fun (j : Nat) (H : Unit) s ob => s = [(16, .V (j : Int))] ∧ ob = []) ⟨I, I⟩ ⟨I, J⟩ (pk []) ?_ ?_
 rintro j u H R s ob S K ⟨rfl, rfl⟩ h U
 have W := C9 K
 refine Ai I (Aa fun a4 X => Cd I W (mI ?_))
 subst X
 refine mK (mJ (Aa fun a5 Y => mE (Al 2 [.x 0 j (Am u)] I ⟨⟨I, Ae S⟩, J⟩ (mG [] I (Br W1 4 fun a6 => mG [0] I (Ba 0 0 0 [Am u] I (mF ?_)))))))
 subst Y
 refine Aa fun a7 Z => ?_
 obtain ⟨aa, ab, h⟩ := Ab h
 refine mE (Al 2 [.o 1 0] I J1 (mR (Mn _ _ _ ab) (Af 1 I (mF ?_))))
 subst Z
 refine Ah (fun s ob => ∃ (w : Bool), Lg.J7 w = some R ∧ s = [(34, .v (.bool w))] ∧ ob = []) (K5 0 1 14 15 16) J5 ?_ ?_
 rcases bt (decide (aa < 0)) with g | g
 have h := Bv g h
 exact Bm (pd 12 0 []) [] [] I (A4 3 I (Bk 25 I g (A4 9 I (An (mF (lg ⟨true, h, I2⟩ []))))))
 have h := Bw g h
 obtain ⟨y, ⟨ac, ad⟩, h⟩ := Bb h
 exact Bm (pd 12 0 []) [0] [_] I (A4 3 I (Bk 25 I g (Bo 9 [.x 2 y.1 (Am y.2), .o 6 0] I ⟨I, ⟨ac, Ae ad⟩, J⟩ (An (mF (lg ⟨decide (y.2.Rate < u.Rate), h, I2⟩ []))))))
 rintro s ob ⟨w, h, rfl, rfl⟩
 refine Aq h I ?_ ?_
 intro ae h
 refine Ai I ?_
 obtain rfl := U _ (oi h).symm
 have h := G
 have h := C2 h
 refine mM (A6 50 4) ?_
 cases io h
 exact mL ⟨.inr I, [_, _], [.us nS 50 4 ([].map Am)], J2, Dj I (Cm), ⟨nS, I2⟩⟩
 intro ae h
 refine mI (mE (Al 2 [.k 0 (j + 1 : Nat)] I ⟨Bf K P, J⟩ ?_))
 cases io h
 exact mF ⟨_, _, _, I, I2, J5, pk []⟩
 rintro H s ob ⟨rfl, rfl⟩ he
 subst he
 have h := Cz G
 have af := Da f.length
 exact Ai I (Aa fun a8 a9 => Ce I af (mN (lg ⟨(), h, I2⟩ [])))
 rintro s ob ⟨F, h, rfl, rfl⟩
 unfold Lg.J1 at h
 refine Ai I (Ah (fun s ob => ∃ (n : List Path) (i : Value), Lg.J2 n = some r ∧ s = [(9, .v i)] ∧ ob = [U3 i n]) [] J ?_ ?_)
 refine Bg [.l 1 (e.length : Int)] I ⟨A0, J⟩ (mJ (Cj 36 I fun ag => mM (A6 50 4) ?_))
 obtain ⟨ba, ah, ai⟩ := Ab h
 refine Dc ah (K3 1 36 37) J3 (fun (p : Nat) (a : List Path) s ob => ∃ (b : Value), s = [(38, .V (p : Int)), (9, .v b)] ∧ ob = [U3 b a]) ⟨nS, I2⟩ ⟨I, I, J⟩ (pk [0]) ?_ ?_
 rintro p d a M s ob aj O ⟨b, rfl, rfl⟩ h
 unfold Lg.B3 at h
 have ak := C9 O
 refine Ai I (Aa fun bb al => Cd I ak (mI ?_))
 subst al
 refine Ah (fun s ob => ∃ (A : List Path) (t : Value), Lg.J4 A = some M ∧ s = [(9, .v t)] ∧ ob = [U3 t A]) (K4 1 36 37 38) J4 ?_ ?_
 refine mJ (Aa fun bc am => mE (Al 2 [.x 0 p (Am d)] I ⟨⟨I, Ae aj⟩, J⟩ (mG [] I (Br W1 4 fun an => mG [1] I (Ba 1 0 0 [Am d] I (mF ?_))))))
 subst am
 refine Bg [.o 1 1] I J1 (Ah (fun s ob => ∃ (B : Int), Lg.J5 d a B = some M ∧ s = [(12, .V B)] ∧ ob = [U3 b a, O3 an [Am d]]) (K6 1 9 11 36 37 38) J6 ?_ ?_)
 refine Aa fun bd ao => ?_
 obtain ⟨be, aq, h⟩ := Ab h
 refine mE (Al 2 [.o 1 1] I J1 (mR (Mn _ _ _ aq) (Af 1 I (mF ?_))))
 subst ao
 refine Ai I (Aq h I ?_ ?_)
 intro ar h
 obtain ⟨D, ⟨au, av⟩, h⟩ := Bb h
 exact Hh [.x 3 D.1 (Am D.2)] I ⟨⟨au, Ae av⟩, J⟩ (lg ⟨wr (d.Rate - D.2.Rate), h, I2⟩ [0, 1])
 intro ar h
 exact mI (lg ⟨d.Rate, h, I2⟩ [0, 1])
 rintro s ob ⟨B, h, rfl, rfl⟩
 refine Ai I (Aq h I ?_ ?_)
 intro aw h
 obtain ⟨ax, ay, h⟩ := Ab h
 obtain ⟨az, a0, h⟩ := Ab h
 refine mE (Al 3 [.o 1 1] I J1 (mG [] I (Cb I I I (Mk _ _ _ ay) dS ?_)))
 rintro _ _ ⟨rfl, rfl⟩
 exact mG [] I (mO 4 (([ax] : List Path).map Am) (mG [0] I (mT 0 I a0 fun a1 => Af 1 I (mF (lg ⟨az, a1, h, I2⟩ [0])))))
 intro aw h
 exact mI (lg ⟨a, b, h, I2⟩ [0])
 rintro s ob ⟨A, t, h, rfl, rfl⟩
 unfold Lg.J4 at h
 refine mE (Al 2 [.k 0 (p + 1 : Nat)] I ⟨Bf O ag, J⟩ ?_)
 cases io h
 exact mF (lg ⟨t, I2⟩ [0])
 rintro a s ob ⟨b, rfl, rfl⟩ he
 subst he
 have h := ai
 have a2 := Da e.length
 exact Ai I (Aa fun bf bg => Ce I a2 (mN (lg ⟨a, b, h, I2⟩ [0])))
 rintro s ob ⟨n, i, h, rfl, rfl⟩
 unfold Lg.J2 at h
 refine Ai I ?_
 cases io h
 exact mL ⟨.inr I, [_, _], [U3 i n], J2, Dj I (Cm), ⟨i, I2⟩⟩
theorem Ml (a : Li) (b : Li) (r : Bool) (h : Lu a b = some r) : ACalls Ak 31 [Q0 a, Q0 b] [] (RB r) := by
 refine Ag Tryz.func31 I I I fun C hC => ?_
 refine Ai I (Aa fun A j => Bg [.l 1 (a.length : Int), .l 3 (b.length : Int)] I ⟨A0, A0, J⟩ (Aq h I ?_ ?_))
 intro k h
 refine Ai I ?_
 cases io h
 exact mL pr
 intro k h
 refine mI ?_
 subst j
 refine Ah (fun s ob => ∃ (c : Unit), Lu.J1 c = some r ∧ s = [] ∧ ob = []) [] J ?_ ?_
 refine Ai I (mJ ?_)
 obtain ⟨B, m, d⟩ := Ab h
 refine Bs m (K2 0 1) J2 (fun (e : Int) s ob => s = [(5, .V e)] ∧ ob = []) ⟨I, I⟩ ⟨I, J⟩ (pk []) ?_
 rintro e D s ob ⟨rfl, rfl⟩ h f
 refine Aa fun E n => Bg [.l 2 (a.length : Int)] I ⟨A0, J⟩ (Aq h I ?_ ?_)
 intro o h
 refine mI ?_
 subst n
 refine mK (mJ (mK ?_))
 obtain ⟨g, ⟨p, t⟩, h⟩ := Bb h
 obtain ⟨i, ⟨u, w⟩, h⟩ := Bb h
 refine Ue (pd 9 0 []) [] [] [.x 2 g.1 (rI g.2), .x 6 i.1 (rI i.2)] I I ⟨⟨u, Ae w⟩, ⟨p, Ae t⟩, J⟩ (Aq h I ?_ ?_)
 intro y h
 refine Ai I ?_
 obtain rfl := f _ (oi h).symm
 have h := d
 have h := Cz h
 cases io h
 exact mL pr
 intro y h
 refine mI (mE (Af 3 I ?_))
 cases io h
 exact mF ⟨_, _, _, I, I2, J3, pk []⟩
 intro o h
 obtain rfl := f _ (oi h).symm
 have h := d
 have h := C2 h
 exact mN (lg ⟨(), h, I2⟩ [])
 rintro s ob ⟨c, h, rfl, rfl⟩
 unfold Lu.J1 at h
 refine Ai I ?_
 cases io h
 exact mL pr
theorem Zx (a : List Bool) (b : List Bool) (r : Bool) (h : Nv a b = some r) : ACalls Ak 104 [Q5 a, Q5 b] [] (RB r) := by
 refine Ag Tryz.func104 I I I fun C hC => ?_
 refine Ai I (Aa fun A j => Bg [.l 1 (a.length : Int), .l 3 (b.length : Int)] I ⟨A0, A0, J⟩ (Aq h I ?_ ?_))
 intro k h
 refine Ai I ?_
 cases io h
 exact mL pr
 intro k h
 refine mI ?_
 subst j
 refine Ah (fun s ob => ∃ (c : Unit), Nv.J1 c = some r ∧ s = [] ∧ ob = []) [] J ?_ ?_
 refine Ai I (mJ ?_)
 obtain ⟨B, m, d⟩ := Ab h
 refine Bs m (K2 0 1) J2 (fun (e : Int) s ob => s = [(5, .V e)] ∧ ob = []) ⟨I, I⟩ ⟨I, J⟩ (pk []) ?_
 rintro e D s ob ⟨rfl, rfl⟩ h f
 refine Aa fun E n => Bg [.l 2 (a.length : Int)] I ⟨A0, J⟩ (Aq h I ?_ ?_)
 intro o h
 refine mI ?_
 subst n
 refine mK (mJ (mK ?_))
 obtain ⟨g, ⟨p, t⟩, h⟩ := Bb h
 obtain ⟨i, ⟨u, w⟩, h⟩ := Bb h
 refine Bm (pd 9 0 []) [] [] I (Bo 8 [.x 2 g.1 (rB g.2), .x 6 i.1 (rB i.2)] I ⟨⟨u, Ae w⟩, ⟨p, Ae t⟩, J⟩ (mU I (Fk I I I I) I (An (mF (Aq h I ?_ ?_)))))
 intro y h
 refine Ai I ?_
 obtain rfl := f _ (oi h).symm
 have h := d
 have h := Cz h
 cases io h
 exact mL pr
 intro y h
 refine mI (mE (Af 3 I ?_))
 cases io h
 exact mF ⟨_, _, _, I, I2, J3, pk []⟩
 intro o h
 obtain rfl := f _ (oi h).symm
 have h := d
 have h := C2 h
 exact mN (lg ⟨(), h, I2⟩ [])
 rintro s ob ⟨c, h, rfl, rfl⟩
 unfold Nv.J1 at h
 refine Ai I ?_
 cases io h
 exact mL pr
theorem Rw (d : Plan) (e : Plan) (r : Bool) (h : Ny d e = some r) : ACalls Ak 42 [.agg (Au d), .agg (Au e)] [] (RB r) := by
 refine Ag Tryz.func42 I I I fun C hC => ?_
 unfold Ny at h
 refine Aa fun t i => mE (mG [] I (Bz (Au d) 3 fun u => mG [] I (Bz (Au e) 3 fun w => Af 1 I (mF ?_))))
 subst i
 refine Ah (fun s ob => ∃ (f : Bool), Ny.J1 f = some r ∧ s = [(4, .v (.bool f))] ∧ ob = []) [] J ?_ ?_
 obtain ⟨j, k, h⟩ := Ab h
 refine mE (Al 4 [.o 1 0, .o 3 1] I J2 (mR (Ml _ _ _ k) (Af 1 I ?_)))
 rcases bt (j) with a | a
 have h := Bv a h
 obtain ⟨l, g, h⟩ := Ab h
 refine Ad 10 I a ?_
 rcases bt (l) with b | b
 have h := Bv b h
 obtain ⟨n, p, h⟩ := Ab h
 exact Al 4 [.o 1 0, .o 3 1] I J2 (Bc I I I (mR (Ml _ _ _ g) (Af 2 I (Ad 17 I b (Al 4 [.o 1 0, .o 3 1] I J2 (Bc I I I (mR (Zx _ _ _ p) (Af 2 I (mF (lg ⟨n, h, I2⟩ []))))))))))
 have h := Bw b h
 exact Al 4 [.o 1 0, .o 3 1] I J2 (Bc I I I (mR (Ml _ _ _ g) (Af 2 I (Ad 17 I b (Af 7 I (mF (lg ⟨false, h, I2⟩ [])))))))
 have h := Bw a h
 exact Ad 10 I a (Af 14 I (mF (lg ⟨false, h, I2⟩ [])))
 rintro s ob ⟨f, h, rfl, rfl⟩
 unfold Ny.J1 at h
 cases io h
 exact mL pr
theorem Mm (a : Path) (r : Path) (h : Lw a = some r) : ACalls Ak 60 [.agg (Am a)] [] (RV (.agg (Am r))) := by
 refine Ag Tryz.func60 I I I fun C hC => ?_
 refine mK (mE (mG [] I (Bz (Am a) 4 fun d => mG [] I (Br W1 4 fun e => mF (mK ?_)))))
 obtain ⟨c, f, h⟩ := Ab h
 refine mE (mG [] I (mS (sz := 2) (es := ([] : List Hop).map A9) I I I I I I I I I I I dS fun i => Al 2 [.o 1 0] I J1 (mG [2] I (mT 2 I f fun b => Af 1 I (nD 2 I fun g => mG [0] I (mP 0 0 2 (es' := [[.V a.In, .V a.Out, .v b, .V a.Rate]]) I I I I I I (Bd g) I (As I) I I (mF (mK (mE (Al 1 [.o 0 0] I J1 (mG [1] I (Ba 1 0 0 [[.V a.In, .V a.Out, .v b, .V a.Rate]] I (mF ?_)))))))))))))
 refine mM (Be [2] (K := [U4 b c]) I [] J (ob' := [O3 d [[.V a.In, .V a.Out, .v b, .V a.Rate]], O3 e [[.V a.In, .V a.Out, Q7 c, .V a.Rate]]]) (.cons (.same _) (.cons (.arr (.cons (.refl _) (.cons (.refl _) (.cons (.us 0 I) (.rest _))))) (.rest _)))) (Dd [1] I ?_)
 cases io h
 exact mL ⟨.inr I, [_], [], ⟨⟨0, _, _, _, _, _, _, _, I5⟩, J⟩, Cm, I2⟩
theorem Sc (a : Path) (b : Path) (r : Bool) (h : Je a b = some r) : ACalls Ak 56 [.agg (Am a), .agg (Am b)] [] (RB r) := by
 refine Ag Tryz.func56 I I I fun C hC => ?_
 unfold Je at h
 refine Aa fun K n => mE (mG [] I (Bz (Am a) 4 fun p => mG [] I (Bz (Am b) 4 fun t => Af 1 I (mF ?_))))
 subst n
 refine Aa fun M u => Ec 26 ((a.In != b.In) || ((a.Out != b.Out) || ((a.Hops.length : Int) != (b.Hops.length : Int)))) ?_ ?_
 refine mE (Al 6 [.o 1 0, .o 3 1] I J2 ?_)
 rcases bt ((a.In != b.In)) with c | c
 exact Ad 11 I c (Af 15 I (mF (jf (by simp only [c, bz]) I I I2)))
 refine Ad 11 I c (Al 7 [.o 1 0, .o 3 1] I J2 ?_)
 rcases bt ((a.Out != b.Out)) with d | d
 exact Ad 18 I d (Af 8 I (mF (jf (by simp only [c, d, bz]) I I I2)))
 exact Ad 18 I d (Al 8 [.o 1 0, .l 2 (a.Hops.length : Int), .o 4 1, .l 5 (b.Hops.length : Int)] I ⟨A0, I, A0, I, J⟩ (mF (jf (by simp only [c, d, bz]) I I I2)))
 refine Aq h I ?_ ?_
 intro w h
 refine Ai I (mM g0 ?_)
 cases io h
 exact mL pr
 intro w h
 refine mI ?_
 subst u
 refine Ah (fun s ob => ∃ (g : Unit), Je.J1 g = some r ∧ s = [] ∧ ob = []) [] J ?_ ?_
 refine Ai I (mJ ?_)
 obtain ⟨N, y, i⟩ := Ab h
 refine Bs y (K2 2 3) J2 (fun (j : Int) s ob => s = [(5, .V j)] ∧ ob = [O3 p [Am a], O3 t [Am b]]) ⟨I, I⟩ ⟨I, J⟩ (pk [0, 1]) ?_
 rintro j O s ob ⟨rfl, rfl⟩ h k
 refine Aa fun P A => Bg [.o 2 0, .l 3 (a.Hops.length : Int)] I ⟨A0, I, J⟩ (Aq h I ?_ ?_)
 intro B h
 refine mI ?_
 subst A
 refine mK (mJ (mK ?_))
 obtain ⟨e, ⟨D, E⟩, h⟩ := Bb h
 obtain ⟨f, ⟨F, G⟩, h⟩ := Bb h
 refine Bm (pd 11 0 []) [0, 1] [_, _] I (Bo 10 [.o 1 0, .x 3 e.1 (A9 e.2), .o 6 1, .x 8 f.1 (A9 f.2)] I ⟨⟨F, Ae G⟩, I, ⟨D, Ae E⟩, I, J⟩ (mU I (M2 (r := ((e.2.Segment == f.2.Segment) && ((e.2.Back == f.2.Back) && true))) I I Rq I I I I) I (An (mF (Aq h I ?_ ?_)))))
 intro H h
 refine Ai I ?_
 obtain rfl := k _ (oi h).symm
 have h := i
 have h := Cz h
 refine mM g0 ?_
 cases io h
 exact mL pr
 intro H h
 refine mI (mE (Af 3 I ?_))
 cases io h
 exact mF ⟨_, _, _, I, I2, J3, pk [0, 1]⟩
 intro B h
 obtain rfl := k _ (oi h).symm
 have h := i
 have h := C2 h
 exact mN (lg ⟨(), h, I2⟩ [])
 rintro s ob ⟨g, h, rfl, rfl⟩
 unfold Je.J1 at h
 refine Ai I ?_
 cases io h
 exact mL pr
theorem Mo (b : List Path) (a : Path) (r : Int) (h : Hx b a = some r) : ACalls Ak 59 [Q6 b, .agg (Am a)] [] (RV (.V r)) := by
 refine Ag Tryz.func59 I I I fun C hC => ?_
 unfold Hx at h
 refine Aa fun A j => mE (mG [] I (Bz (Am a) 4 fun k => Af 1 I (mF ?_)))
 subst j
 refine Ah (fun s ob => ∃ (d : Unit), Hx.J1 d = some r ∧ s = [] ∧ ob = []) [] J ?_ ?_
 refine Ai I (mJ ?_)
 obtain ⟨B, n, e⟩ := Ab h
 refine Bs n (K2 0 3) J2 (fun (f : Int) s ob => s = [(5, .V f)] ∧ ob = [O3 k [Am a]]) ⟨I, I⟩ ⟨I, J⟩ (pk [0]) ?_
 rintro f D s ob ⟨rfl, rfl⟩ h g
 refine Aa fun E p => Bg [.l 2 (b.length : Int)] I ⟨A0, J⟩ (Aq h I ?_ ?_)
 intro t h
 refine mI ?_
 subst p
 refine mK (mJ (mK ?_))
 obtain ⟨i, ⟨u, v⟩, h⟩ := Bb h
 obtain ⟨F, w, h⟩ := Ab h
 refine Bm (pd 6 0 [5]) [0] [_] I (Bo 5 [.x 2 i.1 (Am i.2), .o 4 0] I ⟨I, ⟨u, Ae v⟩, J⟩ (nC I (Sc _ _ _ w) (An (mF (Aq h I ?_ ?_)))))
 intro y h
 refine Ai I ?_
 obtain rfl := g _ (oi h).symm
 have h := e
 have h := Cz h
 refine mM g0 ?_
 cases io h
 exact mL pr
 intro y h
 refine mI (mE (Af 3 I ?_))
 cases io h
 exact mF ⟨_, _, _, I, I2, J3, pk [0]⟩
 intro t h
 obtain rfl := g _ (oi h).symm
 have h := e
 have h := C2 h
 exact mN (lg ⟨(), h, I2⟩ [])
 rintro s ob ⟨d, h, rfl, rfl⟩
 unfold Hx.J1 at h
 refine Ai I ?_
 cases io h
 exact mL pr
theorem Mj (k : List Path) (p : List Path) (r : List Path) (h : Jd k p = some r) : ACalls Ak 15 [Q6 k, Q6 p] [] (fun x new => ∃ (t : Value), x = .v t ∧ new = [U3 t r]) := by
 refine Ag Tryz.func15 I I I fun C hC => ?_
 unfold Jd at h
 refine Ai I (Ai I (Ah (fun s ob => ∃ (f : List Path) (d : Value), Jd.J1 f = some r ∧ s = [(5, .v d)] ∧ ob = [U3 d f]) [] J ?_ ?_))
 refine Ai I (mJ (mM (A6 50 4) ?_))
 obtain ⟨W, y, A⟩ := Ab h
 refine Bs y (K2 0 1) J2 (fun (b : (List Path) × Int) s ob => ∃ (e : Value), s = [(5, .v e), (6, .V b.2)] ∧ ob = [U3 e b.1]) ⟨nS, I2⟩ ⟨I, I, J⟩ (pk [0]) ?_
 rintro b B s ob ⟨e, rfl, rfl⟩ h D
 refine Aa fun X E => Bg [.l 2 (k.length : Int)] I ⟨A0, J⟩ (Aq h I ?_ ?_)
 intro F h
 refine mI ?_
 subst E
 refine Ah (fun s ob => ∃ (n : List Path) (g : Value), Jd.J3 b n = some B ∧ s = [(5, .v g)] ∧ ob = [U3 g n]) (K3 0 1 6) J3 ?_ ?_
 refine mJ (Aa fun Y G => ?_)
 obtain ⟨i, ⟨u, w⟩, h⟩ := Bb h
 obtain ⟨Z, H, h⟩ := Ab h
 refine mE (Al 5 [.x 3 i.1 (Am i.2)] I ⟨⟨u, Ae w⟩, J⟩ (mR (Mo _ _ _ H) (Af 1 I (mF ?_))))
 subst G
 refine Ai I (Aq h I ?_ ?_)
 intro K h
 refine Aa fun aa M => ?_
 obtain ⟨a, O, h⟩ := Ab h
 refine mE (Al 4 [.x 2 i.1 (Am i.2)] I ⟨⟨u, Ae w⟩, J⟩ (mG [] I (Cb I I I (Mm _ _ O) dS ?_)))
 rintro _ _ ⟨rfl, rfl⟩
 refine mG [] I (Br W1 4 fun ab => mG [1] I (Ba 1 0 0 [Am a] I (mF ?_)))
 subst M
 refine mK ?_
 obtain ⟨j, ⟨P, Q⟩, h⟩ := Bb h
 refine Bm (sl 9 0 (.drop 9 .nil)) [1] [_] I (Bo 9 [.o 1 0, .x 4 j.1 (Am j.2)] I ⟨⟨P, Ae Q⟩, I, J⟩ (mW [1] I I I (Ba 1 0 3 [[.V a.In, .V a.Out, Q7 a.Hops, .V (min a.Rate j.2.Rate)]] I (An (mF ?_)))))
 obtain ⟨R, S, h⟩ := Ab h
 exact mE (Al 2 [.o 1 1] I J1 (mG [] I (mO 4 (([(⟨a.In, a.Out, a.Hops, (min a.Rate j.2.Rate)⟩ : Path)] : List Path).map Am) (mG [0] I (mT 0 I S fun U => Af 1 I (mF (lg ⟨R, U, h, I2⟩ [0])))))))
 intro K h
 exact mI (lg ⟨b.1, e, h, I2⟩ [0])
 rintro s ob ⟨n, g, h, rfl, rfl⟩
 unfold Jd.J3 at h
 refine mE (Af 3 I ?_)
 cases io h
 exact mF ⟨_, _, _, I, ⟨g, I2⟩, J4, pk [0]⟩
 intro F h
 obtain rfl := D _ (oi h).symm
 have h := A
 exact mN (lg ⟨b.1, e, h, I2⟩ [0])
 rintro s ob ⟨f, d, h, rfl, rfl⟩
 refine Ai I ?_
 obtain rfl := oi h
 exact mL ⟨.inr I, [_], [U3 d f], J1, Dj I (Cm), ⟨d, I2⟩⟩
theorem R9 (i : List Path) (j : List Path) (r : (List Path) × Bool) (h : Lr i j = some r) : ACalls Ak 17 [Q6 i, Q6 j] [] (fun x new => ∃ (B : Value), x = .tup [.v B, .v (.bool r.2)] ∧ new = [U3 B r.1]) := by
 refine Ag Tryz.func17 I I I fun C hC => ?_
 unfold Lr at h
 refine Ai I (Ah (fun s ob => ∃ (D : Unit), Lr.J1 i j D = some r ∧ s = [] ∧ ob = []) (K2 0 1) J2 ?_ ?_)
 refine Ai I (mJ ?_)
 obtain ⟨aw, O, E⟩ := Ab h
 refine Bs O (K2 0 1) J2 (fun (u : Int) s ob => s = [(6, .V u)] ∧ ob = []) ⟨I, I⟩ ⟨I, J⟩ (pk []) ?_
 rintro u P s ob ⟨rfl, rfl⟩ h F
 refine Aa fun ax Q => Bg [.l 2 (j.length : Int)] I ⟨A0, J⟩ (Aq h I ?_ ?_)
 intro R h
 refine mI ?_
 subst Q
 refine mK (mJ (Aa fun ay S => ?_))
 obtain ⟨e, ⟨G, H⟩, h⟩ := Bb h
 obtain ⟨U, W, h⟩ := Ab h
 refine mE (Al 5 [.x 3 e.1 (Am e.2)] I ⟨⟨G, Ae H⟩, J⟩ (mR (Mo _ _ _ W) (Af 1 I (mF ?_))))
 subst S
 refine Ah (fun s ob => ∃ (w : Bool), Lr.J7 u w = some P ∧ s = [(38, .v (.bool w))] ∧ ob = []) (K3 0 1 6) J3 ?_ ?_
 refine Bm (pd 15 0 []) [] [] I (A4 3 I ?_)
 rcases bt (decide (U < 0)) with f | f
 have h := Bv f h
 exact Bk 26 I f (A4 12 I (An (mF (lg ⟨true, h, I2⟩ []))))
 have h := Bw f h
 obtain ⟨y, ⟨X, Y⟩, h⟩ := Bb h
 exact Bk 26 I f (Bo 12 [.x 2 y.1 (Am y.2), .x 7 e.1 (Am e.2)] I ⟨⟨G, Ae H⟩, ⟨X, Ae Y⟩, J⟩ (An (mF (lg ⟨decide (y.2.Rate < e.2.Rate), h, I2⟩ []))))
 rintro s ob ⟨w, h, rfl, rfl⟩
 refine Aq h I ?_ ?_
 intro Z h
 refine Ai I ?_
 obtain rfl := F _ (oi h).symm
 have h := E
 have h := Cz h
 refine mM (A6 50 4) ?_
 cases io h
 exact mL ⟨.inr I, [_, _], [.us nS 50 4 ([].map Am)], J2, Dj I (Cm), ⟨nS, I2⟩⟩
 intro Z h
 refine mI (mE (Af 3 I ?_))
 cases io h
 exact mF ⟨_, _, _, I, I2, J3, pk []⟩
 intro R h
 obtain rfl := F _ (oi h).symm
 have h := E
 have h := C2 h
 exact mN (lg ⟨(), h, I2⟩ [])
 rintro s ob ⟨D, h, rfl, rfl⟩
 unfold Lr.J1 at h
 refine Ai I (Ah (fun s ob => ∃ (k : List Path) (g : Value), Lr.J2 k = some r ∧ s = [(8, .v g)] ∧ ob = [U3 g k]) [] J ?_ ?_)
 refine Ai I (mJ (mM (A6 50 4) ?_))
 obtain ⟨az, aa, ab⟩ := Ab h
 refine Bs aa (K2 0 1) J2 (fun (b : (List Path) × Int) s ob => ∃ (d : Value), s = [(8, .v d), (9, .V b.2)] ∧ ob = [U3 d b.1]) ⟨nS, I2⟩ ⟨I, I, J⟩ (pk [0]) ?_
 rintro b K s ob ⟨d, rfl, rfl⟩ h ac
 refine Aa fun a0 ad => Bg [.l 2 (i.length : Int)] I ⟨A0, J⟩ (Aq h I ?_ ?_)
 intro ae h
 refine mI ?_
 subst ad
 refine Ah (fun s ob => ∃ (A : List Path) (n : Value), Lr.J4 b A = some K ∧ s = [(8, .v n)] ∧ ob = [U3 n A]) (K3 0 1 9) J3 ?_ ?_
 refine mJ (Aa fun a1 af => ?_)
 obtain ⟨M, ⟨ag, ah⟩, h⟩ := Bb h
 obtain ⟨a, ai, h⟩ := Ab h
 refine mE (Al 4 [.x 2 M.1 (Am M.2)] I ⟨⟨ag, Ae ah⟩, J⟩ (mG [] I (Cb I I I (Mm _ _ ai) dS ?_)))
 rintro _ _ ⟨rfl, rfl⟩
 refine mG [] I (Br W1 4 fun aj => mG [1] I (Ba 1 0 0 [Am a] I (mF ?_)))
 subst af
 refine Ah (fun s ob => ∃ (p : Int), Lr.J5 b a p = some K ∧ s = [] ∧ ob = [U3 d b.1, O3 aj [[.V a.In, .V a.Out, Q7 a.Hops, .V p]]]) (K5 0 1 8 9 10) J5 ?_ ?_
 refine Aa fun a2 ak => ?_
 obtain ⟨a3, al, h⟩ := Ab h
 refine mE (Al 2 [.o 1 1] I J1 (mR (Mo _ _ _ al) (Af 1 I (mF ?_))))
 subst ak
 refine Ai I (Aq h I ?_ ?_)
 intro am h
 obtain ⟨t, ⟨an, ao⟩, h⟩ := Bb h
 exact Bm (sl 9 0 (.drop 9 .nil)) [1] [_] I (Bo 9 [.o 1 0, .x 4 t.1 (Am t.2)] I ⟨⟨an, Ae ao⟩, I, J⟩ (mW [1] I I I (Ba 1 0 3 [[.V a.In, .V a.Out, Q7 a.Hops, .V (wr (a.Rate - t.2.Rate))]] I (An (mF (lg ⟨wr (a.Rate - t.2.Rate), h, I2⟩ [0, 1]))))))
 intro am h
 exact mI (lg ⟨a.Rate, h, I2⟩ [0, 1])
 rintro s ob ⟨p, h, rfl, rfl⟩
 refine Bg [.o 1 1] I J1 (Aq h I ?_ ?_)
 intro aq h
 obtain ⟨ar, au, h⟩ := Ab h
 exact mE (Al 2 [.o 1 1] I J1 (mG [] I (mO 4 (([(⟨a.In, a.Out, a.Hops, p⟩ : Path)] : List Path).map Am) (mG [0] I (mT 0 I au fun av => Af 1 I (mF (lg ⟨ar, av, h, I2⟩ [0])))))))
 intro aq h
 exact mI (lg ⟨b.1, d, h, I2⟩ [0])
 rintro s ob ⟨A, n, h, rfl, rfl⟩
 unfold Lr.J4 at h
 refine mE (Af 3 I ?_)
 cases io h
 exact mF ⟨_, _, _, I, ⟨n, I2⟩, J4, pk [0]⟩
 intro ae h
 obtain rfl := ac _ (oi h).symm
 have h := ab
 exact mN (lg ⟨b.1, d, h, I2⟩ [0])
 rintro s ob ⟨k, g, h, rfl, rfl⟩
 unfold Lr.J2 at h
 refine Ai I ?_
 cases io h
 exact mL ⟨.inr I, [_, _], [U3 g k], J2, Dj I (Cm), ⟨g, I2⟩⟩
theorem Ew (e : List Path) (f : List Path) (r : Bool) (h : G6 e f = some r) : ACalls Ak 13 [Q6 e, Q6 f] [] (RB r) := by
 refine Ag Tryz.func13 I I I fun C hC => ?_
 refine Ai I (Aa fun H u => Bg [.l 1 (e.length : Int), .l 3 (f.length : Int)] I ⟨A0, A0, J⟩ (Aq h I ?_ ?_))
 intro w h
 refine Ai I ?_
 cases io h
 exact mL pr
 intro w h
 refine mI ?_
 subst u
 refine Ah (fun s ob => ∃ (j : Unit), G6.J1 j = some r ∧ s = [] ∧ ob = []) [] J ?_ ?_
 refine Ai I (mJ ?_)
 obtain ⟨K, y, k⟩ := Ab h
 refine Bs y (K2 0 1) J2 (fun (g : Int) s ob => s = [(5, .V g)] ∧ ob = []) ⟨I, I⟩ ⟨I, J⟩ (pk []) ?_
 rintro g A s ob ⟨rfl, rfl⟩ h m
 refine Aa fun M B => Bg [.l 2 (e.length : Int)] I ⟨A0, J⟩ (Aq h I ?_ ?_)
 intro D h
 refine mI ?_
 subst B
 refine mK (mJ (Ah (fun s ob => ∃ (i : Bool), G6.J3 g i = some A ∧ s = [(39, .v (.bool i))] ∧ ob = []) (K3 0 1 5) J3 ?_ ?_))
 obtain ⟨a, ⟨n, o⟩, h⟩ := Bb h
 obtain ⟨b, ⟨p, t⟩, h⟩ := Bb h
 obtain ⟨E, F, h⟩ := Ab h
 refine Bm (pd 23 0 [8]) [] [] I (Bo 8 [.x 2 a.1 (Am a.2), .x 6 b.1 (Am b.2)] I ⟨⟨p, Ae t⟩, ⟨n, Ae o⟩, J⟩ (nC I (Sc _ _ _ F) (A4 2 I ?_)))
 rcases bt ((!E)) with d | d
 have h := Bv d h
 exact Bk 27 I d (A4 12 I (An (mF (lg ⟨true, h, I2⟩ []))))
 have h := Bw d h
 exact Bk 27 I d (Bo 12 [.x 2 a.1 (Am a.2), .x 7 b.1 (Am b.2)] I ⟨⟨p, Ae t⟩, ⟨n, Ae o⟩, J⟩ (An (mF (lg ⟨(a.2.Rate != b.2.Rate), h, I2⟩ []))))
 rintro s ob ⟨i, h, rfl, rfl⟩
 refine Aq h I ?_ ?_
 intro G h
 refine Ai I ?_
 obtain rfl := m _ (oi h).symm
 have h := k
 have h := Cz h
 cases io h
 exact mL pr
 intro G h
 refine mI (mE (Af 3 I ?_))
 cases io h
 exact mF ⟨_, _, _, I, I2, J3, pk []⟩
 intro D h
 obtain rfl := m _ (oi h).symm
 have h := k
 have h := C2 h
 exact mN (lg ⟨(), h, I2⟩ [])
 rintro s ob ⟨j, h, rfl, rfl⟩
 unfold G6.J1 at h
 refine Ai I ?_
 cases io h
 exact mL pr
theorem Rr (b : Nw) (a : Path) (r : Bool) (h : I6 b a = some r) : ACalls Ak 122 [.agg (Ac b), .agg (Am a)] [] (RB r) := by
 refine Ag Tryz.func122 I I I fun C hC => ?_
 unfold I6 at h
 refine Aa fun y1 ab => mE (mG [] I (Bz (Ac b) 6 fun p => mG [] I (Bz (Am a) 4 fun t => Af 1 I (mF ?_))))
 subst ab
 refine Aa fun y4 ac => Ec 57 (decide (a.In < 0) || (decide (a.In ≥ (b.Ports.length : Int)) || (decide (a.Out < 0) || (decide (a.Out ≥ (b.Ports.length : Int)) || ((a.In == a.Out) || (decide (a.Rate < 1) || (decide (a.Rate > 1000) || decide ((a.Hops.length : Int) > 32)))))))) ?_ ?_
 refine mE (Al 4 [.o 1 1] I J1 ?_)
 rcases bt (decide (a.In < 0)) with e | e
 exact Ad 14 I e (Af 43 I (mF (jf (by simp only [e, bz]) I I I2)))
 refine Ad 14 I e (Al 8 [.o 1 1, .o 3 0, .l 4 (b.Ports.length : Int)] I ⟨A0, I, I, J⟩ ?_)
 rcases bt (decide (a.In ≥ (b.Ports.length : Int))) with g | g
 exact Ad 22 I g (Af 35 I (mF (jf (by simp only [e, g, bz]) I I I2)))
 refine Ad 22 I g (Al 5 [.o 1 1] I J1 ?_)
 rcases bt (decide (a.Out < 0)) with i | i
 exact Ad 27 I i (Af 30 I (mF (jf (by simp only [e, g, i, bz]) I I I2)))
 refine Ad 27 I i (Al 8 [.o 1 1, .o 3 0, .l 4 (b.Ports.length : Int)] I ⟨A0, I, I, J⟩ ?_)
 rcases bt (decide (a.Out ≥ (b.Ports.length : Int))) with j | j
 exact Ad 35 I j (Af 22 I (mF (jf (by simp only [e, g, i, j, bz]) I I I2)))
 refine Ad 35 I j (Al 7 [.o 1 1, .o 3 1] I J2 ?_)
 rcases bt ((a.In == a.Out)) with n | n
 exact Ad 42 I n (Af 15 I (mF (jf (by simp only [e, g, i, j, n, bz]) I I I2)))
 refine Ad 42 I n (Al 5 [.o 1 1] I J1 ?_)
 rcases bt (decide (a.Rate < 1)) with u | u
 exact Ad 47 I u (Af 10 I (mF (jf (by simp only [e, g, i, j, n, u, bz]) I I I2)))
 refine Ad 47 I u (Al 5 [.o 1 1] I J1 ?_)
 rcases bt (decide (a.Rate > 1000)) with A | A
 exact Ad 52 I A (Af 5 I (mF (jf (by simp only [e, g, i, j, n, u, A, bz]) I I I2)))
 exact Ad 52 I A (Al 5 [.o 1 1, .l 2 (a.Hops.length : Int)] I ⟨A0, I, J⟩ (mF (jf (by simp only [e, g, i, j, n, u, A, bz]) I I I2)))
 refine Aq h I ?_ ?_
 intro ad h
 refine Ai I (mM g0 ?_)
 cases io h
 exact mL pr
 intro ad h
 refine mI ?_
 subst ac
 refine Aa fun a9 ae => ?_
 obtain ⟨H, ⟨af, ag⟩, h⟩ := Bb h
 refine Hh [.o 1 0, .o 3 1, .x 4 H.1 (Bp H.2)] I ⟨⟨af, Ae ag⟩, I, I, J⟩ ?_
 subst ae
 refine Aa fun ba ah => mE (Af 1 I (mG [] I (mS (sz := 1) (es := ([H.2.Node] : Li).map rI) I I I I I I I I I I I dS fun ai => Af 1 I (mF ?_))))
 subst ah
 refine Ah (fun s ob => ∃ (K : Int), I6.J1 b a K = some r ∧ s = [(5, .V K)] ∧ ob = [O0 p [Ac b], O3 t [Am a]]) (K2 2 3) J2 ?_ ?_
 refine Ai I (mJ ?_)
 obtain ⟨bb, aj, D⟩ := Ab h
 refine Bs aj (K2 2 3) J2 (fun (f : Int × Li × Int) s ob => ∃ (w : Value), s = [(5, .V f.1), (6, .v w), (7, .V f.2.2)] ∧ ob = [O0 p [Ac b], O3 t [Am a], U0 w f.2.1]) ⟨ai, I2⟩ ⟨I, I, I, J⟩ (pk N3) ?_
 rintro f M s ob ⟨w, rfl, rfl⟩ h E
 refine Aa fun bc ak => Bg [.o 2 1, .l 3 (a.Hops.length : Int)] I ⟨A0, I, J⟩ (Aq h I ?_ ?_)
 intro al h
 refine mI ?_
 subst ak
 refine Ah (fun s ob => ∃ (F : Int × Li) (G : Value), I6.J3 f F = some M ∧ s = [(5, .V F.1), (6, .v G)] ∧ ob = [O0 p [Ac b], O3 t [Am a], U0 G F.2]) (K3 2 3 7) J3 ?_ ?_
 refine mJ (Aa fun bd am => Ah (fun s ob => ∃ (N : Bool), I6.J4 b a f N = some M ∧ s = [(92, .v (.bool N))] ∧ ob = [O0 p [Ac b], O3 t [Am a], U0 w f.2.1]) (K5 2 3 5 6 7) J5 ?_ ?_)
 obtain ⟨k, ⟨O, P⟩, h⟩ := Bb h
 rcases bt (decide (k.2.Segment < 0)) with B | B
 have h := Bv B h
 exact Bm (pd 19 0 []) [1] [_] I (Bo 8 [.o 1 0, .x 3 k.1 (A9 k.2)] I ⟨⟨O, Ae P⟩, I, J⟩ (Bk 81 I B (A4 11 I (An (mF (lg ⟨true, h, I2⟩ N3))))))
 have h := Bw B h
 exact Bm (pd 19 0 []) [1, 0] [_, _] I (Bo 8 [.o 1 0, .x 3 k.1 (A9 k.2)] I ⟨⟨O, Ae P⟩, I, J⟩ (Bk 81 I B (Bo 11 [.o 1 0, .x 3 k.1 (A9 k.2), .o 7 1, .l 8 (b.Segments.length : Int)] I ⟨A0, I, ⟨O, Ae P⟩, I, J⟩ (An (mF (lg ⟨decide (k.2.Segment ≥ (b.Segments.length : Int)), h, I2⟩ N3))))))
 rintro s ob ⟨N, h, rfl, rfl⟩
 refine Aq h I ?_ ?_
 intro an h
 refine Ai I ?_
 obtain rfl := E _ (oi h).symm
 have h := D
 have h := Cz h
 refine mM g0 ?_
 cases io h
 exact mL pr
 intro an h
 refine mI ?_
 subst am
 refine Aa fun be ao => ?_
 obtain ⟨S, ⟨aq, ar⟩, h⟩ := Bb h
 obtain ⟨Q, au, h⟩ := Ab h
 refine Bm (pd 12 0 [6]) [0, 1] [_, _] I (Bo 6 [.o 0 0, .o 2 1, .x 4 S.1 (A9 S.2)] I ⟨⟨aq, Ae ar⟩, I, I, J⟩ (nC I (R5 _ _ _ au) (A4 5 I (An (mF ?_)))))
 subst ao
 refine Aa fun bf av => Ai I (Aq h I ?_ ?_)
 intro aw h
 refine Ai I ?_
 obtain rfl := E _ (oi h).symm
 have h := D
 have h := Cz h
 refine mM g0 ?_
 cases io h
 exact mL pr
 intro aw h
 refine mI ?_
 subst av
 refine Ah (fun s ob => ∃ (U : Unit), I6.J5 f Q U = some M ∧ s = [] ∧ ob = [O0 p [Ac b], O3 t [Am a], U0 w f.2.1]) (K5 2 3 6 7 9) J5 ?_ ?_
 refine Ai I (mJ ?_)
 obtain ⟨bg, ax, W⟩ := Ab h
 refine Bs ax (K5 2 3 6 7 9) J5 (fun (X : Int) s ob => s = [(10, .V X)] ∧ ob = [O0 p [Ac b], O3 t [Am a], U0 w f.2.1]) ⟨I, I⟩ ⟨I, J⟩ (pk N3) ?_
 rintro X bh s ob ⟨rfl, rfl⟩ h Y
 refine Aa fun bi ay => mK (mE (Af 2 I (mQ (Cf 2 I I I I) I (Af 1 I (mF (Aq h I ?_ ?_))))))
 intro az h
 refine mI ?_
 subst ay
 refine mK (mJ (mK ?_))
 obtain ⟨R, ⟨a0, Z⟩, h⟩ := Bb h
 refine mE (Af 2 I (mQ (Bh 2 (m := R.1) I I I I I I I a0 (Ae Z)) I (mQ (Ay 2 R.1 0 I I I (Ae Z) I (y := .V R.2) I) I (Af 2 I (mF (Aq h I ?_ ?_))))))
 intro a1 h
 refine Ai I ?_
 obtain rfl := Y _ (oi h).symm
 have h := W
 have h := Cz h
 obtain rfl := E _ (oi h).symm
 have h := D
 have h := Cz h
 refine mM g0 ?_
 cases io h
 exact mL pr
 intro a1 h
 refine mI (mE (Af 3 I ?_))
 cases io h
 exact mF ⟨_, _, _, I, I2, J6, pk N3⟩
 intro az h
 obtain rfl := Y _ (oi h).symm
 have h := W
 have h := C2 h
 exact mN (lg ⟨(), h, I2⟩ N3)
 rintro s ob ⟨U, h, rfl, rfl⟩
 refine Ai I ?_
 obtain ⟨a2, a3, h⟩ := Ab h
 exact mE (Af 2 I (mG [] I (mO 1 (([Q.2] : Li).map rI) (mG [2] I (mT 2 I a3 fun a4 => Af 1 I (mF (lg ⟨(Q.2, a2), a4, h, I2⟩ N3)))))))
 rintro s ob ⟨F, G, h, rfl, rfl⟩
 unfold I6.J3 at h
 refine mE (Af 3 I ?_)
 cases io h
 exact mF ⟨_, _, _, I, ⟨G, I2⟩, J5, pk N3⟩
 intro al h
 obtain rfl := E _ (oi h).symm
 have h := D
 have h := C2 h
 exact mN (lg ⟨f.1, h, I2⟩ [0, 1])
 rintro s ob ⟨K, h, rfl, rfl⟩
 refine mK ?_
 obtain ⟨aa, ⟨a5, a6⟩, h⟩ := Bb h
 refine Hh [.o 2 0, .o 4 1, .x 5 aa.1 (Bp aa.2)] I ⟨⟨a5, Ae a6⟩, I, I, J⟩ (mM g0 ?_)
 cases io h
 exact mL pr
theorem aN (j : Nw) (P : List Path) (U : List Bool) (r : Plan × Int) (h : Lq j P U = some r) : ACalls Ak 63 [.agg (Ac j), Q6 P, Q5 U] [] (RV (.tup [.agg (Au r.1), .V r.2])) := by
 refine Ag Tryz.func63 I I I fun C hC => ?_
 refine Aa fun y1 a7 => mE (mG [] I (Bz (Ac j) 6 fun w => mG [] I (Br W0 3 fun A => Af 1 I (mF ?_))))
 subst a7
 refine Aa fun y4 a8 => mK ?_
 obtain ⟨r5, a9, h⟩ := Ab h
 refine mE (Al 1 [.o 0 0] I J1 (mR (Il _ _ a9) (Af 1 I (mF (Ai I (Aq h I ?_ ?_))))))
 intro ba h
 refine mK (mE (B0 (Bi (l := W0) C3 I) I (Af 1 I (mG [1] I (Ba 1 0 0 [W0] I (Af 1 I (mF (mM (Be [] (K := []) I [] J (ob' := [O0 w [Ac j], O1 A [[.list 1 ([].map rI), .list 1 ([].map rI), .list 1 ([].map rB)]]]) (.cons (.same _) (.cons (.arr (.cons (.nil _) (.cons (.nil _) (.cons (.nil _) (.rest _))))) (.rest _)))) (Dd [1] I ?_)))))))))
 cases io h
 exact mL ⟨.inr I, [_, _], [], ⟨⟨0, _, _, _, _, _, _, _, I5⟩, I, J⟩, Cm, I2⟩
 intro ba h
 refine mI ?_
 subst a8
 refine Aa fun y8 bb => Bg [.l 1 (P.length : Int)] I ⟨A0, J⟩ (Aq h I ?_ ?_)
 intro bc h
 refine mK (mE (B0 (Bi (l := W0) C3 I) I (mG [1] I (Ba 1 0 0 [W0] I (Af 1 I (mF (mM (Be [] (K := []) I [] J (ob' := [O0 w [Ac j], O1 A [[.list 1 ([].map rI), .list 1 ([].map rI), .list 1 ([].map rB)]]]) (.cons (.same _) (.cons (.arr (.cons (.nil _) (.cons (.nil _) (.cons (.nil _) (.rest _))))) (.rest _)))) (Dd [1] I ?_))))))))
 cases io h
 exact mL ⟨.inr I, [_, _], [], ⟨⟨0, _, _, _, _, _, _, _, I5⟩, I, J⟩, Cm, I2⟩
 intro bc h
 refine mI ?_
 subst bb
 refine Ah (fun s ob => ∃ (i : Li × Li × (List Bool)) (B : Nat) (a : Value) (e : Value) (g : Value), Lq.J1 j P U i = some r ∧ s = [(9, .P B)] ∧ ob = [O0 w [Ac j], O1 A [W0], U0 a i.1, U0 e i.2.1, U1 g i.2.2, O1 B [[.v a, .v e, .v g]]]) (K4 1 2 3 6) J4 ?_ ?_
 obtain ⟨aj, ⟨cv, bd, be, bf⟩, h⟩ := Mr h
 obtain ⟨ak, ⟨cw, bg, bh, bi⟩, h⟩ := Mr h
 obtain ⟨al, bj, h⟩ := Ab h
 refine Bm (sl 3 0 (sl 3 4 (.still 9 (.par [(3, []), (7, []), (8, []), (10, [8]), (12, []), (11, [3, 7, 10])] (.act 13 .nil))))) [0] [_] I (Bo 7 [.o 1 0, .l 2 (j.Segments.length : Int), .o 4 0, .l 5 (j.Ports.length : Int)] I ⟨A0, I, A0, I, J⟩ (AP.any [⟨3, [], 30, .us 3 1 (aj.map rI)⟩, ⟨7, [], 34, .us 3 1 (ak.map rI)⟩, ⟨8, [], 35, .lt 4 1⟩, ⟨10, [8], 37, .ap 8 4 1 (al.map rB)⟩, ⟨12, [], 9, .box 36 3 (W0)⟩, ⟨11, [3, 7, 10], 38, .fn fun l => match l with | [.v Q, .v R, .v S] => .agg [.v Q, .v R, .v S] | _ => .tup []⟩] I ⟨⟨_, I, I, I, fun _ => Ft (sz := 1) I I I I I I I I I I bd be (Gn (f := rI) bf I) dS fun v => ⟨_, I, ⟨v, I⟩, I⟩⟩, ⟨_, I, I, I, fun _ => Ft (sz := 1) I I I I I I I I I I bg bh (Gn (f := rI) bi I) dS fun v => ⟨_, I, ⟨v, I⟩, I⟩⟩, ⟨_, I, I, I, fun _ => mS (sz := 1) (es := ([] : List Bool).map rB) I I I I I I I I I I I dS fun v => ⟨_, I, ⟨v, I⟩, I⟩⟩, ⟨_, I, I, I, fun _ _ _ => mT (la := []) (fr := rB) 0 I bj fun v => ⟨v, I2⟩⟩, ⟨_, I, I, I, fun _ => Br W0 3 fun b => ⟨_, I, ⟨b, I⟩, I⟩⟩, ⟨_, I, I, I, fun Q am R an S ao _ => Av (mY (Bi (l := [.v Q, .v R, .v S]) C3 (Ci I I (Bd am) I (Ci I I (Bd an) I (Ci I I (Bd ao) I (E6)))))) dS ⟨_, I, I, nb⟩⟩, J⟩ ?_))
 intro Q am R an _ _ S ao bk
 exact AP.same 38 (.agg [.v Q, .v R, .v S]) I (mH [5] I I I (Ba 5 0 0 [[.v Q, .v R, .v S]] I (An (mF (lg ⟨(aj, ak, al), bk, Q, R, S, h, I2⟩ N6)))))
 rintro s ob ⟨i, B, a, e, g, h, rfl, rfl⟩
 unfold Lq.J1 at h
 refine Ah (fun s ob => ∃ (aq : Unit), Lq.J2 j P U i aq = some r ∧ s = [] ∧ ob = [O0 w [Ac j], O1 A [W0], U0 a i.1, U0 e i.2.1, U1 g i.2.2, O1 B [[.v a, .v e, .v g]]]) (K5 1 2 3 6 9) J5 ?_ ?_
 refine Ai I (mJ ?_)
 obtain ⟨cx, bl, ar⟩ := Ab h
 refine Bs bl (K5 1 2 3 6 9) J5 (fun (au : Int) s ob => s = [(10, .V au)] ∧ ob = [O0 w [Ac j], O1 A [W0], U0 a i.1, U0 e i.2.1, U1 g i.2.2, O1 B [[.v a, .v e, .v g]]]) ⟨I, I⟩ ⟨I, J⟩ (pk N6) ?_
 rintro au cy s ob ⟨rfl, rfl⟩ h av
 refine Aa fun cz bm => Bg [.l 2 (P.length : Int)] I ⟨A0, J⟩ (Aq h I ?_ ?_)
 intro bn h
 refine mI ?_
 subst bm
 refine mK (mJ (mK ?_))
 obtain ⟨aw, ⟨bo, bp⟩, h⟩ := Bb h
 obtain ⟨c0, bq, h⟩ := Ab h
 refine Bm (pd 7 0 [5]) [0] [_] I (Bo 5 [.o 0 0, .x 3 aw.1 (Am aw.2)] I ⟨⟨bo, Ae bp⟩, I, J⟩ (nC I (Rr _ _ _ bq) (A4 1 I (An (mF (Aq h I ?_ ?_))))))
 intro br h
 refine mK (mE (B0 (Bi (l := W0) C3 I) I (mG [1] I (Ba 1 0 0 [W0] I (Af 1 I (mF ?_))))))
 obtain rfl := av _ (oi h).symm
 have h := ar
 have h := Cz h
 refine mM (Be [] (K := []) I [] J (ob' := [O0 w [Ac j], O1 A [[.list 1 ([].map rI), .list 1 ([].map rI), .list 1 ([].map rB)]], U0 a i.1, U0 e i.2.1, U1 g i.2.2, O1 B [[.v a, .v e, .v g]]]) (.cons (.same _) (.cons (.arr (.cons (.nil _) (.cons (.nil _) (.cons (.nil _) (.rest _))))) (.rest _)))) (Dd [1] I ?_)
 cases io h
 exact mL ⟨.inr I, [_, _], [], ⟨⟨0, _, _, _, _, _, _, _, I5⟩, I, J⟩, Cm, I2⟩
 intro br h
 refine mI (mE (Af 3 I ?_))
 cases io h
 exact mF ⟨_, _, _, I, I2, J6, pk N6⟩
 intro bn h
 obtain rfl := av _ (oi h).symm
 have h := ar
 have h := C2 h
 exact mN (lg ⟨(), h, I2⟩ N6)
 rintro s ob ⟨aq, h, rfl, rfl⟩
 unfold Lq.J2 at h
 refine Ah (fun s ob => ∃ (D : Li × Li), Lq.J3 j U i D = some r ∧ s = [] ∧ ob = [O0 w [Ac j], O1 A [W0], U0 a D.1, U0 e D.2, U1 g i.2.2, O1 B [[.v a, .v e, .v g]]]) (K4 2 3 6 9) J4 ?_ ?_
 refine Ai I (mJ ?_)
 obtain ⟨c1, bs, ax⟩ := Ab h
 refine Bs bs (K5 1 2 3 6 9) J5 (fun (E : Li × Li × Int) s ob => s = [(11, .V E.2.2)] ∧ ob = [O0 w [Ac j], O1 A [W0], U0 a E.1, U0 e E.2.1, U1 g i.2.2, O1 B [[.v a, .v e, .v g]]]) ⟨I, I⟩ ⟨I, J⟩ (pk N6) ?_
 rintro E bu s ob ⟨rfl, rfl⟩ h ay
 refine Aa fun c2 bv => Bg [.l 2 (P.length : Int)] I ⟨A0, J⟩ (Aq h I ?_ ?_)
 intro bw h
 refine mI ?_
 subst bv
 refine Ah (fun s ob => ∃ (ad : Li × Li), Lq.J5 E ad = some bu ∧ s = [] ∧ ob = [O0 w [Ac j], O1 A [W0], U0 a ad.1, U0 e ad.2, U1 g i.2.2, O1 B [[.v a, .v e, .v g]]]) (K6 1 2 3 6 9 11) J6 ?_ ?_
 refine mJ (Aa fun c3 bx => ?_)
 obtain ⟨k, ⟨bz, b0⟩, h⟩ := Bb h
 refine mE (Al 4 [.x 2 k.1 (Am k.2)] I ⟨⟨bz, Ae b0⟩, J⟩ (mG [] I (Br W1 4 fun ae => mG [6] I (Ba 6 0 0 [Am k.2] I (mF ?_)))))
 subst bx
 refine Aa fun c4 b1 => ?_
 obtain ⟨n, ⟨az, W⟩, h⟩ := Bb h
 refine Bq 3 n.1 I W fun b4 => Bq 3 n.1 I W fun b5 => Bm (sl 14 0 (.drop 14 .nil)) [5, 6, 3] [_, _, _] I (Bo 8 [.o 1 0, .o 3 1, .o 5 0, .o 7 1] I J4 (mU I (Ar (m := n.1) I I I I I b4 I az W) I (AP.o I (Ay 2 n.1 0 I I I (Ae W) I (y := .V n.2) I) I (Bo 3 [.o 1 1] I J1 (mU I (Ar (m := n.1) I I I I I b5 I az W) I (mW [3] I I I (A5 3 n.1 0 I I I (Ae W) I I I I (As I) I (Ca (x := wr (n.2 + k.2.Rate)) I) (An (mF ?_)))))))))
 subst b1
 refine Aa fun c5 b6 => ?_
 obtain ⟨u, ⟨a0, X⟩, h⟩ := Bb h
 refine Bq 3 u.1 I X fun b7 => Bq 3 u.1 I X fun b8 => Bm (sl 14 0 (.drop 14 .nil)) [5, 6, 3] [_, _, _] I (Bo 8 [.o 1 0, .o 3 1, .o 5 0, .o 7 1] I J4 (mU I (Ar (m := u.1) I I I I I b7 I a0 X) I (AP.o I (Ay 2 u.1 0 I I I (Ae X) I (y := .V u.2) I) I (Bo 3 [.o 1 1] I J1 (mU I (Ar (m := u.1) I I I I I b8 I a0 X) I (mW [3] I I I (A5 3 u.1 0 I I I (Ae X) I I I I (As I) I (Ca (x := wr (u.2 - k.2.Rate)) I) (An (mF ?_)))))))))
 subst b6
 refine Ai I (mJ ?_)
 obtain ⟨c6, b9, a1⟩ := Ab h
 refine Bs b9 (K7 1 2 3 6 9 11 12) J7 (fun (F : Li × Int) s ob => s = [(13, .V F.2)] ∧ ob = [O0 w [Ac j], O1 A [W0], U0 a F.1, .us e 3 1 (((E.2.1.set n.1 (wr (n.2 + k.2.Rate))).set u.1 (wr (u.2 - k.2.Rate))).map rI), U1 g i.2.2, O1 B [[.v a, .v e, .v g]], O3 ae [Am k.2]]) ⟨I, I⟩ ⟨I, J⟩ (pk N7) ?_
 rintro F a2 s ob ⟨rfl, rfl⟩ h a3
 refine Aa fun c7 ca => Bg [.o 2 6, .l 3 (k.2.Hops.length : Int)] I ⟨A0, I, J⟩ (Aq h I ?_ ?_)
 intro cb h
 refine mI ?_
 subst ca
 refine mK (mJ (Aa fun c8 cc => ?_))
 obtain ⟨G, ⟨cd, ce⟩, h⟩ := Bb h
 refine mE (Al 5 [.o 1 6, .x 3 G.1 (A9 G.2)] I ⟨⟨cd, Ae ce⟩, I, J⟩ (mG [] I (Br [.V 0, .v (.bool false)] 2 fun ah => mG [7] I (Ba 7 0 0 [A9 G.2] I (mF ?_)))))
 subst cc
 refine Bg [.o 1 6] I J1 (Ah (fun s ob => ∃ (H : Int), Lq.J7 F G H = some a2 ∧ s = [(15, .V H)] ∧ ob = [O0 w [Ac j], O1 A [W0], U0 a F.1, .us e 3 1 (((E.2.1.set n.1 (wr (n.2 + k.2.Rate))).set u.1 (wr (u.2 - k.2.Rate))).map rI), U1 g i.2.2, O1 B [[.v a, .v e, .v g]], O3 ae [Am k.2], .arr ah 53 2 1 [A9 G.2]]) (K9 1 2 3 6 9 11 12 13 14) J9 ?_ ?_)
 refine Bg [.o 1 7] I J1 (Aq h I ?_ ?_)
 intro cf h
 exact We I (lg ⟨wr (0 - k.2.Rate), h, I2⟩ N8)
 intro cf h
 exact mI (lg ⟨k.2.Rate, h, I2⟩ N8)
 rintro s ob ⟨H, h, rfl, rfl⟩
 unfold Lq.J7 at h
 refine Aa fun c9 cg => Ah (fun s ob => ∃ (ai : Bool), Lq.J8 F G H ai = some a2 ∧ s = [(132, .v (.bool ai))] ∧ ob = [O0 w [Ac j], O1 A [W0], U0 a F.1, .us e 3 1 (((E.2.1.set n.1 (wr (n.2 + k.2.Rate))).set u.1 (wr (u.2 - k.2.Rate))).map rI), U1 g i.2.2, O1 B [[.v a, .v e, .v g]], O3 ae [Am k.2], .arr ah 53 2 1 [A9 G.2]]) (lJ 1 2 3 6 9 11 12 13 14 15) kR ?_ ?_
 refine mE (Af 3 I ?_)
 rcases bt (decide (H > 0)) with Z | Z
 have h := Bv Z h
 obtain ⟨M, ⟨a4, af⟩, h⟩ := Bb h
 refine Ad 111 I Z (Al 4 [.o 1 5, .o 3 7] I J2 (Bc I I I (mQ (Bh 2 (m := M.1) I I I I I I I a4 (Ae af)) I (Bc I I I (mQ (Ay 2 M.1 0 I I I (Ae af) I (y := .V M.2) I) I (Af 3 I ?_))))))
 rcases bt (decide (M.2 < 0)) with aa | aa
 have h := Bv aa h
 exact Ad 120 I aa (Af 3 I (Cw I I dS (Cw I I dS (Cw I I dS (Cw I I dS (Cw I I dS (Cw I I dS (Cw I I dS (Af 2 I (mF (lg ⟨true, h, I2⟩ N8)))))))))))
 have h := Bw aa h
 refine Ad 120 I aa (Af 3 I ?_)
 rcases bt (decide (H < 0)) with ab | ab
 have h := Bv ab h
 exact Ad 123 I ab (Al 4 [.o 1 5, .o 3 7] I J2 (Bc I I I (mQ (Bh 2 (m := M.1) I I I I I I I a4 (Ae af)) I (Bc I I I (mQ (Ay 2 M.1 0 I I I (Ae af) I (y := .V M.2) I) I (Af 3 I (mF (lg ⟨decide (M.2 > 0), h, I2⟩ N8))))))))
 have h := Bw ab h
 exact Ad 123 I ab (Af 9 I (mF (lg ⟨false, h, I2⟩ N8)))
 have h := Bw Z h
 refine Ad 111 I Z ?_
 rcases bt (decide (H < 0)) with ac | ac
 have h := Bv ac h
 obtain ⟨ag, ⟨ci, a5⟩, h⟩ := Bb h
 exact Af 12 I (Ad 123 I ac (Al 4 [.o 1 5, .o 3 7] I J2 (Bc I I I (mQ (Bh 2 (m := ag.1) I I I I I I I ci (Ae a5)) I (Bc I I I (mQ (Ay 2 ag.1 0 I I I (Ae a5) I (y := .V ag.2) I) I (Af 3 I (mF (lg ⟨decide (ag.2 > 0), h, I2⟩ N8)))))))))
 have h := Bw ac h
 exact Af 12 I (Ad 123 I ac (Af 9 I (mF (lg ⟨false, h, I2⟩ N8))))
 rintro s ob ⟨ai, h, rfl, rfl⟩
 refine Aq h I ?_ ?_
 intro cj h
 refine mK (mE (B0 (Bi (l := W0) C3 I) I (mG [1] I (Ba 1 0 0 [W0] I (Af 1 I (mF ?_))))))
 obtain rfl := a3 _ (oi h).symm
 have h := a1
 have h := Cz h
 obtain rfl := ay _ (oi h).symm
 have h := ax
 have h := Cz h
 refine mM (Be [] (K := []) I [] J (ob' := [O0 w [Ac j], O1 A [[.list 1 ([].map rI), .list 1 ([].map rI), .list 1 ([].map rB)]], U0 a F.1, .us e 3 1 (((E.2.1.set n.1 (wr (n.2 + k.2.Rate))).set u.1 (wr (u.2 - k.2.Rate))).map rI), U1 g i.2.2, O1 B [[.v a, .v e, .v g]], O3 ae [Am k.2], .arr ah 53 2 1 [A9 G.2]]) (.cons (.same _) (.cons (.arr (.cons (.nil _) (.cons (.nil _) (.cons (.nil _) (.rest _))))) (.rest _)))) (Dd [1] I ?_)
 cases io h
 exact mL ⟨.inr I, [_, _], [], ⟨⟨0, _, _, _, _, _, _, _, I5⟩, I, J⟩, Cm, I2⟩
 intro cj h
 refine mI ?_
 subst cg
 obtain ⟨O, ⟨a6, Y⟩, h⟩ := Bb h
 refine Bq 2 O.1 I Y fun ck => Bq 2 O.1 I Y fun cl => Bm (sl 13 0 (.drop 13 .nil)) [5, 7, 2] [_, _, _] I (Bo 8 [.o 1 0, .o 3 1, .o 5 0, .o 7 1] I J4 (mU I (Ar (m := O.1) I I I I I ck I a6 Y) I (AP.o I (Ay 2 O.1 0 I I I (Ae Y) I (y := .V O.2) I) I (A4 2 I (mU I (Ar (m := O.1) I I I I I cl I a6 Y) I (mW [2] I I I (A5 2 O.1 0 I I I (Ae Y) I I I I (As I) I (Ca (x := wr (O.2 + H)) I) (An (mF (mE (Af 3 I ?_)))))))))))
 cases io h
 exact mF ⟨_, _, _, I, I2, J8, pk N7⟩
 intro cb h
 obtain rfl := a3 _ (oi h).symm
 have h := a1
 have h := C2 h
 exact mN (lg ⟨(F.1, ((E.2.1.set n.1 (wr (n.2 + k.2.Rate))).set u.1 (wr (u.2 - k.2.Rate)))), h, I2⟩ N6)
 rintro s ob ⟨ad, h, rfl, rfl⟩
 unfold Lq.J5 at h
 refine mE (Af 3 I ?_)
 cases io h
 exact mF ⟨_, _, _, I, I2, J6, pk N6⟩
 intro bw h
 obtain rfl := ay _ (oi h).symm
 have h := ax
 have h := C2 h
 exact mN (lg ⟨(E.1, E.2.1), h, I2⟩ N6)
 rintro s ob ⟨D, h, rfl, rfl⟩
 refine Aa fun da cm => Bg [.l 1 (U.length : Int), .o 3 0, .l 4 (j.Stations.length : Int)] I ⟨A0, I, A0, J⟩ (Aq h I ?_ ?_)
 intro cn h
 refine mK (mE (B0 (Bi (l := W0) C3 I) I (mG [1] I (Ba 1 0 0 [W0] I (Af 1 I (mF (mM (Be [] (K := []) I [] J (ob' := [O0 w [Ac j], O1 A [[.list 1 ([].map rI), .list 1 ([].map rI), .list 1 ([].map rB)]], U0 a D.1, U0 e D.2, U1 g i.2.2, O1 B [[.v a, .v e, .v g]]]) (.cons (.same _) (.cons (.arr (.cons (.nil _) (.cons (.nil _) (.cons (.nil _) (.rest _))))) (.rest _)))) (Dd [1] I ?_))))))))
 cases io h
 exact mL ⟨.inr I, [_, _], [], ⟨⟨0, _, _, _, _, _, _, _, I5⟩, I, J⟩, Cm, I2⟩
 intro cn h
 refine mI ?_
 subst cm
 refine mK (mK ?_)
 obtain ⟨db, co, h⟩ := Ab h
 refine mE (Al 2 [.o 0 0, .o 1 5] I J2 (mG [] I (By I (.refl _) I I (.cons (.refl _) (.cons (.agg (.cons (.us 2 I) (.cons (.us 3 I) (.cons (.us 4 I) (.rest _))))) (.rest _))) I (Mi _ _ _ co) dS (by rintro _ _ ⟨rfl, _⟩; rfl) ?_)))
 rintro _ ⟨_, rfl, -⟩
 refine Af 1 I (mF (Ai I (Aq h I ?_ ?_)))
 intro cp h
 refine mK (mE (B0 (Bi (l := W0) C3 I) I (Af 1 I (mG [1] I (Ba 1 0 0 [W0] I (Af 1 I (mF (mM (Be [] (K := []) I [] J (ob' := [O0 w [Ac j], O1 A [[.list 1 ([].map rI), .list 1 ([].map rI), .list 1 ([].map rB)]], U0 a D.1, U0 e D.2, U1 g i.2.2, O1 B [[.v a, .v e, .v g]]]) (.cons (.same _) (.cons (.arr (.cons (.nil _) (.cons (.nil _) (.cons (.nil _) (.rest _))))) (.rest _)))) (Dd [1] I ?_)))))))))
 cases io h
 exact mL ⟨.inr I, [_, _], [], ⟨⟨0, _, _, _, _, _, _, _, I5⟩, I, J⟩, Cm, I2⟩
 intro cp h
 refine mI (mK (mE (Al 1 [.o 0 5] I J1 (mG [1] I (Ba 1 0 0 [[.v a, .v e, .v g]] I (Af 1 I (mF (mM (Be [2, 3, 4] (K := [U0 a D.1, U0 e D.2, U1 g i.2.2]) I [] J (ob' := [O0 w [Ac j], O1 A [[Q0 D.1, Q0 D.2, Q5 i.2.2]], O1 B [[.v a, .v e, .v g]]]) (.cons (.same _) (.cons (.arr (.cons (.us 0 I) (.cons (.us 1 I) (.cons (.us 2 I) (.rest _))))) (.rest _)))) (Dd [1] I ?_)))))))))
 cases io h
 exact mL ⟨.inr I, [_, _], [], ⟨⟨0, _, _, _, _, _, _, _, I5⟩, I, J⟩, Cm, I2⟩
theorem aX (a : Path) (b : Int) (r : Bool) (h : Ot a b = some r) : ACalls Ak 124 [.agg (Am a), .V b] [] (RB r) := by
 refine Ag Tryz.func124 I I I fun C hC => ?_
 unfold Ot at h
 refine Aa fun y i => mE (mG [] I (Bz (Am a) 4 fun j => Af 1 I (mF ?_)))
 subst i
 refine Ah (fun s ob => ∃ (c : Unit), Ot.J1 c = some r ∧ s = [] ∧ ob = []) [] J ?_ ?_
 refine Ai I (mJ ?_)
 obtain ⟨A, k, d⟩ := Ab h
 refine Bs k (K2 1 2) J2 (fun (e : Int) s ob => s = [(5, .V e)] ∧ ob = [O3 j [Am a]]) ⟨I, I⟩ ⟨I, J⟩ (pk [0]) ?_
 rintro e B s ob ⟨rfl, rfl⟩ h f
 refine Aa fun D n => Bg [.o 2 0, .l 3 (a.Hops.length : Int)] I ⟨A0, I, J⟩ (Aq h I ?_ ?_)
 intro p h
 refine mI ?_
 subst n
 refine mK (mJ (mK ?_))
 obtain ⟨g, ⟨t, u⟩, h⟩ := Bb h
 refine Hh [.o 1 0, .x 3 g.1 (A9 g.2)] I ⟨⟨t, Ae u⟩, I, J⟩ (Aq h I ?_ ?_)
 intro w h
 refine Ai I ?_
 obtain rfl := f _ (oi h).symm
 have h := d
 have h := Cz h
 refine mM g0 ?_
 cases io h
 exact mL pr
 intro w h
 refine mI (mE (Af 3 I ?_))
 cases io h
 exact mF ⟨_, _, _, I, I2, J3, pk [0]⟩
 intro p h
 obtain rfl := f _ (oi h).symm
 have h := d
 have h := C2 h
 exact mN (lg ⟨(), h, I2⟩ [])
 rintro s ob ⟨c, h, rfl, rfl⟩
 unfold Ot.J1 at h
 refine Ai I ?_
 cases io h
 exact mL pr
theorem Z4 (b : Nw) (n : List Path) (d : Int) (r : (List Path) × Int) (h : Jb b n d = some r) : ACalls Ak 65 [.agg (Ac b), Q6 n, .V d] [] (fun x new => ∃ (t : Value), x = .tup [.v t, .V r.2] ∧ new = [U3 t r.1]) := by
 refine Ag Tryz.func65 I I I fun C hC => ?_
 refine Aa fun Y y => mE (mG [] I (Bz (Ac b) 6 fun Z => Af 2 I (mF ?_)))
 subst y
 refine Aa fun y3 A => mK ?_
 obtain ⟨r4, B, h⟩ := Ab h
 refine mE (Al 1 [.o 0 0] I J1 (mR (Il _ _ B) (Af 1 I (mF (Ai I (Aq h I ?_ ?_))))))
 intro D h
 refine Ai I (mM (A6 50 4) (Dd [1] I ?_))
 cases io h
 exact mL ⟨.inr I, [_, _], [.us nS 50 4 ([].map Am)], J2, Dj I (Cm), ⟨nS, I2⟩⟩
 intro D h
 refine mI ?_
 subst A
 refine Aa fun y7 E => Ec 24 (decide (d < 0) || decide (d ≥ (b.Segments.length : Int))) ?_ ?_
 refine mE (Af 3 I ?_)
 rcases bt (decide (d < 0)) with e | e
 exact Ad 18 I e (Af 6 I (mF (jf (by simp only [e, bz]) I I I2)))
 exact Ad 18 I e (Al 6 [.o 2 0, .l 3 (b.Segments.length : Int)] I ⟨A0, I, J⟩ (mF (jf (by simp only [e, bz]) I I I2)))
 refine Aq h I ?_ ?_
 intro F h
 refine Ai I (mM (A6 50 4) (Dd [1] I ?_))
 cases io h
 exact mL ⟨.inr I, [_, _], [.us nS 50 4 ([].map Am)], J2, Dj I (Cm), ⟨nS, I2⟩⟩
 intro F h
 refine mI ?_
 subst E
 refine Ai I (Ah (fun s ob => ∃ (i : List Path) (f : Value), Jb.J1 i = some r ∧ s = [(9, .v f)] ∧ ob = [U3 f i]) [] J ?_ ?_)
 refine Ai I (mJ (mM (A6 50 4) ?_))
 obtain ⟨ad, G, H⟩ := Ab h
 refine Bs G (K2 1 2) J2 (fun (a : (List Path) × Int) s ob => ∃ (g : Value), s = [(9, .v g), (10, .V a.2)] ∧ ob = [U3 g a.1]) ⟨nS, I2⟩ ⟨I, I, J⟩ (pk [1]) ?_
 rintro a K s ob ⟨g, rfl, rfl⟩ h M
 refine Aa fun ae N => Bg [.l 2 (n.length : Int)] I ⟨A0, J⟩ (Aq h I ?_ ?_)
 intro O h
 refine mI ?_
 subst N
 refine Ah (fun s ob => ∃ (p : List Path) (j : Value), Jb.J3 a p = some K ∧ s = [(9, .v j)] ∧ ob = [U3 j p]) (K3 1 2 10) J3 ?_ ?_
 refine mJ (mK ?_)
 obtain ⟨k, ⟨u, w⟩, h⟩ := Bb h
 obtain ⟨af, P, h⟩ := Ab h
 refine mE (Al 5 [.x 2 k.1 (Am k.2)] I ⟨⟨u, Ae w⟩, J⟩ (mR (aX _ _ _ P) (mF (Aq h I ?_ ?_))))
 intro Q h
 obtain ⟨R, S, h⟩ := Ab h
 obtain ⟨U, W, h⟩ := Ab h
 refine mE (Al 5 [.x 3 k.1 (Am k.2)] I ⟨⟨u, Ae w⟩, J⟩ (mG [] I (Cb I I I (Mm _ _ S) dS ?_)))
 rintro _ _ ⟨rfl, rfl⟩
 exact mG [] I (mO 4 (([R] : List Path).map Am) (mG [0] I (mT 0 I W fun X => Af 1 I (mF (lg ⟨U, X, h, I2⟩ [0])))))
 intro Q h
 exact mI (lg ⟨a.1, g, h, I2⟩ [0])
 rintro s ob ⟨p, j, h, rfl, rfl⟩
 unfold Jb.J3 at h
 refine mE (Af 3 I ?_)
 cases io h
 exact mF ⟨_, _, _, I, ⟨j, I2⟩, J4, pk [0]⟩
 intro O h
 obtain rfl := M _ (oi h).symm
 have h := H
 exact mN (lg ⟨a.1, g, h, I2⟩ [0])
 rintro s ob ⟨i, f, h, rfl, rfl⟩
 unfold Jb.J1 at h
 refine Ai I ?_
 cases io h
 exact mL ⟨.inr I, [_, _], [U3 f i], J2, Dj I (Cm), ⟨f, I2⟩⟩
theorem aL (b : Nw) (d : Path) (r : Bool) (h : Oh b d = some r) : ACalls Ak 67 [.agg (Ac b), .agg (Am d)] [] (RB r) := by
 refine Ag Tryz.func67 I I I fun C hC => ?_
 unfold Oh at h
 refine mK (mE (mG [] I (Bz (Ac b) 6 fun k => mG [] I (Bz (Am d) 4 fun l => Af 1 I (mF (Ah (fun s ob => ∃ (e : Bool), Oh.J1 e = some r ∧ s = [(4, .v (.bool e))] ∧ ob = []) [] J ?_ ?_))))))
 obtain ⟨f, g, h⟩ := Ab h
 refine mE (Al 1 [.o 0 0] I J1 (mR (Il _ _ g) (Af 2 I ?_)))
 rcases bt ((f == 0)) with a | a
 have h := Bv a h
 obtain ⟨i, j, h⟩ := Ab h
 exact Ad 8 I a (Al 2 [.o 0 0, .o 1 1] I J2 (Bc I I I (mR (Rr _ _ _ j) (Af 2 I (mF (lg ⟨i, h, I2⟩ []))))))
 have h := Bw a h
 exact Ad 8 I a (Af 5 I (mF (lg ⟨false, h, I2⟩ [])))
 rintro s ob ⟨e, h, rfl, rfl⟩
 unfold Oh.J1 at h
 cases io h
 exact mL pr
theorem Sb (e : Nw) (k : Plan) (i : List Path) (u : List Bool) (w : Int) (r : Bool) (h : S5 e k i u w = some r) : ACalls Ak 21 [.agg (Ac e), .agg (Au k), Q6 i, Q5 u, .V w] [] (RB r) := by
 refine Ag Tryz.func21 I I I fun C hC => ?_
 refine Aa fun y1 O => mE (mG [] I (Bz (Ac e) 6 fun y => mG [] I (Bz (Au k) 3 fun b3 => Af 1 I (mF ?_))))
 subst O
 refine Aa fun y4 P => ?_
 obtain ⟨Q, R, h⟩ := Ab h
 refine mE (Al 2 [.o 0 0, .o 1 1] I J2 (mG [] I (Cb I I I (Ru _ _ _ R) dS ?_)))
 rintro _ _ ⟨v7, rfl, rfl⟩
 refine Af 5 I (mF ?_)
 subst P
 refine Aa fun y8 S => ?_
 obtain ⟨U, W, h⟩ := Ab h
 refine mE (Al 2 [.o 0 0, .o 1 1] I J2 (mG [] I (Cb I I I (R4 _ _ _ W) dS ?_)))
 rintro _ _ ⟨a0, rfl, rfl⟩
 refine Af 5 I (mF ?_)
 subst S
 refine Aa fun a1 X => ?_
 obtain ⟨A, Y, h⟩ := Ab h
 refine mE (Al 3 [.o 0 0] I J1 (mG [] I (Cb I I I (aJ _ _ _ _ Y) dS ?_)))
 rintro _ _ ⟨rfl, rfl⟩
 refine Af 3 I (mG [] I (Br W0 3 fun a2 => mG [4] I (Ba 4 0 0 [Au A.1] I (Af 1 I (mF ?_)))))
 subst X
 refine Aa fun a3 Z => ?_
 obtain ⟨B, aa, h⟩ := Ab h
 refine mE (Al 3 [.o 0 0] I J1 (mG [] I (Cb I I I (aN _ _ _ _ aa) dS ?_)))
 rintro _ _ ⟨rfl, rfl⟩
 refine Af 3 I (mG [] I (Br W0 3 fun a4 => mG [5] I (Ba 5 0 0 [Au B.1] I (Af 1 I (mF ?_)))))
 subst Z
 refine Aa fun a5 ab => ?_
 obtain ⟨ac, ad, h⟩ := Ab h
 refine mE (Al 3 [.o 0 0] I J1 (mG [] I (Cb I I I (bM _ _ _ _ ad) dS ?_)))
 rintro _ _ ⟨a6, rfl, rfl⟩
 refine Af 5 I (mF ?_)
 subst ab
 refine Aa fun a7 ae => ?_
 obtain ⟨af, ag, h⟩ := Ab h
 refine mE (Al 3 [.o 0 0] I J1 (mG [] I (Cb I I I (Z4 _ _ _ _ ag) dS ?_)))
 rintro _ _ ⟨a8, rfl, rfl⟩
 refine Af 5 I (mF ?_)
 subst ae
 refine Aa fun a9 ah => Ah (fun s ob => ∃ (n : Bool), S5.J1 e i n = some r ∧ s = [(94, .v (.bool n))] ∧ ob = [O0 y [Ac e]]) (K2 2 5) J2 ?_ ?_
 rcases bt ((Q.2 != U.2)) with a | a
 have h := Bv a h
 exact mE (Af 4 I (Ad 67 I a (Af 27 I (mF (lg ⟨true, h, I2⟩ [0])))))
 have h := Bw a h
 rcases bt ((A.2 != B.2)) with b | b
 have h := Bv b h
 exact mE (Af 4 I (Ad 67 I a (Af 5 I (Ad 72 I b (Af 22 I (mF (lg ⟨true, h, I2⟩ [0])))))))
 have h := Bw b h
 rcases bt ((ac.2 != af.2)) with d | d
 have h := Bv d h
 exact mE (Af 4 I (Ad 67 I a (Af 5 I (Ad 72 I b (Af 5 I (Ad 77 I d (Af 17 I (mF (lg ⟨true, h, I2⟩ [0])))))))))
 have h := Bw d h
 obtain ⟨ai, t, h⟩ := Ab h
 rcases bt ((!ai)) with f | f
 have h := Bv f h
 refine mE (Af 4 I (Ad 67 I a (Af 5 I (Ad 72 I b (Af 5 I (Ad 77 I d (Af 2 I (Bc I I I (mG [] I (By I (.refl _) I I (.cons (.us 2 I) (.cons (.us 3 I) (.rest _))) I (Ew _ _ _ t) dS (by rintro _ _ ⟨rfl, _⟩; rfl) ?_))))))))))
 rintro _ ⟨_, rfl, -⟩
 exact Af 3 I (Ad 83 I f (Af 11 I (mF (lg ⟨true, h, I2⟩ [0]))))
 have h := Bw f h
 obtain ⟨aj, D, h⟩ := Ab h
 rcases bt ((!aj)) with g | g
 have h := Bv g h
 refine mE (Af 4 I (Ad 67 I a (Af 5 I (Ad 72 I b (Af 5 I (Ad 77 I d (Af 2 I (Bc I I I (mG [] I (By I (.refl _) I I (.cons (.us 2 I) (.cons (.us 3 I) (.rest _))) I (Ew _ _ _ t) dS (by rintro _ _ ⟨rfl, _⟩; rfl) ?_))))))))))
 rintro _ ⟨_, rfl, -⟩
 exact Af 3 I (Ad 83 I f (Al 2 [.o 0 4, .o 1 5] I J2 (Bc I I I (mR (Rw _ _ _ D) (Af 3 I (Ad 89 I g (Af 5 I (mF (lg ⟨true, h, I2⟩ [0])))))))))
 have h := Bw g h
 obtain ⟨ak, al, h⟩ := Ab h
 refine mE (Af 4 I (Ad 67 I a (Af 5 I (Ad 72 I b (Af 5 I (Ad 77 I d (Af 2 I (Bc I I I (mG [] I (By I (.refl _) I I (.cons (.us 2 I) (.cons (.us 3 I) (.rest _))) I (Ew _ _ _ t) dS (by rintro _ _ ⟨rfl, _⟩; rfl) ?_))))))))))
 rintro _ ⟨_, rfl, -⟩
 refine Af 3 I (Ad 83 I f (Al 2 [.o 0 4, .o 1 5] I J2 (Bc I I I (mR (Rw _ _ _ D) (Af 3 I (Ad 89 I g (Af 2 I (Bc I I I (mG [] I (By I (.refl _) I I (.cons (.us 6 I) (.cons (.us 7 I) (.rest _))) I (Ew _ _ _ al) dS (by rintro _ _ ⟨rfl, _⟩; rfl) ?_))))))))))
 rintro _ ⟨_, rfl, -⟩
 exact Af 2 I (mF (lg ⟨(!ak), h, I2⟩ [0]))
 rintro s ob ⟨n, h, rfl, rfl⟩
 refine Aq h I ?_ ?_
 intro am h
 refine Ai I (mM g0 ?_)
 cases io h
 exact mL pr
 intro am h
 refine mI ?_
 subst ah
 refine Ah (fun s ob => ∃ (E : Unit), S5.J2 E = some r ∧ s = [] ∧ ob = []) [] J ?_ ?_
 refine Ai I (mJ ?_)
 obtain ⟨ba, an, F⟩ := Ab h
 refine Bs an (K2 2 5) J2 (fun (G : Int) s ob => s = [(23, .V G)] ∧ ob = [O0 y [Ac e]]) ⟨I, I⟩ ⟨I, J⟩ (pk [0]) ?_
 rintro G bb s ob ⟨rfl, rfl⟩ h H
 refine Aa fun bc ao => Bg [.l 2 (i.length : Int)] I ⟨A0, J⟩ (Aq h I ?_ ?_)
 intro ap h
 refine mI ?_
 subst ao
 refine mK (mJ (mK ?_))
 obtain ⟨j, ⟨K, M⟩, h⟩ := Bb h
 obtain ⟨bd, aq, h⟩ := Ab h
 obtain ⟨be, ar, h⟩ := Ab h
 refine Bm (sl 5 0 (sl 5 6 (.act 5 (.act 11 (.still 12 .nil))))) [0] [_] I (Bo 10 [.o 0 0, .x 3 j.1 (Am j.2), .o 5 0, .x 8 j.1 (Am j.2)] I ⟨⟨K, Ae M⟩, I, ⟨K, Ae M⟩, I, J⟩ (nC I (aY _ _ _ aq) (nC I (aL _ _ _ ar) (Jr I (Fk I I I I) I (An (mF (Aq h I ?_ ?_)))))))
 intro au h
 refine Ai I ?_
 obtain rfl := H _ (oi h).symm
 have h := F
 have h := Cz h
 refine mM g0 ?_
 cases io h
 exact mL pr
 intro au h
 refine mI (mE (Af 3 I ?_))
 cases io h
 exact mF ⟨_, _, _, I, I2, J3, pk [0]⟩
 intro ap h
 obtain rfl := H _ (oi h).symm
 have h := F
 have h := C2 h
 exact mN (lg ⟨(), h, I2⟩ [])
 rintro s ob ⟨E, h, rfl, rfl⟩
 unfold S5.J2 at h
 refine Ai I ?_
 cases io h
 exact mL pr
theorem aV (a : Li) (r : KS) (h : S7 a = some r) : ACalls Ak 8 [Q0 a] [] (fun x new => ∃ (c : Nat), x = .P c ∧ new = [O2 c [Bx r]]) := by
 refine Ag Tryz.func8 I I I fun C hC => ?_
 refine Ai I (mK ?_)
 obtain ⟨b, e, h⟩ := Ab h
 obtain ⟨f, g, i, j, k, n, o⟩ := Ui e
 refine mE (Al 4 [.l 2 (a.length : Int)] I ⟨A0, J⟩ (B0 (iF f g 0 I I I I I (lO i) ⟨_, _, I, j⟩ I k n o) I (B0 (Bi (l := [Q0 b, .V 0]) Xh I) I (mG [] I (Bz [Q0 b, .V 0] 2 fun d => Af 1 I (mF ?_))))))
 obtain rfl := oi h
 exact mL ⟨.inr I, [_], [O2 d [[Q0 b, .V 0]]], J1, Dj I (Cm), ⟨d, I2⟩⟩
theorem Z0 (b : Nat) (a : KS) (r : Int × KS) (h : Sx a = some r) : ACalls Ak 55 [.P b] [O2 b [Bx a]] (Gm 1 fun x os new => x = .V r.1 ∧ os = [O2 b [Bx r.2]] ∧ new = []) := by
 refine Ag Tryz.func55 I I I fun C hC => ?_
 refine Ai I (Aa fun j d => Js (pd 10 0 []) [0] [_] [.o 3 0, .o 7 0, .l 8 (a.L_.length : Int)] I I ⟨A0, I, I, J⟩ (Aq h I ?_ ?_))
 intro e h
 refine Ai I ?_
 obtain rfl := oi h
 exact mL ⟨.inr I, [_], [O2 b [Bx a]], J1, Dj I (Cm), ⟨[O2 b [Bx a]], [], I5⟩⟩
 intro e h
 refine mI ?_
 subst d
 refine Aa fun k f => mE (Al 7 [.o 3 0] I J1 (mG [0] I (Ba 0 0 1 [[Q0 a.L_, .V (wr (a.At + 1))]] I (mF ?_))))
 subst f
 refine mK ?_
 obtain ⟨c, ⟨g, i⟩, h⟩ := Bb h
 refine Ue (pd 12 0 []) [0] [_] [.o 3 0, .o 7 0, .x 9 c.1 (rI c.2)] I I ⟨⟨g, Ae i⟩, I, I, J⟩ ?_
 obtain rfl := oi h
 exact mL ⟨.inr I, [_], [O2 b [[Q0 a.L_, .V (wr (a.At + 1))]]], J1, Dj I (Cm), ⟨[O2 b [[Q0 a.L_, .V (wr (a.At + 1))]]], [], I5⟩⟩
theorem Bu (a : Nat) (b : KS) (d : Int) (r : Int × KS) (h : C6 b d = some r) : ACalls Ak 12 [.P a, .V d] [O2 a [Bx b]] (Gm 1 fun x os new => x = .V r.1 ∧ os = [O2 a [Bx r.2]] ∧ new = []) := by
 refine Ag Tryz.func12 I I I fun C hC => ?_
 refine Ai I (mK ?_)
 obtain ⟨e, f, h⟩ := Ab h
 obtain ⟨i, g, h⟩ := Ab h
 refine mE (Af 1 I (mG [0] I (Az [0] (Z0 a _ _ f) ?_)))
 refine Af 1 I (mR (Sj _ _ _ g) (Af 1 I (mF ?_)))
 obtain rfl := oi h
 exact mL ⟨.inr I, [_], [O2 a [Bx e.2]], J1, Dj I (Cm), ⟨[O2 a [Bx e.2]], [], I5⟩⟩
theorem Co (b : Bt) (a : Int) (r : Bt) (h : Gb b a = some r) : ACalls Ak 49 [.v (.string b), .V a] [] (RV (.v (.string r))) := by
 refine Ag Tryz.func49 I I I fun C hC => ?_
 refine Ai I (mK ?_)
 obtain ⟨g, d, h⟩ := Ab h
 obtain ⟨i, e, h⟩ := Ab h
 refine mE (Al 4 [.f 2 (.V (a.tmod 26))] I ⟨mY (If (c := (a.tmod 26)) I I ⟨by decide, I⟩), J⟩ (B0 (eW (c := IntKind.u8.wrap (wr (97 + (a.tmod 26)))) I I I I I) I (mG [] I (mS (sz := 1) (es := ([IntKind.u8.wrap (wr (97 + (a.tmod 26)))] : Li).map (rK .u8)) I I I I I I I I I I I dS fun j => mG [] I (bV 0 d I I I I I I I I dS (B0 (Vr I I (Vn e)) I (Af 1 I (mF (mM g0 ?_)))))))))
 cases io h
 exact mL pr
theorem Aj (a : Nat) (c : KS) (b : Li) (r : Int × KS) (h : C8 c b = some r) : ACalls Ak 47 [.P a, Q0 b] [O2 a [Bx c]] (Gm 1 fun x os new => x = .V r.1 ∧ os = [O2 a [Bx r.2]] ∧ new = []) := by
 refine Ag Tryz.func47 I I I fun C hC => ?_
 refine Ai I (mK ?_)
 obtain ⟨d, f, h⟩ := Ab h
 obtain ⟨e, ⟨g, i⟩, h⟩ := Bb h
 refine mE (Al 4 [.l 3 (b.length : Int)] I ⟨A0, J⟩ (mG [0] I (Az [0] (Bu a _ _ _ f) ?_)))
 refine Al 3 [.x 0 e.1 (rI e.2)] I ⟨⟨g, Ae i⟩, J⟩ (mF ?_)
 obtain rfl := oi h
 exact mL ⟨.inr I, [_], [O2 a [Bx d.2]], J1, Dj I (Cm), ⟨[O2 a [Bx d.2]], [], I5⟩⟩
theorem Ey (a : Nat) (b : KS) (c : Int) (d : Int) (r : Int × KS) (h : Gx b c d = some r) : ACalls Ak 48 [.P a, .V c, .V d] [O2 a [Bx b]] (Gm 1 fun x os new => x = .V r.1 ∧ os = [O2 a [Bx r.2]] ∧ new = []) := by
 refine Ag Tryz.func48 I I I fun C hC => ?_
 refine Ai I (mK ?_)
 obtain ⟨e, f, h⟩ := Ab h
 refine mE (Af 6 I (mG [0] I (Az [0] (Bu a _ _ _ f) ?_)))
 refine Af 2 I (mF ?_)
 obtain rfl := oi h
 exact mL ⟨.inr I, [_], [O2 a [Bx e.2]], J1, Dj I (Cm), ⟨[O2 a [Bx e.2]], [], I5⟩⟩
theorem R6 (b : Nat) (Y : KS) (S : Int) (F : Int) (G : Int) (r : Sg × KS) (h : Ln Y S F G = some r) : ACalls Ak 50 [.P b, .V S, .V F, .V G] [O2 b [Bx Y]] (Gm 1 fun x os new => x = .agg (Ap r.1) ∧ os = [O2 b [Bx r.2]] ∧ new = []) := by
 refine Ag Tryz.func50 I I I fun C hC => ?_
 unfold Ln at h
 refine Aa fun y1 aj => mE (mG [] I (Br W3 7 fun y => mF ?_))
 subst aj
 refine Ah (fun s ob => ∃ (a : Li × Int × Int × Int), Ln.J1 S a = some r ∧ s = [(2, .V a.2.2.1), (3, .V a.2.2.2)] ∧ ob = [O2 b [[Q0 a.1, .V a.2.1]], O5 y [W3]]) (K3 0 1 8) J3 ?_ ?_
 refine mK ?_
 obtain ⟨H, ak, h⟩ := Ab h
 refine mE (Af 1 I (mG [0] I (Az [0] (Bu b _ _ _ ak) ?_)))
 refine Af 1 I (mF (Aq h I ?_ ?_))
 intro al h
 exact We I (lg ⟨(H.2.L_, H.2.At, G, F), h, I2⟩ [0, 1])
 intro al h
 exact mI (lg ⟨(H.2.L_, H.2.At, F, G), h, I2⟩ [0, 1])
 rintro s ob ⟨a, h, rfl, rfl⟩
 refine Aa fun y7 am => ?_
 obtain ⟨g, an, h⟩ := Ab h
 obtain ⟨e, ao, h⟩ := Ab h
 obtain ⟨i, aq, h⟩ := Ab h
 obtain ⟨j, ar, h⟩ := Ab h
 refine mE (Af 1 I (mR (Co _ _ _ an) (Af 3 I (mG [] I (mO 1 (([1, 2, 7, 20, 60, 200, 1000] : Li).map rI) (mG [0] I (Az [0] (Aj b _ _ _ ao) ?_)))))))
 refine Af 1 I (mG [] I (mO 1 (([0, 1, 5, 1000] : Li).map rI) (mG [0] I (Az [0] (Aj b _ _ _ aq) ?_))))
 refine Af 1 I (mG [] I (mO 1 (([0, 50, 1000, 100000] : Li).map rI) (mG [0] I (Az [0] (Aj b _ _ _ ar) ?_))))
 refine B0 (Bi (l := [.v (.string g), .V a.2.2.1, .V a.2.2.2, .V e.1, .V i.1, .V j.1, .N]) Qa I) I (mG [] I (Br W3 7 fun M => mG [2] I (Ba 2 0 0 [[.v (.string g), .V a.2.2.1, .V a.2.2.2, .V e.1, .V i.1, .V j.1, .N]] I (mF ?_))))
 subst am
 refine Aa fun bd au => ?_
 obtain ⟨k, av, h⟩ := Ab h
 refine mE (Af 1 I (mG [] I (mO 1 (([1000000, 6000000, 100000000] : Li).map rI) (mG [0] I (Az [0] (Aj b _ _ _ av) ?_)))))
 refine Af 1 I (mF ?_)
 subst au
 refine Aa fun be aw => ?_
 obtain ⟨Z, ax, h⟩ := Ab h
 obtain ⟨bf, aa, h⟩ := Ab h
 refine Bm (sl 3 0 (.still 4 (.act 3 (.still 5 (.act 6 (.act 7 (.still 8 (.drop 9 .nil)))))))) [2] [_] I (Bo 4 [.o 1 0] I J1 (mH [0] I I I (Az [0] (Ey b _ _ _ _ ax) ?_)))
 refine Jr I (Bi (l := [.V 0, .V Z.1, .V k.1]) Ff I) I (mH [] I I I (mO 3 (([(⟨0, Z.1, k.1⟩ : Point)] : List Point).map Cn) (mH [] I I I (Xj I I I I I I I I (AppSrc.list I) (eS (E8 aa).1) (eR (E8 aa).2) dS fun ab => A4 1 I (mX 3 I fun ay => mW [2] I I I (mP 2 0 6 (es' := [[.v (.string g), .V a.2.2.1, .V a.2.2.2, .V e.1, .V i.1, .V j.1, .v ab]]) I I I I I I (Bd ay) I (As I) I I (An (mF ?_))))))))
 subst aw
 refine Ah (fun s ob => ∃ (A : Li × Int × (List Point)) (U : Value), Ln.J2 a g e i j k A = some r ∧ s = [] ∧ ob = [O2 b [[Q0 A.1, .V A.2.1]], O5 y [W3], O5 M [[.v (.string g), .V a.2.2.1, .V a.2.2.2, .V e.1, .V i.1, .V j.1, .v U]], U8 U A.2.2]) (K4 0 8 9 10) J4 ?_ ?_
 refine Ai I (mJ ?_)
 obtain ⟨bg, az, ac⟩ := Ab h
 refine Bs az (K4 0 8 9 10) J4 (fun (f : Li × Int × (List Point) × Int) s ob => ∃ (n : Value), s = [(11, .V f.2.2.2)] ∧ ob = [O2 b [[Q0 f.1, .V f.2.1]], O5 y [W3], O5 M [[.v (.string g), .V a.2.2.1, .V a.2.2.2, .V e.1, .V i.1, .V j.1, .v n]], U8 n f.2.2.1]) ⟨ab, I2⟩ ⟨I, J⟩ (pk N4) ?_
 rintro f a0 s ob ⟨n, rfl, rfl⟩ h ad
 unfold Ln.B3 at h
 refine Aa fun bh a1 => Ah (fun s ob => ∃ (u : Li × Int × Bool), Ln.J4 e k f u = some a0 ∧ s = [(51, .v (.bool u.2.2))] ∧ ob = [O2 b [[Q0 u.1, .V u.2.1]], O5 y [W3], O5 M [[.v (.string g), .V a.2.2.1, .V a.2.2.2, .V e.1, .V i.1, .V j.1, .v n]], U8 n f.2.2.1]) (K5 0 8 9 10 11) J5 ?_ ?_
 rcases bt (decide ((f.2.2.1.length : Int) < 7)) with B | B
 have h := Bv B h
 obtain ⟨W, a2, h⟩ := Ab h
 refine mE (Al 2 [.o 1 2] I J1 (mQ (Cf 3 I I I I) I (Af 2 I (Ad 47 I B (Af 1 I (Bc I I I (mG [0] I (Az [0] (Bu b _ _ _ a2) ?_))))))))
 exact Af 2 I (mF (lg ⟨(W.2.L_, W.2.At, decide (W.1 > 0)), h, I2⟩ N4))
 have h := Bw B h
 exact mE (Al 2 [.o 1 2] I J1 (mQ (Cf 3 I I I I) I (Af 2 I (Ad 47 I B (Af 4 I (mF (lg ⟨(f.1, f.2.1, false), h, I2⟩ N4)))))))
 rintro s ob ⟨u, h, rfl, rfl⟩
 refine Aq h I ?_ ?_
 intro a3 h
 refine mI ?_
 subst a1
 refine mJ (Aa fun bi a4 => ?_)
 obtain ⟨w, a5, h⟩ := Ab h
 refine mE (Af 2 I (mG [0] I (Az [0] (Ey b _ _ _ _ a5) ?_)))
 refine Af 2 I (mF ?_)
 subst a4
 refine Aa fun bj a6 => Bg [.o 2 2] I J1 (Aq h I ?_ ?_)
 intro a7 h
 obtain rfl := ad _ (oi h).symm
 have h := ac
 exact mN (lg ⟨(w.2.L_, w.2.At, f.2.2.1), n, h, I2⟩ N4)
 intro a7 h
 refine mI ?_
 subst a6
 obtain ⟨O, ae, h⟩ := Ab h
 obtain ⟨P, af, h⟩ := Ab h
 obtain ⟨Q, ag, h⟩ := Ab h
 obtain ⟨bk, ah, h⟩ := Ab h
 refine Bm (sl 4 0 (.still 5 (.still 9 (.still 10 (.two 4 6 (.act 6 jJ) (.act 4 jJ)))))) [2] [_] I (Bo 7 [.o 1 0] I J1 (mV ?_ ?_))
 refine mH [0] I I I (Az [0] (Ey b _ _ _ _ ae) ?_)
 refine mH [] I I I (mO 1 (([1, 1, 10] : Li).map rI) (mH [0] I I I (Az [0] (Aj b _ _ _ af) ?_)))
 refine A4 1 I (mH [0] I I I (Az [0] (Bu b _ _ _ ag) ?_))
 refine A4 2 I (Jr I (Bi (l := [.V (wr (f.2.2.2 + w.1)), .V (wr (O.1 * P.1)), .V (wr (k.1 - (wr (Q.1 * 1000))))]) Ff I) I (mH [] I I I (mO 3 (([(⟨wr (f.2.2.2 + w.1), wr (O.1 * P.1), wr (k.1 - (wr (Q.1 * 1000)))⟩ : Point)] : List Point).map Cn) (mH [3] I I I (mT 3 I ah fun D => A4 1 I (mX 3 I fun X => mW [2] I I I (mP 2 0 6 (es' := [[.v (.string g), .V a.2.2.1, .V a.2.2.2, .V e.1, .V i.1, .V j.1, .v D]]) I I I I I I (Bd X) I (As I) I I (An ?_))))))))
 cases io h
 exact mF ⟨_, _, _, I, ⟨D, I2⟩, J5, pk N4⟩
 refine mH [] I I I (mO 1 (([1, 1, 10] : Li).map rI) (mH [0] I I I (Az [0] (Ey b _ _ _ _ ae) ?_)))
 refine mH [0] I I I (Az [0] (Aj b _ _ _ af) ?_)
 refine A4 1 I (mH [0] I I I (Az [0] (Bu b _ _ _ ag) ?_))
 refine A4 2 I (Jr I (Bi (l := [.V (wr (f.2.2.2 + w.1)), .V (wr (O.1 * P.1)), .V (wr (k.1 - (wr (Q.1 * 1000))))]) Ff I) I (mH [] I I I (mO 3 (([(⟨wr (f.2.2.2 + w.1), wr (O.1 * P.1), wr (k.1 - (wr (Q.1 * 1000)))⟩ : Point)] : List Point).map Cn) (mH [3] I I I (mT 3 I ah fun D => A4 1 I (mX 3 I fun X => mW [2] I I I (mP 2 0 6 (es' := [[.v (.string g), .V a.2.2.1, .V a.2.2.2, .V e.1, .V i.1, .V j.1, .v D]]) I I I I I I (Bd X) I (As I) I I (An ?_))))))))
 cases io h
 exact mF ⟨_, _, _, I, ⟨D, I2⟩, J5, pk N4⟩
 intro a3 h
 obtain rfl := ad _ (oi h).symm
 have h := ac
 exact mN (lg ⟨(u.1, u.2.1, f.2.2.1), n, h, I2⟩ N4)
 rintro s ob ⟨A, U, h, rfl, rfl⟩
 refine mK ?_
 obtain ⟨E, a8, h⟩ := Ab h
 obtain ⟨ai, a9, h⟩ := Ab h
 refine Bm (sl 5 0 (.still 6 (.act 5 (.still 7 (.act 8 (.act 9 (.still 10 (.drop 11 .nil)))))))) [2] [_] I (Bo 6 [.o 1 0, .o 3 0] I J2 (mH [0] I I I (Az [0] (Ey b _ _ _ _ a8) ?_)))
 refine Jr I (Bi (l := [.V e.1, .V E.1, .V k.1]) Ff I) I (mH [] I I I (mO 3 (([(⟨e.1, E.1, k.1⟩ : Point)] : List Point).map Cn) (mH [3] I I I (mT 3 I a9 fun R => A4 1 I (mX 3 I fun ba => mW [2] I I I (mP 2 0 6 (es' := [[.v (.string g), .V a.2.2.1, .V a.2.2.2, .V e.1, .V i.1, .V j.1, .v R]]) I I I I I I (Bd ba) I (As I) I I (An (mF (mK (mE (Al 1 [.o 0 2] I J1 (mG [1] I (Ba 1 0 0 [[.v (.string g), .V a.2.2.1, .V a.2.2.2, .V e.1, .V i.1, .V j.1, .v R]] I (mF ?_))))))))))))))
 refine mM (Be [3] (K := [U8 R ai]) I [] J (ob' := [O2 b [Bx E.2], O5 y [[.v (.string g), .V a.2.2.1, .V a.2.2.2, .V e.1, .V i.1, .V j.1, Q8 ai]], O5 M [[.v (.string g), .V a.2.2.1, .V a.2.2.2, .V e.1, .V i.1, .V j.1, .v R]]]) (.cons (.same _) (.cons (.arr (.cons (.refl _) (.cons (.refl _) (.cons (.refl _) (.cons (.refl _) (.cons (.refl _) (.cons (.refl _) (.cons (.us 0 I) (.rest _))))))))) (.rest _)))) (Dd [0, 1] I ?_)
 obtain rfl := oi h
 exact mL ⟨.inr I, [_], [O2 b [Bx E.2]], ⟨⟨1, _, _, _, _, _, _, _, I5⟩, J⟩, Dj I (Cm), ⟨[O2 b [Bx E.2]], [], I5⟩⟩
end Go.Proofs.YtihdchjpepkpbaaGreat
