/- Walks that show what functions of the program compute; printed by a program of ours. No condition. -/
import Derived.Test.YtihdchjpepkpbaaGreatZwL0
import Derived.Test.YtihdchjpepkpbaaGreatZwD
set_option maxRecDepth 100000
namespace Go.Proofs.YtihdchjpepkpbaaGreat
open Go.Aw
set_option linter.unusedVariables false
set_option linter.unusedSimpArgs false
set_option maxHeartbeats 4000000
abbrev Xv : PL := sl 12 0 (.drop 12 .nil)
theorem Cy (a : Int) (c : Int) (d : Int) (r : Bool) (h : Ch a c d = r) : ACalls Ak 145 [.V a, .V c, .V d] [] (RB r) := by
 refine Ag Tryz.func145 I I I fun C hC => ?_
 unfold Ch at h
 refine Ai I (Ah (fun s ob => s = [(6, .v (.bool (decide (a ≥ c) && decide (a ≤ d))))] ∧ ob = []) [] J ?_ ?_)
 refine mE (Af 4 I ?_)
 rcases bt (decide (a ≥ c)) with b | b
 refine Ad 10 I b (Af 5 I (mF ?_))
 exact lf I2 ⟨(Fq (by simp only [b, bz])), J⟩ [] I
 refine Ad 10 I b (Af 5 I (mF ?_))
 exact lf I2 ⟨(Fq (by simp only [b, bz])), J⟩ [] I
 rintro s ob ⟨rfl, rfl⟩
 obtain rfl := h
 exact mL pr
theorem bA (a : Nw) (r : Arr (List Bt) 4) (h : Ow a = some r) : ACalls Ak 146 [.agg (Ac a)] [] (RV (.agg (r.l.map (cL 1 rS)))) := by
 refine Ag Tryz.func146 I I I fun C hC => ?_
 unfold Ow at h
 refine Aa fun y1 U => mE (mG [] I (Bz (Ac a) 6 fun u => mG [] I (Br W4 4 fun f => mF ?_)))
 subst U
 refine Aa fun y4 W => mE (mG [] I (Br W4 4 fun g => mF ?_))
 subst W
 refine Aa fun y6 X => mE (Al 2 [.o 1 0] I J1 (B0 (Dl (m := 0) I I I I I I (As I)) I (mG [2] I (Ba 2 0 0 [[Q1 a.Nodes, .N, .N, .N]] I (mF ?_)))))
 subst X
 refine Ah (fun s ob => ∃ (c : List Bt) (b : Value), Ow.J1 a c = some r ∧ s = [] ∧ ob = [O0 u [Ac a], O4 f [W4], O4 g [[Q1 a.Nodes, .v b, .N, .N]], U2 b c]) (K3 1 2 3) J3 ?_ ?_
 refine Bg [.o 1 0, .l 2 (a.Segments.length : Int)] I ⟨A0, I, J⟩ (mJ (Cj 14 I fun Y => mM (A6 9 1) ?_))
 obtain ⟨a5, Z, aa⟩ := Ab h
 refine Dc Z (K5 1 2 3 14 15) J5 (fun (w : Nat) (y : List Bt) s ob => ∃ (j : Value), s = [(16, .V (w : Int))] ∧ ob = [O0 u [Ac a], O4 f [W4], O4 g [[Q1 a.Nodes, .v j, .N, .N]], U2 j y]) ⟨nS, I2⟩ ⟨I, J⟩ (pk N4) ?_ ?_
 rintro w F y a6 s ob ab M ⟨j, rfl, rfl⟩ h
 have ac := C9 M
 refine Ai I (Aa fun a7 ad => Cd I ac (mI ?_))
 subst ad
 refine mK (mJ (mK (mE (Al 2 [.x 0 w (Ap F)] I ⟨⟨I, Ae ab⟩, J⟩ (mG [] I (Br W3 7 fun a8 => mG [4] I (Ba 4 0 0 [Ap F] I (mF ?_))))))))
 obtain ⟨a9, ae, h⟩ := Ab h
 refine mE (B0 (Dl (m := 1) I I I I I I (As I)) I (Al 3 [.o 0 2, .o 2 4] I J2 (mG [] I (mO 1 (([F.Name] : List Bt).map rS) (mG [3] I (mT 3 I ae fun O => B0 (Dl (m := 1) I I I I I I (As I)) I (nD 3 I fun af => mG [2] I (mP 2 0 1 (es' := [[Q1 a.Nodes, .v O, .N, .N]]) I I I I I I (Bd af) I (As I) I I (mF (mE (Al 2 [.k 0 (w + 1 : Nat)] I ⟨Bf M Y, J⟩ ?_)))))))))))
 cases io h
 exact mF (lg ⟨O, I2⟩ N4)
 rintro y s ob ⟨j, rfl, rfl⟩ he
 subst he
 have h := aa
 have ag := Da a.Segments.length
 exact Ai I (Aa fun ba bb => Ce I ag (mN (lg ⟨y, j, h, I2⟩ N4)))
 rintro s ob ⟨c, b, h, rfl, rfl⟩
 unfold Ow.J1 at h
 refine Ah (fun s ob => ∃ (e : List Bt) (d : Value), Ow.J2 a c e = some r ∧ s = [] ∧ ob = [O0 u [Ac a], O4 f [W4], O4 g [[Q1 a.Nodes, .v b, .v d, .N]], U2 b c, U2 d e]) (K3 1 2 3) J3 ?_ ?_
 refine Bg [.o 1 0, .l 2 (a.Ports.length : Int)] I ⟨A0, I, J⟩ (mJ (Cj 29 I fun ah => mM (A6 9 1) ?_))
 obtain ⟨bc, ai, aj⟩ := Ab h
 refine Dc ai (K5 1 2 3 29 30) J5 (fun (A : Nat) (B : List Bt) s ob => ∃ (n : Value), s = [(31, .V (A : Int))] ∧ ob = [O0 u [Ac a], O4 f [W4], O4 g [[Q1 a.Nodes, .v b, .v n, .N]], U2 b c, U2 n B]) ⟨nS, I2⟩ ⟨I, J⟩ (pk N5) ?_ ?_
 rintro A G B bd s ob ak P ⟨n, rfl, rfl⟩ h
 have al := C9 P
 refine Ai I (Aa fun be am => Cd I al (mI ?_))
 subst am
 refine mK (mJ (mK (mE (Al 2 [.x 0 A (Bp G)] I ⟨⟨I, Ae ak⟩, J⟩ (mG [] I (Br W5 3 fun bf => mG [5] I (Ba 5 0 0 [Bp G] I (mF ?_))))))))
 obtain ⟨bg, an, h⟩ := Ab h
 refine mE (B0 (Dl (m := 2) I I I I I I (As I)) I (Al 3 [.o 0 2, .o 2 5] I J2 (mG [] I (mO 1 (([G.Name] : List Bt).map rS) (mG [4] I (mT 4 I an fun Q => B0 (Dl (m := 2) I I I I I I (As I)) I (nD 4 I fun ao => mG [2] I (mP 2 0 2 (es' := [[Q1 a.Nodes, .v b, .v Q, .N]]) I I I I I I (Bd ao) I (As I) I I (mF (mE (Al 2 [.k 0 (A + 1 : Nat)] I ⟨Bf P ah, J⟩ ?_)))))))))))
 cases io h
 exact mF (lg ⟨Q, I2⟩ N5)
 rintro B s ob ⟨n, rfl, rfl⟩ he
 subst he
 have h := aj
 have aq := Da a.Ports.length
 exact Ai I (Aa fun bh bi => Ce I aq (mN (lg ⟨B, n, h, I2⟩ N5)))
 rintro s ob ⟨e, d, h, rfl, rfl⟩
 unfold Ow.J2 at h
 refine Ah (fun s ob => ∃ (q : List Bt) (i : Value), Ow.J3 a c e q = some r ∧ s = [] ∧ ob = [O4 f [W4], O4 g [[Q1 a.Nodes, .v b, .v d, .v i]], U2 b c, U2 d e, U2 i q]) (K2 2 3) J2 ?_ ?_
 refine Bg [.o 1 0, .l 2 (a.Stations.length : Int)] I ⟨A0, I, J⟩ (mJ (Cj 44 I fun ar => mM (A6 9 1) ?_))
 obtain ⟨bj, au, av⟩ := Ab h
 refine Dc au (K4 2 3 44 45) J4 (fun (D : Nat) (E : List Bt) s ob => ∃ (t : Value), s = [(46, .V (D : Int))] ∧ ob = [O4 f [W4], O4 g [[Q1 a.Nodes, .v b, .v d, .v t]], U2 b c, U2 d e, U2 t E]) ⟨nS, I2⟩ ⟨I, J⟩ (pk [1, 2, 3, 4, 5]) ?_ ?_
 rintro D H E bk s ob aw R ⟨t, rfl, rfl⟩ h
 have ax := C9 R
 refine Ai I (Aa fun bl ay => Cd I ax (mI ?_))
 subst ay
 refine mK (mJ (mK (mE (Al 2 [.x 0 D (Bl H)] I ⟨⟨I, Ae aw⟩, J⟩ (mG [] I (Br W6 5 fun bm => mG [5] I (Ba 5 0 0 [Bl H] I (mF ?_))))))))
 obtain ⟨bn, az, h⟩ := Ab h
 refine mE (B0 (Dl (m := 3) I I I I I I (As I)) I (Al 3 [.o 0 1, .o 2 5] I J2 (mG [] I (mO 1 (([H.Name] : List Bt).map rS) (mG [4] I (mT 4 I az fun S => B0 (Dl (m := 3) I I I I I I (As I)) I (nD 4 I fun a0 => mG [1] I (mP 1 0 3 (es' := [[Q1 a.Nodes, .v b, .v d, .v S]]) I I I I I I (Bd a0) I (As I) I I (mF (mE (Al 2 [.k 0 (D + 1 : Nat)] I ⟨Bf R ar, J⟩ ?_)))))))))))
 cases io h
 exact mF (lg ⟨S, I2⟩ N5)
 rintro E s ob ⟨t, rfl, rfl⟩ he
 subst he
 have h := av
 have a1 := Da a.Stations.length
 exact Ai I (Aa fun bo bp => Ce I a1 (mN (lg ⟨E, t, h, I2⟩ N5)))
 rintro s ob ⟨q, i, h, rfl, rfl⟩
 unfold Ow.J3 at h
 refine mK (mE (Al 1 [.o 0 1] I J1 (mG [0] I (Ba 0 0 0 [[Q1 a.Nodes, .v b, .v d, .v i]] I (mF (mM (Be [2, 3, 4] (K := [U2 b c, U2 d e, U2 i q]) I [] J (ob' := [O4 f [[Q1 a.Nodes, Q1 c, Q1 e, Q1 q]], O4 g [[Q1 a.Nodes, .v b, .v d, .v i]]]) (.cons (.arr (.cons (.refl _) (.cons (.us 0 I) (.cons (.us 1 I) (.cons (.us 2 I) (.rest _)))))) (.rest _))) (Dd [0] I ?_)))))))
 cases io h
 exact mL ⟨.inr I, [_], [], ⟨⟨0, _, _, _, _, _, _, _, I5⟩, J⟩, Cm, I2⟩
theorem aZ (g : Bt) (r : Bool) (h : Ov g = some r) : ACalls Ak 147 [.v (.string g)] [] (RB r) := by
 refine Ag Tryz.func147 I I I fun C hC => ?_
 unfold Ov at h
 refine Ai I (Aa fun X M => Ah (fun s ob => ∃ (y : Bool), Ov.J1 g y = some r ∧ s = [(21, .v (.bool y))] ∧ ob = []) [(0, _)] J1 ?_ ?_)
 refine mE (Af 4 I ?_)
 rcases bt (decide ((g.size : Int) < 1)) with i | i
 have h := Bv i h
 exact Ad 7 I i (Af 14 I (mF (lg ⟨true, h, I2⟩ [])))
 have h := Bw i h
 refine Ad 7 I i ?_
 rcases bt (decide ((g.size : Int) > 12)) with j | j
 have h := Bv j h
 exact Af 5 I (Ad 12 I j (Af 9 I (mF (lg ⟨true, h, I2⟩ []))))
 have h := Bw j h
 obtain ⟨f, N, h⟩ := Ab h
 obtain ⟨D, E, F⟩ := Kh N
 refine Af 5 I (Ad 12 I j (Af 1 I (Bc I I I (B0 (Cr (m := f.1) I I I I D E F) I (Bc I I I (B0 (nA (c := decide (f.2 < 97)) I I I) I (Af 2 I ?_)))))))
 rcases bt (decide (f.2 < 97)) with k | k
 have h := Bv k h
 exact Ad 17 I k (Af 4 I (mF (lg ⟨true, h, I2⟩ [])))
 have h := Bw k h
 exact Ad 17 I k (Af 1 I (Bc I I I (B0 (Cr (m := f.1) I I I I D E F) I (Bc I I I (B0 (nA (c := decide (f.2 > 122)) I I I) I (Af 1 I (mF (lg ⟨decide (f.2 > 122), h, I2⟩ []))))))))
 rintro s ob ⟨y, h, rfl, rfl⟩
 refine Aq h I ?_ ?_
 intro O h
 refine Ai I ?_
 cases io h
 exact mL pr
 intro O h
 refine mI ?_
 subst M
 refine Ah (fun s ob => ∃ (G : Unit), Ov.J2 G = some r ∧ s = [] ∧ ob = []) [] J ?_ ?_
 refine Ai I (mJ ?_)
 obtain ⟨Y, P, H⟩ := Ab h
 refine Bs P [(0, _)] J1 (fun (A : Int) s ob => s = [(3, .V A)] ∧ ob = []) ⟨I, I⟩ ⟨I, J⟩ (pk []) ?_
 rintro A Q s ob ⟨rfl, rfl⟩ h K
 refine Aa fun Z R => Ai I (Aq h I ?_ ?_)
 intro S h
 refine mI ?_
 subst R
 refine mK (mJ (Ah (fun s ob => ∃ (B : Bool), Ov.J4 A B = some Q ∧ s = [(55, .v (.bool B))] ∧ ob = []) (K2 0 3) J2 ?_ ?_))
 obtain ⟨a, U, h⟩ := Ab h
 obtain ⟨b, d, e⟩ := Kh U
 refine mE (Af 2 I (B0 (Cr (m := a.1) I I I I b d e) I (B0 (nA (c := decide (a.2 < 97)) I I I) I (Af 1 I ?_))))
 rcases bt (decide (a.2 < 97)) with l | l
 have h := Bv l h
 refine Ad 32 I l (Af 8 I (Bc I I I (B0 (Cr (m := a.1) I I I I b d e) I (Bc I I I (B0 (nA (c := decide (a.2 < 48)) I I I) I (Af 1 I ?_))))))
 rcases bt (decide (a.2 < 48)) with n | n
 have h := Bv n h
 exact Ad 43 I n (Af 9 I (Bc I I I (B0 (Cr (m := a.1) I I I I b d e) I (Bc I I I (B0 (nA (c := (a.2 != 45)) I I I) I (Af 1 I (mF (lg ⟨(a.2 != 45), h, I2⟩ []))))))))
 have h := Bw n h
 refine Ad 43 I n (Af 2 I (Bc I I I (B0 (Cr (m := a.1) I I I I b d e) I (Bc I I I (B0 (nA (c := decide (a.2 > 57)) I I I) I (Af 3 I ?_))))))
 rcases bt (decide (a.2 > 57)) with o | o
 have h := Bv o h
 exact Ad 50 I o (Af 2 I (Bc I I I (B0 (Cr (m := a.1) I I I I b d e) I (Bc I I I (B0 (nA (c := (a.2 != 45)) I I I) I (Af 1 I (mF (lg ⟨(a.2 != 45), h, I2⟩ []))))))))
 have h := Bw o h
 exact Ad 50 I o (Af 5 I (mF (lg ⟨false, h, I2⟩ [])))
 have h := Bw l h
 refine Ad 32 I l (Af 2 I (Bc I I I (B0 (Cr (m := a.1) I I I I b d e) I (Bc I I I (B0 (nA (c := decide (a.2 > 122)) I I I) I (Af 2 I ?_))))))
 rcases bt (decide (a.2 > 122)) with t | t
 have h := Bv t h
 refine Ad 38 I t (Af 2 I (Bc I I I (B0 (Cr (m := a.1) I I I I b d e) I (Bc I I I (B0 (nA (c := decide (a.2 < 48)) I I I) I (Af 1 I ?_))))))
 rcases bt (decide (a.2 < 48)) with u | u
 have h := Bv u h
 exact Ad 43 I u (Af 9 I (Bc I I I (B0 (Cr (m := a.1) I I I I b d e) I (Bc I I I (B0 (nA (c := (a.2 != 45)) I I I) I (Af 1 I (mF (lg ⟨(a.2 != 45), h, I2⟩ []))))))))
 have h := Bw u h
 refine Ad 43 I u (Af 2 I (Bc I I I (B0 (Cr (m := a.1) I I I I b d e) I (Bc I I I (B0 (nA (c := decide (a.2 > 57)) I I I) I (Af 3 I ?_))))))
 rcases bt (decide (a.2 > 57)) with w | w
 have h := Bv w h
 exact Ad 50 I w (Af 2 I (Bc I I I (B0 (Cr (m := a.1) I I I I b d e) I (Bc I I I (B0 (nA (c := (a.2 != 45)) I I I) I (Af 1 I (mF (lg ⟨(a.2 != 45), h, I2⟩ []))))))))
 have h := Bw w h
 exact Ad 50 I w (Af 5 I (mF (lg ⟨false, h, I2⟩ [])))
 have h := Bw t h
 exact Ad 38 I t (Af 5 I (Cw I I dS (Cw I I dS (Cw I I dS (Cw I I dS (Af 8 I (mF (lg ⟨false, h, I2⟩ []))))))))
 rintro s ob ⟨B, h, rfl, rfl⟩
 refine Aq h I ?_ ?_
 intro W h
 refine Ai I ?_
 obtain rfl := K _ (oi h).symm
 have h := H
 have h := Cz h
 cases io h
 exact mL pr
 intro W h
 refine mI (mE (Af 3 I ?_))
 cases io h
 exact mF ⟨_, _, _, I, I2, J2, pk []⟩
 intro S h
 obtain rfl := K _ (oi h).symm
 have h := H
 have h := C2 h
 exact mN (lg ⟨(), h, I2⟩ [])
 rintro s ob ⟨G, h, rfl, rfl⟩
 unfold Ov.J2 at h
 refine Ai I ?_
 cases io h
 exact mL pr
theorem bU (a : List Bt) (r : Bool) (h : Pd a = some r) : ACalls Ak 148 [Q1 a] [] (RB r) := by
 refine Ag Tryz.func148 I I I fun C hC => ?_
 unfold Pd at h
 refine Ai I (Ah (fun s ob => ∃ (e : Unit), Pd.J1 e = some r ∧ s = [] ∧ ob = []) [] J ?_ ?_)
 refine Bg [.l 1 (a.length : Int)] I ⟨A0, J⟩ (mJ (Cj 5 I fun t => ?_))
 obtain ⟨O, u, f⟩ := Ab h
 refine Cg u (K2 0 6) J2 (fun (b : Nat) (g : Unit) s ob => s = [(7, .V (b : Int))] ∧ ob = []) ⟨I, I⟩ ⟨I, J⟩ (pk []) ?_ ?_
 rintro b i g w s ob y j ⟨rfl, rfl⟩ h A
 unfold Pd.B2 at h
 have B := C9 j
 refine Ai I (Aa fun P D => Cd I B (mI ?_))
 subst D
 refine Ah (fun s ob => ∃ (m : Unit), Pd.J3 m = some w ∧ s = [] ∧ ob = []) (K3 0 6 7) J3 ?_ ?_
 refine mJ (Ai I (Ai I (mJ ?_)))
 obtain ⟨Q, E, n⟩ := Ab h
 refine Bs E (K4 0 3 6 7) J4 (fun (o : Int) s ob => s = [(4, .V o)] ∧ ob = []) ⟨I, I⟩ ⟨I, J⟩ (pk []) ?_
 rintro o R s ob ⟨rfl, rfl⟩ h p
 refine Aa fun S F => Ai I (Aq h I ?_ ?_)
 intro G h
 refine mI ?_
 subst F
 refine mK (mJ (mK ?_))
 obtain ⟨d, ⟨H, K⟩, h⟩ := Bb h
 refine Bm (pd 9 0 []) [] [] I (Bo 8 [.x 2 b (rS i), .x 6 d.1 (rS d.2)] I ⟨⟨H, Ae K⟩, ⟨I, Ae y⟩, J⟩ (mU I (Yp.cmpS (c := T3 i d.2) I I I) I (An (mF (Aq h I ?_ ?_)))))
 intro M h
 refine Ai I ?_
 obtain rfl := p _ (oi h).symm
 have h := n
 have h := Cz h
 obtain rfl := A _ (oi h).symm
 have h := f
 have h := C2 h
 cases io h
 exact mL pr
 intro M h
 refine mI (mE (Af 3 I ?_))
 cases io h
 exact mF ⟨_, _, _, I, I2, J5, pk []⟩
 intro G h
 obtain rfl := p _ (oi h).symm
 have h := n
 have h := C2 h
 exact mN (lg ⟨(), h, I2⟩ [])
 rintro s ob ⟨m, h, rfl, rfl⟩
 unfold Pd.J3 at h
 refine mE (Al 2 [.k 0 (b + 1 : Nat)] I ⟨Bf j t, J⟩ ?_)
 cases io h
 exact mF ⟨_, _, _, I, I2, J3, pk []⟩
 rintro g s ob ⟨rfl, rfl⟩ he
 subst he
 have h := Cz f
 have N := Da a.length
 exact Ai I (Aa fun U W => Ce I N (mN (lg ⟨(), h, I2⟩ [])))
 rintro s ob ⟨e, h, rfl, rfl⟩
 unfold Pd.J1 at h
 refine Ai I ?_
 cases io h
 exact mL pr
theorem aW (a : Sg) (r : Bool) (h : Oq a = some r) : ACalls Ak 149 [.agg (Ap a)] [] (RB r) := by
 refine Ag Tryz.func149 I I I fun C hC => ?_
 unfold Oq at h
 refine Aa fun y1 K => mE (mG [] I (Bz (Ap a) 7 fun u => Af 1 I (mF ?_)))
 subst K
 refine Aa fun y3 M => Ah (fun s ob => ∃ (w : Bool), Oq.J1 a w = some r ∧ s = [(49, .v (.bool w))] ∧ ob = [O5 u [Ap a]]) [(1, _)] J1 ?_ ?_
 refine Bm (pd 45 0 [8, 14, 20]) [0] [_] I (Bo 6 [.o 1 0, .o 3 0] I J2 ?_)
 rcases bt ((a.From == a.To)) with c | c
 have h := Bv c h
 exact Bk 10 I c (A4 39 I (An (mF (lg ⟨true, h, I2⟩ [0]))))
 have h := Bw c h
 refine Bk 10 I c (Bo 2 [.o 1 0] I J1 (Hi I (Cy a.Capacity 1 1000000 _ I) (A4 3 I ?_)))
 rcases bt ((!(Ch a.Capacity 1 1000000))) with d | d
 have h := Bv d h
 exact Bk 16 I d (A4 33 I (An (mF (lg ⟨true, h, I2⟩ [0]))))
 have h := Bw d h
 refine Bk 16 I d (Bo 2 [.o 1 0] I J1 (Hi I (Cy a.Resist 0 1000 _ I) (A4 3 I ?_)))
 rcases bt ((!(Ch a.Resist 0 1000))) with e | e
 have h := Bv e h
 exact Bk 22 I e (A4 27 I (An (mF (lg ⟨true, h, I2⟩ [0]))))
 have h := Bw e h
 refine Bk 22 I e (Bo 2 [.o 1 0] I J1 (Hi I (Cy a.Wave 0 100000 _ I) (A4 3 I ?_)))
 rcases bt ((!(Ch a.Wave 0 100000))) with f | f
 have h := Bv f h
 exact Bk 28 I f (A4 21 I (An (mF (lg ⟨true, h, I2⟩ [0]))))
 have h := Bw f h
 obtain ⟨y, ⟨N, O⟩, h⟩ := Bb h
 refine Bk 28 I f (Bo 8 [.o 1 0, .x 2 y.1 (Cn y.2)] I ⟨⟨N, Ae O⟩, I, J⟩ ?_)
 rcases bt ((y.2.At != 0)) with g | g
 have h := Bv g h
 exact Bk 36 I g (A4 13 I (An (mF (lg ⟨true, h, I2⟩ [0]))))
 have h := Bw g h
 obtain ⟨A, ⟨P, Q⟩, h⟩ := Bb h
 exact Bk 36 I g (Bo 13 [.o 1 0, .o 3 0, .l 4 (a.Points.length : Int), .x 6 A.1 (Cn A.2), .o 10 0] I ⟨I, ⟨P, Ae Q⟩, A0, I, I, J⟩ (An (mF (lg ⟨(A.2.At != a.Capacity), h, I2⟩ [0]))))
 rintro s ob ⟨w, h, rfl, rfl⟩
 refine Aq h I ?_ ?_
 intro R h
 refine Ai I (mM g0 ?_)
 cases io h
 exact mL pr
 intro R h
 refine mI ?_
 subst M
 refine Ah (fun s ob => ∃ (E : Unit), Oq.J2 E = some r ∧ s = [] ∧ ob = []) [] J ?_ ?_
 refine Bg [.o 1 0, .l 2 (a.Points.length : Int)] I ⟨A0, I, J⟩ (mJ (Cj 51 I fun S => ?_))
 obtain ⟨ai, U, F⟩ := Ab h
 refine Cg U (K3 1 51 52) J3 (fun (i : Nat) (G : Unit) s ob => s = [(53, .V (i : Int))] ∧ ob = [O5 u [Ap a]]) ⟨I, I⟩ ⟨I, J⟩ (pk [0]) ?_ ?_
 rintro i b G W s ob X H ⟨rfl, rfl⟩ h Y
 unfold Oq.B3 at h
 have Z := C9 H
 refine Ai I (Aa fun aj aa => Cd I Z (mI ?_))
 subst aa
 refine mK (mJ (Aa fun ak ab => mE (Al 3 [.x 1 i (Cn b)] I ⟨⟨I, Ae X⟩, J⟩ (mG [] I (Br [.V 0, .V 0, .V 0] 3 fun al => Af 1 I (mG [1] I (Ba 1 0 0 [Cn b] I (mF ?_))))))))
 subst ab
 refine Ah (fun s ob => ∃ (B : Bool), Oq.J4 B = some W ∧ s = [(83, .v (.bool B))] ∧ ob = [O5 u [Ap a]]) (K4 1 51 52 53) J4 ?_ ?_
 rcases bt (decide ((i : Int) > 0)) with j | j
 have h := Bv j h
 obtain ⟨D, ⟨ac, ad⟩, h⟩ := Bb h
 refine Bm (pd 26 0 [17, 23]) [1, 0] [_, _] I (A4 3 I (Bk 60 I j (Bo 12 [.o 1 0, .o 3 1, .x 6 D.1 (Cn D.2)] I ⟨⟨ac, Ae ad⟩, I, I, J⟩ ?_)))
 rcases bt (decide (b.At ≤ D.2.At)) with n | n
 have h := Bv n h
 exact Bk 72 I n (A4 11 I (An (mF (lg ⟨true, h, I2⟩ [0]))))
 have h := Bw n h
 refine Bk 72 I n (Bo 2 [.o 1 0] I J1 (Hi I (Cy b.Height (-500) 5000 _ I) (A4 3 I ?_)))
 rcases bt ((!(Ch b.Height (-500) 5000))) with p | p
 have h := Bv p h
 exact Bk 78 I p (A4 5 I (An (mF (lg ⟨true, h, I2⟩ [0]))))
 have h := Bw p h
 exact Bk 78 I p (Bo 2 [.o 1 0] I J1 (Hi I (Cy b.Limit 0 100000000 _ I) (A4 2 I (An (mF (lg ⟨(!(Ch b.Limit 0 100000000)), h, I2⟩ [0]))))))
 have h := Bw j h
 refine Bm (pd 26 0 [17, 23]) [1] [_] I (A4 3 I (Bk 60 I j (Bo 14 [.o 13 0] I J1 (Hi I (Cy b.Height (-500) 5000 _ I) (A4 3 I ?_)))))
 rcases bt ((!(Ch b.Height (-500) 5000))) with t | t
 have h := Bv t h
 exact Bk 78 I t (A4 5 I (An (mF (lg ⟨true, h, I2⟩ [0]))))
 have h := Bw t h
 exact Bk 78 I t (Bo 2 [.o 1 0] I J1 (Hi I (Cy b.Limit 0 100000000 _ I) (A4 2 I (An (mF (lg ⟨(!(Ch b.Limit 0 100000000)), h, I2⟩ [0]))))))
 rintro s ob ⟨B, h, rfl, rfl⟩
 refine Aq h I ?_ ?_
 intro ae h
 refine Ai I ?_
 obtain rfl := Y _ (oi h).symm
 have h := F
 have h := C2 h
 refine mM g0 ?_
 cases io h
 exact mL pr
 intro ae h
 refine mI (mE (Al 2 [.k 0 (i + 1 : Nat)] I ⟨Bf H S, J⟩ ?_))
 cases io h
 exact mF ⟨_, _, _, I, I2, J4, pk [0]⟩
 rintro G s ob ⟨rfl, rfl⟩ he
 subst he
 have h := Cz F
 have af := Da a.Points.length
 exact Ai I (Aa fun am an => Ce I af (mN (lg ⟨(), h, I2⟩ [])))
 rintro s ob ⟨E, h, rfl, rfl⟩
 unfold Oq.J2 at h
 refine Ai I ?_
 cases io h
 exact mL pr
theorem Il (a : Nw) (r : Int) (h : Eg a = some r) : ACalls Ak 82 [.agg (Ac a)] [] (RV (.V r)) := by
 refine Ag Tryz.func82 I I I fun C hC => ?_
 unfold Eg at h
 refine Aa fun y1 bn => mE (mG [] I (Bz (Ac a) 6 fun b => Af 1 I (mF ?_)))
 subst bn
 refine Aa fun y3 bo => Ec 49 ((!(Ch (a.Nodes.length : Int) 1 24)) || (decide ((a.Segments.length : Int) > 32) || (decide ((a.Ports.length : Int) > 24) || decide ((a.Stations.length : Int) > 12)))) ?_ ?_
 refine mE (Al 3 [.o 1 0, .l 2 (a.Nodes.length : Int)] I ⟨A0, I, J⟩ (mR (Cy (a.Nodes.length : Int) 1 24 _ I) (Af 2 I ?_)))
 rcases bt ((!(Ch (a.Nodes.length : Int) 1 24))) with g | g
 exact Ad 32 I g (Af 17 I (mF (jf (by simp only [g, bz]) I I I2)))
 refine Ad 32 I g (Al 6 [.o 1 0, .l 2 (a.Segments.length : Int)] I ⟨A0, I, J⟩ ?_)
 rcases bt (decide ((a.Segments.length : Int) > 32)) with j | j
 exact Ad 38 I j (Af 11 I (mF (jf (by simp only [g, j, bz]) I I I2)))
 refine Ad 38 I j (Al 6 [.o 1 0, .l 2 (a.Ports.length : Int)] I ⟨A0, I, J⟩ ?_)
 rcases bt (decide ((a.Ports.length : Int) > 24)) with t | t
 exact Ad 44 I t (Af 5 I (mF (jf (by simp only [g, j, t, bz]) I I I2)))
 exact Ad 44 I t (Al 5 [.o 1 0, .l 2 (a.Stations.length : Int)] I ⟨A0, I, J⟩ (mF (jf (by simp only [g, j, t, bz]) I I I2)))
 refine Aq h I ?_ ?_
 intro bp h
 refine Ai I (mM g0 ?_)
 cases io h
 exact mL pr
 intro bp h
 refine mI ?_
 subst bo
 refine Ah (fun s ob => ∃ (Z : Unit), Eg.J1 a Z = some r ∧ s = [] ∧ ob = [O0 b [Ac a]]) [(1, _)] J1 ?_ ?_
 refine Bg [.o 1 0, .l 2 (a.Segments.length : Int)] I ⟨A0, I, J⟩ (mJ (Cj 51 I fun bq => ?_))
 obtain ⟨e4, br, aa⟩ := Ab h
 refine Cg br (K3 1 51 52) J3 (fun (B : Nat) (ab : Unit) s ob => s = [(53, .V (B : Int))] ∧ ob = [O0 b [Ac a]]) ⟨I, I⟩ ⟨I, J⟩ (pk [0]) ?_ ?_
 rintro B D ab e5 s ob bs ac ⟨rfl, rfl⟩ h bu
 have bv := C9 ac
 refine Ai I (Aa fun e6 bw => Cd I bv (mI ?_))
 subst bw
 refine mK (mJ (mK (mE (Al 2 [.x 0 B (Ap D)] I ⟨⟨I, Ae bs⟩, J⟩ (mG [] I (Br W3 7 fun e7 => mG [1] I (Ba 1 0 0 [Ap D] I (mF (mK (mE (Al 3 [.o 1 1, .l 2 (D.Points.length : Int)] I ⟨A0, I, J⟩ (mR (Cy (D.Points.length : Int) 2 8 _ I) (Af 1 I ?_)))))))))))))
 refine mF (Aq h I ?_ ?_)
 intro bx h
 refine Ai I ?_
 obtain rfl := bu _ (oi h).symm
 have h := aa
 have h := C2 h
 refine mM g0 ?_
 cases io h
 exact mL pr
 intro bx h
 refine mI (mE (Al 2 [.k 0 (B + 1 : Nat)] I ⟨Bf ac bq, J⟩ ?_))
 cases io h
 exact mF ⟨_, _, _, I, I2, J4, pk [0]⟩
 rintro ab s ob ⟨rfl, rfl⟩ he
 subst he
 have h := Cz aa
 have b0 := Da a.Segments.length
 exact Ai I (Aa fun e8 e9 => Ce I b0 (mN (lg ⟨(), h, I2⟩ [0])))
 rintro s ob ⟨Z, h, rfl, rfl⟩
 refine Aa fun fa b1 => ?_
 obtain ⟨f, b3, h⟩ := Ab h
 refine mE (Al 1 [.o 0 0] I J1 (mG [] I (Cb I I I (bA _ _ b3) dS ?_)))
 rintro _ _ ⟨rfl, rfl⟩
 refine mG [] I (Br W4 4 fun E => mG [1] I (mP 1 0 0 (es' := [f.l.map (cL 1 rS)]) I I I I I I I (by simp [Arr.h, Bj]) (by simp [Arr.h, Bj]) I (congrArg (fun r => [r]) (Kb (by simp [Arr.h, Bj]))) (mF ?_)))
 subst b1
 refine Ah (fun s ob => ∃ (ad : Unit), Eg.J2 a f ad = some r ∧ s = [] ∧ ob = [O0 b [Ac a], O4 E [f.l.map (cL 1 rS)]]) (K2 1 5) J2 ?_ ?_
 refine Aa fun fb b4 => mE (mQ (Cc 1 0 0 I I I I I (y := .agg (f.l.map (cL 1 rS))) (Kf I (by simp [Arr.h, Bj]))) I (Af 1 I (mF ?_)))
 subst b4
 refine mJ ?_
 have b5 : (4 : Nat) ≤ 9223372036854775806 := by decide
 obtain ⟨fc, b6, ae⟩ := Ab h
 refine Gf b6 (K3 1 5 65) J3 (fun (F : Nat) (af : Unit) s ob => s = [(66, .V (F : Int))] ∧ ob = [O0 b [Ac a], O4 E [f.l.map (cL 1 rS)]]) ⟨I, I⟩ ⟨I, J⟩ (pk [0, 1]) ?_ ?_
 rintro F af b7 s ob b8 ⟨rfl, rfl⟩ h b9
 unfold Eg.B21 at h
 have ca : decide ((F : Int) < 4) = true := decide_eq_true (by omega)
 refine Ai I (Aa fun fd cb => Cd I ca (mI ?_))
 subst cb
 refine Ah (fun s ob => ∃ (ag : Unit), Eg.J22 ag = some b7 ∧ s = [] ∧ ob = [O0 b [Ac a], O4 E [f.l.map (cL 1 rS)]]) (K4 1 5 65 66) J4 ?_ ?_
 refine mJ (Aa fun fe cc => ?_)
 obtain ⟨U, ⟨cd, ce⟩, h⟩ := Bb h
 refine mE (B0 (Gv (m := U.1) I I I I I I I cd ce (hlen := Arr.h _)) I (Af 1 I (mF ?_)))
 subst cc
 refine Bg [.l 1 (U.2.length : Int)] I ⟨A0, J⟩ (mJ (Cj 69 I fun cf => ?_))
 obtain ⟨ff, cg, ah⟩ := Ab h
 refine Cg cg (K6 1 5 65 66 69 70) J6 (fun (G : Nat) (ai : Unit) s ob => s = [(71, .V (G : Int))] ∧ ob = [O0 b [Ac a], O4 E [f.l.map (cL 1 rS)]]) ⟨I, I⟩ ⟨I, J⟩ (pk [0, 1]) ?_ ?_
 rintro G ci ai fg s ob cj aj ⟨rfl, rfl⟩ h ck
 have cl := C9 aj
 refine Ai I (Aa fun fh cm => Cd I cl (mI ?_))
 subst cm
 refine mK (mJ (Bg [.x 0 G (rS ci)] I ⟨⟨I, Ae cj⟩, J⟩ (mK ?_)))
 obtain ⟨fi, cn, h⟩ := Ab h
 refine mE (Af 1 I (mR (aZ _ _ cn) (Af 1 I (mF (Aq h I ?_ ?_)))))
 intro co h
 refine Ai I ?_
 obtain rfl := ck _ (oi h).symm
 have h := ah
 have h := C2 h
 obtain rfl := b9 _ (oi h).symm
 have h := ae
 have h := C2 h
 refine mM g0 ?_
 cases io h
 exact mL pr
 intro co h
 refine mI (mE (Al 2 [.k 0 (G + 1 : Nat)] I ⟨Bf aj cf, J⟩ ?_))
 cases io h
 exact mF ⟨_, _, _, I, I2, J7, pk [0, 1]⟩
 rintro ai s ob ⟨rfl, rfl⟩ he
 subst he
 have h := Cz ah
 have cp := Da U.2.length
 exact Ai I (Aa fun fj fk => Ce I cp (mN (lg ⟨(), h, I2⟩ [0, 1])))
 rintro s ob ⟨ag, h, rfl, rfl⟩
 unfold Eg.J22 at h
 refine mE (Al 2 [.k 0 (F + 1 : Nat)] I ⟨Bf b8 b5, J⟩ ?_)
 cases io h
 exact mF ⟨_, _, _, I, I2, J4, pk [0, 1]⟩
 rintro af s ob ⟨rfl, rfl⟩ he
 subst he
 have h := Cz ae
 have cq : decide (((4 : Nat) : Int) < 4) = false := by simp
 exact Ai I (Aa fun fl fm => Ce I cq (mN (lg ⟨(), h, I2⟩ [0, 1])))
 rintro s ob ⟨ad, h, rfl, rfl⟩
 unfold Eg.J2 at h
 refine Ah (fun s ob => ∃ (ak : Unit), Eg.J3 a ak = some r ∧ s = [] ∧ ob = [O0 b [Ac a]]) [(1, _)] J1 ?_ ?_
 refine Aa fun fn cr => mE (mQ (Cc 1 0 0 I I I I I (y := .agg (f.l.map (cL 1 rS))) (Kf I (by simp [Arr.h, Bj]))) I (Af 1 I (mF ?_)))
 subst cr
 refine mJ ?_
 have ct : (4 : Nat) ≤ 9223372036854775806 := by decide
 obtain ⟨fo, cu, al⟩ := Ab h
 refine Gf cu (K2 1 80) J2 (fun (H : Nat) (am : Unit) s ob => s = [(81, .V (H : Int))] ∧ ob = [O0 b [Ac a]]) ⟨I, I⟩ ⟨I, J⟩ (pk [0]) ?_ ?_
 rintro H am fp s ob cv ⟨rfl, rfl⟩ h cw
 have cx : decide ((H : Int) < 4) = true := decide_eq_true (by omega)
 refine Ai I (Aa fun fq cy => Cd I cx (mI ?_))
 subst cy
 refine mK (mJ (mK ?_))
 obtain ⟨cz, ⟨c0, c1⟩, h⟩ := Bb h
 refine mE (B0 (Gv (m := cz.1) I I I I I I I c0 c1 (hlen := Arr.h _)) I (Af 1 I (mF (mK ?_))))
 obtain ⟨fr, c2, h⟩ := Ab h
 refine mE (Af 1 I (mR (bU _ _ c2) (mF (Aq h I ?_ ?_))))
 intro c3 h
 refine Ai I ?_
 obtain rfl := cw _ (oi h).symm
 have h := al
 have h := C2 h
 refine mM g0 ?_
 cases io h
 exact mL pr
 intro c3 h
 refine mI (mE (Al 2 [.k 0 (H + 1 : Nat)] I ⟨Bf cv ct, J⟩ ?_))
 cases io h
 exact mF ⟨_, _, _, I, I2, J3, pk [0]⟩
 rintro am s ob ⟨rfl, rfl⟩ he
 subst he
 have h := Cz al
 have c4 : decide (((4 : Nat) : Int) < 4) = false := by simp
 exact Ai I (Aa fun fs ft => Ce I c4 (mN (lg ⟨(), h, I2⟩ [0])))
 rintro s ob ⟨ak, h, rfl, rfl⟩
 unfold Eg.J3 at h
 refine Ah (fun s ob => ∃ (an : Unit), Eg.J4 a an = some r ∧ s = [] ∧ ob = [O0 b [Ac a]]) [(1, _)] J1 ?_ ?_
 refine Bg [.o 1 0, .l 2 (a.Stations.length : Int)] I ⟨A0, I, J⟩ (mJ (Cj 88 I fun c5 => ?_))
 obtain ⟨fu, c6, ao⟩ := Ab h
 refine Cg c6 (K2 1 89) J2 (fun (K : Nat) (ap : Unit) s ob => s = [(90, .V (K : Int))] ∧ ob = [O0 b [Ac a]]) ⟨I, I⟩ ⟨I, J⟩ (pk [0]) ?_ ?_
 rintro K c7 ap c8 s ob c9 aq ⟨rfl, rfl⟩ h da
 unfold Eg.B17 at h
 have db := C9 aq
 refine Ai I (Aa fun fv dc => Cd I db (mI ?_))
 subst dc
 refine Ah (fun s ob => ∃ (ar : Unit), Eg.J18 ar = some c8 ∧ s = [] ∧ ob = [O0 b [Ac a]]) (K3 1 89 90) J3 ?_ ?_
 refine mJ (Ai I (Ai I (mJ ?_)))
 obtain ⟨fw, dd, au⟩ := Ab h
 refine Bs dd (K4 1 12 89 90) J4 (fun (av : Int) s ob => s = [(13, .V av)] ∧ ob = [O0 b [Ac a]]) ⟨I, I⟩ ⟨I, J⟩ (pk [0]) ?_
 rintro av fx s ob ⟨rfl, rfl⟩ h aw
 refine Aa fun fy de => Ai I (Aq h I ?_ ?_)
 intro df h
 refine mI ?_
 subst de
 refine mK (mJ (mK ?_))
 obtain ⟨ax, ⟨dg, dh⟩, h⟩ := Bb h
 refine Ue (pd 13 0 []) [0] [_] [.o 1 0, .x 3 K (Bl c7), .o 7 0, .x 9 ax.1 (Bl ax.2)] I I ⟨⟨dg, Ae dh⟩, I, ⟨I, Ae c9⟩, I, J⟩ (Aq h I ?_ ?_)
 intro di h
 refine Ai I ?_
 obtain rfl := aw _ (oi h).symm
 have h := au
 have h := Cz h
 obtain rfl := da _ (oi h).symm
 have h := ao
 have h := C2 h
 refine mM g0 ?_
 cases io h
 exact mL pr
 intro di h
 refine mI (mE (Af 3 I ?_))
 cases io h
 exact mF ⟨_, _, _, I, I2, J5, pk [0]⟩
 intro df h
 obtain rfl := aw _ (oi h).symm
 have h := au
 have h := C2 h
 exact mN (lg ⟨(), h, I2⟩ [0])
 rintro s ob ⟨ar, h, rfl, rfl⟩
 unfold Eg.J18 at h
 refine mE (Al 2 [.k 0 (K + 1 : Nat)] I ⟨Bf aq c5, J⟩ ?_)
 cases io h
 exact mF ⟨_, _, _, I, I2, J3, pk [0]⟩
 rintro ap s ob ⟨rfl, rfl⟩ he
 subst he
 have h := Cz ao
 have dj := Da a.Stations.length
 exact Ai I (Aa fun fz f0 => Ce I dj (mN (lg ⟨(), h, I2⟩ [0])))
 rintro s ob ⟨an, h, rfl, rfl⟩
 unfold Eg.J4 at h
 refine Bg [.o 1 0, .l 2 (a.Nodes.length : Int)] I ⟨A0, I, J⟩ (Ah (fun s ob => ∃ (ay : Unit), Eg.J5 a ay = some r ∧ s = [] ∧ ob = [O0 b [Ac a]]) (K2 1 14) J2 ?_ ?_)
 refine Bg [.o 1 0, .l 2 (a.Segments.length : Int)] I ⟨A0, I, J⟩ (mJ (Cj 117 I fun dk => ?_))
 obtain ⟨f1, dl, az⟩ := Ab h
 refine Cg dl (K4 1 14 117 118) J4 (fun (M : Nat) (a0 : Unit) s ob => s = [(119, .V (M : Int))] ∧ ob = [O0 b [Ac a]]) ⟨I, I⟩ ⟨I, J⟩ (pk [0]) ?_ ?_
 rintro M i a0 f2 s ob dm a1 ⟨rfl, rfl⟩ h dn
 unfold Eg.B16 at h
 have dp := C9 a1
 refine Ai I (Aa fun f3 dq => Cd I dp (mI ?_))
 subst dq
 refine mK (mJ (Aa fun f4 dr => mE (Al 2 [.x 0 M (Ap i)] I ⟨⟨I, Ae dm⟩, J⟩ (mG [] I (Br W3 7 fun f5 => mG [1] I (Ba 1 0 0 [Ap i] I (mF ?_)))))))
 subst dr
 refine Ec 134 ((!(Ch i.From 0 (wr ((a.Nodes.length : Int) - 1)))) || (!(Ch i.To 0 (wr ((a.Nodes.length : Int) - 1))))) ?_ ?_
 refine mE (Al 3 [.o 1 1] I J1 (mR (Cy i.From 0 (wr ((a.Nodes.length : Int) - 1)) _ I) (Af 2 I ?_)))
 rcases bt ((!(Ch i.From 0 (wr ((a.Nodes.length : Int) - 1))))) with u | u
 exact Ad 128 I u (Af 6 I (mF (jf (by simp only [u, bz]) I I I2)))
 exact Ad 128 I u (Al 3 [.o 1 1] I J1 (Bc I I I (mR (Cy i.To 0 (wr ((a.Nodes.length : Int) - 1)) _ I) (Af 2 I (mF (jf (by simp only [u, bz]) I I I2))))))
 refine Aq h I ?_ ?_
 intro ds h
 refine Ai I ?_
 obtain rfl := dn _ (oi h).symm
 have h := az
 have h := C2 h
 refine mM g0 ?_
 cases io h
 exact mL pr
 intro ds h
 refine mI (mE (Al 2 [.k 0 (M + 1 : Nat)] I ⟨Bf a1 dk, J⟩ ?_))
 cases io h
 exact mF ⟨_, _, _, I, I2, J5, pk [0]⟩
 rintro a0 s ob ⟨rfl, rfl⟩ he
 subst he
 have h := Cz az
 have du := Da a.Segments.length
 exact Ai I (Aa fun f6 f7 => Ce I du (mN (lg ⟨(), h, I2⟩ [0])))
 rintro s ob ⟨ay, h, rfl, rfl⟩
 unfold Eg.J5 at h
 refine Ah (fun s ob => ∃ (a2 : Unit), Eg.J6 a a2 = some r ∧ s = [] ∧ ob = [O0 b [Ac a]]) (K2 1 14) J2 ?_ ?_
 refine Bg [.o 1 0, .l 2 (a.Ports.length : Int)] I ⟨A0, I, J⟩ (mJ (Cj 137 I fun dv => ?_))
 obtain ⟨f8, dw, a3⟩ := Ab h
 refine Cg dw (K4 1 14 137 138) J4 (fun (O : Nat) (a4 : Unit) s ob => s = [(139, .V (O : Int))] ∧ ob = [O0 b [Ac a]]) ⟨I, I⟩ ⟨I, J⟩ (pk [0]) ?_ ?_
 rintro O W a4 f9 s ob dx a5 ⟨rfl, rfl⟩ h dy
 have dz := C9 a5
 refine Ai I (Aa fun ga d0 => Cd I dz (mI ?_))
 subst d0
 refine mK (mJ (mK (mE (Al 2 [.x 0 O (Bp W)] I ⟨⟨I, Ae dx⟩, J⟩ (mG [] I (Br W5 3 fun gb => mG [1] I (Ba 1 0 0 [Bp W] I (mF (mK (mE (Al 3 [.o 1 1] I J1 (mR (Cy W.Node 0 (wr ((a.Nodes.length : Int) - 1)) _ I) (Af 1 I ?_)))))))))))))
 refine mF (Aq h I ?_ ?_)
 intro d1 h
 refine Ai I ?_
 obtain rfl := dy _ (oi h).symm
 have h := a3
 have h := C2 h
 refine mM g0 ?_
 cases io h
 exact mL pr
 intro d1 h
 refine mI (mE (Al 2 [.k 0 (O + 1 : Nat)] I ⟨Bf a5 dv, J⟩ ?_))
 cases io h
 exact mF ⟨_, _, _, I, I2, J5, pk [0]⟩
 rintro a4 s ob ⟨rfl, rfl⟩ he
 subst he
 have h := Cz a3
 have d2 := Da a.Ports.length
 exact Ai I (Aa fun gc gd => Ce I d2 (mN (lg ⟨(), h, I2⟩ [0])))
 rintro s ob ⟨a2, h, rfl, rfl⟩
 unfold Eg.J6 at h
 refine Ah (fun s ob => ∃ (a6 : Unit), Eg.J7 a a6 = some r ∧ s = [] ∧ ob = [O0 b [Ac a]]) [(1, _)] J1 ?_ ?_
 refine Bg [.o 1 0, .l 2 (a.Stations.length : Int)] I ⟨A0, I, J⟩ (mJ (Cj 150 I fun d3 => ?_))
 obtain ⟨ge, d4, a7⟩ := Ab h
 refine Cg d4 (K4 1 14 150 151) J4 (fun (P : Nat) (a8 : Unit) s ob => s = [(152, .V (P : Int))] ∧ ob = [O0 b [Ac a]]) ⟨I, I⟩ ⟨I, J⟩ (pk [0]) ?_ ?_
 rintro P X a8 gf s ob d5 a9 ⟨rfl, rfl⟩ h d6
 have d7 := C9 a9
 refine Ai I (Aa fun gg d8 => Cd I d7 (mI ?_))
 subst d8
 refine mK (mJ (mK (mE (Al 2 [.x 0 P (Bl X)] I ⟨⟨I, Ae d5⟩, J⟩ (mG [] I (Br W6 5 fun gh => mG [1] I (Ba 1 0 0 [Bl X] I (mF (mK (mE (Al 3 [.o 1 1] I J1 (mR (Cy X.Node 0 (wr ((a.Nodes.length : Int) - 1)) _ I) (Af 1 I ?_)))))))))))))
 refine mF (Aq h I ?_ ?_)
 intro d9 h
 refine Ai I ?_
 obtain rfl := d6 _ (oi h).symm
 have h := a7
 have h := C2 h
 refine mM g0 ?_
 cases io h
 exact mL pr
 intro d9 h
 refine mI (mE (Al 2 [.k 0 (P + 1 : Nat)] I ⟨Bf a9 d3, J⟩ ?_))
 cases io h
 exact mF ⟨_, _, _, I, I2, J5, pk [0]⟩
 rintro a8 s ob ⟨rfl, rfl⟩ he
 subst he
 have h := Cz a7
 have ea := Da a.Stations.length
 exact Ai I (Aa fun gi gj => Ce I ea (mN (lg ⟨(), h, I2⟩ [0])))
 rintro s ob ⟨a6, h, rfl, rfl⟩
 unfold Eg.J7 at h
 refine Ah (fun s ob => ∃ (ba : Unit), Eg.J8 a ba = some r ∧ s = [] ∧ ob = [O0 b [Ac a]]) [(1, _)] J1 ?_ ?_
 refine Bg [.o 1 0, .l 2 (a.Segments.length : Int)] I ⟨A0, I, J⟩ (mJ (Cj 163 I fun eb => ?_))
 obtain ⟨gk, ec, bb⟩ := Ab h
 refine Cg ec (K3 1 163 164) J3 (fun (Q : Nat) (bc : Unit) s ob => s = [(165, .V (Q : Int))] ∧ ob = [O0 b [Ac a]]) ⟨I, I⟩ ⟨I, J⟩ (pk [0]) ?_ ?_
 rintro Q bd bc gl s ob ed be ⟨rfl, rfl⟩ h ee
 have ef := C9 be
 refine Ai I (Aa fun gm eg => Cd I ef (mI ?_))
 subst eg
 refine mK (mJ (mK (mE (Al 2 [.x 0 Q (Ap bd)] I ⟨⟨I, Ae ed⟩, J⟩ (mG [] I (Br W3 7 fun gn => mG [1] I (Ba 1 0 0 [Ap bd] I (mF (mK ?_)))))))))
 obtain ⟨go, eh, h⟩ := Ab h
 refine mE (Al 1 [.o 0 1] I J1 (mR (aW _ _ eh) (Af 1 I (mF (Aq h I ?_ ?_)))))
 intro ei h
 refine Ai I ?_
 obtain rfl := ee _ (oi h).symm
 have h := bb
 have h := C2 h
 refine mM g0 ?_
 cases io h
 exact mL pr
 intro ei h
 refine mI (mE (Al 2 [.k 0 (Q + 1 : Nat)] I ⟨Bf be eb, J⟩ ?_))
 cases io h
 exact mF ⟨_, _, _, I, I2, J4, pk [0]⟩
 rintro bc s ob ⟨rfl, rfl⟩ he
 subst he
 have h := Cz bb
 have ej := Da a.Segments.length
 exact Ai I (Aa fun gp gq => Ce I ej (mN (lg ⟨(), h, I2⟩ [0])))
 rintro s ob ⟨ba, h, rfl, rfl⟩
 unfold Eg.J8 at h
 refine Ah (fun s ob => ∃ (bf : Unit), Eg.J9 a bf = some r ∧ s = [] ∧ ob = [O0 b [Ac a]]) [(1, _)] J1 ?_ ?_
 refine Bg [.o 1 0, .l 2 (a.Ports.length : Int)] I ⟨A0, I, J⟩ (mJ (Cj 174 I fun ek => ?_))
 obtain ⟨gr, el, bg⟩ := Ab h
 refine Cg el (K3 1 174 175) J3 (fun (R : Nat) (bh : Unit) s ob => s = [(176, .V (R : Int))] ∧ ob = [O0 b [Ac a]]) ⟨I, I⟩ ⟨I, J⟩ (pk [0]) ?_ ?_
 rintro R Y bh gs s ob em bi ⟨rfl, rfl⟩ h en
 have eo := C9 bi
 refine Ai I (Aa fun gu ep => Cd I eo (mI ?_))
 subst ep
 refine mK (mJ (mK (mE (Al 2 [.x 0 R (Bp Y)] I ⟨⟨I, Ae em⟩, J⟩ (mG [] I (Br W5 3 fun gv => mG [1] I (Ba 1 0 0 [Bp Y] I (mF (mK (mE (Al 2 [.o 1 1] I J1 (mR (Cy Y.Pressure 0 100000000 _ I) (Af 1 I ?_)))))))))))))
 refine mF (Aq h I ?_ ?_)
 intro eq h
 refine Ai I ?_
 obtain rfl := en _ (oi h).symm
 have h := bg
 have h := C2 h
 refine mM g0 ?_
 cases io h
 exact mL pr
 intro eq h
 refine mI (mE (Al 2 [.k 0 (R + 1 : Nat)] I ⟨Bf bi ek, J⟩ ?_))
 cases io h
 exact mF ⟨_, _, _, I, I2, J4, pk [0]⟩
 rintro bh s ob ⟨rfl, rfl⟩ he
 subst he
 have h := Cz bg
 have er := Da a.Ports.length
 exact Ai I (Aa fun gw gx => Ce I er (mN (lg ⟨(), h, I2⟩ [0])))
 rintro s ob ⟨bf, h, rfl, rfl⟩
 unfold Eg.J9 at h
 refine Ah (fun s ob => ∃ (bj : Unit), Eg.J10 a bj = some r ∧ s = [] ∧ ob = [O0 b [Ac a]]) [(1, _)] J1 ?_ ?_
 refine Bg [.o 1 0, .l 2 (a.Stations.length : Int)] I ⟨A0, I, J⟩ (mJ (Cj 186 I fun es => ?_))
 obtain ⟨gy, et, bk⟩ := Ab h
 refine Cg et (K3 1 186 187) J3 (fun (S : Nat) (bl : Unit) s ob => s = [(188, .V (S : Int))] ∧ ob = [O0 b [Ac a]]) ⟨I, I⟩ ⟨I, J⟩ (pk [0]) ?_ ?_
 rintro S e bl gz s ob eu bm ⟨rfl, rfl⟩ h ev
 unfold Eg.B11 at h
 have ew := C9 bm
 refine Ai I (Aa fun g1 ex => Cd I ew (mI ?_))
 subst ex
 refine mK (mJ (Aa fun g2 ey => mE (Al 2 [.x 0 S (Bl e)] I ⟨⟨I, Ae eu⟩, J⟩ (mG [] I (Br W6 5 fun g3 => mG [1] I (Ba 1 0 0 [Bl e] I (mF ?_)))))))
 subst ey
 refine Ec 207 ((!(Ch e.Head 0 100000000)) || ((!(Ch e.Fall 0 100000)) || (!(Ch e.Suction 0 100000000)))) ?_ ?_
 refine mE (Al 2 [.o 1 1] I J1 (mR (Cy e.Head 0 100000000 _ I) (Af 2 I ?_)))
 rcases bt ((!(Ch e.Head 0 100000000))) with n | n
 exact Ad 196 I n (Af 11 I (mF (jf (by simp only [n, bz]) I I I2)))
 refine Ad 196 I n (Al 2 [.o 1 1] I J1 (Bc I I I (mR (Cy e.Fall 0 100000 _ I) (Af 3 I ?_))))
 rcases bt ((!(Ch e.Fall 0 100000))) with w | w
 exact Ad 202 I w (Af 5 I (mF (jf (by simp only [n, w, bz]) I I I2)))
 exact Ad 202 I w (Al 2 [.o 1 1] I J1 (Bc I I I (mR (Cy e.Suction 0 100000000 _ I) (Af 2 I (mF (jf (by simp only [n, w, bz]) I I I2))))))
 refine Aq h I ?_ ?_
 intro ez h
 refine Ai I ?_
 obtain rfl := ev _ (oi h).symm
 have h := bk
 have h := C2 h
 refine mM g0 ?_
 cases io h
 exact mL pr
 intro ez h
 refine mI (mE (Al 2 [.k 0 (S + 1 : Nat)] I ⟨Bf bm es, J⟩ ?_))
 cases io h
 exact mF ⟨_, _, _, I, I2, J4, pk [0]⟩
 rintro bl s ob ⟨rfl, rfl⟩ he
 subst he
 have h := Cz bk
 have e0 := Da a.Stations.length
 exact Ai I (Aa fun g4 g5 => Ce I e0 (mN (lg ⟨(), h, I2⟩ [0])))
 rintro s ob ⟨bj, h, rfl, rfl⟩
 unfold Eg.J10 at h
 refine mK (Ec 218 ((!(Ch a.Vapour (-100000) 100000000)) || (!(Ch a.Settle 0 100))) ?_ ?_)
 refine mE (Al 2 [.o 1 0] I J1 (mR (Cy a.Vapour (-100000) 100000000 _ I) (Af 2 I ?_)))
 rcases bt ((!(Ch a.Vapour (-100000) 100000000))) with A | A
 exact Ad 213 I A (Af 5 I (mF (jf (by simp only [A, bz]) I I I2)))
 exact Ad 213 I A (Al 2 [.o 1 0] I J1 (Bc I I I (mR (Cy a.Settle 0 100 _ I) (Af 2 I (mF (jf (by simp only [A, bz]) I I I2))))))
 refine Aq h I ?_ ?_
 intro e1 h
 refine Ai I (mM g0 ?_)
 cases io h
 exact mL pr
 intro e1 h
 refine mI (Ai I (mM g0 ?_))
 cases io h
 exact mL pr
theorem Sh (a : Sg) (b : Int) (r : Int × Int) (h : Jg a b = r) : ACalls Ak 162 [.agg (Ap a), .V b] [] (RV (.tup [.V r.1, .V r.2])) := by
 refine Ag Tryz.func162 I I I fun C hC => ?_
 refine Aa fun e c => mE (mG [] I (Bz (Ap a) 7 fun f => Af 2 I (mF ?_)))
 subst c
 refine mK (Ai I (Aq h I ?_ ?_))
 intro d h
 refine Js (pd 6 0 []) [0] [_] [.o 1 0, .o 3 0] I I J2 (mM g0 ?_)
 obtain rfl := h
 exact mL ⟨.inr I, [_, _], [], J2, Cm, I2⟩
 intro d h
 refine mI (Js (pd 6 0 []) [0] [_] [.o 1 0, .o 3 0] I I J2 (mM g0 ?_))
 obtain rfl := h
 exact mL ⟨.inr I, [_, _], [], J2, Cm, I2⟩
theorem bF (d : Nw) (e : Plan) (n : Int) (r : Int × Int) (h : Ox d e n = some r) : ACalls Ak 105 [.agg (Ac d), .agg (Au e), .V n] [] (RV (.tup [.V r.1, .V r.2])) := by
 refine Ag Tryz.func105 I I I fun C hC => ?_
 unfold Ox at h
 refine Aa fun y1 Q => mE (mG [] I (Bz (Ac d) 6 fun p => mG [] I (Bz (Au e) 3 fun g => Af 2 I (mF ?_))))
 subst Q
 refine Ai I (Ah (fun s ob => ∃ (t : Int × Int), Ox.J1 d e n t = some r ∧ s = [(8, .V t.1), (9, .V t.2)] ∧ ob = [O0 p [Ac d], O1 g [Au e]]) (K3 2 3 4) J3 ?_ ?_)
 refine Bg [.o 1 0, .l 2 (d.Segments.length : Int)] I ⟨A0, I, J⟩ (mJ (Cj 17 I fun R => ?_))
 obtain ⟨ar, S, U⟩ := Ab h
 refine Dc S (K5 2 3 4 17 18) J5 (fun (u : Nat) (b : Int × Int) s ob => s = [(19, .V (u : Int)), (8, .V b.1), (9, .V b.2)] ∧ ob = [O0 p [Ac d], O1 g [Au e]]) ⟨I, I⟩ ⟨I, I, I, J⟩ (pk [0, 1]) ?_ ?_
 rintro u w b G s ob W H ⟨rfl, rfl⟩ h
 unfold Ox.B5 at h
 have X := C9 H
 refine Ai I (Aa fun au Y => Cd I X (mI ?_))
 subst Y
 refine Ah (fun s ob => ∃ (y : Int × Int), Ox.J6 y = some G ∧ s = [(8, .V y.1), (9, .V y.2)] ∧ ob = [O0 p [Ac d], O1 g [Au e]]) (K6 2 3 4 17 18 19) J6 ?_ ?_
 refine mJ (Aa fun av Z => mE (Al 3 [.x 1 u (Ap w)] I ⟨⟨I, Ae W⟩, J⟩ (mG [] I (Br W3 7 fun aw => Af 1 I (mG [2] I (Ba 2 0 0 [Ap w] I (mF ?_)))))))
 subst Z
 refine Aa fun ax aa => mK ?_
 obtain ⟨a, ⟨A, B⟩, h⟩ := Bb h
 refine Hh [.o 1 1, .x 3 a.1 (rI a.2)] I ⟨⟨A, Ae B⟩, I, J⟩ (Aq h I ?_ ?_)
 intro ab h
 exact mN (lg ⟨(b.1, b.2), h, I2⟩ [0, 1])
 intro ab h
 refine mI ?_
 subst aa
 refine Aa fun ay ac => Bm (pd 12 0 [6]) [2, 1] [_, _] I (Bo 6 [.o 0 0, .o 2 1, .x 4 a.1 (rI a.2)] I ⟨⟨A, Ae B⟩, I, I, J⟩ (nC I (Sh w a.2 _ I) (A4 5 I (An (mF ?_)))))
 subst ac
 refine Ah (fun s ob => ∃ (j : Int), Ox.J7 n w b a j = some G ∧ s = [(9, .V j)] ∧ ob = [O0 p [Ac d], O1 g [Au e]]) (K9 2 3 4 8 10 13 17 18 19) J9 ?_ ?_
 refine Ai I (Aq h I ?_ ?_)
 intro ad h
 exact mE (Al 6 [.o 2 1, .x 4 a.1 (rI a.2)] I ⟨⟨A, Ae B⟩, I, J⟩ (mR (R3 a.2 _ I) (Af 2 I (mF (lg ⟨wr (b.2 + (Ht a.2)), h, I2⟩ [0, 1])))))
 intro ad h
 exact mI (lg ⟨b.2, h, I2⟩ [0, 1])
 rintro s ob ⟨j, h, rfl, rfl⟩
 refine Ai I (Aq h I ?_ ?_)
 intro ae h
 exact mE (Al 6 [.o 2 1, .x 4 a.1 (rI a.2)] I ⟨⟨A, Ae B⟩, I, J⟩ (mR (R3 a.2 _ I) (Af 2 I (mF (lg ⟨(wr (b.1 + (Ht a.2)), j), h, I2⟩ [0, 1])))))
 intro ae h
 exact mI (lg ⟨(b.1, j), h, I2⟩ [0, 1])
 rintro s ob ⟨y, h, rfl, rfl⟩
 unfold Ox.J6 at h
 refine mE (Al 2 [.k 0 (u + 1 : Nat)] I ⟨Bf H R, J⟩ ?_)
 cases io h
 exact mF (lg I2 [0, 1])
 rintro b s ob ⟨rfl, rfl⟩ he
 subst he
 have h := U
 have af := Da d.Segments.length
 exact Ai I (Aa fun az a0 => Ce I af (mN (lg ⟨(b.1, b.2), h, I2⟩ [0, 1])))
 rintro s ob ⟨t, h, rfl, rfl⟩
 unfold Ox.J1 at h
 refine Ah (fun s ob => ∃ (D : Int × Int), Ox.J2 D = some r ∧ s = [(8, .V D.1), (9, .V D.2)] ∧ ob = []) [] J ?_ ?_
 refine Bg [.o 1 0, .l 2 (d.Ports.length : Int)] I ⟨A0, I, J⟩ (mJ (Cj 64 I fun ag => ?_))
 obtain ⟨a1, ah, ai⟩ := Ab h
 refine Dc ah (K4 2 4 64 65) J4 (fun (E : Nat) (f : Int × Int) s ob => s = [(66, .V (E : Int)), (8, .V f.1), (9, .V f.2)] ∧ ob = [O1 g [Au e]]) ⟨I, I⟩ ⟨I, I, I, J⟩ (pk [1]) ?_ ?_
 rintro E K f aj s ob ak M ⟨rfl, rfl⟩ h
 unfold Ox.B3 at h
 have al := C9 M
 refine Ai I (Aa fun a2 am => Cd I al (mI ?_))
 subst am
 refine Ah (fun s ob => ∃ (F : Int × Int), Ox.J4 F = some aj ∧ s = [(8, .V F.1), (9, .V F.2)] ∧ ob = [O1 g [Au e]]) (K5 2 4 64 65 66) J5 ?_ ?_
 refine mJ (Aa fun a3 an => mE (Al 3 [.x 1 E (Bp K)] I ⟨⟨I, Ae ak⟩, J⟩ (mG [] I (Br W5 3 fun a4 => Af 1 I (mG [1] I (Ba 1 0 0 [Bp K] I (mF ?_)))))))
 subst an
 refine Bg [.o 1 1] I J1 (Aq h I ?_ ?_)
 intro ao h
 obtain ⟨i, ⟨O, P⟩, h⟩ := Bb h
 exact Ue (pd 19 0 []) [0] [_] [.o 2 0, .x 4 i.1 (rI i.2), .o 10 0, .x 12 i.1 (rI i.2)] I I ⟨⟨O, Ae P⟩, I, ⟨O, Ae P⟩, I, J⟩ (lg ⟨(wr (f.1 + (max 0 i.2)), wr (f.2 + (max 0 (wr (0 - i.2))))), h, I2⟩ [0])
 intro ao h
 exact mI (lg ⟨(f.1, f.2), h, I2⟩ [0])
 rintro s ob ⟨F, h, rfl, rfl⟩
 unfold Ox.J4 at h
 refine mE (Al 2 [.k 0 (E + 1 : Nat)] I ⟨Bf M ag, J⟩ ?_)
 cases io h
 exact mF (lg I2 [0])
 rintro f s ob ⟨rfl, rfl⟩ he
 subst he
 have h := ai
 have ap := Da d.Ports.length
 exact Ai I (Aa fun a5 a6 => Ce I ap (mN (lg ⟨(f.1, f.2), h, I2⟩ [])))
 rintro s ob ⟨D, h, rfl, rfl⟩
 unfold Ox.J2 at h
 refine Ai I ?_
 cases io h
 exact mL ⟨.inr I, [_, _], [], J2, Cm, I2⟩
theorem bT (b : Nw) (g : Plan) (r : Li) (h : L5 b g = some r) : ACalls Ak 106 [.agg (Ac b), .agg (Au g)] [] (fun x new => ∃ (R : Value), x = .v R ∧ new = [U0 R r]) := by
 refine Ag Tryz.func106 I I I fun C hC => ?_
 refine Aa fun y1 ad => mE (mG [] I (Bz (Ac b) 6 fun i => mG [] I (Bz (Au g) 3 fun j => Af 1 I (mF ?_))))
 subst ad
 refine Ai I (Aa fun y5 ae => ?_)
 obtain ⟨l6, ⟨m8, af, ag, ah⟩, h⟩ := Mr h
 refine mE (Al 3 [.o 1 0, .l 2 (b.Nodes.length : Int)] I ⟨A0, I, J⟩ (mG [] I (Ft (sz := 1) I I I I I I I I I I af ag (Gn (f := rB) ah I) dS fun n => Af 1 I (mF ?_))))
 subst ae
 refine mJ (mM (A6 3 1) ?_)
 obtain ⟨bj, ai, aj⟩ := Ab h
 refine Bs ai (K3 2 3 6) J3 (fun (a : Li × (List Bool)) s ob => ∃ (e : Value), s = [(5, .v e)] ∧ ob = [O0 i [Ac b], O1 j [Au g], U1 n a.2, U0 e a.1]) ⟨nS, I2⟩ ⟨I, J⟩ (pk N4) ?_
 rintro a ak s ob ⟨e, rfl, rfl⟩ h al
 unfold L5.B1 at h
 refine mJ (Ai I (Ah (fun s ob => ∃ (G : Int), L5.J2 a G = some ak ∧ s = [(7, .V G)] ∧ ob = [O0 i [Ac b], O1 j [Au g], U1 n a.2, U0 e a.1]) (K4 2 3 5 6) J4 ?_ ?_))
 refine Bg [.o 1 0, .l 2 (b.Nodes.length : Int)] I ⟨A0, I, J⟩ (mJ (Cj 19 I fun am => ?_))
 obtain ⟨bk, an, ao⟩ := Ab h
 refine Dc an (K5 2 3 5 6 20) J5 (fun (u : Nat) (p : Int) s ob => s = [(21, .V (u : Int)), (7, .V p)] ∧ ob = [O0 i [Ac b], O1 j [Au g], U1 n a.2, U0 e a.1]) ⟨I, I⟩ ⟨I, I, J⟩ (pk N4) ?_ ?_
 rintro u bl p S s ob bm U ⟨rfl, rfl⟩ h
 unfold L5.B3 at h
 have aq := C9 U
 refine Ai I (Aa fun bn ar => Cd I aq (mI ?_))
 subst ar
 refine Ah (fun s ob => ∃ (O : Int), L5.J4 O = some S ∧ s = [(7, .V O)] ∧ ob = [O0 i [Ac b], O1 j [Au g], U1 n a.2, U0 e a.1]) (K6 2 3 5 6 20 21) J6 ?_ ?_
 refine mJ (Ai I (Aa fun bo au => ?_))
 obtain ⟨P, ⟨av, W⟩, h⟩ := Bb h
 refine mE (Af 2 I (mQ (Bh 2 (m := P.1) I I I I I I I av (Ae W)) I (mQ (Ay 2 P.1 0 I I I (Ae W) I (y := .v (.bool P.2)) I) I (Af 2 I (mF ?_)))))
 subst au
 refine Ah (fun s ob => ∃ (B : Bool), L5.J5 u p B = some S ∧ s = [(9, .v (.bool B))] ∧ ob = [O0 i [Ac b], O1 j [Au g], U1 n a.2, U0 e a.1]) (K8 2 3 5 6 7 8 20 21) J8 ?_ ?_
 refine Bg [.o 1 0, .l 2 (b.Segments.length : Int)] I ⟨A0, I, J⟩ (mJ (Cj 30 I fun aw => ?_))
 obtain ⟨bp, ax, ay⟩ := Ab h
 refine Dc ax (lJ 2 3 5 6 7 8 20 21 30 31) kR (fun (H : Nat) (w : Bool) s ob => s = [(32, .V (H : Int)), (9, .v (.bool w))] ∧ ob = [O0 i [Ac b], O1 j [Au g], U1 n a.2, U0 e a.1]) ⟨I, I⟩ ⟨I, I, J⟩ (pk N4) ?_ ?_
 rintro H K w az s ob a0 X ⟨rfl, rfl⟩ h
 unfold L5.B6 at h
 have a1 := C9 X
 refine Ai I (Aa fun bq a2 => Cd I a1 (mI ?_))
 subst a2
 refine Ah (fun s ob => ∃ (Q : Bool), L5.J7 Q = some az ∧ s = [(9, .v (.bool Q))] ∧ ob = [O0 i [Ac b], O1 j [Au g], U1 n a.2, U0 e a.1]) [(2, _), (3, _), (5, _), (6, _), (7, _), (8, _), (20, _), (21, _), (30, _), (31, _), (32, _)] lK ?_ ?_
 refine mJ (Aa fun br a3 => mE (Al 3 [.x 1 H (Ap K)] I ⟨⟨I, Ae a0⟩, J⟩ (mG [] I (Br W3 7 fun bs => Af 1 I (mG [4] I (Ba 4 0 0 [Ap K] I (mF ?_)))))))
 subst a3
 refine Aa fun bu a4 => ?_
 obtain ⟨A, ⟨Y, Z⟩, h⟩ := Bb h
 refine Hh [.o 1 1, .x 3 A.1 (rI A.2)] I ⟨⟨Y, Ae Z⟩, I, J⟩ ?_
 subst a4
 refine Aq h I ?_ ?_
 intro a5 h
 refine Aa fun bv a6 => Bm (pd 12 0 [6]) [4, 1] [_, _] I (Bo 6 [.o 0 0, .o 2 1, .x 4 A.1 (rI A.2)] I ⟨⟨Y, Ae Z⟩, I, I, J⟩ (nC I (Sh K A.2 _ I) (A4 5 I (An (mF ?_)))))
 subst a6
 refine mE (Af 2 I ?_)
 rcases bt (w) with D | D
 have h := Bv D h
 refine Ad 54 I D ?_
 rcases bt ((((Jg K A.2).2) != (u : Int))) with E | E
 have h := Bv E h
 exact Af 4 I (Ad 58 I E (Af 7 I (mF (lg ⟨true, h, I2⟩ N4))))
 have h := Bw E h
 obtain ⟨M, ⟨a7, aa⟩, h⟩ := Bb h
 exact Af 4 I (Ad 58 I E (Af 2 I (Bc I I I (mQ (Bh 2 (m := M.1) I I I I I I I a7 (Ae aa)) I (Bc I I I (mQ (Ay 2 M.1 0 I I I (Ae aa) I (y := .v (.bool M.2)) I) I (Af 3 I (mF (lg ⟨M.2, h, I2⟩ N4)))))))))
 have h := Bw D h
 exact Ad 54 I D (Af 4 I (Cw I I dS (Cw I I dS (Cw I I dS (Cw I I dS (Af 3 I (mF (lg ⟨false, h, I2⟩ N4))))))))
 intro a5 h
 exact mI (lg ⟨w, h, I2⟩ N4)
 rintro s ob ⟨Q, h, rfl, rfl⟩
 unfold L5.J7 at h
 refine mE (Al 2 [.k 0 (H + 1 : Nat)] I ⟨Bf X aw, J⟩ ?_)
 cases io h
 exact mF (lg I2 N4)
 rintro w s ob ⟨rfl, rfl⟩ he
 subst he
 have h := ay
 have a8 := Da b.Segments.length
 exact Ai I (Aa fun bw bx => Ce I a8 (mN (lg ⟨w, h, I2⟩ N4)))
 rintro s ob ⟨B, h, rfl, rfl⟩
 unfold L5.J5 at h
 refine Ec 70 (B && decide (p < 0)) ?_ ?_
 refine mE (Af 2 I ?_)
 rcases bt (B) with F | F
 exact Ad 67 I F (Af 3 I (mF (jf (by simp only [F, bz]) I I I2)))
 exact Ad 67 I F (Af 3 I (mF (jf (by simp only [F, bz]) I I I2)))
 refine Aq h I ?_ ?_
 intro a9 h
 exact We I (lg ⟨(u : Int), h, I2⟩ N4)
 intro a9 h
 exact mI (lg ⟨p, h, I2⟩ N4)
 rintro s ob ⟨O, h, rfl, rfl⟩
 unfold L5.J4 at h
 refine mE (Al 2 [.k 0 (u + 1 : Nat)] I ⟨Bf U am, J⟩ ?_)
 cases io h
 exact mF (lg I2 N4)
 rintro p s ob ⟨rfl, rfl⟩ he
 subst he
 have h := ao
 have ba := Da b.Nodes.length
 exact Ai I (Aa fun b0 b1 => Ce I ba (mN (lg ⟨p, h, I2⟩ N4)))
 rintro s ob ⟨G, h, rfl, rfl⟩
 refine mK (Ai I (Aq h I ?_ ?_))
 intro bb h
 refine Ai I ?_
 obtain rfl := al _ (oi h).symm
 have h := aj
 refine Dd [3] I ?_
 obtain rfl := oi h
 exact mL ⟨.inr I, [_], [U0 e a.1], J1, Dj I (Cm), ⟨e, I2⟩⟩
 intro bb h
 refine mI (mK ?_)
 obtain ⟨b4, bc, h⟩ := Ab h
 refine mE (Af 2 I (mG [] I (mO 1 (([G] : Li).map rI) (mG [3] I (mT 3 I bc fun bd => Af 1 I (mF ?_))))))
 obtain ⟨ab, ⟨be, ac⟩, h⟩ := Bb h
 refine mE (Af 2 I (mQ (Bh 2 (m := ab.1) I I I I I I I be (Ae ac)) I (mG [2] I (A5 2 ab.1 0 I I I (Ae ac) I I I I (As I) I (Ca (x := true) I) ?_))))
 cases io h
 exact mF ⟨_, _, _, I, ⟨bd, I2⟩, J4, pk N4⟩
theorem Mi (b : Nw) (a : Plan) (r : Int) (h : Hr b a = some r) : ACalls Ak 45 [.agg (Ac b), .agg (Au a)] [] (RV (.V r)) := by
 refine Ag Tryz.func45 I I I fun C hC => ?_
 refine Aa fun y1 Q => mE (mG [] I (Bz (Ac b) 6 fun d => mG [] I (Bz (Au a) 3 fun e => Af 1 I (mF ?_))))
 subst Q
 refine Aa fun y4 R => mK ?_
 obtain ⟨r5, S, h⟩ := Ab h
 refine mE (Al 1 [.o 0 0] I J1 (mR (Il _ _ S) (Af 1 I (mF (Ai I (Aq h I ?_ ?_))))))
 intro U h
 refine Ai I (mM g0 ?_)
 cases io h
 exact mL pr
 intro U h
 refine mI ?_
 subst R
 refine Aa fun y8 W => Ec 43 (((a.Rates.length : Int) != (b.Segments.length : Int)) || (((a.Ports.length : Int) != (b.Ports.length : Int)) || ((a.Pumps.length : Int) != (b.Stations.length : Int)))) ?_ ?_
 refine mE (Al 8 [.o 1 1, .l 2 (a.Rates.length : Int), .o 4 0, .l 5 (b.Segments.length : Int)] I ⟨A0, I, A0, I, J⟩ ?_)
 rcases bt (((a.Rates.length : Int) != (b.Segments.length : Int))) with f | f
 exact Ad 26 I f (Af 17 I (mF (jf (by simp only [f, bz]) I I I2)))
 refine Ad 26 I f (Al 9 [.o 1 1, .l 2 (a.Ports.length : Int), .o 4 0, .l 5 (b.Ports.length : Int)] I ⟨A0, I, A0, I, J⟩ ?_)
 rcases bt (((a.Ports.length : Int) != (b.Ports.length : Int))) with g | g
 exact Ad 35 I g (Af 8 I (mF (jf (by simp only [f, g, bz]) I I I2)))
 exact Ad 35 I g (Al 8 [.o 1 1, .l 2 (a.Pumps.length : Int), .o 4 0, .l 5 (b.Stations.length : Int)] I ⟨A0, I, A0, I, J⟩ (mF (jf (by simp only [f, g, bz]) I I I2)))
 refine Aq h I ?_ ?_
 intro X h
 refine Ai I (mM g0 ?_)
 cases io h
 exact mL pr
 intro X h
 refine mI ?_
 subst W
 refine Ah (fun s ob => ∃ (A : Unit), Hr.J1 b a A = some r ∧ s = [] ∧ ob = [O0 d [Ac b], O1 e [Au a]]) (K2 2 3) J2 ?_ ?_
 refine Bg [.o 1 1, .l 2 (a.Rates.length : Int)] I ⟨A0, I, J⟩ (mJ (Cj 45 I fun Y => ?_))
 obtain ⟨a7, Z, B⟩ := Ab h
 refine Cg Z (K4 2 3 45 46) J4 (fun (p : Nat) (D : Unit) s ob => s = [(47, .V (p : Int))] ∧ ob = [O0 d [Ac b], O1 e [Au a]]) ⟨I, I⟩ ⟨I, J⟩ (pk [0, 1]) ?_ ?_
 rintro p t D a8 s ob aa E ⟨rfl, rfl⟩ h ab
 have ac := C9 E
 refine Ai I (Aa fun a9 ad => Cd I ac (mI ?_))
 subst ad
 refine mK (mJ (Bg [.x 1 p (rI t)] I ⟨⟨I, Ae aa⟩, J⟩ (Aa fun ba ae => ?_)))
 obtain ⟨i, ⟨af, ag⟩, h⟩ := Bb h
 refine Hh [.o 1 0, .x 3 i.1 (Ap i.2)] I ⟨⟨af, Ae ag⟩, I, J⟩ ?_
 subst ae
 refine Ec 67 (decide (t < (wr (0 - (min 1000 i.2.Capacity)))) || decide (t > (min 1000 i.2.Capacity))) ?_ ?_
 refine mE (Af 5 I ?_)
 rcases bt (decide (t < (wr (0 - (min 1000 i.2.Capacity))))) with j | j
 exact Ad 63 I j (Af 4 I (mF (jf (by simp only [j, bz]) I I I2)))
 exact Ad 63 I j (Af 4 I (mF (jf (by simp only [j, bz]) I I I2)))
 refine Aq h I ?_ ?_
 intro ah h
 refine Ai I ?_
 obtain rfl := ab _ (oi h).symm
 have h := B
 have h := C2 h
 refine mM g0 ?_
 cases io h
 exact mL pr
 intro ah h
 refine mI (mE (Al 2 [.k 0 (p + 1 : Nat)] I ⟨Bf E Y, J⟩ ?_))
 cases io h
 exact mF ⟨_, _, _, I, I2, J5, pk [0, 1]⟩
 rintro D s ob ⟨rfl, rfl⟩ he
 subst he
 have h := Cz B
 have ai := Da a.Rates.length
 exact Ai I (Aa fun bb bc => Ce I ai (mN (lg ⟨(), h, I2⟩ [0, 1])))
 rintro s ob ⟨A, h, rfl, rfl⟩
 unfold Hr.J1 at h
 refine Ah (fun s ob => ∃ (F : Unit), Hr.J2 b a F = some r ∧ s = [] ∧ ob = [O0 d [Ac b], O1 e [Au a]]) (K2 2 3) J2 ?_ ?_
 refine Bg [.o 1 1, .l 2 (a.Ports.length : Int)] I ⟨A0, I, J⟩ (mJ (Cj 70 I fun aj => ?_))
 obtain ⟨bd, ak, G⟩ := Ab h
 refine Cg ak (K4 2 3 70 71) J4 (fun (u : Nat) (H : Unit) s ob => s = [(72, .V (u : Int))] ∧ ob = [O0 d [Ac b], O1 e [Au a]]) ⟨I, I⟩ ⟨I, J⟩ (pk [0, 1]) ?_ ?_
 rintro u w H be s ob al K ⟨rfl, rfl⟩ h am
 unfold Hr.B5 at h
 have an := C9 K
 refine Ai I (Aa fun bf ao => Cd I an (mI ?_))
 subst ao
 refine mK (mJ (Bg [.x 0 u (rI w)] I ⟨⟨I, Ae al⟩, J⟩ (Ec 81 (decide (w < (-1000)) || decide (w > 1000)) ?_ ?_)))
 refine mE (Af 3 I ?_)
 rcases bt (decide (w < (-1000))) with n | n
 exact Ad 78 I n (Af 3 I (mF (jf (by simp only [n, bz]) I I I2)))
 exact Ad 78 I n (Af 3 I (mF (jf (by simp only [n, bz]) I I I2)))
 refine Aq h I ?_ ?_
 intro ap h
 refine Ai I ?_
 obtain rfl := am _ (oi h).symm
 have h := G
 have h := C2 h
 refine mM g0 ?_
 cases io h
 exact mL pr
 intro ap h
 refine mI (mE (Al 2 [.k 0 (u + 1 : Nat)] I ⟨Bf K aj, J⟩ ?_))
 cases io h
 exact mF ⟨_, _, _, I, I2, J5, pk [0, 1]⟩
 rintro H s ob ⟨rfl, rfl⟩ he
 subst he
 have h := Cz G
 have aq := Da a.Ports.length
 exact Ai I (Aa fun bg bh => Ce I aq (mN (lg ⟨(), h, I2⟩ [0, 1])))
 rintro s ob ⟨F, h, rfl, rfl⟩
 unfold Hr.J2 at h
 refine Ah (fun s ob => ∃ (M : Unit), Hr.J3 b a M = some r ∧ s = [] ∧ ob = [O0 d [Ac b], O1 e [Au a]]) (K2 2 3) J2 ?_ ?_
 refine Bg [.o 1 0, .l 2 (b.Nodes.length : Int)] I ⟨A0, I, J⟩ (mJ (Cj 84 I fun ar => ?_))
 obtain ⟨bi, au, N⟩ := Ab h
 refine Cg au (K3 2 3 85) J3 (fun (y : Nat) (O : Unit) s ob => s = [(86, .V (y : Int))] ∧ ob = [O0 d [Ac b], O1 e [Au a]]) ⟨I, I⟩ ⟨I, J⟩ (pk [0, 1]) ?_ ?_
 rintro y bj O bk s ob bl P ⟨rfl, rfl⟩ h av
 have aw := C9 P
 refine Ai I (Aa fun bm ax => Cd I aw (mI ?_))
 subst ax
 refine mK (mJ (Ai I (mK ?_)))
 obtain ⟨bn, ay, h⟩ := Ab h
 refine mE (Al 3 [.o 0 0, .o 1 1] I J2 (mR (bF _ _ _ _ ay) (Af 5 I (mF (Ai I (Aq h I ?_ ?_))))))
 intro az h
 refine Ai I ?_
 obtain rfl := av _ (oi h).symm
 have h := N
 have h := C2 h
 refine mM g0 ?_
 cases io h
 exact mL pr
 intro az h
 refine mI (mE (Al 2 [.k 0 (y + 1 : Nat)] I ⟨Bf P ar, J⟩ ?_))
 cases io h
 exact mF ⟨_, _, _, I, I2, J4, pk [0, 1]⟩
 rintro O s ob ⟨rfl, rfl⟩ he
 subst he
 have h := Cz N
 have a0 := Da b.Nodes.length
 exact Ai I (Aa fun bo bp => Ce I a0 (mN (lg ⟨(), h, I2⟩ [0, 1])))
 rintro s ob ⟨M, h, rfl, rfl⟩
 refine mK (mK ?_)
 obtain ⟨bq, a1, h⟩ := Ab h
 refine Bm (.still 0 (.still 1 (sl 3 4 (.act 2 (.act 3 (.still 7 .nil)))))) [0, 1] [_, _] I (Bo 5 [.o 0 0, .o 1 1, .o 3 0, .l 4 (b.Nodes.length : Int)] I ⟨A0, I, I, I, J⟩ (mH [] I I I (Cb I I I (bT _ _ _ a1) dS ?_)))
 rintro _ _ ⟨br, rfl, rfl⟩
 refine mH [] I I I (Av (Cf 2 I I I I) dS (A4 1 I (An (mF (Aq h I ?_ ?_)))))
 intro a2 h
 refine Ai I (mM g0 ?_)
 cases io h
 exact mL pr
 intro a2 h
 refine mI (Ai I (mM g0 ?_))
 cases io h
 exact mL pr
theorem bP (c : Nw) (k : Li) (d : Int) (r : Hop × Bool) (h : Pb c k d = some r) : ACalls Ak 109 [.agg (Ac c), Q0 k, .V d] [] (RV (.tup [.agg (A9 r.1), .v (.bool r.2)])) := by
 refine Ag Tryz.func109 I I I fun C hC => ?_
 unfold Pb at h
 refine Aa fun X K => mE (mG [] I (Bz (Ac c) 6 fun B => mG [] I (Br [.V 0, .v (.bool false)] 2 fun w => Af 1 I (mF ?_))))
 subst K
 refine Ah (fun s ob => ∃ (D : Unit), Pb.J1 D = some r ∧ s = [] ∧ ob = [.arr w 53 2 1 [[.V 0, .v (.bool false)]]]) [(6, _)] J1 ?_ ?_
 refine Ai I (mJ ?_)
 obtain ⟨Y, M, E⟩ := Ab h
 refine Bs M (K4 1 2 3 6) J4 (fun (e : Int) s ob => s = [(8, .V e)] ∧ ob = [O0 B [Ac c], .arr w 53 2 1 [[.V 0, .v (.bool false)]]]) ⟨I, I⟩ ⟨I, J⟩ (pk [0, 1]) ?_
 rintro e N s ob ⟨rfl, rfl⟩ h F
 refine Aa fun Z O => Bg [.l 2 (k.length : Int)] I ⟨A0, J⟩ (Aq h I ?_ ?_)
 intro P h
 refine mI ?_
 subst O
 refine mK (mJ (Ah (fun s ob => ∃ (y : Bool), Pb.J3 k e y = some N ∧ s = [(46, .v (.bool y))] ∧ ob = [O0 B [Ac c], .arr w 53 2 1 [[.V 0, .v (.bool false)]]]) (K5 1 2 3 6 8) J5 ?_ ?_))
 obtain ⟨a, ⟨n, t⟩, h⟩ := Bb h
 refine mE (Al 6 [.x 2 a.1 (rI a.2)] I ⟨⟨n, Ae t⟩, J⟩ ?_)
 rcases bt (decide (a.2 > 0)) with f | f
 have h := Bv f h
 obtain ⟨b, ⟨G, H⟩, h⟩ := Bb h
 refine Ad 20 I f (Al 10 [.o 1 0, .x 3 b.1 (Ap b.2)] I ⟨⟨G, Ae H⟩, I, J⟩ ?_)
 rcases bt ((b.2.From == d)) with g | g
 have h := Bv g h
 exact Ad 30 I g (Af 6 I (Cw I I dS (Cw I I dS (Cw I I dS (Cw I I dS (Cw I I dS (Cw I I dS (Cw I I dS (Cw I I dS (Af 2 I (mF (lg ⟨true, h, I2⟩ [0, 1]))))))))))))
 have h := Bw g h
 refine Ad 30 I g (Al 6 [.x 2 a.1 (rI a.2)] I ⟨⟨n, Ae t⟩, J⟩ ?_)
 rcases bt (decide (a.2 < 0)) with i | i
 have h := Bv i h
 exact Ad 36 I i (Al 10 [.o 1 0, .x 3 b.1 (Ap b.2)] I ⟨⟨G, Ae H⟩, I, J⟩ (mF (lg ⟨(b.2.To == d), h, I2⟩ [0, 1])))
 have h := Bw i h
 exact Ad 36 I i (Af 10 I (mF (lg ⟨false, h, I2⟩ [0, 1])))
 have h := Bw f h
 refine Ad 20 I f ?_
 rcases bt (decide (a.2 < 0)) with j | j
 have h := Bv j h
 obtain ⟨A, ⟨Q, R⟩, h⟩ := Bb h
 exact Al 16 [.x 12 a.1 (rI a.2)] I ⟨⟨n, Ae t⟩, J⟩ (Ad 36 I j (Al 10 [.o 1 0, .x 3 A.1 (Ap A.2)] I ⟨⟨Q, Ae R⟩, I, J⟩ (mF (lg ⟨(A.2.To == d), h, I2⟩ [0, 1]))))
 have h := Bw j h
 exact Al 16 [.x 12 a.1 (rI a.2)] I ⟨⟨n, Ae t⟩, J⟩ (Ad 36 I j (Af 10 I (mF (lg ⟨false, h, I2⟩ [0, 1]))))
 rintro s ob ⟨y, h, rfl, rfl⟩
 refine Aq h I ?_ ?_
 intro S h
 refine mK ?_
 obtain ⟨u, ⟨U, W⟩, h⟩ := Bb h
 refine mE (Al 6 [.x 3 u.1 (rI u.2)] I ⟨⟨U, Ae W⟩, J⟩ (B0 (Bi (l := [.V e, .v (.bool (decide (u.2 < 0)))]) Gj I) I (mG [1] I (Ba 1 0 0 [[.V e, .v (.bool (decide (u.2 < 0)))]] I (Af 1 I (mF ?_))))))
 obtain rfl := F _ (oi h).symm
 have h := E
 have h := Cz h
 refine Dd [1] I ?_
 cases io h
 exact mL ⟨.inr I, [_, _], [], ⟨⟨0, _, _, _, _, _, _, _, I5⟩, I, J⟩, Cm, I2⟩
 intro S h
 refine mI (mE (Af 3 I ?_))
 cases io h
 exact mF ⟨_, _, _, I, I2, J5, pk [0, 1]⟩
 intro P h
 obtain rfl := F _ (oi h).symm
 have h := E
 have h := C2 h
 exact mN (lg ⟨(), h, I2⟩ [1])
 rintro s ob ⟨D, h, rfl, rfl⟩
 unfold Pb.J1 at h
 refine mK (mE (B0 (Bi (l := [.V 0, .v (.bool false)]) Gj I) I (mG [0] I (Ba 0 0 0 [[.V 0, .v (.bool false)]] I (Af 1 I (mF ?_))))))
 cases io h
 exact mL ⟨.inr I, [_, _], [], ⟨⟨0, _, _, _, _, _, _, _, I5⟩, I, J⟩, Cm, I2⟩
theorem aT (a : Int) (r : Int) (h : Lx a = r) : ACalls Ak 110 [.V a] [] (RV (.V r)) := by
 refine Ag Tryz.func110 I I I fun C hC => ?_
 unfold Lx at h
 refine Ai I (Ai I ?_)
 obtain rfl := h
 exact mL pr
theorem R5 (a : Nw) (b : Hop) (r : Int × Int) (h : Lm a b = some r) : ACalls Ak 111 [.agg (Ac a), .agg (A9 b)] [] (RV (.tup [.V r.1, .V r.2])) := by
 refine Ag Tryz.func111 I I I fun C hC => ?_
 refine Aa fun j d => mE (mG [] I (Bz (Ac a) 6 fun k => mG [] I (Bz (A9 b) 2 fun l => Af 2 I (mF ?_))))
 subst d
 refine Aa fun n e => ?_
 obtain ⟨c, ⟨f, g⟩, h⟩ := Bb h
 refine mE (Al 6 [.o 1 0, .o 3 1, .x 4 c.1 (Ap c.2)] I ⟨⟨f, Ae g⟩, I, I, J⟩ (mG [] I (Br W3 7 fun p => mG [2] I (Ba 2 0 0 [Ap c.2] I (mF ?_)))))
 subst e
 refine mK (Bg [.o 1 1] I J1 (Aq h I ?_ ?_))
 intro i h
 refine Js (pd 6 0 []) [2] [_] [.o 1 0, .o 3 0] I I J2 (mM g0 ?_)
 cases io h
 exact mL ⟨.inr I, [_, _], [], J2, Cm, I2⟩
 intro i h
 refine mI (Js (pd 6 0 []) [2] [_] [.o 1 0, .o 3 0] I I J2 (mM g0 ?_))
 cases io h
 exact mL ⟨.inr I, [_, _], [], J2, Cm, I2⟩
theorem Qd (e : Nw) (E : Li) (y : Li) (b : Int) (r : Path × Bool) (h : Oj e E y b = some r) : ACalls Ak 53 [.agg (Ac e), Q0 E, Q0 y, .V b] [] (fun x new => ∃ (P : Value), x = .tup [.agg [.V r.1.In, .V r.1.Out, .v P, .V r.1.Rate], .v (.bool r.2)] ∧ new = [U4 P r.1.Hops]) := by
 refine Ag Tryz.func53 I I I fun C hC => ?_
 refine Aa fun y2 Y => mE (mG [] I (Bz (Ac e) 6 fun n => mG [] I (Br W1 4 fun f => Af 1 I (mF ?_))))
 subst Y
 refine Aa fun y5 Z => ?_
 obtain ⟨A, ⟨aa, ab⟩, h⟩ := Bb h
 refine mE (Al 5 [.x 3 A.1 (rI A.2)] I ⟨⟨aa, Ae ab⟩, J⟩ (B0 (Bi (l := [.V b, .V 0, .N, .V A.2]) Qb I) I (mG [] I (Br W1 4 fun g => mG [2] I (Ba 2 0 0 [[.V b, .V 0, .N, .V A.2]] I (mF ?_))))))
 subst Z
 refine Aa fun y9 ac => ?_
 obtain ⟨Q, ⟨ad, ae⟩, h⟩ := Bb h
 refine Hh [.o 1 0, .x 3 Q.1 (Bp Q.2)] I ⟨⟨ad, Ae ae⟩, I, J⟩ ?_
 subst ac
 refine Ah (fun s ob => ∃ (i : (List Hop) × Int) (j : Value), Oj.J1 b i = some r ∧ s = [] ∧ ob = [O3 f [W1], O3 g [[.V b, .V 0, .v j, .V i.2]], U4 j i.1]) (K2 8 10) J2 ?_ ?_
 refine Ai I (mJ (mM (A6 53 2) ?_))
 obtain ⟨bc, af, F⟩ := Ab h
 refine Bs af (K5 1 2 4 8 10) J5 (fun (a : (List Hop) × Int × Int × Int) s ob => ∃ (d : Value), s = [(11, .V a.2.2.1), (12, .V a.2.2.2)] ∧ ob = [O0 n [Ac e], O3 f [W1], O3 g [[.V b, .V 0, .v d, .V a.2.1]], U4 d a.1]) ⟨nS, I2⟩ ⟨I, I, J⟩ (pk N4) ?_
 rintro a R s ob ⟨d, rfl, rfl⟩ h G
 refine Aa fun bd ag => Bg [.o 2 0, .l 3 (e.Nodes.length : Int)] I ⟨A0, I, J⟩ (Aq h I ?_ ?_)
 intro ah h
 refine mI ?_
 subst ag
 refine Ah (fun s ob => ∃ (t : (List Hop) × Int × Int) (B : Value), Oj.J3 a t = some R ∧ s = [(11, .V t.2.2)] ∧ ob = [O0 n [Ac e], O3 f [W1], O3 g [[.V b, .V 0, .v B, .V t.2.1]], U4 B t.1]) (K6 1 2 4 8 10 12) J6 ?_ ?_
 refine mJ (Ah (fun s ob => ∃ (S : Unit), Oj.J4 e E b a S = some R ∧ s = [] ∧ ob = [O0 n [Ac e], O3 f [W1], O3 g [[.V b, .V 0, .v d, .V a.2.1]], U4 d a.1]) (K7 1 2 4 8 10 11 12) J7 ?_ ?_)
 refine Ai I (mJ ?_)
 obtain ⟨be, ai, U⟩ := Ab h
 refine Bs ai (K7 1 2 4 8 10 11 12) J7 (fun (k : Int) s ob => s = [(13, .V k)] ∧ ob = [O0 n [Ac e], O3 f [W1], O3 g [[.V b, .V 0, .v d, .V a.2.1]], U4 d a.1]) ⟨I, I⟩ ⟨I, J⟩ (pk N4) ?_
 rintro k aj s ob ⟨rfl, rfl⟩ h W
 refine Aa fun bf ak => Bg [.l 2 (y.length : Int)] I ⟨A0, J⟩ (Aq h I ?_ ?_)
 intro al h
 refine mI ?_
 subst ak
 refine mK (mJ (Ah (fun s ob => ∃ (H : Bool), Oj.J6 y b a k H = some aj ∧ s = [(55, .v (.bool H))] ∧ ob = [O0 n [Ac e], O3 f [W1], O3 g [[.V b, .V 0, .v d, .V a.2.1]], U4 d a.1]) (K8 1 2 4 8 10 11 12 13) J8 ?_ ?_))
 obtain ⟨K, ⟨am, an⟩, h⟩ := Bb h
 refine mE (Al 9 [.o 1 0, .x 3 K.1 (Bp K.2)] I ⟨⟨am, Ae an⟩, I, J⟩ ?_)
 rcases bt ((K.2.Node == a.2.2.1)) with u | u
 have h := Bv u h
 obtain ⟨M, ⟨ao, aq⟩, h⟩ := Bb h
 exact Ad 49 I u (Al 6 [.x 2 M.1 (rI M.2)] I ⟨⟨ao, Ae aq⟩, J⟩ (mF (lg ⟨decide (M.2 < 0), h, I2⟩ N4)))
 have h := Bw u h
 exact Ad 49 I u (Af 6 I (mF (lg ⟨false, h, I2⟩ N4)))
 rintro s ob ⟨H, h, rfl, rfl⟩
 refine Aq h I ?_ ?_
 intro ar h
 refine Aa fun bg au => mE (Af 2 I (mG [2] I (Ba 2 0 1 [[.V b, .V k, .v d, .V a.2.1]] I (mF ?_))))
 subst au
 refine mK ?_
 obtain ⟨D, ⟨av, aw⟩, h⟩ := Bb h
 refine Bm (sl 9 0 (.drop 9 .nil)) [2] [_] I (Bo 9 [.o 1 0, .x 4 D.1 (rI D.2)] I ⟨⟨av, Ae aw⟩, I, J⟩ (mW [2] I I I (Ba 2 0 3 [[.V b, .V k, .v d, .V (min a.2.1 (wr (0 - D.2)))]] I (An (mF (mK (mE (Al 1 [.o 0 2] I J1 (mG [1] I (Ba 1 0 0 [[.V b, .V k, .v d, .V (min a.2.1 (wr (0 - D.2)))]] I (Af 1 I (mF ?_))))))))))))
 obtain rfl := W _ (oi h).symm
 have h := U
 have h := Cz h
 obtain rfl := G _ (oi h).symm
 have h := F
 have h := Cz h
 refine Dd [3, 1] I ?_
 cases io h
 exact mL ⟨.inr I, [_, _], [U4 d a.1], ⟨⟨1, _, _, _, _, _, _, _, I5⟩, I, J⟩, Dj I (Cm), ⟨d, I2⟩⟩
 intro ar h
 refine mI (mE (Af 3 I ?_))
 cases io h
 exact mF ⟨_, _, _, I, I2, J8, pk N4⟩
 intro al h
 obtain rfl := W _ (oi h).symm
 have h := U
 have h := C2 h
 exact mN (lg ⟨(), h, I2⟩ N4)
 rintro s ob ⟨S, h, rfl, rfl⟩
 refine Aa fun bh ax => ?_
 obtain ⟨X, ay, h⟩ := Ab h
 refine mE (Al 3 [.o 0 0] I J1 (mR (bP _ _ _ _ ay) (Af 3 I (mG [] I (Br [.V 0, .v (.bool false)] 2 fun bi => mG [4] I (Ba 4 0 0 [A9 X.1] I (Af 1 I (mF ?_))))))))
 subst ax
 refine Aa fun bj az => Ai I (Aq h I ?_ ?_)
 intro a0 h
 refine mK (mE (Al 1 [.o 0 2] I J1 (mG [1] I (Ba 1 0 0 [[.V b, .V 0, .v d, .V a.2.1]] I (Af 1 I (mF ?_))))))
 obtain rfl := G _ (oi h).symm
 have h := F
 have h := Cz h
 refine Dd [3, 1] I ?_
 cases io h
 exact mL ⟨.inr I, [_, _], [U4 d a.1], ⟨⟨1, _, _, _, _, _, _, _, I5⟩, I, J⟩, Dj I (Cm), ⟨d, I2⟩⟩
 intro a0 h
 refine mI ?_
 subst az
 refine Aa fun bk a1 => ?_
 obtain ⟨a2, a3, h⟩ := Ab h
 refine mE (Al 3 [.o 1 2, .o 2 4] I J2 (mG [] I (mO 2 (([X.1] : List Hop).map A9) (mG [3] I (mT 3 I a3 fun O => Af 1 I (nD 3 I fun a4 => mG [2] I (mP 2 0 2 (es' := [[.V b, .V 0, .v O, .V a.2.1]]) I I I I I I (Bd a4) I (As I) I I (mF ?_))))))))
 subst a1
 refine mK ?_
 obtain ⟨w, ⟨a5, a6⟩, h⟩ := Bb h
 refine Bm (sl 7 0 (.act 7 (.still 8 (.still 9 (.drop 10 .nil))))) [2, 4] [_, _] I (Bo 7 [.o 1 0, .o 4 1, .x 5 w.1 (rI w.2)] I ⟨⟨a5, Ae a6⟩, I, I, J⟩ (nC I (aT w.2 _ I) (A4 2 I (mW [2] I I I (Ba 2 0 3 [[.V b, .V 0, .v O, .V (min a.2.1 (Lx w.2))]] I (An (mF ?_)))))))
 obtain ⟨a7, a8, h⟩ := Ab h
 exact mE (Al 2 [.o 0 0, .o 1 4] I J2 (mR (R5 _ _ _ a8) (Af 4 I (mF (lg ⟨(a2, (min a.2.1 (Lx w.2)), a7.2), O, h, I2⟩ N4)))))
 rintro s ob ⟨t, B, h, rfl, rfl⟩
 unfold Oj.J3 at h
 refine mE (Af 3 I ?_)
 cases io h
 exact mF ⟨_, _, _, I, ⟨B, I2⟩, J7, pk N4⟩
 intro ah h
 obtain rfl := G _ (oi h).symm
 have h := F
 have h := C2 h
 exact mN (lg ⟨(a.1, a.2.1), d, h, I2⟩ [1, 2, 3])
 rintro s ob ⟨i, j, h, rfl, rfl⟩
 unfold Oj.J1 at h
 refine mK (mE (Al 1 [.o 0 1] I J1 (mG [0] I (Ba 0 0 0 [[.V b, .V 0, .v j, .V i.2]] I (Af 1 I (mF (Dd [2, 0] I ?_)))))))
 cases io h
 exact mL ⟨.inr I, [_, _], [U4 j i.1], ⟨⟨1, _, _, _, _, _, _, _, I5⟩, I, J⟩, Dj I (Cm), ⟨j, I2⟩⟩
theorem R4 (g : Nw) (X : Plan) (r : (List Path) × Int) (h : Fb g X = some r) : ACalls Ak 11 [.agg (Ac g), .agg (Au X)] [] (fun x new => ∃ (u0 : Value), x = .tup [.v u0, .V r.2] ∧ new = [U3 u0 r.1]) := by
 refine Ag Tryz.func11 I I I fun C hC => ?_
 refine Aa fun y1 al => mE (mG [] I (Bz (Ac g) 6 fun n => mG [] I (Bz (Au X) 3 fun b3 => Af 2 I (mF ?_))))
 subst al
 refine Aa fun y4 am => mK ?_
 obtain ⟨r5, an, h⟩ := Ab h
 refine mE (Al 2 [.o 0 0, .o 1 1] I J2 (mR (Mi _ _ _ an) (Af 1 I (mF (Ai I (Aq h I ?_ ?_))))))
 intro ao h
 refine Ai I (mM (A6 50 4) (Dd [2] I ?_))
 cases io h
 exact mL ⟨.inr I, [_, _], [.us nS 50 4 ([].map Am)], J2, Dj I (Cm), ⟨nS, I2⟩⟩
 intro ao h
 refine mI ?_
 subst am
 refine Aa fun y8 aq => ?_
 obtain ⟨b4, ar, h⟩ := Ab h
 refine mE (mG [] I (mS (sz := 1) (es := ([] : Li).map rI) I I I I I I I I I I I dS fun v9 => Al 2 [.o 1 1] I J1 (mG [2] I (mT 2 I ar fun t => Af 1 I (mF ?_)))))
 subst aq
 refine Aa fun b6 au => ?_
 obtain ⟨b7, av, h⟩ := Ab h
 refine mE (mG [] I (mS (sz := 1) (es := ([] : Li).map rI) I I I I I I I I I I I dS fun b8 => Al 2 [.o 1 1] I J1 (mG [3] I (mT 3 I av fun u => Af 1 I (mF ?_)))))
 subst au
 refine Ai I (Ah (fun s ob => ∃ (Q : List Path) (H : Value), Fb.J1 Q = some r ∧ s = [(9, .v H)] ∧ ob = [U3 H Q]) [] J ?_ ?_)
 refine Ai I (mJ (mM (A6 50 4) ?_))
 obtain ⟨b9, aw, ab⟩ := Ab h
 refine Bs aw (K3 2 7 8) J3 (fun (w : Li × Li × (List Path) × Int) s ob => ∃ (M : Value), s = [(9, .v M), (10, .V w.2.2.2)] ∧ ob = [O0 n [Ac g], U0 t w.1, U0 u w.2.1, U3 M w.2.2.1]) ⟨nS, I2⟩ ⟨I, I, J⟩ (pk [0, 2, 3, 4]) ?_
 rintro w ax s ob ⟨M, rfl, rfl⟩ h ac
 refine Aa fun ca ay => mK (mE (Af 2 I (mQ (Cf 2 I I I I) I (Af 1 I (mF (Aq h I ?_ ?_))))))
 intro az h
 refine mI ?_
 subst ay
 refine Ah (fun s ob => ∃ (O : Li × Li × (List Path)) (R : Value), Fb.J3 w O = some ax ∧ s = [(9, .v R)] ∧ ob = [O0 n [Ac g], U0 t O.1, U0 u O.2.1, U3 R O.2.2]) (K4 2 7 8 10) J4 ?_ ?_
 refine mJ (mJ ?_)
 obtain ⟨cb, a0, ad⟩ := Ab h
 refine Bs a0 (K4 2 7 8 10) J4 (fun (b : Li × Li × (List Path)) s ob => ∃ (k : Value), s = [(9, .v k)] ∧ ob = [O0 n [Ac g], U0 t b.1, U0 u b.2.1, U3 k b.2.2]) ⟨M, I2⟩ ⟨I, J⟩ (pk N4) ?_
 rintro b a1 s ob ⟨k, rfl, rfl⟩ h ae
 refine Aa fun cc a2 => mK ?_
 obtain ⟨Y, ⟨a3, af⟩, h⟩ := Bb h
 refine mE (Af 2 I (mQ (Bh 2 (m := Y.1) I I I I I I I a3 (Ae af)) I (mQ (Ay 2 Y.1 0 I I I (Ae af) I (y := .V Y.2) I) I (Af 1 I (mF (Aq h I ?_ ?_))))))
 intro a4 h
 refine mI ?_
 subst a2
 refine mJ (Aa fun cd a5 => ?_)
 obtain ⟨a, a6, h⟩ := Ab h
 refine mE (Al 4 [.o 0 0] I J1 (mG [] I (Px I (.refl _) I I (.cons (.refl _) (.cons (.us 1 I) (.cons (.us 2 I) (.rest _)))) I (Qd _ _ _ _ _ a6) dS (by rintro _ _ ⟨_, rfl, rfl⟩; exact ⟨rfl, by intro p hp; simp only [List.mem_cons, List.not_mem_nil, or_false] at hp; rcases hp with rfl <;> exact Vg fun _ => rfl⟩) ?_)))
 rintro _ _ ⟨l, rfl, rfl⟩
 refine Af 3 I (mG [] I (Br W1 4 fun S => mG [5] I (Ba 5 0 0 [[.V a.1.In, .V a.1.Out, .v l, .V a.1.Rate]] I (Af 1 I (mF ?_)))))
 subst a5
 refine Aa fun ce a7 => Ec 60 ((!a.2) || (((b.2.2.length : Int) == 64) || decide ((a.1.Hops.length : Int) > 32))) ?_ ?_
 refine mE (Af 3 I ?_)
 rcases bt ((!a.2)) with B | B
 exact Ad 50 I B (Af 10 I (mF (jf (by simp only [B, bz]) I I I2)))
 refine Ad 50 I B (Af 1 I (Bc I I I (mQ (Cf 3 I I I I) I (Af 3 I ?_))))
 rcases bt (((b.2.2.length : Int) == 64)) with P | P
 exact Ad 55 I P (Af 5 I (mF (jf (by simp only [B, P, bz]) I I I2)))
 exact Ad 55 I P (Al 2 [.o 1 5] I J1 (Bc I I I (mQ (Cf 4 I I I I) I (Af 2 I (mF (jf (by simp only [B, P, bz]) I I I2))))))
 refine Aq h I ?_ ?_
 intro a8 h
 refine Ai I ?_
 obtain rfl := ae _ (oi h).symm
 have h := ad
 have h := Cz h
 obtain rfl := ac _ (oi h).symm
 have h := ab
 have h := Cz h
 refine mM (A6 50 4) (Dd [6] I ?_)
 cases io h
 exact mL ⟨.inr I, [_, _], [.us nS 50 4 ([].map Am)], J2, Dj I (Cm), ⟨nS, I2⟩⟩
 intro a8 h
 refine mI ?_
 subst a7
 refine Aa fun cf a9 => ?_
 obtain ⟨e, ⟨ag, D⟩, h⟩ := Bb h
 refine Bq 2 e.1 I D fun ba => Bq 2 e.1 I D fun bb => Bm Xv [5, 2] [_, _] I (Bo 6 [.o 2 0, .o 5 0] I J2 (mU I (Ar (m := e.1) I I I I I ba I ag D) I (AP.o I (Ay 1 e.1 0 I I I (Ae D) I (y := .V e.2) I) I (Bo 3 [.o 1 0] I J1 (mU I (Ar (m := e.1) I I I I I bb I ag D) I (mW [2] I I I (A5 2 e.1 0 I I I (Ae D) I I I I (As I) I (Ca (x := wr (e.2 - a.1.Rate)) I) (An (mF ?_)))))))))
 subst a9
 refine Aa fun cg bc => ?_
 obtain ⟨f, ⟨ah, E⟩, h⟩ := Bb h
 refine Bq 2 f.1 I E fun bd => Bq 2 f.1 I E fun be => Bm Xv [5, 2] [_, _] I (Bo 6 [.o 2 0, .o 5 0] I J2 (mU I (Ar (m := f.1) I I I I I bd I ah E) I (AP.o I (Ay 1 f.1 0 I I I (Ae E) I (y := .V f.2) I) I (Bo 3 [.o 1 0] I J1 (mU I (Ar (m := f.1) I I I I I be I ah E) I (mW [2] I I I (A5 2 f.1 0 I I I (Ae E) I I I I (As I) I (Ca (x := wr (f.2 + a.1.Rate)) I) (An (mF ?_)))))))))
 subst bc
 refine Ah (fun s ob => ∃ (U : Li), Fb.J5 b a e f U = some a1 ∧ s = [] ∧ ob = [O0 n [Ac g], U0 t U, .us u 3 1 (((b.2.1.set e.1 (wr (e.2 - a.1.Rate))).set f.1 (wr (f.2 + a.1.Rate))).map rI), U3 k b.2.2, U4 l a.1.Hops, O3 S [[.V a.1.In, .V a.1.Out, .v l, .V a.1.Rate]]]) (K6 2 7 8 9 10 11) J6 ?_ ?_
 refine Ai I (mJ ?_)
 obtain ⟨ci, bf, bg⟩ := Ab h
 refine Bs bf (K6 2 7 8 9 10 11) J6 (fun (A : Li × Int) s ob => s = [(13, .V A.2)] ∧ ob = [O0 n [Ac g], U0 t A.1, .us u 3 1 (((b.2.1.set e.1 (wr (e.2 - a.1.Rate))).set f.1 (wr (f.2 + a.1.Rate))).map rI), U3 k b.2.2, U4 l a.1.Hops, O3 S [[.V a.1.In, .V a.1.Out, .v l, .V a.1.Rate]]]) ⟨I, I⟩ ⟨I, J⟩ (pk N6) ?_
 rintro A bh s ob ⟨rfl, rfl⟩ h bi
 refine Aa fun cj bj => mK (mE (Al 3 [.o 2 5] I J1 (mQ (Cf 4 I I I I) I (Af 1 I (mF (Aq h I ?_ ?_))))))
 intro bk h
 refine mI ?_
 subst bj
 refine Ah (fun s ob => ∃ (Z : Li), Fb.J7 A Z = some bh ∧ s = [] ∧ ob = [O0 n [Ac g], U0 t Z, .us u 3 1 (((b.2.1.set e.1 (wr (e.2 - a.1.Rate))).set f.1 (wr (f.2 + a.1.Rate))).map rI), U3 k b.2.2, U4 l a.1.Hops, O3 S [[.V a.1.In, .V a.1.Out, .v l, .V a.1.Rate]]]) (K7 2 7 8 9 10 11 13) J7 ?_ ?_
 refine mJ (Aa fun ck bl => ?_)
 obtain ⟨W, ⟨bm, ai⟩, h⟩ := Bb h
 refine mE (Al 3 [.o 1 5] I J1 (mQ (Bh 4 (m := W.1) I I I I I I I bm (Ae ai)) I (mQ (Ay 4 W.1 0 I I I (Ae ai) I (y := .agg (A9 W.2)) I) I (mG [] I (Br [.V 0, .v (.bool false)] 2 fun cl => mG [6] I (Ba 6 0 0 [A9 W.2] I (mF ?_)))))))
 subst bl
 refine Bg [.o 1 6] I J1 (Aq h I ?_ ?_)
 intro bn h
 obtain ⟨i, ⟨aj, F⟩, h⟩ := Bb h
 exact Bq 1 i.1 I F fun bo => Bq 1 i.1 I F fun bp => Bm Xv [6, 1, 5] [_, _, _] I (Bo 6 [.o 2 0, .o 5 0] I J2 (mU I (Ar (m := i.1) I I I I I bo I aj F) I (AP.o I (Ay 1 i.1 0 I I I (Ae F) I (y := .V i.2) I) I (Bo 3 [.o 1 2] I J1 (mU I (Ar (m := i.1) I I I I I bp I aj F) I (mW [1] I I I (A5 1 i.1 0 I I I (Ae F) I I I I (As I) I (Ca (x := wr (i.2 + a.1.Rate)) I) (An (mF (lg ⟨(A.1.set i.1 (wr (i.2 + a.1.Rate))), h, I2⟩ N6))))))))))
 intro bn h
 obtain ⟨j, ⟨ak, G⟩, h⟩ := Bb h
 exact Bq 1 j.1 I G fun bq => Bq 1 j.1 I G fun br => Bm Xv [6, 1, 5] [_, _, _] I (Bo 6 [.o 2 0, .o 5 0] I J2 (mU I (Ar (m := j.1) I I I I I bq I ak G) I (AP.o I (Ay 1 j.1 0 I I I (Ae G) I (y := .V j.2) I) I (Bo 3 [.o 1 2] I J1 (mU I (Ar (m := j.1) I I I I I br I ak G) I (mW [1] I I I (A5 1 j.1 0 I I I (Ae G) I I I I (As I) I (Ca (x := wr (j.2 - a.1.Rate)) I) (An (mF (lg ⟨(A.1.set j.1 (wr (j.2 - a.1.Rate))), h, I2⟩ N6))))))))))
 rintro s ob ⟨Z, h, rfl, rfl⟩
 unfold Fb.J7 at h
 refine mE (Af 3 I ?_)
 cases io h
 exact mF ⟨_, _, _, I, I2, J7, pk N6⟩
 intro bk h
 obtain rfl := bi _ (oi h).symm
 have h := bg
 exact mN (lg ⟨A.1, h, I2⟩ N6)
 rintro s ob ⟨U, h, rfl, rfl⟩
 obtain ⟨cm, bs, h⟩ := Ab h
 refine mE (Al 2 [.o 1 5] I J1 (mZ (Be [4] (K := [U4 l a.1.Hops]) I [(124, .agg [.V a.1.In, .V a.1.Out, Q7 a.1.Hops, .V a.1.Rate])] ⟨⟨_, I, .agg (.cons (.refl _) (.cons (.refl _) (.cons (.us 0 I) (.rest _))))⟩, J⟩ (ob' := [O0 n [Ac g], U0 t U, .us u 3 1 (((b.2.1.set e.1 (wr (e.2 - a.1.Rate))).set f.1 (wr (f.2 + a.1.Rate))).map rI), U3 k b.2.2, O3 S [Am a.1]]) (.cons (.same _) (.cons (.same _) (.cons (.same _) (.cons (.same _) (.cons (.arr (.cons (.refl _) (.cons (.refl _) (.cons (.us 0 I) (.rest _))))) (.rest _))))))) (mG [] I (mO 4 (([a.1] : List Path).map Am) (mG [3] I (mT 3 I bs fun bu => Af 1 I ?_))))))
 cases io h
 exact mF ⟨_, _, _, I, ⟨bu, I2⟩, J5, pk N4⟩
 intro a4 h
 obtain rfl := ae _ (oi h).symm
 have h := ad
 have h := C2 h
 exact mN (lg ⟨(b.1, b.2.1, b.2.2), k, h, I2⟩ N4)
 rintro s ob ⟨O, R, h, rfl, rfl⟩
 unfold Fb.J3 at h
 refine mE (Af 3 I ?_)
 cases io h
 exact mF ⟨_, _, _, I, ⟨R, I2⟩, J5, pk N4⟩
 intro az h
 obtain rfl := ac _ (oi h).symm
 have h := ab
 have h := C2 h
 exact mN (lg ⟨w.2.2.1, M, h, I2⟩ [3])
 rintro s ob ⟨Q, H, h, rfl, rfl⟩
 unfold Fb.J1 at h
 refine Ai I ?_
 cases io h
 exact mL ⟨.inr I, [_, _], [U3 H Q], J2, Dj I (Cm), ⟨H, I2⟩⟩
end Go.Proofs.YtihdchjpepkpbaaGreat
