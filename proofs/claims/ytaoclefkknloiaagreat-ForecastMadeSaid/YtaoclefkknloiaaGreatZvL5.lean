/- Walks that show what functions of the program compute; printed by a program of ours. No condition. -/
import Derived.Test.YtaoclefkknloiaaGreatZvL4
import Derived.Test.YtaoclefkknloiaaGreatZvD
import Derived.Test.YtaoclefkknloiaaGreatZvL0
import Derived.Test.YtaoclefkknloiaaGreatZvB3
import Derived.Test.YtaoclefkknloiaaGreatZvB2
set_option maxRecDepth 100000
namespace Go.Proofs.YtaoclefkknloiaaGreat
open Go.Aw
set_option linter.unusedVariables false
set_option linter.unusedSimpArgs false
set_option maxHeartbeats 4000000
abbrev T8 : PL := .act 15 (.still 16 (.act 17 (.act 18 (.still 19 (.drop 20 .nil)))))
abbrev qV : PL := sl 6 0 (.still 9 (.two 6 10 (.two 7 10 (.two 8 10 (.act 10 (.act 11 (.still 12 (.act 13 (.act 14 .nil))))) (.two 8 11 (.act 11 (.still 12 (.act 13 (.act 14 .nil)))) (.act 8 (.still 12 (.act 13 (.act 14 .nil)))))) (.two 7 11 (.two 8 11 (.act 11 (.still 12 (.act 13 (.act 14 .nil)))) (.act 8 (.still 12 (.act 13 (.act 14 .nil))))) (.act 7 (.act 8 (.still 12 (.act 13 (.act 14 .nil))))))) (.act 6 (.two 7 11 (.two 8 11 (.act 11 (.still 12 (.act 13 (.act 14 .nil)))) (.act 8 (.still 12 (.act 13 (.act 14 .nil))))) (.act 7 (.act 8 (.still 12 (.act 13 (.act 14 .nil)))))))))
abbrev Qd : PL := .act 9 (.act 12 T8)
abbrev kE : PL := .two 9 14 (.two 12 14 (.act 14 T8) (.act 12 T8)) Qd
abbrev kD : PL := .two 9 11 (.act 11 (.act 12 T8)) Qd
abbrev qS : PL := .act 9 (.still 10 (.act 11 (.act 12 (.still 13 (.drop 14 .nil)))))
abbrev cF : PL := sl 12 0 (.drop 12 .nil)
abbrev T7 : PL := .act 5 Qd
abbrev qR : PL := .act 11 (.act 12 (.still 13 (.act 14 .nil)))
theorem jG (c : Nw) (k : Li) (d : Int) (r : Hop × Bool) (h : R5 c k d = some r) : ACalls Ak 101 [.agg (Ad c), Q0 k, .V d] [] (RV (.tup [.agg (Df r.1), .v (.bool r.2)])) := by
 refine Ag Tryz.func101 I I I fun C hC => ?_
 unfold R5 at h
 refine Ab fun X K => tX (tZ [] I (Cf (Ad c) 6 fun B => tZ [] I (Bs [.V 0, .v (.bool false)] 2 fun w => Af 1 I (tY ?_))))
 subst K
 refine Aj (fun s ob => ∃ (D : Unit), R5.J1 D = some r ∧ s = [] ∧ ob = [.arr w 67 2 1 [[.V 0, .v (.bool false)]]]) [(6, _)] J1 ?_ ?_
 refine Ai I (uB ?_)
 obtain ⟨Y, M, E⟩ := Ac h
 refine Ci M (K4 1 2 3 6) J4 (fun (e : Int) s ob => s = [(8, .V e)] ∧ ob = [O0 B [Ad c], .arr w 67 2 1 [[.V 0, .v (.bool false)]]]) ⟨I, I⟩ ⟨I, J⟩ (pk [0, 1]) ?_
 rintro e N s ob ⟨rfl, rfl⟩ h F
 refine Ab fun Z O => Bg [.l 2 (k.length : Int)] I ⟨A4, J⟩ (Ao h I ?_ ?_)
 intro P h
 refine uA ?_
 subst O
 refine uD (uB (Aj (fun s ob => ∃ (y : Bool), R5.J3 k e y = some N ∧ s = [(46, .v (.bool y))] ∧ ob = [O0 B [Ad c], .arr w 67 2 1 [[.V 0, .v (.bool false)]]]) (K5 1 2 3 6 8) J5 ?_ ?_))
 obtain ⟨a, ⟨n, t⟩, h⟩ := A5 h
 refine tX (Am 6 [.x 2 a.1 (rI a.2)] I ⟨⟨n, Ae t⟩, J⟩ ?_)
 rcases bt (decide (a.2 > 0)) with f | f
 have h := Cc f h
 obtain ⟨b, ⟨G, H⟩, h⟩ := A5 h
 refine Ah 20 I f (Am 10 [.o 1 0, .x 3 b.1 (Ar b.2)] I ⟨⟨G, Ae H⟩, I, J⟩ ?_)
 rcases bt ((b.2.From == d)) with g | g
 have h := Cc g h
 exact Ah 30 I g (Af 6 I (C3 I I dS (C3 I I dS (C3 I I dS (C3 I I dS (C3 I I dS (C3 I I dS (C3 I I dS (C3 I I dS (Af 2 I (tY (lg ⟨true, h, I2⟩ [0, 1]))))))))))))
 have h := Cd g h
 refine Ah 30 I g (Am 6 [.x 2 a.1 (rI a.2)] I ⟨⟨n, Ae t⟩, J⟩ ?_)
 rcases bt (decide (a.2 < 0)) with i | i
 have h := Cc i h
 exact Ah 36 I i (Am 10 [.o 1 0, .x 3 b.1 (Ar b.2)] I ⟨⟨G, Ae H⟩, I, J⟩ (tY (lg ⟨(b.2.To == d), h, I2⟩ [0, 1])))
 have h := Cd i h
 exact Ah 36 I i (Af 10 I (tY (lg ⟨false, h, I2⟩ [0, 1])))
 have h := Cd f h
 refine Ah 20 I f ?_
 rcases bt (decide (a.2 < 0)) with j | j
 have h := Cc j h
 obtain ⟨A, ⟨Q, R⟩, h⟩ := A5 h
 exact Am 16 [.x 12 a.1 (rI a.2)] I ⟨⟨n, Ae t⟩, J⟩ (Ah 36 I j (Am 10 [.o 1 0, .x 3 A.1 (Ar A.2)] I ⟨⟨Q, Ae R⟩, I, J⟩ (tY (lg ⟨(A.2.To == d), h, I2⟩ [0, 1]))))
 have h := Cd j h
 exact Am 16 [.x 12 a.1 (rI a.2)] I ⟨⟨n, Ae t⟩, J⟩ (Ah 36 I j (Af 10 I (tY (lg ⟨false, h, I2⟩ [0, 1]))))
 rintro s ob ⟨y, h, rfl, rfl⟩
 refine Ao h I ?_ ?_
 intro S h
 refine uD ?_
 obtain ⟨u, ⟨U, W⟩, h⟩ := A5 h
 refine tX (Am 6 [.x 3 u.1 (rI u.2)] I ⟨⟨U, Ae W⟩, J⟩ (uK (Bl (l := [.V e, .v (.bool (decide (u.2 < 0)))]) I4 I) I (tZ [1] I (Bj 1 0 0 [[.V e, .v (.bool (decide (u.2 < 0)))]] I (Af 1 I (tY ?_))))))
 obtain rfl := F _ (oi h).symm
 have h := E
 have h := Dk h
 refine C9 [1] I ?_
 cases io h
 exact uE ⟨.inr I, [_, _], [], ⟨⟨0, _, _, _, _, _, _, _, I5⟩, I, J⟩, B0, I2⟩
 intro S h
 refine uA (tX (Af 3 I ?_))
 cases io h
 exact tY ⟨_, _, _, I, I2, J5, pk [0, 1]⟩
 intro P h
 obtain rfl := F _ (oi h).symm
 have h := E
 have h := Dj h
 exact uG (lg ⟨(), h, I2⟩ [1])
 rintro s ob ⟨D, h, rfl, rfl⟩
 unfold R5.J1 at h
 refine uD (tX (uK (Bl (l := [.V 0, .v (.bool false)]) I4 I) I (tZ [0] I (Bj 0 0 0 [[.V 0, .v (.bool false)]] I (Af 1 I (tY ?_))))))
 cases io h
 exact uE ⟨.inr I, [_, _], [], ⟨⟨0, _, _, _, _, _, _, _, I5⟩, I, J⟩, B0, I2⟩
theorem hN (a : Int) (r : Int) (h : Rj a = r) : ACalls Ak 102 [.V a] [] (RV (.V r)) := by
 refine Ag Tryz.func102 I I I fun C hC => ?_
 unfold Rj at h
 refine Ai I (Ai I ?_)
 obtain rfl := h
 exact uE pr
theorem bV (e : Nw) (E : Li) (y : Li) (b : Int) (r : Path × Bool) (h : Wp e E y b = some r) : ACalls Ak 68 [.agg (Ad e), Q0 E, Q0 y, .V b] [] (fun x new => ∃ (P : Value), x = .tup [.agg [.V r.1.In, .V r.1.Out, .v P, .V r.1.Rate], .v (.bool r.2)] ∧ new = [U3 P r.1.Hops]) := by
 refine Ag Tryz.func68 I I I fun C hC => ?_
 refine Ab fun y2 Y => tX (tZ [] I (Cf (Ad e) 6 fun n => tZ [] I (Bs W5 4 fun f => Af 1 I (tY ?_))))
 subst Y
 refine Ab fun y5 Z => ?_
 obtain ⟨A, ⟨aa, ab⟩, h⟩ := A5 h
 refine tX (Am 5 [.x 3 A.1 (rI A.2)] I ⟨⟨aa, Ae ab⟩, J⟩ (uK (Bl (l := [.V b, .V 0, .N, .V A.2]) bU I) I (tZ [] I (Bs W5 4 fun g => tZ [2] I (Bj 2 0 0 [[.V b, .V 0, .N, .V A.2]] I (tY ?_))))))
 subst Z
 refine Ab fun y9 ac => ?_
 obtain ⟨Q, ⟨ad, ae⟩, h⟩ := A5 h
 refine Gd [.o 1 0, .x 3 Q.1 (Ca Q.2)] I ⟨⟨ad, Ae ae⟩, I, J⟩ ?_
 subst ac
 refine Aj (fun s ob => ∃ (i : (List Hop) × Int) (j : Value), Wp.J1 b i = some r ∧ s = [] ∧ ob = [O7 f [W5], O7 g [[.V b, .V 0, .v j, .V i.2]], U3 j i.1]) (K2 8 10) J2 ?_ ?_
 refine Ai I (uB (uF (Az 67 2) ?_))
 obtain ⟨bc, af, F⟩ := Ac h
 refine Ci af (K5 1 2 4 8 10) J5 (fun (a : (List Hop) × Int × Int × Int) s ob => ∃ (d : Value), s = [(11, .V a.2.2.1), (12, .V a.2.2.2)] ∧ ob = [O0 n [Ad e], O7 f [W5], O7 g [[.V b, .V 0, .v d, .V a.2.1]], U3 d a.1]) ⟨nS, I2⟩ ⟨I, I, J⟩ (pk N4) ?_
 rintro a R s ob ⟨d, rfl, rfl⟩ h G
 refine Ab fun bd ag => Bg [.o 2 0, .l 3 (e.Nodes.length : Int)] I ⟨A4, I, J⟩ (Ao h I ?_ ?_)
 intro ah h
 refine uA ?_
 subst ag
 refine Aj (fun s ob => ∃ (t : (List Hop) × Int × Int) (B : Value), Wp.J3 a t = some R ∧ s = [(11, .V t.2.2)] ∧ ob = [O0 n [Ad e], O7 f [W5], O7 g [[.V b, .V 0, .v B, .V t.2.1]], U3 B t.1]) (K6 1 2 4 8 10 12) J6 ?_ ?_
 refine uB (Aj (fun s ob => ∃ (S : Unit), Wp.J4 e E b a S = some R ∧ s = [] ∧ ob = [O0 n [Ad e], O7 f [W5], O7 g [[.V b, .V 0, .v d, .V a.2.1]], U3 d a.1]) (K7 1 2 4 8 10 11 12) J7 ?_ ?_)
 refine Ai I (uB ?_)
 obtain ⟨be, ai, U⟩ := Ac h
 refine Ci ai (K7 1 2 4 8 10 11 12) J7 (fun (k : Int) s ob => s = [(13, .V k)] ∧ ob = [O0 n [Ad e], O7 f [W5], O7 g [[.V b, .V 0, .v d, .V a.2.1]], U3 d a.1]) ⟨I, I⟩ ⟨I, J⟩ (pk N4) ?_
 rintro k aj s ob ⟨rfl, rfl⟩ h W
 refine Ab fun bf ak => Bg [.l 2 (y.length : Int)] I ⟨A4, J⟩ (Ao h I ?_ ?_)
 intro al h
 refine uA ?_
 subst ak
 refine uD (uB (Aj (fun s ob => ∃ (H : Bool), Wp.J6 y b a k H = some aj ∧ s = [(55, .v (.bool H))] ∧ ob = [O0 n [Ad e], O7 f [W5], O7 g [[.V b, .V 0, .v d, .V a.2.1]], U3 d a.1]) (K8 1 2 4 8 10 11 12 13) J8 ?_ ?_))
 obtain ⟨K, ⟨am, an⟩, h⟩ := A5 h
 refine tX (Am 9 [.o 1 0, .x 3 K.1 (Ca K.2)] I ⟨⟨am, Ae an⟩, I, J⟩ ?_)
 rcases bt ((K.2.Node == a.2.2.1)) with u | u
 have h := Cc u h
 obtain ⟨M, ⟨ao, aq⟩, h⟩ := A5 h
 exact Ah 49 I u (Am 6 [.x 2 M.1 (rI M.2)] I ⟨⟨ao, Ae aq⟩, J⟩ (tY (lg ⟨decide (M.2 < 0), h, I2⟩ N4)))
 have h := Cd u h
 exact Ah 49 I u (Af 6 I (tY (lg ⟨false, h, I2⟩ N4)))
 rintro s ob ⟨H, h, rfl, rfl⟩
 refine Ao h I ?_ ?_
 intro ar h
 refine Ab fun bg au => tX (Af 2 I (tZ [2] I (Bj 2 0 1 [[.V b, .V k, .v d, .V a.2.1]] I (tY ?_))))
 subst au
 refine uD ?_
 obtain ⟨D, ⟨av, aw⟩, h⟩ := A5 h
 refine Bk (sl 9 0 (.drop 9 .nil)) [2] [_] I (Bv 9 [.o 1 0, .x 4 D.1 (rI D.2)] I ⟨⟨av, Ae aw⟩, I, J⟩ (uR [2] I I I (Bj 2 0 3 [[.V b, .V k, .v d, .V (min a.2.1 (wr (0 - D.2)))]] I (Ap (tY (uD (tX (Am 1 [.o 0 2] I J1 (tZ [1] I (Bj 1 0 0 [[.V b, .V k, .v d, .V (min a.2.1 (wr (0 - D.2)))]] I (Af 1 I (tY ?_))))))))))))
 obtain rfl := W _ (oi h).symm
 have h := U
 have h := Dk h
 obtain rfl := G _ (oi h).symm
 have h := F
 have h := Dk h
 refine C9 [3, 1] I ?_
 cases io h
 exact uE ⟨.inr I, [_, _], [U3 d a.1], ⟨⟨1, _, _, _, _, _, _, _, I5⟩, I, J⟩, Cb I (B0), ⟨d, I2⟩⟩
 intro ar h
 refine uA (tX (Af 3 I ?_))
 cases io h
 exact tY ⟨_, _, _, I, I2, J8, pk N4⟩
 intro al h
 obtain rfl := W _ (oi h).symm
 have h := U
 have h := Dj h
 exact uG (lg ⟨(), h, I2⟩ N4)
 rintro s ob ⟨S, h, rfl, rfl⟩
 refine Ab fun bh ax => ?_
 obtain ⟨X, ay, h⟩ := Ac h
 refine tX (Am 3 [.o 0 0] I J1 (uJ (jG _ _ _ _ ay) (Af 3 I (tZ [] I (Bs [.V 0, .v (.bool false)] 2 fun bi => tZ [4] I (Bj 4 0 0 [Df X.1] I (Af 1 I (tY ?_))))))))
 subst ax
 refine Ab fun bj az => Ai I (Ao h I ?_ ?_)
 intro a0 h
 refine uD (tX (Am 1 [.o 0 2] I J1 (tZ [1] I (Bj 1 0 0 [[.V b, .V 0, .v d, .V a.2.1]] I (Af 1 I (tY ?_))))))
 obtain rfl := G _ (oi h).symm
 have h := F
 have h := Dk h
 refine C9 [3, 1] I ?_
 cases io h
 exact uE ⟨.inr I, [_, _], [U3 d a.1], ⟨⟨1, _, _, _, _, _, _, _, I5⟩, I, J⟩, Cb I (B0), ⟨d, I2⟩⟩
 intro a0 h
 refine uA ?_
 subst az
 refine Ab fun bk a1 => ?_
 obtain ⟨a2, a3, h⟩ := Ac h
 refine tX (Am 3 [.o 1 2, .o 2 4] I J2 (tZ [] I (uH 2 (([X.1] : List Hop).map Df) (tZ [3] I (uO 3 I a3 fun O => Af 1 I (uV 3 I fun a4 => tZ [2] I (uL 2 0 2 (es' := [[.V b, .V 0, .v O, .V a.2.1]]) I I I I I I (Bw a4) I (Ba I) I I (tY ?_))))))))
 subst a1
 refine uD ?_
 obtain ⟨w, ⟨a5, a6⟩, h⟩ := A5 h
 refine Bk (sl 7 0 (.act 7 (.still 8 (.still 9 (.drop 10 .nil))))) [2, 4] [_, _] I (Bv 7 [.o 1 0, .o 4 1, .x 5 w.1 (rI w.2)] I ⟨⟨a5, Ae a6⟩, I, I, J⟩ (uU I (hN w.2 _ I) (A3 2 I (uR [2] I I I (Bj 2 0 3 [[.V b, .V 0, .v O, .V (min a.2.1 (Rj w.2))]] I (Ap (tY ?_)))))))
 obtain ⟨a7, a8, h⟩ := Ac h
 exact tX (Am 2 [.o 0 0, .o 1 4] I J2 (uJ (Pc _ _ _ a8) (Af 4 I (tY (lg ⟨(a2, (min a.2.1 (Rj w.2)), a7.2), O, h, I2⟩ N4)))))
 rintro s ob ⟨t, B, h, rfl, rfl⟩
 unfold Wp.J3 at h
 refine tX (Af 3 I ?_)
 cases io h
 exact tY ⟨_, _, _, I, ⟨B, I2⟩, J7, pk N4⟩
 intro ah h
 obtain rfl := G _ (oi h).symm
 have h := F
 have h := Dj h
 exact uG (lg ⟨(a.1, a.2.1), d, h, I2⟩ [1, 2, 3])
 rintro s ob ⟨i, j, h, rfl, rfl⟩
 unfold Wp.J1 at h
 refine uD (tX (Am 1 [.o 0 1] I J1 (tZ [0] I (Bj 0 0 0 [[.V b, .V 0, .v j, .V i.2]] I (Af 1 I (tY (C9 [2, 0] I ?_)))))))
 cases io h
 exact uE ⟨.inr I, [_, _], [U3 j i.1], ⟨⟨1, _, _, _, _, _, _, _, I5⟩, I, J⟩, Cb I (B0), ⟨j, I2⟩⟩
theorem fZ (g : Nw) (X : Plan) (r : (List Path) × Int) (h : Wj g X = some r) : ACalls Ak 24 [.agg (Ad g), .agg (Aq X)] [] (fun x new => ∃ (u0 : Value), x = .tup [.v u0, .V r.2] ∧ new = [U9 u0 r.1]) := by
 refine Ag Tryz.func24 I I I fun C hC => ?_
 refine Ab fun y1 al => tX (tZ [] I (Cf (Ad g) 6 fun n => tZ [] I (Cf (Aq X) 3 fun b3 => Af 2 I (tY ?_))))
 subst al
 refine Ab fun y4 am => uD ?_
 obtain ⟨r5, an, h⟩ := Ac h
 refine tX (Am 2 [.o 0 0, .o 1 1] I J2 (uJ (Oz _ _ _ an) (Af 1 I (tY (Ai I (Ao h I ?_ ?_))))))
 intro ao h
 refine Ai I (uF (Az 62 4) (C9 [2] I ?_))
 cases io h
 exact uE ⟨.inr I, [_, _], [.us nS 62 4 ([].map Gh)], J2, Cb I (B0), ⟨nS, I2⟩⟩
 intro ao h
 refine uA ?_
 subst am
 refine Ab fun y8 aq => ?_
 obtain ⟨b4, ar, h⟩ := Ac h
 refine tX (tZ [] I (uM (sz := 1) (es := ([] : Li).map rI) I I I I I I I I I I I dS fun v9 => Am 2 [.o 1 1] I J1 (tZ [2] I (uO 2 I ar fun t => Af 1 I (tY ?_)))))
 subst aq
 refine Ab fun b6 au => ?_
 obtain ⟨b7, av, h⟩ := Ac h
 refine tX (tZ [] I (uM (sz := 1) (es := ([] : Li).map rI) I I I I I I I I I I I dS fun b8 => Am 2 [.o 1 1] I J1 (tZ [3] I (uO 3 I av fun u => Af 1 I (tY ?_)))))
 subst au
 refine Ai I (Aj (fun s ob => ∃ (Q : List Path) (H : Value), Wj.J1 Q = some r ∧ s = [(9, .v H)] ∧ ob = [U9 H Q]) [] J ?_ ?_)
 refine Ai I (uB (uF (Az 62 4) ?_))
 obtain ⟨b9, aw, ab⟩ := Ac h
 refine Ci aw (K3 2 7 8) J3 (fun (w : Li × Li × (List Path) × Int) s ob => ∃ (M : Value), s = [(9, .v M), (10, .V w.2.2.2)] ∧ ob = [O0 n [Ad g], U0 t w.1, U0 u w.2.1, U9 M w.2.2.1]) ⟨nS, I2⟩ ⟨I, I, J⟩ (pk [0, 2, 3, 4]) ?_
 rintro w ax s ob ⟨M, rfl, rfl⟩ h ac
 refine Ab fun ca ay => uD (tX (Af 2 I (uI (Bp 2 I I I I) I (Af 1 I (tY (Ao h I ?_ ?_))))))
 intro az h
 refine uA ?_
 subst ay
 refine Aj (fun s ob => ∃ (O : Li × Li × (List Path)) (R : Value), Wj.J3 w O = some ax ∧ s = [(9, .v R)] ∧ ob = [O0 n [Ad g], U0 t O.1, U0 u O.2.1, U9 R O.2.2]) (K4 2 7 8 10) J4 ?_ ?_
 refine uB (uB ?_)
 obtain ⟨cb, a0, ad⟩ := Ac h
 refine Ci a0 (K4 2 7 8 10) J4 (fun (b : Li × Li × (List Path)) s ob => ∃ (k : Value), s = [(9, .v k)] ∧ ob = [O0 n [Ad g], U0 t b.1, U0 u b.2.1, U9 k b.2.2]) ⟨M, I2⟩ ⟨I, J⟩ (pk N4) ?_
 rintro b a1 s ob ⟨k, rfl, rfl⟩ h ae
 refine Ab fun cc a2 => uD ?_
 obtain ⟨Y, ⟨a3, af⟩, h⟩ := A5 h
 refine tX (Af 2 I (uI (Bc 2 (m := Y.1) I I I I I I I a3 (Ae af)) I (uI (Ay 2 Y.1 0 I I I (Ae af) I (y := .V Y.2) I) I (Af 1 I (tY (Ao h I ?_ ?_))))))
 intro a4 h
 refine uA ?_
 subst a2
 refine uB (Ab fun cd a5 => ?_)
 obtain ⟨a, a6, h⟩ := Ac h
 refine tX (Am 4 [.o 0 0] I J1 (tZ [] I (S7 I (.refl _) I I (.cons (.refl _) (.cons (.us 1 I) (.cons (.us 2 I) (.rest _)))) I (bV _ _ _ _ _ a6) dS (by rintro _ _ ⟨_, rfl, rfl⟩; exact ⟨rfl, by intro p hp; simp only [List.mem_cons, List.not_mem_nil, or_false] at hp; rcases hp with rfl <;> exact Y5 fun _ => rfl⟩) ?_)))
 rintro _ _ ⟨l, rfl, rfl⟩
 refine Af 3 I (tZ [] I (Bs W5 4 fun S => tZ [5] I (Bj 5 0 0 [[.V a.1.In, .V a.1.Out, .v l, .V a.1.Rate]] I (Af 1 I (tY ?_)))))
 subst a5
 refine Ab fun ce a7 => Ea 60 ((!a.2) || (((b.2.2.length : Int) == 64) || decide ((a.1.Hops.length : Int) > 32))) ?_ ?_
 refine tX (Af 3 I ?_)
 rcases bt ((!a.2)) with B | B
 exact Ah 50 I B (Af 10 I (tY (jf (by simp only [B, bz]) I I I2)))
 refine Ah 50 I B (Af 1 I (Bx I I I (uI (Bp 3 I I I I) I (Af 3 I ?_))))
 rcases bt (((b.2.2.length : Int) == 64)) with P | P
 exact Ah 55 I P (Af 5 I (tY (jf (by simp only [B, P, bz]) I I I2)))
 exact Ah 55 I P (Am 2 [.o 1 5] I J1 (Bx I I I (uI (Bp 4 I I I I) I (Af 2 I (tY (jf (by simp only [B, P, bz]) I I I2))))))
 refine Ao h I ?_ ?_
 intro a8 h
 refine Ai I ?_
 obtain rfl := ae _ (oi h).symm
 have h := ad
 have h := Dk h
 obtain rfl := ac _ (oi h).symm
 have h := ab
 have h := Dk h
 refine uF (Az 62 4) (C9 [6] I ?_)
 cases io h
 exact uE ⟨.inr I, [_, _], [.us nS 62 4 ([].map Gh)], J2, Cb I (B0), ⟨nS, I2⟩⟩
 intro a8 h
 refine uA ?_
 subst a7
 refine Ab fun cf a9 => ?_
 obtain ⟨e, ⟨ag, D⟩, h⟩ := A5 h
 refine Bz 2 e.1 I D fun ba => Bz 2 e.1 I D fun bb => Bk cF [5, 2] [_, _] I (Bv 6 [.o 2 0, .o 5 0] I J2 (uN I (Av (m := e.1) I I I I I ba I ag D) I (AP.o I (Ay 1 e.1 0 I I I (Ae D) I (y := .V e.2) I) I (Bv 3 [.o 1 0] I J1 (uN I (Av (m := e.1) I I I I I bb I ag D) I (uR [2] I I I (Bd 2 e.1 0 I I I (Ae D) I I I I (Ba I) I (Ce (x := wr (e.2 - a.1.Rate)) I) (Ap (tY ?_)))))))))
 subst a9
 refine Ab fun cg bc => ?_
 obtain ⟨f, ⟨ah, E⟩, h⟩ := A5 h
 refine Bz 2 f.1 I E fun bd => Bz 2 f.1 I E fun be => Bk cF [5, 2] [_, _] I (Bv 6 [.o 2 0, .o 5 0] I J2 (uN I (Av (m := f.1) I I I I I bd I ah E) I (AP.o I (Ay 1 f.1 0 I I I (Ae E) I (y := .V f.2) I) I (Bv 3 [.o 1 0] I J1 (uN I (Av (m := f.1) I I I I I be I ah E) I (uR [2] I I I (Bd 2 f.1 0 I I I (Ae E) I I I I (Ba I) I (Ce (x := wr (f.2 + a.1.Rate)) I) (Ap (tY ?_)))))))))
 subst bc
 refine Aj (fun s ob => ∃ (U : Li), Wj.J5 b a e f U = some a1 ∧ s = [] ∧ ob = [O0 n [Ad g], U0 t U, .us u 3 1 (((b.2.1.set e.1 (wr (e.2 - a.1.Rate))).set f.1 (wr (f.2 + a.1.Rate))).map rI), U9 k b.2.2, U3 l a.1.Hops, O7 S [[.V a.1.In, .V a.1.Out, .v l, .V a.1.Rate]]]) (K6 2 7 8 9 10 11) J6 ?_ ?_
 refine Ai I (uB ?_)
 obtain ⟨ci, bf, bg⟩ := Ac h
 refine Ci bf (K6 2 7 8 9 10 11) J6 (fun (A : Li × Int) s ob => s = [(13, .V A.2)] ∧ ob = [O0 n [Ad g], U0 t A.1, .us u 3 1 (((b.2.1.set e.1 (wr (e.2 - a.1.Rate))).set f.1 (wr (f.2 + a.1.Rate))).map rI), U9 k b.2.2, U3 l a.1.Hops, O7 S [[.V a.1.In, .V a.1.Out, .v l, .V a.1.Rate]]]) ⟨I, I⟩ ⟨I, J⟩ (pk N6) ?_
 rintro A bh s ob ⟨rfl, rfl⟩ h bi
 refine Ab fun cj bj => uD (tX (Am 3 [.o 2 5] I J1 (uI (Bp 4 I I I I) I (Af 1 I (tY (Ao h I ?_ ?_))))))
 intro bk h
 refine uA ?_
 subst bj
 refine Aj (fun s ob => ∃ (Z : Li), Wj.J7 A Z = some bh ∧ s = [] ∧ ob = [O0 n [Ad g], U0 t Z, .us u 3 1 (((b.2.1.set e.1 (wr (e.2 - a.1.Rate))).set f.1 (wr (f.2 + a.1.Rate))).map rI), U9 k b.2.2, U3 l a.1.Hops, O7 S [[.V a.1.In, .V a.1.Out, .v l, .V a.1.Rate]]]) (K7 2 7 8 9 10 11 13) J7 ?_ ?_
 refine uB (Ab fun ck bl => ?_)
 obtain ⟨W, ⟨bm, ai⟩, h⟩ := A5 h
 refine tX (Am 3 [.o 1 5] I J1 (uI (Bc 4 (m := W.1) I I I I I I I bm (Ae ai)) I (uI (Ay 4 W.1 0 I I I (Ae ai) I (y := .agg (Df W.2)) I) I (tZ [] I (Bs [.V 0, .v (.bool false)] 2 fun cl => tZ [6] I (Bj 6 0 0 [Df W.2] I (tY ?_)))))))
 subst bl
 refine Bg [.o 1 6] I J1 (Ao h I ?_ ?_)
 intro bn h
 obtain ⟨i, ⟨aj, F⟩, h⟩ := A5 h
 exact Bz 1 i.1 I F fun bo => Bz 1 i.1 I F fun bp => Bk cF [6, 1, 5] [_, _, _] I (Bv 6 [.o 2 0, .o 5 0] I J2 (uN I (Av (m := i.1) I I I I I bo I aj F) I (AP.o I (Ay 1 i.1 0 I I I (Ae F) I (y := .V i.2) I) I (Bv 3 [.o 1 2] I J1 (uN I (Av (m := i.1) I I I I I bp I aj F) I (uR [1] I I I (Bd 1 i.1 0 I I I (Ae F) I I I I (Ba I) I (Ce (x := wr (i.2 + a.1.Rate)) I) (Ap (tY (lg ⟨(A.1.set i.1 (wr (i.2 + a.1.Rate))), h, I2⟩ N6))))))))))
 intro bn h
 obtain ⟨j, ⟨ak, G⟩, h⟩ := A5 h
 exact Bz 1 j.1 I G fun bq => Bz 1 j.1 I G fun br => Bk cF [6, 1, 5] [_, _, _] I (Bv 6 [.o 2 0, .o 5 0] I J2 (uN I (Av (m := j.1) I I I I I bq I ak G) I (AP.o I (Ay 1 j.1 0 I I I (Ae G) I (y := .V j.2) I) I (Bv 3 [.o 1 2] I J1 (uN I (Av (m := j.1) I I I I I br I ak G) I (uR [1] I I I (Bd 1 j.1 0 I I I (Ae G) I I I I (Ba I) I (Ce (x := wr (j.2 - a.1.Rate)) I) (Ap (tY (lg ⟨(A.1.set j.1 (wr (j.2 - a.1.Rate))), h, I2⟩ N6))))))))))
 rintro s ob ⟨Z, h, rfl, rfl⟩
 unfold Wj.J7 at h
 refine tX (Af 3 I ?_)
 cases io h
 exact tY ⟨_, _, _, I, I2, J7, pk N6⟩
 intro bk h
 obtain rfl := bi _ (oi h).symm
 have h := bg
 exact uG (lg ⟨A.1, h, I2⟩ N6)
 rintro s ob ⟨U, h, rfl, rfl⟩
 obtain ⟨cm, bs, h⟩ := Ac h
 refine tX (Am 2 [.o 1 5] I J1 (uP (Ax [4] (K := [U3 l a.1.Hops]) I [(124, .agg [.V a.1.In, .V a.1.Out, Q7 a.1.Hops, .V a.1.Rate])] ⟨⟨_, I, .agg (.cons (.refl _) (.cons (.refl _) (.cons (.us 0 I) (.rest _))))⟩, J⟩ (ob' := [O0 n [Ad g], U0 t U, .us u 3 1 (((b.2.1.set e.1 (wr (e.2 - a.1.Rate))).set f.1 (wr (f.2 + a.1.Rate))).map rI), U9 k b.2.2, O7 S [Gh a.1]]) (.cons (.same _) (.cons (.same _) (.cons (.same _) (.cons (.same _) (.cons (.arr (.cons (.refl _) (.cons (.refl _) (.cons (.us 0 I) (.rest _))))) (.rest _))))))) (tZ [] I (uH 4 (([a.1] : List Path).map Gh) (tZ [3] I (uO 3 I bs fun bu => Af 1 I ?_))))))
 cases io h
 exact tY ⟨_, _, _, I, ⟨bu, I2⟩, J5, pk N4⟩
 intro a4 h
 obtain rfl := ae _ (oi h).symm
 have h := ad
 have h := Dj h
 exact uG (lg ⟨(b.1, b.2.1, b.2.2), k, h, I2⟩ N4)
 rintro s ob ⟨O, R, h, rfl, rfl⟩
 unfold Wj.J3 at h
 refine tX (Af 3 I ?_)
 cases io h
 exact tY ⟨_, _, _, I, ⟨R, I2⟩, J5, pk N4⟩
 intro az h
 obtain rfl := ac _ (oi h).symm
 have h := ab
 have h := Dj h
 exact uG (lg ⟨w.2.2.1, M, h, I2⟩ [3])
 rintro s ob ⟨Q, H, h, rfl, rfl⟩
 unfold Wj.J1 at h
 refine Ai I ?_
 cases io h
 exact uE ⟨.inr I, [_, _], [U9 H Q], J2, Cb I (B0), ⟨H, I2⟩⟩
theorem gZ (f : Nat) (Q : KS) (R : Plan) (r : Plan × KS) (h : Ri Q R = some r) : ACalls Ak 16 [.P f, .agg (Aq R)] [O2 f [Bi Q]] (E8 1 fun x os new => x = .agg (Aq r.1) ∧ os = [O2 f [Bi r.2]] ∧ new = []) := by
 refine Ag Tryz.func16 I I I fun C hC => ?_
 unfold Ri at h
 refine Ab fun y1 ak => tX (tZ [] I (Cf (Aq R) 3 fun S => tZ [] I (Bs W0 3 fun U => tY ?_)))
 subst ak
 refine Aj (fun s ob => ∃ (g : Li × Li × (List Bool)) (u : Value) (w : Value) (A : Value), Ri.J1 Q g = some r ∧ s = [] ∧ ob = [O2 f [Bi Q], O1 S [[.v u, .v w, .v A]], O1 U [W0], U0 u g.1, U0 w g.2.1, U4 A g.2.2]) (K3 0 3 4) J3 ?_ ?_
 obtain ⟨Z, al, h⟩ := Ac h
 obtain ⟨aa, am, h⟩ := Ac h
 obtain ⟨ab, an, h⟩ := Ac h
 refine Bk (.still 1 (.still 2 (.still 5 (.still 6 (.still 9 (.still 10 (.par [(0, []), (3, [0]), (4, []), (7, [4]), (8, []), (11, [8])] (.still 12 (.drop 13 .nil))))))))) [1] [_] I (Bv 6 [.o 1 0, .o 3 0, .o 5 0] I J3 (AP.any [⟨0, [], 5, .lt 3 1⟩, ⟨3, [0], 8, .ap 0 3 1 (Z.map rI)⟩, ⟨4, [], 9, .lt 3 1⟩, ⟨7, [4], 12, .ap 4 3 1 (aa.map rI)⟩, ⟨8, [], 13, .lt 4 1⟩, ⟨11, [8], 16, .ap 8 4 1 (ab.map rB)⟩] I ⟨⟨_, I, I, I, fun _ => uM (sz := 1) (es := ([] : Li).map rI) I I I I I I I I I I I dS fun v => ⟨_, I, ⟨v, I⟩, I⟩⟩, ⟨_, I, I, I, fun _ _ _ => uO (la := []) (fr := rI) 0 I al fun v => ⟨v, I2⟩⟩, ⟨_, I, I, I, fun _ => uM (sz := 1) (es := ([] : Li).map rI) I I I I I I I I I I I dS fun v => ⟨_, I, ⟨v, I⟩, I⟩⟩, ⟨_, I, I, I, fun _ _ _ => uO (la := []) (fr := rI) 0 I am fun v => ⟨v, I2⟩⟩, ⟨_, I, I, I, fun _ => uM (sz := 1) (es := ([] : List Bool).map rB) I I I I I I I I I I I dS fun v => ⟨_, I, ⟨v, I⟩, I⟩⟩, ⟨_, I, I, I, fun _ _ _ => uO (la := []) (fr := rB) 0 I an fun v => ⟨v, I2⟩⟩, J⟩ ?_))
 intro _ _ W ac _ _ X ad _ _ Y ae
 exact uW 3 I fun ac => uW 4 I fun ad => uW 5 I fun ae => AP.p I (Bl (l := [.v W, .v X, .v Y]) I6 (Ds I I (Bw ac) I (Ds I I (Bw ad) I (Ds I I (Bw ae) I (H6))))) I (uR [1] I I I (Bj 1 0 0 [[.v W, .v X, .v Y]] I (Ap (tY (lg ⟨(Z, aa, ab), W, X, Y, h, I2⟩ N6)))))
 rintro s ob ⟨g, u, w, A, h, rfl, rfl⟩
 unfold Ri.J1 at h
 refine Aj (fun s ob => ∃ (i : Li × Int × Li × Li × (List Bool)) (G : Value) (H : Value), Ri.J2 i = some r ∧ s = [] ∧ ob = [O2 f [[Q0 i.1, .V i.2.1]], O1 S [[.v u, .v G, .v H]], O1 U [W0], U0 u i.2.2.1, U0 G i.2.2.2.1, U4 H i.2.2.2.2]) (K2 3 4) J2 ?_ ?_
 refine Ab fun bb ao => ?_
 obtain ⟨M, aq, h⟩ := Ac h
 refine tX (Af 1 I (tZ [0] I (A0 [0] (Bm f _ _ _ aq) ?_)))
 refine tY ?_
 subst ao
 refine uB (Ai I (Ao h I ?_ ?_))
 intro ar h
 obtain ⟨au, av, h⟩ := Ac h
 exact tX (Am 2 [.o 1 1] I J1 (tZ [] I (uH 1 (([true] : List Bool).map rB) (tZ [5] I (uO 5 I av fun af => Af 1 I (uV 5 I fun aw => tZ [1] I (uL 1 0 2 (es' := [[.v u, .v w, .v af]]) I I I I I I (Bw aw) I (Ba I) I I (tY (lg ⟨(M.2.L_, M.2.At, g.1, g.2.1, au), w, af, h, I2⟩ N6)))))))))
 intro ar h
 refine Ai I (Ao h I ?_ ?_)
 intro ax h
 obtain ⟨ag, ay, h⟩ := Ac h
 obtain ⟨az, a0, h⟩ := Ac h
 refine Cu 4 I fun a1 => Bk (sl 7 0 (.act 7 (.act 8 (.still 9 (.drop 10 .nil))))) [1] [_] I (Bv 5 [.o 1 0, .o 4 0] I J2 (uN I (Ct I I I a1) I (A3 1 I (uC [0] I I I (A0 [0] (Bm f _ _ _ ay) ?_)))))
 exact uC [4] I I I (dQ 4 I a0 fun ah => A3 1 I (uW 4 I fun a2 => uR [1] I I I (uL 1 0 1 (es' := [[.v u, .v ah, .v A]]) I I I I I I (Bw a2) I (Ba I) I I (Ap (tY (lg ⟨(ag.2.L_, ag.2.At, g.1, az, g.2.2), ah, A, h, I2⟩ N6))))))
 intro ax h
 refine Ai I (Ao h I ?_ ?_)
 intro a3 h
 refine Ab fun bc a4 => tX (Am 2 [.o 1 1] I J1 (uI (Bp 4 I I I I) I (Af 1 I (tY ?_))))
 subst a4
 refine Ao h I ?_ ?_
 intro a5 h
 obtain ⟨bd, ai, h⟩ := Ac h
 obtain ⟨a, ⟨j, c⟩, h⟩ := A5 h
 obtain ⟨n, B, h⟩ := Ac h
 refine Cu 4 I fun a6 => Bz 4 a.1 I c fun O => Bz 4 a.1 I c fun D => Bk qV [1] [_] I (Bv 5 [.o 1 0, .o 4 0] I J2 (uN I (Ct I I I a6) I (A3 1 I (uQ ?_ ?_))))
 refine uC [0] I I I (A0 [0] (Bm f _ _ _ ai) ?_)
 refine uQ ?_ ?_
 refine uC [] I I I (Bf (uS (Av (m := a.1) I I I I I O I j c)) dS (uQ ?_ ?_))
 refine uC [] I I I (Bf (Ay 4 a.1 0 I I I (Ae c) I (y := .V a.2) I) dS (uC [] I I I (uH 1 (([1, (-1), 1001, (-4611686018427387904)] : Li).map rI) (uC [0] I I I (A0 [0] (Al f _ _ _ B) ?_)))))
 refine A3 1 I (uC [] I I I (Bf (uS (Av (m := a.1) I I I I I D I j c)) dS (uC [4] I I I (Bd 4 a.1 0 I I I (Ae c) I I I I (Ba I) I (Ce (x := wr (a.2 + n.1)) I) (Ap (tY ?_))))))
 rotate_left
 refine uC [] I I I (uH 1 (([1, (-1), 1001, (-4611686018427387904)] : Li).map rI) (uQ ?_ ?_))
 refine uC [] I I I (Bf (Ay 4 a.1 0 I I I (Ae c) I (y := .V a.2) I) dS (uC [0] I I I (A0 [0] (Al f _ _ _ B) ?_)))
 refine A3 1 I (uC [] I I I (Bf (uS (Av (m := a.1) I I I I I D I j c)) dS (uC [4] I I I (Bd 4 a.1 0 I I I (Ae c) I I I I (Ba I) I (Ce (x := wr (a.2 + n.1)) I) (Ap (tY ?_))))))
 rotate_left
 refine uC [0] I I I (A0 [0] (Al f _ _ _ B) ?_)
 refine uC [] I I I (Bf (Ay 4 a.1 0 I I I (Ae c) I (y := .V a.2) I) dS (A3 1 I (uC [] I I I (Bf (uS (Av (m := a.1) I I I I I D I j c)) dS (uC [4] I I I (Bd 4 a.1 0 I I I (Ae c) I I I I (Ba I) I (Ce (x := wr (a.2 + n.1)) I) (Ap (tY ?_))))))))
 rotate_left
 refine uC [] I I I (uH 1 (([1, (-1), 1001, (-4611686018427387904)] : Li).map rI) (uQ ?_ ?_))
 refine uC [] I I I (Bf (uS (Av (m := a.1) I I I I I O I j c)) dS (uQ ?_ ?_))
 refine uC [] I I I (Bf (Ay 4 a.1 0 I I I (Ae c) I (y := .V a.2) I) dS (uC [0] I I I (A0 [0] (Al f _ _ _ B) ?_)))
 refine A3 1 I (uC [] I I I (Bf (uS (Av (m := a.1) I I I I I D I j c)) dS (uC [4] I I I (Bd 4 a.1 0 I I I (Ae c) I I I I (Ba I) I (Ce (x := wr (a.2 + n.1)) I) (Ap (tY ?_))))))
 rotate_left
 refine uC [0] I I I (A0 [0] (Al f _ _ _ B) ?_)
 refine uC [] I I I (Bf (Ay 4 a.1 0 I I I (Ae c) I (y := .V a.2) I) dS (A3 1 I (uC [] I I I (Bf (uS (Av (m := a.1) I I I I I D I j c)) dS (uC [4] I I I (Bd 4 a.1 0 I I I (Ae c) I I I I (Ba I) I (Ce (x := wr (a.2 + n.1)) I) (Ap (tY ?_))))))))
 rotate_left
 refine uC [0] I I I (A0 [0] (Al f _ _ _ B) ?_)
 refine uC [] I I I (Bf (uS (Av (m := a.1) I I I I I O I j c)) dS (uC [] I I I (Bf (Ay 4 a.1 0 I I I (Ae c) I (y := .V a.2) I) dS (A3 1 I (uC [] I I I (Bf (uS (Av (m := a.1) I I I I I D I j c)) dS (uC [4] I I I (Bd 4 a.1 0 I I I (Ae c) I I I I (Ba I) I (Ce (x := wr (a.2 + n.1)) I) (Ap (tY ?_))))))))))
 rotate_left
 refine uC [] I I I (uH 1 (([1, (-1), 1001, (-4611686018427387904)] : Li).map rI) (uC [0] I I I (A0 [0] (Bm f _ _ _ ai) ?_)))
 refine uQ ?_ ?_
 refine uC [] I I I (Bf (uS (Av (m := a.1) I I I I I O I j c)) dS (uQ ?_ ?_))
 refine uC [] I I I (Bf (Ay 4 a.1 0 I I I (Ae c) I (y := .V a.2) I) dS (uC [0] I I I (A0 [0] (Al f _ _ _ B) ?_)))
 refine A3 1 I (uC [] I I I (Bf (uS (Av (m := a.1) I I I I I D I j c)) dS (uC [4] I I I (Bd 4 a.1 0 I I I (Ae c) I I I I (Ba I) I (Ce (x := wr (a.2 + n.1)) I) (Ap (tY ?_))))))
 rotate_left
 refine uC [0] I I I (A0 [0] (Al f _ _ _ B) ?_)
 refine uC [] I I I (Bf (Ay 4 a.1 0 I I I (Ae c) I (y := .V a.2) I) dS (A3 1 I (uC [] I I I (Bf (uS (Av (m := a.1) I I I I I D I j c)) dS (uC [4] I I I (Bd 4 a.1 0 I I I (Ae c) I I I I (Ba I) I (Ce (x := wr (a.2 + n.1)) I) (Ap (tY ?_))))))))
 rotate_left
 refine uC [0] I I I (A0 [0] (Al f _ _ _ B) ?_)
 refine uC [] I I I (Bf (uS (Av (m := a.1) I I I I I O I j c)) dS (uC [] I I I (Bf (Ay 4 a.1 0 I I I (Ae c) I (y := .V a.2) I) dS (A3 1 I (uC [] I I I (Bf (uS (Av (m := a.1) I I I I I D I j c)) dS (uC [4] I I I (Bd 4 a.1 0 I I I (Ae c) I I I I (Ba I) I (Ce (x := wr (a.2 + n.1)) I) (Ap (tY ?_))))))))))
 any_goals
  exact lg ⟨(n.2.L_, n.2.At, g.1, (g.2.1.set a.1 (wr (a.2 + n.1))), g.2.2), w, A, h, I2⟩ N6
 intro a5 h
 exact uA (lg ⟨(M.2.L_, M.2.At, g.1, g.2.1, g.2.2), w, A, h, I2⟩ N6)
 intro a3 h
 refine Ab fun be a7 => tX (Am 2 [.o 1 1] I J1 (uI (Bp 3 I I I I) I (Af 1 I (tY ?_))))
 subst a7
 refine Ao h I ?_ ?_
 intro a8 h
 obtain ⟨bf, aj, h⟩ := Ac h
 obtain ⟨b, ⟨k, e⟩, h⟩ := A5 h
 obtain ⟨t, E, h⟩ := Ac h
 refine Cu 3 I fun a9 => Bz 3 b.1 I e fun P => Bz 3 b.1 I e fun F => Bk qV [1] [_] I (Bv 5 [.o 1 0, .o 4 0] I J2 (uN I (Ct I I I a9) I (A3 1 I (uQ ?_ ?_))))
 refine uC [0] I I I (A0 [0] (Bm f _ _ _ aj) ?_)
 refine uQ ?_ ?_
 refine uC [] I I I (Bf (uS (Av (m := b.1) I I I I I P I k e)) dS (uQ ?_ ?_))
 refine uC [] I I I (Bf (Ay 3 b.1 0 I I I (Ae e) I (y := .V b.2) I) dS (uC [] I I I (uH 1 (([1, (-1), 5, 1001, 4611686018427387904, (-4611686018427387904)] : Li).map rI) (uC [0] I I I (A0 [0] (Al f _ _ _ E) ?_)))))
 refine A3 1 I (uC [] I I I (Bf (uS (Av (m := b.1) I I I I I F I k e)) dS (uC [3] I I I (Bd 3 b.1 0 I I I (Ae e) I I I I (Ba I) I (Ce (x := wr (b.2 + t.1)) I) (Ap (tY ?_))))))
 rotate_left
 refine uC [] I I I (uH 1 (([1, (-1), 5, 1001, 4611686018427387904, (-4611686018427387904)] : Li).map rI) (uQ ?_ ?_))
 refine uC [] I I I (Bf (Ay 3 b.1 0 I I I (Ae e) I (y := .V b.2) I) dS (uC [0] I I I (A0 [0] (Al f _ _ _ E) ?_)))
 refine A3 1 I (uC [] I I I (Bf (uS (Av (m := b.1) I I I I I F I k e)) dS (uC [3] I I I (Bd 3 b.1 0 I I I (Ae e) I I I I (Ba I) I (Ce (x := wr (b.2 + t.1)) I) (Ap (tY ?_))))))
 rotate_left
 refine uC [0] I I I (A0 [0] (Al f _ _ _ E) ?_)
 refine uC [] I I I (Bf (Ay 3 b.1 0 I I I (Ae e) I (y := .V b.2) I) dS (A3 1 I (uC [] I I I (Bf (uS (Av (m := b.1) I I I I I F I k e)) dS (uC [3] I I I (Bd 3 b.1 0 I I I (Ae e) I I I I (Ba I) I (Ce (x := wr (b.2 + t.1)) I) (Ap (tY ?_))))))))
 rotate_left
 refine uC [] I I I (uH 1 (([1, (-1), 5, 1001, 4611686018427387904, (-4611686018427387904)] : Li).map rI) (uQ ?_ ?_))
 refine uC [] I I I (Bf (uS (Av (m := b.1) I I I I I P I k e)) dS (uQ ?_ ?_))
 refine uC [] I I I (Bf (Ay 3 b.1 0 I I I (Ae e) I (y := .V b.2) I) dS (uC [0] I I I (A0 [0] (Al f _ _ _ E) ?_)))
 refine A3 1 I (uC [] I I I (Bf (uS (Av (m := b.1) I I I I I F I k e)) dS (uC [3] I I I (Bd 3 b.1 0 I I I (Ae e) I I I I (Ba I) I (Ce (x := wr (b.2 + t.1)) I) (Ap (tY ?_))))))
 rotate_left
 refine uC [0] I I I (A0 [0] (Al f _ _ _ E) ?_)
 refine uC [] I I I (Bf (Ay 3 b.1 0 I I I (Ae e) I (y := .V b.2) I) dS (A3 1 I (uC [] I I I (Bf (uS (Av (m := b.1) I I I I I F I k e)) dS (uC [3] I I I (Bd 3 b.1 0 I I I (Ae e) I I I I (Ba I) I (Ce (x := wr (b.2 + t.1)) I) (Ap (tY ?_))))))))
 rotate_left
 refine uC [0] I I I (A0 [0] (Al f _ _ _ E) ?_)
 refine uC [] I I I (Bf (uS (Av (m := b.1) I I I I I P I k e)) dS (uC [] I I I (Bf (Ay 3 b.1 0 I I I (Ae e) I (y := .V b.2) I) dS (A3 1 I (uC [] I I I (Bf (uS (Av (m := b.1) I I I I I F I k e)) dS (uC [3] I I I (Bd 3 b.1 0 I I I (Ae e) I I I I (Ba I) I (Ce (x := wr (b.2 + t.1)) I) (Ap (tY ?_))))))))))
 rotate_left
 refine uC [] I I I (uH 1 (([1, (-1), 5, 1001, 4611686018427387904, (-4611686018427387904)] : Li).map rI) (uC [0] I I I (A0 [0] (Bm f _ _ _ aj) ?_)))
 refine uQ ?_ ?_
 refine uC [] I I I (Bf (uS (Av (m := b.1) I I I I I P I k e)) dS (uQ ?_ ?_))
 refine uC [] I I I (Bf (Ay 3 b.1 0 I I I (Ae e) I (y := .V b.2) I) dS (uC [0] I I I (A0 [0] (Al f _ _ _ E) ?_)))
 refine A3 1 I (uC [] I I I (Bf (uS (Av (m := b.1) I I I I I F I k e)) dS (uC [3] I I I (Bd 3 b.1 0 I I I (Ae e) I I I I (Ba I) I (Ce (x := wr (b.2 + t.1)) I) (Ap (tY ?_))))))
 rotate_left
 refine uC [0] I I I (A0 [0] (Al f _ _ _ E) ?_)
 refine uC [] I I I (Bf (Ay 3 b.1 0 I I I (Ae e) I (y := .V b.2) I) dS (A3 1 I (uC [] I I I (Bf (uS (Av (m := b.1) I I I I I F I k e)) dS (uC [3] I I I (Bd 3 b.1 0 I I I (Ae e) I I I I (Ba I) I (Ce (x := wr (b.2 + t.1)) I) (Ap (tY ?_))))))))
 rotate_left
 refine uC [0] I I I (A0 [0] (Al f _ _ _ E) ?_)
 refine uC [] I I I (Bf (uS (Av (m := b.1) I I I I I P I k e)) dS (uC [] I I I (Bf (Ay 3 b.1 0 I I I (Ae e) I (y := .V b.2) I) dS (A3 1 I (uC [] I I I (Bf (uS (Av (m := b.1) I I I I I F I k e)) dS (uC [3] I I I (Bd 3 b.1 0 I I I (Ae e) I I I I (Ba I) I (Ce (x := wr (b.2 + t.1)) I) (Ap (tY ?_))))))))))
 any_goals
  exact lg ⟨(t.2.L_, t.2.At, (g.1.set b.1 (wr (b.2 + t.1))), g.2.1, g.2.2), w, A, h, I2⟩ N6
 intro a8 h
 exact uA (lg ⟨(M.2.L_, M.2.At, g.1, g.2.1, g.2.2), w, A, h, I2⟩ N6)
 rintro s ob ⟨i, G, H, h, rfl, rfl⟩
 refine uD (tX (Am 1 [.o 0 1] I J1 (tZ [2] I (Bj 2 0 0 [[.v u, .v G, .v H]] I (tY (uF (Ax [3, 4, 5] (K := [U0 u i.2.2.1, U0 G i.2.2.2.1, U4 H i.2.2.2.2]) I [] J (ob' := [O2 f [[Q0 i.1, .V i.2.1]], O1 S [[.v u, .v G, .v H]], O1 U [[Q0 i.2.2.1, Q0 i.2.2.2.1, Q3 i.2.2.2.2]]]) (.cons (.same _) (.cons (.same _) (.cons (.arr (.cons (.us 0 I) (.cons (.us 1 I) (.cons (.us 2 I) (.rest _))))) (.rest _))))) (C9 [0, 2] I ?_)))))))
 obtain rfl := oi h
 exact uE ⟨.inr I, [_], [O2 f [[Q0 i.1, .V i.2.1]]], ⟨⟨1, _, _, _, _, _, _, _, I5⟩, J⟩, Cb I (B0), ⟨[O2 f [[Q0 i.1, .V i.2.1]]], [], I5⟩⟩
theorem Ks (a : Nat) (c : KS) (b : List Bt) (r : Bt × KS) (h : Nz c b = some r) : ACalls Ak 69 [.P a, Q1 b] [O2 a [Bi c]] (E8 1 fun x os new => x = .v (.string r.1) ∧ os = [O2 a [Bi r.2]] ∧ new = []) := by
 refine Ag Tryz.func69 I I I fun C hC => ?_
 refine Ai I (uD ?_)
 obtain ⟨d, f, h⟩ := Ac h
 obtain ⟨e, ⟨g, i⟩, h⟩ := A5 h
 refine tX (Am 4 [.l 3 (b.length : Int)] I ⟨A4, J⟩ (tZ [0] I (A0 [0] (Bm a _ _ _ f) ?_)))
 refine Am 3 [.x 0 e.1 (rS e.2)] I ⟨⟨g, Ae i⟩, J⟩ (tY ?_)
 obtain rfl := oi h
 exact uE ⟨.inr I, [_], [O2 a [Bi d.2]], J1, Cb I (B0), ⟨[O2 a [Bi d.2]], [], I5⟩⟩
theorem jH (g : Nat) (U : KS) (b : Nw) (r : Nw × KS) (h : R6 U b = some r) : ACalls Ak 27 [.P g, .agg (Ad b)] [O2 g [Bi U]] (E8 1 fun x os new => x = .agg (Ad r.1) ∧ os = [O2 g [Bi r.2]] ∧ new = []) := by
 refine Ag Tryz.func27 I I I fun C hC => ?_
 refine Ab fun y1 bi => tX (tZ [] I (Cf (Ad b) 6 fun D => tZ [] I (Bs W1 6 fun E => tY ?_)))
 subst bi
 refine Cx (s' := [(0, .P g), (3, .P D), (4, .P E)]) (ob' := [O2 g [Bi U], O0 D [Ad b], O0 E [W1]]) ⟨J3, pk N3⟩ (Ab fun y4 bj => ?_)
 obtain ⟨t, bk, h⟩ := Ac h
 refine tX (tZ [] I (uM (sz := 1) (es := ([] : List Bt).map rS) I I I I I I I I I I I dS fun v5 => Am 2 [.o 1 1] I J1 (tZ [3] I (uO 3 I bk fun i => Af 1 I (uV 3 I fun bl => tZ [1] I (uL 1 0 0 (es' := [[.v i, Q6 b.Segments, Q4 b.Ports, Q5 b.Stations, .V b.Vapour, .V b.Settle]]) I I I I I I (Bw bl) I (Ba I) I I (tY ?_)))))))
 subst bj
 refine Cx (s' := [(0, .P g), (3, .P D), (4, .P E)]) (ob' := [O2 g [Bi U], O0 D [[.v i, Q6 b.Segments, Q4 b.Ports, Q5 b.Stations, .V b.Vapour, .V b.Settle]], O0 E [W1], U2 i t]) ⟨J3, pk N4⟩ (Ab fun y9 bm => ?_)
 obtain ⟨H, bn, h⟩ := Ac h
 refine tX (tZ [] I (uM (sz := 7) (es := ([] : List Sg).map Ar) I I I I I I I I I I I dS fun d6 => Am 2 [.o 1 1] I J1 (tZ [4] I (uO 4 I bn fun k => Af 1 I (uV 4 I fun bo => tZ [1] I (uL 1 0 1 (es' := [[.v i, .v k, Q4 b.Ports, Q5 b.Stations, .V b.Vapour, .V b.Settle]]) I I I I I I (Bw bo) I (Ba I) I I (tY ?_)))))))
 subst bm
 refine Cx (s' := [(0, .P g), (3, .P D), (4, .P E)]) (ob' := [O2 g [Bi U], O0 D [[.v i, .v k, Q4 b.Ports, Q5 b.Stations, .V b.Vapour, .V b.Settle]], O0 E [W1], U2 i t, U6 k H]) ⟨J3, pk N5⟩ (Ab fun d7 bp => ?_)
 obtain ⟨u, bq, h⟩ := Ac h
 refine tX (tZ [] I (uM (sz := 3) (es := ([] : List Port).map Ca) I I I I I I I I I I I dS fun d8 => Am 2 [.o 1 1] I J1 (tZ [5] I (uO 5 I bq fun w => Af 1 I (uV 5 I fun br => tZ [1] I (uL 1 0 2 (es' := [[.v i, .v k, .v w, Q5 b.Stations, .V b.Vapour, .V b.Settle]]) I I I I I I (Bw br) I (Ba I) I I (tY ?_)))))))
 subst bp
 refine Cx (s' := [(0, .P g), (3, .P D), (4, .P E)]) (ob' := [O2 g [Bi U], O0 D [[.v i, .v k, .v w, Q5 b.Stations, .V b.Vapour, .V b.Settle]], O0 E [W1], U2 i t, U6 k H, U7 w u]) ⟨J3, pk N6⟩ (Ab fun d9 bs => ?_)
 obtain ⟨A, bt, h⟩ := Ac h
 refine tX (tZ [] I (uM (sz := 5) (es := ([] : List Sn).map Bu) I I I I I I I I I I I dS fun ea => Am 2 [.o 1 1] I J1 (tZ [6] I (uO 6 I bt fun j => Af 1 I (uV 6 I fun bu => tZ [1] I (uL 1 0 3 (es' := [[.v i, .v k, .v w, .v j, .V b.Vapour, .V b.Settle]]) I I I I I I (Bw bu) I (Ba I) I I (tY ?_)))))))
 subst bs
 refine Cx (s' := [(0, .P g), (3, .P D), (4, .P E)]) (ob' := [O2 g [Bi U], O0 D [[.v i, .v k, .v w, .v j, .V b.Vapour, .V b.Settle]], O0 E [W1], U2 i t, U6 k H, U7 w u, U8 j A]) ⟨J3, pk N7⟩ (Ab fun eb bv => ?_)
 obtain ⟨aw, bw, h⟩ := Ac h
 refine tX (Am 3 [.o 2 1] I J1 (uI (Bp 4 I I I I) I (tZ [0] I (A0 [0] (Bm g _ _ _ bw) ?_))))
 refine Af 1 I (tY ?_)
 subst bv
 refine Cx (s' := [(0, .P g), (3, .P D), (4, .P E), (5, .V aw.1)]) (ob' := [O2 g [Bi aw.2], O0 D [[.v i, .v k, .v w, .v j, .V b.Vapour, .V b.Settle]], O0 E [W1], U2 i t, U6 k H, U7 w u, U8 j A]) ⟨J4, pk N7⟩ (Ab fun ec bx => ?_)
 obtain ⟨a, ⟨a0, ag⟩, h⟩ := A5 h
 refine tX (Am 3 [.o 1 1] I J1 (uI (Bc 4 (m := a.1) I I I I I I I a0 (Ae ag)) I (uI (Ay 4 a.1 0 I I I (Ae ag) I (y := .agg (Ar a.2)) I) I (tZ [] I (Bs W2 7 fun X => tZ [7] I (Bj 7 0 0 [Ar a.2] I (tY ?_)))))))
 subst bx
 refine Ab fun ed bz => ?_
 obtain ⟨B, b1, h⟩ := Ac h
 refine tX (tZ [] I (uM (sz := 3) (es := ([] : List Point).map Cy) I I I I I I I I I I I dS fun ee => Am 2 [.o 1 7] I J1 (tZ [8] I (uO 8 I b1 fun n => Af 1 I (uV 8 I fun b4 => tZ [7] I (uL 7 0 6 (es' := [[.v (.string a.2.Name), .V a.2.From, .V a.2.To, .V a.2.Capacity, .V a.2.Resist, .V a.2.Wave, .v n]]) I I I I I I (Bw b4) I (Ba I) I I (tY ?_)))))))
 subst bz
 refine Aj (fun s ob => ∃ (e : Li × Int × (List Bt) × (List Port) × (List Sn) × Int × Int × Int × Int × Int × Int × (List Point)) (M : Value) (O : Value) (ah : Value), R6.J1 H a e = some r ∧ s = [] ∧ ob = [O2 g [[Q0 e.1, .V e.2.1]], O0 D [[.v M, .v k, .v w, .v O, .V e.2.2.2.2.2.1, .V e.2.2.2.2.2.2.1]], O0 E [W1], U2 M e.2.2.1, U6 k H, U7 w e.2.2.2.1, U8 O e.2.2.2.2.1, O5 X [[.v (.string a.2.Name), .V e.2.2.2.2.2.2.2.1, .V a.2.To, .V e.2.2.2.2.2.2.2.2.1, .V e.2.2.2.2.2.2.2.2.2.1, .V e.2.2.2.2.2.2.2.2.2.2.1, .v ah]], qN ah e.2.2.2.2.2.2.2.2.2.2.2]) (K4 3 4 5 6) J4 ?_ ?_
 refine Ab fun ef b5 => ?_
 obtain ⟨Y, b6, h⟩ := Ac h
 refine tX (Af 1 I (tZ [0] I (A0 [0] (Bm g _ _ _ b6) ?_)))
 refine tY ?_
 subst b5
 refine uB (Ai I (Ao h I ?_ ?_))
 intro b7 h
 obtain ⟨eg, a1, h⟩ := Ac h
 obtain ⟨P, a2, h⟩ := Ac h
 obtain ⟨W, ⟨a3, aa⟩, h⟩ := A5 h
 refine Cu 3 I fun b8 => Bz 3 W.1 I aa fun a4 => Bk (sl 6 0 (.still 7 (.two 6 8 (.act 8 (.act 9 (.act 10 (.act 11 .nil)))) (.act 6 (.act 9 (.act 10 (.act 11 .nil))))))) [1] [_] I (Bv 5 [.o 1 0, .o 4 0] I J2 (uN I (Ct I I I b8) I (A3 1 I (uQ ?_ ?_))))
 refine uC [0] I I I (A0 [0] (Bm g _ _ _ a1) ?_)
 refine uC [] I I I (uH 1 (([(⟨#[]⟩ : Bt), (⟨#[110, 97]⟩ : Bt), (⟨#[65]⟩ : Bt), (⟨#[120, 45, 57]⟩ : Bt)] : List Bt).map rS) (uC [0] I I I (A0 [0] (Ks g _ _ _ a2) ?_)))
 exact uC [] I I I (Bf (uS (Av (m := W.1) I I I I I a4 I a3 aa)) dS (uC [3] I I I (Bd 3 W.1 0 I I I (Ae aa) I I I I (Ba I) I (Ce (x := P.1) I) (Ap (tY (lg ⟨(P.2.L_, P.2.At, (t.set W.1 P.1), u, A, b.Vapour, b.Settle, a.2.From, a.2.Capacity, a.2.Resist, a.2.Wave, B), i, j, n, h, I2⟩ N9))))))
 refine uC [] I I I (uH 1 (([(⟨#[]⟩ : Bt), (⟨#[110, 97]⟩ : Bt), (⟨#[65]⟩ : Bt), (⟨#[120, 45, 57]⟩ : Bt)] : List Bt).map rS) (uC [0] I I I (A0 [0] (Bm g _ _ _ a1) ?_)))
 refine uC [0] I I I (A0 [0] (Ks g _ _ _ a2) ?_)
 exact uC [] I I I (Bf (uS (Av (m := W.1) I I I I I a4 I a3 aa)) dS (uC [3] I I I (Bd 3 W.1 0 I I I (Ae aa) I I I I (Ba I) I (Ce (x := P.1) I) (Ap (tY (lg ⟨(P.2.L_, P.2.At, (t.set W.1 P.1), u, A, b.Vapour, b.Settle, a.2.From, a.2.Capacity, a.2.Resist, a.2.Wave, B), i, j, n, h, I2⟩ N9))))))
 intro b7 h
 refine Ai I (Ao h I ?_ ?_)
 intro b9 h
 obtain ⟨ai, ca, h⟩ := Ac h
 refine tX (Am 5 [.o 2 7, .o 4 1] I J2 (uI (Bp 3 I I I I) I (tZ [] I (uH 1 (([(-1), a.2.To, (t.length : Int), 0] : Li).map rI) (tZ [0] I (A0 [0] (Al g _ _ _ ca) ?_))))))
 exact Af 1 I (tZ [7] I (Bj 7 0 1 [[.v (.string a.2.Name), .V ai.1, .V a.2.To, .V a.2.Capacity, .V a.2.Resist, .V a.2.Wave, .v n]] I (tY (lg ⟨(ai.2.L_, ai.2.At, t, u, A, b.Vapour, b.Settle, ai.1, a.2.Capacity, a.2.Resist, a.2.Wave, B), i, j, n, h, I2⟩ N9))))
 intro b9 h
 refine Ai I (Ao h I ?_ ?_)
 intro cb h
 obtain ⟨aj, cc, h⟩ := Ac h
 refine tX (Am 4 [.o 2 7] I J1 (tZ [] I (uH 1 (([0, (-1), wr (a.2.Capacity + 1), 1000001] : Li).map rI) (tZ [0] I (A0 [0] (Al g _ _ _ cc) ?_)))))
 exact Af 1 I (tZ [7] I (Bj 7 0 3 [[.v (.string a.2.Name), .V a.2.From, .V a.2.To, .V aj.1, .V a.2.Resist, .V a.2.Wave, .v n]] I (tY (lg ⟨(aj.2.L_, aj.2.At, t, u, A, b.Vapour, b.Settle, a.2.From, aj.1, a.2.Resist, a.2.Wave, B), i, j, n, h, I2⟩ N9))))
 intro cb h
 refine Ai I (Ao h I ?_ ?_)
 intro cd h
 obtain ⟨ak, ce, h⟩ := Ac h
 refine tX (Af 1 I (tZ [] I (uH 1 (([(-1), 1000, 1001] : Li).map rI) (tZ [0] I (A0 [0] (Al g _ _ _ ce) ?_)))))
 exact Af 1 I (tZ [7] I (Bj 7 0 4 [[.v (.string a.2.Name), .V a.2.From, .V a.2.To, .V a.2.Capacity, .V ak.1, .V a.2.Wave, .v n]] I (tY (lg ⟨(ak.2.L_, ak.2.At, t, u, A, b.Vapour, b.Settle, a.2.From, a.2.Capacity, ak.1, a.2.Wave, B), i, j, n, h, I2⟩ N9))))
 intro cd h
 refine Ai I (Ao h I ?_ ?_)
 intro cf h
 obtain ⟨al, ci, h⟩ := Ac h
 refine tX (Af 1 I (tZ [] I (uH 1 (([(-1), 100000, 100001] : Li).map rI) (tZ [0] I (A0 [0] (Al g _ _ _ ci) ?_)))))
 exact Af 1 I (tZ [7] I (Bj 7 0 5 [[.v (.string a.2.Name), .V a.2.From, .V a.2.To, .V a.2.Capacity, .V a.2.Resist, .V al.1, .v n]] I (tY (lg ⟨(al.2.L_, al.2.At, t, u, A, b.Vapour, b.Settle, a.2.From, a.2.Capacity, a.2.Resist, al.1, B), i, j, n, h, I2⟩ N9))))
 intro cf h
 refine Ai I (Ao h I ?_ ?_)
 intro cj h
 refine Ab fun eh ck => tX (Am 2 [.o 1 7] I J1 (uI (Bp 8 I I I I) I (Af 1 I (tY ?_))))
 subst ck
 refine Ao h I ?_ ?_
 intro cl h
 obtain ⟨ei, a5, h⟩ := Ac h
 obtain ⟨Q, a6, h⟩ := Ac h
 obtain ⟨F, ⟨a7, ab⟩, h⟩ := A5 h
 refine Cu 8 I fun cm => Bz 8 F.1 I ab fun a8 => Bk (sl 6 0 (sl 3 7 (.two 6 10 (.act 10 qR) (.act 6 qR)))) [7] [_] I (Bv 5 [.o 1 0, .o 4 0] I J2 (uN I (Ct I I I cm) I (Bv 3 [.o 2 0] I J1 (uQ ?_ ?_))))
 refine uC [0] I I I (A0 [0] (Bm g _ _ _ a5) ?_)
 refine uC [] I I I (uH 1 (([(-1), 0, 1, a.2.Capacity] : Li).map rI) (uC [0] I I I (A0 [0] (Al g _ _ _ a6) ?_)))
 exact uC [] I I I (Bf (uS (Av (m := F.1) I I I I I a8 I a7 ab)) dS (A3 1 I (uC [8] I I I (Bd 8 F.1 0 I I I (Ae ab) I I I I (Ba I) I (Ce (x := (⟨Q.1, F.2.Height, F.2.Limit⟩ : Point)) I) (Ap (tY (lg ⟨(Q.2.L_, Q.2.At, t, u, A, b.Vapour, b.Settle, a.2.From, a.2.Capacity, a.2.Resist, a.2.Wave, (B.set F.1 (⟨Q.1, F.2.Height, F.2.Limit⟩ : Point))), i, j, n, h, I2⟩ N9)))))))
 refine uC [] I I I (uH 1 (([(-1), 0, 1, a.2.Capacity] : Li).map rI) (uC [0] I I I (A0 [0] (Bm g _ _ _ a5) ?_)))
 refine uC [0] I I I (A0 [0] (Al g _ _ _ a6) ?_)
 exact uC [] I I I (Bf (uS (Av (m := F.1) I I I I I a8 I a7 ab)) dS (A3 1 I (uC [8] I I I (Bd 8 F.1 0 I I I (Ae ab) I I I I (Ba I) I (Ce (x := (⟨Q.1, F.2.Height, F.2.Limit⟩ : Point)) I) (Ap (tY (lg ⟨(Q.2.L_, Q.2.At, t, u, A, b.Vapour, b.Settle, a.2.From, a.2.Capacity, a.2.Resist, a.2.Wave, (B.set F.1 (⟨Q.1, F.2.Height, F.2.Limit⟩ : Point))), i, j, n, h, I2⟩ N9)))))))
 intro cl h
 exact uA (lg ⟨(Y.2.L_, Y.2.At, t, u, A, b.Vapour, b.Settle, a.2.From, a.2.Capacity, a.2.Resist, a.2.Wave, B), i, j, n, h, I2⟩ N9)
 intro cj h
 refine Ai I (Ao h I ?_ ?_)
 intro cn h
 obtain ⟨a9, co, h⟩ := Ac h
 obtain ⟨cp, cq, h⟩ := Ac h
 refine Cu 8 I fun cr => Bk (sl 8 0 (.act 8 (.act 9 (.still 10 (.drop 11 .nil))))) [7] [_] I (Bv 5 [.o 1 0, .o 4 0] I J2 (uN I (Ct I I I cr) I (A3 2 I (uC [0] I I I (A0 [0] (Bm g _ _ _ co) ?_)))))
 exact uC [8] I I I (dQ 8 I cq fun ba => A3 1 I (uW 8 I fun ct => uR [7] I I I (uL 7 0 6 (es' := [[.v (.string a.2.Name), .V a.2.From, .V a.2.To, .V a.2.Capacity, .V a.2.Resist, .V a.2.Wave, .v ba]]) I I I I I I (Bw ct) I (Ba I) I I (Ap (tY (lg ⟨(a9.2.L_, a9.2.At, t, u, A, b.Vapour, b.Settle, a.2.From, a.2.Capacity, a.2.Resist, a.2.Wave, cp), i, j, ba, h, I2⟩ N9))))))
 intro cn h
 refine Ai I (Ao h I ?_ ?_)
 intro cu h
 refine Ab fun ej cv => tX (Am 2 [.o 1 7] I J1 (uI (Bp 8 I I I I) I (Af 1 I (tY ?_))))
 subst cv
 refine Ao h I ?_ ?_
 intro cw h
 obtain ⟨ek, bb, h⟩ := Ac h
 obtain ⟨R, bc, h⟩ := Ac h
 obtain ⟨G, ⟨bd, ac⟩, h⟩ := A5 h
 refine Cu 8 I fun cx => Bz 8 G.1 I ac fun be => Bk (sl 6 0 (.still 7 (.two 6 8 (.act 8 (.act 9 (.act 10 (.still 11 (.act 12 .nil))))) (.act 6 (.act 9 (.act 10 (.still 11 (.act 12 .nil)))))))) [7] [_] I (Bv 5 [.o 1 0, .o 4 0] I J2 (uN I (Ct I I I cx) I (A3 1 I (uQ ?_ ?_))))
 refine uC [0] I I I (A0 [0] (Bm g _ _ _ bb) ?_)
 refine uC [] I I I (uH 1 (([(-501), (-500), 5000, 5001] : Li).map rI) (uC [0] I I I (A0 [0] (Al g _ _ _ bc) ?_)))
 exact uC [] I I I (Bf (uS (Av (m := G.1) I I I I I be I bd ac)) dS (A3 1 I (uC [8] I I I (Bd 8 G.1 1 I I I (Ae ac) I I I I (Ba I) I (Ce (x := (⟨G.2.At, R.1, G.2.Limit⟩ : Point)) I) (Ap (tY (lg ⟨(R.2.L_, R.2.At, t, u, A, b.Vapour, b.Settle, a.2.From, a.2.Capacity, a.2.Resist, a.2.Wave, (B.set G.1 (⟨G.2.At, R.1, G.2.Limit⟩ : Point))), i, j, n, h, I2⟩ N9)))))))
 refine uC [] I I I (uH 1 (([(-501), (-500), 5000, 5001] : Li).map rI) (uC [0] I I I (A0 [0] (Bm g _ _ _ bb) ?_)))
 refine uC [0] I I I (A0 [0] (Al g _ _ _ bc) ?_)
 exact uC [] I I I (Bf (uS (Av (m := G.1) I I I I I be I bd ac)) dS (A3 1 I (uC [8] I I I (Bd 8 G.1 1 I I I (Ae ac) I I I I (Ba I) I (Ce (x := (⟨G.2.At, R.1, G.2.Limit⟩ : Point)) I) (Ap (tY (lg ⟨(R.2.L_, R.2.At, t, u, A, b.Vapour, b.Settle, a.2.From, a.2.Capacity, a.2.Resist, a.2.Wave, (B.set G.1 (⟨G.2.At, R.1, G.2.Limit⟩ : Point))), i, j, n, h, I2⟩ N9)))))))
 intro cw h
 exact uA (lg ⟨(Y.2.L_, Y.2.At, t, u, A, b.Vapour, b.Settle, a.2.From, a.2.Capacity, a.2.Resist, a.2.Wave, B), i, j, n, h, I2⟩ N9)
 intro cu h
 refine Ai I (Ao h I ?_ ?_)
 intro cy h
 refine Ab fun el cz => tX (Am 2 [.o 1 1] I J1 (uI (Bp 5 I I I I) I (Af 1 I (tY ?_))))
 subst cz
 refine Ao h I ?_ ?_
 intro c1 h
 obtain ⟨bf, c2, h⟩ := Ac h
 obtain ⟨ad, c3, h⟩ := Ac h
 obtain ⟨ae, c4, h⟩ := Ac h
 obtain ⟨af, c5, h⟩ := Ac h
 obtain ⟨am, ⟨c6, ax⟩, h⟩ := A5 h
 refine Cu 5 I fun c7 => Cu 3 I fun c8 => Bz 5 am.1 I ax fun c9 => Bk (sl 6 0 (.still 7 (sl 4 10 (.still 16 (.parS [(6, []), (8, []), (9, [6, 8]), (14, []), (15, [6, 8, 9, 14]), (17, [])] [[], [6], [8], [14], [17], [6, 8], [6, 14], [6, 17], [8, 14], [8, 17], [14, 17], [6, 8, 9], [6, 8, 14], [6, 8, 17], [6, 14, 17], [8, 14, 17], [6, 8, 9, 14], [6, 8, 9, 17], [6, 8, 14, 17], [6, 8, 9, 14, 15], [6, 8, 9, 14, 17], [6, 8, 9, 14, 15, 17]] (.act 18 (.still 19 (.act 20 (.act 21 .nil))))))))) [1] [_] I (Bv 5 [.o 1 0, .o 4 0] I J2 (uN I (Ct I I I c7) I (Bv 4 [.o 3 0] I J1 (uN I (Ct I I I c8) I (A3 1 I (Xb [⟨6, [], 174, .V bf.1, [0], [O2 g [Bi bf.2]]⟩, ⟨8, [], 176, .list 1 (([(⟨#[113, 97]⟩ : Bt), (⟨#[113, 98]⟩ : Bt), (⟨#[]⟩ : Bt), (⟨#[122]⟩ : Bt)] : List Bt).map rS), [], []⟩, ⟨9, [6, 8], 177, .v (.string ad.1), [0], [O2 g [Bi ad.2]]⟩, ⟨14, [], 182, .list 1 (([(-1), 0, 1, (t.length : Int)] : Li).map rI), [], []⟩, ⟨15, [6, 8, 9, 14], 183, .V ae.1, [0], [O2 g [Bi ae.2]]⟩, ⟨17, [], 185, .list 1 (([0, (-1), 100000000, 100000001] : Li).map rI), [], []⟩] I ⟨⟨_, I, I, I, fun _ h => by cases h; exact Ex [0] (Bm g _ _ _ c2) (by rintro _ _ _ - ⟨rfl, rfl, rfl⟩; exact ⟨rfl, rfl⟩)⟩, ⟨_, I, I, I, fun _ _ => uH 1 (([(⟨#[113, 97]⟩ : Bt), (⟨#[113, 98]⟩ : Bt), (⟨#[]⟩ : Bt), (⟨#[122]⟩ : Bt)] : List Bt).map rS) I2⟩, ⟨_, I, I, I, fun _ h => by cases h; exact Ex [0] (Ks g _ _ _ c3) (by rintro _ _ _ - ⟨rfl, rfl, rfl⟩; exact ⟨rfl, rfl⟩)⟩, ⟨_, I, I, I, fun _ _ => uH 1 (([(-1), 0, 1, (t.length : Int)] : Li).map rI) I2⟩, ⟨_, I, I, I, fun _ h => by cases h; exact Ex [0] (Al g _ _ _ c4) (by rintro _ _ _ - ⟨rfl, rfl, rfl⟩; exact ⟨rfl, rfl⟩)⟩, ⟨_, I, I, I, fun _ _ => uH 1 (([0, (-1), 100000000, 100000001] : Li).map rI) I2⟩, J⟩ ?_))))))
 refine uC [0] I I I (A0 [0] (Al g _ _ _ c5) ?_)
 exact AP.p I (Bl (l := [.v (.string ad.1), .V ae.1, .V af.1]) Ha I) I (uC [] I I I (Bf (uS (Av (m := am.1) I I I I I c9 I c6 ax)) dS (uC [5] I I I (Bd 5 am.1 0 I I I (Ae ax) I I I I (Ba I) I (Ce (x := (⟨ad.1, ae.1, af.1⟩ : Port)) I) (Ap (tY (lg ⟨(af.2.L_, af.2.At, t, (u.set am.1 (⟨ad.1, ae.1, af.1⟩ : Port)), A, b.Vapour, b.Settle, a.2.From, a.2.Capacity, a.2.Resist, a.2.Wave, B), i, j, n, h, I2⟩ N9)))))))
 intro c1 h
 exact uA (lg ⟨(Y.2.L_, Y.2.At, t, u, A, b.Vapour, b.Settle, a.2.From, a.2.Capacity, a.2.Resist, a.2.Wave, B), i, j, n, h, I2⟩ N9)
 intro cy h
 refine Ai I (Ao h I ?_ ?_)
 intro da h
 obtain ⟨an, db, h⟩ := Ac h
 obtain ⟨ao, dc, h⟩ := Ac h
 obtain ⟨aq, dd, h⟩ := Ac h
 obtain ⟨ar, de, h⟩ := Ac h
 obtain ⟨au, df, h⟩ := Ac h
 obtain ⟨dg, dh, h⟩ := Ac h
 refine Bk (sl 3 0 (.still 5 (.still 8 (.still 11 (.still 14 (.parS [(3, []), (4, [3]), (6, []), (7, [3, 4, 6]), (9, []), (10, [3, 4, 6, 7, 9]), (12, []), (13, [3, 4, 6, 7, 9, 10, 12]), (15, [])] [[], [3], [6], [9], [12], [15], [3, 4], [3, 6], [3, 9], [3, 12], [3, 15], [6, 9], [6, 12], [6, 15], [9, 12], [9, 15], [12, 15], [3, 4, 6], [3, 4, 9], [3, 4, 12], [3, 4, 15], [3, 6, 9], [3, 6, 12], [3, 6, 15], [3, 9, 12], [3, 9, 15], [3, 12, 15], [6, 9, 12], [6, 9, 15], [6, 12, 15], [9, 12, 15], [3, 4, 6, 7], [3, 4, 6, 9], [3, 4, 6, 12], [3, 4, 6, 15], [3, 4, 9, 12], [3, 4, 9, 15], [3, 4, 12, 15], [3, 6, 9, 12], [3, 6, 9, 15], [3, 6, 12, 15], [3, 9, 12, 15], [6, 9, 12, 15], [3, 4, 6, 7, 9], [3, 4, 6, 7, 12], [3, 4, 6, 7, 15], [3, 4, 6, 9, 12], [3, 4, 6, 9, 15], [3, 4, 6, 12, 15], [3, 4, 9, 12, 15], [3, 6, 9, 12, 15], [3, 4, 6, 7, 9, 10], [3, 4, 6, 7, 9, 12], [3, 4, 6, 7, 9, 15], [3, 4, 6, 7, 12, 15], [3, 4, 6, 9, 12, 15], [3, 4, 6, 7, 9, 10, 12], [3, 4, 6, 7, 9, 10, 15], [3, 4, 6, 7, 9, 12, 15], [3, 4, 6, 7, 9, 10, 12, 13], [3, 4, 6, 7, 9, 10, 12, 15], [3, 4, 6, 7, 9, 10, 12, 13, 15]] (.act 16 (.still 17 (.act 18 (.act 19 (.still 20 (.drop 21 .nil)))))))))))) [1] [_] I (Bv 7 [.o 1 0] I J1 (Xb [⟨3, [], 194, .list 1 (([(⟨#[115, 97]⟩ : Bt), (⟨#[115, 122]⟩ : Bt), (⟨#[]⟩ : Bt)] : List Bt).map rS), [], []⟩, ⟨4, [3], 195, .v (.string an.1), [0], [O2 g [Bi an.2]]⟩, ⟨6, [], 197, .list 1 (([(-1), 0, 0, 1, 99] : Li).map rI), [], []⟩, ⟨7, [3, 4, 6], 198, .V ao.1, [0], [O2 g [Bi ao.2]]⟩, ⟨9, [], 200, .list 1 (([0, (-1)] : Li).map rI), [], []⟩, ⟨10, [3, 4, 6, 7, 9], 201, .V aq.1, [0], [O2 g [Bi aq.2]]⟩, ⟨12, [], 203, .list 1 (([0, 100001] : Li).map rI), [], []⟩, ⟨13, [3, 4, 6, 7, 9, 10, 12], 204, .V ar.1, [0], [O2 g [Bi ar.2]]⟩, ⟨15, [], 206, .list 1 (([0, (-1)] : Li).map rI), [], []⟩] I ⟨⟨_, I, I, I, fun _ _ => uH 1 (([(⟨#[115, 97]⟩ : Bt), (⟨#[115, 122]⟩ : Bt), (⟨#[]⟩ : Bt)] : List Bt).map rS) I2⟩, ⟨_, I, I, I, fun _ h => by cases h; exact Ex [0] (Ks g _ _ _ db) (by rintro _ _ _ - ⟨rfl, rfl, rfl⟩; exact ⟨rfl, rfl⟩)⟩, ⟨_, I, I, I, fun _ _ => uH 1 (([(-1), 0, 0, 1, 99] : Li).map rI) I2⟩, ⟨_, I, I, I, fun _ h => by cases h; exact Ex [0] (Al g _ _ _ dc) (by rintro _ _ _ - ⟨rfl, rfl, rfl⟩; exact ⟨rfl, rfl⟩)⟩, ⟨_, I, I, I, fun _ _ => uH 1 (([0, (-1)] : Li).map rI) I2⟩, ⟨_, I, I, I, fun _ h => by cases h; exact Ex [0] (Al g _ _ _ dd) (by rintro _ _ _ - ⟨rfl, rfl, rfl⟩; exact ⟨rfl, rfl⟩)⟩, ⟨_, I, I, I, fun _ _ => uH 1 (([0, 100001] : Li).map rI) I2⟩, ⟨_, I, I, I, fun _ h => by cases h; exact Ex [0] (Al g _ _ _ de) (by rintro _ _ _ - ⟨rfl, rfl, rfl⟩; exact ⟨rfl, rfl⟩)⟩, ⟨_, I, I, I, fun _ _ => uH 1 (([0, (-1)] : Li).map rI) I2⟩, J⟩ ?_))
 refine uC [0] I I I (A0 [0] (Al g _ _ _ df) ?_)
 exact AP.p I (Bl (l := [.v (.string an.1), .V ao.1, .V aq.1, .V ar.1, .V au.1]) Tn I) I (uC [] I I I (uH 5 (([(⟨an.1, ao.1, aq.1, ar.1, au.1⟩ : Sn)] : List Sn).map Bu) (uC [6] I I I (uO 6 I dh fun bg => A3 1 I (uW 6 I fun di => uR [1] I I I (uL 1 0 3 (es' := [[.v i, .v k, .v w, .v bg, .V b.Vapour, .V b.Settle]]) I I I I I I (Bw di) I (Ba I) I I (Ap (tY (lg ⟨(au.2.L_, au.2.At, t, u, dg, b.Vapour, b.Settle, a.2.From, a.2.Capacity, a.2.Resist, a.2.Wave, B), i, bg, n, h, I2⟩ N9)))))))))
 intro da h
 refine Ai I (Ao h I ?_ ?_)
 intro dj h
 obtain ⟨ay, dk, h⟩ := Ac h
 obtain ⟨av, dl, h⟩ := Ac h
 refine tX (Af 1 I (tZ [] I (uH 1 (([0, (-100001), 100000001] : Li).map rI) (tZ [0] I (A0 [0] (Al g _ _ _ dk) ?_)))))
 refine Af 1 I (tZ [] I (uH 1 (([0, (-1), 101] : Li).map rI) (tZ [0] I (A0 [0] (Al g _ _ _ dl) ?_))))
 exact Af 1 I (tZ [1] I (Bj 1 0 4 [[.v i, .v k, .v w, .v j, .V ay.1, .V b.Settle]] I (Af 1 I (tZ [1] I (Bj 1 0 5 [[.v i, .v k, .v w, .v j, .V ay.1, .V av.1]] I (tY (lg ⟨(av.2.L_, av.2.At, t, u, A, ay.1, av.1, a.2.From, a.2.Capacity, a.2.Resist, a.2.Wave, B), i, j, n, h, I2⟩ N9)))))))
 intro dj h
 refine uB ?_
 obtain ⟨em, dm, dn⟩ := Ac h
 refine Ci dm (K5 0 3 4 5 6) J5 (fun (S : Li × Int × (List Bt)) s ob => ∃ (Z : Value), s = [] ∧ ob = [O2 g [[Q0 S.1, .V S.2.1]], O0 D [[.v Z, .v k, .v w, .v j, .V b.Vapour, .V b.Settle]], O0 E [W1], U2 Z S.2.2, U6 k H, U7 w u, U8 j A, O5 X [[.v (.string a.2.Name), .V a.2.From, .V a.2.To, .V a.2.Capacity, .V a.2.Resist, .V a.2.Wave, .v n]], qN n B]) ⟨i, I2⟩ J (pk N9) ?_
 rintro S en s ob ⟨Z, rfl, rfl⟩ h dp
 refine Ab fun eo dq => uD ?_
 obtain ⟨az, dr, h⟩ := Ac h
 refine Cu 3 I fun ds => Bk (pd 7 0 [4]) [1] [_] I (Bv 2 [.o 1 0] I J1 (uN I (Ct I I I ds) I (A3 1 I (uC [0] I I I (A0 [0] (Bm g _ _ _ dr) ?_)))))
 refine A3 2 I (Ap (tY (Ao h I ?_ ?_)))
 intro dt h
 refine uA ?_
 subst dq
 refine Cx (s' := [(0, .P g), (3, .P D), (4, .P E), (5, .V aw.1), (6, .P X)]) (ob' := [O2 g [Bi az.2], O0 D [[.v Z, .v k, .v w, .v j, .V b.Vapour, .V b.Settle]], O0 E [W1], U2 Z S.2.2, U6 k H, U7 w u, U8 j A, O5 X [[.v (.string a.2.Name), .V a.2.From, .V a.2.To, .V a.2.Capacity, .V a.2.Resist, .V a.2.Wave, .v n]], qN n B]) ⟨J5, pk N9⟩ (uB ?_)
 obtain ⟨ep, du, h⟩ := Ac h
 obtain ⟨eq, dv, h⟩ := Ac h
 obtain ⟨dw, dx, h⟩ := Ac h
 obtain ⟨er, dy, h⟩ := Ac h
 refine Cu 3 I fun dz => Cu 3 I fun d0 => Bk (sl 5 0 (sl 4 6 (.act 5 (.act 10 (.still 11 (.act 12 (.act 13 (.still 14 (.drop 15 .nil))))))))) [1] [_] I (Bv 4 [.o 1 0, .o 3 0] I J2 (uN I (Ct I I I dz) I (Bv 2 [.o 1 0] I J1 (uN I (Ct I I I d0) I (Bv 1 [.f 0 (.V (wr ((S.2.2.length : Int).tdiv 26)))] I ⟨uS (Ga (c := wr ((S.2.2.length : Int).tdiv 26)) I I ⟨by decide, I⟩), J⟩ (uU I (Cz _ _ _ du) (uU I (Cz _ _ _ dv) (AP.p I (Zf I I (Zb dx)) I (uC [] I I I (uH 1 (([dw] : List Bt).map rS) (uC [3] I I I (uO 3 I dy fun bh => ?_))))))))))))
 refine A3 1 I (uW 3 I fun d1 => uR [1] I I I (uL 1 0 0 (es' := [[.v bh, .v k, .v w, .v j, .V b.Vapour, .V b.Settle]]) I I I I I I (Bw d1) I (Ba I) I I (Ap ?_)))
 cases io h
 exact tY ⟨_, _, _, I, ⟨bh, I2⟩, J5, pk N9⟩
 intro dt h
 obtain rfl := dp _ (oi h).symm
 have h := dn
 exact uG (lg ⟨(az.2.L_, az.2.At, S.2.2, u, A, b.Vapour, b.Settle, a.2.From, a.2.Capacity, a.2.Resist, a.2.Wave, B), Z, j, n, h, I2⟩ N9)
 rintro s ob ⟨e, M, O, ah, h, rfl, rfl⟩
 refine uD (tX (Am 4 [.o 1 1, .o 3 7] I J2 (uI (Bc 4 (m := a.1) I I I I I I I a0 (Ae ag)) I (uP (Ax [8] (K := [qN ah e.2.2.2.2.2.2.2.2.2.2.2]) I [(225, .agg [.v (.string a.2.Name), .V e.2.2.2.2.2.2.2.1, .V a.2.To, .V e.2.2.2.2.2.2.2.2.1, .V e.2.2.2.2.2.2.2.2.2.1, .V e.2.2.2.2.2.2.2.2.2.2.1, Q8 e.2.2.2.2.2.2.2.2.2.2.2])] ⟨⟨_, I, .agg (.cons (.refl _) (.cons (.refl _) (.cons (.refl _) (.cons (.refl _) (.cons (.refl _) (.cons (.refl _) (.cons (.us 0 I) (.rest _))))))))⟩, J⟩ (ob' := [O2 g [[Q0 e.1, .V e.2.1]], O0 D [[.v M, .v k, .v w, .v O, .V e.2.2.2.2.2.1, .V e.2.2.2.2.2.2.1]], O0 E [W1], U2 M e.2.2.1, U6 k H, U7 w e.2.2.2.1, U8 O e.2.2.2.2.1, O5 X [[.v (.string a.2.Name), .V e.2.2.2.2.2.2.2.1, .V a.2.To, .V e.2.2.2.2.2.2.2.2.1, .V e.2.2.2.2.2.2.2.2.2.1, .V e.2.2.2.2.2.2.2.2.2.2.1, Q8 e.2.2.2.2.2.2.2.2.2.2.2]]]) (.cons (.same _) (.cons (.same _) (.cons (.same _) (.cons (.same _) (.cons (.same _) (.cons (.same _) (.cons (.same _) (.cons (.arr (.cons (.refl _) (.cons (.refl _) (.cons (.refl _) (.cons (.refl _) (.cons (.refl _) (.cons (.refl _) (.cons (.us 0 I) (.rest _))))))))) (.rest _)))))))))) ?_))))
 refine tZ [4] I (Bd 4 a.1 0 I I I (Ae ag) I I I I (Ba I) I (Ce (x := (⟨a.2.Name, e.2.2.2.2.2.2.2.1, a.2.To, e.2.2.2.2.2.2.2.2.1, e.2.2.2.2.2.2.2.2.2.1, e.2.2.2.2.2.2.2.2.2.2.1, e.2.2.2.2.2.2.2.2.2.2.2⟩ : Sg)) I) (tY (uD (tX (Am 1 [.o 0 1] I J1 (tZ [2] I (Bj 2 0 0 [[.v M, .v k, .v w, .v O, .V e.2.2.2.2.2.1, .V e.2.2.2.2.2.2.1]] I (tY (uF (Ax [3, 4, 5, 6] (K := [U2 M e.2.2.1, .us k 89 7 ((H.set a.1 (⟨a.2.Name, e.2.2.2.2.2.2.2.1, a.2.To, e.2.2.2.2.2.2.2.2.1, e.2.2.2.2.2.2.2.2.2.1, e.2.2.2.2.2.2.2.2.2.2.1, e.2.2.2.2.2.2.2.2.2.2.2⟩ : Sg)).map Ar), U7 w e.2.2.2.1, U8 O e.2.2.2.2.1]) I [] J (ob' := [O2 g [[Q0 e.1, .V e.2.1]], O0 D [[.v M, .v k, .v w, .v O, .V e.2.2.2.2.2.1, .V e.2.2.2.2.2.2.1]], O0 E [[Q1 e.2.2.1, .list 7 ((H.set a.1 (⟨a.2.Name, e.2.2.2.2.2.2.2.1, a.2.To, e.2.2.2.2.2.2.2.2.1, e.2.2.2.2.2.2.2.2.2.1, e.2.2.2.2.2.2.2.2.2.2.1, e.2.2.2.2.2.2.2.2.2.2.2⟩ : Sg)).map Ar), Q4 e.2.2.2.1, Q5 e.2.2.2.2.1, .V e.2.2.2.2.2.1, .V e.2.2.2.2.2.2.1]], O5 X [[.v (.string a.2.Name), .V e.2.2.2.2.2.2.2.1, .V a.2.To, .V e.2.2.2.2.2.2.2.2.1, .V e.2.2.2.2.2.2.2.2.2.1, .V e.2.2.2.2.2.2.2.2.2.2.1, Q8 e.2.2.2.2.2.2.2.2.2.2.2]]]) (.cons (.same _) (.cons (.same _) (.cons (.arr (.cons (.us 0 I) (.cons (.us 1 I) (.cons (.us 2 I) (.cons (.us 3 I) (.rest _)))))) (.rest _))))) ?_)))))))))
 refine C9 [0, 2] I ?_
 obtain rfl := oi h
 exact uE ⟨.inr I, [_], [O2 g [[Q0 e.1, .V e.2.1]]], ⟨⟨1, _, _, _, _, _, _, _, I5⟩, J⟩, Cb I (B0), ⟨[O2 g [[Q0 e.1, .V e.2.1]]], [], I5⟩⟩
theorem iP (a : Nat) (au : KS) (r : Nw × KS) (h : W8 au = some r) : ACalls Ak 7 [.P a] [O2 a [Bi au]] (E8 1 fun x os new => x = .agg (Ad r.1) ∧ os = [O2 a [Bi r.2]] ∧ new = []) := by
 refine Ag Tryz.func7 I I I fun C hC => ?_
 refine Ab fun y1 a4 => tX (tZ [] I (Bs W1 6 fun A => tY ?_))
 subst a4
 refine Ab fun y3 a5 => ?_
 obtain ⟨f, a6, h⟩ := Ac h
 obtain ⟨g, a7, h⟩ := Ac h
 refine tX (Af 1 I (tZ [] I (uH 1 (([(-100000), 0, 50000] : Li).map rI) (tZ [0] I (A0 [0] (Al a _ _ _ a6) ?_)))))
 refine Af 1 I (tZ [] I (uH 1 (([0, 1, 5, 100] : Li).map rI) (tZ [0] I (A0 [0] (Al a _ _ _ a7) ?_))))
 refine uK (Bl (l := [.N, .N, .N, .N, .V f.1, .V g.1]) Tq I) I (tZ [] I (Bs W1 6 fun B => tZ [2] I (Bj 2 0 0 [[.N, .N, .N, .N, .V f.1, .V g.1]] I (tY ?_))))
 subst a5
 refine Aj (fun s ob => ∃ (k : Li × Int × (List Bt)) (e : Value), W8.J1 f g k = some r ∧ s = [] ∧ ob = [O2 a [[Q0 k.1, .V k.2.1]], O0 A [W1], O0 B [[.v e, .N, .N, .N, .V f.1, .V g.1]], U2 e k.2.2]) (K3 0 2 3) J3 ?_ ?_
 refine Ab fun cx a8 => ?_
 obtain ⟨an, a9, h⟩ := Ac h
 refine tX (Af 1 I (tZ [0] I (A0 [0] (E7 a _ _ _ _ a9) ?_)))
 refine Af 1 I (tY ?_)
 subst a8
 refine uB (uF (Az 9 1) ?_)
 obtain ⟨cy, ba, bb⟩ := Ac h
 refine Ci ba (K3 0 2 3) J3 (fun (ad : (List Bt) × Int) s ob => ∃ (ae : Value), s = [(4, .V ad.2)] ∧ ob = [O2 a [Bi an.2], O0 A [W1], O0 B [[.v ae, .N, .N, .N, .V f.1, .V g.1]], U2 ae ad.1]) ⟨nS, I2⟩ ⟨I, J⟩ (pk N4) ?_
 rintro ad cz s ob ⟨ae, rfl, rfl⟩ h bc
 refine Ab fun c1 bd => Ai I (Ao h I ?_ ?_)
 intro be h
 refine uA ?_
 subst bd
 refine uD (uB ?_)
 obtain ⟨bf, bg, h⟩ := Ac h
 obtain ⟨c2, bh, h⟩ := Ac h
 refine Cu 3 I fun bi => Bk (sl 5 0 (.act 5 (.act 6 (.act 7 (.still 8 (.drop 9 .nil)))))) [2] [_] I (Bv 4 [.o 1 0, .o 3 0] I J2 (uN I (Ct I I I bi) I (uU I (Cz _ _ _ bg) (uC [] I I I (uH 1 (([bf] : List Bt).map rS) (uC [3] I I I (uO 3 I bh fun av => A3 1 I (uW 3 I fun bj => uR [2] I I I (uL 2 0 0 (es' := [[.v av, .N, .N, .N, .V f.1, .V g.1]]) I I I I I I (Bw bj) I (Ba I) I I (Ap (tY (tX ?_))))))))))))
 refine Af 3 I ?_
 cases io h
 exact tY ⟨_, _, _, I, ⟨av, I2⟩, J4, pk N4⟩
 intro be h
 obtain rfl := bc _ (oi h).symm
 have h := bb
 exact uG (lg ⟨(an.2.L_, an.2.At, ad.1), ae, h, I2⟩ N4)
 rintro s ob ⟨k, e, h, rfl, rfl⟩
 unfold W8.J1 at h
 refine Ab fun c3 bk => tX (Am 2 [.o 1 2] I J1 (uI (Bp 3 I I I I) I (Af 2 I (tY ?_))))
 subst bk
 refine Aj (fun s ob => ∃ (Z : Li × Int × (List Sg)) (af : Value), W8.J2 f g k Z = some r ∧ s = [] ∧ ob = [O2 a [[Q0 Z.1, .V Z.2.1]], O0 A [W1], O0 B [[.v e, .v af, .N, .N, .V f.1, .V g.1]], U2 e k.2.2, U6 af Z.2.2]) (K4 0 2 3 5) J4 ?_ ?_
 refine Ai I (uB (uF (Az 89 7) ?_))
 obtain ⟨c4, bl, bm⟩ := Ac h
 refine Ci bl (K4 0 2 3 5) J4 (fun (F : Li × Int × (List Sg) × Int) s ob => ∃ (ag : Value), s = [(6, .V F.2.2.2)] ∧ ob = [O2 a [[Q0 F.1, .V F.2.1]], O0 A [W1], O0 B [[.v e, .v ag, .N, .N, .V f.1, .V g.1]], U2 e k.2.2, U6 ag F.2.2.1]) ⟨nS, I2⟩ ⟨I, J⟩ (pk N5) ?_
 rintro F c5 s ob ⟨ag, rfl, rfl⟩ h bn
 refine Ab fun c6 bo => Ai I (Ao h I ?_ ?_)
 intro bp h
 refine uA ?_
 subst bo
 refine uD (uB ?_)
 obtain ⟨bq, br, h⟩ := Ac h
 obtain ⟨c7, bs, h⟩ := Ac h
 refine Cu 4 I fun bu => Bk (sl 9 0 (.act 9 (.act 10 (.act 11 (.still 12 (.drop 13 .nil)))))) [2] [_] I (Bv 5 [.o 1 0, .o 4 0] I J2 (uN I (Ct I I I bu) I (A3 3 I (uC [0] I I I (A0 [0] (Va a _ _ _ _ _ br) ?_)))))
 refine uC [] I I I (uH 7 (([bq.1] : List Sg).map Ar) (uC [4] I I I (uO 4 I bs fun aw => A3 1 I (uW 4 I fun bv => uR [2] I I I (uL 2 0 1 (es' := [[.v e, .v aw, .N, .N, .V f.1, .V g.1]]) I I I I I I (Bw bv) I (Ba I) I I (Ap (tY (tX (Af 3 I ?_)))))))))
 cases io h
 exact tY ⟨_, _, _, I, ⟨aw, I2⟩, J5, pk N5⟩
 intro bp h
 obtain rfl := bn _ (oi h).symm
 have h := bm
 exact uG (lg ⟨(F.1, F.2.1, F.2.2.1), ag, h, I2⟩ N5)
 rintro s ob ⟨Z, af, h, rfl, rfl⟩
 unfold W8.J2 at h
 refine Aj (fun s ob => ∃ (y : Li × Int × (List Sg)) (t : Value), W8.J3 f g k y = some r ∧ s = [] ∧ ob = [O2 a [[Q0 y.1, .V y.2.1]], O0 A [W1], O0 B [[.v e, .v t, .N, .N, .V f.1, .V g.1]], U2 e k.2.2, U6 t y.2.2]) (K4 0 2 3 5) J4 ?_ ?_
 refine Ab fun c8 bw => ?_
 obtain ⟨c9, bx, h⟩ := Ac h
 refine tX (Af 1 I (tZ [0] I (A0 [0] (Bm a _ _ _ bx) ?_)))
 refine Af 1 I (tY ?_)
 subst bw
 refine uB ?_
 obtain ⟨da, bz, b1⟩ := Ac h
 refine Ci bz (K4 0 2 3 5) J4 (fun (G : Li × Int × (List Sg) × Int) s ob => ∃ (ah : Value), s = [(7, .V G.2.2.2)] ∧ ob = [O2 a [[Q0 G.1, .V G.2.1]], O0 A [W1], O0 B [[.v e, .v ah, .N, .N, .V f.1, .V g.1]], U2 e k.2.2, U6 ah G.2.2.1]) ⟨af, I2⟩ ⟨I, J⟩ (pk N5) ?_
 rintro G db s ob ⟨ah, rfl, rfl⟩ h b3
 refine Ab fun dc b4 => Ai I (Ao h I ?_ ?_)
 intro b5 h
 refine uA ?_
 subst b4
 refine uD (uB (Ab fun dd b6 => ?_))
 obtain ⟨de, b7, h⟩ := Ac h
 refine tX (Af 2 I (tZ [0] I (A0 [0] (Bm a _ _ _ b7) ?_)))
 refine Af 1 I (tY ?_)
 subst b6
 obtain ⟨df, b8, h⟩ := Ac h
 obtain ⟨b9, ca, h⟩ := Ac h
 obtain ⟨dg, cb, h⟩ := Ac h
 refine Cu 4 I fun cc => Bk (sl 11 0 (.act 11 (.act 12 (.act 13 (.act 14 (.still 15 (.drop 16 .nil))))))) [2] [_] I (Bv 5 [.o 1 0, .o 4 0] I J2 (uN I (Ct I I I cc) I (A3 5 I (uC [0] I I I (A0 [0] (E7 a _ _ _ _ b8) ?_)))))
 refine uC [0] I I I (A0 [0] (Va a _ _ _ _ _ ca) ?_)
 refine uC [] I I I (uH 7 (([b9.1] : List Sg).map Ar) (uC [4] I I I (uO 4 I cb fun ax => A3 1 I (uW 4 I fun cd => uR [2] I I I (uL 2 0 1 (es' := [[.v e, .v ax, .N, .N, .V f.1, .V g.1]]) I I I I I I (Bw cd) I (Ba I) I I (Ap (tY (tX (Af 3 I ?_)))))))))
 cases io h
 exact tY ⟨_, _, _, I, ⟨ax, I2⟩, J5, pk N5⟩
 intro b5 h
 obtain rfl := b3 _ (oi h).symm
 have h := b1
 exact uG (lg ⟨(G.1, G.2.1, G.2.2.1), ah, h, I2⟩ N5)
 rintro s ob ⟨y, t, h, rfl, rfl⟩
 unfold W8.J3 at h
 refine Aj (fun s ob => ∃ (u : Li × Int × (List Port) × (List Sn)) (R : Value) (S : Value), W8.J4 f g k y u = some r ∧ s = [] ∧ ob = [O2 a [[Q0 u.1, .V u.2.1]], O0 A [W1], O0 B [[.v e, .v t, .v R, .v S, .V f.1, .V g.1]], U2 e k.2.2, U6 t y.2.2, U7 R u.2.2.1, U8 S u.2.2.2]) (K2 2 3) J2 ?_ ?_
 refine Ai I (uB (uF (Az 82 3) (uF (Az 95 5) ?_)))
 obtain ⟨dh, ce, cf⟩ := Ac h
 refine Ci ce (K4 0 2 3 5) J4 (fun (b : Li × Int × (List Port) × (List Sn) × Int) s ob => ∃ (O : Value) (D : Value), s = [(9, .V b.2.2.2.2)] ∧ ob = [O2 a [[Q0 b.1, .V b.2.1]], O0 A [W1], O0 B [[.v e, .v t, .v O, .v D, .V f.1, .V g.1]], U2 e k.2.2, U6 t y.2.2, U7 O b.2.2.1, U8 D b.2.2.2.1]) ⟨nS, nS, I2⟩ ⟨I, J⟩ (pk N7) ?_
 rintro b ai s ob ⟨O, D, rfl, rfl⟩ h ci
 refine Ab fun di cj => Ai I (Ao h I ?_ ?_)
 intro ck h
 refine uA ?_
 subst cj
 refine Aj (fun s ob => ∃ (U : Li × Int × (List Port) × (List Sn)) (aj : Value) (ak : Value), W8.J6 b U = some ai ∧ s = [] ∧ ob = [O2 a [[Q0 U.1, .V U.2.1]], O0 A [W1], O0 B [[.v e, .v t, .v aj, .v ak, .V f.1, .V g.1]], U2 e k.2.2, U6 t y.2.2, U7 aj U.2.2.1, U8 ak U.2.2.2]) (K5 0 2 3 5 9) J5 ?_ ?_
 refine uB (Aj (fun s ob => ∃ (E : Li × Int × (List Port)) (H : Value), W8.J7 k b E = some ai ∧ s = [] ∧ ob = [O2 a [[Q0 E.1, .V E.2.1]], O0 A [W1], O0 B [[.v e, .v t, .v H, .v D, .V f.1, .V g.1]], U2 e k.2.2, U6 t y.2.2, U7 H E.2.2, U8 D b.2.2.2.1]) (K5 0 2 3 5 9) J5 ?_ ?_)
 refine Aj (fun s ob => ∃ (P : Li × Int × Bool), W8.J9 k b P = some ai ∧ s = [(95, .v (.bool P.2.2))] ∧ ob = [O2 a [[Q0 P.1, .V P.2.1]], O0 A [W1], O0 B [[.v e, .v t, .v O, .v D, .V f.1, .V g.1]], U2 e k.2.2, U6 t y.2.2, U7 O b.2.2.1, U8 D b.2.2.2.1]) (K5 0 2 3 5 9) J5 ?_ ?_
 rcases bt ((b.2.2.2.2 == 0)) with W | W
 have h := Cc W h
 exact tX (Af 3 I (Ah 86 I W (Af 9 I (tY (lg ⟨(b.1, b.2.1, true), h, I2⟩ N7)))))
 have h := Cd W h
 rcases bt ((b.2.2.2.2 == (wr ((k.2.2.length : Int) - 1)))) with aa | aa
 have h := Cc aa h
 exact tX (Af 3 I (Ah 86 I W (Af 5 I (Ah 91 I aa (Af 4 I (tY (lg ⟨(b.1, b.2.1, true), h, I2⟩ N7)))))))
 have h := Cd aa h
 obtain ⟨ao, cl, h⟩ := Ac h
 refine tX (Af 3 I (Ah 86 I W (Af 5 I (Ah 91 I aa (Af 1 I (Bx I I I (tZ [0] I (A0 [0] (Bm a _ _ _ cl) ?_))))))))
 exact Af 2 I (tY (lg ⟨(ao.2.L_, ao.2.At, (ao.1 == 0)), h, I2⟩ N7))
 rintro s ob ⟨P, h, rfl, rfl⟩
 refine Ao h I ?_ ?_
 intro cm h
 obtain ⟨al, ay, h⟩ := Ac h
 obtain ⟨M, az, h⟩ := Ac h
 obtain ⟨a0, a1, h⟩ := Ac h
 refine Cu 5 I fun cn => Bk (sl 5 0 (.still 6 (.still 7 (.two 5 8 (.act 8 qS) (.act 5 qS))))) [2] [_] I (Bv 4 [.o 1 0, .o 3 0] I J2 (uN I (Ct I I I cn) I (A3 2 I (uQ ?_ ?_))))
 refine uU I (Cz _ _ _ ay) (uC [] I I I (uH 1 (([300000, 1000000, 0, 5000000] : Li).map rI) (uC [0] I I I (A0 [0] (Al a _ _ _ az) ?_))))
 exact AP.p I (Bl (l := [.v (.string al), .V b.2.2.2.2, .V M.1]) Ha I) I (uC [] I I I (uH 3 (([(⟨al, b.2.2.2.2, M.1⟩ : Port)] : List Port).map Ca) (uC [5] I I I (uO 5 I a1 fun ab => A3 1 I (uW 5 I fun aq => uR [2] I I I (uL 2 0 2 (es' := [[.v e, .v t, .v ab, .v D, .V f.1, .V g.1]]) I I I I I I (Bw aq) I (Ba I) I I (Ap (tY (lg ⟨(M.2.L_, M.2.At, a0), ab, h, I2⟩ N7)))))))))
 refine uC [] I I I (uH 1 (([300000, 1000000, 0, 5000000] : Li).map rI) (uU I (Cz _ _ _ ay) (uC [0] I I I (A0 [0] (Al a _ _ _ az) ?_))))
 exact AP.p I (Bl (l := [.v (.string al), .V b.2.2.2.2, .V M.1]) Ha I) I (uC [] I I I (uH 3 (([(⟨al, b.2.2.2.2, M.1⟩ : Port)] : List Port).map Ca) (uC [5] I I I (uO 5 I a1 fun ab => A3 1 I (uW 5 I fun aq => uR [2] I I I (uL 2 0 2 (es' := [[.v e, .v t, .v ab, .v D, .V f.1, .V g.1]]) I I I I I I (Bw aq) I (Ba I) I I (Ap (tY (lg ⟨(M.2.L_, M.2.At, a0), ab, h, I2⟩ N7)))))))))
 intro cm h
 exact uA (lg ⟨(P.1, P.2.1, b.2.2.1), O, h, I2⟩ N7)
 rintro s ob ⟨E, H, h, rfl, rfl⟩
 unfold W8.J7 at h
 refine Aj (fun s ob => ∃ (Q : Li × Int × Bool), W8.J8 b E Q = some ai ∧ s = [(117, .v (.bool Q.2.2))] ∧ ob = [O2 a [[Q0 Q.1, .V Q.2.1]], O0 A [W1], O0 B [[.v e, .v t, .v H, .v D, .V f.1, .V g.1]], U2 e k.2.2, U6 t y.2.2, U7 H E.2.2, U8 D b.2.2.2.1]) (K5 0 2 3 5 9) J5 ?_ ?_
 rcases bt (decide (b.2.2.2.2 < (wr ((k.2.2.length : Int) - 1)))) with ac | ac
 have h := Cc ac h
 obtain ⟨ar, co, h⟩ := Ac h
 refine tX (Af 4 I (Ah 113 I ac (Af 1 I (Bx I I I (tZ [0] I (A0 [0] (Bm a _ _ _ co) ?_))))))
 exact Af 2 I (tY (lg ⟨(ar.2.L_, ar.2.At, (ar.1 == 0)), h, I2⟩ N7))
 have h := Cd ac h
 exact tX (Af 4 I (Ah 113 I ac (Af 4 I (tY (lg ⟨(E.1, E.2.1, false), h, I2⟩ N7)))))
 rintro s ob ⟨Q, h, rfl, rfl⟩
 refine Ao h I ?_ ?_
 intro cp h
 obtain ⟨a2, w, h⟩ := Ac h
 obtain ⟨X, n, h⟩ := Ac h
 obtain ⟨Y, i, h⟩ := Ac h
 obtain ⟨am, j, h⟩ := Ac h
 obtain ⟨cq, cr, h⟩ := Ac h
 refine Cu 6 I fun ct => Bk (sl 5 0 (.still 6 (.still 7 (.still 10 (.still 13 (.four 5 8 11 14 (.parS [(8, []), (9, [8]), (11, []), (12, [8, 9, 11]), (14, [])] [[], [8], [11], [14], [8, 9], [8, 11], [8, 14], [11, 14], [8, 9, 11], [8, 9, 14], [8, 11, 14], [8, 9, 11, 12], [8, 9, 11, 14], [8, 9, 11, 12, 14]] T8) (.three 5 11 14 (.parS [(9, []), (11, []), (12, [9, 11]), (14, [])] [[], [9], [11], [14], [9, 11], [9, 14], [11, 14], [9, 11, 12], [9, 11, 14], [9, 11, 12, 14]] T8) (.two 5 14 kE T7) (.two 5 11 kD T7)) (.three 5 8 14 (.two 8 14 kE (.act 8 Qd)) (.two 5 14 kE T7) (.two 5 8 (.act 8 Qd) T7)) (.three 5 8 11 (.two 8 11 kD (.act 8 Qd)) (.two 5 11 kD T7) (.two 5 8 (.act 8 Qd) T7)))))))) [2] [_] I ?_
 refine Bv 4 [.o 1 0, .o 3 0] I J2 (uN I (Ct I I I ct) I (A3 4 I (AP.four ?_ ?_ ?_ ?_)))
 refine uU I (Cz _ _ _ w) (Xb [⟨8, [], 126, .list 1 (([500000, 2000000, 0] : Li).map rI), [], []⟩, ⟨9, [8], 127, .V X.1, [0], [O2 a [Bi X.2]]⟩, ⟨11, [], 129, .list 1 (([0, 200, 100000] : Li).map rI), [], []⟩, ⟨12, [8, 9, 11], 130, .V Y.1, [0], [O2 a [Bi Y.2]]⟩, ⟨14, [], 132, .list 1 (([0, 100000, 400000] : Li).map rI), [], []⟩] I ⟨⟨_, I, I, I, fun _ _ => uH 1 (([500000, 2000000, 0] : Li).map rI) I2⟩, ⟨_, I, I, I, fun _ h => by cases h; exact Ex [0] (Al a _ _ _ n) (by rintro _ _ _ - ⟨rfl, rfl, rfl⟩; exact ⟨rfl, rfl⟩)⟩, ⟨_, I, I, I, fun _ _ => uH 1 (([0, 200, 100000] : Li).map rI) I2⟩, ⟨_, I, I, I, fun _ h => by cases h; exact Ex [0] (Al a _ _ _ i) (by rintro _ _ _ - ⟨rfl, rfl, rfl⟩; exact ⟨rfl, rfl⟩)⟩, ⟨_, I, I, I, fun _ _ => uH 1 (([0, 100000, 400000] : Li).map rI) I2⟩, J⟩ (uC [0] I I I (A0 [0] (Al a _ _ _ j) ?_)))
 rotate_left
 refine uC [] I I I (uH 1 (([500000, 2000000, 0] : Li).map rI) (AP.three ?_ ?_ ?_))
 refine uU I (Cz _ _ _ w) (Xb [⟨9, [], 127, .V X.1, [0], [O2 a [Bi X.2]]⟩, ⟨11, [], 129, .list 1 (([0, 200, 100000] : Li).map rI), [], []⟩, ⟨12, [9, 11], 130, .V Y.1, [0], [O2 a [Bi Y.2]]⟩, ⟨14, [], 132, .list 1 (([0, 100000, 400000] : Li).map rI), [], []⟩] I ⟨⟨_, I, I, I, fun _ h => by cases h; exact Ex [0] (Al a _ _ _ n) (by rintro _ _ _ - ⟨rfl, rfl, rfl⟩; exact ⟨rfl, rfl⟩)⟩, ⟨_, I, I, I, fun _ _ => uH 1 (([0, 200, 100000] : Li).map rI) I2⟩, ⟨_, I, I, I, fun _ h => by cases h; exact Ex [0] (Al a _ _ _ i) (by rintro _ _ _ - ⟨rfl, rfl, rfl⟩; exact ⟨rfl, rfl⟩)⟩, ⟨_, I, I, I, fun _ _ => uH 1 (([0, 100000, 400000] : Li).map rI) I2⟩, J⟩ (uC [0] I I I (A0 [0] (Al a _ _ _ j) ?_)))
 rotate_left
 refine uC [] I I I (uH 1 (([0, 200, 100000] : Li).map rI) (uQ ?_ ?_))
 refine uU I (Cz _ _ _ w) (uQ ?_ ?_)
 refine uC [0] I I I (A0 [0] (Al a _ _ _ n) ?_)
 refine uQ ?_ ?_
 refine uC [0] I I I (A0 [0] (Al a _ _ _ i) ?_)
 refine uC [] I I I (uH 1 (([0, 100000, 400000] : Li).map rI) (uC [0] I I I (A0 [0] (Al a _ _ _ j) ?_)))
 rotate_left
 refine uC [] I I I (uH 1 (([0, 100000, 400000] : Li).map rI) (uC [0] I I I (A0 [0] (Al a _ _ _ i) ?_)))
 refine uC [0] I I I (A0 [0] (Al a _ _ _ j) ?_)
 rotate_left
 refine uC [] I I I (uH 1 (([0, 100000, 400000] : Li).map rI) (uC [0] I I I (A0 [0] (Al a _ _ _ n) ?_)))
 refine uC [0] I I I (A0 [0] (Al a _ _ _ i) ?_)
 refine uC [0] I I I (A0 [0] (Al a _ _ _ j) ?_)
 rotate_left
 refine uC [] I I I (uH 1 (([0, 100000, 400000] : Li).map rI) (uU I (Cz _ _ _ w) (uC [0] I I I (A0 [0] (Al a _ _ _ n) ?_))))
 refine uC [0] I I I (A0 [0] (Al a _ _ _ i) ?_)
 refine uC [0] I I I (A0 [0] (Al a _ _ _ j) ?_)
 rotate_left
 refine uC [] I I I (uH 1 (([0, 100000, 400000] : Li).map rI) (uQ ?_ ?_))
 refine uU I (Cz _ _ _ w) (uQ ?_ ?_)
 refine uC [0] I I I (A0 [0] (Al a _ _ _ n) ?_)
 refine uC [] I I I (uH 1 (([0, 200, 100000] : Li).map rI) (uC [0] I I I (A0 [0] (Al a _ _ _ i) ?_)))
 refine uC [0] I I I (A0 [0] (Al a _ _ _ j) ?_)
 rotate_left
 refine uC [] I I I (uH 1 (([0, 200, 100000] : Li).map rI) (uC [0] I I I (A0 [0] (Al a _ _ _ n) ?_)))
 refine uC [0] I I I (A0 [0] (Al a _ _ _ i) ?_)
 refine uC [0] I I I (A0 [0] (Al a _ _ _ j) ?_)
 rotate_left
 refine uC [] I I I (uH 1 (([0, 200, 100000] : Li).map rI) (uU I (Cz _ _ _ w) (uC [0] I I I (A0 [0] (Al a _ _ _ n) ?_))))
 refine uC [0] I I I (A0 [0] (Al a _ _ _ i) ?_)
 refine uC [0] I I I (A0 [0] (Al a _ _ _ j) ?_)
 rotate_left
 refine uC [] I I I (uH 1 (([0, 200, 100000] : Li).map rI) (AP.three ?_ ?_ ?_))
 refine uU I (Cz _ _ _ w) (uQ ?_ ?_)
 refine uC [] I I I (uH 1 (([500000, 2000000, 0] : Li).map rI) (uQ ?_ ?_))
 refine uC [0] I I I (A0 [0] (Al a _ _ _ n) ?_)
 refine uQ ?_ ?_
 refine uC [0] I I I (A0 [0] (Al a _ _ _ i) ?_)
 refine uC [] I I I (uH 1 (([0, 100000, 400000] : Li).map rI) (uC [0] I I I (A0 [0] (Al a _ _ _ j) ?_)))
 rotate_left
 refine uC [] I I I (uH 1 (([0, 100000, 400000] : Li).map rI) (uC [0] I I I (A0 [0] (Al a _ _ _ i) ?_)))
 refine uC [0] I I I (A0 [0] (Al a _ _ _ j) ?_)
 rotate_left
 refine uC [] I I I (uH 1 (([0, 100000, 400000] : Li).map rI) (uC [0] I I I (A0 [0] (Al a _ _ _ n) ?_)))
 refine uC [0] I I I (A0 [0] (Al a _ _ _ i) ?_)
 refine uC [0] I I I (A0 [0] (Al a _ _ _ j) ?_)
 rotate_left
 refine uC [] I I I (uH 1 (([0, 100000, 400000] : Li).map rI) (uC [] I I I (uH 1 (([500000, 2000000, 0] : Li).map rI) (uC [0] I I I (A0 [0] (Al a _ _ _ n) ?_)))))
 refine uC [0] I I I (A0 [0] (Al a _ _ _ i) ?_)
 refine uC [0] I I I (A0 [0] (Al a _ _ _ j) ?_)
 rotate_left
 refine uC [] I I I (uH 1 (([500000, 2000000, 0] : Li).map rI) (uQ ?_ ?_))
 refine uU I (Cz _ _ _ w) (uQ ?_ ?_)
 refine uC [0] I I I (A0 [0] (Al a _ _ _ n) ?_)
 refine uQ ?_ ?_
 refine uC [0] I I I (A0 [0] (Al a _ _ _ i) ?_)
 refine uC [] I I I (uH 1 (([0, 100000, 400000] : Li).map rI) (uC [0] I I I (A0 [0] (Al a _ _ _ j) ?_)))
 rotate_left
 refine uC [] I I I (uH 1 (([0, 100000, 400000] : Li).map rI) (uC [0] I I I (A0 [0] (Al a _ _ _ i) ?_)))
 refine uC [0] I I I (A0 [0] (Al a _ _ _ j) ?_)
 rotate_left
 refine uC [] I I I (uH 1 (([0, 100000, 400000] : Li).map rI) (uC [0] I I I (A0 [0] (Al a _ _ _ n) ?_)))
 refine uC [0] I I I (A0 [0] (Al a _ _ _ i) ?_)
 refine uC [0] I I I (A0 [0] (Al a _ _ _ j) ?_)
 rotate_left
 refine uC [] I I I (uH 1 (([0, 100000, 400000] : Li).map rI) (uU I (Cz _ _ _ w) (uC [0] I I I (A0 [0] (Al a _ _ _ n) ?_))))
 refine uC [0] I I I (A0 [0] (Al a _ _ _ i) ?_)
 refine uC [0] I I I (A0 [0] (Al a _ _ _ j) ?_)
 rotate_left
 refine uC [] I I I (uH 1 (([0, 100000, 400000] : Li).map rI) (uQ ?_ ?_))
 refine uU I (Cz _ _ _ w) (uC [] I I I (uH 1 (([500000, 2000000, 0] : Li).map rI) (uC [0] I I I (A0 [0] (Al a _ _ _ n) ?_))))
 refine uC [0] I I I (A0 [0] (Al a _ _ _ i) ?_)
 refine uC [0] I I I (A0 [0] (Al a _ _ _ j) ?_)
 rotate_left
 refine uC [] I I I (uH 1 (([500000, 2000000, 0] : Li).map rI) (uU I (Cz _ _ _ w) (uC [0] I I I (A0 [0] (Al a _ _ _ n) ?_))))
 refine uC [0] I I I (A0 [0] (Al a _ _ _ i) ?_)
 refine uC [0] I I I (A0 [0] (Al a _ _ _ j) ?_)
 rotate_left
 refine uC [] I I I (uH 1 (([0, 100000, 400000] : Li).map rI) (AP.three ?_ ?_ ?_))
 refine uU I (Cz _ _ _ w) (uQ ?_ ?_)
 refine uC [] I I I (uH 1 (([500000, 2000000, 0] : Li).map rI) (uQ ?_ ?_))
 refine uC [0] I I I (A0 [0] (Al a _ _ _ n) ?_)
 refine uC [] I I I (uH 1 (([0, 200, 100000] : Li).map rI) (uC [0] I I I (A0 [0] (Al a _ _ _ i) ?_)))
 refine uC [0] I I I (A0 [0] (Al a _ _ _ j) ?_)
 rotate_left
 refine uC [] I I I (uH 1 (([0, 200, 100000] : Li).map rI) (uC [0] I I I (A0 [0] (Al a _ _ _ n) ?_)))
 refine uC [0] I I I (A0 [0] (Al a _ _ _ i) ?_)
 refine uC [0] I I I (A0 [0] (Al a _ _ _ j) ?_)
 rotate_left
 refine uC [] I I I (uH 1 (([0, 200, 100000] : Li).map rI) (uC [] I I I (uH 1 (([500000, 2000000, 0] : Li).map rI) (uC [0] I I I (A0 [0] (Al a _ _ _ n) ?_)))))
 refine uC [0] I I I (A0 [0] (Al a _ _ _ i) ?_)
 refine uC [0] I I I (A0 [0] (Al a _ _ _ j) ?_)
 rotate_left
 refine uC [] I I I (uH 1 (([500000, 2000000, 0] : Li).map rI) (uQ ?_ ?_))
 refine uU I (Cz _ _ _ w) (uQ ?_ ?_)
 refine uC [0] I I I (A0 [0] (Al a _ _ _ n) ?_)
 refine uC [] I I I (uH 1 (([0, 200, 100000] : Li).map rI) (uC [0] I I I (A0 [0] (Al a _ _ _ i) ?_)))
 refine uC [0] I I I (A0 [0] (Al a _ _ _ j) ?_)
 rotate_left
 refine uC [] I I I (uH 1 (([0, 200, 100000] : Li).map rI) (uC [0] I I I (A0 [0] (Al a _ _ _ n) ?_)))
 refine uC [0] I I I (A0 [0] (Al a _ _ _ i) ?_)
 refine uC [0] I I I (A0 [0] (Al a _ _ _ j) ?_)
 rotate_left
 refine uC [] I I I (uH 1 (([0, 200, 100000] : Li).map rI) (uU I (Cz _ _ _ w) (uC [0] I I I (A0 [0] (Al a _ _ _ n) ?_))))
 refine uC [0] I I I (A0 [0] (Al a _ _ _ i) ?_)
 refine uC [0] I I I (A0 [0] (Al a _ _ _ j) ?_)
 rotate_left
 refine uC [] I I I (uH 1 (([0, 200, 100000] : Li).map rI) (uQ ?_ ?_))
 refine uU I (Cz _ _ _ w) (uC [] I I I (uH 1 (([500000, 2000000, 0] : Li).map rI) (uC [0] I I I (A0 [0] (Al a _ _ _ n) ?_))))
 refine uC [0] I I I (A0 [0] (Al a _ _ _ i) ?_)
 refine uC [0] I I I (A0 [0] (Al a _ _ _ j) ?_)
 rotate_left
 refine uC [] I I I (uH 1 (([500000, 2000000, 0] : Li).map rI) (uU I (Cz _ _ _ w) (uC [0] I I I (A0 [0] (Al a _ _ _ n) ?_))))
 refine uC [0] I I I (A0 [0] (Al a _ _ _ i) ?_)
 refine uC [0] I I I (A0 [0] (Al a _ _ _ j) ?_)
 any_goals
  refine AP.p I (Bl (l := [.v (.string a2), .V b.2.2.2.2, .V X.1, .V Y.1, .V am.1]) Tn I) I (uC [] I I I (uH 5 (([(⟨a2, b.2.2.2.2, X.1, Y.1, am.1⟩ : Sn)] : List Sn).map Bu) (uC [6] I I I (uO 6 I cr fun a3 => A3 1 I (uW 6 I fun cu => uR [2] I I I (uL 2 0 3 (es' := [[.v e, .v t, .v H, .v a3, .V f.1, .V g.1]]) I I I I I I (Bw cu) I (Ba I) I I (Ap (tY ?_))))))))
  exact lg ⟨(am.2.L_, am.2.At, E.2.2, cq), H, a3, h, I2⟩ N7
 intro cp h
 exact uA (lg ⟨(Q.1, Q.2.1, E.2.2, b.2.2.2.1), H, D, h, I2⟩ N7)
 rintro s ob ⟨U, aj, ak, h, rfl, rfl⟩
 unfold W8.J6 at h
 refine tX (Af 3 I ?_)
 cases io h
 exact tY ⟨_, _, _, I, ⟨aj, ak, I2⟩, J5, pk N7⟩
 intro ck h
 obtain rfl := ci _ (oi h).symm
 have h := cf
 exact uG (lg ⟨(b.1, b.2.1, b.2.2.1, b.2.2.2.1), O, D, h, I2⟩ N7)
 rintro s ob ⟨u, R, S, h, rfl, rfl⟩
 refine uD (tX (Am 1 [.o 0 2] I J1 (tZ [1] I (Bj 1 0 0 [[.v e, .v t, .v R, .v S, .V f.1, .V g.1]] I (tY (uF (Ax [3, 4, 5, 6] (K := [U2 e k.2.2, U6 t y.2.2, U7 R u.2.2.1, U8 S u.2.2.2]) I [] J (ob' := [O2 a [[Q0 u.1, .V u.2.1]], O0 A [[Q1 k.2.2, Q6 y.2.2, Q4 u.2.2.1, Q5 u.2.2.2, .V f.1, .V g.1]], O0 B [[.v e, .v t, .v R, .v S, .V f.1, .V g.1]]]) (.cons (.same _) (.cons (.arr (.cons (.us 0 I) (.cons (.us 1 I) (.cons (.us 2 I) (.cons (.us 3 I) (.rest _)))))) (.rest _)))) (C9 [0, 1] I ?_)))))))
 obtain rfl := oi h
 exact uE ⟨.inr I, [_], [O2 a [[Q0 u.1, .V u.2.1]]], ⟨⟨1, _, _, _, _, _, _, _, I5⟩, J⟩, Cb I (B0), ⟨[O2 a [[Q0 u.1, .V u.2.1]]], [], I5⟩⟩
end Go.Proofs.YtaoclefkknloiaaGreat
