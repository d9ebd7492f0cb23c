/- Walks that show what functions of the program compute; printed by a program of ours. No condition. -/
import Derived.Test.YtodeekicjiengaaGreatDoorYwL6
import Derived.Test.YtodeekicjiengaaGreatDoorYwL5
import Derived.Test.YtodeekicjiengaaGreatDoorYwD
set_option maxRecDepth 100000
namespace Go.Proofs.YtodeekicjiengaaGreatDoor
open Go.Aw
set_option linter.unusedVariables false
set_option linter.unusedSimpArgs false
set_option maxHeartbeats 4000000
abbrev Kd : PL := .still 12 (.act 14 .nil)
abbrev qX : PL := .two 11 13 (.still 12 (.act 13 (.act 14 .nil))) (.act 11 Kd)
abbrev kA : PL := .act 12 (.still 13 .nil)
theorem gV (a : Sn) (r : Bool) (h : Qe a = some r) : ACalls Aj 160 [.agg (Ba a)] [] (RB r) := by
 refine Ae Tryz.func160 I I I fun C hC => ?_
 unfold Qe at h
 refine Aa fun u n => tV (tX [] I (Bo (Ba a) 5 fun w => Af 1 I (tW ?_)))
 subst n
 refine Ai (fun s ob => ∃ (l : Bool), Qe.J1 l = some r ∧ s = [(2, .v (.bool l))] ∧ ob = []) [] J ?_ ?_
 obtain ⟨p, t, h⟩ := Ac h
 refine tV (An 2 [.o 1 0] I J1 (Cd (Ol _ _ t) (Af 1 I ?_)))
 rcases bt (p) with b | b
 have h := Bu b h
 refine Ad 6 I b (An 5 [.o 1 0] I J1 ?_)
 rcases bt (decide (a.Node ≥ 0)) with d | d
 have h := Bu d h
 refine Ad 11 I d (An 5 [.o 1 0] I J1 ?_)
 rcases bt (decide (a.Node < 24)) with e | e
 have h := Bu e h
 refine Ad 16 I e (An 5 [.o 1 0] I J1 ?_)
 rcases bt (decide (a.Head ≥ 0)) with f | f
 have h := Bu f h
 refine Ad 21 I f (An 5 [.o 1 0] I J1 ?_)
 rcases bt (decide (a.Head ≤ 100000000)) with g | g
 have h := Bu g h
 refine Ad 26 I g (An 5 [.o 1 0] I J1 ?_)
 rcases bt (decide (a.Fall ≥ 0)) with i | i
 have h := Bu i h
 refine Ad 31 I i (An 5 [.o 1 0] I J1 ?_)
 rcases bt (decide (a.Fall ≤ 100000)) with j | j
 have h := Bu j h
 refine Ad 36 I j (An 5 [.o 1 0] I J1 ?_)
 rcases bt (decide (a.Suction ≥ 0)) with k | k
 have h := Bu k h
 exact Ad 41 I k (An 5 [.o 1 0] I J1 (tW (lg ⟨decide (a.Suction ≤ 100000000), h, I2⟩ [])))
 have h := Bv k h
 exact Ad 41 I k (Af 5 I (tW (lg ⟨false, h, I2⟩ [])))
 have h := Bv j h
 exact Ad 36 I j (Af 10 I (tW (lg ⟨false, h, I2⟩ [])))
 have h := Bv i h
 exact Ad 31 I i (Af 15 I (tW (lg ⟨false, h, I2⟩ [])))
 have h := Bv g h
 exact Ad 26 I g (Af 20 I (tW (lg ⟨false, h, I2⟩ [])))
 have h := Bv f h
 exact Ad 21 I f (Af 25 I (tW (lg ⟨false, h, I2⟩ [])))
 have h := Bv e h
 exact Ad 16 I e (Af 30 I (tW (lg ⟨false, h, I2⟩ [])))
 have h := Bv d h
 exact Ad 11 I d (Af 35 I (tW (lg ⟨false, h, I2⟩ [])))
 have h := Bv b h
 exact Ad 6 I b (Af 40 I (tW (lg ⟨false, h, I2⟩ [])))
 rintro s ob ⟨l, h, rfl, rfl⟩
 unfold Qe.J1 at h
 cases io h
 exact uC pr
theorem gA (b : Sn) (a : Int) (r : Int × Int) (h : Vr b a = some r) : ACalls Aj 106 [.agg (Ba b), .V a] [] (RV (.tup [.V r.1, .V r.2])) := by
 refine Ae Tryz.func106 I I I fun C hC => ?_
 refine Aa fun n e => tV (tX [] I (Bo (Ba b) 5 fun p => Af 2 I (tW ?_)))
 subst e
 refine Aa fun s g => uB ?_
 obtain ⟨t, i, h⟩ := Ac h
 refine tV (An 1 [.o 0 0] I J1 (Cd (gV _ _ i) (Af 1 I (tW (Ar h I ?_ ?_)))))
 intro j h
 refine Ah I (uD g0 ?_)
 cases io h
 exact uC ⟨.inr I, [_, _], [], J2, Cm, I2⟩
 intro j h
 refine tZ ?_
 subst g
 refine Aa fun u k => Eb 14 (decide (a < 0) || decide (a > 32000)) ?_ ?_
 refine tV (Af 3 I ?_)
 rcases bt (decide (a < 0)) with d | d
 exact Ad 11 I d (Af 3 I (tW (jf (by simp only [d, bz]) I I I2)))
 exact Ad 11 I d (Af 3 I (tW (jf (by simp only [d, bz]) I I I2)))
 refine Ar h I ?_ ?_
 intro l h
 refine Ah I (uD g0 ?_)
 cases io h
 exact uC ⟨.inr I, [_, _], [], J2, Cm, I2⟩
 intro l h
 refine tZ ?_
 subst k
 refine Bh [.o 1 0, .o 3 0, .f 8 (.V (wr ((wr ((wr (b.Fall * a)) * a)).tdiv 1000)))] I ⟨Yp.yd (El (c := wr ((wr ((wr (b.Fall * a)) * a)).tdiv 1000)) I I ⟨by decide, I⟩), I, I, J⟩ (uD g0 ?_)
 cases io h
 exact uC ⟨.inr I, [_, _], [], J2, Cm, I2⟩
theorem Uc (d : Sn) (a : Bounds) (e : Int) (r : Bounds × Int) (h : Vq d a e = some r) : ACalls Aj 65 [.agg (Ba d), .agg (Aq a), .V e] [] (RV (.tup [.agg (Aq r.1), .V r.2])) := by
 refine Ae Tryz.func65 I I I fun C hC => ?_
 refine Aa fun t f => tV (tX [] I (Bo (Ba d) 5 fun u => tX [] I (Bo (Aq a) 2 fun v => tX [] I (uF [.V 0, .V 0] 2 fun w => Af 1 I (tW ?_)))))
 subst f
 refine Aa fun y g => ?_
 obtain ⟨b, i, h⟩ := Ac h
 refine tV (An 2 [.o 0 0] I J1 (Cd (gA _ _ _ i) (Af 5 I (tW ?_))))
 subst g
 refine Aa fun A j => Ah I (Ar h I ?_ ?_)
 intro k h
 refine uB (tV (uH (Au (l := [.V 0, .V 0]) Dp I) I (Af 1 I (tX [2] I (A3 2 0 0 [[.V 0, .V 0]] I (Af 1 I (tW (Cv [2] I ?_))))))))
 cases io h
 exact uC ⟨.inr I, [_, _], [], ⟨⟨0, _, _, _, _, _, _, _, I5⟩, I, J⟩, Cm, I2⟩
 intro k h
 refine tZ ?_
 subst j
 refine Aa fun B n => uB (tV (An 1 [.o 0 1] I J1 (Cd (Ug a _ I) (Af 1 I (tW (Ar h I ?_ ?_))))))
 intro s h
 refine uB (tV (uH (Au (l := [.V 0, .V 0]) Dp I) I (tX [2] I (A3 2 0 0 [[.V 0, .V 0]] I (Af 1 I (tW (Cv [2] I ?_)))))))
 cases io h
 exact uC ⟨.inr I, [_, _], [], ⟨⟨0, _, _, _, _, _, _, _, I5⟩, I, J⟩, Cm, I2⟩
 intro s h
 refine tZ ?_
 subst n
 refine uB (tV (An 8 [.o 1 1, .o 5 1] I J2 (uH (Au (l := [.V (wr (a.Low + b.1)), .V (wr (a.High + b.1))]) Dp I) I (tX [2] I (A3 2 0 0 [[.V (wr (a.Low + b.1)), .V (wr (a.High + b.1))]] I (Af 1 I (tW (Cv [2] I ?_))))))))
 cases io h
 exact uC ⟨.inr I, [_, _], [], ⟨⟨0, _, _, _, _, _, _, _, I5⟩, I, J⟩, Cm, I2⟩
theorem T0 (d : Nw) (e : Plan) (t : Int) (r : Int) (h : M2 d e t = some r) : ACalls Aj 66 [.agg (Ab d), .agg (Am e), .V t] [] (RV (.V r)) := by
 refine Ae Tryz.func66 I I I fun C hC => ?_
 unfold M2 at h
 refine Aa fun S y => tV (tX [] I (Bo (Ab d) 6 fun U => tX [] I (Bo (Am e) 3 fun u => Af 1 I (tW ?_))))
 subst y
 refine Ah I (Ai (fun s ob => ∃ (g : Int), M2.J1 g = some r ∧ s = [(7, .V g)] ∧ ob = []) [] J ?_ ?_)
 refine Bh [.o 1 0, .l 2 (d.Segments.length : Int)] I ⟨Ax, I, J⟩ (uA (B0 13 I fun A => ?_))
 obtain ⟨W, B, D⟩ := Ac h
 refine Cu B [(2, _), (4, _), (13, _), (14, _)] J4 (fun (f : Nat) (b : Int) s ob => s = [(15, .V (f : Int)), (7, .V b)] ∧ ob = [O1 u [Am e]]) ⟨I, I⟩ ⟨I, I, J⟩ ⟨[1], I, by decide⟩ ?_ ?_
 rintro f i b E s ob F w ⟨rfl, rfl⟩ h
 unfold M2.B2 at h
 have G := Co w
 refine Ah I (Aa fun X H => Bp I G (tZ ?_))
 subst H
 refine Ai (fun s ob => ∃ (j : Int), M2.J3 j = some E ∧ s = [(7, .V j)] ∧ ob = [O1 u [Am e]]) [(2, _), (4, _), (13, _), (14, _), (15, _)] J5 ?_ ?_
 refine uA (Aa fun Y K => tV (An 3 [.x 1 f (Ak i)] I ⟨⟨I, Ag F⟩, J⟩ (tX [] I (uF W2 7 fun Z => Af 1 I (tX [1] I (A3 1 0 0 [Ak i] I (tW ?_)))))))
 subst K
 refine Aa fun aa M => uB ?_
 obtain ⟨a, ⟨n, p⟩, h⟩ := A6 h
 refine E2 [.o 1 0, .x 3 a.1 (rI a.2)] I ⟨⟨n, Ag p⟩, I, J⟩ (Ar h I ?_ ?_)
 intro O h
 exact uE (lg ⟨b, h, I2⟩ [0])
 intro O h
 refine tZ ?_
 subst M
 refine Aa fun ab P => Bz (pd 12 0 [6]) [1, 0] [_, _] I (Ca 6 [.o 0 0, .o 2 1, .x 4 a.1 (rI a.2)] I ⟨⟨n, Ag p⟩, I, I, J⟩ (Dq I (Ho i a.2 _ I) (Bf 5 I (Ap (tW ?_)))))
 subst P
 refine Ah I (Ar h I ?_ ?_)
 intro Q h
 exact tV (An 6 [.o 2 0, .x 4 a.1 (rI a.2)] I ⟨⟨n, Ag p⟩, I, J⟩ (Cd (Of a.2 _ I) (Af 2 I (tW (lg ⟨wr (b + (F8 a.2)), h, I2⟩ [0])))))
 intro Q h
 exact tZ (lg ⟨b, h, I2⟩ [0])
 rintro s ob ⟨j, h, rfl, rfl⟩
 unfold M2.J3 at h
 refine tV (An 2 [.k 0 (f + 1 : Nat)] I ⟨A0 w A, J⟩ ?_)
 cases io h
 exact tW (lg I2 [0])
 rintro b s ob ⟨rfl, rfl⟩ he
 subst he
 have h := D
 have R := Cp d.Segments.length
 exact Ah I (Aa fun ac ad => Br I R (uE (lg ⟨b, h, I2⟩ [])))
 rintro s ob ⟨g, h, rfl, rfl⟩
 unfold M2.J1 at h
 refine Ah I ?_
 cases io h
 exact uC pr
theorem iG (a : Nw) (b : List (List Piece)) (r : Int) (h : Qk a b = some r) : ACalls Aj 60 [.agg (Ab a), .list 1 (b.map (rL 2 A4))] [] (RV (.V r)) := by
 refine Ae Tryz.func60 I I I fun C hC => ?_
 refine Aa fun y1 A => tV (tX [] I (Bo (Ab a) 6 fun f => Af 1 I (tW ?_)))
 subst A
 refine Aa fun y3 B => uB ?_
 obtain ⟨r4, D, h⟩ := Ac h
 refine tV (An 1 [.o 0 0] I J1 (Cd (Jx _ _ D) (Af 1 I (tW (Ah I (Ar h I ?_ ?_))))))
 intro E h
 refine Ah I (uD g0 ?_)
 cases io h
 exact uC pr
 intro E h
 refine tZ ?_
 subst B
 refine Aa fun y7 F => Bh [.l 1 (b.length : Int), .o 3 0, .l 4 (a.Segments.length : Int)] I ⟨Ax, I, Ax, J⟩ (Ar h I ?_ ?_)
 intro G h
 refine Ah I (uD g0 ?_)
 cases io h
 exact uC pr
 intro G h
 refine tZ ?_
 subst F
 refine Ai (fun s ob => ∃ (g : Unit), Qk.J1 a b g = some r ∧ s = [] ∧ ob = [O0 f [Ab a]]) [(1, _), (2, _)] J2 ?_ ?_
 refine Bh [.l 1 (b.length : Int)] I ⟨Ax, J⟩ (uA (B0 19 I fun H => ?_))
 obtain ⟨am, K, i⟩ := Ac h
 refine Bx K [(1, _), (2, _), (20, _)] J3 (fun (d : Nat) (j : Unit) s ob => s = [(21, .V (d : Int))] ∧ ob = [O0 f [Ab a]]) ⟨I, I⟩ ⟨I, J⟩ ⟨[0], I, by decide⟩ ?_ ?_
 rintro d M j an s ob N n ⟨rfl, rfl⟩ h O
 have P := Co n
 refine Ah I (Aa fun ao Q => Bp I P (tZ ?_))
 subst Q
 refine uB (uA (Ah I (uB ?_)))
 obtain ⟨ap, R, h⟩ := Ac h
 refine tV (An 4 [.x 2 d ((rL 2 A4) M)] I ⟨⟨I, Ag N⟩, J⟩ (Cd (Oi _ _ R) (Af 1 I (tW (Ar h I ?_ ?_)))))
 intro S h
 refine Ah I ?_
 obtain rfl := O _ (oi h).symm
 have h := i
 have h := C2 h
 refine uD g0 ?_
 cases io h
 exact uC pr
 intro S h
 refine tZ (tV (An 2 [.k 0 (d + 1 : Nat)] I ⟨A0 n H, J⟩ ?_))
 cases io h
 exact tW ⟨_, _, _, I, I2, J4, [0], I, by decide⟩
 rintro j s ob ⟨rfl, rfl⟩ he
 subst he
 have h := C8 i
 have U := Cp b.length
 exact Ah I (Aa fun aq ar => Br I U (uE (lg ⟨(), h, I2⟩ [0])))
 rintro s ob ⟨g, h, rfl, rfl⟩
 unfold Qk.J1 at h
 refine Ai (fun s ob => ∃ (p : Unit), Qk.J2 p = some r ∧ s = [] ∧ ob = []) [] J ?_ ?_
 refine Bh [.l 1 (b.length : Int)] I ⟨Ax, J⟩ (uA (B0 31 I fun W => ?_))
 obtain ⟨au, X, t⟩ := Ac h
 refine Bx X [(1, _), (2, _), (32, _)] J3 (fun (e : Nat) (u : Unit) s ob => s = [(33, .V (e : Int))] ∧ ob = [O0 f [Ab a]]) ⟨I, I⟩ ⟨I, J⟩ ⟨[0], I, by decide⟩ ?_ ?_
 rintro e Y u av s ob Z w ⟨rfl, rfl⟩ h aa
 have ab := Co w
 refine Ah I (Aa fun aw ac => Bp I ab (tZ ?_))
 subst ac
 refine uB (uA (Ah I (uB ?_)))
 obtain ⟨ax, ad, h⟩ := Ac h
 obtain ⟨y, ⟨ae, af⟩, h⟩ := A6 h
 refine Bz (sl 4 0 (sl 6 5 (.act 4 (.still 11 .nil)))) [0] [_] I (Ca 10 [.x 2 e ((rL 2 A4) Y), .o 5 0, .x 7 y.1 (Ak y.2)] I ⟨⟨ae, Ag af⟩, I, ⟨I, Ag Z⟩, J⟩ (Dq I (Tz _ _ ad) (Bf 1 I (Ap (tW (Ar h I ?_ ?_))))))
 intro ag h
 refine Ah I ?_
 obtain rfl := aa _ (oi h).symm
 have h := t
 have h := C2 h
 refine uD g0 ?_
 cases io h
 exact uC pr
 intro ag h
 refine tZ (tV (An 2 [.k 0 (e + 1 : Nat)] I ⟨A0 w W, J⟩ ?_))
 cases io h
 exact tW ⟨_, _, _, I, I2, J4, [0], I, by decide⟩
 rintro u s ob ⟨rfl, rfl⟩ he
 subst he
 have h := C8 t
 have ah := Cp b.length
 exact Ah I (Aa fun ay az => Br I ah (uE (lg ⟨(), h, I2⟩ [])))
 rintro s ob ⟨p, h, rfl, rfl⟩
 unfold Qk.J2 at h
 refine Ah I ?_
 cases io h
 exact uC pr
theorem iQ (a : Nw) (b : Plan) (r : Li × Int) (h : V4 a b = some r) : ACalls Aj 63 [.agg (Ab a), .agg (Am b)] [] (fun x new => ∃ (d : Value), x = .tup [.v d, .V r.2] ∧ new = [U0 d r.1]) := by
 refine Ae Tryz.func63 I I I fun C hC => ?_
 refine Aa fun l f => tV (tX [] I (Bo (Ab a) 6 fun n => tX [] I (Bo (Am b) 3 fun p => Af 2 I (tW ?_))))
 subst f
 refine uB (uB ?_)
 obtain ⟨s, g, h⟩ := Ac h
 refine tV (An 2 [.o 0 0, .o 1 1] I J2 (Cd (T3 _ _ _ g) (Af 1 I (tW (Ah I (Ar h I ?_ ?_))))))
 intro i h
 refine Ah I (uD (Bs 3 1) (Cv [2] I ?_))
 cases io h
 exact uC ⟨.inr I, [_, _], [.us (.slice none 0 0) 3 1 ([].map rI)], J2, Cz I (Cm), ⟨(.slice none 0 0), I2⟩⟩
 intro i h
 refine tZ (uB ?_)
 obtain ⟨j, k, h⟩ := Ac h
 refine tV (An 2 [.o 0 0, .o 1 1] I J2 (tX [] I (Ck I I I (Uu _ _ _ k) dS ?_)))
 rintro _ _ ⟨e, rfl, rfl⟩
 refine Af 2 I (tW (Cv [2] I ?_))
 cases io h
 exact uC ⟨.inr I, [_, _], [U0 e j], J2, Cz I (Cm), ⟨e, I2⟩⟩
theorem gD (j : Nw) (au : List Batch) (av : List Product) (ae : List (List Piece)) (w : Plan) (r : Pressures × Int) (h : P8 j au av ae w = some r) : ACalls Aj 29 [.agg (Ab j), Q3 au, Q2 av, .list 1 (ae.map (rL 2 A4)), .agg (Am w)] [] (RV (.tup [.agg (A9 r.1), .V r.2])) := by
 refine Ae Tryz.func29 I I I fun C hC => ?_
 refine Aa fun y1 c2 => tV (tX [] I (Bo (Ab j) 6 fun G => tX [] I (Bo (Am w) 3 fun H => tX [] I (uF W0 3 fun F => Af 1 I (tW ?_)))))
 subst c2
 refine Aa fun y5 c3 => uB ?_
 obtain ⟨r6, c4, h⟩ := Ac h
 refine tV (An 2 [.o 0 0, .o 1 1] I J2 (Cd (T3 _ _ _ c4) (Af 1 I (tW (Ah I (Ar h I ?_ ?_))))))
 intro c5 h
 refine uB (tV (uH (Au (l := W0) Cg I) I (Af 1 I (tX [2] I (A3 2 0 0 [W0] I (Af 1 I (tW (uD (Bi [] (K := []) I [] J (ob' := [O0 G [Ab j], O1 H [Am w], O3 F [[.list 1 ([].map rB), .list 2 ([].map Aq), .list 1 ([].map (rL 3 Ao))]]]) (.cons (.same _) (.cons (.same _) (.cons (.arr (.cons (.nil _) (.cons (.nil _) (.cons (.nil _) (.rest _))))) (.rest _))))) (Cv [2] I ?_)))))))))
 cases io h
 rotate_left
 intro c5 h
 refine tZ ?_
 subst c3
 refine Aa fun y9 c6 => uB ?_
 obtain ⟨gk, c7, h⟩ := Ac h
 refine tV (An 2 [.o 0 0] I J1 (Cd (iG _ _ _ c7) (Af 1 I (tW (Ah I (Ar h I ?_ ?_))))))
 intro c8 h
 refine uB (tV (uH (Au (l := W0) Cg I) I (Af 1 I (tX [2] I (A3 2 0 0 [W0] I (Af 1 I (tW (uD (Bi [] (K := []) I [] J (ob' := [O0 G [Ab j], O1 H [Am w], O3 F [[.list 1 ([].map rB), .list 2 ([].map Aq), .list 1 ([].map (rL 3 Ao))]]]) (.cons (.same _) (.cons (.same _) (.cons (.arr (.cons (.nil _) (.cons (.nil _) (.cons (.nil _) (.rest _))))) (.rest _))))) (Cv [2] I ?_)))))))))
 cases io h
 rotate_left
 intro c8 h
 refine tZ ?_
 subst c6
 refine Aa fun gl c9 => uB ?_
 obtain ⟨gm, da, h⟩ := Ac h
 refine tV (Af 1 I (Cd (Um _ _ da) (Af 1 I (tW (Ah I (Ar h I ?_ ?_))))))
 intro db h
 refine uB (tV (uH (Au (l := W0) Cg I) I (Af 1 I (tX [2] I (A3 2 0 0 [W0] I (Af 1 I (tW (uD (Bi [] (K := []) I [] J (ob' := [O0 G [Ab j], O1 H [Am w], O3 F [[.list 1 ([].map rB), .list 2 ([].map Aq), .list 1 ([].map (rL 3 Ao))]]]) (.cons (.same _) (.cons (.same _) (.cons (.arr (.cons (.nil _) (.cons (.nil _) (.cons (.nil _) (.rest _))))) (.rest _))))) (Cv [2] I ?_)))))))))
 cases io h
 rotate_left
 intro db h
 refine tZ ?_
 subst c9
 refine Ai (fun s ob => ∃ (cg : Unit), P8.J1 j au av ae w cg = some r ∧ s = [] ∧ ob = [O0 G [Ab j], O1 H [Am w], O3 F [W0]]) [(1, _), (2, _), (3, _), (5, _), (9, _), (10, _)] J6 ?_ ?_
 refine Bh [.l 1 (ae.length : Int)] I ⟨Ax, J⟩ (uA (B0 59 I fun dc => ?_))
 obtain ⟨gn, dd, ci⟩ := Ac h
 refine Bx dd [(1, _), (2, _), (3, _), (5, _), (9, _), (10, _), (60, _)] J7 (fun (be : Nat) (cj : Unit) s ob => s = [(61, .V (be : Int))] ∧ ob = [O0 G [Ab j], O1 H [Am w], O3 F [W0]]) ⟨I, I⟩ ⟨I, J⟩ ⟨[0, 1, 2], I, by decide⟩ ?_ ?_
 rintro be de cj go s ob df ck ⟨rfl, rfl⟩ h dg
 have dh := Co ck
 refine Ah I (Aa fun gq di => Bp I dh (tZ ?_))
 subst di
 refine uB (uA (Ah I (uB ?_)))
 obtain ⟨gr, dj, h⟩ := Ac h
 refine tV (An 6 [.x 2 be ((rL 2 A4) de)] I ⟨⟨I, Ag df⟩, J⟩ (Cd (Ul _ _ _ _ dj) (Af 1 I (tW (Ar h I ?_ ?_)))))
 intro dk h
 refine uB (tV (uH (Au (l := W0) Cg I) I (tX [2] I (A3 2 0 0 [W0] I (Af 1 I (tW ?_))))))
 obtain rfl := dg _ (oi h).symm
 have h := ci
 have h := C2 h
 refine uD (Bi [] (K := []) I [] J (ob' := [O0 G [Ab j], O1 H [Am w], O3 F [[.list 1 ([].map rB), .list 2 ([].map Aq), .list 1 ([].map (rL 3 Ao))]]]) (.cons (.same _) (.cons (.same _) (.cons (.arr (.cons (.nil _) (.cons (.nil _) (.cons (.nil _) (.rest _))))) (.rest _))))) (Cv [2] I ?_)
 cases io h
 any_goals
  exact uC ⟨.inr I, [_, _], [], ⟨⟨0, _, _, _, _, _, _, _, I5⟩, I, J⟩, Cm, I2⟩
 intro dk h
 refine tZ (tV (An 2 [.k 0 (be + 1 : Nat)] I ⟨A0 ck dc, J⟩ ?_))
 cases io h
 exact tW ⟨_, _, _, I, I2, J8, [0, 1, 2], I, by decide⟩
 rintro cj s ob ⟨rfl, rfl⟩ he
 subst he
 have h := C8 ci
 have dl := Cp ae.length
 exact Ah I (Aa fun gs gt => Br I dl (uE (lg ⟨(), h, I2⟩ [0, 1, 2])))
 rintro s ob ⟨cg, h, rfl, rfl⟩
 unfold P8.J1 at h
 refine Ai (fun s ob => ∃ (a7 : (List Bool) × (List Bounds) × (List (List Level))) (O : Nat) (n : Value) (t : Value) (u : Value), P8.J2 j au av ae w a7 = some r ∧ s = [(16, .v (.pointer (some ⟨O, 0, none⟩)))] ∧ ob = [O0 G [Ab j], O1 H [Am w], O3 F [W0], U1 n a7.1, U2 t a7.2.1, .us u 127 1 (a7.2.2.map (rL 3 Ao)), O3 O [[.v n, .v t, .v u]]]) [(1, _), (2, _), (3, _), (5, _), (9, _), (10, _)] J6 ?_ ?_
 obtain ⟨R, ⟨gu, af, ag, ah⟩, h⟩ := Gl h
 obtain ⟨S, ⟨gv, ai, aj, ak⟩, h⟩ := Gl h
 obtain ⟨W, ⟨D, X, Y, Z⟩, h⟩ := Gl h
 refine Bz (sl 3 0 (sl 3 4 (sl 3 8 (.four 3 7 11 13 (.three 7 11 13 qX (.par [(7, []), (13, []), (12, [7])] (.act 14 .nil)) (.two 7 11 (.act 11 Kd) (.act 7 Kd))) (.three 3 11 13 qX (.par [(3, []), (13, []), (12, [3])] (.act 14 .nil)) (.two 3 11 (.act 11 Kd) (.act 3 Kd))) (.par [(3, []), (7, []), (13, []), (12, [3, 7])] (.act 14 .nil)) (.three 3 7 11 (.two 7 11 (.act 11 Kd) (.act 7 Kd)) (.two 3 11 (.act 11 Kd) (.act 3 Kd)) (.par [(3, []), (7, [])] Kd)))))) [0] [_] I (Ca 9 [.o 1 0, .l 2 (j.Nodes.length : Int), .o 4 0, .l 5 (j.Nodes.length : Int), .o 7 0, .l 8 (j.Segments.length : Int)] I ⟨Ax, I, Ax, I, Ax, I, J⟩ (AP.four ?_ ?_ ?_ ?_))
 refine tY [] I I I (Bq (sz := 1) I I I I I I I I I I af ag (Ct (f := rB) ah I) dS fun e => uT ?_ ?_ ?_)
 refine tY [] I I I (Bq (sz := 2) I I I I I I I I I I ai aj (Ct (f := Aq) ak I) dS fun g => uK ?_ ?_)
 exact tY [] I I I (Bq (sz := 1) (es' := List.replicate D [.N]) I I I I I I I I I I X Y I dS fun a => Cx (Cj (f := Ao) 5 D 3 Z I) I (uI 3 I fun A => uI 4 I fun B => uI 5 I fun E => uQ I (Au (l := [.v e, .v g, .v a]) Cg (As I I (A8 A) I (As I I (A8 B) I (As I I (A8 E) I (Cw))))) I (tY [] I I I (uF W0 3 fun M => tY [6] I I I (A3 6 0 0 [[.v e, .v g, .v a]] I (Ap (tW (lg ⟨(R, S, W), M, e, g, a, h, I2⟩ [0, 1, 2, 3, 4, 5, 6]))))))))
 exact tY [] I I I (uF W0 3 fun M => tY [] I I I (Bq (sz := 1) (es' := List.replicate D [.N]) I I I I I I I I I I X Y I dS fun a => Cx (Cj (f := Ao) 6 D 3 Z I) I (uI 3 I fun A => uI 4 I fun B => uI 6 I fun E => uQ I (Au (l := [.v e, .v g, .v a]) Cg (As I I (A8 A) I (As I I (A8 B) I (As I I (A8 E) I (Cw))))) I (tY [5] I I I (A3 5 0 0 [[.v e, .v g, .v a]] I (Ap (tW (lg ⟨(R, S, W), M, e, g, a, h, I2⟩ [0, 1, 2, 3, 4, 6, 5]))))))))
 refine tY [] I I I (Bq (sz := 1) (es' := List.replicate D [.N]) I I I I I I I I I I X Y I dS fun a => Cx (Cj (f := Ao) 4 D 3 Z I) I (uI 3 I fun A => uI 4 I fun E => AP.any [⟨7, [], 81, .us 129 2 (S.map Aq)⟩, ⟨13, [], 16, .box 84 3 (W0)⟩, ⟨12, [7], 86, .fn fun l => match l with | [.v g] => .agg [.v e, .v g, .v a] | _ => .tup []⟩] I ⟨⟨_, I, I, I, fun _ => Bq (sz := 2) I I I I I I I I I I ai aj (Ct (f := Aq) ak I) dS fun v => ⟨_, I, ⟨v, I⟩, I⟩⟩, ⟨_, I, I, I, fun _ => uF W0 3 fun b => ⟨_, I, ⟨b, I⟩, I⟩⟩, ⟨_, I, I, I, fun g B _ => Ce (Yp.yd (Au (l := [.v e, .v g, .v a]) Cg (As I I (A8 A) I (As I I (A8 B) I (As I I (A8 E) I (Cw)))))) dS ⟨_, I, I, nb⟩⟩, J⟩ ?_))
 intro g B M
 exact AP.same 86 (.agg [.v e, .v g, .v a]) I (tY [6] I I I (A3 6 0 0 [[.v e, .v g, .v a]] I (Ap (tW (lg ⟨(R, S, W), M, e, g, a, h, I2⟩ [0, 1, 2, 3, 5, 4, 6])))))
 refine tY [] I I I (uF W0 3 fun M => uK ?_ ?_)
 exact tY [] I I I (Bq (sz := 2) I I I I I I I I I I ai aj (Ct (f := Aq) ak I) dS fun g => tY [] I I I (Bq (sz := 1) (es' := List.replicate D [.N]) I I I I I I I I I I X Y I dS fun a => Cx (Cj (f := Ao) 6 D 3 Z I) I (uI 3 I fun A => uI 5 I fun B => uI 6 I fun E => uQ I (Au (l := [.v e, .v g, .v a]) Cg (As I I (A8 A) I (As I I (A8 B) I (As I I (A8 E) I (Cw))))) I (tY [4] I I I (A3 4 0 0 [[.v e, .v g, .v a]] I (Ap (tW (lg ⟨(R, S, W), M, e, g, a, h, I2⟩ [0, 1, 2, 3, 5, 6, 4]))))))))
 exact tY [] I I I (Bq (sz := 1) (es' := List.replicate D [.N]) I I I I I I I I I I X Y I dS fun a => Cx (Cj (f := Ao) 5 D 3 Z I) I (tY [] I I I (Bq (sz := 2) I I I I I I I I I I ai aj (Ct (f := Aq) ak I) dS fun g => uI 3 I fun A => uI 6 I fun B => uI 5 I fun E => uQ I (Au (l := [.v e, .v g, .v a]) Cg (As I I (A8 A) I (As I I (A8 B) I (As I I (A8 E) I (Cw))))) I (tY [4] I I I (A3 4 0 0 [[.v e, .v g, .v a]] I (Ap (tW (lg ⟨(R, S, W), M, e, g, a, h, I2⟩ [0, 1, 2, 3, 6, 5, 4]))))))))
 refine tY [] I I I (Bq (sz := 2) I I I I I I I I I I ai aj (Ct (f := Aq) ak I) dS fun g => uT ?_ ?_ ?_)
 refine tY [] I I I (Bq (sz := 1) I I I I I I I I I I af ag (Ct (f := rB) ah I) dS fun e => uK ?_ ?_)
 exact tY [] I I I (Bq (sz := 1) (es' := List.replicate D [.N]) I I I I I I I I I I X Y I dS fun a => Cx (Cj (f := Ao) 5 D 3 Z I) I (uI 4 I fun A => uI 3 I fun B => uI 5 I fun E => uQ I (Au (l := [.v e, .v g, .v a]) Cg (As I I (A8 A) I (As I I (A8 B) I (As I I (A8 E) I (Cw))))) I (tY [] I I I (uF W0 3 fun M => tY [6] I I I (A3 6 0 0 [[.v e, .v g, .v a]] I (Ap (tW (lg ⟨(R, S, W), M, e, g, a, h, I2⟩ [0, 1, 2, 4, 3, 5, 6]))))))))
 exact tY [] I I I (uF W0 3 fun M => tY [] I I I (Bq (sz := 1) (es' := List.replicate D [.N]) I I I I I I I I I I X Y I dS fun a => Cx (Cj (f := Ao) 6 D 3 Z I) I (uI 4 I fun A => uI 3 I fun B => uI 6 I fun E => uQ I (Au (l := [.v e, .v g, .v a]) Cg (As I I (A8 A) I (As I I (A8 B) I (As I I (A8 E) I (Cw))))) I (tY [5] I I I (A3 5 0 0 [[.v e, .v g, .v a]] I (Ap (tW (lg ⟨(R, S, W), M, e, g, a, h, I2⟩ [0, 1, 2, 4, 3, 6, 5]))))))))
 refine tY [] I I I (Bq (sz := 1) (es' := List.replicate D [.N]) I I I I I I I I I I X Y I dS fun a => Cx (Cj (f := Ao) 4 D 3 Z I) I (uI 3 I fun B => uI 4 I fun E => AP.any [⟨3, [], 77, .us 4 1 (R.map rB)⟩, ⟨13, [], 16, .box 84 3 (W0)⟩, ⟨12, [3], 86, .fn fun l => match l with | [.v e] => .agg [.v e, .v g, .v a] | _ => .tup []⟩] I ⟨⟨_, I, I, I, fun _ => Bq (sz := 1) I I I I I I I I I I af ag (Ct (f := rB) ah I) dS fun v => ⟨_, I, ⟨v, I⟩, I⟩⟩, ⟨_, I, I, I, fun _ => uF W0 3 fun b => ⟨_, I, ⟨b, I⟩, I⟩⟩, ⟨_, I, I, I, fun e A _ => Ce (Yp.yd (Au (l := [.v e, .v g, .v a]) Cg (As I I (A8 A) I (As I I (A8 B) I (As I I (A8 E) I (Cw)))))) dS ⟨_, I, I, nb⟩⟩, J⟩ ?_))
 intro e A M
 exact AP.same 86 (.agg [.v e, .v g, .v a]) I (tY [6] I I I (A3 6 0 0 [[.v e, .v g, .v a]] I (Ap (tW (lg ⟨(R, S, W), M, e, g, a, h, I2⟩ [0, 1, 2, 5, 3, 4, 6])))))
 refine tY [] I I I (uF W0 3 fun M => uK ?_ ?_)
 exact tY [] I I I (Bq (sz := 1) I I I I I I I I I I af ag (Ct (f := rB) ah I) dS fun e => tY [] I I I (Bq (sz := 1) (es' := List.replicate D [.N]) I I I I I I I I I I X Y I dS fun a => Cx (Cj (f := Ao) 6 D 3 Z I) I (uI 5 I fun A => uI 3 I fun B => uI 6 I fun E => uQ I (Au (l := [.v e, .v g, .v a]) Cg (As I I (A8 A) I (As I I (A8 B) I (As I I (A8 E) I (Cw))))) I (tY [4] I I I (A3 4 0 0 [[.v e, .v g, .v a]] I (Ap (tW (lg ⟨(R, S, W), M, e, g, a, h, I2⟩ [0, 1, 2, 5, 3, 6, 4]))))))))
 exact tY [] I I I (Bq (sz := 1) (es' := List.replicate D [.N]) I I I I I I I I I I X Y I dS fun a => Cx (Cj (f := Ao) 5 D 3 Z I) I (tY [] I I I (Bq (sz := 1) I I I I I I I I I I af ag (Ct (f := rB) ah I) dS fun e => uI 6 I fun A => uI 3 I fun B => uI 5 I fun E => uQ I (Au (l := [.v e, .v g, .v a]) Cg (As I I (A8 A) I (As I I (A8 B) I (As I I (A8 E) I (Cw))))) I (tY [4] I I I (A3 4 0 0 [[.v e, .v g, .v a]] I (Ap (tW (lg ⟨(R, S, W), M, e, g, a, h, I2⟩ [0, 1, 2, 6, 3, 5, 4]))))))))
 refine tY [] I I I (Bq (sz := 1) (es' := List.replicate D [.N]) I I I I I I I I I I X Y I dS fun a => Cx (Cj (f := Ao) 3 D 3 Z I) I (uI 3 I fun E => AP.any [⟨3, [], 77, .us 4 1 (R.map rB)⟩, ⟨7, [], 81, .us 129 2 (S.map Aq)⟩, ⟨13, [], 16, .box 84 3 (W0)⟩, ⟨12, [3, 7], 86, .fn fun l => match l with | [.v e, .v g] => .agg [.v e, .v g, .v a] | _ => .tup []⟩] I ⟨⟨_, I, I, I, fun _ => Bq (sz := 1) I I I I I I I I I I af ag (Ct (f := rB) ah I) dS fun v => ⟨_, I, ⟨v, I⟩, I⟩⟩, ⟨_, I, I, I, fun _ => Bq (sz := 2) I I I I I I I I I I ai aj (Ct (f := Aq) ak I) dS fun v => ⟨_, I, ⟨v, I⟩, I⟩⟩, ⟨_, I, I, I, fun _ => uF W0 3 fun b => ⟨_, I, ⟨b, I⟩, I⟩⟩, ⟨_, I, I, I, fun e A g B _ => Ce (Yp.yd (Au (l := [.v e, .v g, .v a]) Cg (As I I (A8 A) I (As I I (A8 B) I (As I I (A8 E) I (Cw)))))) dS ⟨_, I, I, nb⟩⟩, J⟩ ?_))
 intro e A g B M
 exact AP.same 86 (.agg [.v e, .v g, .v a]) I (tY [6] I I I (A3 6 0 0 [[.v e, .v g, .v a]] I (Ap (tW (lg ⟨(R, S, W), M, e, g, a, h, I2⟩ [0, 1, 2, 4, 5, 3, 6])))))
 refine tY [] I I I (uF W0 3 fun M => uT ?_ ?_ ?_)
 refine tY [] I I I (Bq (sz := 1) I I I I I I I I I I af ag (Ct (f := rB) ah I) dS fun e => uK ?_ ?_)
 exact tY [] I I I (Bq (sz := 2) I I I I I I I I I I ai aj (Ct (f := Aq) ak I) dS fun g => tY [] I I I (Bq (sz := 1) (es' := List.replicate D [.N]) I I I I I I I I I I X Y I dS fun a => Cx (Cj (f := Ao) 6 D 3 Z I) I (uI 4 I fun A => uI 5 I fun B => uI 6 I fun E => uQ I (Au (l := [.v e, .v g, .v a]) Cg (As I I (A8 A) I (As I I (A8 B) I (As I I (A8 E) I (Cw))))) I (tY [3] I I I (A3 3 0 0 [[.v e, .v g, .v a]] I (Ap (tW (lg ⟨(R, S, W), M, e, g, a, h, I2⟩ [0, 1, 2, 4, 5, 6, 3]))))))))
 exact tY [] I I I (Bq (sz := 1) (es' := List.replicate D [.N]) I I I I I I I I I I X Y I dS fun a => Cx (Cj (f := Ao) 5 D 3 Z I) I (tY [] I I I (Bq (sz := 2) I I I I I I I I I I ai aj (Ct (f := Aq) ak I) dS fun g => uI 4 I fun A => uI 6 I fun B => uI 5 I fun E => uQ I (Au (l := [.v e, .v g, .v a]) Cg (As I I (A8 A) I (As I I (A8 B) I (As I I (A8 E) I (Cw))))) I (tY [3] I I I (A3 3 0 0 [[.v e, .v g, .v a]] I (Ap (tW (lg ⟨(R, S, W), M, e, g, a, h, I2⟩ [0, 1, 2, 4, 6, 5, 3]))))))))
 refine tY [] I I I (Bq (sz := 2) I I I I I I I I I I ai aj (Ct (f := Aq) ak I) dS fun g => uK ?_ ?_)
 exact tY [] I I I (Bq (sz := 1) I I I I I I I I I I af ag (Ct (f := rB) ah I) dS fun e => tY [] I I I (Bq (sz := 1) (es' := List.replicate D [.N]) I I I I I I I I I I X Y I dS fun a => Cx (Cj (f := Ao) 6 D 3 Z I) I (uI 5 I fun A => uI 4 I fun B => uI 6 I fun E => uQ I (Au (l := [.v e, .v g, .v a]) Cg (As I I (A8 A) I (As I I (A8 B) I (As I I (A8 E) I (Cw))))) I (tY [3] I I I (A3 3 0 0 [[.v e, .v g, .v a]] I (Ap (tW (lg ⟨(R, S, W), M, e, g, a, h, I2⟩ [0, 1, 2, 5, 4, 6, 3]))))))))
 exact tY [] I I I (Bq (sz := 1) (es' := List.replicate D [.N]) I I I I I I I I I I X Y I dS fun a => Cx (Cj (f := Ao) 5 D 3 Z I) I (tY [] I I I (Bq (sz := 1) I I I I I I I I I I af ag (Ct (f := rB) ah I) dS fun e => uI 6 I fun A => uI 4 I fun B => uI 5 I fun E => uQ I (Au (l := [.v e, .v g, .v a]) Cg (As I I (A8 A) I (As I I (A8 B) I (As I I (A8 E) I (Cw))))) I (tY [3] I I I (A3 3 0 0 [[.v e, .v g, .v a]] I (Ap (tW (lg ⟨(R, S, W), M, e, g, a, h, I2⟩ [0, 1, 2, 6, 4, 5, 3]))))))))
 refine tY [] I I I (Bq (sz := 1) (es' := List.replicate D [.N]) I I I I I I I I I I X Y I dS fun a => Cx (Cj (f := Ao) 4 D 3 Z I) I (AP.any [⟨3, [], 77, .us 4 1 (R.map rB)⟩, ⟨7, [], 81, .us 129 2 (S.map Aq)⟩] I ⟨⟨_, I, I, I, fun _ => Bq (sz := 1) I I I I I I I I I I af ag (Ct (f := rB) ah I) dS fun v => ⟨_, I, ⟨v, I⟩, I⟩⟩, ⟨_, I, I, I, fun _ => Bq (sz := 2) I I I I I I I I I I ai aj (Ct (f := Aq) ak I) dS fun v => ⟨_, I, ⟨v, I⟩, I⟩⟩, J⟩ ?_))
 intro e A g B
 exact uI 5 I fun A => uI 6 I fun B => uI 4 I fun E => uQ I (Au (l := [.v e, .v g, .v a]) Cg (As I I (A8 A) I (As I I (A8 B) I (As I I (A8 E) I (Cw))))) I (tY [3] I I I (A3 3 0 0 [[.v e, .v g, .v a]] I (Ap (tW (lg ⟨(R, S, W), M, e, g, a, h, I2⟩ [0, 1, 2, 5, 6, 4, 3])))))
 rintro s ob ⟨a7, O, n, t, u, h, rfl, rfl⟩
 refine Aa fun gw dm => ?_
 obtain ⟨Q, dn, h⟩ := Ac h
 refine tV (An 2 [.o 0 0, .o 1 1] I J2 (tX [] I (Ck I I I (iQ _ _ _ dn) dS ?_)))
 rintro _ _ ⟨U, rfl, rfl⟩
 refine Af 5 I (tW ?_)
 subst dm
 refine Ai (fun s ob => ∃ (ad : (List Bool) × (List Bounds) × (List (List Level))), P8.J3 ad = some r ∧ s = [] ∧ ob = [O3 F [W0], U1 n ad.1, U2 t ad.2.1, .us u 127 1 (ad.2.2.map (rL 3 Ao)), O3 O [[.v n, .v t, .v u]]]) [(10, _), (16, _)] J2 ?_ ?_
 refine Aa fun gx dp => tV (Af 1 I (uJ (C0 7 I I I I) I (Af 1 I (tW ?_))))
 subst dp
 refine uA (Ot 7 I fun dq => ?_)
 obtain ⟨gy, dr, ds⟩ := Ac h
 refine Gv dr [(1, _), (2, _), (3, _), (5, _), (9, _), (10, _), (16, _), (93, _), (94, _)] J9 (fun (bu : Nat) (i : (List Bool) × (List Bounds) × (List (List Level))) s ob => s = [(95, .V (bu : Int))] ∧ ob = [O0 G [Ab j], O1 H [Am w], O3 F [W0], U1 n i.1, U2 t i.2.1, .us u 127 1 (i.2.2.map (rL 3 Ao)), O3 O [[.v n, .v t, .v u]], U0 U Q.1]) ⟨I, I⟩ ⟨I, J⟩ ⟨[0, 1, 2, 3, 4, 5, 6, 7], I, by decide⟩ ?_ ?_
 rintro bu i a8 s ob cl ⟨rfl, rfl⟩ h
 unfold P8.B4 at h
 have dt := Co cl
 refine Ah I (Aa fun gz du => Bp I dt (tZ ?_))
 subst du
 refine Ai (fun s ob => ∃ (a9 : (List Bool) × (List Bounds) × (List (List Level))), P8.J5 a9 = some a8 ∧ s = [] ∧ ob = [O0 G [Ab j], O1 H [Am w], O3 F [W0], U1 n a9.1, U2 t a9.2.1, .us u 127 1 (a9.2.2.map (rL 3 Ao)), O3 O [[.v n, .v t, .v u]], U0 U Q.1]) [(1, _), (2, _), (3, _), (5, _), (9, _), (10, _), (16, _), (93, _), (94, _), (95, _)] jW ?_ ?_
 refine uA (Aa fun g0 dv => ?_)
 obtain ⟨al, ⟨dw, cm⟩, h⟩ := A6 h
 refine tV (uJ (Bm 7 (m := al.1) I I I I I I I dw (Ag cm)) I (uJ (Bl 7 al.1 0 I I I (Ag cm) I (y := .V al.2) I) I (Af 1 I (tW ?_))))
 subst dv
 refine Ah I (Ai (fun s ob => ∃ (bv : List Bounds) (bf : Value), P8.J6 j au av ae w i al bv = some a8 ∧ s = [(21, .v bf)] ∧ ob = [O0 G [Ab j], O1 H [Am w], O3 F [W0], U1 n i.1, U2 t i.2.1, .us u 127 1 (i.2.2.map (rL 3 Ao)), O3 O [[.v n, .v t, .v u]], U0 U Q.1, U2 bf bv]) [(1, _), (2, _), (3, _), (5, _), (9, _), (10, _), (16, _), (20, _), (93, _), (94, _), (95, _)] sO ?_ ?_)
 refine Bh [.o 1 0, .l 2 (j.Ports.length : Int)] I ⟨Ax, I, J⟩ (uA (B0 100 I fun dx => uD (Bs 129 2) ?_))
 obtain ⟨g1, dy, dz⟩ := Ac h
 refine Cu dy [(1, _), (2, _), (3, _), (5, _), (9, _), (10, _), (16, _), (20, _), (93, _), (94, _), (95, _), (100, _), (101, _)] sN (fun (bg : Nat) (a0 : List Bounds) s ob => ∃ (a1 : Value), s = [(102, .V (bg : Int)), (21, .v a1)] ∧ ob = [O0 G [Ab j], O1 H [Am w], O3 F [W0], U1 n i.1, U2 t i.2.1, .us u 127 1 (i.2.2.map (rL 3 Ao)), O3 O [[.v n, .v t, .v u]], U0 U Q.1, U2 a1 a0]) ⟨(.slice none 0 0), I2⟩ ⟨I, I, J⟩ ⟨[0, 1, 2, 3, 4, 5, 6, 7, 8], I, by decide⟩ ?_ ?_
 rintro bg ao a0 cn s ob d0 co ⟨a1, rfl, rfl⟩ h
 unfold P8.B19 at h
 have d1 := Co co
 refine Ah I (Aa fun g2 d2 => Bp I d1 (tZ ?_))
 subst d2
 refine Ai (fun s ob => ∃ (bw : List Bounds) (bh : Value), P8.J20 bw = some cn ∧ s = [(21, .v bh)] ∧ ob = [O0 G [Ab j], O1 H [Am w], O3 F [W0], U1 n i.1, U2 t i.2.1, .us u 127 1 (i.2.2.map (rL 3 Ao)), O3 O [[.v n, .v t, .v u]], U0 U Q.1, U2 bh bw]) [(1, _), (2, _), (3, _), (5, _), (9, _), (10, _), (16, _), (20, _), (93, _), (94, _), (95, _), (100, _), (101, _), (102, _)] rD ?_ ?_
 refine uA (Aa fun g3 d3 => tV (An 3 [.x 1 bg (Cc ao)] I ⟨⟨I, Ag d0⟩, J⟩ (tX [] I (uF W6 3 fun d4 => Af 1 I (tX [9] I (A3 9 0 0 [Cc ao] I (tW ?_)))))))
 subst d3
 refine Ai (fun s ob => ∃ (bx : Bool), P8.J21 ao a0 bx = some cn ∧ s = [(118, .v (.bool bx))] ∧ ob = [O0 G [Ab j], O1 H [Am w], O3 F [W0], U1 n i.1, U2 t i.2.1, .us u 127 1 (i.2.2.map (rL 3 Ao)), O3 O [[.v n, .v t, .v u]], U0 U Q.1, U2 a1 a0, .arr d4 68 3 1 [Cc ao]]) [(1, _), (2, _), (3, _), (5, _), (9, _), (10, _), (16, _), (20, _), (21, _), (23, _), (93, _), (94, _), (95, _), (100, _), (101, _), (102, _)] ⟨I, I, I, I, I, I, I, I, I, I, I, I, I, I, I, I, J⟩ ?_ ?_
 refine tV (An 5 [.o 1 9] I J1 ?_)
 rcases bt ((ao.Node == al.2)) with ba | ba
 have h := Bu ba h
 obtain ⟨bz, ⟨d5, d6⟩, h⟩ := A6 h
 exact Ad 111 I ba (An 7 [.o 1 1, .x 3 bz.1 (rI bz.2)] I ⟨⟨d5, Ag d6⟩, I, J⟩ (tW (lg ⟨decide (bz.2 > 0), h, I2⟩ [0, 1, 2, 3, 4, 5, 6, 7, 8, 9])))
 have h := Bv ba h
 exact Ad 111 I ba (Af 7 I (tW (lg ⟨false, h, I2⟩ [0, 1, 2, 3, 4, 5, 6, 7, 8, 9])))
 rintro s ob ⟨bx, h, rfl, rfl⟩
 refine Ar h I ?_ ?_
 intro d7 h
 obtain ⟨d8, d9, h⟩ := Ac h
 exact tV (An 5 [.o 2 9, .o 4 9] I J2 (uH (Au (l := [.V ao.Pressure, .V ao.Pressure]) Dp I) I (tX [] I (uG 2 (([(⟨ao.Pressure, ao.Pressure⟩ : Bounds)] : List Bounds).map Aq) (tX [8] I (C9 8 I d9 fun ea => Af 1 I (tW (lg ⟨d8, ea, h, I2⟩ [0, 1, 2, 3, 4, 5, 6, 7, 8]))))))))
 intro d7 h
 exact tZ (lg ⟨a0, a1, h, I2⟩ [0, 1, 2, 3, 4, 5, 6, 7, 8])
 rintro s ob ⟨bw, bh, h, rfl, rfl⟩
 unfold P8.J20 at h
 refine tV (An 2 [.k 0 (bg + 1 : Nat)] I ⟨A0 co dx, J⟩ ?_)
 cases io h
 exact tW (lg ⟨bh, I2⟩ [0, 1, 2, 3, 4, 5, 6, 7, 8])
 rintro a0 s ob ⟨a1, rfl, rfl⟩ he
 subst he
 have h := dz
 have eb := Cp j.Ports.length
 exact Ah I (Aa fun g4 g5 => Br I eb (uE (lg ⟨a0, a1, h, I2⟩ [0, 1, 2, 3, 4, 5, 6, 7, 8])))
 rintro s ob ⟨bv, bf, h, rfl, rfl⟩
 unfold P8.J6 at h
 refine Ai (fun s ob => ∃ (bb : List Bounds) (bi : Value), P8.J7 j au av ae w i al bb = some a8 ∧ s = [(21, .v bi)] ∧ ob = [O0 G [Ab j], O1 H [Am w], O3 F [W0], U1 n i.1, U2 t i.2.1, .us u 127 1 (i.2.2.map (rL 3 Ao)), O3 O [[.v n, .v t, .v u]], U0 U Q.1, U2 bi bb]) [(1, _), (2, _), (3, _), (5, _), (9, _), (10, _), (16, _), (20, _), (93, _), (94, _), (95, _)] sO ?_ ?_
 refine Bh [.o 1 0, .l 2 (j.Segments.length : Int)] I ⟨Ax, I, J⟩ (uA (B0 129 I fun ec => ?_))
 obtain ⟨g6, ed, ee⟩ := Ac h
 refine Cu ed [(1, _), (2, _), (3, _), (5, _), (9, _), (10, _), (16, _), (20, _), (93, _), (94, _), (95, _), (129, _), (130, _)] sN (fun (bj : Nat) (aw : List Bounds) s ob => ∃ (ax : Value), s = [(131, .V (bj : Int)), (21, .v ax)] ∧ ob = [O0 G [Ab j], O1 H [Am w], O3 F [W0], U1 n i.1, U2 t i.2.1, .us u 127 1 (i.2.2.map (rL 3 Ao)), O3 O [[.v n, .v t, .v u]], U0 U Q.1, U2 ax aw]) ⟨bf, I2⟩ ⟨I, I, J⟩ ⟨[0, 1, 2, 3, 4, 5, 6, 7, 8], I, by decide⟩ ?_ ?_
 rintro bj b0 aw cp s ob ef cq ⟨ax, rfl, rfl⟩ h
 unfold P8.B16 at h
 have eg := Co cq
 refine Ah I (Aa fun g7 eh => Bp I eg (tZ ?_))
 subst eh
 refine Ai (fun s ob => ∃ (b1 : List Bounds) (bk : Value), P8.J17 b1 = some cp ∧ s = [(21, .v bk)] ∧ ob = [O0 G [Ab j], O1 H [Am w], O3 F [W0], U1 n i.1, U2 t i.2.1, .us u 127 1 (i.2.2.map (rL 3 Ao)), O3 O [[.v n, .v t, .v u]], U0 U Q.1, U2 bk b1]) [(1, _), (2, _), (3, _), (5, _), (9, _), (10, _), (16, _), (20, _), (93, _), (94, _), (95, _), (129, _), (130, _), (131, _)] rD ?_ ?_
 refine uA (Aa fun g8 ei => tV (An 3 [.x 1 bj (Ak b0)] I ⟨⟨I, Ag ef⟩, J⟩ (tX [] I (uF W2 7 fun g9 => Af 1 I (tX [9] I (A3 9 0 0 [Ak b0] I (tW ?_)))))))
 subst ei
 refine Aa fun ha ej => uB ?_
 obtain ⟨a2, ⟨b5, b6⟩, h⟩ := A6 h
 refine E2 [.o 1 1, .x 3 a2.1 (rI a2.2)] I ⟨⟨b5, Ag b6⟩, I, J⟩ (Ar h I ?_ ?_)
 intro ek h
 exact uE (lg ⟨aw, ax, h, I2⟩ [0, 1, 2, 3, 4, 5, 6, 7, 8])
 intro ek h
 refine tZ ?_
 subst ej
 refine Aa fun hb el => Bz (pd 12 0 [6]) [9, 1] [_, _] I (Ca 6 [.o 0 0, .o 2 1, .x 4 a2.1 (rI a2.2)] I ⟨⟨b5, Ag b6⟩, I, I, J⟩ (Dq I (Ho b0 a2.2 _ I) (Bf 5 I (Ap (tW ?_)))))
 subst el
 refine Ah I (Ar h I ?_ ?_)
 intro em h
 refine Aa fun hc en => ?_
 obtain ⟨bl, ⟨eo, cr⟩, h⟩ := A6 h
 refine tV (An 3 [.o 1 6] I J1 (uJ (Bm 5 (m := bl.1) I I I I I I I eo (Ag cr)) I (uJ (Bl 5 bl.1 0 I I I (Ag cr) I (y := sM bl.2) I) I (Af 1 I (tW ?_)))))
 subst en
 refine Aa fun hd ep => ?_
 obtain ⟨a4, ⟨eq, er⟩, h⟩ := A6 h
 refine tV (An 6 [.l 2 (bl.2.length : Int), .x 4 a4.1 (Ao a4.2)] I ⟨⟨eq, Ag er⟩, Ax, J⟩ (tX [] I (uF W1 3 fun es => tX [10] I (A3 10 0 0 [Ao a4.2] I (tW ?_)))))
 subst ep
 refine Ai (fun s ob => ∃ (aq : Int × Int × Int), P8.J18 aw aq = some cp ∧ s = [] ∧ ob = [O0 G [Ab j], O1 H [Am w], O3 F [W0], U1 n i.1, U2 t i.2.1, .us u 127 1 (i.2.2.map (rL 3 Ao)), O3 O [[.v n, .v t, .v u]], U0 U Q.1, U2 ax aw, .arr es 131 3 1 [[.V aq.1, .V aq.2.1, .V aq.2.2]]]) [(1, _), (2, _), (3, _), (5, _), (9, _), (10, _), (16, _), (20, _), (21, _), (29, _), (93, _), (94, _), (95, _), (129, _), (130, _), (131, _)] ⟨I, I, I, I, I, I, I, I, I, I, I, I, I, I, I, I, J⟩ ?_ ?_
 refine Bh [.o 1 1, .x 3 a2.1 (rI a2.2)] I ⟨⟨b5, Ag b6⟩, I, J⟩ (Ar h I ?_ ?_)
 intro et h
 obtain ⟨a5, ⟨eu, ev⟩, h⟩ := A6 h
 exact tV (An 3 [.x 1 a5.1 (Ao a5.2)] I ⟨⟨eu, Ag ev⟩, J⟩ (tX [10] I (A3 10 0 0 [Ao a5.2] I (tW (lg ⟨(a5.2.At, a5.2.Bounds.Low, a5.2.Bounds.High), h, I2⟩ [0, 1, 2, 3, 4, 5, 6, 7, 8, 10])))))
 intro et h
 exact tZ (lg ⟨(a4.2.At, a4.2.Bounds.Low, a4.2.Bounds.High), h, I2⟩ [0, 1, 2, 3, 4, 5, 6, 7, 8, 10])
 rintro s ob ⟨aq, h, rfl, rfl⟩
 obtain ⟨ew, ex, h⟩ := Ac h
 exact tV (Af 2 I (uJ (C4 9 0 1 I I I I I (y := .agg [.V aq.2.1, .V aq.2.2]) I) I (tX [] I (uG 2 (([(⟨aq.2.1, aq.2.2⟩ : Bounds)] : List Bounds).map Aq) (tX [8] I (C9 8 I ex fun ey => Af 1 I (tW (lg ⟨ew, ey, h, I2⟩ [0, 1, 2, 3, 4, 5, 6, 7, 8]))))))))
 intro em h
 exact tZ (lg ⟨aw, ax, h, I2⟩ [0, 1, 2, 3, 4, 5, 6, 7, 8])
 rintro s ob ⟨b1, bk, h, rfl, rfl⟩
 unfold P8.J17 at h
 refine tV (An 2 [.k 0 (bj + 1 : Nat)] I ⟨A0 cq ec, J⟩ ?_)
 cases io h
 exact tW (lg ⟨bk, I2⟩ [0, 1, 2, 3, 4, 5, 6, 7, 8])
 rintro aw s ob ⟨ax, rfl, rfl⟩ he
 subst he
 have h := ee
 have ez := Cp j.Segments.length
 exact Ah I (Aa fun hf hg => Br I ez (uE (lg ⟨aw, ax, h, I2⟩ [0, 1, 2, 3, 4, 5, 6, 7, 8])))
 rintro s ob ⟨bb, bi, h, rfl, rfl⟩
 refine Aa fun hh e0 => uB (tV (Af 1 I (uJ (C0 8 I I I I) I (Af 1 I (tW (Ar h I ?_ ?_))))))
 intro e1 h
 exact uE (lg ⟨(i.1, i.2.1, i.2.2), h, I2⟩ [0, 1, 2, 3, 4, 5, 6, 7])
 intro e1 h
 refine tZ ?_
 subst e0
 refine Aa fun hi e2 => ?_
 obtain ⟨bm, ⟨e3, ct⟩, h⟩ := A6 h
 refine tV (Af 1 I (uJ (Bm 8 (m := bm.1) I I I I I I I e3 (Ag ct)) I (uJ (Bl 8 bm.1 0 I I I (Ag ct) I (y := .agg (Aq bm.2)) I) I (tX [] I (uF [.V 0, .V 0] 2 fun ar => tX [9] I (A3 9 0 0 [Aq bm.2] I (tW ?_)))))))
 subst e2
 refine Ai (fun s ob => ∃ (P : Int × Int), P8.J8 j au av ae w i al P = some a8 ∧ s = [] ∧ ob = [O0 G [Ab j], O1 H [Am w], O3 F [W0], U1 n i.1, U2 t i.2.1, .us u 127 1 (i.2.2.map (rL 3 Ao)), O3 O [[.v n, .v t, .v u]], U0 U Q.1, O8 ar [[.V P.1, .V P.2]]]) [(1, _), (2, _), (3, _), (5, _), (9, _), (10, _), (16, _), (20, _), (30, _), (93, _), (94, _), (95, _)] sQ ?_ ?_
 refine Aa fun hj e4 => tV (Af 1 I (uJ (C0 8 I I I I) I (Af 1 I (tW ?_))))
 subst e4
 refine uA (Ot 8 I fun e5 => ?_)
 obtain ⟨hk, e6, e7⟩ := Ac h
 refine Gv e6 [(1, _), (2, _), (3, _), (5, _), (9, _), (10, _), (16, _), (20, _), (30, _), (93, _), (94, _), (95, _), (187, _), (188, _)] rD (fun (b7 : Nat) (am : Int × Int) s ob => s = [(189, .V (b7 : Int))] ∧ ob = [O0 G [Ab j], O1 H [Am w], O3 F [W0], U1 n i.1, U2 t i.2.1, .us u 127 1 (i.2.2.map (rL 3 Ao)), O3 O [[.v n, .v t, .v u]], U0 U Q.1, U2 bi bb, O8 ar [[.V am.1, .V am.2]]]) ⟨I, I⟩ ⟨I, J⟩ ⟨[0, 1, 2, 3, 4, 5, 6, 7, 8, 9], I, by decide⟩ ?_ ?_
 rintro b7 am hl s ob cu ⟨rfl, rfl⟩ h
 have e8 := Co cu
 refine Ah I (Aa fun hm e9 => Bp I e8 (tZ ?_))
 subst e9
 refine uB (uA (Aa fun hn fa => ?_))
 obtain ⟨ay, ⟨fb, cv⟩, h⟩ := A6 h
 refine tV (uJ (Bm 8 (m := ay.1) I I I I I I I fb (Ag cv)) I (uJ (Bl 8 ay.1 0 I I I (Ag cv) I (y := .agg (Aq ay.2)) I) I (tX [] I (uF [.V 0, .V 0] 2 fun ho => tX [10] I (A3 10 0 0 [Aq ay.2] I (tW ?_))))))
 subst fa
 refine tV (An 10 [.o 1 9, .o 3 10, .o 6 9, .o 8 10] I J4 (uH (Au (l := [.V (min am.1 ay.2.Low), .V (min am.2 ay.2.High)]) Dp I) I (tX [9] I (A3 9 0 0 [[.V (min am.1 ay.2.Low), .V (min am.2 ay.2.High)]] I (tW (tV (An 2 [.k 0 (b7 + 1 : Nat)] I ⟨A0 cu e5, J⟩ ?_)))))))
 cases io h
 exact tW (lg I2 [0, 1, 2, 3, 4, 5, 6, 7, 8, 9])
 rintro am s ob ⟨rfl, rfl⟩ he
 subst he
 have h := e7
 have fc := Cp bb.length
 exact Ah I (Aa fun hp hq => Br I fc (uE (lg ⟨(am.1, am.2), h, I2⟩ [0, 1, 2, 3, 4, 5, 6, 7, 9])))
 rintro s ob ⟨P, h, rfl, rfl⟩
 refine Aa fun hr fd => ?_
 obtain ⟨ab, ⟨fe, b8⟩, h⟩ := A6 h
 obtain ⟨ac, ⟨ff, b9⟩, h⟩ := A6 h
 refine C7 3 ab.1 I b8 fun fg => C7 4 ac.1 I b9 fun fh => Bz (pd 11 0 [8, 10]) [6, 8] [_, _] I (Ca 7 [.o 1 0, .o 4 0, .o 6 1] I J3 (uM I (B8 (m := ab.1) I I I I I fg I fe b8) I (tY [3] I I I (Ci 3 ab.1 0 I I I (Ag b8) I I I I (Cb I) I (Dg (x := true) I) (uM I (B8 (m := ac.1) I I I I I fh I ff b9) I (tY [4] I I I (Ci 4 ac.1 0 I I I (Ag b9) I I I I (Cb I) I (Dg (x := (⟨P.1, P.2⟩ : Bounds)) I) (Ap (tW ?_)))))))))
 subst fd
 refine Ai (fun s ob => ∃ (an : Int × Int), P8.J9 j au av ae w i al P ab ac an = some a8 ∧ s = [] ∧ ob = [O0 G [Ab j], O1 H [Am w], O3 F [W0], .us n 4 1 ((i.1.set ab.1 true).map rB), .us t 129 2 ((i.2.1.set ac.1 (⟨P.1, P.2⟩ : Bounds)).map Aq), .us u 127 1 (i.2.2.map (rL 3 Ao)), O3 O [[.v n, .v t, .v u]], U0 U Q.1, O8 ar [[.V an.1, .V an.2]]]) [(1, _), (2, _), (3, _), (5, _), (9, _), (10, _), (16, _), (20, _), (30, _), (93, _), (94, _), (95, _)] sQ ?_ ?_
 refine Bh [.o 1 0, .l 2 (j.Stations.length : Int)] I ⟨Ax, I, J⟩ (uA (B0 215 I fun fi => ?_))
 obtain ⟨hs, fj, fk⟩ := Ac h
 refine Cu fj [(1, _), (2, _), (3, _), (5, _), (9, _), (10, _), (16, _), (20, _), (30, _), (93, _), (94, _), (95, _), (215, _), (216, _)] rD (fun (bn : Nat) (aa : Int × Int) s ob => s = [(217, .V (bn : Int))] ∧ ob = [O0 G [Ab j], O1 H [Am w], O3 F [W0], .us n 4 1 ((i.1.set ab.1 true).map rB), .us t 129 2 ((i.2.1.set ac.1 (⟨P.1, P.2⟩ : Bounds)).map Aq), .us u 127 1 (i.2.2.map (rL 3 Ao)), O3 O [[.v n, .v t, .v u]], U0 U Q.1, O8 ar [[.V aa.1, .V aa.2]]]) ⟨I, I⟩ ⟨I, J⟩ ⟨[0, 1, 2, 3, 4, 5, 6, 7, 8], I, by decide⟩ ?_ ?_
 rintro bn bc aa cw s ob fl cx ⟨rfl, rfl⟩ h
 unfold P8.B12 at h
 have fm := Co cx
 refine Ah I (Aa fun ht fo => Bp I fm (tZ ?_))
 subst fo
 refine Ai (fun s ob => ∃ (bo : Int × Int), P8.J13 bo = some cw ∧ s = [] ∧ ob = [O0 G [Ab j], O1 H [Am w], O3 F [W0], .us n 4 1 ((i.1.set ab.1 true).map rB), .us t 129 2 ((i.2.1.set ac.1 (⟨P.1, P.2⟩ : Bounds)).map Aq), .us u 127 1 (i.2.2.map (rL 3 Ao)), O3 O [[.v n, .v t, .v u]], U0 U Q.1, O8 ar [[.V bo.1, .V bo.2]]]) [(1, _), (2, _), (3, _), (5, _), (9, _), (10, _), (16, _), (20, _), (30, _), (93, _), (94, _), (95, _), (215, _), (216, _), (217, _)] tI ?_ ?_
 refine uA (Aa fun hu fp => tV (An 3 [.x 1 bn (Ba bc)] I ⟨⟨I, Ag fl⟩, J⟩ (tX [] I (uF W5 5 fun fq => Af 1 I (tX [9] I (A3 9 0 0 [Ba bc] I (tW ?_)))))))
 subst fp
 refine Ai (fun s ob => ∃ (ca : Bool), P8.J14 j w al bc aa ca = some cw ∧ s = [(232, .v (.bool ca))] ∧ ob = [O0 G [Ab j], O1 H [Am w], O3 F [W0], .us n 4 1 ((i.1.set ab.1 true).map rB), .us t 129 2 ((i.2.1.set ac.1 (⟨P.1, P.2⟩ : Bounds)).map Aq), .us u 127 1 (i.2.2.map (rL 3 Ao)), O3 O [[.v n, .v t, .v u]], U0 U Q.1, O8 ar [[.V aa.1, .V aa.2]], .arr fq 70 5 1 [Ba bc]]) [(1, _), (2, _), (3, _), (5, _), (9, _), (10, _), (16, _), (20, _), (30, _), (34, _), (93, _), (94, _), (95, _), (215, _), (216, _), (217, _)] ⟨I, I, I, I, I, I, I, I, I, I, I, I, I, I, I, I, J⟩ ?_ ?_
 refine tV (An 5 [.o 1 9] I J1 ?_)
 rcases bt ((bc.Node == al.2)) with bd | bd
 have h := Bu bd h
 obtain ⟨cb, ⟨fr, fs⟩, h⟩ := A6 h
 exact Ad 226 I bd (An 6 [.o 1 1, .x 3 cb.1 (rB cb.2)] I ⟨⟨fr, Ag fs⟩, I, J⟩ (tW (lg ⟨cb.2, h, I2⟩ [0, 1, 2, 3, 4, 5, 6, 7, 8, 9])))
 have h := Bv bd h
 exact Ad 226 I bd (Af 6 I (tW (lg ⟨false, h, I2⟩ [0, 1, 2, 3, 4, 5, 6, 7, 8, 9])))
 rintro s ob ⟨ca, h, rfl, rfl⟩
 refine Ar h I ?_ ?_
 intro ft h
 obtain ⟨hv, cy, h⟩ := Ac h
 obtain ⟨a6, cz, h⟩ := Ac h
 refine Bz (.still 0 (sl 3 2 (.two 1 5 (.act 5 (.act 6 (sl 3 7 (.act 10 .nil)))) (.act 1 (.act 6 (sl 3 7 (.act 10 .nil))))))) [9, 0, 1] [_, _, _] I (Ca 4 [.o 0 0, .o 1 1, .o 2 2] I J3 (uK ?_ ?_))
 exact tY [] I I I (Ce (C4 8 0 0 I I I I I (y := .agg [.V aa.1, .V aa.2]) I) dS (Dq I (T0 _ _ _ _ cy) (Dq I (Uc _ _ _ _ cz) (Bf 3 I (tY [8] I I I (A3 8 0 0 [Aq a6.1] I (Ap (tW (lg ⟨(a6.1.Low, a6.1.High), h, I2⟩ [0, 1, 2, 3, 4, 5, 6, 7, 8])))))))))
 exact Dq I (T0 _ _ _ _ cy) (tY [] I I I (Ce (C4 8 0 0 I I I I I (y := .agg [.V aa.1, .V aa.2]) I) dS (Dq I (Uc _ _ _ _ cz) (Bf 3 I (tY [8] I I I (A3 8 0 0 [Aq a6.1] I (Ap (tW (lg ⟨(a6.1.Low, a6.1.High), h, I2⟩ [0, 1, 2, 3, 4, 5, 6, 7, 8])))))))))
 intro ft h
 exact tZ (lg ⟨(aa.1, aa.2), h, I2⟩ [0, 1, 2, 3, 4, 5, 6, 7, 8])
 rintro s ob ⟨bo, h, rfl, rfl⟩
 unfold P8.J13 at h
 refine tV (An 2 [.k 0 (bn + 1 : Nat)] I ⟨A0 cx fi, J⟩ ?_)
 cases io h
 exact tW (lg I2 [0, 1, 2, 3, 4, 5, 6, 7, 8])
 rintro aa s ob ⟨rfl, rfl⟩ he
 subst he
 have h := fk
 have fu := Cp j.Stations.length
 exact Ah I (Aa fun hw hx => Br I fu (uE (lg ⟨(aa.1, aa.2), h, I2⟩ [0, 1, 2, 3, 4, 5, 6, 7, 8])))
 rintro s ob ⟨an, h, rfl, rfl⟩
 refine Bh [.o 1 0, .l 2 (j.Segments.length : Int)] I ⟨Ax, I, J⟩ (uA (B0 245 I fun fv => ?_))
 obtain ⟨hy, fw, fx⟩ := Ac h
 refine Cu fw [(1, _), (2, _), (3, _), (5, _), (9, _), (10, _), (16, _), (20, _), (30, _), (93, _), (94, _), (95, _), (245, _), (246, _)] rD (fun (bp : Nat) (az : List (List Level)) s ob => s = [(247, .V (bp : Int))] ∧ ob = [O0 G [Ab j], O1 H [Am w], O3 F [W0], .us n 4 1 ((i.1.set ab.1 true).map rB), .us t 129 2 ((i.2.1.set ac.1 (⟨P.1, P.2⟩ : Bounds)).map Aq), .us u 127 1 (az.map (rL 3 Ao)), O3 O [[.v n, .v t, .v u]], U0 U Q.1, O8 ar [[.V an.1, .V an.2]]]) ⟨I, I⟩ ⟨I, J⟩ ⟨[0, 1, 2, 3, 4, 5, 6, 7, 8], I, by decide⟩ ?_ ?_
 rintro bp bq az fy s ob fz c0 ⟨rfl, rfl⟩ h
 unfold P8.B10 at h
 have f0 := Co c0
 refine Ah I (Aa fun hz f1 => Bp I f0 (tZ ?_))
 subst f1
 refine Ai (fun s ob => ∃ (cc : List (List Level)), P8.J11 cc = some fy ∧ s = [] ∧ ob = [O0 G [Ab j], O1 H [Am w], O3 F [W0], .us n 4 1 ((i.1.set ab.1 true).map rB), .us t 129 2 ((i.2.1.set ac.1 (⟨P.1, P.2⟩ : Bounds)).map Aq), .us u 127 1 (cc.map (rL 3 Ao)), O3 O [[.v n, .v t, .v u]], U0 U Q.1, O8 ar [[.V an.1, .V an.2]]]) [(1, _), (2, _), (3, _), (5, _), (9, _), (10, _), (16, _), (20, _), (30, _), (93, _), (94, _), (95, _), (245, _), (246, _), (247, _)] tI ?_ ?_
 refine uA (Aa fun h0 f2 => tV (An 3 [.x 1 bp (Ak bq)] I ⟨⟨I, Ag fz⟩, J⟩ (tX [] I (uF W2 7 fun f3 => Af 1 I (tX [9] I (A3 9 0 0 [Ak bq] I (tW ?_)))))))
 subst f2
 refine Aa fun h1 f4 => uB ?_
 obtain ⟨a3, ⟨cd, ce⟩, h⟩ := A6 h
 refine E2 [.o 1 1, .x 3 a3.1 (rI a3.2)] I ⟨⟨cd, Ag ce⟩, I, J⟩ (Ar h I ?_ ?_)
 intro f5 h
 exact uE (lg ⟨az, h, I2⟩ [0, 1, 2, 3, 4, 5, 6, 7, 8])
 intro f5 h
 refine tZ ?_
 subst f4
 refine Aa fun h2 f6 => Bz (pd 12 0 [6]) [9, 1] [_, _] I (Ca 6 [.o 0 0, .o 2 1, .x 4 a3.1 (rI a3.2)] I ⟨⟨cd, Ag ce⟩, I, I, J⟩ (Dq I (Ho bq a3.2 _ I) (Bf 5 I (Ap (tW ?_)))))
 subst f6
 refine Ah I (Ar h I ?_ ?_)
 intro f7 h
 obtain ⟨c1, ⟨f8, f9⟩, h⟩ := A6 h
 obtain ⟨br, ga, h⟩ := Ac h
 obtain ⟨bs, ⟨gb, cf⟩, h⟩ := A6 h
 refine C7 5 bs.1 I cf fun gc => Bz (pd 22 0 [16, 21]) [6, 9, 1, 8] [_, _, _, _] I (Ca 16 [.o 1 0, .o 3 1, .x 6 c1.1 ((rL 2 A4) c1.2), .o 11 2, .x 13 a3.1 (rI a3.2), .o 15 3] I ⟨I, ⟨cd, Ag ce⟩, I, ⟨f8, Ag f9⟩, I, I, J⟩ (tY [] I I I (Ck I I I (fH _ _ _ _ _ _ _ ga) dS ?_)))
 rintro _ _ ⟨gd, rfl, rfl⟩
 exact Bf 3 I (uM I (B8 (m := bs.1) I I I I I gc I gb cf) I (Cx (Bi [10] (K := [U5 gd br.1]) I [(289, sM br.1)] ⟨⟨_, I, .us 0 I⟩, J⟩ (ob' := [O0 G [Ab j], O1 H [Am w], O3 F [W0], .us n 4 1 ((i.1.set ab.1 true).map rB), .us t 129 2 ((i.2.1.set ac.1 (⟨P.1, P.2⟩ : Bounds)).map Aq), .us u 127 1 (az.map (rL 3 Ao)), O3 O [[.v n, .v t, .v u]], U0 U Q.1, O8 ar [[.V an.1, .V an.2]], O5 f3 [Ak bq]]) (.rest _)) I (tY [5] I I I (Ci 5 bs.1 0 I I I (Ag cf) I I I I (Cb I) I (Dg (x := br.1) I) (Ap (tW (lg ⟨(az.set bs.1 br.1), h, I2⟩ [0, 1, 2, 3, 4, 5, 6, 7, 8])))))))
 intro f7 h
 exact tZ (lg ⟨az, h, I2⟩ [0, 1, 2, 3, 4, 5, 6, 7, 8])
 rintro s ob ⟨cc, h, rfl, rfl⟩
 unfold P8.J11 at h
 refine tV (An 2 [.k 0 (bp + 1 : Nat)] I ⟨A0 c0 fv, J⟩ ?_)
 cases io h
 exact tW (lg I2 [0, 1, 2, 3, 4, 5, 6, 7, 8])
 rintro az s ob ⟨rfl, rfl⟩ he
 subst he
 have h := fx
 have ge := Cp j.Segments.length
 exact Ah I (Aa fun h3 h4 => Br I ge (uE (lg ⟨((i.1.set ab.1 true), (i.2.1.set ac.1 (⟨P.1, P.2⟩ : Bounds)), az), h, I2⟩ [0, 1, 2, 3, 4, 5, 6, 7])))
 rintro s ob ⟨a9, h, rfl, rfl⟩
 unfold P8.J5 at h
 refine tV (An 2 [.k 0 (bu + 1 : Nat)] I ⟨A0 cl dq, J⟩ ?_)
 cases io h
 exact tW (lg I2 [0, 1, 2, 3, 4, 5, 6, 7])
 rintro i s ob ⟨rfl, rfl⟩ he
 subst he
 have h := ds
 have gf := Cp Q.1.length
 exact Ah I (Aa fun h5 h6 => Br I gf (uE (lg ⟨(i.1, i.2.1, i.2.2), h, I2⟩ [2, 3, 4, 5, 6])))
 rintro s ob ⟨ad, h, rfl, rfl⟩
 unfold P8.J3 at h
 refine uB (tV (An 1 [.o 0 4] I J1 (tX [0] I (A3 0 0 0 [[.v n, .v t, .v u]] I (Af 1 I (tW (uD (Bi [1, 2, 3] (K := [U1 n ad.1, U2 t ad.2.1, .us u 127 1 (ad.2.2.map (rL 3 Ao))]) I [] J (ob' := [O3 F [[Q9 ad.1, tG ad.2.1, .list 1 (ad.2.2.map (rL 3 Ao))]], O3 O [[.v n, .v t, .v u]]]) (.cons (.arr (.cons (.us 0 I) (.cons (.us 1 I) (.cons (.us 2 I) (.rest _))))) (.rest _))) (Cv [0] I ?_))))))))
 cases io h
 exact uC ⟨.inr I, [_, _], [], ⟨⟨0, _, _, _, _, _, _, _, I5⟩, I, J⟩, Cm, I2⟩
theorem iH (a : Sg) (d : Int) (r : Int) (h : Nn a d = some r) : ACalls Aj 69 [.agg (Ak a), .V d] [] (RV (.V r)) := by
 refine Ae Tryz.func69 I I I fun C hC => ?_
 unfold Nn at h
 refine Aa fun Q u => tV (tX [] I (Bo (Ak a) 7 fun e => Af 1 I (tW ?_)))
 subst u
 refine Ah I (Ai (fun s ob => ∃ (f : Int), Nn.J1 f = some r ∧ s = [(5, .V f)] ∧ ob = []) [] J ?_ ?_)
 refine Ah I (uA ?_)
 obtain ⟨R, w, y⟩ := Ac h
 refine Cs w [(1, _), (2, _)] J2 (fun (b : Int × Int) s ob => s = [(5, .V b.1), (6, .V b.2)] ∧ ob = [O5 e [Ak a]]) ⟨I, I⟩ ⟨I, I, J⟩ ⟨[0], I, by decide⟩ ?_
 rintro b t s ob ⟨rfl, rfl⟩ h A
 refine Aa fun S B => Bh [.o 2 0, .l 3 (a.Points.length : Int)] I ⟨Ax, I, J⟩ (Ar h I ?_ ?_)
 intro D h
 refine tZ ?_
 subst B
 refine Ai (fun s ob => ∃ (g : Int), Nn.J3 b g = some t ∧ s = [(5, .V g)] ∧ ob = [O5 e [Ak a]]) [(1, _), (2, _), (6, _)] J3 ?_ ?_
 refine uA (Ai (fun s ob => ∃ (i : Bool), Nn.J4 a b i = some t ∧ s = [(32, .v (.bool i))] ∧ ob = [O5 e [Ak a]]) [(1, _), (2, _), (5, _), (6, _)] J4 ?_ ?_)
 obtain ⟨j, ⟨E, F⟩, h⟩ := A6 h
 refine tV (An 10 [.o 2 0, .x 5 j.1 (Bj j.2)] I ⟨⟨E, Ag F⟩, I, J⟩ ?_)
 rcases bt (decide (d ≥ j.2.At)) with c | c
 have h := Bu c h
 obtain ⟨k, ⟨G, H⟩, h⟩ := A6 h
 exact Ad 23 I c (An 9 [.o 2 0, .x 4 k.1 (Bj k.2)] I ⟨⟨G, Ag H⟩, I, J⟩ (tW (lg ⟨decide (d ≤ k.2.At), h, I2⟩ [0])))
 have h := Bv c h
 exact Ad 23 I c (Af 9 I (tW (lg ⟨false, h, I2⟩ [0])))
 rintro s ob ⟨i, h, rfl, rfl⟩
 refine Ar h I ?_ ?_
 intro K h
 obtain ⟨n, ⟨M, N⟩, h⟩ := A6 h
 obtain ⟨p, ⟨O, P⟩, h⟩ := A6 h
 exact Bz (pd 16 0 []) [0] [_] I (Ca 14 [.o 2 0, .x 5 n.1 (Bj n.2), .o 9 0, .x 11 p.1 (Bj p.2)] I ⟨⟨O, Ag P⟩, I, ⟨M, Ag N⟩, I, J⟩ (uM I (Yl I I I) I (Bf 1 I (Ap (tW (lg ⟨(min (min b.1 n.2.Limit) p.2.Limit), h, I2⟩ [0]))))))
 intro K h
 exact tZ (lg ⟨b.1, h, I2⟩ [0])
 rintro s ob ⟨g, h, rfl, rfl⟩
 unfold Nn.J3 at h
 refine tV (Af 3 I ?_)
 cases io h
 exact tW ⟨_, _, _, I, I2, J4, [0], I, by decide⟩
 intro D h
 obtain rfl := A _ (oi h).symm
 have h := y
 exact uE (lg ⟨b.1, h, I2⟩ [])
 rintro s ob ⟨f, h, rfl, rfl⟩
 unfold Nn.J1 at h
 refine Ah I ?_
 cases io h
 exact uC pr
theorem Jt (a : Bounds) (r : Bool) (h : Kw a = r) : ACalls Aj 114 [.agg (Aq a)] [] (RB r) := by
 refine Ae Tryz.func114 I I I fun C hC => ?_
 unfold Kw at h
 refine Aa fun f e => tV (tX [] I (Bo (Aq a) 2 fun g => Af 1 I (tW ?_)))
 subst e
 refine Ai (fun s ob => s = [(2, .v (.bool (decide (a.Low < (-1152921504606846976)) || (decide (a.Low > 1152921504606846976) || (decide (a.High < (-1152921504606846976)) || decide (a.High > 1152921504606846976))))))] ∧ ob = []) [] J ?_ ?_
 refine tV (An 4 [.o 1 0] I J1 ?_)
 rcases bt (decide (a.Low < (-1152921504606846976))) with b | b
 refine Ad 6 I b (Af 15 I (tW ?_))
 exact lf I2 ⟨(Do (by simp only [b, bz])), J⟩ [] I
 refine Ad 6 I b (An 5 [.o 1 0] I J1 ?_)
 rcases bt (decide (a.Low > 1152921504606846976)) with c | c
 refine Ad 11 I c (Af 10 I (tW ?_))
 exact lf I2 ⟨(Do (by simp only [b, c, bz])), J⟩ [] I
 refine Ad 11 I c (An 5 [.o 1 0] I J1 ?_)
 rcases bt (decide (a.High < (-1152921504606846976))) with d | d
 refine Ad 16 I d (Af 5 I (tW ?_))
 exact lf I2 ⟨(Do (by simp only [b, c, d, bz])), J⟩ [] I
 refine Ad 16 I d (An 5 [.o 1 0] I J1 (tW ?_))
 exact lf I2 ⟨(Do (by simp only [b, c, d, bz])), J⟩ [] I
 rintro s ob ⟨rfl, rfl⟩
 obtain rfl := h
 exact uC pr
theorem gK (a : Nw) (b : Pressures) (j : Plan) (g : Li) (r : Bool) (h : Nd a b j g = some r) : ACalls Aj 68 [.agg (Ab a), .agg (A9 b), .agg (Am j), Q0 g] [] (RB r) := by
 refine Ae Tryz.func68 I I I fun C hC => ?_
 unfold Nd at h
 refine Aa fun y1 aj => tV (tX [] I (Bo (Ab a) 6 fun e => tX [] I (Bo (A9 b) 3 fun f => tX [] I (Bo (Am j) 3 fun b4 => Af 1 I (tW ?_)))))
 subst aj
 refine Aa fun y5 ak => Ai (fun s ob => ∃ (K : Bool), Nd.J1 a b g K = some r ∧ s = [(60, .v (.bool K))] ∧ ob = [O0 e [Ab a], O3 f [A9 b]]) [(3, _), (4, _), (5, _)] J3 ?_ ?_
 obtain ⟨al, am, h⟩ := Ac h
 refine tV (An 1 [.o 0 0] I J1 (Cd (Jx _ _ am) (Af 2 I ?_)))
 rcases bt ((al != 0)) with n | n
 have h := Bu n h
 exact Ad 17 I n (Af 43 I (tW (lg ⟨true, h, I2⟩ [0, 1])))
 have h := Bv n h
 refine Ad 17 I n (An 9 [.o 1 2, .l 2 (j.Pumps.length : Int), .o 4 0, .l 5 (a.Stations.length : Int)] I ⟨Ax, I, Ax, I, J⟩ ?_)
 rcases bt (((j.Pumps.length : Int) != (a.Stations.length : Int))) with p | p
 have h := Bu p h
 exact Ad 26 I p (Af 34 I (tW (lg ⟨true, h, I2⟩ [0, 1])))
 have h := Bv p h
 refine Ad 26 I p (An 9 [.o 1 1, .l 2 (b.Known.length : Int), .o 4 0, .l 5 (a.Nodes.length : Int)] I ⟨Ax, I, Ax, I, J⟩ ?_)
 rcases bt (((b.Known.length : Int) != (a.Nodes.length : Int))) with t | t
 have h := Bu t h
 exact Ad 35 I t (Af 25 I (tW (lg ⟨true, h, I2⟩ [0, 1])))
 have h := Bv t h
 refine Ad 35 I t (An 9 [.o 1 1, .l 2 (b.Nodes.length : Int), .o 4 0, .l 5 (a.Nodes.length : Int)] I ⟨Ax, I, Ax, I, J⟩ ?_)
 rcases bt (((b.Nodes.length : Int) != (a.Nodes.length : Int))) with u | u
 have h := Bu u h
 exact Ad 44 I u (Af 16 I (tW (lg ⟨true, h, I2⟩ [0, 1])))
 have h := Bv u h
 refine Ad 44 I u (An 9 [.o 1 1, .l 2 (b.Segments.length : Int), .o 4 0, .l 5 (a.Segments.length : Int)] I ⟨Ax, I, Ax, I, J⟩ ?_)
 rcases bt (((b.Segments.length : Int) != (a.Segments.length : Int))) with w | w
 have h := Bu w h
 exact Ad 53 I w (Af 7 I (tW (lg ⟨true, h, I2⟩ [0, 1])))
 have h := Bv w h
 exact Ad 53 I w (An 7 [.l 1 (g.length : Int), .o 3 0, .l 4 (a.Segments.length : Int)] I ⟨Ax, I, Ax, J⟩ (tW (lg ⟨((g.length : Int) != (a.Segments.length : Int)), h, I2⟩ [0, 1])))
 rintro s ob ⟨K, h, rfl, rfl⟩
 refine Ar h I ?_ ?_
 intro an h
 refine Ah I (uD g0 ?_)
 cases io h
 exact uC pr
 intro an h
 refine tZ ?_
 subst ak
 refine Ai (fun s ob => ∃ (P : Unit), Nd.J2 a b P = some r ∧ s = [] ∧ ob = [O0 e [Ab a], O3 f [A9 b]]) [(4, _), (5, _)] J2 ?_ ?_
 refine Bh [.l 1 (g.length : Int)] I ⟨Ax, J⟩ (uA (B0 61 I fun ao => ?_))
 obtain ⟨bs, ap, Q⟩ := Ac h
 refine Bx ap [(3, _), (4, _), (5, _), (62, _)] J4 (fun (A : Nat) (R : Unit) s ob => s = [(63, .V (A : Int))] ∧ ob = [O0 e [Ab a], O3 f [A9 b]]) ⟨I, I⟩ ⟨I, J⟩ ⟨[0, 1], I, by decide⟩ ?_ ?_
 rintro A B R bu s ob S U ⟨rfl, rfl⟩ h aq
 unfold Nd.B10 at h
 have ar := Co U
 refine Ah I (Aa fun bv au => Bp I ar (tZ ?_))
 subst au
 refine uB (uA (Ah I (Eb 77 (decide (B < 0) || decide (B > 1125899906842624)) ?_ ?_)))
 refine tV (An 6 [.x 2 A (rI B)] I ⟨⟨I, Ag S⟩, J⟩ ?_)
 rcases bt (decide (B < 0)) with D | D
 exact Ad 71 I D (Af 6 I (tW (jf (by simp only [D, bz]) I I I2)))
 exact Ad 71 I D (An 6 [.x 2 A (rI B)] I ⟨⟨I, Ag S⟩, J⟩ (tW (jf (by simp only [D, bz]) I I I2)))
 refine Ar h I ?_ ?_
 intro av h
 refine Ah I ?_
 obtain rfl := aq _ (oi h).symm
 have h := Q
 have h := C2 h
 refine uD g0 ?_
 cases io h
 exact uC pr
 intro av h
 refine tZ (tV (An 2 [.k 0 (A + 1 : Nat)] I ⟨A0 U ao, J⟩ ?_))
 cases io h
 exact tW ⟨_, _, _, I, I2, J5, [0, 1], I, by decide⟩
 rintro R s ob ⟨rfl, rfl⟩ he
 subst he
 have h := C8 Q
 have aw := Cp g.length
 exact Ah I (Aa fun bw bx => Br I aw (uE (lg ⟨(), h, I2⟩ [0, 1])))
 rintro s ob ⟨P, h, rfl, rfl⟩
 unfold Nd.J2 at h
 refine Ai (fun s ob => ∃ (W : Unit), Nd.J3 a b W = some r ∧ s = [] ∧ ob = [O0 e [Ab a], O3 f [A9 b]]) [(4, _), (5, _)] J2 ?_ ?_
 refine Bh [.o 1 1, .l 2 (b.Nodes.length : Int)] I ⟨Ax, I, J⟩ (uA (B0 80 I fun ax => ?_))
 obtain ⟨b0, ay, X⟩ := Ac h
 refine Bx ay [(4, _), (5, _), (81, _)] J3 (fun (F : Nat) (Y : Unit) s ob => s = [(82, .V (F : Int))] ∧ ob = [O0 e [Ab a], O3 f [A9 b]]) ⟨I, I⟩ ⟨I, J⟩ ⟨[0, 1], I, by decide⟩ ?_ ?_
 rintro F Z Y b1 s ob az aa ⟨rfl, rfl⟩ h a0
 have a1 := Co aa
 refine Ah I (Aa fun b5 a2 => Bp I a1 (tZ ?_))
 subst a2
 refine uB (uA (Ah I (uB (tV (An 5 [.o 1 1, .x 3 F (Aq Z)] I ⟨⟨I, Ag az⟩, I, J⟩ (Cd (Jt Z _ I) (tW (Ar h I ?_ ?_))))))))
 intro a3 h
 refine Ah I ?_
 obtain rfl := a0 _ (oi h).symm
 have h := X
 have h := C2 h
 refine uD g0 ?_
 cases io h
 exact uC pr
 intro a3 h
 refine tZ (tV (An 2 [.k 0 (F + 1 : Nat)] I ⟨A0 aa ax, J⟩ ?_))
 cases io h
 exact tW ⟨_, _, _, I, I2, J4, [0, 1], I, by decide⟩
 rintro Y s ob ⟨rfl, rfl⟩ he
 subst he
 have h := C8 X
 have a4 := Cp b.Nodes.length
 exact Ah I (Aa fun b6 b7 => Br I a4 (uE (lg ⟨(), h, I2⟩ [0, 1])))
 rintro s ob ⟨W, h, rfl, rfl⟩
 unfold Nd.J3 at h
 refine Ai (fun s ob => ∃ (ab : Unit), Nd.J4 ab = some r ∧ s = [] ∧ ob = []) [] J ?_ ?_
 refine Bh [.o 1 1, .l 2 (b.Segments.length : Int)] I ⟨Ax, I, J⟩ (uA (B0 93 I fun a5 => ?_))
 obtain ⟨b8, a6, ac⟩ := Ac h
 refine Bx a6 [(4, _), (5, _), (94, _)] J3 (fun (G : Nat) (ad : Unit) s ob => s = [(95, .V (G : Int))] ∧ ob = [O0 e [Ab a], O3 f [A9 b]]) ⟨I, I⟩ ⟨I, J⟩ ⟨[0, 1], I, by decide⟩ ?_ ?_
 rintro G M ad a7 s ob a8 ae ⟨rfl, rfl⟩ h a9
 unfold Nd.B5 at h
 have ba := Co ae
 refine Ah I (Aa fun b9 bb => Bp I ba (tZ ?_))
 subst bb
 refine Ai (fun s ob => ∃ (af : Unit), Nd.J6 af = some a7 ∧ s = [] ∧ ob = [O0 e [Ab a], O3 f [A9 b]]) [(4, _), (5, _), (94, _), (95, _)] J4 ?_ ?_
 refine uA (Ah I (Bh [.o 1 1, .x 3 G ((rL 3 Ao) M), .l 5 (M.length : Int)] I ⟨Ax, ⟨I, Ag a8⟩, I, J⟩ (uA (B0 102 I fun bc => ?_))))
 obtain ⟨ca, bd, ag⟩ := Ac h
 refine Bx bd [(4, _), (5, _), (11, _), (94, _), (95, _), (102, _), (103, _)] J7 (fun (H : Nat) (ah : Unit) s ob => s = [(104, .V (H : Int))] ∧ ob = [O0 e [Ab a], O3 f [A9 b]]) ⟨I, I⟩ ⟨I, J⟩ ⟨[0, 1], I, by decide⟩ ?_ ?_
 rintro H d ah be s ob bf ai ⟨rfl, rfl⟩ h bg
 unfold Nd.B7 at h
 have bh := Co ai
 refine Ah I (Aa fun cb bi => Bp I bh (tZ ?_))
 subst bi
 refine uB (uA (Aa fun cc bj => tV (An 2 [.x 0 H (Ao d)] I ⟨⟨I, Ag bf⟩, J⟩ (tX [] I (uF W1 3 fun cd => tX [2] I (A3 2 0 0 [Ao d] I (tW ?_)))))))
 subst bj
 refine Ai (fun s ob => ∃ (N : Bool), Nd.J8 N = some be ∧ s = [(126, .v (.bool N))] ∧ ob = [O0 e [Ab a], O3 f [A9 b]]) [(4, _), (5, _), (11, _), (94, _), (95, _), (102, _), (103, _), (104, _)] J8 ?_ ?_
 rcases bt ((Kw d.Bounds)) with i | i
 have h := Bu i h
 exact Bz (pd 19 0 [2]) [2] [_] I (Bf 1 I (AP.o I (C4 0 0 1 I I I I I (y := .agg (Aq d.Bounds)) I) I (Dq I (Jt d.Bounds _ I) (Bf 1 I (A5 111 I i (Bf 15 I (Ap (tW (lg ⟨true, h, I2⟩ [0, 1])))))))))
 have h := Bv i h
 rcases bt (decide (d.At < 0)) with E | E
 have h := Bu E h
 exact Bz (pd 19 0 [2]) [2] [_] I (Bf 1 I (AP.o I (C4 0 0 1 I I I I I (y := .agg (Aq d.Bounds)) I) I (Dq I (Jt d.Bounds _ I) (Bf 1 I (A5 111 I i (Ca 5 [.o 1 0] I J1 (A5 116 I E (Bf 10 I (Ap (tW (lg ⟨true, h, I2⟩ [0, 1])))))))))))
 have h := Bv E h
 obtain ⟨O, ⟨bk, bl⟩, h⟩ := A6 h
 exact Bz (pd 19 0 [2]) [2, 0] [_, _] I (Bf 1 I (AP.o I (C4 0 0 1 I I I I I (y := .agg (Aq d.Bounds)) I) I (Dq I (Jt d.Bounds _ I) (Bf 1 I (A5 111 I i (Ca 5 [.o 1 0] I J1 (A5 116 I E (Ca 10 [.o 1 0, .o 3 1, .x 5 O.1 (Ak O.2)] I ⟨⟨bk, Ag bl⟩, I, I, J⟩ (Ap (tW (lg ⟨decide (d.At > O.2.Capacity), h, I2⟩ [0, 1])))))))))))
 rintro s ob ⟨N, h, rfl, rfl⟩
 refine Ar h I ?_ ?_
 intro bm h
 refine Ah I ?_
 obtain rfl := bg _ (oi h).symm
 have h := ag
 have h := C2 h
 obtain rfl := a9 _ (oi h).symm
 have h := ac
 have h := C2 h
 refine uD g0 ?_
 cases io h
 exact uC pr
 intro bm h
 refine tZ (tV (An 2 [.k 0 (H + 1 : Nat)] I ⟨A0 ai bc, J⟩ ?_))
 cases io h
 exact tW ⟨_, _, _, I, I2, J8, [0, 1], I, by decide⟩
 rintro ah s ob ⟨rfl, rfl⟩ he
 subst he
 have h := C8 ag
 have bn := Cp M.length
 exact Ah I (Aa fun ce cf => Br I bn (uE (lg ⟨(), h, I2⟩ [0, 1])))
 rintro s ob ⟨af, h, rfl, rfl⟩
 unfold Nd.J6 at h
 refine tV (An 2 [.k 0 (G + 1 : Nat)] I ⟨A0 ae a5, J⟩ ?_)
 cases io h
 exact tW ⟨_, _, _, I, I2, J4, [0, 1], I, by decide⟩
 rintro ad s ob ⟨rfl, rfl⟩ he
 subst he
 have h := C8 ac
 have bo := Cp b.Segments.length
 exact Ah I (Aa fun cg ci => Br I bo (uE (lg ⟨(), h, I2⟩ [])))
 rintro s ob ⟨ab, h, rfl, rfl⟩
 unfold Nd.J4 at h
 refine Ah I ?_
 cases io h
 exact uC pr
theorem Od (a : Nw) (b : Pressures) (d : Plan) (P : Li) (r : Fault × Bool) (h : Vj a b d P = some r) : ACalls Aj 30 [.agg (Ab a), .agg (A9 b), .agg (Am d), Q0 P] [] (RV (.tup [.agg (Cr r.1), .v (.bool r.2)])) := by
 refine Ae Tryz.func30 I I I fun C hC => ?_
 refine Aa fun y1 ai => tV (tX [] I (Bo (Ab a) 6 fun y => tX [] I (Bo (A9 b) 3 fun i => tX [] I (Bo (Am d) 3 fun j => tX [] I (uF W1 3 fun f => Af 1 I (tW ?_))))))
 subst ai
 refine Aa fun y6 aj => uB ?_
 obtain ⟨r7, ak, h⟩ := Ac h
 refine tV (An 4 [.o 0 0, .o 1 1, .o 2 2] I J3 (Cd (gK _ _ _ _ _ ak) (Af 1 I (tW (Ar h I ?_ ?_)))))
 intro al h
 refine uB (tV (uH (Au (l := W1) Df I) I (tX [3] I (A3 3 0 0 [W1] I (Af 1 I (tW (Cv [3] I ?_)))))))
 cases io h
 exact uC ⟨.inr I, [_, _], [], ⟨⟨0, _, _, _, _, _, _, _, I5⟩, I, J⟩, Cm, I2⟩
 intro al h
 refine tZ ?_
 subst aj
 refine Ai (fun s ob => ∃ (Q : Unit), Vj.J1 a b d Q = some r ∧ s = [] ∧ ob = [O0 y [Ab a], O3 i [A9 b], O1 j [Am d], O6 f [W1]]) [(4, _), (5, _), (6, _), (8, _)] J4 ?_ ?_
 refine Bh [.o 1 0, .l 2 (a.Segments.length : Int)] I ⟨Ax, I, J⟩ (uA (B0 24 I fun am => ?_))
 obtain ⟨bs, an, E⟩ := Ac h
 refine Bx an [(3, _), (4, _), (5, _), (6, _), (8, _), (24, _), (25, _)] J7 (fun (e : Nat) (R : Unit) s ob => s = [(26, .V (e : Int))] ∧ ob = [O0 y [Ab a], O3 i [A9 b], O1 j [Am d], O6 f [W1]]) ⟨I, I⟩ ⟨I, J⟩ ⟨[0, 1, 2, 3], I, by decide⟩ ?_ ?_
 rintro e F R ao s ob ap S ⟨rfl, rfl⟩ h U
 unfold Vj.B5 at h
 have aq := Co S
 refine Ah I (Aa fun bu ar => Bp I aq (tZ ?_))
 subst ar
 refine Ai (fun s ob => ∃ (W : Unit), Vj.J6 W = some ao ∧ s = [] ∧ ob = [O0 y [Ab a], O3 i [A9 b], O1 j [Am d], O6 f [W1]]) [(3, _), (4, _), (5, _), (6, _), (8, _), (24, _), (25, _), (26, _)] J8 ?_ ?_
 refine uA (Aa fun bv au => tV (An 3 [.x 1 e (Ak F)] I ⟨⟨I, Ag ap⟩, J⟩ (tX [] I (uF W2 7 fun av => Af 1 I (tX [4] I (A3 4 0 0 [Ak F] I (tW ?_)))))))
 subst au
 refine Aa fun bw aw => ?_
 obtain ⟨A, ⟨ax, ay⟩, h⟩ := A6 h
 refine E2 [.o 1 1, .x 3 A.1 ((rL 3 Ao) A.2), .l 5 (A.2.length : Int)] I ⟨Ax, ⟨ax, Ag ay⟩, I, J⟩ ?_
 subst aw
 refine uA (B0 35 I fun az => ?_)
 obtain ⟨bx, a0, G⟩ := Ac h
 refine Bx a0 [(3, _), (4, _), (5, _), (6, _), (8, _), (10, _), (11, _), (24, _), (25, _), (26, _), (35, _), (36, _)] sQ (fun (B : Nat) (X : Unit) s ob => s = [(37, .V (B : Int))] ∧ ob = [O0 y [Ab a], O3 i [A9 b], O1 j [Am d], O6 f [W1], O5 av [Ak F]]) ⟨I, I⟩ ⟨I, J⟩ ⟨[0, 1, 2, 3, 4], I, by decide⟩ ?_ ?_
 rintro B n X bz s ob a1 Y ⟨rfl, rfl⟩ h Z
 have a2 := Co Y
 refine Ah I (Aa fun b0 a3 => Bp I a2 (tZ ?_))
 subst a3
 refine uB (uA (Aa fun b1 a4 => tV (An 2 [.x 0 B (Ao n)] I ⟨⟨I, Ag a1⟩, J⟩ (tX [] I (uF W1 3 fun b6 => tX [5] I (A3 5 0 0 [Ao n] I (tW ?_)))))))
 subst a4
 refine Aa fun b7 a5 => uB ?_
 obtain ⟨D, ⟨aa, ab⟩, h⟩ := A6 h
 obtain ⟨b8, a6, h⟩ := Ac h
 refine Bz (pd 13 0 [11]) [5, 4] [_, _] I (Ca 11 [.o 2 0, .x 5 D.1 (rI D.2), .o 8 1, .o 10 0] I ⟨I, I, ⟨aa, Ag ab⟩, I, J⟩ (Dq I (iH _ _ _ a6) (Bf 1 I (Ap (tW (Ar h I ?_ ?_))))))
 intro a7 h
 refine uB (tV (An 3 [.o 2 5] I J1 (uH (Au (l := [.V 1, .V (e : Int), .V n.At]) Df I) I (tX [3] I (A3 3 0 0 [[.V 1, .V (e : Int), .V n.At]] I (Af 1 I (tW ?_)))))))
 obtain rfl := Z _ (oi h).symm
 have h := G
 have h := C2 h
 obtain rfl := U _ (oi h).symm
 have h := E
 have h := C2 h
 refine Cv [3] I ?_
 cases io h
 exact uC ⟨.inr I, [_, _], [], ⟨⟨0, _, _, _, _, _, _, _, I5⟩, I, J⟩, Cm, I2⟩
 intro a7 h
 refine tZ ?_
 subst a5
 refine Kf (pd 11 0 []) [5, 0] [_, _] [.o 2 0, .x 5 D.1 (rI D.2), .o 9 1] I I ⟨I, ⟨aa, Ag ab⟩, I, J⟩ (Ar h I ?_ ?_)
 intro a8 h
 refine uB (tV (An 3 [.o 2 5] I J1 (uH (Au (l := [.V 2, .V (e : Int), .V n.At]) Df I) I (tX [3] I (A3 3 0 0 [[.V 2, .V (e : Int), .V n.At]] I (Af 1 I (tW ?_)))))))
 obtain rfl := Z _ (oi h).symm
 have h := G
 have h := C2 h
 obtain rfl := U _ (oi h).symm
 have h := E
 have h := C2 h
 refine Cv [3] I ?_
 cases io h
 exact uC ⟨.inr I, [_, _], [], ⟨⟨0, _, _, _, _, _, _, _, I5⟩, I, J⟩, Cm, I2⟩
 intro a8 h
 refine tZ (tV (An 2 [.k 0 (B + 1 : Nat)] I ⟨A0 Y az, J⟩ ?_))
 cases io h
 exact tW ⟨_, _, _, I, I2, sN, [0, 1, 2, 3, 4], I, by decide⟩
 rintro X s ob ⟨rfl, rfl⟩ he
 subst he
 have h := C8 G
 have a9 := Cp A.2.length
 exact Ah I (Aa fun b9 ca => Br I a9 (uE (lg ⟨(), h, I2⟩ [0, 1, 2, 3])))
 rintro s ob ⟨W, h, rfl, rfl⟩
 unfold Vj.J6 at h
 refine tV (An 2 [.k 0 (e + 1 : Nat)] I ⟨A0 S am, J⟩ ?_)
 cases io h
 exact tW ⟨_, _, _, I, I2, J8, [0, 1, 2, 3], I, by decide⟩
 rintro R s ob ⟨rfl, rfl⟩ he
 subst he
 have h := C8 E
 have ba := Cp a.Segments.length
 exact Ah I (Aa fun cb cc => Br I ba (uE (lg ⟨(), h, I2⟩ [0, 1, 2, 3])))
 rintro s ob ⟨Q, h, rfl, rfl⟩
 unfold Vj.J1 at h
 refine Ai (fun s ob => ∃ (ac : Unit), Vj.J2 ac = some r ∧ s = [] ∧ ob = [O6 f [W1]]) [(8, _)] J1 ?_ ?_
 refine Bh [.o 1 0, .l 2 (a.Stations.length : Int)] I ⟨Ax, I, J⟩ (uA (B0 76 I fun bb => ?_))
 obtain ⟨cd, bc, ad⟩ := Ac h
 refine Bx bc [(5, _), (6, _), (8, _), (76, _), (77, _)] J5 (fun (g : Nat) (ae : Unit) s ob => s = [(78, .V (g : Int))] ∧ ob = [O3 i [A9 b], O1 j [Am d], O6 f [W1]]) ⟨I, I⟩ ⟨I, J⟩ ⟨[1, 2, 3], I, by decide⟩ ?_ ?_
 rintro g H ae bd s ob be af ⟨rfl, rfl⟩ h bf
 unfold Vj.B3 at h
 have bg := Co af
 refine Ah I (Aa fun ce bh => Bp I bg (tZ ?_))
 subst bh
 refine uB (uA (Aa fun cf bi => tV (An 3 [.x 1 g (Ba H)] I ⟨⟨I, Ag be⟩, J⟩ (tX [] I (uF W5 5 fun cg => Af 1 I (tX [3] I (A3 3 0 0 [Ba H] I (tW ?_))))))))
 subst bi
 refine Ai (fun s ob => ∃ (K : Bool), Vj.J4 g K = some bd ∧ s = [(107, .v (.bool K))] ∧ ob = [O3 i [A9 b], O1 j [Am d], O6 f [W1]]) [(5, _), (6, _), (8, _), (14, _), (76, _), (77, _), (78, _)] J7 ?_ ?_
 obtain ⟨t, ⟨ag, ah⟩, h⟩ := A6 h
 rcases bt (t.2) with u | u
 have h := Bu u h
 obtain ⟨M, ⟨bj, bk⟩, h⟩ := A6 h
 refine Bz (pd 25 0 []) [1, 0, 3] [_, _, _] I (Ca 6 [.o 1 0, .x 3 t.1 (rB t.2)] I ⟨⟨ag, Ag ah⟩, I, J⟩ (A5 88 I u (Ca 8 [.o 1 1, .o 3 2, .x 4 M.1 (rB M.2)] I ⟨⟨bj, Ag bk⟩, I, I, J⟩ ?_)))
 rcases bt (M.2) with w | w
 have h := Bu w h
 obtain ⟨O, ⟨bl, bm⟩, h⟩ := A6 h
 exact A5 96 I w (Ca 11 [.o 1 1, .o 3 2, .x 4 O.1 (Aq O.2), .o 8 2] I ⟨I, ⟨bl, Ag bm⟩, I, I, J⟩ (Ap (tW (lg ⟨decide (O.2.Low < H.Suction), h, I2⟩ [0, 1, 2]))))
 have h := Bv w h
 exact A5 96 I w (Bf 11 I (Ap (tW (lg ⟨false, h, I2⟩ [0, 1, 2]))))
 have h := Bv u h
 exact Bz (pd 25 0 []) [1] [_] I (Ca 6 [.o 1 0, .x 3 t.1 (rB t.2)] I ⟨⟨ag, Ag ah⟩, I, J⟩ (A5 88 I u (Bf 19 I (Ap (tW (lg ⟨false, h, I2⟩ [0, 1, 2]))))))
 rintro s ob ⟨K, h, rfl, rfl⟩
 refine Ar h I ?_ ?_
 intro bn h
 refine uB (tV (Af 1 I (uH (Au (l := [.V 3, .V (g : Int), .V 0]) Df I) I (tX [2] I (A3 2 0 0 [[.V 3, .V (g : Int), .V 0]] I (Af 1 I (tW ?_)))))))
 obtain rfl := bf _ (oi h).symm
 have h := ad
 have h := C2 h
 refine Cv [2] I ?_
 cases io h
 exact uC ⟨.inr I, [_, _], [], ⟨⟨0, _, _, _, _, _, _, _, I5⟩, I, J⟩, Cm, I2⟩
 intro bn h
 refine tZ (tV (An 2 [.k 0 (g + 1 : Nat)] I ⟨A0 af bb, J⟩ ?_))
 cases io h
 exact tW ⟨_, _, _, I, I2, J6, [0, 1, 2], I, by decide⟩
 rintro ae s ob ⟨rfl, rfl⟩ he
 subst he
 have h := C8 ad
 have bo := Cp a.Stations.length
 exact Ah I (Aa fun ci cj => Br I bo (uE (lg ⟨(), h, I2⟩ [2])))
 rintro s ob ⟨ac, h, rfl, rfl⟩
 unfold Vj.J2 at h
 refine uB (tV (uH (Au (l := W1) Df I) I (tX [0] I (A3 0 0 0 [W1] I (Af 1 I (tW ?_))))))
 cases io h
 exact uC ⟨.inr I, [_, _], [], ⟨⟨0, _, _, _, _, _, _, _, I5⟩, I, J⟩, Cm, I2⟩
theorem Uo (d : Nw) (j : List Batch) (k : List Product) (n : List (List Piece)) (e : Plan) (r : Fault × Int) (h : V2 d j k n e = some r) : ACalls Aj 13 [.agg (Ab d), Q3 j, Q2 k, .list 1 (n.map (rL 2 A4)), .agg (Am e)] [] (RV (.tup [.agg (Cr r.1), .V r.2])) := by
 refine Ae Tryz.func13 I I I fun C hC => ?_
 refine Aa fun M y => tV (tX [] I (Bo (Ab d) 6 fun O => tX [] I (Bo (Am e) 3 fun P => tX [] I (uF W1 3 fun A => Af 1 I (tW ?_)))))
 subst y
 refine Aa fun Q B => ?_
 obtain ⟨D, E, h⟩ := Ac h
 refine tV (An 5 [.o 0 0, .o 4 1] I J2 (tX [] I (Ck I I I (gD _ _ _ _ _ _ E) dS ?_)))
 rintro _ _ ⟨rfl, rfl⟩
 refine Af 3 I (tX [] I (uF W0 3 fun R => tX [3] I (A3 3 0 0 [A9 D.1] I (Af 1 I (tW ?_)))))
 subst B
 refine Aa fun S F => Ah I (Ar h I ?_ ?_)
 intro G h
 refine uB (tV (uH (Au (l := W1) Df I) I (Af 1 I (tX [2] I (A3 2 0 0 [W1] I (Af 1 I (tW (Cv [2] I ?_))))))))
 cases io h
 exact uC ⟨.inr I, [_, _], [], ⟨⟨0, _, _, _, _, _, _, _, I5⟩, I, J⟩, Cm, I2⟩
 intro G h
 refine tZ ?_
 subst F
 refine uB (Ai (fun s ob => ∃ (b : Int × Int × Int × Bool) (g : Nat), V2.J1 b = some r ∧ s = [(14, .v (.pointer (some ⟨g, 0, none⟩))), (15, .v (.bool b.2.2.2))] ∧ ob = [O6 A [W1], O6 g [[.V b.1, .V b.2.1, .V b.2.2.1]]]) [(10, _)] J1 ?_ ?_)
 obtain ⟨U, ⟨W, t, u, w⟩, h⟩ := Gl h
 obtain ⟨a, i, h⟩ := Ac h
 refine Bz (sl 6 0 (.two 6 11 (.two 7 11 (sl 3 8 (.act 11 kA)) (.act 7 (sl 3 8 kA))) (.act 6 (.act 7 (sl 3 8 kA))))) [0, 3, 1] [_, _, _] I (Ca 6 [.o 0 0, .o 1 1, .o 2 2, .o 4 0, .l 5 (d.Segments.length : Int)] I ⟨Ax, I, I, I, I, J⟩ (uK ?_ ?_))
 refine tY [] I I I (Bq (sz := 1) I I I I I I I I I I t u (Ct (f := rI) w I) dS fun H => uK ?_ ?_)
 refine tY [] I I I (Ch I (.refl _) I I (.cons (.refl _) (.cons (.refl _) (.cons (.refl _) (.cons (.us 4 I) (.rest _))))) I (Od _ _ _ _ _ i) dS (by rintro _ _ ⟨rfl, _⟩; rfl) ?_)
 rintro _ ⟨_, rfl, -⟩
 exact Bf 3 I (tY [] I I I (uF W1 3 fun c => tY [5] I I I (A3 5 0 0 [Cr a.1] I (Bf 1 I (Ap (tW (lg ⟨(a.1.Kind, a.1.Index, a.1.At, a.2), c, h, I2⟩ [2, 5])))))))
 refine tY [] I I I (uF W1 3 fun c => tY [] I I I (Ch I (.refl _) I I (.cons (.refl _) (.cons (.refl _) (.cons (.refl _) (.cons (.us 4 I) (.rest _))))) I (Od _ _ _ _ _ i) dS (by rintro _ _ ⟨rfl, _⟩; rfl) ?_))
 rintro _ ⟨_, rfl, -⟩
 exact Bf 3 I (tY [5] I I I (A3 5 0 0 [Cr a.1] I (Bf 1 I (Ap (tW (lg ⟨(a.1.Kind, a.1.Index, a.1.At, a.2), c, h, I2⟩ [2, 5]))))))
 refine tY [] I I I (uF W1 3 fun c => tY [] I I I (Bq (sz := 1) I I I I I I I I I I t u (Ct (f := rI) w I) dS fun H => tY [] I I I (Ch I (.refl _) I I (.cons (.refl _) (.cons (.refl _) (.cons (.refl _) (.cons (.us 5 I) (.rest _))))) I (Od _ _ _ _ _ i) dS (by rintro _ _ ⟨rfl, _⟩; rfl) ?_)))
 rintro _ ⟨_, rfl, -⟩
 exact Bf 3 I (tY [4] I I I (A3 4 0 0 [Cr a.1] I (Bf 1 I (Ap (tW (lg ⟨(a.1.Kind, a.1.Index, a.1.At, a.2), c, h, I2⟩ [2, 4]))))))
 rintro s ob ⟨b, g, h, rfl, rfl⟩
 refine Ah I (Ar h I ?_ ?_)
 intro K h
 refine uB (tV (An 1 [.o 0 1] I J1 (tX [0] I (A3 0 0 0 [[.V b.1, .V b.2.1, .V b.2.2.1]] I (Af 1 I (tW (Cv [0] I ?_)))))))
 cases io h
 exact uC ⟨.inr I, [_, _], [], ⟨⟨0, _, _, _, _, _, _, _, I5⟩, I, J⟩, Cm, I2⟩
 intro K h
 refine tZ (uB (tV (uH (Au (l := W1) Df I) I (tX [0] I (A3 0 0 0 [W1] I (Af 1 I (tW (Cv [0] I ?_))))))))
 cases io h
 exact uC ⟨.inr I, [_, _], [], ⟨⟨0, _, _, _, _, _, _, _, I5⟩, I, J⟩, Cm, I2⟩
end Go.Proofs.YtodeekicjiengaaGreatDoor
