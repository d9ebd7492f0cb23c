/- Walks that show what functions of the program compute; printed by a program of ours. No condition. -/
import Derived.Test.YtodeekicjiengaaGreatDoorYvLk2
import Derived.Test.YtodeekicjiengaaGreatDoorYvL6
import Derived.Test.YtodeekicjiengaaGreatDoorYvD
set_option maxRecDepth 100000
namespace Go.Proofs.YtodeekicjiengaaGreatDoor
open Go.Aw
set_option linter.unusedVariables false
set_option linter.unusedSimpArgs false
set_option maxHeartbeats 4000000
theorem fQ (a : Sn) (r : Bool) (h : P5 a = some r) : ACalls Aj 160 [.agg (Ba a)] [] (fun x new => x = .v (.bool r) ∧ new = []) := by
 refine Ad Tryz.func160 I I I fun C hC => ?_
 unfold P5 at h
 refine Aa fun u n => sH (sJ [] I (Bo (Ba a) 5 fun w => Ag 1 I (sI ?_)))
 subst n
 refine Ai (fun s ob => ∃ (l : Bool), P5.J1 l = some r ∧ s = [(2, .v (.bool l))] ∧ ob = []) [] J ?_ ?_
 obtain ⟨p, t, h⟩ := Ac h
 refine sH (An 2 [.o 1 0] I J1 (Cc (Oe _ _ t) (Ag 1 I ?_)))
 rcases bt (p) with b | b
 replace h := Bq b h
 refine Af 6 I b (An 5 [.o 1 0] I J1 ?_)
 rcases bt (decide (a.Node ≥ 0)) with d | d
 replace h := Bq d h
 refine Af 11 I d (An 5 [.o 1 0] I J1 ?_)
 rcases bt (decide (a.Node < 24)) with e | e
 replace h := Bq e h
 refine Af 16 I e (An 5 [.o 1 0] I J1 ?_)
 rcases bt (decide (a.Head ≥ 0)) with f | f
 replace h := Bq f h
 refine Af 21 I f (An 5 [.o 1 0] I J1 ?_)
 rcases bt (decide (a.Head ≤ 100000000)) with g | g
 replace h := Bq g h
 refine Af 26 I g (An 5 [.o 1 0] I J1 ?_)
 rcases bt (decide (a.Fall ≥ 0)) with i | i
 replace h := Bq i h
 refine Af 31 I i (An 5 [.o 1 0] I J1 ?_)
 rcases bt (decide (a.Fall ≤ 100000)) with j | j
 replace h := Bq j h
 refine Af 36 I j (An 5 [.o 1 0] I J1 ?_)
 rcases bt (decide (a.Suction ≥ 0)) with k | k
 replace h := Bq k h
 refine Af 41 I k (An 5 [.o 1 0] I J1 (sI ?_))
 exact lg ⟨decide (a.Suction ≤ 100000000), h, I2⟩ []
 replace h := Br k h
 refine Af 41 I k (Ag 5 I (sI ?_))
 exact lg ⟨false, h, I2⟩ []
 replace h := Br j h
 refine Af 36 I j (Ag 10 I (sI ?_))
 exact lg ⟨false, h, I2⟩ []
 replace h := Br i h
 refine Af 31 I i (Ag 15 I (sI ?_))
 exact lg ⟨false, h, I2⟩ []
 replace h := Br g h
 refine Af 26 I g (Ag 20 I (sI ?_))
 exact lg ⟨false, h, I2⟩ []
 replace h := Br f h
 refine Af 21 I f (Ag 25 I (sI ?_))
 exact lg ⟨false, h, I2⟩ []
 replace h := Br e h
 refine Af 16 I e (Ag 30 I (sI ?_))
 exact lg ⟨false, h, I2⟩ []
 replace h := Br d h
 refine Af 11 I d (Ag 35 I (sI ?_))
 exact lg ⟨false, h, I2⟩ []
 replace h := Br b h
 refine Af 6 I b (Ag 40 I (sI ?_))
 exact lg ⟨false, h, I2⟩ []
 rintro s ob ⟨l, h, rfl, rfl⟩
 obtain rfl := oi h
 exact sO pr
theorem eW (b : Sn) (a : Int) (r : Int × Int) (h : Vf b a = some r) : ACalls Aj 106 [.agg (Ba b), .V a] [] (fun x new => x = .tup [.V r.1, .V r.2] ∧ new = []) := by
 refine Ad Tryz.func106 I I I fun C hC => ?_
 refine Aa fun n e => sH (sJ [] I (Bo (Ba b) 5 fun p => Ag 2 I (sI ?_)))
 subst e
 refine Aa fun s g => sN ?_
 obtain ⟨t, i, h⟩ := Ac h
 refine sH (An 1 [.o 0 0] I J1 (Cc (fQ _ _ i) (Ag 1 I (sI (Ar h I ?_ ?_)))))
 intro j h
 refine Ah I (sP g0 ?_)
 obtain rfl := oi h
 exact sO ⟨.inr I, [_, _], [], J2, Cm, I2⟩
 intro j h
 refine sL ?_
 subst g
 refine Aa fun u k => Ec 14 (decide (a < 0) || decide (a > 32000)) ?_ ?_
 refine sH (Ag 3 I ?_)
 rcases bt (decide (a < 0)) with d | d
 refine Af 11 I d (Ag 3 I (sI ?_))
 exact jf (by simp only [d, bz]) I I I2
 refine Af 11 I d (Ag 3 I (sI ?_))
 exact jf (by simp only [d, bz]) I I I2
 refine Ar h I ?_ ?_
 intro l h
 refine Ah I (sP g0 ?_)
 obtain rfl := oi h
 exact sO ⟨.inr I, [_, _], [], J2, Cm, I2⟩
 intro l h
 refine sL ?_
 subst k
 refine Bh [.o 1 0, .o 3 0, .f 8 (.V (wr ((wr ((wr (b.Fall * a)) * a)).tdiv 1000)))] I ⟨Yp.yd (Em (c := wr ((wr ((wr (b.Fall * a)) * a)).tdiv 1000)) I I ⟨by decide, I⟩), I, I, J⟩ (sP g0 ?_)
 obtain rfl := oi h
 exact sO ⟨.inr I, [_, _], [], J2, Cm, I2⟩
theorem Tz (d : Sn) (a : Bounds) (e : Int) (r : Bounds × Int) (h : Ve d a e = some r) : ACalls Aj 65 [.agg (Ba d), .agg (Aq a), .V e] [] (fun x new => x = .tup [.agg (Aq r.1), .V r.2] ∧ new = []) := by
 refine Ad Tryz.func65 I I I fun C hC => ?_
 refine Aa fun t f => sH (sJ [] I (Bo (Ba d) 5 fun u => sJ [] I (Bo (Aq a) 2 fun v => sJ [] I (sS [.V 0, .V 0] 2 fun w => Ag 1 I (sI ?_)))))
 subst f
 refine Aa fun y g => ?_
 obtain ⟨b, i, h⟩ := Ac h
 refine sH (An 2 [.o 0 0] I J1 (Cc (eW _ _ _ i) (Ag 5 I (sI ?_))))
 subst g
 refine Aa fun A j => Ah I (Ar h I ?_ ?_)
 intro k h
 refine sN (sH (sT (Au (l := [.V 0, .V 0]) Do I) I (Ag 1 I (sJ [2] I (A3 2 0 0 [[.V 0, .V 0]] I (Ag 1 I (sI (Cu [2] I ?_))))))))
 obtain rfl := oi h
 exact sO ⟨.inr I, [_, _], [], ⟨⟨0, _, _, _, _, _, _, _, I5⟩, I, J⟩, Cm, I2⟩
 intro k h
 refine sL ?_
 subst j
 refine Aa fun B n => sN (sH (An 1 [.o 0 1] I J1 (Cc (T3 a _ I) (Ag 1 I (sI (Ar h I ?_ ?_))))))
 intro s h
 refine sN (sH (sT (Au (l := [.V 0, .V 0]) Do I) I (sJ [2] I (A3 2 0 0 [[.V 0, .V 0]] I (Ag 1 I (sI (Cu [2] I ?_)))))))
 obtain rfl := oi h
 exact sO ⟨.inr I, [_, _], [], ⟨⟨0, _, _, _, _, _, _, _, I5⟩, I, J⟩, Cm, I2⟩
 intro s h
 refine sL ?_
 subst n
 refine sN (sH (An 8 [.o 1 1, .o 5 1] I J2 (sT (Au (l := [.V (wr (a.Low + b.1)), .V (wr (a.High + b.1))]) Do I) I (sJ [2] I (A3 2 0 0 [[.V (wr (a.Low + b.1)), .V (wr (a.High + b.1))]] I (Ag 1 I (sI (Cu [2] I ?_))))))))
 obtain rfl := oi h
 exact sO ⟨.inr I, [_, _], [], ⟨⟨0, _, _, _, _, _, _, _, I5⟩, I, J⟩, Cm, I2⟩
theorem Tm (d : Nw) (e : Plan) (t : Int) (r : Int) (h : My d e t = some r) : ACalls Aj 66 [.agg (Ab d), .agg (Am e), .V t] [] (fun x new => x = .V r ∧ new = []) := by
 refine Ad Tryz.func66 I I I fun C hC => ?_
 unfold My at h
 refine Aa fun S y => sH (sJ [] I (Bo (Ab d) 6 fun U => sJ [] I (Bo (Am e) 3 fun u => Ag 1 I (sI ?_))))
 subst y
 refine Ah I (Ai (fun s ob => ∃ (g : Int), My.J1 g = some r ∧ s = [(7, .V g)] ∧ ob = []) [] J ?_ ?_)
 refine Bh [.o 1 0, .l 2 (d.Segments.length : Int)] I ⟨Ay, I, J⟩ (sM (Bz 13 I fun A => ?_))
 obtain ⟨W, B, D⟩ := Ac h
 clear h
 refine Ct B [(2, _), (4, _), (13, _), (14, _)] J4 (fun (f : Nat) (b : Int) s ob => s = [(15, .V (f : Int)), (7, .V b)] ∧ ob = [O1 u [Am e]]) ⟨I, I⟩ ⟨I, I, J⟩ ⟨[1], I, by decide⟩ ?_ ?_
 rintro f i b E s ob F w ⟨rfl, rfl⟩ h
 unfold My.B2 at h
 have G := Cn w
 refine Ah I (Aa fun X H => Bs I G (sL ?_))
 subst H
 refine Ai (fun s ob => ∃ (j : Int), My.J3 j = some E ∧ s = [(7, .V j)] ∧ ob = [O1 u [Am e]]) [(2, _), (4, _), (13, _), (14, _), (15, _)] J5 ?_ ?_
 refine sM (Aa fun Y K => sH (An 3 [.x 1 f (Ak i)] I ⟨⟨I, Ae F⟩, J⟩ (sJ [] I (sS W2 7 fun Z => Ag 1 I (sJ [1] I (A3 1 0 0 [Ak i] I (sI ?_)))))))
 subst K
 refine Aa fun aa M => sN ?_
 obtain ⟨a, ⟨n, p⟩, h⟩ := A5 h
 refine Ey [.o 1 0, .x 3 a.1 (rI a.2)] I ⟨⟨n, Ae p⟩, I, J⟩ (Ar h I ?_ ?_)
 intro O h
 refine sQ ?_
 exact lg ⟨b, h, I2⟩ [0]
 intro O h
 refine sL ?_
 subst M
 refine Aa fun ab P => By (pd 12 0 [6]) [1, 0] [_, _] I (B8 6 [.o 0 0, .o 2 1, .x 4 a.1 (rI a.2)] I ⟨⟨n, Ae p⟩, I, I, J⟩ (Dp I (Hq i a.2 _ I) (Bg 5 I (Ap (sI ?_)))))
 subst P
 refine Ah I (Ar h I ?_ ?_)
 intro Q h
 refine sH (An 6 [.o 2 0, .x 4 a.1 (rI a.2)] I ⟨⟨n, Ae p⟩, I, J⟩ (Cc (N8 a.2 _ I) (Ag 2 I (sI ?_))))
 exact lg ⟨wr (b + (Ga a.2)), h, I2⟩ [0]
 intro Q h
 refine sL ?_
 exact lg ⟨b, h, I2⟩ [0]
 rintro s ob ⟨j, h, rfl, rfl⟩
 refine sH (An 2 [.k 0 (f + 1 : Nat)] I ⟨A0 w A, J⟩ ?_)
 obtain rfl := oi h
 exact sI (lg I2 [0])
 rintro b s ob ⟨rfl, rfl⟩ he
 subst he
 have h := D
 have R := Co d.Segments.length
 refine Ah I (Aa fun ac ad => Bu I R (sQ ?_))
 exact lg ⟨b, h, I2⟩ []
 rintro s ob ⟨g, h, rfl, rfl⟩
 refine Ah I ?_
 obtain rfl := oi h
 exact sO pr
theorem gH (a : Nw) (b : List (List Piece)) (r : Int) (h : Qb a b = some r) : ACalls Aj 60 [.agg (Ab a), .list 1 (b.map (rL 2 A9))] [] (fun x new => x = .V r ∧ new = []) := by
 refine Ad Tryz.func60 I I I fun C hC => ?_
 refine Aa fun y1 A => sH (sJ [] I (Bo (Ab a) 6 fun f => Ag 1 I (sI ?_)))
 subst A
 refine Aa fun y3 B => sN ?_
 obtain ⟨r4, D, h⟩ := Ac h
 refine sH (An 1 [.o 0 0] I J1 (Cc (Jy _ _ D) (Ag 1 I (sI (Ah I (Ar h I ?_ ?_))))))
 intro E h
 refine Ah I (sP g0 ?_)
 obtain rfl := oi h
 exact sO pr
 intro E h
 refine sL ?_
 subst B
 refine Aa fun y7 F => Bh [.l 1 (b.length : Int), .o 3 0, .l 4 (a.Segments.length : Int)] I ⟨Ay, I, Ay, J⟩ (Ar h I ?_ ?_)
 intro G h
 refine Ah I (sP g0 ?_)
 obtain rfl := oi h
 exact sO pr
 intro G h
 refine sL ?_
 subst F
 refine Ai (fun s ob => ∃ (g : Unit), Qb.J1 a b g = some r ∧ s = [] ∧ ob = [O0 f [Ab a]]) [(1, _), (2, _)] J2 ?_ ?_
 refine Bh [.l 1 (b.length : Int)] I ⟨Ay, J⟩ (sM (Bz 19 I fun H => ?_))
 obtain ⟨am, K, i⟩ := Ac h
 clear h
 refine Bx K [(1, _), (2, _), (20, _)] J3 (fun (d : Nat) (j : Unit) s ob => s = [(21, .V (d : Int))] ∧ ob = [O0 f [Ab a]]) ⟨I, I⟩ ⟨I, J⟩ ⟨[0], I, by decide⟩ ?_ ?_
 rintro d M j an s ob N n ⟨rfl, rfl⟩ h O
 have P := Cn n
 refine Ah I (Aa fun ao Q => Bs I P (sL ?_))
 subst Q
 refine sN (sM (Ah I (sN ?_)))
 obtain ⟨ap, R, h⟩ := Ac h
 refine sH (An 4 [.x 2 d ((rL 2 A9) M)] I ⟨⟨I, Ae N⟩, J⟩ (Cc (Oc _ _ R) (Ag 1 I (sI (Ar h I ?_ ?_)))))
 intro S h
 refine Ah I ?_
 obtain rfl := O _ (oi h).symm
 replace h := i
 replace h := C1 h
 refine sP g0 ?_
 obtain rfl := oi h
 exact sO pr
 intro S h
 refine sL (sH (An 2 [.k 0 (d + 1 : Nat)] I ⟨A0 n H, J⟩ ?_))
 obtain rfl := oi h
 exact sI ⟨_, _, _, I, I2, J4, [0], I, by decide⟩
 rintro j s ob ⟨rfl, rfl⟩ he
 subst he
 have h := C6 i
 have U := Co b.length
 refine Ah I (Aa fun aq ar => Bu I U (sQ ?_))
 exact lg ⟨(), h, I2⟩ [0]
 rintro s ob ⟨g, h, rfl, rfl⟩
 unfold Qb.J1 at h
 refine Ai (fun s ob => ∃ (p : Unit), Qb.J2 p = some r ∧ s = [] ∧ ob = []) [] J ?_ ?_
 refine Bh [.l 1 (b.length : Int)] I ⟨Ay, J⟩ (sM (Bz 31 I fun W => ?_))
 obtain ⟨au, X, t⟩ := Ac h
 clear h
 refine Bx X [(1, _), (2, _), (32, _)] J3 (fun (e : Nat) (u : Unit) s ob => s = [(33, .V (e : Int))] ∧ ob = [O0 f [Ab a]]) ⟨I, I⟩ ⟨I, J⟩ ⟨[0], I, by decide⟩ ?_ ?_
 rintro e Y u av s ob Z w ⟨rfl, rfl⟩ h aa
 have ab := Cn w
 refine Ah I (Aa fun aw ac => Bs I ab (sL ?_))
 subst ac
 refine sN (sM (Ah I (sN ?_)))
 obtain ⟨ax, ad, h⟩ := Ac h
 obtain ⟨y, ⟨ae, af⟩, h⟩ := A5 h
 refine By (sl 4 0 (sl 6 5 (.act 4 (.still 11 .nil)))) [0] [_] I (B8 10 [.x 2 e ((rL 2 A9) Y), .o 5 0, .x 7 y.1 (Ak y.2)] I ⟨⟨ae, Ae af⟩, I, ⟨I, Ae Z⟩, J⟩ (Dp I (Tl _ _ ad) (Bg 1 I (Ap (sI (Ar h I ?_ ?_))))))
 intro ag h
 refine Ah I ?_
 obtain rfl := aa _ (oi h).symm
 replace h := t
 replace h := C1 h
 refine sP g0 ?_
 obtain rfl := oi h
 exact sO pr
 intro ag h
 refine sL (sH (An 2 [.k 0 (e + 1 : Nat)] I ⟨A0 w W, J⟩ ?_))
 obtain rfl := oi h
 exact sI ⟨_, _, _, I, I2, J4, [0], I, by decide⟩
 rintro u s ob ⟨rfl, rfl⟩ he
 subst he
 have h := C6 t
 have ah := Co b.length
 refine Ah I (Aa fun ay az => Bu I ah (sQ ?_))
 exact lg ⟨(), h, I2⟩ []
 rintro s ob ⟨p, h, rfl, rfl⟩
 refine Ah I ?_
 obtain rfl := oi h
 exact sO pr
theorem gS (a : Nw) (b : Plan) (r : Li × Int) (h : Vr a b = some r) : ACalls Aj 63 [.agg (Ab a), .agg (Am b)] [] (fun x new => ∃ (d : Value), x = .tup [.v d, .V r.2] ∧ new = [U0 d r.1]) := by
 refine Ad Tryz.func63 I I I fun C hC => ?_
 refine Aa fun l f => sH (sJ [] I (Bo (Ab a) 6 fun n => sJ [] I (Bo (Am b) 3 fun p => Ag 2 I (sI ?_))))
 subst f
 refine sN (sN ?_)
 obtain ⟨s, g, h⟩ := Ac h
 refine sH (An 2 [.o 0 0, .o 1 1] I J2 (Cc (Tq _ _ _ g) (Ag 1 I (sI (Ah I (Ar h I ?_ ?_))))))
 intro i h
 refine Ah I (sP (Bv 3 1) (Cu [2] I ?_))
 obtain rfl := oi h
 exact sO ⟨.inr I, [_, _], [.us (.slice none 0 0) 3 1 ([].map rI)], J2, Cy I (Cm), ⟨(.slice none 0 0), I2⟩⟩
 intro i h
 refine sL (sN ?_)
 obtain ⟨j, k, h⟩ := Ac h
 refine sH (An 2 [.o 0 0, .o 1 1] I J2 (sJ [] I (Ci I I I (Uh _ _ _ k) dS ?_)))
 rintro _ _ ⟨e, rfl, rfl⟩
 refine Ag 2 I (sI (Cu [2] I ?_))
 obtain rfl := oi h
 exact sO ⟨.inr I, [_, _], [U0 e j], J2, Cy I (Cm), ⟨e, I2⟩⟩
theorem eZ (j : Nw) (au : List Batch) (av : List Product) (ae : List (List Piece)) (w : Plan) (r : Pressures × Int) (h : P0 j au av ae w = some r) : ACalls Aj 29 [.agg (Ab j), Q3 au, Q2 av, .list 1 (ae.map (rL 2 A9)), .agg (Am w)] [] (fun x new => x = .tup [.agg (A8 r.1), .V r.2] ∧ new = []) := by
 refine Ad Tryz.func29 I I I fun C hC => ?_
 refine Aa fun y1 c2 => sH (sJ [] I (Bo (Ab j) 6 fun G => sJ [] I (Bo (Am w) 3 fun H => sJ [] I (sS W0 3 fun F => Ag 1 I (sI ?_)))))
 subst c2
 refine Aa fun y5 c3 => sN ?_
 obtain ⟨r6, c4, h⟩ := Ac h
 refine sH (An 2 [.o 0 0, .o 1 1] I J2 (Cc (Tq _ _ _ c4) (Ag 1 I (sI (Ah I (Ar h I ?_ ?_))))))
 intro c5 h
 refine sN (sH (sT (Au (l := W0) Cf I) I (Ag 1 I (sJ [2] I (A3 2 0 0 [W0] I (Ag 1 I (sI (sP (Bk [] (K := []) I [] J (ob' := [O0 G [Ab j], O1 H [Am w], O3 F [[.list 1 ([].map rB), .list 2 ([].map Aq), .list 1 ([].map (rL 3 Ao))]]]) (.cons (.same _) (.cons (.same _) (.cons (.arr (.cons (.nil _) (.cons (.nil _) (.cons (.nil _) (.rest _))))) (.rest _))))) (Cu [2] I ?_)))))))))
 obtain rfl := oi h
 rotate_left
 intro c5 h
 refine sL ?_
 subst c3
 refine Aa fun y9 c6 => sN ?_
 obtain ⟨gk, c7, h⟩ := Ac h
 refine sH (An 2 [.o 0 0] I J1 (Cc (gH _ _ _ c7) (Ag 1 I (sI (Ah I (Ar h I ?_ ?_))))))
 intro c8 h
 refine sN (sH (sT (Au (l := W0) Cf I) I (Ag 1 I (sJ [2] I (A3 2 0 0 [W0] I (Ag 1 I (sI (sP (Bk [] (K := []) I [] J (ob' := [O0 G [Ab j], O1 H [Am w], O3 F [[.list 1 ([].map rB), .list 2 ([].map Aq), .list 1 ([].map (rL 3 Ao))]]]) (.cons (.same _) (.cons (.same _) (.cons (.arr (.cons (.nil _) (.cons (.nil _) (.cons (.nil _) (.rest _))))) (.rest _))))) (Cu [2] I ?_)))))))))
 obtain rfl := oi h
 rotate_left
 intro c8 h
 refine sL ?_
 subst c6
 refine Aa fun gl c9 => sN ?_
 obtain ⟨gm, da, h⟩ := Ac h
 refine sH (Ag 1 I (Cc (Ua _ _ da) (Ag 1 I (sI (Ah I (Ar h I ?_ ?_))))))
 intro db h
 refine sN (sH (sT (Au (l := W0) Cf I) I (Ag 1 I (sJ [2] I (A3 2 0 0 [W0] I (Ag 1 I (sI (sP (Bk [] (K := []) I [] J (ob' := [O0 G [Ab j], O1 H [Am w], O3 F [[.list 1 ([].map rB), .list 2 ([].map Aq), .list 1 ([].map (rL 3 Ao))]]]) (.cons (.same _) (.cons (.same _) (.cons (.arr (.cons (.nil _) (.cons (.nil _) (.cons (.nil _) (.rest _))))) (.rest _))))) (Cu [2] I ?_)))))))))
 obtain rfl := oi h
 rotate_left
 intro db h
 refine sL ?_
 subst c9
 refine Ai (fun s ob => ∃ (cg : Unit), P0.J1 j au av ae w cg = some r ∧ s = [] ∧ ob = [O0 G [Ab j], O1 H [Am w], O3 F [W0]]) [(1, _), (2, _), (3, _), (5, _), (9, _), (10, _)] J6 ?_ ?_
 refine Bh [.l 1 (ae.length : Int)] I ⟨Ay, J⟩ (sM (Bz 59 I fun dc => ?_))
 obtain ⟨gn, dd, ci⟩ := Ac h
 clear h
 refine Bx dd [(1, _), (2, _), (3, _), (5, _), (9, _), (10, _), (60, _)] J7 (fun (be : Nat) (cj : Unit) s ob => s = [(61, .V (be : Int))] ∧ ob = [O0 G [Ab j], O1 H [Am w], O3 F [W0]]) ⟨I, I⟩ ⟨I, J⟩ ⟨[0, 1, 2], I, by decide⟩ ?_ ?_
 rintro be de cj go s ob df ck ⟨rfl, rfl⟩ h dg
 have dh := Cn ck
 refine Ah I (Aa fun gq di => Bs I dh (sL ?_))
 subst di
 refine sN (sM (Ah I (sN ?_)))
 obtain ⟨gr, dj, h⟩ := Ac h
 refine sH (An 6 [.x 2 be ((rL 2 A9) de)] I ⟨⟨I, Ae df⟩, J⟩ (Cc (T9 _ _ _ _ dj) (Ag 1 I (sI (Ar h I ?_ ?_)))))
 intro dk h
 refine sN (sH (sT (Au (l := W0) Cf I) I (sJ [2] I (A3 2 0 0 [W0] I (Ag 1 I (sI ?_))))))
 obtain rfl := dg _ (oi h).symm
 replace h := ci
 replace h := C1 h
 refine sP (Bk [] (K := []) I [] J (ob' := [O0 G [Ab j], O1 H [Am w], O3 F [[.list 1 ([].map rB), .list 2 ([].map Aq), .list 1 ([].map (rL 3 Ao))]]]) (.cons (.same _) (.cons (.same _) (.cons (.arr (.cons (.nil _) (.cons (.nil _) (.cons (.nil _) (.rest _))))) (.rest _))))) (Cu [2] I ?_)
 obtain rfl := oi h
 any_goals
  exact sO ⟨.inr I, [_, _], [], ⟨⟨0, _, _, _, _, _, _, _, I5⟩, I, J⟩, Cm, I2⟩
 intro dk h
 refine sL (sH (An 2 [.k 0 (be + 1 : Nat)] I ⟨A0 ck dc, J⟩ ?_))
 obtain rfl := oi h
 exact sI ⟨_, _, _, I, I2, J8, [0, 1, 2], I, by decide⟩
 rintro cj s ob ⟨rfl, rfl⟩ he
 subst he
 have h := C6 ci
 have dl := Co ae.length
 refine Ah I (Aa fun gs gt => Bu I dl (sQ ?_))
 exact lg ⟨(), h, I2⟩ [0, 1, 2]
 rintro s ob ⟨cg, h, rfl, rfl⟩
 unfold P0.J1 at h
 refine Ai (fun s ob => ∃ (a7 : (List Bool) × (List Bounds) × (List (List Level))) (O : Nat) (n : Value) (t : Value) (u : Value), P0.J2 j au av ae w a7 = some r ∧ s = [(16, .v (.pointer (some ⟨O, 0, none⟩)))] ∧ ob = [O0 G [Ab j], O1 H [Am w], O3 F [W0], U1 n a7.1, U2 t a7.2.1, .us u 127 1 (a7.2.2.map (rL 3 Ao)), O3 O [[.v n, .v t, .v u]]]) [(1, _), (2, _), (3, _), (5, _), (9, _), (10, _)] J6 ?_ ?_
 obtain ⟨R, ⟨gu, af, ag, ah⟩, h⟩ := Gm h
 obtain ⟨S, ⟨gv, ai, aj, ak⟩, h⟩ := Gm h
 obtain ⟨W, ⟨D, X, Y, Z⟩, h⟩ := Gm h
 refine By (sl 3 0 (sl 3 4 (sl 3 8 (.four 3 7 11 13 (.three 7 11 13 (.two 11 13 (.still 12 (.act 13 (.act 14 .nil))) (.act 11 (.still 12 (.act 14 .nil)))) (.par [(7, []), (13, []), (12, [7])] (.act 14 .nil)) (.two 7 11 (.act 11 (.still 12 (.act 14 .nil))) (.act 7 (.still 12 (.act 14 .nil))))) (.three 3 11 13 (.two 11 13 (.still 12 (.act 13 (.act 14 .nil))) (.act 11 (.still 12 (.act 14 .nil)))) (.par [(3, []), (13, []), (12, [3])] (.act 14 .nil)) (.two 3 11 (.act 11 (.still 12 (.act 14 .nil))) (.act 3 (.still 12 (.act 14 .nil))))) (.par [(3, []), (7, []), (13, []), (12, [3, 7])] (.act 14 .nil)) (.three 3 7 11 (.two 7 11 (.act 11 (.still 12 (.act 14 .nil))) (.act 7 (.still 12 (.act 14 .nil)))) (.two 3 11 (.act 11 (.still 12 (.act 14 .nil))) (.act 3 (.still 12 (.act 14 .nil)))) (.par [(3, []), (7, [])] (.still 12 (.act 14 .nil)))))))) [0] [_] I (B8 9 [.o 1 0, .l 2 (j.Nodes.length : Int), .o 4 0, .l 5 (j.Nodes.length : Int), .o 7 0, .l 8 (j.Segments.length : Int)] I ⟨Ay, I, Ay, I, Ay, I, J⟩ (AP.four ?_ ?_ ?_ ?_))
 refine sK [] I I I (Bp (sz := 1) I I I I I I I I I I af ag (Cr (f := rB) ah I) dS fun e => tF ?_ ?_ ?_)
 refine sK [] I I I (Bp (sz := 2) I I I I I I I I I I ai aj (Cr (f := Aq) ak I) dS fun g => sW ?_ ?_)
 refine sK [] I I I (Bp (sz := 1) (es' := List.replicate D [.N]) I I I I I I I I I I X Y I dS fun a => Cw (Ch (f := Ao) 5 D 3 Z I) I (sU 3 I fun A => sU 4 I fun B => sU 5 I fun E => tC I (Au (l := [.v e, .v g, .v a]) Cf (As I I (A7 A) I (As I I (A7 B) I (As I I (A7 E) I (Cv))))) I (sK [] I I I (sS W0 3 fun M => sK [6] I I I (A3 6 0 0 [[.v e, .v g, .v a]] I (Ap (sI ?_)))))))
 exact lg ⟨(R, S, W), M, e, g, a, h, I2⟩ [0, 1, 2, 3, 4, 5, 6]
 refine sK [] I I I (sS W0 3 fun M => sK [] I I I (Bp (sz := 1) (es' := List.replicate D [.N]) I I I I I I I I I I X Y I dS fun a => Cw (Ch (f := Ao) 6 D 3 Z I) I (sU 3 I fun A => sU 4 I fun B => sU 6 I fun E => tC I (Au (l := [.v e, .v g, .v a]) Cf (As I I (A7 A) I (As I I (A7 B) I (As I I (A7 E) I (Cv))))) I (sK [5] I I I (A3 5 0 0 [[.v e, .v g, .v a]] I (Ap (sI ?_)))))))
 exact lg ⟨(R, S, W), M, e, g, a, h, I2⟩ [0, 1, 2, 3, 4, 6, 5]
 refine sK [] I I I (Bp (sz := 1) (es' := List.replicate D [.N]) I I I I I I I I I I X Y I dS fun a => Cw (Ch (f := Ao) 4 D 3 Z I) I (sU 3 I fun A => sU 4 I fun E => AP.any [⟨7, [], 81, .us 129 2 (S.map Aq)⟩, ⟨13, [], 16, .box 84 3 (W0)⟩, ⟨12, [7], 86, .fn fun l => match l with | [.v g] => .agg [.v e, .v g, .v a] | _ => .tup []⟩] I ⟨⟨_, I, I, I, fun _ => Bp (sz := 2) I I I I I I I I I I ai aj (Cr (f := Aq) ak I) dS fun v => ⟨_, I, ⟨v, I⟩, I⟩⟩, ⟨_, I, I, I, fun _ => sS W0 3 fun b => ⟨_, I, ⟨b, I⟩, I⟩⟩, ⟨_, I, I, I, fun g B _ => Ce (Yp.yd (Au (l := [.v e, .v g, .v a]) Cf (As I I (A7 A) I (As I I (A7 B) I (As I I (A7 E) I (Cv)))))) dS ⟨_, I, I, nb⟩⟩, J⟩ ?_))
 intro g B M
 refine AP.same 86 (.agg [.v e, .v g, .v a]) I (sK [6] I I I (A3 6 0 0 [[.v e, .v g, .v a]] I (Ap (sI ?_))))
 exact lg ⟨(R, S, W), M, e, g, a, h, I2⟩ [0, 1, 2, 3, 5, 4, 6]
 refine sK [] I I I (sS W0 3 fun M => sW ?_ ?_)
 refine sK [] I I I (Bp (sz := 2) I I I I I I I I I I ai aj (Cr (f := Aq) ak I) dS fun g => sK [] I I I (Bp (sz := 1) (es' := List.replicate D [.N]) I I I I I I I I I I X Y I dS fun a => Cw (Ch (f := Ao) 6 D 3 Z I) I (sU 3 I fun A => sU 5 I fun B => sU 6 I fun E => tC I (Au (l := [.v e, .v g, .v a]) Cf (As I I (A7 A) I (As I I (A7 B) I (As I I (A7 E) I (Cv))))) I (sK [4] I I I (A3 4 0 0 [[.v e, .v g, .v a]] I (Ap (sI ?_)))))))
 exact lg ⟨(R, S, W), M, e, g, a, h, I2⟩ [0, 1, 2, 3, 5, 6, 4]
 refine sK [] I I I (Bp (sz := 1) (es' := List.replicate D [.N]) I I I I I I I I I I X Y I dS fun a => Cw (Ch (f := Ao) 5 D 3 Z I) I (sK [] I I I (Bp (sz := 2) I I I I I I I I I I ai aj (Cr (f := Aq) ak I) dS fun g => sU 3 I fun A => sU 6 I fun B => sU 5 I fun E => tC I (Au (l := [.v e, .v g, .v a]) Cf (As I I (A7 A) I (As I I (A7 B) I (As I I (A7 E) I (Cv))))) I (sK [4] I I I (A3 4 0 0 [[.v e, .v g, .v a]] I (Ap (sI ?_)))))))
 exact lg ⟨(R, S, W), M, e, g, a, h, I2⟩ [0, 1, 2, 3, 6, 5, 4]
 refine sK [] I I I (Bp (sz := 2) I I I I I I I I I I ai aj (Cr (f := Aq) ak I) dS fun g => tF ?_ ?_ ?_)
 refine sK [] I I I (Bp (sz := 1) I I I I I I I I I I af ag (Cr (f := rB) ah I) dS fun e => sW ?_ ?_)
 refine sK [] I I I (Bp (sz := 1) (es' := List.replicate D [.N]) I I I I I I I I I I X Y I dS fun a => Cw (Ch (f := Ao) 5 D 3 Z I) I (sU 4 I fun A => sU 3 I fun B => sU 5 I fun E => tC I (Au (l := [.v e, .v g, .v a]) Cf (As I I (A7 A) I (As I I (A7 B) I (As I I (A7 E) I (Cv))))) I (sK [] I I I (sS W0 3 fun M => sK [6] I I I (A3 6 0 0 [[.v e, .v g, .v a]] I (Ap (sI ?_)))))))
 exact lg ⟨(R, S, W), M, e, g, a, h, I2⟩ [0, 1, 2, 4, 3, 5, 6]
 refine sK [] I I I (sS W0 3 fun M => sK [] I I I (Bp (sz := 1) (es' := List.replicate D [.N]) I I I I I I I I I I X Y I dS fun a => Cw (Ch (f := Ao) 6 D 3 Z I) I (sU 4 I fun A => sU 3 I fun B => sU 6 I fun E => tC I (Au (l := [.v e, .v g, .v a]) Cf (As I I (A7 A) I (As I I (A7 B) I (As I I (A7 E) I (Cv))))) I (sK [5] I I I (A3 5 0 0 [[.v e, .v g, .v a]] I (Ap (sI ?_)))))))
 exact lg ⟨(R, S, W), M, e, g, a, h, I2⟩ [0, 1, 2, 4, 3, 6, 5]
 refine sK [] I I I (Bp (sz := 1) (es' := List.replicate D [.N]) I I I I I I I I I I X Y I dS fun a => Cw (Ch (f := Ao) 4 D 3 Z I) I (sU 3 I fun B => sU 4 I fun E => AP.any [⟨3, [], 77, .us 4 1 (R.map rB)⟩, ⟨13, [], 16, .box 84 3 (W0)⟩, ⟨12, [3], 86, .fn fun l => match l with | [.v e] => .agg [.v e, .v g, .v a] | _ => .tup []⟩] I ⟨⟨_, I, I, I, fun _ => Bp (sz := 1) I I I I I I I I I I af ag (Cr (f := rB) ah I) dS fun v => ⟨_, I, ⟨v, I⟩, I⟩⟩, ⟨_, I, I, I, fun _ => sS W0 3 fun b => ⟨_, I, ⟨b, I⟩, I⟩⟩, ⟨_, I, I, I, fun e A _ => Ce (Yp.yd (Au (l := [.v e, .v g, .v a]) Cf (As I I (A7 A) I (As I I (A7 B) I (As I I (A7 E) I (Cv)))))) dS ⟨_, I, I, nb⟩⟩, J⟩ ?_))
 intro e A M
 refine AP.same 86 (.agg [.v e, .v g, .v a]) I (sK [6] I I I (A3 6 0 0 [[.v e, .v g, .v a]] I (Ap (sI ?_))))
 exact lg ⟨(R, S, W), M, e, g, a, h, I2⟩ [0, 1, 2, 5, 3, 4, 6]
 refine sK [] I I I (sS W0 3 fun M => sW ?_ ?_)
 refine sK [] I I I (Bp (sz := 1) I I I I I I I I I I af ag (Cr (f := rB) ah I) dS fun e => sK [] I I I (Bp (sz := 1) (es' := List.replicate D [.N]) I I I I I I I I I I X Y I dS fun a => Cw (Ch (f := Ao) 6 D 3 Z I) I (sU 5 I fun A => sU 3 I fun B => sU 6 I fun E => tC I (Au (l := [.v e, .v g, .v a]) Cf (As I I (A7 A) I (As I I (A7 B) I (As I I (A7 E) I (Cv))))) I (sK [4] I I I (A3 4 0 0 [[.v e, .v g, .v a]] I (Ap (sI ?_)))))))
 exact lg ⟨(R, S, W), M, e, g, a, h, I2⟩ [0, 1, 2, 5, 3, 6, 4]
 refine sK [] I I I (Bp (sz := 1) (es' := List.replicate D [.N]) I I I I I I I I I I X Y I dS fun a => Cw (Ch (f := Ao) 5 D 3 Z I) I (sK [] I I I (Bp (sz := 1) I I I I I I I I I I af ag (Cr (f := rB) ah I) dS fun e => sU 6 I fun A => sU 3 I fun B => sU 5 I fun E => tC I (Au (l := [.v e, .v g, .v a]) Cf (As I I (A7 A) I (As I I (A7 B) I (As I I (A7 E) I (Cv))))) I (sK [4] I I I (A3 4 0 0 [[.v e, .v g, .v a]] I (Ap (sI ?_)))))))
 exact lg ⟨(R, S, W), M, e, g, a, h, I2⟩ [0, 1, 2, 6, 3, 5, 4]
 refine sK [] I I I (Bp (sz := 1) (es' := List.replicate D [.N]) I I I I I I I I I I X Y I dS fun a => Cw (Ch (f := Ao) 3 D 3 Z I) I (sU 3 I fun E => AP.any [⟨3, [], 77, .us 4 1 (R.map rB)⟩, ⟨7, [], 81, .us 129 2 (S.map Aq)⟩, ⟨13, [], 16, .box 84 3 (W0)⟩, ⟨12, [3, 7], 86, .fn fun l => match l with | [.v e, .v g] => .agg [.v e, .v g, .v a] | _ => .tup []⟩] I ⟨⟨_, I, I, I, fun _ => Bp (sz := 1) I I I I I I I I I I af ag (Cr (f := rB) ah I) dS fun v => ⟨_, I, ⟨v, I⟩, I⟩⟩, ⟨_, I, I, I, fun _ => Bp (sz := 2) I I I I I I I I I I ai aj (Cr (f := Aq) ak I) dS fun v => ⟨_, I, ⟨v, I⟩, I⟩⟩, ⟨_, I, I, I, fun _ => sS W0 3 fun b => ⟨_, I, ⟨b, I⟩, I⟩⟩, ⟨_, I, I, I, fun e A g B _ => Ce (Yp.yd (Au (l := [.v e, .v g, .v a]) Cf (As I I (A7 A) I (As I I (A7 B) I (As I I (A7 E) I (Cv)))))) dS ⟨_, I, I, nb⟩⟩, J⟩ ?_))
 intro e A g B M
 refine AP.same 86 (.agg [.v e, .v g, .v a]) I (sK [6] I I I (A3 6 0 0 [[.v e, .v g, .v a]] I (Ap (sI ?_))))
 exact lg ⟨(R, S, W), M, e, g, a, h, I2⟩ [0, 1, 2, 4, 5, 3, 6]
 refine sK [] I I I (sS W0 3 fun M => tF ?_ ?_ ?_)
 refine sK [] I I I (Bp (sz := 1) I I I I I I I I I I af ag (Cr (f := rB) ah I) dS fun e => sW ?_ ?_)
 refine sK [] I I I (Bp (sz := 2) I I I I I I I I I I ai aj (Cr (f := Aq) ak I) dS fun g => sK [] I I I (Bp (sz := 1) (es' := List.replicate D [.N]) I I I I I I I I I I X Y I dS fun a => Cw (Ch (f := Ao) 6 D 3 Z I) I (sU 4 I fun A => sU 5 I fun B => sU 6 I fun E => tC I (Au (l := [.v e, .v g, .v a]) Cf (As I I (A7 A) I (As I I (A7 B) I (As I I (A7 E) I (Cv))))) I (sK [3] I I I (A3 3 0 0 [[.v e, .v g, .v a]] I (Ap (sI ?_)))))))
 exact lg ⟨(R, S, W), M, e, g, a, h, I2⟩ [0, 1, 2, 4, 5, 6, 3]
 refine sK [] I I I (Bp (sz := 1) (es' := List.replicate D [.N]) I I I I I I I I I I X Y I dS fun a => Cw (Ch (f := Ao) 5 D 3 Z I) I (sK [] I I I (Bp (sz := 2) I I I I I I I I I I ai aj (Cr (f := Aq) ak I) dS fun g => sU 4 I fun A => sU 6 I fun B => sU 5 I fun E => tC I (Au (l := [.v e, .v g, .v a]) Cf (As I I (A7 A) I (As I I (A7 B) I (As I I (A7 E) I (Cv))))) I (sK [3] I I I (A3 3 0 0 [[.v e, .v g, .v a]] I (Ap (sI ?_)))))))
 exact lg ⟨(R, S, W), M, e, g, a, h, I2⟩ [0, 1, 2, 4, 6, 5, 3]
 refine sK [] I I I (Bp (sz := 2) I I I I I I I I I I ai aj (Cr (f := Aq) ak I) dS fun g => sW ?_ ?_)
 refine sK [] I I I (Bp (sz := 1) I I I I I I I I I I af ag (Cr (f := rB) ah I) dS fun e => sK [] I I I (Bp (sz := 1) (es' := List.replicate D [.N]) I I I I I I I I I I X Y I dS fun a => Cw (Ch (f := Ao) 6 D 3 Z I) I (sU 5 I fun A => sU 4 I fun B => sU 6 I fun E => tC I (Au (l := [.v e, .v g, .v a]) Cf (As I I (A7 A) I (As I I (A7 B) I (As I I (A7 E) I (Cv))))) I (sK [3] I I I (A3 3 0 0 [[.v e, .v g, .v a]] I (Ap (sI ?_)))))))
 exact lg ⟨(R, S, W), M, e, g, a, h, I2⟩ [0, 1, 2, 5, 4, 6, 3]
 refine sK [] I I I (Bp (sz := 1) (es' := List.replicate D [.N]) I I I I I I I I I I X Y I dS fun a => Cw (Ch (f := Ao) 5 D 3 Z I) I (sK [] I I I (Bp (sz := 1) I I I I I I I I I I af ag (Cr (f := rB) ah I) dS fun e => sU 6 I fun A => sU 4 I fun B => sU 5 I fun E => tC I (Au (l := [.v e, .v g, .v a]) Cf (As I I (A7 A) I (As I I (A7 B) I (As I I (A7 E) I (Cv))))) I (sK [3] I I I (A3 3 0 0 [[.v e, .v g, .v a]] I (Ap (sI ?_)))))))
 exact lg ⟨(R, S, W), M, e, g, a, h, I2⟩ [0, 1, 2, 6, 4, 5, 3]
 refine sK [] I I I (Bp (sz := 1) (es' := List.replicate D [.N]) I I I I I I I I I I X Y I dS fun a => Cw (Ch (f := Ao) 4 D 3 Z I) I (AP.any [⟨3, [], 77, .us 4 1 (R.map rB)⟩, ⟨7, [], 81, .us 129 2 (S.map Aq)⟩] I ⟨⟨_, I, I, I, fun _ => Bp (sz := 1) I I I I I I I I I I af ag (Cr (f := rB) ah I) dS fun v => ⟨_, I, ⟨v, I⟩, I⟩⟩, ⟨_, I, I, I, fun _ => Bp (sz := 2) I I I I I I I I I I ai aj (Cr (f := Aq) ak I) dS fun v => ⟨_, I, ⟨v, I⟩, I⟩⟩, J⟩ ?_))
 intro e A g B
 refine sU 5 I fun A => sU 6 I fun B => sU 4 I fun E => tC I (Au (l := [.v e, .v g, .v a]) Cf (As I I (A7 A) I (As I I (A7 B) I (As I I (A7 E) I (Cv))))) I (sK [3] I I I (A3 3 0 0 [[.v e, .v g, .v a]] I (Ap (sI ?_))))
 exact lg ⟨(R, S, W), M, e, g, a, h, I2⟩ [0, 1, 2, 5, 6, 4, 3]
 rintro s ob ⟨a7, O, n, t, u, h, rfl, rfl⟩
 refine Aa fun gw dm => ?_
 obtain ⟨Q, dn, h⟩ := Ac h
 refine sH (An 2 [.o 0 0, .o 1 1] I J2 (sJ [] I (Ci I I I (gS _ _ _ dn) dS ?_)))
 rintro _ _ ⟨U, rfl, rfl⟩
 refine Ag 5 I (sI ?_)
 subst dm
 refine Ai (fun s ob => ∃ (ad : (List Bool) × (List Bounds) × (List (List Level))), P0.J3 ad = some r ∧ s = [] ∧ ob = [O3 F [W0], U1 n ad.1, U2 t ad.2.1, .us u 127 1 (ad.2.2.map (rL 3 Ao)), O3 O [[.v n, .v t, .v u]]]) [(10, _), (16, _)] J2 ?_ ?_
 refine Aa fun gx dp => sH (Ag 1 I (sV (Cz 7 I I I I) I (Ag 1 I (sI ?_))))
 subst dp
 refine sM (Oi 7 I fun dq => ?_)
 obtain ⟨gy, dr, ds⟩ := Ac h
 clear h
 refine Gw dr [(1, _), (2, _), (3, _), (5, _), (9, _), (10, _), (16, _), (93, _), (94, _)] J9 (fun (bu : Nat) (i : (List Bool) × (List Bounds) × (List (List Level))) s ob => s = [(95, .V (bu : Int))] ∧ ob = [O0 G [Ab j], O1 H [Am w], O3 F [W0], U1 n i.1, U2 t i.2.1, .us u 127 1 (i.2.2.map (rL 3 Ao)), O3 O [[.v n, .v t, .v u]], U0 U Q.1]) ⟨I, I⟩ ⟨I, J⟩ ⟨[0, 1, 2, 3, 4, 5, 6, 7], I, by decide⟩ ?_ ?_
 rintro bu i a8 s ob cl ⟨rfl, rfl⟩ h
 unfold P0.B4 at h
 have dt := Cn cl
 refine Ah I (Aa fun gz du => Bs I dt (sL ?_))
 subst du
 refine Ai (fun s ob => ∃ (a9 : (List Bool) × (List Bounds) × (List (List Level))), P0.J5 a9 = some a8 ∧ s = [] ∧ ob = [O0 G [Ab j], O1 H [Am w], O3 F [W0], U1 n a9.1, U2 t a9.2.1, .us u 127 1 (a9.2.2.map (rL 3 Ao)), O3 O [[.v n, .v t, .v u]], U0 U Q.1]) [(1, _), (2, _), (3, _), (5, _), (9, _), (10, _), (16, _), (93, _), (94, _), (95, _)] iR ?_ ?_
 refine sM (Aa fun g0 dv => ?_)
 obtain ⟨al, ⟨dw, cm⟩, h⟩ := A5 h
 refine sH (sV (Bm 7 (m := al.1) I I I I I I I dw (Ae cm)) I (sV (Bl 7 al.1 0 I I I (Ae cm) I (y := .V al.2) I) I (Ag 1 I (sI ?_))))
 subst dv
 refine Ah I (Ai (fun s ob => ∃ (bv : List Bounds) (bf : Value), P0.J6 j au av ae w i al bv = some a8 ∧ s = [(21, .v bf)] ∧ ob = [O0 G [Ab j], O1 H [Am w], O3 F [W0], U1 n i.1, U2 t i.2.1, .us u 127 1 (i.2.2.map (rL 3 Ao)), O3 O [[.v n, .v t, .v u]], U0 U Q.1, U2 bf bv]) [(1, _), (2, _), (3, _), (5, _), (9, _), (10, _), (16, _), (20, _), (93, _), (94, _), (95, _)] qR ?_ ?_)
 refine Bh [.o 1 0, .l 2 (j.Ports.length : Int)] I ⟨Ay, I, J⟩ (sM (Bz 100 I fun dx => sP (Bv 129 2) ?_))
 obtain ⟨g1, dy, dz⟩ := Ac h
 clear h
 refine Ct dy [(1, _), (2, _), (3, _), (5, _), (9, _), (10, _), (16, _), (20, _), (93, _), (94, _), (95, _), (100, _), (101, _)] qQ (fun (bg : Nat) (a0 : List Bounds) s ob => ∃ (a1 : Value), s = [(102, .V (bg : Int)), (21, .v a1)] ∧ ob = [O0 G [Ab j], O1 H [Am w], O3 F [W0], U1 n i.1, U2 t i.2.1, .us u 127 1 (i.2.2.map (rL 3 Ao)), O3 O [[.v n, .v t, .v u]], U0 U Q.1, U2 a1 a0]) ⟨(.slice none 0 0), I2⟩ ⟨I, I, J⟩ ⟨[0, 1, 2, 3, 4, 5, 6, 7, 8], I, by decide⟩ ?_ ?_
 rintro bg ao a0 cn s ob d0 co ⟨a1, rfl, rfl⟩ h
 unfold P0.B19 at h
 have d1 := Cn co
 refine Ah I (Aa fun g2 d2 => Bs I d1 (sL ?_))
 subst d2
 refine Ai (fun s ob => ∃ (bw : List Bounds) (bh : Value), P0.J20 bw = some cn ∧ s = [(21, .v bh)] ∧ ob = [O0 G [Ab j], O1 H [Am w], O3 F [W0], U1 n i.1, U2 t i.2.1, .us u 127 1 (i.2.2.map (rL 3 Ao)), O3 O [[.v n, .v t, .v u]], U0 U Q.1, U2 bh bw]) [(1, _), (2, _), (3, _), (5, _), (9, _), (10, _), (16, _), (20, _), (93, _), (94, _), (95, _), (100, _), (101, _), (102, _)] pO ?_ ?_
 refine sM (Aa fun g3 d3 => sH (An 3 [.x 1 bg (Cb ao)] I ⟨⟨I, Ae d0⟩, J⟩ (sJ [] I (sS W6 3 fun d4 => Ag 1 I (sJ [9] I (A3 9 0 0 [Cb ao] I (sI ?_)))))))
 subst d3
 refine Ai (fun s ob => ∃ (bx : Bool), P0.J21 ao a0 bx = some cn ∧ s = [(118, .v (.bool bx))] ∧ ob = [O0 G [Ab j], O1 H [Am w], O3 F [W0], U1 n i.1, U2 t i.2.1, .us u 127 1 (i.2.2.map (rL 3 Ao)), O3 O [[.v n, .v t, .v u]], U0 U Q.1, U2 a1 a0, .arr d4 68 3 1 [Cb ao]]) [(1, _), (2, _), (3, _), (5, _), (9, _), (10, _), (16, _), (20, _), (21, _), (23, _), (93, _), (94, _), (95, _), (100, _), (101, _), (102, _)] ⟨I, I, I, I, I, I, I, I, I, I, I, I, I, I, I, I, J⟩ ?_ ?_
 refine sH (An 5 [.o 1 9] I J1 ?_)
 rcases bt ((ao.Node == al.2)) with ba | ba
 replace h := Bq ba h
 obtain ⟨bz, ⟨d5, d6⟩, h⟩ := A5 h
 refine Af 111 I ba (An 7 [.o 1 1, .x 3 bz.1 (rI bz.2)] I ⟨⟨d5, Ae d6⟩, I, J⟩ (sI ?_))
 exact lg ⟨decide (bz.2 > 0), h, I2⟩ [0, 1, 2, 3, 4, 5, 6, 7, 8, 9]
 replace h := Br ba h
 refine Af 111 I ba (Ag 7 I (sI ?_))
 exact lg ⟨false, h, I2⟩ [0, 1, 2, 3, 4, 5, 6, 7, 8, 9]
 rintro s ob ⟨bx, h, rfl, rfl⟩
 refine Ar h I ?_ ?_
 intro d7 h
 obtain ⟨d8, d9, h⟩ := Ac h
 refine sH (An 5 [.o 2 9, .o 4 9] I J2 (sT (Au (l := [.V ao.Pressure, .V ao.Pressure]) Do I) I (sJ [] I (sR 2 (([(⟨ao.Pressure, ao.Pressure⟩ : Bounds)] : List Bounds).map Aq) (sJ [8] I (C7 8 I d9 fun ea => Ag 1 I (sI ?_)))))))
 exact lg ⟨d8, ea, h, I2⟩ [0, 1, 2, 3, 4, 5, 6, 7, 8]
 intro d7 h
 refine sL ?_
 exact lg ⟨a0, a1, h, I2⟩ [0, 1, 2, 3, 4, 5, 6, 7, 8]
 rintro s ob ⟨bw, bh, h, rfl, rfl⟩
 refine sH (An 2 [.k 0 (bg + 1 : Nat)] I ⟨A0 co dx, J⟩ ?_)
 obtain rfl := oi h
 exact sI (lg ⟨bh, I2⟩ [0, 1, 2, 3, 4, 5, 6, 7, 8])
 rintro a0 s ob ⟨a1, rfl, rfl⟩ he
 subst he
 have h := dz
 have eb := Co j.Ports.length
 refine Ah I (Aa fun g4 g5 => Bu I eb (sQ ?_))
 exact lg ⟨a0, a1, h, I2⟩ [0, 1, 2, 3, 4, 5, 6, 7, 8]
 rintro s ob ⟨bv, bf, h, rfl, rfl⟩
 unfold P0.J6 at h
 refine Ai (fun s ob => ∃ (bb : List Bounds) (bi : Value), P0.J7 j au av ae w i al bb = some a8 ∧ s = [(21, .v bi)] ∧ ob = [O0 G [Ab j], O1 H [Am w], O3 F [W0], U1 n i.1, U2 t i.2.1, .us u 127 1 (i.2.2.map (rL 3 Ao)), O3 O [[.v n, .v t, .v u]], U0 U Q.1, U2 bi bb]) [(1, _), (2, _), (3, _), (5, _), (9, _), (10, _), (16, _), (20, _), (93, _), (94, _), (95, _)] qR ?_ ?_
 refine Bh [.o 1 0, .l 2 (j.Segments.length : Int)] I ⟨Ay, I, J⟩ (sM (Bz 129 I fun ec => ?_))
 obtain ⟨g6, ed, ee⟩ := Ac h
 clear h
 refine Ct ed [(1, _), (2, _), (3, _), (5, _), (9, _), (10, _), (16, _), (20, _), (93, _), (94, _), (95, _), (129, _), (130, _)] qQ (fun (bj : Nat) (aw : List Bounds) s ob => ∃ (ax : Value), s = [(131, .V (bj : Int)), (21, .v ax)] ∧ ob = [O0 G [Ab j], O1 H [Am w], O3 F [W0], U1 n i.1, U2 t i.2.1, .us u 127 1 (i.2.2.map (rL 3 Ao)), O3 O [[.v n, .v t, .v u]], U0 U Q.1, U2 ax aw]) ⟨bf, I2⟩ ⟨I, I, J⟩ ⟨[0, 1, 2, 3, 4, 5, 6, 7, 8], I, by decide⟩ ?_ ?_
 rintro bj b0 aw cp s ob ef cq ⟨ax, rfl, rfl⟩ h
 unfold P0.B16 at h
 have eg := Cn cq
 refine Ah I (Aa fun g7 eh => Bs I eg (sL ?_))
 subst eh
 refine Ai (fun s ob => ∃ (b1 : List Bounds) (bk : Value), P0.J17 b1 = some cp ∧ s = [(21, .v bk)] ∧ ob = [O0 G [Ab j], O1 H [Am w], O3 F [W0], U1 n i.1, U2 t i.2.1, .us u 127 1 (i.2.2.map (rL 3 Ao)), O3 O [[.v n, .v t, .v u]], U0 U Q.1, U2 bk b1]) [(1, _), (2, _), (3, _), (5, _), (9, _), (10, _), (16, _), (20, _), (93, _), (94, _), (95, _), (129, _), (130, _), (131, _)] pO ?_ ?_
 refine sM (Aa fun g8 ei => sH (An 3 [.x 1 bj (Ak b0)] I ⟨⟨I, Ae ef⟩, J⟩ (sJ [] I (sS W2 7 fun g9 => Ag 1 I (sJ [9] I (A3 9 0 0 [Ak b0] I (sI ?_)))))))
 subst ei
 refine Aa fun ha ej => sN ?_
 obtain ⟨a2, ⟨b5, b6⟩, h⟩ := A5 h
 refine Ey [.o 1 1, .x 3 a2.1 (rI a2.2)] I ⟨⟨b5, Ae b6⟩, I, J⟩ (Ar h I ?_ ?_)
 intro ek h
 refine sQ ?_
 exact lg ⟨aw, ax, h, I2⟩ [0, 1, 2, 3, 4, 5, 6, 7, 8]
 intro ek h
 refine sL ?_
 subst ej
 refine Aa fun hb el => By (pd 12 0 [6]) [9, 1] [_, _] I (B8 6 [.o 0 0, .o 2 1, .x 4 a2.1 (rI a2.2)] I ⟨⟨b5, Ae b6⟩, I, I, J⟩ (Dp I (Hq b0 a2.2 _ I) (Bg 5 I (Ap (sI ?_)))))
 subst el
 refine Ah I (Ar h I ?_ ?_)
 intro em h
 refine Aa fun hc en => ?_
 obtain ⟨bl, ⟨eo, cr⟩, h⟩ := A5 h
 refine sH (An 3 [.o 1 6] I J1 (sV (Bm 5 (m := bl.1) I I I I I I I eo (Ae cr)) I (sV (Bl 5 bl.1 0 I I I (Ae cr) I (y := Q9 bl.2) I) I (Ag 1 I (sI ?_)))))
 subst en
 refine Aa fun hd ep => ?_
 obtain ⟨a4, ⟨eq, er⟩, h⟩ := A5 h
 refine sH (An 6 [.l 2 (bl.2.length : Int), .x 4 a4.1 (Ao a4.2)] I ⟨⟨eq, Ae er⟩, Ay, J⟩ (sJ [] I (sS W1 3 fun es => sJ [10] I (A3 10 0 0 [Ao a4.2] I (sI ?_)))))
 subst ep
 refine Ai (fun s ob => ∃ (aq : Int × Int × Int), P0.J18 aw aq = some cp ∧ s = [] ∧ ob = [O0 G [Ab j], O1 H [Am w], O3 F [W0], U1 n i.1, U2 t i.2.1, .us u 127 1 (i.2.2.map (rL 3 Ao)), O3 O [[.v n, .v t, .v u]], U0 U Q.1, U2 ax aw, .arr es 131 3 1 [[.V aq.1, .V aq.2.1, .V aq.2.2]]]) [(1, _), (2, _), (3, _), (5, _), (9, _), (10, _), (16, _), (20, _), (21, _), (29, _), (93, _), (94, _), (95, _), (129, _), (130, _), (131, _)] ⟨I, I, I, I, I, I, I, I, I, I, I, I, I, I, I, I, J⟩ ?_ ?_
 refine Bh [.o 1 1, .x 3 a2.1 (rI a2.2)] I ⟨⟨b5, Ae b6⟩, I, J⟩ (Ar h I ?_ ?_)
 intro et h
 obtain ⟨a5, ⟨eu, ev⟩, h⟩ := A5 h
 refine sH (An 3 [.x 1 a5.1 (Ao a5.2)] I ⟨⟨eu, Ae ev⟩, J⟩ (sJ [10] I (A3 10 0 0 [Ao a5.2] I (sI ?_))))
 exact lg ⟨(a5.2.At, a5.2.Bounds.Low, a5.2.Bounds.High), h, I2⟩ [0, 1, 2, 3, 4, 5, 6, 7, 8, 10]
 intro et h
 refine sL ?_
 exact lg ⟨(a4.2.At, a4.2.Bounds.Low, a4.2.Bounds.High), h, I2⟩ [0, 1, 2, 3, 4, 5, 6, 7, 8, 10]
 rintro s ob ⟨aq, h, rfl, rfl⟩
 obtain ⟨ew, ex, h⟩ := Ac h
 refine sH (Ag 2 I (sV (C2 9 0 1 I I I I I (y := .agg [.V aq.2.1, .V aq.2.2]) I) I (sJ [] I (sR 2 (([(⟨aq.2.1, aq.2.2⟩ : Bounds)] : List Bounds).map Aq) (sJ [8] I (C7 8 I ex fun ey => Ag 1 I (sI ?_)))))))
 exact lg ⟨ew, ey, h, I2⟩ [0, 1, 2, 3, 4, 5, 6, 7, 8]
 intro em h
 refine sL ?_
 exact lg ⟨aw, ax, h, I2⟩ [0, 1, 2, 3, 4, 5, 6, 7, 8]
 rintro s ob ⟨b1, bk, h, rfl, rfl⟩
 refine sH (An 2 [.k 0 (bj + 1 : Nat)] I ⟨A0 cq ec, J⟩ ?_)
 obtain rfl := oi h
 exact sI (lg ⟨bk, I2⟩ [0, 1, 2, 3, 4, 5, 6, 7, 8])
 rintro aw s ob ⟨ax, rfl, rfl⟩ he
 subst he
 have h := ee
 have ez := Co j.Segments.length
 refine Ah I (Aa fun hf hg => Bu I ez (sQ ?_))
 exact lg ⟨aw, ax, h, I2⟩ [0, 1, 2, 3, 4, 5, 6, 7, 8]
 rintro s ob ⟨bb, bi, h, rfl, rfl⟩
 refine Aa fun hh e0 => sN (sH (Ag 1 I (sV (Cz 8 I I I I) I (Ag 1 I (sI (Ar h I ?_ ?_))))))
 intro e1 h
 refine sQ ?_
 exact lg ⟨(i.1, i.2.1, i.2.2), h, I2⟩ [0, 1, 2, 3, 4, 5, 6, 7]
 intro e1 h
 refine sL ?_
 subst e0
 refine Aa fun hi e2 => ?_
 obtain ⟨bm, ⟨e3, ct⟩, h⟩ := A5 h
 refine sH (Ag 1 I (sV (Bm 8 (m := bm.1) I I I I I I I e3 (Ae ct)) I (sV (Bl 8 bm.1 0 I I I (Ae ct) I (y := .agg (Aq bm.2)) I) I (sJ [] I (sS [.V 0, .V 0] 2 fun ar => sJ [9] I (A3 9 0 0 [Aq bm.2] I (sI ?_)))))))
 subst e2
 refine Ai (fun s ob => ∃ (P : Int × Int), P0.J8 j au av ae w i al P = some a8 ∧ s = [] ∧ ob = [O0 G [Ab j], O1 H [Am w], O3 F [W0], U1 n i.1, U2 t i.2.1, .us u 127 1 (i.2.2.map (rL 3 Ao)), O3 O [[.v n, .v t, .v u]], U0 U Q.1, O8 ar [[.V P.1, .V P.2]]]) [(1, _), (2, _), (3, _), (5, _), (9, _), (10, _), (16, _), (20, _), (30, _), (93, _), (94, _), (95, _)] qT ?_ ?_
 refine Aa fun hj e4 => sH (Ag 1 I (sV (Cz 8 I I I I) I (Ag 1 I (sI ?_))))
 subst e4
 refine sM (Oi 8 I fun e5 => ?_)
 obtain ⟨hk, e6, e7⟩ := Ac h
 clear h
 refine Gw e6 [(1, _), (2, _), (3, _), (5, _), (9, _), (10, _), (16, _), (20, _), (30, _), (93, _), (94, _), (95, _), (187, _), (188, _)] pO (fun (b7 : Nat) (am : Int × Int) s ob => s = [(189, .V (b7 : Int))] ∧ ob = [O0 G [Ab j], O1 H [Am w], O3 F [W0], U1 n i.1, U2 t i.2.1, .us u 127 1 (i.2.2.map (rL 3 Ao)), O3 O [[.v n, .v t, .v u]], U0 U Q.1, U2 bi bb, O8 ar [[.V am.1, .V am.2]]]) ⟨I, I⟩ ⟨I, J⟩ ⟨[0, 1, 2, 3, 4, 5, 6, 7, 8, 9], I, by decide⟩ ?_ ?_
 rintro b7 am hl s ob cu ⟨rfl, rfl⟩ h
 have e8 := Cn cu
 refine Ah I (Aa fun hm e9 => Bs I e8 (sL ?_))
 subst e9
 refine sN (sM (Aa fun hn fa => ?_))
 obtain ⟨ay, ⟨fb, cv⟩, h⟩ := A5 h
 refine sH (sV (Bm 8 (m := ay.1) I I I I I I I fb (Ae cv)) I (sV (Bl 8 ay.1 0 I I I (Ae cv) I (y := .agg (Aq ay.2)) I) I (sJ [] I (sS [.V 0, .V 0] 2 fun ho => sJ [10] I (A3 10 0 0 [Aq ay.2] I (sI ?_))))))
 subst fa
 refine sH (An 10 [.o 1 9, .o 3 10, .o 6 9, .o 8 10] I J4 (sT (Au (l := [.V (min am.1 ay.2.Low), .V (min am.2 ay.2.High)]) Do I) I (sJ [9] I (A3 9 0 0 [[.V (min am.1 ay.2.Low), .V (min am.2 ay.2.High)]] I (sI (sH (An 2 [.k 0 (b7 + 1 : Nat)] I ⟨A0 cu e5, J⟩ ?_)))))))
 obtain rfl := oi h
 exact sI (lg I2 [0, 1, 2, 3, 4, 5, 6, 7, 8, 9])
 rintro am s ob ⟨rfl, rfl⟩ he
 subst he
 have h := e7
 have fc := Co bb.length
 refine Ah I (Aa fun hp hq => Bu I fc (sQ ?_))
 exact lg ⟨(am.1, am.2), h, I2⟩ [0, 1, 2, 3, 4, 5, 6, 7, 9]
 rintro s ob ⟨P, h, rfl, rfl⟩
 refine Aa fun hr fd => ?_
 obtain ⟨ab, ⟨fe, b8⟩, h⟩ := A5 h
 obtain ⟨ac, ⟨ff, b9⟩, h⟩ := A5 h
 refine C5 3 ab.1 I b8 fun fg => C5 4 ac.1 I b9 fun fh => By (pd 11 0 [8, 10]) [6, 8] [_, _] I (B8 7 [.o 1 0, .o 4 0, .o 6 1] I J3 (sY I (B0 (m := ab.1) I I I I I fg I fe b8) I (sK [3] I I I (Cg 3 ab.1 0 I I I (Ae b8) I I I I (Ca I) I (Df (x := true) I) (sY I (B0 (m := ac.1) I I I I I fh I ff b9) I (sK [4] I I I (Cg 4 ac.1 0 I I I (Ae b9) I I I I (Ca I) I (Df (x := (⟨P.1, P.2⟩ : Bounds)) I) (Ap (sI ?_)))))))))
 subst fd
 refine Ai (fun s ob => ∃ (an : Int × Int), P0.J9 j au av ae w i al P ab ac an = some a8 ∧ s = [] ∧ ob = [O0 G [Ab j], O1 H [Am w], O3 F [W0], .us n 4 1 ((i.1.set ab.1 true).map rB), .us t 129 2 ((i.2.1.set ac.1 (⟨P.1, P.2⟩ : Bounds)).map Aq), .us u 127 1 (i.2.2.map (rL 3 Ao)), O3 O [[.v n, .v t, .v u]], U0 U Q.1, O8 ar [[.V an.1, .V an.2]]]) [(1, _), (2, _), (3, _), (5, _), (9, _), (10, _), (16, _), (20, _), (30, _), (93, _), (94, _), (95, _)] qT ?_ ?_
 refine Bh [.o 1 0, .l 2 (j.Stations.length : Int)] I ⟨Ay, I, J⟩ (sM (Bz 215 I fun fi => ?_))
 obtain ⟨hs, fj, fk⟩ := Ac h
 clear h
 refine Ct fj [(1, _), (2, _), (3, _), (5, _), (9, _), (10, _), (16, _), (20, _), (30, _), (93, _), (94, _), (95, _), (215, _), (216, _)] pO (fun (bn : Nat) (aa : Int × Int) s ob => s = [(217, .V (bn : Int))] ∧ ob = [O0 G [Ab j], O1 H [Am w], O3 F [W0], .us n 4 1 ((i.1.set ab.1 true).map rB), .us t 129 2 ((i.2.1.set ac.1 (⟨P.1, P.2⟩ : Bounds)).map Aq), .us u 127 1 (i.2.2.map (rL 3 Ao)), O3 O [[.v n, .v t, .v u]], U0 U Q.1, O8 ar [[.V aa.1, .V aa.2]]]) ⟨I, I⟩ ⟨I, J⟩ ⟨[0, 1, 2, 3, 4, 5, 6, 7, 8], I, by decide⟩ ?_ ?_
 rintro bn bc aa cw s ob fl cx ⟨rfl, rfl⟩ h
 unfold P0.B12 at h
 have fm := Cn cx
 refine Ah I (Aa fun ht fo => Bs I fm (sL ?_))
 subst fo
 refine Ai (fun s ob => ∃ (bo : Int × Int), P0.J13 bo = some cw ∧ s = [] ∧ ob = [O0 G [Ab j], O1 H [Am w], O3 F [W0], .us n 4 1 ((i.1.set ab.1 true).map rB), .us t 129 2 ((i.2.1.set ac.1 (⟨P.1, P.2⟩ : Bounds)).map Aq), .us u 127 1 (i.2.2.map (rL 3 Ao)), O3 O [[.v n, .v t, .v u]], U0 U Q.1, O8 ar [[.V bo.1, .V bo.2]]]) [(1, _), (2, _), (3, _), (5, _), (9, _), (10, _), (16, _), (20, _), (30, _), (93, _), (94, _), (95, _), (215, _), (216, _), (217, _)] rU ?_ ?_
 refine sM (Aa fun hu fp => sH (An 3 [.x 1 bn (Ba bc)] I ⟨⟨I, Ae fl⟩, J⟩ (sJ [] I (sS W5 5 fun fq => Ag 1 I (sJ [9] I (A3 9 0 0 [Ba bc] I (sI ?_)))))))
 subst fp
 refine Ai (fun s ob => ∃ (ca : Bool), P0.J14 j w al bc aa ca = some cw ∧ s = [(232, .v (.bool ca))] ∧ ob = [O0 G [Ab j], O1 H [Am w], O3 F [W0], .us n 4 1 ((i.1.set ab.1 true).map rB), .us t 129 2 ((i.2.1.set ac.1 (⟨P.1, P.2⟩ : Bounds)).map Aq), .us u 127 1 (i.2.2.map (rL 3 Ao)), O3 O [[.v n, .v t, .v u]], U0 U Q.1, O8 ar [[.V aa.1, .V aa.2]], .arr fq 70 5 1 [Ba bc]]) [(1, _), (2, _), (3, _), (5, _), (9, _), (10, _), (16, _), (20, _), (30, _), (34, _), (93, _), (94, _), (95, _), (215, _), (216, _), (217, _)] ⟨I, I, I, I, I, I, I, I, I, I, I, I, I, I, I, I, J⟩ ?_ ?_
 refine sH (An 5 [.o 1 9] I J1 ?_)
 rcases bt ((bc.Node == al.2)) with bd | bd
 replace h := Bq bd h
 obtain ⟨cb, ⟨fr, fs⟩, h⟩ := A5 h
 refine Af 226 I bd (An 6 [.o 1 1, .x 3 cb.1 (rB cb.2)] I ⟨⟨fr, Ae fs⟩, I, J⟩ (sI ?_))
 exact lg ⟨cb.2, h, I2⟩ [0, 1, 2, 3, 4, 5, 6, 7, 8, 9]
 replace h := Br bd h
 refine Af 226 I bd (Ag 6 I (sI ?_))
 exact lg ⟨false, h, I2⟩ [0, 1, 2, 3, 4, 5, 6, 7, 8, 9]
 rintro s ob ⟨ca, h, rfl, rfl⟩
 refine Ar h I ?_ ?_
 intro ft h
 obtain ⟨hv, cy, h⟩ := Ac h
 obtain ⟨a6, cz, h⟩ := Ac h
 refine By (.still 0 (sl 3 2 (.two 1 5 (.act 5 (.act 6 (sl 3 7 (.act 10 .nil)))) (.act 1 (.act 6 (sl 3 7 (.act 10 .nil))))))) [9, 0, 1] [_, _, _] I (B8 4 [.o 0 0, .o 1 1, .o 2 2] I J3 (sW ?_ ?_))
 refine sK [] I I I (Ce (C2 8 0 0 I I I I I (y := .agg [.V aa.1, .V aa.2]) I) dS (Dp I (Tm _ _ _ _ cy) (Dp I (Tz _ _ _ _ cz) (Bg 3 I (sK [8] I I I (A3 8 0 0 [Aq a6.1] I (Ap (sI ?_))))))))
 exact lg ⟨(a6.1.Low, a6.1.High), h, I2⟩ [0, 1, 2, 3, 4, 5, 6, 7, 8]
 refine Dp I (Tm _ _ _ _ cy) (sK [] I I I (Ce (C2 8 0 0 I I I I I (y := .agg [.V aa.1, .V aa.2]) I) dS (Dp I (Tz _ _ _ _ cz) (Bg 3 I (sK [8] I I I (A3 8 0 0 [Aq a6.1] I (Ap (sI ?_))))))))
 exact lg ⟨(a6.1.Low, a6.1.High), h, I2⟩ [0, 1, 2, 3, 4, 5, 6, 7, 8]
 intro ft h
 refine sL ?_
 exact lg ⟨(aa.1, aa.2), h, I2⟩ [0, 1, 2, 3, 4, 5, 6, 7, 8]
 rintro s ob ⟨bo, h, rfl, rfl⟩
 refine sH (An 2 [.k 0 (bn + 1 : Nat)] I ⟨A0 cx fi, J⟩ ?_)
 obtain rfl := oi h
 exact sI (lg I2 [0, 1, 2, 3, 4, 5, 6, 7, 8])
 rintro aa s ob ⟨rfl, rfl⟩ he
 subst he
 have h := fk
 have fu := Co j.Stations.length
 refine Ah I (Aa fun hw hx => Bu I fu (sQ ?_))
 exact lg ⟨(aa.1, aa.2), h, I2⟩ [0, 1, 2, 3, 4, 5, 6, 7, 8]
 rintro s ob ⟨an, h, rfl, rfl⟩
 refine Bh [.o 1 0, .l 2 (j.Segments.length : Int)] I ⟨Ay, I, J⟩ (sM (Bz 245 I fun fv => ?_))
 obtain ⟨hy, fw, fx⟩ := Ac h
 clear h
 refine Ct fw [(1, _), (2, _), (3, _), (5, _), (9, _), (10, _), (16, _), (20, _), (30, _), (93, _), (94, _), (95, _), (245, _), (246, _)] pO (fun (bp : Nat) (az : List (List Level)) s ob => s = [(247, .V (bp : Int))] ∧ ob = [O0 G [Ab j], O1 H [Am w], O3 F [W0], .us n 4 1 ((i.1.set ab.1 true).map rB), .us t 129 2 ((i.2.1.set ac.1 (⟨P.1, P.2⟩ : Bounds)).map Aq), .us u 127 1 (az.map (rL 3 Ao)), O3 O [[.v n, .v t, .v u]], U0 U Q.1, O8 ar [[.V an.1, .V an.2]]]) ⟨I, I⟩ ⟨I, J⟩ ⟨[0, 1, 2, 3, 4, 5, 6, 7, 8], I, by decide⟩ ?_ ?_
 rintro bp bq az fy s ob fz c0 ⟨rfl, rfl⟩ h
 unfold P0.B10 at h
 have f0 := Cn c0
 refine Ah I (Aa fun hz f1 => Bs I f0 (sL ?_))
 subst f1
 refine Ai (fun s ob => ∃ (cc : List (List Level)), P0.J11 cc = some fy ∧ s = [] ∧ ob = [O0 G [Ab j], O1 H [Am w], O3 F [W0], .us n 4 1 ((i.1.set ab.1 true).map rB), .us t 129 2 ((i.2.1.set ac.1 (⟨P.1, P.2⟩ : Bounds)).map Aq), .us u 127 1 (cc.map (rL 3 Ao)), O3 O [[.v n, .v t, .v u]], U0 U Q.1, O8 ar [[.V an.1, .V an.2]]]) [(1, _), (2, _), (3, _), (5, _), (9, _), (10, _), (16, _), (20, _), (30, _), (93, _), (94, _), (95, _), (245, _), (246, _), (247, _)] rU ?_ ?_
 refine sM (Aa fun h0 f2 => sH (An 3 [.x 1 bp (Ak bq)] I ⟨⟨I, Ae fz⟩, J⟩ (sJ [] I (sS W2 7 fun f3 => Ag 1 I (sJ [9] I (A3 9 0 0 [Ak bq] I (sI ?_)))))))
 subst f2
 refine Aa fun h1 f4 => sN ?_
 obtain ⟨a3, ⟨cd, ce⟩, h⟩ := A5 h
 refine Ey [.o 1 1, .x 3 a3.1 (rI a3.2)] I ⟨⟨cd, Ae ce⟩, I, J⟩ (Ar h I ?_ ?_)
 intro f5 h
 refine sQ ?_
 exact lg ⟨az, h, I2⟩ [0, 1, 2, 3, 4, 5, 6, 7, 8]
 intro f5 h
 refine sL ?_
 subst f4
 refine Aa fun h2 f6 => By (pd 12 0 [6]) [9, 1] [_, _] I (B8 6 [.o 0 0, .o 2 1, .x 4 a3.1 (rI a3.2)] I ⟨⟨cd, Ae ce⟩, I, I, J⟩ (Dp I (Hq bq a3.2 _ I) (Bg 5 I (Ap (sI ?_)))))
 subst f6
 refine Ah I (Ar h I ?_ ?_)
 intro f7 h
 obtain ⟨c1, ⟨f8, f9⟩, h⟩ := A5 h
 obtain ⟨br, ga, h⟩ := Ac h
 obtain ⟨bs, ⟨gb, cf⟩, h⟩ := A5 h
 refine C5 5 bs.1 I cf fun gc => By (pd 22 0 [16, 21]) [6, 9, 1, 8] [_, _, _, _] I (B8 16 [.o 1 0, .o 3 1, .x 6 c1.1 ((rL 2 A9) c1.2), .o 11 2, .x 13 a3.1 (rI a3.2), .o 15 3] I ⟨I, ⟨cd, Ae ce⟩, I, ⟨f8, Ae f9⟩, I, I, J⟩ (sK [] I I I (Ci I I I (eD _ _ _ _ _ _ _ ga) dS ?_)))
 rintro _ _ ⟨gd, rfl, rfl⟩
 refine Bg 3 I (sY I (B0 (m := bs.1) I I I I I gc I gb cf) I (Cw (Bk [10] (K := [U4 gd br.1]) I [(289, Q9 br.1)] ⟨⟨_, I, .us 0 I⟩, J⟩ (ob' := [O0 G [Ab j], O1 H [Am w], O3 F [W0], .us n 4 1 ((i.1.set ab.1 true).map rB), .us t 129 2 ((i.2.1.set ac.1 (⟨P.1, P.2⟩ : Bounds)).map Aq), .us u 127 1 (az.map (rL 3 Ao)), O3 O [[.v n, .v t, .v u]], U0 U Q.1, O8 ar [[.V an.1, .V an.2]], O5 f3 [Ak bq]]) (.rest _)) I (sK [5] I I I (Cg 5 bs.1 0 I I I (Ae cf) I I I I (Ca I) I (Df (x := br.1) I) (Ap (sI ?_))))))
 exact lg ⟨(az.set bs.1 br.1), h, I2⟩ [0, 1, 2, 3, 4, 5, 6, 7, 8]
 intro f7 h
 refine sL ?_
 exact lg ⟨az, h, I2⟩ [0, 1, 2, 3, 4, 5, 6, 7, 8]
 rintro s ob ⟨cc, h, rfl, rfl⟩
 refine sH (An 2 [.k 0 (bp + 1 : Nat)] I ⟨A0 c0 fv, J⟩ ?_)
 obtain rfl := oi h
 exact sI (lg I2 [0, 1, 2, 3, 4, 5, 6, 7, 8])
 rintro az s ob ⟨rfl, rfl⟩ he
 subst he
 have h := fx
 have ge := Co j.Segments.length
 refine Ah I (Aa fun h3 h4 => Bu I ge (sQ ?_))
 exact lg ⟨((i.1.set ab.1 true), (i.2.1.set ac.1 (⟨P.1, P.2⟩ : Bounds)), az), h, I2⟩ [0, 1, 2, 3, 4, 5, 6, 7]
 rintro s ob ⟨a9, h, rfl, rfl⟩
 refine sH (An 2 [.k 0 (bu + 1 : Nat)] I ⟨A0 cl dq, J⟩ ?_)
 obtain rfl := oi h
 exact sI (lg I2 [0, 1, 2, 3, 4, 5, 6, 7])
 rintro i s ob ⟨rfl, rfl⟩ he
 subst he
 have h := ds
 have gf := Co Q.1.length
 refine Ah I (Aa fun h5 h6 => Bu I gf (sQ ?_))
 exact lg ⟨(i.1, i.2.1, i.2.2), h, I2⟩ [2, 3, 4, 5, 6]
 rintro s ob ⟨ad, h, rfl, rfl⟩
 refine sN (sH (An 1 [.o 0 4] I J1 (sJ [0] I (A3 0 0 0 [[.v n, .v t, .v u]] I (Ag 1 I (sI (sP (Bk [1, 2, 3] (K := [U1 n ad.1, U2 t ad.2.1, .us u 127 1 (ad.2.2.map (rL 3 Ao))]) I [] J (ob' := [O3 F [[Q5 ad.1, rR ad.2.1, .list 1 (ad.2.2.map (rL 3 Ao))]], O3 O [[.v n, .v t, .v u]]]) (.cons (.arr (.cons (.us 0 I) (.cons (.us 1 I) (.cons (.us 2 I) (.rest _))))) (.rest _))) (Cu [0] I ?_))))))))
 obtain rfl := oi h
 exact sO ⟨.inr I, [_, _], [], ⟨⟨0, _, _, _, _, _, _, _, I5⟩, I, J⟩, Cm, I2⟩
end Go.Proofs.YtodeekicjiengaaGreatDoor
