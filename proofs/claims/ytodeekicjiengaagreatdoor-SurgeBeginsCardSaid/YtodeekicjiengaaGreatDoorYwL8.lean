/- Walks that show what functions of the program compute; printed by a program of ours. No condition. -/
import Derived.Test.YtodeekicjiengaaGreatDoorYwL3
import Derived.Test.YtodeekicjiengaaGreatDoorYwL4
import Derived.Test.YtodeekicjiengaaGreatDoorYwL7
import Derived.Test.YtodeekicjiengaaGreatDoorYwD
set_option maxRecDepth 100000
namespace Go.Proofs.YtodeekicjiengaaGreatDoor
open Go.Aw
set_option linter.unusedVariables false
set_option linter.unusedSimpArgs false
set_option maxHeartbeats 4000000
theorem gP (b : Nat) (i : KS) (d : Nw) (r : (List Change) × KS) (h : Qb i d = some r) : ACalls Aj 11 [.v (.pointer (some ⟨b, 0, none⟩)), .agg (Ab d)] [O2 b [Cq i]] (Ea 1 fun x os new => x = Q8 r.1 ∧ os = [O2 b [Cq r.2]] ∧ new = []) := by
 refine Ae Tryz.func11 I I I fun C hC => ?_
 unfold Qb at h
 refine Aa fun M j => tV (tX [] I (Bo (Ab d) 6 fun k => Af 1 I (tW ?_)))
 subst j
 refine Ah I (Ah I (Ai (fun s ob => ∃ (a : Li × Int × (List Change)) (e : Value), Qb.J1 a = some r ∧ s = [(5, .v e)] ∧ ob = [O2 b [[Q0 a.1, .V a.2.1]], .us e 50 4 (a.2.2.map C1)]) [] J ?_ ?_))
 refine Aa fun N n => ?_
 obtain ⟨O, t, h⟩ := Ac h
 refine tV (Af 1 I (tX [0] I (A1 [0] (D3 b _ _ _ _ t) ?_)))
 refine Af 1 I (tW ?_)
 subst n
 refine uA (uD (Bs 50 4) ?_)
 obtain ⟨P, u, w⟩ := Ac h
 refine Cs u [(0, _), (3, _)] J2 (fun (c : Li × Int × (List Change) × Int × Int) s ob => ∃ (f : Value), s = [(5, .v f), (6, .V c.2.2.2.1), (7, .V c.2.2.2.2)] ∧ ob = [O2 b [[Q0 c.1, .V c.2.1]], O0 k [Ab d], .us f 50 4 (c.2.2.1.map C1)]) ⟨(.slice none 0 0), I2⟩ ⟨I, I, I, J⟩ ⟨[0, 1, 2], I, by decide⟩ ?_
 rintro c Q s ob ⟨f, rfl, rfl⟩ h y
 refine Aa fun R A => Ah I (Ar h I ?_ ?_)
 intro B h
 refine tZ ?_
 subst A
 refine uB (uA (uB ?_))
 obtain ⟨g, D, h⟩ := Ac h
 obtain ⟨S, E, h⟩ := Ac h
 refine tV (An 4 [.o 3 1] I J1 (tX [0] I (A1 [0] (iI b _ _ _ D) ?_)))
 refine uH (Au (l := [.V c.2.2.2.1, Q0 g.1.Rates, Q0 g.1.Ports, Q9 g.1.Pumps]) aU I) I (tX [] I (uG 4 (([(⟨c.2.2.2.1, g.1⟩ : Change)] : List Change).map C1) (tX [2] I (C9 2 I E fun F => Af 1 I (tW ?_)))))
 obtain ⟨U, G, h⟩ := Ac h
 obtain ⟨W, H, h⟩ := Ac h
 refine tV (Af 3 I (tX [] I (uG 1 (([1, 6, 200] : Li).map rI) (tX [0] I (A1 [0] (Al b _ _ _ G) ?_)))))
 refine tX [0] I (A1 [0] (D3 b _ _ _ _ H) ?_)
 refine Af 2 I (tW (tV (Af 3 I ?_)))
 cases io h
 exact tW ⟨_, _, _, I, ⟨F, I2⟩, J5, [0, 1, 2], I, by decide⟩
 intro B h
 obtain rfl := y _ (oi h).symm
 have h := w
 exact uE (lg ⟨(c.1, c.2.1, c.2.2.1), f, h, I2⟩ [0, 2])
 rintro s ob ⟨a, e, h, rfl, rfl⟩
 refine Ah I (uD (Bi [1] (K := [.us e 50 4 (a.2.2.map C1)]) I [(4, Q8 a.2.2)] ⟨⟨_, I, .us 0 I⟩, J⟩ (ob' := [O2 b [[Q0 a.1, .V a.2.1]]]) (.rest _)) ?_)
 obtain rfl := oi h
 exact uC ⟨.inr I, [_], [O2 b [[Q0 a.1, .V a.2.1]]], J1, Cz I (Cm), ⟨[O2 b [[Q0 a.1, .V a.2.1]]], [], I5⟩⟩
theorem gR (a3 : Li) (W : Int) (F : Int) (r : Bool) (h : Vw a3 W F = some r) : ACalls Aj 3 [Q0 a3, .v (.int .u8 W), .v (.int .u8 F)] [] (RB r) := by
 refine Ae Tryz.func3 I I I fun C hC => ?_
 refine Ah I (D5 (s' := [(0, Q0 a3), (1, .v (.int .u8 W)), (2, .v (.int .u8 F))]) (ob' := []) ⟨J3, [], I, by decide⟩ (Aa fun y2 bc => ?_))
 obtain ⟨r3, be, h⟩ := Ac h
 refine tV (Af 1 I (tX [] I (Ck I I I (iK _ _ be) dS ?_)))
 rintro _ _ ⟨H, rfl, rfl⟩
 refine Af 1 I (tW ?_)
 subst bc
 refine D5 (s' := [(1, .v (.int .u8 W)), (2, .v (.int .u8 F)), (7, .v (.pointer (some ⟨H, 0, none⟩)))]) (ob' := [O2 H [Cq r3]]) ⟨J3, [0], I, by decide⟩ (Aa fun y6 bf => ?_)
 obtain ⟨a, bg, h⟩ := Ac h
 obtain ⟨D, bh, h⟩ := Ac h
 refine tV (Af 1 I (tX [0] I (A1 [0] (iX H _ _ bg) ?_)))
 refine Af 1 I (tX [0] I (Im [0] (iV H _ _ bh) ?_))
 rintro _ _ _ - ⟨i, rfl, rfl, rfl⟩
 refine tX [] I (uF W3 6 fun j => tX [2] I (A3 2 0 0 [Ab a.1] I (Af 1 I (tW ?_))))
 subst bf
 refine D5 (s' := [(1, .v (.int .u8 W)), (2, .v (.int .u8 F)), (7, .v (.pointer (some ⟨H, 0, none⟩))), (8, .v (.pointer (some ⟨j, 0, none⟩))), (9, .v i)]) (ob' := [O2 H [Cq D.2], U4 i D.1, O0 j [Ab a.1]]) ⟨J5, [0, 1, 2], I, by decide⟩ (Aa fun cq bi => ?_)
 obtain ⟨G, bj, h⟩ := Ac h
 obtain ⟨E, bk, h⟩ := Ac h
 refine tV (An 2 [.o 1 2] I J1 (tX [0] I (Im [0] (jP H _ _ _ _ bj) ?_)))
 rintro _ _ _ - ⟨n, rfl, rfl, rfl⟩
 refine Af 2 I (uJ (C0 1 I I I I) I (tX [0] I (Im [0] (iJ H _ _ _ _ bk) ?_)))
 rintro _ _ _ - ⟨t, rfl, rfl, rfl⟩
 refine Af 2 I (tW ?_)
 subst bi
 refine D5 (s' := [(1, .v (.int .u8 W)), (2, .v (.int .u8 F)), (7, .v (.pointer (some ⟨H, 0, none⟩))), (8, .v (.pointer (some ⟨j, 0, none⟩))), (9, .v i), (10, .v n), (11, .v t)]) (ob' := [O2 H [Cq E.2], U4 i D.1, O0 j [Ab a.1], .us n 74 1 (G.1.map (rL 2 A4)), U6 t E.1]) ⟨J7, [0, 1, 2, 3, 4], I, by decide⟩ (Aa fun cr bl => ?_)
 obtain ⟨u, bm, h⟩ := Ac h
 refine tV (An 2 [.o 1 2] I J1 (tX [0] I (A1 [0] (gP H _ _ _ bm) ?_)))
 refine Af 1 I (tW ?_)
 subst bl
 refine D5 (s' := [(1, .v (.int .u8 W)), (2, .v (.int .u8 F)), (8, .v (.pointer (some ⟨j, 0, none⟩))), (9, .v i), (10, .v n), (11, .v t), (12, Q8 u.1)]) (ob' := [O2 H [Cq u.2], U4 i D.1, O0 j [Ab a.1], .us n 74 1 (G.1.map (rL 2 A4)), U6 t E.1]) ⟨J7, [0, 1, 2, 3, 4], I, by decide⟩ (Aa fun ct bn => ?_)
 obtain ⟨az, bo, h⟩ := Ac h
 refine tV (Af 1 I (uH (I4 (c := wr (W)) I I I I I) I (An 5 [.l 1 (u.1.length : Int), .f 2 (.V az)] I ⟨Yp.yd (El (c := az) I I (Hh bo)), Ax, J⟩ (tW ?_))))
 subst bn
 refine D5 (s' := [(2, .v (.int .u8 F)), (8, .v (.pointer (some ⟨j, 0, none⟩))), (9, .v i), (10, .v n), (11, .v t), (12, Q8 u.1), (13, .V (wr (1 + az)))]) (ob' := [O2 H [Cq u.2], U4 i D.1, O0 j [Ab a.1], .us n 74 1 (G.1.map (rL 2 A4)), U6 t E.1]) ⟨J7, [0, 1, 2, 3, 4], I, by decide⟩ (Aa fun cu bp => ?_)
 obtain ⟨b, bq, h⟩ := Ac h
 refine tV (An 5 [.o 0 2] I J1 (tX [] I (Ch I (.refl _) I I (.cons (.refl _) (.cons (.us 4 I) (.cons (.us 1 I) (.cons (.us 3 I) (.rest _))))) I (Jv _ _ _ _ _ _ bq) dS (by rintro _ _ ⟨rfl, _⟩; rfl) ?_)))
 rintro _ ⟨_, rfl, -⟩
 refine Af 3 I (tX [] I (uF W1 3 fun br => tX [5] I (A3 5 0 0 [Cr b.1] I (Af 1 I (tW ?_)))))
 subst bp
 refine D5 (s' := [(2, .v (.int .u8 F)), (8, .v (.pointer (some ⟨j, 0, none⟩))), (9, .v i), (10, .v n), (11, .v t), (12, Q8 u.1), (13, .V (wr (1 + az))), (15, .V b.2)]) (ob' := [O2 H [Cq u.2], U4 i D.1, O0 j [Ab a.1], .us n 74 1 (G.1.map (rL 2 A4)), U6 t E.1, O6 br [Cr b.1]]) ⟨J8, [0, 1, 2, 3, 4, 5], I, by decide⟩ (Ai (fun s ob => ∃ (K : Int), Vw.J1 F a D G E u b K = some r ∧ s = [(17, .V K)] ∧ ob = [U4 i D.1, O0 j [Ab a.1], .us n 74 1 (G.1.map (rL 2 A4)), U6 t E.1]) [(2, _), (8, _), (9, _), (10, _), (11, _), (12, _), (15, _)] J7 ?_ ?_)
 obtain ⟨cv, bs, h⟩ := Ac h
 obtain ⟨bu, bv, bw, bx, b0, b1, b2⟩ := L6 bs
 obtain ⟨a0, a5, h⟩ := Ac h
 refine Bz (sl 7 0 (.two 7 11 (sl 3 8 (.act 11 (.act 12 (.still 13 .nil)))) (.act 7 (sl 3 8 (.act 12 (.still 13 .nil)))))) [2] [_] I (Ca 6 [.o 0 0] I J1 (uM I (Po bu bv 0 I I I I I (rG bw) ⟨_, _, I, bx⟩ I b0 b1 b2) I (uK ?_ ?_)))
 refine tY [] I I I (Ch I (.refl _) I I (.cons (.refl _) (.cons (.us 4 I) (.cons (.us 1 I) (.cons (.us 3 I) (.rest _))))) I (Jv _ _ _ _ _ _ a5) dS (by rintro _ _ ⟨rfl, _⟩; rfl) ?_)
 rintro _ ⟨_, rfl, -⟩
 exact Bf 3 I (tY [] I I I (uF W1 3 fun b3 => tY [6] I I I (A3 6 0 0 [Cr a0.1] I (Bf 1 I (Ap (tW (lg ⟨a0.2, h, I2⟩ [1, 2, 3, 4])))))))
 refine tY [] I I I (uF W1 3 fun b3 => tY [] I I I (Ch I (.refl _) I I (.cons (.refl _) (.cons (.us 4 I) (.cons (.us 1 I) (.cons (.us 3 I) (.rest _))))) I (Jv _ _ _ _ _ _ a5) dS (by rintro _ _ ⟨rfl, _⟩; rfl) ?_))
 rintro _ ⟨_, rfl, -⟩
 exact Bf 3 I (tY [6] I I I (A3 6 0 0 [Cr a0.1] I (Bf 1 I (Ap (tW (lg ⟨a0.2, h, I2⟩ [1, 2, 3, 4]))))))
 rintro s ob ⟨K, h, rfl, rfl⟩
 refine Aa fun cw b4 => tV (An 1 [.o 0 1] I J1 (tX [] I (uF W3 6 fun Z => tX [4] I (A3 4 0 0 [Ab a.1] I (tW ?_)))))
 subst b4
 refine D5 (s' := [(2, .v (.int .u8 F)), (8, .v (.pointer (some ⟨j, 0, none⟩))), (9, .v i), (10, .v n), (11, .v t), (12, Q8 u.1), (15, .V b.2), (17, .V K), (18, .v (.pointer (some ⟨Z, 0, none⟩)))]) (ob' := [U4 i D.1, O0 j [Ab a.1], .us n 74 1 (G.1.map (rL 2 A4)), U6 t E.1, O0 Z [Ab a.1]]) ⟨J9, [0, 1, 2, 3, 4], I, by decide⟩ (Aa fun cx b6 => tV (An 3 [.o 1 1] I J1 (uH (I4 (c := wr (F)) I I I I I) I (Af 3 I (tX [4] I (A3 4 0 5 [[Q1 a.1.Nodes, Q5 a.1.Segments, Q6 a.1.Ports, Q7 a.1.Stations, .V a.1.Vapour, .V (min 100 (wr (a.1.Settle + (wr (F)))))]] I (tW ?_)))))))
 subst b6
 refine D5 (s' := [(8, .v (.pointer (some ⟨j, 0, none⟩))), (9, .v i), (10, .v n), (11, .v t), (12, Q8 u.1), (15, .V b.2), (17, .V K), (18, .v (.pointer (some ⟨Z, 0, none⟩)))]) (ob' := [U4 i D.1, O0 j [Ab a.1], .us n 74 1 (G.1.map (rL 2 A4)), U6 t E.1, O0 Z [[Q1 a.1.Nodes, Q5 a.1.Segments, Q6 a.1.Ports, Q7 a.1.Stations, .V a.1.Vapour, .V (min 100 (wr (a.1.Settle + (wr (F)))))]]]) ⟨J8, [0, 1, 2, 3, 4], I, by decide⟩ (Aa fun cy b7 => ?_)
 obtain ⟨e, b8, h⟩ := Ac h
 refine tV (An 5 [.o 0 4] I J1 (tX [] I (Ch I (.refl _) I I (.cons (.refl _) (.cons (.us 3 I) (.cons (.us 0 I) (.cons (.us 2 I) (.rest _))))) I (Jv _ _ _ _ _ _ b8) dS (by rintro _ _ ⟨rfl, _⟩; rfl) ?_)))
 rintro _ ⟨_, rfl, -⟩
 refine Af 3 I (tX [] I (uF W1 3 fun a4 => tX [5] I (A3 5 0 0 [Cr e.1] I (Af 1 I (tW ?_)))))
 subst b7
 refine D5 (s' := [(8, .v (.pointer (some ⟨j, 0, none⟩))), (9, .v i), (10, .v n), (11, .v t), (12, Q8 u.1), (15, .V b.2), (17, .V K), (20, .V e.2)]) (ob' := [U4 i D.1, O0 j [Ab a.1], .us n 74 1 (G.1.map (rL 2 A4)), U6 t E.1, O0 Z [[Q1 a.1.Nodes, Q5 a.1.Segments, Q6 a.1.Ports, Q7 a.1.Stations, .V a.1.Vapour, .V (min 100 (wr (a.1.Settle + (wr (F)))))]], O6 a4 [Cr e.1]]) ⟨J8, [0, 1, 2, 3, 4, 5], I, by decide⟩ (Aa fun cz b9 => Eb 120 (bif (b.2 != 0) then ((b.2 != 15) || (bif (K != 0) then ((K != 15) || (bif (e.2 != 0) then ((e.2 != 15) || ((b.2 == 0) || ((e.2 == 0) && (b.2 != 0)))) else ((b.2 == 0) || ((e.2 == 0) && (b.2 != 0))))) else (bif (e.2 != 0) then ((e.2 != 15) || (bif (b.2 == 0) then ((e.2 == 0) && (b.2 != 0)) else ((e.2 == 0) && (b.2 != 0)))) else (bif (b.2 == 0) then ((e.2 == 0) && (b.2 != 0)) else ((e.2 == 0) && (b.2 != 0)))))) else (bif (K != 0) then ((K != 15) || (bif (e.2 != 0) then ((e.2 != 15) || ((b.2 == 0) || ((e.2 == 0) && (b.2 != 0)))) else ((b.2 == 0) || ((e.2 == 0) && (b.2 != 0))))) else (bif (e.2 != 0) then ((e.2 != 15) || (bif (b.2 == 0) then ((e.2 == 0) && (b.2 != 0)) else ((e.2 == 0) && (b.2 != 0)))) else (bif (b.2 == 0) then ((e.2 == 0) && (b.2 != 0)) else ((e.2 == 0) && (b.2 != 0)))))) ?_ ?_)
 refine tV (Af 3 I ?_)
 rcases bt ((b.2 != 0)) with g | g
 refine Ad 85 I g (Af 4 I ?_)
 rcases bt ((b.2 != 15)) with B | B
 refine Ad 89 I B (Af 3 I (By I I dS (By I I dS (Af 6 I (By I I dS (By I I dS (Af 6 I (By I I dS (By I I dS (Af 6 I (By I I dS (By I I dS ?_))))))))))))
 exact Af 2 I (tW (jf (by simp only [g, B, bz]) I I I2))
 refine Ad 89 I B (Af 3 I ?_)
 rcases bt ((K != 0)) with w | w
 refine Ad 92 I w (Af 5 I ?_)
 rcases bt ((K != 15)) with P | P
 exact Ad 97 I P (Af 3 I (By I I dS (By I I dS (Af 6 I (By I I dS (By I I dS (Af 6 I (By I I dS (By I I dS (Af 2 I (tW (jf (by simp only [g, B, w, P, bz]) I I I2))))))))))))
 refine Ad 97 I P (Af 3 I ?_)
 rcases bt ((e.2 != 0)) with R | R
 refine Ad 100 I R (Af 5 I ?_)
 rcases bt ((e.2 != 15)) with aa | aa
 exact Ad 105 I aa (Af 3 I (By I I dS (By I I dS (Af 6 I (By I I dS (By I I dS (Af 2 I (tW (jf (by simp only [g, B, w, P, R, aa, bz]) I I I2)))))))))
 refine Ad 105 I aa (Af 3 I ?_)
 rcases bt ((b.2 == 0)) with ag | ag
 exact Ad 108 I ag (Af 5 I (Ad 113 I w (Af 3 I (By I I dS (By I I dS (Af 2 I (tW (jf (by simp only [g, B, w, P, R, aa, ag, bz]) I I I2))))))))
 refine Ad 108 I ag (Af 8 I ?_)
 rcases bt ((e.2 == 0)) with ak | ak
 exact Ad 116 I ak (Af 4 I (tW (jf (by simp only [g, B, w, P, R, aa, ag, ak, bz]) I I I2)))
 exact Ad 116 I ak (Af 4 I (tW (jf (by simp only [g, B, w, P, R, aa, ag, ak, bz]) I I I2)))
 refine Ad 100 I R (Af 8 I ?_)
 rcases bt ((b.2 == 0)) with ah | ah
 exact Ad 108 I ah (Af 5 I (Ad 113 I w (Af 3 I (By I I dS (By I I dS (Af 2 I (tW (jf (by simp only [g, B, w, P, R, ah, bz]) I I I2))))))))
 refine Ad 108 I ah (Af 8 I ?_)
 rcases bt ((e.2 == 0)) with al | al
 exact Ad 116 I al (Af 4 I (tW (jf (by simp only [g, B, w, P, R, ah, al, bz]) I I I2)))
 exact Ad 116 I al (Af 4 I (tW (jf (by simp only [g, B, w, P, R, ah, al, bz]) I I I2)))
 refine Ad 92 I w (Af 8 I ?_)
 rcases bt ((e.2 != 0)) with M | M
 refine Ad 100 I M (Af 5 I ?_)
 rcases bt ((e.2 != 15)) with X | X
 exact Ad 105 I X (Af 3 I (By I I dS (By I I dS (Af 6 I (By I I dS (By I I dS (Af 2 I (tW (jf (by simp only [g, B, w, M, X, bz]) I I I2)))))))))
 refine Ad 105 I X (Af 3 I ?_)
 rcases bt ((b.2 == 0)) with ab | ab
 refine Ad 108 I ab (Af 5 I (Ad 113 I w (Af 3 I ?_)))
 rcases bt ((e.2 == 0)) with am | am
 exact Ad 116 I am (Af 4 I (tW (jf (by simp only [g, B, w, M, X, ab, am, bz]) I I I2)))
 exact Ad 116 I am (Af 4 I (tW (jf (by simp only [g, B, w, M, X, ab, am, bz]) I I I2)))
 refine Ad 108 I ab (Af 8 I ?_)
 rcases bt ((e.2 == 0)) with an | an
 exact Ad 116 I an (Af 4 I (tW (jf (by simp only [g, B, w, M, X, ab, an, bz]) I I I2)))
 exact Ad 116 I an (Af 4 I (tW (jf (by simp only [g, B, w, M, X, ab, an, bz]) I I I2)))
 refine Ad 100 I M (Af 8 I ?_)
 rcases bt ((b.2 == 0)) with ac | ac
 refine Ad 108 I ac (Af 5 I (Ad 113 I w (Af 3 I ?_)))
 rcases bt ((e.2 == 0)) with ao | ao
 exact Ad 116 I ao (Af 4 I (tW (jf (by simp only [g, B, w, M, ac, ao, bz]) I I I2)))
 exact Ad 116 I ao (Af 4 I (tW (jf (by simp only [g, B, w, M, ac, ao, bz]) I I I2)))
 refine Ad 108 I ac (Af 8 I ?_)
 rcases bt ((e.2 == 0)) with ap | ap
 exact Ad 116 I ap (Af 4 I (tW (jf (by simp only [g, B, w, M, ac, ap, bz]) I I I2)))
 exact Ad 116 I ap (Af 4 I (tW (jf (by simp only [g, B, w, M, ac, ap, bz]) I I I2)))
 refine Ad 85 I g (Af 7 I ?_)
 rcases bt ((K != 0)) with A | A
 refine Ad 92 I A (Af 5 I ?_)
 rcases bt ((K != 15)) with Q | Q
 exact Ad 97 I Q (Af 3 I (By I I dS (By I I dS (Af 6 I (By I I dS (By I I dS (Af 6 I (By I I dS (By I I dS (Af 2 I (tW (jf (by simp only [g, A, Q, bz]) I I I2))))))))))))
 refine Ad 97 I Q (Af 3 I ?_)
 rcases bt ((e.2 != 0)) with S | S
 refine Ad 100 I S (Af 5 I ?_)
 rcases bt ((e.2 != 15)) with ad | ad
 exact Ad 105 I ad (Af 3 I (By I I dS (By I I dS (Af 6 I (By I I dS (By I I dS (Af 2 I (tW (jf (by simp only [g, A, Q, S, ad, bz]) I I I2)))))))))
 refine Ad 105 I ad (Af 3 I ?_)
 rcases bt ((b.2 == 0)) with ai | ai
 exact Ad 108 I ai (Af 5 I (Ad 113 I A (Af 3 I (By I I dS (By I I dS (Af 2 I (tW (jf (by simp only [g, A, Q, S, ad, ai, bz]) I I I2))))))))
 refine Ad 108 I ai (Af 8 I ?_)
 rcases bt ((e.2 == 0)) with aq | aq
 exact Ad 116 I aq (Af 4 I (tW (jf (by simp only [g, A, Q, S, ad, ai, aq, bz]) I I I2)))
 exact Ad 116 I aq (Af 4 I (tW (jf (by simp only [g, A, Q, S, ad, ai, aq, bz]) I I I2)))
 refine Ad 100 I S (Af 8 I ?_)
 rcases bt ((b.2 == 0)) with aj | aj
 exact Ad 108 I aj (Af 5 I (Ad 113 I A (Af 3 I (By I I dS (By I I dS (Af 2 I (tW (jf (by simp only [g, A, Q, S, aj, bz]) I I I2))))))))
 refine Ad 108 I aj (Af 8 I ?_)
 rcases bt ((e.2 == 0)) with ar | ar
 exact Ad 116 I ar (Af 4 I (tW (jf (by simp only [g, A, Q, S, aj, ar, bz]) I I I2)))
 exact Ad 116 I ar (Af 4 I (tW (jf (by simp only [g, A, Q, S, aj, ar, bz]) I I I2)))
 refine Ad 92 I A (Af 8 I ?_)
 rcases bt ((e.2 != 0)) with O | O
 refine Ad 100 I O (Af 5 I ?_)
 rcases bt ((e.2 != 15)) with Y | Y
 exact Ad 105 I Y (Af 3 I (By I I dS (By I I dS (Af 6 I (By I I dS (By I I dS (Af 2 I (tW (jf (by simp only [g, A, O, Y, bz]) I I I2)))))))))
 refine Ad 105 I Y (Af 3 I ?_)
 rcases bt ((b.2 == 0)) with ae | ae
 refine Ad 108 I ae (Af 5 I (Ad 113 I A (Af 3 I ?_)))
 rcases bt ((e.2 == 0)) with au | au
 exact Ad 116 I au (Af 4 I (tW (jf (by simp only [g, A, O, Y, ae, au, bz]) I I I2)))
 exact Ad 116 I au (Af 4 I (tW (jf (by simp only [g, A, O, Y, ae, au, bz]) I I I2)))
 refine Ad 108 I ae (Af 8 I ?_)
 rcases bt ((e.2 == 0)) with av | av
 exact Ad 116 I av (Af 4 I (tW (jf (by simp only [g, A, O, Y, ae, av, bz]) I I I2)))
 exact Ad 116 I av (Af 4 I (tW (jf (by simp only [g, A, O, Y, ae, av, bz]) I I I2)))
 refine Ad 100 I O (Af 8 I ?_)
 rcases bt ((b.2 == 0)) with af | af
 refine Ad 108 I af (Af 5 I (Ad 113 I A (Af 3 I ?_)))
 rcases bt ((e.2 == 0)) with aw | aw
 exact Ad 116 I aw (Af 4 I (tW (jf (by simp only [g, A, O, af, aw, bz]) I I I2)))
 exact Ad 116 I aw (Af 4 I (tW (jf (by simp only [g, A, O, af, aw, bz]) I I I2)))
 refine Ad 108 I af (Af 8 I ?_)
 rcases bt ((e.2 == 0)) with ax | ax
 exact Ad 116 I ax (Af 4 I (tW (jf (by simp only [g, A, O, af, ax, bz]) I I I2)))
 exact Ad 116 I ax (Af 4 I (tW (jf (by simp only [g, A, O, af, ax, bz]) I I I2)))
 refine Ar h I ?_ ?_
 intro ca h
 refine Ah I (uD g0 ?_)
 cases io h
 exact uC pr
 intro ca h
 refine tZ ?_
 subst b9
 refine D5 (s' := [(8, .v (.pointer (some ⟨j, 0, none⟩))), (9, .v i), (10, .v n), (11, .v t), (12, Q8 u.1), (15, .V b.2)]) (ob' := [U4 i D.1, O0 j [Ab a.1], .us n 74 1 (G.1.map (rL 2 A4)), U6 t E.1, O0 Z [[Q1 a.1.Nodes, Q5 a.1.Segments, Q6 a.1.Ports, Q7 a.1.Stations, .V a.1.Vapour, .V (min 100 (wr (a.1.Settle + (wr (F)))))]], O6 a4 [Cr e.1]]) ⟨J6, [0, 1, 2, 3, 4, 5], I, by decide⟩ (Ai (fun s ob => ∃ (a6 : Unit), Vw.J2 a6 = some r ∧ s = [] ∧ ob = []) [] J ?_ ?_)
 refine Bh [.l 1 (u.1.length : Int)] I ⟨Ax, J⟩ (D5 (s' := [(8, .v (.pointer (some ⟨j, 0, none⟩))), (9, .v i), (10, .v n), (11, .v t), (12, Q8 u.1), (15, .V b.2), (122, .V (u.1.length : Int)), (123, .V 0)]) (ob' := [U4 i D.1, O0 j [Ab a.1], .us n 74 1 (G.1.map (rL 2 A4)), U6 t E.1, O0 Z [[Q1 a.1.Nodes, Q5 a.1.Segments, Q6 a.1.Ports, Q7 a.1.Stations, .V a.1.Vapour, .V (min 100 (wr (a.1.Settle + (wr (F)))))]], O6 a4 [Cr e.1]]) ⟨J8, [0, 1, 2, 3, 4, 5], I, by decide⟩ (uA (B0 12 I fun cb => ?_)))
 obtain ⟨c1, cc, a7⟩ := Ac h
 refine Bx cc [(8, _), (9, _), (10, _), (11, _), (12, _), (15, _), (122, _)] J7 (fun (U : Nat) (a8 : Unit) s ob => s = [(123, .V (U : Int))] ∧ ob = [U4 i D.1, O0 j [Ab a.1], .us n 74 1 (G.1.map (rL 2 A4)), U6 t E.1]) ⟨I, I⟩ ⟨I, J⟩ ⟨[0, 1, 2, 3], I, by decide⟩ ?_ ?_
 rintro U a9 a8 cd s ob ce ba ⟨rfl, rfl⟩ h cf
 unfold Vw.B3 at h
 have ci := Co ba
 refine Ah I (D5 (s' := [(8, .v (.pointer (some ⟨j, 0, none⟩))), (9, .v i), (10, .v n), (11, .v t), (12, Q8 u.1), (15, .V b.2), (122, .V (u.1.length : Int)), (123, .V (U : Int)), (124, .v (.bool (decide ((U : Int) < (u.1.length : Int)))))]) (ob' := [U4 i D.1, O0 j [Ab a.1], .us n 74 1 (G.1.map (rL 2 A4)), U6 t E.1]) ⟨J9, [0, 1, 2, 3], I, by decide⟩ (Aa fun c2 cj => Bp I ci (tZ ?_)))
 subst cj
 refine D5 (s' := [(8, .v (.pointer (some ⟨j, 0, none⟩))), (9, .v i), (10, .v n), (11, .v t), (12, Q8 u.1), (15, .V b.2), (122, .V (u.1.length : Int)), (123, .V (U : Int))]) (ob' := [U4 i D.1, O0 j [Ab a.1], .us n 74 1 (G.1.map (rL 2 A4)), U6 t E.1]) ⟨J8, [0, 1, 2, 3], I, by decide⟩ (uB (uA (Ah I (D5 (s' := [(8, .v (.pointer (some ⟨j, 0, none⟩))), (9, .v i), (10, .v n), (11, .v t), (12, Q8 u.1), (15, .V b.2), (21, .V (U : Int)), (122, .V (u.1.length : Int)), (123, .V (U : Int))]) (ob' := [U4 i D.1, O0 j [Ab a.1], .us n 74 1 (G.1.map (rL 2 A4)), U6 t E.1]) ⟨J9, [0, 1, 2, 3], I, by decide⟩ (Ai (fun s ob => ∃ (a1 : Int), Vw.J4 b a1 = some cd ∧ s = [(23, .V a1)] ∧ ob = [U4 i D.1, O0 j [Ab a.1], .us n 74 1 (G.1.map (rL 2 A4)), U6 t E.1]) [(8, _), (9, _), (10, _), (11, _), (12, _), (15, _), (122, _), (123, _)] J8 ?_ ?_)))))
 obtain ⟨a2, bb, h⟩ := Ac h
 refine Bz (sl 9 0 (.two 9 13 (sl 3 10 (.act 13 (.act 14 (.still 15 .nil)))) (.act 9 (sl 3 10 (.act 14 (.still 15 .nil)))))) [1] [_] I (Ca 8 [.o 0 0, .x 6 U (C1 a9)] I ⟨⟨I, Ag ce⟩, I, J⟩ (AP.o I (Hi I I (y := .agg (Am a9.Plan)) I) I (uK ?_ ?_)))
 refine tY [] I I I (Ch I (.refl _) I I (.cons (.refl _) (.cons (.us 3 I) (.cons (.us 0 I) (.cons (.us 2 I) (.rest _))))) I (Uo _ _ _ _ _ _ bb) dS (by rintro _ _ ⟨rfl, _⟩; rfl) ?_)
 rintro _ ⟨_, rfl, -⟩
 exact Bf 3 I (tY [] I I I (uF W1 3 fun ck => tY [4] I I I (A3 4 0 0 [Cr a2.1] I (Bf 1 I (Ap (tW (lg ⟨a2.2, h, I2⟩ [0, 1, 2, 3])))))))
 refine tY [] I I I (uF W1 3 fun ck => tY [] I I I (Ch I (.refl _) I I (.cons (.refl _) (.cons (.us 3 I) (.cons (.us 0 I) (.cons (.us 2 I) (.rest _))))) I (Uo _ _ _ _ _ _ bb) dS (by rintro _ _ ⟨rfl, _⟩; rfl) ?_))
 rintro _ ⟨_, rfl, -⟩
 exact Bf 3 I (tY [4] I I I (A3 4 0 0 [Cr a2.1] I (Bf 1 I (Ap (tW (lg ⟨a2.2, h, I2⟩ [0, 1, 2, 3]))))))
 rintro s ob ⟨a1, h, rfl, rfl⟩
 unfold Vw.J4 at h
 refine Eb 144 ((b.2 == 0) && (a1 != 0)) ?_ ?_
 refine tV (Af 3 I ?_)
 rcases bt ((b.2 == 0)) with ay | ay
 exact Ad 141 I ay (Af 3 I (tW (jf (by simp only [ay, bz]) I I I2)))
 exact Ad 141 I ay (Af 3 I (tW (jf (by simp only [ay, bz]) I I I2)))
 refine Ar h I ?_ ?_
 intro cl h
 refine Ah I ?_
 obtain rfl := cf _ (oi h).symm
 have h := a7
 have h := C2 h
 refine uD g0 ?_
 cases io h
 exact uC pr
 intro cl h
 refine tZ (tV (An 2 [.k 0 (U + 1 : Nat)] I ⟨A0 ba cb, J⟩ ?_))
 cases io h
 exact tW ⟨_, _, _, I, I2, J8, [0, 1, 2, 3], I, by decide⟩
 rintro a8 s ob ⟨rfl, rfl⟩ he
 subst he
 have h := C8 a7
 have cm := Cp u.1.length
 exact Ah I (D5 (s' := [(8, .v (.pointer (some ⟨j, 0, none⟩))), (9, .v i), (10, .v n), (11, .v t), (12, Q8 u.1), (15, .V b.2), (122, .V (u.1.length : Int)), (123, .V ((u.1.length : Nat) : Int)), (124, .v (.bool (decide (((u.1.length : Nat) : Int) < (u.1.length : Int)))))]) (ob' := [U4 i D.1, O0 j [Ab a.1], .us n 74 1 (G.1.map (rL 2 A4)), U6 t E.1]) ⟨J9, [0, 1, 2, 3], I, by decide⟩ (Aa fun c3 c4 => Br I cm (uE (lg ⟨(), h, I2⟩ []))))
 rintro s ob ⟨a6, h, rfl, rfl⟩
 refine uB ?_
 obtain ⟨c5, cn, h⟩ := Ac h
 refine tV (Cd (iF  _ cn) (Af 1 I (tW ?_)))
 cases io h
 exact uC pr
end Go.Proofs.YtodeekicjiengaaGreatDoor
