/- Walks that show what functions of the program compute; printed by a program of ours. No condition. -/
import Derived.Test.YtihdchjpepkpbaaGreatZiL1
import Derived.Test.YtihdchjpepkpbaaGreatZiL2
import Derived.Test.YtihdchjpepkpbaaGreatZiL3
set_option maxRecDepth 100000
namespace Go.Proofs.YtihdchjpepkpbaaGreat
open Go.Aw
set_option linter.unusedVariables false
set_option linter.unusedSimpArgs false
set_option maxHeartbeats 4000000
abbrev fT : PL := sl 8 0 (.act 8 (.act 9 (.still 10 (.drop 11 .nil))))
theorem Qk  (r : Bool) (h : Ri = some r) : ACalls Ah 37 [] [] (RB r) := by
 refine Ae Tryz.func37 I I I fun C hC => ?_
 refine Aj I (Ab fun S B => jG (jI [] I (jY (sz := 1) (es := ([(⟨#[97]⟩ : Bt), (⟨#[98]⟩ : Bt)] : List Bt).map rS) I I I I I I I I I I I dS fun f => Bv (Bk (l := [.V 0, .V 0, .V 1000]) Ey I) I (Bv (Bk (l := [.V 10, .V 0, .V 1000]) Ey I) I (jI [] I (jY (sz := 3) (es := ([(⟨0, 0, 1000⟩ : Point), (⟨10, 0, 1000⟩ : Point)] : List Point).map Ce) I I I I I I I I I I I dS fun t => AO.one 1 I fun D => Bv (Bk (l := [.v (.string (⟨#[103]⟩ : Bt)), .V 0, .V 1, .V 10, .V 0, .V 0, .v t]) Ov (Ci I I I I (Ci I I I I (Ci I I I I (Ci I I I I (Ci I I (A8 D) I (Fr))))))) I (AO.ghost (Ba [1] (K := [.us t 90 3 (([(⟨0, 0, 1000⟩ : Point), (⟨10, 0, 1000⟩ : Point)] : List Point).map Ce)]) I [(9, .list 3 (([(⟨0, 0, 1000⟩ : Point), (⟨10, 0, 1000⟩ : Point)] : List Point).map Ce)), (10, .agg [.v (.string (⟨#[103]⟩ : Bt)), .V 0, .V 1, .V 10, .V 0, .V 0, .list 3 (([(⟨0, 0, 1000⟩ : Point), (⟨10, 0, 1000⟩ : Point)] : List Point).map Ce)])] ⟨⟨_, I, .us 0 I⟩, ⟨_, I, .agg (.cons (.refl _) (.cons (.refl _) (.cons (.refl _) (.cons (.refl _) (.cons (.refl _) (.cons (.refl _) (.cons (.us 0 I) (.rest _))))))))⟩, J⟩ (ob' := [.us f 9 1 (([(⟨#[97]⟩ : Bt), (⟨#[98]⟩ : Bt)] : List Bt).map rS)]) (.rest _)) ?_)))))))
 refine jI [] I (jY (sz := 7) (es := ([(⟨(⟨#[103]⟩ : Bt), 0, 1, 10, 0, 0, ([(⟨0, 0, 1000⟩ : Point), (⟨10, 0, 1000⟩ : Point)] : List Point)⟩ : Sg)] : List Sg).map Am) I I I I I I I I I I I dS fun i => Bv (Bk (l := [.v (.string (⟨#[112]⟩ : Bt)), .V 0, .V 0]) G0 I) I (Bv (Bk (l := [.v (.string (⟨#[113]⟩ : Bt)), .V 1, .V 0]) G0 I) I (jI [] I (jY (sz := 3) (es := ([(⟨(⟨#[112]⟩ : Bt), 0, 0⟩ : Port), (⟨(⟨#[113]⟩ : Bt), 1, 0⟩ : Port)] : List Port).map Bb) I I I I I I I I I I I dS fun j => AO.one 0 I fun E => AO.one 1 I fun F => AO.one 2 I fun G => Bv (Bk (l := [.v f, .v i, .v j, .N, .V 0, .V 0]) Ox (Ci I I (A8 E) I (Ci I I (A8 F) I (Ci I I (A8 G) I (Fr))))) I (jI [] I (Bf W4 6 fun u => jI [3] I (A1 3 0 0 [[.v f, .v i, .v j, .N, .V 0, .V 0]] I (jH ?_))))))))
 subst B
 refine Ab fun U H => ?_
 obtain ⟨k, M, h⟩ := Ac h
 refine jG (Ao 1 [.o 0 3] I J1 (jI [] I (jQ 1 (([0] : Li).map rI) (AO.ghost (Ba N3 (K := [.us f 9 1 (([(⟨#[97]⟩ : Bt), (⟨#[98]⟩ : Bt)] : List Bt).map rS), .us i 93 7 (([(⟨(⟨#[103]⟩ : Bt), 0, 1, 10, 0, 0, ([(⟨0, 0, 1000⟩ : Point), (⟨10, 0, 1000⟩ : Point)] : List Point)⟩ : Sg)] : List Sg).map Am), .us j 95 3 (([(⟨(⟨#[112]⟩ : Bt), 0, 0⟩ : Port), (⟨(⟨#[113]⟩ : Bt), 1, 0⟩ : Port)] : List Port).map Bb)]) I [(6, .list 1 (([(⟨#[97]⟩ : Bt), (⟨#[98]⟩ : Bt)] : List Bt).map rS)), (11, .list 7 (([(⟨(⟨#[103]⟩ : Bt), 0, 1, 10, 0, 0, ([(⟨0, 0, 1000⟩ : Point), (⟨10, 0, 1000⟩ : Point)] : List Point)⟩ : Sg)] : List Sg).map Am)), (14, .list 3 (([(⟨(⟨#[112]⟩ : Bt), 0, 0⟩ : Port), (⟨(⟨#[113]⟩ : Bt), 1, 0⟩ : Port)] : List Port).map Bb)), (15, .agg [.list 1 (([(⟨#[97]⟩ : Bt), (⟨#[98]⟩ : Bt)] : List Bt).map rS), .list 7 (([(⟨(⟨#[103]⟩ : Bt), 0, 1, 10, 0, 0, ([(⟨0, 0, 1000⟩ : Point), (⟨10, 0, 1000⟩ : Point)] : List Point)⟩ : Sg)] : List Sg).map Am), .list 3 (([(⟨(⟨#[112]⟩ : Bt), 0, 0⟩ : Port), (⟨(⟨#[113]⟩ : Bt), 1, 0⟩ : Port)] : List Port).map Bb), .list 5 ([].map A5), .V 0, .V 0]), (17, .agg [.list 1 (([(⟨#[97]⟩ : Bt), (⟨#[98]⟩ : Bt)] : List Bt).map rS), .list 7 (([(⟨(⟨#[103]⟩ : Bt), 0, 1, 10, 0, 0, ([(⟨0, 0, 1000⟩ : Point), (⟨10, 0, 1000⟩ : Point)] : List Point)⟩ : Sg)] : List Sg).map Am), .list 3 (([(⟨(⟨#[112]⟩ : Bt), 0, 0⟩ : Port), (⟨(⟨#[113]⟩ : Bt), 1, 0⟩ : Port)] : List Port).map Bb), .list 5 ([].map A5), .V 0, .V 0])] ⟨⟨_, I, .us 0 I⟩, ⟨_, I, .us 1 I⟩, ⟨_, I, .us 2 I⟩, ⟨_, I, .agg (.cons (.us 0 I) (.cons (.us 1 I) (.cons (.us 2 I) (.cons (.nil _) (.rest _)))))⟩, ⟨_, I, .agg (.cons (.us 0 I) (.cons (.us 1 I) (.cons (.us 2 I) (.cons (.nil _) (.rest _)))))⟩, J⟩ (ob' := [O1 u [[.list 1 (([(⟨#[97]⟩ : Bt), (⟨#[98]⟩ : Bt)] : List Bt).map rS), .list 7 (([(⟨(⟨#[103]⟩ : Bt), 0, 1, 10, 0, 0, ([(⟨0, 0, 1000⟩ : Point), (⟨10, 0, 1000⟩ : Point)] : List Point)⟩ : Sg)] : List Sg).map Am), .list 3 (([(⟨(⟨#[112]⟩ : Bt), 0, 0⟩ : Port), (⟨(⟨#[113]⟩ : Bt), 1, 0⟩ : Port)] : List Port).map Bb), .N, .V 0, .V 0]]]) (.cons (.arr (.cons (.us 0 I) (.cons (.us 1 I) (.cons (.us 2 I) (.rest _))))) (.rest _))) ?_))))
 refine jI [] I (Cq I I I (H6 _ _ _ M) dS ?_)
 rintro _ _ ⟨O, rfl, rfl⟩
 refine Af 5 I (jH ?_)
 subst H
 refine Ab fun W P => ?_
 obtain ⟨w, Q, h⟩ := Ac h
 refine jG (Ao 1 [.o 0 0] I J1 (AO.ghost (Ba [] (K := []) I [(23, .agg [.list 1 (([(⟨#[97]⟩ : Bt), (⟨#[98]⟩ : Bt)] : List Bt).map rS), .list 7 (([(⟨(⟨#[103]⟩ : Bt), 0, 1, 10, 0, 0, ([(⟨0, 0, 1000⟩ : Point), (⟨10, 0, 1000⟩ : Point)] : List Point)⟩ : Sg)] : List Sg).map Am), .list 3 (([(⟨(⟨#[112]⟩ : Bt), 0, 0⟩ : Port), (⟨(⟨#[113]⟩ : Bt), 1, 0⟩ : Port)] : List Port).map Bb), .list 5 ([].map A5), .V 0, .V 0])] ⟨⟨_, I, .agg (.cons (.refl _) (.cons (.refl _) (.cons (.refl _) (.cons (.nil _) (.rest _)))))⟩, J⟩ (ob' := [O1 u [[.list 1 (([(⟨#[97]⟩ : Bt), (⟨#[98]⟩ : Bt)] : List Bt).map rS), .list 7 (([(⟨(⟨#[103]⟩ : Bt), 0, 1, 10, 0, 0, ([(⟨0, 0, 1000⟩ : Point), (⟨10, 0, 1000⟩ : Point)] : List Point)⟩ : Sg)] : List Sg).map Am), .list 3 (([(⟨(⟨#[112]⟩ : Bt), 0, 0⟩ : Port), (⟨(⟨#[113]⟩ : Bt), 1, 0⟩ : Port)] : List Port).map Bb), .N, .V 0, .V 0]], U0 O k.1]) (.rest _)) (jI [] I (Dz I (.refl _) I I (.cons (.refl _) (.cons (.nil _) (.rest _))) I (H6 _ _ _ Q) dS (by rintro _ _ ⟨_, rfl, rfl⟩; exact ⟨rfl, by intro p hp; simp only [List.mem_cons, List.not_mem_nil, or_false] at hp; rcases hp with rfl <;> exact D9 fun _ => rfl⟩) ?_))))
 rintro _ _ ⟨X, rfl, rfl⟩
 refine Af 5 I (jH ?_)
 subst P
 refine Ai (fun s ob => ∃ (n : Bool), Ri.J1 n = some r ∧ s = [(0, .v (.bool n))] ∧ ob = []) [] J ?_ ?_
 refine jG (Af 3 I ?_)
 rcases bt ((k.2 == 0)) with b | b
 have h := Bp b h
 refine Ad 29 I b ?_
 rcases bt ((w.2 == 0)) with a | a
 have h := Bp a h
 rcases bt (((k.1.length : Int) == 3)) with c | c
 have h := Bp c h
 obtain ⟨g, ⟨R, A⟩, h⟩ := Bh h
 refine Af 4 I (Ad 33 I a (Af 1 I (A3 I I I (jR (Cp 1 I I I I) I (Af 3 I (Ad 38 I c (Af 1 I (A3 I I I (jR (Be 1 (m := g.1) I I I I I I I R (Ag A)) I (A3 I I I (jR (A7 1 g.1 0 I I I (Ag A) I (y := .V g.2) I) I (Af 3 I ?_))))))))))))
 rcases bt ((g.2 == 2)) with e | e
 have h := Bp e h
 exact Ad 44 I e (Af 1 I (A3 I I I (jR (Cp 2 I I I I) I (Af 3 I (jH (lg ⟨((w.1.length : Int) == 0), h, I2⟩ []))))))
 have h := Bq e h
 exact Ad 44 I e (Af 5 I (jH (lg ⟨false, h, I2⟩ [])))
 have h := Bq c h
 exact Af 4 I (Ad 33 I a (Af 1 I (A3 I I I (jR (Cp 1 I I I I) I (Af 3 I (Ad 38 I c (Af 11 I (jH (lg ⟨false, h, I2⟩ [])))))))))
 have h := Bq a h
 exact Af 4 I (Ad 33 I a (Af 16 I (jH (lg ⟨false, h, I2⟩ []))))
 have h := Bq b h
 exact Ad 29 I b (Af 20 I (jH (lg ⟨false, h, I2⟩ [])))
 rintro s ob ⟨n, h, rfl, rfl⟩
 unfold Ri.J1 at h
 cases io h
 exact jN pr
theorem Zn (a : Nat) (w : KS) (e : Nw) (r : Li × KS) (h : Nn w e = some r) : ACalls Ah 39 [.P a, .agg (Aa e)] [O2 a [Cd w]] (En 1 fun x os new => ∃ (y : Value), x = .v y ∧ os = [O2 a [Cd r.2]] ∧ new = [U0 y r.1]) := by
 refine Ae Tryz.func39 I I I fun C hC => ?_
 unfold Nn at h
 refine Ab fun U A => jG (jI [] I (Br (Aa e) 6 fun u => Af 1 I (jH ?_)))
 subst A
 refine Aj I (Ai (fun s ob => ∃ (f : Li × Int × Li) (k : Value), Nn.J1 e f = some r ∧ s = [(5, .v k)] ∧ ob = [O2 a [[Q0 f.1, .V f.2.1]], O1 u [Aa e], U0 k f.2.2]) (K2 0 3) J2 ?_ ?_)
 refine Aj I (jM (jO (Au 3 1) ?_))
 obtain ⟨W, B, D⟩ := Ac h
 refine Cg B (K2 0 3) J2 (fun (b : Li × Int × Li × Int) s ob => ∃ (i : Value), s = [(5, .v i), (6, .V b.2.2.2)] ∧ ob = [O2 a [[Q0 b.1, .V b.2.1]], O1 u [Aa e], U0 i b.2.2.1]) ⟨nS, I2⟩ ⟨I, I, J⟩ (pk N3) ?_
 rintro b E s ob ⟨i, rfl, rfl⟩ h F
 refine Ab fun X G => Bd [.o 2 1, .l 3 (e.Segments.length : Int)] I ⟨As, I, J⟩ (Ar h I ?_ ?_)
 intro H h
 refine jL ?_
 subst G
 refine Ai (fun s ob => ∃ (j : Li × Int × Li) (n : Value), Nn.J4 b j = some E ∧ s = [(5, .v n)] ∧ ob = [O2 a [[Q0 j.1, .V j.2.1]], O1 u [Aa e], U0 n j.2.2]) (K3 0 3 6) J3 ?_ ?_
 refine jM (jK ?_)
 obtain ⟨p, K, h⟩ := Ac h
 refine jG (Af 1 I (jI [0] I (Av [0] (Cs a _ _ _ K) ?_)))
 refine Af 1 I (jH (Ar h I ?_ ?_))
 intro M h
 obtain ⟨N, O, h⟩ := Ac h
 exact jG (Af 2 I (jI [] I (jQ 1 (([b.2.2.2] : Li).map rI) (jI [2] I (jV 2 I O fun P => Af 1 I (jH (lg ⟨(p.2.L_, p.2.At, N), P, h, I2⟩ N3)))))))
 intro M h
 exact jL (lg ⟨(p.2.L_, p.2.At, b.2.2.1), i, h, I2⟩ N3)
 rintro s ob ⟨j, n, h, rfl, rfl⟩
 unfold Nn.J4 at h
 refine jG (Af 3 I ?_)
 cases io h
 exact jH ⟨_, _, _, I, ⟨n, I2⟩, J4, pk N3⟩
 intro H h
 obtain rfl := F _ (oi h).symm
 have h := D
 exact jP (lg ⟨(b.1, b.2.1, b.2.2.1), i, h, I2⟩ N3)
 rintro s ob ⟨f, k, h, rfl, rfl⟩
 unfold Nn.J1 at h
 refine Ai (fun s ob => ∃ (c : Li × Int × Li) (g : Value), Nn.J2 c = some r ∧ s = [(5, .v g)] ∧ ob = [O2 a [[Q0 c.1, .V c.2.1]], U0 g c.2.2]) [] J ?_ ?_
 refine jK (jG (Af 1 I (jR (Cp 2 I I I I) I (Af 1 I (jH (Ar h I ?_ ?_))))))
 intro Q h
 obtain ⟨t, R, h⟩ := Ac h
 refine jG (Ao 4 [.o 2 1, .l 3 (e.Segments.length : Int)] I ⟨As, I, J⟩ (jI [0] I (Av [0] (Cs a _ _ _ R) ?_)))
 exact jI [] I (jY (sz := 1) (es := ([t.1] : Li).map rI) I I I I I I I I I I I dS fun S => Af 1 I (jH (lg ⟨(t.2.L_, t.2.At, ([t.1] : Li)), S, h, I2⟩ [0, 3])))
 intro Q h
 exact jL (lg ⟨(f.1, f.2.1, f.2.2), k, h, I2⟩ [0, 2])
 rintro s ob ⟨c, g, h, rfl, rfl⟩
 refine Aj I ?_
 obtain rfl := oi h
 exact jN ⟨.inr I, [_], [O2 a [[Q0 c.1, .V c.2.1]], U0 g c.2.2], J1, Cx I (Cx I (Ct)), ⟨[O2 a [[Q0 c.1, .V c.2.1]]], [U0 g c.2.2], I, I, g, I3⟩⟩
theorem X8 (b : Plan) (r : Lineup) (h : Mw b = some r) : ACalls Ah 44 [.agg (Al b)] [] (RV (.agg (I4 r))) := by
 refine Ae Tryz.func44 I I I fun C hC => ?_
 unfold Mw at h
 refine Ab fun y1 A => jG (jI [] I (Br (Al b) 3 fun p => jI [] I (Bf [.N, .N] 2 fun e => jH ?_)))
 subst A
 refine Ab fun y4 B => jG (jI [] I (Bf [.N, .N] 2 fun f => jH ?_))
 subst B
 refine Ai (fun s ob => ∃ (c : List Bool) (a : Value), Mw.J1 b c = some r ∧ s = [] ∧ ob = [O0 p [Al b], O8 e [[.N, .N]], O8 f [[.v a, .N]], U1 a c]) (K3 1 2 3) J3 ?_ ?_
 refine Aj I (jM (jO (Au 4 1) ?_))
 obtain ⟨ae, D, E⟩ := Ac h
 refine Cg D (K3 1 2 3) J3 (fun (i : (List Bool) × Int) s ob => ∃ (j : Value), s = [(4, .V i.2)] ∧ ob = [O0 p [Al b], O8 e [[.N, .N]], O8 f [[.v j, .N]], U1 j i.1]) ⟨nS, I2⟩ ⟨I, J⟩ (pk N4) ?_
 rintro i af s ob ⟨j, rfl, rfl⟩ h F
 refine Ab fun ag G => Bd [.o 2 0, .l 3 (b.Rates.length : Int)] I ⟨As, I, J⟩ (Ar h I ?_ ?_)
 intro H h
 refine jL ?_
 subst G
 refine jK (jM ?_)
 obtain ⟨t, ⟨M, O⟩, h⟩ := Bh h
 obtain ⟨ah, P, h⟩ := Ac h
 refine jT fT [2, 0] [_, _] I (Bx 8 [.o 1 0, .o 3 1, .x 5 t.1 (rI t.2)] I ⟨⟨M, Ag O⟩, I, I, J⟩ (jJ [] I I I (jQ 1 (([(t.2 != 0)] : List Bool).map rB) (jJ [3] I I I (jV 3 I P fun w => Ax 1 I (jW 3 I fun Q => kA [2] I I I (jS 2 0 0 (es' := [[.v w, .N]]) I I I I I I (A8 Q) I (A6 I) I I (Ap (jH (jG (Af 3 I ?_)))))))))))
 cases io h
 exact jH ⟨_, _, _, I, ⟨w, I2⟩, J4, pk N4⟩
 intro H h
 obtain rfl := F _ (oi h).symm
 have h := E
 exact jP (lg ⟨i.1, j, h, I2⟩ N4)
 rintro s ob ⟨c, a, h, rfl, rfl⟩
 unfold Mw.J1 at h
 refine Ai (fun s ob => ∃ (g : List Bool) (d : Value), Mw.J2 c g = some r ∧ s = [] ∧ ob = [O8 e [[.N, .N]], O8 f [[.v a, .v d]], U1 a c, U1 d g]) (K2 2 3) J2 ?_ ?_
 refine Aj I (jM (jO (Au 4 1) ?_))
 obtain ⟨ai, R, S⟩ := Ac h
 refine Cg R (K3 1 2 3) J3 (fun (k : (List Bool) × Int) s ob => ∃ (n : Value), s = [(5, .V k.2)] ∧ ob = [O0 p [Al b], O8 e [[.N, .N]], O8 f [[.v a, .v n]], U1 a c, U1 n k.1]) ⟨nS, I2⟩ ⟨I, J⟩ (pk N5) ?_
 rintro k aj s ob ⟨n, rfl, rfl⟩ h U
 refine Ab fun ak W => Bd [.o 2 0, .l 3 (b.Ports.length : Int)] I ⟨As, I, J⟩ (Ar h I ?_ ?_)
 intro X h
 refine jL ?_
 subst W
 refine jK (jM ?_)
 obtain ⟨u, ⟨Y, Z⟩, h⟩ := Bh h
 obtain ⟨al, aa, h⟩ := Ac h
 refine jT fT [2, 0] [_, _] I (Bx 8 [.o 1 0, .o 3 1, .x 5 u.1 (rI u.2)] I ⟨⟨Y, Ag Z⟩, I, I, J⟩ (jJ [] I I I (jQ 1 (([(u.2 != 0)] : List Bool).map rB) (jJ [4] I I I (jV 4 I aa fun y => Ax 1 I (jW 4 I fun ab => kA [2] I I I (jS 2 0 1 (es' := [[.v a, .v y]]) I I I I I I (A8 ab) I (A6 I) I I (Ap (jH (jG (Af 3 I ?_)))))))))))
 cases io h
 exact jH ⟨_, _, _, I, ⟨y, I2⟩, J4, pk N5⟩
 intro X h
 obtain rfl := U _ (oi h).symm
 have h := S
 exact jP (lg ⟨k.1, n, h, I2⟩ [1, 2, 3, 4])
 rintro s ob ⟨g, d, h, rfl, rfl⟩
 unfold Mw.J2 at h
 refine jK (jG (Ao 1 [.o 0 1] I J1 (jI [0] I (A1 0 0 0 [[.v a, .v d]] I (jH (jO (Ba [2, 3] (K := [U1 a c, U1 d g]) I [] J (ob' := [O8 e [[Q5 c, Q5 g]], O8 f [[.v a, .v d]]]) (.cons (.arr (.cons (.us 0 I) (.cons (.us 1 I) (.rest _)))) (.rest _))) (C9 [0] I ?_)))))))
 cases io h
 exact jN ⟨.inr I, [_], [], ⟨⟨0, _, _, _, _, _, _, _, I5⟩, J⟩, Ct, I2⟩
theorem Y3 (a : Lineup) (r : List Bool) (h : Ro a = some r) : ACalls Ah 43 [.agg (I4 a)] [] (fun x new => ∃ (b : Value), x = .v b ∧ new = [U1 b r]) := by
 refine Ae Tryz.func43 I I I fun C hC => ?_
 refine jK (jG (jI [] I (Br (I4 a) 2 fun g => Af 1 I (jH (jK ?_)))))
 obtain ⟨i, d, h⟩ := Ac h
 obtain ⟨e, f, h⟩ := Ac h
 refine jT (.still 1 (.still 2 (.still 4 (.still 5 (.act 0 (.act 3 (.act 6 (.still 7 .nil)))))))) [0] [_] I (Bx 4 [.o 1 0, .o 3 0] I J2 (jJ [] I I I (jY (sz := 1) (es := ([] : List Bool).map rB) I I I I I I I I I I I dS fun j => jJ [1] I I I (jV 1 I d fun k => jJ [1] I I I (jV 1 I f fun c => Ff 2 (Ax 1 I (Ap (jH (C9 [1] I ?_)))))))))
 obtain rfl := oi h
 exact jN ⟨.inr I, [_], [U1 c e], J1, Cx I (Ct), ⟨c, I2⟩⟩
theorem Yu (a : Li) (r : Bool) (h : Up a = r) : ACalls Ah 6 [Q0 a] [] (RB r) := by
 refine Ae Tryz.func6 I I I fun C hC => ?_
 unfold Up at h
 refine Aj I (Bd [.l 1 (a.length : Int)] I ⟨As, J⟩ ?_)
 obtain rfl := h
 exact jN pr
theorem Zf (R : Li) (r : Bool) (h : Rs R = some r) : ACalls Ah 5 [Q0 R] [] (RB r) := by
 refine Ae Tryz.func5 I I I fun C hC => ?_
 refine Aj I (Ab fun y2 ap => jK (jG (Af 1 I (jU (Yu R _ I) (Af 1 I (jH (Ar h I ?_ ?_)))))))
 intro aq h
 refine jK ?_
 obtain ⟨r4, ar, h⟩ := Ac h
 refine jG (jU (Qk  _ ar) (Af 1 I (jH ?_)))
 cases io h
 exact jN pr
 intro aq h
 refine jL ?_
 subst ap
 refine Ab fun y6 au => ?_
 obtain ⟨r7, av, h⟩ := Ac h
 refine jG (Af 1 I (jI [] I (Cq I I I (Y5 _ _ av) dS ?_)))
 rintro _ _ ⟨O, rfl, rfl⟩
 refine Af 1 I (jH ?_)
 subst au
 refine Ab fun b1 aw => ?_
 obtain ⟨f, ax, h⟩ := Ac h
 refine jG (Af 1 I (jI [0] I (Av [0] (Ze O _ _ ax) ?_)))
 refine jI [] I (Bf W4 6 fun j => jI [1] I (A1 1 0 0 [Aa f.1] I (jH ?_)))
 subst aw
 refine Ab fun b2 ay => ?_
 obtain ⟨b, az, h⟩ := Ac h
 refine jG (Ao 2 [.o 1 1] I J1 (jI [0] I (Av [0] (Y7 O _ _ _ az) ?_)))
 refine jI [] I (Bf W0 3 fun n => jI [2] I (A1 2 0 0 [Al b.1] I (jH ?_)))
 subst ay
 refine Ab fun b3 a0 => ?_
 obtain ⟨u, a1, h⟩ := Ac h
 refine jG (Ao 2 [.o 1 1] I J1 (jI [0] I (Fk [0] (Zn O _ _ _ a1) ?_)))
 rintro _ _ _ - ⟨a2, rfl, rfl, rfl⟩
 refine Af 1 I (jH ?_)
 subst a0
 refine Ab fun b4 a3 => ?_
 obtain ⟨a, a4, h⟩ := Ac h
 refine jG (Ao 3 [.o 0 1, .o 1 2] I J2 (AO.ghost (Ba [3] (K := [U0 a2 u.1]) I [(29, Q0 u.1), (6, Q0 u.1), (33, Q0 u.1)] ⟨⟨_, I, .us 0 I⟩, ⟨_, I, .us 0 I⟩, ⟨_, I, .us 0 I⟩, J⟩ (ob' := [O2 O [Cd u.2], O1 j [Aa f.1], O0 n [Al b.1]]) (.rest _)) (jI [] I (Cq I I I (Qt _ _ _ _ a4) dS ?_))))
 rintro _ _ ⟨rfl, rfl⟩
 refine Af 3 I (jI [] I (Bf W0 3 fun p => jI [3] I (A1 3 0 0 [Al a.1] I (Af 1 I (jH ?_)))))
 subst a3
 refine Ab fun b5 a5 => ?_
 obtain ⟨ag, a6, h⟩ := Ac h
 refine jG (Ao 3 [.o 0 1, .o 1 3] I J2 (jI [] I (Cq I I I (Qt _ _ _ _ a6) dS ?_)))
 rintro _ _ ⟨rfl, rfl⟩
 refine Af 3 I (jI [] I (Bf W0 3 fun b6 => jI [4] I (A1 4 0 0 [Al ag.1] I (Af 1 I (jH ?_)))))
 subst a5
 refine Ab fun b7 a7 => ?_
 obtain ⟨w, a8, h⟩ := Ac h
 refine jG (Ao 2 [.o 0 1] I J1 (jI [] I (Cq I I I (H6 _ _ _ a8) dS ?_)))
 rintro _ _ ⟨S, rfl, rfl⟩
 refine Af 5 I (jH ?_)
 subst a7
 refine Ab fun b8 a9 => Ai (fun s ob => ∃ (U : Bool), Rs.J1 f b a w U = some r ∧ s = [(83, .v (.bool U))] ∧ ob = [O1 j [Aa f.1], O0 n [Al b.1], O0 p [Al a.1], U0 S w.1]) (K4 4 5 7 11) J4 ?_ ?_
 refine jG (Af 3 I ?_)
 rcases bt ((a.2 != 0)) with A | A
 have h := Bp A h
 exact Ad 52 I A (Af 31 I (jH (lg ⟨true, h, I2⟩ [1, 2, 3, 5])))
 have h := Bq A h
 refine Ad 52 I A ?_
 rcases bt ((ag.2 != 0)) with t | t
 have h := Bp t h
 exact Af 4 I (Ad 56 I t (Af 27 I (jH (lg ⟨true, h, I2⟩ [1, 2, 3, 5]))))
 have h := Bq t h
 rcases bt ((w.2 != 0)) with B | B
 have h := Bp B h
 exact Af 4 I (Ad 56 I t (Af 4 I (Ad 60 I B (Af 23 I (jH (lg ⟨true, h, I2⟩ [1, 2, 3, 5]))))))
 have h := Bq B h
 obtain ⟨ba, bb, h⟩ := Ac h
 refine Af 4 I (Ad 56 I t (Af 4 I (Ad 60 I B (Ao 2 [.o 0 3, .o 1 4] I J2 (A3 I I I (jU (Yh _ _ _ bb) (Af 3 I ?_)))))))
 rcases bt ((!ba)) with D | D
 have h := Bp D h
 exact Ad 66 I D (Af 17 I (jH (lg ⟨true, h, I2⟩ [1, 2, 3, 5])))
 have h := Bq D h
 refine Ad 66 I D (Ao 9 [.o 1 3, .l 2 (a.1.Rates.length : Int), .o 4 2, .l 5 (b.1.Rates.length : Int)] I ⟨As, I, As, I, J⟩ ?_)
 rcases bt (((a.1.Rates.length : Int) != (b.1.Rates.length : Int))) with E | E
 have h := Bp E h
 exact Ad 75 I E (Af 8 I (jH (lg ⟨true, h, I2⟩ [1, 2, 3, 5])))
 have h := Bq E h
 exact Ad 75 I E (Ao 8 [.o 1 3, .l 2 (a.1.Ports.length : Int), .o 4 2, .l 5 (b.1.Ports.length : Int)] I ⟨As, I, As, I, J⟩ (jH (lg ⟨((a.1.Ports.length : Int) != (b.1.Ports.length : Int)), h, I2⟩ [1, 2, 3, 5])))
 rintro s ob ⟨U, h, rfl, rfl⟩
 refine Ar h I ?_ ?_
 intro bc h
 refine Aj I (jO g0 ?_)
 cases io h
 exact jN pr
 intro bc h
 refine jL ?_
 subst a9
 refine Ab fun ca bd => ?_
 obtain ⟨cb, be, h⟩ := Ac h
 obtain ⟨W, bf, h⟩ := Ac h
 refine jG (Ao 1 [.o 0 2] I J1 (jI [] I (Cq I I I (X8 _ _ be) dS ?_)))
 rintro _ _ ⟨rfl, rfl⟩
 refine jI [] I (Cq I I I (Y3 _ _ bf) dS ?_)
 rintro _ _ ⟨ah, rfl, rfl⟩
 refine Af 1 I (jH ?_)
 subst bd
 refine Ai (fun s ob => ∃ (ai : Unit), Rs.J2 f b a ai = some r ∧ s = [] ∧ ob = [O1 j [Aa f.1], O0 n [Al b.1], O0 p [Al a.1]]) (K3 4 5 7) J3 ?_ ?_
 refine Aj I (jM ?_)
 obtain ⟨cc, bg, aj⟩ := Ac h
 refine Cg bg (K5 4 5 7 11 13) J5 (fun (X : Int) s ob => s = [(14, .V X)] ∧ ob = [O1 j [Aa f.1], O0 n [Al b.1], O0 p [Al a.1], U0 S w.1, U1 ah W]) ⟨I, I⟩ ⟨I, J⟩ (pk N5) ?_
 rintro X bh s ob ⟨rfl, rfl⟩ h ak
 refine Ab fun cd bi => jK (jG (Af 2 I (jR (Cp 3 I I I I) I (Af 1 I (jH (Ar h I ?_ ?_))))))
 intro bj h
 refine jL ?_
 subst bi
 refine jK (jM (Ai (fun s ob => ∃ (Y : Bool), Rs.J8 X Y = some bh ∧ s = [(115, .v (.bool Y))] ∧ ob = [O1 j [Aa f.1], O0 n [Al b.1], O0 p [Al a.1], U0 S w.1, U1 ah W]) (K6 4 5 7 11 13 14) J6 ?_ ?_))
 obtain ⟨e, ⟨P, k⟩, h⟩ := Bh h
 refine jG (Af 2 I (jR (Be 3 (m := e.1) I I I I I I I P (Ag k)) I (jR (A7 3 e.1 0 I I I (Ag k) I (y := .V e.2) I) I (Af 2 I ?_))))
 rcases bt (decide (e.2 < 0)) with F | F
 have h := Bp F h
 exact Ad 98 I F (Af 17 I (jH (lg ⟨true, h, I2⟩ N5)))
 have h := Bq F h
 refine Ad 98 I F ?_
 rcases bt (decide (e.2 ≥ (W.length : Int))) with G | G
 have h := Bp G h
 exact Af 2 I (A3 I I I (jR (Be 3 (m := e.1) I I I I I I I P (Ag k)) I (A3 I I I (jR (A7 3 e.1 0 I I I (Ag k) I (y := .V e.2) I) I (Af 1 I (A3 I I I (jR (Cp 4 I I I I) I (Af 3 I (Ad 107 I G (Af 8 I (jH (lg ⟨true, h, I2⟩ N5))))))))))))
 have h := Bq G h
 obtain ⟨Q, ⟨bk, al⟩, h⟩ := Bh h
 refine Af 2 I (A3 I I I (jR (Be 3 (m := e.1) I I I I I I I P (Ag k)) I (A3 I I I (jR (A7 3 e.1 0 I I I (Ag k) I (y := .V e.2) I) I (Af 1 I (A3 I I I (jR (Cp 4 I I I I) I (Af 3 I (Ad 107 I G (Af 3 I (A3 I I I (jR (Be 3 (m := e.1) I I I I I I I P (Ag k)) I ?_))))))))))))
 exact A3 I I I (jR (A7 3 e.1 0 I I I (Ag k) I (y := .V e.2) I) I (A3 I I I (jR (Be 4 (m := Q.1) I I I I I I I bk (Ag al)) I (A3 I I I (jR (A7 4 Q.1 0 I I I (Ag al) I (y := .v (.bool Q.2)) I) I (Af 1 I (jH (lg ⟨Q.2, h, I2⟩ N5))))))))
 rintro s ob ⟨Y, h, rfl, rfl⟩
 refine Ar h I ?_ ?_
 intro bl h
 refine Aj I ?_
 obtain rfl := ak _ (oi h).symm
 have h := aj
 have h := De h
 refine jO g0 ?_
 cases io h
 exact jN pr
 intro bl h
 refine jL (jG (Af 3 I ?_))
 cases io h
 exact jH ⟨_, _, _, I, I2, J6, pk N5⟩
 intro bj h
 obtain rfl := ak _ (oi h).symm
 have h := aj
 have h := Db h
 exact jP (lg ⟨(), h, I2⟩ N3)
 rintro s ob ⟨ai, h, rfl, rfl⟩
 unfold Rs.J2 at h
 refine Ai (fun s ob => ∃ (am : Unit), Rs.J3 f a am = some r ∧ s = [] ∧ ob = [O1 j [Aa f.1], O0 p [Al a.1]]) (K2 4 7) J2 ?_ ?_
 refine Aj I (jM ?_)
 obtain ⟨ce, bm, an⟩ := Ac h
 refine Cg bm (K3 4 5 7) J3 (fun (Z : Int) s ob => s = [(15, .V Z)] ∧ ob = [O1 j [Aa f.1], O0 n [Al b.1], O0 p [Al a.1]]) ⟨I, I⟩ ⟨I, J⟩ (pk N3) ?_
 rintro Z bn s ob ⟨rfl, rfl⟩ h ao
 refine Ab fun cf bo => Bd [.o 2 1, .l 3 (b.1.Rates.length : Int)] I ⟨As, I, J⟩ (Ar h I ?_ ?_)
 intro bp h
 refine jL ?_
 subst bo
 refine jK (jM (Ai (fun s ob => ∃ (aa : Bool), Rs.J6 Z aa = some bn ∧ s = [(161, .v (.bool aa))] ∧ ob = [O1 j [Aa f.1], O0 n [Al b.1], O0 p [Al a.1]]) (K4 4 5 7 15) J4 ?_ ?_))
 obtain ⟨g, ⟨ab, ac⟩, h⟩ := Bh h
 obtain ⟨i, ⟨ad, ae⟩, h⟩ := Bh h
 refine jT (pd 39 0 []) [2, 1] [_, _] I (Bx 13 [.o 1 0, .x 3 g.1 (rI g.2), .o 6 1, .x 8 i.1 (rI i.2)] I ⟨⟨ad, Ag ae⟩, I, ⟨ab, Ag ac⟩, I, J⟩ ?_)
 rcases bt (decide ((wr (g.2 * i.2)) < 0)) with H | H
 have h := Bp H h
 exact A4 135 I H (Ax 26 I (Ap (jH (lg ⟨true, h, I2⟩ N3))))
 have h := Bq H h
 exact A4 135 I H (Bx 26 [.o 1 0, .x 3 g.1 (rI g.2), .o 6 0, .x 8 g.1 (rI g.2), .o 13 1, .x 15 i.1 (rI i.2), .o 18 1, .x 20 i.1 (rI i.2)] I ⟨⟨ad, Ag ae⟩, I, ⟨ad, Ag ae⟩, I, ⟨ab, Ag ac⟩, I, ⟨ab, Ag ac⟩, I, J⟩ (Ap (jH (lg ⟨decide ((max g.2 (wr (0 - g.2))) > (max i.2 (wr (0 - i.2)))), h, I2⟩ N3))))
 rintro s ob ⟨aa, h, rfl, rfl⟩
 refine Ar h I ?_ ?_
 intro bq h
 refine Aj I ?_
 obtain rfl := ao _ (oi h).symm
 have h := an
 have h := De h
 refine jO g0 ?_
 cases io h
 exact jN pr
 intro bq h
 refine jL (jG (Af 3 I ?_))
 cases io h
 exact jH ⟨_, _, _, I, I2, J4, pk N3⟩
 intro bp h
 obtain rfl := ao _ (oi h).symm
 have h := an
 have h := Db h
 exact jP (lg ⟨(), h, I2⟩ [0, 2])
 rintro s ob ⟨am, h, rfl, rfl⟩
 unfold Rs.J3 at h
 refine Ai (fun s ob => ∃ (af : Bool), Rs.J4 af = some r ∧ s = [(2, .v (.bool af))] ∧ ob = []) [] J ?_ ?_
 obtain ⟨br, bs, h⟩ := Ac h
 refine jG (Ao 2 [.o 0 0, .o 1 1] I J2 (jU (Qe _ _ _ bs) (Af 2 I ?_)))
 rcases bt ((br == 0)) with M | M
 have h := Bp M h
 obtain ⟨bu, bv, h⟩ := Ac h
 exact Ad 166 I M (A3 I I I (jU (Qk  _ bv) (Af 2 I (jH (lg ⟨bu, h, I2⟩ [])))))
 have h := Bq M h
 exact Ad 166 I M (Af 3 I (jH (lg ⟨false, h, I2⟩ [])))
 rintro s ob ⟨af, h, rfl, rfl⟩
 unfold Rs.J4 at h
 cases io h
 exact jN pr
end Go.Proofs.YtihdchjpepkpbaaGreat
