/- Walks that show what functions of the program compute; printed by a program of ours. No condition. -/
import Derived.Test.YtodeekicjiengaaGreatDoorYvLv1
import Derived.Test.YtodeekicjiengaaGreatDoorYvL5
import Derived.Test.YtodeekicjiengaaGreatDoorYvL4c
import Derived.Test.YtodeekicjiengaaGreatDoorYvL4b
import Derived.Test.YtodeekicjiengaaGreatDoorYvLg4
import Derived.Test.YtodeekicjiengaaGreatDoorYvLr2
import Derived.Test.YtodeekicjiengaaGreatDoorYvD
set_option maxRecDepth 100000
namespace Go.Proofs.YtodeekicjiengaaGreatDoor
open Go.Aw
set_option linter.unusedVariables false
set_option linter.unusedSimpArgs false
set_option maxHeartbeats 4000000
theorem dN (M : Li) (i : Int) (r : Bool) (h : Uq M i = some r) : ACalls Aj 4 [Q0 M, .v (.int .u8 i)] [] (fun x new => x = .v (.bool r) ∧ new = []) := by
 refine Ad Tryz.func4 I I I fun C hC => ?_
 refine Ah I (Fv (s' := [(0, Q0 M), (1, .v (.int .u8 i))]) (ob' := []) ⟨J2, [], I, by decide⟩ (Aa fun y2 Q => ?_))
 obtain ⟨R, S, h⟩ := Ac h
 refine sH (Ag 1 I (sJ [] I (Ci I I I (gL _ _ S) dS ?_)))
 rintro _ _ ⟨f, rfl, rfl⟩
 refine Ag 1 I (sI ?_)
 subst Q
 refine Fv (s' := [(1, .v (.int .u8 i)), (5, .v (.pointer (some ⟨f, 0, none⟩)))]) (ob' := [O2 f [Cp R]]) ⟨J2, [0], I, by decide⟩ (Aa fun y6 U => ?_)
 obtain ⟨u, W, h⟩ := Ac h
 obtain ⟨w, X, h⟩ := Ac h
 refine sH (Ag 1 I (sJ [0] I (A1 [0] (gZ f _ _ W) ?_)))
 refine Ag 1 I (sJ [0] I (Ik [0] (gX f _ _ X) ?_))
 rintro _ _ _ - ⟨j, rfl, rfl, rfl⟩
 refine sJ [] I (sS W3 6 fun k => sJ [2] I (A3 2 0 0 [Ab u.1] I (Ag 1 I (sI ?_))))
 subst U
 refine Fv (s' := [(1, .v (.int .u8 i)), (5, .v (.pointer (some ⟨f, 0, none⟩))), (6, .v (.pointer (some ⟨k, 0, none⟩))), (7, .v j)]) (ob' := [O2 f [Cp w.2], U7 j w.1, O0 k [Ab u.1]]) ⟨J4, [0, 1, 2], I, by decide⟩ (Aa fun an Y => ?_)
 obtain ⟨F, Z, h⟩ := Ac h
 obtain ⟨B, aa, h⟩ := Ac h
 refine sH (An 2 [.o 1 2] I J1 (sJ [0] I (Ik [0] (iL f _ _ _ _ Z) ?_)))
 rintro _ _ _ - ⟨n, rfl, rfl, rfl⟩
 refine Ag 2 I (sV (Cz 1 I I I I) I (sJ [0] I (Ik [0] (gK f _ _ _ _ aa) ?_)))
 rintro _ _ _ - ⟨t, rfl, rfl, rfl⟩
 refine Ag 2 I (sI ?_)
 subst Y
 refine Fv (s' := [(1, .v (.int .u8 i)), (5, .v (.pointer (some ⟨f, 0, none⟩))), (6, .v (.pointer (some ⟨k, 0, none⟩))), (7, .v j), (8, .v n), (9, .v t)]) (ob' := [O2 f [Cp B.2], U7 j w.1, O0 k [Ab u.1], .us n 74 1 (F.1.map (rL 2 A9)), U8 t B.1]) ⟨J6, [0, 1, 2, 3, 4], I, by decide⟩ (Aa fun ao ab => ?_)
 obtain ⟨e, ac, h⟩ := Ac h
 refine sH (An 2 [.o 1 2] I J1 (sJ [0] I (A1 [0] (gJ f _ _ _ ac) ?_)))
 refine sJ [] I (sS W0 3 fun y => sJ [5] I (A3 5 0 0 [Am e.1] I (sI ?_)))
 subst ab
 refine Fv (s' := [(1, .v (.int .u8 i)), (6, .v (.pointer (some ⟨k, 0, none⟩))), (7, .v j), (8, .v n), (9, .v t), (10, .v (.pointer (some ⟨y, 0, none⟩)))]) (ob' := [O2 f [Cp e.2], U7 j w.1, O0 k [Ab u.1], .us n 74 1 (F.1.map (rL 2 A9)), U8 t B.1, O1 y [Am e.1]]) ⟨J6, [0, 1, 2, 3, 4, 5], I, by decide⟩ (Aa fun ap ad => ?_)
 obtain ⟨b, ae, h⟩ := Ac h
 refine sH (An 5 [.o 0 2, .o 4 5] I J2 (sT (Au (l := [.V 0, Q0 e.1.Rates, Q0 e.1.Ports, Q5 e.1.Pumps]) Lf I) I (sJ [] I (sR 4 (([(⟨0, e.1⟩ : Change)] : List Change).map De) (sJ [] I (Cl I (.refl _) I I (.cons (.refl _) (.cons (.us 4 I) (.cons (.us 1 I) (.cons (.us 3 I) (.rest _))))) I (T4 _ _ _ _ _ _ ae) dS (by rintro _ _ ⟨rfl, _⟩; rfl) ?_))))))
 rintro _ ⟨_, rfl, -⟩
 refine Ag 3 I (sJ [] I (sS W1 3 fun D => sJ [6] I (A3 6 0 0 [Cq b.1] I (Ag 1 I (sI ?_)))))
 subst ad
 refine Fv (s' := [(1, .v (.int .u8 i)), (6, .v (.pointer (some ⟨k, 0, none⟩))), (7, .v j), (8, .v n), (9, .v t), (10, .v (.pointer (some ⟨y, 0, none⟩))), (11, .v (.pointer (some ⟨D, 0, none⟩))), (12, .V b.2)]) (ob' := [O2 f [Cp e.2], U7 j w.1, O0 k [Ab u.1], .us n 74 1 (F.1.map (rL 2 A9)), U8 t B.1, O1 y [Am e.1], O6 D [Cq b.1]]) ⟨J8, [0, 1, 2, 3, 4, 5, 6], I, by decide⟩ (Aa fun aq af => ?_)
 obtain ⟨g, ag, h⟩ := Ac h
 refine sH (An 5 [.o 0 2, .o 4 5] I J2 (sT (Au (l := [.V 0, Q0 e.1.Rates, Q0 e.1.Ports, Q5 e.1.Pumps]) Lf I) I (Ag 1 I (sT (L7 (c := wr (i)) I I I I I) I (An 2 [.o 1 5] I J1 (sT (Au (l := [.V (wr (1 + (wr (i)))), Q0 e.1.Rates, Q0 e.1.Ports, Q5 e.1.Pumps]) Lf I) I (sJ [] I (sR 4 (([(⟨0, e.1⟩ : Change), (⟨wr (1 + (wr (i))), e.1⟩ : Change)] : List Change).map De) (sJ [] I (Cl I (.refl _) I I (.cons (.refl _) (.cons (.us 4 I) (.cons (.us 1 I) (.cons (.us 3 I) (.rest _))))) I (T4 _ _ _ _ _ _ ag) dS (by rintro _ _ ⟨rfl, _⟩; rfl) ?_))))))))))
 rintro _ ⟨_, rfl, -⟩
 refine Ag 3 I (sJ [] I (sS W1 3 fun K => sJ [7] I (A3 7 0 0 [Cq g.1] I (Ag 1 I (sI ?_)))))
 subst af
 refine Fv (s' := [(6, .v (.pointer (some ⟨k, 0, none⟩))), (7, .v j), (8, .v n), (9, .v t), (10, .v (.pointer (some ⟨y, 0, none⟩))), (11, .v (.pointer (some ⟨D, 0, none⟩))), (12, .V b.2), (13, .v (.pointer (some ⟨K, 0, none⟩))), (14, .V g.2)]) (ob' := [O2 f [Cp e.2], U7 j w.1, O0 k [Ab u.1], .us n 74 1 (F.1.map (rL 2 A9)), U8 t B.1, O1 y [Am e.1], O6 D [Cq b.1], O6 K [Cq g.1]]) ⟨J9, [0, 1, 2, 3, 4, 5, 6, 7], I, by decide⟩ (Aa fun ar ah => ?_)
 obtain ⟨a, ai, h⟩ := Ac h
 refine sH (An 5 [.o 0 2, .o 4 5] I J2 (sJ [] I (Cl I (.refl _) I I (.cons (.refl _) (.cons (.us 4 I) (.cons (.us 1 I) (.cons (.us 3 I) (.rest _))))) I (gO _ _ _ _ _ _ ai) dS (by rintro _ _ ⟨rfl, _⟩; rfl) ?_)))
 rintro _ ⟨_, rfl, -⟩
 refine Ag 3 I (sJ [] I (sS W1 3 fun P => sJ [8] I (A3 8 0 0 [Cq a.1] I (Ag 1 I (sI ?_)))))
 subst ah
 refine Fv (s' := [(11, .v (.pointer (some ⟨D, 0, none⟩))), (12, .V b.2), (13, .v (.pointer (some ⟨K, 0, none⟩))), (14, .V g.2), (15, .v (.pointer (some ⟨P, 0, none⟩))), (16, .V a.2)]) (ob' := [O2 f [Cp e.2], U7 j w.1, O0 k [Ab u.1], .us n 74 1 (F.1.map (rL 2 A9)), U8 t B.1, O1 y [Am e.1], O6 D [Cq b.1], O6 K [Cq g.1], O6 P [Cq a.1]]) ⟨J6, [0, 1, 2, 3, 4, 5, 6, 7, 8], I, by decide⟩ (Ai (fun s ob => ∃ (O : Bool), Uq.J1 O = some r ∧ s = [(4, .v (.bool O))] ∧ ob = []) [] J ?_ ?_)
 refine sH (Ag 4 I ?_)
 rcases bt ((b.2 == a.2)) with G | G
 replace h := Bq G h
 refine Af 72 I G ?_
 rcases bt (((b.1.Kind == a.1.Kind) && ((b.1.Index == a.1.Index) && ((b.1.At == a.1.At) && true)))) with A | A
 replace h := Bq A h
 rcases bt ((g.2 == a.2)) with E | E
 replace h := Bq E h
 rcases bt (((g.1.Kind == a.1.Kind) && ((g.1.Index == a.1.Index) && ((g.1.At == a.1.At) && true)))) with H | H
 replace h := Bq H h
 obtain ⟨aj, ak, h⟩ := Ac h
 refine An 2 [.o 0 6, .o 1 8] I J2 (Cd I I I (sT (E5 (r := ((b.1.Kind == a.1.Kind) && ((b.1.Index == a.1.Index) && ((b.1.At == a.1.At) && true)))) I I Gl I I I I) I (Ag 2 I (Af 77 I A (Ag 5 I (Af 82 I E (An 2 [.o 0 7, .o 1 8] I J2 (Cd I I I (sT (E5 (r := ((g.1.Kind == a.1.Kind) && ((g.1.Index == a.1.Index) && ((g.1.At == a.1.At) && true)))) I I Gl I I I I) I (Ag 2 I (Af 87 I H (Cd I I I ?_))))))))))))
 refine Cc (gG  _ ak) (Ag 2 I (sI ?_))
 exact lg ⟨aj, h, I2⟩ []
 replace h := Br H h
 refine An 2 [.o 0 6, .o 1 8] I J2 (Cd I I I (sT (E5 (r := ((b.1.Kind == a.1.Kind) && ((b.1.Index == a.1.Index) && ((b.1.At == a.1.At) && true)))) I I Gl I I I I) I (Ag 2 I (Af 77 I A (Ag 5 I (Af 82 I E (An 2 [.o 0 7, .o 1 8] I J2 (Cd I I I (sT (E5 (r := ((g.1.Kind == a.1.Kind) && ((g.1.Index == a.1.Index) && ((g.1.At == a.1.At) && true)))) I I Gl I I I I) I (Ag 2 I (Af 87 I H (Ag 3 I ?_))))))))))))
 exact sI (lg ⟨false, h, I2⟩ [])
 replace h := Br E h
 refine An 2 [.o 0 6, .o 1 8] I J2 (Cd I I I (sT (E5 (r := ((b.1.Kind == a.1.Kind) && ((b.1.Index == a.1.Index) && ((b.1.At == a.1.At) && true)))) I I Gl I I I I) I (Ag 2 I (Af 77 I A (Ag 5 I (Af 82 I E (Ag 8 I (sI ?_))))))))
 exact lg ⟨false, h, I2⟩ []
 replace h := Br A h
 refine An 2 [.o 0 6, .o 1 8] I J2 (Cd I I I (sT (E5 (r := ((b.1.Kind == a.1.Kind) && ((b.1.Index == a.1.Index) && ((b.1.At == a.1.At) && true)))) I I Gl I I I I) I (Ag 2 I (Af 77 I A (Ag 13 I (sI ?_))))))
 exact lg ⟨false, h, I2⟩ []
 replace h := Br G h
 refine Af 72 I G (Ag 18 I (sI ?_))
 exact lg ⟨false, h, I2⟩ []
 rintro s ob ⟨O, h, rfl, rfl⟩
 obtain rfl := oi h
 exact sO pr
end Go.Proofs.YtodeekicjiengaaGreatDoor
