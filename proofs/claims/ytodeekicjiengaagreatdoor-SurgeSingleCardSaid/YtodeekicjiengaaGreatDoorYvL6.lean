/- Walks that show what functions of the program compute; printed by a program of ours. No condition. -/
import Derived.Test.YtodeekicjiengaaGreatDoorYvL2
import Derived.Test.YtodeekicjiengaaGreatDoorYvD
set_option maxRecDepth 100000
namespace Go.Proofs.YtodeekicjiengaaGreatDoor
open Go.Aw
set_option linter.unusedVariables false
set_option linter.unusedSimpArgs false
set_option maxHeartbeats 4000000
theorem Dh (a : Int) (c : Int) (d : Int) (r : Bool) (h : Ck a c d = r) : ACalls Aj 154 [.V a, .V c, .V d] [] (fun x new => x = .v (.bool r) ∧ new = []) := by
 refine Ad Tryz.func154 I I I fun C hC => ?_
 unfold Ck at h
 refine Ah I (Ai (fun s ob => s = [(6, .v (.bool (decide (a ≥ c) && decide (a ≤ d))))] ∧ ob = []) [] J ?_ ?_)
 refine sH (Ag 4 I ?_)
 rcases bt (decide (a ≥ c)) with b | b
 refine Af 10 I b (Ag 5 I (sI ?_))
 exact lf I2 ⟨(Dn (by simp only [b, bz])), J⟩ [] I
 refine Af 10 I b (Ag 5 I (sI ?_))
 exact lf I2 ⟨(Dn (by simp only [b, bz])), J⟩ [] I
 rintro s ob ⟨rfl, rfl⟩
 obtain rfl := h
 exact sO pr
theorem gP (a : Nw) (r : Arr (List Bt) 4) (h : Qf a = some r) : ACalls Aj 155 [.agg (Ab a)] [] (fun x new => x = .agg (r.l.map (cL 1 rS)) ∧ new = []) := by
 refine Ad Tryz.func155 I I I fun C hC => ?_
 unfold Qf at h
 refine Aa fun y1 U => sH (sJ [] I (Bo (Ab a) 6 fun u => sJ [] I (sS W4 4 fun f => sI ?_)))
 subst U
 refine Aa fun y4 W => sH (sJ [] I (sS W4 4 fun g => sI ?_))
 subst W
 refine Aa fun y6 X => sH (An 2 [.o 1 0] I J1 (sT (Dt (m := 0) I I I I I I (Ca I)) I (sJ [2] I (A3 2 0 0 [[Q1 a.Nodes, .N, .N, .N]] I (sI ?_)))))
 subst X
 refine Ai (fun s ob => ∃ (c : List Bt) (b : Value), Qf.J1 a c = some r ∧ s = [] ∧ ob = [O0 u [Ab a], O7 f [W4], O7 g [[Q1 a.Nodes, .v b, .N, .N]], U3 b c]) [(1, _), (2, _), (3, _)] J3 ?_ ?_
 refine Bh [.o 1 0, .l 2 (a.Segments.length : Int)] I ⟨Ay, I, J⟩ (sM (Bz 14 I fun Y => sP (Bv 9 1) ?_))
 obtain ⟨a5, Z, aa⟩ := Ac h
 clear h
 refine Ct Z [(1, _), (2, _), (3, _), (14, _), (15, _)] J5 (fun (w : Nat) (y : List Bt) s ob => ∃ (j : Value), s = [(16, .V (w : Int))] ∧ ob = [O0 u [Ab a], O7 f [W4], O7 g [[Q1 a.Nodes, .v j, .N, .N]], U3 j y]) ⟨(.slice none 0 0), I2⟩ ⟨I, J⟩ ⟨[0, 1, 2, 3], I, by decide⟩ ?_ ?_
 rintro w F y a6 s ob ab M ⟨j, rfl, rfl⟩ h
 have ac := Cn M
 refine Ah I (Aa fun a7 ad => Bs I ac (sL ?_))
 subst ad
 refine sN (sM (sN (sH (An 2 [.x 0 w (Ak F)] I ⟨⟨I, Ae ab⟩, J⟩ (sJ [] I (sS W2 7 fun a8 => sJ [4] I (A3 4 0 0 [Ak F] I (sI ?_))))))))
 obtain ⟨a9, ae, h⟩ := Ac h
 refine sH (sT (Dt (m := 1) I I I I I I (Ca I)) I (An 3 [.o 0 2, .o 2 4] I J2 (sJ [] I (sR 1 (([F.Name] : List Bt).map rS) (sJ [3] I (C7 3 I ae fun O => sT (Dt (m := 1) I I I I I I (Ca I)) I (tE 3 I fun af => sJ [2] I (sZ 2 0 1 (es' := [[Q1 a.Nodes, .v O, .N, .N]]) I I I I I I (A7 af) I (Ca I) I I (sI (sH (An 2 [.k 0 (w + 1 : Nat)] I ⟨A0 M Y, J⟩ ?_)))))))))))
 obtain rfl := oi h
 exact sI (lg ⟨O, I2⟩ [0, 1, 2, 3])
 rintro y s ob ⟨j, rfl, rfl⟩ he
 subst he
 have h := aa
 have ag := Co a.Segments.length
 refine Ah I (Aa fun ba bb => Bu I ag (sQ ?_))
 exact lg ⟨y, j, h, I2⟩ [0, 1, 2, 3]
 rintro s ob ⟨c, b, h, rfl, rfl⟩
 unfold Qf.J1 at h
 refine Ai (fun s ob => ∃ (e : List Bt) (d : Value), Qf.J2 a c e = some r ∧ s = [] ∧ ob = [O0 u [Ab a], O7 f [W4], O7 g [[Q1 a.Nodes, .v b, .v d, .N]], U3 b c, U3 d e]) [(1, _), (2, _), (3, _)] J3 ?_ ?_
 refine Bh [.o 1 0, .l 2 (a.Ports.length : Int)] I ⟨Ay, I, J⟩ (sM (Bz 29 I fun ah => sP (Bv 9 1) ?_))
 obtain ⟨bc, ai, aj⟩ := Ac h
 clear h
 refine Ct ai [(1, _), (2, _), (3, _), (29, _), (30, _)] J5 (fun (A : Nat) (B : List Bt) s ob => ∃ (n : Value), s = [(31, .V (A : Int))] ∧ ob = [O0 u [Ab a], O7 f [W4], O7 g [[Q1 a.Nodes, .v b, .v n, .N]], U3 b c, U3 n B]) ⟨(.slice none 0 0), I2⟩ ⟨I, J⟩ ⟨[0, 1, 2, 3, 4], I, by decide⟩ ?_ ?_
 rintro A G B bd s ob ak P ⟨n, rfl, rfl⟩ h
 have al := Cn P
 refine Ah I (Aa fun be am => Bs I al (sL ?_))
 subst am
 refine sN (sM (sN (sH (An 2 [.x 0 A (Cb G)] I ⟨⟨I, Ae ak⟩, J⟩ (sJ [] I (sS W6 3 fun bf => sJ [5] I (A3 5 0 0 [Cb G] I (sI ?_))))))))
 obtain ⟨bg, an, h⟩ := Ac h
 refine sH (sT (Dt (m := 2) I I I I I I (Ca I)) I (An 3 [.o 0 2, .o 2 5] I J2 (sJ [] I (sR 1 (([G.Name] : List Bt).map rS) (sJ [4] I (C7 4 I an fun Q => sT (Dt (m := 2) I I I I I I (Ca I)) I (tE 4 I fun ao => sJ [2] I (sZ 2 0 2 (es' := [[Q1 a.Nodes, .v b, .v Q, .N]]) I I I I I I (A7 ao) I (Ca I) I I (sI (sH (An 2 [.k 0 (A + 1 : Nat)] I ⟨A0 P ah, J⟩ ?_)))))))))))
 obtain rfl := oi h
 exact sI (lg ⟨Q, I2⟩ [0, 1, 2, 3, 4])
 rintro B s ob ⟨n, rfl, rfl⟩ he
 subst he
 have h := aj
 have aq := Co a.Ports.length
 refine Ah I (Aa fun bh bi => Bu I aq (sQ ?_))
 exact lg ⟨B, n, h, I2⟩ [0, 1, 2, 3, 4]
 rintro s ob ⟨e, d, h, rfl, rfl⟩
 unfold Qf.J2 at h
 refine Ai (fun s ob => ∃ (q : List Bt) (i : Value), Qf.J3 a c e q = some r ∧ s = [] ∧ ob = [O7 f [W4], O7 g [[Q1 a.Nodes, .v b, .v d, .v i]], U3 b c, U3 d e, U3 i q]) [(2, _), (3, _)] J2 ?_ ?_
 refine Bh [.o 1 0, .l 2 (a.Stations.length : Int)] I ⟨Ay, I, J⟩ (sM (Bz 44 I fun ar => sP (Bv 9 1) ?_))
 obtain ⟨bj, au, av⟩ := Ac h
 clear h
 refine Ct au [(2, _), (3, _), (44, _), (45, _)] J4 (fun (D : Nat) (E : List Bt) s ob => ∃ (t : Value), s = [(46, .V (D : Int))] ∧ ob = [O7 f [W4], O7 g [[Q1 a.Nodes, .v b, .v d, .v t]], U3 b c, U3 d e, U3 t E]) ⟨(.slice none 0 0), I2⟩ ⟨I, J⟩ ⟨[1, 2, 3, 4, 5], I, by decide⟩ ?_ ?_
 rintro D H E bk s ob aw R ⟨t, rfl, rfl⟩ h
 have ax := Cn R
 refine Ah I (Aa fun bl ay => Bs I ax (sL ?_))
 subst ay
 refine sN (sM (sN (sH (An 2 [.x 0 D (Ba H)] I ⟨⟨I, Ae aw⟩, J⟩ (sJ [] I (sS W5 5 fun bm => sJ [5] I (A3 5 0 0 [Ba H] I (sI ?_))))))))
 obtain ⟨bn, az, h⟩ := Ac h
 refine sH (sT (Dt (m := 3) I I I I I I (Ca I)) I (An 3 [.o 0 1, .o 2 5] I J2 (sJ [] I (sR 1 (([H.Name] : List Bt).map rS) (sJ [4] I (C7 4 I az fun S => sT (Dt (m := 3) I I I I I I (Ca I)) I (tE 4 I fun a0 => sJ [1] I (sZ 1 0 3 (es' := [[Q1 a.Nodes, .v b, .v d, .v S]]) I I I I I I (A7 a0) I (Ca I) I I (sI (sH (An 2 [.k 0 (D + 1 : Nat)] I ⟨A0 R ar, J⟩ ?_)))))))))))
 obtain rfl := oi h
 exact sI (lg ⟨S, I2⟩ [0, 1, 2, 3, 4])
 rintro E s ob ⟨t, rfl, rfl⟩ he
 subst he
 have h := av
 have a1 := Co a.Stations.length
 refine Ah I (Aa fun bo bp => Bu I a1 (sQ ?_))
 exact lg ⟨E, t, h, I2⟩ [0, 1, 2, 3, 4]
 rintro s ob ⟨q, i, h, rfl, rfl⟩
 refine sN (sH (An 1 [.o 0 1] I J1 (sJ [0] I (A3 0 0 0 [[Q1 a.Nodes, .v b, .v d, .v i]] I (sI (sP (Bk [2, 3, 4] (K := [U3 b c, U3 d e, U3 i q]) I [] J (ob' := [O7 f [[Q1 a.Nodes, Q1 c, Q1 e, Q1 q]], O7 g [[Q1 a.Nodes, .v b, .v d, .v i]]]) (.cons (.arr (.cons (.refl _) (.cons (.us 0 I) (.cons (.us 1 I) (.cons (.us 2 I) (.rest _)))))) (.rest _))) (Cu [0] I ?_)))))))
 obtain rfl := oi h
 exact sO ⟨.inr I, [_], [], ⟨⟨0, _, _, _, _, _, _, _, I5⟩, J⟩, Cm, I2⟩
theorem Oe (g : Bt) (r : Bool) (h : Gr g = some r) : ACalls Aj 156 [.v (.string g)] [] (fun x new => x = .v (.bool r) ∧ new = []) := by
 refine Ad Tryz.func156 I I I fun C hC => ?_
 unfold Gr at h
 refine Ah I (Aa fun X M => Ai (fun s ob => ∃ (y : Bool), Gr.J1 g y = some r ∧ s = [(21, .v (.bool y))] ∧ ob = []) [(0, _)] J1 ?_ ?_)
 refine sH (Ag 4 I ?_)
 rcases bt (decide ((g.size : Int) < 1)) with i | i
 replace h := Bq i h
 refine Af 7 I i (Ag 14 I (sI ?_))
 exact lg ⟨true, h, I2⟩ []
 replace h := Br i h
 refine Af 7 I i ?_
 rcases bt (decide ((g.size : Int) > 12)) with j | j
 replace h := Bq j h
 refine Ag 5 I (Af 12 I j (Ag 9 I (sI ?_)))
 exact lg ⟨true, h, I2⟩ []
 replace h := Br j h
 obtain ⟨f, N, h⟩ := Ac h
 obtain ⟨D, E, F⟩ := L3 N
 refine Ag 5 I (Af 12 I j (Ag 1 I (Cd I I I (sT (C9 (m := f.1) I I I I D E F) I (Cd I I I (sT (tA (c := decide (f.2 < 97)) I I I) I (Ag 2 I ?_)))))))
 rcases bt (decide (f.2 < 97)) with k | k
 replace h := Bq k h
 refine Af 17 I k (Ag 4 I (sI ?_))
 exact lg ⟨true, h, I2⟩ []
 replace h := Br k h
 refine Af 17 I k (Ag 1 I (Cd I I I (sT (C9 (m := f.1) I I I I D E F) I (Cd I I I (sT (tA (c := decide (f.2 > 122)) I I I) I (Ag 1 I (sI ?_)))))))
 exact lg ⟨decide (f.2 > 122), h, I2⟩ []
 rintro s ob ⟨y, h, rfl, rfl⟩
 refine Ar h I ?_ ?_
 intro O h
 refine Ah I ?_
 obtain rfl := oi h
 exact sO pr
 intro O h
 refine sL ?_
 subst M
 refine Ai (fun s ob => ∃ (G : Unit), Gr.J2 G = some r ∧ s = [] ∧ ob = []) [] J ?_ ?_
 refine Ah I (sM ?_)
 obtain ⟨Y, P, H⟩ := Ac h
 clear h
 refine Cs P [(0, _)] J1 (fun (A : Int) s ob => s = [(3, .V A)] ∧ ob = []) ⟨I, I⟩ ⟨I, J⟩ ⟨[], I, by decide⟩ ?_
 rintro A Q s ob ⟨rfl, rfl⟩ h K
 refine Aa fun Z R => Ah I (Ar h I ?_ ?_)
 intro S h
 refine sL ?_
 subst R
 refine sN (sM (Ai (fun s ob => ∃ (B : Bool), Gr.J4 A B = some Q ∧ s = [(55, .v (.bool B))] ∧ ob = []) [(0, _), (3, _)] J2 ?_ ?_))
 obtain ⟨a, U, h⟩ := Ac h
 obtain ⟨b, d, e⟩ := L3 U
 refine sH (Ag 2 I (sT (C9 (m := a.1) I I I I b d e) I (sT (tA (c := decide (a.2 < 97)) I I I) I (Ag 1 I ?_))))
 rcases bt (decide (a.2 < 97)) with l | l
 replace h := Bq l h
 refine Af 32 I l (Ag 8 I (Cd I I I (sT (C9 (m := a.1) I I I I b d e) I (Cd I I I (sT (tA (c := decide (a.2 < 48)) I I I) I (Ag 1 I ?_))))))
 rcases bt (decide (a.2 < 48)) with n | n
 replace h := Bq n h
 refine Af 43 I n (Ag 9 I (Cd I I I (sT (C9 (m := a.1) I I I I b d e) I (Cd I I I (sT (tA (c := (a.2 != 45)) I I I) I (Ag 1 I (sI ?_)))))))
 exact lg ⟨(a.2 != 45), h, I2⟩ []
 replace h := Br n h
 refine Af 43 I n (Ag 2 I (Cd I I I (sT (C9 (m := a.1) I I I I b d e) I (Cd I I I (sT (tA (c := decide (a.2 > 57)) I I I) I (Ag 3 I ?_))))))
 rcases bt (decide (a.2 > 57)) with o | o
 replace h := Bq o h
 refine Af 50 I o (Ag 2 I (Cd I I I (sT (C9 (m := a.1) I I I I b d e) I (Cd I I I (sT (tA (c := (a.2 != 45)) I I I) I (Ag 1 I (sI ?_)))))))
 exact lg ⟨(a.2 != 45), h, I2⟩ []
 replace h := Br o h
 refine Af 50 I o (Ag 5 I (sI ?_))
 exact lg ⟨false, h, I2⟩ []
 replace h := Br l h
 refine Af 32 I l (Ag 2 I (Cd I I I (sT (C9 (m := a.1) I I I I b d e) I (Cd I I I (sT (tA (c := decide (a.2 > 122)) I I I) I (Ag 2 I ?_))))))
 rcases bt (decide (a.2 > 122)) with t | t
 replace h := Bq t h
 refine Af 38 I t (Ag 2 I (Cd I I I (sT (C9 (m := a.1) I I I I b d e) I (Cd I I I (sT (tA (c := decide (a.2 < 48)) I I I) I (Ag 1 I ?_))))))
 rcases bt (decide (a.2 < 48)) with u | u
 replace h := Bq u h
 refine Af 43 I u (Ag 9 I (Cd I I I (sT (C9 (m := a.1) I I I I b d e) I (Cd I I I (sT (tA (c := (a.2 != 45)) I I I) I (Ag 1 I (sI ?_)))))))
 exact lg ⟨(a.2 != 45), h, I2⟩ []
 replace h := Br u h
 refine Af 43 I u (Ag 2 I (Cd I I I (sT (C9 (m := a.1) I I I I b d e) I (Cd I I I (sT (tA (c := decide (a.2 > 57)) I I I) I (Ag 3 I ?_))))))
 rcases bt (decide (a.2 > 57)) with w | w
 replace h := Bq w h
 refine Af 50 I w (Ag 2 I (Cd I I I (sT (C9 (m := a.1) I I I I b d e) I (Cd I I I (sT (tA (c := (a.2 != 45)) I I I) I (Ag 1 I (sI ?_)))))))
 exact lg ⟨(a.2 != 45), h, I2⟩ []
 replace h := Br w h
 refine Af 50 I w (Ag 5 I (sI ?_))
 exact lg ⟨false, h, I2⟩ []
 replace h := Br t h
 refine Af 38 I t (Ag 5 I (F2 I I dS (F2 I I dS (F2 I I dS (F2 I I dS (Ag 8 I (sI ?_)))))))
 exact lg ⟨false, h, I2⟩ []
 rintro s ob ⟨B, h, rfl, rfl⟩
 refine Ar h I ?_ ?_
 intro W h
 refine Ah I ?_
 obtain rfl := K _ (oi h).symm
 replace h := H
 replace h := C6 h
 obtain rfl := oi h
 exact sO pr
 intro W h
 refine sL (sH (Ag 3 I ?_))
 obtain rfl := oi h
 exact sI ⟨_, _, _, I, I2, J2, [], I, by decide⟩
 intro S h
 obtain rfl := K _ (oi h).symm
 replace h := H
 replace h := C1 h
 refine sQ ?_
 exact lg ⟨(), h, I2⟩ []
 rintro s ob ⟨G, h, rfl, rfl⟩
 refine Ah I ?_
 obtain rfl := oi h
 exact sO pr
theorem iP (a : List Bt) (r : Bool) (h : Nr a = some r) : ACalls Aj 157 [Q1 a] [] (fun x new => x = .v (.bool r) ∧ new = []) := by
 refine Ad Tryz.func157 I I I fun C hC => ?_
 unfold Nr at h
 refine Ah I (Ai (fun s ob => ∃ (e : Unit), Nr.J1 e = some r ∧ s = [] ∧ ob = []) [] J ?_ ?_)
 refine Bh [.l 1 (a.length : Int)] I ⟨Ay, J⟩ (sM (Bz 5 I fun t => ?_))
 obtain ⟨O, u, f⟩ := Ac h
 clear h
 refine Bx u [(0, _), (6, _)] J2 (fun (b : Nat) (g : Unit) s ob => s = [(7, .V (b : Int))] ∧ ob = []) ⟨I, I⟩ ⟨I, J⟩ ⟨[], I, by decide⟩ ?_ ?_
 rintro b i g w s ob y j ⟨rfl, rfl⟩ h A
 unfold Nr.B2 at h
 have B := Cn j
 refine Ah I (Aa fun P D => Bs I B (sL ?_))
 subst D
 refine Ai (fun s ob => ∃ (m : Unit), Nr.J3 m = some w ∧ s = [] ∧ ob = []) [(0, _), (6, _), (7, _)] J3 ?_ ?_
 refine sM (Ah I (Ah I (sM ?_)))
 obtain ⟨Q, E, n⟩ := Ac h
 clear h
 refine Cs E [(0, _), (3, _), (6, _), (7, _)] J4 (fun (o : Int) s ob => s = [(4, .V o)] ∧ ob = []) ⟨I, I⟩ ⟨I, J⟩ ⟨[], I, by decide⟩ ?_
 rintro o R s ob ⟨rfl, rfl⟩ h p
 refine Aa fun S F => Ah I (Ar h I ?_ ?_)
 intro G h
 refine sL ?_
 subst F
 refine sN (sM (sN ?_))
 obtain ⟨d, ⟨H, K⟩, h⟩ := A5 h
 refine By (pd 9 0 []) [] [] I (B8 8 [.x 2 b (rS i), .x 6 d.1 (rS d.2)] I ⟨⟨H, Ae K⟩, ⟨I, Ae y⟩, J⟩ (sY I (Yp.cmpS (c := Sh i d.2) I I I) I (Ap (sI (Ar h I ?_ ?_)))))
 intro M h
 refine Ah I ?_
 obtain rfl := p _ (oi h).symm
 replace h := n
 replace h := C6 h
 obtain rfl := A _ (oi h).symm
 replace h := f
 replace h := C1 h
 obtain rfl := oi h
 exact sO pr
 intro M h
 refine sL (sH (Ag 3 I ?_))
 obtain rfl := oi h
 exact sI ⟨_, _, _, I, I2, J5, [], I, by decide⟩
 intro G h
 obtain rfl := p _ (oi h).symm
 replace h := n
 replace h := C1 h
 refine sQ ?_
 exact lg ⟨(), h, I2⟩ []
 rintro s ob ⟨m, h, rfl, rfl⟩
 refine sH (An 2 [.k 0 (b + 1 : Nat)] I ⟨A0 j t, J⟩ ?_)
 obtain rfl := oi h
 exact sI ⟨_, _, _, I, I2, J3, [], I, by decide⟩
 rintro g s ob ⟨rfl, rfl⟩ he
 subst he
 have h := C6 f
 have N := Co a.length
 refine Ah I (Aa fun U W => Bu I N (sQ ?_))
 exact lg ⟨(), h, I2⟩ []
 rintro s ob ⟨e, h, rfl, rfl⟩
 refine Ah I ?_
 obtain rfl := oi h
 exact sO pr
theorem gM (a : Sg) (r : Bool) (h : Nj a = some r) : ACalls Aj 158 [.agg (Ak a)] [] (fun x new => x = .v (.bool r) ∧ new = []) := by
 refine Ad Tryz.func158 I I I fun C hC => ?_
 unfold Nj at h
 refine Aa fun y1 K => sH (sJ [] I (Bo (Ak a) 7 fun u => Ag 1 I (sI ?_)))
 subst K
 refine Aa fun y3 M => Ai (fun s ob => ∃ (w : Bool), Nj.J1 a w = some r ∧ s = [(49, .v (.bool w))] ∧ ob = [O5 u [Ak a]]) [(1, _)] J1 ?_ ?_
 refine By (pd 45 0 [8, 14, 20]) [0] [_] I (B8 6 [.o 1 0, .o 3 0] I J2 ?_)
 rcases bt ((a.From == a.To)) with c | c
 replace h := Bq c h
 refine A4 10 I c (Bg 39 I (Ap (sI ?_)))
 exact lg ⟨true, h, I2⟩ [0]
 replace h := Br c h
 refine A4 10 I c (B8 2 [.o 1 0] I J1 (Ia I (Dh a.Capacity 1 1000000 _ I) (Bg 3 I ?_)))
 rcases bt ((!(Ck a.Capacity 1 1000000))) with d | d
 replace h := Bq d h
 refine A4 16 I d (Bg 33 I (Ap (sI ?_)))
 exact lg ⟨true, h, I2⟩ [0]
 replace h := Br d h
 refine A4 16 I d (B8 2 [.o 1 0] I J1 (Ia I (Dh a.Resist 0 1000 _ I) (Bg 3 I ?_)))
 rcases bt ((!(Ck a.Resist 0 1000))) with e | e
 replace h := Bq e h
 refine A4 22 I e (Bg 27 I (Ap (sI ?_)))
 exact lg ⟨true, h, I2⟩ [0]
 replace h := Br e h
 refine A4 22 I e (B8 2 [.o 1 0] I J1 (Ia I (Dh a.Wave 0 100000 _ I) (Bg 3 I ?_)))
 rcases bt ((!(Ck a.Wave 0 100000))) with f | f
 replace h := Bq f h
 refine A4 28 I f (Bg 21 I (Ap (sI ?_)))
 exact lg ⟨true, h, I2⟩ [0]
 replace h := Br f h
 obtain ⟨y, ⟨N, O⟩, h⟩ := A5 h
 refine A4 28 I f (B8 8 [.o 1 0, .x 2 y.1 (Bi y.2)] I ⟨⟨N, Ae O⟩, I, J⟩ ?_)
 rcases bt ((y.2.At != 0)) with g | g
 replace h := Bq g h
 refine A4 36 I g (Bg 13 I (Ap (sI ?_)))
 exact lg ⟨true, h, I2⟩ [0]
 replace h := Br g h
 obtain ⟨A, ⟨P, Q⟩, h⟩ := A5 h
 refine A4 36 I g (B8 13 [.o 1 0, .o 3 0, .l 4 (a.Points.length : Int), .x 6 A.1 (Bi A.2), .o 10 0] I ⟨I, ⟨P, Ae Q⟩, Ay, I, I, J⟩ (Ap (sI ?_)))
 exact lg ⟨(A.2.At != a.Capacity), h, I2⟩ [0]
 rintro s ob ⟨w, h, rfl, rfl⟩
 refine Ar h I ?_ ?_
 intro R h
 refine Ah I (sP g0 ?_)
 obtain rfl := oi h
 exact sO pr
 intro R h
 refine sL ?_
 subst M
 refine Ai (fun s ob => ∃ (E : Unit), Nj.J2 E = some r ∧ s = [] ∧ ob = []) [] J ?_ ?_
 refine Bh [.o 1 0, .l 2 (a.Points.length : Int)] I ⟨Ay, I, J⟩ (sM (Bz 51 I fun S => ?_))
 obtain ⟨ai, U, F⟩ := Ac h
 clear h
 refine Bx U [(1, _), (51, _), (52, _)] J3 (fun (i : Nat) (G : Unit) s ob => s = [(53, .V (i : Int))] ∧ ob = [O5 u [Ak a]]) ⟨I, I⟩ ⟨I, J⟩ ⟨[0], I, by decide⟩ ?_ ?_
 rintro i b G W s ob X H ⟨rfl, rfl⟩ h Y
 unfold Nj.B3 at h
 have Z := Cn H
 refine Ah I (Aa fun aj aa => Bs I Z (sL ?_))
 subst aa
 refine sN (sM (Aa fun ak ab => sH (An 3 [.x 1 i (Bi b)] I ⟨⟨I, Ae X⟩, J⟩ (sJ [] I (sS W1 3 fun al => Ag 1 I (sJ [1] I (A3 1 0 0 [Bi b] I (sI ?_))))))))
 subst ab
 refine Ai (fun s ob => ∃ (B : Bool), Nj.J4 B = some W ∧ s = [(83, .v (.bool B))] ∧ ob = [O5 u [Ak a]]) [(1, _), (51, _), (52, _), (53, _)] J4 ?_ ?_
 rcases bt (decide ((i : Int) > 0)) with j | j
 replace h := Bq j h
 obtain ⟨D, ⟨ac, ad⟩, h⟩ := A5 h
 refine By (pd 26 0 [17, 23]) [1, 0] [_, _] I (Bg 3 I (A4 60 I j (B8 12 [.o 1 0, .o 3 1, .x 6 D.1 (Bi D.2)] I ⟨⟨ac, Ae ad⟩, I, I, J⟩ ?_)))
 rcases bt (decide (b.At ≤ D.2.At)) with n | n
 replace h := Bq n h
 refine A4 72 I n (Bg 11 I (Ap (sI ?_)))
 exact lg ⟨true, h, I2⟩ [0]
 replace h := Br n h
 refine A4 72 I n (B8 2 [.o 1 0] I J1 (Ia I (Dh b.Height (-500) 5000 _ I) (Bg 3 I ?_)))
 rcases bt ((!(Ck b.Height (-500) 5000))) with p | p
 replace h := Bq p h
 refine A4 78 I p (Bg 5 I (Ap (sI ?_)))
 exact lg ⟨true, h, I2⟩ [0]
 replace h := Br p h
 refine A4 78 I p (B8 2 [.o 1 0] I J1 (Ia I (Dh b.Limit 0 100000000 _ I) (Bg 2 I (Ap (sI ?_)))))
 exact lg ⟨(!(Ck b.Limit 0 100000000)), h, I2⟩ [0]
 replace h := Br j h
 refine By (pd 26 0 [17, 23]) [1] [_] I (Bg 3 I (A4 60 I j (B8 14 [.o 13 0] I J1 (Ia I (Dh b.Height (-500) 5000 _ I) (Bg 3 I ?_)))))
 rcases bt ((!(Ck b.Height (-500) 5000))) with t | t
 replace h := Bq t h
 refine A4 78 I t (Bg 5 I (Ap (sI ?_)))
 exact lg ⟨true, h, I2⟩ [0]
 replace h := Br t h
 refine A4 78 I t (B8 2 [.o 1 0] I J1 (Ia I (Dh b.Limit 0 100000000 _ I) (Bg 2 I (Ap (sI ?_)))))
 exact lg ⟨(!(Ck b.Limit 0 100000000)), h, I2⟩ [0]
 rintro s ob ⟨B, h, rfl, rfl⟩
 refine Ar h I ?_ ?_
 intro ae h
 refine Ah I ?_
 obtain rfl := Y _ (oi h).symm
 replace h := F
 replace h := C1 h
 refine sP g0 ?_
 obtain rfl := oi h
 exact sO pr
 intro ae h
 refine sL (sH (An 2 [.k 0 (i + 1 : Nat)] I ⟨A0 H S, J⟩ ?_))
 obtain rfl := oi h
 exact sI ⟨_, _, _, I, I2, J4, [0], I, by decide⟩
 rintro G s ob ⟨rfl, rfl⟩ he
 subst he
 have h := C6 F
 have af := Co a.Points.length
 refine Ah I (Aa fun am an => Bu I af (sQ ?_))
 exact lg ⟨(), h, I2⟩ []
 rintro s ob ⟨E, h, rfl, rfl⟩
 refine Ah I ?_
 obtain rfl := oi h
 exact sO pr
theorem Jy (a : Nw) (r : Int) (h : Gs a = some r) : ACalls Aj 99 [.agg (Ab a)] [] (fun x new => x = .V r ∧ new = []) := by
 refine Ad Tryz.func99 I I I fun C hC => ?_
 unfold Gs at h
 refine Aa fun y1 bn => sH (sJ [] I (Bo (Ab a) 6 fun b => Ag 1 I (sI ?_)))
 subst bn
 refine Aa fun y3 bo => Ec 49 ((!(Ck (a.Nodes.length : Int) 1 24)) || (decide ((a.Segments.length : Int) > 32) || (decide ((a.Ports.length : Int) > 24) || decide ((a.Stations.length : Int) > 12)))) ?_ ?_
 refine sH (An 3 [.o 1 0, .l 2 (a.Nodes.length : Int)] I ⟨Ay, I, J⟩ (Cc (Dh (a.Nodes.length : Int) 1 24 _ I) (Ag 2 I ?_)))
 rcases bt ((!(Ck (a.Nodes.length : Int) 1 24))) with g | g
 refine Af 32 I g (Ag 17 I (sI ?_))
 exact jf (by simp only [g, bz]) I I I2
 refine Af 32 I g (An 6 [.o 1 0, .l 2 (a.Segments.length : Int)] I ⟨Ay, I, J⟩ ?_)
 rcases bt (decide ((a.Segments.length : Int) > 32)) with j | j
 refine Af 38 I j (Ag 11 I (sI ?_))
 exact jf (by simp only [g, j, bz]) I I I2
 refine Af 38 I j (An 6 [.o 1 0, .l 2 (a.Ports.length : Int)] I ⟨Ay, I, J⟩ ?_)
 rcases bt (decide ((a.Ports.length : Int) > 24)) with t | t
 refine Af 44 I t (Ag 5 I (sI ?_))
 exact jf (by simp only [g, j, t, bz]) I I I2
 refine Af 44 I t (An 5 [.o 1 0, .l 2 (a.Stations.length : Int)] I ⟨Ay, I, J⟩ (sI ?_))
 exact jf (by simp only [g, j, t, bz]) I I I2
 refine Ar h I ?_ ?_
 intro bp h
 refine Ah I (sP g0 ?_)
 obtain rfl := oi h
 exact sO pr
 intro bp h
 refine sL ?_
 subst bo
 refine Ai (fun s ob => ∃ (Z : Unit), Gs.J1 a Z = some r ∧ s = [] ∧ ob = [O0 b [Ab a]]) [(1, _)] J1 ?_ ?_
 refine Bh [.o 1 0, .l 2 (a.Segments.length : Int)] I ⟨Ay, I, J⟩ (sM (Bz 51 I fun bq => ?_))
 obtain ⟨e4, br, aa⟩ := Ac h
 clear h
 refine Bx br [(1, _), (51, _), (52, _)] J3 (fun (B : Nat) (ab : Unit) s ob => s = [(53, .V (B : Int))] ∧ ob = [O0 b [Ab a]]) ⟨I, I⟩ ⟨I, J⟩ ⟨[0], I, by decide⟩ ?_ ?_
 rintro B D ab e5 s ob bs ac ⟨rfl, rfl⟩ h bu
 have bv := Cn ac
 refine Ah I (Aa fun e6 bw => Bs I bv (sL ?_))
 subst bw
 refine sN (sM (sN (sH (An 2 [.x 0 B (Ak D)] I ⟨⟨I, Ae bs⟩, J⟩ (sJ [] I (sS W2 7 fun e7 => sJ [1] I (A3 1 0 0 [Ak D] I (sI (sN (sH (An 3 [.o 1 1, .l 2 (D.Points.length : Int)] I ⟨Ay, I, J⟩ (Cc (Dh (D.Points.length : Int) 2 8 _ I) (Ag 1 I ?_)))))))))))))
 refine sI (Ar h I ?_ ?_)
 intro bx h
 refine Ah I ?_
 obtain rfl := bu _ (oi h).symm
 replace h := aa
 replace h := C1 h
 refine sP g0 ?_
 obtain rfl := oi h
 exact sO pr
 intro bx h
 refine sL (sH (An 2 [.k 0 (B + 1 : Nat)] I ⟨A0 ac bq, J⟩ ?_))
 obtain rfl := oi h
 exact sI ⟨_, _, _, I, I2, J4, [0], I, by decide⟩
 rintro ab s ob ⟨rfl, rfl⟩ he
 subst he
 have h := C6 aa
 have b0 := Co a.Segments.length
 refine Ah I (Aa fun e8 e9 => Bu I b0 (sQ ?_))
 exact lg ⟨(), h, I2⟩ [0]
 rintro s ob ⟨Z, h, rfl, rfl⟩
 refine Aa fun fa b1 => ?_
 obtain ⟨f, b3, h⟩ := Ac h
 refine sH (An 1 [.o 0 0] I J1 (sJ [] I (Ci I I I (gP _ _ b3) dS ?_)))
 rintro _ _ ⟨rfl, rfl⟩
 refine sJ [] I (sS W4 4 fun E => sJ [1] I (sZ 1 0 0 (es' := [f.l.map (cL 1 rS)]) I I I I I I I (by simp [Arr.h, Bj]) (by simp [Arr.h, Bj]) I (congrArg (fun r => [r]) (Iy (by simp [Arr.h, Bj]))) (sI ?_)))
 subst b1
 refine Ai (fun s ob => ∃ (ad : Unit), Gs.J2 a f ad = some r ∧ s = [] ∧ ob = [O0 b [Ab a], O7 E [f.l.map (cL 1 rS)]]) [(1, _), (5, _)] J2 ?_ ?_
 refine Aa fun fb b4 => sH (sV (C2 1 0 0 I I I I I (y := .agg (f.l.map (cL 1 rS))) (L1 I (by simp [Arr.h, Bj]))) I (Ag 1 I (sI ?_)))
 subst b4
 refine sM ?_
 have b5 : (4 : Nat) ≤ 9223372036854775806 := by decide
 obtain ⟨fc, b6, ae⟩ := Ac h
 clear h
 refine Fe b6 [(1, _), (5, _), (65, _)] J3 (fun (F : Nat) (af : Unit) s ob => s = [(66, .V (F : Int))] ∧ ob = [O0 b [Ab a], O7 E [f.l.map (cL 1 rS)]]) ⟨I, I⟩ ⟨I, J⟩ ⟨[0, 1], I, by decide⟩ ?_ ?_
 rintro F af b7 s ob b8 ⟨rfl, rfl⟩ h b9
 unfold Gs.B21 at h
 have ca : decide ((F : Int) < 4) = true := decide_eq_true (by omega)
 refine Ah I (Aa fun fd cb => Bs I ca (sL ?_))
 subst cb
 refine Ai (fun s ob => ∃ (ag : Unit), Gs.J22 ag = some b7 ∧ s = [] ∧ ob = [O0 b [Ab a], O7 E [f.l.map (cL 1 rS)]]) [(1, _), (5, _), (65, _), (66, _)] J4 ?_ ?_
 refine sM (Aa fun fe cc => ?_)
 obtain ⟨U, ⟨cd, ce⟩, h⟩ := A5 h
 refine sH (sT (G8 (m := U.1) I I I I I I I cd ce (hlen := Arr.h _)) I (Ag 1 I (sI ?_)))
 subst cc
 refine Bh [.l 1 (U.2.length : Int)] I ⟨Ay, J⟩ (sM (Bz 69 I fun cf => ?_))
 obtain ⟨ff, cg, ah⟩ := Ac h
 clear h
 refine Bx cg [(1, _), (5, _), (65, _), (66, _), (69, _), (70, _)] J6 (fun (G : Nat) (ai : Unit) s ob => s = [(71, .V (G : Int))] ∧ ob = [O0 b [Ab a], O7 E [f.l.map (cL 1 rS)]]) ⟨I, I⟩ ⟨I, J⟩ ⟨[0, 1], I, by decide⟩ ?_ ?_
 rintro G ci ai fg s ob cj aj ⟨rfl, rfl⟩ h ck
 have cl := Cn aj
 refine Ah I (Aa fun fh cm => Bs I cl (sL ?_))
 subst cm
 refine sN (sM (Bh [.x 0 G (rS ci)] I ⟨⟨I, Ae cj⟩, J⟩ (sN ?_)))
 obtain ⟨fi, cn, h⟩ := Ac h
 refine sH (Ag 1 I (Cc (Oe _ _ cn) (Ag 1 I (sI (Ar h I ?_ ?_)))))
 intro co h
 refine Ah I ?_
 obtain rfl := ck _ (oi h).symm
 replace h := ah
 replace h := C1 h
 obtain rfl := b9 _ (oi h).symm
 replace h := ae
 replace h := C1 h
 refine sP g0 ?_
 obtain rfl := oi h
 exact sO pr
 intro co h
 refine sL (sH (An 2 [.k 0 (G + 1 : Nat)] I ⟨A0 aj cf, J⟩ ?_))
 obtain rfl := oi h
 exact sI ⟨_, _, _, I, I2, J7, [0, 1], I, by decide⟩
 rintro ai s ob ⟨rfl, rfl⟩ he
 subst he
 have h := C6 ah
 have cp := Co U.2.length
 refine Ah I (Aa fun fj fk => Bu I cp (sQ ?_))
 exact lg ⟨(), h, I2⟩ [0, 1]
 rintro s ob ⟨ag, h, rfl, rfl⟩
 refine sH (An 2 [.k 0 (F + 1 : Nat)] I ⟨A0 b8 b5, J⟩ ?_)
 obtain rfl := oi h
 exact sI ⟨_, _, _, I, I2, J4, [0, 1], I, by decide⟩
 rintro af s ob ⟨rfl, rfl⟩ he
 subst he
 have h := C6 ae
 have cq : decide (((4 : Nat) : Int) < 4) = false := by simp
 refine Ah I (Aa fun fl fm => Bu I cq (sQ ?_))
 exact lg ⟨(), h, I2⟩ [0, 1]
 rintro s ob ⟨ad, h, rfl, rfl⟩
 unfold Gs.J2 at h
 refine Ai (fun s ob => ∃ (ak : Unit), Gs.J3 a ak = some r ∧ s = [] ∧ ob = [O0 b [Ab a]]) [(1, _)] J1 ?_ ?_
 refine Aa fun fn cr => sH (sV (C2 1 0 0 I I I I I (y := .agg (f.l.map (cL 1 rS))) (L1 I (by simp [Arr.h, Bj]))) I (Ag 1 I (sI ?_)))
 subst cr
 refine sM ?_
 have ct : (4 : Nat) ≤ 9223372036854775806 := by decide
 obtain ⟨fo, cu, al⟩ := Ac h
 clear h
 refine Fe cu [(1, _), (80, _)] J2 (fun (H : Nat) (am : Unit) s ob => s = [(81, .V (H : Int))] ∧ ob = [O0 b [Ab a]]) ⟨I, I⟩ ⟨I, J⟩ ⟨[0], I, by decide⟩ ?_ ?_
 rintro H am fp s ob cv ⟨rfl, rfl⟩ h cw
 have cx : decide ((H : Int) < 4) = true := decide_eq_true (by omega)
 refine Ah I (Aa fun fq cy => Bs I cx (sL ?_))
 subst cy
 refine sN (sM (sN ?_))
 obtain ⟨cz, ⟨c0, c1⟩, h⟩ := A5 h
 refine sH (sT (G8 (m := cz.1) I I I I I I I c0 c1 (hlen := Arr.h _)) I (Ag 1 I (sI (sN ?_))))
 obtain ⟨fr, c2, h⟩ := Ac h
 refine sH (Ag 1 I (Cc (iP _ _ c2) (sI (Ar h I ?_ ?_))))
 intro c3 h
 refine Ah I ?_
 obtain rfl := cw _ (oi h).symm
 replace h := al
 replace h := C1 h
 refine sP g0 ?_
 obtain rfl := oi h
 exact sO pr
 intro c3 h
 refine sL (sH (An 2 [.k 0 (H + 1 : Nat)] I ⟨A0 cv ct, J⟩ ?_))
 obtain rfl := oi h
 exact sI ⟨_, _, _, I, I2, J3, [0], I, by decide⟩
 rintro am s ob ⟨rfl, rfl⟩ he
 subst he
 have h := C6 al
 have c4 : decide (((4 : Nat) : Int) < 4) = false := by simp
 refine Ah I (Aa fun fs ft => Bu I c4 (sQ ?_))
 exact lg ⟨(), h, I2⟩ [0]
 rintro s ob ⟨ak, h, rfl, rfl⟩
 unfold Gs.J3 at h
 refine Ai (fun s ob => ∃ (an : Unit), Gs.J4 a an = some r ∧ s = [] ∧ ob = [O0 b [Ab a]]) [(1, _)] J1 ?_ ?_
 refine Bh [.o 1 0, .l 2 (a.Stations.length : Int)] I ⟨Ay, I, J⟩ (sM (Bz 88 I fun c5 => ?_))
 obtain ⟨fu, c6, ao⟩ := Ac h
 clear h
 refine Bx c6 [(1, _), (89, _)] J2 (fun (K : Nat) (ap : Unit) s ob => s = [(90, .V (K : Int))] ∧ ob = [O0 b [Ab a]]) ⟨I, I⟩ ⟨I, J⟩ ⟨[0], I, by decide⟩ ?_ ?_
 rintro K c7 ap c8 s ob c9 aq ⟨rfl, rfl⟩ h da
 unfold Gs.B17 at h
 have db := Cn aq
 refine Ah I (Aa fun fv dc => Bs I db (sL ?_))
 subst dc
 refine Ai (fun s ob => ∃ (ar : Unit), Gs.J18 ar = some c8 ∧ s = [] ∧ ob = [O0 b [Ab a]]) [(1, _), (89, _), (90, _)] J3 ?_ ?_
 refine sM (Ah I (Ah I (sM ?_)))
 obtain ⟨fw, dd, au⟩ := Ac h
 clear h
 refine Cs dd [(1, _), (12, _), (89, _), (90, _)] J4 (fun (av : Int) s ob => s = [(13, .V av)] ∧ ob = [O0 b [Ab a]]) ⟨I, I⟩ ⟨I, J⟩ ⟨[0], I, by decide⟩ ?_
 rintro av fx s ob ⟨rfl, rfl⟩ h aw
 refine Aa fun fy de => Ah I (Ar h I ?_ ?_)
 intro df h
 refine sL ?_
 subst de
 refine sN (sM (sN ?_))
 obtain ⟨ax, ⟨dg, dh⟩, h⟩ := A5 h
 refine Il (pd 13 0 []) [0] [_] [.o 1 0, .x 3 K (Ba c7), .o 7 0, .x 9 ax.1 (Ba ax.2)] I I ⟨⟨dg, Ae dh⟩, I, ⟨I, Ae c9⟩, I, J⟩ (Ar h I ?_ ?_)
 intro di h
 refine Ah I ?_
 obtain rfl := aw _ (oi h).symm
 replace h := au
 replace h := C6 h
 obtain rfl := da _ (oi h).symm
 replace h := ao
 replace h := C1 h
 refine sP g0 ?_
 obtain rfl := oi h
 exact sO pr
 intro di h
 refine sL (sH (Ag 3 I ?_))
 obtain rfl := oi h
 exact sI ⟨_, _, _, I, I2, J5, [0], I, by decide⟩
 intro df h
 obtain rfl := aw _ (oi h).symm
 replace h := au
 replace h := C1 h
 refine sQ ?_
 exact lg ⟨(), h, I2⟩ [0]
 rintro s ob ⟨ar, h, rfl, rfl⟩
 refine sH (An 2 [.k 0 (K + 1 : Nat)] I ⟨A0 aq c5, J⟩ ?_)
 obtain rfl := oi h
 exact sI ⟨_, _, _, I, I2, J3, [0], I, by decide⟩
 rintro ap s ob ⟨rfl, rfl⟩ he
 subst he
 have h := C6 ao
 have dj := Co a.Stations.length
 refine Ah I (Aa fun fz f0 => Bu I dj (sQ ?_))
 exact lg ⟨(), h, I2⟩ [0]
 rintro s ob ⟨an, h, rfl, rfl⟩
 unfold Gs.J4 at h
 refine Bh [.o 1 0, .l 2 (a.Nodes.length : Int)] I ⟨Ay, I, J⟩ (Ai (fun s ob => ∃ (ay : Unit), Gs.J5 a ay = some r ∧ s = [] ∧ ob = [O0 b [Ab a]]) [(1, _), (14, _)] J2 ?_ ?_)
 refine Bh [.o 1 0, .l 2 (a.Segments.length : Int)] I ⟨Ay, I, J⟩ (sM (Bz 117 I fun dk => ?_))
 obtain ⟨f1, dl, az⟩ := Ac h
 clear h
 refine Bx dl [(1, _), (14, _), (117, _), (118, _)] J4 (fun (M : Nat) (a0 : Unit) s ob => s = [(119, .V (M : Int))] ∧ ob = [O0 b [Ab a]]) ⟨I, I⟩ ⟨I, J⟩ ⟨[0], I, by decide⟩ ?_ ?_
 rintro M i a0 f2 s ob dm a1 ⟨rfl, rfl⟩ h dn
 unfold Gs.B16 at h
 have dp := Cn a1
 refine Ah I (Aa fun f3 dq => Bs I dp (sL ?_))
 subst dq
 refine sN (sM (Aa fun f4 dr => sH (An 2 [.x 0 M (Ak i)] I ⟨⟨I, Ae dm⟩, J⟩ (sJ [] I (sS W2 7 fun f5 => sJ [1] I (A3 1 0 0 [Ak i] I (sI ?_)))))))
 subst dr
 refine Ec 134 ((!(Ck i.From 0 (wr ((a.Nodes.length : Int) - 1)))) || (!(Ck i.To 0 (wr ((a.Nodes.length : Int) - 1))))) ?_ ?_
 refine sH (An 3 [.o 1 1] I J1 (Cc (Dh i.From 0 (wr ((a.Nodes.length : Int) - 1)) _ I) (Ag 2 I ?_)))
 rcases bt ((!(Ck i.From 0 (wr ((a.Nodes.length : Int) - 1))))) with u | u
 refine Af 128 I u (Ag 6 I (sI ?_))
 exact jf (by simp only [u, bz]) I I I2
 refine Af 128 I u (An 3 [.o 1 1] I J1 (Cd I I I (Cc (Dh i.To 0 (wr ((a.Nodes.length : Int) - 1)) _ I) (Ag 2 I (sI ?_)))))
 exact jf (by simp only [u, bz]) I I I2
 refine Ar h I ?_ ?_
 intro ds h
 refine Ah I ?_
 obtain rfl := dn _ (oi h).symm
 replace h := az
 replace h := C1 h
 refine sP g0 ?_
 obtain rfl := oi h
 exact sO pr
 intro ds h
 refine sL (sH (An 2 [.k 0 (M + 1 : Nat)] I ⟨A0 a1 dk, J⟩ ?_))
 obtain rfl := oi h
 exact sI ⟨_, _, _, I, I2, J5, [0], I, by decide⟩
 rintro a0 s ob ⟨rfl, rfl⟩ he
 subst he
 have h := C6 az
 have du := Co a.Segments.length
 refine Ah I (Aa fun f6 f7 => Bu I du (sQ ?_))
 exact lg ⟨(), h, I2⟩ [0]
 rintro s ob ⟨ay, h, rfl, rfl⟩
 unfold Gs.J5 at h
 refine Ai (fun s ob => ∃ (a2 : Unit), Gs.J6 a a2 = some r ∧ s = [] ∧ ob = [O0 b [Ab a]]) [(1, _), (14, _)] J2 ?_ ?_
 refine Bh [.o 1 0, .l 2 (a.Ports.length : Int)] I ⟨Ay, I, J⟩ (sM (Bz 137 I fun dv => ?_))
 obtain ⟨f8, dw, a3⟩ := Ac h
 clear h
 refine Bx dw [(1, _), (14, _), (137, _), (138, _)] J4 (fun (O : Nat) (a4 : Unit) s ob => s = [(139, .V (O : Int))] ∧ ob = [O0 b [Ab a]]) ⟨I, I⟩ ⟨I, J⟩ ⟨[0], I, by decide⟩ ?_ ?_
 rintro O W a4 f9 s ob dx a5 ⟨rfl, rfl⟩ h dy
 have dz := Cn a5
 refine Ah I (Aa fun ga d0 => Bs I dz (sL ?_))
 subst d0
 refine sN (sM (sN (sH (An 2 [.x 0 O (Cb W)] I ⟨⟨I, Ae dx⟩, J⟩ (sJ [] I (sS W6 3 fun gb => sJ [1] I (A3 1 0 0 [Cb W] I (sI (sN (sH (An 3 [.o 1 1] I J1 (Cc (Dh W.Node 0 (wr ((a.Nodes.length : Int) - 1)) _ I) (Ag 1 I ?_)))))))))))))
 refine sI (Ar h I ?_ ?_)
 intro d1 h
 refine Ah I ?_
 obtain rfl := dy _ (oi h).symm
 replace h := a3
 replace h := C1 h
 refine sP g0 ?_
 obtain rfl := oi h
 exact sO pr
 intro d1 h
 refine sL (sH (An 2 [.k 0 (O + 1 : Nat)] I ⟨A0 a5 dv, J⟩ ?_))
 obtain rfl := oi h
 exact sI ⟨_, _, _, I, I2, J5, [0], I, by decide⟩
 rintro a4 s ob ⟨rfl, rfl⟩ he
 subst he
 have h := C6 a3
 have d2 := Co a.Ports.length
 refine Ah I (Aa fun gc gd => Bu I d2 (sQ ?_))
 exact lg ⟨(), h, I2⟩ [0]
 rintro s ob ⟨a2, h, rfl, rfl⟩
 unfold Gs.J6 at h
 refine Ai (fun s ob => ∃ (a6 : Unit), Gs.J7 a a6 = some r ∧ s = [] ∧ ob = [O0 b [Ab a]]) [(1, _)] J1 ?_ ?_
 refine Bh [.o 1 0, .l 2 (a.Stations.length : Int)] I ⟨Ay, I, J⟩ (sM (Bz 150 I fun d3 => ?_))
 obtain ⟨ge, d4, a7⟩ := Ac h
 clear h
 refine Bx d4 [(1, _), (14, _), (150, _), (151, _)] J4 (fun (P : Nat) (a8 : Unit) s ob => s = [(152, .V (P : Int))] ∧ ob = [O0 b [Ab a]]) ⟨I, I⟩ ⟨I, J⟩ ⟨[0], I, by decide⟩ ?_ ?_
 rintro P X a8 gf s ob d5 a9 ⟨rfl, rfl⟩ h d6
 have d7 := Cn a9
 refine Ah I (Aa fun gg d8 => Bs I d7 (sL ?_))
 subst d8
 refine sN (sM (sN (sH (An 2 [.x 0 P (Ba X)] I ⟨⟨I, Ae d5⟩, J⟩ (sJ [] I (sS W5 5 fun gh => sJ [1] I (A3 1 0 0 [Ba X] I (sI (sN (sH (An 3 [.o 1 1] I J1 (Cc (Dh X.Node 0 (wr ((a.Nodes.length : Int) - 1)) _ I) (Ag 1 I ?_)))))))))))))
 refine sI (Ar h I ?_ ?_)
 intro d9 h
 refine Ah I ?_
 obtain rfl := d6 _ (oi h).symm
 replace h := a7
 replace h := C1 h
 refine sP g0 ?_
 obtain rfl := oi h
 exact sO pr
 intro d9 h
 refine sL (sH (An 2 [.k 0 (P + 1 : Nat)] I ⟨A0 a9 d3, J⟩ ?_))
 obtain rfl := oi h
 exact sI ⟨_, _, _, I, I2, J5, [0], I, by decide⟩
 rintro a8 s ob ⟨rfl, rfl⟩ he
 subst he
 have h := C6 a7
 have ea := Co a.Stations.length
 refine Ah I (Aa fun gi gj => Bu I ea (sQ ?_))
 exact lg ⟨(), h, I2⟩ [0]
 rintro s ob ⟨a6, h, rfl, rfl⟩
 unfold Gs.J7 at h
 refine Ai (fun s ob => ∃ (ba : Unit), Gs.J8 a ba = some r ∧ s = [] ∧ ob = [O0 b [Ab a]]) [(1, _)] J1 ?_ ?_
 refine Bh [.o 1 0, .l 2 (a.Segments.length : Int)] I ⟨Ay, I, J⟩ (sM (Bz 163 I fun eb => ?_))
 obtain ⟨gk, ec, bb⟩ := Ac h
 clear h
 refine Bx ec [(1, _), (163, _), (164, _)] J3 (fun (Q : Nat) (bc : Unit) s ob => s = [(165, .V (Q : Int))] ∧ ob = [O0 b [Ab a]]) ⟨I, I⟩ ⟨I, J⟩ ⟨[0], I, by decide⟩ ?_ ?_
 rintro Q bd bc gl s ob ed be ⟨rfl, rfl⟩ h ee
 have ef := Cn be
 refine Ah I (Aa fun gm eg => Bs I ef (sL ?_))
 subst eg
 refine sN (sM (sN (sH (An 2 [.x 0 Q (Ak bd)] I ⟨⟨I, Ae ed⟩, J⟩ (sJ [] I (sS W2 7 fun gn => sJ [1] I (A3 1 0 0 [Ak bd] I (sI (sN ?_)))))))))
 obtain ⟨go, eh, h⟩ := Ac h
 refine sH (An 1 [.o 0 1] I J1 (Cc (gM _ _ eh) (Ag 1 I (sI (Ar h I ?_ ?_)))))
 intro ei h
 refine Ah I ?_
 obtain rfl := ee _ (oi h).symm
 replace h := bb
 replace h := C1 h
 refine sP g0 ?_
 obtain rfl := oi h
 exact sO pr
 intro ei h
 refine sL (sH (An 2 [.k 0 (Q + 1 : Nat)] I ⟨A0 be eb, J⟩ ?_))
 obtain rfl := oi h
 exact sI ⟨_, _, _, I, I2, J4, [0], I, by decide⟩
 rintro bc s ob ⟨rfl, rfl⟩ he
 subst he
 have h := C6 bb
 have ej := Co a.Segments.length
 refine Ah I (Aa fun gp gq => Bu I ej (sQ ?_))
 exact lg ⟨(), h, I2⟩ [0]
 rintro s ob ⟨ba, h, rfl, rfl⟩
 unfold Gs.J8 at h
 refine Ai (fun s ob => ∃ (bf : Unit), Gs.J9 a bf = some r ∧ s = [] ∧ ob = [O0 b [Ab a]]) [(1, _)] J1 ?_ ?_
 refine Bh [.o 1 0, .l 2 (a.Ports.length : Int)] I ⟨Ay, I, J⟩ (sM (Bz 174 I fun ek => ?_))
 obtain ⟨gr, el, bg⟩ := Ac h
 clear h
 refine Bx el [(1, _), (174, _), (175, _)] J3 (fun (R : Nat) (bh : Unit) s ob => s = [(176, .V (R : Int))] ∧ ob = [O0 b [Ab a]]) ⟨I, I⟩ ⟨I, J⟩ ⟨[0], I, by decide⟩ ?_ ?_
 rintro R Y bh gs s ob em bi ⟨rfl, rfl⟩ h en
 have eo := Cn bi
 refine Ah I (Aa fun gu ep => Bs I eo (sL ?_))
 subst ep
 refine sN (sM (sN (sH (An 2 [.x 0 R (Cb Y)] I ⟨⟨I, Ae em⟩, J⟩ (sJ [] I (sS W6 3 fun gv => sJ [1] I (A3 1 0 0 [Cb Y] I (sI (sN (sH (An 2 [.o 1 1] I J1 (Cc (Dh Y.Pressure 0 100000000 _ I) (Ag 1 I ?_)))))))))))))
 refine sI (Ar h I ?_ ?_)
 intro eq h
 refine Ah I ?_
 obtain rfl := en _ (oi h).symm
 replace h := bg
 replace h := C1 h
 refine sP g0 ?_
 obtain rfl := oi h
 exact sO pr
 intro eq h
 refine sL (sH (An 2 [.k 0 (R + 1 : Nat)] I ⟨A0 bi ek, J⟩ ?_))
 obtain rfl := oi h
 exact sI ⟨_, _, _, I, I2, J4, [0], I, by decide⟩
 rintro bh s ob ⟨rfl, rfl⟩ he
 subst he
 have h := C6 bg
 have er := Co a.Ports.length
 refine Ah I (Aa fun gw gx => Bu I er (sQ ?_))
 exact lg ⟨(), h, I2⟩ [0]
 rintro s ob ⟨bf, h, rfl, rfl⟩
 unfold Gs.J9 at h
 refine Ai (fun s ob => ∃ (bj : Unit), Gs.J10 a bj = some r ∧ s = [] ∧ ob = [O0 b [Ab a]]) [(1, _)] J1 ?_ ?_
 refine Bh [.o 1 0, .l 2 (a.Stations.length : Int)] I ⟨Ay, I, J⟩ (sM (Bz 186 I fun es => ?_))
 obtain ⟨gy, et, bk⟩ := Ac h
 clear h
 refine Bx et [(1, _), (186, _), (187, _)] J3 (fun (S : Nat) (bl : Unit) s ob => s = [(188, .V (S : Int))] ∧ ob = [O0 b [Ab a]]) ⟨I, I⟩ ⟨I, J⟩ ⟨[0], I, by decide⟩ ?_ ?_
 rintro S e bl gz s ob eu bm ⟨rfl, rfl⟩ h ev
 unfold Gs.B11 at h
 have ew := Cn bm
 refine Ah I (Aa fun g1 ex => Bs I ew (sL ?_))
 subst ex
 refine sN (sM (Aa fun g2 ey => sH (An 2 [.x 0 S (Ba e)] I ⟨⟨I, Ae eu⟩, J⟩ (sJ [] I (sS W5 5 fun g3 => sJ [1] I (A3 1 0 0 [Ba e] I (sI ?_)))))))
 subst ey
 refine Ec 207 ((!(Ck e.Head 0 100000000)) || ((!(Ck e.Fall 0 100000)) || (!(Ck e.Suction 0 100000000)))) ?_ ?_
 refine sH (An 2 [.o 1 1] I J1 (Cc (Dh e.Head 0 100000000 _ I) (Ag 2 I ?_)))
 rcases bt ((!(Ck e.Head 0 100000000))) with n | n
 refine Af 196 I n (Ag 11 I (sI ?_))
 exact jf (by simp only [n, bz]) I I I2
 refine Af 196 I n (An 2 [.o 1 1] I J1 (Cd I I I (Cc (Dh e.Fall 0 100000 _ I) (Ag 3 I ?_))))
 rcases bt ((!(Ck e.Fall 0 100000))) with w | w
 refine Af 202 I w (Ag 5 I (sI ?_))
 exact jf (by simp only [n, w, bz]) I I I2
 refine Af 202 I w (An 2 [.o 1 1] I J1 (Cd I I I (Cc (Dh e.Suction 0 100000000 _ I) (Ag 2 I (sI ?_)))))
 exact jf (by simp only [n, w, bz]) I I I2
 refine Ar h I ?_ ?_
 intro ez h
 refine Ah I ?_
 obtain rfl := ev _ (oi h).symm
 replace h := bk
 replace h := C1 h
 refine sP g0 ?_
 obtain rfl := oi h
 exact sO pr
 intro ez h
 refine sL (sH (An 2 [.k 0 (S + 1 : Nat)] I ⟨A0 bm es, J⟩ ?_))
 obtain rfl := oi h
 exact sI ⟨_, _, _, I, I2, J4, [0], I, by decide⟩
 rintro bl s ob ⟨rfl, rfl⟩ he
 subst he
 have h := C6 bk
 have e0 := Co a.Stations.length
 refine Ah I (Aa fun g4 g5 => Bu I e0 (sQ ?_))
 exact lg ⟨(), h, I2⟩ [0]
 rintro s ob ⟨bj, h, rfl, rfl⟩
 unfold Gs.J10 at h
 refine sN (Ec 218 ((!(Ck a.Vapour (-100000) 100000000)) || (!(Ck a.Settle 0 100))) ?_ ?_)
 refine sH (An 2 [.o 1 0] I J1 (Cc (Dh a.Vapour (-100000) 100000000 _ I) (Ag 2 I ?_)))
 rcases bt ((!(Ck a.Vapour (-100000) 100000000))) with A | A
 refine Af 213 I A (Ag 5 I (sI ?_))
 exact jf (by simp only [A, bz]) I I I2
 refine Af 213 I A (An 2 [.o 1 0] I J1 (Cd I I I (Cc (Dh a.Settle 0 100 _ I) (Ag 2 I (sI ?_)))))
 exact jf (by simp only [A, bz]) I I I2
 refine Ar h I ?_ ?_
 intro e1 h
 refine Ah I (sP g0 ?_)
 obtain rfl := oi h
 exact sO pr
 intro e1 h
 refine sL (Ah I (sP g0 ?_))
 obtain rfl := oi h
 exact sO pr
theorem Hq (a : Sg) (b : Int) (r : Int × Int) (h : Fb a b = r) : ACalls Aj 64 [.agg (Ak a), .V b] [] (fun x new => x = .tup [.V r.1, .V r.2] ∧ new = []) := by
 refine Ad Tryz.func64 I I I fun C hC => ?_
 refine Aa fun e c => sH (sJ [] I (Bo (Ak a) 7 fun f => Ag 2 I (sI ?_)))
 subst c
 refine sN (Ah I (Ar h I ?_ ?_))
 intro d h
 refine Ke (pd 6 0 []) [0] [_] [.o 1 0, .o 3 0] I I J2 (sP g0 ?_)
 obtain rfl := h
 exact sO ⟨.inr I, [_, _], [], J2, Cm, I2⟩
 intro d h
 refine sL (Ke (pd 6 0 []) [0] [_] [.o 1 0, .o 3 0] I I J2 (sP g0 ?_))
 obtain rfl := h
 exact sO ⟨.inr I, [_, _], [], J2, Cm, I2⟩
theorem hF (d : Nw) (e : Plan) (n : Int) (r : Int × Int) (h : Qi d e n = some r) : ACalls Aj 100 [.agg (Ab d), .agg (Am e), .V n] [] (fun x new => x = .tup [.V r.1, .V r.2] ∧ new = []) := by
 refine Ad Tryz.func100 I I I fun C hC => ?_
 unfold Qi at h
 refine Aa fun y1 Q => sH (sJ [] I (Bo (Ab d) 6 fun p => sJ [] I (Bo (Am e) 3 fun g => Ag 2 I (sI ?_))))
 subst Q
 refine Ah I (Ai (fun s ob => ∃ (t : Int × Int), Qi.J1 d e n t = some r ∧ s = [(8, .V t.1), (9, .V t.2)] ∧ ob = [O0 p [Ab d], O1 g [Am e]]) [(2, _), (3, _), (4, _)] J3 ?_ ?_)
 refine Bh [.o 1 0, .l 2 (d.Segments.length : Int)] I ⟨Ay, I, J⟩ (sM (Bz 17 I fun R => ?_))
 obtain ⟨ar, S, U⟩ := Ac h
 clear h
 refine Ct S [(2, _), (3, _), (4, _), (17, _), (18, _)] J5 (fun (u : Nat) (b : Int × Int) s ob => s = [(19, .V (u : Int)), (8, .V b.1), (9, .V b.2)] ∧ ob = [O0 p [Ab d], O1 g [Am e]]) ⟨I, I⟩ ⟨I, I, I, J⟩ ⟨[0, 1], I, by decide⟩ ?_ ?_
 rintro u w b G s ob W H ⟨rfl, rfl⟩ h
 unfold Qi.B5 at h
 have X := Cn H
 refine Ah I (Aa fun au Y => Bs I X (sL ?_))
 subst Y
 refine Ai (fun s ob => ∃ (y : Int × Int), Qi.J6 y = some G ∧ s = [(8, .V y.1), (9, .V y.2)] ∧ ob = [O0 p [Ab d], O1 g [Am e]]) [(2, _), (3, _), (4, _), (17, _), (18, _), (19, _)] J6 ?_ ?_
 refine sM (Aa fun av Z => sH (An 3 [.x 1 u (Ak w)] I ⟨⟨I, Ae W⟩, J⟩ (sJ [] I (sS W2 7 fun aw => Ag 1 I (sJ [2] I (A3 2 0 0 [Ak w] I (sI ?_)))))))
 subst Z
 refine Aa fun ax aa => sN ?_
 obtain ⟨a, ⟨A, B⟩, h⟩ := A5 h
 refine Ey [.o 1 1, .x 3 a.1 (rI a.2)] I ⟨⟨A, Ae B⟩, I, J⟩ (Ar h I ?_ ?_)
 intro ab h
 refine sQ ?_
 exact lg ⟨(b.1, b.2), h, I2⟩ [0, 1]
 intro ab h
 refine sL ?_
 subst aa
 refine Aa fun ay ac => By (pd 12 0 [6]) [2, 1] [_, _] I (B8 6 [.o 0 0, .o 2 1, .x 4 a.1 (rI a.2)] I ⟨⟨A, Ae B⟩, I, I, J⟩ (Dp I (Hq w a.2 _ I) (Bg 5 I (Ap (sI ?_)))))
 subst ac
 refine Ai (fun s ob => ∃ (j : Int), Qi.J7 n w b a j = some G ∧ s = [(9, .V j)] ∧ ob = [O0 p [Ab d], O1 g [Am e]]) [(2, _), (3, _), (4, _), (8, _), (10, _), (13, _), (17, _), (18, _), (19, _)] J9 ?_ ?_
 refine Ah I (Ar h I ?_ ?_)
 intro ad h
 refine sH (An 6 [.o 2 1, .x 4 a.1 (rI a.2)] I ⟨⟨A, Ae B⟩, I, J⟩ (Cc (N8 a.2 _ I) (Ag 2 I (sI ?_))))
 exact lg ⟨wr (b.2 + (Ga a.2)), h, I2⟩ [0, 1]
 intro ad h
 refine sL ?_
 exact lg ⟨b.2, h, I2⟩ [0, 1]
 rintro s ob ⟨j, h, rfl, rfl⟩
 refine Ah I (Ar h I ?_ ?_)
 intro ae h
 refine sH (An 6 [.o 2 1, .x 4 a.1 (rI a.2)] I ⟨⟨A, Ae B⟩, I, J⟩ (Cc (N8 a.2 _ I) (Ag 2 I (sI ?_))))
 exact lg ⟨(wr (b.1 + (Ga a.2)), j), h, I2⟩ [0, 1]
 intro ae h
 refine sL ?_
 exact lg ⟨(b.1, j), h, I2⟩ [0, 1]
 rintro s ob ⟨y, h, rfl, rfl⟩
 refine sH (An 2 [.k 0 (u + 1 : Nat)] I ⟨A0 H R, J⟩ ?_)
 obtain rfl := oi h
 exact sI (lg I2 [0, 1])
 rintro b s ob ⟨rfl, rfl⟩ he
 subst he
 have h := U
 have af := Co d.Segments.length
 refine Ah I (Aa fun az a0 => Bu I af (sQ ?_))
 exact lg ⟨(b.1, b.2), h, I2⟩ [0, 1]
 rintro s ob ⟨t, h, rfl, rfl⟩
 unfold Qi.J1 at h
 refine Ai (fun s ob => ∃ (D : Int × Int), Qi.J2 D = some r ∧ s = [(8, .V D.1), (9, .V D.2)] ∧ ob = []) [] J ?_ ?_
 refine Bh [.o 1 0, .l 2 (d.Ports.length : Int)] I ⟨Ay, I, J⟩ (sM (Bz 64 I fun ag => ?_))
 obtain ⟨a1, ah, ai⟩ := Ac h
 clear h
 refine Ct ah [(2, _), (4, _), (64, _), (65, _)] J4 (fun (E : Nat) (f : Int × Int) s ob => s = [(66, .V (E : Int)), (8, .V f.1), (9, .V f.2)] ∧ ob = [O1 g [Am e]]) ⟨I, I⟩ ⟨I, I, I, J⟩ ⟨[1], I, by decide⟩ ?_ ?_
 rintro E K f aj s ob ak M ⟨rfl, rfl⟩ h
 unfold Qi.B3 at h
 have al := Cn M
 refine Ah I (Aa fun a2 am => Bs I al (sL ?_))
 subst am
 refine Ai (fun s ob => ∃ (F : Int × Int), Qi.J4 F = some aj ∧ s = [(8, .V F.1), (9, .V F.2)] ∧ ob = [O1 g [Am e]]) [(2, _), (4, _), (64, _), (65, _), (66, _)] J5 ?_ ?_
 refine sM (Aa fun a3 an => sH (An 3 [.x 1 E (Cb K)] I ⟨⟨I, Ae ak⟩, J⟩ (sJ [] I (sS W6 3 fun a4 => Ag 1 I (sJ [1] I (A3 1 0 0 [Cb K] I (sI ?_)))))))
 subst an
 refine Bh [.o 1 1] I J1 (Ar h I ?_ ?_)
 intro ao h
 obtain ⟨i, ⟨O, P⟩, h⟩ := A5 h
 refine Il (pd 19 0 []) [0] [_] [.o 2 0, .x 4 i.1 (rI i.2), .o 10 0, .x 12 i.1 (rI i.2)] I I ⟨⟨O, Ae P⟩, I, ⟨O, Ae P⟩, I, J⟩ ?_
 exact lg ⟨(wr (f.1 + (max 0 i.2)), wr (f.2 + (max 0 (wr (0 - i.2))))), h, I2⟩ [0]
 intro ao h
 refine sL ?_
 exact lg ⟨(f.1, f.2), h, I2⟩ [0]
 rintro s ob ⟨F, h, rfl, rfl⟩
 refine sH (An 2 [.k 0 (E + 1 : Nat)] I ⟨A0 M ag, J⟩ ?_)
 obtain rfl := oi h
 exact sI (lg I2 [0])
 rintro f s ob ⟨rfl, rfl⟩ he
 subst he
 have h := ai
 have ap := Co d.Ports.length
 refine Ah I (Aa fun a5 a6 => Bu I ap (sQ ?_))
 exact lg ⟨(f.1, f.2), h, I2⟩ []
 rintro s ob ⟨D, h, rfl, rfl⟩
 refine Ah I ?_
 obtain rfl := oi h
 exact sO ⟨.inr I, [_, _], [], J2, Cm, I2⟩
theorem Uh (b : Nw) (g : Plan) (r : Li) (h : Hz b g = some r) : ACalls Aj 101 [.agg (Ab b), .agg (Am g)] [] (fun x new => ∃ (R : Value), x = .v R ∧ new = [U0 R r]) := by
 refine Ad Tryz.func101 I I I fun C hC => ?_
 refine Aa fun y1 ad => sH (sJ [] I (Bo (Ab b) 6 fun i => sJ [] I (Bo (Am g) 3 fun j => Ag 1 I (sI ?_))))
 subst ad
 refine Ah I (Aa fun y5 ae => ?_)
 obtain ⟨l6, ⟨m8, af, ag, ah⟩, h⟩ := Gm h
 refine sH (An 3 [.o 1 0, .l 2 (b.Nodes.length : Int)] I ⟨Ay, I, J⟩ (sJ [] I (Bp (sz := 1) I I I I I I I I I I af ag (Cr (f := rB) ah I) dS fun n => Ag 1 I (sI ?_))))
 subst ae
 refine sM (sP (Bv 3 1) ?_)
 obtain ⟨bj, ai, aj⟩ := Ac h
 clear h
 refine Cs ai [(2, _), (3, _), (6, _)] J3 (fun (a : Li × (List Bool)) s ob => ∃ (e : Value), s = [(5, .v e)] ∧ ob = [O0 i [Ab b], O1 j [Am g], U1 n a.2, U0 e a.1]) ⟨(.slice none 0 0), I2⟩ ⟨I, J⟩ ⟨[0, 1, 2, 3], I, by decide⟩ ?_
 rintro a ak s ob ⟨e, rfl, rfl⟩ h al
 unfold Hz.B1 at h
 refine sM (Ah I (Ai (fun s ob => ∃ (G : Int), Hz.J2 a G = some ak ∧ s = [(7, .V G)] ∧ ob = [O0 i [Ab b], O1 j [Am g], U1 n a.2, U0 e a.1]) [(2, _), (3, _), (5, _), (6, _)] J4 ?_ ?_))
 refine Bh [.o 1 0, .l 2 (b.Nodes.length : Int)] I ⟨Ay, I, J⟩ (sM (Bz 19 I fun am => ?_))
 obtain ⟨bk, an, ao⟩ := Ac h
 clear h
 refine Ct an [(2, _), (3, _), (5, _), (6, _), (20, _)] J5 (fun (u : Nat) (p : Int) s ob => s = [(21, .V (u : Int)), (7, .V p)] ∧ ob = [O0 i [Ab b], O1 j [Am g], U1 n a.2, U0 e a.1]) ⟨I, I⟩ ⟨I, I, J⟩ ⟨[0, 1, 2, 3], I, by decide⟩ ?_ ?_
 rintro u bl p S s ob bm U ⟨rfl, rfl⟩ h
 unfold Hz.B3 at h
 have aq := Cn U
 refine Ah I (Aa fun bn ar => Bs I aq (sL ?_))
 subst ar
 refine Ai (fun s ob => ∃ (O : Int), Hz.J4 O = some S ∧ s = [(7, .V O)] ∧ ob = [O0 i [Ab b], O1 j [Am g], U1 n a.2, U0 e a.1]) [(2, _), (3, _), (5, _), (6, _), (20, _), (21, _)] J6 ?_ ?_
 refine sM (Ah I (Aa fun bo au => ?_))
 obtain ⟨P, ⟨av, W⟩, h⟩ := A5 h
 refine sH (Ag 2 I (sV (Bm 2 (m := P.1) I I I I I I I av (Ae W)) I (sV (Bl 2 P.1 0 I I I (Ae W) I (y := .v (.bool P.2)) I) I (Ag 2 I (sI ?_)))))
 subst au
 refine Ai (fun s ob => ∃ (B : Bool), Hz.J5 u p B = some S ∧ s = [(9, .v (.bool B))] ∧ ob = [O0 i [Ab b], O1 j [Am g], U1 n a.2, U0 e a.1]) [(2, _), (3, _), (5, _), (6, _), (7, _), (8, _), (20, _), (21, _)] J8 ?_ ?_
 refine Bh [.o 1 0, .l 2 (b.Segments.length : Int)] I ⟨Ay, I, J⟩ (sM (Bz 30 I fun aw => ?_))
 obtain ⟨bp, ax, ay⟩ := Ac h
 clear h
 refine Ct ax [(2, _), (3, _), (5, _), (6, _), (7, _), (8, _), (20, _), (21, _), (30, _), (31, _)] iR (fun (H : Nat) (w : Bool) s ob => s = [(32, .V (H : Int)), (9, .v (.bool w))] ∧ ob = [O0 i [Ab b], O1 j [Am g], U1 n a.2, U0 e a.1]) ⟨I, I⟩ ⟨I, I, J⟩ ⟨[0, 1, 2, 3], I, by decide⟩ ?_ ?_
 rintro H K w az s ob a0 X ⟨rfl, rfl⟩ h
 unfold Hz.B6 at h
 have a1 := Cn X
 refine Ah I (Aa fun bq a2 => Bs I a1 (sL ?_))
 subst a2
 refine Ai (fun s ob => ∃ (Q : Bool), Hz.J7 Q = some az ∧ s = [(9, .v (.bool Q))] ∧ ob = [O0 i [Ab b], O1 j [Am g], U1 n a.2, U0 e a.1]) [(2, _), (3, _), (5, _), (6, _), (7, _), (8, _), (20, _), (21, _), (30, _), (31, _), (32, _)] qR ?_ ?_
 refine sM (Aa fun br a3 => sH (An 3 [.x 1 H (Ak K)] I ⟨⟨I, Ae a0⟩, J⟩ (sJ [] I (sS W2 7 fun bs => Ag 1 I (sJ [4] I (A3 4 0 0 [Ak K] I (sI ?_)))))))
 subst a3
 refine Aa fun bu a4 => ?_
 obtain ⟨A, ⟨Y, Z⟩, h⟩ := A5 h
 refine Ey [.o 1 1, .x 3 A.1 (rI A.2)] I ⟨⟨Y, Ae Z⟩, I, J⟩ ?_
 subst a4
 refine Ar h I ?_ ?_
 intro a5 h
 refine Aa fun bv a6 => By (pd 12 0 [6]) [4, 1] [_, _] I (B8 6 [.o 0 0, .o 2 1, .x 4 A.1 (rI A.2)] I ⟨⟨Y, Ae Z⟩, I, I, J⟩ (Dp I (Hq K A.2 _ I) (Bg 5 I (Ap (sI ?_)))))
 subst a6
 refine sH (Ag 2 I ?_)
 rcases bt (w) with D | D
 replace h := Bq D h
 refine Af 54 I D ?_
 rcases bt ((((Fb K A.2).2) != (u : Int))) with E | E
 replace h := Bq E h
 refine Ag 4 I (Af 58 I E (Ag 7 I (sI ?_)))
 exact lg ⟨true, h, I2⟩ [0, 1, 2, 3]
 replace h := Br E h
 obtain ⟨M, ⟨a7, aa⟩, h⟩ := A5 h
 refine Ag 4 I (Af 58 I E (Ag 2 I (Cd I I I (sV (Bm 2 (m := M.1) I I I I I I I a7 (Ae aa)) I (Cd I I I (sV (Bl 2 M.1 0 I I I (Ae aa) I (y := .v (.bool M.2)) I) I (Ag 3 I (sI ?_))))))))
 exact lg ⟨M.2, h, I2⟩ [0, 1, 2, 3]
 replace h := Br D h
 refine Af 54 I D (Ag 4 I (F2 I I dS (F2 I I dS (F2 I I dS (F2 I I dS (Ag 3 I (sI ?_)))))))
 exact lg ⟨false, h, I2⟩ [0, 1, 2, 3]
 intro a5 h
 refine sL ?_
 exact lg ⟨w, h, I2⟩ [0, 1, 2, 3]
 rintro s ob ⟨Q, h, rfl, rfl⟩
 refine sH (An 2 [.k 0 (H + 1 : Nat)] I ⟨A0 X aw, J⟩ ?_)
 obtain rfl := oi h
 exact sI (lg I2 [0, 1, 2, 3])
 rintro w s ob ⟨rfl, rfl⟩ he
 subst he
 have h := ay
 have a8 := Co b.Segments.length
 refine Ah I (Aa fun bw bx => Bu I a8 (sQ ?_))
 exact lg ⟨w, h, I2⟩ [0, 1, 2, 3]
 rintro s ob ⟨B, h, rfl, rfl⟩
 unfold Hz.J5 at h
 refine Ec 70 (B && decide (p < 0)) ?_ ?_
 refine sH (Ag 2 I ?_)
 rcases bt (B) with F | F
 refine Af 67 I F (Ag 3 I (sI ?_))
 exact jf (by simp only [F, bz]) I I I2
 refine Af 67 I F (Ag 3 I (sI ?_))
 exact jf (by simp only [F, bz]) I I I2
 refine Ar h I ?_ ?_
 intro a9 h
 refine Sj I ?_
 exact lg ⟨(u : Int), h, I2⟩ [0, 1, 2, 3]
 intro a9 h
 refine sL ?_
 exact lg ⟨p, h, I2⟩ [0, 1, 2, 3]
 rintro s ob ⟨O, h, rfl, rfl⟩
 refine sH (An 2 [.k 0 (u + 1 : Nat)] I ⟨A0 U am, J⟩ ?_)
 obtain rfl := oi h
 exact sI (lg I2 [0, 1, 2, 3])
 rintro p s ob ⟨rfl, rfl⟩ he
 subst he
 have h := ao
 have ba := Co b.Nodes.length
 refine Ah I (Aa fun b0 b1 => Bu I ba (sQ ?_))
 exact lg ⟨p, h, I2⟩ [0, 1, 2, 3]
 rintro s ob ⟨G, h, rfl, rfl⟩
 refine sN (Ah I (Ar h I ?_ ?_))
 intro bb h
 refine Ah I ?_
 obtain rfl := al _ (oi h).symm
 replace h := aj
 refine Cu [3] I ?_
 obtain rfl := oi h
 exact sO ⟨.inr I, [_], [U0 e a.1], J1, Cy I (Cm), ⟨e, I2⟩⟩
 intro bb h
 refine sL (sN ?_)
 obtain ⟨b4, bc, h⟩ := Ac h
 refine sH (Ag 2 I (sJ [] I (sR 1 (([G] : Li).map rI) (sJ [3] I (C7 3 I bc fun bd => Ag 1 I (sI ?_))))))
 obtain ⟨ab, ⟨be, ac⟩, h⟩ := A5 h
 refine sH (Ag 2 I (sV (Bm 2 (m := ab.1) I I I I I I I be (Ae ac)) I (sJ [2] I (Cg 2 ab.1 0 I I I (Ae ac) I I I I (Ca I) I (Df (x := true) I) ?_))))
 obtain rfl := oi h
 exact sI ⟨_, _, _, I, ⟨bd, I2⟩, J4, [0, 1, 2, 3], I, by decide⟩
theorem Tq (b : Nw) (a : Plan) (r : Int) (h : Kp b a = some r) : ACalls Aj 59 [.agg (Ab b), .agg (Am a)] [] (fun x new => x = .V r ∧ new = []) := by
 refine Ad Tryz.func59 I I I fun C hC => ?_
 refine Aa fun y1 Q => sH (sJ [] I (Bo (Ab b) 6 fun d => sJ [] I (Bo (Am a) 3 fun e => Ag 1 I (sI ?_))))
 subst Q
 refine Aa fun y4 R => sN ?_
 obtain ⟨r5, S, h⟩ := Ac h
 refine sH (An 1 [.o 0 0] I J1 (Cc (Jy _ _ S) (Ag 1 I (sI (Ah I (Ar h I ?_ ?_))))))
 intro U h
 refine Ah I (sP g0 ?_)
 obtain rfl := oi h
 exact sO pr
 intro U h
 refine sL ?_
 subst R
 refine Aa fun y8 W => Ec 43 (((a.Rates.length : Int) != (b.Segments.length : Int)) || (((a.Ports.length : Int) != (b.Ports.length : Int)) || ((a.Pumps.length : Int) != (b.Stations.length : Int)))) ?_ ?_
 refine sH (An 8 [.o 1 1, .l 2 (a.Rates.length : Int), .o 4 0, .l 5 (b.Segments.length : Int)] I ⟨Ay, I, Ay, I, J⟩ ?_)
 rcases bt (((a.Rates.length : Int) != (b.Segments.length : Int))) with f | f
 refine Af 26 I f (Ag 17 I (sI ?_))
 exact jf (by simp only [f, bz]) I I I2
 refine Af 26 I f (An 9 [.o 1 1, .l 2 (a.Ports.length : Int), .o 4 0, .l 5 (b.Ports.length : Int)] I ⟨Ay, I, Ay, I, J⟩ ?_)
 rcases bt (((a.Ports.length : Int) != (b.Ports.length : Int))) with g | g
 refine Af 35 I g (Ag 8 I (sI ?_))
 exact jf (by simp only [f, g, bz]) I I I2
 refine Af 35 I g (An 8 [.o 1 1, .l 2 (a.Pumps.length : Int), .o 4 0, .l 5 (b.Stations.length : Int)] I ⟨Ay, I, Ay, I, J⟩ (sI ?_))
 exact jf (by simp only [f, g, bz]) I I I2
 refine Ar h I ?_ ?_
 intro X h
 refine Ah I (sP g0 ?_)
 obtain rfl := oi h
 exact sO pr
 intro X h
 refine sL ?_
 subst W
 refine Ai (fun s ob => ∃ (A : Unit), Kp.J1 b a A = some r ∧ s = [] ∧ ob = [O0 d [Ab b], O1 e [Am a]]) [(2, _), (3, _)] J2 ?_ ?_
 refine Bh [.o 1 1, .l 2 (a.Rates.length : Int)] I ⟨Ay, I, J⟩ (sM (Bz 45 I fun Y => ?_))
 obtain ⟨a7, Z, B⟩ := Ac h
 clear h
 refine Bx Z [(2, _), (3, _), (45, _), (46, _)] J4 (fun (p : Nat) (D : Unit) s ob => s = [(47, .V (p : Int))] ∧ ob = [O0 d [Ab b], O1 e [Am a]]) ⟨I, I⟩ ⟨I, J⟩ ⟨[0, 1], I, by decide⟩ ?_ ?_
 rintro p t D a8 s ob aa E ⟨rfl, rfl⟩ h ab
 have ac := Cn E
 refine Ah I (Aa fun a9 ad => Bs I ac (sL ?_))
 subst ad
 refine sN (sM (Bh [.x 1 p (rI t)] I ⟨⟨I, Ae aa⟩, J⟩ (Aa fun ba ae => ?_)))
 obtain ⟨i, ⟨af, ag⟩, h⟩ := A5 h
 refine Ey [.o 1 0, .x 3 i.1 (Ak i.2)] I ⟨⟨af, Ae ag⟩, I, J⟩ ?_
 subst ae
 refine Ec 67 (decide (t < (wr (0 - (min 1000 i.2.Capacity)))) || decide (t > (min 1000 i.2.Capacity))) ?_ ?_
 refine sH (Ag 5 I ?_)
 rcases bt (decide (t < (wr (0 - (min 1000 i.2.Capacity))))) with j | j
 refine Af 63 I j (Ag 4 I (sI ?_))
 exact jf (by simp only [j, bz]) I I I2
 refine Af 63 I j (Ag 4 I (sI ?_))
 exact jf (by simp only [j, bz]) I I I2
 refine Ar h I ?_ ?_
 intro ah h
 refine Ah I ?_
 obtain rfl := ab _ (oi h).symm
 replace h := B
 replace h := C1 h
 refine sP g0 ?_
 obtain rfl := oi h
 exact sO pr
 intro ah h
 refine sL (sH (An 2 [.k 0 (p + 1 : Nat)] I ⟨A0 E Y, J⟩ ?_))
 obtain rfl := oi h
 exact sI ⟨_, _, _, I, I2, J5, [0, 1], I, by decide⟩
 rintro D s ob ⟨rfl, rfl⟩ he
 subst he
 have h := C6 B
 have ai := Co a.Rates.length
 refine Ah I (Aa fun bb bc => Bu I ai (sQ ?_))
 exact lg ⟨(), h, I2⟩ [0, 1]
 rintro s ob ⟨A, h, rfl, rfl⟩
 unfold Kp.J1 at h
 refine Ai (fun s ob => ∃ (F : Unit), Kp.J2 b a F = some r ∧ s = [] ∧ ob = [O0 d [Ab b], O1 e [Am a]]) [(2, _), (3, _)] J2 ?_ ?_
 refine Bh [.o 1 1, .l 2 (a.Ports.length : Int)] I ⟨Ay, I, J⟩ (sM (Bz 70 I fun aj => ?_))
 obtain ⟨bd, ak, G⟩ := Ac h
 clear h
 refine Bx ak [(2, _), (3, _), (70, _), (71, _)] J4 (fun (u : Nat) (H : Unit) s ob => s = [(72, .V (u : Int))] ∧ ob = [O0 d [Ab b], O1 e [Am a]]) ⟨I, I⟩ ⟨I, J⟩ ⟨[0, 1], I, by decide⟩ ?_ ?_
 rintro u w H be s ob al K ⟨rfl, rfl⟩ h am
 unfold Kp.B5 at h
 have an := Cn K
 refine Ah I (Aa fun bf ao => Bs I an (sL ?_))
 subst ao
 refine sN (sM (Bh [.x 0 u (rI w)] I ⟨⟨I, Ae al⟩, J⟩ (Ec 81 (decide (w < (-1000)) || decide (w > 1000)) ?_ ?_)))
 refine sH (Ag 3 I ?_)
 rcases bt (decide (w < (-1000))) with n | n
 refine Af 78 I n (Ag 3 I (sI ?_))
 exact jf (by simp only [n, bz]) I I I2
 refine Af 78 I n (Ag 3 I (sI ?_))
 exact jf (by simp only [n, bz]) I I I2
 refine Ar h I ?_ ?_
 intro ap h
 refine Ah I ?_
 obtain rfl := am _ (oi h).symm
 replace h := G
 replace h := C1 h
 refine sP g0 ?_
 obtain rfl := oi h
 exact sO pr
 intro ap h
 refine sL (sH (An 2 [.k 0 (u + 1 : Nat)] I ⟨A0 K aj, J⟩ ?_))
 obtain rfl := oi h
 exact sI ⟨_, _, _, I, I2, J5, [0, 1], I, by decide⟩
 rintro H s ob ⟨rfl, rfl⟩ he
 subst he
 have h := C6 G
 have aq := Co a.Ports.length
 refine Ah I (Aa fun bg bh => Bu I aq (sQ ?_))
 exact lg ⟨(), h, I2⟩ [0, 1]
 rintro s ob ⟨F, h, rfl, rfl⟩
 unfold Kp.J2 at h
 refine Ai (fun s ob => ∃ (M : Unit), Kp.J3 b a M = some r ∧ s = [] ∧ ob = [O0 d [Ab b], O1 e [Am a]]) [(2, _), (3, _)] J2 ?_ ?_
 refine Bh [.o 1 0, .l 2 (b.Nodes.length : Int)] I ⟨Ay, I, J⟩ (sM (Bz 84 I fun ar => ?_))
 obtain ⟨bi, au, N⟩ := Ac h
 clear h
 refine Bx au [(2, _), (3, _), (85, _)] J3 (fun (y : Nat) (O : Unit) s ob => s = [(86, .V (y : Int))] ∧ ob = [O0 d [Ab b], O1 e [Am a]]) ⟨I, I⟩ ⟨I, J⟩ ⟨[0, 1], I, by decide⟩ ?_ ?_
 rintro y bj O bk s ob bl P ⟨rfl, rfl⟩ h av
 have aw := Cn P
 refine Ah I (Aa fun bm ax => Bs I aw (sL ?_))
 subst ax
 refine sN (sM (Ah I (sN ?_)))
 obtain ⟨bn, ay, h⟩ := Ac h
 refine sH (An 3 [.o 0 0, .o 1 1] I J2 (Cc (hF _ _ _ _ ay) (Ag 5 I (sI (Ah I (Ar h I ?_ ?_))))))
 intro az h
 refine Ah I ?_
 obtain rfl := av _ (oi h).symm
 replace h := N
 replace h := C1 h
 refine sP g0 ?_
 obtain rfl := oi h
 exact sO pr
 intro az h
 refine sL (sH (An 2 [.k 0 (y + 1 : Nat)] I ⟨A0 P ar, J⟩ ?_))
 obtain rfl := oi h
 exact sI ⟨_, _, _, I, I2, J4, [0, 1], I, by decide⟩
 rintro O s ob ⟨rfl, rfl⟩ he
 subst he
 have h := C6 N
 have a0 := Co b.Nodes.length
 refine Ah I (Aa fun bo bp => Bu I a0 (sQ ?_))
 exact lg ⟨(), h, I2⟩ [0, 1]
 rintro s ob ⟨M, h, rfl, rfl⟩
 refine sN (sN ?_)
 obtain ⟨bq, a1, h⟩ := Ac h
 refine By (.still 0 (.still 1 (sl 3 4 (.act 2 (.act 3 (.still 7 .nil)))))) [0, 1] [_, _] I (B8 5 [.o 0 0, .o 1 1, .o 3 0, .l 4 (b.Nodes.length : Int)] I ⟨Ay, I, I, I, J⟩ (sK [] I I I (Ci I I I (Uh _ _ _ a1) dS ?_)))
 rintro _ _ ⟨br, rfl, rfl⟩
 refine sK [] I I I (Ce (Cz 2 I I I I) dS (Bg 1 I (Ap (sI (Ar h I ?_ ?_)))))
 intro a2 h
 refine Ah I (sP g0 ?_)
 obtain rfl := oi h
 exact sO pr
 intro a2 h
 refine sL (Ah I (sP g0 ?_))
 obtain rfl := oi h
 exact sO pr
end Go.Proofs.YtodeekicjiengaaGreatDoor
