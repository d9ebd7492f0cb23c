/- Walks that show what functions of the program compute; printed by a program of ours. No condition. -/
import Derived.Test.YtodeekicjiengaaGreatDoorYvL1
set_option maxRecDepth 100000
namespace Go.Proofs.YtodeekicjiengaaGreatDoor
open Go.Aw
set_option linter.unusedVariables false
set_option linter.unusedSimpArgs false
set_option maxHeartbeats 4000000
theorem Ue (a : Int) (r : Int) (h : Qg a = r) : ACalls Aj 123 [.v (.int .u8 a)] [] (fun x new => x = .V r ∧ new = []) := by
 refine Ad Tryz.func123 I I I fun C hC => ?_
 unfold Qg at h
 refine Ah I (sN (sM (Ai (fun s ob => ∃ (e : Unit), Qg.J1 e = r ∧ s = [] ∧ ob = []) [] J ?_ ?_)))
 refine sM (sM (sN (sM (sN (Aa fun k f => Ec 3 (decide (a ≥ 97) && decide (a ≤ 122)) ?_ ?_)))))
 refine sH (Ag 1 I (sT (tA (c := decide (a ≥ 97)) I I I) I (Ag 1 I ?_)))
 rcases bt (decide (a ≥ 97)) with b | b
 refine Af 6 I b (Ag 1 I (Cd I I I (sT (tA (c := decide (a ≤ 122)) I I I) I (Ag 2 I (sI ?_)))))
 exact jf (by simp only [b, bz]) I I I2
 refine Af 6 I b (Ag 4 I (sI ?_))
 exact jf (by simp only [b, bz]) I I I2
 refine Ar h I ?_ ?_
 intro g h
 refine sQ (sN (Ah I ?_))
 obtain rfl := h
 exact sO pr
 intro g h
 refine sL ?_
 subst f
 refine sN (Ec 10 (decide (a ≥ 48) && decide (a ≤ 57)) ?_ ?_)
 refine sH (Ag 1 I (sT (tA (c := decide (a ≥ 48)) I I I) I (Ag 1 I ?_)))
 rcases bt (decide (a ≥ 48)) with d | d
 refine Af 13 I d (Ag 1 I (Cd I I I (sT (tA (c := decide (a ≤ 57)) I I I) I (Ag 2 I (sI ?_)))))
 exact jf (by simp only [d, bz]) I I I2
 refine Af 13 I d (Ag 4 I (sI ?_))
 exact jf (by simp only [d, bz]) I I I2
 refine Ar h I ?_ ?_
 intro i h
 refine sQ ?_
 exact lg ⟨(), h, I2⟩ []
 intro i h
 refine sL (sN (sH (Ag 1 I (sT (tA (c := (a == 45)) I I I) I (Ag 1 I (sI (Ar h I ?_ ?_)))))))
 intro j h
 refine sQ ?_
 exact lg ⟨(), h, I2⟩ []
 intro j h
 refine sL (sQ (Ah I ?_))
 obtain rfl := h
 exact sO pr
 rintro s ob ⟨e, h, rfl, rfl⟩
 unfold Qg.J1 at h
 refine sN (Ah I ?_)
 obtain rfl := h
 exact sO pr
theorem Of (a : Bt) (r : Bool) (h : Iw a = some r) : ACalls Aj 76 [.v (.string a)] [] (fun x new => x = .v (.bool r) ∧ new = []) := by
 refine Ad Tryz.func76 I I I fun C hC => ?_
 unfold Iw at h
 refine Ah I (Aa fun S o => Ai (fun s ob => ∃ (f : Bool), Iw.J1 a f = some r ∧ s = [(17, .v (.bool f))] ∧ ob = []) [(0, _)] J1 ?_ ?_)
 refine sH (Ag 4 I ?_)
 rcases bt (decide ((a.size : Int) < 1)) with b | b
 replace h := Bq b h
 refine Af 7 I b (Ag 10 I (sI ?_))
 exact lg ⟨true, h, I2⟩ []
 replace h := Br b h
 refine Af 7 I b ?_
 rcases bt (decide ((a.size : Int) > 12)) with d | d
 replace h := Bq d h
 refine Ag 5 I (Af 12 I d (Ag 5 I (sI ?_)))
 exact lg ⟨true, h, I2⟩ []
 replace h := Br d h
 obtain ⟨g, t, h⟩ := Ac h
 obtain ⟨u, w, y⟩ := L3 t
 refine Ag 5 I (Af 12 I d (Ag 1 I (Cd I I I (sT (C9 (m := g.1) I I I I u w y) I (Cd I I I (Cc (Ue g.2 _ I) (Ag 2 I (sI ?_))))))))
 exact lg ⟨((Qg g.2) != 1), h, I2⟩ []
 rintro s ob ⟨f, h, rfl, rfl⟩
 refine Ar h I ?_ ?_
 intro A h
 refine Ah I ?_
 obtain rfl := oi h
 exact sO pr
 intro A h
 refine sL ?_
 subst o
 refine Ai (fun s ob => ∃ (i : Unit), Iw.J2 i = some r ∧ s = [] ∧ ob = []) [] J ?_ ?_
 refine Ah I (sM ?_)
 obtain ⟨U, B, h⟩ := Ac h
 have D : (a.size : Int).toNat ≤ 9223372036854775806 := by have := kW B; omega
 obtain ⟨W, E, j⟩ := Ac h
 clear h
 refine Fe E [(0, _), (19, _)] J2 (fun (e : Nat) (l : Unit) s ob => s = [(20, .V (e : Int))] ∧ ob = []) ⟨I, I⟩ ⟨I, J⟩ ⟨[], I, by decide⟩ ?_ ?_
 rintro e l X s ob F ⟨rfl, rfl⟩ h G
 have H : decide ((e : Int) < (a.size : Int)) = true := decide_eq_true (by omega)
 refine Ah I (Aa fun Y K => Bs I H (sL ?_))
 subst K
 refine sN (sM (Ah I (sN ?_)))
 obtain ⟨n, M, h⟩ := Ac h
 obtain ⟨N, O, P⟩ := L3 M
 refine sH (Ag 2 I (sT (C9 (m := n.1) I I I I N O P) I (Cc (Ue n.2 _ I) (Ag 1 I (sI (Ar h I ?_ ?_))))))
 intro Q h
 refine Ah I ?_
 obtain rfl := G _ (oi h).symm
 replace h := j
 replace h := C1 h
 obtain rfl := oi h
 exact sO pr
 intro Q h
 refine sL (sH (An 2 [.k 0 (e + 1 : Nat)] I ⟨A0 F D, J⟩ ?_))
 obtain rfl := oi h
 exact sI ⟨_, _, _, I, I2, J3, [], I, by decide⟩
 rintro l s ob ⟨rfl, rfl⟩ he
 subst he
 have h := C6 j
 have R : decide ((((a.size : Int).toNat : Nat) : Int) < (a.size : Int)) = false := decide_eq_false (by omega)
 refine Ah I (Aa fun Z aa => Bu I R (sQ ?_))
 exact lg ⟨(), h, I2⟩ []
 rintro s ob ⟨i, h, rfl, rfl⟩
 refine Ah I ?_
 obtain rfl := oi h
 exact sO pr
theorem Ug (a : Nw) (r : Arr (List Bt) 4) (h : Nq a = some r) : ACalls Aj 73 [.agg (Ab a)] [] (fun x new => x = .agg (r.l.map (cL 1 rS)) ∧ new = []) := by
 refine Ad Tryz.func73 I I I fun C hC => ?_
 unfold Nq at h
 refine Aa fun y1 U => sH (sJ [] I (Bo (Ab a) 6 fun u => sJ [] I (sS W4 4 fun f => sI ?_)))
 subst U
 refine Aa fun y4 W => sH (sJ [] I (sS W4 4 fun g => sI ?_))
 subst W
 refine Aa fun y6 X => sH (An 2 [.o 1 0] I J1 (sT (Dt (m := 0) I I I I I I (Ca I)) I (sJ [2] I (A3 2 0 0 [[Q1 a.Nodes, .N, .N, .N]] I (sI ?_)))))
 subst X
 refine Ai (fun s ob => ∃ (c : List Bt) (b : Value), Nq.J1 a c = some r ∧ s = [] ∧ ob = [O0 u [Ab a], O7 f [W4], O7 g [[Q1 a.Nodes, .v b, .N, .N]], U3 b c]) [(1, _), (2, _), (3, _)] J3 ?_ ?_
 refine Bh [.o 1 0, .l 2 (a.Segments.length : Int)] I ⟨Ay, I, J⟩ (sM (Bz 14 I fun Y => sP (Bv 9 1) ?_))
 obtain ⟨a5, Z, aa⟩ := Ac h
 clear h
 refine Ct Z [(1, _), (2, _), (3, _), (14, _), (15, _)] J5 (fun (w : Nat) (y : List Bt) s ob => ∃ (j : Value), s = [(16, .V (w : Int))] ∧ ob = [O0 u [Ab a], O7 f [W4], O7 g [[Q1 a.Nodes, .v j, .N, .N]], U3 j y]) ⟨(.slice none 0 0), I2⟩ ⟨I, J⟩ ⟨[0, 1, 2, 3], I, by decide⟩ ?_ ?_
 rintro w F y a6 s ob ab M ⟨j, rfl, rfl⟩ h
 have ac := Cn M
 refine Ah I (Aa fun a7 ad => Bs I ac (sL ?_))
 subst ad
 refine sN (sM (sN (sH (An 2 [.x 0 w (Ak F)] I ⟨⟨I, Ae ab⟩, J⟩ (sJ [] I (sS W2 7 fun a8 => sJ [4] I (A3 4 0 0 [Ak F] I (sI ?_))))))))
 obtain ⟨a9, ae, h⟩ := Ac h
 refine sH (sT (Dt (m := 1) I I I I I I (Ca I)) I (An 3 [.o 0 2, .o 2 4] I J2 (sJ [] I (sR 1 (([F.Name] : List Bt).map rS) (sJ [3] I (C7 3 I ae fun O => sT (Dt (m := 1) I I I I I I (Ca I)) I (tE 3 I fun af => sJ [2] I (sZ 2 0 1 (es' := [[Q1 a.Nodes, .v O, .N, .N]]) I I I I I I (A7 af) I (Ca I) I I (sI (sH (An 2 [.k 0 (w + 1 : Nat)] I ⟨A0 M Y, J⟩ ?_)))))))))))
 obtain rfl := oi h
 exact sI (lg ⟨O, I2⟩ [0, 1, 2, 3])
 rintro y s ob ⟨j, rfl, rfl⟩ he
 subst he
 have h := aa
 have ag := Co a.Segments.length
 refine Ah I (Aa fun ba bb => Bu I ag (sQ ?_))
 exact lg ⟨y, j, h, I2⟩ [0, 1, 2, 3]
 rintro s ob ⟨c, b, h, rfl, rfl⟩
 unfold Nq.J1 at h
 refine Ai (fun s ob => ∃ (e : List Bt) (d : Value), Nq.J2 a c e = some r ∧ s = [] ∧ ob = [O0 u [Ab a], O7 f [W4], O7 g [[Q1 a.Nodes, .v b, .v d, .N]], U3 b c, U3 d e]) [(1, _), (2, _), (3, _)] J3 ?_ ?_
 refine Bh [.o 1 0, .l 2 (a.Ports.length : Int)] I ⟨Ay, I, J⟩ (sM (Bz 29 I fun ah => sP (Bv 9 1) ?_))
 obtain ⟨bc, ai, aj⟩ := Ac h
 clear h
 refine Ct ai [(1, _), (2, _), (3, _), (29, _), (30, _)] J5 (fun (A : Nat) (B : List Bt) s ob => ∃ (n : Value), s = [(31, .V (A : Int))] ∧ ob = [O0 u [Ab a], O7 f [W4], O7 g [[Q1 a.Nodes, .v b, .v n, .N]], U3 b c, U3 n B]) ⟨(.slice none 0 0), I2⟩ ⟨I, J⟩ ⟨[0, 1, 2, 3, 4], I, by decide⟩ ?_ ?_
 rintro A G B bd s ob ak P ⟨n, rfl, rfl⟩ h
 have al := Cn P
 refine Ah I (Aa fun be am => Bs I al (sL ?_))
 subst am
 refine sN (sM (sN (sH (An 2 [.x 0 A (Cb G)] I ⟨⟨I, Ae ak⟩, J⟩ (sJ [] I (sS W6 3 fun bf => sJ [5] I (A3 5 0 0 [Cb G] I (sI ?_))))))))
 obtain ⟨bg, an, h⟩ := Ac h
 refine sH (sT (Dt (m := 2) I I I I I I (Ca I)) I (An 3 [.o 0 2, .o 2 5] I J2 (sJ [] I (sR 1 (([G.Name] : List Bt).map rS) (sJ [4] I (C7 4 I an fun Q => sT (Dt (m := 2) I I I I I I (Ca I)) I (tE 4 I fun ao => sJ [2] I (sZ 2 0 2 (es' := [[Q1 a.Nodes, .v b, .v Q, .N]]) I I I I I I (A7 ao) I (Ca I) I I (sI (sH (An 2 [.k 0 (A + 1 : Nat)] I ⟨A0 P ah, J⟩ ?_)))))))))))
 obtain rfl := oi h
 exact sI (lg ⟨Q, I2⟩ [0, 1, 2, 3, 4])
 rintro B s ob ⟨n, rfl, rfl⟩ he
 subst he
 have h := aj
 have aq := Co a.Ports.length
 refine Ah I (Aa fun bh bi => Bu I aq (sQ ?_))
 exact lg ⟨B, n, h, I2⟩ [0, 1, 2, 3, 4]
 rintro s ob ⟨e, d, h, rfl, rfl⟩
 unfold Nq.J2 at h
 refine Ai (fun s ob => ∃ (q : List Bt) (i : Value), Nq.J3 a c e q = some r ∧ s = [] ∧ ob = [O7 f [W4], O7 g [[Q1 a.Nodes, .v b, .v d, .v i]], U3 b c, U3 d e, U3 i q]) [(2, _), (3, _)] J2 ?_ ?_
 refine Bh [.o 1 0, .l 2 (a.Stations.length : Int)] I ⟨Ay, I, J⟩ (sM (Bz 44 I fun ar => sP (Bv 9 1) ?_))
 obtain ⟨bj, au, av⟩ := Ac h
 clear h
 refine Ct au [(2, _), (3, _), (44, _), (45, _)] J4 (fun (D : Nat) (E : List Bt) s ob => ∃ (t : Value), s = [(46, .V (D : Int))] ∧ ob = [O7 f [W4], O7 g [[Q1 a.Nodes, .v b, .v d, .v t]], U3 b c, U3 d e, U3 t E]) ⟨(.slice none 0 0), I2⟩ ⟨I, J⟩ ⟨[1, 2, 3, 4, 5], I, by decide⟩ ?_ ?_
 rintro D H E bk s ob aw R ⟨t, rfl, rfl⟩ h
 have ax := Cn R
 refine Ah I (Aa fun bl ay => Bs I ax (sL ?_))
 subst ay
 refine sN (sM (sN (sH (An 2 [.x 0 D (Ba H)] I ⟨⟨I, Ae aw⟩, J⟩ (sJ [] I (sS W5 5 fun bm => sJ [5] I (A3 5 0 0 [Ba H] I (sI ?_))))))))
 obtain ⟨bn, az, h⟩ := Ac h
 refine sH (sT (Dt (m := 3) I I I I I I (Ca I)) I (An 3 [.o 0 1, .o 2 5] I J2 (sJ [] I (sR 1 (([H.Name] : List Bt).map rS) (sJ [4] I (C7 4 I az fun S => sT (Dt (m := 3) I I I I I I (Ca I)) I (tE 4 I fun a0 => sJ [1] I (sZ 1 0 3 (es' := [[Q1 a.Nodes, .v b, .v d, .v S]]) I I I I I I (A7 a0) I (Ca I) I I (sI (sH (An 2 [.k 0 (D + 1 : Nat)] I ⟨A0 R ar, J⟩ ?_)))))))))))
 obtain rfl := oi h
 exact sI (lg ⟨S, I2⟩ [0, 1, 2, 3, 4])
 rintro E s ob ⟨t, rfl, rfl⟩ he
 subst he
 have h := av
 have a1 := Co a.Stations.length
 refine Ah I (Aa fun bo bp => Bu I a1 (sQ ?_))
 exact lg ⟨E, t, h, I2⟩ [0, 1, 2, 3, 4]
 rintro s ob ⟨q, i, h, rfl, rfl⟩
 refine sN (sH (An 1 [.o 0 1] I J1 (sJ [0] I (A3 0 0 0 [[Q1 a.Nodes, .v b, .v d, .v i]] I (sI (sP (Bk [2, 3, 4] (K := [U3 b c, U3 d e, U3 i q]) I [] J (ob' := [O7 f [[Q1 a.Nodes, Q1 c, Q1 e, Q1 q]], O7 g [[Q1 a.Nodes, .v b, .v d, .v i]]]) (.cons (.arr (.cons (.refl _) (.cons (.us 0 I) (.cons (.us 1 I) (.cons (.us 2 I) (.rest _)))))) (.rest _))) (Cu [0] I ?_)))))))
 obtain rfl := oi h
 exact sO ⟨.inr I, [_], [], ⟨⟨0, _, _, _, _, _, _, _, I5⟩, J⟩, Cm, I2⟩
theorem eS (a : Sn) (b : Sn) (r : Bool) (h : Ku a b = r) : ACalls Aj 126 [.agg (Ba a), .eptr (Ba b)] [] (fun x new => x = .v (.bool r) ∧ new = []) := by
 refine Ad Tryz.func126 I I I fun C hC => ?_
 unfold Ku at h
 refine sN (sH (sJ [] I (Bo (Ba a) 5 fun c => Ag 1 I (sI (Bh [.o 1 0] I J1 (sP g0 ?_))))))
 obtain rfl := h
 exact sO pr
theorem dY (a : Nw) (r : Bool) (h : Uv a = some r) : ACalls Aj 77 [.agg (Ab a)] [] (fun x new => x = .v (.bool r) ∧ new = []) := by
 refine Ad Tryz.func77 I I I fun C hC => ?_
 unfold Uv at h
 refine Aa fun y1 G => sH (sJ [] I (Bo (Ab a) 6 fun b => Ag 1 I (sI ?_)))
 subst G
 refine Ai (fun s ob => ∃ (j : Unit), Uv.J1 a j = some r ∧ s = [] ∧ ob = [O0 b [Ab a]]) [(1, _)] J1 ?_ ?_
 refine Aa fun aw H => ?_
 obtain ⟨ax, K, h⟩ := Ac h
 refine sH (An 1 [.o 0 0] I J1 (sJ [] I (Ci I I I (Ug _ _ K) dS ?_)))
 rintro _ _ ⟨rfl, rfl⟩
 refine Ag 1 I (sI ?_)
 subst H
 refine sM ?_
 have M : (4 : Nat) ≤ 9223372036854775806 := by decide
 obtain ⟨ay, N, n⟩ := Ac h
 clear h
 refine Fe N [(1, _), (10, _)] J2 (fun (e : Nat) (t : Unit) s ob => s = [(11, .V (e : Int))] ∧ ob = [O0 b [Ab a]]) ⟨I, I⟩ ⟨I, J⟩ ⟨[0], I, by decide⟩ ?_ ?_
 rintro e t O s ob P ⟨rfl, rfl⟩ h Q
 unfold Uv.B4 at h
 have R : decide ((e : Int) < 4) = true := decide_eq_true (by omega)
 refine Ah I (Aa fun az S => Bs I R (sL ?_))
 subst S
 refine Ai (fun s ob => ∃ (u : Unit), Uv.J5 u = some O ∧ s = [] ∧ ob = [O0 b [Ab a]]) [(1, _), (10, _), (11, _)] J3 ?_ ?_
 refine sM (Aa fun a0 U => ?_)
 obtain ⟨i, ⟨W, X⟩, h⟩ := A5 h
 refine sH (sT (G8 (m := i.1) I I I I I I I W X (hlen := Arr.h _)) I (Ag 1 I (sI ?_)))
 subst U
 refine Bh [.l 1 (i.2.length : Int)] I ⟨Ay, J⟩ (sM (Bz 14 I fun Y => ?_))
 obtain ⟨a1, Z, w⟩ := Ac h
 clear h
 refine Bx Z [(1, _), (4, _), (10, _), (11, _), (14, _), (15, _)] J6 (fun (f : Nat) (y : Unit) s ob => s = [(16, .V (f : Int))] ∧ ob = [O0 b [Ab a]]) ⟨I, I⟩ ⟨I, J⟩ ⟨[0], I, by decide⟩ ?_ ?_
 rintro f aa y a2 s ob ab A ⟨rfl, rfl⟩ h ac
 have ad := Cn A
 refine Ah I (Aa fun a3 ae => Bs I ad (sL ?_))
 subst ae
 refine sN (sM (Bh [.x 1 f (rS aa)] I ⟨⟨I, Ae ab⟩, J⟩ (sN ?_)))
 obtain ⟨a4, af, h⟩ := Ac h
 refine sH (Ag 2 I (Cc (eT _ _ _ af) (Ag 2 I (sI (Ar h I ?_ ?_)))))
 intro ag h
 refine Ah I ?_
 obtain rfl := ac _ (oi h).symm
 replace h := w
 replace h := C1 h
 obtain rfl := Q _ (oi h).symm
 replace h := n
 replace h := C1 h
 refine sP g0 ?_
 obtain rfl := oi h
 exact sO pr
 intro ag h
 refine sL (sH (An 2 [.k 0 (f + 1 : Nat)] I ⟨A0 A Y, J⟩ ?_))
 obtain rfl := oi h
 exact sI ⟨_, _, _, I, I2, J7, [0], I, by decide⟩
 rintro y s ob ⟨rfl, rfl⟩ he
 subst he
 have h := C6 w
 have ah := Co i.2.length
 refine Ah I (Aa fun a5 a6 => Bu I ah (sQ ?_))
 exact lg ⟨(), h, I2⟩ [0]
 rintro s ob ⟨u, h, rfl, rfl⟩
 refine sH (An 2 [.k 0 (e + 1 : Nat)] I ⟨A0 P M, J⟩ ?_)
 obtain rfl := oi h
 exact sI ⟨_, _, _, I, I2, J3, [0], I, by decide⟩
 rintro t s ob ⟨rfl, rfl⟩ he
 subst he
 have h := C6 n
 have ai : decide (((4 : Nat) : Int) < 4) = false := by simp
 refine Ah I (Aa fun a7 a8 => Bu I ai (sQ ?_))
 exact lg ⟨(), h, I2⟩ [0]
 rintro s ob ⟨j, h, rfl, rfl⟩
 unfold Uv.J1 at h
 refine Ai (fun s ob => ∃ (B : Unit), Uv.J2 B = some r ∧ s = [] ∧ ob = []) [] J ?_ ?_
 refine Bh [.o 1 0, .l 2 (a.Stations.length : Int)] I ⟨Ay, I, J⟩ (sM (Bz 29 I fun aj => ?_))
 obtain ⟨a9, ak, D⟩ := Ac h
 clear h
 refine Bx ak [(1, _), (29, _), (30, _)] J3 (fun (g : Nat) (E : Unit) s ob => s = [(31, .V (g : Int))] ∧ ob = [O0 b [Ab a]]) ⟨I, I⟩ ⟨I, J⟩ ⟨[0], I, by decide⟩ ?_ ?_
 rintro g d E ba s ob al F ⟨rfl, rfl⟩ h am
 have an := Cn F
 refine Ah I (Aa fun bb ao => Bs I an (sL ?_))
 subst ao
 refine sN (sM (Aa fun bc ap => sH (An 3 [.x 1 g (Ba d)] I ⟨⟨I, Ae al⟩, J⟩ (sJ [] I (sS W5 5 fun bd => Ag 1 I (sJ [1] I (A3 1 0 0 [Ba d] I (sI ?_))))))))
 subst ap
 refine sN ?_
 obtain ⟨be, aq, h⟩ := Ac h
 refine sH (An 2 [.o 1 0] I J1 (sT (tD I I) I (sJ [] I (Cl I (.refl _) I I (.cons (.refl _) (.cons (.fn (.rest _) (.cons (.box 1 I (.rest _)) (.rest _))) (.rest _))) I (Ti _ (.fn 126 [] [.eptr (Ba d)]) I (fun x => some (Ku x d)) (fun x r h => by obtain I := oi h; exact eS x d _ I) _ aq) dS (by rintro _ _ ⟨rfl, _⟩; rfl) ?_))))
 rintro _ ⟨_, rfl, -⟩
 refine Ag 2 I (sI (Ar h I ?_ ?_))
 intro ar h
 refine Ah I ?_
 obtain rfl := am _ (oi h).symm
 replace h := D
 replace h := C1 h
 refine sP g0 ?_
 obtain rfl := oi h
 exact sO pr
 intro ar h
 refine sL (sH (An 2 [.k 0 (g + 1 : Nat)] I ⟨A0 F aj, J⟩ ?_))
 obtain rfl := oi h
 exact sI ⟨_, _, _, I, I2, J4, [0], I, by decide⟩
 rintro E s ob ⟨rfl, rfl⟩ he
 subst he
 have h := C6 D
 have au := Co a.Stations.length
 refine Ah I (Aa fun bf bg => Bu I au (sQ ?_))
 exact lg ⟨(), h, I2⟩ []
 rintro s ob ⟨B, h, rfl, rfl⟩
 refine Ah I ?_
 obtain rfl := oi h
 exact sO pr
theorem dZ (a : Int) (c : Nw) (r : Bool) (h : Mt a c = r) : ACalls Aj 127 [.V a, .eptr (Ab c)] [] (fun x new => x = .v (.bool r) ∧ new = []) := by
 refine Ad Tryz.func127 I I I fun C hC => ?_
 unfold Mt at h
 refine Ah I (Ai (fun s ob => s = [(3, .v (.bool (decide (a < 0) || decide (a ≥ (c.Nodes.length : Int)))))] ∧ ob = []) [] J ?_ ?_)
 refine sH (Ag 3 I ?_)
 rcases bt (decide (a < 0)) with b | b
 refine Af 6 I b (Ag 7 I (sI ?_))
 exact lf I2 ⟨(Dn (by simp only [b, bz])), J⟩ [] I
 refine Af 6 I b (An 7 [.l 3 (c.Nodes.length : Int)] I ⟨Ay, J⟩ (sI ?_))
 exact lf I2 ⟨(Dn (by simp only [b, bz])), J⟩ [] I
 rintro s ob ⟨rfl, rfl⟩
 obtain rfl := h
 exact sO pr
theorem iD (a : Nw) (r : Bool) (h : Vy a = some r) : ACalls Aj 78 [.agg (Ab a)] [] (fun x new => x = .v (.bool r) ∧ new = []) := by
 refine Ad Tryz.func78 I I I fun C hC => ?_
 unfold Vy at h
 refine Aa fun y1 O => sH (sJ [] I (Bo (Ab a) 6 fun b => Ag 1 I (sI ?_)))
 subst O
 refine Ah I (Ai (fun s ob => ∃ (A : Li) (f : Value), Vy.J1 a A = some r ∧ s = [(3, .v f)] ∧ ob = [O0 b [Ab a], U0 f A]) [(1, _)] J1 ?_ ?_)
 refine Bh [.o 1 0, .l 2 (a.Segments.length : Int)] I ⟨Ay, I, J⟩ (sM (Bz 11 I fun P => sP (Bv 3 1) ?_))
 obtain ⟨ax, Q, R⟩ := Ac h
 clear h
 refine Ct Q [(1, _), (11, _), (12, _)] J3 (fun (g : Nat) (i : Li) s ob => ∃ (c : Value), s = [(13, .V (g : Int)), (3, .v c)] ∧ ob = [O0 b [Ab a], U0 c i]) ⟨(.slice none 0 0), I2⟩ ⟨I, I, J⟩ ⟨[0, 1], I, by decide⟩ ?_ ?_
 rintro g j i ay s ob S H ⟨c, rfl, rfl⟩ h
 have U := Cn H
 refine Ah I (Aa fun az W => Bs I U (sL ?_))
 subst W
 refine sN (sM (sN (sH (An 2 [.x 0 g (Ak j)] I ⟨⟨I, Ae S⟩, J⟩ (sJ [] I (sS W2 7 fun a0 => sJ [2] I (A3 2 0 0 [Ak j] I (sI ?_))))))))
 obtain ⟨a1, X, h⟩ := Ac h
 refine sH (An 5 [.o 2 2, .o 4 2] I J2 (sJ [] I (sR 1 (([j.From, j.To] : Li).map rI) (sJ [1] I (C7 1 I X fun Y => Ag 1 I (sI (sH (An 2 [.k 0 (g + 1 : Nat)] I ⟨A0 H P, J⟩ ?_))))))))
 obtain rfl := oi h
 exact sI (lg ⟨Y, I2⟩ [0, 1])
 rintro i s ob ⟨c, rfl, rfl⟩ he
 subst he
 have h := R
 have Z := Co a.Segments.length
 refine Ah I (Aa fun a2 a3 => Bu I Z (sQ ?_))
 exact lg ⟨i, c, h, I2⟩ [0, 1]
 rintro s ob ⟨A, f, h, rfl, rfl⟩
 unfold Vy.J1 at h
 refine Ai (fun s ob => ∃ (B : Li) (n : Value), Vy.J2 a B = some r ∧ s = [(3, .v n)] ∧ ob = [O0 b [Ab a], U0 n B]) [(1, _)] J1 ?_ ?_
 refine Bh [.o 1 0, .l 2 (a.Ports.length : Int)] I ⟨Ay, I, J⟩ (sM (Bz 26 I fun aa => ?_))
 obtain ⟨a4, ab, ac⟩ := Ac h
 clear h
 refine Ct ab [(1, _), (26, _), (27, _)] J3 (fun (t : Nat) (u : Li) s ob => ∃ (d : Value), s = [(28, .V (t : Int)), (3, .v d)] ∧ ob = [O0 b [Ab a], U0 d u]) ⟨f, I2⟩ ⟨I, I, J⟩ ⟨[0, 1], I, by decide⟩ ?_ ?_
 rintro t D u a5 s ob ad K ⟨d, rfl, rfl⟩ h
 have ae := Cn K
 refine Ah I (Aa fun a6 af => Bs I ae (sL ?_))
 subst af
 refine sN (sM (sN (sH (An 2 [.x 0 t (Cb D)] I ⟨⟨I, Ae ad⟩, J⟩ (sJ [] I (sS W6 3 fun a7 => sJ [2] I (A3 2 0 0 [Cb D] I (sI ?_))))))))
 obtain ⟨a8, ag, h⟩ := Ac h
 refine sH (An 3 [.o 2 2] I J1 (sJ [] I (sR 1 (([D.Node] : Li).map rI) (sJ [1] I (C7 1 I ag fun ah => Ag 1 I (sI (sH (An 2 [.k 0 (t + 1 : Nat)] I ⟨A0 K aa, J⟩ ?_))))))))
 obtain rfl := oi h
 exact sI (lg ⟨ah, I2⟩ [0, 1])
 rintro u s ob ⟨d, rfl, rfl⟩ he
 subst he
 have h := ac
 have ai := Co a.Ports.length
 refine Ah I (Aa fun a9 ba => Bu I ai (sQ ?_))
 exact lg ⟨u, d, h, I2⟩ [0, 1]
 rintro s ob ⟨B, n, h, rfl, rfl⟩
 unfold Vy.J2 at h
 refine Ai (fun s ob => ∃ (E : Li) (F : Value), Vy.J3 a E = some r ∧ s = [(3, .v F)] ∧ ob = [O0 b [Ab a], U0 F E]) [(1, _)] J1 ?_ ?_
 refine Bh [.o 1 0, .l 2 (a.Stations.length : Int)] I ⟨Ay, I, J⟩ (sM (Bz 39 I fun aj => ?_))
 obtain ⟨bb, ak, al⟩ := Ac h
 clear h
 refine Ct ak [(1, _), (39, _), (40, _)] J3 (fun (w : Nat) (y : Li) s ob => ∃ (e : Value), s = [(41, .V (w : Int)), (3, .v e)] ∧ ob = [O0 b [Ab a], U0 e y]) ⟨n, I2⟩ ⟨I, I, J⟩ ⟨[0, 1], I, by decide⟩ ?_ ?_
 rintro w G y bc s ob am M ⟨e, rfl, rfl⟩ h
 have an := Cn M
 refine Ah I (Aa fun bd ao => Bs I an (sL ?_))
 subst ao
 refine sN (sM (sN (sH (An 2 [.x 0 w (Ba G)] I ⟨⟨I, Ae am⟩, J⟩ (sJ [] I (sS W5 5 fun be => sJ [2] I (A3 2 0 0 [Ba G] I (sI ?_))))))))
 obtain ⟨bf, aq, h⟩ := Ac h
 refine sH (An 3 [.o 2 2] I J1 (sJ [] I (sR 1 (([G.Node] : Li).map rI) (sJ [1] I (C7 1 I aq fun ar => Ag 1 I (sI (sH (An 2 [.k 0 (w + 1 : Nat)] I ⟨A0 M aj, J⟩ ?_))))))))
 obtain rfl := oi h
 exact sI (lg ⟨ar, I2⟩ [0, 1])
 rintro y s ob ⟨e, rfl, rfl⟩ he
 subst he
 have h := al
 have au := Co a.Stations.length
 refine Ah I (Aa fun bg bh => Bu I au (sQ ?_))
 exact lg ⟨y, e, h, I2⟩ [0, 1]
 rintro s ob ⟨E, F, h, rfl, rfl⟩
 refine sN ?_
 obtain ⟨bi, av, h⟩ := Ac h
 refine sH (Ag 1 I (sT (tD I I) I (sJ [] I (Cl I (.refl _) I I (.cons (.us 1 I) (.cons (.fn (.rest _) (.cons (.box 0 I (.rest _)) (.rest _))) (.rest _))) I (Jt _ (.fn 127 [] [.eptr (Ab a)]) I (fun x => some (Mt x a)) (fun x r h => by obtain I := oi h; exact dZ x a _ I) _ av) dS (by rintro _ _ ⟨rfl, _⟩; rfl) ?_))))
 rintro _ ⟨_, rfl, -⟩
 refine Ag 2 I (sI (sP g0 ?_))
 obtain rfl := oi h
 exact sO pr
theorem iC (a : Sg) (r : Bool) (h : Nn a = some r) : ACalls Aj 129 [.agg (Ak a)] [] (fun x new => x = .v (.bool r) ∧ new = []) := by
 refine Ad Tryz.func129 I I I fun C hC => ?_
 unfold Nn at h
 refine Aa fun y1 H => sH (sJ [] I (Bo (Ak a) 7 fun t => Ag 1 I (sI ?_)))
 subst H
 refine Aa fun y3 K => Ec 27 ((a.From == a.To) || ((!(Dg a.Capacity 1 1000000)) || ((!(Dg a.Resist 0 1000)) || (!(Dg a.Wave 0 100000))))) ?_ ?_
 refine sH (An 6 [.o 1 0, .o 3 0] I J2 ?_)
 rcases bt ((a.From == a.To)) with d | d
 refine Af 10 I d (Ag 17 I (sI ?_))
 exact jf (by simp only [d, bz]) I I I2
 refine Af 10 I d (An 2 [.o 1 0] I J1 (Cd I I I (Cc (Dr a.Capacity 1 1000000 _ I) (Ag 3 I ?_))))
 rcases bt ((!(Dg a.Capacity 1 1000000))) with f | f
 refine Af 16 I f (Ag 11 I (sI ?_))
 exact jf (by simp only [d, f, bz]) I I I2
 refine Af 16 I f (An 2 [.o 1 0] I J1 (Cd I I I (Cc (Dr a.Resist 0 1000 _ I) (Ag 3 I ?_))))
 rcases bt ((!(Dg a.Resist 0 1000))) with i | i
 refine Af 22 I i (Ag 5 I (sI ?_))
 exact jf (by simp only [d, f, i, bz]) I I I2
 refine Af 22 I i (An 2 [.o 1 0] I J1 (Cd I I I (Cc (Dr a.Wave 0 100000 _ I) (Ag 2 I (sI ?_)))))
 exact jf (by simp only [d, f, i, bz]) I I I2
 refine Ar h I ?_ ?_
 intro M h
 refine Ah I (sP g0 ?_)
 obtain rfl := oi h
 exact sO pr
 intro M h
 refine sL ?_
 subst K
 refine Ai (fun s ob => ∃ (D : Unit), Nn.J1 a D = some r ∧ s = [] ∧ ob = [O5 t [Ak a]]) [(1, _)] J1 ?_ ?_
 refine Bh [.o 1 0, .l 2 (a.Points.length : Int)] I ⟨Ay, I, J⟩ (sM (Bz 29 I fun N => ?_))
 obtain ⟨ah, O, E⟩ := Ac h
 clear h
 refine Bx O [(1, _), (29, _), (30, _)] J3 (fun (j : Nat) (F : Unit) s ob => s = [(31, .V (j : Int))] ∧ ob = [O5 t [Ak a]]) ⟨I, I⟩ ⟨I, J⟩ ⟨[0], I, by decide⟩ ?_ ?_
 rintro j b F P s ob Q G ⟨rfl, rfl⟩ h R
 unfold Nn.B3 at h
 have S := Cn G
 refine Ah I (Aa fun ai U => Bs I S (sL ?_))
 subst U
 refine sN (sM (Aa fun aj W => sH (An 3 [.x 1 j (Bi b)] I ⟨⟨I, Ae Q⟩, J⟩ (sJ [] I (sS W1 3 fun ak => Ag 1 I (sJ [1] I (A3 1 0 0 [Bi b] I (sI ?_))))))))
 subst W
 refine Ai (fun s ob => ∃ (u : Bool), Nn.J4 u = some P ∧ s = [(61, .v (.bool u))] ∧ ob = [O5 t [Ak a]]) [(1, _), (29, _), (30, _), (31, _)] J4 ?_ ?_
 rcases bt ((!(Dg b.Height (-500) 5000))) with e | e
 replace h := Bq e h
 refine By (pd 26 0 [2, 7]) [1] [_] I (B8 2 [.o 1 0] I J1 (Dp I (Dr b.Height (-500) 5000 _ I) (Bg 2 I (A4 40 I e (Bg 9 I (Bc I I I I dS (Bc I I I I dS (Bc I I I I dS (Bc I I I I dS (Bc I I I I dS (Bc I I I I dS (Bc I I I I dS ?_))))))))))))
 refine Bc I I I I dS (Bc I I I I dS (Bc I I I I dS (Bg 2 I (Ap (sI ?_)))))
 exact lg ⟨true, h, I2⟩ [0]
 replace h := Br e h
 rcases bt ((!(Dg b.Limit 0 100000000))) with g | g
 replace h := Bq g h
 refine By (pd 26 0 [2, 7]) [1] [_] I (B8 2 [.o 1 0] I J1 (Dp I (Dr b.Height (-500) 5000 _ I) (Bg 2 I (A4 40 I e (B8 2 [.o 1 0] I J1 (Ia I (Dr b.Limit 0 100000000 _ I) (Bg 3 I (A4 46 I g (Bg 3 I (Bc I I I I dS (Bc I I I I dS (Bc I I I I dS ?_))))))))))))
 refine Bc I I I I dS (Bc I I I I dS (Bc I I I I dS (Bc I I I I dS (Bc I I I I dS (Bc I I I I dS (Bc I I I I dS (Bg 2 I (Ap (sI ?_)))))))))
 exact lg ⟨true, h, I2⟩ [0]
 replace h := Br g h
 rcases bt (decide ((j : Int) > 0)) with n | n
 replace h := Bq n h
 obtain ⟨w, ⟨X, Y⟩, h⟩ := A5 h
 refine By (pd 26 0 [2, 7]) [1, 0] [_, _] I (B8 2 [.o 1 0] I J1 (Dp I (Dr b.Height (-500) 5000 _ I) (Bg 2 I (A4 40 I e (B8 2 [.o 1 0] I J1 (Ia I (Dr b.Limit 0 100000000 _ I) (Bg 3 I (A4 46 I g (Bg 3 I (A4 49 I n (B8 12 [.o 1 0, .o 3 1, .x 6 w.1 (Bi w.2)] I ⟨⟨X, Ae Y⟩, I, I, J⟩ (Ap ?_))))))))))))
 exact sI (lg ⟨decide (b.At ≤ w.2.At), h, I2⟩ [0])
 replace h := Br n h
 refine By (pd 26 0 [2, 7]) [1] [_] I (B8 2 [.o 1 0] I J1 (Dp I (Dr b.Height (-500) 5000 _ I) (Bg 2 I (A4 40 I e (B8 2 [.o 1 0] I J1 (Ia I (Dr b.Limit 0 100000000 _ I) (Bg 3 I (A4 46 I g (Bg 3 I (A4 49 I n (Bg 12 I (Ap ?_))))))))))))
 exact sI (lg ⟨false, h, I2⟩ [0])
 rintro s ob ⟨u, h, rfl, rfl⟩
 refine Ar h I ?_ ?_
 intro Z h
 refine Ah I ?_
 obtain rfl := R _ (oi h).symm
 replace h := E
 replace h := C1 h
 refine sP g0 ?_
 obtain rfl := oi h
 exact sO pr
 intro Z h
 refine sL (sH (An 2 [.k 0 (j + 1 : Nat)] I ⟨A0 G N, J⟩ ?_))
 obtain rfl := oi h
 exact sI ⟨_, _, _, I, I2, J4, [0], I, by decide⟩
 rintro F s ob ⟨rfl, rfl⟩ he
 subst he
 have h := C6 E
 have aa := Co a.Points.length
 refine Ah I (Aa fun al am => Bu I aa (sQ ?_))
 exact lg ⟨(), h, I2⟩ [0]
 rintro s ob ⟨D, h, rfl, rfl⟩
 unfold Nn.J1 at h
 refine Ai (fun s ob => ∃ (y : Bool), Nn.J2 y = some r ∧ s = [(2, .v (.bool y))] ∧ ob = []) [] J ?_ ?_
 obtain ⟨A, ⟨ab, ac⟩, h⟩ := A5 h
 refine By (pd 21 0 []) [0] [_] I (B8 7 [.o 1 0, .x 2 A.1 (Bi A.2)] I ⟨⟨ab, Ae ac⟩, I, J⟩ ?_)
 rcases bt ((A.2.At == 0)) with p | p
 replace h := Bq p h
 obtain ⟨B, ⟨ad, ae⟩, h⟩ := A5 h
 refine A4 69 I p (B8 14 [.o 1 0, .o 3 0, .l 4 (a.Points.length : Int), .x 6 B.1 (Bi B.2), .o 10 0] I ⟨I, ⟨ad, Ae ae⟩, Ay, I, I, J⟩ (Ap (sI ?_)))
 exact lg ⟨(B.2.At == a.Capacity), h, I2⟩ []
 replace h := Br p h
 refine A4 69 I p (Bg 14 I (Ap (sI ?_)))
 exact lg ⟨false, h, I2⟩ []
 rintro s ob ⟨y, h, rfl, rfl⟩
 obtain rfl := oi h
 exact sO pr
theorem dU (a : Sg) (r : Bool) (h : Ut a = some r) : ACalls Aj 128 [.agg (Ak a)] [] (fun x new => x = .v (.bool r) ∧ new = []) := by
 refine Ad Tryz.func128 I I I fun C hC => ?_
 refine sN (sH (sJ [] I (Bo (Ak a) 7 fun d => Ag 1 I (sI (sN ?_)))))
 obtain ⟨e, b, h⟩ := Ac h
 refine sH (An 1 [.o 0 0] I J1 (Cc (iC _ _ b) (Ag 2 I (sI (sP g0 ?_)))))
 obtain rfl := oi h
 exact sO pr
theorem eC (a : Port) (r : Bool) (h : Mu a = r) : ACalls Aj 131 [.agg (Cb a)] [] (fun x new => x = .v (.bool r) ∧ new = []) := by
 refine Ad Tryz.func131 I I I fun C hC => ?_
 unfold Mu at h
 refine sN (sH (sJ [] I (Bo (Cb a) 3 fun b => Ag 1 I (sI (sN (sH (An 2 [.o 1 0] I J1 (Cc (Dr a.Pressure 0 100000000 _ I) (Ag 2 I (sI (sP g0 ?_)))))))))))
 obtain rfl := h
 exact sO pr
theorem gY (a : Sn) (r : Bool) (h : Nm a = r) : ACalls Aj 134 [.agg (Ba a)] [] (fun x new => x = .v (.bool r) ∧ new = []) := by
 refine Ad Tryz.func134 I I I fun C hC => ?_
 unfold Nm at h
 refine Aa fun f e => sH (sJ [] I (Bo (Ba a) 5 fun g => Ag 1 I (sI ?_)))
 subst e
 refine Ai (fun s ob => s = [(2, .v (.bool ((!(Dg a.Head 0 100000000)) || ((!(Dg a.Fall 0 100000)) || (!(Dg a.Suction 0 100000000))))))] ∧ ob = []) [] J ?_ ?_
 refine sH (An 2 [.o 1 0] I J1 (Cc (Dr a.Head 0 100000000 _ I) (Ag 2 I ?_)))
 rcases bt ((!(Dg a.Head 0 100000000))) with b | b
 refine Af 7 I b (Ag 12 I (sI ?_))
 exact lf I2 ⟨(Dn (by simp only [b, bz])), J⟩ [] I
 refine Af 7 I b (An 2 [.o 1 0] I J1 (Cd I I I (Cc (Dr a.Fall 0 100000 _ I) (Ag 3 I ?_))))
 rcases bt ((!(Dg a.Fall 0 100000))) with d | d
 refine Af 13 I d (Ag 6 I (sI ?_))
 exact lf I2 ⟨(Dn (by simp only [b, d, bz])), J⟩ [] I
 refine Af 13 I d (An 2 [.o 1 0] I J1 (Cd I I I (Cc (Dr a.Suction 0 100000000 _ I) (Ag 3 I (sI ?_)))))
 exact lf I2 ⟨(Dn (by simp only [b, d, bz])), J⟩ [] I
 rintro s ob ⟨rfl, rfl⟩
 obtain rfl := h
 exact sO pr
theorem hY (a : Nw) (r : Bool) (h : Za a = some r) : ACalls Aj 79 [.agg (Ab a)] [] (fun x new => x = .v (.bool r) ∧ new = []) := by
 refine Ad Tryz.func79 I I I fun C hC => ?_
 refine Aa fun p d => sH (sJ [] I (Bo (Ab a) 6 fun t => Ag 1 I (sI ?_)))
 subst d
 refine Aa fun u e => sN ?_
 obtain ⟨w, f, h⟩ := Ac h
 refine sH (An 2 [.o 1 0] I J1 (Cc (Tk _ (.v (.func (.func 128) #[] #[])) I (fun x => Ut x) (fun x r h => dU x r h) _ f) (sI (Ar h I ?_ ?_))))
 intro g h
 refine Ah I (sP g0 ?_)
 obtain rfl := oi h
 exact sO pr
 intro g h
 refine sL ?_
 subst e
 refine Aa fun y i => sN ?_
 obtain ⟨A, j, h⟩ := Ac h
 refine sH (An 2 [.o 1 0] I J1 (Cc (hR _ (.v (.func (.func 131) #[] #[])) I (fun x => some (Mu x)) (fun x r h => by obtain I := oi h; exact eC x _ I) _ j) (sI (Ar h I ?_ ?_))))
 intro k h
 refine Ah I (sP g0 ?_)
 obtain rfl := oi h
 exact sO pr
 intro k h
 refine sL ?_
 subst i
 refine sN (sN ?_)
 obtain ⟨B, l, h⟩ := Ac h
 refine sH (An 2 [.o 1 0] I J1 (Cc (eL _ (.v (.func (.func 134) #[] #[])) I (fun x => some (Nm x)) (fun x r h => by obtain I := oi h; exact gY x _ I) _ l) (sI (Ar h I ?_ ?_))))
 intro n h
 refine Ah I (sP g0 ?_)
 obtain rfl := oi h
 exact sO pr
 intro n h
 refine sL (Ai (fun s ob => s = [(2, .v (.bool ((Dg a.Vapour (-100000) 100000000) && (Dg a.Settle 0 100))))] ∧ ob = []) [] J ?_ ?_)
 refine sH (An 2 [.o 1 0] I J1 (Cc (Dr a.Vapour (-100000) 100000000 _ I) (Ag 1 I ?_)))
 rcases bt ((Dg a.Vapour (-100000) 100000000)) with b | b
 refine Af 15 I b (An 2 [.o 1 0] I J1 (Cd I I I (Cc (Dr a.Settle 0 100 _ I) (Ag 2 I (sI ?_)))))
 exact lf I2 ⟨(Dn (by simp only [b, bz])), J⟩ [] I
 refine Af 15 I b (Ag 5 I (sI ?_))
 exact lf I2 ⟨(Dn (by simp only [b, bz])), J⟩ [] I
 rintro s ob ⟨rfl, rfl⟩
 obtain rfl := oi h
 exact sO pr
theorem fC (a : Bt) (r : Bool) (h : Vg a = some r) : ACalls Aj 75 [.v (.string a)] [] (fun x new => x = .v (.bool r) ∧ new = []) := by
 refine Ad Tryz.func75 I I I fun C hC => ?_
 refine Ah I (sN ?_)
 obtain ⟨d, b, h⟩ := Ac h
 refine sH (Ag 1 I (Cc (Of _ _ b) (Ag 2 I (sI ?_))))
 obtain rfl := oi h
 exact sO pr
theorem Jz (a : Nw) (r : Int) (h : Gt a = some r) : ACalls Aj 41 [.agg (Ab a)] [] (fun x new => x = .V r ∧ new = []) := by
 refine Ad Tryz.func41 I I I fun C hC => ?_
 refine Aa fun Y i => sH (sJ [] I (Bo (Ab a) 6 fun d => Ag 1 I (sI ?_)))
 subst i
 refine Aa fun Z j => sN ?_
 obtain ⟨r4, l, h⟩ := Ac h
 refine sH (An 1 [.o 0 0] I J1 (Cc (fO _ _ l) (Ag 1 I (sI (Ar h I ?_ ?_)))))
 intro n h
 refine Ah I (sP g0 ?_)
 obtain rfl := oi h
 exact sO pr
 intro n h
 refine sL ?_
 subst j
 refine Ai (fun s ob => ∃ (e : Unit), Gt.J1 a e = some r ∧ s = [] ∧ ob = [O0 d [Ab a]]) [(1, _)] J1 ?_ ?_
 refine Aa fun ab t => ?_
 obtain ⟨ac, u, h⟩ := Ac h
 refine sH (An 1 [.o 0 0] I J1 (sJ [] I (Ci I I I (Ug _ _ u) dS ?_)))
 rintro _ _ ⟨rfl, rfl⟩
 refine Ag 1 I (sI ?_)
 subst t
 refine sM ?_
 have w : (4 : Nat) ≤ 9223372036854775806 := by decide
 obtain ⟨ad, y, f⟩ := Ac h
 clear h
 refine Fe y [(1, _), (9, _)] J2 (fun (b : Nat) (g : Unit) s ob => s = [(10, .V (b : Int))] ∧ ob = [O0 d [Ab a]]) ⟨I, I⟩ ⟨I, J⟩ ⟨[0], I, by decide⟩ ?_ ?_
 rintro b g ae s ob A ⟨rfl, rfl⟩ h B
 have D : decide ((b : Int) < 4) = true := decide_eq_true (by omega)
 refine Ah I (Aa fun af E => Bs I D (sL ?_))
 subst E
 refine sN (sM (sN ?_))
 obtain ⟨F, ⟨G, H⟩, h⟩ := A5 h
 refine sH (sT (G8 (m := F.1) I I I I I I I G H (hlen := Arr.h _)) I (Ag 1 I (sI (sN ?_))))
 obtain ⟨ag, K, h⟩ := Ac h
 refine sH (Ag 1 I (Cc (fT _ (.v (.func (.func 75) #[] #[])) I (fun x => Vg x) (fun x r h => fC x r h) _ K) (sI (Ar h I ?_ ?_))))
 intro M h
 refine Ah I ?_
 obtain rfl := B _ (oi h).symm
 replace h := f
 replace h := C1 h
 refine sP g0 ?_
 obtain rfl := oi h
 exact sO pr
 intro M h
 refine sL (sH (An 2 [.k 0 (b + 1 : Nat)] I ⟨A0 A w, J⟩ ?_))
 obtain rfl := oi h
 exact sI ⟨_, _, _, I, I2, J3, [0], I, by decide⟩
 rintro g s ob ⟨rfl, rfl⟩ he
 subst he
 have h := C6 f
 have N : decide (((4 : Nat) : Int) < 4) = false := by simp
 refine Ah I (Aa fun ah ai => Bu I N (sQ ?_))
 exact lg ⟨(), h, I2⟩ [0]
 rintro s ob ⟨e, h, rfl, rfl⟩
 refine sN (sM (Aa fun aj O => ?_))
 obtain ⟨ak, P, h⟩ := Ac h
 refine sH (An 1 [.o 0 0] I J1 (Cc (dY _ _ P) (Ag 1 I (sI ?_))))
 subst O
 refine Ar h I ?_ ?_
 intro Q h
 refine Ah I (sP g0 ?_)
 obtain rfl := oi h
 exact sO pr
 intro Q h
 refine Aa fun al R => ?_
 obtain ⟨am, S, h⟩ := Ac h
 refine sH (An 1 [.o 0 0] I J1 (Cc (iD _ _ S) (Ag 2 I (sI ?_))))
 subst R
 refine Ar h I ?_ ?_
 intro U h
 refine Ah I (sP g0 ?_)
 obtain rfl := oi h
 exact sO pr
 intro U h
 refine sN ?_
 obtain ⟨an, W, h⟩ := Ac h
 refine sH (An 1 [.o 0 0] I J1 (Cc (hY _ _ W) (Ag 2 I (sI (Ar h I ?_ ?_)))))
 intro X h
 refine Ah I (sP g0 ?_)
 obtain rfl := oi h
 exact sO pr
 intro X h
 refine sL (Ah I (sP g0 ?_))
 obtain rfl := oi h
 exact sO pr
theorem Tt (d : Nat) (a : flow_streams) (j : Int) (n : Int) (p : Int) (r : flow_streams) (h : M1 a j n p = some r) : ACalls Aj 81 [.v (.pointer (some ⟨d, 0, none⟩)), .V j, .V n, .V p] [Ys d [a.come.l.map cI ++ (a.leave.l.map cI ++ [])]] (D6 1 fun x os new => x = .tup [] ∧ os = [Ys d [r.come.l.map cI ++ (r.leave.l.map cI ++ [])]] ∧ new = []) := by
 refine Ad Tryz.func81 I I I fun C hC => ?_
 unfold M1 at h
 refine Ai (fun s ob => ∃ (b : Int × Int × Int), M1.J1 a b = some r ∧ s = [(1, .V b.1), (2, .V b.2.1), (3, .V b.2.2)] ∧ ob = [Ys d [a.come.l.map cI ++ (a.leave.l.map cI ++ [])]]) [(0, _)] J1 ?_ ?_
 refine Ah I (Ar h I ?_ ?_)
 intro A h
 refine Sj I ?_
 exact lg ⟨(n, j, wr (0 - p)), h, I2⟩ [0]
 intro A h
 refine sL ?_
 exact lg ⟨(j, n, p), h, I2⟩ [0]
 rintro s ob ⟨b, h, rfl, rfl⟩
 unfold M1.J1 at h
 refine Ai (fun s ob => ∃ (f : Arr Int 24), M1.J2 a b f = some r ∧ s = [] ∧ ob = [Ys d [a.come.l.map cI ++ (f.l.map cI ++ [])]]) [(0, _), (2, _), (3, _)] J3 ?_ ?_
 refine Ah I (Ar h I ?_ ?_)
 intro B h
 obtain ⟨e, ⟨u, g⟩, h⟩ := A5 h
 refine By (sl 11 0 (.drop 11 .nil)) [0] [_] I (Bg 4 I (sY I (Du (m := e.1) I I I I I I u (Ej g)) I (AP.o I (C2 0 0 (24 + e.1) I I I I (by omega) (y := .V e.2) (jX (k := 24) (by simp [Arr.h, Bj]) (Xe g))) I (Bg 4 I (sY I (Du (m := e.1) I I I I I I u (Ej g)) I (tB [0] I I I (sZ 0 0 (24 + e.1) (es' := [a.come.l.map cI ++ ((a.leave.set e.1 (wr (e.2 + b.2.2))).l.map cI ++ [])]) I I I I (by omega) I I I (Lq (Ej g) (by simp [Arr.h, Bj])) I (congrArg (fun r => [r]) (Wg (k := 24) (by simp [Arr.h, Bj]) (H8 (Kl g)))) (Ap (sI ?_)))))))))
 exact lg ⟨(a.leave.set e.1 (wr (e.2 + b.2.2))), h, I2⟩ [0]
 intro B h
 refine sL ?_
 exact lg ⟨a.leave, h, I2⟩ [0]
 rintro s ob ⟨f, h, rfl, rfl⟩
 refine Ah I (Ar h I ?_ ?_)
 intro D h
 obtain ⟨c, ⟨w, i⟩, h⟩ := A5 h
 refine By (sl 11 0 (.drop 11 .nil)) [0] [_] I (Bg 4 I (sY I (Du (m := c.1) I I I I I I w (Ej i)) I (AP.o I (C2 0 0 (0 + c.1) I I I I (by omega) (y := .V c.2) (by rw [Nat.zero_add]; exact Xe i)) I (Bg 4 I (sY I (Du (m := c.1) I I I I I I w (Ej i)) I (tB [0] I I I (sZ 0 0 (0 + c.1) (es' := [(a.come.set c.1 (wr (c.2 + b.2.2))).l.map cI ++ (f.l.map cI ++ [])]) I I I I (by omega) I I I (Lq (Ej i) (by simp [Arr.h, Bj])) I (congrArg (fun r => [r]) (by rw [Nat.zero_add]; exact H8 (Kl i))) (Ap ?_))))))))
 obtain rfl := oi h
 exact sI ⟨.inl I, [], [Ys d [(a.come.set c.1 (wr (c.2 + b.2.2))).l.map cI ++ (f.l.map cI ++ [])]], J, Cy I (Cm), ⟨[Ys d [(a.come.set c.1 (wr (c.2 + b.2.2))).l.map cI ++ (f.l.map cI ++ [])]], [], I5⟩⟩
 intro D h
 obtain rfl := oi h
 refine sL ?_
 exact ⟨.inl I, [], [Ys d [a.come.l.map cI ++ (f.l.map cI ++ [])]], J, Cy I (Cm), ⟨[Ys d [a.come.l.map cI ++ (f.l.map cI ++ [])]], [], I5⟩⟩
theorem dP (a : Nw) (c : Plan) (r : flow_streams) (h : Pn a c = some r) : ACalls Aj 45 [.agg (Ab a), .agg (Am c)] [] (fun x new => x = .agg (Bj r) ∧ new = []) := by
 refine Ad Tryz.func45 I I I fun C hC => ?_
 unfold Pn at h
 refine Aa fun y1 G => sH (sJ [] I (Bo (Ab a) 6 fun u => sJ [] I (Bo (Am c) 3 fun t => sJ [] I (sS ((Arr.rep 24 (0 : Int)).l.map cI ++ ((Arr.rep 24 (0 : Int)).l.map cI ++ [])) 48 fun i => sI ?_))))
 subst G
 refine Aa fun y5 H => sH (sJ [] I (sS ((Arr.rep 24 (0 : Int)).l.map cI ++ ((Arr.rep 24 (0 : Int)).l.map cI ++ [])) 48 fun e => sI ?_))
 subst H
 refine Ai (fun s ob => ∃ (j : (Arr Int 24) × (Arr Int 24)), Pn.J1 a c j = some r ∧ s = [] ∧ ob = [O0 u [Ab a], O1 t [Am c], Ys i [(Arr.rep 24 (0 : Int)).l.map cI ++ ((Arr.rep 24 (0 : Int)).l.map cI ++ [])], Ys e [j.1.l.map cI ++ (j.2.l.map cI ++ [])]]) [(2, _), (3, _), (4, _), (5, _)] J4 ?_ ?_
 refine Bh [.o 1 0, .l 2 (a.Segments.length : Int)] I ⟨Ay, I, J⟩ (sM (Bz 11 I fun K => ?_))
 obtain ⟨ak, M, O⟩ := Ac h
 clear h
 refine Ct M [(2, _), (3, _), (4, _), (5, _), (11, _), (12, _)] J6 (fun (n : Nat) (f : (Arr Int 24) × (Arr Int 24)) s ob => s = [(13, .V (n : Int))] ∧ ob = [O0 u [Ab a], O1 t [Am c], Ys i [(Arr.rep 24 (0 : Int)).l.map cI ++ ((Arr.rep 24 (0 : Int)).l.map cI ++ [])], Ys e [f.1.l.map cI ++ (f.2.l.map cI ++ [])]]) ⟨I, I⟩ ⟨I, J⟩ ⟨[0, 1, 2, 3], I, by decide⟩ ?_ ?_
 rintro n w f al s ob P A ⟨rfl, rfl⟩ h
 have Q := Cn A
 refine Ah I (Aa fun am R => Bs I Q (sL ?_))
 subst R
 refine sN (sM (sN (sH (An 3 [.x 1 n (Ak w)] I ⟨⟨I, Ae P⟩, J⟩ (sJ [] I (sS W2 7 fun an => Ag 1 I (sJ [4] I (A3 4 0 0 [Ak w] I (sI ?_)))))))))
 obtain ⟨B, ⟨S, U⟩, h⟩ := A5 h
 obtain ⟨ao, W, h⟩ := Ac h
 refine By (pd 10 0 [9]) [4, 1] [_, _] I (B8 9 [.o 1 0, .o 3 0, .o 5 1, .x 7 B.1 (rI B.2)] I ⟨⟨S, Ae U⟩, I, I, I, J⟩ (sK [3] I I I (A1 [3] (Tt e _ _ _ _ _ W) ?_)))
 refine Ap (sI (sH (An 2 [.k 0 (n + 1 : Nat)] I ⟨A0 A K, J⟩ ?_)))
 obtain rfl := oi h
 exact sI (lg I2 [0, 1, 2, 3])
 rintro f s ob ⟨rfl, rfl⟩ he
 subst he
 have h := O
 have X := Co a.Segments.length
 refine Ah I (Aa fun ap aq => Bu I X (sQ ?_))
 exact lg ⟨(f.1, f.2), h, I2⟩ [0, 1, 2, 3]
 rintro s ob ⟨j, h, rfl, rfl⟩
 unfold Pn.J1 at h
 refine Ai (fun s ob => ∃ (b : (Arr Int 24) × (Arr Int 24)), Pn.J2 b = some r ∧ s = [] ∧ ob = [Ys i [(Arr.rep 24 (0 : Int)).l.map cI ++ ((Arr.rep 24 (0 : Int)).l.map cI ++ [])], Ys e [b.1.l.map cI ++ (b.2.l.map cI ++ [])]]) [(4, _), (5, _)] J2 ?_ ?_
 refine Bh [.o 1 0, .l 2 (a.Ports.length : Int)] I ⟨Ay, I, J⟩ (sM (Bz 30 I fun Y => ?_))
 obtain ⟨ar, Z, aa⟩ := Ac h
 clear h
 refine Ct Z [(3, _), (4, _), (5, _), (30, _), (31, _)] J5 (fun (p : Nat) (g : (Arr Int 24) × (Arr Int 24)) s ob => s = [(32, .V (p : Int))] ∧ ob = [O1 t [Am c], Ys i [(Arr.rep 24 (0 : Int)).l.map cI ++ ((Arr.rep 24 (0 : Int)).l.map cI ++ [])], Ys e [g.1.l.map cI ++ (g.2.l.map cI ++ [])]]) ⟨I, I⟩ ⟨I, J⟩ ⟨[1, 2, 3], I, by decide⟩ ?_ ?_
 rintro p D g au s ob ab E ⟨rfl, rfl⟩ h
 have ac := Cn E
 refine Ah I (Aa fun av ad => Bs I ac (sL ?_))
 subst ad
 refine sN (sM (sN (sH (An 3 [.x 1 p (Cb D)] I ⟨⟨I, Ae ab⟩, J⟩ (sJ [] I (sS W6 3 fun aw => Ag 1 I (sJ [3] I (A3 3 0 0 [Cb D] I (sI ?_)))))))))
 obtain ⟨F, ⟨ae, af⟩, h⟩ := A5 h
 obtain ⟨ax, ag, h⟩ := Ac h
 refine By (pd 8 0 [7]) [3, 0] [_, _] I (B8 7 [.o 1 0, .o 3 1, .x 5 F.1 (rI F.2)] I ⟨⟨ae, Ae af⟩, I, I, J⟩ (sK [2] I I I (A1 [2] (Tt e _ _ _ _ _ ag) ?_)))
 refine Ap (sI (sH (An 2 [.k 0 (p + 1 : Nat)] I ⟨A0 E Y, J⟩ ?_)))
 obtain rfl := oi h
 exact sI (lg I2 [0, 1, 2])
 rintro g s ob ⟨rfl, rfl⟩ he
 subst he
 have h := aa
 have ah := Co a.Ports.length
 refine Ah I (Aa fun ay az => Bu I ah (sQ ?_))
 exact lg ⟨(g.1, g.2), h, I2⟩ [1, 2]
 rintro s ob ⟨b, h, rfl, rfl⟩
 refine sN (sH (sV (C2 1 0 0 I I I I I (y := .agg (b.1.l.map cI ++ (b.2.l.map cI ++ []))) (L1 I (by simp [Arr.h, Bj]))) I (sJ [0] I (sZ 0 0 0 (es' := [b.1.l.map cI ++ (b.2.l.map cI ++ [])]) I I I I I I I (by simp [Arr.h, Bj]) (by simp [Arr.h, Bj]) I (congrArg (fun r => [r]) (Iy (by simp [Arr.h, Bj]))) (sI (Cu [0] I ?_))))))
 obtain rfl := oi h
 exact sO ⟨.inr I, [_], [], ⟨⟨0, _, _, _, _, _, _, _, I, I, I, I, (L1 I (by simp [Arr.h, Bj]))⟩, J⟩, Cm, I2⟩
theorem gU (a : Int) (r : Bool) (h : Nl a = r) : ACalls Aj 44 [.V a] [] (fun x new => x = .v (.bool r) ∧ new = []) := by
 refine Ad Tryz.func44 I I I fun C hC => ?_
 unfold Nl at h
 refine Ah I (sN (sH (Ag 1 I (Cc (T0 a 1000 _ I) (Ag 2 I (sI ?_))))))
 obtain rfl := h
 exact sO pr
theorem Jx (e : Nw) (f : Plan) (r : Int) (h : He e f = some r) : ACalls Aj 24 [.agg (Ab e), .agg (Am f)] [] (fun x new => x = .V r ∧ new = []) := by
 refine Ad Tryz.func24 I I I fun C hC => ?_
 refine Aa fun y1 G => sH (sJ [] I (Bo (Ab e) 6 fun w => sJ [] I (Bo (Am f) 3 fun A => Ag 1 I (sI ?_))))
 subst G
 refine Aa fun y4 H => sN ?_
 obtain ⟨r5, K, h⟩ := Ac h
 refine sH (An 1 [.o 0 0] I J1 (Cc (Jz _ _ K) (Ag 1 I (sI (Ah I (Ar h I ?_ ?_))))))
 intro M h
 refine Ah I (sP g0 ?_)
 obtain rfl := oi h
 exact sO pr
 intro M h
 refine sL ?_
 subst H
 refine Aa fun y8 O => Ec 38 (((f.Rates.length : Int) != (e.Segments.length : Int)) || (((f.Ports.length : Int) != (e.Ports.length : Int)) || ((f.Pumps.length : Int) != (e.Stations.length : Int)))) ?_ ?_
 refine sH (An 8 [.o 1 1, .l 2 (f.Rates.length : Int), .o 4 0, .l 5 (e.Segments.length : Int)] I ⟨Ay, I, Ay, I, J⟩ ?_)
 rcases bt (((f.Rates.length : Int) != (e.Segments.length : Int))) with g | g
 refine Af 21 I g (Ag 17 I (sI ?_))
 exact jf (by simp only [g, bz]) I I I2
 refine Af 21 I g (An 9 [.o 1 1, .l 2 (f.Ports.length : Int), .o 4 0, .l 5 (e.Ports.length : Int)] I ⟨Ay, I, Ay, I, J⟩ ?_)
 rcases bt (((f.Ports.length : Int) != (e.Ports.length : Int))) with j | j
 refine Af 30 I j (Ag 8 I (sI ?_))
 exact jf (by simp only [g, j, bz]) I I I2
 refine Af 30 I j (An 8 [.o 1 1, .l 2 (f.Pumps.length : Int), .o 4 0, .l 5 (e.Stations.length : Int)] I ⟨Ay, I, Ay, I, J⟩ (sI ?_))
 exact jf (by simp only [g, j, bz]) I I I2
 refine Ar h I ?_ ?_
 intro P h
 refine Ah I (sP g0 ?_)
 obtain rfl := oi h
 exact sO pr
 intro P h
 refine sL ?_
 subst O
 refine Ai (fun s ob => ∃ (B : Unit), He.J1 e f B = some r ∧ s = [] ∧ ob = [O0 w [Ab e], O1 A [Am f]]) [(2, _), (3, _)] J2 ?_ ?_
 refine Bh [.o 1 0, .l 2 (e.Segments.length : Int)] I ⟨Ay, I, J⟩ (sM (Bz 40 I fun Q => ?_))
 obtain ⟨ap, R, D⟩ := Ac h
 clear h
 refine Bx R [(2, _), (3, _), (40, _), (41, _)] J4 (fun (n : Nat) (E : Unit) s ob => s = [(42, .V (n : Int))] ∧ ob = [O0 w [Ab e], O1 A [Am f]]) ⟨I, I⟩ ⟨I, J⟩ ⟨[0, 1], I, by decide⟩ ?_ ?_
 rintro n t E aq s ob S F ⟨rfl, rfl⟩ h U
 have W := Cn F
 refine Ah I (Aa fun ar X => Bs I W (sL ?_))
 subst X
 refine sN (sM (Aa fun au Y => sH (An 3 [.x 1 n (Ak t)] I ⟨⟨I, Ae S⟩, J⟩ (sJ [] I (sS W2 7 fun av => Ag 1 I (sJ [2] I (A3 2 0 0 [Ak t] I (sI ?_))))))))
 subst Y
 refine sN ?_
 obtain ⟨u, ⟨Z, aa⟩, h⟩ := A5 h
 refine By (pd 10 0 [8]) [1, 2] [_, _] I (B8 8 [.o 1 0, .x 3 u.1 (rI u.2), .o 6 1] I ⟨I, ⟨Z, Ae aa⟩, I, J⟩ (Dp I (T0 u.2 (min 1000 t.Capacity) _ I) (Bg 1 I (Ap (sI (Ar h I ?_ ?_))))))
 intro ab h
 refine Ah I ?_
 obtain rfl := U _ (oi h).symm
 replace h := D
 replace h := C1 h
 refine sP g0 ?_
 obtain rfl := oi h
 exact sO pr
 intro ab h
 refine sL (sH (An 2 [.k 0 (n + 1 : Nat)] I ⟨A0 F Q, J⟩ ?_))
 obtain rfl := oi h
 exact sI ⟨_, _, _, I, I2, J5, [0, 1], I, by decide⟩
 rintro E s ob ⟨rfl, rfl⟩ he
 subst he
 have h := C6 D
 have ac := Co e.Segments.length
 refine Ah I (Aa fun aw ax => Bu I ac (sQ ?_))
 exact lg ⟨(), h, I2⟩ [0, 1]
 rintro s ob ⟨B, h, rfl, rfl⟩
 refine Aa fun ay ad => sN ?_
 obtain ⟨az, ae, h⟩ := Ac h
 refine sH (An 2 [.o 1 1] I J1 (Cc (Jt _ (.v (.func (.func 44) #[] #[])) I (fun x => some (Nl x)) (fun x r h => by obtain I := oi h; exact gU x _ I) _ ae) (sI (Ar h I ?_ ?_))))
 intro af h
 refine Ah I (sP g0 ?_)
 obtain rfl := oi h
 exact sO pr
 intro af h
 refine sL ?_
 subst ad
 refine Aa fun a0 ag => sN ?_
 obtain ⟨i, ah, h⟩ := Ac h
 refine sH (An 2 [.o 0 0, .o 1 1] I J2 (sJ [] I (Ci I I I (dP _ _ _ ah) dS ?_)))
 rintro _ _ ⟨rfl, rfl⟩
 refine sJ [] I (sS ((Arr.rep 24 (0 : Int)).l.map cI ++ ((Arr.rep 24 (0 : Int)).l.map cI ++ [])) 48 fun a1 => sJ [2] I (sZ 2 0 0 (es' := [i.come.l.map cI ++ (i.leave.l.map cI ++ [])]) I I I I I I I (by simp [Arr.h, Bj]) (by simp [Arr.h, Bj]) I (congrArg (fun r => [r]) (Iy (by simp [Arr.h, Bj]))) (sI (sN (sH (Ag 1 I (sV (C2 2 0 0 I I I I I (y := .agg (i.come.l.map cI)) (S2 I (by simp [Arr.h, Bj]))) I (Ag 1 I (sV (C2 2 0 24 I I I I I (y := .agg (i.leave.l.map cI)) (bP (k := 24) I I (by simp [Arr.h, Bj]) (S2 I (by simp [Arr.h, Bj])))) I (sT (lK (a := i.come) (b := i.leave) I I I I I Zx I I I) I (sI (Ar h I ?_ ?_))))))))))))
 intro ai h
 refine Ah I (sP g0 ?_)
 obtain rfl := oi h
 exact sO pr
 intro ai h
 refine sL ?_
 subst ag
 refine sN (sN ?_)
 obtain ⟨a2, aj, h⟩ := Ac h
 refine By (.still 0 (.still 1 (sl 3 4 (.act 2 (.act 3 (.still 7 .nil)))))) [0, 1] [_, _] I (B8 5 [.o 0 0, .o 1 1, .o 3 0, .l 4 (e.Nodes.length : Int)] I ⟨Ay, I, I, I, J⟩ (sK [] I I I (Ci I I I (Tv _ _ _ aj) dS ?_)))
 rintro _ _ ⟨a3, rfl, rfl⟩
 refine sK [] I I I (Ce (Cz 3 I I I I) dS (Bg 1 I (Ap (sI (Ar h I ?_ ?_)))))
 intro ak h
 refine Ah I (sP g0 ?_)
 obtain rfl := oi h
 exact sO pr
 intro ak h
 refine sL (Ah I (sP g0 ?_))
 obtain rfl := oi h
 exact sO pr
end Go.Proofs.YtodeekicjiengaaGreatDoor
