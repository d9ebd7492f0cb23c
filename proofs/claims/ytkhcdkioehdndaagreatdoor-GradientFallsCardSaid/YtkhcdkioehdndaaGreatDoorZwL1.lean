/- Walks that show what functions of the program compute; printed by a program of ours. No condition. -/
import Derived.Test.YtkhcdkioehdndaaGreatDoorZwL0
set_option maxRecDepth 100000
namespace Go.Proofs.YtkhcdkioehdndaaGreatDoor
open Go.Aw
set_option linter.unusedVariables false
set_option linter.unusedSimpArgs false
set_option maxHeartbeats 4000000
theorem L8 (a : Int) (r : Int) (h : Jx a = r) : ACalls Ae 100 [.v (.int .u8 a)] [] (RV (.V r)) := by
 refine Aa Tryz.func100 I I I fun C hC => ?_
 unfold Jx at h
 refine Ak I (Z5 (Z6 (Am (fun s ob => ∃ (e : Unit), Jx.J1 e = r ∧ s = [] ∧ ob = []) [] J ?_ ?_)))
 refine Z6 (Z6 (Z5 (Z6 (Z5 (Ab fun k f => Fx 3 (decide (a ≥ 97) && decide (a ≤ 122)) ?_ ?_)))))
 refine Z2 (Af 1 I (Bi (Yp.cmpI (c := decide (a ≥ 97)) I I I) I (Af 1 I ?_)))
 rcases bt (decide (a ≥ 97)) with b | b
 exact Aj 6 I b (Af 1 I (Bu I I I (Bi (Yp.cmpI (c := decide (a ≤ 122)) I I I) I (Af 2 I (Z3 (jf (by simp only [b, bz]) I I I2))))))
 exact Aj 6 I b (Af 4 I (Z3 (jf (by simp only [b, bz]) I I I2)))
 refine Av h I ?_ ?_
 intro g h
 refine aB (Z5 (Ak I ?_))
 obtain rfl := h
 exact Z8 pr
 intro g h
 refine Z7 ?_
 subst f
 refine Z5 (Fx 10 (decide (a ≥ 48) && decide (a ≤ 57)) ?_ ?_)
 refine Z2 (Af 1 I (Bi (Yp.cmpI (c := decide (a ≥ 48)) I I I) I (Af 1 I ?_)))
 rcases bt (decide (a ≥ 48)) with d | d
 exact Aj 13 I d (Af 1 I (Bu I I I (Bi (Yp.cmpI (c := decide (a ≤ 57)) I I I) I (Af 2 I (Z3 (jf (by simp only [d, bz]) I I I2))))))
 exact Aj 13 I d (Af 4 I (Z3 (jf (by simp only [d, bz]) I I I2)))
 refine Av h I ?_ ?_
 intro i h
 exact aB (lg ⟨(), h, I2⟩ [])
 intro i h
 refine Z7 (Z5 (Z2 (Af 1 I (Bi (Yp.cmpI (c := (a == 45)) I I I) I (Af 1 I (Z3 (Av h I ?_ ?_)))))))
 intro j h
 exact aB (lg ⟨(), h, I2⟩ [])
 intro j h
 refine Z7 (aB (Ak I ?_))
 obtain rfl := h
 exact Z8 pr
 rintro s ob ⟨e, h, rfl, rfl⟩
 unfold Jx.J1 at h
 refine Z5 (Ak I ?_)
 obtain rfl := h
 exact Z8 pr
theorem L9 (a : Bt) (r : Bool) (h : Gq a = some r) : ACalls Ae 79 [.v (.string a)] [] (RB r) := by
 refine Aa Tryz.func79 I I I fun C hC => ?_
 unfold Gq at h
 refine Ak I (Ab fun S o => Am (fun s ob => ∃ (f : Bool), Gq.J1 a f = some r ∧ s = [(17, .v (.bool f))] ∧ ob = []) [(0, _)] J1 ?_ ?_)
 refine Z2 (Af 4 I ?_)
 rcases bt (decide ((a.size : Int) < 1)) with b | b
 have h := C1 b h
 exact Aj 7 I b (Af 10 I (Z3 (lg ⟨true, h, I2⟩ [])))
 have h := C2 b h
 refine Aj 7 I b ?_
 rcases bt (decide ((a.size : Int) > 12)) with d | d
 have h := C1 d h
 exact Af 5 I (Aj 12 I d (Af 5 I (Z3 (lg ⟨true, h, I2⟩ []))))
 have h := C2 d h
 obtain ⟨g, t, h⟩ := Ac h
 obtain ⟨u, w, y⟩ := N5 t
 exact Af 5 I (Aj 12 I d (Af 1 I (Bu I I I (Bi (Hf (m := g.1) I I I I u w y) I (Bu I I I (By (L8 g.2 _ I) (Af 2 I (Z3 (lg ⟨((Jx g.2) != 1), h, I2⟩ [])))))))))
 rintro s ob ⟨f, h, rfl, rfl⟩
 refine Av h I ?_ ?_
 intro A h
 refine Ak I ?_
 cases io h
 exact Z8 pr
 intro A h
 refine Z7 ?_
 subst o
 refine Am (fun s ob => ∃ (i : Unit), Gq.J2 i = some r ∧ s = [] ∧ ob = []) [] J ?_ ?_
 refine Ak I (Z6 ?_)
 obtain ⟨U, B, h⟩ := Ac h
 have D : (a.size : Int).toNat ≤ 9223372036854775806 := by have := Vi B; omega
 obtain ⟨W, E, j⟩ := Ac h
 refine Fg E [(0, _), (19, _)] J2 (fun (e : Nat) (l : Unit) s ob => s = [(20, .V (e : Int))] ∧ ob = []) ⟨I, I⟩ ⟨I, J⟩ ⟨[], I, by decide⟩ ?_ ?_
 rintro e l X s ob F ⟨rfl, rfl⟩ h G
 have H : decide ((e : Int) < (a.size : Int)) = true := decide_eq_true (by omega)
 refine Ak I (Ab fun Y K => B0 I H (Z7 ?_))
 subst K
 refine Z5 (Z6 (Ak I (Z5 ?_)))
 obtain ⟨n, M, h⟩ := Ac h
 obtain ⟨N, O, P⟩ := N5 M
 refine Z2 (Af 2 I (Bi (Hf (m := n.1) I I I I N O P) I (By (L8 n.2 _ I) (Af 1 I (Z3 (Av h I ?_ ?_))))))
 intro Q h
 refine Ak I ?_
 obtain rfl := G _ (oi h).symm
 have h := j
 have h := Ef h
 cases io h
 exact Z8 pr
 intro Q h
 refine Z7 (Z2 (Ao 2 [.k 0 (e + 1 : Nat)] I ⟨A5 F D, J⟩ ?_))
 cases io h
 exact Z3 ⟨_, _, _, I, I2, J3, [], I, by decide⟩
 rintro l s ob ⟨rfl, rfl⟩ he
 subst he
 have h := Eo j
 have R : decide ((((a.size : Int).toNat : Nat) : Int) < (a.size : Int)) = false := decide_eq_false (by omega)
 exact Ak I (Ab fun Z aa => B7 I R (aB (lg ⟨(), h, I2⟩ [])))
 rintro s ob ⟨i, h, rfl, rfl⟩
 unfold Gq.J2 at h
 refine Ak I ?_
 cases io h
 exact Z8 pr
theorem Ma (a : Nw) (r : Arr (List Bt) 4) (h : Ic a = some r) : ACalls Ae 90 [.agg (Ap a)] [] (RV (.agg (r.l.map (cL 1 rS)))) := by
 refine Aa Tryz.func90 I I I fun C hC => ?_
 unfold Ic at h
 refine Ab fun y1 U => Z2 (Z4 [] I (Cg (Ap a) 6 fun u => Z4 [] I (Bz W2 4 fun f => Z3 ?_)))
 subst U
 refine Ab fun y4 W => Z2 (Z4 [] I (Bz W2 4 fun g => Z3 ?_))
 subst W
 refine Ab fun y6 X => Z2 (Ao 2 [.o 1 0] I J1 (Bi (Dm (m := 0) I I I I I I (Bm I)) I (Z4 [2] I (Bk 2 0 0 [[Q2 a.Nodes, .N, .N, .N]] I (Z3 ?_)))))
 subst X
 refine Am (fun s ob => ∃ (c : List Bt) (b : Value), Ic.J1 a c = some r ∧ s = [] ∧ ob = [O2 u [Ap a], O3 f [W2], O3 g [[Q2 a.Nodes, .v b, .N, .N]], U5 b c]) [(1, _), (2, _), (3, _)] J3 ?_ ?_
 refine Bl [.o 1 0, .l 2 (a.Segments.length : Int)] I ⟨Bc, I, J⟩ (Z6 (Co 14 I fun Y => aA (Be 9 1) ?_))
 obtain ⟨a5, Z, aa⟩ := Ac h
 refine Ei Z [(1, _), (2, _), (3, _), (14, _), (15, _)] J5 (fun (w : Nat) (y : List Bt) s ob => ∃ (j : Value), s = [(16, .V (w : Int))] ∧ ob = [O2 u [Ap a], O3 f [W2], O3 g [[Q2 a.Nodes, .v j, .N, .N]], U5 j y]) ⟨(.slice none 0 0), I2⟩ ⟨I, J⟩ ⟨[0, 1, 2, 3], I, by decide⟩ ?_ ?_
 rintro w F y a6 s ob ab M ⟨j, rfl, rfl⟩ h
 have ac := Do M
 refine Ak I (Ab fun a7 ad => B0 I ac (Z7 ?_))
 subst ad
 refine Z5 (Z6 (Z5 (Z2 (Ao 2 [.x 0 w (Ai F)] I ⟨⟨I, Ag ab⟩, J⟩ (Z4 [] I (Bz W0 7 fun a8 => Z4 [4] I (Bk 4 0 0 [Ai F] I (Z3 ?_))))))))
 obtain ⟨a9, ae, h⟩ := Ac h
 refine Z2 (Bi (Dm (m := 1) I I I I I I (Bm I)) I (Ao 3 [.o 0 2, .o 2 4] I J2 (Z4 [] I (aD 1 (([F.Name] : List Bt).map rS) (Z4 [3] I (D7 3 I ae fun O => Bi (Dm (m := 1) I I I I I I (Bm I)) I (AO.one 3 I fun af => Z4 [2] I (AX.store 2 0 1 (es' := [[Q2 a.Nodes, .v O, .N, .N]]) I I I I I I (D5 af) I (Bm I) I I (Z3 (Z2 (Ao 2 [.k 0 (w + 1 : Nat)] I ⟨A5 M Y, J⟩ ?_)))))))))))
 cases io h
 exact Z3 (lg ⟨O, I2⟩ [0, 1, 2, 3])
 rintro y s ob ⟨j, rfl, rfl⟩ he
 subst he
 have h := aa
 have ag := Dp a.Segments.length
 exact Ak I (Ab fun ba bb => B7 I ag (aB (lg ⟨y, j, h, I2⟩ [0, 1, 2, 3])))
 rintro s ob ⟨c, b, h, rfl, rfl⟩
 unfold Ic.J1 at h
 refine Am (fun s ob => ∃ (e : List Bt) (d : Value), Ic.J2 a c e = some r ∧ s = [] ∧ ob = [O2 u [Ap a], O3 f [W2], O3 g [[Q2 a.Nodes, .v b, .v d, .N]], U5 b c, U5 d e]) [(1, _), (2, _), (3, _)] J3 ?_ ?_
 refine Bl [.o 1 0, .l 2 (a.Ports.length : Int)] I ⟨Bc, I, J⟩ (Z6 (Co 29 I fun ah => aA (Be 9 1) ?_))
 obtain ⟨bc, ai, aj⟩ := Ac h
 refine Ei ai [(1, _), (2, _), (3, _), (29, _), (30, _)] J5 (fun (A : Nat) (B : List Bt) s ob => ∃ (n : Value), s = [(31, .V (A : Int))] ∧ ob = [O2 u [Ap a], O3 f [W2], O3 g [[Q2 a.Nodes, .v b, .v n, .N]], U5 b c, U5 n B]) ⟨(.slice none 0 0), I2⟩ ⟨I, J⟩ ⟨[0, 1, 2, 3, 4], I, by decide⟩ ?_ ?_
 rintro A G B bd s ob ak P ⟨n, rfl, rfl⟩ h
 have al := Do P
 refine Ak I (Ab fun be am => B0 I al (Z7 ?_))
 subst am
 refine Z5 (Z6 (Z5 (Z2 (Ao 2 [.x 0 A (Cu G)] I ⟨⟨I, Ag ak⟩, J⟩ (Z4 [] I (Bz W4 3 fun bf => Z4 [5] I (Bk 5 0 0 [Cu G] I (Z3 ?_))))))))
 obtain ⟨bg, an, h⟩ := Ac h
 refine Z2 (Bi (Dm (m := 2) I I I I I I (Bm I)) I (Ao 3 [.o 0 2, .o 2 5] I J2 (Z4 [] I (aD 1 (([G.Name] : List Bt).map rS) (Z4 [4] I (D7 4 I an fun Q => Bi (Dm (m := 2) I I I I I I (Bm I)) I (AO.one 4 I fun ao => Z4 [2] I (AX.store 2 0 2 (es' := [[Q2 a.Nodes, .v b, .v Q, .N]]) I I I I I I (D5 ao) I (Bm I) I I (Z3 (Z2 (Ao 2 [.k 0 (A + 1 : Nat)] I ⟨A5 P ah, J⟩ ?_)))))))))))
 cases io h
 exact Z3 (lg ⟨Q, I2⟩ [0, 1, 2, 3, 4])
 rintro B s ob ⟨n, rfl, rfl⟩ he
 subst he
 have h := aj
 have aq := Dp a.Ports.length
 exact Ak I (Ab fun bh bi => B7 I aq (aB (lg ⟨B, n, h, I2⟩ [0, 1, 2, 3, 4])))
 rintro s ob ⟨e, d, h, rfl, rfl⟩
 unfold Ic.J2 at h
 refine Am (fun s ob => ∃ (q : List Bt) (i : Value), Ic.J3 a c e q = some r ∧ s = [] ∧ ob = [O3 f [W2], O3 g [[Q2 a.Nodes, .v b, .v d, .v i]], U5 b c, U5 d e, U5 i q]) [(2, _), (3, _)] J2 ?_ ?_
 refine Bl [.o 1 0, .l 2 (a.Stations.length : Int)] I ⟨Bc, I, J⟩ (Z6 (Co 44 I fun ar => aA (Be 9 1) ?_))
 obtain ⟨bj, au, av⟩ := Ac h
 refine Ei au [(2, _), (3, _), (44, _), (45, _)] J4 (fun (D : Nat) (E : List Bt) s ob => ∃ (t : Value), s = [(46, .V (D : Int))] ∧ ob = [O3 f [W2], O3 g [[Q2 a.Nodes, .v b, .v d, .v t]], U5 b c, U5 d e, U5 t E]) ⟨(.slice none 0 0), I2⟩ ⟨I, J⟩ ⟨[1, 2, 3, 4, 5], I, by decide⟩ ?_ ?_
 rintro D H E bk s ob aw R ⟨t, rfl, rfl⟩ h
 have ax := Do R
 refine Ak I (Ab fun bl ay => B0 I ax (Z7 ?_))
 subst ay
 refine Z5 (Z6 (Z5 (Z2 (Ao 2 [.x 0 D (A7 H)] I ⟨⟨I, Ag aw⟩, J⟩ (Z4 [] I (Bz W3 5 fun bm => Z4 [5] I (Bk 5 0 0 [A7 H] I (Z3 ?_))))))))
 obtain ⟨bn, az, h⟩ := Ac h
 refine Z2 (Bi (Dm (m := 3) I I I I I I (Bm I)) I (Ao 3 [.o 0 1, .o 2 5] I J2 (Z4 [] I (aD 1 (([H.Name] : List Bt).map rS) (Z4 [4] I (D7 4 I az fun S => Bi (Dm (m := 3) I I I I I I (Bm I)) I (AO.one 4 I fun a0 => Z4 [1] I (AX.store 1 0 3 (es' := [[Q2 a.Nodes, .v b, .v d, .v S]]) I I I I I I (D5 a0) I (Bm I) I I (Z3 (Z2 (Ao 2 [.k 0 (D + 1 : Nat)] I ⟨A5 R ar, J⟩ ?_)))))))))))
 cases io h
 exact Z3 (lg ⟨S, I2⟩ [0, 1, 2, 3, 4])
 rintro E s ob ⟨t, rfl, rfl⟩ he
 subst he
 have h := av
 have a1 := Dp a.Stations.length
 exact Ak I (Ab fun bo bp => B7 I a1 (aB (lg ⟨E, t, h, I2⟩ [0, 1, 2, 3, 4])))
 rintro s ob ⟨q, i, h, rfl, rfl⟩
 unfold Ic.J3 at h
 refine Z5 (Z2 (Ao 1 [.o 0 1] I J1 (Z4 [0] I (Bk 0 0 0 [[Q2 a.Nodes, .v b, .v d, .v i]] I (Z3 (aA (A8 [2, 3, 4] (K := [U5 b c, U5 d e, U5 i q]) I [] J (ob' := [O3 f [[Q2 a.Nodes, Q2 c, Q2 e, Q2 q]], O3 g [[Q2 a.Nodes, .v b, .v d, .v i]]]) (.cons (.arr (.cons (.refl _) (.cons (.us 0 I) (.cons (.us 1 I) (.cons (.us 2 I) (.rest _)))))) (.rest _))) (Fy [0] I ?_)))))))
 cases io h
 exact Z8 ⟨.inr I, [_], [], ⟨⟨0, _, _, _, _, _, _, _, I5⟩, J⟩, Ct, I2⟩
theorem Sw (a : Sn) (b : Sn) (r : Bool) (h : Gj a b = r) : ACalls Ae 117 [.agg (A7 a), .eptr (A7 b)] [] (RB r) := by
 refine Aa Tryz.func117 I I I fun C hC => ?_
 unfold Gj at h
 refine Z5 (Z2 (Z4 [] I (Cg (A7 a) 5 fun c => Af 1 I (Z3 (Bl [.o 1 0] I J1 (aA g0 ?_))))))
 obtain rfl := h
 exact Z8 pr
theorem Sh (a : Nw) (r : Bool) (h : Mh a = some r) : ACalls Ae 93 [.agg (Ap a)] [] (RB r) := by
 refine Aa Tryz.func93 I I I fun C hC => ?_
 unfold Mh at h
 refine Ab fun y1 G => Z2 (Z4 [] I (Cg (Ap a) 6 fun b => Af 1 I (Z3 ?_)))
 subst G
 refine Am (fun s ob => ∃ (j : Unit), Mh.J1 a j = some r ∧ s = [] ∧ ob = [O2 b [Ap a]]) [(1, _)] J1 ?_ ?_
 refine Ab fun aw H => ?_
 obtain ⟨ax, K, h⟩ := Ac h
 refine Z2 (Ao 1 [.o 0 0] I J1 (Z4 [] I (Az I I I (Ma _ _ K) dS ?_)))
 rintro _ _ ⟨rfl, rfl⟩
 refine Af 1 I (Z3 ?_)
 subst H
 refine Z6 ?_
 have M : (4 : Nat) ≤ 9223372036854775806 := by decide
 obtain ⟨ay, N, n⟩ := Ac h
 refine Fg N [(1, _), (10, _)] J2 (fun (e : Nat) (t : Unit) s ob => s = [(11, .V (e : Int))] ∧ ob = [O2 b [Ap a]]) ⟨I, I⟩ ⟨I, J⟩ ⟨[0], I, by decide⟩ ?_ ?_
 rintro e t O s ob P ⟨rfl, rfl⟩ h Q
 unfold Mh.B4 at h
 have R : decide ((e : Int) < 4) = true := decide_eq_true (by omega)
 refine Ak I (Ab fun az S => B0 I R (Z7 ?_))
 subst S
 refine Am (fun s ob => ∃ (u : Unit), Mh.J5 u = some O ∧ s = [] ∧ ob = [O2 b [Ap a]]) [(1, _), (10, _), (11, _)] J3 ?_ ?_
 refine Z6 (Ab fun a0 U => ?_)
 obtain ⟨i, ⟨W, X⟩, h⟩ := Bg h
 refine Z2 (Bi (I6 (m := i.1) I I I I I I I W X (hlen := Arr.h _)) I (Af 1 I (Z3 ?_)))
 subst U
 refine Bl [.l 1 (i.2.length : Int)] I ⟨Bc, J⟩ (Z6 (Co 14 I fun Y => ?_))
 obtain ⟨a1, Z, w⟩ := Ac h
 refine Cd Z [(1, _), (4, _), (10, _), (11, _), (14, _), (15, _)] J6 (fun (f : Nat) (y : Unit) s ob => s = [(16, .V (f : Int))] ∧ ob = [O2 b [Ap a]]) ⟨I, I⟩ ⟨I, J⟩ ⟨[0], I, by decide⟩ ?_ ?_
 rintro f aa y a2 s ob ab A ⟨rfl, rfl⟩ h ac
 have ad := Do A
 refine Ak I (Ab fun a3 ae => B0 I ad (Z7 ?_))
 subst ae
 refine Z5 (Z6 (Bl [.x 1 f (rS aa)] I ⟨⟨I, Ag ab⟩, J⟩ (Z5 ?_)))
 obtain ⟨a4, af, h⟩ := Ac h
 refine Z2 (Af 2 I (By (Sx _ _ _ af) (Af 2 I (Z3 (Av h I ?_ ?_)))))
 intro ag h
 refine Ak I ?_
 obtain rfl := ac _ (oi h).symm
 have h := w
 have h := Ef h
 obtain rfl := Q _ (oi h).symm
 have h := n
 have h := Ef h
 refine aA g0 ?_
 cases io h
 exact Z8 pr
 intro ag h
 refine Z7 (Z2 (Ao 2 [.k 0 (f + 1 : Nat)] I ⟨A5 A Y, J⟩ ?_))
 cases io h
 exact Z3 ⟨_, _, _, I, I2, J7, [0], I, by decide⟩
 rintro y s ob ⟨rfl, rfl⟩ he
 subst he
 have h := Eo w
 have ah := Dp i.2.length
 exact Ak I (Ab fun a5 a6 => B7 I ah (aB (lg ⟨(), h, I2⟩ [0])))
 rintro s ob ⟨u, h, rfl, rfl⟩
 unfold Mh.J5 at h
 refine Z2 (Ao 2 [.k 0 (e + 1 : Nat)] I ⟨A5 P M, J⟩ ?_)
 cases io h
 exact Z3 ⟨_, _, _, I, I2, J3, [0], I, by decide⟩
 rintro t s ob ⟨rfl, rfl⟩ he
 subst he
 have h := Eo n
 have ai : decide (((4 : Nat) : Int) < 4) = false := by simp
 exact Ak I (Ab fun a7 a8 => B7 I ai (aB (lg ⟨(), h, I2⟩ [0])))
 rintro s ob ⟨j, h, rfl, rfl⟩
 unfold Mh.J1 at h
 refine Am (fun s ob => ∃ (B : Unit), Mh.J2 B = some r ∧ s = [] ∧ ob = []) [] J ?_ ?_
 refine Bl [.o 1 0, .l 2 (a.Stations.length : Int)] I ⟨Bc, I, J⟩ (Z6 (Co 29 I fun aj => ?_))
 obtain ⟨a9, ak, D⟩ := Ac h
 refine Cd ak [(1, _), (29, _), (30, _)] J3 (fun (g : Nat) (E : Unit) s ob => s = [(31, .V (g : Int))] ∧ ob = [O2 b [Ap a]]) ⟨I, I⟩ ⟨I, J⟩ ⟨[0], I, by decide⟩ ?_ ?_
 rintro g d E ba s ob al F ⟨rfl, rfl⟩ h am
 have an := Do F
 refine Ak I (Ab fun bb ao => B0 I an (Z7 ?_))
 subst ao
 refine Z5 (Z6 (Ab fun bc ap => Z2 (Ao 3 [.x 1 g (A7 d)] I ⟨⟨I, Ag al⟩, J⟩ (Z4 [] I (Bz W3 5 fun bd => Af 1 I (Z4 [1] I (Bk 1 0 0 [A7 d] I (Z3 ?_))))))))
 subst ap
 refine Z5 ?_
 obtain ⟨be, aq, h⟩ := Ac h
 refine Z2 (Ao 2 [.o 1 0] I J1 (Bi (Yp.makeFunc I I) I (Z4 [] I (Bo I (.refl _) I I (.cons (.refl _) (.cons (.fn (.rest _) (.cons (.box 1 I (.rest _)) (.rest _))) (.rest _))) I (L0 _ (.fn 117 [] [.eptr (A7 d)]) I (fun x => some (Gj x d)) (fun x r h => by obtain I := oi h; exact Sw x d _ I) _ aq) dS (by rintro _ _ ⟨rfl, _⟩; rfl) ?_))))
 rintro _ ⟨_, rfl, -⟩
 refine Af 2 I (Z3 (Av h I ?_ ?_))
 intro ar h
 refine Ak I ?_
 obtain rfl := am _ (oi h).symm
 have h := D
 have h := Ef h
 refine aA g0 ?_
 cases io h
 exact Z8 pr
 intro ar h
 refine Z7 (Z2 (Ao 2 [.k 0 (g + 1 : Nat)] I ⟨A5 F aj, J⟩ ?_))
 cases io h
 exact Z3 ⟨_, _, _, I, I2, J4, [0], I, by decide⟩
 rintro E s ob ⟨rfl, rfl⟩ he
 subst he
 have h := Eo D
 have au := Dp a.Stations.length
 exact Ak I (Ab fun bf bg => B7 I au (aB (lg ⟨(), h, I2⟩ [])))
 rintro s ob ⟨B, h, rfl, rfl⟩
 unfold Mh.J2 at h
 refine Ak I ?_
 cases io h
 exact Z8 pr
theorem Si (a : Int) (c : Nw) (r : Bool) (h : Hy a c = r) : ACalls Ae 119 [.V a, .eptr (Ap c)] [] (RB r) := by
 refine Aa Tryz.func119 I I I fun C hC => ?_
 unfold Hy at h
 refine Ak I (Am (fun s ob => s = [(3, .v (.bool (decide (a < 0) || decide (a ≥ (c.Nodes.length : Int)))))] ∧ ob = []) [] J ?_ ?_)
 refine Z2 (Af 3 I ?_)
 rcases bt (decide (a < 0)) with b | b
 refine Aj 6 I b (Af 7 I (Z3 ?_))
 exact lf I2 ⟨(Dl (by simp only [b, bz])), J⟩ [] I
 refine Aj 6 I b (Ao 7 [.l 3 (c.Nodes.length : Int)] I ⟨Bc, J⟩ (Z3 ?_))
 exact lf I2 ⟨(Dl (by simp only [b, bz])), J⟩ [] I
 rintro s ob ⟨rfl, rfl⟩
 obtain rfl := h
 exact Z8 pr
theorem Tv (a : Nw) (r : Bool) (h : Mx a = some r) : ACalls Ae 94 [.agg (Ap a)] [] (RB r) := by
 refine Aa Tryz.func94 I I I fun C hC => ?_
 unfold Mx at h
 refine Ab fun y1 O => Z2 (Z4 [] I (Cg (Ap a) 6 fun b => Af 1 I (Z3 ?_)))
 subst O
 refine Ak I (Am (fun s ob => ∃ (A : Li) (f : Value), Mx.J1 a A = some r ∧ s = [(3, .v f)] ∧ ob = [O2 b [Ap a], U0 f A]) [(1, _)] J1 ?_ ?_)
 refine Bl [.o 1 0, .l 2 (a.Segments.length : Int)] I ⟨Bc, I, J⟩ (Z6 (Co 11 I fun P => aA (Be 3 1) ?_))
 obtain ⟨ax, Q, R⟩ := Ac h
 refine Ei Q [(1, _), (11, _), (12, _)] J3 (fun (g : Nat) (i : Li) s ob => ∃ (c : Value), s = [(13, .V (g : Int)), (3, .v c)] ∧ ob = [O2 b [Ap a], U0 c i]) ⟨(.slice none 0 0), I2⟩ ⟨I, I, J⟩ ⟨[0, 1], I, by decide⟩ ?_ ?_
 rintro g j i ay s ob S H ⟨c, rfl, rfl⟩ h
 have U := Do H
 refine Ak I (Ab fun az W => B0 I U (Z7 ?_))
 subst W
 refine Z5 (Z6 (Z5 (Z2 (Ao 2 [.x 0 g (Ai j)] I ⟨⟨I, Ag S⟩, J⟩ (Z4 [] I (Bz W0 7 fun a0 => Z4 [2] I (Bk 2 0 0 [Ai j] I (Z3 ?_))))))))
 obtain ⟨a1, X, h⟩ := Ac h
 refine Z2 (Ao 5 [.o 2 2, .o 4 2] I J2 (Z4 [] I (aD 1 (([j.From, j.To] : Li).map rI) (Z4 [1] I (D7 1 I X fun Y => Af 1 I (Z3 (Z2 (Ao 2 [.k 0 (g + 1 : Nat)] I ⟨A5 H P, J⟩ ?_))))))))
 cases io h
 exact Z3 (lg ⟨Y, I2⟩ [0, 1])
 rintro i s ob ⟨c, rfl, rfl⟩ he
 subst he
 have h := R
 have Z := Dp a.Segments.length
 exact Ak I (Ab fun a2 a3 => B7 I Z (aB (lg ⟨i, c, h, I2⟩ [0, 1])))
 rintro s ob ⟨A, f, h, rfl, rfl⟩
 unfold Mx.J1 at h
 refine Am (fun s ob => ∃ (B : Li) (n : Value), Mx.J2 a B = some r ∧ s = [(3, .v n)] ∧ ob = [O2 b [Ap a], U0 n B]) [(1, _)] J1 ?_ ?_
 refine Bl [.o 1 0, .l 2 (a.Ports.length : Int)] I ⟨Bc, I, J⟩ (Z6 (Co 26 I fun aa => ?_))
 obtain ⟨a4, ab, ac⟩ := Ac h
 refine Ei ab [(1, _), (26, _), (27, _)] J3 (fun (t : Nat) (u : Li) s ob => ∃ (d : Value), s = [(28, .V (t : Int)), (3, .v d)] ∧ ob = [O2 b [Ap a], U0 d u]) ⟨f, I2⟩ ⟨I, I, J⟩ ⟨[0, 1], I, by decide⟩ ?_ ?_
 rintro t D u a5 s ob ad K ⟨d, rfl, rfl⟩ h
 have ae := Do K
 refine Ak I (Ab fun a6 af => B0 I ae (Z7 ?_))
 subst af
 refine Z5 (Z6 (Z5 (Z2 (Ao 2 [.x 0 t (Cu D)] I ⟨⟨I, Ag ad⟩, J⟩ (Z4 [] I (Bz W4 3 fun a7 => Z4 [2] I (Bk 2 0 0 [Cu D] I (Z3 ?_))))))))
 obtain ⟨a8, ag, h⟩ := Ac h
 refine Z2 (Ao 3 [.o 2 2] I J1 (Z4 [] I (aD 1 (([D.Node] : Li).map rI) (Z4 [1] I (D7 1 I ag fun ah => Af 1 I (Z3 (Z2 (Ao 2 [.k 0 (t + 1 : Nat)] I ⟨A5 K aa, J⟩ ?_))))))))
 cases io h
 exact Z3 (lg ⟨ah, I2⟩ [0, 1])
 rintro u s ob ⟨d, rfl, rfl⟩ he
 subst he
 have h := ac
 have ai := Dp a.Ports.length
 exact Ak I (Ab fun a9 ba => B7 I ai (aB (lg ⟨u, d, h, I2⟩ [0, 1])))
 rintro s ob ⟨B, n, h, rfl, rfl⟩
 unfold Mx.J2 at h
 refine Am (fun s ob => ∃ (E : Li) (F : Value), Mx.J3 a E = some r ∧ s = [(3, .v F)] ∧ ob = [O2 b [Ap a], U0 F E]) [(1, _)] J1 ?_ ?_
 refine Bl [.o 1 0, .l 2 (a.Stations.length : Int)] I ⟨Bc, I, J⟩ (Z6 (Co 39 I fun aj => ?_))
 obtain ⟨bb, ak, al⟩ := Ac h
 refine Ei ak [(1, _), (39, _), (40, _)] J3 (fun (w : Nat) (y : Li) s ob => ∃ (e : Value), s = [(41, .V (w : Int)), (3, .v e)] ∧ ob = [O2 b [Ap a], U0 e y]) ⟨n, I2⟩ ⟨I, I, J⟩ ⟨[0, 1], I, by decide⟩ ?_ ?_
 rintro w G y bc s ob am M ⟨e, rfl, rfl⟩ h
 have an := Do M
 refine Ak I (Ab fun bd ao => B0 I an (Z7 ?_))
 subst ao
 refine Z5 (Z6 (Z5 (Z2 (Ao 2 [.x 0 w (A7 G)] I ⟨⟨I, Ag am⟩, J⟩ (Z4 [] I (Bz W3 5 fun be => Z4 [2] I (Bk 2 0 0 [A7 G] I (Z3 ?_))))))))
 obtain ⟨bf, aq, h⟩ := Ac h
 refine Z2 (Ao 3 [.o 2 2] I J1 (Z4 [] I (aD 1 (([G.Node] : Li).map rI) (Z4 [1] I (D7 1 I aq fun ar => Af 1 I (Z3 (Z2 (Ao 2 [.k 0 (w + 1 : Nat)] I ⟨A5 M aj, J⟩ ?_))))))))
 cases io h
 exact Z3 (lg ⟨ar, I2⟩ [0, 1])
 rintro y s ob ⟨e, rfl, rfl⟩ he
 subst he
 have h := al
 have au := Dp a.Stations.length
 exact Ak I (Ab fun bg bh => B7 I au (aB (lg ⟨y, e, h, I2⟩ [0, 1])))
 rintro s ob ⟨E, F, h, rfl, rfl⟩
 refine Z5 ?_
 obtain ⟨bi, av, h⟩ := Ac h
 refine Z2 (Af 1 I (Bi (Yp.makeFunc I I) I (Z4 [] I (Bo I (.refl _) I I (.cons (.us 1 I) (.cons (.fn (.rest _) (.cons (.box 0 I (.rest _)) (.rest _))) (.rest _))) I (Sr _ (.fn 119 [] [.eptr (Ap a)]) I (fun x => some (Hy x a)) (fun x r h => by obtain I := oi h; exact Si x a _ I) _ av) dS (by rintro _ _ ⟨rfl, _⟩; rfl) ?_))))
 rintro _ ⟨_, rfl, -⟩
 refine Af 2 I (Z3 (aA g0 ?_))
 cases io h
 exact Z8 pr
theorem Tu (a : Sg) (r : Bool) (h : Ib a = some r) : ACalls Ae 121 [.agg (Ai a)] [] (RB r) := by
 refine Aa Tryz.func121 I I I fun C hC => ?_
 unfold Ib at h
 refine Ab fun y1 H => Z2 (Z4 [] I (Cg (Ai a) 7 fun t => Af 1 I (Z3 ?_)))
 subst H
 refine Ab fun y3 K => Fx 27 ((a.From == a.To) || ((!(Bf a.Capacity 1 1000000)) || ((!(Bf a.Resist 0 1000)) || (!(Bf a.Wave 0 100000))))) ?_ ?_
 refine Z2 (Ao 6 [.o 1 0, .o 3 0] I J2 ?_)
 rcases bt ((a.From == a.To)) with d | d
 exact Aj 10 I d (Af 17 I (Z3 (jf (by simp only [d, bz]) I I I2)))
 refine Aj 10 I d (Ao 2 [.o 1 0] I J1 (Bu I I I (By (Bq a.Capacity 1 1000000 _ I) (Af 3 I ?_))))
 rcases bt ((!(Bf a.Capacity 1 1000000))) with f | f
 exact Aj 16 I f (Af 11 I (Z3 (jf (by simp only [d, f, bz]) I I I2)))
 refine Aj 16 I f (Ao 2 [.o 1 0] I J1 (Bu I I I (By (Bq a.Resist 0 1000 _ I) (Af 3 I ?_))))
 rcases bt ((!(Bf a.Resist 0 1000))) with i | i
 exact Aj 22 I i (Af 5 I (Z3 (jf (by simp only [d, f, i, bz]) I I I2)))
 exact Aj 22 I i (Ao 2 [.o 1 0] I J1 (Bu I I I (By (Bq a.Wave 0 100000 _ I) (Af 2 I (Z3 (jf (by simp only [d, f, i, bz]) I I I2))))))
 refine Av h I ?_ ?_
 intro M h
 refine Ak I (aA g0 ?_)
 cases io h
 exact Z8 pr
 intro M h
 refine Z7 ?_
 subst K
 refine Am (fun s ob => ∃ (D : Unit), Ib.J1 a D = some r ∧ s = [] ∧ ob = [O1 t [Ai a]]) [(1, _)] J1 ?_ ?_
 refine Bl [.o 1 0, .l 2 (a.Points.length : Int)] I ⟨Bc, I, J⟩ (Z6 (Co 29 I fun N => ?_))
 obtain ⟨ah, O, E⟩ := Ac h
 refine Cd O [(1, _), (29, _), (30, _)] J3 (fun (j : Nat) (F : Unit) s ob => s = [(31, .V (j : Int))] ∧ ob = [O1 t [Ai a]]) ⟨I, I⟩ ⟨I, J⟩ ⟨[0], I, by decide⟩ ?_ ?_
 rintro j b F P s ob Q G ⟨rfl, rfl⟩ h R
 unfold Ib.B3 at h
 have S := Do G
 refine Ak I (Ab fun ai U => B0 I S (Z7 ?_))
 subst U
 refine Z5 (Z6 (Ab fun aj W => Z2 (Ao 3 [.x 1 j (A2 b)] I ⟨⟨I, Ag Q⟩, J⟩ (Z4 [] I (Bz W1 3 fun ak => Af 1 I (Z4 [1] I (Bk 1 0 0 [A2 b] I (Z3 ?_))))))))
 subst W
 refine Am (fun s ob => ∃ (u : Bool), Ib.J4 u = some P ∧ s = [(61, .v (.bool u))] ∧ ob = [O1 t [Ai a]]) [(1, _), (29, _), (30, _), (31, _)] J4 ?_ ?_
 rcases bt ((!(Bf b.Height (-500) 5000))) with e | e
 have h := C1 e h
 refine Cb (pd 26 0 [2, 7]) [1] [_] I (Dd 2 [.o 1 0] I J1 (Nl I (Bq b.Height (-500) 5000 _ I) (Aq 2 I (Ax 40 I e (Aq 9 I (Ad I I I I dS (Ad I I I I dS (Ad I I I I dS (Ad I I I I dS (Ad I I I I dS (Ad I I I I dS (Ad I I I I dS ?_))))))))))))
 exact Ad I I I I dS (Ad I I I I dS (Ad I I I I dS (Aq 2 I (Ay (Z3 (lg ⟨true, h, I2⟩ [0]))))))
 have h := C2 e h
 rcases bt ((!(Bf b.Limit 0 100000000))) with g | g
 have h := C1 g h
 refine Cb (pd 26 0 [2, 7]) [1] [_] I (Dd 2 [.o 1 0] I J1 (Nl I (Bq b.Height (-500) 5000 _ I) (Aq 2 I (Ax 40 I e (Dd 2 [.o 1 0] I J1 (Ue I (Bq b.Limit 0 100000000 _ I) (Aq 3 I (Ax 46 I g (Aq 3 I (Ad I I I I dS (Ad I I I I dS (Ad I I I I dS ?_))))))))))))
 exact Ad I I I I dS (Ad I I I I dS (Ad I I I I dS (Ad I I I I dS (Ad I I I I dS (Ad I I I I dS (Ad I I I I dS (Aq 2 I (Ay (Z3 (lg ⟨true, h, I2⟩ [0]))))))))))
 have h := C2 g h
 rcases bt (decide ((j : Int) > 0)) with n | n
 have h := C1 n h
 obtain ⟨w, ⟨X, Y⟩, h⟩ := Bg h
 refine Cb (pd 26 0 [2, 7]) [1, 0] [_, _] I (Dd 2 [.o 1 0] I J1 (Nl I (Bq b.Height (-500) 5000 _ I) (Aq 2 I (Ax 40 I e (Dd 2 [.o 1 0] I J1 (Ue I (Bq b.Limit 0 100000000 _ I) (Aq 3 I (Ax 46 I g (Aq 3 I (Ax 49 I n (Dd 12 [.o 1 0, .o 3 1, .x 6 w.1 (A2 w.2)] I ⟨⟨X, Ag Y⟩, I, I, J⟩ (Ay ?_))))))))))))
 exact Z3 (lg ⟨decide (b.At ≤ w.2.At), h, I2⟩ [0])
 have h := C2 n h
 refine Cb (pd 26 0 [2, 7]) [1] [_] I (Dd 2 [.o 1 0] I J1 (Nl I (Bq b.Height (-500) 5000 _ I) (Aq 2 I (Ax 40 I e (Dd 2 [.o 1 0] I J1 (Ue I (Bq b.Limit 0 100000000 _ I) (Aq 3 I (Ax 46 I g (Aq 3 I (Ax 49 I n (Aq 12 I (Ay ?_))))))))))))
 exact Z3 (lg ⟨false, h, I2⟩ [0])
 rintro s ob ⟨u, h, rfl, rfl⟩
 refine Av h I ?_ ?_
 intro Z h
 refine Ak I ?_
 obtain rfl := R _ (oi h).symm
 have h := E
 have h := Ef h
 refine aA g0 ?_
 cases io h
 exact Z8 pr
 intro Z h
 refine Z7 (Z2 (Ao 2 [.k 0 (j + 1 : Nat)] I ⟨A5 G N, J⟩ ?_))
 cases io h
 exact Z3 ⟨_, _, _, I, I2, J4, [0], I, by decide⟩
 rintro F s ob ⟨rfl, rfl⟩ he
 subst he
 have h := Eo E
 have aa := Dp a.Points.length
 exact Ak I (Ab fun al am => B7 I aa (aB (lg ⟨(), h, I2⟩ [0])))
 rintro s ob ⟨D, h, rfl, rfl⟩
 unfold Ib.J1 at h
 refine Am (fun s ob => ∃ (y : Bool), Ib.J2 y = some r ∧ s = [(2, .v (.bool y))] ∧ ob = []) [] J ?_ ?_
 obtain ⟨A, ⟨ab, ac⟩, h⟩ := Bg h
 refine Cb (pd 21 0 []) [0] [_] I (Dd 7 [.o 1 0, .x 2 A.1 (A2 A.2)] I ⟨⟨ab, Ag ac⟩, I, J⟩ ?_)
 rcases bt ((A.2.At == 0)) with p | p
 have h := C1 p h
 obtain ⟨B, ⟨ad, ae⟩, h⟩ := Bg h
 exact Ax 69 I p (Dd 14 [.o 1 0, .o 3 0, .l 4 (a.Points.length : Int), .x 6 B.1 (A2 B.2), .o 10 0] I ⟨I, ⟨ad, Ag ae⟩, Bc, I, I, J⟩ (Ay (Z3 (lg ⟨(B.2.At == a.Capacity), h, I2⟩ []))))
 have h := C2 p h
 exact Ax 69 I p (Aq 14 I (Ay (Z3 (lg ⟨false, h, I2⟩ []))))
 rintro s ob ⟨y, h, rfl, rfl⟩
 unfold Ib.J2 at h
 cases io h
 exact Z8 pr
theorem Se (a : Sg) (r : Bool) (h : Mg a = some r) : ACalls Ae 120 [.agg (Ai a)] [] (RB r) := by
 refine Aa Tryz.func120 I I I fun C hC => ?_
 refine Z5 (Z2 (Z4 [] I (Cg (Ai a) 7 fun d => Af 1 I (Z3 (Z5 ?_)))))
 obtain ⟨e, b, h⟩ := Ac h
 refine Z2 (Ao 1 [.o 0 0] I J1 (By (Tu _ _ b) (Af 2 I (Z3 (aA g0 ?_)))))
 cases io h
 exact Z8 pr
theorem Sk (a : Port) (r : Bool) (h : Hz a = r) : ACalls Ae 123 [.agg (Cu a)] [] (RB r) := by
 refine Aa Tryz.func123 I I I fun C hC => ?_
 unfold Hz at h
 refine Z5 (Z2 (Z4 [] I (Cg (Cu a) 3 fun b => Af 1 I (Z3 (Z5 (Z2 (Ao 2 [.o 1 0] I J1 (By (Bq a.Pressure 0 100000000 _ I) (Af 2 I (Z3 (aA g0 ?_)))))))))))
 obtain rfl := h
 exact Z8 pr
theorem Tn (a : Sn) (r : Bool) (h : Ia a = r) : ACalls Ae 126 [.agg (A7 a)] [] (RB r) := by
 refine Aa Tryz.func126 I I I fun C hC => ?_
 unfold Ia at h
 refine Ab fun f e => Z2 (Z4 [] I (Cg (A7 a) 5 fun g => Af 1 I (Z3 ?_)))
 subst e
 refine Am (fun s ob => s = [(2, .v (.bool ((!(Bf a.Head 0 100000000)) || ((!(Bf a.Fall 0 100000)) || (!(Bf a.Suction 0 100000000))))))] ∧ ob = []) [] J ?_ ?_
 refine Z2 (Ao 2 [.o 1 0] I J1 (By (Bq a.Head 0 100000000 _ I) (Af 2 I ?_)))
 rcases bt ((!(Bf a.Head 0 100000000))) with b | b
 refine Aj 7 I b (Af 12 I (Z3 ?_))
 exact lf I2 ⟨(Dl (by simp only [b, bz])), J⟩ [] I
 refine Aj 7 I b (Ao 2 [.o 1 0] I J1 (Bu I I I (By (Bq a.Fall 0 100000 _ I) (Af 3 I ?_))))
 rcases bt ((!(Bf a.Fall 0 100000))) with d | d
 refine Aj 13 I d (Af 6 I (Z3 ?_))
 exact lf I2 ⟨(Dl (by simp only [b, d, bz])), J⟩ [] I
 refine Aj 13 I d (Ao 2 [.o 1 0] I J1 (Bu I I I (By (Bq a.Suction 0 100000000 _ I) (Af 3 I (Z3 ?_)))))
 exact lf I2 ⟨(Dl (by simp only [b, d, bz])), J⟩ [] I
 rintro s ob ⟨rfl, rfl⟩
 obtain rfl := h
 exact Z8 pr
theorem Tr (a : Nw) (r : Bool) (h : Pj a = some r) : ACalls Ae 95 [.agg (Ap a)] [] (RB r) := by
 refine Aa Tryz.func95 I I I fun C hC => ?_
 refine Ab fun p d => Z2 (Z4 [] I (Cg (Ap a) 6 fun t => Af 1 I (Z3 ?_)))
 subst d
 refine Ab fun u e => Z5 ?_
 obtain ⟨w, f, h⟩ := Ac h
 refine Z2 (Ao 2 [.o 1 0] I J1 (By (L1 _ (.v (.func (.func 120) #[] #[])) I (fun x => Mg x) (fun x r h => Se x r h) _ f) (Z3 (Av h I ?_ ?_))))
 intro g h
 refine Ak I (aA g0 ?_)
 cases io h
 exact Z8 pr
 intro g h
 refine Z7 ?_
 subst e
 refine Ab fun y i => Z5 ?_
 obtain ⟨A, j, h⟩ := Ac h
 refine Z2 (Ao 2 [.o 1 0] I J1 (By (Tq _ (.v (.func (.func 123) #[] #[])) I (fun x => some (Hz x)) (fun x r h => by obtain I := oi h; exact Sk x _ I) _ j) (Z3 (Av h I ?_ ?_))))
 intro k h
 refine Ak I (aA g0 ?_)
 cases io h
 exact Z8 pr
 intro k h
 refine Z7 ?_
 subst i
 refine Z5 (Z5 ?_)
 obtain ⟨B, l, h⟩ := Ac h
 refine Z2 (Ao 2 [.o 1 0] I J1 (By (Ss _ (.v (.func (.func 126) #[] #[])) I (fun x => some (Ia x)) (fun x r h => by obtain I := oi h; exact Tn x _ I) _ l) (Z3 (Av h I ?_ ?_))))
 intro n h
 refine Ak I (aA g0 ?_)
 cases io h
 exact Z8 pr
 intro n h
 refine Z7 (Am (fun s ob => s = [(2, .v (.bool ((Bf a.Vapour (-100000) 100000000) && (Bf a.Settle 0 100))))] ∧ ob = []) [] J ?_ ?_)
 refine Z2 (Ao 2 [.o 1 0] I J1 (By (Bq a.Vapour (-100000) 100000000 _ I) (Af 1 I ?_)))
 rcases bt ((Bf a.Vapour (-100000) 100000000)) with b | b
 refine Aj 15 I b (Ao 2 [.o 1 0] I J1 (Bu I I I (By (Bq a.Settle 0 100 _ I) (Af 2 I (Z3 ?_)))))
 exact lf I2 ⟨(Dl (by simp only [b, bz])), J⟩ [] I
 refine Aj 15 I b (Af 5 I (Z3 ?_))
 exact lf I2 ⟨(Dl (by simp only [b, bz])), J⟩ [] I
 rintro s ob ⟨rfl, rfl⟩
 cases io h
 exact Z8 pr
theorem S1 (a : Bt) (r : Bool) (h : Mn a = some r) : ACalls Ae 92 [.v (.string a)] [] (RB r) := by
 refine Aa Tryz.func92 I I I fun C hC => ?_
 refine Ak I (Z5 ?_)
 obtain ⟨d, b, h⟩ := Ac h
 refine Z2 (Af 1 I (By (L9 _ _ b) (Af 2 I (Z3 ?_))))
 cases io h
 exact Z8 pr
theorem Tj (a : Nw) (r : Int) (h : H8 a = some r) : ACalls Ae 73 [.agg (Ap a)] [] (RV (.V r)) := by
 refine Aa Tryz.func73 I I I fun C hC => ?_
 refine Ab fun Y i => Z2 (Z4 [] I (Cg (Ap a) 6 fun d => Af 1 I (Z3 ?_)))
 subst i
 refine Ab fun Z j => Z5 ?_
 obtain ⟨r4, l, h⟩ := Ac h
 refine Z2 (Ao 1 [.o 0 0] I J1 (By (S7 _ _ l) (Af 1 I (Z3 (Av h I ?_ ?_)))))
 intro n h
 refine Ak I (aA g0 ?_)
 cases io h
 exact Z8 pr
 intro n h
 refine Z7 ?_
 subst j
 refine Am (fun s ob => ∃ (e : Unit), H8.J1 a e = some r ∧ s = [] ∧ ob = [O2 d [Ap a]]) [(1, _)] J1 ?_ ?_
 refine Ab fun ab t => ?_
 obtain ⟨ac, u, h⟩ := Ac h
 refine Z2 (Ao 1 [.o 0 0] I J1 (Z4 [] I (Az I I I (Ma _ _ u) dS ?_)))
 rintro _ _ ⟨rfl, rfl⟩
 refine Af 1 I (Z3 ?_)
 subst t
 refine Z6 ?_
 have w : (4 : Nat) ≤ 9223372036854775806 := by decide
 obtain ⟨ad, y, f⟩ := Ac h
 refine Fg y [(1, _), (9, _)] J2 (fun (b : Nat) (g : Unit) s ob => s = [(10, .V (b : Int))] ∧ ob = [O2 d [Ap a]]) ⟨I, I⟩ ⟨I, J⟩ ⟨[0], I, by decide⟩ ?_ ?_
 rintro b g ae s ob A ⟨rfl, rfl⟩ h B
 have D : decide ((b : Int) < 4) = true := decide_eq_true (by omega)
 refine Ak I (Ab fun af E => B0 I D (Z7 ?_))
 subst E
 refine Z5 (Z6 (Z5 ?_))
 obtain ⟨F, ⟨G, H⟩, h⟩ := Bg h
 refine Z2 (Bi (I6 (m := F.1) I I I I I I I G H (hlen := Arr.h _)) I (Af 1 I (Z3 (Z5 ?_))))
 obtain ⟨ag, K, h⟩ := Ac h
 refine Z2 (Af 1 I (By (S9 _ (.v (.func (.func 92) #[] #[])) I (fun x => Mn x) (fun x r h => S1 x r h) _ K) (Z3 (Av h I ?_ ?_))))
 intro M h
 refine Ak I ?_
 obtain rfl := B _ (oi h).symm
 have h := f
 have h := Ef h
 refine aA g0 ?_
 cases io h
 exact Z8 pr
 intro M h
 refine Z7 (Z2 (Ao 2 [.k 0 (b + 1 : Nat)] I ⟨A5 A w, J⟩ ?_))
 cases io h
 exact Z3 ⟨_, _, _, I, I2, J3, [0], I, by decide⟩
 rintro g s ob ⟨rfl, rfl⟩ he
 subst he
 have h := Eo f
 have N : decide (((4 : Nat) : Int) < 4) = false := by simp
 exact Ak I (Ab fun ah ai => B7 I N (aB (lg ⟨(), h, I2⟩ [0])))
 rintro s ob ⟨e, h, rfl, rfl⟩
 refine Z5 (Z6 (Ab fun aj O => ?_))
 obtain ⟨ak, P, h⟩ := Ac h
 refine Z2 (Ao 1 [.o 0 0] I J1 (By (Sh _ _ P) (Af 1 I (Z3 ?_))))
 subst O
 refine Av h I ?_ ?_
 intro Q h
 refine Ak I (aA g0 ?_)
 cases io h
 exact Z8 pr
 intro Q h
 refine Ab fun al R => ?_
 obtain ⟨am, S, h⟩ := Ac h
 refine Z2 (Ao 1 [.o 0 0] I J1 (By (Tv _ _ S) (Af 2 I (Z3 ?_))))
 subst R
 refine Av h I ?_ ?_
 intro U h
 refine Ak I (aA g0 ?_)
 cases io h
 exact Z8 pr
 intro U h
 refine Z5 ?_
 obtain ⟨an, W, h⟩ := Ac h
 refine Z2 (Ao 1 [.o 0 0] I J1 (By (Tr _ _ W) (Af 2 I (Z3 (Av h I ?_ ?_)))))
 intro X h
 refine Ak I (aA g0 ?_)
 cases io h
 exact Z8 pr
 intro X h
 refine Z7 (Ak I (aA g0 ?_))
 cases io h
 exact Z8 pr
end Go.Proofs.YtkhcdkioehdndaaGreatDoor
