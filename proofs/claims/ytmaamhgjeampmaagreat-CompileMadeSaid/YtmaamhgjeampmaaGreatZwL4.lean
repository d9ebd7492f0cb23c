/- Walks that show what functions of the program compute; printed by a program of ours. No condition. -/
import Derived.Test.YtmaamhgjeampmaaGreatZwL3
import Derived.Test.YtmaamhgjeampmaaGreatZwL0
import Derived.Test.YtmaamhgjeampmaaGreatZwL2
import Derived.Test.YtmaamhgjeampmaaGreatZwD
set_option maxRecDepth 100000
namespace Go.Proofs.YtmaamhgjeampmaaGreat
open Go.Aw
set_option linter.unusedVariables false
set_option linter.unusedSimpArgs false
set_option maxHeartbeats 4000000
abbrev Yr : PL := sl 27 0 (.still 28 (sl 3 30 (.act 27 (.still 29 (.still 33 (.still 34 .nil))))))
abbrev cU : PL := .act 8 (.act 9 (.still 10 (.drop 11 .nil)))
abbrev rE : PL := .act 7 (.still 8 (.act 11 (sl 3 12 (.act 15 (.act 16 (.still 17 (.drop 18 .nil)))))))
abbrev rA : PL := .still 20 (.act 21 (.act 22 (.act 23 .nil)))
abbrev jY : PL := sl 17 0 (.drop 17 .nil)
theorem cB (e : Plan) (r : Plan) (h : Ow e = some r) : ACalls Ai 83 [.agg (Ak e)] [] (fun x new => ∃ (j : Value) (k : Value) (n : Value), x = .agg [.v j, .v k, .v n] ∧ new = [U0 j r.Rates, U0 k r.Ports, U1 n r.Pumps]) := by
 refine Ag Tryz.func83 I I I fun C hC => ?_
 unfold Ow at h
 refine Aa fun G A => vH (vJ [] I (Bh (Ak e) 3 fun H => vJ [] I (Bm W0 3 fun B => vI ?_)))
 subst A
 refine Ah (fun s ob => ∃ (a : Li × Li × (List Bool)) (b : Value) (c : Value) (d : Value), Ow.J1 a = some r ∧ s = [] ∧ ob = [O1 B [[.v b, .v c, .v d]], U0 b a.1, U0 c a.2.1, U1 d a.2.2]) [(2, _)] J1 ?_ ?_
 obtain ⟨q, D, h⟩ := Ac h
 obtain ⟨t, E, h⟩ := Ac h
 obtain ⟨u, F, h⟩ := Ac h
 refine Bi (.still 1 (.still 2 (.still 5 (.still 6 (.still 9 (.still 10 (.par [(0, []), (3, [0]), (4, []), (7, [4]), (8, []), (11, [8])] (.still 12 (.act 13 .nil))))))))) [0] [_] I (Br 6 [.o 1 0, .o 3 0, .o 5 0] I J3 (AP.any [⟨0, [], 3, .lt 3 1⟩, ⟨3, [0], 6, .ap 0 3 1 (q.map rI)⟩, ⟨4, [], 7, .lt 3 1⟩, ⟨7, [4], 10, .ap 4 3 1 (t.map rI)⟩, ⟨8, [], 11, .lt 4 1⟩, ⟨11, [8], 14, .ap 8 4 1 (u.map rB)⟩] I ⟨⟨_, I, I, I, fun _ => vW (sz := 1) (es := ([] : Li).map rI) I I I I I I I I I I I dS fun v => ⟨_, I, ⟨v, I⟩, I⟩⟩, ⟨_, I, I, I, fun _ _ _ => vV (la := []) (fr := rI) 0 I D fun v => ⟨v, I2⟩⟩, ⟨_, I, I, I, fun _ => vW (sz := 1) (es := ([] : Li).map rI) I I I I I I I I I I I dS fun v => ⟨_, I, ⟨v, I⟩, I⟩⟩, ⟨_, I, I, I, fun _ _ _ => vV (la := []) (fr := rI) 0 I E fun v => ⟨v, I2⟩⟩, ⟨_, I, I, I, fun _ => vW (sz := 1) (es := ([] : List Bool).map rB) I I I I I I I I I I I dS fun v => ⟨_, I, ⟨v, I⟩, I⟩⟩, ⟨_, I, I, I, fun _ _ _ => vV (la := []) (fr := rB) 0 I F fun v => ⟨v, I2⟩⟩, J⟩ ?_))
 intro _ _ f w _ _ g y _ _ i z
 exact wA 2 I fun w => wA 3 I fun y => wA 4 I fun z => Lh I (Bd (l := [.v f, .v g, .v i]) Dj (Bu I I (A6 w) I (Bu I I (A6 y) I (Bu I I (A6 z) I (Eb))))) I (vK [1] I I I (A3 1 0 0 [[.v f, .v g, .v i]] I (An (vI (lg ⟨(q, t, u), f, g, i, h, I2⟩ [1, 2, 3, 4])))))
 rintro s ob ⟨a, b, c, d, h, rfl, rfl⟩
 refine Cd [1, 2, 3, 0] I ?_
 obtain rfl := oi h
 exact vO ⟨.inr I, [_], [U0 b a.1, U0 c a.2.1, U1 d a.2.2], ⟨⟨3, _, _, _, _, _, _, _, I5⟩, J⟩, Cy I (Cy I (Cy I (Cf))), ⟨b, c, d, I2⟩⟩
theorem iB (a : Nw) (b : Plan) (r : Bool) (h : Lq a b = some r) : ACalls Ai 101 [.agg (Ab a), .agg (Ak b)] [] (RB r) := by
 refine Ag Tryz.func101 I I I fun C hC => ?_
 unfold Lq at h
 refine Aa fun Q w => vH (vJ [] I (Bh (Ab a) 6 fun g => vJ [] I (Bh (Ak b) 3 fun i => Af 1 I (vI ?_))))
 subst w
 refine Ah (fun s ob => ∃ (j : Unit), Lq.J1 j = some r ∧ s = [] ∧ ob = []) [] J ?_ ?_
 refine Aj I (vN ?_)
 obtain ⟨R, y, k⟩ := Ac h
 refine Bo y (K2 2 3) J2 (fun (e : Int) s ob => s = [(5, .V e)] ∧ ob = [O0 g [Ab a], O1 i [Ak b]]) ⟨I, I⟩ ⟨I, J⟩ (pk [0, 1]) ?_
 rintro e A s ob ⟨rfl, rfl⟩ h n
 refine Aa fun S B => Bl [.o 2 0, .l 3 (a.Stations.length : Int)] I ⟨A8, I, J⟩ (Ao h I ?_ ?_)
 intro D h
 refine vL ?_
 subst B
 refine Ah (fun s ob => ∃ (p : Unit), Lq.J3 e p = some A ∧ s = [] ∧ ob = [O0 g [Ab a], O1 i [Ak b]]) (K3 2 3 5) J3 ?_ ?_
 refine vN (Aa fun U E => ?_)
 obtain ⟨t, ⟨F, G⟩, h⟩ := Ba h
 refine Hm [.o 1 1, .x 3 t.1 (rB t.2)] I ⟨⟨F, Ae G⟩, I, J⟩ ?_
 subst E
 refine Ao h I ?_ ?_
 intro H h
 refine Aa fun W K => ?_
 obtain ⟨u, ⟨M, N⟩, h⟩ := Ba h
 obtain ⟨f, O, h⟩ := Ac h
 refine Bi (pd 14 0 [8]) [0, 1] [_, _] I (Br 8 [.o 0 0, .o 1 1, .o 3 0, .x 5 u.1 (Bn u.2)] I ⟨⟨M, Ae N⟩, I, I, I, J⟩ (wE I (Px _ _ _ _ O) (A9 5 I (An (vI ?_)))))
 subst K
 refine D2 37 ((f.2 != 0) || (f.1 == 0)) ?_ ?_
 refine vH (Af 3 I ?_)
 rcases bt ((f.2 != 0)) with d | d
 exact Ad 34 I d (Af 3 I (vI (jf (by simp only [d, bz]) I I I2)))
 exact Ad 34 I d (Af 3 I (vI (jf (by simp only [d, bz]) I I I2)))
 refine Ao h I ?_ ?_
 intro P h
 refine Aj I ?_
 obtain rfl := n _ (oi h).symm
 have h := k
 have h := Dn h
 refine vP g0 ?_
 cases io h
 exact vO pr
 intro P h
 exact vL (lg ⟨(), h, I2⟩ [0, 1])
 intro H h
 exact vL (lg ⟨(), h, I2⟩ [0, 1])
 rintro s ob ⟨p, h, rfl, rfl⟩
 unfold Lq.J3 at h
 refine vH (Af 3 I ?_)
 cases io h
 exact vI ⟨_, _, _, I, I2, J3, pk [0, 1]⟩
 intro D h
 obtain rfl := n _ (oi h).symm
 have h := k
 have h := Do h
 exact vQ (lg ⟨(), h, I2⟩ [])
 rintro s ob ⟨j, h, rfl, rfl⟩
 unfold Lq.J1 at h
 refine Aj I ?_
 cases io h
 exact vO pr
theorem gG (b : Nw) (a : Desk) (r : Int) (h : Is b a = some r) : ACalls Ai 60 [.agg (Ab b), .agg (Bs a)] [] (RV (.V r)) := by
 refine Ag Tryz.func60 I I I fun C hC => ?_
 refine Aa fun y1 F => vH (vJ [] I (Bh (Ab b) 6 fun j => vJ [] I (Bh (Bs a) 4 fun k => Af 1 I (vI ?_))))
 subst F
 refine Aa fun y4 G => vM ?_
 obtain ⟨r5, H, h⟩ := Ac h
 refine vH (Al 1 [.o 0 0] I J1 (vU (Kv _ _ H) (Af 1 I (vI (Aj I (Ao h I ?_ ?_))))))
 intro K h
 refine Aj I (vP g0 ?_)
 cases io h
 exact vO pr
 intro K h
 refine vL ?_
 subst G
 refine Aa fun y8 M => vM ?_
 obtain ⟨r9, N, h⟩ := Ac h
 refine vH (Al 3 [.o 0 0, .o 2 1] I J2 (vU (jD _ _ _ N) (Af 1 I (vI (Aj I (Ao h I ?_ ?_))))))
 intro O h
 refine Aj I (vP g0 ?_)
 cases io h
 exact vO pr
 intro O h
 refine vL ?_
 subst M
 refine Aa fun ak P => vM ?_
 obtain ⟨al, Q, h⟩ := Ac h
 refine vH (Al 2 [.o 0 0] I J1 (vS (Bv 1 0 1 I I I I I (y := .agg (Ak a.Plan)) I) I (vU (Ii _ _ _ Q) (Af 1 I (vI (Aj I (Ao h I ?_ ?_)))))))
 intro R h
 refine Aj I (vP g0 ?_)
 cases io h
 exact vO pr
 intro R h
 refine vL ?_
 subst P
 refine Aa fun am S => ?_
 obtain ⟨an, U, h⟩ := Ac h
 obtain ⟨p, W, h⟩ := Ac h
 refine vH (Af 1 I (vS (Bv 1 0 1 I I I I I (y := .agg (Ak a.Plan)) I) I (vJ [] I (Bp I I I (Pp _ _ U) dS ?_))))
 rintro _ _ ⟨rfl, rfl⟩
 refine vJ [] I (Bp I I I (Pu _ _ W) dS ?_)
 rintro _ _ ⟨t, rfl, rfl⟩
 refine Af 1 I (vI ?_)
 subst S
 refine Ah (fun s ob => ∃ (u : Unit), Is.J1 b a u = some r ∧ s = [] ∧ ob = [O0 j [Ab b], O4 k [Bs a]]) (K2 2 3) J2 ?_ ?_
 refine Aj I (vN ?_)
 obtain ⟨ao, X, w⟩ := Ac h
 refine Bo X (K3 2 3 8) J3 (fun (l : Int) s ob => s = [(9, .V l)] ∧ ob = [O0 j [Ab b], O4 k [Bs a], U1 t p]) ⟨I, I⟩ ⟨I, J⟩ (pk N3) ?_
 rintro l Y s ob ⟨rfl, rfl⟩ h A
 refine Aa fun ap Z => vM (vH (Af 2 I (vS (By 2 I I I I) I (Af 1 I (vI (Ao h I ?_ ?_))))))
 intro aa h
 refine vL ?_
 subst Z
 refine vM (vN (Ah (fun s ob => ∃ (n : Bool), Is.J3 l n = some Y ∧ s = [(60, .v (.bool n))] ∧ ob = [O0 j [Ab b], O4 k [Bs a], U1 t p]) (K4 2 3 8 9) J4 ?_ ?_))
 obtain ⟨i, ⟨ab, B⟩, h⟩ := Ba h
 refine vH (Af 2 I (vS (Bb 2 (m := i.1) I I I I I I I ab (Ae B)) I (vS (Au 2 i.1 0 I I I (Ae B) I (y := .v (.bool i.2)) I) I (Af 1 I ?_))))
 rcases bt (i.2) with f | f
 have h := B0 f h
 obtain ⟨e, ⟨D, E⟩, h⟩ := Ba h
 refine Ad 43 I f (Al 5 [.o 1 1, .x 3 e.1 (A5 e.2)] I ⟨⟨D, Ae E⟩, I, J⟩ (Bf I I I (vU (Vl e.2 _ I) (Af 2 I ?_))))
 rcases bt ((!(Iq e.2))) with g | g
 have h := B0 g h
 exact Ad 51 I g (Af 9 I (vI (lg ⟨true, h, I2⟩ N3)))
 have h := B8 g h
 exact Ad 51 I g (Al 9 [.o 1 1, .x 3 e.1 (A5 e.2)] I ⟨⟨D, Ae E⟩, I, J⟩ (vI (lg ⟨(!e.2.Want), h, I2⟩ N3)))
 have h := B8 f h
 exact Ad 43 I f (Af 8 I (Ce I I dS (Ce I I dS (Ce I I dS (Ce I I dS (Ce I I dS (Ce I I dS (Ce I I dS (Af 2 I (vI (lg ⟨false, h, I2⟩ N3)))))))))))
 rintro s ob ⟨n, h, rfl, rfl⟩
 refine Ao h I ?_ ?_
 intro ac h
 refine Aj I ?_
 obtain rfl := A _ (oi h).symm
 have h := w
 have h := Dn h
 refine vP g0 ?_
 cases io h
 exact vO pr
 intro ac h
 refine vL (vH (Af 3 I ?_))
 cases io h
 exact vI ⟨_, _, _, I, I2, J4, pk N3⟩
 intro aa h
 obtain rfl := A _ (oi h).symm
 have h := w
 have h := Do h
 exact vQ (lg ⟨(), h, I2⟩ [0, 1])
 rintro s ob ⟨u, h, rfl, rfl⟩
 refine vM (vM ?_)
 obtain ⟨aq, ad, h⟩ := Ac h
 refine vH (Al 2 [.o 0 0] I J1 (vS (Bv 1 0 1 I I I I I (y := .agg (Ak a.Plan)) I) I (vU (iB _ _ _ ad) (Af 1 I (vI (Ao h I ?_ ?_))))))
 intro ae h
 refine Aj I (vP g0 ?_)
 cases io h
 exact vO pr
 intro ae h
 refine vL (Aj I (vP g0 ?_))
 cases io h
 exact vO pr
theorem iY (d : Nw) (t : Int) (r : Desk × Int) (h : lI d t = some r) : ACalls Ai 37 [.agg (Ab d), .V t] [] (RV (.tup [.agg (Bs r.1), .V r.2])) := by
 refine Ag Tryz.func37 I I I fun C hC => ?_
 refine Aa fun y1 S => vH (vJ [] I (Bh (Ab d) 6 fun D => vJ [] I (Bm W1 4 fun u => Af 1 I (vI ?_))))
 subst S
 refine Aa fun y4 U => vM ?_
 obtain ⟨r5, W, h⟩ := Ac h
 refine vH (Al 1 [.o 0 0] I J1 (vU (Kv _ _ W) (Af 1 I (vI (Aj I (Ao h I ?_ ?_))))))
 intro X h
 refine vM (vH (Ch (Bd (l := W1) I9 I) I (Af 1 I (vJ [1] I (A3 1 0 0 [W1] I (Af 1 I (vI (vP (Av [] (K := []) I [] J (ob' := [O0 D [Ab d], O4 u [[.list 4 ([].map A5), .list 1 ([].map rI), .list 1 ([].map rI), .list 1 ([].map rB)]]]) (.cons (.same _) (.cons (.arr (.cons (.nil _) (.cons (.nil _) (.cons (.nil _) (.cons (.nil _) (.rest _)))))) (.rest _)))) (Cd [1] I ?_)))))))))
 cases io h
 exact vO ⟨.inr I, [_, _], [], ⟨⟨0, _, _, _, _, _, _, _, I5⟩, I, J⟩, Cf, I2⟩
 intro X h
 refine vL ?_
 subst U
 refine Aa fun y8 Y => D2 20 (decide (t < 1) || decide (t > 60)) ?_ ?_
 refine vH (Af 3 I ?_)
 rcases bt (decide (t < 1)) with A | A
 exact Ad 17 I A (Af 3 I (vI (jf (by simp only [A, bz]) I I I2)))
 exact Ad 17 I A (Af 3 I (vI (jf (by simp only [A, bz]) I I I2)))
 refine Ao h I ?_ ?_
 intro Z h
 refine vM (vH (Ch (Bd (l := W1) I9 I) I (vJ [1] I (A3 1 0 0 [W1] I (Af 1 I (vI (vP (Av [] (K := []) I [] J (ob' := [O0 D [Ab d], O4 u [[.list 4 ([].map A5), .list 1 ([].map rI), .list 1 ([].map rI), .list 1 ([].map rB)]]]) (.cons (.same _) (.cons (.arr (.cons (.nil _) (.cons (.nil _) (.cons (.nil _) (.cons (.nil _) (.rest _)))))) (.rest _)))) (Cd [1] I ?_))))))))
 cases io h
 exact vO ⟨.inr I, [_, _], [], ⟨⟨0, _, _, _, _, _, _, _, I5⟩, I, J⟩, Cf, I2⟩
 intro Z h
 refine vL ?_
 subst Y
 refine Ah (fun s ob => ∃ (a : Li × Li × (List Bool)) (w : Nat) (j : Value) (k : Value) (n : Value), lI.J1 d t a = some r ∧ s = [(7, .P w)] ∧ ob = [O0 D [Ab d], O4 u [W1], U0 j a.1, U0 k a.2.1, U1 n a.2.2, O4 w [[.N, .v j, .v k, .v n]]]) (K3 1 2 4) J3 ?_ ?_
 obtain ⟨O, ⟨ay, aa, ab, ac⟩, h⟩ := Fo h
 obtain ⟨P, ⟨az, ad, ae, af⟩, h⟩ := Fo h
 obtain ⟨Q, ⟨a0, ag, ah, ai⟩, h⟩ := Fo h
 refine Bi (sl 3 0 (sl 3 4 (sl 3 8 (.par [(3, []), (7, []), (11, []), (14, []), (12, [3, 7, 11]), (13, [12])] (.act 15 .nil))))) [0] [_] I (Br 9 [.o 1 0, .l 2 (d.Segments.length : Int), .o 4 0, .l 5 (d.Ports.length : Int), .o 7 0, .l 8 (d.Stations.length : Int)] I ⟨A8, I, A8, I, A8, I, J⟩ (AP.any [⟨3, [], 25, .us 3 1 (O.map rI)⟩, ⟨7, [], 29, .us 3 1 (P.map rI)⟩, ⟨11, [], 33, .us 4 1 (Q.map rB)⟩, ⟨14, [], 7, .box 39 4 (W1)⟩, ⟨12, [3, 7, 11], 34, .fn fun l => match l with | [.v e, .v g, .v i] => .agg [.v e, .v g, .v i] | _ => .tup []⟩, ⟨13, [12], 35, .fn fun l => match l with | [.agg [.v e, .v g, .v i]] => .agg [.N, .v e, .v g, .v i] | _ => .tup []⟩] I ⟨⟨_, I, I, I, fun _ => Dq (sz := 1) I I I I I I I I I I aa ab (D5 (f := rI) ac I) dS fun v => ⟨_, I, ⟨v, I⟩, I⟩⟩, ⟨_, I, I, I, fun _ => Dq (sz := 1) I I I I I I I I I I ad ae (D5 (f := rI) af I) dS fun v => ⟨_, I, ⟨v, I⟩, I⟩⟩, ⟨_, I, I, I, fun _ => Dq (sz := 1) I I I I I I I I I I ag ah (D5 (f := rB) ai I) dS fun v => ⟨_, I, ⟨v, I⟩, I⟩⟩, ⟨_, I, I, I, fun _ => Bm W1 4 fun b => ⟨_, I, ⟨b, I⟩, I⟩⟩, ⟨_, I, I, I, fun e G g H i M _ => Ay (wB (Bd (l := [.v e, .v g, .v i]) Dj (Bu I I (A6 G) I (Bu I I (A6 H) I (Bu I I (A6 M) I (Eb)))))) dS ⟨_, I, I, nb⟩⟩, ⟨_, I, I, I, fun e G g H i M _ => Ay (wB (Bd (l := [.N, .v e, .v g, .v i]) I9 I)) dS ⟨_, I, I, nb⟩⟩, J⟩ ?_))
 intro e G g H i M aj
 exact AP.same 34 (.agg [.v e, .v g, .v i]) I (AP.same 35 (.agg [.N, .v e, .v g, .v i]) I (vK [5] I I I (A3 5 0 0 [[.N, .v e, .v g, .v i]] I (An (vI (lg ⟨(O, P, Q), aj, e, g, i, h, I2⟩ N6))))))
 rintro s ob ⟨a, w, j, k, n, h, rfl, rfl⟩
 unfold lI.J1 at h
 refine Ah (fun s ob => ∃ (B : List Valve) (y : Value), lI.J2 a B = some r ∧ s = [] ∧ ob = [O4 u [W1], U0 j a.1, U0 k a.2.1, U1 n a.2.2, O4 w [[.v y, .v j, .v k, .v n]], U4 y B]) (K2 4 7) J2 ?_ ?_
 refine Aj I (vN (vP (A7 74 4) ?_))
 obtain ⟨a1, ak, al⟩ := Ac h
 refine Bo ak (K4 1 2 4 7) J4 (fun (E : (List Valve) × Int) s ob => ∃ (F : Value), s = [(8, .V E.2)] ∧ ob = [O0 D [Ab d], O4 u [W1], U0 j a.1, U0 k a.2.1, U1 n a.2.2, O4 w [[.v F, .v j, .v k, .v n]], U4 F E.1]) ⟨nS, I2⟩ ⟨I, J⟩ (pk N7) ?_
 rintro E a2 s ob ⟨F, rfl, rfl⟩ h am
 refine Aa fun a3 an => vM (vH (Al 2 [.o 1 0] I J1 (vU (Wl d _ I) (Af 1 I (vI (Ao h I ?_ ?_))))))
 intro ao h
 refine vL ?_
 subst an
 refine vM (vN ?_)
 obtain ⟨a4, aq, h⟩ := Ac h
 refine vH (Al 3 [.o 1 5] I J1 (Ch (Bd (l := [.V t, .V 0, .v (.bool false), .v (.bool false)]) Tn I) I (vJ [] I (vR 4 (([(⟨t, 0, false, false⟩ : Valve)] : List Valve).map A5) (vJ [6] I (vV 6 I aq fun R => Af 1 I (wC 6 I fun ar => vJ [5] I (vT 5 0 0 (es' := [[.v R, .v j, .v k, .v n]]) I I I I I I (A6 ar) I (A4 I) I I (vI (vH (Af 3 I ?_)))))))))))
 cases io h
 exact vI ⟨_, _, _, I, ⟨R, I2⟩, J5, pk N7⟩
 intro ao h
 obtain rfl := am _ (oi h).symm
 have h := al
 exact vQ (lg ⟨E.1, F, h, I2⟩ [1, 2, 3, 4, 5, 6])
 rintro s ob ⟨B, y, h, rfl, rfl⟩
 unfold lI.J2 at h
 refine vM (vH (Al 1 [.o 0 4] I J1 (vJ [0] I (A3 0 0 0 [[.v y, .v j, .v k, .v n]] I (Af 1 I (vI (vP (Av [1, 2, 3, 5] (K := [U0 j a.1, U0 k a.2.1, U1 n a.2.2, U4 y B]) I [] J (ob' := [O4 u [[Q8 B, Q0 a.1, Q0 a.2.1, Q2 a.2.2]], O4 w [[.v y, .v j, .v k, .v n]]]) (.cons (.arr (.cons (.us 3 I) (.cons (.us 0 I) (.cons (.us 1 I) (.cons (.us 2 I) (.rest _)))))) (.rest _))) (Cd [0] I ?_))))))))
 cases io h
 exact vO ⟨.inr I, [_, _], [], ⟨⟨0, _, _, _, _, _, _, _, I5⟩, I, J⟩, Cf, I2⟩
theorem iH (a : Li) (r : KS) (h : Xl a = some r) : ACalls Ai 11 [Q0 a] [] (fun x new => ∃ (c : Nat), x = .P c ∧ new = [O2 c [Ca r]]) := by
 refine Ag Tryz.func11 I I I fun C hC => ?_
 refine Aj I (vM ?_)
 obtain ⟨b, e, h⟩ := Ac h
 obtain ⟨f, g, i, j, k, n, o⟩ := Yx e
 refine vH (Al 4 [.l 2 (a.length : Int)] I ⟨A8, J⟩ (Ch (pY f g 0 I I I I I (uT i) ⟨_, _, I, j⟩ I k n o) I (Ch (Bd (l := [Q0 b, .V 0]) bZ I) I (vJ [] I (Bh [Q0 b, .V 0] 2 fun d => Af 1 I (vI ?_))))))
 obtain rfl := oi h
 exact vO ⟨.inr I, [_], [O2 d [[Q0 b, .V 0]]], J1, Cy I (Cf), ⟨d, I2⟩⟩
theorem fZ (b : Nat) (a : KS) (r : Int × KS) (h : Wy a = some r) : ACalls Ai 75 [.P b] [O2 b [Ca a]] (E7 1 fun x os new => x = .V r.1 ∧ os = [O2 b [Ca r.2]] ∧ new = []) := by
 refine Ag Tryz.func75 I I I fun C hC => ?_
 refine Aj I (Aa fun j d => Qw (pd 10 0 []) [0] [_] [.o 3 0, .o 7 0, .l 8 (a.L_.length : Int)] I I ⟨A8, I, I, J⟩ (Ao h I ?_ ?_))
 intro e h
 refine Aj I ?_
 obtain rfl := oi h
 exact vO ⟨.inr I, [_], [O2 b [Ca a]], J1, Cy I (Cf), ⟨[O2 b [Ca a]], [], I5⟩⟩
 intro e h
 refine vL ?_
 subst d
 refine Aa fun k f => vH (Al 7 [.o 3 0] I J1 (vJ [0] I (A3 0 0 1 [[Q0 a.L_, .V (wr (a.At + 1))]] I (vI ?_))))
 subst f
 refine vM ?_
 obtain ⟨c, ⟨g, i⟩, h⟩ := Ba h
 refine Ys (pd 12 0 []) [0] [_] [.o 3 0, .o 7 0, .x 9 c.1 (rI c.2)] I I ⟨⟨g, Ae i⟩, I, I, J⟩ ?_
 obtain rfl := oi h
 exact vO ⟨.inr I, [_], [O2 b [[Q0 a.L_, .V (wr (a.At + 1))]]], J1, Cy I (Cf), ⟨[O2 b [[Q0 a.L_, .V (wr (a.At + 1))]]], [], I5⟩⟩
theorem Bz (a : Nat) (b : KS) (d : Int) (r : Int × KS) (h : Da b d = some r) : ACalls Ai 27 [.P a, .V d] [O2 a [Ca b]] (E7 1 fun x os new => x = .V r.1 ∧ os = [O2 a [Ca r.2]] ∧ new = []) := by
 refine Ag Tryz.func27 I I I fun C hC => ?_
 refine Aj I (vM ?_)
 obtain ⟨e, f, h⟩ := Ac h
 obtain ⟨i, g, h⟩ := Ac h
 refine vH (Af 1 I (vJ [0] I (A1 [0] (fZ a _ _ f) ?_)))
 refine Af 1 I (vU (Wk _ _ _ g) (Af 1 I (vI ?_)))
 obtain rfl := oi h
 exact vO ⟨.inr I, [_], [O2 a [Ca e.2]], J1, Cy I (Cf), ⟨[O2 a [Ca e.2]], [], I5⟩⟩
theorem C2 (b : Bt) (a : Int) (r : Bt) (h : G3 b a = some r) : ACalls Ai 40 [.v (.string b), .V a] [] (RV (.v (.string r))) := by
 refine Ag Tryz.func40 I I I fun C hC => ?_
 refine Aj I (vM ?_)
 obtain ⟨g, d, h⟩ := Ac h
 obtain ⟨i, e, h⟩ := Ac h
 refine vH (Al 4 [.f 2 (.V (a.tmod 26))] I ⟨wB (Km (c := (a.tmod 26)) I I ⟨by decide, I⟩), J⟩ (Ch (nA (c := IntKind.u8.wrap (wr (97 + (a.tmod 26)))) I I I I I) I (vJ [] I (vW (sz := 1) (es := ([IntKind.u8.wrap (wr (97 + (a.tmod 26)))] : Li).map (rK .u8)) I I I I I I I I I I I dS fun j => vJ [] I (jL 0 d I I I I I I I I dS (Ch (Zy I I (Zs e)) I (Af 1 I (vI (vP g0 ?_)))))))))
 cases io h
 exact vO pr
theorem Am (a : Nat) (c : KS) (b : Li) (r : Int × KS) (h : Di c b = some r) : ACalls Ai 38 [.P a, Q0 b] [O2 a [Ca c]] (E7 1 fun x os new => x = .V r.1 ∧ os = [O2 a [Ca r.2]] ∧ new = []) := by
 refine Ag Tryz.func38 I I I fun C hC => ?_
 refine Aj I (vM ?_)
 obtain ⟨d, f, h⟩ := Ac h
 obtain ⟨e, ⟨g, i⟩, h⟩ := Ba h
 refine vH (Al 4 [.l 3 (b.length : Int)] I ⟨A8, J⟩ (vJ [0] I (A1 [0] (Bz a _ _ _ f) ?_)))
 refine Al 3 [.x 0 e.1 (rI e.2)] I ⟨⟨g, Ae i⟩, J⟩ (vI ?_)
 obtain rfl := oi h
 exact vO ⟨.inr I, [_], [O2 a [Ca d.2]], J1, Cy I (Cf), ⟨[O2 a [Ca d.2]], [], I5⟩⟩
theorem Fk (a : Nat) (b : KS) (c : Int) (d : Int) (r : Int × KS) (h : H4 b c d = some r) : ACalls Ai 39 [.P a, .V c, .V d] [O2 a [Ca b]] (E7 1 fun x os new => x = .V r.1 ∧ os = [O2 a [Ca r.2]] ∧ new = []) := by
 refine Ag Tryz.func39 I I I fun C hC => ?_
 refine Aj I (vM ?_)
 obtain ⟨e, f, h⟩ := Ac h
 refine vH (Af 6 I (vJ [0] I (A1 [0] (Bz a _ _ _ f) ?_)))
 refine Af 2 I (vI ?_)
 obtain rfl := oi h
 exact vO ⟨.inr I, [_], [O2 a [Ca e.2]], J1, Cy I (Cf), ⟨[O2 a [Ca e.2]], [], I5⟩⟩
theorem Vv (b : Nat) (Y : KS) (S : Int) (F : Int) (G : Int) (r : Sg × KS) (h : Oa Y S F G = some r) : ACalls Ai 41 [.P b, .V S, .V F, .V G] [O2 b [Ca Y]] (E7 1 fun x os new => x = .agg (Ap r.1) ∧ os = [O2 b [Ca r.2]] ∧ new = []) := by
 refine Ag Tryz.func41 I I I fun C hC => ?_
 unfold Oa at h
 refine Aa fun y1 aj => vH (vJ [] I (Bm W4 7 fun y => vI ?_))
 subst aj
 refine Ah (fun s ob => ∃ (a : Li × Int × Int × Int), Oa.J1 S a = some r ∧ s = [(2, .V a.2.2.1), (3, .V a.2.2.2)] ∧ ob = [O2 b [[Q0 a.1, .V a.2.1]], O9 y [W4]]) (K3 0 1 8) J3 ?_ ?_
 refine vM ?_
 obtain ⟨H, ak, h⟩ := Ac h
 refine vH (Af 1 I (vJ [0] I (A1 [0] (Bz b _ _ _ ak) ?_)))
 refine Af 1 I (vI (Ao h I ?_ ?_))
 intro al h
 exact Yl I (lg ⟨(H.2.L_, H.2.At, G, F), h, I2⟩ [0, 1])
 intro al h
 exact vL (lg ⟨(H.2.L_, H.2.At, F, G), h, I2⟩ [0, 1])
 rintro s ob ⟨a, h, rfl, rfl⟩
 refine Aa fun y7 am => ?_
 obtain ⟨g, an, h⟩ := Ac h
 obtain ⟨e, ao, h⟩ := Ac h
 obtain ⟨i, aq, h⟩ := Ac h
 obtain ⟨j, ar, h⟩ := Ac h
 refine vH (Af 1 I (vU (C2 _ _ _ an) (Af 3 I (vJ [] I (vR 1 (([1, 2, 7, 20, 60, 200, 1000] : Li).map rI) (vJ [0] I (A1 [0] (Am b _ _ _ ao) ?_)))))))
 refine Af 1 I (vJ [] I (vR 1 (([0, 1, 5, 1000] : Li).map rI) (vJ [0] I (A1 [0] (Am b _ _ _ aq) ?_))))
 refine Af 1 I (vJ [] I (vR 1 (([0, 50, 1000, 100000] : Li).map rI) (vJ [0] I (A1 [0] (Am b _ _ _ ar) ?_))))
 refine Ch (Bd (l := [.v (.string g), .V a.2.2.1, .V a.2.2.2, .V e.1, .V i.1, .V j.1, .N]) Tm I) I (vJ [] I (Bm W4 7 fun M => vJ [2] I (A3 2 0 0 [[.v (.string g), .V a.2.2.1, .V a.2.2.2, .V e.1, .V i.1, .V j.1, .N]] I (vI ?_))))
 subst am
 refine Aa fun bd au => ?_
 obtain ⟨k, av, h⟩ := Ac h
 refine vH (Af 1 I (vJ [] I (vR 1 (([1000000, 6000000, 100000000] : Li).map rI) (vJ [0] I (A1 [0] (Am b _ _ _ av) ?_)))))
 refine Af 1 I (vI ?_)
 subst au
 refine Aa fun be aw => ?_
 obtain ⟨Z, ax, h⟩ := Ac h
 obtain ⟨bf, aa, h⟩ := Ac h
 refine Bi (sl 3 0 (.still 4 (.act 3 (.still 5 (.act 6 (.act 7 (.still 8 (.drop 9 .nil)))))))) [2] [_] I (Br 4 [.o 1 0] I J1 (vK [0] I I I (A1 [0] (Fk b _ _ _ _ ax) ?_)))
 refine Lh I (Bd (l := [.V 0, .V Z.1, .V k.1]) F6 I) I (vK [] I I I (vR 3 (([(⟨0, Z.1, k.1⟩ : Point)] : List Point).map C1) (vK [] I I I (Ts I I I I I I I I (AppSrc.list I) (Zv (Ep aa).1) (Zu (Ep aa).2) dS fun ab => A9 1 I (wA 3 I fun ay => vZ [2] I I I (vT 2 0 6 (es' := [[.v (.string g), .V a.2.2.1, .V a.2.2.2, .V e.1, .V i.1, .V j.1, .v ab]]) I I I I I I (A6 ay) I (A4 I) I I (An (vI ?_))))))))
 subst aw
 refine Ah (fun s ob => ∃ (A : Li × Int × (List Point)) (U : Value), Oa.J2 a g e i j k A = some r ∧ s = [] ∧ ob = [O2 b [[Q0 A.1, .V A.2.1]], O9 y [W4], O9 M [[.v (.string g), .V a.2.2.1, .V a.2.2.2, .V e.1, .V i.1, .V j.1, .v U]], qP U A.2.2]) (K4 0 8 9 10) J4 ?_ ?_
 refine Aj I (vN ?_)
 obtain ⟨bg, az, ac⟩ := Ac h
 refine Bo az (K4 0 8 9 10) J4 (fun (f : Li × Int × (List Point) × Int) s ob => ∃ (n : Value), s = [(11, .V f.2.2.2)] ∧ ob = [O2 b [[Q0 f.1, .V f.2.1]], O9 y [W4], O9 M [[.v (.string g), .V a.2.2.1, .V a.2.2.2, .V e.1, .V i.1, .V j.1, .v n]], qP n f.2.2.1]) ⟨ab, I2⟩ ⟨I, J⟩ (pk N4) ?_
 rintro f a0 s ob ⟨n, rfl, rfl⟩ h ad
 unfold Oa.B3 at h
 refine Aa fun bh a1 => Ah (fun s ob => ∃ (u : Li × Int × Bool), Oa.J4 e k f u = some a0 ∧ s = [(51, .v (.bool u.2.2))] ∧ ob = [O2 b [[Q0 u.1, .V u.2.1]], O9 y [W4], O9 M [[.v (.string g), .V a.2.2.1, .V a.2.2.2, .V e.1, .V i.1, .V j.1, .v n]], qP n f.2.2.1]) (K5 0 8 9 10 11) J5 ?_ ?_
 rcases bt (decide ((f.2.2.1.length : Int) < 7)) with B | B
 have h := B0 B h
 obtain ⟨W, a2, h⟩ := Ac h
 refine vH (Al 2 [.o 1 2] I J1 (vS (By 3 I I I I) I (Af 2 I (Ad 47 I B (Af 1 I (Bf I I I (vJ [0] I (A1 [0] (Bz b _ _ _ a2) ?_))))))))
 exact Af 2 I (vI (lg ⟨(W.2.L_, W.2.At, decide (W.1 > 0)), h, I2⟩ N4))
 have h := B8 B h
 exact vH (Al 2 [.o 1 2] I J1 (vS (By 3 I I I I) I (Af 2 I (Ad 47 I B (Af 4 I (vI (lg ⟨(f.1, f.2.1, false), h, I2⟩ N4)))))))
 rintro s ob ⟨u, h, rfl, rfl⟩
 refine Ao h I ?_ ?_
 intro a3 h
 refine vL ?_
 subst a1
 refine vN (Aa fun bi a4 => ?_)
 obtain ⟨w, a5, h⟩ := Ac h
 refine vH (Af 2 I (vJ [0] I (A1 [0] (Fk b _ _ _ _ a5) ?_)))
 refine Af 2 I (vI ?_)
 subst a4
 refine Aa fun bj a6 => Bl [.o 2 2] I J1 (Ao h I ?_ ?_)
 intro a7 h
 obtain rfl := ad _ (oi h).symm
 have h := ac
 exact vQ (lg ⟨(w.2.L_, w.2.At, f.2.2.1), n, h, I2⟩ N4)
 intro a7 h
 refine vL ?_
 subst a6
 obtain ⟨O, ae, h⟩ := Ac h
 obtain ⟨P, af, h⟩ := Ac h
 obtain ⟨Q, ag, h⟩ := Ac h
 obtain ⟨bk, ah, h⟩ := Ac h
 refine Bi (sl 4 0 (.still 5 (.still 9 (.still 10 (.two 4 6 (.act 6 rE) (.act 4 rE)))))) [2] [_] I (Br 7 [.o 1 0] I J1 (vY ?_ ?_))
 refine vK [0] I I I (A1 [0] (Fk b _ _ _ _ ae) ?_)
 refine vK [] I I I (vR 1 (([1, 1, 10] : Li).map rI) (vK [0] I I I (A1 [0] (Am b _ _ _ af) ?_)))
 refine A9 1 I (vK [0] I I I (A1 [0] (Bz b _ _ _ ag) ?_))
 refine A9 2 I (Lh I (Bd (l := [.V (wr (f.2.2.2 + w.1)), .V (wr (O.1 * P.1)), .V (wr (k.1 - (wr (Q.1 * 1000))))]) F6 I) I (vK [] I I I (vR 3 (([(⟨wr (f.2.2.2 + w.1), wr (O.1 * P.1), wr (k.1 - (wr (Q.1 * 1000)))⟩ : Point)] : List Point).map C1) (vK [3] I I I (vV 3 I ah fun D => A9 1 I (wA 3 I fun X => vZ [2] I I I (vT 2 0 6 (es' := [[.v (.string g), .V a.2.2.1, .V a.2.2.2, .V e.1, .V i.1, .V j.1, .v D]]) I I I I I I (A6 X) I (A4 I) I I (An ?_))))))))
 cases io h
 exact vI ⟨_, _, _, I, ⟨D, I2⟩, J5, pk N4⟩
 refine vK [] I I I (vR 1 (([1, 1, 10] : Li).map rI) (vK [0] I I I (A1 [0] (Fk b _ _ _ _ ae) ?_)))
 refine vK [0] I I I (A1 [0] (Am b _ _ _ af) ?_)
 refine A9 1 I (vK [0] I I I (A1 [0] (Bz b _ _ _ ag) ?_))
 refine A9 2 I (Lh I (Bd (l := [.V (wr (f.2.2.2 + w.1)), .V (wr (O.1 * P.1)), .V (wr (k.1 - (wr (Q.1 * 1000))))]) F6 I) I (vK [] I I I (vR 3 (([(⟨wr (f.2.2.2 + w.1), wr (O.1 * P.1), wr (k.1 - (wr (Q.1 * 1000)))⟩ : Point)] : List Point).map C1) (vK [3] I I I (vV 3 I ah fun D => A9 1 I (wA 3 I fun X => vZ [2] I I I (vT 2 0 6 (es' := [[.v (.string g), .V a.2.2.1, .V a.2.2.2, .V e.1, .V i.1, .V j.1, .v D]]) I I I I I I (A6 X) I (A4 I) I I (An ?_))))))))
 cases io h
 exact vI ⟨_, _, _, I, ⟨D, I2⟩, J5, pk N4⟩
 intro a3 h
 obtain rfl := ad _ (oi h).symm
 have h := ac
 exact vQ (lg ⟨(u.1, u.2.1, f.2.2.1), n, h, I2⟩ N4)
 rintro s ob ⟨A, U, h, rfl, rfl⟩
 refine vM ?_
 obtain ⟨E, a8, h⟩ := Ac h
 obtain ⟨ai, a9, h⟩ := Ac h
 refine Bi (sl 5 0 (.still 6 (.act 5 (.still 7 cU)))) [2] [_] I (Br 6 [.o 1 0, .o 3 0] I J2 (vK [0] I I I (A1 [0] (Fk b _ _ _ _ a8) ?_)))
 refine Lh I (Bd (l := [.V e.1, .V E.1, .V k.1]) F6 I) I (vK [] I I I (vR 3 (([(⟨e.1, E.1, k.1⟩ : Point)] : List Point).map C1) (vK [3] I I I (vV 3 I a9 fun R => A9 1 I (wA 3 I fun ba => vZ [2] I I I (vT 2 0 6 (es' := [[.v (.string g), .V a.2.2.1, .V a.2.2.2, .V e.1, .V i.1, .V j.1, .v R]]) I I I I I I (A6 ba) I (A4 I) I I (An (vI (vM (vH (Al 1 [.o 0 2] I J1 (vJ [1] I (A3 1 0 0 [[.v (.string g), .V a.2.2.1, .V a.2.2.2, .V e.1, .V i.1, .V j.1, .v R]] I (vI ?_))))))))))))))
 refine vP (Av [3] (K := [qP R ai]) I [] J (ob' := [O2 b [Ca E.2], O9 y [[.v (.string g), .V a.2.2.1, .V a.2.2.2, .V e.1, .V i.1, .V j.1, uL ai]], O9 M [[.v (.string g), .V a.2.2.1, .V a.2.2.2, .V e.1, .V i.1, .V j.1, .v R]]]) (.cons (.same _) (.cons (.arr (.cons (.refl _) (.cons (.refl _) (.cons (.refl _) (.cons (.refl _) (.cons (.refl _) (.cons (.refl _) (.cons (.us 0 I) (.rest _))))))))) (.rest _)))) (Cd [0, 1] I ?_)
 obtain rfl := oi h
 exact vO ⟨.inr I, [_], [O2 b [Ca E.2]], ⟨⟨1, _, _, _, _, _, _, _, I5⟩, J⟩, Cy I (Cf), ⟨[O2 b [Ca E.2]], [], I5⟩⟩
theorem V7 (a : Int) (r : Int) (h : Iv a = r) : ACalls Ai 77 [.V a] [] (RV (.V r)) := by
 refine Ag Tryz.func77 I I I fun C hC => ?_
 unfold Iv at h
 refine Aj I (Aj I ?_)
 obtain rfl := h
 exact vO pr
theorem hO (b : Plan) (r : Plan) (h : Xi b = some r) : ACalls Ai 78 [.agg (Ak b)] [] (RV (.agg (Ak r))) := by
 refine Ag Tryz.func78 I I I fun C hC => ?_
 refine Aa fun y1 O => vH (vJ [] I (Bh (Ak b) 3 fun B => vJ [] I (Bm W0 3 fun g => vI ?_)))
 subst O
 refine Aa fun y4 P => ?_
 obtain ⟨d, Q, h⟩ := Ac h
 refine vH (vJ [] I (vW (sz := 1) (es := ([] : List Bool).map rB) I I I I I I I I I I I dS fun v5 => Al 2 [.o 1 0] I J1 (vJ [2] I (vV 2 I Q fun a => wC 2 I fun R => Ch (Bd (l := [.N, .N, .v a]) Dj (Bu I I (A6 R) I (Eb))) I (vJ [] I (Bm W0 3 fun i => vJ [3] I (A3 3 0 0 [[.N, .N, .v a]] I (vI ?_))))))))
 subst P
 refine Ah (fun s ob => ∃ (e : Li) (c : Value), Xi.J1 b d e = some r ∧ s = [] ∧ ob = [O1 B [Ak b], O1 g [W0], U1 a d, O1 i [[.v c, .N, .v a]], U0 c e]) (K3 1 2 3) J3 ?_ ?_
 refine Bl [.o 1 0, .l 2 (b.Rates.length : Int)] I ⟨A8, I, J⟩ (vN (Cu 12 I fun S => vP (A7 3 1) ?_))
 obtain ⟨aq, U, W⟩ := Ac h
 refine Dm U (K4 1 2 3 13) J4 (fun (u : Nat) (w : Li) s ob => ∃ (j : Value), s = [(14, .V (u : Int))] ∧ ob = [O1 B [Ak b], O1 g [W0], U1 a d, O1 i [[.v j, .N, .v a]], U0 j w]) ⟨nS, I2⟩ ⟨I, J⟩ (pk N5) ?_ ?_
 rintro u D w ar s ob X E ⟨j, rfl, rfl⟩ h
 have Y := Df E
 refine Aj I (Aa fun au Z => Cl I Y (vL ?_))
 subst Z
 refine vM (vN (Aj I ?_))
 obtain ⟨av, aa, h⟩ := Ac h
 refine Bi (sl 8 0 cU) [3, 0] [_, _] I (Br 8 [.o 1 0, .o 3 1, .x 5 u (rI D)] I ⟨⟨I, Ae X⟩, I, I, J⟩ (vK [] I I I (vR 1 (([wr (0 - D)] : Li).map rI) (vK [4] I I I (vV 4 I aa fun F => A9 1 I (wA 4 I fun ab => vZ [3] I I I (vT 3 0 0 (es' := [[.v F, .N, .v a]]) I I I I I I (A6 ab) I (A4 I) I I (An (vI (vH (Al 2 [.k 0 (u + 1 : Nat)] I ⟨Bj E S, J⟩ ?_)))))))))))
 cases io h
 exact vI (lg ⟨F, I2⟩ N5)
 rintro w s ob ⟨j, rfl, rfl⟩ he
 subst he
 have h := W
 have ac := Dg b.Rates.length
 exact Aj I (Aa fun aw ax => Cm I ac (vQ (lg ⟨w, j, h, I2⟩ N5)))
 rintro s ob ⟨e, c, h, rfl, rfl⟩
 unfold Xi.J1 at h
 refine Ah (fun s ob => ∃ (n : Li) (f : Value), Xi.J2 d e n = some r ∧ s = [] ∧ ob = [O1 g [W0], U1 a d, O1 i [[.v c, .v f, .v a]], U0 c e, U0 f n]) (K2 2 3) J2 ?_ ?_
 refine Bl [.o 1 0, .l 2 (b.Ports.length : Int)] I ⟨A8, I, J⟩ (vN (Cu 30 I fun ad => vP (A7 3 1) ?_))
 obtain ⟨ay, ae, af⟩ := Ac h
 refine Dm ae (K4 1 2 3 31) J4 (fun (y : Nat) (A : Li) s ob => ∃ (t : Value), s = [(32, .V (y : Int))] ∧ ob = [O1 B [Ak b], O1 g [W0], U1 a d, O1 i [[.v c, .v t, .v a]], U0 c e, U0 t A]) ⟨nS, I2⟩ ⟨I, J⟩ (pk N6) ?_ ?_
 rintro y G A az s ob ag H ⟨t, rfl, rfl⟩ h
 have ah := Df H
 refine Aj I (Aa fun a0 ai => Cl I ah (vL ?_))
 subst ai
 refine vM (vN (Aj I ?_))
 obtain ⟨a1, aj, h⟩ := Ac h
 refine Bi (sl 8 0 cU) [3, 0] [_, _] I (Br 8 [.o 1 0, .o 3 1, .x 5 y (rI G)] I ⟨⟨I, Ae ag⟩, I, I, J⟩ (vK [] I I I (vR 1 (([wr (0 - G)] : Li).map rI) (vK [5] I I I (vV 5 I aj fun M => A9 1 I (wA 5 I fun ak => vZ [3] I I I (vT 3 0 1 (es' := [[.v c, .v M, .v a]]) I I I I I I (A6 ak) I (A4 I) I I (An (vI (vH (Al 2 [.k 0 (y + 1 : Nat)] I ⟨Bj H ad, J⟩ ?_)))))))))))
 cases io h
 exact vI (lg ⟨M, I2⟩ N6)
 rintro A s ob ⟨t, rfl, rfl⟩ he
 subst he
 have h := af
 have al := Dg b.Ports.length
 exact Aj I (Aa fun a2 a3 => Cm I al (vQ (lg ⟨A, t, h, I2⟩ [1, 2, 3, 4, 5])))
 rintro s ob ⟨n, f, h, rfl, rfl⟩
 unfold Xi.J2 at h
 refine vM (vH (Al 1 [.o 0 2] I J1 (vJ [0] I (A3 0 0 0 [[.v c, .v f, .v a]] I (vI (vP (Av [1, 3, 4] (K := [U1 a d, U0 c e, U0 f n]) I [] J (ob' := [O1 g [[Q0 e, Q0 n, Q2 d]], O1 i [[.v c, .v f, .v a]]]) (.cons (.arr (.cons (.us 1 I) (.cons (.us 2 I) (.cons (.us 0 I) (.rest _))))) (.rest _))) (Cd [0] I ?_)))))))
 cases io h
 exact vO ⟨.inr I, [_], [], ⟨⟨0, _, _, _, _, _, _, _, I5⟩, J⟩, Cf, I2⟩
theorem V4 (i : Nat) (a3 : KS) (j : Nw) (r : Plan × KS) (h : Oj a3 j = some r) : ACalls Ai 31 [.P i, .agg (Ab j)] [O2 i [Ca a3]] (E7 1 fun x os new => x = .agg (Ak r.1) ∧ os = [O2 i [Ca r.2]] ∧ new = []) := by
 refine Ag Tryz.func31 I I I fun C hC => ?_
 unfold Oj at h
 refine Aa fun y1 co => vH (vJ [] I (Bh (Ab j) 6 fun G => vJ [] I (Bm W0 3 fun D => vI ?_)))
 subst co
 refine Ah (fun s ob => ∃ (S : Li × Li) (w : Nat) (a : Value) (c : Value), Oj.J1 a3 j S = some r ∧ s = [(5, .P w)] ∧ ob = [O2 i [Ca a3], O0 G [Ab j], O1 D [W0], U0 a S.1, U0 c S.2, O1 w [[.v a, .v c, .N]]]) (K3 0 3 4) J3 ?_ ?_
 obtain ⟨bx, ⟨fg, cp, cq, cr⟩, h⟩ := Fo h
 obtain ⟨bz, ⟨fh, ct, cu, cv⟩, h⟩ := Fo h
 refine Bi (sl 3 0 (sl 3 4 (.par [(3, []), (7, []), (9, []), (8, [3, 7])] (.act 10 .nil)))) [1] [_] I (Br 6 [.o 1 0, .l 2 (j.Segments.length : Int), .o 4 0, .l 5 (j.Ports.length : Int)] I ⟨A8, I, A8, I, J⟩ (AP.any [⟨3, [], 25, .us 3 1 (bx.map rI)⟩, ⟨7, [], 29, .us 3 1 (bz.map rI)⟩, ⟨9, [], 5, .box 37 3 (W0)⟩, ⟨8, [3, 7], 30, .fn fun l => match l with | [.v ae, .v af] => .agg [.v ae, .v af, .N] | _ => .tup []⟩] I ⟨⟨_, I, I, I, fun _ => Dq (sz := 1) I I I I I I I I I I cp cq (D5 (f := rI) cr I) dS fun v => ⟨_, I, ⟨v, I⟩, I⟩⟩, ⟨_, I, I, I, fun _ => Dq (sz := 1) I I I I I I I I I I ct cu (D5 (f := rI) cv I) dS fun v => ⟨_, I, ⟨v, I⟩, I⟩⟩, ⟨_, I, I, I, fun _ => Bm W0 3 fun b => ⟨_, I, ⟨b, I⟩, I⟩⟩, ⟨_, I, I, I, fun ae b1 af b4 _ => Ay (wB (Bd (l := [.v ae, .v af, .N]) Dj (Bu I I (A6 b1) I (Bu I I (A6 b4) I (Eb))))) dS ⟨_, I, I, nb⟩⟩, J⟩ ?_))
 intro ae b1 af b4 cw
 exact AP.same 30 (.agg [.v ae, .v af, .N]) I (vK [5] I I I (A3 5 0 0 [[.v ae, .v af, .N]] I (An (vI (lg ⟨(bx, bz), cw, ae, af, h, I2⟩ N6)))))
 rintro s ob ⟨S, w, a, c, h, rfl, rfl⟩
 unfold Oj.J1 at h
 refine Ah (fun s ob => ∃ (p : Li × Int × (List Bool)) (g : Value), Oj.J2 j S p = some r ∧ s = [] ∧ ob = [O2 i [[Q0 p.1, .V p.2.1]], O0 G [Ab j], O1 D [W0], U0 a S.1, U0 c S.2, O1 w [[.v a, .v c, .v g]], U1 g p.2.2]) (K4 0 3 4 5) J4 ?_ ?_
 refine Aj I (vN (vP (A7 4 1) ?_))
 obtain ⟨fi, cx, cy⟩ := Ac h
 refine Bo cx (K4 0 3 4 5) J4 (fun (Y : Li × Int × (List Bool) × Int) s ob => ∃ (a4 : Value), s = [(6, .V Y.2.2.2)] ∧ ob = [O2 i [[Q0 Y.1, .V Y.2.1]], O0 G [Ab j], O1 D [W0], U0 a S.1, U0 c S.2, O1 w [[.v a, .v c, .v a4]], U1 a4 Y.2.2.1]) ⟨nS, I2⟩ ⟨I, J⟩ (pk N7) ?_
 rintro Y fj s ob ⟨a4, rfl, rfl⟩ h cz
 refine Aa fun fk c1 => Bl [.o 2 1, .l 3 (j.Stations.length : Int)] I ⟨A8, I, J⟩ (Ao h I ?_ ?_)
 intro c2 h
 refine vL ?_
 subst c1
 refine vM (vN ?_)
 obtain ⟨c3, c4, h⟩ := Ac h
 obtain ⟨fl, c5, h⟩ := Ac h
 refine Bi (sl 3 0 (.act 3 (.still 4 (.act 5 (.act 6 (.still 7 (.drop 8 .nil))))))) [5] [_] I (Br 3 [.o 1 0] I J1 (vK [0] I I I (A1 [0] (Bz i _ _ _ c4) ?_)))
 refine A9 1 I (vK [] I I I (vR 1 (([(c3.1 == 0)] : List Bool).map rB) (vK [6] I I I (vV 6 I c5 fun b5 => A9 1 I (wA 6 I fun c6 => vZ [5] I I I (vT 5 0 2 (es' := [[.v a, .v c, .v b5]]) I I I I I I (A6 c6) I (A4 I) I I (An (vI (vH (Af 3 I ?_))))))))))
 cases io h
 exact vI ⟨_, _, _, I, ⟨b5, I2⟩, J5, pk N7⟩
 intro c2 h
 obtain rfl := cz _ (oi h).symm
 have h := cy
 exact vQ (lg ⟨(Y.1, Y.2.1, Y.2.2.1), a4, h, I2⟩ N7)
 rintro s ob ⟨p, g, h, rfl, rfl⟩
 refine Aa fun fm c7 => ?_
 obtain ⟨c8, c9, h⟩ := Ac h
 refine vH (Af 1 I (vJ [0] I (A1 [0] (Bz i _ _ _ c9) ?_)))
 refine Af 2 I (vI ?_)
 subst c7
 refine Ah (fun s ob => ∃ (u : Li × Int × Li × Li), Oj.J3 p c8 u = some r ∧ s = [] ∧ ob = [O2 i [[Q0 u.1, .V u.2.1]], O1 D [W0], U0 a u.2.2.1, U0 c u.2.2.2, O1 w [[.v a, .v c, .v g]], U1 g p.2.2]) (K3 4 5 7) J3 ?_ ?_
 refine Aa fun fo da => ?_
 obtain ⟨fp, db, h⟩ := Ac h
 refine vH (Af 1 I (vJ [0] I (A1 [0] (Bz i _ _ _ db) ?_)))
 refine Af 1 I (vI ?_)
 subst da
 refine vN ?_
 obtain ⟨fq, dc, dd⟩ := Ac h
 refine Bo dc (K5 0 3 4 5 7) J5 (fun (e : Li × Int × Li × Li × Int) s ob => s = [(8, .V e.2.2.2.2)] ∧ ob = [O2 i [[Q0 e.1, .V e.2.1]], O0 G [Ab j], O1 D [W0], U0 a e.2.2.1, U0 c e.2.2.2.1, O1 w [[.v a, .v c, .v g]], U1 g p.2.2]) ⟨I, I⟩ ⟨I, J⟩ (pk N7) ?_
 rintro e a5 s ob ⟨rfl, rfl⟩ h de
 refine Aa fun fr df => Aj I (Ao h I ?_ ?_)
 intro dg h
 refine vL ?_
 subst df
 refine Ah (fun s ob => ∃ (al : Li × Int × Li × Li), Oj.J5 e al = some a5 ∧ s = [] ∧ ob = [O2 i [[Q0 al.1, .V al.2.1]], O0 G [Ab j], O1 D [W0], U0 a al.2.2.1, U0 c al.2.2.2, O1 w [[.v a, .v c, .v g]], U1 g p.2.2]) (K6 0 3 4 5 7 8) J6 ?_ ?_
 refine vN (Aa fun fs dh => ?_)
 obtain ⟨bf, di, h⟩ := Ac h
 refine vH (Al 4 [.o 2 1, .l 3 (j.Ports.length : Int)] I ⟨A8, I, J⟩ (vJ [0] I (A1 [0] (Bz i _ _ _ di) ?_)))
 refine Af 1 I (vI ?_)
 subst dh
 refine Aa fun ft dj => ?_
 obtain ⟨bg, ⟨dk, dl⟩, h⟩ := Ba h
 obtain ⟨fu, dm, h⟩ := Ac h
 obtain ⟨A, dn, h⟩ := Ac h
 refine Bi (pd 13 0 [8, 9, 10]) [1] [_] I (Br 8 [.o 1 0, .x 3 bg.1 (Cc bg.2)] I ⟨⟨dk, Ae dl⟩, I, J⟩ (vK [] I I I (vR 1 (([1, 5, 30, 300] : Li).map rI) (vK [0] I I I (A1 [0] (Am i _ _ _ dm) ?_)))))
 refine vK [0] I I I (A1 [0] (Fk i _ _ _ _ dn) ?_)
 refine A9 2 I (An (vI ?_))
 subst dj
 refine Aa fun fv dp => Ah (fun s ob => ∃ (bh : Bool), Oj.J6 j e bf bg A bh = some a5 ∧ s = [(86, .v (.bool bh))] ∧ ob = [O2 i [Ca A.2], O0 G [Ab j], O1 D [W0], U0 a e.2.2.1, U0 c e.2.2.2.1, O1 w [[.v a, .v c, .v g]], U1 g p.2.2]) (K9 0 3 4 5 7 8 9 10 11) J9 ?_ ?_
 obtain ⟨Z, ⟨b6, a6⟩, h⟩ := Ba h
 refine vH (Al 3 [.o 1 5] I J1 (vS (Bb 4 (m := Z.1) I I I I I I I b6 (Ae a6)) I (vS (Au 4 Z.1 0 I I I (Ae a6) I (y := .V Z.2) I) I (Af 2 I ?_))))
 rcases bt (decide (Z.2 < 0)) with ay | ay
 have h := B0 ay h
 exact Ad 77 I ay (Af 9 I (vI (lg ⟨true, h, I2⟩ N7)))
 have h := B8 ay h
 exact Ad 77 I ay (Al 3 [.o 1 5] I J1 (Bf I I I (vS (Bb 4 (m := Z.1) I I I I I I I b6 (Ae a6)) I (Bf I I I (vS (Au 4 Z.1 0 I I I (Ae a6) I (y := .V Z.2) I) I (Af 4 I (vI (lg ⟨decide ((wr (Z.2 + A.1)) > 1000), h, I2⟩ N7))))))))
 rintro s ob ⟨bh, h, rfl, rfl⟩
 refine Ao h I ?_ ?_
 intro dq h
 exact vQ (lg ⟨(A.2.L_, A.2.At, e.2.2.1, e.2.2.2.1), h, I2⟩ N7)
 intro dq h
 refine vL ?_
 subst dp
 refine Aj I (Aj I (Ah (fun s ob => ∃ (E : Li × Int × Li × Int) (am : Value), Oj.J7 j e bf A E = some a5 ∧ s = [(12, .v am), (13, .V E.2.2.2)] ∧ ob = [O2 i [[Q0 E.1, .V E.2.1]], O0 G [Ab j], O1 D [W0], U0 a e.2.2.1, U0 c e.2.2.2.1, O1 w [[.v a, .v c, .v g]], U1 g p.2.2, U0 am E.2.2.1]) (K8 0 3 4 5 7 8 9 11) J8 ?_ ?_))
 refine vN (vP (A7 3 1) ?_)
 obtain ⟨fw, dr, bi⟩ := Ac h
 refine Bo dr (K8 0 3 4 5 7 8 9 11) J8 (fun (n : Li × Int × Int × Li × Int) s ob => ∃ (M : Value), s = [(10, .V n.2.2.1), (12, .v M), (13, .V n.2.2.2.2)] ∧ ob = [O2 i [[Q0 n.1, .V n.2.1]], O0 G [Ab j], O1 D [W0], U0 a e.2.2.1, U0 c e.2.2.2.1, O1 w [[.v a, .v c, .v g]], U1 g p.2.2, U0 M n.2.2.2.1]) ⟨nS, I2⟩ ⟨I, I, I, J⟩ (pk N8) ?_
 rintro n b7 s ob ⟨M, rfl, rfl⟩ h bj
 refine Aa fun fx ds => Aj I (Ao h I ?_ ?_)
 intro du h
 refine vL ?_
 subst ds
 refine vN (Ah (fun s ob => ∃ (F : Li × Int × Int), Oj.J12 j e A n F = some b7 ∧ s = [(13, .V F.2.2)] ∧ ob = [O2 i [[Q0 F.1, .V F.2.1]], O0 G [Ab j], O1 D [W0], U0 a e.2.2.1, U0 c e.2.2.2.1, O1 w [[.v a, .v c, .v g]], U1 g p.2.2, U0 M n.2.2.2.1]) (rM 0 3 4 5 7 8 9 10 11 12) oF ?_ ?_)
 refine Bl [.o 1 1, .l 2 (j.Ports.length : Int)] I ⟨A8, I, J⟩ (vN (Cu 90 I fun dv => ?_))
 obtain ⟨fy, dw, dx⟩ := Ac h
 refine Dm dw [(0, _), (3, _), (4, _), (5, _), (7, _), (8, _), (9, _), (10, _), (11, _), (12, _), (90, _), (91, _)] uW (fun (ag : Nat) (P : Li × Int × Int) s ob => s = [(92, .V (ag : Int)), (13, .V P.2.2)] ∧ ob = [O2 i [[Q0 P.1, .V P.2.1]], O0 G [Ab j], O1 D [W0], U0 a e.2.2.1, U0 c e.2.2.2.1, O1 w [[.v a, .v c, .v g]], U1 g p.2.2, U0 M n.2.2.2.1]) ⟨I, I⟩ ⟨I, I, J⟩ (pk N8) ?_ ?_
 rintro ag bk P b8 s ob dy b9 ⟨rfl, rfl⟩ h
 unfold Oj.B17 at h
 have dz := Df b9
 refine Aj I (Aa fun fz d0 => Cl I dz (vL ?_))
 subst d0
 refine Ah (fun s ob => ∃ (az : Li × Int × Int), Oj.J18 az = some b8 ∧ s = [(13, .V az.2.2)] ∧ ob = [O2 i [[Q0 az.1, .V az.2.1]], O0 G [Ab j], O1 D [W0], U0 a e.2.2.1, U0 c e.2.2.2.1, O1 w [[.v a, .v c, .v g]], U1 g p.2.2, U0 M n.2.2.2.1]) [(0, _), (3, _), (4, _), (5, _), (7, _), (8, _), (9, _), (10, _), (11, _), (12, _), (90, _), (91, _), (92, _)] uN ?_ ?_
 refine vN (Aa fun f0 d1 => vH (Al 3 [.x 1 ag (Cc bk)] I ⟨⟨I, Ae dy⟩, J⟩ (vJ [] I (Bm W6 3 fun f1 => Af 1 I (vJ [8] I (A3 8 0 0 [Cc bk] I (vI ?_)))))))
 subst d1
 refine Ah (fun s ob => ∃ (U : Li × Int × Bool), Oj.J19 ag P U = some b8 ∧ s = [(133, .v (.bool U.2.2))] ∧ ob = [O2 i [[Q0 U.1, .V U.2.1]], O0 G [Ab j], O1 D [W0], U0 a e.2.2.1, U0 c e.2.2.2.1, O1 w [[.v a, .v c, .v g]], U1 g p.2.2, U0 M n.2.2.2.1]) [(0, _), (3, _), (4, _), (5, _), (7, _), (8, _), (9, _), (10, _), (11, _), (12, _), (13, _), (14, _), (90, _), (91, _), (92, _)] uV ?_ ?_
 rcases bt ((bk.Node == n.2.2.1)) with W | W
 have h := B0 W h
 rcases bt (((ag : Int) != bf.1)) with aa | aa
 have h := B0 aa h
 obtain ⟨B, ⟨ah, O⟩, h⟩ := Ba h
 rcases bt (decide (B.2 ≤ 0)) with ai | ai
 have h := B0 ai h
 rcases bt (decide ((wr (B.2 - A.1)) ≥ (-1000))) with an | an
 have h := B0 an h
 rcases bt (decide ((n.2.2.2.1.length : Int) > 0)) with a0 | a0
 have h := B0 a0 h
 obtain ⟨bl, d2, h⟩ := Ac h
 refine vH (Al 5 [.o 1 8] I J1 (Ad 101 I W (Af 5 I (Ad 106 I aa (Al 3 [.o 1 5] I J1 (Bf I I I (vS (Bb 4 (m := B.1) I I I I I I I ah (Ae O)) I (Bf I I I (vS (Au 4 B.1 0 I I I (Ae O) I (y := .V B.2) I) I (Af 3 I (Ad 114 I ai (Al 3 [.o 1 5] I J1 ?_))))))))))))
 refine Bf I I I (vS (Bb 4 (m := B.1) I I I I I I I ah (Ae O)) I (Bf I I I (vS (Au 4 B.1 0 I I I (Ae O) I (y := .V B.2) I) I (Af 5 I (Ad 124 I an (Af 1 I (Bf I I I (vS (By 7 I I I I) I (Af 3 I (Ad 129 I a0 (Af 1 I (Bf I I I ?_))))))))))))
 refine vJ [0] I (A1 [0] (Bz i _ _ _ d2) ?_)
 exact Af 2 I (vI (lg ⟨(bl.2.L_, bl.2.At, (bl.1 == 0)), h, I2⟩ N8))
 have h := B8 a0 h
 refine vH (Al 5 [.o 1 8] I J1 (Ad 101 I W (Af 5 I (Ad 106 I aa (Al 3 [.o 1 5] I J1 (Bf I I I (vS (Bb 4 (m := B.1) I I I I I I I ah (Ae O)) I (Bf I I I (vS (Au 4 B.1 0 I I I (Ae O) I (y := .V B.2) I) I (Af 3 I (Ad 114 I ai (Al 3 [.o 1 5] I J1 ?_))))))))))))
 refine Bf I I I (vS (Bb 4 (m := B.1) I I I I I I I ah (Ae O)) I (Bf I I I (vS (Au 4 B.1 0 I I I (Ae O) I (y := .V B.2) I) I (Af 5 I (Ad 124 I an (Af 1 I (Bf I I I (vS (By 7 I I I I) I (Af 3 I (Ad 129 I a0 (Af 4 I (vI ?_))))))))))))
 rotate_left
 have h := B8 an h
 refine vH (Al 5 [.o 1 8] I J1 (Ad 101 I W (Af 5 I (Ad 106 I aa (Al 3 [.o 1 5] I J1 (Bf I I I (vS (Bb 4 (m := B.1) I I I I I I I ah (Ae O)) I (Bf I I I (vS (Au 4 B.1 0 I I I (Ae O) I (y := .V B.2) I) I (Af 3 I (Ad 114 I ai (Al 3 [.o 1 5] I J1 ?_))))))))))))
 refine Bf I I I (vS (Bb 4 (m := B.1) I I I I I I I ah (Ae O)) I (Bf I I I (vS (Au 4 B.1 0 I I I (Ae O) I (y := .V B.2) I) I (Af 5 I (Ad 124 I an (Af 9 I (vI ?_)))))))
 rotate_left
 have h := B8 ai h
 refine vH (Al 5 [.o 1 8] I J1 (Ad 101 I W (Af 5 I (Ad 106 I aa (Al 3 [.o 1 5] I J1 (Bf I I I (vS (Bb 4 (m := B.1) I I I I I I I ah (Ae O)) I (Bf I I I (vS (Au 4 B.1 0 I I I (Ae O) I (y := .V B.2) I) I (Af 3 I (Ad 114 I ai (Af 19 I ?_))))))))))))
 refine vI ?_
 rotate_left
 have h := B8 aa h
 refine vH (Al 5 [.o 1 8] I J1 (Ad 101 I W (Af 5 I (Ad 106 I aa (Af 27 I (vI ?_))))))
 rotate_left
 have h := B8 W h
 refine vH (Al 5 [.o 1 8] I J1 (Ad 101 I W (Af 32 I (vI ?_))))
 any_goals
  exact lg ⟨(P.1, P.2.1, false), h, I2⟩ N8
 rintro s ob ⟨U, h, rfl, rfl⟩
 refine Ao h I ?_ ?_
 intro d3 h
 exact Yl I (lg ⟨(U.1, U.2.1, (ag : Int)), h, I2⟩ N8)
 intro d3 h
 exact vL (lg ⟨(U.1, U.2.1, P.2.2), h, I2⟩ N8)
 rintro s ob ⟨az, h, rfl, rfl⟩
 unfold Oj.J18 at h
 refine vH (Al 2 [.k 0 (ag + 1 : Nat)] I ⟨Bj b9 dv, J⟩ ?_)
 cases io h
 exact vI (lg I2 N8)
 rintro P s ob ⟨rfl, rfl⟩ he
 subst he
 have h := dx
 have d4 := Dg j.Ports.length
 exact Aj I (Aa fun f2 f3 => Cm I d4 (vQ (lg ⟨(P.1, P.2.1, P.2.2), h, I2⟩ N8)))
 rintro s ob ⟨F, h, rfl, rfl⟩
 refine Aa fun f4 d5 => Aj I (Ao h I ?_ ?_)
 intro d6 h
 obtain rfl := bj _ (oi h).symm
 have h := bi
 exact vQ (lg ⟨(F.1, F.2.1, n.2.2.2.1, F.2.2), M, h, I2⟩ N8)
 intro d6 h
 refine vL ?_
 subst d5
 refine Aj I (Ah (fun s ob => ∃ (bm : Li) (bn : Value), Oj.J13 j n F bm = some b7 ∧ s = [(16, .v bn)] ∧ ob = [O2 i [[Q0 F.1, .V F.2.1]], O0 G [Ab j], O1 D [W0], U0 a e.2.2.1, U0 c e.2.2.2.1, O1 w [[.v a, .v c, .v g]], U1 g p.2.2, U0 M n.2.2.2.1, U0 bn bm]) [(0, _), (3, _), (4, _), (5, _), (7, _), (8, _), (9, _), (10, _), (11, _), (12, _), (13, _)] qR ?_ ?_)
 refine Bl [.o 1 1, .l 2 (j.Segments.length : Int)] I ⟨A8, I, J⟩ (vN (Cu 139 I fun d7 => vP (A7 3 1) ?_))
 obtain ⟨f5, d8, d9⟩ := Ac h
 refine Dm d8 [(0, _), (3, _), (4, _), (5, _), (7, _), (8, _), (9, _), (10, _), (11, _), (12, _), (13, _), (139, _), (140, _)] uN (fun (ao : Nat) (aj : Li) s ob => ∃ (ak : Value), s = [(141, .V (ao : Int)), (16, .v ak)] ∧ ob = [O2 i [[Q0 F.1, .V F.2.1]], O0 G [Ab j], O1 D [W0], U0 a e.2.2.1, U0 c e.2.2.2.1, O1 w [[.v a, .v c, .v g]], U1 g p.2.2, U0 M n.2.2.2.1, U0 ak aj]) ⟨nS, I2⟩ ⟨I, I, J⟩ (pk N9) ?_ ?_
 rintro ao Q aj ca s ob ea cb ⟨ak, rfl, rfl⟩ h
 unfold Oj.B14 at h
 have eb := Df cb
 refine Aj I (Aa fun f6 ec => Cl I eb (vL ?_))
 subst ec
 refine Ah (fun s ob => ∃ (bo : Li) (a7 : Value), Oj.J15 bo = some ca ∧ s = [(16, .v a7)] ∧ ob = [O2 i [[Q0 F.1, .V F.2.1]], O0 G [Ab j], O1 D [W0], U0 a e.2.2.1, U0 c e.2.2.2.1, O1 w [[.v a, .v c, .v g]], U1 g p.2.2, U0 M n.2.2.2.1, U0 a7 bo]) [(0, _), (3, _), (4, _), (5, _), (7, _), (8, _), (9, _), (10, _), (11, _), (12, _), (13, _), (139, _), (140, _), (141, _)] uP ?_ ?_
 refine vN (Aa fun f7 ed => vH (Al 3 [.x 1 ao (Ap Q)] I ⟨⟨I, Ae ea⟩, J⟩ (vJ [] I (Bm W4 7 fun f8 => Af 1 I (vJ [9] I (A3 9 0 0 [Ap Q] I (vI ?_)))))))
 subst ed
 refine Ah (fun s ob => ∃ (bp : Bool), Oj.J16 ao aj bp = some ca ∧ s = [(180, .v (.bool bp))] ∧ ob = [O2 i [[Q0 F.1, .V F.2.1]], O0 G [Ab j], O1 D [W0], U0 a e.2.2.1, U0 c e.2.2.2.1, O1 w [[.v a, .v c, .v g]], U1 g p.2.2, U0 M n.2.2.2.1, U0 ak aj]) [(0, _), (3, _), (4, _), (5, _), (7, _), (8, _), (9, _), (10, _), (11, _), (12, _), (13, _), (16, _), (17, _), (139, _), (140, _), (141, _)] ⟨I, I, I, I, I, I, I, I, I, I, I, I, I, I, I, I, J⟩ ?_ ?_
 rcases bt ((Q.From == n.2.2.1)) with ab | ab
 have h := B0 ab h
 rcases bt (decide ((wr ((wr (Q.From + Q.To)) - n.2.2.1)) > n.2.2.1)) with a1 | a1
 have h := B0 a1 h
 obtain ⟨aq, ⟨ee, bq⟩, h⟩ := Ba h
 refine Bw 3 aq.1 I bq fun ef => Bi Yr [9, 5, 3] [_, _, _] I (Br 5 [.o 1 0] I J1 (Bk 150 I ab (Br 17 [.o 7 0, .o 9 0] I J2 (Bk 167 I a1 (Br 3 [.o 1 1] I J1 (Ko I I I I ((Aq (m := aq.1) I I I I I ef I ee bq).yd) dS (Ko I I I I (Au 2 aq.1 0 I I I (Ae bq) I (y := .V aq.2) I) dS (Br 4 [.o 2 0] I J1 (H8 I (V7 aq.2 _ I) (A9 3 I (An ?_)))))))))))
 exact vI (lg ⟨decide ((wr ((Iv aq.2) + A.1)) ≤ (min 1000 Q.Capacity)), h, I2⟩ N9)
 have h := B8 a1 h
 exact Bi Yr [9] [_] I (Br 5 [.o 1 0] I J1 (Bk 150 I ab (Br 17 [.o 7 0, .o 9 0] I J2 (Bk 167 I a1 (A9 13 I (An (vI (lg ⟨false, h, I2⟩ N9))))))))
 have h := B8 ab h
 rcases bt ((Q.To == n.2.2.1)) with ar | ar
 have h := B0 ar h
 rcases bt (decide ((wr ((wr (Q.From + Q.To)) - n.2.2.1)) > n.2.2.1)) with a2 | a2
 have h := B0 a2 h
 obtain ⟨au, ⟨eg, br⟩, h⟩ := Ba h
 refine Bw 3 au.1 I br fun eh => Bi Yr [9, 5, 3] [_, _, _] I (Br 5 [.o 1 0] I J1 (Bk 150 I ab (Br 6 [.o 1 0] I J1 (Bk 156 I ar (Br 11 [.o 1 0, .o 3 0] I J2 (Bk 167 I a2 (Br 3 [.o 1 1] I J1 (Ko I I I I ((Aq (m := au.1) I I I I I eh I eg br).yd) dS (Ko I I I I (Au 2 au.1 0 I I I (Ae br) I (y := .V au.2) I) dS (Br 4 [.o 2 0] I J1 (H8 I (V7 au.2 _ I) ?_)))))))))))
 exact A9 3 I (An (vI (lg ⟨decide ((wr ((Iv au.2) + A.1)) ≤ (min 1000 Q.Capacity)), h, I2⟩ N9)))
 have h := B8 a2 h
 exact Bi Yr [9] [_] I (Br 5 [.o 1 0] I J1 (Bk 150 I ab (Br 6 [.o 1 0] I J1 (Bk 156 I ar (Br 11 [.o 1 0, .o 3 0] I J2 (Bk 167 I a2 (A9 13 I (An (vI (lg ⟨false, h, I2⟩ N9))))))))))
 have h := B8 ar h
 exact Bi Yr [9] [_] I (Br 5 [.o 1 0] I J1 (Bk 150 I ab (Br 6 [.o 1 0] I J1 (Bk 156 I ar (A9 24 I (An (vI (lg ⟨false, h, I2⟩ N9))))))))
 rintro s ob ⟨bp, h, rfl, rfl⟩
 refine Ao h I ?_ ?_
 intro ei h
 obtain ⟨ej, ek, h⟩ := Ac h
 exact vH (Af 2 I (vJ [] I (vR 1 (([(ao : Int)] : Li).map rI) (vJ [8] I (vV 8 I ek fun el => Af 1 I (vI (lg ⟨ej, el, h, I2⟩ N9)))))))
 intro ei h
 exact vL (lg ⟨aj, ak, h, I2⟩ N9)
 rintro s ob ⟨bo, a7, h, rfl, rfl⟩
 unfold Oj.J15 at h
 refine vH (Al 2 [.k 0 (ao + 1 : Nat)] I ⟨Bj cb d7, J⟩ ?_)
 cases io h
 exact vI (lg ⟨a7, I2⟩ N9)
 rintro aj s ob ⟨ak, rfl, rfl⟩ he
 subst he
 have h := d9
 have em := Dg j.Segments.length
 exact Aj I (Aa fun f9 ga => Cm I em (vQ (lg ⟨aj, ak, h, I2⟩ N9)))
 rintro s ob ⟨bm, bn, h, rfl, rfl⟩
 refine Aa fun gb en => vM (vH (Af 1 I (vS (By 8 I I I I) I (Af 1 I (vI (Ao h I ?_ ?_))))))
 intro eo h
 obtain rfl := bj _ (oi h).symm
 have h := bi
 exact vQ (lg ⟨(F.1, F.2.1, n.2.2.2.1, F.2.2), M, h, I2⟩ N8)
 intro eo h
 refine vL ?_
 subst en
 refine Aa fun gc ep => ?_
 obtain ⟨gd, eq, h⟩ := Ac h
 obtain ⟨a8, ⟨er, cc⟩, h⟩ := Ba h
 refine vH (Af 3 I (vS (By 8 I I I I) I (vJ [0] I (A1 [0] (Bz i _ _ _ eq) ?_))))
 refine vS (Bb 8 (m := a8.1) I I I I I I I er (Ae cc)) I (vS (Au 8 a8.1 0 I I I (Ae cc) I (y := .V a8.2) I) I (Af 1 I (vI ?_)))
 subst ep
 refine Aa fun ge es => ?_
 obtain ⟨gf, et, h⟩ := Ac h
 refine vH (Af 2 I (vJ [] I (vR 1 (([a8.2] : Li).map rI) (vJ [7] I (vV 7 I et fun eu => Af 1 I (vI ?_))))))
 subst es
 obtain ⟨a9, ⟨cd, ce⟩, h⟩ := Ba h
 refine Bi (pd 16 0 []) [1] [_] I (Br 16 [.o 1 0, .x 3 a9.1 (Ap a9.2), .o 7 0, .x 9 a9.1 (Ap a9.2)] I ⟨⟨cd, Ae ce⟩, I, ⟨cd, Ae ce⟩, I, J⟩ (An ?_))
 cases io h
 exact vI ⟨_, _, _, I, ⟨eu, I2⟩, qR, pk N8⟩
 intro du h
 obtain rfl := bj _ (oi h).symm
 have h := bi
 exact vQ (lg ⟨(n.1, n.2.1, n.2.2.2.1, n.2.2.2.2), M, h, I2⟩ N8)
 rintro s ob ⟨E, am, h, rfl, rfl⟩
 refine Aa fun gg ev => Aj I (Ao h I ?_ ?_)
 intro ew h
 exact vQ (lg ⟨(E.1, E.2.1, e.2.2.1, e.2.2.2.1), h, I2⟩ N7)
 intro ew h
 refine vL ?_
 subst ev
 refine Ah (fun s ob => ∃ (av : Li), Oj.J8 j e A E av = some a5 ∧ s = [] ∧ ob = [O2 i [[Q0 E.1, .V E.2.1]], O0 G [Ab j], O1 D [W0], U0 a e.2.2.1, U0 c av, O1 w [[.v a, .v c, .v g]], U1 g p.2.2, U0 am E.2.2.1]) (K8 0 3 4 5 7 8 11 12) J8 ?_ ?_
 obtain ⟨H, ⟨bs, X⟩, h⟩ := Ba h
 obtain ⟨R, ⟨ex, ba⟩, h⟩ := Ba h
 obtain ⟨aw, ⟨cf, bb⟩, h⟩ := Ba h
 refine Bw 4 H.1 I X fun ey => Bw 4 R.1 I ba fun ez => Bw 4 H.1 I X fun cg => Bi (sl 10 0 (.still 11 (sl 4 13 (.still 18 (.two 10 17 (.still 12 (.act 17 (.still 19 rA))) (.still 19 (.act 10 (.still 12 rA)))))))) [5] [_] I (Br 9 [.o 1 0, .o 4 0, .o 7 0] I J3 (vX I (Aq (m := H.1) I I I I I ey I bs X) I (Br 4 [.o 2 0] I J1 (vX I (Aq (m := R.1) I I I I I ez I ex ba) I (A9 1 I (vY ?_ ?_))))))
 exact vK [] I I I (Ay (Au 4 H.1 0 I I I (Ae X) I (y := .V H.2) I) dS (A9 1 I (vK [] I I I (Ay (Au 4 R.1 0 I I I (Ae ba) I (y := .V R.2) I) dS (A9 1 I (vX I (Aq (m := H.1) I I I I I cg I bs X) I (vK [4] I I I (Bg 4 H.1 0 I I I (Ae X) I I I I (A4 I) I (Ci (x := wr (H.2 + A.1)) I) (vK [] I I I (Ay (Bb 4 (m := aw.1) I I I I I I I cf (Ae bb)) dS (vK [4] I I I (Bg 4 aw.1 0 I I I (Ae bb) I I I I (A4 I) I (Ci (x := wr (R.2 - A.1)) I) (An (vI (lg ⟨((e.2.2.2.1.set H.1 (wr (H.2 + A.1))).set aw.1 (wr (R.2 - A.1))), h, I2⟩ N8)))))))))))))))
 exact vK [] I I I (Ay (Au 4 R.1 0 I I I (Ae ba) I (y := .V R.2) I) dS (A9 1 I (vK [] I I I (Ay (Au 4 H.1 0 I I I (Ae X) I (y := .V H.2) I) dS (A9 1 I (vX I (Aq (m := H.1) I I I I I cg I bs X) I (vK [4] I I I (Bg 4 H.1 0 I I I (Ae X) I I I I (A4 I) I (Ci (x := wr (H.2 + A.1)) I) (vK [] I I I (Ay (Bb 4 (m := aw.1) I I I I I I I cf (Ae bb)) dS (vK [4] I I I (Bg 4 aw.1 0 I I I (Ae bb) I I I I (A4 I) I (Ci (x := wr (R.2 - A.1)) I) (An (vI (lg ⟨((e.2.2.2.1.set H.1 (wr (H.2 + A.1))).set aw.1 (wr (R.2 - A.1))), h, I2⟩ N8)))))))))))))))
 rintro s ob ⟨av, h, rfl, rfl⟩
 refine Aa fun gh e0 => vH (Af 1 I (vS (By 7 I I I I) I (Af 1 I (vI ?_))))
 subst e0
 refine vN (P1 7 I fun e1 => ?_)
 obtain ⟨gi, e2, e3⟩ := Ac h
 refine Ib e2 (K9 0 3 4 5 7 8 11 239 240) J9 (fun (bu : Nat) (ax : Li) s ob => s = [(241, .V (bu : Int))] ∧ ob = [O2 i [[Q0 E.1, .V E.2.1]], O0 G [Ab j], O1 D [W0], U0 a ax, U0 c av, O1 w [[.v a, .v c, .v g]], U1 g p.2.2, U0 am E.2.2.1]) ⟨I, I⟩ ⟨I, J⟩ (pk N8) ?_ ?_
 rintro bu ax e4 s ob ci ⟨rfl, rfl⟩ h
 unfold Oj.B9 at h
 have e5 := Df ci
 refine Aj I (Aa fun gj e6 => Cl I e5 (vL ?_))
 subst e6
 refine Ah (fun s ob => ∃ (bv : Li), Oj.J10 bv = some e4 ∧ s = [] ∧ ob = [O2 i [[Q0 E.1, .V E.2.1]], O0 G [Ab j], O1 D [W0], U0 a bv, U0 c av, O1 w [[.v a, .v c, .v g]], U1 g p.2.2, U0 am E.2.2.1]) (rM 0 3 4 5 7 8 11 239 240 241) oF ?_ ?_
 refine vN (Aa fun gk e7 => ?_)
 obtain ⟨bw, ⟨e8, cj⟩, h⟩ := Ba h
 refine vH (vS (Bb 7 (m := bw.1) I I I I I I I e8 (Ae cj)) I (vS (Au 7 bw.1 0 I I I (Ae cj) I (y := .V bw.2) I) I (Af 1 I (vI ?_))))
 subst e7
 refine Aa fun gl e9 => ?_
 obtain ⟨bc, ⟨ck, cl⟩, h⟩ := Ba h
 refine Ys (pd 13 0 []) [1] [_] [.o 1 0, .x 3 bc.1 (Ap bc.2), .o 7 0, .x 9 bc.1 (Ap bc.2)] I I ⟨⟨ck, Ae cl⟩, I, ⟨ck, Ae cl⟩, I, J⟩ ?_
 subst e9
 refine Ao h I ?_ ?_
 intro fa h
 obtain ⟨ac, ⟨cm, bd⟩, h⟩ := Ba h
 exact vH (Al 3 [.o 1 5] I J1 (vS (Bb 3 (m := ac.1) I I I I I I I cm (Ae bd)) I (vS (Au 3 ac.1 0 I I I (Ae bd) I (y := .V ac.2) I) I (Af 2 I (vS (Bb 3 (m := ac.1) I I I I I I I cm (Ae bd)) I (vJ [3] I (Bg 3 ac.1 0 I I I (Ae bd) I I I I (A4 I) I (Ci (x := wr (ac.2 + A.1)) I) (vI (lg ⟨(ax.set ac.1 (wr (ac.2 + A.1))), h, I2⟩ N8)))))))))
 intro fa h
 obtain ⟨ad, ⟨cn, be⟩, h⟩ := Ba h
 exact vH (Al 3 [.o 1 5] I J1 (vS (Bb 3 (m := ad.1) I I I I I I I cn (Ae be)) I (vS (Au 3 ad.1 0 I I I (Ae be) I (y := .V ad.2) I) I (Af 2 I (vS (Bb 3 (m := ad.1) I I I I I I I cn (Ae be)) I (vJ [3] I (Bg 3 ad.1 0 I I I (Ae be) I I I I (A4 I) I (Ci (x := wr (ad.2 - A.1)) I) (vI (lg ⟨(ax.set ad.1 (wr (ad.2 - A.1))), h, I2⟩ N8)))))))))
 rintro s ob ⟨bv, h, rfl, rfl⟩
 unfold Oj.J10 at h
 refine vH (Al 2 [.k 0 (bu + 1 : Nat)] I ⟨Bj ci e1, J⟩ ?_)
 cases io h
 exact vI (lg I2 N8)
 rintro ax s ob ⟨rfl, rfl⟩ he
 subst he
 have h := e3
 have fb := Dg E.2.2.1.length
 exact Aj I (Aa fun gm gn => Cm I fb (vQ (lg ⟨(E.1, E.2.1, ax, av), h, I2⟩ N7)))
 rintro s ob ⟨al, h, rfl, rfl⟩
 unfold Oj.J5 at h
 refine vH (Af 3 I ?_)
 cases io h
 exact vI ⟨_, _, _, I, I2, J6, pk N7⟩
 intro dg h
 obtain rfl := de _ (oi h).symm
 have h := dd
 exact vQ (lg ⟨(e.1, e.2.1, e.2.2.1, e.2.2.2.1), h, I2⟩ [0, 2, 3, 4, 5, 6])
 rintro s ob ⟨u, h, rfl, rfl⟩
 refine vM (Aj I (Ao h I ?_ ?_))
 intro fc h
 refine vM ?_
 obtain ⟨fd, fe, h⟩ := Ac h
 refine vH (Al 1 [.o 0 4] I J1 (wD (Av [2, 3, 5] (K := [U0 a u.2.2.1, U0 c u.2.2.2, U1 g p.2.2]) I [(276, .agg [Q0 u.2.2.1, Q0 u.2.2.2, Q2 p.2.2])] ⟨⟨_, I, .agg (.cons (.us 0 I) (.cons (.us 1 I) (.cons (.us 2 I) (.rest _))))⟩, J⟩ (ob' := [O2 i [[Q0 u.1, .V u.2.1]], O1 D [W0], O1 w [[Q0 u.2.2.1, Q0 u.2.2.2, Q2 p.2.2]]]) (.cons (.same _) (.cons (.same _) (.cons (.arr (.cons (.us 0 I) (.cons (.us 1 I) (.cons (.us 2 I) (.rest _))))) (.rest _))))) (vJ [] I (Bp I I I (hO _ _ fe) dS ?_))))
 rintro _ _ ⟨rfl, rfl⟩
 refine vJ [1] I (A3 1 0 0 [Ak fd] I (vI (Cd [0, 1] I ?_)))
 obtain rfl := oi h
 exact vO ⟨.inr I, [_], [O2 i [[Q0 u.1, .V u.2.1]]], ⟨⟨1, _, _, _, _, _, _, _, I5⟩, J⟩, Cy I (Cf), ⟨[O2 i [[Q0 u.1, .V u.2.1]]], [], I5⟩⟩
 intro fc h
 refine vL (vM (vH (Al 1 [.o 0 4] I J1 (vJ [1] I (A3 1 0 0 [[.v a, .v c, .v g]] I (vI (vP (Av [2, 3, 5] (K := [U0 a u.2.2.1, U0 c u.2.2.2, U1 g p.2.2]) I [] J (ob' := [O2 i [[Q0 u.1, .V u.2.1]], O1 D [[Q0 u.2.2.1, Q0 u.2.2.2, Q2 p.2.2]], O1 w [[.v a, .v c, .v g]]]) (.cons (.same _) (.cons (.arr (.cons (.us 0 I) (.cons (.us 1 I) (.cons (.us 2 I) (.rest _))))) (.rest _)))) (Cd [0, 1] I ?_))))))))
 obtain rfl := oi h
 exact vO ⟨.inr I, [_], [O2 i [[Q0 u.1, .V u.2.1]]], ⟨⟨1, _, _, _, _, _, _, _, I5⟩, J⟩, Cy I (Cf), ⟨[O2 i [[Q0 u.1, .V u.2.1]]], [], I5⟩⟩
theorem gW (a : Li) (r : Bool) (h : bD a = r) : ACalls Ai 9 [Q0 a] [] (RB r) := by
 refine Ag Tryz.func9 I I I fun C hC => ?_
 unfold bD at h
 refine Aj I (Bl [.l 1 (a.length : Int)] I ⟨A8, J⟩ ?_)
 obtain rfl := h
 exact vO pr
theorem Pt (a : Int) (b : Int) (r : Int) (h : Og a b = some r) : ACalls Ai 28 [.V a, .V b] [] (RV (.V r)) := by
 refine Ag Tryz.func28 I I I fun C hC => ?_
 refine Aj I (vM ?_)
 obtain ⟨e, d, h⟩ := Ac h
 refine vH (Af 2 I (vU (Wk _ _ _ d) (Af 1 I (vI ?_))))
 cases io h
 exact vO pr
theorem Wj (k : Nw) (u : Plan) (r : Plan) (h : Se k u = some r) : ACalls Ai 43 [.agg (Ab k), .agg (Ak u)] [] (RV (.agg (Ak r))) := by
 refine Ag Tryz.func43 I I I fun C hC => ?_
 refine Aa fun y1 P => vH (vJ [] I (Bh (Ab k) 6 fun H => vJ [] I (Bh (Ak u) 3 fun M => vJ [] I (Bm W0 3 fun D => vI ?_))))
 subst P
 refine Aa fun y5 Q => ?_
 obtain ⟨f, R, h⟩ := Ac h
 refine vH (Al 1 [.o 0 1] I J1 (vJ [] I (S4 I (.refl _) I I (.rest _) I (cB _ _ R) dS (by rintro _ _ ⟨_, _, _, rfl, rfl⟩; exact ⟨rfl, by intro p hp; simp only [List.mem_cons, List.not_mem_nil, or_false] at hp; rcases hp with rfl | rfl | rfl <;> exact Zk fun _ => rfl⟩) ?_)))
 rintro _ _ ⟨g, i, j, rfl, rfl⟩
 refine vJ [] I (Bm W0 3 fun E => vJ [6] I (A3 6 0 0 [[.v g, .v i, .v j]] I (vI ?_)))
 subst Q
 refine Ah (fun s ob => ∃ (w : List Bool), Se.J1 f w = some r ∧ s = [] ∧ ob = [O1 D [W0], U0 g f.Rates, U0 i f.Ports, U1 j w, O1 E [[.v g, .v i, .v j]]]) (K2 4 5) J2 ?_ ?_
 refine Aj I (vN ?_)
 obtain ⟨am, S, U⟩ := Ac h
 refine Bo S (K4 2 3 4 5) J4 (fun (e : (List Bool) × Int) s ob => s = [(6, .V e.2)] ∧ ob = [O0 H [Ab k], O1 M [Ak u], O1 D [W0], U0 g f.Rates, U0 i f.Ports, U1 j e.1, O1 E [[.v g, .v i, .v j]]]) ⟨I, I⟩ ⟨I, J⟩ (pk N7) ?_
 rintro e W s ob ⟨rfl, rfl⟩ h X
 unfold Se.B2 at h
 refine Aa fun an Y => D2 22 (decide (e.2 < (k.Stations.length : Int)) && decide (e.2 < (e.1.length : Int))) ?_ ?_
 refine vH (Al 6 [.o 2 0, .l 3 (k.Stations.length : Int)] I ⟨A8, I, J⟩ ?_)
 rcases bt (decide (e.2 < (k.Stations.length : Int))) with A | A
 exact Ad 16 I A (Al 3 [.o 2 6] I J1 (Bf I I I (vS (By 5 I I I I) I (Af 2 I (vI (jf (by simp only [A, bz]) I I I2))))))
 exact Ad 16 I A (Af 6 I (vI (jf (by simp only [A, bz]) I I I2)))
 refine Ao h I ?_ ?_
 intro Z h
 refine vL ?_
 subst Y
 refine Ah (fun s ob => ∃ (F : List Bool), Se.J3 e F = some W ∧ s = [] ∧ ob = [O0 H [Ab k], O1 M [Ak u], O1 D [W0], U0 g f.Rates, U0 i f.Ports, U1 j F, O1 E [[.v g, .v i, .v j]]]) (K5 2 3 4 5 6) J5 ?_ ?_
 refine vN (Aa fun ao aa => ?_)
 obtain ⟨O, ⟨ab, ac⟩, h⟩ := Ba h
 obtain ⟨G, ad, h⟩ := Ac h
 refine Bi (pd 14 0 [8]) [0, 1] [_, _] I (Br 8 [.o 0 0, .o 1 1, .o 3 0, .x 5 O.1 (Bn O.2)] I ⟨⟨ab, Ae ac⟩, I, I, I, J⟩ (wE I (Px _ _ _ _ ad) (A9 5 I (An (vI ?_)))))
 subst aa
 obtain ⟨a, ⟨n, b⟩, h⟩ := Ba h
 rcases bt (a.2) with t | t
 have h := B0 t h
 rcases bt ((G.2 == 0)) with B | B
 have h := B0 B h
 refine Bw 5 a.1 I b fun ae => Bw 5 a.1 I b fun af => Bi jY [6, 5] [_, _] I (Br 6 [.o 1 0, .o 4 0] I J2 (vX I (Aq (m := a.1) I I I I I ae I n b) I (AP.o I (Au 1 a.1 0 I I I (Ae b) I (y := .v (.bool a.2)) I) I (A9 1 I (Bk 45 I t (A9 4 I (Bk 49 I B (A9 3 I (vX I (Aq (m := a.1) I I I I I af I n b) I (vZ [5] I I I (Bg 5 a.1 0 I I I (Ae b) I I I I (A4 I) I (Ci (x := decide (G.1 > 0)) I) ?_)))))))))))
 exact An (vI (lg ⟨(e.1.set a.1 (decide (G.1 > 0))), h, I2⟩ N7))
 have h := B8 B h
 refine Bw 5 a.1 I b fun ag => Bw 5 a.1 I b fun ah => Bi jY [6, 5] [_, _] I (Br 6 [.o 1 0, .o 4 0] I J2 (vX I (Aq (m := a.1) I I I I I ag I n b) I (AP.o I (Au 1 a.1 0 I I I (Ae b) I (y := .v (.bool a.2)) I) I (A9 1 I (Bk 45 I t (A9 4 I (Bk 49 I B (A9 3 I (vX I (Aq (m := a.1) I I I I I ah I n b) I (vZ [5] I I I (Bg 5 a.1 0 I I I (Ae b) I I I I (A4 I) I (Ci (x := false) I) ?_)))))))))))
 exact An (vI (lg ⟨(e.1.set a.1 false), h, I2⟩ N7))
 have h := B8 t h
 exact Bw 5 a.1 I b fun ai => Bw 5 a.1 I b fun aj => Bi jY [6, 5] [_, _] I (Br 6 [.o 1 0, .o 4 0] I J2 (vX I (Aq (m := a.1) I I I I I ai I n b) I (AP.o I (Au 1 a.1 0 I I I (Ae b) I (y := .v (.bool a.2)) I) I (A9 1 I (Bk 45 I t (A9 7 I (vX I (Aq (m := a.1) I I I I I aj I n b) I (vZ [5] I I I (Bg 5 a.1 0 I I I (Ae b) I I I I (A4 I) I (Ci (x := false) I) (An (vI (lg ⟨(e.1.set a.1 false), h, I2⟩ N7))))))))))))
 rintro s ob ⟨F, h, rfl, rfl⟩
 unfold Se.J3 at h
 refine vH (Af 3 I ?_)
 cases io h
 exact vI ⟨_, _, _, I, I2, J5, pk N7⟩
 intro Z h
 obtain rfl := X _ (oi h).symm
 have h := U
 exact vQ (lg ⟨e.1, h, I2⟩ [2, 3, 4, 5, 6])
 rintro s ob ⟨w, h, rfl, rfl⟩
 unfold Se.J1 at h
 refine vM (vH (Al 1 [.o 0 4] I J1 (vJ [0] I (A3 0 0 0 [[.v g, .v i, .v j]] I (vI (vP (Av [1, 2, 3] (K := [U0 g f.Rates, U0 i f.Ports, U1 j w]) I [] J (ob' := [O1 D [[Q0 f.Rates, Q0 f.Ports, Q2 w]], O1 E [[.v g, .v i, .v j]]]) (.cons (.arr (.cons (.us 0 I) (.cons (.us 1 I) (.cons (.us 2 I) (.rest _))))) (.rest _))) (Cd [0] I ?_)))))))
 cases io h
 exact vO ⟨.inr I, [_], [], ⟨⟨0, _, _, _, _, _, _, _, I5⟩, J⟩, Cf, I2⟩
theorem Pv (a : Nat) (c : KS) (b : Nw) (r : Plan × KS) (h : R3 c b = some r) : ACalls Ai 15 [.P a, .agg (Ab b)] [O2 a [Ca c]] (E7 1 fun x os new => x = .agg (Ak r.1) ∧ os = [O2 a [Ca r.2]] ∧ new = []) := by
 refine Ag Tryz.func15 I I I fun C hC => ?_
 refine vM (vH (vJ [] I (Bh (Ab b) 6 fun i => vJ [] I (Bm W0 3 fun j => vI (vM ?_)))))
 obtain ⟨d, e, h⟩ := Ac h
 obtain ⟨f, g, h⟩ := Ac h
 refine Bi (pd 6 0 [3, 4, 5]) [1] [_] I (Br 3 [.o 0 0, .o 2 0] I J2 (vK [0] I I I (A1 [0] (V4 a _ _ _ e) ?_)))
 refine vK [] I I I (Bp I I I (Wj _ _ _ g) dS ?_)
 rintro _ _ ⟨rfl, rfl⟩
 refine vK [2] I I I (A3 2 0 0 [Ak f] I (An (vI (Cd [0, 2] I ?_))))
 obtain rfl := oi h
 exact vO ⟨.inr I, [_], [O2 a [Ca d.2]], ⟨⟨1, _, _, _, _, _, _, _, I5⟩, J⟩, Cy I (Cf), ⟨[O2 a [Ca d.2]], [], I5⟩⟩
theorem gI (a : Nat) (f : KS) (r : Valve × KS) (h : Xa f = some r) : ACalls Ai 46 [.P a] [O2 a [Ca f]] (E7 1 fun x os new => x = .agg (A5 r.1) ∧ os = [O2 a [Ca r.2]] ∧ new = []) := by
 refine Ag Tryz.func46 I I I fun C hC => ?_
 refine Aa fun w g => vH (vJ [] I (Bm W5 4 fun y => vI ?_))
 subst g
 refine Aa fun z i => ?_
 obtain ⟨b, j, h⟩ := Ac h
 obtain ⟨c, k, h⟩ := Ac h
 obtain ⟨d, n, h⟩ := Ac h
 refine vH (Af 1 I (vJ [] I (vR 1 (([1, 2, 3, 6, 60] : Li).map rI) (vJ [0] I (A1 [0] (Am a _ _ _ j) ?_)))))
 refine Af 1 I (vJ [0] I (A1 [0] (Bz a _ _ _ k) ?_))
 refine Af 2 I (vJ [0] I (A1 [0] (Bz a _ _ _ n) ?_))
 refine Af 1 I (Ch (Bd (l := [.V b.1, .V 0, .v (.bool (c.1 == 0)), .v (.bool (d.1 == 7))]) Tn I) I (vJ [] I (Bm W5 4 fun A => vJ [2] I (A3 2 0 0 [[.V b.1, .V 0, .v (.bool (c.1 == 0)), .v (.bool (d.1 == 7))]] I (vI ?_)))))
 subst i
 refine vM ?_
 obtain ⟨s, t, h⟩ := Ac h
 obtain ⟨e, u, h⟩ := Ac h
 refine Bi (sl 7 0 (.act 7 cU)) [2] [_] I (Br 7 [.o 2 0, .o 5 0] I J2 (vK [0] I I I (A1 [0] (Bz a _ _ _ t) ?_)))
 refine vK [] I I I (vR 1 (([0, b.1, s.1] : Li).map rI) (vK [0] I I I (A1 [0] (Am a _ _ _ u) ?_)))
 refine A9 1 I (vZ [2] I I I (A3 2 0 1 [[.V b.1, .V e.1, .v (.bool (c.1 == 0)), .v (.bool (d.1 == 7))]] I (An (vI (vM (vH (Al 1 [.o 0 2] I J1 (vJ [1] I (A3 1 0 0 [[.V b.1, .V e.1, .v (.bool (c.1 == 0)), .v (.bool (d.1 == 7))]] I (vI (Cd [0, 1] I ?_)))))))))))
 obtain rfl := oi h
 exact vO ⟨.inr I, [_], [O2 a [Ca e.2]], ⟨⟨1, _, _, _, _, _, _, _, I5⟩, J⟩, Cy I (Cf), ⟨[O2 a [Ca e.2]], [], I5⟩⟩
theorem V8  (r : Bool) (h : R4 = some r) : ACalls Ai 10 [] [] (RB r) := by
 refine Ag Tryz.func10 I I I fun C hC => ?_
 refine Aj I (Aa fun y2 S => vH (vJ [] I (vW (sz := 1) (es := ([(⟨#[97]⟩ : Bt), (⟨#[98]⟩ : Bt)] : List Bt).map rS) I I I I I I I I I I I dS fun w => Ch (Bd (l := [.V 0, .V 0, .V 1000]) F6 I) I (Ch (Bd (l := [.V 10, .V 0, .V 1000]) F6 I) I (vJ [] I (vW (sz := 3) (es := ([(⟨0, 0, 1000⟩ : Point), (⟨10, 0, 1000⟩ : Point)] : List Point).map C1) I I I I I I I I I I I dS fun G => wC 1 I fun U => Ch (Bd (l := [.v (.string (⟨#[103]⟩ : Bt)), .V 0, .V 1, .V 10, .V 0, .V 0, .v G]) Tm (Bu I I I I (Bu I I I I (Bu I I I I (Bu I I I I (Bu I I (A6 U) I (Eb))))))) I (wD (Av [1] (K := [.us G 80 3 (([(⟨0, 0, 1000⟩ : Point), (⟨10, 0, 1000⟩ : Point)] : List Point).map C1)]) I [(9, .list 3 (([(⟨0, 0, 1000⟩ : Point), (⟨10, 0, 1000⟩ : Point)] : List Point).map C1)), (10, .agg [.v (.string (⟨#[103]⟩ : Bt)), .V 0, .V 1, .V 10, .V 0, .V 0, .list 3 (([(⟨0, 0, 1000⟩ : Point), (⟨10, 0, 1000⟩ : Point)] : List Point).map C1)])] ⟨⟨_, I, .us 0 I⟩, ⟨_, I, .agg (.cons (.refl _) (.cons (.refl _) (.cons (.refl _) (.cons (.refl _) (.cons (.refl _) (.cons (.refl _) (.cons (.us 0 I) (.rest _))))))))⟩, J⟩ (ob' := [.us w 9 1 (([(⟨#[97]⟩ : Bt), (⟨#[98]⟩ : Bt)] : List Bt).map rS)]) (.rest _)) ?_)))))))
 refine vJ [] I (vW (sz := 7) (es := ([(⟨(⟨#[103]⟩ : Bt), 0, 1, 10, 0, 0, ([(⟨0, 0, 1000⟩ : Point), (⟨10, 0, 1000⟩ : Point)] : List Point)⟩ : Sg)] : List Sg).map Ap) I I I I I I I I I I I dS fun B => Ch (Bd (l := [.v (.string (⟨#[112]⟩ : Bt)), .V 0, .V 0]) Hh I) I (Ch (Bd (l := [.v (.string (⟨#[113]⟩ : Bt)), .V 1, .V 0]) Hh I) I (vJ [] I (vW (sz := 3) (es := ([(⟨(⟨#[112]⟩ : Bt), 0, 0⟩ : Port), (⟨(⟨#[113]⟩ : Bt), 1, 0⟩ : Port)] : List Port).map Cc) I I I I I I I I I I I dS fun D => wC 0 I fun W => wC 1 I fun X => wC 2 I fun Y => Ch (Bd (l := [.v w, .v B, .v D, .N, .V 0, .V 0]) Tq (Bu I I (A6 W) I (Bu I I (A6 X) I (Bu I I (A6 Y) I (Eb))))) I (vJ [] I (Bm W3 6 fun H => vJ [3] I (A3 3 0 0 [[.v w, .v B, .v D, .N, .V 0, .V 0]] I (vI ?_))))))))
 subst S
 refine Aa fun y8 Z => ?_
 obtain ⟨M, aa, h⟩ := Ac h
 refine vH (Al 1 [.o 0 3] I J1 (wD (Av N3 (K := [.us w 9 1 (([(⟨#[97]⟩ : Bt), (⟨#[98]⟩ : Bt)] : List Bt).map rS), .us B 83 7 (([(⟨(⟨#[103]⟩ : Bt), 0, 1, 10, 0, 0, ([(⟨0, 0, 1000⟩ : Point), (⟨10, 0, 1000⟩ : Point)] : List Point)⟩ : Sg)] : List Sg).map Ap), .us D 85 3 (([(⟨(⟨#[112]⟩ : Bt), 0, 0⟩ : Port), (⟨(⟨#[113]⟩ : Bt), 1, 0⟩ : Port)] : List Port).map Cc)]) I [(6, .list 1 (([(⟨#[97]⟩ : Bt), (⟨#[98]⟩ : Bt)] : List Bt).map rS)), (11, .list 7 (([(⟨(⟨#[103]⟩ : Bt), 0, 1, 10, 0, 0, ([(⟨0, 0, 1000⟩ : Point), (⟨10, 0, 1000⟩ : Point)] : List Point)⟩ : Sg)] : List Sg).map Ap)), (14, .list 3 (([(⟨(⟨#[112]⟩ : Bt), 0, 0⟩ : Port), (⟨(⟨#[113]⟩ : Bt), 1, 0⟩ : Port)] : List Port).map Cc)), (15, .agg [.list 1 (([(⟨#[97]⟩ : Bt), (⟨#[98]⟩ : Bt)] : List Bt).map rS), .list 7 (([(⟨(⟨#[103]⟩ : Bt), 0, 1, 10, 0, 0, ([(⟨0, 0, 1000⟩ : Point), (⟨10, 0, 1000⟩ : Point)] : List Point)⟩ : Sg)] : List Sg).map Ap), .list 3 (([(⟨(⟨#[112]⟩ : Bt), 0, 0⟩ : Port), (⟨(⟨#[113]⟩ : Bt), 1, 0⟩ : Port)] : List Port).map Cc), .list 5 ([].map Bn), .V 0, .V 0]), (17, .agg [.list 1 (([(⟨#[97]⟩ : Bt), (⟨#[98]⟩ : Bt)] : List Bt).map rS), .list 7 (([(⟨(⟨#[103]⟩ : Bt), 0, 1, 10, 0, 0, ([(⟨0, 0, 1000⟩ : Point), (⟨10, 0, 1000⟩ : Point)] : List Point)⟩ : Sg)] : List Sg).map Ap), .list 3 (([(⟨(⟨#[112]⟩ : Bt), 0, 0⟩ : Port), (⟨(⟨#[113]⟩ : Bt), 1, 0⟩ : Port)] : List Port).map Cc), .list 5 ([].map Bn), .V 0, .V 0])] ⟨⟨_, I, .us 0 I⟩, ⟨_, I, .us 1 I⟩, ⟨_, I, .us 2 I⟩, ⟨_, I, .agg (.cons (.us 0 I) (.cons (.us 1 I) (.cons (.us 2 I) (.cons (.nil _) (.rest _)))))⟩, ⟨_, I, .agg (.cons (.us 0 I) (.cons (.us 1 I) (.cons (.us 2 I) (.cons (.nil _) (.rest _)))))⟩, J⟩ (ob' := [O0 H [[.list 1 (([(⟨#[97]⟩ : Bt), (⟨#[98]⟩ : Bt)] : List Bt).map rS), .list 7 (([(⟨(⟨#[103]⟩ : Bt), 0, 1, 10, 0, 0, ([(⟨0, 0, 1000⟩ : Point), (⟨10, 0, 1000⟩ : Point)] : List Point)⟩ : Sg)] : List Sg).map Ap), .list 3 (([(⟨(⟨#[112]⟩ : Bt), 0, 0⟩ : Port), (⟨(⟨#[113]⟩ : Bt), 1, 0⟩ : Port)] : List Port).map Cc), .N, .V 0, .V 0]]]) (.cons (.arr (.cons (.us 0 I) (.cons (.us 1 I) (.cons (.us 2 I) (.rest _))))) (.rest _))) ?_))
 refine vJ [] I (Bp I I I (iY _ _ _ aa) dS ?_)
 rintro _ _ ⟨rfl, rfl⟩
 refine Af 3 I (vJ [] I (Bm W1 4 fun ab => vJ [1] I (A3 1 0 0 [Bs M.1] I (Af 1 I (vI ?_)))))
 subst Z
 refine Aa fun ak ac => ?_
 obtain ⟨O, ad, h⟩ := Ac h
 refine vH (Al 2 [.o 0 0, .o 1 1] I J2 (vJ [] I (vW (sz := 1) (es := ([5] : Li).map rI) I I I I I I I I I I I dS fun P => vJ [] I (vW (sz := 1) (es := ([5, (-5)] : Li).map rI) I I I I I I I I I I I dS fun Q => wC 2 I fun ae => wC 3 I fun af => Ch (Bd (l := [.v P, .v Q, .N]) Dj (Bu I I (A6 ae) I (Bu I I (A6 af) I (Eb)))) I (wD (Av [2, 3] (K := [.us P 3 1 (([5] : Li).map rI), .us Q 3 1 (([5, (-5)] : Li).map rI)]) I [(22, .agg [.list 1 (([(⟨#[97]⟩ : Bt), (⟨#[98]⟩ : Bt)] : List Bt).map rS), .list 7 (([(⟨(⟨#[103]⟩ : Bt), 0, 1, 10, 0, 0, ([(⟨0, 0, 1000⟩ : Point), (⟨10, 0, 1000⟩ : Point)] : List Point)⟩ : Sg)] : List Sg).map Ap), .list 3 (([(⟨(⟨#[112]⟩ : Bt), 0, 0⟩ : Port), (⟨(⟨#[113]⟩ : Bt), 1, 0⟩ : Port)] : List Port).map Cc), .list 5 ([].map Bn), .V 0, .V 0]), (24, .list 1 (([5] : Li).map rI)), (25, .list 1 (([5, (-5)] : Li).map rI)), (26, .agg [.list 1 (([5] : Li).map rI), .list 1 (([5, (-5)] : Li).map rI), .list 1 ([].map rB)])] ⟨⟨_, I, .agg (.cons (.refl _) (.cons (.refl _) (.cons (.refl _) (.cons (.nil _) (.rest _)))))⟩, ⟨_, I, .us 0 I⟩, ⟨_, I, .us 1 I⟩, ⟨_, I, .agg (.cons (.us 0 I) (.cons (.us 1 I) (.cons (.nil _) (.rest _))))⟩, J⟩ (ob' := [O0 H [[.list 1 (([(⟨#[97]⟩ : Bt), (⟨#[98]⟩ : Bt)] : List Bt).map rS), .list 7 (([(⟨(⟨#[103]⟩ : Bt), 0, 1, 10, 0, 0, ([(⟨0, 0, 1000⟩ : Point), (⟨10, 0, 1000⟩ : Point)] : List Point)⟩ : Sg)] : List Sg).map Ap), .list 3 (([(⟨(⟨#[112]⟩ : Bt), 0, 0⟩ : Port), (⟨(⟨#[113]⟩ : Bt), 1, 0⟩ : Port)] : List Port).map Cc), .N, .V 0, .V 0]], O4 ab [Bs M.1]]) (.rest _)) ?_)))))
 refine vJ [] I (Bp I I I (Po _ _ _ _ _ _ ad) dS ?_)
 rintro _ _ ⟨al, rfl, rfl⟩
 refine Af 5 I (vI ?_)
 subst ac
 refine Ah (fun s ob => ∃ (E : Bool), R4.J1 E = some r ∧ s = [(0, .v (.bool E))] ∧ ob = []) [] J ?_ ?_
 rcases bt ((O.2 == 0)) with c | c
 have h := B0 c h
 rcases bt (((O.1.length : Int) == 8)) with f | f
 have h := B0 f h
 obtain ⟨a, ⟨g, b⟩, h⟩ := Ba h
 rcases bt ((a.2.Kind == 6)) with i | i
 have h := B0 i h
 rcases bt ((a.2.Value == 2)) with j | j
 have h := B0 j h
 obtain ⟨e, ⟨F, n⟩, h⟩ := Ba h
 rcases bt ((e.2.Value == 3)) with t | t
 have h := B0 t h
 obtain ⟨k, ⟨R, A⟩, h⟩ := Ba h
 rcases bt ((k.2.Value == 2)) with u | u
 have h := B0 u h
 obtain ⟨ag, ah, h⟩ := Ac h
 refine vH (Af 3 I (Ad 32 I c (Af 1 I (Bf I I I (vS (By 2 I I I I) I (Af 3 I (Ad 37 I f (Af 1 I (Bf I I I (vS (Bb 2 (m := a.1) I I I I I I I g (Ae b)) I (Af 1 I (Bf I I I ?_))))))))))))
 refine vS (Au 2 a.1 0 I I I (Ae b) I (y := .V a.2.Kind) I) I (Af 3 I (Ad 44 I i (Af 1 I (Bf I I I (vS (Bb 2 (m := a.1) I I I I I I I g (Ae b)) I (Af 1 I (Bf I I I (vS (Au 2 a.1 2 I I I (Ae b) I (y := .V a.2.Value) I) I (Af 3 I (Ad 51 I j (Af 1 I (Bf I I I ?_))))))))))))
 refine vS (Bb 2 (m := e.1) I I I I I I I F (Ae n)) I (Af 1 I (Bf I I I (vS (Au 2 e.1 2 I I I (Ae n) I (y := .V e.2.Value) I) I (Af 3 I (Ad 58 I t (Af 1 I (Bf I I I (vS (Bb 2 (m := k.1) I I I I I I I R (Ae A)) I (Af 1 I (Bf I I I (vS (Au 2 k.1 2 I I I (Ae A) I (y := .V k.2.Value) I) I (Af 3 I ?_))))))))))))
 refine Ad 65 I u (Af 1 I (Bf I I I (vJ [] I (Cw I (.refl _) I I (.cons (.us 2 I) (.rest _)) I (Pq _ _ ah) dS (by rintro _ _ ⟨rfl, _⟩; rfl) ?_))))
 rintro _ ⟨_, rfl, -⟩
 exact Af 3 I (vI (lg ⟨(ag == 3), h, I2⟩ []))
 have h := B8 u h
 refine vH (Af 3 I (Ad 32 I c (Af 1 I (Bf I I I (vS (By 2 I I I I) I (Af 3 I (Ad 37 I f (Af 1 I (Bf I I I (vS (Bb 2 (m := a.1) I I I I I I I g (Ae b)) I (Af 1 I (Bf I I I ?_))))))))))))
 refine vS (Au 2 a.1 0 I I I (Ae b) I (y := .V a.2.Kind) I) I (Af 3 I (Ad 44 I i (Af 1 I (Bf I I I (vS (Bb 2 (m := a.1) I I I I I I I g (Ae b)) I (Af 1 I (Bf I I I (vS (Au 2 a.1 2 I I I (Ae b) I (y := .V a.2.Value) I) I (Af 3 I (Ad 51 I j (Af 1 I (Bf I I I ?_))))))))))))
 refine vS (Bb 2 (m := e.1) I I I I I I I F (Ae n)) I (Af 1 I (Bf I I I (vS (Au 2 e.1 2 I I I (Ae n) I (y := .V e.2.Value) I) I (Af 3 I (Ad 58 I t (Af 1 I (Bf I I I (vS (Bb 2 (m := k.1) I I I I I I I R (Ae A)) I (Af 1 I (Bf I I I (vS (Au 2 k.1 2 I I I (Ae A) I (y := .V k.2.Value) I) I (Af 3 I ?_))))))))))))
 exact Ad 65 I u (Af 5 I (vI (lg ⟨false, h, I2⟩ [])))
 have h := B8 t h
 refine vH (Af 3 I (Ad 32 I c (Af 1 I (Bf I I I (vS (By 2 I I I I) I (Af 3 I (Ad 37 I f (Af 1 I (Bf I I I (vS (Bb 2 (m := a.1) I I I I I I I g (Ae b)) I (Af 1 I (Bf I I I ?_))))))))))))
 refine vS (Au 2 a.1 0 I I I (Ae b) I (y := .V a.2.Kind) I) I (Af 3 I (Ad 44 I i (Af 1 I (Bf I I I (vS (Bb 2 (m := a.1) I I I I I I I g (Ae b)) I (Af 1 I (Bf I I I (vS (Au 2 a.1 2 I I I (Ae b) I (y := .V a.2.Value) I) I (Af 3 I (Ad 51 I j (Af 1 I (Bf I I I ?_))))))))))))
 exact vS (Bb 2 (m := e.1) I I I I I I I F (Ae n)) I (Af 1 I (Bf I I I (vS (Au 2 e.1 2 I I I (Ae n) I (y := .V e.2.Value) I) I (Af 3 I (Ad 58 I t (Af 12 I (vI (lg ⟨false, h, I2⟩ []))))))))
 have h := B8 j h
 refine vH (Af 3 I (Ad 32 I c (Af 1 I (Bf I I I (vS (By 2 I I I I) I (Af 3 I (Ad 37 I f (Af 1 I (Bf I I I (vS (Bb 2 (m := a.1) I I I I I I I g (Ae b)) I (Af 1 I (Bf I I I ?_))))))))))))
 exact vS (Au 2 a.1 0 I I I (Ae b) I (y := .V a.2.Kind) I) I (Af 3 I (Ad 44 I i (Af 1 I (Bf I I I (vS (Bb 2 (m := a.1) I I I I I I I g (Ae b)) I (Af 1 I (Bf I I I (vS (Au 2 a.1 2 I I I (Ae b) I (y := .V a.2.Value) I) I (Af 3 I (Ad 51 I j (Af 19 I (vI (lg ⟨false, h, I2⟩ [])))))))))))))
 have h := B8 i h
 refine vH (Af 3 I (Ad 32 I c (Af 1 I (Bf I I I (vS (By 2 I I I I) I (Af 3 I (Ad 37 I f (Af 1 I (Bf I I I (vS (Bb 2 (m := a.1) I I I I I I I g (Ae b)) I (Af 1 I (Bf I I I ?_))))))))))))
 exact vS (Au 2 a.1 0 I I I (Ae b) I (y := .V a.2.Kind) I) I (Af 3 I (Ad 44 I i (Af 26 I (vI (lg ⟨false, h, I2⟩ [])))))
 have h := B8 f h
 exact vH (Af 3 I (Ad 32 I c (Af 1 I (Bf I I I (vS (By 2 I I I I) I (Af 3 I (Ad 37 I f (Af 33 I (vI (lg ⟨false, h, I2⟩ []))))))))))
 have h := B8 c h
 exact vH (Af 3 I (Ad 32 I c (Af 38 I (vI (lg ⟨false, h, I2⟩ [])))))
 rintro s ob ⟨E, h, rfl, rfl⟩
 unfold R4.J1 at h
 cases io h
 exact vO pr
end Go.Proofs.YtmaamhgjeampmaaGreat
