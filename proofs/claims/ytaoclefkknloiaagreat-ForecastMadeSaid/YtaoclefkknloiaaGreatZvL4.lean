/- Walks that show what functions of the program compute; printed by a program of ours. No condition. -/
import Derived.Test.YtaoclefkknloiaaGreatZvL3
import Derived.Test.YtaoclefkknloiaaGreatZvD
import Derived.Test.YtaoclefkknloiaaGreatZvL2
set_option maxRecDepth 100000
namespace Go.Proofs.YtaoclefkknloiaaGreat
open Go.Aw
set_option linter.unusedVariables false
set_option linter.unusedSimpArgs false
set_option maxHeartbeats 4000000
theorem iG (a : Int) (r : Bool) (h : G3 a = r) : ACalls Ak 94 [.V a] [] (RB r) := by
 refine Ag Tryz.func94 I I I fun C hC => ?_
 unfold G3 at h
 refine Ai I (Aj (fun s ob => s = [(2, .v (.bool (decide (a < 0) || decide (a ≥ 1000))))] ∧ ob = []) [] J ?_ ?_)
 refine tX (Af 3 I ?_)
 rcases bt (decide (a < 0)) with b | b
 refine Ah 5 I b (Af 4 I (tY ?_))
 exact lf I2 ⟨(Dn (by simp only [b, bz])), J⟩ [] I
 refine Ah 5 I b (Af 4 I (tY ?_))
 exact lf I2 ⟨(Dn (by simp only [b, bz])), J⟩ [] I
 rintro s ob ⟨rfl, rfl⟩
 obtain rfl := h
 exact uE pr
theorem Uv (a : Nw) (i : List (List Piece)) (b : Plan) (d : Li) (r : (Option advance_line) × Int) (h : Nr a i b d = some r) : ACalls Ak 54 [.agg (Ad a), .list 1 (i.map (rL 2 Aa)), .agg (Aq b), Q0 d] [] (fun x new => rJ r.1 (x = .tup [.v (.pointer none), .V r.2] ∧ new = []) fun l => ∃ (B : Nat) (u0_0 : Value) (u0_1 : Value) (u0_2 : Value), x = .tup [.P B, .V r.2] ∧ new = [O3 B [[Q1 l.n_.Nodes, Q6 l.n_.Segments, Q4 l.n_.Ports, Q5 l.n_.Stations, .V l.n_.Vapour, .V l.n_.Settle, Q0 l.p.Rates, Q0 l.p.Ports, Q3 l.p.Pumps, Q0 l.feeds, Q0 l.order, .v u0_0, .v u0_1, .v u0_2]], .us u0_0 34 1 (l.fills.map (rL 2 Aa)), .us u0_1 34 1 (l.given.map (rL 2 Aa)), .us u0_2 34 1 (l.out_.map (rL 2 Aa))]) := by
 refine Ag Tryz.func54 I I I fun C hC => ?_
 refine Ab fun y1 M => tX (tZ [] I (Cf (Ad a) 6 fun D => tZ [] I (Cf (Aq b) 3 fun E => Af 2 I (tY ?_))))
 subst M
 refine Ab fun y4 O => uD ?_
 obtain ⟨r5, P, h⟩ := Ac h
 refine tX (Am 2 [.o 0 0] I J1 (uJ (Pd _ _ _ P) (Af 1 I (tY (Ai I (Ao h I ?_ ?_))))))
 intro Q h
 refine Ai I (uF g0 ?_)
 cases io h
 exact uE ⟨.inr I, [_, _], [], J2, B0, I2⟩
 intro Q h
 refine uA ?_
 subst O
 refine Ab fun y8 R => ?_
 obtain ⟨e, S, h⟩ := Ac h
 refine tX (Am 2 [.o 0 0, .o 1 1] I J2 (tZ [] I (Bh I I I (fO _ _ _ S) dS ?_)))
 rintro _ _ ⟨F, rfl, rfl⟩
 refine Af 5 I (tY ?_)
 subst R
 refine Ab fun av U => Ai I (Ao h I ?_ ?_)
 intro W h
 refine Ai I (uF g0 ?_)
 cases io h
 exact uE ⟨.inr I, [_, _], [], J2, B0, I2⟩
 intro W h
 refine uA ?_
 subst U
 refine Ab fun aw X => Aj (fun s ob => ∃ (y : Bool), Nr.J1 a i b d e y = some r ∧ s = [(40, .v (.bool y))] ∧ ob = [O0 D [Ad a], O1 E [Aq b], U0 F e.1]) (K5 1 3 4 6 11) J5 ?_ ?_
 refine tX (Am 7 [.l 1 (d.length : Int), .o 3 0, .l 4 (a.Ports.length : Int)] I ⟨A4, I, A4, J⟩ ?_)
 rcases bt (((d.length : Int) != (a.Ports.length : Int))) with j | j
 have h := Cc j h
 exact Ah 37 I j (Af 3 I (tY (lg ⟨true, h, I2⟩ N3)))
 have h := Cd j h
 obtain ⟨Y, Z, h⟩ := Ac h
 exact Ah 37 I j (Af 1 I (Bx I I I (uJ (Pa _ (.v (.func (.func 94) #[] #[])) I (fun x => some (G3 x)) (fun x r h => by obtain I := oi h; exact iG x _ I) _ Z) (Af 1 I (tY (lg ⟨Y, h, I2⟩ N3))))))
 rintro s ob ⟨y, h, rfl, rfl⟩
 refine Ao h I ?_ ?_
 intro aa h
 refine Ai I (uF g0 ?_)
 cases io h
 exact uE ⟨.inr I, [_, _], [], J2, B0, I2⟩
 intro aa h
 refine uA ?_
 subst X
 refine Ab fun ax ab => tX (Am 4 [.o 0 0, .o 1 1] I J2 (uP (Ax [2] (K := [U0 F e.1]) I [(11, Q0 e.1), (44, Q0 e.1)] ⟨⟨_, I, .us 0 I⟩, ⟨_, I, .us 0 I⟩, J⟩ (ob' := [O0 D [Ad a], O1 E [Aq b]]) (.rest _)) (uK (Bl (l := [Q1 a.Nodes, Q6 a.Segments, Q4 a.Ports, Q5 a.Stations, .V a.Vapour, .V a.Settle, Q0 b.Rates, Q0 b.Ports, Q3 b.Pumps, Q0 d, Q0 e.1, .N, .N, .N]) Zu I) I (tZ [] I (Cf [Q1 a.Nodes, Q6 a.Segments, Q4 a.Ports, Q5 a.Stations, .V a.Vapour, .V a.Settle, Q0 b.Rates, Q0 b.Ports, Q3 b.Pumps, Q0 d, Q0 e.1, .N, .N, .N] 14 fun n => Af 1 I (tY ?_))))))
 subst ab
 refine Aj (fun s ob => ∃ (u : List (List Piece)) (g : Value), Nr.J2 a b d e u = some r ∧ s = [] ∧ ob = [O3 n [[Q1 a.Nodes, Q6 a.Segments, Q4 a.Ports, Q5 a.Stations, .V a.Vapour, .V a.Settle, Q0 b.Rates, Q0 b.Ports, Q3 b.Pumps, Q0 d, Q0 e.1, .v g, .N, .N]], .us g 34 1 (u.map (rL 2 Aa))]) [(13, _)] J1 ?_ ?_
 refine Bg [.l 1 (i.length : Int)] I ⟨A4, J⟩ (uB (Cg 47 I fun ac => uF (Az 34 1) ?_))
 obtain ⟨ay, ad, ae⟩ := Ac h
 refine Cl ad (K3 13 47 48) J3 (fun (w : Nat) (t : List (List Piece)) s ob => ∃ (f : Value), s = [(49, .V (w : Int))] ∧ ob = [O3 n [[Q1 a.Nodes, Q6 a.Segments, Q4 a.Ports, Q5 a.Stations, .V a.Vapour, .V a.Settle, Q0 b.Rates, Q0 b.Ports, Q3 b.Pumps, Q0 d, Q0 e.1, .v f, .N, .N]], .us f 34 1 (t.map (rL 2 Aa))]) ⟨nS, I2⟩ ⟨I, J⟩ (pk [2, 3]) ?_ ?_
 rintro w af t az s ob ag G ⟨f, rfl, rfl⟩ h
 have ah := Cr G
 refine Ai I (Ab fun a0 ai => Bq I ah (uA ?_))
 subst ai
 refine uD (uB (Bg [.x 0 w ((rL 2 Aa) af)] I ⟨⟨I, Ae ag⟩, J⟩ ?_))
 obtain ⟨A, aj, h⟩ := Ac h
 obtain ⟨a1, ak, h⟩ := Ac h
 refine Bk (sl 6 0 (.act 6 (.act 7 (.act 8 (.still 9 (.still 10 (.drop 11 .nil))))))) [0] [_] I (Bv 6 [.o 4 0] I J1 (uC [] I I I (Bh I I I (Gx _ _ aj) dS ?_)))
 rintro _ _ ⟨al, rfl, rfl⟩
 refine Fz (Ax [2] (K := [U1 al A]) I [(59, Q2 A)] ⟨⟨_, I, .us 0 I⟩, J⟩ (ob' := [O3 n [[Q1 a.Nodes, Q6 a.Segments, Q4 a.Ports, Q5 a.Stations, .V a.Vapour, .V a.Settle, Q0 b.Rates, Q0 b.Ports, Q3 b.Pumps, Q0 d, Q0 e.1, .v f, .N, .N]], .us f 34 1 (t.map (rL 2 Aa))]) (.rest _)) I (uC [] I I I (uH 1 (([A] : List (List Piece)).map (rL 2 Aa)) (uC [1] I I I (uO 1 I ak fun H => A3 2 I (uW 1 I fun am => uR [0] I I I (uL 0 0 11 (es' := [[Q1 a.Nodes, Q6 a.Segments, Q4 a.Ports, Q5 a.Stations, .V a.Vapour, .V a.Settle, Q0 b.Rates, Q0 b.Ports, Q3 b.Pumps, Q0 d, Q0 e.1, .v H, .N, .N]]) I I I I I I (Bw am) I (Ba I) I I (Ap (tY (tX (Am 2 [.k 0 (w + 1 : Nat)] I ⟨A6 G ac, J⟩ ?_))))))))))
 cases io h
 exact tY (lg ⟨H, I2⟩ [0, 1])
 rintro t s ob ⟨f, rfl, rfl⟩ he
 subst he
 have h := ae
 have an := Cs i.length
 exact Ai I (Ab fun a2 a3 => Br I an (uG (lg ⟨t, f, h, I2⟩ [0, 1])))
 rintro s ob ⟨u, g, h, rfl, rfl⟩
 unfold Nr.J2 at h
 refine Ai I (uF (Az 34 1) (uF (Az 34 1) ?_))
 cases io h
 exact uE ⟨.inr I, [_, _], [O3 n [[Q1 a.Nodes, Q6 a.Segments, Q4 a.Ports, Q5 a.Stations, .V a.Vapour, .V a.Settle, Q0 b.Rates, Q0 b.Ports, Q3 b.Pumps, Q0 d, Q0 e.1, .v g, .N, .N]], .us g 34 1 (u.map (rL 2 Aa)), .us nS 34 1 ([].map (rL 2 Aa)), .us nS 34 1 ([].map (rL 2 Aa))], J2, Cb I (Cb I (Cb I (Cb I (B0)))), ⟨n, g, nS, nS, I2⟩⟩
theorem Vu (b : Nw) (d : List (List Piece)) (c : Plan) (e : Li) (r : (List (List Piece)) × (List (List Piece)) × Int) (h : Jt b d c e = some r) : ACalls Ak 17 [.agg (Ad b), .list 1 (d.map (rL 2 Aa)), .agg (Aq c), Q0 e] [] (fun x new => ∃ (f : Value) (g : Value), x = .tup [.v f, .v g, .V r.2.2] ∧ new = [.us f 34 1 (r.1.map (rL 2 Aa)), .us g 34 1 (r.2.1.map (rL 2 Aa))]) := by
 refine Ag Tryz.func17 I I I fun C hC => ?_
 refine Ab fun K p => tX (tZ [] I (Cf (Ad b) 6 fun M => tZ [] I (Cf (Aq c) 3 fun N => Af 3 I (tY ?_))))
 subst p
 refine Ab fun O i => ?_
 obtain ⟨s, j, h⟩ := Ac h
 rcases a : s.1 with _ | P
 have h := tF a h
 refine tX (Am 4 [.o 0 0, .o 2 1] I J2 (tZ [] I (Bh I I I (Z1 a (Uv _ _ _ _ _ j)) dS ?_)))
 rintro _ _ ⟨rfl, rfl⟩
 refine Af 5 I (tY ?_)
 subst i
 refine Ab fun Q t => Ai I (Ao h I ?_ ?_)
 intro u h
 refine Ai I (uF (Az 34 1) (uF (Az 34 1) (C9 [2, 3] I ?_)))
 cases io h
 rotate_left
 intro u h
 refine uA ?_
 subst t
 refine Ab fun R S => uD ?_
 cases h
 have h := tE a h
 refine tX (Am 4 [.o 0 0, .o 2 1] I J2 (tZ [] I (Bh I I I (Z0 a (Uv _ _ _ _ _ j)) dS ?_)))
 rintro _ _ ⟨w, y, A, B, rfl, rfl⟩
 refine Af 5 I (tY ?_)
 subst i
 refine Ab fun U D => Ai I (Ao h I ?_ ?_)
 intro E h
 refine Ai I (uF (Az 34 1) (uF (Az 34 1) (C9 [6, 7] I ?_)))
 cases io h
 rotate_left
 intro E h
 refine uA ?_
 subst D
 refine Ab fun W F => uD ?_
 obtain ⟨k, G, h⟩ := Ac h
 refine tX (Af 1 I (tZ [2, 3, 4, 5] I (Ex [2, 3, 4, 5] (gV w _ y A B _ G) ?_)))
 rintro _ _ _ - ⟨l, X, n, rfl, rfl, rfl⟩
 refine Af 1 I (tY (Ai I (Ao h I ?_ ?_)))
 intro H h
 refine Ai I (uF (Az 34 1) (uF (Az 34 1) (C9 [6, 7] I ?_)))
 cases io h
 any_goals
  exact uE ⟨.inr I, [_, _, _], [.us nS 34 1 ([].map (rL 2 Aa)), .us nS 34 1 ([].map (rL 2 Aa))], J3, Cb I (Cb I (B0)), ⟨nS, nS, I2⟩⟩
 intro H h
 refine uA ?_
 subst F
 refine Me (pd 11 0 []) [2] [_] [.o 3 0, .o 7 0] I I J2 (C9 [3, 5] I ?_)
 cases io h
 exact uE ⟨.inr I, [_, _, _], [.us l 34 1 (k.2.1.map (rL 2 Aa)), .us n 34 1 (k.2.2.2.map (rL 2 Aa))], J3, Cb I (Cb I (B0)), ⟨l, n, I2⟩⟩
theorem gI (a : Li) (r : Bool) (h : aQ a = r) : ACalls Ak 22 [Q0 a] [] (RB r) := by
 refine Ag Tryz.func22 I I I fun C hC => ?_
 unfold aQ at h
 refine Ai I (Bg [.l 1 (a.length : Int)] I ⟨A4, J⟩ ?_)
 obtain rfl := h
 exact uE pr
theorem Ez (a : Int) (b : Int) (r : Int) (h : Fy a b = some r) : ACalls Ak 26 [.V a, .V b] [] (RV (.V r)) := by
 refine Ag Tryz.func26 I I I fun C hC => ?_
 refine Ai I (uD ?_)
 obtain ⟨e, d, h⟩ := Ac h
 refine tX (Af 2 I (uJ (Vw _ _ _ d) (Af 1 I (tY ?_))))
 cases io h
 exact uE pr
theorem gS (a : List Piece) (F1 : T) {e : FuncId} {f g : List T} (t : Kw F1 = some (e, f, g)) (i : Piece → Option Int) (u : ∀ (j : Piece) r, i j = some r → ACalls Ak e (f ++ [.agg (Aa j)] ++ g) [] (RV (.V r))) (r : Int) (h : Ws a i = some r) : ACalls Ak 128 [Q2 a, F1] [] (RV (.V r)) := by
 refine Ag Tryz.func128 I I I fun C hC => ?_
 unfold Ws at h
 refine Ai I (Ai I (Aj (fun s ob => ∃ (d : Int), Ws.J1 d = some r ∧ s = [(5, .V d)] ∧ ob = []) [] J ?_ ?_))
 refine Bg [.l 1 (a.length : Int)] I ⟨A4, J⟩ (uB (Cg 8 I fun w => ?_))
 obtain ⟨H, y, A⟩ := Ac h
 refine Cl y (K3 1 8 9) J3 (fun (b : Nat) (c : Int) s ob => s = [(10, .V (b : Int)), (5, .V c)] ∧ ob = []) ⟨I, I⟩ ⟨I, I, J⟩ (pk []) ?_ ?_
 rintro b n c K s ob B p ⟨rfl, rfl⟩ h
 have D := Cr p
 refine Ai I (Ab fun M E => Bq I D (uA ?_))
 subst E
 refine uD (uB (uD (tX (Am 2 [.x 0 b (Aa n)] I ⟨⟨I, Ae B⟩, J⟩ (tZ [] I (Bs [.V 0, .V 0] 2 fun N => tZ [0] I (Bj 0 0 0 [Aa n] I (tY ?_))))))))
 obtain ⟨O, F, h⟩ := Ac h
 refine tX (Am 3 [.o 2 0] I J1 (tZ [] I (Dv I (.refl _) t I (.rest _) I (u _ _ F) dS (by rintro _ _ ⟨rfl, _⟩; rfl) ?_)))
 rintro _ ⟨_, rfl, -⟩
 refine Af 2 I (tY (tX (Am 2 [.k 0 (b + 1 : Nat)] I ⟨A6 p w, J⟩ ?_)))
 cases io h
 exact tY (lg I2 [])
 rintro c s ob ⟨rfl, rfl⟩ he
 subst he
 have h := A
 have G := Cs a.length
 exact Ai I (Ab fun P Q => Br I G (uG (lg ⟨c, h, I2⟩ [])))
 rintro s ob ⟨d, h, rfl, rfl⟩
 unfold Ws.J1 at h
 refine Ai I ?_
 cases io h
 exact uE pr
theorem gW (a : Piece) (r : Int) (h : Wt a = r) : ACalls Ak 129 [.agg (Aa a)] [] (RV (.V r)) := by
 refine Ag Tryz.func129 I I I fun C hC => ?_
 unfold Wt at h
 refine uD (tX (tZ [] I (Cf (Aa a) 2 fun b => Af 1 I (tY (Bg [.o 1 0] I J1 (uF g0 ?_))))))
 obtain rfl := h
 exact uE pr
theorem Vq (a : List Piece) (r : Int) (h : Rr a = some r) : ACalls Ak 104 [Q2 a] [] (RV (.V r)) := by
 refine Ag Tryz.func104 I I I fun C hC => ?_
 refine Ai I (uD ?_)
 obtain ⟨d, b, h⟩ := Ac h
 refine tX (Af 1 I (uJ (gS _ (.v (.func (.func 129) #[] #[])) I (fun x => some (Wt x)) (fun x r h => by obtain I := oi h; exact gW x _ I) _ b) (Af 1 I (tY ?_))))
 cases io h
 exact uE pr
theorem Vs (a : List Piece) (d : Int) (e : Bool) (r : Int × Bool) (h : G5 a d e = some r) : ACalls Ak 70 [Q2 a, .V d, .v (.bool e)] [] (RV (.tup [.V r.1, .v (.bool r.2)])) := by
 refine Ag Tryz.func70 I I I fun C hC => ?_
 unfold G5 at h
 refine Ai I (Aj (fun s ob => ∃ (f : Unit), G5.J1 a d f = some r ∧ s = [] ∧ ob = []) (K2 0 1) J2 ?_ ?_)
 refine Ai I (Ao h I ?_ ?_)
 intro D h
 refine Aj (fun s ob => ∃ (g : Unit), G5.J4 g = some r ∧ s = [] ∧ ob = []) [] J ?_ ?_
 refine Bg [.l 1 (a.length : Int)] I ⟨A4, J⟩ (uB (Cg 12 I fun E => ?_))
 obtain ⟨aq, F, i⟩ := Ac h
 refine Cj F (K4 0 1 12 13) J4 (fun (b : Nat) (j : Unit) s ob => s = [(14, .V (b : Int))] ∧ ob = []) ⟨I, I⟩ ⟨I, J⟩ (pk []) ?_ ?_
 rintro b n j ar s ob G t ⟨rfl, rfl⟩ h H
 have K := Cr t
 refine Ai I (Ab fun au M => Bq I K (uA ?_))
 subst M
 refine uD (uB (Ab fun av N => tX (Am 3 [.x 1 b (Aa n)] I ⟨⟨I, Ae G⟩, J⟩ (tZ [] I (Bs [.V 0, .V 0] 2 fun aw => Af 1 I (tZ [0] I (Bj 0 0 0 [Aa n] I (tY ?_))))))))
 subst N
 refine Bg [.o 1 0] I J1 (Ao h I ?_ ?_)
 intro O h
 refine uD ?_
 obtain ⟨ax, P, h⟩ := Ac h
 obtain ⟨Q, R, S, U, W, X, Y⟩ := Jw P
 obtain ⟨ay, Z, h⟩ := Ac h
 refine tX (Af 2 I (uK (P6 Q R 0 I I I I I (tB S) ⟨_, _, I, U⟩ I W X Y) I (uJ (Vq _ _ Z) (Af 2 I (tY ?_)))))
 obtain rfl := H _ (oi h).symm
 have h := i
 have h := Dj h
 refine uF g0 ?_
 cases io h
 exact uE ⟨.inr I, [_, _], [], J2, B0, I2⟩
 intro O h
 refine uA (tX (Am 2 [.k 0 (b + 1 : Nat)] I ⟨A6 t E, J⟩ ?_))
 cases io h
 exact tY ⟨_, _, _, I, I2, J5, pk []⟩
 rintro j s ob ⟨rfl, rfl⟩ he
 subst he
 have h := Dk i
 have aa := Cs a.length
 exact Ai I (Ab fun az a0 => Br I aa (uG (lg ⟨(), h, I2⟩ [])))
 rintro s ob ⟨g, h, rfl, rfl⟩
 unfold G5.J4 at h
 refine Ai I ?_
 cases io h
 exact uE ⟨.inr I, [_, _], [], J2, B0, I2⟩
 intro D h
 exact uA (lg ⟨(), h, I2⟩ [])
 rintro s ob ⟨f, h, rfl, rfl⟩
 unfold G5.J1 at h
 refine Aj (fun s ob => ∃ (u : Unit), G5.J2 u = some r ∧ s = [] ∧ ob = []) [] J ?_ ?_
 refine Bg [.l 1 (a.length : Int)] I ⟨A4, J⟩ (uB ?_)
 obtain ⟨a1, ab, w⟩ := Ac h
 refine Ci ab (K2 0 1) J2 (fun (y : Int) s ob => s = [(10, .V y)] ∧ ob = []) ⟨I, I⟩ ⟨I, J⟩ (pk []) ?_
 rintro y a2 s ob ⟨rfl, rfl⟩ h A
 refine Ab fun a3 ac => Ai I (Ao h I ?_ ?_)
 intro ad h
 refine uA ?_
 subst ac
 refine uD (uB (uD ?_))
 obtain ⟨B, ⟨ae, af⟩, h⟩ := A5 h
 refine Gd [.x 2 B.1 (Aa B.2)] I ⟨⟨ae, Ae af⟩, J⟩ (Ao h I ?_ ?_)
 intro ag h
 refine uD ?_
 obtain ⟨a4, ah, h⟩ := Ac h
 obtain ⟨ai, aj, ak, al, am, an, ao⟩ := Jw ah
 obtain ⟨a5, ap, h⟩ := Ac h
 refine tX (Af 3 I (uK (P6 ai aj 0 I I I I I ⟨_, _, I, ak⟩ (tA al) I am an ao) I (uJ (Vq _ _ ap) (Af 2 I (tY ?_)))))
 obtain rfl := A _ (oi h).symm
 have h := w
 have h := Dk h
 cases io h
 exact uE ⟨.inr I, [_, _], [], J2, B0, I2⟩
 intro ag h
 refine uA (tX (Af 3 I ?_))
 cases io h
 exact tY ⟨_, _, _, I, I2, J3, pk []⟩
 intro ad h
 obtain rfl := A _ (oi h).symm
 have h := w
 have h := Dj h
 exact uG (lg ⟨(), h, I2⟩ [])
 rintro s ob ⟨u, h, rfl, rfl⟩
 unfold G5.J2 at h
 refine Ai I ?_
 cases io h
 exact uE ⟨.inr I, [_, _], [], J2, B0, I2⟩
theorem gK (a : List Piece) (b : Int) (d : Bool) (r : Int × Bool × Int) (h : Wn a b d = some r) : ACalls Ak 28 [Q2 a, .V b, .v (.bool d)] [] (RV (.tup [.V r.1, .v (.bool r.2.1), .V r.2.2])) := by
 refine Ag Tryz.func28 I I I fun C hC => ?_
 refine Ai I (Ab fun j e => uD ?_)
 obtain ⟨k, f, h⟩ := Ac h
 refine tX (Af 1 I (uJ (If _ _ f) (Af 1 I (tY (Ao h I ?_ ?_)))))
 intro g h
 refine Ai I ?_
 cases io h
 exact uE ⟨.inr I, [_, _, _], [], J3, B0, I2⟩
 intro g h
 refine uA ?_
 subst e
 refine uD ?_
 obtain ⟨l, i, h⟩ := Ac h
 refine tX (Af 3 I (uJ (Vs _ _ _ _ i) (Af 5 I (tY (Ai I ?_)))))
 cases io h
 exact uE ⟨.inr I, [_, _, _], [], J3, B0, I2⟩
theorem jK (a : Nw) (d : List Hop) (r : Bool) (h : R9 a d = some r) : ACalls Ak 72 [.agg (Ad a), Q7 d] [] (RB r) := by
 refine Ag Tryz.func72 I I I fun C hC => ?_
 unfold R9 at h
 refine Ab fun X A => tX (tZ [] I (Cf (Ad a) 6 fun p => Af 1 I (tY ?_)))
 subst A
 refine Ai I (Aj (fun s ob => ∃ (u : Unit), R9.J1 d u = some r ∧ s = [] ∧ ob = []) [(1, _)] J1 ?_ ?_)
 refine Bg [.l 1 (d.length : Int)] I ⟨A4, J⟩ (uB (Cg 11 I fun B => ?_))
 obtain ⟨Y, D, n⟩ := Ac h
 refine Cj D (K4 1 2 11 12) J4 (fun (j : Nat) (b : Int) s ob => s = [(13, .V (j : Int)), (5, .V b)] ∧ ob = [O0 p [Ad a]]) ⟨I, I⟩ ⟨I, I, J⟩ (pk [0]) ?_ ?_
 rintro j e b E s ob F w ⟨rfl, rfl⟩ h y
 unfold R9.B2 at h
 have G := Cr w
 refine Ai I (Ab fun Z H => Bq I G (uA ?_))
 subst H
 refine uD (uB (Ab fun aa K => tX (Am 2 [.x 0 j (Df e)] I ⟨⟨I, Ae F⟩, J⟩ (tZ [] I (Bs [.V 0, .v (.bool false)] 2 fun ab => tZ [1] I (Bj 1 0 0 [Df e] I (tY ?_)))))))
 subst K
 refine Ab fun ac M => Ea 27 (decide (e.Segment < 0) || decide (e.Segment ≥ (a.Segments.length : Int))) ?_ ?_
 refine tX (Am 4 [.o 1 1] I J1 ?_)
 rcases bt (decide (e.Segment < 0)) with f | f
 exact Ah 20 I f (Af 7 I (tY (jf (by simp only [f, bz]) I I I2)))
 exact Ah 20 I f (Am 7 [.o 1 1, .o 3 0, .l 4 (a.Segments.length : Int)] I ⟨A4, I, I, J⟩ (tY (jf (by simp only [f, bz]) I I I2)))
 refine Ao h I ?_ ?_
 intro O h
 refine Ai I ?_
 obtain rfl := y _ (oi h).symm
 have h := n
 have h := Dj h
 refine uF g0 ?_
 cases io h
 exact uE pr
 intro O h
 refine uA ?_
 subst M
 refine Ab fun ad P => ?_
 obtain ⟨c, ⟨Q, R⟩, h⟩ := A5 h
 refine tX (Am 6 [.o 1 0, .o 3 1, .x 4 c.1 (Ar c.2)] I ⟨⟨Q, Ae R⟩, I, I, J⟩ (tZ [] I (Bs W2 7 fun ae => tZ [2] I (Bj 2 0 0 [Ar c.2] I (tY ?_)))))
 subst P
 refine Me (pd 6 0 []) [2] [_] [.o 1 0, .o 3 0] I I J2 (Aj (fun s ob => ∃ (g : Int × Int), R9.J3 b g = some E ∧ s = [(9, .V g.1), (10, .V g.2)] ∧ ob = [O0 p [Ad a]]) (K6 1 2 5 11 12 13) J6 ?_ ?_)
 refine Bg [.o 1 1] I J1 (Ao h I ?_ ?_)
 intro S h
 exact Lj I (lg ⟨(c.2.To, c.2.From), h, I2⟩ [0])
 intro S h
 exact uA (lg ⟨(c.2.From, c.2.To), h, I2⟩ [0])
 rintro s ob ⟨g, h, rfl, rfl⟩
 unfold R9.J3 at h
 refine uD (Ea 48 (decide (b ≥ 0) && (g.1 != b)) ?_ ?_)
 refine tX (Af 3 I ?_)
 rcases bt (decide (b ≥ 0)) with i | i
 exact Ah 44 I i (Af 4 I (tY (jf (by simp only [i, bz]) I I I2)))
 exact Ah 44 I i (Af 4 I (tY (jf (by simp only [i, bz]) I I I2)))
 refine Ao h I ?_ ?_
 intro U h
 refine Ai I ?_
 obtain rfl := y _ (oi h).symm
 have h := n
 have h := Dj h
 refine uF g0 ?_
 cases io h
 exact uE pr
 intro U h
 refine uA (Lj I (tX (Am 2 [.k 0 (j + 1 : Nat)] I ⟨A6 w B, J⟩ ?_)))
 cases io h
 exact tY ⟨_, _, _, I, I2, J6, pk [0]⟩
 rintro b s ob ⟨rfl, rfl⟩ he
 subst he
 have h := Dk n
 have W := Cs d.length
 exact Ai I (Ab fun af ag => Br I W (uG (lg ⟨(), h, I2⟩ [])))
 rintro s ob ⟨u, h, rfl, rfl⟩
 unfold R9.J1 at h
 refine Bg [.l 1 (d.length : Int)] I ⟨A4, J⟩ ?_
 cases io h
 exact uE pr
theorem Pg (b : Int) (e : Int) (r : Int × Int) (h : Il b e = some r) : ACalls Ak 32 [.V b, .V e] [] (RV (.tup [.V r.1, .V r.2])) := by
 refine Ag Tryz.func32 I I I fun C hC => ?_
 unfold Il at h
 refine Ai I (uD (Ea 19 (decide (b < 0) || (decide (b > 1099511627776) || (decide (e < 1) || decide (e > 1000)))) ?_ ?_))
 refine tX (Af 3 I ?_)
 rcases bt (decide (b < 0)) with a | a
 exact Ah 8 I a (Af 11 I (tY (jf (by simp only [a, bz]) I I I2)))
 refine Ah 8 I a (Af 4 I ?_)
 rcases bt (decide (b > 1099511627776)) with d | d
 exact Ah 12 I d (Af 7 I (tY (jf (by simp only [a, d, bz]) I I I2)))
 refine Ah 12 I d (Af 4 I ?_)
 rcases bt (decide (e < 1)) with g | g
 exact Ah 16 I g (Af 3 I (tY (jf (by simp only [a, d, g, bz]) I I I2)))
 exact Ah 16 I g (Af 3 I (tY (jf (by simp only [a, d, g, bz]) I I I2)))
 refine Ao h I ?_ ?_
 intro j h
 refine Ai I ?_
 cases io h
 exact uE ⟨.inr I, [_, _], [], J2, B0, I2⟩
 intro j h
 refine uA (uD ?_)
 obtain ⟨i, k, h⟩ := Ac h
 refine Gd [.f 2 (.V i)] I ⟨uS (Ga (c := i) I I (Yo k)), J⟩ ?_
 cases io h
 exact uE ⟨.inr I, [_, _], [], J2, B0, I2⟩
theorem Ve (a : Nw) (g : List (List Piece)) (b : Int) (d : Int) (r : Int) (h : Ls a g b d = some r) : ACalls Ak 74 [.agg (Ad a), .list 1 (g.map (rL 2 Aa)), .V b, .V d] [] (RV (.V r)) := by
 refine Ag Tryz.func74 I I I fun C hC => ?_
 refine Ab fun w i => tX (tZ [] I (Cf (Ad a) 6 fun y => Af 1 I (tY ?_)))
 subst i
 refine Ab fun A j => uD ?_
 obtain ⟨B, k, h⟩ := Ac h
 refine tX (Am 1 [.o 0 0] I J1 (uJ (Ku _ _ k) (Af 1 I (tY (Ai I (Ao h I ?_ ?_))))))
 intro n h
 refine Ai I (uF g0 ?_)
 cases io h
 exact uE pr
 intro n h
 refine uA ?_
 subst j
 refine Ab fun D p => uD ?_
 obtain ⟨E, s, h⟩ := Ac h
 refine tX (Am 2 [.o 0 0] I J1 (uJ (Pd _ _ _ s) (Af 1 I (tY (Ai I (Ao h I ?_ ?_))))))
 intro t h
 refine Ai I (uF g0 ?_)
 cases io h
 exact uE pr
 intro t h
 refine uA ?_
 subst p
 refine uD (uB (Ea 22 (decide (b < 0) || decide (b ≥ (a.Ports.length : Int))) ?_ ?_))
 refine tX (Af 3 I ?_)
 rcases bt (decide (b < 0)) with e | e
 exact Ah 25 I e (Af 7 I (tY (jf (by simp only [e, bz]) I I I2)))
 exact Ah 25 I e (Am 7 [.o 2 0, .l 3 (a.Ports.length : Int)] I ⟨A4, I, J⟩ (tY (jf (by simp only [e, bz]) I I I2)))
 refine Ao h I ?_ ?_
 intro u h
 refine Ai I (uF g0 ?_)
 cases io h
 exact uE pr
 intro u h
 refine Ea 32 (decide (d < 0) || decide (d > 400)) ?_ ?_
 refine tX (Af 3 I ?_)
 rcases bt (decide (d < 0)) with f | f
 exact Ah 35 I f (Af 4 I (tY (jf (by simp only [f, bz]) I I I2)))
 exact Ah 35 I f (Af 4 I (tY (jf (by simp only [f, bz]) I I I2)))
 refine Ao h I ?_ ?_
 intro v h
 refine Ai I (uF g0 ?_)
 cases io h
 exact uE pr
 intro v h
 refine uA (Ai I (uF g0 ?_))
 cases io h
 exact uE pr
theorem Vo (a : Nw) (f : List (List Piece)) (b : List Hop) (g : Int) (r : Int × Bool × Int) (h : Rq a f b g = some r) : ACalls Ak 30 [.agg (Ad a), .list 1 (f.map (rL 2 Aa)), Q7 b, .V g] [] (RV (.tup [.V r.1, .v (.bool r.2.1), .V r.2.2])) := by
 refine Ag Tryz.func30 I I I fun C hC => ?_
 refine Ab fun y1 t => tX (tZ [] I (Cf (Ad a) 6 fun u => Af 3 I (tY ?_)))
 subst t
 refine Ab fun y3 w => uD ?_
 obtain ⟨r4, y, h⟩ := Ac h
 refine tX (Am 1 [.o 0 0] I J1 (uJ (Ku _ _ y) (Af 1 I (tY (Ai I (Ao h I ?_ ?_))))))
 intro A h
 refine Ai I (uF g0 ?_)
 cases io h
 exact uE ⟨.inr I, [_, _, _], [], J3, B0, I2⟩
 intro A h
 refine uA ?_
 subst w
 refine Ab fun y7 B => uD ?_
 obtain ⟨r8, D, h⟩ := Ac h
 refine tX (Am 2 [.o 0 0] I J1 (uJ (Pd _ _ _ D) (Af 1 I (tY (Ai I (Ao h I ?_ ?_))))))
 intro E h
 refine Ai I (uF g0 ?_)
 cases io h
 exact uE ⟨.inr I, [_, _, _], [], J3, B0, I2⟩
 intro E h
 refine uA ?_
 subst B
 refine Ab fun af F => uD ?_
 obtain ⟨ag, G, h⟩ := Ac h
 refine tX (Am 2 [.o 0 0] I J1 (uJ (jK _ _ _ G) (Af 1 I (tY (Ao h I ?_ ?_)))))
 intro H h
 refine Ai I (uF g0 ?_)
 cases io h
 exact uE ⟨.inr I, [_, _, _], [], J3, B0, I2⟩
 intro H h
 refine uA ?_
 subst F
 refine Ai I (Aj (fun s ob => ∃ (i : Unit), Rq.J1 i = some r ∧ s = [] ∧ ob = []) [] J ?_ ?_)
 refine Bg [.l 1 (b.length : Int)] I ⟨A4, J⟩ (uB ?_)
 obtain ⟨ah, K, j⟩ := Ac h
 refine Ci K (K4 1 2 3 4) J4 (fun (d : Int × Int) s ob => s = [(13, .V d.1), (14, .V d.2)] ∧ ob = [O0 u [Ad a]]) ⟨I, I⟩ ⟨I, I, J⟩ (pk [0]) ?_
 rintro d ai s ob ⟨rfl, rfl⟩ h k
 refine Ab fun aj M => Ai I (Ao h I ?_ ?_)
 intro N h
 refine uA ?_
 subst M
 refine uD (uB (Ab fun ak O => ?_))
 obtain ⟨e, ⟨P, Q⟩, h⟩ := A5 h
 refine tX (Am 4 [.x 2 e.1 (Df e.2)] I ⟨⟨P, Ae Q⟩, J⟩ (tZ [] I (Bs [.V 0, .v (.bool false)] 2 fun al => tZ [1] I (Bj 1 0 0 [Df e.2] I (tY ?_)))))
 subst O
 refine uD (Ab fun am R => ?_)
 obtain ⟨n, ⟨S, U⟩, h⟩ := A5 h
 obtain ⟨an, W, h⟩ := Ac h
 refine Bk (pd 14 0 [8]) [1] [_] I (Bv 8 [.o 2 0, .x 3 n.1 ((rL 2 Aa) n.2), .o 7 0] I ⟨I, ⟨S, Ae U⟩, I, J⟩ (uU I (Vs _ _ _ _ W) (A3 5 I (Ap (tY ?_)))))
 subst R
 refine Ai I (Ao h I ?_ ?_)
 intro X h
 refine Ai I ?_
 obtain rfl := k _ (oi h).symm
 have h := j
 have h := Dk h
 refine uF g0 ?_
 cases io h
 exact uE ⟨.inr I, [_, _, _], [], J3, B0, I2⟩
 intro X h
 refine uA ?_
 obtain ⟨p, ⟨Y, Z⟩, h⟩ := A5 h
 refine Gd [.o 2 0, .o 4 1, .x 5 p.1 (Ar p.2)] I ⟨⟨Y, Ae Z⟩, I, I, J⟩ (tX (Af 3 I ?_))
 cases io h
 exact tY ⟨_, _, _, I, I2, J6, pk [0]⟩
 intro N h
 obtain rfl := k _ (oi h).symm
 have h := j
 have h := Dj h
 exact uG (lg ⟨(), h, I2⟩ [])
 rintro s ob ⟨i, h, rfl, rfl⟩
 unfold Rq.J1 at h
 refine Ai I ?_
 cases io h
 exact uE ⟨.inr I, [_, _, _], [], J3, B0, I2⟩
theorem Vj (b : Nw) (P : List (List Piece)) (e : Plan) (Q : Li) (R : Int) (F : Int) (i : Int) (r : Int × Bool × Int) (h : Lu b P e Q R F i = some r) : ACalls Ak 36 [.agg (Ad b), .list 1 (P.map (rL 2 Aa)), .agg (Aq e), Q0 Q, .V R, .V F, .V i] [] (RV (.tup [.V r.1, .v (.bool r.2.1), .V r.2.2])) := by
 refine Ag Tryz.func36 I I I fun C hC => ?_
 refine Ab fun y1 Y => tX (tZ [] I (Cf (Ad b) 6 fun j => tZ [] I (Cf (Aq e) 3 fun n => Af 3 I (tY ?_))))
 subst Y
 refine Ab fun y4 Z => uD ?_
 obtain ⟨r5, aa, h⟩ := Ac h
 refine tX (Am 4 [.o 0 0] I J1 (uJ (Ve _ _ _ _ _ aa) (Af 1 I (tY (Ai I (Ao h I ?_ ?_))))))
 intro ab h
 refine Ai I (uF g0 ?_)
 cases io h
 exact uE ⟨.inr I, [_, _, _], [], J3, B0, I2⟩
 intro ab h
 refine uA ?_
 subst Z
 refine Ai I (Aj (fun s ob => ∃ (G : Int × Bool), Lu.J1 G = some r ∧ s = [(18, .V G.1), (19, .v (.bool G.2))] ∧ ob = []) [] J ?_ ?_)
 refine Ai I (uB ?_)
 obtain ⟨a5, ac, h⟩ := Ac h
 have ad : i.toNat ≤ 9223372036854775806 := by have := J0 ac; omega
 obtain ⟨a6, ae, S⟩ := Ac h
 refine Gj ae (K6 3 4 5 7 9 34) J6 (fun (w : Nat) (f : (List (List Piece)) × Int × Bool) s ob => s = [(35, .V (w : Int)), (1, .list 1 (f.1.map (rL 2 Aa))), (18, .V f.2.1), (19, .v (.bool f.2.2))] ∧ ob = [O0 j [Ad b], O1 n [Aq e]]) ⟨I, I⟩ ⟨I, I, I, I, J⟩ (pk [0, 1]) ?_ ?_
 rintro w f U s ob af ⟨rfl, rfl⟩ h ag
 unfold Lu.B2 at h
 have ah : decide ((w : Int) < i) = true := decide_eq_true (by omega)
 refine Ai I (Ab fun a7 ai => Bq I ah (uA ?_))
 subst ai
 refine Aj (fun s ob => ∃ (g : (List (List Piece)) × Int × Bool) (H : Value), Lu.J3 g = some U ∧ s = [(1, .v H), (18, .V g.2.1), (19, .v (.bool g.2.2))] ∧ ob = [O0 j [Ad b], O1 n [Aq e], .us H 34 1 (g.1.map (rL 2 Aa))]) (K7 3 4 5 7 9 34 35) J7 ?_ ?_
 refine uB (Ai I (Ab fun a8 aj => ?_))
 obtain ⟨A, ak, h⟩ := Ac h
 refine tX (Am 4 [.o 0 0, .o 2 1] I J2 (tZ [] I (Bh I I I (Vu _ _ _ _ _ ak) dS ?_)))
 rintro _ _ ⟨M, a9, rfl, rfl⟩
 refine Af 7 I (tY ?_)
 subst aj
 refine Ab fun ba al => Ai I (Ao h I ?_ ?_)
 intro am h
 refine Ai I ?_
 obtain rfl := ag _ (oi h).symm
 have h := S
 have h := Dj h
 refine uF g0 ?_
 cases io h
 exact uE ⟨.inr I, [_, _, _], [], J3, B0, I2⟩
 intro am h
 refine uA ?_
 subst al
 refine Aj (fun s ob => ∃ (p : Int × Bool), Lu.J4 A p = some U ∧ s = [(18, .V p.1), (19, .v (.bool p.2))] ∧ ob = [O0 j [Ad b], O1 n [Aq e], .us M 34 1 (A.1.map (rL 2 Aa))]) (K8 3 4 5 7 9 21 34 35) J8 ?_ ?_
 refine Ab fun bb an => ?_
 obtain ⟨B, ⟨ao, W⟩, h⟩ := A5 h
 refine tX (Af 2 I (uI (Bc 3 (m := B.1) I I I I I I I ao (Ae W)) I (uI (Ay 3 B.1 0 I I I (Ae W) I (y := Q2 B.2) I) I (Am 2 [.l 0 (B.2.length : Int)] I ⟨A4, J⟩ (tY ?_)))))
 subst an
 refine uB (Cg 53 I fun ap => ?_)
 obtain ⟨bc, aq, ar⟩ := Ac h
 refine Cl aq [(3, _), (4, _), (5, _), (7, _), (9, _), (20, _), (21, _), (34, _), (35, _), (53, _), (54, _)] oL (fun (N : Nat) (a : Int × Bool) s ob => s = [(55, .V (N : Int)), (18, .V a.1), (19, .v (.bool a.2))] ∧ ob = [O0 j [Ad b], O1 n [Aq e], .us M 34 1 (A.1.map (rL 2 Aa))]) ⟨I, I⟩ ⟨I, I, I, J⟩ (pk N3) ?_ ?_
 rintro N D a au s ob av X ⟨rfl, rfl⟩ h
 unfold Lu.B5 at h
 have aw := Cr X
 refine Ai I (Ab fun bd ax => Bq I aw (uA ?_))
 subst ax
 refine Aj (fun s ob => ∃ (O : Int × Bool), Lu.J6 O = some au ∧ s = [(18, .V O.1), (19, .v (.bool O.2))] ∧ ob = [O0 j [Ad b], O1 n [Aq e], .us M 34 1 (A.1.map (rL 2 Aa))]) [(3, _), (4, _), (5, _), (7, _), (9, _), (20, _), (21, _), (34, _), (35, _), (53, _), (54, _), (55, _)] rG ?_ ?_
 refine uB (Ab fun be ay => tX (Am 2 [.x 0 N (Aa D)] I ⟨⟨I, Ae av⟩, J⟩ (tZ [] I (Bs [.V 0, .V 0] 2 fun bf => tZ [3] I (Bj 3 0 0 [Aa D] I (tY ?_))))))
 subst ay
 refine Ea 71 ((!a.2) && ((D.Batch == F) && decide (D.Volume > 0))) ?_ ?_
 refine tX (Af 3 I ?_)
 rcases bt ((!a.2)) with u | u
 refine Ah 61 I u (Am 6 [.o 1 3] I J1 ?_)
 rcases bt ((D.Batch == F)) with E | E
 exact Ah 67 I E (Am 4 [.o 1 3] I J1 (tY (jf (by simp only [u, E, bz]) I I I2)))
 exact Ah 67 I E (Af 4 I (tY (jf (by simp only [u, E, bz]) I I I2)))
 exact Ah 61 I u (Af 10 I (tY (jf (by simp only [u, bz]) I I I2)))
 refine Ao h I ?_ ?_
 intro az h
 exact Lj I (lg ⟨((w : Int), true), h, I2⟩ N3)
 intro az h
 exact uA (lg ⟨(a.1, a.2), h, I2⟩ N3)
 rintro s ob ⟨O, h, rfl, rfl⟩
 unfold Lu.J6 at h
 refine tX (Am 2 [.k 0 (N + 1 : Nat)] I ⟨A6 X ap, J⟩ ?_)
 cases io h
 exact tY (lg I2 N3)
 rintro a s ob ⟨rfl, rfl⟩ he
 subst he
 have h := ar
 have a0 := Cs B.2.length
 exact Ai I (Ab fun bg bh => Br I a0 (uG (lg ⟨(a.1, a.2), h, I2⟩ N3)))
 rintro s ob ⟨p, h, rfl, rfl⟩
 unfold Lu.J4 at h
 exact Lj I (lg ⟨(A.1, p.1, p.2), M, h, I2⟩ N3)
 rintro s ob ⟨g, H, h, rfl, rfl⟩
 unfold Lu.J3 at h
 refine tX (Am 2 [.k 0 (w + 1 : Nat)] I ⟨A6 af ad, J⟩ (uP (Ax [2] (K := [.us H 34 1 (g.1.map (rL 2 Aa))]) I [(1, .list 1 (g.1.map (rL 2 Aa)))] ⟨⟨_, I, .us 0 I⟩, J⟩ (ob' := [O0 j [Ad b], O1 n [Aq e]]) (.rest _)) ?_))
 cases io h
 exact tY ⟨_, _, _, I, I2, oM, pk [0, 1]⟩
 rintro f s ob ⟨rfl, rfl⟩ he
 subst he
 have h := Dk S
 have a1 : decide (((i.toNat : Nat) : Int) < i) = false := decide_eq_false (by omega)
 exact Ai I (Ab fun bi bj => Br I a1 (uG (lg ⟨(f.2.1, f.2.2), h, I2⟩ [])))
 rintro s ob ⟨G, h, rfl, rfl⟩
 unfold Lu.J1 at h
 refine Ai I ?_
 cases io h
 exact uE ⟨.inr I, [_, _, _], [], J3, B0, I2⟩
theorem gF (e : Nw) (ab : List (List Piece)) (f : Plan) (ac : Li) (ad : Int) (A : Int) (r : (List Lot) × Int) (h : Nu e ab f ac ad A = some r) : ACalls Ak 34 [.agg (Ad e), .list 1 (ab.map (rL 2 Aa)), .agg (Aq f), Q0 ac, .V ad, .V A] [] (fun x new => ∃ (u0 : Value), x = .tup [.v u0, .V r.2] ∧ new = [U5 u0 r.1]) := by
 refine Ag Tryz.func34 I I I fun C hC => ?_
 refine Ab fun y1 al => tX (tZ [] I (Cf (Ad e) 6 fun j => tZ [] I (Cf (Aq f) 3 fun n => Af 2 I (tY ?_))))
 subst al
 refine Ab fun y4 am => uD ?_
 obtain ⟨r5, an, h⟩ := Ac h
 refine tX (Am 4 [.o 0 0] I J1 (uJ (Ve _ _ _ _ _ an) (Af 1 I (tY (Ai I (Ao h I ?_ ?_))))))
 intro ao h
 refine Ai I (uF (Az 129 3) (C9 [2] I ?_))
 cases io h
 exact uE ⟨.inr I, [_, _], [.us nS 129 3 ([].map E1)], J2, Cb I (B0), ⟨nS, I2⟩⟩
 intro ao h
 refine uA ?_
 subst am
 refine Ai I (Aj (fun s ob => ∃ (Q : List Lot) (F : Value), Nu.J1 Q = some r ∧ s = [(15, .v F)] ∧ ob = [U5 F Q]) [] J ?_ ?_)
 refine Ai I (uB ?_)
 obtain ⟨bs, aq, h⟩ := Ac h
 have ar : A.toNat ≤ 9223372036854775806 := by have := J0 aq; omega
 refine uF (Az 129 3) ?_
 obtain ⟨bu, au, af⟩ := Ac h
 refine Gj au (K5 3 4 6 8 31) J5 (fun (u : Nat) (G : (List (List Piece)) × (List Lot)) s ob => ∃ (B : Value), s = [(32, .V (u : Int)), (1, .list 1 (G.1.map (rL 2 Aa))), (15, .v B)] ∧ ob = [O0 j [Ad e], O1 n [Aq f], U5 B G.2]) ⟨nS, I2⟩ ⟨I, I, I, J⟩ (pk N3) ?_ ?_
 rintro u G ag s ob av ⟨B, rfl, rfl⟩ h aw
 unfold Nu.B2 at h
 have ax : decide ((u : Int) < A) = true := decide_eq_true (by omega)
 refine Ai I (Ab fun bv ay => Bq I ax (uA ?_))
 subst ay
 refine Aj (fun s ob => ∃ (w : (List (List Piece)) × (List Lot)) (R : Value) (H : Value), Nu.J3 w = some ag ∧ s = [(1, .v R), (15, .v H)] ∧ ob = [O0 j [Ad e], O1 n [Aq f], U5 H w.2, .us R 34 1 (w.1.map (rL 2 Aa))]) (K6 3 4 6 8 31 32) J6 ?_ ?_
 refine uB (Ai I (Ab fun bw az => ?_))
 obtain ⟨D, a0, h⟩ := Ac h
 refine tX (Am 4 [.o 0 0, .o 2 1] I J2 (tZ [] I (Bh I I I (Vu _ _ _ _ _ a0) dS ?_)))
 rintro _ _ ⟨M, bx, rfl, rfl⟩
 refine Af 7 I (tY ?_)
 subst az
 refine Ab fun bz a1 => Ai I (Ao h I ?_ ?_)
 intro a2 h
 refine Ai I ?_
 obtain rfl := aw _ (oi h).symm
 have h := af
 have h := Dj h
 refine uF (Az 129 3) (C9 [5] I ?_)
 cases io h
 exact uE ⟨.inr I, [_, _], [.us nS 129 3 ([].map E1)], J2, Cb I (B0), ⟨nS, I2⟩⟩
 intro a2 h
 refine uA ?_
 subst a1
 refine Aj (fun s ob => ∃ (S : List Lot) (U : Value), Nu.J4 D S = some ag ∧ s = [(15, .v U)] ∧ ob = [O0 j [Ad e], O1 n [Aq f], U5 U S, .us M 34 1 (D.1.map (rL 2 Aa))]) (K7 3 4 6 8 17 31 32) J7 ?_ ?_
 refine Ab fun b0 a3 => ?_
 obtain ⟨N, ⟨a4, ah⟩, h⟩ := A5 h
 refine tX (Af 2 I (uI (Bc 4 (m := N.1) I I I I I I I a4 (Ae ah)) I (uI (Ay 4 N.1 0 I I I (Ae ah) I (y := Q2 N.2) I) I (Am 2 [.l 0 (N.2.length : Int)] I ⟨A4, J⟩ (tY ?_)))))
 subst a3
 refine uB (Cg 50 I fun a5 => ?_)
 obtain ⟨b1, a6, a7⟩ := Ac h
 refine Cl a6 (sV 3 4 6 8 16 17 31 32 50 51) oM (fun (W : Nat) (g : List Lot) s ob => ∃ (i : Value), s = [(52, .V (W : Int)), (15, .v i)] ∧ ob = [O0 j [Ad e], O1 n [Aq f], U5 i g, .us M 34 1 (D.1.map (rL 2 Aa))]) ⟨B, I2⟩ ⟨I, I, J⟩ (pk N4) ?_ ?_
 rintro W b g ai s ob a8 aj ⟨i, rfl, rfl⟩ h
 unfold Nu.B5 at h
 have a9 := Cr aj
 refine Ai I (Ab fun b4 ba => Bq I a9 (uA ?_))
 subst ba
 refine Aj (fun s ob => ∃ (Y : List Lot) (X : Value), Nu.J6 Y = some ai ∧ s = [(15, .v X)] ∧ ob = [O0 j [Ad e], O1 n [Aq f], U5 X Y, .us M 34 1 (D.1.map (rL 2 Aa))]) [(3, _), (4, _), (6, _), (8, _), (16, _), (17, _), (31, _), (32, _), (50, _), (51, _), (52, _)] oL ?_ ?_
 refine uB (Ab fun b5 bb => tX (Am 2 [.x 0 W (Aa b)] I ⟨⟨I, Ae a8⟩, J⟩ (tZ [] I (Bs [.V 0, .V 0] 2 fun bc => tZ [4] I (Bj 4 0 0 [Aa b] I (tY ?_))))))
 subst bb
 refine Ab fun b6 bd => tX (Af 1 I (uI (Bp 2 I I I I) I (Af 2 I (tY ?_))))
 subst bd
 refine Aj (fun s ob => ∃ (Z : Bool), Nu.J7 u b g Z = some ai ∧ s = [(70, .v (.bool Z))] ∧ ob = [O0 j [Ad e], O1 n [Aq f], U5 i g, .us M 34 1 (D.1.map (rL 2 Aa)), O8 bc [Aa b]]) [(3, _), (4, _), (6, _), (8, _), (15, _), (16, _), (17, _), (21, _), (22, _), (31, _), (32, _), (50, _), (51, _), (52, _)] rE ?_ ?_
 rcases bt (decide ((wr ((g.length : Int) - 1)) ≥ 0)) with O | O
 have h := Cc O h
 obtain ⟨P, ⟨be, aa⟩, h⟩ := A5 h
 exact Bz 2 P.1 I aa fun bf => Bk (pd 12 0 []) [2, 4] [_, _] I (A3 3 I (A9 61 I O (A3 2 I (Dd I I I I ((Av (m := P.1) I I I I I bf I be aa).yd) dS (A3 1 I (Dd I I I I (Ay 0 P.1 0 I I I (Ae aa) I (y := .V P.2.Batch) I) dS (Bv 4 [.o 1 1] I J1 (Ap (tY (lg ⟨(P.2.Batch == b.Batch), h, I2⟩ N5))))))))))
 have h := Cd O h
 exact Bk (pd 12 0 []) [] [] I (A3 3 I (A9 61 I O (A3 9 I (Ap (tY (lg ⟨false, h, I2⟩ N5))))))
 rintro s ob ⟨Z, h, rfl, rfl⟩
 refine Ao h I ?_ ?_
 intro bg h
 obtain ⟨a, ⟨ak, E⟩, h⟩ := A5 h
 exact Bz 2 a.1 I E fun bh => Bz 2 a.1 I E fun bi => Bk (sl 10 0 (.drop 10 .nil)) [2, 4] [_, _] I (A3 2 I (uN I (Av (m := a.1) I I I I I bh I ak E) I (A3 1 I (AP.o I (Ay 0 a.1 1 I I I (Ae E) I (y := .V a.2.Volume) I) I (Bv 3 [.o 1 1] I J1 (uN I (Av (m := a.1) I I I I I bi I ak E) I (A3 1 I (uR [2] I I I (Bd 2 a.1 1 I I I (Ae E) I I I I (Ba I) I (Ce (x := (⟨a.2.Batch, wr (a.2.Volume + b.Volume), a.2.Done⟩ : Lot)) I) (Ap (tY (lg ⟨(g.set a.1 (⟨a.2.Batch, wr (a.2.Volume + b.Volume), a.2.Done⟩ : Lot)), i, h, I2⟩ N4))))))))))))
 intro bg h
 refine Bg [.o 1 4] I J1 (Ao h I ?_ ?_)
 intro bj h
 obtain ⟨bk, bl, h⟩ := Ac h
 exact tX (Am 6 [.o 2 4, .o 4 4] I J2 (uK (Bl (l := [.V b.Batch, .V b.Volume, .V (u : Int)]) Pu I) I (tZ [] I (uH 3 (([(⟨b.Batch, b.Volume, (u : Int)⟩ : Lot)] : List Lot).map E1) (tZ [2] I (uO 2 I bl fun bm => Af 1 I (tY (lg ⟨bk, bm, h, I2⟩ N4))))))))
 intro bj h
 exact uA (lg ⟨g, i, h, I2⟩ N4)
 rintro s ob ⟨Y, X, h, rfl, rfl⟩
 unfold Nu.J6 at h
 refine tX (Am 2 [.k 0 (W + 1 : Nat)] I ⟨A6 aj a5, J⟩ ?_)
 cases io h
 exact tY (lg ⟨X, I2⟩ N4)
 rintro g s ob ⟨i, rfl, rfl⟩ he
 subst he
 have h := a7
 have bn := Cs N.2.length
 exact Ai I (Ab fun b7 b8 => Br I bn (uG (lg ⟨g, i, h, I2⟩ N4)))
 rintro s ob ⟨S, U, h, rfl, rfl⟩
 unfold Nu.J4 at h
 exact Lj I (lg ⟨(D.1, S), M, U, h, I2⟩ N4)
 rintro s ob ⟨w, R, H, h, rfl, rfl⟩
 unfold Nu.J3 at h
 refine tX (Am 2 [.k 0 (u + 1 : Nat)] I ⟨A6 av ar, J⟩ (uP (Ax [3] (K := [.us R 34 1 (w.1.map (rL 2 Aa))]) I [(1, .list 1 (w.1.map (rL 2 Aa)))] ⟨⟨_, I, .us 0 I⟩, J⟩ (ob' := [O0 j [Ad e], O1 n [Aq f], U5 H w.2]) (.rest _)) ?_))
 cases io h
 exact tY ⟨_, _, _, I, ⟨H, I2⟩, J8, pk N3⟩
 rintro G s ob ⟨B, rfl, rfl⟩ he
 subst he
 have h := Dk af
 have bo : decide (((A.toNat : Nat) : Int) < A) = false := decide_eq_false (by omega)
 exact Ai I (Ab fun b9 ca => Br I bo (uG (lg ⟨G.2, B, h, I2⟩ [2])))
 rintro s ob ⟨Q, F, h, rfl, rfl⟩
 unfold Nu.J1 at h
 refine Ai I ?_
 cases io h
 exact uE ⟨.inr I, [_, _], [U5 F Q], J2, Cb I (B0), ⟨F, I2⟩⟩
theorem Vr (a : List Piece) (d : Int) (f : Bool) (r : Int × Bool) (h : N2 a d f = some r) : ACalls Ak 71 [Q2 a, .V d, .v (.bool f)] [] (RV (.tup [.V r.1, .v (.bool r.2)])) := by
 refine Ag Tryz.func71 I I I fun C hC => ?_
 unfold N2 at h
 refine Ai I (Ai I (Aj (fun s ob => ∃ (g : Unit), N2.J1 g = some r ∧ s = [] ∧ ob = []) [] J ?_ ?_))
 refine Ai I (uB ?_)
 obtain ⟨A, n, i⟩ := Ac h
 refine Ci n (K3 0 1 2) J3 (fun (b : Int × Int) s ob => s = [(8, .V b.1), (9, .V b.2)] ∧ ob = []) ⟨I, I⟩ ⟨I, I, J⟩ (pk []) ?_
 rintro b o s ob ⟨rfl, rfl⟩ h j
 refine Ab fun B p => Bg [.l 2 (a.length : Int)] I ⟨A4, J⟩ (Ao h I ?_ ?_)
 intro u h
 refine uA ?_
 subst p
 refine uD (uB (Bg [.l 1 (a.length : Int)] I ⟨A4, J⟩ (Aj (fun s ob => ∃ (e : Int), N2.J3 a d b e = some o ∧ s = [(10, .V e)] ∧ ob = []) (K5 0 1 2 8 9) J5 ?_ ?_)))
 refine Ai I (Ao h I ?_ ?_)
 intro w h
 exact Lj I (lg ⟨b.2, h, I2⟩ [])
 intro w h
 exact uA (lg ⟨wr ((wr ((a.length : Int) - 1)) - b.2), h, I2⟩ [])
 rintro s ob ⟨e, h, rfl, rfl⟩
 refine uD (uD ?_)
 obtain ⟨c, ⟨k, m⟩, h⟩ := A5 h
 refine Gd [.x 2 c.1 (Aa c.2)] I ⟨⟨k, Ae m⟩, J⟩ (Ao h I ?_ ?_)
 intro y h
 refine Ai I ?_
 obtain rfl := j _ (oi h).symm
 have h := i
 have h := Dk h
 cases io h
 exact uE ⟨.inr I, [_, _], [], J2, B0, I2⟩
 intro y h
 refine uA (Gd [.x 3 c.1 (Aa c.2)] I ⟨⟨k, Ae m⟩, J⟩ (tX (Af 3 I ?_)))
 cases io h
 exact tY ⟨_, _, _, I, I2, J5, pk []⟩
 intro u h
 obtain rfl := j _ (oi h).symm
 have h := i
 have h := Dj h
 exact uG (lg ⟨(), h, I2⟩ [])
 rintro s ob ⟨g, h, rfl, rfl⟩
 unfold N2.J1 at h
 refine Ai I ?_
 cases io h
 exact uE ⟨.inr I, [_, _], [], J2, B0, I2⟩
theorem gJ (a : List Piece) (b : Int) (d : Bool) (r : Int × Bool × Int) (h : Wm a b d = some r) : ACalls Ak 29 [Q2 a, .V b, .v (.bool d)] [] (RV (.tup [.V r.1, .v (.bool r.2.1), .V r.2.2])) := by
 refine Ag Tryz.func29 I I I fun C hC => ?_
 refine Ai I (Ab fun j e => uD ?_)
 obtain ⟨k, f, h⟩ := Ac h
 refine tX (Af 1 I (uJ (Vg _ _ f) (Af 1 I (tY (Ao h I ?_ ?_)))))
 intro g h
 refine Ai I ?_
 cases io h
 exact uE ⟨.inr I, [_, _, _], [], J3, B0, I2⟩
 intro g h
 refine uA ?_
 subst e
 refine uD ?_
 obtain ⟨l, i, h⟩ := Ac h
 refine tX (Af 3 I (uJ (Vr _ _ _ _ i) (Af 5 I (tY (Ai I ?_)))))
 cases io h
 exact uE ⟨.inr I, [_, _, _], [], J3, B0, I2⟩
theorem Pc (a : Nw) (b : Hop) (r : Int × Int) (h : Lr a b = some r) : ACalls Ak 103 [.agg (Ad a), .agg (Df b)] [] (RV (.tup [.V r.1, .V r.2])) := by
 refine Ag Tryz.func103 I I I fun C hC => ?_
 refine Ab fun j d => tX (tZ [] I (Cf (Ad a) 6 fun k => tZ [] I (Cf (Df b) 2 fun l => Af 2 I (tY ?_))))
 subst d
 refine Ab fun n e => ?_
 obtain ⟨c, ⟨f, g⟩, h⟩ := A5 h
 refine tX (Am 6 [.o 1 0, .o 3 1, .x 4 c.1 (Ar c.2)] I ⟨⟨f, Ae g⟩, I, I, J⟩ (tZ [] I (Bs W2 7 fun p => tZ [2] I (Bj 2 0 0 [Ar c.2] I (tY ?_)))))
 subst e
 refine uD (Bg [.o 1 1] I J1 (Ao h I ?_ ?_))
 intro i h
 refine Me (pd 6 0 []) [2] [_] [.o 1 0, .o 3 0] I I J2 (uF g0 ?_)
 cases io h
 exact uE ⟨.inr I, [_, _], [], J2, B0, I2⟩
 intro i h
 refine uA (Me (pd 6 0 []) [2] [_] [.o 1 0, .o 3 0] I I J2 (uF g0 ?_))
 cases io h
 exact uE ⟨.inr I, [_, _], [], J2, B0, I2⟩
theorem gL (a : Nw) (d : List Hop) (r : Int) (h : Wo a d = some r) : ACalls Ak 73 [.agg (Ad a), Q7 d] [] (RV (.V r)) := by
 refine Ag Tryz.func73 I I I fun C hC => ?_
 refine Ab fun y1 E => tX (tZ [] I (Cf (Ad a) 6 fun f => Af 1 I (tY ?_)))
 subst E
 refine Ab fun y3 F => Bg [.l 1 (d.length : Int)] I ⟨A4, J⟩ (Ao h I ?_ ?_)
 intro G h
 refine Ai I (uF g0 ?_)
 cases io h
 exact uE pr
 intro G h
 refine uA ?_
 subst F
 refine Aj (fun s ob => ∃ (n : Unit), Wo.J1 a d n = some r ∧ s = [] ∧ ob = [O0 f [Ad a]]) (K2 1 2) J2 ?_ ?_
 refine Ai I (uB ?_)
 obtain ⟨ae, H, p⟩ := Ac h
 refine Ci H (K2 1 2) J2 (fun (g : Int) s ob => s = [(5, .V g)] ∧ ob = [O0 f [Ad a]]) ⟨I, I⟩ ⟨I, J⟩ (pk [0]) ?_
 rintro g K s ob ⟨rfl, rfl⟩ h t
 refine Ab fun af M => Bg [.l 2 (d.length : Int)] I ⟨A4, J⟩ (Ao h I ?_ ?_)
 intro N h
 refine uA ?_
 subst M
 refine uD (uB (Aj (fun s ob => ∃ (i : Bool), Wo.J5 g i = some K ∧ s = [(36, .v (.bool i))] ∧ ob = [O0 f [Ad a]]) (K3 1 2 5) J3 ?_ ?_))
 obtain ⟨b, ⟨j, k⟩, h⟩ := A5 h
 rcases bt (decide (b.2.Segment < 0)) with e | e
 have h := Cc e h
 exact Bk (pd 17 0 []) [] [] I (Bv 7 [.x 2 b.1 (Df b.2)] I ⟨⟨j, Ae k⟩, J⟩ (A9 26 I e (A3 10 I (Ap (tY (lg ⟨true, h, I2⟩ [0]))))))
 have h := Cd e h
 exact Bk (pd 17 0 []) [0] [_] I (Bv 7 [.x 2 b.1 (Df b.2)] I ⟨⟨j, Ae k⟩, J⟩ (A9 26 I e (Bv 10 [.x 2 b.1 (Df b.2), .o 6 0, .l 7 (a.Segments.length : Int)] I ⟨A4, I, ⟨j, Ae k⟩, J⟩ (Ap (tY (lg ⟨decide (b.2.Segment ≥ (a.Segments.length : Int)), h, I2⟩ [0]))))))
 rintro s ob ⟨i, h, rfl, rfl⟩
 refine Ao h I ?_ ?_
 intro O h
 refine Ai I ?_
 obtain rfl := t _ (oi h).symm
 have h := p
 have h := Dk h
 refine uF g0 ?_
 cases io h
 exact uE pr
 intro O h
 refine uA (tX (Af 3 I ?_))
 cases io h
 exact tY ⟨_, _, _, I, I2, J3, pk [0]⟩
 intro N h
 obtain rfl := t _ (oi h).symm
 have h := p
 have h := Dj h
 exact uG (lg ⟨(), h, I2⟩ [0])
 rintro s ob ⟨n, h, rfl, rfl⟩
 unfold Wo.J1 at h
 refine Aj (fun s ob => ∃ (u : Unit), Wo.J2 u = some r ∧ s = [] ∧ ob = []) [] J ?_ ?_
 refine Ai I (uB ?_)
 obtain ⟨ag, P, w⟩ := Ac h
 refine Ci P (K2 1 2) J2 (fun (y : Int) s ob => s = [(6, .V y)] ∧ ob = [O0 f [Ad a]]) ⟨I, I⟩ ⟨I, J⟩ (pk [0]) ?_
 rintro y ah s ob ⟨rfl, rfl⟩ h A
 refine Ab fun ai Q => Bg [.l 2 (d.length : Int)] I ⟨A4, J⟩ (Ao h I ?_ ?_)
 intro R h
 refine uA ?_
 subst Q
 refine uD (uB (Ab fun aj S => ?_))
 obtain ⟨B, ⟨U, W⟩, h⟩ := A5 h
 obtain ⟨ak, X, h⟩ := Ac h
 refine Bk (pd 12 0 [6]) [0] [_] I (Bv 6 [.o 0 0, .x 4 B.1 (Df B.2)] I ⟨⟨U, Ae W⟩, I, J⟩ (uU I (Pc _ _ _ X) (A3 5 I (Ap (tY ?_)))))
 subst S
 refine uD ?_
 obtain ⟨D, ⟨Y, Z⟩, h⟩ := A5 h
 obtain ⟨al, aa, h⟩ := Ac h
 refine Bk (pd 11 0 [5]) [0] [_] I (Bv 5 [.o 0 0, .x 3 D.1 (Df D.2)] I ⟨⟨Y, Ae Z⟩, I, J⟩ (uU I (Pc _ _ _ aa) (A3 5 I (Ap (tY (Ai I (Ao h I ?_ ?_)))))))
 intro ab h
 refine Ai I ?_
 obtain rfl := A _ (oi h).symm
 have h := w
 have h := Dk h
 refine uF g0 ?_
 cases io h
 exact uE pr
 intro ab h
 refine uA (tX (Af 3 I ?_))
 cases io h
 exact tY ⟨_, _, _, I, I2, J3, pk [0]⟩
 intro R h
 obtain rfl := A _ (oi h).symm
 have h := w
 have h := Dj h
 exact uG (lg ⟨(), h, I2⟩ [])
 rintro s ob ⟨u, h, rfl, rfl⟩
 unfold Wo.J2 at h
 refine Ai I ?_
 cases io h
 exact uE pr
theorem iM (b : Nw) (i : List (List Piece)) (d : List Hop) (j : Int) (r : Int × Bool × Int) (h : W7 b i d j = some r) : ACalls Ak 31 [.agg (Ad b), .list 1 (i.map (rL 2 Aa)), Q7 d, .V j] [] (RV (.tup [.V r.1, .v (.bool r.2.1), .V r.2.2])) := by
 refine Ag Tryz.func31 I I I fun C hC => ?_
 refine Ab fun y1 w => tX (tZ [] I (Cf (Ad b) 6 fun y => Af 3 I (tY ?_)))
 subst w
 refine Ab fun y3 A => uD ?_
 obtain ⟨r4, B, h⟩ := Ac h
 refine tX (Am 1 [.o 0 0] I J1 (uJ (Kt _ _ B) (Af 1 I (tY (Ai I (Ao h I ?_ ?_))))))
 intro D h
 refine Ai I (uF g0 ?_)
 cases io h
 exact uE ⟨.inr I, [_, _, _], [], J3, B0, I2⟩
 intro D h
 refine uA ?_
 subst A
 refine Ab fun y7 E => uD ?_
 obtain ⟨r8, F, h⟩ := Ac h
 refine tX (Am 2 [.o 0 0] I J1 (uJ (Pe _ _ _ F) (Af 1 I (tY (Ai I (Ao h I ?_ ?_))))))
 intro G h
 refine Ai I (uF g0 ?_)
 cases io h
 exact uE ⟨.inr I, [_, _, _], [], J3, B0, I2⟩
 intro G h
 refine uA ?_
 subst E
 refine Ab fun af H => uD ?_
 obtain ⟨ag, K, h⟩ := Ac h
 refine tX (Am 2 [.o 0 0] I J1 (uJ (gL _ _ _ K) (Af 1 I (tY (Ai I (Ao h I ?_ ?_))))))
 intro M h
 refine Ai I (uF g0 ?_)
 cases io h
 exact uE ⟨.inr I, [_, _, _], [], J3, B0, I2⟩
 intro M h
 refine uA ?_
 subst H
 refine Ai I (Aj (fun s ob => ∃ (k : Unit), W7.J1 k = some r ∧ s = [] ∧ ob = []) [] J ?_ ?_)
 refine Bg [.l 1 (d.length : Int)] I ⟨A4, J⟩ (uB ?_)
 obtain ⟨ah, N, n⟩ := Ac h
 refine Ci N (K4 1 2 3 4) J4 (fun (e : Int × Int) s ob => s = [(14, .V e.1), (15, .V e.2)] ∧ ob = [O0 y [Ad b]]) ⟨I, I⟩ ⟨I, I, J⟩ (pk [0]) ?_
 rintro e ai s ob ⟨rfl, rfl⟩ h p
 refine Ab fun aj O => Ai I (Ao h I ?_ ?_)
 intro P h
 refine uA ?_
 subst O
 refine uD (uB (Ab fun ak Q => Ab fun al R => ?_))
 obtain ⟨a, ⟨f, g⟩, h⟩ := A5 h
 obtain ⟨t, ⟨S, U⟩, h⟩ := A5 h
 obtain ⟨am, W, h⟩ := Ac h
 refine Bk (pd 20 0 [14]) [] [] I (Bv 14 [.x 3 a.1 (Df a.2), .x 6 t.1 ((rL 2 Aa) t.2), .x 11 a.1 (Df a.2)] I ⟨⟨f, Ae g⟩, ⟨S, Ae U⟩, ⟨f, Ae g⟩, J⟩ (uU I (Vr _ _ _ _ W) (A3 5 I (Ap (tY ?_)))))
 subst R
 refine Ai I (Ao h I ?_ ?_)
 intro X h
 refine Ai I ?_
 obtain rfl := p _ (oi h).symm
 have h := n
 have h := Dk h
 refine uF g0 ?_
 cases io h
 exact uE ⟨.inr I, [_, _, _], [], J3, B0, I2⟩
 intro X h
 refine uA ?_
 subst Q
 obtain ⟨u, ⟨Y, Z⟩, h⟩ := A5 h
 refine Ya (pd 13 0 []) [0] [_] [.o 2 0, .x 5 a.1 (Df a.2), .x 8 u.1 (Ar u.2)] I I ⟨⟨Y, Ae Z⟩, ⟨f, Ae g⟩, I, J⟩ (tX (Af 3 I ?_))
 cases io h
 exact tY ⟨_, _, _, I, I2, J6, pk [0]⟩
 intro P h
 obtain rfl := p _ (oi h).symm
 have h := n
 have h := Dj h
 exact uG (lg ⟨(), h, I2⟩ [])
 rintro s ob ⟨k, h, rfl, rfl⟩
 unfold W7.J1 at h
 refine Ai I ?_
 cases io h
 exact uE ⟨.inr I, [_, _, _], [], J3, B0, I2⟩
theorem Uu (b : Int) (e : Int) (r : Int × Int) (h : Np b e = some r) : ACalls Ak 33 [.V b, .V e] [] (RV (.tup [.V r.1, .V r.2])) := by
 refine Ag Tryz.func33 I I I fun C hC => ?_
 unfold Np at h
 refine Ai I (uD (Ea 19 (decide (b < 0) || (decide (b > 1099511627776) || (decide (e < 1) || decide (e > 1000)))) ?_ ?_))
 refine tX (Af 3 I ?_)
 rcases bt (decide (b < 0)) with a | a
 exact Ah 8 I a (Af 11 I (tY (jf (by simp only [a, bz]) I I I2)))
 refine Ah 8 I a (Af 4 I ?_)
 rcases bt (decide (b > 1099511627776)) with d | d
 exact Ah 12 I d (Af 7 I (tY (jf (by simp only [a, d, bz]) I I I2)))
 refine Ah 12 I d (Af 4 I ?_)
 rcases bt (decide (e < 1)) with g | g
 exact Ah 16 I g (Af 3 I (tY (jf (by simp only [a, d, g, bz]) I I I2)))
 exact Ah 16 I g (Af 3 I (tY (jf (by simp only [a, d, g, bz]) I I I2)))
 refine Ao h I ?_ ?_
 intro j h
 refine Ai I ?_
 cases io h
 exact uE ⟨.inr I, [_, _], [], J2, B0, I2⟩
 intro j h
 refine uA (uD ?_)
 obtain ⟨i, k, h⟩ := Ac h
 refine Gd [.f 2 (.V i)] I ⟨uS (Ga (c := i) I I (Yo k)), J⟩ ?_
 cases io h
 exact uE ⟨.inr I, [_, _], [], J2, B0, I2⟩
theorem Vk (e : Nw) (aa : List (List Piece)) (f : Plan) (ab : Li) (B : Int) (D : Int) (r : (List Lot) × Int) (h : Lv e aa f ab B D = some r) : ACalls Ak 35 [.agg (Ad e), .list 1 (aa.map (rL 2 Aa)), .agg (Aq f), Q0 ab, .V B, .V D] [] (fun x new => ∃ (u0 : Value), x = .tup [.v u0, .V r.2] ∧ new = [U5 u0 r.1]) := by
 refine Ag Tryz.func35 I I I fun C hC => ?_
 refine Ab fun y1 ai => tX (tZ [] I (Cf (Ad e) 6 fun t => tZ [] I (Cf (Aq f) 3 fun u => Af 2 I (tY ?_))))
 subst ai
 refine Ab fun y4 aj => uD ?_
 obtain ⟨r5, ak, h⟩ := Ac h
 refine tX (Am 1 [.o 0 0] I J1 (uJ (Kt _ _ ak) (Af 1 I (tY (Ai I (Ao h I ?_ ?_))))))
 intro al h
 refine Ai I (uF (Az 129 3) (C9 [2] I ?_))
 cases io h
 exact uE ⟨.inr I, [_, _], [.us nS 129 3 ([].map E1)], J2, Cb I (B0), ⟨nS, I2⟩⟩
 intro al h
 refine uA ?_
 subst aj
 refine Ab fun y8 am => uD ?_
 obtain ⟨r9, an, h⟩ := Ac h
 refine tX (Am 2 [.o 0 0] I J1 (uJ (Pe _ _ _ an) (Af 1 I (tY (Ai I (Ao h I ?_ ?_))))))
 intro ao h
 refine Ai I (uF (Az 129 3) (C9 [2] I ?_))
 cases io h
 exact uE ⟨.inr I, [_, _], [.us nS 129 3 ([].map E1)], J2, Cb I (B0), ⟨nS, I2⟩⟩
 intro ao h
 refine uA ?_
 subst am
 refine Ab fun br aq => Ea 43 (decide (B < 0) || decide (B ≥ (e.Ports.length : Int))) ?_ ?_
 refine tX (Af 3 I ?_)
 rcases bt (decide (B < 0)) with E | E
 exact Ah 37 I E (Af 6 I (tY (jf (by simp only [E, bz]) I I I2)))
 exact Ah 37 I E (Am 6 [.o 2 0, .l 3 (e.Ports.length : Int)] I ⟨A4, I, J⟩ (tY (jf (by simp only [E, bz]) I I I2)))
 refine Ao h I ?_ ?_
 intro ar h
 refine Ai I (uF (Az 129 3) (C9 [2] I ?_))
 cases io h
 exact uE ⟨.inr I, [_, _], [.us nS 129 3 ([].map E1)], J2, Cb I (B0), ⟨nS, I2⟩⟩
 intro ar h
 refine uA ?_
 subst aq
 refine Ab fun bs au => Ea 49 (decide (D < 0) || decide (D > 400)) ?_ ?_
 refine tX (Af 3 I ?_)
 rcases bt (decide (D < 0)) with F | F
 exact Ah 46 I F (Af 3 I (tY (jf (by simp only [F, bz]) I I I2)))
 exact Ah 46 I F (Af 3 I (tY (jf (by simp only [F, bz]) I I I2)))
 refine Ao h I ?_ ?_
 intro av h
 refine Ai I (uF (Az 129 3) (C9 [2] I ?_))
 cases io h
 exact uE ⟨.inr I, [_, _], [.us nS 129 3 ([].map E1)], J2, Cb I (B0), ⟨nS, I2⟩⟩
 intro av h
 refine uA ?_
 subst au
 refine Ai I (Aj (fun s ob => ∃ (P : List Lot) (G : Value), Lv.J1 P = some r ∧ s = [(16, .v G)] ∧ ob = [U5 G P]) [] J ?_ ?_)
 refine Ai I (uB (uF (Az 129 3) ?_))
 obtain ⟨bu, aw, ad⟩ := Ac h
 refine Ci aw (K5 3 4 5 6 8) J5 (fun (g : (List (List Piece)) × (List Lot) × Int) s ob => ∃ (H : Value), s = [(1, .list 1 (g.1.map (rL 2 Aa))), (16, .v H), (17, .V g.2.2)] ∧ ob = [O0 t [Ad e], O1 u [Aq f], U5 H g.2.1]) ⟨nS, I2⟩ ⟨I, I, I, J⟩ (pk N3) ?_
 rintro g ax s ob ⟨H, rfl, rfl⟩ h ae
 refine Ab fun bv ay => Ai I (Ao h I ?_ ?_)
 intro az h
 refine uA ?_
 subst ay
 refine Aj (fun s ob => ∃ (j : (List (List Piece)) × (List Lot)) (Q : Value) (M : Value), Lv.J3 g j = some ax ∧ s = [(1, .v Q), (16, .v M)] ∧ ob = [O0 t [Ad e], O1 u [Aq f], U5 M j.2, .us Q 34 1 (j.1.map (rL 2 Aa))]) (K6 3 4 5 6 8 17) J6 ?_ ?_
 refine uB (Ab fun bw a0 => ?_)
 obtain ⟨k, a1, h⟩ := Ac h
 refine tX (Am 4 [.o 0 0, .o 2 1] I J2 (tZ [] I (Bh I I I (gB _ _ _ _ _ a1) dS ?_)))
 rintro _ _ ⟨R, W, rfl, rfl⟩
 refine Af 7 I (tY ?_)
 subst a0
 refine Ab fun bx a2 => Ai I (Ao h I ?_ ?_)
 intro a3 h
 refine Ai I ?_
 obtain rfl := ae _ (oi h).symm
 have h := ad
 have h := Dk h
 refine uF (Az 129 3) (C9 [5] I ?_)
 cases io h
 exact uE ⟨.inr I, [_, _], [.us nS 129 3 ([].map E1)], J2, Cb I (B0), ⟨nS, I2⟩⟩
 intro a3 h
 refine uA ?_
 subst a2
 refine Ai I (Ai I (uB ?_))
 obtain ⟨b0, a4, a5⟩ := Ac h
 refine Ci a4 (K8 1 3 4 5 6 8 17 19) J8 (fun (i : (List Lot) × Int) s ob => ∃ (w : Value), s = [(16, .v w), (21, .V i.2)] ∧ ob = [O0 t [Ad e], O1 u [Aq f], U5 w i.1, .us R 34 1 (k.1.map (rL 2 Aa)), .us W 34 1 (k.2.1.map (rL 2 Aa))]) ⟨H, I2⟩ ⟨I, I, J⟩ (pk N5) ?_
 rintro i af s ob ⟨w, rfl, rfl⟩ h a6
 refine Ab fun b1 a7 => uD ?_
 obtain ⟨n, ⟨ag, S⟩, h⟩ := A5 h
 refine tX (Af 3 I (uI (Bc 4 (m := n.1) I I I I I I I ag (Ae S)) I (uI (Ay 4 n.1 0 I I I (Ae S) I (y := Q2 n.2) I) I (Am 2 [.l 0 (n.2.length : Int)] I ⟨A4, J⟩ (tY (Ao h I ?_ ?_))))))
 intro a8 h
 refine uA ?_
 subst a7
 refine Aj (fun s ob => ∃ (X : List Lot) (U : Value), Lv.J5 i X = some af ∧ s = [(16, .v U)] ∧ ob = [O0 t [Ad e], O1 u [Aq f], U5 U X, .us R 34 1 (k.1.map (rL 2 Aa)), .us W 34 1 (k.2.1.map (rL 2 Aa))]) (K9 1 3 4 5 6 8 17 19 21) J9 ?_ ?_
 refine uB (Ab fun b4 a9 => ?_)
 obtain ⟨b, ⟨ba, bb⟩, h⟩ := A5 h
 refine tX (Af 2 I (uI (Bc 4 (m := n.1) I I I I I I I ag (Ae S)) I (uI (Ay 4 n.1 0 I I I (Ae S) I (y := Q2 n.2) I) I (Am 3 [.x 1 b.1 (Aa b.2)] I ⟨⟨ba, Ae bb⟩, J⟩ (tZ [] I (Bs [.V 0, .V 0] 2 fun bc => tZ [5] I (Bj 5 0 0 [Aa b.2] I (tY ?_))))))))
 subst a9
 refine Ab fun b5 bd => tX (Af 1 I (uI (Bp 2 I I I I) I (Af 2 I (tY ?_))))
 subst bd
 refine Aj (fun s ob => ∃ (Y : Bool), Lv.J6 g i b Y = some af ∧ s = [(98, .v (.bool Y))] ∧ ob = [O0 t [Ad e], O1 u [Aq f], U5 w i.1, .us R 34 1 (k.1.map (rL 2 Aa)), .us W 34 1 (k.2.1.map (rL 2 Aa)), O8 bc [Aa b.2]]) [(1, _), (3, _), (4, _), (5, _), (6, _), (8, _), (16, _), (17, _), (19, _), (21, _), (22, _), (23, _)] rG ?_ ?_
 rcases bt (decide ((wr ((i.1.length : Int) - 1)) ≥ 0)) with N | N
 have h := Cc N h
 obtain ⟨O, ⟨be, Z⟩, h⟩ := A5 h
 exact Bz 2 O.1 I Z fun bf => Bk (pd 12 0 []) [2, 5] [_, _] I (A3 3 I (A9 89 I N (A3 2 I (Dd I I I I ((Av (m := O.1) I I I I I bf I be Z).yd) dS (A3 1 I (Dd I I I I (Ay 0 O.1 0 I I I (Ae Z) I (y := .V O.2.Batch) I) dS (Bv 4 [.o 1 1] I J1 (Ap (tY (lg ⟨(O.2.Batch == b.2.Batch), h, I2⟩ N6))))))))))
 have h := Cd N h
 exact Bk (pd 12 0 []) [] [] I (A3 3 I (A9 89 I N (A3 9 I (Ap (tY (lg ⟨false, h, I2⟩ N6))))))
 rintro s ob ⟨Y, h, rfl, rfl⟩
 refine Ao h I ?_ ?_
 intro bg h
 obtain ⟨a, ⟨ah, A⟩, h⟩ := A5 h
 exact Bz 2 a.1 I A fun bh => Bz 2 a.1 I A fun bi => Bk (sl 12 0 (.drop 12 .nil)) [2, 5] [_, _] I (A3 4 I (uN I (Av (m := a.1) I I I I I bh I ah A) I (A3 1 I (AP.o I (Ay 0 a.1 1 I I I (Ae A) I (y := .V a.2.Volume) I) I (Bv 3 [.o 1 1] I J1 (uN I (Av (m := a.1) I I I I I bi I ah A) I (A3 1 I (uR [2] I I I (Bd 2 a.1 1 I I I (Ae A) I I I I (Ba I) I (Ce (x := (⟨a.2.Batch, wr (a.2.Volume + b.2.Volume), a.2.Done⟩ : Lot)) I) (Ap (tY (lg ⟨(i.1.set a.1 (⟨a.2.Batch, wr (a.2.Volume + b.2.Volume), a.2.Done⟩ : Lot)), w, h, I2⟩ N5))))))))))))
 intro bg h
 obtain ⟨bj, bk, h⟩ := Ac h
 exact tX (Am 6 [.o 2 5, .o 4 5] I J2 (uK (Bl (l := [.V b.2.Batch, .V b.2.Volume, .V g.2.2]) Pu I) I (tZ [] I (uH 3 (([(⟨b.2.Batch, b.2.Volume, g.2.2⟩ : Lot)] : List Lot).map E1) (tZ [2] I (uO 2 I bk fun bl => Af 1 I (tY (lg ⟨bj, bl, h, I2⟩ N5))))))))
 rintro s ob ⟨X, U, h, rfl, rfl⟩
 unfold Lv.J5 at h
 refine tX (Af 3 I ?_)
 cases io h
 exact tY ⟨_, _, _, I, ⟨U, I2⟩, oM, pk N5⟩
 intro a8 h
 obtain rfl := a6 _ (oi h).symm
 have h := a5
 exact uG (lg ⟨(k.1, i.1), R, w, h, I2⟩ N4)
 rintro s ob ⟨j, Q, M, h, rfl, rfl⟩
 unfold Lv.J3 at h
 refine tX (Af 3 I (uP (Ax [3] (K := [.us Q 34 1 (j.1.map (rL 2 Aa))]) I [(1, .list 1 (j.1.map (rL 2 Aa)))] ⟨⟨_, I, .us 0 I⟩, J⟩ (ob' := [O0 t [Ad e], O1 u [Aq f], U5 M j.2]) (.rest _)) ?_))
 cases io h
 exact tY ⟨_, _, _, I, ⟨M, I2⟩, J8, pk N3⟩
 intro az h
 obtain rfl := ae _ (oi h).symm
 have h := ad
 have h := Dj h
 exact uG (lg ⟨g.2.1, H, h, I2⟩ [2])
 rintro s ob ⟨P, G, h, rfl, rfl⟩
 unfold Lv.J1 at h
 refine Ai I ?_
 cases io h
 exact uE ⟨.inr I, [_, _], [U5 G P], J2, Cb I (B0), ⟨G, I2⟩⟩
theorem iV (c : Nw) (f : List (List Piece)) (e : Plan) (g : Li) (i : Int) (j : Int) (k : Int) (r : Int × Bool × Int) (h : Rv c f e g i j k = some r) : ACalls Ak 37 [.agg (Ad c), .list 1 (f.map (rL 2 Aa)), .agg (Aq e), Q0 g, .V i, .V j, .V k] [] (RV (.tup [.V r.1, .v (.bool r.2.1), .V r.2.2])) := by
 refine Ag Tryz.func37 I I I fun C hC => ?_
 refine Ab fun P w => tX (tZ [] I (Cf (Ad c) 6 fun Q => tZ [] I (Cf (Aq e) 3 fun R => Af 3 I (tY ?_))))
 subst w
 refine Ab fun S A => ?_
 obtain ⟨B, D, h⟩ := Ac h
 refine tX (Am 6 [.o 0 0, .o 2 1] I J2 (tZ [] I (Bh I I I (Vk _ _ _ _ _ _ _ D) dS ?_)))
 rintro _ _ ⟨E, rfl, rfl⟩
 refine Af 5 I (tY ?_)
 subst A
 refine Ab fun U F => Ai I (Ao h I ?_ ?_)
 intro G h
 refine Ai I (uF g0 ?_)
 cases io h
 exact uE ⟨.inr I, [_, _, _], [], J3, B0, I2⟩
 intro G h
 refine uA ?_
 subst F
 refine Aj (fun s ob => ∃ (l : Unit), Rv.J1 l = some r ∧ s = [] ∧ ob = []) [] J ?_ ?_
 refine Ai I (uB ?_)
 obtain ⟨W, H, n⟩ := Ac h
 refine Ci H (K2 5 17) J2 (fun (p : Int) s ob => s = [(19, .V p)] ∧ ob = [U5 E B.1]) ⟨I, I⟩ ⟨I, J⟩ (pk [2]) ?_
 rintro p X s ob ⟨rfl, rfl⟩ h t
 refine Ab fun Y K => uD (tX (Af 2 I (uI (Bp 0 I I I I) I (Af 1 I (tY (Ao h I ?_ ?_))))))
 intro M h
 refine uA ?_
 subst K
 refine uD (uB (Ab fun Z N => ?_))
 obtain ⟨a, ⟨u, b⟩, h⟩ := A5 h
 refine tX (Af 2 I (uI (Bc 0 (m := a.1) I I I I I I I u (Ae b)) I (Af 1 I (uI (Ay 0 a.1 0 I I I (Ae b) I (y := .V a.2.Batch) I) I (Af 2 I (tY ?_))))))
 subst N
 refine Ao h I ?_ ?_
 intro O h
 refine uD (tX (Af 2 I (uI (Bc 0 (m := a.1) I I I I I I I u (Ae b)) I (Af 1 I (uI (Ay 0 a.1 2 I I I (Ae b) I (y := .V a.2.Done) I) I (Af 3 I (tY ?_)))))))
 obtain rfl := t _ (oi h).symm
 have h := n
 have h := Dk h
 refine uF g0 ?_
 cases io h
 exact uE ⟨.inr I, [_, _, _], [], J3, B0, I2⟩
 intro O h
 refine uA (tX (Af 3 I ?_))
 cases io h
 exact tY ⟨_, _, _, I, I2, J3, pk [0]⟩
 intro M h
 obtain rfl := t _ (oi h).symm
 have h := n
 have h := Dj h
 exact uG (lg ⟨(), h, I2⟩ [])
 rintro s ob ⟨l, h, rfl, rfl⟩
 unfold Rv.J1 at h
 refine Ai I ?_
 cases io h
 exact uE ⟨.inr I, [_, _, _], [], J3, B0, I2⟩
theorem Vm (c : List Lot) (d : List Lot) (r : Bool) (h : Wy c d = some r) : ACalls Ak 38 [.list 3 (c.map E1), .list 3 (d.map E1)] [] (RB r) := by
 refine Ag Tryz.func38 I I I fun C hC => ?_
 refine Ai I (Ab fun A j => Bg [.l 1 (c.length : Int), .l 3 (d.length : Int)] I ⟨A4, A4, J⟩ (Ao h I ?_ ?_))
 intro k h
 refine Ai I ?_
 cases io h
 exact uE pr
 intro k h
 refine uA ?_
 subst j
 refine Aj (fun s ob => ∃ (e : Unit), Wy.J1 e = some r ∧ s = [] ∧ ob = []) [] J ?_ ?_
 refine Ai I (uB ?_)
 obtain ⟨B, m, f⟩ := Ac h
 refine Ci m (K2 0 1) J2 (fun (g : Int) s ob => s = [(5, .V g)] ∧ ob = []) ⟨I, I⟩ ⟨I, J⟩ (pk []) ?_
 rintro g D s ob ⟨rfl, rfl⟩ h i
 refine Ab fun E n => Bg [.l 2 (c.length : Int)] I ⟨A4, J⟩ (Ao h I ?_ ?_)
 intro o h
 refine uA ?_
 subst n
 refine uD (uB (uD ?_))
 obtain ⟨a, ⟨p, t⟩, h⟩ := A5 h
 obtain ⟨b, ⟨u, w⟩, h⟩ := A5 h
 refine Bk (pd 9 0 []) [] [] I (Bv 8 [.x 2 a.1 (E1 a.2), .x 6 b.1 (E1 b.2)] I ⟨⟨u, Ae w⟩, ⟨p, Ae t⟩, J⟩ (uN I (Pt (r := ((a.2.Batch == b.2.Batch) && ((a.2.Volume == b.2.Volume) && ((a.2.Done == b.2.Done) && true)))) I I bS I I I I) I (Ap (tY (Ao h I ?_ ?_)))))
 intro y h
 refine Ai I ?_
 obtain rfl := i _ (oi h).symm
 have h := f
 have h := Dk h
 cases io h
 exact uE pr
 intro y h
 refine uA (tX (Af 3 I ?_))
 cases io h
 exact tY ⟨_, _, _, I, I2, J3, pk []⟩
 intro o h
 obtain rfl := i _ (oi h).symm
 have h := f
 have h := Dj h
 exact uG (lg ⟨(), h, I2⟩ [])
 rintro s ob ⟨e, h, rfl, rfl⟩
 unfold Wy.J1 at h
 refine Ai I ?_
 cases io h
 exact uE pr
theorem fY (a : Int) (r : Nw) (h : Nq a = r) : ACalls Ak 66 [.V a] [] (RV (.agg (Ad r))) := by
 refine Ag Tryz.func66 I I I fun C hC => ?_
 unfold Nq at h
 refine Ab fun o g => tX (tZ [] I (Bs W1 6 fun c => tY ?_))
 subst g
 refine uD (tX (tZ [] I (uM (sz := 1) (es := ([(⟨#[97]⟩ : Bt), (⟨#[98]⟩ : Bt)] : List Bt).map rS) I I I I I I I I I I I dS fun b => Af 1 I (uK (Bl (l := [.V 0, .V 0, .V 1000000]) F4 I) I (Af 1 I (uK (Bl (l := [.V a, .V 0, .V 1000000]) F4 I) I (tZ [] I (uM (sz := 3) (es := ([(⟨0, 0, 1000000⟩ : Point), (⟨a, 0, 1000000⟩ : Point)] : List Point).map Cy) I I I I I I I I I I I dS fun f => uV 2 I fun i => uK (Bl (l := [.v (.string (⟨#[103]⟩ : Bt)), .V 0, .V 1, .V a, .V 0, .V 0, .v f]) Tp (Ds I I I I (Ds I I I I (Ds I I I I (Ds I I I I (Ds I I (Bw i) I (H6))))))) I (uP (Ax [2] (K := [.us f 86 3 (([(⟨0, 0, 1000000⟩ : Point), (⟨a, 0, 1000000⟩ : Point)] : List Point).map Cy)]) I [(8, .list 3 (([(⟨0, 0, 1000000⟩ : Point), (⟨a, 0, 1000000⟩ : Point)] : List Point).map Cy)), (9, .agg [.v (.string (⟨#[103]⟩ : Bt)), .V 0, .V 1, .V a, .V 0, .V 0, .list 3 (([(⟨0, 0, 1000000⟩ : Point), (⟨a, 0, 1000000⟩ : Point)] : List Point).map Cy)])] ⟨⟨_, I, .us 0 I⟩, ⟨_, I, .agg (.cons (.refl _) (.cons (.refl _) (.cons (.refl _) (.cons (.refl _) (.cons (.refl _) (.cons (.refl _) (.cons (.us 0 I) (.rest _))))))))⟩, J⟩ (ob' := [O0 c [W1], .us b 9 1 (([(⟨#[97]⟩ : Bt), (⟨#[98]⟩ : Bt)] : List Bt).map rS)]) (.rest _)) ?_)))))))))
 refine tZ [] I (uM (sz := 7) (es := ([(⟨(⟨#[103]⟩ : Bt), 0, 1, a, 0, 0, ([(⟨0, 0, 1000000⟩ : Point), (⟨a, 0, 1000000⟩ : Point)] : List Point)⟩ : Sg)] : List Sg).map Ar) I I I I I I I I I I I dS fun d => uK (Bl (l := [.v (.string (⟨#[112]⟩ : Bt)), .V 0, .V 300000]) Ha I) I (uK (Bl (l := [.v (.string (⟨#[113]⟩ : Bt)), .V 1, .V 0]) Ha I) I (tZ [] I (uM (sz := 3) (es := ([(⟨(⟨#[112]⟩ : Bt), 0, 300000⟩ : Port), (⟨(⟨#[113]⟩ : Bt), 1, 0⟩ : Port)] : List Port).map Ca) I I I I I I I I I I I dS fun e => uV 1 I fun j => uV 2 I fun k => uV 3 I fun n => uK (Bl (l := [.v b, .v d, .v e, .N, .V 0, .V 0]) Tq (Ds I I (Bw j) I (Ds I I (Bw k) I (Ds I I (Bw n) I (H6))))) I (tZ [0] I (Bj 0 0 0 [[.v b, .v d, .v e, .N, .V 0, .V 0]] I (tY (uF (Ax [1, 2, 3] (K := [.us b 9 1 (([(⟨#[97]⟩ : Bt), (⟨#[98]⟩ : Bt)] : List Bt).map rS), .us d 89 7 (([(⟨(⟨#[103]⟩ : Bt), 0, 1, a, 0, 0, ([(⟨0, 0, 1000000⟩ : Point), (⟨a, 0, 1000000⟩ : Point)] : List Point)⟩ : Sg)] : List Sg).map Ar), .us e 82 3 (([(⟨(⟨#[112]⟩ : Bt), 0, 300000⟩ : Port), (⟨(⟨#[113]⟩ : Bt), 1, 0⟩ : Port)] : List Port).map Ca)]) I [] J (ob' := [O0 c [[.list 1 (([(⟨#[97]⟩ : Bt), (⟨#[98]⟩ : Bt)] : List Bt).map rS), .list 7 (([(⟨(⟨#[103]⟩ : Bt), 0, 1, a, 0, 0, ([(⟨0, 0, 1000000⟩ : Point), (⟨a, 0, 1000000⟩ : Point)] : List Point)⟩ : Sg)] : List Sg).map Ar), .list 3 (([(⟨(⟨#[112]⟩ : Bt), 0, 300000⟩ : Port), (⟨(⟨#[113]⟩ : Bt), 1, 0⟩ : Port)] : List Port).map Ca), .N, .V 0, .V 0]]]) (.cons (.arr (.cons (.us 0 I) (.cons (.us 1 I) (.cons (.us 2 I) (.rest _))))) (.rest _))) ?_))))))))
 refine uF (Ax [] (K := []) I [] J (ob' := [O0 c [[.list 1 (([(⟨#[97]⟩ : Bt), (⟨#[98]⟩ : Bt)] : List Bt).map rS), .list 7 (([(⟨(⟨#[103]⟩ : Bt), 0, 1, a, 0, 0, ([(⟨0, 0, 1000000⟩ : Point), (⟨a, 0, 1000000⟩ : Point)] : List Point)⟩ : Sg)] : List Sg).map Ar), .list 3 (([(⟨(⟨#[112]⟩ : Bt), 0, 300000⟩ : Port), (⟨(⟨#[113]⟩ : Bt), 1, 0⟩ : Port)] : List Port).map Ca), .list 5 ([].map Bu), .V 0, .V 0]]]) (.cons (.arr (.cons (.refl _) (.cons (.refl _) (.cons (.refl _) (.cons (.nil _) (.rest _)))))) (.rest _))) ?_
 obtain rfl := h
 exact uE ⟨.inr I, [_], [], ⟨⟨0, _, _, _, _, _, _, _, I5⟩, J⟩, B0, I2⟩
theorem Ux  (r : Bool) (h : Qu = some r) : ACalls Ak 23 [] [] (RB r) := by
 refine Ag Tryz.func23 I I I fun C hC => ?_
 unfold Qu at h
 refine Ai I (Ab fun Q t => tX (tZ [] I (Bh I I I (fY 100 _ I) dS ?_)))
 rintro _ _ ⟨rfl, rfl⟩
 refine tZ [] I (Bs W1 6 fun u => tZ [0] I (Bj 0 0 0 [Ad (Nq 100)] I (tY ?_)))
 subst t
 refine Ab fun R w => tX (uK (Bl (l := [.V 1, .V 30]) D9 I) I (uK (Bl (l := [.V 2, .V 70]) D9 I) I (tZ [] I (uM (sz := 2) (es := ([(⟨1, 30⟩ : Piece), (⟨2, 70⟩ : Piece)] : List Piece).map Aa) I I I I I I I I I I I dS fun y => uP (Ax [1] (K := [.us y 69 2 (([(⟨1, 30⟩ : Piece), (⟨2, 70⟩ : Piece)] : List Piece).map Aa)]) I [(14, .list 2 (([(⟨1, 30⟩ : Piece), (⟨2, 70⟩ : Piece)] : List Piece).map Aa))] ⟨⟨_, I, .us 0 I⟩, J⟩ (ob' := [O0 u [Ad (Nq 100)]]) (.rest _)) (tZ [] I (uM (sz := 1) (es := ([([(⟨1, 30⟩ : Piece), (⟨2, 70⟩ : Piece)] : List Piece)] : List (List Piece)).map (rL 2 Aa)) I I I I I I I I I I I dS fun S => Af 1 I (tY ?_)))))))
 subst w
 refine Ab fun U A => ?_
 obtain ⟨g, B, h⟩ := Ac h
 refine tX (Am 2 [.o 0 0] I J1 (uK (Bl (l := [.V 0, .v (.bool false)]) I4 I) I (tZ [] I (uH 2 (([(⟨0, false⟩ : Hop)] : List Hop).map Df) (tZ [] I (Dv I (.refl _) I I (.cons (.refl _) (.cons (.us 1 I) (.rest _))) I (Vo _ _ _ _ _ B) dS (by rintro _ _ ⟨rfl, _⟩; rfl) ?_))))))
 rintro _ ⟨_, rfl, -⟩
 refine Af 7 I (tY ?_)
 subst A
 refine Ab fun W D => ?_
 obtain ⟨n, E, h⟩ := Ac h
 refine tX (Af 1 I (uJ (Pg _ _ _ E) (Af 5 I (tY ?_))))
 subst D
 refine Ab fun X F => ?_
 obtain ⟨j, G, h⟩ := Ac h
 refine tX (Am 2 [.o 0 0] I J1 (tZ [] I (uM (sz := 1) (es := ([8] : Li).map rI) I I I I I I I I I I I dS fun H => tZ [] I (uM (sz := 1) (es := ([8, (-8)] : Li).map rI) I I I I I I I I I I I dS fun M => uV 2 I fun O => uV 3 I fun P => uK (Bl (l := [.v H, .v M, .N]) I6 (Ds I I (Bw O) I (Ds I I (Bw P) I (H6)))) I (tZ [] I (uH 1 (([3, 0] : Li).map rI) (tZ [] I (Dv I (.refl _) I I (.cons (.refl _) (.cons (.us 1 I) (.cons (.agg (.cons (.us 2 I) (.cons (.us 3 I) (.cons (.nil _) (.rest _))))) (.rest _)))) I (Vj _ _ _ _ _ _ _ _ G) dS (by rintro _ _ ⟨rfl, _⟩; rfl) ?_))))))))
 rintro _ ⟨_, rfl, -⟩
 refine Af 7 I (tY ?_)
 subst F
 refine Aj (fun s ob => s = [(0, .v (.bool ((g.2.2 == 0) && ((n.2 == 0) && ((j.2.2 == 0) && (g.2.1 && (j.2.1 && ((g.1 == 70) && ((n.1 == 8) && (j.1 == 8))))))))))] ∧ ob = []) [] J ?_ ?_
 refine tX (Af 3 I ?_)
 rcases bt ((g.2.2 == 0)) with a | a
 refine Ah 43 I a (Af 4 I ?_)
 rcases bt ((n.2 == 0)) with b | b
 refine Ah 47 I b (Af 4 I ?_)
 rcases bt ((j.2.2 == 0)) with d | d
 refine Ah 51 I d (Af 3 I ?_)
 rcases bt (g.2.1) with e | e
 refine Ah 54 I e (Af 3 I ?_)
 rcases bt (j.2.1) with f | f
 refine Ah 57 I f (Af 4 I ?_)
 rcases bt ((g.1 == 70)) with i | i
 refine Ah 61 I i (Af 4 I ?_)
 rcases bt ((n.1 == 8)) with k | k
 refine Ah 65 I k (Af 4 I (tY ?_))
 exact lf I2 ⟨(Dn (by simp only [a, b, d, e, f, i, k, bz])), J⟩ [] I
 refine Ah 65 I k (Af 4 I (tY ?_))
 exact lf I2 ⟨(Dn (by simp only [a, b, d, e, f, i, k, bz])), J⟩ [] I
 refine Ah 61 I i (Af 8 I (tY ?_))
 exact lf I2 ⟨(Dn (by simp only [a, b, d, e, f, i, bz])), J⟩ [] I
 refine Ah 57 I f (Af 12 I (tY ?_))
 exact lf I2 ⟨(Dn (by simp only [a, b, d, e, f, bz])), J⟩ [] I
 refine Ah 54 I e (Af 15 I (tY ?_))
 exact lf I2 ⟨(Dn (by simp only [a, b, d, e, bz])), J⟩ [] I
 refine Ah 51 I d (Af 18 I (tY ?_))
 exact lf I2 ⟨(Dn (by simp only [a, b, d, bz])), J⟩ [] I
 refine Ah 47 I b (Af 22 I (tY ?_))
 exact lf I2 ⟨(Dn (by simp only [a, b, bz])), J⟩ [] I
 refine Ah 43 I a (Af 26 I (tY ?_))
 exact lf I2 ⟨(Dn (by simp only [a, bz])), J⟩ [] I
 rintro s ob ⟨rfl, rfl⟩
 cases io h
 exact uE pr
end Go.Proofs.YtaoclefkknloiaaGreat
