/- Walks that show what functions of the program compute; printed by a program of ours. No condition. -/
import Derived.Test.YtodeekicjiengaaGreatDoorYwL1
set_option maxRecDepth 100000
namespace Go.Proofs.YtodeekicjiengaaGreatDoor
open Go.Aw
set_option linter.unusedVariables false
set_option linter.unusedSimpArgs false
set_option maxHeartbeats 4000000
abbrev Xp : PL := sl 3 13 (.act 16 .nil)
theorem Uj (f : Nat) (a : steady_line) (w0_0 : Value) (w0_1 : Value) (w0_2 : Value) (j : Int) (b : Bounds) (r : steady_line) (h : Is a j b = some r) : ACalls Aj 90 [.v (.pointer (some ⟨f, 0, none⟩)), .V j, .agg (Aq b)] [O4 f [Ay a w0_0 w0_1 w0_2], U1 w0_0 a.x.Known, U2 w0_1 a.x.Nodes, .us w0_2 127 1 (a.x.Segments.map (rL 3 Ao))] (Ea 4 fun x os new => ∃ (u0_0 : Value) (u0_1 : Value) (u0_2 : Value), x = .tup [] ∧ os = [O4 f [Ay r u0_0 u0_1 u0_2], U1 u0_0 r.x.Known, U2 u0_1 r.x.Nodes, .us u0_2 127 1 (r.x.Segments.map (rL 3 Ao))] ∧ new = []) := by
 refine Ae Tryz.func90 I I I fun C hC => ?_
 unfold Is at h
 refine Aa fun N w => tV (tX [] I (Bo (Aq b) 2 fun z => tW ?_))
 subst w
 refine Ai (fun s ob => ∃ (c : Int × Int), Is.J1 a j c = some r ∧ s = [] ∧ ob = [O4 f [Ay a w0_0 w0_1 w0_2], U1 w0_0 a.x.Known, U2 w0_1 a.x.Nodes, .us w0_2 127 1 (a.x.Segments.map (rL 3 Ao)), O8 z [[.V c.1, .V c.2]]]) [(0, _), (1, _), (5, _)] J3 ?_ ?_
 refine Aa fun O A => ?_
 obtain ⟨k, ⟨B, t⟩, h⟩ := A6 h
 refine tV (An 6 [.o 4 0] I J1 (uJ (Bm 1 (m := k.1) I I I I I I I B (Ag t)) I (uJ (Bl 1 k.1 0 I I I (Ag t) I (y := .v (.bool k.2)) I) I (tW ?_))))
 subst A
 refine Ar h I ?_ ?_
 intro D h
 refine Aa fun P E => ?_
 obtain ⟨e, ⟨F, u⟩, h⟩ := A6 h
 refine tV (An 6 [.o 4 0] I J1 (uJ (Bm 2 (m := e.1) I I I I I I I F (Ag u)) I (uJ (Bl 2 e.1 0 I I I (Ag u) I (y := .agg (Aq e.2)) I) I (tX [] I (uF [.V 0, .V 0] 2 fun Q => tX [5] I (A3 5 0 0 [Aq e.2] I (tW ?_)))))))
 subst E
 exact tV (An 10 [.o 1 5, .o 3 4, .o 6 5, .o 8 4] I J4 (uH (Au (l := [.V (min e.2.Low b.Low), .V (min e.2.High b.High)]) Dp I) I (tX [4] I (A3 4 0 0 [[.V (min e.2.Low b.Low), .V (min e.2.High b.High)]] I (tW (lg ⟨((min e.2.Low b.Low), (min e.2.High b.High)), h, I2⟩ [0, 1, 2, 3, 4]))))))
 intro D h
 exact tZ (lg ⟨(b.Low, b.High), h, I2⟩ [0, 1, 2, 3, 4])
 rintro s ob ⟨c, h, rfl, rfl⟩
 obtain ⟨g, ⟨G, n⟩, h⟩ := A6 h
 obtain ⟨i, ⟨H, q⟩, h⟩ := A6 h
 refine C7 1 g.1 I n fun K => C7 2 i.1 I q fun M => Bz (pd 17 0 [14, 16]) [0, 4] [_, _] I (Ca 13 [.o 4 0, .o 10 0, .o 12 1] I J3 (uM I (B8 (m := g.1) I I I I I K I G n) I (tY [1] I I I (Ci 1 g.1 0 I I I (Ag n) I I I I (Cb I) I (Dg (x := true) I) (uM I (B8 (m := i.1) I I I I I M I H q) I (tY [2] I I I (Ci 2 i.1 0 I I I (Ag q) I I I I (Cb I) I (Dg (x := (⟨c.1, c.2⟩ : Bounds)) I) (Ap (AO.ghost (Ghost.pick [0, 1, 2, 3] I (by decide)) ?_)))))))))
 cases io h
 exact tW ⟨.inl I, [], [O4 f [[Q1 a.n_.Nodes, Q5 a.n_.Segments, Q6 a.n_.Ports, Q7 a.n_.Stations, .V a.n_.Vapour, .V a.n_.Settle, Q3 a.batches, Q2 a.products, .list 1 (a.fills.map (rL 2 A4)), Q0 a.p.Rates, Q0 a.p.Ports, Q9 a.p.Pumps, .v w0_0, .v w0_1, .v w0_2]], .us w0_0 4 1 ((a.x.Known.set g.1 true).map rB), .us w0_1 129 2 ((a.x.Nodes.set i.1 (⟨c.1, c.2⟩ : Bounds)).map Aq), .us w0_2 127 1 (a.x.Segments.map (rL 3 Ao))], J, Cz I (Cz I (Cz I (Cz I (Cm)))), ⟨[O4 f [[Q1 a.n_.Nodes, Q5 a.n_.Segments, Q6 a.n_.Ports, Q7 a.n_.Stations, .V a.n_.Vapour, .V a.n_.Settle, Q3 a.batches, Q2 a.products, .list 1 (a.fills.map (rL 2 A4)), Q0 a.p.Rates, Q0 a.p.Ports, Q9 a.p.Pumps, .v w0_0, .v w0_1, .v w0_2]], .us w0_0 4 1 ((a.x.Known.set g.1 true).map rB), .us w0_1 129 2 ((a.x.Nodes.set i.1 (⟨c.1, c.2⟩ : Bounds)).map Aq), .us w0_2 127 1 (a.x.Segments.map (rL 3 Ao))], [], I, I, w0_0, w0_1, w0_2, I3⟩⟩
theorem jJ (d : Nat) (a : steady_line) (w0_0 : Value) (w0_1 : Value) (w0_2 : Value) (t : Int) (r : Int × steady_line) (h : Nu a t = some r) : ACalls Aj 142 [.v (.pointer (some ⟨d, 0, none⟩)), .V t] [O4 d [Ay a w0_0 w0_1 w0_2], U1 w0_0 a.x.Known, U2 w0_1 a.x.Nodes, .us w0_2 127 1 (a.x.Segments.map (rL 3 Ao))] (Ea 4 fun x os new => ∃ (u1_0 : Value) (u1_1 : Value) (u1_2 : Value), x = .V r.1 ∧ os = [O4 d [Ay r.2 u1_0 u1_1 u1_2], U1 u1_0 r.2.x.Known, U2 u1_1 r.2.x.Nodes, .us u1_2 127 1 (r.2.x.Segments.map (rL 3 Ao))] ∧ new = []) := by
 refine Ae Tryz.func142 I I I fun C hC => ?_
 unfold Nu at h
 refine Ah I (Ah I (Ai (fun s ob => ∃ (g : Int), Nu.J1 a g = some r ∧ s = [(5, .V g)] ∧ ob = [O4 d [Ay a w0_0 w0_1 w0_2], U1 w0_0 a.x.Known, U2 w0_1 a.x.Nodes, .us w0_2 127 1 (a.x.Segments.map (rL 3 Ao))]) [] J ?_ ?_))
 refine Bh [.o 4 0, .l 5 (a.n_.Segments.length : Int)] I ⟨Ax, I, J⟩ (uA (B0 14 I fun w => ?_))
 obtain ⟨O, y, A⟩ := Ac h
 refine Cu y [(0, _), (1, _), (14, _), (15, _)] J4 (fun (f : Nat) (e : Int) s ob => s = [(16, .V (f : Int)), (5, .V e)] ∧ ob = [O4 d [Ay a w0_0 w0_1 w0_2], U1 w0_0 a.x.Known, U2 w0_1 a.x.Nodes, .us w0_2 127 1 (a.x.Segments.map (rL 3 Ao))]) ⟨I, I⟩ ⟨I, I, J⟩ ⟨[0, 1, 2, 3], I, by decide⟩ ?_ ?_
 rintro f i e B s ob D u ⟨rfl, rfl⟩ h
 unfold Nu.B2 at h
 have E := Co u
 refine Ah I (Aa fun P F => Bp I E (tZ ?_))
 subst F
 refine Ai (fun s ob => ∃ (j : Int), Nu.J3 j = some B ∧ s = [(5, .V j)] ∧ ob = [O4 d [Ay a w0_0 w0_1 w0_2], U1 w0_0 a.x.Known, U2 w0_1 a.x.Nodes, .us w0_2 127 1 (a.x.Segments.map (rL 3 Ao))]) [(0, _), (1, _), (14, _), (15, _), (16, _)] J5 ?_ ?_
 refine uA (Aa fun Q G => tV (An 3 [.x 1 f (Ak i)] I ⟨⟨I, Ag D⟩, J⟩ (tX [] I (uF W2 7 fun R => Af 1 I (tX [4] I (A3 4 0 0 [Ak i] I (tW ?_)))))))
 subst G
 refine Aa fun S H => ?_
 obtain ⟨b, ⟨n, p⟩, h⟩ := A6 h
 refine Bz (pd 15 0 [9]) [4, 0] [_, _] I (Ca 9 [.o 0 0, .o 5 1, .x 7 b.1 (rI b.2)] I ⟨⟨n, Ag p⟩, I, I, J⟩ (Dq I (Og i b.2 _ I) (Bf 5 I (Ap (tW ?_)))))
 subst H
 refine Ah I (Ar h I ?_ ?_)
 intro K h
 exact In (pd 21 0 []) [0] [_] [.o 5 0, .x 7 b.1 (rI b.2), .o 13 0, .x 15 b.1 (rI b.2)] I I ⟨⟨n, Ag p⟩, I, ⟨n, Ag p⟩, I, J⟩ (lg ⟨wr (e + (max b.2 (wr (0 - b.2)))), h, I2⟩ [0, 1, 2, 3])
 intro K h
 exact tZ (lg ⟨e, h, I2⟩ [0, 1, 2, 3])
 rintro s ob ⟨j, h, rfl, rfl⟩
 unfold Nu.J3 at h
 refine tV (An 2 [.k 0 (f + 1 : Nat)] I ⟨A0 u w, J⟩ ?_)
 cases io h
 exact tW (lg I2 [0, 1, 2, 3])
 rintro e s ob ⟨rfl, rfl⟩ he
 subst he
 have h := A
 have M := Cp a.n_.Segments.length
 exact Ah I (Aa fun U W => Br I M (uE (lg ⟨e, h, I2⟩ [0, 1, 2, 3])))
 rintro s ob ⟨g, h, rfl, rfl⟩
 refine Ah I ?_
 obtain rfl := oi h
 exact uC ⟨.inr I, [_], [O4 d [Ay a w0_0 w0_1 w0_2], U1 w0_0 a.x.Known, U2 w0_1 a.x.Nodes, .us w0_2 127 1 (a.x.Segments.map (rL 3 Ao))], J1, Cz I (Cz I (Cz I (Cz I (Cm)))), ⟨[O4 d [Ay a w0_0 w0_1 w0_2], U1 w0_0 a.x.Known, U2 w0_1 a.x.Nodes, .us w0_2 127 1 (a.x.Segments.map (rL 3 Ao))], [], I, I, w0_0, w0_1, w0_2, I3⟩⟩
theorem fZ (b : Nat) (a : steady_line) (w0_0 : Value) (w0_1 : Value) (w0_2 : Value) (t : Int) (r : Bounds × Int × steady_line) (h : P5 a t = some r) : ACalls Aj 91 [.v (.pointer (some ⟨b, 0, none⟩)), .V t] [O4 b [Ay a w0_0 w0_1 w0_2], U1 w0_0 a.x.Known, U2 w0_1 a.x.Nodes, .us w0_2 127 1 (a.x.Segments.map (rL 3 Ao))] (Ea 4 fun x os new => ∃ (u2_0 : Value) (u2_1 : Value) (u2_2 : Value), x = .tup [.agg (Aq r.1), .V r.2.1] ∧ os = [O4 b [Ay r.2.2 u2_0 u2_1 u2_2], U1 u2_0 r.2.2.x.Known, U2 u2_1 r.2.2.x.Nodes, .us u2_2 127 1 (r.2.2.x.Segments.map (rL 3 Ao))] ∧ new = []) := by
 refine Ae Tryz.func91 I I I fun C hC => ?_
 refine Aa fun y1 M => tV (tX [] I (uF [.V 0, .V 0] 2 fun w => Af 1 I (tW ?_)))
 subst M
 refine Aa fun y3 N => ?_
 obtain ⟨e, ⟨O, E⟩, h⟩ := A6 h
 refine tV (An 6 [.o 4 0] I J1 (uJ (Bm 2 (m := e.1) I I I I I I I O (Ag E)) I (uJ (Bl 2 e.1 0 I I I (Ag E) I (y := .agg (Aq e.2)) I) I (tX [] I (uF [.V 0, .V 0] 2 fun A => tX [5] I (A3 5 0 0 [Aq e.2] I (tW ?_)))))))
 subst N
 refine Ai (fun s ob => ∃ (F : Unit), P5.J1 a e F = some r ∧ s = [] ∧ ob = [O4 b [Ay a w0_0 w0_1 w0_2], U1 w0_0 a.x.Known, U2 w0_1 a.x.Nodes, .us w0_2 127 1 (a.x.Segments.map (rL 3 Ao)), O8 w [[.V 0, .V 0]], O8 A [Aq e.2]]) [(4, _), (6, _)] J2 ?_ ?_
 refine Bh [.o 4 0, .l 5 (a.n_.Stations.length : Int)] I ⟨Ax, I, J⟩ (uA (B0 21 I fun P => ?_))
 obtain ⟨aj, Q, G⟩ := Ac h
 refine Bx Q [(0, _), (1, _), (4, _), (6, _), (21, _), (22, _)] J6 (fun (u : Nat) (H : Unit) s ob => s = [(23, .V (u : Int))] ∧ ob = [O4 b [Ay a w0_0 w0_1 w0_2], U1 w0_0 a.x.Known, U2 w0_1 a.x.Nodes, .us w0_2 127 1 (a.x.Segments.map (rL 3 Ao)), O8 w [[.V 0, .V 0]], O8 A [Aq e.2]]) ⟨I, I⟩ ⟨I, J⟩ ⟨[0, 1, 2, 3, 4, 5], I, by decide⟩ ?_ ?_
 rintro u g H R s ob S K ⟨rfl, rfl⟩ h U
 unfold P5.B2 at h
 have W := Co K
 refine Ah I (Aa fun ak X => Bp I W (tZ ?_))
 subst X
 refine uB (uA (Aa fun al Y => tV (An 3 [.x 1 u (Ba g)] I ⟨⟨I, Ag S⟩, J⟩ (tX [] I (uF W5 5 fun Z => Af 1 I (tX [6] I (A3 6 0 0 [Ba g] I (tW ?_))))))))
 subst Y
 refine Ai (fun s ob => ∃ (B : Bool), P5.J3 a t e g B = some R ∧ s = [(41, .v (.bool B))] ∧ ob = [O4 b [Ay a w0_0 w0_1 w0_2], U1 w0_0 a.x.Known, U2 w0_1 a.x.Nodes, .us w0_2 127 1 (a.x.Segments.map (rL 3 Ao)), O8 w [[.V 0, .V 0]], O8 A [Aq e.2], .arr Z 70 5 1 [Ba g]]) [(0, _), (1, _), (4, _), (6, _), (8, _), (21, _), (22, _), (23, _)] J8 ?_ ?_
 refine tV (An 5 [.o 1 6] I J1 ?_)
 rcases bt ((g.Node == t)) with i | i
 have h := Bu i h
 obtain ⟨D, ⟨aa, ab⟩, h⟩ := A6 h
 exact Ad 32 I i (An 9 [.o 4 0, .x 6 D.1 (rB D.2)] I ⟨⟨aa, Ag ab⟩, I, J⟩ (tW (lg ⟨D.2, h, I2⟩ [0, 1, 2, 3, 4, 5, 6])))
 have h := Bv i h
 exact Ad 32 I i (Af 9 I (tW (lg ⟨false, h, I2⟩ [0, 1, 2, 3, 4, 5, 6])))
 rintro s ob ⟨B, h, rfl, rfl⟩
 refine Ar h I ?_ ?_
 intro ac h
 refine uB ?_
 obtain ⟨f, ad, h⟩ := Ac h
 obtain ⟨ae, af, h⟩ := Ac h
 refine Bz (pd 10 0 [4, 5, 8]) [6, 5] [_, _] I (Ca 4 [.o 0 0, .o 1 1] I J2 (tY [0, 1, 2, 3] I I I (Im [0, 1, 2, 3] (jJ b _ w0_0 w0_1 w0_2 _ _ ad) ?_)))
 rintro _ _ _ - ⟨j, n, p, rfl, rfl, rfl⟩
 refine Dq I (eS _ _ _ _ af) (Bf 2 I (tY [4] I I I (A3 4 0 0 [Aq ae.1] I (Bf 1 I (Ap (tW ?_))))))
 obtain rfl := U _ (oi h).symm
 have h := G
 have h := C2 h
 refine Cv [0, 1, 2, 3, 4] I ?_
 cases io h
 exact uC ⟨.inr I, [_, _], [O4 b [Ay f.2 j n p], U1 j f.2.x.Known, U2 n f.2.x.Nodes, .us p 127 1 (f.2.x.Segments.map (rL 3 Ao))], ⟨⟨4, _, _, _, _, _, _, _, I5⟩, I, J⟩, Cz I (Cz I (Cz I (Cz I (Cm)))), ⟨[O4 b [Ay f.2 j n p], U1 j f.2.x.Known, U2 n f.2.x.Nodes, .us p 127 1 (f.2.x.Segments.map (rL 3 Ao))], [], I, I, j, n, p, I3⟩⟩
 intro ac h
 refine tZ (tV (An 2 [.k 0 (u + 1 : Nat)] I ⟨A0 K P, J⟩ ?_))
 cases io h
 exact tW ⟨_, _, _, I, I2, J7, [0, 1, 2, 3, 4, 5], I, by decide⟩
 rintro H s ob ⟨rfl, rfl⟩ he
 subst he
 have h := C8 G
 have ag := Cp a.n_.Stations.length
 exact Ah I (Aa fun am an => Br I ag (uE (lg ⟨(), h, I2⟩ [0, 1, 2, 3, 4, 5])))
 rintro s ob ⟨F, h, rfl, rfl⟩
 unfold P5.J1 at h
 refine uB (tV (An 1 [.o 0 5] I J1 (tX [4] I (A3 4 0 0 [Aq e.2] I (Af 1 I (tW (Cv [0, 1, 2, 3, 4] I ?_)))))))
 cases io h
 exact uC ⟨.inr I, [_, _], [O4 b [Ay a w0_0 w0_1 w0_2], U1 w0_0 a.x.Known, U2 w0_1 a.x.Nodes, .us w0_2 127 1 (a.x.Segments.map (rL 3 Ao))], ⟨⟨4, _, _, _, _, _, _, _, I5⟩, I, J⟩, Cz I (Cz I (Cz I (Cz I (Cm)))), ⟨[O4 b [Ay a w0_0 w0_1 w0_2], U1 w0_0 a.x.Known, U2 w0_1 a.x.Nodes, .us w0_2 127 1 (a.x.Segments.map (rL 3 Ao))], [], I, I, w0_0, w0_1, w0_2, I3⟩⟩
theorem gC (b : Nat) (O : steady_line) (w0_0 : Value) (w0_1 : Value) (w0_2 : Value) (U : Int) (r : Int × steady_line) (h : P7 O U = some r) : ACalls Aj 53 [.v (.pointer (some ⟨b, 0, none⟩)), .V U] [O4 b [Ay O w0_0 w0_1 w0_2], U1 w0_0 O.x.Known, U2 w0_1 O.x.Nodes, .us w0_2 127 1 (O.x.Segments.map (rL 3 Ao))] (Ea 4 fun x os new => ∃ (u1_0 : Value) (u1_1 : Value) (u1_2 : Value), x = .V r.1 ∧ os = [O4 b [Ay r.2 u1_0 u1_1 u1_2], U1 u1_0 r.2.x.Known, U2 u1_1 r.2.x.Nodes, .us u1_2 127 1 (r.2.x.Segments.map (rL 3 Ao))] ∧ new = []) := by
 refine Ae Tryz.func53 I I I fun C hC => ?_
 unfold P7 at h
 refine Ah I (Ai (fun s ob => ∃ (j : steady_line) (w : Value) (A : Value) (B : Value), P7.J1 U j = some r ∧ s = [] ∧ ob = [O4 b [Ay j w A B], U1 w j.x.Known, U2 A j.x.Nodes, .us B 127 1 (j.x.Segments.map (rL 3 Ao))]) [(0, _), (1, _)] J2 ?_ ?_)
 refine Bh [.o 4 0, .l 5 (O.n_.Ports.length : Int)] I ⟨Ax, I, J⟩ (uA (B0 21 I fun a6 => ?_))
 obtain ⟨cv, a7, a8⟩ := Ac h
 refine Cu a7 [(0, _), (1, _), (21, _), (22, _)] J4 (fun (ag : Nat) (t : steady_line) s ob => ∃ (D : Value) (E : Value) (F : Value), s = [(23, .V (ag : Int))] ∧ ob = [O4 b [Ay t D E F], U1 D t.x.Known, U2 E t.x.Nodes, .us F 127 1 (t.x.Segments.map (rL 3 Ao))]) ⟨w0_0, w0_1, w0_2, I2⟩ ⟨I, J⟩ ⟨[0, 1, 2, 3], I, by decide⟩ ?_ ?_
 rintro ag P t ar s ob a9 au ⟨D, E, F, rfl, rfl⟩ h
 unfold P7.B6 at h
 have ba := Co au
 refine Ah I (Aa fun cw bb => Bp I ba (tZ ?_))
 subst bb
 refine Ai (fun s ob => ∃ (W : steady_line) (ah : Value) (ai : Value) (aj : Value), P7.J7 W = some ar ∧ s = [] ∧ ob = [O4 b [Ay W ah ai aj], U1 ah W.x.Known, U2 ai W.x.Nodes, .us aj 127 1 (W.x.Segments.map (rL 3 Ao))]) [(0, _), (1, _), (21, _), (22, _), (23, _)] J5 ?_ ?_
 refine uA (Aa fun cx bc => tV (An 3 [.x 1 ag (Cc P)] I ⟨⟨I, Ag a9⟩, J⟩ (tX [] I (uF W6 3 fun bd => Af 1 I (tX [4] I (A3 4 0 0 [Cc P] I (tW ?_)))))))
 subst bc
 refine Ai (fun s ob => ∃ (ao : Bool), P7.J8 U P t ao = some ar ∧ s = [(42, .v (.bool ao))] ∧ ob = [O4 b [Ay t D E F], U1 D t.x.Known, U2 E t.x.Nodes, .us F 127 1 (t.x.Segments.map (rL 3 Ao)), .arr bd 68 3 1 [Cc P]]) [(0, _), (1, _), (6, _), (21, _), (22, _), (23, _)] J6 ?_ ?_
 refine tV (An 5 [.o 1 4] I J1 ?_)
 rcases bt ((P.Node == U)) with ac | ac
 have h := Bu ac h
 obtain ⟨ap, ⟨be, bf⟩, h⟩ := A6 h
 exact Ad 32 I ac (An 10 [.o 4 0, .x 6 ap.1 (rI ap.2)] I ⟨⟨be, Ag bf⟩, I, J⟩ (tW (lg ⟨decide (ap.2 > 0), h, I2⟩ [0, 1, 2, 3, 4])))
 have h := Bv ac h
 exact Ad 32 I ac (Af 10 I (tW (lg ⟨false, h, I2⟩ [0, 1, 2, 3, 4])))
 rintro s ob ⟨ao, h, rfl, rfl⟩
 refine Ar h I ?_ ?_
 intro bg h
 obtain ⟨bh, bi, h⟩ := Ac h
 refine tV (An 6 [.o 3 4, .o 5 4] I J2 (uH (Au (l := [.V P.Pressure, .V P.Pressure]) Dp I) I (tX [0, 1, 2, 3] I (Im [0, 1, 2, 3] (Uj b _ D E F _ _ _ bi) ?_))))
 rintro _ _ _ - ⟨bj, bk, bl, rfl, rfl, rfl⟩
 exact tW (lg ⟨bh, bj, bk, bl, h, I2⟩ [0, 1, 2, 3])
 intro bg h
 exact tZ (lg ⟨t, D, E, F, h, I2⟩ [0, 1, 2, 3])
 rintro s ob ⟨W, ah, ai, aj, h, rfl, rfl⟩
 unfold P7.J7 at h
 refine tV (An 2 [.k 0 (ag + 1 : Nat)] I ⟨A0 au a6, J⟩ ?_)
 cases io h
 exact tW (lg ⟨ah, ai, aj, I2⟩ [0, 1, 2, 3])
 rintro t s ob ⟨D, E, F, rfl, rfl⟩ he
 subst he
 have h := a8
 have bm := Cp O.n_.Ports.length
 exact Ah I (Aa fun cy cz => Br I bm (uE (lg ⟨t, D, E, F, h, I2⟩ [0, 1, 2, 3])))
 rintro s ob ⟨j, w, A, B, h, rfl, rfl⟩
 refine Aa fun c0 bn => uB ?_
 obtain ⟨aq, ⟨bo, av⟩, h⟩ := A6 h
 refine tV (An 6 [.o 4 0] I J1 (uJ (Bm 1 (m := aq.1) I I I I I I I bo (Ag av)) I (uJ (Bl 1 aq.1 0 I I I (Ag av) I (y := .v (.bool aq.2)) I) I (Af 1 I (tW (Ar h I ?_ ?_))))))
 intro bp h
 refine Ah I ?_
 obtain rfl := oi h
 exact uC ⟨.inr I, [_], [O4 b [Ay j w A B], U1 w j.x.Known, U2 A j.x.Nodes, .us B 127 1 (j.x.Segments.map (rL 3 Ao))], J1, Cz I (Cz I (Cz I (Cz I (Cm)))), ⟨[O4 b [Ay j w A B], U1 w j.x.Known, U2 A j.x.Nodes, .us B 127 1 (j.x.Segments.map (rL 3 Ao))], [], I, I, w, A, B, I3⟩⟩
 intro bp h
 refine tZ ?_
 subst bn
 refine Aa fun c1 bq => ?_
 obtain ⟨i, br, h⟩ := Ac h
 refine tV (Af 2 I (tX [0, 1, 2, 3] I (Im [0, 1, 2, 3] (fZ b _ w A B _ _ br) ?_)))
 rintro _ _ _ - ⟨X, Y, Z, rfl, rfl, rfl⟩
 refine Af 3 I (tX [] I (uF [.V 0, .V 0] 2 fun ak => tX [4] I (A3 4 0 0 [Aq i.1] I (Af 1 I (tW ?_)))))
 subst bq
 refine Aa fun c2 bs => Ah I (Ar h I ?_ ?_)
 intro bu h
 refine Ah I (Cv [0, 1, 2, 3] I ?_)
 obtain rfl := oi h
 exact uC ⟨.inr I, [_], [O4 b [Ay i.2.2 X Y Z], U1 X i.2.2.x.Known, U2 Y i.2.2.x.Nodes, .us Z 127 1 (i.2.2.x.Segments.map (rL 3 Ao))], J1, Cz I (Cz I (Cz I (Cz I (Cm)))), ⟨[O4 b [Ay i.2.2 X Y Z], U1 X i.2.2.x.Known, U2 Y i.2.2.x.Nodes, .us Z 127 1 (i.2.2.x.Segments.map (rL 3 Ao))], [], I, I, X, Y, Z, I3⟩⟩
 intro bu h
 refine tZ ?_
 subst bs
 refine Ai (fun s ob => ∃ (n : steady_line) (G : Value) (H : Value) (M : Value), P7.J2 n = some r ∧ s = [] ∧ ob = [O4 b [Ay n G H M], U1 G n.x.Known, U2 H n.x.Nodes, .us M 127 1 (n.x.Segments.map (rL 3 Ao))]) [] J ?_ ?_
 refine Bh [.o 4 0, .l 5 (i.2.2.n_.Segments.length : Int)] I ⟨Ax, I, J⟩ (uA (B0 74 I fun bv => ?_))
 obtain ⟨c3, bw, aw⟩ := Ac h
 refine Bx bw [(0, _), (1, _), (7, _), (74, _), (75, _)] J5 (fun (ad : Nat) (a : steady_line) s ob => ∃ (e : Value) (f : Value) (g : Value), s = [(76, .V (ad : Int))] ∧ ob = [O4 b [Ay a e f g], U1 e a.x.Known, U2 f a.x.Nodes, .us g 127 1 (a.x.Segments.map (rL 3 Ao)), O8 ak [Aq i.1]]) ⟨X, Y, Z, I2⟩ ⟨I, J⟩ ⟨[0, 1, 2, 3, 4], I, by decide⟩ ?_ ?_
 rintro ad ae a ax s ob bx ay ⟨e, f, g, rfl, rfl⟩ h b1
 unfold P7.B3 at h
 have b2 := Co ay
 refine Ah I (Aa fun c4 b3 => Bp I b2 (tZ ?_))
 subst b3
 refine Ai (fun s ob => ∃ (aa : steady_line) (al : Value) (am : Value) (an : Value), P7.J4 aa = some ax ∧ s = [] ∧ ob = [O4 b [Ay aa al am an], U1 al aa.x.Known, U2 am aa.x.Nodes, .us an 127 1 (aa.x.Segments.map (rL 3 Ao)), O8 ak [Aq i.1]]) [(0, _), (1, _), (7, _), (74, _), (75, _), (76, _)] J6 ?_ ?_
 refine uA (Aa fun c5 b4 => tV (An 3 [.x 1 ad (Ak ae)] I ⟨⟨I, Ag bx⟩, J⟩ (tX [] I (uF W2 7 fun c6 => Af 1 I (tX [5] I (A3 5 0 0 [Ak ae] I (tW ?_)))))))
 subst b4
 refine Aa fun c7 b5 => ?_
 obtain ⟨Q, ⟨b6, b7⟩, h⟩ := A6 h
 refine E2 [.o 4 0, .x 6 Q.1 (rI Q.2)] I ⟨⟨b6, Ag b7⟩, I, J⟩ ?_
 subst b5
 refine Aa fun c8 b8 => tV (An 2 [.o 0 5] I J1 (Cd (Og ae Q.2 _ I) (Af 5 I (tW ?_))))
 subst b8
 refine Aa fun c9 b9 => Eb 101 ((Q.2 == 0) || (((Bn ae Q.2).1) != U)) ?_ ?_
 refine tV (Af 3 I ?_)
 rcases bt ((Q.2 == 0)) with af | af
 exact Ad 97 I af (Af 4 I (tW (jf (by simp only [af, bz]) I I I2)))
 exact Ad 97 I af (Af 4 I (tW (jf (by simp only [af, bz]) I I I2)))
 refine Ar h I ?_ ?_
 intro ca h
 exact uE (lg ⟨a, e, f, g, h, I2⟩ [0, 1, 2, 3, 4])
 intro ca h
 refine tZ ?_
 subst b9
 refine Aa fun da cb => ?_
 obtain ⟨az, ⟨cc, cd⟩, h⟩ := A6 h
 obtain ⟨ab, ce, h⟩ := Ac h
 refine Bz (pd 24 0 [18]) [5, 0, 4] [_, _, _] I (Ca 18 [.o 0 0, .o 4 1, .x 6 az.1 ((rL 2 A4) az.2), .o 11 1, .o 15 1, .o 17 2] I ⟨I, I, I, ⟨cc, Ag cd⟩, I, I, J⟩ (tY [] I I I (Ck I I I (fO _ _ _ _ _ _ _ ce) dS ?_)))
 rintro _ _ ⟨a0, rfl, rfl⟩
 refine Bf 5 I (Ap (tW ?_))
 subst cb
 refine Aa fun db cf => Ah I (Ar h I ?_ ?_)
 intro ci h
 refine Ah I ?_
 obtain rfl := b1 _ (oi h).symm
 have h := aw
 have h := C2 h
 refine Cv [0, 1, 2, 3] I ?_
 obtain rfl := oi h
 exact uC ⟨.inr I, [_], [O4 b [Ay a e f g], U1 e a.x.Known, U2 f a.x.Nodes, .us g 127 1 (a.x.Segments.map (rL 3 Ao))], J1, Cz I (Cz I (Cz I (Cz I (Cm)))), ⟨[O4 b [Ay a e f g], U1 e a.x.Known, U2 f a.x.Nodes, .us g 127 1 (a.x.Segments.map (rL 3 Ao))], [], I, I, e, f, g, I3⟩⟩
 intro ci h
 refine tZ ?_
 subst cf
 refine Aa fun dc cj => ?_
 obtain ⟨R, ⟨ck, a1⟩, h⟩ := A6 h
 refine tV (Af 1 I (uJ (Bm 6 (m := R.1) I I I I I I I ck (Ag a1)) I (uJ (Bl 6 R.1 0 I I I (Ag a1) I (y := .agg (Ao R.2)) I) I (tX [] I (uF W1 3 fun a2 => tX [7] I (A3 7 0 0 [Ao R.2] I (tW ?_)))))))
 subst cj
 refine Ai (fun s ob => ∃ (u : Int × Int × Int), P7.J5 ad ae a Q ab u = some ax ∧ s = [] ∧ ob = [O4 b [Ay a e f g], U1 e a.x.Known, U2 f a.x.Nodes, .us g 127 1 (a.x.Segments.map (rL 3 Ao)), O8 ak [Aq i.1], U5 a0 ab.1, .arr a2 131 3 1 [[.V u.1, .V u.2.1, .V u.2.2]]]) [(0, _), (1, _), (7, _), (9, _), (13, _), (14, _), (16, _), (74, _), (75, _), (76, _)] jW ?_ ?_
 refine Ah I (Ar h I ?_ ?_)
 intro cl h
 obtain ⟨S, ⟨cm, a3⟩, h⟩ := A6 h
 exact tV (Af 2 I (uJ (C0 6 I I I I) I (Af 1 I (uJ (Bm 6 (m := S.1) I I I I I I I cm (Ag a3)) I (uJ (Bl 6 S.1 0 I I I (Ag a3) I (y := .agg (Ao S.2)) I) I (tX [7] I (A3 7 0 0 [Ao S.2] I (tW (lg ⟨(S.2.At, S.2.Bounds.Low, S.2.Bounds.High), h, I2⟩ [0, 1, 2, 3, 4, 6, 7])))))))))
 intro cl h
 exact tZ (lg ⟨(R.2.At, R.2.Bounds.Low, R.2.Bounds.High), h, I2⟩ [0, 1, 2, 3, 4, 6, 7])
 rintro s ob ⟨u, h, rfl, rfl⟩
 refine uB ?_
 obtain ⟨a4, ⟨cn, a5⟩, h⟩ := A6 h
 refine tV (An 7 [.o 4 0] I J1 (uJ (Bm 3 (m := a4.1) I I I I I I I cn (Ag a5)) I (AO.ghost (Bi [5] (K := [U5 a0 ab.1]) I [(14, sM ab.1), (144, sM ab.1)] ⟨⟨_, I, .us 0 I⟩, ⟨_, I, .us 0 I⟩, J⟩ (ob' := [O4 b [Ay a e f g], U1 e a.x.Known, U2 f a.x.Nodes, .us g 127 1 (a.x.Segments.map (rL 3 Ao)), O8 ak [Aq i.1], .arr a2 131 3 1 [[.V u.1, .V u.2.1, .V u.2.2]]]) (.rest _)) (tX [3] I (Ci 3 a4.1 0 I I I (Ag a5) I I I I (Cb I) I (Dg (x := ab.1) I) (tW ?_))))))
 obtain ⟨co, cp, h⟩ := Ac h
 refine tV (Af 3 I (uJ (C4 5 0 1 I I I I I (y := .agg [.V u.2.1, .V u.2.2]) I) I (tX [0, 1, 2, 3] I (Im [0, 1, 2, 3] (Uj b _ e f g _ _ _ cp) ?_))))
 rintro _ _ _ - ⟨cq, cr, ct, rfl, rfl, rfl⟩
 exact tW (lg ⟨co, cq, cr, ct, h, I2⟩ [0, 1, 2, 3, 4])
 rintro s ob ⟨aa, al, am, an, h, rfl, rfl⟩
 unfold P7.J4 at h
 refine tV (An 2 [.k 0 (ad + 1 : Nat)] I ⟨A0 ay bv, J⟩ ?_)
 cases io h
 exact tW ⟨_, _, _, I, ⟨al, am, an, I2⟩, J6, [0, 1, 2, 3, 4], I, by decide⟩
 rintro a s ob ⟨e, f, g, rfl, rfl⟩ he
 subst he
 have h := C8 aw
 have cu := Cp i.2.2.n_.Segments.length
 exact Ah I (Aa fun dd de => Br I cu (uE (lg ⟨a, e, f, g, h, I2⟩ [0, 1, 2, 3])))
 rintro s ob ⟨n, G, H, M, h, rfl, rfl⟩
 refine Ah I ?_
 obtain rfl := oi h
 exact uC ⟨.inr I, [_], [O4 b [Ay n G H M], U1 G n.x.Known, U2 H n.x.Nodes, .us M 127 1 (n.x.Segments.map (rL 3 Ao))], J1, Cz I (Cz I (Cz I (Cz I (Cm)))), ⟨[O4 b [Ay n G H M], U1 G n.x.Known, U2 H n.x.Nodes, .us M 127 1 (n.x.Segments.map (rL 3 Ao))], [], I, I, G, H, M, I3⟩⟩
theorem iB (a : List Piece) (F1 : T) {c : FuncId} {d e : List T} (o : Jd F1 = some (c, d, e)) (f : Piece → Option Bool) (p : ∀ (g : Piece) r, f g = some r → ACalls Aj c (d ++ [.agg (A4 g)] ++ e) [] (RB r)) (r : Int) (h : Vz a f = some r) : ACalls Aj 89 [Q4 a, F1] [] (RV (.V r)) := by
 refine Ae Tryz.func89 I I I fun C hC => ?_
 unfold Vz at h
 refine Ah I (Ai (fun s ob => ∃ (i : Unit), Vz.J1 i = some r ∧ s = [] ∧ ob = []) [] J ?_ ?_)
 refine Bh [.l 1 (a.length : Int)] I ⟨Ax, J⟩ (uA (B0 6 I fun q => ?_))
 obtain ⟨G, t, j⟩ := Ac h
 refine Bx t [(0, _), (1, _), (7, _)] J3 (fun (b : Nat) (m : Unit) s ob => s = [(8, .V (b : Int))] ∧ ob = []) ⟨I, I⟩ ⟨I, J⟩ ⟨[], I, by decide⟩ ?_ ?_
 rintro b u m H s ob w n ⟨rfl, rfl⟩ h y
 have A := Co n
 refine Ah I (Aa fun K B => Bp I A (tZ ?_))
 subst B
 refine uB (uA (Ah I (uB ?_)))
 obtain ⟨M, D, h⟩ := Ac h
 refine tV (An 5 [.x 3 b (A4 u)] I ⟨⟨I, Ag w⟩, J⟩ (tX [] I (Ch I (.refl _) o I (.rest _) I (p _ _ D) dS (by rintro _ _ ⟨rfl, _⟩; rfl) ?_)))
 rintro _ ⟨_, rfl, -⟩
 refine tW (Ar h I ?_ ?_)
 intro E h
 refine Ah I ?_
 obtain rfl := y _ (oi h).symm
 have h := j
 have h := C2 h
 cases io h
 exact uC pr
 intro E h
 refine tZ (tV (An 2 [.k 0 (b + 1 : Nat)] I ⟨A0 n q, J⟩ ?_))
 cases io h
 exact tW ⟨_, _, _, I, I2, J4, [], I, by decide⟩
 rintro m s ob ⟨rfl, rfl⟩ he
 subst he
 have h := C8 j
 have F := Cp a.length
 exact Ah I (Aa fun N O => Br I F (uE (lg ⟨(), h, I2⟩ [])))
 rintro s ob ⟨i, h, rfl, rfl⟩
 unfold Vz.J1 at h
 refine Ah I ?_
 cases io h
 exact uC pr
theorem eW (b : List Piece) (F1 : T) {d : FuncId} {e f : List T} (i : Jd F1 = some (d, e, f)) (a : Piece → Option Bool) (j : ∀ (g : Piece) r, a g = some r → ACalls Aj d (e ++ [.agg (A4 g)] ++ f) [] (RB r)) (r : Bool) (h : Pw b a = some r) : ACalls Aj 50 [Q4 b, F1] [] (RB r) := by
 refine Ae Tryz.func50 I I I fun C hC => ?_
 refine Ah I (uB ?_)
 obtain ⟨l, k, h⟩ := Ac h
 refine tV (Af 2 I (Cd (iB _ F1 i a j _ k) (Af 2 I (tW ?_))))
 cases io h
 exact uC pr
theorem fV (a : Piece) (b : List Batch) (d : List Product) (r : Bool) (h : Vp a b d = some r) : ACalls Aj 51 [.agg (A4 a), .eptr ((rL 4 D7) b), .eptr ((rL 5 Bw) d)] [] (RB r) := by
 refine Ae Tryz.func51 I I I fun C hC => ?_
 refine uB (tV (tX [] I (Bo (A4 a) 2 fun f => Af 1 I (tW (uB ?_)))))
 obtain ⟨g, e, h⟩ := Ac h
 refine tV (An 4 [.o 1 0] I J1 (Cd (gN _ _ _ _ e) (Af 2 I (tW (uD g0 ?_)))))
 cases io h
 exact uC pr
theorem gM (a : Nw) (e : List Batch) (g : List Product) (t : List (List Piece)) (b : Plan) (r : Pressures × Int) (h : Ff a e g t b = some r) : ACalls Aj 25 [.agg (Ab a), Q3 e, Q2 g, .list 1 (t.map (rL 2 A4)), .agg (Am b)] [] (RV (.tup [.agg (A9 r.1), .V r.2])) := by
 refine Ae Tryz.func25 I I I fun C hC => ?_
 refine Aa fun y1 a6 => tV (tX [] I (Bo (Ab a) 6 fun Q => tX [] I (Bo [Q3 e] 1 fun R => tX [] I (Bo [Q2 g] 1 fun S => tX [] I (Bo (Am b) 3 fun U => tX [] I (uF W0 3 fun w => Af 1 I (tW ?_)))))))
 subst a6
 refine Aa fun y7 a7 => ?_
 obtain ⟨u, a8, h⟩ := Ac h
 refine tV (An 2 [.o 0 0, .o 1 3] I J2 (tX [] I (Ck I I I (eV _ _ _ a8) dS ?_)))
 rintro _ _ ⟨F, rfl, rfl⟩
 refine Af 5 I (tW ?_)
 subst a7
 refine Aa fun cb a9 => Ah I (Ar h I ?_ ?_)
 intro ba h
 refine uB (tV (uH (Au (l := W0) Cg I) I (Af 1 I (tX [4] I (A3 4 0 0 [W0] I (Af 1 I (tW (uD (Bi [] (K := []) I [] J (ob' := [O0 Q [Ab a], .arr R 36 1 1 [[Q3 e]], .arr S 32 1 1 [[Q2 g]], O1 U [Am b], O3 w [[.list 1 ([].map rB), .list 2 ([].map Aq), .list 1 ([].map (rL 3 Ao))]], U0 F u.1]) (.cons (.same _) (.cons (.same _) (.cons (.same _) (.cons (.same _) (.cons (.arr (.cons (.nil _) (.cons (.nil _) (.cons (.nil _) (.rest _))))) (.rest _))))))) (Cv [4] I ?_)))))))))
 cases io h
 rotate_left
 intro ba h
 refine tZ ?_
 subst a9
 refine Aa fun cc bb => uB ?_
 obtain ⟨cd, bc, h⟩ := Ac h
 refine tV (An 2 [.o 0 0] I J1 (Cd (fS _ _ _ bc) (Af 1 I (tW (Ah I (Ar h I ?_ ?_))))))
 intro bd h
 refine uB (tV (uH (Au (l := W0) Cg I) I (Af 1 I (tX [4] I (A3 4 0 0 [W0] I (Af 1 I (tW (uD (Bi [] (K := []) I [] J (ob' := [O0 Q [Ab a], .arr R 36 1 1 [[Q3 e]], .arr S 32 1 1 [[Q2 g]], O1 U [Am b], O3 w [[.list 1 ([].map rB), .list 2 ([].map Aq), .list 1 ([].map (rL 3 Ao))]], U0 F u.1]) (.cons (.same _) (.cons (.same _) (.cons (.same _) (.cons (.same _) (.cons (.arr (.cons (.nil _) (.cons (.nil _) (.cons (.nil _) (.rest _))))) (.rest _))))))) (Cv [4] I ?_)))))))))
 cases io h
 rotate_left
 intro bd h
 refine tZ ?_
 subst bb
 refine Aa fun ce be => uB ?_
 obtain ⟨cf, bf, h⟩ := Ac h
 refine tV (An 1 [.o 0 2] I J1 (Cd (T1 _ _ bf) (Af 1 I (tW (Ah I (Ar h I ?_ ?_))))))
 intro bg h
 refine uB (tV (uH (Au (l := W0) Cg I) I (Af 1 I (tX [4] I (A3 4 0 0 [W0] I (Af 1 I (tW (uD (Bi [] (K := []) I [] J (ob' := [O0 Q [Ab a], .arr R 36 1 1 [[Q3 e]], .arr S 32 1 1 [[Q2 g]], O1 U [Am b], O3 w [[.list 1 ([].map rB), .list 2 ([].map Aq), .list 1 ([].map (rL 3 Ao))]], U0 F u.1]) (.cons (.same _) (.cons (.same _) (.cons (.same _) (.cons (.same _) (.cons (.arr (.cons (.nil _) (.cons (.nil _) (.cons (.nil _) (.rest _))))) (.rest _))))))) (Cv [4] I ?_)))))))))
 cases io h
 rotate_left
 intro bg h
 refine tZ ?_
 subst be
 refine Ai (fun s ob => ∃ (az : Unit), Ff.J1 a e g t b u az = some r ∧ s = [] ∧ ob = [O0 Q [Ab a], .arr R 36 1 1 [[Q3 e]], .arr S 32 1 1 [[Q2 g]], O1 U [Am b], O3 w [W0], U0 F u.1]) [(3, _), (5, _), (6, _), (7, _), (9, _), (10, _), (12, _)] J7 ?_ ?_
 refine Bh [.l 1 (t.length : Int)] I ⟨Ax, J⟩ (uA (B0 45 I fun bh => ?_))
 obtain ⟨ci, bi, a0⟩ := Ac h
 refine Bx bi [(3, _), (5, _), (6, _), (7, _), (9, _), (10, _), (12, _), (45, _), (46, _)] J9 (fun (ah : Nat) (a1 : Unit) s ob => s = [(47, .V (ah : Int))] ∧ ob = [O0 Q [Ab a], .arr R 36 1 1 [[Q3 e]], .arr S 32 1 1 [[Q2 g]], O1 U [Am b], O3 w [W0], U0 F u.1]) ⟨I, I⟩ ⟨I, J⟩ ⟨[0, 1, 2, 3, 4, 5], I, by decide⟩ ?_ ?_
 rintro ah bj a1 cj s ob bk a2 ⟨rfl, rfl⟩ h bl
 have bm := Co a2
 refine Ah I (Aa fun ck bn => Bp I bm (tZ ?_))
 subst bn
 refine uB (uA (Bh [.x 0 ah ((rL 2 A4) bj)] I ⟨⟨I, Ag bk⟩, J⟩ (uB ?_)))
 obtain ⟨cl, bo, h⟩ := Ac h
 refine tV (Af 1 I (uH (uR I I) I (tX [] I (Ch I (.refl _) I I (.cons (.refl _) (.cons (.fn (.rest _) (.cons (.box 1 I (.rest _)) (.cons (.box 2 I (.rest _)) (.rest _)))) (.rest _))) I (eW _ (.fn 51 [] [.eptr ((rL 4 D7) e), .eptr ((rL 5 Bw) g)]) I (fun x => Vp x e g) (fun x r h => fV x e g r h) _ bo) dS (by rintro _ _ ⟨rfl, _⟩; rfl) ?_))))
 rintro _ ⟨_, rfl, -⟩
 refine tW (Ar h I ?_ ?_)
 intro bp h
 refine uB (tV (uH (Au (l := W0) Cg I) I (tX [4] I (A3 4 0 0 [W0] I (Af 1 I (tW ?_))))))
 obtain rfl := bl _ (oi h).symm
 have h := a0
 have h := C2 h
 refine uD (Bi [] (K := []) I [] J (ob' := [O0 Q [Ab a], .arr R 36 1 1 [[Q3 e]], .arr S 32 1 1 [[Q2 g]], O1 U [Am b], O3 w [[.list 1 ([].map rB), .list 2 ([].map Aq), .list 1 ([].map (rL 3 Ao))]], U0 F u.1]) (.cons (.same _) (.cons (.same _) (.cons (.same _) (.cons (.same _) (.cons (.arr (.cons (.nil _) (.cons (.nil _) (.cons (.nil _) (.rest _))))) (.rest _))))))) (Cv [4] I ?_)
 cases io h
 any_goals
  exact uC ⟨.inr I, [_, _], [], ⟨⟨0, _, _, _, _, _, _, _, I5⟩, I, J⟩, Cm, I2⟩
 intro bp h
 refine tZ (tV (An 2 [.k 0 (ah + 1 : Nat)] I ⟨A0 a2 bh, J⟩ ?_))
 cases io h
 exact tW ⟨_, _, _, I, I2, jW, [0, 1, 2, 3, 4, 5], I, by decide⟩
 rintro a1 s ob ⟨rfl, rfl⟩ he
 subst he
 have h := C8 a0
 have bq := Cp t.length
 exact Ah I (Aa fun cm cn => Br I bq (uE (lg ⟨(), h, I2⟩ [0, 1, 2, 3, 4, 5])))
 rintro s ob ⟨az, h, rfl, rfl⟩
 unfold Ff.J1 at h
 refine Aa fun co br => tV (An 5 [.o 0 0, .o 1 1, .o 2 2, .o 4 3] I J4 (uH (Au (l := [Q1 a.Nodes, Q5 a.Segments, Q6 a.Ports, Q7 a.Stations, .V a.Vapour, .V a.Settle, Q3 e, Q2 g, .list 1 (t.map (rL 2 A4)), Q0 b.Rates, Q0 b.Ports, Q9 b.Pumps, .N, .N, .N]) Y9 I) I (tX [] I (Bo [Q1 a.Nodes, Q5 a.Segments, Q6 a.Ports, Q7 a.Stations, .V a.Vapour, .V a.Settle, Q3 e, Q2 g, .list 1 (t.map (rL 2 A4)), Q0 b.Rates, Q0 b.Ports, Q9 b.Pumps, .N, .N, .N] 15 fun W => Af 1 I (tW ?_)))))
 subst br
 refine Ai (fun s ob => ∃ (X : steady_line) (ai : Value) (aj : Value) (ak : Value), Ff.J2 u X = some r ∧ s = [] ∧ ob = [O3 w [W0], U0 F u.1, O4 W [Ay X ai aj ak], U1 ai X.x.Known, U2 aj X.x.Nodes, .us ak 127 1 (X.x.Segments.map (rL 3 Ao))]) [(10, _), (12, _), (18, _)] J3 ?_ ?_
 obtain ⟨Y, ⟨cp, al, am, an⟩, h⟩ := Gl h
 obtain ⟨Z, ⟨cq, ao, ap, aq⟩, h⟩ := Gl h
 obtain ⟨ad, ⟨B, ae, af, ag⟩, h⟩ := Gl h
 refine Bz (sl 4 0 (sl 3 5 (sl 3 9 (.three 4 8 12 (.two 8 12 (.act 12 Xp) (.act 8 Xp)) (.two 4 12 (.act 12 Xp) (.act 4 Xp)) (.par [(4, []), (8, [])] Xp))))) [0] [_] I (Ca 10 [.o 2 0, .l 3 (a.Nodes.length : Int), .o 5 0, .l 6 (a.Nodes.length : Int), .o 8 0, .l 9 (a.Segments.length : Int)] I ⟨Ax, I, Ax, I, Ax, I, J⟩ (uT ?_ ?_ ?_))
 refine tY [] I I I (Bq (sz := 1) I I I I I I I I I I al am (Ct (f := rB) an I) dS fun j => uK ?_ ?_)
 exact tY [] I I I (Bq (sz := 2) I I I I I I I I I I ao ap (Ct (f := Aq) aq I) dS fun n => tY [] I I I (Bq (sz := 1) (es' := List.replicate B [.N]) I I I I I I I I I I ae af I dS fun i => Cx (Cj (f := Ao) 9 B 3 ag I) I (uI 7 I fun D => uI 8 I fun E => uI 9 I fun G => uQ I (Au (l := [.v j, .v n, .v i]) Cg (As I I (A8 D) I (As I I (A8 E) I (As I I (A8 G) I (Cw))))) I (Bf 2 I (tY [6] I I I (A3 6 0 12 [[Q1 a.Nodes, Q5 a.Segments, Q6 a.Ports, Q7 a.Stations, .V a.Vapour, .V a.Settle, Q3 e, Q2 g, .list 1 (t.map (rL 2 A4)), Q0 b.Rates, Q0 b.Ports, Q9 b.Pumps, .v j, .v n, .v i]] I (Ap (tW (lg ⟨(⟨a, e, g, t, b, (⟨Y, Z, ad⟩ : Pressures)⟩ : steady_line), j, n, i, h, I2⟩ [4, 5, 6, 7, 8, 9])))))))))
 exact tY [] I I I (Bq (sz := 1) (es' := List.replicate B [.N]) I I I I I I I I I I ae af I dS fun i => Cx (Cj (f := Ao) 8 B 3 ag I) I (tY [] I I I (Bq (sz := 2) I I I I I I I I I I ao ap (Ct (f := Aq) aq I) dS fun n => uI 7 I fun D => uI 9 I fun E => uI 8 I fun G => uQ I (Au (l := [.v j, .v n, .v i]) Cg (As I I (A8 D) I (As I I (A8 E) I (As I I (A8 G) I (Cw))))) I (Bf 2 I (tY [6] I I I (A3 6 0 12 [[Q1 a.Nodes, Q5 a.Segments, Q6 a.Ports, Q7 a.Stations, .V a.Vapour, .V a.Settle, Q3 e, Q2 g, .list 1 (t.map (rL 2 A4)), Q0 b.Rates, Q0 b.Ports, Q9 b.Pumps, .v j, .v n, .v i]] I (Ap (tW (lg ⟨(⟨a, e, g, t, b, (⟨Y, Z, ad⟩ : Pressures)⟩ : steady_line), j, n, i, h, I2⟩ [4, 5, 6, 7, 9, 8])))))))))
 refine tY [] I I I (Bq (sz := 2) I I I I I I I I I I ao ap (Ct (f := Aq) aq I) dS fun n => uK ?_ ?_)
 exact tY [] I I I (Bq (sz := 1) I I I I I I I I I I al am (Ct (f := rB) an I) dS fun j => tY [] I I I (Bq (sz := 1) (es' := List.replicate B [.N]) I I I I I I I I I I ae af I dS fun i => Cx (Cj (f := Ao) 9 B 3 ag I) I (uI 8 I fun D => uI 7 I fun E => uI 9 I fun G => uQ I (Au (l := [.v j, .v n, .v i]) Cg (As I I (A8 D) I (As I I (A8 E) I (As I I (A8 G) I (Cw))))) I (Bf 2 I (tY [6] I I I (A3 6 0 12 [[Q1 a.Nodes, Q5 a.Segments, Q6 a.Ports, Q7 a.Stations, .V a.Vapour, .V a.Settle, Q3 e, Q2 g, .list 1 (t.map (rL 2 A4)), Q0 b.Rates, Q0 b.Ports, Q9 b.Pumps, .v j, .v n, .v i]] I (Ap (tW (lg ⟨(⟨a, e, g, t, b, (⟨Y, Z, ad⟩ : Pressures)⟩ : steady_line), j, n, i, h, I2⟩ [4, 5, 6, 8, 7, 9])))))))))
 exact tY [] I I I (Bq (sz := 1) (es' := List.replicate B [.N]) I I I I I I I I I I ae af I dS fun i => Cx (Cj (f := Ao) 8 B 3 ag I) I (tY [] I I I (Bq (sz := 1) I I I I I I I I I I al am (Ct (f := rB) an I) dS fun j => uI 9 I fun D => uI 7 I fun E => uI 8 I fun G => uQ I (Au (l := [.v j, .v n, .v i]) Cg (As I I (A8 D) I (As I I (A8 E) I (As I I (A8 G) I (Cw))))) I (Bf 2 I (tY [6] I I I (A3 6 0 12 [[Q1 a.Nodes, Q5 a.Segments, Q6 a.Ports, Q7 a.Stations, .V a.Vapour, .V a.Settle, Q3 e, Q2 g, .list 1 (t.map (rL 2 A4)), Q0 b.Rates, Q0 b.Ports, Q9 b.Pumps, .v j, .v n, .v i]] I (Ap (tW (lg ⟨(⟨a, e, g, t, b, (⟨Y, Z, ad⟩ : Pressures)⟩ : steady_line), j, n, i, h, I2⟩ [4, 5, 6, 9, 7, 8])))))))))
 refine tY [] I I I (Bq (sz := 1) (es' := List.replicate B [.N]) I I I I I I I I I I ae af I dS fun i => Cx (Cj (f := Ao) 7 B 3 ag I) I (AP.any [⟨4, [], 67, .us 4 1 (Y.map rB)⟩, ⟨8, [], 71, .us 129 2 (Z.map Aq)⟩] I ⟨⟨_, I, I, I, fun _ => Bq (sz := 1) I I I I I I I I I I al am (Ct (f := rB) an I) dS fun v => ⟨_, I, ⟨v, I⟩, I⟩⟩, ⟨_, I, I, I, fun _ => Bq (sz := 2) I I I I I I I I I I ao ap (Ct (f := Aq) aq I) dS fun v => ⟨_, I, ⟨v, I⟩, I⟩⟩, J⟩ ?_))
 intro j D n E
 exact uI 8 I fun D => uI 9 I fun E => uI 7 I fun G => uQ I (Au (l := [.v j, .v n, .v i]) Cg (As I I (A8 D) I (As I I (A8 E) I (As I I (A8 G) I (Cw))))) I (Bf 2 I (tY [6] I I I (A3 6 0 12 [[Q1 a.Nodes, Q5 a.Segments, Q6 a.Ports, Q7 a.Stations, .V a.Vapour, .V a.Settle, Q3 e, Q2 g, .list 1 (t.map (rL 2 A4)), Q0 b.Rates, Q0 b.Ports, Q9 b.Pumps, .v j, .v n, .v i]] I (Ap (tW (lg ⟨(⟨a, e, g, t, b, (⟨Y, Z, ad⟩ : Pressures)⟩ : steady_line), j, n, i, h, I2⟩ [4, 5, 6, 8, 9, 7]))))))
 rintro s ob ⟨X, ai, aj, ak, h, rfl, rfl⟩
 unfold Ff.J2 at h
 refine Ai (fun s ob => ∃ (A : steady_line) (H : Value) (M : Value) (O : Value), Ff.J3 A = some r ∧ s = [] ∧ ob = [O3 w [W0], O4 W [Ay A H M O], U1 H A.x.Known, U2 M A.x.Nodes, .us O 127 1 (A.x.Segments.map (rL 3 Ao))]) [(10, _), (18, _)] J2 ?_ ?_
 refine Aa fun cr bs => tV (Af 1 I (uJ (C0 1 I I I I) I (Af 1 I (tW ?_))))
 subst bs
 refine uA (Ot 1 I fun bt => ?_)
 obtain ⟨ct, bu, a3⟩ := Ac h
 refine Fi bu [(10, _), (18, _), (79, _), (80, _)] J4 (fun (au : Nat) (P : steady_line) s ob => ∃ (aa : Value) (ab : Value) (ac : Value), s = [(81, .V (au : Int))] ∧ ob = [O3 w [W0], U0 F u.1, O4 W [Ay P aa ab ac], U1 aa P.x.Known, U2 ab P.x.Nodes, .us ac 127 1 (P.x.Segments.map (rL 3 Ao))]) ⟨ai, aj, ak, I2⟩ ⟨I, J⟩ ⟨[0, 1, 2, 3, 4, 5], I, by decide⟩ ?_ ?_
 rintro au P cu s ob a4 ⟨aa, ab, ac, rfl, rfl⟩ h bv
 have bw := Co a4
 refine Ah I (Aa fun cv bx => Bp I bw (tZ ?_))
 subst bx
 refine uB (uA (Aa fun cw bz => ?_))
 obtain ⟨av, ⟨b0, a5⟩, h⟩ := A6 h
 refine tV (uJ (Bm 1 (m := av.1) I I I I I I I b0 (Ag a5)) I (uJ (Bl 1 av.1 0 I I I (Ag a5) I (y := .V av.2) I) I (Af 1 I (tW ?_))))
 subst bz
 refine uB ?_
 obtain ⟨ar, b1, h⟩ := Ac h
 refine tV (Af 2 I (tX [2, 3, 4, 5] I (Im [2, 3, 4, 5] (gC W _ aa ab ac _ _ b1) ?_)))
 rintro _ _ _ - ⟨aw, ax, ay, rfl, rfl, rfl⟩
 refine Af 1 I (tW (Ah I (Ar h I ?_ ?_)))
 intro b7 h
 refine uB (tV (uH (Au (l := W0) Cg I) I (Af 1 I (tX [0] I (A3 0 0 0 [W0] I (Af 1 I (tW ?_)))))))
 obtain rfl := bv _ (oi h).symm
 have h := a3
 have h := C2 h
 refine uD (Bi [] (K := []) I [] J (ob' := [O3 w [[.list 1 ([].map rB), .list 2 ([].map Aq), .list 1 ([].map (rL 3 Ao))]], U0 F u.1, O4 W [Ay ar.2 aw ax ay], U1 aw ar.2.x.Known, U2 ax ar.2.x.Nodes, .us ay 127 1 (ar.2.x.Segments.map (rL 3 Ao))]) (.cons (.arr (.cons (.nil _) (.cons (.nil _) (.cons (.nil _) (.rest _))))) (.rest _))) (Cv [0] I ?_)
 cases io h
 exact uC ⟨.inr I, [_, _], [], ⟨⟨0, _, _, _, _, _, _, _, I5⟩, I, J⟩, Cm, I2⟩
 intro b7 h
 refine tZ (tV (An 2 [.k 0 (au + 1 : Nat)] I ⟨A0 a4 bt, J⟩ ?_))
 cases io h
 exact tW ⟨_, _, _, I, ⟨aw, ax, ay, I2⟩, J5, [0, 1, 2, 3, 4, 5], I, by decide⟩
 rintro P s ob ⟨aa, ab, ac, rfl, rfl⟩ he
 subst he
 have h := C8 a3
 have b8 := Cp u.1.length
 exact Ah I (Aa fun cx cy => Br I b8 (uE (lg ⟨P, aa, ab, ac, h, I2⟩ [0, 2, 3, 4, 5])))
 rintro s ob ⟨A, H, M, O, h, rfl, rfl⟩
 unfold Ff.J3 at h
 refine uB (tV (Af 3 I (uJ (C4 1 0 12 I I I I I (y := .agg [.v H, .v M, .v O]) I) I (tX [0] I (A3 0 0 0 [[.v H, .v M, .v O]] I (Af 1 I (tW (uD (Bi [2, 3, 4] (K := [U1 H A.x.Known, U2 M A.x.Nodes, .us O 127 1 (A.x.Segments.map (rL 3 Ao))]) I [] J (ob' := [O3 w [A9 A.x], O4 W [Ay A H M O]]) (.cons (.arr (.cons (.us 0 I) (.cons (.us 1 I) (.cons (.us 2 I) (.rest _))))) (.rest _))) (Cv [0] I ?_)))))))))
 cases io h
 exact uC ⟨.inr I, [_, _], [], ⟨⟨0, _, _, _, _, _, _, _, I5⟩, I, J⟩, Cm, I2⟩
theorem Uh (a : Int) (r : Bool) (h : Ng a = r) : ACalls Aj 93 [.V a] [] (RB r) := by
 refine Ae Tryz.func93 I I I fun C hC => ?_
 unfold Ng at h
 refine Ah I (Ai (fun s ob => s = [(2, .v (.bool (decide (a < 0) || decide (a > 1125899906842624))))] ∧ ob = []) [] J ?_ ?_)
 refine tV (Af 3 I ?_)
 rcases bt (decide (a < 0)) with b | b
 refine Ad 5 I b (Af 4 I (tW ?_))
 exact lf I2 ⟨(Do (by simp only [b, bz])), J⟩ [] I
 refine Ad 5 I b (Af 4 I (tW ?_))
 exact lf I2 ⟨(Do (by simp only [b, bz])), J⟩ [] I
 rintro s ob ⟨rfl, rfl⟩
 obtain rfl := h
 exact uC pr
theorem eZ (a : List Bounds) (F1 : T) {c : FuncId} {d e : List T} (o : Jd F1 = some (c, d, e)) (f : Bounds → Option Bool) (p : ∀ (g : Bounds) r, f g = some r → ACalls Aj c (d ++ [.agg (Aq g)] ++ e) [] (RB r)) (r : Int) (h : Vg a f = some r) : ACalls Aj 152 [tG a, F1] [] (RV (.V r)) := by
 refine Ae Tryz.func152 I I I fun C hC => ?_
 unfold Vg at h
 refine Ah I (Ai (fun s ob => ∃ (i : Unit), Vg.J1 i = some r ∧ s = [] ∧ ob = []) [] J ?_ ?_)
 refine Bh [.l 1 (a.length : Int)] I ⟨Ax, J⟩ (uA (B0 6 I fun q => ?_))
 obtain ⟨G, t, j⟩ := Ac h
 refine Bx t [(0, _), (1, _), (7, _)] J3 (fun (b : Nat) (m : Unit) s ob => s = [(8, .V (b : Int))] ∧ ob = []) ⟨I, I⟩ ⟨I, J⟩ ⟨[], I, by decide⟩ ?_ ?_
 rintro b u m H s ob w n ⟨rfl, rfl⟩ h y
 have A := Co n
 refine Ah I (Aa fun K B => Bp I A (tZ ?_))
 subst B
 refine uB (uA (Ah I (uB ?_)))
 obtain ⟨M, D, h⟩ := Ac h
 refine tV (An 5 [.x 3 b (Aq u)] I ⟨⟨I, Ag w⟩, J⟩ (tX [] I (Ch I (.refl _) o I (.rest _) I (p _ _ D) dS (by rintro _ _ ⟨rfl, _⟩; rfl) ?_)))
 rintro _ ⟨_, rfl, -⟩
 refine tW (Ar h I ?_ ?_)
 intro E h
 refine Ah I ?_
 obtain rfl := y _ (oi h).symm
 have h := j
 have h := C2 h
 cases io h
 exact uC pr
 intro E h
 refine tZ (tV (An 2 [.k 0 (b + 1 : Nat)] I ⟨A0 n q, J⟩ ?_))
 cases io h
 exact tW ⟨_, _, _, I, I2, J4, [], I, by decide⟩
 rintro m s ob ⟨rfl, rfl⟩ he
 subst he
 have h := C8 j
 have F := Cp a.length
 exact Ah I (Aa fun N O => Br I F (uE (lg ⟨(), h, I2⟩ [])))
 rintro s ob ⟨i, h, rfl, rfl⟩
 unfold Vg.J1 at h
 refine Ah I ?_
 cases io h
 exact uC pr
theorem fQ (b : List Bounds) (F1 : T) {d : FuncId} {e f : List T} (i : Jd F1 = some (d, e, f)) (a : Bounds → Option Bool) (j : ∀ (g : Bounds) r, a g = some r → ACalls Aj d (e ++ [.agg (Aq g)] ++ f) [] (RB r)) (r : Bool) (h : P1 b a = some r) : ACalls Aj 94 [tG b, F1] [] (RB r) := by
 refine Ae Tryz.func94 I I I fun C hC => ?_
 refine Ah I (uB ?_)
 obtain ⟨l, k, h⟩ := Ac h
 refine tV (Af 2 I (Cd (eZ _ F1 i a j _ k) (Af 2 I (tW ?_))))
 cases io h
 exact uC pr
theorem T4 (a : Bounds) (r : Bool) (h : Ks a = r) : ACalls Aj 96 [.agg (Aq a)] [] (RB r) := by
 refine Ae Tryz.func96 I I I fun C hC => ?_
 unfold Ks at h
 refine Aa fun d c => tV (tX [] I (Bo (Aq a) 2 fun e => Af 1 I (tW ?_)))
 subst c
 refine Ai (fun s ob => s = [(2, .v (.bool (decide ((min a.Low a.High) ≥ (-1152921504606846976)) && decide ((max a.Low a.High) ≤ 1152921504606846976))))] ∧ ob = []) [] J ?_ ?_
 refine tV (An 7 [.o 1 0, .o 3 0] I J2 ?_)
 rcases bt (decide ((min a.Low a.High) ≥ (-1152921504606846976))) with b | b
 refine Ad 9 I b (An 8 [.o 1 0, .o 3 0] I J2 (tW ?_))
 exact lf I2 ⟨(Do (by simp only [b, bz])), J⟩ [] I
 refine Ad 9 I b (Af 8 I (tW ?_))
 exact lf I2 ⟨(Do (by simp only [b, bz])), J⟩ [] I
 rintro s ob ⟨rfl, rfl⟩
 obtain rfl := h
 exact uC pr
theorem fF (a : Bounds) (r : Bool) (h : Py a = r) : ACalls Aj 95 [.agg (Aq a)] [] (RB r) := by
 refine Ae Tryz.func95 I I I fun C hC => ?_
 unfold Py at h
 refine uB (tV (tX [] I (Bo (Aq a) 2 fun b => Af 1 I (tW (uB (tV (An 1 [.o 0 0] I J1 (Cd (T4 a _ I) (Af 2 I (tW (uD g0 ?_)))))))))))
 obtain rfl := h
 exact uC pr
theorem jF (a : List Level) (F1 : T) {c : FuncId} {d e : List T} (o : Jd F1 = some (c, d, e)) (f : Level → Option Bool) (p : ∀ (g : Level) r, f g = some r → ACalls Aj c (d ++ [.agg (Ao g)] ++ e) [] (RB r)) (r : Int) (h : Wa a f = some r) : ACalls Aj 153 [sM a, F1] [] (RV (.V r)) := by
 refine Ae Tryz.func153 I I I fun C hC => ?_
 unfold Wa at h
 refine Ah I (Ai (fun s ob => ∃ (i : Unit), Wa.J1 i = some r ∧ s = [] ∧ ob = []) [] J ?_ ?_)
 refine Bh [.l 1 (a.length : Int)] I ⟨Ax, J⟩ (uA (B0 6 I fun q => ?_))
 obtain ⟨G, t, j⟩ := Ac h
 refine Bx t [(0, _), (1, _), (7, _)] J3 (fun (b : Nat) (m : Unit) s ob => s = [(8, .V (b : Int))] ∧ ob = []) ⟨I, I⟩ ⟨I, J⟩ ⟨[], I, by decide⟩ ?_ ?_
 rintro b u m H s ob w n ⟨rfl, rfl⟩ h y
 have A := Co n
 refine Ah I (Aa fun K B => Bp I A (tZ ?_))
 subst B
 refine uB (uA (Ah I (uB ?_)))
 obtain ⟨M, D, h⟩ := Ac h
 refine tV (An 5 [.x 3 b (Ao u)] I ⟨⟨I, Ag w⟩, J⟩ (tX [] I (Ch I (.refl _) o I (.rest _) I (p _ _ D) dS (by rintro _ _ ⟨rfl, _⟩; rfl) ?_)))
 rintro _ ⟨_, rfl, -⟩
 refine tW (Ar h I ?_ ?_)
 intro E h
 refine Ah I ?_
 obtain rfl := y _ (oi h).symm
 have h := j
 have h := C2 h
 cases io h
 exact uC pr
 intro E h
 refine tZ (tV (An 2 [.k 0 (b + 1 : Nat)] I ⟨A0 n q, J⟩ ?_))
 cases io h
 exact tW ⟨_, _, _, I, I2, J4, [], I, by decide⟩
 rintro m s ob ⟨rfl, rfl⟩ he
 subst he
 have h := C8 j
 have F := Cp a.length
 exact Ah I (Aa fun N O => Br I F (uE (lg ⟨(), h, I2⟩ [])))
 rintro s ob ⟨i, h, rfl, rfl⟩
 unfold Wa.J1 at h
 refine Ah I ?_
 cases io h
 exact uC pr
theorem iM (b : List Level) (F1 : T) {d : FuncId} {e f : List T} (i : Jd F1 = some (d, e, f)) (a : Level → Option Bool) (j : ∀ (g : Level) r, a g = some r → ACalls Aj d (e ++ [.agg (Ao g)] ++ f) [] (RB r)) (r : Bool) (h : Qn b a = some r) : ACalls Aj 97 [sM b, F1] [] (RB r) := by
 refine Ae Tryz.func97 I I I fun C hC => ?_
 refine Ah I (uB ?_)
 obtain ⟨l, k, h⟩ := Ac h
 refine tV (Af 2 I (Cd (jF _ F1 i a j _ k) (Af 2 I (tW ?_))))
 cases io h
 exact uC pr
theorem fI (a : Level) (g : Nw) (i : Int) (r : Bool) (h : Pz a g i = some r) : ACalls Aj 98 [.agg (Ao a), .eptr (Ab g), .eptr (rI i)] [] (RB r) := by
 refine Ae Tryz.func98 I I I fun C hC => ?_
 unfold Pz at h
 refine Aa fun n j => tV (tX [] I (Bo (Ao a) 3 fun p => Af 1 I (tW ?_)))
 subst j
 refine Ai (fun s ob => ∃ (e : Bool), Pz.J1 e = some r ∧ s = [(4, .v (.bool e))] ∧ ob = []) [] J ?_ ?_
 refine Bz (pd 21 0 [2]) [0] [_] I (Bf 1 I (AP.o I (C4 0 0 1 I I I I I (y := .agg (Aq a.Bounds)) I) I (Dq I (T4 a.Bounds _ I) (Bf 2 I ?_))))
 rcases bt ((!(Ks a.Bounds))) with b | b
 have h := Bu b h
 exact A5 9 I b (Bf 15 I (Jj 4 (Bf 1 I (Ap (tW (lg ⟨true, h, I2⟩ []))))))
 have h := Bv b h
 refine A5 9 I b (Ca 5 [.o 1 0] I J1 ?_)
 rcases bt (decide (a.At < 0)) with d | d
 have h := Bu d h
 exact A5 14 I d (Bf 10 I (Jj 4 (Bf 1 I (Ap (tW (lg ⟨true, h, I2⟩ []))))))
 have h := Bv d h
 obtain ⟨f, ⟨k, l⟩, h⟩ := A6 h
 exact A5 14 I d (Ca 10 [.o 1 0, .x 5 f.1 (Ak f.2)] I ⟨⟨k, Ag l⟩, I, J⟩ (Jj 4 (Bf 1 I (Ap (tW (lg ⟨decide (a.At > f.2.Capacity), h, I2⟩ []))))))
 rintro s ob ⟨e, h, rfl, rfl⟩
 unfold Pz.J1 at h
 cases io h
 exact uC pr
theorem gZ (a : Nw) (b : Pressures) (e : Plan) (f : Li) (r : Bool) (h : Nh a b e f = some r) : ACalls Aj 54 [.agg (Ab a), .agg (A9 b), .agg (Am e), Q0 f] [] (RB r) := by
 refine Ae Tryz.func54 I I I fun C hC => ?_
 unfold Nh at h
 refine Aa fun y1 K => tV (tX [] I (Bo (Ab a) 6 fun w => tX [] I (Bo (A9 b) 3 fun B => tX [] I (Bo (Am e) 3 fun b4 => Af 1 I (tW ?_)))))
 subst K
 refine Aa fun y5 M => Ai (fun s ob => ∃ (y : Bool), Nh.J1 a b f y = some r ∧ s = [(57, .v (.bool y))] ∧ ob = [O0 w [Ab a], O3 B [A9 b]]) [(3, _), (4, _), (5, _)] J3 ?_ ?_
 obtain ⟨N, O, h⟩ := Ac h
 refine tV (An 1 [.o 0 0] I J1 (Cd (Jy _ _ O) (Af 2 I ?_)))
 rcases bt ((N != 0)) with g | g
 have h := Bu g h
 exact Ad 14 I g (Af 43 I (tW (lg ⟨true, h, I2⟩ [0, 1])))
 have h := Bv g h
 refine Ad 14 I g (An 9 [.o 1 2, .l 2 (e.Pumps.length : Int), .o 4 0, .l 5 (a.Stations.length : Int)] I ⟨Ax, I, Ax, I, J⟩ ?_)
 rcases bt (((e.Pumps.length : Int) != (a.Stations.length : Int))) with i | i
 have h := Bu i h
 exact Ad 23 I i (Af 34 I (tW (lg ⟨true, h, I2⟩ [0, 1])))
 have h := Bv i h
 refine Ad 23 I i (An 9 [.o 1 1, .l 2 (b.Known.length : Int), .o 4 0, .l 5 (a.Nodes.length : Int)] I ⟨Ax, I, Ax, I, J⟩ ?_)
 rcases bt (((b.Known.length : Int) != (a.Nodes.length : Int))) with j | j
 have h := Bu j h
 exact Ad 32 I j (Af 25 I (tW (lg ⟨true, h, I2⟩ [0, 1])))
 have h := Bv j h
 refine Ad 32 I j (An 9 [.o 1 1, .l 2 (b.Nodes.length : Int), .o 4 0, .l 5 (a.Nodes.length : Int)] I ⟨Ax, I, Ax, I, J⟩ ?_)
 rcases bt (((b.Nodes.length : Int) != (a.Nodes.length : Int))) with n | n
 have h := Bu n h
 exact Ad 41 I n (Af 16 I (tW (lg ⟨true, h, I2⟩ [0, 1])))
 have h := Bv n h
 refine Ad 41 I n (An 9 [.o 1 1, .l 2 (b.Segments.length : Int), .o 4 0, .l 5 (a.Segments.length : Int)] I ⟨Ax, I, Ax, I, J⟩ ?_)
 rcases bt (((b.Segments.length : Int) != (a.Segments.length : Int))) with t | t
 have h := Bu t h
 exact Ad 50 I t (Af 7 I (tW (lg ⟨true, h, I2⟩ [0, 1])))
 have h := Bv t h
 exact Ad 50 I t (An 7 [.l 1 (f.length : Int), .o 3 0, .l 4 (a.Segments.length : Int)] I ⟨Ax, I, Ax, J⟩ (tW (lg ⟨((f.length : Int) != (a.Segments.length : Int)), h, I2⟩ [0, 1])))
 rintro s ob ⟨y, h, rfl, rfl⟩
 refine Ar h I ?_ ?_
 intro P h
 refine Ah I (uD g0 ?_)
 cases io h
 exact uC pr
 intro P h
 refine tZ ?_
 subst M
 refine Aa fun ak Q => Ai (fun s ob => ∃ (A : Bool), Nh.J2 a b A = some r ∧ s = [(64, .v (.bool A))] ∧ ob = [O0 w [Ab a], O3 B [A9 b]]) [(4, _), (5, _)] J2 ?_ ?_
 obtain ⟨R, D, h⟩ := Ac h
 refine tV (Af 1 I ?_)
 rcases bt (R) with u | u
 have h := Bu u h
 exact Cd (Jr _ (.v (.func (.func 93) #[] #[])) I (fun x => some (Ng x)) (fun x r h => by obtain I := oi h; exact Uh x _ I) _ D) (Af 1 I (Ad 60 I u (Af 4 I (tW (lg ⟨true, h, I2⟩ [0, 1])))))
 have h := Bv u h
 obtain ⟨S, U, h⟩ := Ac h
 exact Cd (Jr _ (.v (.func (.func 93) #[] #[])) I (fun x => some (Ng x)) (fun x r h => by obtain I := oi h; exact Uh x _ I) _ D) (Af 1 I (Ad 60 I u (An 2 [.o 1 1] I J1 (Cf I I I (Cd (fQ _ (.v (.func (.func 95) #[] #[])) I (fun x => some (Py x)) (fun x r h => by obtain I := oi h; exact fF x _ I) _ U) (Af 1 I (tW (lg ⟨S, h, I2⟩ [0, 1]))))))))
 rintro s ob ⟨A, h, rfl, rfl⟩
 refine Ar h I ?_ ?_
 intro W h
 refine Ah I (uD g0 ?_)
 cases io h
 exact uC pr
 intro W h
 refine tZ ?_
 subst Q
 refine Ai (fun s ob => ∃ (E : Unit), Nh.J3 E = some r ∧ s = [] ∧ ob = []) [] J ?_ ?_
 refine Bh [.o 1 1, .l 2 (b.Segments.length : Int)] I ⟨Ax, I, J⟩ (uA (B0 66 I fun X => ?_))
 obtain ⟨al, Y, F⟩ := Ac h
 refine Bx Y [(4, _), (66, _), (67, _)] J3 (fun (d : Nat) (G : Unit) s ob => s = [(68, .V (d : Int))] ∧ ob = [O0 w [Ab a]]) ⟨I, I⟩ ⟨I, J⟩ ⟨[0], I, by decide⟩ ?_ ?_
 rintro d Z G am s ob aa H ⟨rfl, rfl⟩ h ab
 have ac := Co H
 refine Ah I (Aa fun an ad => Bp I ac (tZ ?_))
 subst ad
 refine uB (uA (uB (tV (An 3 [.x 1 d ((rL 3 Ao) Z)] I ⟨⟨I, Ag aa⟩, J⟩ (tX [] I (uF [.V 0] 1 fun ao => tX [1] I (A3 1 0 0 [[.V (d : Int)]] I (Af 1 I (tW (uB ?_))))))))))
 obtain ⟨ap, ae, h⟩ := Ac h
 refine tV (Af 1 I (uH (uR I I) I (tX [] I (Ch I (.refl _) I I (.cons (.refl _) (.cons (.fn (.rest _) (.cons (.box 0 I (.rest _)) (.cons (.box 1 I (.rest _)) (.rest _)))) (.rest _))) I (iM _ (.fn 98 [] [.eptr (Ab a), .eptr (rI (d : Int))]) I (fun x => Pz x a (d : Int)) (fun x r h => fI x a (d : Int) r h) _ ae) dS (by rintro _ _ ⟨rfl, _⟩; rfl) ?_))))
 rintro _ ⟨_, rfl, -⟩
 refine tW (Ar h I ?_ ?_)
 intro af h
 refine Ah I ?_
 obtain rfl := ab _ (oi h).symm
 have h := F
 have h := C2 h
 refine uD g0 ?_
 cases io h
 exact uC pr
 intro af h
 refine tZ (tV (An 2 [.k 0 (d + 1 : Nat)] I ⟨A0 H X, J⟩ ?_))
 cases io h
 exact tW ⟨_, _, _, I, I2, J4, [0], I, by decide⟩
 rintro G s ob ⟨rfl, rfl⟩ he
 subst he
 have h := C8 F
 have ag := Cp b.Segments.length
 exact Ah I (Aa fun aq ar => Br I ag (uE (lg ⟨(), h, I2⟩ [])))
 rintro s ob ⟨E, h, rfl, rfl⟩
 unfold Nh.J3 at h
 refine Ah I ?_
 cases io h
 exact uC pr
theorem hG (d : Sg) (e : Int) (r : Int) (h : Ni d e = some r) : ACalls Aj 56 [.agg (Ak d), .V e] [] (RV (.V r)) := by
 refine Ae Tryz.func56 I I I fun C hC => ?_
 unfold Ni at h
 refine Aa fun Q y => tV (tX [] I (Bo (Ak d) 7 fun j => Af 1 I (tW ?_)))
 subst y
 refine Ah I (Ai (fun s ob => ∃ (k : Int), Ni.J1 k = some r ∧ s = [(5, .V k)] ∧ ob = []) [] J ?_ ?_)
 refine Ah I (uA ?_)
 obtain ⟨R, A, B⟩ := Ac h
 refine Cs A [(1, _), (2, _)] J2 (fun (c : Int × Int) s ob => s = [(5, .V c.1), (6, .V c.2)] ∧ ob = [O5 j [Ak d]]) ⟨I, I⟩ ⟨I, I, J⟩ ⟨[0], I, by decide⟩ ?_
 rintro c w s ob ⟨rfl, rfl⟩ h D
 refine Aa fun S E => Bh [.o 2 0, .l 3 (d.Points.length : Int)] I ⟨Ax, I, J⟩ (Ar h I ?_ ?_)
 intro F h
 refine tZ ?_
 subst E
 refine Ai (fun s ob => ∃ (n : Int), Ni.J3 c n = some w ∧ s = [(5, .V n)] ∧ ob = [O5 j [Ak d]]) [(1, _), (2, _), (6, _)] J3 ?_ ?_
 refine uA (Ai (fun s ob => ∃ (a : Int × Int × Int × Int × Int × Int) (t : Nat) (u : Nat), Ni.J4 e c a = some w ∧ s = [(7, .v (.pointer (some ⟨t, 0, none⟩))), (8, .v (.pointer (some ⟨u, 0, none⟩)))] ∧ ob = [O5 j [Ak d], .arr t 102 3 1 [[.V a.1, .V a.2.1, .V a.2.2.1]], .arr u 102 3 1 [[.V a.2.2.2.1, .V a.2.2.2.2.1, .V a.2.2.2.2.2]]]) [(1, _), (2, _), (5, _), (6, _)] J4 ?_ ?_)
 obtain ⟨f, ⟨G, H⟩, h⟩ := A6 h
 obtain ⟨g, ⟨K, M⟩, h⟩ := A6 h
 refine Bz (sl 11 0 (.par [(11, []), (12, [])] (.act 13 (.act 14 .nil)))) [0] [_] I (Ca 11 [.o 1 0, .x 4 f.1 (Bj f.2), .o 7 0, .x 9 g.1 (Bj g.2)] I ⟨⟨K, Ag M⟩, I, ⟨G, Ag H⟩, I, J⟩ (AP.any [⟨11, [], 7, .box 102 3 (W1)⟩, ⟨12, [], 8, .box 102 3 (W1)⟩] I ⟨⟨_, I, I, I, fun _ => uF W1 3 fun b => ⟨_, I, ⟨b, I⟩, I⟩⟩, ⟨_, I, I, I, fun _ => uF W1 3 fun b => ⟨_, I, ⟨b, I⟩, I⟩⟩, J⟩ ?_))
 intro N O
 exact tY [1] I I I (A3 1 0 0 [Bj f.2] I (tY [2] I I I (A3 2 0 0 [Bj g.2] I (Ap (tW (lg ⟨(f.2.At, f.2.Height, f.2.Limit, g.2.At, g.2.Height, g.2.Limit), N, O, h, I2⟩ [0, 1, 2]))))))
 rintro s ob ⟨a, t, u, h, rfl, rfl⟩
 unfold Ni.J4 at h
 refine Eb 36 (decide (a.1 ≤ e) && decide (e ≤ a.2.2.2.1)) ?_ ?_
 refine tV (An 5 [.o 1 1] I J1 ?_)
 rcases bt (decide (a.1 ≤ e)) with i | i
 exact Ad 31 I i (An 5 [.o 2 2] I J1 (tW (jf (by simp only [i, bz]) I I I2)))
 exact Ad 31 I i (Af 5 I (tW (jf (by simp only [i, bz]) I I I2)))
 refine Ar h I ?_ ?_
 intro P h
 exact tV (An 5 [.o 2 1, .o 4 2] I J2 (uH (Yl I I I) I (Af 1 I (tW (lg ⟨(min (min c.1 a.2.2.1) a.2.2.2.2.2), h, I2⟩ [0])))))
 intro P h
 exact tZ (lg ⟨c.1, h, I2⟩ [0])
 rintro s ob ⟨n, h, rfl, rfl⟩
 unfold Ni.J3 at h
 refine tV (Af 3 I ?_)
 cases io h
 exact tW ⟨_, _, _, I, I2, J4, [0], I, by decide⟩
 intro F h
 obtain rfl := D _ (oi h).symm
 have h := B
 exact uE (lg ⟨c.1, h, I2⟩ [])
 rintro s ob ⟨k, h, rfl, rfl⟩
 unfold Ni.J1 at h
 refine Ah I ?_
 cases io h
 exact uC pr
theorem iP (d : Pressures) (t : Li) (u : Nw) (r : Fault × Bool) (h : K7 d t u = some r) : ACalls Aj 55 [.eptr (A9 d), .eptr ((rL 1 rI) t), .eptr (Ab u)] [] (RV (.tup [.agg (Cr r.1), .v (.bool r.2)])) := by
 refine Ae Tryz.func55 I I I fun C hC => ?_
 unfold K7 at h
 refine Aa fun y1 N => tV (tX [] I (uF W1 3 fun e => Af 1 I (tW ?_)))
 subst N
 refine Ai (fun s ob => ∃ (w : Unit), K7.J1 w = some r ∧ s = [] ∧ ob = [O6 e [W1]]) [(3, _)] J1 ?_ ?_
 refine Bh [.l 2 (d.Segments.length : Int)] I ⟨Ax, J⟩ (uA (B0 10 I fun O => ?_))
 obtain ⟨al, P, i⟩ := Ac h
 refine Bx P [(1, _), (2, _), (3, _), (10, _), (11, _)] J5 (fun (a : Nat) (y : Unit) s ob => s = [(12, .V (a : Int))] ∧ ob = [O6 e [W1]]) ⟨I, I⟩ ⟨I, J⟩ ⟨[0], I, by decide⟩ ?_ ?_
 rintro a j y Q s ob R A ⟨rfl, rfl⟩ h B
 unfold K7.B2 at h
 have S := Co A
 refine Ah I (Aa fun am U => Bp I S (tZ ?_))
 subst U
 refine Ai (fun s ob => ∃ (D : Unit), K7.J3 D = some Q ∧ s = [] ∧ ob = [O6 e [W1]]) [(1, _), (2, _), (3, _), (10, _), (11, _), (12, _)] J6 ?_ ?_
 refine uA (Bh [.x 1 a ((rL 3 Ao) j)] I ⟨⟨I, Ag R⟩, J⟩ (Bh [.l 1 (j.length : Int)] I ⟨Ax, J⟩ (uA (B0 17 I fun W => ?_))))
 obtain ⟨an, X, n⟩ := Ac h
 refine Bx X [(1, _), (2, _), (3, _), (5, _), (10, _), (11, _), (12, _), (17, _), (18, _)] J9 (fun (f : Nat) (E : Unit) s ob => s = [(19, .V (f : Int))] ∧ ob = [O6 e [W1]]) ⟨I, I⟩ ⟨I, J⟩ ⟨[0], I, by decide⟩ ?_ ?_
 rintro f b E ao s ob Y F ⟨rfl, rfl⟩ h G
 have Z := Co F
 refine Ah I (Aa fun ap aa => Bp I Z (tZ ?_))
 subst aa
 refine uB (uA (Aa fun aq ab => tV (An 2 [.x 0 f (Ao b)] I ⟨⟨I, Ag Y⟩, J⟩ (tX [] I (uF W1 3 fun ar => tX [1] I (A3 1 0 0 [Ao b] I (tW ?_)))))))
 subst ab
 refine Aa fun au ac => uB ?_
 obtain ⟨g, ⟨H, K⟩, h⟩ := A6 h
 obtain ⟨M, ⟨ad, ae⟩, h⟩ := A6 h
 obtain ⟨av, af, h⟩ := Ac h
 refine Bz (pd 17 0 [15]) [1] [_] I (Ca 15 [.o 2 0, .x 5 g.1 (rI g.2), .x 11 M.1 (Ak M.2), .o 14 0] I ⟨I, ⟨ad, Ag ae⟩, ⟨H, Ag K⟩, I, J⟩ (Dq I (hG _ _ _ af) (Bf 1 I (Ap (tW (Ar h I ?_ ?_))))))
 intro ag h
 refine uB (tV (An 3 [.o 2 1] I J1 (uH (Au (l := [.V 1, .V (a : Int), .V b.At]) Df I) I (tX [0] I (A3 0 0 0 [[.V 1, .V (a : Int), .V b.At]] I (Af 1 I (tW ?_)))))))
 obtain rfl := G _ (oi h).symm
 have h := n
 have h := C2 h
 obtain rfl := B _ (oi h).symm
 have h := i
 have h := C2 h
 refine Cv [0] I ?_
 cases io h
 exact uC ⟨.inr I, [_, _], [], ⟨⟨0, _, _, _, _, _, _, _, I5⟩, I, J⟩, Cm, I2⟩
 intro ag h
 refine tZ ?_
 subst ac
 refine Kf (pd 11 0 []) [1] [_] [.o 2 0, .x 5 g.1 (rI g.2)] I I ⟨⟨H, Ag K⟩, I, J⟩ (Ar h I ?_ ?_)
 intro ah h
 refine uB (tV (An 3 [.o 2 1] I J1 (uH (Au (l := [.V 2, .V (a : Int), .V b.At]) Df I) I (tX [0] I (A3 0 0 0 [[.V 2, .V (a : Int), .V b.At]] I (Af 1 I (tW ?_)))))))
 obtain rfl := G _ (oi h).symm
 have h := n
 have h := C2 h
 obtain rfl := B _ (oi h).symm
 have h := i
 have h := C2 h
 refine Cv [0] I ?_
 cases io h
 exact uC ⟨.inr I, [_, _], [], ⟨⟨0, _, _, _, _, _, _, _, I5⟩, I, J⟩, Cm, I2⟩
 intro ah h
 refine tZ (tV (An 2 [.k 0 (f + 1 : Nat)] I ⟨A0 F W, J⟩ ?_))
 cases io h
 exact tW ⟨_, _, _, I, I2, jW, [0], I, by decide⟩
 rintro E s ob ⟨rfl, rfl⟩ he
 subst he
 have h := C8 n
 have ai := Cp j.length
 exact Ah I (Aa fun aw ax => Br I ai (uE (lg ⟨(), h, I2⟩ [0])))
 rintro s ob ⟨D, h, rfl, rfl⟩
 unfold K7.J3 at h
 refine tV (An 2 [.k 0 (a + 1 : Nat)] I ⟨A0 A O, J⟩ ?_)
 cases io h
 exact tW ⟨_, _, _, I, I2, J6, [0], I, by decide⟩
 rintro y s ob ⟨rfl, rfl⟩ he
 subst he
 have h := C8 i
 have aj := Cp d.Segments.length
 exact Ah I (Aa fun ay az => Br I aj (uE (lg ⟨(), h, I2⟩ [0])))
 rintro s ob ⟨w, h, rfl, rfl⟩
 unfold K7.J1 at h
 refine uB (tV (uH (Au (l := W1) Df I) I (tX [0] I (A3 0 0 0 [W1] I (Af 1 I (tW ?_))))))
 cases io h
 exact uC ⟨.inr I, [_, _], [], ⟨⟨0, _, _, _, _, _, _, _, I5⟩, I, J⟩, Cm, I2⟩
theorem iC (e : Nw) (t : Plan) (u : Pressures) (r : Fault × Bool) (h : Gp e t u = some r) : ACalls Aj 57 [.eptr (Ab e), .eptr (Am t), .eptr (A9 u)] [] (RV (.tup [.agg (Cr r.1), .v (.bool r.2)])) := by
 refine Ae Tryz.func57 I I I fun C hC => ?_
 unfold Gp at h
 refine Aa fun Z F => tV (tX [] I (uF W1 3 fun f => Af 1 I (tW ?_)))
 subst F
 refine Ai (fun s ob => ∃ (w : Unit), Gp.J1 w = some r ∧ s = [] ∧ ob = [O6 f [W1]]) [(3, _)] J1 ?_ ?_
 refine Bh [.l 2 (e.Stations.length : Int)] I ⟨Ax, J⟩ (uA (B0 8 I fun G => ?_))
 obtain ⟨aa, H, y⟩ := Ac h
 refine Bx H [(1, _), (2, _), (3, _), (8, _), (9, _)] J5 (fun (a : Nat) (A : Unit) s ob => s = [(10, .V (a : Int))] ∧ ob = [O6 f [W1]]) ⟨I, I⟩ ⟨I, J⟩ ⟨[0], I, by decide⟩ ?_ ?_
 rintro a g A K s ob M B ⟨rfl, rfl⟩ h N
 unfold Gp.B2 at h
 have O := Co B
 refine Ah I (Aa fun ab P => Bp I O (tZ ?_))
 subst P
 refine uB (uA (Aa fun ac Q => tV (An 3 [.x 1 a (Ba g)] I ⟨⟨I, Ag M⟩, J⟩ (tX [] I (uF W5 5 fun ad => Af 1 I (tX [1] I (A3 1 0 0 [Ba g] I (tW ?_))))))))
 subst Q
 refine Ai (fun s ob => ∃ (i : Bool), Gp.J3 a i = some K ∧ s = [(39, .v (.bool i))] ∧ ob = [O6 f [W1]]) [(1, _), (2, _), (3, _), (5, _), (8, _), (9, _), (10, _)] J7 ?_ ?_
 obtain ⟨b, ⟨D, E⟩, h⟩ := A6 h
 rcases bt (b.2) with c | c
 have h := Bu c h
 obtain ⟨j, ⟨R, S⟩, h⟩ := A6 h
 refine Bz (pd 25 0 []) [1] [_] I (Ca 6 [.x 3 b.1 (rB b.2)] I ⟨⟨D, Ag E⟩, J⟩ (A5 20 I c (Ca 8 [.o 3 0, .x 4 j.1 (rB j.2)] I ⟨⟨R, Ag S⟩, I, J⟩ ?_)))
 rcases bt (j.2) with d | d
 have h := Bu d h
 obtain ⟨n, ⟨U, W⟩, h⟩ := A6 h
 exact A5 28 I d (Ca 11 [.o 3 0, .x 4 n.1 (Aq n.2), .o 8 0] I ⟨I, ⟨U, Ag W⟩, I, J⟩ (Ap (tW (lg ⟨decide (n.2.Low < g.Suction), h, I2⟩ [0]))))
 have h := Bv d h
 exact A5 28 I d (Bf 11 I (Ap (tW (lg ⟨false, h, I2⟩ [0]))))
 have h := Bv c h
 exact Bz (pd 25 0 []) [] [] I (Ca 6 [.x 3 b.1 (rB b.2)] I ⟨⟨D, Ag E⟩, J⟩ (A5 20 I c (Bf 19 I (Ap (tW (lg ⟨false, h, I2⟩ [0]))))))
 rintro s ob ⟨i, h, rfl, rfl⟩
 refine Ar h I ?_ ?_
 intro X h
 refine uB (tV (Af 1 I (uH (Au (l := [.V 3, .V (a : Int), .V 0]) Df I) I (tX [0] I (A3 0 0 0 [[.V 3, .V (a : Int), .V 0]] I (Af 1 I (tW ?_)))))))
 obtain rfl := N _ (oi h).symm
 have h := y
 have h := C2 h
 cases io h
 exact uC ⟨.inr I, [_, _], [], ⟨⟨0, _, _, _, _, _, _, _, I5⟩, I, J⟩, Cm, I2⟩
 intro X h
 refine tZ (tV (An 2 [.k 0 (a + 1 : Nat)] I ⟨A0 B G, J⟩ ?_))
 cases io h
 exact tW ⟨_, _, _, I, I2, J6, [0], I, by decide⟩
 rintro A s ob ⟨rfl, rfl⟩ he
 subst he
 have h := C8 y
 have Y := Cp e.Stations.length
 exact Ah I (Aa fun ae af => Br I Y (uE (lg ⟨(), h, I2⟩ [0])))
 rintro s ob ⟨w, h, rfl, rfl⟩
 unfold Gp.J1 at h
 refine uB (tV (uH (Au (l := W1) Df I) I (tX [0] I (A3 0 0 0 [W1] I (Af 1 I (tW ?_))))))
 cases io h
 exact uC ⟨.inr I, [_, _], [], ⟨⟨0, _, _, _, _, _, _, _, I5⟩, I, J⟩, Cm, I2⟩
theorem Hm (a : Nw) (b : Pressures) (d : Plan) (e : Li) (r : Fault × Bool) (h : F9 a b d e = some r) : ACalls Aj 26 [.agg (Ab a), .agg (A9 b), .agg (Am d), Q0 e] [] (RV (.tup [.agg (Cr r.1), .v (.bool r.2)])) := by
 refine Ae Tryz.func26 I I I fun C hC => ?_
 refine Aa fun M n => tV (tX [] I (Bo (Ab a) 6 fun N => tX [] I (Bo (A9 b) 3 fun O => tX [] I (Bo (Am d) 3 fun P => tX [] I (Bo [Q0 e] 1 fun Q => tX [] I (uF W1 3 fun f => Af 1 I (tW ?_)))))))
 subst n
 refine AW.scope (Aa fun R t => uB ?_)
 obtain ⟨S, u, h⟩ := Ac h
 refine tV (An 4 [.o 0 0, .o 1 1, .o 2 2, .o 3 3] I J4 (Cd (gZ a b d e _ u) (Af 1 I (tW (Ar h I ?_ ?_)))))
 intro w h
 refine uB (tV (uH (Au (l := W1) Df I) I (tX [4] I (A3 4 0 0 [W1] I (Af 1 I (tW (uD (Ghost.pick [4] (K := [O6 f [W1]]) I (by decide)) ?_)))))))
 cases io h
 exact uC ⟨.inr I, [_, _], [], ⟨⟨0, _, _, _, _, _, _, _, I5⟩, I, J⟩, Cm, I2⟩
 intro w h
 refine tZ ?_
 subst t
 obtain ⟨g, A, h⟩ := Ac h
 refine Aa fun U B => tV (uH (uR I I) I (Af 1 I (tW ?_)))
 subst B
 refine Aa fun W D => tV (uH (uR I I) I (Af 1 I (tW ?_)))
 subst D
 refine Aa fun X E => tV (tX [] I (uF W1 3 fun i => tW ?_))
 subst E
 refine Ah I (uB (AW.label ?_))
 refine Ai (fun s ob => s = [(13, .v (.bool r.2))] ∧ ob = [O6 f [W1], O6 i [Cr r.1]]) [(8, _), (12, _)] J2 ?_ ?_
 · refine uD (Bi [0, 1, 2, 3] I [(10, .fn 55 [] [.eptr (A9 b), .eptr [Q0 e], .eptr (Ab a)]), (11, .fn 57 [] [.eptr (Ab a), .eptr (Am d), .eptr (A9 b)])] ⟨⟨_, I, .fn (.rest _) (.cons (.box 1 I (.rest _)) (.cons (.box 3 I (.rest _)) (.cons (.box 0 I (.rest _)) (.rest _))))⟩, ⟨_, I, .fn (.rest _) (.cons (.box 0 I (.rest _)) (.cons (.box 2 I (.rest _)) (.cons (.box 1 I (.rest _)) (.rest _))))⟩, J⟩ (.rest _)) ?_
   refine uB (tV (Af 2 I (tX [] I (uG 1 [[.fn 55 [] [.eptr (A9 b), .eptr [Q0 e], .eptr (Ab a)]], [.fn 57 [] [.eptr (Ab a), .eptr (Am d), .eptr (A9 b)]]] (An 2 [.l 0 2] I ⟨rfl, J⟩ (tW ?_))))))
   refine uA (Rz (fun m s ob => ∃ (j : Nat) (fl : Fault), m = 2 - j ∧ j ≤ 2 ∧ (j = 0 → F9.K g a d b = some r) ∧ (j = 1 → Gp a d b = some r) ∧ (j = 2 → r = (fl, false)) ∧ s = [(8, .v (.pointer (some ⟨f, 0, none⟩))), (12, .v (.pointer (some ⟨i, 0, none⟩))), (13, .v (.bool false)), (27, .list 1 [[.fn 55 [] [.eptr (A9 b), .eptr [Q0 e], .eptr (Ab a)]], [.fn 57 [] [.eptr (Ab a), .eptr (Am d), .eptr (A9 b)]]]), (28, .V 2), (29, .V (j : Int))] ∧ ob = [O6 f [W1], O6 i [Cr fl]])
     ⟨0, ⟨0, 0, 0⟩, rfl, by decide, fun _ => h, (fun h => absurd h (by decide)), (fun h => absurd h (by decide)), rfl, rfl⟩ ⟨J6, [0, 1], I, by decide⟩ ?_)
   rintro m s ob ⟨j, fl, rfl, hj, F, G, H, rfl, rfl⟩
   match j, hj with
   | 0, _ =>
     have h := F rfl
     unfold F9.K at h
     refine Ah I (Aa fun y hy => Bp I (show decide (((0 : Nat) : Int) < 2) = true by decide) (tZ ?_))
     subst hy
     refine uB (uA (uB (tV (An 3 [.x 0 0 [.fn 55 [] [.eptr (A9 b), .eptr [Q0 e], .eptr (Ab a)]]] I ⟨⟨rfl, rfl⟩, J⟩ (tW ?_)))))
     refine uB (tV (Af 1 I (Cd (iP b e a _ A) (Af 3 I (tX [1] I (A3 1 0 0 [Cr g.1] I (Af 1 I (tW ?_))))))))
     refine Ah I ?_
     refine Ar h I ?_ ?_
     · intro hb h
       cases io h
       exact uE (lg I2 [0, 1])
     · intro hb h
       refine tZ ?_
       refine tV (An 2 [.k 0 (1 : Int)] I ⟨rfl, J⟩ (tW ?_))
       exact ⟨1, _, _, by decide, ⟨1, g.1, rfl, by decide, (fun h => absurd h (by decide)), fun _ => h, (fun h => absurd h (by decide)), rfl, rfl⟩, ⟨I, I, by rw [← hb]; exact I, I, I, I, J⟩, [0, 1], I, by decide⟩
   | 1, _ =>
     have h := G rfl
     refine Ah I (Aa fun y hy => Bp I (show decide (((1 : Nat) : Int) < 2) = true by decide) (tZ ?_))
     subst hy
     refine uB (uA (uB (tV (An 3 [.x 0 1 [.fn 57 [] [.eptr (Ab a), .eptr (Am d), .eptr (A9 b)]]] I ⟨⟨rfl, rfl⟩, J⟩ (tW ?_)))))
     refine uB (tV (Af 1 I (Cd (iC a d b _ h) (Af 3 I (tX [1] I (A3 1 0 0 [Cr r.1] I (Af 1 I (tW ?_))))))))
     refine Ah I ?_
     rcases bt r.2 with hb | hb
     · refine Bp I hb (uE ?_)
       exact lg I2 [0, 1]
     · refine Br I hb (tZ ?_)
       refine tV (An 2 [.k 0 (2 : Int)] I ⟨rfl, J⟩ (tW ?_))
       exact ⟨0, _, _, by decide, ⟨2, r.1, rfl, by decide, (fun h => absurd h (by decide)), (fun h => absurd h (by decide)), fun _ => by rw [← hb], rfl, rfl⟩, ⟨I, I, by rw [← hb]; exact I, I, I, I, J⟩, [0, 1], I, by decide⟩
   | 2, _ =>
     obtain rfl := H rfl
     refine Ah I (Aa fun y hy => Br I (show decide (((2 : Nat) : Int) < 2) = false by decide) (uE ?_))
     exact lg I2 [0, 1]
 · rintro s ob ⟨rfl, rfl⟩
   refine uB (tV (An 2 [.o 0 1] I J1 (tX [0] I (A3 0 0 0 [Cr r.1] I (Af 1 I (tW ?_))))))
   exact uC ⟨.inr I, [_, _], [], ⟨⟨0, _, _, _, _, _, _, _, I5⟩, I, J⟩, Cm, I2⟩
end Go.Proofs.YtodeekicjiengaaGreatDoor
