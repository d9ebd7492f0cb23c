/- Walks that show what functions of the program compute; printed by a program of ours. No condition. -/
import Derived.Test.YtodeekicjiengaaGreatDoorYvLs1
set_option maxRecDepth 100000
namespace Go.Proofs.YtodeekicjiengaaGreatDoor
open Go.Aw
set_option linter.unusedVariables false
set_option linter.unusedSimpArgs false
set_option maxHeartbeats 4000000
theorem T7 (f : Nat) (a : steady_line) (w0_0 : Value) (w0_1 : Value) (w0_2 : Value) (j : Int) (b : Bounds) (r : steady_line) (h : Iu a j b = some r) : ACalls Aj 90 [.v (.pointer (some ⟨f, 0, none⟩)), .V j, .agg (Aq b)] [O4 f [Ax a w0_0 w0_1 w0_2], U1 w0_0 a.x.Known, U2 w0_1 a.x.Nodes, .us w0_2 127 1 (a.x.Segments.map (rL 3 Ao))] (D6 4 fun x os new => ∃ (u0_0 : Value) (u0_1 : Value) (u0_2 : Value), x = .tup [] ∧ os = [O4 f [Ax r u0_0 u0_1 u0_2], U1 u0_0 r.x.Known, U2 u0_1 r.x.Nodes, .us u0_2 127 1 (r.x.Segments.map (rL 3 Ao))] ∧ new = []) := by
 refine Ad Tryz.func90 I I I fun C hC => ?_
 unfold Iu at h
 refine Aa fun N w => sH (sJ [] I (Bo (Aq b) 2 fun z => sI ?_))
 subst w
 refine Ai (fun s ob => ∃ (c : Int × Int), Iu.J1 a j c = some r ∧ s = [] ∧ ob = [O4 f [Ax a w0_0 w0_1 w0_2], U1 w0_0 a.x.Known, U2 w0_1 a.x.Nodes, .us w0_2 127 1 (a.x.Segments.map (rL 3 Ao)), O8 z [[.V c.1, .V c.2]]]) [(0, _), (1, _), (5, _)] J3 ?_ ?_
 refine Aa fun O A => ?_
 obtain ⟨k, ⟨B, t⟩, h⟩ := A5 h
 refine sH (An 6 [.o 4 0] I J1 (sV (Bm 1 (m := k.1) I I I I I I I B (Ae t)) I (sV (Bl 1 k.1 0 I I I (Ae t) I (y := .v (.bool k.2)) I) I (sI ?_))))
 subst A
 refine Ar h I ?_ ?_
 intro D h
 refine Aa fun P E => ?_
 obtain ⟨e, ⟨F, u⟩, h⟩ := A5 h
 refine sH (An 6 [.o 4 0] I J1 (sV (Bm 2 (m := e.1) I I I I I I I F (Ae u)) I (sV (Bl 2 e.1 0 I I I (Ae u) I (y := .agg (Aq e.2)) I) I (sJ [] I (sS [.V 0, .V 0] 2 fun Q => sJ [5] I (A3 5 0 0 [Aq e.2] I (sI ?_)))))))
 subst E
 refine sH (An 10 [.o 1 5, .o 3 4, .o 6 5, .o 8 4] I J4 (sT (Au (l := [.V (min e.2.Low b.Low), .V (min e.2.High b.High)]) Do I) I (sJ [4] I (A3 4 0 0 [[.V (min e.2.Low b.Low), .V (min e.2.High b.High)]] I (sI ?_)))))
 exact lg ⟨((min e.2.Low b.Low), (min e.2.High b.High)), h, I2⟩ [0, 1, 2, 3, 4]
 intro D h
 refine sL ?_
 exact lg ⟨(b.Low, b.High), h, I2⟩ [0, 1, 2, 3, 4]
 rintro s ob ⟨c, h, rfl, rfl⟩
 obtain ⟨g, ⟨G, n⟩, h⟩ := A5 h
 obtain ⟨i, ⟨H, q⟩, h⟩ := A5 h
 refine C5 1 g.1 I n fun K => C5 2 i.1 I q fun M => By (pd 17 0 [14, 16]) [0, 4] [_, _] I (B8 13 [.o 4 0, .o 10 0, .o 12 1] I J3 (sY I (B0 (m := g.1) I I I I I K I G n) I (sK [1] I I I (Cg 1 g.1 0 I I I (Ae n) I I I I (Ca I) I (Df (x := true) I) (sY I (B0 (m := i.1) I I I I I M I H q) I (sK [2] I I I (Cg 2 i.1 0 I I I (Ae q) I I I I (Ca I) I (Df (x := (⟨c.1, c.2⟩ : Bounds)) I) (Ap (AO.ghost (Ghost.pick [0, 1, 2, 3] I (by decide)) ?_)))))))))
 obtain rfl := oi h
 exact sI ⟨.inl I, [], [O4 f [[Q1 a.n_.Nodes, Q6 a.n_.Segments, Q7 a.n_.Ports, Q8 a.n_.Stations, .V a.n_.Vapour, .V a.n_.Settle, Q3 a.batches, Q2 a.products, .list 1 (a.fills.map (rL 2 A9)), Q0 a.p.Rates, Q0 a.p.Ports, Q5 a.p.Pumps, .v w0_0, .v w0_1, .v w0_2]], .us w0_0 4 1 ((a.x.Known.set g.1 true).map rB), .us w0_1 129 2 ((a.x.Nodes.set i.1 (⟨c.1, c.2⟩ : Bounds)).map Aq), .us w0_2 127 1 (a.x.Segments.map (rL 3 Ao))], J, Cy I (Cy I (Cy I (Cy I (Cm)))), ⟨[O4 f [[Q1 a.n_.Nodes, Q6 a.n_.Segments, Q7 a.n_.Ports, Q8 a.n_.Stations, .V a.n_.Vapour, .V a.n_.Settle, Q3 a.batches, Q2 a.products, .list 1 (a.fills.map (rL 2 A9)), Q0 a.p.Rates, Q0 a.p.Ports, Q5 a.p.Pumps, .v w0_0, .v w0_1, .v w0_2]], .us w0_0 4 1 ((a.x.Known.set g.1 true).map rB), .us w0_1 129 2 ((a.x.Nodes.set i.1 (⟨c.1, c.2⟩ : Bounds)).map Aq), .us w0_2 127 1 (a.x.Segments.map (rL 3 Ao))], [], I, I, w0_0, w0_1, w0_2, I3⟩⟩
theorem iF (d : Nat) (a : steady_line) (w0_0 : Value) (w0_1 : Value) (w0_2 : Value) (t : Int) (r : Int × steady_line) (h : Np a t = some r) : ACalls Aj 142 [.v (.pointer (some ⟨d, 0, none⟩)), .V t] [O4 d [Ax a w0_0 w0_1 w0_2], U1 w0_0 a.x.Known, U2 w0_1 a.x.Nodes, .us w0_2 127 1 (a.x.Segments.map (rL 3 Ao))] (D6 4 fun x os new => ∃ (u1_0 : Value) (u1_1 : Value) (u1_2 : Value), x = .V r.1 ∧ os = [O4 d [Ax r.2 u1_0 u1_1 u1_2], U1 u1_0 r.2.x.Known, U2 u1_1 r.2.x.Nodes, .us u1_2 127 1 (r.2.x.Segments.map (rL 3 Ao))] ∧ new = []) := by
 refine Ad Tryz.func142 I I I fun C hC => ?_
 unfold Np at h
 refine Ah I (Ah I (Ai (fun s ob => ∃ (g : Int), Np.J1 a g = some r ∧ s = [(5, .V g)] ∧ ob = [O4 d [Ax a w0_0 w0_1 w0_2], U1 w0_0 a.x.Known, U2 w0_1 a.x.Nodes, .us w0_2 127 1 (a.x.Segments.map (rL 3 Ao))]) [] J ?_ ?_))
 refine Bh [.o 4 0, .l 5 (a.n_.Segments.length : Int)] I ⟨Ay, I, J⟩ (sM (Bz 14 I fun w => ?_))
 obtain ⟨O, y, A⟩ := Ac h
 clear h
 refine Ct y [(0, _), (1, _), (14, _), (15, _)] J4 (fun (f : Nat) (e : Int) s ob => s = [(16, .V (f : Int)), (5, .V e)] ∧ ob = [O4 d [Ax a w0_0 w0_1 w0_2], U1 w0_0 a.x.Known, U2 w0_1 a.x.Nodes, .us w0_2 127 1 (a.x.Segments.map (rL 3 Ao))]) ⟨I, I⟩ ⟨I, I, J⟩ ⟨[0, 1, 2, 3], I, by decide⟩ ?_ ?_
 rintro f i e B s ob D u ⟨rfl, rfl⟩ h
 unfold Np.B2 at h
 have E := Cn u
 refine Ah I (Aa fun P F => Bs I E (sL ?_))
 subst F
 refine Ai (fun s ob => ∃ (j : Int), Np.J3 j = some B ∧ s = [(5, .V j)] ∧ ob = [O4 d [Ax a w0_0 w0_1 w0_2], U1 w0_0 a.x.Known, U2 w0_1 a.x.Nodes, .us w0_2 127 1 (a.x.Segments.map (rL 3 Ao))]) [(0, _), (1, _), (14, _), (15, _), (16, _)] J5 ?_ ?_
 refine sM (Aa fun Q G => sH (An 3 [.x 1 f (Ak i)] I ⟨⟨I, Ae D⟩, J⟩ (sJ [] I (sS W2 7 fun R => Ag 1 I (sJ [4] I (A3 4 0 0 [Ak i] I (sI ?_)))))))
 subst G
 refine Aa fun S H => ?_
 obtain ⟨b, ⟨n, p⟩, h⟩ := A5 h
 refine By (pd 15 0 [9]) [4, 0] [_, _] I (B8 9 [.o 0 0, .o 5 1, .x 7 b.1 (rI b.2)] I ⟨⟨n, Ae p⟩, I, I, J⟩ (Dp I (N9 i b.2 _ I) (Bg 5 I (Ap (sI ?_)))))
 subst H
 refine Ah I (Ar h I ?_ ?_)
 intro K h
 refine Il (pd 21 0 []) [0] [_] [.o 5 0, .x 7 b.1 (rI b.2), .o 13 0, .x 15 b.1 (rI b.2)] I I ⟨⟨n, Ae p⟩, I, ⟨n, Ae p⟩, I, J⟩ ?_
 exact lg ⟨wr (e + (max b.2 (wr (0 - b.2)))), h, I2⟩ [0, 1, 2, 3]
 intro K h
 refine sL ?_
 exact lg ⟨e, h, I2⟩ [0, 1, 2, 3]
 rintro s ob ⟨j, h, rfl, rfl⟩
 refine sH (An 2 [.k 0 (f + 1 : Nat)] I ⟨A0 u w, J⟩ ?_)
 obtain rfl := oi h
 exact sI (lg I2 [0, 1, 2, 3])
 rintro e s ob ⟨rfl, rfl⟩ he
 subst he
 have h := A
 have M := Co a.n_.Segments.length
 refine Ah I (Aa fun U W => Bu I M (sQ ?_))
 exact lg ⟨e, h, I2⟩ [0, 1, 2, 3]
 rintro s ob ⟨g, h, rfl, rfl⟩
 refine Ah I ?_
 obtain rfl := oi h
 exact sO ⟨.inr I, [_], [O4 d [Ax a w0_0 w0_1 w0_2], U1 w0_0 a.x.Known, U2 w0_1 a.x.Nodes, .us w0_2 127 1 (a.x.Segments.map (rL 3 Ao))], J1, Cy I (Cy I (Cy I (Cy I (Cm)))), ⟨[O4 d [Ax a w0_0 w0_1 w0_2], U1 w0_0 a.x.Known, U2 w0_1 a.x.Nodes, .us w0_2 127 1 (a.x.Segments.map (rL 3 Ao))], [], I, I, w0_0, w0_1, w0_2, I3⟩⟩
theorem eV (b : Nat) (a : steady_line) (w0_0 : Value) (w0_1 : Value) (w0_2 : Value) (t : Int) (r : Bounds × Int × steady_line) (h : Px a t = some r) : ACalls Aj 91 [.v (.pointer (some ⟨b, 0, none⟩)), .V t] [O4 b [Ax a w0_0 w0_1 w0_2], U1 w0_0 a.x.Known, U2 w0_1 a.x.Nodes, .us w0_2 127 1 (a.x.Segments.map (rL 3 Ao))] (D6 4 fun x os new => ∃ (u2_0 : Value) (u2_1 : Value) (u2_2 : Value), x = .tup [.agg (Aq r.1), .V r.2.1] ∧ os = [O4 b [Ax r.2.2 u2_0 u2_1 u2_2], U1 u2_0 r.2.2.x.Known, U2 u2_1 r.2.2.x.Nodes, .us u2_2 127 1 (r.2.2.x.Segments.map (rL 3 Ao))] ∧ new = []) := by
 refine Ad Tryz.func91 I I I fun C hC => ?_
 refine Aa fun y1 M => sH (sJ [] I (sS [.V 0, .V 0] 2 fun w => Ag 1 I (sI ?_)))
 subst M
 refine Aa fun y3 N => ?_
 obtain ⟨e, ⟨O, E⟩, h⟩ := A5 h
 refine sH (An 6 [.o 4 0] I J1 (sV (Bm 2 (m := e.1) I I I I I I I O (Ae E)) I (sV (Bl 2 e.1 0 I I I (Ae E) I (y := .agg (Aq e.2)) I) I (sJ [] I (sS [.V 0, .V 0] 2 fun A => sJ [5] I (A3 5 0 0 [Aq e.2] I (sI ?_)))))))
 subst N
 refine Ai (fun s ob => ∃ (F : Unit), Px.J1 a e F = some r ∧ s = [] ∧ ob = [O4 b [Ax a w0_0 w0_1 w0_2], U1 w0_0 a.x.Known, U2 w0_1 a.x.Nodes, .us w0_2 127 1 (a.x.Segments.map (rL 3 Ao)), O8 w [[.V 0, .V 0]], O8 A [Aq e.2]]) [(4, _), (6, _)] J2 ?_ ?_
 refine Bh [.o 4 0, .l 5 (a.n_.Stations.length : Int)] I ⟨Ay, I, J⟩ (sM (Bz 21 I fun P => ?_))
 obtain ⟨aj, Q, G⟩ := Ac h
 clear h
 refine Bx Q [(0, _), (1, _), (4, _), (6, _), (21, _), (22, _)] J6 (fun (u : Nat) (H : Unit) s ob => s = [(23, .V (u : Int))] ∧ ob = [O4 b [Ax a w0_0 w0_1 w0_2], U1 w0_0 a.x.Known, U2 w0_1 a.x.Nodes, .us w0_2 127 1 (a.x.Segments.map (rL 3 Ao)), O8 w [[.V 0, .V 0]], O8 A [Aq e.2]]) ⟨I, I⟩ ⟨I, J⟩ ⟨[0, 1, 2, 3, 4, 5], I, by decide⟩ ?_ ?_
 rintro u g H R s ob S K ⟨rfl, rfl⟩ h U
 unfold Px.B2 at h
 have W := Cn K
 refine Ah I (Aa fun ak X => Bs I W (sL ?_))
 subst X
 refine sN (sM (Aa fun al Y => sH (An 3 [.x 1 u (Ba g)] I ⟨⟨I, Ae S⟩, J⟩ (sJ [] I (sS W5 5 fun Z => Ag 1 I (sJ [6] I (A3 6 0 0 [Ba g] I (sI ?_))))))))
 subst Y
 refine Ai (fun s ob => ∃ (B : Bool), Px.J3 a t e g B = some R ∧ s = [(41, .v (.bool B))] ∧ ob = [O4 b [Ax a w0_0 w0_1 w0_2], U1 w0_0 a.x.Known, U2 w0_1 a.x.Nodes, .us w0_2 127 1 (a.x.Segments.map (rL 3 Ao)), O8 w [[.V 0, .V 0]], O8 A [Aq e.2], .arr Z 70 5 1 [Ba g]]) [(0, _), (1, _), (4, _), (6, _), (8, _), (21, _), (22, _), (23, _)] J8 ?_ ?_
 refine sH (An 5 [.o 1 6] I J1 ?_)
 rcases bt ((g.Node == t)) with i | i
 replace h := Bq i h
 obtain ⟨D, ⟨aa, ab⟩, h⟩ := A5 h
 refine Af 32 I i (An 9 [.o 4 0, .x 6 D.1 (rB D.2)] I ⟨⟨aa, Ae ab⟩, I, J⟩ (sI ?_))
 exact lg ⟨D.2, h, I2⟩ [0, 1, 2, 3, 4, 5, 6]
 replace h := Br i h
 refine Af 32 I i (Ag 9 I (sI ?_))
 exact lg ⟨false, h, I2⟩ [0, 1, 2, 3, 4, 5, 6]
 rintro s ob ⟨B, h, rfl, rfl⟩
 refine Ar h I ?_ ?_
 intro ac h
 refine sN ?_
 obtain ⟨f, ad, h⟩ := Ac h
 obtain ⟨ae, af, h⟩ := Ac h
 refine By (pd 10 0 [4, 5, 8]) [6, 5] [_, _] I (B8 4 [.o 0 0, .o 1 1] I J2 (sK [0, 1, 2, 3] I I I (Ik [0, 1, 2, 3] (iF b _ w0_0 w0_1 w0_2 _ _ ad) ?_)))
 rintro _ _ _ - ⟨j, n, p, rfl, rfl, rfl⟩
 refine Dp I (dO _ _ _ _ af) (Bg 2 I (sK [4] I I I (A3 4 0 0 [Aq ae.1] I (Bg 1 I (Ap (sI ?_))))))
 obtain rfl := U _ (oi h).symm
 replace h := G
 replace h := C1 h
 refine Cu [0, 1, 2, 3, 4] I ?_
 obtain rfl := oi h
 exact sO ⟨.inr I, [_, _], [O4 b [Ax f.2 j n p], U1 j f.2.x.Known, U2 n f.2.x.Nodes, .us p 127 1 (f.2.x.Segments.map (rL 3 Ao))], ⟨⟨4, _, _, _, _, _, _, _, I5⟩, I, J⟩, Cy I (Cy I (Cy I (Cy I (Cm)))), ⟨[O4 b [Ax f.2 j n p], U1 j f.2.x.Known, U2 n f.2.x.Nodes, .us p 127 1 (f.2.x.Segments.map (rL 3 Ao))], [], I, I, j, n, p, I3⟩⟩
 intro ac h
 refine sL (sH (An 2 [.k 0 (u + 1 : Nat)] I ⟨A0 K P, J⟩ ?_))
 obtain rfl := oi h
 exact sI ⟨_, _, _, I, I2, J7, [0, 1, 2, 3, 4, 5], I, by decide⟩
 rintro H s ob ⟨rfl, rfl⟩ he
 subst he
 have h := C6 G
 have ag := Co a.n_.Stations.length
 refine Ah I (Aa fun am an => Bu I ag (sQ ?_))
 exact lg ⟨(), h, I2⟩ [0, 1, 2, 3, 4, 5]
 rintro s ob ⟨F, h, rfl, rfl⟩
 refine sN (sH (An 1 [.o 0 5] I J1 (sJ [4] I (A3 4 0 0 [Aq e.2] I (Ag 1 I (sI (Cu [0, 1, 2, 3, 4] I ?_)))))))
 obtain rfl := oi h
 exact sO ⟨.inr I, [_, _], [O4 b [Ax a w0_0 w0_1 w0_2], U1 w0_0 a.x.Known, U2 w0_1 a.x.Nodes, .us w0_2 127 1 (a.x.Segments.map (rL 3 Ao))], ⟨⟨4, _, _, _, _, _, _, _, I5⟩, I, J⟩, Cy I (Cy I (Cy I (Cy I (Cm)))), ⟨[O4 b [Ax a w0_0 w0_1 w0_2], U1 w0_0 a.x.Known, U2 w0_1 a.x.Nodes, .us w0_2 127 1 (a.x.Segments.map (rL 3 Ao))], [], I, I, w0_0, w0_1, w0_2, I3⟩⟩
theorem eY (b : Nat) (O : steady_line) (w0_0 : Value) (w0_1 : Value) (w0_2 : Value) (U : Int) (r : Int × steady_line) (h : Pz O U = some r) : ACalls Aj 53 [.v (.pointer (some ⟨b, 0, none⟩)), .V U] [O4 b [Ax O w0_0 w0_1 w0_2], U1 w0_0 O.x.Known, U2 w0_1 O.x.Nodes, .us w0_2 127 1 (O.x.Segments.map (rL 3 Ao))] (D6 4 fun x os new => ∃ (u1_0 : Value) (u1_1 : Value) (u1_2 : Value), x = .V r.1 ∧ os = [O4 b [Ax r.2 u1_0 u1_1 u1_2], U1 u1_0 r.2.x.Known, U2 u1_1 r.2.x.Nodes, .us u1_2 127 1 (r.2.x.Segments.map (rL 3 Ao))] ∧ new = []) := by
 refine Ad Tryz.func53 I I I fun C hC => ?_
 unfold Pz at h
 refine Ah I (Ai (fun s ob => ∃ (j : steady_line) (w : Value) (A : Value) (B : Value), Pz.J1 U j = some r ∧ s = [] ∧ ob = [O4 b [Ax j w A B], U1 w j.x.Known, U2 A j.x.Nodes, .us B 127 1 (j.x.Segments.map (rL 3 Ao))]) [(0, _), (1, _)] J2 ?_ ?_)
 refine Bh [.o 4 0, .l 5 (O.n_.Ports.length : Int)] I ⟨Ay, I, J⟩ (sM (Bz 21 I fun a6 => ?_))
 obtain ⟨cv, a7, a8⟩ := Ac h
 clear h
 refine Ct a7 [(0, _), (1, _), (21, _), (22, _)] J4 (fun (ag : Nat) (t : steady_line) s ob => ∃ (D : Value) (E : Value) (F : Value), s = [(23, .V (ag : Int))] ∧ ob = [O4 b [Ax t D E F], U1 D t.x.Known, U2 E t.x.Nodes, .us F 127 1 (t.x.Segments.map (rL 3 Ao))]) ⟨w0_0, w0_1, w0_2, I2⟩ ⟨I, J⟩ ⟨[0, 1, 2, 3], I, by decide⟩ ?_ ?_
 rintro ag P t ar s ob a9 au ⟨D, E, F, rfl, rfl⟩ h
 unfold Pz.B6 at h
 have ba := Cn au
 refine Ah I (Aa fun cw bb => Bs I ba (sL ?_))
 subst bb
 refine Ai (fun s ob => ∃ (W : steady_line) (ah : Value) (ai : Value) (aj : Value), Pz.J7 W = some ar ∧ s = [] ∧ ob = [O4 b [Ax W ah ai aj], U1 ah W.x.Known, U2 ai W.x.Nodes, .us aj 127 1 (W.x.Segments.map (rL 3 Ao))]) [(0, _), (1, _), (21, _), (22, _), (23, _)] J5 ?_ ?_
 refine sM (Aa fun cx bc => sH (An 3 [.x 1 ag (Cb P)] I ⟨⟨I, Ae a9⟩, J⟩ (sJ [] I (sS W6 3 fun bd => Ag 1 I (sJ [4] I (A3 4 0 0 [Cb P] I (sI ?_)))))))
 subst bc
 refine Ai (fun s ob => ∃ (ao : Bool), Pz.J8 U P t ao = some ar ∧ s = [(42, .v (.bool ao))] ∧ ob = [O4 b [Ax t D E F], U1 D t.x.Known, U2 E t.x.Nodes, .us F 127 1 (t.x.Segments.map (rL 3 Ao)), .arr bd 68 3 1 [Cb P]]) [(0, _), (1, _), (6, _), (21, _), (22, _), (23, _)] J6 ?_ ?_
 refine sH (An 5 [.o 1 4] I J1 ?_)
 rcases bt ((P.Node == U)) with ac | ac
 replace h := Bq ac h
 obtain ⟨ap, ⟨be, bf⟩, h⟩ := A5 h
 refine Af 32 I ac (An 10 [.o 4 0, .x 6 ap.1 (rI ap.2)] I ⟨⟨be, Ae bf⟩, I, J⟩ (sI ?_))
 exact lg ⟨decide (ap.2 > 0), h, I2⟩ [0, 1, 2, 3, 4]
 replace h := Br ac h
 refine Af 32 I ac (Ag 10 I (sI ?_))
 exact lg ⟨false, h, I2⟩ [0, 1, 2, 3, 4]
 rintro s ob ⟨ao, h, rfl, rfl⟩
 refine Ar h I ?_ ?_
 intro bg h
 obtain ⟨bh, bi, h⟩ := Ac h
 refine sH (An 6 [.o 3 4, .o 5 4] I J2 (sT (Au (l := [.V P.Pressure, .V P.Pressure]) Do I) I (sJ [0, 1, 2, 3] I (Ik [0, 1, 2, 3] (T7 b _ D E F _ _ _ bi) ?_))))
 rintro _ _ _ - ⟨bj, bk, bl, rfl, rfl, rfl⟩
 exact sI (lg ⟨bh, bj, bk, bl, h, I2⟩ [0, 1, 2, 3])
 intro bg h
 refine sL ?_
 exact lg ⟨t, D, E, F, h, I2⟩ [0, 1, 2, 3]
 rintro s ob ⟨W, ah, ai, aj, h, rfl, rfl⟩
 refine sH (An 2 [.k 0 (ag + 1 : Nat)] I ⟨A0 au a6, J⟩ ?_)
 obtain rfl := oi h
 exact sI (lg ⟨ah, ai, aj, I2⟩ [0, 1, 2, 3])
 rintro t s ob ⟨D, E, F, rfl, rfl⟩ he
 subst he
 have h := a8
 have bm := Co O.n_.Ports.length
 refine Ah I (Aa fun cy cz => Bu I bm (sQ ?_))
 exact lg ⟨t, D, E, F, h, I2⟩ [0, 1, 2, 3]
 rintro s ob ⟨j, w, A, B, h, rfl, rfl⟩
 refine Aa fun c0 bn => sN ?_
 obtain ⟨aq, ⟨bo, av⟩, h⟩ := A5 h
 refine sH (An 6 [.o 4 0] I J1 (sV (Bm 1 (m := aq.1) I I I I I I I bo (Ae av)) I (sV (Bl 1 aq.1 0 I I I (Ae av) I (y := .v (.bool aq.2)) I) I (Ag 1 I (sI (Ar h I ?_ ?_))))))
 intro bp h
 refine Ah I ?_
 obtain rfl := oi h
 exact sO ⟨.inr I, [_], [O4 b [Ax j w A B], U1 w j.x.Known, U2 A j.x.Nodes, .us B 127 1 (j.x.Segments.map (rL 3 Ao))], J1, Cy I (Cy I (Cy I (Cy I (Cm)))), ⟨[O4 b [Ax j w A B], U1 w j.x.Known, U2 A j.x.Nodes, .us B 127 1 (j.x.Segments.map (rL 3 Ao))], [], I, I, w, A, B, I3⟩⟩
 intro bp h
 refine sL ?_
 subst bn
 refine Aa fun c1 bq => ?_
 obtain ⟨i, br, h⟩ := Ac h
 refine sH (Ag 2 I (sJ [0, 1, 2, 3] I (Ik [0, 1, 2, 3] (eV b _ w A B _ _ br) ?_)))
 rintro _ _ _ - ⟨X, Y, Z, rfl, rfl, rfl⟩
 refine Ag 3 I (sJ [] I (sS [.V 0, .V 0] 2 fun ak => sJ [4] I (A3 4 0 0 [Aq i.1] I (Ag 1 I (sI ?_)))))
 subst bq
 refine Aa fun c2 bs => Ah I (Ar h I ?_ ?_)
 intro bu h
 refine Ah I (Cu [0, 1, 2, 3] I ?_)
 obtain rfl := oi h
 exact sO ⟨.inr I, [_], [O4 b [Ax i.2.2 X Y Z], U1 X i.2.2.x.Known, U2 Y i.2.2.x.Nodes, .us Z 127 1 (i.2.2.x.Segments.map (rL 3 Ao))], J1, Cy I (Cy I (Cy I (Cy I (Cm)))), ⟨[O4 b [Ax i.2.2 X Y Z], U1 X i.2.2.x.Known, U2 Y i.2.2.x.Nodes, .us Z 127 1 (i.2.2.x.Segments.map (rL 3 Ao))], [], I, I, X, Y, Z, I3⟩⟩
 intro bu h
 refine sL ?_
 subst bs
 refine Ai (fun s ob => ∃ (n : steady_line) (G : Value) (H : Value) (M : Value), Pz.J2 n = some r ∧ s = [] ∧ ob = [O4 b [Ax n G H M], U1 G n.x.Known, U2 H n.x.Nodes, .us M 127 1 (n.x.Segments.map (rL 3 Ao))]) [] J ?_ ?_
 refine Bh [.o 4 0, .l 5 (i.2.2.n_.Segments.length : Int)] I ⟨Ay, I, J⟩ (sM (Bz 74 I fun bv => ?_))
 obtain ⟨c3, bw, aw⟩ := Ac h
 clear h
 refine Bx bw [(0, _), (1, _), (7, _), (74, _), (75, _)] J5 (fun (ad : Nat) (a : steady_line) s ob => ∃ (e : Value) (f : Value) (g : Value), s = [(76, .V (ad : Int))] ∧ ob = [O4 b [Ax a e f g], U1 e a.x.Known, U2 f a.x.Nodes, .us g 127 1 (a.x.Segments.map (rL 3 Ao)), O8 ak [Aq i.1]]) ⟨X, Y, Z, I2⟩ ⟨I, J⟩ ⟨[0, 1, 2, 3, 4], I, by decide⟩ ?_ ?_
 rintro ad ae a ax s ob bx ay ⟨e, f, g, rfl, rfl⟩ h b1
 unfold Pz.B3 at h
 have b2 := Cn ay
 refine Ah I (Aa fun c4 b3 => Bs I b2 (sL ?_))
 subst b3
 refine Ai (fun s ob => ∃ (aa : steady_line) (al : Value) (am : Value) (an : Value), Pz.J4 aa = some ax ∧ s = [] ∧ ob = [O4 b [Ax aa al am an], U1 al aa.x.Known, U2 am aa.x.Nodes, .us an 127 1 (aa.x.Segments.map (rL 3 Ao)), O8 ak [Aq i.1]]) [(0, _), (1, _), (7, _), (74, _), (75, _), (76, _)] J6 ?_ ?_
 refine sM (Aa fun c5 b4 => sH (An 3 [.x 1 ad (Ak ae)] I ⟨⟨I, Ae bx⟩, J⟩ (sJ [] I (sS W2 7 fun c6 => Ag 1 I (sJ [5] I (A3 5 0 0 [Ak ae] I (sI ?_)))))))
 subst b4
 refine Aa fun c7 b5 => ?_
 obtain ⟨Q, ⟨b6, b7⟩, h⟩ := A5 h
 refine Ey [.o 4 0, .x 6 Q.1 (rI Q.2)] I ⟨⟨b6, Ae b7⟩, I, J⟩ ?_
 subst b5
 refine Aa fun c8 b8 => sH (An 2 [.o 0 5] I J1 (Cc (N9 ae Q.2 _ I) (Ag 5 I (sI ?_))))
 subst b8
 refine Aa fun c9 b9 => Ec 101 ((Q.2 == 0) || (((Bn ae Q.2).1) != U)) ?_ ?_
 refine sH (Ag 3 I ?_)
 rcases bt ((Q.2 == 0)) with af | af
 refine Af 97 I af (Ag 4 I (sI ?_))
 exact jf (by simp only [af, bz]) I I I2
 refine Af 97 I af (Ag 4 I (sI ?_))
 exact jf (by simp only [af, bz]) I I I2
 refine Ar h I ?_ ?_
 intro ca h
 refine sQ ?_
 exact lg ⟨a, e, f, g, h, I2⟩ [0, 1, 2, 3, 4]
 intro ca h
 refine sL ?_
 subst b9
 refine Aa fun da cb => ?_
 obtain ⟨az, ⟨cc, cd⟩, h⟩ := A5 h
 obtain ⟨ab, ce, h⟩ := Ac h
 refine By (pd 24 0 [18]) [5, 0, 4] [_, _, _] I (B8 18 [.o 0 0, .o 4 1, .x 6 az.1 ((rL 2 A9) az.2), .o 11 1, .o 15 1, .o 17 2] I ⟨I, I, I, ⟨cc, Ae cd⟩, I, I, J⟩ (sK [] I I I (Ci I I I (eK _ _ _ _ _ _ _ ce) dS ?_)))
 rintro _ _ ⟨a0, rfl, rfl⟩
 refine Bg 5 I (Ap (sI ?_))
 subst cb
 refine Aa fun db cf => Ah I (Ar h I ?_ ?_)
 intro ci h
 refine Ah I ?_
 obtain rfl := b1 _ (oi h).symm
 replace h := aw
 replace h := C1 h
 refine Cu [0, 1, 2, 3] I ?_
 obtain rfl := oi h
 exact sO ⟨.inr I, [_], [O4 b [Ax a e f g], U1 e a.x.Known, U2 f a.x.Nodes, .us g 127 1 (a.x.Segments.map (rL 3 Ao))], J1, Cy I (Cy I (Cy I (Cy I (Cm)))), ⟨[O4 b [Ax a e f g], U1 e a.x.Known, U2 f a.x.Nodes, .us g 127 1 (a.x.Segments.map (rL 3 Ao))], [], I, I, e, f, g, I3⟩⟩
 intro ci h
 refine sL ?_
 subst cf
 refine Aa fun dc cj => ?_
 obtain ⟨R, ⟨ck, a1⟩, h⟩ := A5 h
 refine sH (Ag 1 I (sV (Bm 6 (m := R.1) I I I I I I I ck (Ae a1)) I (sV (Bl 6 R.1 0 I I I (Ae a1) I (y := .agg (Ao R.2)) I) I (sJ [] I (sS W1 3 fun a2 => sJ [7] I (A3 7 0 0 [Ao R.2] I (sI ?_)))))))
 subst cj
 refine Ai (fun s ob => ∃ (u : Int × Int × Int), Pz.J5 ad ae a Q ab u = some ax ∧ s = [] ∧ ob = [O4 b [Ax a e f g], U1 e a.x.Known, U2 f a.x.Nodes, .us g 127 1 (a.x.Segments.map (rL 3 Ao)), O8 ak [Aq i.1], U4 a0 ab.1, .arr a2 131 3 1 [[.V u.1, .V u.2.1, .V u.2.2]]]) [(0, _), (1, _), (7, _), (9, _), (13, _), (14, _), (16, _), (74, _), (75, _), (76, _)] iR ?_ ?_
 refine Ah I (Ar h I ?_ ?_)
 intro cl h
 obtain ⟨S, ⟨cm, a3⟩, h⟩ := A5 h
 refine sH (Ag 2 I (sV (Cz 6 I I I I) I (Ag 1 I (sV (Bm 6 (m := S.1) I I I I I I I cm (Ae a3)) I (sV (Bl 6 S.1 0 I I I (Ae a3) I (y := .agg (Ao S.2)) I) I (sJ [7] I (A3 7 0 0 [Ao S.2] I (sI ?_))))))))
 exact lg ⟨(S.2.At, S.2.Bounds.Low, S.2.Bounds.High), h, I2⟩ [0, 1, 2, 3, 4, 6, 7]
 intro cl h
 refine sL ?_
 exact lg ⟨(R.2.At, R.2.Bounds.Low, R.2.Bounds.High), h, I2⟩ [0, 1, 2, 3, 4, 6, 7]
 rintro s ob ⟨u, h, rfl, rfl⟩
 refine sN ?_
 obtain ⟨a4, ⟨cn, a5⟩, h⟩ := A5 h
 refine sH (An 7 [.o 4 0] I J1 (sV (Bm 3 (m := a4.1) I I I I I I I cn (Ae a5)) I (AO.ghost (Bk [5] (K := [U4 a0 ab.1]) I [(14, Q9 ab.1), (144, Q9 ab.1)] ⟨⟨_, I, .us 0 I⟩, ⟨_, I, .us 0 I⟩, J⟩ (ob' := [O4 b [Ax a e f g], U1 e a.x.Known, U2 f a.x.Nodes, .us g 127 1 (a.x.Segments.map (rL 3 Ao)), O8 ak [Aq i.1], .arr a2 131 3 1 [[.V u.1, .V u.2.1, .V u.2.2]]]) (.rest _)) (sJ [3] I (Cg 3 a4.1 0 I I I (Ae a5) I I I I (Ca I) I (Df (x := ab.1) I) (sI ?_))))))
 obtain ⟨co, cp, h⟩ := Ac h
 refine sH (Ag 3 I (sV (C2 5 0 1 I I I I I (y := .agg [.V u.2.1, .V u.2.2]) I) I (sJ [0, 1, 2, 3] I (Ik [0, 1, 2, 3] (T7 b _ e f g _ _ _ cp) ?_))))
 rintro _ _ _ - ⟨cq, cr, ct, rfl, rfl, rfl⟩
 exact sI (lg ⟨co, cq, cr, ct, h, I2⟩ [0, 1, 2, 3, 4])
 rintro s ob ⟨aa, al, am, an, h, rfl, rfl⟩
 refine sH (An 2 [.k 0 (ad + 1 : Nat)] I ⟨A0 ay bv, J⟩ ?_)
 obtain rfl := oi h
 exact sI ⟨_, _, _, I, ⟨al, am, an, I2⟩, J6, [0, 1, 2, 3, 4], I, by decide⟩
 rintro a s ob ⟨e, f, g, rfl, rfl⟩ he
 subst he
 have h := C6 aw
 have cu := Co i.2.2.n_.Segments.length
 refine Ah I (Aa fun dd de => Bu I cu (sQ ?_))
 exact lg ⟨a, e, f, g, h, I2⟩ [0, 1, 2, 3]
 rintro s ob ⟨n, G, H, M, h, rfl, rfl⟩
 refine Ah I ?_
 obtain rfl := oi h
 exact sO ⟨.inr I, [_], [O4 b [Ax n G H M], U1 G n.x.Known, U2 H n.x.Nodes, .us M 127 1 (n.x.Segments.map (rL 3 Ao))], J1, Cy I (Cy I (Cy I (Cy I (Cm)))), ⟨[O4 b [Ax n G H M], U1 G n.x.Known, U2 H n.x.Nodes, .us M 127 1 (n.x.Segments.map (rL 3 Ao))], [], I, I, G, H, M, I3⟩⟩
theorem gC (a : List Piece) (F1 : T) {c : FuncId} {d e : List T} (o : Jf F1 = some (c, d, e)) (f : Piece → Option Bool) (p : ∀ (g : Piece) r, f g = some r → ACalls Aj c (d ++ [.agg (A9 g)] ++ e) [] fun x new => x = .v (.bool r) ∧ new = []) (r : Int) (h : Vm a f = some r) : ACalls Aj 89 [Q4 a, F1] [] (fun x new => x = .V r ∧ new = []) := by
 refine Ad Tryz.func89 I I I fun C hC => ?_
 unfold Vm at h
 refine Ah I (Ai (fun s ob => ∃ (i : Unit), Vm.J1 i = some r ∧ s = [] ∧ ob = []) [] J ?_ ?_)
 refine Bh [.l 1 (a.length : Int)] I ⟨Ay, J⟩ (sM (Bz 6 I fun q => ?_))
 obtain ⟨G, t, j⟩ := Ac h
 clear h
 refine Bx t [(0, _), (1, _), (7, _)] J3 (fun (b : Nat) (m : Unit) s ob => s = [(8, .V (b : Int))] ∧ ob = []) ⟨I, I⟩ ⟨I, J⟩ ⟨[], I, by decide⟩ ?_ ?_
 rintro b u m H s ob w n ⟨rfl, rfl⟩ h y
 have A := Cn n
 refine Ah I (Aa fun K B => Bs I A (sL ?_))
 subst B
 refine sN (sM (Ah I (sN ?_)))
 obtain ⟨M, D, h⟩ := Ac h
 refine sH (An 5 [.x 3 b (A9 u)] I ⟨⟨I, Ae w⟩, J⟩ (sJ [] I (Cl I (.refl _) o I (.rest _) I (p _ _ D) dS (by rintro _ _ ⟨rfl, _⟩; rfl) ?_)))
 rintro _ ⟨_, rfl, -⟩
 refine sI (Ar h I ?_ ?_)
 intro E h
 refine Ah I ?_
 obtain rfl := y _ (oi h).symm
 replace h := j
 replace h := C1 h
 obtain rfl := oi h
 exact sO pr
 intro E h
 refine sL (sH (An 2 [.k 0 (b + 1 : Nat)] I ⟨A0 n q, J⟩ ?_))
 obtain rfl := oi h
 exact sI ⟨_, _, _, I, I2, J4, [], I, by decide⟩
 rintro m s ob ⟨rfl, rfl⟩ he
 subst he
 have h := C6 j
 have F := Co a.length
 refine Ah I (Aa fun N O => Bu I F (sQ ?_))
 exact lg ⟨(), h, I2⟩ []
 rintro s ob ⟨i, h, rfl, rfl⟩
 refine Ah I ?_
 obtain rfl := oi h
 exact sO pr
theorem dT (b : List Piece) (F1 : T) {d : FuncId} {e f : List T} (i : Jf F1 = some (d, e, f)) (a : Piece → Option Bool) (j : ∀ (g : Piece) r, a g = some r → ACalls Aj d (e ++ [.agg (A9 g)] ++ f) [] fun x new => x = .v (.bool r) ∧ new = []) (r : Bool) (h : Po b a = some r) : ACalls Aj 50 [Q4 b, F1] [] (fun x new => x = .v (.bool r) ∧ new = []) := by
 refine Ad Tryz.func50 I I I fun C hC => ?_
 refine Ah I (sN ?_)
 obtain ⟨l, k, h⟩ := Ac h
 refine sH (Ag 2 I (Cc (gC _ F1 i a j _ k) (Ag 2 I (sI ?_))))
 obtain rfl := oi h
 exact sO pr
theorem eR (a : Piece) (b : List Batch) (d : List Product) (r : Bool) (h : Vd a b d = some r) : ACalls Aj 51 [.agg (A9 a), .eptr ((rL 4 D3) b), .eptr ((rL 5 Bw) d)] [] (fun x new => x = .v (.bool r) ∧ new = []) := by
 refine Ad Tryz.func51 I I I fun C hC => ?_
 refine sN (sH (sJ [] I (Bo (A9 a) 2 fun f => Ag 1 I (sI (sN ?_)))))
 obtain ⟨g, e, h⟩ := Ac h
 refine sH (An 4 [.o 1 0] I J1 (Cc (fK _ _ _ _ e) (Ag 2 I (sI (sP g0 ?_)))))
 obtain rfl := oi h
 exact sO pr
theorem fJ (a : Nw) (e : List Batch) (g : List Product) (t : List (List Piece)) (b : Plan) (r : Pressures × Int) (h : Fm a e g t b = some r) : ACalls Aj 25 [.agg (Ab a), Q3 e, Q2 g, .list 1 (t.map (rL 2 A9)), .agg (Am b)] [] (fun x new => x = .tup [.agg (A8 r.1), .V r.2] ∧ new = []) := by
 refine Ad Tryz.func25 I I I fun C hC => ?_
 refine Aa fun y1 a6 => sH (sJ [] I (Bo (Ab a) 6 fun Q => sJ [] I (Bo [Q3 e] 1 fun R => sJ [] I (Bo [Q2 g] 1 fun S => sJ [] I (Bo (Am b) 3 fun U => sJ [] I (sS W0 3 fun w => Ag 1 I (sI ?_)))))))
 subst a6
 refine Aa fun y7 a7 => ?_
 obtain ⟨u, a8, h⟩ := Ac h
 refine sH (An 2 [.o 0 0, .o 1 3] I J2 (sJ [] I (Ci I I I (dR _ _ _ a8) dS ?_)))
 rintro _ _ ⟨F, rfl, rfl⟩
 refine Ag 5 I (sI ?_)
 subst a7
 refine Aa fun cb a9 => Ah I (Ar h I ?_ ?_)
 intro ba h
 refine sN (sH (sT (Au (l := W0) Cf I) I (Ag 1 I (sJ [4] I (A3 4 0 0 [W0] I (Ag 1 I (sI (sP (Bk [] (K := []) I [] J (ob' := [O0 Q [Ab a], .arr R 36 1 1 [[Q3 e]], .arr S 32 1 1 [[Q2 g]], O1 U [Am b], O3 w [[.list 1 ([].map rB), .list 2 ([].map Aq), .list 1 ([].map (rL 3 Ao))]], U0 F u.1]) (.cons (.same _) (.cons (.same _) (.cons (.same _) (.cons (.same _) (.cons (.arr (.cons (.nil _) (.cons (.nil _) (.cons (.nil _) (.rest _))))) (.rest _))))))) (Cu [4] I ?_)))))))))
 obtain rfl := oi h
 rotate_left
 intro ba h
 refine sL ?_
 subst a9
 refine Aa fun cc bb => sN ?_
 obtain ⟨cd, bc, h⟩ := Ac h
 refine sH (An 2 [.o 0 0] I J1 (Cc (eO _ _ _ bc) (Ag 1 I (sI (Ah I (Ar h I ?_ ?_))))))
 intro bd h
 refine sN (sH (sT (Au (l := W0) Cf I) I (Ag 1 I (sJ [4] I (A3 4 0 0 [W0] I (Ag 1 I (sI (sP (Bk [] (K := []) I [] J (ob' := [O0 Q [Ab a], .arr R 36 1 1 [[Q3 e]], .arr S 32 1 1 [[Q2 g]], O1 U [Am b], O3 w [[.list 1 ([].map rB), .list 2 ([].map Aq), .list 1 ([].map (rL 3 Ao))]], U0 F u.1]) (.cons (.same _) (.cons (.same _) (.cons (.same _) (.cons (.same _) (.cons (.arr (.cons (.nil _) (.cons (.nil _) (.cons (.nil _) (.rest _))))) (.rest _))))))) (Cu [4] I ?_)))))))))
 obtain rfl := oi h
 rotate_left
 intro bd h
 refine sL ?_
 subst bb
 refine Aa fun ce be => sN ?_
 obtain ⟨cf, bf, h⟩ := Ac h
 refine sH (An 1 [.o 0 2] I J1 (Cc (Tn _ _ bf) (Ag 1 I (sI (Ah I (Ar h I ?_ ?_))))))
 intro bg h
 refine sN (sH (sT (Au (l := W0) Cf I) I (Ag 1 I (sJ [4] I (A3 4 0 0 [W0] I (Ag 1 I (sI (sP (Bk [] (K := []) I [] J (ob' := [O0 Q [Ab a], .arr R 36 1 1 [[Q3 e]], .arr S 32 1 1 [[Q2 g]], O1 U [Am b], O3 w [[.list 1 ([].map rB), .list 2 ([].map Aq), .list 1 ([].map (rL 3 Ao))]], U0 F u.1]) (.cons (.same _) (.cons (.same _) (.cons (.same _) (.cons (.same _) (.cons (.arr (.cons (.nil _) (.cons (.nil _) (.cons (.nil _) (.rest _))))) (.rest _))))))) (Cu [4] I ?_)))))))))
 obtain rfl := oi h
 rotate_left
 intro bg h
 refine sL ?_
 subst be
 refine Ai (fun s ob => ∃ (az : Unit), Fm.J1 a e g t b u az = some r ∧ s = [] ∧ ob = [O0 Q [Ab a], .arr R 36 1 1 [[Q3 e]], .arr S 32 1 1 [[Q2 g]], O1 U [Am b], O3 w [W0], U0 F u.1]) [(3, _), (5, _), (6, _), (7, _), (9, _), (10, _), (12, _)] J7 ?_ ?_
 refine Bh [.l 1 (t.length : Int)] I ⟨Ay, J⟩ (sM (Bz 45 I fun bh => ?_))
 obtain ⟨ci, bi, a0⟩ := Ac h
 clear h
 refine Bx bi [(3, _), (5, _), (6, _), (7, _), (9, _), (10, _), (12, _), (45, _), (46, _)] J9 (fun (ah : Nat) (a1 : Unit) s ob => s = [(47, .V (ah : Int))] ∧ ob = [O0 Q [Ab a], .arr R 36 1 1 [[Q3 e]], .arr S 32 1 1 [[Q2 g]], O1 U [Am b], O3 w [W0], U0 F u.1]) ⟨I, I⟩ ⟨I, J⟩ ⟨[0, 1, 2, 3, 4, 5], I, by decide⟩ ?_ ?_
 rintro ah bj a1 cj s ob bk a2 ⟨rfl, rfl⟩ h bl
 have bm := Cn a2
 refine Ah I (Aa fun ck bn => Bs I bm (sL ?_))
 subst bn
 refine sN (sM (Bh [.x 0 ah ((rL 2 A9) bj)] I ⟨⟨I, Ae bk⟩, J⟩ (sN ?_)))
 obtain ⟨cl, bo, h⟩ := Ac h
 refine sH (Ag 1 I (sT (tD I I) I (sJ [] I (Cl I (.refl _) I I (.cons (.refl _) (.cons (.fn (.rest _) (.cons (.box 1 I (.rest _)) (.cons (.box 2 I (.rest _)) (.rest _)))) (.rest _))) I (dT _ (.fn 51 [] [.eptr ((rL 4 D3) e), .eptr ((rL 5 Bw) g)]) I (fun x => Vd x e g) (fun x r h => eR x e g r h) _ bo) dS (by rintro _ _ ⟨rfl, _⟩; rfl) ?_))))
 rintro _ ⟨_, rfl, -⟩
 refine sI (Ar h I ?_ ?_)
 intro bp h
 refine sN (sH (sT (Au (l := W0) Cf I) I (sJ [4] I (A3 4 0 0 [W0] I (Ag 1 I (sI ?_))))))
 obtain rfl := bl _ (oi h).symm
 replace h := a0
 replace h := C1 h
 refine sP (Bk [] (K := []) I [] J (ob' := [O0 Q [Ab a], .arr R 36 1 1 [[Q3 e]], .arr S 32 1 1 [[Q2 g]], O1 U [Am b], O3 w [[.list 1 ([].map rB), .list 2 ([].map Aq), .list 1 ([].map (rL 3 Ao))]], U0 F u.1]) (.cons (.same _) (.cons (.same _) (.cons (.same _) (.cons (.same _) (.cons (.arr (.cons (.nil _) (.cons (.nil _) (.cons (.nil _) (.rest _))))) (.rest _))))))) (Cu [4] I ?_)
 obtain rfl := oi h
 any_goals
  exact sO ⟨.inr I, [_, _], [], ⟨⟨0, _, _, _, _, _, _, _, I5⟩, I, J⟩, Cm, I2⟩
 intro bp h
 refine sL (sH (An 2 [.k 0 (ah + 1 : Nat)] I ⟨A0 a2 bh, J⟩ ?_))
 obtain rfl := oi h
 exact sI ⟨_, _, _, I, I2, iR, [0, 1, 2, 3, 4, 5], I, by decide⟩
 rintro a1 s ob ⟨rfl, rfl⟩ he
 subst he
 have h := C6 a0
 have bq := Co t.length
 refine Ah I (Aa fun cm cn => Bu I bq (sQ ?_))
 exact lg ⟨(), h, I2⟩ [0, 1, 2, 3, 4, 5]
 rintro s ob ⟨az, h, rfl, rfl⟩
 unfold Fm.J1 at h
 refine Aa fun co br => sH (An 5 [.o 0 0, .o 1 1, .o 2 2, .o 4 3] I J4 (sT (Au (l := [Q1 a.Nodes, Q6 a.Segments, Q7 a.Ports, Q8 a.Stations, .V a.Vapour, .V a.Settle, Q3 e, Q2 g, .list 1 (t.map (rL 2 A9)), Q0 b.Rates, Q0 b.Ports, Q5 b.Pumps, .N, .N, .N]) Yl I) I (sJ [] I (Bo [Q1 a.Nodes, Q6 a.Segments, Q7 a.Ports, Q8 a.Stations, .V a.Vapour, .V a.Settle, Q3 e, Q2 g, .list 1 (t.map (rL 2 A9)), Q0 b.Rates, Q0 b.Ports, Q5 b.Pumps, .N, .N, .N] 15 fun W => Ag 1 I (sI ?_)))))
 subst br
 refine Ai (fun s ob => ∃ (X : steady_line) (ai : Value) (aj : Value) (ak : Value), Fm.J2 u X = some r ∧ s = [] ∧ ob = [O3 w [W0], U0 F u.1, O4 W [Ax X ai aj ak], U1 ai X.x.Known, U2 aj X.x.Nodes, .us ak 127 1 (X.x.Segments.map (rL 3 Ao))]) [(10, _), (12, _), (18, _)] J3 ?_ ?_
 obtain ⟨Y, ⟨cp, al, am, an⟩, h⟩ := Gm h
 obtain ⟨Z, ⟨cq, ao, ap, aq⟩, h⟩ := Gm h
 obtain ⟨ad, ⟨B, ae, af, ag⟩, h⟩ := Gm h
 refine By (sl 4 0 (sl 3 5 (sl 3 9 (.three 4 8 12 (.two 8 12 (.act 12 (sl 3 13 (.act 16 .nil))) (.act 8 (sl 3 13 (.act 16 .nil)))) (.two 4 12 (.act 12 (sl 3 13 (.act 16 .nil))) (.act 4 (sl 3 13 (.act 16 .nil)))) (.par [(4, []), (8, [])] (sl 3 13 (.act 16 .nil))))))) [0] [_] I (B8 10 [.o 2 0, .l 3 (a.Nodes.length : Int), .o 5 0, .l 6 (a.Nodes.length : Int), .o 8 0, .l 9 (a.Segments.length : Int)] I ⟨Ay, I, Ay, I, Ay, I, J⟩ (tF ?_ ?_ ?_))
 refine sK [] I I I (Bp (sz := 1) I I I I I I I I I I al am (Cr (f := rB) an I) dS fun j => sW ?_ ?_)
 refine sK [] I I I (Bp (sz := 2) I I I I I I I I I I ao ap (Cr (f := Aq) aq I) dS fun n => sK [] I I I (Bp (sz := 1) (es' := List.replicate B [.N]) I I I I I I I I I I ae af I dS fun i => Cw (Ch (f := Ao) 9 B 3 ag I) I (sU 7 I fun D => sU 8 I fun E => sU 9 I fun G => tC I (Au (l := [.v j, .v n, .v i]) Cf (As I I (A7 D) I (As I I (A7 E) I (As I I (A7 G) I (Cv))))) I (Bg 2 I (sK [6] I I I (A3 6 0 12 [[Q1 a.Nodes, Q6 a.Segments, Q7 a.Ports, Q8 a.Stations, .V a.Vapour, .V a.Settle, Q3 e, Q2 g, .list 1 (t.map (rL 2 A9)), Q0 b.Rates, Q0 b.Ports, Q5 b.Pumps, .v j, .v n, .v i]] I (Ap (sI ?_))))))))
 exact lg ⟨(⟨a, e, g, t, b, (⟨Y, Z, ad⟩ : Pressures)⟩ : steady_line), j, n, i, h, I2⟩ [4, 5, 6, 7, 8, 9]
 refine sK [] I I I (Bp (sz := 1) (es' := List.replicate B [.N]) I I I I I I I I I I ae af I dS fun i => Cw (Ch (f := Ao) 8 B 3 ag I) I (sK [] I I I (Bp (sz := 2) I I I I I I I I I I ao ap (Cr (f := Aq) aq I) dS fun n => sU 7 I fun D => sU 9 I fun E => sU 8 I fun G => tC I (Au (l := [.v j, .v n, .v i]) Cf (As I I (A7 D) I (As I I (A7 E) I (As I I (A7 G) I (Cv))))) I (Bg 2 I (sK [6] I I I (A3 6 0 12 [[Q1 a.Nodes, Q6 a.Segments, Q7 a.Ports, Q8 a.Stations, .V a.Vapour, .V a.Settle, Q3 e, Q2 g, .list 1 (t.map (rL 2 A9)), Q0 b.Rates, Q0 b.Ports, Q5 b.Pumps, .v j, .v n, .v i]] I (Ap (sI ?_))))))))
 exact lg ⟨(⟨a, e, g, t, b, (⟨Y, Z, ad⟩ : Pressures)⟩ : steady_line), j, n, i, h, I2⟩ [4, 5, 6, 7, 9, 8]
 refine sK [] I I I (Bp (sz := 2) I I I I I I I I I I ao ap (Cr (f := Aq) aq I) dS fun n => sW ?_ ?_)
 refine sK [] I I I (Bp (sz := 1) I I I I I I I I I I al am (Cr (f := rB) an I) dS fun j => sK [] I I I (Bp (sz := 1) (es' := List.replicate B [.N]) I I I I I I I I I I ae af I dS fun i => Cw (Ch (f := Ao) 9 B 3 ag I) I (sU 8 I fun D => sU 7 I fun E => sU 9 I fun G => tC I (Au (l := [.v j, .v n, .v i]) Cf (As I I (A7 D) I (As I I (A7 E) I (As I I (A7 G) I (Cv))))) I (Bg 2 I (sK [6] I I I (A3 6 0 12 [[Q1 a.Nodes, Q6 a.Segments, Q7 a.Ports, Q8 a.Stations, .V a.Vapour, .V a.Settle, Q3 e, Q2 g, .list 1 (t.map (rL 2 A9)), Q0 b.Rates, Q0 b.Ports, Q5 b.Pumps, .v j, .v n, .v i]] I (Ap (sI ?_))))))))
 exact lg ⟨(⟨a, e, g, t, b, (⟨Y, Z, ad⟩ : Pressures)⟩ : steady_line), j, n, i, h, I2⟩ [4, 5, 6, 8, 7, 9]
 refine sK [] I I I (Bp (sz := 1) (es' := List.replicate B [.N]) I I I I I I I I I I ae af I dS fun i => Cw (Ch (f := Ao) 8 B 3 ag I) I (sK [] I I I (Bp (sz := 1) I I I I I I I I I I al am (Cr (f := rB) an I) dS fun j => sU 9 I fun D => sU 7 I fun E => sU 8 I fun G => tC I (Au (l := [.v j, .v n, .v i]) Cf (As I I (A7 D) I (As I I (A7 E) I (As I I (A7 G) I (Cv))))) I (Bg 2 I (sK [6] I I I (A3 6 0 12 [[Q1 a.Nodes, Q6 a.Segments, Q7 a.Ports, Q8 a.Stations, .V a.Vapour, .V a.Settle, Q3 e, Q2 g, .list 1 (t.map (rL 2 A9)), Q0 b.Rates, Q0 b.Ports, Q5 b.Pumps, .v j, .v n, .v i]] I (Ap (sI ?_))))))))
 exact lg ⟨(⟨a, e, g, t, b, (⟨Y, Z, ad⟩ : Pressures)⟩ : steady_line), j, n, i, h, I2⟩ [4, 5, 6, 9, 7, 8]
 refine sK [] I I I (Bp (sz := 1) (es' := List.replicate B [.N]) I I I I I I I I I I ae af I dS fun i => Cw (Ch (f := Ao) 7 B 3 ag I) I (AP.any [⟨4, [], 67, .us 4 1 (Y.map rB)⟩, ⟨8, [], 71, .us 129 2 (Z.map Aq)⟩] I ⟨⟨_, I, I, I, fun _ => Bp (sz := 1) I I I I I I I I I I al am (Cr (f := rB) an I) dS fun v => ⟨_, I, ⟨v, I⟩, I⟩⟩, ⟨_, I, I, I, fun _ => Bp (sz := 2) I I I I I I I I I I ao ap (Cr (f := Aq) aq I) dS fun v => ⟨_, I, ⟨v, I⟩, I⟩⟩, J⟩ ?_))
 intro j D n E
 refine sU 8 I fun D => sU 9 I fun E => sU 7 I fun G => tC I (Au (l := [.v j, .v n, .v i]) Cf (As I I (A7 D) I (As I I (A7 E) I (As I I (A7 G) I (Cv))))) I (Bg 2 I (sK [6] I I I (A3 6 0 12 [[Q1 a.Nodes, Q6 a.Segments, Q7 a.Ports, Q8 a.Stations, .V a.Vapour, .V a.Settle, Q3 e, Q2 g, .list 1 (t.map (rL 2 A9)), Q0 b.Rates, Q0 b.Ports, Q5 b.Pumps, .v j, .v n, .v i]] I (Ap (sI ?_)))))
 exact lg ⟨(⟨a, e, g, t, b, (⟨Y, Z, ad⟩ : Pressures)⟩ : steady_line), j, n, i, h, I2⟩ [4, 5, 6, 8, 9, 7]
 rintro s ob ⟨X, ai, aj, ak, h, rfl, rfl⟩
 unfold Fm.J2 at h
 refine Ai (fun s ob => ∃ (A : steady_line) (H : Value) (M : Value) (O : Value), Fm.J3 A = some r ∧ s = [] ∧ ob = [O3 w [W0], O4 W [Ax A H M O], U1 H A.x.Known, U2 M A.x.Nodes, .us O 127 1 (A.x.Segments.map (rL 3 Ao))]) [(10, _), (18, _)] J2 ?_ ?_
 refine Aa fun cr bs => sH (Ag 1 I (sV (Cz 1 I I I I) I (Ag 1 I (sI ?_))))
 subst bs
 refine sM (Oi 1 I fun bt => ?_)
 obtain ⟨ct, bu, a3⟩ := Ac h
 clear h
 refine Fe bu [(10, _), (18, _), (79, _), (80, _)] J4 (fun (au : Nat) (P : steady_line) s ob => ∃ (aa : Value) (ab : Value) (ac : Value), s = [(81, .V (au : Int))] ∧ ob = [O3 w [W0], U0 F u.1, O4 W [Ax P aa ab ac], U1 aa P.x.Known, U2 ab P.x.Nodes, .us ac 127 1 (P.x.Segments.map (rL 3 Ao))]) ⟨ai, aj, ak, I2⟩ ⟨I, J⟩ ⟨[0, 1, 2, 3, 4, 5], I, by decide⟩ ?_ ?_
 rintro au P cu s ob a4 ⟨aa, ab, ac, rfl, rfl⟩ h bv
 have bw := Cn a4
 refine Ah I (Aa fun cv bx => Bs I bw (sL ?_))
 subst bx
 refine sN (sM (Aa fun cw bz => ?_))
 obtain ⟨av, ⟨b0, a5⟩, h⟩ := A5 h
 refine sH (sV (Bm 1 (m := av.1) I I I I I I I b0 (Ae a5)) I (sV (Bl 1 av.1 0 I I I (Ae a5) I (y := .V av.2) I) I (Ag 1 I (sI ?_))))
 subst bz
 refine sN ?_
 obtain ⟨ar, b1, h⟩ := Ac h
 refine sH (Ag 2 I (sJ [2, 3, 4, 5] I (Ik [2, 3, 4, 5] (eY W _ aa ab ac _ _ b1) ?_)))
 rintro _ _ _ - ⟨aw, ax, ay, rfl, rfl, rfl⟩
 refine Ag 1 I (sI (Ah I (Ar h I ?_ ?_)))
 intro b7 h
 refine sN (sH (sT (Au (l := W0) Cf I) I (Ag 1 I (sJ [0] I (A3 0 0 0 [W0] I (Ag 1 I (sI ?_)))))))
 obtain rfl := bv _ (oi h).symm
 replace h := a3
 replace h := C1 h
 refine sP (Bk [] (K := []) I [] J (ob' := [O3 w [[.list 1 ([].map rB), .list 2 ([].map Aq), .list 1 ([].map (rL 3 Ao))]], U0 F u.1, O4 W [Ax ar.2 aw ax ay], U1 aw ar.2.x.Known, U2 ax ar.2.x.Nodes, .us ay 127 1 (ar.2.x.Segments.map (rL 3 Ao))]) (.cons (.arr (.cons (.nil _) (.cons (.nil _) (.cons (.nil _) (.rest _))))) (.rest _))) (Cu [0] I ?_)
 obtain rfl := oi h
 exact sO ⟨.inr I, [_, _], [], ⟨⟨0, _, _, _, _, _, _, _, I5⟩, I, J⟩, Cm, I2⟩
 intro b7 h
 refine sL (sH (An 2 [.k 0 (au + 1 : Nat)] I ⟨A0 a4 bt, J⟩ ?_))
 obtain rfl := oi h
 exact sI ⟨_, _, _, I, ⟨aw, ax, ay, I2⟩, J5, [0, 1, 2, 3, 4, 5], I, by decide⟩
 rintro P s ob ⟨aa, ab, ac, rfl, rfl⟩ he
 subst he
 have h := C6 a3
 have b8 := Co u.1.length
 refine Ah I (Aa fun cx cy => Bu I b8 (sQ ?_))
 exact lg ⟨P, aa, ab, ac, h, I2⟩ [0, 2, 3, 4, 5]
 rintro s ob ⟨A, H, M, O, h, rfl, rfl⟩
 refine sN (sH (Ag 3 I (sV (C2 1 0 12 I I I I I (y := .agg [.v H, .v M, .v O]) I) I (sJ [0] I (A3 0 0 0 [[.v H, .v M, .v O]] I (Ag 1 I (sI (sP (Bk [2, 3, 4] (K := [U1 H A.x.Known, U2 M A.x.Nodes, .us O 127 1 (A.x.Segments.map (rL 3 Ao))]) I [] J (ob' := [O3 w [A8 A.x], O4 W [Ax A H M O]]) (.cons (.arr (.cons (.us 0 I) (.cons (.us 1 I) (.cons (.us 2 I) (.rest _))))) (.rest _))) (Cu [0] I ?_)))))))))
 obtain rfl := oi h
 exact sO ⟨.inr I, [_, _], [], ⟨⟨0, _, _, _, _, _, _, _, I5⟩, I, J⟩, Cm, I2⟩
end Go.Proofs.YtodeekicjiengaaGreatDoor
