/- Walks that show what functions of the program compute; printed by a program of ours. No condition. -/
import Derived.Test.YtodeekicjiengaaGreatDoorYvLs3
set_option maxRecDepth 100000
namespace Go.Proofs.YtodeekicjiengaaGreatDoor
open Go.Aw
set_option linter.unusedVariables false
set_option linter.unusedSimpArgs false
set_option maxHeartbeats 4000000
theorem fW (d : Sg) (e : Int) (r : Int) (h : Nc d e = some r) : ACalls Aj 56 [.agg (Ak d), .V e] [] (fun x new => x = .V r ∧ new = []) := by
 refine Ad Tryz.func56 I I I fun C hC => ?_
 unfold Nc at h
 refine Aa fun Q y => sH (sJ [] I (Bo (Ak d) 7 fun j => Ag 1 I (sI ?_)))
 subst y
 refine Ah I (Ai (fun s ob => ∃ (k : Int), Nc.J1 k = some r ∧ s = [(5, .V k)] ∧ ob = []) [] J ?_ ?_)
 refine Ah I (sM ?_)
 obtain ⟨R, A, B⟩ := Ac h
 clear h
 refine Cs A [(1, _), (2, _)] J2 (fun (c : Int × Int) s ob => s = [(5, .V c.1), (6, .V c.2)] ∧ ob = [O5 j [Ak d]]) ⟨I, I⟩ ⟨I, I, J⟩ ⟨[0], I, by decide⟩ ?_
 rintro c w s ob ⟨rfl, rfl⟩ h D
 refine Aa fun S E => Bh [.o 2 0, .l 3 (d.Points.length : Int)] I ⟨Ay, I, J⟩ (Ar h I ?_ ?_)
 intro F h
 refine sL ?_
 subst E
 refine Ai (fun s ob => ∃ (n : Int), Nc.J3 c n = some w ∧ s = [(5, .V n)] ∧ ob = [O5 j [Ak d]]) [(1, _), (2, _), (6, _)] J3 ?_ ?_
 refine sM (Ai (fun s ob => ∃ (a : Int × Int × Int × Int × Int × Int) (t : Nat) (u : Nat), Nc.J4 e c a = some w ∧ s = [(7, .v (.pointer (some ⟨t, 0, none⟩))), (8, .v (.pointer (some ⟨u, 0, none⟩)))] ∧ ob = [O5 j [Ak d], .arr t 102 3 1 [[.V a.1, .V a.2.1, .V a.2.2.1]], .arr u 102 3 1 [[.V a.2.2.2.1, .V a.2.2.2.2.1, .V a.2.2.2.2.2]]]) [(1, _), (2, _), (5, _), (6, _)] J4 ?_ ?_)
 obtain ⟨f, ⟨G, H⟩, h⟩ := A5 h
 obtain ⟨g, ⟨K, M⟩, h⟩ := A5 h
 refine By (sl 11 0 (.par [(11, []), (12, [])] (.act 13 (.act 14 .nil)))) [0] [_] I (B8 11 [.o 1 0, .x 4 f.1 (Bi f.2), .o 7 0, .x 9 g.1 (Bi g.2)] I ⟨⟨K, Ae M⟩, I, ⟨G, Ae H⟩, I, J⟩ (AP.any [⟨11, [], 7, .box 102 3 (W1)⟩, ⟨12, [], 8, .box 102 3 (W1)⟩] I ⟨⟨_, I, I, I, fun _ => sS W1 3 fun b => ⟨_, I, ⟨b, I⟩, I⟩⟩, ⟨_, I, I, I, fun _ => sS W1 3 fun b => ⟨_, I, ⟨b, I⟩, I⟩⟩, J⟩ ?_))
 intro N O
 refine sK [1] I I I (A3 1 0 0 [Bi f.2] I (sK [2] I I I (A3 2 0 0 [Bi g.2] I (Ap (sI ?_)))))
 exact lg ⟨(f.2.At, f.2.Height, f.2.Limit, g.2.At, g.2.Height, g.2.Limit), N, O, h, I2⟩ [0, 1, 2]
 rintro s ob ⟨a, t, u, h, rfl, rfl⟩
 unfold Nc.J4 at h
 refine Ec 36 (decide (a.1 ≤ e) && decide (e ≤ a.2.2.2.1)) ?_ ?_
 refine sH (An 5 [.o 1 1] I J1 ?_)
 rcases bt (decide (a.1 ≤ e)) with i | i
 refine Af 31 I i (An 5 [.o 2 2] I J1 (sI ?_))
 exact jf (by simp only [i, bz]) I I I2
 refine Af 31 I i (Ag 5 I (sI ?_))
 exact jf (by simp only [i, bz]) I I I2
 refine Ar h I ?_ ?_
 intro P h
 refine sH (An 5 [.o 2 1, .o 4 2] I J2 (sT (X0 I I I) I (Ag 1 I (sI ?_))))
 exact lg ⟨(min (min c.1 a.2.2.1) a.2.2.2.2.2), h, I2⟩ [0]
 intro P h
 refine sL ?_
 exact lg ⟨c.1, h, I2⟩ [0]
 rintro s ob ⟨n, h, rfl, rfl⟩
 refine sH (Ag 3 I ?_)
 obtain rfl := oi h
 exact sI ⟨_, _, _, I, I2, J4, [0], I, by decide⟩
 intro F h
 obtain rfl := D _ (oi h).symm
 replace h := B
 refine sQ ?_
 exact lg ⟨c.1, h, I2⟩ []
 rintro s ob ⟨k, h, rfl, rfl⟩
 refine Ah I ?_
 obtain rfl := oi h
 exact sO pr
theorem gR (d : Pressures) (t : Li) (u : Nw) (r : Fault × Bool) (h : K4 d t u = some r) : ACalls Aj 55 [.eptr (A8 d), .eptr ((rL 1 rI) t), .eptr (Ab u)] [] (fun x new => x = .tup [.agg (Cq r.1), .v (.bool r.2)] ∧ new = []) := by
 refine Ad Tryz.func55 I I I fun C hC => ?_
 unfold K4 at h
 refine Aa fun y1 N => sH (sJ [] I (sS W1 3 fun e => Ag 1 I (sI ?_)))
 subst N
 refine Ai (fun s ob => ∃ (w : Unit), K4.J1 w = some r ∧ s = [] ∧ ob = [O6 e [W1]]) [(3, _)] J1 ?_ ?_
 refine Bh [.l 2 (d.Segments.length : Int)] I ⟨Ay, J⟩ (sM (Bz 10 I fun O => ?_))
 obtain ⟨al, P, i⟩ := Ac h
 clear h
 refine Bx P [(1, _), (2, _), (3, _), (10, _), (11, _)] J5 (fun (a : Nat) (y : Unit) s ob => s = [(12, .V (a : Int))] ∧ ob = [O6 e [W1]]) ⟨I, I⟩ ⟨I, J⟩ ⟨[0], I, by decide⟩ ?_ ?_
 rintro a j y Q s ob R A ⟨rfl, rfl⟩ h B
 unfold K4.B2 at h
 have S := Cn A
 refine Ah I (Aa fun am U => Bs I S (sL ?_))
 subst U
 refine Ai (fun s ob => ∃ (D : Unit), K4.J3 D = some Q ∧ s = [] ∧ ob = [O6 e [W1]]) [(1, _), (2, _), (3, _), (10, _), (11, _), (12, _)] J6 ?_ ?_
 refine sM (Bh [.x 1 a ((rL 3 Ao) j)] I ⟨⟨I, Ae R⟩, J⟩ (Bh [.l 1 (j.length : Int)] I ⟨Ay, J⟩ (sM (Bz 17 I fun W => ?_))))
 obtain ⟨an, X, n⟩ := Ac h
 clear h
 refine Bx X [(1, _), (2, _), (3, _), (5, _), (10, _), (11, _), (12, _), (17, _), (18, _)] J9 (fun (f : Nat) (E : Unit) s ob => s = [(19, .V (f : Int))] ∧ ob = [O6 e [W1]]) ⟨I, I⟩ ⟨I, J⟩ ⟨[0], I, by decide⟩ ?_ ?_
 rintro f b E ao s ob Y F ⟨rfl, rfl⟩ h G
 have Z := Cn F
 refine Ah I (Aa fun ap aa => Bs I Z (sL ?_))
 subst aa
 refine sN (sM (Aa fun aq ab => sH (An 2 [.x 0 f (Ao b)] I ⟨⟨I, Ae Y⟩, J⟩ (sJ [] I (sS W1 3 fun ar => sJ [1] I (A3 1 0 0 [Ao b] I (sI ?_)))))))
 subst ab
 refine Aa fun au ac => sN ?_
 obtain ⟨g, ⟨H, K⟩, h⟩ := A5 h
 obtain ⟨M, ⟨ad, ae⟩, h⟩ := A5 h
 obtain ⟨av, af, h⟩ := Ac h
 refine By (pd 17 0 [15]) [1] [_] I (B8 15 [.o 2 0, .x 5 g.1 (rI g.2), .x 11 M.1 (Ak M.2), .o 14 0] I ⟨I, ⟨ad, Ae ae⟩, ⟨H, Ae K⟩, I, J⟩ (Dp I (fW _ _ _ af) (Bg 1 I (Ap (sI (Ar h I ?_ ?_))))))
 intro ag h
 refine sN (sH (An 3 [.o 2 1] I J1 (sT (Au (l := [.V 1, .V (a : Int), .V b.At]) Dd I) I (sJ [0] I (A3 0 0 0 [[.V 1, .V (a : Int), .V b.At]] I (Ag 1 I (sI ?_)))))))
 obtain rfl := G _ (oi h).symm
 replace h := n
 replace h := C1 h
 obtain rfl := B _ (oi h).symm
 replace h := i
 replace h := C1 h
 refine Cu [0] I ?_
 obtain rfl := oi h
 exact sO ⟨.inr I, [_, _], [], ⟨⟨0, _, _, _, _, _, _, _, I5⟩, I, J⟩, Cm, I2⟩
 intro ag h
 refine sL ?_
 subst ac
 refine Ke (pd 11 0 []) [1] [_] [.o 2 0, .x 5 g.1 (rI g.2)] I I ⟨⟨H, Ae K⟩, I, J⟩ (Ar h I ?_ ?_)
 intro ah h
 refine sN (sH (An 3 [.o 2 1] I J1 (sT (Au (l := [.V 2, .V (a : Int), .V b.At]) Dd I) I (sJ [0] I (A3 0 0 0 [[.V 2, .V (a : Int), .V b.At]] I (Ag 1 I (sI ?_)))))))
 obtain rfl := G _ (oi h).symm
 replace h := n
 replace h := C1 h
 obtain rfl := B _ (oi h).symm
 replace h := i
 replace h := C1 h
 refine Cu [0] I ?_
 obtain rfl := oi h
 exact sO ⟨.inr I, [_, _], [], ⟨⟨0, _, _, _, _, _, _, _, I5⟩, I, J⟩, Cm, I2⟩
 intro ah h
 refine sL (sH (An 2 [.k 0 (f + 1 : Nat)] I ⟨A0 F W, J⟩ ?_))
 obtain rfl := oi h
 exact sI ⟨_, _, _, I, I2, iR, [0], I, by decide⟩
 rintro E s ob ⟨rfl, rfl⟩ he
 subst he
 have h := C6 n
 have ai := Co j.length
 refine Ah I (Aa fun aw ax => Bu I ai (sQ ?_))
 exact lg ⟨(), h, I2⟩ [0]
 rintro s ob ⟨D, h, rfl, rfl⟩
 refine sH (An 2 [.k 0 (a + 1 : Nat)] I ⟨A0 A O, J⟩ ?_)
 obtain rfl := oi h
 exact sI ⟨_, _, _, I, I2, J6, [0], I, by decide⟩
 rintro y s ob ⟨rfl, rfl⟩ he
 subst he
 have h := C6 i
 have aj := Co d.Segments.length
 refine Ah I (Aa fun ay az => Bu I aj (sQ ?_))
 exact lg ⟨(), h, I2⟩ [0]
 rintro s ob ⟨w, h, rfl, rfl⟩
 refine sN (sH (sT (Au (l := W1) Dd I) I (sJ [0] I (A3 0 0 0 [W1] I (Ag 1 I (sI ?_))))))
 obtain rfl := oi h
 exact sO ⟨.inr I, [_, _], [], ⟨⟨0, _, _, _, _, _, _, _, I5⟩, I, J⟩, Cm, I2⟩
theorem gD (e : Nw) (t : Plan) (u : Pressures) (r : Fault × Bool) (h : Gq e t u = some r) : ACalls Aj 57 [.eptr (Ab e), .eptr (Am t), .eptr (A8 u)] [] (fun x new => x = .tup [.agg (Cq r.1), .v (.bool r.2)] ∧ new = []) := by
 refine Ad Tryz.func57 I I I fun C hC => ?_
 unfold Gq at h
 refine Aa fun Z F => sH (sJ [] I (sS W1 3 fun f => Ag 1 I (sI ?_)))
 subst F
 refine Ai (fun s ob => ∃ (w : Unit), Gq.J1 w = some r ∧ s = [] ∧ ob = [O6 f [W1]]) [(3, _)] J1 ?_ ?_
 refine Bh [.l 2 (e.Stations.length : Int)] I ⟨Ay, J⟩ (sM (Bz 8 I fun G => ?_))
 obtain ⟨aa, H, y⟩ := Ac h
 clear h
 refine Bx H [(1, _), (2, _), (3, _), (8, _), (9, _)] J5 (fun (a : Nat) (A : Unit) s ob => s = [(10, .V (a : Int))] ∧ ob = [O6 f [W1]]) ⟨I, I⟩ ⟨I, J⟩ ⟨[0], I, by decide⟩ ?_ ?_
 rintro a g A K s ob M B ⟨rfl, rfl⟩ h N
 unfold Gq.B2 at h
 have O := Cn B
 refine Ah I (Aa fun ab P => Bs I O (sL ?_))
 subst P
 refine sN (sM (Aa fun ac Q => sH (An 3 [.x 1 a (Ba g)] I ⟨⟨I, Ae M⟩, J⟩ (sJ [] I (sS W5 5 fun ad => Ag 1 I (sJ [1] I (A3 1 0 0 [Ba g] I (sI ?_))))))))
 subst Q
 refine Ai (fun s ob => ∃ (i : Bool), Gq.J3 a i = some K ∧ s = [(39, .v (.bool i))] ∧ ob = [O6 f [W1]]) [(1, _), (2, _), (3, _), (5, _), (8, _), (9, _), (10, _)] J7 ?_ ?_
 obtain ⟨b, ⟨D, E⟩, h⟩ := A5 h
 rcases bt (b.2) with c | c
 replace h := Bq c h
 obtain ⟨j, ⟨R, S⟩, h⟩ := A5 h
 refine By (pd 25 0 []) [1] [_] I (B8 6 [.x 3 b.1 (rB b.2)] I ⟨⟨D, Ae E⟩, J⟩ (A4 20 I c (B8 8 [.o 3 0, .x 4 j.1 (rB j.2)] I ⟨⟨R, Ae S⟩, I, J⟩ ?_)))
 rcases bt (j.2) with d | d
 replace h := Bq d h
 obtain ⟨n, ⟨U, W⟩, h⟩ := A5 h
 refine A4 28 I d (B8 11 [.o 3 0, .x 4 n.1 (Aq n.2), .o 8 0] I ⟨I, ⟨U, Ae W⟩, I, J⟩ (Ap (sI ?_)))
 exact lg ⟨decide (n.2.Low < g.Suction), h, I2⟩ [0]
 replace h := Br d h
 refine A4 28 I d (Bg 11 I (Ap (sI ?_)))
 exact lg ⟨false, h, I2⟩ [0]
 replace h := Br c h
 refine By (pd 25 0 []) [] [] I (B8 6 [.x 3 b.1 (rB b.2)] I ⟨⟨D, Ae E⟩, J⟩ (A4 20 I c (Bg 19 I (Ap (sI ?_)))))
 exact lg ⟨false, h, I2⟩ [0]
 rintro s ob ⟨i, h, rfl, rfl⟩
 refine Ar h I ?_ ?_
 intro X h
 refine sN (sH (Ag 1 I (sT (Au (l := [.V 3, .V (a : Int), .V 0]) Dd I) I (sJ [0] I (A3 0 0 0 [[.V 3, .V (a : Int), .V 0]] I (Ag 1 I (sI ?_)))))))
 obtain rfl := N _ (oi h).symm
 replace h := y
 replace h := C1 h
 obtain rfl := oi h
 exact sO ⟨.inr I, [_, _], [], ⟨⟨0, _, _, _, _, _, _, _, I5⟩, I, J⟩, Cm, I2⟩
 intro X h
 refine sL (sH (An 2 [.k 0 (a + 1 : Nat)] I ⟨A0 B G, J⟩ ?_))
 obtain rfl := oi h
 exact sI ⟨_, _, _, I, I2, J6, [0], I, by decide⟩
 rintro A s ob ⟨rfl, rfl⟩ he
 subst he
 have h := C6 y
 have Y := Co e.Stations.length
 refine Ah I (Aa fun ae af => Bu I Y (sQ ?_))
 exact lg ⟨(), h, I2⟩ [0]
 rintro s ob ⟨w, h, rfl, rfl⟩
 refine sN (sH (sT (Au (l := W1) Dd I) I (sJ [0] I (A3 0 0 0 [W1] I (Ag 1 I (sI ?_))))))
 obtain rfl := oi h
 exact sO ⟨.inr I, [_, _], [], ⟨⟨0, _, _, _, _, _, _, _, I5⟩, I, J⟩, Cm, I2⟩
theorem Hp (a : Nw) (b : Pressures) (d : Plan) (e : Li) (r : Fault × Bool) (h : Fk a b d e = some r) : ACalls Aj 26 [.agg (Ab a), .agg (A8 b), .agg (Am d), Q0 e] [] (fun x new => x = .tup [.agg (Cq r.1), .v (.bool r.2)] ∧ new = []) := by
 refine Ad Tryz.func26 I I I fun C hC => ?_
 refine Aa fun M n => sH (sJ [] I (Bo (Ab a) 6 fun N => sJ [] I (Bo (A8 b) 3 fun O => sJ [] I (Bo (Am d) 3 fun P => sJ [] I (Bo [Q0 e] 1 fun Q => sJ [] I (sS W1 3 fun f => Ag 1 I (sI ?_)))))))
 subst n
 refine AW.scope (Aa fun R t => sN ?_)
 obtain ⟨S, u, h⟩ := Ac h
 refine sH (An 4 [.o 0 0, .o 1 1, .o 2 2, .o 3 3] I J4 (Cc (fU a b d e _ u) (Ag 1 I (sI (Ar h I ?_ ?_)))))
 intro w h
 refine sN (sH (sT (Au (l := W1) Dd I) I (sJ [4] I (A3 4 0 0 [W1] I (Ag 1 I (sI (sP (Ghost.pick [4] (K := [O6 f [W1]]) I (by decide)) ?_)))))))
 obtain rfl := oi h
 exact sO ⟨.inr I, [_, _], [], ⟨⟨0, _, _, _, _, _, _, _, I5⟩, I, J⟩, Cm, I2⟩
 intro w h
 refine sL ?_
 subst t
 obtain ⟨g, A, h⟩ := Ac h
 refine Aa fun U B => sH (sT (tD I I) I (Ag 1 I (sI ?_)))
 subst B
 refine Aa fun W D => sH (sT (tD I I) I (Ag 1 I (sI ?_)))
 subst D
 refine Aa fun X E => sH (sJ [] I (sS W1 3 fun i => sI ?_))
 subst E
 refine Ah I (sN (AW.label ?_))
 refine Ai (fun s ob => s = [(13, .v (.bool r.2))] ∧ ob = [O6 f [W1], O6 i [Cq r.1]]) [(8, _), (12, _)] J2 ?_ ?_
 · refine sP (Bk [0, 1, 2, 3] I [(10, .fn 55 [] [.eptr (A8 b), .eptr [Q0 e], .eptr (Ab a)]), (11, .fn 57 [] [.eptr (Ab a), .eptr (Am d), .eptr (A8 b)])] ⟨⟨_, I, .fn (.rest _) (.cons (.box 1 I (.rest _)) (.cons (.box 3 I (.rest _)) (.cons (.box 0 I (.rest _)) (.rest _))))⟩, ⟨_, I, .fn (.rest _) (.cons (.box 0 I (.rest _)) (.cons (.box 2 I (.rest _)) (.cons (.box 1 I (.rest _)) (.rest _))))⟩, J⟩ (.rest _)) ?_
   refine sN (sH (Ag 2 I (sJ [] I (sR 1 [[.fn 55 [] [.eptr (A8 b), .eptr [Q0 e], .eptr (Ab a)]], [.fn 57 [] [.eptr (Ab a), .eptr (Am d), .eptr (A8 b)]]] (An 2 [.l 0 2] I ⟨rfl, J⟩ (sI ?_))))))
   refine sM (Rs (fun m s ob => ∃ (j : Nat) (fl : Fault), m = 2 - j ∧ j ≤ 2 ∧ (j = 0 → Fk.K g a d b = some r) ∧ (j = 1 → Gq a d b = some r) ∧ (j = 2 → r = (fl, false)) ∧ s = [(8, .v (.pointer (some ⟨f, 0, none⟩))), (12, .v (.pointer (some ⟨i, 0, none⟩))), (13, .v (.bool false)), (27, .list 1 [[.fn 55 [] [.eptr (A8 b), .eptr [Q0 e], .eptr (Ab a)]], [.fn 57 [] [.eptr (Ab a), .eptr (Am d), .eptr (A8 b)]]]), (28, .V 2), (29, .V (j : Int))] ∧ ob = [O6 f [W1], O6 i [Cq fl]])
     ⟨0, ⟨0, 0, 0⟩, rfl, by decide, fun _ => h, (fun h => absurd h (by decide)), (fun h => absurd h (by decide)), rfl, rfl⟩ ⟨J6, [0, 1], I, by decide⟩ ?_)
   rintro m s ob ⟨j, fl, rfl, hj, F, G, H, rfl, rfl⟩
   match j, hj with
   | 0, _ =>
     have h := F rfl
     unfold Fk.K at h
     refine Ah I (Aa fun y hy => Bs I (show decide (((0 : Nat) : Int) < 2) = true by decide) (sL ?_))
     subst hy
     refine sN (sM (sN (sH (An 3 [.x 0 0 [.fn 55 [] [.eptr (A8 b), .eptr [Q0 e], .eptr (Ab a)]]] I ⟨⟨rfl, rfl⟩, J⟩ (sI ?_)))))
     refine sN (sH (Ag 1 I (Cc (gR b e a _ A) (Ag 3 I (sJ [1] I (A3 1 0 0 [Cq g.1] I (Ag 1 I (sI ?_))))))))
     refine Ah I ?_
     refine Ar h I ?_ ?_
     · intro hb h
       obtain rfl := oi h
       exact sQ (lg I2 [0, 1])
     · intro hb h
       refine sL ?_
       refine sH (An 2 [.k 0 (1 : Int)] I ⟨rfl, J⟩ (sI ?_))
       exact ⟨1, _, _, by decide, ⟨1, g.1, rfl, by decide, (fun h => absurd h (by decide)), fun _ => h, (fun h => absurd h (by decide)), rfl, rfl⟩, ⟨I, I, by rw [← hb]; exact I, I, I, I, J⟩, [0, 1], I, by decide⟩
   | 1, _ =>
     have h := G rfl
     refine Ah I (Aa fun y hy => Bs I (show decide (((1 : Nat) : Int) < 2) = true by decide) (sL ?_))
     subst hy
     refine sN (sM (sN (sH (An 3 [.x 0 1 [.fn 57 [] [.eptr (Ab a), .eptr (Am d), .eptr (A8 b)]]] I ⟨⟨rfl, rfl⟩, J⟩ (sI ?_)))))
     refine sN (sH (Ag 1 I (Cc (gD a d b _ h) (Ag 3 I (sJ [1] I (A3 1 0 0 [Cq r.1] I (Ag 1 I (sI ?_))))))))
     refine Ah I ?_
     rcases bt r.2 with hb | hb
     · refine Bs I hb (sQ ?_)
       exact lg I2 [0, 1]
     · refine Bu I hb (sL ?_)
       refine sH (An 2 [.k 0 (2 : Int)] I ⟨rfl, J⟩ (sI ?_))
       exact ⟨0, _, _, by decide, ⟨2, r.1, rfl, by decide, (fun h => absurd h (by decide)), (fun h => absurd h (by decide)), fun _ => by rw [← hb], rfl, rfl⟩, ⟨I, I, by rw [← hb]; exact I, I, I, I, J⟩, [0, 1], I, by decide⟩
   | 2, _ =>
     obtain rfl := H rfl
     refine Ah I (Aa fun y hy => Bu I (show decide (((2 : Nat) : Int) < 2) = false by decide) (sQ ?_))
     exact lg I2 [0, 1]
 · rintro s ob ⟨rfl, rfl⟩
   refine sN (sH (An 2 [.o 0 1] I J1 (sJ [0] I (A3 0 0 0 [Cq r.1] I (Ag 1 I (sI ?_))))))
   exact sO ⟨.inr I, [_, _], [], ⟨⟨0, _, _, _, _, _, _, _, I5⟩, I, J⟩, Cm, I2⟩
end Go.Proofs.YtodeekicjiengaaGreatDoor
