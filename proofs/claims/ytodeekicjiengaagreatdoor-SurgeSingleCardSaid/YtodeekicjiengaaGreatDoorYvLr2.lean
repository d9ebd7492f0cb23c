/- Walks that show what functions of the program compute; printed by a program of ours. No condition. -/
import Derived.Test.YtodeekicjiengaaGreatDoorYvLr1
set_option maxRecDepth 100000
namespace Go.Proofs.YtodeekicjiengaaGreatDoor
open Go.Aw
set_option linter.unusedVariables false
set_option linter.unusedSimpArgs false
set_option maxHeartbeats 4000000
theorem gI (a : Sg) (d : Int) (r : Int) (h : Ni a d = some r) : ACalls Aj 69 [.agg (Ak a), .V d] [] (fun x new => x = .V r ∧ new = []) := by
 refine Ad Tryz.func69 I I I fun C hC => ?_
 unfold Ni at h
 refine Aa fun Q u => sH (sJ [] I (Bo (Ak a) 7 fun e => Ag 1 I (sI ?_)))
 subst u
 refine Ah I (Ai (fun s ob => ∃ (f : Int), Ni.J1 f = some r ∧ s = [(5, .V f)] ∧ ob = []) [] J ?_ ?_)
 refine Ah I (sM ?_)
 obtain ⟨R, w, y⟩ := Ac h
 clear h
 refine Cs w [(1, _), (2, _)] J2 (fun (b : Int × Int) s ob => s = [(5, .V b.1), (6, .V b.2)] ∧ ob = [O5 e [Ak a]]) ⟨I, I⟩ ⟨I, I, J⟩ ⟨[0], I, by decide⟩ ?_
 rintro b t s ob ⟨rfl, rfl⟩ h A
 refine Aa fun S B => Bh [.o 2 0, .l 3 (a.Points.length : Int)] I ⟨Ay, I, J⟩ (Ar h I ?_ ?_)
 intro D h
 refine sL ?_
 subst B
 refine Ai (fun s ob => ∃ (g : Int), Ni.J3 b g = some t ∧ s = [(5, .V g)] ∧ ob = [O5 e [Ak a]]) [(1, _), (2, _), (6, _)] J3 ?_ ?_
 refine sM (Ai (fun s ob => ∃ (i : Bool), Ni.J4 a b i = some t ∧ s = [(32, .v (.bool i))] ∧ ob = [O5 e [Ak a]]) [(1, _), (2, _), (5, _), (6, _)] J4 ?_ ?_)
 obtain ⟨j, ⟨E, F⟩, h⟩ := A5 h
 refine sH (An 10 [.o 2 0, .x 5 j.1 (Bi j.2)] I ⟨⟨E, Ae F⟩, I, J⟩ ?_)
 rcases bt (decide (d ≥ j.2.At)) with c | c
 replace h := Bq c h
 obtain ⟨k, ⟨G, H⟩, h⟩ := A5 h
 refine Af 23 I c (An 9 [.o 2 0, .x 4 k.1 (Bi k.2)] I ⟨⟨G, Ae H⟩, I, J⟩ (sI ?_))
 exact lg ⟨decide (d ≤ k.2.At), h, I2⟩ [0]
 replace h := Br c h
 refine Af 23 I c (Ag 9 I (sI ?_))
 exact lg ⟨false, h, I2⟩ [0]
 rintro s ob ⟨i, h, rfl, rfl⟩
 refine Ar h I ?_ ?_
 intro K h
 obtain ⟨n, ⟨M, N⟩, h⟩ := A5 h
 obtain ⟨p, ⟨O, P⟩, h⟩ := A5 h
 refine By (pd 16 0 []) [0] [_] I (B8 14 [.o 2 0, .x 5 n.1 (Bi n.2), .o 9 0, .x 11 p.1 (Bi p.2)] I ⟨⟨O, Ae P⟩, I, ⟨M, Ae N⟩, I, J⟩ (sY I (X0 I I I) I (Bg 1 I (Ap (sI ?_)))))
 exact lg ⟨(min (min b.1 n.2.Limit) p.2.Limit), h, I2⟩ [0]
 intro K h
 refine sL ?_
 exact lg ⟨b.1, h, I2⟩ [0]
 rintro s ob ⟨g, h, rfl, rfl⟩
 refine sH (Ag 3 I ?_)
 obtain rfl := oi h
 exact sI ⟨_, _, _, I, I2, J4, [0], I, by decide⟩
 intro D h
 obtain rfl := A _ (oi h).symm
 replace h := y
 refine sQ ?_
 exact lg ⟨b.1, h, I2⟩ []
 rintro s ob ⟨f, h, rfl, rfl⟩
 refine Ah I ?_
 obtain rfl := oi h
 exact sO pr
theorem Jv (a : Bounds) (r : Bool) (h : Kv a = r) : ACalls Aj 114 [.agg (Aq a)] [] (fun x new => x = .v (.bool r) ∧ new = []) := by
 refine Ad Tryz.func114 I I I fun C hC => ?_
 unfold Kv at h
 refine Aa fun f e => sH (sJ [] I (Bo (Aq a) 2 fun g => Ag 1 I (sI ?_)))
 subst e
 refine Ai (fun s ob => s = [(2, .v (.bool (decide (a.Low < (-1152921504606846976)) || (decide (a.Low > 1152921504606846976) || (decide (a.High < (-1152921504606846976)) || decide (a.High > 1152921504606846976))))))] ∧ ob = []) [] J ?_ ?_
 refine sH (An 4 [.o 1 0] I J1 ?_)
 rcases bt (decide (a.Low < (-1152921504606846976))) with b | b
 refine Af 6 I b (Ag 15 I (sI ?_))
 exact lf I2 ⟨(Dn (by simp only [b, bz])), J⟩ [] I
 refine Af 6 I b (An 5 [.o 1 0] I J1 ?_)
 rcases bt (decide (a.Low > 1152921504606846976)) with c | c
 refine Af 11 I c (Ag 10 I (sI ?_))
 exact lf I2 ⟨(Dn (by simp only [b, c, bz])), J⟩ [] I
 refine Af 11 I c (An 5 [.o 1 0] I J1 ?_)
 rcases bt (decide (a.High < (-1152921504606846976))) with d | d
 refine Af 16 I d (Ag 5 I (sI ?_))
 exact lf I2 ⟨(Dn (by simp only [b, c, d, bz])), J⟩ [] I
 refine Af 16 I d (An 5 [.o 1 0] I J1 (sI ?_))
 exact lf I2 ⟨(Dn (by simp only [b, c, d, bz])), J⟩ [] I
 rintro s ob ⟨rfl, rfl⟩
 obtain rfl := h
 exact sO pr
theorem fH (a : Nw) (b : Pressures) (j : Plan) (g : Li) (r : Bool) (h : M8 a b j g = some r) : ACalls Aj 68 [.agg (Ab a), .agg (A8 b), .agg (Am j), Q0 g] [] (fun x new => x = .v (.bool r) ∧ new = []) := by
 refine Ad Tryz.func68 I I I fun C hC => ?_
 unfold M8 at h
 refine Aa fun y1 aj => sH (sJ [] I (Bo (Ab a) 6 fun e => sJ [] I (Bo (A8 b) 3 fun f => sJ [] I (Bo (Am j) 3 fun b4 => Ag 1 I (sI ?_)))))
 subst aj
 refine Aa fun y5 ak => Ai (fun s ob => ∃ (K : Bool), M8.J1 a b g K = some r ∧ s = [(60, .v (.bool K))] ∧ ob = [O0 e [Ab a], O3 f [A8 b]]) [(3, _), (4, _), (5, _)] J3 ?_ ?_
 obtain ⟨al, am, h⟩ := Ac h
 refine sH (An 1 [.o 0 0] I J1 (Cc (Jy _ _ am) (Ag 2 I ?_)))
 rcases bt ((al != 0)) with n | n
 replace h := Bq n h
 refine Af 17 I n (Ag 43 I (sI ?_))
 exact lg ⟨true, h, I2⟩ [0, 1]
 replace h := Br n h
 refine Af 17 I n (An 9 [.o 1 2, .l 2 (j.Pumps.length : Int), .o 4 0, .l 5 (a.Stations.length : Int)] I ⟨Ay, I, Ay, I, J⟩ ?_)
 rcases bt (((j.Pumps.length : Int) != (a.Stations.length : Int))) with p | p
 replace h := Bq p h
 refine Af 26 I p (Ag 34 I (sI ?_))
 exact lg ⟨true, h, I2⟩ [0, 1]
 replace h := Br p h
 refine Af 26 I p (An 9 [.o 1 1, .l 2 (b.Known.length : Int), .o 4 0, .l 5 (a.Nodes.length : Int)] I ⟨Ay, I, Ay, I, J⟩ ?_)
 rcases bt (((b.Known.length : Int) != (a.Nodes.length : Int))) with t | t
 replace h := Bq t h
 refine Af 35 I t (Ag 25 I (sI ?_))
 exact lg ⟨true, h, I2⟩ [0, 1]
 replace h := Br t h
 refine Af 35 I t (An 9 [.o 1 1, .l 2 (b.Nodes.length : Int), .o 4 0, .l 5 (a.Nodes.length : Int)] I ⟨Ay, I, Ay, I, J⟩ ?_)
 rcases bt (((b.Nodes.length : Int) != (a.Nodes.length : Int))) with u | u
 replace h := Bq u h
 refine Af 44 I u (Ag 16 I (sI ?_))
 exact lg ⟨true, h, I2⟩ [0, 1]
 replace h := Br u h
 refine Af 44 I u (An 9 [.o 1 1, .l 2 (b.Segments.length : Int), .o 4 0, .l 5 (a.Segments.length : Int)] I ⟨Ay, I, Ay, I, J⟩ ?_)
 rcases bt (((b.Segments.length : Int) != (a.Segments.length : Int))) with w | w
 replace h := Bq w h
 refine Af 53 I w (Ag 7 I (sI ?_))
 exact lg ⟨true, h, I2⟩ [0, 1]
 replace h := Br w h
 refine Af 53 I w (An 7 [.l 1 (g.length : Int), .o 3 0, .l 4 (a.Segments.length : Int)] I ⟨Ay, I, Ay, J⟩ (sI ?_))
 exact lg ⟨((g.length : Int) != (a.Segments.length : Int)), h, I2⟩ [0, 1]
 rintro s ob ⟨K, h, rfl, rfl⟩
 refine Ar h I ?_ ?_
 intro an h
 refine Ah I (sP g0 ?_)
 obtain rfl := oi h
 exact sO pr
 intro an h
 refine sL ?_
 subst ak
 refine Ai (fun s ob => ∃ (P : Unit), M8.J2 a b P = some r ∧ s = [] ∧ ob = [O0 e [Ab a], O3 f [A8 b]]) [(4, _), (5, _)] J2 ?_ ?_
 refine Bh [.l 1 (g.length : Int)] I ⟨Ay, J⟩ (sM (Bz 61 I fun ao => ?_))
 obtain ⟨bs, ap, Q⟩ := Ac h
 clear h
 refine Bx ap [(3, _), (4, _), (5, _), (62, _)] J4 (fun (A : Nat) (R : Unit) s ob => s = [(63, .V (A : Int))] ∧ ob = [O0 e [Ab a], O3 f [A8 b]]) ⟨I, I⟩ ⟨I, J⟩ ⟨[0, 1], I, by decide⟩ ?_ ?_
 rintro A B R bu s ob S U ⟨rfl, rfl⟩ h aq
 unfold M8.B10 at h
 have ar := Cn U
 refine Ah I (Aa fun bv au => Bs I ar (sL ?_))
 subst au
 refine sN (sM (Ah I (Ec 77 (decide (B < 0) || decide (B > 1125899906842624)) ?_ ?_)))
 refine sH (An 6 [.x 2 A (rI B)] I ⟨⟨I, Ae S⟩, J⟩ ?_)
 rcases bt (decide (B < 0)) with D | D
 refine Af 71 I D (Ag 6 I (sI ?_))
 exact jf (by simp only [D, bz]) I I I2
 refine Af 71 I D (An 6 [.x 2 A (rI B)] I ⟨⟨I, Ae S⟩, J⟩ (sI ?_))
 exact jf (by simp only [D, bz]) I I I2
 refine Ar h I ?_ ?_
 intro av h
 refine Ah I ?_
 obtain rfl := aq _ (oi h).symm
 replace h := Q
 replace h := C1 h
 refine sP g0 ?_
 obtain rfl := oi h
 exact sO pr
 intro av h
 refine sL (sH (An 2 [.k 0 (A + 1 : Nat)] I ⟨A0 U ao, J⟩ ?_))
 obtain rfl := oi h
 exact sI ⟨_, _, _, I, I2, J5, [0, 1], I, by decide⟩
 rintro R s ob ⟨rfl, rfl⟩ he
 subst he
 have h := C6 Q
 have aw := Co g.length
 refine Ah I (Aa fun bw bx => Bu I aw (sQ ?_))
 exact lg ⟨(), h, I2⟩ [0, 1]
 rintro s ob ⟨P, h, rfl, rfl⟩
 unfold M8.J2 at h
 refine Ai (fun s ob => ∃ (W : Unit), M8.J3 a b W = some r ∧ s = [] ∧ ob = [O0 e [Ab a], O3 f [A8 b]]) [(4, _), (5, _)] J2 ?_ ?_
 refine Bh [.o 1 1, .l 2 (b.Nodes.length : Int)] I ⟨Ay, I, J⟩ (sM (Bz 80 I fun ax => ?_))
 obtain ⟨b0, ay, X⟩ := Ac h
 clear h
 refine Bx ay [(4, _), (5, _), (81, _)] J3 (fun (F : Nat) (Y : Unit) s ob => s = [(82, .V (F : Int))] ∧ ob = [O0 e [Ab a], O3 f [A8 b]]) ⟨I, I⟩ ⟨I, J⟩ ⟨[0, 1], I, by decide⟩ ?_ ?_
 rintro F Z Y b1 s ob az aa ⟨rfl, rfl⟩ h a0
 have a1 := Cn aa
 refine Ah I (Aa fun b5 a2 => Bs I a1 (sL ?_))
 subst a2
 refine sN (sM (Ah I (sN (sH (An 5 [.o 1 1, .x 3 F (Aq Z)] I ⟨⟨I, Ae az⟩, I, J⟩ (Cc (Jv Z _ I) (sI (Ar h I ?_ ?_))))))))
 intro a3 h
 refine Ah I ?_
 obtain rfl := a0 _ (oi h).symm
 replace h := X
 replace h := C1 h
 refine sP g0 ?_
 obtain rfl := oi h
 exact sO pr
 intro a3 h
 refine sL (sH (An 2 [.k 0 (F + 1 : Nat)] I ⟨A0 aa ax, J⟩ ?_))
 obtain rfl := oi h
 exact sI ⟨_, _, _, I, I2, J4, [0, 1], I, by decide⟩
 rintro Y s ob ⟨rfl, rfl⟩ he
 subst he
 have h := C6 X
 have a4 := Co b.Nodes.length
 refine Ah I (Aa fun b6 b7 => Bu I a4 (sQ ?_))
 exact lg ⟨(), h, I2⟩ [0, 1]
 rintro s ob ⟨W, h, rfl, rfl⟩
 unfold M8.J3 at h
 refine Ai (fun s ob => ∃ (ab : Unit), M8.J4 ab = some r ∧ s = [] ∧ ob = []) [] J ?_ ?_
 refine Bh [.o 1 1, .l 2 (b.Segments.length : Int)] I ⟨Ay, I, J⟩ (sM (Bz 93 I fun a5 => ?_))
 obtain ⟨b8, a6, ac⟩ := Ac h
 clear h
 refine Bx a6 [(4, _), (5, _), (94, _)] J3 (fun (G : Nat) (ad : Unit) s ob => s = [(95, .V (G : Int))] ∧ ob = [O0 e [Ab a], O3 f [A8 b]]) ⟨I, I⟩ ⟨I, J⟩ ⟨[0, 1], I, by decide⟩ ?_ ?_
 rintro G M ad a7 s ob a8 ae ⟨rfl, rfl⟩ h a9
 unfold M8.B5 at h
 have ba := Cn ae
 refine Ah I (Aa fun b9 bb => Bs I ba (sL ?_))
 subst bb
 refine Ai (fun s ob => ∃ (af : Unit), M8.J6 af = some a7 ∧ s = [] ∧ ob = [O0 e [Ab a], O3 f [A8 b]]) [(4, _), (5, _), (94, _), (95, _)] J4 ?_ ?_
 refine sM (Ah I (Bh [.o 1 1, .x 3 G ((rL 3 Ao) M), .l 5 (M.length : Int)] I ⟨Ay, ⟨I, Ae a8⟩, I, J⟩ (sM (Bz 102 I fun bc => ?_))))
 obtain ⟨ca, bd, ag⟩ := Ac h
 clear h
 refine Bx bd [(4, _), (5, _), (11, _), (94, _), (95, _), (102, _), (103, _)] J7 (fun (H : Nat) (ah : Unit) s ob => s = [(104, .V (H : Int))] ∧ ob = [O0 e [Ab a], O3 f [A8 b]]) ⟨I, I⟩ ⟨I, J⟩ ⟨[0, 1], I, by decide⟩ ?_ ?_
 rintro H d ah be s ob bf ai ⟨rfl, rfl⟩ h bg
 unfold M8.B7 at h
 have bh := Cn ai
 refine Ah I (Aa fun cb bi => Bs I bh (sL ?_))
 subst bi
 refine sN (sM (Aa fun cc bj => sH (An 2 [.x 0 H (Ao d)] I ⟨⟨I, Ae bf⟩, J⟩ (sJ [] I (sS W1 3 fun cd => sJ [2] I (A3 2 0 0 [Ao d] I (sI ?_)))))))
 subst bj
 refine Ai (fun s ob => ∃ (N : Bool), M8.J8 N = some be ∧ s = [(126, .v (.bool N))] ∧ ob = [O0 e [Ab a], O3 f [A8 b]]) [(4, _), (5, _), (11, _), (94, _), (95, _), (102, _), (103, _), (104, _)] J8 ?_ ?_
 rcases bt ((Kv d.Bounds)) with i | i
 replace h := Bq i h
 refine By (pd 19 0 [2]) [2] [_] I (Bg 1 I (AP.o I (C2 0 0 1 I I I I I (y := .agg (Aq d.Bounds)) I) I (Dp I (Jv d.Bounds _ I) (Bg 1 I (A4 111 I i (Bg 15 I (Ap (sI ?_))))))))
 exact lg ⟨true, h, I2⟩ [0, 1]
 replace h := Br i h
 rcases bt (decide (d.At < 0)) with E | E
 replace h := Bq E h
 refine By (pd 19 0 [2]) [2] [_] I (Bg 1 I (AP.o I (C2 0 0 1 I I I I I (y := .agg (Aq d.Bounds)) I) I (Dp I (Jv d.Bounds _ I) (Bg 1 I (A4 111 I i (B8 5 [.o 1 0] I J1 (A4 116 I E (Bg 10 I (Ap (sI ?_))))))))))
 exact lg ⟨true, h, I2⟩ [0, 1]
 replace h := Br E h
 obtain ⟨O, ⟨bk, bl⟩, h⟩ := A5 h
 refine By (pd 19 0 [2]) [2, 0] [_, _] I (Bg 1 I (AP.o I (C2 0 0 1 I I I I I (y := .agg (Aq d.Bounds)) I) I (Dp I (Jv d.Bounds _ I) (Bg 1 I (A4 111 I i (B8 5 [.o 1 0] I J1 (A4 116 I E (B8 10 [.o 1 0, .o 3 1, .x 5 O.1 (Ak O.2)] I ⟨⟨bk, Ae bl⟩, I, I, J⟩ (Ap (sI ?_))))))))))
 exact lg ⟨decide (d.At > O.2.Capacity), h, I2⟩ [0, 1]
 rintro s ob ⟨N, h, rfl, rfl⟩
 refine Ar h I ?_ ?_
 intro bm h
 refine Ah I ?_
 obtain rfl := bg _ (oi h).symm
 replace h := ag
 replace h := C1 h
 obtain rfl := a9 _ (oi h).symm
 replace h := ac
 replace h := C1 h
 refine sP g0 ?_
 obtain rfl := oi h
 exact sO pr
 intro bm h
 refine sL (sH (An 2 [.k 0 (H + 1 : Nat)] I ⟨A0 ai bc, J⟩ ?_))
 obtain rfl := oi h
 exact sI ⟨_, _, _, I, I2, J8, [0, 1], I, by decide⟩
 rintro ah s ob ⟨rfl, rfl⟩ he
 subst he
 have h := C6 ag
 have bn := Co M.length
 refine Ah I (Aa fun ce cf => Bu I bn (sQ ?_))
 exact lg ⟨(), h, I2⟩ [0, 1]
 rintro s ob ⟨af, h, rfl, rfl⟩
 refine sH (An 2 [.k 0 (G + 1 : Nat)] I ⟨A0 ae a5, J⟩ ?_)
 obtain rfl := oi h
 exact sI ⟨_, _, _, I, I2, J4, [0, 1], I, by decide⟩
 rintro ad s ob ⟨rfl, rfl⟩ he
 subst he
 have h := C6 ac
 have bo := Co b.Segments.length
 refine Ah I (Aa fun cg ci => Bu I bo (sQ ?_))
 exact lg ⟨(), h, I2⟩ []
 rintro s ob ⟨ab, h, rfl, rfl⟩
 refine Ah I ?_
 obtain rfl := oi h
 exact sO pr
theorem N6 (a : Nw) (b : Pressures) (d : Plan) (P : Li) (r : Fault × Bool) (h : Ux a b d P = some r) : ACalls Aj 30 [.agg (Ab a), .agg (A8 b), .agg (Am d), Q0 P] [] (fun x new => x = .tup [.agg (Cq r.1), .v (.bool r.2)] ∧ new = []) := by
 refine Ad Tryz.func30 I I I fun C hC => ?_
 refine Aa fun y1 ai => sH (sJ [] I (Bo (Ab a) 6 fun y => sJ [] I (Bo (A8 b) 3 fun i => sJ [] I (Bo (Am d) 3 fun j => sJ [] I (sS W1 3 fun f => Ag 1 I (sI ?_))))))
 subst ai
 refine Aa fun y6 aj => sN ?_
 obtain ⟨r7, ak, h⟩ := Ac h
 refine sH (An 4 [.o 0 0, .o 1 1, .o 2 2] I J3 (Cc (fH _ _ _ _ _ ak) (Ag 1 I (sI (Ar h I ?_ ?_)))))
 intro al h
 refine sN (sH (sT (Au (l := W1) Dd I) I (sJ [3] I (A3 3 0 0 [W1] I (Ag 1 I (sI (Cu [3] I ?_)))))))
 obtain rfl := oi h
 exact sO ⟨.inr I, [_, _], [], ⟨⟨0, _, _, _, _, _, _, _, I5⟩, I, J⟩, Cm, I2⟩
 intro al h
 refine sL ?_
 subst aj
 refine Ai (fun s ob => ∃ (Q : Unit), Ux.J1 a b d Q = some r ∧ s = [] ∧ ob = [O0 y [Ab a], O3 i [A8 b], O1 j [Am d], O6 f [W1]]) [(4, _), (5, _), (6, _), (8, _)] J4 ?_ ?_
 refine Bh [.o 1 0, .l 2 (a.Segments.length : Int)] I ⟨Ay, I, J⟩ (sM (Bz 24 I fun am => ?_))
 obtain ⟨bs, an, E⟩ := Ac h
 clear h
 refine Bx an [(3, _), (4, _), (5, _), (6, _), (8, _), (24, _), (25, _)] J7 (fun (e : Nat) (R : Unit) s ob => s = [(26, .V (e : Int))] ∧ ob = [O0 y [Ab a], O3 i [A8 b], O1 j [Am d], O6 f [W1]]) ⟨I, I⟩ ⟨I, J⟩ ⟨[0, 1, 2, 3], I, by decide⟩ ?_ ?_
 rintro e F R ao s ob ap S ⟨rfl, rfl⟩ h U
 unfold Ux.B5 at h
 have aq := Cn S
 refine Ah I (Aa fun bu ar => Bs I aq (sL ?_))
 subst ar
 refine Ai (fun s ob => ∃ (W : Unit), Ux.J6 W = some ao ∧ s = [] ∧ ob = [O0 y [Ab a], O3 i [A8 b], O1 j [Am d], O6 f [W1]]) [(3, _), (4, _), (5, _), (6, _), (8, _), (24, _), (25, _), (26, _)] J8 ?_ ?_
 refine sM (Aa fun bv au => sH (An 3 [.x 1 e (Ak F)] I ⟨⟨I, Ae ap⟩, J⟩ (sJ [] I (sS W2 7 fun av => Ag 1 I (sJ [4] I (A3 4 0 0 [Ak F] I (sI ?_)))))))
 subst au
 refine Aa fun bw aw => ?_
 obtain ⟨A, ⟨ax, ay⟩, h⟩ := A5 h
 refine Ey [.o 1 1, .x 3 A.1 ((rL 3 Ao) A.2), .l 5 (A.2.length : Int)] I ⟨Ay, ⟨ax, Ae ay⟩, I, J⟩ ?_
 subst aw
 refine sM (Bz 35 I fun az => ?_)
 obtain ⟨bx, a0, G⟩ := Ac h
 clear h
 refine Bx a0 [(3, _), (4, _), (5, _), (6, _), (8, _), (10, _), (11, _), (24, _), (25, _), (26, _), (35, _), (36, _)] qT (fun (B : Nat) (X : Unit) s ob => s = [(37, .V (B : Int))] ∧ ob = [O0 y [Ab a], O3 i [A8 b], O1 j [Am d], O6 f [W1], O5 av [Ak F]]) ⟨I, I⟩ ⟨I, J⟩ ⟨[0, 1, 2, 3, 4], I, by decide⟩ ?_ ?_
 rintro B n X bz s ob a1 Y ⟨rfl, rfl⟩ h Z
 have a2 := Cn Y
 refine Ah I (Aa fun b0 a3 => Bs I a2 (sL ?_))
 subst a3
 refine sN (sM (Aa fun b1 a4 => sH (An 2 [.x 0 B (Ao n)] I ⟨⟨I, Ae a1⟩, J⟩ (sJ [] I (sS W1 3 fun b6 => sJ [5] I (A3 5 0 0 [Ao n] I (sI ?_)))))))
 subst a4
 refine Aa fun b7 a5 => sN ?_
 obtain ⟨D, ⟨aa, ab⟩, h⟩ := A5 h
 obtain ⟨b8, a6, h⟩ := Ac h
 refine By (pd 13 0 [11]) [5, 4] [_, _] I (B8 11 [.o 2 0, .x 5 D.1 (rI D.2), .o 8 1, .o 10 0] I ⟨I, I, ⟨aa, Ae ab⟩, I, J⟩ (Dp I (gI _ _ _ a6) (Bg 1 I (Ap (sI (Ar h I ?_ ?_))))))
 intro a7 h
 refine sN (sH (An 3 [.o 2 5] I J1 (sT (Au (l := [.V 1, .V (e : Int), .V n.At]) Dd I) I (sJ [3] I (A3 3 0 0 [[.V 1, .V (e : Int), .V n.At]] I (Ag 1 I (sI ?_)))))))
 obtain rfl := Z _ (oi h).symm
 replace h := G
 replace h := C1 h
 obtain rfl := U _ (oi h).symm
 replace h := E
 replace h := C1 h
 refine Cu [3] I ?_
 obtain rfl := oi h
 exact sO ⟨.inr I, [_, _], [], ⟨⟨0, _, _, _, _, _, _, _, I5⟩, I, J⟩, Cm, I2⟩
 intro a7 h
 refine sL ?_
 subst a5
 refine Ke (pd 11 0 []) [5, 0] [_, _] [.o 2 0, .x 5 D.1 (rI D.2), .o 9 1] I I ⟨I, ⟨aa, Ae ab⟩, I, J⟩ (Ar h I ?_ ?_)
 intro a8 h
 refine sN (sH (An 3 [.o 2 5] I J1 (sT (Au (l := [.V 2, .V (e : Int), .V n.At]) Dd I) I (sJ [3] I (A3 3 0 0 [[.V 2, .V (e : Int), .V n.At]] I (Ag 1 I (sI ?_)))))))
 obtain rfl := Z _ (oi h).symm
 replace h := G
 replace h := C1 h
 obtain rfl := U _ (oi h).symm
 replace h := E
 replace h := C1 h
 refine Cu [3] I ?_
 obtain rfl := oi h
 exact sO ⟨.inr I, [_, _], [], ⟨⟨0, _, _, _, _, _, _, _, I5⟩, I, J⟩, Cm, I2⟩
 intro a8 h
 refine sL (sH (An 2 [.k 0 (B + 1 : Nat)] I ⟨A0 Y az, J⟩ ?_))
 obtain rfl := oi h
 exact sI ⟨_, _, _, I, I2, qQ, [0, 1, 2, 3, 4], I, by decide⟩
 rintro X s ob ⟨rfl, rfl⟩ he
 subst he
 have h := C6 G
 have a9 := Co A.2.length
 refine Ah I (Aa fun b9 ca => Bu I a9 (sQ ?_))
 exact lg ⟨(), h, I2⟩ [0, 1, 2, 3]
 rintro s ob ⟨W, h, rfl, rfl⟩
 refine sH (An 2 [.k 0 (e + 1 : Nat)] I ⟨A0 S am, J⟩ ?_)
 obtain rfl := oi h
 exact sI ⟨_, _, _, I, I2, J8, [0, 1, 2, 3], I, by decide⟩
 rintro R s ob ⟨rfl, rfl⟩ he
 subst he
 have h := C6 E
 have ba := Co a.Segments.length
 refine Ah I (Aa fun cb cc => Bu I ba (sQ ?_))
 exact lg ⟨(), h, I2⟩ [0, 1, 2, 3]
 rintro s ob ⟨Q, h, rfl, rfl⟩
 unfold Ux.J1 at h
 refine Ai (fun s ob => ∃ (ac : Unit), Ux.J2 ac = some r ∧ s = [] ∧ ob = [O6 f [W1]]) [(8, _)] J1 ?_ ?_
 refine Bh [.o 1 0, .l 2 (a.Stations.length : Int)] I ⟨Ay, I, J⟩ (sM (Bz 76 I fun bb => ?_))
 obtain ⟨cd, bc, ad⟩ := Ac h
 clear h
 refine Bx bc [(5, _), (6, _), (8, _), (76, _), (77, _)] J5 (fun (g : Nat) (ae : Unit) s ob => s = [(78, .V (g : Int))] ∧ ob = [O3 i [A8 b], O1 j [Am d], O6 f [W1]]) ⟨I, I⟩ ⟨I, J⟩ ⟨[1, 2, 3], I, by decide⟩ ?_ ?_
 rintro g H ae bd s ob be af ⟨rfl, rfl⟩ h bf
 unfold Ux.B3 at h
 have bg := Cn af
 refine Ah I (Aa fun ce bh => Bs I bg (sL ?_))
 subst bh
 refine sN (sM (Aa fun cf bi => sH (An 3 [.x 1 g (Ba H)] I ⟨⟨I, Ae be⟩, J⟩ (sJ [] I (sS W5 5 fun cg => Ag 1 I (sJ [3] I (A3 3 0 0 [Ba H] I (sI ?_))))))))
 subst bi
 refine Ai (fun s ob => ∃ (K : Bool), Ux.J4 g K = some bd ∧ s = [(107, .v (.bool K))] ∧ ob = [O3 i [A8 b], O1 j [Am d], O6 f [W1]]) [(5, _), (6, _), (8, _), (14, _), (76, _), (77, _), (78, _)] J7 ?_ ?_
 obtain ⟨t, ⟨ag, ah⟩, h⟩ := A5 h
 rcases bt (t.2) with u | u
 replace h := Bq u h
 obtain ⟨M, ⟨bj, bk⟩, h⟩ := A5 h
 refine By (pd 25 0 []) [1, 0, 3] [_, _, _] I (B8 6 [.o 1 0, .x 3 t.1 (rB t.2)] I ⟨⟨ag, Ae ah⟩, I, J⟩ (A4 88 I u (B8 8 [.o 1 1, .o 3 2, .x 4 M.1 (rB M.2)] I ⟨⟨bj, Ae bk⟩, I, I, J⟩ ?_)))
 rcases bt (M.2) with w | w
 replace h := Bq w h
 obtain ⟨O, ⟨bl, bm⟩, h⟩ := A5 h
 refine A4 96 I w (B8 11 [.o 1 1, .o 3 2, .x 4 O.1 (Aq O.2), .o 8 2] I ⟨I, ⟨bl, Ae bm⟩, I, I, J⟩ (Ap (sI ?_)))
 exact lg ⟨decide (O.2.Low < H.Suction), h, I2⟩ [0, 1, 2]
 replace h := Br w h
 refine A4 96 I w (Bg 11 I (Ap (sI ?_)))
 exact lg ⟨false, h, I2⟩ [0, 1, 2]
 replace h := Br u h
 refine By (pd 25 0 []) [1] [_] I (B8 6 [.o 1 0, .x 3 t.1 (rB t.2)] I ⟨⟨ag, Ae ah⟩, I, J⟩ (A4 88 I u (Bg 19 I (Ap (sI ?_)))))
 exact lg ⟨false, h, I2⟩ [0, 1, 2]
 rintro s ob ⟨K, h, rfl, rfl⟩
 refine Ar h I ?_ ?_
 intro bn h
 refine sN (sH (Ag 1 I (sT (Au (l := [.V 3, .V (g : Int), .V 0]) Dd I) I (sJ [2] I (A3 2 0 0 [[.V 3, .V (g : Int), .V 0]] I (Ag 1 I (sI ?_)))))))
 obtain rfl := bf _ (oi h).symm
 replace h := ad
 replace h := C1 h
 refine Cu [2] I ?_
 obtain rfl := oi h
 exact sO ⟨.inr I, [_, _], [], ⟨⟨0, _, _, _, _, _, _, _, I5⟩, I, J⟩, Cm, I2⟩
 intro bn h
 refine sL (sH (An 2 [.k 0 (g + 1 : Nat)] I ⟨A0 af bb, J⟩ ?_))
 obtain rfl := oi h
 exact sI ⟨_, _, _, I, I2, J6, [0, 1, 2], I, by decide⟩
 rintro ae s ob ⟨rfl, rfl⟩ he
 subst he
 have h := C6 ad
 have bo := Co a.Stations.length
 refine Ah I (Aa fun ci cj => Bu I bo (sQ ?_))
 exact lg ⟨(), h, I2⟩ [2]
 rintro s ob ⟨ac, h, rfl, rfl⟩
 refine sN (sH (sT (Au (l := W1) Dd I) I (sJ [0] I (A3 0 0 0 [W1] I (Ag 1 I (sI ?_))))))
 obtain rfl := oi h
 exact sO ⟨.inr I, [_, _], [], ⟨⟨0, _, _, _, _, _, _, _, I5⟩, I, J⟩, Cm, I2⟩
theorem gO (d : Nw) (j : List Batch) (k : List Product) (n : List (List Piece)) (e : Plan) (r : Fault × Int) (h : Vp d j k n e = some r) : ACalls Aj 13 [.agg (Ab d), Q3 j, Q2 k, .list 1 (n.map (rL 2 A9)), .agg (Am e)] [] (fun x new => x = .tup [.agg (Cq r.1), .V r.2] ∧ new = []) := by
 refine Ad Tryz.func13 I I I fun C hC => ?_
 refine Aa fun M y => sH (sJ [] I (Bo (Ab d) 6 fun O => sJ [] I (Bo (Am e) 3 fun P => sJ [] I (sS W1 3 fun A => Ag 1 I (sI ?_)))))
 subst y
 refine Aa fun Q B => ?_
 obtain ⟨D, E, h⟩ := Ac h
 refine sH (An 5 [.o 0 0, .o 4 1] I J2 (sJ [] I (Ci I I I (eZ _ _ _ _ _ _ E) dS ?_)))
 rintro _ _ ⟨rfl, rfl⟩
 refine Ag 3 I (sJ [] I (sS W0 3 fun R => sJ [3] I (A3 3 0 0 [A8 D.1] I (Ag 1 I (sI ?_)))))
 subst B
 refine Aa fun S F => Ah I (Ar h I ?_ ?_)
 intro G h
 refine sN (sH (sT (Au (l := W1) Dd I) I (Ag 1 I (sJ [2] I (A3 2 0 0 [W1] I (Ag 1 I (sI (Cu [2] I ?_))))))))
 obtain rfl := oi h
 exact sO ⟨.inr I, [_, _], [], ⟨⟨0, _, _, _, _, _, _, _, I5⟩, I, J⟩, Cm, I2⟩
 intro G h
 refine sL ?_
 subst F
 refine sN (Ai (fun s ob => ∃ (b : Int × Int × Int × Bool) (g : Nat), Vp.J1 b = some r ∧ s = [(14, .v (.pointer (some ⟨g, 0, none⟩))), (15, .v (.bool b.2.2.2))] ∧ ob = [O6 A [W1], O6 g [[.V b.1, .V b.2.1, .V b.2.2.1]]]) [(10, _)] J1 ?_ ?_)
 obtain ⟨U, ⟨W, t, u, w⟩, h⟩ := Gm h
 obtain ⟨a, i, h⟩ := Ac h
 refine By (sl 6 0 (.two 6 11 (.two 7 11 (sl 3 8 (.act 11 (.act 12 (.still 13 .nil)))) (.act 7 (sl 3 8 (.act 12 (.still 13 .nil))))) (.act 6 (.act 7 (sl 3 8 (.act 12 (.still 13 .nil))))))) [0, 3, 1] [_, _, _] I (B8 6 [.o 0 0, .o 1 1, .o 2 2, .o 4 0, .l 5 (d.Segments.length : Int)] I ⟨Ay, I, I, I, I, J⟩ (sW ?_ ?_))
 refine sK [] I I I (Bp (sz := 1) I I I I I I I I I I t u (Cr (f := rI) w I) dS fun H => sW ?_ ?_)
 refine sK [] I I I (Cl I (.refl _) I I (.cons (.refl _) (.cons (.refl _) (.cons (.refl _) (.cons (.us 4 I) (.rest _))))) I (N6 _ _ _ _ _ i) dS (by rintro _ _ ⟨rfl, _⟩; rfl) ?_)
 rintro _ ⟨_, rfl, -⟩
 refine Bg 3 I (sK [] I I I (sS W1 3 fun c => sK [5] I I I (A3 5 0 0 [Cq a.1] I (Bg 1 I (Ap (sI ?_))))))
 exact lg ⟨(a.1.Kind, a.1.Index, a.1.At, a.2), c, h, I2⟩ [2, 5]
 refine sK [] I I I (sS W1 3 fun c => sK [] I I I (Cl I (.refl _) I I (.cons (.refl _) (.cons (.refl _) (.cons (.refl _) (.cons (.us 4 I) (.rest _))))) I (N6 _ _ _ _ _ i) dS (by rintro _ _ ⟨rfl, _⟩; rfl) ?_))
 rintro _ ⟨_, rfl, -⟩
 refine Bg 3 I (sK [5] I I I (A3 5 0 0 [Cq a.1] I (Bg 1 I (Ap (sI ?_)))))
 exact lg ⟨(a.1.Kind, a.1.Index, a.1.At, a.2), c, h, I2⟩ [2, 5]
 refine sK [] I I I (sS W1 3 fun c => sK [] I I I (Bp (sz := 1) I I I I I I I I I I t u (Cr (f := rI) w I) dS fun H => sK [] I I I (Cl I (.refl _) I I (.cons (.refl _) (.cons (.refl _) (.cons (.refl _) (.cons (.us 5 I) (.rest _))))) I (N6 _ _ _ _ _ i) dS (by rintro _ _ ⟨rfl, _⟩; rfl) ?_)))
 rintro _ ⟨_, rfl, -⟩
 refine Bg 3 I (sK [4] I I I (A3 4 0 0 [Cq a.1] I (Bg 1 I (Ap (sI ?_)))))
 exact lg ⟨(a.1.Kind, a.1.Index, a.1.At, a.2), c, h, I2⟩ [2, 4]
 rintro s ob ⟨b, g, h, rfl, rfl⟩
 refine Ah I (Ar h I ?_ ?_)
 intro K h
 refine sN (sH (An 1 [.o 0 1] I J1 (sJ [0] I (A3 0 0 0 [[.V b.1, .V b.2.1, .V b.2.2.1]] I (Ag 1 I (sI (Cu [0] I ?_)))))))
 obtain rfl := oi h
 exact sO ⟨.inr I, [_, _], [], ⟨⟨0, _, _, _, _, _, _, _, I5⟩, I, J⟩, Cm, I2⟩
 intro K h
 refine sL (sN (sH (sT (Au (l := W1) Dd I) I (sJ [0] I (A3 0 0 0 [W1] I (Ag 1 I (sI (Cu [0] I ?_))))))))
 obtain rfl := oi h
 exact sO ⟨.inr I, [_, _], [], ⟨⟨0, _, _, _, _, _, _, _, I5⟩, I, J⟩, Cm, I2⟩
end Go.Proofs.YtodeekicjiengaaGreatDoor
