/- Walks that show what functions of the program compute; printed by a program of ours. No condition. -/
import Derived.Test.YtodeekicjiengaaGreatDoorYvLs2
import Derived.Test.YtodeekicjiengaaGreatDoorYvLs4
import Derived.Test.YtodeekicjiengaaGreatDoorYvL3s
import Derived.Test.YtodeekicjiengaaGreatDoorYvD
set_option maxRecDepth 100000
namespace Go.Proofs.YtodeekicjiengaaGreatDoor
open Go.Aw
set_option linter.unusedVariables false
set_option linter.unusedSimpArgs false
set_option maxHeartbeats 4000000
theorem fR (a : List Change) (r : Int) (h : It a = some r) : ACalls Aj 23 [rQ a] [] (fun x new => x = .V r ∧ new = []) := by
 refine Ad Tryz.func23 I I I fun C hC => ?_
 unfold It at h
 refine Ah I (Aa fun Z D => Ec 12 (((a.length : Int) == 0) || decide ((a.length : Int) > 40)) ?_ ?_)
 refine sH (An 4 [.l 1 (a.length : Int)] I ⟨Ay, J⟩ ?_)
 rcases bt (((a.length : Int) == 0)) with d | d
 refine Af 8 I d (Ag 4 I (sI ?_))
 exact jf (by simp only [d, bz]) I I I2
 refine Af 8 I d (An 4 [.l 1 (a.length : Int)] I ⟨Ay, J⟩ (sI ?_))
 exact jf (by simp only [d, bz]) I I I2
 refine Ar h I ?_ ?_
 intro E h
 refine Ah I ?_
 obtain rfl := oi h
 exact sO pr
 intro E h
 refine sL ?_
 subst D
 refine Ai (fun s ob => ∃ (w : Unit), It.J1 w = some r ∧ s = [] ∧ ob = []) [] J ?_ ?_
 refine Bh [.l 1 (a.length : Int)] I ⟨Ay, J⟩ (sM (Bz 13 I fun F => ?_))
 obtain ⟨aa, G, y⟩ := Ac h
 clear h
 refine Bx G [(0, _), (13, _), (14, _)] J3 (fun (c : Nat) (A : Unit) s ob => s = [(15, .V (c : Int))] ∧ ob = []) ⟨I, I⟩ ⟨I, J⟩ ⟨[], I, by decide⟩ ?_ ?_
 rintro c b A H s ob K B ⟨rfl, rfl⟩ h M
 unfold It.B2 at h
 have O := Cn B
 refine Ah I (Aa fun ab P => Bs I O (sL ?_))
 subst P
 refine sN (sM (Aa fun ac Q => sH (An 3 [.x 1 c (De b)] I ⟨⟨I, Ae K⟩, J⟩ (sJ [] I (sS [.V 0, .N, .N, .N] 4 fun ad => Ag 1 I (sJ [0] I (A3 0 0 0 [De b] I (sI ?_))))))))
 subst Q
 refine Ai (fun s ob => ∃ (p : Bool), It.J3 p = some H ∧ s = [(46, .v (.bool p))] ∧ ob = []) [(0, _), (13, _), (14, _), (15, _)] J4 ?_ ?_
 refine By (pd 27 0 []) [0] [_] I (Bg 3 I ?_)
 rcases bt (((c : Int) == 0)) with e | e
 replace h := Bq e h
 refine A4 22 I e (B8 5 [.o 1 0] I J1 ?_)
 rcases bt ((b.Tick != 0)) with f | f
 replace h := Bq f h
 refine A4 27 I f (Bg 3 I (Bc I I I I dS (Bc I I I I dS (Bc I I I I dS (Bc I I I I dS (Bc I I I I dS (Bc I I I I dS (Bc I I I I dS (Bc I I I I dS (Bc I I I I dS (Bg 7 I (Ap ?_))))))))))))
 exact sI (lg ⟨true, h, I2⟩ [])
 replace h := Br f h
 refine A4 27 I f (Bg 3 I ?_)
 rcases bt (decide ((c : Int) > 0)) with g | g
 replace h := Bq g h
 obtain ⟨t, ⟨R, S⟩, h⟩ := A5 h
 refine A4 30 I g (B8 12 [.o 1 0, .x 5 t.1 (De t.2)] I ⟨⟨R, Ae S⟩, I, J⟩ ?_)
 rcases bt (decide (b.Tick ≤ t.2.Tick)) with i | i
 replace h := Bq i h
 refine A4 42 I i (Bg 4 I (Ap (sI ?_)))
 exact lg ⟨true, h, I2⟩ []
 replace h := Br i h
 refine A4 42 I i (B8 4 [.o 1 0] I J1 (Ap (sI ?_)))
 exact lg ⟨decide (b.Tick > 1099511627776), h, I2⟩ []
 replace h := Br g h
 refine A4 30 I g (B8 16 [.o 13 0] I J1 (Ap (sI ?_)))
 exact lg ⟨decide (b.Tick > 1099511627776), h, I2⟩ []
 replace h := Br e h
 refine A4 22 I e (Bg 8 I ?_)
 rcases bt (decide ((c : Int) > 0)) with j | j
 replace h := Bq j h
 obtain ⟨u, ⟨U, W⟩, h⟩ := A5 h
 refine A4 30 I j (B8 12 [.o 1 0, .x 5 u.1 (De u.2)] I ⟨⟨U, Ae W⟩, I, J⟩ ?_)
 rcases bt (decide (b.Tick ≤ u.2.Tick)) with n | n
 replace h := Bq n h
 refine A4 42 I n (Bg 4 I (Ap (sI ?_)))
 exact lg ⟨true, h, I2⟩ []
 replace h := Br n h
 refine A4 42 I n (B8 4 [.o 1 0] I J1 (Ap (sI ?_)))
 exact lg ⟨decide (b.Tick > 1099511627776), h, I2⟩ []
 replace h := Br j h
 refine A4 30 I j (B8 16 [.o 13 0] I J1 (Ap (sI ?_)))
 exact lg ⟨decide (b.Tick > 1099511627776), h, I2⟩ []
 rintro s ob ⟨p, h, rfl, rfl⟩
 refine Ar h I ?_ ?_
 intro X h
 refine Ah I ?_
 obtain rfl := M _ (oi h).symm
 replace h := y
 replace h := C1 h
 obtain rfl := oi h
 exact sO pr
 intro X h
 refine sL (sH (An 2 [.k 0 (c + 1 : Nat)] I ⟨A0 B F, J⟩ ?_))
 obtain rfl := oi h
 exact sI ⟨_, _, _, I, I2, J4, [], I, by decide⟩
 rintro A s ob ⟨rfl, rfl⟩ he
 subst he
 have h := C6 y
 have Y := Co a.length
 refine Ah I (Aa fun ae af => Bu I Y (sQ ?_))
 exact lg ⟨(), h, I2⟩ []
 rintro s ob ⟨w, h, rfl, rfl⟩
 refine Ah I ?_
 obtain rfl := oi h
 exact sO pr
theorem eU (a : Nw) (B : List Change) (D : Int) (r : Li) (h : Kw a B D = some r) : ACalls Aj 28 [.agg (Ab a), rQ B, .V D] [] (fun x new => ∃ (E : Value), x = .v E ∧ new = [U0 E r]) := by
 refine Ad Tryz.func28 I I I fun C hC => ?_
 refine Aa fun y1 P => sH (sJ [] I (Bo (Ab a) 6 fun t => Ag 1 I (sI ?_)))
 subst P
 refine Aa fun y3 Q => ?_
 obtain ⟨l4, ⟨m6, R, S, U⟩, h⟩ := Gm h
 refine sH (An 3 [.o 1 0, .l 2 (a.Segments.length : Int)] I ⟨Ay, I, J⟩ (sJ [] I (Bp (sz := 1) I I I I I I I I I I R S (Cr (f := rI) U I) dS fun b => Ag 1 I (sI ?_))))
 subst Q
 refine Ai (fun s ob => ∃ (i : Li), Kw.J1 i = some r ∧ s = [] ∧ ob = [U0 b i]) [(7, _)] J1 ?_ ?_
 refine Ah I (sM ?_)
 obtain ⟨ay, W, X⟩ := Ac h
 clear h
 refine Cs W [(1, _), (2, _), (3, _), (7, _)] J4 (fun (c : Li × Int) s ob => s = [(8, .V c.2)] ∧ ob = [O0 t [Ab a], U0 b c.1]) ⟨I, I⟩ ⟨I, J⟩ ⟨[0, 1], I, by decide⟩ ?_
 rintro c Y s ob ⟨rfl, rfl⟩ h Z
 refine Aa fun az aa => Ah I (Ar h I ?_ ?_)
 intro ab h
 refine sL ?_
 subst aa
 refine Ai (fun s ob => ∃ (u : Li), Kw.J3 c u = some Y ∧ s = [] ∧ ob = [O0 t [Ab a], U0 b u]) [(1, _), (2, _), (3, _), (7, _), (8, _)] J5 ?_ ?_
 refine sM (Aa fun a0 ac => sN ?_)
 obtain ⟨F, ⟨ad, ae⟩, h⟩ := A5 h
 obtain ⟨g, ⟨G, H⟩, h⟩ := A5 h
 refine Il (pd 14 0 []) [0] [_] [.x 2 F.1 (De F.2), .x 7 g.1 (De g.2), .o 12 0] I I ⟨I, ⟨G, Ae H⟩, ⟨ad, Ae ae⟩, J⟩ (Ar h I ?_ ?_)
 intro af h
 refine sQ ?_
 exact lg ⟨c.1, h, I2⟩ [0, 1]
 intro af h
 refine sL ?_
 subst ac
 refine Aa fun a1 ag => ?_
 obtain ⟨w, ⟨ah, ai⟩, h⟩ := A5 h
 obtain ⟨K, aj, h⟩ := Ac h
 refine By (sl 12 0 (.still 14 (.act 12 (.act 13 .nil)))) [0] [_] I (B8 6 [.o 0 0, .x 4 w.1 (De w.2)] I ⟨⟨ah, Ae ai⟩, I, J⟩ (AP.o I (I8 I I (y := .agg (Am w.2.Plan)) I) I (B8 4 [.x 2 g.1 (De g.2)] I ⟨⟨G, Ae H⟩, J⟩ (AP.o I (I8 I I (y := .agg (Am g.2.Plan)) I) I (Bg 1 I (sK [] I I I (Ci I I I (Ty _ _ _ _ aj) dS ?_)))))))
 rintro _ _ ⟨ak, rfl, rfl⟩
 refine sK [] I I I (Ce (Cz 2 I I I I) dS (Ap (sI ?_)))
 subst ag
 refine sM (Oi 2 I fun al => ?_)
 obtain ⟨a2, am, an⟩ := Ac h
 clear h
 refine Gw am [(1, _), (2, _), (3, _), (7, _), (8, _), (46, _), (47, _)] J7 (fun (A : Nat) (j : Li) s ob => s = [(48, .V (A : Int))] ∧ ob = [O0 t [Ab a], U0 b j, U0 ak K]) ⟨I, I⟩ ⟨I, J⟩ ⟨[0, 1, 2], I, by decide⟩ ?_ ?_
 rintro A j a3 s ob M ⟨rfl, rfl⟩ h
 have ao := Cn M
 refine Ah I (Aa fun a4 ap => Bs I ao (sL ?_))
 subst ap
 refine sN (sM (sN ?_))
 obtain ⟨n, ⟨aq, N⟩, h⟩ := A5 h
 refine sH (Ag 1 I (sV (Bm 2 (m := n.1) I I I I I I I aq (Ae N)) I (sV (Bl 2 n.1 0 I I I (Ae N) I (y := .V n.2) I) I (Ag 2 I (sI ?_)))))
 obtain ⟨e, ⟨O, p⟩, h⟩ := A5 h
 refine sH (Ag 2 I (sV (Bm 1 (m := e.1) I I I I I I I O (Ae p)) I (sV (Bl 1 e.1 0 I I I (Ae p) I (y := .V e.2) I) I (Ag 2 I (sV (Bm 1 (m := e.1) I I I I I I I O (Ae p)) I (sJ [1] I (Cg 1 e.1 0 I I I (Ae p) I I I I (Ca I) I (Df (x := wr (e.2 + n.2)) I) (sI (sH (An 2 [.k 0 (A + 1 : Nat)] I ⟨A0 M al, J⟩ ?_))))))))))
 obtain rfl := oi h
 exact sI (lg I2 [0, 1, 2])
 rintro j s ob ⟨rfl, rfl⟩ he
 subst he
 have h := an
 have ar := Co K.length
 refine Ah I (Aa fun a5 a6 => Bu I ar (sQ ?_))
 exact lg ⟨j, h, I2⟩ [0, 1]
 rintro s ob ⟨u, h, rfl, rfl⟩
 refine sH (Ag 3 I ?_)
 obtain rfl := oi h
 exact sI ⟨_, _, _, I, I2, J5, [0, 1], I, by decide⟩
 intro ab h
 obtain rfl := Z _ (oi h).symm
 replace h := X
 refine sQ ?_
 exact lg ⟨c.1, h, I2⟩ [1]
 rintro s ob ⟨i, h, rfl, rfl⟩
 refine Ah I ?_
 obtain rfl := oi h
 exact sO ⟨.inr I, [_], [U0 b i], J1, Cy I (Cm), ⟨b, I2⟩⟩
theorem T4 (a : Nw) (O : List Batch) (P : List Product) (Q : List (List Piece)) (i : List Change) (r : Fault × Int) (h : Is a O P Q i = some r) : ACalls Aj 12 [.agg (Ab a), Q3 O, Q2 P, .list 1 (Q.map (rL 2 A9)), rQ i] [] (fun x new => x = .tup [.agg (Cq r.1), .V r.2] ∧ new = []) := by
 refine Ad Tryz.func12 I I I fun C hC => ?_
 refine Aa fun y1 a5 => sH (sJ [] I (Bo (Ab a) 6 fun j => sJ [] I (sS W1 3 fun e => Ag 1 I (sI ?_))))
 subst a5
 refine Aa fun y4 a6 => sN ?_
 obtain ⟨r5, a7, h⟩ := Ac h
 refine sH (Ag 1 I (Cc (fR _ _ a7) (Ag 1 I (sI (Ah I (Ar h I ?_ ?_))))))
 intro a8 h
 refine sN (sH (sT (Au (l := W1) Dd I) I (Ag 1 I (sJ [1] I (A3 1 0 0 [W1] I (Ag 1 I (sI (Cu [1] I ?_))))))))
 obtain rfl := oi h
 exact sO ⟨.inr I, [_, _], [], ⟨⟨0, _, _, _, _, _, _, _, I5⟩, I, J⟩, Cm, I2⟩
 intro a8 h
 refine sL ?_
 subst a6
 refine Ai (fun s ob => ∃ (af : Unit), Is.J1 a O P Q i af = some r ∧ s = [] ∧ ob = [O0 j [Ab a], O6 e [W1]]) [(1, _), (2, _), (3, _), (4, _), (5, _), (10, _)] J6 ?_ ?_
 refine Bh [.l 1 (i.length : Int)] I ⟨Ay, J⟩ (sM (Bz 35 I fun a9 => ?_))
 obtain ⟨cy, ba, ag⟩ := Ac h
 clear h
 refine Bx ba [(1, _), (2, _), (3, _), (4, _), (5, _), (10, _), (35, _), (36, _)] J8 (fun (E : Nat) (ah : Unit) s ob => s = [(37, .V (E : Int))] ∧ ob = [O0 j [Ab a], O6 e [W1]]) ⟨I, I⟩ ⟨I, J⟩ ⟨[0, 1], I, by decide⟩ ?_ ?_
 rintro E R ah cz s ob bb ai ⟨rfl, rfl⟩ h bc
 have bd := Cn ai
 refine Ah I (Aa fun c0 be => Bs I bd (sL ?_))
 subst be
 refine sN (sM (Aa fun c1 bf => sH (An 2 [.x 0 E (De R)] I ⟨⟨I, Ae bb⟩, J⟩ (sJ [] I (sS [.V 0, .N, .N, .N] 4 fun c2 => sJ [2] I (A3 2 0 0 [De R] I (sI ?_)))))))
 subst bf
 refine sN ?_
 obtain ⟨c3, bg, h⟩ := Ac h
 refine sH (An 2 [.o 0 0] I J1 (sV (C2 2 0 1 I I I I I (y := .agg (Am R.Plan)) I) I (Cc (Jx _ _ _ bg) (Ag 1 I (sI (Ah I (Ar h I ?_ ?_)))))))
 intro bh h
 refine sN (sH (sT (Au (l := W1) Dd I) I (Ag 1 I (sJ [1] I (A3 1 0 0 [W1] I (Ag 1 I (sI ?_)))))))
 obtain rfl := bc _ (oi h).symm
 replace h := ag
 replace h := C1 h
 refine Cu [1] I ?_
 obtain rfl := oi h
 exact sO ⟨.inr I, [_, _], [], ⟨⟨0, _, _, _, _, _, _, _, I5⟩, I, J⟩, Cm, I2⟩
 intro bh h
 refine sL (sH (An 2 [.k 0 (E + 1 : Nat)] I ⟨A0 ai a9, J⟩ ?_))
 obtain rfl := oi h
 exact sI ⟨_, _, _, I, I2, J9, [0, 1], I, by decide⟩
 rintro ah s ob ⟨rfl, rfl⟩ he
 subst he
 have h := C6 ag
 have bi := Co i.length
 refine Ah I (Aa fun c4 c5 => Bu I bi (sQ ?_))
 exact lg ⟨(), h, I2⟩ [0, 1]
 rintro s ob ⟨af, h, rfl, rfl⟩
 unfold Is.J1 at h
 refine Ah I (Ai (fun s ob => ∃ (n : List Pressures) (u : Value), Is.J2 a i n = some r ∧ s = [(16, .v u)] ∧ ob = [O0 j [Ab a], O6 e [W1], pG u n]) [(4, _), (5, _), (10, _)] J3 ?_ ?_)
 refine Bh [.l 1 (i.length : Int)] I ⟨Ay, J⟩ (sM (Bz 50 I fun bj => sP (Bv 84 3) ?_))
 obtain ⟨c6, bk, aj⟩ := Ac h
 clear h
 refine Bx bk [(1, _), (2, _), (3, _), (4, _), (5, _), (10, _), (50, _), (51, _)] J8 (fun (F : Nat) (G : List Pressures) s ob => ∃ (B : Value), s = [(52, .V (F : Int)), (16, .v B)] ∧ ob = [O0 j [Ab a], O6 e [W1], pG B G]) ⟨(.slice none 0 0), I2⟩ ⟨I, I, J⟩ ⟨[0, 1, 2], I, by decide⟩ ?_ ?_
 rintro F S G c7 s ob bl ak ⟨B, rfl, rfl⟩ h bm
 have bn := Cn ak
 refine Ah I (Aa fun c8 bo => Bs I bn (sL ?_))
 subst bo
 refine sN (sM (Aa fun c9 bp => sH (An 2 [.x 0 F (De S)] I ⟨⟨I, Ae bl⟩, J⟩ (sJ [] I (sS [.V 0, .N, .N, .N] 4 fun da => sJ [3] I (A3 3 0 0 [De S] I (sI ?_)))))))
 subst bp
 refine Aa fun db bq => ?_
 obtain ⟨al, br, h⟩ := Ac h
 refine sH (An 5 [.o 0 0] I J1 (sV (C2 3 0 1 I I I I I (y := .agg (Am S.Plan)) I) I (sJ [] I (Ci I I I (fJ _ _ _ _ _ _ br) dS ?_))))
 rintro _ _ ⟨rfl, rfl⟩
 refine Ag 3 I (sJ [] I (sS W0 3 fun dc => sJ [4] I (A3 4 0 0 [A8 al.1] I (Ag 1 I (sI ?_)))))
 subst bq
 refine sN (Ah I (Ar h I ?_ ?_))
 intro bs h
 refine sN (sH (sT (Au (l := W1) Dd I) I (Ag 1 I (sJ [1] I (A3 1 0 0 [W1] I (Ag 1 I (sI ?_)))))))
 obtain rfl := bm _ (oi h).symm
 replace h := aj
 replace h := C1 h
 refine Cu [1] I ?_
 obtain rfl := oi h
 exact sO ⟨.inr I, [_, _], [], ⟨⟨0, _, _, _, _, _, _, _, I5⟩, I, J⟩, Cm, I2⟩
 intro bs h
 refine sL ?_
 obtain ⟨dd, bt, h⟩ := Ac h
 refine sH (An 2 [.o 1 4] I J1 (sJ [] I (sR 3 (([al.1] : List Pressures).map A8) (sJ [2] I (C7 2 I bt fun bu => Ag 1 I (sI (sH (An 2 [.k 0 (F + 1 : Nat)] I ⟨A0 ak bj, J⟩ ?_))))))))
 obtain rfl := oi h
 exact sI ⟨_, _, _, I, ⟨bu, I2⟩, iR, [0, 1, 2], I, by decide⟩
 rintro G s ob ⟨B, rfl, rfl⟩ he
 subst he
 have h := C6 aj
 have bv := Co i.length
 refine Ah I (Aa fun de df => Bu I bv (sQ ?_))
 exact lg ⟨G, B, h, I2⟩ [0, 1, 2]
 rintro s ob ⟨n, u, h, rfl, rfl⟩
 unfold Is.J2 at h
 refine Aa fun dg bw => Ai (fun s ob => ∃ (w : Int × Int × Int × Bool) (U : Nat), Is.J3 a i n w = some r ∧ s = [(21, .v (.pointer (some ⟨U, 0, none⟩))), (22, .v (.bool w.2.2.2))] ∧ ob = [O0 j [Ab a], O6 e [W1], pG u n, O6 U [[.V w.1, .V w.2.1, .V w.2.2.1]]]) [(4, _), (5, _), (10, _), (16, _)] J4 ?_ ?_
 obtain ⟨H, ⟨bx, W⟩, h⟩ := A5 h
 obtain ⟨X, ⟨bz, b0⟩, h⟩ := A5 h
 obtain ⟨dh, ⟨di, am, an, ao⟩, h⟩ := Gm h
 obtain ⟨b, Y, h⟩ := Ac h
 refine C5 2 H.1 I W fun b1 => By (sl 11 0 (.two 11 16 (.two 12 16 (sl 3 13 (.act 16 (.act 17 (.still 18 .nil)))) (.act 12 (sl 3 13 (.act 17 (.still 18 .nil))))) (.act 11 (.act 12 (sl 3 13 (.act 17 (.still 18 .nil))))))) [0, 2] [_, _] I (B8 2 [.o 0 0] I J1 (sY I (B0 (m := H.1) I I I I I b1 I bx W) I (AP.o I (Bl 1 H.1 0 I I I (Ae W) I (y := .agg (A8 H.2)) I) I (B8 3 [.x 1 X.1 (De X.2)] I ⟨⟨bz, Ae b0⟩, J⟩ (AP.o I (I8 I I (y := .agg (Am X.2.Plan)) I) I (B8 3 [.o 1 0, .l 2 (a.Segments.length : Int)] I ⟨Ay, I, J⟩ (sW ?_ ?_)))))))
 refine sK [] I I I (Bp (sz := 1) I I I I I I I I I I am an (Cr (f := rI) ao I) dS fun b4 => sW ?_ ?_)
 refine sK [] I I I (Cl I (.refl _) I I (.cons (.refl _) (.cons (.refl _) (.cons (.refl _) (.cons (.us 3 I) (.rest _))))) I (Hp _ _ _ _ _ Y) dS (by rintro _ _ ⟨rfl, _⟩; rfl) ?_)
 rintro _ ⟨_, rfl, -⟩
 refine Bg 3 I (sK [] I I I (sS W1 3 fun D => sK [4] I I I (A3 4 0 0 [Cq b.1] I (Bg 1 I (Ap (sI ?_))))))
 exact lg ⟨(b.1.Kind, b.1.Index, b.1.At, b.2), D, h, I2⟩ [0, 1, 2, 4]
 refine sK [] I I I (sS W1 3 fun D => sK [] I I I (Cl I (.refl _) I I (.cons (.refl _) (.cons (.refl _) (.cons (.refl _) (.cons (.us 3 I) (.rest _))))) I (Hp _ _ _ _ _ Y) dS (by rintro _ _ ⟨rfl, _⟩; rfl) ?_))
 rintro _ ⟨_, rfl, -⟩
 refine Bg 3 I (sK [4] I I I (A3 4 0 0 [Cq b.1] I (Bg 1 I (Ap (sI ?_)))))
 exact lg ⟨(b.1.Kind, b.1.Index, b.1.At, b.2), D, h, I2⟩ [0, 1, 2, 4]
 refine sK [] I I I (sS W1 3 fun D => sK [] I I I (Bp (sz := 1) I I I I I I I I I I am an (Cr (f := rI) ao I) dS fun b4 => sK [] I I I (Cl I (.refl _) I I (.cons (.refl _) (.cons (.refl _) (.cons (.refl _) (.cons (.us 4 I) (.rest _))))) I (Hp _ _ _ _ _ Y) dS (by rintro _ _ ⟨rfl, _⟩; rfl) ?_)))
 rintro _ ⟨_, rfl, -⟩
 refine Bg 3 I (sK [3] I I I (A3 3 0 0 [Cq b.1] I (Bg 1 I (Ap (sI ?_)))))
 exact lg ⟨(b.1.Kind, b.1.Index, b.1.At, b.2), D, h, I2⟩ [0, 1, 2, 3]
 rintro s ob ⟨w, U, h, rfl, rfl⟩
 refine Ah I (Ar h I ?_ ?_)
 intro b5 h
 refine sN (sH (An 1 [.o 0 3] I J1 (sJ [1] I (A3 1 0 0 [[.V w.1, .V w.2.1, .V w.2.2.1]] I (Ag 1 I (sI (Cu [1] I ?_)))))))
 obtain rfl := oi h
 exact sO ⟨.inr I, [_, _], [], ⟨⟨0, _, _, _, _, _, _, _, I5⟩, I, J⟩, Cm, I2⟩
 intro b5 h
 refine sL ?_
 subst bw
 refine Ai (fun s ob => ∃ (aq : Unit), Is.J4 aq = some r ∧ s = [] ∧ ob = [O6 e [W1]]) [(10, _)] J1 ?_ ?_
 refine Ah I (sM ?_)
 obtain ⟨dj, b6, ar⟩ := Ac h
 clear h
 refine Cs b6 [(4, _), (5, _), (10, _), (16, _)] J4 (fun (g : Int) s ob => s = [(23, .V g)] ∧ ob = [O0 j [Ab a], O6 e [W1], pG u n]) ⟨I, I⟩ ⟨I, J⟩ ⟨[0, 1, 2], I, by decide⟩ ?_
 rintro g b7 s ob ⟨rfl, rfl⟩ h au
 refine Aa fun dk b8 => Bh [.l 2 (i.length : Int)] I ⟨Ay, J⟩ (Ar h I ?_ ?_)
 intro b9 h
 refine sL ?_
 subst b8
 refine Ai (fun s ob => ∃ (av : Unit), Is.J6 g av = some b7 ∧ s = [] ∧ ob = [O0 j [Ab a], O6 e [W1], pG u n]) [(4, _), (5, _), (10, _), (16, _), (23, _)] J5 ?_ ?_
 refine sM (Aa fun dl ca => ?_)
 obtain ⟨aw, cb, h⟩ := Ac h
 obtain ⟨ax, cc, h⟩ := Ac h
 refine sH (An 3 [.o 0 0] I J1 (sJ [] I (Ci I I I (eU _ _ _ _ cb) dS ?_)))
 rintro _ _ ⟨cd, rfl, rfl⟩
 refine AO.ghost (Bk [3] (K := [U0 cd aw]) I [(102, Q0 aw)] ⟨⟨_, I, .us 0 I⟩, J⟩ (ob' := [O0 j [Ab a], O6 e [W1], pG u n]) (.rest _)) (sJ [] I (Ci I I I (Tp _ _ cc) dS ?_))
 rintro _ _ ⟨ay, rfl, rfl⟩
 refine Ag 1 I (sI ?_)
 subst ca
 refine Aa fun dm ce => sH (Ag 3 I (sJ [] I (sX (sz := 1) (es := ([wr (g - 1), g] : Li).map rI) I I I I I I I I I I I dS fun az => sV (Cz 4 I I I I) I (Ag 1 I (sI ?_)))))
 subst ce
 refine sM (Oi 4 I fun cf => ?_)
 obtain ⟨dn, cg, a0⟩ := Ac h
 clear h
 refine Fe cg [(4, _), (5, _), (10, _), (16, _), (23, _), (24, _), (107, _), (108, _)] J8 (fun (Z : Nat) (a1 : Unit) s ob => s = [(109, .V (Z : Int))] ∧ ob = [O0 j [Ab a], O6 e [W1], pG u n, U0 ay ax, .us az 3 1 (([wr (g - 1), g] : Li).map rI)]) ⟨I, I⟩ ⟨I, J⟩ ⟨[0, 1, 2, 3, 4], I, by decide⟩ ?_ ?_
 rintro Z a1 ci s ob a2 ⟨rfl, rfl⟩ h cj
 have ck := Cn a2
 refine Ah I (Aa fun dp cl => Bs I ck (sL ?_))
 subst cl
 refine sN (sM (Aa fun dq cm => ?_))
 obtain ⟨aa, ⟨cn, a3⟩, h⟩ := A5 h
 refine sH (sV (Bm 4 (m := aa.1) I I I I I I I cn (Ae a3)) I (sV (Bl 4 aa.1 0 I I I (Ae a3) I (y := .V aa.2) I) I (Ag 1 I (sI ?_))))
 subst cm
 refine Ai (fun s ob => ∃ (A : Int × Int × Int × Bool) (ab : Nat), Is.J8 A = some ci ∧ s = [(27, .v (.pointer (some ⟨ab, 0, none⟩))), (28, .v (.bool A.2.2.2))] ∧ ob = [O0 j [Ab a], O6 e [W1], pG u n, U0 ay ax, .us az 3 1 (([wr (g - 1), g] : Li).map rI), O6 ab [[.V A.1, .V A.2.1, .V A.2.2.1]]]) [(4, _), (5, _), (10, _), (16, _), (23, _), (24, _), (107, _), (108, _), (109, _)] J9 ?_ ?_
 obtain ⟨M, ⟨co, ac⟩, h⟩ := A5 h
 obtain ⟨ad, ⟨cp, cq⟩, h⟩ := A5 h
 obtain ⟨t, a4, h⟩ := Ac h
 refine C5 2 M.1 I ac fun cr => By (sl 11 0 (.two 11 15 (sl 3 12 (.act 15 (.act 16 (.still 17 .nil)))) (.act 11 (sl 3 12 (.act 16 (.still 17 .nil)))))) [0, 2] [_, _] I (B8 3 [.o 0 0] I J1 (sY I (B0 (m := M.1) I I I I I cr I co ac) I (AP.o I (Bl 1 M.1 0 I I I (Ae ac) I (y := .agg (A8 M.2)) I) I (B8 4 [.x 2 ad.1 (De ad.2)] I ⟨⟨cp, Ae cq⟩, J⟩ (AP.o I (I8 I I (y := .agg (Am ad.2.Plan)) I) I (Bg 1 I (sW ?_ ?_)))))))
 refine sK [] I I I (Cl I (.refl _) I I (.cons (.refl _) (.cons (.refl _) (.cons (.refl _) (.cons (.us 3 I) (.rest _))))) I (Hp _ _ _ _ _ a4) dS (by rintro _ _ ⟨rfl, _⟩; rfl) ?_)
 rintro _ ⟨_, rfl, -⟩
 refine Bg 3 I (sK [] I I I (sS W1 3 fun ae => sK [5] I I I (A3 5 0 0 [Cq t.1] I (Bg 1 I (Ap (sI ?_))))))
 exact lg ⟨(t.1.Kind, t.1.Index, t.1.At, t.2), ae, h, I2⟩ [0, 1, 2, 3, 4, 5]
 refine sK [] I I I (sS W1 3 fun ae => sK [] I I I (Cl I (.refl _) I I (.cons (.refl _) (.cons (.refl _) (.cons (.refl _) (.cons (.us 3 I) (.rest _))))) I (Hp _ _ _ _ _ a4) dS (by rintro _ _ ⟨rfl, _⟩; rfl) ?_))
 rintro _ ⟨_, rfl, -⟩
 refine Bg 3 I (sK [5] I I I (A3 5 0 0 [Cq t.1] I (Bg 1 I (Ap (sI ?_)))))
 exact lg ⟨(t.1.Kind, t.1.Index, t.1.At, t.2), ae, h, I2⟩ [0, 1, 2, 3, 4, 5]
 rintro s ob ⟨A, ab, h, rfl, rfl⟩
 refine Ah I (Ar h I ?_ ?_)
 intro ct h
 refine sN (sH (An 1 [.o 0 5] I J1 (sJ [1] I (A3 1 0 0 [[.V A.1, .V A.2.1, .V A.2.2.1]] I (Ag 1 I (sI ?_))))))
 obtain rfl := cj _ (oi h).symm
 replace h := a0
 replace h := C1 h
 obtain rfl := au _ (oi h).symm
 replace h := ar
 replace h := C6 h
 refine Cu [1] I ?_
 obtain rfl := oi h
 exact sO ⟨.inr I, [_, _], [], ⟨⟨0, _, _, _, _, _, _, _, I5⟩, I, J⟩, Cm, I2⟩
 intro ct h
 refine sL (sH (An 2 [.k 0 (Z + 1 : Nat)] I ⟨A0 a2 cf, J⟩ ?_))
 obtain rfl := oi h
 exact sI ⟨_, _, _, I, I2, J9, [0, 1, 2, 3, 4], I, by decide⟩
 rintro a1 s ob ⟨rfl, rfl⟩ he
 subst he
 have h := C6 a0
 have cu := Co (([wr (g - 1), g] : Li).length)
 refine Ah I (Aa fun dr ds => Bu I cu (sQ ?_))
 exact lg ⟨(), h, I2⟩ [0, 1, 2]
 rintro s ob ⟨av, h, rfl, rfl⟩
 refine sH (Ag 3 I ?_)
 obtain rfl := oi h
 exact sI ⟨_, _, _, I, I2, J5, [0, 1, 2], I, by decide⟩
 intro b9 h
 obtain rfl := au _ (oi h).symm
 replace h := ar
 replace h := C1 h
 refine sQ ?_
 exact lg ⟨(), h, I2⟩ [1]
 rintro s ob ⟨aq, h, rfl, rfl⟩
 refine sN (sH (sT (Au (l := W1) Dd I) I (sJ [0] I (A3 0 0 0 [W1] I (Ag 1 I (sI ?_))))))
 obtain rfl := oi h
 exact sO ⟨.inr I, [_, _], [], ⟨⟨0, _, _, _, _, _, _, _, I5⟩, I, J⟩, Cm, I2⟩
end Go.Proofs.YtodeekicjiengaaGreatDoor
