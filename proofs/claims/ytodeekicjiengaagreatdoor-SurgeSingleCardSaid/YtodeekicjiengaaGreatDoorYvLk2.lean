/- Walks that show what functions of the program compute; printed by a program of ours. No condition. -/
import Derived.Test.YtodeekicjiengaaGreatDoorYvLk1
import Derived.Test.YtodeekicjiengaaGreatDoorYvLg2
set_option maxRecDepth 100000
namespace Go.Proofs.YtodeekicjiengaaGreatDoor
open Go.Aw
set_option linter.unusedVariables false
set_option linter.unusedSimpArgs false
set_option maxHeartbeats 4000000
theorem iE (a : Int) (r : Bool) (h : Ql a = r) : ACalls Aj 159 [.V a] [] (fun x new => x = .v (.bool r) ∧ new = []) := by
 refine Ad Tryz.func159 I I I fun C hC => ?_
 unfold Ql at h
 refine Ah I (Ai (fun s ob => s = [(2, .v (.bool (decide (a ≥ 0) && decide (a < 1000))))] ∧ ob = []) [] J ?_ ?_)
 refine sH (Ag 3 I ?_)
 rcases bt (decide (a ≥ 0)) with b | b
 refine Af 5 I b (Ag 4 I (sI ?_))
 exact lf I2 ⟨(Dn (by simp only [b, bz])), J⟩ [] I
 refine Af 5 I b (Ag 4 I (sI ?_))
 exact lf I2 ⟨(Dn (by simp only [b, bz])), J⟩ [] I
 rintro s ob ⟨rfl, rfl⟩
 obtain rfl := h
 exact sO pr
theorem Oc (b : List Piece) (r : Bool) (h : Ky b = some r) : ACalls Aj 102 [Q4 b] [] (fun x new => x = .v (.bool r) ∧ new = []) := by
 refine Ad Tryz.func102 I I I fun C hC => ?_
 refine Ah I (Aa fun S y => Bh [.l 1 (b.length : Int)] I ⟨Ay, J⟩ (Ar h I ?_ ?_))
 intro A h
 refine Ah I ?_
 obtain rfl := oi h
 exact sO pr
 intro A h
 refine sL ?_
 subst y
 refine Ah I (Ai (fun s ob => ∃ (n : Int), Ky.J1 n = some r ∧ s = [(3, .V n)] ∧ ob = []) [] J ?_ ?_)
 refine Bh [.l 1 (b.length : Int)] I ⟨Ay, J⟩ (sM (Bz 9 I fun B => ?_))
 obtain ⟨U, D, u⟩ := Ac h
 clear h
 refine Bx D [(0, _), (9, _), (10, _)] J3 (fun (d : Nat) (e : Int) s ob => s = [(11, .V (d : Int)), (3, .V e)] ∧ ob = []) ⟨I, I⟩ ⟨I, I, J⟩ ⟨[], I, by decide⟩ ?_ ?_
 rintro d a e E s ob F w ⟨rfl, rfl⟩ h G
 unfold Ky.B2 at h
 have H := Cn w
 refine Ah I (Aa fun W K => Bs I H (sL ?_))
 subst K
 refine sN (sM (Aa fun X M => sH (An 3 [.x 1 d (A9 a)] I ⟨⟨I, Ae F⟩, J⟩ (sJ [] I (sS [.V 0, .V 0] 2 fun N => Ag 1 I (sJ [0] I (A3 0 0 0 [A9 a] I (sI ?_))))))))
 subst M
 refine sN (Ai (fun s ob => ∃ (p : Bool), Ky.J3 a e p = some E ∧ s = [(44, .v (.bool p))] ∧ ob = [.arr N 105 2 1 [A9 a]]) [(0, _), (3, _), (5, _), (9, _), (10, _), (11, _)] J6 ?_ ?_)
 refine By (pd 29 0 [2]) [0] [_] I (B8 2 [.o 1 0] I J1 (Dp I (iE a.Batch _ I) (Bg 2 I ?_)))
 rcases bt ((!(Ql a.Batch))) with f | f
 replace h := Bq f h
 refine A4 20 I f (Bg 13 I (Bc I I I I dS (Bc I I I I dS (Bc I I I I dS (Bc I I I I dS (Bc I I I I dS (Bc I I I I dS (Bc I I I I dS (Bc I I I I dS (Bc I I I I dS (Bg 2 I (Ap ?_))))))))))))
 exact sI (lg ⟨true, h, I2⟩ [0])
 replace h := Br f h
 refine A4 20 I f (B8 5 [.o 1 0] I J1 ?_)
 rcases bt (decide (a.Volume < 1)) with g | g
 replace h := Bq g h
 refine A4 25 I g (Bg 8 I (Bc I I I I dS (Bc I I I I dS (Bc I I I I dS (Bc I I I I dS (Bc I I I I dS (Bc I I I I dS (Bc I I I I dS (Bc I I I I dS (Bc I I I I dS (Bg 2 I (Ap ?_))))))))))))
 exact sI (lg ⟨true, h, I2⟩ [0])
 replace h := Br g h
 refine A4 25 I g (B8 5 [.o 1 0] I J1 ?_)
 rcases bt (decide (a.Volume > 1000000)) with i | i
 replace h := Bq i h
 refine A4 30 I i (Bg 3 I (Bc I I I I dS (Bc I I I I dS (Bc I I I I dS (Bc I I I I dS (Bc I I I I dS (Bc I I I I dS (Bc I I I I dS (Bc I I I I dS (Bc I I I I dS (Bg 2 I (Ap ?_))))))))))))
 exact sI (lg ⟨true, h, I2⟩ [0])
 replace h := Br i h
 refine A4 30 I i (Bg 3 I ?_)
 rcases bt (decide ((d : Int) > 0)) with j | j
 replace h := Bq j h
 obtain ⟨t, ⟨O, P⟩, h⟩ := A5 h
 refine A4 33 I j (B8 11 [.o 1 0, .x 5 t.1 (A9 t.2)] I ⟨⟨O, Ae P⟩, I, J⟩ (Ap (sI ?_)))
 exact lg ⟨(a.Batch == t.2.Batch), h, I2⟩ [0]
 replace h := Br j h
 refine A4 33 I j (Bg 11 I (Ap (sI ?_)))
 exact lg ⟨false, h, I2⟩ [0]
 rintro s ob ⟨p, h, rfl, rfl⟩
 refine Ar h I ?_ ?_
 intro Q h
 refine Ah I ?_
 obtain rfl := G _ (oi h).symm
 replace h := u
 replace h := C1 h
 refine sP g0 ?_
 obtain rfl := oi h
 exact sO pr
 intro Q h
 refine sL (Ey [.o 2 0] I J1 (sH (An 2 [.k 0 (d + 1 : Nat)] I ⟨A0 w B, J⟩ ?_)))
 obtain rfl := oi h
 exact sI ⟨_, _, _, I, I2, J5, [], I, by decide⟩
 rintro e s ob ⟨rfl, rfl⟩ he
 subst he
 have h := C6 u
 have R := Co b.length
 refine Ah I (Aa fun Y Z => Bu I R (sQ ?_))
 exact lg ⟨e, h, I2⟩ []
 rintro s ob ⟨n, h, rfl, rfl⟩
 refine Ah I ?_
 obtain rfl := oi h
 exact sO pr
theorem Tl (a : List Piece) (r : Int) (h : Ko a = some r) : ACalls Aj 103 [Q4 a] [] (fun x new => x = .V r ∧ new = []) := by
 refine Ad Tryz.func103 I I I fun C hC => ?_
 unfold Ko at h
 refine Ah I (Ah I (Ai (fun s ob => ∃ (d : Int), Ko.J1 d = some r ∧ s = [(3, .V d)] ∧ ob = []) [] J ?_ ?_))
 refine Bh [.l 1 (a.length : Int)] I ⟨Ay, J⟩ (sM (Bz 5 I fun f => ?_))
 obtain ⟨q, g, i⟩ := Ac h
 clear h
 refine Ct g [(0, _), (6, _)] J2 (fun (b : Nat) (c : Int) s ob => s = [(7, .V (b : Int)), (3, .V c)] ∧ ob = []) ⟨I, I⟩ ⟨I, I, J⟩ ⟨[], I, by decide⟩ ?_ ?_
 rintro b j c t s ob m e ⟨rfl, rfl⟩ h
 have n := Cn e
 refine Ah I (Aa fun u o => Bs I n (sL ?_))
 subst o
 refine sN (sM (Ah I (Ey [.x 3 b (A9 j)] I ⟨⟨I, Ae m⟩, J⟩ (sH (An 2 [.k 0 (b + 1 : Nat)] I ⟨A0 e f, J⟩ ?_)))))
 obtain rfl := oi h
 exact sI (lg I2 [])
 rintro c s ob ⟨rfl, rfl⟩ he
 subst he
 have h := i
 have p := Co a.length
 refine Ah I (Aa fun w y => Bu I p (sQ ?_))
 exact lg ⟨c, h, I2⟩ []
 rintro s ob ⟨d, h, rfl, rfl⟩
 refine Ah I ?_
 obtain rfl := oi h
 exact sO pr
theorem gE (a : Sg) (d : List Piece) (r : Int) (h : Qa a d = some r) : ACalls Aj 109 [.agg (Ak a), Q4 d] [] (fun x new => x = .V r ∧ new = []) := by
 refine Ad Tryz.func109 I I I fun C hC => ?_
 unfold Qa at h
 refine Aa fun u f => sH (sJ [] I (Bo (Ak a) 7 fun g => Ag 1 I (sI ?_)))
 subst f
 refine sN (sM (Ai (fun s ob => ∃ (e : Bool), Qa.J1 a d e = some r ∧ s = [(5, .v (.bool e))] ∧ ob = [O5 g [Ak a]]) [(1, _), (2, _)] J2 ?_ ?_))
 obtain ⟨i, j, h⟩ := Ac h
 refine sH (An 1 [.o 0 0] I J1 (Cc (iO _ _ j) (Ag 2 I ?_)))
 rcases bt ((!i)) with b | b
 replace h := Bq b h
 refine Af 9 I b (Ag 5 I (sI ?_))
 exact lg ⟨true, h, I2⟩ [0]
 replace h := Br b h
 obtain ⟨k, l, h⟩ := Ac h
 refine Af 9 I b (Ag 1 I (Cd I I I (Cc (Oc _ _ l) (Ag 3 I (sI ?_)))))
 exact lg ⟨(!k), h, I2⟩ [0]
 rintro s ob ⟨e, h, rfl, rfl⟩
 refine Ar h I ?_ ?_
 intro n h
 refine Ah I (sP g0 ?_)
 obtain rfl := oi h
 exact sO pr
 intro n h
 refine sN ?_
 obtain ⟨w, p, h⟩ := Ac h
 refine By (.still 0 (.still 2 (.still 3 (.act 1 (.still 4 (.still 5 .nil)))))) [0] [_] I (B8 3 [.o 2 0] I J1 (Dp I (Tl _ _ p) (Bg 2 I (Ap (sI (Ar h I ?_ ?_))))))
 intro t h
 refine Ah I (sP g0 ?_)
 obtain rfl := oi h
 exact sO pr
 intro t h
 refine sL (Ah I (sP g0 ?_))
 obtain rfl := oi h
 exact sO pr
theorem eN (a : Product) (r : Bool) (h : Vc a = some r) : ACalls Aj 104 [.agg (Bw a)] [] (fun x new => x = .v (.bool r) ∧ new = []) := by
 refine Ad Tryz.func104 I I I fun C hC => ?_
 unfold Vc at h
 refine Aa fun u n => sH (sJ [] I (Bo (Bw a) 5 fun w => Ag 1 I (sI ?_)))
 subst n
 refine Ai (fun s ob => ∃ (l : Bool), Vc.J1 l = some r ∧ s = [(2, .v (.bool l))] ∧ ob = []) [] J ?_ ?_
 obtain ⟨p, t, h⟩ := Ac h
 refine sH (An 2 [.o 1 0] I J1 (Cc (Oe _ _ t) (Ag 1 I ?_)))
 rcases bt (p) with b | b
 replace h := Bq b h
 refine Af 6 I b (An 5 [.o 1 0] I J1 ?_)
 rcases bt (decide (a.Density ≥ 400)) with d | d
 replace h := Bq d h
 refine Af 11 I d (An 5 [.o 1 0] I J1 ?_)
 rcases bt (decide (a.Density ≤ 1200)) with e | e
 replace h := Bq e h
 refine Af 16 I e (An 5 [.o 1 0] I J1 ?_)
 rcases bt (decide (a.Expansion ≥ 0)) with f | f
 replace h := Bq f h
 refine Af 21 I f (An 5 [.o 1 0] I J1 ?_)
 rcases bt (decide (a.Expansion ≤ 2000)) with g | g
 replace h := Bq g h
 refine Af 26 I g (An 5 [.o 1 0] I J1 ?_)
 rcases bt (decide (a.Compress ≥ 0)) with i | i
 replace h := Bq i h
 refine Af 31 I i (An 5 [.o 1 0] I J1 ?_)
 rcases bt (decide (a.Compress ≤ 5000)) with j | j
 replace h := Bq j h
 refine Af 36 I j (An 5 [.o 1 0] I J1 ?_)
 rcases bt (decide (a.Friction ≥ 1)) with k | k
 replace h := Bq k h
 refine Af 41 I k (An 5 [.o 1 0] I J1 (sI ?_))
 exact lg ⟨decide (a.Friction ≤ 2000), h, I2⟩ []
 replace h := Br k h
 refine Af 41 I k (Ag 5 I (sI ?_))
 exact lg ⟨false, h, I2⟩ []
 replace h := Br j h
 refine Af 36 I j (Ag 10 I (sI ?_))
 exact lg ⟨false, h, I2⟩ []
 replace h := Br i h
 refine Af 31 I i (Ag 15 I (sI ?_))
 exact lg ⟨false, h, I2⟩ []
 replace h := Br g h
 refine Af 26 I g (Ag 20 I (sI ?_))
 exact lg ⟨false, h, I2⟩ []
 replace h := Br f h
 refine Af 21 I f (Ag 25 I (sI ?_))
 exact lg ⟨false, h, I2⟩ []
 replace h := Br e h
 refine Af 16 I e (Ag 30 I (sI ?_))
 exact lg ⟨false, h, I2⟩ []
 replace h := Br d h
 refine Af 11 I d (Ag 35 I (sI ?_))
 exact lg ⟨false, h, I2⟩ []
 replace h := Br b h
 refine Af 6 I b (Ag 40 I (sI ?_))
 exact lg ⟨false, h, I2⟩ []
 rintro s ob ⟨l, h, rfl, rfl⟩
 obtain rfl := oi h
 exact sO pr
theorem iA (a : List Product) (d : Bt) (r : Int) (h : Vw a d = some r) : ACalls Aj 105 [Q2 a, .v (.string d)] [] (fun x new => x = .V r ∧ new = []) := by
 refine Ad Tryz.func105 I I I fun C hC => ?_
 unfold Vw at h
 refine Ah I (Ai (fun s ob => ∃ (e : Unit), Vw.J1 e = some r ∧ s = [] ∧ ob = []) [] J ?_ ?_)
 refine Bh [.l 1 (a.length : Int)] I ⟨Ay, J⟩ (sM (Bz 6 I fun m => ?_))
 obtain ⟨A, n, f⟩ := Ac h
 clear h
 refine Bx n [(0, _), (1, _), (7, _)] J3 (fun (b : Nat) (g : Unit) s ob => s = [(8, .V (b : Int))] ∧ ob = []) ⟨I, I⟩ ⟨I, J⟩ ⟨[], I, by decide⟩ ?_ ?_
 rintro b i g B s ob o j ⟨rfl, rfl⟩ h q
 have t := Cn j
 refine Ah I (Aa fun D u => Bs I t (sL ?_))
 subst u
 refine sN (sM (Ah I (sN (sH (An 6 [.x 2 b (Bw i)] I ⟨⟨I, Ae o⟩, J⟩ (sT (Yp.cmpS (c := Sh i.Name d) I I I) I (sI (Ar h I ?_ ?_))))))))
 intro w h
 refine Ah I ?_
 obtain rfl := q _ (oi h).symm
 replace h := f
 replace h := C1 h
 obtain rfl := oi h
 exact sO pr
 intro w h
 refine sL (sH (An 2 [.k 0 (b + 1 : Nat)] I ⟨A0 j m, J⟩ ?_))
 obtain rfl := oi h
 exact sI ⟨_, _, _, I, I2, J4, [], I, by decide⟩
 rintro g s ob ⟨rfl, rfl⟩ he
 subst he
 have h := C6 f
 have y := Co a.length
 refine Ah I (Aa fun E F => Bu I y (sQ ?_))
 exact lg ⟨(), h, I2⟩ []
 rintro s ob ⟨e, h, rfl, rfl⟩
 refine Ah I ?_
 obtain rfl := oi h
 exact sO pr
theorem Ua (a : List Product) (r : Int) (h : Nh a = some r) : ACalls Aj 61 [Q2 a] [] (fun x new => x = .V r ∧ new = []) := by
 refine Ad Tryz.func61 I I I fun C hC => ?_
 refine Ah I (Aa fun X p => Bh [.l 1 (a.length : Int)] I ⟨Ay, J⟩ (Ar h I ?_ ?_))
 intro t h
 refine Ah I ?_
 obtain rfl := oi h
 exact sO pr
 intro t h
 refine sL ?_
 subst p
 refine Ai (fun s ob => ∃ (e : Unit), Nh.J1 a e = some r ∧ s = [] ∧ ob = []) [(0, _)] J1 ?_ ?_
 refine Bh [.l 1 (a.length : Int)] I ⟨Ay, J⟩ (sM (Bz 8 I fun u => ?_))
 obtain ⟨Y, w, f⟩ := Ac h
 clear h
 refine Bx w [(0, _), (9, _)] J2 (fun (b : Nat) (g : Unit) s ob => s = [(10, .V (b : Int))] ∧ ob = []) ⟨I, I⟩ ⟨I, J⟩ ⟨[], I, by decide⟩ ?_ ?_
 rintro b y g Z s ob A i ⟨rfl, rfl⟩ h B
 have D := Cn i
 refine Ah I (Aa fun aa E => Bs I D (sL ?_))
 subst E
 refine sN (sM (Ah I (sN ?_)))
 obtain ⟨ab, F, h⟩ := Ac h
 refine sH (An 4 [.x 2 b (Bw y)] I ⟨⟨I, Ae A⟩, J⟩ (Cc (eN _ _ F) (Ag 1 I (sI (Ar h I ?_ ?_)))))
 intro G h
 refine Ah I ?_
 obtain rfl := B _ (oi h).symm
 replace h := f
 replace h := C1 h
 obtain rfl := oi h
 exact sO pr
 intro G h
 refine sL (sH (An 2 [.k 0 (b + 1 : Nat)] I ⟨A0 i u, J⟩ ?_))
 obtain rfl := oi h
 exact sI ⟨_, _, _, I, I2, J3, [], I, by decide⟩
 rintro g s ob ⟨rfl, rfl⟩ he
 subst he
 have h := C6 f
 have H := Co a.length
 refine Ah I (Aa fun ac ad => Bu I H (sQ ?_))
 exact lg ⟨(), h, I2⟩ []
 rintro s ob ⟨e, h, rfl, rfl⟩
 unfold Nh.J1 at h
 refine Ai (fun s ob => ∃ (j : Unit), Nh.J2 j = some r ∧ s = [] ∧ ob = []) [] J ?_ ?_
 refine Bh [.l 1 (a.length : Int)] I ⟨Ay, J⟩ (sM (Bz 20 I fun K => ?_))
 obtain ⟨ae, M, m⟩ := Ac h
 clear h
 refine Bx M [(0, _), (21, _)] J2 (fun (d : Nat) (n : Unit) s ob => s = [(22, .V (d : Int))] ∧ ob = []) ⟨I, I⟩ ⟨I, J⟩ ⟨[], I, by decide⟩ ?_ ?_
 rintro d N n af s ob O o ⟨rfl, rfl⟩ h P
 have Q := Cn o
 refine Ah I (Aa fun ag R => Bs I Q (sL ?_))
 subst R
 refine sN (sM (Ah I (sN ?_)))
 obtain ⟨ah, S, h⟩ := Ac h
 refine sH (An 6 [.x 3 d (Bw N)] I ⟨⟨I, Ae O⟩, J⟩ (Cc (iA _ _ _ S) (Ag 2 I (sI (Ar h I ?_ ?_)))))
 intro U h
 refine Ah I ?_
 obtain rfl := P _ (oi h).symm
 replace h := m
 replace h := C1 h
 obtain rfl := oi h
 exact sO pr
 intro U h
 refine sL (sH (An 2 [.k 0 (d + 1 : Nat)] I ⟨A0 o K, J⟩ ?_))
 obtain rfl := oi h
 exact sI ⟨_, _, _, I, I2, J3, [], I, by decide⟩
 rintro n s ob ⟨rfl, rfl⟩ he
 subst he
 have h := C6 m
 have W := Co a.length
 refine Ah I (Aa fun ai aj => Bu I W (sQ ?_))
 exact lg ⟨(), h, I2⟩ []
 rintro s ob ⟨j, h, rfl, rfl⟩
 refine Ah I ?_
 obtain rfl := oi h
 exact sO pr
theorem T9 (d : List Piece) (e : List Batch) (f : List Product) (r : Bool) (h : K2 d e f = some r) : ACalls Aj 62 [Q4 d, Q3 e, Q2 f] [] (fun x new => x = .v (.bool r) ∧ new = []) := by
 refine Ad Tryz.func62 I I I fun C hC => ?_
 unfold K2 at h
 refine Ah I (Ai (fun s ob => ∃ (n : Unit), K2.J1 n = some r ∧ s = [] ∧ ob = []) [] J ?_ ?_)
 refine Bh [.l 1 (d.length : Int)] I ⟨Ay, J⟩ (sM (Bz 9 I fun A => ?_))
 obtain ⟨O, B, p⟩ := Ac h
 clear h
 refine Bx B [(1, _), (2, _), (9, _), (10, _)] J4 (fun (g : Nat) (t : Unit) s ob => s = [(11, .V (g : Int))] ∧ ob = []) ⟨I, I⟩ ⟨I, J⟩ ⟨[], I, by decide⟩ ?_ ?_
 rintro g i t D s ob E u ⟨rfl, rfl⟩ h F
 unfold K2.B2 at h
 have G := Cn u
 refine Ah I (Aa fun P H => Bs I G (sL ?_))
 subst H
 refine sN (sM (Aa fun Q K => sH (An 2 [.x 0 g (A9 i)] I ⟨⟨I, Ae E⟩, J⟩ (sJ [] I (sS [.V 0, .V 0] 2 fun R => sJ [0] I (A3 0 0 0 [A9 i] I (sI ?_)))))))
 subst K
 refine Ai (fun s ob => ∃ (j : Bool), K2.J3 j = some D ∧ s = [(39, .v (.bool j))] ∧ ob = []) [(1, _), (2, _), (9, _), (10, _), (11, _)] J5 ?_ ?_
 refine sH (An 6 [.o 1 0, .l 3 (e.length : Int)] I ⟨Ay, I, J⟩ ?_)
 rcases bt (decide (i.Batch ≥ (e.length : Int))) with b | b
 replace h := Bq b h
 refine Af 20 I b (Ag 19 I (sI ?_))
 exact lg ⟨true, h, I2⟩ []
 replace h := Br b h
 obtain ⟨a, ⟨w, y⟩, h⟩ := A5 h
 refine Af 20 I b (An 9 [.o 2 0, .x 3 a.1 (D3 a.2)] I ⟨⟨w, Ae y⟩, I, J⟩ ?_)
 rcases bt (decide (a.2.Product < 0)) with c | c
 replace h := Bq c h
 refine Af 29 I c (Ag 10 I (sI ?_))
 exact lg ⟨true, h, I2⟩ []
 replace h := Br c h
 refine Af 29 I c (An 10 [.o 2 0, .x 3 a.1 (D3 a.2), .l 7 (f.length : Int)] I ⟨Ay, ⟨w, Ae y⟩, I, J⟩ (sI ?_))
 exact lg ⟨decide (a.2.Product ≥ (f.length : Int)), h, I2⟩ []
 rintro s ob ⟨j, h, rfl, rfl⟩
 refine Ar h I ?_ ?_
 intro M h
 refine Ah I ?_
 obtain rfl := F _ (oi h).symm
 replace h := p
 replace h := C1 h
 obtain rfl := oi h
 exact sO pr
 intro M h
 refine sL (sH (An 2 [.k 0 (g + 1 : Nat)] I ⟨A0 u A, J⟩ ?_))
 obtain rfl := oi h
 exact sI ⟨_, _, _, I, I2, J5, [], I, by decide⟩
 rintro t s ob ⟨rfl, rfl⟩ he
 subst he
 have h := C6 p
 have N := Co d.length
 refine Ah I (Aa fun S U => Bu I N (sQ ?_))
 exact lg ⟨(), h, I2⟩ []
 rintro s ob ⟨n, h, rfl, rfl⟩
 refine Ah I ?_
 obtain rfl := oi h
 exact sO pr
theorem T3 (a : Bounds) (r : Bool) (h : Gb a = r) : ACalls Aj 107 [.agg (Aq a)] [] (fun x new => x = .v (.bool r) ∧ new = []) := by
 refine Ad Tryz.func107 I I I fun C hC => ?_
 unfold Gb at h
 refine Aa fun e d => sH (sJ [] I (Bo (Aq a) 2 fun f => Ag 1 I (sI ?_)))
 subst d
 refine Ai (fun s ob => s = [(2, .v (.bool (decide (a.Low ≤ a.High) && (decide (a.Low ≥ (-1125899906842624)) && decide (a.High ≤ 1125899906842624)))))] ∧ ob = []) [] J ?_ ?_
 refine sH (An 6 [.o 1 0, .o 3 0] I J2 ?_)
 rcases bt (decide (a.Low ≤ a.High)) with b | b
 refine Af 8 I b (An 5 [.o 1 0] I J1 ?_)
 rcases bt (decide (a.Low ≥ (-1125899906842624))) with c | c
 refine Af 13 I c (An 5 [.o 1 0] I J1 (sI ?_))
 exact lf I2 ⟨(Dn (by simp only [b, c, bz])), J⟩ [] I
 refine Af 13 I c (Ag 5 I (sI ?_))
 exact lf I2 ⟨(Dn (by simp only [b, c, bz])), J⟩ [] I
 refine Af 8 I b (Ag 10 I (sI ?_))
 exact lf I2 ⟨(Dn (by simp only [b, bz])), J⟩ [] I
 rintro s ob ⟨rfl, rfl⟩
 obtain rfl := h
 exact sO pr
theorem T8 (b : Li) (a : Int) (r : Li) (h : Ng b a = some r) : ACalls Aj 162 [Q0 b, .V a] [] (fun x new => x = Q0 r ∧ new = []) := by
 refine Ad Tryz.func162 I I I fun C hC => ?_
 unfold Ng at h
 refine Ah I (Ah I (Ai (fun s ob => ∃ (c : Int), Ng.J1 b a c = some r ∧ s = [(5, .V c)] ∧ ob = []) [(0, _), (1, _)] J2 ?_ ?_))
 refine sM ?_
 obtain ⟨ak, B, D⟩ := Ac h
 clear h
 refine Cs B [(0, _), (1, _)] J2 (fun (d : Int) s ob => s = [(5, .V d)] ∧ ob = []) ⟨I, I⟩ ⟨I, J⟩ ⟨[], I, by decide⟩ ?_
 rintro d E s ob ⟨rfl, rfl⟩ h F
 unfold Ng.B4 at h
 refine sN (Ai (fun s ob => ∃ (k : Bool), Ng.J5 d k = some E ∧ s = [(17, .v (.bool k))] ∧ ob = []) [(0, _), (1, _), (5, _)] J3 ?_ ?_)
 refine sH (An 5 [.l 2 (b.length : Int)] I ⟨Ay, J⟩ ?_)
 rcases bt (decide (d < (b.length : Int))) with e | e
 replace h := Bq e h
 obtain ⟨m, ⟨G, H⟩, h⟩ := A5 h
 refine Af 10 I e (An 7 [.x 2 m.1 (rI m.2)] I ⟨⟨G, Ae H⟩, J⟩ (sI ?_))
 exact lg ⟨decide (m.2 < a), h, I2⟩ []
 replace h := Br e h
 refine Af 10 I e (Ag 7 I (sI ?_))
 exact lg ⟨false, h, I2⟩ []
 rintro s ob ⟨k, h, rfl, rfl⟩
 refine Ar h I ?_ ?_
 intro M h
 refine sL (sM (sH (Ag 3 I ?_)))
 obtain rfl := oi h
 exact sI ⟨_, _, _, I, I2, J3, [], I, by decide⟩
 intro M h
 obtain rfl := F _ (oi h).symm
 replace h := D
 refine sQ ?_
 exact lg ⟨d, h, I2⟩ []
 rintro s ob ⟨c, h, rfl, rfl⟩
 unfold Ng.J1 at h
 refine Aa fun al N => Ai (fun s ob => ∃ (n : Bool), Ng.J2 b a c n = some r ∧ s = [(31, .v (.bool n))] ∧ ob = []) [(0, _), (1, _), (5, _)] J3 ?_ ?_
 refine sH (An 5 [.l 2 (b.length : Int)] I ⟨Ay, J⟩ ?_)
 rcases bt (decide (c < (b.length : Int))) with f | f
 replace h := Bq f h
 obtain ⟨o, ⟨O, P⟩, h⟩ := A5 h
 refine Af 24 I f (An 7 [.x 2 o.1 (rI o.2)] I ⟨⟨O, Ae P⟩, J⟩ (sI ?_))
 exact lg ⟨(o.2 == a), h, I2⟩ []
 replace h := Br f h
 refine Af 24 I f (Ag 7 I (sI ?_))
 exact lg ⟨false, h, I2⟩ []
 rintro s ob ⟨n, h, rfl, rfl⟩
 refine Ar h I ?_ ?_
 intro Q h
 refine Ah I ?_
 obtain rfl := oi h
 exact sO pr
 intro Q h
 refine sL ?_
 subst N
 refine Ai (fun s ob => ∃ (g : Li) (j : Value), Ng.J3 g = some r ∧ s = [(4, .v j)] ∧ ob = [U0 j g]) [] J ?_ ?_
 obtain ⟨am, R, h⟩ := Ac h
 obtain ⟨S, U, W, X, Y, Z, aa⟩ := Qw R
 obtain ⟨an, p, h⟩ := Ac h
 obtain ⟨ao, t, h⟩ := Ac h
 obtain ⟨aq, ab, h⟩ := Ac h
 obtain ⟨ac, ad, ae, af, ag, ah, ai⟩ := Qw ab
 obtain ⟨u, w, h⟩ := Ac h
 refine By (sl 3 1 (.still 5 (sl 3 8 (.two 0 6 (.two 4 6 (.act 6 (.act 7 (.act 11 (.still 12 .nil)))) (.act 4 (.act 7 (.act 11 (.still 12 .nil))))) (.act 0 (.act 4 (.act 7 (.act 11 (.still 12 .nil))))))))) [] [] I (Bg 2 I (sY I (Wc S U 0 I I I I I (qY W) ⟨_, _, I, X⟩ I Y Z aa) I (Bg 3 I (sY I (Wc ac ad 0 I I I I I ⟨_, _, I, ae⟩ (rW af) I ag ah ai) I (sW ?_ ?_)))))
 refine sK [] I I I (sX (sz := 1) (es := ([] : Li).map rI) I I I I I I I I I I I dS fun aj => sW ?_ ?_)
 refine sK [0] I I I (C7 0 I p fun y => sK [] I I I (sR 1 (([a] : Li).map rI) (sK [0] I I I (C7 0 I t fun A => sK [0] I I I (C7 0 I w fun i => Bg 1 I (Ap (sI ?_)))))))
 exact lg ⟨u, i, h, I2⟩ [0]
 refine sK [] I I I (sR 1 (([a] : Li).map rI) (sK [0] I I I (C7 0 I p fun y => sK [0] I I I (C7 0 I t fun A => sK [0] I I I (C7 0 I w fun i => Bg 1 I (Ap (sI ?_)))))))
 exact lg ⟨u, i, h, I2⟩ [0]
 refine sK [] I I I (sR 1 (([a] : Li).map rI) (sK [] I I I (sX (sz := 1) (es := ([] : Li).map rI) I I I I I I I I I I I dS fun aj => sK [0] I I I (C7 0 I p fun y => sK [0] I I I (C7 0 I t fun A => sK [0] I I I (C7 0 I w fun i => Bg 1 I (Ap (sI ?_))))))))
 exact lg ⟨u, i, h, I2⟩ [0]
 rintro s ob ⟨g, j, h, rfl, rfl⟩
 refine sP (Bk [0] (K := [U0 j g]) I [(4, Q0 g)] ⟨⟨_, I, .us 0 I⟩, J⟩ (ob' := []) (.rest _)) ?_
 obtain rfl := oi h
 exact sO pr
theorem gB (a : Sg) (b : List Piece) (r : Li) (h : Nf a b = some r) : ACalls Aj 110 [.agg (Ak a), Q4 b] [] (fun x new => x = Q0 r ∧ new = []) := by
 refine Ad Tryz.func110 I I I fun C hC => ?_
 unfold Nf at h
 refine Aa fun W t => sH (sJ [] I (Bo (Ak a) 7 fun u => Ag 1 I (sI ?_)))
 subst t
 refine Ah I (Ai (fun s ob => ∃ (g : Li), Nf.J1 b g = some r ∧ s = [(5, Q0 g)] ∧ ob = []) [(1, _)] J1 ?_ ?_)
 refine Bh [.o 1 0, .l 2 (a.Points.length : Int)] I ⟨Ay, I, J⟩ (sM (Bz 11 I fun w => sP (Bk [] (K := []) I [(5, .list 1 ([].map rI))] ⟨⟨_, I, .nil _⟩, J⟩ (ob' := [O5 u [Ak a]]) (.rest _)) ?_))
 obtain ⟨X, y, A⟩ := Ac h
 clear h
 refine Ct y [(1, _), (11, _), (12, _)] J3 (fun (d : Nat) (e : Li) s ob => s = [(13, .V (d : Int)), (5, Q0 e)] ∧ ob = []) ⟨I, I⟩ ⟨I, I, J⟩ ⟨[], I, by decide⟩ ?_ ?_
 rintro d j e Y s ob B n ⟨rfl, rfl⟩ h
 have D := Cn n
 refine Ah I (Aa fun Z E => Bs I D (sL ?_))
 subst E
 refine sN (sM (sN (sH (An 2 [.x 0 d (Bi j)] I ⟨⟨I, Ae B⟩, J⟩ (sJ [] I (sS W1 3 fun aa => sJ [0] I (A3 0 0 0 [Bi j] I (sI ?_))))))))
 obtain ⟨ab, F, h⟩ := Ac h
 refine sH (An 3 [.o 2 0] I J1 (sJ [] I (Ci I I I (T8 _ _ _ F) dS ?_)))
 rintro _ _ ⟨rfl, rfl⟩
 refine Ag 1 I (sI (sH (An 2 [.k 0 (d + 1 : Nat)] I ⟨A0 n w, J⟩ ?_)))
 obtain rfl := oi h
 exact sI (lg I2 [])
 rintro e s ob ⟨rfl, rfl⟩ he
 subst he
 have h := A
 have G := Co a.Points.length
 refine Ah I (Aa fun ac ad => Bu I G (sQ ?_))
 exact lg ⟨e, h, I2⟩ []
 rintro s ob ⟨g, h, rfl, rfl⟩
 unfold Nf.J1 at h
 refine Ah I (Ai (fun s ob => ∃ (i : Li), Nf.J2 i = some r ∧ s = [(5, Q0 i)] ∧ ob = []) [] J ?_ ?_)
 refine Bh [.l 1 (b.length : Int)] I ⟨Ay, J⟩ (sM (Bz 22 I fun H => ?_))
 obtain ⟨ae, M, N⟩ := Ac h
 clear h
 refine Ct M [(1, _), (23, _)] J2 (fun (f : Nat) (c : Li × Int) s ob => s = [(24, .V (f : Int)), (5, Q0 c.1), (8, .V c.2)] ∧ ob = []) ⟨I, I⟩ ⟨I, I, I, J⟩ ⟨[], I, by decide⟩ ?_ ?_
 rintro f O c af s ob P p ⟨rfl, rfl⟩ h
 have Q := Cn p
 refine Ah I (Aa fun ag R => Bs I Q (sL ?_))
 subst R
 refine sN (sM (Ah I (Bh [.x 3 f (A9 O)] I ⟨⟨I, Ae P⟩, J⟩ ?_)))
 obtain ⟨ah, S, h⟩ := Ac h
 refine sH (Ag 2 I (sJ [] I (Ci I I I (T8 _ _ _ S) dS ?_)))
 rintro _ _ ⟨rfl, rfl⟩
 refine Ag 1 I (sI (sH (An 2 [.k 0 (f + 1 : Nat)] I ⟨A0 p H, J⟩ ?_)))
 obtain rfl := oi h
 exact sI (lg I2 [])
 rintro c s ob ⟨rfl, rfl⟩ he
 subst he
 have h := N
 have U := Co b.length
 refine Ah I (Aa fun ai aj => Bu I U (sQ ?_))
 exact lg ⟨c.1, h, I2⟩ []
 rintro s ob ⟨i, h, rfl, rfl⟩
 refine Ah I ?_
 obtain rfl := oi h
 exact sO pr
theorem fB (a : List Piece) (d : Int) (r : Int) (h : M6 a d = some r) : ACalls Aj 163 [Q4 a, .V d] [] (fun x new => x = .V r ∧ new = []) := by
 refine Ad Tryz.func163 I I I fun C hC => ?_
 unfold M6 at h
 refine Ah I (Aa fun N t => Ai (fun s ob => ∃ (f : Bool), M6.J1 a d f = some r ∧ s = [(13, .v (.bool f))] ∧ ob = []) [(0, _), (1, _)] J2 ?_ ?_)
 obtain ⟨u, w, h⟩ := Ac h
 refine sH (Ag 1 I (Cc (Oc _ _ w) (Ag 2 I ?_)))
 rcases bt ((!u)) with b | b
 replace h := Bq b h
 refine Af 10 I b (Ag 3 I (sI ?_))
 exact lg ⟨true, h, I2⟩ []
 replace h := Br b h
 refine Af 10 I b (Ag 3 I (sI ?_))
 exact lg ⟨decide (d < 0), h, I2⟩ []
 rintro s ob ⟨f, h, rfl, rfl⟩
 refine Ar h I ?_ ?_
 intro y h
 refine Ah I ?_
 obtain rfl := oi h
 exact sO pr
 intro y h
 refine sL ?_
 subst t
 refine Ai (fun s ob => ∃ (i : Unit), M6.J2 i = some r ∧ s = [] ∧ ob = []) [] J ?_ ?_
 refine Bh [.l 1 (a.length : Int)] I ⟨Ay, J⟩ (sM (Bz 14 I fun A => ?_))
 obtain ⟨O, B, j⟩ := Ac h
 clear h
 refine Bx B [(14, _), (15, _)] J2 (fun (e : Nat) (g : Int) s ob => s = [(16, .V (e : Int)), (1, .V g)] ∧ ob = []) ⟨I, I⟩ ⟨I, I, J⟩ ⟨[], I, by decide⟩ ?_ ?_
 rintro e n g P s ob D p ⟨rfl, rfl⟩ h E
 have F := Cn p
 refine Ah I (Aa fun Q G => Bs I F (sL ?_))
 subst G
 refine sN (sM (Aa fun R H => sH (An 2 [.x 0 e (A9 n)] I ⟨⟨I, Ae D⟩, J⟩ (sJ [] I (sS [.V 0, .V 0] 2 fun S => sJ [0] I (A3 0 0 0 [A9 n] I (sI ?_)))))))
 subst H
 refine sN (Bh [.o 2 0] I J1 (Ar h I ?_ ?_))
 intro K h
 refine Bh [.o 1 0] I J1 ?_
 obtain rfl := E _ (oi h).symm
 replace h := j
 replace h := C1 h
 refine sP g0 ?_
 obtain rfl := oi h
 exact sO pr
 intro K h
 refine sL (Ey [.o 2 0] I J1 (sH (An 2 [.k 0 (e + 1 : Nat)] I ⟨A0 p A, J⟩ ?_)))
 obtain rfl := oi h
 exact sI ⟨_, _, _, I, I2, J4, [], I, by decide⟩
 rintro g s ob ⟨rfl, rfl⟩ he
 subst he
 have h := C6 j
 have M := Co a.length
 refine Ah I (Aa fun U W => Bu I M (sQ ?_))
 exact lg ⟨(), h, I2⟩ []
 rintro s ob ⟨i, h, rfl, rfl⟩
 refine Ah I ?_
 obtain rfl := oi h
 exact sO pr
theorem T1 (a : Sg) (y : List Piece) (A : List Batch) (B : List Product) (i : Int) (j : Int) (k : Int) (r : Int × Int × Int × Int) (h : M7 a y A B i j k = some r) : ACalls Aj 111 [.agg (Ak a), Q4 y, Q3 A, Q2 B, .V i, .V j, .V k] [] (fun x new => x = .tup [.V r.1, .V r.2.1, .V r.2.2.1, .V r.2.2.2] ∧ new = []) := by
 refine Ad Tryz.func111 I I I fun C hC => ?_
 refine Aa fun y1 F => sH (sJ [] I (Bo (Ak a) 7 fun l => Ag 4 I (sI ?_)))
 subst F
 refine Aa fun y3 G => ?_
 obtain ⟨r4, H, h⟩ := Ac h
 obtain ⟨D, ⟨K, M⟩, h⟩ := A5 h
 obtain ⟨d, ⟨N, O⟩, h⟩ := A5 h
 refine sH (Ag 4 I (Cc (fB _ _ _ H) (An 5 [.x 0 D.1 (D3 D.2), .x 3 d.1 (Bw d.2)] I ⟨⟨N, Ae O⟩, ⟨K, Ae M⟩, J⟩ (sJ [] I (sS W5 5 fun n => sJ [1] I (A3 1 0 0 [Bw d.2] I (sI ?_)))))))
 subst G
 refine Ah I (Ai (fun s ob => ∃ (p : Int), M7.J1 a i j k d p = some r ∧ s = [(19, .V p)] ∧ ob = [O5 l [Ak a], .arr n 72 5 1 [Bw d.2]]) [(4, _), (5, _), (6, _), (7, _), (18, _)] J5 ?_ ?_)
 refine sM ?_
 obtain ⟨ag, P, Q⟩ := Ac h
 clear h
 refine Cs P [(4, _), (5, _), (6, _), (7, _), (18, _)] J5 (fun (t : Int) s ob => s = [(19, .V t)] ∧ ob = [O5 l [Ak a], .arr n 72 5 1 [Bw d.2]]) ⟨I, I⟩ ⟨I, J⟩ ⟨[0, 1], I, by decide⟩ ?_
 rintro t ah s ob ⟨rfl, rfl⟩ h R
 refine sN (sN ?_)
 obtain ⟨E, ⟨S, U⟩, h⟩ := A5 h
 refine Ey [.o 1 0, .x 4 E.1 (Bi E.2)] I ⟨⟨S, Ae U⟩, I, J⟩ (Ar h I ?_ ?_)
 intro W h
 refine sL (sM (sH (Ag 3 I ?_)))
 obtain rfl := oi h
 exact sI ⟨_, _, _, I, I2, J6, [0, 1], I, by decide⟩
 intro W h
 obtain rfl := R _ (oi h).symm
 replace h := Q
 refine sQ ?_
 exact lg ⟨t, h, I2⟩ [0, 1]
 rintro s ob ⟨p, h, rfl, rfl⟩
 unfold M7.J1 at h
 refine Ai (fun s ob => ∃ (e : Int × Int × Int × Int × Int × Int) (u : Nat) (w : Nat), M7.J2 a i j k d e = some r ∧ s = [(20, .v (.pointer (some ⟨u, 0, none⟩))), (21, .v (.pointer (some ⟨w, 0, none⟩)))] ∧ ob = [O5 l [Ak a], .arr n 72 5 1 [Bw d.2], .arr u 102 3 1 [[.V e.1, .V e.2.1, .V e.2.2.1]], .arr w 102 3 1 [[.V e.2.2.2.1, .V e.2.2.2.2.1, .V e.2.2.2.2.2]]]) [(4, _), (5, _), (6, _), (7, _), (18, _)] J5 ?_ ?_
 obtain ⟨f, ⟨X, Y⟩, h⟩ := A5 h
 obtain ⟨g, ⟨Z, aa⟩, h⟩ := A5 h
 refine By (sl 11 0 (.par [(11, []), (12, [])] (.act 13 (.act 14 .nil)))) [0] [_] I (B8 11 [.o 1 0, .x 3 f.1 (Bi f.2), .o 6 0, .x 9 g.1 (Bi g.2)] I ⟨⟨Z, Ae aa⟩, I, ⟨X, Ae Y⟩, I, J⟩ (AP.any [⟨11, [], 20, .box 102 3 (W1)⟩, ⟨12, [], 21, .box 102 3 (W1)⟩] I ⟨⟨_, I, I, I, fun _ => sS W1 3 fun b => ⟨_, I, ⟨b, I⟩, I⟩⟩, ⟨_, I, I, I, fun _ => sS W1 3 fun b => ⟨_, I, ⟨b, I⟩, I⟩⟩, J⟩ ?_))
 intro ab ac
 refine sK [2] I I I (A3 2 0 0 [Bi f.2] I (sK [3] I I I (A3 3 0 0 [Bi g.2] I (Ap (sI ?_)))))
 exact lg ⟨(f.2.At, f.2.Height, f.2.Limit, g.2.At, g.2.Height, g.2.Limit), ab, ac, h, I2⟩ [0, 1, 2, 3]
 rintro s ob ⟨e, u, w, h, rfl, rfl⟩
 refine Ke (pd 39 0 []) [0, 1, 3, 2] [_, _, _, _] [.o 1 0, .o 3 1, .o 14 0, .o 17 1, .o 20 2, .o 22 3, .o 30 2, .o 32 3] I I J8 (sP g0 ?_)
 obtain rfl := oi h
 exact sO ⟨.inr I, [_, _, _, _], [], J4, Cm, I2⟩
theorem Ts (d : Int) (b : Int) (r : Bool) (h : M0 d b = r) : ACalls Aj 164 [.V d, .V b] [] (fun x new => x = .v (.bool r) ∧ new = []) := by
 refine Ad Tryz.func164 I I I fun C hC => ?_
 unfold M0 at h
 refine Ah I (Ai (fun s ob => s = [(4, .v (.bool (decide (b ≥ 1) && (decide (b ≤ 1099511627776) && (decide (d ≥ (-2305843009213693952)) && decide (d ≤ 2305843009213693952))))))] ∧ ob = []) [] J ?_ ?_)
 refine sH (Ag 3 I ?_)
 rcases bt (decide (b ≥ 1)) with a | a
 refine Af 7 I a (Ag 4 I ?_)
 rcases bt (decide (b ≤ 1099511627776)) with c | c
 refine Af 11 I c (Ag 4 I ?_)
 rcases bt (decide (d ≥ (-2305843009213693952))) with e | e
 refine Af 15 I e (Ag 4 I (sI ?_))
 exact lf I2 ⟨(Dn (by simp only [a, c, e, bz])), J⟩ [] I
 refine Af 15 I e (Ag 4 I (sI ?_))
 exact lf I2 ⟨(Dn (by simp only [a, c, e, bz])), J⟩ [] I
 refine Af 11 I c (Ag 8 I (sI ?_))
 exact lf I2 ⟨(Dn (by simp only [a, c, bz])), J⟩ [] I
 refine Af 7 I a (Ag 12 I (sI ?_))
 exact lf I2 ⟨(Dn (by simp only [a, bz])), J⟩ [] I
 rintro s ob ⟨rfl, rfl⟩
 obtain rfl := h
 exact sO pr
theorem Ju (b : Int) (d : Int) (r : Int) (h : Iq b d = some r) : ACalls Aj 112 [.V b, .V d] [] (fun x new => x = .V r ∧ new = []) := by
 refine Ad Tryz.func112 I I I fun C hC => ?_
 refine Ah I (Aa fun o i => sN (sH (Ag 2 I (Cc (Ts b d _ I) (Ag 1 I (sI (Ar h I ?_ ?_)))))))
 intro j h
 refine Ah I ?_
 obtain rfl := oi h
 exact sO pr
 intro j h
 refine sL ?_
 subst i
 refine Aa fun p k => ?_
 obtain ⟨a, l, h⟩ := Ac h
 refine Ey [.f 2 (.V a)] I ⟨Yp.yd (Em (c := a) I I (Rd l)), J⟩ ?_
 subst k
 refine Ai (fun s ob => ∃ (e : Int), Iq.J1 e = some r ∧ s = [(5, .V e)] ∧ ob = []) [] J ?_ ?_
 refine sN ?_
 obtain ⟨g, m, h⟩ := Ac h
 refine Ey [.f 2 (.V g)] I ⟨Yp.yd (Em (c := g) I I (Iz m)), J⟩ (Ar h I ?_ ?_)
 intro n h
 refine Sj I ?_
 exact lg ⟨wr (a + 1), h, I2⟩ []
 intro n h
 refine sL ?_
 exact lg ⟨a, h, I2⟩ []
 rintro s ob ⟨e, h, rfl, rfl⟩
 refine Ah I ?_
 obtain rfl := oi h
 exact sO pr
theorem J0 (b : Int) (d : Int) (r : Int) (h : Iv b d = some r) : ACalls Aj 113 [.V b, .V d] [] (fun x new => x = .V r ∧ new = []) := by
 refine Ad Tryz.func113 I I I fun C hC => ?_
 refine Ah I (Aa fun o i => sN (sH (Ag 2 I (Cc (Ts b d _ I) (Ag 1 I (sI (Ar h I ?_ ?_)))))))
 intro j h
 refine Ah I ?_
 obtain rfl := oi h
 exact sO pr
 intro j h
 refine sL ?_
 subst i
 refine Aa fun p k => ?_
 obtain ⟨a, l, h⟩ := Ac h
 refine Ey [.f 2 (.V a)] I ⟨Yp.yd (Em (c := a) I I (Rd l)), J⟩ ?_
 subst k
 refine Ai (fun s ob => ∃ (e : Int), Iv.J1 e = some r ∧ s = [(5, .V e)] ∧ ob = []) [] J ?_ ?_
 refine sN ?_
 obtain ⟨g, m, h⟩ := Ac h
 refine Ey [.f 2 (.V g)] I ⟨Yp.yd (Em (c := g) I I (Iz m)), J⟩ (Ar h I ?_ ?_)
 intro n h
 refine Sj I ?_
 exact lg ⟨wr (a - 1), h, I2⟩ []
 intro n h
 refine sL ?_
 exact lg ⟨a, h, I2⟩ []
 rintro s ob ⟨e, h, rfl, rfl⟩
 refine Ah I ?_
 obtain rfl := oi h
 exact sO pr
theorem eD (i : Sg) (P : List Piece) (Q : List Batch) (R : List Product) (e : Int) (a : Bounds) (r : (List Level) × Int) (h : Hw i P Q R e a = some r) : ACalls Aj 67 [.agg (Ak i), Q4 P, Q3 Q, Q2 R, .V e, .agg (Aq a)] [] (fun x new => ∃ (u0 : Value), x = .tup [.v u0, .V r.2] ∧ new = [U4 u0 r.1]) := by
 refine Ad Tryz.func67 I I I fun C hC => ?_
 refine Aa fun y1 an => sH (sJ [] I (Bo (Ak i) 7 fun S => sJ [] I (Bo (Aq a) 2 fun b3 => Ag 2 I (sI ?_))))
 subst an
 refine Aa fun y4 ao => sN ?_
 obtain ⟨r5, ap, h⟩ := Ac h
 refine sH (An 2 [.o 0 0] I J1 (Cc (gE _ _ _ ap) (Ag 1 I (sI (Ah I (Ar h I ?_ ?_))))))
 intro aq h
 refine Ah I (sP (Bv 131 3) (Cu [2] I ?_))
 obtain rfl := oi h
 rotate_left
 intro aq h
 refine sL ?_
 subst ao
 refine Aa fun y8 ar => sN ?_
 obtain ⟨r9, au, h⟩ := Ac h
 refine sH (Ag 1 I (Cc (Ua _ _ au) (Ag 1 I (sI (Ah I (Ar h I ?_ ?_))))))
 intro av h
 refine Ah I (sP (Bv 131 3) (Cu [2] I ?_))
 obtain rfl := oi h
 rotate_left
 intro av h
 refine sL ?_
 subst ar
 refine Aa fun cp aw => sM (Aa fun cq ax => ?_)
 obtain ⟨cr, ay, h⟩ := Ac h
 refine sH (Ag 3 I (Cc (T9 _ _ _ _ ay) (Ag 2 I (sI ?_))))
 subst ax
 refine Ar h I ?_ ?_
 intro az h
 refine Ah I (sP (Bv 131 3) (Cu [2] I ?_))
 obtain rfl := oi h
 any_goals
  exact sO ⟨.inr I, [_, _], [.us (.slice none 0 0) 131 3 ([].map Ao)], J2, Cy I (Cm), ⟨(.slice none 0 0), I2⟩⟩
 intro az h
 refine Ec 47 ((e == 0) || (decide (e < (-1000)) || (decide (e > 1000) || (!(Gb a))))) ?_ ?_
 refine sH (Ag 3 I ?_)
 rcases bt ((e == 0)) with j | j
 refine Af 50 I j (Ag 13 I (sI ?_))
 exact jf (by simp only [j, bz]) I I I2
 refine Af 50 I j (Ag 4 I ?_)
 rcases bt (decide (e < (-1000))) with k | k
 refine Af 54 I k (Ag 9 I (sI ?_))
 exact jf (by simp only [j, k, bz]) I I I2
 refine Af 54 I k (Ag 4 I ?_)
 rcases bt (decide (e > 1000)) with u | u
 refine Af 58 I u (Ag 5 I (sI ?_))
 exact jf (by simp only [j, k, u, bz]) I I I2
 refine Af 58 I u (An 1 [.o 0 1] I J1 (Cd I I I (Cc (T3 a _ I) (Ag 3 I (sI ?_)))))
 exact jf (by simp only [j, k, u, bz]) I I I2
 refine Ar h I ?_ ?_
 intro a0 h
 refine Ah I (sP (Bv 131 3) (Cu [2] I ?_))
 obtain rfl := oi h
 exact sO ⟨.inr I, [_, _], [.us (.slice none 0 0) 131 3 ([].map Ao)], J2, Cy I (Cm), ⟨(.slice none 0 0), I2⟩⟩
 intro a0 h
 refine sL ?_
 subst aw
 refine Aa fun ct a1 => ?_
 obtain ⟨w, a2, h⟩ := Ac h
 refine sH (An 2 [.o 0 0] I J1 (sJ [] I (Ci I I I (gB _ _ _ a2) dS ?_)))
 rintro _ _ ⟨rfl, rfl⟩
 refine Ag 1 I (sI ?_)
 subst a1
 refine Aa fun cu a3 => ?_
 obtain ⟨af, ⟨cv, a4, a5, a6⟩, h⟩ := Gm h
 refine sH (An 2 [.l 1 (w.length : Int)] I ⟨Ay, J⟩ (sJ [] I (Bp (sz := 3) I I I I I I I I I I a4 a5 (Cr (f := Ao) a6 I) dS fun g => Ag 1 I (sI ?_))))
 subst a3
 refine Aa fun cw a7 => sH (An 1 [.o 0 1] I J1 (sJ [] I (sS [.V 0, .V 0] 2 fun U => sJ [3] I (A3 3 0 0 [Aq a] I (sI ?_)))))
 subst a7
 refine Ai (fun s ob => ∃ (ag : Unit), Hw.J1 i P Q R e a w af ag = some r ∧ s = [] ∧ ob = [O5 S [Ak i], U4 g af, O8 U [Aq a]]) [(1, _), (2, _), (3, _), (4, _), (6, _), (16, _), (17, _), (18, _)] J8 ?_ ?_
 refine Ah I (Ar h I ?_ ?_)
 intro a8 h
 refine Aa fun cx a9 => ?_
 obtain ⟨y, ⟨ba, bb⟩, h⟩ := A5 h
 obtain ⟨W, ⟨bc, X⟩, h⟩ := A5 h
 refine C5 2 W.1 I X fun bd => By (pd 8 0 [7]) [3] [_] I (B8 5 [.x 2 y.1 (rI y.2), .o 4 0] I ⟨I, ⟨ba, Ae bb⟩, J⟩ (sY I (Au (l := [.V y.2, .V a.Low, .V a.High]) E6 I) I (sY I (B0 (m := W.1) I I I I I bd I bc X) I (sK [2] I I I (Cg 2 W.1 0 I I I (Ae X) I I I I (Ca I) I (Df (x := (⟨y.2, a⟩ : Level)) I) (Ap (sI ?_)))))))
 subst a9
 refine Ai (fun s ob => ∃ (A : List Level), Hw.J4 A = some r ∧ s = [] ∧ ob = [U4 g A]) [(17, _)] J1 ?_ ?_
 refine Ah I (sM ?_)
 obtain ⟨cy, be, bf⟩ := Ac h
 clear h
 refine Cs be [(1, _), (2, _), (3, _), (4, _), (6, _), (16, _), (17, _), (18, _)] J8 (fun (b : (List Level) × Int × Int × Int) s ob => s = [(19, .V b.2.2.2)] ∧ ob = [O5 S [Ak i], U4 g b.1, O8 U [[.V b.2.1, .V b.2.2.1]]]) ⟨I, I⟩ ⟨I, J⟩ ⟨[0, 2, 3], I, by decide⟩ ?_
 rintro b cz s ob ⟨rfl, rfl⟩ h bg
 refine Aa fun c0 bh => Bh [.l 2 (w.length : Int)] I ⟨Ay, J⟩ (Ar h I ?_ ?_)
 intro bi h
 refine sL ?_
 subst bh
 refine sN (sM (Aa fun c1 bj => ?_))
 obtain ⟨ah, ⟨bk, bl⟩, h⟩ := A5 h
 obtain ⟨n, ⟨ai, aj⟩, h⟩ := A5 h
 obtain ⟨c2, bm, h⟩ := Ac h
 refine By (pd 24 0 [14]) [0] [_] I (B8 14 [.o 0 0, .x 8 ah.1 (rI ah.2), .x 12 n.1 (rI n.2)] I ⟨⟨ai, Ae aj⟩, ⟨bk, Ae bl⟩, I, J⟩ (Dp I (T1 _ _ _ _ _ _ _ _ bm) (Bg 9 I (Ap (sI ?_)))))
 subst bj
 refine sN ?_
 obtain ⟨B, bn, h⟩ := Ac h
 obtain ⟨D, bo, h⟩ := Ac h
 obtain ⟨E, bp, h⟩ := Ac h
 obtain ⟨F, bq, h⟩ := Ac h
 refine By (sl 4 0 (.still 6 (.still 7 (sl 4 10 (.still 16 (.still 17 (.act 4 (.still 5 (.act 8 (.still 9 (.act 14 (.still 15 (.act 18 (.still 19 (.still 20 (.drop 21 .nil)))))))))))))))) [2] [_] I (B8 12 [.o 1 0, .o 7 0] I J2 (Dp I (Ju _ _ _ bn) (Bg 1 I (Dp I (Ju _ _ _ bo) (Bg 1 I (Dp I (J0 _ _ _ bp) (Bg 1 I (Dp I (J0 _ _ _ bq) (Bg 1 I (tC I (Au (l := [.V (wr ((wr (b.2.1 - B)) - D)), .V (wr ((wr (b.2.2.1 - E)) - F))]) Do I) I (tB [2] I I I (A3 2 0 0 [[.V (wr ((wr (b.2.1 - B)) - D)), .V (wr ((wr (b.2.2.1 - E)) - F))]] I (Ap ?_)))))))))))))
 refine sI ?_
 obtain ⟨Y, ⟨br, Z⟩, h⟩ := A5 h
 refine C5 1 Y.1 I Z fun bs => By (pd 10 0 [9]) [2] [_] I (B8 7 [.x 4 n.1 (rI n.2), .o 6 0] I ⟨I, ⟨ai, Ae aj⟩, J⟩ (sY I (Au (l := [.V n.2, .V (wr ((wr (b.2.1 - B)) - D)), .V (wr ((wr (b.2.2.1 - E)) - F))]) E6 I) I (sY I (B0 (m := Y.1) I I I I I bs I br Z) I (sK [1] I I I (Cg 1 Y.1 0 I I I (Ae Z) I I I I (Ca I) I (Df (x := (⟨n.2, (⟨wr ((wr (b.2.1 - B)) - D), wr ((wr (b.2.2.1 - E)) - F)⟩ : Bounds)⟩ : Level)) I) (Ap (sI (sH (Ag 3 I ?_)))))))))
 obtain rfl := oi h
 exact sI ⟨_, _, _, I, I2, J9, [0, 1, 2], I, by decide⟩
 intro bi h
 obtain rfl := bg _ (oi h).symm
 replace h := bf
 refine sQ ?_
 exact lg ⟨b.1, h, I2⟩ [1]
 rintro s ob ⟨A, h, rfl, rfl⟩
 refine Ah I ?_
 obtain rfl := oi h
 exact sO ⟨.inr I, [_, _], [U4 g A], J2, Cy I (Cm), ⟨g, I2⟩⟩
 intro a8 h
 refine sL ?_
 exact lg ⟨(), h, I2⟩ [0, 2, 3]
 rintro s ob ⟨ag, h, rfl, rfl⟩
 refine Bh [.l 1 (w.length : Int)] I ⟨Ay, J⟩ (Aa fun c3 bu => ?_)
 obtain ⟨G, ⟨bv, bw⟩, h⟩ := A5 h
 obtain ⟨aa, ⟨bx, ab⟩, h⟩ := A5 h
 refine C5 1 aa.1 I ab fun b0 => By (pd 10 0 [9]) [2] [_] I (B8 7 [.x 4 G.1 (rI G.2), .o 6 0] I ⟨I, ⟨bv, Ae bw⟩, J⟩ (sY I (Au (l := [.V G.2, .V a.Low, .V a.High]) E6 I) I (sY I (B0 (m := aa.1) I I I I I b0 I bx ab) I (sK [1] I I I (Cg 1 aa.1 0 I I I (Ae ab) I I I I (Ca I) I (Df (x := (⟨G.2, a⟩ : Level)) I) (Ap (sI ?_)))))))
 subst bu
 refine Ai (fun s ob => ∃ (H : List Level), Hw.J2 H = some r ∧ s = [] ∧ ob = [U4 g H]) [(17, _)] J1 ?_ ?_
 refine Ah I (sM ?_)
 obtain ⟨c4, b1, b4⟩ := Ac h
 clear h
 refine Cs b1 [(1, _), (2, _), (3, _), (4, _), (6, _), (16, _), (17, _), (18, _)] J8 (fun (d : (List Level) × Int × Int × Int) s ob => s = [(25, .V d.2.2.2)] ∧ ob = [O5 S [Ak i], U4 g d.1, O8 U [[.V d.2.1, .V d.2.2.1]]]) ⟨I, I⟩ ⟨I, J⟩ ⟨[0, 1, 2], I, by decide⟩ ?_
 rintro d c5 s ob ⟨rfl, rfl⟩ h b5
 refine Aa fun c6 b6 => Ah I (Ar h I ?_ ?_)
 intro b7 h
 refine sL ?_
 subst b6
 refine sN (sM (Aa fun c7 b8 => ?_))
 obtain ⟨t, ⟨ak, al⟩, h⟩ := A5 h
 obtain ⟨am, ⟨b9, ca⟩, h⟩ := A5 h
 obtain ⟨c8, cb, h⟩ := Ac h
 refine By (pd 24 0 [14]) [0] [_] I (B8 14 [.o 0 0, .x 7 t.1 (rI t.2), .x 12 am.1 (rI am.2)] I ⟨⟨b9, Ae ca⟩, ⟨ak, Ae al⟩, I, J⟩ (Dp I (T1 _ _ _ _ _ _ _ _ cb) (Bg 9 I (Ap (sI ?_)))))
 subst b8
 refine sN ?_
 obtain ⟨K, cc, h⟩ := Ac h
 obtain ⟨M, cd, h⟩ := Ac h
 obtain ⟨N, ce, h⟩ := Ac h
 obtain ⟨O, cf, h⟩ := Ac h
 refine By (sl 4 0 (sl 3 6 (sl 4 11 (sl 3 17 (.act 4 (.still 5 (.act 9 (.still 10 (.act 15 (.still 16 (.act 20 (.still 21 (.still 22 (.drop 23 .nil)))))))))))))) [2] [_] I (B8 14 [.o 1 0, .o 8 0] I J2 (Dp I (Ju _ _ _ cc) (Bg 1 I (Dp I (Ju _ _ _ cd) (Bg 1 I (Dp I (J0 _ _ _ ce) (Bg 1 I (Dp I (J0 _ _ _ cf) (Bg 1 I (tC I (Au (l := [.V (wr ((wr (d.2.1 - K)) - M)), .V (wr ((wr (d.2.2.1 - N)) - O))]) Do I) I (tB [2] I I I (A3 2 0 0 [[.V (wr ((wr (d.2.1 - K)) - M)), .V (wr ((wr (d.2.2.1 - N)) - O))]] I (Ap ?_)))))))))))))
 refine sI ?_
 obtain ⟨ac, ⟨cg, ad⟩, h⟩ := A5 h
 refine C5 1 ac.1 I ad fun ci => By (pd 10 0 [9]) [2] [_] I (B8 7 [.x 4 t.1 (rI t.2), .o 6 0] I ⟨I, ⟨ak, Ae al⟩, J⟩ (sY I (Au (l := [.V t.2, .V (wr ((wr (d.2.1 - K)) - M)), .V (wr ((wr (d.2.2.1 - N)) - O))]) E6 I) I (sY I (B0 (m := ac.1) I I I I I ci I cg ad) I (sK [1] I I I (Cg 1 ac.1 0 I I I (Ae ad) I I I I (Ca I) I (Df (x := (⟨t.2, (⟨wr ((wr (d.2.1 - K)) - M), wr ((wr (d.2.2.1 - N)) - O)⟩ : Bounds)⟩ : Level)) I) (Ap (sI (sH (Ag 3 I ?_)))))))))
 obtain rfl := oi h
 exact sI ⟨_, _, _, I, I2, J9, [0, 1, 2], I, by decide⟩
 intro b7 h
 obtain rfl := b5 _ (oi h).symm
 replace h := b4
 refine sQ ?_
 exact lg ⟨d.1, h, I2⟩ [1]
 rintro s ob ⟨H, h, rfl, rfl⟩
 refine Ah I ?_
 obtain rfl := oi h
 exact sO ⟨.inr I, [_, _], [U4 g H], J2, Cy I (Cm), ⟨g, I2⟩⟩
end Go.Proofs.YtodeekicjiengaaGreatDoor
