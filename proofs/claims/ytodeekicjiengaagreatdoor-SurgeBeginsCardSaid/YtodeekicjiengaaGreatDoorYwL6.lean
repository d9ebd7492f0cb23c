/- Walks that show what functions of the program compute; printed by a program of ours. No condition. -/
import Derived.Test.YtodeekicjiengaaGreatDoorYwL5
import Derived.Test.YtodeekicjiengaaGreatDoorYwL1
set_option maxRecDepth 100000
namespace Go.Proofs.YtodeekicjiengaaGreatDoor
open Go.Aw
set_option linter.unusedVariables false
set_option linter.unusedSimpArgs false
set_option maxHeartbeats 4000000
abbrev kC : PL := .act 7 (.act 11 (.still 12 .nil))
theorem jI (a : Int) (r : Bool) (h : Qu a = r) : ACalls Aj 159 [.V a] [] (RB r) := by
 refine Ae Tryz.func159 I I I fun C hC => ?_
 unfold Qu at h
 refine Ah I (Ai (fun s ob => s = [(2, .v (.bool (decide (a ≥ 0) && decide (a < 1000))))] ∧ ob = []) [] J ?_ ?_)
 refine tV (Af 3 I ?_)
 rcases bt (decide (a ≥ 0)) with b | b
 refine Ad 5 I b (Af 4 I (tW ?_))
 exact lf I2 ⟨(Do (by simp only [b, bz])), J⟩ [] I
 refine Ad 5 I b (Af 4 I (tW ?_))
 exact lf I2 ⟨(Do (by simp only [b, bz])), J⟩ [] I
 rintro s ob ⟨rfl, rfl⟩
 obtain rfl := h
 exact uC pr
theorem Oi (b : List Piece) (r : Bool) (h : K1 b = some r) : ACalls Aj 102 [Q4 b] [] (RB r) := by
 refine Ae Tryz.func102 I I I fun C hC => ?_
 refine Ah I (Aa fun S y => Bh [.l 1 (b.length : Int)] I ⟨Ax, J⟩ (Ar h I ?_ ?_))
 intro A h
 refine Ah I ?_
 cases io h
 exact uC pr
 intro A h
 refine tZ ?_
 subst y
 refine Ah I (Ai (fun s ob => ∃ (n : Int), K1.J1 n = some r ∧ s = [(3, .V n)] ∧ ob = []) [] J ?_ ?_)
 refine Bh [.l 1 (b.length : Int)] I ⟨Ax, J⟩ (uA (B0 9 I fun B => ?_))
 obtain ⟨U, D, u⟩ := Ac h
 refine Bx D [(0, _), (9, _), (10, _)] J3 (fun (d : Nat) (e : Int) s ob => s = [(11, .V (d : Int)), (3, .V e)] ∧ ob = []) ⟨I, I⟩ ⟨I, I, J⟩ ⟨[], I, by decide⟩ ?_ ?_
 rintro d a e E s ob F w ⟨rfl, rfl⟩ h G
 unfold K1.B2 at h
 have H := Co w
 refine Ah I (Aa fun W K => Bp I H (tZ ?_))
 subst K
 refine uB (uA (Aa fun X M => tV (An 3 [.x 1 d (A4 a)] I ⟨⟨I, Ag F⟩, J⟩ (tX [] I (uF [.V 0, .V 0] 2 fun N => Af 1 I (tX [0] I (A3 0 0 0 [A4 a] I (tW ?_))))))))
 subst M
 refine uB (Ai (fun s ob => ∃ (p : Bool), K1.J3 a e p = some E ∧ s = [(44, .v (.bool p))] ∧ ob = [.arr N 105 2 1 [A4 a]]) [(0, _), (3, _), (5, _), (9, _), (10, _), (11, _)] J6 ?_ ?_)
 refine Bz (pd 29 0 [2]) [0] [_] I (Ca 2 [.o 1 0] I J1 (Dq I (jI a.Batch _ I) (Bf 2 I ?_)))
 rcases bt ((!(Qu a.Batch))) with f | f
 have h := Bu f h
 refine A5 20 I f (Bf 13 I (Be I I I I dS (Be I I I I dS (Be I I I I dS (Be I I I I dS (Be I I I I dS (Be I I I I dS (Be I I I I dS (Be I I I I dS (Be I I I I dS (Bf 2 I (Ap ?_))))))))))))
 exact tW (lg ⟨true, h, I2⟩ [0])
 have h := Bv f h
 refine A5 20 I f (Ca 5 [.o 1 0] I J1 ?_)
 rcases bt (decide (a.Volume < 1)) with g | g
 have h := Bu g h
 refine A5 25 I g (Bf 8 I (Be I I I I dS (Be I I I I dS (Be I I I I dS (Be I I I I dS (Be I I I I dS (Be I I I I dS (Be I I I I dS (Be I I I I dS (Be I I I I dS (Bf 2 I (Ap ?_))))))))))))
 exact tW (lg ⟨true, h, I2⟩ [0])
 have h := Bv g h
 refine A5 25 I g (Ca 5 [.o 1 0] I J1 ?_)
 rcases bt (decide (a.Volume > 1000000)) with i | i
 have h := Bu i h
 refine A5 30 I i (Bf 3 I (Be I I I I dS (Be I I I I dS (Be I I I I dS (Be I I I I dS (Be I I I I dS (Be I I I I dS (Be I I I I dS (Be I I I I dS (Be I I I I dS (Bf 2 I (Ap ?_))))))))))))
 exact tW (lg ⟨true, h, I2⟩ [0])
 have h := Bv i h
 refine A5 30 I i (Bf 3 I ?_)
 rcases bt (decide ((d : Int) > 0)) with j | j
 have h := Bu j h
 obtain ⟨t, ⟨O, P⟩, h⟩ := A6 h
 exact A5 33 I j (Ca 11 [.o 1 0, .x 5 t.1 (A4 t.2)] I ⟨⟨O, Ag P⟩, I, J⟩ (Ap (tW (lg ⟨(a.Batch == t.2.Batch), h, I2⟩ [0]))))
 have h := Bv j h
 exact A5 33 I j (Bf 11 I (Ap (tW (lg ⟨false, h, I2⟩ [0]))))
 rintro s ob ⟨p, h, rfl, rfl⟩
 refine Ar h I ?_ ?_
 intro Q h
 refine Ah I ?_
 obtain rfl := G _ (oi h).symm
 have h := u
 have h := C2 h
 refine uD g0 ?_
 cases io h
 exact uC pr
 intro Q h
 refine tZ (E2 [.o 2 0] I J1 (tV (An 2 [.k 0 (d + 1 : Nat)] I ⟨A0 w B, J⟩ ?_)))
 cases io h
 exact tW ⟨_, _, _, I, I2, J5, [], I, by decide⟩
 rintro e s ob ⟨rfl, rfl⟩ he
 subst he
 have h := C8 u
 have R := Cp b.length
 exact Ah I (Aa fun Y Z => Br I R (uE (lg ⟨e, h, I2⟩ [])))
 rintro s ob ⟨n, h, rfl, rfl⟩
 unfold K1.J1 at h
 refine Ah I ?_
 cases io h
 exact uC pr
theorem Tz (a : List Piece) (r : Int) (h : Kp a = some r) : ACalls Aj 103 [Q4 a] [] (RV (.V r)) := by
 refine Ae Tryz.func103 I I I fun C hC => ?_
 unfold Kp at h
 refine Ah I (Ah I (Ai (fun s ob => ∃ (d : Int), Kp.J1 d = some r ∧ s = [(3, .V d)] ∧ ob = []) [] J ?_ ?_))
 refine Bh [.l 1 (a.length : Int)] I ⟨Ax, J⟩ (uA (B0 5 I fun f => ?_))
 obtain ⟨q, g, i⟩ := Ac h
 refine Cu g [(0, _), (6, _)] J2 (fun (b : Nat) (c : Int) s ob => s = [(7, .V (b : Int)), (3, .V c)] ∧ ob = []) ⟨I, I⟩ ⟨I, I, J⟩ ⟨[], I, by decide⟩ ?_ ?_
 rintro b j c t s ob m e ⟨rfl, rfl⟩ h
 unfold Kp.B2 at h
 have n := Co e
 refine Ah I (Aa fun u o => Bp I n (tZ ?_))
 subst o
 refine uB (uA (Ah I (E2 [.x 3 b (A4 j)] I ⟨⟨I, Ag m⟩, J⟩ (tV (An 2 [.k 0 (b + 1 : Nat)] I ⟨A0 e f, J⟩ ?_)))))
 cases io h
 exact tW (lg I2 [])
 rintro c s ob ⟨rfl, rfl⟩ he
 subst he
 have h := i
 have p := Cp a.length
 exact Ah I (Aa fun w y => Br I p (uE (lg ⟨c, h, I2⟩ [])))
 rintro s ob ⟨d, h, rfl, rfl⟩
 unfold Kp.J1 at h
 refine Ah I ?_
 cases io h
 exact uC pr
theorem iD (a : Sg) (d : List Piece) (r : Int) (h : Qj a d = some r) : ACalls Aj 109 [.agg (Ak a), Q4 d] [] (RV (.V r)) := by
 refine Ae Tryz.func109 I I I fun C hC => ?_
 unfold Qj at h
 refine Aa fun u f => tV (tX [] I (Bo (Ak a) 7 fun g => Af 1 I (tW ?_)))
 subst f
 refine uB (uA (Ai (fun s ob => ∃ (e : Bool), Qj.J1 a d e = some r ∧ s = [(5, .v (.bool e))] ∧ ob = [O5 g [Ak a]]) [(1, _), (2, _)] J2 ?_ ?_))
 obtain ⟨i, j, h⟩ := Ac h
 refine tV (An 1 [.o 0 0] I J1 (Cd (jS _ _ j) (Af 2 I ?_)))
 rcases bt ((!i)) with b | b
 have h := Bu b h
 exact Ad 9 I b (Af 5 I (tW (lg ⟨true, h, I2⟩ [0])))
 have h := Bv b h
 obtain ⟨k, l, h⟩ := Ac h
 exact Ad 9 I b (Af 1 I (Cf I I I (Cd (Oi _ _ l) (Af 3 I (tW (lg ⟨(!k), h, I2⟩ [0]))))))
 rintro s ob ⟨e, h, rfl, rfl⟩
 refine Ar h I ?_ ?_
 intro n h
 refine Ah I (uD g0 ?_)
 cases io h
 exact uC pr
 intro n h
 refine uB ?_
 obtain ⟨w, p, h⟩ := Ac h
 refine Bz (.still 0 (.still 2 (.still 3 (.act 1 (.still 4 (.still 5 .nil)))))) [0] [_] I (Ca 3 [.o 2 0] I J1 (Dq I (Tz _ _ p) (Bf 2 I (Ap (tW (Ar h I ?_ ?_))))))
 intro t h
 refine Ah I (uD g0 ?_)
 cases io h
 exact uC pr
 intro t h
 refine tZ (Ah I (uD g0 ?_))
 cases io h
 exact uC pr
theorem fR (a : Product) (r : Bool) (h : Vo a = some r) : ACalls Aj 104 [.agg (Bw a)] [] (RB r) := by
 refine Ae Tryz.func104 I I I fun C hC => ?_
 unfold Vo at h
 refine Aa fun u n => tV (tX [] I (Bo (Bw a) 5 fun w => Af 1 I (tW ?_)))
 subst n
 refine Ai (fun s ob => ∃ (l : Bool), Vo.J1 l = some r ∧ s = [(2, .v (.bool l))] ∧ ob = []) [] J ?_ ?_
 obtain ⟨p, t, h⟩ := Ac h
 refine tV (An 2 [.o 1 0] I J1 (Cd (Ol _ _ t) (Af 1 I ?_)))
 rcases bt (p) with b | b
 have h := Bu b h
 refine Ad 6 I b (An 5 [.o 1 0] I J1 ?_)
 rcases bt (decide (a.Density ≥ 400)) with d | d
 have h := Bu d h
 refine Ad 11 I d (An 5 [.o 1 0] I J1 ?_)
 rcases bt (decide (a.Density ≤ 1200)) with e | e
 have h := Bu e h
 refine Ad 16 I e (An 5 [.o 1 0] I J1 ?_)
 rcases bt (decide (a.Expansion ≥ 0)) with f | f
 have h := Bu f h
 refine Ad 21 I f (An 5 [.o 1 0] I J1 ?_)
 rcases bt (decide (a.Expansion ≤ 2000)) with g | g
 have h := Bu g h
 refine Ad 26 I g (An 5 [.o 1 0] I J1 ?_)
 rcases bt (decide (a.Compress ≥ 0)) with i | i
 have h := Bu i h
 refine Ad 31 I i (An 5 [.o 1 0] I J1 ?_)
 rcases bt (decide (a.Compress ≤ 5000)) with j | j
 have h := Bu j h
 refine Ad 36 I j (An 5 [.o 1 0] I J1 ?_)
 rcases bt (decide (a.Friction ≥ 1)) with k | k
 have h := Bu k h
 exact Ad 41 I k (An 5 [.o 1 0] I J1 (tW (lg ⟨decide (a.Friction ≤ 2000), h, I2⟩ [])))
 have h := Bv k h
 exact Ad 41 I k (Af 5 I (tW (lg ⟨false, h, I2⟩ [])))
 have h := Bv j h
 exact Ad 36 I j (Af 10 I (tW (lg ⟨false, h, I2⟩ [])))
 have h := Bv i h
 exact Ad 31 I i (Af 15 I (tW (lg ⟨false, h, I2⟩ [])))
 have h := Bv g h
 exact Ad 26 I g (Af 20 I (tW (lg ⟨false, h, I2⟩ [])))
 have h := Bv f h
 exact Ad 21 I f (Af 25 I (tW (lg ⟨false, h, I2⟩ [])))
 have h := Bv e h
 exact Ad 16 I e (Af 30 I (tW (lg ⟨false, h, I2⟩ [])))
 have h := Bv d h
 exact Ad 11 I d (Af 35 I (tW (lg ⟨false, h, I2⟩ [])))
 have h := Bv b h
 exact Ad 6 I b (Af 40 I (tW (lg ⟨false, h, I2⟩ [])))
 rintro s ob ⟨l, h, rfl, rfl⟩
 unfold Vo.J1 at h
 cases io h
 exact uC pr
theorem jE (a : List Product) (d : Bt) (r : Int) (h : V9 a d = some r) : ACalls Aj 105 [Q2 a, .v (.string d)] [] (RV (.V r)) := by
 refine Ae Tryz.func105 I I I fun C hC => ?_
 unfold V9 at h
 refine Ah I (Ai (fun s ob => ∃ (e : Unit), V9.J1 e = some r ∧ s = [] ∧ ob = []) [] J ?_ ?_)
 refine Bh [.l 1 (a.length : Int)] I ⟨Ax, J⟩ (uA (B0 6 I fun m => ?_))
 obtain ⟨A, n, f⟩ := Ac h
 refine Bx n [(0, _), (1, _), (7, _)] J3 (fun (b : Nat) (g : Unit) s ob => s = [(8, .V (b : Int))] ∧ ob = []) ⟨I, I⟩ ⟨I, J⟩ ⟨[], I, by decide⟩ ?_ ?_
 rintro b i g B s ob o j ⟨rfl, rfl⟩ h q
 have t := Co j
 refine Ah I (Aa fun D u => Bp I t (tZ ?_))
 subst u
 refine uB (uA (Ah I (uB (tV (An 6 [.x 2 b (Bw i)] I ⟨⟨I, Ag o⟩, J⟩ (uH (Yp.cmpS (c := S0 i.Name d) I I I) I (tW (Ar h I ?_ ?_))))))))
 intro w h
 refine Ah I ?_
 obtain rfl := q _ (oi h).symm
 have h := f
 have h := C2 h
 cases io h
 exact uC pr
 intro w h
 refine tZ (tV (An 2 [.k 0 (b + 1 : Nat)] I ⟨A0 j m, J⟩ ?_))
 cases io h
 exact tW ⟨_, _, _, I, I2, J4, [], I, by decide⟩
 rintro g s ob ⟨rfl, rfl⟩ he
 subst he
 have h := C8 f
 have y := Cp a.length
 exact Ah I (Aa fun E F => Br I y (uE (lg ⟨(), h, I2⟩ [])))
 rintro s ob ⟨e, h, rfl, rfl⟩
 unfold V9.J1 at h
 refine Ah I ?_
 cases io h
 exact uC pr
theorem Um (a : List Product) (r : Int) (h : Nm a = some r) : ACalls Aj 61 [Q2 a] [] (RV (.V r)) := by
 refine Ae Tryz.func61 I I I fun C hC => ?_
 refine Ah I (Aa fun X p => Bh [.l 1 (a.length : Int)] I ⟨Ax, J⟩ (Ar h I ?_ ?_))
 intro t h
 refine Ah I ?_
 cases io h
 exact uC pr
 intro t h
 refine tZ ?_
 subst p
 refine Ai (fun s ob => ∃ (e : Unit), Nm.J1 a e = some r ∧ s = [] ∧ ob = []) [(0, _)] J1 ?_ ?_
 refine Bh [.l 1 (a.length : Int)] I ⟨Ax, J⟩ (uA (B0 8 I fun u => ?_))
 obtain ⟨Y, w, f⟩ := Ac h
 refine Bx w [(0, _), (9, _)] J2 (fun (b : Nat) (g : Unit) s ob => s = [(10, .V (b : Int))] ∧ ob = []) ⟨I, I⟩ ⟨I, J⟩ ⟨[], I, by decide⟩ ?_ ?_
 rintro b y g Z s ob A i ⟨rfl, rfl⟩ h B
 have D := Co i
 refine Ah I (Aa fun aa E => Bp I D (tZ ?_))
 subst E
 refine uB (uA (Ah I (uB ?_)))
 obtain ⟨ab, F, h⟩ := Ac h
 refine tV (An 4 [.x 2 b (Bw y)] I ⟨⟨I, Ag A⟩, J⟩ (Cd (fR _ _ F) (Af 1 I (tW (Ar h I ?_ ?_)))))
 intro G h
 refine Ah I ?_
 obtain rfl := B _ (oi h).symm
 have h := f
 have h := C2 h
 cases io h
 exact uC pr
 intro G h
 refine tZ (tV (An 2 [.k 0 (b + 1 : Nat)] I ⟨A0 i u, J⟩ ?_))
 cases io h
 exact tW ⟨_, _, _, I, I2, J3, [], I, by decide⟩
 rintro g s ob ⟨rfl, rfl⟩ he
 subst he
 have h := C8 f
 have H := Cp a.length
 exact Ah I (Aa fun ac ad => Br I H (uE (lg ⟨(), h, I2⟩ [])))
 rintro s ob ⟨e, h, rfl, rfl⟩
 unfold Nm.J1 at h
 refine Ai (fun s ob => ∃ (j : Unit), Nm.J2 j = some r ∧ s = [] ∧ ob = []) [] J ?_ ?_
 refine Bh [.l 1 (a.length : Int)] I ⟨Ax, J⟩ (uA (B0 20 I fun K => ?_))
 obtain ⟨ae, M, m⟩ := Ac h
 refine Bx M [(0, _), (21, _)] J2 (fun (d : Nat) (n : Unit) s ob => s = [(22, .V (d : Int))] ∧ ob = []) ⟨I, I⟩ ⟨I, J⟩ ⟨[], I, by decide⟩ ?_ ?_
 rintro d N n af s ob O o ⟨rfl, rfl⟩ h P
 have Q := Co o
 refine Ah I (Aa fun ag R => Bp I Q (tZ ?_))
 subst R
 refine uB (uA (Ah I (uB ?_)))
 obtain ⟨ah, S, h⟩ := Ac h
 refine tV (An 6 [.x 3 d (Bw N)] I ⟨⟨I, Ag O⟩, J⟩ (Cd (jE _ _ _ S) (Af 2 I (tW (Ar h I ?_ ?_)))))
 intro U h
 refine Ah I ?_
 obtain rfl := P _ (oi h).symm
 have h := m
 have h := C2 h
 cases io h
 exact uC pr
 intro U h
 refine tZ (tV (An 2 [.k 0 (d + 1 : Nat)] I ⟨A0 o K, J⟩ ?_))
 cases io h
 exact tW ⟨_, _, _, I, I2, J3, [], I, by decide⟩
 rintro n s ob ⟨rfl, rfl⟩ he
 subst he
 have h := C8 m
 have W := Cp a.length
 exact Ah I (Aa fun ai aj => Br I W (uE (lg ⟨(), h, I2⟩ [])))
 rintro s ob ⟨j, h, rfl, rfl⟩
 unfold Nm.J2 at h
 refine Ah I ?_
 cases io h
 exact uC pr
theorem Ul (d : List Piece) (e : List Batch) (f : List Product) (r : Bool) (h : K5 d e f = some r) : ACalls Aj 62 [Q4 d, Q3 e, Q2 f] [] (RB r) := by
 refine Ae Tryz.func62 I I I fun C hC => ?_
 unfold K5 at h
 refine Ah I (Ai (fun s ob => ∃ (n : Unit), K5.J1 n = some r ∧ s = [] ∧ ob = []) [] J ?_ ?_)
 refine Bh [.l 1 (d.length : Int)] I ⟨Ax, J⟩ (uA (B0 9 I fun A => ?_))
 obtain ⟨O, B, p⟩ := Ac h
 refine Bx B [(1, _), (2, _), (9, _), (10, _)] J4 (fun (g : Nat) (t : Unit) s ob => s = [(11, .V (g : Int))] ∧ ob = []) ⟨I, I⟩ ⟨I, J⟩ ⟨[], I, by decide⟩ ?_ ?_
 rintro g i t D s ob E u ⟨rfl, rfl⟩ h F
 unfold K5.B2 at h
 have G := Co u
 refine Ah I (Aa fun P H => Bp I G (tZ ?_))
 subst H
 refine uB (uA (Aa fun Q K => tV (An 2 [.x 0 g (A4 i)] I ⟨⟨I, Ag E⟩, J⟩ (tX [] I (uF [.V 0, .V 0] 2 fun R => tX [0] I (A3 0 0 0 [A4 i] I (tW ?_)))))))
 subst K
 refine Ai (fun s ob => ∃ (j : Bool), K5.J3 j = some D ∧ s = [(39, .v (.bool j))] ∧ ob = []) [(1, _), (2, _), (9, _), (10, _), (11, _)] J5 ?_ ?_
 refine tV (An 6 [.o 1 0, .l 3 (e.length : Int)] I ⟨Ax, I, J⟩ ?_)
 rcases bt (decide (i.Batch ≥ (e.length : Int))) with b | b
 have h := Bu b h
 exact Ad 20 I b (Af 19 I (tW (lg ⟨true, h, I2⟩ [])))
 have h := Bv b h
 obtain ⟨a, ⟨w, y⟩, h⟩ := A6 h
 refine Ad 20 I b (An 9 [.o 2 0, .x 3 a.1 (D7 a.2)] I ⟨⟨w, Ag y⟩, I, J⟩ ?_)
 rcases bt (decide (a.2.Product < 0)) with c | c
 have h := Bu c h
 exact Ad 29 I c (Af 10 I (tW (lg ⟨true, h, I2⟩ [])))
 have h := Bv c h
 exact Ad 29 I c (An 10 [.o 2 0, .x 3 a.1 (D7 a.2), .l 7 (f.length : Int)] I ⟨Ax, ⟨w, Ag y⟩, I, J⟩ (tW (lg ⟨decide (a.2.Product ≥ (f.length : Int)), h, I2⟩ [])))
 rintro s ob ⟨j, h, rfl, rfl⟩
 refine Ar h I ?_ ?_
 intro M h
 refine Ah I ?_
 obtain rfl := F _ (oi h).symm
 have h := p
 have h := C2 h
 cases io h
 exact uC pr
 intro M h
 refine tZ (tV (An 2 [.k 0 (g + 1 : Nat)] I ⟨A0 u A, J⟩ ?_))
 cases io h
 exact tW ⟨_, _, _, I, I2, J5, [], I, by decide⟩
 rintro t s ob ⟨rfl, rfl⟩ he
 subst he
 have h := C8 p
 have N := Cp d.length
 exact Ah I (Aa fun S U => Br I N (uE (lg ⟨(), h, I2⟩ [])))
 rintro s ob ⟨n, h, rfl, rfl⟩
 unfold K5.J1 at h
 refine Ah I ?_
 cases io h
 exact uC pr
theorem Ug (a : Bounds) (r : Bool) (h : Ga a = r) : ACalls Aj 107 [.agg (Aq a)] [] (RB r) := by
 refine Ae Tryz.func107 I I I fun C hC => ?_
 unfold Ga at h
 refine Aa fun e d => tV (tX [] I (Bo (Aq a) 2 fun f => Af 1 I (tW ?_)))
 subst d
 refine Ai (fun s ob => s = [(2, .v (.bool (decide (a.Low ≤ a.High) && (decide (a.Low ≥ (-1125899906842624)) && decide (a.High ≤ 1125899906842624)))))] ∧ ob = []) [] J ?_ ?_
 refine tV (An 6 [.o 1 0, .o 3 0] I J2 ?_)
 rcases bt (decide (a.Low ≤ a.High)) with b | b
 refine Ad 8 I b (An 5 [.o 1 0] I J1 ?_)
 rcases bt (decide (a.Low ≥ (-1125899906842624))) with c | c
 refine Ad 13 I c (An 5 [.o 1 0] I J1 (tW ?_))
 exact lf I2 ⟨(Do (by simp only [b, c, bz])), J⟩ [] I
 refine Ad 13 I c (Af 5 I (tW ?_))
 exact lf I2 ⟨(Do (by simp only [b, c, bz])), J⟩ [] I
 refine Ad 8 I b (Af 10 I (tW ?_))
 exact lf I2 ⟨(Do (by simp only [b, bz])), J⟩ [] I
 rintro s ob ⟨rfl, rfl⟩
 obtain rfl := h
 exact uC pr
theorem Uk (b : Li) (a : Int) (r : Li) (h : Nl b a = some r) : ACalls Aj 162 [Q0 b, .V a] [] (RV (Q0 r)) := by
 refine Ae Tryz.func162 I I I fun C hC => ?_
 unfold Nl at h
 refine Ah I (Ah I (Ai (fun s ob => ∃ (c : Int), Nl.J1 b a c = some r ∧ s = [(5, .V c)] ∧ ob = []) [(0, _), (1, _)] J2 ?_ ?_))
 refine uA ?_
 obtain ⟨ak, B, D⟩ := Ac h
 refine Cs B [(0, _), (1, _)] J2 (fun (d : Int) s ob => s = [(5, .V d)] ∧ ob = []) ⟨I, I⟩ ⟨I, J⟩ ⟨[], I, by decide⟩ ?_
 rintro d E s ob ⟨rfl, rfl⟩ h F
 unfold Nl.B4 at h
 refine uB (Ai (fun s ob => ∃ (k : Bool), Nl.J5 d k = some E ∧ s = [(17, .v (.bool k))] ∧ ob = []) [(0, _), (1, _), (5, _)] J3 ?_ ?_)
 refine tV (An 5 [.l 2 (b.length : Int)] I ⟨Ax, J⟩ ?_)
 rcases bt (decide (d < (b.length : Int))) with e | e
 have h := Bu e h
 obtain ⟨m, ⟨G, H⟩, h⟩ := A6 h
 exact Ad 10 I e (An 7 [.x 2 m.1 (rI m.2)] I ⟨⟨G, Ag H⟩, J⟩ (tW (lg ⟨decide (m.2 < a), h, I2⟩ [])))
 have h := Bv e h
 exact Ad 10 I e (Af 7 I (tW (lg ⟨false, h, I2⟩ [])))
 rintro s ob ⟨k, h, rfl, rfl⟩
 refine Ar h I ?_ ?_
 intro M h
 refine tZ (uA (tV (Af 3 I ?_)))
 cases io h
 exact tW ⟨_, _, _, I, I2, J3, [], I, by decide⟩
 intro M h
 obtain rfl := F _ (oi h).symm
 have h := D
 exact uE (lg ⟨d, h, I2⟩ [])
 rintro s ob ⟨c, h, rfl, rfl⟩
 unfold Nl.J1 at h
 refine Aa fun al N => Ai (fun s ob => ∃ (n : Bool), Nl.J2 b a c n = some r ∧ s = [(31, .v (.bool n))] ∧ ob = []) [(0, _), (1, _), (5, _)] J3 ?_ ?_
 refine tV (An 5 [.l 2 (b.length : Int)] I ⟨Ax, J⟩ ?_)
 rcases bt (decide (c < (b.length : Int))) with f | f
 have h := Bu f h
 obtain ⟨o, ⟨O, P⟩, h⟩ := A6 h
 exact Ad 24 I f (An 7 [.x 2 o.1 (rI o.2)] I ⟨⟨O, Ag P⟩, J⟩ (tW (lg ⟨(o.2 == a), h, I2⟩ [])))
 have h := Bv f h
 exact Ad 24 I f (Af 7 I (tW (lg ⟨false, h, I2⟩ [])))
 rintro s ob ⟨n, h, rfl, rfl⟩
 refine Ar h I ?_ ?_
 intro Q h
 refine Ah I ?_
 cases io h
 exact uC pr
 intro Q h
 refine tZ ?_
 subst N
 refine Ai (fun s ob => ∃ (g : Li) (j : Value), Nl.J3 g = some r ∧ s = [(4, .v j)] ∧ ob = [U0 j g]) [] J ?_ ?_
 obtain ⟨am, R, h⟩ := Ac h
 obtain ⟨S, U, W, X, Y, Z, aa⟩ := L6 R
 obtain ⟨an, p, h⟩ := Ac h
 obtain ⟨ao, t, h⟩ := Ac h
 obtain ⟨aq, ab, h⟩ := Ac h
 obtain ⟨ac, ad, ae, af, ag, ah, ai⟩ := L6 ab
 obtain ⟨u, w, h⟩ := Ac h
 refine Bz (sl 3 1 (.still 5 (sl 3 8 (.two 0 6 (.two 4 6 (.act 6 kC) (.act 4 kC)) (.act 0 (.act 4 kC)))))) [] [] I (Bf 2 I (uM I (Po S U 0 I I I I I (rG W) ⟨_, _, I, X⟩ I Y Z aa) I (Bf 3 I (uM I (Po ac ad 0 I I I I I ⟨_, _, I, ae⟩ (tK af) I ag ah ai) I (uK ?_ ?_)))))
 refine tY [] I I I (uL (sz := 1) (es := ([] : Li).map rI) I I I I I I I I I I I dS fun aj => uK ?_ ?_)
 exact tY [0] I I I (C9 0 I p fun y => tY [] I I I (uG 1 (([a] : Li).map rI) (tY [0] I I I (C9 0 I t fun A => tY [0] I I I (C9 0 I w fun i => Bf 1 I (Ap (tW (lg ⟨u, i, h, I2⟩ [0]))))))))
 exact tY [] I I I (uG 1 (([a] : Li).map rI) (tY [0] I I I (C9 0 I p fun y => tY [0] I I I (C9 0 I t fun A => tY [0] I I I (C9 0 I w fun i => Bf 1 I (Ap (tW (lg ⟨u, i, h, I2⟩ [0]))))))))
 exact tY [] I I I (uG 1 (([a] : Li).map rI) (tY [] I I I (uL (sz := 1) (es := ([] : Li).map rI) I I I I I I I I I I I dS fun aj => tY [0] I I I (C9 0 I p fun y => tY [0] I I I (C9 0 I t fun A => tY [0] I I I (C9 0 I w fun i => Bf 1 I (Ap (tW (lg ⟨u, i, h, I2⟩ [0])))))))))
 rintro s ob ⟨g, j, h, rfl, rfl⟩
 unfold Nl.J3 at h
 refine uD (Bi [0] (K := [U0 j g]) I [(4, Q0 g)] ⟨⟨_, I, .us 0 I⟩, J⟩ (ob' := []) (.rest _)) ?_
 cases io h
 exact uC pr
theorem iA (a : Sg) (b : List Piece) (r : Li) (h : Nk a b = some r) : ACalls Aj 110 [.agg (Ak a), Q4 b] [] (RV (Q0 r)) := by
 refine Ae Tryz.func110 I I I fun C hC => ?_
 unfold Nk at h
 refine Aa fun W t => tV (tX [] I (Bo (Ak a) 7 fun u => Af 1 I (tW ?_)))
 subst t
 refine Ah I (Ai (fun s ob => ∃ (g : Li), Nk.J1 b g = some r ∧ s = [(5, Q0 g)] ∧ ob = []) [(1, _)] J1 ?_ ?_)
 refine Bh [.o 1 0, .l 2 (a.Points.length : Int)] I ⟨Ax, I, J⟩ (uA (B0 11 I fun w => uD (Bi [] (K := []) I [(5, .list 1 ([].map rI))] ⟨⟨_, I, .nil _⟩, J⟩ (ob' := [O5 u [Ak a]]) (.rest _)) ?_))
 obtain ⟨X, y, A⟩ := Ac h
 refine Cu y [(1, _), (11, _), (12, _)] J3 (fun (d : Nat) (e : Li) s ob => s = [(13, .V (d : Int)), (5, Q0 e)] ∧ ob = []) ⟨I, I⟩ ⟨I, I, J⟩ ⟨[], I, by decide⟩ ?_ ?_
 rintro d j e Y s ob B n ⟨rfl, rfl⟩ h
 have D := Co n
 refine Ah I (Aa fun Z E => Bp I D (tZ ?_))
 subst E
 refine uB (uA (uB (tV (An 2 [.x 0 d (Bj j)] I ⟨⟨I, Ag B⟩, J⟩ (tX [] I (uF W1 3 fun aa => tX [0] I (A3 0 0 0 [Bj j] I (tW ?_))))))))
 obtain ⟨ab, F, h⟩ := Ac h
 refine tV (An 3 [.o 2 0] I J1 (tX [] I (Ck I I I (Uk _ _ _ F) dS ?_)))
 rintro _ _ ⟨rfl, rfl⟩
 refine Af 1 I (tW (tV (An 2 [.k 0 (d + 1 : Nat)] I ⟨A0 n w, J⟩ ?_)))
 cases io h
 exact tW (lg I2 [])
 rintro e s ob ⟨rfl, rfl⟩ he
 subst he
 have h := A
 have G := Cp a.Points.length
 exact Ah I (Aa fun ac ad => Br I G (uE (lg ⟨e, h, I2⟩ [])))
 rintro s ob ⟨g, h, rfl, rfl⟩
 unfold Nk.J1 at h
 refine Ah I (Ai (fun s ob => ∃ (i : Li), Nk.J2 i = some r ∧ s = [(5, Q0 i)] ∧ ob = []) [] J ?_ ?_)
 refine Bh [.l 1 (b.length : Int)] I ⟨Ax, J⟩ (uA (B0 22 I fun H => ?_))
 obtain ⟨ae, M, N⟩ := Ac h
 refine Cu M [(1, _), (23, _)] J2 (fun (f : Nat) (c : Li × Int) s ob => s = [(24, .V (f : Int)), (5, Q0 c.1), (8, .V c.2)] ∧ ob = []) ⟨I, I⟩ ⟨I, I, I, J⟩ ⟨[], I, by decide⟩ ?_ ?_
 rintro f O c af s ob P p ⟨rfl, rfl⟩ h
 have Q := Co p
 refine Ah I (Aa fun ag R => Bp I Q (tZ ?_))
 subst R
 refine uB (uA (Ah I (Bh [.x 3 f (A4 O)] I ⟨⟨I, Ag P⟩, J⟩ ?_)))
 obtain ⟨ah, S, h⟩ := Ac h
 refine tV (Af 2 I (tX [] I (Ck I I I (Uk _ _ _ S) dS ?_)))
 rintro _ _ ⟨rfl, rfl⟩
 refine Af 1 I (tW (tV (An 2 [.k 0 (f + 1 : Nat)] I ⟨A0 p H, J⟩ ?_)))
 cases io h
 exact tW (lg I2 [])
 rintro c s ob ⟨rfl, rfl⟩ he
 subst he
 have h := N
 have U := Cp b.length
 exact Ah I (Aa fun ai aj => Br I U (uE (lg ⟨c.1, h, I2⟩ [])))
 rintro s ob ⟨i, h, rfl, rfl⟩
 unfold Nk.J2 at h
 refine Ah I ?_
 cases io h
 exact uC pr
theorem gE (a : List Piece) (d : Int) (r : Int) (h : Nb a d = some r) : ACalls Aj 163 [Q4 a, .V d] [] (RV (.V r)) := by
 refine Ae Tryz.func163 I I I fun C hC => ?_
 unfold Nb at h
 refine Ah I (Aa fun N t => Ai (fun s ob => ∃ (f : Bool), Nb.J1 a d f = some r ∧ s = [(13, .v (.bool f))] ∧ ob = []) [(0, _), (1, _)] J2 ?_ ?_)
 obtain ⟨u, w, h⟩ := Ac h
 refine tV (Af 1 I (Cd (Oi _ _ w) (Af 2 I ?_)))
 rcases bt ((!u)) with b | b
 have h := Bu b h
 exact Ad 10 I b (Af 3 I (tW (lg ⟨true, h, I2⟩ [])))
 have h := Bv b h
 exact Ad 10 I b (Af 3 I (tW (lg ⟨decide (d < 0), h, I2⟩ [])))
 rintro s ob ⟨f, h, rfl, rfl⟩
 refine Ar h I ?_ ?_
 intro y h
 refine Ah I ?_
 cases io h
 exact uC pr
 intro y h
 refine tZ ?_
 subst t
 refine Ai (fun s ob => ∃ (i : Unit), Nb.J2 i = some r ∧ s = [] ∧ ob = []) [] J ?_ ?_
 refine Bh [.l 1 (a.length : Int)] I ⟨Ax, J⟩ (uA (B0 14 I fun A => ?_))
 obtain ⟨O, B, j⟩ := Ac h
 refine Bx B [(14, _), (15, _)] J2 (fun (e : Nat) (g : Int) s ob => s = [(16, .V (e : Int)), (1, .V g)] ∧ ob = []) ⟨I, I⟩ ⟨I, I, J⟩ ⟨[], I, by decide⟩ ?_ ?_
 rintro e n g P s ob D p ⟨rfl, rfl⟩ h E
 have F := Co p
 refine Ah I (Aa fun Q G => Bp I F (tZ ?_))
 subst G
 refine uB (uA (Aa fun R H => tV (An 2 [.x 0 e (A4 n)] I ⟨⟨I, Ag D⟩, J⟩ (tX [] I (uF [.V 0, .V 0] 2 fun S => tX [0] I (A3 0 0 0 [A4 n] I (tW ?_)))))))
 subst H
 refine uB (Bh [.o 2 0] I J1 (Ar h I ?_ ?_))
 intro K h
 refine Bh [.o 1 0] I J1 ?_
 obtain rfl := E _ (oi h).symm
 have h := j
 have h := C2 h
 refine uD g0 ?_
 cases io h
 exact uC pr
 intro K h
 refine tZ (E2 [.o 2 0] I J1 (tV (An 2 [.k 0 (e + 1 : Nat)] I ⟨A0 p A, J⟩ ?_)))
 cases io h
 exact tW ⟨_, _, _, I, I2, J4, [], I, by decide⟩
 rintro g s ob ⟨rfl, rfl⟩ he
 subst he
 have h := C8 j
 have M := Cp a.length
 exact Ah I (Aa fun U W => Br I M (uE (lg ⟨(), h, I2⟩ [])))
 rintro s ob ⟨i, h, rfl, rfl⟩
 unfold Nb.J2 at h
 refine Ah I ?_
 cases io h
 exact uC pr
theorem Ue (a : Sg) (y : List Piece) (A : List Batch) (B : List Product) (i : Int) (j : Int) (k : Int) (r : Int × Int × Int × Int) (h : Nc a y A B i j k = some r) : ACalls Aj 111 [.agg (Ak a), Q4 y, Q3 A, Q2 B, .V i, .V j, .V k] [] (RV (.tup [.V r.1, .V r.2.1, .V r.2.2.1, .V r.2.2.2])) := by
 refine Ae Tryz.func111 I I I fun C hC => ?_
 refine Aa fun y1 F => tV (tX [] I (Bo (Ak a) 7 fun l => Af 4 I (tW ?_)))
 subst F
 refine Aa fun y3 G => ?_
 obtain ⟨r4, H, h⟩ := Ac h
 obtain ⟨D, ⟨K, M⟩, h⟩ := A6 h
 obtain ⟨d, ⟨N, O⟩, h⟩ := A6 h
 refine tV (Af 4 I (Cd (gE _ _ _ H) (An 5 [.x 0 D.1 (D7 D.2), .x 3 d.1 (Bw d.2)] I ⟨⟨N, Ag O⟩, ⟨K, Ag M⟩, J⟩ (tX [] I (uF W5 5 fun n => tX [1] I (A3 1 0 0 [Bw d.2] I (tW ?_)))))))
 subst G
 refine Ah I (Ai (fun s ob => ∃ (p : Int), Nc.J1 a i j k d p = some r ∧ s = [(19, .V p)] ∧ ob = [O5 l [Ak a], .arr n 72 5 1 [Bw d.2]]) [(4, _), (5, _), (6, _), (7, _), (18, _)] J5 ?_ ?_)
 refine uA ?_
 obtain ⟨ag, P, Q⟩ := Ac h
 refine Cs P [(4, _), (5, _), (6, _), (7, _), (18, _)] J5 (fun (t : Int) s ob => s = [(19, .V t)] ∧ ob = [O5 l [Ak a], .arr n 72 5 1 [Bw d.2]]) ⟨I, I⟩ ⟨I, J⟩ ⟨[0, 1], I, by decide⟩ ?_
 rintro t ah s ob ⟨rfl, rfl⟩ h R
 refine uB (uB ?_)
 obtain ⟨E, ⟨S, U⟩, h⟩ := A6 h
 refine E2 [.o 1 0, .x 4 E.1 (Bj E.2)] I ⟨⟨S, Ag U⟩, I, J⟩ (Ar h I ?_ ?_)
 intro W h
 refine tZ (uA (tV (Af 3 I ?_)))
 cases io h
 exact tW ⟨_, _, _, I, I2, J6, [0, 1], I, by decide⟩
 intro W h
 obtain rfl := R _ (oi h).symm
 have h := Q
 exact uE (lg ⟨t, h, I2⟩ [0, 1])
 rintro s ob ⟨p, h, rfl, rfl⟩
 unfold Nc.J1 at h
 refine Ai (fun s ob => ∃ (e : Int × Int × Int × Int × Int × Int) (u : Nat) (w : Nat), Nc.J2 a i j k d e = some r ∧ s = [(20, .v (.pointer (some ⟨u, 0, none⟩))), (21, .v (.pointer (some ⟨w, 0, none⟩)))] ∧ ob = [O5 l [Ak a], .arr n 72 5 1 [Bw d.2], .arr u 102 3 1 [[.V e.1, .V e.2.1, .V e.2.2.1]], .arr w 102 3 1 [[.V e.2.2.2.1, .V e.2.2.2.2.1, .V e.2.2.2.2.2]]]) [(4, _), (5, _), (6, _), (7, _), (18, _)] J5 ?_ ?_
 obtain ⟨f, ⟨X, Y⟩, h⟩ := A6 h
 obtain ⟨g, ⟨Z, aa⟩, h⟩ := A6 h
 refine Bz (sl 11 0 (.par [(11, []), (12, [])] (.act 13 (.act 14 .nil)))) [0] [_] I (Ca 11 [.o 1 0, .x 3 f.1 (Bj f.2), .o 6 0, .x 9 g.1 (Bj g.2)] I ⟨⟨Z, Ag aa⟩, I, ⟨X, Ag Y⟩, I, J⟩ (AP.any [⟨11, [], 20, .box 102 3 (W1)⟩, ⟨12, [], 21, .box 102 3 (W1)⟩] I ⟨⟨_, I, I, I, fun _ => uF W1 3 fun b => ⟨_, I, ⟨b, I⟩, I⟩⟩, ⟨_, I, I, I, fun _ => uF W1 3 fun b => ⟨_, I, ⟨b, I⟩, I⟩⟩, J⟩ ?_))
 intro ab ac
 exact tY [2] I I I (A3 2 0 0 [Bj f.2] I (tY [3] I I I (A3 3 0 0 [Bj g.2] I (Ap (tW (lg ⟨(f.2.At, f.2.Height, f.2.Limit, g.2.At, g.2.Height, g.2.Limit), ab, ac, h, I2⟩ [0, 1, 2, 3]))))))
 rintro s ob ⟨e, u, w, h, rfl, rfl⟩
 unfold Nc.J2 at h
 refine Kf (pd 39 0 []) [0, 1, 3, 2] [_, _, _, _] [.o 1 0, .o 3 1, .o 14 0, .o 17 1, .o 20 2, .o 22 3, .o 30 2, .o 32 3] I I J8 (uD g0 ?_)
 cases io h
 exact uC ⟨.inr I, [_, _, _, _], [], J4, Cm, I2⟩
theorem T5 (d : Int) (b : Int) (r : Bool) (h : M4 d b = r) : ACalls Aj 164 [.V d, .V b] [] (RB r) := by
 refine Ae Tryz.func164 I I I fun C hC => ?_
 unfold M4 at h
 refine Ah I (Ai (fun s ob => s = [(4, .v (.bool (decide (b ≥ 1) && (decide (b ≤ 1099511627776) && (decide (d ≥ (-2305843009213693952)) && decide (d ≤ 2305843009213693952))))))] ∧ ob = []) [] J ?_ ?_)
 refine tV (Af 3 I ?_)
 rcases bt (decide (b ≥ 1)) with a | a
 refine Ad 7 I a (Af 4 I ?_)
 rcases bt (decide (b ≤ 1099511627776)) with c | c
 refine Ad 11 I c (Af 4 I ?_)
 rcases bt (decide (d ≥ (-2305843009213693952))) with e | e
 refine Ad 15 I e (Af 4 I (tW ?_))
 exact lf I2 ⟨(Do (by simp only [a, c, e, bz])), J⟩ [] I
 refine Ad 15 I e (Af 4 I (tW ?_))
 exact lf I2 ⟨(Do (by simp only [a, c, e, bz])), J⟩ [] I
 refine Ad 11 I c (Af 8 I (tW ?_))
 exact lf I2 ⟨(Do (by simp only [a, c, bz])), J⟩ [] I
 refine Ad 7 I a (Af 12 I (tW ?_))
 exact lf I2 ⟨(Do (by simp only [a, bz])), J⟩ [] I
 rintro s ob ⟨rfl, rfl⟩
 obtain rfl := h
 exact uC pr
theorem Js (b : Int) (d : Int) (r : Int) (h : Ir b d = some r) : ACalls Aj 112 [.V b, .V d] [] (RV (.V r)) := by
 refine Ae Tryz.func112 I I I fun C hC => ?_
 refine Ah I (Aa fun o i => uB (tV (Af 2 I (Cd (T5 b d _ I) (Af 1 I (tW (Ar h I ?_ ?_)))))))
 intro j h
 refine Ah I ?_
 cases io h
 exact uC pr
 intro j h
 refine tZ ?_
 subst i
 refine Aa fun p k => ?_
 obtain ⟨a, l, h⟩ := Ac h
 refine E2 [.f 2 (.V a)] I ⟨Yp.yd (El (c := a) I I (Rl l)), J⟩ ?_
 subst k
 refine Ai (fun s ob => ∃ (e : Int), Ir.J1 e = some r ∧ s = [(5, .V e)] ∧ ob = []) [] J ?_ ?_
 refine uB ?_
 obtain ⟨g, m, h⟩ := Ac h
 refine E2 [.f 2 (.V g)] I ⟨Yp.yd (El (c := g) I I (Hh m)), J⟩ (Ar h I ?_ ?_)
 intro n h
 exact Sq I (lg ⟨wr (a + 1), h, I2⟩ [])
 intro n h
 exact tZ (lg ⟨a, h, I2⟩ [])
 rintro s ob ⟨e, h, rfl, rfl⟩
 unfold Ir.J1 at h
 refine Ah I ?_
 cases io h
 exact uC pr
theorem Jz (b : Int) (d : Int) (r : Int) (h : It b d = some r) : ACalls Aj 113 [.V b, .V d] [] (RV (.V r)) := by
 refine Ae Tryz.func113 I I I fun C hC => ?_
 refine Ah I (Aa fun o i => uB (tV (Af 2 I (Cd (T5 b d _ I) (Af 1 I (tW (Ar h I ?_ ?_)))))))
 intro j h
 refine Ah I ?_
 cases io h
 exact uC pr
 intro j h
 refine tZ ?_
 subst i
 refine Aa fun p k => ?_
 obtain ⟨a, l, h⟩ := Ac h
 refine E2 [.f 2 (.V a)] I ⟨Yp.yd (El (c := a) I I (Rl l)), J⟩ ?_
 subst k
 refine Ai (fun s ob => ∃ (e : Int), It.J1 e = some r ∧ s = [(5, .V e)] ∧ ob = []) [] J ?_ ?_
 refine uB ?_
 obtain ⟨g, m, h⟩ := Ac h
 refine E2 [.f 2 (.V g)] I ⟨Yp.yd (El (c := g) I I (Hh m)), J⟩ (Ar h I ?_ ?_)
 intro n h
 exact Sq I (lg ⟨wr (a - 1), h, I2⟩ [])
 intro n h
 exact tZ (lg ⟨a, h, I2⟩ [])
 rintro s ob ⟨e, h, rfl, rfl⟩
 unfold It.J1 at h
 refine Ah I ?_
 cases io h
 exact uC pr
theorem fH (i : Sg) (P : List Piece) (Q : List Batch) (R : List Product) (e : Int) (a : Bounds) (r : (List Level) × Int) (h : Hx i P Q R e a = some r) : ACalls Aj 67 [.agg (Ak i), Q4 P, Q3 Q, Q2 R, .V e, .agg (Aq a)] [] (fun x new => ∃ (u0 : Value), x = .tup [.v u0, .V r.2] ∧ new = [U5 u0 r.1]) := by
 refine Ae Tryz.func67 I I I fun C hC => ?_
 refine Aa fun y1 an => tV (tX [] I (Bo (Ak i) 7 fun S => tX [] I (Bo (Aq a) 2 fun b3 => Af 2 I (tW ?_))))
 subst an
 refine Aa fun y4 ao => uB ?_
 obtain ⟨r5, ap, h⟩ := Ac h
 refine tV (An 2 [.o 0 0] I J1 (Cd (iD _ _ _ ap) (Af 1 I (tW (Ah I (Ar h I ?_ ?_))))))
 intro aq h
 refine Ah I (uD (Bs 131 3) (Cv [2] I ?_))
 cases io h
 rotate_left
 intro aq h
 refine tZ ?_
 subst ao
 refine Aa fun y8 ar => uB ?_
 obtain ⟨r9, au, h⟩ := Ac h
 refine tV (Af 1 I (Cd (Um _ _ au) (Af 1 I (tW (Ah I (Ar h I ?_ ?_))))))
 intro av h
 refine Ah I (uD (Bs 131 3) (Cv [2] I ?_))
 cases io h
 rotate_left
 intro av h
 refine tZ ?_
 subst ar
 refine Aa fun cp aw => uA (Aa fun cq ax => ?_)
 obtain ⟨cr, ay, h⟩ := Ac h
 refine tV (Af 3 I (Cd (Ul _ _ _ _ ay) (Af 2 I (tW ?_))))
 subst ax
 refine Ar h I ?_ ?_
 intro az h
 refine Ah I (uD (Bs 131 3) (Cv [2] I ?_))
 cases io h
 any_goals
  exact uC ⟨.inr I, [_, _], [.us (.slice none 0 0) 131 3 ([].map Ao)], J2, Cz I (Cm), ⟨(.slice none 0 0), I2⟩⟩
 intro az h
 refine Eb 47 ((e == 0) || (decide (e < (-1000)) || (decide (e > 1000) || (!(Ga a))))) ?_ ?_
 refine tV (Af 3 I ?_)
 rcases bt ((e == 0)) with j | j
 exact Ad 50 I j (Af 13 I (tW (jf (by simp only [j, bz]) I I I2)))
 refine Ad 50 I j (Af 4 I ?_)
 rcases bt (decide (e < (-1000))) with k | k
 exact Ad 54 I k (Af 9 I (tW (jf (by simp only [j, k, bz]) I I I2)))
 refine Ad 54 I k (Af 4 I ?_)
 rcases bt (decide (e > 1000)) with u | u
 exact Ad 58 I u (Af 5 I (tW (jf (by simp only [j, k, u, bz]) I I I2)))
 exact Ad 58 I u (An 1 [.o 0 1] I J1 (Cf I I I (Cd (Ug a _ I) (Af 3 I (tW (jf (by simp only [j, k, u, bz]) I I I2))))))
 refine Ar h I ?_ ?_
 intro a0 h
 refine Ah I (uD (Bs 131 3) (Cv [2] I ?_))
 cases io h
 exact uC ⟨.inr I, [_, _], [.us (.slice none 0 0) 131 3 ([].map Ao)], J2, Cz I (Cm), ⟨(.slice none 0 0), I2⟩⟩
 intro a0 h
 refine tZ ?_
 subst aw
 refine Aa fun ct a1 => ?_
 obtain ⟨w, a2, h⟩ := Ac h
 refine tV (An 2 [.o 0 0] I J1 (tX [] I (Ck I I I (iA _ _ _ a2) dS ?_)))
 rintro _ _ ⟨rfl, rfl⟩
 refine Af 1 I (tW ?_)
 subst a1
 refine Aa fun cu a3 => ?_
 obtain ⟨af, ⟨cv, a4, a5, a6⟩, h⟩ := Gl h
 refine tV (An 2 [.l 1 (w.length : Int)] I ⟨Ax, J⟩ (tX [] I (Bq (sz := 3) I I I I I I I I I I a4 a5 (Ct (f := Ao) a6 I) dS fun g => Af 1 I (tW ?_))))
 subst a3
 refine Aa fun cw a7 => tV (An 1 [.o 0 1] I J1 (tX [] I (uF [.V 0, .V 0] 2 fun U => tX [3] I (A3 3 0 0 [Aq a] I (tW ?_)))))
 subst a7
 refine Ai (fun s ob => ∃ (ag : Unit), Hx.J1 i P Q R e a w af ag = some r ∧ s = [] ∧ ob = [O5 S [Ak i], U5 g af, O8 U [Aq a]]) [(1, _), (2, _), (3, _), (4, _), (6, _), (16, _), (17, _), (18, _)] J8 ?_ ?_
 refine Ah I (Ar h I ?_ ?_)
 intro a8 h
 refine Aa fun cx a9 => ?_
 obtain ⟨y, ⟨ba, bb⟩, h⟩ := A6 h
 obtain ⟨W, ⟨bc, X⟩, h⟩ := A6 h
 refine C7 2 W.1 I X fun bd => Bz (pd 8 0 [7]) [3] [_] I (Ca 5 [.x 2 y.1 (rI y.2), .o 4 0] I ⟨I, ⟨ba, Ag bb⟩, J⟩ (uM I (Au (l := [.V y.2, .V a.Low, .V a.High]) E9 I) I (uM I (B8 (m := W.1) I I I I I bd I bc X) I (tY [2] I I I (Ci 2 W.1 0 I I I (Ag X) I I I I (Cb I) I (Dg (x := (⟨y.2, a⟩ : Level)) I) (Ap (tW ?_)))))))
 subst a9
 refine Ai (fun s ob => ∃ (A : List Level), Hx.J4 A = some r ∧ s = [] ∧ ob = [U5 g A]) [(17, _)] J1 ?_ ?_
 refine Ah I (uA ?_)
 obtain ⟨cy, be, bf⟩ := Ac h
 refine Cs be [(1, _), (2, _), (3, _), (4, _), (6, _), (16, _), (17, _), (18, _)] J8 (fun (b : (List Level) × Int × Int × Int) s ob => s = [(19, .V b.2.2.2)] ∧ ob = [O5 S [Ak i], U5 g b.1, O8 U [[.V b.2.1, .V b.2.2.1]]]) ⟨I, I⟩ ⟨I, J⟩ ⟨[0, 2, 3], I, by decide⟩ ?_
 rintro b cz s ob ⟨rfl, rfl⟩ h bg
 refine Aa fun c0 bh => Bh [.l 2 (w.length : Int)] I ⟨Ax, J⟩ (Ar h I ?_ ?_)
 intro bi h
 refine tZ ?_
 subst bh
 refine uB (uA (Aa fun c1 bj => ?_))
 obtain ⟨ah, ⟨bk, bl⟩, h⟩ := A6 h
 obtain ⟨n, ⟨ai, aj⟩, h⟩ := A6 h
 obtain ⟨c2, bm, h⟩ := Ac h
 refine Bz (pd 24 0 [14]) [0] [_] I (Ca 14 [.o 0 0, .x 8 ah.1 (rI ah.2), .x 12 n.1 (rI n.2)] I ⟨⟨ai, Ag aj⟩, ⟨bk, Ag bl⟩, I, J⟩ (Dq I (Ue _ _ _ _ _ _ _ _ bm) (Bf 9 I (Ap (tW ?_)))))
 subst bj
 refine uB ?_
 obtain ⟨B, bn, h⟩ := Ac h
 obtain ⟨D, bo, h⟩ := Ac h
 obtain ⟨E, bp, h⟩ := Ac h
 obtain ⟨F, bq, h⟩ := Ac h
 refine Bz (sl 4 0 (.still 6 (.still 7 (sl 4 10 (.still 16 (.still 17 (.act 4 (.still 5 (.act 8 (.still 9 (.act 14 (.still 15 (.act 18 (.still 19 (.still 20 (.drop 21 .nil)))))))))))))))) [2] [_] I (Ca 12 [.o 1 0, .o 7 0] I J2 (Dq I (Js _ _ _ bn) (Bf 1 I (Dq I (Js _ _ _ bo) (Bf 1 I (Dq I (Jz _ _ _ bp) (Bf 1 I (Dq I (Jz _ _ _ bq) (Bf 1 I (uQ I (Au (l := [.V (wr ((wr (b.2.1 - B)) - D)), .V (wr ((wr (b.2.2.1 - E)) - F))]) Dp I) I (uP [2] I I I (A3 2 0 0 [[.V (wr ((wr (b.2.1 - B)) - D)), .V (wr ((wr (b.2.2.1 - E)) - F))]] I (Ap ?_)))))))))))))
 refine tW ?_
 obtain ⟨Y, ⟨br, Z⟩, h⟩ := A6 h
 refine C7 1 Y.1 I Z fun bs => Bz (pd 10 0 [9]) [2] [_] I (Ca 7 [.x 4 n.1 (rI n.2), .o 6 0] I ⟨I, ⟨ai, Ag aj⟩, J⟩ (uM I (Au (l := [.V n.2, .V (wr ((wr (b.2.1 - B)) - D)), .V (wr ((wr (b.2.2.1 - E)) - F))]) E9 I) I (uM I (B8 (m := Y.1) I I I I I bs I br Z) I (tY [1] I I I (Ci 1 Y.1 0 I I I (Ag Z) I I I I (Cb I) I (Dg (x := (⟨n.2, (⟨wr ((wr (b.2.1 - B)) - D), wr ((wr (b.2.2.1 - E)) - F)⟩ : Bounds)⟩ : Level)) I) (Ap (tW (tV (Af 3 I ?_)))))))))
 cases io h
 exact tW ⟨_, _, _, I, I2, J9, [0, 1, 2], I, by decide⟩
 intro bi h
 obtain rfl := bg _ (oi h).symm
 have h := bf
 exact uE (lg ⟨b.1, h, I2⟩ [1])
 rintro s ob ⟨A, h, rfl, rfl⟩
 unfold Hx.J4 at h
 refine Ah I ?_
 cases io h
 exact uC ⟨.inr I, [_, _], [U5 g A], J2, Cz I (Cm), ⟨g, I2⟩⟩
 intro a8 h
 exact tZ (lg ⟨(), h, I2⟩ [0, 2, 3])
 rintro s ob ⟨ag, h, rfl, rfl⟩
 refine Bh [.l 1 (w.length : Int)] I ⟨Ax, J⟩ (Aa fun c3 bu => ?_)
 obtain ⟨G, ⟨bv, bw⟩, h⟩ := A6 h
 obtain ⟨aa, ⟨bx, ab⟩, h⟩ := A6 h
 refine C7 1 aa.1 I ab fun b0 => Bz (pd 10 0 [9]) [2] [_] I (Ca 7 [.x 4 G.1 (rI G.2), .o 6 0] I ⟨I, ⟨bv, Ag bw⟩, J⟩ (uM I (Au (l := [.V G.2, .V a.Low, .V a.High]) E9 I) I (uM I (B8 (m := aa.1) I I I I I b0 I bx ab) I (tY [1] I I I (Ci 1 aa.1 0 I I I (Ag ab) I I I I (Cb I) I (Dg (x := (⟨G.2, a⟩ : Level)) I) (Ap (tW ?_)))))))
 subst bu
 refine Ai (fun s ob => ∃ (H : List Level), Hx.J2 H = some r ∧ s = [] ∧ ob = [U5 g H]) [(17, _)] J1 ?_ ?_
 refine Ah I (uA ?_)
 obtain ⟨c4, b1, b4⟩ := Ac h
 refine Cs b1 [(1, _), (2, _), (3, _), (4, _), (6, _), (16, _), (17, _), (18, _)] J8 (fun (d : (List Level) × Int × Int × Int) s ob => s = [(25, .V d.2.2.2)] ∧ ob = [O5 S [Ak i], U5 g d.1, O8 U [[.V d.2.1, .V d.2.2.1]]]) ⟨I, I⟩ ⟨I, J⟩ ⟨[0, 1, 2], I, by decide⟩ ?_
 rintro d c5 s ob ⟨rfl, rfl⟩ h b5
 refine Aa fun c6 b6 => Ah I (Ar h I ?_ ?_)
 intro b7 h
 refine tZ ?_
 subst b6
 refine uB (uA (Aa fun c7 b8 => ?_))
 obtain ⟨t, ⟨ak, al⟩, h⟩ := A6 h
 obtain ⟨am, ⟨b9, ca⟩, h⟩ := A6 h
 obtain ⟨c8, cb, h⟩ := Ac h
 refine Bz (pd 24 0 [14]) [0] [_] I (Ca 14 [.o 0 0, .x 7 t.1 (rI t.2), .x 12 am.1 (rI am.2)] I ⟨⟨b9, Ag ca⟩, ⟨ak, Ag al⟩, I, J⟩ (Dq I (Ue _ _ _ _ _ _ _ _ cb) (Bf 9 I (Ap (tW ?_)))))
 subst b8
 refine uB ?_
 obtain ⟨K, cc, h⟩ := Ac h
 obtain ⟨M, cd, h⟩ := Ac h
 obtain ⟨N, ce, h⟩ := Ac h
 obtain ⟨O, cf, h⟩ := Ac h
 refine Bz (sl 4 0 (sl 3 6 (sl 4 11 (sl 3 17 (.act 4 (.still 5 (.act 9 (.still 10 (.act 15 (.still 16 (.act 20 (.still 21 (.still 22 (.drop 23 .nil)))))))))))))) [2] [_] I (Ca 14 [.o 1 0, .o 8 0] I J2 (Dq I (Js _ _ _ cc) (Bf 1 I (Dq I (Js _ _ _ cd) (Bf 1 I (Dq I (Jz _ _ _ ce) (Bf 1 I (Dq I (Jz _ _ _ cf) (Bf 1 I (uQ I (Au (l := [.V (wr ((wr (d.2.1 - K)) - M)), .V (wr ((wr (d.2.2.1 - N)) - O))]) Dp I) I (uP [2] I I I (A3 2 0 0 [[.V (wr ((wr (d.2.1 - K)) - M)), .V (wr ((wr (d.2.2.1 - N)) - O))]] I (Ap ?_)))))))))))))
 refine tW ?_
 obtain ⟨ac, ⟨cg, ad⟩, h⟩ := A6 h
 refine C7 1 ac.1 I ad fun ci => Bz (pd 10 0 [9]) [2] [_] I (Ca 7 [.x 4 t.1 (rI t.2), .o 6 0] I ⟨I, ⟨ak, Ag al⟩, J⟩ (uM I (Au (l := [.V t.2, .V (wr ((wr (d.2.1 - K)) - M)), .V (wr ((wr (d.2.2.1 - N)) - O))]) E9 I) I (uM I (B8 (m := ac.1) I I I I I ci I cg ad) I (tY [1] I I I (Ci 1 ac.1 0 I I I (Ag ad) I I I I (Cb I) I (Dg (x := (⟨t.2, (⟨wr ((wr (d.2.1 - K)) - M), wr ((wr (d.2.2.1 - N)) - O)⟩ : Bounds)⟩ : Level)) I) (Ap (tW (tV (Af 3 I ?_)))))))))
 cases io h
 exact tW ⟨_, _, _, I, I2, J9, [0, 1, 2], I, by decide⟩
 intro b7 h
 obtain rfl := b5 _ (oi h).symm
 have h := b4
 exact uE (lg ⟨d.1, h, I2⟩ [1])
 rintro s ob ⟨H, h, rfl, rfl⟩
 unfold Hx.J2 at h
 refine Ah I ?_
 cases io h
 exact uC ⟨.inr I, [_, _], [U5 g H], J2, Cz I (Cm), ⟨g, I2⟩⟩
end Go.Proofs.YtodeekicjiengaaGreatDoor
