/- Walks that show what functions of the program compute; printed by a program of ours. No condition. -/
import Derived.Test.YtkhcdkioehdndaaGreatDoorZxL1
import Derived.Test.YtkhcdkioehdndaaGreatDoorZxL0
import Derived.Test.YtkhcdkioehdndaaGreatDoorZxD
set_option maxRecDepth 100000
namespace Go.Proofs.YtkhcdkioehdndaaGreatDoor
open Go.Aw
set_option linter.unusedVariables false
set_option linter.unusedSimpArgs false
set_option maxHeartbeats 4000000
abbrev Ih : PL := .act 6 (sl 5 7 .nil)
abbrev Y7 : PL := .act 7 (.act 11 (.still 12 .nil))
abbrev dY : PL := sl 11 0 (.par [(11, []), (12, [])] (.act 13 (.act 14 .nil)))
theorem Yt (a : Int) (r : Bool) (h : K1 a = r) : ACalls Ah 87 [.V a] [] (RB r) := by
 refine Ad Tryz.func87 I I I fun C hC => ?_
 unfold K1 at h
 refine Ai I (Aj (fun s ob => s = [(2, .v (.bool (decide (a ≥ 0) && decide (a < 1000))))] ∧ ob = []) [] J ?_ ?_)
 refine gN (Af 3 I ?_)
 rcases bt (decide (a ≥ 0)) with b | b
 refine Ae 5 I b (Af 4 I (gO ?_))
 exact lf I2 ⟨(Dg (by simp only [b, bz])), J⟩ [] I
 refine Ae 5 I b (Af 4 I (gO ?_))
 exact lf I2 ⟨(Dg (by simp only [b, bz])), J⟩ [] I
 rintro s ob ⟨rfl, rfl⟩
 obtain rfl := h
 exact gT pr
theorem Py (b : List Piece) (r : Bool) (h : Fw b = some r) : ACalls Ah 66 [Q0 b] [] (RB r) := by
 refine Ad Tryz.func66 I I I fun C hC => ?_
 refine Ai I (Ab fun S y => A8 [.l 1 (b.length : Int)] I ⟨A2, J⟩ (Ar h I ?_ ?_))
 intro A h
 refine Ai I ?_
 cases io h
 exact gT pr
 intro A h
 refine gS ?_
 subst y
 refine Ai I (Aj (fun s ob => ∃ (n : Int), Fw.J1 n = some r ∧ s = [(3, .V n)] ∧ ob = []) [] J ?_ ?_)
 refine A8 [.l 1 (b.length : Int)] I ⟨A2, J⟩ (gQ (B0 9 I fun B => ?_))
 obtain ⟨U, D, u⟩ := Ac h
 refine Bh D [(0, _), (9, _), (10, _)] J3 (fun (d : Nat) (e : Int) s ob => s = [(11, .V (d : Int)), (3, .V e)] ∧ ob = []) ⟨I, I⟩ ⟨I, I, J⟩ ⟨[], I, by decide⟩ ?_ ?_
 rintro d a e E s ob F w ⟨rfl, rfl⟩ h G
 unfold Fw.B2 at h
 have H := Cr w
 refine Ai I (Ab fun W K => Bf I H (gS ?_))
 subst K
 refine gR (gQ (Ab fun X M => gN (Ao 3 [.x 1 d (Aq a)] I ⟨⟨I, Ag F⟩, J⟩ (gP [] I (Bl [.V 0, .V 0] 2 fun N => Af 1 I (gP [0] I (Bc 0 0 0 [Aq a] I (gO ?_))))))))
 subst M
 refine gR (Aj (fun s ob => ∃ (p : Bool), Fw.J3 a e p = some E ∧ s = [(44, .v (.bool p))] ∧ ob = [.arr N 88 2 1 [Aq a]]) [(0, _), (3, _), (5, _), (9, _), (10, _), (11, _)] J6 ?_ ?_)
 refine Ca (pd 29 0 [2]) [0] [_] I (Cg 2 [.o 1 0] I J1 (Gh I (Yt a.Batch _ I) (Bb 2 I ?_)))
 rcases bt ((!(K1 a.Batch))) with f | f
 have h := Bp f h
 refine A0 20 I f (Bb 13 I (Av I I I I dS (Av I I I I dS (Av I I I I dS (Av I I I I dS (Av I I I I dS (Av I I I I dS (Av I I I I dS (Av I I I I dS (Av I I I I dS (Bb 2 I (Ax ?_))))))))))))
 exact gO (lg ⟨true, h, I2⟩ [0])
 have h := Bq f h
 refine A0 20 I f (Cg 5 [.o 1 0] I J1 ?_)
 rcases bt (decide (a.Volume < 1)) with g | g
 have h := Bp g h
 refine A0 25 I g (Bb 8 I (Av I I I I dS (Av I I I I dS (Av I I I I dS (Av I I I I dS (Av I I I I dS (Av I I I I dS (Av I I I I dS (Av I I I I dS (Av I I I I dS (Bb 2 I (Ax ?_))))))))))))
 exact gO (lg ⟨true, h, I2⟩ [0])
 have h := Bq g h
 refine A0 25 I g (Cg 5 [.o 1 0] I J1 ?_)
 rcases bt (decide (a.Volume > 1000000)) with i | i
 have h := Bp i h
 refine A0 30 I i (Bb 3 I (Av I I I I dS (Av I I I I dS (Av I I I I dS (Av I I I I dS (Av I I I I dS (Av I I I I dS (Av I I I I dS (Av I I I I dS (Av I I I I dS (Bb 2 I (Ax ?_))))))))))))
 exact gO (lg ⟨true, h, I2⟩ [0])
 have h := Bq i h
 refine A0 30 I i (Bb 3 I ?_)
 rcases bt (decide ((d : Int) > 0)) with j | j
 have h := Bp j h
 obtain ⟨t, ⟨O, P⟩, h⟩ := A7 h
 exact A0 33 I j (Cg 11 [.o 1 0, .x 5 t.1 (Aq t.2)] I ⟨⟨O, Ag P⟩, I, J⟩ (Ax (gO (lg ⟨(a.Batch == t.2.Batch), h, I2⟩ [0]))))
 have h := Bq j h
 exact A0 33 I j (Bb 11 I (Ax (gO (lg ⟨false, h, I2⟩ [0]))))
 rintro s ob ⟨p, h, rfl, rfl⟩
 refine Ar h I ?_ ?_
 intro Q h
 refine Ai I ?_
 obtain rfl := G _ (oi h).symm
 have h := u
 have h := Cq h
 refine gU g0 ?_
 cases io h
 exact gT pr
 intro Q h
 refine gS (G7 [.o 2 0] I J1 (gN (Ao 2 [.k 0 (d + 1 : Nat)] I ⟨Az w B, J⟩ ?_)))
 cases io h
 exact gO ⟨_, _, _, I, I2, J5, [], I, by decide⟩
 rintro e s ob ⟨rfl, rfl⟩ he
 subst he
 have h := C0 u
 have R := Cs b.length
 exact Ai I (Ab fun Y Z => Bg I R (gW (lg ⟨e, h, I2⟩ [])))
 rintro s ob ⟨n, h, rfl, rfl⟩
 unfold Fw.J1 at h
 refine Ai I ?_
 cases io h
 exact gT pr
theorem W7 (a : List Piece) (r : Int) (h : Km a = some r) : ACalls Ah 67 [Q0 a] [] (RV (.V r)) := by
 refine Ad Tryz.func67 I I I fun C hC => ?_
 unfold Km at h
 refine Ai I (Ai I (Aj (fun s ob => ∃ (d : Int), Km.J1 d = some r ∧ s = [(3, .V d)] ∧ ob = []) [] J ?_ ?_))
 refine A8 [.l 1 (a.length : Int)] I ⟨A2, J⟩ (gQ (B0 5 I fun f => ?_))
 obtain ⟨q, g, i⟩ := Ac h
 refine Ds g [(0, _), (6, _)] J2 (fun (b : Nat) (c : Int) s ob => s = [(7, .V (b : Int)), (3, .V c)] ∧ ob = []) ⟨I, I⟩ ⟨I, I, J⟩ ⟨[], I, by decide⟩ ?_ ?_
 rintro b j c t s ob m e ⟨rfl, rfl⟩ h
 unfold Km.B2 at h
 have n := Cr e
 refine Ai I (Ab fun u o => Bf I n (gS ?_))
 subst o
 refine gR (gQ (Ai I (G7 [.x 3 b (Aq j)] I ⟨⟨I, Ag m⟩, J⟩ (gN (Ao 2 [.k 0 (b + 1 : Nat)] I ⟨Az e f, J⟩ ?_)))))
 cases io h
 exact gO (lg I2 [])
 rintro c s ob ⟨rfl, rfl⟩ he
 subst he
 have h := i
 have p := Cs a.length
 exact Ai I (Ab fun w y => Bg I p (gW (lg ⟨c, h, I2⟩ [])))
 rintro s ob ⟨d, h, rfl, rfl⟩
 unfold Km.J1 at h
 refine Ai I ?_
 cases io h
 exact gT pr
theorem P4 (a : Sg) (d : List Piece) (r : Int) (h : Hg a d = some r) : ACalls Ah 41 [.agg (Aa a), Q0 d] [] (RV (.V r)) := by
 refine Ad Tryz.func41 I I I fun C hC => ?_
 unfold Hg at h
 refine Ab fun u f => gN (gP [] I (Cc (Aa a) 7 fun g => Af 1 I (gO ?_)))
 subst f
 refine gR (gQ (Aj (fun s ob => ∃ (e : Bool), Hg.J1 a d e = some r ∧ s = [(5, .v (.bool e))] ∧ ob = [O0 g [Aa a]]) [(1, _), (2, _)] J2 ?_ ?_))
 obtain ⟨i, j, h⟩ := Ac h
 refine gN (Ao 1 [.o 0 0] I J1 (Br (Qc _ _ j) (Af 2 I ?_)))
 rcases bt ((!i)) with b | b
 have h := Bp b h
 exact Ae 9 I b (Af 5 I (gO (lg ⟨true, h, I2⟩ [0])))
 have h := Bq b h
 obtain ⟨k, l, h⟩ := Ac h
 exact Ae 9 I b (Af 1 I (Bm I I I (Br (Py _ _ l) (Af 3 I (gO (lg ⟨(!k), h, I2⟩ [0]))))))
 rintro s ob ⟨e, h, rfl, rfl⟩
 refine Ar h I ?_ ?_
 intro n h
 refine Ai I (gU g0 ?_)
 cases io h
 exact gT pr
 intro n h
 refine gR ?_
 obtain ⟨w, p, h⟩ := Ac h
 refine Ca (.still 0 (.still 2 (.still 3 (.act 1 (.still 4 (.still 5 .nil)))))) [0] [_] I (Cg 3 [.o 2 0] I J1 (Gh I (W7 _ _ p) (Bb 2 I (Ax (gO (Ar h I ?_ ?_))))))
 intro t h
 refine Ai I (gU g0 ?_)
 cases io h
 exact gT pr
 intro t h
 refine gS (Ai I (gU g0 ?_))
 cases io h
 exact gT pr
theorem Xi (a : Product) (r : Bool) (h : Mm a = some r) : ACalls Ah 69 [.agg (Ak a)] [] (RB r) := by
 refine Ad Tryz.func69 I I I fun C hC => ?_
 unfold Mm at h
 refine Ab fun u n => gN (gP [] I (Cc (Ak a) 5 fun w => Af 1 I (gO ?_)))
 subst n
 refine Aj (fun s ob => ∃ (l : Bool), Mm.J1 l = some r ∧ s = [(2, .v (.bool l))] ∧ ob = []) [] J ?_ ?_
 obtain ⟨p, t, h⟩ := Ac h
 refine gN (Ao 2 [.o 1 0] I J1 (Br (P7 _ _ t) (Af 1 I ?_)))
 rcases bt (p) with b | b
 have h := Bp b h
 refine Ae 6 I b (Ao 5 [.o 1 0] I J1 ?_)
 rcases bt (decide (a.Density ≥ 400)) with d | d
 have h := Bp d h
 refine Ae 11 I d (Ao 5 [.o 1 0] I J1 ?_)
 rcases bt (decide (a.Density ≤ 1200)) with e | e
 have h := Bp e h
 refine Ae 16 I e (Ao 5 [.o 1 0] I J1 ?_)
 rcases bt (decide (a.Expansion ≥ 0)) with f | f
 have h := Bp f h
 refine Ae 21 I f (Ao 5 [.o 1 0] I J1 ?_)
 rcases bt (decide (a.Expansion ≤ 2000)) with g | g
 have h := Bp g h
 refine Ae 26 I g (Ao 5 [.o 1 0] I J1 ?_)
 rcases bt (decide (a.Compress ≥ 0)) with i | i
 have h := Bp i h
 refine Ae 31 I i (Ao 5 [.o 1 0] I J1 ?_)
 rcases bt (decide (a.Compress ≤ 5000)) with j | j
 have h := Bp j h
 refine Ae 36 I j (Ao 5 [.o 1 0] I J1 ?_)
 rcases bt (decide (a.Friction ≥ 1)) with k | k
 have h := Bp k h
 exact Ae 41 I k (Ao 5 [.o 1 0] I J1 (gO (lg ⟨decide (a.Friction ≤ 2000), h, I2⟩ [])))
 have h := Bq k h
 exact Ae 41 I k (Af 5 I (gO (lg ⟨false, h, I2⟩ [])))
 have h := Bq j h
 exact Ae 36 I j (Af 10 I (gO (lg ⟨false, h, I2⟩ [])))
 have h := Bq i h
 exact Ae 31 I i (Af 15 I (gO (lg ⟨false, h, I2⟩ [])))
 have h := Bq g h
 exact Ae 26 I g (Af 20 I (gO (lg ⟨false, h, I2⟩ [])))
 have h := Bq f h
 exact Ae 21 I f (Af 25 I (gO (lg ⟨false, h, I2⟩ [])))
 have h := Bq e h
 exact Ae 16 I e (Af 30 I (gO (lg ⟨false, h, I2⟩ [])))
 have h := Bq d h
 exact Ae 11 I d (Af 35 I (gO (lg ⟨false, h, I2⟩ [])))
 have h := Bq b h
 exact Ae 6 I b (Af 40 I (gO (lg ⟨false, h, I2⟩ [])))
 rintro s ob ⟨l, h, rfl, rfl⟩
 unfold Mm.J1 at h
 cases io h
 exact gT pr
theorem Yo (a : List Product) (d : Bt) (r : Int) (h : Qw a d = some r) : ACalls Ah 70 [Q3 a, .v (.string d)] [] (RV (.V r)) := by
 refine Ad Tryz.func70 I I I fun C hC => ?_
 unfold Qw at h
 refine Ai I (Aj (fun s ob => ∃ (e : Unit), Qw.J1 e = some r ∧ s = [] ∧ ob = []) [] J ?_ ?_)
 refine A8 [.l 1 (a.length : Int)] I ⟨A2, J⟩ (gQ (B0 6 I fun m => ?_))
 obtain ⟨A, n, f⟩ := Ac h
 refine Bh n [(0, _), (1, _), (7, _)] J3 (fun (b : Nat) (g : Unit) s ob => s = [(8, .V (b : Int))] ∧ ob = []) ⟨I, I⟩ ⟨I, J⟩ ⟨[], I, by decide⟩ ?_ ?_
 rintro b i g B s ob o j ⟨rfl, rfl⟩ h q
 have t := Cr j
 refine Ai I (Ab fun D u => Bf I t (gS ?_))
 subst u
 refine gR (gQ (Ai I (gR (gN (Ao 6 [.x 2 b (Ak i)] I ⟨⟨I, Ag o⟩, J⟩ (Bk (Yp.cmpS (c := Ol i.Name d) I I I) I (gO (Ar h I ?_ ?_))))))))
 intro w h
 refine Ai I ?_
 obtain rfl := q _ (oi h).symm
 have h := f
 have h := Cq h
 cases io h
 exact gT pr
 intro w h
 refine gS (gN (Ao 2 [.k 0 (b + 1 : Nat)] I ⟨Az j m, J⟩ ?_))
 cases io h
 exact gO ⟨_, _, _, I, I2, J4, [], I, by decide⟩
 rintro g s ob ⟨rfl, rfl⟩ he
 subst he
 have h := C0 f
 have y := Cs a.length
 exact Ai I (Ab fun E F => Bg I y (gW (lg ⟨(), h, I2⟩ [])))
 rintro s ob ⟨e, h, rfl, rfl⟩
 unfold Qw.J1 at h
 refine Ai I ?_
 cases io h
 exact gT pr
theorem X5 (a : List Product) (r : Int) (h : Iy a = some r) : ACalls Ah 43 [Q3 a] [] (RV (.V r)) := by
 refine Ad Tryz.func43 I I I fun C hC => ?_
 refine Ai I (Ab fun X p => A8 [.l 1 (a.length : Int)] I ⟨A2, J⟩ (Ar h I ?_ ?_))
 intro t h
 refine Ai I ?_
 cases io h
 exact gT pr
 intro t h
 refine gS ?_
 subst p
 refine Aj (fun s ob => ∃ (e : Unit), Iy.J1 a e = some r ∧ s = [] ∧ ob = []) [(0, _)] J1 ?_ ?_
 refine A8 [.l 1 (a.length : Int)] I ⟨A2, J⟩ (gQ (B0 8 I fun u => ?_))
 obtain ⟨Y, w, f⟩ := Ac h
 refine Bh w [(0, _), (9, _)] J2 (fun (b : Nat) (g : Unit) s ob => s = [(10, .V (b : Int))] ∧ ob = []) ⟨I, I⟩ ⟨I, J⟩ ⟨[], I, by decide⟩ ?_ ?_
 rintro b y g Z s ob A i ⟨rfl, rfl⟩ h B
 have D := Cr i
 refine Ai I (Ab fun aa E => Bf I D (gS ?_))
 subst E
 refine gR (gQ (Ai I (gR ?_)))
 obtain ⟨ab, F, h⟩ := Ac h
 refine gN (Ao 4 [.x 2 b (Ak y)] I ⟨⟨I, Ag A⟩, J⟩ (Br (Xi _ _ F) (Af 1 I (gO (Ar h I ?_ ?_)))))
 intro G h
 refine Ai I ?_
 obtain rfl := B _ (oi h).symm
 have h := f
 have h := Cq h
 cases io h
 exact gT pr
 intro G h
 refine gS (gN (Ao 2 [.k 0 (b + 1 : Nat)] I ⟨Az i u, J⟩ ?_))
 cases io h
 exact gO ⟨_, _, _, I, I2, J3, [], I, by decide⟩
 rintro g s ob ⟨rfl, rfl⟩ he
 subst he
 have h := C0 f
 have H := Cs a.length
 exact Ai I (Ab fun ac ad => Bg I H (gW (lg ⟨(), h, I2⟩ [])))
 rintro s ob ⟨e, h, rfl, rfl⟩
 unfold Iy.J1 at h
 refine Aj (fun s ob => ∃ (j : Unit), Iy.J2 j = some r ∧ s = [] ∧ ob = []) [] J ?_ ?_
 refine A8 [.l 1 (a.length : Int)] I ⟨A2, J⟩ (gQ (B0 20 I fun K => ?_))
 obtain ⟨ae, M, m⟩ := Ac h
 refine Bh M [(0, _), (21, _)] J2 (fun (d : Nat) (n : Unit) s ob => s = [(22, .V (d : Int))] ∧ ob = []) ⟨I, I⟩ ⟨I, J⟩ ⟨[], I, by decide⟩ ?_ ?_
 rintro d N n af s ob O o ⟨rfl, rfl⟩ h P
 have Q := Cr o
 refine Ai I (Ab fun ag R => Bf I Q (gS ?_))
 subst R
 refine gR (gQ (Ai I (gR ?_)))
 obtain ⟨ah, S, h⟩ := Ac h
 refine gN (Ao 6 [.x 3 d (Ak N)] I ⟨⟨I, Ag O⟩, J⟩ (Br (Yo _ _ _ S) (Af 2 I (gO (Ar h I ?_ ?_)))))
 intro U h
 refine Ai I ?_
 obtain rfl := P _ (oi h).symm
 have h := m
 have h := Cq h
 cases io h
 exact gT pr
 intro U h
 refine gS (gN (Ao 2 [.k 0 (d + 1 : Nat)] I ⟨Az o K, J⟩ ?_))
 cases io h
 exact gO ⟨_, _, _, I, I2, J3, [], I, by decide⟩
 rintro n s ob ⟨rfl, rfl⟩ he
 subst he
 have h := C0 m
 have W := Cs a.length
 exact Ai I (Ab fun ai aj => Bg I W (gW (lg ⟨(), h, I2⟩ [])))
 rintro s ob ⟨j, h, rfl, rfl⟩
 unfold Iy.J2 at h
 refine Ai I ?_
 cases io h
 exact gT pr
theorem X4 (d : List Piece) (e : List Batch) (f : List Product) (r : Bool) (h : G1 d e f = some r) : ACalls Ah 44 [Q0 d, Q1 e, Q3 f] [] (RB r) := by
 refine Ad Tryz.func44 I I I fun C hC => ?_
 unfold G1 at h
 refine Ai I (Aj (fun s ob => ∃ (n : Unit), G1.J1 n = some r ∧ s = [] ∧ ob = []) [] J ?_ ?_)
 refine A8 [.l 1 (d.length : Int)] I ⟨A2, J⟩ (gQ (B0 9 I fun A => ?_))
 obtain ⟨O, B, p⟩ := Ac h
 refine Bh B [(1, _), (2, _), (9, _), (10, _)] J4 (fun (g : Nat) (t : Unit) s ob => s = [(11, .V (g : Int))] ∧ ob = []) ⟨I, I⟩ ⟨I, J⟩ ⟨[], I, by decide⟩ ?_ ?_
 rintro g i t D s ob E u ⟨rfl, rfl⟩ h F
 unfold G1.B2 at h
 have G := Cr u
 refine Ai I (Ab fun P H => Bf I G (gS ?_))
 subst H
 refine gR (gQ (Ab fun Q K => gN (Ao 2 [.x 0 g (Aq i)] I ⟨⟨I, Ag E⟩, J⟩ (gP [] I (Bl [.V 0, .V 0] 2 fun R => gP [0] I (Bc 0 0 0 [Aq i] I (gO ?_)))))))
 subst K
 refine Aj (fun s ob => ∃ (j : Bool), G1.J3 j = some D ∧ s = [(39, .v (.bool j))] ∧ ob = []) [(1, _), (2, _), (9, _), (10, _), (11, _)] J5 ?_ ?_
 refine gN (Ao 6 [.o 1 0, .l 3 (e.length : Int)] I ⟨A2, I, J⟩ ?_)
 rcases bt (decide (i.Batch ≥ (e.length : Int))) with b | b
 have h := Bp b h
 exact Ae 20 I b (Af 19 I (gO (lg ⟨true, h, I2⟩ [])))
 have h := Bq b h
 obtain ⟨a, ⟨w, y⟩, h⟩ := A7 h
 refine Ae 20 I b (Ao 9 [.o 2 0, .x 3 a.1 (Cf a.2)] I ⟨⟨w, Ag y⟩, I, J⟩ ?_)
 rcases bt (decide (a.2.Product < 0)) with c | c
 have h := Bp c h
 exact Ae 29 I c (Af 10 I (gO (lg ⟨true, h, I2⟩ [])))
 have h := Bq c h
 exact Ae 29 I c (Ao 10 [.o 2 0, .x 3 a.1 (Cf a.2), .l 7 (f.length : Int)] I ⟨A2, ⟨w, Ag y⟩, I, J⟩ (gO (lg ⟨decide (a.2.Product ≥ (f.length : Int)), h, I2⟩ [])))
 rintro s ob ⟨j, h, rfl, rfl⟩
 refine Ar h I ?_ ?_
 intro M h
 refine Ai I ?_
 obtain rfl := F _ (oi h).symm
 have h := p
 have h := Cq h
 cases io h
 exact gT pr
 intro M h
 refine gS (gN (Ao 2 [.k 0 (g + 1 : Nat)] I ⟨Az u A, J⟩ ?_))
 cases io h
 exact gO ⟨_, _, _, I, I2, J5, [], I, by decide⟩
 rintro t s ob ⟨rfl, rfl⟩ he
 subst he
 have h := C0 p
 have N := Cs d.length
 exact Ai I (Ab fun S U => Bg I N (gW (lg ⟨(), h, I2⟩ [])))
 rintro s ob ⟨n, h, rfl, rfl⟩
 unfold G1.J1 at h
 refine Ai I ?_
 cases io h
 exact gT pr
theorem Xw (a : Bounds) (r : Bool) (h : Fv a = r) : ACalls Ah 45 [.agg (Al a)] [] (RB r) := by
 refine Ad Tryz.func45 I I I fun C hC => ?_
 unfold Fv at h
 refine Ab fun e d => gN (gP [] I (Cc (Al a) 2 fun f => Af 1 I (gO ?_)))
 subst d
 refine Aj (fun s ob => s = [(2, .v (.bool (decide (a.Low ≤ a.High) && (decide (a.Low ≥ (-1125899906842624)) && decide (a.High ≤ 1125899906842624)))))] ∧ ob = []) [] J ?_ ?_
 refine gN (Ao 6 [.o 1 0, .o 3 0] I J2 ?_)
 rcases bt (decide (a.Low ≤ a.High)) with b | b
 refine Ae 8 I b (Ao 5 [.o 1 0] I J1 ?_)
 rcases bt (decide (a.Low ≥ (-1125899906842624))) with c | c
 refine Ae 13 I c (Ao 5 [.o 1 0] I J1 (gO ?_))
 exact lf I2 ⟨(Dg (by simp only [b, c, bz])), J⟩ [] I
 refine Ae 13 I c (Af 5 I (gO ?_))
 exact lf I2 ⟨(Dg (by simp only [b, c, bz])), J⟩ [] I
 refine Ae 8 I b (Af 10 I (gO ?_))
 exact lf I2 ⟨(Dg (by simp only [b, bz])), J⟩ [] I
 rintro s ob ⟨rfl, rfl⟩
 obtain rfl := h
 exact gT pr
theorem P3 (b : Li) (a : Int) (r : Li) (h : Kv b a = some r) : ACalls Ah 68 [Q2 b, .V a] [] (RV (Q2 r)) := by
 refine Ad Tryz.func68 I I I fun C hC => ?_
 unfold Kv at h
 refine Ai I (Ai I (Aj (fun s ob => ∃ (c : Int), Kv.J1 b a c = some r ∧ s = [(5, .V c)] ∧ ob = []) [(0, _), (1, _)] J2 ?_ ?_))
 refine gQ ?_
 obtain ⟨ak, B, D⟩ := Ac h
 refine Cm B [(0, _), (1, _)] J2 (fun (d : Int) s ob => s = [(5, .V d)] ∧ ob = []) ⟨I, I⟩ ⟨I, J⟩ ⟨[], I, by decide⟩ ?_
 rintro d E s ob ⟨rfl, rfl⟩ h F
 unfold Kv.B4 at h
 refine gR (Aj (fun s ob => ∃ (k : Bool), Kv.J5 d k = some E ∧ s = [(17, .v (.bool k))] ∧ ob = []) [(0, _), (1, _), (5, _)] J3 ?_ ?_)
 refine gN (Ao 5 [.l 2 (b.length : Int)] I ⟨A2, J⟩ ?_)
 rcases bt (decide (d < (b.length : Int))) with e | e
 have h := Bp e h
 obtain ⟨m, ⟨G, H⟩, h⟩ := A7 h
 exact Ae 10 I e (Ao 7 [.x 2 m.1 (rI m.2)] I ⟨⟨G, Ag H⟩, J⟩ (gO (lg ⟨decide (m.2 < a), h, I2⟩ [])))
 have h := Bq e h
 exact Ae 10 I e (Af 7 I (gO (lg ⟨false, h, I2⟩ [])))
 rintro s ob ⟨k, h, rfl, rfl⟩
 refine Ar h I ?_ ?_
 intro M h
 refine gS (gQ (gN (Af 3 I ?_)))
 cases io h
 exact gO ⟨_, _, _, I, I2, J3, [], I, by decide⟩
 intro M h
 obtain rfl := F _ (oi h).symm
 have h := D
 exact gW (lg ⟨d, h, I2⟩ [])
 rintro s ob ⟨c, h, rfl, rfl⟩
 unfold Kv.J1 at h
 refine Ab fun al N => Aj (fun s ob => ∃ (n : Bool), Kv.J2 b a c n = some r ∧ s = [(31, .v (.bool n))] ∧ ob = []) [(0, _), (1, _), (5, _)] J3 ?_ ?_
 refine gN (Ao 5 [.l 2 (b.length : Int)] I ⟨A2, J⟩ ?_)
 rcases bt (decide (c < (b.length : Int))) with f | f
 have h := Bp f h
 obtain ⟨o, ⟨O, P⟩, h⟩ := A7 h
 exact Ae 24 I f (Ao 7 [.x 2 o.1 (rI o.2)] I ⟨⟨O, Ag P⟩, J⟩ (gO (lg ⟨(o.2 == a), h, I2⟩ [])))
 have h := Bq f h
 exact Ae 24 I f (Af 7 I (gO (lg ⟨false, h, I2⟩ [])))
 rintro s ob ⟨n, h, rfl, rfl⟩
 refine Ar h I ?_ ?_
 intro Q h
 refine Ai I ?_
 cases io h
 exact gT pr
 intro Q h
 refine gS ?_
 subst N
 refine Aj (fun s ob => ∃ (g : Li) (j : Value), Kv.J3 g = some r ∧ s = [(4, .v j)] ∧ ob = [U0 j g]) [] J ?_ ?_
 obtain ⟨am, R, h⟩ := Ac h
 obtain ⟨S, U, W, X, Y, Z, aa⟩ := Nc R
 obtain ⟨an, p, h⟩ := Ac h
 obtain ⟨ao, t, h⟩ := Ac h
 obtain ⟨aq, ab, h⟩ := Ac h
 obtain ⟨ac, ad, ae, af, ag, ah, ai⟩ := Nc ab
 obtain ⟨u, w, h⟩ := Ac h
 refine Ca (sl 3 1 (.still 5 (sl 3 8 (.two 0 6 (.two 4 6 (.act 6 Y7) (.act 4 Y7)) (.act 0 (.act 4 Y7)))))) [] [] I (Bb 2 I (gZ I (Q9 S U 0 I I I I I (fN W) ⟨_, _, I, X⟩ I Y Z aa) I (Bb 3 I (gZ I (Q9 ac ad 0 I I I I I ⟨_, _, I, ae⟩ (fZ af) I ag ah ai) I (AP.two ?_ ?_)))))
 refine gV [] I I I (gX (sz := 1) (es := ([] : Li).map rI) I I I I I I I I I I I dS fun aj => AP.two ?_ ?_)
 exact gV [0] I I I (Dd 0 I p fun y => gV [] I I I (gY 1 (([a] : Li).map rI) (gV [0] I I I (Dd 0 I t fun A => gV [0] I I I (Dd 0 I w fun i => Bb 1 I (Ax (gO (lg ⟨u, i, h, I2⟩ [0]))))))))
 exact gV [] I I I (gY 1 (([a] : Li).map rI) (gV [0] I I I (Dd 0 I p fun y => gV [0] I I I (Dd 0 I t fun A => gV [0] I I I (Dd 0 I w fun i => Bb 1 I (Ax (gO (lg ⟨u, i, h, I2⟩ [0]))))))))
 exact gV [] I I I (gY 1 (([a] : Li).map rI) (gV [] I I I (gX (sz := 1) (es := ([] : Li).map rI) I I I I I I I I I I I dS fun aj => gV [0] I I I (Dd 0 I p fun y => gV [0] I I I (Dd 0 I t fun A => gV [0] I I I (Dd 0 I w fun i => Bb 1 I (Ax (gO (lg ⟨u, i, h, I2⟩ [0])))))))))
 rintro s ob ⟨g, j, h, rfl, rfl⟩
 unfold Kv.J3 at h
 refine gU (Ba [0] (K := [U0 j g]) I [(4, Q2 g)] ⟨⟨_, I, .us 0 I⟩, J⟩ (ob' := []) (.rest _)) ?_
 cases io h
 exact gT pr
theorem P2 (a : Sg) (b : List Piece) (r : Li) (h : Ix a b = some r) : ACalls Ah 42 [.agg (Aa a), Q0 b] [] (RV (Q2 r)) := by
 refine Ad Tryz.func42 I I I fun C hC => ?_
 unfold Ix at h
 refine Ab fun W t => gN (gP [] I (Cc (Aa a) 7 fun u => Af 1 I (gO ?_)))
 subst t
 refine Ai I (Aj (fun s ob => ∃ (g : Li), Ix.J1 b g = some r ∧ s = [(5, Q2 g)] ∧ ob = []) [(1, _)] J1 ?_ ?_)
 refine A8 [.o 1 0, .l 2 (a.Points.length : Int)] I ⟨A2, I, J⟩ (gQ (B0 11 I fun w => gU (Ba [] (K := []) I [(5, .list 1 ([].map rI))] ⟨⟨_, I, .nil _⟩, J⟩ (ob' := [O0 u [Aa a]]) (.rest _)) ?_))
 obtain ⟨X, y, A⟩ := Ac h
 refine Ds y [(1, _), (11, _), (12, _)] J3 (fun (d : Nat) (e : Li) s ob => s = [(13, .V (d : Int)), (5, Q2 e)] ∧ ob = []) ⟨I, I⟩ ⟨I, I, J⟩ ⟨[], I, by decide⟩ ?_ ?_
 rintro d j e Y s ob B n ⟨rfl, rfl⟩ h
 have D := Cr n
 refine Ai I (Ab fun Z E => Bf I D (gS ?_))
 subst E
 refine gR (gQ (gR (gN (Ao 2 [.x 0 d (A1 j)] I ⟨⟨I, Ag B⟩, J⟩ (gP [] I (Bl W1 3 fun aa => gP [0] I (Bc 0 0 0 [A1 j] I (gO ?_))))))))
 obtain ⟨ab, F, h⟩ := Ac h
 refine gN (Ao 3 [.o 2 0] I J1 (gP [] I (A5 I I I (P3 _ _ _ F) dS ?_)))
 rintro _ _ ⟨rfl, rfl⟩
 refine Af 1 I (gO (gN (Ao 2 [.k 0 (d + 1 : Nat)] I ⟨Az n w, J⟩ ?_)))
 cases io h
 exact gO (lg I2 [])
 rintro e s ob ⟨rfl, rfl⟩ he
 subst he
 have h := A
 have G := Cs a.Points.length
 exact Ai I (Ab fun ac ad => Bg I G (gW (lg ⟨e, h, I2⟩ [])))
 rintro s ob ⟨g, h, rfl, rfl⟩
 unfold Ix.J1 at h
 refine Ai I (Aj (fun s ob => ∃ (i : Li), Ix.J2 i = some r ∧ s = [(5, Q2 i)] ∧ ob = []) [] J ?_ ?_)
 refine A8 [.l 1 (b.length : Int)] I ⟨A2, J⟩ (gQ (B0 22 I fun H => ?_))
 obtain ⟨ae, M, N⟩ := Ac h
 refine Ds M [(1, _), (23, _)] J2 (fun (f : Nat) (c : Li × Int) s ob => s = [(24, .V (f : Int)), (5, Q2 c.1), (8, .V c.2)] ∧ ob = []) ⟨I, I⟩ ⟨I, I, I, J⟩ ⟨[], I, by decide⟩ ?_ ?_
 rintro f O c af s ob P p ⟨rfl, rfl⟩ h
 have Q := Cr p
 refine Ai I (Ab fun ag R => Bf I Q (gS ?_))
 subst R
 refine gR (gQ (Ai I (A8 [.x 3 f (Aq O)] I ⟨⟨I, Ag P⟩, J⟩ ?_)))
 obtain ⟨ah, S, h⟩ := Ac h
 refine gN (Af 2 I (gP [] I (A5 I I I (P3 _ _ _ S) dS ?_)))
 rintro _ _ ⟨rfl, rfl⟩
 refine Af 1 I (gO (gN (Ao 2 [.k 0 (f + 1 : Nat)] I ⟨Az p H, J⟩ ?_)))
 cases io h
 exact gO (lg I2 [])
 rintro c s ob ⟨rfl, rfl⟩ he
 subst he
 have h := N
 have U := Cs b.length
 exact Ai I (Ab fun ai aj => Bg I U (gW (lg ⟨c.1, h, I2⟩ [])))
 rintro s ob ⟨i, h, rfl, rfl⟩
 unfold Ix.J2 at h
 refine Ai I ?_
 cases io h
 exact gT pr
theorem Xp (a : List Piece) (d : Int) (r : Int) (h : Kq a d = some r) : ACalls Ah 71 [Q0 a, .V d] [] (RV (.V r)) := by
 refine Ad Tryz.func71 I I I fun C hC => ?_
 unfold Kq at h
 refine Ai I (Ab fun N t => Aj (fun s ob => ∃ (f : Bool), Kq.J1 a d f = some r ∧ s = [(13, .v (.bool f))] ∧ ob = []) [(0, _), (1, _)] J2 ?_ ?_)
 obtain ⟨u, w, h⟩ := Ac h
 refine gN (Af 1 I (Br (Py _ _ w) (Af 2 I ?_)))
 rcases bt ((!u)) with b | b
 have h := Bp b h
 exact Ae 10 I b (Af 3 I (gO (lg ⟨true, h, I2⟩ [])))
 have h := Bq b h
 exact Ae 10 I b (Af 3 I (gO (lg ⟨decide (d < 0), h, I2⟩ [])))
 rintro s ob ⟨f, h, rfl, rfl⟩
 refine Ar h I ?_ ?_
 intro y h
 refine Ai I ?_
 cases io h
 exact gT pr
 intro y h
 refine gS ?_
 subst t
 refine Aj (fun s ob => ∃ (i : Unit), Kq.J2 i = some r ∧ s = [] ∧ ob = []) [] J ?_ ?_
 refine A8 [.l 1 (a.length : Int)] I ⟨A2, J⟩ (gQ (B0 14 I fun A => ?_))
 obtain ⟨O, B, j⟩ := Ac h
 refine Bh B [(14, _), (15, _)] J2 (fun (e : Nat) (g : Int) s ob => s = [(16, .V (e : Int)), (1, .V g)] ∧ ob = []) ⟨I, I⟩ ⟨I, I, J⟩ ⟨[], I, by decide⟩ ?_ ?_
 rintro e n g P s ob D p ⟨rfl, rfl⟩ h E
 have F := Cr p
 refine Ai I (Ab fun Q G => Bf I F (gS ?_))
 subst G
 refine gR (gQ (Ab fun R H => gN (Ao 2 [.x 0 e (Aq n)] I ⟨⟨I, Ag D⟩, J⟩ (gP [] I (Bl [.V 0, .V 0] 2 fun S => gP [0] I (Bc 0 0 0 [Aq n] I (gO ?_)))))))
 subst H
 refine gR (A8 [.o 2 0] I J1 (Ar h I ?_ ?_))
 intro K h
 refine A8 [.o 1 0] I J1 ?_
 obtain rfl := E _ (oi h).symm
 have h := j
 have h := Cq h
 refine gU g0 ?_
 cases io h
 exact gT pr
 intro K h
 refine gS (G7 [.o 2 0] I J1 (gN (Ao 2 [.k 0 (e + 1 : Nat)] I ⟨Az p A, J⟩ ?_)))
 cases io h
 exact gO ⟨_, _, _, I, I2, J4, [], I, by decide⟩
 rintro g s ob ⟨rfl, rfl⟩ he
 subst he
 have h := C0 j
 have M := Cs a.length
 exact Ai I (Ab fun U W => Bg I M (gW (lg ⟨(), h, I2⟩ [])))
 rintro s ob ⟨i, h, rfl, rfl⟩
 unfold Kq.J2 at h
 refine Ai I ?_
 cases io h
 exact gT pr
theorem Pw (a : Sg) (y : List Piece) (A : List Batch) (B : List Product) (i : Int) (j : Int) (k : Int) (r : Int × Int × Int × Int) (h : Kr a y A B i j k = some r) : ACalls Ah 46 [.agg (Aa a), Q0 y, Q1 A, Q3 B, .V i, .V j, .V k] [] (RV (.tup [.V r.1, .V r.2.1, .V r.2.2.1, .V r.2.2.2])) := by
 refine Ad Tryz.func46 I I I fun C hC => ?_
 refine Ab fun y1 F => gN (gP [] I (Cc (Aa a) 7 fun l => Af 4 I (gO ?_)))
 subst F
 refine Ab fun y3 G => ?_
 obtain ⟨r4, H, h⟩ := Ac h
 obtain ⟨D, ⟨K, M⟩, h⟩ := A7 h
 obtain ⟨d, ⟨N, O⟩, h⟩ := A7 h
 refine gN (Af 4 I (Br (Xp _ _ _ H) (Ao 5 [.x 0 D.1 (Cf D.2), .x 3 d.1 (Ak d.2)] I ⟨⟨N, Ag O⟩, ⟨K, Ag M⟩, J⟩ (gP [] I (Bl W3 5 fun n => gP [1] I (Bc 1 0 0 [Ak d.2] I (gO ?_)))))))
 subst G
 refine Ai I (Aj (fun s ob => ∃ (p : Int), Kr.J1 a i j k d p = some r ∧ s = [(19, .V p)] ∧ ob = [O0 l [Aa a], O5 n [Ak d.2]]) [(4, _), (5, _), (6, _), (7, _), (18, _)] J5 ?_ ?_)
 refine gQ ?_
 obtain ⟨ag, P, Q⟩ := Ac h
 refine Cm P [(4, _), (5, _), (6, _), (7, _), (18, _)] J5 (fun (t : Int) s ob => s = [(19, .V t)] ∧ ob = [O0 l [Aa a], O5 n [Ak d.2]]) ⟨I, I⟩ ⟨I, J⟩ ⟨[0, 1], I, by decide⟩ ?_
 rintro t ah s ob ⟨rfl, rfl⟩ h R
 refine gR (gR ?_)
 obtain ⟨E, ⟨S, U⟩, h⟩ := A7 h
 refine G7 [.o 1 0, .x 4 E.1 (A1 E.2)] I ⟨⟨S, Ag U⟩, I, J⟩ (Ar h I ?_ ?_)
 intro W h
 refine gS (gQ (gN (Af 3 I ?_)))
 cases io h
 exact gO ⟨_, _, _, I, I2, J6, [0, 1], I, by decide⟩
 intro W h
 obtain rfl := R _ (oi h).symm
 have h := Q
 exact gW (lg ⟨t, h, I2⟩ [0, 1])
 rintro s ob ⟨p, h, rfl, rfl⟩
 unfold Kr.J1 at h
 refine Aj (fun s ob => ∃ (e : Int × Int × Int × Int × Int × Int) (u : Nat) (w : Nat), Kr.J2 a i j k d e = some r ∧ s = [(20, .v (.pointer (some ⟨u, 0, none⟩))), (21, .v (.pointer (some ⟨w, 0, none⟩)))] ∧ ob = [O0 l [Aa a], O5 n [Ak d.2], .arr u 35 3 1 [[.V e.1, .V e.2.1, .V e.2.2.1]], .arr w 35 3 1 [[.V e.2.2.2.1, .V e.2.2.2.2.1, .V e.2.2.2.2.2]]]) [(4, _), (5, _), (6, _), (7, _), (18, _)] J5 ?_ ?_
 obtain ⟨f, ⟨X, Y⟩, h⟩ := A7 h
 obtain ⟨g, ⟨Z, aa⟩, h⟩ := A7 h
 refine Ca dY [0] [_] I (Cg 11 [.o 1 0, .x 3 f.1 (A1 f.2), .o 6 0, .x 9 g.1 (A1 g.2)] I ⟨⟨Z, Ag aa⟩, I, ⟨X, Ag Y⟩, I, J⟩ (AP.any [⟨11, [], 20, .box 35 3 (W1)⟩, ⟨12, [], 21, .box 35 3 (W1)⟩] I ⟨⟨_, I, I, I, fun _ => Bl W1 3 fun b => ⟨_, I, ⟨b, I⟩, I⟩⟩, ⟨_, I, I, I, fun _ => Bl W1 3 fun b => ⟨_, I, ⟨b, I⟩, I⟩⟩, J⟩ ?_))
 intro ab ac
 exact gV [2] I I I (Bc 2 0 0 [A1 f.2] I (gV [3] I I I (Bc 3 0 0 [A1 g.2] I (Ax (gO (lg ⟨(f.2.At, f.2.Height, f.2.Limit, g.2.At, g.2.Height, g.2.Limit), ab, ac, h, I2⟩ [0, 1, 2, 3]))))))
 rintro s ob ⟨e, u, w, h, rfl, rfl⟩
 unfold Kr.J2 at h
 refine Ua (pd 39 0 []) [0, 1, 3, 2] [_, _, _, _] [.o 1 0, .o 3 1, .o 14 0, .o 17 1, .o 20 2, .o 22 3, .o 30 2, .o 32 3] I I J8 (gU g0 ?_)
 cases io h
 exact gT ⟨.inr I, [_, _, _, _], [], J4, Cv, I2⟩
theorem Ps (d : Int) (b : Int) (r : Bool) (h : Ko d b = r) : ACalls Ah 72 [.V d, .V b] [] (RB r) := by
 refine Ad Tryz.func72 I I I fun C hC => ?_
 unfold Ko at h
 refine Ai I (Aj (fun s ob => s = [(4, .v (.bool (decide (b ≥ 1) && (decide (b ≤ 1099511627776) && (decide (d ≥ (-2305843009213693952)) && decide (d ≤ 2305843009213693952))))))] ∧ ob = []) [] J ?_ ?_)
 refine gN (Af 3 I ?_)
 rcases bt (decide (b ≥ 1)) with a | a
 refine Ae 7 I a (Af 4 I ?_)
 rcases bt (decide (b ≤ 1099511627776)) with c | c
 refine Ae 11 I c (Af 4 I ?_)
 rcases bt (decide (d ≥ (-2305843009213693952))) with e | e
 refine Ae 15 I e (Af 4 I (gO ?_))
 exact lf I2 ⟨(Dg (by simp only [a, c, e, bz])), J⟩ [] I
 refine Ae 15 I e (Af 4 I (gO ?_))
 exact lf I2 ⟨(Dg (by simp only [a, c, e, bz])), J⟩ [] I
 refine Ae 11 I c (Af 8 I (gO ?_))
 exact lf I2 ⟨(Dg (by simp only [a, c, bz])), J⟩ [] I
 refine Ae 7 I a (Af 12 I (gO ?_))
 exact lf I2 ⟨(Dg (by simp only [a, bz])), J⟩ [] I
 rintro s ob ⟨rfl, rfl⟩
 obtain rfl := h
 exact gT pr
theorem H8 (b : Int) (d : Int) (r : Int) (h : He b d = some r) : ACalls Ah 47 [.V b, .V d] [] (RV (.V r)) := by
 refine Ad Tryz.func47 I I I fun C hC => ?_
 refine Ai I (Ab fun o i => gR (gN (Af 2 I (Br (Ps b d _ I) (Af 1 I (gO (Ar h I ?_ ?_)))))))
 intro j h
 refine Ai I ?_
 cases io h
 exact gT pr
 intro j h
 refine gS ?_
 subst i
 refine Ab fun p k => ?_
 obtain ⟨a, l, h⟩ := Ac h
 refine G7 [.f 2 (.V a)] I ⟨Yp.yd (D2 (c := a) I I (Nj l)), J⟩ ?_
 subst k
 refine Aj (fun s ob => ∃ (e : Int), He.J1 e = some r ∧ s = [(5, .V e)] ∧ ob = []) [] J ?_ ?_
 refine gR ?_
 obtain ⟨g, m, h⟩ := Ac h
 refine G7 [.f 2 (.V g)] I ⟨Yp.yd (D2 (c := g) I I (Hl m)), J⟩ (Ar h I ?_ ?_)
 intro n h
 exact Vh I (lg ⟨wr (a + 1), h, I2⟩ [])
 intro n h
 exact gS (lg ⟨a, h, I2⟩ [])
 rintro s ob ⟨e, h, rfl, rfl⟩
 unfold He.J1 at h
 refine Ai I ?_
 cases io h
 exact gT pr
theorem H9 (b : Int) (d : Int) (r : Int) (h : Hh b d = some r) : ACalls Ah 48 [.V b, .V d] [] (RV (.V r)) := by
 refine Ad Tryz.func48 I I I fun C hC => ?_
 refine Ai I (Ab fun o i => gR (gN (Af 2 I (Br (Ps b d _ I) (Af 1 I (gO (Ar h I ?_ ?_)))))))
 intro j h
 refine Ai I ?_
 cases io h
 exact gT pr
 intro j h
 refine gS ?_
 subst i
 refine Ab fun p k => ?_
 obtain ⟨a, l, h⟩ := Ac h
 refine G7 [.f 2 (.V a)] I ⟨Yp.yd (D2 (c := a) I I (Nj l)), J⟩ ?_
 subst k
 refine Aj (fun s ob => ∃ (e : Int), Hh.J1 e = some r ∧ s = [(5, .V e)] ∧ ob = []) [] J ?_ ?_
 refine gR ?_
 obtain ⟨g, m, h⟩ := Ac h
 refine G7 [.f 2 (.V g)] I ⟨Yp.yd (D2 (c := g) I I (Hl m)), J⟩ (Ar h I ?_ ?_)
 intro n h
 exact Vh I (lg ⟨wr (a - 1), h, I2⟩ [])
 intro n h
 exact gS (lg ⟨a, h, I2⟩ [])
 rintro s ob ⟨e, h, rfl, rfl⟩
 unfold Hh.J1 at h
 refine Ai I ?_
 cases io h
 exact gT pr
theorem Lf (i : Sg) (P : List Piece) (Q : List Batch) (R : List Product) (e : Int) (a : Bounds) (r : (List Level) × Int) (h : Ej i P Q R e a = some r) : ACalls Ah 18 [.agg (Aa i), Q0 P, Q1 Q, Q3 R, .V e, .agg (Al a)] [] (fun x new => ∃ (u0 : Value), x = .tup [.v u0, .V r.2] ∧ new = [U2 u0 r.1]) := by
 refine Ad Tryz.func18 I I I fun C hC => ?_
 refine Ab fun y1 an => gN (gP [] I (Cc (Aa i) 7 fun S => gP [] I (Cc (Al a) 2 fun b3 => Af 2 I (gO ?_))))
 subst an
 refine Ab fun y4 ao => gR ?_
 obtain ⟨r5, ap, h⟩ := Ac h
 refine gN (Ao 2 [.o 0 0] I J1 (Br (P4 _ _ _ ap) (Af 1 I (gO (Ai I (Ar h I ?_ ?_))))))
 intro aq h
 refine Ai I (gU (Be 43 3) (Em [2] I ?_))
 cases io h
 rotate_left
 intro aq h
 refine gS ?_
 subst ao
 refine Ab fun y8 ar => gR ?_
 obtain ⟨r9, au, h⟩ := Ac h
 refine gN (Af 1 I (Br (X5 _ _ au) (Af 1 I (gO (Ai I (Ar h I ?_ ?_))))))
 intro av h
 refine Ai I (gU (Be 43 3) (Em [2] I ?_))
 cases io h
 rotate_left
 intro av h
 refine gS ?_
 subst ar
 refine Ab fun cp aw => gQ (Ab fun cq ax => ?_)
 obtain ⟨cr, ay, h⟩ := Ac h
 refine gN (Af 3 I (Br (X4 _ _ _ _ ay) (Af 2 I (gO ?_))))
 subst ax
 refine Ar h I ?_ ?_
 intro az h
 refine Ai I (gU (Be 43 3) (Em [2] I ?_))
 cases io h
 any_goals
  exact gT ⟨.inr I, [_, _], [.us (.slice none 0 0) 43 3 ([].map Ay)], J2, Dp I (Cv), ⟨(.slice none 0 0), I2⟩⟩
 intro az h
 refine Ew 47 ((e == 0) || (decide (e < (-1000)) || (decide (e > 1000) || (!(Fv a))))) ?_ ?_
 refine gN (Af 3 I ?_)
 rcases bt ((e == 0)) with j | j
 exact Ae 50 I j (Af 13 I (gO (jf (by simp only [j, bz]) I I I2)))
 refine Ae 50 I j (Af 4 I ?_)
 rcases bt (decide (e < (-1000))) with k | k
 exact Ae 54 I k (Af 9 I (gO (jf (by simp only [j, k, bz]) I I I2)))
 refine Ae 54 I k (Af 4 I ?_)
 rcases bt (decide (e > 1000)) with u | u
 exact Ae 58 I u (Af 5 I (gO (jf (by simp only [j, k, u, bz]) I I I2)))
 exact Ae 58 I u (Ao 1 [.o 0 1] I J1 (Bm I I I (Br (Xw a _ I) (Af 3 I (gO (jf (by simp only [j, k, u, bz]) I I I2))))))
 refine Ar h I ?_ ?_
 intro a0 h
 refine Ai I (gU (Be 43 3) (Em [2] I ?_))
 cases io h
 exact gT ⟨.inr I, [_, _], [.us (.slice none 0 0) 43 3 ([].map Ay)], J2, Dp I (Cv), ⟨(.slice none 0 0), I2⟩⟩
 intro a0 h
 refine gS ?_
 subst aw
 refine Ab fun ct a1 => ?_
 obtain ⟨w, a2, h⟩ := Ac h
 refine gN (Ao 2 [.o 0 0] I J1 (gP [] I (A5 I I I (P2 _ _ _ a2) dS ?_)))
 rintro _ _ ⟨rfl, rfl⟩
 refine Af 1 I (gO ?_)
 subst a1
 refine Ab fun cu a3 => ?_
 obtain ⟨af, ⟨cv, a4, a5, a6⟩, h⟩ := dW h
 refine gN (Ao 2 [.l 1 (w.length : Int)] I ⟨A2, J⟩ (gP [] I (E7 (sz := 3) I I I I I I I I I I a4 a5 (Gd (f := Ay) a6 I) dS fun g => Af 1 I (gO ?_))))
 subst a3
 refine Ab fun cw a7 => gN (Ao 1 [.o 0 1] I J1 (gP [] I (Bl [.V 0, .V 0] 2 fun U => gP [3] I (Bc 3 0 0 [Al a] I (gO ?_)))))
 subst a7
 refine Aj (fun s ob => ∃ (ag : Unit), Ej.J1 i P Q R e a w af ag = some r ∧ s = [] ∧ ob = [O0 S [Aa i], U2 g af, O2 U [Al a]]) [(1, _), (2, _), (3, _), (4, _), (6, _), (16, _), (17, _), (18, _)] J8 ?_ ?_
 refine Ai I (Ar h I ?_ ?_)
 intro a8 h
 refine Ab fun cx a9 => ?_
 obtain ⟨y, ⟨ba, bb⟩, h⟩ := A7 h
 obtain ⟨W, ⟨bc, X⟩, h⟩ := A7 h
 refine C3 2 W.1 I X fun bd => Ca (pd 8 0 [7]) [3] [_] I (Cg 5 [.x 2 y.1 (rI y.2), .o 4 0] I ⟨I, ⟨ba, Ag bb⟩, J⟩ (gZ I (A4 (l := [.V y.2, .V a.Low, .V a.High]) C7 I) I (gZ I (Bi (m := W.1) I I I I I bd I bc X) I (gV [2] I I I (Cb 2 W.1 0 I I I (Ag X) I I I I (Bn I) I (Dl (x := (⟨y.2, a⟩ : Level)) I) (Ax (gO ?_)))))))
 subst a9
 refine Aj (fun s ob => ∃ (A : List Level), Ej.J4 A = some r ∧ s = [] ∧ ob = [U2 g A]) [(17, _)] J1 ?_ ?_
 refine Ai I (gQ ?_)
 obtain ⟨cy, be, bf⟩ := Ac h
 refine Cm be [(1, _), (2, _), (3, _), (4, _), (6, _), (16, _), (17, _), (18, _)] J8 (fun (b : (List Level) × Int × Int × Int) s ob => s = [(19, .V b.2.2.2)] ∧ ob = [O0 S [Aa i], U2 g b.1, O2 U [[.V b.2.1, .V b.2.2.1]]]) ⟨I, I⟩ ⟨I, J⟩ ⟨[0, 2, 3], I, by decide⟩ ?_
 rintro b cz s ob ⟨rfl, rfl⟩ h bg
 refine Ab fun c0 bh => A8 [.l 2 (w.length : Int)] I ⟨A2, J⟩ (Ar h I ?_ ?_)
 intro bi h
 refine gS ?_
 subst bh
 refine gR (gQ (Ab fun c1 bj => ?_))
 obtain ⟨ah, ⟨bk, bl⟩, h⟩ := A7 h
 obtain ⟨n, ⟨ai, aj⟩, h⟩ := A7 h
 obtain ⟨c2, bm, h⟩ := Ac h
 refine Ca (pd 24 0 [14]) [0] [_] I (Cg 14 [.o 0 0, .x 8 ah.1 (rI ah.2), .x 12 n.1 (rI n.2)] I ⟨⟨ai, Ag aj⟩, ⟨bk, Ag bl⟩, I, J⟩ (Gh I (Pw _ _ _ _ _ _ _ _ bm) (Bb 9 I (Ax (gO ?_)))))
 subst bj
 refine gR ?_
 obtain ⟨B, bn, h⟩ := Ac h
 obtain ⟨D, bo, h⟩ := Ac h
 obtain ⟨E, bp, h⟩ := Ac h
 obtain ⟨F, bq, h⟩ := Ac h
 refine Ca (sl 4 0 (.still 6 (.still 7 (sl 4 10 (.still 16 (.still 17 (.act 4 (.still 5 (.act 8 (.still 9 (.act 14 (.still 15 (.act 18 (.still 19 (.still 20 (.drop 21 .nil)))))))))))))))) [2] [_] I (Cg 12 [.o 1 0, .o 7 0] I J2 (Gh I (H8 _ _ _ bn) (Bb 1 I (Gh I (H8 _ _ _ bo) (Bb 1 I (Gh I (H9 _ _ _ bp) (Bb 1 I (Gh I (H9 _ _ _ bq) (Bb 1 I (Vi I (A4 (l := [.V (wr ((wr (b.2.1 - B)) - D)), .V (wr ((wr (b.2.2.1 - E)) - F))]) C8 I) I (AP.drop [2] I I I (Bc 2 0 0 [[.V (wr ((wr (b.2.1 - B)) - D)), .V (wr ((wr (b.2.2.1 - E)) - F))]] I (Ax ?_)))))))))))))
 refine gO ?_
 obtain ⟨Y, ⟨br, Z⟩, h⟩ := A7 h
 refine C3 1 Y.1 I Z fun bs => Ca (pd 10 0 [9]) [2] [_] I (Cg 7 [.x 4 n.1 (rI n.2), .o 6 0] I ⟨I, ⟨ai, Ag aj⟩, J⟩ (gZ I (A4 (l := [.V n.2, .V (wr ((wr (b.2.1 - B)) - D)), .V (wr ((wr (b.2.2.1 - E)) - F))]) C7 I) I (gZ I (Bi (m := Y.1) I I I I I bs I br Z) I (gV [1] I I I (Cb 1 Y.1 0 I I I (Ag Z) I I I I (Bn I) I (Dl (x := (⟨n.2, (⟨wr ((wr (b.2.1 - B)) - D), wr ((wr (b.2.2.1 - E)) - F)⟩ : Bounds)⟩ : Level)) I) (Ax (gO (gN (Af 3 I ?_)))))))))
 cases io h
 exact gO ⟨_, _, _, I, I2, J9, [0, 1, 2], I, by decide⟩
 intro bi h
 obtain rfl := bg _ (oi h).symm
 have h := bf
 exact gW (lg ⟨b.1, h, I2⟩ [1])
 rintro s ob ⟨A, h, rfl, rfl⟩
 unfold Ej.J4 at h
 refine Ai I ?_
 cases io h
 exact gT ⟨.inr I, [_, _], [U2 g A], J2, Dp I (Cv), ⟨g, I2⟩⟩
 intro a8 h
 exact gS (lg ⟨(), h, I2⟩ [0, 2, 3])
 rintro s ob ⟨ag, h, rfl, rfl⟩
 refine A8 [.l 1 (w.length : Int)] I ⟨A2, J⟩ (Ab fun c3 bu => ?_)
 obtain ⟨G, ⟨bv, bw⟩, h⟩ := A7 h
 obtain ⟨aa, ⟨bx, ab⟩, h⟩ := A7 h
 refine C3 1 aa.1 I ab fun b0 => Ca (pd 10 0 [9]) [2] [_] I (Cg 7 [.x 4 G.1 (rI G.2), .o 6 0] I ⟨I, ⟨bv, Ag bw⟩, J⟩ (gZ I (A4 (l := [.V G.2, .V a.Low, .V a.High]) C7 I) I (gZ I (Bi (m := aa.1) I I I I I b0 I bx ab) I (gV [1] I I I (Cb 1 aa.1 0 I I I (Ag ab) I I I I (Bn I) I (Dl (x := (⟨G.2, a⟩ : Level)) I) (Ax (gO ?_)))))))
 subst bu
 refine Aj (fun s ob => ∃ (H : List Level), Ej.J2 H = some r ∧ s = [] ∧ ob = [U2 g H]) [(17, _)] J1 ?_ ?_
 refine Ai I (gQ ?_)
 obtain ⟨c4, b1, b4⟩ := Ac h
 refine Cm b1 [(1, _), (2, _), (3, _), (4, _), (6, _), (16, _), (17, _), (18, _)] J8 (fun (d : (List Level) × Int × Int × Int) s ob => s = [(25, .V d.2.2.2)] ∧ ob = [O0 S [Aa i], U2 g d.1, O2 U [[.V d.2.1, .V d.2.2.1]]]) ⟨I, I⟩ ⟨I, J⟩ ⟨[0, 1, 2], I, by decide⟩ ?_
 rintro d c5 s ob ⟨rfl, rfl⟩ h b5
 refine Ab fun c6 b6 => Ai I (Ar h I ?_ ?_)
 intro b7 h
 refine gS ?_
 subst b6
 refine gR (gQ (Ab fun c7 b8 => ?_))
 obtain ⟨t, ⟨ak, al⟩, h⟩ := A7 h
 obtain ⟨am, ⟨b9, ca⟩, h⟩ := A7 h
 obtain ⟨c8, cb, h⟩ := Ac h
 refine Ca (pd 24 0 [14]) [0] [_] I (Cg 14 [.o 0 0, .x 7 t.1 (rI t.2), .x 12 am.1 (rI am.2)] I ⟨⟨b9, Ag ca⟩, ⟨ak, Ag al⟩, I, J⟩ (Gh I (Pw _ _ _ _ _ _ _ _ cb) (Bb 9 I (Ax (gO ?_)))))
 subst b8
 refine gR ?_
 obtain ⟨K, cc, h⟩ := Ac h
 obtain ⟨M, cd, h⟩ := Ac h
 obtain ⟨N, ce, h⟩ := Ac h
 obtain ⟨O, cf, h⟩ := Ac h
 refine Ca (sl 4 0 (sl 3 6 (sl 4 11 (sl 3 17 (.act 4 (.still 5 (.act 9 (.still 10 (.act 15 (.still 16 (.act 20 (.still 21 (.still 22 (.drop 23 .nil)))))))))))))) [2] [_] I (Cg 14 [.o 1 0, .o 8 0] I J2 (Gh I (H8 _ _ _ cc) (Bb 1 I (Gh I (H8 _ _ _ cd) (Bb 1 I (Gh I (H9 _ _ _ ce) (Bb 1 I (Gh I (H9 _ _ _ cf) (Bb 1 I (Vi I (A4 (l := [.V (wr ((wr (d.2.1 - K)) - M)), .V (wr ((wr (d.2.2.1 - N)) - O))]) C8 I) I (AP.drop [2] I I I (Bc 2 0 0 [[.V (wr ((wr (d.2.1 - K)) - M)), .V (wr ((wr (d.2.2.1 - N)) - O))]] I (Ax ?_)))))))))))))
 refine gO ?_
 obtain ⟨ac, ⟨cg, ad⟩, h⟩ := A7 h
 refine C3 1 ac.1 I ad fun ci => Ca (pd 10 0 [9]) [2] [_] I (Cg 7 [.x 4 t.1 (rI t.2), .o 6 0] I ⟨I, ⟨ak, Ag al⟩, J⟩ (gZ I (A4 (l := [.V t.2, .V (wr ((wr (d.2.1 - K)) - M)), .V (wr ((wr (d.2.2.1 - N)) - O))]) C7 I) I (gZ I (Bi (m := ac.1) I I I I I ci I cg ad) I (gV [1] I I I (Cb 1 ac.1 0 I I I (Ag ad) I I I I (Bn I) I (Dl (x := (⟨t.2, (⟨wr ((wr (d.2.1 - K)) - M), wr ((wr (d.2.2.1 - N)) - O)⟩ : Bounds)⟩ : Level)) I) (Ax (gO (gN (Af 3 I ?_)))))))))
 cases io h
 exact gO ⟨_, _, _, I, I2, J9, [0, 1, 2], I, by decide⟩
 intro b7 h
 obtain rfl := b5 _ (oi h).symm
 have h := b4
 exact gW (lg ⟨d.1, h, I2⟩ [1])
 rintro s ob ⟨H, h, rfl, rfl⟩
 unfold Ej.J2 at h
 refine Ai I ?_
 cases io h
 exact gT ⟨.inr I, [_, _], [U2 g H], J2, Dp I (Cv), ⟨g, I2⟩⟩
theorem X7 (a : Sg) (d : Int) (r : Int) (h : Kw a d = some r) : ACalls Ah 54 [.agg (Aa a), .V d] [] (RV (.V r)) := by
 refine Ad Tryz.func54 I I I fun C hC => ?_
 unfold Kw at h
 refine Ab fun Q u => gN (gP [] I (Cc (Aa a) 7 fun e => Af 1 I (gO ?_)))
 subst u
 refine Ai I (Aj (fun s ob => ∃ (f : Int), Kw.J1 f = some r ∧ s = [(5, .V f)] ∧ ob = []) [] J ?_ ?_)
 refine Ai I (gQ ?_)
 obtain ⟨R, w, y⟩ := Ac h
 refine Cm w [(1, _), (2, _)] J2 (fun (b : Int × Int) s ob => s = [(5, .V b.1), (6, .V b.2)] ∧ ob = [O0 e [Aa a]]) ⟨I, I⟩ ⟨I, I, J⟩ ⟨[0], I, by decide⟩ ?_
 rintro b t s ob ⟨rfl, rfl⟩ h A
 refine Ab fun S B => A8 [.o 2 0, .l 3 (a.Points.length : Int)] I ⟨A2, I, J⟩ (Ar h I ?_ ?_)
 intro D h
 refine gS ?_
 subst B
 refine Aj (fun s ob => ∃ (g : Int), Kw.J3 b g = some t ∧ s = [(5, .V g)] ∧ ob = [O0 e [Aa a]]) [(1, _), (2, _), (6, _)] J3 ?_ ?_
 refine gQ (Aj (fun s ob => ∃ (i : Bool), Kw.J4 a b i = some t ∧ s = [(32, .v (.bool i))] ∧ ob = [O0 e [Aa a]]) [(1, _), (2, _), (5, _), (6, _)] J4 ?_ ?_)
 obtain ⟨j, ⟨E, F⟩, h⟩ := A7 h
 refine gN (Ao 10 [.o 2 0, .x 5 j.1 (A1 j.2)] I ⟨⟨E, Ag F⟩, I, J⟩ ?_)
 rcases bt (decide (d ≥ j.2.At)) with c | c
 have h := Bp c h
 obtain ⟨k, ⟨G, H⟩, h⟩ := A7 h
 exact Ae 23 I c (Ao 9 [.o 2 0, .x 4 k.1 (A1 k.2)] I ⟨⟨G, Ag H⟩, I, J⟩ (gO (lg ⟨decide (d ≤ k.2.At), h, I2⟩ [0])))
 have h := Bq c h
 exact Ae 23 I c (Af 9 I (gO (lg ⟨false, h, I2⟩ [0])))
 rintro s ob ⟨i, h, rfl, rfl⟩
 refine Ar h I ?_ ?_
 intro K h
 obtain ⟨n, ⟨M, N⟩, h⟩ := A7 h
 obtain ⟨p, ⟨O, P⟩, h⟩ := A7 h
 exact Ca (pd 16 0 []) [0] [_] I (Cg 14 [.o 2 0, .x 5 n.1 (A1 n.2), .o 9 0, .x 11 p.1 (A1 p.2)] I ⟨⟨O, Ag P⟩, I, ⟨M, Ag N⟩, I, J⟩ (gZ I (Sh I I I) I (Bb 1 I (Ax (gO (lg ⟨(min (min b.1 n.2.Limit) p.2.Limit), h, I2⟩ [0]))))))
 intro K h
 exact gS (lg ⟨b.1, h, I2⟩ [0])
 rintro s ob ⟨g, h, rfl, rfl⟩
 unfold Kw.J3 at h
 refine gN (Af 3 I ?_)
 cases io h
 exact gO ⟨_, _, _, I, I2, J4, [0], I, by decide⟩
 intro D h
 obtain rfl := A _ (oi h).symm
 have h := y
 exact gW (lg ⟨b.1, h, I2⟩ [])
 rintro s ob ⟨f, h, rfl, rfl⟩
 unfold Kw.J1 at h
 refine Ai I ?_
 cases io h
 exact gT pr
theorem Yq (a : List Level) (F1 : T) {c : FuncId} {d e : List T} (o : Kg F1 = some (c, d, e)) (f : Level → Option Bool) (p : ∀ (g : Level) r, f g = some r → ACalls Ah c (d ++ [.agg (Ay g)] ++ e) [] (RB r)) (r : Int) (h : Qx a f = some r) : ACalls Ah 74 [Q4 a, F1] [] (RV (.V r)) := by
 refine Ad Tryz.func74 I I I fun C hC => ?_
 unfold Qx at h
 refine Ai I (Aj (fun s ob => ∃ (i : Unit), Qx.J1 i = some r ∧ s = [] ∧ ob = []) [] J ?_ ?_)
 refine A8 [.l 1 (a.length : Int)] I ⟨A2, J⟩ (gQ (B0 6 I fun q => ?_))
 obtain ⟨G, t, j⟩ := Ac h
 refine Bh t [(0, _), (1, _), (7, _)] J3 (fun (b : Nat) (m : Unit) s ob => s = [(8, .V (b : Int))] ∧ ob = []) ⟨I, I⟩ ⟨I, J⟩ ⟨[], I, by decide⟩ ?_ ?_
 rintro b u m H s ob w n ⟨rfl, rfl⟩ h y
 have A := Cr n
 refine Ai I (Ab fun K B => Bf I A (gS ?_))
 subst B
 refine gR (gQ (Ai I (gR ?_)))
 obtain ⟨M, D, h⟩ := Ac h
 refine gN (Ao 5 [.x 3 b (Ay u)] I ⟨⟨I, Ag w⟩, J⟩ (gP [] I (By I (.refl _) o I (.rest _) I (p _ _ D) dS (by rintro _ _ ⟨rfl, _⟩; rfl) ?_)))
 rintro _ ⟨_, rfl, -⟩
 refine gO (Ar h I ?_ ?_)
 intro E h
 refine Ai I ?_
 obtain rfl := y _ (oi h).symm
 have h := j
 have h := Cq h
 cases io h
 exact gT pr
 intro E h
 refine gS (gN (Ao 2 [.k 0 (b + 1 : Nat)] I ⟨Az n q, J⟩ ?_))
 cases io h
 exact gO ⟨_, _, _, I, I2, J4, [], I, by decide⟩
 rintro m s ob ⟨rfl, rfl⟩ he
 subst he
 have h := C0 j
 have F := Cs a.length
 exact Ai I (Ab fun N O => Bg I F (gW (lg ⟨(), h, I2⟩ [])))
 rintro s ob ⟨i, h, rfl, rfl⟩
 unfold Qx.J1 at h
 refine Ai I ?_
 cases io h
 exact gT pr
theorem Yc (b : List Level) (F1 : T) {d : FuncId} {e f : List T} (i : Kg F1 = some (d, e, f)) (a : Level → Option Bool) (j : ∀ (g : Level) r, a g = some r → ACalls Ah d (e ++ [.agg (Ay g)] ++ f) [] (RB r)) (r : Bool) (h : Qt b a = some r) : ACalls Ah 50 [Q4 b, F1] [] (RB r) := by
 refine Ad Tryz.func50 I I I fun C hC => ?_
 refine Ai I (gR ?_)
 obtain ⟨l, k, h⟩ := Ac h
 refine gN (Af 2 I (Br (Yq _ F1 i a j _ k) (Af 2 I (gO ?_))))
 cases io h
 exact gT pr
theorem X0 (a : Level) (c : Sg) (r : Bool) (h : Kt a c = r) : ACalls Ah 51 [.agg (Ay a), .eptr (Aa c)] [] (RB r) := by
 refine Ad Tryz.func51 I I I fun C hC => ?_
 unfold Kt at h
 refine Ab fun e d => gN (gP [] I (Cc (Ay a) 3 fun f => Af 1 I (gO ?_)))
 subst d
 refine Aj (fun s ob => s = [(3, .v (.bool (decide (a.At < 0) || decide (a.At > c.Capacity))))] ∧ ob = []) [] J ?_ ?_
 refine gN (Ao 4 [.o 1 0] I J1 ?_)
 rcases bt (decide (a.At < 0)) with b | b
 refine Ae 7 I b (Af 7 I (gO ?_))
 exact lf I2 ⟨(Dg (by simp only [b, bz])), J⟩ [] I
 refine Ae 7 I b (Ao 7 [.o 1 0] I J1 (gO ?_))
 exact lf I2 ⟨(Dg (by simp only [b, bz])), J⟩ [] I
 rintro s ob ⟨rfl, rfl⟩
 obtain rfl := h
 exact gT pr
theorem X2 (d : Sg) (e : Int) (r : Int) (h : Ku d e = some r) : ACalls Ah 52 [.agg (Aa d), .V e] [] (RV (.V r)) := by
 refine Ad Tryz.func52 I I I fun C hC => ?_
 unfold Ku at h
 refine Ab fun Q y => gN (gP [] I (Cc (Aa d) 7 fun j => Af 1 I (gO ?_)))
 subst y
 refine Ai I (Aj (fun s ob => ∃ (k : Int), Ku.J1 k = some r ∧ s = [(5, .V k)] ∧ ob = []) [] J ?_ ?_)
 refine Ai I (gQ ?_)
 obtain ⟨R, A, B⟩ := Ac h
 refine Cm A [(1, _), (2, _)] J2 (fun (c : Int × Int) s ob => s = [(5, .V c.1), (6, .V c.2)] ∧ ob = [O0 j [Aa d]]) ⟨I, I⟩ ⟨I, I, J⟩ ⟨[0], I, by decide⟩ ?_
 rintro c w s ob ⟨rfl, rfl⟩ h D
 refine Ab fun S E => A8 [.o 2 0, .l 3 (d.Points.length : Int)] I ⟨A2, I, J⟩ (Ar h I ?_ ?_)
 intro F h
 refine gS ?_
 subst E
 refine Aj (fun s ob => ∃ (n : Int), Ku.J3 c n = some w ∧ s = [(5, .V n)] ∧ ob = [O0 j [Aa d]]) [(1, _), (2, _), (6, _)] J3 ?_ ?_
 refine gQ (Aj (fun s ob => ∃ (a : Int × Int × Int × Int × Int × Int) (t : Nat) (u : Nat), Ku.J4 e c a = some w ∧ s = [(7, .v (.pointer (some ⟨t, 0, none⟩))), (8, .v (.pointer (some ⟨u, 0, none⟩)))] ∧ ob = [O0 j [Aa d], .arr t 35 3 1 [[.V a.1, .V a.2.1, .V a.2.2.1]], .arr u 35 3 1 [[.V a.2.2.2.1, .V a.2.2.2.2.1, .V a.2.2.2.2.2]]]) [(1, _), (2, _), (5, _), (6, _)] J4 ?_ ?_)
 obtain ⟨f, ⟨G, H⟩, h⟩ := A7 h
 obtain ⟨g, ⟨K, M⟩, h⟩ := A7 h
 refine Ca dY [0] [_] I (Cg 11 [.o 1 0, .x 4 f.1 (A1 f.2), .o 7 0, .x 9 g.1 (A1 g.2)] I ⟨⟨K, Ag M⟩, I, ⟨G, Ag H⟩, I, J⟩ (AP.any [⟨11, [], 7, .box 35 3 (W1)⟩, ⟨12, [], 8, .box 35 3 (W1)⟩] I ⟨⟨_, I, I, I, fun _ => Bl W1 3 fun b => ⟨_, I, ⟨b, I⟩, I⟩⟩, ⟨_, I, I, I, fun _ => Bl W1 3 fun b => ⟨_, I, ⟨b, I⟩, I⟩⟩, J⟩ ?_))
 intro N O
 exact gV [1] I I I (Bc 1 0 0 [A1 f.2] I (gV [2] I I I (Bc 2 0 0 [A1 g.2] I (Ax (gO (lg ⟨(f.2.At, f.2.Height, f.2.Limit, g.2.At, g.2.Height, g.2.Limit), N, O, h, I2⟩ [0, 1, 2]))))))
 rintro s ob ⟨a, t, u, h, rfl, rfl⟩
 unfold Ku.J4 at h
 refine Ew 36 (decide (a.1 ≤ e) && decide (e ≤ a.2.2.2.1)) ?_ ?_
 refine gN (Ao 5 [.o 1 1] I J1 ?_)
 rcases bt (decide (a.1 ≤ e)) with i | i
 exact Ae 31 I i (Ao 5 [.o 2 2] I J1 (gO (jf (by simp only [i, bz]) I I I2)))
 exact Ae 31 I i (Af 5 I (gO (jf (by simp only [i, bz]) I I I2)))
 refine Ar h I ?_ ?_
 intro P h
 exact gN (Ao 5 [.o 2 1, .o 4 2] I J2 (Bk (Sh I I I) I (Af 1 I (gO (lg ⟨(min (min c.1 a.2.2.1) a.2.2.2.2.2), h, I2⟩ [0])))))
 intro P h
 exact gS (lg ⟨c.1, h, I2⟩ [0])
 rintro s ob ⟨n, h, rfl, rfl⟩
 unfold Ku.J3 at h
 refine gN (Af 3 I ?_)
 cases io h
 exact gO ⟨_, _, _, I, I2, J4, [0], I, by decide⟩
 intro F h
 obtain rfl := D _ (oi h).symm
 have h := B
 exact gW (lg ⟨c.1, h, I2⟩ [])
 rintro s ob ⟨k, h, rfl, rfl⟩
 unfold Ku.J1 at h
 refine Ai I ?_
 cases io h
 exact gT pr
theorem Pv (a : Sg) (b : List Level) (e : Int) (r : Int × Int) (h : Iu a b e = some r) : ACalls Ah 20 [.agg (Aa a), Q4 b, .V e] [] (RV (.tup [.V r.1, .V r.2])) := by
 refine Ad Tryz.func20 I I I fun C hC => ?_
 refine Ab fun y1 K => gN (gP [] I (Cc (Aa a) 7 fun f => Af 2 I (gO ?_)))
 subst K
 refine Ab fun y3 M => gR ?_
 obtain ⟨r4, N, h⟩ := Ac h
 refine gN (Ao 1 [.o 0 0] I J1 (Br (Pr _ _ N) (Af 1 I (gO (Ai I (Ar h I ?_ ?_))))))
 intro O h
 refine Ai I (gU g0 ?_)
 cases io h
 exact gT ⟨.inr I, [_, _], [], J2, Cv, I2⟩
 intro O h
 refine gS ?_
 subst M
 refine Ab fun y7 P => Aj (fun s ob => ∃ (n : Bool), Iu.J1 a b e n = some r ∧ s = [(24, .v (.bool n))] ∧ ob = [O0 f [Aa a]]) [(1, _), (2, _), (3, _)] J3 ?_ ?_
 rcases bt (decide ((b.length : Int) > 208)) with g | g
 have h := Bp g h
 exact gN (Ao 4 [.l 1 (b.length : Int)] I ⟨A2, J⟩ (Ae 20 I g (Af 4 I (gO (lg ⟨true, h, I2⟩ [0])))))
 have h := Bq g h
 obtain ⟨Q, R, h⟩ := Ac h
 refine gN (Ao 4 [.l 1 (b.length : Int)] I ⟨A2, J⟩ (Ae 20 I g (Af 1 I (Bm I I I (Bk (Yp.makeFunc I I) I (Bm I I I (gP [] I (By I (.refl _) I I (.cons (.refl _) (.cons (.fn (.rest _) (.cons (.box 0 I (.rest _)) (.rest _))) (.rest _))) I (Yc _ (.fn 51 [] [.eptr (Aa a)]) I (fun x => some (Kt x a)) (fun x r h => by obtain I := oi h; exact X0 x a _ I) _ R) dS (by rintro _ _ ⟨rfl, _⟩; rfl) ?_))))))))
 rintro _ ⟨_, rfl, -⟩
 exact Af 1 I (gO (lg ⟨Q, h, I2⟩ [0]))
 rintro s ob ⟨n, h, rfl, rfl⟩
 refine Ar h I ?_ ?_
 intro S h
 refine Ai I (gU g0 ?_)
 cases io h
 exact gT ⟨.inr I, [_, _], [], J2, Cv, I2⟩
 intro S h
 refine gS ?_
 subst P
 refine Aj (fun s ob => ∃ (u : Unit), Iu.J2 a b e u = some r ∧ s = [] ∧ ob = [O0 f [Aa a]]) [(1, _), (2, _), (3, _)] J3 ?_ ?_
 refine Ai I (gQ ?_)
 obtain ⟨aw, U, w⟩ := Ac h
 refine Cm U [(1, _), (2, _), (3, _)] J3 (fun (y : Int) s ob => s = [(9, .V y)] ∧ ob = [O0 f [Aa a]]) ⟨I, I⟩ ⟨I, J⟩ ⟨[0], I, by decide⟩ ?_
 rintro y ax s ob ⟨rfl, rfl⟩ h A
 refine Ab fun ay W => A8 [.l 2 (b.length : Int)] I ⟨A2, J⟩ (Ar h I ?_ ?_)
 intro X h
 refine gS ?_
 subst W
 refine gR (gQ (gR ?_))
 obtain ⟨B, ⟨Y, Z⟩, h⟩ := A7 h
 obtain ⟨D, ⟨aa, ab⟩, h⟩ := A7 h
 refine Ll (pd 12 0 []) [] [] [.x 3 B.1 (Ay B.2), .x 8 D.1 (Ay D.2)] I I ⟨⟨aa, Ag ab⟩, ⟨Y, Ag Z⟩, J⟩ (Ar h I ?_ ?_)
 intro ac h
 refine Ai I ?_
 obtain rfl := A _ (oi h).symm
 have h := w
 have h := C0 h
 refine gU g0 ?_
 cases io h
 exact gT ⟨.inr I, [_, _], [], J2, Cv, I2⟩
 intro ac h
 refine gS (gN (Af 3 I ?_))
 cases io h
 exact gO ⟨_, _, _, I, I2, J4, [0], I, by decide⟩
 intro X h
 obtain rfl := A _ (oi h).symm
 have h := w
 have h := Cq h
 exact gW (lg ⟨(), h, I2⟩ [0])
 rintro s ob ⟨u, h, rfl, rfl⟩
 unfold Iu.J2 at h
 refine Aj (fun s ob => ∃ (E : Unit), Iu.J3 E = some r ∧ s = [] ∧ ob = []) [] J ?_ ?_
 refine A8 [.l 1 (b.length : Int)] I ⟨A2, J⟩ (gQ (B0 43 I fun ad => ?_))
 obtain ⟨az, ae, F⟩ := Ac h
 refine Bh ae [(2, _), (3, _), (43, _), (44, _)] J4 (fun (j : Nat) (G : Unit) s ob => s = [(45, .V (j : Int))] ∧ ob = [O0 f [Aa a]]) ⟨I, I⟩ ⟨I, J⟩ ⟨[0], I, by decide⟩ ?_ ?_
 rintro j d G af s ob ag H ⟨rfl, rfl⟩ h ah
 unfold Iu.B4 at h
 have ai := Cr H
 refine Ai I (Ab fun a0 aj => Bf I ai (gS ?_))
 subst aj
 refine gR (gQ (Ab fun a1 ak => gN (Ao 2 [.x 0 j (Ay d)] I ⟨⟨I, Ag ag⟩, J⟩ (gP [] I (Bl W1 3 fun al => gP [1] I (Bc 1 0 0 [Ay d] I (gO ?_)))))))
 subst ak
 refine Aj (fun s ob => ∃ (t : Bool), Iu.J5 d t = some af ∧ s = [(63, .v (.bool t))] ∧ ob = [O0 f [Aa a], .arr al 43 3 1 [Ay d]]) [(2, _), (3, _), (11, _), (43, _), (44, _), (45, _)] J6 ?_ ?_
 obtain ⟨am, an, h⟩ := Ac h
 refine Ca (pd 15 0 [6]) [1, 0] [_, _] I (Cg 6 [.o 2 0, .o 3 1, .o 5 0] I J3 (Gh I (X2 _ _ _ an) (Bb 2 I ?_)))
 rcases bt (decide (d.Bounds.High > am)) with i | i
 have h := Bp i h
 exact A0 57 I i (Bb 6 I (Ax (gO (lg ⟨true, h, I2⟩ [0, 1]))))
 have h := Bq i h
 exact A0 57 I i (Cg 6 [.o 2 0] I J1 (Ax (gO (lg ⟨decide (d.Bounds.Low < e), h, I2⟩ [0, 1]))))
 rintro s ob ⟨t, h, rfl, rfl⟩
 refine Ar h I ?_ ?_
 intro ao h
 refine A8 [.o 1 1] I J1 ?_
 obtain rfl := ah _ (oi h).symm
 have h := F
 have h := Cq h
 refine gU g0 ?_
 cases io h
 exact gT ⟨.inr I, [_, _], [], J2, Cv, I2⟩
 intro ao h
 refine gS (gN (Ao 2 [.k 0 (j + 1 : Nat)] I ⟨Az H ad, J⟩ ?_))
 cases io h
 exact gO ⟨_, _, _, I, I2, J5, [0], I, by decide⟩
 rintro G s ob ⟨rfl, rfl⟩ he
 subst he
 have h := C0 F
 have ap := Cs b.length
 exact Ai I (Ab fun a2 a3 => Bg I ap (gW (lg ⟨(), h, I2⟩ [])))
 rintro s ob ⟨E, h, rfl, rfl⟩
 unfold Iu.J3 at h
 refine Ai I ?_
 cases io h
 exact gT ⟨.inr I, [_, _], [], J2, Cv, I2⟩
theorem Ez (a : List Level) (e : List Level) (r : Bool) (h : Iw a e = some r) : ACalls Ah 19 [Q4 a, Q4 e] [] (RB r) := by
 refine Ad Tryz.func19 I I I fun C hC => ?_
 refine Ai I (Ab fun E m => A8 [.l 1 (a.length : Int), .l 3 (e.length : Int)] I ⟨A2, A2, J⟩ (Ar h I ?_ ?_))
 intro n h
 refine Ai I ?_
 cases io h
 exact gT pr
 intro n h
 refine gS ?_
 subst m
 refine Aj (fun s ob => ∃ (f : Unit), Iw.J1 f = some r ∧ s = [] ∧ ob = []) [] J ?_ ?_
 refine A8 [.l 1 (a.length : Int)] I ⟨A2, J⟩ (gQ (B0 11 I fun o => ?_))
 obtain ⟨F, p, g⟩ := Ac h
 refine Bh p [(0, _), (1, _), (12, _)] J3 (fun (c : Nat) (i : Unit) s ob => s = [(13, .V (c : Int))] ∧ ob = []) ⟨I, I⟩ ⟨I, J⟩ ⟨[], I, by decide⟩ ?_ ?_
 rintro c d i G s ob q j ⟨rfl, rfl⟩ h t
 have u := Cr j
 refine Ai I (Ab fun H w => Bf I u (gS ?_))
 subst w
 refine gR (gQ (Ai I (gR ?_)))
 obtain ⟨b, ⟨y, A⟩, h⟩ := A7 h
 refine Ca (pd 9 0 []) [] [] I (Cg 8 [.x 2 c (Ay d), .x 6 b.1 (Ay b.2)] I ⟨⟨y, Ag A⟩, ⟨I, Ag q⟩, J⟩ (gZ I (Rk (r := ((d.At == b.2.At) && (((d.Bounds.Low == b.2.Bounds.Low) && ((d.Bounds.High == b.2.Bounds.High) && true)) && true))) (Nat.beq 37) (fun _ h => Nat.eq_of_beq_eq_true h ▸ Ws) I I Wr I I I I) I (Ax (gO (Ar h I ?_ ?_)))))
 intro B h
 refine Ai I ?_
 obtain rfl := t _ (oi h).symm
 have h := g
 have h := Cq h
 cases io h
 exact gT pr
 intro B h
 refine gS (gN (Ao 2 [.k 0 (c + 1 : Nat)] I ⟨Az j o, J⟩ ?_))
 cases io h
 exact gO ⟨_, _, _, I, I2, J4, [], I, by decide⟩
 rintro i s ob ⟨rfl, rfl⟩ he
 subst he
 have h := C0 g
 have D := Cs a.length
 exact Ai I (Ab fun K M => Bg I D (gW (lg ⟨(), h, I2⟩ [])))
 rintro s ob ⟨f, h, rfl, rfl⟩
 unfold Iw.J1 at h
 refine Ai I ?_
 cases io h
 exact gT pr
theorem Fp  (r : Sg) (h : Qu = r) : ACalls Ah 36 [] [] (RV (.agg (Aa r))) := by
 refine Ad Tryz.func36 I I I fun C hC => ?_
 unfold Qu at h
 refine gR (gN (gP [] I (Bl W0 7 fun b => gO (gR (gN (Bk (A4 (l := [.V 0, .V 0, .V 600000]) E1 I) I (Bk (A4 (l := [.V 100, .V 10, .V 600000]) E1 I) I (gP [] I (gX (sz := 3) (es := ([(⟨0, 0, 600000⟩ : Point), (⟨100, 10, 600000⟩ : Point)] : List Point).map A1) I I I I I I I I I I I dS fun a => AO.one 1 I fun c => Bk (A4 (l := [.v (.string (⟨#[115]⟩ : Bt)), .V 0, .V 1, .V 100, .V 2, .V 0, .v a]) Od (D4 I I I I (D4 I I I I (D4 I I I I (D4 I I I I (D4 I I (Dm c) I (Nt))))))) I (gP [0] I (Bc 0 0 0 [[.v (.string (⟨#[115]⟩ : Bt)), .V 0, .V 1, .V 100, .V 2, .V 0, .v a]] I (gO ?_))))))))))))
 refine gU (Ba [1] (K := [.us a 35 3 (([(⟨0, 0, 600000⟩ : Point), (⟨100, 10, 600000⟩ : Point)] : List Point).map A1)]) I [] J (ob' := [O0 b [[.v (.string (⟨#[115]⟩ : Bt)), .V 0, .V 1, .V 100, .V 2, .V 0, .list 3 (([(⟨0, 0, 600000⟩ : Point), (⟨100, 10, 600000⟩ : Point)] : List Point).map A1)]]]) (.cons (.arr (.cons (.refl _) (.cons (.refl _) (.cons (.refl _) (.cons (.refl _) (.cons (.refl _) (.cons (.refl _) (.cons (.us 0 I) (.rest _))))))))) (.rest _))) ?_
 obtain rfl := h
 exact gT ⟨.inr I, [_], [], ⟨⟨0, _, _, _, _, _, _, _, I5⟩, J⟩, Cv, I2⟩
theorem D5  (r : List Product) (h : C6 = r) : ACalls Ah 37 [] [] (fun x new => ∃ (a : Value), x = .v a ∧ new = [U3 a r]) := by
 refine Ad Tryz.func37 I I I fun C hC => ?_
 unfold C6 at h
 refine Ai I (gR (gN (Bk (A4 (l := [.v (.string (⟨#[111, 105, 108]⟩ : Bt)), .V 800, .V 0, .V 0, .V 1000]) Oc I) I (gP [] I (gX (sz := 5) (es := ([(⟨(⟨#[111, 105, 108]⟩ : Bt), 800, 0, 0, 1000⟩ : Product)] : List Product).map Ak) I I I I I I I I I I I dS fun b => Af 1 I (gO ?_))))))
 obtain rfl := h
 exact gT ⟨.inr I, [_], [.us b 49 5 (([(⟨(⟨#[111, 105, 108]⟩ : Bt), 800, 0, 0, 1000⟩ : Product)] : List Product).map Ak)], J1, Dp I (Cv), ⟨b, I2⟩⟩
theorem Pn  (r : Bool) (h : Mf = some r) : ACalls Ah 8 [] [] (RB r) := by
 refine Ad Tryz.func8 I I I fun C hC => ?_
 unfold Mf at h
 refine Ai I (Aj (fun s ob => ∃ (m : (List Level) × Int) (o : Value), Mf.J1 m = some r ∧ s = [(1, .v o), (2, .V m.2)] ∧ ob = [U2 o m.1]) [] J ?_ ?_)
 obtain ⟨a, ⟨H, e, g, i⟩, h⟩ := dW h
 obtain ⟨w, d, h⟩ := Ac h
 refine Ca (.still 1 (.still 5 (.three 0 2 3 (.three 2 3 4 (.par [(3, []), (4, [])] Ih) (.two 2 4 (.act 4 Ih) (.act 2 Ih)) (.two 2 3 (.act 3 Ih) (.act 2 Ih))) (.two 0 3 (.par [(3, []), (4, [])] Ih) (.act 0 (.act 4 Ih))) (.two 0 2 (.two 2 4 (.act 4 Ih) (.act 2 Ih)) (.act 0 (.act 4 Ih)))))) [] [] I (gZ I (A4 (l := [.V 0, .V 100]) Oa I) I (gZ I (A4 (l := [.V 500000, .V 500000]) C8 I) I (AP.three ?_ ?_ ?_)))
 refine gV [] I I I (A5 I I I (Fp  _ I) dS ?_)
 rintro _ _ ⟨rfl, rfl⟩
 refine AP.three ?_ ?_ ?_
 refine gV [] I I I (gY 2 (([(⟨0, 100⟩ : Piece)] : List Piece).map Aq) (AP.any [⟨3, [], 9, .us 103 4 (a.map Cf)⟩, ⟨4, [], 10, .us 49 5 (C6.map Ak)⟩] I ⟨⟨_, I, I, I, fun _ => E7 (sz := 4) I I I I I I I I I I e g (Gd (f := Cf) i I) dS fun v => ⟨_, I, ⟨v, I⟩, I⟩⟩, ⟨_, I, I, I, fun _ => A5 I I I (D5  _ I) dS (by rintro _ _ ⟨v, rfl, rfl⟩; exact ⟨_, rfl, ⟨v, rfl⟩, rfl⟩)⟩, J⟩ ?_))
 intro c A b B
 refine Du (Ba [0, 1] (K := [U5 c a, U3 b C6]) I [(9, Q1 a), (10, Q3 C6)] ⟨⟨_, I, .us 0 I⟩, ⟨_, I, .us 1 I⟩, J⟩ (ob' := []) (.rest _)) I (gV [] I I I (A5 I I I (Dj _ _ _ _ _ _ _ d) dS ?_))
 rotate_left
 refine gV [] I I I (E7 (sz := 4) I I I I I I I I I I e g (Gd (f := Cf) i I) dS fun c => AP.two ?_ ?_)
 refine gV [] I I I (gY 2 (([(⟨0, 100⟩ : Piece)] : List Piece).map Aq) (gV [] I I I (A5 I I I (D5  _ I) dS ?_)))
 rintro _ _ ⟨b, rfl, rfl⟩
 refine Du (Ba [0, 1] (K := [U5 c a, U3 b C6]) I [(9, Q1 a), (10, Q3 C6)] ⟨⟨_, I, .us 0 I⟩, ⟨_, I, .us 1 I⟩, J⟩ (ob' := []) (.rest _)) I (gV [] I I I (A5 I I I (Dj _ _ _ _ _ _ _ d) dS ?_))
 rotate_left
 refine gV [] I I I (A5 I I I (D5  _ I) dS ?_)
 rintro _ _ ⟨b, rfl, rfl⟩
 refine gV [] I I I (gY 2 (([(⟨0, 100⟩ : Piece)] : List Piece).map Aq) (Du (Ba [0, 1] (K := [U5 c a, U3 b C6]) I [(9, Q1 a), (10, Q3 C6)] ⟨⟨_, I, .us 0 I⟩, ⟨_, I, .us 1 I⟩, J⟩ (ob' := []) (.rest _)) I (gV [] I I I (A5 I I I (Dj _ _ _ _ _ _ _ d) dS ?_))))
 rotate_left
 refine gV [] I I I (A5 I I I (D5  _ I) dS ?_)
 rintro _ _ ⟨b, rfl, rfl⟩
 refine AP.two ?_ ?_
 refine gV [] I I I (gY 2 (([(⟨0, 100⟩ : Piece)] : List Piece).map Aq) (gV [] I I I (E7 (sz := 4) I I I I I I I I I I e g (Gd (f := Cf) i I) dS fun c => Du (Ba [0, 1] (K := [U3 b C6, U5 c a]) I [(9, Q1 a), (10, Q3 C6)] ⟨⟨_, I, .us 1 I⟩, ⟨_, I, .us 0 I⟩, J⟩ (ob' := []) (.rest _)) I (gV [] I I I (A5 I I I (Dj _ _ _ _ _ _ _ d) dS ?_)))))
 rotate_left
 refine gV [] I I I (E7 (sz := 4) I I I I I I I I I I e g (Gd (f := Cf) i I) dS fun c => gV [] I I I (gY 2 (([(⟨0, 100⟩ : Piece)] : List Piece).map Aq) (Du (Ba [0, 1] (K := [U3 b C6, U5 c a]) I [(9, Q1 a), (10, Q3 C6)] ⟨⟨_, I, .us 1 I⟩, ⟨_, I, .us 0 I⟩, J⟩ (ob' := []) (.rest _)) I (gV [] I I I (A5 I I I (Dj _ _ _ _ _ _ _ d) dS ?_)))))
 rotate_left
 refine gV [] I I I (gY 2 (([(⟨0, 100⟩ : Piece)] : List Piece).map Aq) (AP.two ?_ ?_))
 refine gV [] I I I (A5 I I I (Fp  _ I) dS ?_)
 rintro _ _ ⟨rfl, rfl⟩
 refine AP.any [⟨3, [], 9, .us 103 4 (a.map Cf)⟩, ⟨4, [], 10, .us 49 5 (C6.map Ak)⟩] I ⟨⟨_, I, I, I, fun _ => E7 (sz := 4) I I I I I I I I I I e g (Gd (f := Cf) i I) dS fun v => ⟨_, I, ⟨v, I⟩, I⟩⟩, ⟨_, I, I, I, fun _ => A5 I I I (D5  _ I) dS (by rintro _ _ ⟨v, rfl, rfl⟩; exact ⟨_, rfl, ⟨v, rfl⟩, rfl⟩)⟩, J⟩ ?_
 intro c A b B
 refine Du (Ba [0, 1] (K := [U5 c a, U3 b C6]) I [(9, Q1 a), (10, Q3 C6)] ⟨⟨_, I, .us 0 I⟩, ⟨_, I, .us 1 I⟩, J⟩ (ob' := []) (.rest _)) I (gV [] I I I (A5 I I I (Dj _ _ _ _ _ _ _ d) dS ?_))
 rotate_left
 refine gV [] I I I (E7 (sz := 4) I I I I I I I I I I e g (Gd (f := Cf) i I) dS fun c => gV [] I I I (A5 I I I (Fp  _ I) dS ?_))
 rintro _ _ ⟨rfl, rfl⟩
 refine gV [] I I I (A5 I I I (D5  _ I) dS ?_)
 rintro _ _ ⟨b, rfl, rfl⟩
 refine Du (Ba [0, 1] (K := [U5 c a, U3 b C6]) I [(9, Q1 a), (10, Q3 C6)] ⟨⟨_, I, .us 0 I⟩, ⟨_, I, .us 1 I⟩, J⟩ (ob' := []) (.rest _)) I (gV [] I I I (A5 I I I (Dj _ _ _ _ _ _ _ d) dS ?_))
 rotate_left
 refine gV [] I I I (E7 (sz := 4) I I I I I I I I I I e g (Gd (f := Cf) i I) dS fun c => AP.two ?_ ?_)
 refine gV [] I I I (A5 I I I (Fp  _ I) dS ?_)
 rintro _ _ ⟨rfl, rfl⟩
 refine AP.two ?_ ?_
 refine gV [] I I I (gY 2 (([(⟨0, 100⟩ : Piece)] : List Piece).map Aq) (gV [] I I I (A5 I I I (D5  _ I) dS ?_)))
 rintro _ _ ⟨b, rfl, rfl⟩
 refine Du (Ba [0, 1] (K := [U5 c a, U3 b C6]) I [(9, Q1 a), (10, Q3 C6)] ⟨⟨_, I, .us 0 I⟩, ⟨_, I, .us 1 I⟩, J⟩ (ob' := []) (.rest _)) I (gV [] I I I (A5 I I I (Dj _ _ _ _ _ _ _ d) dS ?_))
 rotate_left
 refine gV [] I I I (A5 I I I (D5  _ I) dS ?_)
 rintro _ _ ⟨b, rfl, rfl⟩
 refine gV [] I I I (gY 2 (([(⟨0, 100⟩ : Piece)] : List Piece).map Aq) (Du (Ba [0, 1] (K := [U5 c a, U3 b C6]) I [(9, Q1 a), (10, Q3 C6)] ⟨⟨_, I, .us 0 I⟩, ⟨_, I, .us 1 I⟩, J⟩ (ob' := []) (.rest _)) I (gV [] I I I (A5 I I I (Dj _ _ _ _ _ _ _ d) dS ?_))))
 rotate_left
 refine gV [] I I I (gY 2 (([(⟨0, 100⟩ : Piece)] : List Piece).map Aq) (gV [] I I I (A5 I I I (Fp  _ I) dS ?_)))
 rintro _ _ ⟨rfl, rfl⟩
 refine gV [] I I I (A5 I I I (D5  _ I) dS ?_)
 rintro _ _ ⟨b, rfl, rfl⟩
 refine Du (Ba [0, 1] (K := [U5 c a, U3 b C6]) I [(9, Q1 a), (10, Q3 C6)] ⟨⟨_, I, .us 0 I⟩, ⟨_, I, .us 1 I⟩, J⟩ (ob' := []) (.rest _)) I (gV [] I I I (A5 I I I (Dj _ _ _ _ _ _ _ d) dS ?_))
 any_goals
  rintro _ _ ⟨D, rfl, rfl⟩
  refine Bb 5 I (Ax (gO ?_))
  exact lg ⟨(w.1, w.2), D, h, I2⟩ [0]
 rintro s ob ⟨m, o, h, rfl, rfl⟩
 refine Ab fun M E => ?_
 obtain ⟨y, F, h⟩ := Ac h
 refine gN (gP [] I (A5 I I I (Fp  _ I) dS ?_))
 rintro _ _ ⟨rfl, rfl⟩
 refine Af 1 I (gP [] I (By I (.refl _) I I (.cons (.refl _) (.cons (.us 0 I) (.rest _))) I (Pv _ _ _ _ F) dS (by rintro _ _ ⟨rfl, _⟩; rfl) ?_))
 rintro _ ⟨_, rfl, -⟩
 refine Af 5 I (gO ?_)
 subst E
 refine Aj (fun s ob => ∃ (t : Bool), Mf.J2 t = some r ∧ s = [(0, .v (.bool t))] ∧ ob = []) [] J ?_ ?_
 rcases bt ((m.2 == 0)) with j | j
 have h := Bp j h
 obtain ⟨G, u, h⟩ := Ac h
 rcases bt (G) with k | k
 have h := Bp k h
 rcases bt ((y.2 == 0)) with n | n
 have h := Bp n h
 refine gN (Af 3 I (Ae 23 I j (Af 1 I (Bm I I I (Bk (A4 (l := [.V 500000, .V 500000]) C8 I) I (Bm I I I (Bk (A4 (l := [.V 0, .V 500000, .V 500000]) C7 I) I (Bm I I I (Bk (A4 (l := [.V 419744, .V 419744]) C8 I) I (Bm I I I (Bk (A4 (l := [.V 100, .V 419744, .V 419744]) C7 I) I (Bm I I I ?_))))))))))))
 refine gP [] I (gY 3 (([(⟨0, (⟨500000, 500000⟩ : Bounds)⟩ : Level), (⟨100, (⟨419744, 419744⟩ : Bounds)⟩ : Level)] : List Level).map Ay) (Bm I I I (gP [] I (By I (.refl _) I I (.cons (.us 0 I) (.rest _)) I (Ez _ _ _ u) dS (by rintro _ _ ⟨rfl, _⟩; rfl) ?_))))
 rintro _ ⟨_, rfl, -⟩
 exact Af 2 I (Ae 32 I k (Af 4 I (Ae 36 I n (Af 4 I (gO (lg ⟨(y.1 == (-1)), h, I2⟩ []))))))
 have h := Bq n h
 refine gN (Af 3 I (Ae 23 I j (Af 1 I (Bm I I I (Bk (A4 (l := [.V 500000, .V 500000]) C8 I) I (Bm I I I (Bk (A4 (l := [.V 0, .V 500000, .V 500000]) C7 I) I (Bm I I I (Bk (A4 (l := [.V 419744, .V 419744]) C8 I) I (Bm I I I (Bk (A4 (l := [.V 100, .V 419744, .V 419744]) C7 I) I (Bm I I I ?_))))))))))))
 refine gP [] I (gY 3 (([(⟨0, (⟨500000, 500000⟩ : Bounds)⟩ : Level), (⟨100, (⟨419744, 419744⟩ : Bounds)⟩ : Level)] : List Level).map Ay) (Bm I I I (gP [] I (By I (.refl _) I I (.cons (.us 0 I) (.rest _)) I (Ez _ _ _ u) dS (by rintro _ _ ⟨rfl, _⟩; rfl) ?_))))
 rintro _ ⟨_, rfl, -⟩
 exact Af 2 I (Ae 32 I k (Af 4 I (Ae 36 I n (Af 4 I (gO (lg ⟨false, h, I2⟩ []))))))
 have h := Bq k h
 refine gN (Af 3 I (Ae 23 I j (Af 1 I (Bm I I I (Bk (A4 (l := [.V 500000, .V 500000]) C8 I) I (Bm I I I (Bk (A4 (l := [.V 0, .V 500000, .V 500000]) C7 I) I (Bm I I I (Bk (A4 (l := [.V 419744, .V 419744]) C8 I) I (Bm I I I (Bk (A4 (l := [.V 100, .V 419744, .V 419744]) C7 I) I (Bm I I I ?_))))))))))))
 refine gP [] I (gY 3 (([(⟨0, (⟨500000, 500000⟩ : Bounds)⟩ : Level), (⟨100, (⟨419744, 419744⟩ : Bounds)⟩ : Level)] : List Level).map Ay) (Bm I I I (gP [] I (By I (.refl _) I I (.cons (.us 0 I) (.rest _)) I (Ez _ _ _ u) dS (by rintro _ _ ⟨rfl, _⟩; rfl) ?_))))
 rintro _ ⟨_, rfl, -⟩
 exact Af 2 I (Ae 32 I k (Af 8 I (gO (lg ⟨false, h, I2⟩ []))))
 have h := Bq j h
 exact gN (Af 3 I (Ae 23 I j (Af 17 I (gO (lg ⟨false, h, I2⟩ [])))))
 rintro s ob ⟨t, h, rfl, rfl⟩
 unfold Mf.J2 at h
 cases io h
 exact gT pr
theorem X9 (a : Li) (r : KS) (h : Qr a = some r) : ACalls Ah 5 [Q2 a] [] (fun x new => ∃ (c : Nat), x = .v (.pointer (some ⟨c, 0, none⟩)) ∧ new = [O1 c [A3 r]]) := by
 refine Ad Tryz.func5 I I I fun C hC => ?_
 refine Ai I (gR ?_)
 obtain ⟨b, e, h⟩ := Ac h
 obtain ⟨f, g, i, j, k, n, o⟩ := Nc e
 refine gN (Ao 4 [.l 2 (a.length : Int)] I ⟨A2, J⟩ (Bk (Q9 f g 0 I I I I I (fN i) ⟨_, _, I, j⟩ I k n o) I (Bk (A4 (l := [Q2 b, .V 0]) Tw I) I (gP [] I (Cc [Q2 b, .V 0] 2 fun d => Af 1 I (gO ?_))))))
 obtain rfl := oi h
 exact gT ⟨.inr I, [_], [O1 d [[Q2 b, .V 0]]], J1, Dp I (Cv), ⟨d, I2⟩⟩
theorem Wz (b : Nat) (a : KS) (r : Int × KS) (h : Qh a = some r) : ACalls Ah 39 [.v (.pointer (some ⟨b, 0, none⟩))] [O1 b [A3 a]] (Eg 1 fun x os new => x = .V r.1 ∧ os = [O1 b [A3 r.2]] ∧ new = []) := by
 refine Ad Tryz.func39 I I I fun C hC => ?_
 refine Ai I (Ab fun j d => Ua (pd 10 0 []) [0] [_] [.o 3 0, .o 7 0, .l 8 (a.L_.length : Int)] I I ⟨A2, I, I, J⟩ (Ar h I ?_ ?_))
 intro e h
 refine Ai I ?_
 obtain rfl := oi h
 exact gT ⟨.inr I, [_], [O1 b [A3 a]], J1, Dp I (Cv), ⟨[O1 b [A3 a]], [], I5⟩⟩
 intro e h
 refine gS ?_
 subst d
 refine Ab fun k f => gN (Ao 7 [.o 3 0] I J1 (gP [0] I (Bc 0 0 1 [[Q2 a.L_, .V (wr (a.At + 1))]] I (gO ?_))))
 subst f
 refine gR ?_
 obtain ⟨c, ⟨g, i⟩, h⟩ := A7 h
 refine Ll (pd 12 0 []) [0] [_] [.o 3 0, .o 7 0, .x 9 c.1 (rI c.2)] I I ⟨⟨g, Ag i⟩, I, I, J⟩ ?_
 obtain rfl := oi h
 exact gT ⟨.inr I, [_], [O1 b [[Q2 a.L_, .V (wr (a.At + 1))]]], J1, Dp I (Cv), ⟨[O1 b [[Q2 a.L_, .V (wr (a.At + 1))]]], [], I5⟩⟩
theorem Yx (e : Int) (b : Int) (r : Int) (h : Qy e b = some r) : ACalls Ah 38 [.V e, .V b] [] (RV (.V r)) := by
 refine Ad Tryz.func38 I I I fun C hC => ?_
 refine Ai I (Ab fun m g => Ai I (Ar h I ?_ ?_))
 intro i h
 refine Ai I ?_
 cases io h
 exact gT pr
 intro i h
 refine gS ?_
 subst g
 refine Ab fun n j => ?_
 obtain ⟨a, k, h⟩ := Ac h
 refine G7 [.f 2 (.V a)] I ⟨Yp.yd (D2 (c := a) I I (Hl k)), J⟩ ?_
 subst j
 refine Aj (fun s ob => ∃ (d : Int), Qy.J1 d = some r ∧ s = [(0, .V d)] ∧ ob = []) [] J ?_ ?_
 refine Ai I (Ar h I ?_ ?_)
 intro l h
 exact Vh I (lg ⟨wr (a + b), h, I2⟩ [])
 intro l h
 exact gS (lg ⟨a, h, I2⟩ [])
 rintro s ob ⟨d, h, rfl, rfl⟩
 unfold Qy.J1 at h
 refine Ai I ?_
 cases io h
 exact gT pr
theorem Cz (a : Nat) (b : KS) (d : Int) (r : Int × KS) (h : Eb b d = some r) : ACalls Ah 10 [.v (.pointer (some ⟨a, 0, none⟩)), .V d] [O1 a [A3 b]] (Eg 1 fun x os new => x = .V r.1 ∧ os = [O1 a [A3 r.2]] ∧ new = []) := by
 refine Ad Tryz.func10 I I I fun C hC => ?_
 refine Ai I (gR ?_)
 obtain ⟨e, f, h⟩ := Ac h
 obtain ⟨i, g, h⟩ := Ac h
 refine gN (Af 1 I (gP [0] I (Bz [0] (Wz a _ _ f) ?_)))
 refine Af 1 I (Br (Yx _ _ _ g) (Af 1 I (gO ?_)))
 obtain rfl := oi h
 exact gT ⟨.inr I, [_], [O1 a [A3 e.2]], J1, Dp I (Cv), ⟨[O1 a [A3 e.2]], [], I5⟩⟩
theorem Lg (b : Bt) (a : Int) (r : Bt) (h : Kz b a = some r) : ACalls Ah 55 [.v (.string b), .V a] [] (RV (.v (.string r))) := by
 refine Ad Tryz.func55 I I I fun C hC => ?_
 refine Ai I (gR ?_)
 obtain ⟨g, d, h⟩ := Ac h
 obtain ⟨i, e, h⟩ := Ac h
 refine gN (Ao 4 [.f 2 (.V (a.tmod 26))] I ⟨Yp.yd (D2 (c := (a.tmod 26)) I I ⟨by decide, I⟩), J⟩ (Bk (Nv (c := IntKind.u8.wrap (wr (97 + (a.tmod 26)))) I I I I I) I (gP [] I (gX (sz := 1) (es := ([IntKind.u8.wrap (wr (97 + (a.tmod 26)))] : Li).map (rK .u8)) I I I I I I I I I I I dS fun j => gP [] I (Y1 0 d I I I I I I I I dS (Bk (aM I I (aD e)) I (Af 1 I (gO (gU g0 ?_)))))))))
 cases io h
 exact gT pr
theorem Cp (a : Nat) (c : KS) (b : Li) (r : Int × KS) (h : Dx c b = some r) : ACalls Ah 9 [.v (.pointer (some ⟨a, 0, none⟩)), Q2 b] [O1 a [A3 c]] (Eg 1 fun x os new => x = .V r.1 ∧ os = [O1 a [A3 r.2]] ∧ new = []) := by
 refine Ad Tryz.func9 I I I fun C hC => ?_
 refine Ai I (gR ?_)
 obtain ⟨d, f, h⟩ := Ac h
 obtain ⟨e, ⟨g, i⟩, h⟩ := A7 h
 refine gN (Ao 4 [.l 3 (b.length : Int)] I ⟨A2, J⟩ (gP [0] I (Bz [0] (Cz a _ _ _ f) ?_)))
 refine Ao 3 [.x 0 e.1 (rI e.2)] I ⟨⟨g, Ag i⟩, J⟩ (gO ?_)
 obtain rfl := oi h
 exact gT ⟨.inr I, [_], [O1 a [A3 d.2]], J1, Dp I (Cv), ⟨[O1 a [A3 d.2]], [], I5⟩⟩
theorem D6 (a : Nat) (b : KS) (c : Int) (d : Int) (r : Int × KS) (h : Fx b c d = some r) : ACalls Ah 16 [.v (.pointer (some ⟨a, 0, none⟩)), .V c, .V d] [O1 a [A3 b]] (Eg 1 fun x os new => x = .V r.1 ∧ os = [O1 a [A3 r.2]] ∧ new = []) := by
 refine Ad Tryz.func16 I I I fun C hC => ?_
 refine Ai I (gR ?_)
 obtain ⟨e, f, h⟩ := Ac h
 refine gN (Af 6 I (gP [0] I (Bz [0] (Cz a _ _ _ f) ?_)))
 refine Af 2 I (gO ?_)
 obtain rfl := oi h
 exact gT ⟨.inr I, [_], [O1 a [A3 e.2]], J1, Dp I (Cv), ⟨[O1 a [A3 e.2]], [], I5⟩⟩
theorem Xd (a : Sg) (b : List Piece) (r : Li × Int) (h : Ql a b = some r) : ACalls Ah 14 [.agg (Aa a), Q0 b] [] (RV (.tup [Q2 r.1, .V r.2])) := by
 refine Ad Tryz.func14 I I I fun C hC => ?_
 refine Ab fun j d => gN (gP [] I (Cc (Aa a) 7 fun e => Af 2 I (gO ?_)))
 subst d
 refine gR (gR ?_)
 obtain ⟨k, f, h⟩ := Ac h
 refine gN (Ao 2 [.o 0 0] I J1 (Br (P4 _ _ _ f) (Af 1 I (gO (Ai I (Ar h I ?_ ?_))))))
 intro g h
 refine Ai I (gU (Ba [] (K := []) I [(4, .list 1 ([].map rI))] ⟨⟨_, I, .nil _⟩, J⟩ (ob' := [O0 e [Aa a]]) (.rest _)) (gU g0 ?_))
 cases io h
 exact gT ⟨.inr I, [_, _], [], J2, Cv, I2⟩
 intro g h
 refine gS (gR ?_)
 obtain ⟨l, i, h⟩ := Ac h
 refine gN (Ao 2 [.o 0 0] I J1 (gP [] I (A5 I I I (P2 _ _ _ i) dS ?_)))
 rintro _ _ ⟨rfl, rfl⟩
 refine Af 2 I (gO (gU g0 ?_))
 cases io h
 exact gT ⟨.inr I, [_, _], [], J2, Cv, I2⟩
theorem Xn (a : Sg) (b : List Level) (i : Int) (r : Int × Int) (h : Kp a b i = some r) : ACalls Ah 21 [.agg (Aa a), Q4 b, .V i] [] (RV (.tup [.V r.1, .V r.2])) := by
 refine Ad Tryz.func21 I I I fun C hC => ?_
 refine Ab fun y1 Q => gN (gP [] I (Cc (Aa a) 7 fun d => Af 2 I (gO ?_)))
 subst Q
 refine Ab fun y3 R => gR ?_
 obtain ⟨r4, S, h⟩ := Ac h
 refine gN (Ao 1 [.o 0 0] I J1 (Br (Qc _ _ S) (Af 1 I (gO (Ar h I ?_ ?_)))))
 intro U h
 refine Ai I (gU g0 ?_)
 cases io h
 exact gT ⟨.inr I, [_, _], [], J2, Cv, I2⟩
 intro U h
 refine gS ?_
 subst R
 refine Ab fun y7 W => A8 [.l 1 (b.length : Int)] I ⟨A2, J⟩ (Ar h I ?_ ?_)
 intro X h
 refine Ai I (gU g0 ?_)
 cases io h
 exact gT ⟨.inr I, [_, _], [], J2, Cv, I2⟩
 intro X h
 refine gS ?_
 subst W
 refine Aj (fun s ob => ∃ (w : Unit), Kp.J1 a b i w = some r ∧ s = [] ∧ ob = [O0 d [Aa a]]) [(1, _), (2, _), (3, _)] J3 ?_ ?_
 refine A8 [.l 1 (b.length : Int)] I ⟨A2, J⟩ (gQ (B0 18 I fun Y => ?_))
 obtain ⟨a6, Z, y⟩ := Ac h
 refine Bh Z [(1, _), (2, _), (3, _), (19, _)] J4 (fun (e : Nat) (A : Unit) s ob => s = [(20, .V (e : Int))] ∧ ob = [O0 d [Aa a]]) ⟨I, I⟩ ⟨I, J⟩ ⟨[0], I, by decide⟩ ?_ ?_
 rintro e f A a7 s ob t B ⟨rfl, rfl⟩ h aa
 unfold Kp.B7 at h
 have ab := Cr B
 refine Ai I (Ab fun a8 ac => Bf I ab (gS ?_))
 subst ac
 refine gR (gQ (Ai I (Ew 38 (decide (f.At < 0) || decide (f.At > a.Capacity)) ?_ ?_)))
 rcases bt (decide (f.At < 0)) with j | j
 exact Ca (pd 16 0 []) [] [] I (Cg 7 [.x 2 e (Ay f)] I ⟨⟨I, Ag t⟩, J⟩ (A0 29 I j (Bb 9 I (Ax (gO (jf (by simp only [j, bz]) I I I2))))))
 exact Ca (pd 16 0 []) [0] [_] I (Cg 7 [.x 2 e (Ay f)] I ⟨⟨I, Ag t⟩, J⟩ (A0 29 I j (Cg 9 [.x 2 e (Ay f), .o 6 0] I ⟨I, ⟨I, Ag t⟩, J⟩ (Ax (gO (jf (by simp only [j, bz]) I I I2))))))
 refine Ar h I ?_ ?_
 intro ad h
 refine Ai I ?_
 obtain rfl := aa _ (oi h).symm
 have h := y
 have h := Cq h
 refine gU g0 ?_
 cases io h
 exact gT ⟨.inr I, [_, _], [], J2, Cv, I2⟩
 intro ad h
 refine gS (gN (Ao 2 [.k 0 (e + 1 : Nat)] I ⟨Az B Y, J⟩ ?_))
 cases io h
 exact gO ⟨_, _, _, I, I2, J5, [0], I, by decide⟩
 rintro A s ob ⟨rfl, rfl⟩ he
 subst he
 have h := C0 y
 have ae := Cs b.length
 exact Ai I (Ab fun a9 ba => Bg I ae (gW (lg ⟨(), h, I2⟩ [0])))
 rintro s ob ⟨w, h, rfl, rfl⟩
 unfold Kp.J1 at h
 refine Aj (fun s ob => ∃ (D : Unit), Kp.J2 a b i D = some r ∧ s = [] ∧ ob = [O0 d [Aa a]]) [(1, _), (2, _), (3, _)] J3 ?_ ?_
 refine Ai I (gQ ?_)
 obtain ⟨bb, af, E⟩ := Ac h
 refine Cm af [(1, _), (2, _), (3, _)] J3 (fun (F : Int) s ob => s = [(9, .V F)] ∧ ob = [O0 d [Aa a]]) ⟨I, I⟩ ⟨I, J⟩ ⟨[0], I, by decide⟩ ?_
 rintro F bc s ob ⟨rfl, rfl⟩ h G
 refine Ab fun bd ag => A8 [.l 2 (b.length : Int)] I ⟨A2, J⟩ (Ar h I ?_ ?_)
 intro ah h
 refine gS ?_
 subst ag
 refine gR (gQ (gR ?_))
 obtain ⟨H, ⟨ai, aj⟩, h⟩ := A7 h
 obtain ⟨K, ⟨ak, al⟩, h⟩ := A7 h
 refine Ll (pd 12 0 []) [] [] [.x 2 H.1 (Ay H.2), .x 8 K.1 (Ay K.2)] I I ⟨⟨ak, Ag al⟩, ⟨ai, Ag aj⟩, J⟩ (Ar h I ?_ ?_)
 intro am h
 refine Ai I ?_
 obtain rfl := G _ (oi h).symm
 have h := E
 have h := C0 h
 refine gU g0 ?_
 cases io h
 exact gT ⟨.inr I, [_, _], [], J2, Cv, I2⟩
 intro am h
 refine gS (gN (Af 3 I ?_))
 cases io h
 exact gO ⟨_, _, _, I, I2, J4, [0], I, by decide⟩
 intro ah h
 obtain rfl := G _ (oi h).symm
 have h := E
 have h := Cq h
 exact gW (lg ⟨(), h, I2⟩ [0])
 rintro s ob ⟨D, h, rfl, rfl⟩
 unfold Kp.J2 at h
 refine Aj (fun s ob => ∃ (M : Unit), Kp.J3 M = some r ∧ s = [] ∧ ob = []) [] J ?_ ?_
 refine A8 [.l 1 (b.length : Int)] I ⟨A2, J⟩ (gQ (B0 58 I fun an => ?_))
 obtain ⟨be, ao, N⟩ := Ac h
 refine Bh ao [(2, _), (3, _), (58, _), (59, _)] J4 (fun (p : Nat) (O : Unit) s ob => s = [(60, .V (p : Int))] ∧ ob = [O0 d [Aa a]]) ⟨I, I⟩ ⟨I, J⟩ ⟨[0], I, by decide⟩ ?_ ?_
 rintro p g O ap s ob aq P ⟨rfl, rfl⟩ h ar
 unfold Kp.B4 at h
 have au := Cr P
 refine Ai I (Ab fun bf av => Bf I au (gS ?_))
 subst av
 refine gR (gQ (Ab fun bg aw => gN (Ao 2 [.x 0 p (Ay g)] I ⟨⟨I, Ag aq⟩, J⟩ (gP [] I (Bl W1 3 fun ax => gP [1] I (Bc 1 0 0 [Ay g] I (gO ?_)))))))
 subst aw
 refine Aj (fun s ob => ∃ (u : Bool), Kp.J5 g u = some ap ∧ s = [(78, .v (.bool u))] ∧ ob = [O0 d [Aa a], .arr ax 43 3 1 [Ay g]]) [(2, _), (3, _), (11, _), (58, _), (59, _), (60, _)] J6 ?_ ?_
 obtain ⟨ay, az, h⟩ := Ac h
 refine Ca (pd 15 0 [6]) [1, 0] [_, _] I (Cg 6 [.o 2 0, .o 3 1, .o 5 0] I J3 (Gh I (X7 _ _ _ az) (Bb 2 I ?_)))
 rcases bt (decide (g.Bounds.High > ay)) with n | n
 have h := Bp n h
 exact A0 72 I n (Bb 6 I (Ax (gO (lg ⟨true, h, I2⟩ [0, 1]))))
 have h := Bq n h
 exact A0 72 I n (Cg 6 [.o 2 0] I J1 (Ax (gO (lg ⟨decide (g.Bounds.Low < i), h, I2⟩ [0, 1]))))
 rintro s ob ⟨u, h, rfl, rfl⟩
 refine Ar h I ?_ ?_
 intro a0 h
 refine A8 [.o 1 1] I J1 ?_
 obtain rfl := ar _ (oi h).symm
 have h := N
 have h := Cq h
 refine gU g0 ?_
 cases io h
 exact gT ⟨.inr I, [_, _], [], J2, Cv, I2⟩
 intro a0 h
 refine gS (gN (Ao 2 [.k 0 (p + 1 : Nat)] I ⟨Az P an, J⟩ ?_))
 cases io h
 exact gO ⟨_, _, _, I, I2, J5, [0], I, by decide⟩
 rintro O s ob ⟨rfl, rfl⟩ he
 subst he
 have h := C0 N
 have a1 := Cs b.length
 exact Ai I (Ab fun bh bi => Bg I a1 (gW (lg ⟨(), h, I2⟩ [])))
 rintro s ob ⟨M, h, rfl, rfl⟩
 unfold Kp.J3 at h
 refine Ai I ?_
 cases io h
 exact gT ⟨.inr I, [_, _], [], J2, Cv, I2⟩
theorem Ya (a : Nat) (c : KS) (b : List Bt) (r : Bt × KS) (h : Qs c b = some r) : ACalls Ah 40 [.v (.pointer (some ⟨a, 0, none⟩)), Q5 b] [O1 a [A3 c]] (Eg 1 fun x os new => x = .v (.string r.1) ∧ os = [O1 a [A3 r.2]] ∧ new = []) := by
 refine Ad Tryz.func40 I I I fun C hC => ?_
 refine Ai I (gR ?_)
 obtain ⟨d, f, h⟩ := Ac h
 obtain ⟨e, ⟨g, i⟩, h⟩ := A7 h
 refine gN (Ao 4 [.l 3 (b.length : Int)] I ⟨A2, J⟩ (gP [0] I (Bz [0] (Cz a _ _ _ f) ?_)))
 refine Ao 3 [.x 0 e.1 (rS e.2)] I ⟨⟨g, Ag i⟩, J⟩ (gO ?_)
 obtain rfl := oi h
 exact gT ⟨.inr I, [_], [O1 a [A3 d.2]], J1, Dp I (Cv), ⟨[O1 a [A3 d.2]], [], I5⟩⟩
theorem Ww (c : Nat) (j : KS) (a : Product) (r : Product × KS) (h : Mg j a = some r) : ACalls Ah 11 [.v (.pointer (some ⟨c, 0, none⟩)), .agg (Ak a)] [O1 c [A3 j]] (Eg 1 fun x os new => x = .agg (Ak r.1) ∧ os = [O1 c [A3 r.2]] ∧ new = []) := by
 refine Ad Tryz.func11 I I I fun C hC => ?_
 unfold Mg at h
 refine Ab fun H k => gN (gP [] I (Cc (Ak a) 5 fun l => gP [] I (Bl W3 5 fun n => gO ?_)))
 subst k
 refine Aj (fun s ob => ∃ (b : Li × Int × Bt × Int × Int × Int × Int), Mg.J1 b = some r ∧ s = [] ∧ ob = [O1 c [[Q2 b.1, .V b.2.1]], O5 l [[.v (.string b.2.2.1), .V b.2.2.2.1, .V b.2.2.2.2.1, .V b.2.2.2.2.2.1, .V b.2.2.2.2.2.2]], O5 n [W3]]) [(3, _), (4, _)] J2 ?_ ?_
 refine Ab fun K p => ?_
 obtain ⟨M, t, h⟩ := Ac h
 refine gN (Af 1 I (gP [0] I (Bz [0] (Cz c _ _ _ t) ?_)))
 refine gO ?_
 subst p
 refine gQ (Ai I (Ar h I ?_ ?_))
 intro u h
 obtain ⟨d, w, h⟩ := Ac h
 refine gN (Af 1 I (gP [] I (gY 1 (([(⟨#[]⟩ : Bt), (⟨#[97]⟩ : Bt), (⟨#[65]⟩ : Bt), (⟨#[55, 117, 112]⟩ : Bt), (⟨#[97, 98, 99, 100, 101, 102, 103, 104, 105, 106, 107, 108]⟩ : Bt), (⟨#[97, 98, 99, 100, 101, 102, 103, 104, 105, 106, 107, 108, 109]⟩ : Bt), (⟨#[112, 32, 97]⟩ : Bt)] : List Bt).map rS) (gP [0] I (Bz [0] (Ya c _ _ _ w) ?_)))))
 exact Af 1 I (gP [1] I (Bc 1 0 0 [[.v (.string d.1), .V a.Density, .V a.Expansion, .V a.Compress, .V a.Friction]] I (gO (lg ⟨(d.2.L_, d.2.At, d.1, a.Density, a.Expansion, a.Compress, a.Friction), h, I2⟩ [0, 1, 2]))))
 intro u h
 refine Ai I (Ar h I ?_ ?_)
 intro y h
 obtain ⟨e, A, h⟩ := Ac h
 refine gN (Af 1 I (gP [] I (gY 1 (([399, 400, 1200, 1201, (-9223372036854775808)] : Li).map rI) (gP [0] I (Bz [0] (Cp c _ _ _ A) ?_)))))
 exact Af 1 I (gP [1] I (Bc 1 0 1 [[.v (.string a.Name), .V e.1, .V a.Expansion, .V a.Compress, .V a.Friction]] I (gO (lg ⟨(e.2.L_, e.2.At, a.Name, e.1, a.Expansion, a.Compress, a.Friction), h, I2⟩ [0, 1, 2]))))
 intro y h
 refine Ai I (Ar h I ?_ ?_)
 intro B h
 obtain ⟨f, D, h⟩ := Ac h
 refine gN (Af 1 I (gP [] I (gY 1 (([(-1), 0, 2000, 2001, 4611686018427387904] : Li).map rI) (gP [0] I (Bz [0] (Cp c _ _ _ D) ?_)))))
 exact Af 1 I (gP [1] I (Bc 1 0 2 [[.v (.string a.Name), .V a.Density, .V f.1, .V a.Compress, .V a.Friction]] I (gO (lg ⟨(f.2.L_, f.2.At, a.Name, a.Density, f.1, a.Compress, a.Friction), h, I2⟩ [0, 1, 2]))))
 intro B h
 refine Ai I (Ar h I ?_ ?_)
 intro E h
 obtain ⟨g, F, h⟩ := Ac h
 refine gN (Af 1 I (gP [] I (gY 1 (([(-1), 0, 5000, 5001] : Li).map rI) (gP [0] I (Bz [0] (Cp c _ _ _ F) ?_)))))
 exact Af 1 I (gP [1] I (Bc 1 0 3 [[.v (.string a.Name), .V a.Density, .V a.Expansion, .V g.1, .V a.Friction]] I (gO (lg ⟨(g.2.L_, g.2.At, a.Name, a.Density, a.Expansion, g.1, a.Friction), h, I2⟩ [0, 1, 2]))))
 intro E h
 obtain ⟨i, G, h⟩ := Ac h
 refine gN (Af 1 I (gP [] I (gY 1 (([0, 1, 2000, 2001, (-5)] : Li).map rI) (gP [0] I (Bz [0] (Cp c _ _ _ G) ?_)))))
 exact Af 1 I (gP [1] I (Bc 1 0 4 [[.v (.string a.Name), .V a.Density, .V a.Expansion, .V a.Compress, .V i.1]] I (gO (lg ⟨(i.2.L_, i.2.At, a.Name, a.Density, a.Expansion, a.Compress, i.1), h, I2⟩ [0, 1, 2]))))
 rintro s ob ⟨b, h, rfl, rfl⟩
 refine gR (gN (Ao 1 [.o 0 1] I J1 (gP [2] I (Bc 2 0 0 [[.v (.string b.2.2.1), .V b.2.2.2.1, .V b.2.2.2.2.1, .V b.2.2.2.2.2.1, .V b.2.2.2.2.2.2]] I (gO (Em [0, 2] I ?_))))))
 obtain rfl := oi h
 exact gT ⟨.inr I, [_], [O1 c [[Q2 b.1, .V b.2.1]]], ⟨⟨1, _, _, _, _, _, _, _, I5⟩, J⟩, Dp I (Cv), ⟨[O1 c [[Q2 b.1, .V b.2.1]]], [], I5⟩⟩
end Go.Proofs.YtkhcdkioehdndaaGreatDoor
