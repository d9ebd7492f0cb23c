/- Walks that show what functions of the program compute; printed by a program of ours. No condition. -/
import Derived.Test.YtaoclefkknloiaaGreatZvL1
import Derived.Test.YtaoclefkknloiaaGreatZvB2
import Derived.Test.YtaoclefkknloiaaGreatZvB3
set_option maxRecDepth 100000
namespace Go.Proofs.YtaoclefkknloiaaGreat
open Go.Aw
set_option linter.unusedVariables false
set_option linter.unusedSimpArgs false
set_option maxHeartbeats 4000000
abbrev kG : PL := .still 19 (.still 20 (.act 21 .nil))
abbrev qW : PL := .still 12 (.act 13 (.act 14 (.act 15 .nil)))
theorem jJ (b : Li) (a : Int) (r : Int) (h : R8 b a = some r) : ACalls Ak 139 [Q0 b, .V a] [] (RV (.V r)) := by
 refine Ag Tryz.func139 I I I fun C hC => ?_
 refine Ai I (Ab fun H n => Bg [.l 1 (b.length : Int)] I ⟨A4, J⟩ (Ao h I ?_ ?_))
 intro o h
 refine Ai I ?_
 cases io h
 exact uE pr
 intro o h
 refine uA ?_
 subst n
 refine Ai I (Aj (fun s ob => ∃ (e : Int), R8.J1 a e = some r ∧ s = [(5, .V e)] ∧ ob = []) [(1, _)] J1 ?_ ?_)
 refine Bg [.l 1 (b.length : Int)] I ⟨A4, J⟩ (uB (Cg 11 I fun p => ?_))
 obtain ⟨K, u, j⟩ := Ac h
 refine Cj u (K3 1 11 12) J3 (fun (f : Nat) (g : Int) s ob => s = [(13, .V (f : Int)), (5, .V g)] ∧ ob = []) ⟨I, I⟩ ⟨I, I, J⟩ (pk []) ?_ ?_
 rintro f i g M s ob w m ⟨rfl, rfl⟩ h y
 unfold R8.B2 at h
 have A := Cr m
 refine Ai I (Ab fun N B => Bq I A (uA ?_))
 subst B
 refine uD (uB (Bg [.x 0 f (rI i)] I ⟨⟨I, Ae w⟩, J⟩ (uD (Ea 22 (decide (i < 0) || decide (i > 1000)) ?_ ?_))))
 refine tX (Af 3 I ?_)
 rcases bt (decide (i < 0)) with c | c
 exact Ah 19 I c (Af 3 I (tY (jf (by simp only [c, bz]) I I I2)))
 exact Ah 19 I c (Af 3 I (tY (jf (by simp only [c, bz]) I I I2)))
 refine Ao h I ?_ ?_
 intro D h
 refine Ai I ?_
 obtain rfl := y _ (oi h).symm
 have h := j
 have h := Dj h
 cases io h
 exact uE pr
 intro D h
 refine uA (Lj I (tX (Am 2 [.k 0 (f + 1 : Nat)] I ⟨A6 m p, J⟩ ?_)))
 cases io h
 exact tY ⟨_, _, _, I, I2, J5, pk []⟩
 rintro g s ob ⟨rfl, rfl⟩ he
 subst he
 have h := Dk j
 have E := Cs b.length
 exact Ai I (Ab fun O P => Br I E (uG (lg ⟨g, h, I2⟩ [])))
 rintro s ob ⟨e, h, rfl, rfl⟩
 refine uD (uB (Ai I (Ao h I ?_ ?_)))
 intro F h
 refine Ai I ?_
 cases io h
 exact uE pr
 intro F h
 refine Ea 30 (decide (a < 0) || decide (a > e)) ?_ ?_
 refine tX (Af 3 I ?_)
 rcases bt (decide (a < 0)) with d | d
 exact Ah 33 I d (Af 5 I (tY (jf (by simp only [d, bz]) I I I2)))
 exact Ah 33 I d (Af 5 I (tY (jf (by simp only [d, bz]) I I I2)))
 refine Ao h I ?_ ?_
 intro G h
 refine Ai I ?_
 cases io h
 exact uE pr
 intro G h
 refine uA (Ai I ?_)
 cases io h
 exact uE pr
theorem fW (a : Li) (r : deal_table) (h : aP a = some r) : ACalls Ak 140 [Q0 a] [] (RV (.agg (Bb r))) := by
 refine Ag Tryz.func140 I I I fun C hC => ?_
 refine Ab fun f e => tX (tZ [] I (Bs ([.V 0] ++ ((Ck 64 (0 : Int)).l.map cI ++ ((Ck 64 (0 : Int)).l.map cI ++ []))) 129 fun g => tY ?_))
 subst e
 refine uD (tX (Am 2 [.l 1 (a.length : Int)] I ⟨A4, J⟩ (uK (Bl (l := [.V (a.length : Int)] ++ ((Ck 64 (0 : Int)).l.map cI ++ ((Ck 64 (0 : Int)).l.map cI ++ []))) Zt I) I (tZ [] I (Bs ([.V 0] ++ ((Ck 64 (0 : Int)).l.map cI ++ ((Ck 64 (0 : Int)).l.map cI ++ []))) 129 fun i => tZ [1] I (uL 1 0 0 (es' := [[.V (a.length : Int)] ++ ((Ck 64 (0 : Int)).l.map cI ++ ((Ck 64 (0 : Int)).l.map cI ++ []))]) I I I I I I I (by simp [Arr.h, An, Bb]) (by simp [Arr.h, An, Bb]) I (congrArg (fun r => [r]) (Ge (by simp [Arr.h, An, Bb]))) (tY (uD ?_))))))))
 obtain ⟨c, b, h⟩ := Ac h
 refine tX (Af 1 I (uK (eY I I I I (by decide)) I (Af 1 I (tZ [1] I (oH 1 (es := a.map rI) I I I I I I I (AppSrc.list I) (by rw [List.length_map]; exact (S5 b).1) (by have := (S5 b).1; simp [Arr.h, An, Bb]; omega) (congrArg (fun r => [r]) (Gu (k := 1) (by simp [Arr.h, An, Bb]) (lT b))) dS (tY (uD (tX (uI (Cq 1 0 0 I I I I I (y := .agg ([.V (a.length : Int)] ++ (c.l.map cI ++ ((Ck 64 (0 : Int)).l.map cI ++ [])))) (Hy I (by simp [Arr.h, An, Bb]))) I (tZ [0] I (uL 0 0 0 (es' := [[.V (a.length : Int)] ++ (c.l.map cI ++ ((Ck 64 (0 : Int)).l.map cI ++ []))]) I I I I I I I (by simp [Arr.h, An, Bb]) (by simp [Arr.h, An, Bb]) I (congrArg (fun r => [r]) (Ge (by simp [Arr.h, An, Bb]))) (tY (C9 [0] I ?_)))))))))))))
 cases io h
 exact uE ⟨.inr I, [_], [], ⟨⟨0, _, _, _, _, _, _, _, I, I, I, I, (Hy I (by simp [Arr.h, An, Bb]))⟩, J⟩, B0, I2⟩
theorem iK (c : Nat) (a : deal_table) (r : Int × deal_table) (h : Ro a = some r) : ACalls Ak 141 [.P c] [O9 c [[.V a.n_] ++ (a.rates.l.map cI ++ (a.counts.l.map cI ++ []))]] (E8 1 fun x os new => x = .V r.1 ∧ os = [O9 c [[.V r.2.n_] ++ (r.2.rates.l.map cI ++ (r.2.counts.l.map cI ++ []))]] ∧ new = []) := by
 refine Ag Tryz.func141 I I I fun C hC => ?_
 unfold Ro at h
 refine Ai I (Ai I (Aj (fun s ob => ∃ (w : Int), Ro.J1 a w = some r ∧ s = [(3, .V w)] ∧ ob = [O9 c [[.V a.n_] ++ (a.rates.l.map cI ++ (a.counts.l.map cI ++ []))]]) [] J ?_ ?_))
 refine Ab fun aa K => tX (Af 3 I (uI (Cq 0 0 0 I I I I I (y := .V a.n_) I) I (Af 1 I (tY ?_))))
 subst K
 refine uB ?_
 obtain ⟨ab, M, h⟩ := Ac h
 have N : a.n_.toNat ≤ 9223372036854775806 := by have := J0 M; omega
 obtain ⟨ac, O, P⟩ := Ac h
 refine Eo O (K2 0 8) J2 (fun (f : Nat) (e : Int) s ob => s = [(9, .V (f : Int)), (3, .V e)] ∧ ob = [O9 c [[.V a.n_] ++ (a.rates.l.map cI ++ (a.counts.l.map cI ++ []))]]) ⟨I, I⟩ ⟨I, I, J⟩ (pk [0]) ?_ ?_
 rintro f e D s ob Q ⟨rfl, rfl⟩ h
 unfold Ro.B2 at h
 have R : decide ((f : Int) < a.n_) = true := decide_eq_true (by omega)
 refine Ai I (Ab fun ad S => Bq I R (uA ?_))
 subst S
 refine Aj (fun s ob => ∃ (A : Int), Ro.J3 A = some D ∧ s = [(3, .V A)] ∧ ob = [O9 c [[.V a.n_] ++ (a.rates.l.map cI ++ (a.counts.l.map cI ++ []))]]) (K3 0 8 9) J3 ?_ ?_
 refine uB (Ai I (Aj (fun s ob => ∃ (B : Bool), Ro.J4 f e B = some D ∧ s = [(53, .v (.bool B))] ∧ ob = [O9 c [[.V a.n_] ++ (a.rates.l.map cI ++ (a.counts.l.map cI ++ []))]]) (K5 0 3 4 8 9) J5 ?_ ?_))
 obtain ⟨b, ⟨E, g⟩, h⟩ := A5 h
 refine Bk (pd 42 0 []) [0] [_] I (A3 4 I (uN I (Dx (m := b.1) I I I I I I E (E9 g)) I ?_))
 rcases bt (decide (b.2 > 0)) with i | i
 have h := Cc i h
 rcases bt (decide (e < 0)) with p | p
 have h := Cc p h
 exact AP.o I (Cq 0 0 (1 + b.1) I I I I (by omega) (y := .V b.2) (Ed (k := 1) (by simp [Arr.h, An, Bb]) (E5 g))) I (A3 2 I (A9 19 I i (A3 3 I (A9 22 I p (A3 31 I (Ap (tY (lg ⟨true, h, I2⟩ [0]))))))))
 have h := Cd p h
 obtain ⟨j, ⟨U, F⟩, h⟩ := A5 h
 obtain ⟨u, ⟨W, G⟩, h⟩ := A5 h
 obtain ⟨n, ⟨X, H⟩, h⟩ := A5 h
 refine AP.o I (Cq 0 0 (1 + b.1) I I I I (by omega) (y := .V b.2) (Ed (k := 1) (by simp [Arr.h, An, Bb]) (E5 g))) I (A3 2 I (A9 19 I i (A3 3 I (A9 22 I p (A3 4 I (Dd I I I I ((Dx (m := j.1) I I I I I I U (E9 F)).yd) dS (Dd I I I I (Cq 0 0 (65 + j.1) I I I I (by omega) (y := .V j.2) (by rw [show 65 + j.1 = 1 + (64 + (j.1)) from by omega]; exact Ed (k := 1) (by simp [Arr.h, An, Bb]) (Ed (k := 64) (by simp [Arr.h, An, Bb]) (E5 F)))) dS (A3 5 I (Dd I I I I ((Dx (m := u.1) I I I I I I W (E9 G)).yd) dS (Dd I I I I (Cq 0 0 (1 + u.1) I I I I (by omega) (y := .V u.2) (Ed (k := 1) (by simp [Arr.h, An, Bb]) (E5 G))) dS (A3 5 I (Dd I I I I ((Dx (m := n.1) I I I I I I X (E9 H)).yd) dS ?_))))))))))))
 exact Dd I I I I (Cq 0 0 (65 + n.1) I I I I (by omega) (y := .V n.2) (by rw [show 65 + n.1 = 1 + (64 + (n.1)) from by omega]; exact Ed (k := 1) (by simp [Arr.h, An, Bb]) (Ed (k := 64) (by simp [Arr.h, An, Bb]) (E5 H)))) dS (A3 5 I (Dd I I I I ((Dx (m := b.1) I I I I I I E (E9 g)).yd) dS (Dd I I I I (Cq 0 0 (1 + b.1) I I I I (by omega) (y := .V b.2) (Ed (k := 1) (by simp [Arr.h, An, Bb]) (E5 g))) dS (A3 4 I (Ap (tY (lg ⟨decide ((wr ((wr (j.2 + 1)) * u.2)) < (wr ((wr (n.2 + 1)) * b.2))), h, I2⟩ [0])))))))
 have h := Cd i h
 refine AP.o I (Cq 0 0 (1 + b.1) I I I I (by omega) (y := .V b.2) (Ed (k := 1) (by simp [Arr.h, An, Bb]) (E5 g))) I (A3 2 I (A9 19 I i (A3 3 I (As I I I I dS (As I I I I dS (As I I I I dS (As I I I I dS (As I I I I dS (As I I I I dS (As I I I I dS (As I I I I dS (As I I I I dS ?_))))))))))))
 refine As I I I I dS (As I I I I dS (As I I I I dS (As I I I I dS (As I I I I dS (As I I I I dS (As I I I I dS (As I I I I dS (As I I I I dS (As I I I I dS (As I I I I dS (As I I I I dS (As I I I I dS ?_))))))))))))
 exact As I I I I dS (As I I I I dS (As I I I I dS (As I I I I dS (As I I I I dS (As I I I I dS (As I I I I dS (A3 2 I (Ap (tY (lg ⟨false, h, I2⟩ [0]))))))))))
 rintro s ob ⟨B, h, rfl, rfl⟩
 refine Ao h I ?_ ?_
 intro Y h
 exact Lj I (lg ⟨(f : Int), h, I2⟩ [0])
 intro Y h
 exact uA (lg ⟨e, h, I2⟩ [0])
 rintro s ob ⟨A, h, rfl, rfl⟩
 unfold Ro.J3 at h
 refine tX (Am 2 [.k 0 (f + 1 : Nat)] I ⟨A6 Q N, J⟩ ?_)
 cases io h
 exact tY (lg I2 [0])
 rintro e s ob ⟨rfl, rfl⟩ he
 subst he
 have h := P
 have Z : decide (((a.n_.toNat : Nat) : Int) < a.n_) = false := decide_eq_false (by omega)
 exact Ai I (Ab fun ae af => Br I Z (uG (lg ⟨e, h, I2⟩ [0])))
 rintro s ob ⟨w, h, rfl, rfl⟩
 refine Ai I ?_
 obtain rfl := oi h
 exact uE ⟨.inr I, [_], [O9 c [[.V a.n_] ++ (a.rates.l.map cI ++ (a.counts.l.map cI ++ []))]], J1, Cb I (B0), ⟨[O9 c [[.V a.n_] ++ (a.rates.l.map cI ++ (a.counts.l.map cI ++ []))]], [], I5⟩⟩
theorem gR (H : List Piece) (X : Li) (r : (List (List Piece)) × Int) (h : Wr H X = some r) : ACalls Ak 126 [Q2 H, Q0 X] [] (RV (.tup [.list 1 (r.1.map (rL 2 Aa)), .V r.2])) := by
 refine Ag Tryz.func126 I I I fun C hC => ?_
 refine Ai I (Ab fun y2 a5 => ?_)
 obtain ⟨a, a6, h⟩ := Ac h
 refine tX (Af 1 I (tZ [] I (Bh I I I (Vh _ _ a6) dS ?_)))
 rintro _ _ ⟨t, rfl, rfl⟩
 refine Af 1 I (tY ?_)
 subst a5
 refine Ab fun y6 a7 => Ea 32 (bif ((a.length : Int) == 0) then (decide ((H.length : Int) > 0) || decide ((a.length : Int) > 200)) else decide ((a.length : Int) > 200)) ?_ ?_
 refine tX (Af 1 I (uI (Bp 0 I I I I) I (Af 2 I ?_)))
 rcases bt (((a.length : Int) == 0)) with D | D
 refine Ah 23 I D (Am 5 [.l 1 (H.length : Int)] I ⟨A4, J⟩ ?_)
 rcases bt (decide ((H.length : Int) > 0)) with M | M
 exact Ah 28 I M (Af 4 I (tY (jf (by simp only [D, M, bz]) I I I2)))
 exact Ah 28 I M (Af 1 I (Bx I I I (uI (Bp 0 I I I I) I (Af 2 I (tY (jf (by simp only [D, M, bz]) I I I2))))))
 exact Ah 23 I D (Af 6 I (Bx I I I (uI (Bp 0 I I I I) I (Af 2 I (tY (jf (by simp only [D, bz]) I I I2))))))
 refine Ao h I ?_ ?_
 intro a8 h
 refine Ai I (uF (Ax [] (K := []) I [(4, .list 1 ([].map (rL 2 Aa)))] ⟨⟨_, I, .nil _⟩, J⟩ (ob' := [U1 t a]) (.rest _)) (uF g0 ?_))
 cases io h
 exact uE ⟨.inr I, [_, _], [], J2, B0, I2⟩
 intro a8 h
 refine uA ?_
 subst a7
 refine Ai I (Aj (fun s ob => ∃ (ad : Int), Wr.J1 X a ad = some r ∧ s = [(7, .V ad)] ∧ ob = [U1 t a]) (K2 1 6) J2 ?_ ?_)
 refine Ab fun c1 a9 => tX (Af 1 I (uI (Bp 0 I I I I) I (Af 1 I (tY ?_))))
 subst a9
 refine uB (Pl 0 I fun ba => ?_)
 obtain ⟨c2, bb, bc⟩ := Ac h
 refine Eo bb (K4 1 6 33 34) J4 (fun (ae : Nat) (Y : Int) s ob => s = [(35, .V (ae : Int)), (7, .V Y)] ∧ ob = [U1 t a]) ⟨I, I⟩ ⟨I, I, J⟩ (pk [0]) ?_ ?_
 rintro ae Y c3 s ob ar ⟨rfl, rfl⟩ h
 have bd := Cr ar
 refine Ai I (Ab fun c4 be => Bq I bd (uA ?_))
 subst be
 refine uD (uB (uD ?_))
 obtain ⟨Z, ⟨bf, au⟩, h⟩ := A5 h
 refine tX (uI (Bc 0 (m := Z.1) I I I I I I I bf (Ae au)) I (uI (Ay 0 Z.1 0 I I I (Ae au) I (y := .agg (Aa Z.2)) I) I (tZ [] I (Bs [.V 0, .V 0] 2 fun c5 => tZ [1] I (Bj 1 0 0 [Aa Z.2] I (tY (Gd [.o 2 1] I J1 (tX (Am 2 [.k 0 (ae + 1 : Nat)] I ⟨A6 ar ba, J⟩ ?_)))))))))
 cases io h
 exact tY (lg I2 [0])
 rintro Y s ob ⟨rfl, rfl⟩ he
 subst he
 have h := bc
 have bg := Cs a.length
 exact Ai I (Ab fun c6 c7 => Br I bg (uG (lg ⟨Y, h, I2⟩ [0])))
 rintro s ob ⟨ad, h, rfl, rfl⟩
 refine Ab fun c8 bh => uD ?_
 obtain ⟨c9, bi, h⟩ := Ac h
 refine tX (Af 2 I (uJ (jJ _ _ _ bi) (Af 1 I (tY (Ai I (Ao h I ?_ ?_))))))
 intro bj h
 refine Ai I (uF (Ax [] (K := []) I [(4, .list 1 ([].map (rL 2 Aa)))] ⟨⟨_, I, .nil _⟩, J⟩ (ob' := [U1 t a]) (.rest _)) (uF g0 ?_))
 cases io h
 exact uE ⟨.inr I, [_, _], [], J2, B0, I2⟩
 intro bj h
 refine uA ?_
 subst bh
 refine Ab fun da bk => ?_
 obtain ⟨db, ⟨af, bl, bm, bn⟩, h⟩ := I9 h
 refine tX (Am 2 [.l 1 (X.length : Int)] I ⟨A4, J⟩ (tZ [] I (D1 (sz := 1) (es' := List.replicate af [.N]) I I I I I I I I I I bl bm I dS fun j => uP (Nd (f := Aa) 1 af 69 2 bn I) (Af 1 I (tY ?_)))))
 subst bk
 refine Ab fun dc bo => ?_
 obtain ⟨ag, bp, h⟩ := Ac h
 refine tX (Af 1 I (tZ [] I (Bh I I I (fW _ _ bp) dS ?_)))
 rintro _ _ ⟨rfl, rfl⟩
 refine tZ [] I (Bs ([.V 0] ++ ((Ck 64 (0 : Int)).l.map cI ++ ((Ck 64 (0 : Int)).l.map cI ++ []))) 129 fun E => tZ [2] I (uL 2 0 0 (es' := [[.V ag.n_] ++ (ag.rates.l.map cI ++ (ag.counts.l.map cI ++ []))]) I I I I I I I (by simp [Arr.h, An, Bb]) (by simp [Arr.h, An, Bb]) I (congrArg (fun r => [r]) (Ge (by simp [Arr.h, An, Bb]))) (tY ?_)))
 subst bo
 refine Aj (fun s ob => ∃ (aa : List (List Piece)) (ah : List Value), Wr.J2 aa = some r ∧ s = [] ∧ ob = [.uss j 34 69 2 ah (aa.map fun x => some (x.map Aa))]) [(11, _)] J1 ?_ ?_
 refine Ab fun dd bq => tX (Af 1 I (uI (Bp 0 I I I I) I (Af 1 I (tY ?_))))
 subst bq
 refine uB (Pl 0 I fun br => ?_)
 obtain ⟨de, bs, bu⟩ := Ac h
 refine Eo bs (K4 11 12 55 56) J4 (fun (ai : Nat) (b : (List (List Piece)) × Int × (Arr Int 64) × (Arr Int 64)) s ob => ∃ (w : List Value), s = [(57, .V (ai : Int))] ∧ ob = [U1 t a, .uss j 34 69 2 w (b.1.map fun x => some (x.map Aa)), O9 E [[.V b.2.1] ++ (b.2.2.1.l.map cI ++ (b.2.2.2.l.map cI ++ []))]]) ⟨(List.replicate af nS), I, I⟩ ⟨I, J⟩ (pk N3) ?_ ?_
 rintro ai b av s ob aw ⟨w, rfl, rfl⟩ h
 unfold Wr.B5 at h
 have bv := Cr aw
 refine Ai I (Ab fun df bw => Bq I bv (uA ?_))
 subst bw
 refine Aj (fun s ob => ∃ (F : (List (List Piece)) × Int × (Arr Int 64) × (Arr Int 64)) (aj : List Value), Wr.J6 F = some av ∧ s = [] ∧ ob = [U1 t a, .uss j 34 69 2 aj (F.1.map fun x => some (x.map Aa)), O9 E [[.V F.2.1] ++ (F.2.2.1.l.map cI ++ (F.2.2.2.l.map cI ++ []))]]) (K5 11 12 55 56 57) J5 ?_ ?_
 refine uB (Ab fun dg bx => ?_)
 obtain ⟨e, ⟨b0, ax⟩, h⟩ := A5 h
 refine tX (uI (Bc 0 (m := e.1) I I I I I I I b0 (Ae ax)) I (uI (Ay 0 e.1 0 I I I (Ae ax) I (y := .agg (Aa e.2)) I) I (tZ [] I (Bs [.V 0, .V 0] 2 fun ak => tZ [3] I (Bj 3 0 0 [Aa e.2] I (tY ?_))))))
 subst bx
 refine Ab fun dh b1 => tX (Af 1 I (uI (Cq 2 0 65 I I I I I (y := .agg (b.2.2.2.l.map cI)) (Oj (k := 1) I I (by simp [Arr.h, An, Bb]) (Oj (k := 64) I I (by simp [Arr.h, An, Bb]) (Ol I (by simp [Arr.h, An, Bb]))))) I (tZ [] I (Bs ((Ck 64 (0 : Int)).l.map cI) 64 fun al => tZ [4] I (uL 4 0 0 (es' := [b.2.2.2.l.map cI]) I I I I I I I (by simp [Arr.h, An, Bb]) (by simp [Arr.h, An, Bb]) I (congrArg (fun r => [r]) (Ge (by simp [Arr.h, An, Bb]))) (tY ?_))))))
 subst b1
 refine Aj (fun s ob => ∃ (g : Int × (Arr Int 64) × (Arr Int 64)), Wr.J7 b e g = some av ∧ s = [] ∧ ob = [U1 t a, .uss j 34 69 2 w (b.1.map fun x => some (x.map Aa)), O9 E [[.V g.1] ++ (g.2.1.l.map cI ++ (g.2.2.l.map cI ++ []))], O8 ak [Aa e.2], .arr al 178 64 1 [b.2.2.2.l.map cI]]) (K7 11 12 14 15 55 56 57) J7 ?_ ?_
 refine Bg [.o 1 3] I J1 (uB ?_)
 obtain ⟨di, b2, h⟩ := Ac h
 have b3 : e.2.Volume.toNat ≤ 9223372036854775806 := by have := J0 b2; omega
 obtain ⟨dj, b4, b5⟩ := Ac h
 refine Eo b4 (K8 11 12 14 15 55 56 57 64) J8 (fun (ab : Nat) (u : Int × (Arr Int 64) × (Arr Int 64)) s ob => s = [(65, .V (ab : Int))] ∧ ob = [U1 t a, .uss j 34 69 2 w (b.1.map fun x => some (x.map Aa)), O9 E [[.V u.1] ++ (u.2.1.l.map cI ++ (u.2.2.l.map cI ++ []))], O8 ak [Aa e.2], .arr al 178 64 1 [b.2.2.2.l.map cI]]) ⟨I, I⟩ ⟨I, J⟩ (pk N5) ?_ ?_
 rintro ab u dk s ob b6 ⟨rfl, rfl⟩ h
 have b7 : decide ((ab : Int) < e.2.Volume) = true := decide_eq_true (by omega)
 refine Ai I (Ab fun dl b8 => Bq I b7 (uA ?_))
 subst b8
 refine uD (uB ?_)
 obtain ⟨am, b9, h⟩ := Ac h
 obtain ⟨i, ⟨ay, O⟩, h⟩ := A5 h
 refine tX (tZ [2] I (A0 [2] (iK E _ _ b9) ?_))
 refine Af 1 I (uK (Dx (m := i.1) I I I I I I ay (E9 O)) I (uI (Cq 2 0 (65 + i.1) I I I I (by omega) (y := .V i.2) (by rw [show 65 + i.1 = 1 + (64 + (i.1)) from by omega]; exact Ed (k := 1) (by simp [Arr.h, An, Bb]) (Ed (k := 64) (by simp [Arr.h, An, Bb]) (E5 O)))) I (Af 2 I (uK (Dx (m := i.1) I I I I I I ay (E9 O)) I (tZ [2] I (uL 2 0 (65 + i.1) (es' := [[.V am.2.n_] ++ (am.2.rates.l.map cI ++ ((am.2.counts.set i.1 (wr (i.2 + 1))).l.map cI ++ []))]) I I I I (by omega) I I I (Xg (E9 O) (by simp [Arr.h, An, Bb])) I (congrArg (fun r => [r]) (by rw [show 65 + i.1 = 1 + (64 + (i.1)) from by omega]; exact Gu (k := 1) (by simp [Arr.h, An, Bb]) (Gu (k := 64) (by simp [Arr.h, An, Bb]) (I8 (Ql O))))) (tY (tX (Am 2 [.k 0 (ab + 1 : Nat)] I ⟨A6 b6 b3, J⟩ ?_)))))))))
 cases io h
 exact tY (lg I2 N5)
 rintro u s ob ⟨rfl, rfl⟩ he
 subst he
 have h := b5
 have ca : decide (((e.2.Volume.toNat : Nat) : Int) < e.2.Volume) = false := decide_eq_false (by omega)
 exact Ai I (Ab fun dm dn => Br I ca (uG (lg ⟨(u.1, u.2.1, u.2.2), h, I2⟩ N5)))
 rintro s ob ⟨g, h, rfl, rfl⟩
 refine Ab fun dp cb => tX (Af 1 I (uI (L6 1 I I I I) I (Af 1 I (tY ?_))))
 subst cb
 refine uB (kL 1 I fun cc => ?_)
 obtain ⟨dq, cd, ce⟩ := Ac h
 refine Eo cd (K8 11 12 14 15 55 56 57 76) J8 (fun (an : Nat) (ac : List (List Piece)) s ob => ∃ (P : List Value), s = [(77, .V (an : Int))] ∧ ob = [U1 t a, .uss j 34 69 2 P (ac.map fun x => some (x.map Aa)), O9 E [[.V g.1] ++ (g.2.1.l.map cI ++ (g.2.2.l.map cI ++ []))], O8 ak [Aa e.2], .arr al 178 64 1 [b.2.2.2.l.map cI]]) ⟨w, I, I⟩ ⟨I, J⟩ (pk N5) ?_ ?_
 rintro an ac dr s ob az ⟨P, rfl, rfl⟩ h
 have cf := Cr az
 refine Ai I (Ab fun ds cg => Bq I cf (uA ?_))
 subst cg
 refine uD (uB (Ai I ?_))
 obtain ⟨G, ⟨a0, Q⟩, h⟩ := A5 h
 obtain ⟨A, ⟨ci, a1⟩, h⟩ := A5 h
 obtain ⟨R, ⟨cj, a2⟩, h⟩ := A5 h
 obtain ⟨dt, ck, h⟩ := Ac h
 refine uF (Ghost.take 1 G.1 I (Ae Q)) (Bk (sl 17 0 (.act 17 (.act 18 (.still 19 (.drop 20 .nil))))) [1, 3, 2, 4] [_, _, _, _] I (A3 4 I (AP.o I (Es 0 (m := G.1) I I I I I I I a0 (Hc Q)) I (AP.o I (I1 0 (m := G.1) I I I I (Hc Q)) I (Bv 4 [.o 1 1] I J1 (uN I (Dx (m := A.1) I I I I I I ci (E9 a1)) I (AP.o I (Cq 2 0 (65 + A.1) I I I I (by omega) (y := .V A.2) (by rw [show 65 + A.1 = 1 + (64 + (A.1)) from by omega]; exact Ed (k := 1) (by simp [Arr.h, An, Bb]) (Ed (k := 64) (by simp [Arr.h, An, Bb]) (E5 a1)))) I (A3 1 I (uN I (Dx (m := R.1) I I I I I I cj (E9 a2)) I (AP.o I (Cq 3 0 (0 + R.1) I I I I (by omega) (y := .V R.2) (by rw [Nat.zero_add]; exact Ae a2)) I (A3 1 I (uN I (Bl (l := [.V e.2.Batch, .V (wr (A.2 - R.2))]) D9 I) I ?_))))))))))))
 refine uC [] I I I (uH 2 (([(⟨e.2.Batch, wr (A.2 - R.2)⟩ : Piece)] : List Piece).map Aa) (uC [5] I I I (uO 5 I ck fun cl => AP.o I (Es 0 (m := G.1) I I I I I I I a0 (Hc Q)) I (uR [1, 5] I I I (Hi 1 5 G.1 I I I I (Mw Q) I I I (Gb _ _ _ _) (Ap (tY (tX (Am 2 [.k 0 (an + 1 : Nat)] I ⟨A6 az cc, J⟩ ?_)))))))))
 cases io h
 exact tY (lg ⟨(P.set G.1 cl), I2⟩ N5)
 rintro ac s ob ⟨P, rfl, rfl⟩ he
 subst he
 have h := ce
 have cm := Cs b.1.length
 exact Ai I (Ab fun du dv => Br I cm (uG (lg ⟨(ac, g.1, g.2.1, g.2.2), P, h, I2⟩ N3)))
 rintro s ob ⟨F, aj, h, rfl, rfl⟩
 unfold Wr.J6 at h
 refine tX (Am 2 [.k 0 (ai + 1 : Nat)] I ⟨A6 aw br, J⟩ ?_)
 cases io h
 exact tY (lg ⟨aj, I2⟩ N3)
 rintro b s ob ⟨w, rfl, rfl⟩ he
 subst he
 have h := bu
 have cn := Cs a.length
 exact Ai I (Ab fun dw dx => Br I cn (uG (lg ⟨b.1, w, h, I2⟩ [1])))
 rintro s ob ⟨aa, ah, h, rfl, rfl⟩
 unfold Wr.J2 at h
 refine Aj (fun s ob => ∃ (S : List (List Piece)) (ao : List Value), Wr.J3 S = some r ∧ s = [] ∧ ob = [.uss j 34 69 2 ao (S.map fun x => some (x.map Aa))]) [(11, _)] J1 ?_ ?_
 refine Ab fun dy co => tX (Af 1 I (uI (L6 0 I I I I) I (Af 1 I (tY ?_))))
 subst co
 refine uB (kL 0 I fun cp => ?_)
 obtain ⟨dz, cq, cr⟩ := Ac h
 refine Eo cq (K2 11 103) J2 (fun (aq : Nat) (U : List (List Piece)) s ob => ∃ (B : List Value), s = [(104, .V (aq : Int))] ∧ ob = [.uss j 34 69 2 B (U.map fun x => some (x.map Aa))]) ⟨ah, I, I⟩ ⟨I, J⟩ (pk [0]) ?_ ?_
 rintro aq U d0 s ob a3 ⟨B, rfl, rfl⟩ h
 have ct := Cr a3
 refine Ai I (Ab fun d1 cu => Bq I ct (uA ?_))
 subst cu
 refine uD (uB (Ai I ?_))
 obtain ⟨n, ⟨a4, W⟩, h⟩ := A5 h
 obtain ⟨d2, cv, h⟩ := Ac h
 refine tX (Af 4 I (uI (Es 0 (m := n.1) I I I I I I I a4 (Wa W)) I (uI (I1 0 (m := n.1) I I I I (Wa W)) I (uP (Ghost.take 0 n.1 I (Ae W)) (uP (Ax [1] (K := [.us (B.getD n.1 undef) 69 2 (n.2.map Aa)]) I [(112, Q2 n.2)] ⟨⟨_, I, .us 0 I⟩, J⟩ (ob' := [.uss j 34 69 2 B (List.set (U.map fun x => some (x.map Aa)) n.1 none)]) (.rest _)) (tZ [] I (Bh I I I (Vh _ _ cv) dS ?_)))))))
 rintro _ _ ⟨cw, rfl, rfl⟩
 refine uI (Es 0 (m := n.1) I I I I I I I a4 (Hc W)) I (tZ [0, 1] I (Hi 0 1 n.1 I I I I (Mw W) I I I (Gb _ _ _ _) (tY (tX (Am 2 [.k 0 (aq + 1 : Nat)] I ⟨A6 a3 cp, J⟩ ?_)))))
 cases io h
 exact tY (lg ⟨(B.set n.1 cw), I2⟩ [0])
 rintro U s ob ⟨B, rfl, rfl⟩ he
 subst he
 have h := cr
 have cx := Cs aa.length
 exact Ai I (Ab fun d3 d4 => Br I cx (uG (lg ⟨U, B, h, I2⟩ [0])))
 rintro s ob ⟨S, ao, h, rfl, rfl⟩
 unfold Wr.J3 at h
 refine Ai I (uF (Ax [0] (K := [.uss j 34 69 2 ao (S.map fun x => some (x.map Aa))]) I [(4, .list 1 (S.map (rL 2 Aa)))] ⟨⟨_, I, Uq 0 I⟩, J⟩ (ob' := []) (.rest _)) ?_)
 cases io h
 exact uE ⟨.inr I, [_, _], [], J2, B0, I2⟩
theorem fX (a : List (List Piece)) (F1 : T) {c : FuncId} {d e : List T} (o : Kw F1 = some (c, d, e)) (f : (List Piece) → Option Bool) (p : ∀ (g : List Piece) r, f g = some r → ACalls Ak c (d ++ [Q2 g] ++ e) [] (RB r)) (r : Int) (h : Qt a f = some r) : ACalls Ak 83 [.list 1 (a.map (rL 2 Aa)), F1] [] (RV (.V r)) := by
 refine Ag Tryz.func83 I I I fun C hC => ?_
 unfold Qt at h
 refine Ai I (Aj (fun s ob => ∃ (i : Unit), Qt.J1 i = some r ∧ s = [] ∧ ob = []) [] J ?_ ?_)
 refine Bg [.l 1 (a.length : Int)] I ⟨A4, J⟩ (uB (Cg 6 I fun q => ?_))
 obtain ⟨G, t, j⟩ := Ac h
 refine Cj t (K3 0 1 7) J3 (fun (b : Nat) (m : Unit) s ob => s = [(8, .V (b : Int))] ∧ ob = []) ⟨I, I⟩ ⟨I, J⟩ (pk []) ?_ ?_
 rintro b u m H s ob w n ⟨rfl, rfl⟩ h y
 have A := Cr n
 refine Ai I (Ab fun K B => Bq I A (uA ?_))
 subst B
 refine uD (uB (Ai I (uD ?_)))
 obtain ⟨M, D, h⟩ := Ac h
 refine tX (Am 5 [.x 3 b ((rL 2 Aa) u)] I ⟨⟨I, Ae w⟩, J⟩ (tZ [] I (Dv I (.refl _) o I (.rest _) I (p _ _ D) dS (by rintro _ _ ⟨rfl, _⟩; rfl) ?_)))
 rintro _ ⟨_, rfl, -⟩
 refine tY (Ao h I ?_ ?_)
 intro E h
 refine Ai I ?_
 obtain rfl := y _ (oi h).symm
 have h := j
 have h := Dj h
 cases io h
 exact uE pr
 intro E h
 refine uA (tX (Am 2 [.k 0 (b + 1 : Nat)] I ⟨A6 n q, J⟩ ?_))
 cases io h
 exact tY ⟨_, _, _, I, I2, J4, pk []⟩
 rintro m s ob ⟨rfl, rfl⟩ he
 subst he
 have h := Dk j
 have F := Cs a.length
 exact Ai I (Ab fun N O => Br I F (uG (lg ⟨(), h, I2⟩ [])))
 rintro s ob ⟨i, h, rfl, rfl⟩
 unfold Qt.J1 at h
 refine Ai I ?_
 cases io h
 exact uE pr
theorem jC (b : List (List Piece)) (F1 : T) {d : FuncId} {e f : List T} (i : Kw F1 = some (d, e, f)) (a : (List Piece) → Option Bool) (j : ∀ (g : List Piece) r, a g = some r → ACalls Ak d (e ++ [Q2 g] ++ f) [] (RB r)) (r : Bool) (h : Ry b a = some r) : ACalls Ak 47 [.list 1 (b.map (rL 2 Aa)), F1] [] (RB r) := by
 refine Ag Tryz.func47 I I I fun C hC => ?_
 refine Ai I (uD ?_)
 obtain ⟨l, k, h⟩ := Ac h
 refine tX (Af 2 I (uJ (fX _ F1 i a j _ k) (Af 2 I (tY ?_))))
 cases io h
 exact uE pr
theorem iJ (a : List Piece) (r : Bool) (h : N0 a = some r) : ACalls Ak 48 [Q2 a] [] (RB r) := by
 refine Ag Tryz.func48 I I I fun C hC => ?_
 refine Ai I (uD ?_)
 obtain ⟨d, b, h⟩ := Ac h
 refine tX (Af 1 I (uJ (If _ _ b) (Af 2 I (tY ?_))))
 cases io h
 exact uE pr
theorem Pd (a : Nw) (b : List (List Piece)) (r : Int) (h : Hl a b = some r) : ACalls Ak 14 [.agg (Ad a), .list 1 (b.map (rL 2 Aa))] [] (RV (.V r)) := by
 refine Ag Tryz.func14 I I I fun C hC => ?_
 refine Ab fun X u => tX (tZ [] I (Cf (Ad a) 6 fun g => Af 1 I (tY ?_)))
 subst u
 refine Ab fun Y w => uD ?_
 obtain ⟨Z, y, h⟩ := Ac h
 refine tX (Am 1 [.o 0 0] I J1 (uJ (Ku _ _ y) (Af 1 I (tY (Ai I (Ao h I ?_ ?_))))))
 intro A h
 refine Ai I (uF g0 ?_)
 cases io h
 exact uE pr
 intro A h
 refine uA ?_
 subst w
 refine Ab fun y7 B => Aj (fun s ob => ∃ (f : Bool), Hl.J1 a b f = some r ∧ s = [(22, .v (.bool f))] ∧ ob = [O0 g [Ad a]]) (K2 1 2) J2 ?_ ?_
 refine tX (Am 7 [.l 1 (b.length : Int), .o 3 0, .l 4 (a.Segments.length : Int)] I ⟨A4, I, A4, J⟩ ?_)
 rcases bt (((b.length : Int) != (a.Segments.length : Int))) with d | d
 have h := Cc d h
 exact Ah 19 I d (Af 3 I (tY (lg ⟨true, h, I2⟩ [0])))
 have h := Cd d h
 obtain ⟨D, E, h⟩ := Ac h
 exact Ah 19 I d (Af 1 I (Bx I I I (uJ (jC _ (.v (.func (.func 48) #[] #[])) I (fun x => N0 x) (fun x r h => iJ x r h) _ E) (Af 1 I (tY (lg ⟨D, h, I2⟩ [0]))))))
 rintro s ob ⟨f, h, rfl, rfl⟩
 refine Ao h I ?_ ?_
 intro F h
 refine Ai I (uF g0 ?_)
 cases io h
 exact uE pr
 intro F h
 refine uA ?_
 subst B
 refine Aj (fun s ob => ∃ (i : Unit), Hl.J2 i = some r ∧ s = [] ∧ ob = []) [] J ?_ ?_
 refine Bg [.l 1 (b.length : Int)] I ⟨A4, J⟩ (uB (Cg 23 I fun G => ?_))
 obtain ⟨ab, H, j⟩ := Ac h
 refine Cj H (K3 2 23 24) J3 (fun (e : Nat) (n : Unit) s ob => s = [(25, .V (e : Int))] ∧ ob = [O0 g [Ad a]]) ⟨I, I⟩ ⟨I, J⟩ (pk [0]) ?_ ?_
 rintro e K n ac s ob M p ⟨rfl, rfl⟩ h N
 have O := Cr p
 refine Ai I (Ab fun ad P => Bq I O (uA ?_))
 subst P
 refine uD (uB (Bg [.x 1 e ((rL 2 Aa) K)] I ⟨⟨I, Ae M⟩, J⟩ (uD ?_)))
 obtain ⟨ae, Q, h⟩ := Ac h
 obtain ⟨t, ⟨R, S⟩, h⟩ := A5 h
 refine Bk (.still 0 (sl 6 2 (.act 1 (.still 8 .nil)))) [0] [_] I (Bv 7 [.o 2 0, .x 4 t.1 (Ar t.2)] I ⟨⟨R, Ae S⟩, I, J⟩ (uU I (gE _ _ Q) (A3 1 I (Ap (tY (Ao h I ?_ ?_))))))
 intro U h
 refine Ai I ?_
 obtain rfl := N _ (oi h).symm
 have h := j
 have h := Dj h
 refine uF g0 ?_
 cases io h
 exact uE pr
 intro U h
 refine uA (tX (Am 2 [.k 0 (e + 1 : Nat)] I ⟨A6 p G, J⟩ ?_))
 cases io h
 exact tY ⟨_, _, _, I, I2, J4, pk [0]⟩
 rintro n s ob ⟨rfl, rfl⟩ he
 subst he
 have h := Dk j
 have W := Cs b.length
 exact Ai I (Ab fun af ag => Br I W (uG (lg ⟨(), h, I2⟩ [])))
 rintro s ob ⟨i, h, rfl, rfl⟩
 unfold Hl.J2 at h
 refine Ai I ?_
 cases io h
 exact uE pr
theorem Vi (w : Value) (E : List Piece) (p : List Piece) (r : List Piece) (h : Ny E p = some r) : ACalls Ak 65 [.v w, Q2 p] [U1 w E] (E8 1 fun x os new => ∃ (F : Value), x = .v F ∧ os = [.us nS 69 2 ([].map Aa)] ∧ new = [U1 F r]) := by
 refine Ag Tryz.func65 I I I fun C hC => ?_
 unfold Ny at h
 refine Ai I (Aj (fun s ob => ∃ (i : List Piece) (f : Value), Ny.J1 i = some r ∧ s = [(0, .v f)] ∧ ob = [U1 f i]) [] J ?_ ?_)
 refine Bg [.l 1 (p.length : Int)] I ⟨A4, J⟩ (uB (Cg 8 I fun M => ?_))
 obtain ⟨ag, N, O⟩ := Ac h
 refine Cl N (K2 8 9) J2 (fun (t : Nat) (b : List Piece) s ob => ∃ (e : Value), s = [(10, .V (t : Int)), (0, .v e)] ∧ ob = [U1 e b]) ⟨w, I2⟩ ⟨I, I, J⟩ (pk [0]) ?_ ?_
 rintro t c b G s ob P H ⟨e, rfl, rfl⟩ h
 unfold Ny.B2 at h
 have Q := Cr H
 refine Ai I (Ab fun ah R => Bq I Q (uA ?_))
 subst R
 refine Aj (fun s ob => ∃ (A : List Piece) (u : Value), Ny.J3 A = some G ∧ s = [(0, .v u)] ∧ ob = [U1 u A]) (K3 8 9 10) J3 ?_ ?_
 refine uB (Ab fun ai S => tX (Am 2 [.x 0 t (Aa c)] I ⟨⟨I, Ae P⟩, J⟩ (tZ [] I (Bs [.V 0, .V 0] 2 fun U => tZ [1] I (Bj 1 0 0 [Aa c] I (tY ?_))))))
 subst S
 refine Ab fun aj W => tX (Af 1 I (uI (Bp 0 I I I I) I (Af 1 I (tY ?_))))
 subst W
 refine Aj (fun s ob => ∃ (B : Bool), Ny.J4 c b B = some G ∧ s = [(28, .v (.bool B))] ∧ ob = [U1 e b, O8 U [Aa c]]) (K6 0 6 7 8 9 10) J6 ?_ ?_
 rcases bt (decide ((b.length : Int) > 0)) with j | j
 have h := Cc j h
 obtain ⟨n, ⟨X, D⟩, h⟩ := A5 h
 exact Bz 0 n.1 I D fun Y => Bk (pd 13 0 []) [0, 1] [_, _] I (A3 3 I (A9 18 I j (A3 3 I (Dd I I I I ((Av (m := n.1) I I I I I Y I X D).yd) dS (A3 1 I (Dd I I I I (Ay 0 n.1 0 I I I (Ae D) I (y := .V n.2.Batch) I) dS (Bv 4 [.o 1 1] I J1 (Ap (tY (lg ⟨(n.2.Batch == c.Batch), h, I2⟩ [0, 1]))))))))))
 have h := Cd j h
 exact Bk (pd 13 0 []) [] [] I (A3 3 I (A9 18 I j (A3 10 I (Ap (tY (lg ⟨false, h, I2⟩ [0, 1]))))))
 rintro s ob ⟨B, h, rfl, rfl⟩
 refine Ao h I ?_ ?_
 intro Z h
 obtain ⟨a, ⟨K, g⟩, h⟩ := A5 h
 exact Bz 0 a.1 I g fun aa => Bz 0 a.1 I g fun ab => Bk (sl 11 0 (.drop 11 .nil)) [0, 1] [_, _] I (A3 3 I (uN I (Av (m := a.1) I I I I I aa I K g) I (A3 1 I (AP.o I (Ay 0 a.1 1 I I I (Ae g) I (y := .V a.2.Volume) I) I (Bv 3 [.o 1 1] I J1 (uN I (Av (m := a.1) I I I I I ab I K g) I (A3 1 I (uR [0] I I I (Bd 0 a.1 1 I I I (Ae g) I I I I (Ba I) I (Ce (x := (⟨a.2.Batch, wr (a.2.Volume + c.Volume)⟩ : Piece)) I) (Ap (tY (lg ⟨(b.set a.1 (⟨a.2.Batch, wr (a.2.Volume + c.Volume)⟩ : Piece)), e, h, I2⟩ [0]))))))))))))
 intro Z h
 obtain ⟨ac, ad, h⟩ := Ac h
 exact tX (Am 2 [.o 1 1] I J1 (tZ [] I (uH 2 (([c] : List Piece).map Aa) (tZ [0] I (uO 0 I ad fun ae => Af 1 I (tY (lg ⟨ac, ae, h, I2⟩ [0])))))))
 rintro s ob ⟨A, u, h, rfl, rfl⟩
 unfold Ny.J3 at h
 refine tX (Am 2 [.k 0 (t + 1 : Nat)] I ⟨A6 H M, J⟩ ?_)
 cases io h
 exact tY (lg ⟨u, I2⟩ [0])
 rintro b s ob ⟨e, rfl, rfl⟩ he
 subst he
 have h := O
 have af := Cs p.length
 exact Ai I (Ab fun ak al => Br I af (uG (lg ⟨b, e, h, I2⟩ [0])))
 rintro s ob ⟨i, f, h, rfl, rfl⟩
 refine Ai I (uF (Az 69 2) (C9 [1, 0] I ?_))
 obtain rfl := oi h
 exact uE ⟨.inr I, [_], [.us nS 69 2 ([].map Aa), U1 f i], J1, Cb I (Cb I (B0)), ⟨[.us nS 69 2 ([].map Aa)], [U1 f i], I, I, f, I3⟩⟩
theorem gP (f : Value) (n : List Piece) (r : List Piece) (h : Rd n = some r) : ACalls Ak 148 [.v f] [U1 f n] (E8 1 fun x os new => x = .tup [] ∧ os = [U1 f r] ∧ new = []) := by
 refine Ag Tryz.func148 I I I fun C hC => ?_
 refine Ab fun K t => tX (Af 1 I (uI (Bp 0 I I I I) I (Af 3 I (tY ?_))))
 subst t
 refine uB ?_
 obtain ⟨M, u, w⟩ := Ac h
 refine Ci u [(0, _)] J1 (fun (c : (List Piece) × Int × Int) s ob => s = [(2, .V c.2.1), (3, .V c.2.2)] ∧ ob = [U1 f c.1]) ⟨I, I⟩ ⟨I, I, J⟩ (pk [0]) ?_
 rintro c A s ob ⟨rfl, rfl⟩ h B
 refine Ab fun N D => Ai I (Ao h I ?_ ?_)
 intro E h
 refine uA ?_
 subst D
 refine Aj (fun s ob => ∃ (k : List Piece), Rd.J2 c k = some A ∧ s = [] ∧ ob = [U1 f k]) (K3 0 2 3) J3 ?_ ?_
 refine uB ?_
 obtain ⟨b, ⟨F, i⟩, h⟩ := A5 h
 obtain ⟨a, ⟨l, e⟩, h⟩ := A5 h
 obtain ⟨g, ⟨o, j⟩, h⟩ := A5 h
 refine Bz 0 b.1 I i fun G => Bz 0 a.1 I e fun H => Bz 0 a.1 I e fun p => Bk (sl 7 0 (sl 3 8 (.two 7 11 (.act 11 qW) (.act 7 qW)))) [] [] I (A3 6 I (uN I (Av (m := b.1) I I I I I G I F i) I (A3 2 I (uN I (Av (m := a.1) I I I I I H I l e) I (uQ ?_ ?_)))))
 exact uC [] I I I (Bf (Ay 0 b.1 0 I I I (Ae i) I (y := .agg (Aa b.2)) I) dS (uC [] I I I (Bf (Ay 0 a.1 0 I I I (Ae e) I (y := .agg (Aa a.2)) I) dS (uN I (Av (m := a.1) I I I I I p I l e) I (uC [0] I I I (Bd 0 a.1 0 I I I (Ae e) I I I I (Ba I) I (Ce (x := b.2) I) (uC [] I I I (Bf (Bc 0 (m := g.1) I I I I I I I o (Ae j)) dS (uC [0] I I I (Bd 0 g.1 0 I I I (Ae j) I I I I (Ba I) I (Ce (x := a.2) I) (Ap (tY (lg ⟨((c.1.set a.1 b.2).set g.1 a.2), h, I2⟩ [0])))))))))))))
 exact uC [] I I I (Bf (Ay 0 a.1 0 I I I (Ae e) I (y := .agg (Aa a.2)) I) dS (uC [] I I I (Bf (Ay 0 b.1 0 I I I (Ae i) I (y := .agg (Aa b.2)) I) dS (uN I (Av (m := a.1) I I I I I p I l e) I (uC [0] I I I (Bd 0 a.1 0 I I I (Ae e) I I I I (Ba I) I (Ce (x := b.2) I) (uC [] I I I (Bf (Bc 0 (m := g.1) I I I I I I I o (Ae j)) dS (uC [0] I I I (Bd 0 g.1 0 I I I (Ae j) I I I I (Ba I) I (Ce (x := a.2) I) (Ap (tY (lg ⟨((c.1.set a.1 b.2).set g.1 a.2), h, I2⟩ [0])))))))))))))
 rintro s ob ⟨k, h, rfl, rfl⟩
 unfold Rd.J2 at h
 refine tX (Af 6 I ?_)
 cases io h
 exact tY ⟨_, _, _, I, I2, J3, pk [0]⟩
 intro E h
 obtain rfl := B _ (oi h).symm
 have h := w
 cases io h
 refine uG ?_
 exact ⟨.inl I, [], [U1 f c.1], J, Cb I (B0), ⟨[U1 f c.1], [], I5⟩⟩
theorem Vb (b : List Piece) (r : List Piece) (h : Qy b = some r) : ACalls Ak 142 [Q2 b] [] (fun x new => ∃ (c : Value), x = .v c ∧ new = [U1 c r]) := by
 refine Ag Tryz.func142 I I I fun C hC => ?_
 refine Ai I (uD ?_)
 obtain ⟨g, d, h⟩ := Ac h
 refine tX (Af 1 I (tZ [] I (Bh I I I (Gx _ _ d) dS ?_)))
 rintro _ _ ⟨a, rfl, rfl⟩
 refine Af 1 I (tY (uD ?_))
 obtain ⟨e, f, h⟩ := Ac h
 refine tX (Af 1 I (tZ [0] I (A0 [0] (gP a _ _ f) ?_)))
 refine tY (Ai I ?_)
 obtain rfl := oi h
 exact uE ⟨.inr I, [_], [U1 a e], J1, Cb I (B0), ⟨a, I2⟩⟩
theorem Oy (p : Nat) (a : Int) (b : Bool) : ACalls Ak 124 [.P p, .V a, .v (.bool b)] [] (RV (.fn 136 [] [.eptr [.P p], .eptr [.V a], .eptr [.v (.bool b)]])) := by
 refine Ag Tryz.func124 I I I fun C hC => ?_
 refine uD (tX (tZ [] rfl (AX.box (cs := [.P p]) (m := 1) rfl rfl rfl (By rfl) fun c => tZ [] rfl (AX.box (cs := [.V a]) (m := 1) rfl rfl rfl (By rfl) fun d => tZ [] rfl (AX.box (cs := [.v (.bool b)]) (m := 1) rfl rfl rfl (By rfl) fun e => Af 1 rfl (tY ?_))))))
 refine uD (tX (uK (Yp.makeFunc rfl rfl) rfl (Af 1 rfl (tY ?_))))
 refine uF (Ax N3 rfl [(6, .fn 136 [] [.eptr [.P p], .eptr [.V a], .eptr [.v (.bool b)]])] ⟨⟨_, rfl, .fn (.rest _) (.cons (.box 0 rfl (.rest _)) (.cons (.box 1 rfl (.rest _)) (.cons (.box 2 rfl (.rest _)) .nil)))⟩, J⟩ (ob' := []) (.rest _)) ?_
 exact uE ⟨.inr rfl, [_], [], ⟨rfl, J⟩, B0, rfl, rfl⟩
theorem aR (p : Nat) {l : List Port} {q : Li} {a : Int} {b : Bool} {r : List (Int × Int)} (h : Jl l q a b = some r) :
  tO Ak 136 [.eptr [.P p], .eptr [.V a], .eptr [.v (.bool b)]] (qZ p 2 7 (Q4 l) (Q0 q)) (r.map fun x => [.V x.1, .V x.2]) := by
 refine ⟨_, _, Tryz.func136, rfl, rfl, rfl, fun C Y Kq X ob o hneed hround => ?_⟩
 unfold Jl at h
 obtain ⟨f, hf⟩ : ∃ f, f = (fun (k : Nat) (x : Port) (acc : List (Int × Int)) => (ix q (k : Int)).bind fun r => if ((x.Node != a) || ((r.2 == 0) || (decide (r.2 > 0) != b))) = true then some acc else some (acc ++ [((k : Int), max r.2 (wr (0 - r.2)))])) := ⟨_, rfl⟩
 rw [← hf] at h
 have hg : ∀ k x a r, f k x a = some r → ∃ t, r = a ++ t := by
  intro k x a r hr
  rw [hf] at hr
  obtain ⟨z, _, hr⟩ := Option.bind_eq_some_iff.1 hr
  split at hr
  · cases hr; exact ⟨[], by simp⟩
  · cases hr; exact ⟨_, rfl⟩
 obtain ⟨A, ty, sz, cs, B, D, M⟩ := hneed 0 ob o
 refine uD (tX (Af 4 rfl (uI (Cq (A + 1) 0 2 rfl rfl B rfl (by omega) (Mr rfl D)) rfl (uK (P7 rfl rfl rfl) rfl (Af 1 rfl (tY ?_))))))
 refine L9 12 rfl fun hm => ?_
 replace hm : l.length ≤ 9223372036854775806 := by rw [List.length_map] at hm; omega
 refine uB ?_
 refine M2 (fun m s j => ∃ k acc ob', k + m = l.length ∧ s = [(14, .V (k : Int)), (0, .v (.func (.yield Y.l) #[] #[])), (1, .eptr [.P p]), (2, .eptr [.V a]), (3, .eptr [.v (.bool b)]), (12, Q4 l), (13, .V (l.length : Int))] ∧ j = Y.ob .ready none :: ob' ∧ Kq acc.length ob' ∧ forS f k (l.drop k) acc = some r) (m := l.length) ⟨0, [], ob, by simp, rfl, rfl, o, h⟩ ⟨⟨rfl, rfl, rfl, rfl, rfl, rfl, rfl, J⟩, OL.all (σ := ⟨[], _⟩)⟩ ?_
 rintro m s j ⟨k, acc, ob', hk, rfl, rfl, hJ, hfo⟩
 refine Ai rfl ?_
 rcases Nat.lt_or_ge k l.length with hkl | hkl
 · have hc : decide ((k : Int) < (l.length : Int)) = true := decide_eq_true (by omega)
   refine uD (Bq rfl hc (uA ?_))
   have hx : l[k]? = some l[k] := List.getElem?_eq_getElem hkl
   generalize l[k] = x at hx
   obtain ⟨acc', ha, hfo'⟩ := dD hx hfo
   obtain ⟨E, N, O, P, u, Q, F⟩ := hneed _ ob' hJ
   rw [hf] at ha
   obtain ⟨z, hz, ha⟩ := Option.bind_eq_some_iff.1 ha
   obtain ⟨G, H⟩ := Xk hz
   have hkz : k = z.1 := by omega
   refine uD ?_
   refine uB ?_
   refine uD (tX (Af 1 rfl (uK (Ie (m := k) rfl rfl rfl rfl rfl rfl rfl (Ae hx)) rfl (Af 1 rfl (tZ [] rfl (AX.alloc (cs := W4) (m := 3) rfl rfl rfl rfl rfl (By rfl) fun w => Af 1 rfl (tZ [(Y.ob .ready none :: ob').length] rfl (Ng (es' := [Ca x]) 0 0 rfl rfl rfl rfl rfl rfl rfl (Ba rfl) rfl (tY ?_)))))))))
   refine uD (tX (Af 4 rfl (uI (Cq (E + 1) 0 7 rfl rfl (by rw [List.getElem?_append_left (by have := (List.getElem?_eq_some_iff.1 u).1; simp; omega)]; exact u) rfl (by omega) (Mr rfl F)) rfl (Af 1 rfl (uK (Ie (m := z.1) rfl rfl rfl rfl rfl rfl G (Ae H)) rfl (Af 2 rfl (tY ?_)))))))
   refine uD ?_
   refine Aj (fun s j => s = [(40, .v (.bool ((x.Node != a) || ((z.2 == 0) || (decide (z.2 > 0) != b)))))] ∧ j = (Y.ob .ready none :: ob') ++ [.arr w 82 3 1 [Ca x]]) (K9 14 0 1 2 3 12 13 5 7) ⟨rfl, rfl, rfl, rfl, rfl, rfl, rfl, rfl, rfl, J⟩ ?_ ?_
   · refine tX (Af 1 rfl (uI (Cq (Y.ob .ready none :: ob').length 0 1 rfl rfl List.getElem?_concat_length rfl rfl (y := .V x.Node) rfl) rfl (Af 3 rfl ?_)))
     rcases bt (x.Node != a) with g | g
     · refine Ah 31 rfl g (Af 9 rfl (tY ?_))
       exact ⟨_, _, ⟨rfl, rfl⟩, ⟨Dn (by rw [g]; rfl), rfl, rfl, rfl, rfl, rfl, rfl, rfl, rfl, rfl, J⟩, OL.all (σ := ⟨[], _⟩)⟩
     · refine Ah 31 rfl g (Af 4 rfl ?_)
       rcases bt (z.2 == 0) with n | n
       · refine Ah 35 rfl n (Af 5 rfl (tY ?_))
         exact ⟨_, _, ⟨rfl, rfl⟩, ⟨Dn (by rw [g, n]; rfl), rfl, rfl, rfl, rfl, rfl, rfl, rfl, rfl, rfl, J⟩, OL.all (σ := ⟨[], _⟩)⟩
       · refine Ah 35 rfl n (Af 3 rfl (Bx rfl rfl rfl (uK (Xp rfl rfl rfl rfl) rfl (Af 1 rfl (tY ?_)))))
         exact ⟨_, _, ⟨rfl, rfl⟩, ⟨Dn (by rw [g, n]; rfl), rfl, rfl, rfl, rfl, rfl, rfl, rfl, rfl, rfl, J⟩, OL.all (σ := ⟨[], _⟩)⟩
   · rintro s j ⟨rfl, rfl⟩
     have hcw : wr ((k : Int) + 1) = ((k + 1 : Nat) : Int) := A6 hkl hm
     refine AW.cond rfl rfl (fun hb => ?_) (fun hb => ?_)
     · rw [if_pos hb] at ha
       obtain rfl := oi ha
       refine uG (tX (Am 2 [.k 0 (k + 1 : Nat)] rfl ⟨hcw, J⟩ (tY ?_)))
       exact ⟨m - 1, _, _, by omega, ⟨k + 1, acc, ob', by omega, rfl, rfl, hJ, hfo'⟩, ⟨rfl, rfl, rfl, rfl, rfl, rfl, rfl, J⟩, OL.app⟩
     · rw [if_neg (by simp [hb])] at ha
       obtain rfl := oi ha
       obtain ⟨t, ht⟩ := aE hg _ _ _ _ hfo'
       refine uA ?_
       have hv : (r.map fun x => [T.V x.1, T.V x.2])[acc.length]? = some [T.V (k : Int), T.V (max z.2 (wr (0 - z.2)))] := by
        rw [ht]; simp
       refine uD (tX (Af 6 rfl (AO.yield (its := [.arr w 82 3 1 [Ca x]]) (hround _ _ _ hv hJ) rfl rfl rfl ?_ ?_)))
       · intro i K
         refine Af 1 rfl (tY ?_)
         refine Br rfl rfl (uA ?_)
         refine tX (Am 2 [.k 0 (k + 1 : Nat)] rfl ⟨hcw, J⟩ (tY ?_))
         exact ⟨m - 1, _, _, by omega, ⟨k + 1, _, i, by omega, rfl, rfl, by simpa using K, hfo'⟩, ⟨rfl, rfl, rfl, rfl, rfl, rfl, rfl, J⟩, OL.app (l := Y.ob .ready none :: i)⟩
       · intro e c i hj hX
         refine Af 1 rfl (tY ?_)
         refine Bq rfl rfl (uE ?_)
         exact ⟨.inr rfl, [], Y.ob .done (some c) :: i, J, List.sublist_append_left (Y.ob .done (some c) :: i) _, .inr ⟨e, c, i, hj, hX, rfl⟩⟩
 · have hc : decide ((k : Int) < (l.length : Int)) = false := decide_eq_false (by omega)
   refine uD (Br rfl hc (uG ?_))
   have hke : k = l.length := by omega
   subst hke
   rw [List.drop_length] at hfo
   simp only [forS, Option.some.injEq] at hfo
   subst hfo
   exact ⟨.inl rfl, [], Y.ob .ready none :: ob', J, List.Sublist.refl _, .inl ⟨ob', by simpa using hJ, rfl⟩⟩
theorem Pj (p : Nat) (a : Int) (b : Bool) : ACalls Ak 125 [.P p, .V a, .v (.bool b)] [] (RV (.fn 137 [] [.eptr [.P p], .eptr [.v (.bool b)], .eptr [.V a]])) := by
 refine Ag Tryz.func125 I I I fun C hC => ?_
 refine uD (tX (tZ [] rfl (AX.box (cs := [.P p]) (m := 1) rfl rfl rfl (By rfl) fun c => tZ [] rfl (AX.box (cs := [.V a]) (m := 1) rfl rfl rfl (By rfl) fun d => tZ [] rfl (AX.box (cs := [.v (.bool b)]) (m := 1) rfl rfl rfl (By rfl) fun e => Af 1 rfl (tY ?_))))))
 refine uD (tX (uK (Yp.makeFunc rfl rfl) rfl (Af 1 rfl (tY ?_))))
 refine uF (Ax N3 rfl [(6, .fn 137 [] [.eptr [.P p], .eptr [.v (.bool b)], .eptr [.V a]])] ⟨⟨_, rfl, .fn (.rest _) (.cons (.box 0 rfl (.rest _)) (.cons (.box 2 rfl (.rest _)) (.cons (.box 1 rfl (.rest _)) .nil)))⟩, J⟩ (ob' := []) (.rest _)) ?_
 exact uE ⟨.inr rfl, [_], [], ⟨rfl, J⟩, B0, rfl, rfl⟩
theorem aO (p : Nat) {l : List Sg} {q : Li} {a : Int} {b : Bool} {r : List (Int × Int)} (h : Ji l q a b = some r) :
  tO Ak 137 [.eptr [.P p], .eptr [.v (.bool b)], .eptr [.V a]] (qZ p 1 6 (Q6 l) (Q0 q)) (r.map fun x => [.V x.1, .V x.2]) := by
 refine ⟨_, _, Tryz.func137, rfl, rfl, rfl, fun C Y Kq X ob o hneed hround => ?_⟩
 unfold Ji at h
 obtain ⟨f, hf⟩ : ∃ f, f = (fun (k : Nat) (x : Sg) (acc : List (Int × Int)) => (ix q (k : Int)).bind fun r => if (((r.2 == 0) || (b && ((Bn x r.2).2 != a))) || (!b && ((Bn x r.2).1 != a))) = true then some acc else some (acc ++ [((k : Int), max r.2 (wr (0 - r.2)))])) := ⟨_, rfl⟩
 rw [← hf] at h
 have hg : ∀ k x a r, f k x a = some r → ∃ t, r = a ++ t := by
  intro k x a r hr
  rw [hf] at hr
  obtain ⟨z, _, hr⟩ := Option.bind_eq_some_iff.1 hr
  split at hr
  · cases hr; exact ⟨[], by simp⟩
  · cases hr; exact ⟨_, rfl⟩
 obtain ⟨A, ty, sz, cs, B, D, M⟩ := hneed 0 ob o
 refine uD (tX (Af 4 rfl (uI (Cq (A + 1) 0 1 rfl rfl B rfl (by omega) (Mr rfl D)) rfl (uK (P7 rfl rfl rfl) rfl (Af 1 rfl (tY ?_))))))
 refine L9 14 rfl fun hm => ?_
 replace hm : l.length ≤ 9223372036854775806 := by rw [List.length_map] at hm; omega
 refine uB ?_
 refine M2 (fun m s j => ∃ k acc ob', k + m = l.length ∧ s = [(16, .V (k : Int)), (0, .v (.func (.yield Y.l) #[] #[])), (1, .eptr [.P p]), (2, .eptr [.v (.bool b)]), (3, .eptr [.V a]), (14, Q6 l), (15, .V (l.length : Int))] ∧ j = Y.ob .ready none :: ob' ∧ Kq acc.length ob' ∧ forS f k (l.drop k) acc = some r) (m := l.length) ⟨0, [], ob, by simp, rfl, rfl, o, h⟩ ⟨⟨rfl, rfl, rfl, rfl, rfl, rfl, rfl, J⟩, OL.all (σ := ⟨[], _⟩)⟩ ?_
 rintro m s j ⟨k, acc, ob', hk, rfl, rfl, hJ, hfo⟩
 refine Ai rfl ?_
 rcases Nat.lt_or_ge k l.length with hkl | hkl
 · have hc : decide ((k : Int) < (l.length : Int)) = true := decide_eq_true (by omega)
   refine uD (Bq rfl hc (uA ?_))
   have hx : l[k]? = some l[k] := List.getElem?_eq_getElem hkl
   generalize l[k] = x at hx
   obtain ⟨acc', ha, hfo'⟩ := dD hx hfo
   obtain ⟨E, O, P, Q, u, R, F⟩ := hneed _ ob' hJ
   rw [hf] at ha
   obtain ⟨z, hz, ha⟩ := Option.bind_eq_some_iff.1 ha
   obtain ⟨G, H⟩ := Xk hz
   have hkz : k = z.1 := by omega
   refine uD ?_
   refine uB ?_
   refine uD (tX (Af 1 rfl (uK (Ie (m := k) rfl rfl rfl rfl rfl rfl rfl (Ae hx)) rfl (Af 1 rfl (tZ [] rfl (AX.alloc (cs := W2) (m := 7) rfl rfl rfl rfl rfl (By rfl) fun w => Af 1 rfl (tZ [(Y.ob .ready none :: ob').length] rfl (Ng (es' := [Ar x]) 0 0 rfl rfl rfl rfl rfl rfl rfl (Ba rfl) rfl (tY ?_)))))))))
   refine uD (tX (Af 4 rfl (uI (Cq (E + 1) 0 6 rfl rfl (by rw [List.getElem?_append_left (by have := (List.getElem?_eq_some_iff.1 u).1; simp; omega)]; exact u) rfl (by omega) (Mr rfl F)) rfl (Af 1 rfl (uK (Ie (m := z.1) rfl rfl rfl rfl rfl rfl G (Ae H)) rfl (Af 2 rfl (tY ?_)))))))
   refine uD (tX (uI (Cq (Y.ob .ready none :: ob').length 0 0 rfl rfl List.getElem?_concat_length rfl rfl (y := .agg (Ar x)) rfl) rfl (Af 1 rfl (uJ (Uy x z.2 _ rfl) (Af 5 rfl (tY ?_))))))
   refine uD ?_
   refine Aj (fun s j => s = [(53, .v (.bool (((z.2 == 0) || (b && ((Bn x z.2).2 != a))) || (!b && ((Bn x z.2).1 != a)))))] ∧ j = (Y.ob .ready none :: ob') ++ [O5 w [Ar x]]) (K9 16 0 1 2 3 14 15 5 7) ⟨rfl, rfl, rfl, rfl, rfl, rfl, rfl, rfl, rfl, J⟩ ?_ ?_
   · refine tX (Af 3 rfl ?_)
     rcases bt (z.2 == 0) with g | g
     · refine Ah 37 rfl g (Af 2 rfl (C3 rfl rfl (By rfl) (C3 rfl rfl (By rfl) (C3 rfl rfl (By rfl) (Af 6 rfl (C3 rfl rfl (By rfl) (C3 rfl rfl (By rfl) (C3 rfl rfl (By rfl) (Af 2 rfl (tY ?_))))))))))
       exact ⟨_, _, ⟨rfl, rfl⟩, ⟨Dn (by simp [g]), rfl, rfl, rfl, rfl, rfl, rfl, rfl, rfl, rfl, J⟩, OL.all (σ := ⟨[], _⟩)⟩
     · cases b
       · refine Ah 37 rfl g (Af 8 rfl (Af 3 rfl (Ah 48 rfl rfl (Af 5 rfl (tY ?_)))))
         exact ⟨_, _, ⟨rfl, rfl⟩, ⟨Dn (by simp [g]), rfl, rfl, rfl, rfl, rfl, rfl, rfl, rfl, rfl, J⟩, OL.all (σ := ⟨[], _⟩)⟩
       · refine Ah 37 rfl g (Af 8 rfl (?_))
         rcases bt ((Bn x z.2).2 != a) with n | n
         · refine Ah 45 rfl n (Af 3 rfl (C3 rfl rfl (By rfl) (C3 rfl rfl (By rfl) (C3 rfl rfl (By rfl) (Af 2 rfl (tY ?_))))))
           exact ⟨_, _, ⟨rfl, rfl⟩, ⟨Dn (by simp [g, n]), rfl, rfl, rfl, rfl, rfl, rfl, rfl, rfl, rfl, J⟩, OL.all (σ := ⟨[], _⟩)⟩
         · refine Ah 45 rfl n (Af 3 rfl (Ah 48 rfl rfl (Af 3 rfl (Af 2 rfl (tY ?_)))))
           exact ⟨_, _, ⟨rfl, rfl⟩, ⟨Dn (by simp [g, n]), rfl, rfl, rfl, rfl, rfl, rfl, rfl, rfl, rfl, J⟩, OL.all (σ := ⟨[], _⟩)⟩
   · rintro s j ⟨rfl, rfl⟩
     have hcw : wr ((k : Int) + 1) = ((k + 1 : Nat) : Int) := A6 hkl hm
     refine AW.cond rfl rfl (fun hb => ?_) (fun hb => ?_)
     · rw [if_pos hb] at ha
       obtain rfl := oi ha
       refine uG (tX (Am 2 [.k 0 (k + 1 : Nat)] rfl ⟨hcw, J⟩ (tY ?_)))
       exact ⟨m - 1, _, _, by omega, ⟨k + 1, acc, ob', by omega, rfl, rfl, hJ, hfo'⟩, ⟨rfl, rfl, rfl, rfl, rfl, rfl, rfl, J⟩, OL.app⟩
     · rw [if_neg (by simp [hb])] at ha
       obtain rfl := oi ha
       obtain ⟨t, ht⟩ := aE hg _ _ _ _ hfo'
       refine uA ?_
       have hv : (r.map fun x => [T.V x.1, T.V x.2])[acc.length]? = some [T.V (k : Int), T.V (max z.2 (wr (0 - z.2)))] := by
        rw [ht]; simp
       refine uD (tX (Af 6 rfl (AO.yield (its := [O5 w [Ar x]]) (hround _ _ _ hv hJ) rfl rfl rfl ?_ ?_)))
       · intro i K
         refine Af 1 rfl (tY ?_)
         refine Br rfl rfl (uA ?_)
         refine tX (Am 2 [.k 0 (k + 1 : Nat)] rfl ⟨hcw, J⟩ (tY ?_))
         exact ⟨m - 1, _, _, by omega, ⟨k + 1, _, i, by omega, rfl, rfl, by simpa using K, hfo'⟩, ⟨rfl, rfl, rfl, rfl, rfl, rfl, rfl, J⟩, OL.app (l := Y.ob .ready none :: i)⟩
       · intro e c i hj hX
         refine Af 1 rfl (tY ?_)
         refine Bq rfl rfl (uE ?_)
         exact ⟨.inr rfl, [], Y.ob .done (some c) :: i, J, List.sublist_append_left (Y.ob .done (some c) :: i) _, .inr ⟨e, c, i, hj, hX, rfl⟩⟩
 · have hc : decide ((k : Int) < (l.length : Int)) = false := decide_eq_false (by omega)
   refine uD (Br rfl hc (uG ?_))
   have hke : k = l.length := by omega
   subst hke
   rw [List.drop_length] at hfo
   simp only [forS, Option.some.injEq] at hfo
   subst hfo
   exact ⟨.inl rfl, [], Y.ob .ready none :: ob', J, List.Sublist.refl _, .inl ⟨ob', by simpa using hJ, rfl⟩⟩
theorem fR (b : Nat) (a : advance_line) (w0_0 : Value) (w0_1 : Value) (w0_2 : Value) (k : Int) (r : (List Piece) × ((List (List Piece)) × (List (List Piece)) × (List (List Piece)))) (h : Qr a k = some r) : ACalls Ak 123 [.P b, .V k] [O3 b [[Q1 a.n_.Nodes, Q6 a.n_.Segments, Q4 a.n_.Ports, Q5 a.n_.Stations, .V a.n_.Vapour, .V a.n_.Settle, Q0 a.p.Rates, Q0 a.p.Ports, Q3 a.p.Pumps, Q0 a.feeds, Q0 a.order, .v w0_0, .v w0_1, .v w0_2]], .us w0_0 34 1 (a.fills.map (rL 2 Aa)), .us w0_1 34 1 (a.given.map (rL 2 Aa)), .us w0_2 34 1 (a.out_.map (rL 2 Aa))] (E8 4 fun x os new => ∃ (n : Value) (u1_0 : Value) (u1_1 : Value) (u1_2 : Value), x = .v n ∧ os = [O3 b [[Q1 a.n_.Nodes, Q6 a.n_.Segments, Q4 a.n_.Ports, Q5 a.n_.Stations, .V a.n_.Vapour, .V a.n_.Settle, Q0 a.p.Rates, Q0 a.p.Ports, Q3 a.p.Pumps, Q0 a.feeds, Q0 a.order, .v u1_0, .v u1_1, .v u1_2]], .us u1_0 34 1 (r.2.1.map (rL 2 Aa)), .us u1_1 34 1 (r.2.2.1.map (rL 2 Aa)), .us u1_2 34 1 (r.2.2.2.map (rL 2 Aa))] ∧ new = [U1 n r.1]) := by
 refine Ag Tryz.func123 I I I fun C hC => ?_
 unfold Qr at h
 refine Ab fun y1 B => tX (tZ [] I (Cf [.P b] 1 fun s => Af 1 I (tY ?_)))
 subst B
 refine Ab fun y3 D => tX (tZ [] I (Bs [.N] 1 fun t => tY ?_))
 subst D
 refine Ab fun y5 E => Ab fun y6 F => tX (Am 2 [.o 0 4] I J1 (tZ [] I (Bh I I I (Oy _ _ _) dS ?_)))
 rintro _ _ ⟨rfl, rfl⟩
 refine tY ?_
 subst F
 refine uB ?_
 obtain ⟨l7, G, h⟩ := Ac h
 refine uF (Az 69 2) ?_
 obtain ⟨ai, H, K⟩ := Ac h
 refine Ig H (aR b G) (fun x => [.V x.1, .V x.2]) I I (fun _ => I) I I I (fun (M : Nat) (i : List Piece) ob => ∃ (d : Value), ob = [O3 b [[Q1 a.n_.Nodes, Q6 a.n_.Segments, Q4 a.n_.Ports, Q5 a.n_.Stations, .V a.n_.Vapour, .V a.n_.Settle, Q0 a.p.Rates, Q0 a.p.Ports, Q3 a.p.Pumps, Q0 a.feeds, Q0 a.order, .v w0_0, .v w0_1, .v w0_2]], .us w0_0 34 1 (a.fills.map (rL 2 Aa)), .us w0_1 34 1 (a.given.map (rL 2 Aa)), .us w0_2 34 1 (a.out_.map (rL 2 Aa)), .arr s 101 1 1 [[.P b]], .arr t 34 1 1 [[.v d]], U1 d i]) ⟨nS, I⟩ (pk N7) (by rintro _ _ _ ⟨d, rfl⟩; exact ⟨0, _, _, _, rfl, rfl, rfl⟩) (fun _ _ _ => Ai I (tX (Af 1 I (tY I2)))) ?_ ?_
 rintro C1 M u i aj ob ak al ⟨d, rfl⟩ h
 refine uB ?_
 obtain ⟨f, ⟨O, P⟩, h⟩ := A5 h
 obtain ⟨am, Q, h⟩ := Ac h
 refine Bk (sl 10 0 (.act 10 (.act 11 (.drop 12 .nil)))) [5, 4, 0] [_, _, _] I (Bv 9 [.o 0 0, .o 1 1, .o 4 2, .x 6 f.1 (rI f.2)] I ⟨⟨O, Ae P⟩, I, I, I, J⟩ (uN I (Bl (l := [.V f.2, .V u.2]) D9 I) I (uC [] I I I (uH 2 (([(⟨f.2, u.2⟩ : Piece)] : List Piece).map Aa) (uC [6] I I I (Ex [6] (Vi d _ _ _ Q) ?_))))))
 rintro _ _ _ - ⟨w, rfl, rfl, rfl⟩
 refine uW 7 I fun R => uR [5] I I I (uL 5 0 0 (es' := [[.v w]]) I I I I I I (Bw R) I (Ba I) I I (Ap ?_))
 cases io h
 exact tY ⟨_, ⟨w, I⟩, pk [0, 1, 2, 3, 4, 5, 7]⟩
 rintro i ob ⟨d, rfl⟩ he
 subst he
 have h := K
 refine VS.ret ?_
 subst E
 refine uD (Ab fun an S => tX (Am 2 [.o 0 4] I J1 (tZ [] I (Bh I I I (Pj _ _ _) dS ?_))))
 rintro _ _ ⟨rfl, rfl⟩
 refine tY ?_
 subst S
 refine uB ?_
 obtain ⟨ao, U, h⟩ := Ac h
 obtain ⟨ap, W, X⟩ := Ac h
 refine Ig W (aO b U) (fun x => [.V x.1, .V x.2]) I I (fun _ => I) I I I (fun (Y : Nat) (e : List Piece) ob => ∃ (c : Value), ob = [O3 b [[Q1 a.n_.Nodes, Q6 a.n_.Segments, Q4 a.n_.Ports, Q5 a.n_.Stations, .V a.n_.Vapour, .V a.n_.Settle, Q0 a.p.Rates, Q0 a.p.Ports, Q3 a.p.Pumps, Q0 a.feeds, Q0 a.order, .v w0_0, .v w0_1, .v w0_2]], .us w0_0 34 1 (a.fills.map (rL 2 Aa)), .us w0_1 34 1 (a.given.map (rL 2 Aa)), .us w0_2 34 1 (a.out_.map (rL 2 Aa)), .arr s 101 1 1 [[.P b]], .arr t 34 1 1 [[.v c]], U1 c e]) ⟨d, I⟩ (pk N7) (by rintro _ _ _ ⟨c, rfl⟩; exact ⟨0, _, _, _, rfl, rfl, rfl⟩) (fun _ _ _ => tX (Af 1 I (tY I2))) ?_ ?_
 rintro C1 Y aq e ar ob au av ⟨c, rfl⟩ h
 refine uB ?_
 obtain ⟨g, ⟨Z, j⟩, h⟩ := A5 h
 obtain ⟨aw, aa, h⟩ := Ac h
 refine Bz 2 g.1 I j fun ab => Bk (sl 8 0 (.act 8 (.drop 9 .nil))) [5, 4, 0, 2] [_, _, _, _] I (Bv 6 [.o 0 0, .o 1 1, .o 4 2] I J3 (uN I (Av (m := g.1) I I I I I ab I Z j) I (AP.o I (Ay 3 g.1 0 I I I (Ae j) I (y := Q2 g.2) I) I (uC [6] I I I (Ex [6] (Vi c _ _ _ aa) ?_)))))
 rintro _ _ _ - ⟨A, rfl, rfl, rfl⟩
 refine uW 7 I fun ac => uR [5] I I I (uL 5 0 0 (es' := [[.v A]]) I I I I I I (Bw ac) I (Ba I) I I (Ap ?_))
 cases io h
 exact tY ⟨_, ⟨A, I⟩, pk [0, 1, 2, 3, 4, 5, 7]⟩
 rintro e ob ⟨c, rfl⟩ he
 subst he
 have h := X
 refine VS.ret (Bg [.o 0 5] I J1 (C9 [0, 1, 2, 3, 6] I ?_))
 obtain rfl := oi h
 exact uE ⟨.inr I, [_], [O3 b [[Q1 a.n_.Nodes, Q6 a.n_.Segments, Q4 a.n_.Ports, Q5 a.n_.Stations, .V a.n_.Vapour, .V a.n_.Settle, Q0 a.p.Rates, Q0 a.p.Ports, Q3 a.p.Pumps, Q0 a.feeds, Q0 a.order, .v w0_0, .v w0_1, .v w0_2]], .us w0_0 34 1 (a.fills.map (rL 2 Aa)), .us w0_1 34 1 (a.given.map (rL 2 Aa)), .us w0_2 34 1 (a.out_.map (rL 2 Aa)), U1 c e], J1, Cb I (Cb I (Cb I (Cb I (Cb I (B0))))), ⟨[O3 b [[Q1 a.n_.Nodes, Q6 a.n_.Segments, Q4 a.n_.Ports, Q5 a.n_.Stations, .V a.n_.Vapour, .V a.n_.Settle, Q0 a.p.Rates, Q0 a.p.Ports, Q3 a.p.Pumps, Q0 a.feeds, Q0 a.order, .v w0_0, .v w0_1, .v w0_2]], .us w0_0 34 1 (a.fills.map (rL 2 Aa)), .us w0_1 34 1 (a.given.map (rL 2 Aa)), .us w0_2 34 1 (a.out_.map (rL 2 Aa))], [U1 c e], I, I, c, w0_0, w0_1, w0_2, I3⟩⟩
theorem gN (c : Nat) (a : advance_line) (w0_0 : Value) (w0_1 : Value) (w0_2 : Value) (k : Int) (n : List Piece) (r : Int × ((List (List Piece)) × (List (List Piece)) × (List (List Piece)))) (h : Ra a k n = some r) : ACalls Ak 127 [.P c, .V k, Q2 n] [O3 c [[Q1 a.n_.Nodes, Q6 a.n_.Segments, Q4 a.n_.Ports, Q5 a.n_.Stations, .V a.n_.Vapour, .V a.n_.Settle, Q0 a.p.Rates, Q0 a.p.Ports, Q3 a.p.Pumps, Q0 a.feeds, Q0 a.order, .v w0_0, .v w0_1, .v w0_2]], .us w0_0 34 1 (a.fills.map (rL 2 Aa)), .us w0_1 34 1 (a.given.map (rL 2 Aa)), .us w0_2 34 1 (a.out_.map (rL 2 Aa))] (E8 4 fun x os new => ∃ (u1_0 : Value) (u1_1 : Value) (u1_2 : Value), x = .V r.1 ∧ os = [O3 c [[Q1 a.n_.Nodes, Q6 a.n_.Segments, Q4 a.n_.Ports, Q5 a.n_.Stations, .V a.n_.Vapour, .V a.n_.Settle, Q0 a.p.Rates, Q0 a.p.Ports, Q3 a.p.Pumps, Q0 a.feeds, Q0 a.order, .v u1_0, .v u1_1, .v u1_2]], .us u1_0 34 1 (r.2.1.map (rL 2 Aa)), .us u1_1 34 1 (r.2.2.1.map (rL 2 Aa)), .us u1_2 34 1 (r.2.2.2.map (rL 2 Aa))] ∧ new = []) := by
 refine Ag Tryz.func127 I I I fun C hC => ?_
 refine Ai I (Ab fun y2 E => ?_)
 obtain ⟨t, ⟨F, G⟩, h⟩ := A5 h
 refine Gd [.o 4 0, .x 6 t.1 (rI t.2)] I ⟨⟨F, Ae G⟩, I, J⟩ ?_
 subst E
 refine Aj (fun s ob => ∃ (u : List Piece), Ra.J1 a k t u = some r ∧ s = [(2, Q2 u)] ∧ ob = [O3 c [[Q1 a.n_.Nodes, Q6 a.n_.Segments, Q4 a.n_.Ports, Q5 a.n_.Stations, .V a.n_.Vapour, .V a.n_.Settle, Q0 a.p.Rates, Q0 a.p.Ports, Q3 a.p.Pumps, Q0 a.feeds, Q0 a.order, .v w0_0, .v w0_1, .v w0_2]], .us w0_0 34 1 (a.fills.map (rL 2 Aa)), .us w0_1 34 1 (a.given.map (rL 2 Aa)), .us w0_2 34 1 (a.out_.map (rL 2 Aa))]) (K3 0 1 7) J3 ?_ ?_
 refine Ai I (Ao h I ?_ ?_)
 intro H h
 obtain ⟨l, M, h⟩ := Ac h
 refine tX (Af 1 I (tZ [] I (Bh I I I (Vb _ _ M) dS ?_)))
 rintro _ _ ⟨N, rfl, rfl⟩
 exact Af 1 I (uP (Ax [4] (K := [U1 N l]) I [(2, Q2 l), (23, Q2 l)] ⟨⟨_, I, .us 0 I⟩, ⟨_, I, .us 0 I⟩, J⟩ (ob' := [O3 c [[Q1 a.n_.Nodes, Q6 a.n_.Segments, Q4 a.n_.Ports, Q5 a.n_.Stations, .V a.n_.Vapour, .V a.n_.Settle, Q0 a.p.Rates, Q0 a.p.Ports, Q3 a.p.Pumps, Q0 a.feeds, Q0 a.order, .v w0_0, .v w0_1, .v w0_2]], .us w0_0 34 1 (a.fills.map (rL 2 Aa)), .us w0_1 34 1 (a.given.map (rL 2 Aa)), .us w0_2 34 1 (a.out_.map (rL 2 Aa))]) (.rest _)) (tY (lg ⟨l, h, I2⟩ N4)))
 intro H h
 exact uA (lg ⟨n, h, I2⟩ N4)
 rintro s ob ⟨u, h, rfl, rfl⟩
 refine Ab fun ac O => ?_
 obtain ⟨e, ⟨B, g⟩, h⟩ := A5 h
 obtain ⟨b, P, h⟩ := Ac h
 refine tX (Am 5 [.o 3 0] I J1 (uI (Bc 1 (m := e.1) I I I I I I I B (Ae g)) I (uI (Ay 1 e.1 0 I I I (Ae g) I (y := Q2 e.2) I) I (Af 2 I (tZ [] I (Bh I I I (jE _ _ _ _ P) dS ?_))))))
 rintro _ _ ⟨w, D, rfl, rfl⟩
 refine Af 7 I (tY ?_)
 subst O
 refine Ab fun ad Q => Ai I (Ao h I ?_ ?_)
 intro R h
 refine Ai I (C9 N4 I ?_)
 obtain rfl := oi h
 exact uE ⟨.inr I, [_], [O3 c [[Q1 a.n_.Nodes, Q6 a.n_.Segments, Q4 a.n_.Ports, Q5 a.n_.Stations, .V a.n_.Vapour, .V a.n_.Settle, Q0 a.p.Rates, Q0 a.p.Ports, Q3 a.p.Pumps, Q0 a.feeds, Q0 a.order, .v w0_0, .v w0_1, .v w0_2]], .us w0_0 34 1 (a.fills.map (rL 2 Aa)), .us w0_1 34 1 (a.given.map (rL 2 Aa)), .us w0_2 34 1 (a.out_.map (rL 2 Aa))], J1, Cb I (Cb I (Cb I (Cb I (B0)))), ⟨[O3 c [[Q1 a.n_.Nodes, Q6 a.n_.Segments, Q4 a.n_.Ports, Q5 a.n_.Stations, .V a.n_.Vapour, .V a.n_.Settle, Q0 a.p.Rates, Q0 a.p.Ports, Q3 a.p.Pumps, Q0 a.feeds, Q0 a.order, .v w0_0, .v w0_1, .v w0_2]], .us w0_0 34 1 (a.fills.map (rL 2 Aa)), .us w0_1 34 1 (a.given.map (rL 2 Aa)), .us w0_2 34 1 (a.out_.map (rL 2 Aa))], [], I, I, w0_0, w0_1, w0_2, I3⟩⟩
 intro R h
 refine uA ?_
 subst Q
 refine Aj (fun s ob => ∃ (f : List Piece) (i : Value), Ra.J2 a k e b f = some r ∧ s = [(9, .v i)] ∧ ob = [O3 c [[Q1 a.n_.Nodes, Q6 a.n_.Segments, Q4 a.n_.Ports, Q5 a.n_.Stations, .V a.n_.Vapour, .V a.n_.Settle, Q0 a.p.Rates, Q0 a.p.Ports, Q3 a.p.Pumps, Q0 a.feeds, Q0 a.order, .v w0_0, .v w0_1, .v w0_2]], .us w0_0 34 1 (a.fills.map (rL 2 Aa)), .us w0_1 34 1 (a.given.map (rL 2 Aa)), .us w0_2 34 1 (a.out_.map (rL 2 Aa)), U1 w b.1, U1 i f]) (K3 0 1 8) J3 ?_ ?_
 refine Ai I (Ao h I ?_ ?_)
 intro S h
 obtain ⟨U, W, h⟩ := Ac h
 refine tX (Af 1 I (uP (Ax [5] (K := [U1 D b.2.1]) I [(36, Q2 b.2.1), (9, Q2 b.2.1), (42, Q2 b.2.1)] ⟨⟨_, I, .us 0 I⟩, ⟨_, I, .us 0 I⟩, ⟨_, I, .us 0 I⟩, J⟩ (ob' := [O3 c [[Q1 a.n_.Nodes, Q6 a.n_.Segments, Q4 a.n_.Ports, Q5 a.n_.Stations, .V a.n_.Vapour, .V a.n_.Settle, Q0 a.p.Rates, Q0 a.p.Ports, Q3 a.p.Pumps, Q0 a.feeds, Q0 a.order, .v w0_0, .v w0_1, .v w0_2]], .us w0_0 34 1 (a.fills.map (rL 2 Aa)), .us w0_1 34 1 (a.given.map (rL 2 Aa)), .us w0_2 34 1 (a.out_.map (rL 2 Aa)), U1 w b.1]) (.rest _)) (tZ [] I (Bh I I I (Vb _ _ W) dS ?_))))
 rintro _ _ ⟨X, rfl, rfl⟩
 exact Af 1 I (tY (lg ⟨U, X, h, I2⟩ N6))
 intro S h
 exact uA (lg ⟨b.2.1, D, h, I2⟩ N6)
 rintro s ob ⟨f, i, h, rfl, rfl⟩
 refine uD ?_
 obtain ⟨j, ⟨Y, A⟩, h⟩ := A5 h
 refine Bz 1 e.1 I g fun Z => Bz 2 j.1 I A fun aa => Bk (pd 16 0 [13, 15]) [0] [_] I (Bv 12 [.o 3 0, .o 8 0] I J2 (uN I (Av (m := e.1) I I I I I Z I B g) I (Fz (Ax [4] (K := [U1 w b.1]) I [(8, Q2 b.1), (54, Q2 b.1)] ⟨⟨_, I, .us 0 I⟩, ⟨_, I, .us 0 I⟩, J⟩ (ob' := [O3 c [[Q1 a.n_.Nodes, Q6 a.n_.Segments, Q4 a.n_.Ports, Q5 a.n_.Stations, .V a.n_.Vapour, .V a.n_.Settle, Q0 a.p.Rates, Q0 a.p.Ports, Q3 a.p.Pumps, Q0 a.feeds, Q0 a.order, .v w0_0, .v w0_1, .v w0_2]], .us w0_0 34 1 (a.fills.map (rL 2 Aa)), .us w0_1 34 1 (a.given.map (rL 2 Aa)), .us w0_2 34 1 (a.out_.map (rL 2 Aa)), U1 i f]) (.rest _)) I (uC [1] I I I (Bd 1 e.1 0 I I I (Ae g) I I I I (Ba I) I (Ce (x := b.1) I) (uN I (Av (m := j.1) I I I I I aa I Y A) I (Fz (Ax [4] (K := [U1 i f]) I [(9, Q2 f), (55, Q2 f)] ⟨⟨_, I, .us 0 I⟩, ⟨_, I, .us 0 I⟩, J⟩ (ob' := [O3 c [[Q1 a.n_.Nodes, Q6 a.n_.Segments, Q4 a.n_.Ports, Q5 a.n_.Stations, .V a.n_.Vapour, .V a.n_.Settle, Q0 a.p.Rates, Q0 a.p.Ports, Q3 a.p.Pumps, Q0 a.feeds, Q0 a.order, .v w0_0, .v w0_1, .v w0_2]], .us w0_0 34 1 ((a.fills.set e.1 b.1).map (rL 2 Aa)), .us w0_1 34 1 (a.given.map (rL 2 Aa)), .us w0_2 34 1 (a.out_.map (rL 2 Aa))]) (.rest _)) I ?_)))))))
 refine uC [2] I I I (Bd 2 j.1 0 I I I (Ae A) I I I I (Ba I) I (Ce (x := f) I) (Ap (tY (Ai I ?_))))
 obtain rfl := oi h
 exact uE ⟨.inr I, [_], [O3 c [[Q1 a.n_.Nodes, Q6 a.n_.Segments, Q4 a.n_.Ports, Q5 a.n_.Stations, .V a.n_.Vapour, .V a.n_.Settle, Q0 a.p.Rates, Q0 a.p.Ports, Q3 a.p.Pumps, Q0 a.feeds, Q0 a.order, .v w0_0, .v w0_1, .v w0_2]], .us w0_0 34 1 ((a.fills.set e.1 b.1).map (rL 2 Aa)), .us w0_1 34 1 ((a.given.set j.1 f).map (rL 2 Aa)), .us w0_2 34 1 (a.out_.map (rL 2 Aa))], J1, Cb I (Cb I (Cb I (Cb I (B0)))), ⟨[O3 c [[Q1 a.n_.Nodes, Q6 a.n_.Segments, Q4 a.n_.Ports, Q5 a.n_.Stations, .V a.n_.Vapour, .V a.n_.Settle, Q0 a.p.Rates, Q0 a.p.Ports, Q3 a.p.Pumps, Q0 a.feeds, Q0 a.order, .v w0_0, .v w0_1, .v w0_2]], .us w0_0 34 1 ((a.fills.set e.1 b.1).map (rL 2 Aa)), .us w0_1 34 1 ((a.given.set j.1 f).map (rL 2 Aa)), .us w0_2 34 1 (a.out_.map (rL 2 Aa))], [], I, I, w0_0, w0_1, w0_2, I3⟩⟩
theorem iF (c : Nat) (a : advance_line) (w0_0 : Value) (w0_1 : Value) (w0_2 : Value) (R : Int) (r : Int × ((List (List Piece)) × (List (List Piece)) × (List (List Piece)))) (h : Wx a R = some r) : ACalls Ak 96 [.P c, .V R] [O3 c [[Q1 a.n_.Nodes, Q6 a.n_.Segments, Q4 a.n_.Ports, Q5 a.n_.Stations, .V a.n_.Vapour, .V a.n_.Settle, Q0 a.p.Rates, Q0 a.p.Ports, Q3 a.p.Pumps, Q0 a.feeds, Q0 a.order, .v w0_0, .v w0_1, .v w0_2]], .us w0_0 34 1 (a.fills.map (rL 2 Aa)), .us w0_1 34 1 (a.given.map (rL 2 Aa)), .us w0_2 34 1 (a.out_.map (rL 2 Aa))] (E8 4 fun x os new => ∃ (u1_0 : Value) (u1_1 : Value) (u1_2 : Value), x = .V r.1 ∧ os = [O3 c [[Q1 a.n_.Nodes, Q6 a.n_.Segments, Q4 a.n_.Ports, Q5 a.n_.Stations, .V a.n_.Vapour, .V a.n_.Settle, Q0 a.p.Rates, Q0 a.p.Ports, Q3 a.p.Pumps, Q0 a.feeds, Q0 a.order, .v u1_0, .v u1_1, .v u1_2]], .us u1_0 34 1 (r.2.1.map (rL 2 Aa)), .us u1_1 34 1 (r.2.2.1.map (rL 2 Aa)), .us u1_2 34 1 (r.2.2.2.map (rL 2 Aa))] ∧ new = []) := by
 refine Ag Tryz.func96 I I I fun C hC => ?_
 refine Ab fun y1 aa => tX (tZ [] I (Cf [.P c] 1 fun B => tZ [] I (Bs [.V 0] 1 fun D => tY ?_)))
 subst aa
 refine Ab fun y4 ab => ?_
 obtain ⟨b, ac, h⟩ := Ac h
 refine tX (Am 2 [.o 0 4] I J1 (tZ N4 I (Ex N4 (fR c _ w0_0 w0_1 w0_2 _ _ ac) ?_)))
 rintro _ _ _ - ⟨G, e, f, g, rfl, rfl, rfl⟩
 refine Af 1 I (tY ?_)
 subst ab
 refine Ab fun br ad => uD (tX (Af 1 I (uI (Bp 6 I I I I) I (Af 1 I (tY (Ao h I ?_ ?_))))))
 intro ae h
 refine uD (tX (tZ [5] I (Bj 5 0 0 [[.V 0]] I (tY (C9 [0, 1, 2, 3, 5] I ?_)))))
 obtain rfl := oi h
 exact uE ⟨.inr I, [_], [O3 c [[Q1 a.n_.Nodes, Q6 a.n_.Segments, Q4 a.n_.Ports, Q5 a.n_.Stations, .V a.n_.Vapour, .V a.n_.Settle, Q0 a.p.Rates, Q0 a.p.Ports, Q3 a.p.Pumps, Q0 a.feeds, Q0 a.order, .v e, .v f, .v g]], .us e 34 1 (b.2.1.map (rL 2 Aa)), .us f 34 1 (b.2.2.1.map (rL 2 Aa)), .us g 34 1 (b.2.2.2.map (rL 2 Aa))], ⟨⟨4, _, _, _, _, _, _, _, I5⟩, J⟩, Cb I (Cb I (Cb I (Cb I (B0)))), ⟨[O3 c [[Q1 a.n_.Nodes, Q6 a.n_.Segments, Q4 a.n_.Ports, Q5 a.n_.Stations, .V a.n_.Vapour, .V a.n_.Settle, Q0 a.p.Rates, Q0 a.p.Ports, Q3 a.p.Pumps, Q0 a.feeds, Q0 a.order, .v e, .v f, .v g]], .us e 34 1 (b.2.1.map (rL 2 Aa)), .us f 34 1 (b.2.2.1.map (rL 2 Aa)), .us g 34 1 (b.2.2.2.map (rL 2 Aa))], [], I, I, e, f, g, I3⟩⟩
 intro ae h
 refine uA ?_
 subst ad
 refine Ab fun bs af => uD (tX (Af 1 I (uI (Bp 6 I I I I) I (Af 1 I (tY (Ao h I ?_ ?_))))))
 intro ag h
 refine uD (tX (tZ [5] I (Bj 5 0 0 [[.V 4]] I (tY (C9 [0, 1, 2, 3, 5] I ?_)))))
 obtain rfl := oi h
 exact uE ⟨.inr I, [_], [O3 c [[Q1 a.n_.Nodes, Q6 a.n_.Segments, Q4 a.n_.Ports, Q5 a.n_.Stations, .V a.n_.Vapour, .V a.n_.Settle, Q0 a.p.Rates, Q0 a.p.Ports, Q3 a.p.Pumps, Q0 a.feeds, Q0 a.order, .v e, .v f, .v g]], .us e 34 1 (b.2.1.map (rL 2 Aa)), .us f 34 1 (b.2.2.1.map (rL 2 Aa)), .us g 34 1 (b.2.2.2.map (rL 2 Aa))], ⟨⟨4, _, _, _, _, _, _, _, I5⟩, J⟩, Cb I (Cb I (Cb I (Cb I (B0)))), ⟨[O3 c [[Q1 a.n_.Nodes, Q6 a.n_.Segments, Q4 a.n_.Ports, Q5 a.n_.Stations, .V a.n_.Vapour, .V a.n_.Settle, Q0 a.p.Rates, Q0 a.p.Ports, Q3 a.p.Pumps, Q0 a.feeds, Q0 a.order, .v e, .v f, .v g]], .us e 34 1 (b.2.1.map (rL 2 Aa)), .us f 34 1 (b.2.2.1.map (rL 2 Aa)), .us g 34 1 (b.2.2.2.map (rL 2 Aa))], [], I, I, e, f, g, I3⟩⟩
 intro ag h
 refine uA ?_
 subst af
 refine Ab fun bt ah => tX (tZ [] I (Bs [.N] 1 fun H => tY ?_))
 subst ah
 refine Ab fun bu ai => uD (tX (Am 2 [.o 0 4] I J1 (tZ [] I (Bh I I I (Oy _ _ _) dS ?_))))
 rintro _ _ ⟨rfl, rfl⟩
 refine tY (uB ?_)
 obtain ⟨bv, aj, h⟩ := Ac h
 refine uF (Az 3 1) ?_
 obtain ⟨bw, ak, al⟩ := Ac h
 refine Ig ak (aR c aj) (fun x => [.V x.1, .V x.2]) I I (fun _ => I) I I I (fun (am : Nat) (M : Li) ob => ∃ (s : Value), ob = [O3 c [[Q1 a.n_.Nodes, Q6 a.n_.Segments, Q4 a.n_.Ports, Q5 a.n_.Stations, .V a.n_.Vapour, .V a.n_.Settle, Q0 a.p.Rates, Q0 a.p.Ports, Q3 a.p.Pumps, Q0 a.feeds, Q0 a.order, .v e, .v f, .v g]], .us e 34 1 (b.2.1.map (rL 2 Aa)), .us f 34 1 (b.2.2.1.map (rL 2 Aa)), .us g 34 1 (b.2.2.2.map (rL 2 Aa)), .arr B 101 1 1 [[.P c]], .arr D 46 1 1 [[.V 0]], U1 G b.1, .arr H 29 1 1 [[.v s]], U0 s M]) ⟨nS, I⟩ (pk N9) (by rintro _ _ _ ⟨s, rfl⟩; exact ⟨0, _, _, _, rfl, rfl, rfl⟩) (fun _ _ _ => tX (Af 1 I (tY I2))) ?_ ?_
 rintro C1 am an M bx ob bz b1 ⟨s, rfl⟩ h
 refine uB ?_
 obtain ⟨b4, ao, h⟩ := Ac h
 refine tX (Am 2 [.o 0 7] I J1 (tZ [] I (uH 1 (([an.2] : Li).map rI) (tZ [8] I (uO 8 I ao fun S => uV 8 I fun aq => tZ [7] I (uL 7 0 0 (es' := [[.v S]]) I I I I I I (Bw aq) I (Ba I) I I ?_))))))
 cases io h
 exact tY ⟨_, ⟨S, I⟩, pk N9⟩
 rintro M ob ⟨s, rfl⟩ he
 subst he
 have h := al
 refine VS.ret ?_
 subst ai
 refine Ab fun b5 ar => uD (tX (Am 2 [.o 0 4] I J1 (tZ [] I (Bh I I I (Pj _ _ _) dS ?_))))
 rintro _ _ ⟨rfl, rfl⟩
 refine tY (uB ?_)
 obtain ⟨b6, au, h⟩ := Ac h
 obtain ⟨b7, av, aw⟩ := Ac h
 refine Ig av (aO c au) (fun x => [.V x.1, .V x.2]) I I (fun _ => I) I I I (fun (ax : Nat) (t : Li) ob => ∃ (u : Value), ob = [O3 c [[Q1 a.n_.Nodes, Q6 a.n_.Segments, Q4 a.n_.Ports, Q5 a.n_.Stations, .V a.n_.Vapour, .V a.n_.Settle, Q0 a.p.Rates, Q0 a.p.Ports, Q3 a.p.Pumps, Q0 a.feeds, Q0 a.order, .v e, .v f, .v g]], .us e 34 1 (b.2.1.map (rL 2 Aa)), .us f 34 1 (b.2.2.1.map (rL 2 Aa)), .us g 34 1 (b.2.2.2.map (rL 2 Aa)), .arr B 101 1 1 [[.P c]], .arr D 46 1 1 [[.V 0]], U1 G b.1, .arr H 29 1 1 [[.v u]], U0 u t]) ⟨s, I⟩ (pk N9) (by rintro _ _ _ ⟨u, rfl⟩; exact ⟨0, _, _, _, rfl, rfl, rfl⟩) (fun _ _ _ => tX (Af 1 I (tY I2))) ?_ ?_
 rintro C1 ax ay t b8 ob b9 ca ⟨u, rfl⟩ h
 refine uB ?_
 obtain ⟨cb, az, h⟩ := Ac h
 refine tX (Am 2 [.o 0 7] I J1 (tZ [] I (uH 1 (([ay.2] : Li).map rI) (tZ [8] I (uO 8 I az fun U => uV 8 I fun a0 => tZ [7] I (uL 7 0 0 (es' := [[.v U]]) I I I I I I (Bw a0) I (Ba I) I I ?_))))))
 cases io h
 exact tY ⟨_, ⟨U, I⟩, pk N9⟩
 rintro t ob ⟨u, rfl⟩ he
 subst he
 have h := aw
 refine VS.ret ?_
 subst ar
 refine Ab fun cc a1 => ?_
 obtain ⟨F, a2, h⟩ := Ac h
 refine tX (Am 2 [.o 1 7] I J1 (uP (Ax [6, 8] (K := [U1 G b.1, U0 u t]) I [(5, Q2 b.1), (45, Q2 b.1), (46, Q0 t)] ⟨⟨_, I, .us 0 I⟩, ⟨_, I, .us 0 I⟩, ⟨_, I, .us 1 I⟩, J⟩ (ob' := [O3 c [[Q1 a.n_.Nodes, Q6 a.n_.Segments, Q4 a.n_.Ports, Q5 a.n_.Stations, .V a.n_.Vapour, .V a.n_.Settle, Q0 a.p.Rates, Q0 a.p.Ports, Q3 a.p.Pumps, Q0 a.feeds, Q0 a.order, .v e, .v f, .v g]], .us e 34 1 (b.2.1.map (rL 2 Aa)), .us f 34 1 (b.2.2.1.map (rL 2 Aa)), .us g 34 1 (b.2.2.2.map (rL 2 Aa)), .arr B 101 1 1 [[.P c]], .arr D 46 1 1 [[.V 0]], .arr H 29 1 1 [[Q0 t]]]) (.cons (.same _) (.cons (.same _) (.cons (.same _) (.cons (.same _) (.cons (.same _) (.cons (.same _) (.cons (.arr (.cons (.us 1 I) (.rest _))) (.rest _))))))))) (tZ [] I (Bh I I I (gR _ _ _ a2) dS ?_))))
 rintro _ _ ⟨rfl, rfl⟩
 refine Af 3 I (tZ [] I (Bs [.N] 1 fun W => tZ [7] I (Bj 7 0 0 [[.list 1 (F.1.map (rL 2 Aa))]] I (Af 1 I (tY ?_)))))
 subst a1
 refine Ab fun cd a3 => Ai I (Ao h I ?_ ?_)
 intro a4 h
 refine uD (tX (Af 1 I (tZ [5] I (Bj 5 0 0 [[.V F.2]] I (tY (C9 [0, 1, 2, 3, 5] I ?_))))))
 obtain rfl := oi h
 exact uE ⟨.inr I, [_], [O3 c [[Q1 a.n_.Nodes, Q6 a.n_.Segments, Q4 a.n_.Ports, Q5 a.n_.Stations, .V a.n_.Vapour, .V a.n_.Settle, Q0 a.p.Rates, Q0 a.p.Ports, Q3 a.p.Pumps, Q0 a.feeds, Q0 a.order, .v e, .v f, .v g]], .us e 34 1 (b.2.1.map (rL 2 Aa)), .us f 34 1 (b.2.2.1.map (rL 2 Aa)), .us g 34 1 (b.2.2.2.map (rL 2 Aa))], ⟨⟨4, _, _, _, _, _, _, _, I5⟩, J⟩, Cb I (Cb I (Cb I (Cb I (B0)))), ⟨[O3 c [[Q1 a.n_.Nodes, Q6 a.n_.Segments, Q4 a.n_.Ports, Q5 a.n_.Stations, .V a.n_.Vapour, .V a.n_.Settle, Q0 a.p.Rates, Q0 a.p.Ports, Q3 a.p.Pumps, Q0 a.feeds, Q0 a.order, .v e, .v f, .v g]], .us e 34 1 (b.2.1.map (rL 2 Aa)), .us f 34 1 (b.2.2.1.map (rL 2 Aa)), .us g 34 1 (b.2.2.2.map (rL 2 Aa))], [], I, I, e, f, g, I3⟩⟩
 intro a4 h
 refine uA ?_
 subst a3
 refine Ab fun ce a5 => tX (tZ [] I (Bs [.V 0] 1 fun X => tZ [8] I (Bj 8 0 0 [[.V 0]] I (tY ?_))))
 subst a5
 refine Ab fun cf a6 => Ab fun ci a7 => tX (Am 2 [.o 0 4] I J1 (tZ [] I (Bh I I I (Oy _ _ _) dS ?_)))
 rintro _ _ ⟨rfl, rfl⟩
 refine tY ?_
 subst a7
 refine uB ?_
 obtain ⟨cj, a8, h⟩ := Ac h
 obtain ⟨ck, a9, ba⟩ := Ac h
 refine Ig a9 (aR c a8) (fun x => [.V x.1, .V x.2]) I I (fun _ => I) I I I (fun (bb : Nat) (E : (List (List Piece)) × Int) ob => ob = [O3 c [[Q1 a.n_.Nodes, Q6 a.n_.Segments, Q4 a.n_.Ports, Q5 a.n_.Stations, .V a.n_.Vapour, .V a.n_.Settle, Q0 a.p.Rates, Q0 a.p.Ports, Q3 a.p.Pumps, Q0 a.feeds, Q0 a.order, .v e, .v f, .v g]], .us e 34 1 (b.2.1.map (rL 2 Aa)), .us f 34 1 (b.2.2.1.map (rL 2 Aa)), .us g 34 1 (E.1.map (rL 2 Aa)), .arr B 101 1 1 [[.P c]], .arr D 46 1 1 [[.V 0]], .arr W 28 1 1 [[.list 1 (F.1.map (rL 2 Aa))]], .arr X 3 1 1 [[.V E.2]]]) I (pk [0, 1, 2, 3, 4, 5, 7, 8]) (by rintro _ _ _ rfl; exact ⟨0, _, _, _, rfl, rfl, rfl⟩) (fun _ _ _ => tX (Af 1 I (tY I2))) ?_ ?_
 rintro C1 bb cl E cm ob cn co rfl h
 refine uB (uD ?_)
 obtain ⟨O, ⟨bc, bd⟩, h⟩ := A5 h
 obtain ⟨P, ⟨be, Q⟩, h⟩ := A5 h
 refine Bz 3 P.1 I Q fun bf => Bk (pd 11 0 [10]) [4, 0, 6, 7] [_, _, _, _] I (Bv 9 [.o 0 0, .o 3 1, .o 5 2, .o 6 3, .x 7 O.1 ((rL 2 Aa) O.2)] I ⟨⟨bc, Ae bd⟩, I, I, I, I, J⟩ (uN I (Av (m := P.1) I I I I I bf I be Q) I (uC [3] I I I (Bd 3 P.1 0 I I I (Ae Q) I I I I (Ba I) I (Ce (x := O.2) I) (Ap (tY (tX (Am 2 [.o 0 7] I J1 (tZ [7] I (Bj 7 0 0 [[.V (wr (E.2 + 1))]] I ?_))))))))))
 cases io h
 exact tY ⟨_, I, pk N8⟩
 rintro E ob rfl he
 subst he
 have h := ba
 refine VS.ret ?_
 subst a6
 refine uD (Ab fun cp bg => tX (Am 2 [.o 0 4] I J1 (tZ [] I (Bh I I I (Pj _ _ _) dS ?_))))
 rintro _ _ ⟨rfl, rfl⟩
 refine tY ?_
 subst bg
 refine uB ?_
 obtain ⟨cq, bh, h⟩ := Ac h
 obtain ⟨cr, bi, Y⟩ := Ac h
 refine V0 bi (aO c bh) (fun x => [.V x.1, .V x.2]) I I (fun _ => I) I I I (fun (bj : Nat) (i : (List (List Piece)) × (List (List Piece)) × (List (List Piece)) × Int) ob => ∃ (j : Value) (k : Value) (l : Value), ob = [O3 c [[Q1 a.n_.Nodes, Q6 a.n_.Segments, Q4 a.n_.Ports, Q5 a.n_.Stations, .V a.n_.Vapour, .V a.n_.Settle, Q0 a.p.Rates, Q0 a.p.Ports, Q3 a.p.Pumps, Q0 a.feeds, Q0 a.order, .v j, .v k, .v l]], .us j 34 1 (i.1.map (rL 2 Aa)), .us k 34 1 (i.2.1.map (rL 2 Aa)), .us l 34 1 (i.2.2.1.map (rL 2 Aa)), .arr B 101 1 1 [[.P c]], .arr D 46 1 1 [[.V 0]], .arr W 28 1 1 [[.list 1 (F.1.map (rL 2 Aa))]], .arr X 3 1 1 [[.V i.2.2.2]]]) ⟨e, f, g, I⟩ (pk N8) (by rintro _ _ _ ⟨j, k, l, rfl⟩; exact ⟨0, _, _, _, rfl, rfl, rfl⟩) (fun _ _ _ => tX (Af 1 I (tY I2))) ?_ ?_
 rintro C1 bj ct i cu ob cv cw ⟨j, k, l, rfl⟩ h bk
 refine uB (uD (uD ?_))
 obtain ⟨Z, ⟨bl, bm⟩, h⟩ := A5 h
 obtain ⟨n, bn, h⟩ := Ac h
 refine Bk (pd 8 0 [6]) [4, 6, 7] [_, _, _] I (Bv 6 [.o 0 0, .o 2 1, .o 3 2, .x 4 Z.1 ((rL 2 Aa) Z.2)] I ⟨⟨bl, Ae bm⟩, I, I, I, J⟩ (uC N4 I I I (Ex N4 (gN c _ j k l _ _ _ bn) ?_)))
 rintro _ _ _ - ⟨w, y, A, rfl, rfl, rfl⟩
 refine A3 1 I (Ap (tY (Ai I (Ao h I ?_ ?_))))
 intro bo h
 refine uD (tX (Af 1 I (tZ [5] I (Bj 5 0 0 [[.V n.1]] I (tY ?_)))))
 obtain rfl := bk _ (oi h).symm
 have h := Y
 have h := Dj h
 refine C9 [0, 1, 2, 3, 5] I ?_
 cases io h
 refine uE (⟨_, OL.all, ?_⟩)
 exact ⟨.inr I, [_], [O3 c [[Q1 a.n_.Nodes, Q6 a.n_.Segments, Q4 a.n_.Ports, Q5 a.n_.Stations, .V a.n_.Vapour, .V a.n_.Settle, Q0 a.p.Rates, Q0 a.p.Ports, Q3 a.p.Pumps, Q0 a.feeds, Q0 a.order, .v w, .v y, .v A]], .us w 34 1 (n.2.1.map (rL 2 Aa)), .us y 34 1 (n.2.2.1.map (rL 2 Aa)), .us A 34 1 (n.2.2.2.map (rL 2 Aa))], ⟨⟨4, _, _, _, _, _, _, _, I5⟩, J⟩, Cb I (Cb I (Cb I (Cb I (B0)))), ⟨[O3 c [[Q1 a.n_.Nodes, Q6 a.n_.Segments, Q4 a.n_.Ports, Q5 a.n_.Stations, .V a.n_.Vapour, .V a.n_.Settle, Q0 a.p.Rates, Q0 a.p.Ports, Q3 a.p.Pumps, Q0 a.feeds, Q0 a.order, .v w, .v y, .v A]], .us w 34 1 (n.2.1.map (rL 2 Aa)), .us y 34 1 (n.2.2.1.map (rL 2 Aa)), .us A 34 1 (n.2.2.2.map (rL 2 Aa))], [], I, I, w, y, A, I3⟩⟩
 intro bo h
 refine uA (tX (Am 2 [.o 0 7] I J1 (tZ [7] I (Bj 7 0 0 [[.V (wr (i.2.2.2 + 1))]] I ?_))))
 cases io h
 exact tY ⟨_, _, I, ⟨w, y, A, I⟩, pk N8⟩
 rintro i ob ⟨j, k, l, rfl⟩ he
 subst he
 have h := Dk Y
 refine VS.ret (uD (tX (tZ [5] I (Bj 5 0 0 [[.V 0]] I (tY (C9 [0, 1, 2, 3, 5] I ?_))))))
 obtain rfl := oi h
 exact uE ⟨.inr I, [_], [O3 c [[Q1 a.n_.Nodes, Q6 a.n_.Segments, Q4 a.n_.Ports, Q5 a.n_.Stations, .V a.n_.Vapour, .V a.n_.Settle, Q0 a.p.Rates, Q0 a.p.Ports, Q3 a.p.Pumps, Q0 a.feeds, Q0 a.order, .v j, .v k, .v l]], .us j 34 1 (i.1.map (rL 2 Aa)), .us k 34 1 (i.2.1.map (rL 2 Aa)), .us l 34 1 (i.2.2.1.map (rL 2 Aa))], ⟨⟨4, _, _, _, _, _, _, _, I5⟩, J⟩, Cb I (Cb I (Cb I (Cb I (B0)))), ⟨[O3 c [[Q1 a.n_.Nodes, Q6 a.n_.Segments, Q4 a.n_.Ports, Q5 a.n_.Stations, .V a.n_.Vapour, .V a.n_.Settle, Q0 a.p.Rates, Q0 a.p.Ports, Q3 a.p.Pumps, Q0 a.feeds, Q0 a.order, .v j, .v k, .v l]], .us j 34 1 (i.1.map (rL 2 Aa)), .us k 34 1 (i.2.1.map (rL 2 Aa)), .us l 34 1 (i.2.2.1.map (rL 2 Aa))], [], I, I, j, k, l, I3⟩⟩
theorem gV (b : Nat) (a : advance_line) (w0_0 : Value) (w0_1 : Value) (w0_2 : Value) (r : Int × ((List (List Piece)) × (List (List Piece)) × (List (List Piece)))) (h : Nx a = some r) : ACalls Ak 55 [.P b] [O3 b [[Q1 a.n_.Nodes, Q6 a.n_.Segments, Q4 a.n_.Ports, Q5 a.n_.Stations, .V a.n_.Vapour, .V a.n_.Settle, Q0 a.p.Rates, Q0 a.p.Ports, Q3 a.p.Pumps, Q0 a.feeds, Q0 a.order, .v w0_0, .v w0_1, .v w0_2]], .us w0_0 34 1 (a.fills.map (rL 2 Aa)), .us w0_1 34 1 (a.given.map (rL 2 Aa)), .us w0_2 34 1 (a.out_.map (rL 2 Aa))] (E8 4 fun x os new => ∃ (u1_0 : Value) (u1_1 : Value) (u1_2 : Value), x = .V r.1 ∧ os = [O3 b [[Q1 a.n_.Nodes, Q6 a.n_.Segments, Q4 a.n_.Ports, Q5 a.n_.Stations, .V a.n_.Vapour, .V a.n_.Settle, Q0 a.p.Rates, Q0 a.p.Ports, Q3 a.p.Pumps, Q0 a.feeds, Q0 a.order, .v u1_0, .v u1_1, .v u1_2]], .us u1_0 34 1 (r.2.1.map (rL 2 Aa)), .us u1_1 34 1 (r.2.2.1.map (rL 2 Aa)), .us u1_2 34 1 (r.2.2.2.map (rL 2 Aa))] ∧ new = []) := by
 refine Ag Tryz.func55 I I I fun C hC => ?_
 unfold Nx at h
 refine Ai I (Aj (fun s ob => ∃ (F : (List (List Piece)) × (List (List Piece))) (G : Value) (H : Value), Nx.J1 a F = some r ∧ s = [] ∧ ob = [O3 b [[Q1 a.n_.Nodes, Q6 a.n_.Segments, Q4 a.n_.Ports, Q5 a.n_.Stations, .V a.n_.Vapour, .V a.n_.Settle, Q0 a.p.Rates, Q0 a.p.Ports, Q3 a.p.Pumps, Q0 a.feeds, Q0 a.order, .v w0_0, .v G, .v H]], .us w0_0 34 1 (a.fills.map (rL 2 Aa)), .us G 34 1 (F.1.map (rL 2 Aa)), .us H 34 1 (F.2.map (rL 2 Aa))]) [(0, _)] J1 ?_ ?_)
 obtain ⟨P, ⟨K, W, X, Y⟩, h⟩ := I9 h
 obtain ⟨Q, ⟨j, R, S, U⟩, h⟩ := I9 h
 refine tI (sl 8 0 (sl 6 9 (.two 8 15 (.still 16 (.still 17 (.two 15 18 (.act 18 kG) (.act 15 kG)))) (.act 8 (.still 16 (.still 17 (.act 18 kG))))))) 0 b [(1, Q6 a.n_.Segments), (2, Q4 a.n_.Ports)] I I (AQ.p I (Yp.move I) I (AQ.p I (Yp.move I) I (AQ.p I (Yp.move I) I (AQ.p I (Ee I) I (AQ.p I (D7 I I I I I I) I (AQ.p I (D7 I I I I I I) I (rC 0 I I I I I I (AQ.p I (P7 I I I) I (AQ.p I (Yp.move I) I (AQ.p I (Ee I) I (AQ.p I (D7 I I I I I I) I (AQ.p I (D7 I I I I I I) I ?_))))))))))))
 refine rC 1 I I I I I I (AQ.p I (P7 I I I) I (AQ.two ?_ ?_))
 refine AQ.act [] 0 I I I I (D1 (sz := 1) (es' := List.replicate K [.N]) I I I I I I I I I I W X I dS fun M => AQ.ghost (Dp (f := Aa) 4 K 2 Y I) (AQ.p I (Ee I) I (AQ.p I (D7 I I I I I I) I (AQ.two ?_ ?_))))
 exact AQ.act [] 0 I I I I (D1 (sz := 1) (es' := List.replicate j [.N]) I I I I I I I I I I R S I dS fun B => AQ.ghost (Dp (f := Aa) 5 j 2 U I) (AQ.one 4 I fun D => T9 0 I I I I I (Bw D) I (Ba I) I I (AQ.p I (Ee I) I (AQ.p I (D7 I I I I I I) I (AQ.one 5 I fun E => T9 0 I I I I I (Bw E) I (Ba I) I I (Xs (tY (lg ⟨(P, Q), M, B, h, I2⟩ [0, 1, 4, 5]))))))))
 exact AQ.one 4 I fun D => T9 0 I I I I I (Bw D) I (Ba I) I I (AQ.act [] 0 I I I I (D1 (sz := 1) (es' := List.replicate j [.N]) I I I I I I I I I I R S I dS fun B => AQ.ghost (Dp (f := Aa) 5 j 2 U I) (AQ.p I (Ee I) I (AQ.p I (D7 I I I I I I) I (AQ.one 5 I fun E => T9 0 I I I I I (Bw E) I (Ba I) I I (Xs (tY (lg ⟨(P, Q), M, B, h, I2⟩ [0, 1, 4, 5]))))))))
 refine AQ.act [] 0 I I I I (D1 (sz := 1) (es' := List.replicate j [.N]) I I I I I I I I I I R S I dS fun B => AQ.ghost (Dp (f := Aa) 4 j 2 U I) (AQ.act [] 0 I I I I (D1 (sz := 1) (es' := List.replicate K [.N]) I I I I I I I I I I W X I dS fun M => AQ.ghost (Dp (f := Aa) 5 K 2 Y I) (AQ.p I (Ee I) I (AQ.p I (D7 I I I I I I) I (AQ.one 5 I fun D => T9 0 I I I I I (Bw D) I (Ba I) I I (AQ.p I (Ee I) I (AQ.p I (D7 I I I I I I) I (AQ.one 4 I fun E => T9 0 I I I I I (Bw E) I (Ba I) I I (Xs ?_))))))))))
 exact tY (lg ⟨(P, Q), M, B, h, I2⟩ [0, 1, 5, 4])
 rintro s ob ⟨F, G, H, h, rfl, rfl⟩
 unfold Nx.J1 at h
 refine Aj (fun s ob => ∃ (c : (List (List Piece)) × (List (List Piece)) × (List (List Piece))) (d : Value) (e : Value) (g : Value), Nx.J2 c = some r ∧ s = [] ∧ ob = [O3 b [[Q1 a.n_.Nodes, Q6 a.n_.Segments, Q4 a.n_.Ports, Q5 a.n_.Stations, .V a.n_.Vapour, .V a.n_.Settle, Q0 a.p.Rates, Q0 a.p.Ports, Q3 a.p.Pumps, Q0 a.feeds, Q0 a.order, .v d, .v e, .v g]], .us d 34 1 (c.1.map (rL 2 Aa)), .us e 34 1 (c.2.1.map (rL 2 Aa)), .us g 34 1 (c.2.2.map (rL 2 Aa))]) [] J ?_ ?_
 refine Bg [.o 3 0, .l 4 (a.order.length : Int)] I ⟨A4, I, J⟩ (uB (Cg 29 I fun ab => ?_))
 obtain ⟨al, ac, Z⟩ := Ac h
 refine Cj ac (K3 0 29 30) J3 (fun (O : Nat) (i : (List (List Piece)) × (List (List Piece)) × (List (List Piece))) s ob => ∃ (m : Value) (n : Value) (t : Value), s = [(31, .V (O : Int))] ∧ ob = [O3 b [[Q1 a.n_.Nodes, Q6 a.n_.Segments, Q4 a.n_.Ports, Q5 a.n_.Stations, .V a.n_.Vapour, .V a.n_.Settle, Q0 a.p.Rates, Q0 a.p.Ports, Q3 a.p.Pumps, Q0 a.feeds, Q0 a.order, .v m, .v n, .v t]], .us m 34 1 (i.1.map (rL 2 Aa)), .us n 34 1 (i.2.1.map (rL 2 Aa)), .us t 34 1 (i.2.2.map (rL 2 Aa))]) ⟨w0_0, G, H, I2⟩ ⟨I, J⟩ (pk N4) ?_ ?_
 rintro O ad i am s ob ae aa ⟨m, n, t, rfl, rfl⟩ h af
 have ag := Cr aa
 refine Ai I (Ab fun an ah => Bq I ag (uA ?_))
 subst ah
 refine uD (uB (Bg [.x 0 O (rI ad)] I ⟨⟨I, Ae ae⟩, J⟩ (uD ?_)))
 obtain ⟨u, ai, h⟩ := Ac h
 refine tX (Af 2 I (tZ N4 I (Ex N4 (iF b _ m n t _ _ ai) ?_)))
 rintro _ _ _ - ⟨w, y, A, rfl, rfl, rfl⟩
 refine Af 1 I (tY (Ai I (Ao h I ?_ ?_)))
 intro aj h
 refine Ai I ?_
 obtain rfl := af _ (oi h).symm
 have h := Z
 have h := Dj h
 obtain rfl := oi h
 exact uE ⟨.inr I, [_], [O3 b [[Q1 a.n_.Nodes, Q6 a.n_.Segments, Q4 a.n_.Ports, Q5 a.n_.Stations, .V a.n_.Vapour, .V a.n_.Settle, Q0 a.p.Rates, Q0 a.p.Ports, Q3 a.p.Pumps, Q0 a.feeds, Q0 a.order, .v w, .v y, .v A]], .us w 34 1 (u.2.1.map (rL 2 Aa)), .us y 34 1 (u.2.2.1.map (rL 2 Aa)), .us A 34 1 (u.2.2.2.map (rL 2 Aa))], J1, Cb I (Cb I (Cb I (Cb I (B0)))), ⟨[O3 b [[Q1 a.n_.Nodes, Q6 a.n_.Segments, Q4 a.n_.Ports, Q5 a.n_.Stations, .V a.n_.Vapour, .V a.n_.Settle, Q0 a.p.Rates, Q0 a.p.Ports, Q3 a.p.Pumps, Q0 a.feeds, Q0 a.order, .v w, .v y, .v A]], .us w 34 1 (u.2.1.map (rL 2 Aa)), .us y 34 1 (u.2.2.1.map (rL 2 Aa)), .us A 34 1 (u.2.2.2.map (rL 2 Aa))], [], I, I, w, y, A, I3⟩⟩
 intro aj h
 refine uA (tX (Am 2 [.k 0 (O + 1 : Nat)] I ⟨A6 aa ab, J⟩ ?_))
 cases io h
 exact tY ⟨_, _, _, I, ⟨w, y, A, I2⟩, J4, pk N4⟩
 rintro i s ob ⟨m, n, t, rfl, rfl⟩ he
 subst he
 have h := Dk Z
 have ak := Cs a.order.length
 exact Ai I (Ab fun ao ap => Br I ak (uG (lg ⟨(i.1, i.2.1, i.2.2), m, n, t, h, I2⟩ N4)))
 rintro s ob ⟨c, d, e, g, h, rfl, rfl⟩
 refine Ai I ?_
 obtain rfl := oi h
 exact uE ⟨.inr I, [_], [O3 b [[Q1 a.n_.Nodes, Q6 a.n_.Segments, Q4 a.n_.Ports, Q5 a.n_.Stations, .V a.n_.Vapour, .V a.n_.Settle, Q0 a.p.Rates, Q0 a.p.Ports, Q3 a.p.Pumps, Q0 a.feeds, Q0 a.order, .v d, .v e, .v g]], .us d 34 1 (c.1.map (rL 2 Aa)), .us e 34 1 (c.2.1.map (rL 2 Aa)), .us g 34 1 (c.2.2.map (rL 2 Aa))], J1, Cb I (Cb I (Cb I (Cb I (B0)))), ⟨[O3 b [[Q1 a.n_.Nodes, Q6 a.n_.Segments, Q4 a.n_.Ports, Q5 a.n_.Stations, .V a.n_.Vapour, .V a.n_.Settle, Q0 a.p.Rates, Q0 a.p.Ports, Q3 a.p.Pumps, Q0 a.feeds, Q0 a.order, .v d, .v e, .v g]], .us d 34 1 (c.1.map (rL 2 Aa)), .us e 34 1 (c.2.1.map (rL 2 Aa)), .us g 34 1 (c.2.2.map (rL 2 Aa))], [], I, I, d, e, g, I3⟩⟩
end Go.Proofs.YtaoclefkknloiaaGreat
