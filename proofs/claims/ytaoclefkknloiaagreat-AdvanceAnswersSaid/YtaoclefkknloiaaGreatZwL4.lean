/- Walks that show what functions of the program compute; printed by a program of ours. No condition. -/
import Derived.Test.YtaoclefkknloiaaGreatZwL3
import Derived.Test.YtaoclefkknloiaaGreatZwD
import Derived.Test.YtaoclefkknloiaaGreatZwL0
import Derived.Test.YtaoclefkknloiaaGreatZwB3
set_option maxRecDepth 100000
namespace Go.Proofs.YtaoclefkknloiaaGreat
open Go.Aw
set_option linter.unusedVariables false
set_option linter.unusedSimpArgs false
set_option maxHeartbeats 4000000
abbrev nH : PL := sl 6 0 (.still 9 (.two 6 10 (.two 7 10 (.two 8 10 (.act 10 (.act 11 (.still 12 (.act 13 (.act 14 .nil))))) (.two 8 11 (.act 11 (.still 12 (.act 13 (.act 14 .nil)))) (.act 8 (.still 12 (.act 13 (.act 14 .nil)))))) (.two 7 11 (.two 8 11 (.act 11 (.still 12 (.act 13 (.act 14 .nil)))) (.act 8 (.still 12 (.act 13 (.act 14 .nil))))) (.act 7 (.act 8 (.still 12 (.act 13 (.act 14 .nil))))))) (.act 6 (.two 7 11 (.two 8 11 (.act 11 (.still 12 (.act 13 (.act 14 .nil)))) (.act 8 (.still 12 (.act 13 (.act 14 .nil))))) (.act 7 (.act 8 (.still 12 (.act 13 (.act 14 .nil)))))))))
theorem eN (e : Li) (p : Li) (r : Int) (h : Q9 e p = some r) : ACalls Al 98 [Q0 e, Q0 p] [] (RV (.V r)) := by
 refine Ag Tryz.func98 I I I fun C hC => ?_
 unfold Q9 at h
 refine Ai I (Ai I (Ak (fun s ob => ∃ (g : Int), Q9.J1 g = some r ∧ s = [(5, .V g)] ∧ ob = []) [] J ?_ ?_))
 refine Bk [.l 1 (e.length : Int)] I ⟨A6, J⟩ (qH (Cd 7 I fun A => ?_))
 obtain ⟨R, B, D⟩ := Ad h
 refine Cr B (K3 0 1 8) J3 (fun (a : Nat) (b : Int) s ob => s = [(9, .V (a : Int)), (5, .V b)] ∧ ob = []) ⟨I, I⟩ ⟨I, I, J⟩ (pk []) ?_ ?_
 rintro a f b u s ob w y ⟨rfl, rfl⟩ h
 unfold Q9.B2 at h
 have E := Cm y
 refine Ai I (Ac fun S F => Bl I E (qI ?_))
 subst F
 refine Ak (fun s ob => ∃ (i : Int), Q9.J3 i = some u ∧ s = [(5, .V i)] ∧ ob = []) (K4 0 1 8 9) J4 ?_ ?_
 refine qH (Ai I (Ak (fun s ob => ∃ (j : Bool), Q9.J4 a b j = some u ∧ s = [(43, .v (.bool j))] ∧ ob = []) (K6 0 1 5 6 8 9) J6 ?_ ?_))
 refine Bv (pd 32 0 []) [] [] I (Cf 6 [.x 2 a (rI f)] I ⟨⟨I, Ae w⟩, J⟩ ?_)
 rcases bt (decide (f > 0)) with c | c
 have h := Cb c h
 refine A8 17 I c (A9 3 I ?_)
 rcases bt (decide (b < 0)) with d | d
 have h := Cb d h
 exact A8 20 I d (A9 23 I (Ar (qE (lg ⟨true, h, I2⟩ []))))
 have h := Cc d h
 obtain ⟨m, ⟨G, H⟩, h⟩ := Bc h
 obtain ⟨n, ⟨K, M⟩, h⟩ := Bc h
 obtain ⟨o, ⟨N, O⟩, h⟩ := Bc h
 exact A8 20 I d (Cf 23 [.x 2 m.1 (rI m.2), .x 7 n.1 (rI n.2), .x 12 o.1 (rI o.2), .x 17 a (rI f)] I ⟨⟨I, Ae w⟩, ⟨N, Ae O⟩, ⟨K, Ae M⟩, ⟨G, Ae H⟩, J⟩ (Ar (qE (lg ⟨decide ((wr ((wr (m.2 + 1)) * n.2)) < (wr ((wr (o.2 + 1)) * f))), h, I2⟩ []))))
 have h := Cc c h
 refine A8 17 I c (A9 3 I (Ap I I I I dS (Ap I I I I dS (Ap I I I I dS (Ap I I I I dS (Ap I I I I dS (Ap I I I I dS (Ap I I I I dS (Ap I I I I dS (Ap I I I I dS (Ap I I I I dS (Ap I I I I dS ?_))))))))))))
 exact Ap I I I I dS (Ap I I I I dS (Ap I I I I dS (Ap I I I I dS (Ap I I I I dS (Ap I I I I dS (Ap I I I I dS (Ap I I I I dS (Ap I I I I dS (Ap I I I I dS (A9 2 I (Ar (qE (lg ⟨false, h, I2⟩ [])))))))))))))
 rintro s ob ⟨j, h, rfl, rfl⟩
 refine Av h I ?_ ?_
 intro P h
 exact Uz I (lg ⟨(a : Int), h, I2⟩ [])
 intro P h
 exact qI (lg ⟨b, h, I2⟩ [])
 rintro s ob ⟨i, h, rfl, rfl⟩
 unfold Q9.J3 at h
 refine qD (Ao 2 [.k 0 (a + 1 : Nat)] I ⟨Az y A, J⟩ ?_)
 cases io h
 exact qE (lg I2 [])
 rintro b s ob ⟨rfl, rfl⟩ he
 subst he
 have h := D
 have Q := Cn e.length
 exact Ai I (Ac fun U W => Bm I Q (qM (lg ⟨b, h, I2⟩ [])))
 rintro s ob ⟨g, h, rfl, rfl⟩
 unfold Q9.J1 at h
 refine Ai I ?_
 cases io h
 exact qK pr
theorem dR (H : List Piece) (g : Li) (r : List (List Piece)) (h : Vm H g = some r) : ACalls Al 61 [Q3 H, Q0 g] [] (RV (.list 1 (r.map (rL 2 Aa)))) := by
 refine Ag Tryz.func61 I I I fun C hC => ?_
 refine Ai I (Ac fun y2 ao => ?_)
 obtain ⟨l3, ⟨W, aq, ar, au⟩, h⟩ := G0 h
 refine qD (Ao 2 [.l 1 (g.length : Int)] I ⟨A6, J⟩ (qF [] I (Dg (sz := 1) (es' := List.replicate W [.N]) I I I I I I I I I I aq ar I dS fun a => qS (Gw (f := Aa) 0 W 69 2 au I) (Af 1 I (qE ?_)))))
 subst ao
 refine Ac fun y7 av => ?_
 obtain ⟨l8, ⟨b4, aw, ax, ay⟩, h⟩ := G0 h
 refine qD (Ao 2 [.l 1 (g.length : Int)] I ⟨A6, J⟩ (qF [] I (Dg (sz := 1) I I I I I I I I I I aw ax (Mi (f := rI) ay I) dS fun w => Af 1 I (qE ?_))))
 subst av
 refine Ak (fun s ob => ∃ (M : List (List Piece)) (X : List Value), Vm.J1 M = some r ∧ s = [] ∧ ob = [.uss a 34 69 2 X (M.map fun x => some (x.map Aa))]) [(5, _)] J1 ?_ ?_
 refine Bk [.l 1 (H.length : Int)] I ⟨A6, J⟩ (qH (Cd 19 I fun az => ?_))
 obtain ⟨b5, a0, a1⟩ := Ad h
 refine Cr a0 (K5 1 5 6 19 20) J5 (fun (O : Nat) (c : (List (List Piece)) × Li) s ob => ∃ (i : List Value), s = [(21, .V (O : Int))] ∧ ob = [.uss a 34 69 2 i (c.1.map fun x => some (x.map Aa)), U0 w c.2]) ⟨(List.replicate W nS), I, I⟩ ⟨I, J⟩ (pk [0, 1]) ?_ ?_
 rintro O e c ag s ob a2 ah ⟨i, rfl, rfl⟩ h
 unfold Vm.B4 at h
 have a3 := Cm ah
 refine Ai I (Ac fun b6 a4 => Bl I a3 (qI ?_))
 subst a4
 refine Ak (fun s ob => ∃ (P : (List (List Piece)) × Li) (Y : List Value), Vm.J5 P = some ag ∧ s = [] ∧ ob = [.uss a 34 69 2 Y (P.1.map fun x => some (x.map Aa)), U0 w P.2]) (K6 1 5 6 19 20 21) J6 ?_ ?_
 refine qH (Ac fun b7 a5 => qD (Ao 2 [.x 0 O (Aa e)] I ⟨⟨I, Ae a2⟩, J⟩ (qF [] I (B0 [.V 0, .V 0] 2 fun Z => qF [2] I (By 2 0 0 [Aa e] I (qE ?_))))))
 subst a5
 refine Ac fun b8 a6 => ?_
 obtain ⟨Q, ai, h⟩ := Ad h
 refine qD (qF [] I (qP (sz := 1) (es := ([] : Li).map rI) I I I I I I I I I I I dS fun b9 => Af 1 I (qF [3] I (Hc 3 I I I I I I I I I (I0 1 I I) (Pt (Ez ai).1) (Ps (Ez ai).2) dS fun aa => Af 1 I (qE ?_)))))
 subst a6
 refine Ak (fun s ob => ∃ (A : Li), Vm.J6 g e c Q A = some ag ∧ s = [] ∧ ob = [.uss a 34 69 2 i (c.1.map fun x => some (x.map Aa)), U0 w A, O7 Z [Aa e], U0 aa Q]) (K8 1 5 6 8 9 19 20 21) J8 ?_ ?_
 refine Ai I (qH ?_)
 obtain ⟨ca, a7, a8⟩ := Ad h
 refine Dm a7 (K8 1 5 6 8 9 19 20 21) J8 (fun (R : Li × Int) s ob => s = [(10, .V R.2)] ∧ ob = [.uss a 34 69 2 i (c.1.map fun x => some (x.map Aa)), U0 w R.1, O7 Z [Aa e], U0 aa Q]) ⟨I, I⟩ ⟨I, J⟩ (pk N4) ?_
 rintro R cb s ob ⟨rfl, rfl⟩ h a9
 refine Ac fun cc ba => Bk [.o 2 2] I J1 (Av h I ?_ ?_)
 intro bb h
 refine qI ?_
 subst ba
 refine qJ (qH ?_)
 obtain ⟨cd, bc, h⟩ := Ad h
 obtain ⟨n, ⟨aj, S⟩, h⟩ := Bc h
 refine qD (Af 3 I (qF [] I (Cz I (.refl _) I I (.cons (.refl _) (.cons (.us 1 I) (.rest _))) I (eN _ _ _ bc) dS (by rintro _ _ ⟨rfl, _⟩; rfl) ?_)))
 rintro _ ⟨_, rfl, -⟩
 refine qN (Bb 1 (m := n.1) I I I I I I I aj (Ae S)) I (qN (Ax 1 n.1 0 I I I (Ae S) I (y := .V n.2) I) I (Af 1 I (qN (Bb 1 (m := n.1) I I I I I I I aj (Ae S)) I (qF [1] I (Bh 1 n.1 0 I I I (Ae S) I I I I (Be I) I (Cj (x := wr (n.2 + 1)) I) (qE (qD (Af 3 I ?_))))))))
 cases io h
 exact qE ⟨_, _, _, I, I2, J9, pk N4⟩
 intro bb h
 obtain rfl := a9 _ (oi h).symm
 have h := a8
 exact qM (lg ⟨R.1, h, I2⟩ N4)
 rintro s ob ⟨A, h, rfl, rfl⟩
 refine Bk [.l 1 (g.length : Int)] I ⟨A6, J⟩ (qH (Cd 42 I fun bd => ?_))
 obtain ⟨ce, be, bf⟩ := Ad h
 refine Cr be (K9 1 5 6 8 9 19 20 21 43) J9 (fun (ab : Nat) (U : List (List Piece)) s ob => ∃ (B : List Value), s = [(44, .V (ab : Int))] ∧ ob = [.uss a 34 69 2 B (U.map fun x => some (x.map Aa)), U0 w A, O7 Z [Aa e], U0 aa Q]) ⟨i, I, I⟩ ⟨I, J⟩ (pk N4) ?_ ?_
 rintro ab cf U cg s ob ci ak ⟨B, rfl, rfl⟩ h
 have bg := Cm ak
 refine Ai I (Ac fun cj bh => Bl I bg (qI ?_))
 subst bh
 refine qJ (qH (Ai I ?_))
 obtain ⟨p, ⟨al, D⟩, h⟩ := Bc h
 obtain ⟨t, ⟨bi, ac⟩, h⟩ := Bc h
 obtain ⟨u, ⟨bj, ad⟩, h⟩ := Bc h
 obtain ⟨ck, bk, h⟩ := Ad h
 refine qL (Ghost.take 0 p.1 I (Ae D)) (Cl 1 t.1 I ac fun bl => Cl 3 u.1 I ad fun bm => Bv (sl 18 0 (.act 18 (.act 19 (.still 20 (.drop 21 .nil))))) [0, 2, 1, 3] [_, _, _, _] I (A9 4 I (AP.o I (Dw 0 (m := p.1) I I I I I I I al (Gs D)) I (AP.o I (F4 0 (m := p.1) I I I I (Gs D)) I (Cf 4 [.o 1 1] I J1 (qV I (A3 (m := t.1) I I I I I bl I bi ac) I (AP.o I (Ax 2 t.1 0 I I I (Ae ac) I (y := .V t.2) I) I (A9 2 I (qV I (A3 (m := u.1) I I I I I bm I bj ad) I (AP.o I (Ax 3 u.1 0 I I I (Ae ad) I (y := .V u.2) I) I ?_))))))))))
 refine A9 1 I (qV I (Bi (l := [.V e.Batch, .V (wr (t.2 - u.2))]) Ct I) I (qG [] I I I (qO 2 (([(⟨e.Batch, wr (t.2 - u.2)⟩ : Piece)] : List Piece).map Aa) (qG [4] I I I (qU 4 I bk fun bn => AP.o I (Dw 0 (m := p.1) I I I I I I I al (Gs D)) I (qX [0, 4] I I I (Gi 0 4 p.1 I I I I (Jx D) I I I (Fb _ _ _ _) (Ar (qE (qD (Ao 2 [.k 0 (ab + 1 : Nat)] I ⟨Az ak bd, J⟩ ?_)))))))))))
 cases io h
 exact qE (lg ⟨(B.set p.1 bn), I2⟩ N4)
 rintro U s ob ⟨B, rfl, rfl⟩ he
 subst he
 have h := bf
 have bo := Cn g.length
 exact Ai I (Ac fun cl cm => Bm I bo (qM (lg ⟨(U, A), B, h, I2⟩ [0, 1])))
 rintro s ob ⟨P, Y, h, rfl, rfl⟩
 unfold Vm.J5 at h
 refine qD (Ao 2 [.k 0 (O + 1 : Nat)] I ⟨Az ah az, J⟩ ?_)
 cases io h
 exact qE (lg ⟨Y, I2⟩ [0, 1])
 rintro c s ob ⟨i, rfl, rfl⟩ he
 subst he
 have h := a1
 have bp := Cn H.length
 exact Ai I (Ac fun cn co => Bm I bp (qM (lg ⟨c.1, i, h, I2⟩ [0])))
 rintro s ob ⟨M, X, h, rfl, rfl⟩
 unfold Vm.J1 at h
 refine Ak (fun s ob => ∃ (E : List (List Piece)) (ae : List Value), Vm.J2 E = some r ∧ s = [] ∧ ob = [.uss a 34 69 2 ae (E.map fun x => some (x.map Aa))]) [(5, _)] J1 ?_ ?_
 refine Ac fun cp bq => qD (Af 1 I (qN (L6 0 I I I I) I (Af 1 I (qE ?_))))
 subst bq
 refine qH (fQ 0 I fun br => ?_)
 obtain ⟨cq, bs, bt⟩ := Ad h
 refine D8 bs (K2 5 71) J2 (fun (af : Nat) (F : List (List Piece)) s ob => ∃ (j : List Value), s = [(72, .V (af : Int))] ∧ ob = [.uss a 34 69 2 j (F.map fun x => some (x.map Aa))]) ⟨X, I, I⟩ ⟨I, J⟩ (pk [0]) ?_ ?_
 rintro af F cr s ob am ⟨j, rfl, rfl⟩ h
 have bu := Cm am
 refine Ai I (Ac fun ct bv => Bl I bu (qI ?_))
 subst bv
 refine qJ (qH (Ai I ?_))
 obtain ⟨b, ⟨an, G⟩, h⟩ := Bc h
 obtain ⟨cu, bw, h⟩ := Ad h
 refine qD (Af 4 I (qN (Dw 0 (m := b.1) I I I I I I I an (Jc G)) I (qN (F4 0 (m := b.1) I I I I (Jc G)) I (qS (Ghost.take 0 b.1 I (Ae G)) (qS (As [1] (K := [.us (j.getD b.1 undef) 69 2 (b.2.map Aa)]) I [(80, Q3 b.2)] ⟨⟨_, I, .us 0 I⟩, J⟩ (ob' := [.uss a 34 69 2 j (List.set (F.map fun x => some (x.map Aa)) b.1 none)]) (.rest _)) (qF [] I (Bg I I I (Ia _ _ bw) dS ?_)))))))
 rintro _ _ ⟨bx, rfl, rfl⟩
 refine qN (Dw 0 (m := b.1) I I I I I I I an (Gs G)) I (qF [0, 1] I (Gi 0 1 b.1 I I I I (Jx G) I I I (Fb _ _ _ _) (qE (qD (Ao 2 [.k 0 (af + 1 : Nat)] I ⟨Az am br, J⟩ ?_)))))
 cases io h
 exact qE (lg ⟨(j.set b.1 bx), I2⟩ [0])
 rintro F s ob ⟨j, rfl, rfl⟩ he
 subst he
 have h := bt
 have bz := Cn M.length
 exact Ai I (Ac fun cv cw => Bm I bz (qM (lg ⟨F, j, h, I2⟩ [0])))
 rintro s ob ⟨E, ae, h, rfl, rfl⟩
 unfold Vm.J2 at h
 refine Ai I (qL (As [0] (K := [.uss a 34 69 2 ae (E.map fun x => some (x.map Aa))]) I [(4, .list 1 (E.map (rL 2 Aa)))] ⟨⟨_, I, Oj 0 I⟩, J⟩ (ob' := []) (.rest _)) ?_)
 cases io h
 exact qK pr
theorem Ug (a : Nw) (b : List (List Piece)) (r : Int) (h : Nq a b = some r) : ACalls Al 15 [.agg (Ab a), .list 1 (b.map (rL 2 Aa))] [] (RV (.V r)) := by
 refine Ag Tryz.func15 I I I fun C hC => ?_
 refine Ac fun y1 A => qD (qF [] I (Cp (Ab a) 6 fun f => Af 1 I (qE ?_)))
 subst A
 refine Ac fun y3 B => qJ ?_
 obtain ⟨r4, D, h⟩ := Ad h
 refine qD (Ao 1 [.o 0 0] I J1 (qR (Ui _ _ D) (Af 1 I (qE (Ai I (Av h I ?_ ?_))))))
 intro E h
 refine Ai I (qL g0 ?_)
 cases io h
 exact qK pr
 intro E h
 refine qI ?_
 subst B
 refine Ac fun y7 F => Bk [.l 1 (b.length : Int), .o 3 0, .l 4 (a.Segments.length : Int)] I ⟨A6, I, A6, J⟩ (Av h I ?_ ?_)
 intro G h
 refine Ai I (qL g0 ?_)
 cases io h
 exact qK pr
 intro G h
 refine qI ?_
 subst F
 refine Ak (fun s ob => ∃ (g : Unit), Nq.J1 a b g = some r ∧ s = [] ∧ ob = [O0 f [Ab a]]) (K2 1 2) J2 ?_ ?_
 refine Bk [.l 1 (b.length : Int)] I ⟨A6, J⟩ (qH (Cd 19 I fun H => ?_))
 obtain ⟨am, K, i⟩ := Ad h
 refine Cg K (K3 1 2 20) J3 (fun (d : Nat) (j : Unit) s ob => s = [(21, .V (d : Int))] ∧ ob = [O0 f [Ab a]]) ⟨I, I⟩ ⟨I, J⟩ (pk [0]) ?_ ?_
 rintro d M j an s ob N n ⟨rfl, rfl⟩ h O
 have P := Cm n
 refine Ai I (Ac fun ao Q => Bl I P (qI ?_))
 subst Q
 refine qJ (qH (Ai I (qJ ?_)))
 obtain ⟨ap, R, h⟩ := Ad h
 refine qD (Ao 4 [.x 2 d ((rL 2 Aa) M)] I ⟨⟨I, Ae N⟩, J⟩ (qR (dJ _ _ R) (Af 1 I (qE (Av h I ?_ ?_)))))
 intro S h
 refine Ai I ?_
 obtain rfl := O _ (oi h).symm
 have h := i
 have h := Dj h
 refine qL g0 ?_
 cases io h
 exact qK pr
 intro S h
 refine qI (qD (Ao 2 [.k 0 (d + 1 : Nat)] I ⟨Az n H, J⟩ ?_))
 cases io h
 exact qE ⟨_, _, _, I, I2, J4, pk [0]⟩
 rintro j s ob ⟨rfl, rfl⟩ he
 subst he
 have h := Dp i
 have U := Cn b.length
 exact Ai I (Ac fun aq ar => Bm I U (qM (lg ⟨(), h, I2⟩ [0])))
 rintro s ob ⟨g, h, rfl, rfl⟩
 unfold Nq.J1 at h
 refine Ak (fun s ob => ∃ (p : Unit), Nq.J2 p = some r ∧ s = [] ∧ ob = []) [] J ?_ ?_
 refine Bk [.l 1 (b.length : Int)] I ⟨A6, J⟩ (qH (Cd 31 I fun W => ?_))
 obtain ⟨au, X, t⟩ := Ad h
 refine Cg X (K3 1 2 32) J3 (fun (e : Nat) (u : Unit) s ob => s = [(33, .V (e : Int))] ∧ ob = [O0 f [Ab a]]) ⟨I, I⟩ ⟨I, J⟩ (pk [0]) ?_ ?_
 rintro e Y u av s ob Z w ⟨rfl, rfl⟩ h aa
 have ab := Cm w
 refine Ai I (Ac fun aw ac => Bl I ab (qI ?_))
 subst ac
 refine qJ (qH (Ai I (qJ ?_)))
 obtain ⟨ax, ad, h⟩ := Ad h
 obtain ⟨y, ⟨ae, af⟩, h⟩ := Bc h
 refine Bv (sl 4 0 (sl 6 5 (.act 4 (.still 11 .nil)))) [0] [_] I (Cf 10 [.x 2 e ((rL 2 Aa) Y), .o 5 0, .x 7 y.1 (Au y.2)] I ⟨⟨ae, Ae af⟩, I, ⟨I, Ae Z⟩, J⟩ (rD I (Om _ _ ad) (A9 1 I (Ar (qE (Av h I ?_ ?_))))))
 intro ag h
 refine Ai I ?_
 obtain rfl := aa _ (oi h).symm
 have h := t
 have h := Dj h
 refine qL g0 ?_
 cases io h
 exact qK pr
 intro ag h
 refine qI (qD (Ao 2 [.k 0 (e + 1 : Nat)] I ⟨Az w W, J⟩ ?_))
 cases io h
 exact qE ⟨_, _, _, I, I2, J4, pk [0]⟩
 rintro u s ob ⟨rfl, rfl⟩ he
 subst he
 have h := Dp t
 have ah := Cn b.length
 exact Ai I (Ac fun ay az => Bm I ah (qM (lg ⟨(), h, I2⟩ [])))
 rintro s ob ⟨p, h, rfl, rfl⟩
 unfold Nq.J2 at h
 refine Ai I ?_
 cases io h
 exact qK pr
theorem Uf (b : Nw) (f : List (List Piece)) (e : Plan) (a : Li) (r : Int) (h : Jm b f e a = some r) : ACalls Al 56 [.agg (Ab b), .list 1 (f.map (rL 2 Aa)), .agg (Aj e), Q0 a] [] (RV (.V r)) := by
 refine Ag Tryz.func56 I I I fun C hC => ?_
 refine Ac fun R t => qD (qF [] I (Cp (Ab b) 6 fun S => qF [] I (Cp (Aj e) 3 fun U => Af 1 I (qE ?_))))
 subst t
 refine Ac fun W u => qJ ?_
 obtain ⟨X, w, h⟩ := Ad h
 refine qD (Ao 2 [.o 0 0] I J1 (qR (Ug _ _ _ w) (Af 1 I (qE (Ai I (Av h I ?_ ?_))))))
 intro y h
 refine Ai I (qL g0 ?_)
 cases io h
 exact qK pr
 intro y h
 refine qI ?_
 subst u
 refine Ac fun Y A => qJ ?_
 obtain ⟨Z, B, h⟩ := Ad h
 refine qD (Ao 2 [.o 0 0, .o 1 1] I J2 (qR (T2 _ _ _ B) (Af 1 I (qE (Ai I (Av h I ?_ ?_))))))
 intro D h
 refine Ai I (qL g0 ?_)
 cases io h
 exact qK pr
 intro D h
 refine qI ?_
 subst A
 refine Ac fun aa E => Bk [.l 1 (a.length : Int), .o 3 0, .l 4 (b.Ports.length : Int)] I ⟨A6, I, A6, J⟩ (Av h I ?_ ?_)
 intro F h
 refine Ai I (qL g0 ?_)
 cases io h
 exact qK pr
 intro F h
 refine qI ?_
 subst E
 refine Ak (fun s ob => ∃ (g : Unit), Jm.J1 g = some r ∧ s = [] ∧ ob = []) [] J ?_ ?_
 refine Bk [.l 1 (a.length : Int)] I ⟨A6, J⟩ (qH (Cd 30 I fun G => ?_))
 obtain ⟨ab, H, i⟩ := Ad h
 refine Cg H (K2 3 31) J2 (fun (d : Nat) (j : Unit) s ob => s = [(32, .V (d : Int))] ∧ ob = []) ⟨I, I⟩ ⟨I, J⟩ (pk []) ?_ ?_
 rintro d n j ac s ob K p ⟨rfl, rfl⟩ h M
 have N := Cm p
 refine Ai I (Ac fun ad O => Bl I N (qI ?_))
 subst O
 refine qJ (qH (Ai I (qJ (qD (Ao 4 [.x 2 d (rI n)] I ⟨⟨I, Ae K⟩, J⟩ (qR (Un n _ I) (Af 1 I (qE (Av h I ?_ ?_)))))))))
 intro P h
 refine Ai I ?_
 obtain rfl := M _ (oi h).symm
 have h := i
 have h := Dj h
 cases io h
 exact qK pr
 intro P h
 refine qI (qD (Ao 2 [.k 0 (d + 1 : Nat)] I ⟨Az p G, J⟩ ?_))
 cases io h
 exact qE ⟨_, _, _, I, I2, J3, pk []⟩
 rintro j s ob ⟨rfl, rfl⟩ he
 subst he
 have h := Dp i
 have Q := Cn a.length
 exact Ai I (Ac fun ae af => Bm I Q (qM (lg ⟨(), h, I2⟩ [])))
 rintro s ob ⟨g, h, rfl, rfl⟩
 unfold Jm.J1 at h
 refine Ai I ?_
 cases io h
 exact qK pr
theorem T6 (b : Nw) (ad : List (List Piece)) (e : Plan) (am : Li) (r : (List (List Piece)) × (List (List Piece)) × Int) (h : Jh b ad e am = some r) : ACalls Al 18 [.agg (Ab b), .list 1 (ad.map (rL 2 Aa)), .agg (Aj e), Q0 am] [] (fun x new => ∃ (u0 : Value) (u1 : Value), x = .tup [.v u0, .v u1, .V r.2.2] ∧ new = [.us u0 34 1 (r.1.map (rL 2 Aa)), .us u1 34 1 (r.2.1.map (rL 2 Aa))]) := by
 refine Ag Tryz.func18 I I I fun C hC => ?_
 refine Ac fun y1 dt => qD (qF [] I (Cp (Ab b) 6 fun n => qF [] I (Cp (Aj e) 3 fun p => Af 3 I (qE ?_))))
 subst dt
 refine Ac fun y4 du => qJ ?_
 obtain ⟨r5, dv, h⟩ := Ad h
 refine qD (Ao 4 [.o 0 0, .o 2 1] I J2 (qR (Uf _ _ _ _ _ dv) (Af 1 I (qE (Ai I (Av h I ?_ ?_))))))
 intro dw h
 refine Ai I (qL (Ay 34 1) (qL (Ay 34 1) (Dd [2, 3] I ?_)))
 cases io h
 exact qK ⟨.inr I, [_, _, _], [.us nS 34 1 ([].map (rL 2 Aa)), .us nS 34 1 ([].map (rL 2 Aa))], J3, Ca I (Ca I (Cv)), ⟨nS, nS, I2⟩⟩
 intro dw h
 refine qI ?_
 subst du
 refine Ak (fun s ob => ∃ (Y : (List (List Piece)) × (List (List Piece))) (g : Value) (i : Value), Jh.J1 b ad e am Y = some r ∧ s = [(12, .v g), (13, .v i)] ∧ ob = [O0 n [Ab b], O1 p [Aj e], .us g 34 1 (Y.1.map (rL 2 Aa)), .us i 34 1 (Y.2.map (rL 2 Aa))]) (K4 1 3 4 6) J4 ?_ ?_
 obtain ⟨ct, ⟨a6, cu, cv, cw⟩, h⟩ := G0 h
 obtain ⟨cx, ⟨a7, cy, cz, c0⟩, h⟩ := G0 h
 refine Bv (.still 0 (.still 1 (sl 3 3 (.two 2 6 (.still 7 (.act 6 (.still 8 .nil))) (.act 2 (.still 7 (.still 8 .nil))))))) [0] [_] I (Cf 5 [.l 1 (ad.length : Int), .o 3 0, .l 4 (b.Ports.length : Int)] I ⟨A6, I, A6, J⟩ (qW ?_ ?_))
 exact qG [] I I I (Dg (sz := 1) (es' := List.replicate a6 [.N]) I I I I I I I I I I cu cv I dS fun bu => D6 (Db (f := Aa) 2 a6 2 cw I) I (A9 1 I (qG [] I I I (Dg (sz := 1) (es' := List.replicate a7 [.N]) I I I I I I I I I I cy cz I dS fun bv => D6 (Db (f := Aa) 3 a7 2 c0 I) I (A9 1 I (Ar (qE (lg ⟨(ct, cx), bu, bv, h, I2⟩ N4))))))))
 exact qG [] I I I (Dg (sz := 1) (es' := List.replicate a7 [.N]) I I I I I I I I I I cy cz I dS fun bv => D6 (Db (f := Aa) 2 a7 2 c0 I) I (qG [] I I I (Dg (sz := 1) (es' := List.replicate a6 [.N]) I I I I I I I I I I cu cv I dS fun bu => D6 (Db (f := Aa) 3 a6 2 cw I) I (A9 2 I (Ar (qE (lg ⟨(ct, cx), bu, bv, h, I2⟩ [0, 1, 3, 2])))))))
 rintro s ob ⟨Y, g, i, h, rfl, rfl⟩
 refine Ac fun h1 dx => ?_
 obtain ⟨a8, ⟨c1, dy, dz, d0⟩, h⟩ := G0 h
 refine qD (Ao 2 [.l 1 (ad.length : Int)] I ⟨A6, J⟩ (qF [] I (Dg (sz := 1) (es' := List.replicate c1 [.N]) I I I I I I I I I I dy dz I dS fun j => qS (Db (f := Aa) 4 c1 2 d0 I) (Af 1 I (qE ?_)))))
 subst dx
 refine Ai I (Ak (fun s ob => ∃ (bw : List (List Piece)), Jh.J2 b e am Y a8 bw = some r ∧ s = [] ∧ ob = [O0 n [Ab b], O1 p [Aj e], .us g 34 1 (bw.map (rL 2 Aa)), .us i 34 1 (Y.2.map (rL 2 Aa)), .us j 34 1 (a8.map (rL 2 Aa))]) (K7 3 4 6 12 13 14 15) J7 ?_ ?_)
 refine Bk [.l 1 (ad.length : Int)] I ⟨A6, J⟩ (qH (Cd 59 I fun d1 => ?_))
 obtain ⟨h2, d2, d3⟩ := Ad h
 refine Cr d2 (K9 1 3 4 6 12 13 14 15 60) J9 (fun (a9 : Nat) (an : List (List Piece)) s ob => s = [(61, .V (a9 : Int))] ∧ ob = [O0 n [Ab b], O1 p [Aj e], .us g 34 1 (an.map (rL 2 Aa)), .us i 34 1 (Y.2.map (rL 2 Aa)), .us j 34 1 (a8.map (rL 2 Aa))]) ⟨I, I⟩ ⟨I, J⟩ (pk N5) ?_ ?_
 rintro a9 d4 an h3 s ob d5 c2 ⟨rfl, rfl⟩ h
 have d6 := Cm c2
 refine Ai I (Ac fun h4 d7 => Bl I d6 (qI ?_))
 subst d7
 refine qJ (qH (Ai I ?_))
 obtain ⟨bx, d8, h⟩ := Ad h
 obtain ⟨c3, ⟨d9, c4⟩, h⟩ := Bc h
 refine qD (Af 2 I (qF [] I (qP (sz := 2) (es := ([] : List Piece).map Aa) I I I I I I I I I I I dS fun h5 => Ao 4 [.x 2 a9 ((rL 2 Aa) d4)] I ⟨⟨I, Ae d5⟩, J⟩ (qF [5] I (qU 5 I d8 fun ea => qN (Bb 2 (m := c3.1) I I I I I I I d9 (Ae c4)) I (qS (As [5] (K := [U1 ea bx]) I [(71, Q3 bx)] ⟨⟨_, I, .us 0 I⟩, J⟩ (ob' := [O0 n [Ab b], O1 p [Aj e], .us g 34 1 (an.map (rL 2 Aa)), .us i 34 1 (Y.2.map (rL 2 Aa)), .us j 34 1 (a8.map (rL 2 Aa))]) (.rest _)) (qF [2] I (Bh 2 c3.1 0 I I I (Ae c4) I I I I (Be I) I (Cj (x := bx) I) (qE (qD (Ao 2 [.k 0 (a9 + 1 : Nat)] I ⟨Az c2 d1, J⟩ ?_)))))))))))
 cases io h
 exact qE (lg I2 N5)
 rintro an s ob ⟨rfl, rfl⟩ he
 subst he
 have h := d3
 have eb := Cn ad.length
 exact Ai I (Ac fun h6 h7 => Bm I eb (qM (lg ⟨an, h, I2⟩ N5)))
 rintro s ob ⟨bw, h, rfl, rfl⟩
 refine Ac fun h8 ec => ?_
 obtain ⟨w, ed, h⟩ := Ad h
 refine qD (Ao 2 [.o 0 0, .o 1 1] I J2 (qF [] I (Bg I I I (eC _ _ _ ed) dS ?_)))
 rintro _ _ ⟨A, rfl, rfl⟩
 refine Af 5 I (qE ?_)
 subst ec
 refine Ak (fun s ob => ∃ (u : (List (List Piece)) × (List (List Piece)) × (List (List Piece)) × Bool), Jh.J3 u = some r ∧ s = [(15, .v (.bool u.2.2.2))] ∧ ob = [.us g 34 1 (u.1.map (rL 2 Aa)), .us i 34 1 (u.2.1.map (rL 2 Aa)), .us j 34 1 (u.2.2.1.map (rL 2 Aa))]) (K3 12 13 14) J3 ?_ ?_
 refine Ac fun h9 ee => qD (Af 1 I (qN (Bu 5 I I I I) I (Af 1 I (qE ?_))))
 subst ee
 refine qH (Gq 5 I fun ef => ?_)
 obtain ⟨ia, eg, eh⟩ := Ad h
 refine D8 eg (K8 3 4 6 12 13 14 80 81) J8 (fun (b0 : Nat) (a : (List (List Piece)) × (List (List Piece)) × (List (List Piece)) × Bool) s ob => s = [(82, .V (b0 : Int)), (15, .v (.bool a.2.2.2))] ∧ ob = [O0 n [Ab b], O1 p [Aj e], .us g 34 1 (a.1.map (rL 2 Aa)), .us i 34 1 (a.2.1.map (rL 2 Aa)), .us j 34 1 (a.2.2.1.map (rL 2 Aa)), U0 A w.1]) ⟨I, I⟩ ⟨I, I, J⟩ (pk N6) ?_ ?_
 rintro b0 a ba s ob c5 ⟨rfl, rfl⟩ h
 unfold Jh.B10 at h
 have ei := Cm c5
 refine Ai I (Ac fun ib ej => Bl I ei (qI ?_))
 subst ej
 refine Ak (fun s ob => ∃ (ai : (List (List Piece)) × (List (List Piece)) × (List (List Piece)) × Bool), Jh.J11 ai = some ba ∧ s = [(15, .v (.bool ai.2.2.2))] ∧ ob = [O0 n [Ab b], O1 p [Aj e], .us g 34 1 (ai.1.map (rL 2 Aa)), .us i 34 1 (ai.2.1.map (rL 2 Aa)), .us j 34 1 (ai.2.2.1.map (rL 2 Aa)), U0 A w.1]) (K9 3 4 6 12 13 14 80 81 82) J9 ?_ ?_
 refine qH (Ac fun ic ek => ?_)
 obtain ⟨Q, ⟨el, c6⟩, h⟩ := Bc h
 refine qD (qN (Bb 5 (m := Q.1) I I I I I I I el (Ae c6)) I (qN (Ax 5 Q.1 0 I I I (Ae c6) I (y := .V Q.2) I) I (Af 1 I (qE ?_))))
 subst ek
 refine Ai I (Ai I (Ak (fun s ob => ∃ (B : (List Piece) × Li × Li) (bb : Value) (bc : Value) (F : Value), Jh.J12 b e a Q B = some ba ∧ s = [(21, .v bb), (22, .v bc), (23, .v F)] ∧ ob = [O0 n [Ab b], O1 p [Aj e], .us g 34 1 (a.1.map (rL 2 Aa)), .us i 34 1 (a.2.1.map (rL 2 Aa)), .us j 34 1 (a.2.2.1.map (rL 2 Aa)), U0 A w.1, U1 bb B.1, U0 bc B.2.1, U0 F B.2.2]) [(3, _), (4, _), (6, _), (12, _), (13, _), (14, _), (15, _), (20, _), (24, _), (80, _), (81, _), (82, _)] pU ?_ ?_))
 refine Bk [.o 1 0, .l 2 (b.Ports.length : Int)] I ⟨A6, I, J⟩ (qH (Cd 87 I fun em => qL (Ay 69 2) (qL (Ay 3 1) (qL (Ay 3 1) ?_))))
 obtain ⟨id, en, eo⟩ := Ad h
 refine Cr en [(3, _), (4, _), (6, _), (12, _), (13, _), (14, _), (15, _), (20, _), (24, _), (80, _), (81, _), (82, _), (87, _), (88, _)] mX (fun (Z : Nat) (D : (List Piece) × Li × Li) s ob => ∃ (ae : Value) (R : Value) (S : Value), s = [(89, .V (Z : Int)), (21, .v ae), (22, .v R), (23, .v S)] ∧ ob = [O0 n [Ab b], O1 p [Aj e], .us g 34 1 (a.1.map (rL 2 Aa)), .us i 34 1 (a.2.1.map (rL 2 Aa)), .us j 34 1 (a.2.2.1.map (rL 2 Aa)), U0 A w.1, U1 ae D.1, U0 R D.2.1, U0 S D.2.2]) ⟨nS, nS, nS, I2⟩ ⟨I, I, I, I, J⟩ (pk N9) ?_ ?_
 rintro Z aa D bd s ob ep c7 ⟨ae, R, S, rfl, rfl⟩ h
 unfold Jh.B22 at h
 have eq := Cm c7
 refine Ai I (Ac fun ie er => Bl I eq (qI ?_))
 subst er
 refine Ak (fun s ob => ∃ (ao : (List Piece) × Li × Li) (be : Value) (bf : Value) (bg : Value), Jh.J23 ao = some bd ∧ s = [(21, .v be), (22, .v bf), (23, .v bg)] ∧ ob = [O0 n [Ab b], O1 p [Aj e], .us g 34 1 (a.1.map (rL 2 Aa)), .us i 34 1 (a.2.1.map (rL 2 Aa)), .us j 34 1 (a.2.2.1.map (rL 2 Aa)), U0 A w.1, U1 be ao.1, U0 bf ao.2.1, U0 bg ao.2.2]) [(3, _), (4, _), (6, _), (12, _), (13, _), (14, _), (15, _), (20, _), (24, _), (80, _), (81, _), (82, _), (87, _), (88, _), (89, _)] pQ ?_ ?_
 refine qH (Ac fun ig et => qD (Ao 3 [.x 1 Z (Bn aa)] I ⟨⟨I, Ae ep⟩, J⟩ (qF [] I (B0 W4 3 fun c8 => Af 1 I (qF [9] I (By 9 0 0 [Bn aa] I (qE ?_)))))))
 subst et
 refine Ak (fun s ob => ∃ (af : List Piece) (aj : Value), Jh.J24 e Q Z aa D af = some bd ∧ s = [(21, .v aj)] ∧ ob = [O0 n [Ab b], O1 p [Aj e], .us g 34 1 (a.1.map (rL 2 Aa)), .us i 34 1 (a.2.1.map (rL 2 Aa)), .us j 34 1 (a.2.2.1.map (rL 2 Aa)), U0 A w.1, U1 aj af, U0 R D.2.1, U0 S D.2.2, .arr c8 82 3 1 [Bn aa]]) [(3, _), (4, _), (6, _), (12, _), (13, _), (14, _), (15, _), (20, _), (22, _), (23, _), (24, _), (25, _), (26, _), (80, _), (81, _), (82, _), (87, _), (88, _), (89, _)] ⟨I, I, I, I, I, I, I, I, I, I, I, I, I, I, I, I, I, I, I, J⟩ ?_ ?_
 refine Ak (fun s ob => ∃ (b1 : Bool), Jh.J26 e am Q Z aa D b1 = some bd ∧ s = [(105, .v (.bool b1))] ∧ ob = [O0 n [Ab b], O1 p [Aj e], .us g 34 1 (a.1.map (rL 2 Aa)), .us i 34 1 (a.2.1.map (rL 2 Aa)), .us j 34 1 (a.2.2.1.map (rL 2 Aa)), U0 A w.1, U1 ae D.1, U0 R D.2.1, U0 S D.2.2, .arr c8 82 3 1 [Bn aa]]) [(3, _), (4, _), (6, _), (12, _), (13, _), (14, _), (15, _), (20, _), (21, _), (22, _), (23, _), (24, _), (25, _), (26, _), (80, _), (81, _), (82, _), (87, _), (88, _), (89, _)] ⟨I, I, I, I, I, I, I, I, I, I, I, I, I, I, I, I, I, I, I, I, J⟩ ?_ ?_
 refine qD (Ao 5 [.o 1 9] I J1 ?_)
 rcases bt ((aa.Node == Q.2)) with aq | aq
 have h := Cb aq h
 obtain ⟨b4, ⟨eu, ev⟩, h⟩ := Bc h
 exact Ah 98 I aq (Ao 7 [.o 1 1, .x 3 b4.1 (rI b4.2)] I ⟨⟨eu, Ae ev⟩, I, J⟩ (qE (lg ⟨decide (b4.2 > 0), h, I2⟩ Zm)))
 have h := Cc aq h
 exact Ah 98 I aq (Af 7 I (qE (lg ⟨false, h, I2⟩ Zm)))
 rintro s ob ⟨b1, h, rfl, rfl⟩
 refine Av h I ?_ ?_
 intro ew h
 obtain ⟨bh, ⟨ex, ey⟩, h⟩ := Bc h
 obtain ⟨bi, ⟨ez, e0⟩, h⟩ := Bc h
 obtain ⟨e1, e2, h⟩ := Ad h
 exact Bv (pd 14 0 [11, 12]) [1] [_] I (Cf 10 [.x 3 bh.1 (rI bh.2), .o 6 0, .x 8 bi.1 (rI bi.2)] I ⟨⟨ez, Ae e0⟩, I, ⟨ex, Ae ey⟩, J⟩ (qV I (Bi (l := [.V bh.2, .V bi.2]) Ct I) I (qG [] I I I (qO 2 (([(⟨bh.2, bi.2⟩ : Piece)] : List Piece).map Aa) (qG [6] I I I (qU 6 I e2 fun e3 => Iv 21 (A9 1 I (Ar (qE (lg ⟨e1, e3, h, I2⟩ Zm))))))))))
 intro ew h
 exact qI (lg ⟨D.1, ae, h, I2⟩ Zm)
 rintro s ob ⟨af, aj, h, rfl, rfl⟩
 unfold Jh.J24 at h
 refine Ak (fun s ob => ∃ (b5 : Bool), Jh.J25 e Z D af b5 = some bd ∧ s = [(130, .v (.bool b5))] ∧ ob = [O0 n [Ab b], O1 p [Aj e], .us g 34 1 (a.1.map (rL 2 Aa)), .us i 34 1 (a.2.1.map (rL 2 Aa)), .us j 34 1 (a.2.2.1.map (rL 2 Aa)), U0 A w.1, U1 aj af, U0 R D.2.1, U0 S D.2.2]) [(3, _), (4, _), (6, _), (12, _), (13, _), (14, _), (15, _), (20, _), (21, _), (22, _), (23, _), (24, _), (25, _), (80, _), (81, _), (82, _), (87, _), (88, _), (89, _)] ⟨I, I, I, I, I, I, I, I, I, I, I, I, I, I, I, I, I, I, I, J⟩ ?_ ?_
 refine qD (Ao 5 [.o 1 9] I J1 ?_)
 rcases bt ((aa.Node == Q.2)) with ar | ar
 have h := Cb ar h
 obtain ⟨b6, ⟨e4, e5⟩, h⟩ := Bc h
 exact Ah 123 I ar (Ao 7 [.o 1 1, .x 3 b6.1 (rI b6.2)] I ⟨⟨e4, Ae e5⟩, I, J⟩ (qE (lg ⟨decide (b6.2 < 0), h, I2⟩ N9)))
 have h := Cc ar h
 exact Ah 123 I ar (Af 7 I (qE (lg ⟨false, h, I2⟩ N9)))
 rintro s ob ⟨b5, h, rfl, rfl⟩
 refine Av h I ?_ ?_
 intro e6 h
 obtain ⟨b7, ⟨e7, e8⟩, h⟩ := Bc h
 obtain ⟨e9, fa, h⟩ := Ad h
 obtain ⟨fb, fc, h⟩ := Ad h
 exact qD (Ao 7 [.o 2 1, .x 4 b7.1 (rI b7.2)] I ⟨⟨e7, Ae e8⟩, I, J⟩ (qF [] I (qO 1 (([wr (0 - b7.2)] : Li).map rI) (qF [7] I (qU 7 I fa fun fd => Af 2 I (qF [] I (qO 1 (([(Z : Int)] : Li).map rI) (qF [8] I (qU 8 I fc fun fe => Af 2 I (qE (lg ⟨(af, e9, fb), aj, fd, fe, h, I2⟩ N9)))))))))))
 intro e6 h
 exact qI (lg ⟨(af, D.2.1, D.2.2), aj, R, S, h, I2⟩ N9)
 rintro s ob ⟨ao, be, bf, bg, h, rfl, rfl⟩
 unfold Jh.J23 at h
 refine qD (Ao 2 [.k 0 (Z + 1 : Nat)] I ⟨Az c7 em, J⟩ ?_)
 cases io h
 exact qE (lg ⟨be, bf, bg, I2⟩ N9)
 rintro D s ob ⟨ae, R, S, rfl, rfl⟩ he
 subst he
 have h := eo
 have ff := Cn b.Ports.length
 exact Ai I (Ac fun ih ii => Bm I ff (qM (lg ⟨(D.1, D.2.1, D.2.2), ae, R, S, h, I2⟩ N9)))
 rintro s ob ⟨B, bb, bc, F, h, rfl, rfl⟩
 unfold Jh.J12 at h
 refine Ak (fun s ob => ∃ (t : (List Piece) × Li × Li) (bj : Value) (ak : Value) (H : Value), Jh.J13 e a B t = some ba ∧ s = [(21, .v bj), (22, .v ak), (24, .v H)] ∧ ob = [O0 n [Ab b], O1 p [Aj e], .us g 34 1 (a.1.map (rL 2 Aa)), .us i 34 1 (a.2.1.map (rL 2 Aa)), .us j 34 1 (a.2.2.1.map (rL 2 Aa)), U0 A w.1, U1 bj t.1, U0 ak t.2.1, U0 F B.2.2, U0 H t.2.2]) [(3, _), (4, _), (6, _), (12, _), (13, _), (14, _), (15, _), (23, _), (80, _), (81, _), (82, _)] nN ?_ ?_
 refine Bk [.o 1 0, .l 2 (b.Segments.length : Int)] I ⟨A6, I, J⟩ (qH (Cd 146 I fun fg => qL (Ay 3 1) ?_))
 obtain ⟨ij, fh, fi⟩ := Ad h
 refine Cr fh [(3, _), (4, _), (6, _), (12, _), (13, _), (14, _), (15, _), (20, _), (23, _), (80, _), (81, _), (82, _), (146, _), (147, _)] mX (fun (al : Nat) (G : (List Piece) × Li × Li) s ob => ∃ (ag : Value) (ab : Value) (ac : Value), s = [(148, .V (al : Int)), (21, .v ag), (22, .v ab), (24, .v ac)] ∧ ob = [O0 n [Ab b], O1 p [Aj e], .us g 34 1 (a.1.map (rL 2 Aa)), .us i 34 1 (a.2.1.map (rL 2 Aa)), .us j 34 1 (a.2.2.1.map (rL 2 Aa)), U0 A w.1, U1 ag G.1, U0 ab G.2.1, U0 F B.2.2, U0 ac G.2.2]) ⟨bb, bc, nS, I2⟩ ⟨I, I, I, I, J⟩ (pk Zm) ?_ ?_
 rintro al bk G c9 s ob fj da ⟨ag, ab, ac, rfl, rfl⟩ h
 unfold Jh.B19 at h
 have fk := Cm da
 refine Ai I (Ac fun ik fl => Bl I fk (qI ?_))
 subst fl
 refine Ak (fun s ob => ∃ (au : (List Piece) × Li × Li) (bl : Value) (bm : Value) (bn : Value), Jh.J20 au = some c9 ∧ s = [(21, .v bl), (22, .v bm), (24, .v bn)] ∧ ob = [O0 n [Ab b], O1 p [Aj e], .us g 34 1 (a.1.map (rL 2 Aa)), .us i 34 1 (a.2.1.map (rL 2 Aa)), .us j 34 1 (a.2.2.1.map (rL 2 Aa)), U0 A w.1, U1 bl au.1, U0 bm au.2.1, U0 F B.2.2, U0 bn au.2.2]) [(3, _), (4, _), (6, _), (12, _), (13, _), (14, _), (15, _), (20, _), (23, _), (80, _), (81, _), (82, _), (146, _), (147, _), (148, _)] pQ ?_ ?_
 refine qH (Ac fun il fm => qD (Ao 3 [.x 1 al (Au bk)] I ⟨⟨I, Ae fj⟩, J⟩ (qF [] I (B0 W1 7 fun im => Af 1 I (qF [10] I (By 10 0 0 [Au bk] I (qE ?_)))))))
 subst fm
 refine Ac fun io fn => qJ ?_
 obtain ⟨P, ⟨b8, b9⟩, h⟩ := Bc h
 refine Lb [.o 1 1, .x 3 P.1 (rI P.2)] I ⟨⟨b8, Ae b9⟩, I, J⟩ (Av h I ?_ ?_)
 intro fo h
 exact qM (lg ⟨(G.1, G.2.1, G.2.2), ag, ab, ac, h, I2⟩ Zm)
 intro fo h
 refine qI ?_
 subst fn
 refine Ac fun ip fp => Bv (pd 12 0 [6]) [10, 1] [_, _] I (Cf 6 [.o 0 0, .o 2 1, .x 4 P.1 (rI P.2)] I ⟨⟨b8, Ae b9⟩, I, I, J⟩ (rD I (Ov bk P.2 _ I) (A9 5 I (Ar (qE ?_)))))
 subst fp
 refine Ak (fun s ob => ∃ (av : List Piece) (aw : Value), Jh.J21 Q al bk G P av = some c9 ∧ s = [(21, .v aw)] ∧ ob = [O0 n [Ab b], O1 p [Aj e], .us g 34 1 (a.1.map (rL 2 Aa)), .us i 34 1 (a.2.1.map (rL 2 Aa)), .us j 34 1 (a.2.2.1.map (rL 2 Aa)), U0 A w.1, U1 aw av, U0 ab G.2.1, U0 F B.2.2, U0 ac G.2.2]) [(3, _), (4, _), (6, _), (12, _), (13, _), (14, _), (15, _), (20, _), (22, _), (23, _), (24, _), (27, _), (29, _), (80, _), (81, _), (82, _), (146, _), (147, _), (148, _)] ⟨I, I, I, I, I, I, I, I, I, I, I, I, I, I, I, I, I, I, I, J⟩ ?_ ?_
 refine Ai I (Av h I ?_ ?_)
 intro fq h
 obtain ⟨ca, ⟨fr, db⟩, h⟩ := Bc h
 obtain ⟨fs, ft, h⟩ := Ad h
 exact qD (Af 3 I (qN (Bb 4 (m := ca.1) I I I I I I I fr (Ae db)) I (qN (Ax 4 ca.1 0 I I I (Ae db) I (y := Q3 ca.2) I) I (qF [6] I (qU 6 I ft fun fu => Af 1 I (qE (lg ⟨fs, fu, h, I2⟩ Zm)))))))
 intro fq h
 exact qI (lg ⟨G.1, ag, h, I2⟩ Zm)
 rintro s ob ⟨av, aw, h, rfl, rfl⟩
 refine Ai I (Av h I ?_ ?_)
 intro fv h
 obtain ⟨fw, fx, h⟩ := Ad h
 obtain ⟨fy, fz, h⟩ := Ad h
 exact qD (Ao 6 [.o 2 1, .x 4 P.1 (rI P.2)] I ⟨⟨b8, Ae b9⟩, I, J⟩ (qR (Oq P.2 _ I) (qF [] I (qO 1 (([(Gn P.2)] : Li).map rI) (qF [7] I (qU 7 I fx fun f0 => Af 2 I (qF [] I (qO 1 (([(al : Int)] : Li).map rI) (qF [9] I (qU 9 I fz fun f1 => Af 2 I (qE (lg ⟨(av, fw, fy), aw, f0, f1, h, I2⟩ Zm))))))))))))
 intro fv h
 exact qI (lg ⟨(av, G.2.1, G.2.2), aw, ab, ac, h, I2⟩ Zm)
 rintro s ob ⟨au, bl, bm, bn, h, rfl, rfl⟩
 unfold Jh.J20 at h
 refine qD (Ao 2 [.k 0 (al + 1 : Nat)] I ⟨Az da fg, J⟩ ?_)
 cases io h
 exact qE (lg ⟨bl, bm, bn, I2⟩ Zm)
 rintro G s ob ⟨ag, ab, ac, rfl, rfl⟩ he
 subst he
 have h := fi
 have f2 := Cn b.Segments.length
 exact Ai I (Ac fun iq ir => Bm I f2 (qM (lg ⟨(G.1, G.2.1, G.2.2), ag, ab, ac, h, I2⟩ Zm)))
 rintro s ob ⟨t, bj, ak, H, h, rfl, rfl⟩
 refine Ac fun it f3 => ?_
 obtain ⟨U, f4, h⟩ := Ad h
 refine qD (Af 1 I (qS (As [6] (K := [U1 bj t.1]) I [(21, Q3 t.1), (195, Q3 t.1)] ⟨⟨_, I, .us 0 I⟩, ⟨_, I, .us 0 I⟩, J⟩ (ob' := [O0 n [Ab b], O1 p [Aj e], .us g 34 1 (a.1.map (rL 2 Aa)), .us i 34 1 (a.2.1.map (rL 2 Aa)), .us j 34 1 (a.2.2.1.map (rL 2 Aa)), U0 A w.1, U0 ak t.2.1, U0 F B.2.2, U0 H t.2.2]) (.rest _)) (qF [] I (Bg I I I (Ia _ _ f4) dS ?_))))
 rintro _ _ ⟨dc, rfl, rfl⟩
 refine Af 1 I (qE ?_)
 subst f3
 refine Ak (fun s ob => s = [(15, .v (.bool (a.2.2.2 || decide ((U.length : Int) > 200))))] ∧ ob = [O0 n [Ab b], O1 p [Aj e], .us g 34 1 (a.1.map (rL 2 Aa)), .us i 34 1 (a.2.1.map (rL 2 Aa)), .us j 34 1 (a.2.2.1.map (rL 2 Aa)), U0 A w.1, U0 ak t.2.1, U0 F B.2.2, U0 H t.2.2, U1 dc U]) [(3, _), (4, _), (6, _), (12, _), (13, _), (14, _), (21, _), (22, _), (23, _), (24, _), (80, _), (81, _), (82, _)] mY ?_ ?_
 refine qD (Af 2 I ?_)
 rcases bt (a.2.2.2) with ax | ax
 refine Ah 198 I ax (Af 5 I (qE ?_))
 exact lf I2 ⟨(D3 (by simp only [ax, bz])), I, I, I, I, I, I, I, I, I, I, I, I, I, J⟩ Zm I
 refine Ah 198 I ax (Af 1 I (Bj I I I (qN (Bu 9 I I I I) I (Af 3 I (qE ?_)))))
 exact lf I2 ⟨(D3 (by simp only [ax, bz])), I, I, I, I, I, I, I, I, I, I, I, I, I, J⟩ Zm I
 rintro s ob ⟨rfl, rfl⟩
 refine Ac fun iu f5 => qJ (qD (Af 1 I (qN (Bu 9 I I I I) I (Af 1 I (qE (Av h I ?_ ?_))))))
 intro f6 h
 exact qM (lg ⟨(a.1, a.2.1, a.2.2.1, (a.2.2.2 || decide ((U.length : Int) > 200))), h, I2⟩ N6)
 intro f6 h
 refine qI ?_
 subst f5
 refine Ac fun iv f7 => ?_
 obtain ⟨f8, f9, h⟩ := Ad h
 refine qD (Af 2 I (qS (As [6, 9] (K := [U0 ak t.2.1, U1 dc U]) I [(21, Q3 U), (22, Q0 t.2.1), (203, Q3 U), (206, Q3 U), (207, Q0 t.2.1)] ⟨⟨_, I, .us 1 I⟩, ⟨_, I, .us 0 I⟩, ⟨_, I, .us 1 I⟩, ⟨_, I, .us 1 I⟩, ⟨_, I, .us 0 I⟩, J⟩ (ob' := [O0 n [Ab b], O1 p [Aj e], .us g 34 1 (a.1.map (rL 2 Aa)), .us i 34 1 (a.2.1.map (rL 2 Aa)), .us j 34 1 (a.2.2.1.map (rL 2 Aa)), U0 A w.1, U0 F B.2.2, U0 H t.2.2]) (.rest _)) (qF [] I (Bg I I I (dR _ _ _ f9) dS ?_))))
 rintro _ _ ⟨rfl, rfl⟩
 refine Af 1 I (qE ?_)
 subst f7
 refine Ak (fun s ob => ∃ (O : List (List Piece)), Jh.J14 e a B t U f8 O = some ba ∧ s = [] ∧ ob = [O0 n [Ab b], O1 p [Aj e], .us g 34 1 (a.1.map (rL 2 Aa)), .us i 34 1 (O.map (rL 2 Aa)), .us j 34 1 (a.2.2.1.map (rL 2 Aa)), U0 A w.1, U0 F B.2.2, U0 H t.2.2]) [(3, _), (4, _), (6, _), (12, _), (13, _), (14, _), (15, _), (23, _), (24, _), (31, _), (80, _), (81, _), (82, _)] mY ?_ ?_
 refine Ac fun iw ga => qD (Af 1 I (qN (Bu 6 I I I I) I (Af 1 I (qE ?_))))
 subst ga
 refine qH (Gq 6 I fun gb => ?_)
 obtain ⟨ix, gc, gd⟩ := Ad h
 refine D8 gc [(3, _), (4, _), (6, _), (12, _), (13, _), (14, _), (15, _), (23, _), (24, _), (31, _), (80, _), (81, _), (82, _), (209, _), (210, _)] pQ (fun (cb : Nat) (bo : List (List Piece)) s ob => s = [(211, .V (cb : Int))] ∧ ob = [O0 n [Ab b], O1 p [Aj e], .us g 34 1 (a.1.map (rL 2 Aa)), .us i 34 1 (bo.map (rL 2 Aa)), .us j 34 1 (a.2.2.1.map (rL 2 Aa)), U0 A w.1, U0 F B.2.2, U0 H t.2.2]) ⟨I, I⟩ ⟨I, J⟩ (pk N8) ?_ ?_
 rintro cb bo iy s ob dd ⟨rfl, rfl⟩ h
 have ge := Cm dd
 refine Ai I (Ac fun iz gf => Bl I ge (qI ?_))
 subst gf
 refine qJ (qH (qJ ?_))
 obtain ⟨cc, ⟨gg, de⟩, h⟩ := Bc h
 refine qD (Af 1 I (qN (Bb 6 (m := cc.1) I I I I I I I gg (Ae de)) I (qN (Ax 6 cc.1 0 I I I (Ae de) I (y := .V cc.2) I) I (Af 2 I (qE ?_)))))
 obtain ⟨cd, ⟨gh, gi⟩, h⟩ := Bc h
 obtain ⟨df, ⟨gj, dg⟩, h⟩ := Bc h
 refine qD (Ao 6 [.x 4 cd.1 ((rL 2 Aa) cd.2)] I ⟨⟨gh, Ae gi⟩, J⟩ (qN (Bb 3 (m := df.1) I I I I I I I gj (Ae dg)) I (qF [3] I (Bh 3 df.1 0 I I I (Ae dg) I I I I (Be I) I (Cj (x := cd.2) I) (qE (qD (Ao 2 [.k 0 (cb + 1 : Nat)] I ⟨Az dd gb, J⟩ ?_)))))))
 cases io h
 exact qE (lg I2 N8)
 rintro bo s ob ⟨rfl, rfl⟩ he
 subst he
 have h := gd
 have gk := Cn B.2.2.length
 exact Ai I (Ac fun i0 i1 => Bm I gk (qM (lg ⟨bo, h, I2⟩ N8)))
 rintro s ob ⟨O, h, rfl, rfl⟩
 refine Ac fun i2 gl => qD (Af 1 I (qN (Bu 7 I I I I) I (Af 1 I (qE ?_))))
 subst gl
 refine qH (Gq 7 I fun gm => ?_)
 obtain ⟨i3, gn, go⟩ := Ad h
 refine D8 gn [(3, _), (4, _), (6, _), (12, _), (13, _), (14, _), (15, _), (23, _), (31, _), (80, _), (81, _), (82, _), (224, _), (225, _)] mX (fun (ce : Nat) (E : (List (List Piece)) × (List (List Piece))) s ob => s = [(226, .V (ce : Int))] ∧ ob = [O0 n [Ab b], O1 p [Aj e], .us g 34 1 (E.1.map (rL 2 Aa)), .us i 34 1 (O.map (rL 2 Aa)), .us j 34 1 (E.2.map (rL 2 Aa)), U0 A w.1, U0 F B.2.2, U0 H t.2.2]) ⟨I, I⟩ ⟨I, J⟩ (pk N8) ?_ ?_
 rintro ce E dh s ob di ⟨rfl, rfl⟩ h
 have gq := Cm di
 refine Ai I (Ac fun i4 gr => Bl I gq (qI ?_))
 subst gr
 refine qJ (qH (Ac fun i5 gs => ?_))
 obtain ⟨ay, ⟨gu, dj⟩, h⟩ := Bc h
 refine qD (Af 1 I (qN (Bb 7 (m := ay.1) I I I I I I I gu (Ae dj)) I (qN (Ax 7 ay.1 0 I I I (Ae dj) I (y := .V ay.2) I) I (Af 2 I (qE ?_)))))
 subst gs
 refine Ac fun i6 gv => ?_
 obtain ⟨cf, ⟨gw, gx⟩, h⟩ := Bc h
 obtain ⟨cg, ⟨gy, gz⟩, h⟩ := Bc h
 refine Dt 6 I fun g0 => Bv (pd 15 0 []) [1] [_] I (A9 2 I (qV I (Ds I I I g0) I (Cf 12 [.x 2 cf.1 ((rL 2 Aa) cf.2), .o 5 0, .x 7 cg.1 (rI cg.2)] I ⟨⟨gy, Ae gz⟩, I, ⟨gw, Ae gx⟩, J⟩ (Ar (qE ?_)))))
 subst gv
 refine Ak (fun s ob => ∃ (ci : List Piece), Jh.J16 E ay cg ci = some dh ∧ s = [(36, Q3 ci)] ∧ ob = [O0 n [Ab b], O1 p [Aj e], .us g 34 1 (E.1.map (rL 2 Aa)), .us i 34 1 (O.map (rL 2 Aa)), .us j 34 1 (E.2.map (rL 2 Aa)), U0 A w.1, U0 F B.2.2, U0 H t.2.2]) [(3, _), (4, _), (6, _), (12, _), (13, _), (14, _), (15, _), (23, _), (31, _), (35, _), (37, _), (80, _), (81, _), (82, _), (224, _), (225, _), (226, _)] ⟨I, I, I, I, I, I, I, I, I, I, I, I, I, I, I, I, I, J⟩ ?_ ?_
 refine Ai I (Av h I ?_ ?_)
 intro g1 h
 obtain ⟨bp, g2, h⟩ := Ad h
 refine qD (Af 1 I (qF [] I (Bg I I I (T0 _ _ g2) dS ?_)))
 rintro _ _ ⟨g3, rfl, rfl⟩
 exact Af 1 I (qS (As [8] (K := [U1 g3 bp]) I [(36, Q3 bp), (247, Q3 bp)] ⟨⟨_, I, .us 0 I⟩, ⟨_, I, .us 0 I⟩, J⟩ (ob' := [O0 n [Ab b], O1 p [Aj e], .us g 34 1 (E.1.map (rL 2 Aa)), .us i 34 1 (O.map (rL 2 Aa)), .us j 34 1 (E.2.map (rL 2 Aa)), U0 A w.1, U0 F B.2.2, U0 H t.2.2]) (.rest _)) (qE (lg ⟨bp, h, I2⟩ N8)))
 intro g1 h
 exact qI (lg ⟨cf.2, h, I2⟩ N8)
 rintro s ob ⟨ci, h, rfl, rfl⟩
 refine Ai I (Ac fun i7 g4 => ?_)
 obtain ⟨W, ⟨dk, bq⟩, h⟩ := Bc h
 obtain ⟨M, g5, h⟩ := Ad h
 refine qD (Af 4 I (qN (Bb 2 (m := W.1) I I I I I I I dk (Ae bq)) I (qN (Ax 2 W.1 0 I I I (Ae bq) I (y := Q3 W.2) I) I (Af 2 I (qF [] I (Bg I I I (dT _ _ _ _ g5) dS ?_))))))
 rintro _ _ ⟨g6, cj, rfl, rfl⟩
 refine Af 3 I (qN (Bb 2 (m := W.1) I I I I I I I dk (Ae bq)) I (qS (As [8] (K := [U1 g6 M.1]) I [(258, Q3 M.1)] ⟨⟨_, I, .us 0 I⟩, J⟩ (ob' := [O0 n [Ab b], O1 p [Aj e], .us g 34 1 (E.1.map (rL 2 Aa)), .us i 34 1 (O.map (rL 2 Aa)), .us j 34 1 (E.2.map (rL 2 Aa)), U0 A w.1, U0 F B.2.2, U0 H t.2.2, U1 cj M.2]) (.rest _)) (qF [2] I (Bh 2 W.1 0 I I I (Ae bq) I I I I (Be I) I (Cj (x := M.1) I) (Af 1 I (qE ?_))))))
 subst g4
 refine Ak (fun s ob => ∃ (ah : List Piece) (br : Value), Jh.J17 E ay W M ah = some dh ∧ s = [(38, .v br)] ∧ ob = [O0 n [Ab b], O1 p [Aj e], .us g 34 1 ((E.1.set W.1 M.1).map (rL 2 Aa)), .us i 34 1 (O.map (rL 2 Aa)), .us j 34 1 (E.2.map (rL 2 Aa)), U0 A w.1, U0 F B.2.2, U0 H t.2.2, U1 br ah]) [(3, _), (4, _), (6, _), (12, _), (13, _), (14, _), (15, _), (23, _), (31, _), (35, _), (80, _), (81, _), (82, _), (224, _), (225, _), (226, _)] ⟨I, I, I, I, I, I, I, I, I, I, I, I, I, I, I, I, J⟩ ?_ ?_
 refine Ai I (Av h I ?_ ?_)
 intro g7 h
 obtain ⟨g8, g9, h⟩ := Ad h
 refine qD (Af 1 I (qS (As [8] (K := [U1 cj M.2]) I [(38, Q3 M.2), (259, Q3 M.2), (263, Q3 M.2)] ⟨⟨_, I, .us 0 I⟩, ⟨_, I, .us 0 I⟩, ⟨_, I, .us 0 I⟩, J⟩ (ob' := [O0 n [Ab b], O1 p [Aj e], .us g 34 1 ((E.1.set W.1 M.1).map (rL 2 Aa)), .us i 34 1 (O.map (rL 2 Aa)), .us j 34 1 (E.2.map (rL 2 Aa)), U0 A w.1, U0 F B.2.2, U0 H t.2.2]) (.rest _)) (qF [] I (Bg I I I (T0 _ _ g9) dS ?_))))
 rintro _ _ ⟨ha, rfl, rfl⟩
 exact Af 1 I (qE (lg ⟨g8, ha, h, I2⟩ N9))
 intro g7 h
 exact qI (lg ⟨M.2, cj, h, I2⟩ N9)
 rintro s ob ⟨ah, br, h, rfl, rfl⟩
 obtain ⟨dl, ⟨hb, dm⟩, h⟩ := Bc h
 refine qD (Af 3 I (qN (Bb 4 (m := dl.1) I I I I I I I hb (Ae dm)) I (qS (As [8] (K := [U1 br ah]) I [(38, Q3 ah), (267, Q3 ah)] ⟨⟨_, I, .us 0 I⟩, ⟨_, I, .us 0 I⟩, J⟩ (ob' := [O0 n [Ab b], O1 p [Aj e], .us g 34 1 ((E.1.set W.1 M.1).map (rL 2 Aa)), .us i 34 1 (O.map (rL 2 Aa)), .us j 34 1 (E.2.map (rL 2 Aa)), U0 A w.1, U0 F B.2.2, U0 H t.2.2]) (.rest _)) (qF [4] I (Bh 4 dl.1 0 I I I (Ae dm) I I I I (Be I) I (Cj (x := ah) I) (qE (qD (Ao 2 [.k 0 (ce + 1 : Nat)] I ⟨Az di gm, J⟩ ?_))))))))
 cases io h
 exact qE (lg I2 N8)
 rintro E s ob ⟨rfl, rfl⟩ he
 subst he
 have h := go
 have hc := Cn t.2.2.length
 exact Ai I (Ac fun i8 i9 => Bm I hc (qM (lg ⟨(E.1, O, E.2, (a.2.2.2 || decide ((U.length : Int) > 200))), h, I2⟩ N6)))
 rintro s ob ⟨ai, h, rfl, rfl⟩
 unfold Jh.J11 at h
 refine qD (Ao 2 [.k 0 (b0 + 1 : Nat)] I ⟨Az c5 ef, J⟩ ?_)
 cases io h
 exact qE (lg I2 N6)
 rintro a s ob ⟨rfl, rfl⟩ he
 subst he
 have h := eh
 have hd := Cn w.1.length
 exact Ai I (Ac fun ja jb => Bm I hd (qM (lg ⟨(a.1, a.2.1, a.2.2.1, a.2.2.2), h, I2⟩ [2, 3, 4])))
 rintro s ob ⟨u, h, rfl, rfl⟩
 unfold Jh.J3 at h
 refine Ak (fun s ob => ∃ (ck : Bool), Jh.J4 u ck = some r ∧ s = [(15, .v (.bool ck))] ∧ ob = [.us g 34 1 (u.1.map (rL 2 Aa)), .us i 34 1 (u.2.1.map (rL 2 Aa))]) (K2 12 13) J2 ?_ ?_
 refine Ac fun jc hf => qD (Af 1 I (qN (Bu 0 I I I I) I (Af 1 I (qE ?_))))
 subst hf
 refine qH (Gq 0 I fun hg => ?_)
 obtain ⟨jd, hh, hi⟩ := Ad h
 refine D8 hh (K4 12 13 14 272) J4 (fun (cl : Nat) (az : Bool) s ob => s = [(273, .V (cl : Int)), (15, .v (.bool az))] ∧ ob = [.us g 34 1 (u.1.map (rL 2 Aa)), .us i 34 1 (u.2.1.map (rL 2 Aa)), .us j 34 1 (u.2.2.1.map (rL 2 Aa))]) ⟨I, I⟩ ⟨I, I, J⟩ (pk N3) ?_ ?_
 rintro cl az hj s ob dn ⟨rfl, rfl⟩ h
 unfold Jh.B8 at h
 have hk := Cm dn
 refine Ai I (Ac fun je hl => Bl I hk (qI ?_))
 subst hl
 refine Ak (fun s ob => ∃ (cm : Bool), Jh.J9 cm = some hj ∧ s = [(15, .v (.bool cm))] ∧ ob = [.us g 34 1 (u.1.map (rL 2 Aa)), .us i 34 1 (u.2.1.map (rL 2 Aa)), .us j 34 1 (u.2.2.1.map (rL 2 Aa))]) (K5 12 13 14 272 273) J5 ?_ ?_
 refine qH (Ai I (qD (Af 2 I ?_)))
 rcases bt (az) with a0 | a0
 have h := Cb a0 h
 exact Ah 277 I a0 (Af 16 I (qE (lg ⟨true, h, I2⟩ N3)))
 have h := Cc a0 h
 obtain ⟨X, ⟨dp, bs⟩, h⟩ := Bc h
 refine Ah 277 I a0 ?_
 rcases bt (decide ((X.2.length : Int) > 200)) with a1 | a1
 have h := Cb a1 h
 exact Af 2 I (Bj I I I (qN (Bb 0 (m := X.1) I I I I I I I dp (Ae bs)) I (Bj I I I (qN (Ax 0 X.1 0 I I I (Ae bs) I (y := Q3 X.2) I) I (Ao 4 [.l 0 (X.2.length : Int)] I ⟨A6, J⟩ (Ah 285 I a1 (Af 8 I (qE (lg ⟨true, h, I2⟩ N3)))))))))
 have h := Cc a1 h
 obtain ⟨a2, ⟨hm, dq⟩, h⟩ := Bc h
 refine Af 2 I (Bj I I I (qN (Bb 0 (m := X.1) I I I I I I I dp (Ae bs)) I (Bj I I I (qN (Ax 0 X.1 0 I I I (Ae bs) I (y := Q3 X.2) I) I (Ao 4 [.l 0 (X.2.length : Int)] I ⟨A6, J⟩ (Ah 285 I a1 (Af 2 I (Bj I I I (qN (Bb 2 (m := a2.1) I I I I I I I hm (Ae dq)) I (Bj I I I (qN (Ax 2 a2.1 0 I I I (Ae dq) I (y := Q3 a2.2) I) I (Ao 4 [.l 0 (a2.2.length : Int)] I ⟨A6, J⟩ ?_))))))))))))
 exact qE (lg ⟨decide ((a2.2.length : Int) > 200), h, I2⟩ N3)
 rintro s ob ⟨cm, h, rfl, rfl⟩
 unfold Jh.J9 at h
 refine qD (Ao 2 [.k 0 (cl + 1 : Nat)] I ⟨Az dn hg, J⟩ ?_)
 cases io h
 exact qE (lg I2 N3)
 rintro az s ob ⟨rfl, rfl⟩ he
 subst he
 have h := hi
 have hn := Cn u.1.length
 exact Ai I (Ac fun jf jg => Bm I hn (qM (lg ⟨az, h, I2⟩ [0, 1])))
 rintro s ob ⟨ck, h, rfl, rfl⟩
 unfold Jh.J4 at h
 refine Ak (fun s ob => ∃ (cn : Bool), Jh.J5 u cn = some r ∧ s = [(15, .v (.bool cn))] ∧ ob = [.us g 34 1 (u.1.map (rL 2 Aa)), .us i 34 1 (u.2.1.map (rL 2 Aa))]) (K2 12 13) J2 ?_ ?_
 refine Ac fun jh ho => qD (Af 1 I (qN (Bu 1 I I I I) I (Af 1 I (qE ?_))))
 subst ho
 refine qH (Gq 1 I fun hp => ?_)
 obtain ⟨ji, hq, hr⟩ := Ad h
 refine D8 hq (K3 12 13 295) J3 (fun (co : Nat) (a3 : Bool) s ob => s = [(296, .V (co : Int)), (15, .v (.bool a3))] ∧ ob = [.us g 34 1 (u.1.map (rL 2 Aa)), .us i 34 1 (u.2.1.map (rL 2 Aa))]) ⟨I, I⟩ ⟨I, I, J⟩ (pk [0, 1]) ?_ ?_
 rintro co a3 hs s ob dr ⟨rfl, rfl⟩ h
 unfold Jh.B6 at h
 have ht := Cm dr
 refine Ai I (Ac fun jj hu => Bl I ht (qI ?_))
 subst hu
 refine Ak (fun s ob => ∃ (cp : Bool), Jh.J7 cp = some hs ∧ s = [(15, .v (.bool cp))] ∧ ob = [.us g 34 1 (u.1.map (rL 2 Aa)), .us i 34 1 (u.2.1.map (rL 2 Aa))]) (K4 12 13 295 296) J4 ?_ ?_
 refine qH (Ai I (qD (Af 2 I ?_)))
 rcases bt (a3) with a4 | a4
 have h := Cb a4 h
 exact Ah 300 I a4 (Af 8 I (qE (lg ⟨true, h, I2⟩ [0, 1])))
 have h := Cc a4 h
 obtain ⟨a5, ⟨hv, ds⟩, h⟩ := Bc h
 exact Ah 300 I a4 (Af 2 I (Bj I I I (qN (Bb 1 (m := a5.1) I I I I I I I hv (Ae ds)) I (Bj I I I (qN (Ax 1 a5.1 0 I I I (Ae ds) I (y := Q3 a5.2) I) I (Ao 4 [.l 0 (a5.2.length : Int)] I ⟨A6, J⟩ (qE (lg ⟨decide ((a5.2.length : Int) > 200), h, I2⟩ [0, 1]))))))))
 rintro s ob ⟨cp, h, rfl, rfl⟩
 unfold Jh.J7 at h
 refine qD (Ao 2 [.k 0 (co + 1 : Nat)] I ⟨Az dr hp, J⟩ ?_)
 cases io h
 exact qE (lg I2 [0, 1])
 rintro a3 s ob ⟨rfl, rfl⟩ he
 subst he
 have h := hr
 have hw := Cn u.2.1.length
 exact Ai I (Ac fun jk jl => Bm I hw (qM (lg ⟨a3, h, I2⟩ [0, 1])))
 rintro s ob ⟨cn, h, rfl, rfl⟩
 refine qJ (Ai I (Av h I ?_ ?_))
 intro hx h
 refine Ai I (qL (Ay 34 1) (qL (Ay 34 1) (Dd [2, 3] I ?_)))
 cases io h
 exact qK ⟨.inr I, [_, _, _], [.us nS 34 1 ([].map (rL 2 Aa)), .us nS 34 1 ([].map (rL 2 Aa))], J3, Ca I (Ca I (Cv)), ⟨nS, nS, I2⟩⟩
 intro hx h
 refine qI (Ai I ?_)
 cases io h
 exact qK ⟨.inr I, [_, _, _], [.us g 34 1 (u.1.map (rL 2 Aa)), .us i 34 1 (u.2.1.map (rL 2 Aa))], J3, Ca I (Ca I (Cv)), ⟨g, i, I2⟩⟩
theorem dO (f : Nat) (Q : KS) (R : Plan) (r : Plan × KS) (h : Qs Q R = some r) : ACalls Al 16 [.P f, .agg (Aj R)] [O2 f [Bs Q]] (Fh 1 fun x os new => x = .agg (Aj r.1) ∧ os = [O2 f [Bs r.2]] ∧ new = []) := by
 refine Ag Tryz.func16 I I I fun C hC => ?_
 unfold Qs at h
 refine Ac fun y1 ak => qD (qF [] I (Cp (Aj R) 3 fun S => qF [] I (B0 W0 3 fun U => qE ?_)))
 subst ak
 refine Ak (fun s ob => ∃ (g : Li × Li × (List Bool)) (u : Value) (w : Value) (A : Value), Qs.J1 Q g = some r ∧ s = [] ∧ ob = [O2 f [Bs Q], O1 S [[.v u, .v w, .v A]], O1 U [W0], U0 u g.1, U0 w g.2.1, U3 A g.2.2]) (K3 0 3 4) J3 ?_ ?_
 obtain ⟨Z, al, h⟩ := Ad h
 obtain ⟨aa, am, h⟩ := Ad h
 obtain ⟨ab, an, h⟩ := Ad h
 refine Bv (.still 1 (.still 2 (.still 5 (.still 6 (.still 9 (.still 10 (.par [(0, []), (3, [0]), (4, []), (7, [4]), (8, []), (11, [8])] (.still 12 (.drop 13 .nil))))))))) [1] [_] I (Cf 6 [.o 1 0, .o 3 0, .o 5 0] I J3 (AP.any [⟨0, [], 5, .lt 3 1⟩, ⟨3, [0], 8, .ap 0 3 1 (Z.map rI)⟩, ⟨4, [], 9, .lt 3 1⟩, ⟨7, [4], 12, .ap 4 3 1 (aa.map rI)⟩, ⟨8, [], 13, .lt 4 1⟩, ⟨11, [8], 16, .ap 8 4 1 (ab.map rB)⟩] I ⟨⟨_, I, I, I, fun _ => qP (sz := 1) (es := ([] : Li).map rI) I I I I I I I I I I I dS fun v => ⟨_, I, ⟨v, I⟩, I⟩⟩, ⟨_, I, I, I, fun _ _ _ => qU (la := []) (fr := rI) 0 I al fun v => ⟨v, I2⟩⟩, ⟨_, I, I, I, fun _ => qP (sz := 1) (es := ([] : Li).map rI) I I I I I I I I I I I dS fun v => ⟨_, I, ⟨v, I⟩, I⟩⟩, ⟨_, I, I, I, fun _ _ _ => qU (la := []) (fr := rI) 0 I am fun v => ⟨v, I2⟩⟩, ⟨_, I, I, I, fun _ => qP (sz := 1) (es := ([] : List Bool).map rB) I I I I I I I I I I I dS fun v => ⟨_, I, ⟨v, I⟩, I⟩⟩, ⟨_, I, I, I, fun _ _ _ => qU (la := []) (fr := rB) 0 I an fun v => ⟨v, I2⟩⟩, J⟩ ?_))
 intro _ _ W ac _ _ X ad _ _ Y ae
 exact rC 3 I fun ac => rC 4 I fun ad => rC 5 I fun ae => AP.p I (Bi (l := [.v W, .v X, .v Y]) Iz (Ce I I (Bz ac) I (Ce I I (Bz ad) I (Ce I I (Bz ae) I (Fr))))) I (qX [1] I I I (By 1 0 0 [[.v W, .v X, .v Y]] I (Ar (qE (lg ⟨(Z, aa, ab), W, X, Y, h, I2⟩ N6)))))
 rintro s ob ⟨g, u, w, A, h, rfl, rfl⟩
 unfold Qs.J1 at h
 refine Ak (fun s ob => ∃ (i : Li × Int × Li × Li × (List Bool)) (G : Value) (H : Value), Qs.J2 i = some r ∧ s = [] ∧ ob = [O2 f [[Q0 i.1, .V i.2.1]], O1 S [[.v u, .v G, .v H]], O1 U [W0], U0 u i.2.2.1, U0 G i.2.2.2.1, U3 H i.2.2.2.2]) (K2 3 4) J2 ?_ ?_
 refine Ac fun bb ao => ?_
 obtain ⟨M, aq, h⟩ := Ad h
 refine qD (Af 1 I (qF [0] I (A7 [0] (Ch f _ _ _ aq) ?_)))
 refine qE ?_
 subst ao
 refine qH (Ai I (Av h I ?_ ?_))
 intro ar h
 obtain ⟨au, av, h⟩ := Ad h
 exact qD (Ao 2 [.o 1 1] I J1 (qF [] I (qO 1 (([true] : List Bool).map rB) (qF [5] I (qU 5 I av fun af => Af 1 I (AO.one 5 I fun aw => qF [1] I (qT 1 0 2 (es' := [[.v u, .v w, .v af]]) I I I I I I (Bz aw) I (Be I) I I (qE (lg ⟨(M.2.L_, M.2.At, g.1, g.2.1, au), w, af, h, I2⟩ N6)))))))))
 intro ar h
 refine Ai I (Av h I ?_ ?_)
 intro ax h
 obtain ⟨ag, ay, h⟩ := Ad h
 obtain ⟨az, a0, h⟩ := Ad h
 refine Dt 4 I fun a1 => Bv (sl 7 0 (.act 7 (.act 8 (.still 9 (.drop 10 .nil))))) [1] [_] I (Cf 5 [.o 1 0, .o 4 0] I J2 (qV I (Ds I I I a1) I (A9 1 I (qG [0] I I I (A7 [0] (Ch f _ _ _ ay) ?_)))))
 exact qG [4] I I I (mS 4 I a0 fun ah => A9 1 I (rC 4 I fun a2 => qX [1] I I I (qT 1 0 1 (es' := [[.v u, .v ah, .v A]]) I I I I I I (Bz a2) I (Be I) I I (Ar (qE (lg ⟨(ag.2.L_, ag.2.At, g.1, az, g.2.2), ah, A, h, I2⟩ N6))))))
 intro ax h
 refine Ai I (Av h I ?_ ?_)
 intro a3 h
 refine Ac fun bc a4 => qD (Ao 2 [.o 1 1] I J1 (qN (Bu 4 I I I I) I (Af 1 I (qE ?_))))
 subst a4
 refine Av h I ?_ ?_
 intro a5 h
 obtain ⟨bd, ai, h⟩ := Ad h
 obtain ⟨a, ⟨j, c⟩, h⟩ := Bc h
 obtain ⟨n, B, h⟩ := Ad h
 refine Dt 4 I fun a6 => Cl 4 a.1 I c fun O => Cl 4 a.1 I c fun D => Bv nH [1] [_] I (Cf 5 [.o 1 0, .o 4 0] I J2 (qV I (Ds I I I a6) I (A9 1 I (qW ?_ ?_))))
 refine qG [0] I I I (A7 [0] (Ch f _ _ _ ai) ?_)
 refine qW ?_ ?_
 refine qG [] I I I (Ba (qY (A3 (m := a.1) I I I I I O I j c)) dS (qW ?_ ?_))
 refine qG [] I I I (Ba (Ax 4 a.1 0 I I I (Ae c) I (y := .V a.2) I) dS (qG [] I I I (qO 1 (([1, (-1), 1001, (-4611686018427387904)] : Li).map rI) (qG [0] I I I (A7 [0] (An f _ _ _ B) ?_)))))
 refine A9 1 I (qG [] I I I (Ba (qY (A3 (m := a.1) I I I I I D I j c)) dS (qG [4] I I I (Bh 4 a.1 0 I I I (Ae c) I I I I (Be I) I (Cj (x := wr (a.2 + n.1)) I) (Ar (qE ?_))))))
 rotate_left
 refine qG [] I I I (qO 1 (([1, (-1), 1001, (-4611686018427387904)] : Li).map rI) (qW ?_ ?_))
 refine qG [] I I I (Ba (Ax 4 a.1 0 I I I (Ae c) I (y := .V a.2) I) dS (qG [0] I I I (A7 [0] (An f _ _ _ B) ?_)))
 refine A9 1 I (qG [] I I I (Ba (qY (A3 (m := a.1) I I I I I D I j c)) dS (qG [4] I I I (Bh 4 a.1 0 I I I (Ae c) I I I I (Be I) I (Cj (x := wr (a.2 + n.1)) I) (Ar (qE ?_))))))
 rotate_left
 refine qG [0] I I I (A7 [0] (An f _ _ _ B) ?_)
 refine qG [] I I I (Ba (Ax 4 a.1 0 I I I (Ae c) I (y := .V a.2) I) dS (A9 1 I (qG [] I I I (Ba (qY (A3 (m := a.1) I I I I I D I j c)) dS (qG [4] I I I (Bh 4 a.1 0 I I I (Ae c) I I I I (Be I) I (Cj (x := wr (a.2 + n.1)) I) (Ar (qE ?_))))))))
 rotate_left
 refine qG [] I I I (qO 1 (([1, (-1), 1001, (-4611686018427387904)] : Li).map rI) (qW ?_ ?_))
 refine qG [] I I I (Ba (qY (A3 (m := a.1) I I I I I O I j c)) dS (qW ?_ ?_))
 refine qG [] I I I (Ba (Ax 4 a.1 0 I I I (Ae c) I (y := .V a.2) I) dS (qG [0] I I I (A7 [0] (An f _ _ _ B) ?_)))
 refine A9 1 I (qG [] I I I (Ba (qY (A3 (m := a.1) I I I I I D I j c)) dS (qG [4] I I I (Bh 4 a.1 0 I I I (Ae c) I I I I (Be I) I (Cj (x := wr (a.2 + n.1)) I) (Ar (qE ?_))))))
 rotate_left
 refine qG [0] I I I (A7 [0] (An f _ _ _ B) ?_)
 refine qG [] I I I (Ba (Ax 4 a.1 0 I I I (Ae c) I (y := .V a.2) I) dS (A9 1 I (qG [] I I I (Ba (qY (A3 (m := a.1) I I I I I D I j c)) dS (qG [4] I I I (Bh 4 a.1 0 I I I (Ae c) I I I I (Be I) I (Cj (x := wr (a.2 + n.1)) I) (Ar (qE ?_))))))))
 rotate_left
 refine qG [0] I I I (A7 [0] (An f _ _ _ B) ?_)
 refine qG [] I I I (Ba (qY (A3 (m := a.1) I I I I I O I j c)) dS (qG [] I I I (Ba (Ax 4 a.1 0 I I I (Ae c) I (y := .V a.2) I) dS (A9 1 I (qG [] I I I (Ba (qY (A3 (m := a.1) I I I I I D I j c)) dS (qG [4] I I I (Bh 4 a.1 0 I I I (Ae c) I I I I (Be I) I (Cj (x := wr (a.2 + n.1)) I) (Ar (qE ?_))))))))))
 rotate_left
 refine qG [] I I I (qO 1 (([1, (-1), 1001, (-4611686018427387904)] : Li).map rI) (qG [0] I I I (A7 [0] (Ch f _ _ _ ai) ?_)))
 refine qW ?_ ?_
 refine qG [] I I I (Ba (qY (A3 (m := a.1) I I I I I O I j c)) dS (qW ?_ ?_))
 refine qG [] I I I (Ba (Ax 4 a.1 0 I I I (Ae c) I (y := .V a.2) I) dS (qG [0] I I I (A7 [0] (An f _ _ _ B) ?_)))
 refine A9 1 I (qG [] I I I (Ba (qY (A3 (m := a.1) I I I I I D I j c)) dS (qG [4] I I I (Bh 4 a.1 0 I I I (Ae c) I I I I (Be I) I (Cj (x := wr (a.2 + n.1)) I) (Ar (qE ?_))))))
 rotate_left
 refine qG [0] I I I (A7 [0] (An f _ _ _ B) ?_)
 refine qG [] I I I (Ba (Ax 4 a.1 0 I I I (Ae c) I (y := .V a.2) I) dS (A9 1 I (qG [] I I I (Ba (qY (A3 (m := a.1) I I I I I D I j c)) dS (qG [4] I I I (Bh 4 a.1 0 I I I (Ae c) I I I I (Be I) I (Cj (x := wr (a.2 + n.1)) I) (Ar (qE ?_))))))))
 rotate_left
 refine qG [0] I I I (A7 [0] (An f _ _ _ B) ?_)
 refine qG [] I I I (Ba (qY (A3 (m := a.1) I I I I I O I j c)) dS (qG [] I I I (Ba (Ax 4 a.1 0 I I I (Ae c) I (y := .V a.2) I) dS (A9 1 I (qG [] I I I (Ba (qY (A3 (m := a.1) I I I I I D I j c)) dS (qG [4] I I I (Bh 4 a.1 0 I I I (Ae c) I I I I (Be I) I (Cj (x := wr (a.2 + n.1)) I) (Ar (qE ?_))))))))))
 any_goals
  exact lg ⟨(n.2.L_, n.2.At, g.1, (g.2.1.set a.1 (wr (a.2 + n.1))), g.2.2), w, A, h, I2⟩ N6
 intro a5 h
 exact qI (lg ⟨(M.2.L_, M.2.At, g.1, g.2.1, g.2.2), w, A, h, I2⟩ N6)
 intro a3 h
 refine Ac fun be a7 => qD (Ao 2 [.o 1 1] I J1 (qN (Bu 3 I I I I) I (Af 1 I (qE ?_))))
 subst a7
 refine Av h I ?_ ?_
 intro a8 h
 obtain ⟨bf, aj, h⟩ := Ad h
 obtain ⟨b, ⟨k, e⟩, h⟩ := Bc h
 obtain ⟨t, E, h⟩ := Ad h
 refine Dt 3 I fun a9 => Cl 3 b.1 I e fun P => Cl 3 b.1 I e fun F => Bv nH [1] [_] I (Cf 5 [.o 1 0, .o 4 0] I J2 (qV I (Ds I I I a9) I (A9 1 I (qW ?_ ?_))))
 refine qG [0] I I I (A7 [0] (Ch f _ _ _ aj) ?_)
 refine qW ?_ ?_
 refine qG [] I I I (Ba (qY (A3 (m := b.1) I I I I I P I k e)) dS (qW ?_ ?_))
 refine qG [] I I I (Ba (Ax 3 b.1 0 I I I (Ae e) I (y := .V b.2) I) dS (qG [] I I I (qO 1 (([1, (-1), 5, 1001, 4611686018427387904, (-4611686018427387904)] : Li).map rI) (qG [0] I I I (A7 [0] (An f _ _ _ E) ?_)))))
 refine A9 1 I (qG [] I I I (Ba (qY (A3 (m := b.1) I I I I I F I k e)) dS (qG [3] I I I (Bh 3 b.1 0 I I I (Ae e) I I I I (Be I) I (Cj (x := wr (b.2 + t.1)) I) (Ar (qE ?_))))))
 rotate_left
 refine qG [] I I I (qO 1 (([1, (-1), 5, 1001, 4611686018427387904, (-4611686018427387904)] : Li).map rI) (qW ?_ ?_))
 refine qG [] I I I (Ba (Ax 3 b.1 0 I I I (Ae e) I (y := .V b.2) I) dS (qG [0] I I I (A7 [0] (An f _ _ _ E) ?_)))
 refine A9 1 I (qG [] I I I (Ba (qY (A3 (m := b.1) I I I I I F I k e)) dS (qG [3] I I I (Bh 3 b.1 0 I I I (Ae e) I I I I (Be I) I (Cj (x := wr (b.2 + t.1)) I) (Ar (qE ?_))))))
 rotate_left
 refine qG [0] I I I (A7 [0] (An f _ _ _ E) ?_)
 refine qG [] I I I (Ba (Ax 3 b.1 0 I I I (Ae e) I (y := .V b.2) I) dS (A9 1 I (qG [] I I I (Ba (qY (A3 (m := b.1) I I I I I F I k e)) dS (qG [3] I I I (Bh 3 b.1 0 I I I (Ae e) I I I I (Be I) I (Cj (x := wr (b.2 + t.1)) I) (Ar (qE ?_))))))))
 rotate_left
 refine qG [] I I I (qO 1 (([1, (-1), 5, 1001, 4611686018427387904, (-4611686018427387904)] : Li).map rI) (qW ?_ ?_))
 refine qG [] I I I (Ba (qY (A3 (m := b.1) I I I I I P I k e)) dS (qW ?_ ?_))
 refine qG [] I I I (Ba (Ax 3 b.1 0 I I I (Ae e) I (y := .V b.2) I) dS (qG [0] I I I (A7 [0] (An f _ _ _ E) ?_)))
 refine A9 1 I (qG [] I I I (Ba (qY (A3 (m := b.1) I I I I I F I k e)) dS (qG [3] I I I (Bh 3 b.1 0 I I I (Ae e) I I I I (Be I) I (Cj (x := wr (b.2 + t.1)) I) (Ar (qE ?_))))))
 rotate_left
 refine qG [0] I I I (A7 [0] (An f _ _ _ E) ?_)
 refine qG [] I I I (Ba (Ax 3 b.1 0 I I I (Ae e) I (y := .V b.2) I) dS (A9 1 I (qG [] I I I (Ba (qY (A3 (m := b.1) I I I I I F I k e)) dS (qG [3] I I I (Bh 3 b.1 0 I I I (Ae e) I I I I (Be I) I (Cj (x := wr (b.2 + t.1)) I) (Ar (qE ?_))))))))
 rotate_left
 refine qG [0] I I I (A7 [0] (An f _ _ _ E) ?_)
 refine qG [] I I I (Ba (qY (A3 (m := b.1) I I I I I P I k e)) dS (qG [] I I I (Ba (Ax 3 b.1 0 I I I (Ae e) I (y := .V b.2) I) dS (A9 1 I (qG [] I I I (Ba (qY (A3 (m := b.1) I I I I I F I k e)) dS (qG [3] I I I (Bh 3 b.1 0 I I I (Ae e) I I I I (Be I) I (Cj (x := wr (b.2 + t.1)) I) (Ar (qE ?_))))))))))
 rotate_left
 refine qG [] I I I (qO 1 (([1, (-1), 5, 1001, 4611686018427387904, (-4611686018427387904)] : Li).map rI) (qG [0] I I I (A7 [0] (Ch f _ _ _ aj) ?_)))
 refine qW ?_ ?_
 refine qG [] I I I (Ba (qY (A3 (m := b.1) I I I I I P I k e)) dS (qW ?_ ?_))
 refine qG [] I I I (Ba (Ax 3 b.1 0 I I I (Ae e) I (y := .V b.2) I) dS (qG [0] I I I (A7 [0] (An f _ _ _ E) ?_)))
 refine A9 1 I (qG [] I I I (Ba (qY (A3 (m := b.1) I I I I I F I k e)) dS (qG [3] I I I (Bh 3 b.1 0 I I I (Ae e) I I I I (Be I) I (Cj (x := wr (b.2 + t.1)) I) (Ar (qE ?_))))))
 rotate_left
 refine qG [0] I I I (A7 [0] (An f _ _ _ E) ?_)
 refine qG [] I I I (Ba (Ax 3 b.1 0 I I I (Ae e) I (y := .V b.2) I) dS (A9 1 I (qG [] I I I (Ba (qY (A3 (m := b.1) I I I I I F I k e)) dS (qG [3] I I I (Bh 3 b.1 0 I I I (Ae e) I I I I (Be I) I (Cj (x := wr (b.2 + t.1)) I) (Ar (qE ?_))))))))
 rotate_left
 refine qG [0] I I I (A7 [0] (An f _ _ _ E) ?_)
 refine qG [] I I I (Ba (qY (A3 (m := b.1) I I I I I P I k e)) dS (qG [] I I I (Ba (Ax 3 b.1 0 I I I (Ae e) I (y := .V b.2) I) dS (A9 1 I (qG [] I I I (Ba (qY (A3 (m := b.1) I I I I I F I k e)) dS (qG [3] I I I (Bh 3 b.1 0 I I I (Ae e) I I I I (Be I) I (Cj (x := wr (b.2 + t.1)) I) (Ar (qE ?_))))))))))
 any_goals
  exact lg ⟨(t.2.L_, t.2.At, (g.1.set b.1 (wr (b.2 + t.1))), g.2.1, g.2.2), w, A, h, I2⟩ N6
 intro a8 h
 exact qI (lg ⟨(M.2.L_, M.2.At, g.1, g.2.1, g.2.2), w, A, h, I2⟩ N6)
 rintro s ob ⟨i, G, H, h, rfl, rfl⟩
 refine qJ (qD (Ao 1 [.o 0 1] I J1 (qF [2] I (By 2 0 0 [[.v u, .v G, .v H]] I (qE (qL (As [3, 4, 5] (K := [U0 u i.2.2.1, U0 G i.2.2.2.1, U3 H i.2.2.2.2]) I [] J (ob' := [O2 f [[Q0 i.1, .V i.2.1]], O1 S [[.v u, .v G, .v H]], O1 U [[Q0 i.2.2.1, Q0 i.2.2.2.1, Q2 i.2.2.2.2]]]) (.cons (.same _) (.cons (.same _) (.cons (.arr (.cons (.us 0 I) (.cons (.us 1 I) (.cons (.us 2 I) (.rest _))))) (.rest _))))) (Dd [0, 2] I ?_)))))))
 obtain rfl := oi h
 exact qK ⟨.inr I, [_], [O2 f [[Q0 i.1, .V i.2.1]]], ⟨⟨1, _, _, _, _, _, _, _, I5⟩, J⟩, Ca I (Cv), ⟨[O2 f [[Q0 i.1, .V i.2.1]]], [], I5⟩⟩
end Go.Proofs.YtaoclefkknloiaaGreat
