/- Walks that show what functions of the program compute; printed by a program of ours. No condition. -/
import Derived.Test.YtmaamhgjeampmaaGreatZwL0
import Derived.Test.YtmaamhgjeampmaaGreatZwD
set_option maxRecDepth 100000
namespace Go.Proofs.YtmaamhgjeampmaaGreat
open Go.Aw
set_option linter.unusedVariables false
set_option linter.unusedSimpArgs false
set_option maxHeartbeats 4000000
abbrev Uc : PL := .still 11 (.act 12 (.still 13 (.act 14 (.still 15 .nil))))
abbrev Ua : PL := .still 12 (.act 13 (.still 14 (.act 15 (.still 16 .nil))))
abbrev rF : PL := .two 5 7 (.act 7 (.still 10 Ua)) (.still 10 (.act 5 Ua))
abbrev rC : PL := .two 5 7 (.act 7 (.still 9 Uc)) (.still 9 (.act 5 Uc))
abbrev jZ : PL := sl 11 0 (.drop 11 .nil)
theorem Vm (a : Li) (r : Li) (h : Ny a = some r) : ACalls Ai 88 [Q0 a] [] (fun x new => ∃ (b : Value), x = .v b ∧ new = [U0 b r]) := by
  refine Ag Tryz.func88 rfl rfl rfl (fun C hC => ?_)
  unfold Ny at h
  obtain ⟨e, d⟩ := Ep h
  refine vM ?_
  refine vH ?_
  refine Ch (wH rfl) rfl ?_
  refine vI ?_
  refine vM ?_
  refine vM ?_
  refine vH ?_
  refine Ch (Yp.move rfl) rfl ?_
  refine vJ [] rfl (S3 rfl rfl rfl (Cn rfl) fun c hc => ?_)
  refine vI ?_
  refine AW.cond rfl rfl ?_ ?_
  · intro hb
    have hs : a = [] := by have := hc hb; simpa using this
    subst hs
    refine vM ?_
    refine vH ?_
    refine Ch (wH rfl) rfl ?_
    refine wD (A7 3 1) ?_
    refine vI ?_
    refine vO ?_
    have hr : r = [] := by simpa using d.symm
    subst hr
    exact ⟨.inr rfl, [_], [.us nS 3 1 ([].map rI)], ⟨rfl, J⟩, Cy rfl Cf, ⟨_, rfl, rfl⟩⟩
  · intro hb
    refine vL ?_
    refine vM ?_
    refine vH ?_
    refine vJ [] rfl (vW (sz := 1) (es := []) rfl rfl rfl rfl rfl rfl rfl rfl rfl rfl rfl (Cn rfl) fun g => ?_)
    refine Ch (Yp.move rfl) rfl ?_
    refine vJ [0] rfl (F7 0 (es' := r.map rI) rfl rfl rfl rfl rfl rfl rfl rfl rfl (AppSrc.list rfl) (by simpa using e) (by rw [← d]; simp) (Cn rfl) fun f => ?_)
    refine Ch (wH rfl) rfl ?_
    refine vI ?_
    refine vO ?_
    exact ⟨.inr rfl, [_], [U0 f r], ⟨rfl, J⟩, Cy rfl Cf, ⟨_, rfl, rfl⟩⟩
theorem Vw (a : Hop) (b : Int) (r : Int) (h : Lp a b = r) : ACalls Ai 141 [.agg (Cb a), .V b] [] (RV (.V r)) := by
 refine Ag Tryz.func141 I I I fun C hC => ?_
 refine Aa fun e c => vH (vJ [] I (Bh (Cb a) 2 fun f => Af 1 I (vI ?_)))
 subst c
 refine vM (Bl [.o 1 0] I J1 (Ao h I ?_ ?_))
 intro d h
 refine Aj I (vP g0 ?_)
 obtain rfl := h
 exact vO pr
 intro d h
 refine vL (Aj I (vP g0 ?_))
 obtain rfl := h
 exact vO pr
theorem jA (w : Nat) (a : paths_divider) (w0_0 : Value) (w0_1 : Value) (e : Int) (r : Path × paths_divider) (h : L1 a e = some r) : ACalls Ai 89 [.P w, .V e] [Wp w [[Q1 a.n_.Nodes, Q5 a.n_.Segments, Q4 a.n_.Ports, Q3 a.n_.Stations, .V a.n_.Vapour, .V a.n_.Settle, .v w0_0, .v w0_1]], U0 w0_0 a.rates, U0 w0_1 a.ports] (E7 3 fun x os new => ∃ (u1_0 : Value) (u1_1 : Value), x = .agg (Az r.1) ∧ os = [Wp w [[Q1 r.2.n_.Nodes, Q5 r.2.n_.Segments, Q4 r.2.n_.Ports, Q3 r.2.n_.Stations, .V r.2.n_.Vapour, .V r.2.n_.Settle, .v u1_0, .v u1_1]], U0 u1_0 r.2.rates, U0 u1_1 r.2.ports] ∧ new = []) := by
 refine Ag Tryz.func89 I I I fun C hC => ?_
 refine Aa fun y1 ba => vH (vJ [] I (Bm W2 4 fun E => vI ?_))
 subst ba
 refine AW.scope (Aa fun y3 bb => ?_)
 obtain ⟨j, ⟨ag, H⟩, h⟩ := Ba h
 refine vH (Al 6 [.o 4 0] I J1 (vS (Bb 2 (m := j.1) I I I I I I I ag (Ae H)) I (vS (Au 2 j.1 0 I I I (Ae H) I (y := .V j.2) I) I (Ch (Bd (l := [.V e, .V 0, .N, .V j.2]) Tp I) I (vJ [] I (Bm W2 4 fun F => vJ [4] I (A3 4 0 0 [[.V e, .V 0, .N, .V j.2]] I (vI ?_))))))))
 subst bb
 refine Aa fun y7 bc => ?_
 obtain ⟨p8, ⟨bd, be⟩, h⟩ := Ba h
 refine Hm [.o 4 0, .x 6 p8.1 (Cc p8.2)] I ⟨⟨bd, Ae be⟩, I, J⟩ ?_
 subst bc
 refine Aa fun c0 bf => AW.label ?_
 subst bf
 refine Ah (fun s ob => ∃ (f : Int × (List Hop) × Int) (G : Value), L1.J1 a e j f = some r ∧ s = [] ∧ ob = [Wp w [[Q1 a.n_.Nodes, Q5 a.n_.Segments, Q4 a.n_.Ports, Q3 a.n_.Stations, .V a.n_.Vapour, .V a.n_.Settle, .v w0_0, .v w0_1]], U0 w0_0 a.rates, U0 w0_1 a.ports, O3 E [W2], O3 F [[.V e, .V f.1, .v G, .V f.2.2]], U6 G f.2.1]) (K4 0 1 4 5) J4 ?_ ?_
 refine vN (vP (A7 107 2) ?_)
 obtain ⟨c1, bg, ar⟩ := Ac h
 refine Bo bg (K4 0 1 4 5) J4 (fun (b : (List Hop) × Int × Int) s ob => ∃ (i : Value), s = [(6, .V b.2.2)] ∧ ob = [Wp w [[Q1 a.n_.Nodes, Q5 a.n_.Segments, Q4 a.n_.Ports, Q3 a.n_.Stations, .V a.n_.Vapour, .V a.n_.Settle, .v w0_0, .v w0_1]], U0 w0_0 a.rates, U0 w0_1 a.ports, O3 E [W2], O3 F [[.V e, .V 0, .v i, .V b.2.1]], U6 i b.1]) ⟨nS, I2⟩ ⟨I, J⟩ (pk N6) ?_
 rintro b au s ob ⟨i, rfl, rfl⟩ h av
 unfold L1.B4 at h
 refine vN (Ah (fun s ob => ∃ (aw : Unit), L1.J5 a b aw = some au ∧ s = [] ∧ ob = [Wp w [[Q1 a.n_.Nodes, Q5 a.n_.Segments, Q4 a.n_.Ports, Q3 a.n_.Stations, .V a.n_.Vapour, .V a.n_.Settle, .v w0_0, .v w0_1]], U0 w0_0 a.rates, U0 w0_1 a.ports, O3 E [W2], O3 F [[.V e, .V 0, .v i, .V b.2.1]], U6 i b.1]) (K5 0 1 4 5 6) J5 ?_ ?_)
 refine Bl [.o 4 0, .l 5 (a.n_.Ports.length : Int)] I ⟨A8, I, J⟩ (vN (Cu 38 I fun bh => ?_))
 obtain ⟨c2, bi, ax⟩ := Ac h
 refine Cv bi (K7 0 1 4 5 6 38 39) J7 (fun (M : Nat) (ay : Unit) s ob => s = [(40, .V (M : Int))] ∧ ob = [Wp w [[Q1 a.n_.Nodes, Q5 a.n_.Segments, Q4 a.n_.Ports, Q3 a.n_.Stations, .V a.n_.Vapour, .V a.n_.Settle, .v w0_0, .v w0_1]], U0 w0_0 a.rates, U0 w0_1 a.ports, O3 E [W2], O3 F [[.V e, .V 0, .v i, .V b.2.1]], U6 i b.1]) ⟨I, I⟩ ⟨I, J⟩ (pk N6) ?_ ?_
 rintro M ah ay bj s ob bk az ⟨rfl, rfl⟩ h bl
 unfold L1.B10 at h
 have bm := Df az
 refine Aj I (Aa fun c3 bn => Cl I bm (vL ?_))
 subst bn
 refine vM (vN (Aa fun c4 bo => vH (Al 3 [.x 1 M (Cc ah)] I ⟨⟨I, Ae bk⟩, J⟩ (vJ [] I (Bm W6 3 fun c5 => Af 1 I (vJ [6] I (A3 6 0 0 [Cc ah] I (vI ?_))))))))
 subst bo
 refine Ah (fun s ob => ∃ (ai : Bool), L1.J11 a b M ai = some bj ∧ s = [(58, .v (.bool ai))] ∧ ob = [Wp w [[Q1 a.n_.Nodes, Q5 a.n_.Segments, Q4 a.n_.Ports, Q3 a.n_.Stations, .V a.n_.Vapour, .V a.n_.Settle, .v w0_0, .v w0_1]], U0 w0_0 a.rates, U0 w0_1 a.ports, O3 E [W2], O3 F [[.V e, .V 0, .v i, .V b.2.1]], U6 i b.1]) (K9 0 1 4 5 6 7 38 39 40) J9 ?_ ?_
 refine vH (Al 5 [.o 1 6] I J1 ?_)
 rcases bt ((ah.Node == b.2.2)) with Z | Z
 have h := B0 Z h
 obtain ⟨ac, ⟨bp, a0⟩, h⟩ := Ba h
 exact Ad 49 I Z (Al 5 [.o 3 0] I J1 (Bf I I I (vS (Bb 2 (m := ac.1) I I I I I I I bp (Ae a0)) I (Bf I I I (vS (Au 2 ac.1 0 I I I (Ae a0) I (y := .V ac.2) I) I (Af 2 I (vI (lg ⟨decide (ac.2 < 0), h, I2⟩ N6))))))))
 have h := B8 Z h
 exact Ad 49 I Z (Af 9 I (vI (lg ⟨false, h, I2⟩ N6)))
 rintro s ob ⟨ai, h, rfl, rfl⟩
 refine Ao h I ?_ ?_
 intro bq h
 refine vM ?_
 obtain ⟨S, ⟨br, aj⟩, h⟩ := Ba h
 refine Bw 2 S.1 I aj fun bs => Bi (.still 0 (.still 1 (sl 8 3 (.act 2 (.still 11 (.still 12 (.act 13 (.still 14 (.act 15 .nil))))))))) [0, 2] [_, _] I (Br 7 [.o 5 0] I J1 (vX I (Aq (m := S.1) I I I I I bs I br aj) I (AP.o I (Au 1 S.1 0 I I I (Ae aj) I (y := .V S.2) I) I (A9 1 I (vK [] I I I (Ay (Bv 4 0 3 I I I I I (y := .V b.2.1) I) dS (A9 2 I (vK [4] I I I (A3 4 0 1 [[.V e, .V (M : Int), .v i, .V b.2.1]] I (A9 1 I (vK [4] I I I (A3 4 0 3 [[.V e, .V (M : Int), .v i, .V (min b.2.1 (wr (0 - S.2)))]] I (An (vI ?_))))))))))))))
 obtain rfl := bl _ (oi h).symm
 have h := ax
 have h := Do h
 obtain rfl := av _ (oi h).symm
 have h := ar
 exact vQ (lg ⟨((M : Int), b.1, (min b.2.1 (wr (0 - S.2)))), i, h, I2⟩ N6)
 intro bq h
 refine vL (vH (Al 2 [.k 0 (M + 1 : Nat)] I ⟨Bj az bh, J⟩ ?_))
 cases io h
 exact vI ⟨_, _, _, I, I2, J8, pk N6⟩
 rintro ay s ob ⟨rfl, rfl⟩ he
 subst he
 have h := Dn ax
 have bu := Dg a.n_.Ports.length
 exact Aj I (Aa fun c6 c7 => Cm I bu (vQ (lg ⟨(), h, I2⟩ N6)))
 rintro s ob ⟨aw, h, rfl, rfl⟩
 unfold L1.J5 at h
 refine Ah (fun s ob => ∃ (a1 : Unit), L1.J6 b a1 = some au ∧ s = [] ∧ ob = [Wp w [[Q1 a.n_.Nodes, Q5 a.n_.Segments, Q4 a.n_.Ports, Q3 a.n_.Stations, .V a.n_.Vapour, .V a.n_.Settle, .v w0_0, .v w0_1]], U0 w0_0 a.rates, U0 w0_1 a.ports, O3 E [W2], O3 F [[.V e, .V 0, .v i, .V b.2.1]], U6 i b.1]) (K4 0 1 4 5) J4 ?_ ?_
 refine Bl [.o 4 0, .l 5 (a.n_.Segments.length : Int)] I ⟨A8, I, J⟩ (vN (Cu 78 I fun bv => ?_))
 obtain ⟨c8, bw, ak⟩ := Ac h
 refine Cv bw (K6 0 1 4 5 78 79) J6 (fun (A : Nat) (a2 : Unit) s ob => s = [(80, .V (A : Int)), (6, .V b.2.2)] ∧ ob = [Wp w [[Q1 a.n_.Nodes, Q5 a.n_.Segments, Q4 a.n_.Ports, Q3 a.n_.Stations, .V a.n_.Vapour, .V a.n_.Settle, .v w0_0, .v w0_1]], U0 w0_0 a.rates, U0 w0_1 a.ports, O3 E [W2], O3 F [[.V e, .V 0, .v i, .V b.2.1]], U6 i b.1]) ⟨I, I⟩ ⟨I, I, J⟩ (pk N6) ?_ ?_
 rintro A O a2 a3 s ob bx a4 ⟨rfl, rfl⟩ h a5
 have b1 := Df a4
 refine Aj I (Aa fun c9 b3 => Cl I b1 (vL ?_))
 subst b3
 refine vM (vN (Aa fun da b4 => vH (Al 3 [.x 1 A (Ap O)] I ⟨⟨I, Ae bx⟩, J⟩ (vJ [] I (Bm W4 7 fun db => Af 1 I (vJ [6] I (A3 6 0 0 [Ap O] I (vI ?_))))))))
 subst b4
 refine Aa fun dc b5 => ?_
 obtain ⟨g, ⟨b7, al⟩, h⟩ := Ba h
 refine Bw 1 g.1 I al fun b8 => Bi (pd 14 0 []) [6, 0, 1] [_, _, _] I (Br 9 [.o 1 0, .o 3 0, .o 7 1] I J3 (vX I (Aq (m := g.1) I I I I I b8 I b7 al) I (AP.o I (Au 2 g.1 0 I I I (Ae al) I (y := .V g.2) I) I (A9 3 I (An (vI ?_))))))
 subst b5
 refine D2 102 (decide (g.2 > 0) && (O.From == b.2.2)) ?_ ?_
 refine vH (Af 3 I ?_)
 rcases bt (decide (g.2 > 0)) with aa | aa
 exact Ad 98 I aa (Af 4 I (vI (jf (by simp only [aa, bz]) I I I2)))
 exact Ad 98 I aa (Af 4 I (vI (jf (by simp only [aa, bz]) I I I2)))
 refine Ao h I ?_ ?_
 intro b9 h
 refine Ah (fun s ob => ∃ (am : List Hop) (ad : Value), L1.J8 b O g am = some a3 ∧ s = [(6, .V O.To)] ∧ ob = [Wp w [[Q1 a.n_.Nodes, Q5 a.n_.Segments, Q4 a.n_.Ports, Q3 a.n_.Stations, .V a.n_.Vapour, .V a.n_.Settle, .v w0_0, .v w0_1]], U0 w0_0 a.rates, U0 w0_1 a.ports, O3 E [W2], O3 F [[.V e, .V 0, .v ad, .V (min b.2.1 g.2)]], U6 ad am]) (K4 0 1 4 5) J4 ?_ ?_
 obtain ⟨ca, P, h⟩ := Ac h
 refine Bi (.still 0 (.still 2 (.still 3 (.still 6 (.still 8 (.still 10 (.three 1 4 7 (.two 4 7 rC (.still 9 (.act 4 (.act 5 Uc)))) (.two 1 7 rC (.still 9 (.act 1 (.act 5 Uc)))) (.still 9 (.two 1 4 (.act 4 (.act 5 Uc)) (.act 1 (.act 5 Uc))))))))))) [] [] I (A9 2 I (vX I (Bd (l := [.V (A : Int), .v (.bool false)]) Hw I) I (A9 3 I (AP.three ?_ ?_ ?_))))
 refine vK [] I I I (Ay (Bv 4 0 2 I I I I I (y := .v i) I) dS (vY ?_ ?_))
 refine vK [] I I I (vR 2 (([(⟨(A : Int), false⟩ : Hop)] : List Hop).map Cb) (vY ?_ ?_))
 refine vK [5] I I I (vV 5 I P fun n => vK [] I I I (Ay (Bv 4 0 3 I I I I I (y := .V b.2.1) I) dS (A9 2 I (wA 5 I fun B => vK [4] I I I (vT 4 0 2 (es' := [[.V e, .V 0, .v n, .V b.2.1]]) I I I I I I (A6 B) I (A4 I) I I (A9 1 I (vK [4] I I I (A3 4 0 3 [[.V e, .V 0, .v n, .V (min b.2.1 g.2)]] I (A9 1 I (An (vI ?_)))))))))))
 rotate_left
 refine vK [] I I I (Ay (Bv 4 0 3 I I I I I (y := .V b.2.1) I) dS (A9 1 I (vK [5] I I I (vV 5 I P fun n => A9 1 I (wA 5 I fun B => vK [4] I I I (vT 4 0 2 (es' := [[.V e, .V 0, .v n, .V b.2.1]]) I I I I I I (A6 B) I (A4 I) I I (A9 1 I (vK [4] I I I (A3 4 0 3 [[.V e, .V 0, .v n, .V (min b.2.1 g.2)]] I (A9 1 I (An (vI ?_))))))))))))
 rotate_left
 refine vK [] I I I (Ay (Bv 4 0 3 I I I I I (y := .V b.2.1) I) dS (A9 1 I (vK [] I I I (vR 2 (([(⟨(A : Int), false⟩ : Hop)] : List Hop).map Cb) (vK [5] I I I (vV 5 I P fun n => A9 1 I (wA 5 I fun B => vK [4] I I I (vT 4 0 2 (es' := [[.V e, .V 0, .v n, .V b.2.1]]) I I I I I I (A6 B) I (A4 I) I I (A9 1 I (vK [4] I I I (A3 4 0 3 [[.V e, .V 0, .v n, .V (min b.2.1 g.2)]] I (A9 1 I (An (vI ?_))))))))))))))
 rotate_left
 refine vK [] I I I (vR 2 (([(⟨(A : Int), false⟩ : Hop)] : List Hop).map Cb) (vY ?_ ?_))
 refine vK [] I I I (Ay (Bv 4 0 2 I I I I I (y := .v i) I) dS (vY ?_ ?_))
 refine vK [5] I I I (vV 5 I P fun n => vK [] I I I (Ay (Bv 4 0 3 I I I I I (y := .V b.2.1) I) dS (A9 2 I (wA 5 I fun B => vK [4] I I I (vT 4 0 2 (es' := [[.V e, .V 0, .v n, .V b.2.1]]) I I I I I I (A6 B) I (A4 I) I I (A9 1 I (vK [4] I I I (A3 4 0 3 [[.V e, .V 0, .v n, .V (min b.2.1 g.2)]] I (A9 1 I (An (vI ?_)))))))))))
 rotate_left
 refine vK [] I I I (Ay (Bv 4 0 3 I I I I I (y := .V b.2.1) I) dS (A9 1 I (vK [5] I I I (vV 5 I P fun n => A9 1 I (wA 5 I fun B => vK [4] I I I (vT 4 0 2 (es' := [[.V e, .V 0, .v n, .V b.2.1]]) I I I I I I (A6 B) I (A4 I) I I (A9 1 I (vK [4] I I I (A3 4 0 3 [[.V e, .V 0, .v n, .V (min b.2.1 g.2)]] I (A9 1 I (An (vI ?_))))))))))))
 rotate_left
 refine vK [] I I I (Ay (Bv 4 0 3 I I I I I (y := .V b.2.1) I) dS (A9 1 I (vK [] I I I (Ay (Bv 4 0 2 I I I I I (y := .v i) I) dS (vK [5] I I I (vV 5 I P fun n => A9 1 I (wA 5 I fun B => vK [4] I I I (vT 4 0 2 (es' := [[.V e, .V 0, .v n, .V b.2.1]]) I I I I I I (A6 B) I (A4 I) I I (A9 1 I (vK [4] I I I (A3 4 0 3 [[.V e, .V 0, .v n, .V (min b.2.1 g.2)]] I (A9 1 I (An (vI ?_))))))))))))))
 rotate_left
 refine vK [] I I I (Ay (Bv 4 0 3 I I I I I (y := .V b.2.1) I) dS (A9 1 I (vY ?_ ?_)))
 refine vK [] I I I (Ay (Bv 4 0 2 I I I I I (y := .v i) I) dS (vK [] I I I (vR 2 (([(⟨(A : Int), false⟩ : Hop)] : List Hop).map Cb) (vK [5] I I I (vV 5 I P fun n => A9 1 I (wA 5 I fun B => vK [4] I I I (vT 4 0 2 (es' := [[.V e, .V 0, .v n, .V b.2.1]]) I I I I I I (A6 B) I (A4 I) I I (A9 1 I (vK [4] I I I (A3 4 0 3 [[.V e, .V 0, .v n, .V (min b.2.1 g.2)]] I (A9 1 I (An (vI ?_)))))))))))))
 rotate_left
 refine vK [] I I I (vR 2 (([(⟨(A : Int), false⟩ : Hop)] : List Hop).map Cb) (vK [] I I I (Ay (Bv 4 0 2 I I I I I (y := .v i) I) dS (vK [5] I I I (vV 5 I P fun n => A9 1 I (wA 5 I fun B => vK [4] I I I (vT 4 0 2 (es' := [[.V e, .V 0, .v n, .V b.2.1]]) I I I I I I (A6 B) I (A4 I) I I (A9 1 I (vK [4] I I I (A3 4 0 3 [[.V e, .V 0, .v n, .V (min b.2.1 g.2)]] I (A9 1 I (An (vI ?_)))))))))))))
 any_goals
  exact lg ⟨ca, n, h, I2⟩ N6
 rintro s ob ⟨am, ad, h, rfl, rfl⟩
 unfold L1.J8 at h
 obtain rfl := a5 _ (oi h).symm
 have h := ak
 have h := Do h
 cases io h
 refine vQ ?_
 exact ⟨_, _, _, I, ⟨ad, I2⟩, J5, pk N6⟩
 intro b9 h
 refine D2 122 (decide (g.2 < 0) && (O.To == b.2.2)) ?_ ?_
 refine vH (Af 3 I ?_)
 rcases bt (decide (g.2 < 0)) with ab | ab
 exact Ad 118 I ab (Af 4 I (vI (jf (by simp only [ab, bz]) I I I2)))
 exact Ad 118 I ab (Af 4 I (vI (jf (by simp only [ab, bz]) I I I2)))
 refine Ao h I ?_ ?_
 intro cb h
 refine Ah (fun s ob => ∃ (an : List Hop) (ae : Value), L1.J9 b O g an = some a3 ∧ s = [(6, .V O.From)] ∧ ob = [Wp w [[Q1 a.n_.Nodes, Q5 a.n_.Segments, Q4 a.n_.Ports, Q3 a.n_.Stations, .V a.n_.Vapour, .V a.n_.Settle, .v w0_0, .v w0_1]], U0 w0_0 a.rates, U0 w0_1 a.ports, O3 E [W2], O3 F [[.V e, .V 0, .v ae, .V (min b.2.1 (wr (0 - g.2)))]], U6 ae an]) (K4 0 1 4 5) J4 ?_ ?_
 obtain ⟨cc, Q, h⟩ := Ac h
 refine Bi (.still 0 (.still 2 (.still 3 (.still 6 (.still 8 (.still 9 (.still 11 (.three 1 4 7 (.two 4 7 rF (.still 10 (.act 4 (.act 5 Ua)))) (.two 1 7 rF (.still 10 (.act 1 (.act 5 Ua)))) (.still 10 (.two 1 4 (.act 4 (.act 5 Ua)) (.act 1 (.act 5 Ua)))))))))))) [] [] I (A9 2 I (vX I (Bd (l := [.V (A : Int), .v (.bool true)]) Hw I) I (A9 4 I (AP.three ?_ ?_ ?_))))
 refine vK [] I I I (Ay (Bv 4 0 2 I I I I I (y := .v i) I) dS (vY ?_ ?_))
 refine vK [] I I I (vR 2 (([(⟨(A : Int), true⟩ : Hop)] : List Hop).map Cb) (vY ?_ ?_))
 refine vK [5] I I I (vV 5 I Q fun t => vK [] I I I (Ay (Bv 4 0 3 I I I I I (y := .V b.2.1) I) dS (A9 2 I (wA 5 I fun D => vK [4] I I I (vT 4 0 2 (es' := [[.V e, .V 0, .v t, .V b.2.1]]) I I I I I I (A6 D) I (A4 I) I I (A9 1 I (vK [4] I I I (A3 4 0 3 [[.V e, .V 0, .v t, .V (min b.2.1 (wr (0 - g.2)))]] I (A9 1 I (An (vI ?_)))))))))))
 rotate_left
 refine vK [] I I I (Ay (Bv 4 0 3 I I I I I (y := .V b.2.1) I) dS (A9 1 I (vK [5] I I I (vV 5 I Q fun t => A9 1 I (wA 5 I fun D => vK [4] I I I (vT 4 0 2 (es' := [[.V e, .V 0, .v t, .V b.2.1]]) I I I I I I (A6 D) I (A4 I) I I (A9 1 I (vK [4] I I I (A3 4 0 3 [[.V e, .V 0, .v t, .V (min b.2.1 (wr (0 - g.2)))]] I (A9 1 I (An (vI ?_))))))))))))
 rotate_left
 refine vK [] I I I (Ay (Bv 4 0 3 I I I I I (y := .V b.2.1) I) dS (A9 1 I (vK [] I I I (vR 2 (([(⟨(A : Int), true⟩ : Hop)] : List Hop).map Cb) (vK [5] I I I (vV 5 I Q fun t => A9 1 I (wA 5 I fun D => vK [4] I I I (vT 4 0 2 (es' := [[.V e, .V 0, .v t, .V b.2.1]]) I I I I I I (A6 D) I (A4 I) I I (A9 1 I (vK [4] I I I (A3 4 0 3 [[.V e, .V 0, .v t, .V (min b.2.1 (wr (0 - g.2)))]] I (A9 1 I (An (vI ?_))))))))))))))
 rotate_left
 refine vK [] I I I (vR 2 (([(⟨(A : Int), true⟩ : Hop)] : List Hop).map Cb) (vY ?_ ?_))
 refine vK [] I I I (Ay (Bv 4 0 2 I I I I I (y := .v i) I) dS (vY ?_ ?_))
 refine vK [5] I I I (vV 5 I Q fun t => vK [] I I I (Ay (Bv 4 0 3 I I I I I (y := .V b.2.1) I) dS (A9 2 I (wA 5 I fun D => vK [4] I I I (vT 4 0 2 (es' := [[.V e, .V 0, .v t, .V b.2.1]]) I I I I I I (A6 D) I (A4 I) I I (A9 1 I (vK [4] I I I (A3 4 0 3 [[.V e, .V 0, .v t, .V (min b.2.1 (wr (0 - g.2)))]] I (A9 1 I (An (vI ?_)))))))))))
 rotate_left
 refine vK [] I I I (Ay (Bv 4 0 3 I I I I I (y := .V b.2.1) I) dS (A9 1 I (vK [5] I I I (vV 5 I Q fun t => A9 1 I (wA 5 I fun D => vK [4] I I I (vT 4 0 2 (es' := [[.V e, .V 0, .v t, .V b.2.1]]) I I I I I I (A6 D) I (A4 I) I I (A9 1 I (vK [4] I I I (A3 4 0 3 [[.V e, .V 0, .v t, .V (min b.2.1 (wr (0 - g.2)))]] I (A9 1 I (An (vI ?_))))))))))))
 rotate_left
 refine vK [] I I I (Ay (Bv 4 0 3 I I I I I (y := .V b.2.1) I) dS (A9 1 I (vK [] I I I (Ay (Bv 4 0 2 I I I I I (y := .v i) I) dS (vK [5] I I I (vV 5 I Q fun t => A9 1 I (wA 5 I fun D => vK [4] I I I (vT 4 0 2 (es' := [[.V e, .V 0, .v t, .V b.2.1]]) I I I I I I (A6 D) I (A4 I) I I (A9 1 I (vK [4] I I I (A3 4 0 3 [[.V e, .V 0, .v t, .V (min b.2.1 (wr (0 - g.2)))]] I (A9 1 I (An (vI ?_))))))))))))))
 rotate_left
 refine vK [] I I I (Ay (Bv 4 0 3 I I I I I (y := .V b.2.1) I) dS (A9 1 I (vY ?_ ?_)))
 refine vK [] I I I (Ay (Bv 4 0 2 I I I I I (y := .v i) I) dS (vK [] I I I (vR 2 (([(⟨(A : Int), true⟩ : Hop)] : List Hop).map Cb) (vK [5] I I I (vV 5 I Q fun t => A9 1 I (wA 5 I fun D => vK [4] I I I (vT 4 0 2 (es' := [[.V e, .V 0, .v t, .V b.2.1]]) I I I I I I (A6 D) I (A4 I) I I (A9 1 I (vK [4] I I I (A3 4 0 3 [[.V e, .V 0, .v t, .V (min b.2.1 (wr (0 - g.2)))]] I (A9 1 I (An (vI ?_)))))))))))))
 rotate_left
 refine vK [] I I I (vR 2 (([(⟨(A : Int), true⟩ : Hop)] : List Hop).map Cb) (vK [] I I I (Ay (Bv 4 0 2 I I I I I (y := .v i) I) dS (vK [5] I I I (vV 5 I Q fun t => A9 1 I (wA 5 I fun D => vK [4] I I I (vT 4 0 2 (es' := [[.V e, .V 0, .v t, .V b.2.1]]) I I I I I I (A6 D) I (A4 I) I I (A9 1 I (vK [4] I I I (A3 4 0 3 [[.V e, .V 0, .v t, .V (min b.2.1 (wr (0 - g.2)))]] I (A9 1 I (An (vI ?_)))))))))))))
 any_goals
  exact lg ⟨cc, t, h, I2⟩ N6
 rintro s ob ⟨an, ae, h, rfl, rfl⟩
 unfold L1.J9 at h
 obtain rfl := a5 _ (oi h).symm
 have h := ak
 have h := Do h
 cases io h
 refine vQ ?_
 exact ⟨_, _, _, I, ⟨ae, I2⟩, J5, pk N6⟩
 intro cb h
 refine vL (vH (Al 2 [.k 0 (A + 1 : Nat)] I ⟨Bj a4 bv, J⟩ ?_))
 cases io h
 exact vI ⟨_, _, _, I, I2, J8, pk N6⟩
 rintro a2 s ob ⟨rfl, rfl⟩ he
 subst he
 have h := Dn ak
 have cd := Dg a.n_.Segments.length
 exact Aj I (Aa fun dd de => Cm I cd (vQ (lg ⟨(), h, I2⟩ N6)))
 rintro s ob ⟨a1, h, rfl, rfl⟩
 unfold L1.J6 at h
 obtain rfl := av _ (oi h).symm
 have h := ar
 exact vQ (lg ⟨(0, b.1, b.2.1), i, h, I2⟩ N6)
 rintro s ob ⟨f, G, h, rfl, rfl⟩
 refine Aa fun df ce => Bw 2 j.1 I H fun cf => Bw 2 j.1 I H fun cg => Bi jZ [0, 2, 4] [_, _, _] I (Br 5 [.o 3 0] I J1 (vX I (Aq (m := j.1) I I I I I cf I ag H) I (AP.o I (Au 1 j.1 0 I I I (Ae H) I (y := .V j.2) I) I (Br 3 [.o 1 2] I J1 (vX I (Aq (m := j.1) I I I I I cg I ag H) I (vZ [2] I I I (Bg 2 j.1 0 I I I (Ae H) I I I I (A4 I) I (Ci (x := wr (j.2 - f.2.2)) I) (An (vI ?_)))))))))
 subst ce
 refine Aa fun dg ci => ?_
 obtain ⟨u, ⟨a6, U⟩, h⟩ := Ba h
 refine Bw 2 u.1 I U fun cj => Bw 2 u.1 I U fun ck => Bi (sl 12 0 (.drop 12 .nil)) [0, 4, 2] [_, _, _] I (Br 6 [.o 3 0, .o 5 1] I J2 (vX I (Aq (m := u.1) I I I I I cj I a6 U) I (AP.o I (Au 2 u.1 0 I I I (Ae U) I (y := .V u.2) I) I (Br 3 [.o 1 1] I J1 (vX I (Aq (m := u.1) I I I I I ck I a6 U) I (vZ [2] I I I (Bg 2 u.1 0 I I I (Ae U) I I I I (A4 I) I (Ci (x := wr (u.2 + f.2.2)) I) (An (vI ?_)))))))))
 subst ci
 refine Ah (fun s ob => ∃ (W : Li), L1.J2 a e j f u W = some r ∧ s = [] ∧ ob = [Wp w [[Q1 a.n_.Nodes, Q5 a.n_.Segments, Q4 a.n_.Ports, Q3 a.n_.Stations, .V a.n_.Vapour, .V a.n_.Settle, .v w0_0, .v w0_1]], U0 w0_0 W, .us w0_1 3 1 (((a.ports.set j.1 (wr (j.2 - f.2.2))).set u.1 (wr (u.2 + f.2.2))).map rI), O3 E [W2], O3 F [[.V e, .V f.1, .v G, .V f.2.2]], U6 G f.2.1]) (K2 4 5) J2 ?_ ?_
 refine Aa fun dh cl => vH (Al 2 [.o 1 4] I J1 (vS (By 5 I I I I) I (Af 1 I (vI ?_))))
 subst cl
 refine vN (P1 5 I fun cm => ?_)
 obtain ⟨di, cn, co⟩ := Ac h
 refine Ib cn (K5 0 4 5 162 163) J5 (fun (ao : Nat) (af : Li) s ob => s = [(164, .V (ao : Int))] ∧ ob = [Wp w [[Q1 a.n_.Nodes, Q5 a.n_.Segments, Q4 a.n_.Ports, Q3 a.n_.Stations, .V a.n_.Vapour, .V a.n_.Settle, .v w0_0, .v w0_1]], U0 w0_0 af, .us w0_1 3 1 (((a.ports.set j.1 (wr (j.2 - f.2.2))).set u.1 (wr (u.2 + f.2.2))).map rI), O3 E [W2], O3 F [[.V e, .V f.1, .v G, .V f.2.2]], U6 G f.2.1]) ⟨I, I⟩ ⟨I, J⟩ (pk N6) ?_ ?_
 rintro ao af dj s ob a7 ⟨rfl, rfl⟩ h
 have cp := Df a7
 refine Aj I (Aa fun dk cq => Cl I cp (vL ?_))
 subst cq
 refine vM (vN (Aa fun dl cr => ?_))
 obtain ⟨X, ⟨ct, a8⟩, h⟩ := Ba h
 refine vH (vS (Bb 5 (m := X.1) I I I I I I I ct (Ae a8)) I (vS (Au 5 X.1 0 I I I (Ae a8) I (y := .agg (Cb X.2)) I) I (vJ [] I (Bm [.V 0, .v (.bool false)] 2 fun dm => vJ [6] I (A3 6 0 0 [Cb X.2] I (vI ?_))))))
 subst cr
 obtain ⟨R, ⟨a9, Y⟩, h⟩ := Ba h
 refine Bw 1 R.1 I Y fun cu => Bw 1 R.1 I Y fun cv => Bi (sl 11 0 (.act 11 (.still 12 (.still 13 (.drop 14 .nil))))) [0, 6, 1, 4] [_, _, _, _] I (Br 6 [.o 3 0, .o 5 1] I J2 (vX I (Aq (m := R.1) I I I I I cu I a9 Y) I (AP.o I (Au 2 R.1 0 I I I (Ae Y) I (y := .V R.2) I) I (Br 3 [.o 0 1, .o 2 3] I J2 (wE I (Vw X.2 f.2.2 _ I) (A9 1 I (vX I (Aq (m := R.1) I I I I I cv I a9 Y) I (vZ [1] I I I (Bg 1 R.1 0 I I I (Ae Y) I I I I (A4 I) I (Ci (x := wr (R.2 - (Lp X.2 f.2.2))) I) (An (vI ?_)))))))))))
 refine vH (Al 2 [.k 0 (ao + 1 : Nat)] I ⟨Bj a7 cm, J⟩ ?_)
 cases io h
 exact vI (lg I2 N6)
 rintro af s ob ⟨rfl, rfl⟩ he
 subst he
 have h := co
 have cw := Dg f.2.1.length
 exact Aj I (Aa fun dn dp => Cm I cw (vQ (lg ⟨af, h, I2⟩ N6)))
 rintro s ob ⟨W, h, rfl, rfl⟩
 refine vM (vH (Al 1 [.o 0 4] I J1 (vJ [3] I (A3 3 0 0 [[.V e, .V f.1, .v G, .V f.2.2]] I (vI (vP (Av [5] (K := [U6 G f.2.1]) I [] J (ob' := [Wp w [[Q1 a.n_.Nodes, Q5 a.n_.Segments, Q4 a.n_.Ports, Q3 a.n_.Stations, .V a.n_.Vapour, .V a.n_.Settle, .v w0_0, .v w0_1]], U0 w0_0 W, .us w0_1 3 1 (((a.ports.set j.1 (wr (j.2 - f.2.2))).set u.1 (wr (u.2 + f.2.2))).map rI), O3 E [[.V e, .V f.1, Q7 f.2.1, .V f.2.2]], O3 F [[.V e, .V f.1, .v G, .V f.2.2]]]) (.cons (.same _) (.cons (.same _) (.cons (.same _) (.cons (.arr (.cons (.refl _) (.cons (.refl _) (.cons (.us 0 I) (.rest _))))) (.rest _)))))) (Cd N4 I ?_)))))))
 obtain rfl := oi h
 exact vO ⟨.inr I, [_], [Wp w [[Q1 a.n_.Nodes, Q5 a.n_.Segments, Q4 a.n_.Ports, Q3 a.n_.Stations, .V a.n_.Vapour, .V a.n_.Settle, .v w0_0, .v w0_1]], U0 w0_0 W, .us w0_1 3 1 (((a.ports.set j.1 (wr (j.2 - f.2.2))).set u.1 (wr (u.2 + f.2.2))).map rI)], ⟨⟨3, _, _, _, _, _, _, _, I5⟩, J⟩, Cy I (Cy I (Cy I (Cf))), ⟨[Wp w [[Q1 a.n_.Nodes, Q5 a.n_.Segments, Q4 a.n_.Ports, Q3 a.n_.Stations, .V a.n_.Vapour, .V a.n_.Settle, .v w0_0, .v w0_1]], U0 w0_0 W, .us w0_1 3 1 (((a.ports.set j.1 (wr (j.2 - f.2.2))).set u.1 (wr (u.2 + f.2.2))).map rI)], [], I, I, w0_0, w0_1, I3⟩⟩
theorem Vj (b : Nw) (K : Plan) (r : (List Path) × Int) (h : Jj b K = some r) : ACalls Ai 48 [.agg (Ab b), .agg (Ak K)] [] (fun x new => ∃ (R : Value), x = .tup [.v R, .V r.2] ∧ new = [U3 R r.1]) := by
 refine Ag Tryz.func48 I I I fun C hC => ?_
 refine Aa fun y1 Z => vH (vJ [] I (Bh (Ab b) 6 fun b2 => vJ [] I (Bh (Ak K) 3 fun b3 => Af 2 I (vI ?_))))
 subst Z
 refine Aa fun y4 aa => vM ?_
 obtain ⟨r5, ab, h⟩ := Ac h
 refine vH (Al 1 [.o 0 0] I J1 (vU (Kw _ _ ab) (Af 1 I (vI (Aj I (Ao h I ?_ ?_))))))
 intro ac h
 refine Aj I (vP (A7 52 4) (Cd [2] I ?_))
 cases io h
 exact vO ⟨.inr I, [_, _], [.us nS 52 4 ([].map Az)], J2, Cy I (Cf), ⟨nS, I2⟩⟩
 intro ac h
 refine vL ?_
 subst aa
 refine Aa fun y8 ad => vM ?_
 obtain ⟨r9, ae, h⟩ := Ac h
 refine vH (Al 2 [.o 0 0, .o 1 1] I J2 (vU (Ij _ _ _ ae) (Af 1 I (vI (Aj I (Ao h I ?_ ?_))))))
 intro af h
 refine Aj I (vP (A7 52 4) (Cd [2] I ?_))
 cases io h
 exact vO ⟨.inr I, [_, _], [.us nS 52 4 ([].map Az)], J2, Cy I (Cf), ⟨nS, I2⟩⟩
 intro af h
 refine vL ?_
 subst ad
 refine Aa fun bf ag => ?_
 obtain ⟨bg, ah, h⟩ := Ac h
 obtain ⟨ai, aj, h⟩ := Ac h
 refine Bi (sl 3 0 (.still 4 (.still 5 (.act 3 (.act 6 (.still 7 (.act 8 (.still 9 .nil)))))))) [0, 1] [_, _] I (Br 5 [.o 0 0, .o 2 1, .o 4 1] I J3 (vK [] I I I (Bp I I I (Vm _ _ ah) dS ?_)))
 rintro _ _ ⟨M, rfl, rfl⟩
 refine vK [] I I I (Bp I I I (Vm _ _ aj) dS ?_)
 rintro _ _ ⟨O, rfl, rfl⟩
 refine wA 2 I fun ak => wA 3 I fun al => Lh I (Bd (l := [Q1 b.Nodes, Q5 b.Segments, Q4 b.Ports, Q3 b.Stations, .V b.Vapour, .V b.Settle, .v M, .v O]) aH (Bu I I I I (Bu I I (A6 ak) I (Bu I I (A6 al) I (Eb))))) I (vK [] I I I (Bh [Q1 b.Nodes, Q5 b.Segments, Q4 b.Ports, Q3 b.Stations, .V b.Vapour, .V b.Settle, .v M, .v O] 8 fun A => A9 1 I (An (vI ?_))))
 subst ag
 refine Aj I (Ah (fun s ob => ∃ (B : List Path) (i : Value), Jj.J1 B = some r ∧ s = [(9, .v i)] ∧ ob = [U3 i B]) [] J ?_ ?_)
 refine Aa fun bh am => vH (Al 4 [.o 3 4] I J1 (vS (By 3 I I I I) I (Af 1 I (vI ?_))))
 subst am
 refine vN (P1 3 I fun an => vP (A7 52 4) ?_)
 obtain ⟨bi, ao, S⟩ := Ac h
 refine Gi ao (K2 8 36) J2 (fun (P : Nat) (e : (List Bt) × (List Sg) × (List Port) × (List Sn) × Int × Int × Li × Li × (List Path)) s ob => ∃ (j : Value) (n : Value) (g : Value), s = [(37, .V (P : Int)), (9, .v g)] ∧ ob = [U0 j e.2.2.2.2.2.2.1, U0 n e.2.2.2.2.2.2.2.1, Wp A [[Q1 e.1, Q5 e.2.1, Q4 e.2.2.1, Q3 e.2.2.2.1, .V e.2.2.2.2.1, .V e.2.2.2.2.2.1, .v j, .v n]], U3 g e.2.2.2.2.2.2.2.2]) ⟨M, O, nS, I2⟩ ⟨I, I, J⟩ (pk [2, 3, 4, 5]) ?_ ?_
 rintro P e aq s ob U ⟨j, n, g, rfl, rfl⟩ h ar
 unfold Jj.B2 at h
 have au := Df U
 refine Aj I (Aa fun bj av => Cl I au (vL ?_))
 subst av
 refine Ah (fun s ob => ∃ (f : (List Bt) × (List Sg) × (List Port) × (List Sn) × Int × Int × Li × Li × (List Path)) (D : Value) (E : Value) (F : Value), Jj.J3 f = some aq ∧ s = [(9, .v F)] ∧ ob = [U0 D f.2.2.2.2.2.2.1, U0 E f.2.2.2.2.2.2.2.1, Wp A [[Q1 f.1, Q5 f.2.1, Q4 f.2.2.1, Q3 f.2.2.2.1, .V f.2.2.2.2.1, .V f.2.2.2.2.2.1, .v D, .v E]], U3 F f.2.2.2.2.2.2.2.2]) (K3 8 36 37) J3 ?_ ?_
 refine vN (Aj I (vN ?_))
 obtain ⟨bk, aw, W⟩ := Ac h
 refine Bo aw (K4 8 10 36 37) J4 (fun (a : (List Bt) × (List Sg) × (List Port) × (List Sn) × Int × Int × Li × Li × (List Path)) s ob => ∃ (t : Value) (u : Value) (G : Value), s = [(9, .v G)] ∧ ob = [U0 t a.2.2.2.2.2.2.1, U0 u a.2.2.2.2.2.2.2.1, Wp A [[Q1 a.1, Q5 a.2.1, Q4 a.2.2.1, Q3 a.2.2.2.1, .V a.2.2.2.2.1, .V a.2.2.2.2.2.1, .v t, .v u]], U3 G a.2.2.2.2.2.2.2.2]) ⟨j, n, g, I2⟩ ⟨I, J⟩ (pk N4) ?_
 rintro a bl s ob ⟨t, u, G, rfl, rfl⟩ h X
 refine Aa fun bm ax => vM ?_
 obtain ⟨Q, ⟨ay, Y⟩, h⟩ := Ba h
 refine vH (Al 5 [.o 3 2] I J1 (vS (Bb 1 (m := Q.1) I I I I I I I ay (Ae Y)) I (vS (Au 1 Q.1 0 I I I (Ae Y) I (y := .V Q.2) I) I (Af 1 I (vI (Ao h I ?_ ?_))))))
 intro az h
 refine vL ?_
 subst ax
 refine vN (Aa fun bn a0 => ?_)
 obtain ⟨H, a1, h⟩ := Ac h
 refine vH (Af 2 I (vJ [2, 0, 1] I (Es [2, 0, 1] (jA A _ t u _ _ a1) ?_)))
 rintro _ _ _ - ⟨a2, a3, rfl, rfl, rfl⟩
 refine vJ [] I (Bm W2 4 fun bo => vJ [4] I (A3 4 0 0 [Az H.1] I (vI ?_)))
 subst a0
 refine vM (D2 59 (((a.2.2.2.2.2.2.2.2.length : Int) == 64) || decide ((H.1.Hops.length : Int) > 32)) ?_ ?_)
 refine vH (Af 1 I (vS (By 3 I I I I) I (Af 2 I ?_)))
 rcases bt (((a.2.2.2.2.2.2.2.2.length : Int) == 64)) with w | w
 exact Ad 54 I w (Af 5 I (vI (jf (by simp only [w, bz]) I I I2)))
 exact Ad 54 I w (Al 5 [.o 1 4, .l 2 (H.1.Hops.length : Int)] I ⟨A8, I, J⟩ (vI (jf (by simp only [w, bz]) I I I2)))
 refine Ao h I ?_ ?_
 intro a4 h
 refine Aj I ?_
 obtain rfl := X _ (oi h).symm
 have h := W
 have h := Dn h
 obtain rfl := ar _ (oi h).symm
 have h := S
 have h := Do h
 refine vP (A7 52 4) (Cd [5] I ?_)
 cases io h
 exact vO ⟨.inr I, [_, _], [.us nS 52 4 ([].map Az)], J2, Cy I (Cf), ⟨nS, I2⟩⟩
 intro a4 h
 refine vL ?_
 obtain ⟨bp, a5, h⟩ := Ac h
 refine vH (Al 2 [.o 1 4] I J1 (vJ [] I (vR 4 (([H.1] : List Path).map Az) (vJ [3] I (vV 3 I a5 fun a6 => Af 1 I ?_)))))
 cases io h
 exact vI ⟨_, _, _, I, ⟨a2, a3, a6, I2⟩, J5, pk N4⟩
 intro az h
 obtain rfl := X _ (oi h).symm
 have h := W
 have h := Do h
 exact vQ (lg ⟨(a.1, a.2.1, a.2.2.1, a.2.2.2.1, a.2.2.2.2.1, a.2.2.2.2.2.1, a.2.2.2.2.2.2.1, a.2.2.2.2.2.2.2.1, a.2.2.2.2.2.2.2.2), t, u, G, h, I2⟩ N4)
 rintro s ob ⟨f, D, E, F, h, rfl, rfl⟩
 unfold Jj.J3 at h
 refine vH (Al 2 [.k 0 (P + 1 : Nat)] I ⟨Bj U an, J⟩ ?_)
 cases io h
 exact vI ⟨_, _, _, I, ⟨D, E, F, I2⟩, J4, pk N4⟩
 rintro e s ob ⟨j, n, g, rfl, rfl⟩ he
 subst he
 have h := Dn S
 have a7 := Dg ai.length
 exact Aj I (Aa fun bq br => Cm I a7 (vQ (lg ⟨e.2.2.2.2.2.2.2.2, g, h, I2⟩ [3])))
 rintro s ob ⟨B, i, h, rfl, rfl⟩
 unfold Jj.J1 at h
 refine Aj I ?_
 cases io h
 exact vO ⟨.inr I, [_, _], [U3 i B], J2, Cy I (Cf), ⟨i, I2⟩⟩
theorem V3 (a : List Hop) (r : List Hop) (h : Lw a = some r) : ACalls Ai 53 [Q7 a] [] (fun x new => ∃ (b : Value), x = .v b ∧ new = [U6 b r]) := by
  refine Ag Tryz.func53 rfl rfl rfl (fun C hC => ?_)
  unfold Lw at h
  obtain ⟨e, d⟩ := Ep h
  refine vM ?_
  refine vH ?_
  refine Ch (wH rfl) rfl ?_
  refine vI ?_
  refine vM ?_
  refine vM ?_
  refine vH ?_
  refine Ch (Yp.move rfl) rfl ?_
  refine vJ [] rfl (S3 rfl rfl rfl (Cn rfl) fun c hc => ?_)
  refine vI ?_
  refine AW.cond rfl rfl ?_ ?_
  · intro hb
    have hs : a = [] := by have := hc hb; simpa using this
    subst hs
    refine vM ?_
    refine vH ?_
    refine Ch (wH rfl) rfl ?_
    refine wD (A7 107 2) ?_
    refine vI ?_
    refine vO ?_
    have hr : r = [] := by simpa using d.symm
    subst hr
    exact ⟨.inr rfl, [_], [.us nS 107 2 ([].map Cb)], ⟨rfl, J⟩, Cy rfl Cf, ⟨_, rfl, rfl⟩⟩
  · intro hb
    refine vL ?_
    refine vM ?_
    refine vH ?_
    refine vJ [] rfl (vW (sz := 2) (es := []) rfl rfl rfl rfl rfl rfl rfl rfl rfl rfl rfl (Cn rfl) fun g => ?_)
    refine Ch (Yp.move rfl) rfl ?_
    refine vJ [0] rfl (F7 0 (es' := r.map Cb) rfl rfl rfl rfl rfl rfl rfl rfl rfl (AppSrc.list rfl) (by simpa using e) (by rw [← d]; simp) (Cn rfl) fun f => ?_)
    refine Ch (wH rfl) rfl ?_
    refine vI ?_
    refine vO ?_
    exact ⟨.inr rfl, [_], [U6 f r], ⟨rfl, J⟩, Cy rfl Cf, ⟨_, rfl, rfl⟩⟩
theorem hN (a : Path) (b : Int) (r : Path) (h : Xh a b = some r) : ACalls Ai 143 [.agg (Az a), .V b] [] (RV (.agg (Az r))) := by
 refine Ag Tryz.func143 I I I fun C hC => ?_
 refine Aa fun k e => vH (vJ [] I (Bh (Az a) 4 fun f => vJ [] I (Bm W2 4 fun g => vI ?_)))
 subst e
 refine vM ?_
 obtain ⟨d, i, h⟩ := Ac h
 refine vH (Al 2 [.o 1 0] I J1 (vJ [] I (Bp I I I (V3 _ _ i) dS ?_)))
 rintro _ _ ⟨c, rfl, rfl⟩
 refine Af 2 I (wC 2 I fun j => vJ [0] I (vT 0 0 2 (es' := [[.V a.In, .V a.Out, .v c, .V a.Rate]]) I I I I I I (A6 j) I (A4 I) I I (Af 1 I (vJ [0] I (A3 0 0 3 [[.V a.In, .V a.Out, .v c, .V b]] I (vI (vM (vH (Al 1 [.o 0 0] I J1 (vJ [1] I (A3 1 0 0 [[.V a.In, .V a.Out, .v c, .V b]] I (vI (vP (Av [2] (K := [U6 c d]) I [] J (ob' := [O3 f [[.V a.In, .V a.Out, .v c, .V b]], O3 g [[.V a.In, .V a.Out, Q7 d, .V b]]]) (.cons (.same _) (.cons (.arr (.cons (.refl _) (.cons (.refl _) (.cons (.us 0 I) (.rest _))))) (.rest _)))) (Cd [1] I ?_))))))))))))))
 cases io h
 exact vO ⟨.inr I, [_], [], ⟨⟨0, _, _, _, _, _, _, _, I5⟩, J⟩, Cf, I2⟩
theorem hZ (a : List Bool) (r : List Bool) (h : Rz a = some r) : ACalls Ai 55 [Q2 a] [] (fun x new => ∃ (b : Value), x = .v b ∧ new = [U1 b r]) := by
  refine Ag Tryz.func55 rfl rfl rfl (fun C hC => ?_)
  unfold Rz at h
  obtain ⟨e, d⟩ := Ep h
  refine vM ?_
  refine vH ?_
  refine Ch (wH rfl) rfl ?_
  refine vI ?_
  refine vM ?_
  refine vM ?_
  refine vH ?_
  refine Ch (Yp.move rfl) rfl ?_
  refine vJ [] rfl (S3 rfl rfl rfl (Cn rfl) fun c hc => ?_)
  refine vI ?_
  refine AW.cond rfl rfl ?_ ?_
  · intro hb
    have hs : a = [] := by have := hc hb; simpa using this
    subst hs
    refine vM ?_
    refine vH ?_
    refine Ch (wH rfl) rfl ?_
    refine wD (A7 4 1) ?_
    refine vI ?_
    refine vO ?_
    have hr : r = [] := by simpa using d.symm
    subst hr
    exact ⟨.inr rfl, [_], [.us nS 4 1 ([].map rB)], ⟨rfl, J⟩, Cy rfl Cf, ⟨_, rfl, rfl⟩⟩
  · intro hb
    refine vL ?_
    refine vM ?_
    refine vH ?_
    refine vJ [] rfl (vW (sz := 1) (es := []) rfl rfl rfl rfl rfl rfl rfl rfl rfl rfl rfl (Cn rfl) fun g => ?_)
    refine Ch (Yp.move rfl) rfl ?_
    refine vJ [0] rfl (F7 0 (es' := r.map rB) rfl rfl rfl rfl rfl rfl rfl rfl rfl (AppSrc.list rfl) (by simpa using e) (by rw [← d]; simp) (Cn rfl) fun f => ?_)
    refine Ch (wH rfl) rfl ?_
    refine vI ?_
    refine vO ?_
    exact ⟨.inr rfl, [_], [U1 f r], ⟨rfl, J⟩, Cy rfl Cf, ⟨_, rfl, rfl⟩⟩
theorem gD (g : Nat) (e : Plan) (w0_0 : Value) (w0_1 : Value) (p : Path) (d : Int) (r : Plan) (h : Wz e p d = some r) : ACalls Ai 93 [.P g, .agg (Az p), .V d] [O1 g [[.v w0_0, .v w0_1, Q2 e.Pumps]], U0 w0_0 e.Rates, U0 w0_1 e.Ports] (E7 3 fun x os new => ∃ (u0_0 : Value) (u0_1 : Value), x = .tup [] ∧ os = [O1 g [[.v u0_0, .v u0_1, Q2 r.Pumps]], U0 u0_0 r.Rates, U0 u0_1 r.Ports] ∧ new = []) := by
 refine Ag Tryz.func93 I I I fun C hC => ?_
 refine Aa fun y1 F => vH (vJ [] I (Bh (Az p) 4 fun b2 => vI ?_))
 subst F
 refine Aa fun y3 G => ?_
 obtain ⟨a, ⟨A, i⟩, h⟩ := Ba h
 refine Bw 2 a.1 I i fun H => Bw 2 a.1 I i fun K => Bi jZ [0, 3, 2] [_, _, _] I (Br 6 [.o 3 0, .o 5 1] I J2 (vX I (Aq (m := a.1) I I I I I H I A i) I (AP.o I (Au 2 a.1 0 I I I (Ae i) I (y := .V a.2) I) I (A9 2 I (vX I (Aq (m := a.1) I I I I I K I A i) I (vZ [2] I I I (Bg 2 a.1 0 I I I (Ae i) I I I I (A4 I) I (Ci (x := wr (a.2 + d)) I) (An (vI ?_)))))))))
 subst G
 refine Aa fun y8 M => ?_
 obtain ⟨b, ⟨B, j⟩, h⟩ := Ba h
 refine Bw 2 b.1 I j fun N => Bw 2 b.1 I j fun O => Bi jZ [0, 3, 2] [_, _, _] I (Br 6 [.o 3 0, .o 5 1] I J2 (vX I (Aq (m := b.1) I I I I I N I B j) I (AP.o I (Au 2 b.1 0 I I I (Ae j) I (y := .V b.2) I) I (A9 2 I (vX I (Aq (m := b.1) I I I I I O I B j) I (vZ [2] I I I (Bg 2 b.1 0 I I I (Ae j) I I I I (A4 I) I (Ci (x := wr (b.2 - d)) I) (An (vI ?_)))))))))
 subst M
 refine Bl [.o 1 3, .l 2 (p.Hops.length : Int)] I ⟨A8, I, J⟩ (vN (Cu 31 I fun P => ?_))
 obtain ⟨af, Q, R⟩ := Ac h
 refine Dm Q (K4 0 2 31 32) J4 (fun (u : Nat) (t : Li) s ob => s = [(33, .V (u : Int))] ∧ ob = [O1 g [[.v w0_0, .v w0_1, Q2 e.Pumps]], U0 w0_0 t, .us w0_1 3 1 (((e.Ports.set a.1 (wr (a.2 + d))).set b.1 (wr (b.2 - d))).map rI)]) ⟨I, I⟩ ⟨I, J⟩ (pk N3) ?_ ?_
 rintro u w t ag s ob S D ⟨rfl, rfl⟩ h
 have U := Df D
 refine Aj I (Aa fun ah W => Cl I U (vL ?_))
 subst W
 refine vM (vN (Aa fun ai X => vH (Al 2 [.x 0 u (Cb w)] I ⟨⟨I, Ae S⟩, J⟩ (vJ [] I (Bm [.V 0, .v (.bool false)] 2 fun aj => vJ [3] I (A3 3 0 0 [Cb w] I (vI ?_)))))))
 subst X
 obtain ⟨f, ⟨E, n⟩, h⟩ := Ba h
 refine Bw 1 f.1 I n fun Y => Bw 1 f.1 I n fun Z => Bi (sl 10 0 (.act 10 (.still 11 (.still 12 (.drop 13 .nil))))) [0, 3, 1] [_, _, _] I (Br 6 [.o 3 0, .o 5 1] I J2 (vX I (Aq (m := f.1) I I I I I Y I E n) I (AP.o I (Au 2 f.1 0 I I I (Ae n) I (y := .V f.2) I) I (Br 2 [.o 0 1] I J1 (wE I (Vw w d _ I) (A9 1 I (vX I (Aq (m := f.1) I I I I I Z I E n) I (vZ [1] I I I (Bg 1 f.1 0 I I I (Ae n) I I I I (A4 I) I (Ci (x := wr (f.2 + (Lp w d))) I) (An (vI ?_)))))))))))
 refine vH (Al 2 [.k 0 (u + 1 : Nat)] I ⟨Bj D P, J⟩ ?_)
 cases io h
 exact vI (lg I2 N3)
 rintro t s ob ⟨rfl, rfl⟩ he
 subst he
 have h := R
 have aa := Dg p.Hops.length
 refine Aj I (Aa fun ak al => Cm I aa ?_)
 cases io h
 refine vQ ?_
 exact ⟨.inl I, [], [O1 g [[.v w0_0, .v w0_1, Q2 e.Pumps]], U0 w0_0 t, .us w0_1 3 1 (((e.Ports.set a.1 (wr (a.2 + d))).set b.1 (wr (b.2 - d))).map rI)], J, Cy I (Cy I (Cy I (Cf))), ⟨[O1 g [[.v w0_0, .v w0_1, Q2 e.Pumps]], U0 w0_0 t, .us w0_1 3 1 (((e.Ports.set a.1 (wr (a.2 + d))).set b.1 (wr (b.2 - d))).map rI)], [], I, I, w0_0, w0_1, I3⟩⟩
theorem gQ (s1_0 : List Hop) (s2_1 : List Hop) (r : Bool) (h : Xd s1_0 s2_1 = some r) : ACalls Ai 170 [Q7 s1_0, Q7 s2_1] [] (RB r) := by
 refine Ag Tryz.func170 I I I fun C hC => ?_
 refine Aj I (Aa fun B i => Bl [.l 1 (s1_0.length : Int), .l 3 (s2_1.length : Int)] I ⟨A8, A8, J⟩ (Ao h I ?_ ?_))
 intro j h
 refine Aj I ?_
 cases io h
 exact vO pr
 intro j h
 refine vL ?_
 subst i
 refine Ah (fun s ob => ∃ (d : Unit), Xd.J1 d = some r ∧ s = [] ∧ ob = []) [] J ?_ ?_
 refine Bl [.l 1 (s1_0.length : Int)] I ⟨A8, J⟩ (vN (Cu 11 I fun m => ?_))
 obtain ⟨D, n, e⟩ := Ac h
 refine Cv n (K3 0 1 12) J3 (fun (a : Nat) (f : Unit) s ob => s = [(13, .V (a : Int))] ∧ ob = []) ⟨I, I⟩ ⟨I, J⟩ (pk []) ?_ ?_
 rintro a c f E s ob o g ⟨rfl, rfl⟩ h p
 have q := Df g
 refine Aj I (Aa fun F t => Cl I q (vL ?_))
 subst t
 refine vM (vN (Aj I (vM ?_)))
 obtain ⟨b, ⟨u, w⟩, h⟩ := Ba h
 refine Bi (pd 9 0 []) [] [] I (Br 8 [.x 2 a (Cb c), .x 6 b.1 (Cb b.2)] I ⟨⟨u, Ae w⟩, ⟨I, Ae o⟩, J⟩ (vX I (Kb (r := ((c.Segment == b.2.Segment) && ((c.Back == b.2.Back) && true))) I I Tj I I I I) I (An (vI (Ao h I ?_ ?_)))))
 intro y h
 refine Aj I ?_
 obtain rfl := p _ (oi h).symm
 have h := e
 have h := Do h
 cases io h
 exact vO pr
 intro y h
 refine vL (vH (Al 2 [.k 0 (a + 1 : Nat)] I ⟨Bj g m, J⟩ ?_))
 cases io h
 exact vI ⟨_, _, _, I, I2, J4, pk []⟩
 rintro f s ob ⟨rfl, rfl⟩ he
 subst he
 have h := Dn e
 have A := Dg s1_0.length
 exact Aj I (Aa fun G H => Cm I A (vQ (lg ⟨(), h, I2⟩ [])))
 rintro s ob ⟨d, h, rfl, rfl⟩
 unfold Xd.J1 at h
 refine Aj I ?_
 cases io h
 exact vO pr
theorem gK (a : Path) (b : Path) (r : Bool) (h : Rj a b = some r) : ACalls Ai 146 [.agg (Az a), .agg (Az b)] [] (RB r) := by
 refine Ag Tryz.func146 I I I fun C hC => ?_
 unfold Rj at h
 refine Aa fun k g => vH (vJ [] I (Bh (Az a) 4 fun l => vJ [] I (Bh (Az b) 4 fun n => Af 1 I (vI ?_))))
 subst g
 refine Ah (fun s ob => ∃ (f : Bool), Rj.J1 f = some r ∧ s = [(4, .v (.bool f))] ∧ ob = []) [] J ?_ ?_
 refine vH (Al 6 [.o 1 0, .o 3 1] I J2 ?_)
 rcases bt ((a.In == b.In)) with d | d
 have h := B0 d h
 refine Ad 10 I d ?_
 rcases bt ((a.Out == b.Out)) with e | e
 have h := B0 e h
 obtain ⟨i, j, h⟩ := Ac h
 exact Al 7 [.o 1 0, .o 3 1] I J2 (Ad 17 I e (Al 4 [.o 1 0, .o 3 1] I J2 (Bf I I I (vU (gQ _ _ _ j) (Af 2 I (vI (lg ⟨i, h, I2⟩ [])))))))
 have h := B8 e h
 exact Al 7 [.o 1 0, .o 3 1] I J2 (Ad 17 I e (Af 7 I (vI (lg ⟨false, h, I2⟩ []))))
 have h := B8 d h
 exact Ad 10 I d (Af 14 I (vI (lg ⟨false, h, I2⟩ [])))
 rintro s ob ⟨f, h, rfl, rfl⟩
 unfold Rj.J1 at h
 cases io h
 exact vO pr
theorem iF (a : List Path) (F1 : T) {c : FuncId} {d e : List T} (o : Nl F1 = some (c, d, e)) (f : Path → Option Bool) (p : ∀ (g : Path) r, f g = some r → ACalls Ai c (d ++ [.agg (Az g)] ++ e) [] (RB r)) (r : Int) (h : Xk a f = some r) : ACalls Ai 144 [Q6 a, F1] [] (RV (.V r)) := by
 refine Ag Tryz.func144 I I I fun C hC => ?_
 unfold Xk at h
 refine Aj I (Ah (fun s ob => ∃ (i : Unit), Xk.J1 i = some r ∧ s = [] ∧ ob = []) [] J ?_ ?_)
 refine Bl [.l 1 (a.length : Int)] I ⟨A8, J⟩ (vN (Cu 6 I fun q => ?_))
 obtain ⟨G, t, j⟩ := Ac h
 refine Cv t (K3 0 1 7) J3 (fun (b : Nat) (m : Unit) s ob => s = [(8, .V (b : Int))] ∧ ob = []) ⟨I, I⟩ ⟨I, J⟩ (pk []) ?_ ?_
 rintro b u m H s ob w n ⟨rfl, rfl⟩ h y
 have A := Df n
 refine Aj I (Aa fun K B => Cl I A (vL ?_))
 subst B
 refine vM (vN (Aj I (vM ?_)))
 obtain ⟨M, D, h⟩ := Ac h
 refine vH (Al 5 [.x 3 b (Az u)] I ⟨⟨I, Ae w⟩, J⟩ (vJ [] I (Cw I (.refl _) o I (.rest _) I (p _ _ D) dS (by rintro _ _ ⟨rfl, _⟩; rfl) ?_)))
 rintro _ ⟨_, rfl, -⟩
 refine vI (Ao h I ?_ ?_)
 intro E h
 refine Aj I ?_
 obtain rfl := y _ (oi h).symm
 have h := j
 have h := Do h
 cases io h
 exact vO pr
 intro E h
 refine vL (vH (Al 2 [.k 0 (b + 1 : Nat)] I ⟨Bj n q, J⟩ ?_))
 cases io h
 exact vI ⟨_, _, _, I, I2, J4, pk []⟩
 rintro m s ob ⟨rfl, rfl⟩ he
 subst he
 have h := Dn j
 have F := Dg a.length
 exact Aj I (Aa fun N O => Cm I F (vQ (lg ⟨(), h, I2⟩ [])))
 rintro s ob ⟨i, h, rfl, rfl⟩
 unfold Xk.J1 at h
 refine Aj I ?_
 cases io h
 exact vO pr
theorem iP (a : Path) (b : Path) (r : Bool) (h : Xn a b = some r) : ACalls Ai 145 [.agg (Az a), .eptr (Az b)] [] (RB r) := by
 refine Ag Tryz.func145 I I I fun C hC => ?_
 refine vM (vH (vJ [] I (Bh (Az a) 4 fun e => Af 1 I (vI (vM ?_)))))
 obtain ⟨f, d, h⟩ := Ac h
 refine vH (Al 2 [.o 0 0] I J1 (vU (gK _ _ _ d) (Af 1 I (vI (vP g0 ?_)))))
 cases io h
 exact vO pr
theorem Wf (b : List Path) (a : Path) (r : Int) (h : Sa b a = some r) : ACalls Ai 94 [Q6 b, .agg (Az a)] [] (RV (.V r)) := by
 refine Ag Tryz.func94 I I I fun C hC => ?_
 refine vM (vH (vJ [] I (Bh (Az a) 4 fun d => Af 1 I (vI (vM ?_)))))
 obtain ⟨e, c, h⟩ := Ac h
 refine vH (Af 1 I (Ch (Yp.makeFunc I I) I (vJ [] I (Cw I (.refl _) I I (.cons (.refl _) (.cons (.fn (.rest _) (.cons (.box 0 I (.rest _)) (.rest _))) (.rest _))) I (iF _ (.fn 145 [] [.eptr (Az a)]) I (fun x => Xn x a) (fun x r h => iP x a r h) _ c) dS (by rintro _ _ ⟨rfl, _⟩; rfl) ?_))))
 rintro _ ⟨_, rfl, -⟩
 refine Af 1 I (vI (vP g0 ?_))
 cases io h
 exact vO pr
theorem gX (e : List Path) (n : List Path) (r : List Path) (h : Rq e n = some r) : ACalls Ai 92 [Q6 e, Q6 n] [] (fun x new => ∃ (p : Value), x = .v p ∧ new = [U3 p r]) := by
 refine Ag Tryz.func92 I I I fun C hC => ?_
 unfold Rq at h
 refine Aj I (Aj I (Ah (fun s ob => ∃ (f : List Path) (b : Value), Rq.J1 f = some r ∧ s = [(5, .v b)] ∧ ob = [U3 b f]) [] J ?_ ?_))
 refine Bl [.l 1 (e.length : Int)] I ⟨A8, J⟩ (vN (Cu 9 I fun y => vP (A7 52 4) ?_))
 obtain ⟨Z, A, B⟩ := Ac h
 refine Dm A (K3 1 9 10) J3 (fun (g : Nat) (d : List Path) s ob => ∃ (a : Value), s = [(11, .V (g : Int)), (5, .v a)] ∧ ob = [U3 a d]) ⟨nS, I2⟩ ⟨I, I, J⟩ (pk [0]) ?_ ?_
 rintro g t d D s ob E u ⟨a, rfl, rfl⟩ h
 unfold Rq.B2 at h
 have F := Df u
 refine Aj I (Aa fun aa G => Cl I F (vL ?_))
 subst G
 refine Ah (fun s ob => ∃ (j : List Path) (i : Value), Rq.J3 j = some D ∧ s = [(5, .v i)] ∧ ob = [U3 i j]) (K4 1 9 10 11) J4 ?_ ?_
 refine vN (Aa fun ab H => vH (Al 2 [.x 0 g (Az t)] I ⟨⟨I, Ae E⟩, J⟩ (vJ [] I (Bm W2 4 fun ac => vJ [1] I (A3 1 0 0 [Az t] I (vI ?_))))))
 subst H
 refine Aa fun ad K => ?_
 obtain ⟨ae, M, h⟩ := Ac h
 refine vH (Al 2 [.o 1 1] I J1 (vU (Wf _ _ _ M) (Af 1 I (vI ?_))))
 subst K
 refine Aj I (Ao h I ?_ ?_)
 intro O h
 obtain ⟨w, ⟨P, Q⟩, h⟩ := Ba h
 obtain ⟨R, S, h⟩ := Ac h
 obtain ⟨U, W, h⟩ := Ac h
 refine Bi (pd 14 0 [10, 11, 12]) [1] [_] I (Br 10 [.o 1 0, .o 3 0, .x 6 w.1 (Az w.2)] I ⟨⟨P, Ae Q⟩, I, I, J⟩ (vK [] I I I (Bp I I I (hN _ _ _ S) dS ?_)))
 rintro _ _ ⟨rfl, rfl⟩
 exact vK [] I I I (vR 4 (([R] : List Path).map Az) (vK [0] I I I (vV 0 I W fun X => dY 5 (A9 1 I (An (vI (lg ⟨U, X, h, I2⟩ [0])))))))
 intro O h
 exact vL (lg ⟨d, a, h, I2⟩ [0])
 rintro s ob ⟨j, i, h, rfl, rfl⟩
 unfold Rq.J3 at h
 refine vH (Al 2 [.k 0 (g + 1 : Nat)] I ⟨Bj u y, J⟩ ?_)
 cases io h
 exact vI (lg ⟨i, I2⟩ [0])
 rintro d s ob ⟨a, rfl, rfl⟩ he
 subst he
 have h := B
 have Y := Dg e.length
 exact Aj I (Aa fun af ag => Cm I Y (vQ (lg ⟨d, a, h, I2⟩ [0])))
 rintro s ob ⟨f, b, h, rfl, rfl⟩
 refine Aj I ?_
 obtain rfl := oi h
 exact vO ⟨.inr I, [_], [U3 b f], J1, Cy I (Cf), ⟨b, I2⟩⟩
end Go.Proofs.YtmaamhgjeampmaaGreat
