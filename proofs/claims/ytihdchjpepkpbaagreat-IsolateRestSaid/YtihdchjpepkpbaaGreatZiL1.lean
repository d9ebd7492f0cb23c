/- Walks that show what functions of the program compute; printed by a program of ours. No condition. -/
import Derived.Test.YtihdchjpepkpbaaGreatZiL0
import Derived.Test.YtihdchjpepkpbaaGreatZiD
import Derived.Test.YtihdchjpepkpbaaGreatZiB3
set_option maxRecDepth 100000
namespace Go.Proofs.YtihdchjpepkpbaaGreat
open Go.Aw
set_option linter.unusedVariables false
set_option linter.unusedSimpArgs false
set_option maxHeartbeats 4000000
abbrev Pt : PL := .still 11 (.act 12 (.still 13 (.act 14 (.still 15 .nil))))
abbrev Pr : PL := .still 12 (.act 13 (.still 14 (.act 15 (.still 16 .nil))))
abbrev Sr : PL := .act 8 (sl 3 9 (.act 13 (.still 14 .nil)))
abbrev fS : PL := .two 5 7 (.act 7 (.still 10 Pr)) (.still 10 (.act 5 Pr))
abbrev fR : PL := .two 8 12 (sl 3 9 (.act 12 (.act 13 (.still 14 .nil)))) Sr
abbrev fQ : PL := .two 5 7 (.act 7 (.still 9 Pt)) (.still 9 (.act 5 Pt))
abbrev aD : PL := sl 11 0 (.drop 11 .nil)
theorem Qd (a : Li) (r : Li) (h : Ks a = some r) : ACalls Ah 86 [Q0 a] [] (fun x new => ∃ (b : Value), x = .v b ∧ new = [U0 b r]) := by
  refine Ae Tryz.func86 rfl rfl rfl (fun C hC => ?_)
  unfold Ks at h
  obtain ⟨e, d⟩ := Ge h
  refine jK ?_
  refine jG ?_
  refine Bv (Yp.assign rfl) rfl ?_
  refine jH ?_
  refine jK ?_
  refine jK ?_
  refine jG ?_
  refine Bv (Yp.move rfl) rfl ?_
  refine jI [] rfl (Tn rfl rfl rfl (By rfl) fun c hc => ?_)
  refine jH ?_
  refine AW.cond rfl rfl ?_ ?_
  · intro hb
    have hs : a = [] := by have := hc hb; simpa using this
    subst hs
    refine jK ?_
    refine jG ?_
    refine Bv (Yp.assign rfl) rfl ?_
    refine AO.ghost (Au 3 1) ?_
    refine jH ?_
    refine jN ?_
    have hr : r = [] := by simpa using d.symm
    subst hr
    exact ⟨.inr rfl, [_], [.us nS 3 1 ([].map rI)], ⟨rfl, J⟩, Cx rfl Ct, ⟨_, rfl, rfl⟩⟩
  · intro hb
    refine jL ?_
    refine jK ?_
    refine jG ?_
    refine jI [] rfl (jY (sz := 1) (es := []) rfl rfl rfl rfl rfl rfl rfl rfl rfl rfl rfl (By rfl) fun g => ?_)
    refine Bv (Yp.move rfl) rfl ?_
    refine jI [0] rfl (I6 0 (es' := r.map rI) rfl rfl rfl rfl rfl rfl rfl rfl rfl (AppSrc.list rfl) (by simpa using e) (by rw [← d]; simp) (By rfl) fun f => ?_)
    refine Bv (Yp.assign rfl) rfl ?_
    refine jH ?_
    refine jN ?_
    exact ⟨.inr rfl, [_], [U0 f r], ⟨rfl, J⟩, Cx rfl Ct, ⟨_, rfl, rfl⟩⟩
theorem Qm (a : Hop) (b : Int) (r : Int) (h : Is a b = r) : ACalls Ah 169 [.agg (Cc a), .V b] [] (RV (.V r)) := by
 refine Ae Tryz.func169 I I I fun C hC => ?_
 refine Ab fun e c => jG (jI [] I (Br (Cc a) 2 fun f => Af 1 I (jH ?_)))
 subst c
 refine jK (Bd [.o 1 0] I J1 (Ar h I ?_ ?_))
 intro d h
 refine Aj I (jO g0 ?_)
 obtain rfl := h
 exact jN pr
 intro d h
 refine jL (Aj I (jO g0 ?_))
 obtain rfl := h
 exact jN pr
theorem Zp (w : Nat) (a : paths_divider) (w0_0 : Value) (w0_1 : Value) (e : Int) (r : Path × paths_divider) (h : Rv a e = some r) : ACalls Ah 108 [.P w, .V e] [O5 w [[Q1 a.n_.Nodes, Q2 a.n_.Segments, Q3 a.n_.Ports, Q4 a.n_.Stations, .V a.n_.Vapour, .V a.n_.Settle, .v w0_0, .v w0_1]], U0 w0_0 a.rates, U0 w0_1 a.ports] (En 3 fun x os new => ∃ (u1_0 : Value) (u1_1 : Value), x = .agg (Bo r.1) ∧ os = [O5 w [[Q1 r.2.n_.Nodes, Q2 r.2.n_.Segments, Q3 r.2.n_.Ports, Q4 r.2.n_.Stations, .V r.2.n_.Vapour, .V r.2.n_.Settle, .v u1_0, .v u1_1]], U0 u1_0 r.2.rates, U0 u1_1 r.2.ports] ∧ new = []) := by
 refine Ae Tryz.func108 I I I fun C hC => ?_
 refine Ab fun y1 ba => jG (jI [] I (Bf W3 4 fun E => jH ?_))
 subst ba
 refine AW.scope (Ab fun y3 bb => ?_)
 obtain ⟨j, ⟨ag, H⟩, h⟩ := Bh h
 refine jG (Ao 6 [.o 4 0] I J1 (jR (Be 2 (m := j.1) I I I I I I I ag (Ag H)) I (jR (A7 2 j.1 0 I I I (Ag H) I (y := .V j.2) I) I (Bv (Bk (l := [.V e, .V 0, .N, .V j.2]) Vm I) I (jI [] I (Bf W3 4 fun F => jI [4] I (A1 4 0 0 [[.V e, .V 0, .N, .V j.2]] I (jH ?_))))))))
 subst bb
 refine Ab fun y7 bc => ?_
 obtain ⟨p8, ⟨bd, be⟩, h⟩ := Bh h
 refine Mo [.o 4 0, .x 6 p8.1 (Bb p8.2)] I ⟨⟨bd, Ag be⟩, I, J⟩ ?_
 subst bc
 refine Ab fun c0 bf => AW.label ?_
 subst bf
 refine Ai (fun s ob => ∃ (f : Int × (List Hop) × Int) (G : Value), Rv.J1 a e j f = some r ∧ s = [] ∧ ob = [O5 w [[Q1 a.n_.Nodes, Q2 a.n_.Segments, Q3 a.n_.Ports, Q4 a.n_.Stations, .V a.n_.Vapour, .V a.n_.Settle, .v w0_0, .v w0_1]], U0 w0_0 a.rates, U0 w0_1 a.ports, O4 E [W3], O4 F [[.V e, .V f.1, .v G, .V f.2.2]], U4 G f.2.1]) (K4 0 1 4 5) J4 ?_ ?_
 refine jM (jO (Au 53 2) ?_)
 obtain ⟨c1, bg, ar⟩ := Ac h
 refine Cg bg (K4 0 1 4 5) J4 (fun (b : (List Hop) × Int × Int) s ob => ∃ (i : Value), s = [(6, .V b.2.2)] ∧ ob = [O5 w [[Q1 a.n_.Nodes, Q2 a.n_.Segments, Q3 a.n_.Ports, Q4 a.n_.Stations, .V a.n_.Vapour, .V a.n_.Settle, .v w0_0, .v w0_1]], U0 w0_0 a.rates, U0 w0_1 a.ports, O4 E [W3], O4 F [[.V e, .V 0, .v i, .V b.2.1]], U4 i b.1]) ⟨nS, I2⟩ ⟨I, J⟩ (pk N6) ?_
 rintro b au s ob ⟨i, rfl, rfl⟩ h av
 unfold Rv.B4 at h
 refine jM (Ai (fun s ob => ∃ (aw : Unit), Rv.J5 a b aw = some au ∧ s = [] ∧ ob = [O5 w [[Q1 a.n_.Nodes, Q2 a.n_.Segments, Q3 a.n_.Ports, Q4 a.n_.Stations, .V a.n_.Vapour, .V a.n_.Settle, .v w0_0, .v w0_1]], U0 w0_0 a.rates, U0 w0_1 a.ports, O4 E [W3], O4 F [[.V e, .V 0, .v i, .V b.2.1]], U4 i b.1]) (K5 0 1 4 5 6) J5 ?_ ?_)
 refine Bd [.o 4 0, .l 5 (a.n_.Ports.length : Int)] I ⟨As, I, J⟩ (jM (Ca 38 I fun bh => ?_))
 obtain ⟨c2, bi, ax⟩ := Ac h
 refine Bw bi (K7 0 1 4 5 6 38 39) J7 (fun (M : Nat) (ay : Unit) s ob => s = [(40, .V (M : Int))] ∧ ob = [O5 w [[Q1 a.n_.Nodes, Q2 a.n_.Segments, Q3 a.n_.Ports, Q4 a.n_.Stations, .V a.n_.Vapour, .V a.n_.Settle, .v w0_0, .v w0_1]], U0 w0_0 a.rates, U0 w0_1 a.ports, O4 E [W3], O4 F [[.V e, .V 0, .v i, .V b.2.1]], U4 i b.1]) ⟨I, I⟩ ⟨I, J⟩ (pk N6) ?_ ?_
 rintro M ah ay bj s ob bk az ⟨rfl, rfl⟩ h bl
 unfold Rv.B10 at h
 have bm := Cy az
 refine Aj I (Ab fun c3 bn => Bs I bm (jL ?_))
 subst bn
 refine jK (jM (Ab fun c4 bo => jG (Ao 3 [.x 1 M (Bb ah)] I ⟨⟨I, Ag bk⟩, J⟩ (jI [] I (Bf W5 3 fun c5 => Af 1 I (jI [6] I (A1 6 0 0 [Bb ah] I (jH ?_))))))))
 subst bo
 refine Ai (fun s ob => ∃ (ai : Bool), Rv.J11 a b M ai = some bj ∧ s = [(58, .v (.bool ai))] ∧ ob = [O5 w [[Q1 a.n_.Nodes, Q2 a.n_.Segments, Q3 a.n_.Ports, Q4 a.n_.Stations, .V a.n_.Vapour, .V a.n_.Settle, .v w0_0, .v w0_1]], U0 w0_0 a.rates, U0 w0_1 a.ports, O4 E [W3], O4 F [[.V e, .V 0, .v i, .V b.2.1]], U4 i b.1]) (K9 0 1 4 5 6 7 38 39 40) J9 ?_ ?_
 refine jG (Ao 5 [.o 1 6] I J1 ?_)
 rcases bt ((ah.Node == b.2.2)) with Z | Z
 have h := Bp Z h
 obtain ⟨ac, ⟨bp, a0⟩, h⟩ := Bh h
 exact Ad 49 I Z (Ao 5 [.o 3 0] I J1 (A3 I I I (jR (Be 2 (m := ac.1) I I I I I I I bp (Ag a0)) I (A3 I I I (jR (A7 2 ac.1 0 I I I (Ag a0) I (y := .V ac.2) I) I (Af 2 I (jH (lg ⟨decide (ac.2 < 0), h, I2⟩ N6))))))))
 have h := Bq Z h
 exact Ad 49 I Z (Af 9 I (jH (lg ⟨false, h, I2⟩ N6)))
 rintro s ob ⟨ai, h, rfl, rfl⟩
 refine Ar h I ?_ ?_
 intro bq h
 refine jK ?_
 obtain ⟨S, ⟨br, aj⟩, h⟩ := Bh h
 refine Cn 2 S.1 I aj fun bs => jT (.still 0 (.still 1 (sl 8 3 (.act 2 (.still 11 (.still 12 (.act 13 (.still 14 (.act 15 .nil))))))))) [0, 2] [_, _] I (Bx 7 [.o 5 0] I J1 (jZ I (Bi (m := S.1) I I I I I bs I br aj) I (AP.o I (A7 1 S.1 0 I I I (Ag aj) I (y := .V S.2) I) I (Ax 1 I (jJ [] I I I (Bm (Bn 4 0 3 I I I I I (y := .V b.2.1) I) dS (Ax 2 I (jJ [4] I I I (A1 4 0 1 [[.V e, .V (M : Int), .v i, .V b.2.1]] I (Ax 1 I (jJ [4] I I I (A1 4 0 3 [[.V e, .V (M : Int), .v i, .V (min b.2.1 (wr (0 - S.2)))]] I (Ap (jH ?_))))))))))))))
 obtain rfl := bl _ (oi h).symm
 have h := ax
 have h := Db h
 obtain rfl := av _ (oi h).symm
 have h := ar
 exact jP (lg ⟨((M : Int), b.1, (min b.2.1 (wr (0 - S.2)))), i, h, I2⟩ N6)
 intro bq h
 refine jL (jG (Ao 2 [.k 0 (M + 1 : Nat)] I ⟨Ay az bh, J⟩ ?_))
 cases io h
 exact jH ⟨_, _, _, I, I2, J8, pk N6⟩
 rintro ay s ob ⟨rfl, rfl⟩ he
 subst he
 have h := De ax
 have bu := Cz a.n_.Ports.length
 exact Aj I (Ab fun c6 c7 => Bu I bu (jP (lg ⟨(), h, I2⟩ N6)))
 rintro s ob ⟨aw, h, rfl, rfl⟩
 unfold Rv.J5 at h
 refine Ai (fun s ob => ∃ (a1 : Unit), Rv.J6 b a1 = some au ∧ s = [] ∧ ob = [O5 w [[Q1 a.n_.Nodes, Q2 a.n_.Segments, Q3 a.n_.Ports, Q4 a.n_.Stations, .V a.n_.Vapour, .V a.n_.Settle, .v w0_0, .v w0_1]], U0 w0_0 a.rates, U0 w0_1 a.ports, O4 E [W3], O4 F [[.V e, .V 0, .v i, .V b.2.1]], U4 i b.1]) (K4 0 1 4 5) J4 ?_ ?_
 refine Bd [.o 4 0, .l 5 (a.n_.Segments.length : Int)] I ⟨As, I, J⟩ (jM (Ca 78 I fun bv => ?_))
 obtain ⟨c8, bw, ak⟩ := Ac h
 refine Bw bw (K6 0 1 4 5 78 79) J6 (fun (A : Nat) (a2 : Unit) s ob => s = [(80, .V (A : Int)), (6, .V b.2.2)] ∧ ob = [O5 w [[Q1 a.n_.Nodes, Q2 a.n_.Segments, Q3 a.n_.Ports, Q4 a.n_.Stations, .V a.n_.Vapour, .V a.n_.Settle, .v w0_0, .v w0_1]], U0 w0_0 a.rates, U0 w0_1 a.ports, O4 E [W3], O4 F [[.V e, .V 0, .v i, .V b.2.1]], U4 i b.1]) ⟨I, I⟩ ⟨I, I, J⟩ (pk N6) ?_ ?_
 rintro A O a2 a3 s ob bx a4 ⟨rfl, rfl⟩ h a5
 have b1 := Cy a4
 refine Aj I (Ab fun c9 b3 => Bs I b1 (jL ?_))
 subst b3
 refine jK (jM (Ab fun da b4 => jG (Ao 3 [.x 1 A (Am O)] I ⟨⟨I, Ag bx⟩, J⟩ (jI [] I (Bf W1 7 fun db => Af 1 I (jI [6] I (A1 6 0 0 [Am O] I (jH ?_))))))))
 subst b4
 refine Ab fun dc b5 => ?_
 obtain ⟨g, ⟨b7, al⟩, h⟩ := Bh h
 refine Cn 1 g.1 I al fun b8 => jT (pd 14 0 []) [6, 0, 1] [_, _, _] I (Bx 9 [.o 1 0, .o 3 0, .o 7 1] I J3 (jZ I (Bi (m := g.1) I I I I I b8 I b7 al) I (AP.o I (A7 2 g.1 0 I I I (Ag al) I (y := .V g.2) I) I (Ax 3 I (Ap (jH ?_))))))
 subst b5
 refine Dv 102 (decide (g.2 > 0) && (O.From == b.2.2)) ?_ ?_
 refine jG (Af 3 I ?_)
 rcases bt (decide (g.2 > 0)) with aa | aa
 exact Ad 98 I aa (Af 4 I (jH (jf (by simp only [aa, bz]) I I I2)))
 exact Ad 98 I aa (Af 4 I (jH (jf (by simp only [aa, bz]) I I I2)))
 refine Ar h I ?_ ?_
 intro b9 h
 refine Ai (fun s ob => ∃ (am : List Hop) (ad : Value), Rv.J8 b O g am = some a3 ∧ s = [(6, .V O.To)] ∧ ob = [O5 w [[Q1 a.n_.Nodes, Q2 a.n_.Segments, Q3 a.n_.Ports, Q4 a.n_.Stations, .V a.n_.Vapour, .V a.n_.Settle, .v w0_0, .v w0_1]], U0 w0_0 a.rates, U0 w0_1 a.ports, O4 E [W3], O4 F [[.V e, .V 0, .v ad, .V (min b.2.1 g.2)]], U4 ad am]) (K4 0 1 4 5) J4 ?_ ?_
 obtain ⟨ca, P, h⟩ := Ac h
 refine jT (.still 0 (.still 2 (.still 3 (.still 6 (.still 8 (.still 10 (.three 1 4 7 (.two 4 7 fQ (.still 9 (.act 4 (.act 5 Pt)))) (.two 1 7 fQ (.still 9 (.act 1 (.act 5 Pt)))) (.still 9 (.two 1 4 (.act 4 (.act 5 Pt)) (.act 1 (.act 5 Pt))))))))))) [] [] I (Ax 2 I (jZ I (Bk (l := [.V (A : Int), .v (.bool false)]) Ow I) I (Ax 3 I (AP.three ?_ ?_ ?_))))
 refine jJ [] I I I (Bm (Bn 4 0 2 I I I I I (y := .v i) I) dS (jX ?_ ?_))
 refine jJ [] I I I (jQ 2 (([(⟨(A : Int), false⟩ : Hop)] : List Hop).map Cc) (jX ?_ ?_))
 refine jJ [5] I I I (jV 5 I P fun n => jJ [] I I I (Bm (Bn 4 0 3 I I I I I (y := .V b.2.1) I) dS (Ax 2 I (jW 5 I fun B => jJ [4] I I I (jS 4 0 2 (es' := [[.V e, .V 0, .v n, .V b.2.1]]) I I I I I I (A8 B) I (A6 I) I I (Ax 1 I (jJ [4] I I I (A1 4 0 3 [[.V e, .V 0, .v n, .V (min b.2.1 g.2)]] I (Ax 1 I (Ap (jH ?_)))))))))))
 rotate_left
 refine jJ [] I I I (Bm (Bn 4 0 3 I I I I I (y := .V b.2.1) I) dS (Ax 1 I (jJ [5] I I I (jV 5 I P fun n => Ax 1 I (jW 5 I fun B => jJ [4] I I I (jS 4 0 2 (es' := [[.V e, .V 0, .v n, .V b.2.1]]) I I I I I I (A8 B) I (A6 I) I I (Ax 1 I (jJ [4] I I I (A1 4 0 3 [[.V e, .V 0, .v n, .V (min b.2.1 g.2)]] I (Ax 1 I (Ap (jH ?_))))))))))))
 rotate_left
 refine jJ [] I I I (Bm (Bn 4 0 3 I I I I I (y := .V b.2.1) I) dS (Ax 1 I (jJ [] I I I (jQ 2 (([(⟨(A : Int), false⟩ : Hop)] : List Hop).map Cc) (jJ [5] I I I (jV 5 I P fun n => Ax 1 I (jW 5 I fun B => jJ [4] I I I (jS 4 0 2 (es' := [[.V e, .V 0, .v n, .V b.2.1]]) I I I I I I (A8 B) I (A6 I) I I (Ax 1 I (jJ [4] I I I (A1 4 0 3 [[.V e, .V 0, .v n, .V (min b.2.1 g.2)]] I (Ax 1 I (Ap (jH ?_))))))))))))))
 rotate_left
 refine jJ [] I I I (jQ 2 (([(⟨(A : Int), false⟩ : Hop)] : List Hop).map Cc) (jX ?_ ?_))
 refine jJ [] I I I (Bm (Bn 4 0 2 I I I I I (y := .v i) I) dS (jX ?_ ?_))
 refine jJ [5] I I I (jV 5 I P fun n => jJ [] I I I (Bm (Bn 4 0 3 I I I I I (y := .V b.2.1) I) dS (Ax 2 I (jW 5 I fun B => jJ [4] I I I (jS 4 0 2 (es' := [[.V e, .V 0, .v n, .V b.2.1]]) I I I I I I (A8 B) I (A6 I) I I (Ax 1 I (jJ [4] I I I (A1 4 0 3 [[.V e, .V 0, .v n, .V (min b.2.1 g.2)]] I (Ax 1 I (Ap (jH ?_)))))))))))
 rotate_left
 refine jJ [] I I I (Bm (Bn 4 0 3 I I I I I (y := .V b.2.1) I) dS (Ax 1 I (jJ [5] I I I (jV 5 I P fun n => Ax 1 I (jW 5 I fun B => jJ [4] I I I (jS 4 0 2 (es' := [[.V e, .V 0, .v n, .V b.2.1]]) I I I I I I (A8 B) I (A6 I) I I (Ax 1 I (jJ [4] I I I (A1 4 0 3 [[.V e, .V 0, .v n, .V (min b.2.1 g.2)]] I (Ax 1 I (Ap (jH ?_))))))))))))
 rotate_left
 refine jJ [] I I I (Bm (Bn 4 0 3 I I I I I (y := .V b.2.1) I) dS (Ax 1 I (jJ [] I I I (Bm (Bn 4 0 2 I I I I I (y := .v i) I) dS (jJ [5] I I I (jV 5 I P fun n => Ax 1 I (jW 5 I fun B => jJ [4] I I I (jS 4 0 2 (es' := [[.V e, .V 0, .v n, .V b.2.1]]) I I I I I I (A8 B) I (A6 I) I I (Ax 1 I (jJ [4] I I I (A1 4 0 3 [[.V e, .V 0, .v n, .V (min b.2.1 g.2)]] I (Ax 1 I (Ap (jH ?_))))))))))))))
 rotate_left
 refine jJ [] I I I (Bm (Bn 4 0 3 I I I I I (y := .V b.2.1) I) dS (Ax 1 I (jX ?_ ?_)))
 refine jJ [] I I I (Bm (Bn 4 0 2 I I I I I (y := .v i) I) dS (jJ [] I I I (jQ 2 (([(⟨(A : Int), false⟩ : Hop)] : List Hop).map Cc) (jJ [5] I I I (jV 5 I P fun n => Ax 1 I (jW 5 I fun B => jJ [4] I I I (jS 4 0 2 (es' := [[.V e, .V 0, .v n, .V b.2.1]]) I I I I I I (A8 B) I (A6 I) I I (Ax 1 I (jJ [4] I I I (A1 4 0 3 [[.V e, .V 0, .v n, .V (min b.2.1 g.2)]] I (Ax 1 I (Ap (jH ?_)))))))))))))
 rotate_left
 refine jJ [] I I I (jQ 2 (([(⟨(A : Int), false⟩ : Hop)] : List Hop).map Cc) (jJ [] I I I (Bm (Bn 4 0 2 I I I I I (y := .v i) I) dS (jJ [5] I I I (jV 5 I P fun n => Ax 1 I (jW 5 I fun B => jJ [4] I I I (jS 4 0 2 (es' := [[.V e, .V 0, .v n, .V b.2.1]]) I I I I I I (A8 B) I (A6 I) I I (Ax 1 I (jJ [4] I I I (A1 4 0 3 [[.V e, .V 0, .v n, .V (min b.2.1 g.2)]] I (Ax 1 I (Ap (jH ?_)))))))))))))
 any_goals
  exact lg ⟨ca, n, h, I2⟩ N6
 rintro s ob ⟨am, ad, h, rfl, rfl⟩
 unfold Rv.J8 at h
 obtain rfl := a5 _ (oi h).symm
 have h := ak
 have h := Db h
 cases io h
 refine jP ?_
 exact ⟨_, _, _, I, ⟨ad, I2⟩, J5, pk N6⟩
 intro b9 h
 refine Dv 122 (decide (g.2 < 0) && (O.To == b.2.2)) ?_ ?_
 refine jG (Af 3 I ?_)
 rcases bt (decide (g.2 < 0)) with ab | ab
 exact Ad 118 I ab (Af 4 I (jH (jf (by simp only [ab, bz]) I I I2)))
 exact Ad 118 I ab (Af 4 I (jH (jf (by simp only [ab, bz]) I I I2)))
 refine Ar h I ?_ ?_
 intro cb h
 refine Ai (fun s ob => ∃ (an : List Hop) (ae : Value), Rv.J9 b O g an = some a3 ∧ s = [(6, .V O.From)] ∧ ob = [O5 w [[Q1 a.n_.Nodes, Q2 a.n_.Segments, Q3 a.n_.Ports, Q4 a.n_.Stations, .V a.n_.Vapour, .V a.n_.Settle, .v w0_0, .v w0_1]], U0 w0_0 a.rates, U0 w0_1 a.ports, O4 E [W3], O4 F [[.V e, .V 0, .v ae, .V (min b.2.1 (wr (0 - g.2)))]], U4 ae an]) (K4 0 1 4 5) J4 ?_ ?_
 obtain ⟨cc, Q, h⟩ := Ac h
 refine jT (.still 0 (.still 2 (.still 3 (.still 6 (.still 8 (.still 9 (.still 11 (.three 1 4 7 (.two 4 7 fS (.still 10 (.act 4 (.act 5 Pr)))) (.two 1 7 fS (.still 10 (.act 1 (.act 5 Pr)))) (.still 10 (.two 1 4 (.act 4 (.act 5 Pr)) (.act 1 (.act 5 Pr)))))))))))) [] [] I (Ax 2 I (jZ I (Bk (l := [.V (A : Int), .v (.bool true)]) Ow I) I (Ax 4 I (AP.three ?_ ?_ ?_))))
 refine jJ [] I I I (Bm (Bn 4 0 2 I I I I I (y := .v i) I) dS (jX ?_ ?_))
 refine jJ [] I I I (jQ 2 (([(⟨(A : Int), true⟩ : Hop)] : List Hop).map Cc) (jX ?_ ?_))
 refine jJ [5] I I I (jV 5 I Q fun t => jJ [] I I I (Bm (Bn 4 0 3 I I I I I (y := .V b.2.1) I) dS (Ax 2 I (jW 5 I fun D => jJ [4] I I I (jS 4 0 2 (es' := [[.V e, .V 0, .v t, .V b.2.1]]) I I I I I I (A8 D) I (A6 I) I I (Ax 1 I (jJ [4] I I I (A1 4 0 3 [[.V e, .V 0, .v t, .V (min b.2.1 (wr (0 - g.2)))]] I (Ax 1 I (Ap (jH ?_)))))))))))
 rotate_left
 refine jJ [] I I I (Bm (Bn 4 0 3 I I I I I (y := .V b.2.1) I) dS (Ax 1 I (jJ [5] I I I (jV 5 I Q fun t => Ax 1 I (jW 5 I fun D => jJ [4] I I I (jS 4 0 2 (es' := [[.V e, .V 0, .v t, .V b.2.1]]) I I I I I I (A8 D) I (A6 I) I I (Ax 1 I (jJ [4] I I I (A1 4 0 3 [[.V e, .V 0, .v t, .V (min b.2.1 (wr (0 - g.2)))]] I (Ax 1 I (Ap (jH ?_))))))))))))
 rotate_left
 refine jJ [] I I I (Bm (Bn 4 0 3 I I I I I (y := .V b.2.1) I) dS (Ax 1 I (jJ [] I I I (jQ 2 (([(⟨(A : Int), true⟩ : Hop)] : List Hop).map Cc) (jJ [5] I I I (jV 5 I Q fun t => Ax 1 I (jW 5 I fun D => jJ [4] I I I (jS 4 0 2 (es' := [[.V e, .V 0, .v t, .V b.2.1]]) I I I I I I (A8 D) I (A6 I) I I (Ax 1 I (jJ [4] I I I (A1 4 0 3 [[.V e, .V 0, .v t, .V (min b.2.1 (wr (0 - g.2)))]] I (Ax 1 I (Ap (jH ?_))))))))))))))
 rotate_left
 refine jJ [] I I I (jQ 2 (([(⟨(A : Int), true⟩ : Hop)] : List Hop).map Cc) (jX ?_ ?_))
 refine jJ [] I I I (Bm (Bn 4 0 2 I I I I I (y := .v i) I) dS (jX ?_ ?_))
 refine jJ [5] I I I (jV 5 I Q fun t => jJ [] I I I (Bm (Bn 4 0 3 I I I I I (y := .V b.2.1) I) dS (Ax 2 I (jW 5 I fun D => jJ [4] I I I (jS 4 0 2 (es' := [[.V e, .V 0, .v t, .V b.2.1]]) I I I I I I (A8 D) I (A6 I) I I (Ax 1 I (jJ [4] I I I (A1 4 0 3 [[.V e, .V 0, .v t, .V (min b.2.1 (wr (0 - g.2)))]] I (Ax 1 I (Ap (jH ?_)))))))))))
 rotate_left
 refine jJ [] I I I (Bm (Bn 4 0 3 I I I I I (y := .V b.2.1) I) dS (Ax 1 I (jJ [5] I I I (jV 5 I Q fun t => Ax 1 I (jW 5 I fun D => jJ [4] I I I (jS 4 0 2 (es' := [[.V e, .V 0, .v t, .V b.2.1]]) I I I I I I (A8 D) I (A6 I) I I (Ax 1 I (jJ [4] I I I (A1 4 0 3 [[.V e, .V 0, .v t, .V (min b.2.1 (wr (0 - g.2)))]] I (Ax 1 I (Ap (jH ?_))))))))))))
 rotate_left
 refine jJ [] I I I (Bm (Bn 4 0 3 I I I I I (y := .V b.2.1) I) dS (Ax 1 I (jJ [] I I I (Bm (Bn 4 0 2 I I I I I (y := .v i) I) dS (jJ [5] I I I (jV 5 I Q fun t => Ax 1 I (jW 5 I fun D => jJ [4] I I I (jS 4 0 2 (es' := [[.V e, .V 0, .v t, .V b.2.1]]) I I I I I I (A8 D) I (A6 I) I I (Ax 1 I (jJ [4] I I I (A1 4 0 3 [[.V e, .V 0, .v t, .V (min b.2.1 (wr (0 - g.2)))]] I (Ax 1 I (Ap (jH ?_))))))))))))))
 rotate_left
 refine jJ [] I I I (Bm (Bn 4 0 3 I I I I I (y := .V b.2.1) I) dS (Ax 1 I (jX ?_ ?_)))
 refine jJ [] I I I (Bm (Bn 4 0 2 I I I I I (y := .v i) I) dS (jJ [] I I I (jQ 2 (([(⟨(A : Int), true⟩ : Hop)] : List Hop).map Cc) (jJ [5] I I I (jV 5 I Q fun t => Ax 1 I (jW 5 I fun D => jJ [4] I I I (jS 4 0 2 (es' := [[.V e, .V 0, .v t, .V b.2.1]]) I I I I I I (A8 D) I (A6 I) I I (Ax 1 I (jJ [4] I I I (A1 4 0 3 [[.V e, .V 0, .v t, .V (min b.2.1 (wr (0 - g.2)))]] I (Ax 1 I (Ap (jH ?_)))))))))))))
 rotate_left
 refine jJ [] I I I (jQ 2 (([(⟨(A : Int), true⟩ : Hop)] : List Hop).map Cc) (jJ [] I I I (Bm (Bn 4 0 2 I I I I I (y := .v i) I) dS (jJ [5] I I I (jV 5 I Q fun t => Ax 1 I (jW 5 I fun D => jJ [4] I I I (jS 4 0 2 (es' := [[.V e, .V 0, .v t, .V b.2.1]]) I I I I I I (A8 D) I (A6 I) I I (Ax 1 I (jJ [4] I I I (A1 4 0 3 [[.V e, .V 0, .v t, .V (min b.2.1 (wr (0 - g.2)))]] I (Ax 1 I (Ap (jH ?_)))))))))))))
 any_goals
  exact lg ⟨cc, t, h, I2⟩ N6
 rintro s ob ⟨an, ae, h, rfl, rfl⟩
 unfold Rv.J9 at h
 obtain rfl := a5 _ (oi h).symm
 have h := ak
 have h := Db h
 cases io h
 refine jP ?_
 exact ⟨_, _, _, I, ⟨ae, I2⟩, J5, pk N6⟩
 intro cb h
 refine jL (jG (Ao 2 [.k 0 (A + 1 : Nat)] I ⟨Ay a4 bv, J⟩ ?_))
 cases io h
 exact jH ⟨_, _, _, I, I2, J8, pk N6⟩
 rintro a2 s ob ⟨rfl, rfl⟩ he
 subst he
 have h := De ak
 have cd := Cz a.n_.Segments.length
 exact Aj I (Ab fun dd de => Bu I cd (jP (lg ⟨(), h, I2⟩ N6)))
 rintro s ob ⟨a1, h, rfl, rfl⟩
 unfold Rv.J6 at h
 obtain rfl := av _ (oi h).symm
 have h := ar
 exact jP (lg ⟨(0, b.1, b.2.1), i, h, I2⟩ N6)
 rintro s ob ⟨f, G, h, rfl, rfl⟩
 refine Ab fun df ce => Cn 2 j.1 I H fun cf => Cn 2 j.1 I H fun cg => jT aD [0, 2, 4] [_, _, _] I (Bx 5 [.o 3 0] I J1 (jZ I (Bi (m := j.1) I I I I I cf I ag H) I (AP.o I (A7 1 j.1 0 I I I (Ag H) I (y := .V j.2) I) I (Bx 3 [.o 1 2] I J1 (jZ I (Bi (m := j.1) I I I I I cg I ag H) I (kA [2] I I I (Ck 2 j.1 0 I I I (Ag H) I I I I (A6 I) I (Dp (x := wr (j.2 - f.2.2)) I) (Ap (jH ?_)))))))))
 subst ce
 refine Ab fun dg ci => ?_
 obtain ⟨u, ⟨a6, U⟩, h⟩ := Bh h
 refine Cn 2 u.1 I U fun cj => Cn 2 u.1 I U fun ck => jT (sl 12 0 (.drop 12 .nil)) [0, 4, 2] [_, _, _] I (Bx 6 [.o 3 0, .o 5 1] I J2 (jZ I (Bi (m := u.1) I I I I I cj I a6 U) I (AP.o I (A7 2 u.1 0 I I I (Ag U) I (y := .V u.2) I) I (Bx 3 [.o 1 1] I J1 (jZ I (Bi (m := u.1) I I I I I ck I a6 U) I (kA [2] I I I (Ck 2 u.1 0 I I I (Ag U) I I I I (A6 I) I (Dp (x := wr (u.2 + f.2.2)) I) (Ap (jH ?_)))))))))
 subst ci
 refine Ai (fun s ob => ∃ (W : Li), Rv.J2 a e j f u W = some r ∧ s = [] ∧ ob = [O5 w [[Q1 a.n_.Nodes, Q2 a.n_.Segments, Q3 a.n_.Ports, Q4 a.n_.Stations, .V a.n_.Vapour, .V a.n_.Settle, .v w0_0, .v w0_1]], U0 w0_0 W, .us w0_1 3 1 (((a.ports.set j.1 (wr (j.2 - f.2.2))).set u.1 (wr (u.2 + f.2.2))).map rI), O4 E [W3], O4 F [[.V e, .V f.1, .v G, .V f.2.2]], U4 G f.2.1]) (K2 4 5) J2 ?_ ?_
 refine Ab fun dh cl => jG (Ao 2 [.o 1 4] I J1 (jR (Cp 5 I I I I) I (Af 1 I (jH ?_))))
 subst cl
 refine jM (aJ 5 I fun cm => ?_)
 obtain ⟨di, cn, co⟩ := Ac h
 refine Tr cn (K5 0 4 5 162 163) J5 (fun (ao : Nat) (af : Li) s ob => s = [(164, .V (ao : Int))] ∧ ob = [O5 w [[Q1 a.n_.Nodes, Q2 a.n_.Segments, Q3 a.n_.Ports, Q4 a.n_.Stations, .V a.n_.Vapour, .V a.n_.Settle, .v w0_0, .v w0_1]], U0 w0_0 af, .us w0_1 3 1 (((a.ports.set j.1 (wr (j.2 - f.2.2))).set u.1 (wr (u.2 + f.2.2))).map rI), O4 E [W3], O4 F [[.V e, .V f.1, .v G, .V f.2.2]], U4 G f.2.1]) ⟨I, I⟩ ⟨I, J⟩ (pk N6) ?_ ?_
 rintro ao af dj s ob a7 ⟨rfl, rfl⟩ h
 have cp := Cy a7
 refine Aj I (Ab fun dk cq => Bs I cp (jL ?_))
 subst cq
 refine jK (jM (Ab fun dl cr => ?_))
 obtain ⟨X, ⟨ct, a8⟩, h⟩ := Bh h
 refine jG (jR (Be 5 (m := X.1) I I I I I I I ct (Ag a8)) I (jR (A7 5 X.1 0 I I I (Ag a8) I (y := .agg (Cc X.2)) I) I (jI [] I (Bf [.V 0, .v (.bool false)] 2 fun dm => jI [6] I (A1 6 0 0 [Cc X.2] I (jH ?_))))))
 subst cr
 obtain ⟨R, ⟨a9, Y⟩, h⟩ := Bh h
 refine Cn 1 R.1 I Y fun cu => Cn 1 R.1 I Y fun cv => jT (sl 11 0 (.act 11 (.still 12 (.still 13 (.drop 14 .nil))))) [0, 6, 1, 4] [_, _, _, _] I (Bx 6 [.o 3 0, .o 5 1] I J2 (jZ I (Bi (m := R.1) I I I I I cu I a9 Y) I (AP.o I (A7 2 R.1 0 I I I (Ag Y) I (y := .V R.2) I) I (Bx 3 [.o 0 1, .o 2 3] I J2 (kC I (Qm X.2 f.2.2 _ I) (Ax 1 I (jZ I (Bi (m := R.1) I I I I I cv I a9 Y) I (kA [1] I I I (Ck 1 R.1 0 I I I (Ag Y) I I I I (A6 I) I (Dp (x := wr (R.2 - (Is X.2 f.2.2))) I) (Ap (jH ?_)))))))))))
 refine jG (Ao 2 [.k 0 (ao + 1 : Nat)] I ⟨Ay a7 cm, J⟩ ?_)
 cases io h
 exact jH (lg I2 N6)
 rintro af s ob ⟨rfl, rfl⟩ he
 subst he
 have h := co
 have cw := Cz f.2.1.length
 exact Aj I (Ab fun dn dp => Bu I cw (jP (lg ⟨af, h, I2⟩ N6)))
 rintro s ob ⟨W, h, rfl, rfl⟩
 refine jK (jG (Ao 1 [.o 0 4] I J1 (jI [3] I (A1 3 0 0 [[.V e, .V f.1, .v G, .V f.2.2]] I (jH (jO (Ba [5] (K := [U4 G f.2.1]) I [] J (ob' := [O5 w [[Q1 a.n_.Nodes, Q2 a.n_.Segments, Q3 a.n_.Ports, Q4 a.n_.Stations, .V a.n_.Vapour, .V a.n_.Settle, .v w0_0, .v w0_1]], U0 w0_0 W, .us w0_1 3 1 (((a.ports.set j.1 (wr (j.2 - f.2.2))).set u.1 (wr (u.2 + f.2.2))).map rI), O4 E [[.V e, .V f.1, .list 2 (f.2.1.map Cc), .V f.2.2]], O4 F [[.V e, .V f.1, .v G, .V f.2.2]]]) (.cons (.same _) (.cons (.same _) (.cons (.same _) (.cons (.arr (.cons (.refl _) (.cons (.refl _) (.cons (.us 0 I) (.rest _))))) (.rest _)))))) (C9 N4 I ?_)))))))
 obtain rfl := oi h
 exact jN ⟨.inr I, [_], [O5 w [[Q1 a.n_.Nodes, Q2 a.n_.Segments, Q3 a.n_.Ports, Q4 a.n_.Stations, .V a.n_.Vapour, .V a.n_.Settle, .v w0_0, .v w0_1]], U0 w0_0 W, .us w0_1 3 1 (((a.ports.set j.1 (wr (j.2 - f.2.2))).set u.1 (wr (u.2 + f.2.2))).map rI)], ⟨⟨3, _, _, _, _, _, _, _, I5⟩, J⟩, Cx I (Cx I (Cx I (Ct))), ⟨[O5 w [[Q1 a.n_.Nodes, Q2 a.n_.Segments, Q3 a.n_.Ports, Q4 a.n_.Stations, .V a.n_.Vapour, .V a.n_.Settle, .v w0_0, .v w0_1]], U0 w0_0 W, .us w0_1 3 1 (((a.ports.set j.1 (wr (j.2 - f.2.2))).set u.1 (wr (u.2 + f.2.2))).map rI)], [], I, I, w0_0, w0_1, I3⟩⟩
theorem Yc (b : Nw) (K : Plan) (r : (List Path) × Int) (h : Rf b K = some r) : ACalls Ah 46 [.agg (Aa b), .agg (Al K)] [] (fun x new => ∃ (R : Value), x = .tup [.v R, .V r.2] ∧ new = [U3 R r.1]) := by
 refine Ae Tryz.func46 I I I fun C hC => ?_
 refine Ab fun y1 Z => jG (jI [] I (Br (Aa b) 6 fun b2 => jI [] I (Br (Al K) 3 fun b3 => Af 2 I (jH ?_))))
 subst Z
 refine Ab fun y4 aa => jK ?_
 obtain ⟨r5, ab, h⟩ := Ac h
 refine jG (Ao 1 [.o 0 0] I J1 (jU (H7 _ _ ab) (Af 1 I (jH (Aj I (Ar h I ?_ ?_))))))
 intro ac h
 refine Aj I (jO (Au 50 4) (C9 [2] I ?_))
 cases io h
 exact jN ⟨.inr I, [_, _], [.us nS 50 4 ([].map Bo)], J2, Cx I (Ct), ⟨nS, I2⟩⟩
 intro ac h
 refine jL ?_
 subst aa
 refine Ab fun y8 ad => jK ?_
 obtain ⟨r9, ae, h⟩ := Ac h
 refine jG (Ao 2 [.o 0 0, .o 1 1] I J2 (jU (Lp _ _ _ ae) (Af 1 I (jH (Aj I (Ar h I ?_ ?_))))))
 intro af h
 refine Aj I (jO (Au 50 4) (C9 [2] I ?_))
 cases io h
 exact jN ⟨.inr I, [_, _], [.us nS 50 4 ([].map Bo)], J2, Cx I (Ct), ⟨nS, I2⟩⟩
 intro af h
 refine jL ?_
 subst ad
 refine Ab fun bf ag => ?_
 obtain ⟨bg, ah, h⟩ := Ac h
 obtain ⟨ai, aj, h⟩ := Ac h
 refine jT (sl 3 0 (.still 4 (.still 5 (.act 3 (.act 6 (.still 7 (.act 8 (.still 9 .nil)))))))) [0, 1] [_, _] I (Bx 5 [.o 0 0, .o 2 1, .o 4 1] I J3 (jJ [] I I I (Cq I I I (Qd _ _ ah) dS ?_)))
 rintro _ _ ⟨M, rfl, rfl⟩
 refine jJ [] I I I (Cq I I I (Qd _ _ aj) dS ?_)
 rintro _ _ ⟨O, rfl, rfl⟩
 refine jW 2 I fun ak => jW 3 I fun al => Q7 I (Bk (l := [Q1 b.Nodes, Q2 b.Segments, Q3 b.Ports, Q4 b.Stations, .V b.Vapour, .V b.Settle, .v M, .v O]) T7 (Ci I I I I (Ci I I (A8 ak) I (Ci I I (A8 al) I (Fr))))) I (jJ [] I I I (Br [Q1 b.Nodes, Q2 b.Segments, Q3 b.Ports, Q4 b.Stations, .V b.Vapour, .V b.Settle, .v M, .v O] 8 fun A => Ax 1 I (Ap (jH ?_))))
 subst ag
 refine Aj I (Ai (fun s ob => ∃ (B : List Path) (i : Value), Rf.J1 B = some r ∧ s = [(9, .v i)] ∧ ob = [U3 i B]) [] J ?_ ?_)
 refine Ab fun bh am => jG (Ao 4 [.o 3 4] I J1 (jR (Cp 3 I I I I) I (Af 1 I (jH ?_))))
 subst am
 refine jM (aJ 3 I fun an => jO (Au 50 4) ?_)
 obtain ⟨bi, ao, S⟩ := Ac h
 refine Ft ao (K2 8 36) J2 (fun (P : Nat) (e : (List Bt) × (List Sg) × (List Port) × (List Sn) × Int × Int × Li × Li × (List Path)) s ob => ∃ (j : Value) (n : Value) (g : Value), s = [(37, .V (P : Int)), (9, .v g)] ∧ ob = [U0 j e.2.2.2.2.2.2.1, U0 n e.2.2.2.2.2.2.2.1, O5 A [[Q1 e.1, Q2 e.2.1, Q3 e.2.2.1, Q4 e.2.2.2.1, .V e.2.2.2.2.1, .V e.2.2.2.2.2.1, .v j, .v n]], U3 g e.2.2.2.2.2.2.2.2]) ⟨M, O, nS, I2⟩ ⟨I, I, J⟩ (pk [2, 3, 4, 5]) ?_ ?_
 rintro P e aq s ob U ⟨j, n, g, rfl, rfl⟩ h ar
 unfold Rf.B2 at h
 have au := Cy U
 refine Aj I (Ab fun bj av => Bs I au (jL ?_))
 subst av
 refine Ai (fun s ob => ∃ (f : (List Bt) × (List Sg) × (List Port) × (List Sn) × Int × Int × Li × Li × (List Path)) (D : Value) (E : Value) (F : Value), Rf.J3 f = some aq ∧ s = [(9, .v F)] ∧ ob = [U0 D f.2.2.2.2.2.2.1, U0 E f.2.2.2.2.2.2.2.1, O5 A [[Q1 f.1, Q2 f.2.1, Q3 f.2.2.1, Q4 f.2.2.2.1, .V f.2.2.2.2.1, .V f.2.2.2.2.2.1, .v D, .v E]], U3 F f.2.2.2.2.2.2.2.2]) (K3 8 36 37) J3 ?_ ?_
 refine jM (Aj I (jM ?_))
 obtain ⟨bk, aw, W⟩ := Ac h
 refine Cg aw (K4 8 10 36 37) J4 (fun (a : (List Bt) × (List Sg) × (List Port) × (List Sn) × Int × Int × Li × Li × (List Path)) s ob => ∃ (t : Value) (u : Value) (G : Value), s = [(9, .v G)] ∧ ob = [U0 t a.2.2.2.2.2.2.1, U0 u a.2.2.2.2.2.2.2.1, O5 A [[Q1 a.1, Q2 a.2.1, Q3 a.2.2.1, Q4 a.2.2.2.1, .V a.2.2.2.2.1, .V a.2.2.2.2.2.1, .v t, .v u]], U3 G a.2.2.2.2.2.2.2.2]) ⟨j, n, g, I2⟩ ⟨I, J⟩ (pk N4) ?_
 rintro a bl s ob ⟨t, u, G, rfl, rfl⟩ h X
 refine Ab fun bm ax => jK ?_
 obtain ⟨Q, ⟨ay, Y⟩, h⟩ := Bh h
 refine jG (Ao 5 [.o 3 2] I J1 (jR (Be 1 (m := Q.1) I I I I I I I ay (Ag Y)) I (jR (A7 1 Q.1 0 I I I (Ag Y) I (y := .V Q.2) I) I (Af 1 I (jH (Ar h I ?_ ?_))))))
 intro az h
 refine jL ?_
 subst ax
 refine jM (Ab fun bn a0 => ?_)
 obtain ⟨H, a1, h⟩ := Ac h
 refine jG (Af 2 I (jI [2, 0, 1] I (Fk [2, 0, 1] (Zp A _ t u _ _ a1) ?_)))
 rintro _ _ _ - ⟨a2, a3, rfl, rfl, rfl⟩
 refine jI [] I (Bf W3 4 fun bo => jI [4] I (A1 4 0 0 [Bo H.1] I (jH ?_)))
 subst a0
 refine jK (Dv 59 (((a.2.2.2.2.2.2.2.2.length : Int) == 64) || decide ((H.1.Hops.length : Int) > 32)) ?_ ?_)
 refine jG (Af 1 I (jR (Cp 3 I I I I) I (Af 2 I ?_)))
 rcases bt (((a.2.2.2.2.2.2.2.2.length : Int) == 64)) with w | w
 exact Ad 54 I w (Af 5 I (jH (jf (by simp only [w, bz]) I I I2)))
 exact Ad 54 I w (Ao 5 [.o 1 4, .l 2 (H.1.Hops.length : Int)] I ⟨As, I, J⟩ (jH (jf (by simp only [w, bz]) I I I2)))
 refine Ar h I ?_ ?_
 intro a4 h
 refine Aj I ?_
 obtain rfl := X _ (oi h).symm
 have h := W
 have h := De h
 obtain rfl := ar _ (oi h).symm
 have h := S
 have h := Db h
 refine jO (Au 50 4) (C9 [5] I ?_)
 cases io h
 exact jN ⟨.inr I, [_, _], [.us nS 50 4 ([].map Bo)], J2, Cx I (Ct), ⟨nS, I2⟩⟩
 intro a4 h
 refine jL ?_
 obtain ⟨bp, a5, h⟩ := Ac h
 refine jG (Ao 2 [.o 1 4] I J1 (jI [] I (jQ 4 (([H.1] : List Path).map Bo) (jI [3] I (jV 3 I a5 fun a6 => Af 1 I ?_)))))
 cases io h
 exact jH ⟨_, _, _, I, ⟨a2, a3, a6, I2⟩, J5, pk N4⟩
 intro az h
 obtain rfl := X _ (oi h).symm
 have h := W
 have h := Db h
 exact jP (lg ⟨(a.1, a.2.1, a.2.2.1, a.2.2.2.1, a.2.2.2.2.1, a.2.2.2.2.2.1, a.2.2.2.2.2.2.1, a.2.2.2.2.2.2.2.1, a.2.2.2.2.2.2.2.2), t, u, G, h, I2⟩ N4)
 rintro s ob ⟨f, D, E, F, h, rfl, rfl⟩
 unfold Rf.J3 at h
 refine jG (Ao 2 [.k 0 (P + 1 : Nat)] I ⟨Ay U an, J⟩ ?_)
 cases io h
 exact jH ⟨_, _, _, I, ⟨D, E, F, I2⟩, J4, pk N4⟩
 rintro e s ob ⟨j, n, g, rfl, rfl⟩ he
 subst he
 have h := De S
 have a7 := Cz ai.length
 exact Aj I (Ab fun bq br => Bu I a7 (jP (lg ⟨e.2.2.2.2.2.2.2.2, g, h, I2⟩ [3])))
 rintro s ob ⟨B, i, h, rfl, rfl⟩
 unfold Rf.J1 at h
 refine Aj I ?_
 cases io h
 exact jN ⟨.inr I, [_, _], [U3 i B], J2, Cx I (Ct), ⟨i, I2⟩⟩
theorem Yk (a : List Hop) (F1 : T) {c : FuncId} {d e : List T} (o : I9 F1 = some (c, d, e)) (f : Hop → Option Bool) (p : ∀ (g : Hop) r, f g = some r → ACalls Ah c (d ++ [.agg (Cc g)] ++ e) [] (RB r)) (r : Int) (h : M3 a f = some r) : ACalls Ah 157 [.list 2 (a.map Cc), F1] [] (RV (.V r)) := by
 refine Ae Tryz.func157 I I I fun C hC => ?_
 unfold M3 at h
 refine Aj I (Ai (fun s ob => ∃ (i : Unit), M3.J1 i = some r ∧ s = [] ∧ ob = []) [] J ?_ ?_)
 refine Bd [.l 1 (a.length : Int)] I ⟨As, J⟩ (jM (Ca 6 I fun q => ?_))
 obtain ⟨G, t, j⟩ := Ac h
 refine Bw t (K3 0 1 7) J3 (fun (b : Nat) (m : Unit) s ob => s = [(8, .V (b : Int))] ∧ ob = []) ⟨I, I⟩ ⟨I, J⟩ (pk []) ?_ ?_
 rintro b u m H s ob w n ⟨rfl, rfl⟩ h y
 have A := Cy n
 refine Aj I (Ab fun K B => Bs I A (jL ?_))
 subst B
 refine jK (jM (Aj I (jK ?_)))
 obtain ⟨M, D, h⟩ := Ac h
 refine jG (Ao 5 [.x 3 b (Cc u)] I ⟨⟨I, Ag w⟩, J⟩ (jI [] I (Cb I (.refl _) o I (.rest _) I (p _ _ D) dS (by rintro _ _ ⟨rfl, _⟩; rfl) ?_)))
 rintro _ ⟨_, rfl, -⟩
 refine jH (Ar h I ?_ ?_)
 intro E h
 refine Aj I ?_
 obtain rfl := y _ (oi h).symm
 have h := j
 have h := Db h
 cases io h
 exact jN pr
 intro E h
 refine jL (jG (Ao 2 [.k 0 (b + 1 : Nat)] I ⟨Ay n q, J⟩ ?_))
 cases io h
 exact jH ⟨_, _, _, I, I2, J4, pk []⟩
 rintro m s ob ⟨rfl, rfl⟩ he
 subst he
 have h := De j
 have F := Cz a.length
 exact Aj I (Ab fun N O => Bu I F (jP (lg ⟨(), h, I2⟩ [])))
 rintro s ob ⟨i, h, rfl, rfl⟩
 unfold M3.J1 at h
 refine Aj I ?_
 cases io h
 exact jN pr
theorem Zg (b : List Hop) (F1 : T) {d : FuncId} {e f : List T} (i : I9 F1 = some (d, e, f)) (a : Hop → Option Bool) (j : ∀ (g : Hop) r, a g = some r → ACalls Ah d (e ++ [.agg (Cc g)] ++ f) [] (RB r)) (r : Bool) (h : Nk b a = some r) : ACalls Ah 96 [.list 2 (b.map Cc), F1] [] (RB r) := by
 refine Ae Tryz.func96 I I I fun C hC => ?_
 refine Aj I (jK ?_)
 obtain ⟨l, k, h⟩ := Ac h
 refine jG (Af 2 I (jU (Yk _ F1 i a j _ k) (Af 2 I (jH ?_))))
 cases io h
 exact jN pr
theorem Qo (a : List Path) (F1 : T) {c : FuncId} {d e : List T} (o : I9 F1 = some (c, d, e)) (f : Path → Option Bool) (p : ∀ (g : Path) r, f g = some r → ACalls Ah c (d ++ [.agg (Bo g)] ++ e) [] (RB r)) (r : Int) (h : Ky a f = some r) : ACalls Ah 112 [Q6 a, F1] [] (RV (.V r)) := by
 refine Ae Tryz.func112 I I I fun C hC => ?_
 unfold Ky at h
 refine Aj I (Ai (fun s ob => ∃ (i : Unit), Ky.J1 i = some r ∧ s = [] ∧ ob = []) [] J ?_ ?_)
 refine Bd [.l 1 (a.length : Int)] I ⟨As, J⟩ (jM (Ca 6 I fun q => ?_))
 obtain ⟨G, t, j⟩ := Ac h
 refine Bw t (K3 0 1 7) J3 (fun (b : Nat) (m : Unit) s ob => s = [(8, .V (b : Int))] ∧ ob = []) ⟨I, I⟩ ⟨I, J⟩ (pk []) ?_ ?_
 rintro b u m H s ob w n ⟨rfl, rfl⟩ h y
 have A := Cy n
 refine Aj I (Ab fun K B => Bs I A (jL ?_))
 subst B
 refine jK (jM (Aj I (jK ?_)))
 obtain ⟨M, D, h⟩ := Ac h
 refine jG (Ao 5 [.x 3 b (Bo u)] I ⟨⟨I, Ag w⟩, J⟩ (jI [] I (Cb I (.refl _) o I (.rest _) I (p _ _ D) dS (by rintro _ _ ⟨rfl, _⟩; rfl) ?_)))
 rintro _ ⟨_, rfl, -⟩
 refine jH (Ar h I ?_ ?_)
 intro E h
 refine Aj I ?_
 obtain rfl := y _ (oi h).symm
 have h := j
 have h := Db h
 cases io h
 exact jN pr
 intro E h
 refine jL (jG (Ao 2 [.k 0 (b + 1 : Nat)] I ⟨Ay n q, J⟩ ?_))
 cases io h
 exact jH ⟨_, _, _, I, I2, J4, pk []⟩
 rintro m s ob ⟨rfl, rfl⟩ he
 subst he
 have h := De j
 have F := Cz a.length
 exact Aj I (Ab fun N O => Bu I F (jP (lg ⟨(), h, I2⟩ [])))
 rintro s ob ⟨i, h, rfl, rfl⟩
 unfold Ky.J1 at h
 refine Aj I ?_
 cases io h
 exact jN pr
theorem Qh (b : List Path) (F1 : T) {d : FuncId} {e f : List T} (i : I9 F1 = some (d, e, f)) (a : Path → Option Bool) (j : ∀ (g : Path) r, a g = some r → ACalls Ah d (e ++ [.agg (Bo g)] ++ f) [] (RB r)) (r : Bool) (h : M1 b a = some r) : ACalls Ah 116 [Q6 b, F1] [] (RB r) := by
 refine Ae Tryz.func116 I I I fun C hC => ?_
 refine Aj I (jK ?_)
 obtain ⟨l, k, h⟩ := Ac h
 refine jG (Af 2 I (jU (Qo _ F1 i a j _ k) (Af 2 I (jH ?_))))
 cases io h
 exact jN pr
theorem Gj (a : Li) (b : Int) (r : Bool) (h : Fo a b = some r) : ACalls Ah 89 [Q0 a, .V b] [] (RB r) := by
 refine Ae Tryz.func89 I I I fun C hC => ?_
 refine Aj I (jK ?_)
 obtain ⟨e, d, h⟩ := Ac h
 refine jG (Af 2 I (jU (Yv _ _ _ d) (Af 2 I (jH ?_))))
 cases io h
 exact jN pr
theorem Ds (a : Int) (c : Nw) (r : Bool) (h : Gs a c = r) : ACalls Ah 171 [.V a, .eptr (Aa c)] [] (RB r) := by
 refine Ae Tryz.func171 I I I fun C hC => ?_
 unfold Gs at h
 refine Aj I (Ai (fun s ob => s = [(3, .v (.bool (decide (a ≥ 0) && decide (a < (c.Ports.length : Int)))))] ∧ ob = []) [] J ?_ ?_)
 refine jG (Af 3 I ?_)
 rcases bt (decide (a ≥ 0)) with b | b
 refine Ad 6 I b (Ao 7 [.l 3 (c.Ports.length : Int)] I ⟨As, J⟩ (jH ?_))
 exact lf I2 ⟨(Em (by simp only [b, bz])), J⟩ [] I
 refine Ad 6 I b (Af 7 I (jH ?_))
 exact lf I2 ⟨(Em (by simp only [b, bz])), J⟩ [] I
 rintro s ob ⟨rfl, rfl⟩
 obtain rfl := h
 exact jN pr
theorem Zv (a : Nw) (b : Hop) (r : Int × Int) (h : Uq a b = some r) : ACalls Ah 172 [.agg (Aa a), .agg (Cc b)] [] (RV (.tup [.V r.1, .V r.2])) := by
 refine Ae Tryz.func172 I I I fun C hC => ?_
 refine Ab fun j d => jG (jI [] I (Br (Aa a) 6 fun k => jI [] I (Br (Cc b) 2 fun l => Af 2 I (jH ?_))))
 subst d
 refine Ab fun n e => ?_
 obtain ⟨c, ⟨f, g⟩, h⟩ := Bh h
 refine jG (Ao 6 [.o 1 0, .o 3 1, .x 4 c.1 (Am c.2)] I ⟨⟨f, Ag g⟩, I, I, J⟩ (jI [] I (Bf W1 7 fun p => jI [2] I (A1 2 0 0 [Am c.2] I (jH ?_)))))
 subst e
 refine jK (Bd [.o 1 1] I J1 (Ar h I ?_ ?_))
 intro i h
 refine Mp (pd 6 0 []) [2] [_] [.o 1 0, .o 3 0] I I J2 (jO g0 ?_)
 cases io h
 exact jN ⟨.inr I, [_, _], [], J2, Ct, I2⟩
 intro i h
 refine jL (Mp (pd 6 0 []) [2] [_] [.o 1 0, .o 3 0] I I J2 (jO g0 ?_))
 cases io h
 exact jN ⟨.inr I, [_, _], [], J2, Ct, I2⟩
theorem Zo (b : Nw) (a : Path) (r : Bool) (h : K0 b a = some r) : ACalls Ah 118 [.agg (Aa b), .agg (Bo a)] [] (RB r) := by
 refine Ae Tryz.func118 I I I fun C hC => ?_
 unfold K0 at h
 refine Ab fun y1 O => jG (jI [] I (Br (Aa b) 6 fun A => jI [] I (Br (Bo a) 4 fun B => Af 1 I (jH ?_))))
 subst O
 refine Ab fun y4 P => jG (Bv (kE I I) I (Af 1 I (jH ?_)))
 subst P
 refine Ab fun y5 Q => Dv 47 ((!(Gs a.In b)) || ((!(Gs a.Out b)) || ((a.In == a.Out) || (decide (a.Rate < 1) || (decide (a.Rate > 1000) || decide ((a.Hops.length : Int) > 32)))))) ?_ ?_
 rcases bt ((!(Gs a.In b))) with d | d
 refine jG (Ao 3 [.o 2 1] I J1 (jI [] I (Cb I (.fn (.rest _) (.cons (.box 0 I (.rest _)) (.rest _))) I I (.rest _) I (Ds a.In b _ I) dS (by rintro _ _ ⟨rfl, _⟩; rfl) ?_)))
 rintro _ ⟨_, rfl, -⟩
 exact Af 2 I (Ad 18 I d (Af 29 I (jH (jf (by simp only [d, bz]) I I I2))))
 rcases bt ((!(Gs a.Out b))) with e | e
 refine jG (Ao 3 [.o 2 1] I J1 (jI [] I (Cb I (.fn (.rest _) (.cons (.box 0 I (.rest _)) (.rest _))) I I (.rest _) I (Ds a.In b _ I) dS (by rintro _ _ ⟨rfl, _⟩; rfl) ?_)))
 rintro _ ⟨_, rfl, -⟩
 refine Af 2 I (Ad 18 I d (Ao 3 [.o 2 1] I J1 (A3 I I I (jI [] I (Cb I (.fn (.rest _) (.cons (.box 0 I (.rest _)) (.rest _))) I I (.rest _) I (Ds a.Out b _ I) dS (by rintro _ _ ⟨rfl, _⟩; rfl) ?_)))))
 rintro _ ⟨_, rfl, -⟩
 exact Af 3 I (Ad 25 I e (Af 22 I (jH (jf (by simp only [d, e, bz]) I I I2))))
 rcases bt ((a.In == a.Out)) with f | f
 refine jG (Ao 3 [.o 2 1] I J1 (jI [] I (Cb I (.fn (.rest _) (.cons (.box 0 I (.rest _)) (.rest _))) I I (.rest _) I (Ds a.In b _ I) dS (by rintro _ _ ⟨rfl, _⟩; rfl) ?_)))
 rintro _ ⟨_, rfl, -⟩
 refine Af 2 I (Ad 18 I d (Ao 3 [.o 2 1] I J1 (A3 I I I (jI [] I (Cb I (.fn (.rest _) (.cons (.box 0 I (.rest _)) (.rest _))) I I (.rest _) I (Ds a.Out b _ I) dS (by rintro _ _ ⟨rfl, _⟩; rfl) ?_)))))
 rintro _ ⟨_, rfl, -⟩
 exact Af 3 I (Ad 25 I e (Ao 7 [.o 1 1, .o 3 1] I J2 (Ad 32 I f (Af 15 I (jH (jf (by simp only [d, e, f, bz]) I I I2))))))
 rcases bt (decide (a.Rate < 1)) with i | i
 refine jG (Ao 3 [.o 2 1] I J1 (jI [] I (Cb I (.fn (.rest _) (.cons (.box 0 I (.rest _)) (.rest _))) I I (.rest _) I (Ds a.In b _ I) dS (by rintro _ _ ⟨rfl, _⟩; rfl) ?_)))
 rintro _ ⟨_, rfl, -⟩
 refine Af 2 I (Ad 18 I d (Ao 3 [.o 2 1] I J1 (A3 I I I (jI [] I (Cb I (.fn (.rest _) (.cons (.box 0 I (.rest _)) (.rest _))) I I (.rest _) I (Ds a.Out b _ I) dS (by rintro _ _ ⟨rfl, _⟩; rfl) ?_)))))
 rintro _ ⟨_, rfl, -⟩
 exact Af 3 I (Ad 25 I e (Ao 7 [.o 1 1, .o 3 1] I J2 (Ad 32 I f (Ao 5 [.o 1 1] I J1 (Ad 37 I i (Af 10 I (jH (jf (by simp only [d, e, f, i, bz]) I I I2))))))))
 rcases bt (decide (a.Rate > 1000)) with j | j
 refine jG (Ao 3 [.o 2 1] I J1 (jI [] I (Cb I (.fn (.rest _) (.cons (.box 0 I (.rest _)) (.rest _))) I I (.rest _) I (Ds a.In b _ I) dS (by rintro _ _ ⟨rfl, _⟩; rfl) ?_)))
 rintro _ ⟨_, rfl, -⟩
 refine Af 2 I (Ad 18 I d (Ao 3 [.o 2 1] I J1 (A3 I I I (jI [] I (Cb I (.fn (.rest _) (.cons (.box 0 I (.rest _)) (.rest _))) I I (.rest _) I (Ds a.Out b _ I) dS (by rintro _ _ ⟨rfl, _⟩; rfl) ?_)))))
 rintro _ ⟨_, rfl, -⟩
 exact Af 3 I (Ad 25 I e (Ao 7 [.o 1 1, .o 3 1] I J2 (Ad 32 I f (Ao 5 [.o 1 1] I J1 (Ad 37 I i (Ao 5 [.o 1 1] I J1 (Ad 42 I j (Af 5 I (jH (jf (by simp only [d, e, f, i, j, bz]) I I I2))))))))))
 refine jG (Ao 3 [.o 2 1] I J1 (jI [] I (Cb I (.fn (.rest _) (.cons (.box 0 I (.rest _)) (.rest _))) I I (.rest _) I (Ds a.In b _ I) dS (by rintro _ _ ⟨rfl, _⟩; rfl) ?_)))
 rintro _ ⟨_, rfl, -⟩
 refine Af 2 I (Ad 18 I d (Ao 3 [.o 2 1] I J1 (A3 I I I (jI [] I (Cb I (.fn (.rest _) (.cons (.box 0 I (.rest _)) (.rest _))) I I (.rest _) I (Ds a.Out b _ I) dS (by rintro _ _ ⟨rfl, _⟩; rfl) ?_)))))
 rintro _ ⟨_, rfl, -⟩
 exact Af 3 I (Ad 25 I e (Ao 7 [.o 1 1, .o 3 1] I J2 (Ad 32 I f (Ao 5 [.o 1 1] I J1 (Ad 37 I i (Ao 5 [.o 1 1] I J1 (Ad 42 I j (Ao 5 [.o 1 1, .l 2 (a.Hops.length : Int)] I ⟨As, I, J⟩ (jH (jf (by simp only [d, e, f, i, j, bz]) I I I2))))))))))
 refine Ar h I ?_ ?_
 intro R h
 refine Aj I (jO g0 ?_)
 cases io h
 exact jN pr
 intro R h
 refine jL ?_
 subst Q
 refine Ab fun ay S => ?_
 obtain ⟨D, ⟨U, W⟩, h⟩ := Bh h
 refine Mo [.o 1 0, .o 3 1, .x 4 D.1 (Bb D.2)] I ⟨⟨U, Ag W⟩, I, I, J⟩ ?_
 subst S
 refine Ab fun az X => jG (Af 1 I (jI [] I (jY (sz := 1) (es := ([D.2.Node] : Li).map rI) I I I I I I I I I I I dS fun Y => Af 1 I (jH ?_))))
 subst X
 refine Ai (fun s ob => ∃ (E : Int), K0.J1 b a E = some r ∧ s = [(6, .V E)] ∧ ob = [O1 A [Aa b], O4 B [Bo a]]) (K2 2 3) J2 ?_ ?_
 refine Bd [.o 1 1, .l 2 (a.Hops.length : Int)] I ⟨As, I, J⟩ (jM (Ca 58 I fun Z => ?_))
 obtain ⟨a0, aa, F⟩ := Ac h
 refine Bw aa (K4 2 3 58 59) J4 (fun (y : Nat) (g : Int × Li) s ob => ∃ (n : Value), s = [(60, .V (y : Int)), (6, .V g.1), (7, .v n)] ∧ ob = [O1 A [Aa b], O4 B [Bo a], U0 n g.2]) ⟨Y, I2⟩ ⟨I, I, I, J⟩ (pk N3) ?_ ?_
 rintro y t g ab s ob ac K ⟨n, rfl, rfl⟩ h M
 unfold K0.B2 at h
 have ad := Cy K
 refine Aj I (Ab fun a1 ae => Bs I ad (jL ?_))
 subst ae
 refine jK (jM (Ab fun a2 af => jG (Ao 2 [.x 0 y (Cc t)] I ⟨⟨I, Ag ac⟩, J⟩ (jI [] I (Bf [.V 0, .v (.bool false)] 2 fun a3 => jI [3] I (A1 3 0 0 [Cc t] I (jH ?_)))))))
 subst af
 refine Ab fun a4 ag => Dv 74 (decide (t.Segment < 0) || decide (t.Segment ≥ (b.Segments.length : Int))) ?_ ?_
 refine jG (Ao 4 [.o 1 3] I J1 ?_)
 rcases bt (decide (t.Segment < 0)) with u | u
 exact Ad 67 I u (Af 7 I (jH (jf (by simp only [u, bz]) I I I2)))
 exact Ad 67 I u (Ao 7 [.o 1 3, .o 3 0, .l 4 (b.Segments.length : Int)] I ⟨As, I, I, J⟩ (jH (jf (by simp only [u, bz]) I I I2)))
 refine Ar h I ?_ ?_
 intro ah h
 refine Aj I ?_
 obtain rfl := M _ (oi h).symm
 have h := F
 have h := Db h
 refine jO g0 ?_
 cases io h
 exact jN pr
 intro ah h
 refine jL ?_
 subst ag
 refine Ab fun a5 ai => ?_
 obtain ⟨G, aj, h⟩ := Ac h
 refine jG (Ao 2 [.o 0 0, .o 1 3] I J2 (jU (Zv _ _ _ aj) (Af 5 I (jH ?_))))
 subst ai
 refine jK (Ai (fun s ob => ∃ (H : Bool), K0.J3 g G H = some ab ∧ s = [(88, .v (.bool H))] ∧ ob = [O1 A [Aa b], O4 B [Bo a], U0 n g.2]) (K7 2 3 7 11 58 59 60) J7 ?_ ?_)
 rcases bt ((G.1 != g.1)) with w | w
 have h := Bp w h
 exact jG (Af 4 I (Ad 84 I w (Af 4 I (jH (lg ⟨true, h, I2⟩ N3)))))
 have h := Bq w h
 obtain ⟨ak, al, h⟩ := Ac h
 refine jG (Af 4 I (Ad 84 I w (Af 2 I (A3 I I I (jI [] I (Cb I (.refl _) I I (.cons (.us 2 I) (.rest _)) I (Gj _ _ _ al) dS (by rintro _ _ ⟨rfl, _⟩; rfl) ?_))))))
 rintro _ ⟨_, rfl, -⟩
 exact Af 1 I (jH (lg ⟨ak, h, I2⟩ N3))
 rintro s ob ⟨H, h, rfl, rfl⟩
 refine Ar h I ?_ ?_
 intro am h
 refine Aj I ?_
 obtain rfl := M _ (oi h).symm
 have h := F
 have h := Db h
 refine jO g0 ?_
 cases io h
 exact jN pr
 intro am h
 refine jL ?_
 obtain ⟨a6, an, h⟩ := Ac h
 refine jG (Af 3 I (jI [] I (jQ 1 (([G.2] : Li).map rI) (jI [2] I (jV 2 I an fun ao => Af 2 I (jH (jG (Ao 2 [.k 0 (y + 1 : Nat)] I ⟨Ay K Z, J⟩ ?_))))))))
 cases io h
 exact jH ⟨_, _, _, I, ⟨ao, I2⟩, J7, pk N3⟩
 rintro g s ob ⟨n, rfl, rfl⟩ he
 subst he
 have h := De F
 have aq := Cz a.Hops.length
 exact Aj I (Ab fun a7 a8 => Bu I aq (jP (lg ⟨g.1, h, I2⟩ [0, 1])))
 rintro s ob ⟨E, h, rfl, rfl⟩
 refine jK ?_
 obtain ⟨N, ⟨ar, au⟩, h⟩ := Bh h
 refine Mo [.o 2 0, .o 4 1, .x 5 N.1 (Bb N.2)] I ⟨⟨ar, Ag au⟩, I, I, J⟩ (jO g0 ?_)
 cases io h
 exact jN pr
theorem X5 (e : List Path) (r : Bool) (h : Kp e = some r) : ACalls Ah 119 [Q6 e] [] (RB r) := by
 refine Ae Tryz.func119 I I I fun C hC => ?_
 unfold Kp at h
 refine Aj I (Ab fun y2 F => jG (jI [] I (AX.makeMap mB dS fun n => Af 1 I (jH ?_))))
 subst F
 refine Ai (fun s ob => ∃ (y : Unit), Kp.J1 y = some r ∧ s = [] ∧ ob = []) [] J ?_ ?_
 refine Bd [.l 1 (e.length : Int)] I ⟨As, J⟩ (jM (Ca 11 I fun G => ?_))
 obtain ⟨ag, H, A⟩ := Ac h
 refine Bw H (K3 3 11 12) J3 (fun (g : Nat) (t : List (Int × Bool)) s ob => s = [(13, .V (g : Int))] ∧ ob = [.raw n (mapOb mB t)]) ⟨I, I⟩ ⟨I, J⟩ (pk [0]) ?_ ?_
 rintro g i t K s ob M B ⟨rfl, rfl⟩ h O
 unfold Kp.B2 at h
 have P := Cy B
 refine Aj I (Ab fun ah Q => Bs I P (jL ?_))
 subst Q
 refine Ai (fun s ob => ∃ (w : List (Int × Bool)), Kp.J3 w = some K ∧ s = [] ∧ ob = [.raw n (mapOb mB w)]) (K4 3 11 12 13) J4 ?_ ?_
 refine jM (Ab fun ai R => jG (Ao 2 [.x 0 g (Bo i)] I ⟨⟨I, Ag M⟩, J⟩ (jI [] I (Bf W3 4 fun aj => jI [1] I (A1 1 0 0 [Bo i] I (jH ?_))))))
 subst R
 refine Bd [.o 1 1, .l 2 (i.Hops.length : Int)] I ⟨As, I, J⟩ (jM (Ca 18 I fun S => ?_))
 obtain ⟨ak, U, D⟩ := Ac h
 refine Bw U (K6 3 11 12 13 18 19) J6 (fun (j : Nat) (a : List (Int × Bool)) s ob => s = [(20, .V (j : Int))] ∧ ob = [.raw n (mapOb mB a)]) ⟨I, I⟩ ⟨I, J⟩ (pk [0]) ?_ ?_
 rintro j b a al s ob W E ⟨rfl, rfl⟩ h X
 unfold Kp.B4 at h
 have Y := Cy E
 refine Aj I (Ab fun am Z => Bs I Y (jL ?_))
 subst Z
 refine jK (jM (Ab fun an aa => jG (Ao 2 [.x 0 j (Cc b)] I ⟨⟨I, Ag W⟩, J⟩ (jI [] I (Bf [.V 0, .v (.bool false)] 2 fun ao => jI [1] I (A1 1 0 0 [Cc b] I (jH ?_)))))))
 subst aa
 refine jK (Ab fun ap ab => jG (Ao 3 [.o 2 1] I J1 (jR (Vg 0 (f := mB) (z := false) (u := .v (.bool ((Df a b.Segment).getD false))) (v := .v (.bool ((Df a b.Segment).isSome))) I I I I I I I I I I I) I (Af 5 I (jH ?_)))))
 subst ab
 refine Dv 37 ((Df a b.Segment).isSome && (((Df a b.Segment).getD false) != b.Back)) ?_ ?_
 refine jG (Af 2 I ?_)
 rcases bt ((Df a b.Segment).isSome) with c | c
 exact Ad 32 I c (Ao 3 [.o 2 1] I J1 (A3 I I I (Bv (Wf I I I I) I (Af 1 I (jH (jf (by simp only [c, bz]) I I I2))))))
 exact Ad 32 I c (Af 5 I (jH (jf (by simp only [c, bz]) I I I2)))
 refine Ar h I ?_ ?_
 intro ac h
 refine Aj I ?_
 obtain rfl := X _ (oi h).symm
 have h := D
 have h := Db h
 obtain rfl := O _ (oi h).symm
 have h := A
 have h := Db h
 refine jO g0 ?_
 cases io h
 exact jN pr
 intro ac h
 refine jL (jG (Ao 5 [.o 2 1, .o 4 1] I J2 (jI [0] I (AX.mapUpdate 0 (f := mB) (z := b.Back) I I I I I I I I I (jH (jG (Ao 2 [.k 0 (j + 1 : Nat)] I ⟨Ay E S, J⟩ ?_)))))))
 cases io h
 exact jH ⟨_, _, _, I, I2, J7, pk [0]⟩
 rintro a s ob ⟨rfl, rfl⟩ he
 subst he
 have h := De D
 have ad := Cz i.Hops.length
 exact Aj I (Ab fun aq ar => Bu I ad (jP (lg ⟨a, h, I2⟩ [0])))
 rintro s ob ⟨w, h, rfl, rfl⟩
 unfold Kp.J3 at h
 refine jG (Ao 2 [.k 0 (g + 1 : Nat)] I ⟨Ay B G, J⟩ ?_)
 cases io h
 exact jH ⟨_, _, _, I, I2, J4, pk [0]⟩
 rintro t s ob ⟨rfl, rfl⟩ he
 subst he
 have h := De A
 have ae := Cz e.length
 exact Aj I (Ab fun au av => Bu I ae (jP (lg ⟨(), h, I2⟩ [])))
 rintro s ob ⟨y, h, rfl, rfl⟩
 unfold Kp.J1 at h
 refine Aj I ?_
 cases io h
 exact jN pr
theorem Y1 (a : List Bool) (r : List Bool) (h : Nd a = some r) : ACalls Ah 120 [Q5 a] [] (fun x new => ∃ (b : Value), x = .v b ∧ new = [U1 b r]) := by
  refine Ae Tryz.func120 rfl rfl rfl (fun C hC => ?_)
  unfold Nd at h
  obtain ⟨e, d⟩ := Ge h
  refine jK ?_
  refine jG ?_
  refine Bv (Yp.assign rfl) rfl ?_
  refine jH ?_
  refine jK ?_
  refine jK ?_
  refine jG ?_
  refine Bv (Yp.move rfl) rfl ?_
  refine jI [] rfl (Tn rfl rfl rfl (By rfl) fun c hc => ?_)
  refine jH ?_
  refine AW.cond rfl rfl ?_ ?_
  · intro hb
    have hs : a = [] := by have := hc hb; simpa using this
    subst hs
    refine jK ?_
    refine jG ?_
    refine Bv (Yp.assign rfl) rfl ?_
    refine AO.ghost (Au 4 1) ?_
    refine jH ?_
    refine jN ?_
    have hr : r = [] := by simpa using d.symm
    subst hr
    exact ⟨.inr rfl, [_], [.us nS 4 1 ([].map rB)], ⟨rfl, J⟩, Cx rfl Ct, ⟨_, rfl, rfl⟩⟩
  · intro hb
    refine jL ?_
    refine jK ?_
    refine jG ?_
    refine jI [] rfl (jY (sz := 1) (es := []) rfl rfl rfl rfl rfl rfl rfl rfl rfl rfl rfl (By rfl) fun g => ?_)
    refine Bv (Yp.move rfl) rfl ?_
    refine jI [0] rfl (I6 0 (es' := r.map rB) rfl rfl rfl rfl rfl rfl rfl rfl rfl (AppSrc.list rfl) (by simpa using e) (by rw [← d]; simp) (By rfl) fun f => ?_)
    refine Bv (Yp.assign rfl) rfl ?_
    refine jH ?_
    refine jN ?_
    exact ⟨.inr rfl, [_], [U1 f r], ⟨rfl, J⟩, Cx rfl Ct, ⟨_, rfl, rfl⟩⟩
theorem Yi (g : Nat) (e : Plan) (w0_0 : Value) (w0_1 : Value) (w0_2 : Value) (p : Path) (d : Int) (r : Plan) (h : Rh e p d = some r) : ACalls Ah 121 [.P g, .agg (Bo p), .V d] [O0 g [[.v w0_0, .v w0_1, .v w0_2]], U0 w0_0 e.Rates, U0 w0_1 e.Ports, U1 w0_2 e.Pumps] (En 4 fun x os new => ∃ (u0_0 : Value) (u0_1 : Value) (u0_2 : Value), x = .tup [] ∧ os = [O0 g [[.v u0_0, .v u0_1, .v u0_2]], U0 u0_0 r.Rates, U0 u0_1 r.Ports, U1 u0_2 r.Pumps] ∧ new = []) := by
 refine Ae Tryz.func121 I I I fun C hC => ?_
 refine Ab fun y1 F => jG (jI [] I (Br (Bo p) 4 fun b2 => jH ?_))
 subst F
 refine Ab fun y3 G => ?_
 obtain ⟨a, ⟨A, i⟩, h⟩ := Bh h
 refine Cn 2 a.1 I i fun H => Cn 2 a.1 I i fun K => jT aD [0, 4, 2] [_, _, _] I (Bx 6 [.o 3 0, .o 5 1] I J2 (jZ I (Bi (m := a.1) I I I I I H I A i) I (AP.o I (A7 2 a.1 0 I I I (Ag i) I (y := .V a.2) I) I (Ax 2 I (jZ I (Bi (m := a.1) I I I I I K I A i) I (kA [2] I I I (Ck 2 a.1 0 I I I (Ag i) I I I I (A6 I) I (Dp (x := wr (a.2 + d)) I) (Ap (jH ?_)))))))))
 subst G
 refine Ab fun y8 M => ?_
 obtain ⟨b, ⟨B, j⟩, h⟩ := Bh h
 refine Cn 2 b.1 I j fun N => Cn 2 b.1 I j fun O => jT aD [0, 4, 2] [_, _, _] I (Bx 6 [.o 3 0, .o 5 1] I J2 (jZ I (Bi (m := b.1) I I I I I N I B j) I (AP.o I (A7 2 b.1 0 I I I (Ag j) I (y := .V b.2) I) I (Ax 2 I (jZ I (Bi (m := b.1) I I I I I O I B j) I (kA [2] I I I (Ck 2 b.1 0 I I I (Ag j) I I I I (A6 I) I (Dp (x := wr (b.2 - d)) I) (Ap (jH ?_)))))))))
 subst M
 refine Bd [.o 1 4, .l 2 (p.Hops.length : Int)] I ⟨As, I, J⟩ (jM (Ca 31 I fun P => ?_))
 obtain ⟨af, Q, R⟩ := Ac h
 refine C1 Q (K4 0 2 31 32) J4 (fun (u : Nat) (t : Li) s ob => s = [(33, .V (u : Int))] ∧ ob = [O0 g [[.v w0_0, .v w0_1, .v w0_2]], U0 w0_0 t, .us w0_1 3 1 (((e.Ports.set a.1 (wr (a.2 + d))).set b.1 (wr (b.2 - d))).map rI), U1 w0_2 e.Pumps]) ⟨I, I⟩ ⟨I, J⟩ (pk N4) ?_ ?_
 rintro u w t ag s ob S D ⟨rfl, rfl⟩ h
 have U := Cy D
 refine Aj I (Ab fun ah W => Bs I U (jL ?_))
 subst W
 refine jK (jM (Ab fun ai X => jG (Ao 2 [.x 0 u (Cc w)] I ⟨⟨I, Ag S⟩, J⟩ (jI [] I (Bf [.V 0, .v (.bool false)] 2 fun aj => jI [4] I (A1 4 0 0 [Cc w] I (jH ?_)))))))
 subst X
 obtain ⟨f, ⟨E, n⟩, h⟩ := Bh h
 refine Cn 1 f.1 I n fun Y => Cn 1 f.1 I n fun Z => jT (sl 10 0 (.act 10 (.still 11 (.still 12 (.drop 13 .nil))))) [0, 4, 1] [_, _, _] I (Bx 6 [.o 3 0, .o 5 1] I J2 (jZ I (Bi (m := f.1) I I I I I Y I E n) I (AP.o I (A7 2 f.1 0 I I I (Ag n) I (y := .V f.2) I) I (Bx 2 [.o 0 1] I J1 (kC I (Qm w d _ I) (Ax 1 I (jZ I (Bi (m := f.1) I I I I I Z I E n) I (kA [1] I I I (Ck 1 f.1 0 I I I (Ag n) I I I I (A6 I) I (Dp (x := wr (f.2 + (Is w d))) I) (Ap (jH ?_)))))))))))
 refine jG (Ao 2 [.k 0 (u + 1 : Nat)] I ⟨Ay D P, J⟩ ?_)
 cases io h
 exact jH (lg I2 N4)
 rintro t s ob ⟨rfl, rfl⟩ he
 subst he
 have h := R
 have aa := Cz p.Hops.length
 refine Aj I (Ab fun ak al => Bu I aa ?_)
 cases io h
 refine jP ?_
 exact ⟨.inl I, [], [O0 g [[.v w0_0, .v w0_1, .v w0_2]], U0 w0_0 t, .us w0_1 3 1 (((e.Ports.set a.1 (wr (a.2 + d))).set b.1 (wr (b.2 - d))).map rI), U1 w0_2 e.Pumps], J, Cx I (Cx I (Cx I (Cx I (Ct)))), ⟨[O0 g [[.v w0_0, .v w0_1, .v w0_2]], U0 w0_0 t, .us w0_1 3 1 (((e.Ports.set a.1 (wr (a.2 + d))).set b.1 (wr (b.2 - d))).map rI), U1 w0_2 e.Pumps], [], I, I, w0_0, w0_1, w0_2, I3⟩⟩
theorem Qi (a : Path) (b : Nw) (r : Bool) (h : M2 a b = some r) : ACalls Ah 117 [.agg (Bo a), .eptr (Aa b)] [] (RB r) := by
 refine Ae Tryz.func117 I I I fun C hC => ?_
 refine jK (jG (jI [] I (Br (Bo a) 4 fun e => Af 1 I (jH (jK ?_)))))
 obtain ⟨f, d, h⟩ := Ac h
 refine jG (Ao 2 [.o 1 0] I J1 (jU (Zo _ _ _ d) (Af 2 I (jH (jO g0 ?_)))))
 cases io h
 exact jN pr
theorem Gl (b : Value) (e : List Path) (F1 : T) {n : FuncId} {p u : List T} (w : I9 F1 = some (n, p, u)) (i : Path → Option Bool) (A : ∀ (B : Path) r, i B = some r → ACalls Ah n (p ++ [.agg (Bo B)] ++ u) [] (RB r)) (r : List Path) (h : M8 e i = some r) : ACalls Ah 98 [.v b, F1] [U3 b e] (En 1 fun x os new => ∃ (D : Value), x = .v D ∧ os = [.us nS 50 4 ([].map Bo)] ∧ new = [U3 D r]) := by
 refine Ae Tryz.func98 I I I fun C hC => ?_
 refine Aj I (Ab fun y2 H => ?_)
 obtain ⟨r3, K, h⟩ := Ac h
 refine jG (Af 2 I (jI [] I (Cb I (.refl _) I I (.cons (.us 0 I) (.rest _)) I (Qo _ F1 w i A _ K) dS (by rintro _ _ ⟨rfl, _⟩; rfl) ?_)))
 rintro _ ⟨_, rfl, -⟩
 refine Af 1 I (jH ?_)
 subst H
 refine Ab fun y5 M => Aj I (Ar h I ?_ ?_)
 intro O h
 refine Aj I (jO (Au 50 4) (C9 [1, 0] I ?_))
 obtain rfl := oi h
 exact jN ⟨.inr I, [_], [.us nS 50 4 ([].map Bo), U3 b e], J1, Cx I (Cx I (Ct)), ⟨[.us nS 50 4 ([].map Bo)], [U3 b e], I, I, b, I3⟩⟩
 intro O h
 refine jL ?_
 subst M
 refine Ai (fun s ob => ∃ (f : (List Path) × Int), M8.J1 f = some r ∧ s = [(5, .V f.2)] ∧ ob = [U3 b f.1]) [(0, _)] J1 ?_ ?_
 refine Aj I (jM ?_)
 obtain ⟨ah, P, Q⟩ := Ac h
 refine Cg P (K2 0 1) J2 (fun (a : (List Path) × Int × Int) s ob => s = [(5, .V a.2.1), (6, .V a.2.2)] ∧ ob = [U3 b a.1]) ⟨I, I⟩ ⟨I, I, J⟩ (pk [0]) ?_
 rintro a R s ob ⟨rfl, rfl⟩ h S
 refine Ab fun ai U => jK (jG (Af 2 I (jR (Cp 0 I I I I) I (Af 1 I (jH (Ar h I ?_ ?_))))))
 intro W h
 refine jL ?_
 subst U
 refine Ai (fun s ob => ∃ (g : (List Path) × Int), M8.J3 a g = some R ∧ s = [(5, .V g.2)] ∧ ob = [U3 b g.1]) (K3 0 1 6) J3 ?_ ?_
 refine jM (Ab fun aj X => ?_)
 obtain ⟨c, ⟨Y, E⟩, h⟩ := Bh h
 refine jG (Af 2 I (jR (Be 0 (m := c.1) I I I I I I I Y (Ag E)) I (jR (A7 0 c.1 0 I I I (Ag E) I (y := .agg (Bo c.2)) I) I (jI [] I (Bf W3 4 fun ak => jI [1] I (A1 1 0 0 [Bo c.2] I (jH ?_)))))))
 subst X
 refine jK ?_
 obtain ⟨al, Z, h⟩ := Ac h
 refine jG (Ao 2 [.o 1 1] I J1 (jI [] I (Cb I (.refl _) w I (.rest _) I (A _ _ Z) dS (by rintro _ _ ⟨rfl, _⟩; rfl) ?_)))
 rintro _ ⟨_, rfl, -⟩
 refine Af 1 I (jH (Ar h I ?_ ?_))
 intro aa h
 refine jK ?_
 obtain ⟨j, ⟨ab, F⟩, h⟩ := Bh h
 exact jG (Ao 3 [.o 2 1] I J1 (jR (Be 0 (m := j.1) I I I I I I I ab (Ag F)) I (jI [0] I (Ck 0 j.1 0 I I I (Ag F) I I I I (A6 I) I (Dp (x := c.2) I) (jH (Sm I (lg ⟨((a.1.set j.1 c.2), wr (a.2.1 + 1)), h, I2⟩ [0])))))))
 intro aa h
 exact jL (lg ⟨(a.1, a.2.1), h, I2⟩ [0])
 rintro s ob ⟨g, h, rfl, rfl⟩
 unfold M8.J3 at h
 refine jG (Af 3 I ?_)
 cases io h
 exact jH ⟨_, _, _, I, I2, J4, pk [0]⟩
 intro W h
 obtain rfl := S _ (oi h).symm
 have h := Q
 exact jP (lg ⟨(a.1, a.2.1), h, I2⟩ [0])
 rintro s ob ⟨f, h, rfl, rfl⟩
 refine jK ?_
 obtain ⟨G, k, h⟩ := Ac h
 refine jG (Af 2 I (jI [] I (dF 0 I k fun am ac => jI [0] I (Zz 0 I k ac fun an ad => jH (jK (jG (Af 2 I (jI [0] I (fH 0 I k ad fun l => Af 1 I (jH (jO (Au 50 4) (C9 [1, 0] I ?_))))))))))))
 obtain rfl := oi h
 exact jN ⟨.inr I, [_], [.us nS 50 4 ([].map Bo), U3 l G], J1, Cx I (Cx I (Ct)), ⟨[.us nS 50 4 ([].map Bo)], [U3 l G], I, I, l, I3⟩⟩
theorem Y2 (a : Nw) (e : Plan) (b : Int) (r : Int × Int) (h : Rn a e b = some r) : ACalls Ah 207 [.agg (Aa a), .agg (Al e), .V b] [] (RV (.tup [.V r.1, .V r.2])) := by
 refine Ae Tryz.func207 I I I fun C hC => ?_
 refine Ab fun w f => jG (jI [] I (Br (Aa a) 6 fun A => jI [] I (Br (Al e) 3 fun B => Af 2 I (jH ?_))))
 subst f
 refine Ab fun D g => jK ?_
 obtain ⟨E, i, h⟩ := Ac h
 refine jG (Ao 2 [.o 0 0, .o 1 1] I J2 (jU (Lp _ _ _ i) (Af 1 I (jH (Aj I (Ar h I ?_ ?_))))))
 intro j h
 refine Aj I (jO g0 ?_)
 cases io h
 exact jN ⟨.inr I, [_, _], [], J2, Ct, I2⟩
 intro j h
 refine jL ?_
 subst g
 refine jK (Dv 23 (decide (b < 0) || decide (b ≥ (a.Nodes.length : Int))) ?_ ?_)
 refine jG (Af 3 I ?_)
 rcases bt (decide (b < 0)) with d | d
 exact Ad 17 I d (Af 6 I (jH (jf (by simp only [d, bz]) I I I2)))
 exact Ad 17 I d (Ao 6 [.o 2 0, .l 3 (a.Nodes.length : Int)] I ⟨As, I, J⟩ (jH (jf (by simp only [d, bz]) I I I2)))
 refine Ar h I ?_ ?_
 intro k h
 refine Aj I (jO g0 ?_)
 cases io h
 exact jN ⟨.inr I, [_, _], [], J2, Ct, I2⟩
 intro k h
 refine jL (jK ?_)
 obtain ⟨n, s, h⟩ := Ac h
 obtain ⟨t, ⟨u, v⟩, h⟩ := Bh h
 refine jG (Ao 2 [.o 0 0, .o 1 1] I J2 (jI [] I (Cq I I I (Qa _ _ _ s) dS ?_)))
 rintro _ _ ⟨rfl, rfl⟩
 refine Bv (Yp.field I I I I I (y := .agg (n.come.l.map cI)) (Lf I (by simp [Arr.h, Az]))) I (Af 1 I (Bv (E9 (m := t.1) I I I I I I I u v (hlen := Arr.h _)) I (Af 2 I (jH (jO g0 ?_)))))
 cases io h
 exact jN ⟨.inr I, [_, _], [], J2, Ct, I2⟩
theorem Zj (b : Nw) (d : Plan) (f : Int) (r : Bool) (h : Ru b d f = some r) : ACalls Ah 158 [.agg (Aa b), .agg (Al d), .V f] [] (RB r) := by
 refine Ae Tryz.func158 I I I fun C hC => ?_
 refine Ab fun n i => jG (jI [] I (Br (Aa b) 6 fun p => jI [] I (Br (Al d) 3 fun t => Af 1 I (jH ?_))))
 subst i
 refine jK ?_
 obtain ⟨g, ⟨j, k⟩, h⟩ := Bh h
 obtain ⟨e, l, h⟩ := Ac h
 refine jT (pd 14 0 [8]) [0, 1] [_, _] I (Bx 8 [.o 0 0, .o 1 1, .o 3 0, .x 5 g.1 (A5 g.2)] I ⟨⟨j, Ag k⟩, I, I, I, J⟩ (kC I (Y2 _ _ _ _ l) (Ax 5 I (Ap (jH (Ai (fun s ob => s = [(6, .v (.bool ((e.2 == 0) && (e.1 != 0))))] ∧ ob = []) [] J ?_ ?_))))))
 refine jG (Af 3 I ?_)
 rcases bt ((e.2 == 0)) with a | a
 refine Ad 23 I a (Af 4 I (jH ?_))
 exact lf I2 ⟨(Em (by simp only [a, bz])), J⟩ [] I
 refine Ad 23 I a (Af 4 I (jH ?_))
 exact lf I2 ⟨(Em (by simp only [a, bz])), J⟩ [] I
 rintro s ob ⟨rfl, rfl⟩
 cases io h
 exact jN pr
theorem Yj (a : Nw) (b : Plan) (d : Int) (r : Bool) (h : Un a b d = some r) : ACalls Ah 99 [.agg (Aa a), .agg (Al b), .V d] [] (RB r) := by
 refine Ae Tryz.func99 I I I fun C hC => ?_
 refine jK (jG (jI [] I (Br (Aa a) 6 fun f => jI [] I (Br (Al b) 3 fun g => Af 1 I (jH (jK ?_))))))
 obtain ⟨i, e, h⟩ := Ac h
 refine jG (Ao 3 [.o 0 0, .o 1 1] I J2 (jU (Zj _ _ _ _ e) (Af 1 I (jH (jO g0 ?_)))))
 cases io h
 exact jN pr
theorem Zb (a : Hop) (b : Li) (r : Bool) (h : Nj a b = some r) : ACalls Ah 97 [.agg (Cc a), .eptr ((rL 1 rI) b)] [] (RB r) := by
 refine Ae Tryz.func97 I I I fun C hC => ?_
 refine jK (jG (jI [] I (Br (Cc a) 2 fun e => Af 1 I (jH (jK ?_)))))
 obtain ⟨f, d, h⟩ := Ac h
 refine jG (Ao 3 [.o 2 0] I J1 (jU (Gj _ _ _ d) (Af 1 I (jH (jO g0 ?_)))))
 cases io h
 exact jN pr
theorem Gk (e : Path) (f : Nw) (a : Li) (r : Bool) (h : F7 e f a = some r) : ACalls Ah 95 [.agg (Bo e), .eptr (Aa f), .eptr ((rL 1 rI) a)] [] (RB r) := by
 refine Ae Tryz.func95 I I I fun C hC => ?_
 unfold F7 at h
 refine Ab fun y j => jG (jI [] I (Br (Bo e) 4 fun z => Af 1 I (jH ?_)))
 subst j
 refine Bd [.l 2 (f.Segments.length : Int)] I ⟨As, J⟩ (Ai (fun s ob => ∃ (g : Bool), F7.J1 g = some r ∧ s = [(4, .v (.bool g))] ∧ ob = []) [] J ?_ ?_)
 obtain ⟨k, n, h⟩ := Ac h
 refine jG (Ao 5 [.o 3 0] I J1 (jU (Gj _ _ _ n) (Af 1 I ?_)))
 rcases bt (k) with b | b
 have h := Bp b h
 exact Ad 15 I b (Af 14 I (jH (lg ⟨true, h, I2⟩ [])))
 have h := Bq b h
 obtain ⟨t, i, h⟩ := Ac h
 refine Ad 15 I b ?_
 rcases bt (t) with d | d
 have h := Bp d h
 exact Ao 5 [.o 3 0] I J1 (A3 I I I (jU (Gj _ _ _ i) (Af 2 I (Ad 23 I d (Af 6 I (jH (lg ⟨true, h, I2⟩ [])))))))
 have h := Bq d h
 obtain ⟨u, w, h⟩ := Ac h
 exact Ao 5 [.o 3 0] I J1 (A3 I I I (jU (Gj _ _ _ i) (Af 2 I (Ad 23 I d (Ao 2 [.o 1 0] I J1 (A3 I I I (Bv (kE I I) I (A3 I I I (jU (Zg _ (.fn 97 [] [.eptr ((rL 1 rI) a)]) I (fun x => Nj x a) (fun x r h => Zb x a r h) _ w) (Af 2 I (jH (lg ⟨u, h, I2⟩ []))))))))))))
 rintro s ob ⟨g, h, rfl, rfl⟩
 unfold F7.J1 at h
 cases io h
 exact jN pr
theorem D1 (a : Nw) (d : List Path) (H : List Bool) (r : Plan × Int) (h : Rk a d H = some r) : ACalls Ah 62 [.agg (Aa a), Q6 d, Q5 H] [] (fun x new => ∃ (U : Value) (W : Value) (X : Value), x = .tup [.agg [.v U, .v W, .v X], .V r.2] ∧ new = [U0 U r.1.Rates, U0 W r.1.Ports, U1 X r.1.Pumps]) := by
 refine Ae Tryz.func62 I I I fun C hC => ?_
 refine Ab fun y4 ah => jG (jI [] I (Br (Aa a) 6 fun K => jI [] I (Bf W0 3 fun M => Af 1 I (jH ?_))))
 subst ah
 refine Ab fun y7 ai => jK ?_
 obtain ⟨r8, aj, h⟩ := Ac h
 refine jG (Ao 1 [.o 0 0] I J1 (jU (H7 _ _ aj) (Af 1 I (jH (Aj I (Ar h I ?_ ?_))))))
 intro ak h
 refine jK (jG (Bv (Bk (l := W0) Di I) I (Af 1 I (jI [1] I (A1 1 0 0 [W0] I (Af 1 I (jH (jO (Au 3 1) (jO (Au 3 1) (jO (Au 4 1) (C9 [2, 3, 4, 1] I ?_)))))))))))
 cases io h
 exact jN ⟨.inr I, [_, _], [.us nS 3 1 ([].map rI), .us nS 3 1 ([].map rI), .us nS 4 1 ([].map rB)], ⟨⟨3, _, _, _, _, _, _, _, I5⟩, I, J⟩, Cx I (Cx I (Cx I (Ct))), ⟨nS, nS, nS, I2⟩⟩
 intro ak h
 refine jL ?_
 subst ai
 refine Ab fun bi al => Ai (fun s ob => ∃ (S : Bool), Rk.J1 a d H S = some r ∧ s = [(30, .v (.bool S))] ∧ ob = [O1 K [Aa a], O0 M [W0]]) (K4 1 2 3 6) J4 ?_ ?_
 rcases bt (decide ((d.length : Int) > 64)) with t | t
 have h := Bp t h
 exact jG (Ao 4 [.l 1 (d.length : Int)] I ⟨As, J⟩ (Ad 22 I t (Af 8 I (jH (lg ⟨true, h, I2⟩ [0, 1])))))
 have h := Bq t h
 obtain ⟨am, Y, h⟩ := Ac h
 rcases bt (am) with F | F
 have h := Bp F h
 refine jG (Ao 4 [.l 1 (d.length : Int)] I ⟨As, J⟩ (Ad 22 I t (Af 1 I (A3 I I I (Bv (kE I I) I (A3 I I I (jI [] I (Cb I (.refl _) I I (.cons (.refl _) (.cons (.fn (.rest _) (.cons (.box 0 I (.rest _)) (.rest _))) (.rest _))) I (Qh _ (.fn 117 [] [.eptr (Aa a)]) I (fun x => M2 x a) (fun x r h => Qi x a r h) _ Y) dS (by rintro _ _ ⟨rfl, _⟩; rfl) ?_))))))))
 rintro _ ⟨_, rfl, -⟩
 exact Af 2 I (Ad 27 I F (Af 3 I (jH (lg ⟨true, h, I2⟩ [0, 1]))))
 have h := Bq F h
 obtain ⟨an, ao, h⟩ := Ac h
 refine jG (Ao 4 [.l 1 (d.length : Int)] I ⟨As, J⟩ (Ad 22 I t (Af 1 I (A3 I I I (Bv (kE I I) I (A3 I I I (jI [] I (Cb I (.refl _) I I (.cons (.refl _) (.cons (.fn (.rest _) (.cons (.box 0 I (.rest _)) (.rest _))) (.rest _))) I (Qh _ (.fn 117 [] [.eptr (Aa a)]) I (fun x => M2 x a) (fun x r h => Qi x a r h) _ Y) dS (by rintro _ _ ⟨rfl, _⟩; rfl) ?_))))))))
 rintro _ ⟨_, rfl, -⟩
 exact Af 2 I (Ad 27 I F (Af 1 I (A3 I I I (jU (X5 _ _ ao) (Af 1 I (jH (lg ⟨an, h, I2⟩ [0, 1])))))))
 rintro s ob ⟨S, h, rfl, rfl⟩
 refine Ar h I ?_ ?_
 intro ap h
 refine jK (jG (Bv (Bk (l := W0) Di I) I (jI [1] I (A1 1 0 0 [W0] I (Af 1 I (jH (jO (Au 3 1) (jO (Au 3 1) (jO (Au 4 1) (C9 [2, 3, 4, 1] I ?_))))))))))
 cases io h
 exact jN ⟨.inr I, [_, _], [.us nS 3 1 ([].map rI), .us nS 3 1 ([].map rI), .us nS 4 1 ([].map rB)], ⟨⟨3, _, _, _, _, _, _, _, I5⟩, I, J⟩, Cx I (Cx I (Cx I (Ct))), ⟨nS, nS, nS, I2⟩⟩
 intro ap h
 refine jL ?_
 subst al
 refine Ab fun bj aq => Bd [.l 1 (H.length : Int), .o 3 0, .l 4 (a.Stations.length : Int)] I ⟨As, I, As, J⟩ (Ar h I ?_ ?_)
 intro ar h
 refine jK (jG (Bv (Bk (l := W0) Di I) I (jI [1] I (A1 1 0 0 [W0] I (Af 1 I (jH (jO (Au 3 1) (jO (Au 3 1) (jO (Au 4 1) (C9 [2, 3, 4, 1] I ?_))))))))))
 cases io h
 exact jN ⟨.inr I, [_, _], [.us nS 3 1 ([].map rI), .us nS 3 1 ([].map rI), .us nS 4 1 ([].map rB)], ⟨⟨3, _, _, _, _, _, _, _, I5⟩, I, J⟩, Cx I (Cx I (Cx I (Ct))), ⟨nS, nS, nS, I2⟩⟩
 intro ar h
 refine jL ?_
 subst aq
 refine Ai (fun s ob => ∃ (G : Li × Li × (List Bool)) (u : Nat) (O : Value) (P : Value) (Q : Value), Rk.J2 a d G = some r ∧ s = [(9, .P u)] ∧ ob = [O1 K [Aa a], O0 M [W0], U0 O G.1, U0 P G.2.1, U1 Q G.2.2, O0 u [[.v O, .v P, .v Q]]]) (K3 1 3 6) J3 ?_ ?_
 obtain ⟨Z, ⟨bk, au, av, aw⟩, h⟩ := Mh h
 obtain ⟨aa, ⟨bl, ax, ay, az⟩, h⟩ := Mh h
 obtain ⟨ab, a0, h⟩ := Ac h
 refine jT (sl 3 0 (sl 3 4 (.still 8 (.par [(3, []), (7, []), (9, []), (11, []), (10, [3, 7, 9])] (.act 12 .nil))))) [0] [_] I (Bx 7 [.o 1 0, .l 2 (a.Segments.length : Int), .o 4 0, .l 5 (a.Ports.length : Int)] I ⟨As, I, As, I, J⟩ (AP.any [⟨3, [], 42, .us 3 1 (Z.map rI)⟩, ⟨7, [], 46, .us 3 1 (aa.map rI)⟩, ⟨9, [], 48, .us 4 1 (ab.map rB)⟩, ⟨11, [], 9, .box 36 3 (W0)⟩, ⟨10, [3, 7, 9], 49, .fn fun l => match l with | [.v i, .v j, .v n] => .agg [.v i, .v j, .v n] | _ => .tup []⟩] I ⟨⟨_, I, I, I, fun _ => Dy (sz := 1) I I I I I I I I I I au av (Er (f := rI) aw I) dS fun v => ⟨_, I, ⟨v, I⟩, I⟩⟩, ⟨_, I, I, I, fun _ => Dy (sz := 1) I I I I I I I I I I ax ay (Er (f := rI) az I) dS fun v => ⟨_, I, ⟨v, I⟩, I⟩⟩, ⟨_, I, I, I, fun _ => Cq I I I (Y1 _ _ a0) dS (by rintro _ _ ⟨v, rfl, rfl⟩; exact ⟨_, rfl, ⟨v, rfl⟩, rfl⟩)⟩, ⟨_, I, I, I, fun _ => Bf W0 3 fun b => ⟨_, I, ⟨b, I⟩, I⟩⟩, ⟨_, I, I, I, fun i ac j ad n ae _ => Bm (Yp.yd (Bk (l := [.v i, .v j, .v n]) Di (Ci I I (A8 ac) I (Ci I I (A8 ad) I (Ci I I (A8 ae) I (Fr)))))) dS ⟨_, I, I, nb⟩⟩, J⟩ ?_))
 intro i ac j ad n ae a1
 exact AP.same 49 (.agg [.v i, .v j, .v n]) I (jJ [5] I I I (A1 5 0 0 [[.v i, .v j, .v n]] I (Ap (jH (lg ⟨(Z, aa, ab), a1, i, j, n, h, I2⟩ N6)))))
 rintro s ob ⟨G, u, O, P, Q, h, rfl, rfl⟩
 unfold Rk.J2 at h
 refine Ai (fun s ob => ∃ (e : Li × Li × (List Bool)) (w : Value) (y : Value) (A : Value), Rk.J3 a e = some r ∧ s = [] ∧ ob = [O1 K [Aa a], O0 M [W0], U0 w e.1, U0 y e.2.1, U1 A e.2.2, O0 u [[.v w, .v y, .v A]]]) (K3 3 6 9) J3 ?_ ?_
 refine Bd [.l 1 (d.length : Int)] I ⟨As, J⟩ (jM (Ca 50 I fun a2 => ?_))
 obtain ⟨bm, a3, a4⟩ := Ac h
 refine C1 a3 (K5 3 6 9 50 51) J5 (fun (R : Nat) (g : Li × Li × (List Bool)) s ob => ∃ (B : Value) (D : Value) (E : Value), s = [(52, .V (R : Int))] ∧ ob = [O1 K [Aa a], O0 M [W0], U0 B g.1, U0 D g.2.1, U1 E g.2.2, O0 u [[.v B, .v D, .v E]]]) ⟨O, P, Q, I2⟩ ⟨I, J⟩ (pk N6) ?_ ?_
 rintro R af g bn s ob a5 ag ⟨B, D, E, rfl, rfl⟩ h
 have a6 := Cy ag
 refine Aj I (Ab fun bo a7 => Bs I a6 (jL ?_))
 subst a7
 refine jK (jM (jK (jG (Ao 2 [.x 0 R (Bo af)] I ⟨⟨I, Ag a5⟩, J⟩ (jI [] I (Bf W3 4 fun bp => jI [6] I (A1 6 0 0 [Bo af] I (jH ?_))))))))
 obtain ⟨bq, a8, h⟩ := Ac h
 refine jG (Ao 3 [.o 0 6, .o 2 6] I J2 (jI [5, 2, 3, 4] I (Fk [5, 2, 3, 4] (Yi u _ B D E _ _ _ a8) ?_)))
 rintro _ _ _ - ⟨a9, ba, bb, rfl, rfl, rfl⟩
 refine jH (jG (Ao 2 [.k 0 (R + 1 : Nat)] I ⟨Ay ag a2, J⟩ ?_))
 cases io h
 exact jH (lg ⟨a9, ba, bb, I2⟩ N6)
 rintro g s ob ⟨B, D, E, rfl, rfl⟩ he
 subst he
 have h := a4
 have bc := Cz d.length
 exact Aj I (Ab fun br bs => Bu I bc (jP (lg ⟨(g.1, g.2.1, g.2.2), B, D, E, h, I2⟩ N6)))
 rintro s ob ⟨e, w, y, A, h, rfl, rfl⟩
 refine jK (jK ?_)
 obtain ⟨bu, bd, h⟩ := Ac h
 refine jG (Ao 2 [.o 0 0, .o 1 5] I J2 (jI [] I (Cb I (.refl _) I I (.cons (.refl _) (.cons (.agg (.cons (.us 2 I) (.cons (.us 3 I) (.cons (.us 4 I) (.rest _))))) (.rest _))) I (Lp _ _ _ bd) dS (by rintro _ _ ⟨rfl, _⟩; rfl) ?_)))
 rintro _ ⟨_, rfl, -⟩
 refine Af 1 I (jH (Aj I (Ar h I ?_ ?_)))
 intro be h
 refine jK (jG (Bv (Bk (l := W0) Di I) I (Af 1 I (jI [1] I (A1 1 0 0 [W0] I (Af 1 I (jH (jO (Au 3 1) (jO (Au 3 1) (jO (Au 4 1) (C9 [6, 7, 8, 1] I ?_)))))))))))
 cases io h
 exact jN ⟨.inr I, [_, _], [.us nS 3 1 ([].map rI), .us nS 3 1 ([].map rI), .us nS 4 1 ([].map rB)], ⟨⟨3, _, _, _, _, _, _, _, I5⟩, I, J⟩, Cx I (Cx I (Cx I (Ct))), ⟨nS, nS, nS, I2⟩⟩
 intro be h
 refine jL (jK (jG (Ao 1 [.o 0 5] I J1 (jI [1] I (A1 1 0 0 [[.v w, .v y, .v A]] I (Af 1 I (jH (C9 [2, 3, 4, 1] I ?_))))))))
 cases io h
 exact jN ⟨.inr I, [_, _], [U0 w e.1, U0 y e.2.1, U1 A e.2.2], ⟨⟨3, _, _, _, _, _, _, _, I5⟩, I, J⟩, Cx I (Cx I (Cx I (Ct))), ⟨w, y, A, I2⟩⟩
theorem Qt (b : Nw) (n : Plan) (af : Li) (r : Plan × Int) (h : Np b n af = some r) : ACalls Ah 40 [.agg (Aa b), .agg (Al n), Q0 af] [] (RV (.tup [.agg (Al r.1), .V r.2])) := by
 refine Ae Tryz.func40 I I I fun C hC => ?_
 refine Ab fun y1 aj => jG (jI [] I (Br (Aa b) 6 fun b2 => jI [] I (Br (Al n) 3 fun D => jI [] I (Bf W0 3 fun u => Af 1 I (jH ?_)))))
 subst aj
 refine Ab fun y5 al => ?_
 obtain ⟨a, am, h⟩ := Ac h
 refine jG (Ao 2 [.o 0 0] I J1 (jI [] I (Cq I I I (H6 _ _ _ am) dS ?_)))
 rintro _ _ ⟨t, rfl, rfl⟩
 refine AO.ghost (Ba [0] (K := [O1 b2 [Aa b]]) I [(3, .eptr (Aa b))] ⟨⟨_, I, .box 0 I (.rest _)⟩, J⟩ (ob' := [O0 D [Al n], O0 u [W0], U0 t a.1]) (.rest _)) (Af 3 I (jI [] I (Bf [.N] 1 fun G => AO.one 2 I fun an => jI [3] I (jS 3 0 0 (es' := [[.v t]]) I I I I I I (A8 an) I (A6 I) I I (Af 1 I (jH ?_))))))
 subst al
 refine Ab fun be ao => Aj I (Ar h I ?_ ?_)
 intro ap h
 refine jK (jG (Bv (Bk (l := W0) Di I) I (Af 1 I (jI [1] I (A1 1 0 0 [W0] I (Af 1 I (jH (jO (Ba [] (K := []) I [] J (ob' := [O0 D [Al n], O0 u [[.list 1 ([].map rI), .list 1 ([].map rI), .list 1 ([].map rB)]], U0 t a.1, .arr G 22 1 1 [[.v t]]]) (.cons (.same _) (.cons (.arr (.cons (.nil _) (.cons (.nil _) (.cons (.nil _) (.rest _))))) (.rest _)))) (C9 [1] I ?_)))))))))
 cases io h
 exact jN ⟨.inr I, [_, _], [], ⟨⟨0, _, _, _, _, _, _, _, I5⟩, I, J⟩, Ct, I2⟩
 intro ap h
 refine jL ?_
 subst ao
 refine Ab fun bf aq => ?_
 obtain ⟨M, ar, h⟩ := Ac h
 refine jG (Ao 2 [.o 1 0] I J1 (jI [] I (Cq I I I (Yc _ _ _ ar) dS ?_)))
 rintro _ _ ⟨B, rfl, rfl⟩
 refine Af 5 I (jH ?_)
 subst aq
 refine Ab fun bg au => Aj I (Ar h I ?_ ?_)
 intro av h
 refine jK (jG (Bv (Bk (l := W0) Di I) I (Af 1 I (jI [1] I (A1 1 0 0 [W0] I (Af 1 I (jH (jO (Ba [] (K := []) I [] J (ob' := [O0 D [Al n], O0 u [[.list 1 ([].map rI), .list 1 ([].map rI), .list 1 ([].map rB)]], U0 t a.1, .arr G 22 1 1 [[.v t]], U3 B M.1]) (.cons (.same _) (.cons (.arr (.cons (.nil _) (.cons (.nil _) (.cons (.nil _) (.rest _))))) (.rest _)))) (C9 [1] I ?_)))))))))
 cases io h
 exact jN ⟨.inr I, [_, _], [], ⟨⟨0, _, _, _, _, _, _, _, I5⟩, I, J⟩, Ct, I2⟩
 intro av h
 refine jL ?_
 subst au
 refine Ab fun bh aw => jG (Bv (kE I I) I (Af 1 I (jH ?_)))
 subst aw
 refine Ai (fun s ob => ∃ (i : Int × Li × Li × (List Bool)) (E : Nat) (w : Value) (y : Value) (A : Value), Np.J1 b n i = some r ∧ s = [(9, .V i.1), (12, .P E)] ∧ ob = [O0 D [Al n], O0 u [W0], U0 w i.2.1, U0 y i.2.2.1, U1 A i.2.2.2, O0 E [[.v w, .v y, .v A]]]) (K3 3 4 6) J3 ?_ ?_
 obtain ⟨bi, P, h⟩ := Ac h
 obtain ⟨ab, ⟨bj, Q, R, S⟩, h⟩ := Mh h
 obtain ⟨c, F, h⟩ := Ac h
 refine jT (sl 3 0 (sl 3 4 (.three 3 7 12 (.two 7 12 fR (.act 7 Sr)) (.two 3 12 fR (.act 3 Sr)) (.two 3 7 (.act 7 Sr) (.act 3 Sr))))) [] [] I (Bx 6 [.l 5 (b.Stations.length : Int)] I ⟨As, J⟩ (AP.three ?_ ?_ ?_))
 refine Gm (Ba [2, 3] (K := [U0 t a.1, .arr G 22 1 1 [[.v t]]]) I [(19, Q0 a.1), (8, .eptr ((rL 1 rI) a.1)), (35, .fn 95 [] [.eptr (Aa b), .eptr ((rL 1 rI) a.1)]), (11, .fn 95 [] [.eptr (Aa b), .eptr ((rL 1 rI) a.1)]), (39, .fn 95 [] [.eptr (Aa b), .eptr ((rL 1 rI) a.1)])] ⟨⟨_, I, .us 0 I⟩, ⟨_, I, .box 1 I (.cons (.us 0 I) (.rest _))⟩, ⟨_, I, .fn (.rest _) (.cons (.refl _) (.cons (.box 1 I (.cons (.us 0 I) (.rest _))) (.rest _)))⟩, ⟨_, I, .fn (.rest _) (.cons (.refl _) (.cons (.box 1 I (.cons (.us 0 I) (.rest _))) (.rest _)))⟩, ⟨_, I, .fn (.rest _) (.cons (.refl _) (.cons (.box 1 I (.cons (.us 0 I) (.rest _))) (.rest _)))⟩, J⟩ (ob' := [O0 D [Al n], O0 u [W0], U3 B M.1]) (.rest _)) I (jJ [2] I I I (Fk [2] (Gl B _ (.fn 95 [] [.eptr (Aa b), .eptr ((rL 1 rI) a.1)]) I (fun x => F7 x b a.1) (fun x r h => Gk x b a.1 r h) _ P) ?_))
 rintro _ _ _ - ⟨X, rfl, rfl, rfl⟩
 refine jX ?_ ?_
 refine jJ [] I I I (Dy (sz := 1) I I I I I I I I I I Q R (Er (f := rB) S I) dS fun H => jX ?_ ?_)
 refine jJ [] I I I (Dz I (.refl _) I I (.cons (.refl _) (.cons (.us 3 I) (.cons (.us 4 I) (.rest _)))) I (D1 _ _ _ _ F) dS (by rintro _ _ ⟨_, _, _, rfl, rfl⟩; exact ⟨rfl, by intro p hp; simp only [List.mem_cons, List.not_mem_nil, or_false] at hp; rcases hp with rfl | rfl | rfl <;> exact D9 fun _ => rfl⟩) ?_)
 rintro _ _ ⟨d, e, g, rfl, rfl⟩
 exact Ax 3 I (jJ [] I I I (Bf W0 3 fun j => jJ [8] I I I (A1 8 0 0 [[.v d, .v e, .v g]] I (Ff 9 (Ax 1 I (Ap (jH (lg ⟨(c.2, c.1.Rates, c.1.Ports, c.1.Pumps), j, d, e, g, h, I2⟩ [0, 1, 5, 6, 7, 8]))))))))
 refine jJ [] I I I (Bf W0 3 fun j => jJ [] I I I (Dz I (.refl _) I I (.cons (.refl _) (.cons (.us 3 I) (.cons (.us 4 I) (.rest _)))) I (D1 _ _ _ _ F) dS (by rintro _ _ ⟨_, _, _, rfl, rfl⟩; exact ⟨rfl, by intro p hp; simp only [List.mem_cons, List.not_mem_nil, or_false] at hp; rcases hp with rfl | rfl | rfl <;> exact D9 fun _ => rfl⟩) ?_))
 rintro _ _ ⟨d, e, g, rfl, rfl⟩
 exact Ax 3 I (jJ [5] I I I (A1 5 0 0 [[.v d, .v e, .v g]] I (Ff 9 (Ax 1 I (Ap (jH (lg ⟨(c.2, c.1.Rates, c.1.Ports, c.1.Pumps), j, d, e, g, h, I2⟩ [0, 1, 6, 7, 8, 5])))))))
 refine jJ [] I I I (Bf W0 3 fun j => jJ [] I I I (Dy (sz := 1) I I I I I I I I I I Q R (Er (f := rB) S I) dS fun H => jJ [] I I I (Dz I (.refl _) I I (.cons (.refl _) (.cons (.us 3 I) (.cons (.us 5 I) (.rest _)))) I (D1 _ _ _ _ F) dS (by rintro _ _ ⟨_, _, _, rfl, rfl⟩; exact ⟨rfl, by intro p hp; simp only [List.mem_cons, List.not_mem_nil, or_false] at hp; rcases hp with rfl | rfl | rfl <;> exact D9 fun _ => rfl⟩) ?_)))
 rintro _ _ ⟨d, e, g, rfl, rfl⟩
 exact Ax 3 I (jJ [4] I I I (A1 4 0 0 [[.v d, .v e, .v g]] I (Ff 9 (Ax 1 I (Ap (jH (lg ⟨(c.2, c.1.Rates, c.1.Ports, c.1.Pumps), j, d, e, g, h, I2⟩ [0, 1, 6, 7, 8, 4])))))))
 refine jJ [] I I I (Dy (sz := 1) I I I I I I I I I I Q R (Er (f := rB) S I) dS fun H => jX ?_ ?_)
 refine Gm (Ba [2, 3] (K := [U0 t a.1, .arr G 22 1 1 [[.v t]]]) I [(19, Q0 a.1), (8, .eptr ((rL 1 rI) a.1)), (35, .fn 95 [] [.eptr (Aa b), .eptr ((rL 1 rI) a.1)]), (11, .fn 95 [] [.eptr (Aa b), .eptr ((rL 1 rI) a.1)]), (39, .fn 95 [] [.eptr (Aa b), .eptr ((rL 1 rI) a.1)])] ⟨⟨_, I, .us 0 I⟩, ⟨_, I, .box 1 I (.cons (.us 0 I) (.rest _))⟩, ⟨_, I, .fn (.rest _) (.cons (.refl _) (.cons (.box 1 I (.cons (.us 0 I) (.rest _))) (.rest _)))⟩, ⟨_, I, .fn (.rest _) (.cons (.refl _) (.cons (.box 1 I (.cons (.us 0 I) (.rest _))) (.rest _)))⟩, ⟨_, I, .fn (.rest _) (.cons (.refl _) (.cons (.box 1 I (.cons (.us 0 I) (.rest _))) (.rest _)))⟩, J⟩ (ob' := [O0 D [Al n], O0 u [W0], U3 B M.1, U1 H ab]) (.rest _)) I (jJ [2] I I I (Fk [2] (Gl B _ (.fn 95 [] [.eptr (Aa b), .eptr ((rL 1 rI) a.1)]) I (fun x => F7 x b a.1) (fun x r h => Gk x b a.1 r h) _ P) ?_))
 rintro _ _ _ - ⟨X, rfl, rfl, rfl⟩
 refine jX ?_ ?_
 refine jJ [] I I I (Dz I (.refl _) I I (.cons (.refl _) (.cons (.us 4 I) (.cons (.us 3 I) (.rest _)))) I (D1 _ _ _ _ F) dS (by rintro _ _ ⟨_, _, _, rfl, rfl⟩; exact ⟨rfl, by intro p hp; simp only [List.mem_cons, List.not_mem_nil, or_false] at hp; rcases hp with rfl | rfl | rfl <;> exact D9 fun _ => rfl⟩) ?_)
 rintro _ _ ⟨d, e, g, rfl, rfl⟩
 exact Ax 3 I (jJ [] I I I (Bf W0 3 fun j => jJ [8] I I I (A1 8 0 0 [[.v d, .v e, .v g]] I (Ff 9 (Ax 1 I (Ap (jH (lg ⟨(c.2, c.1.Rates, c.1.Ports, c.1.Pumps), j, d, e, g, h, I2⟩ [0, 1, 5, 6, 7, 8]))))))))
 refine jJ [] I I I (Bf W0 3 fun j => jJ [] I I I (Dz I (.refl _) I I (.cons (.refl _) (.cons (.us 4 I) (.cons (.us 3 I) (.rest _)))) I (D1 _ _ _ _ F) dS (by rintro _ _ ⟨_, _, _, rfl, rfl⟩; exact ⟨rfl, by intro p hp; simp only [List.mem_cons, List.not_mem_nil, or_false] at hp; rcases hp with rfl | rfl | rfl <;> exact D9 fun _ => rfl⟩) ?_))
 rintro _ _ ⟨d, e, g, rfl, rfl⟩
 exact Ax 3 I (jJ [5] I I I (A1 5 0 0 [[.v d, .v e, .v g]] I (Ff 9 (Ax 1 I (Ap (jH (lg ⟨(c.2, c.1.Rates, c.1.Ports, c.1.Pumps), j, d, e, g, h, I2⟩ [0, 1, 6, 7, 8, 5])))))))
 refine jJ [] I I I (Bf W0 3 fun j => Gm (Ba [2, 3] (K := [U0 t a.1, .arr G 22 1 1 [[.v t]]]) I [(19, Q0 a.1), (8, .eptr ((rL 1 rI) a.1)), (35, .fn 95 [] [.eptr (Aa b), .eptr ((rL 1 rI) a.1)]), (11, .fn 95 [] [.eptr (Aa b), .eptr ((rL 1 rI) a.1)]), (39, .fn 95 [] [.eptr (Aa b), .eptr ((rL 1 rI) a.1)])] ⟨⟨_, I, .us 0 I⟩, ⟨_, I, .box 1 I (.cons (.us 0 I) (.rest _))⟩, ⟨_, I, .fn (.rest _) (.cons (.refl _) (.cons (.box 1 I (.cons (.us 0 I) (.rest _))) (.rest _)))⟩, ⟨_, I, .fn (.rest _) (.cons (.refl _) (.cons (.box 1 I (.cons (.us 0 I) (.rest _))) (.rest _)))⟩, ⟨_, I, .fn (.rest _) (.cons (.refl _) (.cons (.box 1 I (.cons (.us 0 I) (.rest _))) (.rest _)))⟩, J⟩ (ob' := [O0 D [Al n], O0 u [W0], U3 B M.1, U1 H ab, O0 j [W0]]) (.rest _)) I (jJ [2] I I I (Fk [2] (Gl B _ (.fn 95 [] [.eptr (Aa b), .eptr ((rL 1 rI) a.1)]) I (fun x => F7 x b a.1) (fun x r h => Gk x b a.1 r h) _ P) ?_)))
 rintro _ _ _ - ⟨X, rfl, rfl, rfl⟩
 refine jJ [] I I I (Dz I (.refl _) I I (.cons (.refl _) (.cons (.us 5 I) (.cons (.us 3 I) (.rest _)))) I (D1 _ _ _ _ F) dS (by rintro _ _ ⟨_, _, _, rfl, rfl⟩; exact ⟨rfl, by intro p hp; simp only [List.mem_cons, List.not_mem_nil, or_false] at hp; rcases hp with rfl | rfl | rfl <;> exact D9 fun _ => rfl⟩) ?_)
 rintro _ _ ⟨d, e, g, rfl, rfl⟩
 exact Ax 3 I (jJ [4] I I I (A1 4 0 0 [[.v d, .v e, .v g]] I (Ff 9 (Ax 1 I (Ap (jH (lg ⟨(c.2, c.1.Rates, c.1.Ports, c.1.Pumps), j, d, e, g, h, I2⟩ [0, 1, 6, 7, 8, 4])))))))
 refine jJ [] I I I (Bf W0 3 fun j => jX ?_ ?_)
 refine Gm (Ba [2, 3] (K := [U0 t a.1, .arr G 22 1 1 [[.v t]]]) I [(19, Q0 a.1), (8, .eptr ((rL 1 rI) a.1)), (35, .fn 95 [] [.eptr (Aa b), .eptr ((rL 1 rI) a.1)]), (11, .fn 95 [] [.eptr (Aa b), .eptr ((rL 1 rI) a.1)]), (39, .fn 95 [] [.eptr (Aa b), .eptr ((rL 1 rI) a.1)])] ⟨⟨_, I, .us 0 I⟩, ⟨_, I, .box 1 I (.cons (.us 0 I) (.rest _))⟩, ⟨_, I, .fn (.rest _) (.cons (.refl _) (.cons (.box 1 I (.cons (.us 0 I) (.rest _))) (.rest _)))⟩, ⟨_, I, .fn (.rest _) (.cons (.refl _) (.cons (.box 1 I (.cons (.us 0 I) (.rest _))) (.rest _)))⟩, ⟨_, I, .fn (.rest _) (.cons (.refl _) (.cons (.box 1 I (.cons (.us 0 I) (.rest _))) (.rest _)))⟩, J⟩ (ob' := [O0 D [Al n], O0 u [W0], U3 B M.1, O0 j [W0]]) (.rest _)) I (jJ [2] I I I (Fk [2] (Gl B _ (.fn 95 [] [.eptr (Aa b), .eptr ((rL 1 rI) a.1)]) I (fun x => F7 x b a.1) (fun x r h => Gk x b a.1 r h) _ P) ?_))
 rintro _ _ _ - ⟨X, rfl, rfl, rfl⟩
 refine jJ [] I I I (Dy (sz := 1) I I I I I I I I I I Q R (Er (f := rB) S I) dS fun H => jJ [] I I I (Dz I (.refl _) I I (.cons (.refl _) (.cons (.us 4 I) (.cons (.us 5 I) (.rest _)))) I (D1 _ _ _ _ F) dS (by rintro _ _ ⟨_, _, _, rfl, rfl⟩; exact ⟨rfl, by intro p hp; simp only [List.mem_cons, List.not_mem_nil, or_false] at hp; rcases hp with rfl | rfl | rfl <;> exact D9 fun _ => rfl⟩) ?_))
 rintro _ _ ⟨d, e, g, rfl, rfl⟩
 exact Ax 3 I (jJ [3] I I I (A1 3 0 0 [[.v d, .v e, .v g]] I (Ff 9 (Ax 1 I (Ap (jH (lg ⟨(c.2, c.1.Rates, c.1.Ports, c.1.Pumps), j, d, e, g, h, I2⟩ [0, 1, 6, 7, 8, 3])))))))
 refine jJ [] I I I (Dy (sz := 1) I I I I I I I I I I Q R (Er (f := rB) S I) dS fun H => Gm (Ba [2, 3] (K := [U0 t a.1, .arr G 22 1 1 [[.v t]]]) I [(19, Q0 a.1), (8, .eptr ((rL 1 rI) a.1)), (35, .fn 95 [] [.eptr (Aa b), .eptr ((rL 1 rI) a.1)]), (11, .fn 95 [] [.eptr (Aa b), .eptr ((rL 1 rI) a.1)]), (39, .fn 95 [] [.eptr (Aa b), .eptr ((rL 1 rI) a.1)])] ⟨⟨_, I, .us 0 I⟩, ⟨_, I, .box 1 I (.cons (.us 0 I) (.rest _))⟩, ⟨_, I, .fn (.rest _) (.cons (.refl _) (.cons (.box 1 I (.cons (.us 0 I) (.rest _))) (.rest _)))⟩, ⟨_, I, .fn (.rest _) (.cons (.refl _) (.cons (.box 1 I (.cons (.us 0 I) (.rest _))) (.rest _)))⟩, ⟨_, I, .fn (.rest _) (.cons (.refl _) (.cons (.box 1 I (.cons (.us 0 I) (.rest _))) (.rest _)))⟩, J⟩ (ob' := [O0 D [Al n], O0 u [W0], U3 B M.1, O0 j [W0], U1 H ab]) (.rest _)) I (jJ [2] I I I (Fk [2] (Gl B _ (.fn 95 [] [.eptr (Aa b), .eptr ((rL 1 rI) a.1)]) I (fun x => F7 x b a.1) (fun x r h => Gk x b a.1 r h) _ P) ?_)))
 rintro _ _ _ - ⟨X, rfl, rfl, rfl⟩
 refine jJ [] I I I (Dz I (.refl _) I I (.cons (.refl _) (.cons (.us 5 I) (.cons (.us 4 I) (.rest _)))) I (D1 _ _ _ _ F) dS (by rintro _ _ ⟨_, _, _, rfl, rfl⟩; exact ⟨rfl, by intro p hp; simp only [List.mem_cons, List.not_mem_nil, or_false] at hp; rcases hp with rfl | rfl | rfl <;> exact D9 fun _ => rfl⟩) ?_)
 rintro _ _ ⟨d, e, g, rfl, rfl⟩
 exact Ax 3 I (jJ [3] I I I (A1 3 0 0 [[.v d, .v e, .v g]] I (Ff 9 (Ax 1 I (Ap (jH (lg ⟨(c.2, c.1.Rates, c.1.Ports, c.1.Pumps), j, d, e, g, h, I2⟩ [0, 1, 6, 7, 8, 3])))))))
 rintro s ob ⟨i, E, w, y, A, h, rfl, rfl⟩
 refine Ab fun bk ax => Aj I (Ar h I ?_ ?_)
 intro ay h
 refine jK (jG (Bv (Bk (l := W0) Di I) I (Af 1 I (jI [1] I (A1 1 0 0 [W0] I (Af 1 I (jH (jO (Ba [] (K := []) I [] J (ob' := [O0 D [Al n], O0 u [[.list 1 ([].map rI), .list 1 ([].map rI), .list 1 ([].map rB)]], U0 w i.2.1, U0 y i.2.2.1, U1 A i.2.2.2, O0 E [[.v w, .v y, .v A]]]) (.cons (.same _) (.cons (.arr (.cons (.nil _) (.cons (.nil _) (.cons (.nil _) (.rest _))))) (.rest _)))) (C9 [1] I ?_)))))))))
 cases io h
 exact jN ⟨.inr I, [_, _], [], ⟨⟨0, _, _, _, _, _, _, _, I5⟩, I, J⟩, Ct, I2⟩
 intro ay h
 refine jL ?_
 subst ax
 refine Ai (fun s ob => ∃ (U : List Bool), Np.J2 i U = some r ∧ s = [] ∧ ob = [O0 u [W0], U0 w i.2.1, U0 y i.2.2.1, U1 A U, O0 E [[.v w, .v y, .v A]]]) (K2 6 12) J2 ?_ ?_
 refine Bd [.o 1 0, .l 2 (n.Pumps.length : Int)] I ⟨As, I, J⟩ (jM (Ca 53 I fun az => ?_))
 obtain ⟨bl, a0, a1⟩ := Ac h
 refine C1 a0 (K5 3 6 12 53 54) J5 (fun (Y : Nat) (O : List Bool) s ob => s = [(55, .V (Y : Int))] ∧ ob = [O0 u [W0], U0 w i.2.1, U0 y i.2.2.1, U1 A O, O0 E [[.v w, .v y, .v A]]]) ⟨I, I⟩ ⟨I, J⟩ (pk [1, 2, 3, 4, 5]) ?_ ?_
 rintro Y ag O a2 s ob a3 ah ⟨rfl, rfl⟩ h
 unfold Np.B3 at h
 have a4 := Cy ah
 refine Aj I (Ab fun bm a5 => Bs I a4 (jL ?_))
 subst a5
 refine Ai (fun s ob => ∃ (ac : List Bool), Np.J4 ac = some a2 ∧ s = [] ∧ ob = [O0 u [W0], U0 w i.2.1, U0 y i.2.2.1, U1 A ac, O0 E [[.v w, .v y, .v A]]]) (K6 3 6 12 53 54 55) J6 ?_ ?_
 refine jM (Bd [.x 1 Y (rB ag)] I ⟨⟨I, Ag a3⟩, J⟩ ?_)
 rcases bt (ag) with W | W
 have h := Bp W h
 obtain ⟨ai, a6, h⟩ := Ac h
 obtain ⟨Z, ⟨a7, ad⟩, h⟩ := Bh h
 refine Cn 3 Z.1 I ad fun a8 => jT (pd 12 0 [8, 11]) [4] [_] I (Bx 5 [.o 1 0] I J1 (A4 64 I W (Bx 3 [.o 1 0] I J1 (Wk [] I I I I I (Cb I (.refl _) I I (.cons (.refl _) (.cons (.agg (.cons (.us 1 I) (.cons (.us 2 I) (.cons (.us 3 I) (.rest _))))) (.rest _))) I (Yj _ _ _ _ a6) dS (by rintro _ _ ⟨rfl, _⟩; rfl) ?_)))))
 rintro _ ⟨_, rfl, -⟩
 exact Ax 1 I (jZ I (Bi (m := Z.1) I I I I I a8 I a7 ad) I (jJ [3] I I I (Ck 3 Z.1 0 I I I (Ag ad) I I I I (A6 I) I (Dp (x := ai) I) (Ap (jH (lg ⟨(O.set Z.1 ai), h, I2⟩ N5))))))
 have h := Bq W h
 obtain ⟨aa, ⟨a9, ae⟩, h⟩ := Bh h
 exact Cn 3 aa.1 I ae fun ba => jT (pd 12 0 [8, 11]) [4] [_] I (Bx 5 [.o 1 0] I J1 (A4 64 I W (Ax 5 I (jZ I (Bi (m := aa.1) I I I I I ba I a9 ae) I (jJ [3] I I I (Ck 3 aa.1 0 I I I (Ag ae) I I I I (A6 I) I (Dp (x := false) I) (Ap (jH (lg ⟨(O.set aa.1 false), h, I2⟩ N5)))))))))
 rintro s ob ⟨ac, h, rfl, rfl⟩
 unfold Np.J4 at h
 refine jG (Ao 2 [.k 0 (Y + 1 : Nat)] I ⟨Ay ah az, J⟩ ?_)
 cases io h
 exact jH (lg I2 N5)
 rintro O s ob ⟨rfl, rfl⟩ he
 subst he
 have h := a1
 have bb := Cz n.Pumps.length
 exact Aj I (Ab fun bn bo => Bu I bb (jP (lg ⟨O, h, I2⟩ N5)))
 rintro s ob ⟨U, h, rfl, rfl⟩
 unfold Np.J2 at h
 refine jK (jG (Ao 1 [.o 0 4] I J1 (jI [0] I (A1 0 0 0 [[.v w, .v y, .v A]] I (Af 1 I (jH (jO (Ba [1, 2, 3] (K := [U0 w i.2.1, U0 y i.2.2.1, U1 A U]) I [] J (ob' := [O0 u [[Q0 i.2.1, Q0 i.2.2.1, Q5 U]], O0 E [[.v w, .v y, .v A]]]) (.cons (.arr (.cons (.us 0 I) (.cons (.us 1 I) (.cons (.us 2 I) (.rest _))))) (.rest _))) (C9 [0] I ?_))))))))
 cases io h
 exact jN ⟨.inr I, [_, _], [], ⟨⟨0, _, _, _, _, _, _, _, I5⟩, I, J⟩, Ct, I2⟩
end Go.Proofs.YtihdchjpepkpbaaGreat
