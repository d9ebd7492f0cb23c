/- Walks that show what functions of the program compute; printed by a program of ours. No condition. -/
import Derived.Test.YtihdchjpepkpbaaGreatZwL0
import Derived.Test.YtihdchjpepkpbaaGreatZwD
set_option maxRecDepth 100000
namespace Go.Proofs.YtihdchjpepkpbaaGreat
open Go.Aw
set_option linter.unusedVariables false
set_option linter.unusedSimpArgs false
set_option maxHeartbeats 4000000
abbrev Qy : PL := .still 11 (.act 12 (.still 13 (.act 14 (.still 15 .nil))))
abbrev Qw : PL := .still 12 (.act 13 (.still 14 (.act 15 (.still 16 .nil))))
abbrev jG : PL := .two 5 7 (.act 7 (.still 10 Qw)) (.still 10 (.act 5 Qw))
abbrev jE : PL := .two 5 7 (.act 7 (.still 9 Qy)) (.still 9 (.act 5 Qy))
abbrev cM : PL := sl 11 0 (.drop 11 .nil)
theorem Rx (a : Li) (r : Li) (h : Lj a = some r) : ACalls Ak 86 [Q0 a] [] (fun x new => ∃ (b : Value), x = .v b ∧ new = [U0 b r]) := by
  refine Ag Tryz.func86 rfl rfl rfl (fun C hC => ?_)
  unfold Lj at h
  obtain ⟨e, d⟩ := E8 h
  refine mK ?_
  refine mE ?_
  refine B0 (nE rfl) rfl ?_
  refine mF ?_
  refine mK ?_
  refine mK ?_
  refine mE ?_
  refine B0 (Yp.move rfl) rfl ?_
  refine mG [] rfl (Pw rfl rfl rfl (A1 rfl) fun c hc => ?_)
  refine mF ?_
  refine AW.cond rfl rfl ?_ ?_
  · intro hb
    have hs : a = [] := by have := hc hb; simpa using this
    subst hs
    refine mK ?_
    refine mE ?_
    refine B0 (nE rfl) rfl ?_
    refine mZ (A6 3 1) ?_
    refine mF ?_
    refine mL ?_
    have hr : r = [] := by simpa using d.symm
    subst hr
    exact ⟨.inr rfl, [_], [.us nS 3 1 ([].map rI)], ⟨rfl, J⟩, Dj rfl Cm, ⟨_, rfl, rfl⟩⟩
  · intro hb
    refine mI ?_
    refine mK ?_
    refine mE ?_
    refine mG [] rfl (mS (sz := 1) (es := []) rfl rfl rfl rfl rfl rfl rfl rfl rfl rfl rfl (A1 rfl) fun g => ?_)
    refine B0 (Yp.move rfl) rfl ?_
    refine mG [0] rfl (Et 0 (es' := r.map rI) rfl rfl rfl rfl rfl rfl rfl rfl rfl (AppSrc.list rfl) (by simpa using e) (by rw [← d]; simp) (A1 rfl) fun f => ?_)
    refine B0 (nE rfl) rfl ?_
    refine mF ?_
    refine mL ?_
    exact ⟨.inr rfl, [_], [U0 f r], ⟨rfl, J⟩, Dj rfl Cm, ⟨_, rfl, rfl⟩⟩
theorem R7 (a : Hop) (b : Int) (r : Int) (h : Jc a b = r) : ACalls Ak 169 [.agg (A9 a), .V b] [] (RV (.V r)) := by
 refine Ag Tryz.func169 I I I fun C hC => ?_
 refine Aa fun e c => mE (mG [] I (Bz (A9 a) 2 fun f => Af 1 I (mF ?_)))
 subst c
 refine mK (Bg [.o 1 0] I J1 (Aq h I ?_ ?_))
 intro d h
 refine Ai I (mM g0 ?_)
 obtain rfl := h
 exact mL pr
 intro d h
 refine mI (Ai I (mM g0 ?_))
 obtain rfl := h
 exact mL pr
theorem bN (w : Nat) (a : paths_divider) (w0_0 : Value) (w0_1 : Value) (e : Int) (r : Path × paths_divider) (h : Jj a e = some r) : ACalls Ak 108 [.P w, .V e] [O6 w [[Q1 a.n_.Nodes, Q4 a.n_.Segments, Q3 a.n_.Ports, Q2 a.n_.Stations, .V a.n_.Vapour, .V a.n_.Settle, .v w0_0, .v w0_1]], U0 w0_0 a.rates, U0 w0_1 a.ports] (Gm 3 fun x os new => ∃ (u1_0 : Value) (u1_1 : Value), x = .agg (Am r.1) ∧ os = [O6 w [[Q1 r.2.n_.Nodes, Q4 r.2.n_.Segments, Q3 r.2.n_.Ports, Q2 r.2.n_.Stations, .V r.2.n_.Vapour, .V r.2.n_.Settle, .v u1_0, .v u1_1]], U0 u1_0 r.2.rates, U0 u1_1 r.2.ports] ∧ new = []) := by
 refine Ag Tryz.func108 I I I fun C hC => ?_
 refine Aa fun y1 ba => mE (mG [] I (Br W1 4 fun E => mF ?_))
 subst ba
 refine AW.scope (Aa fun y3 bb => ?_)
 obtain ⟨j, ⟨ag, H⟩, h⟩ := Bb h
 refine mE (Al 6 [.o 4 0] I J1 (mQ (Bh 2 (m := j.1) I I I I I I I ag (Ae H)) I (mQ (Ay 2 j.1 0 I I I (Ae H) I (y := .V j.2) I) I (B0 (Bi (l := [.V e, .V 0, .N, .V j.2]) Qb I) I (mG [] I (Br W1 4 fun F => mG [4] I (Ba 4 0 0 [[.V e, .V 0, .N, .V j.2]] I (mF ?_))))))))
 subst bb
 refine Aa fun y7 bc => ?_
 obtain ⟨p8, ⟨bd, be⟩, h⟩ := Bb h
 refine Hh [.o 4 0, .x 6 p8.1 (Bp p8.2)] I ⟨⟨bd, Ae be⟩, I, J⟩ ?_
 subst bc
 refine Aa fun c0 bf => AW.label ?_
 subst bf
 refine Ah (fun s ob => ∃ (f : Int × (List Hop) × Int) (G : Value), Jj.J1 a e j f = some r ∧ s = [] ∧ ob = [O6 w [[Q1 a.n_.Nodes, Q4 a.n_.Segments, Q3 a.n_.Ports, Q2 a.n_.Stations, .V a.n_.Vapour, .V a.n_.Settle, .v w0_0, .v w0_1]], U0 w0_0 a.rates, U0 w0_1 a.ports, O3 E [W1], O3 F [[.V e, .V f.1, .v G, .V f.2.2]], U4 G f.2.1]) (K4 0 1 4 5) J4 ?_ ?_
 refine mJ (mM (A6 53 2) ?_)
 obtain ⟨c1, bg, ar⟩ := Ab h
 refine Bs bg (K4 0 1 4 5) J4 (fun (b : (List Hop) × Int × Int) s ob => ∃ (i : Value), s = [(6, .V b.2.2)] ∧ ob = [O6 w [[Q1 a.n_.Nodes, Q4 a.n_.Segments, Q3 a.n_.Ports, Q2 a.n_.Stations, .V a.n_.Vapour, .V a.n_.Settle, .v w0_0, .v w0_1]], U0 w0_0 a.rates, U0 w0_1 a.ports, O3 E [W1], O3 F [[.V e, .V 0, .v i, .V b.2.1]], U4 i b.1]) ⟨nS, I2⟩ ⟨I, J⟩ (pk N6) ?_
 rintro b au s ob ⟨i, rfl, rfl⟩ h av
 unfold Jj.B4 at h
 refine mJ (Ah (fun s ob => ∃ (aw : Unit), Jj.J5 a b aw = some au ∧ s = [] ∧ ob = [O6 w [[Q1 a.n_.Nodes, Q4 a.n_.Segments, Q3 a.n_.Ports, Q2 a.n_.Stations, .V a.n_.Vapour, .V a.n_.Settle, .v w0_0, .v w0_1]], U0 w0_0 a.rates, U0 w0_1 a.ports, O3 E [W1], O3 F [[.V e, .V 0, .v i, .V b.2.1]], U4 i b.1]) (K5 0 1 4 5 6) J5 ?_ ?_)
 refine Bg [.o 4 0, .l 5 (a.n_.Ports.length : Int)] I ⟨A0, I, J⟩ (mJ (Cj 38 I fun bh => ?_))
 obtain ⟨c2, bi, ax⟩ := Ab h
 refine Cg bi (K7 0 1 4 5 6 38 39) J7 (fun (M : Nat) (ay : Unit) s ob => s = [(40, .V (M : Int))] ∧ ob = [O6 w [[Q1 a.n_.Nodes, Q4 a.n_.Segments, Q3 a.n_.Ports, Q2 a.n_.Stations, .V a.n_.Vapour, .V a.n_.Settle, .v w0_0, .v w0_1]], U0 w0_0 a.rates, U0 w0_1 a.ports, O3 E [W1], O3 F [[.V e, .V 0, .v i, .V b.2.1]], U4 i b.1]) ⟨I, I⟩ ⟨I, J⟩ (pk N6) ?_ ?_
 rintro M ah ay bj s ob bk az ⟨rfl, rfl⟩ h bl
 unfold Jj.B10 at h
 have bm := C9 az
 refine Ai I (Aa fun c3 bn => Cd I bm (mI ?_))
 subst bn
 refine mK (mJ (Aa fun c4 bo => mE (Al 3 [.x 1 M (Bp ah)] I ⟨⟨I, Ae bk⟩, J⟩ (mG [] I (Br W5 3 fun c5 => Af 1 I (mG [6] I (Ba 6 0 0 [Bp ah] I (mF ?_))))))))
 subst bo
 refine Ah (fun s ob => ∃ (ai : Bool), Jj.J11 a b M ai = some bj ∧ s = [(58, .v (.bool ai))] ∧ ob = [O6 w [[Q1 a.n_.Nodes, Q4 a.n_.Segments, Q3 a.n_.Ports, Q2 a.n_.Stations, .V a.n_.Vapour, .V a.n_.Settle, .v w0_0, .v w0_1]], U0 w0_0 a.rates, U0 w0_1 a.ports, O3 E [W1], O3 F [[.V e, .V 0, .v i, .V b.2.1]], U4 i b.1]) (K9 0 1 4 5 6 7 38 39 40) J9 ?_ ?_
 refine mE (Al 5 [.o 1 6] I J1 ?_)
 rcases bt ((ah.Node == b.2.2)) with Z | Z
 have h := Bv Z h
 obtain ⟨ac, ⟨bp, a0⟩, h⟩ := Bb h
 exact Ad 49 I Z (Al 5 [.o 3 0] I J1 (Bc I I I (mQ (Bh 2 (m := ac.1) I I I I I I I bp (Ae a0)) I (Bc I I I (mQ (Ay 2 ac.1 0 I I I (Ae a0) I (y := .V ac.2) I) I (Af 2 I (mF (lg ⟨decide (ac.2 < 0), h, I2⟩ N6))))))))
 have h := Bw Z h
 exact Ad 49 I Z (Af 9 I (mF (lg ⟨false, h, I2⟩ N6)))
 rintro s ob ⟨ai, h, rfl, rfl⟩
 refine Aq h I ?_ ?_
 intro bq h
 refine mK ?_
 obtain ⟨S, ⟨br, aj⟩, h⟩ := Bb h
 refine Bq 2 S.1 I aj fun bs => Bm (.still 0 (.still 1 (sl 8 3 (.act 2 (.still 11 (.still 12 (.act 13 (.still 14 (.act 15 .nil))))))))) [0, 2] [_, _] I (Bo 7 [.o 5 0] I J1 (mU I (Ar (m := S.1) I I I I I bs I br aj) I (AP.o I (Ay 1 S.1 0 I I I (Ae aj) I (y := .V S.2) I) I (A4 1 I (mH [] I I I (Av (Cc 4 0 3 I I I I I (y := .V b.2.1) I) dS (A4 2 I (mH [4] I I I (Ba 4 0 1 [[.V e, .V (M : Int), .v i, .V b.2.1]] I (A4 1 I (mH [4] I I I (Ba 4 0 3 [[.V e, .V (M : Int), .v i, .V (min b.2.1 (wr (0 - S.2)))]] I (An (mF ?_))))))))))))))
 obtain rfl := bl _ (oi h).symm
 have h := ax
 have h := C2 h
 obtain rfl := av _ (oi h).symm
 have h := ar
 exact mN (lg ⟨((M : Int), b.1, (min b.2.1 (wr (0 - S.2)))), i, h, I2⟩ N6)
 intro bq h
 refine mI (mE (Al 2 [.k 0 (M + 1 : Nat)] I ⟨Bf az bh, J⟩ ?_))
 cases io h
 exact mF ⟨_, _, _, I, I2, J8, pk N6⟩
 rintro ay s ob ⟨rfl, rfl⟩ he
 subst he
 have h := Cz ax
 have bu := Da a.n_.Ports.length
 exact Ai I (Aa fun c6 c7 => Ce I bu (mN (lg ⟨(), h, I2⟩ N6)))
 rintro s ob ⟨aw, h, rfl, rfl⟩
 unfold Jj.J5 at h
 refine Ah (fun s ob => ∃ (a1 : Unit), Jj.J6 b a1 = some au ∧ s = [] ∧ ob = [O6 w [[Q1 a.n_.Nodes, Q4 a.n_.Segments, Q3 a.n_.Ports, Q2 a.n_.Stations, .V a.n_.Vapour, .V a.n_.Settle, .v w0_0, .v w0_1]], U0 w0_0 a.rates, U0 w0_1 a.ports, O3 E [W1], O3 F [[.V e, .V 0, .v i, .V b.2.1]], U4 i b.1]) (K4 0 1 4 5) J4 ?_ ?_
 refine Bg [.o 4 0, .l 5 (a.n_.Segments.length : Int)] I ⟨A0, I, J⟩ (mJ (Cj 78 I fun bv => ?_))
 obtain ⟨c8, bw, ak⟩ := Ab h
 refine Cg bw (K6 0 1 4 5 78 79) J6 (fun (A : Nat) (a2 : Unit) s ob => s = [(80, .V (A : Int)), (6, .V b.2.2)] ∧ ob = [O6 w [[Q1 a.n_.Nodes, Q4 a.n_.Segments, Q3 a.n_.Ports, Q2 a.n_.Stations, .V a.n_.Vapour, .V a.n_.Settle, .v w0_0, .v w0_1]], U0 w0_0 a.rates, U0 w0_1 a.ports, O3 E [W1], O3 F [[.V e, .V 0, .v i, .V b.2.1]], U4 i b.1]) ⟨I, I⟩ ⟨I, I, J⟩ (pk N6) ?_ ?_
 rintro A O a2 a3 s ob bx a4 ⟨rfl, rfl⟩ h a5
 have b1 := C9 a4
 refine Ai I (Aa fun c9 b3 => Cd I b1 (mI ?_))
 subst b3
 refine mK (mJ (Aa fun da b4 => mE (Al 3 [.x 1 A (Ap O)] I ⟨⟨I, Ae bx⟩, J⟩ (mG [] I (Br W3 7 fun db => Af 1 I (mG [6] I (Ba 6 0 0 [Ap O] I (mF ?_))))))))
 subst b4
 refine Aa fun dc b5 => ?_
 obtain ⟨g, ⟨b7, al⟩, h⟩ := Bb h
 refine Bq 1 g.1 I al fun b8 => Bm (pd 14 0 []) [6, 0, 1] [_, _, _] I (Bo 9 [.o 1 0, .o 3 0, .o 7 1] I J3 (mU I (Ar (m := g.1) I I I I I b8 I b7 al) I (AP.o I (Ay 2 g.1 0 I I I (Ae al) I (y := .V g.2) I) I (A4 3 I (An (mF ?_))))))
 subst b5
 refine Ec 102 (decide (g.2 > 0) && (O.From == b.2.2)) ?_ ?_
 refine mE (Af 3 I ?_)
 rcases bt (decide (g.2 > 0)) with aa | aa
 exact Ad 98 I aa (Af 4 I (mF (jf (by simp only [aa, bz]) I I I2)))
 exact Ad 98 I aa (Af 4 I (mF (jf (by simp only [aa, bz]) I I I2)))
 refine Aq h I ?_ ?_
 intro b9 h
 refine Ah (fun s ob => ∃ (am : List Hop) (ad : Value), Jj.J8 b O g am = some a3 ∧ s = [(6, .V O.To)] ∧ ob = [O6 w [[Q1 a.n_.Nodes, Q4 a.n_.Segments, Q3 a.n_.Ports, Q2 a.n_.Stations, .V a.n_.Vapour, .V a.n_.Settle, .v w0_0, .v w0_1]], U0 w0_0 a.rates, U0 w0_1 a.ports, O3 E [W1], O3 F [[.V e, .V 0, .v ad, .V (min b.2.1 g.2)]], U4 ad am]) (K4 0 1 4 5) J4 ?_ ?_
 obtain ⟨ca, P, h⟩ := Ab h
 refine Bm (.still 0 (.still 2 (.still 3 (.still 6 (.still 8 (.still 10 (.three 1 4 7 (.two 4 7 jE (.still 9 (.act 4 (.act 5 Qy)))) (.two 1 7 jE (.still 9 (.act 1 (.act 5 Qy)))) (.still 9 (.two 1 4 (.act 4 (.act 5 Qy)) (.act 1 (.act 5 Qy))))))))))) [] [] I (A4 2 I (mU I (Bi (l := [.V (A : Int), .v (.bool false)]) Gj I) I (A4 3 I (AP.three ?_ ?_ ?_))))
 refine mH [] I I I (Av (Cc 4 0 2 I I I I I (y := .v i) I) dS (mV ?_ ?_))
 refine mH [] I I I (mO 2 (([(⟨(A : Int), false⟩ : Hop)] : List Hop).map A9) (mV ?_ ?_))
 refine mH [5] I I I (mT 5 I P fun n => mH [] I I I (Av (Cc 4 0 3 I I I I I (y := .V b.2.1) I) dS (A4 2 I (mX 5 I fun B => mH [4] I I I (mP 4 0 2 (es' := [[.V e, .V 0, .v n, .V b.2.1]]) I I I I I I (Bd B) I (As I) I I (A4 1 I (mH [4] I I I (Ba 4 0 3 [[.V e, .V 0, .v n, .V (min b.2.1 g.2)]] I (A4 1 I (An (mF ?_)))))))))))
 rotate_left
 refine mH [] I I I (Av (Cc 4 0 3 I I I I I (y := .V b.2.1) I) dS (A4 1 I (mH [5] I I I (mT 5 I P fun n => A4 1 I (mX 5 I fun B => mH [4] I I I (mP 4 0 2 (es' := [[.V e, .V 0, .v n, .V b.2.1]]) I I I I I I (Bd B) I (As I) I I (A4 1 I (mH [4] I I I (Ba 4 0 3 [[.V e, .V 0, .v n, .V (min b.2.1 g.2)]] I (A4 1 I (An (mF ?_))))))))))))
 rotate_left
 refine mH [] I I I (Av (Cc 4 0 3 I I I I I (y := .V b.2.1) I) dS (A4 1 I (mH [] I I I (mO 2 (([(⟨(A : Int), false⟩ : Hop)] : List Hop).map A9) (mH [5] I I I (mT 5 I P fun n => A4 1 I (mX 5 I fun B => mH [4] I I I (mP 4 0 2 (es' := [[.V e, .V 0, .v n, .V b.2.1]]) I I I I I I (Bd B) I (As I) I I (A4 1 I (mH [4] I I I (Ba 4 0 3 [[.V e, .V 0, .v n, .V (min b.2.1 g.2)]] I (A4 1 I (An (mF ?_))))))))))))))
 rotate_left
 refine mH [] I I I (mO 2 (([(⟨(A : Int), false⟩ : Hop)] : List Hop).map A9) (mV ?_ ?_))
 refine mH [] I I I (Av (Cc 4 0 2 I I I I I (y := .v i) I) dS (mV ?_ ?_))
 refine mH [5] I I I (mT 5 I P fun n => mH [] I I I (Av (Cc 4 0 3 I I I I I (y := .V b.2.1) I) dS (A4 2 I (mX 5 I fun B => mH [4] I I I (mP 4 0 2 (es' := [[.V e, .V 0, .v n, .V b.2.1]]) I I I I I I (Bd B) I (As I) I I (A4 1 I (mH [4] I I I (Ba 4 0 3 [[.V e, .V 0, .v n, .V (min b.2.1 g.2)]] I (A4 1 I (An (mF ?_)))))))))))
 rotate_left
 refine mH [] I I I (Av (Cc 4 0 3 I I I I I (y := .V b.2.1) I) dS (A4 1 I (mH [5] I I I (mT 5 I P fun n => A4 1 I (mX 5 I fun B => mH [4] I I I (mP 4 0 2 (es' := [[.V e, .V 0, .v n, .V b.2.1]]) I I I I I I (Bd B) I (As I) I I (A4 1 I (mH [4] I I I (Ba 4 0 3 [[.V e, .V 0, .v n, .V (min b.2.1 g.2)]] I (A4 1 I (An (mF ?_))))))))))))
 rotate_left
 refine mH [] I I I (Av (Cc 4 0 3 I I I I I (y := .V b.2.1) I) dS (A4 1 I (mH [] I I I (Av (Cc 4 0 2 I I I I I (y := .v i) I) dS (mH [5] I I I (mT 5 I P fun n => A4 1 I (mX 5 I fun B => mH [4] I I I (mP 4 0 2 (es' := [[.V e, .V 0, .v n, .V b.2.1]]) I I I I I I (Bd B) I (As I) I I (A4 1 I (mH [4] I I I (Ba 4 0 3 [[.V e, .V 0, .v n, .V (min b.2.1 g.2)]] I (A4 1 I (An (mF ?_))))))))))))))
 rotate_left
 refine mH [] I I I (Av (Cc 4 0 3 I I I I I (y := .V b.2.1) I) dS (A4 1 I (mV ?_ ?_)))
 refine mH [] I I I (Av (Cc 4 0 2 I I I I I (y := .v i) I) dS (mH [] I I I (mO 2 (([(⟨(A : Int), false⟩ : Hop)] : List Hop).map A9) (mH [5] I I I (mT 5 I P fun n => A4 1 I (mX 5 I fun B => mH [4] I I I (mP 4 0 2 (es' := [[.V e, .V 0, .v n, .V b.2.1]]) I I I I I I (Bd B) I (As I) I I (A4 1 I (mH [4] I I I (Ba 4 0 3 [[.V e, .V 0, .v n, .V (min b.2.1 g.2)]] I (A4 1 I (An (mF ?_)))))))))))))
 rotate_left
 refine mH [] I I I (mO 2 (([(⟨(A : Int), false⟩ : Hop)] : List Hop).map A9) (mH [] I I I (Av (Cc 4 0 2 I I I I I (y := .v i) I) dS (mH [5] I I I (mT 5 I P fun n => A4 1 I (mX 5 I fun B => mH [4] I I I (mP 4 0 2 (es' := [[.V e, .V 0, .v n, .V b.2.1]]) I I I I I I (Bd B) I (As I) I I (A4 1 I (mH [4] I I I (Ba 4 0 3 [[.V e, .V 0, .v n, .V (min b.2.1 g.2)]] I (A4 1 I (An (mF ?_)))))))))))))
 any_goals
  exact lg ⟨ca, n, h, I2⟩ N6
 rintro s ob ⟨am, ad, h, rfl, rfl⟩
 unfold Jj.J8 at h
 obtain rfl := a5 _ (oi h).symm
 have h := ak
 have h := C2 h
 cases io h
 refine mN ?_
 exact ⟨_, _, _, I, ⟨ad, I2⟩, J5, pk N6⟩
 intro b9 h
 refine Ec 122 (decide (g.2 < 0) && (O.To == b.2.2)) ?_ ?_
 refine mE (Af 3 I ?_)
 rcases bt (decide (g.2 < 0)) with ab | ab
 exact Ad 118 I ab (Af 4 I (mF (jf (by simp only [ab, bz]) I I I2)))
 exact Ad 118 I ab (Af 4 I (mF (jf (by simp only [ab, bz]) I I I2)))
 refine Aq h I ?_ ?_
 intro cb h
 refine Ah (fun s ob => ∃ (an : List Hop) (ae : Value), Jj.J9 b O g an = some a3 ∧ s = [(6, .V O.From)] ∧ ob = [O6 w [[Q1 a.n_.Nodes, Q4 a.n_.Segments, Q3 a.n_.Ports, Q2 a.n_.Stations, .V a.n_.Vapour, .V a.n_.Settle, .v w0_0, .v w0_1]], U0 w0_0 a.rates, U0 w0_1 a.ports, O3 E [W1], O3 F [[.V e, .V 0, .v ae, .V (min b.2.1 (wr (0 - g.2)))]], U4 ae an]) (K4 0 1 4 5) J4 ?_ ?_
 obtain ⟨cc, Q, h⟩ := Ab h
 refine Bm (.still 0 (.still 2 (.still 3 (.still 6 (.still 8 (.still 9 (.still 11 (.three 1 4 7 (.two 4 7 jG (.still 10 (.act 4 (.act 5 Qw)))) (.two 1 7 jG (.still 10 (.act 1 (.act 5 Qw)))) (.still 10 (.two 1 4 (.act 4 (.act 5 Qw)) (.act 1 (.act 5 Qw)))))))))))) [] [] I (A4 2 I (mU I (Bi (l := [.V (A : Int), .v (.bool true)]) Gj I) I (A4 4 I (AP.three ?_ ?_ ?_))))
 refine mH [] I I I (Av (Cc 4 0 2 I I I I I (y := .v i) I) dS (mV ?_ ?_))
 refine mH [] I I I (mO 2 (([(⟨(A : Int), true⟩ : Hop)] : List Hop).map A9) (mV ?_ ?_))
 refine mH [5] I I I (mT 5 I Q fun t => mH [] I I I (Av (Cc 4 0 3 I I I I I (y := .V b.2.1) I) dS (A4 2 I (mX 5 I fun D => mH [4] I I I (mP 4 0 2 (es' := [[.V e, .V 0, .v t, .V b.2.1]]) I I I I I I (Bd D) I (As I) I I (A4 1 I (mH [4] I I I (Ba 4 0 3 [[.V e, .V 0, .v t, .V (min b.2.1 (wr (0 - g.2)))]] I (A4 1 I (An (mF ?_)))))))))))
 rotate_left
 refine mH [] I I I (Av (Cc 4 0 3 I I I I I (y := .V b.2.1) I) dS (A4 1 I (mH [5] I I I (mT 5 I Q fun t => A4 1 I (mX 5 I fun D => mH [4] I I I (mP 4 0 2 (es' := [[.V e, .V 0, .v t, .V b.2.1]]) I I I I I I (Bd D) I (As I) I I (A4 1 I (mH [4] I I I (Ba 4 0 3 [[.V e, .V 0, .v t, .V (min b.2.1 (wr (0 - g.2)))]] I (A4 1 I (An (mF ?_))))))))))))
 rotate_left
 refine mH [] I I I (Av (Cc 4 0 3 I I I I I (y := .V b.2.1) I) dS (A4 1 I (mH [] I I I (mO 2 (([(⟨(A : Int), true⟩ : Hop)] : List Hop).map A9) (mH [5] I I I (mT 5 I Q fun t => A4 1 I (mX 5 I fun D => mH [4] I I I (mP 4 0 2 (es' := [[.V e, .V 0, .v t, .V b.2.1]]) I I I I I I (Bd D) I (As I) I I (A4 1 I (mH [4] I I I (Ba 4 0 3 [[.V e, .V 0, .v t, .V (min b.2.1 (wr (0 - g.2)))]] I (A4 1 I (An (mF ?_))))))))))))))
 rotate_left
 refine mH [] I I I (mO 2 (([(⟨(A : Int), true⟩ : Hop)] : List Hop).map A9) (mV ?_ ?_))
 refine mH [] I I I (Av (Cc 4 0 2 I I I I I (y := .v i) I) dS (mV ?_ ?_))
 refine mH [5] I I I (mT 5 I Q fun t => mH [] I I I (Av (Cc 4 0 3 I I I I I (y := .V b.2.1) I) dS (A4 2 I (mX 5 I fun D => mH [4] I I I (mP 4 0 2 (es' := [[.V e, .V 0, .v t, .V b.2.1]]) I I I I I I (Bd D) I (As I) I I (A4 1 I (mH [4] I I I (Ba 4 0 3 [[.V e, .V 0, .v t, .V (min b.2.1 (wr (0 - g.2)))]] I (A4 1 I (An (mF ?_)))))))))))
 rotate_left
 refine mH [] I I I (Av (Cc 4 0 3 I I I I I (y := .V b.2.1) I) dS (A4 1 I (mH [5] I I I (mT 5 I Q fun t => A4 1 I (mX 5 I fun D => mH [4] I I I (mP 4 0 2 (es' := [[.V e, .V 0, .v t, .V b.2.1]]) I I I I I I (Bd D) I (As I) I I (A4 1 I (mH [4] I I I (Ba 4 0 3 [[.V e, .V 0, .v t, .V (min b.2.1 (wr (0 - g.2)))]] I (A4 1 I (An (mF ?_))))))))))))
 rotate_left
 refine mH [] I I I (Av (Cc 4 0 3 I I I I I (y := .V b.2.1) I) dS (A4 1 I (mH [] I I I (Av (Cc 4 0 2 I I I I I (y := .v i) I) dS (mH [5] I I I (mT 5 I Q fun t => A4 1 I (mX 5 I fun D => mH [4] I I I (mP 4 0 2 (es' := [[.V e, .V 0, .v t, .V b.2.1]]) I I I I I I (Bd D) I (As I) I I (A4 1 I (mH [4] I I I (Ba 4 0 3 [[.V e, .V 0, .v t, .V (min b.2.1 (wr (0 - g.2)))]] I (A4 1 I (An (mF ?_))))))))))))))
 rotate_left
 refine mH [] I I I (Av (Cc 4 0 3 I I I I I (y := .V b.2.1) I) dS (A4 1 I (mV ?_ ?_)))
 refine mH [] I I I (Av (Cc 4 0 2 I I I I I (y := .v i) I) dS (mH [] I I I (mO 2 (([(⟨(A : Int), true⟩ : Hop)] : List Hop).map A9) (mH [5] I I I (mT 5 I Q fun t => A4 1 I (mX 5 I fun D => mH [4] I I I (mP 4 0 2 (es' := [[.V e, .V 0, .v t, .V b.2.1]]) I I I I I I (Bd D) I (As I) I I (A4 1 I (mH [4] I I I (Ba 4 0 3 [[.V e, .V 0, .v t, .V (min b.2.1 (wr (0 - g.2)))]] I (A4 1 I (An (mF ?_)))))))))))))
 rotate_left
 refine mH [] I I I (mO 2 (([(⟨(A : Int), true⟩ : Hop)] : List Hop).map A9) (mH [] I I I (Av (Cc 4 0 2 I I I I I (y := .v i) I) dS (mH [5] I I I (mT 5 I Q fun t => A4 1 I (mX 5 I fun D => mH [4] I I I (mP 4 0 2 (es' := [[.V e, .V 0, .v t, .V b.2.1]]) I I I I I I (Bd D) I (As I) I I (A4 1 I (mH [4] I I I (Ba 4 0 3 [[.V e, .V 0, .v t, .V (min b.2.1 (wr (0 - g.2)))]] I (A4 1 I (An (mF ?_)))))))))))))
 any_goals
  exact lg ⟨cc, t, h, I2⟩ N6
 rintro s ob ⟨an, ae, h, rfl, rfl⟩
 unfold Jj.J9 at h
 obtain rfl := a5 _ (oi h).symm
 have h := ak
 have h := C2 h
 cases io h
 refine mN ?_
 exact ⟨_, _, _, I, ⟨ae, I2⟩, J5, pk N6⟩
 intro cb h
 refine mI (mE (Al 2 [.k 0 (A + 1 : Nat)] I ⟨Bf a4 bv, J⟩ ?_))
 cases io h
 exact mF ⟨_, _, _, I, I2, J8, pk N6⟩
 rintro a2 s ob ⟨rfl, rfl⟩ he
 subst he
 have h := Cz ak
 have cd := Da a.n_.Segments.length
 exact Ai I (Aa fun dd de => Ce I cd (mN (lg ⟨(), h, I2⟩ N6)))
 rintro s ob ⟨a1, h, rfl, rfl⟩
 unfold Jj.J6 at h
 obtain rfl := av _ (oi h).symm
 have h := ar
 exact mN (lg ⟨(0, b.1, b.2.1), i, h, I2⟩ N6)
 rintro s ob ⟨f, G, h, rfl, rfl⟩
 refine Aa fun df ce => Bq 2 j.1 I H fun cf => Bq 2 j.1 I H fun cg => Bm cM [0, 2, 4] [_, _, _] I (Bo 5 [.o 3 0] I J1 (mU I (Ar (m := j.1) I I I I I cf I ag H) I (AP.o I (Ay 1 j.1 0 I I I (Ae H) I (y := .V j.2) I) I (Bo 3 [.o 1 2] I J1 (mU I (Ar (m := j.1) I I I I I cg I ag H) I (mW [2] I I I (A5 2 j.1 0 I I I (Ae H) I I I I (As I) I (Ca (x := wr (j.2 - f.2.2)) I) (An (mF ?_)))))))))
 subst ce
 refine Aa fun dg ci => ?_
 obtain ⟨u, ⟨a6, U⟩, h⟩ := Bb h
 refine Bq 2 u.1 I U fun cj => Bq 2 u.1 I U fun ck => Bm (sl 12 0 (.drop 12 .nil)) [0, 4, 2] [_, _, _] I (Bo 6 [.o 3 0, .o 5 1] I J2 (mU I (Ar (m := u.1) I I I I I cj I a6 U) I (AP.o I (Ay 2 u.1 0 I I I (Ae U) I (y := .V u.2) I) I (Bo 3 [.o 1 1] I J1 (mU I (Ar (m := u.1) I I I I I ck I a6 U) I (mW [2] I I I (A5 2 u.1 0 I I I (Ae U) I I I I (As I) I (Ca (x := wr (u.2 + f.2.2)) I) (An (mF ?_)))))))))
 subst ci
 refine Ah (fun s ob => ∃ (W : Li), Jj.J2 a e j f u W = some r ∧ s = [] ∧ ob = [O6 w [[Q1 a.n_.Nodes, Q4 a.n_.Segments, Q3 a.n_.Ports, Q2 a.n_.Stations, .V a.n_.Vapour, .V a.n_.Settle, .v w0_0, .v w0_1]], U0 w0_0 W, .us w0_1 3 1 (((a.ports.set j.1 (wr (j.2 - f.2.2))).set u.1 (wr (u.2 + f.2.2))).map rI), O3 E [W1], O3 F [[.V e, .V f.1, .v G, .V f.2.2]], U4 G f.2.1]) (K2 4 5) J2 ?_ ?_
 refine Aa fun dh cl => mE (Al 2 [.o 1 4] I J1 (mQ (Cf 5 I I I I) I (Af 1 I (mF ?_))))
 subst cl
 refine mJ (cS 5 I fun cm => ?_)
 obtain ⟨di, cn, co⟩ := Ab h
 refine Vu cn (K5 0 4 5 162 163) J5 (fun (ao : Nat) (af : Li) s ob => s = [(164, .V (ao : Int))] ∧ ob = [O6 w [[Q1 a.n_.Nodes, Q4 a.n_.Segments, Q3 a.n_.Ports, Q2 a.n_.Stations, .V a.n_.Vapour, .V a.n_.Settle, .v w0_0, .v w0_1]], U0 w0_0 af, .us w0_1 3 1 (((a.ports.set j.1 (wr (j.2 - f.2.2))).set u.1 (wr (u.2 + f.2.2))).map rI), O3 E [W1], O3 F [[.V e, .V f.1, .v G, .V f.2.2]], U4 G f.2.1]) ⟨I, I⟩ ⟨I, J⟩ (pk N6) ?_ ?_
 rintro ao af dj s ob a7 ⟨rfl, rfl⟩ h
 have cp := C9 a7
 refine Ai I (Aa fun dk cq => Cd I cp (mI ?_))
 subst cq
 refine mK (mJ (Aa fun dl cr => ?_))
 obtain ⟨X, ⟨ct, a8⟩, h⟩ := Bb h
 refine mE (mQ (Bh 5 (m := X.1) I I I I I I I ct (Ae a8)) I (mQ (Ay 5 X.1 0 I I I (Ae a8) I (y := .agg (A9 X.2)) I) I (mG [] I (Br [.V 0, .v (.bool false)] 2 fun dm => mG [6] I (Ba 6 0 0 [A9 X.2] I (mF ?_))))))
 subst cr
 obtain ⟨R, ⟨a9, Y⟩, h⟩ := Bb h
 refine Bq 1 R.1 I Y fun cu => Bq 1 R.1 I Y fun cv => Bm (sl 11 0 (.act 11 (.still 12 (.still 13 (.drop 14 .nil))))) [0, 6, 1, 4] [_, _, _, _] I (Bo 6 [.o 3 0, .o 5 1] I J2 (mU I (Ar (m := R.1) I I I I I cu I a9 Y) I (AP.o I (Ay 2 R.1 0 I I I (Ae Y) I (y := .V R.2) I) I (Bo 3 [.o 0 1, .o 2 3] I J2 (nC I (R7 X.2 f.2.2 _ I) (A4 1 I (mU I (Ar (m := R.1) I I I I I cv I a9 Y) I (mW [1] I I I (A5 1 R.1 0 I I I (Ae Y) I I I I (As I) I (Ca (x := wr (R.2 - (Jc X.2 f.2.2))) I) (An (mF ?_)))))))))))
 refine mE (Al 2 [.k 0 (ao + 1 : Nat)] I ⟨Bf a7 cm, J⟩ ?_)
 cases io h
 exact mF (lg I2 N6)
 rintro af s ob ⟨rfl, rfl⟩ he
 subst he
 have h := co
 have cw := Da f.2.1.length
 exact Ai I (Aa fun dn dp => Ce I cw (mN (lg ⟨af, h, I2⟩ N6)))
 rintro s ob ⟨W, h, rfl, rfl⟩
 refine mK (mE (Al 1 [.o 0 4] I J1 (mG [3] I (Ba 3 0 0 [[.V e, .V f.1, .v G, .V f.2.2]] I (mF (mM (Be [5] (K := [U4 G f.2.1]) I [] J (ob' := [O6 w [[Q1 a.n_.Nodes, Q4 a.n_.Segments, Q3 a.n_.Ports, Q2 a.n_.Stations, .V a.n_.Vapour, .V a.n_.Settle, .v w0_0, .v w0_1]], U0 w0_0 W, .us w0_1 3 1 (((a.ports.set j.1 (wr (j.2 - f.2.2))).set u.1 (wr (u.2 + f.2.2))).map rI), O3 E [[.V e, .V f.1, Q7 f.2.1, .V f.2.2]], O3 F [[.V e, .V f.1, .v G, .V f.2.2]]]) (.cons (.same _) (.cons (.same _) (.cons (.same _) (.cons (.arr (.cons (.refl _) (.cons (.refl _) (.cons (.us 0 I) (.rest _))))) (.rest _)))))) (Dd N4 I ?_)))))))
 obtain rfl := oi h
 exact mL ⟨.inr I, [_], [O6 w [[Q1 a.n_.Nodes, Q4 a.n_.Segments, Q3 a.n_.Ports, Q2 a.n_.Stations, .V a.n_.Vapour, .V a.n_.Settle, .v w0_0, .v w0_1]], U0 w0_0 W, .us w0_1 3 1 (((a.ports.set j.1 (wr (j.2 - f.2.2))).set u.1 (wr (u.2 + f.2.2))).map rI)], ⟨⟨3, _, _, _, _, _, _, _, I5⟩, J⟩, Dj I (Dj I (Dj I (Cm))), ⟨[O6 w [[Q1 a.n_.Nodes, Q4 a.n_.Segments, Q3 a.n_.Ports, Q2 a.n_.Stations, .V a.n_.Vapour, .V a.n_.Settle, .v w0_0, .v w0_1]], U0 w0_0 W, .us w0_1 3 1 (((a.ports.set j.1 (wr (j.2 - f.2.2))).set u.1 (wr (u.2 + f.2.2))).map rI)], [], I, I, w0_0, w0_1, I3⟩⟩
theorem Ru (b : Nw) (K : Plan) (r : (List Path) × Int) (h : F9 b K = some r) : ACalls Ak 46 [.agg (Ac b), .agg (Au K)] [] (fun x new => ∃ (R : Value), x = .tup [.v R, .V r.2] ∧ new = [U3 R r.1]) := by
 refine Ag Tryz.func46 I I I fun C hC => ?_
 refine Aa fun y1 Z => mE (mG [] I (Bz (Ac b) 6 fun b2 => mG [] I (Bz (Au K) 3 fun b3 => Af 2 I (mF ?_))))
 subst Z
 refine Aa fun y4 aa => mK ?_
 obtain ⟨r5, ab, h⟩ := Ab h
 refine mE (Al 1 [.o 0 0] I J1 (mR (G4 _ _ ab) (Af 1 I (mF (Ai I (Aq h I ?_ ?_))))))
 intro ac h
 refine Ai I (mM (A6 50 4) (Dd [2] I ?_))
 cases io h
 exact mL ⟨.inr I, [_, _], [.us nS 50 4 ([].map Am)], J2, Dj I (Cm), ⟨nS, I2⟩⟩
 intro ac h
 refine mI ?_
 subst aa
 refine Aa fun y8 ad => mK ?_
 obtain ⟨r9, ae, h⟩ := Ab h
 refine mE (Al 2 [.o 0 0, .o 1 1] I J2 (mR (Sa _ _ _ ae) (Af 1 I (mF (Ai I (Aq h I ?_ ?_))))))
 intro af h
 refine Ai I (mM (A6 50 4) (Dd [2] I ?_))
 cases io h
 exact mL ⟨.inr I, [_, _], [.us nS 50 4 ([].map Am)], J2, Dj I (Cm), ⟨nS, I2⟩⟩
 intro af h
 refine mI ?_
 subst ad
 refine Aa fun bf ag => ?_
 obtain ⟨bg, ah, h⟩ := Ab h
 obtain ⟨ai, aj, h⟩ := Ab h
 refine Bm (sl 3 0 (.still 4 (.still 5 (.act 3 (.act 6 (.still 7 (.act 8 (.still 9 .nil)))))))) [0, 1] [_, _] I (Bo 5 [.o 0 0, .o 2 1, .o 4 1] I J3 (mH [] I I I (Cb I I I (Rx _ _ ah) dS ?_)))
 rintro _ _ ⟨M, rfl, rfl⟩
 refine mH [] I I I (Cb I I I (Rx _ _ aj) dS ?_)
 rintro _ _ ⟨O, rfl, rfl⟩
 refine mX 2 I fun ak => mX 3 I fun al => Jr I (Bi (l := [Q1 b.Nodes, Q4 b.Segments, Q3 b.Ports, Q2 b.Stations, .V b.Vapour, .V b.Settle, .v M, .v O]) V5 (Ci I I I I (Ci I I (Bd ak) I (Ci I I (Bd al) I (E6))))) I (mH [] I I I (Bz [Q1 b.Nodes, Q4 b.Segments, Q3 b.Ports, Q2 b.Stations, .V b.Vapour, .V b.Settle, .v M, .v O] 8 fun A => A4 1 I (An (mF ?_))))
 subst ag
 refine Ai I (Ah (fun s ob => ∃ (B : List Path) (i : Value), F9.J1 B = some r ∧ s = [(9, .v i)] ∧ ob = [U3 i B]) [] J ?_ ?_)
 refine Aa fun bh am => mE (Al 4 [.o 3 4] I J1 (mQ (Cf 3 I I I I) I (Af 1 I (mF ?_))))
 subst am
 refine mJ (cS 3 I fun an => mM (A6 50 4) ?_)
 obtain ⟨bi, ao, S⟩ := Ab h
 refine Gf ao (K2 8 36) J2 (fun (P : Nat) (e : (List Bt) × (List Sg) × (List Port) × (List Sn) × Int × Int × Li × Li × (List Path)) s ob => ∃ (j : Value) (n : Value) (g : Value), s = [(37, .V (P : Int)), (9, .v g)] ∧ ob = [U0 j e.2.2.2.2.2.2.1, U0 n e.2.2.2.2.2.2.2.1, O6 A [[Q1 e.1, Q4 e.2.1, Q3 e.2.2.1, Q2 e.2.2.2.1, .V e.2.2.2.2.1, .V e.2.2.2.2.2.1, .v j, .v n]], U3 g e.2.2.2.2.2.2.2.2]) ⟨M, O, nS, I2⟩ ⟨I, I, J⟩ (pk [2, 3, 4, 5]) ?_ ?_
 rintro P e aq s ob U ⟨j, n, g, rfl, rfl⟩ h ar
 unfold F9.B2 at h
 have au := C9 U
 refine Ai I (Aa fun bj av => Cd I au (mI ?_))
 subst av
 refine Ah (fun s ob => ∃ (f : (List Bt) × (List Sg) × (List Port) × (List Sn) × Int × Int × Li × Li × (List Path)) (D : Value) (E : Value) (F : Value), F9.J3 f = some aq ∧ s = [(9, .v F)] ∧ ob = [U0 D f.2.2.2.2.2.2.1, U0 E f.2.2.2.2.2.2.2.1, O6 A [[Q1 f.1, Q4 f.2.1, Q3 f.2.2.1, Q2 f.2.2.2.1, .V f.2.2.2.2.1, .V f.2.2.2.2.2.1, .v D, .v E]], U3 F f.2.2.2.2.2.2.2.2]) (K3 8 36 37) J3 ?_ ?_
 refine mJ (Ai I (mJ ?_))
 obtain ⟨bk, aw, W⟩ := Ab h
 refine Bs aw (K4 8 10 36 37) J4 (fun (a : (List Bt) × (List Sg) × (List Port) × (List Sn) × Int × Int × Li × Li × (List Path)) s ob => ∃ (t : Value) (u : Value) (G : Value), s = [(9, .v G)] ∧ ob = [U0 t a.2.2.2.2.2.2.1, U0 u a.2.2.2.2.2.2.2.1, O6 A [[Q1 a.1, Q4 a.2.1, Q3 a.2.2.1, Q2 a.2.2.2.1, .V a.2.2.2.2.1, .V a.2.2.2.2.2.1, .v t, .v u]], U3 G a.2.2.2.2.2.2.2.2]) ⟨j, n, g, I2⟩ ⟨I, J⟩ (pk N4) ?_
 rintro a bl s ob ⟨t, u, G, rfl, rfl⟩ h X
 refine Aa fun bm ax => mK ?_
 obtain ⟨Q, ⟨ay, Y⟩, h⟩ := Bb h
 refine mE (Al 5 [.o 3 2] I J1 (mQ (Bh 1 (m := Q.1) I I I I I I I ay (Ae Y)) I (mQ (Ay 1 Q.1 0 I I I (Ae Y) I (y := .V Q.2) I) I (Af 1 I (mF (Aq h I ?_ ?_))))))
 intro az h
 refine mI ?_
 subst ax
 refine mJ (Aa fun bn a0 => ?_)
 obtain ⟨H, a1, h⟩ := Ab h
 refine mE (Af 2 I (mG [2, 0, 1] I (Dp [2, 0, 1] (bN A _ t u _ _ a1) ?_)))
 rintro _ _ _ - ⟨a2, a3, rfl, rfl, rfl⟩
 refine mG [] I (Br W1 4 fun bo => mG [4] I (Ba 4 0 0 [Am H.1] I (mF ?_)))
 subst a0
 refine mK (Ec 59 (((a.2.2.2.2.2.2.2.2.length : Int) == 64) || decide ((H.1.Hops.length : Int) > 32)) ?_ ?_)
 refine mE (Af 1 I (mQ (Cf 3 I I I I) I (Af 2 I ?_)))
 rcases bt (((a.2.2.2.2.2.2.2.2.length : Int) == 64)) with w | w
 exact Ad 54 I w (Af 5 I (mF (jf (by simp only [w, bz]) I I I2)))
 exact Ad 54 I w (Al 5 [.o 1 4, .l 2 (H.1.Hops.length : Int)] I ⟨A0, I, J⟩ (mF (jf (by simp only [w, bz]) I I I2)))
 refine Aq h I ?_ ?_
 intro a4 h
 refine Ai I ?_
 obtain rfl := X _ (oi h).symm
 have h := W
 have h := Cz h
 obtain rfl := ar _ (oi h).symm
 have h := S
 have h := C2 h
 refine mM (A6 50 4) (Dd [5] I ?_)
 cases io h
 exact mL ⟨.inr I, [_, _], [.us nS 50 4 ([].map Am)], J2, Dj I (Cm), ⟨nS, I2⟩⟩
 intro a4 h
 refine mI ?_
 obtain ⟨bp, a5, h⟩ := Ab h
 refine mE (Al 2 [.o 1 4] I J1 (mG [] I (mO 4 (([H.1] : List Path).map Am) (mG [3] I (mT 3 I a5 fun a6 => Af 1 I ?_)))))
 cases io h
 exact mF ⟨_, _, _, I, ⟨a2, a3, a6, I2⟩, J5, pk N4⟩
 intro az h
 obtain rfl := X _ (oi h).symm
 have h := W
 have h := C2 h
 exact mN (lg ⟨(a.1, a.2.1, a.2.2.1, a.2.2.2.1, a.2.2.2.2.1, a.2.2.2.2.2.1, a.2.2.2.2.2.2.1, a.2.2.2.2.2.2.2.1, a.2.2.2.2.2.2.2.2), t, u, G, h, I2⟩ N4)
 rintro s ob ⟨f, D, E, F, h, rfl, rfl⟩
 unfold F9.J3 at h
 refine mE (Al 2 [.k 0 (P + 1 : Nat)] I ⟨Bf U an, J⟩ ?_)
 cases io h
 exact mF ⟨_, _, _, I, ⟨D, E, F, I2⟩, J4, pk N4⟩
 rintro e s ob ⟨j, n, g, rfl, rfl⟩ he
 subst he
 have h := Cz S
 have a7 := Da ai.length
 exact Ai I (Aa fun bq br => Ce I a7 (mN (lg ⟨e.2.2.2.2.2.2.2.2, g, h, I2⟩ [3])))
 rintro s ob ⟨B, i, h, rfl, rfl⟩
 unfold F9.J1 at h
 refine Ai I ?_
 cases io h
 exact mL ⟨.inr I, [_, _], [U3 i B], J2, Dj I (Cm), ⟨i, I2⟩⟩
theorem Rz  (r : Bool) (h : Nz = some r) : ACalls Ak 7 [] [] (RB r) := by
 refine Ag Tryz.func7 I I I fun C hC => ?_
 refine Ai I (Aa fun Z M => mE (mG [] I (mS (sz := 1) (es := ([(⟨#[97]⟩ : Bt), (⟨#[98]⟩ : Bt)] : List Bt).map rS) I I I I I I I I I I I dS fun t => B0 (Bi (l := [.V 0, .V 0, .V 1000]) Ff I) I (B0 (Bi (l := [.V 10, .V 0, .V 1000]) Ff I) I (mG [] I (mS (sz := 3) (es := ([(⟨0, 0, 1000⟩ : Point), (⟨10, 0, 1000⟩ : Point)] : List Point).map Cn) I I I I I I I I I I I dS fun E => nD 1 I fun O => B0 (Bi (l := [.v (.string (⟨#[103]⟩ : Bt)), .V 0, .V 1, .V 10, .V 0, .V 0, .v E]) Qa (Ci I I I I (Ci I I I I (Ci I I I I (Ci I I I I (Ci I I (Bd O) I (E6))))))) I (mZ (Be [1] (K := [.us E 90 3 (([(⟨0, 0, 1000⟩ : Point), (⟨10, 0, 1000⟩ : Point)] : List Point).map Cn)]) I [(7, .list 3 (([(⟨0, 0, 1000⟩ : Point), (⟨10, 0, 1000⟩ : Point)] : List Point).map Cn)), (8, .agg [.v (.string (⟨#[103]⟩ : Bt)), .V 0, .V 1, .V 10, .V 0, .V 0, .list 3 (([(⟨0, 0, 1000⟩ : Point), (⟨10, 0, 1000⟩ : Point)] : List Point).map Cn)])] ⟨⟨_, I, .us 0 I⟩, ⟨_, I, .agg (.cons (.refl _) (.cons (.refl _) (.cons (.refl _) (.cons (.refl _) (.cons (.refl _) (.cons (.refl _) (.cons (.us 0 I) (.rest _))))))))⟩, J⟩ (ob' := [.us t 9 1 (([(⟨#[97]⟩ : Bt), (⟨#[98]⟩ : Bt)] : List Bt).map rS)]) (.rest _)) ?_)))))))
 refine mG [] I (mS (sz := 7) (es := ([(⟨(⟨#[103]⟩ : Bt), 0, 1, 10, 0, 0, ([(⟨0, 0, 1000⟩ : Point), (⟨10, 0, 1000⟩ : Point)] : List Point)⟩ : Sg)] : List Sg).map Ap) I I I I I I I I I I I dS fun u => B0 (Bi (l := [.v (.string (⟨#[112]⟩ : Bt)), .V 0, .V 0]) Fe I) I (B0 (Bi (l := [.v (.string (⟨#[113]⟩ : Bt)), .V 0, .V 0]) Fe I) I (B0 (Bi (l := [.v (.string (⟨#[114]⟩ : Bt)), .V 0, .V 0]) Fe I) I (mG [] I (mS (sz := 3) (es := ([(⟨(⟨#[112]⟩ : Bt), 0, 0⟩ : Port), (⟨(⟨#[113]⟩ : Bt), 0, 0⟩ : Port), (⟨(⟨#[114]⟩ : Bt), 0, 0⟩ : Port)] : List Port).map Bp) I I I I I I I I I I I dS fun w => nD 0 I fun P => nD 1 I fun Q => nD 2 I fun R => B0 (Bi (l := [.v t, .v u, .v w, .N, .V 0, .V 0]) Qc (Ci I I (Bd P) I (Ci I I (Bd Q) I (Ci I I (Bd R) I (E6))))) I (mG [] I (Br W2 6 fun S => mG [3] I (Ba 3 0 0 [[.v t, .v u, .v w, .N, .V 0, .V 0]] I (mF ?_)))))))))
 subst M
 refine Aa fun y8 U => ?_
 obtain ⟨F, W, h⟩ := Ab h
 refine mE (Al 1 [.o 0 3] I J1 (mG [] I (mS (sz := 1) (es := ([0] : Li).map rI) I I I I I I I I I I I dS fun G => mG [] I (mS (sz := 1) (es := ([3, 4, (-7)] : Li).map rI) I I I I I I I I I I I dS fun H => nD 4 I fun X => nD 5 I fun Y => B0 (Bi (l := [.v G, .v H, .N]) C3 (Ci I I (Bd X) I (Ci I I (Bd Y) I (E6)))) I (mZ (Be [0, 1, 2, 4, 5] (K := [.us t 9 1 (([(⟨#[97]⟩ : Bt), (⟨#[98]⟩ : Bt)] : List Bt).map rS), .us u 93 7 (([(⟨(⟨#[103]⟩ : Bt), 0, 1, 10, 0, 0, ([(⟨0, 0, 1000⟩ : Point), (⟨10, 0, 1000⟩ : Point)] : List Point)⟩ : Sg)] : List Sg).map Ap), .us w 95 3 (([(⟨(⟨#[112]⟩ : Bt), 0, 0⟩ : Port), (⟨(⟨#[113]⟩ : Bt), 0, 0⟩ : Port), (⟨(⟨#[114]⟩ : Bt), 0, 0⟩ : Port)] : List Port).map Bp), .us G 3 1 (([0] : Li).map rI), .us H 3 1 (([3, 4, (-7)] : Li).map rI)]) I [(4, .list 1 (([(⟨#[97]⟩ : Bt), (⟨#[98]⟩ : Bt)] : List Bt).map rS)), (9, .list 7 (([(⟨(⟨#[103]⟩ : Bt), 0, 1, 10, 0, 0, ([(⟨0, 0, 1000⟩ : Point), (⟨10, 0, 1000⟩ : Point)] : List Point)⟩ : Sg)] : List Sg).map Ap)), (13, .list 3 (([(⟨(⟨#[112]⟩ : Bt), 0, 0⟩ : Port), (⟨(⟨#[113]⟩ : Bt), 0, 0⟩ : Port), (⟨(⟨#[114]⟩ : Bt), 0, 0⟩ : Port)] : List Port).map Bp)), (14, .agg [.list 1 (([(⟨#[97]⟩ : Bt), (⟨#[98]⟩ : Bt)] : List Bt).map rS), .list 7 (([(⟨(⟨#[103]⟩ : Bt), 0, 1, 10, 0, 0, ([(⟨0, 0, 1000⟩ : Point), (⟨10, 0, 1000⟩ : Point)] : List Point)⟩ : Sg)] : List Sg).map Ap), .list 3 (([(⟨(⟨#[112]⟩ : Bt), 0, 0⟩ : Port), (⟨(⟨#[113]⟩ : Bt), 0, 0⟩ : Port), (⟨(⟨#[114]⟩ : Bt), 0, 0⟩ : Port)] : List Port).map Bp), .list 5 ([].map Bl), .V 0, .V 0]), (16, .agg [.list 1 (([(⟨#[97]⟩ : Bt), (⟨#[98]⟩ : Bt)] : List Bt).map rS), .list 7 (([(⟨(⟨#[103]⟩ : Bt), 0, 1, 10, 0, 0, ([(⟨0, 0, 1000⟩ : Point), (⟨10, 0, 1000⟩ : Point)] : List Point)⟩ : Sg)] : List Sg).map Ap), .list 3 (([(⟨(⟨#[112]⟩ : Bt), 0, 0⟩ : Port), (⟨(⟨#[113]⟩ : Bt), 0, 0⟩ : Port), (⟨(⟨#[114]⟩ : Bt), 0, 0⟩ : Port)] : List Port).map Bp), .list 5 ([].map Bl), .V 0, .V 0]), (17, .list 1 (([0] : Li).map rI)), (18, .list 1 (([3, 4, (-7)] : Li).map rI)), (19, .agg [.list 1 (([0] : Li).map rI), .list 1 (([3, 4, (-7)] : Li).map rI), .list 1 ([].map rB)])] ⟨⟨_, I, .us 0 I⟩, ⟨_, I, .us 1 I⟩, ⟨_, I, .us 2 I⟩, ⟨_, I, .agg (.cons (.us 0 I) (.cons (.us 1 I) (.cons (.us 2 I) (.cons (.nil _) (.rest _)))))⟩, ⟨_, I, .agg (.cons (.us 0 I) (.cons (.us 1 I) (.cons (.us 2 I) (.cons (.nil _) (.rest _)))))⟩, ⟨_, I, .us 3 I⟩, ⟨_, I, .us 4 I⟩, ⟨_, I, .agg (.cons (.us 3 I) (.cons (.us 4 I) (.cons (.nil _) (.rest _))))⟩, J⟩ (ob' := [O0 S [[.list 1 (([(⟨#[97]⟩ : Bt), (⟨#[98]⟩ : Bt)] : List Bt).map rS), .list 7 (([(⟨(⟨#[103]⟩ : Bt), 0, 1, 10, 0, 0, ([(⟨0, 0, 1000⟩ : Point), (⟨10, 0, 1000⟩ : Point)] : List Point)⟩ : Sg)] : List Sg).map Ap), .list 3 (([(⟨(⟨#[112]⟩ : Bt), 0, 0⟩ : Port), (⟨(⟨#[113]⟩ : Bt), 0, 0⟩ : Port), (⟨(⟨#[114]⟩ : Bt), 0, 0⟩ : Port)] : List Port).map Bp), .N, .V 0, .V 0]]]) (.cons (.arr (.cons (.us 0 I) (.cons (.us 1 I) (.cons (.us 2 I) (.rest _))))) (.rest _))) ?_)))))
 refine mG [] I (Cb I I I (Ru _ _ _ W) dS ?_)
 rintro _ _ ⟨ab, rfl, rfl⟩
 refine Af 5 I (mF ?_)
 subst U
 refine Ah (fun s ob => ∃ (A : Bool), Nz.J1 A = some r ∧ s = [(0, .v (.bool A))] ∧ ob = []) [] J ?_ ?_
 refine mE (Af 3 I ?_)
 rcases bt ((F.2 == 0)) with g | g
 have h := Bv g h
 refine Ad 25 I g ?_
 rcases bt (((F.1.length : Int) == 2)) with c | c
 have h := Bv c h
 obtain ⟨a, ⟨B, e⟩, h⟩ := Bb h
 rcases bt ((a.2.Rate == 3)) with i | i
 have h := Bv i h
 obtain ⟨b, ⟨D, f⟩, h⟩ := Bb h
 refine Af 1 I (Bc I I I (mQ (Cf 1 I I I I) I (Af 3 I (Ad 30 I c (Af 1 I (Bc I I I (mQ (Bh 1 (m := a.1) I I I I I I I B (Ae e)) I (Af 1 I (Bc I I I (mQ (Ay 1 a.1 3 I I I (Ae e) I (y := .V a.2.Rate) I) I (Af 3 I (Ad 37 I i ?_))))))))))))
 refine Af 1 I (Bc I I I (mQ (Bh 1 (m := b.1) I I I I I I I D (Ae f)) I (Af 1 I (Bc I I I (mQ (Ay 1 b.1 3 I I I (Ae f) I (y := .V b.2.Rate) I) I (Af 3 I ?_))))))
 rcases bt ((b.2.Rate == 4)) with j | j
 have h := Bv j h
 refine Ad 44 I j (Af 1 I (Bc I I I (mQ (Bh 1 (m := b.1) I I I I I I I D (Ae f)) I (Af 1 I (Bc I I I (mQ (Ay 1 b.1 0 I I I (Ae f) I (y := .V b.2.In) I) I (Af 3 I ?_)))))))
 rcases bt ((b.2.In == 1)) with k | k
 have h := Bv k h
 refine Ad 51 I k (Af 1 I (Bc I I I (mQ (Bh 1 (m := b.1) I I I I I I I D (Ae f)) I (Af 1 I (Bc I I I (mQ (Ay 1 b.1 1 I I I (Ae f) I (y := .V b.2.Out) I) I (Af 3 I ?_)))))))
 rcases bt ((b.2.Out == 2)) with n | n
 have h := Bv n h
 exact Ad 58 I n (Af 1 I (Bc I I I (mQ (Bh 1 (m := a.1) I I I I I I I B (Ae e)) I (Af 1 I (Bc I I I (mQ (Ay 1 a.1 2 I I I (Ae e) I (y := Q7 a.2.Hops) I) I (Al 4 [.l 0 (a.2.Hops.length : Int)] I ⟨A0, J⟩ (mF (lg ⟨((a.2.Hops.length : Int) == 0), h, I2⟩ [])))))))))
 have h := Bw n h
 exact Ad 58 I n (Af 8 I (mF (lg ⟨false, h, I2⟩ [])))
 have h := Bw k h
 exact Ad 51 I k (Af 15 I (mF (lg ⟨false, h, I2⟩ [])))
 have h := Bw j h
 exact Ad 44 I j (Af 22 I (mF (lg ⟨false, h, I2⟩ [])))
 have h := Bw i h
 refine Af 1 I (Bc I I I (mQ (Cf 1 I I I I) I (Af 3 I (Ad 30 I c (Af 1 I (Bc I I I (mQ (Bh 1 (m := a.1) I I I I I I I B (Ae e)) I (Af 1 I (Bc I I I (mQ (Ay 1 a.1 3 I I I (Ae e) I (y := .V a.2.Rate) I) I (Af 3 I (Ad 37 I i ?_))))))))))))
 exact Af 29 I (mF (lg ⟨false, h, I2⟩ []))
 have h := Bw c h
 exact Af 1 I (Bc I I I (mQ (Cf 1 I I I I) I (Af 3 I (Ad 30 I c (Af 36 I (mF (lg ⟨false, h, I2⟩ [])))))))
 have h := Bw g h
 exact Ad 25 I g (Af 41 I (mF (lg ⟨false, h, I2⟩ [])))
 rintro s ob ⟨A, h, rfl, rfl⟩
 unfold Nz.J1 at h
 cases io h
 exact mL pr
theorem Sd (a : List Path) (F1 : T) {c : FuncId} {d e : List T} (o : Jo F1 = some (c, d, e)) (f : Path → Option Bool) (p : ∀ (g : Path) r, f g = some r → ACalls Ak c (d ++ [.agg (Am g)] ++ e) [] (RB r)) (r : Int) (h : Ly a f = some r) : ACalls Ak 112 [Q6 a, F1] [] (RV (.V r)) := by
 refine Ag Tryz.func112 I I I fun C hC => ?_
 unfold Ly at h
 refine Ai I (Ah (fun s ob => ∃ (i : Unit), Ly.J1 i = some r ∧ s = [] ∧ ob = []) [] J ?_ ?_)
 refine Bg [.l 1 (a.length : Int)] I ⟨A0, J⟩ (mJ (Cj 6 I fun q => ?_))
 obtain ⟨G, t, j⟩ := Ab h
 refine Cg t (K3 0 1 7) J3 (fun (b : Nat) (m : Unit) s ob => s = [(8, .V (b : Int))] ∧ ob = []) ⟨I, I⟩ ⟨I, J⟩ (pk []) ?_ ?_
 rintro b u m H s ob w n ⟨rfl, rfl⟩ h y
 have A := C9 n
 refine Ai I (Aa fun K B => Cd I A (mI ?_))
 subst B
 refine mK (mJ (Ai I (mK ?_)))
 obtain ⟨M, D, h⟩ := Ab h
 refine mE (Al 5 [.x 3 b (Am u)] I ⟨⟨I, Ae w⟩, J⟩ (mG [] I (By I (.refl _) o I (.rest _) I (p _ _ D) dS (by rintro _ _ ⟨rfl, _⟩; rfl) ?_)))
 rintro _ ⟨_, rfl, -⟩
 refine mF (Aq h I ?_ ?_)
 intro E h
 refine Ai I ?_
 obtain rfl := y _ (oi h).symm
 have h := j
 have h := C2 h
 cases io h
 exact mL pr
 intro E h
 refine mI (mE (Al 2 [.k 0 (b + 1 : Nat)] I ⟨Bf n q, J⟩ ?_))
 cases io h
 exact mF ⟨_, _, _, I, I2, J4, pk []⟩
 rintro m s ob ⟨rfl, rfl⟩ he
 subst he
 have h := Cz j
 have F := Da a.length
 exact Ai I (Aa fun N O => Ce I F (mN (lg ⟨(), h, I2⟩ [])))
 rintro s ob ⟨i, h, rfl, rfl⟩
 unfold Ly.J1 at h
 refine Ai I ?_
 cases io h
 exact mL pr
theorem R1 (b : List Path) (F1 : T) {d : FuncId} {e f : List T} (i : Jo F1 = some (d, e, f)) (a : Path → Option Bool) (j : ∀ (g : Path) r, a g = some r → ACalls Ak d (e ++ [.agg (Am g)] ++ f) [] (RB r)) (r : Bool) (h : S0 b a = some r) : ACalls Ak 116 [Q6 b, F1] [] (RB r) := by
 refine Ag Tryz.func116 I I I fun C hC => ?_
 refine Ai I (mK ?_)
 obtain ⟨l, k, h⟩ := Ab h
 refine mE (Af 2 I (mR (Sd _ F1 i a j _ k) (Af 2 I (mF ?_))))
 cases io h
 exact mL pr
theorem Z9 (a : Li) (b : Int) (r : Bool) (h : Hu a b = some r) : ACalls Ak 89 [Q0 a, .V b] [] (RB r) := by
 refine Ag Tryz.func89 I I I fun C hC => ?_
 refine Ai I (mK ?_)
 obtain ⟨e, d, h⟩ := Ab h
 refine mE (Af 2 I (mR (aK _ _ _ d) (Af 2 I (mF ?_))))
 cases io h
 exact mL pr
theorem D7 (a : Int) (c : Nw) (r : Bool) (h : G8 a c = r) : ACalls Ak 171 [.V a, .eptr (Ac c)] [] (RB r) := by
 refine Ag Tryz.func171 I I I fun C hC => ?_
 unfold G8 at h
 refine Ai I (Ah (fun s ob => s = [(3, .v (.bool (decide (a ≥ 0) && decide (a < (c.Ports.length : Int)))))] ∧ ob = []) [] J ?_ ?_)
 refine mE (Af 3 I ?_)
 rcases bt (decide (a ≥ 0)) with b | b
 refine Ad 6 I b (Al 7 [.l 3 (c.Ports.length : Int)] I ⟨A0, J⟩ (mF ?_))
 exact lf I2 ⟨(Fq (by simp only [b, bz])), J⟩ [] I
 refine Ad 6 I b (Af 7 I (mF ?_))
 exact lf I2 ⟨(Fq (by simp only [b, bz])), J⟩ [] I
 rintro s ob ⟨rfl, rfl⟩
 obtain rfl := h
 exact mL pr
theorem bQ (a : Nw) (b : Hop) (r : Int × Int) (h : Tb a b = some r) : ACalls Ak 172 [.agg (Ac a), .agg (A9 b)] [] (RV (.tup [.V r.1, .V r.2])) := by
 refine Ag Tryz.func172 I I I fun C hC => ?_
 refine Aa fun j d => mE (mG [] I (Bz (Ac a) 6 fun k => mG [] I (Bz (A9 b) 2 fun l => Af 2 I (mF ?_))))
 subst d
 refine Aa fun n e => ?_
 obtain ⟨c, ⟨f, g⟩, h⟩ := Bb h
 refine mE (Al 6 [.o 1 0, .o 3 1, .x 4 c.1 (Ap c.2)] I ⟨⟨f, Ae g⟩, I, I, J⟩ (mG [] I (Br W3 7 fun p => mG [2] I (Ba 2 0 0 [Ap c.2] I (mF ?_)))))
 subst e
 refine mK (Bg [.o 1 1] I J1 (Aq h I ?_ ?_))
 intro i h
 refine Js (pd 6 0 []) [2] [_] [.o 1 0, .o 3 0] I I J2 (mM g0 ?_)
 cases io h
 exact mL ⟨.inr I, [_, _], [], J2, Cm, I2⟩
 intro i h
 refine mI (Js (pd 6 0 []) [2] [_] [.o 1 0, .o 3 0] I I J2 (mM g0 ?_))
 cases io h
 exact mL ⟨.inr I, [_, _], [], J2, Cm, I2⟩
theorem Si (b : Nw) (a : Path) (r : Bool) (h : Ji b a = some r) : ACalls Ak 118 [.agg (Ac b), .agg (Am a)] [] (RB r) := by
 refine Ag Tryz.func118 I I I fun C hC => ?_
 unfold Ji at h
 refine Aa fun y1 O => mE (mG [] I (Bz (Ac b) 6 fun A => mG [] I (Bz (Am a) 4 fun B => Af 1 I (mF ?_))))
 subst O
 refine Aa fun y4 P => mE (B0 (nF I I) I (Af 1 I (mF ?_)))
 subst P
 refine Aa fun y5 Q => Ec 47 ((!(G8 a.In b)) || ((!(G8 a.Out b)) || ((a.In == a.Out) || (decide (a.Rate < 1) || (decide (a.Rate > 1000) || decide ((a.Hops.length : Int) > 32)))))) ?_ ?_
 rcases bt ((!(G8 a.In b))) with d | d
 refine mE (Al 3 [.o 2 1] I J1 (mG [] I (By I (.fn (.rest _) (.cons (.box 0 I (.rest _)) (.rest _))) I I (.rest _) I (D7 a.In b _ I) dS (by rintro _ _ ⟨rfl, _⟩; rfl) ?_)))
 rintro _ ⟨_, rfl, -⟩
 exact Af 2 I (Ad 18 I d (Af 29 I (mF (jf (by simp only [d, bz]) I I I2))))
 rcases bt ((!(G8 a.Out b))) with e | e
 refine mE (Al 3 [.o 2 1] I J1 (mG [] I (By I (.fn (.rest _) (.cons (.box 0 I (.rest _)) (.rest _))) I I (.rest _) I (D7 a.In b _ I) dS (by rintro _ _ ⟨rfl, _⟩; rfl) ?_)))
 rintro _ ⟨_, rfl, -⟩
 refine Af 2 I (Ad 18 I d (Al 3 [.o 2 1] I J1 (Bc I I I (mG [] I (By I (.fn (.rest _) (.cons (.box 0 I (.rest _)) (.rest _))) I I (.rest _) I (D7 a.Out b _ I) dS (by rintro _ _ ⟨rfl, _⟩; rfl) ?_)))))
 rintro _ ⟨_, rfl, -⟩
 exact Af 3 I (Ad 25 I e (Af 22 I (mF (jf (by simp only [d, e, bz]) I I I2))))
 rcases bt ((a.In == a.Out)) with f | f
 refine mE (Al 3 [.o 2 1] I J1 (mG [] I (By I (.fn (.rest _) (.cons (.box 0 I (.rest _)) (.rest _))) I I (.rest _) I (D7 a.In b _ I) dS (by rintro _ _ ⟨rfl, _⟩; rfl) ?_)))
 rintro _ ⟨_, rfl, -⟩
 refine Af 2 I (Ad 18 I d (Al 3 [.o 2 1] I J1 (Bc I I I (mG [] I (By I (.fn (.rest _) (.cons (.box 0 I (.rest _)) (.rest _))) I I (.rest _) I (D7 a.Out b _ I) dS (by rintro _ _ ⟨rfl, _⟩; rfl) ?_)))))
 rintro _ ⟨_, rfl, -⟩
 exact Af 3 I (Ad 25 I e (Al 7 [.o 1 1, .o 3 1] I J2 (Ad 32 I f (Af 15 I (mF (jf (by simp only [d, e, f, bz]) I I I2))))))
 rcases bt (decide (a.Rate < 1)) with i | i
 refine mE (Al 3 [.o 2 1] I J1 (mG [] I (By I (.fn (.rest _) (.cons (.box 0 I (.rest _)) (.rest _))) I I (.rest _) I (D7 a.In b _ I) dS (by rintro _ _ ⟨rfl, _⟩; rfl) ?_)))
 rintro _ ⟨_, rfl, -⟩
 refine Af 2 I (Ad 18 I d (Al 3 [.o 2 1] I J1 (Bc I I I (mG [] I (By I (.fn (.rest _) (.cons (.box 0 I (.rest _)) (.rest _))) I I (.rest _) I (D7 a.Out b _ I) dS (by rintro _ _ ⟨rfl, _⟩; rfl) ?_)))))
 rintro _ ⟨_, rfl, -⟩
 exact Af 3 I (Ad 25 I e (Al 7 [.o 1 1, .o 3 1] I J2 (Ad 32 I f (Al 5 [.o 1 1] I J1 (Ad 37 I i (Af 10 I (mF (jf (by simp only [d, e, f, i, bz]) I I I2))))))))
 rcases bt (decide (a.Rate > 1000)) with j | j
 refine mE (Al 3 [.o 2 1] I J1 (mG [] I (By I (.fn (.rest _) (.cons (.box 0 I (.rest _)) (.rest _))) I I (.rest _) I (D7 a.In b _ I) dS (by rintro _ _ ⟨rfl, _⟩; rfl) ?_)))
 rintro _ ⟨_, rfl, -⟩
 refine Af 2 I (Ad 18 I d (Al 3 [.o 2 1] I J1 (Bc I I I (mG [] I (By I (.fn (.rest _) (.cons (.box 0 I (.rest _)) (.rest _))) I I (.rest _) I (D7 a.Out b _ I) dS (by rintro _ _ ⟨rfl, _⟩; rfl) ?_)))))
 rintro _ ⟨_, rfl, -⟩
 exact Af 3 I (Ad 25 I e (Al 7 [.o 1 1, .o 3 1] I J2 (Ad 32 I f (Al 5 [.o 1 1] I J1 (Ad 37 I i (Al 5 [.o 1 1] I J1 (Ad 42 I j (Af 5 I (mF (jf (by simp only [d, e, f, i, j, bz]) I I I2))))))))))
 refine mE (Al 3 [.o 2 1] I J1 (mG [] I (By I (.fn (.rest _) (.cons (.box 0 I (.rest _)) (.rest _))) I I (.rest _) I (D7 a.In b _ I) dS (by rintro _ _ ⟨rfl, _⟩; rfl) ?_)))
 rintro _ ⟨_, rfl, -⟩
 refine Af 2 I (Ad 18 I d (Al 3 [.o 2 1] I J1 (Bc I I I (mG [] I (By I (.fn (.rest _) (.cons (.box 0 I (.rest _)) (.rest _))) I I (.rest _) I (D7 a.Out b _ I) dS (by rintro _ _ ⟨rfl, _⟩; rfl) ?_)))))
 rintro _ ⟨_, rfl, -⟩
 exact Af 3 I (Ad 25 I e (Al 7 [.o 1 1, .o 3 1] I J2 (Ad 32 I f (Al 5 [.o 1 1] I J1 (Ad 37 I i (Al 5 [.o 1 1] I J1 (Ad 42 I j (Al 5 [.o 1 1, .l 2 (a.Hops.length : Int)] I ⟨A0, I, J⟩ (mF (jf (by simp only [d, e, f, i, j, bz]) I I I2))))))))))
 refine Aq h I ?_ ?_
 intro R h
 refine Ai I (mM g0 ?_)
 cases io h
 exact mL pr
 intro R h
 refine mI ?_
 subst Q
 refine Aa fun ay S => ?_
 obtain ⟨D, ⟨U, W⟩, h⟩ := Bb h
 refine Hh [.o 1 0, .o 3 1, .x 4 D.1 (Bp D.2)] I ⟨⟨U, Ae W⟩, I, I, J⟩ ?_
 subst S
 refine Aa fun az X => mE (Af 1 I (mG [] I (mS (sz := 1) (es := ([D.2.Node] : Li).map rI) I I I I I I I I I I I dS fun Y => Af 1 I (mF ?_))))
 subst X
 refine Ah (fun s ob => ∃ (E : Int), Ji.J1 b a E = some r ∧ s = [(6, .V E)] ∧ ob = [O0 A [Ac b], O3 B [Am a]]) (K2 2 3) J2 ?_ ?_
 refine Bg [.o 1 1, .l 2 (a.Hops.length : Int)] I ⟨A0, I, J⟩ (mJ (Cj 58 I fun Z => ?_))
 obtain ⟨a0, aa, F⟩ := Ab h
 refine Cg aa (K4 2 3 58 59) J4 (fun (y : Nat) (g : Int × Li) s ob => ∃ (n : Value), s = [(60, .V (y : Int)), (6, .V g.1), (7, .v n)] ∧ ob = [O0 A [Ac b], O3 B [Am a], U0 n g.2]) ⟨Y, I2⟩ ⟨I, I, I, J⟩ (pk N3) ?_ ?_
 rintro y t g ab s ob ac K ⟨n, rfl, rfl⟩ h M
 unfold Ji.B2 at h
 have ad := C9 K
 refine Ai I (Aa fun a1 ae => Cd I ad (mI ?_))
 subst ae
 refine mK (mJ (Aa fun a2 af => mE (Al 2 [.x 0 y (A9 t)] I ⟨⟨I, Ae ac⟩, J⟩ (mG [] I (Br [.V 0, .v (.bool false)] 2 fun a3 => mG [3] I (Ba 3 0 0 [A9 t] I (mF ?_)))))))
 subst af
 refine Aa fun a4 ag => Ec 74 (decide (t.Segment < 0) || decide (t.Segment ≥ (b.Segments.length : Int))) ?_ ?_
 refine mE (Al 4 [.o 1 3] I J1 ?_)
 rcases bt (decide (t.Segment < 0)) with u | u
 exact Ad 67 I u (Af 7 I (mF (jf (by simp only [u, bz]) I I I2)))
 exact Ad 67 I u (Al 7 [.o 1 3, .o 3 0, .l 4 (b.Segments.length : Int)] I ⟨A0, I, I, J⟩ (mF (jf (by simp only [u, bz]) I I I2)))
 refine Aq h I ?_ ?_
 intro ah h
 refine Ai I ?_
 obtain rfl := M _ (oi h).symm
 have h := F
 have h := C2 h
 refine mM g0 ?_
 cases io h
 exact mL pr
 intro ah h
 refine mI ?_
 subst ag
 refine Aa fun a5 ai => ?_
 obtain ⟨G, aj, h⟩ := Ab h
 refine mE (Al 2 [.o 0 0, .o 1 3] I J2 (mR (bQ _ _ _ aj) (Af 5 I (mF ?_))))
 subst ai
 refine mK (Ah (fun s ob => ∃ (H : Bool), Ji.J3 g G H = some ab ∧ s = [(88, .v (.bool H))] ∧ ob = [O0 A [Ac b], O3 B [Am a], U0 n g.2]) (K7 2 3 7 11 58 59 60) J7 ?_ ?_)
 rcases bt ((G.1 != g.1)) with w | w
 have h := Bv w h
 exact mE (Af 4 I (Ad 84 I w (Af 4 I (mF (lg ⟨true, h, I2⟩ N3)))))
 have h := Bw w h
 obtain ⟨ak, al, h⟩ := Ab h
 refine mE (Af 4 I (Ad 84 I w (Af 2 I (Bc I I I (mG [] I (By I (.refl _) I I (.cons (.us 2 I) (.rest _)) I (Z9 _ _ _ al) dS (by rintro _ _ ⟨rfl, _⟩; rfl) ?_))))))
 rintro _ ⟨_, rfl, -⟩
 exact Af 1 I (mF (lg ⟨ak, h, I2⟩ N3))
 rintro s ob ⟨H, h, rfl, rfl⟩
 refine Aq h I ?_ ?_
 intro am h
 refine Ai I ?_
 obtain rfl := M _ (oi h).symm
 have h := F
 have h := C2 h
 refine mM g0 ?_
 cases io h
 exact mL pr
 intro am h
 refine mI ?_
 obtain ⟨a6, an, h⟩ := Ab h
 refine mE (Af 3 I (mG [] I (mO 1 (([G.2] : Li).map rI) (mG [2] I (mT 2 I an fun ao => Af 2 I (mF (mE (Al 2 [.k 0 (y + 1 : Nat)] I ⟨Bf K Z, J⟩ ?_))))))))
 cases io h
 exact mF ⟨_, _, _, I, ⟨ao, I2⟩, J7, pk N3⟩
 rintro g s ob ⟨n, rfl, rfl⟩ he
 subst he
 have h := Cz F
 have aq := Da a.Hops.length
 exact Ai I (Aa fun a7 a8 => Ce I aq (mN (lg ⟨g.1, h, I2⟩ [0, 1])))
 rintro s ob ⟨E, h, rfl, rfl⟩
 refine mK ?_
 obtain ⟨N, ⟨ar, au⟩, h⟩ := Bb h
 refine Hh [.o 2 0, .o 4 1, .x 5 N.1 (Bp N.2)] I ⟨⟨ar, Ae au⟩, I, I, J⟩ (mM g0 ?_)
 cases io h
 exact mL pr
theorem Zt (e : List Path) (r : Bool) (h : Nt e = some r) : ACalls Ak 119 [Q6 e] [] (RB r) := by
 refine Ag Tryz.func119 I I I fun C hC => ?_
 unfold Nt at h
 refine Ai I (Aa fun y2 F => mE (mG [] I (AX.makeMap mB dS fun n => Af 1 I (mF ?_))))
 subst F
 refine Ah (fun s ob => ∃ (y : Unit), Nt.J1 y = some r ∧ s = [] ∧ ob = []) [] J ?_ ?_
 refine Bg [.l 1 (e.length : Int)] I ⟨A0, J⟩ (mJ (Cj 11 I fun G => ?_))
 obtain ⟨ag, H, A⟩ := Ab h
 refine Cg H (K3 3 11 12) J3 (fun (g : Nat) (t : List (Int × Bool)) s ob => s = [(13, .V (g : Int))] ∧ ob = [.raw n (E3 mB t)]) ⟨I, I⟩ ⟨I, J⟩ (pk [0]) ?_ ?_
 rintro g i t K s ob M B ⟨rfl, rfl⟩ h O
 unfold Nt.B2 at h
 have P := C9 B
 refine Ai I (Aa fun ah Q => Cd I P (mI ?_))
 subst Q
 refine Ah (fun s ob => ∃ (w : List (Int × Bool)), Nt.J3 w = some K ∧ s = [] ∧ ob = [.raw n (E3 mB w)]) (K4 3 11 12 13) J4 ?_ ?_
 refine mJ (Aa fun ai R => mE (Al 2 [.x 0 g (Am i)] I ⟨⟨I, Ae M⟩, J⟩ (mG [] I (Br W1 4 fun aj => mG [1] I (Ba 1 0 0 [Am i] I (mF ?_))))))
 subst R
 refine Bg [.o 1 1, .l 2 (i.Hops.length : Int)] I ⟨A0, I, J⟩ (mJ (Cj 18 I fun S => ?_))
 obtain ⟨ak, U, D⟩ := Ab h
 refine Cg U (K6 3 11 12 13 18 19) J6 (fun (j : Nat) (a : List (Int × Bool)) s ob => s = [(20, .V (j : Int))] ∧ ob = [.raw n (E3 mB a)]) ⟨I, I⟩ ⟨I, J⟩ (pk [0]) ?_ ?_
 rintro j b a al s ob W E ⟨rfl, rfl⟩ h X
 unfold Nt.B4 at h
 have Y := C9 E
 refine Ai I (Aa fun am Z => Cd I Y (mI ?_))
 subst Z
 refine mK (mJ (Aa fun an aa => mE (Al 2 [.x 0 j (A9 b)] I ⟨⟨I, Ae W⟩, J⟩ (mG [] I (Br [.V 0, .v (.bool false)] 2 fun ao => mG [1] I (Ba 1 0 0 [A9 b] I (mF ?_)))))))
 subst aa
 refine mK (Aa fun ap ab => mE (Al 3 [.o 2 1] I J1 (mQ (Xd 0 (f := mB) (z := false) (u := .v (.bool ((Ds a b.Segment).getD false))) (v := .v (.bool ((Ds a b.Segment).isSome))) I I I I I I I I I I I) I (Af 5 I (mF ?_)))))
 subst ab
 refine Ec 37 ((Ds a b.Segment).isSome && (((Ds a b.Segment).getD false) != b.Back)) ?_ ?_
 refine mE (Af 2 I ?_)
 rcases bt ((Ds a b.Segment).isSome) with c | c
 exact Ad 32 I c (Al 3 [.o 2 1] I J1 (Bc I I I (B0 (Fk I I I I) I (Af 1 I (mF (jf (by simp only [c, bz]) I I I2))))))
 exact Ad 32 I c (Af 5 I (mF (jf (by simp only [c, bz]) I I I2)))
 refine Aq h I ?_ ?_
 intro ac h
 refine Ai I ?_
 obtain rfl := X _ (oi h).symm
 have h := D
 have h := C2 h
 obtain rfl := O _ (oi h).symm
 have h := A
 have h := C2 h
 refine mM g0 ?_
 cases io h
 exact mL pr
 intro ac h
 refine mI (mE (Al 5 [.o 2 1, .o 4 1] I J2 (mG [0] I (AX.mapUpdate 0 (f := mB) (z := b.Back) I I I I I I I I I (mF (mE (Al 2 [.k 0 (j + 1 : Nat)] I ⟨Bf E S, J⟩ ?_)))))))
 cases io h
 exact mF ⟨_, _, _, I, I2, J7, pk [0]⟩
 rintro a s ob ⟨rfl, rfl⟩ he
 subst he
 have h := Cz D
 have ad := Da i.Hops.length
 exact Ai I (Aa fun aq ar => Ce I ad (mN (lg ⟨a, h, I2⟩ [0])))
 rintro s ob ⟨w, h, rfl, rfl⟩
 unfold Nt.J3 at h
 refine mE (Al 2 [.k 0 (g + 1 : Nat)] I ⟨Bf B G, J⟩ ?_)
 cases io h
 exact mF ⟨_, _, _, I, I2, J4, pk [0]⟩
 rintro t s ob ⟨rfl, rfl⟩ he
 subst he
 have h := Cz A
 have ae := Da e.length
 exact Ai I (Aa fun au av => Ce I ae (mN (lg ⟨(), h, I2⟩ [])))
 rintro s ob ⟨y, h, rfl, rfl⟩
 unfold Nt.J1 at h
 refine Ai I ?_
 cases io h
 exact mL pr
theorem aR (a : List Bool) (r : List Bool) (h : On a = some r) : ACalls Ak 120 [Q5 a] [] (fun x new => ∃ (b : Value), x = .v b ∧ new = [U1 b r]) := by
  refine Ag Tryz.func120 rfl rfl rfl (fun C hC => ?_)
  unfold On at h
  obtain ⟨e, d⟩ := E8 h
  refine mK ?_
  refine mE ?_
  refine B0 (nE rfl) rfl ?_
  refine mF ?_
  refine mK ?_
  refine mK ?_
  refine mE ?_
  refine B0 (Yp.move rfl) rfl ?_
  refine mG [] rfl (Pw rfl rfl rfl (A1 rfl) fun c hc => ?_)
  refine mF ?_
  refine AW.cond rfl rfl ?_ ?_
  · intro hb
    have hs : a = [] := by have := hc hb; simpa using this
    subst hs
    refine mK ?_
    refine mE ?_
    refine B0 (nE rfl) rfl ?_
    refine mZ (A6 4 1) ?_
    refine mF ?_
    refine mL ?_
    have hr : r = [] := by simpa using d.symm
    subst hr
    exact ⟨.inr rfl, [_], [.us nS 4 1 ([].map rB)], ⟨rfl, J⟩, Dj rfl Cm, ⟨_, rfl, rfl⟩⟩
  · intro hb
    refine mI ?_
    refine mK ?_
    refine mE ?_
    refine mG [] rfl (mS (sz := 1) (es := []) rfl rfl rfl rfl rfl rfl rfl rfl rfl rfl rfl (A1 rfl) fun g => ?_)
    refine B0 (Yp.move rfl) rfl ?_
    refine mG [0] rfl (Et 0 (es' := r.map rB) rfl rfl rfl rfl rfl rfl rfl rfl rfl (AppSrc.list rfl) (by simpa using e) (by rw [← d]; simp) (A1 rfl) fun f => ?_)
    refine B0 (nE rfl) rfl ?_
    refine mF ?_
    refine mL ?_
    exact ⟨.inr rfl, [_], [U1 f r], ⟨rfl, J⟩, Dj rfl Cm, ⟨_, rfl, rfl⟩⟩
theorem Z3 (g : Nat) (e : Plan) (w0_0 : Value) (w0_1 : Value) (p : Path) (d : Int) (r : Plan) (h : Sz e p d = some r) : ACalls Ak 121 [.P g, .agg (Am p), .V d] [O1 g [[.v w0_0, .v w0_1, Q5 e.Pumps]], U0 w0_0 e.Rates, U0 w0_1 e.Ports] (Gm 3 fun x os new => ∃ (u0_0 : Value) (u0_1 : Value), x = .tup [] ∧ os = [O1 g [[.v u0_0, .v u0_1, Q5 r.Pumps]], U0 u0_0 r.Rates, U0 u0_1 r.Ports] ∧ new = []) := by
 refine Ag Tryz.func121 I I I fun C hC => ?_
 refine Aa fun y1 F => mE (mG [] I (Bz (Am p) 4 fun b2 => mF ?_))
 subst F
 refine Aa fun y3 G => ?_
 obtain ⟨a, ⟨A, i⟩, h⟩ := Bb h
 refine Bq 2 a.1 I i fun H => Bq 2 a.1 I i fun K => Bm cM [0, 3, 2] [_, _, _] I (Bo 6 [.o 3 0, .o 5 1] I J2 (mU I (Ar (m := a.1) I I I I I H I A i) I (AP.o I (Ay 2 a.1 0 I I I (Ae i) I (y := .V a.2) I) I (A4 2 I (mU I (Ar (m := a.1) I I I I I K I A i) I (mW [2] I I I (A5 2 a.1 0 I I I (Ae i) I I I I (As I) I (Ca (x := wr (a.2 + d)) I) (An (mF ?_)))))))))
 subst G
 refine Aa fun y8 M => ?_
 obtain ⟨b, ⟨B, j⟩, h⟩ := Bb h
 refine Bq 2 b.1 I j fun N => Bq 2 b.1 I j fun O => Bm cM [0, 3, 2] [_, _, _] I (Bo 6 [.o 3 0, .o 5 1] I J2 (mU I (Ar (m := b.1) I I I I I N I B j) I (AP.o I (Ay 2 b.1 0 I I I (Ae j) I (y := .V b.2) I) I (A4 2 I (mU I (Ar (m := b.1) I I I I I O I B j) I (mW [2] I I I (A5 2 b.1 0 I I I (Ae j) I I I I (As I) I (Ca (x := wr (b.2 - d)) I) (An (mF ?_)))))))))
 subst M
 refine Bg [.o 1 3, .l 2 (p.Hops.length : Int)] I ⟨A0, I, J⟩ (mJ (Cj 31 I fun P => ?_))
 obtain ⟨af, Q, R⟩ := Ab h
 refine Dc Q (K4 0 2 31 32) J4 (fun (u : Nat) (t : Li) s ob => s = [(33, .V (u : Int))] ∧ ob = [O1 g [[.v w0_0, .v w0_1, Q5 e.Pumps]], U0 w0_0 t, .us w0_1 3 1 (((e.Ports.set a.1 (wr (a.2 + d))).set b.1 (wr (b.2 - d))).map rI)]) ⟨I, I⟩ ⟨I, J⟩ (pk N3) ?_ ?_
 rintro u w t ag s ob S D ⟨rfl, rfl⟩ h
 have U := C9 D
 refine Ai I (Aa fun ah W => Cd I U (mI ?_))
 subst W
 refine mK (mJ (Aa fun ai X => mE (Al 2 [.x 0 u (A9 w)] I ⟨⟨I, Ae S⟩, J⟩ (mG [] I (Br [.V 0, .v (.bool false)] 2 fun aj => mG [3] I (Ba 3 0 0 [A9 w] I (mF ?_)))))))
 subst X
 obtain ⟨f, ⟨E, n⟩, h⟩ := Bb h
 refine Bq 1 f.1 I n fun Y => Bq 1 f.1 I n fun Z => Bm (sl 10 0 (.act 10 (.still 11 (.still 12 (.drop 13 .nil))))) [0, 3, 1] [_, _, _] I (Bo 6 [.o 3 0, .o 5 1] I J2 (mU I (Ar (m := f.1) I I I I I Y I E n) I (AP.o I (Ay 2 f.1 0 I I I (Ae n) I (y := .V f.2) I) I (Bo 2 [.o 0 1] I J1 (nC I (R7 w d _ I) (A4 1 I (mU I (Ar (m := f.1) I I I I I Z I E n) I (mW [1] I I I (A5 1 f.1 0 I I I (Ae n) I I I I (As I) I (Ca (x := wr (f.2 + (Jc w d))) I) (An (mF ?_)))))))))))
 refine mE (Al 2 [.k 0 (u + 1 : Nat)] I ⟨Bf D P, J⟩ ?_)
 cases io h
 exact mF (lg I2 N3)
 rintro t s ob ⟨rfl, rfl⟩ he
 subst he
 have h := R
 have aa := Da p.Hops.length
 refine Ai I (Aa fun ak al => Ce I aa ?_)
 cases io h
 refine mN ?_
 exact ⟨.inl I, [], [O1 g [[.v w0_0, .v w0_1, Q5 e.Pumps]], U0 w0_0 t, .us w0_1 3 1 (((e.Ports.set a.1 (wr (a.2 + d))).set b.1 (wr (b.2 - d))).map rI)], J, Dj I (Dj I (Dj I (Cm))), ⟨[O1 g [[.v w0_0, .v w0_1, Q5 e.Pumps]], U0 w0_0 t, .us w0_1 3 1 (((e.Ports.set a.1 (wr (a.2 + d))).set b.1 (wr (b.2 - d))).map rI)], [], I, I, w0_0, w0_1, I3⟩⟩
theorem R2 (a : Path) (b : Nw) (r : Bool) (h : N0 a b = some r) : ACalls Ak 117 [.agg (Am a), .eptr (Ac b)] [] (RB r) := by
 refine Ag Tryz.func117 I I I fun C hC => ?_
 refine mK (mE (mG [] I (Bz (Am a) 4 fun e => Af 1 I (mF (mK ?_)))))
 obtain ⟨f, d, h⟩ := Ab h
 refine mE (Al 2 [.o 1 0] I J1 (mR (Si _ _ _ d) (Af 2 I (mF (mM g0 ?_)))))
 cases io h
 exact mL pr
theorem aJ (a : Nw) (e : List Path) (O : List Bool) (r : Plan × Int) (h : Lp a e O = some r) : ACalls Ak 62 [.agg (Ac a), Q6 e, Q5 O] [] (RV (.tup [.agg (Au r.1), .V r.2])) := by
 refine Ag Tryz.func62 I I I fun C hC => ?_
 refine Aa fun y1 ad => mE (mG [] I (Bz (Ac a) 6 fun g => mG [] I (Br W0 3 fun i => Af 1 I (mF ?_))))
 subst ad
 refine Aa fun y4 ae => mK ?_
 obtain ⟨r5, af, h⟩ := Ab h
 refine mE (Al 1 [.o 0 0] I J1 (mR (G4 _ _ af) (Af 1 I (mF (Ai I (Aq h I ?_ ?_))))))
 intro ag h
 refine mK (mE (B0 (Bi (l := W0) C3 I) I (Af 1 I (mG [1] I (Ba 1 0 0 [W0] I (Af 1 I (mF (mM (Be [] (K := []) I [] J (ob' := [O0 g [Ac a], O1 i [[.list 1 ([].map rI), .list 1 ([].map rI), .list 1 ([].map rB)]]]) (.cons (.same _) (.cons (.arr (.cons (.nil _) (.cons (.nil _) (.cons (.nil _) (.rest _))))) (.rest _)))) (Dd [1] I ?_)))))))))
 cases io h
 exact mL ⟨.inr I, [_, _], [], ⟨⟨0, _, _, _, _, _, _, _, I5⟩, I, J⟩, Cm, I2⟩
 intro ag h
 refine mI ?_
 subst ae
 refine Aa fun y8 ah => Ah (fun s ob => ∃ (R : Bool), Lp.J1 a e O R = some r ∧ s = [(30, .v (.bool R))] ∧ ob = [O0 g [Ac a], O1 i [W0]]) (K4 1 2 3 6) J4 ?_ ?_
 rcases bt (decide ((e.length : Int) > 64)) with D | D
 have h := Bv D h
 exact mE (Al 4 [.l 1 (e.length : Int)] I ⟨A0, J⟩ (Ad 22 I D (Af 8 I (mF (lg ⟨true, h, I2⟩ [0, 1])))))
 have h := Bw D h
 obtain ⟨ai, S, h⟩ := Ab h
 rcases bt (ai) with M | M
 have h := Bv M h
 refine mE (Al 4 [.l 1 (e.length : Int)] I ⟨A0, J⟩ (Ad 22 I D (Af 1 I (Bc I I I (B0 (nF I I) I (Bc I I I (mG [] I (By I (.refl _) I I (.cons (.refl _) (.cons (.fn (.rest _) (.cons (.box 0 I (.rest _)) (.rest _))) (.rest _))) I (R1 _ (.fn 117 [] [.eptr (Ac a)]) I (fun x => N0 x a) (fun x r h => R2 x a r h) _ S) dS (by rintro _ _ ⟨rfl, _⟩; rfl) ?_))))))))
 rintro _ ⟨_, rfl, -⟩
 exact Af 2 I (Ad 27 I M (Af 3 I (mF (lg ⟨true, h, I2⟩ [0, 1]))))
 have h := Bw M h
 obtain ⟨aj, ak, h⟩ := Ab h
 refine mE (Al 4 [.l 1 (e.length : Int)] I ⟨A0, J⟩ (Ad 22 I D (Af 1 I (Bc I I I (B0 (nF I I) I (Bc I I I (mG [] I (By I (.refl _) I I (.cons (.refl _) (.cons (.fn (.rest _) (.cons (.box 0 I (.rest _)) (.rest _))) (.rest _))) I (R1 _ (.fn 117 [] [.eptr (Ac a)]) I (fun x => N0 x a) (fun x r h => R2 x a r h) _ S) dS (by rintro _ _ ⟨rfl, _⟩; rfl) ?_))))))))
 rintro _ ⟨_, rfl, -⟩
 exact Af 2 I (Ad 27 I M (Af 1 I (Bc I I I (mR (Zt _ _ ak) (Af 1 I (mF (lg ⟨aj, h, I2⟩ [0, 1])))))))
 rintro s ob ⟨R, h, rfl, rfl⟩
 refine Aq h I ?_ ?_
 intro al h
 refine mK (mE (B0 (Bi (l := W0) C3 I) I (mG [1] I (Ba 1 0 0 [W0] I (Af 1 I (mF (mM (Be [] (K := []) I [] J (ob' := [O0 g [Ac a], O1 i [[.list 1 ([].map rI), .list 1 ([].map rI), .list 1 ([].map rB)]]]) (.cons (.same _) (.cons (.arr (.cons (.nil _) (.cons (.nil _) (.cons (.nil _) (.rest _))))) (.rest _)))) (Dd [1] I ?_))))))))
 cases io h
 exact mL ⟨.inr I, [_, _], [], ⟨⟨0, _, _, _, _, _, _, _, I5⟩, I, J⟩, Cm, I2⟩
 intro al h
 refine mI ?_
 subst ah
 refine Aa fun be am => Bg [.l 1 (O.length : Int), .o 3 0, .l 4 (a.Stations.length : Int)] I ⟨A0, I, A0, J⟩ (Aq h I ?_ ?_)
 intro an h
 refine mK (mE (B0 (Bi (l := W0) C3 I) I (mG [1] I (Ba 1 0 0 [W0] I (Af 1 I (mF (mM (Be [] (K := []) I [] J (ob' := [O0 g [Ac a], O1 i [[.list 1 ([].map rI), .list 1 ([].map rI), .list 1 ([].map rB)]]]) (.cons (.same _) (.cons (.arr (.cons (.nil _) (.cons (.nil _) (.cons (.nil _) (.rest _))))) (.rest _)))) (Dd [1] I ?_))))))))
 cases io h
 exact mL ⟨.inr I, [_, _], [], ⟨⟨0, _, _, _, _, _, _, _, I5⟩, I, J⟩, Cm, I2⟩
 intro an h
 refine mI ?_
 subst am
 refine Ah (fun s ob => ∃ (j : Li × Li × (List Bool)) (n : Nat) (E : Value) (F : Value) (P : Value), Lp.J2 a e j = some r ∧ s = [(9, .P n)] ∧ ob = [O0 g [Ac a], O1 i [W0], U0 E j.1, U0 F j.2.1, U1 P j.2.2, O1 n [[.v E, .v F, .v P]]]) (K3 1 3 6) J3 ?_ ?_
 obtain ⟨U, ⟨bf, ao, ap, aq⟩, h⟩ := Mr h
 obtain ⟨W, ⟨bg, ar, au, av⟩, h⟩ := Mr h
 obtain ⟨X, aw, h⟩ := Ab h
 refine Bm (sl 3 0 (sl 3 4 (.still 8 (.par [(3, []), (7, []), (9, []), (11, []), (10, [3, 7, 9])] (.act 12 .nil))))) [0] [_] I (Bo 7 [.o 1 0, .l 2 (a.Segments.length : Int), .o 4 0, .l 5 (a.Ports.length : Int)] I ⟨A0, I, A0, I, J⟩ (AP.any [⟨3, [], 42, .us 3 1 (U.map rI)⟩, ⟨7, [], 46, .us 3 1 (W.map rI)⟩, ⟨9, [], 48, .us 4 1 (X.map rB)⟩, ⟨11, [], 9, .box 36 3 (W0)⟩, ⟨10, [3, 7, 9], 49, .fn fun l => match l with | [.v y, .v A, .v B] => .agg [.v y, .v A, .v B] | _ => .tup []⟩] I ⟨⟨_, I, I, I, fun _ => Ft (sz := 1) I I I I I I I I I I ao ap (Gn (f := rI) aq I) dS fun v => ⟨_, I, ⟨v, I⟩, I⟩⟩, ⟨_, I, I, I, fun _ => Ft (sz := 1) I I I I I I I I I I ar au (Gn (f := rI) av I) dS fun v => ⟨_, I, ⟨v, I⟩, I⟩⟩, ⟨_, I, I, I, fun _ => Cb I I I (aR _ _ aw) dS (by rintro _ _ ⟨v, rfl, rfl⟩; exact ⟨_, rfl, ⟨v, rfl⟩, rfl⟩)⟩, ⟨_, I, I, I, fun _ => Br W0 3 fun b => ⟨_, I, ⟨b, I⟩, I⟩⟩, ⟨_, I, I, I, fun y Y A Z B aa _ => Av (mY (Bi (l := [.v y, .v A, .v B]) C3 (Ci I I (Bd Y) I (Ci I I (Bd Z) I (Ci I I (Bd aa) I (E6)))))) dS ⟨_, I, I, nb⟩⟩, J⟩ ?_))
 intro y Y A Z B aa ax
 exact AP.same 49 (.agg [.v y, .v A, .v B]) I (mH [5] I I I (Ba 5 0 0 [[.v y, .v A, .v B]] I (An (mF (lg ⟨(U, W, X), ax, y, A, B, h, I2⟩ N6)))))
 rintro s ob ⟨j, n, E, F, P, h, rfl, rfl⟩
 unfold Lp.J2 at h
 refine Ah (fun s ob => ∃ (d : Li × Li × (List Bool)) (t : Value) (u : Value), Lp.J3 a d = some r ∧ s = [] ∧ ob = [O0 g [Ac a], O1 i [W0], U0 t d.1, U0 u d.2.1, O1 n [[.v t, .v u, Q5 d.2.2]]]) (K3 3 6 9) J3 ?_ ?_
 refine Bg [.l 1 (e.length : Int)] I ⟨A0, J⟩ (mJ (Cj 50 I fun ay => mM (Be [4] (K := [U1 P j.2.2]) I [] J (ob' := [O0 g [Ac a], O1 i [W0], U0 E j.1, U0 F j.2.1, O1 n [[.v E, .v F, Q5 j.2.2]]]) (.cons (.same _) (.cons (.same _) (.cons (.same _) (.cons (.same _) (.cons (.arr (.cons (.refl _) (.cons (.refl _) (.cons (.us 0 I) (.rest _))))) (.rest _))))))) ?_))
 obtain ⟨bh, az, a0⟩ := Ab h
 refine Dc az (K5 3 6 9 50 51) J5 (fun (Q : Nat) (w : Li × Li × (List Bool)) s ob => ∃ (G : Value) (H : Value), s = [(52, .V (Q : Int))] ∧ ob = [O0 g [Ac a], O1 i [W0], U0 G w.1, U0 H w.2.1, O1 n [[.v G, .v H, Q5 w.2.2]]]) ⟨E, F, I2⟩ ⟨I, J⟩ (pk N5) ?_ ?_
 rintro Q ab w bi s ob a1 ac ⟨G, H, rfl, rfl⟩ h
 have a2 := C9 ac
 refine Ai I (Aa fun bj a3 => Cd I a2 (mI ?_))
 subst a3
 refine mK (mJ (mK (mE (Al 2 [.x 0 Q (Am ab)] I ⟨⟨I, Ae a1⟩, J⟩ (mG [] I (Br W1 4 fun bk => mG [5] I (Ba 5 0 0 [Am ab] I (mF ?_))))))))
 obtain ⟨bl, a4, h⟩ := Ab h
 refine mE (Al 3 [.o 0 5, .o 2 5] I J2 (mG [4, 2, 3] I (Dp [4, 2, 3] (Z3 n _ G H _ _ _ a4) ?_)))
 rintro _ _ _ - ⟨a5, a6, rfl, rfl, rfl⟩
 refine mF (mE (Al 2 [.k 0 (Q + 1 : Nat)] I ⟨Bf ac ay, J⟩ ?_))
 cases io h
 exact mF (lg ⟨a5, a6, I2⟩ N5)
 rintro w s ob ⟨G, H, rfl, rfl⟩ he
 subst he
 have h := a0
 have a7 := Da e.length
 exact Ai I (Aa fun bm bn => Ce I a7 (mN (lg ⟨(w.1, w.2.1, w.2.2), G, H, h, I2⟩ N5)))
 rintro s ob ⟨d, t, u, h, rfl, rfl⟩
 refine mK (mK ?_)
 obtain ⟨bo, a8, h⟩ := Ab h
 refine mE (Al 2 [.o 0 0, .o 1 4] I J2 (mG [] I (By I (.refl _) I I (.cons (.refl _) (.cons (.agg (.cons (.us 2 I) (.cons (.us 3 I) (.rest _)))) (.rest _))) I (Sa _ _ _ a8) dS (by rintro _ _ ⟨rfl, _⟩; rfl) ?_)))
 rintro _ ⟨_, rfl, -⟩
 refine Af 1 I (mF (Ai I (Aq h I ?_ ?_)))
 intro a9 h
 refine mK (mE (B0 (Bi (l := W0) C3 I) I (Af 1 I (mG [1] I (Ba 1 0 0 [W0] I (Af 1 I (mF (mM (Be [] (K := []) I [] J (ob' := [O0 g [Ac a], O1 i [[.list 1 ([].map rI), .list 1 ([].map rI), .list 1 ([].map rB)]], U0 t d.1, U0 u d.2.1, O1 n [[.v t, .v u, Q5 d.2.2]]]) (.cons (.same _) (.cons (.arr (.cons (.nil _) (.cons (.nil _) (.cons (.nil _) (.rest _))))) (.rest _)))) (Dd [1] I ?_)))))))))
 cases io h
 exact mL ⟨.inr I, [_, _], [], ⟨⟨0, _, _, _, _, _, _, _, I5⟩, I, J⟩, Cm, I2⟩
 intro a9 h
 refine mI (mK (mE (Al 1 [.o 0 4] I J1 (mG [1] I (Ba 1 0 0 [[.v t, .v u, Q5 d.2.2]] I (Af 1 I (mF (mM (Be [2, 3] (K := [U0 t d.1, U0 u d.2.1]) I [] J (ob' := [O0 g [Ac a], O1 i [[Q0 d.1, Q0 d.2.1, Q5 d.2.2]], O1 n [[.v t, .v u, Q5 d.2.2]]]) (.cons (.same _) (.cons (.arr (.cons (.us 0 I) (.cons (.us 1 I) (.rest _)))) (.rest _)))) (Dd [1] I ?_)))))))))
 cases io h
 exact mL ⟨.inr I, [_, _], [], ⟨⟨0, _, _, _, _, _, _, _, I5⟩, I, J⟩, Cm, I2⟩
theorem aY (b : Nw) (d : Path) (r : Bool) (h : Ou b d = some r) : ACalls Ak 66 [.agg (Ac b), .agg (Am d)] [] (RB r) := by
 refine Ag Tryz.func66 I I I fun C hC => ?_
 unfold Ou at h
 refine mK (mE (mG [] I (Bz (Ac b) 6 fun k => mG [] I (Bz (Am d) 4 fun l => Af 1 I (mF (Ah (fun s ob => ∃ (e : Bool), Ou.J1 e = some r ∧ s = [(4, .v (.bool e))] ∧ ob = []) [] J ?_ ?_))))))
 obtain ⟨f, g, h⟩ := Ab h
 refine mE (Al 1 [.o 0 0] I J1 (mR (G4 _ _ g) (Af 2 I ?_)))
 rcases bt ((f == 0)) with a | a
 have h := Bv a h
 obtain ⟨i, j, h⟩ := Ab h
 exact Ad 8 I a (Al 2 [.o 0 0, .o 1 1] I J2 (Bc I I I (mR (Si _ _ _ j) (Af 2 I (mF (lg ⟨i, h, I2⟩ []))))))
 have h := Bw a h
 exact Ad 8 I a (Af 5 I (mF (lg ⟨false, h, I2⟩ [])))
 rintro s ob ⟨e, h, rfl, rfl⟩
 unfold Ou.J1 at h
 cases io h
 exact mL pr
theorem Ex (a : Int) (b : Int) (r : Int) (h : Fy a b = some r) : ACalls Ak 18 [.V a, .V b] [] (RV (.V r)) := by
 refine Ag Tryz.func18 I I I fun C hC => ?_
 refine Ai I (mK ?_)
 obtain ⟨e, d, h⟩ := Ab h
 refine mE (Af 2 I (mR (Sj _ _ _ d) (Af 1 I (mF ?_))))
 cases io h
 exact mL pr
theorem Z5 (a : List Hop) (F1 : T) {c : FuncId} {d e : List T} (o : Jo F1 = some (c, d, e)) (f : Hop → Option Bool) (p : ∀ (g : Hop) r, f g = some r → ACalls Ak c (d ++ [.agg (A9 g)] ++ e) [] (RB r)) (r : Int) (h : N1 a f = some r) : ACalls Ak 157 [Q7 a, F1] [] (RV (.V r)) := by
 refine Ag Tryz.func157 I I I fun C hC => ?_
 unfold N1 at h
 refine Ai I (Ah (fun s ob => ∃ (i : Unit), N1.J1 i = some r ∧ s = [] ∧ ob = []) [] J ?_ ?_)
 refine Bg [.l 1 (a.length : Int)] I ⟨A0, J⟩ (mJ (Cj 6 I fun q => ?_))
 obtain ⟨G, t, j⟩ := Ab h
 refine Cg t (K3 0 1 7) J3 (fun (b : Nat) (m : Unit) s ob => s = [(8, .V (b : Int))] ∧ ob = []) ⟨I, I⟩ ⟨I, J⟩ (pk []) ?_ ?_
 rintro b u m H s ob w n ⟨rfl, rfl⟩ h y
 have A := C9 n
 refine Ai I (Aa fun K B => Cd I A (mI ?_))
 subst B
 refine mK (mJ (Ai I (mK ?_)))
 obtain ⟨M, D, h⟩ := Ab h
 refine mE (Al 5 [.x 3 b (A9 u)] I ⟨⟨I, Ae w⟩, J⟩ (mG [] I (By I (.refl _) o I (.rest _) I (p _ _ D) dS (by rintro _ _ ⟨rfl, _⟩; rfl) ?_)))
 rintro _ ⟨_, rfl, -⟩
 refine mF (Aq h I ?_ ?_)
 intro E h
 refine Ai I ?_
 obtain rfl := y _ (oi h).symm
 have h := j
 have h := C2 h
 cases io h
 exact mL pr
 intro E h
 refine mI (mE (Al 2 [.k 0 (b + 1 : Nat)] I ⟨Bf n q, J⟩ ?_))
 cases io h
 exact mF ⟨_, _, _, I, I2, J4, pk []⟩
 rintro m s ob ⟨rfl, rfl⟩ he
 subst he
 have h := Cz j
 have F := Da a.length
 exact Ai I (Aa fun N O => Ce I F (mN (lg ⟨(), h, I2⟩ [])))
 rintro s ob ⟨i, h, rfl, rfl⟩
 unfold N1.J1 at h
 refine Ai I ?_
 cases io h
 exact mL pr
theorem bG (b : List Hop) (F1 : T) {d : FuncId} {e f : List T} (i : Jo F1 = some (d, e, f)) (a : Hop → Option Bool) (j : ∀ (g : Hop) r, a g = some r → ACalls Ak d (e ++ [.agg (A9 g)] ++ f) [] (RB r)) (r : Bool) (h : Oy b a = some r) : ACalls Ak 96 [Q7 b, F1] [] (RB r) := by
 refine Ag Tryz.func96 I I I fun C hC => ?_
 refine Ai I (mK ?_)
 obtain ⟨l, k, h⟩ := Ab h
 refine mE (Af 2 I (mR (Z5 _ F1 i a j _ k) (Af 2 I (mF ?_))))
 cases io h
 exact mL pr
theorem aU (a : List Hop) (r : List Hop) (h : S6 a = some r) : ACalls Ak 115 [Q7 a] [] (fun x new => ∃ (b : Value), x = .v b ∧ new = [U4 b r]) := by
  refine Ag Tryz.func115 rfl rfl rfl (fun C hC => ?_)
  unfold S6 at h
  obtain ⟨e, d⟩ := E8 h
  refine mK ?_
  refine mE ?_
  refine B0 (nE rfl) rfl ?_
  refine mF ?_
  refine mK ?_
  refine mK ?_
  refine mE ?_
  refine B0 (Yp.move rfl) rfl ?_
  refine mG [] rfl (Pw rfl rfl rfl (A1 rfl) fun c hc => ?_)
  refine mF ?_
  refine AW.cond rfl rfl ?_ ?_
  · intro hb
    have hs : a = [] := by have := hc hb; simpa using this
    subst hs
    refine mK ?_
    refine mE ?_
    refine B0 (nE rfl) rfl ?_
    refine mZ (A6 53 2) ?_
    refine mF ?_
    refine mL ?_
    have hr : r = [] := by simpa using d.symm
    subst hr
    exact ⟨.inr rfl, [_], [.us nS 53 2 ([].map A9)], ⟨rfl, J⟩, Dj rfl Cm, ⟨_, rfl, rfl⟩⟩
  · intro hb
    refine mI ?_
    refine mK ?_
    refine mE ?_
    refine mG [] rfl (mS (sz := 2) (es := []) rfl rfl rfl rfl rfl rfl rfl rfl rfl rfl rfl (A1 rfl) fun g => ?_)
    refine B0 (Yp.move rfl) rfl ?_
    refine mG [0] rfl (Et 0 (es' := r.map A9) rfl rfl rfl rfl rfl rfl rfl rfl rfl (AppSrc.list rfl) (by simpa using e) (by rw [← d]; simp) (A1 rfl) fun f => ?_)
    refine B0 (nE rfl) rfl ?_
    refine mF ?_
    refine mL ?_
    exact ⟨.inr rfl, [_], [U4 f r], ⟨rfl, J⟩, Dj rfl Cm, ⟨_, rfl, rfl⟩⟩
theorem Mk (a : Path) (b : Int) (r : Path) (h : Ls a b = some r) : ACalls Ak 58 [.agg (Am a), .V b] [] (RV (.agg (Am r))) := by
 refine Ag Tryz.func58 I I I fun C hC => ?_
 refine Aa fun k e => mE (mG [] I (Bz (Am a) 4 fun f => mG [] I (Br W1 4 fun g => mF ?_)))
 subst e
 refine mK ?_
 obtain ⟨d, i, h⟩ := Ab h
 refine mE (Al 2 [.o 1 0] I J1 (mG [] I (Cb I I I (aU _ _ i) dS ?_)))
 rintro _ _ ⟨c, rfl, rfl⟩
 refine Af 2 I (nD 2 I fun j => mG [0] I (mP 0 0 2 (es' := [[.V a.In, .V a.Out, .v c, .V a.Rate]]) I I I I I I (Bd j) I (As I) I I (Af 1 I (mG [0] I (Ba 0 0 3 [[.V a.In, .V a.Out, .v c, .V b]] I (mF (mK (mE (Al 1 [.o 0 0] I J1 (mG [1] I (Ba 1 0 0 [[.V a.In, .V a.Out, .v c, .V b]] I (mF (mM (Be [2] (K := [U4 c d]) I [] J (ob' := [O3 f [[.V a.In, .V a.Out, .v c, .V b]], O3 g [[.V a.In, .V a.Out, Q7 d, .V b]]]) (.cons (.same _) (.cons (.arr (.cons (.refl _) (.cons (.refl _) (.cons (.us 0 I) (.rest _))))) (.rest _)))) (Dd [1] I ?_))))))))))))))
 cases io h
 exact mL ⟨.inr I, [_], [], ⟨⟨0, _, _, _, _, _, _, _, I5⟩, J⟩, Cm, I2⟩
theorem aD (a : Hop) (b : Int) (r : Bool) (h : S1 a b = r) : ACalls Ak 123 [.agg (A9 a), .eptr (rI b)] [] (RB r) := by
 refine Ag Tryz.func123 I I I fun C hC => ?_
 unfold S1 at h
 refine mK (mE (mG [] I (Bz (A9 a) 2 fun c => Af 1 I (mF (Bg [.o 1 0] I J1 (mM g0 ?_))))))
 obtain rfl := h
 exact mL pr
theorem bM (d : Nw) (i : List Path) (a : Int) (r : (List Path) × Int) (h : Hy d i a = some r) : ACalls Ak 64 [.agg (Ac d), Q6 i, .V a] [] (fun x new => ∃ (w : Value), x = .tup [.v w, .V r.2] ∧ new = [U3 w r.1]) := by
 refine Ag Tryz.func64 I I I fun C hC => ?_
 refine Aa fun y1 D => mE (mG [] I (Bz (Ac d) 6 fun b2 => mG [] I (Bz [.V a] 1 fun y => Af 2 I (mF ?_))))
 subst D
 refine Aa fun y4 E => mK ?_
 obtain ⟨r5, F, h⟩ := Ab h
 refine mE (Al 1 [.o 0 0] I J1 (mR (G4 _ _ F) (Af 1 I (mF (Ai I (Aq h I ?_ ?_))))))
 intro G h
 refine Ai I (mM (A6 50 4) (Dd [2] I ?_))
 cases io h
 exact mL ⟨.inr I, [_, _], [.us nS 50 4 ([].map Am)], J2, Dj I (Cm), ⟨nS, I2⟩⟩
 intro G h
 refine mI ?_
 subst E
 refine Aa fun y8 H => Ec 25 (decide (a < 0) || decide (a ≥ (d.Segments.length : Int))) ?_ ?_
 refine mE (Al 3 [.o 0 1] I J1 ?_)
 rcases bt (decide (a < 0)) with e | e
 exact Ad 19 I e (Af 6 I (mF (jf (by simp only [e, bz]) I I I2)))
 exact Ad 19 I e (Al 6 [.o 0 1, .o 2 0, .l 3 (d.Segments.length : Int)] I ⟨A0, I, I, J⟩ (mF (jf (by simp only [e, bz]) I I I2)))
 refine Aq h I ?_ ?_
 intro K h
 refine Ai I (mM (A6 50 4) (Dd [2] I ?_))
 cases io h
 exact mL ⟨.inr I, [_, _], [.us nS 50 4 ([].map Am)], J2, Dj I (Cm), ⟨nS, I2⟩⟩
 intro K h
 refine mI ?_
 subst H
 refine Ai I (Ah (fun s ob => ∃ (j : List Path) (f : Value), Hy.J1 j = some r ∧ s = [(9, .v f)] ∧ ob = [U3 f j]) [] J ?_ ?_)
 refine Bg [.l 1 (i.length : Int)] I ⟨A0, J⟩ (mJ (Cj 26 I fun M => mM (A6 50 4) ?_))
 obtain ⟨ak, O, P⟩ := Ab h
 refine Dc O (K3 5 26 27) J3 (fun (n : Nat) (g : List Path) s ob => ∃ (b : Value), s = [(28, .V (n : Int)), (9, .v b)] ∧ ob = [.arr y 3 1 1 [[.V a]], U3 b g]) ⟨nS, I2⟩ ⟨I, I, J⟩ (pk [1, 2]) ?_ ?_
 rintro n A g Q s ob R B ⟨b, rfl, rfl⟩ h
 unfold Hy.B2 at h
 have S := C9 B
 refine Ai I (Aa fun al U => Cd I S (mI ?_))
 subst U
 refine Ah (fun s ob => ∃ (u : List Path) (t : Value), Hy.J3 u = some Q ∧ s = [(9, .v t)] ∧ ob = [.arr y 3 1 1 [[.V a]], U3 t u]) (K4 5 26 27 28) J4 ?_ ?_
 refine mJ (Aa fun am W => mE (Al 2 [.x 0 n (Am A)] I ⟨⟨I, Ae R⟩, J⟩ (mG [] I (Br W1 4 fun an => mG [2] I (Ba 2 0 0 [Am A] I (mF ?_))))))
 subst W
 refine mK ?_
 obtain ⟨ao, X, h⟩ := Ab h
 refine mE (Al 2 [.o 1 2] I J1 (B0 (nF I I) I (mG [] I (By I (.refl _) I I (.cons (.refl _) (.cons (.fn (.rest _) (.cons (.box 0 I (.rest _)) (.rest _))) (.rest _))) I (bG _ (.fn 123 [] [.eptr (rI a)]) I (fun x => some (S1 x a)) (fun x r h => by obtain I := oi h; exact aD x a _ I) _ X) dS (by rintro _ _ ⟨rfl, _⟩; rfl) ?_))))
 rintro _ ⟨_, rfl, -⟩
 refine mF (Aq h I ?_ ?_)
 intro Y h
 obtain ⟨Z, aa, h⟩ := Ab h
 obtain ⟨ab, ac, h⟩ := Ab h
 refine mE (Al 4 [.o 1 2, .o 3 2] I J2 (mG [] I (Cb I I I (Mk _ _ _ aa) dS ?_)))
 rintro _ _ ⟨rfl, rfl⟩
 exact mG [] I (mO 4 (([Z] : List Path).map Am) (mG [1] I (mT 1 I ac fun ad => Af 1 I (mF (lg ⟨ab, ad, h, I2⟩ [0, 1])))))
 intro Y h
 exact mI (lg ⟨g, b, h, I2⟩ [0, 1])
 rintro s ob ⟨u, t, h, rfl, rfl⟩
 unfold Hy.J3 at h
 refine mE (Al 2 [.k 0 (n + 1 : Nat)] I ⟨Bf B M, J⟩ ?_)
 cases io h
 exact mF (lg ⟨t, I2⟩ [0, 1])
 rintro g s ob ⟨b, rfl, rfl⟩ he
 subst he
 have h := P
 have ae := Da i.length
 exact Ai I (Aa fun aq ar => Ce I ae (mN (lg ⟨g, b, h, I2⟩ [1])))
 rintro s ob ⟨j, f, h, rfl, rfl⟩
 unfold Hy.J1 at h
 refine Ai I ?_
 cases io h
 exact mL ⟨.inr I, [_, _], [U3 f j], J2, Dj I (Cm), ⟨f, I2⟩⟩
end Go.Proofs.YtihdchjpepkpbaaGreat
