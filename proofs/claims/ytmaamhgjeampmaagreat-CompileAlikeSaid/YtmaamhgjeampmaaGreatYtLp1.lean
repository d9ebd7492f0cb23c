/- Walks that show what functions of the program compute; printed by a program of ours. No condition. -/
import Derived.Test.YtmaamhgjeampmaaGreatYtL2
import Derived.Test.YtmaamhgjeampmaaGreatYtD
set_option maxRecDepth 100000
namespace Go.Proofs.YtmaamhgjeampmaaGreat
open Go.Aw
set_option linter.unusedVariables false
set_option linter.unusedSimpArgs false
set_option maxHeartbeats 4000000
theorem S1 (a : List Int) (r : List Int) (h : Mt a = some r) : ACalls Am 88 [.list 1 (a.map rI)] [] (fun x new => ∃ (b : Value), x = .v b ∧ new = [.us b 3 1 (r.map rI)]) := by
  refine Ag Tryz.func88 rfl rfl rfl fun C hC => ?_
  unfold Mt at h
  obtain ⟨e, d⟩ := Eh h
  refine nH ?_
  refine nD ?_
  refine Ck (oB rfl) rfl ?_
  refine nE ?_
  refine nH ?_
  refine nH ?_
  refine nD ?_
  refine Ck (Yp.move rfl) rfl ?_
  refine nG [] rfl (Q3 rfl rfl rfl (C3 rfl) fun c hc => ?_)
  refine nE ?_
  refine AW.cond rfl rfl ?_ ?_
  · intro hb
    have hs : a = [] := by have := hc hb; simpa using this
    subst hs
    refine nH ?_
    refine nD ?_
    refine Ck (oB rfl) rfl ?_
    refine oA (Bo 3 1) ?_
    refine nE ?_
    refine nK ?_
    have hr : r = [] := by simpa using d.symm
    subst hr
    exact ⟨.inr rfl, [_], [.us (.slice none 0 0) 3 1 ([].map rI)], ⟨rfl, J⟩, Dn rfl Cf, ⟨_, rfl, rfl⟩⟩
  · intro hb
    refine nI ?_
    refine nH ?_
    refine nD ?_
    refine nG [] rfl (nP (sz := 1) (es := []) rfl rfl rfl rfl rfl rfl rfl rfl rfl rfl rfl (C3 rfl) fun g => ?_)
    refine Ck (Yp.move rfl) rfl ?_
    refine nG [0] rfl (Fw 0 (es' := r.map rI) rfl rfl rfl rfl rfl rfl rfl rfl rfl (AppSrc.list rfl) (by simpa using e) (by rw [← d]; simp) (C3 rfl) fun f => ?_)
    refine Ck (oB rfl) rfl ?_
    refine nE ?_
    refine nK ?_
    exact ⟨.inr rfl, [_], [.us f 3 1 (r.map rI)], ⟨rfl, J⟩, Dn rfl Cf, ⟨_, rfl, rfl⟩⟩
theorem Oi (a : Hop) (b : Int) (r : Int) (h : Hr a b = r) : ACalls Am 141 [.agg (Bc a), .V b] [] (fun x new => x = .V r ∧ new = []) := by
 refine Ag Tryz.func141 rfl rfl rfl fun C hC => ?_
 unfold Hr at h
 refine Aa fun e c => nD (nG [] I (nQ (cs := Bc a) (m := 2) I I I dS fun f => Af 1 I (nE ?_)))
 subst c
 refine nH (Bu [.o 1 0] I J1 (Ay h I ?_ ?_))
 intro d h
 refine Aq I (nM g0 ?_)
 obtain rfl := h
 exact nK pr
 intro d h
 refine nI (Aq I (nM g0 ?_))
 obtain rfl := h
 exact nK pr
theorem cX (w : Nat) (a : paths_divider) (w0_0 : Value) (w0_1 : Value) (e : Int) (r : Path × paths_divider) (h : Jo a e = some r) : ACalls Am 89 [.v (.pointer (some ⟨w, 0, none⟩)), .V e] [.arr w 141 8 1 [[.list 1 (a.n_.Nodes.map rS), .list 7 (a.n_.Segments.map Ar), .list 3 (a.n_.Ports.map Bj), .list 5 (a.n_.Stations.map A4), .V a.n_.Vapour, .V a.n_.Settle, .v w0_0, .v w0_1]], .us w0_0 3 1 (a.rates.map rI), .us w0_1 3 1 (a.ports.map rI)] (Gp 3 fun x os new => ∃ (u1_0 : Value) (u1_1 : Value), x = .agg (Aj r.1) ∧ os = [.arr w 141 8 1 [[.list 1 (r.2.n_.Nodes.map rS), .list 7 (r.2.n_.Segments.map Ar), .list 3 (r.2.n_.Ports.map Bj), .list 5 (r.2.n_.Stations.map A4), .V r.2.n_.Vapour, .V r.2.n_.Settle, .v u1_0, .v u1_1]], .us u1_0 3 1 (r.2.rates.map rI), .us u1_1 3 1 (r.2.ports.map rI)] ∧ new = []) := by
 refine Ag Tryz.func89 rfl rfl rfl fun C hC => ?_
 unfold Jo at h
 refine Aa fun y1 ba => nD (nG [] I (nN (cs := [.V 0, .V 0, .N, .V 0]) (m := 4) I I I I I dS fun E => nE ?_))
 subst ba
 refine AW.scope (Aa fun y3 bb => ?_)
 obtain ⟨j, ⟨ag, H⟩, h⟩ := Bk h
 refine nD (Ap 6 [.o 4 0] I J1 (nS (Bi 2 (m := j.1) I I I I I I I ag (Ah H)) I (nS (Ba 2 j.1 0 I I I (Ah H) I (y := .V j.2) I) I (Ck (Ao (l := [.V e, .V 0, .N, .V j.2]) Rm I) I (nG [] I (nN (cs := [.V 0, .V 0, .N, .V 0]) (m := 4) I I I I I dS fun F => nG [4] I (Ax 4 0 0 [[.V e, .V 0, .N, .V j.2]] I (nE ?_))))))))
 subst bb
 refine Aa fun y7 bc => ?_
 obtain ⟨p8, ⟨bd, be⟩, h⟩ := Bk h
 refine I6 [.o 4 0, .x 6 p8.1 (Bj p8.2)] I ⟨⟨bd, Ah be⟩, I, J⟩ ?_
 subst bc
 refine Aa fun c0 bf => AW.label ?_
 subst bf
 refine Al (fun s ob => ∃ (f : Int × (List Hop) × Int) (G : Value), Jo.J1 a e j f = some r ∧ s = [] ∧ ob = [.arr w 141 8 1 [[.list 1 (a.n_.Nodes.map rS), .list 7 (a.n_.Segments.map Ar), .list 3 (a.n_.Ports.map Bj), .list 5 (a.n_.Stations.map A4), .V a.n_.Vapour, .V a.n_.Settle, .v w0_0, .v w0_1]], .us w0_0 3 1 (a.rates.map rI), .us w0_1 3 1 (a.ports.map rI), .arr E 52 4 1 [[.V 0, .V 0, .N, .V 0]], .arr F 52 4 1 [[.V e, .V f.1, .v G, .V f.2.2]], .us G 107 2 (f.2.1.map Bc)]) [(0, _), (1, _), (4, _), (5, _)] J4 ?_ ?_
 refine nJ (nM (Bo 107 2) ?_)
 obtain ⟨c1, bg, ar⟩ := Ac h
 clear h
 refine Bz bg [(0, _), (1, _), (4, _), (5, _)] J4 (fun (b : (List Hop) × Int × Int) s ob => ∃ (i : Value), s = [(6, .V b.2.2)] ∧ ob = [.arr w 141 8 1 [[.list 1 (a.n_.Nodes.map rS), .list 7 (a.n_.Segments.map Ar), .list 3 (a.n_.Ports.map Bj), .list 5 (a.n_.Stations.map A4), .V a.n_.Vapour, .V a.n_.Settle, .v w0_0, .v w0_1]], .us w0_0 3 1 (a.rates.map rI), .us w0_1 3 1 (a.ports.map rI), .arr E 52 4 1 [[.V 0, .V 0, .N, .V 0]], .arr F 52 4 1 [[.V e, .V 0, .v i, .V b.2.1]], .us i 107 2 (b.1.map Bc)]) ⟨(.slice none 0 0), I2⟩ ⟨I, J⟩ ⟨[0, 1, 2, 3, 4, 5], I, by decide⟩ ?_
 rintro b au s ob ⟨i, rfl, rfl⟩ h av
 unfold Jo.B4 at h
 refine nJ (Al (fun s ob => ∃ (aw : Unit), Jo.J5 a b aw = some au ∧ s = [] ∧ ob = [.arr w 141 8 1 [[.list 1 (a.n_.Nodes.map rS), .list 7 (a.n_.Segments.map Ar), .list 3 (a.n_.Ports.map Bj), .list 5 (a.n_.Stations.map A4), .V a.n_.Vapour, .V a.n_.Settle, .v w0_0, .v w0_1]], .us w0_0 3 1 (a.rates.map rI), .us w0_1 3 1 (a.ports.map rI), .arr E 52 4 1 [[.V 0, .V 0, .N, .V 0]], .arr F 52 4 1 [[.V e, .V 0, .v i, .V b.2.1]], .us i 107 2 (b.1.map Bc)]) [(0, _), (1, _), (4, _), (5, _), (6, _)] J5 ?_ ?_)
 refine Bu [.o 4 0, .l 5 (a.n_.Ports.length : Int)] I ⟨Bh, I, J⟩ (nJ (Cz 38 I fun bh => ?_))
 obtain ⟨c2, bi, ax⟩ := Ac h
 clear h
 refine C1 bi [(0, _), (1, _), (4, _), (5, _), (6, _), (38, _), (39, _)] J7 (fun (M : Nat) (ay : Unit) s ob => s = [(40, .V (M : Int))] ∧ ob = [.arr w 141 8 1 [[.list 1 (a.n_.Nodes.map rS), .list 7 (a.n_.Segments.map Ar), .list 3 (a.n_.Ports.map Bj), .list 5 (a.n_.Stations.map A4), .V a.n_.Vapour, .V a.n_.Settle, .v w0_0, .v w0_1]], .us w0_0 3 1 (a.rates.map rI), .us w0_1 3 1 (a.ports.map rI), .arr E 52 4 1 [[.V 0, .V 0, .N, .V 0]], .arr F 52 4 1 [[.V e, .V 0, .v i, .V b.2.1]], .us i 107 2 (b.1.map Bc)]) ⟨I, I⟩ ⟨I, J⟩ ⟨[0, 1, 2, 3, 4, 5], I, by decide⟩ ?_ ?_
 rintro M ah ay bj s ob bk az ⟨rfl, rfl⟩ h bl
 unfold Jo.B10 at h
 have bm := Di az
 refine Aq I (Aa fun c3 bn => Av (v := true) I bm (nI ?_))
 subst bn
 refine nH (nJ (Aa fun c4 bo => nD (Ap 3 [.x 1 M (Bj ah)] I ⟨⟨I, Ah bk⟩, J⟩ (nG [] I (nN (cs := [.v (.string ⟨#[]⟩), .V 0, .V 0]) (m := 3) I I I I I dS fun c5 => Af 1 I (nG [6] I (Ax 6 0 0 [Bj ah] I (nE ?_))))))))
 subst bo
 refine Al (fun s ob => ∃ (ai : Bool), Jo.J11 a b M ai = some bj ∧ s = [(58, .v (.bool ai))] ∧ ob = [.arr w 141 8 1 [[.list 1 (a.n_.Nodes.map rS), .list 7 (a.n_.Segments.map Ar), .list 3 (a.n_.Ports.map Bj), .list 5 (a.n_.Stations.map A4), .V a.n_.Vapour, .V a.n_.Settle, .v w0_0, .v w0_1]], .us w0_0 3 1 (a.rates.map rI), .us w0_1 3 1 (a.ports.map rI), .arr E 52 4 1 [[.V 0, .V 0, .N, .V 0]], .arr F 52 4 1 [[.V e, .V 0, .v i, .V b.2.1]], .us i 107 2 (b.1.map Bc)]) [(0, _), (1, _), (4, _), (5, _), (6, _), (7, _), (38, _), (39, _), (40, _)] J9 ?_ ?_
 refine nD (Ap 5 [.o 1 6] I J1 ?_)
 rcases bt ((ah.Node == b.2.2)) with Z | Z
 replace h := B0 Z h
 obtain ⟨ac, ⟨bp, a0⟩, h⟩ := Bk h
 refine Ad 49 I Z (Ap 5 [.o 3 0] I J1 (Br I I I (nS (Bi 2 (m := ac.1) I I I I I I I bp (Ah a0)) I (Br I I I (nS (Ba 2 ac.1 0 I I I (Ah a0) I (y := .V ac.2) I) I (Af 2 I (nE ?_)))))))
 exact lg ⟨decide (ac.2 < 0), h, I2⟩ [0, 1, 2, 3, 4, 5]
 replace h := Ca Z h
 refine Ad 49 I Z (Af 9 I (nE ?_))
 exact lg ⟨false, h, I2⟩ [0, 1, 2, 3, 4, 5]
 rintro s ob ⟨ai, h, rfl, rfl⟩
 unfold Jo.J11 at h
 refine Ay h I ?_ ?_
 intro bq h
 refine nH ?_
 obtain ⟨S, ⟨br, aj⟩, h⟩ := Bk h
 refine Ce 2 S.1 I aj fun bs => Bw (.still 0 (.still 1 (sl 8 3 (.act 2 (.still 11 (.still 12 (.act 13 (.still 14 (.act 15 .nil))))))))) [0, 2] [_, _] I (By 7 [.o 5 0] I J1 (nV I (Bl (m := S.1) I I I I I bs I br aj) I (AP.o I (Ba 1 S.1 0 I I I (Ah aj) I (y := .V S.2) I) I (Bm 1 I (nF [] I I I (Cd (Bx 4 0 3 I I I I I (y := .V b.2.1) I) dS (Bm 2 I (nF [4] I I I (Ax 4 0 1 [[.V e, .V (M : Int), .v i, .V b.2.1]] I (Bm 1 I (nF [4] I I I (Ax 4 0 3 [[.V e, .V (M : Int), .v i, .V (min b.2.1 (wr (0 - S.2)))]] I (Ak (nE ?_))))))))))))))
 obtain rfl := bl _ (oi h).symm
 replace h := ax
 replace h := Do h
 obtain rfl := av _ (oi h).symm
 replace h := ar
 refine nO ?_
 exact lg ⟨((M : Int), b.1, (min b.2.1 (wr (0 - S.2)))), i, h, I2⟩ [0, 1, 2, 3, 4, 5]
 intro bq h
 refine nI (nD (Ap 2 [.k 0 (M + 1 : Nat)] I ⟨Bt az bh, J⟩ ?_))
 obtain rfl := oi h
 refine nE ?_
 exact ⟨_, _, _, I, I2, J8, [0, 1, 2, 3, 4, 5], I, by decide⟩
 rintro ay s ob ⟨rfl, rfl⟩ he
 subst he
 have h := Dh ax
 have bu := Dj a.n_.Ports.length
 refine Aq I (Aa fun c6 c7 => Av (v := false) I bu (nO ?_))
 exact lg ⟨(), h, I2⟩ [0, 1, 2, 3, 4, 5]
 rintro s ob ⟨aw, h, rfl, rfl⟩
 unfold Jo.J5 at h
 refine Al (fun s ob => ∃ (a1 : Unit), Jo.J6 b a1 = some au ∧ s = [] ∧ ob = [.arr w 141 8 1 [[.list 1 (a.n_.Nodes.map rS), .list 7 (a.n_.Segments.map Ar), .list 3 (a.n_.Ports.map Bj), .list 5 (a.n_.Stations.map A4), .V a.n_.Vapour, .V a.n_.Settle, .v w0_0, .v w0_1]], .us w0_0 3 1 (a.rates.map rI), .us w0_1 3 1 (a.ports.map rI), .arr E 52 4 1 [[.V 0, .V 0, .N, .V 0]], .arr F 52 4 1 [[.V e, .V 0, .v i, .V b.2.1]], .us i 107 2 (b.1.map Bc)]) [(0, _), (1, _), (4, _), (5, _)] J4 ?_ ?_
 refine Bu [.o 4 0, .l 5 (a.n_.Segments.length : Int)] I ⟨Bh, I, J⟩ (nJ (Cz 78 I fun bv => ?_))
 obtain ⟨c8, bw, ak⟩ := Ac h
 clear h
 refine C1 bw [(0, _), (1, _), (4, _), (5, _), (78, _), (79, _)] J6 (fun (A : Nat) (a2 : Unit) s ob => s = [(80, .V (A : Int)), (6, .V b.2.2)] ∧ ob = [.arr w 141 8 1 [[.list 1 (a.n_.Nodes.map rS), .list 7 (a.n_.Segments.map Ar), .list 3 (a.n_.Ports.map Bj), .list 5 (a.n_.Stations.map A4), .V a.n_.Vapour, .V a.n_.Settle, .v w0_0, .v w0_1]], .us w0_0 3 1 (a.rates.map rI), .us w0_1 3 1 (a.ports.map rI), .arr E 52 4 1 [[.V 0, .V 0, .N, .V 0]], .arr F 52 4 1 [[.V e, .V 0, .v i, .V b.2.1]], .us i 107 2 (b.1.map Bc)]) ⟨I, I⟩ ⟨I, I, J⟩ ⟨[0, 1, 2, 3, 4, 5], I, by decide⟩ ?_ ?_
 rintro A O a2 a3 s ob bx a4 ⟨rfl, rfl⟩ h a5
 unfold Jo.B7 at h
 have b1 := Di a4
 refine Aq I (Aa fun c9 b3 => Av (v := true) I b1 (nI ?_))
 subst b3
 refine nH (nJ (Aa fun da b4 => nD (Ap 3 [.x 1 A (Ar O)] I ⟨⟨I, Ah bx⟩, J⟩ (nG [] I (nN (cs := [.v (.string ⟨#[]⟩), .V 0, .V 0, .V 0, .V 0, .V 0, .N]) (m := 7) I I I I I dS fun db => Af 1 I (nG [6] I (Ax 6 0 0 [Ar O] I (nE ?_))))))))
 subst b4
 refine Aa fun dc b5 => ?_
 obtain ⟨g, ⟨b7, al⟩, h⟩ := Bk h
 refine Ce 1 g.1 I al fun b8 => Bw (pd 14 0 []) [6, 0, 1] [_, _, _] I (By 9 [.o 1 0, .o 3 0, .o 7 1] I J3 (nV I (Bl (m := g.1) I I I I I b8 I b7 al) I (AP.o I (Ba 2 g.1 0 I I I (Ah al) I (y := .V g.2) I) I (Bm 3 I (Ak (nE ?_))))))
 subst b5
 refine Dt 102 (decide (g.2 > 0) && (O.From == b.2.2)) ?_ ?_
 refine nD (Af 3 I ?_)
 rcases bt (decide (g.2 > 0)) with aa | aa
 refine Ad 98 I aa (Af 4 I (nE ?_))
 exact jf (by simp only [aa, bz]) I I I2
 refine Ad 98 I aa (Af 4 I (nE ?_))
 exact jf (by simp only [aa, bz]) I I I2
 refine Ay h I ?_ ?_
 intro b9 h
 refine Al (fun s ob => ∃ (am : List Hop) (ad : Value), Jo.J8 b O g am = some a3 ∧ s = [(6, .V O.To)] ∧ ob = [.arr w 141 8 1 [[.list 1 (a.n_.Nodes.map rS), .list 7 (a.n_.Segments.map Ar), .list 3 (a.n_.Ports.map Bj), .list 5 (a.n_.Stations.map A4), .V a.n_.Vapour, .V a.n_.Settle, .v w0_0, .v w0_1]], .us w0_0 3 1 (a.rates.map rI), .us w0_1 3 1 (a.ports.map rI), .arr E 52 4 1 [[.V 0, .V 0, .N, .V 0]], .arr F 52 4 1 [[.V e, .V 0, .v ad, .V (min b.2.1 g.2)]], .us ad 107 2 (am.map Bc)]) [(0, _), (1, _), (4, _), (5, _)] J4 ?_ ?_
 obtain ⟨ca, P, h⟩ := Ac h
 refine Bw (.still 0 (.still 2 (.still 3 (.still 6 (.still 8 (.still 10 (.three 1 4 7 (.two 4 7 (.two 5 7 (.act 7 (.still 9 (.still 11 (.act 12 (.still 13 (.act 14 (.still 15 .nil))))))) (.still 9 (.act 5 (.still 11 (.act 12 (.still 13 (.act 14 (.still 15 .nil)))))))) (.still 9 (.act 4 (.act 5 (.still 11 (.act 12 (.still 13 (.act 14 (.still 15 .nil))))))))) (.two 1 7 (.two 5 7 (.act 7 (.still 9 (.still 11 (.act 12 (.still 13 (.act 14 (.still 15 .nil))))))) (.still 9 (.act 5 (.still 11 (.act 12 (.still 13 (.act 14 (.still 15 .nil)))))))) (.still 9 (.act 1 (.act 5 (.still 11 (.act 12 (.still 13 (.act 14 (.still 15 .nil))))))))) (.still 9 (.two 1 4 (.act 4 (.act 5 (.still 11 (.act 12 (.still 13 (.act 14 (.still 15 .nil))))))) (.act 1 (.act 5 (.still 11 (.act 12 (.still 13 (.act 14 (.still 15 .nil)))))))))))))))) [] [] I (Bm 2 I (nV I (Ao (l := [.V (A : Int), .v (.bool false)]) Hp I) I (Bm 3 I (nX ?_ ?_ ?_))))
 refine nF [] I I I (Cd (Bx 4 0 2 I I I I I (y := .v i) I) dS (nT ?_ ?_))
 refine nF [] I I I (nR 2 (([(⟨(A : Int), false⟩ : Hop)] : List Hop).map Bc) (nT ?_ ?_))
 refine nF [5] I I I (Bf 5 I P fun n => nF [] I I I (Cd (Bx 4 0 3 I I I I I (y := .V b.2.1) I) dS (Bm 2 I (nL 5 I fun B => nF [4] I I I (nU 4 0 2 (es' := [[.V e, .V 0, .v n, .V b.2.1]]) I I I I I I (Ai B) I (Bs I) I I (Bm 1 I (nF [4] I I I (Ax 4 0 3 [[.V e, .V 0, .v n, .V (min b.2.1 g.2)]] I (Bm 1 I (Ak (nE ?_)))))))))))
 rotate_left
 refine nF [] I I I (Cd (Bx 4 0 3 I I I I I (y := .V b.2.1) I) dS (Bm 1 I (nF [5] I I I (Bf 5 I P fun n => Bm 1 I (nL 5 I fun B => nF [4] I I I (nU 4 0 2 (es' := [[.V e, .V 0, .v n, .V b.2.1]]) I I I I I I (Ai B) I (Bs I) I I (Bm 1 I (nF [4] I I I (Ax 4 0 3 [[.V e, .V 0, .v n, .V (min b.2.1 g.2)]] I (Bm 1 I (Ak (nE ?_))))))))))))
 rotate_left
 refine nF [] I I I (Cd (Bx 4 0 3 I I I I I (y := .V b.2.1) I) dS (Bm 1 I (nF [] I I I (nR 2 (([(⟨(A : Int), false⟩ : Hop)] : List Hop).map Bc) (nF [5] I I I (Bf 5 I P fun n => Bm 1 I (nL 5 I fun B => nF [4] I I I (nU 4 0 2 (es' := [[.V e, .V 0, .v n, .V b.2.1]]) I I I I I I (Ai B) I (Bs I) I I (Bm 1 I (nF [4] I I I (Ax 4 0 3 [[.V e, .V 0, .v n, .V (min b.2.1 g.2)]] I (Bm 1 I (Ak (nE ?_))))))))))))))
 rotate_left
 refine nF [] I I I (nR 2 (([(⟨(A : Int), false⟩ : Hop)] : List Hop).map Bc) (nT ?_ ?_))
 refine nF [] I I I (Cd (Bx 4 0 2 I I I I I (y := .v i) I) dS (nT ?_ ?_))
 refine nF [5] I I I (Bf 5 I P fun n => nF [] I I I (Cd (Bx 4 0 3 I I I I I (y := .V b.2.1) I) dS (Bm 2 I (nL 5 I fun B => nF [4] I I I (nU 4 0 2 (es' := [[.V e, .V 0, .v n, .V b.2.1]]) I I I I I I (Ai B) I (Bs I) I I (Bm 1 I (nF [4] I I I (Ax 4 0 3 [[.V e, .V 0, .v n, .V (min b.2.1 g.2)]] I (Bm 1 I (Ak (nE ?_)))))))))))
 rotate_left
 refine nF [] I I I (Cd (Bx 4 0 3 I I I I I (y := .V b.2.1) I) dS (Bm 1 I (nF [5] I I I (Bf 5 I P fun n => Bm 1 I (nL 5 I fun B => nF [4] I I I (nU 4 0 2 (es' := [[.V e, .V 0, .v n, .V b.2.1]]) I I I I I I (Ai B) I (Bs I) I I (Bm 1 I (nF [4] I I I (Ax 4 0 3 [[.V e, .V 0, .v n, .V (min b.2.1 g.2)]] I (Bm 1 I (Ak (nE ?_))))))))))))
 rotate_left
 refine nF [] I I I (Cd (Bx 4 0 3 I I I I I (y := .V b.2.1) I) dS (Bm 1 I (nF [] I I I (Cd (Bx 4 0 2 I I I I I (y := .v i) I) dS (nF [5] I I I (Bf 5 I P fun n => Bm 1 I (nL 5 I fun B => nF [4] I I I (nU 4 0 2 (es' := [[.V e, .V 0, .v n, .V b.2.1]]) I I I I I I (Ai B) I (Bs I) I I (Bm 1 I (nF [4] I I I (Ax 4 0 3 [[.V e, .V 0, .v n, .V (min b.2.1 g.2)]] I (Bm 1 I (Ak (nE ?_))))))))))))))
 rotate_left
 refine nF [] I I I (Cd (Bx 4 0 3 I I I I I (y := .V b.2.1) I) dS (Bm 1 I (nT ?_ ?_)))
 refine nF [] I I I (Cd (Bx 4 0 2 I I I I I (y := .v i) I) dS (nF [] I I I (nR 2 (([(⟨(A : Int), false⟩ : Hop)] : List Hop).map Bc) (nF [5] I I I (Bf 5 I P fun n => Bm 1 I (nL 5 I fun B => nF [4] I I I (nU 4 0 2 (es' := [[.V e, .V 0, .v n, .V b.2.1]]) I I I I I I (Ai B) I (Bs I) I I (Bm 1 I (nF [4] I I I (Ax 4 0 3 [[.V e, .V 0, .v n, .V (min b.2.1 g.2)]] I (Bm 1 I (Ak (nE ?_)))))))))))))
 rotate_left
 refine nF [] I I I (nR 2 (([(⟨(A : Int), false⟩ : Hop)] : List Hop).map Bc) (nF [] I I I (Cd (Bx 4 0 2 I I I I I (y := .v i) I) dS (nF [5] I I I (Bf 5 I P fun n => Bm 1 I (nL 5 I fun B => nF [4] I I I (nU 4 0 2 (es' := [[.V e, .V 0, .v n, .V b.2.1]]) I I I I I I (Ai B) I (Bs I) I I (Bm 1 I (nF [4] I I I (Ax 4 0 3 [[.V e, .V 0, .v n, .V (min b.2.1 g.2)]] I (Bm 1 I (Ak (nE ?_)))))))))))))
 any_goals
  exact lg ⟨ca, n, h, I2⟩ [0, 1, 2, 3, 4, 5]
 rintro s ob ⟨am, ad, h, rfl, rfl⟩
 unfold Jo.J8 at h
 obtain rfl := a5 _ (oi h).symm
 replace h := ak
 replace h := Do h
 obtain rfl := oi h
 refine nO ?_
 exact ⟨_, _, _, I, ⟨ad, I2⟩, J5, [0, 1, 2, 3, 4, 5], I, by decide⟩
 intro b9 h
 refine Dt 122 (decide (g.2 < 0) && (O.To == b.2.2)) ?_ ?_
 refine nD (Af 3 I ?_)
 rcases bt (decide (g.2 < 0)) with ab | ab
 refine Ad 118 I ab (Af 4 I (nE ?_))
 exact jf (by simp only [ab, bz]) I I I2
 refine Ad 118 I ab (Af 4 I (nE ?_))
 exact jf (by simp only [ab, bz]) I I I2
 refine Ay h I ?_ ?_
 intro cb h
 refine Al (fun s ob => ∃ (an : List Hop) (ae : Value), Jo.J9 b O g an = some a3 ∧ s = [(6, .V O.From)] ∧ ob = [.arr w 141 8 1 [[.list 1 (a.n_.Nodes.map rS), .list 7 (a.n_.Segments.map Ar), .list 3 (a.n_.Ports.map Bj), .list 5 (a.n_.Stations.map A4), .V a.n_.Vapour, .V a.n_.Settle, .v w0_0, .v w0_1]], .us w0_0 3 1 (a.rates.map rI), .us w0_1 3 1 (a.ports.map rI), .arr E 52 4 1 [[.V 0, .V 0, .N, .V 0]], .arr F 52 4 1 [[.V e, .V 0, .v ae, .V (min b.2.1 (wr (0 - g.2)))]], .us ae 107 2 (an.map Bc)]) [(0, _), (1, _), (4, _), (5, _)] J4 ?_ ?_
 obtain ⟨cc, Q, h⟩ := Ac h
 refine Bw (.still 0 (.still 2 (.still 3 (.still 6 (.still 8 (.still 9 (.still 11 (.three 1 4 7 (.two 4 7 (.two 5 7 (.act 7 (.still 10 (.still 12 (.act 13 (.still 14 (.act 15 (.still 16 .nil))))))) (.still 10 (.act 5 (.still 12 (.act 13 (.still 14 (.act 15 (.still 16 .nil)))))))) (.still 10 (.act 4 (.act 5 (.still 12 (.act 13 (.still 14 (.act 15 (.still 16 .nil))))))))) (.two 1 7 (.two 5 7 (.act 7 (.still 10 (.still 12 (.act 13 (.still 14 (.act 15 (.still 16 .nil))))))) (.still 10 (.act 5 (.still 12 (.act 13 (.still 14 (.act 15 (.still 16 .nil)))))))) (.still 10 (.act 1 (.act 5 (.still 12 (.act 13 (.still 14 (.act 15 (.still 16 .nil))))))))) (.still 10 (.two 1 4 (.act 4 (.act 5 (.still 12 (.act 13 (.still 14 (.act 15 (.still 16 .nil))))))) (.act 1 (.act 5 (.still 12 (.act 13 (.still 14 (.act 15 (.still 16 .nil))))))))))))))))) [] [] I (Bm 2 I (nV I (Ao (l := [.V (A : Int), .v (.bool true)]) Hp I) I (Bm 4 I (nX ?_ ?_ ?_))))
 refine nF [] I I I (Cd (Bx 4 0 2 I I I I I (y := .v i) I) dS (nT ?_ ?_))
 refine nF [] I I I (nR 2 (([(⟨(A : Int), true⟩ : Hop)] : List Hop).map Bc) (nT ?_ ?_))
 refine nF [5] I I I (Bf 5 I Q fun t => nF [] I I I (Cd (Bx 4 0 3 I I I I I (y := .V b.2.1) I) dS (Bm 2 I (nL 5 I fun D => nF [4] I I I (nU 4 0 2 (es' := [[.V e, .V 0, .v t, .V b.2.1]]) I I I I I I (Ai D) I (Bs I) I I (Bm 1 I (nF [4] I I I (Ax 4 0 3 [[.V e, .V 0, .v t, .V (min b.2.1 (wr (0 - g.2)))]] I (Bm 1 I (Ak (nE ?_)))))))))))
 rotate_left
 refine nF [] I I I (Cd (Bx 4 0 3 I I I I I (y := .V b.2.1) I) dS (Bm 1 I (nF [5] I I I (Bf 5 I Q fun t => Bm 1 I (nL 5 I fun D => nF [4] I I I (nU 4 0 2 (es' := [[.V e, .V 0, .v t, .V b.2.1]]) I I I I I I (Ai D) I (Bs I) I I (Bm 1 I (nF [4] I I I (Ax 4 0 3 [[.V e, .V 0, .v t, .V (min b.2.1 (wr (0 - g.2)))]] I (Bm 1 I (Ak (nE ?_))))))))))))
 rotate_left
 refine nF [] I I I (Cd (Bx 4 0 3 I I I I I (y := .V b.2.1) I) dS (Bm 1 I (nF [] I I I (nR 2 (([(⟨(A : Int), true⟩ : Hop)] : List Hop).map Bc) (nF [5] I I I (Bf 5 I Q fun t => Bm 1 I (nL 5 I fun D => nF [4] I I I (nU 4 0 2 (es' := [[.V e, .V 0, .v t, .V b.2.1]]) I I I I I I (Ai D) I (Bs I) I I (Bm 1 I (nF [4] I I I (Ax 4 0 3 [[.V e, .V 0, .v t, .V (min b.2.1 (wr (0 - g.2)))]] I (Bm 1 I (Ak (nE ?_))))))))))))))
 rotate_left
 refine nF [] I I I (nR 2 (([(⟨(A : Int), true⟩ : Hop)] : List Hop).map Bc) (nT ?_ ?_))
 refine nF [] I I I (Cd (Bx 4 0 2 I I I I I (y := .v i) I) dS (nT ?_ ?_))
 refine nF [5] I I I (Bf 5 I Q fun t => nF [] I I I (Cd (Bx 4 0 3 I I I I I (y := .V b.2.1) I) dS (Bm 2 I (nL 5 I fun D => nF [4] I I I (nU 4 0 2 (es' := [[.V e, .V 0, .v t, .V b.2.1]]) I I I I I I (Ai D) I (Bs I) I I (Bm 1 I (nF [4] I I I (Ax 4 0 3 [[.V e, .V 0, .v t, .V (min b.2.1 (wr (0 - g.2)))]] I (Bm 1 I (Ak (nE ?_)))))))))))
 rotate_left
 refine nF [] I I I (Cd (Bx 4 0 3 I I I I I (y := .V b.2.1) I) dS (Bm 1 I (nF [5] I I I (Bf 5 I Q fun t => Bm 1 I (nL 5 I fun D => nF [4] I I I (nU 4 0 2 (es' := [[.V e, .V 0, .v t, .V b.2.1]]) I I I I I I (Ai D) I (Bs I) I I (Bm 1 I (nF [4] I I I (Ax 4 0 3 [[.V e, .V 0, .v t, .V (min b.2.1 (wr (0 - g.2)))]] I (Bm 1 I (Ak (nE ?_))))))))))))
 rotate_left
 refine nF [] I I I (Cd (Bx 4 0 3 I I I I I (y := .V b.2.1) I) dS (Bm 1 I (nF [] I I I (Cd (Bx 4 0 2 I I I I I (y := .v i) I) dS (nF [5] I I I (Bf 5 I Q fun t => Bm 1 I (nL 5 I fun D => nF [4] I I I (nU 4 0 2 (es' := [[.V e, .V 0, .v t, .V b.2.1]]) I I I I I I (Ai D) I (Bs I) I I (Bm 1 I (nF [4] I I I (Ax 4 0 3 [[.V e, .V 0, .v t, .V (min b.2.1 (wr (0 - g.2)))]] I (Bm 1 I (Ak (nE ?_))))))))))))))
 rotate_left
 refine nF [] I I I (Cd (Bx 4 0 3 I I I I I (y := .V b.2.1) I) dS (Bm 1 I (nT ?_ ?_)))
 refine nF [] I I I (Cd (Bx 4 0 2 I I I I I (y := .v i) I) dS (nF [] I I I (nR 2 (([(⟨(A : Int), true⟩ : Hop)] : List Hop).map Bc) (nF [5] I I I (Bf 5 I Q fun t => Bm 1 I (nL 5 I fun D => nF [4] I I I (nU 4 0 2 (es' := [[.V e, .V 0, .v t, .V b.2.1]]) I I I I I I (Ai D) I (Bs I) I I (Bm 1 I (nF [4] I I I (Ax 4 0 3 [[.V e, .V 0, .v t, .V (min b.2.1 (wr (0 - g.2)))]] I (Bm 1 I (Ak (nE ?_)))))))))))))
 rotate_left
 refine nF [] I I I (nR 2 (([(⟨(A : Int), true⟩ : Hop)] : List Hop).map Bc) (nF [] I I I (Cd (Bx 4 0 2 I I I I I (y := .v i) I) dS (nF [5] I I I (Bf 5 I Q fun t => Bm 1 I (nL 5 I fun D => nF [4] I I I (nU 4 0 2 (es' := [[.V e, .V 0, .v t, .V b.2.1]]) I I I I I I (Ai D) I (Bs I) I I (Bm 1 I (nF [4] I I I (Ax 4 0 3 [[.V e, .V 0, .v t, .V (min b.2.1 (wr (0 - g.2)))]] I (Bm 1 I (Ak (nE ?_)))))))))))))
 any_goals
  exact lg ⟨cc, t, h, I2⟩ [0, 1, 2, 3, 4, 5]
 rintro s ob ⟨an, ae, h, rfl, rfl⟩
 unfold Jo.J9 at h
 obtain rfl := a5 _ (oi h).symm
 replace h := ak
 replace h := Do h
 obtain rfl := oi h
 refine nO ?_
 exact ⟨_, _, _, I, ⟨ae, I2⟩, J5, [0, 1, 2, 3, 4, 5], I, by decide⟩
 intro cb h
 refine nI (nD (Ap 2 [.k 0 (A + 1 : Nat)] I ⟨Bt a4 bv, J⟩ ?_))
 obtain rfl := oi h
 refine nE ?_
 exact ⟨_, _, _, I, I2, J8, [0, 1, 2, 3, 4, 5], I, by decide⟩
 rintro a2 s ob ⟨rfl, rfl⟩ he
 subst he
 have h := Dh ak
 have cd := Dj a.n_.Segments.length
 refine Aq I (Aa fun dd de => Av (v := false) I cd (nO ?_))
 exact lg ⟨(), h, I2⟩ [0, 1, 2, 3, 4, 5]
 rintro s ob ⟨a1, h, rfl, rfl⟩
 unfold Jo.J6 at h
 obtain rfl := av _ (oi h).symm
 replace h := ar
 refine nO ?_
 exact lg ⟨(0, b.1, b.2.1), i, h, I2⟩ [0, 1, 2, 3, 4, 5]
 rintro s ob ⟨f, G, h, rfl, rfl⟩
 unfold Jo.J1 at h
 refine Aa fun df ce => Ce 2 j.1 I H fun cf => Ce 2 j.1 I H fun cg => Bw (sl 11 0 (.drop 11 .nil)) [0, 2, 4] [_, _, _] I (By 5 [.o 3 0] I J1 (nV I (Bl (m := j.1) I I I I I cf I ag H) I (AP.o I (Ba 1 j.1 0 I I I (Ah H) I (y := .V j.2) I) I (By 3 [.o 1 2] I J1 (nV I (Bl (m := j.1) I I I I I cg I ag H) I (nW [2] I I I (Ci 2 j.1 0 I I I (Ah H) I I I I (Bs I) I (Dp (x := wr (j.2 - f.2.2)) I) (Ak (nE ?_)))))))))
 subst ce
 refine Aa fun dg ci => ?_
 obtain ⟨u, ⟨a6, U⟩, h⟩ := Bk h
 refine Ce 2 u.1 I U fun cj => Ce 2 u.1 I U fun ck => Bw (sl 12 0 (.drop 12 .nil)) [0, 4, 2] [_, _, _] I (By 6 [.o 3 0, .o 5 1] I J2 (nV I (Bl (m := u.1) I I I I I cj I a6 U) I (AP.o I (Ba 2 u.1 0 I I I (Ah U) I (y := .V u.2) I) I (By 3 [.o 1 1] I J1 (nV I (Bl (m := u.1) I I I I I ck I a6 U) I (nW [2] I I I (Ci 2 u.1 0 I I I (Ah U) I I I I (Bs I) I (Dp (x := wr (u.2 + f.2.2)) I) (Ak (nE ?_)))))))))
 subst ci
 refine Al (fun s ob => ∃ (W : List Int), Jo.J2 a e j f u W = some r ∧ s = [] ∧ ob = [.arr w 141 8 1 [[.list 1 (a.n_.Nodes.map rS), .list 7 (a.n_.Segments.map Ar), .list 3 (a.n_.Ports.map Bj), .list 5 (a.n_.Stations.map A4), .V a.n_.Vapour, .V a.n_.Settle, .v w0_0, .v w0_1]], .us w0_0 3 1 (W.map rI), .us w0_1 3 1 (((a.ports.set j.1 (wr (j.2 - f.2.2))).set u.1 (wr (u.2 + f.2.2))).map rI), .arr E 52 4 1 [[.V 0, .V 0, .N, .V 0]], .arr F 52 4 1 [[.V e, .V f.1, .v G, .V f.2.2]], .us G 107 2 (f.2.1.map Bc)]) [(4, _), (5, _)] J2 ?_ ?_
 refine Aa fun dh cl => nD (Ap 2 [.o 1 4] I J1 (nS (Cn 5 I I I I) I (Af 1 I (nE ?_))))
 subst cl
 refine nJ (Oq 5 I fun cm => ?_)
 obtain ⟨di, cn, co⟩ := Ac h
 clear h
 refine Hz cn [(0, _), (4, _), (5, _), (162, _), (163, _)] J5 (fun (ao : Nat) (af : List Int) s ob => s = [(164, .V (ao : Int))] ∧ ob = [.arr w 141 8 1 [[.list 1 (a.n_.Nodes.map rS), .list 7 (a.n_.Segments.map Ar), .list 3 (a.n_.Ports.map Bj), .list 5 (a.n_.Stations.map A4), .V a.n_.Vapour, .V a.n_.Settle, .v w0_0, .v w0_1]], .us w0_0 3 1 (af.map rI), .us w0_1 3 1 (((a.ports.set j.1 (wr (j.2 - f.2.2))).set u.1 (wr (u.2 + f.2.2))).map rI), .arr E 52 4 1 [[.V 0, .V 0, .N, .V 0]], .arr F 52 4 1 [[.V e, .V f.1, .v G, .V f.2.2]], .us G 107 2 (f.2.1.map Bc)]) ⟨I, I⟩ ⟨I, J⟩ ⟨[0, 1, 2, 3, 4, 5], I, by decide⟩ ?_ ?_
 rintro ao af dj s ob a7 ⟨rfl, rfl⟩ h
 unfold Jo.B3 at h
 have cp := Di a7
 refine Aq I (Aa fun dk cq => Av (v := true) I cp (nI ?_))
 subst cq
 refine nH (nJ (Aa fun dl cr => ?_))
 obtain ⟨X, ⟨ct, a8⟩, h⟩ := Bk h
 refine nD (nS (Bi 5 (m := X.1) I I I I I I I ct (Ah a8)) I (nS (Ba 5 X.1 0 I I I (Ah a8) I (y := .agg (Bc X.2)) I) I (nG [] I (nN (cs := [.V 0, .v (.bool false)]) (m := 2) I I I I I dS fun dm => nG [6] I (Ax 6 0 0 [Bc X.2] I (nE ?_))))))
 subst cr
 obtain ⟨R, ⟨a9, Y⟩, h⟩ := Bk h
 refine Ce 1 R.1 I Y fun cu => Ce 1 R.1 I Y fun cv => Bw (sl 11 0 (.act 11 (.still 12 (.still 13 (.drop 14 .nil))))) [0, 6, 1, 4] [_, _, _, _] I (By 6 [.o 3 0, .o 5 1] I J2 (nV I (Bl (m := R.1) I I I I I cu I a9 Y) I (AP.o I (Ba 2 R.1 0 I I I (Ah Y) I (y := .V R.2) I) I (By 3 [.o 0 1, .o 2 3] I J2 (Ee I (Oi X.2 f.2.2 _ I) (Bm 1 I (nV I (Bl (m := R.1) I I I I I cv I a9 Y) I (nW [1] I I I (Ci 1 R.1 0 I I I (Ah Y) I I I I (Bs I) I (Dp (x := wr (R.2 - (Hr X.2 f.2.2))) I) (Ak (nE ?_)))))))))))
 refine nD (Ap 2 [.k 0 (ao + 1 : Nat)] I ⟨Bt a7 cm, J⟩ ?_)
 obtain rfl := oi h
 refine nE ?_
 exact lg I2 [0, 1, 2, 3, 4, 5]
 rintro af s ob ⟨rfl, rfl⟩ he
 subst he
 have h := co
 have cw := Dj f.2.1.length
 refine Aq I (Aa fun dn dp => Av (v := false) I cw (nO ?_))
 exact lg ⟨af, h, I2⟩ [0, 1, 2, 3, 4, 5]
 rintro s ob ⟨W, h, rfl, rfl⟩
 unfold Jo.J2 at h
 refine nH (nD (Ap 1 [.o 0 4] I J1 (nG [3] I (Ax 3 0 0 [[.V e, .V f.1, .v G, .V f.2.2]] I (nE (nM (A0 [5] (K := [.us G 107 2 (f.2.1.map Bc)]) I [] J (ob' := [.arr w 141 8 1 [[.list 1 (a.n_.Nodes.map rS), .list 7 (a.n_.Segments.map Ar), .list 3 (a.n_.Ports.map Bj), .list 5 (a.n_.Stations.map A4), .V a.n_.Vapour, .V a.n_.Settle, .v w0_0, .v w0_1]], .us w0_0 3 1 (W.map rI), .us w0_1 3 1 (((a.ports.set j.1 (wr (j.2 - f.2.2))).set u.1 (wr (u.2 + f.2.2))).map rI), .arr E 52 4 1 [[.V e, .V f.1, .list 2 (f.2.1.map Bc), .V f.2.2]], .arr F 52 4 1 [[.V e, .V f.1, .v G, .V f.2.2]]]) (.cons (.same _) (.cons (.same _) (.cons (.same _) (.cons (.arr (.cons (.refl _) (.cons (.refl _) (.cons (.us 0 I) (.rest _))))) (.rest _)))))) (Cb [0, 1, 2, 3] I ?_)))))))
 obtain rfl := oi h
 exact nK ⟨.inr I, [_], [.arr w 141 8 1 [[.list 1 (a.n_.Nodes.map rS), .list 7 (a.n_.Segments.map Ar), .list 3 (a.n_.Ports.map Bj), .list 5 (a.n_.Stations.map A4), .V a.n_.Vapour, .V a.n_.Settle, .v w0_0, .v w0_1]], .us w0_0 3 1 (W.map rI), .us w0_1 3 1 (((a.ports.set j.1 (wr (j.2 - f.2.2))).set u.1 (wr (u.2 + f.2.2))).map rI)], ⟨⟨3, _, _, _, _, _, _, _, I5⟩, J⟩, Dn I (Dn I (Dn I (Cf))), ⟨[.arr w 141 8 1 [[.list 1 (a.n_.Nodes.map rS), .list 7 (a.n_.Segments.map Ar), .list 3 (a.n_.Ports.map Bj), .list 5 (a.n_.Stations.map A4), .V a.n_.Vapour, .V a.n_.Settle, .v w0_0, .v w0_1]], .us w0_0 3 1 (W.map rI), .us w0_1 3 1 (((a.ports.set j.1 (wr (j.2 - f.2.2))).set u.1 (wr (u.2 + f.2.2))).map rI)], [], I, I, w0_0, w0_1, I3⟩⟩
theorem Sz (b : Network) (K : Plan) (r : (List Path) × Int) (h : G3 b K = some r) : ACalls Am 48 [.agg (Ab b), .agg (As K)] [] (fun x new => ∃ (R : Value), x = .tup [.v R, .V r.2] ∧ new = [.us R 52 4 (r.1.map Aj)]) := by
 refine Ag Tryz.func48 rfl rfl rfl fun C hC => ?_
 unfold G3 at h
 refine Aa fun y1 Z => nD (nG [] I (nQ (cs := Ab b) (m := 6) I I I dS fun b2 => nG [] I (nQ (cs := As K) (m := 3) I I I dS fun b3 => Af 2 I (nE ?_))))
 subst Z
 refine Aa fun y4 aa => nH ?_
 obtain ⟨r5, ab, h⟩ := Ac h
 refine nD (Ap 1 [.o 0 0] I J1 (Cg (Kl _ _ ab) (Af 1 I (nE (Aq I (Ay h I ?_ ?_))))))
 intro ac h
 refine Aq I (nM (Bo 52 4) (Cb [2] I ?_))
 obtain rfl := oi h
 exact nK ⟨.inr I, [_, _], [.us (.slice none 0 0) 52 4 ([].map Aj)], J2, Dn I (Cf), ⟨(.slice none 0 0), I2⟩⟩
 intro ac h
 refine nI ?_
 subst aa
 refine Aa fun y8 ad => nH ?_
 obtain ⟨r9, ae, h⟩ := Ac h
 refine nD (Ap 2 [.o 0 0, .o 1 1] I J2 (Cg (Ie _ _ _ ae) (Af 1 I (nE (Aq I (Ay h I ?_ ?_))))))
 intro af h
 refine Aq I (nM (Bo 52 4) (Cb [2] I ?_))
 obtain rfl := oi h
 exact nK ⟨.inr I, [_, _], [.us (.slice none 0 0) 52 4 ([].map Aj)], J2, Dn I (Cf), ⟨(.slice none 0 0), I2⟩⟩
 intro af h
 refine nI ?_
 subst ad
 refine Aa fun bf ag => ?_
 obtain ⟨bg, ah, h⟩ := Ac h
 obtain ⟨ai, aj, h⟩ := Ac h
 refine Bw (sl 3 0 (.still 4 (.still 5 (.act 3 (.act 6 (.still 7 (.act 8 (.still 9 .nil)))))))) [0, 1] [_, _] I (By 5 [.o 0 0, .o 2 1, .o 4 1] I J3 (nF [] I I I (Bp I I I (S1 _ _ ah) dS ?_)))
 rintro _ _ ⟨M, rfl, rfl⟩
 refine nF [] I I I (Bp I I I (S1 _ _ aj) dS ?_)
 rintro _ _ ⟨O, rfl, rfl⟩
 refine nL 2 I fun ak => nL 3 I fun al => Cr I (Ao (l := [.list 1 (b.Nodes.map rS), .list 7 (b.Segments.map Ar), .list 3 (b.Ports.map Bj), .list 5 (b.Stations.map A4), .V b.Vapour, .V b.Settle, .v M, .v O]) Wa (Ae I I I I (Ae I I (Ai ak) I (Ae I I (Ai al) I (A8))))) I (nF [] I I I (nQ (cs := [.list 1 (b.Nodes.map rS), .list 7 (b.Segments.map Ar), .list 3 (b.Ports.map Bj), .list 5 (b.Stations.map A4), .V b.Vapour, .V b.Settle, .v M, .v O]) (m := 8) I I I dS fun A => Bm 1 I (Ak (nE ?_))))
 subst ag
 refine Aq I (Al (fun s ob => ∃ (B : List Path) (i : Value), G3.J1 B = some r ∧ s = [(9, .v i)] ∧ ob = [.us i 52 4 (B.map Aj)]) [] J ?_ ?_)
 refine Aa fun bh am => nD (Ap 4 [.o 3 4] I J1 (nS (Cn 3 I I I I) I (Af 1 I (nE ?_))))
 subst am
 refine nJ (Oq 3 I fun an => nM (Bo 52 4) ?_)
 obtain ⟨bi, ao, S⟩ := Ac h
 clear h
 refine Ga ao [(8, _), (36, _)] J2 (fun (P : Nat) (e : (List ByteArray) × (List Segment) × (List Port) × (List Station) × Int × Int × (List Int) × (List Int) × (List Path)) s ob => ∃ (j : Value) (n : Value) (g : Value), s = [(37, .V (P : Int)), (9, .v g)] ∧ ob = [.us j 3 1 (e.2.2.2.2.2.2.1.map rI), .us n 3 1 (e.2.2.2.2.2.2.2.1.map rI), .arr A 141 8 1 [[.list 1 (e.1.map rS), .list 7 (e.2.1.map Ar), .list 3 (e.2.2.1.map Bj), .list 5 (e.2.2.2.1.map A4), .V e.2.2.2.2.1, .V e.2.2.2.2.2.1, .v j, .v n]], .us g 52 4 (e.2.2.2.2.2.2.2.2.map Aj)]) ⟨M, O, (.slice none 0 0), I2⟩ ⟨I, I, J⟩ ⟨[2, 3, 4, 5], I, by decide⟩ ?_ ?_
 rintro P e aq s ob U ⟨j, n, g, rfl, rfl⟩ h ar
 unfold G3.B2 at h
 have au := Di U
 refine Aq I (Aa fun bj av => Av (v := true) I au (nI ?_))
 subst av
 refine Al (fun s ob => ∃ (f : (List ByteArray) × (List Segment) × (List Port) × (List Station) × Int × Int × (List Int) × (List Int) × (List Path)) (D : Value) (E : Value) (F : Value), G3.J3 f = some aq ∧ s = [(9, .v F)] ∧ ob = [.us D 3 1 (f.2.2.2.2.2.2.1.map rI), .us E 3 1 (f.2.2.2.2.2.2.2.1.map rI), .arr A 141 8 1 [[.list 1 (f.1.map rS), .list 7 (f.2.1.map Ar), .list 3 (f.2.2.1.map Bj), .list 5 (f.2.2.2.1.map A4), .V f.2.2.2.2.1, .V f.2.2.2.2.2.1, .v D, .v E]], .us F 52 4 (f.2.2.2.2.2.2.2.2.map Aj)]) [(8, _), (36, _), (37, _)] J3 ?_ ?_
 refine nJ (Aq I (nJ ?_))
 obtain ⟨bk, aw, W⟩ := Ac h
 clear h
 refine Bz aw [(8, _), (10, _), (36, _), (37, _)] J4 (fun (a : (List ByteArray) × (List Segment) × (List Port) × (List Station) × Int × Int × (List Int) × (List Int) × (List Path)) s ob => ∃ (t : Value) (u : Value) (G : Value), s = [(9, .v G)] ∧ ob = [.us t 3 1 (a.2.2.2.2.2.2.1.map rI), .us u 3 1 (a.2.2.2.2.2.2.2.1.map rI), .arr A 141 8 1 [[.list 1 (a.1.map rS), .list 7 (a.2.1.map Ar), .list 3 (a.2.2.1.map Bj), .list 5 (a.2.2.2.1.map A4), .V a.2.2.2.2.1, .V a.2.2.2.2.2.1, .v t, .v u]], .us G 52 4 (a.2.2.2.2.2.2.2.2.map Aj)]) ⟨j, n, g, I2⟩ ⟨I, J⟩ ⟨[0, 1, 2, 3], I, by decide⟩ ?_
 rintro a bl s ob ⟨t, u, G, rfl, rfl⟩ h X
 unfold G3.B4 at h
 refine Aa fun bm ax => nH ?_
 obtain ⟨Q, ⟨ay, Y⟩, h⟩ := Bk h
 refine nD (Ap 5 [.o 3 2] I J1 (nS (Bi 1 (m := Q.1) I I I I I I I ay (Ah Y)) I (nS (Ba 1 Q.1 0 I I I (Ah Y) I (y := .V Q.2) I) I (Af 1 I (nE (Ay h I ?_ ?_))))))
 intro az h
 refine nI ?_
 subst ax
 refine nJ (Aa fun bn a0 => ?_)
 obtain ⟨H, a1, h⟩ := Ac h
 refine nD (Af 2 I (nG [2, 0, 1] I (Pj [2, 0, 1] (cX A _ t u _ _ a1) ?_)))
 rintro _ _ _ - ⟨a2, a3, rfl, rfl, rfl⟩
 refine nG [] I (nN (cs := [.V 0, .V 0, .N, .V 0]) (m := 4) I I I I I dS fun bo => nG [4] I (Ax 4 0 0 [Aj H.1] I (nE ?_)))
 subst a0
 refine nH (Dt 59 (((a.2.2.2.2.2.2.2.2.length : Int) == 64) || decide ((H.1.Hops.length : Int) > 32)) ?_ ?_)
 refine nD (Af 1 I (nS (Cn 3 I I I I) I (Af 2 I ?_)))
 rcases bt (((a.2.2.2.2.2.2.2.2.length : Int) == 64)) with w | w
 refine Ad 54 I w (Af 5 I (nE ?_))
 exact jf (by simp only [w, bz]) I I I2
 refine Ad 54 I w (Ap 5 [.o 1 4, .l 2 (H.1.Hops.length : Int)] I ⟨Bh, I, J⟩ (nE ?_))
 exact jf (by simp only [w, bz]) I I I2
 refine Ay h I ?_ ?_
 intro a4 h
 refine Aq I ?_
 obtain rfl := X _ (oi h).symm
 replace h := W
 replace h := Dh h
 obtain rfl := ar _ (oi h).symm
 replace h := S
 replace h := Do h
 refine nM (Bo 52 4) (Cb [5] I ?_)
 obtain rfl := oi h
 exact nK ⟨.inr I, [_, _], [.us (.slice none 0 0) 52 4 ([].map Aj)], J2, Dn I (Cf), ⟨(.slice none 0 0), I2⟩⟩
 intro a4 h
 refine nI ?_
 obtain ⟨bp, a5, h⟩ := Ac h
 refine nD (Ap 2 [.o 1 4] I J1 (nG [] I (nR 4 (([H.1] : List Path).map Aj) (nG [3] I (Bf 3 I a5 fun a6 => Af 1 I ?_)))))
 obtain rfl := oi h
 refine nE ?_
 exact ⟨_, _, _, I, ⟨a2, a3, a6, I2⟩, J5, [0, 1, 2, 3], I, by decide⟩
 intro az h
 obtain rfl := X _ (oi h).symm
 replace h := W
 replace h := Do h
 refine nO ?_
 exact lg ⟨(a.1, a.2.1, a.2.2.1, a.2.2.2.1, a.2.2.2.2.1, a.2.2.2.2.2.1, a.2.2.2.2.2.2.1, a.2.2.2.2.2.2.2.1, a.2.2.2.2.2.2.2.2), t, u, G, h, I2⟩ [0, 1, 2, 3]
 rintro s ob ⟨f, D, E, F, h, rfl, rfl⟩
 unfold G3.J3 at h
 refine nD (Ap 2 [.k 0 (P + 1 : Nat)] I ⟨Bt U an, J⟩ ?_)
 obtain rfl := oi h
 refine nE ?_
 exact ⟨_, _, _, I, ⟨D, E, F, I2⟩, J4, [0, 1, 2, 3], I, by decide⟩
 rintro e s ob ⟨j, n, g, rfl, rfl⟩ he
 subst he
 have h := Dh S
 have a7 := Dj ai.length
 refine Aq I (Aa fun bq br => Av (v := false) I a7 (nO ?_))
 exact lg ⟨e.2.2.2.2.2.2.2.2, g, h, I2⟩ [3]
 rintro s ob ⟨B, i, h, rfl, rfl⟩
 unfold G3.J1 at h
 refine Aq I ?_
 obtain rfl := oi h
 exact nK ⟨.inr I, [_, _], [.us i 52 4 (B.map Aj)], J2, Dn I (Cf), ⟨i, I2⟩⟩
end Go.Proofs.YtmaamhgjeampmaaGreat
