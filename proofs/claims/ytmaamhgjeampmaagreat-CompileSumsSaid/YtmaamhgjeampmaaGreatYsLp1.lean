/- Walks that show what functions of the program compute; printed by a program of ours. No condition. -/
import Derived.Test.YtmaamhgjeampmaaGreatYsL2
import Derived.Test.YtmaamhgjeampmaaGreatYsD
set_option maxRecDepth 100000
namespace Go.Proofs.YtmaamhgjeampmaaGreat
open Go.Aw
set_option linter.unusedVariables false
set_option linter.unusedSimpArgs false
set_option maxHeartbeats 4000000
theorem L.zvxi_ok (a : List Int) (r : List Int) (h : L.zvxi a = some r) : ACalls Tryz.env 88 [.list 1 (a.map rI)] [] (fun x new => ∃ (b : Value), x = .v b ∧ new = [.us b 3 1 (r.map rI)]) := by
  refine ACalls.of_body Tryz.func88 rfl rfl rfl (fun C hC => ?_)
  unfold L.zvxi at h
  obtain ⟨e, d⟩ := app_some h
  refine AW.seq ?_
  refine AW.region ?_
  refine AO.p (Yp.assign rfl) rfl ?_
  refine AO.nil ?_
  refine AW.seq ?_
  refine AW.seq ?_
  refine AW.region ?_
  refine AO.p (Yp.move rfl) rfl ?_
  refine AO.act [] rfl (AX.eqNil rfl rfl rfl (dst_some rfl) (fun c hc => ?_))
  refine AO.nil ?_
  refine AW.cond rfl rfl ?_ ?_
  · intro hb
    have hs : a = [] := by have := hc hb; simpa using this
    subst hs
    refine AW.seq ?_
    refine AW.region ?_
    refine AO.p (Yp.assign rfl) rfl ?_
    refine AO.ghost (Ghost.nilU 3 1) ?_
    refine AO.nil ?_
    refine AW.ret ?_
    have hr : r = [] := by simpa using d.symm
    subst hr
    exact ⟨.inr rfl, [_], [.us (.slice none 0 0) 3 1 ([].map rI)], ⟨rfl, J⟩, sl_c rfl sl_n, ⟨_, rfl, rfl⟩⟩
  · intro hb
    refine AW.skip ?_
    refine AW.seq ?_
    refine AW.region ?_
    refine AO.act [] rfl (AX.buildSlice (sz := 1) (es := []) rfl rfl rfl rfl rfl rfl rfl rfl rfl rfl rfl (dst_some rfl) (fun g => ?_))
    refine AO.p (Yp.move rfl) rfl ?_
    refine AO.act [0] rfl (AX.appendU 0 (es' := r.map rI) rfl rfl rfl rfl rfl rfl rfl rfl rfl (AppSrc.list rfl) (by simpa using e) (by rw [← d]; simp) (dst_some rfl) (fun f => ?_))
    refine AO.p (Yp.assign rfl) rfl ?_
    refine AO.nil ?_
    refine AW.ret ?_
    exact ⟨.inr rfl, [_], [.us f 3 1 (r.map rI)], ⟨rfl, J⟩, sl_c rfl sl_n, ⟨_, rfl, rfl⟩⟩
theorem L.zqxx_ok (a : Hop) (b : Int) (r : Int) (h : L.zqxx a b = r) : ACalls Tryz.env 141 [.agg (Hop.row a), .V b] [] (fun x new => x = .V r ∧ new = []) := by
 refine ACalls.of_body Tryz.func141 rfl rfl rfl (fun C hC => ?_)
 unfold L.zqxx at h
 refine AW.seqG (fun e c => (AW.region (AO.act [] I (AX.box (cs := Hop.row a) (m := 2) I I I dS (fun f => (AO.q 1 I (AO.nil ?_)))))))
 subst c
 refine AW.seq (AW.zr [.o 1 0] I ⟨I, J⟩ (AW.ch h I ?_ ?_))
 intro d h
 refine AW.z I (AW.ghost g0 ?_)
 obtain rfl := h
 exact AW.ret pr
 intro d h
 refine AW.skip (AW.z I (AW.ghost g0 ?_))
 obtain rfl := h
 exact AW.ret pr
theorem L.zcho_ok (w : Nat) (a : paths_divider) (w0_0 : Value) (w0_1 : Value) (e : Int) (r : Path × paths_divider) (h : L.zcho a e = some r) : ACalls Tryz.env 89 [.v (.pointer (some ⟨w, 0, none⟩)), .V e] [.arr w 141 8 1 [[.list 1 (a.n_.Nodes.map rS), .list 7 (a.n_.Segments.map Segment.row), .list 3 (a.n_.Ports.map Port.row), .list 5 (a.n_.Stations.map Station.row), .V a.n_.Vapour, .V a.n_.Settle, .v w0_0, .v w0_1]], .us w0_0 3 1 (a.rates.map rI), .us w0_1 3 1 (a.ports.map rI)] (Gives 3 (fun x os new => ∃ (u1_0 : Value) (u1_1 : Value), x = .agg (Path.row r.1) ∧ os = [.arr w 141 8 1 [[.list 1 (r.2.n_.Nodes.map rS), .list 7 (r.2.n_.Segments.map Segment.row), .list 3 (r.2.n_.Ports.map Port.row), .list 5 (r.2.n_.Stations.map Station.row), .V r.2.n_.Vapour, .V r.2.n_.Settle, .v u1_0, .v u1_1]], .us u1_0 3 1 (r.2.rates.map rI), .us u1_1 3 1 (r.2.ports.map rI)] ∧ new = [])) := by
 refine ACalls.of_body Tryz.func89 rfl rfl rfl (fun C hC => ?_)
 unfold L.zcho at h
 refine AW.seqG (fun y1 ba => (AW.region (AO.act [] I (AX.alloc (cs := [.V 0, .V 0, .N, .V 0]) (m := 4) I I I I I dS (fun E => (AO.nil ?_))))))
 subst ba
 refine AW.scope (AW.seqG (fun y3 bb => ?_))
 obtain ⟨j, ⟨ag, H⟩, h⟩ := ob_ix h
 refine AW.region (AO.r 6 [.o 4 0] I ⟨I, J⟩ (AO.d (Yd.indexU 2 (m := j.1) I I I I I I I ag (map_get H)) I (AO.d (Yd.loadU 2 j.1 0 I I I (map_get H) I (y := .V j.2) I) I (AO.p (Yp.buildP (l := [.V e, .V 0, .N, .V j.2]) Tryz.bld52 I) I (AO.act [] I (AX.alloc (cs := [.V 0, .V 0, .N, .V 0]) (m := 4) I I I I I dS (fun F => (AO.act [4] I (AX.st 4 0 0 [[.V e, .V 0, .N, .V j.2]] I (AO.nil ?_))))))))))
 subst bb
 refine AW.seqG (fun y7 bc => ?_)
 obtain ⟨p8, ⟨bd, be⟩, h⟩ := ob_ix h
 refine AW.tr [.o 4 0, .x 6 p8.1 (Port.row p8.2)] I ⟨⟨bd, map_get be⟩, I, J⟩ ?_
 subst bc
 refine AW.seqG (fun c0 bf => (AW.label ?_))
 subst bf
 refine AW.cutX (fun s ob => ∃ (f : Int × (List Hop) × Int) (G : Value), L.zcho.J1 a e j f = some r ∧ s = [] ∧ ob = [.arr w 141 8 1 [[.list 1 (a.n_.Nodes.map rS), .list 7 (a.n_.Segments.map Segment.row), .list 3 (a.n_.Ports.map Port.row), .list 5 (a.n_.Stations.map Station.row), .V a.n_.Vapour, .V a.n_.Settle, .v w0_0, .v w0_1]], .us w0_0 3 1 (a.rates.map rI), .us w0_1 3 1 (a.ports.map rI), .arr E 52 4 1 [[.V 0, .V 0, .N, .V 0]], .arr F 52 4 1 [[.V e, .V f.1, .v G, .V f.2.2]], .us G 107 2 (f.2.1.map Hop.row)]) [(0, _), (1, _), (4, _), (5, _)] ⟨I, I, I, I, J⟩ ?_ ?_
 refine AW.block (AW.ghost (Ghost.nilU 107 2) ?_)
 obtain ⟨c1, bg, ar⟩ := ob_some h
 clear h
 refine AW.loopX bg [(0, _), (1, _), (4, _), (5, _)] ⟨I, I, I, I, J⟩ (fun (b : (List Hop) × Int × Int) s ob => ∃ (i : Value), s = [(6, .V b.2.2)] ∧ ob = [.arr w 141 8 1 [[.list 1 (a.n_.Nodes.map rS), .list 7 (a.n_.Segments.map Segment.row), .list 3 (a.n_.Ports.map Port.row), .list 5 (a.n_.Stations.map Station.row), .V a.n_.Vapour, .V a.n_.Settle, .v w0_0, .v w0_1]], .us w0_0 3 1 (a.rates.map rI), .us w0_1 3 1 (a.ports.map rI), .arr E 52 4 1 [[.V 0, .V 0, .N, .V 0]], .arr F 52 4 1 [[.V e, .V 0, .v i, .V b.2.1]], .us i 107 2 (b.1.map Hop.row)]) ⟨(.slice none 0 0), I, I⟩ ⟨I, J⟩ ⟨[0, 1, 2, 3, 4, 5], I, by decide⟩ ?_
 rintro b au s ob ⟨i, rfl, rfl⟩ h av
 unfold L.zcho.B4 at h
 refine AW.block (AW.cutX (fun s ob => ∃ (aw : Unit), L.zcho.J5 a b aw = some au ∧ s = [] ∧ ob = [.arr w 141 8 1 [[.list 1 (a.n_.Nodes.map rS), .list 7 (a.n_.Segments.map Segment.row), .list 3 (a.n_.Ports.map Port.row), .list 5 (a.n_.Stations.map Station.row), .V a.n_.Vapour, .V a.n_.Settle, .v w0_0, .v w0_1]], .us w0_0 3 1 (a.rates.map rI), .us w0_1 3 1 (a.ports.map rI), .arr E 52 4 1 [[.V 0, .V 0, .N, .V 0]], .arr F 52 4 1 [[.V e, .V 0, .v i, .V b.2.1]], .us i 107 2 (b.1.map Hop.row)]) [(0, _), (1, _), (4, _), (5, _), (6, _)] ⟨I, I, I, I, I, J⟩ ?_ ?_)
 refine AW.zr [.o 4 0, .l 5 (a.n_.Ports.length : Int)] I ⟨len_m, I, J⟩ (AW.block (AW.lm 38 I (fun bh => ?_)))
 obtain ⟨c2, bi, ax⟩ := ob_some h
 clear h
 refine AW.forX bi [(0, _), (1, _), (4, _), (5, _), (6, _), (38, _), (39, _)] ⟨I, I, I, I, I, I, I, J⟩ (fun (M : Nat) (ay : Unit) s ob => s = [(40, .V (M : Int))] ∧ ob = [.arr w 141 8 1 [[.list 1 (a.n_.Nodes.map rS), .list 7 (a.n_.Segments.map Segment.row), .list 3 (a.n_.Ports.map Port.row), .list 5 (a.n_.Stations.map Station.row), .V a.n_.Vapour, .V a.n_.Settle, .v w0_0, .v w0_1]], .us w0_0 3 1 (a.rates.map rI), .us w0_1 3 1 (a.ports.map rI), .arr E 52 4 1 [[.V 0, .V 0, .N, .V 0]], .arr F 52 4 1 [[.V e, .V 0, .v i, .V b.2.1]], .us i 107 2 (b.1.map Hop.row)]) ⟨I, I⟩ ⟨I, J⟩ ⟨[0, 1, 2, 3, 4, 5], I, by decide⟩ ?_ ?_
 rintro M ah ay bj s ob bk az ⟨rfl, rfl⟩ h bl
 unfold L.zcho.B10 at h
 have bm := lt_t az
 refine AW.z I (AW.seqG (fun c3 bn => (AW.condK (v := true) I bm (AW.skip ?_))))
 subst bn
 refine AW.seq (AW.block (AW.seqG (fun c4 bo => (AW.region (AO.r 3 [.x 1 M (Port.row ah)] I ⟨⟨I, map_get bk⟩, J⟩ (AO.act [] I (AX.alloc (cs := [.v (.string ⟨#[]⟩), .V 0, .V 0]) (m := 3) I I I I I dS (fun c5 => (AO.q 1 I (AO.act [6] I (AX.st 6 0 0 [Port.row ah] I (AO.nil ?_))))))))))))
 subst bo
 refine AW.cutX (fun s ob => ∃ (ai : Bool), L.zcho.J11 a b M ai = some bj ∧ s = [(58, .v (.bool ai))] ∧ ob = [.arr w 141 8 1 [[.list 1 (a.n_.Nodes.map rS), .list 7 (a.n_.Segments.map Segment.row), .list 3 (a.n_.Ports.map Port.row), .list 5 (a.n_.Stations.map Station.row), .V a.n_.Vapour, .V a.n_.Settle, .v w0_0, .v w0_1]], .us w0_0 3 1 (a.rates.map rI), .us w0_1 3 1 (a.ports.map rI), .arr E 52 4 1 [[.V 0, .V 0, .N, .V 0]], .arr F 52 4 1 [[.V e, .V 0, .v i, .V b.2.1]], .us i 107 2 (b.1.map Hop.row)]) [(0, _), (1, _), (4, _), (5, _), (6, _), (7, _), (38, _), (39, _), (40, _)] ⟨I, I, I, I, I, I, I, I, I, J⟩ ?_ ?_
 refine AW.region (AO.r 5 [.o 1 6] I ⟨I, J⟩ ?_)
 rcases bt ((ah.Node == b.2.2)) with Z | Z
 replace h := ife_t Z h
 obtain ⟨ac, ⟨bp, a0⟩, h⟩ := ob_ix h
 refine AO.known 49 I Z (AO.r 5 [.o 3 0] I ⟨I, J⟩ (AO.gt I I I (AO.d (Yd.indexU 2 (m := ac.1) I I I I I I I bp (map_get a0)) I (AO.gt I I I (AO.d (Yd.loadU 2 ac.1 0 I I I (map_get a0) I (y := .V ac.2) I) I (AO.q 2 I (AO.nil ?_)))))))
 exact lg ⟨decide (ac.2 < 0), h, I, I⟩ [0, 1, 2, 3, 4, 5]
 replace h := ife_f Z h
 refine AO.known 49 I Z (AO.q 9 I (AO.nil ?_))
 exact lg ⟨false, h, I, I⟩ [0, 1, 2, 3, 4, 5]
 rintro s ob ⟨ai, h, rfl, rfl⟩
 unfold L.zcho.J11 at h
 refine AW.ch h I ?_ ?_
 intro bq h
 refine AW.seq ?_
 obtain ⟨S, ⟨br, aj⟩, h⟩ := ob_ix h
 refine AW.form 2 S.1 I aj (fun bs => (AW.rd (.still 0 (.still 1 (.still 3 (.still 4 (.still 5 (.still 6 (.still 7 (.still 8 (.still 9 (.still 10 (.act 2 (.still 11 (.still 12 (.act 13 (.still 14 (.act 15 .nil)))))))))))))))) [0, 2] [_, _] I (AP.r 7 [.o 5 0] I ⟨I, J⟩ (AP.op I (Yp.indexUf (m := S.1) I I I I I bs I br aj) I (AP.o I (Yd.loadU 1 S.1 0 I I I (map_get aj) I (y := .V S.2) I) I (AP.q 1 I (AP.act [] I I I (AX.of_yd (Yd.loadO 4 0 3 I I I I I (y := .V b.2.1) I) dS (AP.q 2 I (AP.act [4] I I I (AX.st 4 0 1 [[.V e, .V (M : Int), .v i, .V b.2.1]] I (AP.q 1 I (AP.act [4] I I I (AX.st 4 0 3 [[.V e, .V (M : Int), .v i, .V (min b.2.1 (wr (0 - S.2)))]] I (AP.ofAO (AO.nil ?_))))))))))))))))
 obtain rfl := bl _ (oi h).symm
 replace h := ax
 replace h := se_r h
 obtain rfl := av _ (oi h).symm
 replace h := ar
 refine AW.exit ?_
 exact lg ⟨((M : Int), b.1, (min b.2.1 (wr (0 - S.2)))), i, h, I, I⟩ [0, 1, 2, 3, 4, 5]
 intro bq h
 refine AW.skip (AW.region (AO.r 2 [.k 0 (M + 1 : Nat)] I ⟨cast_wr az bh, J⟩ ?_))
 obtain rfl := oi h
 refine AO.nil ?_
 exact ⟨_, _, _, I, ⟨I, I⟩, ⟨I, I, I, I, I, I, I, I, J⟩, [0, 1, 2, 3, 4, 5], I, by decide⟩
 rintro ay s ob ⟨rfl, rfl⟩ he
 subst he
 have h := se_l ax
 have bu := lt_f a.n_.Ports.length
 refine AW.z I (AW.seqG (fun c6 c7 => (AW.condK (v := false) I bu (AW.exit ?_))))
 exact lg ⟨(), h, I, I⟩ [0, 1, 2, 3, 4, 5]
 rintro s ob ⟨aw, h, rfl, rfl⟩
 unfold L.zcho.J5 at h
 refine AW.cutX (fun s ob => ∃ (a1 : Unit), L.zcho.J6 b a1 = some au ∧ s = [] ∧ ob = [.arr w 141 8 1 [[.list 1 (a.n_.Nodes.map rS), .list 7 (a.n_.Segments.map Segment.row), .list 3 (a.n_.Ports.map Port.row), .list 5 (a.n_.Stations.map Station.row), .V a.n_.Vapour, .V a.n_.Settle, .v w0_0, .v w0_1]], .us w0_0 3 1 (a.rates.map rI), .us w0_1 3 1 (a.ports.map rI), .arr E 52 4 1 [[.V 0, .V 0, .N, .V 0]], .arr F 52 4 1 [[.V e, .V 0, .v i, .V b.2.1]], .us i 107 2 (b.1.map Hop.row)]) [(0, _), (1, _), (4, _), (5, _)] ⟨I, I, I, I, J⟩ ?_ ?_
 refine AW.zr [.o 4 0, .l 5 (a.n_.Segments.length : Int)] I ⟨len_m, I, J⟩ (AW.block (AW.lm 78 I (fun bv => ?_)))
 obtain ⟨c8, bw, ak⟩ := ob_some h
 clear h
 refine AW.forX bw [(0, _), (1, _), (4, _), (5, _), (78, _), (79, _)] ⟨I, I, I, I, I, I, J⟩ (fun (A : Nat) (a2 : Unit) s ob => s = [(80, .V (A : Int)), (6, .V b.2.2)] ∧ ob = [.arr w 141 8 1 [[.list 1 (a.n_.Nodes.map rS), .list 7 (a.n_.Segments.map Segment.row), .list 3 (a.n_.Ports.map Port.row), .list 5 (a.n_.Stations.map Station.row), .V a.n_.Vapour, .V a.n_.Settle, .v w0_0, .v w0_1]], .us w0_0 3 1 (a.rates.map rI), .us w0_1 3 1 (a.ports.map rI), .arr E 52 4 1 [[.V 0, .V 0, .N, .V 0]], .arr F 52 4 1 [[.V e, .V 0, .v i, .V b.2.1]], .us i 107 2 (b.1.map Hop.row)]) ⟨I, I⟩ ⟨I, I, J⟩ ⟨[0, 1, 2, 3, 4, 5], I, by decide⟩ ?_ ?_
 rintro A O a2 a3 s ob bx a4 ⟨rfl, rfl⟩ h a5
 unfold L.zcho.B7 at h
 have b1 := lt_t a4
 refine AW.z I (AW.seqG (fun c9 b3 => (AW.condK (v := true) I b1 (AW.skip ?_))))
 subst b3
 refine AW.seq (AW.block (AW.seqG (fun da b4 => (AW.region (AO.r 3 [.x 1 A (Segment.row O)] I ⟨⟨I, map_get bx⟩, J⟩ (AO.act [] I (AX.alloc (cs := [.v (.string ⟨#[]⟩), .V 0, .V 0, .V 0, .V 0, .V 0, .N]) (m := 7) I I I I I dS (fun db => (AO.q 1 I (AO.act [6] I (AX.st 6 0 0 [Segment.row O] I (AO.nil ?_))))))))))))
 subst b4
 refine AW.seqG (fun dc b5 => ?_)
 obtain ⟨g, ⟨b7, al⟩, h⟩ := ob_ix h
 refine AW.form 1 g.1 I al (fun b8 => (AW.rd (pd 14 0 []) [6, 0, 1] [_, _, _] I (AP.r 9 [.o 1 0, .o 3 0, .o 7 1] I ⟨I, I, I, J⟩ (AP.op I (Yp.indexUf (m := g.1) I I I I I b8 I b7 al) I (AP.o I (Yd.loadU 2 g.1 0 I I I (map_get al) I (y := .V g.2) I) I (AP.q 3 I (AP.ofAO (AO.nil ?_))))))))
 subst b5
 refine AW.jb 102 (decide (g.2 > 0) && (O.From == b.2.2)) ?_ ?_
 refine AW.region (AO.q 3 I ?_)
 rcases bt (decide (g.2 > 0)) with aa | aa
 refine AO.known 98 I aa (AO.q 4 I (AO.nil ?_))
 exact jf (by simp only [aa, bz]) I I ⟨I, I⟩
 refine AO.known 98 I aa (AO.q 4 I (AO.nil ?_))
 exact jf (by simp only [aa, bz]) I I ⟨I, I⟩
 refine AW.ch h I ?_ ?_
 intro b9 h
 refine AW.cutX (fun s ob => ∃ (am : List Hop) (ad : Value), L.zcho.J8 b O g am = some a3 ∧ s = [(6, .V O.To)] ∧ ob = [.arr w 141 8 1 [[.list 1 (a.n_.Nodes.map rS), .list 7 (a.n_.Segments.map Segment.row), .list 3 (a.n_.Ports.map Port.row), .list 5 (a.n_.Stations.map Station.row), .V a.n_.Vapour, .V a.n_.Settle, .v w0_0, .v w0_1]], .us w0_0 3 1 (a.rates.map rI), .us w0_1 3 1 (a.ports.map rI), .arr E 52 4 1 [[.V 0, .V 0, .N, .V 0]], .arr F 52 4 1 [[.V e, .V 0, .v ad, .V (min b.2.1 g.2)]], .us ad 107 2 (am.map Hop.row)]) [(0, _), (1, _), (4, _), (5, _)] ⟨I, I, I, I, J⟩ ?_ ?_
 obtain ⟨ca, P, h⟩ := ob_some h
 refine AW.rd (.still 0 (.still 2 (.still 3 (.still 6 (.still 8 (.still 10 (.three 1 4 7 (.two 4 7 (.two 5 7 (.act 7 (.still 9 (.still 11 (.act 12 (.still 13 (.act 14 (.still 15 .nil))))))) (.still 9 (.act 5 (.still 11 (.act 12 (.still 13 (.act 14 (.still 15 .nil)))))))) (.still 9 (.act 4 (.act 5 (.still 11 (.act 12 (.still 13 (.act 14 (.still 15 .nil))))))))) (.two 1 7 (.two 5 7 (.act 7 (.still 9 (.still 11 (.act 12 (.still 13 (.act 14 (.still 15 .nil))))))) (.still 9 (.act 5 (.still 11 (.act 12 (.still 13 (.act 14 (.still 15 .nil)))))))) (.still 9 (.act 1 (.act 5 (.still 11 (.act 12 (.still 13 (.act 14 (.still 15 .nil))))))))) (.still 9 (.two 1 4 (.act 4 (.act 5 (.still 11 (.act 12 (.still 13 (.act 14 (.still 15 .nil))))))) (.act 1 (.act 5 (.still 11 (.act 12 (.still 13 (.act 14 (.still 15 .nil)))))))))))))))) [] [] I (AP.q 2 I (AP.op I (Yp.buildP (l := [.V (A : Int), .v (.bool false)]) Tryz.bld107 I) I (AP.q 3 I (AP.three ?_ ?_ ?_))))
 refine AP.act [] I I I (AX.of_yd (Yd.loadO 4 0 2 I I I I I (y := .v i) I) dS (AP.two ?_ ?_))
 refine AP.act [] I I I (AX.lt 2 (([(⟨(A : Int), false⟩ : Hop)] : List Hop).map Hop.row) (AP.two ?_ ?_))
 refine AP.act [5] I I I (AX.ap 5 I P (fun n => (AP.act [] I I I (AX.of_yd (Yd.loadO 4 0 3 I I I I I (y := .V b.2.1) I) dS (AP.q 2 I (AP.one 5 I (fun B => (AP.act [4] I I I (AX.store 4 0 2 (es' := [[.V e, .V 0, .v n, .V b.2.1]]) I I I I I I (cells_v B) I (le_ble I) I I (AP.q 1 I (AP.act [4] I I I (AX.st 4 0 3 [[.V e, .V 0, .v n, .V (min b.2.1 g.2)]] I (AP.q 1 I (AP.ofAO (AO.nil ?_)))))))))))))))
 rotate_left
 refine AP.act [] I I I (AX.of_yd (Yd.loadO 4 0 3 I I I I I (y := .V b.2.1) I) dS (AP.q 1 I (AP.act [5] I I I (AX.ap 5 I P (fun n => (AP.q 1 I (AP.one 5 I (fun B => (AP.act [4] I I I (AX.store 4 0 2 (es' := [[.V e, .V 0, .v n, .V b.2.1]]) I I I I I I (cells_v B) I (le_ble I) I I (AP.q 1 I (AP.act [4] I I I (AX.st 4 0 3 [[.V e, .V 0, .v n, .V (min b.2.1 g.2)]] I (AP.q 1 I (AP.ofAO (AO.nil ?_))))))))))))))))
 rotate_left
 refine AP.act [] I I I (AX.of_yd (Yd.loadO 4 0 3 I I I I I (y := .V b.2.1) I) dS (AP.q 1 I (AP.act [] I I I (AX.lt 2 (([(⟨(A : Int), false⟩ : Hop)] : List Hop).map Hop.row) (AP.act [5] I I I (AX.ap 5 I P (fun n => (AP.q 1 I (AP.one 5 I (fun B => (AP.act [4] I I I (AX.store 4 0 2 (es' := [[.V e, .V 0, .v n, .V b.2.1]]) I I I I I I (cells_v B) I (le_ble I) I I (AP.q 1 I (AP.act [4] I I I (AX.st 4 0 3 [[.V e, .V 0, .v n, .V (min b.2.1 g.2)]] I (AP.q 1 I (AP.ofAO (AO.nil ?_))))))))))))))))))
 rotate_left
 refine AP.act [] I I I (AX.lt 2 (([(⟨(A : Int), false⟩ : Hop)] : List Hop).map Hop.row) (AP.two ?_ ?_))
 refine AP.act [] I I I (AX.of_yd (Yd.loadO 4 0 2 I I I I I (y := .v i) I) dS (AP.two ?_ ?_))
 refine AP.act [5] I I I (AX.ap 5 I P (fun n => (AP.act [] I I I (AX.of_yd (Yd.loadO 4 0 3 I I I I I (y := .V b.2.1) I) dS (AP.q 2 I (AP.one 5 I (fun B => (AP.act [4] I I I (AX.store 4 0 2 (es' := [[.V e, .V 0, .v n, .V b.2.1]]) I I I I I I (cells_v B) I (le_ble I) I I (AP.q 1 I (AP.act [4] I I I (AX.st 4 0 3 [[.V e, .V 0, .v n, .V (min b.2.1 g.2)]] I (AP.q 1 I (AP.ofAO (AO.nil ?_)))))))))))))))
 rotate_left
 refine AP.act [] I I I (AX.of_yd (Yd.loadO 4 0 3 I I I I I (y := .V b.2.1) I) dS (AP.q 1 I (AP.act [5] I I I (AX.ap 5 I P (fun n => (AP.q 1 I (AP.one 5 I (fun B => (AP.act [4] I I I (AX.store 4 0 2 (es' := [[.V e, .V 0, .v n, .V b.2.1]]) I I I I I I (cells_v B) I (le_ble I) I I (AP.q 1 I (AP.act [4] I I I (AX.st 4 0 3 [[.V e, .V 0, .v n, .V (min b.2.1 g.2)]] I (AP.q 1 I (AP.ofAO (AO.nil ?_))))))))))))))))
 rotate_left
 refine AP.act [] I I I (AX.of_yd (Yd.loadO 4 0 3 I I I I I (y := .V b.2.1) I) dS (AP.q 1 I (AP.act [] I I I (AX.of_yd (Yd.loadO 4 0 2 I I I I I (y := .v i) I) dS (AP.act [5] I I I (AX.ap 5 I P (fun n => (AP.q 1 I (AP.one 5 I (fun B => (AP.act [4] I I I (AX.store 4 0 2 (es' := [[.V e, .V 0, .v n, .V b.2.1]]) I I I I I I (cells_v B) I (le_ble I) I I (AP.q 1 I (AP.act [4] I I I (AX.st 4 0 3 [[.V e, .V 0, .v n, .V (min b.2.1 g.2)]] I (AP.q 1 I (AP.ofAO (AO.nil ?_))))))))))))))))))
 rotate_left
 refine AP.act [] I I I (AX.of_yd (Yd.loadO 4 0 3 I I I I I (y := .V b.2.1) I) dS (AP.q 1 I (AP.two ?_ ?_)))
 refine AP.act [] I I I (AX.of_yd (Yd.loadO 4 0 2 I I I I I (y := .v i) I) dS (AP.act [] I I I (AX.lt 2 (([(⟨(A : Int), false⟩ : Hop)] : List Hop).map Hop.row) (AP.act [5] I I I (AX.ap 5 I P (fun n => (AP.q 1 I (AP.one 5 I (fun B => (AP.act [4] I I I (AX.store 4 0 2 (es' := [[.V e, .V 0, .v n, .V b.2.1]]) I I I I I I (cells_v B) I (le_ble I) I I (AP.q 1 I (AP.act [4] I I I (AX.st 4 0 3 [[.V e, .V 0, .v n, .V (min b.2.1 g.2)]] I (AP.q 1 I (AP.ofAO (AO.nil ?_)))))))))))))))))
 rotate_left
 refine AP.act [] I I I (AX.lt 2 (([(⟨(A : Int), false⟩ : Hop)] : List Hop).map Hop.row) (AP.act [] I I I (AX.of_yd (Yd.loadO 4 0 2 I I I I I (y := .v i) I) dS (AP.act [5] I I I (AX.ap 5 I P (fun n => (AP.q 1 I (AP.one 5 I (fun B => (AP.act [4] I I I (AX.store 4 0 2 (es' := [[.V e, .V 0, .v n, .V b.2.1]]) I I I I I I (cells_v B) I (le_ble I) I I (AP.q 1 I (AP.act [4] I I I (AX.st 4 0 3 [[.V e, .V 0, .v n, .V (min b.2.1 g.2)]] I (AP.q 1 I (AP.ofAO (AO.nil ?_)))))))))))))))))
 any_goals
  exact lg ⟨ca, n, h, I, I⟩ [0, 1, 2, 3, 4, 5]
 rintro s ob ⟨am, ad, h, rfl, rfl⟩
 unfold L.zcho.J8 at h
 obtain rfl := a5 _ (oi h).symm
 replace h := ak
 replace h := se_r h
 obtain rfl := oi h
 refine AW.exit ?_
 exact ⟨_, _, _, I, ⟨ad, I, I⟩, ⟨I, I, I, I, I, J⟩, [0, 1, 2, 3, 4, 5], I, by decide⟩
 intro b9 h
 refine AW.jb 122 (decide (g.2 < 0) && (O.To == b.2.2)) ?_ ?_
 refine AW.region (AO.q 3 I ?_)
 rcases bt (decide (g.2 < 0)) with ab | ab
 refine AO.known 118 I ab (AO.q 4 I (AO.nil ?_))
 exact jf (by simp only [ab, bz]) I I ⟨I, I⟩
 refine AO.known 118 I ab (AO.q 4 I (AO.nil ?_))
 exact jf (by simp only [ab, bz]) I I ⟨I, I⟩
 refine AW.ch h I ?_ ?_
 intro cb h
 refine AW.cutX (fun s ob => ∃ (an : List Hop) (ae : Value), L.zcho.J9 b O g an = some a3 ∧ s = [(6, .V O.From)] ∧ ob = [.arr w 141 8 1 [[.list 1 (a.n_.Nodes.map rS), .list 7 (a.n_.Segments.map Segment.row), .list 3 (a.n_.Ports.map Port.row), .list 5 (a.n_.Stations.map Station.row), .V a.n_.Vapour, .V a.n_.Settle, .v w0_0, .v w0_1]], .us w0_0 3 1 (a.rates.map rI), .us w0_1 3 1 (a.ports.map rI), .arr E 52 4 1 [[.V 0, .V 0, .N, .V 0]], .arr F 52 4 1 [[.V e, .V 0, .v ae, .V (min b.2.1 (wr (0 - g.2)))]], .us ae 107 2 (an.map Hop.row)]) [(0, _), (1, _), (4, _), (5, _)] ⟨I, I, I, I, J⟩ ?_ ?_
 obtain ⟨cc, Q, h⟩ := ob_some h
 refine AW.rd (.still 0 (.still 2 (.still 3 (.still 6 (.still 8 (.still 9 (.still 11 (.three 1 4 7 (.two 4 7 (.two 5 7 (.act 7 (.still 10 (.still 12 (.act 13 (.still 14 (.act 15 (.still 16 .nil))))))) (.still 10 (.act 5 (.still 12 (.act 13 (.still 14 (.act 15 (.still 16 .nil)))))))) (.still 10 (.act 4 (.act 5 (.still 12 (.act 13 (.still 14 (.act 15 (.still 16 .nil))))))))) (.two 1 7 (.two 5 7 (.act 7 (.still 10 (.still 12 (.act 13 (.still 14 (.act 15 (.still 16 .nil))))))) (.still 10 (.act 5 (.still 12 (.act 13 (.still 14 (.act 15 (.still 16 .nil)))))))) (.still 10 (.act 1 (.act 5 (.still 12 (.act 13 (.still 14 (.act 15 (.still 16 .nil))))))))) (.still 10 (.two 1 4 (.act 4 (.act 5 (.still 12 (.act 13 (.still 14 (.act 15 (.still 16 .nil))))))) (.act 1 (.act 5 (.still 12 (.act 13 (.still 14 (.act 15 (.still 16 .nil))))))))))))))))) [] [] I (AP.q 2 I (AP.op I (Yp.buildP (l := [.V (A : Int), .v (.bool true)]) Tryz.bld107 I) I (AP.q 4 I (AP.three ?_ ?_ ?_))))
 refine AP.act [] I I I (AX.of_yd (Yd.loadO 4 0 2 I I I I I (y := .v i) I) dS (AP.two ?_ ?_))
 refine AP.act [] I I I (AX.lt 2 (([(⟨(A : Int), true⟩ : Hop)] : List Hop).map Hop.row) (AP.two ?_ ?_))
 refine AP.act [5] I I I (AX.ap 5 I Q (fun t => (AP.act [] I I I (AX.of_yd (Yd.loadO 4 0 3 I I I I I (y := .V b.2.1) I) dS (AP.q 2 I (AP.one 5 I (fun D => (AP.act [4] I I I (AX.store 4 0 2 (es' := [[.V e, .V 0, .v t, .V b.2.1]]) I I I I I I (cells_v D) I (le_ble I) I I (AP.q 1 I (AP.act [4] I I I (AX.st 4 0 3 [[.V e, .V 0, .v t, .V (min b.2.1 (wr (0 - g.2)))]] I (AP.q 1 I (AP.ofAO (AO.nil ?_)))))))))))))))
 rotate_left
 refine AP.act [] I I I (AX.of_yd (Yd.loadO 4 0 3 I I I I I (y := .V b.2.1) I) dS (AP.q 1 I (AP.act [5] I I I (AX.ap 5 I Q (fun t => (AP.q 1 I (AP.one 5 I (fun D => (AP.act [4] I I I (AX.store 4 0 2 (es' := [[.V e, .V 0, .v t, .V b.2.1]]) I I I I I I (cells_v D) I (le_ble I) I I (AP.q 1 I (AP.act [4] I I I (AX.st 4 0 3 [[.V e, .V 0, .v t, .V (min b.2.1 (wr (0 - g.2)))]] I (AP.q 1 I (AP.ofAO (AO.nil ?_))))))))))))))))
 rotate_left
 refine AP.act [] I I I (AX.of_yd (Yd.loadO 4 0 3 I I I I I (y := .V b.2.1) I) dS (AP.q 1 I (AP.act [] I I I (AX.lt 2 (([(⟨(A : Int), true⟩ : Hop)] : List Hop).map Hop.row) (AP.act [5] I I I (AX.ap 5 I Q (fun t => (AP.q 1 I (AP.one 5 I (fun D => (AP.act [4] I I I (AX.store 4 0 2 (es' := [[.V e, .V 0, .v t, .V b.2.1]]) I I I I I I (cells_v D) I (le_ble I) I I (AP.q 1 I (AP.act [4] I I I (AX.st 4 0 3 [[.V e, .V 0, .v t, .V (min b.2.1 (wr (0 - g.2)))]] I (AP.q 1 I (AP.ofAO (AO.nil ?_))))))))))))))))))
 rotate_left
 refine AP.act [] I I I (AX.lt 2 (([(⟨(A : Int), true⟩ : Hop)] : List Hop).map Hop.row) (AP.two ?_ ?_))
 refine AP.act [] I I I (AX.of_yd (Yd.loadO 4 0 2 I I I I I (y := .v i) I) dS (AP.two ?_ ?_))
 refine AP.act [5] I I I (AX.ap 5 I Q (fun t => (AP.act [] I I I (AX.of_yd (Yd.loadO 4 0 3 I I I I I (y := .V b.2.1) I) dS (AP.q 2 I (AP.one 5 I (fun D => (AP.act [4] I I I (AX.store 4 0 2 (es' := [[.V e, .V 0, .v t, .V b.2.1]]) I I I I I I (cells_v D) I (le_ble I) I I (AP.q 1 I (AP.act [4] I I I (AX.st 4 0 3 [[.V e, .V 0, .v t, .V (min b.2.1 (wr (0 - g.2)))]] I (AP.q 1 I (AP.ofAO (AO.nil ?_)))))))))))))))
 rotate_left
 refine AP.act [] I I I (AX.of_yd (Yd.loadO 4 0 3 I I I I I (y := .V b.2.1) I) dS (AP.q 1 I (AP.act [5] I I I (AX.ap 5 I Q (fun t => (AP.q 1 I (AP.one 5 I (fun D => (AP.act [4] I I I (AX.store 4 0 2 (es' := [[.V e, .V 0, .v t, .V b.2.1]]) I I I I I I (cells_v D) I (le_ble I) I I (AP.q 1 I (AP.act [4] I I I (AX.st 4 0 3 [[.V e, .V 0, .v t, .V (min b.2.1 (wr (0 - g.2)))]] I (AP.q 1 I (AP.ofAO (AO.nil ?_))))))))))))))))
 rotate_left
 refine AP.act [] I I I (AX.of_yd (Yd.loadO 4 0 3 I I I I I (y := .V b.2.1) I) dS (AP.q 1 I (AP.act [] I I I (AX.of_yd (Yd.loadO 4 0 2 I I I I I (y := .v i) I) dS (AP.act [5] I I I (AX.ap 5 I Q (fun t => (AP.q 1 I (AP.one 5 I (fun D => (AP.act [4] I I I (AX.store 4 0 2 (es' := [[.V e, .V 0, .v t, .V b.2.1]]) I I I I I I (cells_v D) I (le_ble I) I I (AP.q 1 I (AP.act [4] I I I (AX.st 4 0 3 [[.V e, .V 0, .v t, .V (min b.2.1 (wr (0 - g.2)))]] I (AP.q 1 I (AP.ofAO (AO.nil ?_))))))))))))))))))
 rotate_left
 refine AP.act [] I I I (AX.of_yd (Yd.loadO 4 0 3 I I I I I (y := .V b.2.1) I) dS (AP.q 1 I (AP.two ?_ ?_)))
 refine AP.act [] I I I (AX.of_yd (Yd.loadO 4 0 2 I I I I I (y := .v i) I) dS (AP.act [] I I I (AX.lt 2 (([(⟨(A : Int), true⟩ : Hop)] : List Hop).map Hop.row) (AP.act [5] I I I (AX.ap 5 I Q (fun t => (AP.q 1 I (AP.one 5 I (fun D => (AP.act [4] I I I (AX.store 4 0 2 (es' := [[.V e, .V 0, .v t, .V b.2.1]]) I I I I I I (cells_v D) I (le_ble I) I I (AP.q 1 I (AP.act [4] I I I (AX.st 4 0 3 [[.V e, .V 0, .v t, .V (min b.2.1 (wr (0 - g.2)))]] I (AP.q 1 I (AP.ofAO (AO.nil ?_)))))))))))))))))
 rotate_left
 refine AP.act [] I I I (AX.lt 2 (([(⟨(A : Int), true⟩ : Hop)] : List Hop).map Hop.row) (AP.act [] I I I (AX.of_yd (Yd.loadO 4 0 2 I I I I I (y := .v i) I) dS (AP.act [5] I I I (AX.ap 5 I Q (fun t => (AP.q 1 I (AP.one 5 I (fun D => (AP.act [4] I I I (AX.store 4 0 2 (es' := [[.V e, .V 0, .v t, .V b.2.1]]) I I I I I I (cells_v D) I (le_ble I) I I (AP.q 1 I (AP.act [4] I I I (AX.st 4 0 3 [[.V e, .V 0, .v t, .V (min b.2.1 (wr (0 - g.2)))]] I (AP.q 1 I (AP.ofAO (AO.nil ?_)))))))))))))))))
 any_goals
  exact lg ⟨cc, t, h, I, I⟩ [0, 1, 2, 3, 4, 5]
 rintro s ob ⟨an, ae, h, rfl, rfl⟩
 unfold L.zcho.J9 at h
 obtain rfl := a5 _ (oi h).symm
 replace h := ak
 replace h := se_r h
 obtain rfl := oi h
 refine AW.exit ?_
 exact ⟨_, _, _, I, ⟨ae, I, I⟩, ⟨I, I, I, I, I, J⟩, [0, 1, 2, 3, 4, 5], I, by decide⟩
 intro cb h
 refine AW.skip (AW.region (AO.r 2 [.k 0 (A + 1 : Nat)] I ⟨cast_wr a4 bv, J⟩ ?_))
 obtain rfl := oi h
 refine AO.nil ?_
 exact ⟨_, _, _, I, ⟨I, I⟩, ⟨I, I, I, I, I, I, I, I, J⟩, [0, 1, 2, 3, 4, 5], I, by decide⟩
 rintro a2 s ob ⟨rfl, rfl⟩ he
 subst he
 have h := se_l ak
 have cd := lt_f a.n_.Segments.length
 refine AW.z I (AW.seqG (fun dd de => (AW.condK (v := false) I cd (AW.exit ?_))))
 exact lg ⟨(), h, I, I⟩ [0, 1, 2, 3, 4, 5]
 rintro s ob ⟨a1, h, rfl, rfl⟩
 unfold L.zcho.J6 at h
 obtain rfl := av _ (oi h).symm
 replace h := ar
 refine AW.exit ?_
 exact lg ⟨(0, b.1, b.2.1), i, h, I, I⟩ [0, 1, 2, 3, 4, 5]
 rintro s ob ⟨f, G, h, rfl, rfl⟩
 unfold L.zcho.J1 at h
 refine AW.seqG (fun df ce => (AW.form 2 j.1 I H (fun cf => (AW.form 2 j.1 I H (fun cg => (AW.rd (.still 0 (.still 1 (.still 2 (.still 3 (.still 4 (.still 5 (.still 6 (.still 7 (.still 8 (.still 9 (.still 10 (.drop 11 .nil)))))))))))) [0, 2, 4] [_, _, _] I (AP.r 5 [.o 3 0] I ⟨I, J⟩ (AP.op I (Yp.indexUf (m := j.1) I I I I I cf I ag H) I (AP.o I (Yd.loadU 1 j.1 0 I I I (map_get H) I (y := .V j.2) I) I (AP.r 3 [.o 1 2] I ⟨I, J⟩ (AP.op I (Yp.indexUf (m := j.1) I I I I I cg I ag H) I (AP.drop [2] I I I (AX.storeU 2 j.1 0 I I I (map_get H) I I I I (le_ble I) I (us_set (x := wr (j.2 - f.2.2)) I) (AP.ofAO (AO.nil ?_)))))))))))))))
 subst ce
 refine AW.seqG (fun dg ci => ?_)
 obtain ⟨u, ⟨a6, U⟩, h⟩ := ob_ix h
 refine AW.form 2 u.1 I U (fun cj => (AW.form 2 u.1 I U (fun ck => (AW.rd (.still 0 (.still 1 (.still 2 (.still 3 (.still 4 (.still 5 (.still 6 (.still 7 (.still 8 (.still 9 (.still 10 (.still 11 (.drop 12 .nil))))))))))))) [0, 4, 2] [_, _, _] I (AP.r 6 [.o 3 0, .o 5 1] I ⟨I, I, J⟩ (AP.op I (Yp.indexUf (m := u.1) I I I I I cj I a6 U) I (AP.o I (Yd.loadU 2 u.1 0 I I I (map_get U) I (y := .V u.2) I) I (AP.r 3 [.o 1 1] I ⟨I, J⟩ (AP.op I (Yp.indexUf (m := u.1) I I I I I ck I a6 U) I (AP.drop [2] I I I (AX.storeU 2 u.1 0 I I I (map_get U) I I I I (le_ble I) I (us_set (x := wr (u.2 + f.2.2)) I) (AP.ofAO (AO.nil ?_)))))))))))))
 subst ci
 refine AW.cutX (fun s ob => ∃ (W : List Int), L.zcho.J2 a e j f u W = some r ∧ s = [] ∧ ob = [.arr w 141 8 1 [[.list 1 (a.n_.Nodes.map rS), .list 7 (a.n_.Segments.map Segment.row), .list 3 (a.n_.Ports.map Port.row), .list 5 (a.n_.Stations.map Station.row), .V a.n_.Vapour, .V a.n_.Settle, .v w0_0, .v w0_1]], .us w0_0 3 1 (W.map rI), .us w0_1 3 1 (((a.ports.set j.1 (wr (j.2 - f.2.2))).set u.1 (wr (u.2 + f.2.2))).map rI), .arr E 52 4 1 [[.V 0, .V 0, .N, .V 0]], .arr F 52 4 1 [[.V e, .V f.1, .v G, .V f.2.2]], .us G 107 2 (f.2.1.map Hop.row)]) [(4, _), (5, _)] ⟨I, I, J⟩ ?_ ?_
 refine AW.seqG (fun dh cl => (AW.region (AO.r 2 [.o 1 4] I ⟨I, J⟩ (AO.d (Yd.lenUM 5 I I I I) I (AO.q 1 I (AO.nil ?_))))))
 subst cl
 refine AW.block (AW.um 5 I (fun cm => ?_))
 obtain ⟨di, cn, co⟩ := ob_some h
 clear h
 refine AW.forJY cn [(0, _), (4, _), (5, _), (162, _), (163, _)] ⟨I, I, I, I, I, J⟩ (fun (ao : Nat) (af : List Int) s ob => s = [(164, .V (ao : Int))] ∧ ob = [.arr w 141 8 1 [[.list 1 (a.n_.Nodes.map rS), .list 7 (a.n_.Segments.map Segment.row), .list 3 (a.n_.Ports.map Port.row), .list 5 (a.n_.Stations.map Station.row), .V a.n_.Vapour, .V a.n_.Settle, .v w0_0, .v w0_1]], .us w0_0 3 1 (af.map rI), .us w0_1 3 1 (((a.ports.set j.1 (wr (j.2 - f.2.2))).set u.1 (wr (u.2 + f.2.2))).map rI), .arr E 52 4 1 [[.V 0, .V 0, .N, .V 0]], .arr F 52 4 1 [[.V e, .V f.1, .v G, .V f.2.2]], .us G 107 2 (f.2.1.map Hop.row)]) ⟨I, I⟩ ⟨I, J⟩ ⟨[0, 1, 2, 3, 4, 5], I, by decide⟩ ?_ ?_
 rintro ao af dj s ob a7 ⟨rfl, rfl⟩ h
 unfold L.zcho.B3 at h
 have cp := lt_t a7
 refine AW.z I (AW.seqG (fun dk cq => (AW.condK (v := true) I cp (AW.skip ?_))))
 subst cq
 refine AW.seq (AW.block (AW.seqG (fun dl cr => ?_)))
 obtain ⟨X, ⟨ct, a8⟩, h⟩ := ob_ix h
 refine AW.region (AO.d (Yd.indexU 5 (m := X.1) I I I I I I I ct (map_get a8)) I (AO.d (Yd.loadU 5 X.1 0 I I I (map_get a8) I (y := .agg (Hop.row X.2)) I) I (AO.act [] I (AX.alloc (cs := [.V 0, .v (.bool false)]) (m := 2) I I I I I dS (fun dm => (AO.act [6] I (AX.st 6 0 0 [Hop.row X.2] I (AO.nil ?_))))))))
 subst cr
 obtain ⟨R, ⟨a9, Y⟩, h⟩ := ob_ix h
 refine AW.form 1 R.1 I Y (fun cu => (AW.form 1 R.1 I Y (fun cv => (AW.rd (.still 0 (.still 1 (.still 2 (.still 3 (.still 4 (.still 5 (.still 6 (.still 7 (.still 8 (.still 9 (.still 10 (.act 11 (.still 12 (.still 13 (.drop 14 .nil))))))))))))))) [0, 6, 1, 4] [_, _, _, _] I (AP.r 6 [.o 3 0, .o 5 1] I ⟨I, I, J⟩ (AP.op I (Yp.indexUf (m := R.1) I I I I I cu I a9 Y) I (AP.o I (Yd.loadU 2 R.1 0 I I I (map_get Y) I (y := .V R.2) I) I (AP.r 3 [.o 0 1, .o 2 3] I ⟨I, I, J⟩ (AP.c I (L.zqxx_ok X.2 f.2.2 _ I) (AP.q 1 I (AP.op I (Yp.indexUf (m := R.1) I I I I I cv I a9 Y) I (AP.drop [1] I I I (AX.storeU 1 R.1 0 I I I (map_get Y) I I I I (le_ble I) I (us_set (x := wr (R.2 - (L.zqxx X.2 f.2.2))) I) (AP.ofAO (AO.nil ?_)))))))))))))))
 refine AW.region (AO.r 2 [.k 0 (ao + 1 : Nat)] I ⟨cast_wr a7 cm, J⟩ ?_)
 obtain rfl := oi h
 refine AO.nil ?_
 exact lg ⟨I, I⟩ [0, 1, 2, 3, 4, 5]
 rintro af s ob ⟨rfl, rfl⟩ he
 subst he
 have h := co
 have cw := lt_f f.2.1.length
 refine AW.z I (AW.seqG (fun dn dp => (AW.condK (v := false) I cw (AW.exit ?_))))
 exact lg ⟨af, h, I, I⟩ [0, 1, 2, 3, 4, 5]
 rintro s ob ⟨W, h, rfl, rfl⟩
 unfold L.zcho.J2 at h
 refine AW.seq (AW.region (AO.r 1 [.o 0 4] I ⟨I, J⟩ (AO.act [3] I (AX.st 3 0 0 [[.V e, .V f.1, .v G, .V f.2.2]] I (AO.nil (AW.ghost (Ghost.freeze [5] (K := [.us G 107 2 (f.2.1.map Hop.row)]) I [] J (ob' := [.arr w 141 8 1 [[.list 1 (a.n_.Nodes.map rS), .list 7 (a.n_.Segments.map Segment.row), .list 3 (a.n_.Ports.map Port.row), .list 5 (a.n_.Stations.map Station.row), .V a.n_.Vapour, .V a.n_.Settle, .v w0_0, .v w0_1]], .us w0_0 3 1 (W.map rI), .us w0_1 3 1 (((a.ports.set j.1 (wr (j.2 - f.2.2))).set u.1 (wr (u.2 + f.2.2))).map rI), .arr E 52 4 1 [[.V e, .V f.1, .list 2 (f.2.1.map Hop.row), .V f.2.2]], .arr F 52 4 1 [[.V e, .V f.1, .v G, .V f.2.2]]]) (.cons (.same _) (.cons (.same _) (.cons (.same _) (.cons (.arr (.cons (.refl _) (.cons (.refl _) (.cons (.us 0 I) (.rest _))))) (.rest _)))))) (AW.gp [0, 1, 2, 3] I ?_)))))))
 obtain rfl := oi h
 exact AW.ret ⟨.inr I, [_], [.arr w 141 8 1 [[.list 1 (a.n_.Nodes.map rS), .list 7 (a.n_.Segments.map Segment.row), .list 3 (a.n_.Ports.map Port.row), .list 5 (a.n_.Stations.map Station.row), .V a.n_.Vapour, .V a.n_.Settle, .v w0_0, .v w0_1]], .us w0_0 3 1 (W.map rI), .us w0_1 3 1 (((a.ports.set j.1 (wr (j.2 - f.2.2))).set u.1 (wr (u.2 + f.2.2))).map rI)], ⟨⟨3, _, _, _, _, _, _, _, I, I, I, I, I⟩, J⟩, sl_c I (sl_c I (sl_c I (sl_n))), ⟨[.arr w 141 8 1 [[.list 1 (a.n_.Nodes.map rS), .list 7 (a.n_.Segments.map Segment.row), .list 3 (a.n_.Ports.map Port.row), .list 5 (a.n_.Stations.map Station.row), .V a.n_.Vapour, .V a.n_.Settle, .v w0_0, .v w0_1]], .us w0_0 3 1 (W.map rI), .us w0_1 3 1 (((a.ports.set j.1 (wr (j.2 - f.2.2))).set u.1 (wr (u.2 + f.2.2))).map rI)], [], I, I, w0_0, w0_1, I, I, I⟩⟩
theorem L.zxps_ok (b : Network) (K : Plan) (r : (List Path) × Int) (h : L.zxps b K = some r) : ACalls Tryz.env 48 [.agg (Network.row b), .agg (Plan.row K)] [] (fun x new => ∃ (R : Value), x = .tup [.v R, .V r.2] ∧ new = [.us R 52 4 (r.1.map Path.row)]) := by
 refine ACalls.of_body Tryz.func48 rfl rfl rfl (fun C hC => ?_)
 unfold L.zxps at h
 refine AW.seqG (fun y1 Z => (AW.region (AO.act [] I (AX.box (cs := Network.row b) (m := 6) I I I dS (fun b2 => (AO.act [] I (AX.box (cs := Plan.row K) (m := 3) I I I dS (fun b3 => (AO.q 2 I (AO.nil ?_))))))))))
 subst Z
 refine AW.seqG (fun y4 aa => (AW.seq ?_))
 obtain ⟨r5, ab, h⟩ := ob_some h
 refine AW.region (AO.r 1 [.o 0 0] I ⟨I, J⟩ (AO.c (L.zfta_ok _ _ ab) (AO.q 1 I (AO.nil (AW.z I (AW.ch h I ?_ ?_))))))
 intro ac h
 refine AW.z I (AW.ghost (Ghost.nilU 52 4) (AW.gp [2] I ?_))
 obtain rfl := oi h
 exact AW.ret ⟨.inr I, [_, _], [.us (.slice none 0 0) 52 4 ([].map Path.row)], ⟨I, I, J⟩, sl_c I (sl_n), ⟨(.slice none 0 0), I, I⟩⟩
 intro ac h
 refine AW.skip ?_
 subst aa
 refine AW.seqG (fun y8 ad => (AW.seq ?_))
 obtain ⟨r9, ae, h⟩ := ob_some h
 refine AW.region (AO.r 2 [.o 0 0, .o 1 1] I ⟨I, I, J⟩ (AO.c (L.zmqu_ok _ _ _ ae) (AO.q 1 I (AO.nil (AW.z I (AW.ch h I ?_ ?_))))))
 intro af h
 refine AW.z I (AW.ghost (Ghost.nilU 52 4) (AW.gp [2] I ?_))
 obtain rfl := oi h
 exact AW.ret ⟨.inr I, [_, _], [.us (.slice none 0 0) 52 4 ([].map Path.row)], ⟨I, I, J⟩, sl_c I (sl_n), ⟨(.slice none 0 0), I, I⟩⟩
 intro af h
 refine AW.skip ?_
 subst ad
 refine AW.seqG (fun bf ag => ?_)
 obtain ⟨bg, ah, h⟩ := ob_some h
 obtain ⟨ai, aj, h⟩ := ob_some h
 refine AW.rd (.still 0 (.still 1 (.still 2 (.still 4 (.still 5 (.act 3 (.act 6 (.still 7 (.act 8 (.still 9 .nil)))))))))) [0, 1] [_, _] I (AP.r 5 [.o 0 0, .o 2 1, .o 4 1] I ⟨I, I, I, J⟩ (AP.act [] I I I (AX.call0 I I I (L.zvxi_ok _ _ ah) dS ?_)))
 rintro _ _ ⟨M, rfl, rfl⟩
 refine AP.act [] I I I (AX.call0 I I I (L.zvxi_ok _ _ aj) dS ?_)
 rintro _ _ ⟨O, rfl, rfl⟩
 refine AP.one 2 I (fun ak => (AP.one 3 I (fun al => (AP.p I (Yp.buildP (l := [.list 1 (b.Nodes.map rS), .list 7 (b.Segments.map Segment.row), .list 3 (b.Ports.map Port.row), .list 5 (b.Stations.map Station.row), .V b.Vapour, .V b.Settle, .v M, .v O]) Tryz.bld141 (fill_step I I I I (fill_step I I (cells_v ak) I (fill_step I I (cells_v al) I (fill_nil))))) I (AP.act [] I I I (AX.box (cs := [.list 1 (b.Nodes.map rS), .list 7 (b.Segments.map Segment.row), .list 3 (b.Ports.map Port.row), .list 5 (b.Stations.map Station.row), .V b.Vapour, .V b.Settle, .v M, .v O]) (m := 8) I I I dS (fun A => (AP.q 1 I (AP.ofAO (AO.nil ?_))))))))))
 subst ag
 refine AW.z I (AW.cutX (fun s ob => ∃ (B : List Path) (i : Value), L.zxps.J1 B = some r ∧ s = [(9, .v i)] ∧ ob = [.us i 52 4 (B.map Path.row)]) [] J ?_ ?_)
 refine AW.seqG (fun bh am => (AW.region (AO.r 4 [.o 3 4] I ⟨I, J⟩ (AO.d (Yd.lenUM 3 I I I I) I (AO.q 1 I (AO.nil ?_))))))
 subst am
 refine AW.block (AW.um 3 I (fun an => (AW.ghost (Ghost.nilU 52 4) ?_)))
 obtain ⟨bi, ao, S⟩ := ob_some h
 clear h
 refine AW.forIX ao [(8, _), (36, _)] ⟨I, I, J⟩ (fun (P : Nat) (e : (List ByteArray) × (List Segment) × (List Port) × (List Station) × Int × Int × (List Int) × (List Int) × (List Path)) s ob => ∃ (j : Value) (n : Value) (g : Value), s = [(37, .V (P : Int)), (9, .v g)] ∧ ob = [.us j 3 1 (e.2.2.2.2.2.2.1.map rI), .us n 3 1 (e.2.2.2.2.2.2.2.1.map rI), .arr A 141 8 1 [[.list 1 (e.1.map rS), .list 7 (e.2.1.map Segment.row), .list 3 (e.2.2.1.map Port.row), .list 5 (e.2.2.2.1.map Station.row), .V e.2.2.2.2.1, .V e.2.2.2.2.2.1, .v j, .v n]], .us g 52 4 (e.2.2.2.2.2.2.2.2.map Path.row)]) ⟨M, O, (.slice none 0 0), I, I⟩ ⟨I, I, J⟩ ⟨[2, 3, 4, 5], I, by decide⟩ ?_ ?_
 rintro P e aq s ob U ⟨j, n, g, rfl, rfl⟩ h ar
 unfold L.zxps.B2 at h
 have au := lt_t U
 refine AW.z I (AW.seqG (fun bj av => (AW.condK (v := true) I au (AW.skip ?_))))
 subst av
 refine AW.cutX (fun s ob => ∃ (f : (List ByteArray) × (List Segment) × (List Port) × (List Station) × Int × Int × (List Int) × (List Int) × (List Path)) (D : Value) (E : Value) (F : Value), L.zxps.J3 f = some aq ∧ s = [(9, .v F)] ∧ ob = [.us D 3 1 (f.2.2.2.2.2.2.1.map rI), .us E 3 1 (f.2.2.2.2.2.2.2.1.map rI), .arr A 141 8 1 [[.list 1 (f.1.map rS), .list 7 (f.2.1.map Segment.row), .list 3 (f.2.2.1.map Port.row), .list 5 (f.2.2.2.1.map Station.row), .V f.2.2.2.2.1, .V f.2.2.2.2.2.1, .v D, .v E]], .us F 52 4 (f.2.2.2.2.2.2.2.2.map Path.row)]) [(8, _), (36, _), (37, _)] ⟨I, I, I, J⟩ ?_ ?_
 refine AW.block (AW.z I (AW.block ?_))
 obtain ⟨bk, aw, W⟩ := ob_some h
 clear h
 refine AW.loopX aw [(8, _), (10, _), (36, _), (37, _)] ⟨I, I, I, I, J⟩ (fun (a : (List ByteArray) × (List Segment) × (List Port) × (List Station) × Int × Int × (List Int) × (List Int) × (List Path)) s ob => ∃ (t : Value) (u : Value) (G : Value), s = [(9, .v G)] ∧ ob = [.us t 3 1 (a.2.2.2.2.2.2.1.map rI), .us u 3 1 (a.2.2.2.2.2.2.2.1.map rI), .arr A 141 8 1 [[.list 1 (a.1.map rS), .list 7 (a.2.1.map Segment.row), .list 3 (a.2.2.1.map Port.row), .list 5 (a.2.2.2.1.map Station.row), .V a.2.2.2.2.1, .V a.2.2.2.2.2.1, .v t, .v u]], .us G 52 4 (a.2.2.2.2.2.2.2.2.map Path.row)]) ⟨j, n, g, I, I⟩ ⟨I, J⟩ ⟨[0, 1, 2, 3], I, by decide⟩ ?_
 rintro a bl s ob ⟨t, u, G, rfl, rfl⟩ h X
 unfold L.zxps.B4 at h
 refine AW.seqG (fun bm ax => (AW.seq ?_))
 obtain ⟨Q, ⟨ay, Y⟩, h⟩ := ob_ix h
 refine AW.region (AO.r 5 [.o 3 2] I ⟨I, J⟩ (AO.d (Yd.indexU 1 (m := Q.1) I I I I I I I ay (map_get Y)) I (AO.d (Yd.loadU 1 Q.1 0 I I I (map_get Y) I (y := .V Q.2) I) I (AO.q 1 I (AO.nil (AW.ch h I ?_ ?_))))))
 intro az h
 refine AW.skip ?_
 subst ax
 refine AW.block (AW.seqG (fun bn a0 => ?_))
 obtain ⟨H, a1, h⟩ := ob_some h
 refine AW.region (AO.q 2 I (AO.act [2, 0, 1] I (AX.cg [2, 0, 1] (L.zcho_ok A _ t u _ _ a1) ?_)))
 rintro _ _ _ - ⟨a2, a3, rfl, rfl, rfl⟩
 refine AO.act [] I (AX.alloc (cs := [.V 0, .V 0, .N, .V 0]) (m := 4) I I I I I dS (fun bo => (AO.act [4] I (AX.st 4 0 0 [Path.row H.1] I (AO.nil ?_)))))
 subst a0
 refine AW.seq (AW.jb 59 (((a.2.2.2.2.2.2.2.2.length : Int) == 64) || decide ((H.1.Hops.length : Int) > 32)) ?_ ?_)
 refine AW.region (AO.q 1 I (AO.d (Yd.lenUM 3 I I I I) I (AO.q 2 I ?_)))
 rcases bt (((a.2.2.2.2.2.2.2.2.length : Int) == 64)) with w | w
 refine AO.known 54 I w (AO.q 5 I (AO.nil ?_))
 exact jf (by simp only [w, bz]) I I ⟨I, I⟩
 refine AO.known 54 I w (AO.r 5 [.o 1 4, .l 2 (H.1.Hops.length : Int)] I ⟨len_m, I, J⟩ (AO.nil ?_))
 exact jf (by simp only [w, bz]) I I ⟨I, I⟩
 refine AW.ch h I ?_ ?_
 intro a4 h
 refine AW.z I ?_
 obtain rfl := X _ (oi h).symm
 replace h := W
 replace h := se_l h
 obtain rfl := ar _ (oi h).symm
 replace h := S
 replace h := se_r h
 refine AW.ghost (Ghost.nilU 52 4) (AW.gp [5] I ?_)
 obtain rfl := oi h
 exact AW.ret ⟨.inr I, [_, _], [.us (.slice none 0 0) 52 4 ([].map Path.row)], ⟨I, I, J⟩, sl_c I (sl_n), ⟨(.slice none 0 0), I, I⟩⟩
 intro a4 h
 refine AW.skip ?_
 obtain ⟨bp, a5, h⟩ := ob_some h
 refine AW.region (AO.r 2 [.o 1 4] I ⟨I, J⟩ (AO.act [] I (AX.lt 4 (([H.1] : List Path).map Path.row) (AO.act [3] I (AX.ap 3 I a5 (fun a6 => (AO.q 1 I ?_)))))))
 obtain rfl := oi h
 refine AO.nil ?_
 exact ⟨_, _, _, I, ⟨a2, a3, a6, I, I⟩, ⟨I, I, I, I, I, J⟩, [0, 1, 2, 3], I, by decide⟩
 intro az h
 obtain rfl := X _ (oi h).symm
 replace h := W
 replace h := se_r h
 refine AW.exit ?_
 exact lg ⟨(a.1, a.2.1, a.2.2.1, a.2.2.2.1, a.2.2.2.2.1, a.2.2.2.2.2.1, a.2.2.2.2.2.2.1, a.2.2.2.2.2.2.2.1, a.2.2.2.2.2.2.2.2), t, u, G, h, I, I⟩ [0, 1, 2, 3]
 rintro s ob ⟨f, D, E, F, h, rfl, rfl⟩
 unfold L.zxps.J3 at h
 refine AW.region (AO.r 2 [.k 0 (P + 1 : Nat)] I ⟨cast_wr U an, J⟩ ?_)
 obtain rfl := oi h
 refine AO.nil ?_
 exact ⟨_, _, _, I, ⟨D, E, F, I, I⟩, ⟨I, I, I, I, J⟩, [0, 1, 2, 3], I, by decide⟩
 rintro e s ob ⟨j, n, g, rfl, rfl⟩ he
 subst he
 have h := se_l S
 have a7 := lt_f ai.length
 refine AW.z I (AW.seqG (fun bq br => (AW.condK (v := false) I a7 (AW.exit ?_))))
 exact lg ⟨e.2.2.2.2.2.2.2.2, g, h, I, I⟩ [3]
 rintro s ob ⟨B, i, h, rfl, rfl⟩
 unfold L.zxps.J1 at h
 refine AW.z I ?_
 obtain rfl := oi h
 exact AW.ret ⟨.inr I, [_, _], [.us i 52 4 (B.map Path.row)], ⟨I, I, J⟩, sl_c I (sl_n), ⟨i, I, I⟩⟩
end Go.Proofs.YtmaamhgjeampmaaGreat
