/- Walks that show what functions of the program compute; printed by a program of ours. No condition. -/
import Derived.Test.YtmaamhgjeampmaaGreatYsLp1
import Derived.Test.YtmaamhgjeampmaaGreatYsLp2
import Derived.Test.YtmaamhgjeampmaaGreatYsD
set_option maxRecDepth 100000
namespace Go.Proofs.YtmaamhgjeampmaaGreat
open Go.Aw
set_option linter.unusedVariables false
set_option linter.unusedSimpArgs false
set_option maxHeartbeats 4000000
theorem L.zdpk_ok (a : Valve) (r : Bool) (h : L.zdpk a = r) : ACalls Tryz.env 125 [.agg (Valve.row a)] [] (fun x new => x = .v (.bool r) ∧ new = []) := by
 refine ACalls.of_body Tryz.func125 rfl rfl rfl (fun C hC => ?_)
 unfold L.zdpk at h
 refine AW.seqG (fun f e => (AW.region (AO.act [] I (AX.box (cs := Valve.row a) (m := 4) I I I dS (fun g => (AO.q 1 I (AO.nil ?_)))))))
 subst e
 refine AW.cutX (fun s ob => s = [(2, .v (.bool (decide (a.Travel ≥ 1) && (decide (a.Travel ≤ 60) && (decide (a.Open ≥ 0) && decide (a.Open ≤ a.Travel))))))] ∧ ob = []) [] J ?_ ?_
 refine AW.region (AO.r 4 [.o 1 0] I ⟨I, J⟩ ?_)
 rcases bt (decide (a.Travel ≥ 1)) with b | b
 refine AO.known 6 I b (AO.r 5 [.o 1 0] I ⟨I, J⟩ ?_)
 rcases bt (decide (a.Travel ≤ 60)) with c | c
 refine AO.known 11 I c (AO.r 5 [.o 1 0] I ⟨I, J⟩ ?_)
 rcases bt (decide (a.Open ≥ 0)) with d | d
 refine AO.known 16 I d (AO.r 7 [.o 1 0, .o 3 0] I ⟨I, I, J⟩ (AO.nil ?_))
 exact lf ⟨I, I⟩ ⟨(get_b (by simp only [b, c, d, bz])), J⟩ [] I
 refine AO.known 16 I d (AO.q 7 I (AO.nil ?_))
 exact lf ⟨I, I⟩ ⟨(get_b (by simp only [b, c, d, bz])), J⟩ [] I
 refine AO.known 11 I c (AO.q 12 I (AO.nil ?_))
 exact lf ⟨I, I⟩ ⟨(get_b (by simp only [b, c, bz])), J⟩ [] I
 refine AO.known 6 I b (AO.q 17 I (AO.nil ?_))
 exact lf ⟨I, I⟩ ⟨(get_b (by simp only [b, bz])), J⟩ [] I
 rintro s ob ⟨rfl, rfl⟩
 obtain rfl := h
 exact AW.ret pr
theorem L.zhgw_ok (a : Valve) (r : Int) (h : L.zhgw a = r) : ACalls Tryz.env 148 [.agg (Valve.row a)] [] (fun x new => x = .V r ∧ new = []) := by
 refine ACalls.of_body Tryz.func148 rfl rfl rfl (fun C hC => ?_)
 unfold L.zhgw at h
 refine AW.seqG (fun d b => (AW.region (AO.act [] I (AX.box (cs := Valve.row a) (m := 4) I I I dS (fun e => (AO.q 1 I (AO.nil ?_)))))))
 subst b
 refine AW.seq (AW.zr [.o 1 0] I ⟨I, J⟩ (AW.ch h I ?_ ?_))
 intro c h
 refine AW.zr [.o 1 0] I ⟨I, J⟩ (AW.ghost g0 ?_)
 obtain rfl := h
 exact AW.ret pr
 intro c h
 refine AW.skip (AW.z I (AW.ghost g0 ?_))
 obtain rfl := h
 exact AW.ret pr
theorem L.zexx_ok (a : Valve) (b : Int) (r : Valve) (h : L.zexx a b = r) : ACalls Tryz.env 147 [.agg (Valve.row a), .V b] [] (fun x new => x = .agg (Valve.row r) ∧ new = []) := by
 refine ACalls.of_body Tryz.func147 rfl rfl rfl (fun C hC => ?_)
 unfold L.zexx at h
 refine AW.seqG (fun u e => (AW.region (AO.act [] I (AX.box (cs := Valve.row a) (m := 4) I I I dS (fun f => (AO.act [] I (AX.alloc (cs := [.V 0, .V 0, .v (.bool false), .v (.bool false)]) (m := 4) I I I I I dS (fun g => (AO.nil ?_)))))))))
 subst e
 refine AW.seqG (fun w i => (AW.region (AO.r 1 [.o 0 0] I ⟨I, J⟩ (AO.act [] I (AX.alloc (cs := [.V 0, .V 0, .v (.bool false), .v (.bool false)]) (m := 4) I I I I I dS (fun j => (AO.act [2] I (AX.st 2 0 0 [Valve.row a] I (AO.nil ?_)))))))))
 subst i
 refine AW.cutX (fun s ob => ∃ (d : Int), L.zexx.J1 a d = r ∧ s = [] ∧ ob = [.arr f 74 4 1 [[.V a.Travel, .V d, .v (.bool a.Want), .v (.bool a.Stuck)]], .arr g 74 4 1 [[.V 0, .V 0, .v (.bool false), .v (.bool false)]], .arr j 74 4 1 [Valve.row a]]) [(2, _), (4, _), (5, _)] ⟨I, I, I, J⟩ ?_ ?_
 refine AW.seqG (fun y k => (AW.region (AO.r 1 [.o 0 0] I ⟨I, J⟩ (AO.c (L.zhgw_ok a _ I) (AO.q 1 I (AO.nil ?_))))))
 subst k
 refine AW.block (AW.zr [.o 1 0] I ⟨I, J⟩ (AW.ch h I ?_ ?_))
 intro l h
 refine AW.skip ?_
 exact lg ⟨a.Open, h, I, I⟩ [0, 1, 2]
 intro l h
 refine AW.zr [.o 1 0] I ⟨I, J⟩ (AW.ch h I ?_ ?_)
 intro n h
 refine AW.region (AO.r 7 [.o 2 0] I ⟨I, J⟩ (AO.act [0] I (AX.st 0 0 1 [[.V a.Travel, .V (min (L.zhgw a) (wr (a.Open + b))), .v (.bool a.Want), .v (.bool a.Stuck)]] I (AO.nil ?_))))
 exact lg ⟨(min (L.zhgw a) (wr (a.Open + b))), h, I, I⟩ [0, 1, 2]
 intro n h
 refine AW.region (AO.r 7 [.o 2 0] I ⟨I, J⟩ (AO.act [0] I (AX.st 0 0 1 [[.V a.Travel, .V (max (L.zhgw a) (wr (a.Open - b))), .v (.bool a.Want), .v (.bool a.Stuck)]] I (AO.nil ?_))))
 exact lg ⟨(max (L.zhgw a) (wr (a.Open - b))), h, I, I⟩ [0, 1, 2]
 rintro s ob ⟨d, h, rfl, rfl⟩
 unfold L.zexx.J1 at h
 refine AW.seq (AW.seq (AW.region (AO.r 2 [.o 0 0, .o 1 2] I ⟨I, I, J⟩ (AO.p (Yp.eqStruct (r := ((a.Travel == a.Travel) && ((d == a.Open) && ((a.Want == a.Want) && ((a.Stuck == a.Stuck) && true))))) I I Tryz.eq74 I I I I) I (AO.nil (AW.ch h I ?_ ?_))))))
 intro t h
 refine AW.seq (AW.region (AO.r 1 [.o 0 2] I ⟨I, J⟩ (AO.act [1] I (AX.st 1 0 0 [Valve.row a] I (AO.nil (AW.gp [1] I ?_))))))
 obtain rfl := h
 exact AW.ret ⟨.inr I, [_], [], ⟨⟨0, _, _, _, _, _, _, _, I, I, I, I, I⟩, J⟩, sl_n, I, I⟩
 intro t h
 refine AW.skip (AW.seq (AW.region (AO.r 1 [.o 0 0] I ⟨I, J⟩ (AO.act [1] I (AX.st 1 0 0 [[.V a.Travel, .V d, .v (.bool a.Want), .v (.bool a.Stuck)]] I (AO.nil (AW.gp [1] I ?_)))))))
 obtain rfl := h
 exact AW.ret ⟨.inr I, [_], [], ⟨⟨0, _, _, _, _, _, _, _, I, I, I, I, I⟩, J⟩, sl_n, I, I⟩
theorem L.zwje_ok (a : Valve) (b : Int) (r : Valve × Int) (h : L.zwje a b = r) : ACalls Tryz.env 95 [.agg (Valve.row a), .V b] [] (fun x new => x = .tup [.agg (Valve.row r.1), .V r.2] ∧ new = []) := by
 refine ACalls.of_body Tryz.func95 rfl rfl rfl (fun C hC => ?_)
 unfold L.zwje at h
 refine AW.seqG (fun j e => (AW.region (AO.act [] I (AX.box (cs := Valve.row a) (m := 4) I I I dS (fun k => (AO.act [] I (AX.alloc (cs := [.V 0, .V 0, .v (.bool false), .v (.bool false)]) (m := 4) I I I I I dS (fun l => (AO.q 1 I (AO.nil ?_))))))))))
 subst e
 refine AW.seq (AW.block (AW.seqG (fun n f => (AW.region (AO.r 1 [.o 0 0] I ⟨I, J⟩ (AO.c (L.zdpk_ok a _ I) (AO.q 2 I (AO.nil ?_))))))))
 subst f
 refine AW.ch h I ?_ ?_
 intro g h
 refine AW.seq (AW.region (AO.r 1 [.o 0 0] I ⟨I, J⟩ (AO.act [1] I (AX.st 1 0 0 [Valve.row a] I (AO.q 1 I (AO.nil (AW.gp [1] I ?_)))))))
 obtain rfl := h
 exact AW.ret ⟨.inr I, [_, _], [], ⟨⟨0, _, _, _, _, _, _, _, I, I, I, I, I⟩, I, J⟩, sl_n, I, I⟩
 intro g h
 refine AW.jb 11 (decide (b < 0) || decide (b > 400)) ?_ ?_
 refine AW.region (AO.q 3 I ?_)
 rcases bt (decide (b < 0)) with d | d
 refine AO.known 14 I d (AO.q 4 I (AO.nil ?_))
 exact jf (by simp only [d, bz]) I I ⟨I, I⟩
 refine AO.known 14 I d (AO.q 4 I (AO.nil ?_))
 exact jf (by simp only [d, bz]) I I ⟨I, I⟩
 refine AW.ch h I ?_ ?_
 intro i h
 refine AW.seq (AW.region (AO.r 1 [.o 0 0] I ⟨I, J⟩ (AO.act [1] I (AX.st 1 0 0 [Valve.row a] I (AO.q 1 I (AO.nil (AW.gp [1] I ?_)))))))
 obtain rfl := h
 exact AW.ret ⟨.inr I, [_, _], [], ⟨⟨0, _, _, _, _, _, _, _, I, I, I, I, I⟩, I, J⟩, sl_n, I, I⟩
 intro i h
 refine AW.skip (AW.seq (AW.region (AO.r 2 [.o 0 0] I ⟨I, J⟩ (AO.c (L.zexx_ok a b _ I) (AO.act [1] I (AX.st 1 0 0 [Valve.row (L.zexx a b)] I (AO.q 1 I (AO.nil (AW.gp [1] I ?_)))))))))
 obtain rfl := h
 exact AW.ret ⟨.inr I, [_, _], [], ⟨⟨0, _, _, _, _, _, _, _, I, I, I, I, I⟩, I, J⟩, sl_n, I, I⟩
theorem L.zaik_ok (a : Valve) (r : Bool) (h : L.zaik a = r) : ACalls Tryz.env 96 [.agg (Valve.row a)] [] (fun x new => x = .v (.bool r) ∧ new = []) := by
 refine ACalls.of_body Tryz.func96 rfl rfl rfl (fun C hC => ?_)
 unfold L.zaik at h
 refine AW.seq (AW.region (AO.act [] I (AX.box (cs := Valve.row a) (m := 4) I I I dS (fun d => (AO.q 1 I (AO.nil (AW.cutX (fun s ob => s = [(2, .v (.bool ((L.zdpk a) && (a.Open == 0))))] ∧ ob = []) [] J ?_ ?_)))))))
 refine AW.region (AO.r 1 [.o 0 0] I ⟨I, J⟩ (AO.c (L.zdpk_ok a _ I) (AO.q 1 I ?_)))
 rcases bt ((L.zdpk a)) with b | b
 refine AO.known 5 I b (AO.r 5 [.o 1 0] I ⟨I, J⟩ (AO.nil ?_))
 exact lf ⟨I, I⟩ ⟨(get_b (by simp only [b, bz])), J⟩ [] I
 refine AO.known 5 I b (AO.q 5 I (AO.nil ?_))
 exact lf ⟨I, I⟩ ⟨(get_b (by simp only [b, bz])), J⟩ [] I
 rintro s ob ⟨rfl, rfl⟩
 obtain rfl := h
 exact AW.ret pr
theorem L.zeio_ok (a : Valve) (r : Bool) (h : L.zeio a = r) : ACalls Tryz.env 97 [.agg (Valve.row a)] [] (fun x new => x = .v (.bool r) ∧ new = []) := by
 refine ACalls.of_body Tryz.func97 rfl rfl rfl (fun C hC => ?_)
 unfold L.zeio at h
 refine AW.seqG (fun e d => (AW.region (AO.act [] I (AX.box (cs := Valve.row a) (m := 4) I I I dS (fun f => (AO.q 1 I (AO.nil ?_)))))))
 subst d
 refine AW.cutX (fun s ob => s = [(2, .v (.bool ((L.zdpk a) && (a.Open == a.Travel))))] ∧ ob = []) [] J ?_ ?_
 refine AW.region (AO.r 1 [.o 0 0] I ⟨I, J⟩ (AO.c (L.zdpk_ok a _ I) (AO.q 1 I ?_)))
 rcases bt ((L.zdpk a)) with b | b
 refine AO.known 5 I b (AO.r 7 [.o 1 0, .o 3 0] I ⟨I, I, J⟩ (AO.nil ?_))
 exact lf ⟨I, I⟩ ⟨(get_b (by simp only [b, bz])), J⟩ [] I
 refine AO.known 5 I b (AO.q 7 I (AO.nil ?_))
 exact lf ⟨I, I⟩ ⟨(get_b (by simp only [b, bz])), J⟩ [] I
 rintro s ob ⟨rfl, rfl⟩
 obtain rfl := h
 exact AW.ret pr
theorem L.zvdf_ok (a : Valve) (r : Int) (h : L.zvdf a = r) : ACalls Tryz.env 98 [.agg (Valve.row a)] [] (fun x new => x = .V r ∧ new = []) := by
 refine ACalls.of_body Tryz.func98 rfl rfl rfl (fun C hC => ?_)
 unfold L.zvdf at h
 refine AW.seqG (fun j d => (AW.region (AO.act [] I (AX.box (cs := Valve.row a) (m := 4) I I I dS (fun k => (AO.q 1 I (AO.nil ?_)))))))
 subst d
 refine AW.seqG (fun l e => (AW.seq (AW.region (AO.r 1 [.o 0 0] I ⟨I, J⟩ (AO.c (L.zdpk_ok a _ I) (AO.q 1 I (AO.nil (AW.ch h I ?_ ?_))))))))
 intro f h
 refine AW.z I (AW.ghost g0 ?_)
 obtain rfl := h
 exact AW.ret pr
 intro f h
 refine AW.skip ?_
 subst e
 refine AW.seqG (fun n g => (AW.rd (.still 0 (.still 2 (.still 3 (.still 5 (.still 6 (.still 7 (.act 1 (.still 4 (.act 8 (.still 9 (.still 10 (.still 11 .nil)))))))))))) [0] [_] I (AP.r 6 [.o 0 0, .o 2 0, .o 4 0, .o 5 0] I ⟨I, I, I, I, J⟩ (AP.c I (L.zhgw_ok a _ I) (AP.q 1 I (AP.c I (L.zhgw_ok a _ I) (AP.q 3 I (AP.ofAO (AO.nil ?_)))))))))
 subst g
 refine AW.seq (AW.jb 23 (a.Stuck && decide ((max (wr ((L.zhgw a) - a.Open)) (wr (a.Open - (L.zhgw a)))) > 0)) ?_ ?_)
 refine AW.region (AO.r 3 [.o 1 0] I ⟨I, J⟩ ?_)
 rcases bt (a.Stuck) with b | b
 refine AO.known 20 I b (AO.q 3 I (AO.nil ?_))
 exact jf (by simp only [b, bz]) I I ⟨I, I⟩
 refine AO.known 20 I b (AO.q 3 I (AO.nil ?_))
 exact jf (by simp only [b, bz]) I I ⟨I, I⟩
 refine AW.ch h I ?_ ?_
 intro i h
 refine AW.z I (AW.ghost g0 ?_)
 obtain rfl := h
 exact AW.ret pr
 intro i h
 refine AW.skip (AW.z I (AW.ghost g0 ?_))
 obtain rfl := h
 exact AW.ret pr
theorem L.zkoo_ok (a : Network) (e : Plan) (b : Int) (r : Int × Int) (h : L.zkoo a e b = some r) : ACalls Tryz.env 142 [.agg (Network.row a), .agg (Plan.row e), .V b] [] (fun x new => x = .tup [.V r.1, .V r.2] ∧ new = []) := by
 refine ACalls.of_body Tryz.func142 rfl rfl rfl (fun C hC => ?_)
 unfold L.zkoo at h
 refine AW.seqG (fun w f => (AW.region (AO.act [] I (AX.box (cs := Network.row a) (m := 6) I I I dS (fun A => (AO.act [] I (AX.box (cs := Plan.row e) (m := 3) I I I dS (fun B => (AO.q 2 I (AO.nil ?_))))))))))
 subst f
 refine AW.seqG (fun D g => (AW.seq ?_))
 obtain ⟨E, i, h⟩ := ob_some h
 refine AW.region (AO.r 2 [.o 0 0, .o 1 1] I ⟨I, I, J⟩ (AO.c (L.zmqu_ok _ _ _ i) (AO.q 1 I (AO.nil (AW.z I (AW.ch h I ?_ ?_))))))
 intro j h
 refine AW.z I (AW.ghost g0 ?_)
 obtain rfl := oi h
 exact AW.ret ⟨.inr I, [_, _], [], ⟨I, I, J⟩, sl_n, I, I⟩
 intro j h
 refine AW.skip ?_
 subst g
 refine AW.seq (AW.jb 23 (decide (b < 0) || decide (b ≥ (a.Nodes.length : Int))) ?_ ?_)
 refine AW.region (AO.q 3 I ?_)
 rcases bt (decide (b < 0)) with d | d
 refine AO.known 17 I d (AO.q 6 I (AO.nil ?_))
 exact jf (by simp only [d, bz]) I I ⟨I, I⟩
 refine AO.known 17 I d (AO.r 6 [.o 2 0, .l 3 (a.Nodes.length : Int)] I ⟨len_m, I, J⟩ (AO.nil ?_))
 exact jf (by simp only [d, bz]) I I ⟨I, I⟩
 refine AW.ch h I ?_ ?_
 intro k h
 refine AW.z I (AW.ghost g0 ?_)
 obtain rfl := oi h
 exact AW.ret ⟨.inr I, [_, _], [], ⟨I, I, J⟩, sl_n, I, I⟩
 intro k h
 refine AW.skip (AW.seq ?_)
 obtain ⟨n, s, h⟩ := ob_some h
 obtain ⟨t, ⟨u, v⟩, h⟩ := ob_ix h
 refine AW.region (AO.r 2 [.o 0 0, .o 1 1] I ⟨I, I, J⟩ (AO.act [] I (AX.call0 I I I (L.zzkf_ok _ _ _ s) dS ?_)))
 rintro _ _ ⟨rfl, rfl⟩
 refine AO.p (Yp.field I I I I I (y := .agg (n.come.l.map cI)) (part_here I (by simp [Arr.h, flow_streams.row]))) I (AO.q 1 I (AO.p (Yp.indexAgM (m := t.1) I I I I I I I u v (hlen := Arr.h _)) I (AO.q 2 I (AO.nil (AW.ghost g0 ?_)))))
 obtain rfl := oi h
 exact AW.ret ⟨.inr I, [_, _], [], ⟨I, I, J⟩, sl_n, I, I⟩
theorem L.zayo_ok (a : Valve) (r : Bool) (h : L.zayo a = r) : ACalls Tryz.env 126 [.agg (Valve.row a)] [] (fun x new => x = .v (.bool r) ∧ new = []) := by
 refine ACalls.of_body Tryz.func126 rfl rfl rfl (fun C hC => ?_)
 unfold L.zayo at h
 refine AW.seq (AW.region (AO.act [] I (AX.box (cs := Valve.row a) (m := 4) I I I dS (fun d => (AO.q 1 I (AO.nil (AW.cutX (fun s ob => s = [(2, .v (.bool ((L.zeio a) && a.Want)))] ∧ ob = []) [] J ?_ ?_)))))))
 refine AW.region (AO.r 1 [.o 0 0] I ⟨I, J⟩ (AO.c (L.zeio_ok a _ I) (AO.q 1 I ?_)))
 rcases bt ((L.zeio a)) with b | b
 refine AO.known 5 I b (AO.r 4 [.o 1 0] I ⟨I, J⟩ (AO.nil ?_))
 exact lf ⟨I, I⟩ ⟨(get_b (by simp only [b, bz])), J⟩ [] I
 refine AO.known 5 I b (AO.q 4 I (AO.nil ?_))
 exact lf ⟨I, I⟩ ⟨(get_b (by simp only [b, bz])), J⟩ [] I
 rintro s ob ⟨rfl, rfl⟩
 obtain rfl := h
 exact AW.ret pr
theorem L.zdjk_ok (b : Network) (d : Plan) (f : Int) (r : Bool) (h : L.zdjk b d f = some r) : ACalls Tryz.env 90 [.agg (Network.row b), .agg (Plan.row d), .V f] [] (fun x new => x = .v (.bool r) ∧ new = []) := by
 refine ACalls.of_body Tryz.func90 rfl rfl rfl (fun C hC => ?_)
 unfold L.zdjk at h
 refine AW.seqG (fun n i => (AW.region (AO.act [] I (AX.box (cs := Network.row b) (m := 6) I I I dS (fun p => (AO.act [] I (AX.box (cs := Plan.row d) (m := 3) I I I dS (fun t => (AO.q 1 I (AO.nil ?_))))))))))
 subst i
 refine AW.seq ?_
 obtain ⟨g, ⟨j, k⟩, h⟩ := ob_ix h
 obtain ⟨e, l, h⟩ := ob_some h
 refine AW.rd (pd 14 0 [8]) [0, 1] [_, _] I (AP.r 8 [.o 0 0, .o 1 1, .o 3 0, .x 5 g.1 (Station.row g.2)] I ⟨⟨j, map_get k⟩, I, I, I, J⟩ (AP.c I (L.zkoo_ok _ _ _ _ l) (AP.q 5 I (AP.ofAO (AO.nil (AW.cutX (fun s ob => s = [(6, .v (.bool ((e.2 == 0) && (e.1 != 0))))] ∧ ob = []) [] J ?_ ?_))))))
 refine AW.region (AO.q 3 I ?_)
 rcases bt ((e.2 == 0)) with a | a
 refine AO.known 23 I a (AO.q 4 I (AO.nil ?_))
 exact lf ⟨I, I⟩ ⟨(get_b (by simp only [a, bz])), J⟩ [] I
 refine AO.known 23 I a (AO.q 4 I (AO.nil ?_))
 exact lf ⟨I, I⟩ ⟨(get_b (by simp only [a, bz])), J⟩ [] I
 rintro s ob ⟨rfl, rfl⟩
 obtain rfl := oi h
 exact AW.ret pr
theorem L.zvla_ok (a : Network) (b : Plan) (d : Int) (r : Bool) (h : L.zvla a b d = some r) : ACalls Tryz.env 49 [.agg (Network.row a), .agg (Plan.row b), .V d] [] (fun x new => x = .v (.bool r) ∧ new = []) := by
 refine ACalls.of_body Tryz.func49 rfl rfl rfl (fun C hC => ?_)
 unfold L.zvla at h
 refine AW.seq (AW.region (AO.act [] I (AX.box (cs := Network.row a) (m := 6) I I I dS (fun f => (AO.act [] I (AX.box (cs := Plan.row b) (m := 3) I I I dS (fun g => (AO.q 1 I (AO.nil (AW.seq ?_))))))))))
 obtain ⟨i, e, h⟩ := ob_some h
 refine AW.region (AO.r 3 [.o 0 0, .o 1 1] I ⟨I, I, J⟩ (AO.c (L.zdjk_ok _ _ _ _ e) (AO.q 1 I (AO.nil (AW.ghost g0 ?_)))))
 obtain rfl := oi h
 exact AW.ret pr
theorem L.zipx_ok (e : List Step) (r : Int) (h : L.zipx e = some r) : ACalls Tryz.env 58 [.list 7 (e.map Step.row)] [] (fun x new => x = .V r ∧ new = []) := by
 refine ACalls.of_body Tryz.func58 rfl rfl rfl (fun C hC => ?_)
 unfold L.zipx at h
 refine AW.z I (AW.z I (AW.cutX (fun s ob => ∃ (g : Int), L.zipx.J1 g = some r ∧ s = [(3, .V g)] ∧ ob = []) [] J ?_ ?_))
 refine AW.zr [.l 1 (e.length : Int)] I ⟨len_m, J⟩ (AW.block (AW.lm 6 I (fun n => ?_)))
 obtain ⟨F, p, t⟩ := ob_some h
 clear h
 refine AW.forY p [(6, _), (7, _)] ⟨I, I, J⟩ (fun (f : Nat) (b : Int) s ob => s = [(8, .V (f : Int)), (3, .V b)] ∧ ob = []) ⟨I, I⟩ ⟨I, I, J⟩ ⟨[], I, by decide⟩ ?_ ?_
 rintro f a b u s ob w j ⟨rfl, rfl⟩ h
 unfold L.zipx.B2 at h
 have y := lt_t j
 refine AW.z I (AW.seqG (fun G A => (AW.condK (v := true) I y (AW.skip ?_))))
 subst A
 refine AW.cutX (fun s ob => ∃ (i : Int), L.zipx.J3 i = some u ∧ s = [(3, .V i)] ∧ ob = []) [(6, _), (7, _), (8, _)] ⟨I, I, I, J⟩ ?_ ?_
 refine AW.block (AW.seqG (fun H B => (AW.region (AO.r 2 [.x 0 f (Step.row a)] I ⟨⟨I, map_get w⟩, J⟩ (AO.act [] I (AX.alloc (cs := [.V 0, .V 0, .V 0, .V 0, .V 0, .N, .V 0]) (m := 7) I I I I I dS (fun K => (AO.act [0] I (AX.st 0 0 0 [Step.row a] I (AO.nil ?_))))))))))
 subst B
 refine AW.jb 24 ((a.Kind == 6) && (decide (a.Value ≥ 1) && decide (a.Value ≤ 100))) ?_ ?_
 refine AW.region (AO.r 4 [.o 1 0] I ⟨I, J⟩ ?_)
 rcases bt ((a.Kind == 6)) with c | c
 refine AO.known 15 I c (AO.r 5 [.o 1 0] I ⟨I, J⟩ ?_)
 rcases bt (decide (a.Value ≥ 1)) with d | d
 refine AO.known 20 I d (AO.r 4 [.o 1 0] I ⟨I, J⟩ (AO.nil ?_))
 exact jf (by simp only [c, d, bz]) I I ⟨I, I⟩
 refine AO.known 20 I d (AO.q 4 I (AO.nil ?_))
 exact jf (by simp only [c, d, bz]) I I ⟨I, I⟩
 refine AO.known 15 I c (AO.q 9 I (AO.nil ?_))
 exact jf (by simp only [c, bz]) I I ⟨I, I⟩
 refine AW.ch h I ?_ ?_
 intro D h
 refine AW.tr [.o 2 0] I ⟨I, J⟩ ?_
 exact lg ⟨wr (b + a.Value), h, I, I⟩ []
 intro D h
 refine AW.skip ?_
 exact lg ⟨b, h, I, I⟩ []
 rintro s ob ⟨i, h, rfl, rfl⟩
 unfold L.zipx.J3 at h
 refine AW.region (AO.r 2 [.k 0 (f + 1 : Nat)] I ⟨cast_wr j n, J⟩ ?_)
 obtain rfl := oi h
 refine AO.nil ?_
 exact lg ⟨I, I⟩ []
 rintro b s ob ⟨rfl, rfl⟩ he
 subst he
 have h := t
 have E := lt_f e.length
 refine AW.z I (AW.seqG (fun M O => (AW.condK (v := false) I E (AW.exit ?_))))
 exact lg ⟨b, h, I, I⟩ []
 rintro s ob ⟨g, h, rfl, rfl⟩
 unfold L.zipx.J1 at h
 refine AW.z I ?_
 obtain rfl := oi h
 exact AW.ret pr
theorem L.zwom_ok (a : Network) (r : Int) (h : L.zwom a = r) : ACalls Tryz.env 122 [.agg (Network.row a)] [] (fun x new => x = .V r ∧ new = []) := by
 refine ACalls.of_body Tryz.func122 rfl rfl rfl (fun C hC => ?_)
 unfold L.zwom at h
 refine AW.seq (AW.region (AO.act [] I (AX.box (cs := Network.row a) (m := 6) I I I dS (fun b => (AO.q 1 I (AO.nil (AW.zr [.o 1 0, .l 2 (a.Segments.length : Int), .o 4 0, .l 5 (a.Ports.length : Int)] I ⟨len_m, I, len_m, I, J⟩ (AW.ghost g0 ?_))))))))
 obtain rfl := h
 exact AW.ret pr
theorem L.zvjf_ok (a : Lineup) (r : List Bool) (h : L.zvjf a = some r) : ACalls Tryz.env 59 [.agg (Lineup.row a)] [] (fun x new => ∃ (b : Value), x = .v b ∧ new = [.us b 4 1 (r.map rB)]) := by
 refine ACalls.of_body Tryz.func59 rfl rfl rfl (fun C hC => ?_)
 unfold L.zvjf at h
 refine AW.seqG (fun i e => (AW.region (AO.act [] I (AX.box (cs := Lineup.row a) (m := 2) I I I dS (fun j => (AO.q 1 I (AO.nil ?_)))))))
 subst e
 refine AW.seq ?_
 obtain ⟨k, c, h⟩ := ob_some h
 refine AW.region (AO.r 2 [.o 1 0] I ⟨I, J⟩ (AO.act [] I (AX.appendN I I I I I I I I (AppSrc.list I) (app_len0 (app_some c).1) (app_map0 (app_some c).2) dS (fun l => (AO.q 1 I (AO.nil (AW.seq ?_)))))))
 obtain ⟨f, g, h⟩ := ob_some h
 refine AW.region (AO.r 3 [.o 2 0] I ⟨I, J⟩ (AO.act [1] I (AX.ap 1 I g (fun d => (AO.q 1 I (AO.nil (AW.gp [1] I ?_)))))))
 obtain rfl := oi h
 exact AW.ret ⟨.inr I, [_], [.us d 4 1 (f.map rB)], ⟨I, J⟩, sl_c I (sl_n), ⟨d, I, I⟩⟩
theorem L.zync_ok (c : List Int) (r : List Bool) (h : L.zync c = some r) : ACalls Tryz.env 91 [.list 1 (c.map rI)] [] (fun x new => ∃ (g : Value), x = .v g ∧ new = [.us g 4 1 (r.map rB)]) := by
 refine ACalls.of_body Tryz.func91 rfl rfl rfl (fun C hC => ?_)
 unfold L.zync at h
 refine AW.z I (AW.z I (AW.cutX (fun s ob => ∃ (d : List Bool) (a : Value), L.zync.J1 d = some r ∧ s = [(3, .v a)] ∧ ob = [.us a 4 1 (d.map rB)]) [] J ?_ ?_))
 refine AW.zr [.l 1 (c.length : Int)] I ⟨len_m, J⟩ (AW.block (AW.lm 6 I (fun m => (AW.ghost (Ghost.nilU 4 1) ?_))))
 obtain ⟨B, n, o⟩ := ob_some h
 clear h
 refine AW.forY n [(6, _), (7, _)] ⟨I, I, J⟩ (fun (e : Nat) (f : List Bool) s ob => ∃ (b : Value), s = [(8, .V (e : Int)), (3, .v b)] ∧ ob = [.us b 4 1 (f.map rB)]) ⟨(.slice none 0 0), I, I⟩ ⟨I, I, J⟩ ⟨[0], I, by decide⟩ ?_ ?_
 rintro e i f D s ob p j ⟨b, rfl, rfl⟩ h
 unfold L.zync.B2 at h
 have t := lt_t j
 refine AW.z I (AW.seqG (fun E u => (AW.condK (v := true) I t (AW.skip ?_))))
 subst u
 refine AW.seq (AW.block (AW.zr [.x 0 e (rI i)] I ⟨⟨I, map_get p⟩, J⟩ ?_))
 obtain ⟨F, w, h⟩ := ob_some h
 refine AW.region (AO.q 3 I (AO.act [] I (AX.lt 1 (([(i != 0)] : List Bool).map rB) (AO.act [0] I (AX.ap 0 I w (fun y => (AO.q 1 I (AO.nil (AW.region (AO.r 2 [.k 0 (e + 1 : Nat)] I ⟨cast_wr j m, J⟩ ?_))))))))))
 obtain rfl := oi h
 refine AO.nil ?_
 exact lg ⟨y, I, I⟩ [0]
 rintro f s ob ⟨b, rfl, rfl⟩ he
 subst he
 have h := o
 have A := lt_f c.length
 refine AW.z I (AW.seqG (fun G H => (AW.condK (v := false) I A (AW.exit ?_))))
 exact lg ⟨f, b, h, I, I⟩ [0]
 rintro s ob ⟨d, a, h, rfl, rfl⟩
 unfold L.zync.J1 at h
 refine AW.z I ?_
 obtain rfl := oi h
 exact AW.ret ⟨.inr I, [_], [.us a 4 1 (d.map rB)], ⟨I, J⟩, sl_c I (sl_n), ⟨a, I, I⟩⟩
theorem L.zoqk_ok (a : Network) (b : Plan) (r : Lineup × Int) (h : L.zoqk a b = some r) : ACalls Tryz.env 50 [.agg (Network.row a), .agg (Plan.row b)] [] (fun x new => x = .tup [.agg (Lineup.row r.1), .V r.2] ∧ new = []) := by
 refine ACalls.of_body Tryz.func50 rfl rfl rfl (fun C hC => ?_)
 unfold L.zoqk at h
 refine AW.seqG (fun F n => (AW.region (AO.act [] I (AX.box (cs := Network.row a) (m := 6) I I I dS (fun d => (AO.act [] I (AX.box (cs := Plan.row b) (m := 3) I I I dS (fun e => (AO.act [] I (AX.alloc (cs := [.N, .N]) (m := 2) I I I I I dS (fun f => (AO.q 1 I (AO.nil ?_)))))))))))))
 subst n
 refine AW.seqG (fun G s => (AW.seq ?_))
 obtain ⟨H, t, h⟩ := ob_some h
 refine AW.region (AO.r 1 [.o 0 0] I ⟨I, J⟩ (AO.c (L.zfta_ok _ _ t) (AO.q 1 I (AO.nil (AW.z I (AW.ch h I ?_ ?_))))))
 intro u h
 refine AW.seq (AW.region (AO.p (Yp.buildP (l := [.N, .N]) Tryz.bld97 I) I (AO.q 1 I (AO.act [2] I (AX.st 2 0 0 [[.N, .N]] I (AO.q 1 I (AO.nil (AW.ghost (Ghost.freeze [] (K := []) I [] J (ob' := [.arr d 32 6 1 [Network.row a], .arr e 37 3 1 [Plan.row b], .arr f 97 2 1 [[.list 1 ([].map rB), .list 1 ([].map rB)]]]) (.cons (.same _) (.cons (.same _) (.cons (.arr (.cons (.nil _) (.cons (.nil _) (.rest _)))) (.rest _))))) (AW.gp [2] I ?_)))))))))
 obtain rfl := oi h
 exact AW.ret ⟨.inr I, [_, _], [], ⟨⟨0, _, _, _, _, _, _, _, I, I, I, I, I⟩, I, J⟩, sl_n, I, I⟩
 intro u h
 refine AW.skip ?_
 subst s
 refine AW.seq (AW.seq ?_)
 obtain ⟨M, w, h⟩ := ob_some h
 refine AW.region (AO.r 2 [.o 0 0, .o 1 1] I ⟨I, I, J⟩ (AO.c (L.zmqu_ok _ _ _ w) (AO.q 1 I (AO.nil (AW.z I (AW.ch h I ?_ ?_))))))
 intro y h
 refine AW.seq (AW.region (AO.p (Yp.buildP (l := [.N, .N]) Tryz.bld97 I) I (AO.q 1 I (AO.act [2] I (AX.st 2 0 0 [[.N, .N]] I (AO.q 1 I (AO.nil (AW.ghost (Ghost.freeze [] (K := []) I [] J (ob' := [.arr d 32 6 1 [Network.row a], .arr e 37 3 1 [Plan.row b], .arr f 97 2 1 [[.list 1 ([].map rB), .list 1 ([].map rB)]]]) (.cons (.same _) (.cons (.same _) (.cons (.arr (.cons (.nil _) (.cons (.nil _) (.rest _)))) (.rest _))))) (AW.gp [2] I ?_)))))))))
 obtain rfl := oi h
 exact AW.ret ⟨.inr I, [_, _], [], ⟨⟨0, _, _, _, _, _, _, _, I, I, I, I, I⟩, I, J⟩, sl_n, I, I⟩
 intro y h
 refine AW.skip (AW.seq ?_)
 obtain ⟨j, A, h⟩ := ob_some h
 obtain ⟨k, B, h⟩ := ob_some h
 refine AW.rd (.still 0 (.still 1 (.still 3 (.still 4 (.act 2 (.act 5 (.still 6 (.act 7 (.still 8 .nil))))))))) [1] [_] I (AP.r 4 [.o 1 0, .o 3 0] I ⟨I, I, J⟩ (AP.act [] I I I (AX.call0 I I I (L.zync_ok _ _ A) dS ?_)))
 rintro _ _ ⟨g, rfl, rfl⟩
 refine AP.act [] I I I (AX.call0 I I I (L.zync_ok _ _ B) dS ?_)
 rintro _ _ ⟨i, rfl, rfl⟩
 refine AP.one 3 I (fun D => (AP.one 4 I (fun E => (AP.p I (Yp.buildP (l := [.v g, .v i]) Tryz.bld97 (fill_step I I (cells_v D) I (fill_step I I (cells_v E) I (fill_nil)))) I (AP.act [2] I I I (AX.st 2 0 0 [[.v g, .v i]] I (AP.q 1 I (AP.ofAO (AO.nil (AW.ghost (Ghost.freeze [3, 4] (K := [.us g 4 1 (j.map rB), .us i 4 1 (k.map rB)]) I [] J (ob' := [.arr d 32 6 1 [Network.row a], .arr e 37 3 1 [Plan.row b], .arr f 97 2 1 [[.list 1 (j.map rB), .list 1 (k.map rB)]]]) (.cons (.same _) (.cons (.same _) (.cons (.arr (.cons (.us 0 I) (.cons (.us 1 I) (.rest _)))) (.rest _))))) (AW.gp [2] I ?_)))))))))))
 obtain rfl := oi h
 exact AW.ret ⟨.inr I, [_, _], [], ⟨⟨0, _, _, _, _, _, _, _, I, I, I, I, I⟩, I, J⟩, sl_n, I, I⟩
theorem L.znus_ok (a : List Valve) (F1 : T) {c : FuncId} {d e : List T} (o : fnT F1 = some (c, d, e)) (f : Valve → Option Bool) (p : ∀ (g : Valve) r, f g = some r → ACalls Tryz.env c (d ++ [.agg (Valve.row g)] ++ e) [] (fun x new => x = .v (.bool r) ∧ new = [])) (r : Int) (h : L.znus a f = some r) : ACalls Tryz.env 151 [.list 4 (a.map Valve.row), F1] [] (fun x new => x = .V r ∧ new = []) := by
 refine ACalls.of_body Tryz.func151 rfl rfl rfl (fun C hC => ?_)
 unfold L.znus at h
 refine AW.z I (AW.cutX (fun s ob => ∃ (i : Unit), L.znus.J1 i = some r ∧ s = [] ∧ ob = []) [] J ?_ ?_)
 refine AW.zr [.l 1 (a.length : Int)] I ⟨len_m, J⟩ (AW.block (AW.lm 6 I (fun q => ?_)))
 obtain ⟨G, t, j⟩ := ob_some h
 clear h
 refine AW.forX t [(0, _), (1, _), (7, _)] ⟨I, I, I, J⟩ (fun (b : Nat) (m : Unit) s ob => s = [(8, .V (b : Int))] ∧ ob = []) ⟨I, I⟩ ⟨I, J⟩ ⟨[], I, by decide⟩ ?_ ?_
 rintro b u m H s ob w n ⟨rfl, rfl⟩ h y
 unfold L.znus.B2 at h
 have A := lt_t n
 refine AW.z I (AW.seqG (fun K B => (AW.condK (v := true) I A (AW.skip ?_))))
 subst B
 refine AW.seq (AW.block (AW.z I (AW.seq ?_)))
 obtain ⟨M, D, h⟩ := ob_some h
 refine AW.region (AO.r 5 [.x 3 b (Valve.row u)] I ⟨⟨I, map_get w⟩, J⟩ (AO.act [] I (AX.callL I (.refl _) o I (.rest _) I (p _ _ D) dS (by rintro _ _ ⟨rfl, _⟩; rfl) ?_)))
 rintro _ ⟨_, rfl, -⟩
 refine AO.nil (AW.ch h I ?_ ?_)
 intro E h
 refine AW.z I ?_
 obtain rfl := y _ (oi h).symm
 replace h := j
 replace h := se_r h
 obtain rfl := oi h
 exact AW.ret pr
 intro E h
 refine AW.skip (AW.region (AO.r 2 [.k 0 (b + 1 : Nat)] I ⟨cast_wr n q, J⟩ ?_))
 obtain rfl := oi h
 refine AO.nil ?_
 exact ⟨_, _, _, I, ⟨I, I⟩, ⟨I, I, I, I, J⟩, [], I, by decide⟩
 rintro m s ob ⟨rfl, rfl⟩ he
 subst he
 have h := se_l j
 have F := lt_f a.length
 refine AW.z I (AW.seqG (fun N O => (AW.condK (v := false) I F (AW.exit ?_))))
 exact lg ⟨(), h, I, I⟩ []
 rintro s ob ⟨i, h, rfl, rfl⟩
 unfold L.znus.J1 at h
 refine AW.z I ?_
 obtain rfl := oi h
 exact AW.ret pr
theorem L.zfxq_ok (b : List Valve) (F1 : T) {d : FuncId} {e f : List T} (i : fnT F1 = some (d, e, f)) (a : Valve → Option Bool) (j : ∀ (g : Valve) r, a g = some r → ACalls Tryz.env d (e ++ [.agg (Valve.row g)] ++ f) [] (fun x new => x = .v (.bool r) ∧ new = [])) (r : Bool) (h : L.zfxq b a = some r) : ACalls Tryz.env 123 [.list 4 (b.map Valve.row), F1] [] (fun x new => x = .v (.bool r) ∧ new = []) := by
 refine ACalls.of_body Tryz.func123 rfl rfl rfl (fun C hC => ?_)
 unfold L.zfxq at h
 refine AW.z I (AW.seq ?_)
 obtain ⟨l, k, h⟩ := ob_some h
 refine AW.region (AO.q 2 I (AO.c (L.znus_ok _ F1 i a j _ k) (AO.q 2 I (AO.nil ?_))))
 obtain rfl := oi h
 exact AW.ret pr
theorem L.zfpn_ok (a : Valve) (r : Bool) (h : L.zfpn a = r) : ACalls Tryz.env 124 [.agg (Valve.row a)] [] (fun x new => x = .v (.bool r) ∧ new = []) := by
 refine ACalls.of_body Tryz.func124 rfl rfl rfl (fun C hC => ?_)
 unfold L.zfpn at h
 refine AW.seq (AW.region (AO.act [] I (AX.box (cs := Valve.row a) (m := 4) I I I dS (fun b => (AO.q 1 I (AO.nil (AW.seq (AW.region (AO.r 1 [.o 0 0] I ⟨I, J⟩ (AO.c (L.zdpk_ok a _ I) (AO.q 2 I (AO.nil (AW.ghost g0 ?_)))))))))))))
 obtain rfl := h
 exact AW.ret pr
theorem L.zoxj_ok (a : Network) (b : Plan) (r : Bool) (h : L.zoxj a b = some r) : ACalls Tryz.env 127 [.agg (Network.row a), .agg (Plan.row b)] [] (fun x new => x = .v (.bool r) ∧ new = []) := by
 refine ACalls.of_body Tryz.func127 rfl rfl rfl (fun C hC => ?_)
 unfold L.zoxj at h
 refine AW.seqG (fun P y => (AW.region (AO.act [] I (AX.box (cs := Network.row a) (m := 6) I I I dS (fun i => (AO.act [] I (AX.box (cs := Plan.row b) (m := 3) I I I dS (fun j => (AO.q 1 I (AO.nil ?_))))))))))
 subst y
 refine AW.cutX (fun s ob => ∃ (n : Unit), L.zoxj.J1 n = some r ∧ s = [] ∧ ob = []) [] J ?_ ?_
 refine AW.zr [.o 1 1, .l 2 (b.Pumps.length : Int)] I ⟨len_m, I, J⟩ (AW.block (AW.lm 8 I (fun A => ?_)))
 obtain ⟨Q, B, p⟩ := ob_some h
 clear h
 refine AW.forX B [(2, _), (3, _), (8, _), (9, _)] ⟨I, I, I, I, J⟩ (fun (d : Nat) (t : Unit) s ob => s = [(10, .V (d : Int))] ∧ ob = [.arr i 32 6 1 [Network.row a], .arr j 37 3 1 [Plan.row b]]) ⟨I, I⟩ ⟨I, J⟩ ⟨[0, 1], I, by decide⟩ ?_ ?_
 rintro d u t D s ob E w ⟨rfl, rfl⟩ h F
 unfold L.zoxj.B2 at h
 have G := lt_t w
 refine AW.z I (AW.seqG (fun R H => (AW.condK (v := true) I G (AW.skip ?_))))
 subst H
 refine AW.seq (AW.block (AW.zr [.x 1 d (rB u)] I ⟨⟨I, map_get E⟩, J⟩ (AW.cutX (fun s ob => ∃ (g : Bool), L.zoxj.J3 g = some D ∧ s = [(29, .v (.bool g))] ∧ ob = [.arr i 32 6 1 [Network.row a], .arr j 37 3 1 [Plan.row b]]) [(2, _), (3, _), (8, _), (9, _), (10, _)] ⟨I, I, I, I, I, J⟩ ?_ ?_)))
 refine AW.region (AO.q 2 I ?_)
 rcases bt (u) with e | e
 replace h := ife_t e h
 refine AO.known 16 I e ?_
 rcases bt (decide ((d : Int) < (a.Stations.length : Int))) with f | f
 replace h := ife_t f h
 obtain ⟨K, M, h⟩ := ob_some h
 refine AO.r 7 [.o 2 0, .l 3 (a.Stations.length : Int)] I ⟨len_m, I, J⟩ (AO.known 23 I f (AO.r 3 [.o 0 0, .o 1 1] I ⟨I, I, J⟩ (AO.gt I I I (AO.c (L.zdjk_ok _ _ _ _ M) (AO.q 2 I (AO.nil ?_))))))
 exact lg ⟨(!K), h, I, I⟩ [0, 1]
 replace h := ife_f f h
 refine AO.r 7 [.o 2 0, .l 3 (a.Stations.length : Int)] I ⟨len_m, I, J⟩ (AO.known 23 I f (AO.q 6 I (AO.nil ?_)))
 exact lg ⟨false, h, I, I⟩ [0, 1]
 replace h := ife_f e h
 refine AO.known 16 I e (AO.q 13 I (AO.nil ?_))
 exact lg ⟨false, h, I, I⟩ [0, 1]
 rintro s ob ⟨g, h, rfl, rfl⟩
 unfold L.zoxj.J3 at h
 refine AW.ch h I ?_ ?_
 intro N h
 refine AW.z I ?_
 obtain rfl := F _ (oi h).symm
 replace h := p
 replace h := se_r h
 refine AW.ghost g0 ?_
 obtain rfl := oi h
 exact AW.ret pr
 intro N h
 refine AW.skip (AW.region (AO.r 2 [.k 0 (d + 1 : Nat)] I ⟨cast_wr w A, J⟩ ?_))
 obtain rfl := oi h
 refine AO.nil ?_
 exact ⟨_, _, _, I, ⟨I, I⟩, ⟨I, I, I, I, I, J⟩, [0, 1], I, by decide⟩
 rintro t s ob ⟨rfl, rfl⟩ he
 subst he
 have h := se_l p
 have O := lt_f b.Pumps.length
 refine AW.z I (AW.seqG (fun S U => (AW.condK (v := false) I O (AW.exit ?_))))
 exact lg ⟨(), h, I, I⟩ []
 rintro s ob ⟨n, h, rfl, rfl⟩
 unfold L.zoxj.J1 at h
 refine AW.z I ?_
 obtain rfl := oi h
 exact AW.ret pr
theorem L.zkzk_ok (b : Network) (a : Desk) (r : Int) (h : L.zkzk b a = some r) : ACalls Tryz.env 85 [.agg (Network.row b), .agg (Desk.row a)] [] (fun x new => x = .V r ∧ new = []) := by
 refine ACalls.of_body Tryz.func85 rfl rfl rfl (fun C hC => ?_)
 unfold L.zkzk at h
 refine AW.seqG (fun y1 H => (AW.region (AO.act [] I (AX.box (cs := Network.row b) (m := 6) I I I dS (fun g => (AO.act [] I (AX.box (cs := Desk.row a) (m := 4) I I I dS (fun i => (AO.q 1 I (AO.nil ?_))))))))))
 subst H
 refine AW.seqG (fun y4 K => (AW.seq ?_))
 obtain ⟨r5, M, h⟩ := ob_some h
 refine AW.region (AO.r 1 [.o 0 0] I ⟨I, J⟩ (AO.c (L.zfta_ok _ _ M) (AO.q 1 I (AO.nil (AW.z I (AW.ch h I ?_ ?_))))))
 intro O h
 refine AW.z I (AW.ghost g0 ?_)
 obtain rfl := oi h
 exact AW.ret pr
 intro O h
 refine AW.skip ?_
 subst K
 refine AW.seqG (fun y8 P => (AW.cutX (fun s ob => ∃ (p : Bool), L.zkzk.J1 b a p = some r ∧ s = [(26, .v (.bool p))] ∧ ob = [.arr g 32 6 1 [Network.row b], .arr i 39 4 1 [Desk.row a]]) [(2, _), (3, _)] ⟨I, I, J⟩ ?_ ?_))
 refine AW.rd (pd 11 0 [4, 9]) [1, 0] [_, _] I (AP.r 4 [.o 1 0, .l 2 (a.Valves.length : Int), .o 3 1] I ⟨I, len_m, I, J⟩ (AP.c I (L.zwom_ok b _ I) (AP.q 2 I ?_)))
 rcases bt (((a.Valves.length : Int) != (L.zwom b))) with e | e
 replace h := ife_t e h
 refine AP.known 22 I e (AP.q 4 I (AP.ofAO (AO.nil ?_)))
 exact lg ⟨true, h, I, I⟩ [0, 1]
 replace h := ife_f e h
 obtain ⟨Q, R, h⟩ := ob_some h
 refine AP.known 22 I e (AP.r 2 [.o 1 0] I ⟨I, J⟩ (AP.cG I (L.zfxq_ok _ (.v (.func (.func 124) #[] #[])) I (fun x => some (L.zfpn x)) (fun x r h => by obtain I := oi h; exact L.zfpn_ok x _ I) _ R) (AP.q 1 I (AP.ofAO (AO.nil ?_)))))
 exact lg ⟨Q, h, I, I⟩ [0, 1]
 rintro s ob ⟨p, h, rfl, rfl⟩
 unfold L.zkzk.J1 at h
 refine AW.ch h I ?_ ?_
 intro S h
 refine AW.z I (AW.ghost g0 ?_)
 obtain rfl := oi h
 exact AW.ret pr
 intro S h
 refine AW.skip ?_
 subst P
 refine AW.seqG (fun az U => (AW.seq ?_))
 obtain ⟨a0, W, h⟩ := ob_some h
 refine AW.region (AO.r 2 [.o 0 0] I ⟨I, J⟩ (AO.d (Yd.loadO 1 0 1 I I I I I (y := .agg (Plan.row a.Plan)) I) I (AO.c (L.zmqu_ok _ _ _ W) (AO.q 1 I (AO.nil (AW.z I (AW.ch h I ?_ ?_)))))))
 intro X h
 refine AW.z I (AW.ghost g0 ?_)
 obtain rfl := oi h
 exact AW.ret pr
 intro X h
 refine AW.skip ?_
 subst U
 refine AW.seqG (fun a1 Y => ?_)
 obtain ⟨Z, aa, h⟩ := ob_some h
 refine AW.region (AO.r 2 [.o 0 0] I ⟨I, J⟩ (AO.d (Yd.loadO 1 0 1 I I I I I (y := .agg (Plan.row a.Plan)) I) I (AO.act [] I (AX.call0 I I I (L.zoqk_ok _ _ _ aa) dS ?_))))
 rintro _ _ ⟨rfl, rfl⟩
 refine AO.q 3 I (AO.act [] I (AX.alloc (cs := [.N, .N]) (m := 2) I I I I I dS (fun a2 => (AO.act [2] I (AX.st 2 0 0 [Lineup.row Z.1] I (AO.q 1 I (AO.nil ?_)))))))
 subst Y
 refine AW.seqG (fun a3 ab => (AW.z I (AW.ch h I ?_ ?_)))
 intro ac h
 refine AW.z I (AW.ghost g0 ?_)
 obtain rfl := oi h
 exact AW.ret pr
 intro ac h
 refine AW.skip ?_
 subst ab
 refine AW.cutX (fun s ob => ∃ (A : Unit), L.zkzk.J2 b a A = some r ∧ s = [] ∧ ob = [.arr g 32 6 1 [Network.row b], .arr i 39 4 1 [Desk.row a]]) [(2, _), (3, _)] ⟨I, I, J⟩ ?_ ?_
 refine AW.seqG (fun a4 ad => ?_)
 obtain ⟨t, ae, h⟩ := ob_some h
 refine AW.region (AO.r 1 [.o 0 2] I ⟨I, J⟩ (AO.act [] I (AX.call0 I I I (L.zvjf_ok _ _ ae) dS ?_)))
 rintro _ _ ⟨B, rfl, rfl⟩
 refine AO.d (Yd.lenUM 3 I I I I) I (AO.q 1 I (AO.nil ?_))
 subst ad
 refine AW.block (AW.um 3 I (fun af => ?_))
 obtain ⟨a5, ag, D⟩ := ob_some h
 clear h
 refine AW.forIX ag [(2, _), (3, _), (45, _), (46, _)] ⟨I, I, I, I, J⟩ (fun (u : Nat) (E : Unit) s ob => s = [(47, .V (u : Int))] ∧ ob = [.arr g 32 6 1 [Network.row b], .arr i 39 4 1 [Desk.row a], .us B 4 1 (t.map rB)]) ⟨I, I⟩ ⟨I, J⟩ ⟨[0, 1, 3], I, by decide⟩ ?_ ?_
 rintro u E ah s ob F ⟨rfl, rfl⟩ h ai
 unfold L.zkzk.B3 at h
 have aj := lt_t F
 refine AW.z I (AW.seqG (fun a6 ak => (AW.condK (v := true) I aj (AW.skip ?_))))
 subst ak
 refine AW.seq (AW.block (AW.seqG (fun a7 al => ?_)))
 obtain ⟨j, ⟨am, G⟩, h⟩ := ob_ix h
 refine AW.region (AO.q 1 I (AO.d (Yd.indexU 2 (m := j.1) I I I I I I I am (map_get G)) I (AO.d (Yd.loadU 2 j.1 0 I I I (map_get G) I (y := .v (.bool j.2)) I) I (AO.q 2 I (AO.nil ?_)))))
 subst al
 refine AW.cutX (fun s ob => ∃ (w : Bool), L.zkzk.J4 w = some ah ∧ s = [(61, .v (.bool w))] ∧ ob = [.arr g 32 6 1 [Network.row b], .arr i 39 4 1 [Desk.row a], .us B 4 1 (t.map rB)]) [(2, _), (3, _), (45, _), (46, _), (47, _)] ⟨I, I, I, I, I, J⟩ ?_ ?_
 refine AW.region (AO.q 2 I ?_)
 rcases bt (j.2) with f | f
 replace h := ife_t f h
 obtain ⟨n, ⟨an, ao⟩, h⟩ := ob_ix h
 refine AO.known 53 I f (AO.r 5 [.o 1 1, .x 3 n.1 (Valve.row n.2)] I ⟨⟨an, map_get ao⟩, I, J⟩ (AO.gt I I I (AO.c (L.zayo_ok n.2 _ I) (AO.q 2 I (AO.nil ?_)))))
 exact lg ⟨(!(L.zayo n.2)), h, I, I⟩ [0, 1, 2]
 replace h := ife_f f h
 refine AO.known 53 I f (AO.q 8 I (AO.nil ?_))
 exact lg ⟨false, h, I, I⟩ [0, 1, 2]
 rintro s ob ⟨w, h, rfl, rfl⟩
 unfold L.zkzk.J4 at h
 refine AW.ch h I ?_ ?_
 intro ap h
 refine AW.z I ?_
 obtain rfl := ai _ (oi h).symm
 replace h := D
 replace h := se_r h
 refine AW.ghost g0 ?_
 obtain rfl := oi h
 exact AW.ret pr
 intro ap h
 refine AW.skip (AW.region (AO.r 2 [.k 0 (u + 1 : Nat)] I ⟨cast_wr F af, J⟩ ?_))
 obtain rfl := oi h
 refine AO.nil ?_
 exact ⟨_, _, _, I, ⟨I, I⟩, ⟨I, I, I, I, I, J⟩, [0, 1, 2], I, by decide⟩
 rintro E s ob ⟨rfl, rfl⟩ he
 subst he
 have h := se_l D
 have aq := lt_f t.length
 refine AW.z I (AW.seqG (fun a8 a9 => (AW.condK (v := false) I aq (AW.exit ?_))))
 exact lg ⟨(), h, I, I⟩ [0, 1]
 rintro s ob ⟨A, h, rfl, rfl⟩
 unfold L.zkzk.J2 at h
 refine AW.seq (AW.seq ?_)
 obtain ⟨ba, ar, h⟩ := ob_some h
 refine AW.region (AO.r 2 [.o 0 0] I ⟨I, J⟩ (AO.d (Yd.loadO 1 0 1 I I I I I (y := .agg (Plan.row a.Plan)) I) I (AO.c (L.zoxj_ok _ _ _ ar) (AO.nil (AW.ch h I ?_ ?_)))))
 intro au h
 refine AW.z I (AW.ghost g0 ?_)
 obtain rfl := oi h
 exact AW.ret pr
 intro au h
 refine AW.skip (AW.z I (AW.ghost g0 ?_))
 obtain rfl := oi h
 exact AW.ret pr
theorem L.zdgq_ok (e : List Path) (p : List Path) (r : List Int) (h : L.zdgq e p = some r) : ACalls Tryz.env 56 [.list 4 (e.map Path.row), .list 4 (p.map Path.row)] [] (fun x new => ∃ (t : Value), x = .v t ∧ new = [.us t 3 1 (r.map rI)]) := by
 refine ACalls.of_body Tryz.func56 rfl rfl rfl (fun C hC => ?_)
 unfold L.zdgq at h
 refine AW.z I (AW.z I (AW.cutX (fun s ob => ∃ (f : List Int) (d : Value), L.zdgq.J1 f = some r ∧ s = [(5, .v d)] ∧ ob = [.us d 3 1 (f.map rI)]) [] J ?_ ?_))
 refine AW.zr [.l 1 (e.length : Int)] I ⟨len_m, J⟩ (AW.block (AW.lm 10 I (fun w => (AW.ghost (Ghost.nilU 3 1) ?_))))
 obtain ⟨U, y, A⟩ := ob_some h
 clear h
 refine AW.forY y [(1, _), (10, _), (11, _)] ⟨I, I, I, J⟩ (fun (g : Nat) (a : List Int) s ob => ∃ (b : Value), s = [(12, .V (g : Int)), (5, .v b)] ∧ ob = [.us b 3 1 (a.map rI)]) ⟨(.slice none 0 0), I, I⟩ ⟨I, I, J⟩ ⟨[0], I, by decide⟩ ?_ ?_
 rintro g j a B s ob D u ⟨b, rfl, rfl⟩ h
 unfold L.zdgq.B2 at h
 have E := lt_t u
 refine AW.z I (AW.seqG (fun W F => (AW.condK (v := true) I E (AW.skip ?_))))
 subst F
 refine AW.seq (AW.block (AW.seqG (fun X G => (AW.region (AO.r 2 [.x 0 g (Path.row j)] I ⟨⟨I, map_get D⟩, J⟩ (AO.act [] I (AX.alloc (cs := [.V 0, .V 0, .N, .V 0]) (m := 4) I I I I I dS (fun Y => (AO.act [1] I (AX.st 1 0 0 [Path.row j] I (AO.nil ?_)))))))))))
 subst G
 refine AW.z I (AW.cutX (fun s ob => ∃ (i : Int), L.zdgq.J3 a i = some B ∧ s = [(8, .V i)] ∧ ob = [.us b 3 1 (a.map rI)]) [(1, _), (5, _), (10, _), (11, _), (12, _)] ⟨I, I, I, I, I, J⟩ ?_ ?_)
 refine AW.seqG (fun Z H => ?_)
 obtain ⟨aa, K, h⟩ := ob_some h
 refine AW.region (AO.r 2 [.o 1 1] I ⟨I, J⟩ (AO.c (L.zdhf_ok _ _ _ K) (AO.q 1 I (AO.nil ?_))))
 subst H
 refine AW.z I (AW.ch h I ?_ ?_)
 intro M h
 obtain ⟨n, ⟨O, P⟩, h⟩ := ob_ix h
 refine AW.dt (pd 9 0 []) [1] [_] [.o 1 0, .x 4 n.1 (Path.row n.2)] I I ⟨⟨O, map_get P⟩, I, J⟩ ?_
 exact lg ⟨(min j.Rate n.2.Rate), h, I, I⟩ [0]
 intro M h
 refine AW.skip ?_
 exact lg ⟨0, h, I, I⟩ [0]
 rintro s ob ⟨i, h, rfl, rfl⟩
 unfold L.zdgq.J3 at h
 obtain ⟨ab, Q, h⟩ := ob_some h
 refine AW.region (AO.q 2 I (AO.act [] I (AX.lt 1 (([i] : List Int).map rI) (AO.act [0] I (AX.ap 0 I Q (fun R => (AO.q 1 I (AO.nil (AW.region (AO.r 2 [.k 0 (g + 1 : Nat)] I ⟨cast_wr u w, J⟩ ?_))))))))))
 obtain rfl := oi h
 refine AO.nil ?_
 exact lg ⟨R, I, I⟩ [0]
 rintro a s ob ⟨b, rfl, rfl⟩ he
 subst he
 have h := A
 have S := lt_f e.length
 refine AW.z I (AW.seqG (fun ac ad => (AW.condK (v := false) I S (AW.exit ?_))))
 exact lg ⟨a, b, h, I, I⟩ [0]
 rintro s ob ⟨f, d, h, rfl, rfl⟩
 unfold L.zdgq.J1 at h
 refine AW.z I ?_
 obtain rfl := oi h
 exact AW.ret ⟨.inr I, [_], [.us d 3 1 (f.map rI)], ⟨I, J⟩, sl_c I (sl_n), ⟨d, I, I⟩⟩
theorem L.zygk_ok (p : Network) (H : List Path) (M : List Path) (r : Plan) (h : L.zygk p H M = some r) : ACalls Tryz.env 54 [.agg (Network.row p), .list 4 (H.map Path.row), .list 4 (M.map Path.row)] [] (fun x new => x = .agg (Plan.row r) ∧ new = []) := by
 refine ACalls.of_body Tryz.func54 rfl rfl rfl (fun C hC => ?_)
 unfold L.zygk at h
 refine AW.seqG (fun y1 ab => (AW.region (AO.act [] I (AX.box (cs := Network.row p) (m := 6) I I I dS (fun b2 => (AO.act [] I (AX.alloc (cs := [.N, .N, .N]) (m := 3) I I I I I dS (fun E => (AO.nil ?_)))))))))
 subst ab
 refine AW.cutX (fun s ob => ∃ (c : (List Int) × (List Int) × (List Bool)) (e : Nat) (t : Value) (u : Value) (F : Value), L.zygk.J1 H M c = some r ∧ s = [(7, .v (.pointer (some ⟨e, 0, none⟩)))] ∧ ob = [.arr E 37 3 1 [[.N, .N, .N]], .us t 3 1 (c.1.map rI), .us u 3 1 (c.2.1.map rI), .us F 4 1 (c.2.2.map rB), .arr e 37 3 1 [[.v t, .v u, .v F]]]) [(1, _), (2, _), (6, _)] ⟨I, I, I, J⟩ ?_ ?_
 obtain ⟨Q, ⟨a2, ac, ad, ae⟩, h⟩ := ob_mk h
 obtain ⟨R, ⟨a3, af, ag, ah⟩, h⟩ := ob_mk h
 obtain ⟨S, ⟨a4, ai, aj, ak⟩, h⟩ := ob_mk h
 refine AW.rd (.still 0 (.still 1 (.still 2 (.still 4 (.still 5 (.still 6 (.still 8 (.still 9 (.still 10 (.par [(3, []), (7, []), (11, []), (13, []), (12, [3, 7, 11])] (.act 14 .nil))))))))))) [0] [_] I (AP.r 9 [.o 1 0, .l 2 (p.Segments.length : Int), .o 4 0, .l 5 (p.Ports.length : Int), .o 7 0, .l 8 (p.Stations.length : Int)] I ⟨len_m, I, len_m, I, len_m, I, J⟩ (AP.any [⟨3, [], 13, .us 3 1 (Q.map rI)⟩, ⟨7, [], 17, .us 3 1 (R.map rI)⟩, ⟨11, [], 21, .us 4 1 (S.map rB)⟩, ⟨13, [], 7, .box 37 3 ([.N, .N, .N])⟩, ⟨12, [3, 7, 11], 22, .fn (fun l => match l with | [.v i, .v j, .v n] => .agg [.v i, .v j, .v n] | _ => .tup [])⟩] I ⟨⟨_, I, I, I, fun _ => AX.makeU (sz := 1) I I I I I I I I I I ac ad (rep_map (f := rI) ae I) dS (fun v => ⟨_, I, ⟨v, I⟩, I⟩)⟩, ⟨_, I, I, I, fun _ => AX.makeU (sz := 1) I I I I I I I I I I af ag (rep_map (f := rI) ah I) dS (fun v => ⟨_, I, ⟨v, I⟩, I⟩)⟩, ⟨_, I, I, I, fun _ => AX.makeU (sz := 1) I I I I I I I I I I ai aj (rep_map (f := rB) ak I) dS (fun v => ⟨_, I, ⟨v, I⟩, I⟩)⟩, ⟨_, I, I, I, fun _ => AX.alloc (cs := [.N, .N, .N]) (m := 3) I I I I I dS (fun b => ⟨_, I, ⟨b, I⟩, I⟩)⟩, ⟨_, I, I, I, fun i U j W n X _ => AX.of_yd (Yp.yd (Yp.buildP (l := [.v i, .v j, .v n]) Tryz.bld37 (fill_step I I (cells_v U) I (fill_step I I (cells_v W) I (fill_step I I (cells_v X) I (fill_nil)))))) dS ⟨_, I, I, nb⟩⟩, J⟩ ?_))
 intro i U j W n X al
 refine AP.same 22 (.agg [.v i, .v j, .v n]) I (AP.act [5] I I I (AX.st 5 0 0 [[.v i, .v j, .v n]] I (AP.ofAO (AO.nil ?_))))
 exact lg ⟨(Q, R, S), al, i, j, n, h, I, I⟩ [1, 2, 3, 4, 5]
 rintro s ob ⟨c, e, t, u, F, h, rfl, rfl⟩
 unfold L.zygk.J1 at h
 refine AW.cutX (fun s ob => ∃ (a : (List Int) × (List Int) × (List Bool)) (w : Value) (A : Value), L.zygk.J2 a = some r ∧ s = [] ∧ ob = [.arr E 37 3 1 [[.N, .N, .N]], .us w 3 1 (a.1.map rI), .us A 3 1 (a.2.1.map rI), .arr e 37 3 1 [[.v w, .v A, .list 1 (a.2.2.map rB)]]]) [(6, _), (7, _)] ⟨I, I, J⟩ ?_ ?_
 refine AW.seqG (fun a5 am => ?_)
 obtain ⟨O, an, h⟩ := ob_some h
 refine AW.region (AO.q 2 I (AO.act [] I (AX.call0 I I I (L.zprq_ok _ _ _ an) dS ?_)))
 rintro _ _ ⟨Y, rfl, rfl⟩
 refine AO.d (Yd.lenUM 5 I I I I) I (AO.q 1 I (AO.nil ?_))
 subst am
 refine AW.block (AW.um 5 I (fun ao => (AW.ghost (Ghost.freeze [3] (K := [.us F 4 1 (c.2.2.map rB)]) I [] J (ob' := [.arr E 37 3 1 [[.N, .N, .N]], .us t 3 1 (c.1.map rI), .us u 3 1 (c.2.1.map rI), .arr e 37 3 1 [[.v t, .v u, .list 1 (c.2.2.map rB)]], .us Y 52 4 (O.map Path.row)]) (.cons (.same _) (.cons (.same _) (.cons (.same _) (.cons (.arr (.cons (.refl _) (.cons (.refl _) (.cons (.us 0 I) (.rest _))))) (.rest _)))))) ?_)))
 obtain ⟨a6, ap, aq⟩ := ob_some h
 clear h
 refine AW.forJY ap [(6, _), (7, _), (25, _), (26, _)] ⟨I, I, I, I, J⟩ (fun (P : Nat) (g : (List Int) × (List Int) × (List Bool)) s ob => ∃ (B : Value) (D : Value), s = [(27, .V (P : Int))] ∧ ob = [.arr E 37 3 1 [[.N, .N, .N]], .us B 3 1 (g.1.map rI), .us D 3 1 (g.2.1.map rI), .arr e 37 3 1 [[.v B, .v D, .list 1 (g.2.2.map rB)]], .us Y 52 4 (O.map Path.row)]) ⟨t, u, I, I⟩ ⟨I, J⟩ ⟨[0, 1, 2, 3, 4], I, by decide⟩ ?_ ?_
 rintro P g a7 s ob Z ⟨B, D, rfl, rfl⟩ h
 unfold L.zygk.B3 at h
 have ar := lt_t Z
 refine AW.z I (AW.seqG (fun a8 au => (AW.condK (v := true) I ar (AW.skip ?_))))
 subst au
 refine AW.seq (AW.block (AW.seq ?_))
 obtain ⟨G, ⟨av, aa⟩, h⟩ := ob_ix h
 refine AW.region (AO.d (Yd.indexU 4 (m := G.1) I I I I I I I av (map_get aa)) I (AO.d (Yd.loadU 4 G.1 0 I I I (map_get aa) I (y := .agg (Path.row G.2)) I) I (AO.act [] I (AX.alloc (cs := [.V 0, .V 0, .N, .V 0]) (m := 4) I I I I I dS (fun a9 => (AO.act [5] I (AX.st 5 0 0 [Path.row G.2] I (AO.nil ?_))))))))
 obtain ⟨ba, aw, h⟩ := ob_some h
 refine AW.region (AO.r 3 [.o 0 5, .o 2 5] I ⟨I, I, J⟩ (AO.act [3, 1, 2] I (AX.cg [3, 1, 2] (L.zvqh_ok e _ B D _ _ _ aw) ?_)))
 rintro _ _ _ - ⟨ax, ay, rfl, rfl, rfl⟩
 refine AO.nil (AW.region (AO.r 2 [.k 0 (P + 1 : Nat)] I ⟨cast_wr Z ao, J⟩ ?_))
 obtain rfl := oi h
 refine AO.nil ?_
 exact lg ⟨ax, ay, I, I⟩ [0, 1, 2, 3, 4]
 rintro g s ob ⟨B, D, rfl, rfl⟩ he
 subst he
 have h := aq
 have az := lt_f O.length
 refine AW.z I (AW.seqG (fun bb bc => (AW.condK (v := false) I az (AW.exit ?_))))
 exact lg ⟨(g.1, g.2.1, g.2.2), B, D, h, I, I⟩ [0, 1, 2, 3]
 rintro s ob ⟨a, w, A, h, rfl, rfl⟩
 unfold L.zygk.J2 at h
 refine AW.seq (AW.region (AO.r 1 [.o 0 3] I ⟨I, J⟩ (AO.act [0] I (AX.st 0 0 0 [[.v w, .v A, .list 1 (a.2.2.map rB)]] I (AO.nil (AW.ghost (Ghost.freeze [1, 2] (K := [.us w 3 1 (a.1.map rI), .us A 3 1 (a.2.1.map rI)]) I [] J (ob' := [.arr E 37 3 1 [[.list 1 (a.1.map rI), .list 1 (a.2.1.map rI), .list 1 (a.2.2.map rB)]], .arr e 37 3 1 [[.v w, .v A, .list 1 (a.2.2.map rB)]]]) (.cons (.arr (.cons (.us 0 I) (.cons (.us 1 I) (.rest _)))) (.rest _))) (AW.gp [0] I ?_)))))))
 obtain rfl := oi h
 exact AW.ret ⟨.inr I, [_], [], ⟨⟨0, _, _, _, _, _, _, _, I, I, I, I, I⟩, J⟩, sl_n, I, I⟩
theorem L.zppq_ok (n : Desk) (a : Int) (y : List Bool) (r : (List Step) × Int × Bool) (h : L.zppq n a y = some r) : ACalls Tryz.env 57 [.agg (Desk.row n), .V a, .list 1 (y.map rB)] [] (fun x new => ∃ (Q : Value), x = .tup [.v Q, .V r.2.1, .v (.bool r.2.2)] ∧ new = [.us Q 54 7 (r.1.map Step.row)]) := by
 refine ACalls.of_body Tryz.func57 rfl rfl rfl (fun C hC => ?_)
 unfold L.zppq at h
 refine AW.seqG (fun y1 aa => (AW.region (AO.act [] I (AX.box (cs := Desk.row n) (m := 4) I I I dS (fun b2 => (AO.q 3 I (AO.nil ?_)))))))
 subst aa
 refine AW.z I (AW.z I (AW.cutX (fun s ob => ∃ (t : (List Step) × (List Step) × Int) (F : Value) (G : Value), L.zppq.J1 t = some r ∧ s = [(9, .v F), (10, .v G), (11, .V t.2.2)] ∧ ob = [.us F 54 7 (t.1.map Step.row), .us G 54 7 (t.2.1.map Step.row)]) [] J ?_ ?_))
 refine AW.zr [.o 1 0, .l 2 (n.Valves.length : Int)] I ⟨len_m, I, J⟩ (AW.block (AW.lm 20 I (fun ab => (AW.ghost (Ghost.nilU 54 7) (AW.ghost (Ghost.nilU 54 7) ?_)))))
 obtain ⟨bb, ac, H⟩ := ob_some h
 clear h
 refine AW.forX ac [(1, _), (2, _), (20, _), (21, _)] ⟨I, I, I, I, J⟩ (fun (e : Nat) (d : (List Step) × (List Step) × Int) s ob => ∃ (g : Value) (i : Value), s = [(22, .V (e : Int)), (9, .v g), (10, .v i), (11, .V d.2.2)] ∧ ob = [.us g 54 7 (d.1.map Step.row), .us i 54 7 (d.2.1.map Step.row)]) ⟨(.slice none 0 0), (.slice none 0 0), I, I⟩ ⟨I, I, I, I, J⟩ ⟨[1, 2], I, by decide⟩ ?_ ?_
 rintro e b d M s ob ad R ⟨g, i, rfl, rfl⟩ h S
 unfold L.zppq.B2 at h
 have ae := lt_t R
 refine AW.z I (AW.seqG (fun bc af => (AW.condK (v := true) I ae (AW.skip ?_))))
 subst af
 refine AW.cutX (fun s ob => ∃ (u : (List Step) × (List Step) × Int) (A : Value) (B : Value), L.zppq.J3 u = some M ∧ s = [(9, .v A), (10, .v B), (11, .V u.2.2)] ∧ ob = [.us A 54 7 (u.1.map Step.row), .us B 54 7 (u.2.1.map Step.row)]) [(1, _), (2, _), (20, _), (21, _), (22, _)] ⟨I, I, I, I, I, J⟩ ?_ ?_
 refine AW.block (AW.seqG (fun bd ag => (AW.region (AO.r 3 [.x 1 e (Valve.row b)] I ⟨⟨I, map_get ad⟩, J⟩ (AO.act [] I (AX.alloc (cs := [.V 0, .V 0, .v (.bool false), .v (.bool false)]) (m := 4) I I I I I dS (fun be => (AO.q 1 I (AO.act [2] I (AX.st 2 0 0 [Valve.row b] I (AO.nil ?_)))))))))))
 subst ag
 refine AW.seqG (fun bf ah => (AW.region (AO.r 3 [.o 0 2] I ⟨I, J⟩ (AO.c (L.zwje_ok b (min a 60) _ I) (AO.q 3 I (AO.act [] I (AX.alloc (cs := [.V 0, .V 0, .v (.bool false), .v (.bool false)]) (m := 4) I I I I I dS (fun D => (AO.act [3] I (AX.st 3 0 0 [Valve.row ((L.zwje b (min a 60)).1)] I (AO.q 1 I (AO.nil ?_))))))))))))
 subst ah
 refine AW.seqG (fun bg ai => (AW.z I (AW.ch h I ?_ ?_)))
 intro aj h
 refine AW.z I ?_
 obtain rfl := S _ (oi h).symm
 replace h := H
 replace h := se_r h
 refine AW.ghost (Ghost.nilU 54 7) (AW.gp [4] I ?_)
 obtain rfl := oi h
 exact AW.ret ⟨.inr I, [_, _, _], [.us (.slice none 0 0) 54 7 ([].map Step.row)], ⟨I, I, I, J⟩, sl_c I (sl_n), ⟨(.slice none 0 0), I, I⟩⟩
 intro aj h
 refine AW.skip ?_
 subst ai
 refine AW.seqG (fun bh ak => (AW.region (AO.q 1 I (AO.p (Yp.buildP (l := [.V 2, .V (e : Int), .V 0, .V 0, .V 0, .N, .V 0]) Tryz.bld54 I) I (AO.act [] I (AX.alloc (cs := [.V 0, .V 0, .V 0, .V 0, .V 0, .N, .V 0]) (m := 7) I I I I I dS (fun E => (AO.act [4] I (AX.st 4 0 0 [[.V 2, .V (e : Int), .V 0, .V 0, .V 0, .N, .V 0]] I (AO.nil ?_))))))))))
 subst ak
 refine AW.seqG (fun bi al => (AW.region (AO.r 1 [.o 0 3] I ⟨I, J⟩ (AO.c (L.zaik_ok ((L.zwje b (min a 60)).1) _ I) (AO.q 1 I (AO.nil ?_))))))
 subst al
 refine AW.cutX (fun s ob => ∃ (f : Int × Bool), L.zppq.J4 a y e b d f = some M ∧ s = [(17, .v (.bool f.2))] ∧ ob = [.us g 54 7 (d.1.map Step.row), .us i 54 7 (d.2.1.map Step.row), .arr D 74 4 1 [Valve.row ((L.zwje b (min a 60)).1)], .arr E 54 7 1 [[.V f.1, .V (e : Int), .V 0, .V 0, .V 0, .N, .V 0]]]) [(1, _), (2, _), (9, _), (10, _), (11, _), (12, _), (14, _), (16, _), (20, _), (21, _), (22, _)] ⟨I, I, I, I, I, I, I, I, I, I, I, J⟩ ?_ ?_
 refine AW.seq ?_
 obtain ⟨U, ⟨am, an⟩, h⟩ := ob_ix h
 refine AW.tr [.x 2 U.1 (rB U.2)] I ⟨⟨am, map_get an⟩, J⟩ (AW.ch h I ?_ ?_)
 intro ao h
 refine AW.region (AO.r 1 [.o 0 3] I ⟨I, J⟩ (AO.c (L.zeio_ok ((L.zwje b (min a 60)).1) _ I) (AO.q 1 I (AO.act [4] I (AX.st 4 0 0 [[.V 1, .V (e : Int), .V 0, .V 0, .V 0, .N, .V 0]] I (AO.q 1 I (AO.nil ?_)))))))
 exact lg ⟨(1, (L.zeio ((L.zwje b (min a 60)).1))), h, I, I⟩ [0, 1, 3, 4]
 intro ao h
 refine AW.skip ?_
 exact lg ⟨(2, (L.zaik ((L.zwje b (min a 60)).1))), h, I, I⟩ [0, 1, 3, 4]
 rintro s ob ⟨f, h, rfl, rfl⟩
 unfold L.zppq.J4 at h
 refine AW.seqG (fun bj aq => (AW.cutX (fun s ob => ∃ (O : Bool), L.zppq.J5 a y e b d f O = some M ∧ s = [(56, .v (.bool O))] ∧ ob = [.us g 54 7 (d.1.map Step.row), .us i 54 7 (d.2.1.map Step.row), .arr D 74 4 1 [Valve.row ((L.zwje b (min a 60)).1)], .arr E 54 7 1 [[.V f.1, .V (e : Int), .V 0, .V 0, .V 0, .N, .V 0]]]) [(1, _), (2, _), (9, _), (10, _), (11, _), (12, _), (14, _), (16, _), (20, _), (21, _), (22, _)] ⟨I, I, I, I, I, I, I, I, I, I, I, J⟩ ?_ ?_))
 rcases bt (f.2) with w | w
 replace h := ife_t w h
 obtain ⟨P, ⟨ar, au⟩, h⟩ := ob_ix h
 refine AW.rd (pd 10 0 []) [2] [_] I (AP.q 2 I (AP.known 48 I w (AP.r 6 [.o 1 0, .x 4 P.1 (rB P.2)] I ⟨⟨ar, map_get au⟩, I, J⟩ (AP.oldG I I I I ((Yp.eqB I I I I).yd) dS (AP.q 1 I (AP.ofAO (AO.nil ?_)))))))
 exact lg ⟨(((L.zwje b (min a 60)).1).Want == P.2), h, I, I⟩ [0, 1, 2, 3]
 replace h := ife_f w h
 refine AW.rd (pd 10 0 []) [] [] I (AP.q 2 I (AP.known 48 I w (AP.q 8 I (AP.ofAO (AO.nil ?_)))))
 exact lg ⟨false, h, I, I⟩ [0, 1, 2, 3]
 rintro s ob ⟨O, h, rfl, rfl⟩
 unfold L.zppq.J5 at h
 refine AW.ch h I ?_ ?_
 intro av h
 refine AW.exit ?_
 exact lg ⟨(d.1, d.2.1, d.2.2), g, i, h, I, I⟩ [0, 1]
 intro av h
 refine AW.skip ?_
 subst aq
 refine AW.seqG (fun bk aw => ?_)
 obtain ⟨j, ⟨W, X⟩, h⟩ := ob_ix h
 refine AW.region (AO.r 5 [.x 2 j.1 (rB j.2)] I ⟨⟨W, map_get X⟩, J⟩ (AO.act [2] I (AX.st 2 0 2 [[.V (((L.zwje b (min a 60)).1).Travel), .V (((L.zwje b (min a 60)).1).Open), .v (.bool j.2), .v (.bool (((L.zwje b (min a 60)).1).Stuck))]] I (AO.nil ?_))))
 subst aw
 refine AW.seqG (fun bl ax => (AW.region (AO.r 1 [.o 0 2] I ⟨I, J⟩ (AO.c (L.zvdf_ok (⟨((L.zwje b (min a 60)).1).Travel, ((L.zwje b (min a 60)).1).Open, j.2, ((L.zwje b (min a 60)).1).Stuck⟩ : Valve) _ I) (AO.q 1 I (AO.nil ?_))))))
 subst ax
 refine AW.seqG (fun bm ay => (AW.z I (AW.ch h I ?_ ?_)))
 intro az h
 refine AW.z I ?_
 obtain rfl := S _ (oi h).symm
 replace h := H
 replace h := se_r h
 refine AW.ghost (Ghost.nilU 54 7) (AW.gp [4] I ?_)
 obtain rfl := oi h
 exact AW.ret ⟨.inr I, [_, _, _], [.us (.slice none 0 0) 54 7 ([].map Step.row)], ⟨I, I, I, J⟩, sl_c I (sl_n), ⟨(.slice none 0 0), I, I⟩⟩
 intro az h
 refine AW.skip ?_
 subst ay
 refine AW.z I (AW.zr [.x 2 j.1 (rB j.2)] I ⟨⟨W, map_get X⟩, J⟩ (AW.ch h I ?_ ?_))
 intro a0 h
 obtain ⟨a1, a2, h⟩ := ob_some h
 refine AW.region (AO.r 2 [.o 1 3] I ⟨I, J⟩ (AO.ghost (Ghost.freeze [] (K := []) I [(74, .agg [.V f.1, .V (e : Int), .V 0, .V 0, .V 0, .list 2 ([].map Hop.row), .V 0])] ⟨⟨_, I, .agg (.cons (.refl _) (.cons (.refl _) (.cons (.refl _) (.cons (.refl _) (.cons (.refl _) (.cons (.nil _) (.rest _)))))))⟩, J⟩ (ob' := [.us g 54 7 (d.1.map Step.row), .us i 54 7 (d.2.1.map Step.row), .arr D 74 4 1 [[.V (((L.zwje b (min a 60)).1).Travel), .V (((L.zwje b (min a 60)).1).Open), .v (.bool j.2), .v (.bool (((L.zwje b (min a 60)).1).Stuck))]], .arr E 54 7 1 [[.V f.1, .V (e : Int), .V 0, .V 0, .V 0, .N, .V 0]]]) (.rest _)) (AO.act [] I (AX.lt 7 (([(⟨f.1, (e : Int), 0, (⟨0, 0, [], 0⟩ : Path)⟩ : Step)] : List Step).map Step.row) (AO.act [1] I (AX.ap 1 I a2 (fun a3 => (AO.q 1 I (AO.nil ?_)))))))))
 exact lg ⟨(d.1, a1, (max d.2.2 (L.zvdf (⟨((L.zwje b (min a 60)).1).Travel, ((L.zwje b (min a 60)).1).Open, j.2, ((L.zwje b (min a 60)).1).Stuck⟩ : Valve)))), g, a3, h, I, I⟩ [0, 1]
 intro a0 h
 obtain ⟨a4, a5, h⟩ := ob_some h
 refine AW.region (AO.r 2 [.o 1 3] I ⟨I, J⟩ (AO.ghost (Ghost.freeze [] (K := []) I [(78, .agg [.V f.1, .V (e : Int), .V 0, .V 0, .V 0, .list 2 ([].map Hop.row), .V 0])] ⟨⟨_, I, .agg (.cons (.refl _) (.cons (.refl _) (.cons (.refl _) (.cons (.refl _) (.cons (.refl _) (.cons (.nil _) (.rest _)))))))⟩, J⟩ (ob' := [.us g 54 7 (d.1.map Step.row), .us i 54 7 (d.2.1.map Step.row), .arr D 74 4 1 [[.V (((L.zwje b (min a 60)).1).Travel), .V (((L.zwje b (min a 60)).1).Open), .v (.bool j.2), .v (.bool (((L.zwje b (min a 60)).1).Stuck))]], .arr E 54 7 1 [[.V f.1, .V (e : Int), .V 0, .V 0, .V 0, .N, .V 0]]]) (.rest _)) (AO.act [] I (AX.lt 7 (([(⟨f.1, (e : Int), 0, (⟨0, 0, [], 0⟩ : Path)⟩ : Step)] : List Step).map Step.row) (AO.act [0] I (AX.ap 0 I a5 (fun a6 => (AO.q 1 I (AO.nil ?_)))))))))
 exact lg ⟨(a4, d.2.1, (max d.2.2 (L.zvdf (⟨((L.zwje b (min a 60)).1).Travel, ((L.zwje b (min a 60)).1).Open, j.2, ((L.zwje b (min a 60)).1).Stuck⟩ : Valve)))), a6, i, h, I, I⟩ [0, 1]
 rintro s ob ⟨u, A, B, h, rfl, rfl⟩
 unfold L.zppq.J3 at h
 refine AW.region (AO.r 2 [.k 0 (e + 1 : Nat)] I ⟨cast_wr R ab, J⟩ ?_)
 obtain rfl := oi h
 refine AO.nil ?_
 exact ⟨_, _, _, I, ⟨A, B, I, I⟩, ⟨I, I, I, I, I, I, I, I, J⟩, [0, 1], I, by decide⟩
 rintro d s ob ⟨g, i, rfl, rfl⟩ he
 subst he
 have h := se_l H
 have a7 := lt_f n.Valves.length
 refine AW.z I (AW.seqG (fun bn bo => (AW.condK (v := false) I a7 (AW.exit ?_))))
 exact lg ⟨(d.1, d.2.1, d.2.2), g, i, h, I, I⟩ [0, 1]
 rintro s ob ⟨t, F, G, h, rfl, rfl⟩
 unfold L.zppq.J1 at h
 refine AW.seq ?_
 obtain ⟨a8, Y, h⟩ := ob_some h
 refine AW.region (AO.q 2 I (AO.act [0] I (AX.appendU 0 I I I I I I I I I (AppSrc.own 1 I I) (app_len (app_some Y).1) (app_map (app_some Y).2) dS (fun Z => (AO.q 4 I (AO.nil (AW.gp [0] I ?_)))))))
 obtain rfl := oi h
 exact AW.ret ⟨.inr I, [_, _, _], [.us Z 54 7 (a8.map Step.row)], ⟨I, I, I, J⟩, sl_c I (sl_n), ⟨Z, I, I⟩⟩
theorem L.zjgg_ok (g : Network) (i : Desk) (j : Plan) (b : Int) (e : Int) (r : Int) (h : L.zjgg g i j b e = some r) : ACalls Tryz.env 47 [.agg (Network.row g), .agg (Desk.row i), .agg (Plan.row j), .V b, .V e] [] (fun x new => x = .V r ∧ new = []) := by
 refine ACalls.of_body Tryz.func47 rfl rfl rfl (fun C hC => ?_)
 unfold L.zjgg at h
 refine AW.seqG (fun w k => (AW.region (AO.act [] I (AX.box (cs := Network.row g) (m := 6) I I I dS (fun y => (AO.act [] I (AX.box (cs := Desk.row i) (m := 4) I I I dS (fun A => (AO.act [] I (AX.box (cs := Plan.row j) (m := 3) I I I dS (fun B => (AO.q 1 I (AO.nil ?_)))))))))))))
 subst k
 refine AW.seqG (fun D l => (AW.seq ?_))
 obtain ⟨E, n, h⟩ := ob_some h
 refine AW.region (AO.r 2 [.o 0 0, .o 1 1] I ⟨I, I, J⟩ (AO.c (L.zkzk_ok _ _ _ n) (AO.q 1 I (AO.nil (AW.z I (AW.ch h I ?_ ?_))))))
 intro p h
 refine AW.z I (AW.ghost g0 ?_)
 obtain rfl := oi h
 exact AW.ret pr
 intro p h
 refine AW.skip ?_
 subst l
 refine AW.seqG (fun F s => (AW.seq ?_))
 obtain ⟨G, t, h⟩ := ob_some h
 refine AW.region (AO.r 2 [.o 0 0, .o 1 2] I ⟨I, I, J⟩ (AO.c (L.zmqu_ok _ _ _ t) (AO.q 1 I (AO.nil (AW.z I (AW.ch h I ?_ ?_))))))
 intro u h
 refine AW.z I (AW.ghost g0 ?_)
 obtain rfl := oi h
 exact AW.ret pr
 intro u h
 refine AW.skip ?_
 subst s
 refine AW.seq (AW.jb 38 (decide (b < 1) || (decide (b > 1000) || (decide (e < 0) || decide (e > 100)))) ?_ ?_)
 refine AW.region (AO.q 3 I ?_)
 rcases bt (decide (b < 1)) with a | a
 refine AO.known 27 I a (AO.q 11 I (AO.nil ?_))
 exact jf (by simp only [a, bz]) I I ⟨I, I⟩
 refine AO.known 27 I a (AO.q 4 I ?_)
 rcases bt (decide (b > 1000)) with d | d
 refine AO.known 31 I d (AO.q 7 I (AO.nil ?_))
 exact jf (by simp only [a, d, bz]) I I ⟨I, I⟩
 refine AO.known 31 I d (AO.q 4 I ?_)
 rcases bt (decide (e < 0)) with f | f
 refine AO.known 35 I f (AO.q 3 I (AO.nil ?_))
 exact jf (by simp only [a, d, f, bz]) I I ⟨I, I⟩
 refine AO.known 35 I f (AO.q 3 I (AO.nil ?_))
 exact jf (by simp only [a, d, f, bz]) I I ⟨I, I⟩
 refine AW.ch h I ?_ ?_
 intro v h
 refine AW.z I (AW.ghost g0 ?_)
 obtain rfl := oi h
 exact AW.ret pr
 intro v h
 refine AW.skip (AW.z I (AW.ghost g0 ?_))
 obtain rfl := oi h
 exact AW.ret pr
end Go.Proofs.YtmaamhgjeampmaaGreat
