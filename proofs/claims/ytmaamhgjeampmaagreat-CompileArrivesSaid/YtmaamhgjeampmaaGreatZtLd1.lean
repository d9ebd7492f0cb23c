/- Walks that show what functions of the program compute; printed by a program of ours. No condition. -/
import Derived.Test.YtmaamhgjeampmaaGreatZtL6
import Derived.Test.YtmaamhgjeampmaaGreatZtD
set_option maxRecDepth 100000
namespace Go.Proofs.YtmaamhgjeampmaaGreat
open Go.Aw
set_option linter.unusedVariables false
set_option linter.unusedSimpArgs false
set_option maxHeartbeats 4000000
theorem L.zcfu_ok (a : Network) (e : Plan) (b : Int) (r : Int × Int) (h : L.zcfu a e b = some r) : ACalls Tryz.env 84 [.agg (Network.row a), .agg (Plan.row e), .V b] [] (fun x new => x = .tup [.V r.1, .V r.2] ∧ new = []) := by
 refine ACalls.of_body Tryz.func84 rfl rfl rfl (fun C hC => ?_)
 unfold L.zcfu at h
 refine AW.seqG (fun s f => (AW.region (AO.act [] I (AX.box (cs := Network.row a) (m := 6) I I I dS (fun t => (AO.act [] I (AX.box (cs := Plan.row e) (m := 3) I I I dS (fun u => (AO.q 2 I (AO.nil ?_))))))))))
 subst f
 refine AW.seqG (fun v g => (AW.seq ?_))
 obtain ⟨w, i, h⟩ := ob_some h
 refine AW.region (AO.r 2 [.o 0 0, .o 1 1] I ⟨I, I, J⟩ (AO.c (L.zvqa_ok _ _ _ i) (AO.q 1 I (AO.nil (AW.z I (AW.ch h I ?_ ?_))))))
 intro j h
 refine AW.z I (AW.ghost g0 ?_)
 obtain rfl := oi h
 exact AW.ret ⟨.inr I, [_, _], [], ⟨I, I, J⟩, sl_n, I, I⟩
 intro j h
 refine AW.skip ?_
 subst g
 refine AW.seqG (fun y k => (AW.jb 25 (decide (b < 0) || decide (b ≥ (a.Nodes.length : Int))) ?_ ?_))
 refine AW.region (AO.q 3 I ?_)
 rcases bt (decide (b < 0)) with d | d
 refine AO.known 19 I d (AO.q 6 I (AO.nil ?_))
 exact jf (by simp only [d, bz]) I I ⟨I, I⟩
 refine AO.known 19 I d (AO.r 6 [.o 2 0, .l 3 (a.Nodes.length : Int)] I ⟨len_m, I, J⟩ (AO.nil ?_))
 exact jf (by simp only [d, bz]) I I ⟨I, I⟩
 refine AW.ch h I ?_ ?_
 intro n h
 refine AW.z I (AW.ghost g0 ?_)
 obtain rfl := oi h
 exact AW.ret ⟨.inr I, [_, _], [], ⟨I, I, J⟩, sl_n, I, I⟩
 intro n h
 refine AW.skip ?_
 subst k
 refine AW.seq ?_
 obtain ⟨A, p, h⟩ := ob_some h
 refine AW.region (AO.r 3 [.o 0 0, .o 1 1] I ⟨I, I, J⟩ (AO.c (L.zeew_ok _ _ _ _ p) (AO.q 5 I (AO.nil (AW.z I (AW.ghost g0 ?_))))))
 obtain rfl := oi h
 exact AW.ret ⟨.inr I, [_, _], [], ⟨I, I, J⟩, sl_n, I, I⟩
theorem L.zsid_ok (a : Valve) (r : Bool) (h : L.zsid a = r) : ACalls Tryz.env 106 [.agg (Valve.row a)] [] (fun x new => x = .v (.bool r) ∧ new = []) := by
 refine ACalls.of_body Tryz.func106 rfl rfl rfl (fun C hC => ?_)
 unfold L.zsid at h
 refine AW.seqG (fun f e => (AW.region (AO.act [] I (AX.box (cs := Valve.row a) (m := 4) I I I dS (fun g => (AO.q 1 I (AO.nil ?_)))))))
 subst e
 refine AW.cutX (fun s ob => s = [(2, .v (.bool (decide (a.Travel ≥ 1) && (decide (a.Travel ≤ 60) && (decide (a.Open ≥ 0) && decide (a.Open ≤ a.Travel))))))] ∧ ob = []) [] J ?_ ?_
 refine AW.region (AO.r 4 [.o 1 0] I ⟨I, J⟩ ?_)
 rcases bt (decide (a.Travel ≥ 1)) with b | b
 refine AO.known 6 I b (AO.r 5 [.o 1 0] I ⟨I, J⟩ ?_)
 rcases bt (decide (a.Travel ≤ 60)) with c | c
 refine AO.known 11 I c (AO.r 5 [.o 1 0] I ⟨I, J⟩ ?_)
 rcases bt (decide (a.Open ≥ 0)) with d | d
 refine AO.known 16 I d (AO.r 7 [.o 1 0, .o 3 0] I ⟨I, I, J⟩ (AO.nil ?_))
 exact lf ⟨I, I⟩ ⟨(get_b (by simp only [b, c, d, bz])), J⟩ [] I
 refine AO.known 16 I d (AO.q 7 I (AO.nil ?_))
 exact lf ⟨I, I⟩ ⟨(get_b (by simp only [b, c, d, bz])), J⟩ [] I
 refine AO.known 11 I c (AO.q 12 I (AO.nil ?_))
 exact lf ⟨I, I⟩ ⟨(get_b (by simp only [b, c, bz])), J⟩ [] I
 refine AO.known 6 I b (AO.q 17 I (AO.nil ?_))
 exact lf ⟨I, I⟩ ⟨(get_b (by simp only [b, bz])), J⟩ [] I
 rintro s ob ⟨rfl, rfl⟩
 obtain rfl := h
 exact AW.ret pr
theorem L.zwdc_ok (a : Valve) (r : Bool) (h : L.zwdc a = r) : ACalls Tryz.env 100 [.agg (Valve.row a)] [] (fun x new => x = .v (.bool r) ∧ new = []) := by
 refine ACalls.of_body Tryz.func100 rfl rfl rfl (fun C hC => ?_)
 unfold L.zwdc at h
 refine AW.seqG (fun e d => (AW.region (AO.act [] I (AX.box (cs := Valve.row a) (m := 4) I I I dS (fun f => (AO.q 1 I (AO.nil ?_)))))))
 subst d
 refine AW.cutX (fun s ob => s = [(2, .v (.bool ((L.zsid a) && (a.Open == a.Travel))))] ∧ ob = []) [] J ?_ ?_
 refine AW.region (AO.r 1 [.o 0 0] I ⟨I, J⟩ (AO.c (L.zsid_ok a _ I) (AO.q 1 I ?_)))
 rcases bt ((L.zsid a)) with b | b
 refine AO.known 5 I b (AO.r 7 [.o 1 0, .o 3 0] I ⟨I, I, J⟩ (AO.nil ?_))
 exact lf ⟨I, I⟩ ⟨(get_b (by simp only [b, bz])), J⟩ [] I
 refine AO.known 5 I b (AO.q 7 I (AO.nil ?_))
 exact lf ⟨I, I⟩ ⟨(get_b (by simp only [b, bz])), J⟩ [] I
 rintro s ob ⟨rfl, rfl⟩
 obtain rfl := h
 exact AW.ret pr
theorem L.zlky_ok (a : Valve) (r : Valve × Int) (h : L.zlky a = r) : ACalls Tryz.env 107 [.agg (Valve.row a)] [] (fun x new => x = .tup [.agg (Valve.row r.1), .V r.2] ∧ new = []) := by
 refine ACalls.of_body Tryz.func107 rfl rfl rfl (fun C hC => ?_)
 unfold L.zlky at h
 refine AW.seqG (fun u f => (AW.region (AO.act [] I (AX.box (cs := Valve.row a) (m := 4) I I I dS (fun g => (AO.act [] I (AX.alloc (cs := [.V 0, .V 0, .v (.bool false), .v (.bool false)]) (m := 4) I I I I I dS (fun i => (AO.q 1 I (AO.nil ?_))))))))))
 subst f
 refine AW.seqG (fun w j => (AW.seq (AW.region (AO.r 1 [.o 0 0] I ⟨I, J⟩ (AO.c (L.zsid_ok a _ I) (AO.q 1 I (AO.nil (AW.ch h I ?_ ?_))))))))
 intro k h
 refine AW.seq (AW.region (AO.r 1 [.o 0 0] I ⟨I, J⟩ (AO.act [1] I (AX.st 1 0 0 [Valve.row a] I (AO.q 1 I (AO.nil (AW.gp [1] I ?_)))))))
 obtain rfl := h
 exact AW.ret ⟨.inr I, [_, _], [], ⟨⟨0, _, _, _, _, _, _, _, I, I, I, I, I⟩, I, J⟩, sl_n, I, I⟩
 intro k h
 refine AW.skip ?_
 subst j
 refine AW.seqG (fun y l => (AW.zr [.o 1 0] I ⟨I, J⟩ (AW.ch h I ?_ ?_)))
 intro n h
 refine AW.seq (AW.region (AO.r 1 [.o 0 0] I ⟨I, J⟩ (AO.act [1] I (AX.st 1 0 0 [Valve.row a] I (AO.q 1 I (AO.nil (AW.gp [1] I ?_)))))))
 obtain rfl := h
 exact AW.ret ⟨.inr I, [_, _], [], ⟨⟨0, _, _, _, _, _, _, _, I, I, I, I, I⟩, I, J⟩, sl_n, I, I⟩
 intro n h
 refine AW.skip ?_
 subst l
 refine AW.cutX (fun s ob => ∃ (e : Int), L.zlky.J1 a e = r ∧ s = [] ∧ ob = [.arr g 74 4 1 [[.V a.Travel, .V e, .v (.bool a.Want), .v (.bool a.Stuck)]], .arr i 74 4 1 [[.V 0, .V 0, .v (.bool false), .v (.bool false)]]]) [(1, _), (2, _)] ⟨I, I, J⟩ ?_ ?_
 refine AW.jb 19 (a.Want && decide (a.Open < a.Travel)) ?_ ?_
 refine AW.region (AO.r 3 [.o 1 0] I ⟨I, J⟩ ?_)
 rcases bt (a.Want) with b | b
 refine AO.known 13 I b (AO.r 6 [.o 1 0, .o 3 0] I ⟨I, I, J⟩ (AO.nil ?_))
 exact jf (by simp only [b, bz]) I I ⟨I, I⟩
 refine AO.known 13 I b (AO.q 6 I (AO.nil ?_))
 exact jf (by simp only [b, bz]) I I ⟨I, I⟩
 refine AW.ch h I ?_ ?_
 intro p h
 refine AW.region (AO.r 4 [.o 1 0] I ⟨I, J⟩ (AO.act [0] I (AX.st 0 0 1 [[.V a.Travel, .V (wr (a.Open + 1)), .v (.bool a.Want), .v (.bool a.Stuck)]] I (AO.nil ?_))))
 exact lg ⟨wr (a.Open + 1), h, I, I⟩ [0, 1]
 intro p h
 refine AW.jb 31 ((!a.Want) && decide (a.Open > 0)) ?_ ?_
 refine AW.region (AO.r 4 [.o 1 0] I ⟨I, J⟩ ?_)
 rcases bt ((!a.Want)) with d | d
 refine AO.known 27 I d (AO.r 4 [.o 1 0] I ⟨I, J⟩ (AO.nil ?_))
 exact jf (by simp only [d, bz]) I I ⟨I, I⟩
 refine AO.known 27 I d (AO.q 4 I (AO.nil ?_))
 exact jf (by simp only [d, bz]) I I ⟨I, I⟩
 refine AW.ch h I ?_ ?_
 intro t h
 refine AW.region (AO.r 4 [.o 1 0] I ⟨I, J⟩ (AO.act [0] I (AX.st 0 0 1 [[.V a.Travel, .V (wr (a.Open - 1)), .v (.bool a.Want), .v (.bool a.Stuck)]] I (AO.nil ?_))))
 exact lg ⟨wr (a.Open - 1), h, I, I⟩ [0, 1]
 intro t h
 refine AW.skip ?_
 exact lg ⟨a.Open, h, I, I⟩ [0, 1]
 rintro s ob ⟨e, h, rfl, rfl⟩
 unfold L.zlky.J1 at h
 refine AW.seq (AW.region (AO.r 1 [.o 0 0] I ⟨I, J⟩ (AO.act [1] I (AX.st 1 0 0 [[.V a.Travel, .V e, .v (.bool a.Want), .v (.bool a.Stuck)]] I (AO.q 1 I (AO.nil (AW.gp [1] I ?_)))))))
 obtain rfl := h
 exact AW.ret ⟨.inr I, [_, _], [], ⟨⟨0, _, _, _, _, _, _, _, I, I, I, I, I⟩, I, J⟩, sl_n, I, I⟩
theorem L.zbvl_ok (d : Valve) (e : Int) (r : Valve × Int) (h : L.zbvl d e = some r) : ACalls Tryz.env 65 [.agg (Valve.row d), .V e] [] (fun x new => x = .tup [.agg (Valve.row r.1), .V r.2] ∧ new = []) := by
 refine ACalls.of_body Tryz.func65 rfl rfl rfl (fun C hC => ?_)
 unfold L.zbvl at h
 refine AW.seqG (fun A j => (AW.region (AO.act [] I (AX.box (cs := Valve.row d) (m := 4) I I I dS (fun g => (AO.act [] I (AX.alloc (cs := [.V 0, .V 0, .v (.bool false), .v (.bool false)]) (m := 4) I I I I I dS (fun i => (AO.q 1 I (AO.nil ?_))))))))))
 subst j
 refine AW.seqG (fun B k => (AW.seq (AW.region (AO.r 1 [.o 0 0] I ⟨I, J⟩ (AO.c (L.zsid_ok d _ I) (AO.q 1 I (AO.nil (AW.ch h I ?_ ?_))))))))
 intro l h
 refine AW.seq (AW.region (AO.r 1 [.o 0 0] I ⟨I, J⟩ (AO.act [1] I (AX.st 1 0 0 [Valve.row d] I (AO.q 1 I (AO.nil (AW.gp [1] I ?_)))))))
 obtain rfl := oi h
 exact AW.ret ⟨.inr I, [_, _], [], ⟨⟨0, _, _, _, _, _, _, _, I, I, I, I, I⟩, I, J⟩, sl_n, I, I⟩
 intro l h
 refine AW.skip ?_
 subst k
 refine AW.seqG (fun D n => (AW.jb 16 (decide (e < 0) || decide (e > 400)) ?_ ?_))
 refine AW.region (AO.q 3 I ?_)
 rcases bt (decide (e < 0)) with f | f
 refine AO.known 13 I f (AO.q 3 I (AO.nil ?_))
 exact jf (by simp only [f, bz]) I I ⟨I, I⟩
 refine AO.known 13 I f (AO.q 3 I (AO.nil ?_))
 exact jf (by simp only [f, bz]) I I ⟨I, I⟩
 refine AW.ch h I ?_ ?_
 intro p h
 refine AW.seq (AW.region (AO.r 1 [.o 0 0] I ⟨I, J⟩ (AO.act [1] I (AX.st 1 0 0 [Valve.row d] I (AO.q 1 I (AO.nil (AW.gp [1] I ?_)))))))
 obtain rfl := oi h
 exact AW.ret ⟨.inr I, [_, _], [], ⟨⟨0, _, _, _, _, _, _, _, I, I, I, I, I⟩, I, J⟩, sl_n, I, I⟩
 intro p h
 refine AW.skip ?_
 subst n
 refine AW.cutX (fun s ob => ∃ (b : Int × Int × Bool × Bool), L.zbvl.J1 b = some r ∧ s = [] ∧ ob = [.arr g 74 4 1 [[.V b.1, .V b.2.1, .v (.bool b.2.2.1), .v (.bool b.2.2.2)]], .arr i 74 4 1 [[.V 0, .V 0, .v (.bool false), .v (.bool false)]]]) [(2, _), (4, _)] ⟨I, I, J⟩ ?_ ?_
 refine AW.z I (AW.block ?_)
 obtain ⟨E, t, u⟩ := ob_some h
 clear h
 refine AW.loopX t [(1, _), (2, _), (4, _)] ⟨I, I, I, J⟩ (fun (a : Int × Int × Bool × Bool × Int) s ob => s = [(6, .V a.2.2.2.2)] ∧ ob = [.arr g 74 4 1 [[.V a.1, .V a.2.1, .v (.bool a.2.2.1), .v (.bool a.2.2.2.1)]], .arr i 74 4 1 [[.V 0, .V 0, .v (.bool false), .v (.bool false)]]]) ⟨I, I⟩ ⟨I, J⟩ ⟨[0, 1], I, by decide⟩ ?_
 rintro a F s ob ⟨rfl, rfl⟩ h w
 unfold L.zbvl.B2 at h
 refine AW.seq (AW.z I (AW.ch h I ?_ ?_))
 intro y h
 refine AW.skip (AW.seq (AW.block (AW.region (AO.r 1 [.o 0 0] I ⟨I, J⟩ (AO.c (L.zlky_ok (⟨a.1, a.2.1, a.2.2.1, a.2.2.2.1⟩ : Valve) _ I) (AO.q 3 I (AO.act [0] I (AX.st 0 0 0 [Valve.row ((L.zlky (⟨a.1, a.2.1, a.2.2.1, a.2.2.2.1⟩ : Valve)).1)] I (AO.nil (AW.region (AO.q 3 I ?_)))))))))))
 obtain rfl := oi h
 refine AO.nil ?_
 exact ⟨_, _, _, I, ⟨I, I⟩, ⟨I, I, I, I, J⟩, [0, 1], I, by decide⟩
 intro y h
 obtain rfl := w _ (oi h).symm
 replace h := u
 refine AW.exit ?_
 exact lg ⟨(a.1, a.2.1, a.2.2.1, a.2.2.2.1), h, I, I⟩ [0, 1]
 rintro s ob ⟨b, h, rfl, rfl⟩
 unfold L.zbvl.J1 at h
 refine AW.seq (AW.region (AO.r 1 [.o 0 0] I ⟨I, J⟩ (AO.act [1] I (AX.st 1 0 0 [[.V b.1, .V b.2.1, .v (.bool b.2.2.1), .v (.bool b.2.2.2)]] I (AO.q 1 I (AO.nil (AW.gp [1] I ?_)))))))
 obtain rfl := oi h
 exact AW.ret ⟨.inr I, [_, _], [], ⟨⟨0, _, _, _, _, _, _, _, I, I, I, I, I⟩, I, J⟩, sl_n, I, I⟩
theorem L.zfax_ok (a : Valve) (b : Bool) (r : Valve × Int) (h : L.zfax a b = r) : ACalls Tryz.env 103 [.agg (Valve.row a), .v (.bool b)] [] (fun x new => x = .tup [.agg (Valve.row r.1), .V r.2] ∧ new = []) := by
 refine ACalls.of_body Tryz.func103 rfl rfl rfl (fun C hC => ?_)
 unfold L.zfax at h
 refine AW.seqG (fun f d => (AW.region (AO.act [] I (AX.box (cs := Valve.row a) (m := 4) I I I dS (fun g => (AO.act [] I (AX.alloc (cs := [.V 0, .V 0, .v (.bool false), .v (.bool false)]) (m := 4) I I I I I dS (fun i => (AO.q 1 I (AO.nil ?_))))))))))
 subst d
 refine AW.seq (AW.seq (AW.region (AO.r 1 [.o 0 0] I ⟨I, J⟩ (AO.c (L.zsid_ok a _ I) (AO.q 1 I (AO.nil (AW.ch h I ?_ ?_)))))))
 intro e h
 refine AW.seq (AW.region (AO.r 1 [.o 0 0] I ⟨I, J⟩ (AO.act [1] I (AX.st 1 0 0 [Valve.row a] I (AO.q 1 I (AO.nil (AW.gp [1] I ?_)))))))
 obtain rfl := h
 exact AW.ret ⟨.inr I, [_, _], [], ⟨⟨0, _, _, _, _, _, _, _, I, I, I, I, I⟩, I, J⟩, sl_n, I, I⟩
 intro e h
 refine AW.skip (AW.seq (AW.region (AO.q 2 I (AO.act [0] I (AX.st 0 0 2 [[.V a.Travel, .V a.Open, .v (.bool b), .v (.bool a.Stuck)]] I (AO.nil (AW.seq (AW.region (AO.r 1 [.o 0 0] I ⟨I, J⟩ (AO.act [1] I (AX.st 1 0 0 [[.V a.Travel, .V a.Open, .v (.bool b), .v (.bool a.Stuck)]] I (AO.q 1 I (AO.nil (AW.gp [1] I ?_))))))))))))))
 obtain rfl := h
 exact AW.ret ⟨.inr I, [_, _], [], ⟨⟨0, _, _, _, _, _, _, _, I, I, I, I, I⟩, I, J⟩, sl_n, I, I⟩
theorem L.zjdk_ok (a : Lineup) (r : List Bool) (h : L.zjdk a = some r) : ACalls Tryz.env 44 [.agg (Lineup.row a)] [] (fun x new => ∃ (b : Value), x = .v b ∧ new = [.us b 4 1 (r.map rB)]) := by
 refine ACalls.of_body Tryz.func44 rfl rfl rfl (fun C hC => ?_)
 unfold L.zjdk at h
 refine AW.seq (AW.region (AO.act [] I (AX.box (cs := Lineup.row a) (m := 2) I I I dS (fun g => (AO.q 1 I (AO.nil (AW.seq ?_)))))))
 obtain ⟨i, d, h⟩ := ob_some h
 obtain ⟨e, f, h⟩ := ob_some h
 refine AW.rd (.still 1 (.still 2 (.still 4 (.still 5 (.act 0 (.act 3 (.act 6 (.still 7 .nil)))))))) [0] [_] I (AP.r 4 [.o 1 0, .o 3 0] I ⟨I, I, J⟩ (AP.act [] I I I (AX.buildSlice (sz := 1) (es := ([] : List Bool).map rB) I I I I I I I I I I I dS (fun j => (AP.act [1] I I I (AX.ap 1 I d (fun k => (AP.act [1] I I I (AX.ap 1 I f (fun c => (AP.eraS 2 (AP.q 1 I (AP.ofAO (AO.nil (AW.gp [1] I ?_)))))))))))))))
 obtain rfl := oi h
 exact AW.ret ⟨.inr I, [_], [.us c 4 1 (e.map rB)], ⟨I, J⟩, sl_c I (sl_n), ⟨c, I, I⟩⟩
theorem L.zyrr_ok (b : Plan) (r : Lineup) (h : L.zyrr b = some r) : ACalls Tryz.env 45 [.agg (Plan.row b)] [] (fun x new => x = .agg (Lineup.row r) ∧ new = []) := by
 refine ACalls.of_body Tryz.func45 rfl rfl rfl (fun C hC => ?_)
 unfold L.zyrr at h
 refine AW.seqG (fun y1 A => (AW.region (AO.act [] I (AX.box (cs := Plan.row b) (m := 3) I I I dS (fun p => (AO.act [] I (AX.alloc (cs := [.N, .N]) (m := 2) I I I I I dS (fun e => (AO.nil ?_)))))))))
 subst A
 refine AW.seqG (fun y4 B => (AW.region (AO.act [] I (AX.alloc (cs := [.N, .N]) (m := 2) I I I I I dS (fun f => (AO.nil ?_))))))
 subst B
 refine AW.cutX (fun s ob => ∃ (c : List Bool) (a : Value), L.zyrr.J1 b c = some r ∧ s = [] ∧ ob = [.arr p 37 3 1 [Plan.row b], .arr e 97 2 1 [[.N, .N]], .arr f 97 2 1 [[.v a, .N]], .us a 4 1 (c.map rB)]) [(1, _), (2, _), (3, _)] ⟨I, I, I, J⟩ ?_ ?_
 refine AW.z I (AW.block (AW.ghost (Ghost.nilU 4 1) ?_))
 obtain ⟨ae, D, E⟩ := ob_some h
 clear h
 refine AW.loopX D [(1, _), (2, _), (3, _)] ⟨I, I, I, J⟩ (fun (i : (List Bool) × Int) s ob => ∃ (j : Value), s = [(4, .V i.2)] ∧ ob = [.arr p 37 3 1 [Plan.row b], .arr e 97 2 1 [[.N, .N]], .arr f 97 2 1 [[.v j, .N]], .us j 4 1 (i.1.map rB)]) ⟨(.slice none 0 0), I, I⟩ ⟨I, J⟩ ⟨[0, 1, 2, 3], I, by decide⟩ ?_
 rintro i af s ob ⟨j, rfl, rfl⟩ h F
 unfold L.zyrr.B4 at h
 refine AW.seqG (fun ag G => (AW.zr [.o 2 0, .l 3 (b.Rates.length : Int)] I ⟨len_m, I, J⟩ (AW.ch h I ?_ ?_)))
 intro H h
 refine AW.skip ?_
 subst G
 refine AW.seq (AW.block ?_)
 obtain ⟨t, ⟨M, O⟩, h⟩ := ob_ix h
 obtain ⟨ah, P, h⟩ := ob_some h
 refine AW.rd (.still 0 (.still 1 (.still 2 (.still 3 (.still 4 (.still 5 (.still 6 (.still 7 (.act 8 (.act 9 (.still 10 (.drop 11 .nil)))))))))))) [2, 0] [_, _] I (AP.r 8 [.o 1 0, .o 3 1, .x 5 t.1 (rI t.2)] I ⟨⟨M, map_get O⟩, I, I, J⟩ (AP.act [] I I I (AX.lt 1 (([(t.2 != 0)] : List Bool).map rB) (AP.act [3] I I I (AX.ap 3 I P (fun w => (AP.q 1 I (AP.one 3 I (fun Q => (AP.drop [2] I I I (AX.store 2 0 0 (es' := [[.v w, .N]]) I I I I I I (cells_v Q) I (le_ble I) I I (AP.ofAO (AO.nil (AW.region (AO.q 3 I ?_)))))))))))))))
 obtain rfl := oi h
 refine AO.nil ?_
 exact ⟨_, _, _, I, ⟨w, I, I⟩, ⟨I, I, I, I, J⟩, [0, 1, 2, 3], I, by decide⟩
 intro H h
 obtain rfl := F _ (oi h).symm
 replace h := E
 refine AW.exit ?_
 exact lg ⟨i.1, j, h, I, I⟩ [0, 1, 2, 3]
 rintro s ob ⟨c, a, h, rfl, rfl⟩
 unfold L.zyrr.J1 at h
 refine AW.cutX (fun s ob => ∃ (g : List Bool) (d : Value), L.zyrr.J2 c g = some r ∧ s = [] ∧ ob = [.arr e 97 2 1 [[.N, .N]], .arr f 97 2 1 [[.v a, .v d]], .us a 4 1 (c.map rB), .us d 4 1 (g.map rB)]) [(2, _), (3, _)] ⟨I, I, J⟩ ?_ ?_
 refine AW.z I (AW.block (AW.ghost (Ghost.nilU 4 1) ?_))
 obtain ⟨ai, R, S⟩ := ob_some h
 clear h
 refine AW.loopX R [(1, _), (2, _), (3, _)] ⟨I, I, I, J⟩ (fun (k : (List Bool) × Int) s ob => ∃ (n : Value), s = [(5, .V k.2)] ∧ ob = [.arr p 37 3 1 [Plan.row b], .arr e 97 2 1 [[.N, .N]], .arr f 97 2 1 [[.v a, .v n]], .us a 4 1 (c.map rB), .us n 4 1 (k.1.map rB)]) ⟨(.slice none 0 0), I, I⟩ ⟨I, J⟩ ⟨[0, 1, 2, 3, 4], I, by decide⟩ ?_
 rintro k aj s ob ⟨n, rfl, rfl⟩ h U
 unfold L.zyrr.B3 at h
 refine AW.seqG (fun ak W => (AW.zr [.o 2 0, .l 3 (b.Ports.length : Int)] I ⟨len_m, I, J⟩ (AW.ch h I ?_ ?_)))
 intro X h
 refine AW.skip ?_
 subst W
 refine AW.seq (AW.block ?_)
 obtain ⟨u, ⟨Y, Z⟩, h⟩ := ob_ix h
 obtain ⟨al, aa, h⟩ := ob_some h
 refine AW.rd (.still 0 (.still 1 (.still 2 (.still 3 (.still 4 (.still 5 (.still 6 (.still 7 (.act 8 (.act 9 (.still 10 (.drop 11 .nil)))))))))))) [2, 0] [_, _] I (AP.r 8 [.o 1 0, .o 3 1, .x 5 u.1 (rI u.2)] I ⟨⟨Y, map_get Z⟩, I, I, J⟩ (AP.act [] I I I (AX.lt 1 (([(u.2 != 0)] : List Bool).map rB) (AP.act [4] I I I (AX.ap 4 I aa (fun y => (AP.q 1 I (AP.one 4 I (fun ab => (AP.drop [2] I I I (AX.store 2 0 1 (es' := [[.v a, .v y]]) I I I I I I (cells_v ab) I (le_ble I) I I (AP.ofAO (AO.nil (AW.region (AO.q 3 I ?_)))))))))))))))
 obtain rfl := oi h
 refine AO.nil ?_
 exact ⟨_, _, _, I, ⟨y, I, I⟩, ⟨I, I, I, I, J⟩, [0, 1, 2, 3, 4], I, by decide⟩
 intro X h
 obtain rfl := U _ (oi h).symm
 replace h := S
 refine AW.exit ?_
 exact lg ⟨k.1, n, h, I, I⟩ [1, 2, 3, 4]
 rintro s ob ⟨g, d, h, rfl, rfl⟩
 unfold L.zyrr.J2 at h
 refine AW.seq (AW.region (AO.r 1 [.o 0 1] I ⟨I, J⟩ (AO.act [0] I (AX.st 0 0 0 [[.v a, .v d]] I (AO.nil (AW.ghost (Ghost.freeze [2, 3] (K := [.us a 4 1 (c.map rB), .us d 4 1 (g.map rB)]) I [] J (ob' := [.arr e 97 2 1 [[.list 1 (c.map rB), .list 1 (g.map rB)]], .arr f 97 2 1 [[.v a, .v d]]]) (.cons (.arr (.cons (.us 0 I) (.cons (.us 1 I) (.rest _)))) (.rest _))) (AW.gp [0] I ?_)))))))
 obtain rfl := oi h
 exact AW.ret ⟨.inr I, [_], [], ⟨⟨0, _, _, _, _, _, _, _, I, I, I, I, I⟩, J⟩, sl_n, I, I⟩
theorem L.zazn_ok (a : Network) (r : Int) (h : L.zazn a = r) : ACalls Tryz.env 82 [.agg (Network.row a)] [] (fun x new => x = .V r ∧ new = []) := by
 refine ACalls.of_body Tryz.func82 rfl rfl rfl (fun C hC => ?_)
 unfold L.zazn at h
 refine AW.seq (AW.region (AO.act [] I (AX.box (cs := Network.row a) (m := 6) I I I dS (fun b => (AO.q 1 I (AO.nil (AW.zr [.o 1 0, .l 2 (a.Segments.length : Int), .o 4 0, .l 5 (a.Ports.length : Int)] I ⟨len_m, I, len_m, I, J⟩ (AW.ghost g0 ?_))))))))
 obtain rfl := h
 exact AW.ret pr
theorem L.zbne_ok (a : Network) (b : List Valve) (r : Int) (h : L.zbne a b = some r) : ACalls Tryz.env 99 [.agg (Network.row a), .list 4 (b.map Valve.row)] [] (fun x new => x = .V r ∧ new = []) := by
 refine ACalls.of_body Tryz.func99 rfl rfl rfl (fun C hC => ?_)
 unfold L.zbne at h
 refine AW.seqG (fun A j => (AW.region (AO.act [] I (AX.box (cs := Network.row a) (m := 6) I I I dS (fun B => (AO.q 1 I (AO.nil ?_)))))))
 subst j
 refine AW.seqG (fun D k => (AW.seq (AW.region (AO.r 3 [.l 1 (b.length : Int), .o 2 0] I ⟨I, len_m, J⟩ (AO.c (L.zazn_ok a _ I) (AO.q 1 I (AO.nil (AW.ch h I ?_ ?_))))))))
 intro n h
 refine AW.z I (AW.ghost g0 ?_)
 obtain rfl := oi h
 exact AW.ret pr
 intro n h
 refine AW.skip ?_
 subst k
 refine AW.cutX (fun s ob => ∃ (e : Unit), L.zbne.J1 e = some r ∧ s = [] ∧ ob = []) [] J ?_ ?_
 refine AW.z I (AW.block ?_)
 obtain ⟨E, p, f⟩ := ob_some h
 clear h
 refine AW.loopX p [(1, _)] ⟨I, J⟩ (fun (g : Int) s ob => s = [(5, .V g)] ∧ ob = []) ⟨I, I⟩ ⟨I, J⟩ ⟨[], I, by decide⟩ ?_
 rintro g F s ob ⟨rfl, rfl⟩ h i
 unfold L.zbne.B2 at h
 refine AW.seqG (fun G t => (AW.zr [.l 2 (b.length : Int)] I ⟨len_m, J⟩ (AW.ch h I ?_ ?_)))
 intro u h
 refine AW.skip ?_
 subst t
 refine AW.seq (AW.block (AW.seq ?_))
 obtain ⟨d, ⟨v, w⟩, h⟩ := ob_ix h
 refine AW.region (AO.r 4 [.x 2 d.1 (Valve.row d.2)] I ⟨⟨v, map_get w⟩, J⟩ (AO.c (L.zsid_ok d.2 _ I) (AO.q 1 I (AO.nil (AW.ch h I ?_ ?_)))))
 intro y h
 refine AW.z I ?_
 obtain rfl := i _ (oi h).symm
 replace h := f
 replace h := se_l h
 obtain rfl := oi h
 exact AW.ret pr
 intro y h
 refine AW.skip (AW.region (AO.q 3 I ?_))
 obtain rfl := oi h
 refine AO.nil ?_
 exact ⟨_, _, _, I, ⟨I, I⟩, ⟨I, I, J⟩, [], I, by decide⟩
 intro u h
 obtain rfl := i _ (oi h).symm
 replace h := f
 replace h := se_r h
 refine AW.exit ?_
 exact lg ⟨(), h, I, I⟩ []
 rintro s ob ⟨e, h, rfl, rfl⟩
 unfold L.zbne.J1 at h
 refine AW.z I ?_
 obtain rfl := oi h
 exact AW.ret pr
theorem L.zkfu_ok (a : Path) (r : Path) (h : L.zkfu a = some r) : ACalls Tryz.env 71 [.agg (Path.row a)] [] (fun x new => x = .agg (Path.row r) ∧ new = []) := by
 refine ACalls.of_body Tryz.func71 rfl rfl rfl (fun C hC => ?_)
 unfold L.zkfu at h
 refine AW.seq (AW.region (AO.act [] I (AX.box (cs := Path.row a) (m := 4) I I I dS (fun d => (AO.act [] I (AX.alloc (cs := [.V 0, .V 0, .N, .V 0]) (m := 4) I I I I I dS (fun e => (AO.nil (AW.seq ?_)))))))))
 obtain ⟨c, f, h⟩ := ob_some h
 refine AW.region (AO.act [] I (AX.buildSlice (sz := 2) (es := ([] : List Hop).map Hop.row) I I I I I I I I I I I dS (fun i => (AO.r 2 [.o 1 0] I ⟨I, J⟩ (AO.act [2] I (AX.ap 2 I f (fun b => (AO.q 1 I (AO.one 2 I (fun g => (AO.act [0] I (AX.store 0 0 2 (es' := [[.V a.In, .V a.Out, .v b, .V a.Rate]]) I I I I I I (cells_v g) I (le_ble I) I I (AO.nil (AW.seq (AW.region (AO.r 1 [.o 0 0] I ⟨I, J⟩ (AO.act [1] I (AX.st 1 0 0 [[.V a.In, .V a.Out, .v b, .V a.Rate]] I (AO.nil ?_)))))))))))))))))))
 refine AW.ghost (Ghost.freeze [2] (K := [.us b 107 2 (c.map Hop.row)]) I [] J (ob' := [.arr d 52 4 1 [[.V a.In, .V a.Out, .v b, .V a.Rate]], .arr e 52 4 1 [[.V a.In, .V a.Out, .list 2 (c.map Hop.row), .V a.Rate]]]) (.cons (.same _) (.cons (.arr (.cons (.refl _) (.cons (.refl _) (.cons (.us 0 I) (.rest _))))) (.rest _)))) (AW.gp [1] I ?_)
 obtain rfl := oi h
 exact AW.ret ⟨.inr I, [_], [], ⟨⟨0, _, _, _, _, _, _, _, I, I, I, I, I⟩, J⟩, sl_n, I, I⟩
theorem L.ztgl_ok (a : Network) (b : Hop) (r : Int × Int) (h : L.ztgl a b = some r) : ACalls Tryz.env 110 [.agg (Network.row a), .agg (Hop.row b)] [] (fun x new => x = .tup [.V r.1, .V r.2] ∧ new = []) := by
 refine ACalls.of_body Tryz.func110 rfl rfl rfl (fun C hC => ?_)
 unfold L.ztgl at h
 refine AW.seqG (fun j d => (AW.region (AO.act [] I (AX.box (cs := Network.row a) (m := 6) I I I dS (fun k => (AO.act [] I (AX.box (cs := Hop.row b) (m := 2) I I I dS (fun l => (AO.q 2 I (AO.nil ?_))))))))))
 subst d
 refine AW.seqG (fun n e => ?_)
 obtain ⟨c, ⟨f, g⟩, h⟩ := ob_ix h
 refine AW.region (AO.r 6 [.o 1 0, .o 3 1, .x 4 c.1 (Segment.row c.2)] I ⟨⟨f, map_get g⟩, I, I, J⟩ (AO.act [] I (AX.alloc (cs := [.v (.string ⟨#[]⟩), .V 0, .V 0, .V 0, .V 0, .V 0, .N]) (m := 7) I I I I I dS (fun p => (AO.act [2] I (AX.st 2 0 0 [Segment.row c.2] I (AO.nil ?_)))))))
 subst e
 refine AW.seq (AW.zr [.o 1 1] I ⟨I, J⟩ (AW.ch h I ?_ ?_))
 intro i h
 refine AW.dz (pd 6 0 []) [2] [_] [.o 1 0, .o 3 0] I I ⟨I, I, J⟩ (AW.ghost g0 ?_)
 obtain rfl := oi h
 exact AW.ret ⟨.inr I, [_, _], [], ⟨I, I, J⟩, sl_n, I, I⟩
 intro i h
 refine AW.skip (AW.dz (pd 6 0 []) [2] [_] [.o 1 0, .o 3 0] I I ⟨I, I, J⟩ (AW.ghost g0 ?_))
 obtain rfl := oi h
 exact AW.ret ⟨.inr I, [_, _], [], ⟨I, I, J⟩, sl_n, I, I⟩
theorem L.zzsn_ok (b : Network) (a : Path) (r : Bool) (h : L.zzsn b a = some r) : ACalls Tryz.env 70 [.agg (Network.row b), .agg (Path.row a)] [] (fun x new => x = .v (.bool r) ∧ new = []) := by
 refine ACalls.of_body Tryz.func70 rfl rfl rfl (fun C hC => ?_)
 unfold L.zzsn at h
 refine AW.seqG (fun y1 ab => (AW.region (AO.act [] I (AX.box (cs := Network.row b) (m := 6) I I I dS (fun p => (AO.act [] I (AX.box (cs := Path.row a) (m := 4) I I I dS (fun t => (AO.q 1 I (AO.nil ?_))))))))))
 subst ab
 refine AW.seqG (fun y4 ac => (AW.jb 57 (decide (a.In < 0) || (decide (a.In ≥ (b.Ports.length : Int)) || (decide (a.Out < 0) || (decide (a.Out ≥ (b.Ports.length : Int)) || ((a.In == a.Out) || (decide (a.Rate < 1) || (decide (a.Rate > 1000) || decide ((a.Hops.length : Int) > 32)))))))) ?_ ?_))
 refine AW.region (AO.r 4 [.o 1 1] I ⟨I, J⟩ ?_)
 rcases bt (decide (a.In < 0)) with e | e
 refine AO.known 14 I e (AO.q 43 I (AO.nil ?_))
 exact jf (by simp only [e, bz]) I I ⟨I, I⟩
 refine AO.known 14 I e (AO.r 8 [.o 1 1, .o 3 0, .l 4 (b.Ports.length : Int)] I ⟨len_m, I, I, J⟩ ?_)
 rcases bt (decide (a.In ≥ (b.Ports.length : Int))) with g | g
 refine AO.known 22 I g (AO.q 35 I (AO.nil ?_))
 exact jf (by simp only [e, g, bz]) I I ⟨I, I⟩
 refine AO.known 22 I g (AO.r 5 [.o 1 1] I ⟨I, J⟩ ?_)
 rcases bt (decide (a.Out < 0)) with i | i
 refine AO.known 27 I i (AO.q 30 I (AO.nil ?_))
 exact jf (by simp only [e, g, i, bz]) I I ⟨I, I⟩
 refine AO.known 27 I i (AO.r 8 [.o 1 1, .o 3 0, .l 4 (b.Ports.length : Int)] I ⟨len_m, I, I, J⟩ ?_)
 rcases bt (decide (a.Out ≥ (b.Ports.length : Int))) with j | j
 refine AO.known 35 I j (AO.q 22 I (AO.nil ?_))
 exact jf (by simp only [e, g, i, j, bz]) I I ⟨I, I⟩
 refine AO.known 35 I j (AO.r 7 [.o 1 1, .o 3 1] I ⟨I, I, J⟩ ?_)
 rcases bt ((a.In == a.Out)) with n | n
 refine AO.known 42 I n (AO.q 15 I (AO.nil ?_))
 exact jf (by simp only [e, g, i, j, n, bz]) I I ⟨I, I⟩
 refine AO.known 42 I n (AO.r 5 [.o 1 1] I ⟨I, J⟩ ?_)
 rcases bt (decide (a.Rate < 1)) with u | u
 refine AO.known 47 I u (AO.q 10 I (AO.nil ?_))
 exact jf (by simp only [e, g, i, j, n, u, bz]) I I ⟨I, I⟩
 refine AO.known 47 I u (AO.r 5 [.o 1 1] I ⟨I, J⟩ ?_)
 rcases bt (decide (a.Rate > 1000)) with A | A
 refine AO.known 52 I A (AO.q 5 I (AO.nil ?_))
 exact jf (by simp only [e, g, i, j, n, u, A, bz]) I I ⟨I, I⟩
 refine AO.known 52 I A (AO.r 5 [.o 1 1, .l 2 (a.Hops.length : Int)] I ⟨len_m, I, J⟩ (AO.nil ?_))
 exact jf (by simp only [e, g, i, j, n, u, A, bz]) I I ⟨I, I⟩
 refine AW.ch h I ?_ ?_
 intro ad h
 refine AW.z I (AW.ghost g0 ?_)
 obtain rfl := oi h
 exact AW.ret pr
 intro ad h
 refine AW.skip ?_
 subst ac
 refine AW.seqG (fun a9 ae => ?_)
 obtain ⟨H, ⟨af, ag⟩, h⟩ := ob_ix h
 refine AW.tr [.o 1 0, .o 3 1, .x 4 H.1 (Port.row H.2)] I ⟨⟨af, map_get ag⟩, I, I, J⟩ ?_
 subst ae
 refine AW.seqG (fun ba ah => (AW.region (AO.q 1 I (AO.act [] I (AX.buildSlice (sz := 1) (es := ([H.2.Node] : List Int).map rI) I I I I I I I I I I I dS (fun ai => (AO.q 1 I (AO.nil ?_))))))))
 subst ah
 refine AW.cutX (fun s ob => ∃ (K : Int), L.zzsn.J1 b a K = some r ∧ s = [(5, .V K)] ∧ ob = [.arr p 32 6 1 [Network.row b], .arr t 52 4 1 [Path.row a]]) [(2, _), (3, _)] ⟨I, I, J⟩ ?_ ?_
 refine AW.z I (AW.block ?_)
 obtain ⟨bb, aj, D⟩ := ob_some h
 clear h
 refine AW.loopX aj [(2, _), (3, _)] ⟨I, I, J⟩ (fun (f : Int × (List Int) × Int) s ob => ∃ (w : Value), s = [(5, .V f.1), (6, .v w), (7, .V f.2.2)] ∧ ob = [.arr p 32 6 1 [Network.row b], .arr t 52 4 1 [Path.row a], .us w 3 1 (f.2.1.map rI)]) ⟨ai, I, I⟩ ⟨I, I, I, J⟩ ⟨[0, 1, 2], I, by decide⟩ ?_
 rintro f M s ob ⟨w, rfl, rfl⟩ h E
 unfold L.zzsn.B2 at h
 refine AW.seqG (fun bc ak => (AW.zr [.o 2 1, .l 3 (a.Hops.length : Int)] I ⟨len_m, I, J⟩ (AW.ch h I ?_ ?_)))
 intro al h
 refine AW.skip ?_
 subst ak
 refine AW.cutX (fun s ob => ∃ (F : Int × (List Int)) (G : Value), L.zzsn.J3 f F = some M ∧ s = [(5, .V F.1), (6, .v G)] ∧ ob = [.arr p 32 6 1 [Network.row b], .arr t 52 4 1 [Path.row a], .us G 3 1 (F.2.map rI)]) [(2, _), (3, _), (7, _)] ⟨I, I, I, J⟩ ?_ ?_
 refine AW.block (AW.seqG (fun bd am => (AW.cutX (fun s ob => ∃ (N : Bool), L.zzsn.J4 b a f N = some M ∧ s = [(92, .v (.bool N))] ∧ ob = [.arr p 32 6 1 [Network.row b], .arr t 52 4 1 [Path.row a], .us w 3 1 (f.2.1.map rI)]) [(2, _), (3, _), (5, _), (6, _), (7, _)] ⟨I, I, I, I, I, J⟩ ?_ ?_)))
 obtain ⟨k, ⟨O, P⟩, h⟩ := ob_ix h
 rcases bt (decide (k.2.Segment < 0)) with B | B
 replace h := ife_t B h
 refine AW.rd (pd 19 0 []) [1] [_] I (AP.r 8 [.o 1 0, .x 3 k.1 (Hop.row k.2)] I ⟨⟨O, map_get P⟩, I, J⟩ (AP.known 81 I B (AP.q 11 I (AP.ofAO (AO.nil ?_)))))
 exact lg ⟨true, h, I, I⟩ [0, 1, 2]
 replace h := ife_f B h
 refine AW.rd (pd 19 0 []) [1, 0] [_, _] I (AP.r 8 [.o 1 0, .x 3 k.1 (Hop.row k.2)] I ⟨⟨O, map_get P⟩, I, J⟩ (AP.known 81 I B (AP.r 11 [.o 1 0, .x 3 k.1 (Hop.row k.2), .o 7 1, .l 8 (b.Segments.length : Int)] I ⟨len_m, I, ⟨O, map_get P⟩, I, J⟩ (AP.ofAO (AO.nil ?_)))))
 exact lg ⟨decide (k.2.Segment ≥ (b.Segments.length : Int)), h, I, I⟩ [0, 1, 2]
 rintro s ob ⟨N, h, rfl, rfl⟩
 unfold L.zzsn.J4 at h
 refine AW.ch h I ?_ ?_
 intro an h
 refine AW.z I ?_
 obtain rfl := E _ (oi h).symm
 replace h := D
 replace h := se_l h
 refine AW.ghost g0 ?_
 obtain rfl := oi h
 exact AW.ret pr
 intro an h
 refine AW.skip ?_
 subst am
 refine AW.seqG (fun be ao => ?_)
 obtain ⟨S, ⟨aq, ar⟩, h⟩ := ob_ix h
 obtain ⟨Q, au, h⟩ := ob_some h
 refine AW.rd (pd 12 0 [6]) [0, 1] [_, _] I (AP.r 6 [.o 0 0, .o 2 1, .x 4 S.1 (Hop.row S.2)] I ⟨⟨aq, map_get ar⟩, I, I, J⟩ (AP.c I (L.ztgl_ok _ _ _ au) (AP.q 5 I (AP.ofAO (AO.nil ?_)))))
 subst ao
 refine AW.seqG (fun bf av => (AW.z I (AW.ch h I ?_ ?_)))
 intro aw h
 refine AW.z I ?_
 obtain rfl := E _ (oi h).symm
 replace h := D
 replace h := se_l h
 refine AW.ghost g0 ?_
 obtain rfl := oi h
 exact AW.ret pr
 intro aw h
 refine AW.skip ?_
 subst av
 refine AW.cutX (fun s ob => ∃ (U : Unit), L.zzsn.J5 f Q U = some M ∧ s = [] ∧ ob = [.arr p 32 6 1 [Network.row b], .arr t 52 4 1 [Path.row a], .us w 3 1 (f.2.1.map rI)]) [(2, _), (3, _), (6, _), (7, _), (9, _)] ⟨I, I, I, I, I, J⟩ ?_ ?_
 refine AW.z I (AW.block ?_)
 obtain ⟨bg, ax, W⟩ := ob_some h
 clear h
 refine AW.loopX ax [(2, _), (3, _), (6, _), (7, _), (9, _)] ⟨I, I, I, I, I, J⟩ (fun (X : Int) s ob => s = [(10, .V X)] ∧ ob = [.arr p 32 6 1 [Network.row b], .arr t 52 4 1 [Path.row a], .us w 3 1 (f.2.1.map rI)]) ⟨I, I⟩ ⟨I, J⟩ ⟨[0, 1, 2], I, by decide⟩ ?_
 rintro X bh s ob ⟨rfl, rfl⟩ h Y
 unfold L.zzsn.B6 at h
 refine AW.seqG (fun bi ay => (AW.seq (AW.region (AO.q 2 I (AO.d (Yd.lenUM 2 I I I I) I (AO.q 1 I (AO.nil (AW.ch h I ?_ ?_))))))))
 intro az h
 refine AW.skip ?_
 subst ay
 refine AW.seq (AW.block (AW.seq ?_))
 obtain ⟨R, ⟨a0, Z⟩, h⟩ := ob_ix h
 refine AW.region (AO.q 2 I (AO.d (Yd.indexU 2 (m := R.1) I I I I I I I a0 (map_get Z)) I (AO.d (Yd.loadU 2 R.1 0 I I I (map_get Z) I (y := .V R.2) I) I (AO.q 2 I (AO.nil (AW.ch h I ?_ ?_))))))
 intro a1 h
 refine AW.z I ?_
 obtain rfl := Y _ (oi h).symm
 replace h := W
 replace h := se_l h
 obtain rfl := E _ (oi h).symm
 replace h := D
 replace h := se_l h
 refine AW.ghost g0 ?_
 obtain rfl := oi h
 exact AW.ret pr
 intro a1 h
 refine AW.skip (AW.region (AO.q 3 I ?_))
 obtain rfl := oi h
 refine AO.nil ?_
 exact ⟨_, _, _, I, ⟨I, I⟩, ⟨I, I, I, I, I, I, J⟩, [0, 1, 2], I, by decide⟩
 intro az h
 obtain rfl := Y _ (oi h).symm
 replace h := W
 replace h := se_r h
 refine AW.exit ?_
 exact lg ⟨(), h, I, I⟩ [0, 1, 2]
 rintro s ob ⟨U, h, rfl, rfl⟩
 unfold L.zzsn.J5 at h
 refine AW.z I ?_
 obtain ⟨a2, a3, h⟩ := ob_some h
 refine AW.region (AO.q 2 I (AO.act [] I (AX.lt 1 (([Q.2] : List Int).map rI) (AO.act [2] I (AX.ap 2 I a3 (fun a4 => (AO.q 1 I (AO.nil ?_))))))))
 exact lg ⟨(Q.2, a2), a4, h, I, I⟩ [0, 1, 2]
 rintro s ob ⟨F, G, h, rfl, rfl⟩
 unfold L.zzsn.J3 at h
 refine AW.region (AO.q 3 I ?_)
 obtain rfl := oi h
 refine AO.nil ?_
 exact ⟨_, _, _, I, ⟨G, I, I⟩, ⟨I, I, I, I, I, J⟩, [0, 1, 2], I, by decide⟩
 intro al h
 obtain rfl := E _ (oi h).symm
 replace h := D
 replace h := se_r h
 refine AW.exit ?_
 exact lg ⟨f.1, h, I, I⟩ [0, 1]
 rintro s ob ⟨K, h, rfl, rfl⟩
 unfold L.zzsn.J1 at h
 refine AW.seq ?_
 obtain ⟨aa, ⟨a5, a6⟩, h⟩ := ob_ix h
 refine AW.tr [.o 2 0, .o 4 1, .x 5 aa.1 (Port.row aa.2)] I ⟨⟨a5, map_get a6⟩, I, I, J⟩ (AW.ghost g0 ?_)
 obtain rfl := oi h
 exact AW.ret pr
theorem L.zouh_ok (b : Network) (d : Path) (r : Bool) (h : L.zouh b d = some r) : ACalls Tryz.env 104 [.agg (Network.row b), .agg (Path.row d)] [] (fun x new => x = .v (.bool r) ∧ new = []) := by
 refine ACalls.of_body Tryz.func104 rfl rfl rfl (fun C hC => ?_)
 unfold L.zouh at h
 refine AW.seq (AW.region (AO.act [] I (AX.box (cs := Network.row b) (m := 6) I I I dS (fun k => (AO.act [] I (AX.box (cs := Path.row d) (m := 4) I I I dS (fun l => (AO.q 1 I (AO.nil (AW.cutX (fun s ob => ∃ (e : Bool), L.zouh.J1 e = some r ∧ s = [(4, .v (.bool e))] ∧ ob = []) [] J ?_ ?_))))))))))
 obtain ⟨f, g, h⟩ := ob_some h
 refine AW.region (AO.r 1 [.o 0 0] I ⟨I, J⟩ (AO.c (L.zgcl_ok _ _ g) (AO.q 2 I ?_)))
 rcases bt ((f == 0)) with a | a
 replace h := ife_t a h
 obtain ⟨i, j, h⟩ := ob_some h
 refine AO.known 8 I a (AO.r 2 [.o 0 0, .o 1 1] I ⟨I, I, J⟩ (AO.gt I I I (AO.c (L.zzsn_ok _ _ _ j) (AO.q 2 I (AO.nil ?_)))))
 exact lg ⟨i, h, I, I⟩ []
 replace h := ife_f a h
 refine AO.known 8 I a (AO.q 5 I (AO.nil ?_))
 exact lg ⟨false, h, I, I⟩ []
 rintro s ob ⟨e, h, rfl, rfl⟩
 unfold L.zouh.J1 at h
 obtain rfl := oi h
 exact AW.ret pr
end Go.Proofs.YtmaamhgjeampmaaGreat
