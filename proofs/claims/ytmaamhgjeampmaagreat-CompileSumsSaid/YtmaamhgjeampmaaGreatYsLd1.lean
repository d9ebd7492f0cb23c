/- Walks that show what functions of the program compute; printed by a program of ours. No condition. -/
import Derived.Test.YtmaamhgjeampmaaGreatYsL6
import Derived.Test.YtmaamhgjeampmaaGreatYsD
set_option maxRecDepth 100000
namespace Go.Proofs.YtmaamhgjeampmaaGreat
open Go.Aw
set_option linter.unusedVariables false
set_option linter.unusedSimpArgs false
set_option maxHeartbeats 4000000
theorem L.zcfu_ok (a : Network) (e : Plan) (b : Int) (r : Int × Int) (h : L.zcfu a e b = some r) : ACalls Tryz.env 84 [.agg (Network.row a), .agg (Plan.row e), .V b] [] (fun x new => x = .tup [.V r.1, .V r.2] ∧ new = []) := by
 refine ACalls.of_body Tryz.func84 rfl rfl rfl (fun C hC => ?_)
 unfold L.zcfu at h
 refine AW.seqG (fun s f => (AW.region (AO.act [] I (AX.box (cs := Network.row a) (m := 6) I I I dS (fun t => (AO.act [] I (AX.box (cs := Plan.row e) (m := 3) I I I dS (fun u => (AO.q 2 I (AO.nil ?_))))))))))
 subst f
 refine AW.seqG (fun v g => (AW.seq ?_))
 obtain ⟨w, i, h⟩ := ob_some h
 refine AW.region (AO.r 2 [.o 0 0, .o 1 1] I ⟨I, I, J⟩ (AO.c (L.zvqa_ok _ _ _ i) (AO.q 1 I (AO.nil (AW.z I (AW.ch h I ?_ ?_))))))
 intro j h
 refine AW.z I (AW.ghost g0 ?_)
 obtain rfl := oi h
 exact AW.ret ⟨.inr I, [_, _], [], ⟨I, I, J⟩, sl_n, I, I⟩
 intro j h
 refine AW.skip ?_
 subst g
 refine AW.seqG (fun y k => (AW.jb 25 (decide (b < 0) || decide (b ≥ (a.Nodes.length : Int))) ?_ ?_))
 refine AW.region (AO.q 3 I ?_)
 rcases bt (decide (b < 0)) with d | d
 refine AO.known 19 I d (AO.q 6 I (AO.nil ?_))
 exact jf (by simp only [d, bz]) I I ⟨I, I⟩
 refine AO.known 19 I d (AO.r 6 [.o 2 0, .l 3 (a.Nodes.length : Int)] I ⟨len_m, I, J⟩ (AO.nil ?_))
 exact jf (by simp only [d, bz]) I I ⟨I, I⟩
 refine AW.ch h I ?_ ?_
 intro n h
 refine AW.z I (AW.ghost g0 ?_)
 obtain rfl := oi h
 exact AW.ret ⟨.inr I, [_, _], [], ⟨I, I, J⟩, sl_n, I, I⟩
 intro n h
 refine AW.skip ?_
 subst k
 refine AW.seq ?_
 obtain ⟨A, p, h⟩ := ob_some h
 refine AW.region (AO.r 3 [.o 0 0, .o 1 1] I ⟨I, I, J⟩ (AO.c (L.zeew_ok _ _ _ _ p) (AO.q 5 I (AO.nil (AW.z I (AW.ghost g0 ?_))))))
 obtain rfl := oi h
 exact AW.ret ⟨.inr I, [_, _], [], ⟨I, I, J⟩, sl_n, I, I⟩
theorem L.zjdk_ok (a : Lineup) (r : List Bool) (h : L.zjdk a = some r) : ACalls Tryz.env 44 [.agg (Lineup.row a)] [] (fun x new => ∃ (b : Value), x = .v b ∧ new = [.us b 4 1 (r.map rB)]) := by
 refine ACalls.of_body Tryz.func44 rfl rfl rfl (fun C hC => ?_)
 unfold L.zjdk at h
 refine AW.seq (AW.region (AO.act [] I (AX.box (cs := Lineup.row a) (m := 2) I I I dS (fun g => (AO.q 1 I (AO.nil (AW.seq ?_)))))))
 obtain ⟨i, d, h⟩ := ob_some h
 obtain ⟨e, f, h⟩ := ob_some h
 refine AW.rd (.still 1 (.still 2 (.still 4 (.still 5 (.act 0 (.act 3 (.act 6 (.still 7 .nil)))))))) [0] [_] I (AP.r 4 [.o 1 0, .o 3 0] I ⟨I, I, J⟩ (AP.act [] I I I (AX.buildSlice (sz := 1) (es := ([] : List Bool).map rB) I I I I I I I I I I I dS (fun j => (AP.act [1] I I I (AX.ap 1 I d (fun k => (AP.act [1] I I I (AX.ap 1 I f (fun c => (AP.eraS 2 (AP.q 1 I (AP.ofAO (AO.nil (AW.gp [1] I ?_)))))))))))))))
 obtain rfl := oi h
 exact AW.ret ⟨.inr I, [_], [.us c 4 1 (e.map rB)], ⟨I, J⟩, sl_c I (sl_n), ⟨c, I, I⟩⟩
theorem L.zyrr_ok (b : Plan) (r : Lineup) (h : L.zyrr b = some r) : ACalls Tryz.env 45 [.agg (Plan.row b)] [] (fun x new => x = .agg (Lineup.row r) ∧ new = []) := by
 refine ACalls.of_body Tryz.func45 rfl rfl rfl (fun C hC => ?_)
 unfold L.zyrr at h
 refine AW.seqG (fun y1 A => (AW.region (AO.act [] I (AX.box (cs := Plan.row b) (m := 3) I I I dS (fun p => (AO.act [] I (AX.alloc (cs := [.N, .N]) (m := 2) I I I I I dS (fun e => (AO.nil ?_)))))))))
 subst A
 refine AW.seqG (fun y4 B => (AW.region (AO.act [] I (AX.alloc (cs := [.N, .N]) (m := 2) I I I I I dS (fun f => (AO.nil ?_))))))
 subst B
 refine AW.cutX (fun s ob => ∃ (c : List Bool) (a : Value), L.zyrr.J1 b c = some r ∧ s = [] ∧ ob = [.arr p 37 3 1 [Plan.row b], .arr e 97 2 1 [[.N, .N]], .arr f 97 2 1 [[.v a, .N]], .us a 4 1 (c.map rB)]) [(1, _), (2, _), (3, _)] ⟨I, I, I, J⟩ ?_ ?_
 refine AW.z I (AW.block (AW.ghost (Ghost.nilU 4 1) ?_))
 obtain ⟨ae, D, E⟩ := ob_some h
 clear h
 refine AW.loopX D [(1, _), (2, _), (3, _)] ⟨I, I, I, J⟩ (fun (i : (List Bool) × Int) s ob => ∃ (j : Value), s = [(4, .V i.2)] ∧ ob = [.arr p 37 3 1 [Plan.row b], .arr e 97 2 1 [[.N, .N]], .arr f 97 2 1 [[.v j, .N]], .us j 4 1 (i.1.map rB)]) ⟨(.slice none 0 0), I, I⟩ ⟨I, J⟩ ⟨[0, 1, 2, 3], I, by decide⟩ ?_
 rintro i af s ob ⟨j, rfl, rfl⟩ h F
 unfold L.zyrr.B4 at h
 refine AW.seqG (fun ag G => (AW.zr [.o 2 0, .l 3 (b.Rates.length : Int)] I ⟨len_m, I, J⟩ (AW.ch h I ?_ ?_)))
 intro H h
 refine AW.skip ?_
 subst G
 refine AW.seq (AW.block ?_)
 obtain ⟨t, ⟨M, O⟩, h⟩ := ob_ix h
 obtain ⟨ah, P, h⟩ := ob_some h
 refine AW.rd (.still 0 (.still 1 (.still 2 (.still 3 (.still 4 (.still 5 (.still 6 (.still 7 (.act 8 (.act 9 (.still 10 (.drop 11 .nil)))))))))))) [2, 0] [_, _] I (AP.r 8 [.o 1 0, .o 3 1, .x 5 t.1 (rI t.2)] I ⟨⟨M, map_get O⟩, I, I, J⟩ (AP.act [] I I I (AX.lt 1 (([(t.2 != 0)] : List Bool).map rB) (AP.act [3] I I I (AX.ap 3 I P (fun w => (AP.q 1 I (AP.one 3 I (fun Q => (AP.drop [2] I I I (AX.store 2 0 0 (es' := [[.v w, .N]]) I I I I I I (cells_v Q) I (le_ble I) I I (AP.ofAO (AO.nil (AW.region (AO.q 3 I ?_)))))))))))))))
 obtain rfl := oi h
 refine AO.nil ?_
 exact ⟨_, _, _, I, ⟨w, I, I⟩, ⟨I, I, I, I, J⟩, [0, 1, 2, 3], I, by decide⟩
 intro H h
 obtain rfl := F _ (oi h).symm
 replace h := E
 refine AW.exit ?_
 exact lg ⟨i.1, j, h, I, I⟩ [0, 1, 2, 3]
 rintro s ob ⟨c, a, h, rfl, rfl⟩
 unfold L.zyrr.J1 at h
 refine AW.cutX (fun s ob => ∃ (g : List Bool) (d : Value), L.zyrr.J2 c g = some r ∧ s = [] ∧ ob = [.arr e 97 2 1 [[.N, .N]], .arr f 97 2 1 [[.v a, .v d]], .us a 4 1 (c.map rB), .us d 4 1 (g.map rB)]) [(2, _), (3, _)] ⟨I, I, J⟩ ?_ ?_
 refine AW.z I (AW.block (AW.ghost (Ghost.nilU 4 1) ?_))
 obtain ⟨ai, R, S⟩ := ob_some h
 clear h
 refine AW.loopX R [(1, _), (2, _), (3, _)] ⟨I, I, I, J⟩ (fun (k : (List Bool) × Int) s ob => ∃ (n : Value), s = [(5, .V k.2)] ∧ ob = [.arr p 37 3 1 [Plan.row b], .arr e 97 2 1 [[.N, .N]], .arr f 97 2 1 [[.v a, .v n]], .us a 4 1 (c.map rB), .us n 4 1 (k.1.map rB)]) ⟨(.slice none 0 0), I, I⟩ ⟨I, J⟩ ⟨[0, 1, 2, 3, 4], I, by decide⟩ ?_
 rintro k aj s ob ⟨n, rfl, rfl⟩ h U
 unfold L.zyrr.B3 at h
 refine AW.seqG (fun ak W => (AW.zr [.o 2 0, .l 3 (b.Ports.length : Int)] I ⟨len_m, I, J⟩ (AW.ch h I ?_ ?_)))
 intro X h
 refine AW.skip ?_
 subst W
 refine AW.seq (AW.block ?_)
 obtain ⟨u, ⟨Y, Z⟩, h⟩ := ob_ix h
 obtain ⟨al, aa, h⟩ := ob_some h
 refine AW.rd (.still 0 (.still 1 (.still 2 (.still 3 (.still 4 (.still 5 (.still 6 (.still 7 (.act 8 (.act 9 (.still 10 (.drop 11 .nil)))))))))))) [2, 0] [_, _] I (AP.r 8 [.o 1 0, .o 3 1, .x 5 u.1 (rI u.2)] I ⟨⟨Y, map_get Z⟩, I, I, J⟩ (AP.act [] I I I (AX.lt 1 (([(u.2 != 0)] : List Bool).map rB) (AP.act [4] I I I (AX.ap 4 I aa (fun y => (AP.q 1 I (AP.one 4 I (fun ab => (AP.drop [2] I I I (AX.store 2 0 1 (es' := [[.v a, .v y]]) I I I I I I (cells_v ab) I (le_ble I) I I (AP.ofAO (AO.nil (AW.region (AO.q 3 I ?_)))))))))))))))
 obtain rfl := oi h
 refine AO.nil ?_
 exact ⟨_, _, _, I, ⟨y, I, I⟩, ⟨I, I, I, I, J⟩, [0, 1, 2, 3, 4], I, by decide⟩
 intro X h
 obtain rfl := U _ (oi h).symm
 replace h := S
 refine AW.exit ?_
 exact lg ⟨k.1, n, h, I, I⟩ [1, 2, 3, 4]
 rintro s ob ⟨g, d, h, rfl, rfl⟩
 unfold L.zyrr.J2 at h
 refine AW.seq (AW.region (AO.r 1 [.o 0 1] I ⟨I, J⟩ (AO.act [0] I (AX.st 0 0 0 [[.v a, .v d]] I (AO.nil (AW.ghost (Ghost.freeze [2, 3] (K := [.us a 4 1 (c.map rB), .us d 4 1 (g.map rB)]) I [] J (ob' := [.arr e 97 2 1 [[.list 1 (c.map rB), .list 1 (g.map rB)]], .arr f 97 2 1 [[.v a, .v d]]]) (.cons (.arr (.cons (.us 0 I) (.cons (.us 1 I) (.rest _)))) (.rest _))) (AW.gp [0] I ?_)))))))
 obtain rfl := oi h
 exact AW.ret ⟨.inr I, [_], [], ⟨⟨0, _, _, _, _, _, _, _, I, I, I, I, I⟩, J⟩, sl_n, I, I⟩
theorem L.zazn_ok (a : Network) (r : Int) (h : L.zazn a = r) : ACalls Tryz.env 82 [.agg (Network.row a)] [] (fun x new => x = .V r ∧ new = []) := by
 refine ACalls.of_body Tryz.func82 rfl rfl rfl (fun C hC => ?_)
 unfold L.zazn at h
 refine AW.seq (AW.region (AO.act [] I (AX.box (cs := Network.row a) (m := 6) I I I dS (fun b => (AO.q 1 I (AO.nil (AW.zr [.o 1 0, .l 2 (a.Segments.length : Int), .o 4 0, .l 5 (a.Ports.length : Int)] I ⟨len_m, I, len_m, I, J⟩ (AW.ghost g0 ?_))))))))
 obtain rfl := h
 exact AW.ret pr
theorem L.ztgl_ok (a : Network) (b : Hop) (r : Int × Int) (h : L.ztgl a b = some r) : ACalls Tryz.env 110 [.agg (Network.row a), .agg (Hop.row b)] [] (fun x new => x = .tup [.V r.1, .V r.2] ∧ new = []) := by
 refine ACalls.of_body Tryz.func110 rfl rfl rfl (fun C hC => ?_)
 unfold L.ztgl at h
 refine AW.seqG (fun j d => (AW.region (AO.act [] I (AX.box (cs := Network.row a) (m := 6) I I I dS (fun k => (AO.act [] I (AX.box (cs := Hop.row b) (m := 2) I I I dS (fun l => (AO.q 2 I (AO.nil ?_))))))))))
 subst d
 refine AW.seqG (fun n e => ?_)
 obtain ⟨c, ⟨f, g⟩, h⟩ := ob_ix h
 refine AW.region (AO.r 6 [.o 1 0, .o 3 1, .x 4 c.1 (Segment.row c.2)] I ⟨⟨f, map_get g⟩, I, I, J⟩ (AO.act [] I (AX.alloc (cs := [.v (.string ⟨#[]⟩), .V 0, .V 0, .V 0, .V 0, .V 0, .N]) (m := 7) I I I I I dS (fun p => (AO.act [2] I (AX.st 2 0 0 [Segment.row c.2] I (AO.nil ?_)))))))
 subst e
 refine AW.seq (AW.zr [.o 1 1] I ⟨I, J⟩ (AW.ch h I ?_ ?_))
 intro i h
 refine AW.dz (pd 6 0 []) [2] [_] [.o 1 0, .o 3 0] I I ⟨I, I, J⟩ (AW.ghost g0 ?_)
 obtain rfl := oi h
 exact AW.ret ⟨.inr I, [_, _], [], ⟨I, I, J⟩, sl_n, I, I⟩
 intro i h
 refine AW.skip (AW.dz (pd 6 0 []) [2] [_] [.o 1 0, .o 3 0] I I ⟨I, I, J⟩ (AW.ghost g0 ?_))
 obtain rfl := oi h
 exact AW.ret ⟨.inr I, [_, _], [], ⟨I, I, J⟩, sl_n, I, I⟩
end Go.Proofs.YtmaamhgjeampmaaGreat
