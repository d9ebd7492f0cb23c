/- Walks that show what functions of the program compute; printed by a program of ours. No condition. -/
import Derived.Test.YtmaamhgjeampmaaGreatZtLe
import Derived.Test.YtmaamhgjeampmaaGreatZtL4c
import Derived.Test.YtmaamhgjeampmaaGreatZtL4b
import Derived.Test.YtmaamhgjeampmaaGreatZ2D
set_option maxRecDepth 100000
namespace Go.Proofs.YtmaamhgjeampmaaGreat
open Go.Aw
set_option linter.unusedVariables false
set_option linter.unusedSimpArgs false
set_option maxHeartbeats 4000000
theorem L.zoig_ok (f : Network) (g : Desk) (e : List Step) (r : Desk × Int × Int) (h : L.zoig f g e = some r) : ACalls Tryz.env 24 [.agg (Network.row f), .agg (Desk.row g), .list 7 (e.map Step.row)] [] (fun x new => x = .tup [.agg (Desk.row r.1), .V r.2.1, .V r.2.2] ∧ new = []) := by
 refine ACalls.of_body Tryz.func24 rfl rfl rfl (fun C hC => ?_)
 unfold L.zoig at h
 refine AW.seqG (fun P A => (AW.region (AO.act [] I (AX.box (cs := Network.row f) (m := 6) I I I dS (fun p => (AO.act [] I (AX.box (cs := Desk.row g) (m := 4) I I I dS (fun i => (AO.act [] I (AX.alloc (cs := [.N, .N, .N, .N]) (m := 4) I I I I I dS (fun j => (AO.q 2 I (AO.nil ?_)))))))))))))
 subst A
 refine AW.seqG (fun Q B => (AW.zr [.l 1 (e.length : Int)] I ⟨len_m, J⟩ (AW.ch h I ?_ ?_)))
 intro D h
 refine AW.seq (AW.region (AO.r 1 [.o 0 1] I ⟨I, J⟩ (AO.act [2] I (AX.st 2 0 0 [Desk.row g] I (AO.q 2 I (AO.nil (AW.gp [2] I ?_)))))))
 obtain rfl := oi h
 exact AW.ret ⟨.inr I, [_, _, _], [], ⟨⟨0, _, _, _, _, _, _, _, I, I, I, I, I⟩, I, I, J⟩, sl_n, I, I⟩
 intro D h
 refine AW.skip ?_
 subst B
 refine AW.cutX (fun s ob => ∃ (d : (List Valve) × (List Int) × (List Int) × (List Bool)), L.zoig.J1 e d = some r ∧ s = [] ∧ ob = [.arr i 39 4 1 [[.list 4 (d.1.map Valve.row), .list 1 (d.2.1.map rI), .list 1 (d.2.2.1.map rI), .list 1 (d.2.2.2.map rB)]], .arr j 39 4 1 [[.N, .N, .N, .N]]]) [(2, _), (4, _), (6, _)] ⟨I, I, I, J⟩ ?_ ?_
 refine AW.z I (AW.block ?_)
 obtain ⟨R, E, t⟩ := ob_some h
 clear h
 refine AW.loopX E [(2, _), (3, _), (4, _), (6, _)] ⟨I, I, I, I, J⟩ (fun (a : (List Valve) × (List Int) × (List Int) × (List Bool) × Int) s ob => s = [(9, .V a.2.2.2.2)] ∧ ob = [.arr p 32 6 1 [Network.row f], .arr i 39 4 1 [[.list 4 (a.1.map Valve.row), .list 1 (a.2.1.map rI), .list 1 (a.2.2.1.map rI), .list 1 (a.2.2.2.1.map rB)]], .arr j 39 4 1 [[.N, .N, .N, .N]]]) ⟨I, I⟩ ⟨I, J⟩ ⟨[0, 1, 2], I, by decide⟩ ?_
 rintro a F s ob ⟨rfl, rfl⟩ h u
 unfold L.zoig.B2 at h
 refine AW.seqG (fun S G => (AW.zr [.l 2 (e.length : Int)] I ⟨len_m, J⟩ (AW.ch h I ?_ ?_)))
 intro H h
 refine AW.skip ?_
 subst G
 refine AW.seq (AW.block (AW.cutX (fun s ob => ∃ (c : (List Valve) × (List Int) × (List Int) × (List Bool) × Int) (k : Nat), L.zoig.J3 a c = some F ∧ s = [(10, .v (.pointer (some ⟨k, 0, none⟩))), (11, .V c.2.2.2.2)] ∧ ob = [.arr p 32 6 1 [Network.row f], .arr i 39 4 1 [[.list 4 (a.1.map Valve.row), .list 1 (a.2.1.map rI), .list 1 (a.2.2.1.map rI), .list 1 (a.2.2.2.1.map rB)]], .arr j 39 4 1 [[.N, .N, .N, .N]], .arr k 39 4 1 [[.list 4 (c.1.map Valve.row), .list 1 (c.2.1.map rI), .list 1 (c.2.2.1.map rI), .list 1 (c.2.2.2.1.map rB)]]]) [(2, _), (3, _), (4, _), (6, _), (9, _)] ⟨I, I, I, I, I, J⟩ ?_ ?_))
 obtain ⟨w, ⟨K, M⟩, h⟩ := ob_ix h
 obtain ⟨b, y, h⟩ := ob_some h
 refine AW.rd (.still 0 (.still 1 (.still 2 (.still 3 (.still 4 (.still 5 (.two 6 10 (.still 7 (.still 8 (.still 9 (.act 10 (.act 11 (.still 12 .nil)))))) (.act 6 (.still 7 (.still 8 (.still 9 (.act 11 (.still 12 .nil))))))))))))) [0, 1] [_, _] I (AP.r 6 [.o 0 0, .o 1 1, .x 4 w.1 (Step.row w.2)] I ⟨⟨K, map_get M⟩, I, I, J⟩ (AP.two ?_ ?_))
 refine AP.act [] I I I (AX.call0 I I I (L.zvix_ok _ _ _ _ y) dS ?_)
 rintro _ _ ⟨rfl, rfl⟩
 refine AP.q 3 I (AP.act [] I I I (AX.alloc (cs := [.N, .N, .N, .N]) (m := 4) I I I I I dS (fun n => (AP.act [3] I I I (AX.st 3 0 0 [Desk.row b.1] I (AP.q 1 I (AP.ofAO (AO.nil ?_))))))))
 exact lg ⟨(b.1.Valves, b.1.Plan.Rates, b.1.Plan.Ports, b.1.Plan.Pumps, b.2), n, h, I, I⟩ [0, 1, 2, 3]
 refine AP.act [] I I I (AX.alloc (cs := [.N, .N, .N, .N]) (m := 4) I I I I I dS (fun n => (AP.act [] I I I (AX.call0 I I I (L.zvix_ok _ _ _ _ y) dS ?_))))
 rintro _ _ ⟨rfl, rfl⟩
 refine AP.q 3 I (AP.act [3] I I I (AX.st 3 0 0 [Desk.row b.1] I (AP.q 1 I (AP.ofAO (AO.nil ?_)))))
 exact lg ⟨(b.1.Valves, b.1.Plan.Rates, b.1.Plan.Ports, b.1.Plan.Pumps, b.2), n, h, I, I⟩ [0, 1, 2, 3]
 rintro s ob ⟨c, k, h, rfl, rfl⟩
 unfold L.zoig.J3 at h
 refine AW.seq (AW.z I (AW.ch h I ?_ ?_))
 intro O h
 refine AW.seq (AW.region (AO.r 3 [.o 0 1] I ⟨I, J⟩ (AO.act [2] I (AX.st 2 0 0 [[.list 4 (a.1.map Valve.row), .list 1 (a.2.1.map rI), .list 1 (a.2.2.1.map rI), .list 1 (a.2.2.2.1.map rB)]] I (AO.q 2 I (AO.nil ?_))))))
 obtain rfl := u _ (oi h).symm
 replace h := t
 replace h := se_l h
 refine AW.gp [2] I ?_
 obtain rfl := oi h
 exact AW.ret ⟨.inr I, [_, _, _], [], ⟨⟨0, _, _, _, _, _, _, _, I, I, I, I, I⟩, I, I, J⟩, sl_n, I, I⟩
 intro O h
 refine AW.skip (AW.region (AO.r 1 [.o 0 3] I ⟨I, J⟩ (AO.act [1] I (AX.st 1 0 0 [[.list 4 (c.1.map Valve.row), .list 1 (c.2.1.map rI), .list 1 (c.2.2.1.map rI), .list 1 (c.2.2.2.1.map rB)]] I (AO.nil (AW.region (AO.q 3 I ?_)))))))
 obtain rfl := oi h
 refine AO.nil ?_
 exact ⟨_, _, _, I, ⟨I, I⟩, ⟨I, I, I, I, I, J⟩, [0, 1, 2], I, by decide⟩
 intro H h
 obtain rfl := u _ (oi h).symm
 replace h := t
 replace h := se_r h
 refine AW.exit ?_
 exact lg ⟨(a.1, a.2.1, a.2.2.1, a.2.2.2.1), h, I, I⟩ [1, 2]
 rintro s ob ⟨d, h, rfl, rfl⟩
 unfold L.zoig.J1 at h
 refine AW.seq (AW.region (AO.r 3 [.o 0 0, .l 2 (e.length : Int)] I ⟨len_m, I, J⟩ (AO.act [1] I (AX.st 1 0 0 [[.list 4 (d.1.map Valve.row), .list 1 (d.2.1.map rI), .list 1 (d.2.2.1.map rI), .list 1 (d.2.2.2.map rB)]] I (AO.q 2 I (AO.nil (AW.gp [1] I ?_)))))))
 obtain rfl := oi h
 exact AW.ret ⟨.inr I, [_, _, _], [], ⟨⟨0, _, _, _, _, _, _, _, I, I, I, I, I⟩, I, I, J⟩, sl_n, I, I⟩
end Go.Proofs.YtmaamhgjeampmaaGreat
