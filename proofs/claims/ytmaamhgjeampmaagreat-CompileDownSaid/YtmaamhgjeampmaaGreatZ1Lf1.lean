/- Walks that show what functions of the program compute; printed by a program of ours. No condition. -/
import Derived.Test.YtmaamhgjeampmaaGreatZtLe
import Derived.Test.YtmaamhgjeampmaaGreatZtL4c
import Derived.Test.YtmaamhgjeampmaaGreatZtL4b
import Derived.Test.YtmaamhgjeampmaaGreatZtP0
set_option maxRecDepth 100000
namespace Go.Proofs.YtmaamhgjeampmaaGreat
open Go.Aw
set_option linter.unusedVariables false
set_option linter.unusedSimpArgs false
set_option maxHeartbeats 4000000
theorem L.zoig_ok (f : Network) (g : Desk) (e : List Step) (r : Desk × Int × Int) (h : L.zoig f g e = some r) : ACalls Tryz.env 24 [.agg (Network.row f), .agg (Desk.row g), .list 7 (e.map Step.row)] [] (fun x new => x = .tup [.agg (Desk.row r.1), .V r.2.1, .V r.2.2] ∧ new = []) := by
 refine ACalls.of_body Tryz.func24 rfl rfl rfl (fun C hC => ?_)
 unfold L.zoig at h
 refine AW.seqG (fun P A => (AW.region (AO.act [] I (AX.box (cs := Network.row f) (m := 6) I I I dS (fun p => (AO.act [] I (AX.box (cs := Desk.row g) (m := 4) I I I dS (fun i => (AO.act [] I (AX.alloc (cs := [.N, .N, .N, .N]) (m := 4) I I I I I dS (fun j => (AO.q 2 I (AO.nil ?_)))))))))))))
 subst A
 refine AW.seqG (fun Q B => (AW.zr [.l 1 (e.length : Int)] I ⟨len_m, J⟩ (AW.ch h I ?_ ?_)))
 intro D h
 refine AW.seq (AW.region (AO.r 1 [.o 0 1] I ⟨I, J⟩ (AO.act [2] I (AX.st 2 0 0 [Desk.row g] I (AO.q 2 I (AO.nil (AW.gp [2] I ?_)))))))
 obtain rfl := oi h
 exact AW.ret ⟨.inr I, [_, _, _], [], ⟨⟨0, _, _, _, _, _, _, _, I, I, I, I, I⟩, I, I, J⟩, sl_n, I, I⟩
 intro D h
 refine AW.skip ?_
 subst B
 refine AW.cutX (fun s ob => ∃ (d : (List Valve) × (List Int) × (List Int) × (List Bool)), L.zoig.J1 e d = some r ∧ s = [] ∧ ob = [.arr i 39 4 1 [[.list 4 (d.1.map Valve.row), .list 1 (d.2.1.map rI), .list 1 (d.2.2.1.map rI), .list 1 (d.2.2.2.map rB)]], .arr j 39 4 1 [[.N, .N, .N, .N]]]) [(2, _), (4, _), (6, _)] ⟨I, I, I, J⟩ ?_ ?_
 refine AW.z I (AW.block ?_)
 obtain ⟨R, E, t⟩ := ob_some h
 clear h
 refine AW.loopX E [(2, _), (3, _), (4, _), (6, _)] ⟨I, I, I, I, J⟩ (fun (a : (List Valve) × (List Int) × (List Int) × (List Bool) × Int) s ob => s = [(9, .V a.2.2.2.2)] ∧ ob = [.arr p 32 6 1 [Network.row f], .arr i 39 4 1 [[.list 4 (a.1.map Valve.row), .list 1 (a.2.1.map rI), .list 1 (a.2.2.1.map rI), .list 1 (a.2.2.2.1.map rB)]], .arr j 39 4 1 [[.N, .N, .N, .N]]]) ⟨I, I⟩ ⟨I, J⟩ ⟨[0, 1, 2], I, by decide⟩ ?_
 rintro a F s ob ⟨rfl, rfl⟩ h u
 unfold L.zoig.B2 at h
 refine AW.seqG (fun S G => (AW.zr [.l 2 (e.length : Int)] I ⟨len_m, J⟩ (AW.ch h I ?_ ?_)))
 intro H h
 refine AW.skip ?_
 subst G
 refine AW.seq (AW.block (AW.cutX (fun s ob => ∃ (c : (List Valve) × (List Int) × (List Int) × (List Bool) × Int) (k : Nat), L.zoig.J3 a c = some F ∧ s = [(10, .v (.pointer (some ⟨k, 0, none⟩))), (11, .V c.2.2.2.2)] ∧ ob = [.arr p 32 6 1 [Network.row f], .arr i 39 4 1 [[.list 4 (a.1.map Valve.row), .list 1 (a.2.1.map rI), .list 1 (a.2.2.1.map rI), .list 1 (a.2.2.2.1.map rB)]], .arr j 39 4 1 [[.N, .N, .N, .N]], .arr k 39 4 1 [[.list 4 (c.1.map Valve.row), .list 1 (c.2.1.map rI), .list 1 (c.2.2.1.map rI), .list 1 (c.2.2.2.1.map rB)]]]) [(2, _), (3, _), (4, _), (6, _), (9, _)] ⟨I, I, I, I, I, J⟩ ?_ ?_))
 obtain ⟨w, ⟨K, M⟩, h⟩ := ob_ix h
 obtain ⟨b, y, h⟩ := ob_some h
 refine AW.rd (.still 0 (.still 1 (.still 2 (.still 3 (.still 4 (.still 5 (.two 6 10 (.still 7 (.still 8 (.still 9 (.act 10 (.act 11 (.still 12 .nil)))))) (.act 6 (.still 7 (.still 8 (.still 9 (.act 11 (.still 12 .nil))))))))))))) [0, 1] [_, _] I (AP.r 6 [.o 0 0, .o 1 1, .x 4 w.1 (Step.row w.2)] I ⟨⟨K, map_get M⟩, I, I, J⟩ (AP.two ?_ ?_))
 refine AP.act [] I I I (AX.call0 I I I (L.zvix_ok _ _ _ _ y) dS ?_)
 rintro _ _ ⟨rfl, rfl⟩
 refine AP.q 3 I (AP.act [] I I I (AX.alloc (cs := [.N, .N, .N, .N]) (m := 4) I I I I I dS (fun n => (AP.act [3] I I I (AX.st 3 0 0 [Desk.row b.1] I (AP.q 1 I (AP.ofAO (AO.nil ?_))))))))
 exact lg ⟨(b.1.Valves, b.1.Plan.Rates, b.1.Plan.Ports, b.1.Plan.Pumps, b.2), n, h, I, I⟩ [0, 1, 2, 3]
 refine AP.act [] I I I (AX.alloc (cs := [.N, .N, .N, .N]) (m := 4) I I I I I dS (fun n => (AP.act [] I I I (AX.call0 I I I (L.zvix_ok _ _ _ _ y) dS ?_))))
 rintro _ _ ⟨rfl, rfl⟩
 refine AP.q 3 I (AP.act [3] I I I (AX.st 3 0 0 [Desk.row b.1] I (AP.q 1 I (AP.ofAO (AO.nil ?_)))))
 exact lg ⟨(b.1.Valves, b.1.Plan.Rates, b.1.Plan.Ports, b.1.Plan.Pumps, b.2), n, h, I, I⟩ [0, 1, 2, 3]
 rintro s ob ⟨c, k, h, rfl, rfl⟩
 unfold L.zoig.J3 at h
 refine AW.seq (AW.z I (AW.ch h I ?_ ?_))
 intro O h
 refine AW.seq (AW.region (AO.r 3 [.o 0 1] I ⟨I, J⟩ (AO.act [2] I (AX.st 2 0 0 [[.list 4 (a.1.map Valve.row), .list 1 (a.2.1.map rI), .list 1 (a.2.2.1.map rI), .list 1 (a.2.2.2.1.map rB)]] I (AO.q 2 I (AO.nil ?_))))))
 obtain rfl := u _ (oi h).symm
 replace h := t
 replace h := se_l h
 refine AW.gp [2] I ?_
 obtain rfl := oi h
 exact AW.ret ⟨.inr I, [_, _, _], [], ⟨⟨0, _, _, _, _, _, _, _, I, I, I, I, I⟩, I, I, J⟩, sl_n, I, I⟩
 intro O h
 refine AW.skip (AW.region (AO.r 1 [.o 0 3] I ⟨I, J⟩ (AO.act [1] I (AX.st 1 0 0 [[.list 4 (c.1.map Valve.row), .list 1 (c.2.1.map rI), .list 1 (c.2.2.1.map rI), .list 1 (c.2.2.2.1.map rB)]] I (AO.nil (AW.region (AO.q 3 I ?_)))))))
 obtain rfl := oi h
 refine AO.nil ?_
 exact ⟨_, _, _, I, ⟨I, I⟩, ⟨I, I, I, I, I, J⟩, [0, 1, 2], I, by decide⟩
 intro H h
 obtain rfl := u _ (oi h).symm
 replace h := t
 replace h := se_r h
 refine AW.exit ?_
 exact lg ⟨(a.1, a.2.1, a.2.2.1, a.2.2.2.1), h, I, I⟩ [1, 2]
 rintro s ob ⟨d, h, rfl, rfl⟩
 unfold L.zoig.J1 at h
 refine AW.seq (AW.region (AO.r 3 [.o 0 0, .l 2 (e.length : Int)] I ⟨len_m, I, J⟩ (AO.act [1] I (AX.st 1 0 0 [[.list 4 (d.1.map Valve.row), .list 1 (d.2.1.map rI), .list 1 (d.2.2.1.map rI), .list 1 (d.2.2.2.map rB)]] I (AO.q 2 I (AO.nil (AW.gp [1] I ?_)))))))
 obtain rfl := oi h
 exact AW.ret ⟨.inr I, [_, _, _], [], ⟨⟨0, _, _, _, _, _, _, _, I, I, I, I, I⟩, I, I, J⟩, sl_n, I, I⟩
theorem L.zgbr_ok (B : List Int) (t : Int) (r : Bool) (h : L.zgbr B t = some r) : ACalls Tryz.env 8 [.list 1 (B.map rI), .v (.int .u8 t)] [] (fun x new => x = .v (.bool r) ∧ new = []) := by
 refine ACalls.of_body Tryz.func8 rfl rfl rfl (fun C hC => ?_)
 unfold L.zgbr at h
 refine AW.z I (AW.seqG (fun y2 ae => (AW.seq (AW.region (AO.q 1 I (AO.c (L.zqaf_ok B _ I) (AO.q 1 I (AO.nil (AW.ch h I ?_ ?_)))))))))
 intro af h
 refine AW.seq ?_
 obtain ⟨r4, ag, h⟩ := ob_some h
 refine AW.region (AO.c (L.zgom_ok  _ ag) (AO.q 1 I (AO.nil ?_)))
 obtain rfl := oi h
 exact AW.ret pr
 intro af h
 refine AW.skip ?_
 subst ae
 refine AW.seqG (fun y6 ah => ?_)
 obtain ⟨r7, ai, h⟩ := ob_some h
 refine AW.region (AO.q 1 I (AO.act [] I (AX.call0 I I I (L.ziti_ok _ _ ai) dS ?_)))
 rintro _ _ ⟨f, rfl, rfl⟩
 refine AO.q 1 I (AO.nil ?_)
 subst ah
 refine AW.seqG (fun bj aj => ?_)
 obtain ⟨u, ak, h⟩ := ob_some h
 refine AW.region (AO.q 1 I (AO.act [0] I (AX.c0 [0] (L.zeju_ok f _ _ ak) ?_)))
 refine AO.act [] I (AX.alloc (cs := [.N, .N, .N, .N, .V 0, .V 0]) (m := 6) I I I I I dS (fun G => (AO.act [1] I (AX.st 1 0 0 [Network.row u.1] I (AO.nil ?_)))))
 subst aj
 refine AW.cutX (fun s ob => ∃ (b : (List Valve) × (List Int) × (List Int) × (List Bool)) (w : Nat), L.zgbr.J1 t u b = some r ∧ s = [(7, .v (.pointer (some ⟨w, 0, none⟩)))] ∧ ob = [.arr G 32 6 1 [Network.row u.1], .arr w 39 4 1 [[.list 4 (b.1.map Valve.row), .list 1 (b.2.1.map rI), .list 1 (b.2.2.1.map rI), .list 1 (b.2.2.2.map rB)]]]) [(1, _), (6, _)] ⟨I, I, J⟩ ?_ ?_
 obtain ⟨bk, H, h⟩ := ob_some h
 obtain ⟨bl, D, h⟩ := ob_some h
 obtain ⟨d, y, h⟩ := ob_some h
 refine AW.rd (.still 0 (.still 1 (.still 2 (.still 3 (.two 4 7 (.two 5 7 (.two 6 7 (.act 7 (.act 8 .nil)) (.act 6 (.act 8 .nil))) (.act 5 (.act 6 (.act 8 .nil)))) (.act 4 (.act 5 (.act 6 (.act 8 .nil))))))))) [1] [_] I (AP.r 4 [.o 1 0, .o 3 0] I ⟨I, I, J⟩ (AP.two ?_ ?_))
 refine AP.act [0] I I I (AX.c0 [0] (L.zhma_ok f _ _ _ H) ?_)
 refine AP.two ?_ ?_
 refine AP.act [0] I I I (AX.c0 [0] (L.zrqy_ok f _ _ _ _ D) ?_)
 refine AP.two ?_ ?_
 refine AP.act [] I I I (AX.call0 I I I (L.zqyk_ok _ _ y) dS ?_)
 rintro _ _ ⟨rfl, rfl⟩
 refine AP.act [] I I I (AX.alloc (cs := [.N, .N, .N, .N]) (m := 4) I I I I I dS (fun A => (AP.act [2] I I I (AX.st 2 0 0 [Desk.row d] I (AP.ofAO (AO.nil ?_))))))
 rotate_left
 refine AP.act [] I I I (AX.alloc (cs := [.N, .N, .N, .N]) (m := 4) I I I I I dS (fun A => (AP.act [] I I I (AX.call0 I I I (L.zqyk_ok _ _ y) dS ?_))))
 rintro _ _ ⟨rfl, rfl⟩
 refine AP.act [2] I I I (AX.st 2 0 0 [Desk.row d] I (AP.ofAO (AO.nil ?_)))
 rotate_left
 refine AP.act [] I I I (AX.alloc (cs := [.N, .N, .N, .N]) (m := 4) I I I I I dS (fun A => (AP.act [0] I I I (AX.c0 [0] (L.zrqy_ok f _ _ _ _ D) ?_))))
 refine AP.act [] I I I (AX.call0 I I I (L.zqyk_ok _ _ y) dS ?_)
 rintro _ _ ⟨rfl, rfl⟩
 refine AP.act [2] I I I (AX.st 2 0 0 [Desk.row d] I (AP.ofAO (AO.nil ?_)))
 rotate_left
 refine AP.act [] I I I (AX.alloc (cs := [.N, .N, .N, .N]) (m := 4) I I I I I dS (fun A => (AP.act [0] I I I (AX.c0 [0] (L.zhma_ok f _ _ _ H) ?_))))
 refine AP.act [0] I I I (AX.c0 [0] (L.zrqy_ok f _ _ _ _ D) ?_)
 refine AP.act [] I I I (AX.call0 I I I (L.zqyk_ok _ _ y) dS ?_)
 rintro _ _ ⟨rfl, rfl⟩
 refine AP.act [2] I I I (AX.st 2 0 0 [Desk.row d] I (AP.ofAO (AO.nil ?_)))
 any_goals
  exact lg ⟨(d.Valves, d.Plan.Rates, d.Plan.Ports, d.Plan.Pumps), A, h, I, I⟩ [1, 2]
 rintro s ob ⟨b, w, h, rfl, rfl⟩
 unfold L.zgbr.J1 at h
 refine AW.seqG (fun bm al => ?_)
 obtain ⟨e, am, h⟩ := ob_some h
 refine AW.region (AO.r 3 [.o 0 0, .o 1 1] I ⟨I, I, J⟩ (AO.p (Yp.convI (c := wr (t)) I I I I I) I (AO.q 1 I (AO.act [] I (AX.call0 I I I (L.zfzy_ok _ _ _ _ _ am) dS ?_)))))
 rintro _ _ ⟨an, rfl, rfl⟩
 refine AO.q 5 I (AO.nil ?_)
 subst al
 refine AW.seqG (fun bn ao => (AW.z I (AW.ch h I ?_ ?_)))
 intro ap h
 refine AW.seq ?_
 obtain ⟨bo, aq, h⟩ := ob_some h
 refine AW.region (AO.c (L.zgom_ok  _ aq) (AO.q 1 I (AO.nil (AW.ghost g0 ?_))))
 obtain rfl := oi h
 exact AW.ret pr
 intro ap h
 refine AW.skip ?_
 subst ao
 refine AW.seqG (fun bp ar => ?_)
 obtain ⟨a, au, h⟩ := ob_some h
 refine AW.region (AO.r 3 [.o 0 0, .o 1 1] I ⟨I, I, J⟩ (AO.ghost (Ghost.freeze [2] (K := [.us an 54 7 (e.1.map Step.row)]) I [(38, .list 7 (e.1.map Step.row)), (8, .list 7 (e.1.map Step.row)), (46, .list 7 (e.1.map Step.row))] ⟨⟨_, I, .us 0 I⟩, ⟨_, I, .us 0 I⟩, ⟨_, I, .us 0 I⟩, J⟩ (ob' := [.arr G 32 6 1 [Network.row u.1], .arr w 39 4 1 [[.list 4 (b.1.map Valve.row), .list 1 (b.2.1.map rI), .list 1 (b.2.2.1.map rI), .list 1 (b.2.2.2.map rB)]]]) (.rest _)) (AO.act [] I (AX.call0 I I I (L.zoig_ok _ _ _ _ au) dS ?_))))
 rintro _ _ ⟨rfl, rfl⟩
 refine AO.q 4 I (AO.act [] I (AX.alloc (cs := [.N, .N, .N, .N]) (m := 4) I I I I I dS (fun g => (AO.act [2] I (AX.st 2 0 0 [Desk.row a.1] I (AO.q 2 I (AO.nil ?_)))))))
 subst ar
 refine AW.seqG (fun bq av => (AW.jb 62 ((e.2 != 0) || ((a.2.2 != 0) || (a.2.1 != (e.1.length : Int)))) ?_ ?_))
 refine AW.region (AO.q 3 I ?_)
 rcases bt ((e.2 != 0)) with i | i
 refine AO.known 53 I i (AO.q 9 I (AO.nil ?_))
 exact jf (by simp only [i, bz]) I I ⟨I, I⟩
 refine AO.known 53 I i (AO.q 4 I ?_)
 rcases bt ((a.2.2 != 0)) with k | k
 refine AO.known 57 I k (AO.q 5 I (AO.nil ?_))
 exact jf (by simp only [i, k, bz]) I I ⟨I, I⟩
 refine AO.known 57 I k (AO.r 5 [.l 2 (e.1.length : Int)] I ⟨len_m, J⟩ (AO.nil ?_))
 exact jf (by simp only [i, k, bz]) I I ⟨I, I⟩
 refine AW.ch h I ?_ ?_
 intro aw h
 refine AW.z I (AW.ghost g0 ?_)
 obtain rfl := oi h
 exact AW.ret pr
 intro aw h
 refine AW.skip ?_
 subst av
 refine AW.cutX (fun s ob => ∃ (M : Unit), L.zgbr.J2 a M = some r ∧ s = [] ∧ ob = [.arr g 39 4 1 [Desk.row a.1]]) [(10, _)] ⟨I, J⟩ ?_ ?_
 refine AW.z I (AW.block ?_)
 obtain ⟨br, ax, O⟩ := ob_some h
 clear h
 refine AW.loopX ax [(10, _)] ⟨I, J⟩ (fun (P : Int) s ob => s = [(13, .V P)] ∧ ob = [.arr g 39 4 1 [Desk.row a.1]]) ⟨I, I⟩ ⟨I, J⟩ ⟨[2], I, by decide⟩ ?_
 rintro P bs s ob ⟨rfl, rfl⟩ h Q
 unfold L.zgbr.B8 at h
 refine AW.seqG (fun bu ay => (AW.zr [.o 3 0, .l 4 (a.1.Plan.Ports.length : Int)] I ⟨len_m, I, J⟩ (AW.ch h I ?_ ?_)))
 intro az h
 refine AW.skip ?_
 subst ay
 refine AW.seq (AW.block (AW.seq ?_))
 obtain ⟨R, ⟨a0, a1⟩, h⟩ := ob_ix h
 refine AW.tr [.o 2 0, .x 4 R.1 (rI R.2)] I ⟨⟨a0, map_get a1⟩, I, J⟩ (AW.ch h I ?_ ?_)
 intro a2 h
 refine AW.z I ?_
 obtain rfl := Q _ (oi h).symm
 replace h := O
 replace h := se_l h
 refine AW.ghost g0 ?_
 obtain rfl := oi h
 exact AW.ret pr
 intro a2 h
 refine AW.skip (AW.region (AO.q 3 I ?_))
 obtain rfl := oi h
 refine AO.nil ?_
 exact ⟨_, _, _, I, ⟨I, I⟩, ⟨I, I, J⟩, [0], I, by decide⟩
 intro az h
 obtain rfl := Q _ (oi h).symm
 replace h := O
 replace h := se_r h
 refine AW.exit ?_
 exact lg ⟨(), h, I, I⟩ [0]
 rintro s ob ⟨M, h, rfl, rfl⟩
 unfold L.zgbr.J2 at h
 refine AW.cutX (fun s ob => ∃ (S : Unit), L.zgbr.J3 a S = some r ∧ s = [] ∧ ob = [.arr g 39 4 1 [Desk.row a.1]]) [(10, _)] ⟨I, J⟩ ?_ ?_
 refine AW.z I (AW.block ?_)
 obtain ⟨bv, a3, U⟩ := ob_some h
 clear h
 refine AW.loopX a3 [(10, _)] ⟨I, J⟩ (fun (W : Int) s ob => s = [(14, .V W)] ∧ ob = [.arr g 39 4 1 [Desk.row a.1]]) ⟨I, I⟩ ⟨I, J⟩ ⟨[0], I, by decide⟩ ?_
 rintro W bw s ob ⟨rfl, rfl⟩ h X
 unfold L.zgbr.B7 at h
 refine AW.seqG (fun bx a4 => (AW.zr [.o 3 0, .l 4 (a.1.Plan.Pumps.length : Int)] I ⟨len_m, I, J⟩ (AW.ch h I ?_ ?_)))
 intro a5 h
 refine AW.skip ?_
 subst a4
 refine AW.seq (AW.block (AW.seq ?_))
 obtain ⟨Y, ⟨a6, a7⟩, h⟩ := ob_ix h
 refine AW.tr [.o 2 0, .x 4 Y.1 (rB Y.2)] I ⟨⟨a6, map_get a7⟩, I, J⟩ (AW.ch h I ?_ ?_)
 intro a8 h
 refine AW.z I ?_
 obtain rfl := X _ (oi h).symm
 replace h := U
 replace h := se_l h
 refine AW.ghost g0 ?_
 obtain rfl := oi h
 exact AW.ret pr
 intro a8 h
 refine AW.skip (AW.region (AO.q 3 I ?_))
 obtain rfl := oi h
 refine AO.nil ?_
 exact ⟨_, _, _, I, ⟨I, I⟩, ⟨I, I, J⟩, [0], I, by decide⟩
 intro a5 h
 obtain rfl := X _ (oi h).symm
 replace h := U
 replace h := se_r h
 refine AW.exit ?_
 exact lg ⟨(), h, I, I⟩ [0]
 rintro s ob ⟨S, h, rfl, rfl⟩
 unfold L.zgbr.J3 at h
 refine AW.cutX (fun s ob => ∃ (Z : Unit), L.zgbr.J4 Z = some r ∧ s = [] ∧ ob = []) [] J ?_ ?_
 refine AW.z I (AW.block ?_)
 obtain ⟨b0, a9, aa⟩ := ob_some h
 clear h
 refine AW.loopX a9 [(10, _)] ⟨I, J⟩ (fun (E : Int) s ob => s = [(15, .V E)] ∧ ob = [.arr g 39 4 1 [Desk.row a.1]]) ⟨I, I⟩ ⟨I, J⟩ ⟨[0], I, by decide⟩ ?_
 rintro E ba s ob ⟨rfl, rfl⟩ h ab
 unfold L.zgbr.B5 at h
 refine AW.seqG (fun b1 bb => (AW.zr [.o 2 0, .l 3 (a.1.Valves.length : Int)] I ⟨len_m, I, J⟩ (AW.ch h I ?_ ?_)))
 intro bc h
 refine AW.skip ?_
 subst bb
 refine AW.seq (AW.block (AW.cutX (fun s ob => ∃ (F : Bool), L.zgbr.J6 E F = some ba ∧ s = [(113, .v (.bool F))] ∧ ob = [.arr g 39 4 1 [Desk.row a.1]]) [(10, _), (15, _)] ⟨I, I, J⟩ ?_ ?_))
 obtain ⟨j, ⟨ac, ad⟩, h⟩ := ob_ix h
 refine AW.region (AO.r 8 [.o 1 0, .x 3 j.1 (Valve.row j.2)] I ⟨⟨ac, map_get ad⟩, I, J⟩ ?_)
 rcases bt ((j.2.Open != 0)) with n | n
 replace h := ife_t n h
 refine AO.known 106 I n (AO.q 7 I (AO.nil ?_))
 exact lg ⟨true, h, I, I⟩ [0]
 replace h := ife_f n h
 refine AO.known 106 I n (AO.r 7 [.o 1 0, .x 3 j.1 (Valve.row j.2)] I ⟨⟨ac, map_get ad⟩, I, J⟩ (AO.nil ?_))
 exact lg ⟨j.2.Want, h, I, I⟩ [0]
 rintro s ob ⟨F, h, rfl, rfl⟩
 unfold L.zgbr.J6 at h
 refine AW.ch h I ?_ ?_
 intro bd h
 refine AW.z I ?_
 obtain rfl := ab _ (oi h).symm
 replace h := aa
 replace h := se_l h
 refine AW.ghost g0 ?_
 obtain rfl := oi h
 exact AW.ret pr
 intro bd h
 refine AW.skip (AW.region (AO.q 3 I ?_))
 obtain rfl := oi h
 refine AO.nil ?_
 exact ⟨_, _, _, I, ⟨I, I⟩, ⟨I, I, J⟩, [0], I, by decide⟩
 intro bc h
 obtain rfl := ab _ (oi h).symm
 replace h := aa
 replace h := se_r h
 refine AW.exit ?_
 exact lg ⟨(), h, I, I⟩ []
 rintro s ob ⟨Z, h, rfl, rfl⟩
 unfold L.zgbr.J4 at h
 refine AW.seq ?_
 obtain ⟨b2, be, h⟩ := ob_some h
 refine AW.region (AO.c (L.zgom_ok  _ be) (AO.q 1 I (AO.nil ?_)))
 obtain rfl := oi h
 exact AW.ret pr
end Go.Proofs.YtmaamhgjeampmaaGreat
