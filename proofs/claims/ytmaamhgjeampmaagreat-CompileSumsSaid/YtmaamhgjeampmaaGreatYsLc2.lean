/- Walks that show what functions of the program compute; printed by a program of ours. No condition. -/
import Derived.Test.YtmaamhgjeampmaaGreatYsLc1
import Derived.Test.YtmaamhgjeampmaaGreatYsB0
set_option maxRecDepth 100000
namespace Go.Proofs.YtmaamhgjeampmaaGreat
open Go.Aw
set_option linter.unusedVariables false
set_option linter.unusedSimpArgs false
set_option maxHeartbeats 4000000
theorem L.zlwi_ok (d : Int) (c : Nat) (e : List Step) (w1_0 : Value) (r : List Step) (h : L.zlwi d e = some r) : ACalls Tryz.env 51 [.V d, .v (.pointer (some ⟨c, 0, none⟩))] [.arr c 43 1 1 [[.v w1_0]], .us w1_0 54 7 (e.map Step.row)] (Gives 2 (fun x os new => ∃ (u0_0 : Value), x = .tup [] ∧ os = [.arr c 43 1 1 [[.v u0_0]], .us u0_0 54 7 (r.map Step.row)] ∧ new = [])) := by
 refine ACalls.of_body Tryz.func51 rfl rfl rfl (fun C hC => ?_)
 unfold L.zlwi at h
 refine AW.block ?_
 obtain ⟨u, g, i⟩ := ob_some h
 clear h
 refine AW.loopX g [(1, _)] ⟨I, J⟩ (fun (b : (List Step) × Int) s ob => ∃ (a : Value), s = [(0, .V b.2)] ∧ ob = [.arr c 43 1 1 [[.v a]], .us a 54 7 (b.1.map Step.row)]) ⟨w1_0, I, I⟩ ⟨I, J⟩ ⟨[0, 1], I, by decide⟩ ?_
 rintro b w s ob ⟨a, rfl, rfl⟩ h j
 unfold L.zlwi.B1 at h
 refine AW.seqG (fun y k => (AW.z I (AW.ch h I ?_ ?_)))
 intro m h
 refine AW.skip ?_
 subst k
 refine AW.seq (AW.block ?_)
 obtain ⟨A, n, h⟩ := ob_some h
 refine AW.region (AO.r 3 [.o 0 0] I ⟨I, J⟩ (AO.p (Yp.buildP (l := [.V 6, .V 0, .V (min b.2 100), .V 0, .V 0, .N, .V 0]) Tryz.bld54 I) I (AO.ghost (Ghost.freeze [] (K := []) I [(10, .agg [.V 6, .V 0, .V (min b.2 100), .V 0, .V 0, .list 2 ([].map Hop.row), .V 0])] ⟨⟨_, I, .agg (.cons (.refl _) (.cons (.refl _) (.cons (.refl _) (.cons (.refl _) (.cons (.refl _) (.cons (.nil _) (.rest _)))))))⟩, J⟩ (ob' := [.arr c 43 1 1 [[.v a]], .us a 54 7 (b.1.map Step.row)]) (.rest _)) (AO.act [] I (AX.lt 7 (([(⟨6, 0, (min b.2 100), (⟨0, 0, [], 0⟩ : Path)⟩ : Step)] : List Step).map Step.row) (AO.act [1] I (AX.ap 1 I n (fun f => (AO.one 1 I (fun t => (AO.act [0] I (AX.store 0 0 0 (es' := [[.v f]]) I I I I I I (cells_v t) I (le_ble I) I I (AO.nil (AW.region (AO.q 3 I ?_)))))))))))))))
 obtain rfl := oi h
 refine AO.nil ?_
 exact ⟨_, _, _, I, ⟨f, I, I⟩, ⟨I, I, J⟩, [0, 1], I, by decide⟩
 intro m h
 obtain rfl := j _ (oi h).symm
 replace h := i
 obtain rfl := oi h
 refine AW.exit ?_
 exact ⟨.inl I, [], [.arr c 43 1 1 [[.v a]], .us a 54 7 (b.1.map Step.row)], J, sl_c I (sl_c I (sl_n)), ⟨[.arr c 43 1 1 [[.v a]], .us a 54 7 (b.1.map Step.row)], [], I, I, a, I, I, I⟩⟩
theorem L.zihi_ok (a : Path) (n : Int) (g : Int) (i : Int) (b : Nat) (j : List Step) (w4_0 : Value) (t : Int) (r : List Step) (h : L.zihi a n g i j t = some r) : ACalls Tryz.env 52 [.agg (Path.row a), .V n, .V g, .eptr (rI i), .v (.pointer (some ⟨b, 0, none⟩)), .eptr [.fn 51 [] [.v (.pointer (some ⟨b, 0, none⟩))]], .eptr (rI t)] [.arr b 43 1 1 [[.v w4_0]], .us w4_0 54 7 (j.map Step.row)] (Gives 2 (fun x os new => ∃ (u0_0 : Value), x = .tup [] ∧ os = [.arr b 43 1 1 [[.v u0_0]], .us u0_0 54 7 (r.map Step.row)] ∧ new = [])) := by
 refine ACalls.of_body Tryz.func52 rfl rfl rfl (fun C hC => ?_)
 unfold L.zihi at h
 refine AW.seqG (fun S A => (AW.region (AO.act [] I (AX.box (cs := Path.row a) (m := 4) I I I dS (fun u => (AO.nil ?_))))))
 subst A
 refine AW.seqG (fun U B => ?_)
 obtain ⟨f, D, h⟩ := ob_some h
 refine AW.region (AO.r 2 [.o 1 2] I ⟨I, J⟩ (AO.act [] I (AX.call0 I I I (L.zjlw_ok _ _ D) dS ?_)))
 rintro _ _ ⟨k, rfl, rfl⟩
 refine AO.q 1 I (AO.one 3 I (fun E => (AO.act [2] I (AX.store 2 0 2 (es' := [[.V a.In, .V a.Out, .v k, .V a.Rate]]) I I I I I I (cells_v E) I (le_ble I) I I (AO.q 1 I (AO.act [2] I (AX.st 2 0 3 [[.V a.In, .V a.Out, .v k, .V 0]] I (AO.nil ?_))))))))
 subst B
 refine AW.block (AW.ghost (Ghost.freeze [3] (K := [.us k 107 2 (f.map Hop.row)]) I [(12, .list 2 (f.map Hop.row))] ⟨⟨_, I, .us 0 I⟩, J⟩ (ob' := [.arr b 43 1 1 [[.v w4_0]], .us w4_0 54 7 (j.map Step.row), .arr u 52 4 1 [[.V a.In, .V a.Out, .list 2 (f.map Hop.row), .V 0]]]) (.cons (.same _) (.cons (.same _) (.cons (.arr (.cons (.refl _) (.cons (.refl _) (.cons (.us 0 I) (.rest _))))) (.rest _))))) ?_)
 obtain ⟨W, F, G⟩ := ob_some h
 clear h
 refine AW.loopX F [(2, _), (3, _), (4, _), (5, _), (6, _), (7, _)] ⟨I, I, I, I, I, I, J⟩ (fun (e : (List Step) × Int) s ob => ∃ (c : Value), s = [(1, .V e.2)] ∧ ob = [.arr b 43 1 1 [[.v c]], .us c 54 7 (e.1.map Step.row), .arr u 52 4 1 [[.V a.In, .V a.Out, .list 2 (f.map Hop.row), .V 0]]]) ⟨w4_0, I, I⟩ ⟨I, J⟩ ⟨[0, 1, 2], I, by decide⟩ ?_
 rintro e X s ob ⟨c, rfl, rfl⟩ h H
 unfold L.zihi.B1 at h
 refine AW.seqG (fun Y M => (AW.z I (AW.ch h I ?_ ?_)))
 intro N h
 refine AW.skip ?_
 subst M
 refine AW.seq (AW.block (AW.seq ?_))
 obtain ⟨Z, O, h⟩ := ob_some h
 refine AW.region (AO.r 7 [.o 0 0, .o 6 2] I ⟨I, I, J⟩ (AO.p (Yp.buildP (l := [.V 5, .V 0, .V (wr (g * (min e.2 i))), .V a.In, .V a.Out, .list 2 (f.map Hop.row), .V 0]) Tryz.bld54 I) I (AO.act [] I (AX.lt 7 (([(⟨5, 0, wr (g * (min e.2 i)), (⟨a.In, a.Out, f, 0⟩ : Path)⟩ : Step)] : List Step).map Step.row) (AO.act [1] I (AX.ap 1 I O (fun w => (AO.one 1 I (fun P => (AO.act [0] I (AX.store 0 0 0 (es' := [[.v w]]) I I I I I I (cells_v P) I (le_ble I) I I (AO.nil ?_))))))))))))
 obtain ⟨aa, Q, h⟩ := ob_some h
 refine AW.region (AO.d (Yd.loadE I I (y := .fn 51 [] [.v (.pointer (some ⟨b, 0, none⟩))]) I) I (AO.q 1 I (AO.act [0, 1] I (AX.cg [0, 1] (L.zlwi_ok _ b _ w _ Q) ?_))))
 rintro _ _ _ - ⟨R, rfl, rfl, rfl⟩
 refine AO.nil (AW.region (AO.q 4 I ?_))
 obtain rfl := oi h
 refine AO.nil ?_
 exact ⟨_, _, _, I, ⟨R, I, I⟩, ⟨I, I, I, I, I, I, I, J⟩, [0, 1, 2], I, by decide⟩
 intro N h
 obtain rfl := H _ (oi h).symm
 replace h := G
 refine AW.gp [0, 1] I ?_
 obtain rfl := oi h
 refine AW.exit ?_
 exact ⟨.inl I, [], [.arr b 43 1 1 [[.v c]], .us c 54 7 (e.1.map Step.row)], J, sl_c I (sl_c I (sl_n)), ⟨[.arr b 43 1 1 [[.v c]], .us c 54 7 (e.1.map Step.row)], [], I, I, c, I, I, I⟩⟩
theorem L.zzjm_ok (n : Network) (e : Desk) (a : Plan) (w : Int) (A : Int) (r : (List Step) × Int) (h : L.zzjm n e a w A = some r) : ACalls Tryz.env 16 [.agg (Network.row n), .agg (Desk.row e), .agg (Plan.row a), .V w, .V A] [] (fun x new => ∃ (u0 : Value), x = .tup [.v u0, .V r.2] ∧ new = [.us u0 54 7 (r.1.map Step.row)]) := by
 refine ACalls.of_body Tryz.func16 rfl rfl rfl (fun C hC => ?_)
 unfold L.zzjm at h
 refine AW.seqG (fun y1 b9 => (AW.region (AO.act [] I (AX.box (cs := Network.row n) (m := 6) I I I dS (fun H => (AO.act [] I (AX.box (cs := Desk.row e) (m := 4) I I I dS (fun t => (AO.act [] I (AX.box (cs := Plan.row a) (m := 3) I I I dS (fun f => (AO.act [] I (AX.box (cs := [.V w]) (m := 1) I I I dS (fun b5 => (AO.act [] I (AX.box (cs := [.V A]) (m := 1) I I I dS (fun b6 => (AO.q 2 I (AO.nil ?_)))))))))))))))))))
 subst b9
 refine AW.seqG (fun y7 ca => (AW.seq ?_))
 obtain ⟨r8, cb, h⟩ := ob_some h
 refine AW.region (AO.r 5 [.o 0 0, .o 1 1, .o 2 2, .o 3 3, .o 4 4] I ⟨I, I, I, I, I, J⟩ (AO.c (L.zjgg_ok _ _ _ _ _ _ cb) (AO.q 1 I (AO.nil (AW.z I (AW.ch h I ?_ ?_))))))
 intro cc h
 refine AW.z I (AW.ghost (Ghost.nilU 54 7) (AW.gp [5] I ?_))
 obtain rfl := oi h
 rotate_left
 intro cc h
 refine AW.skip ?_
 subst ca
 refine AW.seqG (fun e9 cd => ?_)
 obtain ⟨B, ce, h⟩ := ob_some h
 refine AW.region (AO.r 2 [.o 0 0] I ⟨I, J⟩ (AO.d (Yd.loadO 1 0 1 I I I I I (y := .agg (Plan.row e.Plan)) I) I (AO.act [] I (AX.call0 I I I (L.zxps_ok _ _ _ ce) dS ?_))))
 rintro _ _ ⟨U, rfl, rfl⟩
 refine AO.q 5 I (AO.nil ?_)
 subst cd
 refine AW.seqG (fun fa cf => (AW.z I (AW.ch h I ?_ ?_)))
 intro ci h
 refine AW.z I (AW.ghost (Ghost.nilU 54 7) (AW.gp [6] I ?_))
 obtain rfl := oi h
 rotate_left
 intro ci h
 refine AW.skip ?_
 subst cf
 refine AW.seqG (fun fb cj => ?_)
 obtain ⟨D, ck, h⟩ := ob_some h
 refine AW.region (AO.r 2 [.o 0 0, .o 1 2] I ⟨I, I, J⟩ (AO.act [] I (AX.call0 I I I (L.zxps_ok _ _ _ ck) dS ?_)))
 rintro _ _ ⟨W, rfl, rfl⟩
 refine AO.q 5 I (AO.nil ?_)
 subst cj
 refine AW.seqG (fun fc cl => (AW.z I (AW.ch h I ?_ ?_)))
 intro cm h
 refine AW.z I (AW.ghost (Ghost.nilU 54 7) (AW.gp [7] I ?_))
 obtain rfl := oi h
 any_goals
  exact AW.ret ⟨.inr I, [_, _], [.us (.slice none 0 0) 54 7 ([].map Step.row)], ⟨I, I, J⟩, sl_c I (sl_n), ⟨(.slice none 0 0), I, I⟩⟩
 intro cm h
 refine AW.skip ?_
 subst cl
 refine AW.cutX (fun s ob => ∃ (a9 : Unit), L.zzjm.J1 n e a w A B D a9 = some r ∧ s = [] ∧ ob = [.arr H 32 6 1 [Network.row n], .arr t 39 4 1 [Desk.row e], .arr f 37 3 1 [Plan.row a], .arr b5 3 1 1 [[.V w]], .arr b6 3 1 1 [[.V A]], .us U 52 4 (B.1.map Path.row), .us W 52 4 (D.1.map Path.row)]) [(5, _), (6, _), (7, _), (8, _), (9, _), (13, _), (15, _)] ⟨I, I, I, I, I, I, I, J⟩ ?_ ?_
 refine AW.zr [.o 1 2, .l 2 (a.Pumps.length : Int)] I ⟨len_m, I, J⟩ (AW.block (AW.lm 64 I (fun cn => ?_)))
 obtain ⟨fd, co, ba⟩ := ob_some h
 clear h
 refine AW.forX co [(5, _), (6, _), (7, _), (8, _), (9, _), (13, _), (15, _), (64, _), (65, _)] ⟨I, I, I, I, I, I, I, I, I, J⟩ (fun (ah : Nat) (bb : Unit) s ob => s = [(66, .V (ah : Int))] ∧ ob = [.arr H 32 6 1 [Network.row n], .arr t 39 4 1 [Desk.row e], .arr f 37 3 1 [Plan.row a], .arr b5 3 1 1 [[.V w]], .arr b6 3 1 1 [[.V A]], .us U 52 4 (B.1.map Path.row), .us W 52 4 (D.1.map Path.row)]) ⟨I, I⟩ ⟨I, J⟩ ⟨[0, 1, 2, 3, 4, 5, 6], I, by decide⟩ ?_ ?_
 rintro ah bc bb cp s ob cq bd ⟨rfl, rfl⟩ h cr
 unfold L.zzjm.B14 at h
 have ct := lt_t bd
 refine AW.z I (AW.seqG (fun fe cu => (AW.condK (v := true) I ct (AW.skip ?_))))
 subst cu
 refine AW.seq (AW.block (AW.zr [.x 1 ah (rB bc)] I ⟨⟨I, map_get cq⟩, J⟩ (AW.cutX (fun s ob => ∃ (az : Bool), L.zzjm.J15 az = some cp ∧ s = [(78, .v (.bool az))] ∧ ob = [.arr H 32 6 1 [Network.row n], .arr t 39 4 1 [Desk.row e], .arr f 37 3 1 [Plan.row a], .arr b5 3 1 1 [[.V w]], .arr b6 3 1 1 [[.V A]], .us U 52 4 (B.1.map Path.row), .us W 52 4 (D.1.map Path.row)]) [(5, _), (6, _), (7, _), (8, _), (9, _), (13, _), (15, _), (64, _), (65, _), (66, _)] ⟨I, I, I, I, I, I, I, I, I, I, J⟩ ?_ ?_)))
 refine AW.region (AO.q 2 I ?_)
 rcases bt (bc) with X | X
 replace h := ife_t X h
 obtain ⟨cv, cw, h⟩ := ob_some h
 refine AO.known 72 I X (AO.r 3 [.o 0 0, .o 1 2] I ⟨I, I, J⟩ (AO.gt I I I (AO.c (L.zvla_ok _ _ _ _ cw) (AO.q 2 I (AO.nil ?_)))))
 exact lg ⟨(!cv), h, I, I⟩ [0, 1, 2, 3, 4, 5, 6]
 replace h := ife_f X h
 refine AO.known 72 I X (AO.q 6 I (AO.nil ?_))
 exact lg ⟨false, h, I, I⟩ [0, 1, 2, 3, 4, 5, 6]
 rintro s ob ⟨az, h, rfl, rfl⟩
 unfold L.zzjm.J15 at h
 refine AW.ch h I ?_ ?_
 intro cx h
 refine AW.z I ?_
 obtain rfl := cr _ (oi h).symm
 replace h := ba
 replace h := se_r h
 refine AW.ghost (Ghost.nilU 54 7) (AW.gp [7] I ?_)
 obtain rfl := oi h
 exact AW.ret ⟨.inr I, [_, _], [.us (.slice none 0 0) 54 7 ([].map Step.row)], ⟨I, I, J⟩, sl_c I (sl_n), ⟨(.slice none 0 0), I, I⟩⟩
 intro cx h
 refine AW.skip (AW.region (AO.r 2 [.k 0 (ah + 1 : Nat)] I ⟨cast_wr bd cn, J⟩ ?_))
 obtain rfl := oi h
 refine AO.nil ?_
 exact ⟨_, _, _, I, ⟨I, I⟩, ⟨I, I, I, I, I, I, I, I, I, I, J⟩, [0, 1, 2, 3, 4, 5, 6], I, by decide⟩
 rintro bb s ob ⟨rfl, rfl⟩ he
 subst he
 have h := se_l ba
 have cy := lt_f a.Pumps.length
 refine AW.z I (AW.seqG (fun ff fg => (AW.condK (v := false) I cy (AW.exit ?_))))
 exact lg ⟨(), h, I, I⟩ [0, 1, 2, 3, 4, 5, 6]
 rintro s ob ⟨a9, h, rfl, rfl⟩
 unfold L.zzjm.J1 at h
 refine AW.seqG (fun fh cz => ?_)
 obtain ⟨u, c0, h⟩ := ob_some h
 refine AW.region (AO.r 2 [.o 0 0, .o 1 2] I ⟨I, I, J⟩ (AO.act [] I (AX.call0 I I I (L.zoqk_ok _ _ _ c0) dS ?_)))
 rintro _ _ ⟨rfl, rfl⟩
 refine AO.q 3 I (AO.act [] I (AX.alloc (cs := [.N, .N]) (m := 2) I I I I I dS (fun E => (AO.act [7] I (AX.st 7 0 0 [Lineup.row u.1] I (AO.q 1 I (AO.nil ?_)))))))
 subst cz
 refine AW.seqG (fun fi c1 => (AW.z I (AW.ch h I ?_ ?_)))
 intro c2 h
 refine AW.z I (AW.ghost (Ghost.nilU 54 7) (AW.gp [8] I ?_))
 obtain rfl := oi h
 exact AW.ret ⟨.inr I, [_, _], [.us (.slice none 0 0) 54 7 ([].map Step.row)], ⟨I, I, J⟩, sl_c I (sl_n), ⟨(.slice none 0 0), I, I⟩⟩
 intro c2 h
 refine AW.skip ?_
 subst c1
 refine AW.seqG (fun fj c3 => (AW.region (AO.act [] I (AX.alloc (cs := [.N]) (m := 1) I I I I I dS (fun b => (AO.nil ?_))))))
 subst c3
 refine AW.seqG (fun fk c4 => (AW.region (AO.p (Yp.makeFunc I I) I (AO.act [] I (AX.alloc (cs := [.v (.nilFunc)]) (m := 1) I I I I I dS (fun c5 => (AO.act [9] I (AX.st 9 0 0 [[.fn 51 [] [.v (.pointer (some ⟨b, 0, none⟩))]]] I (AO.nil ?_)))))))))
 subst c4
 refine AW.seqG (fun fl c6 => (AW.region (AO.ghost (Ghost.freeze [3, 4, 9] (K := [.arr b5 3 1 1 [[.V w]], .arr b6 3 1 1 [[.V A]], .arr c5 104 1 1 [[.fn 51 [] [.v (.pointer (some ⟨b, 0, none⟩))]]]]) I [(8, .eptr (rI w)), (9, .eptr (rI A)), (20, .eptr [.fn 51 [] [.v (.pointer (some ⟨b, 0, none⟩))]])] ⟨⟨_, I, .box 0 I (.rest _)⟩, ⟨_, I, .box 1 I (.rest _)⟩, ⟨_, I, .box 2 I (.rest _)⟩, J⟩ (ob' := [.arr H 32 6 1 [Network.row n], .arr t 39 4 1 [Desk.row e], .arr f 37 3 1 [Plan.row a], .us U 52 4 (B.1.map Path.row), .us W 52 4 (D.1.map Path.row), .arr E 97 2 1 [Lineup.row u.1], .arr b 43 1 1 [[.N]]]) (.rest _)) (AO.p (Yp.makeFunc I I) I (AO.q 1 I (AO.nil ?_))))))
 subst c6
 refine AW.seqG (fun fm c7 => ?_)
 obtain ⟨Y, c8, h⟩ := ob_some h
 refine AW.region (AO.r 3 [.o 0 0] I ⟨I, J⟩ (AO.ghost (Ghost.freeze [3, 4] (K := [.us U 52 4 (B.1.map Path.row), .us W 52 4 (D.1.map Path.row)]) I [(13, .list 4 (B.1.map Path.row)), (15, .list 4 (D.1.map Path.row)), (92, .list 4 (B.1.map Path.row)), (93, .list 4 (D.1.map Path.row))] ⟨⟨_, I, .us 0 I⟩, ⟨_, I, .us 1 I⟩, ⟨_, I, .us 0 I⟩, ⟨_, I, .us 1 I⟩, J⟩ (ob' := [.arr H 32 6 1 [Network.row n], .arr t 39 4 1 [Desk.row e], .arr f 37 3 1 [Plan.row a], .arr E 97 2 1 [Lineup.row u.1], .arr b 43 1 1 [[.N]]]) (.rest _)) (AO.act [] I (AX.call0 I I I (L.zygk_ok _ _ _ _ c8) dS ?_))))
 rintro _ _ ⟨rfl, rfl⟩
 refine AO.act [] I (AX.alloc (cs := [.N, .N, .N]) (m := 3) I I I I I dS (fun ai => (AO.act [5] I (AX.st 5 0 0 [Plan.row Y] I (AO.nil ?_)))))
 subst c7
 refine AW.seqG (fun fo c9 => ?_)
 obtain ⟨da, db, h⟩ := ob_some h
 refine AW.region (AO.r 3 [.o 2 1] I ⟨I, J⟩ (AO.act [] I (AX.call0 I I I (L.zlhc_ok _ _ db) dS ?_)))
 rintro _ _ ⟨i, rfl, rfl⟩
 refine AO.q 1 I (AO.nil ?_)
 subst c9
 refine AW.cutX (fun s ob => ∃ (g : (List Step) × (List Bool)) (aj : Value), L.zzjm.J2 e a w A B D u g = some r ∧ s = [] ∧ ob = [.arr t 39 4 1 [Desk.row e], .arr f 37 3 1 [Plan.row a], .arr E 97 2 1 [Lineup.row u.1], .arr b 43 1 1 [[.v aj]], .us i 4 1 (g.2.map rB), .us aj 54 7 (g.1.map Step.row)]) [(6, _), (7, _), (13, _), (15, _), (18, _), (19, _), (20, _), (21, _), (23, _)] ⟨I, I, I, I, I, I, I, I, I, J⟩ ?_ ?_
 refine AW.seqG (fun fp dc => (AW.region (AO.q 1 I (AO.d (Yd.lenUM 6 I I I I) I (AO.q 1 I (AO.nil ?_))))))
 subst dc
 refine AW.block (AW.um 6 I (fun dd => (AW.ghost (Ghost.nilU 54 7) ?_)))
 obtain ⟨fq, de, df⟩ := ob_some h
 clear h
 refine AW.forJY de [(5, _), (6, _), (7, _), (13, _), (15, _), (18, _), (19, _), (20, _), (21, _), (22, _), (23, _), (99, _), (100, _)] ⟨I, I, I, I, I, I, I, I, I, I, I, I, I, J⟩ (fun (Q : Nat) (j : (List Step) × (List Bool)) s ob => ∃ (F : Value), s = [(101, .V (Q : Int))] ∧ ob = [.arr H 32 6 1 [Network.row n], .arr t 39 4 1 [Desk.row e], .arr f 37 3 1 [Plan.row a], .arr E 97 2 1 [Lineup.row u.1], .arr b 43 1 1 [[.v F]], .arr ai 37 3 1 [Plan.row Y], .us i 4 1 (j.2.map rB), .us F 54 7 (j.1.map Step.row)]) ⟨(.slice none 0 0), I, I⟩ ⟨I, J⟩ ⟨[0, 1, 2, 3, 4, 5, 6, 7], I, by decide⟩ ?_ ?_
 rintro Q j be s ob bf ⟨F, rfl, rfl⟩ h
 unfold L.zzjm.B11 at h
 have dg := lt_t bf
 refine AW.z I (AW.seqG (fun fr dh => (AW.condK (v := true) I dg (AW.skip ?_))))
 subst dh
 refine AW.cutX (fun s ob => ∃ (ak : (List Step) × (List Bool)) (al : Value), L.zzjm.J12 ak = some be ∧ s = [] ∧ ob = [.arr H 32 6 1 [Network.row n], .arr t 39 4 1 [Desk.row e], .arr f 37 3 1 [Plan.row a], .arr E 97 2 1 [Lineup.row u.1], .arr b 43 1 1 [[.v al]], .arr ai 37 3 1 [Plan.row Y], .us i 4 1 (ak.2.map rB), .us al 54 7 (ak.1.map Step.row)]) [(5, _), (6, _), (7, _), (13, _), (15, _), (18, _), (19, _), (20, _), (21, _), (22, _), (23, _), (99, _), (100, _), (101, _)] ⟨I, I, I, I, I, I, I, I, I, I, I, I, I, I, J⟩ ?_ ?_
 refine AW.block (AW.seqG (fun fs di => ?_))
 obtain ⟨M, ⟨bg, am⟩, h⟩ := ob_ix h
 refine AW.region (AO.q 1 I (AO.d (Yd.indexU 6 (m := M.1) I I I I I I I bg (map_get am)) I (AO.d (Yd.loadU 6 M.1 0 I I I (map_get am) I (y := .v (.bool M.2)) I) I (AO.q 2 I (AO.nil ?_)))))
 subst di
 refine AW.cutX (fun s ob => ∃ (a0 : Bool), L.zzjm.J13 Q j M a0 = some be ∧ s = [(121, .v (.bool a0))] ∧ ob = [.arr H 32 6 1 [Network.row n], .arr t 39 4 1 [Desk.row e], .arr f 37 3 1 [Plan.row a], .arr E 97 2 1 [Lineup.row u.1], .arr b 43 1 1 [[.v F]], .arr ai 37 3 1 [Plan.row Y], .us i 4 1 (j.2.map rB), .us F 54 7 (j.1.map Step.row)]) [(5, _), (6, _), (7, _), (13, _), (15, _), (18, _), (19, _), (20, _), (21, _), (22, _), (23, _), (24, _), (99, _), (100, _), (101, _)] ⟨I, I, I, I, I, I, I, I, I, I, I, I, I, I, I, J⟩ ?_ ?_
 refine AW.region (AO.q 2 I ?_)
 rcases bt (M.2) with Z | Z
 replace h := ife_t Z h
 obtain ⟨aa, ⟨bh, bi⟩, h⟩ := ob_ix h
 refine AO.known 107 I Z ?_
 rcases bt ((!aa.2)) with ab | ab
 replace h := ife_t ab h
 refine AO.r 7 [.o 1 2, .x 3 aa.1 (rB aa.2)] I ⟨⟨bh, map_get bi⟩, I, J⟩ (AO.known 114 I ab (AO.q 7 I (AO.nil ?_)))
 exact lg ⟨true, h, I, I⟩ [0, 1, 2, 3, 4, 5, 6, 7]
 replace h := ife_f ab h
 obtain ⟨dj, dk, h⟩ := ob_some h
 refine AO.r 7 [.o 1 2, .x 3 aa.1 (rB aa.2)] I ⟨⟨bh, map_get bi⟩, I, J⟩ (AO.known 114 I ab (AO.r 3 [.o 0 0, .o 1 5] I ⟨I, I, J⟩ (AO.gt I I I (AO.c (L.zvla_ok _ _ _ _ dk) (AO.q 3 I (AO.nil ?_))))))
 exact lg ⟨(!dj), h, I, I⟩ [0, 1, 2, 3, 4, 5, 6, 7]
 replace h := ife_f Z h
 refine AO.known 107 I Z (AO.q 7 I (AO.skipU I I dS (AO.skipU I I dS (AO.skipU I I dS (AO.skipU I I dS (AO.skipU I I dS (AO.q 2 I (AO.nil ?_))))))))
 exact lg ⟨false, h, I, I⟩ [0, 1, 2, 3, 4, 5, 6, 7]
 rintro s ob ⟨a0, h, rfl, rfl⟩
 unfold L.zzjm.J13 at h
 refine AW.ch h I ?_ ?_
 intro dl h
 refine AW.seq (AW.region (AO.q 2 I (AO.d (Yd.indexU 6 (m := M.1) I I I I I I I bg (map_get am)) I (AO.act [6] I (AX.storeU 6 M.1 0 I I I (map_get am) I I I I (le_ble I) I (us_set (x := false) I) (AO.nil ?_))))))
 obtain ⟨dm, dn, h⟩ := ob_some h
 refine AW.region (AO.r 2 [.o 0 4] I ⟨I, J⟩ (AO.p (Yp.buildP (l := [.V 4, .V (Q : Int), .V 0, .V 0, .V 0, .N, .V 0]) Tryz.bld54 I) I (AO.ghost (Ghost.freeze [] (K := []) I [(127, .agg [.V 4, .V (Q : Int), .V 0, .V 0, .V 0, .list 2 ([].map Hop.row), .V 0])] ⟨⟨_, I, .agg (.cons (.refl _) (.cons (.refl _) (.cons (.refl _) (.cons (.refl _) (.cons (.refl _) (.cons (.nil _) (.rest _)))))))⟩, J⟩ (ob' := [.arr H 32 6 1 [Network.row n], .arr t 39 4 1 [Desk.row e], .arr f 37 3 1 [Plan.row a], .arr E 97 2 1 [Lineup.row u.1], .arr b 43 1 1 [[.v F]], .arr ai 37 3 1 [Plan.row Y], .us i 4 1 ((j.2.set M.1 false).map rB), .us F 54 7 (j.1.map Step.row)]) (.rest _)) (AO.act [] I (AX.lt 7 (([(⟨4, (Q : Int), 0, (⟨0, 0, [], 0⟩ : Path)⟩ : Step)] : List Step).map Step.row) (AO.act [7] I (AX.ap 7 I dn (fun bj => (AO.one 7 I (fun dp => (AO.act [4] I (AX.store 4 0 0 (es' := [[.v bj]]) I I I I I I (cells_v dp) I (le_ble I) I I (AO.nil ?_)))))))))))))
 exact lg ⟨(dm, (j.2.set M.1 false)), bj, h, I, I⟩ [0, 1, 2, 3, 4, 5, 6, 7]
 intro dl h
 refine AW.skip ?_
 exact lg ⟨(j.1, j.2), F, h, I, I⟩ [0, 1, 2, 3, 4, 5, 6, 7]
 rintro s ob ⟨ak, al, h, rfl, rfl⟩
 unfold L.zzjm.J12 at h
 refine AW.region (AO.r 2 [.k 0 (Q + 1 : Nat)] I ⟨cast_wr bf dd, J⟩ ?_)
 obtain rfl := oi h
 refine AO.nil ?_
 exact lg ⟨al, I, I⟩ [0, 1, 2, 3, 4, 5, 6, 7]
 rintro j s ob ⟨F, rfl, rfl⟩ he
 subst he
 have h := df
 have dq := lt_f da.length
 refine AW.z I (AW.seqG (fun ft fu => (AW.condK (v := false) I dq (AW.exit ?_))))
 exact lg ⟨(j.1, j.2), F, h, I, I⟩ [1, 2, 3, 4, 6, 7]
 rintro s ob ⟨g, aj, h, rfl, rfl⟩
 unfold L.zzjm.J2 at h
 refine AW.cutX (fun s ob => ∃ (an : List Step) (ac : Value), L.zzjm.J3 e a w A B D u g an = some r ∧ s = [] ∧ ob = [.arr t 39 4 1 [Desk.row e], .arr f 37 3 1 [Plan.row a], .arr E 97 2 1 [Lineup.row u.1], .arr b 43 1 1 [[.v ac]], .us i 4 1 (g.2.map rB), .us ac 54 7 (an.map Step.row)]) [(6, _), (7, _), (13, _), (15, _), (18, _), (19, _), (20, _), (21, _), (23, _)] ⟨I, I, I, I, I, I, I, I, I, J⟩ ?_ ?_
 refine AW.seqG (fun fv dr => ?_)
 obtain ⟨bk, ds, h⟩ := ob_some h
 refine AW.region (AO.q 2 I (AO.act [] I (AX.call0 I I I (L.zdgq_ok _ _ _ ds) dS ?_)))
 rintro _ _ ⟨dt, rfl, rfl⟩
 refine AO.d (Yd.lenUM 6 I I I I) I (AO.q 1 I (AO.nil ?_))
 subst dr
 refine AW.block (AW.um 6 I (fun du => ?_))
 obtain ⟨fw, dv, dw⟩ := ob_some h
 clear h
 refine AW.forJY dv [(6, _), (7, _), (13, _), (15, _), (18, _), (19, _), (20, _), (21, _), (23, _), (133, _), (134, _)] ⟨I, I, I, I, I, I, I, I, I, I, I, J⟩ (fun (a1 : Nat) (ao : List Step) s ob => ∃ (R : Value), s = [(135, .V (a1 : Int))] ∧ ob = [.arr t 39 4 1 [Desk.row e], .arr f 37 3 1 [Plan.row a], .arr E 97 2 1 [Lineup.row u.1], .arr b 43 1 1 [[.v R]], .us i 4 1 (g.2.map rB), .us R 54 7 (ao.map Step.row), .us dt 3 1 (bk.map rI)]) ⟨aj, I, I⟩ ⟨I, J⟩ ⟨[0, 1, 2, 3, 4, 5, 6], I, by decide⟩ ?_ ?_
 rintro a1 ao fx s ob bl ⟨R, rfl, rfl⟩ h
 unfold L.zzjm.B10 at h
 have dx := lt_t bl
 refine AW.z I (AW.seqG (fun fy dy => (AW.condK (v := true) I dx (AW.skip ?_))))
 subst dy
 refine AW.seq (AW.block (AW.seqG (fun fz dz => ?_)))
 obtain ⟨a2, ⟨d0, bm⟩, h⟩ := ob_ix h
 refine AW.region (AO.q 1 I (AO.d (Yd.indexU 6 (m := a2.1) I I I I I I I d0 (map_get bm)) I (AO.d (Yd.loadU 6 a2.1 0 I I I (map_get bm) I (y := .V a2.2) I) I (AO.q 2 I (AO.nil ?_)))))
 subst dz
 obtain ⟨aq, ⟨bn, bo⟩, h⟩ := ob_ix h
 obtain ⟨f0, d1, h⟩ := ob_some h
 refine AW.rd (pd 13 0 [12]) [] [] I (AP.r 12 [.x 3 aq.1 (Path.row aq.2), .x 7 aq.1 (Path.row aq.2)] I ⟨⟨bn, map_get bo⟩, ⟨bn, map_get bo⟩, J⟩ (AP.act [3, 5] I I I (AX.cg [3, 5] (L.zihi_ok _ _ _ _ b _ R _ _ d1) ?_)))
 rintro _ _ _ - ⟨d2, rfl, rfl, rfl⟩
 refine AP.ofAO (AO.nil (AW.region (AO.r 2 [.k 0 (a1 + 1 : Nat)] I ⟨cast_wr bl du, J⟩ ?_)))
 obtain rfl := oi h
 refine AO.nil ?_
 exact lg ⟨d2, I, I⟩ [0, 1, 2, 3, 4, 5, 6]
 rintro ao s ob ⟨R, rfl, rfl⟩ he
 subst he
 have h := dw
 have d3 := lt_f bk.length
 refine AW.z I (AW.seqG (fun f1 f2 => (AW.condK (v := false) I d3 (AW.exit ?_))))
 exact lg ⟨ao, R, h, I, I⟩ [0, 1, 2, 3, 4, 5]
 rintro s ob ⟨an, ac, h, rfl, rfl⟩
 unfold L.zzjm.J3 at h
 refine AW.seqG (fun f3 d4 => ?_)
 obtain ⟨f4, d5, h⟩ := ob_some h
 obtain ⟨bp, d6, h⟩ := ob_some h
 obtain ⟨f5, d7, h⟩ := ob_some h
 refine AW.rd (.still 0 (.still 1 (.still 3 (.act 2 (.act 4 (.act 5 (.still 6 (.still 7 (.still 8 (.still 9 (.still 10 (.still 11 (.still 12 .nil))))))))))))) [0, 3, 2] [_, _, _] I (AP.r 3 [.o 0 0, .o 1 1, .o 2 2] I ⟨I, I, I, J⟩ (AP.act [] I I I (AX.callL I (.refl _) I I (.cons (.us 5 I) (.rest _)) I (L.zipx_ok _ _ d5) dS (by rintro _ _ ⟨rfl, _⟩; rfl) ?_)))
 rintro _ ⟨_, rfl, -⟩
 refine AP.act [] I I I (AX.call0 I I I (L.zvjf_ok _ _ d6) dS ?_)
 rintro _ _ ⟨d8, rfl, rfl⟩
 refine AP.ghostS (Ghost.freeze [6] (K := [.us d8 4 1 (bp.map rB)]) I [(159, .list 1 (bp.map rB))] ⟨⟨_, I, .us 0 I⟩, J⟩ (ob' := [.arr t 39 4 1 [Desk.row e], .arr f 37 3 1 [Plan.row a], .arr E 97 2 1 [Lineup.row u.1], .arr b 43 1 1 [[.v ac]], .us i 4 1 (g.2.map rB), .us ac 54 7 (an.map Step.row)]) (.rest _)) I (AP.act [] I I I (AX.call0 I I I (L.zppq_ok _ _ _ _ d7) dS ?_))
 rintro _ _ ⟨f6, rfl, rfl⟩
 refine AP.q 7 I (AP.ofAO (AO.nil ?_))
 subst d4
 refine AW.seqG (fun f7 d9 => (AW.z I (AW.ch h I ?_ ?_)))
 intro ea h
 refine AW.z I (AW.ghost (Ghost.nilU 54 7) (AW.gp [7] I ?_))
 obtain rfl := oi h
 exact AW.ret ⟨.inr I, [_, _], [.us (.slice none 0 0) 54 7 ([].map Step.row)], ⟨I, I, J⟩, sl_c I (sl_n), ⟨(.slice none 0 0), I, I⟩⟩
 intro ea h
 refine AW.skip ?_
 subst d9
 refine AW.seqG (fun f8 eb => ?_)
 obtain ⟨f9, bq, h⟩ := ob_some h
 refine AW.region (AO.r 2 [.o 0 3] I ⟨I, J⟩ (AO.act [5] I (AX.appendU 5 I I I I I I I I I (AppSrc.own 6 I I) (app_len (app_some bq).1) (app_map (app_some bq).2) dS (fun br => (AO.one 5 I (fun ec => (AO.act [3] I (AX.store 3 0 0 (es' := [[.v br]]) I I I I I I (cells_v ec) I (le_ble I) I I (AO.nil ?_)))))))))
 subst eb
 refine AW.seqG (fun ga ed => ?_)
 obtain ⟨gb, ee, h⟩ := ob_some h
 refine AW.region (AO.d (Yd.loadE I I (y := .fn 51 [] [.v (.pointer (some ⟨b, 0, none⟩))]) I) I (AO.q 1 I (AO.act [3, 5] I (AX.cg [3, 5] (L.zlwi_ok _ b _ br _ ee) ?_))))
 rintro _ _ _ - ⟨ef, rfl, rfl, rfl⟩
 refine AO.nil ?_
 subst ed
 refine AW.cutX (fun s ob => ∃ (a3 : List Step) (ar : Value), L.zzjm.J4 a g a3 = some r ∧ s = [] ∧ ob = [.arr f 37 3 1 [Plan.row a], .arr b 43 1 1 [[.v ar]], .us i 4 1 (g.2.map rB), .us ar 54 7 (a3.map Step.row)]) [(7, _), (19, _), (23, _)] ⟨I, I, I, J⟩ ?_ ?_
 refine AW.seqG (fun gc eg => ?_)
 obtain ⟨bs, eh, h⟩ := ob_some h
 refine AW.region (AO.q 2 I (AO.act [] I (AX.call0 I I I (L.zdgq_ok _ _ _ eh) dS ?_)))
 rintro _ _ ⟨ei, rfl, rfl⟩
 refine AO.d (Yd.lenUM 7 I I I I) I (AO.q 1 I (AO.nil ?_))
 subst eg
 refine AW.block (AW.um 7 I (fun ej => ?_))
 obtain ⟨gd, ek, el⟩ := ob_some h
 clear h
 refine AW.forJY ek [(7, _), (15, _), (19, _), (21, _), (23, _), (174, _), (175, _)] ⟨I, I, I, I, I, I, I, J⟩ (fun (a4 : Nat) (au : List Step) s ob => ∃ (S : Value), s = [(176, .V (a4 : Int))] ∧ ob = [.arr f 37 3 1 [Plan.row a], .arr b 43 1 1 [[.v S]], .us i 4 1 (g.2.map rB), .us S 54 7 (au.map Step.row), .us ei 3 1 (bs.map rI)]) ⟨ef, I, I⟩ ⟨I, J⟩ ⟨[1, 3, 4, 5, 7], I, by decide⟩ ?_ ?_
 rintro a4 au ge s ob bu ⟨S, rfl, rfl⟩ h
 unfold L.zzjm.B9 at h
 have em := lt_t bu
 refine AW.z I (AW.seqG (fun gf en => (AW.condK (v := true) I em (AW.skip ?_))))
 subst en
 refine AW.seq (AW.block (AW.seqG (fun gg eo => ?_)))
 obtain ⟨a5, ⟨ep, bv⟩, h⟩ := ob_ix h
 refine AW.region (AO.q 1 I (AO.d (Yd.indexU 4 (m := a5.1) I I I I I I I ep (map_get bv)) I (AO.d (Yd.loadU 4 a5.1 0 I I I (map_get bv) I (y := .V a5.2) I) I (AO.q 2 I (AO.nil ?_)))))
 subst eo
 obtain ⟨av, ⟨bw, bx⟩, h⟩ := ob_ix h
 obtain ⟨gh, eq, h⟩ := ob_some h
 refine AW.rd (pd 13 0 [12]) [] [] I (AP.r 12 [.x 3 av.1 (Path.row av.2), .x 7 av.1 (Path.row av.2)] I ⟨⟨bw, map_get bx⟩, ⟨bw, map_get bx⟩, J⟩ (AP.act [1, 3] I I I (AX.cg [1, 3] (L.zihi_ok _ _ _ _ b _ S _ _ eq) ?_)))
 rintro _ _ _ - ⟨er, rfl, rfl, rfl⟩
 refine AP.ofAO (AO.nil (AW.region (AO.r 2 [.k 0 (a4 + 1 : Nat)] I ⟨cast_wr bu ej, J⟩ ?_)))
 obtain rfl := oi h
 refine AO.nil ?_
 exact lg ⟨er, I, I⟩ [0, 1, 2, 3, 4]
 rintro au s ob ⟨S, rfl, rfl⟩ he
 subst he
 have h := el
 have es := lt_f bs.length
 refine AW.z I (AW.seqG (fun gi gj => (AW.condK (v := false) I es (AW.exit ?_))))
 exact lg ⟨au, S, h, I, I⟩ [0, 1, 2, 3]
 rintro s ob ⟨a3, ar, h, rfl, rfl⟩
 unfold L.zzjm.J4 at h
 refine AW.cutX (fun s ob => ∃ (aw : List Step) (ad : Value), L.zzjm.J5 aw = some r ∧ s = [] ∧ ob = [.arr b 43 1 1 [[.v ad]], .us ad 54 7 (aw.map Step.row)]) [(19, _)] ⟨I, J⟩ ?_ ?_
 refine AW.zr [.o 1 0, .l 2 (a.Pumps.length : Int)] I ⟨len_m, I, J⟩ (AW.block (AW.lm 196 I (fun et => ?_)))
 obtain ⟨gk, eu, ev⟩ := ob_some h
 clear h
 refine AW.forY eu [(19, _), (23, _), (196, _), (197, _)] ⟨I, I, I, I, J⟩ (fun (O : Nat) (P : List Step) s ob => ∃ (G : Value), s = [(198, .V (O : Int))] ∧ ob = [.arr b 43 1 1 [[.v G]], .us i 4 1 (g.2.map rB), .us G 54 7 (P.map Step.row)]) ⟨ar, I, I⟩ ⟨I, J⟩ ⟨[1, 2, 3], I, by decide⟩ ?_ ?_
 rintro O bz P b0 s ob ew b1 ⟨G, rfl, rfl⟩ h
 unfold L.zzjm.B6 at h
 have ex := lt_t b1
 refine AW.z I (AW.seqG (fun gl ey => (AW.condK (v := true) I ex (AW.skip ?_))))
 subst ey
 refine AW.cutX (fun s ob => ∃ (a6 : List Step) (ax : Value), L.zzjm.J7 a6 = some b0 ∧ s = [] ∧ ob = [.arr b 43 1 1 [[.v ax]], .us i 4 1 (g.2.map rB), .us ax 54 7 (a6.map Step.row)]) [(19, _), (23, _), (196, _), (197, _), (198, _)] ⟨I, I, I, I, I, J⟩ ?_ ?_
 refine AW.block (AW.zr [.x 1 O (rB bz)] I ⟨⟨I, map_get ew⟩, J⟩ (AW.cutX (fun s ob => ∃ (a7 : Bool), L.zzjm.J8 O P a7 = some b0 ∧ s = [(210, .v (.bool a7))] ∧ ob = [.arr b 43 1 1 [[.v G]], .us i 4 1 (g.2.map rB), .us G 54 7 (P.map Step.row)]) [(19, _), (23, _), (33, _), (196, _), (197, _), (198, _)] ⟨I, I, I, I, I, I, J⟩ ?_ ?_))
 refine AW.region (AO.q 2 I ?_)
 rcases bt (bz) with ae | ae
 replace h := ife_t ae h
 obtain ⟨ay, ⟨ez, b7⟩, h⟩ := ob_ix h
 refine AO.known 204 I ae (AO.q 2 I (AO.gt I I I (AO.d (Yd.indexU 1 (m := ay.1) I I I I I I I ez (map_get b7)) I (AO.gt I I I (AO.d (Yd.loadU 1 ay.1 0 I I I (map_get b7) I (y := .v (.bool ay.2)) I) I (AO.q 2 I (AO.nil ?_)))))))
 exact lg ⟨(!ay.2), h, I, I⟩ [0, 1, 2]
 replace h := ife_f ae h
 refine AO.known 204 I ae (AO.q 6 I (AO.nil ?_))
 exact lg ⟨false, h, I, I⟩ [0, 1, 2]
 rintro s ob ⟨a7, h, rfl, rfl⟩
 unfold L.zzjm.J8 at h
 refine AW.ch h I ?_ ?_
 intro e0 h
 obtain ⟨e1, e2, h⟩ := ob_some h
 refine AW.region (AO.r 2 [.o 0 0] I ⟨I, J⟩ (AO.p (Yp.buildP (l := [.V 3, .V (O : Int), .V 0, .V 0, .V 0, .N, .V 0]) Tryz.bld54 I) I (AO.ghost (Ghost.freeze [] (K := []) I [(213, .agg [.V 3, .V (O : Int), .V 0, .V 0, .V 0, .list 2 ([].map Hop.row), .V 0])] ⟨⟨_, I, .agg (.cons (.refl _) (.cons (.refl _) (.cons (.refl _) (.cons (.refl _) (.cons (.refl _) (.cons (.nil _) (.rest _)))))))⟩, J⟩ (ob' := [.arr b 43 1 1 [[.v G]], .us i 4 1 (g.2.map rB), .us G 54 7 (P.map Step.row)]) (.rest _)) (AO.act [] I (AX.lt 7 (([(⟨3, (O : Int), 0, (⟨0, 0, [], 0⟩ : Path)⟩ : Step)] : List Step).map Step.row) (AO.act [2] I (AX.ap 2 I e2 (fun b8 => (AO.one 2 I (fun e3 => (AO.act [0] I (AX.store 0 0 0 (es' := [[.v b8]]) I I I I I I (cells_v e3) I (le_ble I) I I (AO.nil ?_)))))))))))))
 exact lg ⟨e1, b8, h, I, I⟩ [0, 1, 2]
 intro e0 h
 refine AW.skip ?_
 exact lg ⟨P, G, h, I, I⟩ [0, 1, 2]
 rintro s ob ⟨a6, ax, h, rfl, rfl⟩
 unfold L.zzjm.J7 at h
 refine AW.region (AO.r 2 [.k 0 (O + 1 : Nat)] I ⟨cast_wr b1 et, J⟩ ?_)
 obtain rfl := oi h
 refine AO.nil ?_
 exact lg ⟨ax, I, I⟩ [0, 1, 2]
 rintro P s ob ⟨G, rfl, rfl⟩ he
 subst he
 have h := ev
 have e4 := lt_f a.Pumps.length
 refine AW.z I (AW.seqG (fun gm gn => (AW.condK (v := false) I e4 (AW.exit ?_))))
 exact lg ⟨P, G, h, I, I⟩ [0, 2]
 rintro s ob ⟨aw, ad, h, rfl, rfl⟩
 unfold L.zzjm.J5 at h
 refine AW.seq (AW.seq (AW.region (AO.r 1 [.o 0 0] I ⟨I, J⟩ (AO.d (Yd.lenUM 1 I I I I) I (AO.q 1 I (AO.nil (AW.ch h I ?_ ?_)))))))
 intro e5 h
 refine AW.z I (AW.ghost (Ghost.nilU 54 7) (AW.gp [2] I ?_))
 obtain rfl := oi h
 exact AW.ret ⟨.inr I, [_, _], [.us (.slice none 0 0) 54 7 ([].map Step.row)], ⟨I, I, J⟩, sl_c I (sl_n), ⟨(.slice none 0 0), I, I⟩⟩
 intro e5 h
 refine AW.skip (AW.zr [.o 0 0] I ⟨I, J⟩ (AW.gp [1] I ?_))
 obtain rfl := oi h
 exact AW.ret ⟨.inr I, [_, _], [.us ad 54 7 (aw.map Step.row)], ⟨I, I, J⟩, sl_c I (sl_n), ⟨ad, I, I⟩⟩
theorem L.zrbl_ok (b : List Step) (r : Int) (h : L.zrbl b = some r) : ACalls Tryz.env 17 [.list 7 (b.map Step.row)] [] (fun x new => x = .V r ∧ new = []) := by
 refine ACalls.of_body Tryz.func17 rfl rfl rfl (fun C hC => ?_)
 unfold L.zrbl at h
 refine AW.z I (AW.z I (AW.cutX (fun s ob => ∃ (e : Int), L.zrbl.J1 e = some r ∧ s = [(3, .V e)] ∧ ob = []) [] J ?_ ?_))
 refine AW.zr [.l 1 (b.length : Int)] I ⟨len_m, J⟩ (AW.block (AW.lm 6 I (fun i => ?_)))
 obtain ⟨E, j, n⟩ := ob_some h
 clear h
 refine AW.forY j [(6, _), (7, _)] ⟨I, I, J⟩ (fun (c : Nat) (a : Int) s ob => s = [(8, .V (c : Int)), (3, .V a)] ∧ ob = []) ⟨I, I⟩ ⟨I, I, J⟩ ⟨[], I, by decide⟩ ?_ ?_
 rintro c d a t s ob u g ⟨rfl, rfl⟩ h
 unfold L.zrbl.B2 at h
 have w := lt_t g
 refine AW.z I (AW.seqG (fun F y => (AW.condK (v := true) I w (AW.skip ?_))))
 subst y
 refine AW.cutX (fun s ob => ∃ (f : Int), L.zrbl.J3 f = some t ∧ s = [(3, .V f)] ∧ ob = []) [(6, _), (7, _), (8, _)] ⟨I, I, I, J⟩ ?_ ?_
 refine AW.block (AW.seqG (fun G A => (AW.region (AO.r 2 [.x 0 c (Step.row d)] I ⟨⟨I, map_get u⟩, J⟩ (AO.act [] I (AX.alloc (cs := [.V 0, .V 0, .V 0, .V 0, .V 0, .N, .V 0]) (m := 7) I I I I I dS (fun H => (AO.act [0] I (AX.st 0 0 0 [Step.row d] I (AO.nil ?_))))))))))
 subst A
 refine AW.zr [.o 1 0] I ⟨I, J⟩ (AW.ch h I ?_ ?_)
 intro B h
 refine AW.region (AO.r 6 [.o 2 0, .o 4 0] I ⟨I, I, J⟩ (AO.p (Yp.maxI3 I I I) I (AO.q 1 I (AO.nil ?_))))
 exact lg ⟨(max (max a d.Value) (wr (0 - d.Value))), h, I, I⟩ []
 intro B h
 refine AW.skip ?_
 exact lg ⟨a, h, I, I⟩ []
 rintro s ob ⟨f, h, rfl, rfl⟩
 unfold L.zrbl.J3 at h
 refine AW.region (AO.r 2 [.k 0 (c + 1 : Nat)] I ⟨cast_wr g i, J⟩ ?_)
 obtain rfl := oi h
 refine AO.nil ?_
 exact lg ⟨I, I⟩ []
 rintro a s ob ⟨rfl, rfl⟩ he
 subst he
 have h := n
 have D := lt_f b.length
 refine AW.z I (AW.seqG (fun K M => (AW.condK (v := false) I D (AW.exit ?_))))
 exact lg ⟨a, h, I, I⟩ []
 rintro s ob ⟨e, h, rfl, rfl⟩
 unfold L.zrbl.J1 at h
 refine AW.z I ?_
 obtain rfl := oi h
 exact AW.ret pr
end Go.Proofs.YtmaamhgjeampmaaGreat
