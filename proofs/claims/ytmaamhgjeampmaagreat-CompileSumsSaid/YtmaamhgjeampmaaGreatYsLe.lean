/- Walks that show what functions of the program compute; printed by a program of ours. No condition. -/
import Derived.Test.YtmaamhgjeampmaaGreatYsLc2
import Derived.Test.YtmaamhgjeampmaaGreatYsLd2
import Derived.Test.YtmaamhgjeampmaaGreatYsL4b
import Derived.Test.YtmaamhgjeampmaaGreatYsD
set_option maxRecDepth 100000
namespace Go.Proofs.YtmaamhgjeampmaaGreat
open Go.Aw
set_option linter.unusedVariables false
set_option linter.unusedSimpArgs false
set_option maxHeartbeats 4000000
theorem L.zqaf_ok (a : List Int) (r : Bool) (h : L.zqaf a = r) : ACalls Tryz.env 9 [.list 1 (a.map rI)] [] (fun x new => x = .v (.bool r) ∧ new = []) := by
 refine ACalls.of_body Tryz.func9 rfl rfl rfl (fun C hC => ?_)
 unfold L.zqaf at h
 refine AW.z I (AW.zr [.l 1 (a.length : Int)] I ⟨len_m, J⟩ ?_)
 obtain rfl := h
 exact AW.ret pr
theorem L.zqyk_ok (k : Desk) (r : Desk) (h : L.zqyk k = some r) : ACalls Tryz.env 13 [.agg (Desk.row k)] [] (fun x new => x = .agg (Desk.row r) ∧ new = []) := by
 refine ACalls.of_body Tryz.func13 rfl rfl rfl (fun C hC => ?_)
 unfold L.zqyk at h
 refine AW.seqG (fun G u => (AW.region (AO.act [] I (AX.box (cs := Desk.row k) (m := 4) I I I dS (fun l => (AO.act [] I (AX.alloc (cs := [.N, .N, .N, .N]) (m := 4) I I I I I dS (fun n => (AO.nil ?_)))))))))
 subst u
 refine AW.seqG (fun H w => ?_)
 obtain ⟨a, y, h⟩ := ob_some h
 refine AW.region (AO.r 1 [.o 0 0] I ⟨I, J⟩ (AO.act [] I (AX.callN I (.refl _) I I (.rest _) I (L.zryh_own _ _ y) dS (by rintro _ _ ⟨_, _, _, _, rfl, rfl⟩; exact ⟨rfl, by intro p hp; simp only [List.mem_cons, List.not_mem_nil, or_false] at hp; rcases hp with rfl | rfl | rfl | rfl <;> exact flat_map fun _ => rfl⟩) ?_)))
 rintro _ _ ⟨b, c, e, f, rfl, rfl⟩
 refine AO.act [0] I (AX.st 0 0 0 [[.v b, .v c, .v e, .v f]] I (AO.nil ?_))
 subst w
 refine AW.cutX (fun s ob => ∃ (g : List Valve), L.zqyk.J1 a g = some r ∧ s = [] ∧ ob = [.arr l 39 4 1 [[.v b, .v c, .v e, .v f]], .arr n 39 4 1 [[.N, .N, .N, .N]], .us b 74 4 (g.map Valve.row), .us c 3 1 (a.Plan.Rates.map rI), .us e 3 1 (a.Plan.Ports.map rI), .us f 4 1 (a.Plan.Pumps.map rB)]) [(1, _), (2, _)] ⟨I, I, J⟩ ?_ ?_
 refine AW.z I (AW.block ?_)
 obtain ⟨M, A, B⟩ := ob_some h
 clear h
 refine AW.loopX A [(1, _), (2, _)] ⟨I, I, J⟩ (fun (j : (List Valve) × Int) s ob => s = [(3, .V j.2)] ∧ ob = [.arr l 39 4 1 [[.v b, .v c, .v e, .v f]], .arr n 39 4 1 [[.N, .N, .N, .N]], .us b 74 4 (j.1.map Valve.row), .us c 3 1 (a.Plan.Rates.map rI), .us e 3 1 (a.Plan.Ports.map rI), .us f 4 1 (a.Plan.Pumps.map rB)]) ⟨I, I⟩ ⟨I, J⟩ ⟨[0, 1, 2, 3, 4, 5], I, by decide⟩ ?_
 rintro j O s ob ⟨rfl, rfl⟩ h D
 unfold L.zqyk.B2 at h
 refine AW.seq (AW.seq (AW.region (AO.r 3 [.o 2 0] I ⟨I, J⟩ (AO.d (Yd.lenUM 2 I I I I) I (AO.q 1 I (AO.nil (AW.ch h I ?_ ?_)))))))
 intro E h
 refine AW.skip (AW.seq (AW.block ?_))
 obtain ⟨i, ⟨F, t⟩, h⟩ := ob_ix h
 refine AW.region (AO.r 3 [.o 1 0] I ⟨I, J⟩ (AO.d (Yd.indexU 2 (m := i.1) I I I I I I I F (map_get t)) I (AO.q 1 I (AO.act [2] I (AX.storeU 2 i.1 3 I I I (map_get t) I I I I (le_ble I) I (us_set (x := (⟨i.2.Travel, i.2.Open, i.2.Want, false⟩ : Valve)) I) (AO.nil (AW.region (AO.q 3 I ?_))))))))
 obtain rfl := oi h
 refine AO.nil ?_
 exact ⟨_, _, _, I, ⟨I, I⟩, ⟨I, I, I, J⟩, [0, 1, 2, 3, 4, 5], I, by decide⟩
 intro E h
 obtain rfl := D _ (oi h).symm
 replace h := B
 refine AW.exit ?_
 exact lg ⟨j.1, h, I, I⟩ [0, 1, 2, 3, 4, 5]
 rintro s ob ⟨g, h, rfl, rfl⟩
 unfold L.zqyk.J1 at h
 refine AW.seq (AW.region (AO.r 1 [.o 0 0] I ⟨I, J⟩ (AO.act [1] I (AX.st 1 0 0 [[.v b, .v c, .v e, .v f]] I (AO.nil (AW.ghost (Ghost.freeze [2, 3, 4, 5] (K := [.us b 74 4 (g.map Valve.row), .us c 3 1 (a.Plan.Rates.map rI), .us e 3 1 (a.Plan.Ports.map rI), .us f 4 1 (a.Plan.Pumps.map rB)]) I [] J (ob' := [.arr l 39 4 1 [[.v b, .v c, .v e, .v f]], .arr n 39 4 1 [[.list 4 (g.map Valve.row), .list 1 (a.Plan.Rates.map rI), .list 1 (a.Plan.Ports.map rI), .list 1 (a.Plan.Pumps.map rB)]]]) (.cons (.same _) (.cons (.arr (.cons (.us 0 I) (.cons (.us 1 I) (.cons (.us 2 I) (.cons (.us 3 I) (.rest _)))))) (.rest _)))) (AW.gp [1] I ?_)))))))
 obtain rfl := oi h
 exact AW.ret ⟨.inr I, [_], [], ⟨⟨0, _, _, _, _, _, _, _, I, I, I, I, I⟩, J⟩, sl_n, I, I⟩
theorem L.zbqx_ok (k : Network) (u : Plan) (r : Plan) (h : L.zbqx k u = some r) : ACalls Tryz.env 43 [.agg (Network.row k), .agg (Plan.row u)] [] (fun x new => x = .agg (Plan.row r) ∧ new = []) := by
 refine ACalls.of_body Tryz.func43 rfl rfl rfl (fun C hC => ?_)
 unfold L.zbqx at h
 refine AW.seqG (fun y1 P => (AW.region (AO.act [] I (AX.box (cs := Network.row k) (m := 6) I I I dS (fun H => (AO.act [] I (AX.box (cs := Plan.row u) (m := 3) I I I dS (fun M => (AO.act [] I (AX.alloc (cs := [.N, .N, .N]) (m := 3) I I I I I dS (fun D => (AO.nil ?_))))))))))))
 subst P
 refine AW.seqG (fun y5 Q => ?_)
 obtain ⟨f, R, h⟩ := ob_some h
 refine AW.region (AO.r 1 [.o 0 1] I ⟨I, J⟩ (AO.act [] I (AX.callN I (.refl _) I I (.rest _) I (L.zbxx_own _ _ R) dS (by rintro _ _ ⟨_, _, _, rfl, rfl⟩; exact ⟨rfl, by intro p hp; simp only [List.mem_cons, List.not_mem_nil, or_false] at hp; rcases hp with rfl | rfl | rfl <;> exact flat_map fun _ => rfl⟩) ?_)))
 rintro _ _ ⟨g, i, j, rfl, rfl⟩
 refine AO.act [] I (AX.alloc (cs := [.N, .N, .N]) (m := 3) I I I I I dS (fun E => (AO.act [6] I (AX.st 6 0 0 [[.v g, .v i, .v j]] I (AO.nil ?_)))))
 subst Q
 refine AW.cutX (fun s ob => ∃ (w : List Bool), L.zbqx.J1 f w = some r ∧ s = [] ∧ ob = [.arr D 37 3 1 [[.N, .N, .N]], .us g 3 1 (f.Rates.map rI), .us i 3 1 (f.Ports.map rI), .us j 4 1 (w.map rB), .arr E 37 3 1 [[.v g, .v i, .v j]]]) [(4, _), (5, _)] ⟨I, I, J⟩ ?_ ?_
 refine AW.z I (AW.block ?_)
 obtain ⟨am, S, U⟩ := ob_some h
 clear h
 refine AW.loopX S [(2, _), (3, _), (4, _), (5, _)] ⟨I, I, I, I, J⟩ (fun (e : (List Bool) × Int) s ob => s = [(6, .V e.2)] ∧ ob = [.arr H 32 6 1 [Network.row k], .arr M 37 3 1 [Plan.row u], .arr D 37 3 1 [[.N, .N, .N]], .us g 3 1 (f.Rates.map rI), .us i 3 1 (f.Ports.map rI), .us j 4 1 (e.1.map rB), .arr E 37 3 1 [[.v g, .v i, .v j]]]) ⟨I, I⟩ ⟨I, J⟩ ⟨[0, 1, 2, 3, 4, 5, 6], I, by decide⟩ ?_
 rintro e W s ob ⟨rfl, rfl⟩ h X
 unfold L.zbqx.B2 at h
 refine AW.seqG (fun an Y => (AW.jb 22 (decide (e.2 < (k.Stations.length : Int)) && decide (e.2 < (e.1.length : Int))) ?_ ?_))
 refine AW.region (AO.r 6 [.o 2 0, .l 3 (k.Stations.length : Int)] I ⟨len_m, I, J⟩ ?_)
 rcases bt (decide (e.2 < (k.Stations.length : Int))) with A | A
 refine AO.known 16 I A (AO.r 3 [.o 2 6] I ⟨I, J⟩ (AO.gt I I I (AO.d (Yd.lenUM 5 I I I I) I (AO.q 2 I (AO.nil ?_)))))
 exact jf (by simp only [A, bz]) I I ⟨I, I⟩
 refine AO.known 16 I A (AO.q 6 I (AO.nil ?_))
 exact jf (by simp only [A, bz]) I I ⟨I, I⟩
 refine AW.ch h I ?_ ?_
 intro Z h
 refine AW.skip ?_
 subst Y
 refine AW.cutX (fun s ob => ∃ (F : List Bool), L.zbqx.J3 e F = some W ∧ s = [] ∧ ob = [.arr H 32 6 1 [Network.row k], .arr M 37 3 1 [Plan.row u], .arr D 37 3 1 [[.N, .N, .N]], .us g 3 1 (f.Rates.map rI), .us i 3 1 (f.Ports.map rI), .us j 4 1 (F.map rB), .arr E 37 3 1 [[.v g, .v i, .v j]]]) [(2, _), (3, _), (4, _), (5, _), (6, _)] ⟨I, I, I, I, I, J⟩ ?_ ?_
 refine AW.block (AW.seqG (fun ao aa => ?_))
 obtain ⟨O, ⟨ab, ac⟩, h⟩ := ob_ix h
 obtain ⟨G, ad, h⟩ := ob_some h
 refine AW.rd (pd 14 0 [8]) [0, 1] [_, _] I (AP.r 8 [.o 0 0, .o 1 1, .o 3 0, .x 5 O.1 (Station.row O.2)] I ⟨⟨ab, map_get ac⟩, I, I, I, J⟩ (AP.c I (L.zcfu_ok _ _ _ _ ad) (AP.q 5 I (AP.ofAO (AO.nil ?_)))))
 subst aa
 obtain ⟨a, ⟨n, b⟩, h⟩ := ob_ix h
 rcases bt (a.2) with t | t
 replace h := ife_t t h
 rcases bt ((G.2 == 0)) with B | B
 replace h := ife_t B h
 refine AW.form 5 a.1 I b (fun ae => (AW.form 5 a.1 I b (fun af => (AW.rd (.still 0 (.still 1 (.still 2 (.still 3 (.still 4 (.still 5 (.still 6 (.still 7 (.still 8 (.still 9 (.still 10 (.still 11 (.still 12 (.still 13 (.still 14 (.still 15 (.still 16 (.drop 17 .nil)))))))))))))))))) [6, 5] [_, _] I (AP.r 6 [.o 1 0, .o 4 0] I ⟨I, I, J⟩ (AP.op I (Yp.indexUf (m := a.1) I I I I I ae I n b) I (AP.o I (Yd.loadU 1 a.1 0 I I I (map_get b) I (y := .v (.bool a.2)) I) I (AP.q 1 I (AP.known 45 I t (AP.q 4 I (AP.known 49 I B (AP.q 3 I (AP.op I (Yp.indexUf (m := a.1) I I I I I af I n b) I (AP.drop [5] I I I (AX.storeU 5 a.1 0 I I I (map_get b) I I I I (le_ble I) I (us_set (x := decide (G.1 > 0)) I) ?_)))))))))))))))
 refine AP.ofAO (AO.nil ?_)
 exact lg ⟨(e.1.set a.1 (decide (G.1 > 0))), h, I, I⟩ [0, 1, 2, 3, 4, 5, 6]
 replace h := ife_f B h
 refine AW.form 5 a.1 I b (fun ag => (AW.form 5 a.1 I b (fun ah => (AW.rd (.still 0 (.still 1 (.still 2 (.still 3 (.still 4 (.still 5 (.still 6 (.still 7 (.still 8 (.still 9 (.still 10 (.still 11 (.still 12 (.still 13 (.still 14 (.still 15 (.still 16 (.drop 17 .nil)))))))))))))))))) [6, 5] [_, _] I (AP.r 6 [.o 1 0, .o 4 0] I ⟨I, I, J⟩ (AP.op I (Yp.indexUf (m := a.1) I I I I I ag I n b) I (AP.o I (Yd.loadU 1 a.1 0 I I I (map_get b) I (y := .v (.bool a.2)) I) I (AP.q 1 I (AP.known 45 I t (AP.q 4 I (AP.known 49 I B (AP.q 3 I (AP.op I (Yp.indexUf (m := a.1) I I I I I ah I n b) I (AP.drop [5] I I I (AX.storeU 5 a.1 0 I I I (map_get b) I I I I (le_ble I) I (us_set (x := false) I) ?_)))))))))))))))
 refine AP.ofAO (AO.nil ?_)
 exact lg ⟨(e.1.set a.1 false), h, I, I⟩ [0, 1, 2, 3, 4, 5, 6]
 replace h := ife_f t h
 refine AW.form 5 a.1 I b (fun ai => (AW.form 5 a.1 I b (fun aj => (AW.rd (.still 0 (.still 1 (.still 2 (.still 3 (.still 4 (.still 5 (.still 6 (.still 7 (.still 8 (.still 9 (.still 10 (.still 11 (.still 12 (.still 13 (.still 14 (.still 15 (.still 16 (.drop 17 .nil)))))))))))))))))) [6, 5] [_, _] I (AP.r 6 [.o 1 0, .o 4 0] I ⟨I, I, J⟩ (AP.op I (Yp.indexUf (m := a.1) I I I I I ai I n b) I (AP.o I (Yd.loadU 1 a.1 0 I I I (map_get b) I (y := .v (.bool a.2)) I) I (AP.q 1 I (AP.known 45 I t (AP.q 7 I (AP.op I (Yp.indexUf (m := a.1) I I I I I aj I n b) I (AP.drop [5] I I I (AX.storeU 5 a.1 0 I I I (map_get b) I I I I (le_ble I) I (us_set (x := false) I) (AP.ofAO (AO.nil ?_)))))))))))))))
 exact lg ⟨(e.1.set a.1 false), h, I, I⟩ [0, 1, 2, 3, 4, 5, 6]
 rintro s ob ⟨F, h, rfl, rfl⟩
 unfold L.zbqx.J3 at h
 refine AW.region (AO.q 3 I ?_)
 obtain rfl := oi h
 refine AO.nil ?_
 exact ⟨_, _, _, I, ⟨I, I⟩, ⟨I, I, I, I, I, J⟩, [0, 1, 2, 3, 4, 5, 6], I, by decide⟩
 intro Z h
 obtain rfl := X _ (oi h).symm
 replace h := U
 refine AW.exit ?_
 exact lg ⟨e.1, h, I, I⟩ [2, 3, 4, 5, 6]
 rintro s ob ⟨w, h, rfl, rfl⟩
 unfold L.zbqx.J1 at h
 refine AW.seq (AW.region (AO.r 1 [.o 0 4] I ⟨I, J⟩ (AO.act [0] I (AX.st 0 0 0 [[.v g, .v i, .v j]] I (AO.nil (AW.ghost (Ghost.freeze [1, 2, 3] (K := [.us g 3 1 (f.Rates.map rI), .us i 3 1 (f.Ports.map rI), .us j 4 1 (w.map rB)]) I [] J (ob' := [.arr D 37 3 1 [[.list 1 (f.Rates.map rI), .list 1 (f.Ports.map rI), .list 1 (w.map rB)]], .arr E 37 3 1 [[.v g, .v i, .v j]]]) (.cons (.arr (.cons (.us 0 I) (.cons (.us 1 I) (.cons (.us 2 I) (.rest _))))) (.rest _))) (AW.gp [0] I ?_)))))))
 obtain rfl := oi h
 exact AW.ret ⟨.inr I, [_], [], ⟨⟨0, _, _, _, _, _, _, _, I, I, I, I, I⟩, J⟩, sl_n, I, I⟩
theorem L.zhma_ok (a : Nat) (c : KS) (b : Network) (r : Plan × KS) (h : L.zhma c b = some r) : ACalls Tryz.env 15 [.v (.pointer (some ⟨a, 0, none⟩)), .agg (Network.row b)] [.arr a 88 2 1 [KS.row c]] (Gives 1 (fun x os new => x = .agg (Plan.row r.1) ∧ os = [.arr a 88 2 1 [KS.row r.2]] ∧ new = [])) := by
 refine ACalls.of_body Tryz.func15 rfl rfl rfl (fun C hC => ?_)
 unfold L.zhma at h
 refine AW.seq (AW.region (AO.act [] I (AX.box (cs := Network.row b) (m := 6) I I I dS (fun i => (AO.act [] I (AX.alloc (cs := [.N, .N, .N]) (m := 3) I I I I I dS (fun j => (AO.nil (AW.seq ?_)))))))))
 obtain ⟨d, e, h⟩ := ob_some h
 obtain ⟨f, g, h⟩ := ob_some h
 refine AW.rd (pd 6 0 [3, 4, 5]) [1] [_] I (AP.r 3 [.o 0 0, .o 2 0] I ⟨I, I, J⟩ (AP.act [0] I I I (AX.c0 [0] (L.zjbu_ok a _ _ _ e) ?_)))
 refine AP.act [] I I I (AX.call0 I I I (L.zbqx_ok _ _ _ g) dS ?_)
 rintro _ _ ⟨rfl, rfl⟩
 refine AP.act [2] I I I (AX.st 2 0 0 [Plan.row f] I (AP.ofAO (AO.nil (AW.gp [0, 2] I ?_))))
 obtain rfl := oi h
 exact AW.ret ⟨.inr I, [_], [.arr a 88 2 1 [KS.row d.2]], ⟨⟨1, _, _, _, _, _, _, _, I, I, I, I, I⟩, J⟩, sl_c I (sl_n), ⟨[.arr a 88 2 1 [KS.row d.2]], [], I, I, I, I, I⟩⟩
theorem L.ztts_ok (a : Nat) (f : KS) (r : Valve × KS) (h : L.ztts f = some r) : ACalls Tryz.env 46 [.v (.pointer (some ⟨a, 0, none⟩))] [.arr a 88 2 1 [KS.row f]] (Gives 1 (fun x os new => x = .agg (Valve.row r.1) ∧ os = [.arr a 88 2 1 [KS.row r.2]] ∧ new = [])) := by
 refine ACalls.of_body Tryz.func46 rfl rfl rfl (fun C hC => ?_)
 unfold L.ztts at h
 refine AW.seqG (fun w g => (AW.region (AO.act [] I (AX.alloc (cs := [.V 0, .V 0, .v (.bool false), .v (.bool false)]) (m := 4) I I I I I dS (fun y => (AO.nil ?_))))))
 subst g
 refine AW.seqG (fun z i => ?_)
 obtain ⟨b, j, h⟩ := ob_some h
 obtain ⟨c, k, h⟩ := ob_some h
 obtain ⟨d, n, h⟩ := ob_some h
 refine AW.region (AO.q 1 I (AO.act [] I (AX.lt 1 (([1, 2, 3, 6, 60] : List Int).map rI) (AO.act [0] I (AX.c0 [0] (L.ztqk_ok a _ _ _ j) ?_)))))
 refine AO.q 1 I (AO.act [0] I (AX.c0 [0] (L.zdjb_ok a _ _ _ k) ?_))
 refine AO.q 2 I (AO.act [0] I (AX.c0 [0] (L.zdjb_ok a _ _ _ n) ?_))
 refine AO.q 1 I (AO.p (Yp.buildP (l := [.V b.1, .V 0, .v (.bool (c.1 == 0)), .v (.bool (d.1 == 7))]) Tryz.bld74 I) I (AO.act [] I (AX.alloc (cs := [.V 0, .V 0, .v (.bool false), .v (.bool false)]) (m := 4) I I I I I dS (fun A => (AO.act [2] I (AX.st 2 0 0 [[.V b.1, .V 0, .v (.bool (c.1 == 0)), .v (.bool (d.1 == 7))]] I (AO.nil ?_)))))))
 subst i
 refine AW.seq ?_
 obtain ⟨s, t, h⟩ := ob_some h
 obtain ⟨e, u, h⟩ := ob_some h
 refine AW.rd (.still 0 (.still 1 (.still 2 (.still 3 (.still 4 (.still 5 (.still 6 (.act 7 (.act 8 (.act 9 (.still 10 (.drop 11 .nil)))))))))))) [2] [_] I (AP.r 7 [.o 2 0, .o 5 0] I ⟨I, I, J⟩ (AP.act [0] I I I (AX.c0 [0] (L.zdjb_ok a _ _ _ t) ?_)))
 refine AP.act [] I I I (AX.lt 1 (([0, b.1, s.1] : List Int).map rI) (AP.act [0] I I I (AX.c0 [0] (L.ztqk_ok a _ _ _ u) ?_)))
 refine AP.q 1 I (AP.drop [2] I I I (AX.st 2 0 1 [[.V b.1, .V e.1, .v (.bool (c.1 == 0)), .v (.bool (d.1 == 7))]] I (AP.ofAO (AO.nil (AW.seq (AW.region (AO.r 1 [.o 0 2] I ⟨I, J⟩ (AO.act [1] I (AX.st 1 0 0 [[.V b.1, .V e.1, .v (.bool (c.1 == 0)), .v (.bool (d.1 == 7))]] I (AO.nil (AW.gp [0, 1] I ?_)))))))))))
 obtain rfl := oi h
 exact AW.ret ⟨.inr I, [_], [.arr a 88 2 1 [KS.row e.2]], ⟨⟨1, _, _, _, _, _, _, _, I, I, I, I, I⟩, J⟩, sl_c I (sl_n), ⟨[.arr a 88 2 1 [KS.row e.2]], [], I, I, I, I, I⟩⟩
theorem L.zrqy_ok (e : Nat) (A : KS) (t : Network) (u : Plan) (r : Desk × KS) (h : L.zrqy A t u = some r) : ACalls Tryz.env 14 [.v (.pointer (some ⟨e, 0, none⟩)), .agg (Network.row t), .agg (Plan.row u)] [.arr e 88 2 1 [KS.row A]] (Gives 1 (fun x os new => x = .agg (Desk.row r.1) ∧ os = [.arr e 88 2 1 [KS.row r.2]] ∧ new = [])) := by
 refine ACalls.of_body Tryz.func14 rfl rfl rfl (fun C hC => ?_)
 unfold L.zrqy at h
 refine AW.seqG (fun y1 G => (AW.region (AO.act [] I (AX.box (cs := Network.row t) (m := 6) I I I dS (fun b2 => (AO.act [] I (AX.box (cs := Plan.row u) (m := 3) I I I dS (fun b3 => (AO.act [] I (AX.alloc (cs := [.N, .N, .N, .N]) (m := 4) I I I I I dS (fun k => (AO.nil ?_))))))))))))
 subst G
 refine AW.seqG (fun y5 H => ?_)
 obtain ⟨a, M, h⟩ := ob_some h
 refine AW.region (AO.r 2 [.o 0 1, .o 1 2] I ⟨I, I, J⟩ (AO.act [] I (AX.call0 I I I (L.zbqx_ok _ _ _ M) dS ?_)))
 rintro _ _ ⟨rfl, rfl⟩
 refine AO.p (Yp.buildP (l := [.N, .list 1 (a.Rates.map rI), .list 1 (a.Ports.map rI), .list 1 (a.Pumps.map rB)]) Tryz.bld39 I) I (AO.act [] I (AX.alloc (cs := [.N, .N, .N, .N]) (m := 4) I I I I I dS (fun n => (AO.act [4] I (AX.st 4 0 0 [[.N, .list 1 (a.Rates.map rI), .list 1 (a.Ports.map rI), .list 1 (a.Pumps.map rB)]] I (AO.nil ?_))))))
 subst H
 refine AW.seqG (fun y9 O => ?_)
 obtain ⟨al, P, h⟩ := ob_some h
 obtain ⟨B, Q, h⟩ := ob_some h
 refine AW.region (AO.q 1 I (AO.d (Yd.loadO 4 0 1 I I I I I (y := .agg (Plan.row a)) I) I (AO.act [] I (AX.call0 I I I (L.zyrr_ok _ _ P) dS ?_))))
 rintro _ _ ⟨rfl, rfl⟩
 refine AO.act [] I (AX.call0 I I I (L.zjdk_ok _ _ Q) dS ?_)
 rintro _ _ ⟨D, rfl, rfl⟩
 refine AO.q 1 I (AO.nil ?_)
 subst O
 refine AW.cutX (fun s ob => ∃ (c : (List Int) × Int × (List Valve)) (g : Value), L.zrqy.J1 a c = some r ∧ s = [] ∧ ob = [.arr e 88 2 1 [[.list 1 (c.1.map rI), .V c.2.1]], .arr k 39 4 1 [[.N, .N, .N, .N]], .arr n 39 4 1 [[.v g, .list 1 (a.Rates.map rI), .list 1 (a.Ports.map rI), .list 1 (a.Pumps.map rB)]], .us g 74 4 (c.2.2.map Valve.row)]) [(6, _), (7, _)] ⟨I, I, J⟩ ?_ ?_
 refine AW.z I (AW.block (AW.ghost (Ghost.nilU 74 4) ?_))
 obtain ⟨am, R, S⟩ := ob_some h
 clear h
 refine AW.loopX R [(0, _), (6, _), (7, _), (8, _)] ⟨I, I, I, I, J⟩ (fun (f : (List Int) × Int × (List Valve) × Int) s ob => ∃ (i : Value), s = [(9, .V f.2.2.2)] ∧ ob = [.arr e 88 2 1 [[.list 1 (f.1.map rI), .V f.2.1]], .arr k 39 4 1 [[.N, .N, .N, .N]], .arr n 39 4 1 [[.v i, .list 1 (a.Rates.map rI), .list 1 (a.Ports.map rI), .list 1 (a.Pumps.map rB)]], .us D 4 1 (B.map rB), .us i 74 4 (f.2.2.1.map Valve.row)]) ⟨(.slice none 0 0), I, I⟩ ⟨I, J⟩ ⟨[0, 3, 4, 5, 6], I, by decide⟩ ?_
 rintro f U s ob ⟨i, rfl, rfl⟩ h W
 unfold L.zrqy.B2 at h
 refine AW.seqG (fun an X => (AW.seq (AW.region (AO.q 2 I (AO.d (Yd.lenUM 3 I I I I) I (AO.q 1 I (AO.nil (AW.ch h I ?_ ?_))))))))
 intro Y h
 refine AW.skip ?_
 subst X
 refine AW.seq (AW.block (AW.seqG (fun ao Z => ?_)))
 obtain ⟨b, aa, h⟩ := ob_some h
 refine AW.region (AO.q 1 I (AO.act [0] I (AX.c0 [0] (L.ztts_ok e _ _ aa) ?_)))
 refine AO.act [] I (AX.alloc (cs := [.V 0, .V 0, .v (.bool false), .v (.bool false)]) (m := 4) I I I I I dS (fun ab => (AO.act [5] I (AX.st 5 0 0 [Valve.row b.1] I (AO.nil ?_)))))
 subst Z
 refine AW.cutX (fun s ob => ∃ (j : Int × Bool), L.zrqy.J3 f b j = some U ∧ s = [] ∧ ob = [.arr e 88 2 1 [KS.row b.2], .arr k 39 4 1 [[.N, .N, .N, .N]], .arr n 39 4 1 [[.v i, .list 1 (a.Rates.map rI), .list 1 (a.Ports.map rI), .list 1 (a.Pumps.map rB)]], .us D 4 1 (B.map rB), .us i 74 4 (f.2.2.1.map Valve.row), .arr ab 74 4 1 [[.V b.1.Travel, .V j.1, .v (.bool j.2), .v (.bool b.1.Stuck)]]]) [(0, _), (6, _), (7, _), (8, _), (9, _), (10, _)] ⟨I, I, I, I, I, I, J⟩ ?_ ?_
 refine AW.seq ?_
 obtain ⟨w, ⟨ac, E⟩, h⟩ := ob_ix h
 refine AW.region (AO.q 2 I (AO.d (Yd.indexU 3 (m := w.1) I I I I I I I ac (map_get E)) I (AO.d (Yd.loadU 3 w.1 0 I I I (map_get E) I (y := .v (.bool w.2)) I) I (AO.nil (AW.ch h I ?_ ?_)))))
 intro ad h
 refine AW.region (AO.r 3 [.o 1 5] I ⟨I, J⟩ (AO.act [5] I (AX.st 5 0 1 [[.V b.1.Travel, .V b.1.Travel, .v (.bool b.1.Want), .v (.bool b.1.Stuck)]] I (AO.q 1 I (AO.act [5] I (AX.st 5 0 2 [[.V b.1.Travel, .V b.1.Travel, .v (.bool true), .v (.bool b.1.Stuck)]] I (AO.nil ?_)))))))
 exact lg ⟨(b.1.Travel, true), h, I, I⟩ [0, 1, 2, 3, 4, 5]
 intro ad h
 refine AW.skip ?_
 exact lg ⟨(b.1.Open, b.1.Want), h, I, I⟩ [0, 1, 2, 3, 4, 5]
 rintro s ob ⟨j, h, rfl, rfl⟩
 unfold L.zrqy.J3 at h
 obtain ⟨aq, ae, h⟩ := ob_some h
 refine AW.region (AO.r 3 [.o 1 2, .o 2 5] I ⟨I, I, J⟩ (AO.act [] I (AX.lt 4 (([(⟨b.1.Travel, j.1, j.2, b.1.Stuck⟩ : Valve)] : List Valve).map Valve.row) (AO.act [4] I (AX.ap 4 I ae (fun F => (AO.q 1 I (AO.one 4 I (fun af => (AO.act [2] I (AX.store 2 0 0 (es' := [[.v F, .list 1 (a.Rates.map rI), .list 1 (a.Ports.map rI), .list 1 (a.Pumps.map rB)]]) I I I I I I (cells_v af) I (le_ble I) I I (AO.nil (AW.region (AO.q 3 I ?_))))))))))))))
 obtain rfl := oi h
 refine AO.nil ?_
 exact ⟨_, _, _, I, ⟨F, I, I⟩, ⟨I, I, I, I, I, J⟩, [0, 1, 2, 3, 4], I, by decide⟩
 intro Y h
 obtain rfl := W _ (oi h).symm
 replace h := S
 refine AW.exit ?_
 exact lg ⟨(f.1, f.2.1, f.2.2.1), i, h, I, I⟩ [0, 1, 2, 4]
 rintro s ob ⟨c, g, h, rfl, rfl⟩
 unfold L.zrqy.J1 at h
 refine AW.seq (AW.region (AO.r 1 [.o 0 2] I ⟨I, J⟩ (AO.act [1] I (AX.st 1 0 0 [[.v g, .list 1 (a.Rates.map rI), .list 1 (a.Ports.map rI), .list 1 (a.Pumps.map rB)]] I (AO.nil (AW.ghost (Ghost.freeze [3] (K := [.us g 74 4 (c.2.2.map Valve.row)]) I [] J (ob' := [.arr e 88 2 1 [[.list 1 (c.1.map rI), .V c.2.1]], .arr k 39 4 1 [[.list 4 (c.2.2.map Valve.row), .list 1 (a.Rates.map rI), .list 1 (a.Ports.map rI), .list 1 (a.Pumps.map rB)]], .arr n 39 4 1 [[.v g, .list 1 (a.Rates.map rI), .list 1 (a.Ports.map rI), .list 1 (a.Pumps.map rB)]]]) (.cons (.same _) (.cons (.arr (.cons (.us 0 I) (.rest _))) (.rest _)))) (AW.gp [0, 1] I ?_)))))))
 obtain rfl := oi h
 exact AW.ret ⟨.inr I, [_], [.arr e 88 2 1 [[.list 1 (c.1.map rI), .V c.2.1]]], ⟨⟨1, _, _, _, _, _, _, _, I, I, I, I, I⟩, J⟩, sl_c I (sl_n), ⟨[.arr e 88 2 1 [[.list 1 (c.1.map rI), .V c.2.1]]], [], I, I, I, I, I⟩⟩
theorem L.zgom_ok  (r : Bool) (h : L.zgom = some r) : ACalls Tryz.env 10 [] [] (fun x new => x = .v (.bool r) ∧ new = []) := by
 refine ACalls.of_body Tryz.func10 rfl rfl rfl (fun C hC => ?_)
 unfold L.zgom at h
 refine AW.z I (AW.seqG (fun y2 S => (AW.region (AO.act [] I (AX.buildSlice (sz := 1) (es := ([(⟨#[97]⟩ : ByteArray), (⟨#[98]⟩ : ByteArray)] : List ByteArray).map rS) I I I I I I I I I I I dS (fun w => (AO.p (Yp.buildP (l := [.V 0, .V 0, .V 1000]) Tryz.bld80 I) I (AO.p (Yp.buildP (l := [.V 10, .V 0, .V 1000]) Tryz.bld80 I) I (AO.act [] I (AX.buildSlice (sz := 3) (es := ([(⟨0, 0, 1000⟩ : Point), (⟨10, 0, 1000⟩ : Point)] : List Point).map Point.row) I I I I I I I I I I I dS (fun G => (AO.one 1 I (fun U => (AO.p (Yp.buildP (l := [.v (.string (⟨#[103]⟩ : ByteArray)), .V 0, .V 1, .V 10, .V 0, .V 0, .v G]) Tryz.bld83 (fill_step I I I I (fill_step I I I I (fill_step I I I I (fill_step I I I I (fill_step I I (cells_v U) I (fill_nil))))))) I (AO.ghost (Ghost.freeze [1] (K := [.us G 80 3 (([(⟨0, 0, 1000⟩ : Point), (⟨10, 0, 1000⟩ : Point)] : List Point).map Point.row)]) I [(9, .list 3 (([(⟨0, 0, 1000⟩ : Point), (⟨10, 0, 1000⟩ : Point)] : List Point).map Point.row)), (10, .agg [.v (.string (⟨#[103]⟩ : ByteArray)), .V 0, .V 1, .V 10, .V 0, .V 0, .list 3 (([(⟨0, 0, 1000⟩ : Point), (⟨10, 0, 1000⟩ : Point)] : List Point).map Point.row)])] ⟨⟨_, I, .us 0 I⟩, ⟨_, I, .agg (.cons (.refl _) (.cons (.refl _) (.cons (.refl _) (.cons (.refl _) (.cons (.refl _) (.cons (.refl _) (.cons (.us 0 I) (.rest _))))))))⟩, J⟩ (ob' := [.us w 9 1 (([(⟨#[97]⟩ : ByteArray), (⟨#[98]⟩ : ByteArray)] : List ByteArray).map rS)]) (.rest _)) ?_)))))))))))))))
 refine AO.act [] I (AX.buildSlice (sz := 7) (es := ([(⟨(⟨#[103]⟩ : ByteArray), 0, 1, 10, 0, 0, ([(⟨0, 0, 1000⟩ : Point), (⟨10, 0, 1000⟩ : Point)] : List Point)⟩ : Segment)] : List Segment).map Segment.row) I I I I I I I I I I I dS (fun B => (AO.p (Yp.buildP (l := [.v (.string (⟨#[112]⟩ : ByteArray)), .V 0, .V 0]) Tryz.bld85 I) I (AO.p (Yp.buildP (l := [.v (.string (⟨#[113]⟩ : ByteArray)), .V 1, .V 0]) Tryz.bld85 I) I (AO.act [] I (AX.buildSlice (sz := 3) (es := ([(⟨(⟨#[112]⟩ : ByteArray), 0, 0⟩ : Port), (⟨(⟨#[113]⟩ : ByteArray), 1, 0⟩ : Port)] : List Port).map Port.row) I I I I I I I I I I I dS (fun D => (AO.one 0 I (fun W => (AO.one 1 I (fun X => (AO.one 2 I (fun Y => (AO.p (Yp.buildP (l := [.v w, .v B, .v D, .N, .V 0, .V 0]) Tryz.bld32 (fill_step I I (cells_v W) I (fill_step I I (cells_v X) I (fill_step I I (cells_v Y) I (fill_nil))))) I (AO.act [] I (AX.alloc (cs := [.N, .N, .N, .N, .V 0, .V 0]) (m := 6) I I I I I dS (fun H => (AO.act [3] I (AX.st 3 0 0 [[.v w, .v B, .v D, .N, .V 0, .V 0]] I (AO.nil ?_))))))))))))))))))))
 subst S
 refine AW.seqG (fun y8 Z => ?_)
 obtain ⟨M, aa, h⟩ := ob_some h
 refine AW.region (AO.r 1 [.o 0 3] I ⟨I, J⟩ (AO.ghost (Ghost.freeze [0, 1, 2] (K := [.us w 9 1 (([(⟨#[97]⟩ : ByteArray), (⟨#[98]⟩ : ByteArray)] : List ByteArray).map rS), .us B 83 7 (([(⟨(⟨#[103]⟩ : ByteArray), 0, 1, 10, 0, 0, ([(⟨0, 0, 1000⟩ : Point), (⟨10, 0, 1000⟩ : Point)] : List Point)⟩ : Segment)] : List Segment).map Segment.row), .us D 85 3 (([(⟨(⟨#[112]⟩ : ByteArray), 0, 0⟩ : Port), (⟨(⟨#[113]⟩ : ByteArray), 1, 0⟩ : Port)] : List Port).map Port.row)]) I [(6, .list 1 (([(⟨#[97]⟩ : ByteArray), (⟨#[98]⟩ : ByteArray)] : List ByteArray).map rS)), (11, .list 7 (([(⟨(⟨#[103]⟩ : ByteArray), 0, 1, 10, 0, 0, ([(⟨0, 0, 1000⟩ : Point), (⟨10, 0, 1000⟩ : Point)] : List Point)⟩ : Segment)] : List Segment).map Segment.row)), (14, .list 3 (([(⟨(⟨#[112]⟩ : ByteArray), 0, 0⟩ : Port), (⟨(⟨#[113]⟩ : ByteArray), 1, 0⟩ : Port)] : List Port).map Port.row)), (15, .agg [.list 1 (([(⟨#[97]⟩ : ByteArray), (⟨#[98]⟩ : ByteArray)] : List ByteArray).map rS), .list 7 (([(⟨(⟨#[103]⟩ : ByteArray), 0, 1, 10, 0, 0, ([(⟨0, 0, 1000⟩ : Point), (⟨10, 0, 1000⟩ : Point)] : List Point)⟩ : Segment)] : List Segment).map Segment.row), .list 3 (([(⟨(⟨#[112]⟩ : ByteArray), 0, 0⟩ : Port), (⟨(⟨#[113]⟩ : ByteArray), 1, 0⟩ : Port)] : List Port).map Port.row), .list 5 ([].map Station.row), .V 0, .V 0]), (17, .agg [.list 1 (([(⟨#[97]⟩ : ByteArray), (⟨#[98]⟩ : ByteArray)] : List ByteArray).map rS), .list 7 (([(⟨(⟨#[103]⟩ : ByteArray), 0, 1, 10, 0, 0, ([(⟨0, 0, 1000⟩ : Point), (⟨10, 0, 1000⟩ : Point)] : List Point)⟩ : Segment)] : List Segment).map Segment.row), .list 3 (([(⟨(⟨#[112]⟩ : ByteArray), 0, 0⟩ : Port), (⟨(⟨#[113]⟩ : ByteArray), 1, 0⟩ : Port)] : List Port).map Port.row), .list 5 ([].map Station.row), .V 0, .V 0])] ⟨⟨_, I, .us 0 I⟩, ⟨_, I, .us 1 I⟩, ⟨_, I, .us 2 I⟩, ⟨_, I, .agg (.cons (.us 0 I) (.cons (.us 1 I) (.cons (.us 2 I) (.cons (.nil _) (.rest _)))))⟩, ⟨_, I, .agg (.cons (.us 0 I) (.cons (.us 1 I) (.cons (.us 2 I) (.cons (.nil _) (.rest _)))))⟩, J⟩ (ob' := [.arr H 32 6 1 [[.list 1 (([(⟨#[97]⟩ : ByteArray), (⟨#[98]⟩ : ByteArray)] : List ByteArray).map rS), .list 7 (([(⟨(⟨#[103]⟩ : ByteArray), 0, 1, 10, 0, 0, ([(⟨0, 0, 1000⟩ : Point), (⟨10, 0, 1000⟩ : Point)] : List Point)⟩ : Segment)] : List Segment).map Segment.row), .list 3 (([(⟨(⟨#[112]⟩ : ByteArray), 0, 0⟩ : Port), (⟨(⟨#[113]⟩ : ByteArray), 1, 0⟩ : Port)] : List Port).map Port.row), .N, .V 0, .V 0]]]) (.cons (.arr (.cons (.us 0 I) (.cons (.us 1 I) (.cons (.us 2 I) (.rest _))))) (.rest _))) ?_))
 refine AO.act [] I (AX.call0 I I I (L.zcvf_ok _ _ _ aa) dS ?_)
 rintro _ _ ⟨rfl, rfl⟩
 refine AO.q 3 I (AO.act [] I (AX.alloc (cs := [.N, .N, .N, .N]) (m := 4) I I I I I dS (fun ab => (AO.act [1] I (AX.st 1 0 0 [Desk.row M.1] I (AO.q 1 I (AO.nil ?_)))))))
 subst Z
 refine AW.seqG (fun ak ac => ?_)
 obtain ⟨O, ad, h⟩ := ob_some h
 refine AW.region (AO.r 2 [.o 0 0, .o 1 1] I ⟨I, I, J⟩ (AO.act [] I (AX.buildSlice (sz := 1) (es := ([5] : List Int).map rI) I I I I I I I I I I I dS (fun P => (AO.act [] I (AX.buildSlice (sz := 1) (es := ([5, (-5)] : List Int).map rI) I I I I I I I I I I I dS (fun Q => (AO.one 2 I (fun ae => (AO.one 3 I (fun af => (AO.p (Yp.buildP (l := [.v P, .v Q, .N]) Tryz.bld37 (fill_step I I (cells_v ae) I (fill_step I I (cells_v af) I (fill_nil)))) I (AO.ghost (Ghost.freeze [2, 3] (K := [.us P 3 1 (([5] : List Int).map rI), .us Q 3 1 (([5, (-5)] : List Int).map rI)]) I [(22, .agg [.list 1 (([(⟨#[97]⟩ : ByteArray), (⟨#[98]⟩ : ByteArray)] : List ByteArray).map rS), .list 7 (([(⟨(⟨#[103]⟩ : ByteArray), 0, 1, 10, 0, 0, ([(⟨0, 0, 1000⟩ : Point), (⟨10, 0, 1000⟩ : Point)] : List Point)⟩ : Segment)] : List Segment).map Segment.row), .list 3 (([(⟨(⟨#[112]⟩ : ByteArray), 0, 0⟩ : Port), (⟨(⟨#[113]⟩ : ByteArray), 1, 0⟩ : Port)] : List Port).map Port.row), .list 5 ([].map Station.row), .V 0, .V 0]), (24, .list 1 (([5] : List Int).map rI)), (25, .list 1 (([5, (-5)] : List Int).map rI)), (26, .agg [.list 1 (([5] : List Int).map rI), .list 1 (([5, (-5)] : List Int).map rI), .list 1 ([].map rB)])] ⟨⟨_, I, .agg (.cons (.refl _) (.cons (.refl _) (.cons (.refl _) (.cons (.nil _) (.rest _)))))⟩, ⟨_, I, .us 0 I⟩, ⟨_, I, .us 1 I⟩, ⟨_, I, .agg (.cons (.us 0 I) (.cons (.us 1 I) (.cons (.nil _) (.rest _))))⟩, J⟩ (ob' := [.arr H 32 6 1 [[.list 1 (([(⟨#[97]⟩ : ByteArray), (⟨#[98]⟩ : ByteArray)] : List ByteArray).map rS), .list 7 (([(⟨(⟨#[103]⟩ : ByteArray), 0, 1, 10, 0, 0, ([(⟨0, 0, 1000⟩ : Point), (⟨10, 0, 1000⟩ : Point)] : List Point)⟩ : Segment)] : List Segment).map Segment.row), .list 3 (([(⟨(⟨#[112]⟩ : ByteArray), 0, 0⟩ : Port), (⟨(⟨#[113]⟩ : ByteArray), 1, 0⟩ : Port)] : List Port).map Port.row), .N, .V 0, .V 0]], .arr ab 39 4 1 [Desk.row M.1]]) (.rest _)) ?_)))))))))))))
 refine AO.act [] I (AX.call0 I I I (L.zzjm_ok _ _ _ _ _ _ ad) dS ?_)
 rintro _ _ ⟨al, rfl, rfl⟩
 refine AO.q 5 I (AO.nil ?_)
 subst ac
 refine AW.cutX (fun s ob => ∃ (E : Bool), L.zgom.J1 E = some r ∧ s = [(0, .v (.bool E))] ∧ ob = []) [] J ?_ ?_
 rcases bt ((O.2 == 0)) with c | c
 replace h := ife_t c h
 rcases bt (((O.1.length : Int) == 8)) with f | f
 replace h := ife_t f h
 obtain ⟨a, ⟨g, b⟩, h⟩ := ob_ix h
 rcases bt ((a.2.Kind == 6)) with i | i
 replace h := ife_t i h
 rcases bt ((a.2.Value == 2)) with j | j
 replace h := ife_t j h
 obtain ⟨e, ⟨F, n⟩, h⟩ := ob_ix h
 rcases bt ((e.2.Value == 3)) with t | t
 replace h := ife_t t h
 obtain ⟨k, ⟨R, A⟩, h⟩ := ob_ix h
 rcases bt ((k.2.Value == 2)) with u | u
 replace h := ife_t u h
 obtain ⟨ag, ah, h⟩ := ob_some h
 refine AW.region (AO.q 3 I (AO.known 32 I c (AO.q 1 I (AO.gt I I I (AO.d (Yd.lenUM 2 I I I I) I (AO.q 3 I (AO.known 37 I f (AO.q 1 I (AO.gt I I I (AO.d (Yd.indexU 2 (m := a.1) I I I I I I I g (map_get b)) I (AO.q 1 I (AO.gt I I I ?_))))))))))))
 refine AO.d (Yd.loadU 2 a.1 0 I I I (map_get b) I (y := .V a.2.Kind) I) I (AO.q 3 I (AO.known 44 I i (AO.q 1 I (AO.gt I I I (AO.d (Yd.indexU 2 (m := a.1) I I I I I I I g (map_get b)) I (AO.q 1 I (AO.gt I I I (AO.d (Yd.loadU 2 a.1 2 I I I (map_get b) I (y := .V a.2.Value) I) I (AO.q 3 I (AO.known 51 I j (AO.q 1 I (AO.gt I I I ?_))))))))))))
 refine AO.d (Yd.indexU 2 (m := e.1) I I I I I I I F (map_get n)) I (AO.q 1 I (AO.gt I I I (AO.d (Yd.loadU 2 e.1 2 I I I (map_get n) I (y := .V e.2.Value) I) I (AO.q 3 I (AO.known 58 I t (AO.q 1 I (AO.gt I I I (AO.d (Yd.indexU 2 (m := k.1) I I I I I I I R (map_get A)) I (AO.q 1 I (AO.gt I I I (AO.d (Yd.loadU 2 k.1 2 I I I (map_get A) I (y := .V k.2.Value) I) I (AO.q 3 I ?_))))))))))))
 refine AO.known 65 I u (AO.q 1 I (AO.gt I I I (AO.act [] I (AX.callL I (.refl _) I I (.cons (.us 2 I) (.rest _)) I (L.zrbl_ok _ _ ah) dS (by rintro _ _ ⟨rfl, _⟩; rfl) ?_))))
 rintro _ ⟨_, rfl, -⟩
 refine AO.q 3 I (AO.nil ?_)
 exact lg ⟨(ag == 3), h, I, I⟩ []
 replace h := ife_f u h
 refine AW.region (AO.q 3 I (AO.known 32 I c (AO.q 1 I (AO.gt I I I (AO.d (Yd.lenUM 2 I I I I) I (AO.q 3 I (AO.known 37 I f (AO.q 1 I (AO.gt I I I (AO.d (Yd.indexU 2 (m := a.1) I I I I I I I g (map_get b)) I (AO.q 1 I (AO.gt I I I ?_))))))))))))
 refine AO.d (Yd.loadU 2 a.1 0 I I I (map_get b) I (y := .V a.2.Kind) I) I (AO.q 3 I (AO.known 44 I i (AO.q 1 I (AO.gt I I I (AO.d (Yd.indexU 2 (m := a.1) I I I I I I I g (map_get b)) I (AO.q 1 I (AO.gt I I I (AO.d (Yd.loadU 2 a.1 2 I I I (map_get b) I (y := .V a.2.Value) I) I (AO.q 3 I (AO.known 51 I j (AO.q 1 I (AO.gt I I I ?_))))))))))))
 refine AO.d (Yd.indexU 2 (m := e.1) I I I I I I I F (map_get n)) I (AO.q 1 I (AO.gt I I I (AO.d (Yd.loadU 2 e.1 2 I I I (map_get n) I (y := .V e.2.Value) I) I (AO.q 3 I (AO.known 58 I t (AO.q 1 I (AO.gt I I I (AO.d (Yd.indexU 2 (m := k.1) I I I I I I I R (map_get A)) I (AO.q 1 I (AO.gt I I I (AO.d (Yd.loadU 2 k.1 2 I I I (map_get A) I (y := .V k.2.Value) I) I (AO.q 3 I ?_))))))))))))
 refine AO.known 65 I u (AO.q 5 I (AO.nil ?_))
 exact lg ⟨false, h, I, I⟩ []
 replace h := ife_f t h
 refine AW.region (AO.q 3 I (AO.known 32 I c (AO.q 1 I (AO.gt I I I (AO.d (Yd.lenUM 2 I I I I) I (AO.q 3 I (AO.known 37 I f (AO.q 1 I (AO.gt I I I (AO.d (Yd.indexU 2 (m := a.1) I I I I I I I g (map_get b)) I (AO.q 1 I (AO.gt I I I ?_))))))))))))
 refine AO.d (Yd.loadU 2 a.1 0 I I I (map_get b) I (y := .V a.2.Kind) I) I (AO.q 3 I (AO.known 44 I i (AO.q 1 I (AO.gt I I I (AO.d (Yd.indexU 2 (m := a.1) I I I I I I I g (map_get b)) I (AO.q 1 I (AO.gt I I I (AO.d (Yd.loadU 2 a.1 2 I I I (map_get b) I (y := .V a.2.Value) I) I (AO.q 3 I (AO.known 51 I j (AO.q 1 I (AO.gt I I I ?_))))))))))))
 refine AO.d (Yd.indexU 2 (m := e.1) I I I I I I I F (map_get n)) I (AO.q 1 I (AO.gt I I I (AO.d (Yd.loadU 2 e.1 2 I I I (map_get n) I (y := .V e.2.Value) I) I (AO.q 3 I (AO.known 58 I t (AO.q 12 I (AO.nil ?_)))))))
 exact lg ⟨false, h, I, I⟩ []
 replace h := ife_f j h
 refine AW.region (AO.q 3 I (AO.known 32 I c (AO.q 1 I (AO.gt I I I (AO.d (Yd.lenUM 2 I I I I) I (AO.q 3 I (AO.known 37 I f (AO.q 1 I (AO.gt I I I (AO.d (Yd.indexU 2 (m := a.1) I I I I I I I g (map_get b)) I (AO.q 1 I (AO.gt I I I ?_))))))))))))
 refine AO.d (Yd.loadU 2 a.1 0 I I I (map_get b) I (y := .V a.2.Kind) I) I (AO.q 3 I (AO.known 44 I i (AO.q 1 I (AO.gt I I I (AO.d (Yd.indexU 2 (m := a.1) I I I I I I I g (map_get b)) I (AO.q 1 I (AO.gt I I I (AO.d (Yd.loadU 2 a.1 2 I I I (map_get b) I (y := .V a.2.Value) I) I (AO.q 3 I (AO.known 51 I j (AO.q 19 I (AO.nil ?_))))))))))))
 exact lg ⟨false, h, I, I⟩ []
 replace h := ife_f i h
 refine AW.region (AO.q 3 I (AO.known 32 I c (AO.q 1 I (AO.gt I I I (AO.d (Yd.lenUM 2 I I I I) I (AO.q 3 I (AO.known 37 I f (AO.q 1 I (AO.gt I I I (AO.d (Yd.indexU 2 (m := a.1) I I I I I I I g (map_get b)) I (AO.q 1 I (AO.gt I I I ?_))))))))))))
 refine AO.d (Yd.loadU 2 a.1 0 I I I (map_get b) I (y := .V a.2.Kind) I) I (AO.q 3 I (AO.known 44 I i (AO.q 26 I (AO.nil ?_))))
 exact lg ⟨false, h, I, I⟩ []
 replace h := ife_f f h
 refine AW.region (AO.q 3 I (AO.known 32 I c (AO.q 1 I (AO.gt I I I (AO.d (Yd.lenUM 2 I I I I) I (AO.q 3 I (AO.known 37 I f (AO.q 33 I (AO.nil ?_)))))))))
 exact lg ⟨false, h, I, I⟩ []
 replace h := ife_f c h
 refine AW.region (AO.q 3 I (AO.known 32 I c (AO.q 38 I (AO.nil ?_))))
 exact lg ⟨false, h, I, I⟩ []
 rintro s ob ⟨E, h, rfl, rfl⟩
 unfold L.zgom.J1 at h
 obtain rfl := oi h
 exact AW.ret pr
end Go.Proofs.YtmaamhgjeampmaaGreat
