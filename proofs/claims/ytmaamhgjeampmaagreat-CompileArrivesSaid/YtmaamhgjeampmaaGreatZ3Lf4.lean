/- Walks that show what functions of the program compute; printed by a program of ours. No condition. -/
import Derived.Test.YtmaamhgjeampmaaGreatZ3Lf2
set_option maxRecDepth 100000
namespace Go.Proofs.YtmaamhgjeampmaaGreat
open Go.Aw
set_option linter.unusedVariables false
set_option linter.unusedSimpArgs false
set_option maxHeartbeats 4000000
theorem L.zmdc_ok (a : List Int) (b : List Int) (r : Bool) (h : L.zmdc a b = some r) : ACalls Tryz.env 66 [.list 1 (a.map rI), .list 1 (b.map rI)] [] (fun x new => x = .v (.bool r) ∧ new = []) := by
 refine ACalls.of_body Tryz.func66 rfl rfl rfl (fun C hC => ?_)
 unfold L.zmdc at h
 refine AW.z I (AW.seqG (fun A j => (AW.zr [.l 1 (a.length : Int), .l 3 (b.length : Int)] I ⟨len_m, len_m, J⟩ (AW.ch h I ?_ ?_))))
 intro k h
 refine AW.z I ?_
 obtain rfl := oi h
 exact AW.ret pr
 intro k h
 refine AW.skip ?_
 subst j
 refine AW.cutX (fun s ob => ∃ (c : Unit), L.zmdc.J1 c = some r ∧ s = [] ∧ ob = []) [] J ?_ ?_
 refine AW.z I (AW.block ?_)
 obtain ⟨B, m, d⟩ := ob_some h
 clear h
 refine AW.loopX m [(0, _), (1, _)] ⟨I, I, J⟩ (fun (e : Int) s ob => s = [(5, .V e)] ∧ ob = []) ⟨I, I⟩ ⟨I, J⟩ ⟨[], I, by decide⟩ ?_
 rintro e D s ob ⟨rfl, rfl⟩ h f
 unfold L.zmdc.B2 at h
 refine AW.seqG (fun E n => (AW.zr [.l 2 (a.length : Int)] I ⟨len_m, J⟩ (AW.ch h I ?_ ?_)))
 intro o h
 refine AW.skip ?_
 subst n
 refine AW.seq (AW.block (AW.seq ?_))
 obtain ⟨g, ⟨p, t⟩, h⟩ := ob_ix h
 obtain ⟨i, ⟨u, w⟩, h⟩ := ob_ix h
 refine AW.dt (pd 9 0 []) [] [] [.x 2 g.1 (rI g.2), .x 6 i.1 (rI i.2)] I I ⟨⟨u, map_get w⟩, ⟨p, map_get t⟩, J⟩ (AW.ch h I ?_ ?_)
 intro y h
 refine AW.z I ?_
 obtain rfl := f _ (oi h).symm
 replace h := d
 replace h := se_l h
 obtain rfl := oi h
 exact AW.ret pr
 intro y h
 refine AW.skip (AW.region (AO.q 3 I ?_))
 obtain rfl := oi h
 refine AO.nil ?_
 exact ⟨_, _, _, I, ⟨I, I⟩, ⟨I, I, I, J⟩, [], I, by decide⟩
 intro o h
 obtain rfl := f _ (oi h).symm
 replace h := d
 replace h := se_r h
 refine AW.exit ?_
 exact lg ⟨(), h, I, I⟩ []
 rintro s ob ⟨c, h, rfl, rfl⟩
 unfold L.zmdc.J1 at h
 refine AW.z I ?_
 obtain rfl := oi h
 exact AW.ret pr
theorem L.zygm_ok (a : List Bool) (b : List Bool) (r : Bool) (h : L.zygm a b = some r) : ACalls Tryz.env 67 [.list 1 (a.map rB), .list 1 (b.map rB)] [] (fun x new => x = .v (.bool r) ∧ new = []) := by
 refine ACalls.of_body Tryz.func67 rfl rfl rfl (fun C hC => ?_)
 unfold L.zygm at h
 refine AW.z I (AW.seqG (fun A j => (AW.zr [.l 1 (a.length : Int), .l 3 (b.length : Int)] I ⟨len_m, len_m, J⟩ (AW.ch h I ?_ ?_))))
 intro k h
 refine AW.z I ?_
 obtain rfl := oi h
 exact AW.ret pr
 intro k h
 refine AW.skip ?_
 subst j
 refine AW.cutX (fun s ob => ∃ (c : Unit), L.zygm.J1 c = some r ∧ s = [] ∧ ob = []) [] J ?_ ?_
 refine AW.z I (AW.block ?_)
 obtain ⟨B, m, d⟩ := ob_some h
 clear h
 refine AW.loopX m [(0, _), (1, _)] ⟨I, I, J⟩ (fun (e : Int) s ob => s = [(5, .V e)] ∧ ob = []) ⟨I, I⟩ ⟨I, J⟩ ⟨[], I, by decide⟩ ?_
 rintro e D s ob ⟨rfl, rfl⟩ h f
 unfold L.zygm.B2 at h
 refine AW.seqG (fun E n => (AW.zr [.l 2 (a.length : Int)] I ⟨len_m, J⟩ (AW.ch h I ?_ ?_)))
 intro o h
 refine AW.skip ?_
 subst n
 refine AW.seq (AW.block (AW.seq ?_))
 obtain ⟨g, ⟨p, t⟩, h⟩ := ob_ix h
 obtain ⟨i, ⟨u, w⟩, h⟩ := ob_ix h
 refine AW.rd (pd 9 0 []) [] [] I (AP.r 8 [.x 2 g.1 (rB g.2), .x 6 i.1 (rB i.2)] I ⟨⟨u, map_get w⟩, ⟨p, map_get t⟩, J⟩ (AP.op I (Yp.neqB I I I I) I (AP.ofAO (AO.nil (AW.ch h I ?_ ?_)))))
 intro y h
 refine AW.z I ?_
 obtain rfl := f _ (oi h).symm
 replace h := d
 replace h := se_l h
 obtain rfl := oi h
 exact AW.ret pr
 intro y h
 refine AW.skip (AW.region (AO.q 3 I ?_))
 obtain rfl := oi h
 refine AO.nil ?_
 exact ⟨_, _, _, I, ⟨I, I⟩, ⟨I, I, I, J⟩, [], I, by decide⟩
 intro o h
 obtain rfl := f _ (oi h).symm
 replace h := d
 replace h := se_r h
 refine AW.exit ?_
 exact lg ⟨(), h, I, I⟩ []
 rintro s ob ⟨c, h, rfl, rfl⟩
 unfold L.zygm.J1 at h
 refine AW.z I ?_
 obtain rfl := oi h
 exact AW.ret pr
theorem L.zwbu_ok (d : Plan) (e : Plan) (r : Bool) (h : L.zwbu d e = some r) : ACalls Tryz.env 19 [.agg (Plan.row d), .agg (Plan.row e)] [] (fun x new => x = .v (.bool r) ∧ new = []) := by
 refine ACalls.of_body Tryz.func19 rfl rfl rfl (fun C hC => ?_)
 unfold L.zwbu at h
 refine AW.seqG (fun t i => (AW.region (AO.act [] I (AX.box (cs := Plan.row d) (m := 3) I I I dS (fun u => (AO.act [] I (AX.box (cs := Plan.row e) (m := 3) I I I dS (fun w => (AO.q 1 I (AO.nil ?_))))))))))
 subst i
 refine AW.cutX (fun s ob => ∃ (f : Bool), L.zwbu.J1 f = some r ∧ s = [(4, .v (.bool f))] ∧ ob = []) [] J ?_ ?_
 obtain ⟨j, k, h⟩ := ob_some h
 refine AW.region (AO.r 4 [.o 1 0, .o 3 1] I ⟨I, I, J⟩ (AO.c (L.zmdc_ok _ _ _ k) (AO.q 1 I ?_)))
 rcases bt (j) with a | a
 replace h := ife_t a h
 obtain ⟨l, g, h⟩ := ob_some h
 refine AO.known 10 I a ?_
 rcases bt (l) with b | b
 replace h := ife_t b h
 obtain ⟨n, p, h⟩ := ob_some h
 refine AO.r 4 [.o 1 0, .o 3 1] I ⟨I, I, J⟩ (AO.gt I I I (AO.c (L.zmdc_ok _ _ _ g) (AO.q 2 I (AO.known 17 I b (AO.r 4 [.o 1 0, .o 3 1] I ⟨I, I, J⟩ (AO.gt I I I (AO.c (L.zygm_ok _ _ _ p) (AO.q 2 I (AO.nil ?_)))))))))
 exact lg ⟨n, h, I, I⟩ []
 replace h := ife_f b h
 refine AO.r 4 [.o 1 0, .o 3 1] I ⟨I, I, J⟩ (AO.gt I I I (AO.c (L.zmdc_ok _ _ _ g) (AO.q 2 I (AO.known 17 I b (AO.q 7 I (AO.nil ?_))))))
 exact lg ⟨false, h, I, I⟩ []
 replace h := ife_f a h
 refine AO.known 10 I a (AO.q 14 I (AO.nil ?_))
 exact lg ⟨false, h, I, I⟩ []
 rintro s ob ⟨f, h, rfl, rfl⟩
 unfold L.zwbu.J1 at h
 obtain rfl := oi h
 exact AW.ret pr
theorem L.zgzg_ok (X : List Int) (F : Int) (A : Int) (r : Bool) (h : L.zgzg X F A = some r) : ACalls Tryz.env 3 [.list 1 (X.map rI), .v (.int .u8 F), .v (.int .u8 A)] [] (fun x new => x = .v (.bool r) ∧ new = []) := by
 refine ACalls.of_body Tryz.func3 rfl rfl rfl (fun C hC => ?_)
 unfold L.zgzg at h
 refine AW.z I (AW.seqG (fun y2 an => (AW.seq (AW.region (AO.q 1 I (AO.c (L.zqaf_ok X _ I) (AO.q 1 I (AO.nil (AW.ch h I ?_ ?_)))))))))
 intro ao h
 refine AW.seq ?_
 obtain ⟨r4, ap, h⟩ := ob_some h
 refine AW.region (AO.c (L.zgom_ok  _ ap) (AO.q 1 I (AO.nil ?_)))
 obtain rfl := oi h
 exact AW.ret pr
 intro ao h
 refine AW.skip ?_
 subst an
 refine AW.seqG (fun y6 aq => ?_)
 obtain ⟨r7, ar, h⟩ := ob_some h
 refine AW.region (AO.q 1 I (AO.act [] I (AX.call0 I I I (L.ziti_ok _ _ ar) dS ?_)))
 rintro _ _ ⟨n, rfl, rfl⟩
 refine AO.q 1 I (AO.nil ?_)
 subst aq
 refine AW.seqG (fun b3 au => ?_)
 obtain ⟨j, av, h⟩ := ob_some h
 refine AW.region (AO.q 1 I (AO.act [0] I (AX.c0 [0] (L.zeju_ok n _ _ av) ?_)))
 refine AO.act [] I (AX.alloc (cs := [.N, .N, .N, .N, .V 0, .V 0]) (m := 6) I I I I I dS (fun B => (AO.act [1] I (AX.st 1 0 0 [Network.row j.1] I (AO.nil ?_)))))
 subst au
 refine AW.cutX (fun s ob => ∃ (a : (List Int) × Int × (List Valve) × (List Int) × (List Int) × (List Bool)) (t : Nat), L.zgzg.J1 F A j a = some r ∧ s = [(9, .v (.pointer (some ⟨t, 0, none⟩)))] ∧ ob = [.arr n 88 2 1 [[.list 1 (a.1.map rI), .V a.2.1]], .arr B 32 6 1 [Network.row j.1], .arr t 39 4 1 [[.list 4 (a.2.2.1.map Valve.row), .list 1 (a.2.2.2.1.map rI), .list 1 (a.2.2.2.2.1.map rI), .list 1 (a.2.2.2.2.2.map rB)]]]) [(1, _), (2, _), (7, _), (8, _)] ⟨I, I, I, I, J⟩ ?_ ?_
 obtain ⟨b4, ag, h⟩ := ob_some h
 obtain ⟨ah, Y, h⟩ := ob_some h
 obtain ⟨u, S, h⟩ := ob_some h
 refine AW.rd (.still 0 (.still 1 (.still 2 (.still 3 (.two 4 7 (.two 5 7 (.two 6 7 (.act 7 (.act 8 .nil)) (.act 6 (.act 8 .nil))) (.act 5 (.act 6 (.act 8 .nil)))) (.act 4 (.act 5 (.act 6 (.act 8 .nil))))))))) [1] [_] I (AP.r 4 [.o 1 0, .o 3 0] I ⟨I, I, J⟩ (AP.two ?_ ?_))
 refine AP.act [0] I I I (AX.c0 [0] (L.zhma_ok n _ _ _ ag) ?_)
 refine AP.two ?_ ?_
 refine AP.act [0] I I I (AX.c0 [0] (L.zrqy_ok n _ _ _ _ Y) ?_)
 refine AP.two ?_ ?_
 refine AP.act [] I I I (AX.call0 I I I (L.zqyk_ok _ _ S) dS ?_)
 rintro _ _ ⟨rfl, rfl⟩
 refine AP.act [] I I I (AX.alloc (cs := [.N, .N, .N, .N]) (m := 4) I I I I I dS (fun U => (AP.act [2] I I I (AX.st 2 0 0 [Desk.row u] I (AP.ofAO (AO.nil ?_))))))
 rotate_left
 refine AP.act [] I I I (AX.alloc (cs := [.N, .N, .N, .N]) (m := 4) I I I I I dS (fun U => (AP.act [] I I I (AX.call0 I I I (L.zqyk_ok _ _ S) dS ?_))))
 rintro _ _ ⟨rfl, rfl⟩
 refine AP.act [2] I I I (AX.st 2 0 0 [Desk.row u] I (AP.ofAO (AO.nil ?_)))
 rotate_left
 refine AP.act [] I I I (AX.alloc (cs := [.N, .N, .N, .N]) (m := 4) I I I I I dS (fun U => (AP.act [0] I I I (AX.c0 [0] (L.zrqy_ok n _ _ _ _ Y) ?_))))
 refine AP.act [] I I I (AX.call0 I I I (L.zqyk_ok _ _ S) dS ?_)
 rintro _ _ ⟨rfl, rfl⟩
 refine AP.act [2] I I I (AX.st 2 0 0 [Desk.row u] I (AP.ofAO (AO.nil ?_)))
 rotate_left
 refine AP.act [] I I I (AX.alloc (cs := [.N, .N, .N, .N]) (m := 4) I I I I I dS (fun U => (AP.act [0] I I I (AX.c0 [0] (L.zhma_ok n _ _ _ ag) ?_))))
 refine AP.act [0] I I I (AX.c0 [0] (L.zrqy_ok n _ _ _ _ Y) ?_)
 refine AP.act [] I I I (AX.call0 I I I (L.zqyk_ok _ _ S) dS ?_)
 rintro _ _ ⟨rfl, rfl⟩
 refine AP.act [2] I I I (AX.st 2 0 0 [Desk.row u] I (AP.ofAO (AO.nil ?_)))
 any_goals
  exact lg ⟨(ah.2.L_, ah.2.At, u.Valves, u.Plan.Rates, u.Plan.Ports, u.Plan.Pumps), U, h, I, I⟩ [0, 1, 2]
 rintro s ob ⟨a, t, h, rfl, rfl⟩
 unfold L.zgzg.J1 at h
 refine AW.seqG (fun b5 aw => ?_)
 obtain ⟨i, ax, h⟩ := ob_some h
 refine AW.region (AO.r 2 [.o 1 1] I ⟨I, J⟩ (AO.act [0] I (AX.c0 [0] (L.zhma_ok n _ _ _ ax) ?_)))
 refine AO.act [] I (AX.alloc (cs := [.N, .N, .N]) (m := 3) I I I I I dS (fun D => (AO.act [3] I (AX.st 3 0 0 [Plan.row i.1] I (AO.nil ?_)))))
 subst aw
 refine AW.seqG (fun b6 ay => (AW.region (AO.q 1 I (AO.p (Yp.convI (c := wr (F)) I I I I I) I (AO.q 2 I (AO.nil ?_))))))
 subst ay
 refine AW.seqG (fun b7 az => ?_)
 obtain ⟨w, a0, h⟩ := ob_some h
 refine AW.region (AO.r 5 [.o 0 1, .o 1 2, .o 2 3] I ⟨I, I, I, J⟩ (AO.p (Yp.convI (c := wr (A)) I I I I I) I (AO.r 1 [.f 0 (.V ((wr (A)).tmod 3))] I ⟨Yp.yd (Yp.binI (c := ((wr (A)).tmod 3)) I I ⟨by decide, I⟩), J⟩ (AO.act [] I (AX.call0 I I I (L.zzjm_ok _ _ _ _ _ _ a0) dS ?_)))))
 rintro _ _ ⟨G, rfl, rfl⟩
 refine AO.q 5 I (AO.nil ?_)
 subst az
 refine AW.seqG (fun b8 a1 => (AW.z I (AW.ch h I ?_ ?_)))
 intro a2 h
 refine AW.seq ?_
 obtain ⟨ca, a3, h⟩ := ob_some h
 refine AW.region (AO.c (L.zgom_ok  _ a3) (AO.q 1 I (AO.nil (AW.ghost g0 ?_))))
 obtain rfl := oi h
 exact AW.ret pr
 intro a2 h
 refine AW.skip ?_
 subst a1
 refine AW.seqG (fun cb a4 => (AW.cutX (fun s ob => ∃ (Z : Bool), L.zgzg.J2 j a i w Z = some r ∧ s = [(64, .v (.bool Z))] ∧ ob = [.arr B 32 6 1 [Network.row j.1], .arr t 39 4 1 [[.list 4 (a.2.2.1.map Valve.row), .list 1 (a.2.2.2.1.map rI), .list 1 (a.2.2.2.2.1.map rI), .list 1 (a.2.2.2.2.2.map rB)]], .arr D 37 3 1 [Plan.row i.1], .us G 54 7 (w.1.map Step.row)]) [(8, _), (9, _), (10, _), (12, _)] ⟨I, I, I, I, J⟩ ?_ ?_))
 rcases bt ((w.2 != 0)) with H | H
 replace h := ife_t H h
 refine AW.region (AO.q 3 I (AO.known 59 I H (AO.q 5 I (AO.nil ?_))))
 exact lg ⟨true, h, I, I⟩ [1, 2, 3, 4]
 replace h := ife_f H h
 obtain ⟨a5, a6, h⟩ := ob_some h
 refine AW.region (AO.q 3 I (AO.known 59 I H (AO.q 1 I (AO.gt I I I (AO.act [] I (AX.callL I (.refl _) I I (.cons (.us 4 I) (.rest _)) I (L.zrbl_ok _ _ a6) dS (by rintro _ _ ⟨rfl, _⟩; rfl) ?_))))))
 rintro _ ⟨_, rfl, -⟩
 refine AO.q 3 I (AO.nil ?_)
 exact lg ⟨decide (a5 > (wr (1 + (wr (F))))), h, I, I⟩ [1, 2, 3, 4]
 rintro s ob ⟨Z, h, rfl, rfl⟩
 unfold L.zgzg.J2 at h
 refine AW.ch h I ?_ ?_
 intro a7 h
 refine AW.z I (AW.ghost g0 ?_)
 obtain rfl := oi h
 exact AW.ret pr
 intro a7 h
 refine AW.skip ?_
 subst a4
 refine AW.seqG (fun cc a8 => (AW.region (AO.r 1 [.o 0 1] I ⟨I, J⟩ (AO.act [] I (AX.alloc (cs := [.N, .N, .N, .N]) (m := 4) I I I I I dS (fun K => (AO.act [4] I (AX.st 4 0 0 [[.list 4 (a.2.2.1.map Valve.row), .list 1 (a.2.2.2.1.map rI), .list 1 (a.2.2.2.2.1.map rI), .list 1 (a.2.2.2.2.2.map rB)]] I (AO.nil ?_)))))))))
 subst a8
 refine AW.cutX (fun s ob => ∃ (k : (List Valve) × (List Int) × (List Int) × (List Bool)), L.zgzg.J3 i k = some r ∧ s = [] ∧ ob = [.arr D 37 3 1 [Plan.row i.1], .arr K 39 4 1 [[.list 4 (k.1.map Valve.row), .list 1 (k.2.1.map rI), .list 1 (k.2.2.1.map rI), .list 1 (k.2.2.2.map rB)]]]) [(10, _), (14, _)] ⟨I, I, J⟩ ?_ ?_
 refine AW.z I (AW.block ?_)
 obtain ⟨cd, a9, aa⟩ := ob_some h
 clear h
 refine AW.loopX a9 [(8, _), (9, _), (10, _), (12, _), (14, _)] ⟨I, I, I, I, I, J⟩ (fun (e : (List Valve) × (List Int) × (List Int) × (List Bool) × Int) s ob => s = [(15, .V e.2.2.2.2)] ∧ ob = [.arr B 32 6 1 [Network.row j.1], .arr t 39 4 1 [[.list 4 (a.2.2.1.map Valve.row), .list 1 (a.2.2.2.1.map rI), .list 1 (a.2.2.2.2.1.map rI), .list 1 (a.2.2.2.2.2.map rB)]], .arr D 37 3 1 [Plan.row i.1], .us G 54 7 (w.1.map Step.row), .arr K 39 4 1 [[.list 4 (e.1.map Valve.row), .list 1 (e.2.1.map rI), .list 1 (e.2.2.1.map rI), .list 1 (e.2.2.2.1.map rB)]]]) ⟨I, I⟩ ⟨I, J⟩ ⟨[0, 1, 2, 3, 4], I, by decide⟩ ?_
 rintro e ai s ob ⟨rfl, rfl⟩ h ab
 unfold L.zgzg.B5 at h
 refine AW.seqG (fun ce ba => (AW.seq (AW.region (AO.q 2 I (AO.d (Yd.lenUM 3 I I I I) I (AO.q 1 I (AO.nil (AW.ch h I ?_ ?_))))))))
 intro bb h
 refine AW.skip ?_
 subst ba
 refine AW.cutX (fun s ob => ∃ (E : (List Valve) × (List Int) × (List Int) × (List Bool)), L.zgzg.J6 e E = some ai ∧ s = [] ∧ ob = [.arr B 32 6 1 [Network.row j.1], .arr t 39 4 1 [[.list 4 (a.2.2.1.map Valve.row), .list 1 (a.2.2.2.1.map rI), .list 1 (a.2.2.2.2.1.map rI), .list 1 (a.2.2.2.2.2.map rB)]], .arr D 37 3 1 [Plan.row i.1], .us G 54 7 (w.1.map Step.row), .arr K 39 4 1 [[.list 4 (E.1.map Valve.row), .list 1 (E.2.1.map rI), .list 1 (E.2.2.1.map rI), .list 1 (E.2.2.2.map rB)]]]) [(8, _), (9, _), (10, _), (12, _), (14, _), (15, _)] ⟨I, I, I, I, I, I, J⟩ ?_ ?_
 refine AW.block (AW.cutX (fun s ob => ∃ (b : (List Valve) × (List Int) × (List Int) × (List Bool) × Int) (ac : Nat), L.zgzg.J7 a i e b = some ai ∧ s = [(16, .v (.pointer (some ⟨ac, 0, none⟩))), (17, .V b.2.2.2.2)] ∧ ob = [.arr B 32 6 1 [Network.row j.1], .arr t 39 4 1 [[.list 4 (a.2.2.1.map Valve.row), .list 1 (a.2.2.2.1.map rI), .list 1 (a.2.2.2.2.1.map rI), .list 1 (a.2.2.2.2.2.map rB)]], .arr D 37 3 1 [Plan.row i.1], .us G 54 7 (w.1.map Step.row), .arr K 39 4 1 [[.list 4 (e.1.map Valve.row), .list 1 (e.2.1.map rI), .list 1 (e.2.2.1.map rI), .list 1 (e.2.2.2.1.map rB)]], .arr ac 39 4 1 [[.list 4 (b.1.map Valve.row), .list 1 (b.2.1.map rI), .list 1 (b.2.2.1.map rI), .list 1 (b.2.2.2.1.map rB)]]]) [(8, _), (9, _), (10, _), (12, _), (14, _), (15, _)] ⟨I, I, I, I, I, I, J⟩ ?_ ?_)
 obtain ⟨W, ⟨bc, ad⟩, h⟩ := ob_ix h
 obtain ⟨g, aj, h⟩ := ob_some h
 refine AW.form 3 W.1 I ad (fun bd => (AW.rd (.still 0 (.still 1 (.still 2 (.still 3 (.still 4 (.still 5 (.two 6 10 (.still 7 (.still 8 (.still 9 (.act 10 (.act 11 (.still 12 .nil)))))) (.act 6 (.still 7 (.still 8 (.still 9 (.act 11 (.still 12 .nil))))))))))))) [0, 4, 3] [_, _, _] I (AP.r 4 [.o 0 0, .o 1 1] I ⟨I, I, J⟩ (AP.op I (Yp.indexUf (m := W.1) I I I I I bd I bc ad) I (AP.o I (Yd.loadU 2 W.1 0 I I I (map_get ad) I (y := .agg (Step.row W.2)) I) I (AP.two ?_ ?_))))))
 refine AP.act [] I I I (AX.call0 I I I (L.zvix_ok _ _ _ _ aj) dS ?_)
 rintro _ _ ⟨rfl, rfl⟩
 refine AP.q 3 I (AP.act [] I I I (AX.alloc (cs := [.N, .N, .N, .N]) (m := 4) I I I I I dS (fun ae => (AP.act [5] I I I (AX.st 5 0 0 [Desk.row g.1] I (AP.q 1 I (AP.ofAO (AO.nil ?_))))))))
 exact lg ⟨(g.1.Valves, g.1.Plan.Rates, g.1.Plan.Ports, g.1.Plan.Pumps, g.2), ae, h, I, I⟩ [0, 1, 2, 3, 4, 5]
 refine AP.act [] I I I (AX.alloc (cs := [.N, .N, .N, .N]) (m := 4) I I I I I dS (fun ae => (AP.act [] I I I (AX.call0 I I I (L.zvix_ok _ _ _ _ aj) dS ?_))))
 rintro _ _ ⟨rfl, rfl⟩
 refine AP.q 3 I (AP.act [5] I I I (AX.st 5 0 0 [Desk.row g.1] I (AP.q 1 I (AP.ofAO (AO.nil ?_)))))
 exact lg ⟨(g.1.Valves, g.1.Plan.Rates, g.1.Plan.Ports, g.1.Plan.Pumps, g.2), ae, h, I, I⟩ [0, 1, 2, 3, 4, 5]
 rintro s ob ⟨b, ac, h, rfl, rfl⟩
 unfold L.zgzg.J7 at h
 refine AW.seqG (fun cf be => (AW.z I (AW.ch h I ?_ ?_)))
 intro bf h
 refine AW.z I ?_
 obtain rfl := ab _ (oi h).symm
 replace h := aa
 replace h := se_l h
 refine AW.ghost g0 ?_
 obtain rfl := oi h
 exact AW.ret pr
 intro bf h
 refine AW.skip ?_
 subst be
 refine AW.seqG (fun cg bg => (AW.region (AO.r 1 [.o 0 5] I ⟨I, J⟩ (AO.act [4] I (AX.st 4 0 0 [[.list 4 (b.1.map Valve.row), .list 1 (b.2.1.map rI), .list 1 (b.2.2.1.map rI), .list 1 (b.2.2.2.1.map rB)]] I (AO.nil ?_))))))
 subst bg
 refine AW.z I (AW.block ?_)
 obtain ⟨ci, bh, ak⟩ := ob_some h
 clear h
 refine AW.loopX bh [(8, _), (9, _), (10, _), (12, _), (14, _), (15, _)] ⟨I, I, I, I, I, I, J⟩ (fun (al : Int) s ob => s = [(18, .V al)] ∧ ob = [.arr B 32 6 1 [Network.row j.1], .arr t 39 4 1 [[.list 4 (a.2.2.1.map Valve.row), .list 1 (a.2.2.2.1.map rI), .list 1 (a.2.2.2.2.1.map rI), .list 1 (a.2.2.2.2.2.map rB)]], .arr D 37 3 1 [Plan.row i.1], .us G 54 7 (w.1.map Step.row), .arr K 39 4 1 [[.list 4 (b.1.map Valve.row), .list 1 (b.2.1.map rI), .list 1 (b.2.2.1.map rI), .list 1 (b.2.2.2.1.map rB)]]]) ⟨I, I⟩ ⟨I, J⟩ ⟨[0, 1, 2, 3, 4], I, by decide⟩ ?_
 rintro al cj s ob ⟨rfl, rfl⟩ h am
 unfold L.zgzg.B8 at h
 refine AW.seqG (fun ck bi => (AW.zr [.o 3 4, .l 4 (b.2.1.length : Int)] I ⟨len_m, I, J⟩ (AW.ch h I ?_ ?_)))
 intro bj h
 refine AW.skip ?_
 subst bi
 refine AW.seq (AW.block (AW.seqG (fun cl bk => ?_)))
 obtain ⟨M, ⟨bl, bm⟩, h⟩ := ob_ix h
 obtain ⟨O, ⟨bn, bo⟩, h⟩ := ob_ix h
 obtain ⟨P, ⟨bp, bq⟩, h⟩ := ob_ix h
 refine AW.dt (pd 20 0 []) [4, 1, 2] [_, _, _] [.o 2 0, .x 4 M.1 (rI M.2), .o 8 1, .x 10 O.1 (rI O.2), .o 13 2, .x 15 P.1 (rI P.2)] I I ⟨⟨bp, map_get bq⟩, I, ⟨bn, map_get bo⟩, I, ⟨bl, map_get bm⟩, I, J⟩ ?_
 subst bk
 refine AW.jb 121 (decide (M.2 > (max (max 0 O.2) P.2)) || decide (M.2 < (min (min 0 O.2) P.2))) ?_ ?_
 refine AW.region (AO.q 3 I (AO.p (Yp.maxI3 I I I) I (AO.q 2 I ?_)))
 rcases bt (decide (M.2 > (max (max 0 O.2) P.2))) with Q | Q
 refine AO.known 115 I Q (AO.q 6 I (AO.nil ?_))
 exact jf (by simp only [Q, bz]) I I ⟨I, I⟩
 refine AO.known 115 I Q (AO.q 3 I (AO.gt I I I (AO.p (Yp.minI3 I I I) I (AO.q 2 I (AO.nil ?_)))))
 exact jf (by simp only [Q, bz]) I I ⟨I, I⟩
 refine AW.ch h I ?_ ?_
 intro br h
 refine AW.z I ?_
 obtain rfl := am _ (oi h).symm
 replace h := ak
 replace h := se_l h
 obtain rfl := ab _ (oi h).symm
 replace h := aa
 replace h := se_l h
 refine AW.ghost g0 ?_
 obtain rfl := oi h
 exact AW.ret pr
 intro br h
 refine AW.skip (AW.region (AO.q 3 I ?_))
 obtain rfl := oi h
 refine AO.nil ?_
 exact ⟨_, _, _, I, ⟨I, I⟩, ⟨I, I, I, I, I, I, I, J⟩, [0, 1, 2, 3, 4], I, by decide⟩
 intro bj h
 obtain rfl := am _ (oi h).symm
 replace h := ak
 replace h := se_r h
 refine AW.exit ?_
 exact lg ⟨(b.1, b.2.1, b.2.2.1, b.2.2.2.1), h, I, I⟩ [0, 1, 2, 3, 4]
 rintro s ob ⟨E, h, rfl, rfl⟩
 unfold L.zgzg.J6 at h
 refine AW.region (AO.q 3 I ?_)
 obtain rfl := oi h
 refine AO.nil ?_
 exact ⟨_, _, _, I, ⟨I, I⟩, ⟨I, I, I, I, I, I, J⟩, [0, 1, 2, 3, 4], I, by decide⟩
 intro bb h
 obtain rfl := ab _ (oi h).symm
 replace h := aa
 replace h := se_r h
 refine AW.exit ?_
 exact lg ⟨(e.1, e.2.1, e.2.2.1, e.2.2.2.1), h, I, I⟩ [2, 4]
 rintro s ob ⟨k, h, rfl, rfl⟩
 unfold L.zgzg.J3 at h
 refine AW.cutX (fun s ob => ∃ (af : Bool), L.zgzg.J4 af = some r ∧ s = [(6, .v (.bool af))] ∧ ob = []) [] J ?_ ?_
 obtain ⟨bs, bu, h⟩ := ob_some h
 refine AW.region (AO.q 1 I (AO.d (Yd.loadO 1 0 1 I I I I I (y := .agg [.list 1 (k.2.1.map rI), .list 1 (k.2.2.1.map rI), .list 1 (k.2.2.2.map rB)]) I) I (AO.r 1 [.o 0 0] I ⟨I, J⟩ (AO.c (L.zwbu_ok _ _ _ bu) (AO.q 1 I ?_)))))
 rcases bt (bs) with R | R
 replace h := ife_t R h
 obtain ⟨bv, bw, h⟩ := ob_some h
 refine AO.known 126 I R (AO.gt I I I (AO.c (L.zgom_ok  _ bw) (AO.q 2 I (AO.nil ?_))))
 exact lg ⟨bv, h, I, I⟩ []
 replace h := ife_f R h
 refine AO.known 126 I R (AO.q 3 I (AO.nil ?_))
 exact lg ⟨false, h, I, I⟩ []
 rintro s ob ⟨af, h, rfl, rfl⟩
 unfold L.zgzg.J4 at h
 obtain rfl := oi h
 exact AW.ret pr
end Go.Proofs.YtmaamhgjeampmaaGreat
