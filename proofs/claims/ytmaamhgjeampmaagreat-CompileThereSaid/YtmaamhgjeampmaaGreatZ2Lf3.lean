/- Walks that show what functions of the program compute; printed by a program of ours. No condition. -/
import Derived.Test.YtmaamhgjeampmaaGreatZ2Lf2
set_option maxRecDepth 100000
namespace Go.Proofs.YtmaamhgjeampmaaGreat
open Go.Aw
set_option linter.unusedVariables false
set_option linter.unusedSimpArgs false
set_option maxHeartbeats 4000000
theorem L.zmdc_ok (a : List Int) (b : List Int) (r : Bool) (h : L.zmdc a b = some r) : ACalls Tryz.env 66 [.list 1 (a.map rI), .list 1 (b.map rI)] [] (fun x new => x = .v (.bool r) ∧ new = []) := by
 refine ACalls.of_body Tryz.func66 rfl rfl rfl (fun C hC => ?_)
 unfold L.zmdc at h
 refine AW.z I (AW.seqG (fun A j => (AW.zr [.l 1 (a.length : Int), .l 3 (b.length : Int)] I ⟨len_m, len_m, J⟩ (AW.ch h I ?_ ?_))))
 intro k h
 refine AW.z I ?_
 obtain rfl := oi h
 exact AW.ret pr
 intro k h
 refine AW.skip ?_
 subst j
 refine AW.cutX (fun s ob => ∃ (c : Unit), L.zmdc.J1 c = some r ∧ s = [] ∧ ob = []) [] J ?_ ?_
 refine AW.z I (AW.block ?_)
 obtain ⟨B, m, d⟩ := ob_some h
 clear h
 refine AW.loopX m [(0, _), (1, _)] ⟨I, I, J⟩ (fun (e : Int) s ob => s = [(5, .V e)] ∧ ob = []) ⟨I, I⟩ ⟨I, J⟩ ⟨[], I, by decide⟩ ?_
 rintro e D s ob ⟨rfl, rfl⟩ h f
 unfold L.zmdc.B2 at h
 refine AW.seqG (fun E n => (AW.zr [.l 2 (a.length : Int)] I ⟨len_m, J⟩ (AW.ch h I ?_ ?_)))
 intro o h
 refine AW.skip ?_
 subst n
 refine AW.seq (AW.block (AW.seq ?_))
 obtain ⟨g, ⟨p, t⟩, h⟩ := ob_ix h
 obtain ⟨i, ⟨u, w⟩, h⟩ := ob_ix h
 refine AW.dt (pd 9 0 []) [] [] [.x 2 g.1 (rI g.2), .x 6 i.1 (rI i.2)] I I ⟨⟨u, map_get w⟩, ⟨p, map_get t⟩, J⟩ (AW.ch h I ?_ ?_)
 intro y h
 refine AW.z I ?_
 obtain rfl := f _ (oi h).symm
 replace h := d
 replace h := se_l h
 obtain rfl := oi h
 exact AW.ret pr
 intro y h
 refine AW.skip (AW.region (AO.q 3 I ?_))
 obtain rfl := oi h
 refine AO.nil ?_
 exact ⟨_, _, _, I, ⟨I, I⟩, ⟨I, I, I, J⟩, [], I, by decide⟩
 intro o h
 obtain rfl := f _ (oi h).symm
 replace h := d
 replace h := se_r h
 refine AW.exit ?_
 exact lg ⟨(), h, I, I⟩ []
 rintro s ob ⟨c, h, rfl, rfl⟩
 unfold L.zmdc.J1 at h
 refine AW.z I ?_
 obtain rfl := oi h
 exact AW.ret pr
theorem L.zygm_ok (a : List Bool) (b : List Bool) (r : Bool) (h : L.zygm a b = some r) : ACalls Tryz.env 67 [.list 1 (a.map rB), .list 1 (b.map rB)] [] (fun x new => x = .v (.bool r) ∧ new = []) := by
 refine ACalls.of_body Tryz.func67 rfl rfl rfl (fun C hC => ?_)
 unfold L.zygm at h
 refine AW.z I (AW.seqG (fun A j => (AW.zr [.l 1 (a.length : Int), .l 3 (b.length : Int)] I ⟨len_m, len_m, J⟩ (AW.ch h I ?_ ?_))))
 intro k h
 refine AW.z I ?_
 obtain rfl := oi h
 exact AW.ret pr
 intro k h
 refine AW.skip ?_
 subst j
 refine AW.cutX (fun s ob => ∃ (c : Unit), L.zygm.J1 c = some r ∧ s = [] ∧ ob = []) [] J ?_ ?_
 refine AW.z I (AW.block ?_)
 obtain ⟨B, m, d⟩ := ob_some h
 clear h
 refine AW.loopX m [(0, _), (1, _)] ⟨I, I, J⟩ (fun (e : Int) s ob => s = [(5, .V e)] ∧ ob = []) ⟨I, I⟩ ⟨I, J⟩ ⟨[], I, by decide⟩ ?_
 rintro e D s ob ⟨rfl, rfl⟩ h f
 unfold L.zygm.B2 at h
 refine AW.seqG (fun E n => (AW.zr [.l 2 (a.length : Int)] I ⟨len_m, J⟩ (AW.ch h I ?_ ?_)))
 intro o h
 refine AW.skip ?_
 subst n
 refine AW.seq (AW.block (AW.seq ?_))
 obtain ⟨g, ⟨p, t⟩, h⟩ := ob_ix h
 obtain ⟨i, ⟨u, w⟩, h⟩ := ob_ix h
 refine AW.rd (pd 9 0 []) [] [] I (AP.r 8 [.x 2 g.1 (rB g.2), .x 6 i.1 (rB i.2)] I ⟨⟨u, map_get w⟩, ⟨p, map_get t⟩, J⟩ (AP.op I (Yp.neqB I I I I) I (AP.ofAO (AO.nil (AW.ch h I ?_ ?_)))))
 intro y h
 refine AW.z I ?_
 obtain rfl := f _ (oi h).symm
 replace h := d
 replace h := se_l h
 obtain rfl := oi h
 exact AW.ret pr
 intro y h
 refine AW.skip (AW.region (AO.q 3 I ?_))
 obtain rfl := oi h
 refine AO.nil ?_
 exact ⟨_, _, _, I, ⟨I, I⟩, ⟨I, I, I, J⟩, [], I, by decide⟩
 intro o h
 obtain rfl := f _ (oi h).symm
 replace h := d
 replace h := se_r h
 refine AW.exit ?_
 exact lg ⟨(), h, I, I⟩ []
 rintro s ob ⟨c, h, rfl, rfl⟩
 unfold L.zygm.J1 at h
 refine AW.z I ?_
 obtain rfl := oi h
 exact AW.ret pr
theorem L.zwbu_ok (d : Plan) (e : Plan) (r : Bool) (h : L.zwbu d e = some r) : ACalls Tryz.env 19 [.agg (Plan.row d), .agg (Plan.row e)] [] (fun x new => x = .v (.bool r) ∧ new = []) := by
 refine ACalls.of_body Tryz.func19 rfl rfl rfl (fun C hC => ?_)
 unfold L.zwbu at h
 refine AW.seqG (fun t i => (AW.region (AO.act [] I (AX.box (cs := Plan.row d) (m := 3) I I I dS (fun u => (AO.act [] I (AX.box (cs := Plan.row e) (m := 3) I I I dS (fun w => (AO.q 1 I (AO.nil ?_))))))))))
 subst i
 refine AW.cutX (fun s ob => ∃ (f : Bool), L.zwbu.J1 f = some r ∧ s = [(4, .v (.bool f))] ∧ ob = []) [] J ?_ ?_
 obtain ⟨j, k, h⟩ := ob_some h
 refine AW.region (AO.r 4 [.o 1 0, .o 3 1] I ⟨I, I, J⟩ (AO.c (L.zmdc_ok _ _ _ k) (AO.q 1 I ?_)))
 rcases bt (j) with a | a
 replace h := ife_t a h
 obtain ⟨l, g, h⟩ := ob_some h
 refine AO.known 10 I a ?_
 rcases bt (l) with b | b
 replace h := ife_t b h
 obtain ⟨n, p, h⟩ := ob_some h
 refine AO.r 4 [.o 1 0, .o 3 1] I ⟨I, I, J⟩ (AO.gt I I I (AO.c (L.zmdc_ok _ _ _ g) (AO.q 2 I (AO.known 17 I b (AO.r 4 [.o 1 0, .o 3 1] I ⟨I, I, J⟩ (AO.gt I I I (AO.c (L.zygm_ok _ _ _ p) (AO.q 2 I (AO.nil ?_)))))))))
 exact lg ⟨n, h, I, I⟩ []
 replace h := ife_f b h
 refine AO.r 4 [.o 1 0, .o 3 1] I ⟨I, I, J⟩ (AO.gt I I I (AO.c (L.zmdc_ok _ _ _ g) (AO.q 2 I (AO.known 17 I b (AO.q 7 I (AO.nil ?_))))))
 exact lg ⟨false, h, I, I⟩ []
 replace h := ife_f a h
 refine AO.known 10 I a (AO.q 14 I (AO.nil ?_))
 exact lg ⟨false, h, I, I⟩ []
 rintro s ob ⟨f, h, rfl, rfl⟩
 unfold L.zwbu.J1 at h
 obtain rfl := oi h
 exact AW.ret pr
theorem L.zdgb_ok (H : List Int) (r : Bool) (h : L.zdgb H = some r) : ACalls Tryz.env 5 [.list 1 (H.map rI)] [] (fun x new => x = .v (.bool r) ∧ new = []) := by
 refine ACalls.of_body Tryz.func5 rfl rfl rfl (fun C hC => ?_)
 unfold L.zdgb at h
 refine AW.z I (AW.seqG (fun y2 Y => (AW.seq (AW.region (AO.q 1 I (AO.c (L.zqaf_ok H _ I) (AO.q 1 I (AO.nil (AW.ch h I ?_ ?_)))))))))
 intro Z h
 refine AW.seq ?_
 obtain ⟨r4, aa, h⟩ := ob_some h
 refine AW.region (AO.c (L.zgom_ok  _ aa) (AO.q 1 I (AO.nil ?_)))
 obtain rfl := oi h
 exact AW.ret pr
 intro Z h
 refine AW.skip ?_
 subst Y
 refine AW.seqG (fun y6 ab => ?_)
 obtain ⟨r7, ac, h⟩ := ob_some h
 refine AW.region (AO.q 1 I (AO.act [] I (AX.call0 I I I (L.ziti_ok _ _ ac) dS ?_)))
 rintro _ _ ⟨e, rfl, rfl⟩
 refine AO.q 1 I (AO.nil ?_)
 subst ab
 refine AW.seqG (fun a5 ad => ?_)
 obtain ⟨p, ae, h⟩ := ob_some h
 refine AW.region (AO.q 1 I (AO.act [0] I (AX.c0 [0] (L.zeju_ok e _ _ ae) ?_)))
 refine AO.act [] I (AX.alloc (cs := [.N, .N, .N, .N, .V 0, .V 0]) (m := 6) I I I I I dS (fun M => (AO.act [1] I (AX.st 1 0 0 [Network.row p.1] I (AO.nil ?_)))))
 subst ad
 refine AW.cutX (fun s ob => ∃ (a : (List Int) × Int × (List Valve) × (List Int) × (List Int) × (List Bool)) (t : Nat), L.zdgb.J1 p a = some r ∧ s = [(5, .v (.pointer (some ⟨t, 0, none⟩)))] ∧ ob = [.arr e 88 2 1 [[.list 1 (a.1.map rI), .V a.2.1]], .arr M 32 6 1 [Network.row p.1], .arr t 39 4 1 [[.list 4 (a.2.2.1.map Valve.row), .list 1 (a.2.2.2.1.map rI), .list 1 (a.2.2.2.2.1.map rI), .list 1 (a.2.2.2.2.2.map rB)]]]) [(3, _), (4, _)] ⟨I, I, J⟩ ?_ ?_
 obtain ⟨a6, S, h⟩ := ob_some h
 obtain ⟨U, O, h⟩ := ob_some h
 obtain ⟨i, E, h⟩ := ob_some h
 refine AW.rd (.still 0 (.still 1 (.still 2 (.still 3 (.two 4 7 (.two 5 7 (.two 6 7 (.act 7 (.act 8 .nil)) (.act 6 (.act 8 .nil))) (.act 5 (.act 6 (.act 8 .nil)))) (.act 4 (.act 5 (.act 6 (.act 8 .nil))))))))) [1] [_] I (AP.r 4 [.o 1 0, .o 3 0] I ⟨I, I, J⟩ (AP.two ?_ ?_))
 refine AP.act [0] I I I (AX.c0 [0] (L.zhma_ok e _ _ _ S) ?_)
 refine AP.two ?_ ?_
 refine AP.act [0] I I I (AX.c0 [0] (L.zrqy_ok e _ _ _ _ O) ?_)
 refine AP.two ?_ ?_
 refine AP.act [] I I I (AX.call0 I I I (L.zqyk_ok _ _ E) dS ?_)
 rintro _ _ ⟨rfl, rfl⟩
 refine AP.act [] I I I (AX.alloc (cs := [.N, .N, .N, .N]) (m := 4) I I I I I dS (fun F => (AP.act [2] I I I (AX.st 2 0 0 [Desk.row i] I (AP.ofAO (AO.nil ?_))))))
 rotate_left
 refine AP.act [] I I I (AX.alloc (cs := [.N, .N, .N, .N]) (m := 4) I I I I I dS (fun F => (AP.act [] I I I (AX.call0 I I I (L.zqyk_ok _ _ E) dS ?_))))
 rintro _ _ ⟨rfl, rfl⟩
 refine AP.act [2] I I I (AX.st 2 0 0 [Desk.row i] I (AP.ofAO (AO.nil ?_)))
 rotate_left
 refine AP.act [] I I I (AX.alloc (cs := [.N, .N, .N, .N]) (m := 4) I I I I I dS (fun F => (AP.act [0] I I I (AX.c0 [0] (L.zrqy_ok e _ _ _ _ O) ?_))))
 refine AP.act [] I I I (AX.call0 I I I (L.zqyk_ok _ _ E) dS ?_)
 rintro _ _ ⟨rfl, rfl⟩
 refine AP.act [2] I I I (AX.st 2 0 0 [Desk.row i] I (AP.ofAO (AO.nil ?_)))
 rotate_left
 refine AP.act [] I I I (AX.alloc (cs := [.N, .N, .N, .N]) (m := 4) I I I I I dS (fun F => (AP.act [0] I I I (AX.c0 [0] (L.zhma_ok e _ _ _ S) ?_))))
 refine AP.act [0] I I I (AX.c0 [0] (L.zrqy_ok e _ _ _ _ O) ?_)
 refine AP.act [] I I I (AX.call0 I I I (L.zqyk_ok _ _ E) dS ?_)
 rintro _ _ ⟨rfl, rfl⟩
 refine AP.act [2] I I I (AX.st 2 0 0 [Desk.row i] I (AP.ofAO (AO.nil ?_)))
 any_goals
  exact lg ⟨(U.2.L_, U.2.At, i.Valves, i.Plan.Rates, i.Plan.Ports, i.Plan.Pumps), F, h, I, I⟩ [0, 1, 2]
 rintro s ob ⟨a, t, h, rfl, rfl⟩
 unfold L.zdgb.J1 at h
 refine AW.seqG (fun a7 af => ?_)
 obtain ⟨u, ag, h⟩ := ob_some h
 refine AW.region (AO.r 2 [.o 1 1] I ⟨I, J⟩ (AO.act [0] I (AX.c0 [0] (L.zhma_ok e _ _ _ ag) ?_)))
 refine AO.act [] I (AX.alloc (cs := [.N, .N, .N]) (m := 3) I I I I I dS (fun W => (AO.act [3] I (AX.st 3 0 0 [Plan.row u.1] I (AO.nil ?_)))))
 subst af
 refine AW.seqG (fun a8 ah => ?_)
 obtain ⟨w, ai, h⟩ := ob_some h
 refine AW.region (AO.r 3 [.o 0 1, .o 1 2, .o 2 3] I ⟨I, I, I, J⟩ (AO.act [] I (AX.call0 I I I (L.zzjm_ok _ _ _ _ _ _ ai) dS ?_)))
 rintro _ _ ⟨aj, rfl, rfl⟩
 refine AO.q 5 I (AO.nil ?_)
 subst ah
 refine AW.seqG (fun a9 ak => ?_)
 obtain ⟨l, al, h⟩ := ob_some h
 refine AW.region (AO.r 3 [.o 0 1, .o 1 2] I ⟨I, I, J⟩ (AO.ghost (Ghost.freeze [4] (K := [.us aj 54 7 (w.1.map Step.row)]) I [(42, .list 7 (w.1.map Step.row)), (7, .list 7 (w.1.map Step.row)), (47, .list 7 (w.1.map Step.row))] ⟨⟨_, I, .us 0 I⟩, ⟨_, I, .us 0 I⟩, ⟨_, I, .us 0 I⟩, J⟩ (ob' := [.arr e 88 2 1 [KS.row u.2], .arr M 32 6 1 [Network.row p.1], .arr t 39 4 1 [[.list 4 (a.2.2.1.map Valve.row), .list 1 (a.2.2.2.1.map rI), .list 1 (a.2.2.2.2.1.map rI), .list 1 (a.2.2.2.2.2.map rB)]], .arr W 37 3 1 [Plan.row u.1]]) (.rest _)) (AO.act [] I (AX.call0 I I I (L.zoig_ok _ _ _ _ al) dS ?_))))
 rintro _ _ ⟨rfl, rfl⟩
 refine AO.q 4 I (AO.act [] I (AX.alloc (cs := [.N, .N, .N, .N]) (m := 4) I I I I I dS (fun am => (AO.act [4] I (AX.st 4 0 0 [Desk.row l.1] I (AO.q 2 I (AO.nil ?_)))))))
 subst ak
 refine AW.seqG (fun ba an => ?_)
 obtain ⟨P, ao, h⟩ := ob_some h
 refine AW.region (AO.r 3 [.o 0 1, .o 1 4, .o 2 3] I ⟨I, I, I, J⟩ (AO.act [] I (AX.call0 I I I (L.zzjm_ok _ _ _ _ _ _ ao) dS ?_)))
 rintro _ _ ⟨ap, rfl, rfl⟩
 refine AO.q 5 I (AO.nil ?_)
 subst an
 refine AW.seqG (fun bb aq => ?_)
 obtain ⟨A, ar, h⟩ := ob_some h
 refine AW.region (AO.r 3 [.o 0 1, .o 1 4] I ⟨I, I, J⟩ (AO.d (Yd.loadO 2 0 1 I I I I I (y := .agg [.list 1 (a.2.2.2.1.map rI), .list 1 (a.2.2.2.2.1.map rI), .list 1 (a.2.2.2.2.2.map rB)]) I) I (AO.act [] I (AX.call0 I I I (L.zzjm_ok _ _ _ _ _ _ ar) dS ?_))))
 rintro _ _ ⟨au, rfl, rfl⟩
 refine AO.q 5 I (AO.nil ?_)
 subst aq
 refine AW.seqG (fun bc av => ?_)
 obtain ⟨G, aw, h⟩ := ob_some h
 refine AW.region (AO.r 3 [.o 0 1, .o 1 4] I ⟨I, I, J⟩ (AO.ghost (Ghost.freeze [6] (K := [.us au 54 7 (A.1.map Step.row)]) I [(65, .list 7 (A.1.map Step.row)), (14, .list 7 (A.1.map Step.row)), (70, .list 7 (A.1.map Step.row))] ⟨⟨_, I, .us 0 I⟩, ⟨_, I, .us 0 I⟩, ⟨_, I, .us 0 I⟩, J⟩ (ob' := [.arr e 88 2 1 [KS.row u.2], .arr M 32 6 1 [Network.row p.1], .arr t 39 4 1 [[.list 4 (a.2.2.1.map Valve.row), .list 1 (a.2.2.2.1.map rI), .list 1 (a.2.2.2.2.1.map rI), .list 1 (a.2.2.2.2.2.map rB)]], .arr W 37 3 1 [Plan.row u.1], .arr am 39 4 1 [Desk.row l.1], .us ap 54 7 (P.1.map Step.row)]) (.rest _)) (AO.act [] I (AX.call0 I I I (L.zoig_ok _ _ _ _ aw) dS ?_))))
 rintro _ _ ⟨rfl, rfl⟩
 refine AO.q 4 I (AO.act [] I (AX.alloc (cs := [.N, .N, .N, .N]) (m := 4) I I I I I dS (fun bd => (AO.act [6] I (AX.st 6 0 0 [Desk.row G.1] I (AO.q 2 I (AO.nil ?_)))))))
 subst av
 refine AW.cutX (fun s ob => ∃ (Q : Bool), L.zdgb.J2 Q = some r ∧ s = [(2, .v (.bool Q))] ∧ ob = []) [] J ?_ ?_
 refine AW.region (AO.q 3 I ?_)
 rcases bt ((w.2 == 0)) with B | B
 replace h := ife_t B h
 refine AO.known 77 I B ?_
 rcases bt ((l.2.2 == 0)) with b | b
 replace h := ife_t b h
 rcases bt ((P.2 == 0)) with f | f
 replace h := ife_t f h
 rcases bt ((A.2 == 0)) with g | g
 replace h := ife_t g h
 rcases bt ((G.2.2 == 0)) with j | j
 replace h := ife_t j h
 rcases bt (((P.1.length : Int) == 0)) with k | k
 replace h := ife_t k h
 obtain ⟨ax, R, h⟩ := ob_some h
 rcases bt (ax) with n | n
 replace h := ife_t n h
 obtain ⟨ay, X, h⟩ := ob_some h
 rcases bt (ay) with D | D
 replace h := ife_t D h
 obtain ⟨az, a0, h⟩ := ob_some h
 refine AO.q 4 I (AO.known 81 I b (AO.q 4 I (AO.known 85 I f (AO.q 4 I (AO.known 89 I g (AO.q 4 I (AO.known 93 I j (AO.q 1 I (AO.gt I I I (AO.d (Yd.lenUM 5 I I I I) I (AO.q 3 I (AO.known 98 I k ?_))))))))))))
 refine AO.q 1 I (AO.gt I I I (AO.d (Yd.loadO 4 0 1 I I I I I (y := .agg (Plan.row l.1.Plan)) I) I (AO.r 1 [.o 0 3] I ⟨I, J⟩ (AO.gt I I I (AO.c (L.zwbu_ok _ _ _ R) (AO.q 2 I (AO.known 104 I n (AO.q 1 I (AO.gt I I I (AO.d (Yd.loadO 6 0 1 I I I I I (y := .agg (Plan.row G.1.Plan)) I) I (AO.q 1 I (AO.gt I I I ?_))))))))))))
 refine AO.d (Yd.loadO 2 0 1 I I I I I (y := .agg [.list 1 (a.2.2.2.1.map rI), .list 1 (a.2.2.2.2.1.map rI), .list 1 (a.2.2.2.2.2.map rB)]) I) I (AO.gt I I I (AO.c (L.zwbu_ok _ _ _ X) (AO.q 2 I (AO.known 111 I D (AO.gt I I I (AO.c (L.zgom_ok  _ a0) (AO.q 2 I (AO.nil ?_))))))))
 exact lg ⟨az, h, I, I⟩ []
 replace h := ife_f D h
 refine AO.q 4 I (AO.known 81 I b (AO.q 4 I (AO.known 85 I f (AO.q 4 I (AO.known 89 I g (AO.q 4 I (AO.known 93 I j (AO.q 1 I (AO.gt I I I (AO.d (Yd.lenUM 5 I I I I) I (AO.q 3 I (AO.known 98 I k ?_))))))))))))
 refine AO.q 1 I (AO.gt I I I (AO.d (Yd.loadO 4 0 1 I I I I I (y := .agg (Plan.row l.1.Plan)) I) I (AO.r 1 [.o 0 3] I ⟨I, J⟩ (AO.gt I I I (AO.c (L.zwbu_ok _ _ _ R) (AO.q 2 I (AO.known 104 I n (AO.q 1 I (AO.gt I I I (AO.d (Yd.loadO 6 0 1 I I I I I (y := .agg (Plan.row G.1.Plan)) I) I (AO.q 1 I (AO.gt I I I ?_))))))))))))
 refine AO.d (Yd.loadO 2 0 1 I I I I I (y := .agg [.list 1 (a.2.2.2.1.map rI), .list 1 (a.2.2.2.2.1.map rI), .list 1 (a.2.2.2.2.2.map rB)]) I) I (AO.gt I I I (AO.c (L.zwbu_ok _ _ _ X) (AO.q 2 I (AO.known 111 I D (AO.q 3 I (AO.nil ?_))))))
 exact lg ⟨false, h, I, I⟩ []
 replace h := ife_f n h
 refine AO.q 4 I (AO.known 81 I b (AO.q 4 I (AO.known 85 I f (AO.q 4 I (AO.known 89 I g (AO.q 4 I (AO.known 93 I j (AO.q 1 I (AO.gt I I I (AO.d (Yd.lenUM 5 I I I I) I (AO.q 3 I (AO.known 98 I k ?_))))))))))))
 refine AO.q 1 I (AO.gt I I I (AO.d (Yd.loadO 4 0 1 I I I I I (y := .agg (Plan.row l.1.Plan)) I) I (AO.r 1 [.o 0 3] I ⟨I, J⟩ (AO.gt I I I (AO.c (L.zwbu_ok _ _ _ R) (AO.q 2 I (AO.known 104 I n (AO.q 10 I (AO.nil ?_)))))))))
 exact lg ⟨false, h, I, I⟩ []
 replace h := ife_f k h
 refine AO.q 4 I (AO.known 81 I b (AO.q 4 I (AO.known 85 I f (AO.q 4 I (AO.known 89 I g (AO.q 4 I (AO.known 93 I j (AO.q 1 I (AO.gt I I I (AO.d (Yd.lenUM 5 I I I I) I (AO.q 3 I (AO.known 98 I k ?_))))))))))))
 refine AO.q 16 I (AO.nil ?_)
 exact lg ⟨false, h, I, I⟩ []
 replace h := ife_f j h
 refine AO.q 4 I (AO.known 81 I b (AO.q 4 I (AO.known 85 I f (AO.q 4 I (AO.known 89 I g (AO.q 4 I (AO.known 93 I j (AO.q 21 I (AO.nil ?_)))))))))
 exact lg ⟨false, h, I, I⟩ []
 replace h := ife_f g h
 refine AO.q 4 I (AO.known 81 I b (AO.q 4 I (AO.known 85 I f (AO.q 4 I (AO.known 89 I g (AO.q 25 I (AO.nil ?_)))))))
 exact lg ⟨false, h, I, I⟩ []
 replace h := ife_f f h
 refine AO.q 4 I (AO.known 81 I b (AO.q 4 I (AO.known 85 I f (AO.q 29 I (AO.nil ?_)))))
 exact lg ⟨false, h, I, I⟩ []
 replace h := ife_f b h
 refine AO.q 4 I (AO.known 81 I b (AO.q 33 I (AO.nil ?_)))
 exact lg ⟨false, h, I, I⟩ []
 replace h := ife_f B h
 refine AO.known 77 I B (AO.q 37 I (AO.nil ?_))
 exact lg ⟨false, h, I, I⟩ []
 rintro s ob ⟨Q, h, rfl, rfl⟩
 unfold L.zdgb.J2 at h
 obtain rfl := oi h
 exact AW.ret pr
end Go.Proofs.YtmaamhgjeampmaaGreat
