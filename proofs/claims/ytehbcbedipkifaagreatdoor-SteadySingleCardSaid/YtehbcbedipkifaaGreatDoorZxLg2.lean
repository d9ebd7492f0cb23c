/- Walks that show what functions of the program compute; printed by a program of ours. No condition. -/
import Derived.Test.YtehbcbedipkifaaGreatDoorZxLg1
set_option maxRecDepth 100000
namespace Go.Proofs.YtehbcbedipkifaaGreatDoor
open Go.Aw
set_option linter.unusedVariables false
set_option linter.unusedSimpArgs false
set_option maxHeartbeats 4000000
theorem L.zeyl_ok (p_0 : Product) (r : Arr Int 4) (h : L.zeyl p_0 = r) : ACalls Tryz.env 121 [.agg (Product.row p_0)] [] (fun x new => x = .agg (r.l.map cI) ∧ new = []) := by
 refine ACalls.of_body Tryz.func121 rfl rfl rfl (fun C hC => ?_)
 unfold L.zeyl at h
 refine AW.seqG (fun y1 hy1 => (AW.region (AO.act [] I (AX.box (cs := Product.row p_0) (m := 5) I I I dS (fun b2 => (AO.act [] I (AX.alloc (cs := [.V 0, .V 0, .V 0, .V 0]) (m := 4) I I I I I dS (fun b3 => (AO.nil ?_)))))))))
 subst hy1
 refine AW.seq (AW.region (AO.r 8 [.o 1 0, .o 3 0, .o 5 0, .o 7 0] I ⟨I, I, I, I, J⟩ (AO.p (Yp.buildA (l := [.V p_0.Density, .V p_0.Expansion, .V p_0.Compress, .V p_0.Friction]) I I I I I I) I (AO.act [1] I (AX.store 1 0 0 (es' := [[.V p_0.Density, .V p_0.Expansion, .V p_0.Compress, .V p_0.Friction]]) I I I I I I I I (le_ble I) I I (AO.nil (AW.ghost (Ghost.pick [1] (K := [.arr b3 172 4 1 [[.V p_0.Density, .V p_0.Expansion, .V p_0.Compress, .V p_0.Friction]]]) I (by decide)) ?_)))))))
 obtain rfl := h
 exact AW.ret ⟨.inr I, [_], [], ⟨⟨0, _, _, _, _, _, _, _, I, I, I, I, I⟩, J⟩, sl_n, I, I⟩
theorem L.zvqj_ok (p_0 : Product) (r : Bool) (h : L.zvqj p_0 = some r) : ACalls Tryz.env 81 [.agg (Product.row p_0)] [] (fun x new => x = .v (.bool r) ∧ new = []) := by
 refine ACalls.of_body Tryz.func81 rfl rfl rfl (fun C hC => ?_)
 unfold L.zvqj at h
 refine AW.seqG (fun y1 hy1 => (AW.region (AO.act [] I (AX.box (cs := Product.row p_0) (m := 5) I I I dS (fun b2 => (AO.q 1 I (AO.nil ?_)))))))
 subst hy1
 refine AW.seqG (fun y3 hy3 => (AW.region (AO.r 1 [.o 0 0] I ⟨I, J⟩ (AO.act [] I (AX.call0 I I I (L.zeyl_ok p_0 _ I) dS ?_)))))
 rintro _ _ ⟨rfl, rfl⟩
 refine AO.act [] I (AX.alloc (cs := [.V 0, .V 0, .V 0, .V 0]) (m := 4) I I I I I dS (fun b4 => (AO.act [1] I (AX.store 1 0 0 (es' := [(L.zeyl p_0).l.map cI]) I I I I I I I (by simp [Arr.h, flow_streams.row]) (by simp [Arr.h, flow_streams.row]) I (congrArg (fun r => [r]) (setC_all (by simp [Arr.h, flow_streams.row]))) (AO.nil ?_)))))
 subst hy3
 refine AW.cutX (fun s ob => ∃ (j36 : Unit), L.zvqj.J1 p_0 j36 = some r ∧ s = [] ∧ ob = [.arr b2 46 5 1 [Product.row p_0]]) [(1, _)] ⟨I, J⟩ ?_ ?_
 refine AW.seqG (fun y39 hy39 => (AW.region (AO.act [] I (AX.loadG (cs := ([⟨400, 1200⟩, ⟨0, 2000⟩, ⟨0, 5000⟩, ⟨1, 2000⟩] : List product_span).flatMap product_span.row) (y := .agg (([⟨400, 1200⟩, ⟨0, 2000⟩, ⟨0, 5000⟩, ⟨1, 2000⟩] : List product_span).flatMap product_span.row)) (List.mem_singleton.2 I) I I dS (AO.q 1 I (AO.nil ?_))))))
 subst hy39
 refine AW.block ?_
 have hm42 : (4 : Nat) ≤ 9223372036854775806 := by decide
 obtain ⟨o68, hL69, hR70⟩ := ob_some h
 clear h
 refine AW.forIX hL69 [(1, _), (3, _), (8, _)] ⟨I, I, I, J⟩ (fun (k40 : Nat) (st56 : Unit) s ob => s = [(9, .V (k40 : Int))] ∧ ob = [.arr b2 46 5 1 [Product.row p_0], .arr b4 172 4 1 [(L.zeyl p_0).l.map cI]]) ⟨I, I⟩ ⟨I, J⟩ ⟨[0, 1], I, by decide⟩ ?_ ?_
 rintro k40 st56 r72 s ob hk41 ⟨rfl, rfl⟩ h hb71
 unfold L.zvqj.B2 at h
 have hk41t : decide ((k40 : Int) < 4) = true := decide_eq_true (by omega)
 refine AW.z I (AW.seqG (fun y74 hy74 => (AW.condK (v := true) I hk41t (AW.skip ?_))))
 subst hy74
 refine AW.seq (AW.block (AW.seqG (fun y75 hy75 => ?_)))
 obtain ⟨p76, hp77, h⟩ := ob_some h
 obtain ⟨hp77i, hp77x⟩ := ix_some hp77
 refine AW.region (AO.q 1 I (AO.p (Yp.indexAgR (m := p76.1) (l := ([⟨400, 1200⟩, ⟨0, 2000⟩, ⟨0, 5000⟩, ⟨1, 2000⟩] : List product_span)) (row := product_span.row) I I I I I (fun _ => I) I I hp77i hp77x) I (AO.act [] I (AX.alloc (cs := [.V 0, .V 0]) (m := 2) I I I I I dS (fun b78 => (AO.q 1 I (AO.act [2] I (AX.store 2 0 0 (es' := [product_span.row p76.2]) I I I I I I I I (le_ble I) I I (AO.nil ?_)))))))))
 subst hy75
 refine AW.cutX (fun s ob => ∃ (j82 : Bool), L.zvqj.J3 j82 = some r72 ∧ s = [(26, .v (.bool j82))] ∧ ob = [.arr b2 46 5 1 [Product.row p_0], .arr b4 172 4 1 [(L.zeyl p_0).l.map cI]]) [(1, _), (3, _), (8, _), (9, _)] ⟨I, I, I, I, J⟩ ?_ ?_
 obtain ⟨p84, hp85, h⟩ := ob_some h
 obtain ⟨hp85i, hp85x⟩ := ix_some hp85
 refine AW.rd (pd 14 0 []) [1, 2] [_, _] I (AP.q 1 I (AP.op I (Yp.indexA1 (m := p84.1) I I I I I I hp85i (arr_lt hp85x)) I (AP.o I (Yd.loadO 0 0 (0 + p84.1) I I I I (by omega) (y := .V p84.2) (by rw [Nat.zero_add]; exact map_get hp85x)) I (AP.r 4 [.o 1 1] I ⟨I, J⟩ ?_))))
 rcases bt (decide (p84.2 < p76.2.least)) with hg86 | hg86
 replace h := ife_t hg86 h
 refine AP.known 19 I hg86 (AP.q 7 I (AP.ofAO (AO.nil ?_)))
 exact lg ⟨true, h, I, I⟩ [0, 1]
 replace h := ife_f hg86 h
 refine AP.known 19 I hg86 (AP.q 1 I (AP.oldG I I I I ((Yp.indexA1 (m := p84.1) I I I I I I hp85i (arr_lt hp85x)).yd) dS (AP.oldG I I I I (Yd.loadO 0 0 (0 + p84.1) I I I I (by omega) (y := .V p84.2) (by rw [Nat.zero_add]; exact map_get hp85x)) dS (AP.r 4 [.o 1 1] I ⟨I, J⟩ (AP.ofAO (AO.nil ?_))))))
 exact lg ⟨decide (p84.2 > p76.2.most), h, I, I⟩ [0, 1]
 rintro s ob ⟨j82, h, rfl, rfl⟩
 unfold L.zvqj.J3 at h
 refine AW.ch h I ?_ ?_
 intro hc83 h
 refine AW.z I ?_
 obtain rfl := hb71 _ (oi h).symm
 replace h := hR70
 replace h := se_r h
 refine AW.ghost g0 ?_
 obtain rfl := oi h
 exact AW.ret pr
 intro hc83 h
 refine AW.skip (AW.region (AO.r 2 [.k 0 (k40 + 1 : Nat)] I ⟨cast_wr hk41 hm42, J⟩ ?_))
 obtain rfl := oi h
 refine AO.nil ?_
 exact ⟨_, _, _, I, ⟨I, I⟩, ⟨I, I, I, I, J⟩, [0, 1], I, by decide⟩
 rintro st56 s ob ⟨rfl, rfl⟩ he
 subst he
 have h := se_l hR70
 have hk41f : decide (((4 : Nat) : Int) < 4) = false := by simp
 refine AW.z I (AW.seqG (fun y88 hy88 => (AW.condK (v := false) I hk41f (AW.exit ?_))))
 exact lg ⟨(), h, I, I⟩ [0]
 rintro s ob ⟨j36, h, rfl, rfl⟩
 unfold L.zvqj.J1 at h
 refine AW.seq ?_
 obtain ⟨r37, hx38, h⟩ := ob_some h
 refine AW.region (AO.r 2 [.o 1 0] I ⟨I, J⟩ (AO.c (L.zcvq_ok _ _ hx38) (AO.q 1 I (AO.nil (AW.ghost g0 ?_)))))
 obtain rfl := oi h
 exact AW.ret pr
theorem L.zmqg_ok (s_0 : List Product) (F1 : T) {f1 : FuncId} {p1 s1 : List T} (h1 : fnT F1 = some (f1, p1, s1)) (g1 : Product → Option Bool) (hg1 : ∀ (y0 : Product) r, g1 y0 = some r → ACalls Tryz.env f1 (p1 ++ [.agg (Product.row y0)] ++ s1) [] (fun x new => x = .v (.bool r) ∧ new = [])) (r : Int) (h : L.zmqg s_0 g1 = some r) : ACalls Tryz.env 122 [.list 5 (s_0.map Product.row), F1] [] (fun x new => x = .V r ∧ new = []) := by
 refine ACalls.of_body Tryz.func122 rfl rfl rfl (fun C hC => ?_)
 unfold L.zmqg at h
 refine AW.z I (AW.cutX (fun s ob => ∃ (j24 : Unit), L.zmqg.J1 j24 = some r ∧ s = [] ∧ ob = []) [] J ?_ ?_)
 refine AW.zr [.l 1 (s_0.length : Int)] I ⟨len_m, J⟩ (AW.block (AW.listMax 6 I (fun hm28 => ?_)))
 replace hm28 : s_0.length ≤ 9223372036854775806 := by rw [List.length_map] at hm28; omega
 obtain ⟨o45, hL46, hR47⟩ := ob_some h
 clear h
 refine AW.forX hL46 [(0, _), (1, _), (7, _)] ⟨I, I, I, J⟩ (fun (k26 : Nat) (st38 : Unit) s ob => s = [(8, .V (k26 : Int))] ∧ ob = []) ⟨I, I⟩ ⟨I, J⟩ ⟨[], I, by decide⟩ ?_ ?_
 rintro k26 x29 st38 r49 s ob hx30 hk27 ⟨rfl, rfl⟩ h hb48
 unfold L.zmqg.B2 at h
 have hk27t : decide ((k26 : Int) < (s_0.length : Int)) = true := decide_eq_true (by omega)
 refine AW.z I (AW.seqG (fun y51 hy51 => (AW.condK (v := true) I hk27t (AW.skip ?_))))
 subst hy51
 refine AW.seq (AW.block (AW.z I (AW.seq ?_)))
 obtain ⟨r53, hx54, h⟩ := ob_some h
 refine AW.region (AO.r 5 [.x 3 k26 (Product.row x29)] I ⟨⟨I, map_get hx30⟩, J⟩ (AO.act [] I (AX.callL I (.refl _) h1 I (.rest _) I (hg1 _ _ hx54) dS (by rintro _ _ ⟨rfl, _⟩; rfl) ?_)))
 rintro _ ⟨_, rfl, -⟩
 refine AO.nil (AW.ch h I ?_ ?_)
 intro hc55 h
 refine AW.z I ?_
 obtain rfl := hb48 _ (oi h).symm
 replace h := hR47
 replace h := se_r h
 obtain rfl := oi h
 exact AW.ret pr
 intro hc55 h
 refine AW.skip (AW.region (AO.r 2 [.k 0 (k26 + 1 : Nat)] I ⟨cast_wr hk27 hm28, J⟩ ?_))
 obtain rfl := oi h
 refine AO.nil ?_
 exact ⟨_, _, _, I, ⟨I, I⟩, ⟨I, I, I, I, J⟩, [], I, by decide⟩
 rintro st38 s ob ⟨rfl, rfl⟩ he
 subst he
 have h := se_l hR47
 have hk27f : decide (((s_0.length : Nat) : Int) < (s_0.length : Int)) = false := by simp
 refine AW.z I (AW.seqG (fun y57 hy57 => (AW.condK (v := false) I hk27f (AW.exit ?_))))
 exact lg ⟨(), h, I, I⟩ []
 rintro s ob ⟨j24, h, rfl, rfl⟩
 unfold L.zmqg.J1 at h
 refine AW.z I ?_
 obtain rfl := oi h
 exact AW.ret pr
theorem L.zlbl_ok (p_0 : Product) (a_1 : ByteArray) (r : Bool) (h : L.zlbl p_0 a_1 = r) : ACalls Tryz.env 123 [.agg (Product.row p_0), .eptr (rS a_1)] [] (fun x new => x = .v (.bool r) ∧ new = []) := by
 refine ACalls.of_body Tryz.func123 rfl rfl rfl (fun C hC => ?_)
 unfold L.zlbl at h
 refine AW.seq (AW.region (AO.act [] I (AX.box (cs := Product.row p_0) (m := 5) I I I dS (fun b1 => (AO.q 1 I (AO.nil (AW.seq (AW.region (AO.r 3 [.o 1 0] I ⟨I, J⟩ (AO.p (Yp.cmpS (c := sEq p_0.Name a_1) I I I) I (AO.q 1 I (AO.nil (AW.ghost g0 ?_)))))))))))))
 obtain rfl := h
 exact AW.ret pr
theorem L.zwbj_ok (l_0 : List Product) (name_1 : ByteArray) (r : Int) (h : L.zwbj l_0 name_1 = some r) : ACalls Tryz.env 82 [.list 5 (l_0.map Product.row), .v (.string name_1)] [] (fun x new => x = .V r ∧ new = []) := by
 refine ACalls.of_body Tryz.func82 rfl rfl rfl (fun C hC => ?_)
 unfold L.zwbj at h
 refine AW.seq (AW.region (AO.act [] I (AX.box (cs := [.v (.string name_1)]) (m := 1) I I I dS (fun b1 => (AO.q 1 I (AO.nil (AW.seq ?_)))))))
 obtain ⟨r2, hx3, h⟩ := ob_some h
 refine AW.region (AO.q 1 I (AO.p (Yp.makeFunc I I) I (AO.act [] I (AX.callL I (.refl _) I I (.cons (.refl _) (.cons (.fn (.rest _) (.cons (.box 0 I (.rest _)) (.rest _))) (.rest _))) I (L.zmqg_ok _ (.fn 123 [] [.eptr (rS name_1)]) I (fun x => some (L.zlbl x name_1)) (fun x r h => by obtain I := oi h; exact L.zlbl_ok x name_1 _ I) _ hx3) dS (by rintro _ _ ⟨rfl, _⟩; rfl) ?_))))
 rintro _ ⟨_, rfl, -⟩
 refine AO.q 1 I (AO.nil (AW.ghost g0 ?_))
 obtain rfl := oi h
 exact AW.ret pr
theorem L.zwas_ok (l_0 : List Product) (r : Int) (h : L.zwas l_0 = some r) : ACalls Tryz.env 46 [.list 5 (l_0.map Product.row)] [] (fun x new => x = .V r ∧ new = []) := by
 refine ACalls.of_body Tryz.func46 rfl rfl rfl (fun C hC => ?_)
 unfold L.zwas at h
 refine AW.z I (AW.seqG (fun y2 hy2 => (AW.zr [.l 1 (l_0.length : Int)] I ⟨len_m, J⟩ (AW.ch h I ?_ ?_))))
 intro hc3 h
 refine AW.z I ?_
 obtain rfl := oi h
 exact AW.ret pr
 intro hc3 h
 refine AW.skip ?_
 subst hy2
 refine AW.cutX (fun s ob => ∃ (j26 : Unit), L.zwas.J1 l_0 j26 = some r ∧ s = [] ∧ ob = []) [(0, _)] ⟨I, J⟩ ?_ ?_
 refine AW.zr [.l 1 (l_0.length : Int)] I ⟨len_m, J⟩ (AW.block (AW.listMax 10 I (fun hm92 => ?_)))
 replace hm92 : l_0.length ≤ 9223372036854775806 := by rw [List.length_map] at hm92; omega
 obtain ⟨o109, hL110, hR111⟩ := ob_some h
 clear h
 refine AW.forX hL110 [(0, _), (10, _), (11, _)] ⟨I, I, I, J⟩ (fun (k90 : Nat) (st102 : Unit) s ob => s = [(12, .V (k90 : Int))] ∧ ob = []) ⟨I, I⟩ ⟨I, J⟩ ⟨[], I, by decide⟩ ?_ ?_
 rintro k90 x93 st102 r113 s ob hx94 hk91 ⟨rfl, rfl⟩ h hb112
 unfold L.zwas.B4 at h
 have hk91t : decide ((k90 : Int) < (l_0.length : Int)) = true := decide_eq_true (by omega)
 refine AW.z I (AW.seqG (fun y115 hy115 => (AW.condK (v := true) I hk91t (AW.skip ?_))))
 subst hy115
 refine AW.seq (AW.block (AW.seq (AW.region (AO.r 2 [.x 0 k90 (Product.row x93)] I ⟨⟨I, map_get hx94⟩, J⟩ (AO.act [] I (AX.alloc (cs := [.v (.string ⟨#[]⟩), .V 0, .V 0, .V 0, .V 0]) (m := 5) I I I I I dS (fun b116 => (AO.act [0] I (AX.store 0 0 0 (es' := [Product.row x93]) I I I I I I I I (le_ble I) I I (AO.nil (AW.seq ?_)))))))))))
 obtain ⟨r117, hx118, h⟩ := ob_some h
 refine AW.region (AO.r 1 [.o 0 0] I ⟨I, J⟩ (AO.c (L.zvqj_ok _ _ hx118) (AO.q 1 I (AO.nil (AW.ch h I ?_ ?_)))))
 intro hc119 h
 refine AW.z I ?_
 obtain rfl := hb112 _ (oi h).symm
 replace h := hR111
 replace h := se_r h
 refine AW.ghost g0 ?_
 obtain rfl := oi h
 exact AW.ret pr
 intro hc119 h
 refine AW.skip (AW.region (AO.r 2 [.k 0 (k90 + 1 : Nat)] I ⟨cast_wr hk91 hm92, J⟩ ?_))
 obtain rfl := oi h
 refine AO.nil ?_
 exact ⟨_, _, _, I, ⟨I, I⟩, ⟨I, I, I, I, J⟩, [], I, by decide⟩
 rintro st102 s ob ⟨rfl, rfl⟩ he
 subst he
 have h := se_l hR111
 have hk91f : decide (((l_0.length : Nat) : Int) < (l_0.length : Int)) = false := by simp
 refine AW.z I (AW.seqG (fun y121 hy121 => (AW.condK (v := false) I hk91f (AW.exit ?_))))
 exact lg ⟨(), h, I, I⟩ []
 rintro s ob ⟨j26, h, rfl, rfl⟩
 unfold L.zwas.J1 at h
 refine AW.cutX (fun s ob => ∃ (j51 : Unit), L.zwas.J2 j51 = some r ∧ s = [] ∧ ob = []) [] J ?_ ?_
 refine AW.zr [.l 1 (l_0.length : Int)] I ⟨len_m, J⟩ (AW.block (AW.listMax 20 I (fun hm55 => ?_)))
 replace hm55 : l_0.length ≤ 9223372036854775806 := by rw [List.length_map] at hm55; omega
 obtain ⟨o74, hL75, hR76⟩ := ob_some h
 clear h
 refine AW.forX hL75 [(0, _), (20, _), (21, _)] ⟨I, I, I, J⟩ (fun (k53 : Nat) (st66 : Unit) s ob => s = [(22, .V (k53 : Int))] ∧ ob = []) ⟨I, I⟩ ⟨I, J⟩ ⟨[], I, by decide⟩ ?_ ?_
 rintro k53 x56 st66 r78 s ob hx57 hk54 ⟨rfl, rfl⟩ h hb77
 unfold L.zwas.B3 at h
 have hk54t : decide ((k53 : Int) < (l_0.length : Int)) = true := decide_eq_true (by omega)
 refine AW.z I (AW.seqG (fun y80 hy80 => (AW.condK (v := true) I hk54t (AW.skip ?_))))
 subst hy80
 refine AW.seq (AW.block (AW.seqG (fun y81 hy81 => (AW.region (AO.r 3 [.x 1 k53 (Product.row x56)] I ⟨⟨I, map_get hx57⟩, J⟩ (AO.act [] I (AX.alloc (cs := [.v (.string ⟨#[]⟩), .V 0, .V 0, .V 0, .V 0]) (m := 5) I I I I I dS (fun b82 => (AO.q 1 I (AO.act [0] I (AX.store 0 0 0 (es' := [Product.row x56]) I I I I I I I I (le_ble I) I I (AO.nil ?_))))))))))))
 subst hy81
 refine AW.seq ?_
 obtain ⟨r83, hx84, h⟩ := ob_some h
 refine AW.region (AO.r 3 [.o 2 0] I ⟨I, J⟩ (AO.c (L.zwbj_ok _ _ _ hx84) (AO.q 2 I (AO.nil (AW.ch h I ?_ ?_)))))
 intro hc85 h
 refine AW.z I ?_
 obtain rfl := hb77 _ (oi h).symm
 replace h := hR76
 replace h := se_r h
 refine AW.ghost g0 ?_
 obtain rfl := oi h
 exact AW.ret pr
 intro hc85 h
 refine AW.skip (AW.region (AO.r 2 [.k 0 (k53 + 1 : Nat)] I ⟨cast_wr hk54 hm55, J⟩ ?_))
 obtain rfl := oi h
 refine AO.nil ?_
 exact ⟨_, _, _, I, ⟨I, I⟩, ⟨I, I, I, I, J⟩, [], I, by decide⟩
 rintro st66 s ob ⟨rfl, rfl⟩ he
 subst he
 have h := se_l hR76
 have hk54f : decide (((l_0.length : Nat) : Int) < (l_0.length : Int)) = false := by simp
 refine AW.z I (AW.seqG (fun y87 hy87 => (AW.condK (v := false) I hk54f (AW.exit ?_))))
 exact lg ⟨(), h, I, I⟩ []
 rintro s ob ⟨j51, h, rfl, rfl⟩
 unfold L.zwas.J2 at h
 refine AW.z I ?_
 obtain rfl := oi h
 exact AW.ret pr
theorem L.zovs_ok (f_0 : List Piece) (batches_1 : List Batch) (products_2 : List Product) (r : (List Product) × Int) (h : L.zovs f_0 batches_1 products_2 = some r) : ACalls Tryz.env 127 [.list 2 (f_0.map Piece.row), .list 4 (batches_1.map Batch.row), .list 5 (products_2.map Product.row)] [] (fun x new => ∃ (u0 : Value), x = .tup [.v u0, .V r.2] ∧ new = [.us u0 46 5 (r.1.map Product.row)]) := by
 refine ACalls.of_body Tryz.func127 rfl rfl rfl (fun C hC => ?_)
 unfold L.zovs at h
 refine AW.z I (AW.z I (AW.cutX (fun s ob => ∃ (j73 : List Product) (v74 : Value), L.zovs.J1 j73 = some r ∧ s = [(8, .v v74)] ∧ ob = [.us v74 46 5 (j73.map Product.row)]) [] J ?_ ?_))
 refine AW.zr [.l 1 (f_0.length : Int)] I ⟨len_m, J⟩ (AW.block (AW.listMax 12 I (fun hm78 => ?_)))
 replace hm78 : f_0.length ≤ 9223372036854775806 := by rw [List.length_map] at hm78; omega
 refine AW.ghost (Ghost.nilU 46 5) ?_
 obtain ⟨o143, hL144, hR145⟩ := ob_some h
 clear h
 refine AW.forX hL144 [(1, _), (2, _), (12, _), (13, _)] ⟨I, I, I, I, J⟩ (fun (k76 : Nat) (st122 : List Product) s ob => ∃ (v123 : Value), s = [(14, .V (k76 : Int)), (8, .v v123)] ∧ ob = [.us v123 46 5 (st122.map Product.row)]) ⟨(.slice none 0 0), I, I⟩ ⟨I, I, J⟩ ⟨[0], I, by decide⟩ ?_ ?_
 rintro k76 x79 st122 r147 s ob hx80 hk77 ⟨v123, rfl, rfl⟩ h hb146
 unfold L.zovs.B2 at h
 have hk77t : decide ((k76 : Int) < (f_0.length : Int)) = true := decide_eq_true (by omega)
 refine AW.z I (AW.seqG (fun y149 hy149 => (AW.condK (v := true) I hk77t (AW.skip ?_))))
 subst hy149
 refine AW.seq (AW.block (AW.seqG (fun y150 hy150 => (AW.region (AO.r 2 [.x 0 k76 (Piece.row x79)] I ⟨⟨I, map_get hx80⟩, J⟩ (AO.act [] I (AX.alloc (cs := [.V 0, .V 0]) (m := 2) I I I I I dS (fun b151 => (AO.act [1] I (AX.store 1 0 0 (es' := [Piece.row x79]) I I I I I I I I (le_ble I) I I (AO.nil ?_)))))))))))
 subst hy150
 refine AW.seqG (fun y152 hy152 => (AW.zr [.o 1 1, .l 3 (batches_1.length : Int)] I ⟨len_m, I, J⟩ (AW.ch h I ?_ ?_)))
 intro hc153 h
 refine AW.z I ?_
 obtain rfl := hb146 _ (oi h).symm
 replace h := hR145
 replace h := se_r h
 refine AW.ghost (Ghost.nilU 46 5) (AW.ghost (Ghost.pick [2] (K := [.us (.slice none 0 0) 46 5 ([].map Product.row)]) I (by decide)) ?_)
 obtain rfl := oi h
 exact AW.ret ⟨.inr I, [_, _], [.us (.slice none 0 0) 46 5 ([].map Product.row)], ⟨I, I, J⟩, sl_c I (sl_n), ⟨(.slice none 0 0), I, I⟩⟩
 intro hc153 h
 refine AW.skip ?_
 subst hy152
 refine AW.seqG (fun y154 hy154 => ?_)
 obtain ⟨p155, hp156, h⟩ := ob_some h
 obtain ⟨hp156i, hp156x⟩ := ix_some hp156
 refine AW.tr [.o 2 1, .x 3 p155.1 (Batch.row p155.2)] I ⟨⟨hp156i, map_get hp156x⟩, I, J⟩ ?_
 subst hy154
 refine AW.seq (AW.cutX (fun s ob => s = [(36, .v (.bool (decide (p155.2.Product < 0) || decide (p155.2.Product ≥ (products_2.length : Int)))))] ∧ ob = [.us v123 46 5 (st122.map Product.row)]) [(1, _), (2, _), (8, _), (11, _), (12, _), (13, _), (14, _)] ⟨I, I, I, I, I, I, I, J⟩ ?_ ?_)
 refine AW.region (AO.q 3 I ?_)
 rcases bt (decide (p155.2.Product < 0)) with hg159 | hg159
 refine AO.known 31 I hg159 (AO.q 5 I (AO.nil ?_))
 exact lf ⟨I, I⟩ ⟨(get_b (by simp only [hg159, bz])), I, I, I, I, I, I, I, J⟩ [0] I
 refine AO.known 31 I hg159 (AO.r 5 [.l 2 (products_2.length : Int)] I ⟨len_m, J⟩ (AO.nil ?_))
 exact lf ⟨I, I⟩ ⟨(get_b (by simp only [hg159, bz])), I, I, I, I, I, I, I, J⟩ [0] I
 rintro s ob ⟨rfl, rfl⟩
 refine AW.ch h I ?_ ?_
 intro hc160 h
 refine AW.z I ?_
 obtain rfl := hb146 _ (oi h).symm
 replace h := hR145
 replace h := se_r h
 refine AW.ghost (Ghost.nilU 46 5) (AW.ghost (Ghost.pick [1] (K := [.us (.slice none 0 0) 46 5 ([].map Product.row)]) I (by decide)) ?_)
 obtain rfl := oi h
 exact AW.ret ⟨.inr I, [_, _], [.us (.slice none 0 0) 46 5 ([].map Product.row)], ⟨I, I, J⟩, sl_c I (sl_n), ⟨(.slice none 0 0), I, I⟩⟩
 intro hc160 h
 refine AW.skip ?_
 obtain ⟨p161, hp162, h⟩ := ob_some h
 obtain ⟨hp162i, hp162x⟩ := ix_some hp162
 obtain ⟨l164, hx165, h⟩ := ob_some h
 refine AW.region (AO.r 5 [.x 3 p161.1 (Product.row p161.2)] I ⟨⟨hp162i, map_get hp162x⟩, J⟩ (AO.act [] I (AX.lt 5 (([p161.2] : List Product).map Product.row) (AO.act [0] I (AX.ap 0 I hx165 (fun v166 => (AO.q 1 I (AO.nil (AW.region (AO.r 2 [.k 0 (k76 + 1 : Nat)] I ⟨cast_wr hk77 hm78, J⟩ ?_))))))))))
 obtain rfl := oi h
 refine AO.nil ?_
 exact ⟨_, _, _, I, ⟨v166, I, I⟩, ⟨I, I, I, I, I, I, J⟩, [0], I, by decide⟩
 rintro st122 s ob ⟨v123, rfl, rfl⟩ he
 subst he
 have h := se_l hR145
 have hk77f : decide (((f_0.length : Nat) : Int) < (f_0.length : Int)) = false := by simp
 refine AW.z I (AW.seqG (fun y168 hy168 => (AW.condK (v := false) I hk77f (AW.exit ?_))))
 exact lg ⟨st122, v123, h, I, I⟩ [0]
 rintro s ob ⟨j73, v74, h, rfl, rfl⟩
 unfold L.zovs.J1 at h
 refine AW.z I ?_
 obtain rfl := oi h
 exact AW.ret ⟨.inr I, [_, _], [.us v74 46 5 (j73.map Product.row)], ⟨I, I, J⟩, sl_c I (sl_n), ⟨v74, I, I⟩⟩
theorem L.zspb_ok (b_0 : Bounds) (r : Bool) (h : L.zspb b_0 = r) : ACalls Tryz.env 128 [.agg (Bounds.row b_0)] [] (fun x new => x = .v (.bool r) ∧ new = []) := by
 refine ACalls.of_body Tryz.func128 rfl rfl rfl (fun C hC => ?_)
 unfold L.zspb at h
 refine AW.seqG (fun y1 hy1 => (AW.region (AO.act [] I (AX.box (cs := Bounds.row b_0) (m := 2) I I I dS (fun b2 => (AO.q 1 I (AO.nil ?_)))))))
 subst hy1
 refine AW.cutX (fun s ob => s = [(2, .v (.bool (decide (b_0.Low ≤ b_0.High) && (decide (b_0.Low ≥ (-1125899906842624)) && decide (b_0.High ≤ 1125899906842624)))))] ∧ ob = []) [] J ?_ ?_
 refine AW.region (AO.r 6 [.o 1 0, .o 3 0] I ⟨I, I, J⟩ ?_)
 rcases bt (decide (b_0.Low ≤ b_0.High)) with hg6 | hg6
 refine AO.known 8 I hg6 (AO.r 5 [.o 1 0] I ⟨I, J⟩ ?_)
 rcases bt (decide (b_0.Low ≥ (-1125899906842624))) with hg7 | hg7
 refine AO.known 13 I hg7 (AO.r 5 [.o 1 0] I ⟨I, J⟩ (AO.nil ?_))
 exact lf ⟨I, I⟩ ⟨(get_b (by simp only [hg6, hg7, bz])), J⟩ [] I
 refine AO.known 13 I hg7 (AO.q 5 I (AO.nil ?_))
 exact lf ⟨I, I⟩ ⟨(get_b (by simp only [hg6, hg7, bz])), J⟩ [] I
 refine AO.known 8 I hg6 (AO.q 10 I (AO.nil ?_))
 exact lf ⟨I, I⟩ ⟨(get_b (by simp only [hg6, bz])), J⟩ [] I
 rintro s ob ⟨rfl, rfl⟩
 obtain rfl := h
 exact AW.ret pr
theorem L.zbwo_ok (n_0 : Int) (F1 : T) {f1 : FuncId} {p1 s1 : List T} (h1 : fnT F1 = some (f1, p1, s1)) (g1 : Int → Option Bool) (hg1 : ∀ (y0 : Int) r, g1 y0 = some r → ACalls Tryz.env f1 (p1 ++ [.V y0] ++ s1) [] (fun x new => x = .v (.bool r) ∧ new = [])) (r : Int) (h : L.zbwo n_0 g1 = some r) : ACalls Tryz.env 173 [.V n_0, F1] [] (fun x new => x = .V r ∧ new = []) := by
 refine ACalls.of_body Tryz.func173 rfl rfl rfl (fun C hC => ?_)
 unfold L.zbwo at h
 refine AW.z I (AW.z I (AW.cutX (fun s ob => ∃ (j22 : Int), L.zbwo.J1 j22 = some r ∧ s = [(5, .V j22)] ∧ ob = []) [] J ?_ ?_))
 refine AW.block ?_
 obtain ⟨o42, hL43, hR44⟩ := ob_some h
 clear h
 refine AW.loopX hL43 [(1, _)] ⟨I, J⟩ (fun (st36 : Int × Int) s ob => s = [(5, .V st36.1), (6, .V st36.2)] ∧ ob = []) ⟨I, I⟩ ⟨I, I, J⟩ ⟨[], I, by decide⟩ ?_
 rintro st36 r46 s ob ⟨rfl, rfl⟩ h hb45
 unfold L.zbwo.B2 at h
 refine AW.seqG (fun y47 hy47 => (AW.z I (AW.ch h I ?_ ?_)))
 intro hc48 h
 refine AW.skip ?_
 subst hy47
 refine AW.block (AW.seq (AW.region (AO.q 3 I (AO.p (Yp.convI (c := IntKind.u64.wrap (wr (st36.1 + st36.2))) I I I I I) I (AO.p (Yp.shr1 I I) I (AO.p (Yp.convI (c := wr (((IntKind.u64.wrap (wr (st36.1 + st36.2))).fdiv 2))) I I I I I) I (AO.q 1 I (AO.nil (AW.seq ?_)))))))))
 obtain ⟨r49, hx50, h⟩ := ob_some h
 refine AW.region (AO.q 2 I (AO.act [] I (AX.callL I (.refl _) h1 I (.rest _) I (hg1 _ _ hx50) dS (by rintro _ _ ⟨rfl, _⟩; rfl) ?_)))
 rintro _ ⟨_, rfl, -⟩
 refine AO.q 1 I (AO.nil (AW.ch h I ?_ ?_))
 intro hc51 h
 refine AW.region (AO.q 3 I ?_)
 obtain rfl := oi h
 refine AO.nil ?_
 exact ⟨_, _, _, I, ⟨I, I⟩, ⟨I, I, I, J⟩, [], I, by decide⟩
 intro hc51 h
 refine AW.region (AO.q 2 I ?_)
 obtain rfl := oi h
 refine AO.nil ?_
 exact ⟨_, _, _, I, ⟨I, I⟩, ⟨I, I, I, J⟩, [], I, by decide⟩
 intro hc48 h
 obtain rfl := hb45 _ (oi h).symm
 replace h := hR44
 refine AW.exit ?_
 exact lg ⟨st36.1, h, I, I⟩ []
 rintro s ob ⟨j22, h, rfl, rfl⟩
 unfold L.zbwo.J1 at h
 refine AW.z I ?_
 obtain rfl := oi h
 exact AW.ret pr
theorem L.zplf_ok (i_0 : Int) (a_1 : Segment) (a_2 : Int) (r : Bool) (h : L.zplf i_0 a_1 a_2 = some r) : ACalls Tryz.env 174 [.V i_0, .eptr (Segment.row a_1), .eptr (rI a_2)] [] (fun x new => x = .v (.bool r) ∧ new = []) := by
 refine ACalls.of_body Tryz.func174 rfl rfl rfl (fun C hC => ?_)
 unfold L.zplf at h
 refine AW.z I (AW.seq ?_)
 obtain ⟨p1, hp2, h⟩ := ob_some h
 obtain ⟨hp2i, hp2x⟩ := ix_some hp2
 refine AW.dt (pd 9 0 []) [] [] [.x 3 p1.1 (Point.row p1.2)] I I ⟨⟨hp2i, map_get hp2x⟩, J⟩ ?_
 obtain rfl := oi h
 exact AW.ret pr
theorem L.zwce_ok (s_0 : Segment) (end_1 : Int) (r : Int) (h : L.zwce s_0 end_1 = some r) : ACalls Tryz.env 164 [.agg (Segment.row s_0), .V end_1] [] (fun x new => x = .V r ∧ new = []) := by
 refine ACalls.of_body Tryz.func164 rfl rfl rfl (fun C hC => ?_)
 unfold L.zwce at h
 refine AW.seq (AW.region (AO.act [] I (AX.box (cs := Segment.row s_0) (m := 7) I I I dS (fun b1 => (AO.act [] I (AX.box (cs := [.V end_1]) (m := 1) I I I dS (fun b2 => (AO.q 1 I (AO.nil (AW.seq ?_))))))))))
 obtain ⟨r3, hx4, h⟩ := ob_some h
 refine AW.region (AO.r 4 [.o 1 0, .l 2 (s_0.Points.length : Int)] I ⟨len_m, I, J⟩ (AO.p (Yp.makeFunc I I) I (AO.act [] I (AX.callL I (.refl _) I I (.cons (.refl _) (.cons (.fn (.rest _) (.cons (.box 0 I (.rest _)) (.cons (.box 1 I (.rest _)) (.rest _)))) (.rest _))) I (L.zbwo_ok _ (.fn 174 [] [.eptr (Segment.row s_0), .eptr (rI end_1)]) I (fun x => L.zplf x s_0 end_1) (fun x r h => L.zplf_ok x s_0 end_1 r h) _ hx4) dS (by rintro _ _ ⟨rfl, _⟩; rfl) ?_))))
 rintro _ ⟨_, rfl, -⟩
 refine AO.q 1 I (AO.nil (AW.ghost g0 ?_))
 obtain rfl := oi h
 exact AW.ret pr
theorem L.zdmv_ok (s_0 : Segment) (f_1 : List Piece) (l_2 : List Product) (at_3 : List Int) (r : List gradient_part) (h : L.zdmv s_0 f_1 l_2 at_3 = some r) : ACalls Tryz.env 130 [.agg (Segment.row s_0), .list 2 (f_1.map Piece.row), .list 5 (l_2.map Product.row), .list 1 (at_3.map rI)] [] (fun x new => ∃ (u0 : Value), x = .v u0 ∧ new = [.us u0 186 8 (r.map gradient_part.row)]) := by
 refine ACalls.of_body Tryz.func130 rfl rfl rfl (fun C hC => ?_)
 unfold L.zdmv at h
 refine AW.seqG (fun y1 hy1 => (AW.region (AO.act [] I (AX.box (cs := Segment.row s_0) (m := 7) I I I dS (fun b2 => (AO.q 1 I (AO.nil ?_)))))))
 subst hy1
 refine AW.z I (AW.seqG (fun y4 hy4 => ?_))
 obtain ⟨p5, hp6, h⟩ := ob_some h
 obtain ⟨hp6i, hp6x⟩ := ix_some hp6
 refine AW.dt (pd 6 0 []) [] [] [.x 1 p5.1 (Piece.row p5.2)] I I ⟨⟨hp6i, map_get hp6x⟩, J⟩ ?_
 subst hy4
 refine AW.cutX (fun s ob => ∃ (j161 : List gradient_part) (v162 : Value), L.zdmv.J1 j161 = some r ∧ s = [(9, .v v162)] ∧ ob = [.us v162 186 8 (j161.map gradient_part.row)]) [] J ?_ ?_
 refine AW.z I (AW.block (AW.ghost (Ghost.nilU 186 8) ?_))
 obtain ⟨o317, hL318, hR319⟩ := ob_some h
 clear h
 refine AW.loopX hL318 [(1, _), (2, _), (3, _), (4, _)] ⟨I, I, I, I, J⟩ (fun (st266 : (List gradient_part) × Int × Int × Int) s ob => ∃ (v267 : Value), s = [(9, .v v267), (10, .V st266.2.1), (11, .V st266.2.2.1), (12, .V st266.2.2.2)] ∧ ob = [.arr b2 77 7 1 [Segment.row s_0], .us v267 186 8 (st266.1.map gradient_part.row)]) ⟨(.slice none 0 0), I, I⟩ ⟨I, I, I, I, J⟩ ⟨[0, 1], I, by decide⟩ ?_
 rintro st266 r321 s ob ⟨v267, rfl, rfl⟩ h hb320
 unfold L.zdmv.B2 at h
 refine AW.seqG (fun y322 hy322 => (AW.zr [.l 2 (at_3.length : Int)] I ⟨len_m, J⟩ (AW.ch h I ?_ ?_)))
 intro hc323 h
 refine AW.skip ?_
 subst hy322
 refine AW.cutX (fun s ob => ∃ (j369 : (List gradient_part) × Int × Int) (v370 : Value), L.zdmv.J3 st266 j369 = some r321 ∧ s = [(9, .v v370), (10, .V j369.2.1), (11, .V j369.2.2)] ∧ ob = [.arr b2 77 7 1 [Segment.row s_0], .us v370 186 8 (j369.1.map gradient_part.row)]) [(1, _), (2, _), (3, _), (4, _), (12, _)] ⟨I, I, I, I, I, J⟩ ?_ ?_
 refine AW.block (AW.cutX (fun s ob => ∃ (j393 : Int × Int), L.zdmv.J4 s_0 l_2 at_3 st266 j393 = some r321 ∧ s = [(10, .V j393.1), (11, .V j393.2)] ∧ ob = [.arr b2 77 7 1 [Segment.row s_0], .us v267 186 8 (st266.1.map gradient_part.row)]) [(1, _), (2, _), (3, _), (4, _), (9, _), (12, _)] ⟨I, I, I, I, I, I, J⟩ ?_ ?_)
 refine AW.block ?_
 obtain ⟨o444, hL445, hR446⟩ := ob_some h
 clear h
 refine AW.loopX hL445 [(1, _), (2, _), (3, _), (4, _), (9, _), (12, _)] ⟨I, I, I, I, I, I, J⟩ (fun (st437 : Int × Int) s ob => s = [(10, .V st437.1), (11, .V st437.2)] ∧ ob = [.arr b2 77 7 1 [Segment.row s_0], .us v267 186 8 (st266.1.map gradient_part.row)]) ⟨I, I⟩ ⟨I, I, J⟩ ⟨[0, 1], I, by decide⟩ ?_
 rintro st437 r448 s ob ⟨rfl, rfl⟩ h hb447
 unfold L.zdmv.B6 at h
 refine AW.seqG (fun y449 hy449 => (AW.seq ?_))
 obtain ⟨p450, hp451, h⟩ := ob_some h
 obtain ⟨hp451i, hp451x⟩ := ix_some hp451
 refine AW.tr [.x 2 p450.1 (rI p450.2)] I ⟨⟨hp451i, map_get hp451x⟩, J⟩ (AW.ch h I ?_ ?_)
 intro hc452 h
 refine AW.skip ?_
 subst hy449
 refine AW.block (AW.z I ?_)
 obtain ⟨p453, hp454, h⟩ := ob_some h
 obtain ⟨hp454i, hp454x⟩ := ix_some hp454
 refine AW.region (AO.r 8 [.x 3 p453.1 (Piece.row p453.2)] I ⟨⟨hp454i, map_get hp454x⟩, J⟩ ?_)
 obtain rfl := oi h
 refine AO.nil ?_
 exact ⟨_, _, _, I, ⟨I, I⟩, ⟨I, I, I, I, I, I, I, I, J⟩, [0, 1], I, by decide⟩
 intro hc452 h
 obtain rfl := hb447 _ (oi h).symm
 replace h := hR446
 refine AW.exit ?_
 exact lg ⟨(st437.1, st437.2), h, I, I⟩ [0, 1]
 rintro s ob ⟨j393, h, rfl, rfl⟩
 unfold L.zdmv.J4 at h
 refine AW.seqG (fun y394 hy394 => ?_)
 obtain ⟨p395, hp396, h⟩ := ob_some h
 obtain ⟨hp396i, hp396x⟩ := ix_some hp396
 obtain ⟨r397, hx398, h⟩ := ob_some h
 refine AW.rd (pd 7 0 [5]) [0] [_] I (AP.r 5 [.o 0 0, .x 3 p395.1 (rI p395.2)] I ⟨⟨hp396i, map_get hp396x⟩, I, J⟩ (AP.c I (L.zwce_ok _ _ _ hx398) (AP.q 1 I (AP.ofAO (AO.nil ?_)))))
 subst hy394
 refine AW.cutX (fun s ob => ∃ (j405 : Int × Int × Int × Int × Int × Int) (b406 : Nat) (b407 : Nat), L.zdmv.J5 l_2 at_3 st266 j393 p395 j405 = some r321 ∧ s = [(14, .v (.pointer (some ⟨b406, 0, none⟩))), (15, .v (.pointer (some ⟨b407, 0, none⟩)))] ∧ ob = [.arr b2 77 7 1 [Segment.row s_0], .us v267 186 8 (st266.1.map gradient_part.row), .arr b406 104 3 1 [[.V j405.1, .V j405.2.1, .V j405.2.2.1]], .arr b407 104 3 1 [[.V j405.2.2.2.1, .V j405.2.2.2.2.1, .V j405.2.2.2.2.2]]]) [(1, _), (2, _), (3, _), (4, _), (9, _), (10, _), (11, _), (12, _)] ⟨I, I, I, I, I, I, I, I, J⟩ ?_ ?_
 obtain ⟨p416, hp417, h⟩ := ob_some h
 obtain ⟨hp417i, hp417x⟩ := ix_some hp417
 obtain ⟨p418, hp419, h⟩ := ob_some h
 obtain ⟨hp419i, hp419x⟩ := ix_some hp419
 refine AW.rd (.still 0 (.still 1 (.still 2 (.still 3 (.still 4 (.still 5 (.still 6 (.still 7 (.still 8 (.still 9 (.still 10 (.two 11 12 (.act 12 (.act 13 (.act 14 .nil))) (.act 11 (.act 13 (.act 14 .nil))))))))))))))) [0] [_] I (AP.r 11 [.o 1 0, .x 4 p416.1 (Point.row p416.2), .o 7 0, .x 9 p418.1 (Point.row p418.2)] I ⟨⟨hp419i, map_get hp419x⟩, I, ⟨hp417i, map_get hp417x⟩, I, J⟩ (AP.two ?_ ?_))
 refine AP.act [] I I I (AX.alloc (cs := [.V 0, .V 0, .V 0]) (m := 3) I I I I I dS (fun b420 => (AP.act [] I I I (AX.alloc (cs := [.V 0, .V 0, .V 0]) (m := 3) I I I I I dS (fun b421 => (AP.act [2] I I I (AX.store 2 0 0 (es' := [Point.row p416.2]) I I I I I I I I (le_ble I) I I (AP.act [3] I I I (AX.store 3 0 0 (es' := [Point.row p418.2]) I I I I I I I I (le_ble I) I I (AP.ofAO (AO.nil ?_)))))))))))
 exact lg ⟨(p416.2.At, p416.2.Height, p416.2.Limit, p418.2.At, p418.2.Height, p418.2.Limit), b420, b421, h, I, I⟩ [0, 1, 2, 3]
 refine AP.act [] I I I (AX.alloc (cs := [.V 0, .V 0, .V 0]) (m := 3) I I I I I dS (fun b421 => (AP.act [] I I I (AX.alloc (cs := [.V 0, .V 0, .V 0]) (m := 3) I I I I I dS (fun b420 => (AP.act [3] I I I (AX.store 3 0 0 (es' := [Point.row p416.2]) I I I I I I I I (le_ble I) I I (AP.act [2] I I I (AX.store 2 0 0 (es' := [Point.row p418.2]) I I I I I I I I (le_ble I) I I (AP.ofAO (AO.nil ?_)))))))))))
 exact lg ⟨(p416.2.At, p416.2.Height, p416.2.Limit, p418.2.At, p418.2.Height, p418.2.Limit), b420, b421, h, I, I⟩ [0, 1, 3, 2]
 rintro s ob ⟨j405, b406, b407, h, rfl, rfl⟩
 unfold L.zdmv.J5 at h
 obtain ⟨p408, hp409, h⟩ := ob_some h
 obtain ⟨hp409i, hp409x⟩ := ix_some hp409
 obtain ⟨p410, hp411, h⟩ := ob_some h
 obtain ⟨hp411i, hp411x⟩ := ix_some hp411
 obtain ⟨l413, hx414, h⟩ := ob_some h
 refine AW.rd (pd 29 0 [26, 27]) [3, 2] [_, _] I (AP.r 25 [.x 3 p395.1 (rI p395.2), .x 8 p408.1 (rI p408.2), .o 12 0, .o 14 1, .o 17 0, .o 19 1, .x 23 p410.1 (Product.row p410.2)] I ⟨⟨hp411i, map_get hp411x⟩, I, I, I, I, ⟨hp409i, map_get hp409x⟩, ⟨hp396i, map_get hp396x⟩, J⟩ (AP.op I (Yp.buildP (l := [.V (wr (p395.2 - p408.2)), .V (wr (j405.2.2.2.1 - j405.1)), .V (wr (j405.2.2.2.2.1 - j405.2.1)), .v (.string p410.2.Name), .V p410.2.Density, .V p410.2.Expansion, .V p410.2.Compress, .V p410.2.Friction]) Tryz.bld186 I) I (AP.act [] I I I (AX.lt 8 (([(⟨wr (p395.2 - p408.2), wr (j405.2.2.2.1 - j405.1), wr (j405.2.2.2.2.1 - j405.2.1), p410.2⟩ : gradient_part)] : List gradient_part).map gradient_part.row) (AP.act [1] I I I (AX.ap 1 I hx414 (fun v415 => (AP.eraS 9 (AP.q 1 I (AP.ofAO (AO.nil ?_)))))))))))
 exact lg ⟨(l413, j393.1, j393.2), v415, h, I, I⟩ [0, 1]
 rintro s ob ⟨j369, v370, h, rfl, rfl⟩
 unfold L.zdmv.J3 at h
 refine AW.region (AO.q 3 I ?_)
 obtain rfl := oi h
 refine AO.nil ?_
 exact ⟨_, _, _, I, ⟨v370, I, I⟩, ⟨I, I, I, I, I, I, I, I, J⟩, [0, 1], I, by decide⟩
 intro hc323 h
 obtain rfl := hb320 _ (oi h).symm
 replace h := hR319
 refine AW.exit ?_
 exact lg ⟨st266.1, v267, h, I, I⟩ [1]
 rintro s ob ⟨j161, v162, h, rfl, rfl⟩
 unfold L.zdmv.J1 at h
 refine AW.z I ?_
 obtain rfl := oi h
 exact AW.ret ⟨.inr I, [_], [.us v162 186 8 (j161.map gradient_part.row)], ⟨I, J⟩, sl_c I (sl_n), ⟨v162, I, I⟩⟩
theorem L.ziky_ok (a_0 : Int) (b_1 : Int) (r : Int × Int × Bool) (h : L.ziky a_0 b_1 = some r) : ACalls Tryz.env 175 [.V a_0, .V b_1] [] (fun x new => x = .tup [.V r.1, .V r.2.1, .v (.bool r.2.2)] ∧ new = []) := by
 refine ACalls.of_body Tryz.func175 rfl rfl rfl (fun C hC => ?_)
 unfold L.ziky at h
 refine AW.z I (AW.seqG (fun y2 hy2 => (AW.cutX (fun s ob => s = [(22, .v (.bool (decide (b_1 < 1) || (decide (b_1 > 1099511627776) || (decide (a_0 < (-2305843009213693952)) || decide (a_0 > 2305843009213693952))))))] ∧ ob = []) [(0, _), (1, _)] ⟨I, I, J⟩ ?_ ?_)))
 refine AW.region (AO.q 3 I ?_)
 rcases bt (decide (b_1 < 1)) with hg7 | hg7
 refine AO.known 11 I hg7 (AO.q 11 I (AO.nil ?_))
 exact lf ⟨I, I⟩ ⟨(get_b (by simp only [hg7, bz])), I, I, J⟩ [] I
 refine AO.known 11 I hg7 (AO.q 4 I ?_)
 rcases bt (decide (b_1 > 1099511627776)) with hg8 | hg8
 refine AO.known 15 I hg8 (AO.q 7 I (AO.nil ?_))
 exact lf ⟨I, I⟩ ⟨(get_b (by simp only [hg7, hg8, bz])), I, I, J⟩ [] I
 refine AO.known 15 I hg8 (AO.q 4 I ?_)
 rcases bt (decide (a_0 < (-2305843009213693952))) with hg9 | hg9
 refine AO.known 19 I hg9 (AO.q 3 I (AO.nil ?_))
 exact lf ⟨I, I⟩ ⟨(get_b (by simp only [hg7, hg8, hg9, bz])), I, I, J⟩ [] I
 refine AO.known 19 I hg9 (AO.q 3 I (AO.nil ?_))
 exact lf ⟨I, I⟩ ⟨(get_b (by simp only [hg7, hg8, hg9, bz])), I, I, J⟩ [] I
 rintro s ob ⟨rfl, rfl⟩
 refine AW.ch h I ?_ ?_
 intro hc10 h
 refine AW.z I ?_
 obtain rfl := oi h
 exact AW.ret ⟨.inr I, [_, _, _], [], ⟨I, I, I, J⟩, sl_n, I, I⟩
 intro hc10 h
 refine AW.skip ?_
 subst hy2
 refine AW.seqG (fun y11 hy11 => ?_)
 obtain ⟨x12, hx13, h⟩ := ob_some h
 obtain ⟨x14, hx15, h⟩ := ob_some h
 refine AW.dt (pd 8 0 []) [] [] [.f 2 (.V x12), .f 5 (.V x14)] I I ⟨Yp.yd (Yp.binI (c := x14) I I (rem_some hx15)), Yp.yd (Yp.binI (c := x12) I I (quo_some hx13)), J⟩ ?_
 subst hy11
 refine AW.cutX (fun s ob => ∃ (j17 : Int × Int), L.ziky.J1 j17 = some r ∧ s = [(7, .V j17.1), (8, .V j17.2)] ∧ ob = []) [] J ?_ ?_
 refine AW.z I (AW.ch h I ?_ ?_)
 intro hc18 h
 refine AW.t I ?_
 exact lg ⟨(wr (x12 - 1), wr (x14 + b_1)), h, I, I⟩ []
 intro hc18 h
 refine AW.skip ?_
 exact lg ⟨(x12, x14), h, I, I⟩ []
 rintro s ob ⟨j17, h, rfl, rfl⟩
 unfold L.ziky.J1 at h
 refine AW.z I ?_
 obtain rfl := oi h
 exact AW.ret ⟨.inr I, [_, _, _], [], ⟨I, I, I, J⟩, sl_n, I, I⟩
theorem L.zwdf_ok (a_0 : Int) (b_1 : Int) (r : Int) (h : L.zwdf a_0 b_1 = some r) : ACalls Tryz.env 165 [.V a_0, .V b_1] [] (fun x new => x = .V r ∧ new = []) := by
 refine ACalls.of_body Tryz.func165 rfl rfl rfl (fun C hC => ?_)
 unfold L.zwdf at h
 refine AW.z I (AW.seq ?_)
 obtain ⟨r2, hx3, h⟩ := ob_some h
 refine AW.region (AO.q 2 I (AO.c (L.ziky_ok _ _ _ hx3) (AO.q 7 I (AO.nil (AW.z I ?_)))))
 obtain rfl := oi h
 exact AW.ret pr
theorem L.zspy_ok (a_0 : Int) (b_1 : Int) (r : Int) (h : L.zspy a_0 b_1 = some r) : ACalls Tryz.env 166 [.V a_0, .V b_1] [] (fun x new => x = .V r ∧ new = []) := by
 refine ACalls.of_body Tryz.func166 rfl rfl rfl (fun C hC => ?_)
 unfold L.zspy at h
 refine AW.z I (AW.seqG (fun y2 hy2 => ?_))
 obtain ⟨r3, hx4, h⟩ := ob_some h
 refine AW.region (AO.q 2 I (AO.c (L.ziky_ok _ _ _ hx4) (AO.q 7 I (AO.nil ?_))))
 subst hy2
 refine AW.cutX (fun s ob => ∃ (j9 : Int), L.zspy.J1 j9 = some r ∧ s = [(5, .V j9)] ∧ ob = []) [] J ?_ ?_
 refine AW.cutX (fun s ob => s = [(19, .v (.bool (r3.2.2 && decide (r3.2.1 > 0))))] ∧ ob = []) [(5, _)] ⟨I, J⟩ ?_ ?_
 refine AW.region (AO.q 2 I ?_)
 rcases bt (r3.2.2) with hg12 | hg12
 refine AO.known 16 I hg12 (AO.q 3 I (AO.nil ?_))
 exact lf ⟨I, I⟩ ⟨(get_b (by simp only [hg12, bz])), I, J⟩ [] I
 refine AO.known 16 I hg12 (AO.q 3 I (AO.nil ?_))
 exact lf ⟨I, I⟩ ⟨(get_b (by simp only [hg12, bz])), I, J⟩ [] I
 rintro s ob ⟨rfl, rfl⟩
 refine AW.ch h I ?_ ?_
 intro hc13 h
 refine AW.t I ?_
 exact lg ⟨wr (r3.1 + 1), h, I, I⟩ []
 intro hc13 h
 refine AW.skip ?_
 exact lg ⟨r3.1, h, I, I⟩ []
 rintro s ob ⟨j9, h, rfl, rfl⟩
 unfold L.zspy.J1 at h
 refine AW.z I ?_
 obtain rfl := oi h
 exact AW.ret pr
theorem L.zpsp_ok (x_0 : gradient_part) (s_1 : Segment) (q_2 : Int) (r : Int × Int) (h : L.zpsp x_0 s_1 q_2 = some r) : ACalls Tryz.env 134 [.agg (gradient_part.row x_0), .agg (Segment.row s_1), .V q_2] [] (fun x new => x = .tup [.V r.1, .V r.2] ∧ new = []) := by
 refine ACalls.of_body Tryz.func134 rfl rfl rfl (fun C hC => ?_)
 unfold L.zpsp at h
 refine AW.seqG (fun y1 hy1 => (AW.region (AO.act [] I (AX.box (cs := gradient_part.row x_0) (m := 8) I I I dS (fun b2 => (AO.act [] I (AX.box (cs := Segment.row s_1) (m := 7) I I I dS (fun b3 => (AO.q 2 I (AO.nil ?_))))))))))
 subst hy1
 refine AW.dz (pd 18 0 []) [1, 0] [_, _] [.o 1 0, .o 4 1, .o 11 1, .o 14 0] I I ⟨I, I, I, I, J⟩ (AW.dz (pd 15 0 []) [0] [_] [.o 2 0, .o 5 0, .o 8 0, .o 11 0] I I ⟨I, I, I, I, J⟩ (AW.seq ?_))
 obtain ⟨r6, hx7, h⟩ := ob_some h
 obtain ⟨r8, hx9, h⟩ := ob_some h
 obtain ⟨r10, hx11, h⟩ := ob_some h
 obtain ⟨r12, hx13, h⟩ := ob_some h
 refine AW.region (AO.q 2 I (AO.c (L.zwdf_ok _ _ _ hx7) (AO.q 2 I (AO.c (L.zwdf_ok _ _ _ hx9) (AO.q 3 I (AO.c (L.zspy_ok _ _ _ hx11) (AO.q 2 I (AO.c (L.zspy_ok _ _ _ hx13) (AO.q 3 I (AO.nil (AW.ghost g0 ?_)))))))))))
 obtain rfl := oi h
 exact AW.ret ⟨.inr I, [_, _], [], ⟨I, I, J⟩, sl_n, I, I⟩
theorem L.zvxi_ok (s0 : List Int) (r : List Int) (h : L.zvxi s0 = some r) : ACalls Tryz.env 131 [.list 1 (s0.map rI)] [] (fun x new => ∃ (u0 : Value), x = .v u0 ∧ new = [.us u0 3 1 (r.map rI)]) := by
  refine ACalls.of_body Tryz.func131 rfl rfl rfl (fun C hC => ?_)
  unfold L.zvxi at h
  obtain ⟨h1, h2⟩ := app_some h
  refine AW.seq ?_
  refine AW.region ?_
  refine AO.p (Yp.assign rfl) rfl ?_
  refine AO.nil ?_
  refine AW.seq ?_
  refine AW.seq ?_
  refine AW.region ?_
  refine AO.p (Yp.move rfl) rfl ?_
  refine AO.act [] rfl (AX.eqNil rfl rfl rfl (dst_some rfl) (fun c hc => ?_))
  refine AO.nil ?_
  refine AW.cond rfl rfl ?_ ?_
  · intro hb
    have hs : s0 = [] := by have := hc hb; simpa using this
    subst hs
    refine AW.seq ?_
    refine AW.region ?_
    refine AO.p (Yp.assign rfl) rfl ?_
    refine AO.ghost (Ghost.nilU 3 1) ?_
    refine AO.nil ?_
    refine AW.ret ?_
    have hr : r = [] := by simpa using h2.symm
    subst hr
    exact ⟨.inr rfl, [_], [.us (.slice none 0 0) 3 1 ([].map rI)], ⟨rfl, J⟩, sl_c rfl sl_n, ⟨_, rfl, rfl⟩⟩
  · intro hb
    refine AW.skip ?_
    refine AW.seq ?_
    refine AW.region ?_
    refine AO.act [] rfl (AX.buildSlice (sz := 1) (es := []) rfl rfl rfl rfl rfl rfl rfl rfl rfl rfl rfl (dst_some rfl) (fun v1 => ?_))
    refine AO.p (Yp.move rfl) rfl ?_
    refine AO.act [0] rfl (AX.appendU 0 (es' := r.map rI) rfl rfl rfl rfl rfl rfl rfl rfl rfl (AppSrc.list rfl) (by simpa using h1) (by rw [← h2]; simp) (dst_some rfl) (fun v2 => ?_))
    refine AO.p (Yp.assign rfl) rfl ?_
    refine AO.nil ?_
    refine AW.ret ?_
    exact ⟨.inr rfl, [_], [.us v2 3 1 (r.map rI)], ⟨rfl, J⟩, sl_c rfl sl_n, ⟨_, rfl, rfl⟩⟩
theorem L.zyqm_ok (w0 : Value) (s_0 : List Int) (r : List Int) (h : L.zyqm s_0 = some r) : ACalls Tryz.env 132 [.v w0] [.us w0 3 1 (s_0.map rI)] (Gives 1 (fun x os new => x = .tup [] ∧ os = [.us w0 3 1 (r.map rI)] ∧ new = [])) := by
 refine ACalls.of_body Tryz.func132 rfl rfl rfl (fun C hC => ?_)
 unfold L.zyqm at h
 refine AW.seqG (fun y1 hy1 => (AW.region (AO.q 1 I (AO.d (Yd.lenUM 0 I I I I) I (AO.q 3 I (AO.nil ?_))))))
 subst hy1
 refine AW.block ?_
 obtain ⟨o42, hL43, hR44⟩ := ob_some h
 clear h
 refine AW.loopX hL43 [(0, _)] ⟨I, J⟩ (fun (st29 : (List Int) × Int × Int) s ob => s = [(2, .V st29.2.1), (3, .V st29.2.2)] ∧ ob = [.us w0 3 1 (st29.1.map rI)]) ⟨I, I⟩ ⟨I, I, J⟩ ⟨[0], I, by decide⟩ ?_
 rintro st29 r46 s ob ⟨rfl, rfl⟩ h hb45
 unfold L.zyqm.B1 at h
 refine AW.seqG (fun y47 hy47 => (AW.z I (AW.ch h I ?_ ?_)))
 intro hc48 h
 refine AW.skip ?_
 subst hy47
 refine AW.cutX (fun s ob => ∃ (j58 : List Int), L.zyqm.J2 st29 j58 = some r46 ∧ s = [] ∧ ob = [.us w0 3 1 (j58.map rI)]) [(0, _), (2, _), (3, _)] ⟨I, I, I, J⟩ ?_ ?_
 refine AW.block ?_
 obtain ⟨p59, hp60, h⟩ := ob_some h
 obtain ⟨hp60i, hp60x⟩ := ix_some hp60
 obtain ⟨p61, hp62, h⟩ := ob_some h
 obtain ⟨hp62i, hp62x⟩ := ix_some hp62
 obtain ⟨p63, hp64, h⟩ := ob_some h
 obtain ⟨hp64i, hp64x⟩ := ix_some hp64
 refine AW.form 0 p59.1 I hp60x (fun hf65 => (AW.form 0 p61.1 I hp62x (fun hf66 => (AW.form 0 p61.1 I hp62x (fun hf67 => (AW.rd (.still 0 (.still 1 (.still 2 (.still 3 (.still 4 (.still 5 (.still 6 (.still 8 (.still 9 (.still 10 (.two 7 11 (.act 11 (.still 12 (.act 13 (.act 14 (.act 15 .nil))))) (.act 7 (.still 12 (.act 13 (.act 14 (.act 15 .nil)))))))))))))))) [] [] I (AP.q 6 I (AP.op I (Yp.indexUf (m := p59.1) I I I I I hf65 I hp60i hp60x) I (AP.q 2 I (AP.op I (Yp.indexUf (m := p61.1) I I I I I hf66 I hp62i hp62x) I (AP.two ?_ ?_)))))))))))
 refine AP.act [] I I I (AX.of_yd (Yd.loadU 0 p59.1 0 I I I (map_get hp60x) I (y := .V p59.2) I) dS (AP.act [] I I I (AX.of_yd (Yd.loadU 0 p61.1 0 I I I (map_get hp62x) I (y := .V p61.2) I) dS (AP.op I (Yp.indexUf (m := p61.1) I I I I I hf67 I hp62i hp62x) I (AP.act [0] I I I (AX.storeU 0 p61.1 0 I I I (map_get hp62x) I I I I (le_ble I) I (us_set (x := p59.2) I) (AP.act [] I I I (AX.of_yd (Yd.indexU 0 (m := p63.1) I I I I I I I hp64i (map_get hp64x)) dS (AP.act [0] I I I (AX.storeU 0 p63.1 0 I I I (map_get hp64x) I I I I (le_ble I) I (us_set (x := p61.2) I) (AP.ofAO (AO.nil ?_))))))))))))
 exact lg ⟨((st29.1.set p61.1 p59.2).set p63.1 p61.2), h, I, I⟩ [0]
 refine AP.act [] I I I (AX.of_yd (Yd.loadU 0 p61.1 0 I I I (map_get hp62x) I (y := .V p61.2) I) dS (AP.act [] I I I (AX.of_yd (Yd.loadU 0 p59.1 0 I I I (map_get hp60x) I (y := .V p59.2) I) dS (AP.op I (Yp.indexUf (m := p61.1) I I I I I hf67 I hp62i hp62x) I (AP.act [0] I I I (AX.storeU 0 p61.1 0 I I I (map_get hp62x) I I I I (le_ble I) I (us_set (x := p59.2) I) (AP.act [] I I I (AX.of_yd (Yd.indexU 0 (m := p63.1) I I I I I I I hp64i (map_get hp64x)) dS (AP.act [0] I I I (AX.storeU 0 p63.1 0 I I I (map_get hp64x) I I I I (le_ble I) I (us_set (x := p61.2) I) (AP.ofAO (AO.nil ?_))))))))))))
 exact lg ⟨((st29.1.set p61.1 p59.2).set p63.1 p61.2), h, I, I⟩ [0]
 rintro s ob ⟨j58, h, rfl, rfl⟩
 unfold L.zyqm.J2 at h
 refine AW.region (AO.q 6 I ?_)
 obtain rfl := oi h
 refine AO.nil ?_
 exact ⟨_, _, _, I, ⟨I, I⟩, ⟨I, I, I, J⟩, [0], I, by decide⟩
 intro hc48 h
 obtain rfl := hb45 _ (oi h).symm
 replace h := hR44
 obtain rfl := oi h
 refine AW.exit ?_
 exact ⟨.inl I, [], [.us w0 3 1 (st29.1.map rI)], J, sl_c I (sl_n), ⟨[.us w0 3 1 (st29.1.map rI)], [], I, I, I, I, I⟩⟩
theorem L.zbxo_ok (w0 : Value) (s_0 : List gradient_part) (r : List gradient_part) (h : L.zbxo s_0 = some r) : ACalls Tryz.env 133 [.v w0] [.us w0 186 8 (s_0.map gradient_part.row)] (Gives 1 (fun x os new => x = .tup [] ∧ os = [.us w0 186 8 (r.map gradient_part.row)] ∧ new = [])) := by
 refine ACalls.of_body Tryz.func133 rfl rfl rfl (fun C hC => ?_)
 unfold L.zbxo at h
 refine AW.seqG (fun y1 hy1 => (AW.region (AO.q 1 I (AO.d (Yd.lenUM 0 I I I I) I (AO.q 3 I (AO.nil ?_))))))
 subst hy1
 refine AW.block ?_
 obtain ⟨o42, hL43, hR44⟩ := ob_some h
 clear h
 refine AW.loopX hL43 [(0, _)] ⟨I, J⟩ (fun (st29 : (List gradient_part) × Int × Int) s ob => s = [(2, .V st29.2.1), (3, .V st29.2.2)] ∧ ob = [.us w0 186 8 (st29.1.map gradient_part.row)]) ⟨I, I⟩ ⟨I, I, J⟩ ⟨[0], I, by decide⟩ ?_
 rintro st29 r46 s ob ⟨rfl, rfl⟩ h hb45
 unfold L.zbxo.B1 at h
 refine AW.seqG (fun y47 hy47 => (AW.z I (AW.ch h I ?_ ?_)))
 intro hc48 h
 refine AW.skip ?_
 subst hy47
 refine AW.cutX (fun s ob => ∃ (j58 : List gradient_part), L.zbxo.J2 st29 j58 = some r46 ∧ s = [] ∧ ob = [.us w0 186 8 (j58.map gradient_part.row)]) [(0, _), (2, _), (3, _)] ⟨I, I, I, J⟩ ?_ ?_
 refine AW.block ?_
 obtain ⟨p59, hp60, h⟩ := ob_some h
 obtain ⟨hp60i, hp60x⟩ := ix_some hp60
 obtain ⟨p61, hp62, h⟩ := ob_some h
 obtain ⟨hp62i, hp62x⟩ := ix_some hp62
 obtain ⟨p63, hp64, h⟩ := ob_some h
 obtain ⟨hp64i, hp64x⟩ := ix_some hp64
 refine AW.form 0 p59.1 I hp60x (fun hf65 => (AW.form 0 p61.1 I hp62x (fun hf66 => (AW.form 0 p61.1 I hp62x (fun hf67 => (AW.rd (.still 0 (.still 1 (.still 2 (.still 3 (.still 4 (.still 5 (.still 6 (.still 8 (.still 9 (.still 10 (.two 7 11 (.act 11 (.still 12 (.act 13 (.act 14 (.act 15 .nil))))) (.act 7 (.still 12 (.act 13 (.act 14 (.act 15 .nil)))))))))))))))) [] [] I (AP.q 6 I (AP.op I (Yp.indexUf (m := p59.1) I I I I I hf65 I hp60i hp60x) I (AP.q 2 I (AP.op I (Yp.indexUf (m := p61.1) I I I I I hf66 I hp62i hp62x) I (AP.two ?_ ?_)))))))))))
 refine AP.act [] I I I (AX.of_yd (Yd.loadU 0 p59.1 0 I I I (map_get hp60x) I (y := .agg (gradient_part.row p59.2)) I) dS (AP.act [] I I I (AX.of_yd (Yd.loadU 0 p61.1 0 I I I (map_get hp62x) I (y := .agg (gradient_part.row p61.2)) I) dS (AP.op I (Yp.indexUf (m := p61.1) I I I I I hf67 I hp62i hp62x) I (AP.act [0] I I I (AX.storeU 0 p61.1 0 I I I (map_get hp62x) I I I I (le_ble I) I (us_set (x := p59.2) I) (AP.act [] I I I (AX.of_yd (Yd.indexU 0 (m := p63.1) I I I I I I I hp64i (map_get hp64x)) dS (AP.act [0] I I I (AX.storeU 0 p63.1 0 I I I (map_get hp64x) I I I I (le_ble I) I (us_set (x := p61.2) I) (AP.ofAO (AO.nil ?_))))))))))))
 exact lg ⟨((st29.1.set p61.1 p59.2).set p63.1 p61.2), h, I, I⟩ [0]
 refine AP.act [] I I I (AX.of_yd (Yd.loadU 0 p61.1 0 I I I (map_get hp62x) I (y := .agg (gradient_part.row p61.2)) I) dS (AP.act [] I I I (AX.of_yd (Yd.loadU 0 p59.1 0 I I I (map_get hp60x) I (y := .agg (gradient_part.row p59.2)) I) dS (AP.op I (Yp.indexUf (m := p61.1) I I I I I hf67 I hp62i hp62x) I (AP.act [0] I I I (AX.storeU 0 p61.1 0 I I I (map_get hp62x) I I I I (le_ble I) I (us_set (x := p59.2) I) (AP.act [] I I I (AX.of_yd (Yd.indexU 0 (m := p63.1) I I I I I I I hp64i (map_get hp64x)) dS (AP.act [0] I I I (AX.storeU 0 p63.1 0 I I I (map_get hp64x) I I I I (le_ble I) I (us_set (x := p61.2) I) (AP.ofAO (AO.nil ?_))))))))))))
 exact lg ⟨((st29.1.set p61.1 p59.2).set p63.1 p61.2), h, I, I⟩ [0]
 rintro s ob ⟨j58, h, rfl, rfl⟩
 unfold L.zbxo.J2 at h
 refine AW.region (AO.q 6 I ?_)
 obtain rfl := oi h
 refine AO.nil ?_
 exact ⟨_, _, _, I, ⟨I, I⟩, ⟨I, I, I, J⟩, [0], I, by decide⟩
 intro hc48 h
 obtain rfl := hb45 _ (oi h).symm
 replace h := hR44
 obtain rfl := oi h
 refine AW.exit ?_
 exact ⟨.inl I, [], [.us w0 186 8 (st29.1.map gradient_part.row)], J, sl_c I (sl_n), ⟨[.us w0 186 8 (st29.1.map gradient_part.row)], [], I, I, I, I, I⟩⟩
theorem L.zaagu_ok (w0 : Value) (s_0 : List Level) (r : List Level) (h : L.zaagu s_0 = some r) : ACalls Tryz.env 135 [.v w0] [.us w0 81 3 (s_0.map Level.row)] (Gives 1 (fun x os new => x = .tup [] ∧ os = [.us w0 81 3 (r.map Level.row)] ∧ new = [])) := by
 refine ACalls.of_body Tryz.func135 rfl rfl rfl (fun C hC => ?_)
 unfold L.zaagu at h
 refine AW.seqG (fun y1 hy1 => (AW.region (AO.q 1 I (AO.d (Yd.lenUM 0 I I I I) I (AO.q 3 I (AO.nil ?_))))))
 subst hy1
 refine AW.block ?_
 obtain ⟨o42, hL43, hR44⟩ := ob_some h
 clear h
 refine AW.loopX hL43 [(0, _)] ⟨I, J⟩ (fun (st29 : (List Level) × Int × Int) s ob => s = [(2, .V st29.2.1), (3, .V st29.2.2)] ∧ ob = [.us w0 81 3 (st29.1.map Level.row)]) ⟨I, I⟩ ⟨I, I, J⟩ ⟨[0], I, by decide⟩ ?_
 rintro st29 r46 s ob ⟨rfl, rfl⟩ h hb45
 unfold L.zaagu.B1 at h
 refine AW.seqG (fun y47 hy47 => (AW.z I (AW.ch h I ?_ ?_)))
 intro hc48 h
 refine AW.skip ?_
 subst hy47
 refine AW.cutX (fun s ob => ∃ (j58 : List Level), L.zaagu.J2 st29 j58 = some r46 ∧ s = [] ∧ ob = [.us w0 81 3 (j58.map Level.row)]) [(0, _), (2, _), (3, _)] ⟨I, I, I, J⟩ ?_ ?_
 refine AW.block ?_
 obtain ⟨p59, hp60, h⟩ := ob_some h
 obtain ⟨hp60i, hp60x⟩ := ix_some hp60
 obtain ⟨p61, hp62, h⟩ := ob_some h
 obtain ⟨hp62i, hp62x⟩ := ix_some hp62
 obtain ⟨p63, hp64, h⟩ := ob_some h
 obtain ⟨hp64i, hp64x⟩ := ix_some hp64
 refine AW.form 0 p59.1 I hp60x (fun hf65 => (AW.form 0 p61.1 I hp62x (fun hf66 => (AW.form 0 p61.1 I hp62x (fun hf67 => (AW.rd (.still 0 (.still 1 (.still 2 (.still 3 (.still 4 (.still 5 (.still 6 (.still 8 (.still 9 (.still 10 (.two 7 11 (.act 11 (.still 12 (.act 13 (.act 14 (.act 15 .nil))))) (.act 7 (.still 12 (.act 13 (.act 14 (.act 15 .nil)))))))))))))))) [] [] I (AP.q 6 I (AP.op I (Yp.indexUf (m := p59.1) I I I I I hf65 I hp60i hp60x) I (AP.q 2 I (AP.op I (Yp.indexUf (m := p61.1) I I I I I hf66 I hp62i hp62x) I (AP.two ?_ ?_)))))))))))
 refine AP.act [] I I I (AX.of_yd (Yd.loadU 0 p59.1 0 I I I (map_get hp60x) I (y := .agg (Level.row p59.2)) I) dS (AP.act [] I I I (AX.of_yd (Yd.loadU 0 p61.1 0 I I I (map_get hp62x) I (y := .agg (Level.row p61.2)) I) dS (AP.op I (Yp.indexUf (m := p61.1) I I I I I hf67 I hp62i hp62x) I (AP.act [0] I I I (AX.storeU 0 p61.1 0 I I I (map_get hp62x) I I I I (le_ble I) I (us_set (x := p59.2) I) (AP.act [] I I I (AX.of_yd (Yd.indexU 0 (m := p63.1) I I I I I I I hp64i (map_get hp64x)) dS (AP.act [0] I I I (AX.storeU 0 p63.1 0 I I I (map_get hp64x) I I I I (le_ble I) I (us_set (x := p61.2) I) (AP.ofAO (AO.nil ?_))))))))))))
 exact lg ⟨((st29.1.set p61.1 p59.2).set p63.1 p61.2), h, I, I⟩ [0]
 refine AP.act [] I I I (AX.of_yd (Yd.loadU 0 p61.1 0 I I I (map_get hp62x) I (y := .agg (Level.row p61.2)) I) dS (AP.act [] I I I (AX.of_yd (Yd.loadU 0 p59.1 0 I I I (map_get hp60x) I (y := .agg (Level.row p59.2)) I) dS (AP.op I (Yp.indexUf (m := p61.1) I I I I I hf67 I hp62i hp62x) I (AP.act [0] I I I (AX.storeU 0 p61.1 0 I I I (map_get hp62x) I I I I (le_ble I) I (us_set (x := p59.2) I) (AP.act [] I I I (AX.of_yd (Yd.indexU 0 (m := p63.1) I I I I I I I hp64i (map_get hp64x)) dS (AP.act [0] I I I (AX.storeU 0 p63.1 0 I I I (map_get hp64x) I I I I (le_ble I) I (us_set (x := p61.2) I) (AP.ofAO (AO.nil ?_))))))))))))
 exact lg ⟨((st29.1.set p61.1 p59.2).set p63.1 p61.2), h, I, I⟩ [0]
 rintro s ob ⟨j58, h, rfl, rfl⟩
 unfold L.zaagu.J2 at h
 refine AW.region (AO.q 6 I ?_)
 obtain rfl := oi h
 refine AO.nil ?_
 exact ⟨_, _, _, I, ⟨I, I⟩, ⟨I, I, I, J⟩, [0], I, by decide⟩
 intro hc48 h
 obtain rfl := hb45 _ (oi h).symm
 replace h := hR44
 obtain rfl := oi h
 refine AW.exit ?_
 exact ⟨.inl I, [], [.us w0 81 3 (st29.1.map Level.row)], J, sl_c I (sl_n), ⟨[.us w0 81 3 (st29.1.map Level.row)], [], I, I, I, I, I⟩⟩
theorem L.zuct_ok (s_0 : Segment) (f_1 : List Piece) (batches_2 : List Batch) (products_3 : List Product) (rate_4 : Int) (in_5 : Bounds) (r : (List Level) × Int) (h : L.zuct s_0 f_1 batches_2 products_3 rate_4 in_5 = some r) : ACalls Tryz.env 87 [.agg (Segment.row s_0), .list 2 (f_1.map Piece.row), .list 4 (batches_2.map Batch.row), .list 5 (products_3.map Product.row), .V rate_4, .agg (Bounds.row in_5)] [] (fun x new => ∃ (u0 : Value), x = .tup [.v u0, .V r.2] ∧ new = [.us u0 81 3 (r.1.map Level.row)]) := by
 refine ACalls.of_body Tryz.func87 rfl rfl rfl (fun C hC => ?_)
 unfold L.zuct at h
 refine AW.seqG (fun y1 hy1 => (AW.region (AO.act [] I (AX.box (cs := Segment.row s_0) (m := 7) I I I dS (fun b2 => (AO.act [] I (AX.box (cs := Bounds.row in_5) (m := 2) I I I dS (fun b3 => (AO.q 2 I (AO.nil ?_))))))))))
 subst hy1
 refine AW.seqG (fun y4 hy4 => (AW.seq ?_))
 obtain ⟨r5, hx6, h⟩ := ob_some h
 refine AW.region (AO.r 2 [.o 0 0] I ⟨I, J⟩ (AO.c (L.zleg_ok _ _ _ hx6) (AO.q 1 I (AO.nil (AW.z I (AW.ch h I ?_ ?_))))))
 intro hc7 h
 refine AW.z I (AW.ghost (Ghost.nilU 81 3) (AW.ghost (Ghost.pick [2] (K := [.us (.slice none 0 0) 81 3 ([].map Level.row)]) I (by decide)) ?_))
 obtain rfl := oi h
 rotate_left
 intro hc7 h
 refine AW.skip ?_
 subst hy4
 refine AW.seqG (fun y8 hy8 => (AW.seq ?_))
 obtain ⟨r9, hx10, h⟩ := ob_some h
 refine AW.region (AO.q 1 I (AO.c (L.zwas_ok _ _ hx10) (AO.q 1 I (AO.nil (AW.z I (AW.ch h I ?_ ?_))))))
 intro hc11 h
 refine AW.z I (AW.ghost (Ghost.nilU 81 3) (AW.ghost (Ghost.pick [2] (K := [.us (.slice none 0 0) 81 3 ([].map Level.row)]) I (by decide)) ?_))
 obtain rfl := oi h
 rotate_left
 intro hc11 h
 refine AW.skip ?_
 subst hy8
 refine AW.seqG (fun y12 hy12 => ?_)
 obtain ⟨r13, hx14, h⟩ := ob_some h
 refine AW.region (AO.q 3 I (AO.act [] I (AX.call0 I I I (L.zovs_ok _ _ _ _ hx14) dS ?_)))
 rintro _ _ ⟨v15, rfl, rfl⟩
 refine AO.q 5 I (AO.nil ?_)
 subst hy12
 refine AW.seqG (fun y16 hy16 => (AW.block (AW.z I (AW.ch h I ?_ ?_))))
 intro hc18 h
 refine AW.z I (AW.ghost (Ghost.nilU 81 3) (AW.ghost (Ghost.pick [3] (K := [.us (.slice none 0 0) 81 3 ([].map Level.row)]) I (by decide)) ?_))
 obtain rfl := oi h
 any_goals
  exact AW.ret ⟨.inr I, [_, _], [.us (.slice none 0 0) 81 3 ([].map Level.row)], ⟨I, I, J⟩, sl_c I (sl_n), ⟨(.slice none 0 0), I, I⟩⟩
 intro hc18 h
 refine AW.cutX (fun s ob => s = [(49, .v (.bool ((rate_4 == 0) || (decide (rate_4 < (-1000)) || (decide (rate_4 > 1000) || (!(L.zspb in_5)))))))] ∧ ob = [.arr b2 77 7 1 [Segment.row s_0], .arr b3 71 2 1 [Bounds.row in_5], .us v15 46 5 (r13.1.map Product.row)]) [(1, _), (4, _), (6, _), (11, _), (16, _)] ⟨I, I, I, I, I, J⟩ ?_ ?_
 refine AW.region (AO.q 3 I ?_)
 rcases bt ((rate_4 == 0)) with hg23 | hg23
 refine AO.known 52 I hg23 (AO.q 13 I (AO.nil ?_))
 exact lf ⟨I, I⟩ ⟨(get_b (by simp only [hg23, bz])), I, I, I, I, I, J⟩ [0, 1, 2] I
 refine AO.known 52 I hg23 (AO.q 4 I ?_)
 rcases bt (decide (rate_4 < (-1000))) with hg24 | hg24
 refine AO.known 56 I hg24 (AO.q 9 I (AO.nil ?_))
 exact lf ⟨I, I⟩ ⟨(get_b (by simp only [hg23, hg24, bz])), I, I, I, I, I, J⟩ [0, 1, 2] I
 refine AO.known 56 I hg24 (AO.q 4 I ?_)
 rcases bt (decide (rate_4 > 1000)) with hg25 | hg25
 refine AO.known 60 I hg25 (AO.q 5 I (AO.nil ?_))
 exact lf ⟨I, I⟩ ⟨(get_b (by simp only [hg23, hg24, hg25, bz])), I, I, I, I, I, J⟩ [0, 1, 2] I
 refine AO.known 60 I hg25 (AO.r 1 [.o 0 1] I ⟨I, J⟩ (AO.gt I I I (AO.c (L.zspb_ok in_5 _ I) (AO.q 3 I (AO.nil ?_)))))
 exact lf ⟨I, I⟩ ⟨(get_b (by simp only [hg23, hg24, hg25, bz])), I, I, I, I, I, J⟩ [0, 1, 2] I
 rintro s ob ⟨rfl, rfl⟩
 refine AW.ch h I ?_ ?_
 intro hc26 h
 refine AW.z I (AW.ghost (Ghost.nilU 81 3) (AW.ghost (Ghost.pick [3] (K := [.us (.slice none 0 0) 81 3 ([].map Level.row)]) I (by decide)) ?_))
 obtain rfl := oi h
 exact AW.ret ⟨.inr I, [_, _], [.us (.slice none 0 0) 81 3 ([].map Level.row)], ⟨I, I, J⟩, sl_c I (sl_n), ⟨(.slice none 0 0), I, I⟩⟩
 intro hc26 h
 refine AW.skip ?_
 subst hy16
 refine AW.seqG (fun y27 hy27 => ?_)
 obtain ⟨r28, hx29, h⟩ := ob_some h
 refine AW.region (AO.r 2 [.o 0 0] I ⟨I, J⟩ (AO.act [] I (AX.call0 I I I (L.zksz_ok _ _ _ hx29) dS ?_)))
 rintro _ _ ⟨v30, rfl, rfl⟩
 refine AO.q 1 I (AO.nil ?_)
 subst hy27
 refine AW.seqG (fun y31 hy31 => ?_)
 obtain ⟨r32, hx33, h⟩ := ob_some h
 refine AW.region (AO.r 4 [.o 0 0] I ⟨I, J⟩ (AO.ghost (Ghost.freeze [2, 3] (K := [.us v15 46 5 (r13.1.map Product.row), .us v30 3 1 (r28.map rI)]) I [(16, .list 5 (r13.1.map Product.row)), (67, .list 1 (r28.map rI)), (18, .list 1 (r28.map rI)), (70, .list 5 (r13.1.map Product.row)), (71, .list 1 (r28.map rI))] ⟨⟨_, I, .us 0 I⟩, ⟨_, I, .us 1 I⟩, ⟨_, I, .us 1 I⟩, ⟨_, I, .us 0 I⟩, ⟨_, I, .us 1 I⟩, J⟩ (ob' := [.arr b2 77 7 1 [Segment.row s_0], .arr b3 71 2 1 [Bounds.row in_5]]) (.rest _)) (AO.act [] I (AX.call0 I I I (L.zdmv_ok _ _ _ _ _ hx33) dS ?_))))
 rintro _ _ ⟨v34, rfl, rfl⟩
 refine AO.q 1 I (AO.nil ?_)
 subst hy31
 refine AW.seqG (fun y35 hy35 => ?_)
 obtain ⟨r36, hx37, h⟩ := ob_some h
 refine AW.region (AO.q 1 I (AO.act [] I (AX.call0 I I I (L.zvxi_ok _ _ hx37) dS ?_)))
 rintro _ _ ⟨v38, rfl, rfl⟩
 refine AO.q 1 I (AO.nil ?_)
 subst hy35
 refine AW.cutX (fun s ob => ∃ (j69 : (List gradient_part) × (List Int)), L.zuct.J1 s_0 rate_4 in_5 j69 = some r ∧ s = [] ∧ ob = [.arr b2 77 7 1 [Segment.row s_0], .arr b3 71 2 1 [Bounds.row in_5], .us v34 186 8 (j69.1.map gradient_part.row), .us v38 3 1 (j69.2.map rI)]) [(4, _), (6, _), (11, _), (19, _), (20, _)] ⟨I, I, I, I, I, J⟩ ?_ ?_
 refine AW.z I (AW.ch h I ?_ ?_)
 intro hc226 h
 refine AW.seqG (fun y227 hy227 => ?_)
 obtain ⟨r228, hx229, h⟩ := ob_some h
 refine AW.region (AO.q 1 I (AO.act [3] I (AX.c0 [3] (L.zyqm_ok v38 _ _ hx229) ?_)))
 refine AO.nil ?_
 subst hy227
 refine AW.seqG (fun y230 hy230 => ?_)
 obtain ⟨r231, hx232, h⟩ := ob_some h
 refine AW.region (AO.q 1 I (AO.act [2] I (AX.c0 [2] (L.zbxo_ok v34 _ _ hx232) ?_)))
 refine AO.nil ?_
 subst hy230
 refine AW.seqG (fun y233 hy233 => (AW.region (AO.q 1 I (AO.d (Yd.lenUM 2 I I I I) I (AO.q 1 I (AO.nil ?_))))))
 subst hy233
 refine AW.block (AW.usMax 2 I (fun hm236 => ?_))
 replace hm236 : r231.length ≤ 9223372036854775806 := by rw [List.length_map] at hm236; omega
 obtain ⟨o253, hL254, hR255⟩ := ob_some h
 clear h
 refine AW.forJY hL254 [(4, _), (6, _), (11, _), (19, _), (20, _), (82, _)] ⟨I, I, I, I, I, I, J⟩ (fun (k234 : Nat) (st248 : List gradient_part) s ob => s = [(83, .V (k234 : Int))] ∧ ob = [.arr b2 77 7 1 [Segment.row s_0], .arr b3 71 2 1 [Bounds.row in_5], .us v34 186 8 (st248.map gradient_part.row), .us v38 3 1 (r228.map rI)]) ⟨I, I⟩ ⟨I, J⟩ ⟨[0, 1, 2, 3], I, by decide⟩ ?_ ?_
 rintro k234 st248 r257 s ob hk235 ⟨rfl, rfl⟩ h
 unfold L.zuct.B5 at h
 have hk235t : decide ((k234 : Int) < (r231.length : Int)) = true := decide_eq_true (by omega)
 refine AW.z I (AW.seqG (fun y259 hy259 => (AW.condK (v := true) I hk235t (AW.skip ?_))))
 subst hy259
 refine AW.seq (AW.block (AW.z I ?_))
 obtain ⟨p260, hp261, h⟩ := ob_some h
 obtain ⟨hp261i, hp261x⟩ := ix_some hp261
 refine AW.region (AO.q 4 I (AO.d (Yd.indexU 2 (m := p260.1) I I I I I I I hp261i (map_get hp261x)) I (AO.q 1 I (AO.d (Yd.loadU 2 p260.1 2 I I I (map_get hp261x) I (y := .V p260.2.height) I) I (AO.q 1 I (AO.d (Yd.indexU 2 (m := p260.1) I I I I I I I hp261i (map_get hp261x)) I (AO.q 1 I (AO.act [2] I (AX.storeU 2 p260.1 2 I I I (map_get hp261x) I I I I (le_ble I) I (us_set (x := (⟨p260.2.length, p260.2.width, wr (0 - p260.2.height), p260.2.liquid⟩ : gradient_part)) I) (AO.nil (AW.region (AO.r 2 [.k 0 (k234 + 1 : Nat)] I ⟨cast_wr hk235 hm236, J⟩ ?_))))))))))))
 obtain rfl := oi h
 refine AO.nil ?_
 exact lg ⟨I, I⟩ [0, 1, 2, 3]
 rintro st248 s ob ⟨rfl, rfl⟩ he
 subst he
 have h := hR255
 have hk235f : decide (((r231.length : Nat) : Int) < (r231.length : Int)) = false := by simp
 refine AW.z I (AW.seqG (fun y263 hy263 => (AW.condK (v := false) I hk235f (AW.exit ?_))))
 exact lg ⟨(st248, r228), h, I, I⟩ [0, 1, 2, 3]
 intro hc226 h
 refine AW.skip ?_
 exact lg ⟨(r32, r36), h, I, I⟩ [0, 1, 2, 3]
 rintro s ob ⟨j69, h, rfl, rfl⟩
 unfold L.zuct.J1 at h
 refine AW.seqG (fun y70 hy70 => ?_)
 obtain ⟨p71, hp72, h⟩ := ob_some h
 obtain ⟨hp72i, hp72x⟩ := ix_some hp72
 refine AW.form 3 p71.1 I hp72x (fun hf74 => (AW.rd (pd 7 0 [5]) [3, 1] [_, _] I (AP.q 1 I (AP.op I (Yp.indexUf (m := p71.1) I I I I I hf74 I hp72i hp72x) I (AP.o I (Yd.loadU 0 p71.1 0 I I I (map_get hp72x) I (y := .V p71.2) I) I (AP.r 1 [.o 0 1] I ⟨I, J⟩ (AP.op I (Yp.buildP (l := [.V p71.2, .V in_5.Low, .V in_5.High]) Tryz.bld81 I) I (AP.act [] I I I (AX.buildSlice (sz := 3) (es := ([(⟨p71.2, in_5⟩ : Level)] : List Level).map Level.row) I I I I I I I I I I I dS (fun v73 => (AP.q 1 I (AP.ofAO (AO.nil ?_)))))))))))))
 subst hy70
 refine AW.cutX (fun s ob => ∃ (j135 : List Level) (v136 : Value), L.zuct.J2 rate_4 j135 = some r ∧ s = [(22, .v v136)] ∧ ob = [.us v136 81 3 (j135.map Level.row)]) [(4, _)] ⟨I, J⟩ ?_ ?_
 refine AW.seqG (fun y144 hy144 => (AW.region (AO.q 1 I (AO.d (Yd.lenUM 2 I I I I) I (AO.q 1 I (AO.nil ?_))))))
 subst hy144
 refine AW.block (AW.usMax 2 I (fun hm147 => ?_))
 replace hm147 : j69.1.length ≤ 9223372036854775806 := by rw [List.length_map] at hm147; omega
 obtain ⟨o202, hL203, hR204⟩ := ob_some h
 clear h
 refine AW.forJY hL203 [(4, _), (6, _), (11, _), (20, _), (103, _), (104, _)] ⟨I, I, I, I, I, I, J⟩ (fun (k145 : Nat) (st184 : Int × Int × (List Level)) s ob => ∃ (v185 : Value), s = [(105, .V (k145 : Int)), (22, .v v185)] ∧ ob = [.arr b2 77 7 1 [Segment.row s_0], .arr b3 71 2 1 [[.V st184.1, .V st184.2.1]], .us v34 186 8 (j69.1.map gradient_part.row), .us v38 3 1 (j69.2.map rI), .us v185 81 3 (st184.2.2.map Level.row)]) ⟨v73, I, I⟩ ⟨I, I, J⟩ ⟨[0, 1, 2, 3, 4], I, by decide⟩ ?_ ?_
 rintro k145 st184 r206 s ob hk146 ⟨v185, rfl, rfl⟩ h
 unfold L.zuct.B4 at h
 have hk146t : decide ((k145 : Int) < (j69.1.length : Int)) = true := decide_eq_true (by omega)
 refine AW.z I (AW.seqG (fun y208 hy208 => (AW.condK (v := true) I hk146t (AW.skip ?_))))
 subst hy208
 refine AW.seq (AW.block (AW.seqG (fun y209 hy209 => ?_)))
 obtain ⟨p210, hp211, h⟩ := ob_some h
 obtain ⟨hp211i, hp211x⟩ := ix_some hp211
 refine AW.region (AO.q 1 I (AO.d (Yd.indexU 2 (m := p210.1) I I I I I I I hp211i (map_get hp211x)) I (AO.d (Yd.loadU 2 p210.1 0 I I I (map_get hp211x) I (y := .agg (gradient_part.row p210.2)) I) I (AO.act [] I (AX.alloc (cs := [.V 0, .V 0, .V 0, .v (.string ⟨#[]⟩), .V 0, .V 0, .V 0, .V 0]) (m := 8) I I I I I dS (fun b212 => (AO.q 1 I (AO.act [5] I (AX.store 5 0 0 (es' := [gradient_part.row p210.2]) I I I I I I I I (le_ble I) I I (AO.nil ?_))))))))))
 subst hy209
 refine AW.seqG (fun y213 hy213 => ?_)
 obtain ⟨r214, hx215, h⟩ := ob_some h
 refine AW.region (AO.r 6 [.o 0 5, .o 1 0] I ⟨I, I, J⟩ (AO.c (L.zpsp_ok _ _ _ _ hx215) (AO.q 5 I (AO.nil ?_))))
 subst hy213
 refine AW.seq (AW.region (AO.r 8 [.o 1 1, .o 5 1] I ⟨I, I, J⟩ (AO.p (Yp.buildP (l := [.V (wr (st184.1 - r214.2)), .V (wr (st184.2.1 - r214.1))]) Tryz.bld71 I) I (AO.act [1] I (AX.store 1 0 0 (es' := [[.V (wr (st184.1 - r214.2)), .V (wr (st184.2.1 - r214.1))]]) I I I I I I I I (le_ble I) I I (AO.nil ?_))))))
 obtain ⟨p216, hp217, h⟩ := ob_some h
 obtain ⟨hp217i, hp217x⟩ := ix_some hp217
 obtain ⟨l219, hx220, h⟩ := ob_some h
 refine AW.form 3 p216.1 I hp217x (fun hf222 => (AW.rd (pd 11 0 [8, 9]) [3, 1] [_, _] I (AP.r 4 [.k 3 (k145 + 1 : Nat)] I ⟨cast_wr hk146 hm147, J⟩ (AP.op I (Yp.indexUf (m := p216.1) I I I I I hf222 I hp217i hp217x) I (AP.o I (Yd.loadU 0 p216.1 0 I I I (map_get hp217x) I (y := .V p216.2) I) I (AP.r 1 [.o 0 1] I ⟨I, J⟩ (AP.op I (Yp.buildP (l := [.V p216.2, .V (wr (st184.1 - r214.2)), .V (wr (st184.2.1 - r214.1))]) Tryz.bld81 I) I (AP.act [] I I I (AX.lt 3 (([(⟨p216.2, (⟨wr (st184.1 - r214.2), wr (st184.2.1 - r214.1)⟩ : Bounds)⟩ : Level)] : List Level).map Level.row) (AP.act [4] I I I (AX.ap 4 I hx220 (fun v221 => (AP.eraS 22 (AP.q 1 I (AP.ofAO (AO.nil ?_))))))))))))))))
 refine AW.region (AO.r 2 [.k 0 (k145 + 1 : Nat)] I ⟨cast_wr hk146 hm147, J⟩ ?_)
 obtain rfl := oi h
 refine AO.nil ?_
 exact lg ⟨v221, I, I⟩ [0, 1, 2, 3, 4]
 rintro st184 s ob ⟨v185, rfl, rfl⟩ he
 subst he
 have h := hR204
 have hk146f : decide (((j69.1.length : Nat) : Int) < (j69.1.length : Int)) = false := by simp
 refine AW.z I (AW.seqG (fun y224 hy224 => (AW.condK (v := false) I hk146f (AW.exit ?_))))
 exact lg ⟨st184.2.2, v185, h, I, I⟩ [4]
 rintro s ob ⟨j135, v136, h, rfl, rfl⟩
 unfold L.zuct.J2 at h
 refine AW.cutX (fun s ob => ∃ (j140 : List Level), L.zuct.J3 j140 = some r ∧ s = [] ∧ ob = [.us v136 81 3 (j140.map Level.row)]) [(22, _)] ⟨I, J⟩ ?_ ?_
 refine AW.z I (AW.ch h I ?_ ?_)
 intro hc141 h
 obtain ⟨r142, hx143, h⟩ := ob_some h
 refine AW.region (AO.q 1 I (AO.act [0] I (AX.c0 [0] (L.zaagu_ok v136 _ _ hx143) ?_)))
 refine AO.nil ?_
 exact lg ⟨r142, h, I, I⟩ [0]
 intro hc141 h
 refine AW.skip ?_
 exact lg ⟨j135, h, I, I⟩ [0]
 rintro s ob ⟨j140, h, rfl, rfl⟩
 unfold L.zuct.J3 at h
 refine AW.z I ?_
 obtain rfl := oi h
 exact AW.ret ⟨.inr I, [_, _], [.us v136 81 3 (j140.map Level.row)], ⟨I, I, J⟩, sl_c I (sl_n), ⟨v136, I, I⟩⟩
end Go.Proofs.YtehbcbedipkifaaGreatDoor
