/- Walks that show what functions of the program compute; printed by a program of ours. No condition. -/
import Derived.Test.YtehbcbedipkifaaGreatDoorZxLg2
import Derived.Test.YtehbcbedipkifaaGreatDoorZxD
set_option maxRecDepth 100000
namespace Go.Proofs.YtehbcbedipkifaaGreatDoor
open Go.Aw
set_option linter.unusedVariables false
set_option linter.unusedSimpArgs false
set_option maxHeartbeats 4000000
theorem L.zyyp_ok (n_0 : Network) (p_1 : Plan) (r : (List Int) × Int) (h : L.zyyp n_0 p_1 = some r) : ACalls Tryz.env 44 [.agg (Network.row n_0), .agg (Plan.row p_1)] [] (fun x new => ∃ (u0 : Value), x = .tup [.v u0, .V r.2] ∧ new = [.us u0 3 1 (r.1.map rI)]) := by
 refine ACalls.of_body Tryz.func44 rfl rfl rfl (fun C hC => ?_)
 unfold L.zyyp at h
 refine AW.seqG (fun y1 hy1 => (AW.region (AO.act [] I (AX.box (cs := Network.row n_0) (m := 6) I I I dS (fun b2 => (AO.act [] I (AX.box (cs := Plan.row p_1) (m := 3) I I I dS (fun b3 => (AO.q 2 I (AO.nil ?_))))))))))
 subst hy1
 refine AW.seq (AW.seq ?_)
 obtain ⟨r4, hx5, h⟩ := ob_some h
 refine AW.region (AO.r 2 [.o 0 0, .o 1 1] I ⟨I, I, J⟩ (AO.c (L.zmqu_ok _ _ _ hx5) (AO.q 1 I (AO.nil (AW.z I (AW.ch h I ?_ ?_))))))
 intro hc6 h
 refine AW.z I (AW.ghost (Ghost.nilU 3 1) (AW.ghost (Ghost.pick [2] (K := [.us (.slice none 0 0) 3 1 ([].map rI)]) I (by decide)) ?_))
 obtain rfl := oi h
 exact AW.ret ⟨.inr I, [_, _], [.us (.slice none 0 0) 3 1 ([].map rI)], ⟨I, I, J⟩, sl_c I (sl_n), ⟨(.slice none 0 0), I, I⟩⟩
 intro hc6 h
 refine AW.skip (AW.seq ?_)
 obtain ⟨r7, hx8, h⟩ := ob_some h
 refine AW.region (AO.r 2 [.o 0 0, .o 1 1] I ⟨I, I, J⟩ (AO.act [] I (AX.call0 I I I (L.zsgw_ok _ _ _ hx8) dS ?_)))
 rintro _ _ ⟨v9, rfl, rfl⟩
 refine AO.q 2 I (AO.nil (AW.ghost (Ghost.pick [2] (K := [.us v9 3 1 (r7.map rI)]) I (by decide)) ?_))
 obtain rfl := oi h
 exact AW.ret ⟨.inr I, [_, _], [.us v9 3 1 (r7.map rI)], ⟨I, I, J⟩, sl_c I (sl_n), ⟨v9, I, I⟩⟩
theorem L.zvuy_ok (s_0 : List (List Piece)) (F1 : T) {f1 : FuncId} {p1 s1 : List T} (h1 : fnT F1 = some (f1, p1, s1)) (g1 : (List Piece) → Option Bool) (hg1 : ∀ (y0 : List Piece) r, g1 y0 = some r → ACalls Tryz.env f1 (p1 ++ [.list 2 (y0.map Piece.row)] ++ s1) [] (fun x new => x = .v (.bool r) ∧ new = [])) (r : Int) (h : L.zvuy s_0 g1 = some r) : ACalls Tryz.env 118 [.list 1 (s_0.map (rL 2 Piece.row)), F1] [] (fun x new => x = .V r ∧ new = []) := by
 refine ACalls.of_body Tryz.func118 rfl rfl rfl (fun C hC => ?_)
 unfold L.zvuy at h
 refine AW.z I (AW.cutX (fun s ob => ∃ (j24 : Unit), L.zvuy.J1 j24 = some r ∧ s = [] ∧ ob = []) [] J ?_ ?_)
 refine AW.zr [.l 1 (s_0.length : Int)] I ⟨len_m, J⟩ (AW.block (AW.listMax 6 I (fun hm28 => ?_)))
 replace hm28 : s_0.length ≤ 9223372036854775806 := by rw [List.length_map] at hm28; omega
 obtain ⟨o45, hL46, hR47⟩ := ob_some h
 clear h
 refine AW.forX hL46 [(0, _), (1, _), (7, _)] ⟨I, I, I, J⟩ (fun (k26 : Nat) (st38 : Unit) s ob => s = [(8, .V (k26 : Int))] ∧ ob = []) ⟨I, I⟩ ⟨I, J⟩ ⟨[], I, by decide⟩ ?_ ?_
 rintro k26 x29 st38 r49 s ob hx30 hk27 ⟨rfl, rfl⟩ h hb48
 unfold L.zvuy.B2 at h
 have hk27t : decide ((k26 : Int) < (s_0.length : Int)) = true := decide_eq_true (by omega)
 refine AW.z I (AW.seqG (fun y51 hy51 => (AW.condK (v := true) I hk27t (AW.skip ?_))))
 subst hy51
 refine AW.seq (AW.block (AW.z I (AW.seq ?_)))
 obtain ⟨r53, hx54, h⟩ := ob_some h
 refine AW.region (AO.r 5 [.x 3 k26 ((rL 2 Piece.row) x29)] I ⟨⟨I, map_get hx30⟩, J⟩ (AO.act [] I (AX.callL I (.refl _) h1 I (.rest _) I (hg1 _ _ hx54) dS (by rintro _ _ ⟨rfl, _⟩; rfl) ?_)))
 rintro _ ⟨_, rfl, -⟩
 refine AO.nil (AW.ch h I ?_ ?_)
 intro hc55 h
 refine AW.z I ?_
 obtain rfl := hb48 _ (oi h).symm
 replace h := hR47
 replace h := se_r h
 obtain rfl := oi h
 exact AW.ret pr
 intro hc55 h
 refine AW.skip (AW.region (AO.r 2 [.k 0 (k26 + 1 : Nat)] I ⟨cast_wr hk27 hm28, J⟩ ?_))
 obtain rfl := oi h
 refine AO.nil ?_
 exact ⟨_, _, _, I, ⟨I, I⟩, ⟨I, I, I, I, J⟩, [], I, by decide⟩
 rintro st38 s ob ⟨rfl, rfl⟩ he
 subst he
 have h := se_l hR47
 have hk27f : decide (((s_0.length : Nat) : Int) < (s_0.length : Int)) = false := by simp
 refine AW.z I (AW.seqG (fun y57 hy57 => (AW.condK (v := false) I hk27f (AW.exit ?_))))
 exact lg ⟨(), h, I, I⟩ []
 rintro s ob ⟨j24, h, rfl, rfl⟩
 unfold L.zvuy.J1 at h
 refine AW.z I ?_
 obtain rfl := oi h
 exact AW.ret pr
theorem L.zbxi_ok (s_0 : List (List Piece)) (F1 : T) {f1 : FuncId} {p1 s1 : List T} (h1 : fnT F1 = some (f1, p1, s1)) (g1 : (List Piece) → Option Bool) (hg1 : ∀ (y0 : List Piece) r, g1 y0 = some r → ACalls Tryz.env f1 (p1 ++ [.list 2 (y0.map Piece.row)] ++ s1) [] (fun x new => x = .v (.bool r) ∧ new = [])) (r : Bool) (h : L.zbxi s_0 g1 = some r) : ACalls Tryz.env 77 [.list 1 (s_0.map (rL 2 Piece.row)), F1] [] (fun x new => x = .v (.bool r) ∧ new = []) := by
 refine ACalls.of_body Tryz.func77 rfl rfl rfl (fun C hC => ?_)
 unfold L.zbxi at h
 refine AW.z I (AW.seq ?_)
 obtain ⟨r1, hx2, h⟩ := ob_some h
 refine AW.region (AO.q 2 I (AO.c (L.zvuy_ok _ F1 h1 g1 hg1 _ hx2) (AO.q 2 I (AO.nil ?_))))
 obtain rfl := oi h
 exact AW.ret pr
theorem L.zfxs_ok (f_0 : List Piece) (r : Bool) (h : L.zfxs f_0 = some r) : ACalls Tryz.env 78 [.list 2 (f_0.map Piece.row)] [] (fun x new => x = .v (.bool r) ∧ new = []) := by
 refine ACalls.of_body Tryz.func78 rfl rfl rfl (fun C hC => ?_)
 unfold L.zfxs at h
 refine AW.z I (AW.seq ?_)
 obtain ⟨r1, hx2, h⟩ := ob_some h
 refine AW.region (AO.q 1 I (AO.c (L.zqwg_ok _ _ hx2) (AO.q 2 I (AO.nil ?_))))
 obtain rfl := oi h
 exact AW.ret pr
theorem L.zspo_ok (n_0 : Network) (fills_1 : List (List Piece)) (r : Int) (h : L.zspo n_0 fills_1 = some r) : ACalls Tryz.env 45 [.agg (Network.row n_0), .list 1 (fills_1.map (rL 2 Piece.row))] [] (fun x new => x = .V r ∧ new = []) := by
 refine ACalls.of_body Tryz.func45 rfl rfl rfl (fun C hC => ?_)
 unfold L.zspo at h
 refine AW.seqG (fun y1 hy1 => (AW.region (AO.act [] I (AX.box (cs := Network.row n_0) (m := 6) I I I dS (fun b2 => (AO.q 1 I (AO.nil ?_)))))))
 subst hy1
 refine AW.seqG (fun y3 hy3 => (AW.seq ?_))
 obtain ⟨r4, hx5, h⟩ := ob_some h
 refine AW.region (AO.r 1 [.o 0 0] I ⟨I, J⟩ (AO.c (L.zfta_ok _ _ hx5) (AO.q 1 I (AO.nil (AW.z I (AW.ch h I ?_ ?_))))))
 intro hc6 h
 refine AW.z I (AW.ghost g0 ?_)
 obtain rfl := oi h
 exact AW.ret pr
 intro hc6 h
 refine AW.skip ?_
 subst hy3
 refine AW.seqG (fun y7 hy7 => (AW.cutX (fun s ob => ∃ (j11 : Bool), L.zspo.J1 n_0 fills_1 j11 = some r ∧ s = [(22, .v (.bool j11))] ∧ ob = [.arr b2 27 6 1 [Network.row n_0]]) [(1, _), (2, _)] ⟨I, I, J⟩ ?_ ?_))
 refine AW.region (AO.r 7 [.l 1 (fills_1.length : Int), .o 3 0, .l 4 (n_0.Segments.length : Int)] I ⟨len_m, I, len_m, J⟩ ?_)
 rcases bt (((fills_1.length : Int) != (n_0.Segments.length : Int))) with hg80 | hg80
 replace h := ife_t hg80 h
 refine AO.known 19 I hg80 (AO.q 3 I (AO.nil ?_))
 exact lg ⟨true, h, I, I⟩ [0]
 replace h := ife_f hg80 h
 obtain ⟨r81, hx82, h⟩ := ob_some h
 refine AO.known 19 I hg80 (AO.q 1 I (AO.gt I I I (AO.c (L.zbxi_ok _ (.v (.func (.func 78) #[] #[])) I (fun x => L.zfxs x) (fun x r h => L.zfxs_ok x r h) _ hx82) (AO.q 1 I (AO.nil ?_)))))
 exact lg ⟨r81, h, I, I⟩ [0]
 rintro s ob ⟨j11, h, rfl, rfl⟩
 unfold L.zspo.J1 at h
 refine AW.ch h I ?_ ?_
 intro hc12 h
 refine AW.z I (AW.ghost g0 ?_)
 obtain rfl := oi h
 exact AW.ret pr
 intro hc12 h
 refine AW.skip ?_
 subst hy7
 refine AW.cutX (fun s ob => ∃ (j39 : Unit), L.zspo.J2 j39 = some r ∧ s = [] ∧ ob = []) [] J ?_ ?_
 refine AW.zr [.l 1 (fills_1.length : Int)] I ⟨len_m, J⟩ (AW.block (AW.listMax 23 I (fun hm43 => ?_)))
 replace hm43 : fills_1.length ≤ 9223372036854775806 := by rw [List.length_map] at hm43; omega
 obtain ⟨o64, hL65, hR66⟩ := ob_some h
 clear h
 refine AW.forX hL65 [(2, _), (23, _), (24, _)] ⟨I, I, I, J⟩ (fun (k41 : Nat) (st55 : Unit) s ob => s = [(25, .V (k41 : Int))] ∧ ob = [.arr b2 27 6 1 [Network.row n_0]]) ⟨I, I⟩ ⟨I, J⟩ ⟨[0], I, by decide⟩ ?_ ?_
 rintro k41 x44 st55 r68 s ob hx45 hk42 ⟨rfl, rfl⟩ h hb67
 unfold L.zspo.B3 at h
 have hk42t : decide ((k41 : Int) < (fills_1.length : Int)) = true := decide_eq_true (by omega)
 refine AW.z I (AW.seqG (fun y70 hy70 => (AW.condK (v := true) I hk42t (AW.skip ?_))))
 subst hy70
 refine AW.seq (AW.block (AW.zr [.x 1 k41 ((rL 2 Piece.row) x44)] I ⟨⟨I, map_get hx45⟩, J⟩ (AW.seq ?_)))
 obtain ⟨r72, hx73, h⟩ := ob_some h
 obtain ⟨p74, hp75, h⟩ := ob_some h
 obtain ⟨hp75i, hp75x⟩ := ix_some hp75
 refine AW.rd (.still 0 (.still 2 (.still 3 (.still 4 (.still 5 (.still 6 (.still 7 (.act 1 (.still 8 .nil))))))))) [0] [_] I (AP.r 7 [.o 2 0, .x 4 p74.1 (Segment.row p74.2)] I ⟨⟨hp75i, map_get hp75x⟩, I, J⟩ (AP.c I (L.zryf_ok _ _ hx73) (AP.q 1 I (AP.ofAO (AO.nil (AW.ch h I ?_ ?_))))))
 intro hc76 h
 refine AW.z I ?_
 obtain rfl := hb67 _ (oi h).symm
 replace h := hR66
 replace h := se_r h
 refine AW.ghost g0 ?_
 obtain rfl := oi h
 exact AW.ret pr
 intro hc76 h
 refine AW.skip (AW.region (AO.r 2 [.k 0 (k41 + 1 : Nat)] I ⟨cast_wr hk42 hm43, J⟩ ?_))
 obtain rfl := oi h
 refine AO.nil ?_
 exact ⟨_, _, _, I, ⟨I, I⟩, ⟨I, I, I, I, J⟩, [0], I, by decide⟩
 rintro st55 s ob ⟨rfl, rfl⟩ he
 subst he
 have h := se_l hR66
 have hk42f : decide (((fills_1.length : Nat) : Int) < (fills_1.length : Int)) = false := by simp
 refine AW.z I (AW.seqG (fun y78 hy78 => (AW.condK (v := false) I hk42f (AW.exit ?_))))
 exact lg ⟨(), h, I, I⟩ []
 rintro s ob ⟨j39, h, rfl, rfl⟩
 unfold L.zspo.J2 at h
 refine AW.z I ?_
 obtain rfl := oi h
 exact AW.ret pr
theorem L.zack_ok (n_0 : Int) (most_1 : Int) (r : Bool) (h : L.zack n_0 most_1 = r) : ACalls Tryz.env 176 [.V n_0, .V most_1] [] (fun x new => x = .v (.bool r) ∧ new = []) := by
 refine ACalls.of_body Tryz.func176 rfl rfl rfl (fun C hC => ?_)
 unfold L.zack at h
 refine AW.z I (AW.cutX (fun s ob => s = [(4, .v (.bool (decide (n_0 ≥ 0) && decide (n_0 ≤ most_1))))] ∧ ob = []) [] J ?_ ?_)
 refine AW.region (AO.q 3 I ?_)
 rcases bt (decide (n_0 ≥ 0)) with hg3 | hg3
 refine AO.known 7 I hg3 (AO.q 5 I (AO.nil ?_))
 exact lf ⟨I, I⟩ ⟨(get_b (by simp only [hg3, bz])), J⟩ [] I
 refine AO.known 7 I hg3 (AO.q 5 I (AO.nil ?_))
 exact lf ⟨I, I⟩ ⟨(get_b (by simp only [hg3, bz])), J⟩ [] I
 rintro s ob ⟨rfl, rfl⟩
 obtain rfl := h
 exact AW.ret pr
theorem L.zsmw_ok (s_0 : Station) (r : Bool) (h : L.zsmw s_0 = some r) : ACalls Tryz.env 169 [.agg (Station.row s_0)] [] (fun x new => x = .v (.bool r) ∧ new = []) := by
 refine ACalls.of_body Tryz.func169 rfl rfl rfl (fun C hC => ?_)
 unfold L.zsmw at h
 refine AW.seqG (fun y1 hy1 => (AW.region (AO.act [] I (AX.box (cs := Station.row s_0) (m := 5) I I I dS (fun b2 => (AO.q 1 I (AO.nil ?_)))))))
 subst hy1
 refine AW.z I (AW.cutX (fun s ob => ∃ (j10 : Bool), L.zsmw.J1 j10 = some r ∧ s = [(2, .v (.bool j10))] ∧ ob = []) [] J ?_ ?_)
 obtain ⟨r11, hx12, h⟩ := ob_some h
 refine AW.region (AO.r 2 [.o 1 0] I ⟨I, J⟩ (AO.c (L.zcvq_ok _ _ hx12) (AO.q 1 I ?_)))
 rcases bt (r11) with hg13 | hg13
 replace h := ife_t hg13 h
 refine AO.known 7 I hg13 (AO.r 3 [.o 2 0] I ⟨I, J⟩ (AO.gt I I I (AO.c (L.zack_ok s_0.Node 23 _ I) (AO.q 2 I ?_))))
 rcases bt ((L.zack s_0.Node 23)) with hg14 | hg14
 replace h := ife_t hg14 h
 refine AO.known 13 I hg14 (AO.r 3 [.o 2 0] I ⟨I, J⟩ (AO.gt I I I (AO.c (L.zack_ok s_0.Head 100000000 _ I) (AO.q 2 I ?_))))
 rcases bt ((L.zack s_0.Head 100000000)) with hg15 | hg15
 replace h := ife_t hg15 h
 refine AO.known 19 I hg15 (AO.r 3 [.o 2 0] I ⟨I, J⟩ (AO.gt I I I (AO.c (L.zack_ok s_0.Fall 100000 _ I) (AO.q 2 I ?_))))
 rcases bt ((L.zack s_0.Fall 100000)) with hg16 | hg16
 replace h := ife_t hg16 h
 refine AO.known 25 I hg16 (AO.r 3 [.o 2 0] I ⟨I, J⟩ (AO.gt I I I (AO.c (L.zack_ok s_0.Suction 100000000 _ I) (AO.q 2 I (AO.nil ?_)))))
 exact lg ⟨(L.zack s_0.Suction 100000000), h, I, I⟩ []
 replace h := ife_f hg16 h
 refine AO.known 25 I hg16 (AO.q 6 I (AO.nil ?_))
 exact lg ⟨false, h, I, I⟩ []
 replace h := ife_f hg15 h
 refine AO.known 19 I hg15 (AO.q 12 I (AO.nil ?_))
 exact lg ⟨false, h, I, I⟩ []
 replace h := ife_f hg14 h
 refine AO.known 13 I hg14 (AO.q 18 I (AO.nil ?_))
 exact lg ⟨false, h, I, I⟩ []
 replace h := ife_f hg13 h
 refine AO.known 7 I hg13 (AO.q 24 I (AO.nil ?_))
 exact lg ⟨false, h, I, I⟩ []
 rintro s ob ⟨j10, h, rfl, rfl⟩
 unfold L.zsmw.J1 at h
 obtain rfl := oi h
 exact AW.ret pr
theorem L.zlvv_ok (p_0 : station_pump) (rate_1 : Int) (r : Int) (h : L.zlvv p_0 rate_1 = some r) : ACalls Tryz.env 170 [.agg (station_pump.row p_0), .V rate_1] [] (fun x new => x = .V r ∧ new = []) := by
 refine ACalls.of_body Tryz.func170 rfl rfl rfl (fun C hC => ?_)
 unfold L.zlvv at h
 refine AW.seqG (fun y1 hy1 => (AW.region (AO.act [] I (AX.box (cs := station_pump.row p_0) (m := 5) I I I dS (fun b2 => (AO.q 1 I (AO.nil ?_)))))))
 subst hy1
 refine AW.seq ?_
 obtain ⟨r3, hx4, h⟩ := ob_some h
 refine AW.rd (pd 14 0 [10]) [0] [_] I (AP.r 10 [.o 2 0, .o 5 0] I ⟨I, I, J⟩ (AP.c I (L.zwdf_ok _ _ _ hx4) (AP.q 2 I (AP.eraS 4 (AP.q 1 I (AP.ofAO (AO.nil (AW.ghost g0 ?_))))))))
 obtain rfl := oi h
 exact AW.ret pr
theorem L.zdzr_ok (s_0 : Station) (rate_1 : Int) (r : Int × Int) (h : L.zdzr s_0 rate_1 = some r) : ACalls Tryz.env 160 [.agg (Station.row s_0), .V rate_1] [] (fun x new => x = .tup [.V r.1, .V r.2] ∧ new = []) := by
 refine ACalls.of_body Tryz.func160 rfl rfl rfl (fun C hC => ?_)
 unfold L.zdzr at h
 refine AW.seqG (fun y1 hy1 => (AW.region (AO.act [] I (AX.box (cs := Station.row s_0) (m := 5) I I I dS (fun b2 => (AO.q 2 I (AO.nil ?_)))))))
 subst hy1
 refine AW.seqG (fun y3 hy3 => (AW.seq ?_))
 obtain ⟨r4, hx5, h⟩ := ob_some h
 refine AW.region (AO.r 1 [.o 0 0] I ⟨I, J⟩ (AO.c (L.zsmw_ok _ _ hx5) (AO.q 1 I (AO.nil (AW.ch h I ?_ ?_)))))
 intro hc6 h
 refine AW.z I (AW.ghost g0 ?_)
 obtain rfl := oi h
 exact AW.ret ⟨.inr I, [_, _], [], ⟨I, I, J⟩, sl_n, I, I⟩
 intro hc6 h
 refine AW.skip ?_
 subst hy3
 refine AW.seq (AW.cutX (fun s ob => s = [(14, .v (.bool (decide (rate_1 < 0) || decide (rate_1 > 32000))))] ∧ ob = [.arr b2 83 5 1 [Station.row s_0]]) [(1, _), (2, _)] ⟨I, I, J⟩ ?_ ?_)
 refine AW.region (AO.q 3 I ?_)
 rcases bt (decide (rate_1 < 0)) with hg9 | hg9
 refine AO.known 11 I hg9 (AO.q 3 I (AO.nil ?_))
 exact lf ⟨I, I⟩ ⟨(get_b (by simp only [hg9, bz])), I, I, J⟩ [0] I
 refine AO.known 11 I hg9 (AO.q 3 I (AO.nil ?_))
 exact lf ⟨I, I⟩ ⟨(get_b (by simp only [hg9, bz])), I, I, J⟩ [0] I
 rintro s ob ⟨rfl, rfl⟩
 refine AW.ch h I ?_ ?_
 intro hc10 h
 refine AW.z I (AW.ghost g0 ?_)
 obtain rfl := oi h
 exact AW.ret ⟨.inr I, [_, _], [], ⟨I, I, J⟩, sl_n, I, I⟩
 intro hc10 h
 refine AW.skip (AW.seq ?_)
 obtain ⟨r11, hx12, h⟩ := ob_some h
 refine AW.region (AO.r 1 [.o 0 0] I ⟨I, J⟩ (AO.p (Yp.buildP (l := [.v (.string s_0.Name), .V s_0.Node, .V s_0.Head, .V s_0.Fall, .V s_0.Suction]) Tryz.bld207 I) I (AO.q 1 I (AO.c (L.zlvv_ok _ _ _ hx12) (AO.q 2 I (AO.nil (AW.ghost g0 ?_)))))))
 obtain rfl := oi h
 exact AW.ret ⟨.inr I, [_, _], [], ⟨I, I, J⟩, sl_n, I, I⟩
theorem L.zzlp_ok (s_0 : Station) (b_1 : Bounds) (rate_2 : Int) (r : Bounds × Int) (h : L.zzlp s_0 b_1 rate_2 = some r) : ACalls Tryz.env 124 [.agg (Station.row s_0), .agg (Bounds.row b_1), .V rate_2] [] (fun x new => x = .tup [.agg (Bounds.row r.1), .V r.2] ∧ new = []) := by
 refine ACalls.of_body Tryz.func124 rfl rfl rfl (fun C hC => ?_)
 unfold L.zzlp at h
 refine AW.seqG (fun y1 hy1 => (AW.region (AO.act [] I (AX.box (cs := Station.row s_0) (m := 5) I I I dS (fun b2 => (AO.act [] I (AX.box (cs := Bounds.row b_1) (m := 2) I I I dS (fun b3 => (AO.act [] I (AX.alloc (cs := [.V 0, .V 0]) (m := 2) I I I I I dS (fun b4 => (AO.q 1 I (AO.nil ?_)))))))))))))
 subst hy1
 refine AW.seqG (fun y5 hy5 => ?_)
 obtain ⟨r6, hx7, h⟩ := ob_some h
 refine AW.region (AO.r 2 [.o 0 0] I ⟨I, J⟩ (AO.c (L.zdzr_ok _ _ _ hx7) (AO.q 5 I (AO.nil ?_))))
 subst hy5
 refine AW.seqG (fun y8 hy8 => (AW.z I (AW.ch h I ?_ ?_)))
 intro hc9 h
 refine AW.seq (AW.region (AO.p (Yp.buildP (l := [.V 0, .V 0]) Tryz.bld71 I) I (AO.q 1 I (AO.act [2] I (AX.store 2 0 0 (es' := [[.V 0, .V 0]]) I I I I I I I I (le_ble I) I I (AO.q 1 I (AO.nil (AW.ghost (Ghost.pick [2] (K := [.arr b4 71 2 1 [[.V 0, .V 0]]]) I (by decide)) ?_))))))))
 obtain rfl := oi h
 exact AW.ret ⟨.inr I, [_, _], [], ⟨⟨0, _, _, _, _, _, _, _, I, I, I, I, I⟩, I, J⟩, sl_n, I, I⟩
 intro hc9 h
 refine AW.skip ?_
 subst hy8
 refine AW.seqG (fun y10 hy10 => (AW.cutX (fun s ob => s = [(34, .v (.bool (decide (b_1.Low > b_1.High) || (decide (b_1.Low < (-1125899906842624)) || decide (b_1.High > 1125899906842624)))))] ∧ ob = [.arr b3 71 2 1 [Bounds.row b_1], .arr b4 71 2 1 [[.V 0, .V 0]]]) [(4, _), (6, _), (8, _)] ⟨I, I, I, J⟩ ?_ ?_))
 refine AW.region (AO.r 6 [.o 1 1, .o 3 1] I ⟨I, I, J⟩ ?_)
 rcases bt (decide (b_1.Low > b_1.High)) with hg14 | hg14
 refine AO.known 25 I hg14 (AO.q 9 I (AO.nil ?_))
 exact lf ⟨I, I⟩ ⟨(get_b (by simp only [hg14, bz])), I, I, I, J⟩ [1, 2] I
 refine AO.known 25 I hg14 (AO.r 5 [.o 1 1] I ⟨I, J⟩ ?_)
 rcases bt (decide (b_1.Low < (-1125899906842624))) with hg15 | hg15
 refine AO.known 30 I hg15 (AO.q 4 I (AO.nil ?_))
 exact lf ⟨I, I⟩ ⟨(get_b (by simp only [hg14, hg15, bz])), I, I, I, J⟩ [1, 2] I
 refine AO.known 30 I hg15 (AO.r 4 [.o 1 1] I ⟨I, J⟩ (AO.nil ?_))
 exact lf ⟨I, I⟩ ⟨(get_b (by simp only [hg14, hg15, bz])), I, I, I, J⟩ [1, 2] I
 rintro s ob ⟨rfl, rfl⟩
 refine AW.ch h I ?_ ?_
 intro hc16 h
 refine AW.seq (AW.region (AO.p (Yp.buildP (l := [.V 0, .V 0]) Tryz.bld71 I) I (AO.act [1] I (AX.store 1 0 0 (es' := [[.V 0, .V 0]]) I I I I I I I I (le_ble I) I I (AO.q 1 I (AO.nil (AW.ghost (Ghost.pick [1] (K := [.arr b4 71 2 1 [[.V 0, .V 0]]]) I (by decide)) ?_)))))))
 obtain rfl := oi h
 exact AW.ret ⟨.inr I, [_, _], [], ⟨⟨0, _, _, _, _, _, _, _, I, I, I, I, I⟩, I, J⟩, sl_n, I, I⟩
 intro hc16 h
 refine AW.skip ?_
 subst hy10
 refine AW.seq (AW.region (AO.r 8 [.o 1 0, .o 5 0] I ⟨I, I, J⟩ (AO.p (Yp.buildP (l := [.V (wr (b_1.Low + r6.1)), .V (wr (b_1.High + r6.1))]) Tryz.bld71 I) I (AO.act [1] I (AX.store 1 0 0 (es' := [[.V (wr (b_1.Low + r6.1)), .V (wr (b_1.High + r6.1))]]) I I I I I I I I (le_ble I) I I (AO.q 1 I (AO.nil (AW.ghost (Ghost.pick [1] (K := [.arr b4 71 2 1 [[.V (wr (b_1.Low + r6.1)), .V (wr (b_1.High + r6.1))]]]) I (by decide)) ?_))))))))
 obtain rfl := oi h
 exact AW.ret ⟨.inr I, [_, _], [], ⟨⟨0, _, _, _, _, _, _, _, I, I, I, I, I⟩, I, J⟩, sl_n, I, I⟩
theorem L.zokq_ok (batch_0 : Int) (batches_1 : List Batch) (products_2 : List Product) (r : Bool) (h : L.zokq batch_0 batches_1 products_2 = some r) : ACalls Tryz.env 49 [.V batch_0, .list 4 (batches_1.map Batch.row), .list 5 (products_2.map Product.row)] [] (fun x new => x = .v (.bool r) ∧ new = []) := by
 refine ACalls.of_body Tryz.func49 rfl rfl rfl (fun C hC => ?_)
 unfold L.zokq at h
 refine AW.z I (AW.cutX (fun s ob => ∃ (j6 : Bool), L.zokq.J1 j6 = some r ∧ s = [(6, .v (.bool j6))] ∧ ob = []) [] J ?_ ?_)
 refine AW.region (AO.r 5 [.l 2 (batches_1.length : Int)] I ⟨len_m, J⟩ ?_)
 rcases bt (decide (batch_0 < (batches_1.length : Int))) with hg7 | hg7
 replace h := ife_t hg7 h
 obtain ⟨p8, hp9, h⟩ := ob_some h
 obtain ⟨hp9i, hp9x⟩ := ix_some hp9
 refine AO.known 11 I hg7 (AO.r 8 [.x 2 p8.1 (Batch.row p8.2)] I ⟨⟨hp9i, map_get hp9x⟩, J⟩ ?_)
 rcases bt (decide (p8.2.Product ≥ 0)) with hg10 | hg10
 replace h := ife_t hg10 h
 refine AO.known 19 I hg10 (AO.r 10 [.x 2 p8.1 (Batch.row p8.2), .l 6 (products_2.length : Int)] I ⟨len_m, ⟨hp9i, map_get hp9x⟩, J⟩ (AO.nil ?_))
 exact lg ⟨decide (p8.2.Product < (products_2.length : Int)), h, I, I⟩ []
 replace h := ife_f hg10 h
 refine AO.known 19 I hg10 (AO.q 10 I (AO.nil ?_))
 exact lg ⟨false, h, I, I⟩ []
 replace h := ife_f hg7 h
 refine AO.known 11 I hg7 (AO.q 18 I (AO.nil ?_))
 exact lg ⟨false, h, I, I⟩ []
 rintro s ob ⟨j6, h, rfl, rfl⟩
 unfold L.zokq.J1 at h
 obtain rfl := oi h
 exact AW.ret pr
end Go.Proofs.YtehbcbedipkifaaGreatDoor
