/- Walks that show what functions of the program compute; printed by a program of ours. No condition. -/
import Derived.Test.YtndfiddakngjdaaL2
import Derived.Test.YtndfiddakngjdaaDq
namespace Go.Proofs.Ytndfiddakngjdaa
open Go.Aw
set_option linter.unusedVariables false
set_option linter.unusedSimpArgs false
set_option maxRecDepth 100000
set_option maxHeartbeats 4000000

theorem L.slices_IndexFunc_api_Path_api_Path_ok (s_0 : List Path) (F1 : T) {f1 : FuncId} {p1 s1 : List T} (h1 : fnT F1 = some (f1, p1, s1)) (g1 : Path → Option Bool) (hg1 : ∀ (y0 : Path) r, g1 y0 = some r → ACalls Try.env f1 (p1 ++ [.agg (Path.row y0)] ++ s1) [] (fun x new => x = .v (.bool r) ∧ new = [])) (r : Int) (h : L.slices_IndexFunc_api_Path_api_Path s_0 g1 = some r) : ACalls Try.env 120 [.list 4 (s_0.map Path.row), F1] [] (fun x new => x = .v (.int .i64 r) ∧ new = []) := by
 refine ACalls.of_body Try.func120 rfl rfl rfl (fun C hC => ?_)
 unfold L.slices_IndexFunc_api_Path_api_Path at h
 refine AW.z I (AW.cutX (fun s ob => ∃ (j24 : Unit), L.slices_IndexFunc_api_Path_api_Path.J1 j24 = some r ∧ s = [] ∧ ob = []) [] trivial ?_ ?_)
 refine AW.zr [.l 1 (s_0.length : Int)] I ⟨len_m, trivial⟩ (AW.block (AW.listMax 6 I (fun hm28 => ?_)))
 replace hm28 : s_0.length ≤ 9223372036854775806 := by rw [List.length_map] at hm28; omega
 obtain ⟨o45, hL46, hR47⟩ := ob_some h
 clear h
 refine AW.forX hL46 [(0, _), (1, _), (7, _)] ⟨I, I, I, trivial⟩ (fun (k26 : Nat) (st38 : Unit) s ob => s = [(8, .v (.int .i64 (k26 : Int)))] ∧ ob = []) ⟨I, I⟩ ⟨I, trivial⟩ ⟨[], I, by decide⟩ ?_ ?_
 rintro k26 x29 st38 r49 s ob hx30 hk27 ⟨rfl, rfl⟩ h hb48
 unfold L.slices_IndexFunc_api_Path_api_Path.B2 at h
 have hk27t : decide ((k26 : Int) < (s_0.length : Int)) = true := by simp; omega
 refine AW.z I (AW.seqG (fun y51 hy51 => (AW.condK (v := true) I hk27t (AW.skip ?_))))
 subst hy51
 refine AW.seq (AW.block (AW.z I (AW.seq ?_)))
 obtain ⟨r53, hx54, h⟩ := ob_some h
 refine AW.region (AO.r 5 [.x 3 k26 (Path.row x29)] I ⟨⟨I, map_get hx30⟩, trivial⟩ (AO.act [] I (AX.callL I (.refl _) h1 I (.rest _) I (hg1 _ _ hx54) (dst_some I) (by rintro _ _ ⟨rfl, _⟩; rfl) ?_)))
 rintro _ ⟨_, rfl, -⟩
 refine AO.nil (AW.ch h I ?_ ?_)
 intro hc55 h
 refine AW.z I ?_
 obtain rfl := hb48 _ (Option.some.inj h).symm
 replace h := hR47
 replace h := se_r h
 obtain rfl := Option.some.inj h
 exact AW.ret ⟨.inr I, [_], [], ⟨I, trivial⟩, sl_n, I, I⟩
 intro hc55 h
 refine AW.skip (AW.region (AO.r 2 [.k 0 (k26 + 1 : Nat)] I ⟨cast_wr hk27 hm28, trivial⟩ ?_))
 obtain rfl := Option.some.inj h
 refine AO.nil ?_
 exact ⟨_, _, _, I, ⟨I, I⟩, ⟨I, I, I, I, trivial⟩, [], I, by decide⟩
 rintro st38 s ob ⟨rfl, rfl⟩ he
 subst he
 have h := se_l hR47
 have hk27f : decide (((s_0.length : Nat) : Int) < (s_0.length : Int)) = false := by simp
 refine AW.z I (AW.seqG (fun y57 hy57 => (AW.condK (v := false) I hk27f (AW.exit ?_))))
 exact lg ⟨(), h, I, I⟩ []
 rintro s ob ⟨j24, h, rfl, rfl⟩
 unfold L.slices_IndexFunc_api_Path_api_Path.J1 at h
 refine AW.z I ?_
 obtain rfl := Option.some.inj h
 exact AW.ret ⟨.inr I, [_], [], ⟨I, trivial⟩, sl_n, I, I⟩

theorem L.slices_ContainsFunc_api_Path_api_Path_ok (s_0 : List Path) (F1 : T) {f1 : FuncId} {p1 s1 : List T} (h1 : fnT F1 = some (f1, p1, s1)) (g1 : Path → Option Bool) (hg1 : ∀ (y0 : Path) r, g1 y0 = some r → ACalls Try.env f1 (p1 ++ [.agg (Path.row y0)] ++ s1) [] (fun x new => x = .v (.bool r) ∧ new = [])) (r : Bool) (h : L.slices_ContainsFunc_api_Path_api_Path s_0 g1 = some r) : ACalls Try.env 83 [.list 4 (s_0.map Path.row), F1] [] (fun x new => x = .v (.bool r) ∧ new = []) := by
 refine ACalls.of_body Try.func83 rfl rfl rfl (fun C hC => ?_)
 unfold L.slices_ContainsFunc_api_Path_api_Path at h
 refine AW.z I (AW.seq ?_)
 obtain ⟨r1, hx2, h⟩ := ob_some h
 refine AW.region (AO.q 2 I (AO.c (L.slices_IndexFunc_api_Path_api_Path_ok s_0 F1 h1 g1 hg1 _ hx2) (AO.q 2 I (AO.nil ?_))))
 obtain rfl := Option.some.inj h
 exact AW.ret ⟨.inr I, [_], [], ⟨I, trivial⟩, sl_n, I, I⟩

theorem L.slices_Contains_int_int_ok (s_0 : List Int) (v_1 : Int) (r : Bool) (h : L.slices_Contains_int_int s_0 v_1 = some r) : ACalls Try.env 123 [.list 1 (s_0.map rI), .v (.int .i64 v_1)] [] (fun x new => x = .v (.bool r) ∧ new = []) := by
 refine ACalls.of_body Try.func123 rfl rfl rfl (fun C hC => ?_)
 unfold L.slices_Contains_int_int at h
 refine AW.z I (AW.seq ?_)
 obtain ⟨r1, hx2, h⟩ := ob_some h
 refine AW.region (AO.q 2 I (AO.c (L.slices_Index_int_int_ok s_0 v_1 _ hx2) (AO.q 2 I (AO.nil ?_))))
 obtain rfl := Option.some.inj h
 exact AW.ret ⟨.inr I, [_], [], ⟨I, trivial⟩, sl_n, I, I⟩

theorem L.paths_valid_1_ok (i_0 : Int) (a_1 : Network) (r : Bool) (h : L.paths_valid_1 i_0 a_1 = r) : ACalls Try.env 121 [.v (.int .i64 i_0), .eptr (Network.row a_1)] [] (fun x new => x = .v (.bool r) ∧ new = []) := by
 refine ACalls.of_body Try.func121 rfl rfl rfl (fun C hC => ?_)
 unfold L.paths_valid_1 at h
 refine AW.z I (AW.cutX (fun s ob => s = [(3, .v (.bool (decide (i_0 ≥ 0) && decide (i_0 < (a_1.Ports.length : Int)))))] ∧ ob = []) [] trivial ?_ ?_)
 rcases Bool.eq_false_or_eq_true (decide (i_0 ≥ 0)) with hg4 | hg4
 refine AW.region (AO.q 3 I (AO.known 6 I hg4 (AO.r 7 [.l 3 (a_1.Ports.length : Int)] I ⟨len_m, trivial⟩ (AO.nil ?_))))
 exact lf ⟨I, I⟩ ⟨(get_b (by simp only [hg4, bz])), trivial⟩ [] I
 refine AW.region (AO.q 3 I (AO.known 6 I hg4 (AO.q 7 I (AO.nil ?_))))
 exact lf ⟨I, I⟩ ⟨(get_b (by simp only [hg4, bz])), trivial⟩ [] I
 rintro s ob ⟨rfl, rfl⟩
 obtain rfl := h
 exact AW.ret ⟨.inr I, [_], [], ⟨I, trivial⟩, sl_n, I, I⟩

theorem L.paths_ends_ok (n_0 : Network) (h_1 : Hop) (r : Int × Int) (h : L.paths_ends n_0 h_1 = some r) : ACalls Try.env 122 [.agg (Network.row n_0), .agg (Hop.row h_1)] [] (fun x new => x = .tup [.v (.int .i64 r.1), .v (.int .i64 r.2)] ∧ new = []) := by
 refine ACalls.of_body Try.func122 rfl rfl rfl (fun C hC => ?_)
 unfold L.paths_ends at h
 refine AW.seqG (fun y1 hy1 => (AW.region (AO.act [] I (AX.box (cs := Network.row n_0) (m := 6) I I I (dst_some I) (fun b2 => (AO.act [] I (AX.box (cs := Hop.row h_1) (m := 2) I I I (dst_some I) (fun b3 => (AO.q 2 I (AO.nil ?_))))))))))
 subst hy1
 refine AW.seqG (fun y4 hy4 => ?_)
 obtain ⟨p5, hp6, h⟩ := ob_some h
 obtain ⟨hp6i, hp6x⟩ := ix_some hp6
 refine AW.region (AO.r 6 [.o 1 0, .o 3 1, .x 4 p5.1 (Segment.row p5.2)] I ⟨⟨hp6i, map_get hp6x⟩, I, I, trivial⟩ (AO.act [] I (AX.alloc (cs := [.v (.string ⟨#[]⟩), .v (.int .i64 0), .v (.int .i64 0), .v (.int .i64 0), .v (.int .i64 0), .v (.int .i64 0), .v (.slice none 0 0)]) (m := 7) I I I I I (dst_some I) (fun b7 => (AO.act [2] I (AX.store 2 0 0 (es' := [Segment.row p5.2]) I I I I I I I I (le_ble I) I I (AO.nil ?_)))))))
 subst hy4
 refine AW.seq (AW.zr [.o 1 1] I ⟨I, trivial⟩ (AW.ch h I ?_ ?_))
 intro hc8 h
 refine AW.dz (pd 6 0 []) [2] [_] [.o 1 0, .o 3 0] I I ⟨I, I, trivial⟩ (AW.ghost (Ghost.pick [] (K := []) I (by decide)) ?_)
 obtain rfl := Option.some.inj h
 exact AW.ret ⟨.inr I, [_, _], [], ⟨I, I, trivial⟩, sl_n, I, I⟩
 intro hc8 h
 refine AW.skip (AW.dz (pd 6 0 []) [2] [_] [.o 1 0, .o 3 0] I I ⟨I, I, trivial⟩ (AW.ghost (Ghost.pick [] (K := []) I (by decide)) ?_))
 obtain rfl := Option.some.inj h
 exact AW.ret ⟨.inr I, [_, _], [], ⟨I, I, trivial⟩, sl_n, I, I⟩

theorem L.paths_valid_ok (n_0 : Network) (p_1 : Path) (r : Bool) (h : L.paths_valid n_0 p_1 = some r) : ACalls Try.env 85 [.agg (Network.row n_0), .agg (Path.row p_1)] [] (fun x new => x = .v (.bool r) ∧ new = []) := by
 refine ACalls.of_body Try.func85 rfl rfl rfl (fun C hC => ?_)
 unfold L.paths_valid at h
 refine AW.seqG (fun y1 hy1 => (AW.region (AO.act [] I (AX.box (cs := Network.row n_0) (m := 6) I I I (dst_some I) (fun b2 => (AO.act [] I (AX.box (cs := Path.row p_1) (m := 4) I I I (dst_some I) (fun b3 => (AO.q 1 I (AO.nil ?_))))))))))
 subst hy1
 refine AW.seqG (fun y4 hy4 => (AW.region (AO.p (Yp.makeFunc I I) I (AO.q 1 I (AO.nil ?_)))))
 subst hy4
 refine AW.seqG (fun y5 hy5 => (AW.cutX (fun s ob => s = [(47, .v (.bool ((!(L.paths_valid_1 p_1.In n_0)) || ((!(L.paths_valid_1 p_1.Out n_0)) || ((p_1.In == p_1.Out) || (decide (p_1.Rate < 1) || (decide (p_1.Rate > 1000) || decide ((p_1.Hops.length : Int) > 32))))))))] ∧ ob = [.arr b2 30 6 1 [Network.row n_0], .arr b3 58 4 1 [Path.row p_1]]) [(2, _), (3, _)] ⟨I, I, trivial⟩ ?_ ?_))
 rcases Bool.eq_false_or_eq_true ((!(L.paths_valid_1 p_1.In n_0))) with hg12 | hg12
 refine AW.region (AO.r 3 [.o 2 1] I ⟨I, trivial⟩ (AO.act [] I (AX.callL I (.fn (.rest _) (.cons (.box 0 I (.rest _)) (.rest _))) I I (.rest _) I (L.paths_valid_1_ok p_1.In n_0 _ I) (dst_some I) (by rintro _ _ ⟨rfl, _⟩; rfl) ?_)))
 rintro _ ⟨_, rfl, -⟩
 refine AO.q 2 I (AO.known 18 I hg12 (AO.q 29 I (AO.nil ?_)))
 exact lf ⟨I, I⟩ ⟨(get_b (by simp only [hg12, bz])), I, I, trivial⟩ [0, 1] I
 rcases Bool.eq_false_or_eq_true ((!(L.paths_valid_1 p_1.Out n_0))) with hg13 | hg13
 refine AW.region (AO.r 3 [.o 2 1] I ⟨I, trivial⟩ (AO.act [] I (AX.callL I (.fn (.rest _) (.cons (.box 0 I (.rest _)) (.rest _))) I I (.rest _) I (L.paths_valid_1_ok p_1.In n_0 _ I) (dst_some I) (by rintro _ _ ⟨rfl, _⟩; rfl) ?_)))
 rintro _ ⟨_, rfl, -⟩
 refine AO.q 2 I (AO.known 18 I hg12 (AO.r 3 [.o 2 1] I ⟨I, trivial⟩ (AO.gt I I I (AO.act [] I (AX.callL I (.fn (.rest _) (.cons (.box 0 I (.rest _)) (.rest _))) I I (.rest _) I (L.paths_valid_1_ok p_1.Out n_0 _ I) (dst_some I) (by rintro _ _ ⟨rfl, _⟩; rfl) ?_)))))
 rintro _ ⟨_, rfl, -⟩
 refine AO.q 3 I (AO.known 25 I hg13 (AO.q 22 I (AO.nil ?_)))
 exact lf ⟨I, I⟩ ⟨(get_b (by simp only [hg12, hg13, bz])), I, I, trivial⟩ [0, 1] I
 rcases Bool.eq_false_or_eq_true ((p_1.In == p_1.Out)) with hg14 | hg14
 refine AW.region (AO.r 3 [.o 2 1] I ⟨I, trivial⟩ (AO.act [] I (AX.callL I (.fn (.rest _) (.cons (.box 0 I (.rest _)) (.rest _))) I I (.rest _) I (L.paths_valid_1_ok p_1.In n_0 _ I) (dst_some I) (by rintro _ _ ⟨rfl, _⟩; rfl) ?_)))
 rintro _ ⟨_, rfl, -⟩
 refine AO.q 2 I (AO.known 18 I hg12 (AO.r 3 [.o 2 1] I ⟨I, trivial⟩ (AO.gt I I I (AO.act [] I (AX.callL I (.fn (.rest _) (.cons (.box 0 I (.rest _)) (.rest _))) I I (.rest _) I (L.paths_valid_1_ok p_1.Out n_0 _ I) (dst_some I) (by rintro _ _ ⟨rfl, _⟩; rfl) ?_)))))
 rintro _ ⟨_, rfl, -⟩
 refine AO.q 3 I (AO.known 25 I hg13 (AO.r 7 [.o 1 1, .o 3 1] I ⟨I, I, trivial⟩ (AO.known 32 I hg14 (AO.q 15 I (AO.nil ?_)))))
 exact lf ⟨I, I⟩ ⟨(get_b (by simp only [hg12, hg13, hg14, bz])), I, I, trivial⟩ [0, 1] I
 rcases Bool.eq_false_or_eq_true (decide (p_1.Rate < 1)) with hg15 | hg15
 refine AW.region (AO.r 3 [.o 2 1] I ⟨I, trivial⟩ (AO.act [] I (AX.callL I (.fn (.rest _) (.cons (.box 0 I (.rest _)) (.rest _))) I I (.rest _) I (L.paths_valid_1_ok p_1.In n_0 _ I) (dst_some I) (by rintro _ _ ⟨rfl, _⟩; rfl) ?_)))
 rintro _ ⟨_, rfl, -⟩
 refine AO.q 2 I (AO.known 18 I hg12 (AO.r 3 [.o 2 1] I ⟨I, trivial⟩ (AO.gt I I I (AO.act [] I (AX.callL I (.fn (.rest _) (.cons (.box 0 I (.rest _)) (.rest _))) I I (.rest _) I (L.paths_valid_1_ok p_1.Out n_0 _ I) (dst_some I) (by rintro _ _ ⟨rfl, _⟩; rfl) ?_)))))
 rintro _ ⟨_, rfl, -⟩
 refine AO.q 3 I (AO.known 25 I hg13 (AO.r 7 [.o 1 1, .o 3 1] I ⟨I, I, trivial⟩ (AO.known 32 I hg14 (AO.r 5 [.o 1 1] I ⟨I, trivial⟩ (AO.known 37 I hg15 (AO.q 10 I (AO.nil ?_)))))))
 exact lf ⟨I, I⟩ ⟨(get_b (by simp only [hg12, hg13, hg14, hg15, bz])), I, I, trivial⟩ [0, 1] I
 rcases Bool.eq_false_or_eq_true (decide (p_1.Rate > 1000)) with hg16 | hg16
 refine AW.region (AO.r 3 [.o 2 1] I ⟨I, trivial⟩ (AO.act [] I (AX.callL I (.fn (.rest _) (.cons (.box 0 I (.rest _)) (.rest _))) I I (.rest _) I (L.paths_valid_1_ok p_1.In n_0 _ I) (dst_some I) (by rintro _ _ ⟨rfl, _⟩; rfl) ?_)))
 rintro _ ⟨_, rfl, -⟩
 refine AO.q 2 I (AO.known 18 I hg12 (AO.r 3 [.o 2 1] I ⟨I, trivial⟩ (AO.gt I I I (AO.act [] I (AX.callL I (.fn (.rest _) (.cons (.box 0 I (.rest _)) (.rest _))) I I (.rest _) I (L.paths_valid_1_ok p_1.Out n_0 _ I) (dst_some I) (by rintro _ _ ⟨rfl, _⟩; rfl) ?_)))))
 rintro _ ⟨_, rfl, -⟩
 refine AO.q 3 I (AO.known 25 I hg13 (AO.r 7 [.o 1 1, .o 3 1] I ⟨I, I, trivial⟩ (AO.known 32 I hg14 (AO.r 5 [.o 1 1] I ⟨I, trivial⟩ (AO.known 37 I hg15 (AO.r 5 [.o 1 1] I ⟨I, trivial⟩ (AO.known 42 I hg16 (AO.q 5 I (AO.nil ?_)))))))))
 exact lf ⟨I, I⟩ ⟨(get_b (by simp only [hg12, hg13, hg14, hg15, hg16, bz])), I, I, trivial⟩ [0, 1] I
 refine AW.region (AO.r 3 [.o 2 1] I ⟨I, trivial⟩ (AO.act [] I (AX.callL I (.fn (.rest _) (.cons (.box 0 I (.rest _)) (.rest _))) I I (.rest _) I (L.paths_valid_1_ok p_1.In n_0 _ I) (dst_some I) (by rintro _ _ ⟨rfl, _⟩; rfl) ?_)))
 rintro _ ⟨_, rfl, -⟩
 refine AO.q 2 I (AO.known 18 I hg12 (AO.r 3 [.o 2 1] I ⟨I, trivial⟩ (AO.gt I I I (AO.act [] I (AX.callL I (.fn (.rest _) (.cons (.box 0 I (.rest _)) (.rest _))) I I (.rest _) I (L.paths_valid_1_ok p_1.Out n_0 _ I) (dst_some I) (by rintro _ _ ⟨rfl, _⟩; rfl) ?_)))))
 rintro _ ⟨_, rfl, -⟩
 refine AO.q 3 I (AO.known 25 I hg13 (AO.r 7 [.o 1 1, .o 3 1] I ⟨I, I, trivial⟩ (AO.known 32 I hg14 (AO.r 5 [.o 1 1] I ⟨I, trivial⟩ (AO.known 37 I hg15 (AO.r 5 [.o 1 1] I ⟨I, trivial⟩ (AO.known 42 I hg16 (AO.r 5 [.o 1 1, .l 2 (p_1.Hops.length : Int)] I ⟨len_m, I, trivial⟩ (AO.nil ?_)))))))))
 exact lf ⟨I, I⟩ ⟨(get_b (by simp only [hg12, hg13, hg14, hg15, hg16, bz])), I, I, trivial⟩ [0, 1] I
 rintro s ob ⟨rfl, rfl⟩
 refine AW.ch h I ?_ ?_
 intro hc17 h
 refine AW.z I (AW.ghost (Ghost.pick [] (K := []) I (by decide)) ?_)
 obtain rfl := Option.some.inj h
 exact AW.ret ⟨.inr I, [_], [], ⟨I, trivial⟩, sl_n, I, I⟩
 intro hc17 h
 refine AW.skip ?_
 subst hy5
 refine AW.seqG (fun y18 hy18 => ?_)
 obtain ⟨p19, hp20, h⟩ := ob_some h
 obtain ⟨hp20i, hp20x⟩ := ix_some hp20
 refine AW.tr [.o 1 0, .o 3 1, .x 4 p19.1 (Port.row p19.2)] I ⟨⟨hp20i, map_get hp20x⟩, I, I, trivial⟩ ?_
 subst hy18
 refine AW.seqG (fun y21 hy21 => (AW.region (AO.q 1 I (AO.act [] I (AX.buildSlice (sz := 1) (es := ([p19.2.Node] : List Int).map rI) I I I I I I I I I I I (dst_some I) (fun v22 => (AO.q 1 I (AO.nil ?_))))))))
 subst hy21
 refine AW.cutX (fun s ob => ∃ (j99 : Int), L.paths_valid.J1 n_0 p_1 j99 = some r ∧ s = [(6, .v (.int .i64 j99))] ∧ ob = [.arr b2 30 6 1 [Network.row n_0], .arr b3 58 4 1 [Path.row p_1]]) [(2, _), (3, _)] ⟨I, I, trivial⟩ ?_ ?_
 refine AW.zr [.o 1 1, .l 2 (p_1.Hops.length : Int)] I ⟨len_m, I, trivial⟩ (AW.block (AW.listMax 58 I (fun hm105 => ?_)))
 replace hm105 : p_1.Hops.length ≤ 9223372036854775806 := by rw [List.length_map] at hm105; omega
 obtain ⟨o176, hL177, hR178⟩ := ob_some h
 clear h
 refine AW.forX hL177 [(2, _), (3, _), (58, _), (59, _)] ⟨I, I, I, I, trivial⟩ (fun (k103 : Nat) (st153 : Int × (List Int)) s ob => ∃ (v154 : Value), s = [(60, .v (.int .i64 (k103 : Int))), (6, .v (.int .i64 st153.1)), (7, .v v154)] ∧ ob = [.arr b2 30 6 1 [Network.row n_0], .arr b3 58 4 1 [Path.row p_1], .us v154 3 1 (st153.2.map rI)]) ⟨v22, I, I⟩ ⟨I, I, I, trivial⟩ ⟨[0, 1, 2], I, by decide⟩ ?_ ?_
 rintro k103 x106 st153 r180 s ob hx107 hk104 ⟨v154, rfl, rfl⟩ h hb179
 unfold L.paths_valid.B2 at h
 have hk104t : decide ((k103 : Int) < (p_1.Hops.length : Int)) = true := by simp; omega
 refine AW.z I (AW.seqG (fun y182 hy182 => (AW.condK (v := true) I hk104t (AW.skip ?_))))
 subst hy182
 refine AW.seq (AW.block (AW.seqG (fun y183 hy183 => (AW.region (AO.r 2 [.x 0 k103 (Hop.row x106)] I ⟨⟨I, map_get hx107⟩, trivial⟩ (AO.act [] I (AX.alloc (cs := [.v (.int .i64 0), .v (.bool false)]) (m := 2) I I I I I (dst_some I) (fun b184 => (AO.act [3] I (AX.store 3 0 0 (es' := [Hop.row x106]) I I I I I I I I (le_ble I) I I (AO.nil ?_)))))))))))
 subst hy183
 refine AW.seqG (fun y185 hy185 => (AW.cutX (fun s ob => s = [(74, .v (.bool (decide (x106.Segment < 0) || decide (x106.Segment ≥ (n_0.Segments.length : Int)))))] ∧ ob = [.arr b2 30 6 1 [Network.row n_0], .arr b3 58 4 1 [Path.row p_1], .us v154 3 1 (st153.2.map rI), .arr b184 60 2 1 [Hop.row x106]]) [(2, _), (3, _), (6, _), (7, _), (9, _), (58, _), (59, _), (60, _)] ⟨I, I, I, I, I, I, I, I, trivial⟩ ?_ ?_))
 rcases Bool.eq_false_or_eq_true (decide (x106.Segment < 0)) with hg188 | hg188
 refine AW.region (AO.r 4 [.o 1 3] I ⟨I, trivial⟩ (AO.known 67 I hg188 (AO.q 7 I (AO.nil ?_))))
 exact lf ⟨I, I⟩ ⟨(get_b (by simp only [hg188, bz])), I, I, I, I, I, I, I, I, trivial⟩ [0, 1, 2, 3] I
 refine AW.region (AO.r 4 [.o 1 3] I ⟨I, trivial⟩ (AO.known 67 I hg188 (AO.r 7 [.o 1 3, .o 3 0, .l 4 (n_0.Segments.length : Int)] I ⟨len_m, I, I, trivial⟩ (AO.nil ?_))))
 exact lf ⟨I, I⟩ ⟨(get_b (by simp only [hg188, bz])), I, I, I, I, I, I, I, I, trivial⟩ [0, 1, 2, 3] I
 rintro s ob ⟨rfl, rfl⟩
 refine AW.ch h I ?_ ?_
 intro hc189 h
 refine AW.z I ?_
 obtain rfl := hb179 _ (Option.some.inj h).symm
 replace h := hR178
 replace h := se_r h
 refine AW.ghost (Ghost.pick [] (K := []) I (by decide)) ?_
 obtain rfl := Option.some.inj h
 exact AW.ret ⟨.inr I, [_], [], ⟨I, trivial⟩, sl_n, I, I⟩
 intro hc189 h
 refine AW.skip ?_
 subst hy185
 refine AW.seqG (fun y190 hy190 => ?_)
 obtain ⟨r191, hx192, h⟩ := ob_some h
 refine AW.region (AO.r 2 [.o 0 0, .o 1 3] I ⟨I, I, trivial⟩ (AO.c (L.paths_ends_ok n_0 x106 _ hx192) (AO.q 5 I (AO.nil ?_))))
 subst hy190
 refine AW.seq (AW.cutX (fun s ob => ∃ (j196 : Bool), L.paths_valid.J3 st153 r191 j196 = some r180 ∧ s = [(88, .v (.bool j196))] ∧ ob = [.arr b2 30 6 1 [Network.row n_0], .arr b3 58 4 1 [Path.row p_1], .us v154 3 1 (st153.2.map rI)]) [(2, _), (3, _), (7, _), (11, _), (58, _), (59, _), (60, _)] ⟨I, I, I, I, I, I, I, trivial⟩ ?_ ?_)
 rcases Bool.eq_false_or_eq_true ((r191.1 != st153.1)) with hg202 | hg202
 replace h := ife_t hg202 h
 refine AW.region (AO.q 4 I (AO.known 84 I hg202 (AO.q 4 I (AO.nil ?_))))
 exact lg ⟨true, h, I, I⟩ [0, 1, 2]
 replace h := ife_f hg202 h
 obtain ⟨r203, hx204, h⟩ := ob_some h
 refine AW.region (AO.q 4 I (AO.known 84 I hg202 (AO.q 2 I (AO.gt I I I (AO.act [] I (AX.callL I (.refl _) I I (.cons (.us 2 I) (.rest _)) I (L.slices_Contains_int_int_ok st153.2 r191.2 _ hx204) (dst_some I) (by rintro _ _ ⟨rfl, _⟩; rfl) ?_))))))
 rintro _ ⟨_, rfl, -⟩
 refine AO.q 1 I (AO.nil ?_)
 exact lg ⟨r203, h, I, I⟩ [0, 1, 2]
 rintro s ob ⟨j196, h, rfl, rfl⟩
 unfold L.paths_valid.J3 at h
 refine AW.ch h I ?_ ?_
 intro hc197 h
 refine AW.z I ?_
 obtain rfl := hb179 _ (Option.some.inj h).symm
 replace h := hR178
 replace h := se_r h
 refine AW.ghost (Ghost.pick [] (K := []) I (by decide)) ?_
 obtain rfl := Option.some.inj h
 exact AW.ret ⟨.inr I, [_], [], ⟨I, trivial⟩, sl_n, I, I⟩
 intro hc197 h
 refine AW.skip ?_
 obtain ⟨l199, hx200, h⟩ := ob_some h
 refine AW.region (AO.q 3 I (AO.act [] I (AX.lt 1 (([r191.2] : List Int).map rI) (AO.act [2] I (AX.ap 2 I hx200 (fun v201 => (AO.q 2 I (AO.nil (AW.region (AO.r 2 [.k 0 (k103 + 1 : Nat)] I ⟨cast_wr hk104 hm105, trivial⟩ ?_))))))))))
 obtain rfl := Option.some.inj h
 refine AO.nil ?_
 exact ⟨_, _, _, I, ⟨v201, I, I⟩, ⟨I, I, I, I, I, I, I, trivial⟩, [0, 1, 2], I, by decide⟩
 rintro st153 s ob ⟨v154, rfl, rfl⟩ he
 subst he
 have h := se_l hR178
 have hk104f : decide (((p_1.Hops.length : Nat) : Int) < (p_1.Hops.length : Int)) = false := by simp
 refine AW.z I (AW.seqG (fun y206 hy206 => (AW.condK (v := false) I hk104f (AW.exit ?_))))
 exact lg ⟨st153.1, h, I, I⟩ [0, 1]
 rintro s ob ⟨j99, h, rfl, rfl⟩
 unfold L.paths_valid.J1 at h
 refine AW.seq ?_
 obtain ⟨p100, hp101, h⟩ := ob_some h
 obtain ⟨hp101i, hp101x⟩ := ix_some hp101
 refine AW.tr [.o 2 0, .o 4 1, .x 5 p100.1 (Port.row p100.2)] I ⟨⟨hp101i, map_get hp101x⟩, I, I, trivial⟩ (AW.ghost (Ghost.pick [] (K := []) I (by decide)) ?_)
 obtain rfl := Option.some.inj h
 exact AW.ret ⟨.inr I, [_], [], ⟨I, trivial⟩, sl_n, I, I⟩

theorem L.paths_opposed_ok (l_0 : List Path) (r : Bool) (h : L.paths_opposed l_0 = some r) : ACalls Try.env 86 [.list 4 (l_0.map Path.row)] [] (fun x new => x = .v (.bool r) ∧ new = []) := by
 refine ACalls.of_body Try.func86 rfl rfl rfl (fun C hC => ?_)
 unfold L.paths_opposed at h
 refine AW.z I (AW.seqG (fun y2 hy2 => (AW.region (AO.act [] I (AX.makeMap mB (dst_some I) (fun b3 => (AO.q 1 I (AO.nil ?_))))))))
 subst hy2
 refine AW.cutX (fun s ob => ∃ (j144 : Unit), L.paths_opposed.J1 j144 = some r ∧ s = [] ∧ ob = []) [] trivial ?_ ?_
 refine AW.zr [.l 1 (l_0.length : Int)] I ⟨len_m, trivial⟩ (AW.block (AW.listMax 11 I (fun hm148 => ?_)))
 replace hm148 : l_0.length ≤ 9223372036854775806 := by rw [List.length_map] at hm148; omega
 obtain ⟨o283, hL284, hR285⟩ := ob_some h
 clear h
 refine AW.forX hL284 [(3, _), (11, _), (12, _)] ⟨I, I, I, trivial⟩ (fun (k146 : Nat) (st239 : List (Int × Bool)) s ob => s = [(13, .v (.int .i64 (k146 : Int)))] ∧ ob = [.raw b3 (mapOb mB st239)]) ⟨I, I⟩ ⟨I, trivial⟩ ⟨[0], I, by decide⟩ ?_ ?_
 rintro k146 x149 st239 r287 s ob hx150 hk147 ⟨rfl, rfl⟩ h hb286
 unfold L.paths_opposed.B2 at h
 have hk147t : decide ((k146 : Int) < (l_0.length : Int)) = true := by simp; omega
 refine AW.z I (AW.seqG (fun y289 hy289 => (AW.condK (v := true) I hk147t (AW.skip ?_))))
 subst hy289
 refine AW.cutX (fun s ob => ∃ (j330 : List (Int × Bool)), L.paths_opposed.J3 j330 = some r287 ∧ s = [] ∧ ob = [.raw b3 (mapOb mB j330)]) [(3, _), (11, _), (12, _), (13, _)] ⟨I, I, I, I, trivial⟩ ?_ ?_
 refine AW.block (AW.seqG (fun y331 hy331 => (AW.region (AO.r 2 [.x 0 k146 (Path.row x149)] I ⟨⟨I, map_get hx150⟩, trivial⟩ (AO.act [] I (AX.alloc (cs := [.v (.int .i64 0), .v (.int .i64 0), .v (.slice none 0 0), .v (.int .i64 0)]) (m := 4) I I I I I (dst_some I) (fun b332 => (AO.act [1] I (AX.store 1 0 0 (es' := [Path.row x149]) I I I I I I I I (le_ble I) I I (AO.nil ?_))))))))))
 subst hy331
 refine AW.zr [.o 1 1, .l 2 (x149.Hops.length : Int)] I ⟨len_m, I, trivial⟩ (AW.block (AW.listMax 18 I (fun hm336 => ?_)))
 replace hm336 : x149.Hops.length ≤ 9223372036854775806 := by rw [List.length_map] at hm336; omega
 obtain ⟨o369, hL370, hR371⟩ := ob_some h
 clear h
 refine AW.forX hL370 [(3, _), (11, _), (12, _), (13, _), (18, _), (19, _)] ⟨I, I, I, I, I, I, trivial⟩ (fun (k334 : Nat) (st359 : List (Int × Bool)) s ob => s = [(20, .v (.int .i64 (k334 : Int)))] ∧ ob = [.raw b3 (mapOb mB st359)]) ⟨I, I⟩ ⟨I, trivial⟩ ⟨[0], I, by decide⟩ ?_ ?_
 rintro k334 x337 st359 r373 s ob hx338 hk335 ⟨rfl, rfl⟩ h hb372
 unfold L.paths_opposed.B4 at h
 have hk335t : decide ((k334 : Int) < (x149.Hops.length : Int)) = true := by simp; omega
 refine AW.z I (AW.seqG (fun y375 hy375 => (AW.condK (v := true) I hk335t (AW.skip ?_))))
 subst hy375
 refine AW.seq (AW.block (AW.seqG (fun y376 hy376 => (AW.region (AO.r 2 [.x 0 k334 (Hop.row x337)] I ⟨⟨I, map_get hx338⟩, trivial⟩ (AO.act [] I (AX.alloc (cs := [.v (.int .i64 0), .v (.bool false)]) (m := 2) I I I I I (dst_some I) (fun b377 => (AO.act [1] I (AX.store 1 0 0 (es' := [Hop.row x337]) I I I I I I I I (le_ble I) I I (AO.nil ?_)))))))))))
 subst hy376
 refine AW.seq (AW.seqG (fun y378 hy378 => (AW.region (AO.r 3 [.o 2 1] I ⟨I, trivial⟩ (AO.d (Yd.lookup2 0 (f := mB) (z := false) (u := .v (.bool ((mget st359 x337.Segment).getD false))) (v := .v (.bool ((mget st359 x337.Segment).isSome))) I I I I I I I I I I I) I (AO.q 5 I (AO.nil ?_)))))))
 subst hy378
 refine AW.cutX (fun s ob => s = [(37, .v (.bool ((mget st359 x337.Segment).isSome && (((mget st359 x337.Segment).getD false) != x337.Back))))] ∧ ob = [.raw b3 (mapOb mB st359), .arr b377 60 2 1 [Hop.row x337]]) [(3, _), (7, _), (11, _), (12, _), (13, _), (18, _), (19, _), (20, _)] ⟨I, I, I, I, I, I, I, I, trivial⟩ ?_ ?_
 rcases Bool.eq_false_or_eq_true ((mget st359 x337.Segment).isSome) with hg381 | hg381
 refine AW.region (AO.q 2 I (AO.known 32 I hg381 (AO.r 3 [.o 2 1] I ⟨I, trivial⟩ (AO.gt I I I (AO.p (Yp.neqB I I I I) I (AO.q 1 I (AO.nil ?_)))))))
 exact lf ⟨I, I⟩ ⟨(get_b (by simp only [hg381, bz])), I, I, I, I, I, I, I, I, trivial⟩ [0, 1] I
 refine AW.region (AO.q 2 I (AO.known 32 I hg381 (AO.q 5 I (AO.nil ?_))))
 exact lf ⟨I, I⟩ ⟨(get_b (by simp only [hg381, bz])), I, I, I, I, I, I, I, I, trivial⟩ [0, 1] I
 rintro s ob ⟨rfl, rfl⟩
 refine AW.ch h I ?_ ?_
 intro hc382 h
 refine AW.z I ?_
 obtain rfl := hb372 _ (Option.some.inj h).symm
 replace h := hR371
 replace h := se_r h
 obtain rfl := hb286 _ (Option.some.inj h).symm
 replace h := hR285
 replace h := se_r h
 refine AW.ghost (Ghost.pick [] (K := []) I (by decide)) ?_
 obtain rfl := Option.some.inj h
 exact AW.ret ⟨.inr I, [_], [], ⟨I, trivial⟩, sl_n, I, I⟩
 intro hc382 h
 refine AW.skip (AW.region (AO.r 5 [.o 2 1, .o 4 1] I ⟨I, I, trivial⟩ (AO.act [0] I (AX.mapUpdate 0 (f := mB) (z := x337.Back) I I I I I I I I I (AO.nil (AW.region (AO.r 2 [.k 0 (k334 + 1 : Nat)] I ⟨cast_wr hk335 hm336, trivial⟩ ?_)))))))
 obtain rfl := Option.some.inj h
 refine AO.nil ?_
 exact ⟨_, _, _, I, ⟨I, I⟩, ⟨I, I, I, I, I, I, I, trivial⟩, [0], I, by decide⟩
 rintro st359 s ob ⟨rfl, rfl⟩ he
 subst he
 have h := se_l hR371
 have hk335f : decide (((x149.Hops.length : Nat) : Int) < (x149.Hops.length : Int)) = false := by simp
 refine AW.z I (AW.seqG (fun y384 hy384 => (AW.condK (v := false) I hk335f (AW.exit ?_))))
 exact lg ⟨st359, h, I, I⟩ [0]
 rintro s ob ⟨j330, h, rfl, rfl⟩
 unfold L.paths_opposed.J3 at h
 refine AW.region (AO.r 2 [.k 0 (k146 + 1 : Nat)] I ⟨cast_wr hk147 hm148, trivial⟩ ?_)
 obtain rfl := Option.some.inj h
 refine AO.nil ?_
 exact ⟨_, _, _, I, ⟨I, I⟩, ⟨I, I, I, I, trivial⟩, [0], I, by decide⟩
 rintro st239 s ob ⟨rfl, rfl⟩ he
 subst he
 have h := se_l hR285
 have hk147f : decide (((l_0.length : Nat) : Int) < (l_0.length : Int)) = false := by simp
 refine AW.z I (AW.seqG (fun y387 hy387 => (AW.condK (v := false) I hk147f (AW.exit ?_))))
 exact lg ⟨(), h, I, I⟩ []
 rintro s ob ⟨j144, h, rfl, rfl⟩
 unfold L.paths_opposed.J1 at h
 refine AW.z I ?_
 obtain rfl := Option.some.inj h
 exact AW.ret ⟨.inr I, [_], [], ⟨I, trivial⟩, sl_n, I, I⟩

set_option maxRecDepth 100000 in
theorem L.slices_Clone_bool_bool_ok (s0 : List Bool) (r : List Bool) (h : L.slices_Clone_bool_bool s0 = some r) : ACalls Try.env 87 [.list 1 (s0.map rB)] [] (fun x new => ∃ (u0 : Value), x = .v u0 ∧ new = [.us u0 4 1 (r.map rB)]) := by
  refine ACalls.of_body Try.func87 rfl rfl rfl (fun C hC => ?_)
  unfold L.slices_Clone_bool_bool at h
  obtain ⟨h1, h2⟩ := app_some h
  refine AW.seq ?_
  refine AW.region ?_
  refine AO.p (Yp.assign rfl) rfl ?_
  refine AO.nil ?_
  refine AW.seq ?_
  refine AW.seq ?_
  refine AW.region ?_
  refine AO.p (Yp.move rfl) rfl ?_
  refine AO.act [] rfl (AX.eqNil rfl rfl rfl (dst_some rfl) (fun c hc => ?_))
  refine AO.nil ?_
  refine AW.cond rfl rfl ?_ ?_
  · intro hb
    have hs : s0 = [] := by have := hc hb; simpa using this
    subst hs
    refine AW.seq ?_
    refine AW.region ?_
    refine AO.p (Yp.assign rfl) rfl ?_
    refine AO.ghost (Ghost.nilU 4 1) ?_
    refine AO.nil ?_
    refine AW.ret ?_
    have hr : r = [] := by simpa using h2.symm
    subst hr
    exact ⟨.inr rfl, [_], [.us (.slice none 0 0) 4 1 ([].map rB)], ⟨rfl, trivial⟩, sl_c rfl sl_n, ⟨_, rfl, rfl⟩⟩
  · intro hb
    refine AW.skip ?_
    refine AW.seq ?_
    refine AW.region ?_
    refine AO.act [] rfl (AX.buildSlice (sz := 1) (es := []) rfl rfl rfl rfl rfl rfl rfl rfl rfl rfl rfl (dst_some rfl) (fun v1 => ?_))
    refine AO.p (Yp.move rfl) rfl ?_
    refine AO.act [0] rfl (AX.appendU 0 (es' := r.map rB) rfl rfl rfl rfl rfl rfl rfl rfl rfl (AppSrc.list rfl) (by simpa using h1) (by rw [← h2]; simp) (dst_some rfl) (fun v2 => ?_))
    refine AO.p (Yp.assign rfl) rfl ?_
    refine AO.nil ?_
    refine AW.ret ?_
    exact ⟨.inr rfl, [_], [.us v2 4 1 (r.map rB)], ⟨rfl, trivial⟩, sl_c rfl sl_n, ⟨_, rfl, rfl⟩⟩

theorem L.paths_signed_ok (h_0 : Hop) (rate_1 : Int) (r : Int) (h : L.paths_signed h_0 rate_1 = r) : ACalls Try.env 114 [.agg (Hop.row h_0), .v (.int .i64 rate_1)] [] (fun x new => x = .v (.int .i64 r) ∧ new = []) := by
 refine ACalls.of_body Try.func114 rfl rfl rfl (fun C hC => ?_)
 unfold L.paths_signed at h
 refine AW.seqG (fun y1 hy1 => (AW.region (AO.act [] I (AX.box (cs := Hop.row h_0) (m := 2) I I I (dst_some I) (fun b2 => (AO.q 1 I (AO.nil ?_)))))))
 subst hy1
 refine AW.seq (AW.zr [.o 1 0] I ⟨I, trivial⟩ (AW.ch h I ?_ ?_))
 intro hc3 h
 refine AW.z I (AW.ghost (Ghost.pick [] (K := []) I (by decide)) ?_)
 obtain rfl := h
 exact AW.ret ⟨.inr I, [_], [], ⟨I, trivial⟩, sl_n, I, I⟩
 intro hc3 h
 refine AW.skip (AW.z I (AW.ghost (Ghost.pick [] (K := []) I (by decide)) ?_))
 obtain rfl := h
 exact AW.ret ⟨.inr I, [_], [], ⟨I, trivial⟩, sl_n, I, I⟩

theorem L.paths_Grow_ok (b0 : Nat) (p_0 : Plan) (w0_0 : Value) (w0_1 : Value) (x_1 : Path) (rate_2 : Int) (r : Plan) (h : L.paths_Grow p_0 x_1 rate_2 = some r) : ACalls Try.env 88 [.v (.pointer (some ⟨b0, 0, none⟩)), .agg (Path.row x_1), .v (.int .i64 rate_2)] [.arr b0 34 3 1 [[.v w0_0, .v w0_1, .list 1 (p_0.Pumps.map rB)]], .us w0_0 3 1 (p_0.Rates.map rI), .us w0_1 3 1 (p_0.Ports.map rI)] (Gives 3 (fun x os new => ∃ (u0_0 : Value) (u0_1 : Value), x = .tup [] ∧ os = [.arr b0 34 3 1 [[.v u0_0, .v u0_1, .list 1 (r.Pumps.map rB)]], .us u0_0 3 1 (r.Rates.map rI), .us u0_1 3 1 (r.Ports.map rI)] ∧ new = [])) := by
 refine ACalls.of_body Try.func88 rfl rfl rfl (fun C hC => ?_)
 unfold L.paths_Grow at h
 refine AW.seqG (fun y1 hy1 => (AW.region (AO.act [] I (AX.box (cs := Path.row x_1) (m := 4) I I I (dst_some I) (fun b2 => (AO.nil ?_))))))
 subst hy1
 refine AW.seqG (fun y3 hy3 => ?_)
 obtain ⟨p4, hp5, h⟩ := ob_some h
 obtain ⟨hp5i, hp5x⟩ := ix_some hp5
 refine AW.form 2 p4.1 I hp5x (fun hf6 => (AW.form 2 p4.1 I hp5x (fun hf7 => (AW.rd (.still 0 (.still 1 (.still 2 (.still 3 (.still 4 (.still 5 (.still 6 (.still 7 (.still 8 (.still 9 (.still 10 (.drop 11 .nil)))))))))))) [0, 3, 2] [_, _, _] I (AP.r 6 [.o 3 0, .o 5 1] I ⟨I, I, trivial⟩ (AP.op I (Yp.indexUf (m := p4.1) I I I I I hf6 I hp5i hp5x) I (AP.o I (Yd.loadU 2 p4.1 0 I I I (map_get hp5x) I (y := .v (.int .i64 p4.2)) I) I (AP.q 2 I (AP.op I (Yp.indexUf (m := p4.1) I I I I I hf7 I hp5i hp5x) I (AP.drop [2] I I I (AX.storeU 2 p4.1 0 I I I (map_get hp5x) I I I I (le_ble I) I (us_set (x := wr (p4.2 + rate_2)) I) (AP.ofAO (AO.nil ?_)))))))))))))
 subst hy3
 refine AW.seqG (fun y8 hy8 => ?_)
 obtain ⟨p9, hp10, h⟩ := ob_some h
 obtain ⟨hp10i, hp10x⟩ := ix_some hp10
 refine AW.form 2 p9.1 I hp10x (fun hf11 => (AW.form 2 p9.1 I hp10x (fun hf12 => (AW.rd (.still 0 (.still 1 (.still 2 (.still 3 (.still 4 (.still 5 (.still 6 (.still 7 (.still 8 (.still 9 (.still 10 (.drop 11 .nil)))))))))))) [0, 3, 2] [_, _, _] I (AP.r 6 [.o 3 0, .o 5 1] I ⟨I, I, trivial⟩ (AP.op I (Yp.indexUf (m := p9.1) I I I I I hf11 I hp10i hp10x) I (AP.o I (Yd.loadU 2 p9.1 0 I I I (map_get hp10x) I (y := .v (.int .i64 p9.2)) I) I (AP.q 2 I (AP.op I (Yp.indexUf (m := p9.1) I I I I I hf12 I hp10i hp10x) I (AP.drop [2] I I I (AX.storeU 2 p9.1 0 I I I (map_get hp10x) I I I I (le_ble I) I (us_set (x := wr (p9.2 - rate_2)) I) (AP.ofAO (AO.nil ?_)))))))))))))
 subst hy8
 refine AW.zr [.o 1 3, .l 2 (x_1.Hops.length : Int)] I ⟨len_m, I, trivial⟩ (AW.block (AW.listMax 31 I (fun hm16 => ?_)))
 replace hm16 : x_1.Hops.length ≤ 9223372036854775806 := by rw [List.length_map] at hm16; omega
 obtain ⟨o46, hL47, hR48⟩ := ob_some h
 clear h
 refine AW.forY hL47 [(0, _), (2, _), (31, _), (32, _)] ⟨I, I, I, I, trivial⟩ (fun (k14 : Nat) (st37 : List Int) s ob => s = [(33, .v (.int .i64 (k14 : Int)))] ∧ ob = [.arr b0 34 3 1 [[.v w0_0, .v w0_1, .list 1 (p_0.Pumps.map rB)]], .us w0_0 3 1 (st37.map rI), .us w0_1 3 1 (((p_0.Ports.set p4.1 (wr (p4.2 + rate_2))).set p9.1 (wr (p9.2 - rate_2))).map rI)]) ⟨I, I⟩ ⟨I, trivial⟩ ⟨[0, 1, 2], I, by decide⟩ ?_ ?_
 rintro k14 x17 st37 r50 s ob hx18 hk15 ⟨rfl, rfl⟩ h
 unfold L.paths_Grow.B1 at h
 have hk15t : decide ((k14 : Int) < (x_1.Hops.length : Int)) = true := by simp; omega
 refine AW.z I (AW.seqG (fun y52 hy52 => (AW.condK (v := true) I hk15t (AW.skip ?_))))
 subst hy52
 refine AW.seq (AW.block (AW.seqG (fun y53 hy53 => (AW.region (AO.r 2 [.x 0 k14 (Hop.row x17)] I ⟨⟨I, map_get hx18⟩, trivial⟩ (AO.act [] I (AX.alloc (cs := [.v (.int .i64 0), .v (.bool false)]) (m := 2) I I I I I (dst_some I) (fun b54 => (AO.act [3] I (AX.store 3 0 0 (es' := [Hop.row x17]) I I I I I I I I (le_ble I) I I (AO.nil ?_)))))))))))
 subst hy53
 obtain ⟨p55, hp56, h⟩ := ob_some h
 obtain ⟨hp56i, hp56x⟩ := ix_some hp56
 refine AW.form 1 p55.1 I hp56x (fun hf57 => (AW.form 1 p55.1 I hp56x (fun hf58 => (AW.rd (.still 0 (.still 1 (.still 2 (.still 3 (.still 4 (.still 5 (.still 6 (.still 7 (.still 8 (.still 9 (.act 10 (.still 11 (.still 12 (.drop 13 .nil)))))))))))))) [0, 3, 1] [_, _, _] I (AP.r 6 [.o 3 0, .o 5 1] I ⟨I, I, trivial⟩ (AP.op I (Yp.indexUf (m := p55.1) I I I I I hf57 I hp56i hp56x) I (AP.o I (Yd.loadU 2 p55.1 0 I I I (map_get hp56x) I (y := .v (.int .i64 p55.2)) I) I (AP.r 2 [.o 0 1] I ⟨I, trivial⟩ (AP.c I (L.paths_signed_ok x17 rate_2 _ I) (AP.q 1 I (AP.op I (Yp.indexUf (m := p55.1) I I I I I hf58 I hp56i hp56x) I (AP.drop [1] I I I (AX.storeU 1 p55.1 0 I I I (map_get hp56x) I I I I (le_ble I) I (us_set (x := wr (p55.2 + (L.paths_signed x17 rate_2))) I) (AP.ofAO (AO.nil ?_)))))))))))))))
 refine AW.region (AO.r 2 [.k 0 (k14 + 1 : Nat)] I ⟨cast_wr hk15 hm16, trivial⟩ ?_)
 obtain rfl := Option.some.inj h
 refine AO.nil ?_
 exact lg ⟨I, I⟩ [0, 1, 2]
 rintro st37 s ob ⟨rfl, rfl⟩ he
 subst he
 have h := hR48
 have hk15f : decide (((x_1.Hops.length : Nat) : Int) < (x_1.Hops.length : Int)) = false := by simp
 refine AW.z I (AW.seqG (fun y60 hy60 => (AW.condK (v := false) I hk15f ?_)))
 obtain rfl := Option.some.inj h
 refine AW.exit ?_
 exact ⟨.inl I, [], [.arr b0 34 3 1 [[.v w0_0, .v w0_1, .list 1 (p_0.Pumps.map rB)]], .us w0_0 3 1 (st37.map rI), .us w0_1 3 1 (((p_0.Ports.set p4.1 (wr (p4.2 + rate_2))).set p9.1 (wr (p9.2 - rate_2))).map rI)], trivial, sl_c I (sl_c I (sl_c I (sl_n))), ⟨[.arr b0 34 3 1 [[.v w0_0, .v w0_1, .list 1 (p_0.Pumps.map rB)]], .us w0_0 3 1 (st37.map rI), .us w0_1 3 1 (((p_0.Ports.set p4.1 (wr (p4.2 + rate_2))).set p9.1 (wr (p9.2 - rate_2))).map rI)], [], I, I, w0_0, w0_1, I, I, I⟩⟩

theorem L.paths_Sum_1_ok (p_0 : Path) (a_1 : Network) (r : Bool) (h : L.paths_Sum_1 p_0 a_1 = some r) : ACalls Try.env 84 [.agg (Path.row p_0), .eptr (Network.row a_1)] [] (fun x new => x = .v (.bool r) ∧ new = []) := by
 refine ACalls.of_body Try.func84 rfl rfl rfl (fun C hC => ?_)
 unfold L.paths_Sum_1 at h
 refine AW.seq (AW.region (AO.act [] I (AX.box (cs := Path.row p_0) (m := 4) I I I (dst_some I) (fun b1 => (AO.q 1 I (AO.nil (AW.seq ?_)))))))
 obtain ⟨r2, hx3, h⟩ := ob_some h
 refine AW.region (AO.r 2 [.o 1 0] I ⟨I, trivial⟩ (AO.c (L.paths_valid_ok a_1 p_0 _ hx3) (AO.q 2 I (AO.nil (AW.ghost (Ghost.pick [] (K := []) I (by decide)) ?_)))))
 obtain rfl := Option.some.inj h
 exact AW.ret ⟨.inr I, [_], [], ⟨I, trivial⟩, sl_n, I, I⟩

theorem L.paths_Sum_ok (n_0 : Network) (l_1 : List Path) (pumps_2 : List Bool) (r : Plan × Int) (h : L.paths_Sum n_0 l_1 pumps_2 = some r) : ACalls Try.env 34 [.agg (Network.row n_0), .list 4 (l_1.map Path.row), .list 1 (pumps_2.map rB)] [] (fun x new => x = .tup [.agg (Plan.row r.1), .v (.int .i64 r.2)] ∧ new = []) := by
 refine ACalls.of_body Try.func34 rfl rfl rfl (fun C hC => ?_)
 unfold L.paths_Sum at h
 refine AW.seqG (fun y1 hy1 => (AW.region (AO.act [] I (AX.box (cs := Network.row n_0) (m := 6) I I I (dst_some I) (fun b2 => (AO.act [] I (AX.alloc (cs := [.v (.slice none 0 0), .v (.slice none 0 0), .v (.slice none 0 0)]) (m := 3) I I I I I (dst_some I) (fun b3 => (AO.q 1 I (AO.nil ?_))))))))))
 subst hy1
 refine AW.seqG (fun y4 hy4 => (AW.seq ?_))
 obtain ⟨r5, hx6, h⟩ := ob_some h
 refine AW.region (AO.r 1 [.o 0 0] I ⟨I, trivial⟩ (AO.c (L.network_Check_ok n_0 _ hx6) (AO.q 1 I (AO.nil (AW.z I (AW.ch h I ?_ ?_))))))
 intro hc7 h
 refine AW.seq (AW.region (AO.p (Yp.buildP (l := [.v (.slice none 0 0), .v (.slice none 0 0), .v (.slice none 0 0)]) Try.bld34 I) I (AO.q 1 I (AO.act [1] I (AX.store 1 0 0 (es' := [[.v (.slice none 0 0), .v (.slice none 0 0), .v (.slice none 0 0)]]) I I I I I I I I (le_ble I) I I (AO.q 1 I (AO.nil (AW.ghost (Ghost.freeze [] (K := []) I [] trivial (ob' := [.arr b2 30 6 1 [Network.row n_0], .arr b3 34 3 1 [[.list 1 ([].map rI), .list 1 ([].map rI), .list 1 ([].map rB)]]]) (.cons (.same _) (.cons (.arr (.cons (.nil _) (.cons (.nil _) (.cons (.nil _) (.rest _))))) (.rest _)))) (AW.ghost (Ghost.pick [1] (K := [.arr b3 34 3 1 [[.list 1 ([].map rI), .list 1 ([].map rI), .list 1 ([].map rB)]]]) I (by decide)) ?_)))))))))
 obtain rfl := Option.some.inj h
 exact AW.ret ⟨.inr I, [_, _], [], ⟨⟨0, _, _, _, _, _, _, _, I, I, I, I, I⟩, I, trivial⟩, sl_n, I, I⟩
 intro hc7 h
 refine AW.skip ?_
 subst hy4
 refine AW.seqG (fun y8 hy8 => (AW.cutX (fun s ob => ∃ (j15 : Bool), L.paths_Sum.J1 n_0 l_1 pumps_2 j15 = some r ∧ s = [(30, .v (.bool j15))] ∧ ob = [.arr b2 30 6 1 [Network.row n_0], .arr b3 34 3 1 [[.v (.slice none 0 0), .v (.slice none 0 0), .v (.slice none 0 0)]]]) [(1, _), (2, _), (3, _), (6, _)] ⟨I, I, I, I, trivial⟩ ?_ ?_))
 rcases Bool.eq_false_or_eq_true (decide ((l_1.length : Int) > 64)) with hg138 | hg138
 replace h := ife_t hg138 h
 refine AW.region (AO.r 4 [.l 1 (l_1.length : Int)] I ⟨len_m, trivial⟩ (AO.known 22 I hg138 (AO.q 8 I (AO.nil ?_))))
 exact lg ⟨true, h, I, I⟩ [0, 1]
 replace h := ife_f hg138 h
 obtain ⟨r139, hx140, h⟩ := ob_some h
 rcases Bool.eq_false_or_eq_true (r139) with hg141 | hg141
 replace h := ife_t hg141 h
 refine AW.region (AO.r 4 [.l 1 (l_1.length : Int)] I ⟨len_m, trivial⟩ (AO.known 22 I hg138 (AO.q 1 I (AO.gt I I I (AO.p (Yp.makeFunc I I) I (AO.gt I I I (AO.act [] I (AX.callL I (.refl _) I I (.cons (.refl _) (.cons (.fn (.rest _) (.cons (.box 0 I (.rest _)) (.rest _))) (.rest _))) I (L.slices_ContainsFunc_api_Path_api_Path_ok l_1 (.fn 84 [] [.eptr (Network.row n_0)]) I (fun x => L.paths_Sum_1 x n_0) (fun x r h => L.paths_Sum_1_ok x n_0 r h) _ hx140) (dst_some I) (by rintro _ _ ⟨rfl, _⟩; rfl) ?_))))))))
 rintro _ ⟨_, rfl, -⟩
 refine AO.q 2 I (AO.known 27 I hg141 (AO.q 3 I (AO.nil ?_)))
 exact lg ⟨true, h, I, I⟩ [0, 1]
 replace h := ife_f hg141 h
 obtain ⟨r142, hx143, h⟩ := ob_some h
 refine AW.region (AO.r 4 [.l 1 (l_1.length : Int)] I ⟨len_m, trivial⟩ (AO.known 22 I hg138 (AO.q 1 I (AO.gt I I I (AO.p (Yp.makeFunc I I) I (AO.gt I I I (AO.act [] I (AX.callL I (.refl _) I I (.cons (.refl _) (.cons (.fn (.rest _) (.cons (.box 0 I (.rest _)) (.rest _))) (.rest _))) I (L.slices_ContainsFunc_api_Path_api_Path_ok l_1 (.fn 84 [] [.eptr (Network.row n_0)]) I (fun x => L.paths_Sum_1 x n_0) (fun x r h => L.paths_Sum_1_ok x n_0 r h) _ hx140) (dst_some I) (by rintro _ _ ⟨rfl, _⟩; rfl) ?_))))))))
 rintro _ ⟨_, rfl, -⟩
 refine AO.q 2 I (AO.known 27 I hg141 (AO.q 1 I (AO.gt I I I (AO.c (L.paths_opposed_ok l_1 _ hx143) (AO.q 1 I (AO.nil ?_))))))
 exact lg ⟨r142, h, I, I⟩ [0, 1]
 rintro s ob ⟨j15, h, rfl, rfl⟩
 unfold L.paths_Sum.J1 at h
 refine AW.ch h I ?_ ?_
 intro hc16 h
 refine AW.seq (AW.region (AO.p (Yp.buildP (l := [.v (.slice none 0 0), .v (.slice none 0 0), .v (.slice none 0 0)]) Try.bld34 I) I (AO.act [1] I (AX.store 1 0 0 (es' := [[.v (.slice none 0 0), .v (.slice none 0 0), .v (.slice none 0 0)]]) I I I I I I I I (le_ble I) I I (AO.q 1 I (AO.nil (AW.ghost (Ghost.freeze [] (K := []) I [] trivial (ob' := [.arr b2 30 6 1 [Network.row n_0], .arr b3 34 3 1 [[.list 1 ([].map rI), .list 1 ([].map rI), .list 1 ([].map rB)]]]) (.cons (.same _) (.cons (.arr (.cons (.nil _) (.cons (.nil _) (.cons (.nil _) (.rest _))))) (.rest _)))) (AW.ghost (Ghost.pick [1] (K := [.arr b3 34 3 1 [[.list 1 ([].map rI), .list 1 ([].map rI), .list 1 ([].map rB)]]]) I (by decide)) ?_))))))))
 obtain rfl := Option.some.inj h
 exact AW.ret ⟨.inr I, [_, _], [], ⟨⟨0, _, _, _, _, _, _, _, I, I, I, I, I⟩, I, trivial⟩, sl_n, I, I⟩
 intro hc16 h
 refine AW.skip ?_
 subst hy8
 refine AW.seqG (fun y17 hy17 => (AW.zr [.l 1 (pumps_2.length : Int), .o 3 0, .l 4 (n_0.Stations.length : Int)] I ⟨len_m, I, len_m, trivial⟩ (AW.ch h I ?_ ?_)))
 intro hc18 h
 refine AW.seq (AW.region (AO.p (Yp.buildP (l := [.v (.slice none 0 0), .v (.slice none 0 0), .v (.slice none 0 0)]) Try.bld34 I) I (AO.act [1] I (AX.store 1 0 0 (es' := [[.v (.slice none 0 0), .v (.slice none 0 0), .v (.slice none 0 0)]]) I I I I I I I I (le_ble I) I I (AO.q 1 I (AO.nil (AW.ghost (Ghost.freeze [] (K := []) I [] trivial (ob' := [.arr b2 30 6 1 [Network.row n_0], .arr b3 34 3 1 [[.list 1 ([].map rI), .list 1 ([].map rI), .list 1 ([].map rB)]]]) (.cons (.same _) (.cons (.arr (.cons (.nil _) (.cons (.nil _) (.cons (.nil _) (.rest _))))) (.rest _)))) (AW.ghost (Ghost.pick [1] (K := [.arr b3 34 3 1 [[.list 1 ([].map rI), .list 1 ([].map rI), .list 1 ([].map rB)]]]) I (by decide)) ?_))))))))
 obtain rfl := Option.some.inj h
 exact AW.ret ⟨.inr I, [_, _], [], ⟨⟨0, _, _, _, _, _, _, _, I, I, I, I, I⟩, I, trivial⟩, sl_n, I, I⟩
 intro hc18 h
 refine AW.skip ?_
 subst hy17
 refine AW.cutX (fun s ob => ∃ (j31 : (List Int) × (List Int) × (List Bool)) (b32 : Nat) (v33 : Value) (v34 : Value) (v35 : Value), L.paths_Sum.J2 n_0 l_1 j31 = some r ∧ s = [(9, .v (.pointer (some ⟨b32, 0, none⟩)))] ∧ ob = [.arr b2 30 6 1 [Network.row n_0], .arr b3 34 3 1 [[.v (.slice none 0 0), .v (.slice none 0 0), .v (.slice none 0 0)]], .us v33 3 1 (j31.1.map rI), .us v34 3 1 (j31.2.1.map rI), .us v35 4 1 (j31.2.2.map rB), .arr b32 34 3 1 [[.v v33, .v v34, .v v35]]]) [(1, _), (3, _), (6, _)] ⟨I, I, I, trivial⟩ ?_ ?_
 obtain ⟨l126, hx127, h⟩ := ob_some h
 obtain ⟨m128, hx127i, hx127m, hx127r⟩ := mk_some hx127
 obtain ⟨l130, hx131, h⟩ := ob_some h
 obtain ⟨m132, hx131i, hx131m, hx131r⟩ := mk_some hx131
 obtain ⟨r134, hx135, h⟩ := ob_some h
 refine AW.rd (.still 0 (.still 1 (.still 2 (.still 4 (.still 5 (.still 6 (.still 8 (.four 3 7 9 11 (.three 7 9 11 (.two 9 11 (.still 10 (.act 11 (.act 12 .nil))) (.act 9 (.still 10 (.act 12 .nil)))) (.two 7 11 (.still 10 (.act 11 (.act 12 .nil))) (.act 7 (.still 10 (.act 12 .nil)))) (.two 7 9 (.act 9 (.still 10 (.act 12 .nil))) (.act 7 (.still 10 (.act 12 .nil))))) (.three 3 9 11 (.two 9 11 (.still 10 (.act 11 (.act 12 .nil))) (.act 9 (.still 10 (.act 12 .nil)))) (.two 3 11 (.still 10 (.act 11 (.act 12 .nil))) (.act 3 (.still 10 (.act 12 .nil)))) (.two 3 9 (.act 9 (.still 10 (.act 12 .nil))) (.act 3 (.still 10 (.act 12 .nil))))) (.three 3 7 11 (.two 7 11 (.still 10 (.act 11 (.act 12 .nil))) (.act 7 (.still 10 (.act 12 .nil)))) (.two 3 11 (.still 10 (.act 11 (.act 12 .nil))) (.act 3 (.still 10 (.act 12 .nil)))) (.two 3 7 (.act 7 (.still 10 (.act 12 .nil))) (.act 3 (.still 10 (.act 12 .nil))))) (.three 3 7 9 (.two 7 9 (.act 9 (.still 10 (.act 12 .nil))) (.act 7 (.still 10 (.act 12 .nil)))) (.two 3 9 (.act 9 (.still 10 (.act 12 .nil))) (.act 3 (.still 10 (.act 12 .nil)))) (.two 3 7 (.act 7 (.still 10 (.act 12 .nil))) (.act 3 (.still 10 (.act 12 .nil))))))))))))) [0] [_] I (AP.r 7 [.o 1 0, .l 2 (n_0.Segments.length : Int), .o 4 0, .l 5 (n_0.Ports.length : Int)] I ⟨len_m, I, len_m, I, trivial⟩ (AP.four ?_ ?_ ?_ ?_))
 refine AP.act [] I I I (AX.makeU (sz := 1) I I I I I I I I I I hx127i hx127m (rep_map (f := rI) hx127r I) (dst_some I) (fun v129 => (AP.three ?_ ?_ ?_)))
 refine AP.act [] I I I (AX.makeU (sz := 1) I I I I I I I I I I hx131i hx131m (rep_map (f := rI) hx131r I) (dst_some I) (fun v133 => (AP.two ?_ ?_)))
 refine AP.act [] I I I (AX.call0 I I I (L.slices_Clone_bool_bool_ok pumps_2 _ hx135) (dst_some I) ?_)
 rintro _ _ ⟨v136, rfl, rfl⟩
 refine AP.one 2 I (fun v129o => (AP.one 3 I (fun v133o => (AP.one 4 I (fun v136o => (AP.p I (Yp.buildP (l := [.v v129, .v v133, .v v136]) Try.bld34 (fill_step I I (cells_v v129o) I (fill_step I I (cells_v v133o) I (fill_step I I (cells_v v136o) I (fill_nil))))) I (AP.act [] I I I (AX.alloc (cs := [.v (.slice none 0 0), .v (.slice none 0 0), .v (.slice none 0 0)]) (m := 3) I I I I I (dst_some I) (fun b137 => (AP.act [5] I I I (AX.store 5 0 0 (es' := [[.v v129, .v v133, .v v136]]) I I I I I I I I (le_ble I) I I (AP.ofAO (AO.nil ?_)))))))))))))
 exact lg ⟨(l126, l130, r134), b137, v129, v133, v136, h, I, I⟩ [0, 1, 2, 3, 4, 5]
 refine AP.act [] I I I (AX.alloc (cs := [.v (.slice none 0 0), .v (.slice none 0 0), .v (.slice none 0 0)]) (m := 3) I I I I I (dst_some I) (fun b137 => (AP.act [] I I I (AX.call0 I I I (L.slices_Clone_bool_bool_ok pumps_2 _ hx135) (dst_some I) ?_))))
 rintro _ _ ⟨v136, rfl, rfl⟩
 refine AP.one 2 I (fun v129o => (AP.one 3 I (fun v133o => (AP.one 5 I (fun v136o => (AP.p I (Yp.buildP (l := [.v v129, .v v133, .v v136]) Try.bld34 (fill_step I I (cells_v v129o) I (fill_step I I (cells_v v133o) I (fill_step I I (cells_v v136o) I (fill_nil))))) I (AP.act [4] I I I (AX.store 4 0 0 (es' := [[.v v129, .v v133, .v v136]]) I I I I I I I I (le_ble I) I I (AP.ofAO (AO.nil ?_))))))))))
 exact lg ⟨(l126, l130, r134), b137, v129, v133, v136, h, I, I⟩ [0, 1, 2, 3, 5, 4]
 refine AP.act [] I I I (AX.call0 I I I (L.slices_Clone_bool_bool_ok pumps_2 _ hx135) (dst_some I) ?_)
 rintro _ _ ⟨v136, rfl, rfl⟩
 refine AP.two ?_ ?_
 refine AP.act [] I I I (AX.makeU (sz := 1) I I I I I I I I I I hx131i hx131m (rep_map (f := rI) hx131r I) (dst_some I) (fun v133 => (AP.one 2 I (fun v129o => (AP.one 4 I (fun v133o => (AP.one 3 I (fun v136o => (AP.p I (Yp.buildP (l := [.v v129, .v v133, .v v136]) Try.bld34 (fill_step I I (cells_v v129o) I (fill_step I I (cells_v v133o) I (fill_step I I (cells_v v136o) I (fill_nil))))) I (AP.act [] I I I (AX.alloc (cs := [.v (.slice none 0 0), .v (.slice none 0 0), .v (.slice none 0 0)]) (m := 3) I I I I I (dst_some I) (fun b137 => (AP.act [5] I I I (AX.store 5 0 0 (es' := [[.v v129, .v v133, .v v136]]) I I I I I I I I (le_ble I) I I (AP.ofAO (AO.nil ?_))))))))))))))))
 exact lg ⟨(l126, l130, r134), b137, v129, v133, v136, h, I, I⟩ [0, 1, 2, 4, 3, 5]
 refine AP.act [] I I I (AX.alloc (cs := [.v (.slice none 0 0), .v (.slice none 0 0), .v (.slice none 0 0)]) (m := 3) I I I I I (dst_some I) (fun b137 => (AP.act [] I I I (AX.makeU (sz := 1) I I I I I I I I I I hx131i hx131m (rep_map (f := rI) hx131r I) (dst_some I) (fun v133 => (AP.one 2 I (fun v129o => (AP.one 5 I (fun v133o => (AP.one 3 I (fun v136o => (AP.p I (Yp.buildP (l := [.v v129, .v v133, .v v136]) Try.bld34 (fill_step I I (cells_v v129o) I (fill_step I I (cells_v v133o) I (fill_step I I (cells_v v136o) I (fill_nil))))) I (AP.act [4] I I I (AX.store 4 0 0 (es' := [[.v v129, .v v133, .v v136]]) I I I I I I I I (le_ble I) I I (AP.ofAO (AO.nil ?_))))))))))))))))
 exact lg ⟨(l126, l130, r134), b137, v129, v133, v136, h, I, I⟩ [0, 1, 2, 5, 3, 4]
 refine AP.act [] I I I (AX.alloc (cs := [.v (.slice none 0 0), .v (.slice none 0 0), .v (.slice none 0 0)]) (m := 3) I I I I I (dst_some I) (fun b137 => (AP.two ?_ ?_)))
 refine AP.act [] I I I (AX.makeU (sz := 1) I I I I I I I I I I hx131i hx131m (rep_map (f := rI) hx131r I) (dst_some I) (fun v133 => (AP.act [] I I I (AX.call0 I I I (L.slices_Clone_bool_bool_ok pumps_2 _ hx135) (dst_some I) ?_))))
 rintro _ _ ⟨v136, rfl, rfl⟩
 refine AP.one 2 I (fun v129o => (AP.one 4 I (fun v133o => (AP.one 5 I (fun v136o => (AP.p I (Yp.buildP (l := [.v v129, .v v133, .v v136]) Try.bld34 (fill_step I I (cells_v v129o) I (fill_step I I (cells_v v133o) I (fill_step I I (cells_v v136o) I (fill_nil))))) I (AP.act [3] I I I (AX.store 3 0 0 (es' := [[.v v129, .v v133, .v v136]]) I I I I I I I I (le_ble I) I I (AP.ofAO (AO.nil ?_))))))))))
 exact lg ⟨(l126, l130, r134), b137, v129, v133, v136, h, I, I⟩ [0, 1, 2, 4, 5, 3]
 refine AP.act [] I I I (AX.call0 I I I (L.slices_Clone_bool_bool_ok pumps_2 _ hx135) (dst_some I) ?_)
 rintro _ _ ⟨v136, rfl, rfl⟩
 refine AP.act [] I I I (AX.makeU (sz := 1) I I I I I I I I I I hx131i hx131m (rep_map (f := rI) hx131r I) (dst_some I) (fun v133 => (AP.one 2 I (fun v129o => (AP.one 5 I (fun v133o => (AP.one 4 I (fun v136o => (AP.p I (Yp.buildP (l := [.v v129, .v v133, .v v136]) Try.bld34 (fill_step I I (cells_v v129o) I (fill_step I I (cells_v v133o) I (fill_step I I (cells_v v136o) I (fill_nil))))) I (AP.act [3] I I I (AX.store 3 0 0 (es' := [[.v v129, .v v133, .v v136]]) I I I I I I I I (le_ble I) I I (AP.ofAO (AO.nil ?_)))))))))))))
 exact lg ⟨(l126, l130, r134), b137, v129, v133, v136, h, I, I⟩ [0, 1, 2, 5, 4, 3]
 refine AP.act [] I I I (AX.makeU (sz := 1) I I I I I I I I I I hx131i hx131m (rep_map (f := rI) hx131r I) (dst_some I) (fun v133 => (AP.three ?_ ?_ ?_)))
 refine AP.act [] I I I (AX.makeU (sz := 1) I I I I I I I I I I hx127i hx127m (rep_map (f := rI) hx127r I) (dst_some I) (fun v129 => (AP.two ?_ ?_)))
 refine AP.act [] I I I (AX.call0 I I I (L.slices_Clone_bool_bool_ok pumps_2 _ hx135) (dst_some I) ?_)
 rintro _ _ ⟨v136, rfl, rfl⟩
 refine AP.one 3 I (fun v129o => (AP.one 2 I (fun v133o => (AP.one 4 I (fun v136o => (AP.p I (Yp.buildP (l := [.v v129, .v v133, .v v136]) Try.bld34 (fill_step I I (cells_v v129o) I (fill_step I I (cells_v v133o) I (fill_step I I (cells_v v136o) I (fill_nil))))) I (AP.act [] I I I (AX.alloc (cs := [.v (.slice none 0 0), .v (.slice none 0 0), .v (.slice none 0 0)]) (m := 3) I I I I I (dst_some I) (fun b137 => (AP.act [5] I I I (AX.store 5 0 0 (es' := [[.v v129, .v v133, .v v136]]) I I I I I I I I (le_ble I) I I (AP.ofAO (AO.nil ?_)))))))))))))
 exact lg ⟨(l126, l130, r134), b137, v129, v133, v136, h, I, I⟩ [0, 1, 3, 2, 4, 5]
 refine AP.act [] I I I (AX.alloc (cs := [.v (.slice none 0 0), .v (.slice none 0 0), .v (.slice none 0 0)]) (m := 3) I I I I I (dst_some I) (fun b137 => (AP.act [] I I I (AX.call0 I I I (L.slices_Clone_bool_bool_ok pumps_2 _ hx135) (dst_some I) ?_))))
 rintro _ _ ⟨v136, rfl, rfl⟩
 refine AP.one 3 I (fun v129o => (AP.one 2 I (fun v133o => (AP.one 5 I (fun v136o => (AP.p I (Yp.buildP (l := [.v v129, .v v133, .v v136]) Try.bld34 (fill_step I I (cells_v v129o) I (fill_step I I (cells_v v133o) I (fill_step I I (cells_v v136o) I (fill_nil))))) I (AP.act [4] I I I (AX.store 4 0 0 (es' := [[.v v129, .v v133, .v v136]]) I I I I I I I I (le_ble I) I I (AP.ofAO (AO.nil ?_))))))))))
 exact lg ⟨(l126, l130, r134), b137, v129, v133, v136, h, I, I⟩ [0, 1, 3, 2, 5, 4]
 refine AP.act [] I I I (AX.call0 I I I (L.slices_Clone_bool_bool_ok pumps_2 _ hx135) (dst_some I) ?_)
 rintro _ _ ⟨v136, rfl, rfl⟩
 refine AP.two ?_ ?_
 refine AP.act [] I I I (AX.makeU (sz := 1) I I I I I I I I I I hx127i hx127m (rep_map (f := rI) hx127r I) (dst_some I) (fun v129 => (AP.one 4 I (fun v129o => (AP.one 2 I (fun v133o => (AP.one 3 I (fun v136o => (AP.p I (Yp.buildP (l := [.v v129, .v v133, .v v136]) Try.bld34 (fill_step I I (cells_v v129o) I (fill_step I I (cells_v v133o) I (fill_step I I (cells_v v136o) I (fill_nil))))) I (AP.act [] I I I (AX.alloc (cs := [.v (.slice none 0 0), .v (.slice none 0 0), .v (.slice none 0 0)]) (m := 3) I I I I I (dst_some I) (fun b137 => (AP.act [5] I I I (AX.store 5 0 0 (es' := [[.v v129, .v v133, .v v136]]) I I I I I I I I (le_ble I) I I (AP.ofAO (AO.nil ?_))))))))))))))))
 exact lg ⟨(l126, l130, r134), b137, v129, v133, v136, h, I, I⟩ [0, 1, 4, 2, 3, 5]
 refine AP.act [] I I I (AX.alloc (cs := [.v (.slice none 0 0), .v (.slice none 0 0), .v (.slice none 0 0)]) (m := 3) I I I I I (dst_some I) (fun b137 => (AP.act [] I I I (AX.makeU (sz := 1) I I I I I I I I I I hx127i hx127m (rep_map (f := rI) hx127r I) (dst_some I) (fun v129 => (AP.one 5 I (fun v129o => (AP.one 2 I (fun v133o => (AP.one 3 I (fun v136o => (AP.p I (Yp.buildP (l := [.v v129, .v v133, .v v136]) Try.bld34 (fill_step I I (cells_v v129o) I (fill_step I I (cells_v v133o) I (fill_step I I (cells_v v136o) I (fill_nil))))) I (AP.act [4] I I I (AX.store 4 0 0 (es' := [[.v v129, .v v133, .v v136]]) I I I I I I I I (le_ble I) I I (AP.ofAO (AO.nil ?_))))))))))))))))
 exact lg ⟨(l126, l130, r134), b137, v129, v133, v136, h, I, I⟩ [0, 1, 5, 2, 3, 4]
 refine AP.act [] I I I (AX.alloc (cs := [.v (.slice none 0 0), .v (.slice none 0 0), .v (.slice none 0 0)]) (m := 3) I I I I I (dst_some I) (fun b137 => (AP.two ?_ ?_)))
 refine AP.act [] I I I (AX.makeU (sz := 1) I I I I I I I I I I hx127i hx127m (rep_map (f := rI) hx127r I) (dst_some I) (fun v129 => (AP.act [] I I I (AX.call0 I I I (L.slices_Clone_bool_bool_ok pumps_2 _ hx135) (dst_some I) ?_))))
 rintro _ _ ⟨v136, rfl, rfl⟩
 refine AP.one 4 I (fun v129o => (AP.one 2 I (fun v133o => (AP.one 5 I (fun v136o => (AP.p I (Yp.buildP (l := [.v v129, .v v133, .v v136]) Try.bld34 (fill_step I I (cells_v v129o) I (fill_step I I (cells_v v133o) I (fill_step I I (cells_v v136o) I (fill_nil))))) I (AP.act [3] I I I (AX.store 3 0 0 (es' := [[.v v129, .v v133, .v v136]]) I I I I I I I I (le_ble I) I I (AP.ofAO (AO.nil ?_))))))))))
 exact lg ⟨(l126, l130, r134), b137, v129, v133, v136, h, I, I⟩ [0, 1, 4, 2, 5, 3]
 refine AP.act [] I I I (AX.call0 I I I (L.slices_Clone_bool_bool_ok pumps_2 _ hx135) (dst_some I) ?_)
 rintro _ _ ⟨v136, rfl, rfl⟩
 refine AP.act [] I I I (AX.makeU (sz := 1) I I I I I I I I I I hx127i hx127m (rep_map (f := rI) hx127r I) (dst_some I) (fun v129 => (AP.one 5 I (fun v129o => (AP.one 2 I (fun v133o => (AP.one 4 I (fun v136o => (AP.p I (Yp.buildP (l := [.v v129, .v v133, .v v136]) Try.bld34 (fill_step I I (cells_v v129o) I (fill_step I I (cells_v v133o) I (fill_step I I (cells_v v136o) I (fill_nil))))) I (AP.act [3] I I I (AX.store 3 0 0 (es' := [[.v v129, .v v133, .v v136]]) I I I I I I I I (le_ble I) I I (AP.ofAO (AO.nil ?_)))))))))))))
 exact lg ⟨(l126, l130, r134), b137, v129, v133, v136, h, I, I⟩ [0, 1, 5, 2, 4, 3]
 refine AP.act [] I I I (AX.call0 I I I (L.slices_Clone_bool_bool_ok pumps_2 _ hx135) (dst_some I) ?_)
 rintro _ _ ⟨v136, rfl, rfl⟩
 refine AP.three ?_ ?_ ?_
 refine AP.act [] I I I (AX.makeU (sz := 1) I I I I I I I I I I hx127i hx127m (rep_map (f := rI) hx127r I) (dst_some I) (fun v129 => (AP.two ?_ ?_)))
 refine AP.act [] I I I (AX.makeU (sz := 1) I I I I I I I I I I hx131i hx131m (rep_map (f := rI) hx131r I) (dst_some I) (fun v133 => (AP.one 3 I (fun v129o => (AP.one 4 I (fun v133o => (AP.one 2 I (fun v136o => (AP.p I (Yp.buildP (l := [.v v129, .v v133, .v v136]) Try.bld34 (fill_step I I (cells_v v129o) I (fill_step I I (cells_v v133o) I (fill_step I I (cells_v v136o) I (fill_nil))))) I (AP.act [] I I I (AX.alloc (cs := [.v (.slice none 0 0), .v (.slice none 0 0), .v (.slice none 0 0)]) (m := 3) I I I I I (dst_some I) (fun b137 => (AP.act [5] I I I (AX.store 5 0 0 (es' := [[.v v129, .v v133, .v v136]]) I I I I I I I I (le_ble I) I I (AP.ofAO (AO.nil ?_))))))))))))))))
 exact lg ⟨(l126, l130, r134), b137, v129, v133, v136, h, I, I⟩ [0, 1, 3, 4, 2, 5]
 refine AP.act [] I I I (AX.alloc (cs := [.v (.slice none 0 0), .v (.slice none 0 0), .v (.slice none 0 0)]) (m := 3) I I I I I (dst_some I) (fun b137 => (AP.act [] I I I (AX.makeU (sz := 1) I I I I I I I I I I hx131i hx131m (rep_map (f := rI) hx131r I) (dst_some I) (fun v133 => (AP.one 3 I (fun v129o => (AP.one 5 I (fun v133o => (AP.one 2 I (fun v136o => (AP.p I (Yp.buildP (l := [.v v129, .v v133, .v v136]) Try.bld34 (fill_step I I (cells_v v129o) I (fill_step I I (cells_v v133o) I (fill_step I I (cells_v v136o) I (fill_nil))))) I (AP.act [4] I I I (AX.store 4 0 0 (es' := [[.v v129, .v v133, .v v136]]) I I I I I I I I (le_ble I) I I (AP.ofAO (AO.nil ?_))))))))))))))))
 exact lg ⟨(l126, l130, r134), b137, v129, v133, v136, h, I, I⟩ [0, 1, 3, 5, 2, 4]
 refine AP.act [] I I I (AX.makeU (sz := 1) I I I I I I I I I I hx131i hx131m (rep_map (f := rI) hx131r I) (dst_some I) (fun v133 => (AP.two ?_ ?_)))
 refine AP.act [] I I I (AX.makeU (sz := 1) I I I I I I I I I I hx127i hx127m (rep_map (f := rI) hx127r I) (dst_some I) (fun v129 => (AP.one 4 I (fun v129o => (AP.one 3 I (fun v133o => (AP.one 2 I (fun v136o => (AP.p I (Yp.buildP (l := [.v v129, .v v133, .v v136]) Try.bld34 (fill_step I I (cells_v v129o) I (fill_step I I (cells_v v133o) I (fill_step I I (cells_v v136o) I (fill_nil))))) I (AP.act [] I I I (AX.alloc (cs := [.v (.slice none 0 0), .v (.slice none 0 0), .v (.slice none 0 0)]) (m := 3) I I I I I (dst_some I) (fun b137 => (AP.act [5] I I I (AX.store 5 0 0 (es' := [[.v v129, .v v133, .v v136]]) I I I I I I I I (le_ble I) I I (AP.ofAO (AO.nil ?_))))))))))))))))
 exact lg ⟨(l126, l130, r134), b137, v129, v133, v136, h, I, I⟩ [0, 1, 4, 3, 2, 5]
 refine AP.act [] I I I (AX.alloc (cs := [.v (.slice none 0 0), .v (.slice none 0 0), .v (.slice none 0 0)]) (m := 3) I I I I I (dst_some I) (fun b137 => (AP.act [] I I I (AX.makeU (sz := 1) I I I I I I I I I I hx127i hx127m (rep_map (f := rI) hx127r I) (dst_some I) (fun v129 => (AP.one 5 I (fun v129o => (AP.one 3 I (fun v133o => (AP.one 2 I (fun v136o => (AP.p I (Yp.buildP (l := [.v v129, .v v133, .v v136]) Try.bld34 (fill_step I I (cells_v v129o) I (fill_step I I (cells_v v133o) I (fill_step I I (cells_v v136o) I (fill_nil))))) I (AP.act [4] I I I (AX.store 4 0 0 (es' := [[.v v129, .v v133, .v v136]]) I I I I I I I I (le_ble I) I I (AP.ofAO (AO.nil ?_))))))))))))))))
 exact lg ⟨(l126, l130, r134), b137, v129, v133, v136, h, I, I⟩ [0, 1, 5, 3, 2, 4]
 refine AP.act [] I I I (AX.alloc (cs := [.v (.slice none 0 0), .v (.slice none 0 0), .v (.slice none 0 0)]) (m := 3) I I I I I (dst_some I) (fun b137 => (AP.two ?_ ?_)))
 refine AP.act [] I I I (AX.makeU (sz := 1) I I I I I I I I I I hx127i hx127m (rep_map (f := rI) hx127r I) (dst_some I) (fun v129 => (AP.act [] I I I (AX.makeU (sz := 1) I I I I I I I I I I hx131i hx131m (rep_map (f := rI) hx131r I) (dst_some I) (fun v133 => (AP.one 4 I (fun v129o => (AP.one 5 I (fun v133o => (AP.one 2 I (fun v136o => (AP.p I (Yp.buildP (l := [.v v129, .v v133, .v v136]) Try.bld34 (fill_step I I (cells_v v129o) I (fill_step I I (cells_v v133o) I (fill_step I I (cells_v v136o) I (fill_nil))))) I (AP.act [3] I I I (AX.store 3 0 0 (es' := [[.v v129, .v v133, .v v136]]) I I I I I I I I (le_ble I) I I (AP.ofAO (AO.nil ?_))))))))))))))))
 exact lg ⟨(l126, l130, r134), b137, v129, v133, v136, h, I, I⟩ [0, 1, 4, 5, 2, 3]
 refine AP.act [] I I I (AX.makeU (sz := 1) I I I I I I I I I I hx131i hx131m (rep_map (f := rI) hx131r I) (dst_some I) (fun v133 => (AP.act [] I I I (AX.makeU (sz := 1) I I I I I I I I I I hx127i hx127m (rep_map (f := rI) hx127r I) (dst_some I) (fun v129 => (AP.one 5 I (fun v129o => (AP.one 4 I (fun v133o => (AP.one 2 I (fun v136o => (AP.p I (Yp.buildP (l := [.v v129, .v v133, .v v136]) Try.bld34 (fill_step I I (cells_v v129o) I (fill_step I I (cells_v v133o) I (fill_step I I (cells_v v136o) I (fill_nil))))) I (AP.act [3] I I I (AX.store 3 0 0 (es' := [[.v v129, .v v133, .v v136]]) I I I I I I I I (le_ble I) I I (AP.ofAO (AO.nil ?_))))))))))))))))
 exact lg ⟨(l126, l130, r134), b137, v129, v133, v136, h, I, I⟩ [0, 1, 5, 4, 2, 3]
 refine AP.act [] I I I (AX.alloc (cs := [.v (.slice none 0 0), .v (.slice none 0 0), .v (.slice none 0 0)]) (m := 3) I I I I I (dst_some I) (fun b137 => (AP.three ?_ ?_ ?_)))
 refine AP.act [] I I I (AX.makeU (sz := 1) I I I I I I I I I I hx127i hx127m (rep_map (f := rI) hx127r I) (dst_some I) (fun v129 => (AP.two ?_ ?_)))
 refine AP.act [] I I I (AX.makeU (sz := 1) I I I I I I I I I I hx131i hx131m (rep_map (f := rI) hx131r I) (dst_some I) (fun v133 => (AP.act [] I I I (AX.call0 I I I (L.slices_Clone_bool_bool_ok pumps_2 _ hx135) (dst_some I) ?_))))
 rintro _ _ ⟨v136, rfl, rfl⟩
 refine AP.one 3 I (fun v129o => (AP.one 4 I (fun v133o => (AP.one 5 I (fun v136o => (AP.p I (Yp.buildP (l := [.v v129, .v v133, .v v136]) Try.bld34 (fill_step I I (cells_v v129o) I (fill_step I I (cells_v v133o) I (fill_step I I (cells_v v136o) I (fill_nil))))) I (AP.act [2] I I I (AX.store 2 0 0 (es' := [[.v v129, .v v133, .v v136]]) I I I I I I I I (le_ble I) I I (AP.ofAO (AO.nil ?_))))))))))
 exact lg ⟨(l126, l130, r134), b137, v129, v133, v136, h, I, I⟩ [0, 1, 3, 4, 5, 2]
 refine AP.act [] I I I (AX.call0 I I I (L.slices_Clone_bool_bool_ok pumps_2 _ hx135) (dst_some I) ?_)
 rintro _ _ ⟨v136, rfl, rfl⟩
 refine AP.act [] I I I (AX.makeU (sz := 1) I I I I I I I I I I hx131i hx131m (rep_map (f := rI) hx131r I) (dst_some I) (fun v133 => (AP.one 3 I (fun v129o => (AP.one 5 I (fun v133o => (AP.one 4 I (fun v136o => (AP.p I (Yp.buildP (l := [.v v129, .v v133, .v v136]) Try.bld34 (fill_step I I (cells_v v129o) I (fill_step I I (cells_v v133o) I (fill_step I I (cells_v v136o) I (fill_nil))))) I (AP.act [2] I I I (AX.store 2 0 0 (es' := [[.v v129, .v v133, .v v136]]) I I I I I I I I (le_ble I) I I (AP.ofAO (AO.nil ?_)))))))))))))
 exact lg ⟨(l126, l130, r134), b137, v129, v133, v136, h, I, I⟩ [0, 1, 3, 5, 4, 2]
 refine AP.act [] I I I (AX.makeU (sz := 1) I I I I I I I I I I hx131i hx131m (rep_map (f := rI) hx131r I) (dst_some I) (fun v133 => (AP.two ?_ ?_)))
 refine AP.act [] I I I (AX.makeU (sz := 1) I I I I I I I I I I hx127i hx127m (rep_map (f := rI) hx127r I) (dst_some I) (fun v129 => (AP.act [] I I I (AX.call0 I I I (L.slices_Clone_bool_bool_ok pumps_2 _ hx135) (dst_some I) ?_))))
 rintro _ _ ⟨v136, rfl, rfl⟩
 refine AP.one 4 I (fun v129o => (AP.one 3 I (fun v133o => (AP.one 5 I (fun v136o => (AP.p I (Yp.buildP (l := [.v v129, .v v133, .v v136]) Try.bld34 (fill_step I I (cells_v v129o) I (fill_step I I (cells_v v133o) I (fill_step I I (cells_v v136o) I (fill_nil))))) I (AP.act [2] I I I (AX.store 2 0 0 (es' := [[.v v129, .v v133, .v v136]]) I I I I I I I I (le_ble I) I I (AP.ofAO (AO.nil ?_))))))))))
 exact lg ⟨(l126, l130, r134), b137, v129, v133, v136, h, I, I⟩ [0, 1, 4, 3, 5, 2]
 refine AP.act [] I I I (AX.call0 I I I (L.slices_Clone_bool_bool_ok pumps_2 _ hx135) (dst_some I) ?_)
 rintro _ _ ⟨v136, rfl, rfl⟩
 refine AP.act [] I I I (AX.makeU (sz := 1) I I I I I I I I I I hx127i hx127m (rep_map (f := rI) hx127r I) (dst_some I) (fun v129 => (AP.one 5 I (fun v129o => (AP.one 3 I (fun v133o => (AP.one 4 I (fun v136o => (AP.p I (Yp.buildP (l := [.v v129, .v v133, .v v136]) Try.bld34 (fill_step I I (cells_v v129o) I (fill_step I I (cells_v v133o) I (fill_step I I (cells_v v136o) I (fill_nil))))) I (AP.act [2] I I I (AX.store 2 0 0 (es' := [[.v v129, .v v133, .v v136]]) I I I I I I I I (le_ble I) I I (AP.ofAO (AO.nil ?_)))))))))))))
 exact lg ⟨(l126, l130, r134), b137, v129, v133, v136, h, I, I⟩ [0, 1, 5, 3, 4, 2]
 refine AP.act [] I I I (AX.call0 I I I (L.slices_Clone_bool_bool_ok pumps_2 _ hx135) (dst_some I) ?_)
 rintro _ _ ⟨v136, rfl, rfl⟩
 refine AP.two ?_ ?_
 refine AP.act [] I I I (AX.makeU (sz := 1) I I I I I I I I I I hx127i hx127m (rep_map (f := rI) hx127r I) (dst_some I) (fun v129 => (AP.act [] I I I (AX.makeU (sz := 1) I I I I I I I I I I hx131i hx131m (rep_map (f := rI) hx131r I) (dst_some I) (fun v133 => (AP.one 4 I (fun v129o => (AP.one 5 I (fun v133o => (AP.one 3 I (fun v136o => (AP.p I (Yp.buildP (l := [.v v129, .v v133, .v v136]) Try.bld34 (fill_step I I (cells_v v129o) I (fill_step I I (cells_v v133o) I (fill_step I I (cells_v v136o) I (fill_nil))))) I (AP.act [2] I I I (AX.store 2 0 0 (es' := [[.v v129, .v v133, .v v136]]) I I I I I I I I (le_ble I) I I (AP.ofAO (AO.nil ?_))))))))))))))))
 exact lg ⟨(l126, l130, r134), b137, v129, v133, v136, h, I, I⟩ [0, 1, 4, 5, 3, 2]
 refine AP.act [] I I I (AX.makeU (sz := 1) I I I I I I I I I I hx131i hx131m (rep_map (f := rI) hx131r I) (dst_some I) (fun v133 => (AP.act [] I I I (AX.makeU (sz := 1) I I I I I I I I I I hx127i hx127m (rep_map (f := rI) hx127r I) (dst_some I) (fun v129 => (AP.one 5 I (fun v129o => (AP.one 4 I (fun v133o => (AP.one 3 I (fun v136o => (AP.p I (Yp.buildP (l := [.v v129, .v v133, .v v136]) Try.bld34 (fill_step I I (cells_v v129o) I (fill_step I I (cells_v v133o) I (fill_step I I (cells_v v136o) I (fill_nil))))) I (AP.act [2] I I I (AX.store 2 0 0 (es' := [[.v v129, .v v133, .v v136]]) I I I I I I I I (le_ble I) I I (AP.ofAO (AO.nil ?_))))))))))))))))
 exact lg ⟨(l126, l130, r134), b137, v129, v133, v136, h, I, I⟩ [0, 1, 5, 4, 3, 2]
 rintro s ob ⟨j31, b32, v33, v34, v35, h, rfl, rfl⟩
 unfold L.paths_Sum.J2 at h
 refine AW.cutX (fun s ob => ∃ (j72 : (List Int) × (List Int) × (List Bool)) (v73 : Value) (v74 : Value), L.paths_Sum.J3 n_0 j72 = some r ∧ s = [] ∧ ob = [.arr b2 30 6 1 [Network.row n_0], .arr b3 34 3 1 [[.v (.slice none 0 0), .v (.slice none 0 0), .v (.slice none 0 0)]], .us v73 3 1 (j72.1.map rI), .us v74 3 1 (j72.2.1.map rI), .arr b32 34 3 1 [[.v v73, .v v74, .list 1 (j72.2.2.map rB)]]]) [(3, _), (6, _), (9, _)] ⟨I, I, I, trivial⟩ ?_ ?_
 refine AW.zr [.l 1 (l_1.length : Int)] I ⟨len_m, trivial⟩ (AW.block (AW.listMax 50 I (fun hm81 => ?_)))
 replace hm81 : l_1.length ≤ 9223372036854775806 := by rw [List.length_map] at hm81; omega
 refine AW.ghost (Ghost.freeze [4] (K := [.us v35 4 1 (j31.2.2.map rB)]) I [] trivial (ob' := [.arr b2 30 6 1 [Network.row n_0], .arr b3 34 3 1 [[.v (.slice none 0 0), .v (.slice none 0 0), .v (.slice none 0 0)]], .us v33 3 1 (j31.1.map rI), .us v34 3 1 (j31.2.1.map rI), .arr b32 34 3 1 [[.v v33, .v v34, .list 1 (j31.2.2.map rB)]]]) (.cons (.same _) (.cons (.same _) (.cons (.same _) (.cons (.same _) (.cons (.arr (.cons (.refl _) (.cons (.refl _) (.cons (.us 0 I) (.rest _))))) (.rest _))))))) ?_
 obtain ⟨o112, hL113, hR114⟩ := ob_some h
 clear h
 refine AW.forY hL113 [(3, _), (6, _), (9, _), (50, _), (51, _)] ⟨I, I, I, I, I, trivial⟩ (fun (k79 : Nat) (st102 : (List Int) × (List Int) × (List Bool)) s ob => ∃ (v103 : Value) (v104 : Value), s = [(52, .v (.int .i64 (k79 : Int)))] ∧ ob = [.arr b2 30 6 1 [Network.row n_0], .arr b3 34 3 1 [[.v (.slice none 0 0), .v (.slice none 0 0), .v (.slice none 0 0)]], .us v103 3 1 (st102.1.map rI), .us v104 3 1 (st102.2.1.map rI), .arr b32 34 3 1 [[.v v103, .v v104, .list 1 (st102.2.2.map rB)]]]) ⟨v33, v34, I, I⟩ ⟨I, trivial⟩ ⟨[0, 1, 2, 3, 4], I, by decide⟩ ?_ ?_
 rintro k79 x82 st102 r116 s ob hx83 hk80 ⟨v103, v104, rfl, rfl⟩ h
 unfold L.paths_Sum.B4 at h
 have hk80t : decide ((k79 : Int) < (l_1.length : Int)) = true := by simp; omega
 refine AW.z I (AW.seqG (fun y118 hy118 => (AW.condK (v := true) I hk80t (AW.skip ?_))))
 subst hy118
 refine AW.seq (AW.block (AW.seq (AW.region (AO.r 2 [.x 0 k79 (Path.row x82)] I ⟨⟨I, map_get hx83⟩, trivial⟩ (AO.act [] I (AX.alloc (cs := [.v (.int .i64 0), .v (.int .i64 0), .v (.slice none 0 0), .v (.int .i64 0)]) (m := 4) I I I I I (dst_some I) (fun b119 => (AO.act [5] I (AX.store 5 0 0 (es' := [Path.row x82]) I I I I I I I I (le_ble I) I I (AO.nil ?_))))))))))
 obtain ⟨r120, hx121, h⟩ := ob_some h
 refine AW.region (AO.r 3 [.o 0 5, .o 2 5] I ⟨I, I, trivial⟩ (AO.act [4, 2, 3] I (AX.cg [4, 2, 3] (L.paths_Grow_ok b32 (⟨st102.1, st102.2.1, st102.2.2⟩ : Plan) v103 v104 x82 x82.Rate _ hx121) ?_)))
 rintro _ _ _ - ⟨v122, v123, rfl, rfl, rfl⟩
 refine AO.nil (AW.region (AO.r 2 [.k 0 (k79 + 1 : Nat)] I ⟨cast_wr hk80 hm81, trivial⟩ ?_))
 obtain rfl := Option.some.inj h
 refine AO.nil ?_
 exact lg ⟨v122, v123, I, I⟩ [0, 1, 2, 3, 4]
 rintro st102 s ob ⟨v103, v104, rfl, rfl⟩ he
 subst he
 have h := hR114
 have hk80f : decide (((l_1.length : Nat) : Int) < (l_1.length : Int)) = false := by simp
 refine AW.z I (AW.seqG (fun y125 hy125 => (AW.condK (v := false) I hk80f (AW.exit ?_))))
 exact lg ⟨(st102.1, st102.2.1, st102.2.2), v103, v104, h, I, I⟩ [0, 1, 2, 3, 4]
 rintro s ob ⟨j72, v73, v74, h, rfl, rfl⟩
 unfold L.paths_Sum.J3 at h
 refine AW.seq (AW.seq ?_)
 obtain ⟨r75, hx76, h⟩ := ob_some h
 refine AW.region (AO.r 2 [.o 0 0, .o 1 4] I ⟨I, I, trivial⟩ (AO.act [] I (AX.callL I (.refl _) I I (.cons (.refl _) (.cons (.agg (.cons (.us 2 I) (.cons (.us 3 I) (.rest _)))) (.rest _))) I (L.flow_Check_ok n_0 (⟨j72.1, j72.2.1, j72.2.2⟩ : Plan) _ hx76) (dst_some I) (by rintro _ _ ⟨rfl, _⟩; rfl) ?_)))
 rintro _ ⟨_, rfl, -⟩
 refine AO.q 1 I (AO.nil (AW.z I (AW.ch h I ?_ ?_)))
 intro hc77 h
 refine AW.seq (AW.region (AO.p (Yp.buildP (l := [.v (.slice none 0 0), .v (.slice none 0 0), .v (.slice none 0 0)]) Try.bld34 I) I (AO.q 1 I (AO.act [1] I (AX.store 1 0 0 (es' := [[.v (.slice none 0 0), .v (.slice none 0 0), .v (.slice none 0 0)]]) I I I I I I I I (le_ble I) I I (AO.q 1 I (AO.nil (AW.ghost (Ghost.freeze [] (K := []) I [] trivial (ob' := [.arr b2 30 6 1 [Network.row n_0], .arr b3 34 3 1 [[.list 1 ([].map rI), .list 1 ([].map rI), .list 1 ([].map rB)]], .us v73 3 1 (j72.1.map rI), .us v74 3 1 (j72.2.1.map rI), .arr b32 34 3 1 [[.v v73, .v v74, .list 1 (j72.2.2.map rB)]]]) (.cons (.same _) (.cons (.arr (.cons (.nil _) (.cons (.nil _) (.cons (.nil _) (.rest _))))) (.rest _)))) (AW.ghost (Ghost.pick [1] (K := [.arr b3 34 3 1 [[.list 1 ([].map rI), .list 1 ([].map rI), .list 1 ([].map rB)]]]) I (by decide)) ?_)))))))))
 obtain rfl := Option.some.inj h
 exact AW.ret ⟨.inr I, [_, _], [], ⟨⟨0, _, _, _, _, _, _, _, I, I, I, I, I⟩, I, trivial⟩, sl_n, I, I⟩
 intro hc77 h
 refine AW.skip (AW.seq (AW.region (AO.r 1 [.o 0 4] I ⟨I, trivial⟩ (AO.act [1] I (AX.store 1 0 0 (es' := [[.v v73, .v v74, .list 1 (j72.2.2.map rB)]]) I I I I I I I I (le_ble I) I I (AO.q 1 I (AO.nil (AW.ghost (Ghost.freeze [2, 3] (K := [.us v73 3 1 (j72.1.map rI), .us v74 3 1 (j72.2.1.map rI)]) I [(62, .agg [.list 1 (j72.1.map rI), .list 1 (j72.2.1.map rI), .list 1 (j72.2.2.map rB)]), (68, .agg [.list 1 (j72.1.map rI), .list 1 (j72.2.1.map rI), .list 1 (j72.2.2.map rB)])] ⟨⟨_, I, .agg (.cons (.us 0 I) (.cons (.us 1 I) (.rest _)))⟩, ⟨_, I, .agg (.cons (.us 0 I) (.cons (.us 1 I) (.rest _)))⟩, trivial⟩ (ob' := [.arr b2 30 6 1 [Network.row n_0], .arr b3 34 3 1 [[.list 1 (j72.1.map rI), .list 1 (j72.2.1.map rI), .list 1 (j72.2.2.map rB)]], .arr b32 34 3 1 [[.list 1 (j72.1.map rI), .list 1 (j72.2.1.map rI), .list 1 (j72.2.2.map rB)]]]) (.cons (.same _) (.cons (.arr (.cons (.us 0 I) (.cons (.us 1 I) (.rest _)))) (.cons (.arr (.cons (.us 0 I) (.cons (.us 1 I) (.rest _)))) (.rest _))))) (AW.ghost (Ghost.pick [1] (K := [.arr b3 34 3 1 [[.list 1 (j72.1.map rI), .list 1 (j72.2.1.map rI), .list 1 (j72.2.2.map rB)]]]) I (by decide)) ?_)))))))))
 obtain rfl := Option.some.inj h
 exact AW.ret ⟨.inr I, [_, _], [], ⟨⟨0, _, _, _, _, _, _, _, I, I, I, I, I⟩, I, trivial⟩, sl_n, I, I⟩

theorem L.ref23_SameInts_ok (a_0 : List Int) (b_1 : List Int) (r : Bool) (h : L.ref23_SameInts a_0 b_1 = some r) : ACalls Try.env 89 [.list 1 (a_0.map rI), .list 1 (b_1.map rI)] [] (fun x new => x = .v (.bool r) ∧ new = []) := by
 refine ACalls.of_body Try.func89 rfl rfl rfl (fun C hC => ?_)
 unfold L.ref23_SameInts at h
 refine AW.z I (AW.seqG (fun y2 hy2 => (AW.zr [.l 1 (a_0.length : Int), .l 3 (b_1.length : Int)] I ⟨len_m, len_m, trivial⟩ (AW.ch h I ?_ ?_))))
 intro hc3 h
 refine AW.z I ?_
 obtain rfl := Option.some.inj h
 exact AW.ret ⟨.inr I, [_], [], ⟨I, trivial⟩, sl_n, I, I⟩
 intro hc3 h
 refine AW.skip ?_
 subst hy2
 refine AW.cutX (fun s ob => ∃ (j30 : Unit), L.ref23_SameInts.J1 j30 = some r ∧ s = [] ∧ ob = []) [] trivial ?_ ?_
 refine AW.z I (AW.block ?_)
 obtain ⟨o57, hL58, hR59⟩ := ob_some h
 clear h
 refine AW.loopX hL58 [(0, _), (1, _)] ⟨I, I, trivial⟩ (fun (st49 : Int) s ob => s = [(5, .v (.int .i64 st49))] ∧ ob = []) ⟨I, I⟩ ⟨I, trivial⟩ ⟨[], I, by decide⟩ ?_
 rintro st49 r61 s ob ⟨rfl, rfl⟩ h hb60
 unfold L.ref23_SameInts.B2 at h
 refine AW.seqG (fun y62 hy62 => (AW.zr [.l 2 (a_0.length : Int)] I ⟨len_m, trivial⟩ (AW.ch h I ?_ ?_)))
 intro hc63 h
 refine AW.skip ?_
 subst hy62
 refine AW.seq (AW.block (AW.seq ?_))
 obtain ⟨p64, hp65, h⟩ := ob_some h
 obtain ⟨hp65i, hp65x⟩ := ix_some hp65
 obtain ⟨p66, hp67, h⟩ := ob_some h
 obtain ⟨hp67i, hp67x⟩ := ix_some hp67
 refine AW.dt (pd 9 0 []) [] [] [.x 2 p64.1 (rI p64.2), .x 6 p66.1 (rI p66.2)] I I ⟨⟨hp67i, map_get hp67x⟩, ⟨hp65i, map_get hp65x⟩, trivial⟩ (AW.ch h I ?_ ?_)
 intro hc68 h
 refine AW.z I ?_
 obtain rfl := hb60 _ (Option.some.inj h).symm
 replace h := hR59
 replace h := se_l h
 obtain rfl := Option.some.inj h
 exact AW.ret ⟨.inr I, [_], [], ⟨I, trivial⟩, sl_n, I, I⟩
 intro hc68 h
 refine AW.skip (AW.region (AO.q 3 I ?_))
 obtain rfl := Option.some.inj h
 refine AO.nil ?_
 exact ⟨_, _, _, I, ⟨I, I⟩, ⟨I, I, I, trivial⟩, [], I, by decide⟩
 intro hc63 h
 obtain rfl := hb60 _ (Option.some.inj h).symm
 replace h := hR59
 replace h := se_r h
 refine AW.exit ?_
 exact lg ⟨(), h, I, I⟩ []
 rintro s ob ⟨j30, h, rfl, rfl⟩
 unfold L.ref23_SameInts.J1 at h
 refine AW.z I ?_
 obtain rfl := Option.some.inj h
 exact AW.ret ⟨.inr I, [_], [], ⟨I, trivial⟩, sl_n, I, I⟩

theorem L.ref23_SameBools_ok (a_0 : List Bool) (b_1 : List Bool) (r : Bool) (h : L.ref23_SameBools a_0 b_1 = some r) : ACalls Try.env 90 [.list 1 (a_0.map rB), .list 1 (b_1.map rB)] [] (fun x new => x = .v (.bool r) ∧ new = []) := by
 refine ACalls.of_body Try.func90 rfl rfl rfl (fun C hC => ?_)
 unfold L.ref23_SameBools at h
 refine AW.z I (AW.seqG (fun y2 hy2 => (AW.zr [.l 1 (a_0.length : Int), .l 3 (b_1.length : Int)] I ⟨len_m, len_m, trivial⟩ (AW.ch h I ?_ ?_))))
 intro hc3 h
 refine AW.z I ?_
 obtain rfl := Option.some.inj h
 exact AW.ret ⟨.inr I, [_], [], ⟨I, trivial⟩, sl_n, I, I⟩
 intro hc3 h
 refine AW.skip ?_
 subst hy2
 refine AW.cutX (fun s ob => ∃ (j30 : Unit), L.ref23_SameBools.J1 j30 = some r ∧ s = [] ∧ ob = []) [] trivial ?_ ?_
 refine AW.z I (AW.block ?_)
 obtain ⟨o57, hL58, hR59⟩ := ob_some h
 clear h
 refine AW.loopX hL58 [(0, _), (1, _)] ⟨I, I, trivial⟩ (fun (st49 : Int) s ob => s = [(5, .v (.int .i64 st49))] ∧ ob = []) ⟨I, I⟩ ⟨I, trivial⟩ ⟨[], I, by decide⟩ ?_
 rintro st49 r61 s ob ⟨rfl, rfl⟩ h hb60
 unfold L.ref23_SameBools.B2 at h
 refine AW.seqG (fun y62 hy62 => (AW.zr [.l 2 (a_0.length : Int)] I ⟨len_m, trivial⟩ (AW.ch h I ?_ ?_)))
 intro hc63 h
 refine AW.skip ?_
 subst hy62
 refine AW.seq (AW.block (AW.seq ?_))
 obtain ⟨p64, hp65, h⟩ := ob_some h
 obtain ⟨hp65i, hp65x⟩ := ix_some hp65
 obtain ⟨p66, hp67, h⟩ := ob_some h
 obtain ⟨hp67i, hp67x⟩ := ix_some hp67
 refine AW.rd (pd 9 0 []) [] [] I (AP.r 8 [.x 2 p64.1 (rB p64.2), .x 6 p66.1 (rB p66.2)] I ⟨⟨hp67i, map_get hp67x⟩, ⟨hp65i, map_get hp65x⟩, trivial⟩ (AP.op I (Yp.neqB I I I I) I (AP.ofAO (AO.nil (AW.ch h I ?_ ?_)))))
 intro hc68 h
 refine AW.z I ?_
 obtain rfl := hb60 _ (Option.some.inj h).symm
 replace h := hR59
 replace h := se_l h
 obtain rfl := Option.some.inj h
 exact AW.ret ⟨.inr I, [_], [], ⟨I, trivial⟩, sl_n, I, I⟩
 intro hc68 h
 refine AW.skip (AW.region (AO.q 3 I ?_))
 obtain rfl := Option.some.inj h
 refine AO.nil ?_
 exact ⟨_, _, _, I, ⟨I, I⟩, ⟨I, I, I, trivial⟩, [], I, by decide⟩
 intro hc63 h
 obtain rfl := hb60 _ (Option.some.inj h).symm
 replace h := hR59
 replace h := se_r h
 refine AW.exit ?_
 exact lg ⟨(), h, I, I⟩ []
 rintro s ob ⟨j30, h, rfl, rfl⟩
 unfold L.ref23_SameBools.J1 at h
 refine AW.z I ?_
 obtain rfl := Option.some.inj h
 exact AW.ret ⟨.inr I, [_], [], ⟨I, trivial⟩, sl_n, I, I⟩

theorem L.ref25_SamePlan_ok (a_0 : Plan) (b_1 : Plan) (r : Bool) (h : L.ref25_SamePlan a_0 b_1 = some r) : ACalls Try.env 35 [.agg (Plan.row a_0), .agg (Plan.row b_1)] [] (fun x new => x = .v (.bool r) ∧ new = []) := by
 refine ACalls.of_body Try.func35 rfl rfl rfl (fun C hC => ?_)
 unfold L.ref25_SamePlan at h
 refine AW.seqG (fun y1 hy1 => (AW.region (AO.act [] I (AX.box (cs := Plan.row a_0) (m := 3) I I I (dst_some I) (fun b2 => (AO.act [] I (AX.box (cs := Plan.row b_1) (m := 3) I I I (dst_some I) (fun b3 => (AO.q 1 I (AO.nil ?_))))))))))
 subst hy1
 refine AW.cutX (fun s ob => ∃ (j12 : Bool), L.ref25_SamePlan.J1 j12 = some r ∧ s = [(4, .v (.bool j12))] ∧ ob = []) [] trivial ?_ ?_
 obtain ⟨r13, hx14, h⟩ := ob_some h
 rcases Bool.eq_false_or_eq_true (r13) with hg15 | hg15
 replace h := ife_t hg15 h
 obtain ⟨r16, hx17, h⟩ := ob_some h
 rcases Bool.eq_false_or_eq_true (r16) with hg18 | hg18
 replace h := ife_t hg18 h
 obtain ⟨r19, hx20, h⟩ := ob_some h
 refine AW.region (AO.r 4 [.o 1 0, .o 3 1] I ⟨I, I, trivial⟩ (AO.c (L.ref23_SameInts_ok a_0.Rates b_1.Rates _ hx14) (AO.q 1 I (AO.known 10 I hg15 (AO.r 4 [.o 1 0, .o 3 1] I ⟨I, I, trivial⟩ (AO.gt I I I (AO.c (L.ref23_SameInts_ok a_0.Ports b_1.Ports _ hx17) (AO.q 2 I (AO.known 17 I hg18 (AO.r 4 [.o 1 0, .o 3 1] I ⟨I, I, trivial⟩ (AO.gt I I I (AO.c (L.ref23_SameBools_ok a_0.Pumps b_1.Pumps _ hx20) ?_))))))))))))
 refine AO.q 2 I (AO.nil ?_)
 exact lg ⟨r19, h, I, I⟩ []
 replace h := ife_f hg18 h
 refine AW.region (AO.r 4 [.o 1 0, .o 3 1] I ⟨I, I, trivial⟩ (AO.c (L.ref23_SameInts_ok a_0.Rates b_1.Rates _ hx14) (AO.q 1 I (AO.known 10 I hg15 (AO.r 4 [.o 1 0, .o 3 1] I ⟨I, I, trivial⟩ (AO.gt I I I (AO.c (L.ref23_SameInts_ok a_0.Ports b_1.Ports _ hx17) (AO.q 2 I (AO.known 17 I hg18 (AO.q 7 I (AO.nil ?_)))))))))))
 exact lg ⟨false, h, I, I⟩ []
 replace h := ife_f hg15 h
 refine AW.region (AO.r 4 [.o 1 0, .o 3 1] I ⟨I, I, trivial⟩ (AO.c (L.ref23_SameInts_ok a_0.Rates b_1.Rates _ hx14) (AO.q 1 I (AO.known 10 I hg15 (AO.q 14 I (AO.nil ?_))))))
 exact lg ⟨false, h, I, I⟩ []
 rintro s ob ⟨j12, h, rfl, rfl⟩
 unfold L.ref25_SamePlan.J1 at h
 obtain rfl := Option.some.inj h
 exact AW.ret ⟨.inr I, [_], [], ⟨I, trivial⟩, sl_n, I, I⟩

theorem L.ref25_Copy_ok (p_0 : Path) (r : Path) (h : L.ref25_Copy p_0 = some r) : ACalls Try.env 33 [.agg (Path.row p_0)] [] (fun x new => x = .agg (Path.row r) ∧ new = []) := by
 refine ACalls.of_body Try.func33 rfl rfl rfl (fun C hC => ?_)
 unfold L.ref25_Copy at h
 refine AW.seq (AW.region (AO.act [] I (AX.box (cs := Path.row p_0) (m := 4) I I I (dst_some I) (fun b1 => (AO.act [] I (AX.alloc (cs := [.v (.int .i64 0), .v (.int .i64 0), .v (.slice none 0 0), .v (.int .i64 0)]) (m := 4) I I I I I (dst_some I) (fun b2 => (AO.nil (AW.seq ?_)))))))))
 obtain ⟨l4, hx5, h⟩ := ob_some h
 refine AW.region (AO.act [] I (AX.buildSlice (sz := 2) (es := ([] : List Hop).map Hop.row) I I I I I I I I I I I (dst_some I) (fun v3 => (AO.r 2 [.o 1 0] I ⟨I, trivial⟩ (AO.act [2] I (AX.ap 2 I hx5 (fun v6 => (AO.q 1 I (AO.one 2 I (fun v6o => (AO.act [0] I (AX.store 0 0 2 (es' := [[.v (.int .i64 p_0.In), .v (.int .i64 p_0.Out), .v v6, .v (.int .i64 p_0.Rate)]]) I I I I I I (cells_v v6o) I (le_ble I) I I (AO.nil (AW.seq (AW.region (AO.r 1 [.o 0 0] I ⟨I, trivial⟩ (AO.act [1] I (AX.store 1 0 0 (es' := [[.v (.int .i64 p_0.In), .v (.int .i64 p_0.Out), .v v6, .v (.int .i64 p_0.Rate)]]) I I I I I I I I (le_ble I) I I (AO.nil ?_)))))))))))))))))))
 refine AW.ghost (Ghost.freeze [2] (K := [.us v6 60 2 (l4.map Hop.row)]) I [(6, .list 2 (l4.map Hop.row)), (8, .agg [.v (.int .i64 p_0.In), .v (.int .i64 p_0.Out), .list 2 (l4.map Hop.row), .v (.int .i64 p_0.Rate)])] ⟨⟨_, I, .us 0 I⟩, ⟨_, I, .agg (.cons (.refl _) (.cons (.refl _) (.cons (.us 0 I) (.rest _))))⟩, trivial⟩ (ob' := [.arr b1 58 4 1 [[.v (.int .i64 p_0.In), .v (.int .i64 p_0.Out), .list 2 (l4.map Hop.row), .v (.int .i64 p_0.Rate)]], .arr b2 58 4 1 [[.v (.int .i64 p_0.In), .v (.int .i64 p_0.Out), .list 2 (l4.map Hop.row), .v (.int .i64 p_0.Rate)]]]) (.cons (.arr (.cons (.refl _) (.cons (.refl _) (.cons (.us 0 I) (.rest _))))) (.cons (.arr (.cons (.refl _) (.cons (.refl _) (.cons (.us 0 I) (.rest _))))) (.rest _)))) (AW.ghost (Ghost.pick [1] (K := [.arr b2 58 4 1 [[.v (.int .i64 p_0.In), .v (.int .i64 p_0.Out), .list 2 (l4.map Hop.row), .v (.int .i64 p_0.Rate)]]]) I (by decide)) ?_)
 obtain rfl := Option.some.inj h
 exact AW.ret ⟨.inr I, [_], [], ⟨⟨0, _, _, _, _, _, _, _, I, I, I, I, I⟩, trivial⟩, sl_n, I, I⟩

end Go.Proofs.Ytndfiddakngjdaa
