/- Walks that show what functions of the program compute; printed by a program of ours. No condition. -/
import Derived.Test.YtndfiddakngjdaaL2
import Derived.Test.YtndfiddakngjdaaDp
namespace Go.Proofs.Ytndfiddakngjdaa
open Go.Aw
set_option linter.unusedVariables false
set_option linter.unusedSimpArgs false
set_option maxRecDepth 100000
set_option maxHeartbeats 4000000

theorem L.second_Mod_ok (n_0 : Int) (k_1 : Int) (r : Int) (h : L.second_Mod n_0 k_1 = some r) : ACalls Try.env 25 [.v (.int .i64 n_0), .v (.int .i64 k_1)] [] (fun x new => x = .v (.int .i64 r) ∧ new = []) := by
 refine ACalls.of_body Try.func25 rfl rfl rfl (fun C hC => ?_)
 unfold L.second_Mod at h
 refine AW.z I (AW.seq ?_)
 obtain ⟨r1, hx2, h⟩ := ob_some h
 refine AW.region (AO.q 2 I (AO.c (L.keep_Mod_ok n_0 k_1 _ hx2) (AO.q 1 I (AO.nil ?_))))
 obtain rfl := Option.some.inj h
 exact AW.ret ⟨.inr I, [_], [], ⟨I, trivial⟩, sl_n, I, I⟩

theorem L.slices_IndexFunc_api_Hop_api_Hop_ok (s_0 : List Hop) (F1 : T) {f1 : FuncId} {p1 s1 : List T} (h1 : fnT F1 = some (f1, p1, s1)) (g1 : Hop → Option Bool) (hg1 : ∀ (y0 : Hop) r, g1 y0 = some r → ACalls Try.env f1 (p1 ++ [.agg (Hop.row y0)] ++ s1) [] (fun x new => x = .v (.bool r) ∧ new = [])) (r : Int) (h : L.slices_IndexFunc_api_Hop_api_Hop s_0 g1 = some r) : ACalls Try.env 115 [.list 2 (s_0.map Hop.row), F1] [] (fun x new => x = .v (.int .i64 r) ∧ new = []) := by
 refine ACalls.of_body Try.func115 rfl rfl rfl (fun C hC => ?_)
 unfold L.slices_IndexFunc_api_Hop_api_Hop at h
 refine AW.z I (AW.cutX (fun s ob => ∃ (j24 : Unit), L.slices_IndexFunc_api_Hop_api_Hop.J1 j24 = some r ∧ s = [] ∧ ob = []) [] trivial ?_ ?_)
 refine AW.zr [.l 1 (s_0.length : Int)] I ⟨len_m, trivial⟩ (AW.block (AW.listMax 6 I (fun hm28 => ?_)))
 replace hm28 : s_0.length ≤ 9223372036854775806 := by rw [List.length_map] at hm28; omega
 obtain ⟨o45, hL46, hR47⟩ := ob_some h
 clear h
 refine AW.forX hL46 [(0, _), (1, _), (7, _)] ⟨I, I, I, trivial⟩ (fun (k26 : Nat) (st38 : Unit) s ob => s = [(8, .v (.int .i64 (k26 : Int)))] ∧ ob = []) ⟨I, I⟩ ⟨I, trivial⟩ ⟨[], I, by decide⟩ ?_ ?_
 rintro k26 x29 st38 r49 s ob hx30 hk27 ⟨rfl, rfl⟩ h hb48
 unfold L.slices_IndexFunc_api_Hop_api_Hop.B2 at h
 have hk27t : decide ((k26 : Int) < (s_0.length : Int)) = true := by simp; omega
 refine AW.z I (AW.seqG (fun y51 hy51 => (AW.condK (v := true) I hk27t (AW.skip ?_))))
 subst hy51
 refine AW.seq (AW.block (AW.z I (AW.seq ?_)))
 obtain ⟨r53, hx54, h⟩ := ob_some h
 refine AW.region (AO.r 5 [.x 3 k26 (Hop.row x29)] I ⟨⟨I, map_get hx30⟩, trivial⟩ (AO.act [] I (AX.callL I (.refl _) h1 I (.rest _) I (hg1 _ _ hx54) (dst_some I) (by rintro _ _ ⟨rfl, _⟩; rfl) ?_)))
 rintro _ ⟨_, rfl, -⟩
 refine AO.nil (AW.ch h I ?_ ?_)
 intro hc55 h
 refine AW.z I ?_
 obtain rfl := hb48 _ (Option.some.inj h).symm
 replace h := hR47
 replace h := se_r h
 obtain rfl := Option.some.inj h
 exact AW.ret ⟨.inr I, [_], [], ⟨I, trivial⟩, sl_n, I, I⟩
 intro hc55 h
 refine AW.skip (AW.region (AO.r 2 [.k 0 (k26 + 1 : Nat)] I ⟨cast_wr hk27 hm28, trivial⟩ ?_))
 obtain rfl := Option.some.inj h
 refine AO.nil ?_
 exact ⟨_, _, _, I, ⟨I, I⟩, ⟨I, I, I, I, trivial⟩, [], I, by decide⟩
 rintro st38 s ob ⟨rfl, rfl⟩ he
 subst he
 have h := se_l hR47
 have hk27f : decide (((s_0.length : Nat) : Int) < (s_0.length : Int)) = false := by simp
 refine AW.z I (AW.seqG (fun y57 hy57 => (AW.condK (v := false) I hk27f (AW.exit ?_))))
 exact lg ⟨(), h, I, I⟩ []
 rintro s ob ⟨j24, h, rfl, rfl⟩
 unfold L.slices_IndexFunc_api_Hop_api_Hop.J1 at h
 refine AW.z I ?_
 obtain rfl := Option.some.inj h
 exact AW.ret ⟨.inr I, [_], [], ⟨I, trivial⟩, sl_n, I, I⟩

theorem L.slices_ContainsFunc_api_Hop_api_Hop_ok (s_0 : List Hop) (F1 : T) {f1 : FuncId} {p1 s1 : List T} (h1 : fnT F1 = some (f1, p1, s1)) (g1 : Hop → Option Bool) (hg1 : ∀ (y0 : Hop) r, g1 y0 = some r → ACalls Try.env f1 (p1 ++ [.agg (Hop.row y0)] ++ s1) [] (fun x new => x = .v (.bool r) ∧ new = [])) (r : Bool) (h : L.slices_ContainsFunc_api_Hop_api_Hop s_0 g1 = some r) : ACalls Try.env 69 [.list 2 (s_0.map Hop.row), F1] [] (fun x new => x = .v (.bool r) ∧ new = []) := by
 refine ACalls.of_body Try.func69 rfl rfl rfl (fun C hC => ?_)
 unfold L.slices_ContainsFunc_api_Hop_api_Hop at h
 refine AW.z I (AW.seq ?_)
 obtain ⟨r1, hx2, h⟩ := ob_some h
 refine AW.region (AO.q 2 I (AO.c (L.slices_IndexFunc_api_Hop_api_Hop_ok s_0 F1 h1 g1 hg1 _ hx2) (AO.q 2 I (AO.nil ?_))))
 obtain rfl := Option.some.inj h
 exact AW.ret ⟨.inr I, [_], [], ⟨I, trivial⟩, sl_n, I, I⟩

set_option maxRecDepth 100000 in
theorem L.slices_Clone_api_Hop_api_Hop_ok (s0 : List Hop) (r : List Hop) (h : L.slices_Clone_api_Hop_api_Hop s0 = some r) : ACalls Try.env 116 [.list 2 (s0.map Hop.row)] [] (fun x new => ∃ (u0 : Value), x = .v u0 ∧ new = [.us u0 60 2 (r.map Hop.row)]) := by
  refine ACalls.of_body Try.func116 rfl rfl rfl (fun C hC => ?_)
  unfold L.slices_Clone_api_Hop_api_Hop at h
  obtain ⟨h1, h2⟩ := app_some h
  refine AW.seq ?_
  refine AW.region ?_
  refine AO.p (Yp.assign rfl) rfl ?_
  refine AO.nil ?_
  refine AW.seq ?_
  refine AW.seq ?_
  refine AW.region ?_
  refine AO.p (Yp.move rfl) rfl ?_
  refine AO.act [] rfl (AX.eqNil rfl rfl rfl (dst_some rfl) (fun c hc => ?_))
  refine AO.nil ?_
  refine AW.cond rfl rfl ?_ ?_
  · intro hb
    have hs : s0 = [] := by have := hc hb; simpa using this
    subst hs
    refine AW.seq ?_
    refine AW.region ?_
    refine AO.p (Yp.assign rfl) rfl ?_
    refine AO.ghost (Ghost.nilU 60 2) ?_
    refine AO.nil ?_
    refine AW.ret ?_
    have hr : r = [] := by simpa using h2.symm
    subst hr
    exact ⟨.inr rfl, [_], [.us (.slice none 0 0) 60 2 ([].map Hop.row)], ⟨rfl, trivial⟩, sl_c rfl sl_n, ⟨_, rfl, rfl⟩⟩
  · intro hb
    refine AW.skip ?_
    refine AW.seq ?_
    refine AW.region ?_
    refine AO.act [] rfl (AX.buildSlice (sz := 2) (es := []) rfl rfl rfl rfl rfl rfl rfl rfl rfl rfl rfl (dst_some rfl) (fun v1 => ?_))
    refine AO.p (Yp.move rfl) rfl ?_
    refine AO.act [0] rfl (AX.appendU 0 (es' := r.map Hop.row) rfl rfl rfl rfl rfl rfl rfl rfl rfl (AppSrc.list rfl) (by simpa using h1) (by rw [← h2]; simp) (dst_some rfl) (fun v2 => ?_))
    refine AO.p (Yp.assign rfl) rfl ?_
    refine AO.nil ?_
    refine AW.ret ?_
    exact ⟨.inr rfl, [_], [.us v2 60 2 (r.map Hop.row)], ⟨rfl, trivial⟩, sl_c rfl sl_n, ⟨_, rfl, rfl⟩⟩

theorem L.paths_with_ok (p_0 : Path) (rate_1 : Int) (r : Path) (h : L.paths_with p_0 rate_1 = some r) : ACalls Try.env 71 [.agg (Path.row p_0), .v (.int .i64 rate_1)] [] (fun x new => x = .agg (Path.row r) ∧ new = []) := by
 refine ACalls.of_body Try.func71 rfl rfl rfl (fun C hC => ?_)
 unfold L.paths_with at h
 refine AW.seqG (fun y1 hy1 => (AW.region (AO.act [] I (AX.box (cs := Path.row p_0) (m := 4) I I I (dst_some I) (fun b2 => (AO.act [] I (AX.alloc (cs := [.v (.int .i64 0), .v (.int .i64 0), .v (.slice none 0 0), .v (.int .i64 0)]) (m := 4) I I I I I (dst_some I) (fun b3 => (AO.nil ?_)))))))))
 subst hy1
 refine AW.seq ?_
 obtain ⟨r4, hx5, h⟩ := ob_some h
 refine AW.region (AO.r 2 [.o 1 0] I ⟨I, trivial⟩ (AO.act [] I (AX.call0 I I I (L.slices_Clone_api_Hop_api_Hop_ok p_0.Hops _ hx5) (dst_some I) ?_)))
 rintro _ _ ⟨v6, rfl, rfl⟩
 refine AO.q 2 I (AO.one 2 I (fun v6o => (AO.act [0] I (AX.store 0 0 2 (es' := [[.v (.int .i64 p_0.In), .v (.int .i64 p_0.Out), .v v6, .v (.int .i64 p_0.Rate)]]) I I I I I I (cells_v v6o) I (le_ble I) I I (AO.q 1 I (AO.act [0] I (AX.store 0 0 3 (es' := [[.v (.int .i64 p_0.In), .v (.int .i64 p_0.Out), .v v6, .v (.int .i64 rate_1)]]) I I I I I I I I (le_ble I) I I (AO.nil (AW.seq (AW.region (AO.r 1 [.o 0 0] I ⟨I, trivial⟩ (AO.act [1] I (AX.store 1 0 0 (es' := [[.v (.int .i64 p_0.In), .v (.int .i64 p_0.Out), .v v6, .v (.int .i64 rate_1)]]) I I I I I I I I (le_ble I) I I (AO.nil (AW.ghost (Ghost.freeze [2] (K := [.us v6 60 2 (r4.map Hop.row)]) I [(7, .list 2 (r4.map Hop.row)), (11, .agg [.v (.int .i64 p_0.In), .v (.int .i64 p_0.Out), .list 2 (r4.map Hop.row), .v (.int .i64 rate_1)])] ⟨⟨_, I, .us 0 I⟩, ⟨_, I, .agg (.cons (.refl _) (.cons (.refl _) (.cons (.us 0 I) (.rest _))))⟩, trivial⟩ (ob' := [.arr b2 58 4 1 [[.v (.int .i64 p_0.In), .v (.int .i64 p_0.Out), .list 2 (r4.map Hop.row), .v (.int .i64 rate_1)]], .arr b3 58 4 1 [[.v (.int .i64 p_0.In), .v (.int .i64 p_0.Out), .list 2 (r4.map Hop.row), .v (.int .i64 rate_1)]]]) (.cons (.arr (.cons (.refl _) (.cons (.refl _) (.cons (.us 0 I) (.rest _))))) (.cons (.arr (.cons (.refl _) (.cons (.refl _) (.cons (.us 0 I) (.rest _))))) (.rest _)))) (AW.ghost (Ghost.pick [1] (K := [.arr b3 58 4 1 [[.v (.int .i64 p_0.In), .v (.int .i64 p_0.Out), .list 2 (r4.map Hop.row), .v (.int .i64 rate_1)]]]) I (by decide)) ?_))))))))))))))))
 obtain rfl := Option.some.inj h
 exact AW.ret ⟨.inr I, [_], [], ⟨⟨0, _, _, _, _, _, _, _, I, I, I, I, I⟩, trivial⟩, sl_n, I, I⟩

theorem L.paths_Through_1_ok (h_0 : Hop) (a_1 : Int) (r : Bool) (h : L.paths_Through_1 h_0 a_1 = r) : ACalls Try.env 70 [.agg (Hop.row h_0), .eptr (rI a_1)] [] (fun x new => x = .v (.bool r) ∧ new = []) := by
 refine ACalls.of_body Try.func70 rfl rfl rfl (fun C hC => ?_)
 unfold L.paths_Through_1 at h
 refine AW.seq (AW.region (AO.act [] I (AX.box (cs := Hop.row h_0) (m := 2) I I I (dst_some I) (fun b1 => (AO.q 1 I (AO.nil (AW.zr [.o 1 0] I ⟨I, trivial⟩ (AW.ghost (Ghost.pick [] (K := []) I (by decide)) ?_))))))))
 obtain rfl := h
 exact AW.ret ⟨.inr I, [_], [], ⟨I, trivial⟩, sl_n, I, I⟩

theorem L.paths_Through_ok (n_0 : Network) (l_1 : List Path) (segment_2 : Int) (r : (List Path) × Int) (h : L.paths_Through n_0 l_1 segment_2 = some r) : ACalls Try.env 27 [.agg (Network.row n_0), .list 4 (l_1.map Path.row), .v (.int .i64 segment_2)] [] (fun x new => ∃ (u0 : Value), x = .tup [.v u0, .v (.int .i64 r.2)] ∧ new = [.us u0 58 4 (r.1.map Path.row)]) := by
 refine ACalls.of_body Try.func27 rfl rfl rfl (fun C hC => ?_)
 unfold L.paths_Through at h
 refine AW.seqG (fun y1 hy1 => (AW.region (AO.act [] I (AX.box (cs := Network.row n_0) (m := 6) I I I (dst_some I) (fun b2 => (AO.act [] I (AX.box (cs := [.v (.int .i64 segment_2)]) (m := 1) I I I (dst_some I) (fun b3 => (AO.q 2 I (AO.nil ?_))))))))))
 subst hy1
 refine AW.seqG (fun y4 hy4 => (AW.seq ?_))
 obtain ⟨r5, hx6, h⟩ := ob_some h
 refine AW.region (AO.r 1 [.o 0 0] I ⟨I, trivial⟩ (AO.c (L.network_Check_ok n_0 _ hx6) (AO.q 1 I (AO.nil (AW.z I (AW.ch h I ?_ ?_))))))
 intro hc7 h
 refine AW.z I (AW.ghost (Ghost.nilU 58 4) (AW.ghost (Ghost.pick [2] (K := [.us (.slice none 0 0) 58 4 ([].map Path.row)]) I (by decide)) ?_))
 obtain rfl := Option.some.inj h
 exact AW.ret ⟨.inr I, [_, _], [.us (.slice none 0 0) 58 4 ([].map Path.row)], ⟨I, I, trivial⟩, sl_c I (sl_n), ⟨(.slice none 0 0), I, I⟩⟩
 intro hc7 h
 refine AW.skip ?_
 subst hy4
 refine AW.seqG (fun y8 hy8 => (AW.cutX (fun s ob => s = [(25, .v (.bool (decide (segment_2 < 0) || decide (segment_2 ≥ (n_0.Segments.length : Int)))))] ∧ ob = [.arr b3 3 1 1 [[.v (.int .i64 segment_2)]]]) [(1, _), (5, _)] ⟨I, I, trivial⟩ ?_ ?_))
 rcases Bool.eq_false_or_eq_true (decide (segment_2 < 0)) with hg11 | hg11
 refine AW.region (AO.r 3 [.o 0 1] I ⟨I, trivial⟩ (AO.known 19 I hg11 (AO.q 6 I (AO.nil ?_))))
 exact lf ⟨I, I⟩ ⟨(get_b (by simp only [hg11, bz])), I, I, trivial⟩ [1] I
 refine AW.region (AO.r 3 [.o 0 1] I ⟨I, trivial⟩ (AO.known 19 I hg11 (AO.r 6 [.o 0 1, .o 2 0, .l 3 (n_0.Segments.length : Int)] I ⟨len_m, I, I, trivial⟩ (AO.nil ?_))))
 exact lf ⟨I, I⟩ ⟨(get_b (by simp only [hg11, bz])), I, I, trivial⟩ [1] I
 rintro s ob ⟨rfl, rfl⟩
 refine AW.ch h I ?_ ?_
 intro hc12 h
 refine AW.z I (AW.ghost (Ghost.nilU 58 4) (AW.ghost (Ghost.pick [1] (K := [.us (.slice none 0 0) 58 4 ([].map Path.row)]) I (by decide)) ?_))
 obtain rfl := Option.some.inj h
 exact AW.ret ⟨.inr I, [_, _], [.us (.slice none 0 0) 58 4 ([].map Path.row)], ⟨I, I, trivial⟩, sl_c I (sl_n), ⟨(.slice none 0 0), I, I⟩⟩
 intro hc12 h
 refine AW.skip ?_
 subst hy8
 refine AW.z I (AW.cutX (fun s ob => ∃ (j72 : List Path) (v73 : Value), L.paths_Through.J1 j72 = some r ∧ s = [(9, .v v73)] ∧ ob = [.us v73 58 4 (j72.map Path.row)]) [] trivial ?_ ?_)
 refine AW.zr [.l 1 (l_1.length : Int)] I ⟨len_m, trivial⟩ (AW.block (AW.listMax 26 I (fun hm77 => ?_)))
 replace hm77 : l_1.length ≤ 9223372036854775806 := by rw [List.length_map] at hm77; omega
 refine AW.ghost (Ghost.nilU 58 4) ?_
 obtain ⟨o130, hL131, hR132⟩ := ob_some h
 clear h
 refine AW.forY hL131 [(5, _), (26, _), (27, _)] ⟨I, I, I, trivial⟩ (fun (k75 : Nat) (st113 : List Path) s ob => ∃ (v114 : Value), s = [(28, .v (.int .i64 (k75 : Int))), (9, .v v114)] ∧ ob = [.arr b3 3 1 1 [[.v (.int .i64 segment_2)]], .us v114 58 4 (st113.map Path.row)]) ⟨(.slice none 0 0), I, I⟩ ⟨I, I, trivial⟩ ⟨[0, 1], I, by decide⟩ ?_ ?_
 rintro k75 x78 st113 r134 s ob hx79 hk76 ⟨v114, rfl, rfl⟩ h
 unfold L.paths_Through.B2 at h
 have hk76t : decide ((k75 : Int) < (l_1.length : Int)) = true := by simp; omega
 refine AW.z I (AW.seqG (fun y136 hy136 => (AW.condK (v := true) I hk76t (AW.skip ?_))))
 subst hy136
 refine AW.cutX (fun s ob => ∃ (j148 : List Path) (v149 : Value), L.paths_Through.J3 j148 = some r134 ∧ s = [(9, .v v149)] ∧ ob = [.arr b3 3 1 1 [[.v (.int .i64 segment_2)]], .us v149 58 4 (j148.map Path.row)]) [(5, _), (26, _), (27, _), (28, _)] ⟨I, I, I, I, trivial⟩ ?_ ?_
 refine AW.block (AW.seqG (fun y150 hy150 => (AW.region (AO.r 2 [.x 0 k75 (Path.row x78)] I ⟨⟨I, map_get hx79⟩, trivial⟩ (AO.act [] I (AX.alloc (cs := [.v (.int .i64 0), .v (.int .i64 0), .v (.slice none 0 0), .v (.int .i64 0)]) (m := 4) I I I I I (dst_some I) (fun b151 => (AO.act [2] I (AX.store 2 0 0 (es' := [Path.row x78]) I I I I I I I I (le_ble I) I I (AO.nil ?_))))))))))
 subst hy150
 refine AW.seq ?_
 obtain ⟨r152, hx153, h⟩ := ob_some h
 refine AW.region (AO.r 2 [.o 1 2] I ⟨I, trivial⟩ (AO.p (Yp.makeFunc I I) I (AO.act [] I (AX.callL I (.refl _) I I (.cons (.refl _) (.cons (.fn (.rest _) (.cons (.box 0 I (.rest _)) (.rest _))) (.rest _))) I (L.slices_ContainsFunc_api_Hop_api_Hop_ok x78.Hops (.fn 70 [] [.eptr (rI segment_2)]) I (fun x => some (L.paths_Through_1 x segment_2)) (fun x r h => by obtain I := Option.some.inj h; exact L.paths_Through_1_ok x segment_2 _ I) _ hx153) (dst_some I) (by rintro _ _ ⟨rfl, _⟩; rfl) ?_))))
 rintro _ ⟨_, rfl, -⟩
 refine AO.nil (AW.ch h I ?_ ?_)
 intro hc154 h
 obtain ⟨r155, hx156, h⟩ := ob_some h
 obtain ⟨l158, hx159, h⟩ := ob_some h
 refine AW.region (AO.r 4 [.o 1 2, .o 3 2] I ⟨I, I, trivial⟩ (AO.act [] I (AX.call0 I I I (L.paths_with_ok x78 x78.Rate _ hx156) (dst_some I) ?_)))
 rintro _ _ ⟨rfl, rfl⟩
 refine AO.act [] I (AX.lt 4 (([r155] : List Path).map Path.row) (AO.act [1] I (AX.ap 1 I hx159 (fun v160 => (AO.q 1 I (AO.nil ?_))))))
 exact lg ⟨l158, v160, h, I, I⟩ [0, 1]
 intro hc154 h
 refine AW.skip ?_
 exact lg ⟨st113, v114, h, I, I⟩ [0, 1]
 rintro s ob ⟨j148, v149, h, rfl, rfl⟩
 unfold L.paths_Through.J3 at h
 refine AW.region (AO.r 2 [.k 0 (k75 + 1 : Nat)] I ⟨cast_wr hk76 hm77, trivial⟩ ?_)
 obtain rfl := Option.some.inj h
 refine AO.nil ?_
 exact lg ⟨v149, I, I⟩ [0, 1]
 rintro st113 s ob ⟨v114, rfl, rfl⟩ he
 subst he
 have h := hR132
 have hk76f : decide (((l_1.length : Nat) : Int) < (l_1.length : Int)) = false := by simp
 refine AW.z I (AW.seqG (fun y162 hy162 => (AW.condK (v := false) I hk76f (AW.exit ?_))))
 exact lg ⟨st113, v114, h, I, I⟩ [1]
 rintro s ob ⟨j72, v73, h, rfl, rfl⟩
 unfold L.paths_Through.J1 at h
 refine AW.z I ?_
 obtain rfl := Option.some.inj h
 exact AW.ret ⟨.inr I, [_, _], [.us v73 58 4 (j72.map Path.row)], ⟨I, I, trivial⟩, sl_c I (sl_n), ⟨v73, I, I⟩⟩

end Go.Proofs.Ytndfiddakngjdaa
