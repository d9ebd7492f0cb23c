/- Walks that show what functions of the program compute; printed by a program of ours. No condition. -/
import Derived.Test.YtndfiddakngjdaaLp5
import Derived.Test.YtndfiddakngjdaaLp2
namespace Go.Proofs.Ytndfiddakngjdaa
open Go.Aw
set_option linter.unusedVariables false
set_option linter.unusedSimpArgs false
set_option maxRecDepth 100000
set_option maxHeartbeats 4000000

theorem L.slices_Equal_api_Hop_api_Hop_ok (s1_0 : List Hop) (s2_1 : List Hop) (r : Bool) (h : L.slices_Equal_api_Hop_api_Hop s1_0 s2_1 = some r) : ACalls Try.env 154 [.list 2 (s1_0.map Hop.row), .list 2 (s2_1.map Hop.row)] [] (fun x new => x = .v (.bool r) ∧ new = []) := by
 refine ACalls.of_body Try.func154 rfl rfl rfl (fun C hC => ?_)
 unfold L.slices_Equal_api_Hop_api_Hop at h
 refine AW.z I (AW.seqG (fun y2 hy2 => (AW.zr [.l 1 (s1_0.length : Int), .l 3 (s2_1.length : Int)] I ⟨len_m, len_m, trivial⟩ (AW.ch h I ?_ ?_))))
 intro hc3 h
 refine AW.z I ?_
 obtain rfl := Option.some.inj h
 exact AW.ret ⟨.inr I, [_], [], ⟨I, trivial⟩, sl_n, I, I⟩
 intro hc3 h
 refine AW.skip ?_
 subst hy2
 refine AW.cutX (fun s ob => ∃ (j26 : Unit), L.slices_Equal_api_Hop_api_Hop.J1 j26 = some r ∧ s = [] ∧ ob = []) [] trivial ?_ ?_
 refine AW.zr [.l 1 (s1_0.length : Int)] I ⟨len_m, trivial⟩ (AW.block (AW.listMax 11 I (fun hm30 => ?_)))
 replace hm30 : s1_0.length ≤ 9223372036854775806 := by rw [List.length_map] at hm30; omega
 obtain ⟨o47, hL48, hR49⟩ := ob_some h
 clear h
 refine AW.forX hL48 [(0, _), (1, _), (12, _)] ⟨I, I, I, trivial⟩ (fun (k28 : Nat) (st40 : Unit) s ob => s = [(13, .v (.int .i64 (k28 : Int)))] ∧ ob = []) ⟨I, I⟩ ⟨I, trivial⟩ ⟨[], I, by decide⟩ ?_ ?_
 rintro k28 x31 st40 r51 s ob hx32 hk29 ⟨rfl, rfl⟩ h hb50
 unfold L.slices_Equal_api_Hop_api_Hop.B2 at h
 have hk29t : decide ((k28 : Int) < (s1_0.length : Int)) = true := by simp; omega
 refine AW.z I (AW.seqG (fun y53 hy53 => (AW.condK (v := true) I hk29t (AW.skip ?_))))
 subst hy53
 refine AW.seq (AW.block (AW.z I (AW.seq ?_)))
 obtain ⟨p55, hp56, h⟩ := ob_some h
 obtain ⟨hp56i, hp56x⟩ := ix_some hp56
 refine AW.rd (pd 9 0 []) [] [] I (AP.r 8 [.x 2 k28 (Hop.row x31), .x 6 p55.1 (Hop.row p55.2)] I ⟨⟨hp56i, map_get hp56x⟩, ⟨I, map_get hx32⟩, trivial⟩ (AP.op I (Yp.eqStruct (r := ((x31.Segment == p55.2.Segment) && ((x31.Back == p55.2.Back) && true))) I I Try.eq60 I I I I) I (AP.ofAO (AO.nil (AW.ch h I ?_ ?_)))))
 intro hc57 h
 refine AW.z I ?_
 obtain rfl := hb50 _ (Option.some.inj h).symm
 replace h := hR49
 replace h := se_r h
 obtain rfl := Option.some.inj h
 exact AW.ret ⟨.inr I, [_], [], ⟨I, trivial⟩, sl_n, I, I⟩
 intro hc57 h
 refine AW.skip (AW.region (AO.r 2 [.k 0 (k28 + 1 : Nat)] I ⟨cast_wr hk29 hm30, trivial⟩ ?_))
 obtain rfl := Option.some.inj h
 refine AO.nil ?_
 exact ⟨_, _, _, I, ⟨I, I⟩, ⟨I, I, I, I, trivial⟩, [], I, by decide⟩
 rintro st40 s ob ⟨rfl, rfl⟩ he
 subst he
 have h := se_l hR49
 have hk29f : decide (((s1_0.length : Nat) : Int) < (s1_0.length : Int)) = false := by simp
 refine AW.z I (AW.seqG (fun y59 hy59 => (AW.condK (v := false) I hk29f (AW.exit ?_))))
 exact lg ⟨(), h, I, I⟩ []
 rintro s ob ⟨j26, h, rfl, rfl⟩
 unfold L.slices_Equal_api_Hop_api_Hop.J1 at h
 refine AW.z I ?_
 obtain rfl := Option.some.inj h
 exact AW.ret ⟨.inr I, [_], [], ⟨I, trivial⟩, sl_n, I, I⟩

theorem L.paths_Alike_ok (a_0 : Path) (b_1 : Path) (r : Bool) (h : L.paths_Alike a_0 b_1 = some r) : ACalls Try.env 125 [.agg (Path.row a_0), .agg (Path.row b_1)] [] (fun x new => x = .v (.bool r) ∧ new = []) := by
 refine ACalls.of_body Try.func125 rfl rfl rfl (fun C hC => ?_)
 unfold L.paths_Alike at h
 refine AW.seqG (fun y1 hy1 => (AW.region (AO.act [] I (AX.box (cs := Path.row a_0) (m := 4) I I I (dst_some I) (fun b2 => (AO.act [] I (AX.box (cs := Path.row b_1) (m := 4) I I I (dst_some I) (fun b3 => (AO.q 1 I (AO.nil ?_))))))))))
 subst hy1
 refine AW.cutX (fun s ob => ∃ (j8 : Bool), L.paths_Alike.J1 j8 = some r ∧ s = [(4, .v (.bool j8))] ∧ ob = []) [] trivial ?_ ?_
 rcases Bool.eq_false_or_eq_true ((a_0.In == b_1.In)) with hg9 | hg9
 replace h := ife_t hg9 h
 rcases Bool.eq_false_or_eq_true ((a_0.Out == b_1.Out)) with hg10 | hg10
 replace h := ife_t hg10 h
 obtain ⟨r11, hx12, h⟩ := ob_some h
 refine AW.region (AO.r 6 [.o 1 0, .o 3 1] I ⟨I, I, trivial⟩ (AO.known 10 I hg9 (AO.r 7 [.o 1 0, .o 3 1] I ⟨I, I, trivial⟩ (AO.known 17 I hg10 (AO.r 4 [.o 1 0, .o 3 1] I ⟨I, I, trivial⟩ (AO.gt I I I (AO.c (L.slices_Equal_api_Hop_api_Hop_ok a_0.Hops b_1.Hops _ hx12) (AO.q 2 I (AO.nil ?_)))))))))
 exact lg ⟨r11, h, I, I⟩ []
 replace h := ife_f hg10 h
 refine AW.region (AO.r 6 [.o 1 0, .o 3 1] I ⟨I, I, trivial⟩ (AO.known 10 I hg9 (AO.r 7 [.o 1 0, .o 3 1] I ⟨I, I, trivial⟩ (AO.known 17 I hg10 (AO.q 7 I (AO.nil ?_))))))
 exact lg ⟨false, h, I, I⟩ []
 replace h := ife_f hg9 h
 refine AW.region (AO.r 6 [.o 1 0, .o 3 1] I ⟨I, I, trivial⟩ (AO.known 10 I hg9 (AO.q 14 I (AO.nil ?_))))
 exact lg ⟨false, h, I, I⟩ []
 rintro s ob ⟨j8, h, rfl, rfl⟩
 unfold L.paths_Alike.J1 at h
 obtain rfl := Option.some.inj h
 exact AW.ret ⟨.inr I, [_], [], ⟨I, trivial⟩, sl_n, I, I⟩

theorem L.paths_Find_1_ok (x_0 : Path) (a_1 : Path) (r : Bool) (h : L.paths_Find_1 x_0 a_1 = some r) : ACalls Try.env 124 [.agg (Path.row x_0), .eptr (Path.row a_1)] [] (fun x new => x = .v (.bool r) ∧ new = []) := by
 refine ACalls.of_body Try.func124 rfl rfl rfl (fun C hC => ?_)
 unfold L.paths_Find_1 at h
 refine AW.seq (AW.region (AO.act [] I (AX.box (cs := Path.row x_0) (m := 4) I I I (dst_some I) (fun b1 => (AO.q 1 I (AO.nil (AW.seq ?_)))))))
 obtain ⟨r2, hx3, h⟩ := ob_some h
 refine AW.region (AO.r 2 [.o 0 0] I ⟨I, trivial⟩ (AO.c (L.paths_Alike_ok x_0 a_1 _ hx3) (AO.q 1 I (AO.nil (AW.ghost (Ghost.pick [] (K := []) I (by decide)) ?_)))))
 obtain rfl := Option.some.inj h
 exact AW.ret ⟨.inr I, [_], [], ⟨I, trivial⟩, sl_n, I, I⟩

theorem L.paths_Find_ok (l_0 : List Path) (p_1 : Path) (r : Int) (h : L.paths_Find l_0 p_1 = some r) : ACalls Try.env 91 [.list 4 (l_0.map Path.row), .agg (Path.row p_1)] [] (fun x new => x = .v (.int .i64 r) ∧ new = []) := by
 refine ACalls.of_body Try.func91 rfl rfl rfl (fun C hC => ?_)
 unfold L.paths_Find at h
 refine AW.seq (AW.region (AO.act [] I (AX.box (cs := Path.row p_1) (m := 4) I I I (dst_some I) (fun b1 => (AO.q 1 I (AO.nil (AW.seq ?_)))))))
 obtain ⟨r2, hx3, h⟩ := ob_some h
 refine AW.region (AO.q 1 I (AO.p (Yp.makeFunc I I) I (AO.act [] I (AX.callL I (.refl _) I I (.cons (.refl _) (.cons (.fn (.rest _) (.cons (.box 0 I (.rest _)) (.rest _))) (.rest _))) I (L.slices_IndexFunc_api_Path_api_Path_ok l_0 (.fn 124 [] [.eptr (Path.row p_1)]) I (fun x => L.paths_Find_1 x p_1) (fun x r h => L.paths_Find_1_ok x p_1 r h) _ hx3) (dst_some I) (by rintro _ _ ⟨rfl, _⟩; rfl) ?_))))
 rintro _ ⟨_, rfl, -⟩
 refine AO.q 1 I (AO.nil (AW.ghost (Ghost.pick [] (K := []) I (by decide)) ?_))
 obtain rfl := Option.some.inj h
 exact AW.ret ⟨.inr I, [_], [], ⟨I, trivial⟩, sl_n, I, I⟩

theorem L.paths_Common_ok (a_0 : List Path) (b_1 : List Path) (r : List Path) (h : L.paths_Common a_0 b_1 = some r) : ACalls Try.env 38 [.list 4 (a_0.map Path.row), .list 4 (b_1.map Path.row)] [] (fun x new => ∃ (u0 : Value), x = .v u0 ∧ new = [.us u0 58 4 (r.map Path.row)]) := by
 refine ACalls.of_body Try.func38 rfl rfl rfl (fun C hC => ?_)
 unfold L.paths_Common at h
 refine AW.z I (AW.z I (AW.cutX (fun s ob => ∃ (j73 : List Path) (v74 : Value), L.paths_Common.J1 j73 = some r ∧ s = [(5, .v v74)] ∧ ob = [.us v74 58 4 (j73.map Path.row)]) [] trivial ?_ ?_))
 refine AW.zr [.l 1 (a_0.length : Int)] I ⟨len_m, trivial⟩ (AW.block (AW.listMax 9 I (fun hm78 => ?_)))
 replace hm78 : a_0.length ≤ 9223372036854775806 := by rw [List.length_map] at hm78; omega
 refine AW.ghost (Ghost.nilU 58 4) ?_
 obtain ⟨o143, hL144, hR145⟩ := ob_some h
 clear h
 refine AW.forY hL144 [(1, _), (9, _), (10, _)] ⟨I, I, I, trivial⟩ (fun (k76 : Nat) (st122 : List Path) s ob => ∃ (v123 : Value), s = [(11, .v (.int .i64 (k76 : Int))), (5, .v v123)] ∧ ob = [.us v123 58 4 (st122.map Path.row)]) ⟨(.slice none 0 0), I, I⟩ ⟨I, I, trivial⟩ ⟨[0], I, by decide⟩ ?_ ?_
 rintro k76 x79 st122 r147 s ob hx80 hk77 ⟨v123, rfl, rfl⟩ h
 unfold L.paths_Common.B2 at h
 have hk77t : decide ((k76 : Int) < (a_0.length : Int)) = true := by simp; omega
 refine AW.z I (AW.seqG (fun y149 hy149 => (AW.condK (v := true) I hk77t (AW.skip ?_))))
 subst hy149
 refine AW.cutX (fun s ob => ∃ (j165 : List Path) (v166 : Value), L.paths_Common.J3 j165 = some r147 ∧ s = [(5, .v v166)] ∧ ob = [.us v166 58 4 (j165.map Path.row)]) [(1, _), (9, _), (10, _), (11, _)] ⟨I, I, I, I, trivial⟩ ?_ ?_
 refine AW.block (AW.seqG (fun y167 hy167 => (AW.region (AO.r 2 [.x 0 k76 (Path.row x79)] I ⟨⟨I, map_get hx80⟩, trivial⟩ (AO.act [] I (AX.alloc (cs := [.v (.int .i64 0), .v (.int .i64 0), .v (.slice none 0 0), .v (.int .i64 0)]) (m := 4) I I I I I (dst_some I) (fun b168 => (AO.act [1] I (AX.store 1 0 0 (es' := [Path.row x79]) I I I I I I I I (le_ble I) I I (AO.nil ?_))))))))))
 subst hy167
 refine AW.seqG (fun y169 hy169 => ?_)
 obtain ⟨r170, hx171, h⟩ := ob_some h
 refine AW.region (AO.r 2 [.o 1 1] I ⟨I, trivial⟩ (AO.c (L.paths_Find_ok b_1 x79 _ hx171) (AO.q 1 I (AO.nil ?_))))
 subst hy169
 refine AW.z I (AW.ch h I ?_ ?_)
 intro hc173 h
 obtain ⟨p174, hp175, h⟩ := ob_some h
 obtain ⟨hp175i, hp175x⟩ := ix_some hp175
 obtain ⟨r176, hx177, h⟩ := ob_some h
 obtain ⟨l179, hx180, h⟩ := ob_some h
 refine AW.rd (pd 14 0 [10, 11, 12]) [1] [_] I (AP.r 10 [.o 1 0, .o 3 0, .x 6 p174.1 (Path.row p174.2)] I ⟨⟨hp175i, map_get hp175x⟩, I, I, trivial⟩ (AP.act [] I I I (AX.call0 I I I (L.paths_with_ok x79 (min x79.Rate p174.2.Rate) _ hx177) (dst_some I) ?_)))
 rintro _ _ ⟨rfl, rfl⟩
 refine AP.act [] I I I (AX.lt 4 (([r176] : List Path).map Path.row) (AP.act [0] I I I (AX.ap 0 I hx180 (fun v181 => (AP.eraS 5 (AP.q 1 I (AP.ofAO (AO.nil ?_))))))))
 exact lg ⟨l179, v181, h, I, I⟩ [0]
 intro hc173 h
 refine AW.skip ?_
 exact lg ⟨st122, v123, h, I, I⟩ [0]
 rintro s ob ⟨j165, v166, h, rfl, rfl⟩
 unfold L.paths_Common.J3 at h
 refine AW.region (AO.r 2 [.k 0 (k76 + 1 : Nat)] I ⟨cast_wr hk77 hm78, trivial⟩ ?_)
 obtain rfl := Option.some.inj h
 refine AO.nil ?_
 exact lg ⟨v166, I, I⟩ [0]
 rintro st122 s ob ⟨v123, rfl, rfl⟩ he
 subst he
 have h := hR145
 have hk77f : decide (((a_0.length : Nat) : Int) < (a_0.length : Int)) = false := by simp
 refine AW.z I (AW.seqG (fun y183 hy183 => (AW.condK (v := false) I hk77f (AW.exit ?_))))
 exact lg ⟨st122, v123, h, I, I⟩ [0]
 rintro s ob ⟨j73, v74, h, rfl, rfl⟩
 unfold L.paths_Common.J1 at h
 refine AW.z I ?_
 obtain rfl := Option.some.inj h
 exact AW.ret ⟨.inr I, [_], [.us v74 58 4 (j73.map Path.row)], ⟨I, trivial⟩, sl_c I (sl_n), ⟨v74, I, I⟩⟩

theorem L.paths_Less_ok (a_0 : List Path) (b_1 : List Path) (r : (List Path) × Bool) (h : L.paths_Less a_0 b_1 = some r) : ACalls Try.env 39 [.list 4 (a_0.map Path.row), .list 4 (b_1.map Path.row)] [] (fun x new => ∃ (u0 : Value), x = .tup [.v u0, .v (.bool r.2)] ∧ new = [.us u0 58 4 (r.1.map Path.row)]) := by
 refine ACalls.of_body Try.func39 rfl rfl rfl (fun C hC => ?_)
 unfold L.paths_Less at h
 refine AW.z I (AW.cutX (fun s ob => ∃ (j36 : Unit), L.paths_Less.J1 a_0 b_1 j36 = some r ∧ s = [] ∧ ob = []) [(0, _), (1, _)] ⟨I, I, trivial⟩ ?_ ?_)
 refine AW.zr [.l 1 (b_1.length : Int)] I ⟨len_m, trivial⟩ (AW.block (AW.listMax 14 I (fun hm244 => ?_)))
 replace hm244 : b_1.length ≤ 9223372036854775806 := by rw [List.length_map] at hm244; omega
 obtain ⟨o273, hL274, hR275⟩ := ob_some h
 clear h
 refine AW.forX hL274 [(0, _), (1, _), (14, _), (15, _)] ⟨I, I, I, I, trivial⟩ (fun (k242 : Nat) (st260 : Unit) s ob => s = [(16, .v (.int .i64 (k242 : Int)))] ∧ ob = []) ⟨I, I⟩ ⟨I, trivial⟩ ⟨[], I, by decide⟩ ?_ ?_
 rintro k242 x245 st260 r277 s ob hx246 hk243 ⟨rfl, rfl⟩ h hb276
 unfold L.paths_Less.B6 at h
 have hk243t : decide ((k242 : Int) < (b_1.length : Int)) = true := by simp; omega
 refine AW.z I (AW.seqG (fun y279 hy279 => (AW.condK (v := true) I hk243t (AW.skip ?_))))
 subst hy279
 refine AW.seq (AW.block (AW.seqG (fun y280 hy280 => (AW.region (AO.r 2 [.x 0 k242 (Path.row x245)] I ⟨⟨I, map_get hx246⟩, trivial⟩ (AO.act [] I (AX.alloc (cs := [.v (.int .i64 0), .v (.int .i64 0), .v (.slice none 0 0), .v (.int .i64 0)]) (m := 4) I I I I I (dst_some I) (fun b281 => (AO.act [0] I (AX.store 0 0 0 (es' := [Path.row x245]) I I I I I I I I (le_ble I) I I (AO.nil ?_)))))))))))
 subst hy280
 refine AW.seqG (fun y282 hy282 => ?_)
 obtain ⟨r283, hx284, h⟩ := ob_some h
 refine AW.region (AO.r 2 [.o 1 0] I ⟨I, trivial⟩ (AO.c (L.paths_Find_ok a_0 x245 _ hx284) (AO.q 1 I (AO.nil ?_))))
 subst hy282
 refine AW.cutX (fun s ob => ∃ (j288 : Bool), L.paths_Less.J7 j288 = some r277 ∧ s = [(34, .v (.bool j288))] ∧ ob = []) [(0, _), (1, _), (14, _), (15, _), (16, _)] ⟨I, I, I, I, I, trivial⟩ ?_ ?_
 rcases Bool.eq_false_or_eq_true (decide (r283 < 0)) with hg290 | hg290
 replace h := ife_t hg290 h
 refine AW.rd (pd 12 0 []) [] [] I (AP.q 3 I (AP.known 25 I hg290 (AP.q 9 I (AP.ofAO (AO.nil ?_)))))
 exact lg ⟨true, h, I, I⟩ []
 replace h := ife_f hg290 h
 obtain ⟨p291, hp292, h⟩ := ob_some h
 obtain ⟨hp292i, hp292x⟩ := ix_some hp292
 refine AW.rd (pd 12 0 []) [0] [_] I (AP.q 3 I (AP.known 25 I hg290 (AP.r 9 [.x 2 p291.1 (Path.row p291.2), .o 6 0] I ⟨I, ⟨hp292i, map_get hp292x⟩, trivial⟩ (AP.ofAO (AO.nil ?_)))))
 exact lg ⟨decide (p291.2.Rate < x245.Rate), h, I, I⟩ []
 rintro s ob ⟨j288, h, rfl, rfl⟩
 unfold L.paths_Less.J7 at h
 refine AW.ch h I ?_ ?_
 intro hc289 h
 refine AW.z I ?_
 obtain rfl := hb276 _ (Option.some.inj h).symm
 replace h := hR275
 replace h := se_r h
 refine AW.ghost (Ghost.nilU 58 4) ?_
 obtain rfl := Option.some.inj h
 exact AW.ret ⟨.inr I, [_, _], [.us (.slice none 0 0) 58 4 ([].map Path.row)], ⟨I, I, trivial⟩, sl_c I (sl_n), ⟨(.slice none 0 0), I, I⟩⟩
 intro hc289 h
 refine AW.skip (AW.region (AO.r 2 [.k 0 (k242 + 1 : Nat)] I ⟨cast_wr hk243 hm244, trivial⟩ ?_))
 obtain rfl := Option.some.inj h
 refine AO.nil ?_
 exact ⟨_, _, _, I, ⟨I, I⟩, ⟨I, I, I, I, I, trivial⟩, [], I, by decide⟩
 rintro st260 s ob ⟨rfl, rfl⟩ he
 subst he
 have h := se_l hR275
 have hk243f : decide (((b_1.length : Nat) : Int) < (b_1.length : Int)) = false := by simp
 refine AW.z I (AW.seqG (fun y294 hy294 => (AW.condK (v := false) I hk243f (AW.exit ?_))))
 exact lg ⟨(), h, I, I⟩ []
 rintro s ob ⟨j36, h, rfl, rfl⟩
 unfold L.paths_Less.J1 at h
 refine AW.z I (AW.cutX (fun s ob => ∃ (j114 : List Path) (v115 : Value), L.paths_Less.J2 j114 = some r ∧ s = [(9, .v v115)] ∧ ob = [.us v115 58 4 (j114.map Path.row)]) [] trivial ?_ ?_)
 refine AW.zr [.l 1 (a_0.length : Int)] I ⟨len_m, trivial⟩ (AW.block (AW.listMax 36 I (fun hm119 => ?_)))
 replace hm119 : a_0.length ≤ 9223372036854775806 := by rw [List.length_map] at hm119; omega
 refine AW.ghost (Ghost.nilU 58 4) ?_
 obtain ⟨o190, hL191, hR192⟩ := ob_some h
 clear h
 refine AW.forY hL191 [(1, _), (36, _), (37, _)] ⟨I, I, I, trivial⟩ (fun (k117 : Nat) (st167 : List Path) s ob => ∃ (v168 : Value), s = [(38, .v (.int .i64 (k117 : Int))), (9, .v v168)] ∧ ob = [.us v168 58 4 (st167.map Path.row)]) ⟨(.slice none 0 0), I, I⟩ ⟨I, I, trivial⟩ ⟨[0], I, by decide⟩ ?_ ?_
 rintro k117 x120 st167 r194 s ob hx121 hk118 ⟨v168, rfl, rfl⟩ h
 unfold L.paths_Less.B3 at h
 have hk118t : decide ((k117 : Int) < (a_0.length : Int)) = true := by simp; omega
 refine AW.z I (AW.seqG (fun y196 hy196 => (AW.condK (v := true) I hk118t (AW.skip ?_))))
 subst hy196
 refine AW.cutX (fun s ob => ∃ (j214 : List Path) (v215 : Value), L.paths_Less.J4 j214 = some r194 ∧ s = [(9, .v v215)] ∧ ob = [.us v215 58 4 (j214.map Path.row)]) [(1, _), (36, _), (37, _), (38, _)] ⟨I, I, I, I, trivial⟩ ?_ ?_
 refine AW.block (AW.seqG (fun y216 hy216 => (AW.region (AO.r 2 [.x 0 k117 (Path.row x120)] I ⟨⟨I, map_get hx121⟩, trivial⟩ (AO.act [] I (AX.alloc (cs := [.v (.int .i64 0), .v (.int .i64 0), .v (.slice none 0 0), .v (.int .i64 0)]) (m := 4) I I I I I (dst_some I) (fun b217 => (AO.act [1] I (AX.store 1 0 0 (es' := [Path.row x120]) I I I I I I I I (le_ble I) I I (AO.nil ?_))))))))))
 subst hy216
 refine AW.zr [.o 1 1] I ⟨I, trivial⟩ (AW.cutX (fun s ob => ∃ (j225 : Int), L.paths_Less.J5 x120 st167 j225 = some r194 ∧ s = [(12, .v (.int .i64 j225))] ∧ ob = [.us v168 58 4 (st167.map Path.row), .arr b217 58 4 1 [Path.row x120]]) [(1, _), (9, _), (11, _), (36, _), (37, _), (38, _)] ⟨I, I, I, I, I, I, trivial⟩ ?_ ?_)
 refine AW.seqG (fun y233 hy233 => ?_)
 obtain ⟨r234, hx235, h⟩ := ob_some h
 refine AW.region (AO.r 2 [.o 1 1] I ⟨I, trivial⟩ (AO.c (L.paths_Find_ok b_1 x120 _ hx235) (AO.q 1 I (AO.nil ?_))))
 subst hy233
 refine AW.z I (AW.ch h I ?_ ?_)
 intro hc236 h
 obtain ⟨p237, hp238, h⟩ := ob_some h
 obtain ⟨hp238i, hp238x⟩ := ix_some hp238
 refine AW.tr [.x 3 p237.1 (Path.row p237.2)] I ⟨⟨hp238i, map_get hp238x⟩, trivial⟩ ?_
 exact lg ⟨wr (x120.Rate - p237.2.Rate), h, I, I⟩ [0, 1]
 intro hc236 h
 refine AW.skip ?_
 exact lg ⟨x120.Rate, h, I, I⟩ [0, 1]
 rintro s ob ⟨j225, h, rfl, rfl⟩
 unfold L.paths_Less.J5 at h
 refine AW.z I (AW.ch h I ?_ ?_)
 intro hc226 h
 obtain ⟨r227, hx228, h⟩ := ob_some h
 obtain ⟨l230, hx231, h⟩ := ob_some h
 refine AW.region (AO.r 3 [.o 1 1] I ⟨I, trivial⟩ (AO.act [] I (AX.call0 I I I (L.paths_with_ok x120 j225 _ hx228) (dst_some I) ?_)))
 rintro _ _ ⟨rfl, rfl⟩
 refine AO.act [] I (AX.lt 4 (([r227] : List Path).map Path.row) (AO.act [0] I (AX.ap 0 I hx231 (fun v232 => (AO.q 1 I (AO.nil ?_))))))
 exact lg ⟨l230, v232, h, I, I⟩ [0]
 intro hc226 h
 refine AW.skip ?_
 exact lg ⟨st167, v168, h, I, I⟩ [0]
 rintro s ob ⟨j214, v215, h, rfl, rfl⟩
 unfold L.paths_Less.J4 at h
 refine AW.region (AO.r 2 [.k 0 (k117 + 1 : Nat)] I ⟨cast_wr hk118 hm119, trivial⟩ ?_)
 obtain rfl := Option.some.inj h
 refine AO.nil ?_
 exact lg ⟨v215, I, I⟩ [0]
 rintro st167 s ob ⟨v168, rfl, rfl⟩ he
 subst he
 have h := hR192
 have hk118f : decide (((a_0.length : Nat) : Int) < (a_0.length : Int)) = false := by simp
 refine AW.z I (AW.seqG (fun y240 hy240 => (AW.condK (v := false) I hk118f (AW.exit ?_))))
 exact lg ⟨st167, v168, h, I, I⟩ [0]
 rintro s ob ⟨j114, v115, h, rfl, rfl⟩
 unfold L.paths_Less.J2 at h
 refine AW.z I ?_
 obtain rfl := Option.some.inj h
 exact AW.ret ⟨.inr I, [_, _], [.us v115 58 4 (j114.map Path.row)], ⟨I, I, trivial⟩, sl_c I (sl_n), ⟨v115, I, I⟩⟩

theorem L.ref25_Alike_ok (a_0 : Path) (b_1 : Path) (r : Bool) (h : L.ref25_Alike a_0 b_1 = some r) : ACalls Try.env 37 [.agg (Path.row a_0), .agg (Path.row b_1)] [] (fun x new => x = .v (.bool r) ∧ new = []) := by
 refine ACalls.of_body Try.func37 rfl rfl rfl (fun C hC => ?_)
 unfold L.ref25_Alike at h
 refine AW.seqG (fun y1 hy1 => (AW.region (AO.act [] I (AX.box (cs := Path.row a_0) (m := 4) I I I (dst_some I) (fun b2 => (AO.act [] I (AX.box (cs := Path.row b_1) (m := 4) I I I (dst_some I) (fun b3 => (AO.q 1 I (AO.nil ?_))))))))))
 subst hy1
 refine AW.seqG (fun y4 hy4 => (AW.cutX (fun s ob => s = [(26, .v (.bool ((a_0.In != b_1.In) || ((a_0.Out != b_1.Out) || ((a_0.Hops.length : Int) != (b_1.Hops.length : Int))))))] ∧ ob = [.arr b2 58 4 1 [Path.row a_0], .arr b3 58 4 1 [Path.row b_1]]) [(2, _), (3, _)] ⟨I, I, trivial⟩ ?_ ?_))
 rcases Bool.eq_false_or_eq_true ((a_0.In != b_1.In)) with hg8 | hg8
 refine AW.region (AO.r 6 [.o 1 0, .o 3 1] I ⟨I, I, trivial⟩ (AO.known 11 I hg8 (AO.q 15 I (AO.nil ?_))))
 exact lf ⟨I, I⟩ ⟨(get_b (by simp only [hg8, bz])), I, I, trivial⟩ [0, 1] I
 rcases Bool.eq_false_or_eq_true ((a_0.Out != b_1.Out)) with hg9 | hg9
 refine AW.region (AO.r 6 [.o 1 0, .o 3 1] I ⟨I, I, trivial⟩ (AO.known 11 I hg8 (AO.r 7 [.o 1 0, .o 3 1] I ⟨I, I, trivial⟩ (AO.known 18 I hg9 (AO.q 8 I (AO.nil ?_))))))
 exact lf ⟨I, I⟩ ⟨(get_b (by simp only [hg8, hg9, bz])), I, I, trivial⟩ [0, 1] I
 refine AW.region (AO.r 6 [.o 1 0, .o 3 1] I ⟨I, I, trivial⟩ (AO.known 11 I hg8 (AO.r 7 [.o 1 0, .o 3 1] I ⟨I, I, trivial⟩ (AO.known 18 I hg9 (AO.r 8 [.o 1 0, .l 2 (a_0.Hops.length : Int), .o 4 1, .l 5 (b_1.Hops.length : Int)] I ⟨len_m, I, len_m, I, trivial⟩ (AO.nil ?_))))))
 exact lf ⟨I, I⟩ ⟨(get_b (by simp only [hg8, hg9, bz])), I, I, trivial⟩ [0, 1] I
 rintro s ob ⟨rfl, rfl⟩
 refine AW.ch h I ?_ ?_
 intro hc10 h
 refine AW.z I (AW.ghost (Ghost.pick [] (K := []) I (by decide)) ?_)
 obtain rfl := Option.some.inj h
 exact AW.ret ⟨.inr I, [_], [], ⟨I, trivial⟩, sl_n, I, I⟩
 intro hc10 h
 refine AW.skip ?_
 subst hy4
 refine AW.cutX (fun s ob => ∃ (j37 : Unit), L.ref25_Alike.J1 j37 = some r ∧ s = [] ∧ ob = []) [] trivial ?_ ?_
 refine AW.z I (AW.block ?_)
 obtain ⟨o64, hL65, hR66⟩ := ob_some h
 clear h
 refine AW.loopX hL65 [(2, _), (3, _)] ⟨I, I, trivial⟩ (fun (st56 : Int) s ob => s = [(5, .v (.int .i64 st56))] ∧ ob = [.arr b2 58 4 1 [Path.row a_0], .arr b3 58 4 1 [Path.row b_1]]) ⟨I, I⟩ ⟨I, trivial⟩ ⟨[0, 1], I, by decide⟩ ?_
 rintro st56 r68 s ob ⟨rfl, rfl⟩ h hb67
 unfold L.ref25_Alike.B2 at h
 refine AW.seqG (fun y69 hy69 => (AW.zr [.o 2 0, .l 3 (a_0.Hops.length : Int)] I ⟨len_m, I, trivial⟩ (AW.ch h I ?_ ?_)))
 intro hc70 h
 refine AW.skip ?_
 subst hy69
 refine AW.seq (AW.block (AW.seq ?_))
 obtain ⟨p71, hp72, h⟩ := ob_some h
 obtain ⟨hp72i, hp72x⟩ := ix_some hp72
 obtain ⟨p73, hp74, h⟩ := ob_some h
 obtain ⟨hp74i, hp74x⟩ := ix_some hp74
 refine AW.rd (pd 11 0 []) [0, 1] [_, _] I (AP.r 10 [.o 1 0, .x 3 p71.1 (Hop.row p71.2), .o 6 1, .x 8 p73.1 (Hop.row p73.2)] I ⟨⟨hp74i, map_get hp74x⟩, I, ⟨hp72i, map_get hp72x⟩, I, trivial⟩ (AP.op I (Yp.eqStruct (r := ((p71.2.Segment == p73.2.Segment) && ((p71.2.Back == p73.2.Back) && true))) I I Try.eq60 I I I I) I (AP.ofAO (AO.nil (AW.ch h I ?_ ?_)))))
 intro hc75 h
 refine AW.z I ?_
 obtain rfl := hb67 _ (Option.some.inj h).symm
 replace h := hR66
 replace h := se_l h
 refine AW.ghost (Ghost.pick [] (K := []) I (by decide)) ?_
 obtain rfl := Option.some.inj h
 exact AW.ret ⟨.inr I, [_], [], ⟨I, trivial⟩, sl_n, I, I⟩
 intro hc75 h
 refine AW.skip (AW.region (AO.q 3 I ?_))
 obtain rfl := Option.some.inj h
 refine AO.nil ?_
 exact ⟨_, _, _, I, ⟨I, I⟩, ⟨I, I, I, trivial⟩, [0, 1], I, by decide⟩
 intro hc70 h
 obtain rfl := hb67 _ (Option.some.inj h).symm
 replace h := hR66
 replace h := se_r h
 refine AW.exit ?_
 exact lg ⟨(), h, I, I⟩ []
 rintro s ob ⟨j37, h, rfl, rfl⟩
 unfold L.ref25_Alike.J1 at h
 refine AW.z I ?_
 obtain rfl := Option.some.inj h
 exact AW.ret ⟨.inr I, [_], [], ⟨I, trivial⟩, sl_n, I, I⟩

theorem L.ref25_Same_ok (a_0 : List Path) (b_1 : List Path) (r : Bool) (h : L.ref25_Same a_0 b_1 = some r) : ACalls Try.env 40 [.list 4 (a_0.map Path.row), .list 4 (b_1.map Path.row)] [] (fun x new => x = .v (.bool r) ∧ new = []) := by
 refine ACalls.of_body Try.func40 rfl rfl rfl (fun C hC => ?_)
 unfold L.ref25_Same at h
 refine AW.z I (AW.seqG (fun y2 hy2 => (AW.zr [.l 1 (a_0.length : Int), .l 3 (b_1.length : Int)] I ⟨len_m, len_m, trivial⟩ (AW.ch h I ?_ ?_))))
 intro hc3 h
 refine AW.z I ?_
 obtain rfl := Option.some.inj h
 exact AW.ret ⟨.inr I, [_], [], ⟨I, trivial⟩, sl_n, I, I⟩
 intro hc3 h
 refine AW.skip ?_
 subst hy2
 refine AW.cutX (fun s ob => ∃ (j42 : Unit), L.ref25_Same.J1 j42 = some r ∧ s = [] ∧ ob = []) [] trivial ?_ ?_
 refine AW.z I (AW.block ?_)
 obtain ⟨o81, hL82, hR83⟩ := ob_some h
 clear h
 refine AW.loopX hL82 [(0, _), (1, _)] ⟨I, I, trivial⟩ (fun (st69 : Int) s ob => s = [(5, .v (.int .i64 st69))] ∧ ob = []) ⟨I, I⟩ ⟨I, trivial⟩ ⟨[], I, by decide⟩ ?_
 rintro st69 r85 s ob ⟨rfl, rfl⟩ h hb84
 unfold L.ref25_Same.B2 at h
 refine AW.seqG (fun y86 hy86 => (AW.zr [.l 2 (a_0.length : Int)] I ⟨len_m, trivial⟩ (AW.ch h I ?_ ?_)))
 intro hc87 h
 refine AW.skip ?_
 subst hy86
 refine AW.seq (AW.block (AW.cutX (fun s ob => ∃ (j95 : Bool), L.ref25_Same.J3 st69 j95 = some r85 ∧ s = [(39, .v (.bool j95))] ∧ ob = []) [(0, _), (1, _), (5, _)] ⟨I, I, I, trivial⟩ ?_ ?_))
 obtain ⟨p97, hp98, h⟩ := ob_some h
 obtain ⟨hp98i, hp98x⟩ := ix_some hp98
 obtain ⟨p99, hp100, h⟩ := ob_some h
 obtain ⟨hp100i, hp100x⟩ := ix_some hp100
 obtain ⟨r101, hx102, h⟩ := ob_some h
 rcases Bool.eq_false_or_eq_true ((!r101)) with hg103 | hg103
 replace h := ife_t hg103 h
 refine AW.rd (pd 23 0 [8]) [] [] I (AP.r 8 [.x 2 p97.1 (Path.row p97.2), .x 6 p99.1 (Path.row p99.2)] I ⟨⟨hp100i, map_get hp100x⟩, ⟨hp98i, map_get hp98x⟩, trivial⟩ (AP.c I (L.ref25_Alike_ok p97.2 p99.2 _ hx102) (AP.q 2 I (AP.known 27 I hg103 (AP.q 12 I (AP.ofAO (AO.nil ?_)))))))
 exact lg ⟨true, h, I, I⟩ []
 replace h := ife_f hg103 h
 refine AW.rd (pd 23 0 [8]) [] [] I (AP.r 8 [.x 2 p97.1 (Path.row p97.2), .x 6 p99.1 (Path.row p99.2)] I ⟨⟨hp100i, map_get hp100x⟩, ⟨hp98i, map_get hp98x⟩, trivial⟩ (AP.c I (L.ref25_Alike_ok p97.2 p99.2 _ hx102) (AP.q 2 I (AP.known 27 I hg103 (AP.r 12 [.x 2 p97.1 (Path.row p97.2), .x 7 p99.1 (Path.row p99.2)] I ⟨⟨hp100i, map_get hp100x⟩, ⟨hp98i, map_get hp98x⟩, trivial⟩ (AP.ofAO (AO.nil ?_)))))))
 exact lg ⟨(p97.2.Rate != p99.2.Rate), h, I, I⟩ []
 rintro s ob ⟨j95, h, rfl, rfl⟩
 unfold L.ref25_Same.J3 at h
 refine AW.ch h I ?_ ?_
 intro hc96 h
 refine AW.z I ?_
 obtain rfl := hb84 _ (Option.some.inj h).symm
 replace h := hR83
 replace h := se_l h
 obtain rfl := Option.some.inj h
 exact AW.ret ⟨.inr I, [_], [], ⟨I, trivial⟩, sl_n, I, I⟩
 intro hc96 h
 refine AW.skip (AW.region (AO.q 3 I ?_))
 obtain rfl := Option.some.inj h
 refine AO.nil ?_
 exact ⟨_, _, _, I, ⟨I, I⟩, ⟨I, I, I, trivial⟩, [], I, by decide⟩
 intro hc87 h
 obtain rfl := hb84 _ (Option.some.inj h).symm
 replace h := hR83
 replace h := se_r h
 refine AW.exit ?_
 exact lg ⟨(), h, I, I⟩ []
 rintro s ob ⟨j42, h, rfl, rfl⟩
 unfold L.ref25_Same.J1 at h
 refine AW.z I ?_
 obtain rfl := Option.some.inj h
 exact AW.ret ⟨.inr I, [_], [], ⟨I, trivial⟩, sl_n, I, I⟩

end Go.Proofs.Ytndfiddakngjdaa
