/- Walks that show what functions of the program compute; printed by a program of ours. No condition. -/
import Derived.Test.YtndfiddakngjdaaLp5
import Derived.Test.YtndfiddakngjdaaLp3
import Derived.Test.YtndfiddakngjdaaL4c
import Derived.Test.YtndfiddakngjdaaL4b
namespace Go.Proofs.Ytndfiddakngjdaa
open Go.Aw
set_option linter.unusedVariables false
set_option linter.unusedSimpArgs false

set_option maxRecDepth 100000 in
set_option maxHeartbeats 4000000 in
theorem L.second_Few_ok (l_0 : List Int) (r : Bool) (h : L.second_Few l_0 = r) : ACalls Try.env 23 [.list 1 (l_0.map rI)] [] (fun x new => x = .v (.bool r) ∧ new = []) := by
 refine ACalls.of_body Try.func23 rfl rfl rfl (fun C hC => ?_)
 unfold L.second_Few at h
 refine AW.seq (AW.region (AO.a I I (AO.nil (AW.seq (AW.region (AO.m I I (AO.p (Yp.lenM I I I) I (AO.p (Yp.cmpI (c := decide ((l_0.length : Int) ≤ 400)) I I I) I (AO.a I I (AO.nil ?_))))))))))
 obtain rfl := h
 refine AW.ret ?_
 exact ⟨.inr I, [_], [], ⟨I, trivial⟩, sl_n, ⟨I, I⟩⟩

set_option maxRecDepth 100000 in
set_option maxHeartbeats 4000000 in
theorem L.law25_PathsAdded_ok (l_0 : List Int) (r : Bool) (h : L.law25_PathsAdded l_0 = some r) : ACalls Try.env 8 [.list 1 (l_0.map rI)] [] (fun x new => x = .v (.bool r) ∧ new = []) := by
 refine ACalls.of_body Try.func8 rfl rfl rfl (fun C hC => ?_)
 unfold L.law25_PathsAdded at h
 refine AW.seqG (fun y1 hy1 => (AW.region (AO.a I I (AO.nil ?_))))
 subst hy1
 refine AW.seqG (fun y2 hy2 => (AW.seq (AW.region (AO.m I I (AO.act [] I (AX.callL I (.refl _) I I (.rest _) I (L.second_Few_ok l_0 _ I) (dst_some I) (by rintro _ _ ⟨rfl, _⟩; rfl) ?_))))))
 rintro _ ⟨_, rfl, -⟩
 refine AO.p (Yp.not I) I (AO.nil (AW.cond I I ?_ ?_))
 intro hc3
 replace h := ife_t hc3 h
 refine AW.seq ?_
 obtain ⟨r4, hx5, h⟩ := ob_some h
 refine AW.region (AO.act [] I (AX.callL I (.refl _) I I (.rest _) I (L.law25_awake_ok  _ hx5) (dst_some I) (by rintro _ _ ⟨rfl, _⟩; rfl) ?_))
 rintro _ ⟨_, rfl, -⟩
 refine AO.a I I (AO.nil ?_)
 obtain rfl := Option.some.inj h
 refine AW.ret ?_
 exact ⟨.inr I, [_], [], ⟨I, trivial⟩, sl_n, ⟨I, I⟩⟩
 intro hc3
 replace h := ife_f hc3 h
 refine AW.skip ?_
 subst hy2
 refine AW.seqG (fun y6 hy6 => ?_)
 obtain ⟨r7, hx8, h⟩ := ob_some h
 refine AW.region (AO.m I I (AO.act [] I (AX.call0 I I I (L.keep_New_ok l_0 _ hx8) (dst_some I) ?_)))
 rintro _ _ ⟨b9, rfl, rfl⟩
 refine AO.a I I (AO.nil ?_)
 subst hy6
 refine AW.seqG (fun y10 hy10 => ?_)
 obtain ⟨r11, hx12, h⟩ := ob_some h
 refine AW.region (AO.m I I (AO.act [0] I (AX.callG [0] I I I I (by decide) (L.keep_Src_Network_ok b9 r7 _ hx12) (dst_some I) ?_)))
 rintro _ _ _ - ⟨rfl, rfl, rfl⟩
 refine AO.act [] I (AX.alloc (cs := [.v (.slice none 0 0), .v (.slice none 0 0), .v (.slice none 0 0), .v (.slice none 0 0), .v (.int .i64 0), .v (.int .i64 0)]) (m := 6) I I I I I (dst_some I) (fun b13 => (AO.act [1] I (AX.store 1 0 0 (es' := [Network.row r11.1]) I I I I I I I I (le_ble I) I I (AO.nil ?_)))))
 subst hy10
 refine AW.seqG (fun y14 hy14 => ?_)
 obtain ⟨r15, hx16, h⟩ := ob_some h
 refine AW.region (AO.m I I (AO.d (Yd.loadO 1 0 0 I I I I I (y := .agg (Network.row r11.1)) I) I (AO.act [0] I (AX.callG [0] I I I I (by decide) (L.keep_Src_Plan_ok b9 r11.2 r11.1 _ hx16) (dst_some I) ?_))))
 rintro _ _ _ - ⟨rfl, rfl, rfl⟩
 refine AO.act [] I (AX.alloc (cs := [.v (.slice none 0 0), .v (.slice none 0 0), .v (.slice none 0 0)]) (m := 3) I I I I I (dst_some I) (fun b17 => (AO.act [2] I (AX.store 2 0 0 (es' := [Plan.row r15.1]) I I I I I I I I (le_ble I) I I (AO.nil ?_)))))
 subst hy14
 refine AW.seqG (fun y18 hy18 => ?_)
 obtain ⟨r19, hx20, h⟩ := ob_some h
 refine AW.region (AO.d (Yd.loadO 1 0 0 I I I I I (y := .agg (Network.row r11.1)) I) I (AO.d (Yd.loadO 2 0 0 I I I I I (y := .agg (Plan.row r15.1)) I) I (AO.act [] I (AX.call0 I I I (L.paths_Divide_ok r11.1 r15.1 _ hx20) (dst_some I) ?_))))
 rintro _ _ ⟨v21, rfl, rfl⟩
 refine AO.m I I (AO.p (Yp.extract I I) I (AO.p (Yp.extract I I) I (AO.a I I (AO.a I I (AO.nil ?_)))))
 subst hy18
 refine AW.seqG (fun y22 hy22 => (AW.region (AO.a I I (AO.a I I (AO.nil ?_)))))
 subst hy22
 refine AW.cutX (fun s ob => ∃ (j137 : (List Path) × (List Path)) (v138 : Value) (v139 : Value), L.law25_PathsAdded.J1 r11 r15 r19 j137 = some r ∧ s = [(8, .v v138), (9, .v v139)] ∧ ob = [.arr b13 30 6 1 [Network.row r11.1], .arr b17 34 3 1 [Plan.row r15.1], .us v138 58 4 (j137.1.map Path.row), .us v139 58 4 (j137.2.map Path.row)]) [(4, _), (5, _), (7, _)] ⟨I, I, I, trivial⟩ ?_ ?_
 refine AW.seqG (fun y327 hy327 => (AW.region (AO.a I I (AO.nil ?_))))
 subst hy327
 refine AW.block (AW.ghost (Ghost.nilU 58 4) (AW.ghost (Ghost.nilU 58 4) ?_))
 obtain ⟨o441, hL442, hR443⟩ := ob_some h
 clear h
 refine AW.loopX hL442 [(3, _), (4, _), (5, _), (6, _), (7, _)] ⟨I, I, I, I, I, trivial⟩ (fun (st403 : (List Int) × Int × (List Path) × (List Path) × Int) s ob => ∃ (v404 : Value) (v405 : Value), s = [(8, .v v404), (9, .v v405), (10, .v (.int .i64 st403.2.2.2.2))] ∧ ob = [.arr b9 90 2 1 [[.list 1 (st403.1.map rI), .v (.int .i64 st403.2.1)]], .arr b13 30 6 1 [Network.row r11.1], .arr b17 34 3 1 [Plan.row r15.1], .us v21 58 4 (r19.1.map Path.row), .us v404 58 4 (st403.2.2.1.map Path.row), .us v405 58 4 (st403.2.2.2.1.map Path.row)]) ⟨(.slice none 0 0), (.slice none 0 0), I, I⟩ ⟨I, I, I, trivial⟩ ⟨[0, 1, 2, 3, 4, 5], I, by decide⟩ ?_
 rintro st403 r445 s ob ⟨v404, v405, rfl, rfl⟩ h hb444
 unfold L.law25_PathsAdded.B6 at h
 refine AW.seqG (fun y446 hy446 => (AW.seq (AW.region (AO.m I I (AO.m I I (AO.d (Yd.lenUM 3 I I I I) I (AO.p (Yp.cmpI (c := decide (st403.2.2.2.2 < (r19.1.length : Int))) I I I) I (AO.nil (AW.cond I I ?_ ?_)))))))))
 intro hc447
 replace h := ife_t hc447 h
 refine AW.skip ?_
 subst hy446
 refine AW.cutX (fun s ob => ∃ (j478 : (List Int) × Int × (List Path) × (List Path)) (v479 : Value) (v480 : Value), L.law25_PathsAdded.J7 st403 j478 = some r445 ∧ s = [(8, .v v479), (9, .v v480)] ∧ ob = [.arr b9 90 2 1 [[.list 1 (j478.1.map rI), .v (.int .i64 j478.2.1)]], .arr b13 30 6 1 [Network.row r11.1], .arr b17 34 3 1 [Plan.row r15.1], .us v21 58 4 (r19.1.map Path.row), .us v479 58 4 (j478.2.2.1.map Path.row), .us v480 58 4 (j478.2.2.2.map Path.row)]) [(3, _), (4, _), (5, _), (6, _), (7, _), (10, _)] ⟨I, I, I, I, I, I, trivial⟩ ?_ ?_
 refine AW.block (AW.seqG (fun y481 hy481 => ?_))
 obtain ⟨p482, hp483, h⟩ := ob_some h
 obtain ⟨hp483i, hp483x⟩ := ix_some hp483
 obtain ⟨r484, hx485, h⟩ := ob_some h
 refine AW.region (AO.m I I (AO.m I I (AO.m I I (AO.d (Yd.indexU 3 (m := p482.1) I I I I I I I hp483i (map_get hp483x)) I (AO.p (Yp.fieldPtr I I I I I I) I (AO.d (Yd.loadU 3 p482.1 3 I I I (map_get hp483x) I (y := .v (.int .i64 p482.2.Rate)) I) I (AO.p (Yp.binI (c := wr (p482.2.Rate + 1)) I I I) I (AO.act [0] I (AX.callG [0] I I I I (by decide) (L.keep_Src_N_ok b9 (⟨st403.1, st403.2.1⟩ : batchlinekeep_Src) (wr (p482.2.Rate + 1)) _ hx485) (dst_some I) ?_)))))))))
 rintro _ _ _ - ⟨rfl, rfl, rfl⟩
 refine AO.a I I (AO.nil ?_)
 subst hy481
 refine AW.cutX (fun s ob => ∃ (j494 : Int × Int × (List Hop) × Int × Int × Int × (List Hop) × Int) (b495 : Nat) (b496 : Nat), L.law25_PathsAdded.J8 st403 p482 r484 j494 = some r445 ∧ s = [(12, .v (.pointer (some ⟨b495, 0, none⟩))), (13, .v (.pointer (some ⟨b496, 0, none⟩)))] ∧ ob = [.arr b9 90 2 1 [batchlinekeep_Src.row r484.2], .arr b13 30 6 1 [Network.row r11.1], .arr b17 34 3 1 [Plan.row r15.1], .us v21 58 4 (r19.1.map Path.row), .us v404 58 4 (st403.2.2.1.map Path.row), .us v405 58 4 (st403.2.2.2.1.map Path.row), .arr b495 58 4 1 [[.v (.int .i64 j494.1), .v (.int .i64 j494.2.1), .list 2 (j494.2.2.1.map Hop.row), .v (.int .i64 j494.2.2.2.1)]], .arr b496 58 4 1 [[.v (.int .i64 j494.2.2.2.2.1), .v (.int .i64 j494.2.2.2.2.2.1), .list 2 (j494.2.2.2.2.2.2.1.map Hop.row), .v (.int .i64 j494.2.2.2.2.2.2.2)]]]) [(3, _), (4, _), (5, _), (6, _), (7, _), (8, _), (9, _), (10, _), (11, _)] ⟨I, I, I, I, I, I, I, I, I, trivial⟩ ?_ ?_
 obtain ⟨r516, hx517, h⟩ := ob_some h
 obtain ⟨r518, hx519, h⟩ := ob_some h
 refine AW.form 3 p482.1 I hp483x (fun hf522 => (AW.form 3 p482.1 I hp483x (fun hf523 => (AW.regionD (.still 0 (.still 1 (.still 2 (.still 3 (.still 5 (.still 6 (.still 7 (.still 8 (.three 4 10 11 (.three 9 10 11 (.two 10 11 (.act 11 (.act 12 (.act 13 .nil))) (.act 10 (.act 12 (.act 13 .nil)))) (.two 9 11 (.act 11 (.act 12 (.act 13 .nil))) (.act 9 (.act 12 (.act 13 .nil)))) (.two 9 10 (.act 10 (.act 12 (.act 13 .nil))) (.act 9 (.act 12 (.act 13 .nil))))) (.two 4 11 (.two 9 11 (.act 11 (.act 12 (.act 13 .nil))) (.act 9 (.act 12 (.act 13 .nil)))) (.act 4 (.act 9 (.act 12 (.act 13 .nil))))) (.two 4 10 (.two 9 10 (.act 10 (.act 12 (.act 13 .nil))) (.act 9 (.act 12 (.act 13 .nil)))) (.act 4 (.act 9 (.act 12 (.act 13 .nil)))))))))))))) [3] [_] (by kernel_rfl) I (AP.op I (Yp.move I) I (AP.op I (Yp.move I) I (AP.op I (Yp.indexUf (m := p482.1) I I I I I hf522 I hp483i hp483x) I (AP.o I (Yd.loadU 0 p482.1 0 I I I (map_get hp483x) I (y := .agg (Path.row p482.2)) I) I (AP.op I (Yp.move I) I (AP.op I (Yp.move I) I (AP.op I (Yp.indexUf (m := p482.1) I I I I I hf523 I hp483i hp483x) I (AP.o I (Yd.loadU 0 p482.1 0 I I I (map_get hp483x) I (y := .agg (Path.row p482.2)) I) I (AP.three ?_ ?_ ?_)))))))))))))
 refine AP.act [] I I I (AX.call0 I I I (L.ref25_Copy_ok p482.2 _ hx517) (dst_some I) ?_)
 rintro _ _ ⟨rfl, rfl⟩
 refine AP.three ?_ ?_ ?_
 refine AP.act [] I I I (AX.call0 I I I (L.ref25_Copy_ok p482.2 _ hx519) (dst_some I) ?_)
 rintro _ _ ⟨rfl, rfl⟩
 refine AP.two ?_ ?_
 refine AP.act [] I I I (AX.alloc (cs := [.v (.int .i64 0), .v (.int .i64 0), .v (.slice none 0 0), .v (.int .i64 0)]) (m := 4) I I I I I (dst_some I) (fun b520 => (AP.act [] I I I (AX.alloc (cs := [.v (.int .i64 0), .v (.int .i64 0), .v (.slice none 0 0), .v (.int .i64 0)]) (m := 4) I I I I I (dst_some I) (fun b521 => (AP.act [6] I I I (AX.store 6 0 0 (es' := [Path.row r516]) I I I I I I I I (le_ble I) I I (AP.act [7] I I I (AX.store 7 0 0 (es' := [Path.row r518]) I I I I I I I I (le_ble I) I I (AP.ofAO (AO.nil ?_)))))))))))
 exact ⟨_, _, ⟨(r516.In, r516.Out, r516.Hops, r516.Rate, r518.In, r518.Out, r518.Hops, r518.Rate), b520, b521, h, I, I⟩, ⟨I, I, I, I, I, I, I, I, I, I, I, trivial⟩, [0, 1, 2, 3, 4, 5, 6, 7], I, by decide⟩
 refine AP.act [] I I I (AX.alloc (cs := [.v (.int .i64 0), .v (.int .i64 0), .v (.slice none 0 0), .v (.int .i64 0)]) (m := 4) I I I I I (dst_some I) (fun b521 => (AP.act [] I I I (AX.alloc (cs := [.v (.int .i64 0), .v (.int .i64 0), .v (.slice none 0 0), .v (.int .i64 0)]) (m := 4) I I I I I (dst_some I) (fun b520 => (AP.act [7] I I I (AX.store 7 0 0 (es' := [Path.row r516]) I I I I I I I I (le_ble I) I I (AP.act [6] I I I (AX.store 6 0 0 (es' := [Path.row r518]) I I I I I I I I (le_ble I) I I (AP.ofAO (AO.nil ?_)))))))))))
 exact ⟨_, _, ⟨(r516.In, r516.Out, r516.Hops, r516.Rate, r518.In, r518.Out, r518.Hops, r518.Rate), b520, b521, h, I, I⟩, ⟨I, I, I, I, I, I, I, I, I, I, I, trivial⟩, [0, 1, 2, 3, 4, 5, 7, 6], I, by decide⟩
 refine AP.act [] I I I (AX.alloc (cs := [.v (.int .i64 0), .v (.int .i64 0), .v (.slice none 0 0), .v (.int .i64 0)]) (m := 4) I I I I I (dst_some I) (fun b520 => (AP.two ?_ ?_)))
 refine AP.act [] I I I (AX.call0 I I I (L.ref25_Copy_ok p482.2 _ hx519) (dst_some I) ?_)
 rintro _ _ ⟨rfl, rfl⟩
 refine AP.act [] I I I (AX.alloc (cs := [.v (.int .i64 0), .v (.int .i64 0), .v (.slice none 0 0), .v (.int .i64 0)]) (m := 4) I I I I I (dst_some I) (fun b521 => (AP.act [6] I I I (AX.store 6 0 0 (es' := [Path.row r516]) I I I I I I I I (le_ble I) I I (AP.act [7] I I I (AX.store 7 0 0 (es' := [Path.row r518]) I I I I I I I I (le_ble I) I I (AP.ofAO (AO.nil ?_))))))))
 exact ⟨_, _, ⟨(r516.In, r516.Out, r516.Hops, r516.Rate, r518.In, r518.Out, r518.Hops, r518.Rate), b520, b521, h, I, I⟩, ⟨I, I, I, I, I, I, I, I, I, I, I, trivial⟩, [0, 1, 2, 3, 4, 5, 6, 7], I, by decide⟩
 refine AP.act [] I I I (AX.alloc (cs := [.v (.int .i64 0), .v (.int .i64 0), .v (.slice none 0 0), .v (.int .i64 0)]) (m := 4) I I I I I (dst_some I) (fun b521 => (AP.act [] I I I (AX.call0 I I I (L.ref25_Copy_ok p482.2 _ hx519) (dst_some I) ?_))))
 rintro _ _ ⟨rfl, rfl⟩
 refine AP.act [6] I I I (AX.store 6 0 0 (es' := [Path.row r516]) I I I I I I I I (le_ble I) I I (AP.act [7] I I I (AX.store 7 0 0 (es' := [Path.row r518]) I I I I I I I I (le_ble I) I I (AP.ofAO (AO.nil ?_)))))
 exact ⟨_, _, ⟨(r516.In, r516.Out, r516.Hops, r516.Rate, r518.In, r518.Out, r518.Hops, r518.Rate), b520, b521, h, I, I⟩, ⟨I, I, I, I, I, I, I, I, I, I, I, trivial⟩, [0, 1, 2, 3, 4, 5, 6, 7], I, by decide⟩
 refine AP.act [] I I I (AX.alloc (cs := [.v (.int .i64 0), .v (.int .i64 0), .v (.slice none 0 0), .v (.int .i64 0)]) (m := 4) I I I I I (dst_some I) (fun b521 => (AP.two ?_ ?_)))
 refine AP.act [] I I I (AX.call0 I I I (L.ref25_Copy_ok p482.2 _ hx519) (dst_some I) ?_)
 rintro _ _ ⟨rfl, rfl⟩
 refine AP.act [] I I I (AX.alloc (cs := [.v (.int .i64 0), .v (.int .i64 0), .v (.slice none 0 0), .v (.int .i64 0)]) (m := 4) I I I I I (dst_some I) (fun b520 => (AP.act [7] I I I (AX.store 7 0 0 (es' := [Path.row r516]) I I I I I I I I (le_ble I) I I (AP.act [6] I I I (AX.store 6 0 0 (es' := [Path.row r518]) I I I I I I I I (le_ble I) I I (AP.ofAO (AO.nil ?_))))))))
 exact ⟨_, _, ⟨(r516.In, r516.Out, r516.Hops, r516.Rate, r518.In, r518.Out, r518.Hops, r518.Rate), b520, b521, h, I, I⟩, ⟨I, I, I, I, I, I, I, I, I, I, I, trivial⟩, [0, 1, 2, 3, 4, 5, 7, 6], I, by decide⟩
 refine AP.act [] I I I (AX.alloc (cs := [.v (.int .i64 0), .v (.int .i64 0), .v (.slice none 0 0), .v (.int .i64 0)]) (m := 4) I I I I I (dst_some I) (fun b520 => (AP.act [] I I I (AX.call0 I I I (L.ref25_Copy_ok p482.2 _ hx519) (dst_some I) ?_))))
 rintro _ _ ⟨rfl, rfl⟩
 refine AP.act [7] I I I (AX.store 7 0 0 (es' := [Path.row r516]) I I I I I I I I (le_ble I) I I (AP.act [6] I I I (AX.store 6 0 0 (es' := [Path.row r518]) I I I I I I I I (le_ble I) I I (AP.ofAO (AO.nil ?_)))))
 exact ⟨_, _, ⟨(r516.In, r516.Out, r516.Hops, r516.Rate, r518.In, r518.Out, r518.Hops, r518.Rate), b520, b521, h, I, I⟩, ⟨I, I, I, I, I, I, I, I, I, I, I, trivial⟩, [0, 1, 2, 3, 4, 5, 7, 6], I, by decide⟩
 refine AP.act [] I I I (AX.alloc (cs := [.v (.int .i64 0), .v (.int .i64 0), .v (.slice none 0 0), .v (.int .i64 0)]) (m := 4) I I I I I (dst_some I) (fun b520 => (AP.two ?_ ?_)))
 refine AP.act [] I I I (AX.call0 I I I (L.ref25_Copy_ok p482.2 _ hx517) (dst_some I) ?_)
 rintro _ _ ⟨rfl, rfl⟩
 refine AP.two ?_ ?_
 refine AP.act [] I I I (AX.call0 I I I (L.ref25_Copy_ok p482.2 _ hx519) (dst_some I) ?_)
 rintro _ _ ⟨rfl, rfl⟩
 refine AP.act [] I I I (AX.alloc (cs := [.v (.int .i64 0), .v (.int .i64 0), .v (.slice none 0 0), .v (.int .i64 0)]) (m := 4) I I I I I (dst_some I) (fun b521 => (AP.act [6] I I I (AX.store 6 0 0 (es' := [Path.row r516]) I I I I I I I I (le_ble I) I I (AP.act [7] I I I (AX.store 7 0 0 (es' := [Path.row r518]) I I I I I I I I (le_ble I) I I (AP.ofAO (AO.nil ?_))))))))
 exact ⟨_, _, ⟨(r516.In, r516.Out, r516.Hops, r516.Rate, r518.In, r518.Out, r518.Hops, r518.Rate), b520, b521, h, I, I⟩, ⟨I, I, I, I, I, I, I, I, I, I, I, trivial⟩, [0, 1, 2, 3, 4, 5, 6, 7], I, by decide⟩
 refine AP.act [] I I I (AX.alloc (cs := [.v (.int .i64 0), .v (.int .i64 0), .v (.slice none 0 0), .v (.int .i64 0)]) (m := 4) I I I I I (dst_some I) (fun b521 => (AP.act [] I I I (AX.call0 I I I (L.ref25_Copy_ok p482.2 _ hx519) (dst_some I) ?_))))
 rintro _ _ ⟨rfl, rfl⟩
 refine AP.act [6] I I I (AX.store 6 0 0 (es' := [Path.row r516]) I I I I I I I I (le_ble I) I I (AP.act [7] I I I (AX.store 7 0 0 (es' := [Path.row r518]) I I I I I I I I (le_ble I) I I (AP.ofAO (AO.nil ?_)))))
 exact ⟨_, _, ⟨(r516.In, r516.Out, r516.Hops, r516.Rate, r518.In, r518.Out, r518.Hops, r518.Rate), b520, b521, h, I, I⟩, ⟨I, I, I, I, I, I, I, I, I, I, I, trivial⟩, [0, 1, 2, 3, 4, 5, 6, 7], I, by decide⟩
 refine AP.act [] I I I (AX.alloc (cs := [.v (.int .i64 0), .v (.int .i64 0), .v (.slice none 0 0), .v (.int .i64 0)]) (m := 4) I I I I I (dst_some I) (fun b521 => (AP.act [] I I I (AX.call0 I I I (L.ref25_Copy_ok p482.2 _ hx517) (dst_some I) ?_))))
 rintro _ _ ⟨rfl, rfl⟩
 refine AP.act [] I I I (AX.call0 I I I (L.ref25_Copy_ok p482.2 _ hx519) (dst_some I) ?_)
 rintro _ _ ⟨rfl, rfl⟩
 refine AP.act [6] I I I (AX.store 6 0 0 (es' := [Path.row r516]) I I I I I I I I (le_ble I) I I (AP.act [7] I I I (AX.store 7 0 0 (es' := [Path.row r518]) I I I I I I I I (le_ble I) I I (AP.ofAO (AO.nil ?_)))))
 exact ⟨_, _, ⟨(r516.In, r516.Out, r516.Hops, r516.Rate, r518.In, r518.Out, r518.Hops, r518.Rate), b520, b521, h, I, I⟩, ⟨I, I, I, I, I, I, I, I, I, I, I, trivial⟩, [0, 1, 2, 3, 4, 5, 6, 7], I, by decide⟩
 refine AP.act [] I I I (AX.alloc (cs := [.v (.int .i64 0), .v (.int .i64 0), .v (.slice none 0 0), .v (.int .i64 0)]) (m := 4) I I I I I (dst_some I) (fun b521 => (AP.two ?_ ?_)))
 refine AP.act [] I I I (AX.call0 I I I (L.ref25_Copy_ok p482.2 _ hx517) (dst_some I) ?_)
 rintro _ _ ⟨rfl, rfl⟩
 refine AP.two ?_ ?_
 refine AP.act [] I I I (AX.call0 I I I (L.ref25_Copy_ok p482.2 _ hx519) (dst_some I) ?_)
 rintro _ _ ⟨rfl, rfl⟩
 refine AP.act [] I I I (AX.alloc (cs := [.v (.int .i64 0), .v (.int .i64 0), .v (.slice none 0 0), .v (.int .i64 0)]) (m := 4) I I I I I (dst_some I) (fun b520 => (AP.act [7] I I I (AX.store 7 0 0 (es' := [Path.row r516]) I I I I I I I I (le_ble I) I I (AP.act [6] I I I (AX.store 6 0 0 (es' := [Path.row r518]) I I I I I I I I (le_ble I) I I (AP.ofAO (AO.nil ?_))))))))
 exact ⟨_, _, ⟨(r516.In, r516.Out, r516.Hops, r516.Rate, r518.In, r518.Out, r518.Hops, r518.Rate), b520, b521, h, I, I⟩, ⟨I, I, I, I, I, I, I, I, I, I, I, trivial⟩, [0, 1, 2, 3, 4, 5, 7, 6], I, by decide⟩
 refine AP.act [] I I I (AX.alloc (cs := [.v (.int .i64 0), .v (.int .i64 0), .v (.slice none 0 0), .v (.int .i64 0)]) (m := 4) I I I I I (dst_some I) (fun b520 => (AP.act [] I I I (AX.call0 I I I (L.ref25_Copy_ok p482.2 _ hx519) (dst_some I) ?_))))
 rintro _ _ ⟨rfl, rfl⟩
 refine AP.act [7] I I I (AX.store 7 0 0 (es' := [Path.row r516]) I I I I I I I I (le_ble I) I I (AP.act [6] I I I (AX.store 6 0 0 (es' := [Path.row r518]) I I I I I I I I (le_ble I) I I (AP.ofAO (AO.nil ?_)))))
 exact ⟨_, _, ⟨(r516.In, r516.Out, r516.Hops, r516.Rate, r518.In, r518.Out, r518.Hops, r518.Rate), b520, b521, h, I, I⟩, ⟨I, I, I, I, I, I, I, I, I, I, I, trivial⟩, [0, 1, 2, 3, 4, 5, 7, 6], I, by decide⟩
 refine AP.act [] I I I (AX.alloc (cs := [.v (.int .i64 0), .v (.int .i64 0), .v (.slice none 0 0), .v (.int .i64 0)]) (m := 4) I I I I I (dst_some I) (fun b520 => (AP.act [] I I I (AX.call0 I I I (L.ref25_Copy_ok p482.2 _ hx517) (dst_some I) ?_))))
 rintro _ _ ⟨rfl, rfl⟩
 refine AP.act [] I I I (AX.call0 I I I (L.ref25_Copy_ok p482.2 _ hx519) (dst_some I) ?_)
 rintro _ _ ⟨rfl, rfl⟩
 refine AP.act [7] I I I (AX.store 7 0 0 (es' := [Path.row r516]) I I I I I I I I (le_ble I) I I (AP.act [6] I I I (AX.store 6 0 0 (es' := [Path.row r518]) I I I I I I I I (le_ble I) I I (AP.ofAO (AO.nil ?_)))))
 exact ⟨_, _, ⟨(r516.In, r516.Out, r516.Hops, r516.Rate, r518.In, r518.Out, r518.Hops, r518.Rate), b520, b521, h, I, I⟩, ⟨I, I, I, I, I, I, I, I, I, I, I, trivial⟩, [0, 1, 2, 3, 4, 5, 7, 6], I, by decide⟩
 rintro s ob ⟨j494, b495, b496, h, rfl, rfl⟩
 unfold L.law25_PathsAdded.J8 at h
 refine AW.seqG (fun y497 hy497 => (AW.form 3 p482.1 I hp483x (fun hf498 => (AW.regionD (.still 0 (.still 1 (.still 2 (.still 3 (.still 4 (.still 5 (.still 6 (.still 7 (.still 8 (.act 9 (.still 10 (.act 11 .nil)))))))))))) [3] [_] (by kernel_rfl) I (AP.op I (Yp.move I) I (AP.op I (Yp.move I) I (AP.op I (Yp.move I) I (AP.op I (Yp.indexUf (m := p482.1) I I I I I hf498 I hp483i hp483x) I (AP.op I (Yp.fieldPtr I I I I I I) I (AP.o I (Yd.loadU 0 p482.1 3 I I I (map_get hp483x) I (y := .v (.int .i64 p482.2.Rate)) I) I (AP.op I (Yp.move I) I (AP.op I (Yp.binI (c := wr (p482.2.Rate - r484.1)) I I I) I (AP.op I (Yp.fieldPtr I I I I I I) I (AP.act [6] I I I (AX.store 6 0 3 (es' := [[.v (.int .i64 j494.1), .v (.int .i64 j494.2.1), .list 2 (j494.2.2.1.map Hop.row), .v (.int .i64 r484.1)]]) I I I I I I I I (le_ble I) I I ?_)))))))))))))))
 refine AP.op I (Yp.fieldPtr I I I I I I) I (AP.act [7] I I I (AX.store 7 0 3 (es' := [[.v (.int .i64 j494.2.2.2.2.1), .v (.int .i64 j494.2.2.2.2.2.1), .list 2 (j494.2.2.2.2.2.2.1.map Hop.row), .v (.int .i64 (wr (p482.2.Rate - r484.1)))]]) I I I I I I I I (le_ble I) I I (AP.ofAO (AO.nil ?_))))
 subst hy497
 refine AW.cutX (fun s ob => ∃ (j504 : List Path) (v505 : Value), L.law25_PathsAdded.J9 st403 p482 r484 j494 j504 = some r445 ∧ s = [(8, .v v505)] ∧ ob = [.arr b9 90 2 1 [batchlinekeep_Src.row r484.2], .arr b13 30 6 1 [Network.row r11.1], .arr b17 34 3 1 [Plan.row r15.1], .us v21 58 4 (r19.1.map Path.row), .us v505 58 4 (j504.map Path.row), .us v405 58 4 (st403.2.2.2.1.map Path.row), .arr b496 58 4 1 [[.v (.int .i64 j494.2.2.2.2.1), .v (.int .i64 j494.2.2.2.2.2.1), .list 2 (j494.2.2.2.2.2.2.1.map Hop.row), .v (.int .i64 (wr (p482.2.Rate - r484.1)))]]]) [(3, _), (4, _), (5, _), (6, _), (7, _), (9, _), (10, _), (13, _)] ⟨I, I, I, I, I, I, I, I, trivial⟩ ?_ ?_
 refine AW.seq (AW.region (AO.p (Yp.fieldPtr I I I I I I) I (AO.d (Yd.loadO 6 0 3 I I I I I (y := .v (.int .i64 r484.1)) I) I (AO.p (Yp.cmpI (c := decide (r484.1 > 0)) I I I) I (AO.nil (AW.cond I I ?_ ?_))))))
 intro hc511
 replace h := ife_t hc511 h
 obtain ⟨l513, hx514, h⟩ := ob_some h
 refine AW.region (AO.m I I (AO.d (Yd.loadO 6 0 0 I I I I I (y := .agg [.v (.int .i64 j494.1), .v (.int .i64 j494.2.1), .list 2 (j494.2.2.1.map Hop.row), .v (.int .i64 r484.1)]) I) I (AO.act [] I (AX.litF (sz := 4) (es := ([(⟨j494.1, j494.2.1, j494.2.2.1, r484.1⟩ : Path)] : List Path).map Path.row) I I I I I I I I I I I (dst_some I) (AO.act [4] I (AX.appendU 4 I I I I I I I I I (AppSrc.list I) (app_len (app_some hx514).1) (app_map (app_some hx514).2) (dst_some I) (fun v515 => (AO.a I I (AO.nil ?_)))))))))
 exact ⟨_, _, ⟨l513, v515, h, I, I⟩, ⟨I, I, I, I, I, I, I, I, I, trivial⟩, [0, 1, 2, 3, 4, 5, 7], I, by decide⟩
 intro hc511
 replace h := ife_f hc511 h
 refine AW.skip ?_
 exact ⟨_, _, ⟨st403.2.2.1, v404, h, I, I⟩, ⟨I, I, I, I, I, I, I, I, I, trivial⟩, [0, 1, 2, 3, 4, 5, 7], I, by decide⟩
 rintro s ob ⟨j504, v505, h, rfl, rfl⟩
 unfold L.law25_PathsAdded.J9 at h
 refine AW.seq (AW.region (AO.p (Yp.fieldPtr I I I I I I) I (AO.d (Yd.loadO 6 0 3 I I I I I (y := .v (.int .i64 (wr (p482.2.Rate - r484.1)))) I) I (AO.p (Yp.cmpI (c := decide ((wr (p482.2.Rate - r484.1)) > 0)) I I I) I (AO.nil (AW.cond I I ?_ ?_))))))
 intro hc506
 replace h := ife_t hc506 h
 obtain ⟨l508, hx509, h⟩ := ob_some h
 refine AW.region (AO.m I I (AO.d (Yd.loadO 6 0 0 I I I I I (y := .agg [.v (.int .i64 j494.2.2.2.2.1), .v (.int .i64 j494.2.2.2.2.2.1), .list 2 (j494.2.2.2.2.2.2.1.map Hop.row), .v (.int .i64 (wr (p482.2.Rate - r484.1)))]) I) I (AO.act [] I (AX.litF (sz := 4) (es := ([(⟨j494.2.2.2.2.1, j494.2.2.2.2.2.1, j494.2.2.2.2.2.2.1, wr (p482.2.Rate - r484.1)⟩ : Path)] : List Path).map Path.row) I I I I I I I I I I I (dst_some I) (AO.act [5] I (AX.appendU 5 I I I I I I I I I (AppSrc.list I) (app_len (app_some hx509).1) (app_map (app_some hx509).2) (dst_some I) (fun v510 => (AO.a I I (AO.nil ?_)))))))))
 exact ⟨_, _, ⟨(r484.2.L_, r484.2.At, j504, l508), v505, v510, h, I, I⟩, ⟨I, I, I, I, I, I, I, I, trivial⟩, [0, 1, 2, 3, 4, 5], I, by decide⟩
 intro hc506
 replace h := ife_f hc506 h
 refine AW.skip ?_
 exact ⟨_, _, ⟨(r484.2.L_, r484.2.At, j504, st403.2.2.2.1), v505, v405, h, I, I⟩, ⟨I, I, I, I, I, I, I, I, trivial⟩, [0, 1, 2, 3, 4, 5], I, by decide⟩
 rintro s ob ⟨j478, v479, v480, h, rfl, rfl⟩
 unfold L.law25_PathsAdded.J7 at h
 refine AW.region (AO.m I I (AO.p (Yp.binI (c := wr (st403.2.2.2.2 + 1)) I I I) I (AO.a I I ?_)))
 obtain rfl := Option.some.inj h
 refine AO.nil ?_
 exact ⟨_, _, _, I, ⟨v479, v480, I, I⟩, ⟨I, I, I, I, I, I, I, I, trivial⟩, [0, 1, 2, 3, 4, 5], I, by decide⟩
 intro hc447
 replace h := ife_f hc447 h
 obtain rfl := hb444 _ (Option.some.inj h).symm
 replace h := hR443
 refine AW.exit ?_
 exact ⟨_, _, ⟨(st403.2.2.1, st403.2.2.2.1), v404, v405, h, I, I⟩, ⟨I, I, I, I, I, trivial⟩, [1, 2, 4, 5], I, by decide⟩
 rintro s ob ⟨j137, v138, v139, h, rfl, rfl⟩
 unfold L.law25_PathsAdded.J1 at h
 refine AW.seqG (fun y140 hy140 => ?_)
 obtain ⟨r141, hx142, h⟩ := ob_some h
 refine AW.region (AO.d (Yd.loadO 0 0 0 I I I I I (y := .agg (Network.row r11.1)) I) I (AO.m I I (AO.p (Yp.fieldPtr I I I I I I) I (AO.d (Yd.loadO 1 0 2 I I I I I (y := .list 1 (r15.1.Pumps.map rB)) I) I (AO.ghost (Ghost.freeze [2] (K := [.us v138 58 4 (j137.1.map Path.row)]) I [(8, .list 4 (j137.1.map Path.row)), (87, .list 4 (j137.1.map Path.row))] ⟨⟨_, I, .us 0 I⟩, ⟨_, I, .us 0 I⟩, trivial⟩ (ob' := [.arr b13 30 6 1 [Network.row r11.1], .arr b17 34 3 1 [Plan.row r15.1], .us v139 58 4 (j137.2.map Path.row)]) (.rest _)) (AO.act [] I (AX.call0 I I I (L.paths_Sum_ok r11.1 j137.1 r15.1.Pumps _ hx142) (dst_some I) ?_)))))))
 rintro _ _ ⟨rfl, rfl⟩
 refine AO.m I I (AO.p (Yp.extract I I) I (AO.p (Yp.extract I I) I (AO.act [] I (AX.alloc (cs := [.v (.slice none 0 0), .v (.slice none 0 0), .v (.slice none 0 0)]) (m := 3) I I I I I (dst_some I) (fun b143 => (AO.act [3] I (AX.store 3 0 0 (es' := [Plan.row r141.1]) I I I I I I I I (le_ble I) I I (AO.a I I (AO.nil ?_)))))))))
 subst hy140
 refine AW.seqG (fun y144 hy144 => ?_)
 obtain ⟨r145, hx146, h⟩ := ob_some h
 refine AW.region (AO.d (Yd.loadO 0 0 0 I I I I I (y := .agg (Network.row r11.1)) I) I (AO.m I I (AO.p (Yp.fieldPtr I I I I I I) I (AO.d (Yd.loadO 1 0 2 I I I I I (y := .list 1 (r15.1.Pumps.map rB)) I) I (AO.ghost (Ghost.freeze [2] (K := [.us v139 58 4 (j137.2.map Path.row)]) I [(9, .list 4 (j137.2.map Path.row)), (95, .list 4 (j137.2.map Path.row))] ⟨⟨_, I, .us 0 I⟩, ⟨_, I, .us 0 I⟩, trivial⟩ (ob' := [.arr b13 30 6 1 [Network.row r11.1], .arr b17 34 3 1 [Plan.row r15.1], .arr b143 34 3 1 [Plan.row r141.1]]) (.rest _)) (AO.act [] I (AX.call0 I I I (L.paths_Sum_ok r11.1 j137.2 r15.1.Pumps _ hx146) (dst_some I) ?_)))))))
 rintro _ _ ⟨rfl, rfl⟩
 refine AO.m I I (AO.p (Yp.extract I I) I (AO.p (Yp.extract I I) I (AO.act [] I (AX.alloc (cs := [.v (.slice none 0 0), .v (.slice none 0 0), .v (.slice none 0 0)]) (m := 3) I I I I I (dst_some I) (fun b147 => (AO.act [3] I (AX.store 3 0 0 (es' := [Plan.row r145.1]) I I I I I I I I (le_ble I) I I (AO.a I I (AO.nil ?_)))))))))
 subst hy144
 refine AW.seqG (fun y148 hy148 => (AW.cutX (fun s ob => s = [(146, .v (.bool ((r19.2 != 0) || ((r141.2 != 0) || ((r145.2 != 0) || (((r141.1.Rates.length : Int) != (r15.1.Rates.length : Int)) || (((r145.1.Rates.length : Int) != (r15.1.Rates.length : Int)) || (((r141.1.Ports.length : Int) != (r15.1.Ports.length : Int)) || ((r145.1.Ports.length : Int) != (r15.1.Ports.length : Int))))))))))] ∧ ob = [.arr b17 34 3 1 [Plan.row r15.1], .arr b143 34 3 1 [Plan.row r141.1], .arr b147 34 3 1 [Plan.row r145.1]]) [(5, _), (14, _), (16, _)] ⟨I, I, I, trivial⟩ ?_ ?_))
 rcases Bool.eq_false_or_eq_true ((r19.2 != 0)) with hg156 | hg156
 refine AW.region (AO.m I I (AO.p (Yp.cmpI (c := (r19.2 != 0)) I I I) I (AO.m I I (AO.known 103 I hg156 (AO.gf I I I (AO.gf I I I (AO.p (Yp.pickT I I) I (AO.m I I (AO.gf I I I (AO.gf I I I (AO.p (Yp.pickT I I) I (AO.m I I ?_))))))))))))
 refine AO.gf I I I (AO.gf I I I (AO.gf I I I (AO.gf I I I (AO.gf I I I (AO.gf I I I (AO.gf I I I (AO.p (Yp.pickT I I) I (AO.m I I (AO.gf I I I (AO.gf I I I (AO.gf I I I (AO.gf I I I ?_))))))))))))
 refine AO.gf I I I (AO.gf I I I (AO.gf I I I (AO.p (Yp.pickT I I) I (AO.m I I (AO.gf I I I (AO.gf I I I (AO.gf I I I (AO.gf I I I (AO.gf I I I (AO.gf I I I (AO.gf I I I (AO.p (Yp.pickT I I) I ?_))))))))))))
 refine AO.m I I (AO.gf I I I (AO.gf I I I (AO.gf I I I (AO.gf I I I (AO.gf I I I (AO.gf I I I (AO.gf I I I (AO.p (Yp.pickT I I) I (AO.nil ?_)))))))))
 exact ⟨_, _, ⟨I, I⟩, ⟨(get_b (by simp only [hg156, Bool.true_and, Bool.false_and, Bool.true_or, Bool.false_or, Bool.not_true, Bool.not_false, cond_true, cond_false])), I, I, I, trivial⟩, [1, 2, 3], I, by decide⟩
 rcases Bool.eq_false_or_eq_true ((r141.2 != 0)) with hg157 | hg157
 refine AW.region (AO.m I I (AO.p (Yp.cmpI (c := (r19.2 != 0)) I I I) I (AO.m I I (AO.known 103 I hg156 (AO.gt I I I (AO.m I I (AO.gt I I I (AO.p (Yp.cmpI (c := (r141.2 != 0)) I I I) I (AO.p (Yp.pickF I I) I (AO.m I I (AO.known 107 I hg157 (AO.gf I I I ?_))))))))))))
 refine AO.gf I I I (AO.p (Yp.pickT I I) I (AO.m I I (AO.gf I I I (AO.gf I I I (AO.gf I I I (AO.gf I I I (AO.gf I I I (AO.gf I I I (AO.gf I I I (AO.p (Yp.pickT I I) I (AO.m I I (AO.gf I I I ?_))))))))))))
 refine AO.gf I I I (AO.gf I I I (AO.gf I I I (AO.gf I I I (AO.gf I I I (AO.gf I I I (AO.p (Yp.pickT I I) I (AO.m I I (AO.gf I I I (AO.gf I I I (AO.gf I I I (AO.gf I I I (AO.gf I I I ?_))))))))))))
 refine AO.gf I I I (AO.gf I I I (AO.p (Yp.pickT I I) I (AO.m I I (AO.gf I I I (AO.gf I I I (AO.gf I I I (AO.gf I I I (AO.gf I I I (AO.gf I I I (AO.gf I I I (AO.p (Yp.pickT I I) I (AO.nil ?_))))))))))))
 exact ⟨_, _, ⟨I, I⟩, ⟨(get_b (by simp only [hg156, hg157, Bool.true_and, Bool.false_and, Bool.true_or, Bool.false_or, Bool.not_true, Bool.not_false, cond_true, cond_false])), I, I, I, trivial⟩, [1, 2, 3], I, by decide⟩
 rcases Bool.eq_false_or_eq_true ((r145.2 != 0)) with hg158 | hg158
 refine AW.region (AO.m I I (AO.p (Yp.cmpI (c := (r19.2 != 0)) I I I) I (AO.m I I (AO.known 103 I hg156 (AO.gt I I I (AO.m I I (AO.gt I I I (AO.p (Yp.cmpI (c := (r141.2 != 0)) I I I) I (AO.p (Yp.pickF I I) I (AO.m I I (AO.known 107 I hg157 (AO.gt I I I ?_))))))))))))
 refine AO.m I I (AO.gt I I I (AO.p (Yp.cmpI (c := (r145.2 != 0)) I I I) I (AO.p (Yp.pickF I I) I (AO.m I I (AO.known 111 I hg158 (AO.gf I I I (AO.gf I I I (AO.gf I I I (AO.gf I I I (AO.gf I I I (AO.gf I I I (AO.gf I I I ?_))))))))))))
 refine AO.p (Yp.pickT I I) I (AO.m I I (AO.gf I I I (AO.gf I I I (AO.gf I I I (AO.gf I I I (AO.gf I I I (AO.gf I I I (AO.gf I I I (AO.p (Yp.pickT I I) I (AO.m I I (AO.gf I I I (AO.gf I I I ?_))))))))))))
 refine AO.gf I I I (AO.gf I I I (AO.gf I I I (AO.gf I I I (AO.gf I I I (AO.p (Yp.pickT I I) I (AO.m I I (AO.gf I I I (AO.gf I I I (AO.gf I I I (AO.gf I I I (AO.gf I I I (AO.gf I I I ?_))))))))))))
 refine AO.gf I I I (AO.p (Yp.pickT I I) I (AO.nil ?_))
 exact ⟨_, _, ⟨I, I⟩, ⟨(get_b (by simp only [hg156, hg157, hg158, Bool.true_and, Bool.false_and, Bool.true_or, Bool.false_or, Bool.not_true, Bool.not_false, cond_true, cond_false])), I, I, I, trivial⟩, [1, 2, 3], I, by decide⟩
 rcases Bool.eq_false_or_eq_true (((r141.1.Rates.length : Int) != (r15.1.Rates.length : Int))) with hg159 | hg159
 refine AW.region (AO.m I I (AO.p (Yp.cmpI (c := (r19.2 != 0)) I I I) I (AO.m I I (AO.known 103 I hg156 (AO.gt I I I (AO.m I I (AO.gt I I I (AO.p (Yp.cmpI (c := (r141.2 != 0)) I I I) I (AO.p (Yp.pickF I I) I (AO.m I I (AO.known 107 I hg157 (AO.gt I I I ?_))))))))))))
 refine AO.m I I (AO.gt I I I (AO.p (Yp.cmpI (c := (r145.2 != 0)) I I I) I (AO.p (Yp.pickF I I) I (AO.m I I (AO.known 111 I hg158 (AO.gt I I I (AO.p (Yp.fieldPtr I I I I I I) I (AO.gt I I I (AO.d (Yd.loadO 2 0 0 I I I I I (y := .list 1 (r141.1.Rates.map rI)) I) I (AO.gt I I I (AO.p (Yp.lenM I I I) I (AO.gt I I I ?_))))))))))))
 refine AO.p (Yp.fieldPtr I I I I I I) I (AO.gt I I I (AO.d (Yd.loadO 1 0 0 I I I I I (y := .list 1 (r15.1.Rates.map rI)) I) I (AO.gt I I I (AO.p (Yp.lenM I I I) I (AO.gt I I I (AO.p (Yp.cmpI (c := ((r141.1.Rates.length : Int) != (r15.1.Rates.length : Int))) I I I) I (AO.p (Yp.pickF I I) I (AO.m I I (AO.known 120 I hg159 (AO.gf I I I (AO.gf I I I (AO.gf I I I ?_))))))))))))
 refine AO.gf I I I (AO.gf I I I (AO.gf I I I (AO.gf I I I (AO.p (Yp.pickT I I) I (AO.m I I (AO.gf I I I (AO.gf I I I (AO.gf I I I (AO.gf I I I (AO.gf I I I (AO.gf I I I (AO.gf I I I ?_))))))))))))
 refine AO.p (Yp.pickT I I) I (AO.m I I (AO.gf I I I (AO.gf I I I (AO.gf I I I (AO.gf I I I (AO.gf I I I (AO.gf I I I (AO.gf I I I (AO.p (Yp.pickT I I) I (AO.nil ?_))))))))))
 exact ⟨_, _, ⟨I, I⟩, ⟨(get_b (by simp only [hg156, hg157, hg158, hg159, Bool.true_and, Bool.false_and, Bool.true_or, Bool.false_or, Bool.not_true, Bool.not_false, cond_true, cond_false])), I, I, I, trivial⟩, [1, 2, 3], I, by decide⟩
 rcases Bool.eq_false_or_eq_true (((r145.1.Rates.length : Int) != (r15.1.Rates.length : Int))) with hg160 | hg160
 refine AW.region (AO.m I I (AO.p (Yp.cmpI (c := (r19.2 != 0)) I I I) I (AO.m I I (AO.known 103 I hg156 (AO.gt I I I (AO.m I I (AO.gt I I I (AO.p (Yp.cmpI (c := (r141.2 != 0)) I I I) I (AO.p (Yp.pickF I I) I (AO.m I I (AO.known 107 I hg157 (AO.gt I I I ?_))))))))))))
 refine AO.m I I (AO.gt I I I (AO.p (Yp.cmpI (c := (r145.2 != 0)) I I I) I (AO.p (Yp.pickF I I) I (AO.m I I (AO.known 111 I hg158 (AO.gt I I I (AO.p (Yp.fieldPtr I I I I I I) I (AO.gt I I I (AO.d (Yd.loadO 2 0 0 I I I I I (y := .list 1 (r141.1.Rates.map rI)) I) I (AO.gt I I I (AO.p (Yp.lenM I I I) I (AO.gt I I I ?_))))))))))))
 refine AO.p (Yp.fieldPtr I I I I I I) I (AO.gt I I I (AO.d (Yd.loadO 1 0 0 I I I I I (y := .list 1 (r15.1.Rates.map rI)) I) I (AO.gt I I I (AO.p (Yp.lenM I I I) I (AO.gt I I I (AO.p (Yp.cmpI (c := ((r141.1.Rates.length : Int) != (r15.1.Rates.length : Int))) I I I) I (AO.p (Yp.pickF I I) I (AO.m I I (AO.known 120 I hg159 (AO.gt I I I (AO.p (Yp.fieldPtr I I I I I I) I (AO.gt I I I ?_))))))))))))
 refine AO.d (Yd.loadO 3 0 0 I I I I I (y := .list 1 (r145.1.Rates.map rI)) I) I (AO.gt I I I (AO.p (Yp.lenM I I I) I (AO.gt I I I (AO.p (Yp.fieldPtr I I I I I I) I (AO.gt I I I (AO.d (Yd.loadO 1 0 0 I I I I I (y := .list 1 (r15.1.Rates.map rI)) I) I (AO.gt I I I (AO.p (Yp.lenM I I I) I (AO.gt I I I (AO.p (Yp.cmpI (c := ((r145.1.Rates.length : Int) != (r15.1.Rates.length : Int))) I I I) I (AO.p (Yp.pickF I I) I (AO.m I I ?_))))))))))))
 refine AO.known 129 I hg160 (AO.gf I I I (AO.gf I I I (AO.gf I I I (AO.gf I I I (AO.gf I I I (AO.gf I I I (AO.gf I I I (AO.p (Yp.pickT I I) I (AO.m I I (AO.gf I I I (AO.gf I I I (AO.gf I I I ?_))))))))))))
 refine AO.gf I I I (AO.gf I I I (AO.gf I I I (AO.gf I I I (AO.p (Yp.pickT I I) I (AO.nil ?_)))))
 exact ⟨_, _, ⟨I, I⟩, ⟨(get_b (by simp only [hg156, hg157, hg158, hg159, hg160, Bool.true_and, Bool.false_and, Bool.true_or, Bool.false_or, Bool.not_true, Bool.not_false, cond_true, cond_false])), I, I, I, trivial⟩, [1, 2, 3], I, by decide⟩
 rcases Bool.eq_false_or_eq_true (((r141.1.Ports.length : Int) != (r15.1.Ports.length : Int))) with hg161 | hg161
 refine AW.region (AO.m I I (AO.p (Yp.cmpI (c := (r19.2 != 0)) I I I) I (AO.m I I (AO.known 103 I hg156 (AO.gt I I I (AO.m I I (AO.gt I I I (AO.p (Yp.cmpI (c := (r141.2 != 0)) I I I) I (AO.p (Yp.pickF I I) I (AO.m I I (AO.known 107 I hg157 (AO.gt I I I ?_))))))))))))
 refine AO.m I I (AO.gt I I I (AO.p (Yp.cmpI (c := (r145.2 != 0)) I I I) I (AO.p (Yp.pickF I I) I (AO.m I I (AO.known 111 I hg158 (AO.gt I I I (AO.p (Yp.fieldPtr I I I I I I) I (AO.gt I I I (AO.d (Yd.loadO 2 0 0 I I I I I (y := .list 1 (r141.1.Rates.map rI)) I) I (AO.gt I I I (AO.p (Yp.lenM I I I) I (AO.gt I I I ?_))))))))))))
 refine AO.p (Yp.fieldPtr I I I I I I) I (AO.gt I I I (AO.d (Yd.loadO 1 0 0 I I I I I (y := .list 1 (r15.1.Rates.map rI)) I) I (AO.gt I I I (AO.p (Yp.lenM I I I) I (AO.gt I I I (AO.p (Yp.cmpI (c := ((r141.1.Rates.length : Int) != (r15.1.Rates.length : Int))) I I I) I (AO.p (Yp.pickF I I) I (AO.m I I (AO.known 120 I hg159 (AO.gt I I I (AO.p (Yp.fieldPtr I I I I I I) I (AO.gt I I I ?_))))))))))))
 refine AO.d (Yd.loadO 3 0 0 I I I I I (y := .list 1 (r145.1.Rates.map rI)) I) I (AO.gt I I I (AO.p (Yp.lenM I I I) I (AO.gt I I I (AO.p (Yp.fieldPtr I I I I I I) I (AO.gt I I I (AO.d (Yd.loadO 1 0 0 I I I I I (y := .list 1 (r15.1.Rates.map rI)) I) I (AO.gt I I I (AO.p (Yp.lenM I I I) I (AO.gt I I I (AO.p (Yp.cmpI (c := ((r145.1.Rates.length : Int) != (r15.1.Rates.length : Int))) I I I) I (AO.p (Yp.pickF I I) I (AO.m I I ?_))))))))))))
 refine AO.known 129 I hg160 (AO.gt I I I (AO.p (Yp.fieldPtr I I I I I I) I (AO.gt I I I (AO.d (Yd.loadO 2 0 1 I I I I I (y := .list 1 (r141.1.Ports.map rI)) I) I (AO.gt I I I (AO.p (Yp.lenM I I I) I (AO.gt I I I (AO.p (Yp.fieldPtr I I I I I I) I (AO.gt I I I (AO.d (Yd.loadO 1 0 1 I I I I I (y := .list 1 (r15.1.Ports.map rI)) I) I (AO.gt I I I (AO.p (Yp.lenM I I I) I ?_))))))))))))
 refine AO.gt I I I (AO.p (Yp.cmpI (c := ((r141.1.Ports.length : Int) != (r15.1.Ports.length : Int))) I I I) I (AO.p (Yp.pickF I I) I (AO.m I I (AO.known 138 I hg161 (AO.gf I I I (AO.gf I I I (AO.gf I I I (AO.gf I I I (AO.gf I I I (AO.gf I I I (AO.gf I I I (AO.p (Yp.pickT I I) I ?_))))))))))))
 refine AO.nil ?_
 exact ⟨_, _, ⟨I, I⟩, ⟨(get_b (by simp only [hg156, hg157, hg158, hg159, hg160, hg161, Bool.true_and, Bool.false_and, Bool.true_or, Bool.false_or, Bool.not_true, Bool.not_false, cond_true, cond_false])), I, I, I, trivial⟩, [1, 2, 3], I, by decide⟩
 refine AW.region (AO.m I I (AO.p (Yp.cmpI (c := (r19.2 != 0)) I I I) I (AO.m I I (AO.known 103 I hg156 (AO.gt I I I (AO.m I I (AO.gt I I I (AO.p (Yp.cmpI (c := (r141.2 != 0)) I I I) I (AO.p (Yp.pickF I I) I (AO.m I I (AO.known 107 I hg157 (AO.gt I I I ?_))))))))))))
 refine AO.m I I (AO.gt I I I (AO.p (Yp.cmpI (c := (r145.2 != 0)) I I I) I (AO.p (Yp.pickF I I) I (AO.m I I (AO.known 111 I hg158 (AO.gt I I I (AO.p (Yp.fieldPtr I I I I I I) I (AO.gt I I I (AO.d (Yd.loadO 2 0 0 I I I I I (y := .list 1 (r141.1.Rates.map rI)) I) I (AO.gt I I I (AO.p (Yp.lenM I I I) I (AO.gt I I I ?_))))))))))))
 refine AO.p (Yp.fieldPtr I I I I I I) I (AO.gt I I I (AO.d (Yd.loadO 1 0 0 I I I I I (y := .list 1 (r15.1.Rates.map rI)) I) I (AO.gt I I I (AO.p (Yp.lenM I I I) I (AO.gt I I I (AO.p (Yp.cmpI (c := ((r141.1.Rates.length : Int) != (r15.1.Rates.length : Int))) I I I) I (AO.p (Yp.pickF I I) I (AO.m I I (AO.known 120 I hg159 (AO.gt I I I (AO.p (Yp.fieldPtr I I I I I I) I (AO.gt I I I ?_))))))))))))
 refine AO.d (Yd.loadO 3 0 0 I I I I I (y := .list 1 (r145.1.Rates.map rI)) I) I (AO.gt I I I (AO.p (Yp.lenM I I I) I (AO.gt I I I (AO.p (Yp.fieldPtr I I I I I I) I (AO.gt I I I (AO.d (Yd.loadO 1 0 0 I I I I I (y := .list 1 (r15.1.Rates.map rI)) I) I (AO.gt I I I (AO.p (Yp.lenM I I I) I (AO.gt I I I (AO.p (Yp.cmpI (c := ((r145.1.Rates.length : Int) != (r15.1.Rates.length : Int))) I I I) I (AO.p (Yp.pickF I I) I (AO.m I I ?_))))))))))))
 refine AO.known 129 I hg160 (AO.gt I I I (AO.p (Yp.fieldPtr I I I I I I) I (AO.gt I I I (AO.d (Yd.loadO 2 0 1 I I I I I (y := .list 1 (r141.1.Ports.map rI)) I) I (AO.gt I I I (AO.p (Yp.lenM I I I) I (AO.gt I I I (AO.p (Yp.fieldPtr I I I I I I) I (AO.gt I I I (AO.d (Yd.loadO 1 0 1 I I I I I (y := .list 1 (r15.1.Ports.map rI)) I) I (AO.gt I I I (AO.p (Yp.lenM I I I) I ?_))))))))))))
 refine AO.gt I I I (AO.p (Yp.cmpI (c := ((r141.1.Ports.length : Int) != (r15.1.Ports.length : Int))) I I I) I (AO.p (Yp.pickF I I) I (AO.m I I (AO.known 138 I hg161 (AO.gt I I I (AO.p (Yp.fieldPtr I I I I I I) I (AO.gt I I I (AO.d (Yd.loadO 3 0 1 I I I I I (y := .list 1 (r145.1.Ports.map rI)) I) I (AO.gt I I I (AO.p (Yp.lenM I I I) I (AO.gt I I I (AO.p (Yp.fieldPtr I I I I I I) I ?_))))))))))))
 refine AO.gt I I I (AO.d (Yd.loadO 1 0 1 I I I I I (y := .list 1 (r15.1.Ports.map rI)) I) I (AO.gt I I I (AO.p (Yp.lenM I I I) I (AO.gt I I I (AO.p (Yp.cmpI (c := ((r145.1.Ports.length : Int) != (r15.1.Ports.length : Int))) I I I) I (AO.p (Yp.pickF I I) I (AO.nil ?_)))))))
 exact ⟨_, _, ⟨I, I⟩, ⟨(get_b (by simp only [hg156, hg157, hg158, hg159, hg160, hg161, Bool.true_and, Bool.false_and, Bool.true_or, Bool.false_or, Bool.not_true, Bool.not_false, cond_true, cond_false])), I, I, I, trivial⟩, [1, 2, 3], I, by decide⟩
 rintro s ob ⟨rfl, rfl⟩
 refine AW.cond I I ?_ ?_
 intro hc162
 replace h := ife_t hc162 h
 refine AW.seq (AW.region (AO.a I I (AO.nil (AW.ghost (Ghost.pick [] (K := []) I (by decide)) ?_))))
 obtain rfl := Option.some.inj h
 refine AW.ret ?_
 exact ⟨.inr I, [_], [], ⟨I, trivial⟩, sl_n, ⟨I, I⟩⟩
 intro hc162
 replace h := ife_f hc162 h
 refine AW.skip ?_
 subst hy148
 refine AW.cutX (fun s ob => ∃ (j195 : Unit), L.law25_PathsAdded.J2 r15 r141 r145 j195 = some r ∧ s = [] ∧ ob = [.arr b17 34 3 1 [Plan.row r15.1], .arr b143 34 3 1 [Plan.row r141.1], .arr b147 34 3 1 [Plan.row r145.1]]) [(5, _), (14, _), (16, _)] ⟨I, I, I, trivial⟩ ?_ ?_
 refine AW.seqG (fun y279 hy279 => (AW.region (AO.a I I (AO.nil ?_))))
 subst hy279
 refine AW.block ?_
 obtain ⟨o311, hL312, hR313⟩ := ob_some h
 clear h
 refine AW.loopX hL312 [(5, _), (14, _), (16, _)] ⟨I, I, I, trivial⟩ (fun (st301 : Int) s ob => s = [(18, .v (.int .i64 st301))] ∧ ob = [.arr b17 34 3 1 [Plan.row r15.1], .arr b143 34 3 1 [Plan.row r141.1], .arr b147 34 3 1 [Plan.row r145.1]]) ⟨I, I⟩ ⟨I, trivial⟩ ⟨[0, 1, 2], I, by decide⟩ ?_
 rintro st301 r315 s ob ⟨rfl, rfl⟩ h hb314
 unfold L.law25_PathsAdded.B5 at h
 refine AW.seqG (fun y316 hy316 => (AW.seq (AW.region (AO.m I I (AO.p (Yp.fieldPtr I I I I I I) I (AO.d (Yd.loadO 0 0 0 I I I I I (y := .list 1 (r15.1.Rates.map rI)) I) I (AO.p (Yp.lenM I I I) I (AO.p (Yp.cmpI (c := decide (st301 < (r15.1.Rates.length : Int))) I I I) I (AO.nil (AW.cond I I ?_ ?_))))))))))
 intro hc317
 replace h := ife_t hc317 h
 refine AW.skip ?_
 subst hy316
 refine AW.seq (AW.block (AW.seq ?_))
 obtain ⟨p318, hp319, h⟩ := ob_some h
 obtain ⟨hp319i, hp319x⟩ := ix_some hp319
 obtain ⟨p320, hp321, h⟩ := ob_some h
 obtain ⟨hp321i, hp321x⟩ := ix_some hp321
 obtain ⟨p322, hp323, h⟩ := ob_some h
 obtain ⟨hp323i, hp323x⟩ := ix_some hp323
 refine AW.regionD (.still 0 (.still 1 (.still 2 (.still 3 (.still 4 (.still 5 (.still 6 (.still 7 (.still 8 (.still 9 (.still 10 (.still 11 (.still 12 (.still 13 (.still 14 (.still 15 (.still 16 .nil))))))))))))))))) [1, 2, 0] [_, _, _] (by kernel_rfl) I (AP.op I (Yp.fieldPtr I I I I I I) I (AP.o I (Yd.loadO 0 0 0 I I I I I (y := .list 1 (r141.1.Rates.map rI)) I) I (AP.op I (Yp.move I) I (AP.op I (Yp.indexE (m := p318.1) I I I I I I hp319i (map_get hp319x)) I (AP.o I (Yd.loadE I I (y := .v (.int .i64 p318.2)) I) I (AP.op I (Yp.fieldPtr I I I I I I) I (AP.o I (Yd.loadO 1 0 0 I I I I I (y := .list 1 (r145.1.Rates.map rI)) I) I (AP.op I (Yp.move I) I (AP.op I (Yp.indexE (m := p320.1) I I I I I I hp321i (map_get hp321x)) I (AP.o I (Yd.loadE I I (y := .v (.int .i64 p320.2)) I) I (AP.op I (Yp.binI (c := wr (p318.2 + p320.2)) I I I) I (AP.op I (Yp.fieldPtr I I I I I I) I ?_))))))))))))
 refine AP.o I (Yd.loadO 2 0 0 I I I I I (y := .list 1 (r15.1.Rates.map rI)) I) I (AP.op I (Yp.move I) I (AP.op I (Yp.indexE (m := p322.1) I I I I I I hp323i (map_get hp323x)) I (AP.o I (Yd.loadE I I (y := .v (.int .i64 p322.2)) I) I (AP.op I (Yp.cmpI (c := ((wr (p318.2 + p320.2)) != p322.2)) I I I) I (AP.ofAO (AO.nil (AW.cond I I ?_ ?_)))))))
 intro hc324
 replace h := ife_t hc324 h
 refine AW.seq (AW.region (AO.a I I (AO.nil ?_)))
 obtain rfl := hb314 _ (Option.some.inj h).symm
 replace h := hR313
 replace h := se_l h
 refine AW.ghost (Ghost.pick [] (K := []) I (by decide)) ?_
 obtain rfl := Option.some.inj h
 refine AW.ret ?_
 exact ⟨.inr I, [_], [], ⟨I, trivial⟩, sl_n, ⟨I, I⟩⟩
 intro hc324
 replace h := ife_f hc324 h
 refine AW.skip (AW.region (AO.m I I (AO.p (Yp.binI (c := wr (st301 + 1)) I I I) I (AO.a I I ?_))))
 obtain rfl := Option.some.inj h
 refine AO.nil ?_
 exact ⟨_, _, _, I, ⟨I, I⟩, ⟨I, I, I, I, trivial⟩, [0, 1, 2], I, by decide⟩
 intro hc317
 replace h := ife_f hc317 h
 obtain rfl := hb314 _ (Option.some.inj h).symm
 replace h := hR313
 replace h := se_r h
 refine AW.exit ?_
 exact ⟨_, _, ⟨(), h, I, I⟩, ⟨I, I, I, trivial⟩, [0, 1, 2], I, by decide⟩
 rintro s ob ⟨j195, h, rfl, rfl⟩
 unfold L.law25_PathsAdded.J2 at h
 refine AW.cutX (fun s ob => ∃ (j228 : Unit), L.law25_PathsAdded.J3 j228 = some r ∧ s = [] ∧ ob = []) [] trivial ?_ ?_
 refine AW.seqG (fun y231 hy231 => (AW.region (AO.a I I (AO.nil ?_))))
 subst hy231
 refine AW.block ?_
 obtain ⟨o263, hL264, hR265⟩ := ob_some h
 clear h
 refine AW.loopX hL264 [(5, _), (14, _), (16, _)] ⟨I, I, I, trivial⟩ (fun (st253 : Int) s ob => s = [(19, .v (.int .i64 st253))] ∧ ob = [.arr b17 34 3 1 [Plan.row r15.1], .arr b143 34 3 1 [Plan.row r141.1], .arr b147 34 3 1 [Plan.row r145.1]]) ⟨I, I⟩ ⟨I, trivial⟩ ⟨[0, 1, 2], I, by decide⟩ ?_
 rintro st253 r267 s ob ⟨rfl, rfl⟩ h hb266
 unfold L.law25_PathsAdded.B4 at h
 refine AW.seqG (fun y268 hy268 => (AW.seq (AW.region (AO.m I I (AO.p (Yp.fieldPtr I I I I I I) I (AO.d (Yd.loadO 0 0 1 I I I I I (y := .list 1 (r15.1.Ports.map rI)) I) I (AO.p (Yp.lenM I I I) I (AO.p (Yp.cmpI (c := decide (st253 < (r15.1.Ports.length : Int))) I I I) I (AO.nil (AW.cond I I ?_ ?_))))))))))
 intro hc269
 replace h := ife_t hc269 h
 refine AW.skip ?_
 subst hy268
 refine AW.seq (AW.block (AW.seq ?_))
 obtain ⟨p270, hp271, h⟩ := ob_some h
 obtain ⟨hp271i, hp271x⟩ := ix_some hp271
 obtain ⟨p272, hp273, h⟩ := ob_some h
 obtain ⟨hp273i, hp273x⟩ := ix_some hp273
 obtain ⟨p274, hp275, h⟩ := ob_some h
 obtain ⟨hp275i, hp275x⟩ := ix_some hp275
 refine AW.regionD (.still 0 (.still 1 (.still 2 (.still 3 (.still 4 (.still 5 (.still 6 (.still 7 (.still 8 (.still 9 (.still 10 (.still 11 (.still 12 (.still 13 (.still 14 (.still 15 (.still 16 .nil))))))))))))))))) [1, 2, 0] [_, _, _] (by kernel_rfl) I (AP.op I (Yp.fieldPtr I I I I I I) I (AP.o I (Yd.loadO 0 0 1 I I I I I (y := .list 1 (r141.1.Ports.map rI)) I) I (AP.op I (Yp.move I) I (AP.op I (Yp.indexE (m := p270.1) I I I I I I hp271i (map_get hp271x)) I (AP.o I (Yd.loadE I I (y := .v (.int .i64 p270.2)) I) I (AP.op I (Yp.fieldPtr I I I I I I) I (AP.o I (Yd.loadO 1 0 1 I I I I I (y := .list 1 (r145.1.Ports.map rI)) I) I (AP.op I (Yp.move I) I (AP.op I (Yp.indexE (m := p272.1) I I I I I I hp273i (map_get hp273x)) I (AP.o I (Yd.loadE I I (y := .v (.int .i64 p272.2)) I) I (AP.op I (Yp.binI (c := wr (p270.2 + p272.2)) I I I) I (AP.op I (Yp.fieldPtr I I I I I I) I ?_))))))))))))
 refine AP.o I (Yd.loadO 2 0 1 I I I I I (y := .list 1 (r15.1.Ports.map rI)) I) I (AP.op I (Yp.move I) I (AP.op I (Yp.indexE (m := p274.1) I I I I I I hp275i (map_get hp275x)) I (AP.o I (Yd.loadE I I (y := .v (.int .i64 p274.2)) I) I (AP.op I (Yp.cmpI (c := ((wr (p270.2 + p272.2)) != p274.2)) I I I) I (AP.ofAO (AO.nil (AW.cond I I ?_ ?_)))))))
 intro hc276
 replace h := ife_t hc276 h
 refine AW.seq (AW.region (AO.a I I (AO.nil ?_)))
 obtain rfl := hb266 _ (Option.some.inj h).symm
 replace h := hR265
 replace h := se_l h
 refine AW.ghost (Ghost.pick [] (K := []) I (by decide)) ?_
 obtain rfl := Option.some.inj h
 refine AW.ret ?_
 exact ⟨.inr I, [_], [], ⟨I, trivial⟩, sl_n, ⟨I, I⟩⟩
 intro hc276
 replace h := ife_f hc276 h
 refine AW.skip (AW.region (AO.m I I (AO.p (Yp.binI (c := wr (st253 + 1)) I I I) I (AO.a I I ?_))))
 obtain rfl := Option.some.inj h
 refine AO.nil ?_
 exact ⟨_, _, _, I, ⟨I, I⟩, ⟨I, I, I, I, trivial⟩, [0, 1, 2], I, by decide⟩
 intro hc269
 replace h := ife_f hc269 h
 obtain rfl := hb266 _ (Option.some.inj h).symm
 replace h := hR265
 replace h := se_r h
 refine AW.exit ?_
 exact ⟨_, _, ⟨(), h, I, I⟩, trivial, [], I, by decide⟩
 rintro s ob ⟨j228, h, rfl, rfl⟩
 unfold L.law25_PathsAdded.J3 at h
 refine AW.seq ?_
 obtain ⟨r229, hx230, h⟩ := ob_some h
 refine AW.region (AO.act [] I (AX.callL I (.refl _) I I (.rest _) I (L.law25_awake_ok  _ hx230) (dst_some I) (by rintro _ _ ⟨rfl, _⟩; rfl) ?_))
 rintro _ ⟨_, rfl, -⟩
 refine AO.a I I (AO.nil ?_)
 obtain rfl := Option.some.inj h
 refine AW.ret ?_
 exact ⟨.inr I, [_], [], ⟨I, trivial⟩, sl_n, ⟨I, I⟩⟩

end Go.Proofs.Ytndfiddakngjdaa
