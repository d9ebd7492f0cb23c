/- Walks that show what functions of the program compute; printed by a program of ours. No condition. -/
import Derived.Test.YtndfiddakngjdaaL5
import Derived.Test.YtndfiddakngjdaaL4c
import Derived.Test.YtndfiddakngjdaaL4b
namespace Go.Proofs.Ytndfiddakngjdaa
open Go.Aw
set_option linter.unusedVariables false
set_option linter.unusedSimpArgs false

set_option maxRecDepth 100000 in
set_option maxHeartbeats 4000000 in
theorem L.law22_SurgeTurns_ok (l_0 : List Int) (r : Bool) (h : L.law22_SurgeTurns l_0 = some r) : ACalls Try.env 4 [.list 1 (l_0.map rI)] [] (fun x new => x = .v (.bool r) ∧ new = []) := by
 refine ACalls.of_body Try.func4 rfl rfl rfl (fun C hC => ?_)
 unfold L.law22_SurgeTurns at h
 refine AW.seqG (fun y1 hy1 => (AW.region (AO.a I I (AO.nil ?_))))
 subst hy1
 refine AW.seqG (fun y2 hy2 => ?_)
 obtain ⟨r3, hx4, h⟩ := ob_some h
 refine AW.region (AO.m I I (AO.act [] I (AX.call0 I I I (L.keep_New_ok l_0 _ hx4) (dst_some I) ?_)))
 rintro _ _ ⟨b5, rfl, rfl⟩
 refine AO.a I I (AO.nil ?_)
 subst hy2
 refine AW.seqG (fun y6 hy6 => ?_)
 obtain ⟨r7, hx8, h⟩ := ob_some h
 refine AW.region (AO.m I I (AO.act [0] I (AX.callG [0] I I I I (by decide) (L.keep_Src_Network_ok b5 r3 _ hx8) (dst_some I) ?_)))
 rintro _ _ _ - ⟨rfl, rfl, rfl⟩
 refine AO.act [] I (AX.alloc (cs := [.v (.slice none 0 0), .v (.slice none 0 0), .v (.slice none 0 0), .v (.slice none 0 0), .v (.int .i64 0), .v (.int .i64 0)]) (m := 6) I I I I I (dst_some I) (fun b9 => (AO.act [1] I (AX.store 1 0 0 (es' := [[.list 1 (r7.1.Nodes.map rS), .list 7 (r7.1.Segments.map Segment.row), .list 3 (r7.1.Ports.map Port.row), .list 5 (r7.1.Stations.map Station.row), .v (.int .i64 r7.1.Vapour), .v (.int .i64 r7.1.Settle)]]) I I I I I I I I (le_ble I) I I (AO.nil ?_)))))
 subst hy6
 refine AW.cutX (fun s ob => ∃ (j16 : (List Int) × (List Int) × (List Bool) × (List Int) × (List Int) × (List Bool)) (b17 : Nat) (b18 : Nat), L.law22_SurgeTurns.J1 r7 j16 = some r ∧ s = [(5, .v (.pointer (some ⟨b17, 0, none⟩))), (6, .v (.pointer (some ⟨b18, 0, none⟩)))] ∧ ob = [.arr b9 30 6 1 [[.list 1 (r7.1.Nodes.map rS), .list 7 (r7.1.Segments.map Segment.row), .list 3 (r7.1.Ports.map Port.row), .list 5 (r7.1.Stations.map Station.row), .v (.int .i64 r7.1.Vapour), .v (.int .i64 r7.1.Settle)]], .arr b17 34 3 1 [[.list 1 (j16.1.map rI), .list 1 (j16.2.1.map rI), .list 1 (j16.2.2.1.map rB)]], .arr b18 34 3 1 [[.list 1 (j16.2.2.2.1.map rI), .list 1 (j16.2.2.2.2.1.map rI), .list 1 (j16.2.2.2.2.2.map rB)]]]) [(4, _)] ⟨I, trivial⟩ ?_ ?_
 obtain ⟨r592, hx593, h⟩ := ob_some h
 obtain ⟨r594, hx595, h⟩ := ob_some h
 refine AW.regionD (.still 0 (.still 1 (.still 3 (.still 4 (.three 2 6 7 (.three 5 6 7 (.two 6 7 (.act 7 (.act 8 (.act 9 .nil))) (.act 6 (.act 8 (.act 9 .nil)))) (.two 5 7 (.act 7 (.act 8 (.act 9 .nil))) (.act 5 (.act 8 (.act 9 .nil)))) (.two 5 6 (.act 6 (.act 8 (.act 9 .nil))) (.act 5 (.act 8 (.act 9 .nil))))) (.two 2 7 (.two 5 7 (.act 7 (.act 8 (.act 9 .nil))) (.act 5 (.act 8 (.act 9 .nil)))) (.act 2 (.act 5 (.act 8 (.act 9 .nil))))) (.two 2 6 (.two 5 6 (.act 6 (.act 8 (.act 9 .nil))) (.act 5 (.act 8 (.act 9 .nil)))) (.act 2 (.act 5 (.act 8 (.act 9 .nil)))))))))) [1] [_] (by kernel_rfl) I (AP.op I (Yp.move I) I (AP.o I (Yd.loadO 0 0 0 I I I I I (y := .agg (Network.row r7.1)) I) I (AP.op I (Yp.move I) I (AP.o I (Yd.loadO 0 0 0 I I I I I (y := .agg (Network.row r7.1)) I) I (AP.three ?_ ?_ ?_)))))
 refine AP.act [0] I I I (AX.callG [0] I I I I (by decide) (L.keep_Src_Plan_ok b5 r7.2 r7.1 _ hx593) (dst_some I) ?_)
 rintro _ _ _ - ⟨rfl, rfl, rfl⟩
 refine AP.three ?_ ?_ ?_
 refine AP.act [0] I I I (AX.callG [0] I I I I (by decide) (L.keep_Src_Plan_ok b5 r592.2 r7.1 _ hx595) (dst_some I) ?_)
 rintro _ _ _ - ⟨rfl, rfl, rfl⟩
 refine AP.two ?_ ?_
 refine AP.act [] I I I (AX.alloc (cs := [.v (.slice none 0 0), .v (.slice none 0 0), .v (.slice none 0 0)]) (m := 3) I I I I I (dst_some I) (fun b596 => (AP.act [] I I I (AX.alloc (cs := [.v (.slice none 0 0), .v (.slice none 0 0), .v (.slice none 0 0)]) (m := 3) I I I I I (dst_some I) (fun b597 => (AP.act [2] I I I (AX.store 2 0 0 (es' := [[.list 1 (r592.1.Rates.map rI), .list 1 (r592.1.Ports.map rI), .list 1 (r592.1.Pumps.map rB)]]) I I I I I I I I (le_ble I) I I (AP.act [3] I I I (AX.store 3 0 0 (es' := [[.list 1 (r594.1.Rates.map rI), .list 1 (r594.1.Ports.map rI), .list 1 (r594.1.Pumps.map rB)]]) I I I I I I I I (le_ble I) I I (AP.ofAO (AO.nil ?_)))))))))))
 exact ⟨_, _, ⟨(r592.1.Rates, r592.1.Ports, r592.1.Pumps, r594.1.Rates, r594.1.Ports, r594.1.Pumps), b596, b597, h, I, I⟩, ⟨I, I, I, trivial⟩, [1, 2, 3], I, by decide⟩
 refine AP.act [] I I I (AX.alloc (cs := [.v (.slice none 0 0), .v (.slice none 0 0), .v (.slice none 0 0)]) (m := 3) I I I I I (dst_some I) (fun b597 => (AP.act [] I I I (AX.alloc (cs := [.v (.slice none 0 0), .v (.slice none 0 0), .v (.slice none 0 0)]) (m := 3) I I I I I (dst_some I) (fun b596 => (AP.act [3] I I I (AX.store 3 0 0 (es' := [[.list 1 (r592.1.Rates.map rI), .list 1 (r592.1.Ports.map rI), .list 1 (r592.1.Pumps.map rB)]]) I I I I I I I I (le_ble I) I I (AP.act [2] I I I (AX.store 2 0 0 (es' := [[.list 1 (r594.1.Rates.map rI), .list 1 (r594.1.Ports.map rI), .list 1 (r594.1.Pumps.map rB)]]) I I I I I I I I (le_ble I) I I (AP.ofAO (AO.nil ?_)))))))))))
 exact ⟨_, _, ⟨(r592.1.Rates, r592.1.Ports, r592.1.Pumps, r594.1.Rates, r594.1.Ports, r594.1.Pumps), b596, b597, h, I, I⟩, ⟨I, I, I, trivial⟩, [1, 3, 2], I, by decide⟩
 refine AP.act [] I I I (AX.alloc (cs := [.v (.slice none 0 0), .v (.slice none 0 0), .v (.slice none 0 0)]) (m := 3) I I I I I (dst_some I) (fun b596 => (AP.two ?_ ?_)))
 refine AP.act [0] I I I (AX.callG [0] I I I I (by decide) (L.keep_Src_Plan_ok b5 r592.2 r7.1 _ hx595) (dst_some I) ?_)
 rintro _ _ _ - ⟨rfl, rfl, rfl⟩
 refine AP.act [] I I I (AX.alloc (cs := [.v (.slice none 0 0), .v (.slice none 0 0), .v (.slice none 0 0)]) (m := 3) I I I I I (dst_some I) (fun b597 => (AP.act [2] I I I (AX.store 2 0 0 (es' := [[.list 1 (r592.1.Rates.map rI), .list 1 (r592.1.Ports.map rI), .list 1 (r592.1.Pumps.map rB)]]) I I I I I I I I (le_ble I) I I (AP.act [3] I I I (AX.store 3 0 0 (es' := [[.list 1 (r594.1.Rates.map rI), .list 1 (r594.1.Ports.map rI), .list 1 (r594.1.Pumps.map rB)]]) I I I I I I I I (le_ble I) I I (AP.ofAO (AO.nil ?_))))))))
 exact ⟨_, _, ⟨(r592.1.Rates, r592.1.Ports, r592.1.Pumps, r594.1.Rates, r594.1.Ports, r594.1.Pumps), b596, b597, h, I, I⟩, ⟨I, I, I, trivial⟩, [1, 2, 3], I, by decide⟩
 refine AP.act [] I I I (AX.alloc (cs := [.v (.slice none 0 0), .v (.slice none 0 0), .v (.slice none 0 0)]) (m := 3) I I I I I (dst_some I) (fun b597 => (AP.act [0] I I I (AX.callG [0] I I I I (by decide) (L.keep_Src_Plan_ok b5 r592.2 r7.1 _ hx595) (dst_some I) ?_))))
 rintro _ _ _ - ⟨rfl, rfl, rfl⟩
 refine AP.act [2] I I I (AX.store 2 0 0 (es' := [[.list 1 (r592.1.Rates.map rI), .list 1 (r592.1.Ports.map rI), .list 1 (r592.1.Pumps.map rB)]]) I I I I I I I I (le_ble I) I I (AP.act [3] I I I (AX.store 3 0 0 (es' := [[.list 1 (r594.1.Rates.map rI), .list 1 (r594.1.Ports.map rI), .list 1 (r594.1.Pumps.map rB)]]) I I I I I I I I (le_ble I) I I (AP.ofAO (AO.nil ?_)))))
 exact ⟨_, _, ⟨(r592.1.Rates, r592.1.Ports, r592.1.Pumps, r594.1.Rates, r594.1.Ports, r594.1.Pumps), b596, b597, h, I, I⟩, ⟨I, I, I, trivial⟩, [1, 2, 3], I, by decide⟩
 refine AP.act [] I I I (AX.alloc (cs := [.v (.slice none 0 0), .v (.slice none 0 0), .v (.slice none 0 0)]) (m := 3) I I I I I (dst_some I) (fun b597 => (AP.two ?_ ?_)))
 refine AP.act [0] I I I (AX.callG [0] I I I I (by decide) (L.keep_Src_Plan_ok b5 r592.2 r7.1 _ hx595) (dst_some I) ?_)
 rintro _ _ _ - ⟨rfl, rfl, rfl⟩
 refine AP.act [] I I I (AX.alloc (cs := [.v (.slice none 0 0), .v (.slice none 0 0), .v (.slice none 0 0)]) (m := 3) I I I I I (dst_some I) (fun b596 => (AP.act [3] I I I (AX.store 3 0 0 (es' := [[.list 1 (r592.1.Rates.map rI), .list 1 (r592.1.Ports.map rI), .list 1 (r592.1.Pumps.map rB)]]) I I I I I I I I (le_ble I) I I (AP.act [2] I I I (AX.store 2 0 0 (es' := [[.list 1 (r594.1.Rates.map rI), .list 1 (r594.1.Ports.map rI), .list 1 (r594.1.Pumps.map rB)]]) I I I I I I I I (le_ble I) I I (AP.ofAO (AO.nil ?_))))))))
 exact ⟨_, _, ⟨(r592.1.Rates, r592.1.Ports, r592.1.Pumps, r594.1.Rates, r594.1.Ports, r594.1.Pumps), b596, b597, h, I, I⟩, ⟨I, I, I, trivial⟩, [1, 3, 2], I, by decide⟩
 refine AP.act [] I I I (AX.alloc (cs := [.v (.slice none 0 0), .v (.slice none 0 0), .v (.slice none 0 0)]) (m := 3) I I I I I (dst_some I) (fun b596 => (AP.act [0] I I I (AX.callG [0] I I I I (by decide) (L.keep_Src_Plan_ok b5 r592.2 r7.1 _ hx595) (dst_some I) ?_))))
 rintro _ _ _ - ⟨rfl, rfl, rfl⟩
 refine AP.act [3] I I I (AX.store 3 0 0 (es' := [[.list 1 (r592.1.Rates.map rI), .list 1 (r592.1.Ports.map rI), .list 1 (r592.1.Pumps.map rB)]]) I I I I I I I I (le_ble I) I I (AP.act [2] I I I (AX.store 2 0 0 (es' := [[.list 1 (r594.1.Rates.map rI), .list 1 (r594.1.Ports.map rI), .list 1 (r594.1.Pumps.map rB)]]) I I I I I I I I (le_ble I) I I (AP.ofAO (AO.nil ?_)))))
 exact ⟨_, _, ⟨(r592.1.Rates, r592.1.Ports, r592.1.Pumps, r594.1.Rates, r594.1.Ports, r594.1.Pumps), b596, b597, h, I, I⟩, ⟨I, I, I, trivial⟩, [1, 3, 2], I, by decide⟩
 refine AP.act [] I I I (AX.alloc (cs := [.v (.slice none 0 0), .v (.slice none 0 0), .v (.slice none 0 0)]) (m := 3) I I I I I (dst_some I) (fun b596 => (AP.two ?_ ?_)))
 refine AP.act [0] I I I (AX.callG [0] I I I I (by decide) (L.keep_Src_Plan_ok b5 r7.2 r7.1 _ hx593) (dst_some I) ?_)
 rintro _ _ _ - ⟨rfl, rfl, rfl⟩
 refine AP.two ?_ ?_
 refine AP.act [0] I I I (AX.callG [0] I I I I (by decide) (L.keep_Src_Plan_ok b5 r592.2 r7.1 _ hx595) (dst_some I) ?_)
 rintro _ _ _ - ⟨rfl, rfl, rfl⟩
 refine AP.act [] I I I (AX.alloc (cs := [.v (.slice none 0 0), .v (.slice none 0 0), .v (.slice none 0 0)]) (m := 3) I I I I I (dst_some I) (fun b597 => (AP.act [2] I I I (AX.store 2 0 0 (es' := [[.list 1 (r592.1.Rates.map rI), .list 1 (r592.1.Ports.map rI), .list 1 (r592.1.Pumps.map rB)]]) I I I I I I I I (le_ble I) I I (AP.act [3] I I I (AX.store 3 0 0 (es' := [[.list 1 (r594.1.Rates.map rI), .list 1 (r594.1.Ports.map rI), .list 1 (r594.1.Pumps.map rB)]]) I I I I I I I I (le_ble I) I I (AP.ofAO (AO.nil ?_))))))))
 exact ⟨_, _, ⟨(r592.1.Rates, r592.1.Ports, r592.1.Pumps, r594.1.Rates, r594.1.Ports, r594.1.Pumps), b596, b597, h, I, I⟩, ⟨I, I, I, trivial⟩, [1, 2, 3], I, by decide⟩
 refine AP.act [] I I I (AX.alloc (cs := [.v (.slice none 0 0), .v (.slice none 0 0), .v (.slice none 0 0)]) (m := 3) I I I I I (dst_some I) (fun b597 => (AP.act [0] I I I (AX.callG [0] I I I I (by decide) (L.keep_Src_Plan_ok b5 r592.2 r7.1 _ hx595) (dst_some I) ?_))))
 rintro _ _ _ - ⟨rfl, rfl, rfl⟩
 refine AP.act [2] I I I (AX.store 2 0 0 (es' := [[.list 1 (r592.1.Rates.map rI), .list 1 (r592.1.Ports.map rI), .list 1 (r592.1.Pumps.map rB)]]) I I I I I I I I (le_ble I) I I (AP.act [3] I I I (AX.store 3 0 0 (es' := [[.list 1 (r594.1.Rates.map rI), .list 1 (r594.1.Ports.map rI), .list 1 (r594.1.Pumps.map rB)]]) I I I I I I I I (le_ble I) I I (AP.ofAO (AO.nil ?_)))))
 exact ⟨_, _, ⟨(r592.1.Rates, r592.1.Ports, r592.1.Pumps, r594.1.Rates, r594.1.Ports, r594.1.Pumps), b596, b597, h, I, I⟩, ⟨I, I, I, trivial⟩, [1, 2, 3], I, by decide⟩
 refine AP.act [] I I I (AX.alloc (cs := [.v (.slice none 0 0), .v (.slice none 0 0), .v (.slice none 0 0)]) (m := 3) I I I I I (dst_some I) (fun b597 => (AP.act [0] I I I (AX.callG [0] I I I I (by decide) (L.keep_Src_Plan_ok b5 r7.2 r7.1 _ hx593) (dst_some I) ?_))))
 rintro _ _ _ - ⟨rfl, rfl, rfl⟩
 refine AP.act [0] I I I (AX.callG [0] I I I I (by decide) (L.keep_Src_Plan_ok b5 r592.2 r7.1 _ hx595) (dst_some I) ?_)
 rintro _ _ _ - ⟨rfl, rfl, rfl⟩
 refine AP.act [2] I I I (AX.store 2 0 0 (es' := [[.list 1 (r592.1.Rates.map rI), .list 1 (r592.1.Ports.map rI), .list 1 (r592.1.Pumps.map rB)]]) I I I I I I I I (le_ble I) I I (AP.act [3] I I I (AX.store 3 0 0 (es' := [[.list 1 (r594.1.Rates.map rI), .list 1 (r594.1.Ports.map rI), .list 1 (r594.1.Pumps.map rB)]]) I I I I I I I I (le_ble I) I I (AP.ofAO (AO.nil ?_)))))
 exact ⟨_, _, ⟨(r592.1.Rates, r592.1.Ports, r592.1.Pumps, r594.1.Rates, r594.1.Ports, r594.1.Pumps), b596, b597, h, I, I⟩, ⟨I, I, I, trivial⟩, [1, 2, 3], I, by decide⟩
 refine AP.act [] I I I (AX.alloc (cs := [.v (.slice none 0 0), .v (.slice none 0 0), .v (.slice none 0 0)]) (m := 3) I I I I I (dst_some I) (fun b597 => (AP.two ?_ ?_)))
 refine AP.act [0] I I I (AX.callG [0] I I I I (by decide) (L.keep_Src_Plan_ok b5 r7.2 r7.1 _ hx593) (dst_some I) ?_)
 rintro _ _ _ - ⟨rfl, rfl, rfl⟩
 refine AP.two ?_ ?_
 refine AP.act [0] I I I (AX.callG [0] I I I I (by decide) (L.keep_Src_Plan_ok b5 r592.2 r7.1 _ hx595) (dst_some I) ?_)
 rintro _ _ _ - ⟨rfl, rfl, rfl⟩
 refine AP.act [] I I I (AX.alloc (cs := [.v (.slice none 0 0), .v (.slice none 0 0), .v (.slice none 0 0)]) (m := 3) I I I I I (dst_some I) (fun b596 => (AP.act [3] I I I (AX.store 3 0 0 (es' := [[.list 1 (r592.1.Rates.map rI), .list 1 (r592.1.Ports.map rI), .list 1 (r592.1.Pumps.map rB)]]) I I I I I I I I (le_ble I) I I (AP.act [2] I I I (AX.store 2 0 0 (es' := [[.list 1 (r594.1.Rates.map rI), .list 1 (r594.1.Ports.map rI), .list 1 (r594.1.Pumps.map rB)]]) I I I I I I I I (le_ble I) I I (AP.ofAO (AO.nil ?_))))))))
 exact ⟨_, _, ⟨(r592.1.Rates, r592.1.Ports, r592.1.Pumps, r594.1.Rates, r594.1.Ports, r594.1.Pumps), b596, b597, h, I, I⟩, ⟨I, I, I, trivial⟩, [1, 3, 2], I, by decide⟩
 refine AP.act [] I I I (AX.alloc (cs := [.v (.slice none 0 0), .v (.slice none 0 0), .v (.slice none 0 0)]) (m := 3) I I I I I (dst_some I) (fun b596 => (AP.act [0] I I I (AX.callG [0] I I I I (by decide) (L.keep_Src_Plan_ok b5 r592.2 r7.1 _ hx595) (dst_some I) ?_))))
 rintro _ _ _ - ⟨rfl, rfl, rfl⟩
 refine AP.act [3] I I I (AX.store 3 0 0 (es' := [[.list 1 (r592.1.Rates.map rI), .list 1 (r592.1.Ports.map rI), .list 1 (r592.1.Pumps.map rB)]]) I I I I I I I I (le_ble I) I I (AP.act [2] I I I (AX.store 2 0 0 (es' := [[.list 1 (r594.1.Rates.map rI), .list 1 (r594.1.Ports.map rI), .list 1 (r594.1.Pumps.map rB)]]) I I I I I I I I (le_ble I) I I (AP.ofAO (AO.nil ?_)))))
 exact ⟨_, _, ⟨(r592.1.Rates, r592.1.Ports, r592.1.Pumps, r594.1.Rates, r594.1.Ports, r594.1.Pumps), b596, b597, h, I, I⟩, ⟨I, I, I, trivial⟩, [1, 3, 2], I, by decide⟩
 refine AP.act [] I I I (AX.alloc (cs := [.v (.slice none 0 0), .v (.slice none 0 0), .v (.slice none 0 0)]) (m := 3) I I I I I (dst_some I) (fun b596 => (AP.act [0] I I I (AX.callG [0] I I I I (by decide) (L.keep_Src_Plan_ok b5 r7.2 r7.1 _ hx593) (dst_some I) ?_))))
 rintro _ _ _ - ⟨rfl, rfl, rfl⟩
 refine AP.act [0] I I I (AX.callG [0] I I I I (by decide) (L.keep_Src_Plan_ok b5 r592.2 r7.1 _ hx595) (dst_some I) ?_)
 rintro _ _ _ - ⟨rfl, rfl, rfl⟩
 refine AP.act [3] I I I (AX.store 3 0 0 (es' := [[.list 1 (r592.1.Rates.map rI), .list 1 (r592.1.Ports.map rI), .list 1 (r592.1.Pumps.map rB)]]) I I I I I I I I (le_ble I) I I (AP.act [2] I I I (AX.store 2 0 0 (es' := [[.list 1 (r594.1.Rates.map rI), .list 1 (r594.1.Ports.map rI), .list 1 (r594.1.Pumps.map rB)]]) I I I I I I I I (le_ble I) I I (AP.ofAO (AO.nil ?_)))))
 exact ⟨_, _, ⟨(r592.1.Rates, r592.1.Ports, r592.1.Pumps, r594.1.Rates, r594.1.Ports, r594.1.Pumps), b596, b597, h, I, I⟩, ⟨I, I, I, trivial⟩, [1, 3, 2], I, by decide⟩
 rintro s ob ⟨j16, b17, b18, h, rfl, rfl⟩
 unfold L.law22_SurgeTurns.J1 at h
 refine AW.seqG (fun y19 hy19 => ?_)
 obtain ⟨r20, hx21, h⟩ := ob_some h
 refine AW.region (AO.d (Yd.loadO 0 0 0 I I I I I (y := .agg (Network.row r7.1)) I) I (AO.d (Yd.loadO 1 0 0 I I I I I (y := .agg [.list 1 (j16.1.map rI), .list 1 (j16.2.1.map rI), .list 1 (j16.2.2.1.map rB)]) I) I (AO.d (Yd.loadO 2 0 0 I I I I I (y := .agg [.list 1 (j16.2.2.2.1.map rI), .list 1 (j16.2.2.2.2.1.map rI), .list 1 (j16.2.2.2.2.2.map rB)]) I) I (AO.act [] I (AX.call0 I I I (L.surge_Rise_ok r7.1 (⟨j16.1, j16.2.1, j16.2.2.1⟩ : Plan) (⟨j16.2.2.2.1, j16.2.2.2.2.1, j16.2.2.2.2.2⟩ : Plan) _ hx21) (dst_some I) ?_)))))
 rintro _ _ ⟨v22, rfl, rfl⟩
 refine AO.m I I (AO.p (Yp.extract I I) I (AO.p (Yp.extract I I) I (AO.a I I (AO.a I I (AO.nil ?_)))))
 subst hy19
 refine AW.seqG (fun y23 hy23 => ?_)
 obtain ⟨r24, hx25, h⟩ := ob_some h
 refine AW.region (AO.d (Yd.loadO 0 0 0 I I I I I (y := .agg (Network.row r7.1)) I) I (AO.d (Yd.loadO 2 0 0 I I I I I (y := .agg [.list 1 (j16.2.2.2.1.map rI), .list 1 (j16.2.2.2.2.1.map rI), .list 1 (j16.2.2.2.2.2.map rB)]) I) I (AO.d (Yd.loadO 1 0 0 I I I I I (y := .agg [.list 1 (j16.1.map rI), .list 1 (j16.2.1.map rI), .list 1 (j16.2.2.1.map rB)]) I) I (AO.act [] I (AX.call0 I I I (L.surge_Rise_ok r7.1 (⟨j16.2.2.2.1, j16.2.2.2.2.1, j16.2.2.2.2.2⟩ : Plan) (⟨j16.1, j16.2.1, j16.2.2.1⟩ : Plan) _ hx25) (dst_some I) ?_)))))
 rintro _ _ ⟨v26, rfl, rfl⟩
 refine AO.m I I (AO.p (Yp.extract I I) I (AO.p (Yp.extract I I) I (AO.a I I (AO.a I I (AO.nil ?_)))))
 subst hy23
 refine AW.seqG (fun y27 hy27 => ?_)
 obtain ⟨r28, hx29, h⟩ := ob_some h
 refine AW.region (AO.d (Yd.loadO 0 0 0 I I I I I (y := .agg (Network.row r7.1)) I) I (AO.d (Yd.loadO 1 0 0 I I I I I (y := .agg [.list 1 (j16.1.map rI), .list 1 (j16.2.1.map rI), .list 1 (j16.2.2.1.map rB)]) I) I (AO.d (Yd.loadO 1 0 0 I I I I I (y := .agg [.list 1 (j16.1.map rI), .list 1 (j16.2.1.map rI), .list 1 (j16.2.2.1.map rB)]) I) I (AO.act [] I (AX.call0 I I I (L.surge_Rise_ok r7.1 (⟨j16.1, j16.2.1, j16.2.2.1⟩ : Plan) (⟨j16.1, j16.2.1, j16.2.2.1⟩ : Plan) _ hx29) (dst_some I) ?_)))))
 rintro _ _ ⟨v30, rfl, rfl⟩
 refine AO.m I I (AO.p (Yp.extract I I) I (AO.p (Yp.extract I I) I (AO.a I I (AO.a I I (AO.nil ?_)))))
 subst hy27
 refine AW.seqG (fun y31 hy31 => (AW.cutX (fun s ob => ∃ (j39 : Bool), L.law22_SurgeTurns.J2 r7 j16 r20 r28 j39 = some r ∧ s = [(84, .v (.bool j39))] ∧ ob = [.arr b9 30 6 1 [[.list 1 (r7.1.Nodes.map rS), .list 7 (r7.1.Segments.map Segment.row), .list 3 (r7.1.Ports.map Port.row), .list 5 (r7.1.Stations.map Station.row), .v (.int .i64 r7.1.Vapour), .v (.int .i64 r7.1.Settle)]], .arr b17 34 3 1 [[.list 1 (j16.1.map rI), .list 1 (j16.2.1.map rI), .list 1 (j16.2.2.1.map rB)]], .arr b18 34 3 1 [[.list 1 (j16.2.2.2.1.map rI), .list 1 (j16.2.2.2.2.1.map rI), .list 1 (j16.2.2.2.2.2.map rB)]], .us v22 3 1 (r20.1.map rI), .us v30 3 1 (r28.1.map rI)]) [(4, _), (5, _), (6, _), (7, _), (11, _)] ⟨I, I, I, I, I, trivial⟩ ?_ ?_))
 rcases Bool.eq_false_or_eq_true ((r20.2 != 0)) with hg585 | hg585
 replace h := ife_t hg585 h
 refine AW.region (AO.m I I (AO.p (Yp.cmpI (c := (r20.2 != 0)) I I I) I (AO.m I I (AO.known 56 I hg585 (AO.gf I I I (AO.gf I I I (AO.p (Yp.pickT I I) I (AO.m I I (AO.gf I I I (AO.gf I I I (AO.p (Yp.pickT I I) I (AO.m I I ?_))))))))))))
 refine AO.gf I I I (AO.gf I I I (AO.gf I I I (AO.gf I I I (AO.gf I I I (AO.gf I I I (AO.p (Yp.pickT I I) I (AO.m I I (AO.gf I I I (AO.gf I I I (AO.gf I I I (AO.gf I I I (AO.gf I I I ?_))))))))))))
 refine AO.p (Yp.pickT I I) I (AO.m I I (AO.gf I I I (AO.gf I I I (AO.gf I I I (AO.gf I I I (AO.p (Yp.pickT I I) I (AO.nil ?_)))))))
 exact ⟨_, _, ⟨true, h, I, I⟩, ⟨I, I, I, I, I, I, trivial⟩, [0, 1, 2, 3, 5], I, by decide⟩
 replace h := ife_f hg585 h
 rcases Bool.eq_false_or_eq_true ((r24.2 != 0)) with hg586 | hg586
 replace h := ife_t hg586 h
 refine AW.region (AO.m I I (AO.p (Yp.cmpI (c := (r20.2 != 0)) I I I) I (AO.m I I (AO.known 56 I hg585 (AO.gt I I I (AO.m I I (AO.gt I I I (AO.p (Yp.cmpI (c := (r24.2 != 0)) I I I) I (AO.p (Yp.pickF I I) I (AO.m I I (AO.known 60 I hg586 (AO.gf I I I ?_))))))))))))
 refine AO.gf I I I (AO.p (Yp.pickT I I) I (AO.m I I (AO.gf I I I (AO.gf I I I (AO.gf I I I (AO.gf I I I (AO.gf I I I (AO.gf I I I (AO.p (Yp.pickT I I) I (AO.m I I (AO.gf I I I (AO.gf I I I ?_))))))))))))
 refine AO.gf I I I (AO.gf I I I (AO.gf I I I (AO.p (Yp.pickT I I) I (AO.m I I (AO.gf I I I (AO.gf I I I (AO.gf I I I (AO.gf I I I (AO.p (Yp.pickT I I) I (AO.nil ?_))))))))))
 exact ⟨_, _, ⟨true, h, I, I⟩, ⟨I, I, I, I, I, I, trivial⟩, [0, 1, 2, 3, 5], I, by decide⟩
 replace h := ife_f hg586 h
 rcases Bool.eq_false_or_eq_true ((r28.2 != 0)) with hg587 | hg587
 replace h := ife_t hg587 h
 refine AW.region (AO.m I I (AO.p (Yp.cmpI (c := (r20.2 != 0)) I I I) I (AO.m I I (AO.known 56 I hg585 (AO.gt I I I (AO.m I I (AO.gt I I I (AO.p (Yp.cmpI (c := (r24.2 != 0)) I I I) I (AO.p (Yp.pickF I I) I (AO.m I I (AO.known 60 I hg586 (AO.gt I I I ?_))))))))))))
 refine AO.m I I (AO.gt I I I (AO.p (Yp.cmpI (c := (r28.2 != 0)) I I I) I (AO.p (Yp.pickF I I) I (AO.m I I (AO.known 64 I hg587 (AO.gf I I I (AO.gf I I I (AO.gf I I I (AO.gf I I I (AO.gf I I I (AO.gf I I I (AO.p (Yp.pickT I I) I ?_))))))))))))
 refine AO.m I I (AO.gf I I I (AO.gf I I I (AO.gf I I I (AO.gf I I I (AO.gf I I I (AO.p (Yp.pickT I I) I (AO.m I I (AO.gf I I I (AO.gf I I I (AO.gf I I I (AO.gf I I I (AO.p (Yp.pickT I I) I ?_))))))))))))
 refine AO.nil ?_
 exact ⟨_, _, ⟨true, h, I, I⟩, ⟨I, I, I, I, I, I, trivial⟩, [0, 1, 2, 3, 5], I, by decide⟩
 replace h := ife_f hg587 h
 rcases Bool.eq_false_or_eq_true (((r20.1.length : Int) != (r7.1.Segments.length : Int))) with hg588 | hg588
 replace h := ife_t hg588 h
 refine AW.region (AO.m I I (AO.p (Yp.cmpI (c := (r20.2 != 0)) I I I) I (AO.m I I (AO.known 56 I hg585 (AO.gt I I I (AO.m I I (AO.gt I I I (AO.p (Yp.cmpI (c := (r24.2 != 0)) I I I) I (AO.p (Yp.pickF I I) I (AO.m I I (AO.known 60 I hg586 (AO.gt I I I ?_))))))))))))
 refine AO.m I I (AO.gt I I I (AO.p (Yp.cmpI (c := (r28.2 != 0)) I I I) I (AO.p (Yp.pickF I I) I (AO.m I I (AO.known 64 I hg587 (AO.gt I I I (AO.m I I (AO.gt I I I (AO.d (Yd.lenUM 3 I I I I) I (AO.gt I I I (AO.p (Yp.fieldPtr I I I I I I) I (AO.gt I I I ?_))))))))))))
 refine AO.d (Yd.loadO 0 0 1 I I I I I (y := .list 7 (r7.1.Segments.map Segment.row)) I) I (AO.gt I I I (AO.p (Yp.lenM I I I) I (AO.gt I I I (AO.p (Yp.cmpI (c := ((r20.1.length : Int) != (r7.1.Segments.length : Int))) I I I) I (AO.p (Yp.pickF I I) I (AO.m I I (AO.known 72 I hg588 (AO.gf I I I (AO.gf I I I (AO.gf I I I (AO.gf I I I (AO.gf I I I ?_))))))))))))
 refine AO.p (Yp.pickT I I) I (AO.m I I (AO.gf I I I (AO.gf I I I (AO.gf I I I (AO.gf I I I (AO.p (Yp.pickT I I) I (AO.nil ?_)))))))
 exact ⟨_, _, ⟨true, h, I, I⟩, ⟨I, I, I, I, I, I, trivial⟩, [0, 1, 2, 3, 5], I, by decide⟩
 replace h := ife_f hg588 h
 rcases Bool.eq_false_or_eq_true (((r28.1.length : Int) != (r20.1.length : Int))) with hg589 | hg589
 replace h := ife_t hg589 h
 refine AW.region (AO.m I I (AO.p (Yp.cmpI (c := (r20.2 != 0)) I I I) I (AO.m I I (AO.known 56 I hg585 (AO.gt I I I (AO.m I I (AO.gt I I I (AO.p (Yp.cmpI (c := (r24.2 != 0)) I I I) I (AO.p (Yp.pickF I I) I (AO.m I I (AO.known 60 I hg586 (AO.gt I I I ?_))))))))))))
 refine AO.m I I (AO.gt I I I (AO.p (Yp.cmpI (c := (r28.2 != 0)) I I I) I (AO.p (Yp.pickF I I) I (AO.m I I (AO.known 64 I hg587 (AO.gt I I I (AO.m I I (AO.gt I I I (AO.d (Yd.lenUM 3 I I I I) I (AO.gt I I I (AO.p (Yp.fieldPtr I I I I I I) I (AO.gt I I I ?_))))))))))))
 refine AO.d (Yd.loadO 0 0 1 I I I I I (y := .list 7 (r7.1.Segments.map Segment.row)) I) I (AO.gt I I I (AO.p (Yp.lenM I I I) I (AO.gt I I I (AO.p (Yp.cmpI (c := ((r20.1.length : Int) != (r7.1.Segments.length : Int))) I I I) I (AO.p (Yp.pickF I I) I (AO.m I I (AO.known 72 I hg588 (AO.gt I I I (AO.m I I (AO.gt I I I (AO.d (Yd.lenUM 5 I I I I) I (AO.gt I I I ?_))))))))))))
 refine AO.m I I (AO.gt I I I (AO.d (Yd.lenUM 3 I I I I) I (AO.gt I I I (AO.p (Yp.cmpI (c := ((r28.1.length : Int) != (r20.1.length : Int))) I I I) I (AO.p (Yp.pickF I I) I (AO.m I I (AO.known 79 I hg589 (AO.gf I I I (AO.gf I I I (AO.gf I I I (AO.gf I I I (AO.p (Yp.pickT I I) I ?_))))))))))))
 refine AO.nil ?_
 exact ⟨_, _, ⟨true, h, I, I⟩, ⟨I, I, I, I, I, I, trivial⟩, [0, 1, 2, 3, 5], I, by decide⟩
 replace h := ife_f hg589 h
 obtain ⟨r590, hx591, h⟩ := ob_some h
 refine AW.region (AO.m I I (AO.p (Yp.cmpI (c := (r20.2 != 0)) I I I) I (AO.m I I (AO.known 56 I hg585 (AO.gt I I I (AO.m I I (AO.gt I I I (AO.p (Yp.cmpI (c := (r24.2 != 0)) I I I) I (AO.p (Yp.pickF I I) I (AO.m I I (AO.known 60 I hg586 (AO.gt I I I ?_))))))))))))
 refine AO.m I I (AO.gt I I I (AO.p (Yp.cmpI (c := (r28.2 != 0)) I I I) I (AO.p (Yp.pickF I I) I (AO.m I I (AO.known 64 I hg587 (AO.gt I I I (AO.m I I (AO.gt I I I (AO.d (Yd.lenUM 3 I I I I) I (AO.gt I I I (AO.p (Yp.fieldPtr I I I I I I) I (AO.gt I I I ?_))))))))))))
 refine AO.d (Yd.loadO 0 0 1 I I I I I (y := .list 7 (r7.1.Segments.map Segment.row)) I) I (AO.gt I I I (AO.p (Yp.lenM I I I) I (AO.gt I I I (AO.p (Yp.cmpI (c := ((r20.1.length : Int) != (r7.1.Segments.length : Int))) I I I) I (AO.p (Yp.pickF I I) I (AO.m I I (AO.known 72 I hg588 (AO.gt I I I (AO.m I I (AO.gt I I I (AO.d (Yd.lenUM 5 I I I I) I (AO.gt I I I ?_))))))))))))
 refine AO.m I I (AO.gt I I I (AO.d (Yd.lenUM 3 I I I I) I (AO.gt I I I (AO.p (Yp.cmpI (c := ((r28.1.length : Int) != (r20.1.length : Int))) I I I) I (AO.p (Yp.pickF I I) I (AO.m I I (AO.known 79 I hg589 (AO.gt I I I (AO.m I I (AO.gt I I I (AO.m I I (AO.gt I I I ?_))))))))))))
 refine AO.act [] I (AX.callL I (.refl _) I I (.cons (.us 3 I) (.cons (.us 4 I) (.rest _))) I (L.keep_Ints_ok r20.1 r24.1 _ hx591) (dst_some I) (by rintro _ _ ⟨rfl, _⟩; rfl) ?_)
 rintro _ ⟨_, rfl, -⟩
 refine AO.gt I I I (AO.p (Yp.not I) I (AO.p (Yp.pickF I I) I (AO.nil ?_)))
 exact ⟨_, _, ⟨(!r590), h, I, I⟩, ⟨I, I, I, I, I, I, trivial⟩, [0, 1, 2, 3, 5], I, by decide⟩
 rintro s ob ⟨j39, h, rfl, rfl⟩
 unfold L.law22_SurgeTurns.J2 at h
 refine AW.cond I I ?_ ?_
 intro hc40
 replace h := ife_t hc40 h
 refine AW.seq (AW.region (AO.a I I (AO.nil (AW.ghost (Ghost.pick [] (K := []) I (by decide)) ?_))))
 obtain rfl := Option.some.inj h
 refine AW.ret ?_
 exact ⟨.inr I, [_], [], ⟨I, trivial⟩, sl_n, ⟨I, I⟩⟩
 intro hc40
 replace h := ife_f hc40 h
 refine AW.skip ?_
 subst hy31
 refine AW.seqG (fun y41 hy41 => ?_)
 obtain ⟨r42, hx43, h⟩ := ob_some h
 refine AW.region (AO.d (Yd.loadO 0 0 0 I I I I I (y := .agg (Network.row r7.1)) I) I (AO.d (Yd.loadO 1 0 0 I I I I I (y := .agg [.list 1 (j16.1.map rI), .list 1 (j16.2.1.map rI), .list 1 (j16.2.2.1.map rB)]) I) I (AO.d (Yd.loadO 2 0 0 I I I I I (y := .agg [.list 1 (j16.2.2.2.1.map rI), .list 1 (j16.2.2.2.2.1.map rI), .list 1 (j16.2.2.2.2.2.map rB)]) I) I (AO.act [] I (AX.call0 I I I (L.surge_Groups_ok r7.1 (⟨j16.1, j16.2.1, j16.2.2.1⟩ : Plan) (⟨j16.2.2.2.1, j16.2.2.2.2.1, j16.2.2.2.2.2⟩ : Plan) _ hx43) (dst_some I) ?_)))))
 rintro _ _ ⟨rfl, rfl⟩
 refine AO.m I I (AO.p (Yp.extract I I) I (AO.p (Yp.extract I I) I (AO.a I I (AO.a I I (AO.nil ?_)))))
 subst hy41
 refine AW.cutX (fun s ob => ∃ (j186 : Unit), L.law22_SurgeTurns.J3 r28 r42 j186 = some r ∧ s = [] ∧ ob = [.us v30 3 1 (r28.1.map rI)]) [(11, _), (14, _)] ⟨I, I, trivial⟩ ?_ ?_
 refine AW.seqG (fun y244 hy244 => (AW.region (AO.m I I (AO.p (Yp.lenM I I I) I (AO.m I I (AO.nil ?_))))))
 subst hy244
 refine AW.block (AW.listMax 92 I (fun hm247 => ?_))
 replace hm247 : r42.1.length ≤ 9223372036854775806 := by rw [List.length_map] at hm247; omega
 obtain ⟨o384, hL385, hR386⟩ := ob_some h
 clear h
 refine AW.forX hL385 [(4, _), (5, _), (6, _), (7, _), (11, _), (14, _), (92, _), (93, _)] ⟨I, I, I, I, I, I, I, I, trivial⟩ (fun (k245 : Nat) (st317 : Unit) s ob => s = [(94, .v (.int .i64 (k245 : Int)))] ∧ ob = [.arr b9 30 6 1 [[.list 1 (r7.1.Nodes.map rS), .list 7 (r7.1.Segments.map Segment.row), .list 3 (r7.1.Ports.map Port.row), .list 5 (r7.1.Stations.map Station.row), .v (.int .i64 r7.1.Vapour), .v (.int .i64 r7.1.Settle)]], .arr b17 34 3 1 [[.list 1 (j16.1.map rI), .list 1 (j16.2.1.map rI), .list 1 (j16.2.2.1.map rB)]], .arr b18 34 3 1 [[.list 1 (j16.2.2.2.1.map rI), .list 1 (j16.2.2.2.2.1.map rI), .list 1 (j16.2.2.2.2.2.map rB)]], .us v22 3 1 (r20.1.map rI), .us v30 3 1 (r28.1.map rI)]) ⟨I, I⟩ ⟨I, trivial⟩ ⟨[0, 1, 2, 3, 4], I, by decide⟩ ?_ ?_
 rintro k245 x248 st317 r388 s ob hx249 hk246 ⟨rfl, rfl⟩ h hb387
 unfold L.law22_SurgeTurns.B7 at h
 have hk246t : decide ((k245 : Int) < (r42.1.length : Int)) = true := by simp; omega
 refine AW.seqG (fun y389 hy389 => (AW.region (AO.p (Yp.cmpI (c := decide ((k245 : Int) < (r42.1.length : Int))) I I I) I (AO.nil ?_))))
 subst hy389
 refine AW.seqG (fun y390 hy390 => (AW.condK (v := true) I hk246t (AW.skip ?_)))
 subst hy390
 refine AW.cutX (fun s ob => ∃ (j454 : Unit), L.law22_SurgeTurns.J8 j454 = some r388 ∧ s = [] ∧ ob = [.arr b9 30 6 1 [[.list 1 (r7.1.Nodes.map rS), .list 7 (r7.1.Segments.map Segment.row), .list 3 (r7.1.Ports.map Port.row), .list 5 (r7.1.Stations.map Station.row), .v (.int .i64 r7.1.Vapour), .v (.int .i64 r7.1.Settle)]], .arr b17 34 3 1 [[.list 1 (j16.1.map rI), .list 1 (j16.2.1.map rI), .list 1 (j16.2.2.1.map rB)]], .arr b18 34 3 1 [[.list 1 (j16.2.2.2.1.map rI), .list 1 (j16.2.2.2.2.1.map rI), .list 1 (j16.2.2.2.2.2.map rB)]], .us v22 3 1 (r20.1.map rI), .us v30 3 1 (r28.1.map rI)]) [(4, _), (5, _), (6, _), (7, _), (11, _), (14, _), (92, _), (93, _), (94, _)] ⟨I, I, I, I, I, I, I, I, I, trivial⟩ ?_ ?_
 refine AW.block (AW.seqG (fun y455 hy455 => (AW.region (AO.p (Yp.indexE (m := k245) I I I I I I I (map_get hx249)) I (AO.d (Yd.loadE I I (y := .list 1 (x248.map rI)) I) I (AO.a I I (AO.nil ?_)))))))
 subst hy455
 refine AW.seqG (fun y456 hy456 => (AW.region (AO.a I I (AO.nil ?_))))
 subst hy456
 refine AW.cutX (fun s ob => ∃ (j495 : Int), L.law22_SurgeTurns.J9 r20 x248 j495 = some r388 ∧ s = [(17, .v (.int .i64 j495))] ∧ ob = [.arr b9 30 6 1 [[.list 1 (r7.1.Nodes.map rS), .list 7 (r7.1.Segments.map Segment.row), .list 3 (r7.1.Ports.map Port.row), .list 5 (r7.1.Stations.map Station.row), .v (.int .i64 r7.1.Vapour), .v (.int .i64 r7.1.Settle)]], .arr b17 34 3 1 [[.list 1 (j16.1.map rI), .list 1 (j16.2.1.map rI), .list 1 (j16.2.2.1.map rB)]], .arr b18 34 3 1 [[.list 1 (j16.2.2.2.1.map rI), .list 1 (j16.2.2.2.2.1.map rI), .list 1 (j16.2.2.2.2.2.map rB)]], .us v22 3 1 (r20.1.map rI), .us v30 3 1 (r28.1.map rI)]) [(4, _), (5, _), (6, _), (7, _), (11, _), (14, _), (16, _), (92, _), (93, _), (94, _)] ⟨I, I, I, I, I, I, I, I, I, I, trivial⟩ ?_ ?_
 refine AW.seqG (fun y530 hy530 => (AW.region (AO.m I I (AO.p (Yp.lenM I I I) I (AO.m I I (AO.nil ?_))))))
 subst hy530
 refine AW.block (AW.listMax 98 I (fun hm533 => ?_))
 replace hm533 : x248.length ≤ 9223372036854775806 := by rw [List.length_map] at hm533; omega
 obtain ⟨o566, hL567, hR568⟩ := ob_some h
 clear h
 refine AW.forY hL567 [(4, _), (5, _), (6, _), (7, _), (11, _), (14, _), (16, _), (92, _), (93, _), (94, _), (98, _), (99, _)] ⟨I, I, I, I, I, I, I, I, I, I, I, I, trivial⟩ (fun (k531 : Nat) (st556 : Int) s ob => s = [(100, .v (.int .i64 (k531 : Int))), (17, .v (.int .i64 st556))] ∧ ob = [.arr b9 30 6 1 [[.list 1 (r7.1.Nodes.map rS), .list 7 (r7.1.Segments.map Segment.row), .list 3 (r7.1.Ports.map Port.row), .list 5 (r7.1.Stations.map Station.row), .v (.int .i64 r7.1.Vapour), .v (.int .i64 r7.1.Settle)]], .arr b17 34 3 1 [[.list 1 (j16.1.map rI), .list 1 (j16.2.1.map rI), .list 1 (j16.2.2.1.map rB)]], .arr b18 34 3 1 [[.list 1 (j16.2.2.2.1.map rI), .list 1 (j16.2.2.2.2.1.map rI), .list 1 (j16.2.2.2.2.2.map rB)]], .us v22 3 1 (r20.1.map rI), .us v30 3 1 (r28.1.map rI)]) ⟨I, I⟩ ⟨I, I, trivial⟩ ⟨[0, 1, 2, 3, 4], I, by decide⟩ ?_ ?_
 rintro k531 x534 st556 r570 s ob hx535 hk532 ⟨rfl, rfl⟩ h
 unfold L.law22_SurgeTurns.B11 at h
 have hk532t : decide ((k531 : Int) < (x248.length : Int)) = true := by simp; omega
 refine AW.seqG (fun y571 hy571 => (AW.region (AO.p (Yp.cmpI (c := decide ((k531 : Int) < (x248.length : Int))) I I I) I (AO.nil ?_))))
 subst hy571
 refine AW.seqG (fun y572 hy572 => (AW.condK (v := true) I hk532t (AW.skip ?_)))
 subst hy572
 refine AW.seq (AW.block (AW.seqG (fun y573 hy573 => (AW.region (AO.p (Yp.indexE (m := k531) I I I I I I I (map_get hx535)) I (AO.d (Yd.loadE I I (y := .v (.int .i64 x534)) I) I (AO.a I I (AO.nil ?_))))))))
 subst hy573
 obtain ⟨p574, hp575, h⟩ := ob_some h
 obtain ⟨hp575i, hp575x⟩ := ix_some hp575
 obtain ⟨p576, hp577, h⟩ := ob_some h
 obtain ⟨hp577i, hp577x⟩ := ix_some hp577
 obtain ⟨p578, hp579, h⟩ := ob_some h
 obtain ⟨hp579i, hp579x⟩ := ix_some hp579
 refine AW.regionD (.still 0 (.still 1 (.still 2 (.still 3 (.still 4 (.still 5 (.still 6 (.still 7 (.still 8 (.still 9 (.still 10 (.still 11 (.still 12 (.still 13 (.still 14 (.still 15 (.still 16 (.still 17 (.act 18 (.still 19 (.still 20 (.still 21 .nil)))))))))))))))))))))) [0, 1, 2] [_, _, _] (by kernel_rfl) I (AP.op I (Yp.move I) I (AP.op I (Yp.fieldPtr I I I I I I) I (AP.o I (Yd.loadO 0 0 1 I I I I I (y := .list 7 (r7.1.Segments.map Segment.row)) I) I (AP.op I (Yp.move I) I (AP.op I (Yp.indexE (m := p574.1) I I I I I I hp575i (map_get hp575x)) I (AP.op I (Yp.fieldE I I I I I I I) I (AP.o I (Yd.loadE I I (y := .v (.int .i64 p574.2.Wave)) I) I (AP.op I (Yp.fieldPtr I I I I I I) I (AP.o I (Yd.loadO 1 0 0 I I I I I (y := .list 1 (j16.1.map rI)) I) I (AP.op I (Yp.move I) I (AP.op I (Yp.indexE (m := p576.1) I I I I I I hp577i (map_get hp577x)) I (AP.o I (Yd.loadE I I (y := .v (.int .i64 p576.2)) I) I ?_))))))))))))
 refine AP.op I (Yp.fieldPtr I I I I I I) I (AP.o I (Yd.loadO 2 0 0 I I I I I (y := .list 1 (j16.2.2.2.1.map rI)) I) I (AP.op I (Yp.move I) I (AP.op I (Yp.indexE (m := p578.1) I I I I I I hp579i (map_get hp579x)) I (AP.o I (Yd.loadE I I (y := .v (.int .i64 p578.2)) I) I (AP.op I (Yp.binI (c := wr (p576.2 - p578.2)) I I I) I (AP.act [] I I I (AX.callL I (.refl _) I I (.rest _) I (L.ref16_Abs_ok (wr (p576.2 - p578.2)) _ I) (dst_some I) (by rintro _ _ ⟨rfl, _⟩; rfl) ?_)))))))
 rintro _ ⟨_, rfl, -⟩
 refine AP.p I (Yp.binI (c := wr (p574.2.Wave * (L.ref16_Abs (wr (p576.2 - p578.2))))) I I I) I (AP.p I (Yp.binI (c := wr (st556 + (wr (p574.2.Wave * (L.ref16_Abs (wr (p576.2 - p578.2))))))) I I I) I (AP.eraS 17 (AP.p I (Yp.assign I) I (AP.ofAO (AO.nil (AW.region (AO.p (Yp.binI (c := ((k531 + 1 : Nat) : Int)) I I (cast_wr hk532 hm533)) I (AO.m I I ?_))))))))
 obtain rfl := Option.some.inj h
 refine AO.nil ?_
 exact ⟨_, _, ⟨I, I⟩, ⟨I, I, I, I, I, I, I, I, I, I, I, I, I, I, trivial⟩, [0, 1, 2, 3, 4], I, by decide⟩
 rintro st556 s ob ⟨rfl, rfl⟩ he
 subst he
 have h := hR568
 have hk532f : decide (((x248.length : Nat) : Int) < (x248.length : Int)) = false := by simp
 refine AW.seqG (fun y580 hy580 => (AW.region (AO.p (Yp.cmpI (c := decide (((x248.length : Nat) : Int) < (x248.length : Int))) I I I) I (AO.nil ?_))))
 subst hy580
 refine AW.seqG (fun y581 hy581 => (AW.condK (v := false) I hk532f (AW.exit ?_)))
 exact ⟨_, _, ⟨st556, h, I, I⟩, ⟨I, I, I, I, I, I, I, I, I, I, I, trivial⟩, [0, 1, 2, 3, 4], I, by decide⟩
 rintro s ob ⟨j495, h, rfl, rfl⟩
 unfold L.law22_SurgeTurns.J9 at h
 refine AW.seqG (fun y496 hy496 => (AW.region (AO.m I I (AO.p (Yp.lenM I I I) I (AO.m I I (AO.nil ?_))))))
 subst hy496
 refine AW.block (AW.listMax 126 I (fun hm499 => ?_))
 replace hm499 : x248.length ≤ 9223372036854775806 := by rw [List.length_map] at hm499; omega
 obtain ⟨o516, hL517, hR518⟩ := ob_some h
 clear h
 refine AW.forX hL517 [(4, _), (5, _), (6, _), (7, _), (11, _), (14, _), (17, _), (92, _), (93, _), (94, _), (126, _), (127, _)] ⟨I, I, I, I, I, I, I, I, I, I, I, I, trivial⟩ (fun (k497 : Nat) (st509 : Unit) s ob => s = [(128, .v (.int .i64 (k497 : Int)))] ∧ ob = [.arr b9 30 6 1 [[.list 1 (r7.1.Nodes.map rS), .list 7 (r7.1.Segments.map Segment.row), .list 3 (r7.1.Ports.map Port.row), .list 5 (r7.1.Stations.map Station.row), .v (.int .i64 r7.1.Vapour), .v (.int .i64 r7.1.Settle)]], .arr b17 34 3 1 [[.list 1 (j16.1.map rI), .list 1 (j16.2.1.map rI), .list 1 (j16.2.2.1.map rB)]], .arr b18 34 3 1 [[.list 1 (j16.2.2.2.1.map rI), .list 1 (j16.2.2.2.2.1.map rI), .list 1 (j16.2.2.2.2.2.map rB)]], .us v22 3 1 (r20.1.map rI), .us v30 3 1 (r28.1.map rI)]) ⟨I, I⟩ ⟨I, trivial⟩ ⟨[0, 1, 2, 3, 4], I, by decide⟩ ?_ ?_
 rintro k497 x500 st509 r520 s ob hx501 hk498 ⟨rfl, rfl⟩ h hb519
 unfold L.law22_SurgeTurns.B10 at h
 have hk498t : decide ((k497 : Int) < (x248.length : Int)) = true := by simp; omega
 refine AW.seqG (fun y521 hy521 => (AW.region (AO.p (Yp.cmpI (c := decide ((k497 : Int) < (x248.length : Int))) I I I) I (AO.nil ?_))))
 subst hy521
 refine AW.seqG (fun y522 hy522 => (AW.condK (v := true) I hk498t (AW.skip ?_)))
 subst hy522
 refine AW.seq (AW.block (AW.seqG (fun y523 hy523 => (AW.region (AO.p (Yp.indexE (m := k497) I I I I I I I (map_get hx501)) I (AO.d (Yd.loadE I I (y := .v (.int .i64 x500)) I) I (AO.a I I (AO.nil ?_))))))))
 subst hy523
 refine AW.seq ?_
 obtain ⟨p524, hp525, h⟩ := ob_some h
 obtain ⟨hp525i, hp525x⟩ := ix_some hp525
 refine AW.region (AO.m I I (AO.m I I (AO.d (Yd.indexU 3 (m := p524.1) I I I I I I I hp525i (map_get hp525x)) I (AO.d (Yd.loadU 3 p524.1 0 I I I (map_get hp525x) I (y := .v (.int .i64 p524.2)) I) I (AO.m I I (AO.p (Yp.cmpI (c := (p524.2 != j495)) I I I) I (AO.nil (AW.cond I I ?_ ?_))))))))
 intro hc526
 replace h := ife_t hc526 h
 refine AW.seq (AW.region (AO.a I I (AO.nil ?_)))
 obtain rfl := hb519 _ (Option.some.inj h).symm
 replace h := hR518
 replace h := se_r h
 obtain rfl := hb387 _ (Option.some.inj h).symm
 replace h := hR386
 replace h := se_r h
 refine AW.ghost (Ghost.pick [] (K := []) I (by decide)) ?_
 obtain rfl := Option.some.inj h
 refine AW.ret ?_
 exact ⟨.inr I, [_], [], ⟨I, trivial⟩, sl_n, ⟨I, I⟩⟩
 intro hc526
 replace h := ife_f hc526 h
 refine AW.skip (AW.region (AO.p (Yp.binI (c := ((k497 + 1 : Nat) : Int)) I I (cast_wr hk498 hm499)) I (AO.m I I ?_)))
 obtain rfl := Option.some.inj h
 refine AO.nil ?_
 exact ⟨_, _, _, I, ⟨I, I⟩, ⟨I, I, I, I, I, I, I, I, I, I, I, I, I, trivial⟩, [0, 1, 2, 3, 4], I, by decide⟩
 rintro st509 s ob ⟨rfl, rfl⟩ he
 subst he
 have h := se_l hR518
 have hk498f : decide (((x248.length : Nat) : Int) < (x248.length : Int)) = false := by simp
 refine AW.seqG (fun y527 hy527 => (AW.region (AO.p (Yp.cmpI (c := decide (((x248.length : Nat) : Int) < (x248.length : Int))) I I I) I (AO.nil ?_))))
 subst hy527
 refine AW.seqG (fun y528 hy528 => (AW.condK (v := false) I hk498f (AW.exit ?_)))
 exact ⟨_, _, ⟨(), h, I, I⟩, ⟨I, I, I, I, I, I, I, I, I, trivial⟩, [0, 1, 2, 3, 4], I, by decide⟩
 rintro s ob ⟨j454, h, rfl, rfl⟩
 unfold L.law22_SurgeTurns.J8 at h
 refine AW.region (AO.p (Yp.binI (c := ((k245 + 1 : Nat) : Int)) I I (cast_wr hk246 hm247)) I (AO.m I I ?_))
 obtain rfl := Option.some.inj h
 refine AO.nil ?_
 exact ⟨_, _, _, I, ⟨I, I⟩, ⟨I, I, I, I, I, I, I, I, I, trivial⟩, [0, 1, 2, 3, 4], I, by decide⟩
 rintro st317 s ob ⟨rfl, rfl⟩ he
 subst he
 have h := se_l hR386
 have hk246f : decide (((r42.1.length : Nat) : Int) < (r42.1.length : Int)) = false := by simp
 refine AW.seqG (fun y582 hy582 => (AW.region (AO.p (Yp.cmpI (c := decide (((r42.1.length : Nat) : Int) < (r42.1.length : Int))) I I I) I (AO.nil ?_))))
 subst hy582
 refine AW.seqG (fun y583 hy583 => (AW.condK (v := false) I hk246f (AW.exit ?_)))
 exact ⟨_, _, ⟨(), h, I, I⟩, ⟨I, I, trivial⟩, [4], I, by decide⟩
 rintro s ob ⟨j186, h, rfl, rfl⟩
 unfold L.law22_SurgeTurns.J3 at h
 refine AW.cutX (fun s ob => ∃ (j206 : Unit), L.law22_SurgeTurns.J4 r42 j206 = some r ∧ s = [] ∧ ob = []) [(14, _)] ⟨I, trivial⟩ ?_ ?_
 refine AW.seqG (fun y214 hy214 => (AW.region (AO.m I I (AO.d (Yd.lenUM 0 I I I I) I (AO.m I I (AO.nil ?_))))))
 subst hy214
 refine AW.block (AW.usMax 0 I (fun hm217 => ?_))
 replace hm217 : r28.1.length ≤ 9223372036854775806 := by rw [List.length_map] at hm217; omega
 obtain ⟨o231, hL232, hR233⟩ := ob_some h
 clear h
 refine AW.forIX hL232 [(11, _), (14, _), (141, _)] ⟨I, I, I, trivial⟩ (fun (k215 : Nat) (st225 : Unit) s ob => s = [(142, .v (.int .i64 (k215 : Int)))] ∧ ob = [.us v30 3 1 (r28.1.map rI)]) ⟨I, I⟩ ⟨I, trivial⟩ ⟨[0], I, by decide⟩ ?_ ?_
 rintro k215 st225 r235 s ob hk216 ⟨rfl, rfl⟩ h hb234
 unfold L.law22_SurgeTurns.B6 at h
 have hk216t : decide ((k215 : Int) < (r28.1.length : Int)) = true := by simp; omega
 refine AW.seqG (fun y236 hy236 => (AW.region (AO.p (Yp.cmpI (c := decide ((k215 : Int) < (r28.1.length : Int))) I I I) I (AO.nil ?_))))
 subst hy236
 refine AW.seqG (fun y237 hy237 => (AW.condK (v := true) I hk216t (AW.skip ?_)))
 subst hy237
 refine AW.seq (AW.block (AW.seq (AW.region (AO.m I I (AO.a I I (AO.nil (AW.seq ?_)))))))
 obtain ⟨p238, hp239, h⟩ := ob_some h
 obtain ⟨hp239i, hp239x⟩ := ix_some hp239
 refine AW.region (AO.m I I (AO.m I I (AO.d (Yd.indexU 0 (m := p238.1) I I I I I I I hp239i (map_get hp239x)) I (AO.d (Yd.loadU 0 p238.1 0 I I I (map_get hp239x) I (y := .v (.int .i64 p238.2)) I) I (AO.p (Yp.cmpI (c := (p238.2 != 0)) I I I) I (AO.nil (AW.cond I I ?_ ?_)))))))
 intro hc240
 replace h := ife_t hc240 h
 refine AW.seq (AW.region (AO.a I I (AO.nil ?_)))
 obtain rfl := hb234 _ (Option.some.inj h).symm
 replace h := hR233
 replace h := se_r h
 refine AW.ghost (Ghost.pick [] (K := []) I (by decide)) ?_
 obtain rfl := Option.some.inj h
 refine AW.ret ?_
 exact ⟨.inr I, [_], [], ⟨I, trivial⟩, sl_n, ⟨I, I⟩⟩
 intro hc240
 replace h := ife_f hc240 h
 refine AW.skip (AW.region (AO.p (Yp.binI (c := ((k215 + 1 : Nat) : Int)) I I (cast_wr hk216 hm217)) I (AO.m I I ?_)))
 obtain rfl := Option.some.inj h
 refine AO.nil ?_
 exact ⟨_, _, _, I, ⟨I, I⟩, ⟨I, I, I, I, trivial⟩, [0], I, by decide⟩
 rintro st225 s ob ⟨rfl, rfl⟩ he
 subst he
 have h := se_l hR233
 have hk216f : decide (((r28.1.length : Nat) : Int) < (r28.1.length : Int)) = false := by simp
 refine AW.seqG (fun y241 hy241 => (AW.region (AO.p (Yp.cmpI (c := decide (((r28.1.length : Nat) : Int) < (r28.1.length : Int))) I I I) I (AO.nil ?_))))
 subst hy241
 refine AW.seqG (fun y242 hy242 => (AW.condK (v := false) I hk216f (AW.exit ?_)))
 exact ⟨_, _, ⟨(), h, I, I⟩, ⟨I, trivial⟩, [], I, by decide⟩
 rintro s ob ⟨j206, h, rfl, rfl⟩
 unfold L.law22_SurgeTurns.J4 at h
 refine AW.cutX (fun s ob => ∃ (j210 : Bool), L.law22_SurgeTurns.J5 j210 = some r ∧ s = [(2, .v (.bool j210))] ∧ ob = []) [] trivial ?_ ?_
 rcases Bool.eq_false_or_eq_true ((r42.2 == 0)) with hg211 | hg211
 replace h := ife_t hg211 h
 obtain ⟨r212, hx213, h⟩ := ob_some h
 refine AW.region (AO.m I I (AO.p (Yp.cmpI (c := (r42.2 == 0)) I I I) I (AO.m I I (AO.known 153 I hg211 (AO.gt I I I (AO.act [] I (AX.callL I (.refl _) I I (.rest _) I (L.law22_awake_ok  _ hx213) (dst_some I) (by rintro _ _ ⟨rfl, _⟩; rfl) ?_)))))))
 rintro _ ⟨_, rfl, -⟩
 refine AO.p (Yp.pickT I I) I (AO.a I I (AO.nil ?_))
 exact ⟨_, _, ⟨r212, h, I, I⟩, ⟨I, trivial⟩, [], I, by decide⟩
 replace h := ife_f hg211 h
 refine AW.region (AO.m I I (AO.p (Yp.cmpI (c := (r42.2 == 0)) I I I) I (AO.m I I (AO.known 153 I hg211 (AO.gf I I I (AO.p (Yp.pickF I I) I (AO.a I I (AO.nil ?_))))))))
 exact ⟨_, _, ⟨false, h, I, I⟩, ⟨I, trivial⟩, [], I, by decide⟩
 rintro s ob ⟨j210, h, rfl, rfl⟩
 unfold L.law22_SurgeTurns.J5 at h
 obtain rfl := Option.some.inj h
 refine AW.ret ?_
 exact ⟨.inr I, [_], [], ⟨I, trivial⟩, sl_n, ⟨I, I⟩⟩

end Go.Proofs.Ytndfiddakngjdaa
