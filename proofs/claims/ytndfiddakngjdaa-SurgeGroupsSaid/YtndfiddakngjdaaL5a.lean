/- Walks that show what functions of the program compute; printed by a program of ours. No condition. -/
import Derived.Test.YtndfiddakngjdaaL5
import Derived.Test.YtndfiddakngjdaaL4c
import Derived.Test.YtndfiddakngjdaaL4b
namespace Go.Proofs.Ytndfiddakngjdaa
open Go.Aw
set_option linter.unusedVariables false
set_option linter.unusedSimpArgs false

set_option maxRecDepth 100000 in
set_option maxHeartbeats 4000000 in
theorem L.law22_SurgeGroups_ok (l_0 : List Int) (r : Bool) (h : L.law22_SurgeGroups l_0 = some r) : ACalls Try.env 3 [.list 1 (l_0.map rI)] [] (fun x new => x = .v (.bool r) ∧ new = []) := by
 refine ACalls.of_body Try.func3 rfl rfl rfl (fun C hC => ?_)
 unfold L.law22_SurgeGroups at h
 refine AW.seqG (fun y1 hy1 => (AW.region (AO.a I I (AO.nil ?_))))
 subst hy1
 refine AW.seqG (fun y2 hy2 => ?_)
 obtain ⟨r3, hx4, h⟩ := ob_some h
 refine AW.region (AO.m I I (AO.act [] I (AX.call0 I I I (L.keep_New_ok l_0 _ hx4) (dst_some I) ?_)))
 rintro _ _ ⟨b5, rfl, rfl⟩
 refine AO.a I I (AO.nil ?_)
 subst hy2
 refine AW.seqG (fun y6 hy6 => ?_)
 obtain ⟨r7, hx8, h⟩ := ob_some h
 refine AW.region (AO.m I I (AO.act [0] I (AX.callG [0] I I I I (by decide) (L.keep_Src_Network_ok b5 r3 _ hx8) (dst_some I) ?_)))
 rintro _ _ _ - ⟨rfl, rfl, rfl⟩
 refine AO.act [] I (AX.alloc (cs := [.v (.slice none 0 0), .v (.slice none 0 0), .v (.slice none 0 0), .v (.slice none 0 0), .v (.int .i64 0), .v (.int .i64 0)]) (m := 6) I I I I I (dst_some I) (fun b9 => (AO.act [1] I (AX.store 1 0 0 (es' := [[.list 1 (r7.1.Nodes.map rS), .list 7 (r7.1.Segments.map Segment.row), .list 3 (r7.1.Ports.map Port.row), .list 5 (r7.1.Stations.map Station.row), .v (.int .i64 r7.1.Vapour), .v (.int .i64 r7.1.Settle)]]) I I I I I I I I (le_ble I) I I (AO.nil ?_)))))
 subst hy6
 refine AW.cutX (fun s ob => ∃ (j16 : (List Int) × (List Int) × (List Bool) × (List Int) × (List Int) × (List Bool)) (b17 : Nat) (b18 : Nat), L.law22_SurgeGroups.J1 r7 j16 = some r ∧ s = [(5, .v (.pointer (some ⟨b17, 0, none⟩))), (6, .v (.pointer (some ⟨b18, 0, none⟩)))] ∧ ob = [.arr b9 30 6 1 [[.list 1 (r7.1.Nodes.map rS), .list 7 (r7.1.Segments.map Segment.row), .list 3 (r7.1.Ports.map Port.row), .list 5 (r7.1.Stations.map Station.row), .v (.int .i64 r7.1.Vapour), .v (.int .i64 r7.1.Settle)]], .arr b17 34 3 1 [[.list 1 (j16.1.map rI), .list 1 (j16.2.1.map rI), .list 1 (j16.2.2.1.map rB)]], .arr b18 34 3 1 [[.list 1 (j16.2.2.2.1.map rI), .list 1 (j16.2.2.2.2.1.map rI), .list 1 (j16.2.2.2.2.2.map rB)]]]) [(4, _)] ⟨I, trivial⟩ ?_ ?_
 obtain ⟨r1220, hx1221, h⟩ := ob_some h
 obtain ⟨r1222, hx1223, h⟩ := ob_some h
 refine AW.regionD (.still 0 (.still 1 (.still 3 (.still 4 (.three 2 6 7 (.three 5 6 7 (.two 6 7 (.act 7 (.act 8 (.act 9 .nil))) (.act 6 (.act 8 (.act 9 .nil)))) (.two 5 7 (.act 7 (.act 8 (.act 9 .nil))) (.act 5 (.act 8 (.act 9 .nil)))) (.two 5 6 (.act 6 (.act 8 (.act 9 .nil))) (.act 5 (.act 8 (.act 9 .nil))))) (.two 2 7 (.two 5 7 (.act 7 (.act 8 (.act 9 .nil))) (.act 5 (.act 8 (.act 9 .nil)))) (.act 2 (.act 5 (.act 8 (.act 9 .nil))))) (.two 2 6 (.two 5 6 (.act 6 (.act 8 (.act 9 .nil))) (.act 5 (.act 8 (.act 9 .nil)))) (.act 2 (.act 5 (.act 8 (.act 9 .nil)))))))))) [1] [_] (by kernel_rfl) I (AP.op I (Yp.move I) I (AP.o I (Yd.loadO 0 0 0 I I I I I (y := .agg (Network.row r7.1)) I) I (AP.op I (Yp.move I) I (AP.o I (Yd.loadO 0 0 0 I I I I I (y := .agg (Network.row r7.1)) I) I (AP.three ?_ ?_ ?_)))))
 refine AP.act [0] I I I (AX.callG [0] I I I I (by decide) (L.keep_Src_Plan_ok b5 r7.2 r7.1 _ hx1221) (dst_some I) ?_)
 rintro _ _ _ - ⟨rfl, rfl, rfl⟩
 refine AP.three ?_ ?_ ?_
 refine AP.act [0] I I I (AX.callG [0] I I I I (by decide) (L.keep_Src_Plan_ok b5 r1220.2 r7.1 _ hx1223) (dst_some I) ?_)
 rintro _ _ _ - ⟨rfl, rfl, rfl⟩
 refine AP.two ?_ ?_
 refine AP.act [] I I I (AX.alloc (cs := [.v (.slice none 0 0), .v (.slice none 0 0), .v (.slice none 0 0)]) (m := 3) I I I I I (dst_some I) (fun b1224 => (AP.act [] I I I (AX.alloc (cs := [.v (.slice none 0 0), .v (.slice none 0 0), .v (.slice none 0 0)]) (m := 3) I I I I I (dst_some I) (fun b1225 => (AP.act [2] I I I (AX.store 2 0 0 (es' := [[.list 1 (r1220.1.Rates.map rI), .list 1 (r1220.1.Ports.map rI), .list 1 (r1220.1.Pumps.map rB)]]) I I I I I I I I (le_ble I) I I (AP.act [3] I I I (AX.store 3 0 0 (es' := [[.list 1 (r1222.1.Rates.map rI), .list 1 (r1222.1.Ports.map rI), .list 1 (r1222.1.Pumps.map rB)]]) I I I I I I I I (le_ble I) I I (AP.ofAO (AO.nil ?_)))))))))))
 exact ⟨_, _, ⟨(r1220.1.Rates, r1220.1.Ports, r1220.1.Pumps, r1222.1.Rates, r1222.1.Ports, r1222.1.Pumps), b1224, b1225, h, I, I⟩, ⟨I, I, I, trivial⟩, [1, 2, 3], I, by decide⟩
 refine AP.act [] I I I (AX.alloc (cs := [.v (.slice none 0 0), .v (.slice none 0 0), .v (.slice none 0 0)]) (m := 3) I I I I I (dst_some I) (fun b1225 => (AP.act [] I I I (AX.alloc (cs := [.v (.slice none 0 0), .v (.slice none 0 0), .v (.slice none 0 0)]) (m := 3) I I I I I (dst_some I) (fun b1224 => (AP.act [3] I I I (AX.store 3 0 0 (es' := [[.list 1 (r1220.1.Rates.map rI), .list 1 (r1220.1.Ports.map rI), .list 1 (r1220.1.Pumps.map rB)]]) I I I I I I I I (le_ble I) I I (AP.act [2] I I I (AX.store 2 0 0 (es' := [[.list 1 (r1222.1.Rates.map rI), .list 1 (r1222.1.Ports.map rI), .list 1 (r1222.1.Pumps.map rB)]]) I I I I I I I I (le_ble I) I I (AP.ofAO (AO.nil ?_)))))))))))
 exact ⟨_, _, ⟨(r1220.1.Rates, r1220.1.Ports, r1220.1.Pumps, r1222.1.Rates, r1222.1.Ports, r1222.1.Pumps), b1224, b1225, h, I, I⟩, ⟨I, I, I, trivial⟩, [1, 3, 2], I, by decide⟩
 refine AP.act [] I I I (AX.alloc (cs := [.v (.slice none 0 0), .v (.slice none 0 0), .v (.slice none 0 0)]) (m := 3) I I I I I (dst_some I) (fun b1224 => (AP.two ?_ ?_)))
 refine AP.act [0] I I I (AX.callG [0] I I I I (by decide) (L.keep_Src_Plan_ok b5 r1220.2 r7.1 _ hx1223) (dst_some I) ?_)
 rintro _ _ _ - ⟨rfl, rfl, rfl⟩
 refine AP.act [] I I I (AX.alloc (cs := [.v (.slice none 0 0), .v (.slice none 0 0), .v (.slice none 0 0)]) (m := 3) I I I I I (dst_some I) (fun b1225 => (AP.act [2] I I I (AX.store 2 0 0 (es' := [[.list 1 (r1220.1.Rates.map rI), .list 1 (r1220.1.Ports.map rI), .list 1 (r1220.1.Pumps.map rB)]]) I I I I I I I I (le_ble I) I I (AP.act [3] I I I (AX.store 3 0 0 (es' := [[.list 1 (r1222.1.Rates.map rI), .list 1 (r1222.1.Ports.map rI), .list 1 (r1222.1.Pumps.map rB)]]) I I I I I I I I (le_ble I) I I (AP.ofAO (AO.nil ?_))))))))
 exact ⟨_, _, ⟨(r1220.1.Rates, r1220.1.Ports, r1220.1.Pumps, r1222.1.Rates, r1222.1.Ports, r1222.1.Pumps), b1224, b1225, h, I, I⟩, ⟨I, I, I, trivial⟩, [1, 2, 3], I, by decide⟩
 refine AP.act [] I I I (AX.alloc (cs := [.v (.slice none 0 0), .v (.slice none 0 0), .v (.slice none 0 0)]) (m := 3) I I I I I (dst_some I) (fun b1225 => (AP.act [0] I I I (AX.callG [0] I I I I (by decide) (L.keep_Src_Plan_ok b5 r1220.2 r7.1 _ hx1223) (dst_some I) ?_))))
 rintro _ _ _ - ⟨rfl, rfl, rfl⟩
 refine AP.act [2] I I I (AX.store 2 0 0 (es' := [[.list 1 (r1220.1.Rates.map rI), .list 1 (r1220.1.Ports.map rI), .list 1 (r1220.1.Pumps.map rB)]]) I I I I I I I I (le_ble I) I I (AP.act [3] I I I (AX.store 3 0 0 (es' := [[.list 1 (r1222.1.Rates.map rI), .list 1 (r1222.1.Ports.map rI), .list 1 (r1222.1.Pumps.map rB)]]) I I I I I I I I (le_ble I) I I (AP.ofAO (AO.nil ?_)))))
 exact ⟨_, _, ⟨(r1220.1.Rates, r1220.1.Ports, r1220.1.Pumps, r1222.1.Rates, r1222.1.Ports, r1222.1.Pumps), b1224, b1225, h, I, I⟩, ⟨I, I, I, trivial⟩, [1, 2, 3], I, by decide⟩
 refine AP.act [] I I I (AX.alloc (cs := [.v (.slice none 0 0), .v (.slice none 0 0), .v (.slice none 0 0)]) (m := 3) I I I I I (dst_some I) (fun b1225 => (AP.two ?_ ?_)))
 refine AP.act [0] I I I (AX.callG [0] I I I I (by decide) (L.keep_Src_Plan_ok b5 r1220.2 r7.1 _ hx1223) (dst_some I) ?_)
 rintro _ _ _ - ⟨rfl, rfl, rfl⟩
 refine AP.act [] I I I (AX.alloc (cs := [.v (.slice none 0 0), .v (.slice none 0 0), .v (.slice none 0 0)]) (m := 3) I I I I I (dst_some I) (fun b1224 => (AP.act [3] I I I (AX.store 3 0 0 (es' := [[.list 1 (r1220.1.Rates.map rI), .list 1 (r1220.1.Ports.map rI), .list 1 (r1220.1.Pumps.map rB)]]) I I I I I I I I (le_ble I) I I (AP.act [2] I I I (AX.store 2 0 0 (es' := [[.list 1 (r1222.1.Rates.map rI), .list 1 (r1222.1.Ports.map rI), .list 1 (r1222.1.Pumps.map rB)]]) I I I I I I I I (le_ble I) I I (AP.ofAO (AO.nil ?_))))))))
 exact ⟨_, _, ⟨(r1220.1.Rates, r1220.1.Ports, r1220.1.Pumps, r1222.1.Rates, r1222.1.Ports, r1222.1.Pumps), b1224, b1225, h, I, I⟩, ⟨I, I, I, trivial⟩, [1, 3, 2], I, by decide⟩
 refine AP.act [] I I I (AX.alloc (cs := [.v (.slice none 0 0), .v (.slice none 0 0), .v (.slice none 0 0)]) (m := 3) I I I I I (dst_some I) (fun b1224 => (AP.act [0] I I I (AX.callG [0] I I I I (by decide) (L.keep_Src_Plan_ok b5 r1220.2 r7.1 _ hx1223) (dst_some I) ?_))))
 rintro _ _ _ - ⟨rfl, rfl, rfl⟩
 refine AP.act [3] I I I (AX.store 3 0 0 (es' := [[.list 1 (r1220.1.Rates.map rI), .list 1 (r1220.1.Ports.map rI), .list 1 (r1220.1.Pumps.map rB)]]) I I I I I I I I (le_ble I) I I (AP.act [2] I I I (AX.store 2 0 0 (es' := [[.list 1 (r1222.1.Rates.map rI), .list 1 (r1222.1.Ports.map rI), .list 1 (r1222.1.Pumps.map rB)]]) I I I I I I I I (le_ble I) I I (AP.ofAO (AO.nil ?_)))))
 exact ⟨_, _, ⟨(r1220.1.Rates, r1220.1.Ports, r1220.1.Pumps, r1222.1.Rates, r1222.1.Ports, r1222.1.Pumps), b1224, b1225, h, I, I⟩, ⟨I, I, I, trivial⟩, [1, 3, 2], I, by decide⟩
 refine AP.act [] I I I (AX.alloc (cs := [.v (.slice none 0 0), .v (.slice none 0 0), .v (.slice none 0 0)]) (m := 3) I I I I I (dst_some I) (fun b1224 => (AP.two ?_ ?_)))
 refine AP.act [0] I I I (AX.callG [0] I I I I (by decide) (L.keep_Src_Plan_ok b5 r7.2 r7.1 _ hx1221) (dst_some I) ?_)
 rintro _ _ _ - ⟨rfl, rfl, rfl⟩
 refine AP.two ?_ ?_
 refine AP.act [0] I I I (AX.callG [0] I I I I (by decide) (L.keep_Src_Plan_ok b5 r1220.2 r7.1 _ hx1223) (dst_some I) ?_)
 rintro _ _ _ - ⟨rfl, rfl, rfl⟩
 refine AP.act [] I I I (AX.alloc (cs := [.v (.slice none 0 0), .v (.slice none 0 0), .v (.slice none 0 0)]) (m := 3) I I I I I (dst_some I) (fun b1225 => (AP.act [2] I I I (AX.store 2 0 0 (es' := [[.list 1 (r1220.1.Rates.map rI), .list 1 (r1220.1.Ports.map rI), .list 1 (r1220.1.Pumps.map rB)]]) I I I I I I I I (le_ble I) I I (AP.act [3] I I I (AX.store 3 0 0 (es' := [[.list 1 (r1222.1.Rates.map rI), .list 1 (r1222.1.Ports.map rI), .list 1 (r1222.1.Pumps.map rB)]]) I I I I I I I I (le_ble I) I I (AP.ofAO (AO.nil ?_))))))))
 exact ⟨_, _, ⟨(r1220.1.Rates, r1220.1.Ports, r1220.1.Pumps, r1222.1.Rates, r1222.1.Ports, r1222.1.Pumps), b1224, b1225, h, I, I⟩, ⟨I, I, I, trivial⟩, [1, 2, 3], I, by decide⟩
 refine AP.act [] I I I (AX.alloc (cs := [.v (.slice none 0 0), .v (.slice none 0 0), .v (.slice none 0 0)]) (m := 3) I I I I I (dst_some I) (fun b1225 => (AP.act [0] I I I (AX.callG [0] I I I I (by decide) (L.keep_Src_Plan_ok b5 r1220.2 r7.1 _ hx1223) (dst_some I) ?_))))
 rintro _ _ _ - ⟨rfl, rfl, rfl⟩
 refine AP.act [2] I I I (AX.store 2 0 0 (es' := [[.list 1 (r1220.1.Rates.map rI), .list 1 (r1220.1.Ports.map rI), .list 1 (r1220.1.Pumps.map rB)]]) I I I I I I I I (le_ble I) I I (AP.act [3] I I I (AX.store 3 0 0 (es' := [[.list 1 (r1222.1.Rates.map rI), .list 1 (r1222.1.Ports.map rI), .list 1 (r1222.1.Pumps.map rB)]]) I I I I I I I I (le_ble I) I I (AP.ofAO (AO.nil ?_)))))
 exact ⟨_, _, ⟨(r1220.1.Rates, r1220.1.Ports, r1220.1.Pumps, r1222.1.Rates, r1222.1.Ports, r1222.1.Pumps), b1224, b1225, h, I, I⟩, ⟨I, I, I, trivial⟩, [1, 2, 3], I, by decide⟩
 refine AP.act [] I I I (AX.alloc (cs := [.v (.slice none 0 0), .v (.slice none 0 0), .v (.slice none 0 0)]) (m := 3) I I I I I (dst_some I) (fun b1225 => (AP.act [0] I I I (AX.callG [0] I I I I (by decide) (L.keep_Src_Plan_ok b5 r7.2 r7.1 _ hx1221) (dst_some I) ?_))))
 rintro _ _ _ - ⟨rfl, rfl, rfl⟩
 refine AP.act [0] I I I (AX.callG [0] I I I I (by decide) (L.keep_Src_Plan_ok b5 r1220.2 r7.1 _ hx1223) (dst_some I) ?_)
 rintro _ _ _ - ⟨rfl, rfl, rfl⟩
 refine AP.act [2] I I I (AX.store 2 0 0 (es' := [[.list 1 (r1220.1.Rates.map rI), .list 1 (r1220.1.Ports.map rI), .list 1 (r1220.1.Pumps.map rB)]]) I I I I I I I I (le_ble I) I I (AP.act [3] I I I (AX.store 3 0 0 (es' := [[.list 1 (r1222.1.Rates.map rI), .list 1 (r1222.1.Ports.map rI), .list 1 (r1222.1.Pumps.map rB)]]) I I I I I I I I (le_ble I) I I (AP.ofAO (AO.nil ?_)))))
 exact ⟨_, _, ⟨(r1220.1.Rates, r1220.1.Ports, r1220.1.Pumps, r1222.1.Rates, r1222.1.Ports, r1222.1.Pumps), b1224, b1225, h, I, I⟩, ⟨I, I, I, trivial⟩, [1, 2, 3], I, by decide⟩
 refine AP.act [] I I I (AX.alloc (cs := [.v (.slice none 0 0), .v (.slice none 0 0), .v (.slice none 0 0)]) (m := 3) I I I I I (dst_some I) (fun b1225 => (AP.two ?_ ?_)))
 refine AP.act [0] I I I (AX.callG [0] I I I I (by decide) (L.keep_Src_Plan_ok b5 r7.2 r7.1 _ hx1221) (dst_some I) ?_)
 rintro _ _ _ - ⟨rfl, rfl, rfl⟩
 refine AP.two ?_ ?_
 refine AP.act [0] I I I (AX.callG [0] I I I I (by decide) (L.keep_Src_Plan_ok b5 r1220.2 r7.1 _ hx1223) (dst_some I) ?_)
 rintro _ _ _ - ⟨rfl, rfl, rfl⟩
 refine AP.act [] I I I (AX.alloc (cs := [.v (.slice none 0 0), .v (.slice none 0 0), .v (.slice none 0 0)]) (m := 3) I I I I I (dst_some I) (fun b1224 => (AP.act [3] I I I (AX.store 3 0 0 (es' := [[.list 1 (r1220.1.Rates.map rI), .list 1 (r1220.1.Ports.map rI), .list 1 (r1220.1.Pumps.map rB)]]) I I I I I I I I (le_ble I) I I (AP.act [2] I I I (AX.store 2 0 0 (es' := [[.list 1 (r1222.1.Rates.map rI), .list 1 (r1222.1.Ports.map rI), .list 1 (r1222.1.Pumps.map rB)]]) I I I I I I I I (le_ble I) I I (AP.ofAO (AO.nil ?_))))))))
 exact ⟨_, _, ⟨(r1220.1.Rates, r1220.1.Ports, r1220.1.Pumps, r1222.1.Rates, r1222.1.Ports, r1222.1.Pumps), b1224, b1225, h, I, I⟩, ⟨I, I, I, trivial⟩, [1, 3, 2], I, by decide⟩
 refine AP.act [] I I I (AX.alloc (cs := [.v (.slice none 0 0), .v (.slice none 0 0), .v (.slice none 0 0)]) (m := 3) I I I I I (dst_some I) (fun b1224 => (AP.act [0] I I I (AX.callG [0] I I I I (by decide) (L.keep_Src_Plan_ok b5 r1220.2 r7.1 _ hx1223) (dst_some I) ?_))))
 rintro _ _ _ - ⟨rfl, rfl, rfl⟩
 refine AP.act [3] I I I (AX.store 3 0 0 (es' := [[.list 1 (r1220.1.Rates.map rI), .list 1 (r1220.1.Ports.map rI), .list 1 (r1220.1.Pumps.map rB)]]) I I I I I I I I (le_ble I) I I (AP.act [2] I I I (AX.store 2 0 0 (es' := [[.list 1 (r1222.1.Rates.map rI), .list 1 (r1222.1.Ports.map rI), .list 1 (r1222.1.Pumps.map rB)]]) I I I I I I I I (le_ble I) I I (AP.ofAO (AO.nil ?_)))))
 exact ⟨_, _, ⟨(r1220.1.Rates, r1220.1.Ports, r1220.1.Pumps, r1222.1.Rates, r1222.1.Ports, r1222.1.Pumps), b1224, b1225, h, I, I⟩, ⟨I, I, I, trivial⟩, [1, 3, 2], I, by decide⟩
 refine AP.act [] I I I (AX.alloc (cs := [.v (.slice none 0 0), .v (.slice none 0 0), .v (.slice none 0 0)]) (m := 3) I I I I I (dst_some I) (fun b1224 => (AP.act [0] I I I (AX.callG [0] I I I I (by decide) (L.keep_Src_Plan_ok b5 r7.2 r7.1 _ hx1221) (dst_some I) ?_))))
 rintro _ _ _ - ⟨rfl, rfl, rfl⟩
 refine AP.act [0] I I I (AX.callG [0] I I I I (by decide) (L.keep_Src_Plan_ok b5 r1220.2 r7.1 _ hx1223) (dst_some I) ?_)
 rintro _ _ _ - ⟨rfl, rfl, rfl⟩
 refine AP.act [3] I I I (AX.store 3 0 0 (es' := [[.list 1 (r1220.1.Rates.map rI), .list 1 (r1220.1.Ports.map rI), .list 1 (r1220.1.Pumps.map rB)]]) I I I I I I I I (le_ble I) I I (AP.act [2] I I I (AX.store 2 0 0 (es' := [[.list 1 (r1222.1.Rates.map rI), .list 1 (r1222.1.Ports.map rI), .list 1 (r1222.1.Pumps.map rB)]]) I I I I I I I I (le_ble I) I I (AP.ofAO (AO.nil ?_)))))
 exact ⟨_, _, ⟨(r1220.1.Rates, r1220.1.Ports, r1220.1.Pumps, r1222.1.Rates, r1222.1.Ports, r1222.1.Pumps), b1224, b1225, h, I, I⟩, ⟨I, I, I, trivial⟩, [1, 3, 2], I, by decide⟩
 rintro s ob ⟨j16, b17, b18, h, rfl, rfl⟩
 unfold L.law22_SurgeGroups.J1 at h
 refine AW.seqG (fun y19 hy19 => ?_)
 obtain ⟨r20, hx21, h⟩ := ob_some h
 refine AW.region (AO.d (Yd.loadO 0 0 0 I I I I I (y := .agg (Network.row r7.1)) I) I (AO.d (Yd.loadO 1 0 0 I I I I I (y := .agg [.list 1 (j16.1.map rI), .list 1 (j16.2.1.map rI), .list 1 (j16.2.2.1.map rB)]) I) I (AO.d (Yd.loadO 2 0 0 I I I I I (y := .agg [.list 1 (j16.2.2.2.1.map rI), .list 1 (j16.2.2.2.2.1.map rI), .list 1 (j16.2.2.2.2.2.map rB)]) I) I (AO.act [] I (AX.call0 I I I (L.surge_Groups_ok r7.1 (⟨j16.1, j16.2.1, j16.2.2.1⟩ : Plan) (⟨j16.2.2.2.1, j16.2.2.2.2.1, j16.2.2.2.2.2⟩ : Plan) _ hx21) (dst_some I) ?_)))))
 rintro _ _ ⟨rfl, rfl⟩
 refine AO.m I I (AO.p (Yp.extract I I) I (AO.p (Yp.extract I I) I (AO.a I I (AO.a I I (AO.nil ?_)))))
 subst hy19
 refine AW.seqG (fun y22 hy22 => (AW.seq (AW.region (AO.m I I (AO.p (Yp.cmpI (c := (r20.2 != 0)) I I I) I (AO.nil (AW.cond I I ?_ ?_)))))))
 intro hc23
 replace h := ife_t hc23 h
 refine AW.seq (AW.region (AO.a I I (AO.nil (AW.ghost (Ghost.pick [] (K := []) I (by decide)) ?_))))
 obtain rfl := Option.some.inj h
 refine AW.ret ?_
 exact ⟨.inr I, [_], [], ⟨I, trivial⟩, sl_n, ⟨I, I⟩⟩
 intro hc23
 replace h := ife_f hc23 h
 refine AW.skip ?_
 subst hy22
 refine AW.seqG (fun y24 hy24 => ?_)
 obtain ⟨l25, hx26, h⟩ := ob_some h
 obtain ⟨m27, hx26i, hx26m, hx26r⟩ := mk_some hx26
 refine AW.region (AO.p (Yp.fieldPtr I I I I I I) I (AO.d (Yd.loadO 0 0 1 I I I I I (y := .list 7 (r7.1.Segments.map Segment.row)) I) I (AO.p (Yp.lenM I I I) I (AO.act [] I (AX.makeU (sz := 1) I I I I I I I I I I hx26i hx26m (rep_map (f := rI) hx26r I) (dst_some I) (fun v28 => (AO.a I I (AO.nil ?_))))))))
 subst hy24
 refine AW.cutX (fun s ob => ∃ (j47 : List Int), L.law22_SurgeGroups.J2 r7 j16 r20 j47 = some r ∧ s = [] ∧ ob = [.arr b9 30 6 1 [[.list 1 (r7.1.Nodes.map rS), .list 7 (r7.1.Segments.map Segment.row), .list 3 (r7.1.Ports.map Port.row), .list 5 (r7.1.Stations.map Station.row), .v (.int .i64 r7.1.Vapour), .v (.int .i64 r7.1.Settle)]], .arr b17 34 3 1 [[.list 1 (j16.1.map rI), .list 1 (j16.2.1.map rI), .list 1 (j16.2.2.1.map rB)]], .arr b18 34 3 1 [[.list 1 (j16.2.2.2.1.map rI), .list 1 (j16.2.2.2.2.1.map rI), .list 1 (j16.2.2.2.2.2.map rB)]], .us v28 3 1 (j47.map rI)]) [(4, _), (5, _), (6, _), (7, _), (9, _)] ⟨I, I, I, I, I, trivial⟩ ?_ ?_
 refine AW.seqG (fun y1194 hy1194 => (AW.region (AO.m I I (AO.d (Yd.lenUM 3 I I I I) I (AO.m I I (AO.nil ?_))))))
 subst hy1194
 refine AW.block (AW.usMax 3 I (fun hm1197 => ?_))
 replace hm1197 : l25.length ≤ 9223372036854775806 := by rw [List.length_map] at hm1197; omega
 obtain ⟨o1211, hL1212, hR1213⟩ := ob_some h
 clear h
 refine AW.forJY hL1212 [(4, _), (5, _), (6, _), (7, _), (9, _), (42, _)] ⟨I, I, I, I, I, I, trivial⟩ (fun (k1195 : Nat) (st1207 : List Int) s ob => s = [(43, .v (.int .i64 (k1195 : Int)))] ∧ ob = [.arr b9 30 6 1 [[.list 1 (r7.1.Nodes.map rS), .list 7 (r7.1.Segments.map Segment.row), .list 3 (r7.1.Ports.map Port.row), .list 5 (r7.1.Stations.map Station.row), .v (.int .i64 r7.1.Vapour), .v (.int .i64 r7.1.Settle)]], .arr b17 34 3 1 [[.list 1 (j16.1.map rI), .list 1 (j16.2.1.map rI), .list 1 (j16.2.2.1.map rB)]], .arr b18 34 3 1 [[.list 1 (j16.2.2.2.1.map rI), .list 1 (j16.2.2.2.2.1.map rI), .list 1 (j16.2.2.2.2.2.map rB)]], .us v28 3 1 (st1207.map rI)]) ⟨I, I⟩ ⟨I, trivial⟩ ⟨[0, 1, 2, 3], I, by decide⟩ ?_ ?_
 rintro k1195 st1207 r1215 s ob hk1196 ⟨rfl, rfl⟩ h
 unfold L.law22_SurgeGroups.B14 at h
 have hk1196t : decide ((k1195 : Int) < (l25.length : Int)) = true := by simp; omega
 refine AW.seqG (fun y1216 hy1216 => (AW.region (AO.p (Yp.cmpI (c := decide ((k1195 : Int) < (l25.length : Int))) I I I) I (AO.nil ?_))))
 subst hy1216
 refine AW.seq (AW.condK (v := true) I hk1196t (AW.skip (AW.seq (AW.block (AW.seq (AW.region (AO.m I I (AO.a I I (AO.nil ?_)))))))))
 obtain ⟨p1217, hp1218, h⟩ := ob_some h
 obtain ⟨hp1218i, hp1218x⟩ := ix_some hp1218
 refine AW.region (AO.m I I (AO.m I I (AO.d (Yd.indexU 3 (m := p1217.1) I I I I I I I hp1218i (map_get hp1218x)) I (AO.act [3] I (AX.storeU 3 p1217.1 0 I I I (map_get hp1218x) I I I I (le_ble I) I (us_set (x := (-1)) I) (AO.nil (AW.region (AO.p (Yp.binI (c := ((k1195 + 1 : Nat) : Int)) I I (cast_wr hk1196 hm1197)) I (AO.m I I ?_)))))))))
 obtain rfl := Option.some.inj h
 refine AO.nil ?_
 exact ⟨_, _, ⟨I, I⟩, ⟨I, I, I, I, I, I, I, trivial⟩, [0, 1, 2, 3], I, by decide⟩
 rintro st1207 s ob ⟨rfl, rfl⟩ he
 subst he
 have h := hR1213
 have hk1196f : decide (((l25.length : Nat) : Int) < (l25.length : Int)) = false := by simp
 refine AW.seqG (fun y1219 hy1219 => (AW.region (AO.p (Yp.cmpI (c := decide (((l25.length : Nat) : Int) < (l25.length : Int))) I I I) I (AO.nil ?_))))
 subst hy1219
 refine AW.seq (AW.condK (v := false) I hk1196f (AW.exit ?_))
 exact ⟨_, _, ⟨st1207, h, I, I⟩, ⟨I, I, I, I, I, trivial⟩, [0, 1, 2, 3], I, by decide⟩
 rintro s ob ⟨j47, h, rfl, rfl⟩
 unfold L.law22_SurgeGroups.J2 at h
 refine AW.cutX (fun s ob => ∃ (j203 : List Int), L.law22_SurgeGroups.J3 r7 j16 j203 = some r ∧ s = [] ∧ ob = [.arr b9 30 6 1 [[.list 1 (r7.1.Nodes.map rS), .list 7 (r7.1.Segments.map Segment.row), .list 3 (r7.1.Ports.map Port.row), .list 5 (r7.1.Stations.map Station.row), .v (.int .i64 r7.1.Vapour), .v (.int .i64 r7.1.Settle)]], .arr b17 34 3 1 [[.list 1 (j16.1.map rI), .list 1 (j16.2.1.map rI), .list 1 (j16.2.2.1.map rB)]], .arr b18 34 3 1 [[.list 1 (j16.2.2.2.1.map rI), .list 1 (j16.2.2.2.2.1.map rI), .list 1 (j16.2.2.2.2.2.map rB)]], .us v28 3 1 (j203.map rI)]) [(4, _), (5, _), (6, _), (9, _)] ⟨I, I, I, I, trivial⟩ ?_ ?_
 refine AW.seqG (fun y919 hy919 => (AW.region (AO.m I I (AO.p (Yp.lenM I I I) I (AO.m I I (AO.nil ?_))))))
 subst hy919
 refine AW.block (AW.listMax 50 I (fun hm922 => ?_))
 replace hm922 : r20.1.length ≤ 9223372036854775806 := by rw [List.length_map] at hm922; omega
 obtain ⟨o1072, hL1073, hR1074⟩ := ob_some h
 clear h
 refine AW.forX hL1073 [(4, _), (5, _), (6, _), (7, _), (9, _), (51, _)] ⟨I, I, I, I, I, I, trivial⟩ (fun (k920 : Nat) (st1023 : List Int) s ob => s = [(52, .v (.int .i64 (k920 : Int)))] ∧ ob = [.arr b9 30 6 1 [[.list 1 (r7.1.Nodes.map rS), .list 7 (r7.1.Segments.map Segment.row), .list 3 (r7.1.Ports.map Port.row), .list 5 (r7.1.Stations.map Station.row), .v (.int .i64 r7.1.Vapour), .v (.int .i64 r7.1.Settle)]], .arr b17 34 3 1 [[.list 1 (j16.1.map rI), .list 1 (j16.2.1.map rI), .list 1 (j16.2.2.1.map rB)]], .arr b18 34 3 1 [[.list 1 (j16.2.2.2.1.map rI), .list 1 (j16.2.2.2.2.1.map rI), .list 1 (j16.2.2.2.2.2.map rB)]], .us v28 3 1 (st1023.map rI)]) ⟨I, I⟩ ⟨I, trivial⟩ ⟨[0, 1, 2, 3], I, by decide⟩ ?_ ?_
 rintro k920 x923 st1023 r1076 s ob hx924 hk921 ⟨rfl, rfl⟩ h hb1075
 unfold L.law22_SurgeGroups.B10 at h
 have hk921t : decide ((k920 : Int) < (r20.1.length : Int)) = true := by simp; omega
 refine AW.seqG (fun y1077 hy1077 => (AW.region (AO.p (Yp.cmpI (c := decide ((k920 : Int) < (r20.1.length : Int))) I I I) I (AO.nil ?_))))
 subst hy1077
 refine AW.seqG (fun y1078 hy1078 => (AW.condK (v := true) I hk921t (AW.skip ?_)))
 subst hy1078
 refine AW.cutX (fun s ob => ∃ (j1124 : List Int), L.law22_SurgeGroups.J11 j1124 = some r1076 ∧ s = [] ∧ ob = [.arr b9 30 6 1 [[.list 1 (r7.1.Nodes.map rS), .list 7 (r7.1.Segments.map Segment.row), .list 3 (r7.1.Ports.map Port.row), .list 5 (r7.1.Stations.map Station.row), .v (.int .i64 r7.1.Vapour), .v (.int .i64 r7.1.Settle)]], .arr b17 34 3 1 [[.list 1 (j16.1.map rI), .list 1 (j16.2.1.map rI), .list 1 (j16.2.2.1.map rB)]], .arr b18 34 3 1 [[.list 1 (j16.2.2.2.1.map rI), .list 1 (j16.2.2.2.2.1.map rI), .list 1 (j16.2.2.2.2.2.map rB)]], .us v28 3 1 (j1124.map rI)]) [(4, _), (5, _), (6, _), (7, _), (9, _), (51, _), (52, _)] ⟨I, I, I, I, I, I, I, trivial⟩ ?_ ?_
 refine AW.block (AW.seqG (fun y1125 hy1125 => (AW.region (AO.m I I (AO.a I I (AO.nil ?_))))))
 subst hy1125
 refine AW.seqG (fun y1126 hy1126 => (AW.region (AO.m I I (AO.m I I (AO.p (Yp.indexE (m := k920) I I I I I I I (map_get hx924)) I (AO.d (Yd.loadE I I (y := .list 1 (x923.map rI)) I) I (AO.p (Yp.lenM I I I) I (AO.m I I (AO.nil ?_)))))))))
 subst hy1126
 refine AW.block (AW.listMax 58 I (fun hm1129 => ?_))
 replace hm1129 : x923.length ≤ 9223372036854775806 := by rw [List.length_map] at hm1129; omega
 obtain ⟨o1168, hL1169, hR1170⟩ := ob_some h
 clear h
 refine AW.forX hL1169 [(4, _), (5, _), (6, _), (7, _), (9, _), (11, _), (51, _), (52, _), (58, _), (59, _)] ⟨I, I, I, I, I, I, I, I, I, I, trivial⟩ (fun (k1127 : Nat) (st1156 : List Int) s ob => s = [(60, .v (.int .i64 (k1127 : Int)))] ∧ ob = [.arr b9 30 6 1 [[.list 1 (r7.1.Nodes.map rS), .list 7 (r7.1.Segments.map Segment.row), .list 3 (r7.1.Ports.map Port.row), .list 5 (r7.1.Stations.map Station.row), .v (.int .i64 r7.1.Vapour), .v (.int .i64 r7.1.Settle)]], .arr b17 34 3 1 [[.list 1 (j16.1.map rI), .list 1 (j16.2.1.map rI), .list 1 (j16.2.2.1.map rB)]], .arr b18 34 3 1 [[.list 1 (j16.2.2.2.1.map rI), .list 1 (j16.2.2.2.2.1.map rI), .list 1 (j16.2.2.2.2.2.map rB)]], .us v28 3 1 (st1156.map rI)]) ⟨I, I⟩ ⟨I, trivial⟩ ⟨[0, 1, 2, 3], I, by decide⟩ ?_ ?_
 rintro k1127 x1130 st1156 r1172 s ob hx1131 hk1128 ⟨rfl, rfl⟩ h hb1171
 unfold L.law22_SurgeGroups.B12 at h
 have hk1128t : decide ((k1127 : Int) < (x923.length : Int)) = true := by simp; omega
 refine AW.seqG (fun y1173 hy1173 => (AW.region (AO.p (Yp.cmpI (c := decide ((k1127 : Int) < (x923.length : Int))) I I I) I (AO.nil ?_))))
 subst hy1173
 refine AW.seqG (fun y1174 hy1174 => (AW.condK (v := true) I hk1128t (AW.skip ?_)))
 subst hy1174
 refine AW.seq (AW.block (AW.seqG (fun y1175 hy1175 => (AW.region (AO.p (Yp.indexE (m := k1127) I I I I I I I (map_get hx1131)) I (AO.d (Yd.loadE I I (y := .v (.int .i64 x1130)) I) I (AO.a I I (AO.nil ?_))))))))
 subst hy1175
 refine AW.seq (AW.cutX (fun s ob => ∃ (j1180 : Bool), L.law22_SurgeGroups.J13 k920 x1130 st1156 j1180 = some r1172 ∧ s = [(78, .v (.bool j1180))] ∧ ob = [.arr b9 30 6 1 [[.list 1 (r7.1.Nodes.map rS), .list 7 (r7.1.Segments.map Segment.row), .list 3 (r7.1.Ports.map Port.row), .list 5 (r7.1.Stations.map Station.row), .v (.int .i64 r7.1.Vapour), .v (.int .i64 r7.1.Settle)]], .arr b17 34 3 1 [[.list 1 (j16.1.map rI), .list 1 (j16.2.1.map rI), .list 1 (j16.2.2.1.map rB)]], .arr b18 34 3 1 [[.list 1 (j16.2.2.2.1.map rI), .list 1 (j16.2.2.2.2.1.map rI), .list 1 (j16.2.2.2.2.2.map rB)]], .us v28 3 1 (st1156.map rI)]) [(4, _), (5, _), (6, _), (7, _), (9, _), (11, _), (13, _), (51, _), (52, _), (58, _), (59, _), (60, _)] ⟨I, I, I, I, I, I, I, I, I, I, I, I, trivial⟩ ?_ ?_)
 rcases Bool.eq_false_or_eq_true (decide (x1130 < 0)) with hg1184 | hg1184
 replace h := ife_t hg1184 h
 refine AW.region (AO.m I I (AO.p (Yp.cmpI (c := decide (x1130 < 0)) I I I) I (AO.m I I (AO.known 66 I hg1184 (AO.gf I I I (AO.gf I I I (AO.gf I I I (AO.gf I I I (AO.p (Yp.pickT I I) I (AO.m I I (AO.gf I I I (AO.gf I I I ?_))))))))))))
 refine AO.gf I I I (AO.gf I I I (AO.gf I I I (AO.p (Yp.pickT I I) I (AO.nil ?_))))
 exact ⟨_, _, ⟨true, h, I, I⟩, ⟨I, I, I, I, I, I, I, I, I, I, I, I, I, trivial⟩, [0, 1, 2, 3], I, by decide⟩
 replace h := ife_f hg1184 h
 rcases Bool.eq_false_or_eq_true (decide (x1130 ≥ (st1156.length : Int))) with hg1185 | hg1185
 replace h := ife_t hg1185 h
 refine AW.region (AO.m I I (AO.p (Yp.cmpI (c := decide (x1130 < 0)) I I I) I (AO.m I I (AO.known 66 I hg1184 (AO.gt I I I (AO.m I I (AO.gt I I I (AO.m I I (AO.gt I I I (AO.d (Yd.lenUM 3 I I I I) I (AO.gt I I I (AO.p (Yp.cmpI (c := decide (x1130 ≥ (st1156.length : Int))) I I I) I ?_))))))))))))
 refine AO.p (Yp.pickF I I) I (AO.m I I (AO.known 72 I hg1185 (AO.gf I I I (AO.gf I I I (AO.gf I I I (AO.gf I I I (AO.gf I I I (AO.p (Yp.pickT I I) I (AO.nil ?_)))))))))
 exact ⟨_, _, ⟨true, h, I, I⟩, ⟨I, I, I, I, I, I, I, I, I, I, I, I, I, trivial⟩, [0, 1, 2, 3], I, by decide⟩
 replace h := ife_f hg1185 h
 obtain ⟨p1186, hp1187, h⟩ := ob_some h
 obtain ⟨hp1187i, hp1187x⟩ := ix_some hp1187
 refine AW.region (AO.m I I (AO.p (Yp.cmpI (c := decide (x1130 < 0)) I I I) I (AO.m I I (AO.known 66 I hg1184 (AO.gt I I I (AO.m I I (AO.gt I I I (AO.m I I (AO.gt I I I (AO.d (Yd.lenUM 3 I I I I) I (AO.gt I I I (AO.p (Yp.cmpI (c := decide (x1130 ≥ (st1156.length : Int))) I I I) I ?_))))))))))))
 refine AO.p (Yp.pickF I I) I (AO.m I I (AO.known 72 I hg1185 (AO.gt I I I (AO.m I I (AO.gt I I I (AO.m I I (AO.gt I I I (AO.d (Yd.indexU 3 (m := p1186.1) I I I I I I I hp1187i (map_get hp1187x)) I (AO.gt I I I (AO.d (Yd.loadU 3 p1186.1 0 I I I (map_get hp1187x) I (y := .v (.int .i64 p1186.2)) I) I (AO.gt I I I (AO.p (Yp.cmpI (c := decide (p1186.2 ≥ 0)) I I I) I ?_))))))))))))
 refine AO.p (Yp.pickF I I) I (AO.nil ?_)
 exact ⟨_, _, ⟨decide (p1186.2 ≥ 0), h, I, I⟩, ⟨I, I, I, I, I, I, I, I, I, I, I, I, I, trivial⟩, [0, 1, 2, 3], I, by decide⟩
 rintro s ob ⟨j1180, h, rfl, rfl⟩
 unfold L.law22_SurgeGroups.J13 at h
 refine AW.cond I I ?_ ?_
 intro hc1181
 replace h := ife_t hc1181 h
 refine AW.seq (AW.region (AO.a I I (AO.nil ?_)))
 obtain rfl := hb1171 _ (Option.some.inj h).symm
 replace h := hR1170
 replace h := se_r h
 obtain rfl := hb1075 _ (Option.some.inj h).symm
 replace h := hR1074
 replace h := se_r h
 refine AW.ghost (Ghost.pick [] (K := []) I (by decide)) ?_
 obtain rfl := Option.some.inj h
 refine AW.ret ?_
 exact ⟨.inr I, [_], [], ⟨I, trivial⟩, sl_n, ⟨I, I⟩⟩
 intro hc1181
 replace h := ife_f hc1181 h
 refine AW.skip ?_
 obtain ⟨p1182, hp1183, h⟩ := ob_some h
 obtain ⟨hp1183i, hp1183x⟩ := ix_some hp1183
 refine AW.region (AO.m I I (AO.m I I (AO.m I I (AO.d (Yd.indexU 3 (m := p1182.1) I I I I I I I hp1183i (map_get hp1183x)) I (AO.act [3] I (AX.storeU 3 p1182.1 0 I I I (map_get hp1183x) I I I I (le_ble I) I (us_set (x := (k920 : Int)) I) (AO.nil (AW.region (AO.p (Yp.binI (c := ((k1127 + 1 : Nat) : Int)) I I (cast_wr hk1128 hm1129)) I (AO.m I I ?_))))))))))
 obtain rfl := Option.some.inj h
 refine AO.nil ?_
 exact ⟨_, _, _, I, ⟨I, I⟩, ⟨I, I, I, I, I, I, I, I, I, I, I, trivial⟩, [0, 1, 2, 3], I, by decide⟩
 rintro st1156 s ob ⟨rfl, rfl⟩ he
 subst he
 have h := se_l hR1170
 have hk1128f : decide (((x923.length : Nat) : Int) < (x923.length : Int)) = false := by simp
 refine AW.seqG (fun y1188 hy1188 => (AW.region (AO.p (Yp.cmpI (c := decide (((x923.length : Nat) : Int) < (x923.length : Int))) I I I) I (AO.nil ?_))))
 subst hy1188
 refine AW.seqG (fun y1189 hy1189 => (AW.condK (v := false) I hk1128f (AW.exit ?_)))
 exact ⟨_, _, ⟨st1156, h, I, I⟩, ⟨I, I, I, I, I, I, I, trivial⟩, [0, 1, 2, 3], I, by decide⟩
 rintro s ob ⟨j1124, h, rfl, rfl⟩
 unfold L.law22_SurgeGroups.J11 at h
 refine AW.region (AO.p (Yp.binI (c := ((k920 + 1 : Nat) : Int)) I I (cast_wr hk921 hm922)) I (AO.m I I ?_))
 obtain rfl := Option.some.inj h
 refine AO.nil ?_
 exact ⟨_, _, _, I, ⟨I, I⟩, ⟨I, I, I, I, I, I, I, trivial⟩, [0, 1, 2, 3], I, by decide⟩
 rintro st1023 s ob ⟨rfl, rfl⟩ he
 subst he
 have h := se_l hR1074
 have hk921f : decide (((r20.1.length : Nat) : Int) < (r20.1.length : Int)) = false := by simp
 refine AW.seqG (fun y1191 hy1191 => (AW.region (AO.p (Yp.cmpI (c := decide (((r20.1.length : Nat) : Int) < (r20.1.length : Int))) I I I) I (AO.nil ?_))))
 subst hy1191
 refine AW.seqG (fun y1192 hy1192 => (AW.condK (v := false) I hk921f (AW.exit ?_)))
 exact ⟨_, _, ⟨st1023, h, I, I⟩, ⟨I, I, I, I, trivial⟩, [0, 1, 2, 3], I, by decide⟩
 rintro s ob ⟨j203, h, rfl, rfl⟩
 unfold L.law22_SurgeGroups.J3 at h
 refine AW.cutX (fun s ob => ∃ (j416 : Unit), L.law22_SurgeGroups.J4 j416 = some r ∧ s = [] ∧ ob = []) [] trivial ?_ ?_
 refine AW.seqG (fun y419 hy419 => (AW.region (AO.p (Yp.fieldPtr I I I I I I) I (AO.d (Yd.loadO 0 0 1 I I I I I (y := .list 7 (r7.1.Segments.map Segment.row)) I) I (AO.p (Yp.lenM I I I) I (AO.m I I (AO.nil ?_)))))))
 subst hy419
 refine AW.block (AW.listMax 86 I (fun hm422 => ?_))
 replace hm422 : r7.1.Segments.length ≤ 9223372036854775806 := by rw [List.length_map] at hm422; omega
 obtain ⟨o629, hL630, hR631⟩ := ob_some h
 clear h
 refine AW.forX hL630 [(4, _), (5, _), (6, _), (9, _), (86, _), (87, _)] ⟨I, I, I, I, I, I, trivial⟩ (fun (k420 : Nat) (st527 : Unit) s ob => s = [(88, .v (.int .i64 (k420 : Int)))] ∧ ob = [.arr b9 30 6 1 [[.list 1 (r7.1.Nodes.map rS), .list 7 (r7.1.Segments.map Segment.row), .list 3 (r7.1.Ports.map Port.row), .list 5 (r7.1.Stations.map Station.row), .v (.int .i64 r7.1.Vapour), .v (.int .i64 r7.1.Settle)]], .arr b17 34 3 1 [[.list 1 (j16.1.map rI), .list 1 (j16.2.1.map rI), .list 1 (j16.2.2.1.map rB)]], .arr b18 34 3 1 [[.list 1 (j16.2.2.2.1.map rI), .list 1 (j16.2.2.2.2.1.map rI), .list 1 (j16.2.2.2.2.2.map rB)]], .us v28 3 1 (j203.map rI)]) ⟨I, I⟩ ⟨I, trivial⟩ ⟨[0, 1, 2, 3], I, by decide⟩ ?_ ?_
 rintro k420 x423 st527 r633 s ob hx424 hk421 ⟨rfl, rfl⟩ h hb632
 unfold L.law22_SurgeGroups.B5 at h
 have hk421t : decide ((k420 : Int) < (r7.1.Segments.length : Int)) = true := by simp; omega
 refine AW.seqG (fun y634 hy634 => (AW.region (AO.p (Yp.cmpI (c := decide ((k420 : Int) < (r7.1.Segments.length : Int))) I I I) I (AO.nil ?_))))
 subst hy634
 refine AW.seqG (fun y635 hy635 => (AW.condK (v := true) I hk421t (AW.skip ?_)))
 subst hy635
 refine AW.cutX (fun s ob => ∃ (j734 : Unit), L.law22_SurgeGroups.J6 j734 = some r633 ∧ s = [] ∧ ob = [.arr b9 30 6 1 [[.list 1 (r7.1.Nodes.map rS), .list 7 (r7.1.Segments.map Segment.row), .list 3 (r7.1.Ports.map Port.row), .list 5 (r7.1.Stations.map Station.row), .v (.int .i64 r7.1.Vapour), .v (.int .i64 r7.1.Settle)]], .arr b17 34 3 1 [[.list 1 (j16.1.map rI), .list 1 (j16.2.1.map rI), .list 1 (j16.2.2.1.map rB)]], .arr b18 34 3 1 [[.list 1 (j16.2.2.2.1.map rI), .list 1 (j16.2.2.2.2.1.map rI), .list 1 (j16.2.2.2.2.2.map rB)]], .us v28 3 1 (j203.map rI)]) [(4, _), (5, _), (6, _), (9, _), (86, _), (87, _), (88, _)] ⟨I, I, I, I, I, I, I, trivial⟩ ?_ ?_
 refine AW.block (AW.seqG (fun y735 hy735 => (AW.region (AO.m I I (AO.p (Yp.indexE (m := k420) I I I I I I I (map_get hx424)) I (AO.d (Yd.loadE I I (y := .agg (Segment.row x423)) I) I (AO.act [] I (AX.alloc (cs := [.v (.string ⟨#[]⟩), .v (.int .i64 0), .v (.int .i64 0), .v (.int .i64 0), .v (.int .i64 0), .v (.int .i64 0), .v (.slice none 0 0)]) (m := 7) I I I I I (dst_some I) (fun b736 => (AO.a I I (AO.act [4] I (AX.store 4 0 0 (es' := [[.v (.string x423.Name), .v (.int .i64 x423.From), .v (.int .i64 x423.To), .v (.int .i64 x423.Capacity), .v (.int .i64 x423.Resist), .v (.int .i64 x423.Wave), .list 3 (x423.Points.map Point.row)]]) I I I I I I I I (le_ble I) I I (AO.nil ?_)))))))))))))
 subst hy735
 refine AW.seqG (fun y737 hy737 => (AW.cutX (fun s ob => ∃ (j747 : Bool), L.law22_SurgeGroups.J7 r7 j203 k420 x423 j747 = some r633 ∧ s = [(112, .v (.bool j747))] ∧ ob = [.arr b9 30 6 1 [[.list 1 (r7.1.Nodes.map rS), .list 7 (r7.1.Segments.map Segment.row), .list 3 (r7.1.Ports.map Port.row), .list 5 (r7.1.Stations.map Station.row), .v (.int .i64 r7.1.Vapour), .v (.int .i64 r7.1.Settle)]], .arr b17 34 3 1 [[.list 1 (j16.1.map rI), .list 1 (j16.2.1.map rI), .list 1 (j16.2.2.1.map rB)]], .arr b18 34 3 1 [[.list 1 (j16.2.2.2.1.map rI), .list 1 (j16.2.2.2.2.1.map rI), .list 1 (j16.2.2.2.2.2.map rB)]], .us v28 3 1 (j203.map rI), .arr b736 42 7 1 [[.v (.string x423.Name), .v (.int .i64 x423.From), .v (.int .i64 x423.To), .v (.int .i64 x423.Capacity), .v (.int .i64 x423.Resist), .v (.int .i64 x423.Wave), .list 3 (x423.Points.map Point.row)]]]) [(4, _), (5, _), (6, _), (9, _), (14, _), (15, _), (86, _), (87, _), (88, _)] ⟨I, I, I, I, I, I, I, I, I, trivial⟩ ?_ ?_))
 obtain ⟨p907, hp908, h⟩ := ob_some h
 obtain ⟨hp908i, hp908x⟩ := ix_some hp908
 obtain ⟨p909, hp910, h⟩ := ob_some h
 obtain ⟨hp910i, hp910x⟩ := ix_some hp910
 rcases Bool.eq_false_or_eq_true ((p909.2 != 0)) with hg911 | hg911
 replace h := ife_t hg911 h
 refine AW.form 3 p907.1 I hp908x (fun hf912 => (AW.regionD (.still 0 (.still 1 (.still 2 (.still 3 (.still 4 (.still 5 (.still 6 (.still 7 (.still 8 (.still 9 (.still 10 (.still 11 (.still 12 (.still 13 (.still 14 (.still 15 (.still 16 (.still 17 (.still 18 (.still 19 .nil)))))))))))))))))))) [3, 1] [_, _] (by kernel_rfl) I (AP.op I (Yp.move I) I (AP.op I (Yp.move I) I (AP.op I (Yp.indexUf (m := p907.1) I I I I I hf912 I hp908i hp908x) I (AP.o I (Yd.loadU 0 p907.1 0 I I I (map_get hp908x) I (y := .v (.int .i64 p907.2)) I) I (AP.op I (Yp.cmpI (c := decide (p907.2 ≥ 0)) I I I) I (AP.op I (Yp.fieldPtr I I I I I I) I (AP.o I (Yd.loadO 1 0 0 I I I I I (y := .list 1 (j16.1.map rI)) I) I (AP.op I (Yp.move I) I (AP.op I (Yp.indexE (m := p909.1) I I I I I I hp910i (map_get hp910x)) I (AP.o I (Yd.loadE I I (y := .v (.int .i64 p909.2)) I) I (AP.op I (Yp.cmpI (c := (p909.2 != 0)) I I I) I ?_)))))))))))))
 refine AP.op I (Yp.move I) I (AP.known 104 I hg911 (AP.skip I I I I I (dst_some I) (AP.skip I I I I I (dst_some I) (AP.skip I I I I I (dst_some I) (AP.skip I I I I I (dst_some I) (AP.skip I I I I I (dst_some I) (AP.skip I I I I I (dst_some I) (AP.p I (Yp.pickT I I) I (AP.p I (Yp.neqB I I I I) I (AP.ofAO (AO.nil ?_)))))))))))
 exact ⟨_, _, ⟨(decide (p907.2 ≥ 0) != true), h, I, I⟩, ⟨I, I, I, I, I, I, I, I, I, I, trivial⟩, [0, 1, 2, 3, 4], I, by decide⟩
 replace h := ife_f hg911 h
 obtain ⟨p913, hp914, h⟩ := ob_some h
 obtain ⟨hp914i, hp914x⟩ := ix_some hp914
 refine AW.form 3 p907.1 I hp908x (fun hf915 => (AW.regionD (.still 0 (.still 1 (.still 2 (.still 3 (.still 4 (.still 5 (.still 6 (.still 7 (.still 8 (.still 9 (.still 10 (.still 11 (.still 12 (.still 13 (.still 14 (.still 15 (.still 16 (.still 17 (.still 18 (.still 19 .nil)))))))))))))))))))) [3, 1, 2] [_, _, _] (by kernel_rfl) I (AP.op I (Yp.move I) I (AP.op I (Yp.move I) I (AP.op I (Yp.indexUf (m := p907.1) I I I I I hf915 I hp908i hp908x) I (AP.o I (Yd.loadU 0 p907.1 0 I I I (map_get hp908x) I (y := .v (.int .i64 p907.2)) I) I (AP.op I (Yp.cmpI (c := decide (p907.2 ≥ 0)) I I I) I (AP.op I (Yp.fieldPtr I I I I I I) I (AP.o I (Yd.loadO 1 0 0 I I I I I (y := .list 1 (j16.1.map rI)) I) I (AP.op I (Yp.move I) I (AP.op I (Yp.indexE (m := p909.1) I I I I I I hp910i (map_get hp910x)) I (AP.o I (Yd.loadE I I (y := .v (.int .i64 p909.2)) I) I (AP.op I (Yp.cmpI (c := (p909.2 != 0)) I I I) I ?_)))))))))))))
 refine AP.op I (Yp.move I) I (AP.known 104 I hg911 (AP.oldG I I I I ((Yp.fieldPtr I I I I I I).yd) (dst_some I) (AP.oldG I I I I (Yd.loadO 2 0 0 I I I I I (y := .list 1 (j16.2.2.2.1.map rI)) I) (dst_some I) (AP.oldG I I I I ((Yp.move I).yd) (dst_some I) (AP.oldG I I I I ((Yp.indexE (m := p913.1) I I I I I I hp914i (map_get hp914x)).yd) (dst_some I) (AP.oldG I I I I (Yd.loadE I I (y := .v (.int .i64 p913.2)) I) (dst_some I) (AP.oldG I I I I ((Yp.cmpI (c := (p913.2 != 0)) I I I).yd) (dst_some I) (AP.p I (Yp.pickF I I) I (AP.p I (Yp.neqB I I I I) I (AP.ofAO (AO.nil ?_)))))))))))
 exact ⟨_, _, ⟨(decide (p907.2 ≥ 0) != (p913.2 != 0)), h, I, I⟩, ⟨I, I, I, I, I, I, I, I, I, I, trivial⟩, [0, 1, 2, 3, 4], I, by decide⟩
 rintro s ob ⟨j747, h, rfl, rfl⟩
 unfold L.law22_SurgeGroups.J7 at h
 refine AW.cond I I ?_ ?_
 intro hc748
 replace h := ife_t hc748 h
 refine AW.seq (AW.region (AO.a I I (AO.nil ?_)))
 obtain rfl := hb632 _ (Option.some.inj h).symm
 replace h := hR631
 replace h := se_r h
 refine AW.ghost (Ghost.pick [] (K := []) I (by decide)) ?_
 obtain rfl := Option.some.inj h
 refine AW.ret ?_
 exact ⟨.inr I, [_], [], ⟨I, trivial⟩, sl_n, ⟨I, I⟩⟩
 intro hc748
 replace h := ife_f hc748 h
 refine AW.skip ?_
 subst hy737
 refine AW.seqG (fun y749 hy749 => (AW.region (AO.p (Yp.fieldPtr I I I I I I) I (AO.d (Yd.loadO 0 0 1 I I I I I (y := .list 7 (r7.1.Segments.map Segment.row)) I) I (AO.p (Yp.lenM I I I) I (AO.m I I (AO.nil ?_)))))))
 subst hy749
 refine AW.block (AW.listMax 114 I (fun hm752 => ?_))
 replace hm752 : r7.1.Segments.length ≤ 9223372036854775806 := by rw [List.length_map] at hm752; omega
 obtain ⟨o831, hL832, hR833⟩ := ob_some h
 clear h
 refine AW.forX hL832 [(4, _), (5, _), (6, _), (9, _), (14, _), (15, _), (86, _), (87, _), (88, _), (114, _), (115, _)] ⟨I, I, I, I, I, I, I, I, I, I, I, trivial⟩ (fun (k750 : Nat) (st793 : Unit) s ob => s = [(116, .v (.int .i64 (k750 : Int)))] ∧ ob = [.arr b9 30 6 1 [[.list 1 (r7.1.Nodes.map rS), .list 7 (r7.1.Segments.map Segment.row), .list 3 (r7.1.Ports.map Port.row), .list 5 (r7.1.Stations.map Station.row), .v (.int .i64 r7.1.Vapour), .v (.int .i64 r7.1.Settle)]], .arr b17 34 3 1 [[.list 1 (j16.1.map rI), .list 1 (j16.2.1.map rI), .list 1 (j16.2.2.1.map rB)]], .arr b18 34 3 1 [[.list 1 (j16.2.2.2.1.map rI), .list 1 (j16.2.2.2.2.1.map rI), .list 1 (j16.2.2.2.2.2.map rB)]], .us v28 3 1 (j203.map rI), .arr b736 42 7 1 [[.v (.string x423.Name), .v (.int .i64 x423.From), .v (.int .i64 x423.To), .v (.int .i64 x423.Capacity), .v (.int .i64 x423.Resist), .v (.int .i64 x423.Wave), .list 3 (x423.Points.map Point.row)]]]) ⟨I, I⟩ ⟨I, trivial⟩ ⟨[0, 1, 2, 3, 4], I, by decide⟩ ?_ ?_
 rintro k750 x753 st793 r835 s ob hx754 hk751 ⟨rfl, rfl⟩ h hb834
 unfold L.law22_SurgeGroups.B8 at h
 have hk751t : decide ((k750 : Int) < (r7.1.Segments.length : Int)) = true := by simp; omega
 refine AW.seqG (fun y836 hy836 => (AW.region (AO.p (Yp.cmpI (c := decide ((k750 : Int) < (r7.1.Segments.length : Int))) I I I) I (AO.nil ?_))))
 subst hy836
 refine AW.seqG (fun y837 hy837 => (AW.condK (v := true) I hk751t (AW.skip ?_)))
 subst hy837
 refine AW.seq (AW.block (AW.seqG (fun y838 hy838 => (AW.region (AO.m I I (AO.p (Yp.indexE (m := k750) I I I I I I I (map_get hx754)) I (AO.d (Yd.loadE I I (y := .agg (Segment.row x753)) I) I (AO.act [] I (AX.alloc (cs := [.v (.string ⟨#[]⟩), .v (.int .i64 0), .v (.int .i64 0), .v (.int .i64 0), .v (.int .i64 0), .v (.int .i64 0), .v (.slice none 0 0)]) (m := 7) I I I I I (dst_some I) (fun b839 => (AO.a I I (AO.act [5] I (AX.store 5 0 0 (es' := [[.v (.string x753.Name), .v (.int .i64 x753.From), .v (.int .i64 x753.To), .v (.int .i64 x753.Capacity), .v (.int .i64 x753.Resist), .v (.int .i64 x753.Wave), .list 3 (x753.Points.map Point.row)]]) I I I I I I I I (le_ble I) I I (AO.nil ?_))))))))))))))
 subst hy838
 refine AW.cutX (fun s ob => ∃ (j871 : Bool), L.law22_SurgeGroups.J9 j871 = some r835 ∧ s = [(171, .v (.bool j871))] ∧ ob = [.arr b9 30 6 1 [[.list 1 (r7.1.Nodes.map rS), .list 7 (r7.1.Segments.map Segment.row), .list 3 (r7.1.Ports.map Port.row), .list 5 (r7.1.Stations.map Station.row), .v (.int .i64 r7.1.Vapour), .v (.int .i64 r7.1.Settle)]], .arr b17 34 3 1 [[.list 1 (j16.1.map rI), .list 1 (j16.2.1.map rI), .list 1 (j16.2.2.1.map rB)]], .arr b18 34 3 1 [[.list 1 (j16.2.2.2.1.map rI), .list 1 (j16.2.2.2.2.1.map rI), .list 1 (j16.2.2.2.2.2.map rB)]], .us v28 3 1 (j203.map rI), .arr b736 42 7 1 [[.v (.string x423.Name), .v (.int .i64 x423.From), .v (.int .i64 x423.To), .v (.int .i64 x423.Capacity), .v (.int .i64 x423.Resist), .v (.int .i64 x423.Wave), .list 3 (x423.Points.map Point.row)]]]) [(4, _), (5, _), (6, _), (9, _), (14, _), (15, _), (86, _), (87, _), (88, _), (114, _), (115, _), (116, _)] ⟨I, I, I, I, I, I, I, I, I, I, I, I, trivial⟩ ?_ ?_
 obtain ⟨p873, hp874, h⟩ := ob_some h
 obtain ⟨hp874i, hp874x⟩ := ix_some hp874
 rcases Bool.eq_false_or_eq_true (decide (p873.2 ≥ 0)) with hg875 | hg875
 replace h := ife_t hg875 h
 obtain ⟨p876, hp877, h⟩ := ob_some h
 obtain ⟨hp877i, hp877x⟩ := ix_some hp877
 rcases Bool.eq_false_or_eq_true (decide (p876.2 ≥ 0)) with hg878 | hg878
 replace h := ife_t hg878 h
 rcases Bool.eq_false_or_eq_true ((x423.From == x753.From)) with hg879 | hg879
 replace h := ife_t hg879 h
 refine AW.form 3 p873.1 I hp874x (fun hf880 => (AW.form 3 p876.1 I hp877x (fun hf881 => (AW.form 3 p873.1 I hp874x (fun hf882 => (AW.form 3 p876.1 I hp877x (fun hf883 => (AW.regionD (.still 0 (.still 1 (.still 2 (.still 3 (.still 4 (.still 5 (.still 6 (.still 7 (.still 8 (.still 9 (.still 10 (.still 11 (.still 12 (.still 13 (.still 14 (.still 15 (.still 16 (.still 17 (.still 18 (.still 19 (.still 20 (.still 21 (.still 22 (.still 23 (.still 24 (.still 25 (.still 26 (.still 27 (.still 28 (.still 29 (.still 30 (.still 31 (.still 32 (.still 33 (.still 34 (.still 35 (.still 36 (.still 37 (.still 38 (.still 39 (.still 40 (.still 41 (.still 42 (.still 43 (.still 44 (.still 45 (.still 46 (.still 47 (.still 48 (.still 49 (.still 50 .nil))))))))))))))))))))))))))))))))))))))))))))))))))) [3, 4, 5] [_, _, _] (by kernel_rfl) I (AP.op I (Yp.move I) I (AP.op I (Yp.move I) I (AP.op I (Yp.indexUf (m := p873.1) I I I I I hf880 I hp874i hp874x) I (AP.o I (Yd.loadU 0 p873.1 0 I I I (map_get hp874x) I (y := .v (.int .i64 p873.2)) I) I (AP.op I (Yp.cmpI (c := decide (p873.2 ≥ 0)) I I I) I (AP.op I (Yp.move I) I (AP.known 126 I hg875 (AP.oldG I I I I ((Yp.move I).yd) (dst_some I) ?_))))))))))))))))
 refine AP.oldG I I I I ((Yp.move I).yd) (dst_some I) (AP.oldG I I I I ((Yp.indexUf (m := p876.1) I I I I I hf881 I hp877i hp877x).yd) (dst_some I) (AP.oldG I I I I (Yd.loadU 0 p876.1 0 I I I (map_get hp877x) I (y := .v (.int .i64 p876.2)) I) (dst_some I) (AP.oldG I I I I ((Yp.cmpI (c := decide (p876.2 ≥ 0)) I I I).yd) (dst_some I) (AP.p I (Yp.pickT I I) I (AP.p I (Yp.move I) I (AP.known 133 I hg878 (AP.oldG I I I I ((Yp.fieldPtr I I I I I I).yd) (dst_some I) (AP.oldG I I I I (Yd.loadO 1 0 1 I I I I I (y := .v (.int .i64 x423.From)) I) (dst_some I) (AP.oldG I I I I ((Yp.fieldPtr I I I I I I).yd) (dst_some I) (AP.oldG I I I I (Yd.loadO 2 0 1 I I I I I (y := .v (.int .i64 x753.From)) I) (dst_some I) (AP.oldG I I I I ((Yp.cmpI (c := (x423.From == x753.From)) I I I).yd) (dst_some I) (AP.oldG I I I I ((Yp.move I).yd) (dst_some I) ?_))))))))))))
 refine AP.known 139 I hg879 (AP.skip I I I I I (dst_some I) (AP.skip I I I I I (dst_some I) (AP.skip I I I I I (dst_some I) (AP.skip I I I I I (dst_some I) (AP.skip I I I I I (dst_some I) (AP.newG I I I I (Yp.pickT I I) (dst_some I) (AP.newG I I I I (Yp.move I) (dst_some I) (AP.skip I I I I I (dst_some I) (AP.skip I I I I I (dst_some I) (AP.skip I I I I I (dst_some I) (AP.skip I I I I I (dst_some I) (AP.skip I I I I I (dst_some I) ?_))))))))))))
 refine AP.newG I I I I (Yp.pickT I I) (dst_some I) (AP.newG I I I I (Yp.move I) (dst_some I) (AP.skip I I I I I (dst_some I) (AP.skip I I I I I (dst_some I) (AP.skip I I I I I (dst_some I) (AP.skip I I I I I (dst_some I) (AP.skip I I I I I (dst_some I) (AP.newG I I I I (Yp.pickT I I) (dst_some I) (AP.p I (Yp.pickT I I) I (AP.p I (Yp.move I) I (AP.oldG I I I I ((Yp.move I).yd) (dst_some I) (AP.oldG I I I I ((Yp.move I).yd) (dst_some I) (AP.oldG I I I I ((Yp.indexUf (m := p873.1) I I I I I hf882 I hp874i hp874x).yd) (dst_some I) ?_))))))))))))
 refine AP.oldG I I I I (Yd.loadU 0 p873.1 0 I I I (map_get hp874x) I (y := .v (.int .i64 p873.2)) I) (dst_some I) (AP.oldG I I I I ((Yp.move I).yd) (dst_some I) (AP.oldG I I I I ((Yp.move I).yd) (dst_some I) (AP.oldG I I I I ((Yp.indexUf (m := p876.1) I I I I I hf883 I hp877i hp877x).yd) (dst_some I) (AP.oldG I I I I (Yd.loadU 0 p876.1 0 I I I (map_get hp877x) I (y := .v (.int .i64 p876.2)) I) (dst_some I) (AP.oldG I I I I ((Yp.cmpI (c := (p873.2 != p876.2)) I I I).yd) (dst_some I) (AP.p I (Yp.pickT I I) I (AP.ofAO (AO.nil ?_))))))))
 exact ⟨_, _, ⟨(p873.2 != p876.2), h, I, I⟩, ⟨I, I, I, I, I, I, I, I, I, I, I, I, I, trivial⟩, [0, 1, 2, 3, 4], I, by decide⟩
 replace h := ife_f hg879 h
 rcases Bool.eq_false_or_eq_true ((x423.From == x753.To)) with hg884 | hg884
 replace h := ife_t hg884 h
 refine AW.form 3 p873.1 I hp874x (fun hf885 => (AW.form 3 p876.1 I hp877x (fun hf886 => (AW.form 3 p873.1 I hp874x (fun hf887 => (AW.form 3 p876.1 I hp877x (fun hf888 => (AW.regionD (.still 0 (.still 1 (.still 2 (.still 3 (.still 4 (.still 5 (.still 6 (.still 7 (.still 8 (.still 9 (.still 10 (.still 11 (.still 12 (.still 13 (.still 14 (.still 15 (.still 16 (.still 17 (.still 18 (.still 19 (.still 20 (.still 21 (.still 22 (.still 23 (.still 24 (.still 25 (.still 26 (.still 27 (.still 28 (.still 29 (.still 30 (.still 31 (.still 32 (.still 33 (.still 34 (.still 35 (.still 36 (.still 37 (.still 38 (.still 39 (.still 40 (.still 41 (.still 42 (.still 43 (.still 44 (.still 45 (.still 46 (.still 47 (.still 48 (.still 49 (.still 50 .nil))))))))))))))))))))))))))))))))))))))))))))))))))) [3, 4, 5] [_, _, _] (by kernel_rfl) I (AP.op I (Yp.move I) I (AP.op I (Yp.move I) I (AP.op I (Yp.indexUf (m := p873.1) I I I I I hf885 I hp874i hp874x) I (AP.o I (Yd.loadU 0 p873.1 0 I I I (map_get hp874x) I (y := .v (.int .i64 p873.2)) I) I (AP.op I (Yp.cmpI (c := decide (p873.2 ≥ 0)) I I I) I (AP.op I (Yp.move I) I (AP.known 126 I hg875 (AP.oldG I I I I ((Yp.move I).yd) (dst_some I) ?_))))))))))))))))
 refine AP.oldG I I I I ((Yp.move I).yd) (dst_some I) (AP.oldG I I I I ((Yp.indexUf (m := p876.1) I I I I I hf886 I hp877i hp877x).yd) (dst_some I) (AP.oldG I I I I (Yd.loadU 0 p876.1 0 I I I (map_get hp877x) I (y := .v (.int .i64 p876.2)) I) (dst_some I) (AP.oldG I I I I ((Yp.cmpI (c := decide (p876.2 ≥ 0)) I I I).yd) (dst_some I) (AP.p I (Yp.pickT I I) I (AP.p I (Yp.move I) I (AP.known 133 I hg878 (AP.oldG I I I I ((Yp.fieldPtr I I I I I I).yd) (dst_some I) (AP.oldG I I I I (Yd.loadO 1 0 1 I I I I I (y := .v (.int .i64 x423.From)) I) (dst_some I) (AP.oldG I I I I ((Yp.fieldPtr I I I I I I).yd) (dst_some I) (AP.oldG I I I I (Yd.loadO 2 0 1 I I I I I (y := .v (.int .i64 x753.From)) I) (dst_some I) (AP.oldG I I I I ((Yp.cmpI (c := (x423.From == x753.From)) I I I).yd) (dst_some I) (AP.oldG I I I I ((Yp.move I).yd) (dst_some I) ?_))))))))))))
 refine AP.known 139 I hg879 (AP.oldG I I I I ((Yp.fieldPtr I I I I I I).yd) (dst_some I) (AP.oldG I I I I (Yd.loadO 1 0 1 I I I I I (y := .v (.int .i64 x423.From)) I) (dst_some I) (AP.oldG I I I I ((Yp.fieldPtr I I I I I I).yd) (dst_some I) (AP.oldG I I I I (Yd.loadO 2 0 2 I I I I I (y := .v (.int .i64 x753.To)) I) (dst_some I) (AP.oldG I I I I ((Yp.cmpI (c := (x423.From == x753.To)) I I I).yd) (dst_some I) (AP.newG I I I I (Yp.pickF I I) (dst_some I) (AP.newG I I I I (Yp.move I) (dst_some I) (AP.known 146 I hg884 (AP.skip I I I I I (dst_some I) (AP.skip I I I I I (dst_some I) (AP.skip I I I I I (dst_some I) (AP.skip I I I I I (dst_some I) ?_))))))))))))
 refine AP.skip I I I I I (dst_some I) (AP.newG I I I I (Yp.pickT I I) (dst_some I) (AP.newG I I I I (Yp.move I) (dst_some I) (AP.skip I I I I I (dst_some I) (AP.skip I I I I I (dst_some I) (AP.skip I I I I I (dst_some I) (AP.skip I I I I I (dst_some I) (AP.skip I I I I I (dst_some I) (AP.newG I I I I (Yp.pickT I I) (dst_some I) (AP.p I (Yp.pickT I I) I (AP.p I (Yp.move I) I (AP.oldG I I I I ((Yp.move I).yd) (dst_some I) (AP.oldG I I I I ((Yp.move I).yd) (dst_some I) ?_))))))))))))
 refine AP.oldG I I I I ((Yp.indexUf (m := p873.1) I I I I I hf887 I hp874i hp874x).yd) (dst_some I) (AP.oldG I I I I (Yd.loadU 0 p873.1 0 I I I (map_get hp874x) I (y := .v (.int .i64 p873.2)) I) (dst_some I) (AP.oldG I I I I ((Yp.move I).yd) (dst_some I) (AP.oldG I I I I ((Yp.move I).yd) (dst_some I) (AP.oldG I I I I ((Yp.indexUf (m := p876.1) I I I I I hf888 I hp877i hp877x).yd) (dst_some I) (AP.oldG I I I I (Yd.loadU 0 p876.1 0 I I I (map_get hp877x) I (y := .v (.int .i64 p876.2)) I) (dst_some I) (AP.oldG I I I I ((Yp.cmpI (c := (p873.2 != p876.2)) I I I).yd) (dst_some I) (AP.p I (Yp.pickT I I) I (AP.ofAO (AO.nil ?_)))))))))
 exact ⟨_, _, ⟨(p873.2 != p876.2), h, I, I⟩, ⟨I, I, I, I, I, I, I, I, I, I, I, I, I, trivial⟩, [0, 1, 2, 3, 4], I, by decide⟩
 replace h := ife_f hg884 h
 rcases Bool.eq_false_or_eq_true ((x423.To == x753.From)) with hg889 | hg889
 replace h := ife_t hg889 h
 refine AW.form 3 p873.1 I hp874x (fun hf890 => (AW.form 3 p876.1 I hp877x (fun hf891 => (AW.form 3 p873.1 I hp874x (fun hf892 => (AW.form 3 p876.1 I hp877x (fun hf893 => (AW.regionD (.still 0 (.still 1 (.still 2 (.still 3 (.still 4 (.still 5 (.still 6 (.still 7 (.still 8 (.still 9 (.still 10 (.still 11 (.still 12 (.still 13 (.still 14 (.still 15 (.still 16 (.still 17 (.still 18 (.still 19 (.still 20 (.still 21 (.still 22 (.still 23 (.still 24 (.still 25 (.still 26 (.still 27 (.still 28 (.still 29 (.still 30 (.still 31 (.still 32 (.still 33 (.still 34 (.still 35 (.still 36 (.still 37 (.still 38 (.still 39 (.still 40 (.still 41 (.still 42 (.still 43 (.still 44 (.still 45 (.still 46 (.still 47 (.still 48 (.still 49 (.still 50 .nil))))))))))))))))))))))))))))))))))))))))))))))))))) [3, 4, 5] [_, _, _] (by kernel_rfl) I (AP.op I (Yp.move I) I (AP.op I (Yp.move I) I (AP.op I (Yp.indexUf (m := p873.1) I I I I I hf890 I hp874i hp874x) I (AP.o I (Yd.loadU 0 p873.1 0 I I I (map_get hp874x) I (y := .v (.int .i64 p873.2)) I) I (AP.op I (Yp.cmpI (c := decide (p873.2 ≥ 0)) I I I) I (AP.op I (Yp.move I) I (AP.known 126 I hg875 (AP.oldG I I I I ((Yp.move I).yd) (dst_some I) ?_))))))))))))))))
 refine AP.oldG I I I I ((Yp.move I).yd) (dst_some I) (AP.oldG I I I I ((Yp.indexUf (m := p876.1) I I I I I hf891 I hp877i hp877x).yd) (dst_some I) (AP.oldG I I I I (Yd.loadU 0 p876.1 0 I I I (map_get hp877x) I (y := .v (.int .i64 p876.2)) I) (dst_some I) (AP.oldG I I I I ((Yp.cmpI (c := decide (p876.2 ≥ 0)) I I I).yd) (dst_some I) (AP.p I (Yp.pickT I I) I (AP.p I (Yp.move I) I (AP.known 133 I hg878 (AP.oldG I I I I ((Yp.fieldPtr I I I I I I).yd) (dst_some I) (AP.oldG I I I I (Yd.loadO 1 0 1 I I I I I (y := .v (.int .i64 x423.From)) I) (dst_some I) (AP.oldG I I I I ((Yp.fieldPtr I I I I I I).yd) (dst_some I) (AP.oldG I I I I (Yd.loadO 2 0 1 I I I I I (y := .v (.int .i64 x753.From)) I) (dst_some I) (AP.oldG I I I I ((Yp.cmpI (c := (x423.From == x753.From)) I I I).yd) (dst_some I) (AP.oldG I I I I ((Yp.move I).yd) (dst_some I) ?_))))))))))))
 refine AP.known 139 I hg879 (AP.oldG I I I I ((Yp.fieldPtr I I I I I I).yd) (dst_some I) (AP.oldG I I I I (Yd.loadO 1 0 1 I I I I I (y := .v (.int .i64 x423.From)) I) (dst_some I) (AP.oldG I I I I ((Yp.fieldPtr I I I I I I).yd) (dst_some I) (AP.oldG I I I I (Yd.loadO 2 0 2 I I I I I (y := .v (.int .i64 x753.To)) I) (dst_some I) (AP.oldG I I I I ((Yp.cmpI (c := (x423.From == x753.To)) I I I).yd) (dst_some I) (AP.newG I I I I (Yp.pickF I I) (dst_some I) (AP.newG I I I I (Yp.move I) (dst_some I) (AP.known 146 I hg884 (AP.oldG I I I I ((Yp.fieldPtr I I I I I I).yd) (dst_some I) (AP.oldG I I I I (Yd.loadO 1 0 2 I I I I I (y := .v (.int .i64 x423.To)) I) (dst_some I) (AP.oldG I I I I ((Yp.fieldPtr I I I I I I).yd) (dst_some I) (AP.oldG I I I I (Yd.loadO 2 0 1 I I I I I (y := .v (.int .i64 x753.From)) I) (dst_some I) ?_))))))))))))
 refine AP.oldG I I I I ((Yp.cmpI (c := (x423.To == x753.From)) I I I).yd) (dst_some I) (AP.newG I I I I (Yp.pickF I I) (dst_some I) (AP.newG I I I I (Yp.move I) (dst_some I) (AP.known 153 I hg889 (AP.skip I I I I I (dst_some I) (AP.skip I I I I I (dst_some I) (AP.skip I I I I I (dst_some I) (AP.skip I I I I I (dst_some I) (AP.skip I I I I I (dst_some I) (AP.newG I I I I (Yp.pickT I I) (dst_some I) (AP.p I (Yp.pickT I I) I (AP.p I (Yp.move I) I (AP.oldG I I I I ((Yp.move I).yd) (dst_some I) ?_))))))))))))
 refine AP.oldG I I I I ((Yp.move I).yd) (dst_some I) (AP.oldG I I I I ((Yp.indexUf (m := p873.1) I I I I I hf892 I hp874i hp874x).yd) (dst_some I) (AP.oldG I I I I (Yd.loadU 0 p873.1 0 I I I (map_get hp874x) I (y := .v (.int .i64 p873.2)) I) (dst_some I) (AP.oldG I I I I ((Yp.move I).yd) (dst_some I) (AP.oldG I I I I ((Yp.move I).yd) (dst_some I) (AP.oldG I I I I ((Yp.indexUf (m := p876.1) I I I I I hf893 I hp877i hp877x).yd) (dst_some I) (AP.oldG I I I I (Yd.loadU 0 p876.1 0 I I I (map_get hp877x) I (y := .v (.int .i64 p876.2)) I) (dst_some I) (AP.oldG I I I I ((Yp.cmpI (c := (p873.2 != p876.2)) I I I).yd) (dst_some I) (AP.p I (Yp.pickT I I) I (AP.ofAO (AO.nil ?_))))))))))
 exact ⟨_, _, ⟨(p873.2 != p876.2), h, I, I⟩, ⟨I, I, I, I, I, I, I, I, I, I, I, I, I, trivial⟩, [0, 1, 2, 3, 4], I, by decide⟩
 replace h := ife_f hg889 h
 rcases Bool.eq_false_or_eq_true ((x423.To == x753.To)) with hg894 | hg894
 replace h := ife_t hg894 h
 refine AW.form 3 p873.1 I hp874x (fun hf895 => (AW.form 3 p876.1 I hp877x (fun hf896 => (AW.form 3 p873.1 I hp874x (fun hf897 => (AW.form 3 p876.1 I hp877x (fun hf898 => (AW.regionD (.still 0 (.still 1 (.still 2 (.still 3 (.still 4 (.still 5 (.still 6 (.still 7 (.still 8 (.still 9 (.still 10 (.still 11 (.still 12 (.still 13 (.still 14 (.still 15 (.still 16 (.still 17 (.still 18 (.still 19 (.still 20 (.still 21 (.still 22 (.still 23 (.still 24 (.still 25 (.still 26 (.still 27 (.still 28 (.still 29 (.still 30 (.still 31 (.still 32 (.still 33 (.still 34 (.still 35 (.still 36 (.still 37 (.still 38 (.still 39 (.still 40 (.still 41 (.still 42 (.still 43 (.still 44 (.still 45 (.still 46 (.still 47 (.still 48 (.still 49 (.still 50 .nil))))))))))))))))))))))))))))))))))))))))))))))))))) [3, 4, 5] [_, _, _] (by kernel_rfl) I (AP.op I (Yp.move I) I (AP.op I (Yp.move I) I (AP.op I (Yp.indexUf (m := p873.1) I I I I I hf895 I hp874i hp874x) I (AP.o I (Yd.loadU 0 p873.1 0 I I I (map_get hp874x) I (y := .v (.int .i64 p873.2)) I) I (AP.op I (Yp.cmpI (c := decide (p873.2 ≥ 0)) I I I) I (AP.op I (Yp.move I) I (AP.known 126 I hg875 (AP.oldG I I I I ((Yp.move I).yd) (dst_some I) ?_))))))))))))))))
 refine AP.oldG I I I I ((Yp.move I).yd) (dst_some I) (AP.oldG I I I I ((Yp.indexUf (m := p876.1) I I I I I hf896 I hp877i hp877x).yd) (dst_some I) (AP.oldG I I I I (Yd.loadU 0 p876.1 0 I I I (map_get hp877x) I (y := .v (.int .i64 p876.2)) I) (dst_some I) (AP.oldG I I I I ((Yp.cmpI (c := decide (p876.2 ≥ 0)) I I I).yd) (dst_some I) (AP.p I (Yp.pickT I I) I (AP.p I (Yp.move I) I (AP.known 133 I hg878 (AP.oldG I I I I ((Yp.fieldPtr I I I I I I).yd) (dst_some I) (AP.oldG I I I I (Yd.loadO 1 0 1 I I I I I (y := .v (.int .i64 x423.From)) I) (dst_some I) (AP.oldG I I I I ((Yp.fieldPtr I I I I I I).yd) (dst_some I) (AP.oldG I I I I (Yd.loadO 2 0 1 I I I I I (y := .v (.int .i64 x753.From)) I) (dst_some I) (AP.oldG I I I I ((Yp.cmpI (c := (x423.From == x753.From)) I I I).yd) (dst_some I) (AP.oldG I I I I ((Yp.move I).yd) (dst_some I) ?_))))))))))))
 refine AP.known 139 I hg879 (AP.oldG I I I I ((Yp.fieldPtr I I I I I I).yd) (dst_some I) (AP.oldG I I I I (Yd.loadO 1 0 1 I I I I I (y := .v (.int .i64 x423.From)) I) (dst_some I) (AP.oldG I I I I ((Yp.fieldPtr I I I I I I).yd) (dst_some I) (AP.oldG I I I I (Yd.loadO 2 0 2 I I I I I (y := .v (.int .i64 x753.To)) I) (dst_some I) (AP.oldG I I I I ((Yp.cmpI (c := (x423.From == x753.To)) I I I).yd) (dst_some I) (AP.newG I I I I (Yp.pickF I I) (dst_some I) (AP.newG I I I I (Yp.move I) (dst_some I) (AP.known 146 I hg884 (AP.oldG I I I I ((Yp.fieldPtr I I I I I I).yd) (dst_some I) (AP.oldG I I I I (Yd.loadO 1 0 2 I I I I I (y := .v (.int .i64 x423.To)) I) (dst_some I) (AP.oldG I I I I ((Yp.fieldPtr I I I I I I).yd) (dst_some I) (AP.oldG I I I I (Yd.loadO 2 0 1 I I I I I (y := .v (.int .i64 x753.From)) I) (dst_some I) ?_))))))))))))
 refine AP.oldG I I I I ((Yp.cmpI (c := (x423.To == x753.From)) I I I).yd) (dst_some I) (AP.newG I I I I (Yp.pickF I I) (dst_some I) (AP.newG I I I I (Yp.move I) (dst_some I) (AP.known 153 I hg889 (AP.oldG I I I I ((Yp.fieldPtr I I I I I I).yd) (dst_some I) (AP.oldG I I I I (Yd.loadO 1 0 2 I I I I I (y := .v (.int .i64 x423.To)) I) (dst_some I) (AP.oldG I I I I ((Yp.fieldPtr I I I I I I).yd) (dst_some I) (AP.oldG I I I I (Yd.loadO 2 0 2 I I I I I (y := .v (.int .i64 x753.To)) I) (dst_some I) (AP.oldG I I I I ((Yp.cmpI (c := (x423.To == x753.To)) I I I).yd) (dst_some I) (AP.newG I I I I (Yp.pickF I I) (dst_some I) (AP.p I (Yp.pickT I I) I (AP.p I (Yp.move I) I (AP.known 161 I hg894 ?_))))))))))))
 refine AP.oldG I I I I ((Yp.move I).yd) (dst_some I) (AP.oldG I I I I ((Yp.move I).yd) (dst_some I) (AP.oldG I I I I ((Yp.indexUf (m := p873.1) I I I I I hf897 I hp874i hp874x).yd) (dst_some I) (AP.oldG I I I I (Yd.loadU 0 p873.1 0 I I I (map_get hp874x) I (y := .v (.int .i64 p873.2)) I) (dst_some I) (AP.oldG I I I I ((Yp.move I).yd) (dst_some I) (AP.oldG I I I I ((Yp.move I).yd) (dst_some I) (AP.oldG I I I I ((Yp.indexUf (m := p876.1) I I I I I hf898 I hp877i hp877x).yd) (dst_some I) (AP.oldG I I I I (Yd.loadU 0 p876.1 0 I I I (map_get hp877x) I (y := .v (.int .i64 p876.2)) I) (dst_some I) (AP.oldG I I I I ((Yp.cmpI (c := (p873.2 != p876.2)) I I I).yd) (dst_some I) (AP.p I (Yp.pickT I I) I (AP.ofAO (AO.nil ?_)))))))))))
 exact ⟨_, _, ⟨(p873.2 != p876.2), h, I, I⟩, ⟨I, I, I, I, I, I, I, I, I, I, I, I, I, trivial⟩, [0, 1, 2, 3, 4], I, by decide⟩
 replace h := ife_f hg894 h
 refine AW.form 3 p873.1 I hp874x (fun hf899 => (AW.form 3 p876.1 I hp877x (fun hf900 => (AW.regionD (.still 0 (.still 1 (.still 2 (.still 3 (.still 4 (.still 5 (.still 6 (.still 7 (.still 8 (.still 9 (.still 10 (.still 11 (.still 12 (.still 13 (.still 14 (.still 15 (.still 16 (.still 17 (.still 18 (.still 19 (.still 20 (.still 21 (.still 22 (.still 23 (.still 24 (.still 25 (.still 26 (.still 27 (.still 28 (.still 29 (.still 30 (.still 31 (.still 32 (.still 33 (.still 34 (.still 35 (.still 36 (.still 37 (.still 38 (.still 39 (.still 40 (.still 41 (.still 42 (.still 43 (.still 44 (.still 45 (.still 46 (.still 47 (.still 48 (.still 49 (.still 50 .nil))))))))))))))))))))))))))))))))))))))))))))))))))) [3, 4, 5] [_, _, _] (by kernel_rfl) I (AP.op I (Yp.move I) I (AP.op I (Yp.move I) I (AP.op I (Yp.indexUf (m := p873.1) I I I I I hf899 I hp874i hp874x) I (AP.o I (Yd.loadU 0 p873.1 0 I I I (map_get hp874x) I (y := .v (.int .i64 p873.2)) I) I (AP.op I (Yp.cmpI (c := decide (p873.2 ≥ 0)) I I I) I (AP.op I (Yp.move I) I (AP.known 126 I hg875 (AP.oldG I I I I ((Yp.move I).yd) (dst_some I) (AP.oldG I I I I ((Yp.move I).yd) (dst_some I) (AP.oldG I I I I ((Yp.indexUf (m := p876.1) I I I I I hf900 I hp877i hp877x).yd) (dst_some I) ?_))))))))))))))
 refine AP.oldG I I I I (Yd.loadU 0 p876.1 0 I I I (map_get hp877x) I (y := .v (.int .i64 p876.2)) I) (dst_some I) (AP.oldG I I I I ((Yp.cmpI (c := decide (p876.2 ≥ 0)) I I I).yd) (dst_some I) (AP.p I (Yp.pickT I I) I (AP.p I (Yp.move I) I (AP.known 133 I hg878 (AP.oldG I I I I ((Yp.fieldPtr I I I I I I).yd) (dst_some I) (AP.oldG I I I I (Yd.loadO 1 0 1 I I I I I (y := .v (.int .i64 x423.From)) I) (dst_some I) (AP.oldG I I I I ((Yp.fieldPtr I I I I I I).yd) (dst_some I) (AP.oldG I I I I (Yd.loadO 2 0 1 I I I I I (y := .v (.int .i64 x753.From)) I) (dst_some I) (AP.oldG I I I I ((Yp.cmpI (c := (x423.From == x753.From)) I I I).yd) (dst_some I) (AP.oldG I I I I ((Yp.move I).yd) (dst_some I) (AP.known 139 I hg879 (AP.oldG I I I I ((Yp.fieldPtr I I I I I I).yd) (dst_some I) ?_))))))))))))
 refine AP.oldG I I I I (Yd.loadO 1 0 1 I I I I I (y := .v (.int .i64 x423.From)) I) (dst_some I) (AP.oldG I I I I ((Yp.fieldPtr I I I I I I).yd) (dst_some I) (AP.oldG I I I I (Yd.loadO 2 0 2 I I I I I (y := .v (.int .i64 x753.To)) I) (dst_some I) (AP.oldG I I I I ((Yp.cmpI (c := (x423.From == x753.To)) I I I).yd) (dst_some I) (AP.newG I I I I (Yp.pickF I I) (dst_some I) (AP.newG I I I I (Yp.move I) (dst_some I) (AP.known 146 I hg884 (AP.oldG I I I I ((Yp.fieldPtr I I I I I I).yd) (dst_some I) (AP.oldG I I I I (Yd.loadO 1 0 2 I I I I I (y := .v (.int .i64 x423.To)) I) (dst_some I) (AP.oldG I I I I ((Yp.fieldPtr I I I I I I).yd) (dst_some I) (AP.oldG I I I I (Yd.loadO 2 0 1 I I I I I (y := .v (.int .i64 x753.From)) I) (dst_some I) (AP.oldG I I I I ((Yp.cmpI (c := (x423.To == x753.From)) I I I).yd) (dst_some I) (AP.newG I I I I (Yp.pickF I I) (dst_some I) ?_))))))))))))
 refine AP.newG I I I I (Yp.move I) (dst_some I) (AP.known 153 I hg889 (AP.oldG I I I I ((Yp.fieldPtr I I I I I I).yd) (dst_some I) (AP.oldG I I I I (Yd.loadO 1 0 2 I I I I I (y := .v (.int .i64 x423.To)) I) (dst_some I) (AP.oldG I I I I ((Yp.fieldPtr I I I I I I).yd) (dst_some I) (AP.oldG I I I I (Yd.loadO 2 0 2 I I I I I (y := .v (.int .i64 x753.To)) I) (dst_some I) (AP.oldG I I I I ((Yp.cmpI (c := (x423.To == x753.To)) I I I).yd) (dst_some I) (AP.newG I I I I (Yp.pickF I I) (dst_some I) (AP.p I (Yp.pickT I I) I (AP.p I (Yp.move I) I (AP.known 161 I hg894 (AP.skip I I I I I (dst_some I) (AP.skip I I I I I (dst_some I) ?_))))))))))))
 refine AP.skip I I I I I (dst_some I) (AP.skip I I I I I (dst_some I) (AP.skip I I I I I (dst_some I) (AP.skip I I I I I (dst_some I) (AP.skip I I I I I (dst_some I) (AP.skip I I I I I (dst_some I) (AP.skip I I I I I (dst_some I) (AP.p I (Yp.pickF I I) I (AP.ofAO (AO.nil ?_)))))))))
 exact ⟨_, _, ⟨false, h, I, I⟩, ⟨I, I, I, I, I, I, I, I, I, I, I, I, I, trivial⟩, [0, 1, 2, 3, 4], I, by decide⟩
 replace h := ife_f hg878 h
 refine AW.form 3 p873.1 I hp874x (fun hf901 => (AW.form 3 p876.1 I hp877x (fun hf902 => (AW.regionD (.still 0 (.still 1 (.still 2 (.still 3 (.still 4 (.still 5 (.still 6 (.still 7 (.still 8 (.still 9 (.still 10 (.still 11 (.still 12 (.still 13 (.still 14 (.still 15 (.still 16 (.still 17 (.still 18 (.still 19 (.still 20 (.still 21 (.still 22 (.still 23 (.still 24 (.still 25 (.still 26 (.still 27 (.still 28 (.still 29 (.still 30 (.still 31 (.still 32 (.still 33 (.still 34 (.still 35 (.still 36 (.still 37 (.still 38 (.still 39 (.still 40 (.still 41 (.still 42 (.still 43 (.still 44 (.still 45 (.still 46 (.still 47 (.still 48 (.still 49 (.still 50 .nil))))))))))))))))))))))))))))))))))))))))))))))))))) [3] [_] (by kernel_rfl) I (AP.op I (Yp.move I) I (AP.op I (Yp.move I) I (AP.op I (Yp.indexUf (m := p873.1) I I I I I hf901 I hp874i hp874x) I (AP.o I (Yd.loadU 0 p873.1 0 I I I (map_get hp874x) I (y := .v (.int .i64 p873.2)) I) I (AP.op I (Yp.cmpI (c := decide (p873.2 ≥ 0)) I I I) I (AP.op I (Yp.move I) I (AP.known 126 I hg875 (AP.oldG I I I I ((Yp.move I).yd) (dst_some I) (AP.oldG I I I I ((Yp.move I).yd) (dst_some I) (AP.oldG I I I I ((Yp.indexUf (m := p876.1) I I I I I hf902 I hp877i hp877x).yd) (dst_some I) ?_))))))))))))))
 refine AP.oldG I I I I (Yd.loadU 0 p876.1 0 I I I (map_get hp877x) I (y := .v (.int .i64 p876.2)) I) (dst_some I) (AP.oldG I I I I ((Yp.cmpI (c := decide (p876.2 ≥ 0)) I I I).yd) (dst_some I) (AP.p I (Yp.pickT I I) I (AP.p I (Yp.move I) I (AP.known 133 I hg878 (AP.skip I I I I I (dst_some I) (AP.skip I I I I I (dst_some I) (AP.skip I I I I I (dst_some I) (AP.skip I I I I I (dst_some I) (AP.skip I I I I I (dst_some I) (AP.skip I I I I I (dst_some I) (AP.skipU I I I I (dst_some I) (AP.skipU I I I I (dst_some I) ?_))))))))))))
 refine AP.skipU I I I I (dst_some I) (AP.skipU I I I I (dst_some I) (AP.skipU I I I I (dst_some I) (AP.skip I I I I I (dst_some I) (AP.skip I I I I I (dst_some I) (AP.skipU I I I I (dst_some I) (AP.skipU I I I I (dst_some I) (AP.skipU I I I I (dst_some I) (AP.skipU I I I I (dst_some I) (AP.skipU I I I I (dst_some I) (AP.skip I I I I I (dst_some I) (AP.skip I I I I I (dst_some I) (AP.skipU I I I I (dst_some I) ?_))))))))))))
 refine AP.skipU I I I I (dst_some I) (AP.skipU I I I I (dst_some I) (AP.skipU I I I I (dst_some I) (AP.skipU I I I I (dst_some I) (AP.skip I I I I I (dst_some I) (AP.p I (Yp.pickF I I) I (AP.p I (Yp.move I) I (AP.skip I I I I I (dst_some I) (AP.skip I I I I I (dst_some I) (AP.skip I I I I I (dst_some I) (AP.skip I I I I I (dst_some I) (AP.skip I I I I I (dst_some I) (AP.skip I I I I I (dst_some I) ?_))))))))))))
 refine AP.skip I I I I I (dst_some I) (AP.skip I I I I I (dst_some I) (AP.skip I I I I I (dst_some I) (AP.p I (Yp.pickF I I) I (AP.ofAO (AO.nil ?_)))))
 exact ⟨_, _, ⟨false, h, I, I⟩, ⟨I, I, I, I, I, I, I, I, I, I, I, I, I, trivial⟩, [0, 1, 2, 3, 4], I, by decide⟩
 replace h := ife_f hg875 h
 refine AW.form 3 p873.1 I hp874x (fun hf903 => (AW.regionD (.still 0 (.still 1 (.still 2 (.still 3 (.still 4 (.still 5 (.still 6 (.still 7 (.still 8 (.still 9 (.still 10 (.still 11 (.still 12 (.still 13 (.still 14 (.still 15 (.still 16 (.still 17 (.still 18 (.still 19 (.still 20 (.still 21 (.still 22 (.still 23 (.still 24 (.still 25 (.still 26 (.still 27 (.still 28 (.still 29 (.still 30 (.still 31 (.still 32 (.still 33 (.still 34 (.still 35 (.still 36 (.still 37 (.still 38 (.still 39 (.still 40 (.still 41 (.still 42 (.still 43 (.still 44 (.still 45 (.still 46 (.still 47 (.still 48 (.still 49 (.still 50 .nil))))))))))))))))))))))))))))))))))))))))))))))))))) [3] [_] (by kernel_rfl) I (AP.op I (Yp.move I) I (AP.op I (Yp.move I) I (AP.op I (Yp.indexUf (m := p873.1) I I I I I hf903 I hp874i hp874x) I (AP.o I (Yd.loadU 0 p873.1 0 I I I (map_get hp874x) I (y := .v (.int .i64 p873.2)) I) I (AP.op I (Yp.cmpI (c := decide (p873.2 ≥ 0)) I I I) I (AP.op I (Yp.move I) I (AP.known 126 I hg875 (AP.skip I I I I I (dst_some I) (AP.skip I I I I I (dst_some I) (AP.skip I I I I I (dst_some I) (AP.skip I I I I I (dst_some I) ?_)))))))))))))
 refine AP.skip I I I I I (dst_some I) (AP.p I (Yp.pickF I I) I (AP.p I (Yp.move I) I (AP.skip I I I I I (dst_some I) (AP.skip I I I I I (dst_some I) (AP.skip I I I I I (dst_some I) (AP.skip I I I I I (dst_some I) (AP.skip I I I I I (dst_some I) (AP.skip I I I I I (dst_some I) (AP.skipU I I I I (dst_some I) (AP.skipU I I I I (dst_some I) (AP.skipU I I I I (dst_some I) (AP.skipU I I I I (dst_some I) ?_))))))))))))
 refine AP.skipU I I I I (dst_some I) (AP.skip I I I I I (dst_some I) (AP.skip I I I I I (dst_some I) (AP.skipU I I I I (dst_some I) (AP.skipU I I I I (dst_some I) (AP.skipU I I I I (dst_some I) (AP.skipU I I I I (dst_some I) (AP.skipU I I I I (dst_some I) (AP.skip I I I I I (dst_some I) (AP.skip I I I I I (dst_some I) (AP.skipU I I I I (dst_some I) (AP.skipU I I I I (dst_some I) (AP.skipU I I I I (dst_some I) ?_))))))))))))
 refine AP.skipU I I I I (dst_some I) (AP.skipU I I I I (dst_some I) (AP.skip I I I I I (dst_some I) (AP.p I (Yp.pickF I I) I (AP.p I (Yp.move I) I (AP.skip I I I I I (dst_some I) (AP.skip I I I I I (dst_some I) (AP.skip I I I I I (dst_some I) (AP.skip I I I I I (dst_some I) (AP.skip I I I I I (dst_some I) (AP.skip I I I I I (dst_some I) (AP.skip I I I I I (dst_some I) (AP.skip I I I I I (dst_some I) ?_))))))))))))
 refine AP.skip I I I I I (dst_some I) (AP.p I (Yp.pickF I I) I (AP.ofAO (AO.nil ?_)))
 exact ⟨_, _, ⟨false, h, I, I⟩, ⟨I, I, I, I, I, I, I, I, I, I, I, I, I, trivial⟩, [0, 1, 2, 3, 4], I, by decide⟩
 rintro s ob ⟨j871, h, rfl, rfl⟩
 unfold L.law22_SurgeGroups.J9 at h
 refine AW.cond I I ?_ ?_
 intro hc872
 replace h := ife_t hc872 h
 refine AW.seq (AW.region (AO.a I I (AO.nil ?_)))
 obtain rfl := hb834 _ (Option.some.inj h).symm
 replace h := hR833
 replace h := se_r h
 obtain rfl := hb632 _ (Option.some.inj h).symm
 replace h := hR631
 replace h := se_r h
 refine AW.ghost (Ghost.pick [] (K := []) I (by decide)) ?_
 obtain rfl := Option.some.inj h
 refine AW.ret ?_
 exact ⟨.inr I, [_], [], ⟨I, trivial⟩, sl_n, ⟨I, I⟩⟩
 intro hc872
 replace h := ife_f hc872 h
 refine AW.skip (AW.region (AO.p (Yp.binI (c := ((k750 + 1 : Nat) : Int)) I I (cast_wr hk751 hm752)) I (AO.m I I ?_)))
 obtain rfl := Option.some.inj h
 refine AO.nil ?_
 exact ⟨_, _, _, I, ⟨I, I⟩, ⟨I, I, I, I, I, I, I, I, I, I, I, I, trivial⟩, [0, 1, 2, 3, 4], I, by decide⟩
 rintro st793 s ob ⟨rfl, rfl⟩ he
 subst he
 have h := se_l hR833
 have hk751f : decide (((r7.1.Segments.length : Nat) : Int) < (r7.1.Segments.length : Int)) = false := by simp
 refine AW.seqG (fun y904 hy904 => (AW.region (AO.p (Yp.cmpI (c := decide (((r7.1.Segments.length : Nat) : Int) < (r7.1.Segments.length : Int))) I I I) I (AO.nil ?_))))
 subst hy904
 refine AW.seqG (fun y905 hy905 => (AW.condK (v := false) I hk751f (AW.exit ?_)))
 exact ⟨_, _, ⟨(), h, I, I⟩, ⟨I, I, I, I, I, I, I, trivial⟩, [0, 1, 2, 3], I, by decide⟩
 rintro s ob ⟨j734, h, rfl, rfl⟩
 unfold L.law22_SurgeGroups.J6 at h
 refine AW.region (AO.p (Yp.binI (c := ((k420 + 1 : Nat) : Int)) I I (cast_wr hk421 hm422)) I (AO.m I I ?_))
 obtain rfl := Option.some.inj h
 refine AO.nil ?_
 exact ⟨_, _, _, I, ⟨I, I⟩, ⟨I, I, I, I, I, I, I, trivial⟩, [0, 1, 2, 3], I, by decide⟩
 rintro st527 s ob ⟨rfl, rfl⟩ he
 subst he
 have h := se_l hR631
 have hk421f : decide (((r7.1.Segments.length : Nat) : Int) < (r7.1.Segments.length : Int)) = false := by simp
 refine AW.seqG (fun y916 hy916 => (AW.region (AO.p (Yp.cmpI (c := decide (((r7.1.Segments.length : Nat) : Int) < (r7.1.Segments.length : Int))) I I I) I (AO.nil ?_))))
 subst hy916
 refine AW.seqG (fun y917 hy917 => (AW.condK (v := false) I hk421f (AW.exit ?_)))
 exact ⟨_, _, ⟨(), h, I, I⟩, trivial, [], I, by decide⟩
 rintro s ob ⟨j416, h, rfl, rfl⟩
 unfold L.law22_SurgeGroups.J4 at h
 refine AW.seq ?_
 obtain ⟨r417, hx418, h⟩ := ob_some h
 refine AW.region (AO.act [] I (AX.callL I (.refl _) I I (.rest _) I (L.law22_awake_ok  _ hx418) (dst_some I) (by rintro _ _ ⟨rfl, _⟩; rfl) ?_))
 rintro _ ⟨_, rfl, -⟩
 refine AO.a I I (AO.nil ?_)
 obtain rfl := Option.some.inj h
 refine AW.ret ?_
 exact ⟨.inr I, [_], [], ⟨I, trivial⟩, sl_n, ⟨I, I⟩⟩

end Go.Proofs.Ytndfiddakngjdaa
