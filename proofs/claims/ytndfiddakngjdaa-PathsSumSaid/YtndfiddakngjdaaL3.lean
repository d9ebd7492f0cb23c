/- Walks that show what functions of the program compute; printed by a program of ours. No condition. -/
import Derived.Test.YtndfiddakngjdaaL2
namespace Go.Proofs.Ytndfiddakngjdaa
open Go.Aw
set_option linter.unusedVariables false
set_option linter.unusedSimpArgs false

set_option maxRecDepth 100000 in
set_option maxHeartbeats 4000000 in
theorem L.flow_streams_add_ok (b0 : Nat) (s_0 : flow_streams) (from_1 : Int) (to_2 : Int) (rate_3 : Int) (r : flow_streams) (h : L.flow_streams_add s_0 from_1 to_2 rate_3 = some r) : ACalls Try.env 147 [.v (.pointer (some ⟨b0, 0, none⟩)), .v (.int .i64 from_1), .v (.int .i64 to_2), .v (.int .i64 rate_3)] [.arr b0 167 48 1 [s_0.come.l.map cI ++ (s_0.leave.l.map cI ++ [])]] (Gives 1 (fun x os new => x = .tup [] ∧ os = [.arr b0 167 48 1 [r.come.l.map cI ++ (r.leave.l.map cI ++ [])]] ∧ new = [])) := by
 refine ACalls.of_body Try.func147 rfl rfl rfl (fun C hC => ?_)
 unfold L.flow_streams_add at h
 refine AW.cutX (fun s ob => ∃ (j2 : Int × Int × Int), L.flow_streams_add.J1 s_0 j2 = some r ∧ s = [(1, .v (.int .i64 j2.1)), (2, .v (.int .i64 j2.2.1)), (3, .v (.int .i64 j2.2.2))] ∧ ob = [.arr b0 167 48 1 [s_0.come.l.map cI ++ (s_0.leave.l.map cI ++ [])]]) [(0, _)] ⟨I, trivial⟩ ?_ ?_
 refine AW.seq (AW.region (AO.m I I (AO.p (Yp.cmpI (c := decide (rate_3 < 0)) I I I) I (AO.nil (AW.cond I I ?_ ?_)))))
 intro hc16
 replace h := ife_t hc16 h
 refine AW.region (AO.m I I (AO.m I I (AO.m I I (AO.p (Yp.neg (c := wr (0 - rate_3)) I I) I (AO.a I I (AO.a I I (AO.a I I (AO.nil ?_))))))))
 exact ⟨_, _, ⟨(to_2, from_1, wr (0 - rate_3)), h, I, I⟩, ⟨I, I, I, I, trivial⟩, [0], I, by decide⟩
 intro hc16
 replace h := ife_f hc16 h
 refine AW.skip ?_
 exact ⟨_, _, ⟨(from_1, to_2, rate_3), h, I, I⟩, ⟨I, I, I, I, trivial⟩, [0], I, by decide⟩
 rintro s ob ⟨j2, h, rfl, rfl⟩
 unfold L.flow_streams_add.J1 at h
 refine AW.cutX (fun s ob => ∃ (j7 : Arr Int 24), L.flow_streams_add.J2 s_0 j2 j7 = some r ∧ s = [] ∧ ob = [.arr b0 167 48 1 [s_0.come.l.map cI ++ (j7.l.map cI ++ [])]]) [(0, _), (2, _), (3, _)] ⟨I, I, I, trivial⟩ ?_ ?_
 refine AW.seqG (fun y12 hy12 => (AW.region (AO.m I I (AO.p (Yp.cmpI (c := decide (j2.1 ≥ 0)) I I I) I (AO.nil ?_)))))
 subst hy12
 refine AW.cond I I ?_ ?_
 intro hc13
 replace h := ife_t hc13 h
 obtain ⟨p14, hp15, h⟩ := ob_some h
 obtain ⟨hp15i, hp15x⟩ := ix_some hp15
 refine AW.regionD (.still 0 (.still 1 (.still 2 (.still 3 (.still 4 (.still 5 (.still 6 (.still 7 (.still 8 (.still 9 (.still 10 (.drop 11 .nil)))))))))))) [0] [_] (by kernel_rfl) I (AP.op I (Yp.move I) I (AP.op I (Yp.move I) I (AP.op I (Yp.nilCheckP I) I (AP.op I (Yp.fieldPtr I I I I I I) I (AP.op I (Yp.indexA1 (m := p14.1) I I I I I I hp15i (arr_lt hp15x)) I (AP.o I (Yd.loadO 0 0 (24 + p14.1) I I I I (by omega) (y := .v (.int .i64 p14.2)) (seg_skip (k := 24) (by simp [Arr.h, flow_streams.row]) (seg_here hp15x))) I (AP.op I (Yp.move I) I (AP.op I (Yp.binI (c := wr (p14.2 + j2.2.2)) I I I) I (AP.op I (Yp.nilCheckP I) I (AP.op I (Yp.fieldPtr I I I I I I) I (AP.op I (Yp.indexA1 (m := p14.1) I I I I I I hp15i (arr_lt hp15x)) I (AP.drop [0] I I I (AX.store 0 0 (24 + p14.1) (es' := [s_0.come.l.map cI ++ ((s_0.leave.set p14.1 (wr (p14.2 + j2.2.2))).l.map cI ++ [])]) I I I I (by omega) I I I (seg_len (arr_lt hp15x) (by simp [Arr.h, flow_streams.row])) I (congrArg (fun r => [r]) (seg_set_skip (k := 24) (by simp [Arr.h, flow_streams.row]) (seg_set_here (get_lt hp15x)))) ?_)))))))))))))
 refine AP.ofAO (AO.nil ?_)
 exact ⟨_, _, ⟨(s_0.leave.set p14.1 (wr (p14.2 + j2.2.2))), h, I, I⟩, ⟨I, I, I, trivial⟩, [0], I, by decide⟩
 intro hc13
 replace h := ife_f hc13 h
 refine AW.skip ?_
 exact ⟨_, _, ⟨s_0.leave, h, I, I⟩, ⟨I, I, I, trivial⟩, [0], I, by decide⟩
 rintro s ob ⟨j7, h, rfl, rfl⟩
 unfold L.flow_streams_add.J2 at h
 refine AW.seqG (fun y8 hy8 => (AW.region (AO.m I I (AO.p (Yp.cmpI (c := decide (j2.2.1 ≥ 0)) I I I) I (AO.nil ?_)))))
 subst hy8
 refine AW.cond I I ?_ ?_
 intro hc9
 replace h := ife_t hc9 h
 obtain ⟨p10, hp11, h⟩ := ob_some h
 obtain ⟨hp11i, hp11x⟩ := ix_some hp11
 refine AW.regionD (.still 0 (.still 1 (.still 2 (.still 3 (.still 4 (.still 5 (.still 6 (.still 7 (.still 8 (.still 9 (.still 10 (.drop 11 .nil)))))))))))) [0] [_] (by kernel_rfl) I (AP.op I (Yp.move I) I (AP.op I (Yp.move I) I (AP.op I (Yp.nilCheckP I) I (AP.op I (Yp.fieldPtr I I I I I I) I (AP.op I (Yp.indexA1 (m := p10.1) I I I I I I hp11i (arr_lt hp11x)) I (AP.o I (Yd.loadO 0 0 (0 + p10.1) I I I I (by omega) (y := .v (.int .i64 p10.2)) (by rw [Nat.zero_add]; exact seg_here hp11x)) I (AP.op I (Yp.move I) I (AP.op I (Yp.binI (c := wr (p10.2 + j2.2.2)) I I I) I (AP.op I (Yp.nilCheckP I) I (AP.op I (Yp.fieldPtr I I I I I I) I (AP.op I (Yp.indexA1 (m := p10.1) I I I I I I hp11i (arr_lt hp11x)) I (AP.drop [0] I I I (AX.store 0 0 (0 + p10.1) (es' := [(s_0.come.set p10.1 (wr (p10.2 + j2.2.2))).l.map cI ++ (j7.l.map cI ++ [])]) I I I I (by omega) I I I (seg_len (arr_lt hp11x) (by simp [Arr.h, flow_streams.row])) I (congrArg (fun r => [r]) (by rw [Nat.zero_add]; exact seg_set_here (get_lt hp11x))) ?_)))))))))))))
 refine AP.ofAO ?_
 obtain rfl := Option.some.inj h
 refine AO.nil ?_
 exact ⟨.inl I, [], [.arr b0 167 48 1 [(s_0.come.set p10.1 (wr (p10.2 + j2.2.2))).l.map cI ++ (j7.l.map cI ++ [])]], trivial, sl_c I (sl_n), ⟨[.arr b0 167 48 1 [(s_0.come.set p10.1 (wr (p10.2 + j2.2.2))).l.map cI ++ (j7.l.map cI ++ [])]], [], I, I, I, I, I⟩⟩
 intro hc9
 replace h := ife_f hc9 h
 obtain rfl := Option.some.inj h
 refine AW.skip ?_
 exact ⟨.inl I, [], [.arr b0 167 48 1 [s_0.come.l.map cI ++ (j7.l.map cI ++ [])]], trivial, sl_c I (sl_n), ⟨[.arr b0 167 48 1 [s_0.come.l.map cI ++ (j7.l.map cI ++ [])]], [], I, I, I, I, I⟩⟩

set_option maxRecDepth 100000 in
set_option maxHeartbeats 4000000 in
theorem L.flow_sums_ok (n_0 : Network) (p_1 : Plan) (r : flow_streams) (h : L.flow_sums n_0 p_1 = some r) : ACalls Try.env 112 [.agg (Network.row n_0), .agg (Plan.row p_1)] [] (fun x new => x = .agg (flow_streams.row r) ∧ new = []) := by
 refine ACalls.of_body Try.func112 rfl rfl rfl (fun C hC => ?_)
 unfold L.flow_sums at h
 refine AW.seqG (fun y1 hy1 => (AW.region (AO.act [] I (AX.box (cs := Network.row n_0) (m := 6) I I I (dst_some I) (fun b2 => (AO.act [] I (AX.box (cs := Plan.row p_1) (m := 3) I I I (dst_some I) (fun b3 => (AO.act [] I (AX.alloc (cs := (Arr.rep 24 (0 : Int)).l.map cI ++ ((Arr.rep 24 (0 : Int)).l.map cI ++ [])) (m := 48) I I I I I (dst_some I) (fun b4 => (AO.nil ?_))))))))))))
 subst hy1
 refine AW.seqG (fun y5 hy5 => (AW.region (AO.act [] I (AX.alloc (cs := (Arr.rep 24 (0 : Int)).l.map cI ++ ((Arr.rep 24 (0 : Int)).l.map cI ++ [])) (m := 48) I I I I I (dst_some I) (fun b6 => (AO.nil ?_))))))
 subst hy5
 refine AW.cutX (fun s ob => ∃ (j39 : (Arr Int 24) × (Arr Int 24)), L.flow_sums.J1 n_0 p_1 j39 = some r ∧ s = [] ∧ ob = [.arr b2 30 6 1 [Network.row n_0], .arr b3 34 3 1 [Plan.row p_1], .arr b4 167 48 1 [(Arr.rep 24 (0 : Int)).l.map cI ++ ((Arr.rep 24 (0 : Int)).l.map cI ++ [])], .arr b6 167 48 1 [j39.1.l.map cI ++ (j39.2.l.map cI ++ [])]]) [(2, _), (3, _), (4, _), (5, _)] ⟨I, I, I, I, trivial⟩ ?_ ?_
 refine AW.seqG (fun y117 hy117 => (AW.region (AO.p (Yp.fieldPtr I I I I I I) I (AO.d (Yd.loadO 0 0 1 I I I I I (y := .list 7 (n_0.Segments.map Segment.row)) I) I (AO.p (Yp.lenM I I I) I (AO.m I I (AO.nil ?_)))))))
 subst hy117
 refine AW.block (AW.listMax 11 I (fun hm120 => ?_))
 replace hm120 : n_0.Segments.length ≤ 9223372036854775806 := by rw [List.length_map] at hm120; omega
 obtain ⟨o147, hL148, hR149⟩ := ob_some h
 clear h
 refine AW.forY hL148 [(2, _), (3, _), (4, _), (5, _), (11, _), (12, _)] ⟨I, I, I, I, I, I, trivial⟩ (fun (k118 : Nat) (st139 : (Arr Int 24) × (Arr Int 24)) s ob => s = [(13, .v (.int .i64 (k118 : Int)))] ∧ ob = [.arr b2 30 6 1 [Network.row n_0], .arr b3 34 3 1 [Plan.row p_1], .arr b4 167 48 1 [(Arr.rep 24 (0 : Int)).l.map cI ++ ((Arr.rep 24 (0 : Int)).l.map cI ++ [])], .arr b6 167 48 1 [st139.1.l.map cI ++ (st139.2.l.map cI ++ [])]]) ⟨I, I⟩ ⟨I, trivial⟩ ⟨[0, 1, 2, 3], I, by decide⟩ ?_ ?_
 rintro k118 x121 st139 r151 s ob hx122 hk119 ⟨rfl, rfl⟩ h
 unfold L.flow_sums.B4 at h
 have hk119t : decide ((k118 : Int) < (n_0.Segments.length : Int)) = true := by simp; omega
 refine AW.seqG (fun y152 hy152 => (AW.region (AO.p (Yp.cmpI (c := decide ((k118 : Int) < (n_0.Segments.length : Int))) I I I) I (AO.nil ?_))))
 subst hy152
 refine AW.seqG (fun y153 hy153 => (AW.condK (v := true) I hk119t (AW.skip ?_)))
 subst hy153
 refine AW.seq (AW.block (AW.seq (AW.region (AO.m I I (AO.p (Yp.indexE (m := k118) I I I I I I I (map_get hx122)) I (AO.d (Yd.loadE I I (y := .agg (Segment.row x121)) I) I (AO.act [] I (AX.alloc (cs := [.v (.string ⟨#[]⟩), .v (.int .i64 0), .v (.int .i64 0), .v (.int .i64 0), .v (.int .i64 0), .v (.int .i64 0), .v (.slice none 0 0)]) (m := 7) I I I I I (dst_some I) (fun b154 => (AO.a I I (AO.act [4] I (AX.store 4 0 0 (es' := [Segment.row x121]) I I I I I I I I (le_ble I) I I (AO.nil ?_)))))))))))))
 obtain ⟨p155, hp156, h⟩ := ob_some h
 obtain ⟨hp156i, hp156x⟩ := ix_some hp156
 obtain ⟨r157, hx158, h⟩ := ob_some h
 refine AW.regionD (.still 0 (.still 1 (.still 2 (.still 3 (.still 4 (.still 5 (.still 6 (.still 7 (.still 8 (.act 9 .nil)))))))))) [4, 1] [_, _] (by kernel_rfl) I (AP.op I (Yp.fieldPtr I I I I I I) I (AP.o I (Yd.loadO 0 0 1 I I I I I (y := .v (.int .i64 x121.From)) I) I (AP.op I (Yp.fieldPtr I I I I I I) I (AP.o I (Yd.loadO 0 0 2 I I I I I (y := .v (.int .i64 x121.To)) I) I (AP.op I (Yp.fieldPtr I I I I I I) I (AP.o I (Yd.loadO 1 0 0 I I I I I (y := .list 1 (p_1.Rates.map rI)) I) I (AP.op I (Yp.move I) I (AP.op I (Yp.indexE (m := p155.1) I I I I I I hp156i (map_get hp156x)) I (AP.o I (Yd.loadE I I (y := .v (.int .i64 p155.2)) I) I (AP.act [3] I I I (AX.callG [3] I I I I (by decide) (L.flow_streams_add_ok b6 (⟨st139.1, st139.2⟩ : flow_streams) x121.From x121.To p155.2 _ hx158) (dst_some I) ?_)))))))))))
 rintro _ _ _ - ⟨rfl, rfl, rfl⟩
 refine AP.ofAO (AO.nil (AW.region (AO.p (Yp.binI (c := ((k118 + 1 : Nat) : Int)) I I (cast_wr hk119 hm120)) I (AO.m I I ?_))))
 obtain rfl := Option.some.inj h
 refine AO.nil ?_
 exact ⟨_, _, ⟨I, I⟩, ⟨I, I, I, I, I, I, I, trivial⟩, [0, 1, 2, 3], I, by decide⟩
 rintro st139 s ob ⟨rfl, rfl⟩ he
 subst he
 have h := hR149
 have hk119f : decide (((n_0.Segments.length : Nat) : Int) < (n_0.Segments.length : Int)) = false := by simp
 refine AW.seqG (fun y159 hy159 => (AW.region (AO.p (Yp.cmpI (c := decide (((n_0.Segments.length : Nat) : Int) < (n_0.Segments.length : Int))) I I I) I (AO.nil ?_))))
 subst hy159
 refine AW.seqG (fun y160 hy160 => (AW.condK (v := false) I hk119f (AW.exit ?_)))
 exact ⟨_, _, ⟨(st139.1, st139.2), h, I, I⟩, ⟨I, I, I, I, trivial⟩, [0, 1, 2, 3], I, by decide⟩
 rintro s ob ⟨j39, h, rfl, rfl⟩
 unfold L.flow_sums.J1 at h
 refine AW.cutX (fun s ob => ∃ (j72 : (Arr Int 24) × (Arr Int 24)), L.flow_sums.J2 j72 = some r ∧ s = [] ∧ ob = [.arr b4 167 48 1 [(Arr.rep 24 (0 : Int)).l.map cI ++ ((Arr.rep 24 (0 : Int)).l.map cI ++ [])], .arr b6 167 48 1 [j72.1.l.map cI ++ (j72.2.l.map cI ++ [])]]) [(4, _), (5, _)] ⟨I, I, trivial⟩ ?_ ?_
 refine AW.seqG (fun y73 hy73 => (AW.region (AO.p (Yp.fieldPtr I I I I I I) I (AO.d (Yd.loadO 0 0 2 I I I I I (y := .list 3 (n_0.Ports.map Port.row)) I) I (AO.p (Yp.lenM I I I) I (AO.m I I (AO.nil ?_)))))))
 subst hy73
 refine AW.block (AW.listMax 30 I (fun hm76 => ?_))
 replace hm76 : n_0.Ports.length ≤ 9223372036854775806 := by rw [List.length_map] at hm76; omega
 obtain ⟨o103, hL104, hR105⟩ := ob_some h
 clear h
 refine AW.forY hL104 [(3, _), (4, _), (5, _), (30, _), (31, _)] ⟨I, I, I, I, I, trivial⟩ (fun (k74 : Nat) (st95 : (Arr Int 24) × (Arr Int 24)) s ob => s = [(32, .v (.int .i64 (k74 : Int)))] ∧ ob = [.arr b3 34 3 1 [Plan.row p_1], .arr b4 167 48 1 [(Arr.rep 24 (0 : Int)).l.map cI ++ ((Arr.rep 24 (0 : Int)).l.map cI ++ [])], .arr b6 167 48 1 [st95.1.l.map cI ++ (st95.2.l.map cI ++ [])]]) ⟨I, I⟩ ⟨I, trivial⟩ ⟨[1, 2, 3], I, by decide⟩ ?_ ?_
 rintro k74 x77 st95 r107 s ob hx78 hk75 ⟨rfl, rfl⟩ h
 unfold L.flow_sums.B3 at h
 have hk75t : decide ((k74 : Int) < (n_0.Ports.length : Int)) = true := by simp; omega
 refine AW.seqG (fun y108 hy108 => (AW.region (AO.p (Yp.cmpI (c := decide ((k74 : Int) < (n_0.Ports.length : Int))) I I I) I (AO.nil ?_))))
 subst hy108
 refine AW.seqG (fun y109 hy109 => (AW.condK (v := true) I hk75t (AW.skip ?_)))
 subst hy109
 refine AW.seq (AW.block (AW.seq (AW.region (AO.m I I (AO.p (Yp.indexE (m := k74) I I I I I I I (map_get hx78)) I (AO.d (Yd.loadE I I (y := .agg (Port.row x77)) I) I (AO.act [] I (AX.alloc (cs := [.v (.string ⟨#[]⟩), .v (.int .i64 0), .v (.int .i64 0)]) (m := 3) I I I I I (dst_some I) (fun b110 => (AO.a I I (AO.act [3] I (AX.store 3 0 0 (es' := [Port.row x77]) I I I I I I I I (le_ble I) I I (AO.nil ?_)))))))))))))
 obtain ⟨p111, hp112, h⟩ := ob_some h
 obtain ⟨hp112i, hp112x⟩ := ix_some hp112
 obtain ⟨r113, hx114, h⟩ := ob_some h
 refine AW.regionD (.still 0 (.still 1 (.still 2 (.still 3 (.still 4 (.still 5 (.still 6 (.act 7 .nil)))))))) [3, 0] [_, _] (by kernel_rfl) I (AP.op I (Yp.fieldPtr I I I I I I) I (AP.o I (Yd.loadO 0 0 1 I I I I I (y := .v (.int .i64 x77.Node)) I) I (AP.op I (Yp.fieldPtr I I I I I I) I (AP.o I (Yd.loadO 1 0 1 I I I I I (y := .list 1 (p_1.Ports.map rI)) I) I (AP.op I (Yp.move I) I (AP.op I (Yp.indexE (m := p111.1) I I I I I I hp112i (map_get hp112x)) I (AP.o I (Yd.loadE I I (y := .v (.int .i64 p111.2)) I) I (AP.act [2] I I I (AX.callG [2] I I I I (by decide) (L.flow_streams_add_ok b6 (⟨st95.1, st95.2⟩ : flow_streams) (-1) x77.Node p111.2 _ hx114) (dst_some I) ?_)))))))))
 rintro _ _ _ - ⟨rfl, rfl, rfl⟩
 refine AP.ofAO (AO.nil (AW.region (AO.p (Yp.binI (c := ((k74 + 1 : Nat) : Int)) I I (cast_wr hk75 hm76)) I (AO.m I I ?_))))
 obtain rfl := Option.some.inj h
 refine AO.nil ?_
 exact ⟨_, _, ⟨I, I⟩, ⟨I, I, I, I, I, I, trivial⟩, [0, 1, 2], I, by decide⟩
 rintro st95 s ob ⟨rfl, rfl⟩ he
 subst he
 have h := hR105
 have hk75f : decide (((n_0.Ports.length : Nat) : Int) < (n_0.Ports.length : Int)) = false := by simp
 refine AW.seqG (fun y115 hy115 => (AW.region (AO.p (Yp.cmpI (c := decide (((n_0.Ports.length : Nat) : Int) < (n_0.Ports.length : Int))) I I I) I (AO.nil ?_))))
 subst hy115
 refine AW.seqG (fun y116 hy116 => (AW.condK (v := false) I hk75f (AW.exit ?_)))
 exact ⟨_, _, ⟨(st95.1, st95.2), h, I, I⟩, ⟨I, I, trivial⟩, [1, 2], I, by decide⟩
 rintro s ob ⟨j72, h, rfl, rfl⟩
 unfold L.flow_sums.J2 at h
 refine AW.seq (AW.region (AO.d (Yd.loadO 1 0 0 I I I I I (y := .agg (j72.1.l.map cI ++ (j72.2.l.map cI ++ []))) (part_all I (by simp [Arr.h, flow_streams.row]))) I (AO.act [0] I (AX.store 0 0 0 (es' := [j72.1.l.map cI ++ (j72.2.l.map cI ++ [])]) I I I I I I I (by simp [Arr.h, flow_streams.row]) (by simp [Arr.h, flow_streams.row]) I (congrArg (fun r => [r]) (setC_all (by simp [Arr.h, flow_streams.row]))) (AO.nil (AW.ghost (Ghost.pick [0] (K := [.arr b4 167 48 1 [j72.1.l.map cI ++ (j72.2.l.map cI ++ [])]]) I (by decide)) ?_))))))
 obtain rfl := Option.some.inj h
 refine AW.ret ?_
 exact ⟨.inr I, [_], [], ⟨⟨0, _, _, _, _, _, _, _, I, I, I, I, (part_all I (by simp [Arr.h, flow_streams.row]))⟩, trivial⟩, sl_n, ⟨I, I⟩⟩

set_option maxRecDepth 100000 in
set_option maxHeartbeats 4000000 in
theorem L.flow_Check_1_ok (rate_0 : Int) (r : Bool) (h : L.flow_Check_1 rate_0 = r) : ACalls Try.env 111 [.v (.int .i64 rate_0)] [] (fun x new => x = .v (.bool r) ∧ new = []) := by
 refine ACalls.of_body Try.func111 rfl rfl rfl (fun C hC => ?_)
 unfold L.flow_Check_1 at h
 refine AW.seq (AW.region (AO.a I I (AO.nil (AW.seq (AW.region (AO.m I I (AO.act [] I (AX.callL I (.refl _) I I (.rest _) I (L.flow_within_ok rate_0 1000 _ I) (dst_some I) (by rintro _ _ ⟨rfl, _⟩; rfl) ?_))))))))
 rintro _ ⟨_, rfl, -⟩
 refine AO.p (Yp.not I) I (AO.a I I (AO.nil ?_))
 obtain rfl := h
 refine AW.ret ?_
 exact ⟨.inr I, [_], [], ⟨I, trivial⟩, sl_n, ⟨I, I⟩⟩

set_option maxRecDepth 100000 in
set_option maxHeartbeats 4000000 in
theorem L.flow_Check_ok (n_0 : Network) (p_1 : Plan) (r : Int) (h : L.flow_Check n_0 p_1 = some r) : ACalls Try.env 66 [.agg (Network.row n_0), .agg (Plan.row p_1)] [] (fun x new => x = .v (.int .i64 r) ∧ new = []) := by
 refine ACalls.of_body Try.func66 rfl rfl rfl (fun C hC => ?_)
 unfold L.flow_Check at h
 refine AW.seqG (fun y1 hy1 => (AW.region (AO.act [] I (AX.box (cs := Network.row n_0) (m := 6) I I I (dst_some I) (fun b2 => (AO.act [] I (AX.box (cs := Plan.row p_1) (m := 3) I I I (dst_some I) (fun b3 => (AO.a I I (AO.nil ?_))))))))))
 subst hy1
 refine AW.seqG (fun y4 hy4 => (AW.seq ?_))
 obtain ⟨r5, hx6, h⟩ := ob_some h
 refine AW.region (AO.d (Yd.loadO 0 0 0 I I I I I (y := .agg (Network.row n_0)) I) I (AO.act [] I (AX.callL I (.refl _) I I (.rest _) I (L.network_Check_ok n_0 _ hx6) (dst_some I) (by rintro _ _ ⟨rfl, _⟩; rfl) ?_)))
 rintro _ ⟨_, rfl, -⟩
 refine AO.a I I (AO.nil (AW.seq (AW.region (AO.m I I (AO.p (Yp.cmpI (c := (r5 != 0)) I I I) I (AO.nil (AW.cond I I ?_ ?_)))))))
 intro hc7
 replace h := ife_t hc7 h
 refine AW.seq (AW.region (AO.m I I (AO.a I I (AO.nil (AW.ghost (Ghost.pick [] (K := []) I (by decide)) ?_)))))
 obtain rfl := Option.some.inj h
 refine AW.ret ?_
 exact ⟨.inr I, [_], [], ⟨I, trivial⟩, sl_n, ⟨I, I⟩⟩
 intro hc7
 replace h := ife_f hc7 h
 refine AW.skip ?_
 subst hy4
 refine AW.seqG (fun y8 hy8 => (AW.cutX (fun s ob => s = [(38, .v (.bool (((p_1.Rates.length : Int) != (n_0.Segments.length : Int)) || (((p_1.Ports.length : Int) != (n_0.Ports.length : Int)) || ((p_1.Pumps.length : Int) != (n_0.Stations.length : Int))))))] ∧ ob = [.arr b2 30 6 1 [Network.row n_0], .arr b3 34 3 1 [Plan.row p_1]]) [(2, _), (3, _)] ⟨I, I, trivial⟩ ?_ ?_))
 rcases Bool.eq_false_or_eq_true (((p_1.Rates.length : Int) != (n_0.Segments.length : Int))) with hg12 | hg12
 refine AW.region (AO.p (Yp.fieldPtr I I I I I I) I (AO.d (Yd.loadO 1 0 0 I I I I I (y := .list 1 (p_1.Rates.map rI)) I) I (AO.p (Yp.lenM I I I) I (AO.p (Yp.fieldPtr I I I I I I) I (AO.d (Yd.loadO 0 0 1 I I I I I (y := .list 7 (n_0.Segments.map Segment.row)) I) I (AO.p (Yp.lenM I I I) I (AO.p (Yp.cmpI (c := ((p_1.Rates.length : Int) != (n_0.Segments.length : Int))) I I I) I (AO.m I I (AO.known 21 I hg12 (AO.gf I I I (AO.gf I I I (AO.gf I I I ?_))))))))))))
 refine AO.gf I I I (AO.gf I I I (AO.gf I I I (AO.gf I I I (AO.p (Yp.pickT I I) I (AO.m I I (AO.gf I I I (AO.gf I I I (AO.gf I I I (AO.gf I I I (AO.gf I I I (AO.gf I I I (AO.gf I I I ?_))))))))))))
 refine AO.p (Yp.pickT I I) I (AO.nil ?_)
 exact ⟨_, _, ⟨I, I⟩, ⟨(get_b (by simp only [hg12, Bool.true_and, Bool.false_and, Bool.true_or, Bool.false_or, Bool.not_true, Bool.not_false, cond_true, cond_false])), I, I, trivial⟩, [0, 1], I, by decide⟩
 rcases Bool.eq_false_or_eq_true (((p_1.Ports.length : Int) != (n_0.Ports.length : Int))) with hg13 | hg13
 refine AW.region (AO.p (Yp.fieldPtr I I I I I I) I (AO.d (Yd.loadO 1 0 0 I I I I I (y := .list 1 (p_1.Rates.map rI)) I) I (AO.p (Yp.lenM I I I) I (AO.p (Yp.fieldPtr I I I I I I) I (AO.d (Yd.loadO 0 0 1 I I I I I (y := .list 7 (n_0.Segments.map Segment.row)) I) I (AO.p (Yp.lenM I I I) I (AO.p (Yp.cmpI (c := ((p_1.Rates.length : Int) != (n_0.Segments.length : Int))) I I I) I (AO.m I I (AO.known 21 I hg12 (AO.gt I I I (AO.p (Yp.fieldPtr I I I I I I) I (AO.gt I I I ?_))))))))))))
 refine AO.d (Yd.loadO 1 0 1 I I I I I (y := .list 1 (p_1.Ports.map rI)) I) I (AO.gt I I I (AO.p (Yp.lenM I I I) I (AO.gt I I I (AO.p (Yp.fieldPtr I I I I I I) I (AO.gt I I I (AO.d (Yd.loadO 0 0 2 I I I I I (y := .list 3 (n_0.Ports.map Port.row)) I) I (AO.gt I I I (AO.p (Yp.lenM I I I) I (AO.gt I I I (AO.p (Yp.cmpI (c := ((p_1.Ports.length : Int) != (n_0.Ports.length : Int))) I I I) I (AO.p (Yp.pickF I I) I (AO.m I I ?_))))))))))))
 refine AO.known 30 I hg13 (AO.gf I I I (AO.gf I I I (AO.gf I I I (AO.gf I I I (AO.gf I I I (AO.gf I I I (AO.gf I I I (AO.p (Yp.pickT I I) I (AO.nil ?_)))))))))
 exact ⟨_, _, ⟨I, I⟩, ⟨(get_b (by simp only [hg12, hg13, Bool.true_and, Bool.false_and, Bool.true_or, Bool.false_or, Bool.not_true, Bool.not_false, cond_true, cond_false])), I, I, trivial⟩, [0, 1], I, by decide⟩
 refine AW.region (AO.p (Yp.fieldPtr I I I I I I) I (AO.d (Yd.loadO 1 0 0 I I I I I (y := .list 1 (p_1.Rates.map rI)) I) I (AO.p (Yp.lenM I I I) I (AO.p (Yp.fieldPtr I I I I I I) I (AO.d (Yd.loadO 0 0 1 I I I I I (y := .list 7 (n_0.Segments.map Segment.row)) I) I (AO.p (Yp.lenM I I I) I (AO.p (Yp.cmpI (c := ((p_1.Rates.length : Int) != (n_0.Segments.length : Int))) I I I) I (AO.m I I (AO.known 21 I hg12 (AO.gt I I I (AO.p (Yp.fieldPtr I I I I I I) I (AO.gt I I I ?_))))))))))))
 refine AO.d (Yd.loadO 1 0 1 I I I I I (y := .list 1 (p_1.Ports.map rI)) I) I (AO.gt I I I (AO.p (Yp.lenM I I I) I (AO.gt I I I (AO.p (Yp.fieldPtr I I I I I I) I (AO.gt I I I (AO.d (Yd.loadO 0 0 2 I I I I I (y := .list 3 (n_0.Ports.map Port.row)) I) I (AO.gt I I I (AO.p (Yp.lenM I I I) I (AO.gt I I I (AO.p (Yp.cmpI (c := ((p_1.Ports.length : Int) != (n_0.Ports.length : Int))) I I I) I (AO.p (Yp.pickF I I) I (AO.m I I ?_))))))))))))
 refine AO.known 30 I hg13 (AO.gt I I I (AO.p (Yp.fieldPtr I I I I I I) I (AO.gt I I I (AO.d (Yd.loadO 1 0 2 I I I I I (y := .list 1 (p_1.Pumps.map rB)) I) I (AO.gt I I I (AO.p (Yp.lenM I I I) I (AO.gt I I I (AO.p (Yp.fieldPtr I I I I I I) I (AO.gt I I I (AO.d (Yd.loadO 0 0 3 I I I I I (y := .list 5 (n_0.Stations.map Station.row)) I) I (AO.gt I I I (AO.p (Yp.lenM I I I) I ?_))))))))))))
 refine AO.gt I I I (AO.p (Yp.cmpI (c := ((p_1.Pumps.length : Int) != (n_0.Stations.length : Int))) I I I) I (AO.p (Yp.pickF I I) I (AO.nil ?_)))
 exact ⟨_, _, ⟨I, I⟩, ⟨(get_b (by simp only [hg12, hg13, Bool.true_and, Bool.false_and, Bool.true_or, Bool.false_or, Bool.not_true, Bool.not_false, cond_true, cond_false])), I, I, trivial⟩, [0, 1], I, by decide⟩
 rintro s ob ⟨rfl, rfl⟩
 refine AW.cond I I ?_ ?_
 intro hc14
 replace h := ife_t hc14 h
 refine AW.seq (AW.region (AO.a I I (AO.nil (AW.ghost (Ghost.pick [] (K := []) I (by decide)) ?_))))
 obtain rfl := Option.some.inj h
 refine AW.ret ?_
 exact ⟨.inr I, [_], [], ⟨I, trivial⟩, sl_n, ⟨I, I⟩⟩
 intro hc14
 replace h := ife_f hc14 h
 refine AW.skip ?_
 subst hy8
 refine AW.cutX (fun s ob => ∃ (j39 : Unit), L.flow_Check.J1 n_0 p_1 j39 = some r ∧ s = [] ∧ ob = [.arr b2 30 6 1 [Network.row n_0], .arr b3 34 3 1 [Plan.row p_1]]) [(2, _), (3, _)] ⟨I, I, trivial⟩ ?_ ?_
 refine AW.seqG (fun y53 hy53 => (AW.region (AO.p (Yp.fieldPtr I I I I I I) I (AO.d (Yd.loadO 0 0 1 I I I I I (y := .list 7 (n_0.Segments.map Segment.row)) I) I (AO.p (Yp.lenM I I I) I (AO.m I I (AO.nil ?_)))))))
 subst hy53
 refine AW.block (AW.listMax 40 I (fun hm56 => ?_))
 replace hm56 : n_0.Segments.length ≤ 9223372036854775806 := by rw [List.length_map] at hm56; omega
 obtain ⟨o75, hL76, hR77⟩ := ob_some h
 clear h
 refine AW.forX hL76 [(2, _), (3, _), (40, _), (41, _)] ⟨I, I, I, I, trivial⟩ (fun (k54 : Nat) (st67 : Unit) s ob => s = [(42, .v (.int .i64 (k54 : Int)))] ∧ ob = [.arr b2 30 6 1 [Network.row n_0], .arr b3 34 3 1 [Plan.row p_1]]) ⟨I, I⟩ ⟨I, trivial⟩ ⟨[0, 1], I, by decide⟩ ?_ ?_
 rintro k54 x57 st67 r79 s ob hx58 hk55 ⟨rfl, rfl⟩ h hb78
 unfold L.flow_Check.B2 at h
 have hk55t : decide ((k54 : Int) < (n_0.Segments.length : Int)) = true := by simp; omega
 refine AW.seqG (fun y80 hy80 => (AW.region (AO.p (Yp.cmpI (c := decide ((k54 : Int) < (n_0.Segments.length : Int))) I I I) I (AO.nil ?_))))
 subst hy80
 refine AW.seqG (fun y81 hy81 => (AW.condK (v := true) I hk55t (AW.skip ?_)))
 subst hy81
 refine AW.seq (AW.block (AW.seqG (fun y82 hy82 => (AW.region (AO.m I I (AO.p (Yp.indexE (m := k54) I I I I I I I (map_get hx58)) I (AO.d (Yd.loadE I I (y := .agg (Segment.row x57)) I) I (AO.act [] I (AX.alloc (cs := [.v (.string ⟨#[]⟩), .v (.int .i64 0), .v (.int .i64 0), .v (.int .i64 0), .v (.int .i64 0), .v (.int .i64 0), .v (.slice none 0 0)]) (m := 7) I I I I I (dst_some I) (fun b83 => (AO.a I I (AO.act [2] I (AX.store 2 0 0 (es' := [Segment.row x57]) I I I I I I I I (le_ble I) I I (AO.nil ?_))))))))))))))
 subst hy82
 refine AW.seq ?_
 obtain ⟨p84, hp85, h⟩ := ob_some h
 obtain ⟨hp85i, hp85x⟩ := ix_some hp85
 refine AW.regionD (.still 0 (.still 1 (.still 2 (.still 3 (.still 4 (.still 5 (.still 6 (.still 7 (.act 8 (.still 9 .nil)))))))))) [1, 2] [_, _] (by kernel_rfl) I (AP.op I (Yp.fieldPtr I I I I I I) I (AP.o I (Yd.loadO 0 0 0 I I I I I (y := .list 1 (p_1.Rates.map rI)) I) I (AP.op I (Yp.move I) I (AP.op I (Yp.indexE (m := p84.1) I I I I I I hp85i (map_get hp85x)) I (AP.o I (Yd.loadE I I (y := .v (.int .i64 p84.2)) I) I (AP.op I (Yp.fieldPtr I I I I I I) I (AP.o I (Yd.loadO 1 0 3 I I I I I (y := .v (.int .i64 x57.Capacity)) I) I (AP.op I (Yp.minI I I) I (AP.act [] I I I (AX.callL I (.refl _) I I (.rest _) I (L.flow_within_ok p84.2 (min 1000 x57.Capacity) _ I) (dst_some I) (by rintro _ _ ⟨rfl, _⟩; rfl) ?_))))))))))
 rintro _ ⟨_, rfl, -⟩
 refine AP.p I (Yp.not I) I (AP.ofAO (AO.nil (AW.cond I I ?_ ?_)))
 intro hc86
 replace h := ife_t hc86 h
 refine AW.seq (AW.region (AO.a I I (AO.nil ?_)))
 obtain rfl := hb78 _ (Option.some.inj h).symm
 replace h := hR77
 replace h := se_r h
 refine AW.ghost (Ghost.pick [] (K := []) I (by decide)) ?_
 obtain rfl := Option.some.inj h
 refine AW.ret ?_
 exact ⟨.inr I, [_], [], ⟨I, trivial⟩, sl_n, ⟨I, I⟩⟩
 intro hc86
 replace h := ife_f hc86 h
 refine AW.skip (AW.region (AO.p (Yp.binI (c := ((k54 + 1 : Nat) : Int)) I I (cast_wr hk55 hm56)) I (AO.m I I ?_)))
 obtain rfl := Option.some.inj h
 refine AO.nil ?_
 exact ⟨_, _, _, I, ⟨I, I⟩, ⟨I, I, I, I, I, trivial⟩, [0, 1], I, by decide⟩
 rintro st67 s ob ⟨rfl, rfl⟩ he
 subst he
 have h := se_l hR77
 have hk55f : decide (((n_0.Segments.length : Nat) : Int) < (n_0.Segments.length : Int)) = false := by simp
 refine AW.seqG (fun y87 hy87 => (AW.region (AO.p (Yp.cmpI (c := decide (((n_0.Segments.length : Nat) : Int) < (n_0.Segments.length : Int))) I I I) I (AO.nil ?_))))
 subst hy87
 refine AW.seqG (fun y88 hy88 => (AW.condK (v := false) I hk55f (AW.exit ?_)))
 exact ⟨_, _, ⟨(), h, I, I⟩, ⟨I, I, trivial⟩, [0, 1], I, by decide⟩
 rintro s ob ⟨j39, h, rfl, rfl⟩
 unfold L.flow_Check.J1 at h
 refine AW.seqG (fun y40 hy40 => (AW.seq ?_))
 obtain ⟨r41, hx42, h⟩ := ob_some h
 refine AW.region (AO.p (Yp.fieldPtr I I I I I I) I (AO.d (Yd.loadO 1 0 1 I I I I I (y := .list 1 (p_1.Ports.map rI)) I) I (AO.act [] I (AX.callL I (.refl _) I I (.rest _) I (L.slices_ContainsFunc_int_int_ok p_1.Ports (.v (.func (.func 111) #[] #[])) I (fun x => some (L.flow_Check_1 x)) (fun x r h => by obtain I := Option.some.inj h; exact L.flow_Check_1_ok x _ I) _ hx42) (dst_some I) (by rintro _ _ ⟨rfl, _⟩; rfl) ?_))))
 rintro _ ⟨_, rfl, -⟩
 refine AO.nil (AW.cond I I ?_ ?_)
 intro hc43
 replace h := ife_t hc43 h
 refine AW.seq (AW.region (AO.a I I (AO.nil (AW.ghost (Ghost.pick [] (K := []) I (by decide)) ?_))))
 obtain rfl := Option.some.inj h
 refine AW.ret ?_
 exact ⟨.inr I, [_], [], ⟨I, trivial⟩, sl_n, ⟨I, I⟩⟩
 intro hc43
 replace h := ife_f hc43 h
 refine AW.skip ?_
 subst hy40
 refine AW.seqG (fun y44 hy44 => (AW.seq ?_))
 obtain ⟨r45, hx46, h⟩ := ob_some h
 refine AW.region (AO.d (Yd.loadO 0 0 0 I I I I I (y := .agg (Network.row n_0)) I) I (AO.d (Yd.loadO 1 0 0 I I I I I (y := .agg (Plan.row p_1)) I) I (AO.act [] I (AX.call0 I I I (L.flow_sums_ok n_0 p_1 _ hx46) (dst_some I) ?_))))
 rintro _ _ ⟨rfl, rfl⟩
 refine AO.act [] I (AX.alloc (cs := (Arr.rep 24 (0 : Int)).l.map cI ++ ((Arr.rep 24 (0 : Int)).l.map cI ++ [])) (m := 48) I I I I I (dst_some I) (fun b47 => (AO.act [2] I (AX.store 2 0 0 (es' := [r45.come.l.map cI ++ (r45.leave.l.map cI ++ [])]) I I I I I I I (by simp [Arr.h, flow_streams.row]) (by simp [Arr.h, flow_streams.row]) I (congrArg (fun r => [r]) (setC_all (by simp [Arr.h, flow_streams.row]))) (AO.nil (AW.seq (AW.region (AO.p (Yp.fieldPtr I I I I I I) I (AO.d (Yd.loadO 2 0 0 I I I I I (y := .agg (r45.come.l.map cI)) (part_here I (by simp [Arr.h, flow_streams.row]))) I (AO.p (Yp.fieldPtr I I I I I I) I (AO.d (Yd.loadO 2 0 24 I I I I I (y := .agg (r45.leave.l.map cI)) (part_skip (k := 24) I I (by simp [Arr.h, flow_streams.row]) (part_here I (by simp [Arr.h, flow_streams.row])))) I (AO.p (Yp.eqArr (a := r45.come) (b := r45.leave) I I I I I Try.eq165 I I I) I (AO.nil (AW.cond I I ?_ ?_))))))))))))))
 intro hc48
 replace h := ife_t hc48 h
 refine AW.seq (AW.region (AO.a I I (AO.nil (AW.ghost (Ghost.pick [] (K := []) I (by decide)) ?_))))
 obtain rfl := Option.some.inj h
 refine AW.ret ?_
 exact ⟨.inr I, [_], [], ⟨I, trivial⟩, sl_n, ⟨I, I⟩⟩
 intro hc48
 replace h := ife_f hc48 h
 refine AW.skip ?_
 subst hy44
 refine AW.seq (AW.seq ?_)
 obtain ⟨r49, hx50, h⟩ := ob_some h
 refine AW.regionD (.still 0 (.still 1 (.still 4 (.still 5 (.still 6 (.act 2 (.act 3 (.still 7 .nil)))))))) [0, 1] [_, _] (by kernel_rfl) I (AP.o I (Yd.loadO 0 0 0 I I I I I (y := .agg (Network.row n_0)) I) I (AP.o I (Yd.loadO 1 0 0 I I I I I (y := .agg (Plan.row p_1)) I) I (AP.op I (Yp.fieldPtr I I I I I I) I (AP.o I (Yd.loadO 0 0 0 I I I I I (y := .list 1 (n_0.Nodes.map rS)) I) I (AP.op I (Yp.lenM I I I) I (AP.act [] I I I (AX.call0 I I I (L.flow_order_ok n_0 p_1 _ hx50) (dst_some I) ?_)))))))
 rintro _ _ ⟨v51, rfl, rfl⟩
 refine AP.act [] I I I (AX.of_yd (Yd.lenUM 3 I I I I) (dst_some I) (AP.p I (Yp.cmpI (c := decide ((r49.length : Int) < (n_0.Nodes.length : Int))) I I I) I (AP.ofAO (AO.nil (AW.cond I I ?_ ?_)))))
 intro hc52
 replace h := ife_t hc52 h
 refine AW.seq (AW.region (AO.a I I (AO.nil (AW.ghost (Ghost.pick [] (K := []) I (by decide)) ?_))))
 obtain rfl := Option.some.inj h
 refine AW.ret ?_
 exact ⟨.inr I, [_], [], ⟨I, trivial⟩, sl_n, ⟨I, I⟩⟩
 intro hc52
 replace h := ife_f hc52 h
 refine AW.skip (AW.seq (AW.region (AO.a I I (AO.nil (AW.ghost (Ghost.pick [] (K := []) I (by decide)) ?_)))))
 obtain rfl := Option.some.inj h
 refine AW.ret ?_
 exact ⟨.inr I, [_], [], ⟨I, trivial⟩, sl_n, ⟨I, I⟩⟩

end Go.Proofs.Ytndfiddakngjdaa
