/- Walks that show what functions of the program compute; printed by a program of ours. No condition. -/
import Derived.Test.YtndfiddakngjdaaL2
import Derived.Test.YtndfiddakngjdaaDp
namespace Go.Proofs.Ytndfiddakngjdaa
open Go.Aw
set_option linter.unusedVariables false
set_option linter.unusedSimpArgs false
set_option maxRecDepth 100000
set_option maxHeartbeats 4000000

set_option maxRecDepth 100000 in
theorem L.slices_Clone_int_int_ok (s0 : List Int) (r : List Int) (h : L.slices_Clone_int_int s0 = some r) : ACalls Try.env 67 [.list 1 (s0.map rI)] [] (fun x new => ∃ (u0 : Value), x = .v u0 ∧ new = [.us u0 3 1 (r.map rI)]) := by
  refine ACalls.of_body Try.func67 rfl rfl rfl (fun C hC => ?_)
  unfold L.slices_Clone_int_int at h
  obtain ⟨h1, h2⟩ := app_some h
  refine AW.seq ?_
  refine AW.region ?_
  refine AO.p (Yp.assign rfl) rfl ?_
  refine AO.nil ?_
  refine AW.seq ?_
  refine AW.seq ?_
  refine AW.region ?_
  refine AO.p (Yp.move rfl) rfl ?_
  refine AO.act [] rfl (AX.eqNil rfl rfl rfl (dst_some rfl) (fun c hc => ?_))
  refine AO.nil ?_
  refine AW.cond rfl rfl ?_ ?_
  · intro hb
    have hs : s0 = [] := by have := hc hb; simpa using this
    subst hs
    refine AW.seq ?_
    refine AW.region ?_
    refine AO.p (Yp.assign rfl) rfl ?_
    refine AO.ghost (Ghost.nilU 3 1) ?_
    refine AO.nil ?_
    refine AW.ret ?_
    have hr : r = [] := by simpa using h2.symm
    subst hr
    exact ⟨.inr rfl, [_], [.us (.slice none 0 0) 3 1 ([].map rI)], ⟨rfl, trivial⟩, sl_c rfl sl_n, ⟨_, rfl, rfl⟩⟩
  · intro hb
    refine AW.skip ?_
    refine AW.seq ?_
    refine AW.region ?_
    refine AO.act [] rfl (AX.buildSlice (sz := 1) (es := []) rfl rfl rfl rfl rfl rfl rfl rfl rfl rfl rfl (dst_some rfl) (fun v1 => ?_))
    refine AO.p (Yp.move rfl) rfl ?_
    refine AO.act [0] rfl (AX.appendU 0 (es' := r.map rI) rfl rfl rfl rfl rfl rfl rfl rfl rfl (AppSrc.list rfl) (by simpa using h1) (by rw [← h2]; simp) (dst_some rfl) (fun v2 => ?_))
    refine AO.p (Yp.assign rfl) rfl ?_
    refine AO.nil ?_
    refine AW.ret ?_
    exact ⟨.inr rfl, [_], [.us v2 3 1 (r.map rI)], ⟨rfl, trivial⟩, sl_c rfl sl_n, ⟨_, rfl, rfl⟩⟩

theorem L.paths_signed_ok (h_0 : Hop) (rate_1 : Int) (r : Int) (h : L.paths_signed h_0 rate_1 = r) : ACalls Try.env 114 [.agg (Hop.row h_0), .v (.int .i64 rate_1)] [] (fun x new => x = .v (.int .i64 r) ∧ new = []) := by
 refine ACalls.of_body Try.func114 rfl rfl rfl (fun C hC => ?_)
 unfold L.paths_signed at h
 refine AW.seqG (fun y1 hy1 => (AW.region (AO.act [] I (AX.box (cs := Hop.row h_0) (m := 2) I I I (dst_some I) (fun b2 => (AO.q 1 I (AO.nil ?_)))))))
 subst hy1
 refine AW.seq (AW.zr [.o 1 0] I ⟨I, trivial⟩ (AW.ch h I ?_ ?_))
 intro hc3 h
 refine AW.z I (AW.ghost (Ghost.pick [] (K := []) I (by decide)) ?_)
 obtain rfl := h
 exact AW.ret ⟨.inr I, [_], [], ⟨I, trivial⟩, sl_n, I, I⟩
 intro hc3 h
 refine AW.skip (AW.z I (AW.ghost (Ghost.pick [] (K := []) I (by decide)) ?_))
 obtain rfl := h
 exact AW.ret ⟨.inr I, [_], [], ⟨I, trivial⟩, sl_n, I, I⟩

theorem L.paths_divider_follow_ok (b0 : Nat) (d_0 : paths_divider) (w0_0 : Value) (w0_1 : Value) (in_1 : Int) (r : Path × paths_divider) (h : L.paths_divider_follow d_0 in_1 = some r) : ACalls Try.env 68 [.v (.pointer (some ⟨b0, 0, none⟩)), .v (.int .i64 in_1)] [.arr b0 112 8 1 [[.list 1 (d_0.n_.Nodes.map rS), .list 7 (d_0.n_.Segments.map Segment.row), .list 3 (d_0.n_.Ports.map Port.row), .list 5 (d_0.n_.Stations.map Station.row), .v (.int .i64 d_0.n_.Vapour), .v (.int .i64 d_0.n_.Settle), .v w0_0, .v w0_1]], .us w0_0 3 1 (d_0.rates.map rI), .us w0_1 3 1 (d_0.ports.map rI)] (Gives 3 (fun x os new => ∃ (u1_0 : Value) (u1_1 : Value), x = .agg (Path.row r.1) ∧ os = [.arr b0 112 8 1 [[.list 1 (r.2.n_.Nodes.map rS), .list 7 (r.2.n_.Segments.map Segment.row), .list 3 (r.2.n_.Ports.map Port.row), .list 5 (r.2.n_.Stations.map Station.row), .v (.int .i64 r.2.n_.Vapour), .v (.int .i64 r.2.n_.Settle), .v u1_0, .v u1_1]], .us u1_0 3 1 (r.2.rates.map rI), .us u1_1 3 1 (r.2.ports.map rI)] ∧ new = [])) := by
 refine ACalls.of_body Try.func68 rfl rfl rfl (fun C hC => ?_)
 unfold L.paths_divider_follow at h
 refine AW.seqG (fun y1 hy1 => (AW.region (AO.act [] I (AX.alloc (cs := [.v (.int .i64 0), .v (.int .i64 0), .v (.slice none 0 0), .v (.int .i64 0)]) (m := 4) I I I I I (dst_some I) (fun b2 => (AO.nil ?_))))))
 subst hy1
 refine AW.scope (AW.seqG (fun y3 hy3 => ?_))
 obtain ⟨p4, hp5, h⟩ := ob_some h
 obtain ⟨hp5i, hp5x⟩ := ix_some hp5
 refine AW.region (AO.r 6 [.o 4 0] I ⟨I, trivial⟩ (AO.d (Yd.indexU 2 (m := p4.1) I I I I I I I hp5i (map_get hp5x)) I (AO.d (Yd.loadU 2 p4.1 0 I I I (map_get hp5x) I (y := .v (.int .i64 p4.2)) I) I (AO.p (Yp.buildP (l := [.v (.int .i64 in_1), .v (.int .i64 0), .v (.slice none 0 0), .v (.int .i64 p4.2)]) Try.bld58 I) I (AO.act [] I (AX.alloc (cs := [.v (.int .i64 0), .v (.int .i64 0), .v (.slice none 0 0), .v (.int .i64 0)]) (m := 4) I I I I I (dst_some I) (fun b6 => (AO.act [4] I (AX.store 4 0 0 (es' := [[.v (.int .i64 in_1), .v (.int .i64 0), .v (.slice none 0 0), .v (.int .i64 p4.2)]]) I I I I I I I I (le_ble I) I I (AO.nil ?_))))))))))
 subst hy3
 refine AW.seqG (fun y7 hy7 => ?_)
 obtain ⟨p8, hp9, h⟩ := ob_some h
 obtain ⟨hp9i, hp9x⟩ := ix_some hp9
 refine AW.tr [.o 4 0, .x 6 p8.1 (Port.row p8.2)] I ⟨⟨hp9i, map_get hp9x⟩, I, trivial⟩ ?_
 subst hy7
 refine AW.seqG (fun y10 hy10 => (AW.label ?_))
 subst hy10
 refine AW.cutX (fun s ob => ∃ (j323 : Int × (List Hop) × Int) (v324 : Value), L.paths_divider_follow.J1 d_0 in_1 p4 j323 = some r ∧ s = [] ∧ ob = [.arr b0 112 8 1 [[.list 1 (d_0.n_.Nodes.map rS), .list 7 (d_0.n_.Segments.map Segment.row), .list 3 (d_0.n_.Ports.map Port.row), .list 5 (d_0.n_.Stations.map Station.row), .v (.int .i64 d_0.n_.Vapour), .v (.int .i64 d_0.n_.Settle), .v w0_0, .v w0_1]], .us w0_0 3 1 (d_0.rates.map rI), .us w0_1 3 1 (d_0.ports.map rI), .arr b2 58 4 1 [[.v (.int .i64 0), .v (.int .i64 0), .v (.slice none 0 0), .v (.int .i64 0)]], .arr b6 58 4 1 [[.v (.int .i64 in_1), .v (.int .i64 j323.1), .v v324, .v (.int .i64 j323.2.2)]], .us v324 60 2 (j323.2.1.map Hop.row)]) [(0, _), (1, _), (4, _), (5, _)] ⟨I, I, I, I, trivial⟩ ?_ ?_
 refine AW.block (AW.ghost (Ghost.nilU 60 2) ?_)
 obtain ⟨o741, hL742, hR743⟩ := ob_some h
 clear h
 refine AW.loopX hL742 [(0, _), (1, _), (4, _), (5, _)] ⟨I, I, I, I, trivial⟩ (fun (st637 : (List Hop) × Int × Int) s ob => ∃ (v638 : Value), s = [(6, .v (.int .i64 st637.2.2))] ∧ ob = [.arr b0 112 8 1 [[.list 1 (d_0.n_.Nodes.map rS), .list 7 (d_0.n_.Segments.map Segment.row), .list 3 (d_0.n_.Ports.map Port.row), .list 5 (d_0.n_.Stations.map Station.row), .v (.int .i64 d_0.n_.Vapour), .v (.int .i64 d_0.n_.Settle), .v w0_0, .v w0_1]], .us w0_0 3 1 (d_0.rates.map rI), .us w0_1 3 1 (d_0.ports.map rI), .arr b2 58 4 1 [[.v (.int .i64 0), .v (.int .i64 0), .v (.slice none 0 0), .v (.int .i64 0)]], .arr b6 58 4 1 [[.v (.int .i64 in_1), .v (.int .i64 0), .v v638, .v (.int .i64 st637.2.1)]], .us v638 60 2 (st637.1.map Hop.row)]) ⟨(.slice none 0 0), I, I⟩ ⟨I, trivial⟩ ⟨[0, 1, 2, 3, 4, 5], I, by decide⟩ ?_
 rintro st637 r745 s ob ⟨v638, rfl, rfl⟩ h hb744
 unfold L.paths_divider_follow.B4 at h
 refine AW.block (AW.cutX (fun s ob => ∃ (j780 : Unit), L.paths_divider_follow.J5 d_0 st637 j780 = some r745 ∧ s = [] ∧ ob = [.arr b0 112 8 1 [[.list 1 (d_0.n_.Nodes.map rS), .list 7 (d_0.n_.Segments.map Segment.row), .list 3 (d_0.n_.Ports.map Port.row), .list 5 (d_0.n_.Stations.map Station.row), .v (.int .i64 d_0.n_.Vapour), .v (.int .i64 d_0.n_.Settle), .v w0_0, .v w0_1]], .us w0_0 3 1 (d_0.rates.map rI), .us w0_1 3 1 (d_0.ports.map rI), .arr b2 58 4 1 [[.v (.int .i64 0), .v (.int .i64 0), .v (.slice none 0 0), .v (.int .i64 0)]], .arr b6 58 4 1 [[.v (.int .i64 in_1), .v (.int .i64 0), .v v638, .v (.int .i64 st637.2.1)]], .us v638 60 2 (st637.1.map Hop.row)]) [(0, _), (1, _), (4, _), (5, _), (6, _)] ⟨I, I, I, I, I, trivial⟩ ?_ ?_)
 refine AW.zr [.o 4 0, .l 5 (d_0.n_.Ports.length : Int)] I ⟨len_m, I, trivial⟩ (AW.block (AW.listMax 38 I (fun hm959 => ?_)))
 replace hm959 : d_0.n_.Ports.length ≤ 9223372036854775806 := by rw [List.length_map] at hm959; omega
 obtain ⟨o988, hL989, hR990⟩ := ob_some h
 clear h
 refine AW.forX hL989 [(0, _), (1, _), (4, _), (5, _), (6, _), (38, _), (39, _)] ⟨I, I, I, I, I, I, I, trivial⟩ (fun (k957 : Nat) (st975 : Unit) s ob => s = [(40, .v (.int .i64 (k957 : Int)))] ∧ ob = [.arr b0 112 8 1 [[.list 1 (d_0.n_.Nodes.map rS), .list 7 (d_0.n_.Segments.map Segment.row), .list 3 (d_0.n_.Ports.map Port.row), .list 5 (d_0.n_.Stations.map Station.row), .v (.int .i64 d_0.n_.Vapour), .v (.int .i64 d_0.n_.Settle), .v w0_0, .v w0_1]], .us w0_0 3 1 (d_0.rates.map rI), .us w0_1 3 1 (d_0.ports.map rI), .arr b2 58 4 1 [[.v (.int .i64 0), .v (.int .i64 0), .v (.slice none 0 0), .v (.int .i64 0)]], .arr b6 58 4 1 [[.v (.int .i64 in_1), .v (.int .i64 0), .v v638, .v (.int .i64 st637.2.1)]], .us v638 60 2 (st637.1.map Hop.row)]) ⟨I, I⟩ ⟨I, trivial⟩ ⟨[0, 1, 2, 3, 4, 5], I, by decide⟩ ?_ ?_
 rintro k957 x960 st975 r992 s ob hx961 hk958 ⟨rfl, rfl⟩ h hb991
 unfold L.paths_divider_follow.B10 at h
 have hk958t : decide ((k957 : Int) < (d_0.n_.Ports.length : Int)) = true := by simp; omega
 refine AW.z I (AW.seqG (fun y994 hy994 => (AW.condK (v := true) I hk958t (AW.skip ?_))))
 subst hy994
 refine AW.seq (AW.block (AW.seqG (fun y995 hy995 => (AW.region (AO.r 3 [.x 1 k957 (Port.row x960)] I ⟨⟨I, map_get hx961⟩, trivial⟩ (AO.act [] I (AX.alloc (cs := [.v (.string ⟨#[]⟩), .v (.int .i64 0), .v (.int .i64 0)]) (m := 3) I I I I I (dst_some I) (fun b996 => (AO.q 1 I (AO.act [6] I (AX.store 6 0 0 (es' := [Port.row x960]) I I I I I I I I (le_ble I) I I (AO.nil ?_))))))))))))
 subst hy995
 refine AW.cutX (fun s ob => ∃ (j1000 : Bool), L.paths_divider_follow.J11 d_0 st637 k957 j1000 = some r992 ∧ s = [(58, .v (.bool j1000))] ∧ ob = [.arr b0 112 8 1 [[.list 1 (d_0.n_.Nodes.map rS), .list 7 (d_0.n_.Segments.map Segment.row), .list 3 (d_0.n_.Ports.map Port.row), .list 5 (d_0.n_.Stations.map Station.row), .v (.int .i64 d_0.n_.Vapour), .v (.int .i64 d_0.n_.Settle), .v w0_0, .v w0_1]], .us w0_0 3 1 (d_0.rates.map rI), .us w0_1 3 1 (d_0.ports.map rI), .arr b2 58 4 1 [[.v (.int .i64 0), .v (.int .i64 0), .v (.slice none 0 0), .v (.int .i64 0)]], .arr b6 58 4 1 [[.v (.int .i64 in_1), .v (.int .i64 0), .v v638, .v (.int .i64 st637.2.1)]], .us v638 60 2 (st637.1.map Hop.row)]) [(0, _), (1, _), (4, _), (5, _), (6, _), (7, _), (38, _), (39, _), (40, _)] ⟨I, I, I, I, I, I, I, I, I, trivial⟩ ?_ ?_
 rcases Bool.eq_false_or_eq_true ((x960.Node == st637.2.2)) with hg1005 | hg1005
 replace h := ife_t hg1005 h
 obtain ⟨p1006, hp1007, h⟩ := ob_some h
 obtain ⟨hp1007i, hp1007x⟩ := ix_some hp1007
 refine AW.region (AO.r 5 [.o 1 6] I ⟨I, trivial⟩ (AO.known 49 I hg1005 (AO.r 5 [.o 3 0] I ⟨I, trivial⟩ (AO.gt I I I (AO.d (Yd.indexU 2 (m := p1006.1) I I I I I I I hp1007i (map_get hp1007x)) I (AO.gt I I I (AO.d (Yd.loadU 2 p1006.1 0 I I I (map_get hp1007x) I (y := .v (.int .i64 p1006.2)) I) I (AO.q 2 I (AO.nil ?_)))))))))
 exact lg ⟨decide (p1006.2 < 0), h, I, I⟩ [0, 1, 2, 3, 4, 5]
 replace h := ife_f hg1005 h
 refine AW.region (AO.r 5 [.o 1 6] I ⟨I, trivial⟩ (AO.known 49 I hg1005 (AO.q 9 I (AO.nil ?_))))
 exact lg ⟨false, h, I, I⟩ [0, 1, 2, 3, 4, 5]
 rintro s ob ⟨j1000, h, rfl, rfl⟩
 unfold L.paths_divider_follow.J11 at h
 refine AW.ch h I ?_ ?_
 intro hc1001 h
 refine AW.seq ?_
 obtain ⟨p1002, hp1003, h⟩ := ob_some h
 obtain ⟨hp1003i, hp1003x⟩ := ix_some hp1003
 refine AW.form 2 p1002.1 I hp1003x (fun hf1004 => (AW.rd (.still 0 (.still 1 (.still 3 (.still 4 (.still 5 (.still 6 (.still 7 (.still 8 (.still 9 (.still 10 (.act 2 (.still 11 (.still 12 (.act 13 (.still 14 (.act 15 .nil)))))))))))))))) [0, 2] [_, _] I (AP.r 7 [.o 5 0] I ⟨I, trivial⟩ (AP.op I (Yp.indexUf (m := p1002.1) I I I I I hf1004 I hp1003i hp1003x) I (AP.o I (Yd.loadU 1 p1002.1 0 I I I (map_get hp1003x) I (y := .v (.int .i64 p1002.2)) I) I (AP.q 1 I (AP.act [] I I I (AX.of_yd (Yd.loadO 4 0 3 I I I I I (y := .v (.int .i64 st637.2.1)) I) (dst_some I) (AP.q 2 I (AP.act [4] I I I (AX.store 4 0 1 (es' := [[.v (.int .i64 in_1), .v (.int .i64 (k957 : Int)), .v v638, .v (.int .i64 st637.2.1)]]) I I I I I I I I (le_ble I) I I (AP.q 1 I (AP.act [4] I I I (AX.store 4 0 3 (es' := [[.v (.int .i64 in_1), .v (.int .i64 (k957 : Int)), .v v638, .v (.int .i64 (min st637.2.1 (wr (0 - p1002.2))))]]) I I I I I I I I (le_ble I) I I (AP.ofAO (AO.nil ?_))))))))))))))))
 obtain rfl := hb991 _ (Option.some.inj h).symm
 replace h := hR990
 replace h := se_r h
 obtain rfl := hb744 _ (Option.some.inj h).symm
 replace h := hR743
 refine AW.exit ?_
 exact lg ⟨((k957 : Int), st637.1, (min st637.2.1 (wr (0 - p1002.2)))), v638, h, I, I⟩ [0, 1, 2, 3, 4, 5]
 intro hc1001 h
 refine AW.skip (AW.region (AO.r 2 [.k 0 (k957 + 1 : Nat)] I ⟨cast_wr hk958 hm959, trivial⟩ ?_))
 obtain rfl := Option.some.inj h
 refine AO.nil ?_
 exact ⟨_, _, _, I, ⟨I, I⟩, ⟨I, I, I, I, I, I, I, I, trivial⟩, [0, 1, 2, 3, 4, 5], I, by decide⟩
 rintro st975 s ob ⟨rfl, rfl⟩ he
 subst he
 have h := se_l hR990
 have hk958f : decide (((d_0.n_.Ports.length : Nat) : Int) < (d_0.n_.Ports.length : Int)) = false := by simp
 refine AW.z I (AW.seqG (fun y1009 hy1009 => (AW.condK (v := false) I hk958f (AW.exit ?_))))
 exact lg ⟨(), h, I, I⟩ [0, 1, 2, 3, 4, 5]
 rintro s ob ⟨j780, h, rfl, rfl⟩
 unfold L.paths_divider_follow.J5 at h
 refine AW.cutX (fun s ob => ∃ (j847 : Unit), L.paths_divider_follow.J6 st637 j847 = some r745 ∧ s = [] ∧ ob = [.arr b0 112 8 1 [[.list 1 (d_0.n_.Nodes.map rS), .list 7 (d_0.n_.Segments.map Segment.row), .list 3 (d_0.n_.Ports.map Port.row), .list 5 (d_0.n_.Stations.map Station.row), .v (.int .i64 d_0.n_.Vapour), .v (.int .i64 d_0.n_.Settle), .v w0_0, .v w0_1]], .us w0_0 3 1 (d_0.rates.map rI), .us w0_1 3 1 (d_0.ports.map rI), .arr b2 58 4 1 [[.v (.int .i64 0), .v (.int .i64 0), .v (.slice none 0 0), .v (.int .i64 0)]], .arr b6 58 4 1 [[.v (.int .i64 in_1), .v (.int .i64 0), .v v638, .v (.int .i64 st637.2.1)]], .us v638 60 2 (st637.1.map Hop.row)]) [(0, _), (1, _), (4, _), (5, _)] ⟨I, I, I, I, trivial⟩ ?_ ?_
 refine AW.zr [.o 4 0, .l 5 (d_0.n_.Segments.length : Int)] I ⟨len_m, I, trivial⟩ (AW.block (AW.listMax 78 I (fun hm851 => ?_)))
 replace hm851 : d_0.n_.Segments.length ≤ 9223372036854775806 := by rw [List.length_map] at hm851; omega
 obtain ⟨o912, hL913, hR914⟩ := ob_some h
 clear h
 refine AW.forX hL913 [(0, _), (1, _), (4, _), (5, _), (78, _), (79, _)] ⟨I, I, I, I, I, I, trivial⟩ (fun (k849 : Nat) (st883 : Unit) s ob => s = [(80, .v (.int .i64 (k849 : Int))), (6, .v (.int .i64 st637.2.2))] ∧ ob = [.arr b0 112 8 1 [[.list 1 (d_0.n_.Nodes.map rS), .list 7 (d_0.n_.Segments.map Segment.row), .list 3 (d_0.n_.Ports.map Port.row), .list 5 (d_0.n_.Stations.map Station.row), .v (.int .i64 d_0.n_.Vapour), .v (.int .i64 d_0.n_.Settle), .v w0_0, .v w0_1]], .us w0_0 3 1 (d_0.rates.map rI), .us w0_1 3 1 (d_0.ports.map rI), .arr b2 58 4 1 [[.v (.int .i64 0), .v (.int .i64 0), .v (.slice none 0 0), .v (.int .i64 0)]], .arr b6 58 4 1 [[.v (.int .i64 in_1), .v (.int .i64 0), .v v638, .v (.int .i64 st637.2.1)]], .us v638 60 2 (st637.1.map Hop.row)]) ⟨I, I⟩ ⟨I, I, trivial⟩ ⟨[0, 1, 2, 3, 4, 5], I, by decide⟩ ?_ ?_
 rintro k849 x852 st883 r916 s ob hx853 hk850 ⟨rfl, rfl⟩ h hb915
 unfold L.paths_divider_follow.B7 at h
 have hk850t : decide ((k849 : Int) < (d_0.n_.Segments.length : Int)) = true := by simp; omega
 refine AW.z I (AW.seqG (fun y918 hy918 => (AW.condK (v := true) I hk850t (AW.skip ?_))))
 subst hy918
 refine AW.seq (AW.block (AW.seqG (fun y919 hy919 => (AW.region (AO.r 3 [.x 1 k849 (Segment.row x852)] I ⟨⟨I, map_get hx853⟩, trivial⟩ (AO.act [] I (AX.alloc (cs := [.v (.string ⟨#[]⟩), .v (.int .i64 0), .v (.int .i64 0), .v (.int .i64 0), .v (.int .i64 0), .v (.int .i64 0), .v (.slice none 0 0)]) (m := 7) I I I I I (dst_some I) (fun b920 => (AO.q 1 I (AO.act [6] I (AX.store 6 0 0 (es' := [Segment.row x852]) I I I I I I I I (le_ble I) I I (AO.nil ?_))))))))))))
 subst hy919
 refine AW.seqG (fun y921 hy921 => ?_)
 obtain ⟨p922, hp923, h⟩ := ob_some h
 obtain ⟨hp923i, hp923x⟩ := ix_some hp923
 refine AW.form 1 p922.1 I hp923x (fun hf924 => (AW.rd (pd 14 0 []) [6, 0, 1] [_, _, _] I (AP.r 9 [.o 1 0, .o 3 0, .o 7 1] I ⟨I, I, I, trivial⟩ (AP.op I (Yp.indexUf (m := p922.1) I I I I I hf924 I hp923i hp923x) I (AP.o I (Yd.loadU 2 p922.1 0 I I I (map_get hp923x) I (y := .v (.int .i64 p922.2)) I) I (AP.q 3 I (AP.ofAO (AO.nil ?_))))))))
 subst hy921
 refine AW.cutX (fun s ob => s = [(102, .v (.bool (decide (p922.2 > 0) && (x852.From == st637.2.2))))] ∧ ob = [.arr b0 112 8 1 [[.list 1 (d_0.n_.Nodes.map rS), .list 7 (d_0.n_.Segments.map Segment.row), .list 3 (d_0.n_.Ports.map Port.row), .list 5 (d_0.n_.Stations.map Station.row), .v (.int .i64 d_0.n_.Vapour), .v (.int .i64 d_0.n_.Settle), .v w0_0, .v w0_1]], .us w0_0 3 1 (d_0.rates.map rI), .us w0_1 3 1 (d_0.ports.map rI), .arr b2 58 4 1 [[.v (.int .i64 0), .v (.int .i64 0), .v (.slice none 0 0), .v (.int .i64 0)]], .arr b6 58 4 1 [[.v (.int .i64 in_1), .v (.int .i64 0), .v v638, .v (.int .i64 st637.2.1)]], .us v638 60 2 (st637.1.map Hop.row)]) [(0, _), (1, _), (4, _), (5, _), (6, _), (9, _), (11, _), (12, _), (13, _), (78, _), (79, _), (80, _)] ⟨I, I, I, I, I, I, I, I, I, I, I, I, trivial⟩ ?_ ?_
 rcases Bool.eq_false_or_eq_true (decide (p922.2 > 0)) with hg927 | hg927
 refine AW.region (AO.q 3 I (AO.known 98 I hg927 (AO.q 4 I (AO.nil ?_))))
 exact lf ⟨I, I⟩ ⟨(get_b (by simp only [hg927, bz])), I, I, I, I, I, I, I, I, I, I, I, I, trivial⟩ [0, 1, 2, 3, 4, 5] I
 refine AW.region (AO.q 3 I (AO.known 98 I hg927 (AO.q 4 I (AO.nil ?_))))
 exact lf ⟨I, I⟩ ⟨(get_b (by simp only [hg927, bz])), I, I, I, I, I, I, I, I, I, I, I, I, trivial⟩ [0, 1, 2, 3, 4, 5] I
 rintro s ob ⟨rfl, rfl⟩
 refine AW.ch h I ?_ ?_
 intro hc928 h
 refine AW.cutX (fun s ob => ∃ (j933 : List Hop) (v934 : Value), L.paths_divider_follow.J8 st637 x852 p922 j933 = some r916 ∧ s = [(6, .v (.int .i64 x852.To))] ∧ ob = [.arr b0 112 8 1 [[.list 1 (d_0.n_.Nodes.map rS), .list 7 (d_0.n_.Segments.map Segment.row), .list 3 (d_0.n_.Ports.map Port.row), .list 5 (d_0.n_.Stations.map Station.row), .v (.int .i64 d_0.n_.Vapour), .v (.int .i64 d_0.n_.Settle), .v w0_0, .v w0_1]], .us w0_0 3 1 (d_0.rates.map rI), .us w0_1 3 1 (d_0.ports.map rI), .arr b2 58 4 1 [[.v (.int .i64 0), .v (.int .i64 0), .v (.slice none 0 0), .v (.int .i64 0)]], .arr b6 58 4 1 [[.v (.int .i64 in_1), .v (.int .i64 0), .v v934, .v (.int .i64 (min st637.2.1 p922.2))]], .us v934 60 2 (j933.map Hop.row)]) [(0, _), (1, _), (4, _), (5, _)] ⟨I, I, I, I, trivial⟩ ?_ ?_
 obtain ⟨l936, hx937, h⟩ := ob_some h
 refine AW.rd (.still 0 (.still 2 (.still 3 (.still 6 (.still 8 (.still 10 (.three 1 4 7 (.two 4 7 (.two 5 7 (.act 7 (.still 9 (.still 11 (.act 12 (.still 13 (.act 14 (.still 15 .nil))))))) (.still 9 (.act 5 (.still 11 (.act 12 (.still 13 (.act 14 (.still 15 .nil)))))))) (.still 9 (.act 4 (.act 5 (.still 11 (.act 12 (.still 13 (.act 14 (.still 15 .nil))))))))) (.two 1 7 (.two 5 7 (.act 7 (.still 9 (.still 11 (.act 12 (.still 13 (.act 14 (.still 15 .nil))))))) (.still 9 (.act 5 (.still 11 (.act 12 (.still 13 (.act 14 (.still 15 .nil)))))))) (.still 9 (.act 1 (.act 5 (.still 11 (.act 12 (.still 13 (.act 14 (.still 15 .nil))))))))) (.still 9 (.two 1 4 (.act 4 (.act 5 (.still 11 (.act 12 (.still 13 (.act 14 (.still 15 .nil))))))) (.act 1 (.act 5 (.still 11 (.act 12 (.still 13 (.act 14 (.still 15 .nil)))))))))))))))) [] [] I (AP.q 2 I (AP.op I (Yp.buildP (l := [.v (.int .i64 (k849 : Int)), .v (.bool false)]) Try.bld60 I) I (AP.q 3 I (AP.three ?_ ?_ ?_))))
 refine AP.act [] I I I (AX.of_yd (Yd.loadO 4 0 2 I I I I I (y := .v v638) I) (dst_some I) (AP.two ?_ ?_))
 refine AP.act [] I I I (AX.lt 2 (([(⟨(k849 : Int), false⟩ : Hop)] : List Hop).map Hop.row) (AP.two ?_ ?_))
 refine AP.act [5] I I I (AX.ap 5 I hx937 (fun v938 => (AP.act [] I I I (AX.of_yd (Yd.loadO 4 0 3 I I I I I (y := .v (.int .i64 st637.2.1)) I) (dst_some I) (AP.q 2 I (AP.one 5 I (fun v938o => (AP.act [4] I I I (AX.store 4 0 2 (es' := [[.v (.int .i64 in_1), .v (.int .i64 0), .v v938, .v (.int .i64 st637.2.1)]]) I I I I I I (cells_v v938o) I (le_ble I) I I (AP.q 1 I (AP.act [4] I I I (AX.store 4 0 3 (es' := [[.v (.int .i64 in_1), .v (.int .i64 0), .v v938, .v (.int .i64 (min st637.2.1 p922.2))]]) I I I I I I I I (le_ble I) I I (AP.q 1 I (AP.ofAO (AO.nil ?_)))))))))))))))
 exact lg ⟨l936, v938, h, I, I⟩ [0, 1, 2, 3, 4, 5]
 refine AP.act [] I I I (AX.of_yd (Yd.loadO 4 0 3 I I I I I (y := .v (.int .i64 st637.2.1)) I) (dst_some I) (AP.q 1 I (AP.act [5] I I I (AX.ap 5 I hx937 (fun v938 => (AP.q 1 I (AP.one 5 I (fun v938o => (AP.act [4] I I I (AX.store 4 0 2 (es' := [[.v (.int .i64 in_1), .v (.int .i64 0), .v v938, .v (.int .i64 st637.2.1)]]) I I I I I I (cells_v v938o) I (le_ble I) I I (AP.q 1 I (AP.act [4] I I I (AX.store 4 0 3 (es' := [[.v (.int .i64 in_1), .v (.int .i64 0), .v v938, .v (.int .i64 (min st637.2.1 p922.2))]]) I I I I I I I I (le_ble I) I I (AP.q 1 I (AP.ofAO (AO.nil ?_))))))))))))))))
 exact lg ⟨l936, v938, h, I, I⟩ [0, 1, 2, 3, 4, 5]
 refine AP.act [] I I I (AX.of_yd (Yd.loadO 4 0 3 I I I I I (y := .v (.int .i64 st637.2.1)) I) (dst_some I) (AP.q 1 I (AP.act [] I I I (AX.lt 2 (([(⟨(k849 : Int), false⟩ : Hop)] : List Hop).map Hop.row) (AP.act [5] I I I (AX.ap 5 I hx937 (fun v938 => (AP.q 1 I (AP.one 5 I (fun v938o => (AP.act [4] I I I (AX.store 4 0 2 (es' := [[.v (.int .i64 in_1), .v (.int .i64 0), .v v938, .v (.int .i64 st637.2.1)]]) I I I I I I (cells_v v938o) I (le_ble I) I I (AP.q 1 I (AP.act [4] I I I (AX.store 4 0 3 (es' := [[.v (.int .i64 in_1), .v (.int .i64 0), .v v938, .v (.int .i64 (min st637.2.1 p922.2))]]) I I I I I I I I (le_ble I) I I (AP.q 1 I (AP.ofAO (AO.nil ?_))))))))))))))))))
 exact lg ⟨l936, v938, h, I, I⟩ [0, 1, 2, 3, 4, 5]
 refine AP.act [] I I I (AX.lt 2 (([(⟨(k849 : Int), false⟩ : Hop)] : List Hop).map Hop.row) (AP.two ?_ ?_))
 refine AP.act [] I I I (AX.of_yd (Yd.loadO 4 0 2 I I I I I (y := .v v638) I) (dst_some I) (AP.two ?_ ?_))
 refine AP.act [5] I I I (AX.ap 5 I hx937 (fun v938 => (AP.act [] I I I (AX.of_yd (Yd.loadO 4 0 3 I I I I I (y := .v (.int .i64 st637.2.1)) I) (dst_some I) (AP.q 2 I (AP.one 5 I (fun v938o => (AP.act [4] I I I (AX.store 4 0 2 (es' := [[.v (.int .i64 in_1), .v (.int .i64 0), .v v938, .v (.int .i64 st637.2.1)]]) I I I I I I (cells_v v938o) I (le_ble I) I I (AP.q 1 I (AP.act [4] I I I (AX.store 4 0 3 (es' := [[.v (.int .i64 in_1), .v (.int .i64 0), .v v938, .v (.int .i64 (min st637.2.1 p922.2))]]) I I I I I I I I (le_ble I) I I (AP.q 1 I (AP.ofAO (AO.nil ?_)))))))))))))))
 exact lg ⟨l936, v938, h, I, I⟩ [0, 1, 2, 3, 4, 5]
 refine AP.act [] I I I (AX.of_yd (Yd.loadO 4 0 3 I I I I I (y := .v (.int .i64 st637.2.1)) I) (dst_some I) (AP.q 1 I (AP.act [5] I I I (AX.ap 5 I hx937 (fun v938 => (AP.q 1 I (AP.one 5 I (fun v938o => (AP.act [4] I I I (AX.store 4 0 2 (es' := [[.v (.int .i64 in_1), .v (.int .i64 0), .v v938, .v (.int .i64 st637.2.1)]]) I I I I I I (cells_v v938o) I (le_ble I) I I (AP.q 1 I (AP.act [4] I I I (AX.store 4 0 3 (es' := [[.v (.int .i64 in_1), .v (.int .i64 0), .v v938, .v (.int .i64 (min st637.2.1 p922.2))]]) I I I I I I I I (le_ble I) I I (AP.q 1 I (AP.ofAO (AO.nil ?_))))))))))))))))
 exact lg ⟨l936, v938, h, I, I⟩ [0, 1, 2, 3, 4, 5]
 refine AP.act [] I I I (AX.of_yd (Yd.loadO 4 0 3 I I I I I (y := .v (.int .i64 st637.2.1)) I) (dst_some I) (AP.q 1 I (AP.act [] I I I (AX.of_yd (Yd.loadO 4 0 2 I I I I I (y := .v v638) I) (dst_some I) (AP.act [5] I I I (AX.ap 5 I hx937 (fun v938 => (AP.q 1 I (AP.one 5 I (fun v938o => (AP.act [4] I I I (AX.store 4 0 2 (es' := [[.v (.int .i64 in_1), .v (.int .i64 0), .v v938, .v (.int .i64 st637.2.1)]]) I I I I I I (cells_v v938o) I (le_ble I) I I (AP.q 1 I (AP.act [4] I I I (AX.store 4 0 3 (es' := [[.v (.int .i64 in_1), .v (.int .i64 0), .v v938, .v (.int .i64 (min st637.2.1 p922.2))]]) I I I I I I I I (le_ble I) I I (AP.q 1 I (AP.ofAO (AO.nil ?_))))))))))))))))))
 exact lg ⟨l936, v938, h, I, I⟩ [0, 1, 2, 3, 4, 5]
 refine AP.act [] I I I (AX.of_yd (Yd.loadO 4 0 3 I I I I I (y := .v (.int .i64 st637.2.1)) I) (dst_some I) (AP.q 1 I (AP.two ?_ ?_)))
 refine AP.act [] I I I (AX.of_yd (Yd.loadO 4 0 2 I I I I I (y := .v v638) I) (dst_some I) (AP.act [] I I I (AX.lt 2 (([(⟨(k849 : Int), false⟩ : Hop)] : List Hop).map Hop.row) (AP.act [5] I I I (AX.ap 5 I hx937 (fun v938 => (AP.q 1 I (AP.one 5 I (fun v938o => (AP.act [4] I I I (AX.store 4 0 2 (es' := [[.v (.int .i64 in_1), .v (.int .i64 0), .v v938, .v (.int .i64 st637.2.1)]]) I I I I I I (cells_v v938o) I (le_ble I) I I (AP.q 1 I (AP.act [4] I I I (AX.store 4 0 3 (es' := [[.v (.int .i64 in_1), .v (.int .i64 0), .v v938, .v (.int .i64 (min st637.2.1 p922.2))]]) I I I I I I I I (le_ble I) I I (AP.q 1 I (AP.ofAO (AO.nil ?_)))))))))))))))))
 exact lg ⟨l936, v938, h, I, I⟩ [0, 1, 2, 3, 4, 5]
 refine AP.act [] I I I (AX.lt 2 (([(⟨(k849 : Int), false⟩ : Hop)] : List Hop).map Hop.row) (AP.act [] I I I (AX.of_yd (Yd.loadO 4 0 2 I I I I I (y := .v v638) I) (dst_some I) (AP.act [5] I I I (AX.ap 5 I hx937 (fun v938 => (AP.q 1 I (AP.one 5 I (fun v938o => (AP.act [4] I I I (AX.store 4 0 2 (es' := [[.v (.int .i64 in_1), .v (.int .i64 0), .v v938, .v (.int .i64 st637.2.1)]]) I I I I I I (cells_v v938o) I (le_ble I) I I (AP.q 1 I (AP.act [4] I I I (AX.store 4 0 3 (es' := [[.v (.int .i64 in_1), .v (.int .i64 0), .v v938, .v (.int .i64 (min st637.2.1 p922.2))]]) I I I I I I I I (le_ble I) I I (AP.q 1 I (AP.ofAO (AO.nil ?_)))))))))))))))))
 exact lg ⟨l936, v938, h, I, I⟩ [0, 1, 2, 3, 4, 5]
 rintro s ob ⟨j933, v934, h, rfl, rfl⟩
 unfold L.paths_divider_follow.J8 at h
 obtain rfl := hb915 _ (Option.some.inj h).symm
 replace h := hR914
 replace h := se_r h
 obtain rfl := Option.some.inj h
 refine AW.exit ?_
 exact ⟨_, _, _, I, ⟨v934, I, I⟩, ⟨I, I, I, I, I, trivial⟩, [0, 1, 2, 3, 4, 5], I, by decide⟩
 intro hc928 h
 refine AW.cutX (fun s ob => s = [(122, .v (.bool (decide (p922.2 < 0) && (x852.To == st637.2.2))))] ∧ ob = [.arr b0 112 8 1 [[.list 1 (d_0.n_.Nodes.map rS), .list 7 (d_0.n_.Segments.map Segment.row), .list 3 (d_0.n_.Ports.map Port.row), .list 5 (d_0.n_.Stations.map Station.row), .v (.int .i64 d_0.n_.Vapour), .v (.int .i64 d_0.n_.Settle), .v w0_0, .v w0_1]], .us w0_0 3 1 (d_0.rates.map rI), .us w0_1 3 1 (d_0.ports.map rI), .arr b2 58 4 1 [[.v (.int .i64 0), .v (.int .i64 0), .v (.slice none 0 0), .v (.int .i64 0)]], .arr b6 58 4 1 [[.v (.int .i64 in_1), .v (.int .i64 0), .v v638, .v (.int .i64 st637.2.1)]], .us v638 60 2 (st637.1.map Hop.row)]) [(0, _), (1, _), (4, _), (5, _), (6, _), (9, _), (11, _), (13, _), (78, _), (79, _), (80, _)] ⟨I, I, I, I, I, I, I, I, I, I, I, trivial⟩ ?_ ?_
 rcases Bool.eq_false_or_eq_true (decide (p922.2 < 0)) with hg941 | hg941
 refine AW.region (AO.q 3 I (AO.known 118 I hg941 (AO.q 4 I (AO.nil ?_))))
 exact lf ⟨I, I⟩ ⟨(get_b (by simp only [hg941, bz])), I, I, I, I, I, I, I, I, I, I, I, trivial⟩ [0, 1, 2, 3, 4, 5] I
 refine AW.region (AO.q 3 I (AO.known 118 I hg941 (AO.q 4 I (AO.nil ?_))))
 exact lf ⟨I, I⟩ ⟨(get_b (by simp only [hg941, bz])), I, I, I, I, I, I, I, I, I, I, I, trivial⟩ [0, 1, 2, 3, 4, 5] I
 rintro s ob ⟨rfl, rfl⟩
 refine AW.ch h I ?_ ?_
 intro hc942 h
 refine AW.cutX (fun s ob => ∃ (j947 : List Hop) (v948 : Value), L.paths_divider_follow.J9 st637 x852 p922 j947 = some r916 ∧ s = [(6, .v (.int .i64 x852.From))] ∧ ob = [.arr b0 112 8 1 [[.list 1 (d_0.n_.Nodes.map rS), .list 7 (d_0.n_.Segments.map Segment.row), .list 3 (d_0.n_.Ports.map Port.row), .list 5 (d_0.n_.Stations.map Station.row), .v (.int .i64 d_0.n_.Vapour), .v (.int .i64 d_0.n_.Settle), .v w0_0, .v w0_1]], .us w0_0 3 1 (d_0.rates.map rI), .us w0_1 3 1 (d_0.ports.map rI), .arr b2 58 4 1 [[.v (.int .i64 0), .v (.int .i64 0), .v (.slice none 0 0), .v (.int .i64 0)]], .arr b6 58 4 1 [[.v (.int .i64 in_1), .v (.int .i64 0), .v v948, .v (.int .i64 (min st637.2.1 (wr (0 - p922.2))))]], .us v948 60 2 (j947.map Hop.row)]) [(0, _), (1, _), (4, _), (5, _)] ⟨I, I, I, I, trivial⟩ ?_ ?_
 obtain ⟨l950, hx951, h⟩ := ob_some h
 refine AW.rd (.still 0 (.still 2 (.still 3 (.still 6 (.still 8 (.still 9 (.still 11 (.three 1 4 7 (.two 4 7 (.two 5 7 (.act 7 (.still 10 (.still 12 (.act 13 (.still 14 (.act 15 (.still 16 .nil))))))) (.still 10 (.act 5 (.still 12 (.act 13 (.still 14 (.act 15 (.still 16 .nil)))))))) (.still 10 (.act 4 (.act 5 (.still 12 (.act 13 (.still 14 (.act 15 (.still 16 .nil))))))))) (.two 1 7 (.two 5 7 (.act 7 (.still 10 (.still 12 (.act 13 (.still 14 (.act 15 (.still 16 .nil))))))) (.still 10 (.act 5 (.still 12 (.act 13 (.still 14 (.act 15 (.still 16 .nil)))))))) (.still 10 (.act 1 (.act 5 (.still 12 (.act 13 (.still 14 (.act 15 (.still 16 .nil))))))))) (.still 10 (.two 1 4 (.act 4 (.act 5 (.still 12 (.act 13 (.still 14 (.act 15 (.still 16 .nil))))))) (.act 1 (.act 5 (.still 12 (.act 13 (.still 14 (.act 15 (.still 16 .nil))))))))))))))))) [] [] I (AP.q 2 I (AP.op I (Yp.buildP (l := [.v (.int .i64 (k849 : Int)), .v (.bool true)]) Try.bld60 I) I (AP.q 4 I (AP.three ?_ ?_ ?_))))
 refine AP.act [] I I I (AX.of_yd (Yd.loadO 4 0 2 I I I I I (y := .v v638) I) (dst_some I) (AP.two ?_ ?_))
 refine AP.act [] I I I (AX.lt 2 (([(⟨(k849 : Int), true⟩ : Hop)] : List Hop).map Hop.row) (AP.two ?_ ?_))
 refine AP.act [5] I I I (AX.ap 5 I hx951 (fun v952 => (AP.act [] I I I (AX.of_yd (Yd.loadO 4 0 3 I I I I I (y := .v (.int .i64 st637.2.1)) I) (dst_some I) (AP.q 2 I (AP.one 5 I (fun v952o => (AP.act [4] I I I (AX.store 4 0 2 (es' := [[.v (.int .i64 in_1), .v (.int .i64 0), .v v952, .v (.int .i64 st637.2.1)]]) I I I I I I (cells_v v952o) I (le_ble I) I I (AP.q 1 I (AP.act [4] I I I (AX.store 4 0 3 (es' := [[.v (.int .i64 in_1), .v (.int .i64 0), .v v952, .v (.int .i64 (min st637.2.1 (wr (0 - p922.2))))]]) I I I I I I I I (le_ble I) I I (AP.q 1 I (AP.ofAO (AO.nil ?_)))))))))))))))
 exact lg ⟨l950, v952, h, I, I⟩ [0, 1, 2, 3, 4, 5]
 refine AP.act [] I I I (AX.of_yd (Yd.loadO 4 0 3 I I I I I (y := .v (.int .i64 st637.2.1)) I) (dst_some I) (AP.q 1 I (AP.act [5] I I I (AX.ap 5 I hx951 (fun v952 => (AP.q 1 I (AP.one 5 I (fun v952o => (AP.act [4] I I I (AX.store 4 0 2 (es' := [[.v (.int .i64 in_1), .v (.int .i64 0), .v v952, .v (.int .i64 st637.2.1)]]) I I I I I I (cells_v v952o) I (le_ble I) I I (AP.q 1 I (AP.act [4] I I I (AX.store 4 0 3 (es' := [[.v (.int .i64 in_1), .v (.int .i64 0), .v v952, .v (.int .i64 (min st637.2.1 (wr (0 - p922.2))))]]) I I I I I I I I (le_ble I) I I (AP.q 1 I (AP.ofAO (AO.nil ?_))))))))))))))))
 exact lg ⟨l950, v952, h, I, I⟩ [0, 1, 2, 3, 4, 5]
 refine AP.act [] I I I (AX.of_yd (Yd.loadO 4 0 3 I I I I I (y := .v (.int .i64 st637.2.1)) I) (dst_some I) (AP.q 1 I (AP.act [] I I I (AX.lt 2 (([(⟨(k849 : Int), true⟩ : Hop)] : List Hop).map Hop.row) (AP.act [5] I I I (AX.ap 5 I hx951 (fun v952 => (AP.q 1 I (AP.one 5 I (fun v952o => (AP.act [4] I I I (AX.store 4 0 2 (es' := [[.v (.int .i64 in_1), .v (.int .i64 0), .v v952, .v (.int .i64 st637.2.1)]]) I I I I I I (cells_v v952o) I (le_ble I) I I (AP.q 1 I (AP.act [4] I I I (AX.store 4 0 3 (es' := [[.v (.int .i64 in_1), .v (.int .i64 0), .v v952, .v (.int .i64 (min st637.2.1 (wr (0 - p922.2))))]]) I I I I I I I I (le_ble I) I I (AP.q 1 I (AP.ofAO (AO.nil ?_))))))))))))))))))
 exact lg ⟨l950, v952, h, I, I⟩ [0, 1, 2, 3, 4, 5]
 refine AP.act [] I I I (AX.lt 2 (([(⟨(k849 : Int), true⟩ : Hop)] : List Hop).map Hop.row) (AP.two ?_ ?_))
 refine AP.act [] I I I (AX.of_yd (Yd.loadO 4 0 2 I I I I I (y := .v v638) I) (dst_some I) (AP.two ?_ ?_))
 refine AP.act [5] I I I (AX.ap 5 I hx951 (fun v952 => (AP.act [] I I I (AX.of_yd (Yd.loadO 4 0 3 I I I I I (y := .v (.int .i64 st637.2.1)) I) (dst_some I) (AP.q 2 I (AP.one 5 I (fun v952o => (AP.act [4] I I I (AX.store 4 0 2 (es' := [[.v (.int .i64 in_1), .v (.int .i64 0), .v v952, .v (.int .i64 st637.2.1)]]) I I I I I I (cells_v v952o) I (le_ble I) I I (AP.q 1 I (AP.act [4] I I I (AX.store 4 0 3 (es' := [[.v (.int .i64 in_1), .v (.int .i64 0), .v v952, .v (.int .i64 (min st637.2.1 (wr (0 - p922.2))))]]) I I I I I I I I (le_ble I) I I (AP.q 1 I (AP.ofAO (AO.nil ?_)))))))))))))))
 exact lg ⟨l950, v952, h, I, I⟩ [0, 1, 2, 3, 4, 5]
 refine AP.act [] I I I (AX.of_yd (Yd.loadO 4 0 3 I I I I I (y := .v (.int .i64 st637.2.1)) I) (dst_some I) (AP.q 1 I (AP.act [5] I I I (AX.ap 5 I hx951 (fun v952 => (AP.q 1 I (AP.one 5 I (fun v952o => (AP.act [4] I I I (AX.store 4 0 2 (es' := [[.v (.int .i64 in_1), .v (.int .i64 0), .v v952, .v (.int .i64 st637.2.1)]]) I I I I I I (cells_v v952o) I (le_ble I) I I (AP.q 1 I (AP.act [4] I I I (AX.store 4 0 3 (es' := [[.v (.int .i64 in_1), .v (.int .i64 0), .v v952, .v (.int .i64 (min st637.2.1 (wr (0 - p922.2))))]]) I I I I I I I I (le_ble I) I I (AP.q 1 I (AP.ofAO (AO.nil ?_))))))))))))))))
 exact lg ⟨l950, v952, h, I, I⟩ [0, 1, 2, 3, 4, 5]
 refine AP.act [] I I I (AX.of_yd (Yd.loadO 4 0 3 I I I I I (y := .v (.int .i64 st637.2.1)) I) (dst_some I) (AP.q 1 I (AP.act [] I I I (AX.of_yd (Yd.loadO 4 0 2 I I I I I (y := .v v638) I) (dst_some I) (AP.act [5] I I I (AX.ap 5 I hx951 (fun v952 => (AP.q 1 I (AP.one 5 I (fun v952o => (AP.act [4] I I I (AX.store 4 0 2 (es' := [[.v (.int .i64 in_1), .v (.int .i64 0), .v v952, .v (.int .i64 st637.2.1)]]) I I I I I I (cells_v v952o) I (le_ble I) I I (AP.q 1 I (AP.act [4] I I I (AX.store 4 0 3 (es' := [[.v (.int .i64 in_1), .v (.int .i64 0), .v v952, .v (.int .i64 (min st637.2.1 (wr (0 - p922.2))))]]) I I I I I I I I (le_ble I) I I (AP.q 1 I (AP.ofAO (AO.nil ?_))))))))))))))))))
 exact lg ⟨l950, v952, h, I, I⟩ [0, 1, 2, 3, 4, 5]
 refine AP.act [] I I I (AX.of_yd (Yd.loadO 4 0 3 I I I I I (y := .v (.int .i64 st637.2.1)) I) (dst_some I) (AP.q 1 I (AP.two ?_ ?_)))
 refine AP.act [] I I I (AX.of_yd (Yd.loadO 4 0 2 I I I I I (y := .v v638) I) (dst_some I) (AP.act [] I I I (AX.lt 2 (([(⟨(k849 : Int), true⟩ : Hop)] : List Hop).map Hop.row) (AP.act [5] I I I (AX.ap 5 I hx951 (fun v952 => (AP.q 1 I (AP.one 5 I (fun v952o => (AP.act [4] I I I (AX.store 4 0 2 (es' := [[.v (.int .i64 in_1), .v (.int .i64 0), .v v952, .v (.int .i64 st637.2.1)]]) I I I I I I (cells_v v952o) I (le_ble I) I I (AP.q 1 I (AP.act [4] I I I (AX.store 4 0 3 (es' := [[.v (.int .i64 in_1), .v (.int .i64 0), .v v952, .v (.int .i64 (min st637.2.1 (wr (0 - p922.2))))]]) I I I I I I I I (le_ble I) I I (AP.q 1 I (AP.ofAO (AO.nil ?_)))))))))))))))))
 exact lg ⟨l950, v952, h, I, I⟩ [0, 1, 2, 3, 4, 5]
 refine AP.act [] I I I (AX.lt 2 (([(⟨(k849 : Int), true⟩ : Hop)] : List Hop).map Hop.row) (AP.act [] I I I (AX.of_yd (Yd.loadO 4 0 2 I I I I I (y := .v v638) I) (dst_some I) (AP.act [5] I I I (AX.ap 5 I hx951 (fun v952 => (AP.q 1 I (AP.one 5 I (fun v952o => (AP.act [4] I I I (AX.store 4 0 2 (es' := [[.v (.int .i64 in_1), .v (.int .i64 0), .v v952, .v (.int .i64 st637.2.1)]]) I I I I I I (cells_v v952o) I (le_ble I) I I (AP.q 1 I (AP.act [4] I I I (AX.store 4 0 3 (es' := [[.v (.int .i64 in_1), .v (.int .i64 0), .v v952, .v (.int .i64 (min st637.2.1 (wr (0 - p922.2))))]]) I I I I I I I I (le_ble I) I I (AP.q 1 I (AP.ofAO (AO.nil ?_)))))))))))))))))
 exact lg ⟨l950, v952, h, I, I⟩ [0, 1, 2, 3, 4, 5]
 rintro s ob ⟨j947, v948, h, rfl, rfl⟩
 unfold L.paths_divider_follow.J9 at h
 obtain rfl := hb915 _ (Option.some.inj h).symm
 replace h := hR914
 replace h := se_r h
 obtain rfl := Option.some.inj h
 refine AW.exit ?_
 exact ⟨_, _, _, I, ⟨v948, I, I⟩, ⟨I, I, I, I, I, trivial⟩, [0, 1, 2, 3, 4, 5], I, by decide⟩
 intro hc942 h
 refine AW.skip (AW.region (AO.r 2 [.k 0 (k849 + 1 : Nat)] I ⟨cast_wr hk850 hm851, trivial⟩ ?_))
 obtain rfl := Option.some.inj h
 refine AO.nil ?_
 exact ⟨_, _, _, I, ⟨I, I⟩, ⟨I, I, I, I, I, I, I, I, trivial⟩, [0, 1, 2, 3, 4, 5], I, by decide⟩
 rintro st883 s ob ⟨rfl, rfl⟩ he
 subst he
 have h := se_l hR914
 have hk850f : decide (((d_0.n_.Segments.length : Nat) : Int) < (d_0.n_.Segments.length : Int)) = false := by simp
 refine AW.z I (AW.seqG (fun y954 hy954 => (AW.condK (v := false) I hk850f (AW.exit ?_))))
 exact lg ⟨(), h, I, I⟩ [0, 1, 2, 3, 4, 5]
 rintro s ob ⟨j847, h, rfl, rfl⟩
 unfold L.paths_divider_follow.J6 at h
 obtain rfl := hb744 _ (Option.some.inj h).symm
 replace h := hR743
 refine AW.exit ?_
 exact lg ⟨(0, st637.1, st637.2.1), v638, h, I, I⟩ [0, 1, 2, 3, 4, 5]
 rintro s ob ⟨j323, v324, h, rfl, rfl⟩
 unfold L.paths_divider_follow.J1 at h
 refine AW.seqG (fun y325 hy325 => (AW.form 2 p4.1 I hp5x (fun hf326 => (AW.form 2 p4.1 I hp5x (fun hf327 => (AW.rd (.still 0 (.still 1 (.still 2 (.still 3 (.still 4 (.still 5 (.still 6 (.still 7 (.still 8 (.still 9 (.still 10 (.drop 11 .nil)))))))))))) [0, 2, 4] [_, _, _] I (AP.r 5 [.o 3 0] I ⟨I, trivial⟩ (AP.op I (Yp.indexUf (m := p4.1) I I I I I hf326 I hp5i hp5x) I (AP.o I (Yd.loadU 1 p4.1 0 I I I (map_get hp5x) I (y := .v (.int .i64 p4.2)) I) I (AP.r 3 [.o 1 2] I ⟨I, trivial⟩ (AP.op I (Yp.indexUf (m := p4.1) I I I I I hf327 I hp5i hp5x) I (AP.drop [2] I I I (AX.storeU 2 p4.1 0 I I I (map_get hp5x) I I I I (le_ble I) I (us_set (x := wr (p4.2 - j323.2.2)) I) (AP.ofAO (AO.nil ?_)))))))))))))))
 subst hy325
 refine AW.seqG (fun y328 hy328 => ?_)
 obtain ⟨p329, hp330, h⟩ := ob_some h
 obtain ⟨hp330i, hp330x⟩ := ix_some hp330
 refine AW.form 2 p329.1 I hp330x (fun hf331 => (AW.form 2 p329.1 I hp330x (fun hf332 => (AW.rd (.still 0 (.still 1 (.still 2 (.still 3 (.still 4 (.still 5 (.still 6 (.still 7 (.still 8 (.still 9 (.still 10 (.still 11 (.drop 12 .nil))))))))))))) [0, 4, 2] [_, _, _] I (AP.r 6 [.o 3 0, .o 5 1] I ⟨I, I, trivial⟩ (AP.op I (Yp.indexUf (m := p329.1) I I I I I hf331 I hp330i hp330x) I (AP.o I (Yd.loadU 2 p329.1 0 I I I (map_get hp330x) I (y := .v (.int .i64 p329.2)) I) I (AP.r 3 [.o 1 1] I ⟨I, trivial⟩ (AP.op I (Yp.indexUf (m := p329.1) I I I I I hf332 I hp330i hp330x) I (AP.drop [2] I I I (AX.storeU 2 p329.1 0 I I I (map_get hp330x) I I I I (le_ble I) I (us_set (x := wr (p329.2 + j323.2.2)) I) (AP.ofAO (AO.nil ?_)))))))))))))
 subst hy328
 refine AW.cutX (fun s ob => ∃ (j373 : List Int), L.paths_divider_follow.J2 d_0 in_1 p4 j323 p329 j373 = some r ∧ s = [] ∧ ob = [.arr b0 112 8 1 [[.list 1 (d_0.n_.Nodes.map rS), .list 7 (d_0.n_.Segments.map Segment.row), .list 3 (d_0.n_.Ports.map Port.row), .list 5 (d_0.n_.Stations.map Station.row), .v (.int .i64 d_0.n_.Vapour), .v (.int .i64 d_0.n_.Settle), .v w0_0, .v w0_1]], .us w0_0 3 1 (j373.map rI), .us w0_1 3 1 (((d_0.ports.set p4.1 (wr (p4.2 - j323.2.2))).set p329.1 (wr (p329.2 + j323.2.2))).map rI), .arr b2 58 4 1 [[.v (.int .i64 0), .v (.int .i64 0), .v (.slice none 0 0), .v (.int .i64 0)]], .arr b6 58 4 1 [[.v (.int .i64 in_1), .v (.int .i64 j323.1), .v v324, .v (.int .i64 j323.2.2)]], .us v324 60 2 (j323.2.1.map Hop.row)]) [(4, _), (5, _)] ⟨I, I, trivial⟩ ?_ ?_
 refine AW.seqG (fun y374 hy374 => (AW.region (AO.r 2 [.o 1 4] I ⟨I, trivial⟩ (AO.d (Yd.lenUM 5 I I I I) I (AO.q 1 I (AO.nil ?_))))))
 subst hy374
 refine AW.block (AW.usMax 5 I (fun hm377 => ?_))
 replace hm377 : j323.2.1.length ≤ 9223372036854775806 := by rw [List.length_map] at hm377; omega
 obtain ⟨o412, hL413, hR414⟩ := ob_some h
 clear h
 refine AW.forJY hL413 [(0, _), (4, _), (5, _), (162, _), (163, _)] ⟨I, I, I, I, I, trivial⟩ (fun (k375 : Nat) (st401 : List Int) s ob => s = [(164, .v (.int .i64 (k375 : Int)))] ∧ ob = [.arr b0 112 8 1 [[.list 1 (d_0.n_.Nodes.map rS), .list 7 (d_0.n_.Segments.map Segment.row), .list 3 (d_0.n_.Ports.map Port.row), .list 5 (d_0.n_.Stations.map Station.row), .v (.int .i64 d_0.n_.Vapour), .v (.int .i64 d_0.n_.Settle), .v w0_0, .v w0_1]], .us w0_0 3 1 (st401.map rI), .us w0_1 3 1 (((d_0.ports.set p4.1 (wr (p4.2 - j323.2.2))).set p329.1 (wr (p329.2 + j323.2.2))).map rI), .arr b2 58 4 1 [[.v (.int .i64 0), .v (.int .i64 0), .v (.slice none 0 0), .v (.int .i64 0)]], .arr b6 58 4 1 [[.v (.int .i64 in_1), .v (.int .i64 j323.1), .v v324, .v (.int .i64 j323.2.2)]], .us v324 60 2 (j323.2.1.map Hop.row)]) ⟨I, I⟩ ⟨I, trivial⟩ ⟨[0, 1, 2, 3, 4, 5], I, by decide⟩ ?_ ?_
 rintro k375 st401 r416 s ob hk376 ⟨rfl, rfl⟩ h
 unfold L.paths_divider_follow.B3 at h
 have hk376t : decide ((k375 : Int) < (j323.2.1.length : Int)) = true := by simp; omega
 refine AW.z I (AW.seqG (fun y418 hy418 => (AW.condK (v := true) I hk376t (AW.skip ?_))))
 subst hy418
 refine AW.seq (AW.block (AW.seqG (fun y419 hy419 => ?_)))
 obtain ⟨p420, hp421, h⟩ := ob_some h
 obtain ⟨hp421i, hp421x⟩ := ix_some hp421
 refine AW.region (AO.d (Yd.indexU 5 (m := p420.1) I I I I I I I hp421i (map_get hp421x)) I (AO.d (Yd.loadU 5 p420.1 0 I I I (map_get hp421x) I (y := .agg (Hop.row p420.2)) I) I (AO.act [] I (AX.alloc (cs := [.v (.int .i64 0), .v (.bool false)]) (m := 2) I I I I I (dst_some I) (fun b422 => (AO.act [6] I (AX.store 6 0 0 (es' := [Hop.row p420.2]) I I I I I I I I (le_ble I) I I (AO.nil ?_))))))))
 subst hy419
 obtain ⟨p423, hp424, h⟩ := ob_some h
 obtain ⟨hp424i, hp424x⟩ := ix_some hp424
 refine AW.form 1 p423.1 I hp424x (fun hf425 => (AW.form 1 p423.1 I hp424x (fun hf426 => (AW.rd (.still 0 (.still 1 (.still 2 (.still 3 (.still 4 (.still 5 (.still 6 (.still 7 (.still 8 (.still 9 (.still 10 (.act 11 (.still 12 (.still 13 (.drop 14 .nil))))))))))))))) [0, 6, 1, 4] [_, _, _, _] I (AP.r 6 [.o 3 0, .o 5 1] I ⟨I, I, trivial⟩ (AP.op I (Yp.indexUf (m := p423.1) I I I I I hf425 I hp424i hp424x) I (AP.o I (Yd.loadU 2 p423.1 0 I I I (map_get hp424x) I (y := .v (.int .i64 p423.2)) I) I (AP.r 3 [.o 0 1, .o 2 3] I ⟨I, I, trivial⟩ (AP.c I (L.paths_signed_ok p420.2 j323.2.2 _ I) (AP.q 1 I (AP.op I (Yp.indexUf (m := p423.1) I I I I I hf426 I hp424i hp424x) I (AP.drop [1] I I I (AX.storeU 1 p423.1 0 I I I (map_get hp424x) I I I I (le_ble I) I (us_set (x := wr (p423.2 - (L.paths_signed p420.2 j323.2.2))) I) (AP.ofAO (AO.nil ?_)))))))))))))))
 refine AW.region (AO.r 2 [.k 0 (k375 + 1 : Nat)] I ⟨cast_wr hk376 hm377, trivial⟩ ?_)
 obtain rfl := Option.some.inj h
 refine AO.nil ?_
 exact lg ⟨I, I⟩ [0, 1, 2, 3, 4, 5]
 rintro st401 s ob ⟨rfl, rfl⟩ he
 subst he
 have h := hR414
 have hk376f : decide (((j323.2.1.length : Nat) : Int) < (j323.2.1.length : Int)) = false := by simp
 refine AW.z I (AW.seqG (fun y428 hy428 => (AW.condK (v := false) I hk376f (AW.exit ?_))))
 exact lg ⟨st401, h, I, I⟩ [0, 1, 2, 3, 4, 5]
 rintro s ob ⟨j373, h, rfl, rfl⟩
 unfold L.paths_divider_follow.J2 at h
 refine AW.seq (AW.region (AO.r 1 [.o 0 4] I ⟨I, trivial⟩ (AO.act [3] I (AX.store 3 0 0 (es' := [[.v (.int .i64 in_1), .v (.int .i64 j323.1), .v v324, .v (.int .i64 j323.2.2)]]) I I I I I I I I (le_ble I) I I (AO.nil (AW.ghost (Ghost.freeze [5] (K := [.us v324 60 2 (j323.2.1.map Hop.row)]) I [(183, .agg [.v (.int .i64 in_1), .v (.int .i64 j323.1), .list 2 (j323.2.1.map Hop.row), .v (.int .i64 j323.2.2)])] ⟨⟨_, I, .agg (.cons (.refl _) (.cons (.refl _) (.cons (.us 0 I) (.rest _))))⟩, trivial⟩ (ob' := [.arr b0 112 8 1 [[.list 1 (d_0.n_.Nodes.map rS), .list 7 (d_0.n_.Segments.map Segment.row), .list 3 (d_0.n_.Ports.map Port.row), .list 5 (d_0.n_.Stations.map Station.row), .v (.int .i64 d_0.n_.Vapour), .v (.int .i64 d_0.n_.Settle), .v w0_0, .v w0_1]], .us w0_0 3 1 (j373.map rI), .us w0_1 3 1 (((d_0.ports.set p4.1 (wr (p4.2 - j323.2.2))).set p329.1 (wr (p329.2 + j323.2.2))).map rI), .arr b2 58 4 1 [[.v (.int .i64 in_1), .v (.int .i64 j323.1), .list 2 (j323.2.1.map Hop.row), .v (.int .i64 j323.2.2)]], .arr b6 58 4 1 [[.v (.int .i64 in_1), .v (.int .i64 j323.1), .list 2 (j323.2.1.map Hop.row), .v (.int .i64 j323.2.2)]]]) (.cons (.same _) (.cons (.same _) (.cons (.same _) (.cons (.arr (.cons (.refl _) (.cons (.refl _) (.cons (.us 0 I) (.rest _))))) (.cons (.arr (.cons (.refl _) (.cons (.refl _) (.cons (.us 0 I) (.rest _))))) (.rest _))))))) (AW.ghost (Ghost.pick [0, 1, 2, 3] (K := [.arr b0 112 8 1 [[.list 1 (d_0.n_.Nodes.map rS), .list 7 (d_0.n_.Segments.map Segment.row), .list 3 (d_0.n_.Ports.map Port.row), .list 5 (d_0.n_.Stations.map Station.row), .v (.int .i64 d_0.n_.Vapour), .v (.int .i64 d_0.n_.Settle), .v w0_0, .v w0_1]], .us w0_0 3 1 (j373.map rI), .us w0_1 3 1 (((d_0.ports.set p4.1 (wr (p4.2 - j323.2.2))).set p329.1 (wr (p329.2 + j323.2.2))).map rI), .arr b2 58 4 1 [[.v (.int .i64 in_1), .v (.int .i64 j323.1), .list 2 (j323.2.1.map Hop.row), .v (.int .i64 j323.2.2)]]]) I (by decide)) ?_)))))))
 obtain rfl := Option.some.inj h
 exact AW.ret ⟨.inr I, [_], [.arr b0 112 8 1 [[.list 1 (d_0.n_.Nodes.map rS), .list 7 (d_0.n_.Segments.map Segment.row), .list 3 (d_0.n_.Ports.map Port.row), .list 5 (d_0.n_.Stations.map Station.row), .v (.int .i64 d_0.n_.Vapour), .v (.int .i64 d_0.n_.Settle), .v w0_0, .v w0_1]], .us w0_0 3 1 (j373.map rI), .us w0_1 3 1 (((d_0.ports.set p4.1 (wr (p4.2 - j323.2.2))).set p329.1 (wr (p329.2 + j323.2.2))).map rI)], ⟨⟨3, _, _, _, _, _, _, _, I, I, I, I, I⟩, trivial⟩, sl_c I (sl_c I (sl_c I (sl_n))), ⟨[.arr b0 112 8 1 [[.list 1 (d_0.n_.Nodes.map rS), .list 7 (d_0.n_.Segments.map Segment.row), .list 3 (d_0.n_.Ports.map Port.row), .list 5 (d_0.n_.Stations.map Station.row), .v (.int .i64 d_0.n_.Vapour), .v (.int .i64 d_0.n_.Settle), .v w0_0, .v w0_1]], .us w0_0 3 1 (j373.map rI), .us w0_1 3 1 (((d_0.ports.set p4.1 (wr (p4.2 - j323.2.2))).set p329.1 (wr (p329.2 + j323.2.2))).map rI)], [], I, I, w0_0, w0_1, I, I, I⟩⟩

theorem L.paths_Divide_ok (n_0 : Network) (p_1 : Plan) (r : (List Path) × Int) (h : L.paths_Divide n_0 p_1 = some r) : ACalls Try.env 26 [.agg (Network.row n_0), .agg (Plan.row p_1)] [] (fun x new => ∃ (u0 : Value), x = .tup [.v u0, .v (.int .i64 r.2)] ∧ new = [.us u0 58 4 (r.1.map Path.row)]) := by
 refine ACalls.of_body Try.func26 rfl rfl rfl (fun C hC => ?_)
 unfold L.paths_Divide at h
 refine AW.seqG (fun y1 hy1 => (AW.region (AO.act [] I (AX.box (cs := Network.row n_0) (m := 6) I I I (dst_some I) (fun b2 => (AO.act [] I (AX.box (cs := Plan.row p_1) (m := 3) I I I (dst_some I) (fun b3 => (AO.q 2 I (AO.nil ?_))))))))))
 subst hy1
 refine AW.seqG (fun y4 hy4 => (AW.seq ?_))
 obtain ⟨r5, hx6, h⟩ := ob_some h
 refine AW.region (AO.r 1 [.o 0 0] I ⟨I, trivial⟩ (AO.c (L.network_Check_ok n_0 _ hx6) (AO.q 1 I (AO.nil (AW.z I (AW.ch h I ?_ ?_))))))
 intro hc7 h
 refine AW.z I (AW.ghost (Ghost.nilU 58 4) (AW.ghost (Ghost.pick [2] (K := [.us (.slice none 0 0) 58 4 ([].map Path.row)]) I (by decide)) ?_))
 obtain rfl := Option.some.inj h
 exact AW.ret ⟨.inr I, [_, _], [.us (.slice none 0 0) 58 4 ([].map Path.row)], ⟨I, I, trivial⟩, sl_c I (sl_n), ⟨(.slice none 0 0), I, I⟩⟩
 intro hc7 h
 refine AW.skip ?_
 subst hy4
 refine AW.seqG (fun y8 hy8 => (AW.seq ?_))
 obtain ⟨r9, hx10, h⟩ := ob_some h
 refine AW.region (AO.r 2 [.o 0 0, .o 1 1] I ⟨I, I, trivial⟩ (AO.c (L.flow_Check_ok n_0 p_1 _ hx10) (AO.q 1 I (AO.nil (AW.z I (AW.ch h I ?_ ?_))))))
 intro hc11 h
 refine AW.z I (AW.ghost (Ghost.nilU 58 4) (AW.ghost (Ghost.pick [2] (K := [.us (.slice none 0 0) 58 4 ([].map Path.row)]) I (by decide)) ?_))
 obtain rfl := Option.some.inj h
 exact AW.ret ⟨.inr I, [_, _], [.us (.slice none 0 0) 58 4 ([].map Path.row)], ⟨I, I, trivial⟩, sl_c I (sl_n), ⟨(.slice none 0 0), I, I⟩⟩
 intro hc11 h
 refine AW.skip ?_
 subst hy8
 refine AW.seqG (fun y12 hy12 => ?_)
 obtain ⟨r13, hx14, h⟩ := ob_some h
 obtain ⟨r16, hx17, h⟩ := ob_some h
 refine AW.rd (.still 0 (.still 1 (.still 2 (.still 4 (.still 5 (.act 3 (.act 6 (.still 7 (.act 8 (.still 9 .nil)))))))))) [0, 1] [_, _] I (AP.r 5 [.o 0 0, .o 2 1, .o 4 1] I ⟨I, I, I, trivial⟩ (AP.act [] I I I (AX.call0 I I I (L.slices_Clone_int_int_ok p_1.Rates _ hx14) (dst_some I) ?_)))
 rintro _ _ ⟨v15, rfl, rfl⟩
 refine AP.act [] I I I (AX.call0 I I I (L.slices_Clone_int_int_ok p_1.Ports _ hx17) (dst_some I) ?_)
 rintro _ _ ⟨v18, rfl, rfl⟩
 refine AP.one 2 I (fun v15o => (AP.one 3 I (fun v18o => (AP.p I (Yp.buildP (l := [.list 1 (n_0.Nodes.map rS), .list 7 (n_0.Segments.map Segment.row), .list 3 (n_0.Ports.map Port.row), .list 5 (n_0.Stations.map Station.row), .v (.int .i64 n_0.Vapour), .v (.int .i64 n_0.Settle), .v v15, .v v18]) Try.bld112 (fill_step I I I I (fill_step I I (cells_v v15o) I (fill_step I I (cells_v v18o) I (fill_nil))))) I (AP.act [] I I I (AX.box (cs := [.list 1 (n_0.Nodes.map rS), .list 7 (n_0.Segments.map Segment.row), .list 3 (n_0.Ports.map Port.row), .list 5 (n_0.Stations.map Station.row), .v (.int .i64 n_0.Vapour), .v (.int .i64 n_0.Settle), .v v15, .v v18]) (m := 8) I I I (dst_some I) (fun b19 => (AP.q 1 I (AP.ofAO (AO.nil ?_))))))))))
 subst hy12
 refine AW.z I (AW.cutX (fun s ob => ∃ (j250 : List Path) (v251 : Value), L.paths_Divide.J1 j250 = some r ∧ s = [(9, .v v251)] ∧ ob = [.us v251 58 4 (j250.map Path.row)]) [] trivial ?_ ?_)
 refine AW.seqG (fun y252 hy252 => (AW.region (AO.r 4 [.o 3 4] I ⟨I, trivial⟩ (AO.d (Yd.lenUM 3 I I I I) I (AO.q 1 I (AO.nil ?_))))))
 subst hy252
 refine AW.block (AW.usMax 3 I (fun hm255 => ?_))
 replace hm255 : r16.length ≤ 9223372036854775806 := by rw [List.length_map] at hm255; omega
 refine AW.ghost (Ghost.nilU 58 4) ?_
 obtain ⟨o479, hL480, hR481⟩ := ob_some h
 clear h
 refine AW.forIX hL480 [(8, _), (36, _)] ⟨I, I, trivial⟩ (fun (k253 : Nat) (st404 : (List ByteArray) × (List Segment) × (List Port) × (List Station) × Int × Int × (List Int) × (List Int) × (List Path)) s ob => ∃ (v405 : Value) (v406 : Value) (v407 : Value), s = [(37, .v (.int .i64 (k253 : Int))), (9, .v v407)] ∧ ob = [.us v405 3 1 (st404.2.2.2.2.2.2.1.map rI), .us v406 3 1 (st404.2.2.2.2.2.2.2.1.map rI), .arr b19 112 8 1 [[.list 1 (st404.1.map rS), .list 7 (st404.2.1.map Segment.row), .list 3 (st404.2.2.1.map Port.row), .list 5 (st404.2.2.2.1.map Station.row), .v (.int .i64 st404.2.2.2.2.1), .v (.int .i64 st404.2.2.2.2.2.1), .v v405, .v v406]], .us v407 58 4 (st404.2.2.2.2.2.2.2.2.map Path.row)]) ⟨v15, v18, (.slice none 0 0), I, I⟩ ⟨I, I, trivial⟩ ⟨[2, 3, 4, 5], I, by decide⟩ ?_ ?_
 rintro k253 st404 r483 s ob hk254 ⟨v405, v406, v407, rfl, rfl⟩ h hb482
 unfold L.paths_Divide.B2 at h
 have hk254t : decide ((k253 : Int) < (r16.length : Int)) = true := by simp; omega
 refine AW.z I (AW.seqG (fun y485 hy485 => (AW.condK (v := true) I hk254t (AW.skip ?_))))
 subst hy485
 refine AW.cutX (fun s ob => ∃ (j551 : (List ByteArray) × (List Segment) × (List Port) × (List Station) × Int × Int × (List Int) × (List Int) × (List Path)) (v552 : Value) (v553 : Value) (v554 : Value), L.paths_Divide.J3 j551 = some r483 ∧ s = [(9, .v v554)] ∧ ob = [.us v552 3 1 (j551.2.2.2.2.2.2.1.map rI), .us v553 3 1 (j551.2.2.2.2.2.2.2.1.map rI), .arr b19 112 8 1 [[.list 1 (j551.1.map rS), .list 7 (j551.2.1.map Segment.row), .list 3 (j551.2.2.1.map Port.row), .list 5 (j551.2.2.2.1.map Station.row), .v (.int .i64 j551.2.2.2.2.1), .v (.int .i64 j551.2.2.2.2.2.1), .v v552, .v v553]], .us v554 58 4 (j551.2.2.2.2.2.2.2.2.map Path.row)]) [(8, _), (36, _), (37, _)] ⟨I, I, I, trivial⟩ ?_ ?_
 refine AW.block (AW.z I (AW.block ?_))
 obtain ⟨o620, hL621, hR622⟩ := ob_some h
 clear h
 refine AW.loopX hL621 [(8, _), (10, _), (36, _), (37, _)] ⟨I, I, I, I, trivial⟩ (fun (st598 : (List ByteArray) × (List Segment) × (List Port) × (List Station) × Int × Int × (List Int) × (List Int) × (List Path)) s ob => ∃ (v599 : Value) (v600 : Value) (v601 : Value), s = [(9, .v v601)] ∧ ob = [.us v599 3 1 (st598.2.2.2.2.2.2.1.map rI), .us v600 3 1 (st598.2.2.2.2.2.2.2.1.map rI), .arr b19 112 8 1 [[.list 1 (st598.1.map rS), .list 7 (st598.2.1.map Segment.row), .list 3 (st598.2.2.1.map Port.row), .list 5 (st598.2.2.2.1.map Station.row), .v (.int .i64 st598.2.2.2.2.1), .v (.int .i64 st598.2.2.2.2.2.1), .v v599, .v v600]], .us v601 58 4 (st598.2.2.2.2.2.2.2.2.map Path.row)]) ⟨v405, v406, v407, I, I⟩ ⟨I, trivial⟩ ⟨[0, 1, 2, 3], I, by decide⟩ ?_
 rintro st598 r624 s ob ⟨v599, v600, v601, rfl, rfl⟩ h hb623
 unfold L.paths_Divide.B4 at h
 refine AW.seqG (fun y625 hy625 => (AW.seq ?_))
 obtain ⟨p626, hp627, h⟩ := ob_some h
 obtain ⟨hp627i, hp627x⟩ := ix_some hp627
 refine AW.region (AO.r 5 [.o 3 2] I ⟨I, trivial⟩ (AO.d (Yd.indexU 1 (m := p626.1) I I I I I I I hp627i (map_get hp627x)) I (AO.d (Yd.loadU 1 p626.1 0 I I I (map_get hp627x) I (y := .v (.int .i64 p626.2)) I) I (AO.q 1 I (AO.nil (AW.ch h I ?_ ?_))))))
 intro hc628 h
 refine AW.skip ?_
 subst hy625
 refine AW.block (AW.seqG (fun y629 hy629 => ?_))
 obtain ⟨r630, hx631, h⟩ := ob_some h
 refine AW.region (AO.q 2 I (AO.act [2, 0, 1] I (AX.cg [2, 0, 1] (L.paths_divider_follow_ok b19 (⟨(⟨st598.1, st598.2.1, st598.2.2.1, st598.2.2.2.1, st598.2.2.2.2.1, st598.2.2.2.2.2.1⟩ : Network), st598.2.2.2.2.2.2.1, st598.2.2.2.2.2.2.2.1⟩ : paths_divider) v599 v600 (k253 : Int) _ hx631) ?_)))
 rintro _ _ _ - ⟨v632, v633, rfl, rfl, rfl⟩
 refine AO.act [] I (AX.alloc (cs := [.v (.int .i64 0), .v (.int .i64 0), .v (.slice none 0 0), .v (.int .i64 0)]) (m := 4) I I I I I (dst_some I) (fun b634 => (AO.act [4] I (AX.store 4 0 0 (es' := [Path.row r630.1]) I I I I I I I I (le_ble I) I I (AO.nil ?_)))))
 subst hy629
 refine AW.seq (AW.cutX (fun s ob => s = [(59, .v (.bool (((st598.2.2.2.2.2.2.2.2.length : Int) == 64) || decide ((r630.1.Hops.length : Int) > 32))))] ∧ ob = [.us v632 3 1 (r630.2.rates.map rI), .us v633 3 1 (r630.2.ports.map rI), .arr b19 112 8 1 [[.list 1 (r630.2.n_.Nodes.map rS), .list 7 (r630.2.n_.Segments.map Segment.row), .list 3 (r630.2.n_.Ports.map Port.row), .list 5 (r630.2.n_.Stations.map Station.row), .v (.int .i64 r630.2.n_.Vapour), .v (.int .i64 r630.2.n_.Settle), .v v632, .v v633]], .us v601 58 4 (st598.2.2.2.2.2.2.2.2.map Path.row), .arr b634 58 4 1 [Path.row r630.1]]) [(8, _), (9, _), (10, _), (11, _), (36, _), (37, _)] ⟨I, I, I, I, I, I, trivial⟩ ?_ ?_)
 rcases Bool.eq_false_or_eq_true (((st598.2.2.2.2.2.2.2.2.length : Int) == 64)) with hg637 | hg637
 refine AW.region (AO.q 1 I (AO.d (Yd.lenUM 3 I I I I) I (AO.q 2 I (AO.known 54 I hg637 (AO.q 5 I (AO.nil ?_))))))
 exact lf ⟨I, I⟩ ⟨(get_b (by simp only [hg637, bz])), I, I, I, I, I, I, trivial⟩ [0, 1, 2, 3, 4] I
 refine AW.region (AO.q 1 I (AO.d (Yd.lenUM 3 I I I I) I (AO.q 2 I (AO.known 54 I hg637 (AO.r 5 [.o 1 4, .l 2 (r630.1.Hops.length : Int)] I ⟨len_m, I, trivial⟩ (AO.nil ?_))))))
 exact lf ⟨I, I⟩ ⟨(get_b (by simp only [hg637, bz])), I, I, I, I, I, I, trivial⟩ [0, 1, 2, 3, 4] I
 rintro s ob ⟨rfl, rfl⟩
 refine AW.ch h I ?_ ?_
 intro hc638 h
 refine AW.z I ?_
 obtain rfl := hb623 _ (Option.some.inj h).symm
 replace h := hR622
 replace h := se_l h
 obtain rfl := hb482 _ (Option.some.inj h).symm
 replace h := hR481
 replace h := se_r h
 refine AW.ghost (Ghost.nilU 58 4) (AW.ghost (Ghost.pick [5] (K := [.us (.slice none 0 0) 58 4 ([].map Path.row)]) I (by decide)) ?_)
 obtain rfl := Option.some.inj h
 exact AW.ret ⟨.inr I, [_, _], [.us (.slice none 0 0) 58 4 ([].map Path.row)], ⟨I, I, trivial⟩, sl_c I (sl_n), ⟨(.slice none 0 0), I, I⟩⟩
 intro hc638 h
 refine AW.skip ?_
 obtain ⟨l640, hx641, h⟩ := ob_some h
 refine AW.region (AO.r 2 [.o 1 4] I ⟨I, trivial⟩ (AO.act [] I (AX.lt 4 (([r630.1] : List Path).map Path.row) (AO.act [3] I (AX.ap 3 I hx641 (fun v642 => (AO.q 1 I ?_)))))))
 obtain rfl := Option.some.inj h
 refine AO.nil ?_
 exact ⟨_, _, _, I, ⟨v632, v633, v642, I, I⟩, ⟨I, I, I, I, I, trivial⟩, [0, 1, 2, 3], I, by decide⟩
 intro hc628 h
 obtain rfl := hb623 _ (Option.some.inj h).symm
 replace h := hR622
 replace h := se_r h
 refine AW.exit ?_
 exact lg ⟨(st598.1, st598.2.1, st598.2.2.1, st598.2.2.2.1, st598.2.2.2.2.1, st598.2.2.2.2.2.1, st598.2.2.2.2.2.2.1, st598.2.2.2.2.2.2.2.1, st598.2.2.2.2.2.2.2.2), v599, v600, v601, h, I, I⟩ [0, 1, 2, 3]
 rintro s ob ⟨j551, v552, v553, v554, h, rfl, rfl⟩
 unfold L.paths_Divide.J3 at h
 refine AW.region (AO.r 2 [.k 0 (k253 + 1 : Nat)] I ⟨cast_wr hk254 hm255, trivial⟩ ?_)
 obtain rfl := Option.some.inj h
 refine AO.nil ?_
 exact ⟨_, _, _, I, ⟨v552, v553, v554, I, I⟩, ⟨I, I, I, I, trivial⟩, [0, 1, 2, 3], I, by decide⟩
 rintro st404 s ob ⟨v405, v406, v407, rfl, rfl⟩ he
 subst he
 have h := se_l hR481
 have hk254f : decide (((r16.length : Nat) : Int) < (r16.length : Int)) = false := by simp
 refine AW.z I (AW.seqG (fun y646 hy646 => (AW.condK (v := false) I hk254f (AW.exit ?_))))
 exact lg ⟨st404.2.2.2.2.2.2.2.2, v407, h, I, I⟩ [3]
 rintro s ob ⟨j250, v251, h, rfl, rfl⟩
 unfold L.paths_Divide.J1 at h
 refine AW.z I ?_
 obtain rfl := Option.some.inj h
 exact AW.ret ⟨.inr I, [_, _], [.us v251 58 4 (j250.map Path.row)], ⟨I, I, trivial⟩, sl_c I (sl_n), ⟨v251, I, I⟩⟩

end Go.Proofs.Ytndfiddakngjdaa
