/- Walks that show what functions of the program compute; printed by a program of ours. No condition. -/
import Derived.Test.YtehbcbedipkifaaGreatDoorZxL2
import Derived.Test.YtehbcbedipkifaaGreatDoorZxD
set_option maxRecDepth 100000
namespace Go.Proofs.YtehbcbedipkifaaGreatDoor
open Go.Aw
set_option linter.unusedVariables false
set_option linter.unusedSimpArgs false
set_option maxHeartbeats 4000000
theorem L.zvhn_ok (s_0 : Segment) (r : Int) (h : L.zvhn s_0 = some r) : ACalls Tryz.env 161 [.agg (Segment.row s_0)] [] (fun x new => x = .V r ∧ new = []) := by
 refine ACalls.of_body Tryz.func161 rfl rfl rfl (fun C hC => ?_)
 unfold L.zvhn at h
 refine AW.seqG (fun y1 hy1 => (AW.region (AO.act [] I (AX.box (cs := Segment.row s_0) (m := 7) I I I dS (fun b2 => (AO.q 1 I (AO.nil ?_)))))))
 subst hy1
 refine AW.seqG (fun y3 hy3 => (AW.region (AO.q 1 I (AO.act [0] I (AX.store 0 0 1 (es' := [[.v (.string s_0.Name), .V 0, .V s_0.To, .V s_0.Capacity, .V s_0.Resist, .V s_0.Wave, .list 3 (s_0.Points.map Point.row)]]) I I I I I I I I (le_ble I) I I (AO.q 1 I (AO.act [0] I (AX.store 0 0 2 (es' := [[.v (.string s_0.Name), .V 0, .V 1, .V s_0.Capacity, .V s_0.Resist, .V s_0.Wave, .list 3 (s_0.Points.map Point.row)]]) I I I I I I I I (le_ble I) I I (AO.nil ?_)))))))))
 subst hy3
 refine AW.seq (AW.seq ?_)
 obtain ⟨r6, hx7, h⟩ := ob_some h
 refine AW.region (AO.act [] I (AX.buildSlice (sz := 1) (es := ([(⟨#[97]⟩ : ByteArray), (⟨#[98]⟩ : ByteArray)] : List ByteArray).map rS) I I I I I I I I I I I dS (fun v4 => (AO.r 1 [.o 0 0] I ⟨I, J⟩ (AO.act [] I (AX.buildSlice (sz := 7) (es := ([(⟨s_0.Name, 0, 1, s_0.Capacity, s_0.Resist, s_0.Wave, s_0.Points⟩ : Segment)] : List Segment).map Segment.row) I I I I I I I I I I I dS (fun v5 => (AO.one 1 I (fun v4o => (AO.one 2 I (fun v5o => (AO.p (Yp.buildP (l := [.v v4, .v v5, .v (.slice none 0 0), .v (.slice none 0 0), .V 0, .V 0]) Tryz.bld27 (fill_step I I (cells_v v4o) I (fill_step I I (cells_v v5o) I (fill_nil)))) I (AO.act [] I (AX.callL I (.refl _) I I (.cons (.agg (.cons (.us 1 I) (.cons (.us 2 I) (.cons (.nil _) (.cons (.nil _) (.rest _)))))) (.rest _)) I (L.zfta_ok _ _ hx7) dS (by rintro _ _ ⟨rfl, _⟩; rfl) ?_))))))))))))))
 rintro _ ⟨_, rfl, -⟩
 refine AO.q 1 I (AO.nil (AW.ch h I ?_ ?_))
 intro hc8 h
 refine AW.z I (AW.ghost g0 ?_)
 obtain rfl := oi h
 exact AW.ret pr
 intro hc8 h
 refine AW.skip (AW.z I (AW.ghost g0 ?_))
 obtain rfl := oi h
 exact AW.ret pr
theorem L.zojo_ok (p_0 : Piece) (r : Bool) (h : L.zojo p_0 = r) : ACalls Tryz.env 119 [.agg (Piece.row p_0)] [] (fun x new => x = .v (.bool r) ∧ new = []) := by
 refine ACalls.of_body Tryz.func119 rfl rfl rfl (fun C hC => ?_)
 unfold L.zojo at h
 refine AW.seqG (fun y1 hy1 => (AW.region (AO.act [] I (AX.box (cs := Piece.row p_0) (m := 2) I I I dS (fun b2 => (AO.q 1 I (AO.nil ?_)))))))
 subst hy1
 refine AW.cutX (fun s ob => s = [(2, .v (.bool (decide (p_0.Batch ≥ 0) && (decide (p_0.Batch < 1000) && (decide (p_0.Volume ≥ 0) && decide (p_0.Volume ≤ 1000000))))))] ∧ ob = []) [] J ?_ ?_
 refine AW.region (AO.r 4 [.o 1 0] I ⟨I, J⟩ ?_)
 rcases bt (decide (p_0.Batch ≥ 0)) with hg7 | hg7
 refine AO.known 6 I hg7 (AO.r 5 [.o 1 0] I ⟨I, J⟩ ?_)
 rcases bt (decide (p_0.Batch < 1000)) with hg8 | hg8
 refine AO.known 11 I hg8 (AO.r 5 [.o 1 0] I ⟨I, J⟩ ?_)
 rcases bt (decide (p_0.Volume ≥ 0)) with hg9 | hg9
 refine AO.known 16 I hg9 (AO.r 5 [.o 1 0] I ⟨I, J⟩ (AO.nil ?_))
 exact lf ⟨I, I⟩ ⟨(get_b (by simp only [hg7, hg8, hg9, bz])), J⟩ [] I
 refine AO.known 16 I hg9 (AO.q 5 I (AO.nil ?_))
 exact lf ⟨I, I⟩ ⟨(get_b (by simp only [hg7, hg8, hg9, bz])), J⟩ [] I
 refine AO.known 11 I hg8 (AO.q 10 I (AO.nil ?_))
 exact lf ⟨I, I⟩ ⟨(get_b (by simp only [hg7, hg8, bz])), J⟩ [] I
 refine AO.known 6 I hg7 (AO.q 15 I (AO.nil ?_))
 exact lf ⟨I, I⟩ ⟨(get_b (by simp only [hg7, bz])), J⟩ [] I
 rintro s ob ⟨rfl, rfl⟩
 obtain rfl := h
 exact AW.ret pr
theorem L.zmsl_ok (f_0 : List Piece) (r : Int) (h : L.zmsl f_0 = some r) : ACalls Tryz.env 120 [.list 2 (f_0.map Piece.row)] [] (fun x new => x = .V r ∧ new = []) := by
 refine ACalls.of_body Tryz.func120 rfl rfl rfl (fun C hC => ?_)
 unfold L.zmsl at h
 refine AW.z I (AW.z I (AW.cutX (fun s ob => ∃ (j23 : Int), L.zmsl.J1 j23 = some r ∧ s = [(3, .V j23)] ∧ ob = []) [] J ?_ ?_))
 refine AW.zr [.l 1 (f_0.length : Int)] I ⟨len_m, J⟩ (AW.block (AW.listMax 6 I (fun hm27 => ?_)))
 replace hm27 : f_0.length ≤ 9223372036854775806 := by rw [List.length_map] at hm27; omega
 obtain ⟨o42, hL43, hR44⟩ := ob_some h
 clear h
 refine AW.forY hL43 [(6, _), (7, _)] ⟨I, I, J⟩ (fun (k25 : Nat) (st38 : Int) s ob => s = [(8, .V (k25 : Int)), (3, .V st38)] ∧ ob = []) ⟨I, I⟩ ⟨I, I, J⟩ ⟨[], I, by decide⟩ ?_ ?_
 rintro k25 x28 st38 r46 s ob hx29 hk26 ⟨rfl, rfl⟩ h
 unfold L.zmsl.B2 at h
 have hk26t : decide ((k25 : Int) < (f_0.length : Int)) = true := decide_eq_true (by omega)
 refine AW.z I (AW.seqG (fun y48 hy48 => (AW.condK (v := true) I hk26t (AW.skip ?_))))
 subst hy48
 refine AW.seq (AW.block (AW.seq (AW.region (AO.r 2 [.x 0 k25 (Piece.row x28)] I ⟨⟨I, map_get hx29⟩, J⟩ (AO.act [] I (AX.alloc (cs := [.V 0, .V 0]) (m := 2) I I I I I dS (fun b49 => (AO.act [0] I (AX.store 0 0 0 (es' := [Piece.row x28]) I I I I I I I I (le_ble I) I I (AO.nil (AW.tr [.o 2 0] I ⟨I, J⟩ (AW.region (AO.r 2 [.k 0 (k25 + 1 : Nat)] I ⟨cast_wr hk26 hm27, J⟩ ?_)))))))))))))
 obtain rfl := oi h
 refine AO.nil ?_
 exact lg ⟨I, I⟩ []
 rintro st38 s ob ⟨rfl, rfl⟩ he
 subst he
 have h := hR44
 have hk26f : decide (((f_0.length : Nat) : Int) < (f_0.length : Int)) = false := by simp
 refine AW.z I (AW.seqG (fun y51 hy51 => (AW.condK (v := false) I hk26f (AW.exit ?_))))
 exact lg ⟨st38, h, I, I⟩ []
 rintro s ob ⟨j23, h, rfl, rfl⟩
 unfold L.zmsl.J1 at h
 refine AW.z I ?_
 obtain rfl := oi h
 exact AW.ret pr
theorem L.zqwg_ok (f_0 : List Piece) (r : Bool) (h : L.zqwg f_0 = some r) : ACalls Tryz.env 79 [.list 2 (f_0.map Piece.row)] [] (fun x new => x = .v (.bool r) ∧ new = []) := by
 refine ACalls.of_body Tryz.func79 rfl rfl rfl (fun C hC => ?_)
 unfold L.zqwg at h
 refine AW.z I (AW.seqG (fun y2 hy2 => (AW.zr [.l 1 (f_0.length : Int)] I ⟨len_m, J⟩ (AW.ch h I ?_ ?_))))
 intro hc3 h
 refine AW.z I ?_
 obtain rfl := oi h
 exact AW.ret pr
 intro hc3 h
 refine AW.skip ?_
 subst hy2
 refine AW.cutX (fun s ob => ∃ (j36 : Unit), L.zqwg.J1 f_0 j36 = some r ∧ s = [] ∧ ob = []) [(0, _)] ⟨I, J⟩ ?_ ?_
 refine AW.zr [.l 1 (f_0.length : Int)] I ⟨len_m, J⟩ (AW.block (AW.listMax 8 I (fun hm42 => ?_)))
 replace hm42 : f_0.length ≤ 9223372036854775806 := by rw [List.length_map] at hm42; omega
 obtain ⟨o69, hL70, hR71⟩ := ob_some h
 clear h
 refine AW.forX hL70 [(0, _), (8, _), (9, _)] ⟨I, I, I, J⟩ (fun (k40 : Nat) (st57 : Unit) s ob => s = [(10, .V (k40 : Int))] ∧ ob = []) ⟨I, I⟩ ⟨I, J⟩ ⟨[], I, by decide⟩ ?_ ?_
 rintro k40 x43 st57 r73 s ob hx44 hk41 ⟨rfl, rfl⟩ h hb72
 unfold L.zqwg.B2 at h
 have hk41t : decide ((k40 : Int) < (f_0.length : Int)) = true := decide_eq_true (by omega)
 refine AW.z I (AW.seqG (fun y75 hy75 => (AW.condK (v := true) I hk41t (AW.skip ?_))))
 subst hy75
 refine AW.seq (AW.block (AW.seqG (fun y76 hy76 => (AW.region (AO.r 3 [.x 1 k40 (Piece.row x43)] I ⟨⟨I, map_get hx44⟩, J⟩ (AO.act [] I (AX.alloc (cs := [.V 0, .V 0]) (m := 2) I I I I I dS (fun b77 => (AO.q 1 I (AO.act [0] I (AX.store 0 0 0 (es' := [Piece.row x43]) I I I I I I I I (le_ble I) I I (AO.nil ?_))))))))))))
 subst hy76
 refine AW.cutX (fun s ob => ∃ (j83 : Bool), L.zqwg.J3 j83 = some r73 ∧ s = [(37, .v (.bool j83))] ∧ ob = []) [(0, _), (8, _), (9, _), (10, _)] ⟨I, I, I, I, J⟩ ?_ ?_
 refine AW.rd (pd 23 0 [1]) [0] [_] I (AP.r 1 [.o 0 0] I ⟨I, J⟩ (AP.c I (L.zojo_ok x43 _ I) (AP.q 2 I ?_)))
 rcases bt ((!(L.zojo x43))) with hg85 | hg85
 replace h := ife_t hg85 h
 refine AP.known 18 I hg85 (AP.q 8 I (AP.skipU I I I I dS (AP.skipU I I I I dS (AP.skipU I I I I dS (AP.skipU I I I I dS (AP.skipU I I I I dS (AP.skipU I I I I dS (AP.skipU I I I I dS (AP.skipU I I I I dS (AP.skipU I I I I dS (AP.q 2 I (AP.ofAO ?_))))))))))))
 refine AO.nil ?_
 exact lg ⟨true, h, I, I⟩ []
 replace h := ife_f hg85 h
 refine AP.known 18 I hg85 (AP.r 5 [.o 1 0] I ⟨I, J⟩ ?_)
 rcases bt ((x43.Volume == 0)) with hg86 | hg86
 replace h := ife_t hg86 h
 refine AP.known 23 I hg86 (AP.q 3 I (AP.skipU I I I I dS (AP.skipU I I I I dS (AP.skipU I I I I dS (AP.skipU I I I I dS (AP.skipU I I I I dS (AP.skipU I I I I dS (AP.skipU I I I I dS (AP.skipU I I I I dS (AP.skipU I I I I dS (AP.q 2 I (AP.ofAO ?_))))))))))))
 refine AO.nil ?_
 exact lg ⟨true, h, I, I⟩ []
 replace h := ife_f hg86 h
 refine AP.known 23 I hg86 (AP.q 3 I ?_)
 rcases bt (decide ((k40 : Int) > 0)) with hg87 | hg87
 replace h := ife_t hg87 h
 obtain ⟨p88, hp89, h⟩ := ob_some h
 obtain ⟨hp89i, hp89x⟩ := ix_some hp89
 refine AP.known 26 I hg87 (AP.r 11 [.x 3 p88.1 (Piece.row p88.2), .o 7 0] I ⟨I, ⟨hp89i, map_get hp89x⟩, J⟩ (AP.ofAO (AO.nil ?_)))
 exact lg ⟨(p88.2.Batch == x43.Batch), h, I, I⟩ []
 replace h := ife_f hg87 h
 refine AP.known 26 I hg87 (AP.q 11 I (AP.ofAO (AO.nil ?_)))
 exact lg ⟨false, h, I, I⟩ []
 rintro s ob ⟨j83, h, rfl, rfl⟩
 unfold L.zqwg.J3 at h
 refine AW.ch h I ?_ ?_
 intro hc84 h
 refine AW.z I ?_
 obtain rfl := hb72 _ (oi h).symm
 replace h := hR71
 replace h := se_r h
 obtain rfl := oi h
 exact AW.ret pr
 intro hc84 h
 refine AW.skip (AW.region (AO.r 2 [.k 0 (k40 + 1 : Nat)] I ⟨cast_wr hk41 hm42, J⟩ ?_))
 obtain rfl := oi h
 refine AO.nil ?_
 exact ⟨_, _, _, I, ⟨I, I⟩, ⟨I, I, I, I, J⟩, [], I, by decide⟩
 rintro st57 s ob ⟨rfl, rfl⟩ he
 subst he
 have h := se_l hR71
 have hk41f : decide (((f_0.length : Nat) : Int) < (f_0.length : Int)) = false := by simp
 refine AW.z I (AW.seqG (fun y91 hy91 => (AW.condK (v := false) I hk41f (AW.exit ?_))))
 exact lg ⟨(), h, I, I⟩ []
 rintro s ob ⟨j36, h, rfl, rfl⟩
 unfold L.zqwg.J1 at h
 refine AW.seq ?_
 obtain ⟨r37, hx38, h⟩ := ob_some h
 refine AW.region (AO.q 1 I (AO.c (L.zmsl_ok _ _ hx38) (AO.q 2 I (AO.nil ?_))))
 obtain rfl := oi h
 exact AW.ret pr
theorem L.zryf_ok (f_0 : List Piece) (r : Int) (h : L.zryf f_0 = some r) : ACalls Tryz.env 80 [.list 2 (f_0.map Piece.row)] [] (fun x new => x = .V r ∧ new = []) := by
 refine ACalls.of_body Tryz.func80 rfl rfl rfl (fun C hC => ?_)
 unfold L.zryf at h
 refine AW.z I (AW.seq (AW.seq ?_))
 obtain ⟨r2, hx3, h⟩ := ob_some h
 refine AW.region (AO.q 1 I (AO.c (L.zqwg_ok _ _ hx3) (AO.q 1 I (AO.nil (AW.ch h I ?_ ?_)))))
 intro hc4 h
 refine AW.z I ?_
 obtain rfl := oi h
 exact AW.ret pr
 intro hc4 h
 refine AW.skip (AW.seq ?_)
 obtain ⟨r5, hx6, h⟩ := ob_some h
 refine AW.region (AO.q 1 I (AO.c (L.zmsl_ok _ _ hx6) (AO.q 1 I (AO.nil ?_))))
 obtain rfl := oi h
 exact AW.ret pr
theorem L.zleg_ok (s_0 : Segment) (f_1 : List Piece) (r : Int) (h : L.zleg s_0 f_1 = some r) : ACalls Tryz.env 126 [.agg (Segment.row s_0), .list 2 (f_1.map Piece.row)] [] (fun x new => x = .V r ∧ new = []) := by
 refine ACalls.of_body Tryz.func126 rfl rfl rfl (fun C hC => ?_)
 unfold L.zleg at h
 refine AW.seqG (fun y1 hy1 => (AW.region (AO.act [] I (AX.box (cs := Segment.row s_0) (m := 7) I I I dS (fun b2 => (AO.q 1 I (AO.nil ?_)))))))
 subst hy1
 refine AW.seqG (fun y3 hy3 => (AW.cutX (fun s ob => ∃ (j9 : Bool), L.zleg.J1 s_0 f_1 j9 = some r ∧ s = [(12, .v (.bool j9))] ∧ ob = [.arr b2 77 7 1 [Segment.row s_0]]) [(1, _), (2, _)] ⟨I, I, J⟩ ?_ ?_))
 obtain ⟨r14, hx15, h⟩ := ob_some h
 refine AW.region (AO.r 1 [.o 0 0] I ⟨I, J⟩ (AO.c (L.zvhn_ok _ _ hx15) (AO.q 2 I ?_)))
 rcases bt ((r14 != 0)) with hg16 | hg16
 replace h := ife_t hg16 h
 refine AO.known 8 I hg16 (AO.q 4 I (AO.nil ?_))
 exact lg ⟨true, h, I, I⟩ [0]
 replace h := ife_f hg16 h
 obtain ⟨r17, hx18, h⟩ := ob_some h
 refine AO.known 8 I hg16 (AO.q 1 I (AO.gt I I I (AO.c (L.zqwg_ok _ _ hx18) (AO.q 2 I (AO.nil ?_)))))
 exact lg ⟨(!r17), h, I, I⟩ [0]
 rintro s ob ⟨j9, h, rfl, rfl⟩
 unfold L.zleg.J1 at h
 refine AW.ch h I ?_ ?_
 intro hc10 h
 refine AW.z I (AW.ghost g0 ?_)
 obtain rfl := oi h
 exact AW.ret pr
 intro hc10 h
 refine AW.skip ?_
 subst hy3
 refine AW.seq (AW.seq ?_)
 obtain ⟨r11, hx12, h⟩ := ob_some h
 refine AW.rd (.still 0 (.still 2 (.still 3 (.act 1 (.still 4 .nil))))) [0] [_] I (AP.r 3 [.o 2 0] I ⟨I, J⟩ (AP.c I (L.zryf_ok _ _ hx12) (AP.q 1 I (AP.ofAO (AO.nil (AW.ch h I ?_ ?_))))))
 intro hc13 h
 refine AW.z I (AW.ghost g0 ?_)
 obtain rfl := oi h
 exact AW.ret pr
 intro hc13 h
 refine AW.skip (AW.z I (AW.ghost g0 ?_))
 obtain rfl := oi h
 exact AW.ret pr
theorem L.zfby_ok (w0 : Value) (s0 : List Int) (r : List Int) (h : L.zfby s0 = some r) : ACalls Tryz.env 162 [.v w0] [.us w0 3 1 (s0.map rI)] (Gives 1 (fun x os new => x = .tup [] ∧ os = [.us w0 3 1 (r.map rI)] ∧ new = [])) := by
  unfold L.zfby at h
  split at h
  · cases h
  · rename_i hne
    obtain rfl := oi h
    rw [← sorted_eq]
    exact ACalls.sortI ⟨_, Tryz.func162, rfl, rfl⟩ (fun blk off cap zs w h1 h2 h3 => Go.Proofs.Tryz.slices_Sort_int blk off cap zs w h1 h2 h3) hne
theorem L.zapf_ok (w0 : Value) (s0 : List Int) (r : List Int) (h : L.zapf s0 = some r) : ACalls Tryz.env 163 [.v w0] [.us w0 3 1 (s0.map rI)] (Gives 1 (fun x os new => ∃ (u0 : Value), x = .v u0 ∧ os = [.us (.slice none 0 0) 3 1 ([].map rI)] ∧ new = [.us u0 3 1 (r.map rI)])) := by
  unfold L.zapf at h
  split at h
  · cases h
  · rename_i hne
    obtain rfl := oi h
    exact ACalls.compactI ⟨_, Tryz.func163, rfl, rfl⟩ (fun blk off cap zs w h1 h2 h3 => Go.Proofs.Tryz.slices_Compact_int blk off cap zs w h1 h2 h3) hne
theorem L.zksz_ok (s_0 : Segment) (f_1 : List Piece) (r : List Int) (h : L.zksz s_0 f_1 = some r) : ACalls Tryz.env 129 [.agg (Segment.row s_0), .list 2 (f_1.map Piece.row)] [] (fun x new => ∃ (u0 : Value), x = .v u0 ∧ new = [.us u0 3 1 (r.map rI)]) := by
 refine ACalls.of_body Tryz.func129 rfl rfl rfl (fun C hC => ?_)
 unfold L.zksz at h
 refine AW.seqG (fun y1 hy1 => (AW.region (AO.act [] I (AX.box (cs := Segment.row s_0) (m := 7) I I I dS (fun b2 => (AO.q 1 I (AO.nil ?_)))))))
 subst hy1
 refine AW.z I (AW.cutX (fun s ob => ∃ (j38 : List Int) (v39 : Value), L.zksz.J1 f_1 j38 = some r ∧ s = [(5, .v v39)] ∧ ob = [.us v39 3 1 (j38.map rI)]) [(1, _)] ⟨I, J⟩ ?_ ?_)
 refine AW.zr [.o 1 0, .l 2 (s_0.Points.length : Int)] I ⟨len_m, I, J⟩ (AW.block (AW.listMax 12 I (fun hm131 => ?_)))
 replace hm131 : s_0.Points.length ≤ 9223372036854775806 := by rw [List.length_map] at hm131; omega
 refine AW.ghost (Ghost.nilU 3 1) ?_
 obtain ⟨o160, hL161, hR162⟩ := ob_some h
 clear h
 refine AW.forY hL161 [(1, _), (12, _), (13, _)] ⟨I, I, I, J⟩ (fun (k129 : Nat) (st151 : List Int) s ob => ∃ (v152 : Value), s = [(14, .V (k129 : Int)), (5, .v v152)] ∧ ob = [.us v152 3 1 (st151.map rI)]) ⟨(.slice none 0 0), I, I⟩ ⟨I, I, J⟩ ⟨[1], I, by decide⟩ ?_ ?_
 rintro k129 x132 st151 r164 s ob hx133 hk130 ⟨v152, rfl, rfl⟩ h
 unfold L.zksz.B4 at h
 have hk130t : decide ((k129 : Int) < (s_0.Points.length : Int)) = true := decide_eq_true (by omega)
 refine AW.z I (AW.seqG (fun y166 hy166 => (AW.condK (v := true) I hk130t (AW.skip ?_))))
 subst hy166
 refine AW.seq (AW.block (AW.seq (AW.region (AO.r 2 [.x 0 k129 (Point.row x132)] I ⟨⟨I, map_get hx133⟩, J⟩ (AO.act [] I (AX.alloc (cs := [.V 0, .V 0, .V 0]) (m := 3) I I I I I dS (fun b167 => (AO.act [1] I (AX.store 1 0 0 (es' := [Point.row x132]) I I I I I I I I (le_ble I) I I (AO.nil ?_))))))))))
 obtain ⟨l169, hx170, h⟩ := ob_some h
 refine AW.region (AO.r 3 [.o 2 1] I ⟨I, J⟩ (AO.act [] I (AX.lt 1 (([x132.At] : List Int).map rI) (AO.act [0] I (AX.ap 0 I hx170 (fun v171 => (AO.q 1 I (AO.nil (AW.region (AO.r 2 [.k 0 (k129 + 1 : Nat)] I ⟨cast_wr hk130 hm131, J⟩ ?_))))))))))
 obtain rfl := oi h
 refine AO.nil ?_
 exact lg ⟨v171, I, I⟩ [0]
 rintro st151 s ob ⟨v152, rfl, rfl⟩ he
 subst he
 have h := hR162
 have hk130f : decide (((s_0.Points.length : Nat) : Int) < (s_0.Points.length : Int)) = false := by simp
 refine AW.z I (AW.seqG (fun y173 hy173 => (AW.condK (v := false) I hk130f (AW.exit ?_))))
 exact lg ⟨st151, v152, h, I, I⟩ [0]
 rintro s ob ⟨j38, v39, h, rfl, rfl⟩
 unfold L.zksz.J1 at h
 refine AW.z I (AW.cutX (fun s ob => ∃ (j75 : List Int) (v76 : Value), L.zksz.J2 j75 = some r ∧ s = [(5, .v v76)] ∧ ob = [.us v76 3 1 (j75.map rI)]) [] J ?_ ?_)
 refine AW.zr [.l 1 (f_1.length : Int)] I ⟨len_m, J⟩ (AW.block (AW.listMax 24 I (fun hm85 => ?_)))
 replace hm85 : f_1.length ≤ 9223372036854775806 := by rw [List.length_map] at hm85; omega
 obtain ⟨o114, hL115, hR116⟩ := ob_some h
 clear h
 refine AW.forY hL115 [(24, _), (25, _)] ⟨I, I, J⟩ (fun (k83 : Nat) (st105 : (List Int) × Int) s ob => ∃ (v106 : Value), s = [(26, .V (k83 : Int)), (5, .v v106), (8, .V st105.2)] ∧ ob = [.us v106 3 1 (st105.1.map rI)]) ⟨v39, I, I⟩ ⟨I, I, I, J⟩ ⟨[0], I, by decide⟩ ?_ ?_
 rintro k83 x86 st105 r118 s ob hx87 hk84 ⟨v106, rfl, rfl⟩ h
 unfold L.zksz.B3 at h
 have hk84t : decide ((k83 : Int) < (f_1.length : Int)) = true := decide_eq_true (by omega)
 refine AW.z I (AW.seqG (fun y120 hy120 => (AW.condK (v := true) I hk84t (AW.skip ?_))))
 subst hy120
 refine AW.seq (AW.block (AW.seq (AW.region (AO.r 2 [.x 0 k83 (Piece.row x86)] I ⟨⟨I, map_get hx87⟩, J⟩ (AO.act [] I (AX.alloc (cs := [.V 0, .V 0]) (m := 2) I I I I I dS (fun b121 => (AO.act [1] I (AX.store 1 0 0 (es' := [Piece.row x86]) I I I I I I I I (le_ble I) I I (AO.nil (AW.zr [.o 2 1] I ⟨I, J⟩ ?_)))))))))))
 obtain ⟨l123, hx124, h⟩ := ob_some h
 refine AW.region (AO.q 2 I (AO.act [] I (AX.lt 1 (([wr (st105.2 + x86.Volume)] : List Int).map rI) (AO.act [0] I (AX.ap 0 I hx124 (fun v125 => (AO.q 1 I (AO.nil (AW.region (AO.r 2 [.k 0 (k83 + 1 : Nat)] I ⟨cast_wr hk84 hm85, J⟩ ?_))))))))))
 obtain rfl := oi h
 refine AO.nil ?_
 exact lg ⟨v125, I, I⟩ [0]
 rintro st105 s ob ⟨v106, rfl, rfl⟩ he
 subst he
 have h := hR116
 have hk84f : decide (((f_1.length : Nat) : Int) < (f_1.length : Int)) = false := by simp
 refine AW.z I (AW.seqG (fun y127 hy127 => (AW.condK (v := false) I hk84f (AW.exit ?_))))
 exact lg ⟨st105.1, v106, h, I, I⟩ [0]
 rintro s ob ⟨j75, v76, h, rfl, rfl⟩
 unfold L.zksz.J2 at h
 refine AW.seq ?_
 obtain ⟨r77, hx78, h⟩ := ob_some h
 refine AW.region (AO.q 1 I (AO.act [0] I (AX.c0 [0] (L.zfby_ok v76 _ _ hx78) ?_)))
 refine AO.nil (AW.seq ?_)
 obtain ⟨r79, hx80, h⟩ := ob_some h
 refine AW.region (AO.q 1 I (AO.act [0] I (AX.cg [0] (L.zapf_ok v76 _ _ hx80) ?_)))
 rintro _ _ _ - ⟨v81, rfl, rfl, rfl⟩
 refine AO.q 1 I (AO.nil (AW.ghost (Ghost.pick [1] (K := [.us v81 3 1 (r79.map rI)]) I (by decide)) ?_))
 obtain rfl := oi h
 exact AW.ret ⟨.inr I, [_], [.us v81 3 1 (r79.map rI)], ⟨I, J⟩, sl_c I (sl_n), ⟨v81, I, I⟩⟩
end Go.Proofs.YtehbcbedipkifaaGreatDoor
