/- Walks that show what functions of the program compute; printed by a program of ours. No condition. -/
import Derived.Test.YtncfbhnecmnfpaaGreatDoorLg3
import Derived.Test.YtncfbhnecmnfpaaGreatDoorLg4
namespace Go.Proofs.YtncfbhnecmnfpaaGreatDoor
open Go.Aw
set_option linter.unusedVariables false
set_option linter.unusedSimpArgs false
set_option maxRecDepth 100000
set_option maxHeartbeats 4000000

theorem L.ref14_Proper_ok (batch_0 : Int) (r : Bool) (h : L.ref14_Proper batch_0 = r) : ACalls Tryz.env 58 [.v (.int .i64 batch_0)] [] (fun x new => x = .v (.bool r) ∧ new = []) := by
 refine ACalls.of_body Tryz.func58 rfl rfl rfl (fun C hC => ?_)
 unfold L.ref14_Proper at h
 refine AW.z I (AW.cutX (fun s ob => s = [(2, .v (.bool (decide (batch_0 ≥ 0) && decide (batch_0 < 1000))))] ∧ ob = []) [] trivial ?_ ?_)
 rcases Bool.eq_false_or_eq_true (decide (batch_0 ≥ 0)) with hg3 | hg3
 refine AW.region (AO.q 3 I (AO.known 5 I hg3 (AO.q 4 I (AO.nil ?_))))
 exact lf ⟨I, I⟩ ⟨(get_b (by simp only [hg3, bz])), trivial⟩ [] I
 refine AW.region (AO.q 3 I (AO.known 5 I hg3 (AO.q 4 I (AO.nil ?_))))
 exact lf ⟨I, I⟩ ⟨(get_b (by simp only [hg3, bz])), trivial⟩ [] I
 rintro s ob ⟨rfl, rfl⟩
 obtain rfl := h
 exact AW.ret ⟨.inr I, [_], [], ⟨I, trivial⟩, sl_n, I, I⟩

theorem L.ref14_Valid_ok (f_0 : List Piece) (r : Bool) (h : L.ref14_Valid f_0 = some r) : ACalls Tryz.env 19 [.list 2 (f_0.map Piece.row)] [] (fun x new => x = .v (.bool r) ∧ new = []) := by
 refine ACalls.of_body Tryz.func19 rfl rfl rfl (fun C hC => ?_)
 unfold L.ref14_Valid at h
 refine AW.z I (AW.seqG (fun y2 hy2 => (AW.zr [.l 1 (f_0.length : Int)] I ⟨len_m, trivial⟩ (AW.ch h I ?_ ?_))))
 intro hc3 h
 refine AW.z I ?_
 obtain rfl := Option.some.inj h
 exact AW.ret ⟨.inr I, [_], [], ⟨I, trivial⟩, sl_n, I, I⟩
 intro hc3 h
 refine AW.skip ?_
 subst hy2
 refine AW.z I (AW.cutX (fun s ob => ∃ (j52 : Int), L.ref14_Valid.J1 j52 = some r ∧ s = [(3, .v (.int .i64 j52))] ∧ ob = []) [] trivial ?_ ?_)
 refine AW.zr [.l 1 (f_0.length : Int)] I ⟨len_m, trivial⟩ (AW.block (AW.listMax 9 I (fun hm56 => ?_)))
 replace hm56 : f_0.length ≤ 9223372036854775806 := by rw [List.length_map] at hm56; omega
 obtain ⟨o98, hL99, hR100⟩ := ob_some h
 clear h
 refine AW.forX hL99 [(0, _), (9, _), (10, _)] ⟨I, I, I, trivial⟩ (fun (k54 : Nat) (st85 : Int) s ob => s = [(11, .v (.int .i64 (k54 : Int))), (3, .v (.int .i64 st85))] ∧ ob = []) ⟨I, I⟩ ⟨I, I, trivial⟩ ⟨[], I, by decide⟩ ?_ ?_
 rintro k54 x57 st85 r102 s ob hx58 hk55 ⟨rfl, rfl⟩ h hb101
 unfold L.ref14_Valid.B2 at h
 have hk55t : decide ((k54 : Int) < (f_0.length : Int)) = true := decide_eq_true (by omega)
 refine AW.z I (AW.seqG (fun y104 hy104 => (AW.condK (v := true) I hk55t (AW.skip ?_))))
 subst hy104
 refine AW.seq (AW.block (AW.seqG (fun y105 hy105 => (AW.region (AO.r 3 [.x 1 k54 (Piece.row x57)] I ⟨⟨I, map_get hx58⟩, trivial⟩ (AO.act [] I (AX.alloc (cs := [.v (.int .i64 0), .v (.int .i64 0)]) (m := 2) I I I I I (dst_some I) (fun b106 => (AO.q 1 I (AO.act [0] I (AX.store 0 0 0 (es' := [Piece.row x57]) I I I I I I I I (le_ble I) I I (AO.nil ?_))))))))))))
 subst hy105
 refine AW.seq (AW.cutX (fun s ob => ∃ (j113 : Bool), L.ref14_Valid.J3 x57 st85 j113 = some r102 ∧ s = [(44, .v (.bool j113))] ∧ ob = [.arr b106 100 2 1 [Piece.row x57]]) [(0, _), (3, _), (5, _), (9, _), (10, _), (11, _)] ⟨I, I, I, I, I, I, trivial⟩ ?_ ?_)
 rcases Bool.eq_false_or_eq_true ((!(L.ref14_Proper x57.Batch))) with hg115 | hg115
 replace h := ife_t hg115 h
 refine AW.rd (pd 29 0 [2]) [0] [_] I (AP.r 2 [.o 1 0] I ⟨I, trivial⟩ (AP.c I (L.ref14_Proper_ok x57.Batch _ I) (AP.q 2 I (AP.known 20 I hg115 (AP.q 13 I (AP.skipU I I I I (dst_some I) (AP.skipU I I I I (dst_some I) (AP.skipU I I I I (dst_some I) (AP.skipU I I I I (dst_some I) (AP.skipU I I I I (dst_some I) (AP.skipU I I I I (dst_some I) (AP.skipU I I I I (dst_some I) ?_))))))))))))
 refine AP.skipU I I I I (dst_some I) (AP.skipU I I I I (dst_some I) (AP.q 2 I (AP.ofAO (AO.nil ?_))))
 exact lg ⟨true, h, I, I⟩ [0]
 replace h := ife_f hg115 h
 rcases Bool.eq_false_or_eq_true (decide (x57.Volume < 1)) with hg116 | hg116
 replace h := ife_t hg116 h
 refine AW.rd (pd 29 0 [2]) [0] [_] I (AP.r 2 [.o 1 0] I ⟨I, trivial⟩ (AP.c I (L.ref14_Proper_ok x57.Batch _ I) (AP.q 2 I (AP.known 20 I hg115 (AP.r 5 [.o 1 0] I ⟨I, trivial⟩ (AP.known 25 I hg116 (AP.q 8 I (AP.skipU I I I I (dst_some I) (AP.skipU I I I I (dst_some I) (AP.skipU I I I I (dst_some I) (AP.skipU I I I I (dst_some I) (AP.skipU I I I I (dst_some I) ?_))))))))))))
 refine AP.skipU I I I I (dst_some I) (AP.skipU I I I I (dst_some I) (AP.skipU I I I I (dst_some I) (AP.skipU I I I I (dst_some I) (AP.q 2 I (AP.ofAO (AO.nil ?_))))))
 exact lg ⟨true, h, I, I⟩ [0]
 replace h := ife_f hg116 h
 rcases Bool.eq_false_or_eq_true (decide (x57.Volume > 1000000)) with hg117 | hg117
 replace h := ife_t hg117 h
 refine AW.rd (pd 29 0 [2]) [0] [_] I (AP.r 2 [.o 1 0] I ⟨I, trivial⟩ (AP.c I (L.ref14_Proper_ok x57.Batch _ I) (AP.q 2 I (AP.known 20 I hg115 (AP.r 5 [.o 1 0] I ⟨I, trivial⟩ (AP.known 25 I hg116 (AP.r 5 [.o 1 0] I ⟨I, trivial⟩ (AP.known 30 I hg117 (AP.q 3 I (AP.skipU I I I I (dst_some I) (AP.skipU I I I I (dst_some I) (AP.skipU I I I I (dst_some I) ?_))))))))))))
 refine AP.skipU I I I I (dst_some I) (AP.skipU I I I I (dst_some I) (AP.skipU I I I I (dst_some I) (AP.skipU I I I I (dst_some I) (AP.skipU I I I I (dst_some I) (AP.skipU I I I I (dst_some I) (AP.q 2 I (AP.ofAO (AO.nil ?_))))))))
 exact lg ⟨true, h, I, I⟩ [0]
 replace h := ife_f hg117 h
 rcases Bool.eq_false_or_eq_true (decide ((k54 : Int) > 0)) with hg118 | hg118
 replace h := ife_t hg118 h
 obtain ⟨p119, hp120, h⟩ := ob_some h
 obtain ⟨hp120i, hp120x⟩ := ix_some hp120
 refine AW.rd (pd 29 0 [2]) [0] [_] I (AP.r 2 [.o 1 0] I ⟨I, trivial⟩ (AP.c I (L.ref14_Proper_ok x57.Batch _ I) (AP.q 2 I (AP.known 20 I hg115 (AP.r 5 [.o 1 0] I ⟨I, trivial⟩ (AP.known 25 I hg116 (AP.r 5 [.o 1 0] I ⟨I, trivial⟩ (AP.known 30 I hg117 (AP.q 3 I (AP.known 33 I hg118 (AP.r 11 [.o 1 0, .x 5 p119.1 (Piece.row p119.2)] I ⟨⟨hp120i, map_get hp120x⟩, I, trivial⟩ (AP.ofAO ?_))))))))))))
 refine AO.nil ?_
 exact lg ⟨(x57.Batch == p119.2.Batch), h, I, I⟩ [0]
 replace h := ife_f hg118 h
 refine AW.rd (pd 29 0 [2]) [0] [_] I (AP.r 2 [.o 1 0] I ⟨I, trivial⟩ (AP.c I (L.ref14_Proper_ok x57.Batch _ I) (AP.q 2 I (AP.known 20 I hg115 (AP.r 5 [.o 1 0] I ⟨I, trivial⟩ (AP.known 25 I hg116 (AP.r 5 [.o 1 0] I ⟨I, trivial⟩ (AP.known 30 I hg117 (AP.q 3 I (AP.known 33 I hg118 (AP.q 11 I (AP.ofAO ?_))))))))))))
 refine AO.nil ?_
 exact lg ⟨false, h, I, I⟩ [0]
 rintro s ob ⟨j113, h, rfl, rfl⟩
 unfold L.ref14_Valid.J3 at h
 refine AW.ch h I ?_ ?_
 intro hc114 h
 refine AW.z I ?_
 obtain rfl := hb101 _ (Option.some.inj h).symm
 replace h := hR100
 replace h := se_r h
 refine AW.ghost (Ghost.pick [] (K := []) I (by decide)) ?_
 obtain rfl := Option.some.inj h
 exact AW.ret ⟨.inr I, [_], [], ⟨I, trivial⟩, sl_n, I, I⟩
 intro hc114 h
 refine AW.skip (AW.tr [.o 2 0] I ⟨I, trivial⟩ (AW.region (AO.r 2 [.k 0 (k54 + 1 : Nat)] I ⟨cast_wr hk55 hm56, trivial⟩ ?_)))
 obtain rfl := Option.some.inj h
 refine AO.nil ?_
 exact ⟨_, _, _, I, ⟨I, I⟩, ⟨I, I, I, I, I, trivial⟩, [], I, by decide⟩
 rintro st85 s ob ⟨rfl, rfl⟩ he
 subst he
 have h := se_l hR100
 have hk55f : decide (((f_0.length : Nat) : Int) < (f_0.length : Int)) = false := by simp
 refine AW.z I (AW.seqG (fun y122 hy122 => (AW.condK (v := false) I hk55f (AW.exit ?_))))
 exact lg ⟨st85, h, I, I⟩ []
 rintro s ob ⟨j52, h, rfl, rfl⟩
 unfold L.ref14_Valid.J1 at h
 refine AW.z I ?_
 obtain rfl := Option.some.inj h
 exact AW.ret ⟨.inr I, [_], [], ⟨I, trivial⟩, sl_n, I, I⟩

theorem L.ref14_Sum_ok (f_0 : List Piece) (r : Int) (h : L.ref14_Sum f_0 = some r) : ACalls Tryz.env 63 [.list 2 (f_0.map Piece.row)] [] (fun x new => x = .v (.int .i64 r) ∧ new = []) := by
 refine ACalls.of_body Tryz.func63 rfl rfl rfl (fun C hC => ?_)
 unfold L.ref14_Sum at h
 refine AW.z I (AW.z I (AW.cutX (fun s ob => ∃ (j20 : Int), L.ref14_Sum.J1 j20 = some r ∧ s = [(3, .v (.int .i64 j20))] ∧ ob = []) [] trivial ?_ ?_))
 refine AW.zr [.l 1 (f_0.length : Int)] I ⟨len_m, trivial⟩ (AW.block (AW.listMax 5 I (fun hm24 => ?_)))
 replace hm24 : f_0.length ≤ 9223372036854775806 := by rw [List.length_map] at hm24; omega
 obtain ⟨o36, hL37, hR38⟩ := ob_some h
 clear h
 refine AW.forY hL37 [(0, _), (6, _)] ⟨I, I, trivial⟩ (fun (k22 : Nat) (st33 : Int) s ob => s = [(7, .v (.int .i64 (k22 : Int))), (3, .v (.int .i64 st33))] ∧ ob = []) ⟨I, I⟩ ⟨I, I, trivial⟩ ⟨[], I, by decide⟩ ?_ ?_
 rintro k22 x25 st33 r40 s ob hx26 hk23 ⟨rfl, rfl⟩ h
 unfold L.ref14_Sum.B2 at h
 have hk23t : decide ((k22 : Int) < (f_0.length : Int)) = true := decide_eq_true (by omega)
 refine AW.z I (AW.seqG (fun y42 hy42 => (AW.condK (v := true) I hk23t (AW.skip ?_))))
 subst hy42
 refine AW.seq (AW.block (AW.z I (AW.tr [.x 3 k22 (Piece.row x25)] I ⟨⟨I, map_get hx26⟩, trivial⟩ (AW.region (AO.r 2 [.k 0 (k22 + 1 : Nat)] I ⟨cast_wr hk23 hm24, trivial⟩ ?_)))))
 obtain rfl := Option.some.inj h
 refine AO.nil ?_
 exact lg ⟨I, I⟩ []
 rintro st33 s ob ⟨rfl, rfl⟩ he
 subst he
 have h := hR38
 have hk23f : decide (((f_0.length : Nat) : Int) < (f_0.length : Int)) = false := by simp
 refine AW.z I (AW.seqG (fun y44 hy44 => (AW.condK (v := false) I hk23f (AW.exit ?_))))
 exact lg ⟨st33, h, I, I⟩ []
 rintro s ob ⟨j20, h, rfl, rfl⟩
 unfold L.ref14_Sum.J1 at h
 refine AW.z I ?_
 obtain rfl := Option.some.inj h
 exact AW.ret ⟨.inr I, [_], [], ⟨I, trivial⟩, sl_n, I, I⟩

theorem L.ref15_List_ok (f_0 : List Piece) (r : (List Boundary) × Int) (h : L.ref15_List f_0 = some r) : ACalls Tryz.env 28 [.list 2 (f_0.map Piece.row)] [] (fun x new => ∃ (u0 : Value), x = .tup [.v u0, .v (.int .i64 r.2)] ∧ new = [.us u0 74 3 (r.1.map Boundary.row)]) := by
 refine ACalls.of_body Tryz.func28 rfl rfl rfl (fun C hC => ?_)
 unfold L.ref15_List at h
 refine AW.z I (AW.seqG (fun y2 hy2 => (AW.seq ?_)))
 obtain ⟨r3, hx4, h⟩ := ob_some h
 refine AW.region (AO.q 1 I (AO.c (L.ref14_Valid_ok f_0 _ hx4) (AO.q 1 I (AO.nil (AW.ch h I ?_ ?_)))))
 intro hc5 h
 refine AW.z I (AW.ghost (Ghost.nilU 74 3) ?_)
 obtain rfl := Option.some.inj h
 exact AW.ret ⟨.inr I, [_, _], [.us (.slice none 0 0) 74 3 ([].map Boundary.row)], ⟨I, I, trivial⟩, sl_c I (sl_n), ⟨(.slice none 0 0), I, I⟩⟩
 intro hc5 h
 refine AW.skip ?_
 subst hy2
 refine AW.z I (AW.cutX (fun s ob => ∃ (j56 : List Boundary) (v57 : Value), L.ref15_List.J1 j56 = some r ∧ s = [(4, .v v57)] ∧ ob = [.us v57 74 3 (j56.map Boundary.row)]) [] trivial ?_ ?_)
 refine AW.z I (AW.block (AW.ghost (Ghost.nilU 74 3) ?_))
 obtain ⟨o107, hL108, hR109⟩ := ob_some h
 clear h
 refine AW.loopX hL108 [(0, _)] ⟨I, trivial⟩ (fun (st91 : (List Boundary) × Int) s ob => ∃ (v92 : Value), s = [(4, .v v92), (5, .v (.int .i64 st91.2))] ∧ ob = [.us v92 74 3 (st91.1.map Boundary.row)]) ⟨(.slice none 0 0), I, I⟩ ⟨I, I, trivial⟩ ⟨[0], I, by decide⟩ ?_
 rintro st91 r111 s ob ⟨v92, rfl, rfl⟩ h hb110
 unfold L.ref15_List.B2 at h
 refine AW.seqG (fun y112 hy112 => (AW.zr [.l 2 (f_0.length : Int)] I ⟨len_m, trivial⟩ (AW.ch h I ?_ ?_)))
 intro hc113 h
 refine AW.skip ?_
 subst hy112
 refine AW.seq (AW.block ?_)
 obtain ⟨l114, hx115, h⟩ := ob_some h
 obtain ⟨hx115a, hx115b, hx1151, hx1152, hx1153, hx1154, hx1155⟩ := sub_some hx115
 obtain ⟨r116, hx117, h⟩ := ob_some h
 obtain ⟨p118, hp119, h⟩ := ob_some h
 obtain ⟨hp119i, hp119x⟩ := ix_some hp119
 obtain ⟨p120, hp121, h⟩ := ob_some h
 obtain ⟨hp121i, hp121x⟩ := ix_some hp121
 obtain ⟨l123, hx124, h⟩ := ob_some h
 refine AW.rd (.still 0 (.still 1 (.still 2 (.still 3 (.still 5 (.still 6 (.still 7 (.still 8 (.still 9 (.still 10 (.still 11 (.still 12 (.still 13 (.still 14 (.still 15 (.act 4 (.still 16 (.act 17 (.act 18 (.still 19 .nil)))))))))))))))))))) [] [] I (AP.q 3 I (AP.op I (Yp.subL hx115a hx115b 0 I I I I I (bnd0 hx1151) ⟨_, _, I, hx1152⟩ I hx1153 hx1154 hx1155) I (AP.r 11 [.x 3 p118.1 (Piece.row p118.2), .x 8 p120.1 (Piece.row p120.2)] I ⟨⟨hp121i, map_get hp121x⟩, ⟨hp119i, map_get hp119x⟩, trivial⟩ (AP.c I (L.ref14_Sum_ok l114 _ hx117) (AP.p I (Yp.buildP (l := [.v (.int .i64 r116), .v (.int .i64 p118.2.Batch), .v (.int .i64 p120.2.Batch)]) Tryz.bld74 I) I (AP.act [] I I I (AX.lt 3 (([(⟨r116, p118.2.Batch, p120.2.Batch⟩ : Boundary)] : List Boundary).map Boundary.row) (AP.act [0] I I I (AX.ap 0 I hx124 (fun v125 => (AP.eraS 4 (AP.q 1 I (AP.ofAO (AO.nil (AW.region ?_)))))))))))))))
 refine AO.q 3 I ?_
 obtain rfl := Option.some.inj h
 refine AO.nil ?_
 exact ⟨_, _, _, I, ⟨v125, I, I⟩, ⟨I, I, I, trivial⟩, [0], I, by decide⟩
 intro hc113 h
 obtain rfl := hb110 _ (Option.some.inj h).symm
 replace h := hR109
 refine AW.exit ?_
 exact lg ⟨st91.1, v92, h, I, I⟩ [0]
 rintro s ob ⟨j56, v57, h, rfl, rfl⟩
 unfold L.ref15_List.J1 at h
 refine AW.z I ?_
 obtain rfl := Option.some.inj h
 exact AW.ret ⟨.inr I, [_, _], [.us v57 74 3 (j56.map Boundary.row)], ⟨I, I, trivial⟩, sl_c I (sl_n), ⟨v57, I, I⟩⟩

theorem L.keep_In_ok (l_0 : List Int) (x_1 : Int) (r : Bool) (h : L.keep_In l_0 x_1 = some r) : ACalls Tryz.env 29 [.list 1 (l_0.map rI), .v (.int .i64 x_1)] [] (fun x new => x = .v (.bool r) ∧ new = []) := by
 refine ACalls.of_body Tryz.func29 rfl rfl rfl (fun C hC => ?_)
 unfold L.keep_In at h
 refine AW.z I (AW.cutX (fun s ob => ∃ (j20 : Unit), L.keep_In.J1 j20 = some r ∧ s = [] ∧ ob = []) [] trivial ?_ ?_)
 refine AW.zr [.l 1 (l_0.length : Int)] I ⟨len_m, trivial⟩ (AW.block (AW.listMax 6 I (fun hm24 => ?_)))
 replace hm24 : l_0.length ≤ 9223372036854775806 := by rw [List.length_map] at hm24; omega
 obtain ⟨o37, hL38, hR39⟩ := ob_some h
 clear h
 refine AW.forX hL38 [(0, _), (1, _), (7, _)] ⟨I, I, I, trivial⟩ (fun (k22 : Nat) (st32 : Unit) s ob => s = [(8, .v (.int .i64 (k22 : Int)))] ∧ ob = []) ⟨I, I⟩ ⟨I, trivial⟩ ⟨[], I, by decide⟩ ?_ ?_
 rintro k22 x25 st32 r41 s ob hx26 hk23 ⟨rfl, rfl⟩ h hb40
 unfold L.keep_In.B2 at h
 have hk23t : decide ((k22 : Int) < (l_0.length : Int)) = true := decide_eq_true (by omega)
 refine AW.z I (AW.seqG (fun y43 hy43 => (AW.condK (v := true) I hk23t (AW.skip ?_))))
 subst hy43
 refine AW.seq (AW.block (AW.z I (AW.zr [.x 2 k22 (rI x25)] I ⟨⟨I, map_get hx26⟩, trivial⟩ (AW.ch h I ?_ ?_))))
 intro hc45 h
 refine AW.z I ?_
 obtain rfl := hb40 _ (Option.some.inj h).symm
 replace h := hR39
 replace h := se_r h
 obtain rfl := Option.some.inj h
 exact AW.ret ⟨.inr I, [_], [], ⟨I, trivial⟩, sl_n, I, I⟩
 intro hc45 h
 refine AW.skip (AW.region (AO.r 2 [.k 0 (k22 + 1 : Nat)] I ⟨cast_wr hk23 hm24, trivial⟩ ?_))
 obtain rfl := Option.some.inj h
 refine AO.nil ?_
 exact ⟨_, _, _, I, ⟨I, I⟩, ⟨I, I, I, I, trivial⟩, [], I, by decide⟩
 rintro st32 s ob ⟨rfl, rfl⟩ he
 subst he
 have h := se_l hR39
 have hk23f : decide (((l_0.length : Nat) : Int) < (l_0.length : Int)) = false := by simp
 refine AW.z I (AW.seqG (fun y47 hy47 => (AW.condK (v := false) I hk23f (AW.exit ?_))))
 exact lg ⟨(), h, I, I⟩ []
 rintro s ob ⟨j20, h, rfl, rfl⟩
 unfold L.keep_In.J1 at h
 refine AW.z I ?_
 obtain rfl := Option.some.inj h
 exact AW.ret ⟨.inr I, [_], [], ⟨I, trivial⟩, sl_n, I, I⟩

theorem L.law19_GradientBreaks_ok (l_0 : List Int) (r : Bool) (h : L.law19_GradientBreaks l_0 = some r) : ACalls Tryz.env 8 [.list 1 (l_0.map rI)] [] (fun x new => x = .v (.bool r) ∧ new = []) := by
 refine ACalls.of_body Tryz.func8 rfl rfl rfl (fun C hC => ?_)
 unfold L.law19_GradientBreaks at h
 refine AW.z I (AW.seqG (fun y2 hy2 => ?_))
 obtain ⟨r3, hx4, h⟩ := ob_some h
 obtain ⟨r6, hx7, h⟩ := ob_some h
 refine AW.region (AO.q 1 I (AO.act [] I (AX.call0 I I I (L.keep_New_ok l_0 _ hx4) (dst_some I) ?_)))
 rintro _ _ ⟨b5, rfl, rfl⟩
 refine AO.act [0] I (AX.cg [0] (L.law19_world_ok b5 r3 _ hx7) ?_)
 rintro _ _ _ - ⟨v8, v9, v10, rfl, rfl, rfl⟩
 refine AO.q 5 I (AO.act [] I (AX.alloc (cs := [.v (.string ⟨#[]⟩), .v (.int .i64 0), .v (.int .i64 0), .v (.int .i64 0), .v (.int .i64 0), .v (.int .i64 0), .v (.slice none 0 0)]) (m := 7) I I I I I (dst_some I) (fun b11 => (AO.act [4] I (AX.store 4 0 0 (es' := [Segment.row r6.1]) I I I I I I I I (le_ble I) I I (AO.q 3 I (AO.nil ?_)))))))
 subst hy2
 refine AW.seqG (fun y12 hy12 => ?_)
 obtain ⟨r13, hx14, h⟩ := ob_some h
 refine AW.region (AO.r 2 [.o 0 4] I ⟨I, trivial⟩ (AO.ghost (Ghost.freeze [1] (K := [.us v8 100 2 (r6.2.1.map Piece.row)]) I [(28, .list 2 (r6.2.1.map Piece.row)), (4, .list 2 (r6.2.1.map Piece.row)), (33, .list 2 (r6.2.1.map Piece.row))] ⟨⟨_, I, .us 0 I⟩, ⟨_, I, .us 0 I⟩, ⟨_, I, .us 0 I⟩, trivial⟩ (ob' := [.arr b5 78 2 1 [batchlinekeep_Src.row r6.2.2.2.2], .us v9 116 4 (r6.2.2.1.map Batch.row), .us v10 58 5 (r6.2.2.2.1.map Product.row), .arr b11 29 7 1 [Segment.row r6.1]]) (.rest _)) (AO.act [] I (AX.call0 I I I (L.gradient_Breaks_ok r6.1 r6.2.1 _ hx14) (dst_some I) ?_))))
 rintro _ _ ⟨v15, rfl, rfl⟩
 refine AO.q 5 I (AO.nil ?_)
 subst hy12
 refine AW.seqG (fun y16 hy16 => (AW.cutX (fun s ob => ∃ (j31 : Bool), L.law19_GradientBreaks.J1 r6 r13 j31 = some r ∧ s = [(60, .v (.bool j31))] ∧ ob = [.arr b11 29 7 1 [Segment.row r6.1], .us v15 3 1 (r13.1.map rI)]) [(3, _), (4, _), (7, _)] ⟨I, I, I, trivial⟩ ?_ ?_))
 rcases Bool.eq_false_or_eq_true ((r13.2 != 0)) with hg854 | hg854
 replace h := ife_t hg854 h
 refine AW.rd (pd 24 0 []) [] [] I (AP.q 3 I (AP.known 39 I hg854 (AP.q 21 I (AP.ofAO (AO.nil ?_)))))
 exact lg ⟨true, h, I, I⟩ [3, 4]
 replace h := ife_f hg854 h
 rcases Bool.eq_false_or_eq_true (decide ((r13.1.length : Int) < 2)) with hg855 | hg855
 replace h := ife_t hg855 h
 refine AW.formL 4 I (fun hf856 => (AW.rd (pd 24 0 []) [] [] I (AP.q 3 I (AP.known 39 I hg854 (AP.q 1 I (AP.oldG I I I I ((Yp.lenUf I I I hf856).yd) (dst_some I) (AP.q 3 I (AP.known 44 I hg855 (AP.q 16 I (AP.ofAO (AO.nil ?_)))))))))))
 exact lg ⟨true, h, I, I⟩ [3, 4]
 replace h := ife_f hg855 h
 obtain ⟨p857, hp858, h⟩ := ob_some h
 obtain ⟨hp858i, hp858x⟩ := ix_some hp858
 rcases Bool.eq_false_or_eq_true ((p857.2 != 0)) with hg859 | hg859
 replace h := ife_t hg859 h
 refine AW.formL 4 I (fun hf860 => (AW.form 4 p857.1 I hp858x (fun hf861 => (AW.rd (pd 24 0 []) [4] [_] I (AP.q 3 I (AP.known 39 I hg854 (AP.q 1 I (AP.oldG I I I I ((Yp.lenUf I I I hf860).yd) (dst_some I) (AP.q 3 I (AP.known 44 I hg855 (AP.q 1 I (AP.oldG I I I I ((Yp.indexUf (m := p857.1) I I I I I hf861 I hp858i hp858x).yd) (dst_some I) (AP.oldG I I I I (Yd.loadU 0 p857.1 0 I I I (map_get hp858x) I (y := .v (.int .i64 p857.2)) I) (dst_some I) (AP.q 3 I ?_))))))))))))))
 refine AP.known 50 I hg859 (AP.q 10 I (AP.ofAO (AO.nil ?_)))
 exact lg ⟨true, h, I, I⟩ [3, 4]
 replace h := ife_f hg859 h
 obtain ⟨p862, hp863, h⟩ := ob_some h
 obtain ⟨hp863i, hp863x⟩ := ix_some hp863
 refine AW.formL 4 I (fun hf864 => (AW.form 4 p857.1 I hp858x (fun hf865 => (AW.formL 4 I (fun hf866 => (AW.form 4 p862.1 I hp863x (fun hf867 => (AW.rd (pd 24 0 []) [4, 3] [_, _] I (AP.q 3 I (AP.known 39 I hg854 (AP.q 1 I (AP.oldG I I I I ((Yp.lenUf I I I hf864).yd) (dst_some I) (AP.q 3 I (AP.known 44 I hg855 (AP.q 1 I (AP.oldG I I I I ((Yp.indexUf (m := p857.1) I I I I I hf865 I hp858i hp858x).yd) (dst_some I) ?_))))))))))))))))
 refine AP.oldG I I I I (Yd.loadU 0 p857.1 0 I I I (map_get hp858x) I (y := .v (.int .i64 p857.2)) I) (dst_some I) (AP.q 3 I (AP.known 50 I hg859 (AP.q 2 I (AP.oldG I I I I ((Yp.lenUf I I I hf866).yd) (dst_some I) (AP.q 1 I (AP.oldG I I I I ((Yp.indexUf (m := p862.1) I I I I I hf867 I hp863i hp863x).yd) (dst_some I) (AP.oldG I I I I (Yd.loadU 0 p862.1 0 I I I (map_get hp863x) I (y := .v (.int .i64 p862.2)) I) (dst_some I) (AP.r 4 [.o 1 1] I ⟨I, trivial⟩ (AP.ofAO (AO.nil ?_))))))))))
 exact lg ⟨(p862.2 != r6.1.Capacity), h, I, I⟩ [3, 4]
 rintro s ob ⟨j31, h, rfl, rfl⟩
 unfold L.law19_GradientBreaks.J1 at h
 refine AW.ch h I ?_ ?_
 intro hc32 h
 refine AW.z I (AW.ghost (Ghost.pick [] (K := []) I (by decide)) ?_)
 obtain rfl := Option.some.inj h
 exact AW.ret ⟨.inr I, [_], [], ⟨I, trivial⟩, sl_n, I, I⟩
 intro hc32 h
 refine AW.skip ?_
 subst hy16
 refine AW.seqG (fun y33 hy33 => ?_)
 obtain ⟨r34, hx35, h⟩ := ob_some h
 refine AW.region (AO.q 1 I (AO.act [] I (AX.call0 I I I (L.ref15_List_ok r6.2.1 _ hx35) (dst_some I) ?_)))
 rintro _ _ ⟨v36, rfl, rfl⟩
 refine AO.q 5 I (AO.nil ?_)
 subst hy33
 refine AW.z I (AW.cutX (fun s ob => ∃ (j264 : Int), L.law19_GradientBreaks.J2 r6 r13 r34 j264 = some r ∧ s = [(11, .v (.int .i64 j264))] ∧ ob = [.arr b11 29 7 1 [Segment.row r6.1], .us v15 3 1 (r13.1.map rI), .us v36 74 3 (r34.1.map Boundary.row)]) [(3, _), (7, _), (9, _)] ⟨I, I, I, trivial⟩ ?_ ?_)
 refine AW.seqG (fun y394 hy394 => (AW.region (AO.q 1 I (AO.d (Yd.lenUM 1 I I I I) I (AO.q 1 I (AO.nil ?_))))))
 subst hy394
 refine AW.block (AW.usMax 1 I (fun hm397 => ?_))
 replace hm397 : r13.1.length ≤ 9223372036854775806 := by rw [List.length_map] at hm397; omega
 obtain ⟨o618, hL619, hR620⟩ := ob_some h
 clear h
 refine AW.forIX hL619 [(3, _), (7, _), (9, _), (66, _), (67, _)] ⟨I, I, I, I, I, trivial⟩ (fun (k395 : Nat) (st545 : Int) s ob => s = [(68, .v (.int .i64 (k395 : Int))), (11, .v (.int .i64 st545))] ∧ ob = [.arr b11 29 7 1 [Segment.row r6.1], .us v15 3 1 (r13.1.map rI), .us v36 74 3 (r34.1.map Boundary.row)]) ⟨I, I⟩ ⟨I, I, trivial⟩ ⟨[0, 1, 2], I, by decide⟩ ?_ ?_
 rintro k395 st545 r622 s ob hk396 ⟨rfl, rfl⟩ h hb621
 unfold L.law19_GradientBreaks.B8 at h
 have hk396t : decide ((k395 : Int) < (r13.1.length : Int)) = true := decide_eq_true (by omega)
 refine AW.z I (AW.seqG (fun y624 hy624 => (AW.condK (v := true) I hk396t (AW.skip ?_))))
 subst hy624
 refine AW.cutX (fun s ob => ∃ (j694 : Unit), L.law19_GradientBreaks.J9 st545 j694 = some r622 ∧ s = [(11, .v (.int .i64 (wr (st545 + 1))))] ∧ ob = [.arr b11 29 7 1 [Segment.row r6.1], .us v15 3 1 (r13.1.map rI), .us v36 74 3 (r34.1.map Boundary.row)]) [(3, _), (7, _), (9, _), (66, _), (67, _), (68, _)] ⟨I, I, I, I, I, I, trivial⟩ ?_ ?_
 refine AW.block (AW.seqG (fun y695 hy695 => ?_))
 obtain ⟨p696, hp697, h⟩ := ob_some h
 obtain ⟨hp697i, hp697x⟩ := ix_some hp697
 refine AW.region (AO.q 1 I (AO.d (Yd.indexU 1 (m := p696.1) I I I I I I I hp697i (map_get hp697x)) I (AO.d (Yd.loadU 1 p696.1 0 I I I (map_get hp697x) I (y := .v (.int .i64 p696.2)) I) I (AO.q 2 I (AO.nil ?_)))))
 subst hy695
 refine AW.seqG (fun y698 hy698 => (AW.cutX (fun s ob => ∃ (j702 : Bool), L.law19_GradientBreaks.J10 r6 r34 st545 p696 j702 = some r622 ∧ s = [(83, .v (.bool j702))] ∧ ob = [.arr b11 29 7 1 [Segment.row r6.1], .us v15 3 1 (r13.1.map rI), .us v36 74 3 (r34.1.map Boundary.row)]) [(3, _), (7, _), (9, _), (11, _), (13, _), (66, _), (67, _), (68, _)] ⟨I, I, I, I, I, I, I, I, trivial⟩ ?_ ?_))
 rcases Bool.eq_false_or_eq_true (decide ((k395 : Int) > 0)) with hg848 | hg848
 replace h := ife_t hg848 h
 obtain ⟨p849, hp850, h⟩ := ob_some h
 obtain ⟨hp850i, hp850x⟩ := ix_some hp850
 refine AW.region (AO.q 3 I (AO.known 75 I hg848 (AO.q 4 I (AO.gt I I I (AO.d (Yd.indexU 1 (m := p849.1) I I I I I I I hp850i (map_get hp850x)) I (AO.gt I I I (AO.d (Yd.loadU 1 p849.1 0 I I I (map_get hp850x) I (y := .v (.int .i64 p849.2)) I) I (AO.q 2 I (AO.nil ?_)))))))))
 exact lg ⟨decide (p696.2 ≤ p849.2), h, I, I⟩ [0, 1, 2]
 replace h := ife_f hg848 h
 refine AW.region (AO.q 3 I (AO.known 75 I hg848 (AO.q 8 I (AO.nil ?_))))
 exact lg ⟨false, h, I, I⟩ [0, 1, 2]
 rintro s ob ⟨j702, h, rfl, rfl⟩
 unfold L.law19_GradientBreaks.J10 at h
 refine AW.ch h I ?_ ?_
 intro hc703 h
 refine AW.z I ?_
 obtain rfl := hb621 _ (Option.some.inj h).symm
 replace h := hR620
 replace h := se_r h
 refine AW.ghost (Ghost.pick [] (K := []) I (by decide)) ?_
 obtain rfl := Option.some.inj h
 exact AW.ret ⟨.inr I, [_], [], ⟨I, trivial⟩, sl_n, I, I⟩
 intro hc703 h
 refine AW.skip ?_
 subst hy698
 refine AW.z I (AW.cutX (fun s ob => ∃ (j730 : Bool), L.law19_GradientBreaks.J11 r34 st545 p696 j730 = some r622 ∧ s = [(14, .v (.bool j730))] ∧ ob = [.arr b11 29 7 1 [Segment.row r6.1], .us v15 3 1 (r13.1.map rI), .us v36 74 3 (r34.1.map Boundary.row)]) [(3, _), (7, _), (9, _), (11, _), (13, _), (66, _), (67, _), (68, _)] ⟨I, I, I, I, I, I, I, I, trivial⟩ ?_ ?_)
 refine AW.zr [.o 1 0, .l 2 (r6.1.Points.length : Int)] I ⟨len_m, I, trivial⟩ (AW.block (AW.listMax 85 I (fun hm814 => ?_)))
 replace hm814 : r6.1.Points.length ≤ 9223372036854775806 := by rw [List.length_map] at hm814; omega
 obtain ⟨o834, hL835, hR836⟩ := ob_some h
 clear h
 refine AW.forY hL835 [(3, _), (7, _), (9, _), (11, _), (13, _), (66, _), (67, _), (68, _), (85, _), (86, _)] ⟨I, I, I, I, I, I, I, I, I, I, trivial⟩ (fun (k812 : Nat) (st828 : Bool) s ob => s = [(87, .v (.int .i64 (k812 : Int))), (14, .v (.bool st828))] ∧ ob = [.arr b11 29 7 1 [Segment.row r6.1], .us v15 3 1 (r13.1.map rI), .us v36 74 3 (r34.1.map Boundary.row)]) ⟨I, I⟩ ⟨I, I, trivial⟩ ⟨[0, 1, 2], I, by decide⟩ ?_ ?_
 rintro k812 x815 st828 r838 s ob hx816 hk813 ⟨rfl, rfl⟩ h
 unfold L.law19_GradientBreaks.B15 at h
 have hk813t : decide ((k812 : Int) < (r6.1.Points.length : Int)) = true := decide_eq_true (by omega)
 refine AW.z I (AW.seqG (fun y840 hy840 => (AW.condK (v := true) I hk813t (AW.skip ?_))))
 subst hy840
 refine AW.cutX (fun s ob => ∃ (j843 : Bool), L.law19_GradientBreaks.J16 j843 = some r838 ∧ s = [(14, .v (.bool j843))] ∧ ob = [.arr b11 29 7 1 [Segment.row r6.1], .us v15 3 1 (r13.1.map rI), .us v36 74 3 (r34.1.map Boundary.row)]) [(3, _), (7, _), (9, _), (11, _), (13, _), (66, _), (67, _), (68, _), (85, _), (86, _), (87, _)] ⟨I, I, I, I, I, I, I, I, I, I, I, trivial⟩ ?_ ?_
 refine AW.block (AW.seq (AW.region (AO.r 2 [.x 0 k812 (Point.row x815)] I ⟨⟨I, map_get hx816⟩, trivial⟩ (AO.act [] I (AX.alloc (cs := [.v (.int .i64 0), .v (.int .i64 0), .v (.int .i64 0)]) (m := 3) I I I I I (dst_some I) (fun b844 => (AO.act [3] I (AX.store 3 0 0 (es' := [Point.row x815]) I I I I I I I I (le_ble I) I I (AO.nil ?_)))))))))
 rcases Bool.eq_false_or_eq_true (st828) with hg845 | hg845
 replace h := ife_t hg845 h
 refine AW.region (AO.q 2 I (AO.known 92 I hg845 (AO.q 6 I (AO.nil ?_))))
 exact lg ⟨true, h, I, I⟩ [0, 1, 2]
 replace h := ife_f hg845 h
 refine AW.region (AO.q 2 I (AO.known 92 I hg845 (AO.r 6 [.o 1 3] I ⟨I, trivial⟩ (AO.nil ?_))))
 exact lg ⟨(x815.At == p696.2), h, I, I⟩ [0, 1, 2]
 rintro s ob ⟨j843, h, rfl, rfl⟩
 unfold L.law19_GradientBreaks.J16 at h
 refine AW.region (AO.r 2 [.k 0 (k812 + 1 : Nat)] I ⟨cast_wr hk813 hm814, trivial⟩ ?_)
 obtain rfl := Option.some.inj h
 refine AO.nil ?_
 exact lg ⟨I, I⟩ [0, 1, 2]
 rintro st828 s ob ⟨rfl, rfl⟩ he
 subst he
 have h := hR836
 have hk813f : decide (((r6.1.Points.length : Nat) : Int) < (r6.1.Points.length : Int)) = false := by simp
 refine AW.z I (AW.seqG (fun y847 hy847 => (AW.condK (v := false) I hk813f (AW.exit ?_))))
 exact lg ⟨st828, h, I, I⟩ [0, 1, 2]
 rintro s ob ⟨j730, h, rfl, rfl⟩
 unfold L.law19_GradientBreaks.J11 at h
 refine AW.cutX (fun s ob => ∃ (j762 : Bool), L.law19_GradientBreaks.J12 st545 j762 = some r622 ∧ s = [(14, .v (.bool j762))] ∧ ob = [.arr b11 29 7 1 [Segment.row r6.1], .us v15 3 1 (r13.1.map rI), .us v36 74 3 (r34.1.map Boundary.row)]) [(3, _), (7, _), (9, _), (11, _), (66, _), (67, _), (68, _)] ⟨I, I, I, I, I, I, I, trivial⟩ ?_ ?_
 refine AW.seqG (fun y764 hy764 => (AW.region (AO.q 1 I (AO.d (Yd.lenUM 2 I I I I) I (AO.q 1 I (AO.nil ?_))))))
 subst hy764
 refine AW.block (AW.usMax 2 I (fun hm767 => ?_))
 replace hm767 : r34.1.length ≤ 9223372036854775806 := by rw [List.length_map] at hm767; omega
 obtain ⟨o793, hL794, hR795⟩ := ob_some h
 clear h
 refine AW.forJY hL794 [(3, _), (7, _), (9, _), (11, _), (13, _), (66, _), (67, _), (68, _), (99, _), (100, _)] ⟨I, I, I, I, I, I, I, I, I, I, trivial⟩ (fun (k765 : Nat) (st785 : Bool) s ob => s = [(101, .v (.int .i64 (k765 : Int))), (14, .v (.bool st785))] ∧ ob = [.arr b11 29 7 1 [Segment.row r6.1], .us v15 3 1 (r13.1.map rI), .us v36 74 3 (r34.1.map Boundary.row)]) ⟨I, I⟩ ⟨I, I, trivial⟩ ⟨[0, 1, 2], I, by decide⟩ ?_ ?_
 rintro k765 st785 r797 s ob hk766 ⟨rfl, rfl⟩ h
 unfold L.law19_GradientBreaks.B13 at h
 have hk766t : decide ((k765 : Int) < (r34.1.length : Int)) = true := decide_eq_true (by omega)
 refine AW.z I (AW.seqG (fun y799 hy799 => (AW.condK (v := true) I hk766t (AW.skip ?_))))
 subst hy799
 refine AW.cutX (fun s ob => ∃ (j804 : Bool), L.law19_GradientBreaks.J14 j804 = some r797 ∧ s = [(14, .v (.bool j804))] ∧ ob = [.arr b11 29 7 1 [Segment.row r6.1], .us v15 3 1 (r13.1.map rI), .us v36 74 3 (r34.1.map Boundary.row)]) [(3, _), (7, _), (9, _), (11, _), (13, _), (66, _), (67, _), (68, _), (99, _), (100, _), (101, _)] ⟨I, I, I, I, I, I, I, I, I, I, I, trivial⟩ ?_ ?_
 refine AW.block (AW.seq ?_)
 obtain ⟨p805, hp806, h⟩ := ob_some h
 obtain ⟨hp806i, hp806x⟩ := ix_some hp806
 refine AW.region (AO.d (Yd.indexU 2 (m := p805.1) I I I I I I I hp806i (map_get hp806x)) I (AO.d (Yd.loadU 2 p805.1 0 I I I (map_get hp806x) I (y := .agg (Boundary.row p805.2)) I) I (AO.act [] I (AX.alloc (cs := [.v (.int .i64 0), .v (.int .i64 0), .v (.int .i64 0)]) (m := 3) I I I I I (dst_some I) (fun b807 => (AO.act [3] I (AX.store 3 0 0 (es' := [Boundary.row p805.2]) I I I I I I I I (le_ble I) I I (AO.nil ?_))))))))
 rcases Bool.eq_false_or_eq_true (st785) with hg808 | hg808
 replace h := ife_t hg808 h
 refine AW.region (AO.q 2 I (AO.known 106 I hg808 (AO.q 6 I (AO.nil ?_))))
 exact lg ⟨true, h, I, I⟩ [0, 1, 2]
 replace h := ife_f hg808 h
 refine AW.region (AO.q 2 I (AO.known 106 I hg808 (AO.r 6 [.o 1 3] I ⟨I, trivial⟩ (AO.nil ?_))))
 exact lg ⟨(p805.2.At == p696.2), h, I, I⟩ [0, 1, 2]
 rintro s ob ⟨j804, h, rfl, rfl⟩
 unfold L.law19_GradientBreaks.J14 at h
 refine AW.region (AO.r 2 [.k 0 (k765 + 1 : Nat)] I ⟨cast_wr hk766 hm767, trivial⟩ ?_)
 obtain rfl := Option.some.inj h
 refine AO.nil ?_
 exact lg ⟨I, I⟩ [0, 1, 2]
 rintro st785 s ob ⟨rfl, rfl⟩ he
 subst he
 have h := hR795
 have hk766f : decide (((r34.1.length : Nat) : Int) < (r34.1.length : Int)) = false := by simp
 refine AW.z I (AW.seqG (fun y810 hy810 => (AW.condK (v := false) I hk766f (AW.exit ?_))))
 exact lg ⟨st785, h, I, I⟩ [0, 1, 2]
 rintro s ob ⟨j762, h, rfl, rfl⟩
 unfold L.law19_GradientBreaks.J12 at h
 refine AW.seq (AW.z I (AW.ch h I ?_ ?_))
 intro hc763 h
 refine AW.z I ?_
 obtain rfl := hb621 _ (Option.some.inj h).symm
 replace h := hR620
 replace h := se_r h
 refine AW.ghost (Ghost.pick [] (K := []) I (by decide)) ?_
 obtain rfl := Option.some.inj h
 exact AW.ret ⟨.inr I, [_], [], ⟨I, trivial⟩, sl_n, I, I⟩
 intro hc763 h
 refine AW.skip (AW.t I ?_)
 exact lg ⟨(), h, I, I⟩ [0, 1, 2]
 rintro s ob ⟨j694, h, rfl, rfl⟩
 unfold L.law19_GradientBreaks.J9 at h
 refine AW.region (AO.r 2 [.k 0 (k395 + 1 : Nat)] I ⟨cast_wr hk396 hm397, trivial⟩ ?_)
 obtain rfl := Option.some.inj h
 refine AO.nil ?_
 exact ⟨_, _, _, I, ⟨I, I⟩, ⟨I, I, I, I, I, I, I, trivial⟩, [0, 1, 2], I, by decide⟩
 rintro st545 s ob ⟨rfl, rfl⟩ he
 subst he
 have h := se_l hR620
 have hk396f : decide (((r13.1.length : Nat) : Int) < (r13.1.length : Int)) = false := by simp
 refine AW.z I (AW.seqG (fun y852 hy852 => (AW.condK (v := false) I hk396f (AW.exit ?_))))
 exact lg ⟨st545, h, I, I⟩ [0, 1, 2]
 rintro s ob ⟨j264, h, rfl, rfl⟩
 unfold L.law19_GradientBreaks.J2 at h
 refine AW.cutX (fun s ob => ∃ (j287 : Unit), L.law19_GradientBreaks.J3 r6 r13 r34 j264 j287 = some r ∧ s = [] ∧ ob = [.arr b11 29 7 1 [Segment.row r6.1], .us v15 3 1 (r13.1.map rI), .us v36 74 3 (r34.1.map Boundary.row)]) [(3, _), (7, _), (9, _), (11, _)] ⟨I, I, I, I, trivial⟩ ?_ ?_
 refine AW.zr [.o 1 0, .l 2 (r6.1.Points.length : Int)] I ⟨len_m, I, trivial⟩ (AW.block (AW.listMax 119 I (fun hm363 => ?_)))
 replace hm363 : r6.1.Points.length ≤ 9223372036854775806 := by rw [List.length_map] at hm363; omega
 obtain ⟨o380, hL381, hR382⟩ := ob_some h
 clear h
 refine AW.forX hL381 [(3, _), (7, _), (9, _), (11, _), (119, _), (120, _)] ⟨I, I, I, I, I, I, trivial⟩ (fun (k361 : Nat) (st373 : Unit) s ob => s = [(121, .v (.int .i64 (k361 : Int)))] ∧ ob = [.arr b11 29 7 1 [Segment.row r6.1], .us v15 3 1 (r13.1.map rI), .us v36 74 3 (r34.1.map Boundary.row)]) ⟨I, I⟩ ⟨I, trivial⟩ ⟨[0, 1, 2], I, by decide⟩ ?_ ?_
 rintro k361 x364 st373 r384 s ob hx365 hk362 ⟨rfl, rfl⟩ h hb383
 unfold L.law19_GradientBreaks.B7 at h
 have hk362t : decide ((k361 : Int) < (r6.1.Points.length : Int)) = true := decide_eq_true (by omega)
 refine AW.z I (AW.seqG (fun y386 hy386 => (AW.condK (v := true) I hk362t (AW.skip ?_))))
 subst hy386
 refine AW.seq (AW.block (AW.seq (AW.region (AO.r 2 [.x 0 k361 (Point.row x364)] I ⟨⟨I, map_get hx365⟩, trivial⟩ (AO.act [] I (AX.alloc (cs := [.v (.int .i64 0), .v (.int .i64 0), .v (.int .i64 0)]) (m := 3) I I I I I (dst_some I) (fun b387 => (AO.act [3] I (AX.store 3 0 0 (es' := [Point.row x364]) I I I I I I I I (le_ble I) I I (AO.nil (AW.seq ?_)))))))))))
 obtain ⟨r388, hx389, h⟩ := ob_some h
 refine AW.region (AO.r 3 [.o 2 3] I ⟨I, trivial⟩ (AO.act [] I (AX.callL I (.refl _) I I (.cons (.us 1 I) (.rest _)) I (L.keep_In_ok r13.1 x364.At _ hx389) (dst_some I) (by rintro _ _ ⟨rfl, _⟩; rfl) ?_)))
 rintro _ ⟨_, rfl, -⟩
 refine AO.q 1 I (AO.nil (AW.ch h I ?_ ?_))
 intro hc390 h
 refine AW.z I ?_
 obtain rfl := hb383 _ (Option.some.inj h).symm
 replace h := hR382
 replace h := se_r h
 refine AW.ghost (Ghost.pick [] (K := []) I (by decide)) ?_
 obtain rfl := Option.some.inj h
 exact AW.ret ⟨.inr I, [_], [], ⟨I, trivial⟩, sl_n, I, I⟩
 intro hc390 h
 refine AW.skip (AW.region (AO.r 2 [.k 0 (k361 + 1 : Nat)] I ⟨cast_wr hk362 hm363, trivial⟩ ?_))
 obtain rfl := Option.some.inj h
 refine AO.nil ?_
 exact ⟨_, _, _, I, ⟨I, I⟩, ⟨I, I, I, I, I, I, I, trivial⟩, [0, 1, 2], I, by decide⟩
 rintro st373 s ob ⟨rfl, rfl⟩ he
 subst he
 have h := se_l hR382
 have hk362f : decide (((r6.1.Points.length : Nat) : Int) < (r6.1.Points.length : Int)) = false := by simp
 refine AW.z I (AW.seqG (fun y392 hy392 => (AW.condK (v := false) I hk362f (AW.exit ?_))))
 exact lg ⟨(), h, I, I⟩ [0, 1, 2]
 rintro s ob ⟨j287, h, rfl, rfl⟩
 unfold L.law19_GradientBreaks.J3 at h
 refine AW.cutX (fun s ob => ∃ (j313 : Unit), L.law19_GradientBreaks.J4 r6 r34 j264 j313 = some r ∧ s = [] ∧ ob = [.arr b11 29 7 1 [Segment.row r6.1], .us v36 74 3 (r34.1.map Boundary.row)]) [(3, _), (9, _), (11, _)] ⟨I, I, I, trivial⟩ ?_ ?_
 refine AW.seqG (fun y321 hy321 => (AW.region (AO.q 1 I (AO.d (Yd.lenUM 2 I I I I) I (AO.q 1 I (AO.nil ?_))))))
 subst hy321
 refine AW.block (AW.usMax 2 I (fun hm324 => ?_))
 replace hm324 : r34.1.length ≤ 9223372036854775806 := by rw [List.length_map] at hm324; omega
 obtain ⟨o344, hL345, hR346⟩ := ob_some h
 clear h
 refine AW.forIX hL345 [(3, _), (7, _), (9, _), (11, _), (131, _), (132, _)] ⟨I, I, I, I, I, I, trivial⟩ (fun (k322 : Nat) (st335 : Unit) s ob => s = [(133, .v (.int .i64 (k322 : Int)))] ∧ ob = [.arr b11 29 7 1 [Segment.row r6.1], .us v15 3 1 (r13.1.map rI), .us v36 74 3 (r34.1.map Boundary.row)]) ⟨I, I⟩ ⟨I, trivial⟩ ⟨[0, 1, 2], I, by decide⟩ ?_ ?_
 rintro k322 st335 r348 s ob hk323 ⟨rfl, rfl⟩ h hb347
 unfold L.law19_GradientBreaks.B6 at h
 have hk323t : decide ((k322 : Int) < (r34.1.length : Int)) = true := decide_eq_true (by omega)
 refine AW.z I (AW.seqG (fun y350 hy350 => (AW.condK (v := true) I hk323t (AW.skip ?_))))
 subst hy350
 refine AW.seq (AW.block (AW.seq ?_))
 obtain ⟨p351, hp352, h⟩ := ob_some h
 obtain ⟨hp352i, hp352x⟩ := ix_some hp352
 refine AW.region (AO.d (Yd.indexU 2 (m := p351.1) I I I I I I I hp352i (map_get hp352x)) I (AO.d (Yd.loadU 2 p351.1 0 I I I (map_get hp352x) I (y := .agg (Boundary.row p351.2)) I) I (AO.act [] I (AX.alloc (cs := [.v (.int .i64 0), .v (.int .i64 0), .v (.int .i64 0)]) (m := 3) I I I I I (dst_some I) (fun b353 => (AO.act [3] I (AX.store 3 0 0 (es' := [Boundary.row p351.2]) I I I I I I I I (le_ble I) I I (AO.nil (AW.seq ?_)))))))))
 obtain ⟨r354, hx355, h⟩ := ob_some h
 refine AW.region (AO.r 3 [.o 2 3] I ⟨I, trivial⟩ (AO.act [] I (AX.callL I (.refl _) I I (.cons (.us 1 I) (.rest _)) I (L.keep_In_ok r13.1 p351.2.At _ hx355) (dst_some I) (by rintro _ _ ⟨rfl, _⟩; rfl) ?_)))
 rintro _ ⟨_, rfl, -⟩
 refine AO.q 1 I (AO.nil (AW.ch h I ?_ ?_))
 intro hc356 h
 refine AW.z I ?_
 obtain rfl := hb347 _ (Option.some.inj h).symm
 replace h := hR346
 replace h := se_r h
 refine AW.ghost (Ghost.pick [] (K := []) I (by decide)) ?_
 obtain rfl := Option.some.inj h
 exact AW.ret ⟨.inr I, [_], [], ⟨I, trivial⟩, sl_n, I, I⟩
 intro hc356 h
 refine AW.skip (AW.region (AO.r 2 [.k 0 (k322 + 1 : Nat)] I ⟨cast_wr hk323 hm324, trivial⟩ ?_))
 obtain rfl := Option.some.inj h
 refine AO.nil ?_
 exact ⟨_, _, _, I, ⟨I, I⟩, ⟨I, I, I, I, I, I, I, trivial⟩, [0, 1, 2], I, by decide⟩
 rintro st335 s ob ⟨rfl, rfl⟩ he
 subst he
 have h := se_l hR346
 have hk323f : decide (((r34.1.length : Nat) : Int) < (r34.1.length : Int)) = false := by simp
 refine AW.z I (AW.seqG (fun y358 hy358 => (AW.condK (v := false) I hk323f (AW.exit ?_))))
 exact lg ⟨(), h, I, I⟩ [0, 2]
 rintro s ob ⟨j313, h, rfl, rfl⟩
 unfold L.law19_GradientBreaks.J4 at h
 refine AW.cutX (fun s ob => ∃ (j317 : Bool), L.law19_GradientBreaks.J5 j317 = some r ∧ s = [(2, .v (.bool j317))] ∧ ob = []) [] trivial ?_ ?_
 rcases Bool.eq_false_or_eq_true (decide (j264 ≤ (wr ((r6.1.Points.length : Int) + (r34.1.length : Int))))) with hg318 | hg318
 replace h := ife_t hg318 h
 obtain ⟨r319, hx320, h⟩ := ob_some h
 refine AW.region (AO.r 5 [.o 2 0, .l 3 (r6.1.Points.length : Int)] I ⟨len_m, I, trivial⟩ (AO.d (Yd.lenUM 1 I I I I) I (AO.q 3 I (AO.known 151 I hg318 (AO.gt I I I (AO.c (L.law19_awake_ok  _ hx320) (AO.q 2 I (AO.nil ?_))))))))
 exact lg ⟨r319, h, I, I⟩ []
 replace h := ife_f hg318 h
 refine AW.region (AO.r 5 [.o 2 0, .l 3 (r6.1.Points.length : Int)] I ⟨len_m, I, trivial⟩ (AO.d (Yd.lenUM 1 I I I I) I (AO.q 3 I (AO.known 151 I hg318 (AO.q 3 I (AO.nil ?_))))))
 exact lg ⟨false, h, I, I⟩ []
 rintro s ob ⟨j317, h, rfl, rfl⟩
 unfold L.law19_GradientBreaks.J5 at h
 obtain rfl := Option.some.inj h
 exact AW.ret ⟨.inr I, [_], [], ⟨I, trivial⟩, sl_n, I, I⟩

end Go.Proofs.YtncfbhnecmnfpaaGreatDoor
