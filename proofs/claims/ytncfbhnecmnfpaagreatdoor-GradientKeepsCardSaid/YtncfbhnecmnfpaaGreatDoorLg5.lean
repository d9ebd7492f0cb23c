/- Walks that show what functions of the program compute; printed by a program of ours. No condition. -/
import Derived.Test.YtncfbhnecmnfpaaGreatDoorLg3
import Derived.Test.YtncfbhnecmnfpaaGreatDoorLg4
namespace Go.Proofs.YtncfbhnecmnfpaaGreatDoor
open Go.Aw
set_option linter.unusedVariables false
set_option linter.unusedSimpArgs false
set_option maxRecDepth 100000
set_option maxHeartbeats 4000000

theorem L.ref14_Proper_ok (batch_0 : Int) (r : Bool) (h : L.ref14_Proper batch_0 = r) : ACalls Tryz.env 58 [.v (.int .i64 batch_0)] [] (fun x new => x = .v (.bool r) ∧ new = []) := by
 refine ACalls.of_body Tryz.func58 rfl rfl rfl (fun C hC => ?_)
 unfold L.ref14_Proper at h
 refine AW.z I (AW.cutX (fun s ob => s = [(2, .v (.bool (decide (batch_0 ≥ 0) && decide (batch_0 < 1000))))] ∧ ob = []) [] trivial ?_ ?_)
 rcases Bool.eq_false_or_eq_true (decide (batch_0 ≥ 0)) with hg3 | hg3
 refine AW.region (AO.q 3 I (AO.known 5 I hg3 (AO.q 4 I (AO.nil ?_))))
 exact lf ⟨I, I⟩ ⟨(get_b (by simp only [hg3, bz])), trivial⟩ [] I
 refine AW.region (AO.q 3 I (AO.known 5 I hg3 (AO.q 4 I (AO.nil ?_))))
 exact lf ⟨I, I⟩ ⟨(get_b (by simp only [hg3, bz])), trivial⟩ [] I
 rintro s ob ⟨rfl, rfl⟩
 obtain rfl := h
 exact AW.ret ⟨.inr I, [_], [], ⟨I, trivial⟩, sl_n, I, I⟩

theorem L.ref14_Valid_ok (f_0 : List Piece) (r : Bool) (h : L.ref14_Valid f_0 = some r) : ACalls Tryz.env 19 [.list 2 (f_0.map Piece.row)] [] (fun x new => x = .v (.bool r) ∧ new = []) := by
 refine ACalls.of_body Tryz.func19 rfl rfl rfl (fun C hC => ?_)
 unfold L.ref14_Valid at h
 refine AW.z I (AW.seqG (fun y2 hy2 => (AW.zr [.l 1 (f_0.length : Int)] I ⟨len_m, trivial⟩ (AW.ch h I ?_ ?_))))
 intro hc3 h
 refine AW.z I ?_
 obtain rfl := Option.some.inj h
 exact AW.ret ⟨.inr I, [_], [], ⟨I, trivial⟩, sl_n, I, I⟩
 intro hc3 h
 refine AW.skip ?_
 subst hy2
 refine AW.z I (AW.cutX (fun s ob => ∃ (j52 : Int), L.ref14_Valid.J1 j52 = some r ∧ s = [(3, .v (.int .i64 j52))] ∧ ob = []) [] trivial ?_ ?_)
 refine AW.zr [.l 1 (f_0.length : Int)] I ⟨len_m, trivial⟩ (AW.block (AW.listMax 9 I (fun hm56 => ?_)))
 replace hm56 : f_0.length ≤ 9223372036854775806 := by rw [List.length_map] at hm56; omega
 obtain ⟨o98, hL99, hR100⟩ := ob_some h
 clear h
 refine AW.forX hL99 [(0, _), (9, _), (10, _)] ⟨I, I, I, trivial⟩ (fun (k54 : Nat) (st85 : Int) s ob => s = [(11, .v (.int .i64 (k54 : Int))), (3, .v (.int .i64 st85))] ∧ ob = []) ⟨I, I⟩ ⟨I, I, trivial⟩ ⟨[], I, by decide⟩ ?_ ?_
 rintro k54 x57 st85 r102 s ob hx58 hk55 ⟨rfl, rfl⟩ h hb101
 unfold L.ref14_Valid.B2 at h
 have hk55t : decide ((k54 : Int) < (f_0.length : Int)) = true := decide_eq_true (by omega)
 refine AW.z I (AW.seqG (fun y104 hy104 => (AW.condK (v := true) I hk55t (AW.skip ?_))))
 subst hy104
 refine AW.seq (AW.block (AW.seqG (fun y105 hy105 => (AW.region (AO.r 3 [.x 1 k54 (Piece.row x57)] I ⟨⟨I, map_get hx58⟩, trivial⟩ (AO.act [] I (AX.alloc (cs := [.v (.int .i64 0), .v (.int .i64 0)]) (m := 2) I I I I I (dst_some I) (fun b106 => (AO.q 1 I (AO.act [0] I (AX.store 0 0 0 (es' := [Piece.row x57]) I I I I I I I I (le_ble I) I I (AO.nil ?_))))))))))))
 subst hy105
 refine AW.seq (AW.cutX (fun s ob => ∃ (j113 : Bool), L.ref14_Valid.J3 x57 st85 j113 = some r102 ∧ s = [(44, .v (.bool j113))] ∧ ob = [.arr b106 100 2 1 [Piece.row x57]]) [(0, _), (3, _), (5, _), (9, _), (10, _), (11, _)] ⟨I, I, I, I, I, I, trivial⟩ ?_ ?_)
 rcases Bool.eq_false_or_eq_true ((!(L.ref14_Proper x57.Batch))) with hg115 | hg115
 replace h := ife_t hg115 h
 refine AW.rd (pd 29 0 [2]) [0] [_] I (AP.r 2 [.o 1 0] I ⟨I, trivial⟩ (AP.c I (L.ref14_Proper_ok x57.Batch _ I) (AP.q 2 I (AP.known 20 I hg115 (AP.q 13 I (AP.skipU I I I I (dst_some I) (AP.skipU I I I I (dst_some I) (AP.skipU I I I I (dst_some I) (AP.skipU I I I I (dst_some I) (AP.skipU I I I I (dst_some I) (AP.skipU I I I I (dst_some I) (AP.skipU I I I I (dst_some I) ?_))))))))))))
 refine AP.skipU I I I I (dst_some I) (AP.skipU I I I I (dst_some I) (AP.q 2 I (AP.ofAO (AO.nil ?_))))
 exact lg ⟨true, h, I, I⟩ [0]
 replace h := ife_f hg115 h
 rcases Bool.eq_false_or_eq_true (decide (x57.Volume < 1)) with hg116 | hg116
 replace h := ife_t hg116 h
 refine AW.rd (pd 29 0 [2]) [0] [_] I (AP.r 2 [.o 1 0] I ⟨I, trivial⟩ (AP.c I (L.ref14_Proper_ok x57.Batch _ I) (AP.q 2 I (AP.known 20 I hg115 (AP.r 5 [.o 1 0] I ⟨I, trivial⟩ (AP.known 25 I hg116 (AP.q 8 I (AP.skipU I I I I (dst_some I) (AP.skipU I I I I (dst_some I) (AP.skipU I I I I (dst_some I) (AP.skipU I I I I (dst_some I) (AP.skipU I I I I (dst_some I) ?_))))))))))))
 refine AP.skipU I I I I (dst_some I) (AP.skipU I I I I (dst_some I) (AP.skipU I I I I (dst_some I) (AP.skipU I I I I (dst_some I) (AP.q 2 I (AP.ofAO (AO.nil ?_))))))
 exact lg ⟨true, h, I, I⟩ [0]
 replace h := ife_f hg116 h
 rcases Bool.eq_false_or_eq_true (decide (x57.Volume > 1000000)) with hg117 | hg117
 replace h := ife_t hg117 h
 refine AW.rd (pd 29 0 [2]) [0] [_] I (AP.r 2 [.o 1 0] I ⟨I, trivial⟩ (AP.c I (L.ref14_Proper_ok x57.Batch _ I) (AP.q 2 I (AP.known 20 I hg115 (AP.r 5 [.o 1 0] I ⟨I, trivial⟩ (AP.known 25 I hg116 (AP.r 5 [.o 1 0] I ⟨I, trivial⟩ (AP.known 30 I hg117 (AP.q 3 I (AP.skipU I I I I (dst_some I) (AP.skipU I I I I (dst_some I) (AP.skipU I I I I (dst_some I) ?_))))))))))))
 refine AP.skipU I I I I (dst_some I) (AP.skipU I I I I (dst_some I) (AP.skipU I I I I (dst_some I) (AP.skipU I I I I (dst_some I) (AP.skipU I I I I (dst_some I) (AP.skipU I I I I (dst_some I) (AP.q 2 I (AP.ofAO (AO.nil ?_))))))))
 exact lg ⟨true, h, I, I⟩ [0]
 replace h := ife_f hg117 h
 rcases Bool.eq_false_or_eq_true (decide ((k54 : Int) > 0)) with hg118 | hg118
 replace h := ife_t hg118 h
 obtain ⟨p119, hp120, h⟩ := ob_some h
 obtain ⟨hp120i, hp120x⟩ := ix_some hp120
 refine AW.rd (pd 29 0 [2]) [0] [_] I (AP.r 2 [.o 1 0] I ⟨I, trivial⟩ (AP.c I (L.ref14_Proper_ok x57.Batch _ I) (AP.q 2 I (AP.known 20 I hg115 (AP.r 5 [.o 1 0] I ⟨I, trivial⟩ (AP.known 25 I hg116 (AP.r 5 [.o 1 0] I ⟨I, trivial⟩ (AP.known 30 I hg117 (AP.q 3 I (AP.known 33 I hg118 (AP.r 11 [.o 1 0, .x 5 p119.1 (Piece.row p119.2)] I ⟨⟨hp120i, map_get hp120x⟩, I, trivial⟩ (AP.ofAO ?_))))))))))))
 refine AO.nil ?_
 exact lg ⟨(x57.Batch == p119.2.Batch), h, I, I⟩ [0]
 replace h := ife_f hg118 h
 refine AW.rd (pd 29 0 [2]) [0] [_] I (AP.r 2 [.o 1 0] I ⟨I, trivial⟩ (AP.c I (L.ref14_Proper_ok x57.Batch _ I) (AP.q 2 I (AP.known 20 I hg115 (AP.r 5 [.o 1 0] I ⟨I, trivial⟩ (AP.known 25 I hg116 (AP.r 5 [.o 1 0] I ⟨I, trivial⟩ (AP.known 30 I hg117 (AP.q 3 I (AP.known 33 I hg118 (AP.q 11 I (AP.ofAO ?_))))))))))))
 refine AO.nil ?_
 exact lg ⟨false, h, I, I⟩ [0]
 rintro s ob ⟨j113, h, rfl, rfl⟩
 unfold L.ref14_Valid.J3 at h
 refine AW.ch h I ?_ ?_
 intro hc114 h
 refine AW.z I ?_
 obtain rfl := hb101 _ (Option.some.inj h).symm
 replace h := hR100
 replace h := se_r h
 refine AW.ghost (Ghost.pick [] (K := []) I (by decide)) ?_
 obtain rfl := Option.some.inj h
 exact AW.ret ⟨.inr I, [_], [], ⟨I, trivial⟩, sl_n, I, I⟩
 intro hc114 h
 refine AW.skip (AW.tr [.o 2 0] I ⟨I, trivial⟩ (AW.region (AO.r 2 [.k 0 (k54 + 1 : Nat)] I ⟨cast_wr hk55 hm56, trivial⟩ ?_)))
 obtain rfl := Option.some.inj h
 refine AO.nil ?_
 exact ⟨_, _, _, I, ⟨I, I⟩, ⟨I, I, I, I, I, trivial⟩, [], I, by decide⟩
 rintro st85 s ob ⟨rfl, rfl⟩ he
 subst he
 have h := se_l hR100
 have hk55f : decide (((f_0.length : Nat) : Int) < (f_0.length : Int)) = false := by simp
 refine AW.z I (AW.seqG (fun y122 hy122 => (AW.condK (v := false) I hk55f (AW.exit ?_))))
 exact lg ⟨st85, h, I, I⟩ []
 rintro s ob ⟨j52, h, rfl, rfl⟩
 unfold L.ref14_Valid.J1 at h
 refine AW.z I ?_
 obtain rfl := Option.some.inj h
 exact AW.ret ⟨.inr I, [_], [], ⟨I, trivial⟩, sl_n, I, I⟩

theorem L.ref14_Sum_ok (f_0 : List Piece) (r : Int) (h : L.ref14_Sum f_0 = some r) : ACalls Tryz.env 63 [.list 2 (f_0.map Piece.row)] [] (fun x new => x = .v (.int .i64 r) ∧ new = []) := by
 refine ACalls.of_body Tryz.func63 rfl rfl rfl (fun C hC => ?_)
 unfold L.ref14_Sum at h
 refine AW.z I (AW.z I (AW.cutX (fun s ob => ∃ (j20 : Int), L.ref14_Sum.J1 j20 = some r ∧ s = [(3, .v (.int .i64 j20))] ∧ ob = []) [] trivial ?_ ?_))
 refine AW.zr [.l 1 (f_0.length : Int)] I ⟨len_m, trivial⟩ (AW.block (AW.listMax 5 I (fun hm24 => ?_)))
 replace hm24 : f_0.length ≤ 9223372036854775806 := by rw [List.length_map] at hm24; omega
 obtain ⟨o36, hL37, hR38⟩ := ob_some h
 clear h
 refine AW.forY hL37 [(0, _), (6, _)] ⟨I, I, trivial⟩ (fun (k22 : Nat) (st33 : Int) s ob => s = [(7, .v (.int .i64 (k22 : Int))), (3, .v (.int .i64 st33))] ∧ ob = []) ⟨I, I⟩ ⟨I, I, trivial⟩ ⟨[], I, by decide⟩ ?_ ?_
 rintro k22 x25 st33 r40 s ob hx26 hk23 ⟨rfl, rfl⟩ h
 unfold L.ref14_Sum.B2 at h
 have hk23t : decide ((k22 : Int) < (f_0.length : Int)) = true := decide_eq_true (by omega)
 refine AW.z I (AW.seqG (fun y42 hy42 => (AW.condK (v := true) I hk23t (AW.skip ?_))))
 subst hy42
 refine AW.seq (AW.block (AW.z I (AW.tr [.x 3 k22 (Piece.row x25)] I ⟨⟨I, map_get hx26⟩, trivial⟩ (AW.region (AO.r 2 [.k 0 (k22 + 1 : Nat)] I ⟨cast_wr hk23 hm24, trivial⟩ ?_)))))
 obtain rfl := Option.some.inj h
 refine AO.nil ?_
 exact lg ⟨I, I⟩ []
 rintro st33 s ob ⟨rfl, rfl⟩ he
 subst he
 have h := hR38
 have hk23f : decide (((f_0.length : Nat) : Int) < (f_0.length : Int)) = false := by simp
 refine AW.z I (AW.seqG (fun y44 hy44 => (AW.condK (v := false) I hk23f (AW.exit ?_))))
 exact lg ⟨st33, h, I, I⟩ []
 rintro s ob ⟨j20, h, rfl, rfl⟩
 unfold L.ref14_Sum.J1 at h
 refine AW.z I ?_
 obtain rfl := Option.some.inj h
 exact AW.ret ⟨.inr I, [_], [], ⟨I, trivial⟩, sl_n, I, I⟩

theorem L.ref15_List_ok (f_0 : List Piece) (r : (List Boundary) × Int) (h : L.ref15_List f_0 = some r) : ACalls Tryz.env 28 [.list 2 (f_0.map Piece.row)] [] (fun x new => ∃ (u0 : Value), x = .tup [.v u0, .v (.int .i64 r.2)] ∧ new = [.us u0 74 3 (r.1.map Boundary.row)]) := by
 refine ACalls.of_body Tryz.func28 rfl rfl rfl (fun C hC => ?_)
 unfold L.ref15_List at h
 refine AW.z I (AW.seqG (fun y2 hy2 => (AW.seq ?_)))
 obtain ⟨r3, hx4, h⟩ := ob_some h
 refine AW.region (AO.q 1 I (AO.c (L.ref14_Valid_ok f_0 _ hx4) (AO.q 1 I (AO.nil (AW.ch h I ?_ ?_)))))
 intro hc5 h
 refine AW.z I (AW.ghost (Ghost.nilU 74 3) ?_)
 obtain rfl := Option.some.inj h
 exact AW.ret ⟨.inr I, [_, _], [.us (.slice none 0 0) 74 3 ([].map Boundary.row)], ⟨I, I, trivial⟩, sl_c I (sl_n), ⟨(.slice none 0 0), I, I⟩⟩
 intro hc5 h
 refine AW.skip ?_
 subst hy2
 refine AW.z I (AW.cutX (fun s ob => ∃ (j56 : List Boundary) (v57 : Value), L.ref15_List.J1 j56 = some r ∧ s = [(4, .v v57)] ∧ ob = [.us v57 74 3 (j56.map Boundary.row)]) [] trivial ?_ ?_)
 refine AW.z I (AW.block (AW.ghost (Ghost.nilU 74 3) ?_))
 obtain ⟨o107, hL108, hR109⟩ := ob_some h
 clear h
 refine AW.loopX hL108 [(0, _)] ⟨I, trivial⟩ (fun (st91 : (List Boundary) × Int) s ob => ∃ (v92 : Value), s = [(4, .v v92), (5, .v (.int .i64 st91.2))] ∧ ob = [.us v92 74 3 (st91.1.map Boundary.row)]) ⟨(.slice none 0 0), I, I⟩ ⟨I, I, trivial⟩ ⟨[0], I, by decide⟩ ?_
 rintro st91 r111 s ob ⟨v92, rfl, rfl⟩ h hb110
 unfold L.ref15_List.B2 at h
 refine AW.seqG (fun y112 hy112 => (AW.zr [.l 2 (f_0.length : Int)] I ⟨len_m, trivial⟩ (AW.ch h I ?_ ?_)))
 intro hc113 h
 refine AW.skip ?_
 subst hy112
 refine AW.seq (AW.block ?_)
 obtain ⟨l114, hx115, h⟩ := ob_some h
 obtain ⟨hx115a, hx115b, hx1151, hx1152, hx1153, hx1154, hx1155⟩ := sub_some hx115
 obtain ⟨r116, hx117, h⟩ := ob_some h
 obtain ⟨p118, hp119, h⟩ := ob_some h
 obtain ⟨hp119i, hp119x⟩ := ix_some hp119
 obtain ⟨p120, hp121, h⟩ := ob_some h
 obtain ⟨hp121i, hp121x⟩ := ix_some hp121
 obtain ⟨l123, hx124, h⟩ := ob_some h
 refine AW.rd (.still 0 (.still 1 (.still 2 (.still 3 (.still 5 (.still 6 (.still 7 (.still 8 (.still 9 (.still 10 (.still 11 (.still 12 (.still 13 (.still 14 (.still 15 (.act 4 (.still 16 (.act 17 (.act 18 (.still 19 .nil)))))))))))))))))))) [] [] I (AP.q 3 I (AP.op I (Yp.subL hx115a hx115b 0 I I I I I (bnd0 hx1151) ⟨_, _, I, hx1152⟩ I hx1153 hx1154 hx1155) I (AP.r 11 [.x 3 p118.1 (Piece.row p118.2), .x 8 p120.1 (Piece.row p120.2)] I ⟨⟨hp121i, map_get hp121x⟩, ⟨hp119i, map_get hp119x⟩, trivial⟩ (AP.c I (L.ref14_Sum_ok l114 _ hx117) (AP.p I (Yp.buildP (l := [.v (.int .i64 r116), .v (.int .i64 p118.2.Batch), .v (.int .i64 p120.2.Batch)]) Tryz.bld74 I) I (AP.act [] I I I (AX.lt 3 (([(⟨r116, p118.2.Batch, p120.2.Batch⟩ : Boundary)] : List Boundary).map Boundary.row) (AP.act [0] I I I (AX.ap 0 I hx124 (fun v125 => (AP.eraS 4 (AP.q 1 I (AP.ofAO (AO.nil (AW.region ?_)))))))))))))))
 refine AO.q 3 I ?_
 obtain rfl := Option.some.inj h
 refine AO.nil ?_
 exact ⟨_, _, _, I, ⟨v125, I, I⟩, ⟨I, I, I, trivial⟩, [0], I, by decide⟩
 intro hc113 h
 obtain rfl := hb110 _ (Option.some.inj h).symm
 replace h := hR109
 refine AW.exit ?_
 exact lg ⟨st91.1, v92, h, I, I⟩ [0]
 rintro s ob ⟨j56, v57, h, rfl, rfl⟩
 unfold L.ref15_List.J1 at h
 refine AW.z I ?_
 obtain rfl := Option.some.inj h
 exact AW.ret ⟨.inr I, [_, _], [.us v57 74 3 (j56.map Boundary.row)], ⟨I, I, trivial⟩, sl_c I (sl_n), ⟨v57, I, I⟩⟩

theorem L.keep_In_ok (l_0 : List Int) (x_1 : Int) (r : Bool) (h : L.keep_In l_0 x_1 = some r) : ACalls Tryz.env 29 [.list 1 (l_0.map rI), .v (.int .i64 x_1)] [] (fun x new => x = .v (.bool r) ∧ new = []) := by
 refine ACalls.of_body Tryz.func29 rfl rfl rfl (fun C hC => ?_)
 unfold L.keep_In at h
 refine AW.z I (AW.cutX (fun s ob => ∃ (j20 : Unit), L.keep_In.J1 j20 = some r ∧ s = [] ∧ ob = []) [] trivial ?_ ?_)
 refine AW.zr [.l 1 (l_0.length : Int)] I ⟨len_m, trivial⟩ (AW.block (AW.listMax 6 I (fun hm24 => ?_)))
 replace hm24 : l_0.length ≤ 9223372036854775806 := by rw [List.length_map] at hm24; omega
 obtain ⟨o37, hL38, hR39⟩ := ob_some h
 clear h
 refine AW.forX hL38 [(0, _), (1, _), (7, _)] ⟨I, I, I, trivial⟩ (fun (k22 : Nat) (st32 : Unit) s ob => s = [(8, .v (.int .i64 (k22 : Int)))] ∧ ob = []) ⟨I, I⟩ ⟨I, trivial⟩ ⟨[], I, by decide⟩ ?_ ?_
 rintro k22 x25 st32 r41 s ob hx26 hk23 ⟨rfl, rfl⟩ h hb40
 unfold L.keep_In.B2 at h
 have hk23t : decide ((k22 : Int) < (l_0.length : Int)) = true := decide_eq_true (by omega)
 refine AW.z I (AW.seqG (fun y43 hy43 => (AW.condK (v := true) I hk23t (AW.skip ?_))))
 subst hy43
 refine AW.seq (AW.block (AW.z I (AW.zr [.x 2 k22 (rI x25)] I ⟨⟨I, map_get hx26⟩, trivial⟩ (AW.ch h I ?_ ?_))))
 intro hc45 h
 refine AW.z I ?_
 obtain rfl := hb40 _ (Option.some.inj h).symm
 replace h := hR39
 replace h := se_r h
 obtain rfl := Option.some.inj h
 exact AW.ret ⟨.inr I, [_], [], ⟨I, trivial⟩, sl_n, I, I⟩
 intro hc45 h
 refine AW.skip (AW.region (AO.r 2 [.k 0 (k22 + 1 : Nat)] I ⟨cast_wr hk23 hm24, trivial⟩ ?_))
 obtain rfl := Option.some.inj h
 refine AO.nil ?_
 exact ⟨_, _, _, I, ⟨I, I⟩, ⟨I, I, I, I, trivial⟩, [], I, by decide⟩
 rintro st32 s ob ⟨rfl, rfl⟩ he
 subst he
 have h := se_l hR39
 have hk23f : decide (((l_0.length : Nat) : Int) < (l_0.length : Int)) = false := by simp
 refine AW.z I (AW.seqG (fun y47 hy47 => (AW.condK (v := false) I hk23f (AW.exit ?_))))
 exact lg ⟨(), h, I, I⟩ []
 rintro s ob ⟨j20, h, rfl, rfl⟩
 unfold L.keep_In.J1 at h
 refine AW.z I ?_
 obtain rfl := Option.some.inj h
 exact AW.ret ⟨.inr I, [_], [], ⟨I, trivial⟩, sl_n, I, I⟩

theorem L.law19_GradientBreaks_ok (l_0 : List Int) (r : Bool) (h : L.law19_GradientBreaks l_0 = some r) : ACalls Tryz.env 8 [.list 1 (l_0.map rI)] [] (fun x new => x = .v (.bool r) ∧ new = []) := by
 refine ACalls.of_body Tryz.func8 rfl rfl rfl (fun C hC => ?_)
 unfold L.law19_GradientBreaks at h
 refine AW.z I (AW.seqG (fun y2 hy2 => ?_))
 obtain ⟨r3, hx4, h⟩ := ob_some h
 obtain ⟨r6, hx7, h⟩ := ob_some h
 refine AW.region (AO.q 1 I (AO.act [] I (AX.call0 I I I (L.keep_New_ok l_0 _ hx4) (dst_some I) ?_)))
 rintro _ _ ⟨b5, rfl, rfl⟩
 refine AO.act [0] I (AX.cg [0] (L.law19_world_ok b5 r3 _ hx7) ?_)
 rintro _ _ _ - ⟨rfl, rfl, rfl⟩
 refine AO.q 5 I (AO.act [] I (AX.alloc (cs := [.v (.string ⟨#[]⟩), .v (.int .i64 0), .v (.int .i64 0), .v (.int .i64 0), .v (.int .i64 0), .v (.int .i64 0), .v (.slice none 0 0)]) (m := 7) I I I I I (dst_some I) (fun b8 => (AO.act [1] I (AX.store 1 0 0 (es' := [Segment.row r6.1]) I I I I I I I I (le_ble I) I I (AO.q 3 I (AO.nil ?_)))))))
 subst hy2
 refine AW.seqG (fun y9 hy9 => ?_)
 obtain ⟨r10, hx11, h⟩ := ob_some h
 refine AW.region (AO.r 2 [.o 0 1] I ⟨I, trivial⟩ (AO.act [] I (AX.call0 I I I (L.gradient_Breaks_ok r6.1 r6.2.1 _ hx11) (dst_some I) ?_)))
 rintro _ _ ⟨v12, rfl, rfl⟩
 refine AO.q 5 I (AO.nil ?_)
 subst hy9
 refine AW.seqG (fun y13 hy13 => (AW.cutX (fun s ob => ∃ (j28 : Bool), L.law19_GradientBreaks.J1 r6 r10 j28 = some r ∧ s = [(60, .v (.bool j28))] ∧ ob = [.arr b8 29 7 1 [Segment.row r6.1], .us v12 3 1 (r10.1.map rI)]) [(3, _), (4, _), (7, _)] ⟨I, I, I, trivial⟩ ?_ ?_))
 rcases Bool.eq_false_or_eq_true ((r10.2 != 0)) with hg851 | hg851
 replace h := ife_t hg851 h
 refine AW.rd (pd 24 0 []) [] [] I (AP.q 3 I (AP.known 39 I hg851 (AP.q 21 I (AP.ofAO (AO.nil ?_)))))
 exact lg ⟨true, h, I, I⟩ [1, 2]
 replace h := ife_f hg851 h
 rcases Bool.eq_false_or_eq_true (decide ((r10.1.length : Int) < 2)) with hg852 | hg852
 replace h := ife_t hg852 h
 refine AW.formL 2 I (fun hf853 => (AW.rd (pd 24 0 []) [] [] I (AP.q 3 I (AP.known 39 I hg851 (AP.q 1 I (AP.oldG I I I I ((Yp.lenUf I I I hf853).yd) (dst_some I) (AP.q 3 I (AP.known 44 I hg852 (AP.q 16 I (AP.ofAO (AO.nil ?_)))))))))))
 exact lg ⟨true, h, I, I⟩ [1, 2]
 replace h := ife_f hg852 h
 obtain ⟨p854, hp855, h⟩ := ob_some h
 obtain ⟨hp855i, hp855x⟩ := ix_some hp855
 rcases Bool.eq_false_or_eq_true ((p854.2 != 0)) with hg856 | hg856
 replace h := ife_t hg856 h
 refine AW.formL 2 I (fun hf857 => (AW.form 2 p854.1 I hp855x (fun hf858 => (AW.rd (pd 24 0 []) [2] [_] I (AP.q 3 I (AP.known 39 I hg851 (AP.q 1 I (AP.oldG I I I I ((Yp.lenUf I I I hf857).yd) (dst_some I) (AP.q 3 I (AP.known 44 I hg852 (AP.q 1 I (AP.oldG I I I I ((Yp.indexUf (m := p854.1) I I I I I hf858 I hp855i hp855x).yd) (dst_some I) (AP.oldG I I I I (Yd.loadU 0 p854.1 0 I I I (map_get hp855x) I (y := .v (.int .i64 p854.2)) I) (dst_some I) (AP.q 3 I ?_))))))))))))))
 refine AP.known 50 I hg856 (AP.q 10 I (AP.ofAO (AO.nil ?_)))
 exact lg ⟨true, h, I, I⟩ [1, 2]
 replace h := ife_f hg856 h
 obtain ⟨p859, hp860, h⟩ := ob_some h
 obtain ⟨hp860i, hp860x⟩ := ix_some hp860
 refine AW.formL 2 I (fun hf861 => (AW.form 2 p854.1 I hp855x (fun hf862 => (AW.formL 2 I (fun hf863 => (AW.form 2 p859.1 I hp860x (fun hf864 => (AW.rd (pd 24 0 []) [2, 1] [_, _] I (AP.q 3 I (AP.known 39 I hg851 (AP.q 1 I (AP.oldG I I I I ((Yp.lenUf I I I hf861).yd) (dst_some I) (AP.q 3 I (AP.known 44 I hg852 (AP.q 1 I (AP.oldG I I I I ((Yp.indexUf (m := p854.1) I I I I I hf862 I hp855i hp855x).yd) (dst_some I) ?_))))))))))))))))
 refine AP.oldG I I I I (Yd.loadU 0 p854.1 0 I I I (map_get hp855x) I (y := .v (.int .i64 p854.2)) I) (dst_some I) (AP.q 3 I (AP.known 50 I hg856 (AP.q 2 I (AP.oldG I I I I ((Yp.lenUf I I I hf863).yd) (dst_some I) (AP.q 1 I (AP.oldG I I I I ((Yp.indexUf (m := p859.1) I I I I I hf864 I hp860i hp860x).yd) (dst_some I) (AP.oldG I I I I (Yd.loadU 0 p859.1 0 I I I (map_get hp860x) I (y := .v (.int .i64 p859.2)) I) (dst_some I) (AP.r 4 [.o 1 1] I ⟨I, trivial⟩ (AP.ofAO (AO.nil ?_))))))))))
 exact lg ⟨(p859.2 != r6.1.Capacity), h, I, I⟩ [1, 2]
 rintro s ob ⟨j28, h, rfl, rfl⟩
 unfold L.law19_GradientBreaks.J1 at h
 refine AW.ch h I ?_ ?_
 intro hc29 h
 refine AW.z I (AW.ghost (Ghost.pick [] (K := []) I (by decide)) ?_)
 obtain rfl := Option.some.inj h
 exact AW.ret ⟨.inr I, [_], [], ⟨I, trivial⟩, sl_n, I, I⟩
 intro hc29 h
 refine AW.skip ?_
 subst hy13
 refine AW.seqG (fun y30 hy30 => ?_)
 obtain ⟨r31, hx32, h⟩ := ob_some h
 refine AW.region (AO.q 1 I (AO.act [] I (AX.call0 I I I (L.ref15_List_ok r6.2.1 _ hx32) (dst_some I) ?_)))
 rintro _ _ ⟨v33, rfl, rfl⟩
 refine AO.q 5 I (AO.nil ?_)
 subst hy30
 refine AW.z I (AW.cutX (fun s ob => ∃ (j261 : Int), L.law19_GradientBreaks.J2 r6 r10 r31 j261 = some r ∧ s = [(11, .v (.int .i64 j261))] ∧ ob = [.arr b8 29 7 1 [Segment.row r6.1], .us v12 3 1 (r10.1.map rI), .us v33 74 3 (r31.1.map Boundary.row)]) [(3, _), (7, _), (9, _)] ⟨I, I, I, trivial⟩ ?_ ?_)
 refine AW.seqG (fun y391 hy391 => (AW.region (AO.q 1 I (AO.d (Yd.lenUM 1 I I I I) I (AO.q 1 I (AO.nil ?_))))))
 subst hy391
 refine AW.block (AW.usMax 1 I (fun hm394 => ?_))
 replace hm394 : r10.1.length ≤ 9223372036854775806 := by rw [List.length_map] at hm394; omega
 obtain ⟨o615, hL616, hR617⟩ := ob_some h
 clear h
 refine AW.forIX hL616 [(3, _), (7, _), (9, _), (66, _), (67, _)] ⟨I, I, I, I, I, trivial⟩ (fun (k392 : Nat) (st542 : Int) s ob => s = [(68, .v (.int .i64 (k392 : Int))), (11, .v (.int .i64 st542))] ∧ ob = [.arr b8 29 7 1 [Segment.row r6.1], .us v12 3 1 (r10.1.map rI), .us v33 74 3 (r31.1.map Boundary.row)]) ⟨I, I⟩ ⟨I, I, trivial⟩ ⟨[0, 1, 2], I, by decide⟩ ?_ ?_
 rintro k392 st542 r619 s ob hk393 ⟨rfl, rfl⟩ h hb618
 unfold L.law19_GradientBreaks.B8 at h
 have hk393t : decide ((k392 : Int) < (r10.1.length : Int)) = true := decide_eq_true (by omega)
 refine AW.z I (AW.seqG (fun y621 hy621 => (AW.condK (v := true) I hk393t (AW.skip ?_))))
 subst hy621
 refine AW.cutX (fun s ob => ∃ (j691 : Unit), L.law19_GradientBreaks.J9 st542 j691 = some r619 ∧ s = [(11, .v (.int .i64 (wr (st542 + 1))))] ∧ ob = [.arr b8 29 7 1 [Segment.row r6.1], .us v12 3 1 (r10.1.map rI), .us v33 74 3 (r31.1.map Boundary.row)]) [(3, _), (7, _), (9, _), (66, _), (67, _), (68, _)] ⟨I, I, I, I, I, I, trivial⟩ ?_ ?_
 refine AW.block (AW.seqG (fun y692 hy692 => ?_))
 obtain ⟨p693, hp694, h⟩ := ob_some h
 obtain ⟨hp694i, hp694x⟩ := ix_some hp694
 refine AW.region (AO.q 1 I (AO.d (Yd.indexU 1 (m := p693.1) I I I I I I I hp694i (map_get hp694x)) I (AO.d (Yd.loadU 1 p693.1 0 I I I (map_get hp694x) I (y := .v (.int .i64 p693.2)) I) I (AO.q 2 I (AO.nil ?_)))))
 subst hy692
 refine AW.seqG (fun y695 hy695 => (AW.cutX (fun s ob => ∃ (j699 : Bool), L.law19_GradientBreaks.J10 r6 r31 st542 p693 j699 = some r619 ∧ s = [(83, .v (.bool j699))] ∧ ob = [.arr b8 29 7 1 [Segment.row r6.1], .us v12 3 1 (r10.1.map rI), .us v33 74 3 (r31.1.map Boundary.row)]) [(3, _), (7, _), (9, _), (11, _), (13, _), (66, _), (67, _), (68, _)] ⟨I, I, I, I, I, I, I, I, trivial⟩ ?_ ?_))
 rcases Bool.eq_false_or_eq_true (decide ((k392 : Int) > 0)) with hg845 | hg845
 replace h := ife_t hg845 h
 obtain ⟨p846, hp847, h⟩ := ob_some h
 obtain ⟨hp847i, hp847x⟩ := ix_some hp847
 refine AW.region (AO.q 3 I (AO.known 75 I hg845 (AO.q 4 I (AO.gt I I I (AO.d (Yd.indexU 1 (m := p846.1) I I I I I I I hp847i (map_get hp847x)) I (AO.gt I I I (AO.d (Yd.loadU 1 p846.1 0 I I I (map_get hp847x) I (y := .v (.int .i64 p846.2)) I) I (AO.q 2 I (AO.nil ?_)))))))))
 exact lg ⟨decide (p693.2 ≤ p846.2), h, I, I⟩ [0, 1, 2]
 replace h := ife_f hg845 h
 refine AW.region (AO.q 3 I (AO.known 75 I hg845 (AO.q 8 I (AO.nil ?_))))
 exact lg ⟨false, h, I, I⟩ [0, 1, 2]
 rintro s ob ⟨j699, h, rfl, rfl⟩
 unfold L.law19_GradientBreaks.J10 at h
 refine AW.ch h I ?_ ?_
 intro hc700 h
 refine AW.z I ?_
 obtain rfl := hb618 _ (Option.some.inj h).symm
 replace h := hR617
 replace h := se_r h
 refine AW.ghost (Ghost.pick [] (K := []) I (by decide)) ?_
 obtain rfl := Option.some.inj h
 exact AW.ret ⟨.inr I, [_], [], ⟨I, trivial⟩, sl_n, I, I⟩
 intro hc700 h
 refine AW.skip ?_
 subst hy695
 refine AW.z I (AW.cutX (fun s ob => ∃ (j727 : Bool), L.law19_GradientBreaks.J11 r31 st542 p693 j727 = some r619 ∧ s = [(14, .v (.bool j727))] ∧ ob = [.arr b8 29 7 1 [Segment.row r6.1], .us v12 3 1 (r10.1.map rI), .us v33 74 3 (r31.1.map Boundary.row)]) [(3, _), (7, _), (9, _), (11, _), (13, _), (66, _), (67, _), (68, _)] ⟨I, I, I, I, I, I, I, I, trivial⟩ ?_ ?_)
 refine AW.zr [.o 1 0, .l 2 (r6.1.Points.length : Int)] I ⟨len_m, I, trivial⟩ (AW.block (AW.listMax 85 I (fun hm811 => ?_)))
 replace hm811 : r6.1.Points.length ≤ 9223372036854775806 := by rw [List.length_map] at hm811; omega
 obtain ⟨o831, hL832, hR833⟩ := ob_some h
 clear h
 refine AW.forY hL832 [(3, _), (7, _), (9, _), (11, _), (13, _), (66, _), (67, _), (68, _), (85, _), (86, _)] ⟨I, I, I, I, I, I, I, I, I, I, trivial⟩ (fun (k809 : Nat) (st825 : Bool) s ob => s = [(87, .v (.int .i64 (k809 : Int))), (14, .v (.bool st825))] ∧ ob = [.arr b8 29 7 1 [Segment.row r6.1], .us v12 3 1 (r10.1.map rI), .us v33 74 3 (r31.1.map Boundary.row)]) ⟨I, I⟩ ⟨I, I, trivial⟩ ⟨[0, 1, 2], I, by decide⟩ ?_ ?_
 rintro k809 x812 st825 r835 s ob hx813 hk810 ⟨rfl, rfl⟩ h
 unfold L.law19_GradientBreaks.B15 at h
 have hk810t : decide ((k809 : Int) < (r6.1.Points.length : Int)) = true := decide_eq_true (by omega)
 refine AW.z I (AW.seqG (fun y837 hy837 => (AW.condK (v := true) I hk810t (AW.skip ?_))))
 subst hy837
 refine AW.cutX (fun s ob => ∃ (j840 : Bool), L.law19_GradientBreaks.J16 j840 = some r835 ∧ s = [(14, .v (.bool j840))] ∧ ob = [.arr b8 29 7 1 [Segment.row r6.1], .us v12 3 1 (r10.1.map rI), .us v33 74 3 (r31.1.map Boundary.row)]) [(3, _), (7, _), (9, _), (11, _), (13, _), (66, _), (67, _), (68, _), (85, _), (86, _), (87, _)] ⟨I, I, I, I, I, I, I, I, I, I, I, trivial⟩ ?_ ?_
 refine AW.block (AW.seq (AW.region (AO.r 2 [.x 0 k809 (Point.row x812)] I ⟨⟨I, map_get hx813⟩, trivial⟩ (AO.act [] I (AX.alloc (cs := [.v (.int .i64 0), .v (.int .i64 0), .v (.int .i64 0)]) (m := 3) I I I I I (dst_some I) (fun b841 => (AO.act [3] I (AX.store 3 0 0 (es' := [Point.row x812]) I I I I I I I I (le_ble I) I I (AO.nil ?_)))))))))
 rcases Bool.eq_false_or_eq_true (st825) with hg842 | hg842
 replace h := ife_t hg842 h
 refine AW.region (AO.q 2 I (AO.known 92 I hg842 (AO.q 6 I (AO.nil ?_))))
 exact lg ⟨true, h, I, I⟩ [0, 1, 2]
 replace h := ife_f hg842 h
 refine AW.region (AO.q 2 I (AO.known 92 I hg842 (AO.r 6 [.o 1 3] I ⟨I, trivial⟩ (AO.nil ?_))))
 exact lg ⟨(x812.At == p693.2), h, I, I⟩ [0, 1, 2]
 rintro s ob ⟨j840, h, rfl, rfl⟩
 unfold L.law19_GradientBreaks.J16 at h
 refine AW.region (AO.r 2 [.k 0 (k809 + 1 : Nat)] I ⟨cast_wr hk810 hm811, trivial⟩ ?_)
 obtain rfl := Option.some.inj h
 refine AO.nil ?_
 exact lg ⟨I, I⟩ [0, 1, 2]
 rintro st825 s ob ⟨rfl, rfl⟩ he
 subst he
 have h := hR833
 have hk810f : decide (((r6.1.Points.length : Nat) : Int) < (r6.1.Points.length : Int)) = false := by simp
 refine AW.z I (AW.seqG (fun y844 hy844 => (AW.condK (v := false) I hk810f (AW.exit ?_))))
 exact lg ⟨st825, h, I, I⟩ [0, 1, 2]
 rintro s ob ⟨j727, h, rfl, rfl⟩
 unfold L.law19_GradientBreaks.J11 at h
 refine AW.cutX (fun s ob => ∃ (j759 : Bool), L.law19_GradientBreaks.J12 st542 j759 = some r619 ∧ s = [(14, .v (.bool j759))] ∧ ob = [.arr b8 29 7 1 [Segment.row r6.1], .us v12 3 1 (r10.1.map rI), .us v33 74 3 (r31.1.map Boundary.row)]) [(3, _), (7, _), (9, _), (11, _), (66, _), (67, _), (68, _)] ⟨I, I, I, I, I, I, I, trivial⟩ ?_ ?_
 refine AW.seqG (fun y761 hy761 => (AW.region (AO.q 1 I (AO.d (Yd.lenUM 2 I I I I) I (AO.q 1 I (AO.nil ?_))))))
 subst hy761
 refine AW.block (AW.usMax 2 I (fun hm764 => ?_))
 replace hm764 : r31.1.length ≤ 9223372036854775806 := by rw [List.length_map] at hm764; omega
 obtain ⟨o790, hL791, hR792⟩ := ob_some h
 clear h
 refine AW.forJY hL791 [(3, _), (7, _), (9, _), (11, _), (13, _), (66, _), (67, _), (68, _), (99, _), (100, _)] ⟨I, I, I, I, I, I, I, I, I, I, trivial⟩ (fun (k762 : Nat) (st782 : Bool) s ob => s = [(101, .v (.int .i64 (k762 : Int))), (14, .v (.bool st782))] ∧ ob = [.arr b8 29 7 1 [Segment.row r6.1], .us v12 3 1 (r10.1.map rI), .us v33 74 3 (r31.1.map Boundary.row)]) ⟨I, I⟩ ⟨I, I, trivial⟩ ⟨[0, 1, 2], I, by decide⟩ ?_ ?_
 rintro k762 st782 r794 s ob hk763 ⟨rfl, rfl⟩ h
 unfold L.law19_GradientBreaks.B13 at h
 have hk763t : decide ((k762 : Int) < (r31.1.length : Int)) = true := decide_eq_true (by omega)
 refine AW.z I (AW.seqG (fun y796 hy796 => (AW.condK (v := true) I hk763t (AW.skip ?_))))
 subst hy796
 refine AW.cutX (fun s ob => ∃ (j801 : Bool), L.law19_GradientBreaks.J14 j801 = some r794 ∧ s = [(14, .v (.bool j801))] ∧ ob = [.arr b8 29 7 1 [Segment.row r6.1], .us v12 3 1 (r10.1.map rI), .us v33 74 3 (r31.1.map Boundary.row)]) [(3, _), (7, _), (9, _), (11, _), (13, _), (66, _), (67, _), (68, _), (99, _), (100, _), (101, _)] ⟨I, I, I, I, I, I, I, I, I, I, I, trivial⟩ ?_ ?_
 refine AW.block (AW.seq ?_)
 obtain ⟨p802, hp803, h⟩ := ob_some h
 obtain ⟨hp803i, hp803x⟩ := ix_some hp803
 refine AW.region (AO.d (Yd.indexU 2 (m := p802.1) I I I I I I I hp803i (map_get hp803x)) I (AO.d (Yd.loadU 2 p802.1 0 I I I (map_get hp803x) I (y := .agg (Boundary.row p802.2)) I) I (AO.act [] I (AX.alloc (cs := [.v (.int .i64 0), .v (.int .i64 0), .v (.int .i64 0)]) (m := 3) I I I I I (dst_some I) (fun b804 => (AO.act [3] I (AX.store 3 0 0 (es' := [Boundary.row p802.2]) I I I I I I I I (le_ble I) I I (AO.nil ?_))))))))
 rcases Bool.eq_false_or_eq_true (st782) with hg805 | hg805
 replace h := ife_t hg805 h
 refine AW.region (AO.q 2 I (AO.known 106 I hg805 (AO.q 6 I (AO.nil ?_))))
 exact lg ⟨true, h, I, I⟩ [0, 1, 2]
 replace h := ife_f hg805 h
 refine AW.region (AO.q 2 I (AO.known 106 I hg805 (AO.r 6 [.o 1 3] I ⟨I, trivial⟩ (AO.nil ?_))))
 exact lg ⟨(p802.2.At == p693.2), h, I, I⟩ [0, 1, 2]
 rintro s ob ⟨j801, h, rfl, rfl⟩
 unfold L.law19_GradientBreaks.J14 at h
 refine AW.region (AO.r 2 [.k 0 (k762 + 1 : Nat)] I ⟨cast_wr hk763 hm764, trivial⟩ ?_)
 obtain rfl := Option.some.inj h
 refine AO.nil ?_
 exact lg ⟨I, I⟩ [0, 1, 2]
 rintro st782 s ob ⟨rfl, rfl⟩ he
 subst he
 have h := hR792
 have hk763f : decide (((r31.1.length : Nat) : Int) < (r31.1.length : Int)) = false := by simp
 refine AW.z I (AW.seqG (fun y807 hy807 => (AW.condK (v := false) I hk763f (AW.exit ?_))))
 exact lg ⟨st782, h, I, I⟩ [0, 1, 2]
 rintro s ob ⟨j759, h, rfl, rfl⟩
 unfold L.law19_GradientBreaks.J12 at h
 refine AW.seq (AW.z I (AW.ch h I ?_ ?_))
 intro hc760 h
 refine AW.z I ?_
 obtain rfl := hb618 _ (Option.some.inj h).symm
 replace h := hR617
 replace h := se_r h
 refine AW.ghost (Ghost.pick [] (K := []) I (by decide)) ?_
 obtain rfl := Option.some.inj h
 exact AW.ret ⟨.inr I, [_], [], ⟨I, trivial⟩, sl_n, I, I⟩
 intro hc760 h
 refine AW.skip (AW.t I ?_)
 exact lg ⟨(), h, I, I⟩ [0, 1, 2]
 rintro s ob ⟨j691, h, rfl, rfl⟩
 unfold L.law19_GradientBreaks.J9 at h
 refine AW.region (AO.r 2 [.k 0 (k392 + 1 : Nat)] I ⟨cast_wr hk393 hm394, trivial⟩ ?_)
 obtain rfl := Option.some.inj h
 refine AO.nil ?_
 exact ⟨_, _, _, I, ⟨I, I⟩, ⟨I, I, I, I, I, I, I, trivial⟩, [0, 1, 2], I, by decide⟩
 rintro st542 s ob ⟨rfl, rfl⟩ he
 subst he
 have h := se_l hR617
 have hk393f : decide (((r10.1.length : Nat) : Int) < (r10.1.length : Int)) = false := by simp
 refine AW.z I (AW.seqG (fun y849 hy849 => (AW.condK (v := false) I hk393f (AW.exit ?_))))
 exact lg ⟨st542, h, I, I⟩ [0, 1, 2]
 rintro s ob ⟨j261, h, rfl, rfl⟩
 unfold L.law19_GradientBreaks.J2 at h
 refine AW.cutX (fun s ob => ∃ (j284 : Unit), L.law19_GradientBreaks.J3 r6 r10 r31 j261 j284 = some r ∧ s = [] ∧ ob = [.arr b8 29 7 1 [Segment.row r6.1], .us v12 3 1 (r10.1.map rI), .us v33 74 3 (r31.1.map Boundary.row)]) [(3, _), (7, _), (9, _), (11, _)] ⟨I, I, I, I, trivial⟩ ?_ ?_
 refine AW.zr [.o 1 0, .l 2 (r6.1.Points.length : Int)] I ⟨len_m, I, trivial⟩ (AW.block (AW.listMax 119 I (fun hm360 => ?_)))
 replace hm360 : r6.1.Points.length ≤ 9223372036854775806 := by rw [List.length_map] at hm360; omega
 obtain ⟨o377, hL378, hR379⟩ := ob_some h
 clear h
 refine AW.forX hL378 [(3, _), (7, _), (9, _), (11, _), (119, _), (120, _)] ⟨I, I, I, I, I, I, trivial⟩ (fun (k358 : Nat) (st370 : Unit) s ob => s = [(121, .v (.int .i64 (k358 : Int)))] ∧ ob = [.arr b8 29 7 1 [Segment.row r6.1], .us v12 3 1 (r10.1.map rI), .us v33 74 3 (r31.1.map Boundary.row)]) ⟨I, I⟩ ⟨I, trivial⟩ ⟨[0, 1, 2], I, by decide⟩ ?_ ?_
 rintro k358 x361 st370 r381 s ob hx362 hk359 ⟨rfl, rfl⟩ h hb380
 unfold L.law19_GradientBreaks.B7 at h
 have hk359t : decide ((k358 : Int) < (r6.1.Points.length : Int)) = true := decide_eq_true (by omega)
 refine AW.z I (AW.seqG (fun y383 hy383 => (AW.condK (v := true) I hk359t (AW.skip ?_))))
 subst hy383
 refine AW.seq (AW.block (AW.seq (AW.region (AO.r 2 [.x 0 k358 (Point.row x361)] I ⟨⟨I, map_get hx362⟩, trivial⟩ (AO.act [] I (AX.alloc (cs := [.v (.int .i64 0), .v (.int .i64 0), .v (.int .i64 0)]) (m := 3) I I I I I (dst_some I) (fun b384 => (AO.act [3] I (AX.store 3 0 0 (es' := [Point.row x361]) I I I I I I I I (le_ble I) I I (AO.nil (AW.seq ?_)))))))))))
 obtain ⟨r385, hx386, h⟩ := ob_some h
 refine AW.region (AO.r 3 [.o 2 3] I ⟨I, trivial⟩ (AO.act [] I (AX.callL I (.refl _) I I (.cons (.us 1 I) (.rest _)) I (L.keep_In_ok r10.1 x361.At _ hx386) (dst_some I) (by rintro _ _ ⟨rfl, _⟩; rfl) ?_)))
 rintro _ ⟨_, rfl, -⟩
 refine AO.q 1 I (AO.nil (AW.ch h I ?_ ?_))
 intro hc387 h
 refine AW.z I ?_
 obtain rfl := hb380 _ (Option.some.inj h).symm
 replace h := hR379
 replace h := se_r h
 refine AW.ghost (Ghost.pick [] (K := []) I (by decide)) ?_
 obtain rfl := Option.some.inj h
 exact AW.ret ⟨.inr I, [_], [], ⟨I, trivial⟩, sl_n, I, I⟩
 intro hc387 h
 refine AW.skip (AW.region (AO.r 2 [.k 0 (k358 + 1 : Nat)] I ⟨cast_wr hk359 hm360, trivial⟩ ?_))
 obtain rfl := Option.some.inj h
 refine AO.nil ?_
 exact ⟨_, _, _, I, ⟨I, I⟩, ⟨I, I, I, I, I, I, I, trivial⟩, [0, 1, 2], I, by decide⟩
 rintro st370 s ob ⟨rfl, rfl⟩ he
 subst he
 have h := se_l hR379
 have hk359f : decide (((r6.1.Points.length : Nat) : Int) < (r6.1.Points.length : Int)) = false := by simp
 refine AW.z I (AW.seqG (fun y389 hy389 => (AW.condK (v := false) I hk359f (AW.exit ?_))))
 exact lg ⟨(), h, I, I⟩ [0, 1, 2]
 rintro s ob ⟨j284, h, rfl, rfl⟩
 unfold L.law19_GradientBreaks.J3 at h
 refine AW.cutX (fun s ob => ∃ (j310 : Unit), L.law19_GradientBreaks.J4 r6 r31 j261 j310 = some r ∧ s = [] ∧ ob = [.arr b8 29 7 1 [Segment.row r6.1], .us v33 74 3 (r31.1.map Boundary.row)]) [(3, _), (9, _), (11, _)] ⟨I, I, I, trivial⟩ ?_ ?_
 refine AW.seqG (fun y318 hy318 => (AW.region (AO.q 1 I (AO.d (Yd.lenUM 2 I I I I) I (AO.q 1 I (AO.nil ?_))))))
 subst hy318
 refine AW.block (AW.usMax 2 I (fun hm321 => ?_))
 replace hm321 : r31.1.length ≤ 9223372036854775806 := by rw [List.length_map] at hm321; omega
 obtain ⟨o341, hL342, hR343⟩ := ob_some h
 clear h
 refine AW.forIX hL342 [(3, _), (7, _), (9, _), (11, _), (131, _), (132, _)] ⟨I, I, I, I, I, I, trivial⟩ (fun (k319 : Nat) (st332 : Unit) s ob => s = [(133, .v (.int .i64 (k319 : Int)))] ∧ ob = [.arr b8 29 7 1 [Segment.row r6.1], .us v12 3 1 (r10.1.map rI), .us v33 74 3 (r31.1.map Boundary.row)]) ⟨I, I⟩ ⟨I, trivial⟩ ⟨[0, 1, 2], I, by decide⟩ ?_ ?_
 rintro k319 st332 r345 s ob hk320 ⟨rfl, rfl⟩ h hb344
 unfold L.law19_GradientBreaks.B6 at h
 have hk320t : decide ((k319 : Int) < (r31.1.length : Int)) = true := decide_eq_true (by omega)
 refine AW.z I (AW.seqG (fun y347 hy347 => (AW.condK (v := true) I hk320t (AW.skip ?_))))
 subst hy347
 refine AW.seq (AW.block (AW.seq ?_))
 obtain ⟨p348, hp349, h⟩ := ob_some h
 obtain ⟨hp349i, hp349x⟩ := ix_some hp349
 refine AW.region (AO.d (Yd.indexU 2 (m := p348.1) I I I I I I I hp349i (map_get hp349x)) I (AO.d (Yd.loadU 2 p348.1 0 I I I (map_get hp349x) I (y := .agg (Boundary.row p348.2)) I) I (AO.act [] I (AX.alloc (cs := [.v (.int .i64 0), .v (.int .i64 0), .v (.int .i64 0)]) (m := 3) I I I I I (dst_some I) (fun b350 => (AO.act [3] I (AX.store 3 0 0 (es' := [Boundary.row p348.2]) I I I I I I I I (le_ble I) I I (AO.nil (AW.seq ?_)))))))))
 obtain ⟨r351, hx352, h⟩ := ob_some h
 refine AW.region (AO.r 3 [.o 2 3] I ⟨I, trivial⟩ (AO.act [] I (AX.callL I (.refl _) I I (.cons (.us 1 I) (.rest _)) I (L.keep_In_ok r10.1 p348.2.At _ hx352) (dst_some I) (by rintro _ _ ⟨rfl, _⟩; rfl) ?_)))
 rintro _ ⟨_, rfl, -⟩
 refine AO.q 1 I (AO.nil (AW.ch h I ?_ ?_))
 intro hc353 h
 refine AW.z I ?_
 obtain rfl := hb344 _ (Option.some.inj h).symm
 replace h := hR343
 replace h := se_r h
 refine AW.ghost (Ghost.pick [] (K := []) I (by decide)) ?_
 obtain rfl := Option.some.inj h
 exact AW.ret ⟨.inr I, [_], [], ⟨I, trivial⟩, sl_n, I, I⟩
 intro hc353 h
 refine AW.skip (AW.region (AO.r 2 [.k 0 (k319 + 1 : Nat)] I ⟨cast_wr hk320 hm321, trivial⟩ ?_))
 obtain rfl := Option.some.inj h
 refine AO.nil ?_
 exact ⟨_, _, _, I, ⟨I, I⟩, ⟨I, I, I, I, I, I, I, trivial⟩, [0, 1, 2], I, by decide⟩
 rintro st332 s ob ⟨rfl, rfl⟩ he
 subst he
 have h := se_l hR343
 have hk320f : decide (((r31.1.length : Nat) : Int) < (r31.1.length : Int)) = false := by simp
 refine AW.z I (AW.seqG (fun y355 hy355 => (AW.condK (v := false) I hk320f (AW.exit ?_))))
 exact lg ⟨(), h, I, I⟩ [0, 2]
 rintro s ob ⟨j310, h, rfl, rfl⟩
 unfold L.law19_GradientBreaks.J4 at h
 refine AW.cutX (fun s ob => ∃ (j314 : Bool), L.law19_GradientBreaks.J5 j314 = some r ∧ s = [(2, .v (.bool j314))] ∧ ob = []) [] trivial ?_ ?_
 rcases Bool.eq_false_or_eq_true (decide (j261 ≤ (wr ((r6.1.Points.length : Int) + (r31.1.length : Int))))) with hg315 | hg315
 replace h := ife_t hg315 h
 obtain ⟨r316, hx317, h⟩ := ob_some h
 refine AW.region (AO.r 5 [.o 2 0, .l 3 (r6.1.Points.length : Int)] I ⟨len_m, I, trivial⟩ (AO.d (Yd.lenUM 1 I I I I) I (AO.q 3 I (AO.known 151 I hg315 (AO.gt I I I (AO.c (L.law19_awake_ok  _ hx317) (AO.q 2 I (AO.nil ?_))))))))
 exact lg ⟨r316, h, I, I⟩ []
 replace h := ife_f hg315 h
 refine AW.region (AO.r 5 [.o 2 0, .l 3 (r6.1.Points.length : Int)] I ⟨len_m, I, trivial⟩ (AO.d (Yd.lenUM 1 I I I I) I (AO.q 3 I (AO.known 151 I hg315 (AO.q 3 I (AO.nil ?_))))))
 exact lg ⟨false, h, I, I⟩ []
 rintro s ob ⟨j314, h, rfl, rfl⟩
 unfold L.law19_GradientBreaks.J5 at h
 obtain rfl := Option.some.inj h
 exact AW.ret ⟨.inr I, [_], [], ⟨I, trivial⟩, sl_n, I, I⟩

end Go.Proofs.YtncfbhnecmnfpaaGreatDoor
