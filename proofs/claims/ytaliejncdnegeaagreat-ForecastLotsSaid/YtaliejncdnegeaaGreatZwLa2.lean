/- Walks that show what functions of the program compute; printed by a program of ours. No condition. -/
import Derived.Test.YtaliejncdnegeaaGreatZwLa1
import Derived.Test.YtaliejncdnegeaaGreatZwB2
set_option maxRecDepth 100000
namespace Go.Proofs.YtaliejncdnegeaaGreat
open Go.Aw
set_option linter.unusedVariables false
set_option linter.unusedSimpArgs false
set_option maxHeartbeats 4000000
theorem L.zaio_ok (a : List Int) (b : Int) (r : Int) (h : L.zaio a b = some r) : ACalls Tryz.env 139 [.list 1 (a.map rI), .V b] [] (fun x new => x = .V r ∧ new = []) := by
 refine ACalls.of_body Tryz.func139 rfl rfl rfl (fun C hC => ?_)
 unfold L.zaio at h
 refine AW.z I (AW.seqG (fun H n => (AW.zr [.l 1 (a.length : Int)] I ⟨len_m, J⟩ (AW.ch h I ?_ ?_))))
 intro o h
 refine AW.z I ?_
 obtain rfl := oi h
 exact AW.ret pr
 intro o h
 refine AW.skip ?_
 subst n
 refine AW.z I (AW.cutX (fun s ob => ∃ (f : Int), L.zaio.J1 b f = some r ∧ s = [(5, .V f)] ∧ ob = []) [(1, _)] ⟨I, J⟩ ?_ ?_)
 refine AW.zr [.l 1 (a.length : Int)] I ⟨len_m, J⟩ (AW.block (AW.listMax 11 I (fun j => ?_)))
 replace j : a.length ≤ 9223372036854775806 := by rw [List.length_map] at j; omega
 obtain ⟨K, p, m⟩ := ob_some h
 clear h
 refine AW.forX p [(1, _), (11, _), (12, _)] ⟨I, I, I, J⟩ (fun (c : Nat) (g : Int) s ob => s = [(13, .V (c : Int)), (5, .V g)] ∧ ob = []) ⟨I, I⟩ ⟨I, I, J⟩ ⟨[], I, by decide⟩ ?_ ?_
 rintro c i g M s ob u w ⟨rfl, rfl⟩ h y
 unfold L.zaio.B2 at h
 have A : decide ((c : Int) < (a.length : Int)) = true := decide_eq_true (by omega)
 refine AW.z I (AW.seqG (fun N B => (AW.condK (v := true) I A (AW.skip ?_))))
 subst B
 refine AW.seq (AW.block (AW.zr [.x 0 c (rI i)] I ⟨⟨I, map_get u⟩, J⟩ (AW.seq (AW.cutX (fun s ob => s = [(22, .v (.bool (decide (i < 0) || decide (i > 1000))))] ∧ ob = []) [(1, _), (5, _), (7, _), (11, _), (12, _), (13, _)] ⟨I, I, I, I, I, I, J⟩ ?_ ?_))))
 refine AW.region (AO.q 3 I ?_)
 rcases bt (decide (i < 0)) with d | d
 refine AO.known 19 I d (AO.q 3 I (AO.nil ?_))
 exact lf ⟨I, I⟩ ⟨(get_b (by simp only [d, bz])), I, I, I, I, I, I, J⟩ [] I
 refine AO.known 19 I d (AO.q 3 I (AO.nil ?_))
 exact lf ⟨I, I⟩ ⟨(get_b (by simp only [d, bz])), I, I, I, I, I, I, J⟩ [] I
 rintro s ob ⟨rfl, rfl⟩
 refine AW.ch h I ?_ ?_
 intro D h
 refine AW.z I ?_
 obtain rfl := y _ (oi h).symm
 replace h := m
 replace h := se_r h
 obtain rfl := oi h
 exact AW.ret pr
 intro D h
 refine AW.skip (AW.t I (AW.region (AO.r 2 [.k 0 (c + 1 : Nat)] I ⟨cast_wr w j, J⟩ ?_)))
 obtain rfl := oi h
 refine AO.nil ?_
 exact ⟨_, _, _, I, ⟨I, I⟩, ⟨I, I, I, I, I, J⟩, [], I, by decide⟩
 rintro g s ob ⟨rfl, rfl⟩ he
 subst he
 have h := se_l m
 have E : decide (((a.length : Nat) : Int) < (a.length : Int)) = false := by simp
 refine AW.z I (AW.seqG (fun O P => (AW.condK (v := false) I E (AW.exit ?_))))
 exact lg ⟨g, h, I, I⟩ []
 rintro s ob ⟨f, h, rfl, rfl⟩
 unfold L.zaio.J1 at h
 refine AW.seq (AW.block (AW.z I (AW.ch h I ?_ ?_)))
 intro F h
 refine AW.z I ?_
 obtain rfl := oi h
 exact AW.ret pr
 intro F h
 refine AW.cutX (fun s ob => s = [(30, .v (.bool (decide (b < 0) || decide (b > f))))] ∧ ob = []) [] J ?_ ?_
 refine AW.region (AO.q 3 I ?_)
 rcases bt (decide (b < 0)) with e | e
 refine AO.known 33 I e (AO.q 5 I (AO.nil ?_))
 exact lf ⟨I, I⟩ ⟨(get_b (by simp only [e, bz])), J⟩ [] I
 refine AO.known 33 I e (AO.q 5 I (AO.nil ?_))
 exact lf ⟨I, I⟩ ⟨(get_b (by simp only [e, bz])), J⟩ [] I
 rintro s ob ⟨rfl, rfl⟩
 refine AW.ch h I ?_ ?_
 intro G h
 refine AW.z I ?_
 obtain rfl := oi h
 exact AW.ret pr
 intro G h
 refine AW.skip (AW.z I ?_)
 obtain rfl := oi h
 exact AW.ret pr
theorem L.zwhx_ok (a : List Int) (r : deal_table) (h : L.zwhx a = some r) : ACalls Tryz.env 140 [.list 1 (a.map rI)] [] (fun x new => x = .agg (deal_table.row r) ∧ new = []) := by
 refine ACalls.of_body Tryz.func140 rfl rfl rfl (fun C hC => ?_)
 unfold L.zwhx at h
 refine AW.seqG (fun g e => (AW.region (AO.act [] I (AX.alloc (cs := [.V 0] ++ ((Arr.rep 64 (0 : Int)).l.map cI ++ ((Arr.rep 64 (0 : Int)).l.map cI ++ []))) (m := 129) I I I I I dS (fun f => (AO.nil ?_))))))
 subst e
 refine AW.seq (AW.region (AO.r 2 [.l 1 (a.length : Int)] I ⟨len_m, J⟩ (AO.p (Yp.buildP (l := [.V (a.length : Int)] ++ ((Arr.rep 64 (0 : Int)).l.map cI ++ ((Arr.rep 64 (0 : Int)).l.map cI ++ []))) Tryz.bld176 I) I (AO.act [] I (AX.alloc (cs := [.V 0] ++ ((Arr.rep 64 (0 : Int)).l.map cI ++ ((Arr.rep 64 (0 : Int)).l.map cI ++ []))) (m := 129) I I I I I dS (fun i => (AO.act [1] I (AX.store 1 0 0 (es' := [[.V (a.length : Int)] ++ ((Arr.rep 64 (0 : Int)).l.map cI ++ ((Arr.rep 64 (0 : Int)).l.map cI ++ []))]) I I I I I I I (by simp [Arr.h, flow_streams.row, deal_table.row]) (by simp [Arr.h, flow_streams.row, deal_table.row]) I (congrArg (fun r => [r]) (setC_all (by simp [Arr.h, flow_streams.row, deal_table.row]))) (AO.nil (AW.seq ?_))))))))))
 obtain ⟨b, c, h⟩ := ob_some h
 refine AW.region (AO.q 1 I (AO.p (Yp.sliceA I I I I (by decide)) I (AO.q 1 I (AO.act [1] I (AX.copyA 1 (es := a.map rI) I I I I I I I (AppSrc.list I) (by rw [List.length_map]; exact (cpy_some c).1) (by have := (cpy_some c).1; simp [Arr.h, flow_streams.row, deal_table.row]; omega) (congrArg (fun r => [r]) (seg_set_skip (k := 1) (by simp [Arr.h, flow_streams.row, deal_table.row]) (seg_copy c))) dS (AO.nil (AW.seq (AW.region (AO.d (Yd.loadO 1 0 0 I I I I I (y := .agg ([.V (a.length : Int)] ++ (b.l.map cI ++ ((Arr.rep 64 (0 : Int)).l.map cI ++ [])))) (part_all I (by simp [Arr.h, flow_streams.row, deal_table.row]))) I (AO.act [0] I (AX.store 0 0 0 (es' := [[.V (a.length : Int)] ++ (b.l.map cI ++ ((Arr.rep 64 (0 : Int)).l.map cI ++ []))]) I I I I I I I (by simp [Arr.h, flow_streams.row, deal_table.row]) (by simp [Arr.h, flow_streams.row, deal_table.row]) I (congrArg (fun r => [r]) (setC_all (by simp [Arr.h, flow_streams.row, deal_table.row]))) (AO.nil (AW.ghost (Ghost.pick [0] (K := [.arr f 176 129 1 [[.V (a.length : Int)] ++ (b.l.map cI ++ ((Arr.rep 64 (0 : Int)).l.map cI ++ []))]]) I (by decide)) ?_)))))))))))))
 obtain rfl := oi h
 exact AW.ret ⟨.inr I, [_], [], ⟨⟨0, _, _, _, _, _, _, _, I, I, I, I, (part_all I (by simp [Arr.h, flow_streams.row, deal_table.row]))⟩, J⟩, sl_n, I, I⟩
theorem L.zfrq_ok (c : Nat) (a : deal_table) (r : Int × deal_table) (h : L.zfrq a = some r) : ACalls Tryz.env 141 [.v (.pointer (some ⟨c, 0, none⟩))] [.arr c 176 129 1 [[.V a.n_] ++ (a.rates.l.map cI ++ (a.counts.l.map cI ++ []))]] (Gives 1 (fun x os new => x = .V r.1 ∧ os = [.arr c 176 129 1 [[.V r.2.n_] ++ (r.2.rates.l.map cI ++ (r.2.counts.l.map cI ++ []))]] ∧ new = [])) := by
 refine ACalls.of_body Tryz.func141 rfl rfl rfl (fun C hC => ?_)
 unfold L.zfrq at h
 refine AW.z I (AW.z I (AW.cutX (fun s ob => ∃ (w : Int), L.zfrq.J1 a w = some r ∧ s = [(3, .V w)] ∧ ob = [.arr c 176 129 1 [[.V a.n_] ++ (a.rates.l.map cI ++ (a.counts.l.map cI ++ []))]]) [] J ?_ ?_))
 refine AW.seqG (fun ae K => (AW.region (AO.q 3 I (AO.d (Yd.loadO 0 0 0 I I I I I (y := .V a.n_) I) I (AO.q 1 I (AO.nil ?_))))))
 subst K
 refine AW.block ?_
 obtain ⟨af, M, h⟩ := ob_some h
 have N : a.n_.toNat ≤ 9223372036854775806 := by have := chk_some M; omega
 obtain ⟨ag, O, P⟩ := ob_some h
 clear h
 refine AW.forJY O [(0, _), (8, _)] ⟨I, I, J⟩ (fun (f : Nat) (e : Int) s ob => s = [(9, .V (f : Int)), (3, .V e)] ∧ ob = [.arr c 176 129 1 [[.V a.n_] ++ (a.rates.l.map cI ++ (a.counts.l.map cI ++ []))]]) ⟨I, I⟩ ⟨I, I, J⟩ ⟨[0], I, by decide⟩ ?_ ?_
 rintro f e D s ob Q ⟨rfl, rfl⟩ h
 unfold L.zfrq.B2 at h
 have R : decide ((f : Int) < a.n_) = true := decide_eq_true (by omega)
 refine AW.z I (AW.seqG (fun ah S => (AW.condK (v := true) I R (AW.skip ?_))))
 subst S
 refine AW.cutX (fun s ob => ∃ (A : Int), L.zfrq.J3 A = some D ∧ s = [(3, .V A)] ∧ ob = [.arr c 176 129 1 [[.V a.n_] ++ (a.rates.l.map cI ++ (a.counts.l.map cI ++ []))]]) [(0, _), (8, _), (9, _)] ⟨I, I, I, J⟩ ?_ ?_
 refine AW.block (AW.z I (AW.cutX (fun s ob => ∃ (B : Bool), L.zfrq.J4 f e B = some D ∧ s = [(53, .v (.bool B))] ∧ ob = [.arr c 176 129 1 [[.V a.n_] ++ (a.rates.l.map cI ++ (a.counts.l.map cI ++ []))]]) [(0, _), (3, _), (4, _), (8, _), (9, _)] ⟨I, I, I, I, I, J⟩ ?_ ?_))
 obtain ⟨b, U, h⟩ := ob_some h
 obtain ⟨E, g⟩ := ix_some U
 refine AW.rd (pd 42 0 []) [0] [_] I (AP.q 4 I (AP.op I (Yp.indexA1 (m := b.1) I I I I I I E (arr_lt g)) I ?_))
 rcases bt (decide (b.2 > 0)) with i | i
 replace h := ife_t i h
 rcases bt (decide (e < 0)) with p | p
 replace h := ife_t p h
 refine AP.o I (Yd.loadO 0 0 (1 + b.1) I I I I (by omega) (y := .V b.2) (seg_skip (k := 1) (by simp [Arr.h, flow_streams.row, deal_table.row]) (seg_here g))) I (AP.q 2 I (AP.known 19 I i (AP.q 3 I (AP.known 22 I p (AP.q 31 I (AP.ofAO (AO.nil ?_)))))))
 exact lg ⟨true, h, I, I⟩ [0]
 replace h := ife_f p h
 obtain ⟨j, W, h⟩ := ob_some h
 obtain ⟨X, F⟩ := ix_some W
 obtain ⟨u, Y, h⟩ := ob_some h
 obtain ⟨Z, G⟩ := ix_some Y
 obtain ⟨n, aa, h⟩ := ob_some h
 obtain ⟨ab, H⟩ := ix_some aa
 refine AP.o I (Yd.loadO 0 0 (1 + b.1) I I I I (by omega) (y := .V b.2) (seg_skip (k := 1) (by simp [Arr.h, flow_streams.row, deal_table.row]) (seg_here g))) I (AP.q 2 I (AP.known 19 I i (AP.q 3 I (AP.known 22 I p (AP.q 4 I (AP.oldG I I I I ((Yp.indexA1 (m := j.1) I I I I I I X (arr_lt F)).yd) dS (AP.oldG I I I I (Yd.loadO 0 0 (65 + j.1) I I I I (by omega) (y := .V j.2) (by rw [show 65 + j.1 = 1 + (64 + (j.1)) from by omega]; exact seg_skip (k := 1) (by simp [Arr.h, flow_streams.row, deal_table.row]) (seg_skip (k := 64) (by simp [Arr.h, flow_streams.row, deal_table.row]) (seg_here F)))) dS (AP.q 5 I (AP.oldG I I I I ((Yp.indexA1 (m := u.1) I I I I I I Z (arr_lt G)).yd) dS (AP.oldG I I I I (Yd.loadO 0 0 (1 + u.1) I I I I (by omega) (y := .V u.2) (seg_skip (k := 1) (by simp [Arr.h, flow_streams.row, deal_table.row]) (seg_here G))) dS (AP.q 5 I (AP.oldG I I I I ((Yp.indexA1 (m := n.1) I I I I I I ab (arr_lt H)).yd) dS ?_))))))))))))
 refine AP.oldG I I I I (Yd.loadO 0 0 (65 + n.1) I I I I (by omega) (y := .V n.2) (by rw [show 65 + n.1 = 1 + (64 + (n.1)) from by omega]; exact seg_skip (k := 1) (by simp [Arr.h, flow_streams.row, deal_table.row]) (seg_skip (k := 64) (by simp [Arr.h, flow_streams.row, deal_table.row]) (seg_here H)))) dS (AP.q 5 I (AP.oldG I I I I ((Yp.indexA1 (m := b.1) I I I I I I E (arr_lt g)).yd) dS (AP.oldG I I I I (Yd.loadO 0 0 (1 + b.1) I I I I (by omega) (y := .V b.2) (seg_skip (k := 1) (by simp [Arr.h, flow_streams.row, deal_table.row]) (seg_here g))) dS (AP.q 4 I (AP.ofAO (AO.nil ?_))))))
 exact lg ⟨decide ((wr ((wr (j.2 + 1)) * u.2)) < (wr ((wr (n.2 + 1)) * b.2))), h, I, I⟩ [0]
 replace h := ife_f i h
 refine AP.o I (Yd.loadO 0 0 (1 + b.1) I I I I (by omega) (y := .V b.2) (seg_skip (k := 1) (by simp [Arr.h, flow_streams.row, deal_table.row]) (seg_here g))) I (AP.q 2 I (AP.known 19 I i (AP.q 3 I (AP.skipU I I I I dS (AP.skipU I I I I dS (AP.skipU I I I I dS (AP.skipU I I I I dS (AP.skipU I I I I dS (AP.skipU I I I I dS (AP.skipU I I I I dS (AP.skipU I I I I dS (AP.skipU I I I I dS ?_))))))))))))
 refine AP.skipU I I I I dS (AP.skipU I I I I dS (AP.skipU I I I I dS (AP.skipU I I I I dS (AP.skipU I I I I dS (AP.skipU I I I I dS (AP.skipU I I I I dS (AP.skipU I I I I dS (AP.skipU I I I I dS (AP.skipU I I I I dS (AP.skipU I I I I dS (AP.skipU I I I I dS (AP.skipU I I I I dS ?_))))))))))))
 refine AP.skipU I I I I dS (AP.skipU I I I I dS (AP.skipU I I I I dS (AP.skipU I I I I dS (AP.skipU I I I I dS (AP.skipU I I I I dS (AP.skipU I I I I dS (AP.q 2 I (AP.ofAO (AO.nil ?_)))))))))
 exact lg ⟨false, h, I, I⟩ [0]
 rintro s ob ⟨B, h, rfl, rfl⟩
 unfold L.zfrq.J4 at h
 refine AW.ch h I ?_ ?_
 intro ac h
 refine AW.t I ?_
 exact lg ⟨(f : Int), h, I, I⟩ [0]
 intro ac h
 refine AW.skip ?_
 exact lg ⟨e, h, I, I⟩ [0]
 rintro s ob ⟨A, h, rfl, rfl⟩
 unfold L.zfrq.J3 at h
 refine AW.region (AO.r 2 [.k 0 (f + 1 : Nat)] I ⟨cast_wr Q N, J⟩ ?_)
 obtain rfl := oi h
 refine AO.nil ?_
 exact lg ⟨I, I⟩ [0]
 rintro e s ob ⟨rfl, rfl⟩ he
 subst he
 have h := P
 have ad : decide (((a.n_.toNat : Nat) : Int) < a.n_) = false := decide_eq_false (by omega)
 refine AW.z I (AW.seqG (fun ai aj => (AW.condK (v := false) I ad (AW.exit ?_))))
 exact lg ⟨e, h, I, I⟩ [0]
 rintro s ob ⟨w, h, rfl, rfl⟩
 unfold L.zfrq.J1 at h
 refine AW.z I ?_
 obtain rfl := oi h
 exact AW.ret ⟨.inr I, [_], [.arr c 176 129 1 [[.V a.n_] ++ (a.rates.l.map cI ++ (a.counts.l.map cI ++ []))]], ⟨I, J⟩, sl_c I (sl_n), ⟨[.arr c 176 129 1 [[.V a.n_] ++ (a.rates.l.map cI ++ (a.counts.l.map cI ++ []))]], [], I, I, I, I, I⟩⟩
theorem L.zmxf_ok (O : List Piece) (Y : List Int) (r : (List (List Piece)) × Int) (h : L.zmxf O Y = some r) : ACalls Tryz.env 129 [.list 2 (O.map Piece.row), .list 1 (Y.map rI)] [] (fun x new => x = .tup [.list 1 (r.1.map (rL 2 Piece.row)), .V r.2] ∧ new = []) := by
 refine ACalls.of_body Tryz.func129 rfl rfl rfl (fun C hC => ?_)
 unfold L.zmxf at h
 refine AW.z I (AW.seqG (fun y2 a5 => ?_))
 obtain ⟨a, a6, h⟩ := ob_some h
 refine AW.region (AO.q 1 I (AO.act [] I (AX.call0 I I I (L.zmbh_ok _ _ a6) dS ?_)))
 rintro _ _ ⟨j, rfl, rfl⟩
 refine AO.q 1 I (AO.nil ?_)
 subst a5
 refine AW.seqG (fun y6 a7 => (AW.cutX (fun s ob => s = [(32, .v (.bool (bif ((a.length : Int) == 0) then (decide ((O.length : Int) > 0) || decide ((a.length : Int) > 200)) else decide ((a.length : Int) > 200))))] ∧ ob = [.us j 66 2 (a.map Piece.row)]) [(1, _), (6, _)] ⟨I, I, J⟩ ?_ ?_))
 refine AW.region (AO.q 1 I (AO.d (Yd.lenUM 0 I I I I) I (AO.q 2 I ?_)))
 rcases bt (((a.length : Int) == 0)) with F | F
 refine AO.known 23 I F (AO.r 5 [.l 1 (O.length : Int)] I ⟨len_m, J⟩ ?_)
 rcases bt (decide ((O.length : Int) > 0)) with P | P
 refine AO.known 28 I P (AO.q 4 I (AO.nil ?_))
 exact lf ⟨I, I⟩ ⟨(get_b (by simp only [F, P, bz])), I, I, J⟩ [0] I
 refine AO.known 28 I P (AO.q 1 I (AO.gt I I I (AO.d (Yd.lenUM 0 I I I I) I (AO.q 2 I (AO.nil ?_)))))
 exact lf ⟨I, I⟩ ⟨(get_b (by simp only [F, P, bz])), I, I, J⟩ [0] I
 refine AO.known 23 I F (AO.q 6 I (AO.gt I I I (AO.d (Yd.lenUM 0 I I I I) I (AO.q 2 I (AO.nil ?_)))))
 exact lf ⟨I, I⟩ ⟨(get_b (by simp only [F, bz])), I, I, J⟩ [0] I
 rintro s ob ⟨rfl, rfl⟩
 refine AW.ch h I ?_ ?_
 intro a8 h
 refine AW.z I (AW.ghost (Ghost.freeze [] (K := []) I [(4, .list 1 ([].map (rL 2 Piece.row)))] ⟨⟨_, I, .nil _⟩, J⟩ (ob' := [.us j 66 2 (a.map Piece.row)]) (.rest _)) (AW.ghost g0 ?_))
 obtain rfl := oi h
 exact AW.ret ⟨.inr I, [_, _], [], ⟨I, I, J⟩, sl_n, I, I⟩
 intro a8 h
 refine AW.skip ?_
 subst a7
 refine AW.z I (AW.cutX (fun s ob => ∃ (ah : Int), L.zmxf.J1 Y a ah = some r ∧ s = [(7, .V ah)] ∧ ob = [.us j 66 2 (a.map Piece.row)]) [(1, _), (6, _)] ⟨I, I, J⟩ ?_ ?_)
 refine AW.seqG (fun c9 a9 => (AW.region (AO.q 1 I (AO.d (Yd.lenUM 0 I I I I) I (AO.q 1 I (AO.nil ?_))))))
 subst a9
 refine AW.block (AW.usMax 0 I (fun ai => ?_))
 replace ai : a.length ≤ 9223372036854775806 := by rw [List.length_map] at ai; omega
 obtain ⟨da, ba, bb⟩ := ob_some h
 clear h
 refine AW.forJY ba [(1, _), (6, _), (33, _), (34, _)] ⟨I, I, I, I, J⟩ (fun (Z : Nat) (aa : Int) s ob => s = [(35, .V (Z : Int)), (7, .V aa)] ∧ ob = [.us j 66 2 (a.map Piece.row)]) ⟨I, I⟩ ⟨I, I, J⟩ ⟨[0], I, by decide⟩ ?_ ?_
 rintro Z aa db s ob bc ⟨rfl, rfl⟩ h
 unfold L.zmxf.B10 at h
 have bd : decide ((Z : Int) < (a.length : Int)) = true := decide_eq_true (by omega)
 refine AW.z I (AW.seqG (fun dc be => (AW.condK (v := true) I bd (AW.skip ?_))))
 subst be
 refine AW.seq (AW.block (AW.seq ?_))
 obtain ⟨ab, bf, h⟩ := ob_some h
 obtain ⟨bg, ax⟩ := ix_some bf
 refine AW.region (AO.d (Yd.indexU 0 (m := ab.1) I I I I I I I bg (map_get ax)) I (AO.d (Yd.loadU 0 ab.1 0 I I I (map_get ax) I (y := .agg (Piece.row ab.2)) I) I (AO.act [] I (AX.alloc (cs := [.V 0, .V 0]) (m := 2) I I I I I dS (fun dd => (AO.act [1] I (AX.store 1 0 0 (es' := [Piece.row ab.2]) I I I I I I I I (le_ble I) I I (AO.nil (AW.tr [.o 2 1] I ⟨I, J⟩ (AW.region (AO.r 2 [.k 0 (Z + 1 : Nat)] I ⟨cast_wr bc ai, J⟩ ?_)))))))))))
 obtain rfl := oi h
 refine AO.nil ?_
 exact lg ⟨I, I⟩ [0]
 rintro aa s ob ⟨rfl, rfl⟩ he
 subst he
 have h := bb
 have bh : decide (((a.length : Nat) : Int) < (a.length : Int)) = false := by simp
 refine AW.z I (AW.seqG (fun de df => (AW.condK (v := false) I bh (AW.exit ?_))))
 exact lg ⟨aa, h, I, I⟩ [0]
 rintro s ob ⟨ah, h, rfl, rfl⟩
 unfold L.zmxf.J1 at h
 refine AW.seqG (fun dg bi => (AW.seq ?_))
 obtain ⟨dh, bj, h⟩ := ob_some h
 refine AW.region (AO.q 2 I (AO.c (L.zaio_ok _ _ _ bj) (AO.q 1 I (AO.nil (AW.z I (AW.ch h I ?_ ?_))))))
 intro bk h
 refine AW.z I (AW.ghost (Ghost.freeze [] (K := []) I [(4, .list 1 ([].map (rL 2 Piece.row)))] ⟨⟨_, I, .nil _⟩, J⟩ (ob' := [.us j 66 2 (a.map Piece.row)]) (.rest _)) (AW.ghost g0 ?_))
 obtain rfl := oi h
 exact AW.ret ⟨.inr I, [_, _], [], ⟨I, I, J⟩, sl_n, I, I⟩
 intro bk h
 refine AW.skip ?_
 subst bi
 refine AW.seqG (fun di bl => ?_)
 obtain ⟨dj, bm, h⟩ := ob_some h
 obtain ⟨aj, bn, bo, bp⟩ := mk_some bm
 refine AW.region (AO.r 2 [.l 1 (Y.length : Int)] I ⟨len_m, J⟩ (AO.act [] I (AX.makeU (sz := 1) (es' := List.replicate aj [.N]) I I I I I I I I I I bn bo I dS (fun n => (AO.ghost (Ghost.toUssM (f := Piece.row) 1 aj 66 2 bp I) (AO.q 1 I (AO.nil ?_)))))))
 subst bl
 refine AW.seqG (fun dk bq => ?_)
 obtain ⟨ak, br, h⟩ := ob_some h
 refine AW.region (AO.q 1 I (AO.act [] I (AX.call0 I I I (L.zwhx_ok _ _ br) dS ?_)))
 rintro _ _ ⟨rfl, rfl⟩
 refine AO.act [] I (AX.alloc (cs := [.V 0] ++ ((Arr.rep 64 (0 : Int)).l.map cI ++ ((Arr.rep 64 (0 : Int)).l.map cI ++ []))) (m := 129) I I I I I dS (fun G => (AO.act [2] I (AX.store 2 0 0 (es' := [[.V ak.n_] ++ (ak.rates.l.map cI ++ (ak.counts.l.map cI ++ []))]) I I I I I I I (by simp [Arr.h, flow_streams.row, deal_table.row]) (by simp [Arr.h, flow_streams.row, deal_table.row]) I (congrArg (fun r => [r]) (setC_all (by simp [Arr.h, flow_streams.row, deal_table.row]))) (AO.nil ?_)))))
 subst bq
 refine AW.cutX (fun s ob => ∃ (w : List (List Piece)) (al : List Value), L.zmxf.J2 w = some r ∧ s = [] ∧ ob = [.uss n 35 66 2 al (w.map fun x => some (x.map Piece.row))]) [(11, _)] ⟨I, J⟩ ?_ ?_
 refine AW.seqG (fun dl bs => (AW.region (AO.q 1 I (AO.d (Yd.lenUM 0 I I I I) I (AO.q 1 I (AO.nil ?_))))))
 subst bs
 refine AW.block (AW.usMax 0 I (fun am => ?_))
 replace am : a.length ≤ 9223372036854775806 := by rw [List.length_map] at am; omega
 obtain ⟨dm, bu, bv⟩ := ob_some h
 clear h
 refine AW.forJY bu [(11, _), (12, _), (55, _), (56, _)] ⟨I, I, I, I, J⟩ (fun (ac : Nat) (b : (List (List Piece)) × Int × (Arr Int 64) × (Arr Int 64)) s ob => ∃ (A : List Value), s = [(57, .V (ac : Int))] ∧ ob = [.us j 66 2 (a.map Piece.row), .uss n 35 66 2 A (b.1.map fun x => some (x.map Piece.row)), .arr G 176 129 1 [[.V b.2.1] ++ (b.2.2.1.l.map cI ++ (b.2.2.2.l.map cI ++ []))]]) ⟨(List.replicate aj (.slice none 0 0)), I, I⟩ ⟨I, J⟩ ⟨[0, 1, 2], I, by decide⟩ ?_ ?_
 rintro ac b ay s ob bw ⟨A, rfl, rfl⟩ h
 unfold L.zmxf.B5 at h
 have bx : decide ((ac : Int) < (a.length : Int)) = true := decide_eq_true (by omega)
 refine AW.z I (AW.seqG (fun dn b0 => (AW.condK (v := true) I bx (AW.skip ?_))))
 subst b0
 refine AW.cutX (fun s ob => ∃ (H : (List (List Piece)) × Int × (Arr Int 64) × (Arr Int 64)) (an : List Value), L.zmxf.J6 H = some ay ∧ s = [] ∧ ob = [.us j 66 2 (a.map Piece.row), .uss n 35 66 2 an (H.1.map fun x => some (x.map Piece.row)), .arr G 176 129 1 [[.V H.2.1] ++ (H.2.2.1.l.map cI ++ (H.2.2.2.l.map cI ++ []))]]) [(11, _), (12, _), (55, _), (56, _), (57, _)] ⟨I, I, I, I, I, J⟩ ?_ ?_
 refine AW.block (AW.seqG (fun dp b1 => ?_))
 obtain ⟨e, b2, h⟩ := ob_some h
 obtain ⟨b3, az⟩ := ix_some b2
 refine AW.region (AO.d (Yd.indexU 0 (m := e.1) I I I I I I I b3 (map_get az)) I (AO.d (Yd.loadU 0 e.1 0 I I I (map_get az) I (y := .agg (Piece.row e.2)) I) I (AO.act [] I (AX.alloc (cs := [.V 0, .V 0]) (m := 2) I I I I I dS (fun ao => (AO.act [3] I (AX.store 3 0 0 (es' := [Piece.row e.2]) I I I I I I I I (le_ble I) I I (AO.nil ?_))))))))
 subst b1
 refine AW.seqG (fun dq b4 => (AW.region (AO.q 1 I (AO.d (Yd.loadO 2 0 65 I I I I I (y := .agg (b.2.2.2.l.map cI)) (part_skip (k := 1) I I (by simp [Arr.h, flow_streams.row, deal_table.row]) (part_skip (k := 64) I I (by simp [Arr.h, flow_streams.row, deal_table.row]) (part_here I (by simp [Arr.h, flow_streams.row, deal_table.row]))))) I (AO.act [] I (AX.alloc (cs := (Arr.rep 64 (0 : Int)).l.map cI) (m := 64) I I I I I dS (fun aq => (AO.act [4] I (AX.store 4 0 0 (es' := [b.2.2.2.l.map cI]) I I I I I I I (by simp [Arr.h, flow_streams.row, deal_table.row]) (by simp [Arr.h, flow_streams.row, deal_table.row]) I (congrArg (fun r => [r]) (setC_all (by simp [Arr.h, flow_streams.row, deal_table.row]))) (AO.nil ?_))))))))))
 subst b4
 refine AW.cutX (fun s ob => ∃ (g : Int × (Arr Int 64) × (Arr Int 64)), L.zmxf.J7 b e g = some ay ∧ s = [] ∧ ob = [.us j 66 2 (a.map Piece.row), .uss n 35 66 2 A (b.1.map fun x => some (x.map Piece.row)), .arr G 176 129 1 [[.V g.1] ++ (g.2.1.l.map cI ++ (g.2.2.l.map cI ++ []))], .arr ao 66 2 1 [Piece.row e.2], .arr aq 174 64 1 [b.2.2.2.l.map cI]]) [(11, _), (12, _), (14, _), (15, _), (55, _), (56, _), (57, _)] ⟨I, I, I, I, I, I, I, J⟩ ?_ ?_
 refine AW.zr [.o 1 3] I ⟨I, J⟩ (AW.block ?_)
 obtain ⟨dr, b5, h⟩ := ob_some h
 have b6 : e.2.Volume.toNat ≤ 9223372036854775806 := by have := chk_some b5; omega
 obtain ⟨ds, b7, b8⟩ := ob_some h
 clear h
 refine AW.forJY b7 [(11, _), (12, _), (14, _), (15, _), (55, _), (56, _), (57, _), (64, _)] ⟨I, I, I, I, I, I, I, I, J⟩ (fun (ad : Nat) (u : Int × (Arr Int 64) × (Arr Int 64)) s ob => s = [(65, .V (ad : Int))] ∧ ob = [.us j 66 2 (a.map Piece.row), .uss n 35 66 2 A (b.1.map fun x => some (x.map Piece.row)), .arr G 176 129 1 [[.V u.1] ++ (u.2.1.l.map cI ++ (u.2.2.l.map cI ++ []))], .arr ao 66 2 1 [Piece.row e.2], .arr aq 174 64 1 [b.2.2.2.l.map cI]]) ⟨I, I⟩ ⟨I, J⟩ ⟨[0, 1, 2, 3, 4], I, by decide⟩ ?_ ?_
 rintro ad u dt s ob b9 ⟨rfl, rfl⟩ h
 unfold L.zmxf.B9 at h
 have ca : decide ((ad : Int) < e.2.Volume) = true := decide_eq_true (by omega)
 refine AW.z I (AW.seqG (fun du cb => (AW.condK (v := true) I ca (AW.skip ?_))))
 subst cb
 refine AW.seq (AW.block ?_)
 obtain ⟨ar, cc, h⟩ := ob_some h
 obtain ⟨i, cd, h⟩ := ob_some h
 obtain ⟨a0, Q⟩ := ix_some cd
 refine AW.region (AO.act [2] I (AX.c0 [2] (L.zfrq_ok G _ _ cc) ?_))
 refine AO.q 1 I (AO.p (Yp.indexA1 (m := i.1) I I I I I I a0 (arr_lt Q)) I (AO.d (Yd.loadO 2 0 (65 + i.1) I I I I (by omega) (y := .V i.2) (by rw [show 65 + i.1 = 1 + (64 + (i.1)) from by omega]; exact seg_skip (k := 1) (by simp [Arr.h, flow_streams.row, deal_table.row]) (seg_skip (k := 64) (by simp [Arr.h, flow_streams.row, deal_table.row]) (seg_here Q)))) I (AO.q 2 I (AO.p (Yp.indexA1 (m := i.1) I I I I I I a0 (arr_lt Q)) I (AO.act [2] I (AX.store 2 0 (65 + i.1) (es' := [[.V ar.2.n_] ++ (ar.2.rates.l.map cI ++ ((ar.2.counts.set i.1 (wr (i.2 + 1))).l.map cI ++ []))]) I I I I (by omega) I I I (seg_len (arr_lt Q) (by simp [Arr.h, flow_streams.row, deal_table.row])) I (congrArg (fun r => [r]) (by rw [show 65 + i.1 = 1 + (64 + (i.1)) from by omega]; exact seg_set_skip (k := 1) (by simp [Arr.h, flow_streams.row, deal_table.row]) (seg_set_skip (k := 64) (by simp [Arr.h, flow_streams.row, deal_table.row]) (seg_set_here (get_lt Q))))) (AO.nil (AW.region (AO.r 2 [.k 0 (ad + 1 : Nat)] I ⟨cast_wr b9 b6, J⟩ ?_)))))))))
 obtain rfl := oi h
 refine AO.nil ?_
 exact lg ⟨I, I⟩ [0, 1, 2, 3, 4]
 rintro u s ob ⟨rfl, rfl⟩ he
 subst he
 have h := b8
 have ce : decide (((e.2.Volume.toNat : Nat) : Int) < e.2.Volume) = false := decide_eq_false (by omega)
 refine AW.z I (AW.seqG (fun dv dw => (AW.condK (v := false) I ce (AW.exit ?_))))
 exact lg ⟨(u.1, u.2.1, u.2.2), h, I, I⟩ [0, 1, 2, 3, 4]
 rintro s ob ⟨g, h, rfl, rfl⟩
 unfold L.zmxf.J7 at h
 refine AW.seqG (fun dx cf => (AW.region (AO.q 1 I (AO.d (Yd.lenUssM 1 I I I I) I (AO.q 1 I (AO.nil ?_))))))
 subst cf
 refine AW.block (AW.ussMax 1 I (fun au => ?_))
 replace au : b.1.length ≤ 9223372036854775806 := by rw [List.length_map] at au; omega
 obtain ⟨dy, cg, ci⟩ := ob_some h
 clear h
 refine AW.forJY cg [(11, _), (12, _), (14, _), (15, _), (55, _), (56, _), (57, _), (76, _)] ⟨I, I, I, I, I, I, I, I, J⟩ (fun (ae : Nat) (af : List (List Piece)) s ob => ∃ (R : List Value), s = [(77, .V (ae : Int))] ∧ ob = [.us j 66 2 (a.map Piece.row), .uss n 35 66 2 R (af.map fun x => some (x.map Piece.row)), .arr G 176 129 1 [[.V g.1] ++ (g.2.1.l.map cI ++ (g.2.2.l.map cI ++ []))], .arr ao 66 2 1 [Piece.row e.2], .arr aq 174 64 1 [b.2.2.2.l.map cI]]) ⟨A, I, I⟩ ⟨I, J⟩ ⟨[0, 1, 2, 3, 4], I, by decide⟩ ?_ ?_
 rintro ae af dz s ob cj ⟨R, rfl, rfl⟩ h
 unfold L.zmxf.B8 at h
 have ck : decide ((ae : Int) < (b.1.length : Int)) = true := decide_eq_true (by omega)
 refine AW.z I (AW.seqG (fun d0 cl => (AW.condK (v := true) I ck (AW.skip ?_))))
 subst cl
 refine AW.seq (AW.block (AW.z I ?_))
 obtain ⟨M, cm, h⟩ := ob_some h
 obtain ⟨a1, S⟩ := ix_some cm
 obtain ⟨B, cn, h⟩ := ob_some h
 obtain ⟨co, a2⟩ := ix_some cn
 obtain ⟨U, cp, h⟩ := ob_some h
 obtain ⟨cq, a3⟩ := ix_some cp
 obtain ⟨d1, cr, h⟩ := ob_some h
 refine AW.ghost (Ghost.take 1 M.1 I (map_get S)) (AW.rd (.still 0 (.still 1 (.still 2 (.still 3 (.still 4 (.still 5 (.still 6 (.still 7 (.still 8 (.still 9 (.still 10 (.still 11 (.still 12 (.still 13 (.still 14 (.still 15 (.still 16 (.act 17 (.act 18 (.still 19 (.drop 20 .nil))))))))))))))))))))) [1, 3, 2, 4] [_, _, _, _] I (AP.q 4 I (AP.o I (Yd.indexUss 0 (m := M.1) I I I I I I I a1 (uss_lt' S)) I (AP.o I (Yd.loadUss 0 (m := M.1) I I I I (uss_lt' S)) I (AP.r 4 [.o 1 1] I ⟨I, J⟩ (AP.op I (Yp.indexA1 (m := B.1) I I I I I I co (arr_lt a2)) I (AP.o I (Yd.loadO 2 0 (65 + B.1) I I I I (by omega) (y := .V B.2) (by rw [show 65 + B.1 = 1 + (64 + (B.1)) from by omega]; exact seg_skip (k := 1) (by simp [Arr.h, flow_streams.row, deal_table.row]) (seg_skip (k := 64) (by simp [Arr.h, flow_streams.row, deal_table.row]) (seg_here a2)))) I (AP.q 1 I (AP.op I (Yp.indexA1 (m := U.1) I I I I I I cq (arr_lt a3)) I (AP.o I (Yd.loadO 3 0 (0 + U.1) I I I I (by omega) (y := .V U.2) (by rw [Nat.zero_add]; exact map_get a3)) I (AP.q 1 I (AP.op I (Yp.buildP (l := [.V e.2.Batch, .V (wr (B.2 - U.2))]) Tryz.bld66 I) I ?_))))))))))))
 refine AP.act [] I I I (AX.lt 2 (([(⟨e.2.Batch, wr (B.2 - U.2)⟩ : Piece)] : List Piece).map Piece.row) (AP.act [5] I I I (AX.ap 5 I cr (fun ct => (AP.o I (Yd.indexUss 0 (m := M.1) I I I I I I I a1 (uss_lt' S)) I (AP.drop [1, 5] I I I (AX.storeUss 1 5 M.1 I I I I (hole_get S) I I I (set_none_some _ _ _ _) (AP.ofAO (AO.nil (AW.region (AO.r 2 [.k 0 (ae + 1 : Nat)] I ⟨cast_wr cj au, J⟩ ?_)))))))))))
 obtain rfl := oi h
 refine AO.nil ?_
 exact lg ⟨(R.set M.1 ct), I, I⟩ [0, 1, 2, 3, 4]
 rintro af s ob ⟨R, rfl, rfl⟩ he
 subst he
 have h := ci
 have cu : decide (((b.1.length : Nat) : Int) < (b.1.length : Int)) = false := by simp
 refine AW.z I (AW.seqG (fun d2 d3 => (AW.condK (v := false) I cu (AW.exit ?_))))
 exact lg ⟨(af, g.1, g.2.1, g.2.2), R, h, I, I⟩ [0, 1, 2]
 rintro s ob ⟨H, an, h, rfl, rfl⟩
 unfold L.zmxf.J6 at h
 refine AW.region (AO.r 2 [.k 0 (ac + 1 : Nat)] I ⟨cast_wr bw am, J⟩ ?_)
 obtain rfl := oi h
 refine AO.nil ?_
 exact lg ⟨an, I, I⟩ [0, 1, 2]
 rintro b s ob ⟨A, rfl, rfl⟩ he
 subst he
 have h := bv
 have cv : decide (((a.length : Nat) : Int) < (a.length : Int)) = false := by simp
 refine AW.z I (AW.seqG (fun d4 d5 => (AW.condK (v := false) I cv (AW.exit ?_))))
 exact lg ⟨b.1, A, h, I, I⟩ [1]
 rintro s ob ⟨w, al, h, rfl, rfl⟩
 unfold L.zmxf.J2 at h
 refine AW.cutX (fun s ob => ∃ (D : List (List Piece)) (av : List Value), L.zmxf.J3 D = some r ∧ s = [] ∧ ob = [.uss n 35 66 2 av (D.map fun x => some (x.map Piece.row))]) [(11, _)] ⟨I, J⟩ ?_ ?_
 refine AW.seqG (fun d6 cw => (AW.region (AO.q 1 I (AO.d (Yd.lenUssM 0 I I I I) I (AO.q 1 I (AO.nil ?_))))))
 subst cw
 refine AW.block (AW.ussMax 0 I (fun aw => ?_))
 replace aw : w.length ≤ 9223372036854775806 := by rw [List.length_map] at aw; omega
 obtain ⟨d7, cx, cy⟩ := ob_some h
 clear h
 refine AW.forJY cx [(11, _), (103, _)] ⟨I, I, J⟩ (fun (ag : Nat) (W : List (List Piece)) s ob => ∃ (E : List Value), s = [(104, .V (ag : Int))] ∧ ob = [.uss n 35 66 2 E (W.map fun x => some (x.map Piece.row))]) ⟨al, I, I⟩ ⟨I, J⟩ ⟨[0], I, by decide⟩ ?_ ?_
 rintro ag W d8 s ob cz ⟨E, rfl, rfl⟩ h
 unfold L.zmxf.B4 at h
 have c1 : decide ((ag : Int) < (w.length : Int)) = true := decide_eq_true (by omega)
 refine AW.z I (AW.seqG (fun d9 c2 => (AW.condK (v := true) I c1 (AW.skip ?_))))
 subst c2
 refine AW.seq (AW.block (AW.z I ?_))
 obtain ⟨t, c3, h⟩ := ob_some h
 obtain ⟨a4, X⟩ := ix_some c3
 obtain ⟨ea, c4, h⟩ := ob_some h
 refine AW.region (AO.q 4 I (AO.d (Yd.indexUss 0 (m := t.1) I I I I I I I a4 (uss_lt X)) I (AO.d (Yd.loadUss 0 (m := t.1) I I I I (uss_lt X)) I (AO.ghost (Ghost.take 0 t.1 I (map_get X)) (AO.ghost (Ghost.freeze [1] (K := [.us (E.getD t.1 undef) 66 2 (t.2.map Piece.row)]) I [(112, .list 2 (t.2.map Piece.row))] ⟨⟨_, I, .us 0 I⟩, J⟩ (ob' := [.uss n 35 66 2 E (List.set (W.map fun x => some (x.map Piece.row)) t.1 none)]) (.rest _)) (AO.act [] I (AX.call0 I I I (L.zmbh_ok _ _ c4) dS ?_)))))))
 rintro _ _ ⟨c5, rfl, rfl⟩
 refine AO.d (Yd.indexUss 0 (m := t.1) I I I I I I I a4 (uss_lt' X)) I (AO.act [0, 1] I (AX.storeUss 0 1 t.1 I I I I (hole_get X) I I I (set_none_some _ _ _ _) (AO.nil (AW.region (AO.r 2 [.k 0 (ag + 1 : Nat)] I ⟨cast_wr cz aw, J⟩ ?_)))))
 obtain rfl := oi h
 refine AO.nil ?_
 exact lg ⟨(E.set t.1 c5), I, I⟩ [0]
 rintro W s ob ⟨E, rfl, rfl⟩ he
 subst he
 have h := cy
 have c6 : decide (((w.length : Nat) : Int) < (w.length : Int)) = false := by simp
 refine AW.z I (AW.seqG (fun eb ec => (AW.condK (v := false) I c6 (AW.exit ?_))))
 exact lg ⟨W, E, h, I, I⟩ [0]
 rintro s ob ⟨D, av, h, rfl, rfl⟩
 unfold L.zmxf.J3 at h
 refine AW.z I (AW.ghost (Ghost.freeze [0] (K := [.uss n 35 66 2 av (D.map fun x => some (x.map Piece.row))]) I [(11, .list 1 (D.map (rL 2 Piece.row))), (116, .list 1 (D.map (rL 2 Piece.row))), (4, .list 1 (D.map (rL 2 Piece.row)))] ⟨⟨_, I, Lend.ussM 0 I⟩, ⟨_, I, Lend.ussM 0 I⟩, ⟨_, I, Lend.ussM 0 I⟩, J⟩ (ob' := []) (.rest _)) ?_)
 obtain rfl := oi h
 exact AW.ret ⟨.inr I, [_, _], [], ⟨I, I, J⟩, sl_n, I, I⟩
end Go.Proofs.YtaliejncdnegeaaGreat
