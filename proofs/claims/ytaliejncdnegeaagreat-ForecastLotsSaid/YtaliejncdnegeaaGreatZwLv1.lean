/- Walks that show what functions of the program compute; printed by a program of ours. No condition. -/
import Derived.Test.YtaliejncdnegeaaGreatZwLf2
import Derived.Test.YtaliejncdnegeaaGreatZwL6
import Derived.Test.YtaliejncdnegeaaGreatZwD
set_option maxRecDepth 100000
namespace Go.Proofs.YtaliejncdnegeaaGreat
open Go.Aw
set_option linter.unusedVariables false
set_option linter.unusedSimpArgs false
set_option maxHeartbeats 4000000
theorem L.zrct_ok (e : Network) (ac : List (List Piece)) (f : Plan) (ad : List Int) (ae : Int) (B : Int) (r : (List Lot) × Int) (h : L.zrct e ac f ad ae B = some r) : ACalls Tryz.env 21 [.agg (Network.row e), .list 1 (ac.map (rL 2 Piece.row)), .agg (Plan.row f), .list 1 (ad.map rI), .V ae, .V B] [] (fun x new => ∃ (u0 : Value), x = .tup [.v u0, .V r.2] ∧ new = [.us u0 63 3 (r.1.map Lot.row)]) := by
 refine ACalls.of_body Tryz.func21 rfl rfl rfl (fun C hC => ?_)
 unfold L.zrct at h
 refine AW.seqG (fun y1 al => (AW.region (AO.act [] I (AX.box (cs := Network.row e) (m := 6) I I I dS (fun n => (AO.act [] I (AX.box (cs := Plan.row f) (m := 3) I I I dS (fun u => (AO.q 2 I (AO.nil ?_))))))))))
 subst al
 refine AW.seqG (fun y4 am => (AW.seq ?_))
 obtain ⟨r5, an, h⟩ := ob_some h
 refine AW.region (AO.r 4 [.o 0 0] I ⟨I, J⟩ (AO.c (L.zpyk_ok _ _ _ _ _ an) (AO.q 1 I (AO.nil (AW.z I (AW.ch h I ?_ ?_))))))
 intro ao h
 refine AW.z I (AW.ghost (Ghost.nilU 63 3) (AW.ghost (Ghost.pick [2] (K := [.us (.slice none 0 0) 63 3 ([].map Lot.row)]) I (by decide)) ?_))
 obtain rfl := oi h
 exact AW.ret ⟨.inr I, [_, _], [.us (.slice none 0 0) 63 3 ([].map Lot.row)], ⟨I, I, J⟩, sl_c I (sl_n), ⟨(.slice none 0 0), I, I⟩⟩
 intro ao h
 refine AW.skip ?_
 subst am
 refine AW.z I (AW.cutX (fun s ob => ∃ (R : List Lot) (G : Value), L.zrct.J1 R = some r ∧ s = [(15, .v G)] ∧ ob = [.us G 63 3 (R.map Lot.row)]) [] J ?_ ?_)
 refine AW.z I (AW.block ?_)
 obtain ⟨bw, aq, h⟩ := ob_some h
 have ar : B.toNat ≤ 9223372036854775806 := by have := chk_some aq; omega
 refine AW.ghost (Ghost.nilU 63 3) ?_
 obtain ⟨bx, au, ag⟩ := ob_some h
 clear h
 refine AW.forIX au [(3, _), (4, _), (6, _), (8, _), (31, _)] ⟨I, I, I, I, I, J⟩ (fun (w : Nat) (H : (List (List Piece)) × (List Lot)) s ob => ∃ (D : Value), s = [(32, .V (w : Int)), (1, .list 1 (H.1.map (rL 2 Piece.row))), (15, .v D)] ∧ ob = [.arr n 32 6 1 [Network.row e], .arr u 46 3 1 [Plan.row f], .us D 63 3 (H.2.map Lot.row)]) ⟨(.slice none 0 0), I, I⟩ ⟨I, I, I, J⟩ ⟨[0, 1, 2], I, by decide⟩ ?_ ?_
 rintro w H ah s ob av ⟨D, rfl, rfl⟩ h aw
 unfold L.zrct.B2 at h
 have ax : decide ((w : Int) < B) = true := decide_eq_true (by omega)
 refine AW.z I (AW.seqG (fun bz ay => (AW.condK (v := true) I ax (AW.skip ?_))))
 subst ay
 refine AW.cutX (fun s ob => ∃ (A : (List (List Piece)) × (List Lot)) (S : Value) (M : Value), L.zrct.J3 A = some ah ∧ s = [(1, .v S), (15, .v M)] ∧ ob = [.arr n 32 6 1 [Network.row e], .arr u 46 3 1 [Plan.row f], .us M 63 3 (A.2.map Lot.row), .us S 35 1 (A.1.map (rL 2 Piece.row))]) [(3, _), (4, _), (6, _), (8, _), (31, _), (32, _)] ⟨I, I, I, I, I, I, J⟩ ?_ ?_
 refine AW.block (AW.z I (AW.seqG (fun b0 az => ?_)))
 obtain ⟨E, a0, h⟩ := ob_some h
 refine AW.region (AO.r 4 [.o 0 0, .o 2 1] I ⟨I, I, J⟩ (AO.act [] I (AX.call0 I I I (L.zcgl_ok _ _ _ _ _ a0) dS ?_)))
 rintro _ _ ⟨N, b1, rfl, rfl⟩
 refine AO.q 7 I (AO.nil ?_)
 subst az
 refine AW.seqG (fun b4 a1 => (AW.z I (AW.ch h I ?_ ?_)))
 intro a2 h
 refine AW.z I ?_
 obtain rfl := aw _ (oi h).symm
 replace h := ag
 replace h := se_r h
 refine AW.ghost (Ghost.nilU 63 3) (AW.ghost (Ghost.pick [5] (K := [.us (.slice none 0 0) 63 3 ([].map Lot.row)]) I (by decide)) ?_)
 obtain rfl := oi h
 exact AW.ret ⟨.inr I, [_, _], [.us (.slice none 0 0) 63 3 ([].map Lot.row)], ⟨I, I, J⟩, sl_c I (sl_n), ⟨(.slice none 0 0), I, I⟩⟩
 intro a2 h
 refine AW.skip ?_
 subst a1
 refine AW.cutX (fun s ob => ∃ (U : List Lot) (W : Value), L.zrct.J4 E U = some ah ∧ s = [(15, .v W)] ∧ ob = [.arr n 32 6 1 [Network.row e], .arr u 46 3 1 [Plan.row f], .us W 63 3 (U.map Lot.row), .us N 35 1 (E.1.map (rL 2 Piece.row))]) [(3, _), (4, _), (6, _), (8, _), (17, _), (31, _), (32, _)] ⟨I, I, I, I, I, I, I, J⟩ ?_ ?_
 refine AW.seqG (fun b5 a3 => ?_)
 obtain ⟨i, a4, h⟩ := ob_some h
 obtain ⟨a5, ai⟩ := ix_some a4
 refine AW.region (AO.q 2 I (AO.d (Yd.indexU 4 (m := i.1) I I I I I I I a5 (map_get ai)) I (AO.d (Yd.loadU 4 i.1 0 I I I (map_get ai) I (y := .list 2 (i.2.map Piece.row)) I) I (AO.r 2 [.l 0 (i.2.length : Int)] I ⟨len_m, J⟩ (AO.nil ?_)))))
 subst a3
 refine AW.block (AW.listMax 50 I (fun Y => ?_))
 replace Y : i.2.length ≤ 9223372036854775806 := by rw [List.length_map] at Y; omega
 obtain ⟨b6, a6, a7⟩ := ob_some h
 clear h
 refine AW.forY a6 [(3, _), (4, _), (6, _), (8, _), (16, _), (17, _), (31, _), (32, _), (50, _), (51, _)] ⟨I, I, I, I, I, I, I, I, I, I, J⟩ (fun (O : Nat) (g : List Lot) s ob => ∃ (j : Value), s = [(52, .V (O : Int)), (15, .v j)] ∧ ob = [.arr n 32 6 1 [Network.row e], .arr u 46 3 1 [Plan.row f], .us j 63 3 (g.map Lot.row), .us N 35 1 (E.1.map (rL 2 Piece.row))]) ⟨D, I, I⟩ ⟨I, I, J⟩ ⟨[0, 1, 2, 3], I, by decide⟩ ?_ ?_
 rintro O b g aj s ob a8 a9 ⟨j, rfl, rfl⟩ h
 unfold L.zrct.B5 at h
 have ba : decide ((O : Int) < (i.2.length : Int)) = true := decide_eq_true (by omega)
 refine AW.z I (AW.seqG (fun b7 bb => (AW.condK (v := true) I ba (AW.skip ?_))))
 subst bb
 refine AW.cutX (fun s ob => ∃ (Z : List Lot) (X : Value), L.zrct.J6 Z = some aj ∧ s = [(15, .v X)] ∧ ob = [.arr n 32 6 1 [Network.row e], .arr u 46 3 1 [Plan.row f], .us X 63 3 (Z.map Lot.row), .us N 35 1 (E.1.map (rL 2 Piece.row))]) [(3, _), (4, _), (6, _), (8, _), (16, _), (17, _), (31, _), (32, _), (50, _), (51, _), (52, _)] ⟨I, I, I, I, I, I, I, I, I, I, I, J⟩ ?_ ?_
 refine AW.block (AW.seqG (fun b8 bc => (AW.region (AO.r 2 [.x 0 O (Piece.row b)] I ⟨⟨I, map_get a8⟩, J⟩ (AO.act [] I (AX.alloc (cs := [.V 0, .V 0]) (m := 2) I I I I I dS (fun bd => (AO.act [4] I (AX.store 4 0 0 (es' := [Piece.row b]) I I I I I I I I (le_ble I) I I (AO.nil ?_))))))))))
 subst bc
 refine AW.seqG (fun b9 be => (AW.region (AO.q 1 I (AO.d (Yd.lenUM 2 I I I I) I (AO.q 2 I (AO.nil ?_))))))
 subst be
 refine AW.cutX (fun s ob => ∃ (aa : Bool), L.zrct.J7 w b g aa = some aj ∧ s = [(70, .v (.bool aa))] ∧ ob = [.arr n 32 6 1 [Network.row e], .arr u 46 3 1 [Plan.row f], .us j 63 3 (g.map Lot.row), .us N 35 1 (E.1.map (rL 2 Piece.row)), .arr bd 66 2 1 [Piece.row b]]) [(3, _), (4, _), (6, _), (8, _), (15, _), (16, _), (17, _), (21, _), (22, _), (31, _), (32, _), (50, _), (51, _), (52, _)] ⟨I, I, I, I, I, I, I, I, I, I, I, I, I, I, J⟩ ?_ ?_
 rcases bt (decide ((wr ((g.length : Int) - 1)) ≥ 0)) with P | P
 replace h := ife_t P h
 obtain ⟨Q, bf, h⟩ := ob_some h
 obtain ⟨bg, ab⟩ := ix_some bf
 refine AW.form 2 Q.1 I ab (fun bh => (AW.rd (pd 12 0 []) [2, 4] [_, _] I (AP.q 3 I (AP.known 61 I P (AP.q 2 I (AP.oldG I I I I ((Yp.indexUf (m := Q.1) I I I I I bh I bg ab).yd) dS (AP.q 1 I (AP.oldG I I I I (Yd.loadU 0 Q.1 0 I I I (map_get ab) I (y := .V Q.2.Batch) I) dS (AP.r 4 [.o 1 1] I ⟨I, J⟩ (AP.ofAO (AO.nil ?_)))))))))))
 exact lg ⟨(Q.2.Batch == b.Batch), h, I, I⟩ [0, 1, 2, 3, 4]
 replace h := ife_f P h
 refine AW.rd (pd 12 0 []) [] [] I (AP.q 3 I (AP.known 61 I P (AP.q 9 I (AP.ofAO (AO.nil ?_)))))
 exact lg ⟨false, h, I, I⟩ [0, 1, 2, 3, 4]
 rintro s ob ⟨aa, h, rfl, rfl⟩
 unfold L.zrct.J7 at h
 refine AW.ch h I ?_ ?_
 intro bi h
 obtain ⟨a, bj, h⟩ := ob_some h
 obtain ⟨ak, F⟩ := ix_some bj
 refine AW.form 2 a.1 I F (fun bk => (AW.form 2 a.1 I F (fun bl => (AW.rd (.still 0 (.still 1 (.still 2 (.still 3 (.still 4 (.still 5 (.still 6 (.still 7 (.still 8 (.still 9 (.drop 10 .nil))))))))))) [2, 4] [_, _] I (AP.q 2 I (AP.op I (Yp.indexUf (m := a.1) I I I I I bk I ak F) I (AP.q 1 I (AP.o I (Yd.loadU 0 a.1 1 I I I (map_get F) I (y := .V a.2.Volume) I) I (AP.r 3 [.o 1 1] I ⟨I, J⟩ (AP.op I (Yp.indexUf (m := a.1) I I I I I bl I ak F) I (AP.q 1 I (AP.drop [2] I I I (AX.storeU 2 a.1 1 I I I (map_get F) I I I I (le_ble I) I (us_set (x := (⟨a.2.Batch, wr (a.2.Volume + b.Volume), a.2.Done⟩ : Lot)) I) (AP.ofAO (AO.nil ?_)))))))))))))))
 exact lg ⟨(g.set a.1 (⟨a.2.Batch, wr (a.2.Volume + b.Volume), a.2.Done⟩ : Lot)), j, h, I, I⟩ [0, 1, 2, 3]
 intro bi h
 refine AW.zr [.o 1 4] I ⟨I, J⟩ (AW.ch h I ?_ ?_)
 intro bm h
 obtain ⟨bn, bo, h⟩ := ob_some h
 refine AW.region (AO.r 6 [.o 2 4, .o 4 4] I ⟨I, I, J⟩ (AO.p (Yp.buildP (l := [.V b.Batch, .V b.Volume, .V (w : Int)]) Tryz.bld63 I) I (AO.act [] I (AX.lt 3 (([(⟨b.Batch, b.Volume, (w : Int)⟩ : Lot)] : List Lot).map Lot.row) (AO.act [2] I (AX.ap 2 I bo (fun bp => (AO.q 1 I (AO.nil ?_)))))))))
 exact lg ⟨bn, bp, h, I, I⟩ [0, 1, 2, 3]
 intro bm h
 refine AW.skip ?_
 exact lg ⟨g, j, h, I, I⟩ [0, 1, 2, 3]
 rintro s ob ⟨Z, X, h, rfl, rfl⟩
 unfold L.zrct.J6 at h
 refine AW.region (AO.r 2 [.k 0 (O + 1 : Nat)] I ⟨cast_wr a9 Y, J⟩ ?_)
 obtain rfl := oi h
 refine AO.nil ?_
 exact lg ⟨X, I, I⟩ [0, 1, 2, 3]
 rintro g s ob ⟨j, rfl, rfl⟩ he
 subst he
 have h := a7
 have bq : decide (((i.2.length : Nat) : Int) < (i.2.length : Int)) = false := by simp
 refine AW.z I (AW.seqG (fun ca cb => (AW.condK (v := false) I bq (AW.exit ?_))))
 exact lg ⟨g, j, h, I, I⟩ [0, 1, 2, 3]
 rintro s ob ⟨U, W, h, rfl, rfl⟩
 unfold L.zrct.J4 at h
 refine AW.t I ?_
 exact lg ⟨(E.1, U), N, W, h, I, I⟩ [0, 1, 2, 3]
 rintro s ob ⟨A, S, M, h, rfl, rfl⟩
 unfold L.zrct.J3 at h
 refine AW.region (AO.r 2 [.k 0 (w + 1 : Nat)] I ⟨cast_wr av ar, J⟩ (AO.ghost (Ghost.freeze [3] (K := [.us S 35 1 (A.1.map (rL 2 Piece.row))]) I [(1, .list 1 (A.1.map (rL 2 Piece.row)))] ⟨⟨_, I, .us 0 I⟩, J⟩ (ob' := [.arr n 32 6 1 [Network.row e], .arr u 46 3 1 [Plan.row f], .us M 63 3 (A.2.map Lot.row)]) (.rest _)) ?_))
 obtain rfl := oi h
 refine AO.nil ?_
 exact ⟨_, _, _, I, ⟨M, I, I⟩, ⟨I, I, I, I, I, I, I, I, J⟩, [0, 1, 2], I, by decide⟩
 rintro H s ob ⟨D, rfl, rfl⟩ he
 subst he
 have h := se_l ag
 have br : decide (((B.toNat : Nat) : Int) < B) = false := decide_eq_false (by omega)
 refine AW.z I (AW.seqG (fun cc cd => (AW.condK (v := false) I br (AW.exit ?_))))
 exact lg ⟨H.2, D, h, I, I⟩ [2]
 rintro s ob ⟨R, G, h, rfl, rfl⟩
 unfold L.zrct.J1 at h
 refine AW.z I ?_
 obtain rfl := oi h
 exact AW.ret ⟨.inr I, [_, _], [.us G 63 3 (R.map Lot.row)], ⟨I, I, J⟩, sl_c I (sl_n), ⟨G, I, I⟩⟩
theorem L.zcjy_ok (a : Int) (r : Bool) (h : L.zcjy a = r) : ACalls Tryz.env 45 [.V a] [] (fun x new => x = .v (.bool r) ∧ new = []) := by
 refine ACalls.of_body Tryz.func45 rfl rfl rfl (fun C hC => ?_)
 unfold L.zcjy at h
 refine AW.z I (AW.cutX (fun s ob => s = [(2, .v (.bool (decide (a ≥ 0) && decide (a < 1000))))] ∧ ob = []) [] J ?_ ?_)
 refine AW.region (AO.q 3 I ?_)
 rcases bt (decide (a ≥ 0)) with b | b
 refine AO.known 5 I b (AO.q 4 I (AO.nil ?_))
 exact lf ⟨I, I⟩ ⟨(get_b (by simp only [b, bz])), J⟩ [] I
 refine AO.known 5 I b (AO.q 4 I (AO.nil ?_))
 exact lf ⟨I, I⟩ ⟨(get_b (by simp only [b, bz])), J⟩ [] I
 rintro s ob ⟨rfl, rfl⟩
 obtain rfl := h
 exact AW.ret pr
theorem L.zmux_ok (b : List Piece) (r : Bool) (h : L.zmux b = some r) : ACalls Tryz.env 15 [.list 2 (b.map Piece.row)] [] (fun x new => x = .v (.bool r) ∧ new = []) := by
 refine ACalls.of_body Tryz.func15 rfl rfl rfl (fun C hC => ?_)
 unfold L.zmux at h
 refine AW.z I (AW.seqG (fun U y => (AW.zr [.l 1 (b.length : Int)] I ⟨len_m, J⟩ (AW.ch h I ?_ ?_))))
 intro A h
 refine AW.z I ?_
 obtain rfl := oi h
 exact AW.ret pr
 intro A h
 refine AW.skip ?_
 subst y
 refine AW.z I (AW.cutX (fun s ob => ∃ (n : Int), L.zmux.J1 n = some r ∧ s = [(3, .V n)] ∧ ob = []) [] J ?_ ?_)
 refine AW.zr [.l 1 (b.length : Int)] I ⟨len_m, J⟩ (AW.block (AW.listMax 9 I (fun p => ?_)))
 replace p : b.length ≤ 9223372036854775806 := by rw [List.length_map] at p; omega
 obtain ⟨W, B, w⟩ := ob_some h
 clear h
 refine AW.forX B [(0, _), (9, _), (10, _)] ⟨I, I, I, J⟩ (fun (d : Nat) (e : Int) s ob => s = [(11, .V (d : Int)), (3, .V e)] ∧ ob = []) ⟨I, I⟩ ⟨I, I, J⟩ ⟨[], I, by decide⟩ ?_ ?_
 rintro d a e D s ob E F ⟨rfl, rfl⟩ h G
 unfold L.zmux.B2 at h
 have H : decide ((d : Int) < (b.length : Int)) = true := decide_eq_true (by omega)
 refine AW.z I (AW.seqG (fun X K => (AW.condK (v := true) I H (AW.skip ?_))))
 subst K
 refine AW.seq (AW.block (AW.seqG (fun Y M => (AW.region (AO.r 3 [.x 1 d (Piece.row a)] I ⟨⟨I, map_get E⟩, J⟩ (AO.act [] I (AX.alloc (cs := [.V 0, .V 0]) (m := 2) I I I I I dS (fun N => (AO.q 1 I (AO.act [0] I (AX.store 0 0 0 (es' := [Piece.row a]) I I I I I I I I (le_ble I) I I (AO.nil ?_))))))))))))
 subst M
 refine AW.seq (AW.cutX (fun s ob => ∃ (t : Bool), L.zmux.J3 a e t = some D ∧ s = [(44, .v (.bool t))] ∧ ob = [.arr N 66 2 1 [Piece.row a]]) [(0, _), (3, _), (5, _), (9, _), (10, _), (11, _)] ⟨I, I, I, I, I, I, J⟩ ?_ ?_)
 refine AW.rd (pd 29 0 [2]) [0] [_] I (AP.r 2 [.o 1 0] I ⟨I, J⟩ (AP.c I (L.zcjy_ok a.Batch _ I) (AP.q 2 I ?_)))
 rcases bt ((!(L.zcjy a.Batch))) with f | f
 replace h := ife_t f h
 refine AP.known 20 I f (AP.q 13 I (AP.skipU I I I I dS (AP.skipU I I I I dS (AP.skipU I I I I dS (AP.skipU I I I I dS (AP.skipU I I I I dS (AP.skipU I I I I dS (AP.skipU I I I I dS (AP.skipU I I I I dS (AP.skipU I I I I dS (AP.q 2 I (AP.ofAO ?_))))))))))))
 refine AO.nil ?_
 exact lg ⟨true, h, I, I⟩ [0]
 replace h := ife_f f h
 refine AP.known 20 I f (AP.r 5 [.o 1 0] I ⟨I, J⟩ ?_)
 rcases bt (decide (a.Volume < 1)) with g | g
 replace h := ife_t g h
 refine AP.known 25 I g (AP.q 8 I (AP.skipU I I I I dS (AP.skipU I I I I dS (AP.skipU I I I I dS (AP.skipU I I I I dS (AP.skipU I I I I dS (AP.skipU I I I I dS (AP.skipU I I I I dS (AP.skipU I I I I dS (AP.skipU I I I I dS (AP.q 2 I (AP.ofAO ?_))))))))))))
 refine AO.nil ?_
 exact lg ⟨true, h, I, I⟩ [0]
 replace h := ife_f g h
 refine AP.known 25 I g (AP.r 5 [.o 1 0] I ⟨I, J⟩ ?_)
 rcases bt (decide (a.Volume > 1000000)) with i | i
 replace h := ife_t i h
 refine AP.known 30 I i (AP.q 3 I (AP.skipU I I I I dS (AP.skipU I I I I dS (AP.skipU I I I I dS (AP.skipU I I I I dS (AP.skipU I I I I dS (AP.skipU I I I I dS (AP.skipU I I I I dS (AP.skipU I I I I dS (AP.skipU I I I I dS (AP.q 2 I (AP.ofAO ?_))))))))))))
 refine AO.nil ?_
 exact lg ⟨true, h, I, I⟩ [0]
 replace h := ife_f i h
 refine AP.known 30 I i (AP.q 3 I ?_)
 rcases bt (decide ((d : Int) > 0)) with j | j
 replace h := ife_t j h
 obtain ⟨u, O, h⟩ := ob_some h
 obtain ⟨P, Q⟩ := ix_some O
 refine AP.known 33 I j (AP.r 11 [.o 1 0, .x 5 u.1 (Piece.row u.2)] I ⟨⟨P, map_get Q⟩, I, J⟩ (AP.ofAO (AO.nil ?_)))
 exact lg ⟨(a.Batch == u.2.Batch), h, I, I⟩ [0]
 replace h := ife_f j h
 refine AP.known 33 I j (AP.q 11 I (AP.ofAO (AO.nil ?_)))
 exact lg ⟨false, h, I, I⟩ [0]
 rintro s ob ⟨t, h, rfl, rfl⟩
 unfold L.zmux.J3 at h
 refine AW.ch h I ?_ ?_
 intro R h
 refine AW.z I ?_
 obtain rfl := G _ (oi h).symm
 replace h := w
 replace h := se_r h
 refine AW.ghost g0 ?_
 obtain rfl := oi h
 exact AW.ret pr
 intro R h
 refine AW.skip (AW.tr [.o 2 0] I ⟨I, J⟩ (AW.region (AO.r 2 [.k 0 (d + 1 : Nat)] I ⟨cast_wr F p, J⟩ ?_)))
 obtain rfl := oi h
 refine AO.nil ?_
 exact ⟨_, _, _, I, ⟨I, I⟩, ⟨I, I, I, I, I, J⟩, [], I, by decide⟩
 rintro e s ob ⟨rfl, rfl⟩ he
 subst he
 have h := se_l w
 have S : decide (((b.length : Nat) : Int) < (b.length : Int)) = false := by simp
 refine AW.z I (AW.seqG (fun Z aa => (AW.condK (v := false) I S (AW.exit ?_))))
 exact lg ⟨e, h, I, I⟩ []
 rintro s ob ⟨n, h, rfl, rfl⟩
 unfold L.zmux.J1 at h
 refine AW.z I ?_
 obtain rfl := oi h
 exact AW.ret pr
theorem L.zjfe_ok (b : Network) (a : List (List Piece)) (r : Int) (h : L.zjfe b a = some r) : ACalls Tryz.env 22 [.agg (Network.row b), .list 1 (a.map (rL 2 Piece.row))] [] (fun x new => x = .V r ∧ new = []) := by
 refine ACalls.of_body Tryz.func22 rfl rfl rfl (fun C hC => ?_)
 unfold L.zjfe at h
 refine AW.seqG (fun y1 A => (AW.region (AO.act [] I (AX.box (cs := Network.row b) (m := 6) I I I dS (fun f => (AO.q 1 I (AO.nil ?_)))))))
 subst A
 refine AW.seqG (fun y3 B => (AW.seq ?_))
 obtain ⟨r4, D, h⟩ := ob_some h
 refine AW.region (AO.r 1 [.o 0 0] I ⟨I, J⟩ (AO.c (L.zgcl_ok _ _ D) (AO.q 1 I (AO.nil (AW.z I (AW.ch h I ?_ ?_))))))
 intro E h
 refine AW.z I (AW.ghost g0 ?_)
 obtain rfl := oi h
 exact AW.ret pr
 intro E h
 refine AW.skip ?_
 subst B
 refine AW.seqG (fun y7 F => (AW.zr [.l 1 (a.length : Int), .o 3 0, .l 4 (b.Segments.length : Int)] I ⟨len_m, I, len_m, J⟩ (AW.ch h I ?_ ?_)))
 intro G h
 refine AW.z I (AW.ghost g0 ?_)
 obtain rfl := oi h
 exact AW.ret pr
 intro G h
 refine AW.skip ?_
 subst F
 refine AW.cutX (fun s ob => ∃ (j : Unit), L.zjfe.J1 b a j = some r ∧ s = [] ∧ ob = [.arr f 32 6 1 [Network.row b]]) [(1, _), (2, _)] ⟨I, I, J⟩ ?_ ?_
 refine AW.zr [.l 1 (a.length : Int)] I ⟨len_m, J⟩ (AW.block (AW.listMax 19 I (fun g => ?_)))
 replace g : a.length ≤ 9223372036854775806 := by rw [List.length_map] at g; omega
 obtain ⟨an, H, n⟩ := ob_some h
 clear h
 refine AW.forX H [(1, _), (2, _), (20, _)] ⟨I, I, I, J⟩ (fun (d : Nat) (p : Unit) s ob => s = [(21, .V (d : Int))] ∧ ob = [.arr f 32 6 1 [Network.row b]]) ⟨I, I⟩ ⟨I, J⟩ ⟨[0], I, by decide⟩ ?_ ?_
 rintro d K p ao s ob M N ⟨rfl, rfl⟩ h O
 unfold L.zjfe.B4 at h
 have P : decide ((d : Int) < (a.length : Int)) = true := decide_eq_true (by omega)
 refine AW.z I (AW.seqG (fun ap Q => (AW.condK (v := true) I P (AW.skip ?_))))
 subst Q
 refine AW.seq (AW.block (AW.z I (AW.seq ?_)))
 obtain ⟨aq, R, h⟩ := ob_some h
 refine AW.region (AO.r 4 [.x 2 d ((rL 2 Piece.row) K)] I ⟨⟨I, map_get M⟩, J⟩ (AO.c (L.zmux_ok _ _ R) (AO.q 1 I (AO.nil (AW.ch h I ?_ ?_)))))
 intro S h
 refine AW.z I ?_
 obtain rfl := O _ (oi h).symm
 replace h := n
 replace h := se_r h
 refine AW.ghost g0 ?_
 obtain rfl := oi h
 exact AW.ret pr
 intro S h
 refine AW.skip (AW.region (AO.r 2 [.k 0 (d + 1 : Nat)] I ⟨cast_wr N g, J⟩ ?_))
 obtain rfl := oi h
 refine AO.nil ?_
 exact ⟨_, _, _, I, ⟨I, I⟩, ⟨I, I, I, I, J⟩, [0], I, by decide⟩
 rintro p s ob ⟨rfl, rfl⟩ he
 subst he
 have h := se_l n
 have U : decide (((a.length : Nat) : Int) < (a.length : Int)) = false := by simp
 refine AW.z I (AW.seqG (fun ar au => (AW.condK (v := false) I U (AW.exit ?_))))
 exact lg ⟨(), h, I, I⟩ [0]
 rintro s ob ⟨j, h, rfl, rfl⟩
 unfold L.zjfe.J1 at h
 refine AW.cutX (fun s ob => ∃ (t : Unit), L.zjfe.J2 t = some r ∧ s = [] ∧ ob = []) [] J ?_ ?_
 refine AW.zr [.l 1 (a.length : Int)] I ⟨len_m, J⟩ (AW.block (AW.listMax 31 I (fun i => ?_)))
 replace i : a.length ≤ 9223372036854775806 := by rw [List.length_map] at i; omega
 obtain ⟨av, W, u⟩ := ob_some h
 clear h
 refine AW.forX W [(1, _), (2, _), (32, _)] ⟨I, I, I, J⟩ (fun (e : Nat) (w : Unit) s ob => s = [(33, .V (e : Int))] ∧ ob = [.arr f 32 6 1 [Network.row b]]) ⟨I, I⟩ ⟨I, J⟩ ⟨[0], I, by decide⟩ ?_ ?_
 rintro e X w aw s ob Y Z ⟨rfl, rfl⟩ h aa
 unfold L.zjfe.B3 at h
 have ab : decide ((e : Int) < (a.length : Int)) = true := decide_eq_true (by omega)
 refine AW.z I (AW.seqG (fun ax ac => (AW.condK (v := true) I ab (AW.skip ?_))))
 subst ac
 refine AW.seq (AW.block (AW.z I (AW.seq ?_)))
 obtain ⟨ay, ad, h⟩ := ob_some h
 obtain ⟨y, ae, h⟩ := ob_some h
 obtain ⟨af, ag⟩ := ix_some ae
 refine AW.rd (.still 0 (.still 1 (.still 2 (.still 3 (.still 5 (.still 6 (.still 7 (.still 8 (.still 9 (.still 10 (.act 4 (.still 11 .nil)))))))))))) [0] [_] I (AP.r 10 [.x 2 e ((rL 2 Piece.row) X), .o 5 0, .x 7 y.1 (Segment.row y.2)] I ⟨⟨af, map_get ag⟩, I, ⟨I, map_get Y⟩, J⟩ (AP.c I (L.zwqi_ok _ _ ad) (AP.q 1 I (AP.ofAO (AO.nil (AW.ch h I ?_ ?_))))))
 intro ah h
 refine AW.z I ?_
 obtain rfl := aa _ (oi h).symm
 replace h := u
 replace h := se_r h
 refine AW.ghost g0 ?_
 obtain rfl := oi h
 exact AW.ret pr
 intro ah h
 refine AW.skip (AW.region (AO.r 2 [.k 0 (e + 1 : Nat)] I ⟨cast_wr Z i, J⟩ ?_))
 obtain rfl := oi h
 refine AO.nil ?_
 exact ⟨_, _, _, I, ⟨I, I⟩, ⟨I, I, I, I, J⟩, [0], I, by decide⟩
 rintro w s ob ⟨rfl, rfl⟩ he
 subst he
 have h := se_l u
 have ai : decide (((a.length : Nat) : Int) < (a.length : Int)) = false := by simp
 refine AW.z I (AW.seqG (fun az a0 => (AW.condK (v := false) I ai (AW.exit ?_))))
 exact lg ⟨(), h, I, I⟩ []
 rintro s ob ⟨t, h, rfl, rfl⟩
 unfold L.zjfe.J2 at h
 refine AW.z I ?_
 obtain rfl := oi h
 exact AW.ret pr
end Go.Proofs.YtaliejncdnegeaaGreat
