/- Walks that show what functions of the program compute; printed by a program of ours. No condition. -/
import Derived.Test.YtaliejncdnegeaaGreatZwLx1
import Derived.Test.YtaliejncdnegeaaGreatZwL4
import Derived.Test.YtaliejncdnegeaaGreatZ3D
set_option maxRecDepth 100000
namespace Go.Proofs.YtaliejncdnegeaaGreat
open Go.Aw
set_option linter.unusedVariables false
set_option linter.unusedSimpArgs false
set_option maxHeartbeats 4000000
theorem L.zbum_ok (b : List Lot) (r : Int × Bool) (h : L.zbum b = some r) : ACalls Tryz.env 57 [.list 3 (b.map Lot.row)] [] (fun x new => x = .tup [.V r.1, .v (.bool r.2)] ∧ new = []) := by
 refine ACalls.of_body Tryz.func57 rfl rfl rfl (fun C hC => ?_)
 unfold L.zbum at h
 refine AW.z I (AW.cutX (fun s ob => ∃ (c : Unit), L.zbum.J1 c = some r ∧ s = [] ∧ ob = []) [] J ?_ ?_)
 refine AW.z I (AW.block ?_)
 obtain ⟨p, j, d⟩ := ob_some h
 clear h
 refine AW.loopX j [(0, _)] ⟨I, J⟩ (fun (e : Int) s ob => s = [(4, .V e)] ∧ ob = []) ⟨I, I⟩ ⟨I, J⟩ ⟨[], I, by decide⟩ ?_
 rintro e t s ob ⟨rfl, rfl⟩ h f
 unfold L.zbum.B2 at h
 refine AW.seqG (fun u k => (AW.zr [.l 2 (b.length : Int)] I ⟨len_m, J⟩ (AW.ch h I ?_ ?_)))
 intro m h
 refine AW.skip ?_
 subst k
 refine AW.seq (AW.block (AW.seq ?_))
 obtain ⟨a, n, h⟩ := ob_some h
 obtain ⟨g, i⟩ := ix_some n
 refine AW.dt (pd 11 0 []) [] [] [.x 2 a.1 (Lot.row a.2), .x 7 a.1 (Lot.row a.2)] I I ⟨⟨g, map_get i⟩, ⟨g, map_get i⟩, J⟩ (AW.ch h I ?_ ?_)
 intro o h
 refine AW.z I ?_
 obtain rfl := f _ (oi h).symm
 replace h := d
 replace h := se_l h
 obtain rfl := oi h
 exact AW.ret ⟨.inr I, [_, _], [], ⟨I, I, J⟩, sl_n, I, I⟩
 intro o h
 refine AW.skip (AW.region (AO.q 3 I ?_))
 obtain rfl := oi h
 refine AO.nil ?_
 exact ⟨_, _, _, I, ⟨I, I⟩, ⟨I, I, J⟩, [], I, by decide⟩
 intro m h
 obtain rfl := f _ (oi h).symm
 replace h := d
 replace h := se_r h
 refine AW.exit ?_
 exact lg ⟨(), h, I, I⟩ []
 rintro s ob ⟨c, h, rfl, rfl⟩
 unfold L.zbum.J1 at h
 refine AW.z I ?_
 obtain rfl := oi h
 exact AW.ret ⟨.inr I, [_, _], [], ⟨I, I, J⟩, sl_n, I, I⟩
theorem L.zdrn_ok (j : List Lot) (b : Int) (r : (List Lot) × Int × Int) (h : L.zdrn j b = some r) : ACalls Tryz.env 23 [.list 3 (j.map Lot.row), .V b] [] (fun x new => x = .tup [.list 3 (r.1.map Lot.row), .V r.2.1, .V r.2.2] ∧ new = []) := by
 refine ACalls.of_body Tryz.func23 rfl rfl rfl (fun C hC => ?_)
 unfold L.zdrn at h
 refine AW.z I (AW.seqG (fun y2 F => (AW.cutX (fun s ob => s = [(17, .v (.bool (decide (b < 1) || decide (b > 1000))))] ∧ ob = []) [(0, _), (1, _)] ⟨I, I, J⟩ ?_ ?_)))
 refine AW.region (AO.q 3 I ?_)
 rcases bt (decide (b < 1)) with k | k
 refine AO.known 14 I k (AO.q 3 I (AO.nil ?_))
 exact lf ⟨I, I⟩ ⟨(get_b (by simp only [k, bz])), I, I, J⟩ [] I
 refine AO.known 14 I k (AO.q 3 I (AO.nil ?_))
 exact lf ⟨I, I⟩ ⟨(get_b (by simp only [k, bz])), I, I, J⟩ [] I
 rintro s ob ⟨rfl, rfl⟩
 refine AW.ch h I ?_ ?_
 intro G h
 refine AW.z I ?_
 obtain rfl := oi h
 exact AW.ret ⟨.inr I, [_, _, _], [], ⟨I, I, I, J⟩, sl_n, I, I⟩
 intro G h
 refine AW.skip ?_
 subst F
 refine AW.cutX (fun s ob => ∃ (w : Unit), L.zdrn.J1 j b w = some r ∧ s = [] ∧ ob = []) [(0, _), (1, _)] ⟨I, I, J⟩ ?_ ?_
 refine AW.z I (AW.block ?_)
 obtain ⟨aj, H, A⟩ := ob_some h
 clear h
 refine AW.loopX H [(0, _), (1, _)] ⟨I, I, J⟩ (fun (B : Int) s ob => s = [(7, .V B)] ∧ ob = []) ⟨I, I⟩ ⟨I, J⟩ ⟨[], I, by decide⟩ ?_
 rintro B ak s ob ⟨rfl, rfl⟩ h D
 unfold L.zdrn.B2 at h
 refine AW.seqG (fun al M => (AW.zr [.l 2 (j.length : Int)] I ⟨len_m, J⟩ (AW.ch h I ?_ ?_)))
 intro N h
 refine AW.skip ?_
 subst M
 refine AW.seq (AW.block (AW.seqG (fun am O => ?_)))
 obtain ⟨e, P, h⟩ := ob_some h
 obtain ⟨Q, R⟩ := ix_some P
 refine AW.region (AO.r 4 [.x 2 e.1 (Lot.row e.2)] I ⟨⟨Q, map_get R⟩, J⟩ (AO.act [] I (AX.alloc (cs := [.V 0, .V 0, .V 0]) (m := 3) I I I I I dS (fun an => (AO.act [0] I (AX.store 0 0 0 (es' := [Lot.row e.2]) I I I I I I I I (le_ble I) I I (AO.nil ?_)))))))
 subst O
 refine AW.cutX (fun s ob => s = [(46, .v (.bool (decide (e.2.Volume < 0) || (decide (e.2.Volume > 1099511627776) || (decide (e.2.Done < 0) || decide (e.2.Done > 1099511627776))))))] ∧ ob = []) [(0, _), (1, _), (7, _)] ⟨I, I, I, J⟩ ?_ ?_
 refine AW.region (AO.r 4 [.o 1 0] I ⟨I, J⟩ ?_)
 rcases bt (decide (e.2.Volume < 0)) with g | g
 refine AO.known 32 I g (AO.q 14 I (AO.nil ?_))
 exact lf ⟨I, I⟩ ⟨(get_b (by simp only [g, bz])), I, I, I, J⟩ [] I
 refine AO.known 32 I g (AO.r 5 [.o 1 0] I ⟨I, J⟩ ?_)
 rcases bt (decide (e.2.Volume > 1099511627776)) with i | i
 refine AO.known 37 I i (AO.q 9 I (AO.nil ?_))
 exact lf ⟨I, I⟩ ⟨(get_b (by simp only [g, i, bz])), I, I, I, J⟩ [] I
 refine AO.known 37 I i (AO.r 5 [.o 1 0] I ⟨I, J⟩ ?_)
 rcases bt (decide (e.2.Done < 0)) with n | n
 refine AO.known 42 I n (AO.q 4 I (AO.nil ?_))
 exact lf ⟨I, I⟩ ⟨(get_b (by simp only [g, i, n, bz])), I, I, I, J⟩ [] I
 refine AO.known 42 I n (AO.r 4 [.o 1 0] I ⟨I, J⟩ (AO.nil ?_))
 exact lf ⟨I, I⟩ ⟨(get_b (by simp only [g, i, n, bz])), I, I, I, J⟩ [] I
 rintro s ob ⟨rfl, rfl⟩
 refine AW.ch h I ?_ ?_
 intro S h
 refine AW.z I ?_
 obtain rfl := D _ (oi h).symm
 replace h := A
 replace h := se_l h
 obtain rfl := oi h
 exact AW.ret ⟨.inr I, [_, _, _], [], ⟨I, I, I, J⟩, sl_n, I, I⟩
 intro S h
 refine AW.skip (AW.region (AO.q 3 I ?_))
 obtain rfl := oi h
 refine AO.nil ?_
 exact ⟨_, _, _, I, ⟨I, I⟩, ⟨I, I, I, J⟩, [], I, by decide⟩
 intro N h
 obtain rfl := D _ (oi h).symm
 replace h := A
 replace h := se_r h
 refine AW.exit ?_
 exact lg ⟨(), h, I, I⟩ []
 rintro s ob ⟨w, h, rfl, rfl⟩
 unfold L.zdrn.J1 at h
 refine AW.seqG (fun ao U => (AW.zr [.l 1 (j.length : Int)] I ⟨len_m, J⟩ (AW.ch h I ?_ ?_)))
 intro W h
 refine AW.z I ?_
 obtain rfl := oi h
 exact AW.ret ⟨.inr I, [_, _, _], [], ⟨I, I, I, J⟩, sl_n, I, I⟩
 intro W h
 refine AW.skip ?_
 subst U
 refine AW.seqG (fun aq X => ?_)
 obtain ⟨ar, Y, h⟩ := ob_some h
 refine AW.region (AO.q 1 I (AO.c (L.zbum_ok _ _ Y) (AO.q 5 I (AO.nil ?_))))
 subst X
 refine AW.seqG (fun au Z => (AW.z I (AW.ch h I ?_ ?_)))
 intro aa h
 refine AW.z I ?_
 obtain rfl := oi h
 exact AW.ret ⟨.inr I, [_, _, _], [], ⟨I, I, I, J⟩, sl_n, I, I⟩
 intro aa h
 refine AW.skip ?_
 subst Z
 refine AW.seqG (fun av ab => ?_)
 obtain ⟨f, ac, h⟩ := ob_some h
 refine AW.region (AO.act [] I (AX.buildSlice (sz := 3) (es := ([] : List Lot).map Lot.row) I I I I I I I I I I I dS (fun aw => (AO.q 1 I (AO.act [0] I (AX.ap 0 I ac (fun ad => (AO.q 1 I (AO.nil ?_)))))))))
 subst ab
 refine AW.seq ?_
 obtain ⟨a, ae, h⟩ := ob_some h
 obtain ⟨E, p⟩ := ix_some ae
 refine AW.region (AO.q 4 I (AO.d (Yd.indexU 0 (m := a.1) I I I I I I I E (map_get p)) I (AO.q 1 I (AO.d (Yd.loadU 0 a.1 2 I I I (map_get p) I (y := .V a.2.Done) I) I (AO.q 2 I (AO.d (Yd.indexU 0 (m := a.1) I I I I I I I E (map_get p)) I (AO.q 1 I (AO.act [0] I (AX.storeU 0 a.1 2 I I I (map_get p) I I I I (le_ble I) I (us_set (x := (⟨a.2.Batch, a.2.Volume, wr (a.2.Done + b)⟩ : Lot)) I) (AO.nil (AW.seq ?_)))))))))))
 obtain ⟨t, af, h⟩ := ob_some h
 obtain ⟨ag, u⟩ := ix_some af
 refine AW.form 0 t.1 I u (fun ah => (AW.rd (pd 9 0 []) [0] [_] I (AP.q 3 I (AP.op I (Yp.indexUf (m := t.1) I I I I I ah I ag u) I (AP.q 1 I (AP.o I (Yd.loadU 0 t.1 0 I I I (map_get u) I (y := .V t.2.Batch) I) I (AP.q 3 I (AP.ofAO (AO.nil (AW.ghost (Ghost.freeze [0] (K := [.us ad 63 3 ((f.set a.1 (⟨a.2.Batch, a.2.Volume, wr (a.2.Done + b)⟩ : Lot)).map Lot.row)]) I [(62, .list 3 ((f.set a.1 (⟨a.2.Batch, a.2.Volume, wr (a.2.Done + b)⟩ : Lot)).map Lot.row)), (11, .list 3 ((f.set a.1 (⟨a.2.Batch, a.2.Volume, wr (a.2.Done + b)⟩ : Lot)).map Lot.row)), (63, .list 3 ((f.set a.1 (⟨a.2.Batch, a.2.Volume, wr (a.2.Done + b)⟩ : Lot)).map Lot.row)), (65, .list 3 ((f.set a.1 (⟨a.2.Batch, a.2.Volume, wr (a.2.Done + b)⟩ : Lot)).map Lot.row)), (74, .list 3 ((f.set a.1 (⟨a.2.Batch, a.2.Volume, wr (a.2.Done + b)⟩ : Lot)).map Lot.row)), (75, .list 3 ((f.set a.1 (⟨a.2.Batch, a.2.Volume, wr (a.2.Done + b)⟩ : Lot)).map Lot.row)), (4, .list 3 ((f.set a.1 (⟨a.2.Batch, a.2.Volume, wr (a.2.Done + b)⟩ : Lot)).map Lot.row))] ⟨⟨_, I, .us 0 I⟩, ⟨_, I, .us 0 I⟩, ⟨_, I, .us 0 I⟩, ⟨_, I, .us 0 I⟩, ⟨_, I, .us 0 I⟩, ⟨_, I, .us 0 I⟩, ⟨_, I, .us 0 I⟩, J⟩ (ob' := []) (.rest _)) ?_))))))))))
 obtain rfl := oi h
 exact AW.ret ⟨.inr I, [_, _, _], [], ⟨I, I, I, J⟩, sl_n, I, I⟩
theorem L.zeiw_ok (az : List Int) (a : Int) (r : Bool) (h : L.zeiw az a = some r) : ACalls Tryz.env 5 [.list 1 (az.map rI), .v (.int .u8 a)] [] (fun x new => x = .v (.bool r) ∧ new = []) := by
 refine ACalls.of_body Tryz.func5 rfl rfl rfl (fun C hC => ?_)
 unfold L.zeiw at h
 refine AW.z I (AW.seqG (fun y2 bq => (AW.seq (AW.region (AO.q 1 I (AO.c (L.zqaf_ok az _ I) (AO.q 1 I (AO.nil (AW.ch h I ?_ ?_)))))))))
 intro br h
 refine AW.seq ?_
 obtain ⟨r4, bs, h⟩ := ob_some h
 refine AW.region (AO.c (L.zuro_ok  _ bs) (AO.q 1 I (AO.nil ?_)))
 obtain rfl := oi h
 exact AW.ret pr
 intro br h
 refine AW.skip ?_
 subst bq
 refine AW.seqG (fun y6 bu => ?_)
 obtain ⟨r7, bv, h⟩ := ob_some h
 refine AW.region (AO.q 1 I (AO.act [] I (AX.call0 I I I (L.ziti_ok _ _ bv) dS ?_)))
 rintro _ _ ⟨b9, rfl, rfl⟩
 refine AO.q 1 I (AO.nil ?_)
 subst bu
 refine AW.seqG (fun eg bw => ?_)
 obtain ⟨g, bx, h⟩ := ob_some h
 refine AW.region (AO.q 1 I (AO.act [0] I (AX.c0 [0] (L.ziuk_ok b9 _ _ _ _ bx) ?_)))
 refine AO.act [] I (AX.call0 I I I (L.zvce_ok g.1 _ I) dS ?_)
 rintro _ _ ⟨rfl, rfl⟩
 refine AO.act [] I (AX.alloc (cs := [.N, .N, .N, .N, .V 0, .V 0]) (m := 6) I I I I I dS (fun j => (AO.act [1] I (AX.store 1 0 0 (es' := [Network.row (L.zvce g.1)]) I I I I I I I I (le_ble I) I I (AO.nil ?_)))))
 subst bw
 refine AW.seqG (fun eh b0 => (AW.region (AO.q 1 I (AO.p (Yp.convI (c := wr (a)) I I I I I) I (AO.r 3 [.f 0 (.V ((wr (a)).tmod 20))] I ⟨Yp.yd (Yp.binI (c := ((wr (a)).tmod 20)) I I ⟨by decide, I⟩), J⟩ (AO.nil ?_))))))
 subst b0
 refine AW.z I (AW.cutX (fun s ob => ∃ (R : List Lot) (ab : Value), L.zeiw.J1 a g R = some r ∧ s = [(8, .v ab)] ∧ ob = [.arr j 32 6 1 [Network.row (L.zvce g.1)], .us ab 63 3 (R.map Lot.row)]) [(6, _), (7, _)] ⟨I, I, J⟩ ?_ ?_)
 refine AW.z I (AW.block (AW.ghost (Ghost.nilU 63 3) ?_))
 obtain ⟨ei, b1, b2⟩ := ob_some h
 clear h
 refine AW.loopX b1 [(5, _), (6, _), (7, _)] ⟨I, I, I, J⟩ (fun (G : (List Int) × Int × (List Lot) × Int) s ob => ∃ (am : Value), s = [(8, .v am), (9, .V G.2.2.2)] ∧ ob = [.arr b9 86 2 1 [[.list 1 (G.1.map rI), .V G.2.1]], .arr j 32 6 1 [Network.row (L.zvce g.1)], .us am 63 3 (G.2.2.1.map Lot.row)]) ⟨(.slice none 0 0), I, I⟩ ⟨I, I, J⟩ ⟨[0, 1, 2], I, by decide⟩ ?_
 rintro G ej s ob ⟨am, rfl, rfl⟩ h b3
 unfold L.zeiw.B15 at h
 refine AW.seqG (fun ek b4 => (AW.z I (AW.ch h I ?_ ?_)))
 intro b5 h
 refine AW.skip ?_
 subst b4
 refine AW.seq (AW.block ?_)
 obtain ⟨bf, b6, h⟩ := ob_some h
 obtain ⟨el, b7, h⟩ := ob_some h
 refine AW.region (AO.q 3 I (AO.act [0] I (AX.c0 [0] (L.ziuk_ok b9 _ _ _ _ b6) ?_)))
 refine AO.p (Yp.buildP (l := [.V G.2.2.2, .V bf.1, .V 0]) Tryz.bld63 I) I (AO.act [] I (AX.lt 3 (([(⟨G.2.2.2, bf.1, 0⟩ : Lot)] : List Lot).map Lot.row) (AO.act [2] I (AX.ap 2 I b7 (fun b8 => (AO.q 1 I (AO.nil (AW.region (AO.q 3 I ?_)))))))))
 obtain rfl := oi h
 refine AO.nil ?_
 exact ⟨_, _, _, I, ⟨b8, I, I⟩, ⟨I, I, I, I, I, J⟩, [0, 1, 2], I, by decide⟩
 intro b5 h
 obtain rfl := b3 _ (oi h).symm
 replace h := b2
 refine AW.exit ?_
 exact lg ⟨G.2.2.1, am, h, I, I⟩ [1, 2]
 rintro s ob ⟨R, ab, h, rfl, rfl⟩
 unfold L.zeiw.J1 at h
 refine AW.seqG (fun em ca => ?_)
 obtain ⟨w, cb, h⟩ := ob_some h
 obtain ⟨bg, bh⟩ := ix_some cb
 refine AW.region (AO.r 5 [.o 1 0, .x 2 w.1 (Segment.row w.2)] I ⟨⟨bg, map_get bh⟩, I, J⟩ (AO.p (Yp.buildP (l := [.V 900, .V w.2.Capacity]) Tryz.bld66 I) I (AO.act [] I (AX.buildSlice (sz := 2) (es := ([(⟨900, w.2.Capacity⟩ : Piece)] : List Piece).map Piece.row) I I I I I I I I I I I dS (fun cc => (AO.ghost (Ghost.freeze [2] (K := [.us cc 66 2 (([(⟨900, w.2.Capacity⟩ : Piece)] : List Piece).map Piece.row)]) I [(60, .list 2 (([(⟨900, w.2.Capacity⟩ : Piece)] : List Piece).map Piece.row))] ⟨⟨_, I, .us 0 I⟩, J⟩ (ob' := [.arr j 32 6 1 [Network.row (L.zvce g.1)], .us ab 63 3 (R.map Lot.row)]) (.rest _)) (AO.act [] I (AX.buildSlice (sz := 1) (es := ([([(⟨900, w.2.Capacity⟩ : Piece)] : List Piece)] : List (List Piece)).map (rL 2 Piece.row)) I I I I I I I I I I I dS (fun bi => (AO.q 1 I (AO.nil ?_)))))))))))
 subst ca
 refine AW.seqG (fun en cd => (AW.region (AO.q 1 I (AO.act [] I (AX.buildSlice (sz := 1) (es := ([wr (1 + ((wr (a)).tmod 20))] : List Int).map rI) I I I I I I I I I I I dS (fun a1 => (AO.q 3 I (AO.act [] I (AX.buildSlice (sz := 1) (es := ([wr (1 + ((wr (a)).tmod 20)), wr (0 - (wr (1 + ((wr (a)).tmod 20))))] : List Int).map rI) I I I I I I I I I I I dS (fun a2 => (AO.one 3 I (fun ce => (AO.one 4 I (fun cf => (AO.p (Yp.buildP (l := [.v a1, .v a2, .N]) Tryz.bld46 (fill_step I I (cells_v ce) I (fill_step I I (cells_v cf) I (fill_nil)))) I (AO.act [] I (AX.alloc (cs := [.N, .N, .N]) (m := 3) I I I I I dS (fun A => (AO.act [5] I (AX.store 5 0 0 (es' := [[.v a1, .v a2, .N]]) I I I I I I I I (le_ble I) I I (AO.nil ?_)))))))))))))))))))))
 subst cd
 refine AW.z I (AW.cutX (fun s ob => ∃ (B : (List Lot) × (List Lot)) (P : Value), L.zeiw.J2 a w B = some r ∧ s = [(8, .list 3 (B.1.map Lot.row)), (12, .v P)] ∧ ob = [.arr j 32 6 1 [Network.row (L.zvce g.1)], .us P 63 3 (B.2.map Lot.row)]) [(6, _), (7, _)] ⟨I, I, J⟩ ?_ ?_)
 refine AW.z I (AW.block (AW.ghost (Ghost.nilU 63 3) (AW.ghost (Ghost.freeze [1, 3, 4] (K := [.us ab 63 3 (R.map Lot.row), .us a1 3 1 (([wr (1 + ((wr (a)).tmod 20))] : List Int).map rI), .us a2 3 1 (([wr (1 + ((wr (a)).tmod 20)), wr (0 - (wr (1 + ((wr (a)).tmod 20))))] : List Int).map rI)]) I [(8, .list 3 (R.map Lot.row)), (63, .list 1 (([wr (1 + ((wr (a)).tmod 20))] : List Int).map rI)), (67, .list 1 (([wr (1 + ((wr (a)).tmod 20)), wr (0 - (wr (1 + ((wr (a)).tmod 20))))] : List Int).map rI)), (68, .agg [.list 1 (([wr (1 + ((wr (a)).tmod 20))] : List Int).map rI), .list 1 (([wr (1 + ((wr (a)).tmod 20)), wr (0 - (wr (1 + ((wr (a)).tmod 20))))] : List Int).map rI), .list 1 ([].map rB)])] ⟨⟨_, I, .us 0 I⟩, ⟨_, I, .us 1 I⟩, ⟨_, I, .us 2 I⟩, ⟨_, I, .agg (.cons (.us 1 I) (.cons (.us 2 I) (.cons (.nil _) (.rest _))))⟩, J⟩ (ob' := [.arr j 32 6 1 [Network.row (L.zvce g.1)], .us bi 35 1 (([([(⟨900, w.2.Capacity⟩ : Piece)] : List Piece)] : List (List Piece)).map (rL 2 Piece.row)), .arr A 46 3 1 [[.list 1 (([wr (1 + ((wr (a)).tmod 20))] : List Int).map rI), .list 1 (([wr (1 + ((wr (a)).tmod 20)), wr (0 - (wr (1 + ((wr (a)).tmod 20))))] : List Int).map rI), .N]], .us (.slice none 0 0) 63 3 ([].map Lot.row)]) (.cons (.same _) (.cons (.same _) (.cons (.arr (.cons (.us 1 I) (.cons (.us 2 I) (.rest _)))) (.rest _))))) ?_)))
 obtain ⟨eo, cg, bj⟩ := ob_some h
 clear h
 refine AW.loopX cg [(6, _), (7, _), (11, _)] ⟨I, I, I, J⟩ (fun (e : (List Lot) × (List (List Piece)) × (List Lot) × Int) s ob => ∃ (ac : Value) (E : Value), s = [(8, .list 3 (e.1.map Lot.row)), (10, .v ac), (12, .v E), (13, .V e.2.2.2)] ∧ ob = [.arr j 32 6 1 [Network.row (L.zvce g.1)], .us ac 35 1 (e.2.1.map (rL 2 Piece.row)), .arr A 46 3 1 [[.list 1 (([wr (1 + ((wr (a)).tmod 20))] : List Int).map rI), .list 1 (([wr (1 + ((wr (a)).tmod 20)), wr (0 - (wr (1 + ((wr (a)).tmod 20))))] : List Int).map rI), .N]], .us E 63 3 (e.2.2.1.map Lot.row)]) ⟨bi, (.slice none 0 0), I, I⟩ ⟨I, I, I, I, J⟩ ⟨[0, 1, 2, 3], I, by decide⟩ ?_
 rintro e a3 s ob ⟨ac, E, rfl, rfl⟩ h bk
 unfold L.zeiw.B8 at h
 refine AW.seqG (fun ep ci => (AW.z I (AW.ch h I ?_ ?_)))
 intro cj h
 refine AW.skip ?_
 subst ci
 refine AW.cutX (fun s ob => ∃ (ad : (List Lot) × (List (List Piece)) × (List Lot)) (an : Value) (ao : Value), L.zeiw.J9 e ad = some a3 ∧ s = [(8, .list 3 (ad.1.map Lot.row)), (10, .v an), (12, .v ao)] ∧ ob = [.arr j 32 6 1 [Network.row (L.zvce g.1)], .arr A 46 3 1 [[.list 1 (([wr (1 + ((wr (a)).tmod 20))] : List Int).map rI), .list 1 (([wr (1 + ((wr (a)).tmod 20)), wr (0 - (wr (1 + ((wr (a)).tmod 20))))] : List Int).map rI), .N]], .us ao 63 3 (ad.2.2.map Lot.row), .us an 35 1 (ad.2.1.map (rL 2 Piece.row))]) [(6, _), (7, _), (11, _), (13, _)] ⟨I, I, I, I, J⟩ ?_ ?_
 refine AW.block (AW.z I (AW.cutX (fun s ob => ∃ (H : (List Lot) × Int), L.zeiw.J10 a g e H = some a3 ∧ s = [(8, .list 3 (H.1.map Lot.row)), (14, .V H.2)] ∧ ob = [.arr j 32 6 1 [Network.row (L.zvce g.1)], .us ac 35 1 (e.2.1.map (rL 2 Piece.row)), .arr A 46 3 1 [[.list 1 (([wr (1 + ((wr (a)).tmod 20))] : List Int).map rI), .list 1 (([wr (1 + ((wr (a)).tmod 20)), wr (0 - (wr (1 + ((wr (a)).tmod 20))))] : List Int).map rI), .N]], .us E 63 3 (e.2.2.1.map Lot.row)]) [(6, _), (7, _), (10, _), (11, _), (12, _), (13, _)] ⟨I, I, I, I, I, I, J⟩ ?_ ?_))
 refine AW.seq ?_
 obtain ⟨bl, ck, h⟩ := ob_some h
 refine AW.region (AO.q 2 I (AO.act [] I (AX.call0 I I I (L.zdrn_ok _ _ _ ck) dS ?_)))
 rintro _ _ ⟨rfl, rfl⟩
 refine AO.q 7 I (AO.nil (AW.z I (AW.ch h I ?_ ?_)))
 intro cl h
 refine AW.t I ?_
 exact lg ⟨(bl.1, bl.2.1), h, I, I⟩ [0, 1, 2, 3]
 intro cl h
 refine AW.skip ?_
 exact lg ⟨(e.1, 901), h, I, I⟩ [0, 1, 2, 3]
 rintro s ob ⟨H, h, rfl, rfl⟩
 unfold L.zeiw.J10 at h
 refine AW.seqG (fun eq cm => ?_)
 obtain ⟨M, cn, h⟩ := ob_some h
 refine AW.region (AO.r 4 [.o 0 0, .o 2 2] I ⟨I, I, J⟩ (AO.act [] I (AX.lt 1 (([H.2, 0] : List Int).map rI) (AO.ghost (Ghost.freeze [1] (K := [.us ac 35 1 (e.2.1.map (rL 2 Piece.row))]) I [(10, .list 1 (e.2.1.map (rL 2 Piece.row))), (86, .list 1 (e.2.1.map (rL 2 Piece.row))), (87, .agg [.list 1 (([wr (1 + ((wr (a)).tmod 20))] : List Int).map rI), .list 1 (([wr (1 + ((wr (a)).tmod 20)), wr (0 - (wr (1 + ((wr (a)).tmod 20))))] : List Int).map rI), .list 1 ([].map rB)])] ⟨⟨_, I, .us 0 I⟩, ⟨_, I, .us 0 I⟩, ⟨_, I, .agg (.cons (.refl _) (.cons (.refl _) (.cons (.nil _) (.rest _))))⟩, J⟩ (ob' := [.arr j 32 6 1 [Network.row (L.zvce g.1)], .arr A 46 3 1 [[.list 1 (([wr (1 + ((wr (a)).tmod 20))] : List Int).map rI), .list 1 (([wr (1 + ((wr (a)).tmod 20)), wr (0 - (wr (1 + ((wr (a)).tmod 20))))] : List Int).map rI), .N]], .us E 63 3 (e.2.2.1.map Lot.row)]) (.rest _)) (AO.act [] I (AX.call0 I I I (L.zrct_ok _ _ _ _ _ _ _ cn) dS ?_))))))
 rintro _ _ ⟨ae, rfl, rfl⟩
 refine AO.q 5 I (AO.nil ?_)
 subst cm
 refine AW.seqG (fun er co => ?_)
 obtain ⟨O, cp, h⟩ := ob_some h
 refine AW.region (AO.r 4 [.o 0 0, .o 2 1] I ⟨I, I, J⟩ (AO.act [] I (AX.lt 1 (([H.2, 0] : List Int).map rI) (AO.ghost (Ghost.freeze [] (K := []) I [(96, .agg [.list 1 (([wr (1 + ((wr (a)).tmod 20))] : List Int).map rI), .list 1 (([wr (1 + ((wr (a)).tmod 20)), wr (0 - (wr (1 + ((wr (a)).tmod 20))))] : List Int).map rI), .list 1 ([].map rB)])] ⟨⟨_, I, .agg (.cons (.refl _) (.cons (.refl _) (.cons (.nil _) (.rest _))))⟩, J⟩ (ob' := [.arr j 32 6 1 [Network.row (L.zvce g.1)], .arr A 46 3 1 [[.list 1 (([wr (1 + ((wr (a)).tmod 20))] : List Int).map rI), .list 1 (([wr (1 + ((wr (a)).tmod 20)), wr (0 - (wr (1 + ((wr (a)).tmod 20))))] : List Int).map rI), .N]], .us E 63 3 (e.2.2.1.map Lot.row), .us ae 63 3 (M.1.map Lot.row)]) (.rest _)) (AO.act [] I (AX.call0 I I I (L.zthj_ok _ _ _ _ _ cp) dS ?_))))))
 rintro _ _ ⟨S, et, rfl, rfl⟩
 refine AO.q 7 I (AO.nil ?_)
 subst co
 refine AW.seqG (fun eu cq => (AW.cutX (fun s ob => s = [(108, .v (.bool ((M.2 != 0) || (O.2.2 != 0))))] ∧ ob = [.arr j 32 6 1 [Network.row (L.zvce g.1)], .arr A 46 3 1 [[.list 1 (([wr (1 + ((wr (a)).tmod 20))] : List Int).map rI), .list 1 (([wr (1 + ((wr (a)).tmod 20)), wr (0 - (wr (1 + ((wr (a)).tmod 20))))] : List Int).map rI), .N]], .us E 63 3 (e.2.2.1.map Lot.row), .us ae 63 3 (M.1.map Lot.row), .us S 35 1 (O.1.map (rL 2 Piece.row))]) [(6, _), (7, _), (8, _), (11, _), (12, _), (13, _), (18, _), (20, _)] ⟨I, I, I, I, I, I, I, I, J⟩ ?_ ?_))
 refine AW.region (AO.q 3 I ?_)
 rcases bt ((M.2 != 0)) with af | af
 refine AO.known 105 I af (AO.q 3 I (AO.nil ?_))
 exact lf ⟨I, I⟩ ⟨(get_b (by simp only [af, bz])), I, I, I, I, I, I, I, I, J⟩ [0, 1, 2, 3, 4] I
 refine AO.known 105 I af (AO.q 3 I (AO.nil ?_))
 exact lf ⟨I, I⟩ ⟨(get_b (by simp only [af, bz])), I, I, I, I, I, I, I, I, J⟩ [0, 1, 2, 3, 4] I
 rintro s ob ⟨rfl, rfl⟩
 refine AW.ch h I ?_ ?_
 intro cr h
 refine AW.z I ?_
 obtain rfl := bk _ (oi h).symm
 replace h := bj
 replace h := se_l h
 refine AW.ghost g0 ?_
 obtain rfl := oi h
 exact AW.ret pr
 intro cr h
 refine AW.skip ?_
 subst cq
 refine AW.cutX (fun s ob => ∃ (aq : List Lot) (ar : Value), L.zeiw.J11 e H O aq = some a3 ∧ s = [(12, .v ar)] ∧ ob = [.arr j 32 6 1 [Network.row (L.zvce g.1)], .arr A 46 3 1 [[.list 1 (([wr (1 + ((wr (a)).tmod 20))] : List Int).map rI), .list 1 (([wr (1 + ((wr (a)).tmod 20)), wr (0 - (wr (1 + ((wr (a)).tmod 20))))] : List Int).map rI), .N]], .us ar 63 3 (aq.map Lot.row), .us S 35 1 (O.1.map (rL 2 Piece.row))]) [(6, _), (7, _), (8, _), (11, _), (13, _), (20, _)] ⟨I, I, I, I, I, I, J⟩ ?_ ?_
 refine AW.z I (AW.block ?_)
 obtain ⟨ev, ct, cu⟩ := ob_some h
 clear h
 refine AW.loopX ct [(6, _), (7, _), (8, _), (11, _), (13, _), (18, _), (20, _)] ⟨I, I, I, I, I, I, I, J⟩ (fun (F : (List Lot) × Int) s ob => ∃ (U : Value), s = [(12, .v U), (23, .V F.2)] ∧ ob = [.arr j 32 6 1 [Network.row (L.zvce g.1)], .arr A 46 3 1 [[.list 1 (([wr (1 + ((wr (a)).tmod 20))] : List Int).map rI), .list 1 (([wr (1 + ((wr (a)).tmod 20)), wr (0 - (wr (1 + ((wr (a)).tmod 20))))] : List Int).map rI), .N]], .us U 63 3 (F.1.map Lot.row), .us ae 63 3 (M.1.map Lot.row), .us S 35 1 (O.1.map (rL 2 Piece.row))]) ⟨E, I, I⟩ ⟨I, I, J⟩ ⟨[0, 1, 2, 3, 4], I, by decide⟩ ?_
 rintro F bm s ob ⟨U, rfl, rfl⟩ h cv
 unfold L.zeiw.B12 at h
 refine AW.seqG (fun ew cw => (AW.seq (AW.region (AO.q 2 I (AO.d (Yd.lenUM 3 I I I I) I (AO.q 1 I (AO.nil (AW.ch h I ?_ ?_))))))))
 intro cx h
 refine AW.skip ?_
 subst cw
 refine AW.cutX (fun s ob => ∃ (a4 : List Lot) (au : Value), L.zeiw.J13 F a4 = some bm ∧ s = [(12, .v au)] ∧ ob = [.arr j 32 6 1 [Network.row (L.zvce g.1)], .arr A 46 3 1 [[.list 1 (([wr (1 + ((wr (a)).tmod 20))] : List Int).map rI), .list 1 (([wr (1 + ((wr (a)).tmod 20)), wr (0 - (wr (1 + ((wr (a)).tmod 20))))] : List Int).map rI), .N]], .us au 63 3 (a4.map Lot.row), .us ae 63 3 (M.1.map Lot.row), .us S 35 1 (O.1.map (rL 2 Piece.row))]) [(6, _), (7, _), (8, _), (11, _), (13, _), (18, _), (20, _), (23, _)] ⟨I, I, I, I, I, I, I, I, J⟩ ?_ ?_
 refine AW.block (AW.seqG (fun ex cy => (AW.region (AO.q 1 I (AO.d (Yd.lenUM 2 I I I I) I (AO.q 2 I (AO.nil ?_)))))))
 subst cy
 refine AW.cutX (fun s ob => ∃ (a5 : Bool), L.zeiw.J14 e M F a5 = some bm ∧ s = [(132, .v (.bool a5))] ∧ ob = [.arr j 32 6 1 [Network.row (L.zvce g.1)], .arr A 46 3 1 [[.list 1 (([wr (1 + ((wr (a)).tmod 20))] : List Int).map rI), .list 1 (([wr (1 + ((wr (a)).tmod 20)), wr (0 - (wr (1 + ((wr (a)).tmod 20))))] : List Int).map rI), .N]], .us U 63 3 (F.1.map Lot.row), .us ae 63 3 (M.1.map Lot.row), .us S 35 1 (O.1.map (rL 2 Piece.row))]) [(6, _), (7, _), (8, _), (11, _), (12, _), (13, _), (18, _), (20, _), (23, _), (24, _)] ⟨I, I, I, I, I, I, I, I, I, I, J⟩ ?_ ?_
 rcases bt (decide ((wr ((F.1.length : Int) - 1)) ≥ 0)) with ag | ag
 replace h := ife_t ag h
 obtain ⟨ah, cz, h⟩ := ob_some h
 obtain ⟨c1, a6⟩ := ix_some cz
 obtain ⟨ai, c2, h⟩ := ob_some h
 obtain ⟨c3, a7⟩ := ix_some c2
 refine AW.form 2 ah.1 I a6 (fun c4 => (AW.form 3 ai.1 I a7 (fun c5 => (AW.rd (pd 15 0 []) [2, 3] [_, _] I (AP.q 3 I (AP.known 120 I ag (AP.q 2 I (AP.oldG I I I I ((Yp.indexUf (m := ah.1) I I I I I c4 I c1 a6).yd) dS (AP.q 1 I (AP.oldG I I I I (Yd.loadU 0 ah.1 0 I I I (map_get a6) I (y := .V ah.2.Batch) I) dS (AP.q 2 I (AP.oldG I I I I ((Yp.indexUf (m := ai.1) I I I I I c5 I c3 a7).yd) dS (AP.q 1 I (AP.oldG I I I I (Yd.loadU 1 ai.1 0 I I I (map_get a7) I (y := .V ai.2.Batch) I) dS ?_))))))))))))))
 refine AP.q 2 I (AP.ofAO (AO.nil ?_))
 exact lg ⟨(ah.2.Batch == ai.2.Batch), h, I, I⟩ [0, 1, 2, 3, 4]
 replace h := ife_f ag h
 refine AW.rd (pd 15 0 []) [] [] I (AP.q 3 I (AP.known 120 I ag (AP.q 12 I (AP.ofAO (AO.nil ?_)))))
 exact lg ⟨false, h, I, I⟩ [0, 1, 2, 3, 4]
 rintro s ob ⟨a5, h, rfl, rfl⟩
 unfold L.zeiw.J14 at h
 refine AW.ch h I ?_ ?_
 intro c6 h
 obtain ⟨k, c7, h⟩ := ob_some h
 obtain ⟨bn, W⟩ := ix_some c7
 obtain ⟨X, c8, h⟩ := ob_some h
 obtain ⟨c9, a8⟩ := ix_some c8
 refine AW.form 2 k.1 I W (fun da => (AW.form 3 X.1 I a8 (fun db => (AW.form 2 k.1 I W (fun dc => (AW.rd (.still 0 (.still 1 (.still 2 (.still 3 (.still 4 (.still 5 (.still 6 (.still 7 (.still 8 (.still 9 (.still 10 (.still 11 (.still 12 (.still 13 (.still 14 (.drop 15 .nil)))))))))))))))) [2, 3] [_, _] I (AP.q 4 I (AP.op I (Yp.indexUf (m := k.1) I I I I I da I bn W) I (AP.q 1 I (AP.o I (Yd.loadU 0 k.1 1 I I I (map_get W) I (y := .V k.2.Volume) I) I (AP.q 2 I (AP.op I (Yp.indexUf (m := X.1) I I I I I db I c9 a8) I (AP.q 1 I (AP.o I (Yd.loadU 1 X.1 1 I I I (map_get a8) I (y := .V X.2.Volume) I) I (AP.q 1 I ?_)))))))))))))))
 refine AP.op I (Yp.indexUf (m := k.1) I I I I I dc I bn W) I (AP.q 1 I (AP.drop [2] I I I (AX.storeU 2 k.1 1 I I I (map_get W) I I I I (le_ble I) I (us_set (x := (⟨k.2.Batch, wr (k.2.Volume + X.2.Volume), k.2.Done⟩ : Lot)) I) (AP.ofAO (AO.nil ?_)))))
 exact lg ⟨(F.1.set k.1 (⟨k.2.Batch, wr (k.2.Volume + X.2.Volume), k.2.Done⟩ : Lot)), U, h, I, I⟩ [0, 1, 2, 3, 4]
 intro c6 h
 obtain ⟨u, dd, h⟩ := ob_some h
 obtain ⟨bo, Y⟩ := ix_some dd
 obtain ⟨de, df, h⟩ := ob_some h
 refine AW.form 3 u.1 I Y (fun dg => (AW.form 3 u.1 I Y (fun dh => (AW.rd (pd 16 0 [13, 14]) [3] [_] I (AP.q 3 I (AP.op I (Yp.indexUf (m := u.1) I I I I I dg I bo Y) I (AP.q 1 I (AP.o I (Yd.loadU 0 u.1 0 I I I (map_get Y) I (y := .V u.2.Batch) I) I (AP.q 2 I (AP.op I (Yp.indexUf (m := u.1) I I I I I dh I bo Y) I (AP.q 1 I (AP.o I (Yd.loadU 0 u.1 1 I I I (map_get Y) I (y := .V u.2.Volume) I) I (AP.q 1 I (AP.op I (Yp.buildP (l := [.V u.2.Batch, .V u.2.Volume, .V e.2.2.2]) Tryz.bld63 I) I ?_))))))))))))))
 refine AP.act [] I I I (AX.lt 3 (([(⟨u.2.Batch, u.2.Volume, e.2.2.2⟩ : Lot)] : List Lot).map Lot.row) (AP.act [2] I I I (AX.ap 2 I df (fun di => (AP.eraS 12 (AP.q 1 I (AP.ofAO (AO.nil ?_))))))))
 exact lg ⟨de, di, h, I, I⟩ [0, 1, 2, 3, 4]
 rintro s ob ⟨a4, au, h, rfl, rfl⟩
 unfold L.zeiw.J13 at h
 refine AW.region (AO.q 3 I ?_)
 obtain rfl := oi h
 refine AO.nil ?_
 exact ⟨_, _, _, I, ⟨au, I, I⟩, ⟨I, I, I, I, I, I, I, I, I, J⟩, [0, 1, 2, 3, 4], I, by decide⟩
 intro cx h
 obtain rfl := cv _ (oi h).symm
 replace h := cu
 refine AW.exit ?_
 exact lg ⟨F.1, U, h, I, I⟩ [0, 1, 2, 4]
 rintro s ob ⟨aq, ar, h, rfl, rfl⟩
 unfold L.zeiw.J11 at h
 refine AW.t I ?_
 exact lg ⟨(H.1, O.1, aq), S, ar, h, I, I⟩ [0, 1, 2, 3]
 rintro s ob ⟨ad, an, ao, h, rfl, rfl⟩
 unfold L.zeiw.J9 at h
 refine AW.region (AO.q 3 I ?_)
 obtain rfl := oi h
 refine AO.nil ?_
 exact ⟨_, _, _, I, ⟨an, ao, I, I⟩, ⟨I, I, I, I, I, I, I, J⟩, [0, 3, 1, 2], I, by decide⟩
 intro cj h
 obtain rfl := bk _ (oi h).symm
 replace h := bj
 replace h := se_r h
 refine AW.exit ?_
 exact lg ⟨(e.1, e.2.2.1), E, h, I, I⟩ [0, 3]
 rintro s ob ⟨B, P, h, rfl, rfl⟩
 unfold L.zeiw.J2 at h
 refine AW.zr [.o 1 0, .x 2 w.1 (Segment.row w.2)] I ⟨⟨bg, map_get bh⟩, I, J⟩ (AW.z I (AW.cutX (fun s ob => ∃ (bp : Unit), L.zeiw.J3 bp = some r ∧ s = [] ∧ ob = []) [] J ?_ ?_))
 refine AW.z I (AW.block ?_)
 obtain ⟨ey, dj, a9⟩ := ob_some h
 clear h
 refine AW.loopX dj [(7, _), (8, _), (12, _)] ⟨I, I, I, J⟩ (fun (n : Int × Int × Int) s ob => s = [(25, .V n.1), (26, .V n.2.1), (27, .V n.2.2)] ∧ ob = [.us P 63 3 (B.2.map Lot.row)]) ⟨I, I⟩ ⟨I, I, I, J⟩ ⟨[1], I, by decide⟩ ?_
 rintro n ba s ob ⟨rfl, rfl⟩ h bb
 unfold L.zeiw.B4 at h
 refine AW.seqG (fun ez dk => (AW.zr [.l 2 (B.1.length : Int)] I ⟨len_m, J⟩ (AW.ch h I ?_ ?_)))
 intro dl h
 refine AW.skip ?_
 subst dk
 refine AW.cutX (fun s ob => ∃ (av : Int × Int), L.zeiw.J5 n av = some ba ∧ s = [(25, .V av.1), (26, .V av.2)] ∧ ob = [.us P 63 3 (B.2.map Lot.row)]) [(7, _), (8, _), (12, _), (27, _)] ⟨I, I, I, I, J⟩ ?_ ?_
 refine AW.block (AW.seqG (fun e0 dm => ?_))
 obtain ⟨aw, dn, h⟩ := ob_some h
 refine AW.region (AO.q 2 I (AO.c (L.zdws_ok _ _ _ dn) (AO.q 5 I (AO.nil ?_))))
 subst dm
 refine AW.seqG (fun e1 dp => (AW.cutX (fun s ob => ∃ (bc : Bool), L.zeiw.J6 B n aw bc = some ba ∧ s = [(198, .v (.bool bc))] ∧ ob = [.us P 63 3 (B.2.map Lot.row)]) [(7, _), (8, _), (12, _), (25, _), (26, _), (27, _), (28, _)] ⟨I, I, I, I, I, I, I, J⟩ ?_ ?_))
 refine AW.region (AO.q 3 I ?_)
 rcases bt ((aw.2 != 0)) with aj | aj
 replace h := ife_t aj h
 refine AO.known 183 I aj (AO.q 15 I (AO.nil ?_))
 exact lg ⟨true, h, I, I⟩ [0]
 replace h := ife_f aj h
 refine AO.known 183 I aj ?_
 rcases bt (decide (aw.1 ≥ 370)) with ak | ak
 replace h := ife_t ak h
 refine AO.q 4 I (AO.known 187 I ak (AO.q 11 I (AO.nil ?_)))
 exact lg ⟨true, h, I, I⟩ [0]
 replace h := ife_f ak h
 obtain ⟨bd, dq, h⟩ := ob_some h
 obtain ⟨dr, ds⟩ := ix_some dq
 refine AO.q 4 I (AO.known 187 I ak (AO.r 11 [.x 3 bd.1 (Lot.row bd.2)] I ⟨⟨dr, map_get ds⟩, J⟩ (AO.nil ?_)))
 exact lg ⟨decide ((wr (n.1 + bd.2.Done)) > (wr (370 * (wr (1 + ((wr (a)).tmod 20)))))), h, I, I⟩ [0]
 rintro s ob ⟨bc, h, rfl, rfl⟩
 unfold L.zeiw.J6 at h
 refine AW.ch h I ?_ ?_
 intro dt h
 refine AW.seq ?_
 obtain ⟨e2, du, h⟩ := ob_some h
 refine AW.region (AO.c (L.zuro_ok  _ du) (AO.q 1 I (AO.nil ?_)))
 obtain rfl := bb _ (oi h).symm
 replace h := a9
 replace h := se_l h
 refine AW.ghost g0 ?_
 obtain rfl := oi h
 exact AW.ret pr
 intro dt h
 refine AW.skip ?_
 subst dp
 refine AW.seqG (fun e3 dv => (AW.seq ?_))
 obtain ⟨D, dw, h⟩ := ob_some h
 obtain ⟨ax, ay⟩ := ix_some dw
 refine AW.tr [.x 2 D.1 (Lot.row D.2)] I ⟨⟨ax, map_get ay⟩, J⟩ (AW.ch h I ?_ ?_)
 intro dx h
 refine AW.exit ?_
 exact lg ⟨(n.1, n.2.1), h, I, I⟩ [0]
 intro dx h
 refine AW.skip ?_
 subst dv
 refine AW.seqG (fun e4 dy => (AW.cutX (fun s ob => ∃ (be : Bool), L.zeiw.J7 n D be = some ba ∧ s = [(240, .v (.bool be))] ∧ ob = [.us P 63 3 (B.2.map Lot.row)]) [(7, _), (8, _), (12, _), (25, _), (26, _), (27, _)] ⟨I, I, I, I, I, I, J⟩ ?_ ?_))
 rcases bt (decide (n.2.1 ≥ (B.2.length : Int))) with Q | Q
 replace h := ife_t Q h
 refine AW.formL 0 I (fun dz => (AW.rd (pd 35 0 []) [] [] I (AP.q 2 I (AP.op I (Yp.lenUf I I I dz) I (AP.q 2 I (AP.known 210 I Q (AP.q 30 I (AP.ofAO (AO.nil ?_)))))))))
 exact lg ⟨true, h, I, I⟩ [0]
 replace h := ife_f Q h
 obtain ⟨b, d0, h⟩ := ob_some h
 obtain ⟨Z, i⟩ := ix_some d0
 rcases bt ((b.2.Batch != n.2.2)) with aa | aa
 replace h := ife_t aa h
 refine AW.formL 0 I (fun d1 => (AW.form 0 b.1 I i (fun d2 => (AW.rd (pd 35 0 []) [0] [_] I (AP.q 2 I (AP.op I (Yp.lenUf I I I d1) I (AP.q 2 I (AP.known 210 I Q (AP.q 2 I (AP.oldG I I I I ((Yp.indexUf (m := b.1) I I I I I d2 I Z i).yd) dS (AP.q 1 I (AP.oldG I I I I (Yd.loadU 0 b.1 0 I I I (map_get i) I (y := .V b.2.Batch) I) dS (AP.q 4 I (AP.known 219 I aa ?_))))))))))))))
 refine AP.q 21 I (AP.ofAO (AO.nil ?_))
 exact lg ⟨true, h, I, I⟩ [0]
 replace h := ife_f aa h
 rcases bt ((b.2.Volume != D.2.Done)) with al | al
 replace h := ife_t al h
 refine AW.formL 0 I (fun d3 => (AW.form 0 b.1 I i (fun d4 => (AW.form 0 b.1 I i (fun d5 => (AW.rd (pd 35 0 []) [0] [_] I (AP.q 2 I (AP.op I (Yp.lenUf I I I d3) I (AP.q 2 I (AP.known 210 I Q (AP.q 2 I (AP.oldG I I I I ((Yp.indexUf (m := b.1) I I I I I d4 I Z i).yd) dS (AP.q 1 I (AP.oldG I I I I (Yd.loadU 0 b.1 0 I I I (map_get i) I (y := .V b.2.Batch) I) dS (AP.q 4 I ?_)))))))))))))))
 refine AP.known 219 I aa (AP.q 2 I (AP.oldG I I I I ((Yp.indexUf (m := b.1) I I I I I d5 I Z i).yd) dS (AP.q 1 I (AP.oldG I I I I (Yd.loadU 0 b.1 1 I I I (map_get i) I (y := .V b.2.Volume) I) dS (AP.r 8 [.x 2 D.1 (Lot.row D.2)] I ⟨⟨ax, map_get ay⟩, J⟩ (AP.known 232 I al (AP.q 8 I (AP.ofAO (AO.nil ?_)))))))))
 exact lg ⟨true, h, I, I⟩ [0]
 replace h := ife_f al h
 refine AW.formL 0 I (fun d6 => (AW.form 0 b.1 I i (fun d7 => (AW.form 0 b.1 I i (fun d8 => (AW.form 0 b.1 I i (fun d9 => (AW.rd (pd 35 0 []) [0] [_] I (AP.q 2 I (AP.op I (Yp.lenUf I I I d6) I (AP.q 2 I (AP.known 210 I Q (AP.q 2 I (AP.oldG I I I I ((Yp.indexUf (m := b.1) I I I I I d7 I Z i).yd) dS (AP.q 1 I (AP.oldG I I I I (Yd.loadU 0 b.1 0 I I I (map_get i) I (y := .V b.2.Batch) I) dS ?_))))))))))))))))
 refine AP.q 4 I (AP.known 219 I aa (AP.q 2 I (AP.oldG I I I I ((Yp.indexUf (m := b.1) I I I I I d8 I Z i).yd) dS (AP.q 1 I (AP.oldG I I I I (Yd.loadU 0 b.1 1 I I I (map_get i) I (y := .V b.2.Volume) I) dS (AP.r 8 [.x 2 D.1 (Lot.row D.2)] I ⟨⟨ax, map_get ay⟩, J⟩ (AP.known 232 I al (AP.q 2 I (AP.oldG I I I I ((Yp.indexUf (m := b.1) I I I I I d9 I Z i).yd) dS (AP.q 1 I (AP.oldG I I I I (Yd.loadU 0 b.1 2 I I I (map_get i) I (y := .V b.2.Done) I) dS (AP.q 3 I ?_))))))))))))
 refine AP.ofAO (AO.nil ?_)
 exact lg ⟨(b.2.Done != aw.1), h, I, I⟩ [0]
 rintro s ob ⟨be, h, rfl, rfl⟩
 unfold L.zeiw.J7 at h
 refine AW.ch h I ?_ ?_
 intro ea h
 refine AW.z I ?_
 obtain rfl := bb _ (oi h).symm
 replace h := a9
 replace h := se_l h
 refine AW.ghost g0 ?_
 obtain rfl := oi h
 exact AW.ret pr
 intro ea h
 refine AW.skip ?_
 subst dy
 refine AW.zr [.x 3 D.1 (Lot.row D.2)] I ⟨⟨ax, map_get ay⟩, J⟩ (AW.t I ?_)
 exact lg ⟨(wr (n.1 + D.2.Done), wr (n.2.1 + 1)), h, I, I⟩ [0]
 rintro s ob ⟨av, h, rfl, rfl⟩
 unfold L.zeiw.J5 at h
 refine AW.region (AO.q 3 I ?_)
 obtain rfl := oi h
 refine AO.nil ?_
 exact ⟨_, _, _, I, ⟨I, I⟩, ⟨I, I, I, I, I, I, J⟩, [0], I, by decide⟩
 intro dl h
 obtain rfl := bb _ (oi h).symm
 replace h := a9
 replace h := se_r h
 refine AW.exit ?_
 exact lg ⟨(), h, I, I⟩ []
 rintro s ob ⟨bp, h, rfl, rfl⟩
 unfold L.zeiw.J3 at h
 refine AW.seq ?_
 obtain ⟨e5, eb, h⟩ := ob_some h
 refine AW.region (AO.c (L.zuro_ok  _ eb) (AO.q 1 I (AO.nil ?_)))
 obtain rfl := oi h
 exact AW.ret pr
end Go.Proofs.YtaliejncdnegeaaGreat
