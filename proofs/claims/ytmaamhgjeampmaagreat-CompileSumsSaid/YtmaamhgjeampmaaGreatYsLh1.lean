/- Walks that show what functions of the program compute; printed by a program of ours. No condition. -/
import Derived.Test.YtmaamhgjeampmaaGreatYsLe
import Derived.Test.YtmaamhgjeampmaaGreatYsL4c
import Derived.Test.YtmaamhgjeampmaaGreatYsL4b
import Derived.Test.YtmaamhgjeampmaaGreatYsD
set_option maxRecDepth 100000
namespace Go.Proofs.YtmaamhgjeampmaaGreat
open Go.Aw
set_option linter.unusedVariables false
set_option linter.unusedSimpArgs false
set_option maxHeartbeats 4000000
theorem L.zbad_ok (c : Network) (k : List Int) (d : Int) (r : Hop × Bool) (h : L.zbad c k d = some r) : ACalls Tryz.env 108 [.agg (Network.row c), .list 1 (k.map rI), .V d] [] (fun x new => x = .tup [.agg (Hop.row r.1), .v (.bool r.2)] ∧ new = []) := by
 refine ACalls.of_body Tryz.func108 rfl rfl rfl (fun C hC => ?_)
 unfold L.zbad at h
 refine AW.seqG (fun X K => (AW.region (AO.act [] I (AX.box (cs := Network.row c) (m := 6) I I I dS (fun B => (AO.act [] I (AX.alloc (cs := [.V 0, .v (.bool false)]) (m := 2) I I I I I dS (fun w => (AO.q 1 I (AO.nil ?_))))))))))
 subst K
 refine AW.cutX (fun s ob => ∃ (D : Unit), L.zbad.J1 D = some r ∧ s = [] ∧ ob = [.arr w 107 2 1 [[.V 0, .v (.bool false)]]]) [(6, _)] ⟨I, J⟩ ?_ ?_
 refine AW.z I (AW.block ?_)
 obtain ⟨Y, M, E⟩ := ob_some h
 clear h
 refine AW.loopX M [(1, _), (2, _), (3, _), (6, _)] ⟨I, I, I, I, J⟩ (fun (e : Int) s ob => s = [(8, .V e)] ∧ ob = [.arr B 32 6 1 [Network.row c], .arr w 107 2 1 [[.V 0, .v (.bool false)]]]) ⟨I, I⟩ ⟨I, J⟩ ⟨[0, 1], I, by decide⟩ ?_
 rintro e N s ob ⟨rfl, rfl⟩ h F
 unfold L.zbad.B2 at h
 refine AW.seqG (fun Z O => (AW.zr [.l 2 (k.length : Int)] I ⟨len_m, J⟩ (AW.ch h I ?_ ?_)))
 intro P h
 refine AW.skip ?_
 subst O
 refine AW.seq (AW.block (AW.cutX (fun s ob => ∃ (y : Bool), L.zbad.J3 k e y = some N ∧ s = [(46, .v (.bool y))] ∧ ob = [.arr B 32 6 1 [Network.row c], .arr w 107 2 1 [[.V 0, .v (.bool false)]]]) [(1, _), (2, _), (3, _), (6, _), (8, _)] ⟨I, I, I, I, I, J⟩ ?_ ?_))
 obtain ⟨a, ⟨n, t⟩, h⟩ := ob_ix h
 refine AW.region (AO.r 6 [.x 2 a.1 (rI a.2)] I ⟨⟨n, map_get t⟩, J⟩ ?_)
 rcases bt (decide (a.2 > 0)) with f | f
 replace h := ife_t f h
 obtain ⟨b, ⟨G, H⟩, h⟩ := ob_ix h
 refine AO.known 20 I f (AO.r 10 [.o 1 0, .x 3 b.1 (Segment.row b.2)] I ⟨⟨G, map_get H⟩, I, J⟩ ?_)
 rcases bt ((b.2.From == d)) with g | g
 replace h := ife_t g h
 refine AO.known 30 I g (AO.q 6 I (AO.skipU I I dS (AO.skipU I I dS (AO.skipU I I dS (AO.skipU I I dS (AO.skipU I I dS (AO.skipU I I dS (AO.skipU I I dS (AO.skipU I I dS (AO.q 2 I (AO.nil ?_)))))))))))
 exact lg ⟨true, h, I, I⟩ [0, 1]
 replace h := ife_f g h
 refine AO.known 30 I g (AO.r 6 [.x 2 a.1 (rI a.2)] I ⟨⟨n, map_get t⟩, J⟩ ?_)
 rcases bt (decide (a.2 < 0)) with i | i
 replace h := ife_t i h
 refine AO.known 36 I i (AO.r 10 [.o 1 0, .x 3 b.1 (Segment.row b.2)] I ⟨⟨G, map_get H⟩, I, J⟩ (AO.nil ?_))
 exact lg ⟨(b.2.To == d), h, I, I⟩ [0, 1]
 replace h := ife_f i h
 refine AO.known 36 I i (AO.q 10 I (AO.nil ?_))
 exact lg ⟨false, h, I, I⟩ [0, 1]
 replace h := ife_f f h
 refine AO.known 20 I f ?_
 rcases bt (decide (a.2 < 0)) with j | j
 replace h := ife_t j h
 obtain ⟨A, ⟨Q, R⟩, h⟩ := ob_ix h
 refine AO.r 16 [.x 12 a.1 (rI a.2)] I ⟨⟨n, map_get t⟩, J⟩ (AO.known 36 I j (AO.r 10 [.o 1 0, .x 3 A.1 (Segment.row A.2)] I ⟨⟨Q, map_get R⟩, I, J⟩ (AO.nil ?_)))
 exact lg ⟨(A.2.To == d), h, I, I⟩ [0, 1]
 replace h := ife_f j h
 refine AO.r 16 [.x 12 a.1 (rI a.2)] I ⟨⟨n, map_get t⟩, J⟩ (AO.known 36 I j (AO.q 10 I (AO.nil ?_)))
 exact lg ⟨false, h, I, I⟩ [0, 1]
 rintro s ob ⟨y, h, rfl, rfl⟩
 unfold L.zbad.J3 at h
 refine AW.ch h I ?_ ?_
 intro S h
 refine AW.seq ?_
 obtain ⟨u, ⟨U, W⟩, h⟩ := ob_ix h
 refine AW.region (AO.r 6 [.x 3 u.1 (rI u.2)] I ⟨⟨U, map_get W⟩, J⟩ (AO.p (Yp.buildP (l := [.V e, .v (.bool (decide (u.2 < 0)))]) Tryz.bld107 I) I (AO.act [1] I (AX.st 1 0 0 [[.V e, .v (.bool (decide (u.2 < 0)))]] I (AO.q 1 I (AO.nil ?_))))))
 obtain rfl := F _ (oi h).symm
 replace h := E
 replace h := se_l h
 refine AW.gp [1] I ?_
 obtain rfl := oi h
 exact AW.ret ⟨.inr I, [_, _], [], ⟨⟨0, _, _, _, _, _, _, _, I, I, I, I, I⟩, I, J⟩, sl_n, I, I⟩
 intro S h
 refine AW.skip (AW.region (AO.q 3 I ?_))
 obtain rfl := oi h
 refine AO.nil ?_
 exact ⟨_, _, _, I, ⟨I, I⟩, ⟨I, I, I, I, I, J⟩, [0, 1], I, by decide⟩
 intro P h
 obtain rfl := F _ (oi h).symm
 replace h := E
 replace h := se_r h
 refine AW.exit ?_
 exact lg ⟨(), h, I, I⟩ [1]
 rintro s ob ⟨D, h, rfl, rfl⟩
 unfold L.zbad.J1 at h
 refine AW.seq (AW.region (AO.p (Yp.buildP (l := [.V 0, .v (.bool false)]) Tryz.bld107 I) I (AO.act [0] I (AX.st 0 0 0 [[.V 0, .v (.bool false)]] I (AO.q 1 I (AO.nil ?_))))))
 obtain rfl := oi h
 exact AW.ret ⟨.inr I, [_, _], [], ⟨⟨0, _, _, _, _, _, _, _, I, I, I, I, I⟩, I, J⟩, sl_n, I, I⟩
theorem L.zkae_ok (a : Int) (r : Int) (h : L.zkae a = r) : ACalls Tryz.env 109 [.V a] [] (fun x new => x = .V r ∧ new = []) := by
 refine ACalls.of_body Tryz.func109 rfl rfl rfl (fun C hC => ?_)
 unfold L.zkae at h
 refine AW.z I (AW.z I ?_)
 obtain rfl := h
 exact AW.ret pr
theorem L.znud_own (e : Network) (E : List Int) (y : List Int) (b : Int) (r : Path × Bool) (h : L.znud e E y b = some r) : ACalls Tryz.env 68 [.agg (Network.row e), .list 1 (E.map rI), .list 1 (y.map rI), .V b] [] (fun x new => ∃ (P : Value), x = .tup [.agg [.V r.1.In, .V r.1.Out, .v P, .V r.1.Rate], .v (.bool r.2)] ∧ new = [.us P 107 2 (r.1.Hops.map Hop.row)]) := by
 refine ACalls.of_body Tryz.func68 rfl rfl rfl (fun C hC => ?_)
 unfold L.znud at h
 refine AW.seqG (fun y2 Y => (AW.region (AO.act [] I (AX.box (cs := Network.row e) (m := 6) I I I dS (fun n => (AO.act [] I (AX.alloc (cs := [.V 0, .V 0, .N, .V 0]) (m := 4) I I I I I dS (fun f => (AO.q 1 I (AO.nil ?_))))))))))
 subst Y
 refine AW.seqG (fun y5 Z => ?_)
 obtain ⟨A, ⟨aa, ab⟩, h⟩ := ob_ix h
 refine AW.region (AO.r 5 [.x 3 A.1 (rI A.2)] I ⟨⟨aa, map_get ab⟩, J⟩ (AO.p (Yp.buildP (l := [.V b, .V 0, .N, .V A.2]) Tryz.bld52 I) I (AO.act [] I (AX.alloc (cs := [.V 0, .V 0, .N, .V 0]) (m := 4) I I I I I dS (fun g => (AO.act [2] I (AX.st 2 0 0 [[.V b, .V 0, .N, .V A.2]] I (AO.nil ?_))))))))
 subst Z
 refine AW.seqG (fun y9 ac => ?_)
 obtain ⟨Q, ⟨ad, ae⟩, h⟩ := ob_ix h
 refine AW.tr [.o 1 0, .x 3 Q.1 (Port.row Q.2)] I ⟨⟨ad, map_get ae⟩, I, J⟩ ?_
 subst ac
 refine AW.cutX (fun s ob => ∃ (i : (List Hop) × Int) (j : Value), L.znud.J1 b i = some r ∧ s = [] ∧ ob = [.arr f 52 4 1 [[.V 0, .V 0, .N, .V 0]], .arr g 52 4 1 [[.V b, .V 0, .v j, .V i.2]], .us j 107 2 (i.1.map Hop.row)]) [(8, _), (10, _)] ⟨I, I, J⟩ ?_ ?_
 refine AW.z I (AW.block (AW.ghost (Ghost.nilU 107 2) ?_))
 obtain ⟨bc, af, F⟩ := ob_some h
 clear h
 refine AW.loopX af [(1, _), (2, _), (4, _), (8, _), (10, _)] ⟨I, I, I, I, I, J⟩ (fun (a : (List Hop) × Int × Int × Int) s ob => ∃ (d : Value), s = [(11, .V a.2.2.1), (12, .V a.2.2.2)] ∧ ob = [.arr n 32 6 1 [Network.row e], .arr f 52 4 1 [[.V 0, .V 0, .N, .V 0]], .arr g 52 4 1 [[.V b, .V 0, .v d, .V a.2.1]], .us d 107 2 (a.1.map Hop.row)]) ⟨(.slice none 0 0), I, I⟩ ⟨I, I, J⟩ ⟨[0, 1, 2, 3], I, by decide⟩ ?_
 rintro a R s ob ⟨d, rfl, rfl⟩ h G
 unfold L.znud.B2 at h
 refine AW.seqG (fun bd ag => (AW.zr [.o 2 0, .l 3 (e.Nodes.length : Int)] I ⟨len_m, I, J⟩ (AW.ch h I ?_ ?_)))
 intro ah h
 refine AW.skip ?_
 subst ag
 refine AW.cutX (fun s ob => ∃ (t : (List Hop) × Int × Int) (B : Value), L.znud.J3 a t = some R ∧ s = [(11, .V t.2.2)] ∧ ob = [.arr n 32 6 1 [Network.row e], .arr f 52 4 1 [[.V 0, .V 0, .N, .V 0]], .arr g 52 4 1 [[.V b, .V 0, .v B, .V t.2.1]], .us B 107 2 (t.1.map Hop.row)]) [(1, _), (2, _), (4, _), (8, _), (10, _), (12, _)] ⟨I, I, I, I, I, I, J⟩ ?_ ?_
 refine AW.block (AW.cutX (fun s ob => ∃ (S : Unit), L.znud.J4 e E b a S = some R ∧ s = [] ∧ ob = [.arr n 32 6 1 [Network.row e], .arr f 52 4 1 [[.V 0, .V 0, .N, .V 0]], .arr g 52 4 1 [[.V b, .V 0, .v d, .V a.2.1]], .us d 107 2 (a.1.map Hop.row)]) [(1, _), (2, _), (4, _), (8, _), (10, _), (11, _), (12, _)] ⟨I, I, I, I, I, I, I, J⟩ ?_ ?_)
 refine AW.z I (AW.block ?_)
 obtain ⟨be, ai, U⟩ := ob_some h
 clear h
 refine AW.loopX ai [(1, _), (2, _), (4, _), (8, _), (10, _), (11, _), (12, _)] ⟨I, I, I, I, I, I, I, J⟩ (fun (k : Int) s ob => s = [(13, .V k)] ∧ ob = [.arr n 32 6 1 [Network.row e], .arr f 52 4 1 [[.V 0, .V 0, .N, .V 0]], .arr g 52 4 1 [[.V b, .V 0, .v d, .V a.2.1]], .us d 107 2 (a.1.map Hop.row)]) ⟨I, I⟩ ⟨I, J⟩ ⟨[0, 1, 2, 3], I, by decide⟩ ?_
 rintro k aj s ob ⟨rfl, rfl⟩ h W
 unfold L.znud.B5 at h
 refine AW.seqG (fun bf ak => (AW.zr [.l 2 (y.length : Int)] I ⟨len_m, J⟩ (AW.ch h I ?_ ?_)))
 intro al h
 refine AW.skip ?_
 subst ak
 refine AW.seq (AW.block (AW.cutX (fun s ob => ∃ (H : Bool), L.znud.J6 y b a k H = some aj ∧ s = [(55, .v (.bool H))] ∧ ob = [.arr n 32 6 1 [Network.row e], .arr f 52 4 1 [[.V 0, .V 0, .N, .V 0]], .arr g 52 4 1 [[.V b, .V 0, .v d, .V a.2.1]], .us d 107 2 (a.1.map Hop.row)]) [(1, _), (2, _), (4, _), (8, _), (10, _), (11, _), (12, _), (13, _)] ⟨I, I, I, I, I, I, I, I, J⟩ ?_ ?_))
 obtain ⟨K, ⟨am, an⟩, h⟩ := ob_ix h
 refine AW.region (AO.r 9 [.o 1 0, .x 3 K.1 (Port.row K.2)] I ⟨⟨am, map_get an⟩, I, J⟩ ?_)
 rcases bt ((K.2.Node == a.2.2.1)) with u | u
 replace h := ife_t u h
 obtain ⟨M, ⟨ao, aq⟩, h⟩ := ob_ix h
 refine AO.known 49 I u (AO.r 6 [.x 2 M.1 (rI M.2)] I ⟨⟨ao, map_get aq⟩, J⟩ (AO.nil ?_))
 exact lg ⟨decide (M.2 < 0), h, I, I⟩ [0, 1, 2, 3]
 replace h := ife_f u h
 refine AO.known 49 I u (AO.q 6 I (AO.nil ?_))
 exact lg ⟨false, h, I, I⟩ [0, 1, 2, 3]
 rintro s ob ⟨H, h, rfl, rfl⟩
 unfold L.znud.J6 at h
 refine AW.ch h I ?_ ?_
 intro ar h
 refine AW.seqG (fun bg au => (AW.region (AO.q 2 I (AO.act [2] I (AX.st 2 0 1 [[.V b, .V k, .v d, .V a.2.1]] I (AO.nil ?_))))))
 subst au
 refine AW.seq ?_
 obtain ⟨D, ⟨av, aw⟩, h⟩ := ob_ix h
 refine AW.rd (.still 0 (.still 1 (.still 2 (.still 3 (.still 4 (.still 5 (.still 6 (.still 7 (.still 8 (.drop 9 .nil)))))))))) [2] [_] I (AP.r 9 [.o 1 0, .x 4 D.1 (rI D.2)] I ⟨⟨av, map_get aw⟩, I, J⟩ (AP.drop [2] I I I (AX.st 2 0 3 [[.V b, .V k, .v d, .V (min a.2.1 (wr (0 - D.2)))]] I (AP.ofAO (AO.nil (AW.seq (AW.region (AO.r 1 [.o 0 2] I ⟨I, J⟩ (AO.act [1] I (AX.st 1 0 0 [[.V b, .V k, .v d, .V (min a.2.1 (wr (0 - D.2)))]] I (AO.q 1 I (AO.nil ?_))))))))))))
 obtain rfl := W _ (oi h).symm
 replace h := U
 replace h := se_l h
 obtain rfl := G _ (oi h).symm
 replace h := F
 replace h := se_l h
 refine AW.gp [3, 1] I ?_
 obtain rfl := oi h
 exact AW.ret ⟨.inr I, [_, _], [.us d 107 2 (a.1.map Hop.row)], ⟨⟨1, _, _, _, _, _, _, _, I, I, I, I, I⟩, I, J⟩, sl_c I (sl_n), ⟨d, I, I⟩⟩
 intro ar h
 refine AW.skip (AW.region (AO.q 3 I ?_))
 obtain rfl := oi h
 refine AO.nil ?_
 exact ⟨_, _, _, I, ⟨I, I⟩, ⟨I, I, I, I, I, I, I, I, J⟩, [0, 1, 2, 3], I, by decide⟩
 intro al h
 obtain rfl := W _ (oi h).symm
 replace h := U
 replace h := se_r h
 refine AW.exit ?_
 exact lg ⟨(), h, I, I⟩ [0, 1, 2, 3]
 rintro s ob ⟨S, h, rfl, rfl⟩
 unfold L.znud.J4 at h
 refine AW.seqG (fun bh ax => ?_)
 obtain ⟨X, ay, h⟩ := ob_some h
 refine AW.region (AO.r 3 [.o 0 0] I ⟨I, J⟩ (AO.c (L.zbad_ok _ _ _ _ ay) (AO.q 3 I (AO.act [] I (AX.alloc (cs := [.V 0, .v (.bool false)]) (m := 2) I I I I I dS (fun bi => (AO.act [4] I (AX.st 4 0 0 [Hop.row X.1] I (AO.q 1 I (AO.nil ?_))))))))))
 subst ax
 refine AW.seqG (fun bj az => (AW.z I (AW.ch h I ?_ ?_)))
 intro a0 h
 refine AW.seq (AW.region (AO.r 1 [.o 0 2] I ⟨I, J⟩ (AO.act [1] I (AX.st 1 0 0 [[.V b, .V 0, .v d, .V a.2.1]] I (AO.q 1 I (AO.nil ?_))))))
 obtain rfl := G _ (oi h).symm
 replace h := F
 replace h := se_l h
 refine AW.gp [3, 1] I ?_
 obtain rfl := oi h
 exact AW.ret ⟨.inr I, [_, _], [.us d 107 2 (a.1.map Hop.row)], ⟨⟨1, _, _, _, _, _, _, _, I, I, I, I, I⟩, I, J⟩, sl_c I (sl_n), ⟨d, I, I⟩⟩
 intro a0 h
 refine AW.skip ?_
 subst az
 refine AW.seqG (fun bk a1 => ?_)
 obtain ⟨a2, a3, h⟩ := ob_some h
 refine AW.region (AO.r 3 [.o 1 2, .o 2 4] I ⟨I, I, J⟩ (AO.act [] I (AX.lt 2 (([X.1] : List Hop).map Hop.row) (AO.act [3] I (AX.ap 3 I a3 (fun O => (AO.q 1 I (AO.one 3 I (fun a4 => (AO.act [2] I (AX.store 2 0 2 (es' := [[.V b, .V 0, .v O, .V a.2.1]]) I I I I I I (cells_v a4) I (le_ble I) I I (AO.nil ?_))))))))))))
 subst a1
 refine AW.seq ?_
 obtain ⟨w, ⟨a5, a6⟩, h⟩ := ob_ix h
 refine AW.rd (.still 0 (.still 1 (.still 2 (.still 3 (.still 4 (.still 5 (.still 6 (.act 7 (.still 8 (.still 9 (.drop 10 .nil))))))))))) [2, 4] [_, _] I (AP.r 7 [.o 1 0, .o 4 1, .x 5 w.1 (rI w.2)] I ⟨⟨a5, map_get a6⟩, I, I, J⟩ (AP.c I (L.zkae_ok w.2 _ I) (AP.q 2 I (AP.drop [2] I I I (AX.st 2 0 3 [[.V b, .V 0, .v O, .V (min a.2.1 (L.zkae w.2))]] I (AP.ofAO (AO.nil ?_)))))))
 obtain ⟨a7, a8, h⟩ := ob_some h
 refine AW.region (AO.r 2 [.o 0 0, .o 1 4] I ⟨I, I, J⟩ (AO.c (L.ztgl_ok _ _ _ a8) (AO.q 4 I (AO.nil ?_))))
 exact lg ⟨(a2, (min a.2.1 (L.zkae w.2)), a7.2), O, h, I, I⟩ [0, 1, 2, 3]
 rintro s ob ⟨t, B, h, rfl, rfl⟩
 unfold L.znud.J3 at h
 refine AW.region (AO.q 3 I ?_)
 obtain rfl := oi h
 refine AO.nil ?_
 exact ⟨_, _, _, I, ⟨B, I, I⟩, ⟨I, I, I, I, I, I, I, J⟩, [0, 1, 2, 3], I, by decide⟩
 intro ah h
 obtain rfl := G _ (oi h).symm
 replace h := F
 replace h := se_r h
 refine AW.exit ?_
 exact lg ⟨(a.1, a.2.1), d, h, I, I⟩ [1, 2, 3]
 rintro s ob ⟨i, j, h, rfl, rfl⟩
 unfold L.znud.J1 at h
 refine AW.seq (AW.region (AO.r 1 [.o 0 1] I ⟨I, J⟩ (AO.act [0] I (AX.st 0 0 0 [[.V b, .V 0, .v j, .V i.2]] I (AO.q 1 I (AO.nil (AW.gp [2, 0] I ?_)))))))
 obtain rfl := oi h
 exact AW.ret ⟨.inr I, [_, _], [.us j 107 2 (i.1.map Hop.row)], ⟨⟨1, _, _, _, _, _, _, _, I, I, I, I, I⟩, I, J⟩, sl_c I (sl_n), ⟨j, I, I⟩⟩
theorem L.ztrc_ok (g : Network) (X : Plan) (r : (List Path) × Int) (h : L.ztrc g X = some r) : ACalls Tryz.env 20 [.agg (Network.row g), .agg (Plan.row X)] [] (fun x new => ∃ (u0 : Value), x = .tup [.v u0, .V r.2] ∧ new = [.us u0 52 4 (r.1.map Path.row)]) := by
 refine ACalls.of_body Tryz.func20 rfl rfl rfl (fun C hC => ?_)
 unfold L.ztrc at h
 refine AW.seqG (fun y1 al => (AW.region (AO.act [] I (AX.box (cs := Network.row g) (m := 6) I I I dS (fun n => (AO.act [] I (AX.box (cs := Plan.row X) (m := 3) I I I dS (fun b3 => (AO.q 2 I (AO.nil ?_))))))))))
 subst al
 refine AW.seqG (fun y4 am => (AW.seq ?_))
 obtain ⟨r5, an, h⟩ := ob_some h
 refine AW.region (AO.r 2 [.o 0 0, .o 1 1] I ⟨I, I, J⟩ (AO.c (L.zvqa_ok _ _ _ an) (AO.q 1 I (AO.nil (AW.z I (AW.ch h I ?_ ?_))))))
 intro ao h
 refine AW.z I (AW.ghost (Ghost.nilU 52 4) (AW.gp [2] I ?_))
 obtain rfl := oi h
 exact AW.ret ⟨.inr I, [_, _], [.us (.slice none 0 0) 52 4 ([].map Path.row)], ⟨I, I, J⟩, sl_c I (sl_n), ⟨(.slice none 0 0), I, I⟩⟩
 intro ao h
 refine AW.skip ?_
 subst am
 refine AW.seqG (fun y8 aq => ?_)
 obtain ⟨b4, ar, h⟩ := ob_some h
 refine AW.region (AO.act [] I (AX.buildSlice (sz := 1) (es := ([] : List Int).map rI) I I I I I I I I I I I dS (fun v9 => (AO.r 2 [.o 1 1] I ⟨I, J⟩ (AO.act [2] I (AX.ap 2 I ar (fun t => (AO.q 1 I (AO.nil ?_)))))))))
 subst aq
 refine AW.seqG (fun b6 au => ?_)
 obtain ⟨b7, av, h⟩ := ob_some h
 refine AW.region (AO.act [] I (AX.buildSlice (sz := 1) (es := ([] : List Int).map rI) I I I I I I I I I I I dS (fun b8 => (AO.r 2 [.o 1 1] I ⟨I, J⟩ (AO.act [3] I (AX.ap 3 I av (fun u => (AO.q 1 I (AO.nil ?_)))))))))
 subst au
 refine AW.z I (AW.cutX (fun s ob => ∃ (Q : List Path) (H : Value), L.ztrc.J1 Q = some r ∧ s = [(9, .v H)] ∧ ob = [.us H 52 4 (Q.map Path.row)]) [] J ?_ ?_)
 refine AW.z I (AW.block (AW.ghost (Ghost.nilU 52 4) ?_))
 obtain ⟨b9, aw, ab⟩ := ob_some h
 clear h
 refine AW.loopX aw [(2, _), (7, _), (8, _)] ⟨I, I, I, J⟩ (fun (w : (List Int) × (List Int) × (List Path) × Int) s ob => ∃ (M : Value), s = [(9, .v M), (10, .V w.2.2.2)] ∧ ob = [.arr n 32 6 1 [Network.row g], .us t 3 1 (w.1.map rI), .us u 3 1 (w.2.1.map rI), .us M 52 4 (w.2.2.1.map Path.row)]) ⟨(.slice none 0 0), I, I⟩ ⟨I, I, J⟩ ⟨[0, 2, 3, 4], I, by decide⟩ ?_
 rintro w ax s ob ⟨M, rfl, rfl⟩ h ac
 unfold L.ztrc.B2 at h
 refine AW.seqG (fun ca ay => (AW.seq (AW.region (AO.q 2 I (AO.d (Yd.lenUM 2 I I I I) I (AO.q 1 I (AO.nil (AW.ch h I ?_ ?_))))))))
 intro az h
 refine AW.skip ?_
 subst ay
 refine AW.cutX (fun s ob => ∃ (O : (List Int) × (List Int) × (List Path)) (R : Value), L.ztrc.J3 w O = some ax ∧ s = [(9, .v R)] ∧ ob = [.arr n 32 6 1 [Network.row g], .us t 3 1 (O.1.map rI), .us u 3 1 (O.2.1.map rI), .us R 52 4 (O.2.2.map Path.row)]) [(2, _), (7, _), (8, _), (10, _)] ⟨I, I, I, I, J⟩ ?_ ?_
 refine AW.block (AW.block ?_)
 obtain ⟨cb, a0, ad⟩ := ob_some h
 clear h
 refine AW.loopX a0 [(2, _), (7, _), (8, _), (10, _)] ⟨I, I, I, I, J⟩ (fun (b : (List Int) × (List Int) × (List Path)) s ob => ∃ (k : Value), s = [(9, .v k)] ∧ ob = [.arr n 32 6 1 [Network.row g], .us t 3 1 (b.1.map rI), .us u 3 1 (b.2.1.map rI), .us k 52 4 (b.2.2.map Path.row)]) ⟨M, I, I⟩ ⟨I, J⟩ ⟨[0, 1, 2, 3], I, by decide⟩ ?_
 rintro b a1 s ob ⟨k, rfl, rfl⟩ h ae
 unfold L.ztrc.B4 at h
 refine AW.seqG (fun cc a2 => (AW.seq ?_))
 obtain ⟨Y, ⟨a3, af⟩, h⟩ := ob_ix h
 refine AW.region (AO.q 2 I (AO.d (Yd.indexU 2 (m := Y.1) I I I I I I I a3 (map_get af)) I (AO.d (Yd.loadU 2 Y.1 0 I I I (map_get af) I (y := .V Y.2) I) I (AO.q 1 I (AO.nil (AW.ch h I ?_ ?_))))))
 intro a4 h
 refine AW.skip ?_
 subst a2
 refine AW.block (AW.seqG (fun cd a5 => ?_))
 obtain ⟨a, a6, h⟩ := ob_some h
 refine AW.region (AO.r 4 [.o 0 0] I ⟨I, J⟩ (AO.act [] I (AX.callN I (.refl _) I I (.cons (.refl _) (.cons (.us 1 I) (.cons (.us 2 I) (.rest _)))) I (L.znud_own _ _ _ _ _ a6) dS (by rintro _ _ ⟨_, rfl, rfl⟩; exact ⟨rfl, by intro p hp; simp only [List.mem_cons, List.not_mem_nil, or_false] at hp; rcases hp with rfl <;> exact flat_map fun _ => rfl⟩) ?_)))
 rintro _ _ ⟨l, rfl, rfl⟩
 refine AO.q 3 I (AO.act [] I (AX.alloc (cs := [.V 0, .V 0, .N, .V 0]) (m := 4) I I I I I dS (fun S => (AO.act [5] I (AX.st 5 0 0 [[.V a.1.In, .V a.1.Out, .v l, .V a.1.Rate]] I (AO.q 1 I (AO.nil ?_)))))))
 subst a5
 refine AW.seqG (fun ce a7 => (AW.jb 60 ((!a.2) || (((b.2.2.length : Int) == 64) || decide ((a.1.Hops.length : Int) > 32))) ?_ ?_))
 refine AW.region (AO.q 3 I ?_)
 rcases bt ((!a.2)) with B | B
 refine AO.known 50 I B (AO.q 10 I (AO.nil ?_))
 exact jf (by simp only [B, bz]) I I ⟨I, I⟩
 refine AO.known 50 I B (AO.q 1 I (AO.gt I I I (AO.d (Yd.lenUM 3 I I I I) I (AO.q 3 I ?_))))
 rcases bt (((b.2.2.length : Int) == 64)) with P | P
 refine AO.known 55 I P (AO.q 5 I (AO.nil ?_))
 exact jf (by simp only [B, P, bz]) I I ⟨I, I⟩
 refine AO.known 55 I P (AO.r 2 [.o 1 5] I ⟨I, J⟩ (AO.gt I I I (AO.d (Yd.lenUM 4 I I I I) I (AO.q 2 I (AO.nil ?_)))))
 exact jf (by simp only [B, P, bz]) I I ⟨I, I⟩
 refine AW.ch h I ?_ ?_
 intro a8 h
 refine AW.z I ?_
 obtain rfl := ae _ (oi h).symm
 replace h := ad
 replace h := se_l h
 obtain rfl := ac _ (oi h).symm
 replace h := ab
 replace h := se_l h
 refine AW.ghost (Ghost.nilU 52 4) (AW.gp [6] I ?_)
 obtain rfl := oi h
 exact AW.ret ⟨.inr I, [_, _], [.us (.slice none 0 0) 52 4 ([].map Path.row)], ⟨I, I, J⟩, sl_c I (sl_n), ⟨(.slice none 0 0), I, I⟩⟩
 intro a8 h
 refine AW.skip ?_
 subst a7
 refine AW.seqG (fun cf a9 => ?_)
 obtain ⟨e, ⟨ag, D⟩, h⟩ := ob_ix h
 refine AW.form 2 e.1 I D (fun ba => (AW.form 2 e.1 I D (fun bb => (AW.rd (.still 0 (.still 1 (.still 2 (.still 3 (.still 4 (.still 5 (.still 6 (.still 7 (.still 8 (.still 9 (.still 10 (.still 11 (.drop 12 .nil))))))))))))) [5, 2] [_, _] I (AP.r 6 [.o 2 0, .o 5 0] I ⟨I, I, J⟩ (AP.op I (Yp.indexUf (m := e.1) I I I I I ba I ag D) I (AP.o I (Yd.loadU 1 e.1 0 I I I (map_get D) I (y := .V e.2) I) I (AP.r 3 [.o 1 0] I ⟨I, J⟩ (AP.op I (Yp.indexUf (m := e.1) I I I I I bb I ag D) I (AP.drop [2] I I I (AX.storeU 2 e.1 0 I I I (map_get D) I I I I (le_ble I) I (us_set (x := wr (e.2 - a.1.Rate)) I) (AP.ofAO (AO.nil ?_)))))))))))))
 subst a9
 refine AW.seqG (fun cg bc => ?_)
 obtain ⟨f, ⟨ah, E⟩, h⟩ := ob_ix h
 refine AW.form 2 f.1 I E (fun bd => (AW.form 2 f.1 I E (fun be => (AW.rd (.still 0 (.still 1 (.still 2 (.still 3 (.still 4 (.still 5 (.still 6 (.still 7 (.still 8 (.still 9 (.still 10 (.still 11 (.drop 12 .nil))))))))))))) [5, 2] [_, _] I (AP.r 6 [.o 2 0, .o 5 0] I ⟨I, I, J⟩ (AP.op I (Yp.indexUf (m := f.1) I I I I I bd I ah E) I (AP.o I (Yd.loadU 1 f.1 0 I I I (map_get E) I (y := .V f.2) I) I (AP.r 3 [.o 1 0] I ⟨I, J⟩ (AP.op I (Yp.indexUf (m := f.1) I I I I I be I ah E) I (AP.drop [2] I I I (AX.storeU 2 f.1 0 I I I (map_get E) I I I I (le_ble I) I (us_set (x := wr (f.2 + a.1.Rate)) I) (AP.ofAO (AO.nil ?_)))))))))))))
 subst bc
 refine AW.cutX (fun s ob => ∃ (U : List Int), L.ztrc.J5 b a e f U = some a1 ∧ s = [] ∧ ob = [.arr n 32 6 1 [Network.row g], .us t 3 1 (U.map rI), .us u 3 1 (((b.2.1.set e.1 (wr (e.2 - a.1.Rate))).set f.1 (wr (f.2 + a.1.Rate))).map rI), .us k 52 4 (b.2.2.map Path.row), .us l 107 2 (a.1.Hops.map Hop.row), .arr S 52 4 1 [[.V a.1.In, .V a.1.Out, .v l, .V a.1.Rate]]]) [(2, _), (7, _), (8, _), (9, _), (10, _), (11, _)] ⟨I, I, I, I, I, I, J⟩ ?_ ?_
 refine AW.z I (AW.block ?_)
 obtain ⟨ci, bf, bg⟩ := ob_some h
 clear h
 refine AW.loopX bf [(2, _), (7, _), (8, _), (9, _), (10, _), (11, _)] ⟨I, I, I, I, I, I, J⟩ (fun (A : (List Int) × Int) s ob => s = [(13, .V A.2)] ∧ ob = [.arr n 32 6 1 [Network.row g], .us t 3 1 (A.1.map rI), .us u 3 1 (((b.2.1.set e.1 (wr (e.2 - a.1.Rate))).set f.1 (wr (f.2 + a.1.Rate))).map rI), .us k 52 4 (b.2.2.map Path.row), .us l 107 2 (a.1.Hops.map Hop.row), .arr S 52 4 1 [[.V a.1.In, .V a.1.Out, .v l, .V a.1.Rate]]]) ⟨I, I⟩ ⟨I, J⟩ ⟨[0, 1, 2, 3, 4, 5], I, by decide⟩ ?_
 rintro A bh s ob ⟨rfl, rfl⟩ h bi
 unfold L.ztrc.B6 at h
 refine AW.seqG (fun cj bj => (AW.seq (AW.region (AO.r 3 [.o 2 5] I ⟨I, J⟩ (AO.d (Yd.lenUM 4 I I I I) I (AO.q 1 I (AO.nil (AW.ch h I ?_ ?_))))))))
 intro bk h
 refine AW.skip ?_
 subst bj
 refine AW.cutX (fun s ob => ∃ (Z : List Int), L.ztrc.J7 A Z = some bh ∧ s = [] ∧ ob = [.arr n 32 6 1 [Network.row g], .us t 3 1 (Z.map rI), .us u 3 1 (((b.2.1.set e.1 (wr (e.2 - a.1.Rate))).set f.1 (wr (f.2 + a.1.Rate))).map rI), .us k 52 4 (b.2.2.map Path.row), .us l 107 2 (a.1.Hops.map Hop.row), .arr S 52 4 1 [[.V a.1.In, .V a.1.Out, .v l, .V a.1.Rate]]]) [(2, _), (7, _), (8, _), (9, _), (10, _), (11, _), (13, _)] ⟨I, I, I, I, I, I, I, J⟩ ?_ ?_
 refine AW.block (AW.seqG (fun ck bl => ?_))
 obtain ⟨W, ⟨bm, ai⟩, h⟩ := ob_ix h
 refine AW.region (AO.r 3 [.o 1 5] I ⟨I, J⟩ (AO.d (Yd.indexU 4 (m := W.1) I I I I I I I bm (map_get ai)) I (AO.d (Yd.loadU 4 W.1 0 I I I (map_get ai) I (y := .agg (Hop.row W.2)) I) I (AO.act [] I (AX.alloc (cs := [.V 0, .v (.bool false)]) (m := 2) I I I I I dS (fun cl => (AO.act [6] I (AX.st 6 0 0 [Hop.row W.2] I (AO.nil ?_)))))))))
 subst bl
 refine AW.zr [.o 1 6] I ⟨I, J⟩ (AW.ch h I ?_ ?_)
 intro bn h
 obtain ⟨i, ⟨aj, F⟩, h⟩ := ob_ix h
 refine AW.form 1 i.1 I F (fun bo => (AW.form 1 i.1 I F (fun bp => (AW.rd (.still 0 (.still 1 (.still 2 (.still 3 (.still 4 (.still 5 (.still 6 (.still 7 (.still 8 (.still 9 (.still 10 (.still 11 (.drop 12 .nil))))))))))))) [6, 1, 5] [_, _, _] I (AP.r 6 [.o 2 0, .o 5 0] I ⟨I, I, J⟩ (AP.op I (Yp.indexUf (m := i.1) I I I I I bo I aj F) I (AP.o I (Yd.loadU 1 i.1 0 I I I (map_get F) I (y := .V i.2) I) I (AP.r 3 [.o 1 2] I ⟨I, J⟩ (AP.op I (Yp.indexUf (m := i.1) I I I I I bp I aj F) I (AP.drop [1] I I I (AX.storeU 1 i.1 0 I I I (map_get F) I I I I (le_ble I) I (us_set (x := wr (i.2 + a.1.Rate)) I) (AP.ofAO (AO.nil ?_)))))))))))))
 exact lg ⟨(A.1.set i.1 (wr (i.2 + a.1.Rate))), h, I, I⟩ [0, 1, 2, 3, 4, 5]
 intro bn h
 obtain ⟨j, ⟨ak, G⟩, h⟩ := ob_ix h
 refine AW.form 1 j.1 I G (fun bq => (AW.form 1 j.1 I G (fun br => (AW.rd (.still 0 (.still 1 (.still 2 (.still 3 (.still 4 (.still 5 (.still 6 (.still 7 (.still 8 (.still 9 (.still 10 (.still 11 (.drop 12 .nil))))))))))))) [6, 1, 5] [_, _, _] I (AP.r 6 [.o 2 0, .o 5 0] I ⟨I, I, J⟩ (AP.op I (Yp.indexUf (m := j.1) I I I I I bq I ak G) I (AP.o I (Yd.loadU 1 j.1 0 I I I (map_get G) I (y := .V j.2) I) I (AP.r 3 [.o 1 2] I ⟨I, J⟩ (AP.op I (Yp.indexUf (m := j.1) I I I I I br I ak G) I (AP.drop [1] I I I (AX.storeU 1 j.1 0 I I I (map_get G) I I I I (le_ble I) I (us_set (x := wr (j.2 - a.1.Rate)) I) (AP.ofAO (AO.nil ?_)))))))))))))
 exact lg ⟨(A.1.set j.1 (wr (j.2 - a.1.Rate))), h, I, I⟩ [0, 1, 2, 3, 4, 5]
 rintro s ob ⟨Z, h, rfl, rfl⟩
 unfold L.ztrc.J7 at h
 refine AW.region (AO.q 3 I ?_)
 obtain rfl := oi h
 refine AO.nil ?_
 exact ⟨_, _, _, I, ⟨I, I⟩, ⟨I, I, I, I, I, I, I, J⟩, [0, 1, 2, 3, 4, 5], I, by decide⟩
 intro bk h
 obtain rfl := bi _ (oi h).symm
 replace h := bg
 refine AW.exit ?_
 exact lg ⟨A.1, h, I, I⟩ [0, 1, 2, 3, 4, 5]
 rintro s ob ⟨U, h, rfl, rfl⟩
 unfold L.ztrc.J5 at h
 obtain ⟨cm, bs, h⟩ := ob_some h
 refine AW.region (AO.r 2 [.o 1 5] I ⟨I, J⟩ (AO.ghost (Ghost.freeze [4] (K := [.us l 107 2 (a.1.Hops.map Hop.row)]) I [(124, .agg [.V a.1.In, .V a.1.Out, .list 2 (a.1.Hops.map Hop.row), .V a.1.Rate])] ⟨⟨_, I, .agg (.cons (.refl _) (.cons (.refl _) (.cons (.us 0 I) (.rest _))))⟩, J⟩ (ob' := [.arr n 32 6 1 [Network.row g], .us t 3 1 (U.map rI), .us u 3 1 (((b.2.1.set e.1 (wr (e.2 - a.1.Rate))).set f.1 (wr (f.2 + a.1.Rate))).map rI), .us k 52 4 (b.2.2.map Path.row), .arr S 52 4 1 [Path.row a.1]]) (.cons (.same _) (.cons (.same _) (.cons (.same _) (.cons (.same _) (.cons (.arr (.cons (.refl _) (.cons (.refl _) (.cons (.us 0 I) (.rest _))))) (.rest _))))))) (AO.act [] I (AX.lt 4 (([a.1] : List Path).map Path.row) (AO.act [3] I (AX.ap 3 I bs (fun bu => (AO.q 1 I ?_))))))))
 obtain rfl := oi h
 refine AO.nil ?_
 exact ⟨_, _, _, I, ⟨bu, I, I⟩, ⟨I, I, I, I, I, J⟩, [0, 1, 2, 3], I, by decide⟩
 intro a4 h
 obtain rfl := ae _ (oi h).symm
 replace h := ad
 replace h := se_r h
 refine AW.exit ?_
 exact lg ⟨(b.1, b.2.1, b.2.2), k, h, I, I⟩ [0, 1, 2, 3]
 rintro s ob ⟨O, R, h, rfl, rfl⟩
 unfold L.ztrc.J3 at h
 refine AW.region (AO.q 3 I ?_)
 obtain rfl := oi h
 refine AO.nil ?_
 exact ⟨_, _, _, I, ⟨R, I, I⟩, ⟨I, I, I, I, I, J⟩, [0, 1, 2, 3], I, by decide⟩
 intro az h
 obtain rfl := ac _ (oi h).symm
 replace h := ab
 replace h := se_r h
 refine AW.exit ?_
 exact lg ⟨w.2.2.1, M, h, I, I⟩ [3]
 rintro s ob ⟨Q, H, h, rfl, rfl⟩
 unfold L.ztrc.J1 at h
 refine AW.z I ?_
 obtain rfl := oi h
 exact AW.ret ⟨.inr I, [_, _], [.us H 52 4 (Q.map Path.row)], ⟨I, I, J⟩, sl_c I (sl_n), ⟨H, I, I⟩⟩
theorem L.zjuq_ok (a : Path) (b : Path) (r : Bool) (h : L.zjuq a b = some r) : ACalls Tryz.env 26 [.agg (Path.row a), .agg (Path.row b)] [] (fun x new => x = .v (.bool r) ∧ new = []) := by
 refine ACalls.of_body Tryz.func26 rfl rfl rfl (fun C hC => ?_)
 unfold L.zjuq at h
 refine AW.seqG (fun K n => (AW.region (AO.act [] I (AX.box (cs := Path.row a) (m := 4) I I I dS (fun p => (AO.act [] I (AX.box (cs := Path.row b) (m := 4) I I I dS (fun t => (AO.q 1 I (AO.nil ?_))))))))))
 subst n
 refine AW.seqG (fun M u => (AW.jb 26 ((a.In != b.In) || ((a.Out != b.Out) || ((a.Hops.length : Int) != (b.Hops.length : Int)))) ?_ ?_))
 refine AW.region (AO.r 6 [.o 1 0, .o 3 1] I ⟨I, I, J⟩ ?_)
 rcases bt ((a.In != b.In)) with c | c
 refine AO.known 11 I c (AO.q 15 I (AO.nil ?_))
 exact jf (by simp only [c, bz]) I I ⟨I, I⟩
 refine AO.known 11 I c (AO.r 7 [.o 1 0, .o 3 1] I ⟨I, I, J⟩ ?_)
 rcases bt ((a.Out != b.Out)) with d | d
 refine AO.known 18 I d (AO.q 8 I (AO.nil ?_))
 exact jf (by simp only [c, d, bz]) I I ⟨I, I⟩
 refine AO.known 18 I d (AO.r 8 [.o 1 0, .l 2 (a.Hops.length : Int), .o 4 1, .l 5 (b.Hops.length : Int)] I ⟨len_m, I, len_m, I, J⟩ (AO.nil ?_))
 exact jf (by simp only [c, d, bz]) I I ⟨I, I⟩
 refine AW.ch h I ?_ ?_
 intro w h
 refine AW.z I (AW.ghost g0 ?_)
 obtain rfl := oi h
 exact AW.ret pr
 intro w h
 refine AW.skip ?_
 subst u
 refine AW.cutX (fun s ob => ∃ (g : Unit), L.zjuq.J1 g = some r ∧ s = [] ∧ ob = []) [] J ?_ ?_
 refine AW.z I (AW.block ?_)
 obtain ⟨N, y, i⟩ := ob_some h
 clear h
 refine AW.loopX y [(2, _), (3, _)] ⟨I, I, J⟩ (fun (j : Int) s ob => s = [(5, .V j)] ∧ ob = [.arr p 52 4 1 [Path.row a], .arr t 52 4 1 [Path.row b]]) ⟨I, I⟩ ⟨I, J⟩ ⟨[0, 1], I, by decide⟩ ?_
 rintro j O s ob ⟨rfl, rfl⟩ h k
 unfold L.zjuq.B2 at h
 refine AW.seqG (fun P A => (AW.zr [.o 2 0, .l 3 (a.Hops.length : Int)] I ⟨len_m, I, J⟩ (AW.ch h I ?_ ?_)))
 intro B h
 refine AW.skip ?_
 subst A
 refine AW.seq (AW.block (AW.seq ?_))
 obtain ⟨e, ⟨D, E⟩, h⟩ := ob_ix h
 obtain ⟨f, ⟨F, G⟩, h⟩ := ob_ix h
 refine AW.rd (pd 11 0 []) [0, 1] [_, _] I (AP.r 10 [.o 1 0, .x 3 e.1 (Hop.row e.2), .o 6 1, .x 8 f.1 (Hop.row f.2)] I ⟨⟨F, map_get G⟩, I, ⟨D, map_get E⟩, I, J⟩ (AP.op I (Yp.eqStruct (r := ((e.2.Segment == f.2.Segment) && ((e.2.Back == f.2.Back) && true))) I I Tryz.eq107 I I I I) I (AP.ofAO (AO.nil (AW.ch h I ?_ ?_)))))
 intro H h
 refine AW.z I ?_
 obtain rfl := k _ (oi h).symm
 replace h := i
 replace h := se_l h
 refine AW.ghost g0 ?_
 obtain rfl := oi h
 exact AW.ret pr
 intro H h
 refine AW.skip (AW.region (AO.q 3 I ?_))
 obtain rfl := oi h
 refine AO.nil ?_
 exact ⟨_, _, _, I, ⟨I, I⟩, ⟨I, I, I, J⟩, [0, 1], I, by decide⟩
 intro B h
 obtain rfl := k _ (oi h).symm
 replace h := i
 replace h := se_r h
 refine AW.exit ?_
 exact lg ⟨(), h, I, I⟩ []
 rintro s ob ⟨g, h, rfl, rfl⟩
 unfold L.zjuq.J1 at h
 refine AW.z I ?_
 obtain rfl := oi h
 exact AW.ret pr
theorem L.zden_ok (b : List Path) (a : Path) (r : Int) (h : L.zden b a = some r) : ACalls Tryz.env 25 [.list 4 (b.map Path.row), .agg (Path.row a)] [] (fun x new => x = .V r ∧ new = []) := by
 refine ACalls.of_body Tryz.func25 rfl rfl rfl (fun C hC => ?_)
 unfold L.zden at h
 refine AW.seqG (fun A j => (AW.region (AO.act [] I (AX.box (cs := Path.row a) (m := 4) I I I dS (fun k => (AO.q 1 I (AO.nil ?_)))))))
 subst j
 refine AW.cutX (fun s ob => ∃ (d : Unit), L.zden.J1 d = some r ∧ s = [] ∧ ob = []) [] J ?_ ?_
 refine AW.z I (AW.block ?_)
 obtain ⟨B, n, e⟩ := ob_some h
 clear h
 refine AW.loopX n [(0, _), (3, _)] ⟨I, I, J⟩ (fun (f : Int) s ob => s = [(5, .V f)] ∧ ob = [.arr k 52 4 1 [Path.row a]]) ⟨I, I⟩ ⟨I, J⟩ ⟨[0], I, by decide⟩ ?_
 rintro f D s ob ⟨rfl, rfl⟩ h g
 unfold L.zden.B2 at h
 refine AW.seqG (fun E p => (AW.zr [.l 2 (b.length : Int)] I ⟨len_m, J⟩ (AW.ch h I ?_ ?_)))
 intro t h
 refine AW.skip ?_
 subst p
 refine AW.seq (AW.block (AW.seq ?_))
 obtain ⟨i, ⟨u, v⟩, h⟩ := ob_ix h
 obtain ⟨F, w, h⟩ := ob_some h
 refine AW.rd (pd 6 0 [5]) [0] [_] I (AP.r 5 [.x 2 i.1 (Path.row i.2), .o 4 0] I ⟨I, ⟨u, map_get v⟩, J⟩ (AP.c I (L.zjuq_ok _ _ _ w) (AP.ofAO (AO.nil (AW.ch h I ?_ ?_)))))
 intro y h
 refine AW.z I ?_
 obtain rfl := g _ (oi h).symm
 replace h := e
 replace h := se_l h
 refine AW.ghost g0 ?_
 obtain rfl := oi h
 exact AW.ret pr
 intro y h
 refine AW.skip (AW.region (AO.q 3 I ?_))
 obtain rfl := oi h
 refine AO.nil ?_
 exact ⟨_, _, _, I, ⟨I, I⟩, ⟨I, I, I, J⟩, [0], I, by decide⟩
 intro t h
 obtain rfl := g _ (oi h).symm
 replace h := e
 replace h := se_r h
 refine AW.exit ?_
 exact lg ⟨(), h, I, I⟩ []
 rintro s ob ⟨d, h, rfl, rfl⟩
 unfold L.zden.J1 at h
 refine AW.z I ?_
 obtain rfl := oi h
 exact AW.ret pr
end Go.Proofs.YtmaamhgjeampmaaGreat
