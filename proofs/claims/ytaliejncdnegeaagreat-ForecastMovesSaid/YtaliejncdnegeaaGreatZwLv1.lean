/- Walks that show what functions of the program compute; printed by a program of ours. No condition. -/
import Derived.Test.YtaliejncdnegeaaGreatZwLf2
import Derived.Test.YtaliejncdnegeaaGreatZwL6
import Derived.Test.YtaliejncdnegeaaGreatZwD
set_option maxRecDepth 100000
namespace Go.Proofs.YtaliejncdnegeaaGreat
open Go.Aw
set_option linter.unusedVariables false
set_option linter.unusedSimpArgs false
set_option maxHeartbeats 4000000
theorem L.zcjy_ok (a : Int) (r : Bool) (h : L.zcjy a = r) : ACalls Tryz.env 45 [.V a] [] (fun x new => x = .v (.bool r) ∧ new = []) := by
 refine ACalls.of_body Tryz.func45 rfl rfl rfl (fun C hC => ?_)
 unfold L.zcjy at h
 refine AW.z I (AW.cutX (fun s ob => s = [(2, .v (.bool (decide (a ≥ 0) && decide (a < 1000))))] ∧ ob = []) [] J ?_ ?_)
 refine AW.region (AO.q 3 I ?_)
 rcases bt (decide (a ≥ 0)) with b | b
 refine AO.known 5 I b (AO.q 4 I (AO.nil ?_))
 exact lf ⟨I, I⟩ ⟨(get_b (by simp only [b, bz])), J⟩ [] I
 refine AO.known 5 I b (AO.q 4 I (AO.nil ?_))
 exact lf ⟨I, I⟩ ⟨(get_b (by simp only [b, bz])), J⟩ [] I
 rintro s ob ⟨rfl, rfl⟩
 obtain rfl := h
 exact AW.ret pr
theorem L.zmux_ok (b : List Piece) (r : Bool) (h : L.zmux b = some r) : ACalls Tryz.env 15 [.list 2 (b.map Piece.row)] [] (fun x new => x = .v (.bool r) ∧ new = []) := by
 refine ACalls.of_body Tryz.func15 rfl rfl rfl (fun C hC => ?_)
 unfold L.zmux at h
 refine AW.z I (AW.seqG (fun U y => (AW.zr [.l 1 (b.length : Int)] I ⟨len_m, J⟩ (AW.ch h I ?_ ?_))))
 intro A h
 refine AW.z I ?_
 obtain rfl := oi h
 exact AW.ret pr
 intro A h
 refine AW.skip ?_
 subst y
 refine AW.z I (AW.cutX (fun s ob => ∃ (n : Int), L.zmux.J1 n = some r ∧ s = [(3, .V n)] ∧ ob = []) [] J ?_ ?_)
 refine AW.zr [.l 1 (b.length : Int)] I ⟨len_m, J⟩ (AW.block (AW.listMax 9 I (fun p => ?_)))
 replace p : b.length ≤ 9223372036854775806 := by rw [List.length_map] at p; omega
 obtain ⟨W, B, w⟩ := ob_some h
 clear h
 refine AW.forX B [(0, _), (9, _), (10, _)] ⟨I, I, I, J⟩ (fun (d : Nat) (e : Int) s ob => s = [(11, .V (d : Int)), (3, .V e)] ∧ ob = []) ⟨I, I⟩ ⟨I, I, J⟩ ⟨[], I, by decide⟩ ?_ ?_
 rintro d a e D s ob E F ⟨rfl, rfl⟩ h G
 unfold L.zmux.B2 at h
 have H : decide ((d : Int) < (b.length : Int)) = true := decide_eq_true (by omega)
 refine AW.z I (AW.seqG (fun X K => (AW.condK (v := true) I H (AW.skip ?_))))
 subst K
 refine AW.seq (AW.block (AW.seqG (fun Y M => (AW.region (AO.r 3 [.x 1 d (Piece.row a)] I ⟨⟨I, map_get E⟩, J⟩ (AO.act [] I (AX.alloc (cs := [.V 0, .V 0]) (m := 2) I I I I I dS (fun N => (AO.q 1 I (AO.act [0] I (AX.store 0 0 0 (es' := [Piece.row a]) I I I I I I I I (le_ble I) I I (AO.nil ?_))))))))))))
 subst M
 refine AW.seq (AW.cutX (fun s ob => ∃ (t : Bool), L.zmux.J3 a e t = some D ∧ s = [(44, .v (.bool t))] ∧ ob = [.arr N 66 2 1 [Piece.row a]]) [(0, _), (3, _), (5, _), (9, _), (10, _), (11, _)] ⟨I, I, I, I, I, I, J⟩ ?_ ?_)
 refine AW.rd (pd 29 0 [2]) [0] [_] I (AP.r 2 [.o 1 0] I ⟨I, J⟩ (AP.c I (L.zcjy_ok a.Batch _ I) (AP.q 2 I ?_)))
 rcases bt ((!(L.zcjy a.Batch))) with f | f
 replace h := ife_t f h
 refine AP.known 20 I f (AP.q 13 I (AP.skipU I I I I dS (AP.skipU I I I I dS (AP.skipU I I I I dS (AP.skipU I I I I dS (AP.skipU I I I I dS (AP.skipU I I I I dS (AP.skipU I I I I dS (AP.skipU I I I I dS (AP.skipU I I I I dS (AP.q 2 I (AP.ofAO ?_))))))))))))
 refine AO.nil ?_
 exact lg ⟨true, h, I, I⟩ [0]
 replace h := ife_f f h
 refine AP.known 20 I f (AP.r 5 [.o 1 0] I ⟨I, J⟩ ?_)
 rcases bt (decide (a.Volume < 1)) with g | g
 replace h := ife_t g h
 refine AP.known 25 I g (AP.q 8 I (AP.skipU I I I I dS (AP.skipU I I I I dS (AP.skipU I I I I dS (AP.skipU I I I I dS (AP.skipU I I I I dS (AP.skipU I I I I dS (AP.skipU I I I I dS (AP.skipU I I I I dS (AP.skipU I I I I dS (AP.q 2 I (AP.ofAO ?_))))))))))))
 refine AO.nil ?_
 exact lg ⟨true, h, I, I⟩ [0]
 replace h := ife_f g h
 refine AP.known 25 I g (AP.r 5 [.o 1 0] I ⟨I, J⟩ ?_)
 rcases bt (decide (a.Volume > 1000000)) with i | i
 replace h := ife_t i h
 refine AP.known 30 I i (AP.q 3 I (AP.skipU I I I I dS (AP.skipU I I I I dS (AP.skipU I I I I dS (AP.skipU I I I I dS (AP.skipU I I I I dS (AP.skipU I I I I dS (AP.skipU I I I I dS (AP.skipU I I I I dS (AP.skipU I I I I dS (AP.q 2 I (AP.ofAO ?_))))))))))))
 refine AO.nil ?_
 exact lg ⟨true, h, I, I⟩ [0]
 replace h := ife_f i h
 refine AP.known 30 I i (AP.q 3 I ?_)
 rcases bt (decide ((d : Int) > 0)) with j | j
 replace h := ife_t j h
 obtain ⟨u, O, h⟩ := ob_some h
 obtain ⟨P, Q⟩ := ix_some O
 refine AP.known 33 I j (AP.r 11 [.o 1 0, .x 5 u.1 (Piece.row u.2)] I ⟨⟨P, map_get Q⟩, I, J⟩ (AP.ofAO (AO.nil ?_)))
 exact lg ⟨(a.Batch == u.2.Batch), h, I, I⟩ [0]
 replace h := ife_f j h
 refine AP.known 33 I j (AP.q 11 I (AP.ofAO (AO.nil ?_)))
 exact lg ⟨false, h, I, I⟩ [0]
 rintro s ob ⟨t, h, rfl, rfl⟩
 unfold L.zmux.J3 at h
 refine AW.ch h I ?_ ?_
 intro R h
 refine AW.z I ?_
 obtain rfl := G _ (oi h).symm
 replace h := w
 replace h := se_r h
 refine AW.ghost g0 ?_
 obtain rfl := oi h
 exact AW.ret pr
 intro R h
 refine AW.skip (AW.tr [.o 2 0] I ⟨I, J⟩ (AW.region (AO.r 2 [.k 0 (d + 1 : Nat)] I ⟨cast_wr F p, J⟩ ?_)))
 obtain rfl := oi h
 refine AO.nil ?_
 exact ⟨_, _, _, I, ⟨I, I⟩, ⟨I, I, I, I, I, J⟩, [], I, by decide⟩
 rintro e s ob ⟨rfl, rfl⟩ he
 subst he
 have h := se_l w
 have S : decide (((b.length : Nat) : Int) < (b.length : Int)) = false := by simp
 refine AW.z I (AW.seqG (fun Z aa => (AW.condK (v := false) I S (AW.exit ?_))))
 exact lg ⟨e, h, I, I⟩ []
 rintro s ob ⟨n, h, rfl, rfl⟩
 unfold L.zmux.J1 at h
 refine AW.z I ?_
 obtain rfl := oi h
 exact AW.ret pr
theorem L.zjfe_ok (b : Network) (a : List (List Piece)) (r : Int) (h : L.zjfe b a = some r) : ACalls Tryz.env 22 [.agg (Network.row b), .list 1 (a.map (rL 2 Piece.row))] [] (fun x new => x = .V r ∧ new = []) := by
 refine ACalls.of_body Tryz.func22 rfl rfl rfl (fun C hC => ?_)
 unfold L.zjfe at h
 refine AW.seqG (fun y1 A => (AW.region (AO.act [] I (AX.box (cs := Network.row b) (m := 6) I I I dS (fun f => (AO.q 1 I (AO.nil ?_)))))))
 subst A
 refine AW.seqG (fun y3 B => (AW.seq ?_))
 obtain ⟨r4, D, h⟩ := ob_some h
 refine AW.region (AO.r 1 [.o 0 0] I ⟨I, J⟩ (AO.c (L.zgcl_ok _ _ D) (AO.q 1 I (AO.nil (AW.z I (AW.ch h I ?_ ?_))))))
 intro E h
 refine AW.z I (AW.ghost g0 ?_)
 obtain rfl := oi h
 exact AW.ret pr
 intro E h
 refine AW.skip ?_
 subst B
 refine AW.seqG (fun y7 F => (AW.zr [.l 1 (a.length : Int), .o 3 0, .l 4 (b.Segments.length : Int)] I ⟨len_m, I, len_m, J⟩ (AW.ch h I ?_ ?_)))
 intro G h
 refine AW.z I (AW.ghost g0 ?_)
 obtain rfl := oi h
 exact AW.ret pr
 intro G h
 refine AW.skip ?_
 subst F
 refine AW.cutX (fun s ob => ∃ (j : Unit), L.zjfe.J1 b a j = some r ∧ s = [] ∧ ob = [.arr f 32 6 1 [Network.row b]]) [(1, _), (2, _)] ⟨I, I, J⟩ ?_ ?_
 refine AW.zr [.l 1 (a.length : Int)] I ⟨len_m, J⟩ (AW.block (AW.listMax 19 I (fun g => ?_)))
 replace g : a.length ≤ 9223372036854775806 := by rw [List.length_map] at g; omega
 obtain ⟨an, H, n⟩ := ob_some h
 clear h
 refine AW.forX H [(1, _), (2, _), (20, _)] ⟨I, I, I, J⟩ (fun (d : Nat) (p : Unit) s ob => s = [(21, .V (d : Int))] ∧ ob = [.arr f 32 6 1 [Network.row b]]) ⟨I, I⟩ ⟨I, J⟩ ⟨[0], I, by decide⟩ ?_ ?_
 rintro d K p ao s ob M N ⟨rfl, rfl⟩ h O
 unfold L.zjfe.B4 at h
 have P : decide ((d : Int) < (a.length : Int)) = true := decide_eq_true (by omega)
 refine AW.z I (AW.seqG (fun ap Q => (AW.condK (v := true) I P (AW.skip ?_))))
 subst Q
 refine AW.seq (AW.block (AW.z I (AW.seq ?_)))
 obtain ⟨aq, R, h⟩ := ob_some h
 refine AW.region (AO.r 4 [.x 2 d ((rL 2 Piece.row) K)] I ⟨⟨I, map_get M⟩, J⟩ (AO.c (L.zmux_ok _ _ R) (AO.q 1 I (AO.nil (AW.ch h I ?_ ?_)))))
 intro S h
 refine AW.z I ?_
 obtain rfl := O _ (oi h).symm
 replace h := n
 replace h := se_r h
 refine AW.ghost g0 ?_
 obtain rfl := oi h
 exact AW.ret pr
 intro S h
 refine AW.skip (AW.region (AO.r 2 [.k 0 (d + 1 : Nat)] I ⟨cast_wr N g, J⟩ ?_))
 obtain rfl := oi h
 refine AO.nil ?_
 exact ⟨_, _, _, I, ⟨I, I⟩, ⟨I, I, I, I, J⟩, [0], I, by decide⟩
 rintro p s ob ⟨rfl, rfl⟩ he
 subst he
 have h := se_l n
 have U : decide (((a.length : Nat) : Int) < (a.length : Int)) = false := by simp
 refine AW.z I (AW.seqG (fun ar au => (AW.condK (v := false) I U (AW.exit ?_))))
 exact lg ⟨(), h, I, I⟩ [0]
 rintro s ob ⟨j, h, rfl, rfl⟩
 unfold L.zjfe.J1 at h
 refine AW.cutX (fun s ob => ∃ (t : Unit), L.zjfe.J2 t = some r ∧ s = [] ∧ ob = []) [] J ?_ ?_
 refine AW.zr [.l 1 (a.length : Int)] I ⟨len_m, J⟩ (AW.block (AW.listMax 31 I (fun i => ?_)))
 replace i : a.length ≤ 9223372036854775806 := by rw [List.length_map] at i; omega
 obtain ⟨av, W, u⟩ := ob_some h
 clear h
 refine AW.forX W [(1, _), (2, _), (32, _)] ⟨I, I, I, J⟩ (fun (e : Nat) (w : Unit) s ob => s = [(33, .V (e : Int))] ∧ ob = [.arr f 32 6 1 [Network.row b]]) ⟨I, I⟩ ⟨I, J⟩ ⟨[0], I, by decide⟩ ?_ ?_
 rintro e X w aw s ob Y Z ⟨rfl, rfl⟩ h aa
 unfold L.zjfe.B3 at h
 have ab : decide ((e : Int) < (a.length : Int)) = true := decide_eq_true (by omega)
 refine AW.z I (AW.seqG (fun ax ac => (AW.condK (v := true) I ab (AW.skip ?_))))
 subst ac
 refine AW.seq (AW.block (AW.z I (AW.seq ?_)))
 obtain ⟨ay, ad, h⟩ := ob_some h
 obtain ⟨y, ae, h⟩ := ob_some h
 obtain ⟨af, ag⟩ := ix_some ae
 refine AW.rd (.still 0 (.still 1 (.still 2 (.still 3 (.still 5 (.still 6 (.still 7 (.still 8 (.still 9 (.still 10 (.act 4 (.still 11 .nil)))))))))))) [0] [_] I (AP.r 10 [.x 2 e ((rL 2 Piece.row) X), .o 5 0, .x 7 y.1 (Segment.row y.2)] I ⟨⟨af, map_get ag⟩, I, ⟨I, map_get Y⟩, J⟩ (AP.c I (L.zwqi_ok _ _ ad) (AP.q 1 I (AP.ofAO (AO.nil (AW.ch h I ?_ ?_))))))
 intro ah h
 refine AW.z I ?_
 obtain rfl := aa _ (oi h).symm
 replace h := u
 replace h := se_r h
 refine AW.ghost g0 ?_
 obtain rfl := oi h
 exact AW.ret pr
 intro ah h
 refine AW.skip (AW.region (AO.r 2 [.k 0 (e + 1 : Nat)] I ⟨cast_wr Z i, J⟩ ?_))
 obtain rfl := oi h
 refine AO.nil ?_
 exact ⟨_, _, _, I, ⟨I, I⟩, ⟨I, I, I, I, J⟩, [0], I, by decide⟩
 rintro w s ob ⟨rfl, rfl⟩ he
 subst he
 have h := se_l u
 have ai : decide (((a.length : Nat) : Int) < (a.length : Int)) = false := by simp
 refine AW.z I (AW.seqG (fun az a0 => (AW.condK (v := false) I ai (AW.exit ?_))))
 exact lg ⟨(), h, I, I⟩ []
 rintro s ob ⟨t, h, rfl, rfl⟩
 unfold L.zjfe.J2 at h
 refine AW.z I ?_
 obtain rfl := oi h
 exact AW.ret pr
end Go.Proofs.YtaliejncdnegeaaGreat
