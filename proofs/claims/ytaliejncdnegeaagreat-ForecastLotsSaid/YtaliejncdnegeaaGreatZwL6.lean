/- Walks that show what functions of the program compute; printed by a program of ours. No condition. -/
import Derived.Test.YtaliejncdnegeaaGreatZwL2
import Derived.Test.YtaliejncdnegeaaGreatZwD
set_option maxRecDepth 100000
namespace Go.Proofs.YtaliejncdnegeaaGreat
open Go.Aw
set_option linter.unusedVariables false
set_option linter.unusedSimpArgs false
set_option maxHeartbeats 4000000
theorem L.zmae_ok (a : Int) (c : Int) (d : Int) (r : Bool) (h : L.zmae a c d = r) : ACalls Tryz.env 84 [.V a, .V c, .V d] [] (fun x new => x = .v (.bool r) ∧ new = []) := by
 refine ACalls.of_body Tryz.func84 rfl rfl rfl (fun C hC => ?_)
 unfold L.zmae at h
 refine AW.z I (AW.cutX (fun s ob => s = [(6, .v (.bool (decide (a ≥ c) && decide (a ≤ d))))] ∧ ob = []) [] J ?_ ?_)
 refine AW.region (AO.q 4 I ?_)
 rcases bt (decide (a ≥ c)) with b | b
 refine AO.known 10 I b (AO.q 5 I (AO.nil ?_))
 exact lf ⟨I, I⟩ ⟨(get_b (by simp only [b, bz])), J⟩ [] I
 refine AO.known 10 I b (AO.q 5 I (AO.nil ?_))
 exact lf ⟨I, I⟩ ⟨(get_b (by simp only [b, bz])), J⟩ [] I
 rintro s ob ⟨rfl, rfl⟩
 obtain rfl := h
 exact AW.ret pr
theorem L.zghg_ok (a : Network) (r : Arr (List ByteArray) 4) (h : L.zghg a = some r) : ACalls Tryz.env 85 [.agg (Network.row a)] [] (fun x new => x = .agg (r.l.map (cL 1 rS)) ∧ new = []) := by
 refine ACalls.of_body Tryz.func85 rfl rfl rfl (fun C hC => ?_)
 unfold L.zghg at h
 refine AW.seqG (fun y1 U => (AW.region (AO.act [] I (AX.box (cs := Network.row a) (m := 6) I I I dS (fun A => (AO.act [] I (AX.alloc (cs := [.N, .N, .N, .N]) (m := 4) I I I I I dS (fun f => (AO.nil ?_)))))))))
 subst U
 refine AW.seqG (fun y4 W => (AW.region (AO.act [] I (AX.alloc (cs := [.N, .N, .N, .N]) (m := 4) I I I I I dS (fun i => (AO.nil ?_))))))
 subst W
 refine AW.seqG (fun y6 X => (AW.region (AO.r 2 [.o 1 0] I ⟨I, J⟩ (AO.p (Yp.indexA (m := 0) I I I I I I (le_ble I)) I (AO.act [2] I (AX.store 2 0 0 (es' := [[.list 1 (a.Nodes.map rS), .N, .N, .N]]) I I I I I I I I (le_ble I) I I (AO.nil ?_)))))))
 subst X
 refine AW.cutX (fun s ob => ∃ (c : List ByteArray) (b : Value), L.zghg.J1 a c = some r ∧ s = [] ∧ ob = [.arr A 32 6 1 [Network.row a], .arr f 120 4 1 [[.N, .N, .N, .N]], .arr i 120 4 1 [[.list 1 (a.Nodes.map rS), .v b, .N, .N]], .us b 9 1 (c.map rS)]) [(1, _), (2, _), (3, _)] ⟨I, I, I, J⟩ ?_ ?_
 refine AW.zr [.o 1 0, .l 2 (a.Segments.length : Int)] I ⟨len_m, I, J⟩ (AW.block (AW.listMax 14 I (fun F => ?_)))
 replace F : a.Segments.length ≤ 9223372036854775806 := by rw [List.length_map] at F; omega
 refine AW.ghost (Ghost.nilU 9 1) ?_
 obtain ⟨a5, Y, Z⟩ := ob_some h
 clear h
 refine AW.forY Y [(1, _), (2, _), (3, _), (14, _), (15, _)] ⟨I, I, I, I, I, J⟩ (fun (j : Nat) (B : List ByteArray) s ob => ∃ (n : Value), s = [(16, .V (j : Int))] ∧ ob = [.arr A 32 6 1 [Network.row a], .arr f 120 4 1 [[.N, .N, .N, .N]], .arr i 120 4 1 [[.list 1 (a.Nodes.map rS), .v n, .N, .N]], .us n 9 1 (B.map rS)]) ⟨(.slice none 0 0), I, I⟩ ⟨I, J⟩ ⟨[0, 1, 2, 3], I, by decide⟩ ?_ ?_
 rintro j G B a6 s ob aa ab ⟨n, rfl, rfl⟩ h
 unfold L.zghg.B6 at h
 have ac : decide ((j : Int) < (a.Segments.length : Int)) = true := decide_eq_true (by omega)
 refine AW.z I (AW.seqG (fun a7 ad => (AW.condK (v := true) I ac (AW.skip ?_))))
 subst ad
 refine AW.seq (AW.block (AW.seq (AW.region (AO.r 2 [.x 0 j (Segment.row G)] I ⟨⟨I, map_get aa⟩, J⟩ (AO.act [] I (AX.alloc (cs := [.v (.string ⟨#[]⟩), .V 0, .V 0, .V 0, .V 0, .V 0, .N]) (m := 7) I I I I I dS (fun a8 => (AO.act [4] I (AX.store 4 0 0 (es' := [Segment.row G]) I I I I I I I I (le_ble I) I I (AO.nil ?_))))))))))
 obtain ⟨a9, ae, h⟩ := ob_some h
 refine AW.region (AO.p (Yp.indexA (m := 1) I I I I I I (le_ble I)) I (AO.r 3 [.o 0 2, .o 2 4] I ⟨I, I, J⟩ (AO.act [] I (AX.lt 1 (([G.Name] : List ByteArray).map rS) (AO.act [3] I (AX.ap 3 I ae (fun Q => (AO.p (Yp.indexA (m := 1) I I I I I I (le_ble I)) I (AO.one 3 I (fun af => (AO.act [2] I (AX.store 2 0 1 (es' := [[.list 1 (a.Nodes.map rS), .v Q, .N, .N]]) I I I I I I (cells_v af) I (le_ble I) I I (AO.nil (AW.region (AO.r 2 [.k 0 (j + 1 : Nat)] I ⟨cast_wr ab F, J⟩ ?_)))))))))))))))
 obtain rfl := oi h
 refine AO.nil ?_
 exact lg ⟨Q, I, I⟩ [0, 1, 2, 3]
 rintro B s ob ⟨n, rfl, rfl⟩ he
 subst he
 have h := Z
 have ag : decide (((a.Segments.length : Nat) : Int) < (a.Segments.length : Int)) = false := by simp
 refine AW.z I (AW.seqG (fun ba bb => (AW.condK (v := false) I ag (AW.exit ?_))))
 exact lg ⟨B, n, h, I, I⟩ [0, 1, 2, 3]
 rintro s ob ⟨c, b, h, rfl, rfl⟩
 unfold L.zghg.J1 at h
 refine AW.cutX (fun s ob => ∃ (d : List ByteArray) (e : Value), L.zghg.J2 a c d = some r ∧ s = [] ∧ ob = [.arr A 32 6 1 [Network.row a], .arr f 120 4 1 [[.N, .N, .N, .N]], .arr i 120 4 1 [[.list 1 (a.Nodes.map rS), .v b, .v e, .N]], .us b 9 1 (c.map rS), .us e 9 1 (d.map rS)]) [(1, _), (2, _), (3, _)] ⟨I, I, I, J⟩ ?_ ?_
 refine AW.zr [.o 1 0, .l 2 (a.Ports.length : Int)] I ⟨len_m, I, J⟩ (AW.block (AW.listMax 29 I (fun H => ?_)))
 replace H : a.Ports.length ≤ 9223372036854775806 := by rw [List.length_map] at H; omega
 refine AW.ghost (Ghost.nilU 9 1) ?_
 obtain ⟨bc, ah, ai⟩ := ob_some h
 clear h
 refine AW.forY ah [(1, _), (2, _), (3, _), (29, _), (30, _)] ⟨I, I, I, I, I, J⟩ (fun (q : Nat) (D : List ByteArray) s ob => ∃ (t : Value), s = [(31, .V (q : Int))] ∧ ob = [.arr A 32 6 1 [Network.row a], .arr f 120 4 1 [[.N, .N, .N, .N]], .arr i 120 4 1 [[.list 1 (a.Nodes.map rS), .v b, .v t, .N]], .us b 9 1 (c.map rS), .us t 9 1 (D.map rS)]) ⟨(.slice none 0 0), I, I⟩ ⟨I, J⟩ ⟨[0, 1, 2, 3, 4], I, by decide⟩ ?_ ?_
 rintro q M D bd s ob aj ak ⟨t, rfl, rfl⟩ h
 unfold L.zghg.B5 at h
 have al : decide ((q : Int) < (a.Ports.length : Int)) = true := decide_eq_true (by omega)
 refine AW.z I (AW.seqG (fun be am => (AW.condK (v := true) I al (AW.skip ?_))))
 subst am
 refine AW.seq (AW.block (AW.seq (AW.region (AO.r 2 [.x 0 q (Port.row M)] I ⟨⟨I, map_get aj⟩, J⟩ (AO.act [] I (AX.alloc (cs := [.v (.string ⟨#[]⟩), .V 0, .V 0]) (m := 3) I I I I I dS (fun bf => (AO.act [5] I (AX.store 5 0 0 (es' := [Port.row M]) I I I I I I I I (le_ble I) I I (AO.nil ?_))))))))))
 obtain ⟨bg, an, h⟩ := ob_some h
 refine AW.region (AO.p (Yp.indexA (m := 2) I I I I I I (le_ble I)) I (AO.r 3 [.o 0 2, .o 2 5] I ⟨I, I, J⟩ (AO.act [] I (AX.lt 1 (([M.Name] : List ByteArray).map rS) (AO.act [4] I (AX.ap 4 I an (fun R => (AO.p (Yp.indexA (m := 2) I I I I I I (le_ble I)) I (AO.one 4 I (fun ao => (AO.act [2] I (AX.store 2 0 2 (es' := [[.list 1 (a.Nodes.map rS), .v b, .v R, .N]]) I I I I I I (cells_v ao) I (le_ble I) I I (AO.nil (AW.region (AO.r 2 [.k 0 (q + 1 : Nat)] I ⟨cast_wr ak H, J⟩ ?_)))))))))))))))
 obtain rfl := oi h
 refine AO.nil ?_
 exact lg ⟨R, I, I⟩ [0, 1, 2, 3, 4]
 rintro D s ob ⟨t, rfl, rfl⟩ he
 subst he
 have h := ai
 have aq : decide (((a.Ports.length : Nat) : Int) < (a.Ports.length : Int)) = false := by simp
 refine AW.z I (AW.seqG (fun bh bi => (AW.condK (v := false) I aq (AW.exit ?_))))
 exact lg ⟨D, t, h, I, I⟩ [0, 1, 2, 3, 4]
 rintro s ob ⟨d, e, h, rfl, rfl⟩
 unfold L.zghg.J2 at h
 refine AW.cutX (fun s ob => ∃ (g : List ByteArray) (u : Value), L.zghg.J3 a c d g = some r ∧ s = [] ∧ ob = [.arr f 120 4 1 [[.N, .N, .N, .N]], .arr i 120 4 1 [[.list 1 (a.Nodes.map rS), .v b, .v e, .v u]], .us b 9 1 (c.map rS), .us e 9 1 (d.map rS), .us u 9 1 (g.map rS)]) [(2, _), (3, _)] ⟨I, I, J⟩ ?_ ?_
 refine AW.zr [.o 1 0, .l 2 (a.Stations.length : Int)] I ⟨len_m, I, J⟩ (AW.block (AW.listMax 44 I (fun O => ?_)))
 replace O : a.Stations.length ≤ 9223372036854775806 := by rw [List.length_map] at O; omega
 refine AW.ghost (Ghost.nilU 9 1) ?_
 obtain ⟨bj, ar, au⟩ := ob_some h
 clear h
 refine AW.forY ar [(2, _), (3, _), (44, _), (45, _)] ⟨I, I, I, I, J⟩ (fun (w : Nat) (E : List ByteArray) s ob => ∃ (y : Value), s = [(46, .V (w : Int))] ∧ ob = [.arr f 120 4 1 [[.N, .N, .N, .N]], .arr i 120 4 1 [[.list 1 (a.Nodes.map rS), .v b, .v e, .v y]], .us b 9 1 (c.map rS), .us e 9 1 (d.map rS), .us y 9 1 (E.map rS)]) ⟨(.slice none 0 0), I, I⟩ ⟨I, J⟩ ⟨[1, 2, 3, 4, 5], I, by decide⟩ ?_ ?_
 rintro w P E bk s ob av aw ⟨y, rfl, rfl⟩ h
 unfold L.zghg.B4 at h
 have ax : decide ((w : Int) < (a.Stations.length : Int)) = true := decide_eq_true (by omega)
 refine AW.z I (AW.seqG (fun bl ay => (AW.condK (v := true) I ax (AW.skip ?_))))
 subst ay
 refine AW.seq (AW.block (AW.seq (AW.region (AO.r 2 [.x 0 w (Station.row P)] I ⟨⟨I, map_get av⟩, J⟩ (AO.act [] I (AX.alloc (cs := [.v (.string ⟨#[]⟩), .V 0, .V 0, .V 0, .V 0]) (m := 5) I I I I I dS (fun bm => (AO.act [5] I (AX.store 5 0 0 (es' := [Station.row P]) I I I I I I I I (le_ble I) I I (AO.nil ?_))))))))))
 obtain ⟨bn, az, h⟩ := ob_some h
 refine AW.region (AO.p (Yp.indexA (m := 3) I I I I I I (le_ble I)) I (AO.r 3 [.o 0 1, .o 2 5] I ⟨I, I, J⟩ (AO.act [] I (AX.lt 1 (([P.Name] : List ByteArray).map rS) (AO.act [4] I (AX.ap 4 I az (fun S => (AO.p (Yp.indexA (m := 3) I I I I I I (le_ble I)) I (AO.one 4 I (fun a0 => (AO.act [1] I (AX.store 1 0 3 (es' := [[.list 1 (a.Nodes.map rS), .v b, .v e, .v S]]) I I I I I I (cells_v a0) I (le_ble I) I I (AO.nil (AW.region (AO.r 2 [.k 0 (w + 1 : Nat)] I ⟨cast_wr aw O, J⟩ ?_)))))))))))))))
 obtain rfl := oi h
 refine AO.nil ?_
 exact lg ⟨S, I, I⟩ [0, 1, 2, 3, 4]
 rintro E s ob ⟨y, rfl, rfl⟩ he
 subst he
 have h := au
 have a1 : decide (((a.Stations.length : Nat) : Int) < (a.Stations.length : Int)) = false := by simp
 refine AW.z I (AW.seqG (fun bo bp => (AW.condK (v := false) I a1 (AW.exit ?_))))
 exact lg ⟨E, y, h, I, I⟩ [0, 1, 2, 3, 4]
 rintro s ob ⟨g, u, h, rfl, rfl⟩
 unfold L.zghg.J3 at h
 refine AW.seq (AW.region (AO.r 1 [.o 0 1] I ⟨I, J⟩ (AO.act [0] I (AX.store 0 0 0 (es' := [[.list 1 (a.Nodes.map rS), .v b, .v e, .v u]]) I I I I I I I I (le_ble I) I I (AO.nil (AW.ghost (Ghost.freeze [2, 3, 4] (K := [.us b 9 1 (c.map rS), .us e 9 1 (d.map rS), .us u 9 1 (g.map rS)]) I [(58, .agg [.list 1 (a.Nodes.map rS), .list 1 (c.map rS), .list 1 (d.map rS), .list 1 (g.map rS)])] ⟨⟨_, I, .agg (.cons (.refl _) (.cons (.us 0 I) (.cons (.us 1 I) (.cons (.us 2 I) (.rest _)))))⟩, J⟩ (ob' := [.arr f 120 4 1 [[.list 1 (a.Nodes.map rS), .list 1 (c.map rS), .list 1 (d.map rS), .list 1 (g.map rS)]], .arr i 120 4 1 [[.list 1 (a.Nodes.map rS), .list 1 (c.map rS), .list 1 (d.map rS), .list 1 (g.map rS)]]]) (.cons (.arr (.cons (.refl _) (.cons (.us 0 I) (.cons (.us 1 I) (.cons (.us 2 I) (.rest _)))))) (.cons (.arr (.cons (.refl _) (.cons (.us 0 I) (.cons (.us 1 I) (.cons (.us 2 I) (.rest _)))))) (.rest _)))) (AW.ghost (Ghost.pick [0] (K := [.arr f 120 4 1 [[.list 1 (a.Nodes.map rS), .list 1 (c.map rS), .list 1 (d.map rS), .list 1 (g.map rS)]]]) I (by decide)) ?_)))))))
 obtain rfl := oi h
 exact AW.ret ⟨.inr I, [_], [], ⟨⟨0, _, _, _, _, _, _, _, I, I, I, I, I⟩, J⟩, sl_n, I, I⟩
theorem L.zgmr_ok (g : ByteArray) (r : Bool) (h : L.zgmr g = some r) : ACalls Tryz.env 86 [.v (.string g)] [] (fun x new => x = .v (.bool r) ∧ new = []) := by
 refine ACalls.of_body Tryz.func86 rfl rfl rfl (fun C hC => ?_)
 unfold L.zgmr at h
 refine AW.z I (AW.seqG (fun X M => (AW.cutX (fun s ob => ∃ (y : Bool), L.zgmr.J1 g y = some r ∧ s = [(21, .v (.bool y))] ∧ ob = []) [(0, _)] ⟨I, J⟩ ?_ ?_)))
 refine AW.region (AO.q 4 I ?_)
 rcases bt (decide ((g.size : Int) < 1)) with i | i
 replace h := ife_t i h
 refine AO.known 7 I i (AO.q 14 I (AO.nil ?_))
 exact lg ⟨true, h, I, I⟩ []
 replace h := ife_f i h
 refine AO.known 7 I i ?_
 rcases bt (decide ((g.size : Int) > 12)) with j | j
 replace h := ife_t j h
 refine AO.q 5 I (AO.known 12 I j (AO.q 9 I (AO.nil ?_)))
 exact lg ⟨true, h, I, I⟩ []
 replace h := ife_f j h
 obtain ⟨f, N, h⟩ := ob_some h
 obtain ⟨D, E, F⟩ := ixs_some N
 refine AO.q 5 I (AO.known 12 I j (AO.q 1 I (AO.gt I I I (AO.p (Yp.indexStrX (m := f.1) I I I I D E F) I (AO.gt I I I (AO.p (Yp.cmpI (c := decide (f.2 < 97)) I I I) I (AO.q 2 I ?_)))))))
 rcases bt (decide (f.2 < 97)) with k | k
 replace h := ife_t k h
 refine AO.known 17 I k (AO.q 4 I (AO.nil ?_))
 exact lg ⟨true, h, I, I⟩ []
 replace h := ife_f k h
 refine AO.known 17 I k (AO.q 1 I (AO.gt I I I (AO.p (Yp.indexStrX (m := f.1) I I I I D E F) I (AO.gt I I I (AO.p (Yp.cmpI (c := decide (f.2 > 122)) I I I) I (AO.q 1 I (AO.nil ?_)))))))
 exact lg ⟨decide (f.2 > 122), h, I, I⟩ []
 rintro s ob ⟨y, h, rfl, rfl⟩
 unfold L.zgmr.J1 at h
 refine AW.ch h I ?_ ?_
 intro O h
 refine AW.z I ?_
 obtain rfl := oi h
 exact AW.ret pr
 intro O h
 refine AW.skip ?_
 subst M
 refine AW.cutX (fun s ob => ∃ (G : Unit), L.zgmr.J2 G = some r ∧ s = [] ∧ ob = []) [] J ?_ ?_
 refine AW.z I (AW.block ?_)
 obtain ⟨Y, P, H⟩ := ob_some h
 clear h
 refine AW.loopX P [(0, _)] ⟨I, J⟩ (fun (A : Int) s ob => s = [(3, .V A)] ∧ ob = []) ⟨I, I⟩ ⟨I, J⟩ ⟨[], I, by decide⟩ ?_
 rintro A Q s ob ⟨rfl, rfl⟩ h K
 unfold L.zgmr.B3 at h
 refine AW.seqG (fun Z R => (AW.z I (AW.ch h I ?_ ?_)))
 intro S h
 refine AW.skip ?_
 subst R
 refine AW.seq (AW.block (AW.cutX (fun s ob => ∃ (B : Bool), L.zgmr.J4 A B = some Q ∧ s = [(55, .v (.bool B))] ∧ ob = []) [(0, _), (3, _)] ⟨I, I, J⟩ ?_ ?_))
 obtain ⟨a, U, h⟩ := ob_some h
 obtain ⟨b, d, e⟩ := ixs_some U
 refine AW.region (AO.q 2 I (AO.p (Yp.indexStrX (m := a.1) I I I I b d e) I (AO.p (Yp.cmpI (c := decide (a.2 < 97)) I I I) I (AO.q 1 I ?_))))
 rcases bt (decide (a.2 < 97)) with l | l
 replace h := ife_t l h
 refine AO.known 32 I l (AO.q 8 I (AO.gt I I I (AO.p (Yp.indexStrX (m := a.1) I I I I b d e) I (AO.gt I I I (AO.p (Yp.cmpI (c := decide (a.2 < 48)) I I I) I (AO.q 1 I ?_))))))
 rcases bt (decide (a.2 < 48)) with n | n
 replace h := ife_t n h
 refine AO.known 43 I n (AO.q 9 I (AO.gt I I I (AO.p (Yp.indexStrX (m := a.1) I I I I b d e) I (AO.gt I I I (AO.p (Yp.cmpI (c := (a.2 != 45)) I I I) I (AO.q 1 I (AO.nil ?_)))))))
 exact lg ⟨(a.2 != 45), h, I, I⟩ []
 replace h := ife_f n h
 refine AO.known 43 I n (AO.q 2 I (AO.gt I I I (AO.p (Yp.indexStrX (m := a.1) I I I I b d e) I (AO.gt I I I (AO.p (Yp.cmpI (c := decide (a.2 > 57)) I I I) I (AO.q 3 I ?_))))))
 rcases bt (decide (a.2 > 57)) with o | o
 replace h := ife_t o h
 refine AO.known 50 I o (AO.q 2 I (AO.gt I I I (AO.p (Yp.indexStrX (m := a.1) I I I I b d e) I (AO.gt I I I (AO.p (Yp.cmpI (c := (a.2 != 45)) I I I) I (AO.q 1 I (AO.nil ?_)))))))
 exact lg ⟨(a.2 != 45), h, I, I⟩ []
 replace h := ife_f o h
 refine AO.known 50 I o (AO.q 5 I (AO.nil ?_))
 exact lg ⟨false, h, I, I⟩ []
 replace h := ife_f l h
 refine AO.known 32 I l (AO.q 2 I (AO.gt I I I (AO.p (Yp.indexStrX (m := a.1) I I I I b d e) I (AO.gt I I I (AO.p (Yp.cmpI (c := decide (a.2 > 122)) I I I) I (AO.q 2 I ?_))))))
 rcases bt (decide (a.2 > 122)) with t | t
 replace h := ife_t t h
 refine AO.known 38 I t (AO.q 2 I (AO.gt I I I (AO.p (Yp.indexStrX (m := a.1) I I I I b d e) I (AO.gt I I I (AO.p (Yp.cmpI (c := decide (a.2 < 48)) I I I) I (AO.q 1 I ?_))))))
 rcases bt (decide (a.2 < 48)) with u | u
 replace h := ife_t u h
 refine AO.known 43 I u (AO.q 9 I (AO.gt I I I (AO.p (Yp.indexStrX (m := a.1) I I I I b d e) I (AO.gt I I I (AO.p (Yp.cmpI (c := (a.2 != 45)) I I I) I (AO.q 1 I (AO.nil ?_)))))))
 exact lg ⟨(a.2 != 45), h, I, I⟩ []
 replace h := ife_f u h
 refine AO.known 43 I u (AO.q 2 I (AO.gt I I I (AO.p (Yp.indexStrX (m := a.1) I I I I b d e) I (AO.gt I I I (AO.p (Yp.cmpI (c := decide (a.2 > 57)) I I I) I (AO.q 3 I ?_))))))
 rcases bt (decide (a.2 > 57)) with w | w
 replace h := ife_t w h
 refine AO.known 50 I w (AO.q 2 I (AO.gt I I I (AO.p (Yp.indexStrX (m := a.1) I I I I b d e) I (AO.gt I I I (AO.p (Yp.cmpI (c := (a.2 != 45)) I I I) I (AO.q 1 I (AO.nil ?_)))))))
 exact lg ⟨(a.2 != 45), h, I, I⟩ []
 replace h := ife_f w h
 refine AO.known 50 I w (AO.q 5 I (AO.nil ?_))
 exact lg ⟨false, h, I, I⟩ []
 replace h := ife_f t h
 refine AO.known 38 I t (AO.q 5 I (AO.skipU I I dS (AO.skipU I I dS (AO.skipU I I dS (AO.skipU I I dS (AO.q 8 I (AO.nil ?_)))))))
 exact lg ⟨false, h, I, I⟩ []
 rintro s ob ⟨B, h, rfl, rfl⟩
 unfold L.zgmr.J4 at h
 refine AW.ch h I ?_ ?_
 intro W h
 refine AW.z I ?_
 obtain rfl := K _ (oi h).symm
 replace h := H
 replace h := se_l h
 obtain rfl := oi h
 exact AW.ret pr
 intro W h
 refine AW.skip (AW.region (AO.q 3 I ?_))
 obtain rfl := oi h
 refine AO.nil ?_
 exact ⟨_, _, _, I, ⟨I, I⟩, ⟨I, I, J⟩, [], I, by decide⟩
 intro S h
 obtain rfl := K _ (oi h).symm
 replace h := H
 replace h := se_r h
 refine AW.exit ?_
 exact lg ⟨(), h, I, I⟩ []
 rintro s ob ⟨G, h, rfl, rfl⟩
 unfold L.zgmr.J2 at h
 refine AW.z I ?_
 obtain rfl := oi h
 exact AW.ret pr
theorem L.zaag_ok (a : List ByteArray) (r : Bool) (h : L.zaag a = some r) : ACalls Tryz.env 87 [.list 1 (a.map rS)] [] (fun x new => x = .v (.bool r) ∧ new = []) := by
 refine ACalls.of_body Tryz.func87 rfl rfl rfl (fun C hC => ?_)
 unfold L.zaag at h
 refine AW.z I (AW.cutX (fun s ob => ∃ (f : Unit), L.zaag.J1 f = some r ∧ s = [] ∧ ob = []) [] J ?_ ?_)
 refine AW.zr [.l 1 (a.length : Int)] I ⟨len_m, J⟩ (AW.block (AW.listMax 5 I (fun d => ?_)))
 replace d : a.length ≤ 9223372036854775806 := by rw [List.length_map] at d; omega
 obtain ⟨P, t, g⟩ := ob_some h
 clear h
 refine AW.forX t [(0, _), (6, _)] ⟨I, I, J⟩ (fun (b : Nat) (i : Unit) s ob => s = [(7, .V (b : Int))] ∧ ob = []) ⟨I, I⟩ ⟨I, J⟩ ⟨[], I, by decide⟩ ?_ ?_
 rintro b j i u s ob w y ⟨rfl, rfl⟩ h A
 unfold L.zaag.B2 at h
 have B : decide ((b : Int) < (a.length : Int)) = true := decide_eq_true (by omega)
 refine AW.z I (AW.seqG (fun Q D => (AW.condK (v := true) I B (AW.skip ?_))))
 subst D
 refine AW.cutX (fun s ob => ∃ (m : Unit), L.zaag.J3 m = some u ∧ s = [] ∧ ob = []) [(0, _), (6, _), (7, _)] ⟨I, I, I, J⟩ ?_ ?_
 refine AW.block (AW.z I (AW.z I (AW.block ?_)))
 obtain ⟨R, E, n⟩ := ob_some h
 clear h
 refine AW.loopX E [(0, _), (3, _), (6, _), (7, _)] ⟨I, I, I, I, J⟩ (fun (o : Int) s ob => s = [(4, .V o)] ∧ ob = []) ⟨I, I⟩ ⟨I, J⟩ ⟨[], I, by decide⟩ ?_
 rintro o S s ob ⟨rfl, rfl⟩ h p
 unfold L.zaag.B4 at h
 refine AW.seqG (fun U F => (AW.z I (AW.ch h I ?_ ?_)))
 intro G h
 refine AW.skip ?_
 subst F
 refine AW.seq (AW.block (AW.seq ?_))
 obtain ⟨e, H, h⟩ := ob_some h
 obtain ⟨K, M⟩ := ix_some H
 refine AW.rd (pd 9 0 []) [] [] I (AP.r 8 [.x 2 b (rS j), .x 6 e.1 (rS e.2)] I ⟨⟨K, map_get M⟩, ⟨I, map_get w⟩, J⟩ (AP.op I (Yp.cmpS (c := sEq j e.2) I I I) I (AP.ofAO (AO.nil (AW.ch h I ?_ ?_)))))
 intro N h
 refine AW.z I ?_
 obtain rfl := p _ (oi h).symm
 replace h := n
 replace h := se_l h
 obtain rfl := A _ (oi h).symm
 replace h := g
 replace h := se_r h
 obtain rfl := oi h
 exact AW.ret pr
 intro N h
 refine AW.skip (AW.region (AO.q 3 I ?_))
 obtain rfl := oi h
 refine AO.nil ?_
 exact ⟨_, _, _, I, ⟨I, I⟩, ⟨I, I, I, I, I, J⟩, [], I, by decide⟩
 intro G h
 obtain rfl := p _ (oi h).symm
 replace h := n
 replace h := se_r h
 refine AW.exit ?_
 exact lg ⟨(), h, I, I⟩ []
 rintro s ob ⟨m, h, rfl, rfl⟩
 unfold L.zaag.J3 at h
 refine AW.region (AO.r 2 [.k 0 (b + 1 : Nat)] I ⟨cast_wr y d, J⟩ ?_)
 obtain rfl := oi h
 refine AO.nil ?_
 exact ⟨_, _, _, I, ⟨I, I⟩, ⟨I, I, I, J⟩, [], I, by decide⟩
 rintro i s ob ⟨rfl, rfl⟩ he
 subst he
 have h := se_l g
 have O : decide (((a.length : Nat) : Int) < (a.length : Int)) = false := by simp
 refine AW.z I (AW.seqG (fun W X => (AW.condK (v := false) I O (AW.exit ?_))))
 exact lg ⟨(), h, I, I⟩ []
 rintro s ob ⟨f, h, rfl, rfl⟩
 unfold L.zaag.J1 at h
 refine AW.z I ?_
 obtain rfl := oi h
 exact AW.ret pr
theorem L.zimi_ok (a : Segment) (r : Bool) (h : L.zimi a = some r) : ACalls Tryz.env 88 [.agg (Segment.row a)] [] (fun x new => x = .v (.bool r) ∧ new = []) := by
 refine ACalls.of_body Tryz.func88 rfl rfl rfl (fun C hC => ?_)
 unfold L.zimi at h
 refine AW.seqG (fun y1 K => (AW.region (AO.act [] I (AX.box (cs := Segment.row a) (m := 7) I I I dS (fun u => (AO.q 1 I (AO.nil ?_)))))))
 subst K
 refine AW.seqG (fun y3 M => (AW.cutX (fun s ob => ∃ (w : Bool), L.zimi.J1 a w = some r ∧ s = [(49, .v (.bool w))] ∧ ob = [.arr u 39 7 1 [Segment.row a]]) [(1, _)] ⟨I, J⟩ ?_ ?_))
 refine AW.rd (pd 45 0 [8, 14, 20]) [0] [_] I (AP.r 6 [.o 1 0, .o 3 0] I ⟨I, I, J⟩ ?_)
 rcases bt ((a.From == a.To)) with d | d
 replace h := ife_t d h
 refine AP.known 10 I d (AP.q 39 I (AP.ofAO (AO.nil ?_)))
 exact lg ⟨true, h, I, I⟩ [0]
 replace h := ife_f d h
 refine AP.known 10 I d (AP.r 2 [.o 1 0] I ⟨I, J⟩ (AP.cG I (L.zmae_ok a.Capacity 1 1000000 _ I) (AP.q 3 I ?_)))
 rcases bt ((!(L.zmae a.Capacity 1 1000000))) with e | e
 replace h := ife_t e h
 refine AP.known 16 I e (AP.q 33 I (AP.ofAO (AO.nil ?_)))
 exact lg ⟨true, h, I, I⟩ [0]
 replace h := ife_f e h
 refine AP.known 16 I e (AP.r 2 [.o 1 0] I ⟨I, J⟩ (AP.cG I (L.zmae_ok a.Resist 0 1000 _ I) (AP.q 3 I ?_)))
 rcases bt ((!(L.zmae a.Resist 0 1000))) with f | f
 replace h := ife_t f h
 refine AP.known 22 I f (AP.q 27 I (AP.ofAO (AO.nil ?_)))
 exact lg ⟨true, h, I, I⟩ [0]
 replace h := ife_f f h
 refine AP.known 22 I f (AP.r 2 [.o 1 0] I ⟨I, J⟩ (AP.cG I (L.zmae_ok a.Wave 0 100000 _ I) (AP.q 3 I ?_)))
 rcases bt ((!(L.zmae a.Wave 0 100000))) with g | g
 replace h := ife_t g h
 refine AP.known 28 I g (AP.q 21 I (AP.ofAO (AO.nil ?_)))
 exact lg ⟨true, h, I, I⟩ [0]
 replace h := ife_f g h
 obtain ⟨y, N, h⟩ := ob_some h
 obtain ⟨O, P⟩ := ix_some N
 refine AP.known 28 I g (AP.r 8 [.o 1 0, .x 2 y.1 (Point.row y.2)] I ⟨⟨O, map_get P⟩, I, J⟩ ?_)
 rcases bt ((y.2.At != 0)) with i | i
 replace h := ife_t i h
 refine AP.known 36 I i (AP.q 13 I (AP.ofAO (AO.nil ?_)))
 exact lg ⟨true, h, I, I⟩ [0]
 replace h := ife_f i h
 obtain ⟨A, Q, h⟩ := ob_some h
 obtain ⟨R, S⟩ := ix_some Q
 refine AP.known 36 I i (AP.r 13 [.o 1 0, .o 3 0, .l 4 (a.Points.length : Int), .x 6 A.1 (Point.row A.2), .o 10 0] I ⟨I, ⟨R, map_get S⟩, len_m, I, I, J⟩ (AP.ofAO (AO.nil ?_)))
 exact lg ⟨(A.2.At != a.Capacity), h, I, I⟩ [0]
 rintro s ob ⟨w, h, rfl, rfl⟩
 unfold L.zimi.J1 at h
 refine AW.ch h I ?_ ?_
 intro U h
 refine AW.z I (AW.ghost g0 ?_)
 obtain rfl := oi h
 exact AW.ret pr
 intro U h
 refine AW.skip ?_
 subst M
 refine AW.cutX (fun s ob => ∃ (F : Unit), L.zimi.J2 F = some r ∧ s = [] ∧ ob = []) [] J ?_ ?_
 refine AW.zr [.o 1 0, .l 2 (a.Points.length : Int)] I ⟨len_m, I, J⟩ (AW.block (AW.listMax 51 I (fun B => ?_)))
 replace B : a.Points.length ≤ 9223372036854775806 := by rw [List.length_map] at B; omega
 obtain ⟨al, W, G⟩ := ob_some h
 clear h
 refine AW.forX W [(1, _), (51, _), (52, _)] ⟨I, I, I, J⟩ (fun (c : Nat) (H : Unit) s ob => s = [(53, .V (c : Int))] ∧ ob = [.arr u 39 7 1 [Segment.row a]]) ⟨I, I⟩ ⟨I, J⟩ ⟨[0], I, by decide⟩ ?_ ?_
 rintro c b H X s ob Y Z ⟨rfl, rfl⟩ h aa
 unfold L.zimi.B3 at h
 have ab : decide ((c : Int) < (a.Points.length : Int)) = true := decide_eq_true (by omega)
 refine AW.z I (AW.seqG (fun am ac => (AW.condK (v := true) I ab (AW.skip ?_))))
 subst ac
 refine AW.seq (AW.block (AW.seqG (fun an ad => (AW.region (AO.r 3 [.x 1 c (Point.row b)] I ⟨⟨I, map_get Y⟩, J⟩ (AO.act [] I (AX.alloc (cs := [.V 0, .V 0, .V 0]) (m := 3) I I I I I dS (fun ao => (AO.q 1 I (AO.act [1] I (AX.store 1 0 0 (es' := [Point.row b]) I I I I I I I I (le_ble I) I I (AO.nil ?_))))))))))))
 subst ad
 refine AW.cutX (fun s ob => ∃ (D : Bool), L.zimi.J4 D = some X ∧ s = [(83, .v (.bool D))] ∧ ob = [.arr u 39 7 1 [Segment.row a]]) [(1, _), (51, _), (52, _), (53, _)] ⟨I, I, I, I, J⟩ ?_ ?_
 rcases bt (decide ((c : Int) > 0)) with j | j
 replace h := ife_t j h
 obtain ⟨E, ae, h⟩ := ob_some h
 obtain ⟨af, ag⟩ := ix_some ae
 refine AW.rd (pd 26 0 [17, 23]) [1, 0] [_, _] I (AP.q 3 I (AP.known 60 I j (AP.r 12 [.o 1 0, .o 3 1, .x 6 E.1 (Point.row E.2)] I ⟨⟨af, map_get ag⟩, I, I, J⟩ ?_)))
 rcases bt (decide (b.At ≤ E.2.At)) with n | n
 replace h := ife_t n h
 refine AP.known 72 I n (AP.q 11 I (AP.ofAO (AO.nil ?_)))
 exact lg ⟨true, h, I, I⟩ [0]
 replace h := ife_f n h
 refine AP.known 72 I n (AP.r 2 [.o 1 0] I ⟨I, J⟩ (AP.cG I (L.zmae_ok b.Height (-500) 5000 _ I) (AP.q 3 I ?_)))
 rcases bt ((!(L.zmae b.Height (-500) 5000))) with p | p
 replace h := ife_t p h
 refine AP.known 78 I p (AP.q 5 I (AP.ofAO (AO.nil ?_)))
 exact lg ⟨true, h, I, I⟩ [0]
 replace h := ife_f p h
 refine AP.known 78 I p (AP.r 2 [.o 1 0] I ⟨I, J⟩ (AP.cG I (L.zmae_ok b.Limit 0 100000000 _ I) (AP.q 2 I (AP.ofAO (AO.nil ?_)))))
 exact lg ⟨(!(L.zmae b.Limit 0 100000000)), h, I, I⟩ [0]
 replace h := ife_f j h
 refine AW.rd (pd 26 0 [17, 23]) [1] [_] I (AP.q 3 I (AP.known 60 I j (AP.r 14 [.o 13 0] I ⟨I, J⟩ (AP.cG I (L.zmae_ok b.Height (-500) 5000 _ I) (AP.q 3 I ?_)))))
 rcases bt ((!(L.zmae b.Height (-500) 5000))) with t | t
 replace h := ife_t t h
 refine AP.known 78 I t (AP.q 5 I (AP.ofAO (AO.nil ?_)))
 exact lg ⟨true, h, I, I⟩ [0]
 replace h := ife_f t h
 refine AP.known 78 I t (AP.r 2 [.o 1 0] I ⟨I, J⟩ (AP.cG I (L.zmae_ok b.Limit 0 100000000 _ I) (AP.q 2 I (AP.ofAO (AO.nil ?_)))))
 exact lg ⟨(!(L.zmae b.Limit 0 100000000)), h, I, I⟩ [0]
 rintro s ob ⟨D, h, rfl, rfl⟩
 unfold L.zimi.J4 at h
 refine AW.ch h I ?_ ?_
 intro ah h
 refine AW.z I ?_
 obtain rfl := aa _ (oi h).symm
 replace h := G
 replace h := se_r h
 refine AW.ghost g0 ?_
 obtain rfl := oi h
 exact AW.ret pr
 intro ah h
 refine AW.skip (AW.region (AO.r 2 [.k 0 (c + 1 : Nat)] I ⟨cast_wr Z B, J⟩ ?_))
 obtain rfl := oi h
 refine AO.nil ?_
 exact ⟨_, _, _, I, ⟨I, I⟩, ⟨I, I, I, I, J⟩, [0], I, by decide⟩
 rintro H s ob ⟨rfl, rfl⟩ he
 subst he
 have h := se_l G
 have ai : decide (((a.Points.length : Nat) : Int) < (a.Points.length : Int)) = false := by simp
 refine AW.z I (AW.seqG (fun ap aq => (AW.condK (v := false) I ai (AW.exit ?_))))
 exact lg ⟨(), h, I, I⟩ []
 rintro s ob ⟨F, h, rfl, rfl⟩
 unfold L.zimi.J2 at h
 refine AW.z I ?_
 obtain rfl := oi h
 exact AW.ret pr
theorem L.zgcl_ok (a : Network) (r : Int) (h : L.zgcl a = some r) : ACalls Tryz.env 55 [.agg (Network.row a)] [] (fun x new => x = .V r ∧ new = []) := by
 refine ACalls.of_body Tryz.func55 rfl rfl rfl (fun C hC => ?_)
 unfold L.zgcl at h
 refine AW.seqG (fun y1 bn => (AW.region (AO.act [] I (AX.box (cs := Network.row a) (m := 6) I I I dS (fun b => (AO.q 1 I (AO.nil ?_)))))))
 subst bn
 refine AW.seqG (fun y3 bo => (AW.cutX (fun s ob => s = [(49, .v (.bool ((!(L.zmae (a.Nodes.length : Int) 1 24)) || (decide ((a.Segments.length : Int) > 32) || (decide ((a.Ports.length : Int) > 24) || decide ((a.Stations.length : Int) > 12))))))] ∧ ob = [.arr b 32 6 1 [Network.row a]]) [(1, _)] ⟨I, J⟩ ?_ ?_))
 refine AW.region (AO.r 3 [.o 1 0, .l 2 (a.Nodes.length : Int)] I ⟨len_m, I, J⟩ (AO.c (L.zmae_ok (a.Nodes.length : Int) 1 24 _ I) (AO.q 2 I ?_)))
 rcases bt ((!(L.zmae (a.Nodes.length : Int) 1 24))) with g | g
 refine AO.known 32 I g (AO.q 17 I (AO.nil ?_))
 exact lf ⟨I, I⟩ ⟨(get_b (by simp only [g, bz])), I, J⟩ [0] I
 refine AO.known 32 I g (AO.r 6 [.o 1 0, .l 2 (a.Segments.length : Int)] I ⟨len_m, I, J⟩ ?_)
 rcases bt (decide ((a.Segments.length : Int) > 32)) with j | j
 refine AO.known 38 I j (AO.q 11 I (AO.nil ?_))
 exact lf ⟨I, I⟩ ⟨(get_b (by simp only [g, j, bz])), I, J⟩ [0] I
 refine AO.known 38 I j (AO.r 6 [.o 1 0, .l 2 (a.Ports.length : Int)] I ⟨len_m, I, J⟩ ?_)
 rcases bt (decide ((a.Ports.length : Int) > 24)) with u | u
 refine AO.known 44 I u (AO.q 5 I (AO.nil ?_))
 exact lf ⟨I, I⟩ ⟨(get_b (by simp only [g, j, u, bz])), I, J⟩ [0] I
 refine AO.known 44 I u (AO.r 5 [.o 1 0, .l 2 (a.Stations.length : Int)] I ⟨len_m, I, J⟩ (AO.nil ?_))
 exact lf ⟨I, I⟩ ⟨(get_b (by simp only [g, j, u, bz])), I, J⟩ [0] I
 rintro s ob ⟨rfl, rfl⟩
 refine AW.ch h I ?_ ?_
 intro bp h
 refine AW.z I (AW.ghost g0 ?_)
 obtain rfl := oi h
 exact AW.ret pr
 intro bp h
 refine AW.skip ?_
 subst bo
 refine AW.cutX (fun s ob => ∃ (ai : Unit), L.zgcl.J1 a ai = some r ∧ s = [] ∧ ob = [.arr b 32 6 1 [Network.row a]]) [(1, _)] ⟨I, J⟩ ?_ ?_
 refine AW.zr [.o 1 0, .l 2 (a.Segments.length : Int)] I ⟨len_m, I, J⟩ (AW.block (AW.listMax 51 I (fun W => ?_)))
 replace W : a.Segments.length ≤ 9223372036854775806 := by rw [List.length_map] at W; omega
 obtain ⟨e7, bq, aj⟩ := ob_some h
 clear h
 refine AW.forX bq [(1, _), (51, _), (52, _)] ⟨I, I, I, J⟩ (fun (w : Nat) (ak : Unit) s ob => s = [(53, .V (w : Int))] ∧ ob = [.arr b 32 6 1 [Network.row a]]) ⟨I, I⟩ ⟨I, J⟩ ⟨[0], I, by decide⟩ ?_ ?_
 rintro w Q ak e8 s ob br bs ⟨rfl, rfl⟩ h bu
 unfold L.zgcl.B24 at h
 have bv : decide ((w : Int) < (a.Segments.length : Int)) = true := decide_eq_true (by omega)
 refine AW.z I (AW.seqG (fun e9 bw => (AW.condK (v := true) I bv (AW.skip ?_))))
 subst bw
 refine AW.seq (AW.block (AW.seq (AW.region (AO.r 2 [.x 0 w (Segment.row Q)] I ⟨⟨I, map_get br⟩, J⟩ (AO.act [] I (AX.alloc (cs := [.v (.string ⟨#[]⟩), .V 0, .V 0, .V 0, .V 0, .V 0, .N]) (m := 7) I I I I I dS (fun fa => (AO.act [1] I (AX.store 1 0 0 (es' := [Segment.row Q]) I I I I I I I I (le_ble I) I I (AO.nil (AW.seq (AW.region (AO.r 3 [.o 1 1, .l 2 (Q.Points.length : Int)] I ⟨len_m, I, J⟩ (AO.c (L.zmae_ok (Q.Points.length : Int) 2 8 _ I) (AO.q 1 I ?_)))))))))))))))
 refine AO.nil (AW.ch h I ?_ ?_)
 intro bx h
 refine AW.z I ?_
 obtain rfl := bu _ (oi h).symm
 replace h := aj
 replace h := se_r h
 refine AW.ghost g0 ?_
 obtain rfl := oi h
 exact AW.ret pr
 intro bx h
 refine AW.skip (AW.region (AO.r 2 [.k 0 (w + 1 : Nat)] I ⟨cast_wr bs W, J⟩ ?_))
 obtain rfl := oi h
 refine AO.nil ?_
 exact ⟨_, _, _, I, ⟨I, I⟩, ⟨I, I, I, I, J⟩, [0], I, by decide⟩
 rintro ak s ob ⟨rfl, rfl⟩ he
 subst he
 have h := se_l aj
 have b0 : decide (((a.Segments.length : Nat) : Int) < (a.Segments.length : Int)) = false := by simp
 refine AW.z I (AW.seqG (fun fb fc => (AW.condK (v := false) I b0 (AW.exit ?_))))
 exact lg ⟨(), h, I, I⟩ [0]
 rintro s ob ⟨ai, h, rfl, rfl⟩
 unfold L.zgcl.J1 at h
 refine AW.seqG (fun fd b1 => ?_)
 obtain ⟨f, b3, h⟩ := ob_some h
 refine AW.region (AO.r 1 [.o 0 0] I ⟨I, J⟩ (AO.act [] I (AX.call0 I I I (L.zghg_ok _ _ b3) dS ?_)))
 rintro _ _ ⟨rfl, rfl⟩
 refine AO.act [] I (AX.alloc (cs := [.N, .N, .N, .N]) (m := 4) I I I I I dS (fun R => (AO.act [1] I (AX.store 1 0 0 (es' := [f.l.map (cL 1 rS)]) I I I I I I I (by simp [Arr.h, flow_streams.row]) (by simp [Arr.h, flow_streams.row]) I (congrArg (fun r => [r]) (setC_all (by simp [Arr.h, flow_streams.row]))) (AO.nil ?_)))))
 subst b1
 refine AW.cutX (fun s ob => ∃ (al : Unit), L.zgcl.J2 a f al = some r ∧ s = [] ∧ ob = [.arr b 32 6 1 [Network.row a], .arr R 120 4 1 [f.l.map (cL 1 rS)]]) [(1, _), (5, _)] ⟨I, I, J⟩ ?_ ?_
 refine AW.seqG (fun fe b4 => (AW.region (AO.d (Yd.loadO 1 0 0 I I I I I (y := .agg (f.l.map (cL 1 rS))) (part_all I (by simp [Arr.h, flow_streams.row]))) I (AO.q 1 I (AO.nil ?_)))))
 subst b4
 refine AW.block ?_
 have b5 : (4 : Nat) ≤ 9223372036854775806 := by decide
 obtain ⟨ff, b6, am⟩ := ob_some h
 clear h
 refine AW.forIX b6 [(1, _), (5, _), (65, _)] ⟨I, I, I, J⟩ (fun (S : Nat) (an : Unit) s ob => s = [(66, .V (S : Int))] ∧ ob = [.arr b 32 6 1 [Network.row a], .arr R 120 4 1 [f.l.map (cL 1 rS)]]) ⟨I, I⟩ ⟨I, J⟩ ⟨[0, 1], I, by decide⟩ ?_ ?_
 rintro S an b7 s ob b8 ⟨rfl, rfl⟩ h b9
 unfold L.zgcl.B21 at h
 have ca : decide ((S : Int) < 4) = true := decide_eq_true (by omega)
 refine AW.z I (AW.seqG (fun fg cb => (AW.condK (v := true) I ca (AW.skip ?_))))
 subst cb
 refine AW.cutX (fun s ob => ∃ (ao : Unit), L.zgcl.J22 ao = some b7 ∧ s = [] ∧ ob = [.arr b 32 6 1 [Network.row a], .arr R 120 4 1 [f.l.map (cL 1 rS)]]) [(1, _), (5, _), (65, _), (66, _)] ⟨I, I, I, I, J⟩ ?_ ?_
 refine AW.block (AW.seqG (fun fh cc => ?_))
 obtain ⟨n, cd, h⟩ := ob_some h
 obtain ⟨ce, cf⟩ := ix_some cd
 refine AW.region (AO.p (Yp.indexAgM (m := n.1) I I I I I I I ce cf (hlen := Arr.h _)) I (AO.q 1 I (AO.nil ?_)))
 subst cc
 refine AW.zr [.l 1 (n.2.length : Int)] I ⟨len_m, J⟩ (AW.block (AW.listMax 69 I (fun X => ?_)))
 replace X : n.2.length ≤ 9223372036854775806 := by rw [List.length_map] at X; omega
 obtain ⟨fi, cg, ap⟩ := ob_some h
 clear h
 refine AW.forX cg [(1, _), (5, _), (65, _), (66, _), (69, _), (70, _)] ⟨I, I, I, I, I, I, J⟩ (fun (A : Nat) (aq : Unit) s ob => s = [(71, .V (A : Int))] ∧ ob = [.arr b 32 6 1 [Network.row a], .arr R 120 4 1 [f.l.map (cL 1 rS)]]) ⟨I, I⟩ ⟨I, J⟩ ⟨[0, 1], I, by decide⟩ ?_ ?_
 rintro A ci aq fj s ob cj ck ⟨rfl, rfl⟩ h cl
 unfold L.zgcl.B23 at h
 have cm : decide ((A : Int) < (n.2.length : Int)) = true := decide_eq_true (by omega)
 refine AW.z I (AW.seqG (fun fk cn => (AW.condK (v := true) I cm (AW.skip ?_))))
 subst cn
 refine AW.seq (AW.block (AW.zr [.x 0 A (rS ci)] I ⟨⟨I, map_get cj⟩, J⟩ (AW.seq ?_)))
 obtain ⟨fl, co, h⟩ := ob_some h
 refine AW.region (AO.q 1 I (AO.c (L.zgmr_ok _ _ co) (AO.q 1 I (AO.nil (AW.ch h I ?_ ?_)))))
 intro cp h
 refine AW.z I ?_
 obtain rfl := cl _ (oi h).symm
 replace h := ap
 replace h := se_r h
 obtain rfl := b9 _ (oi h).symm
 replace h := am
 replace h := se_r h
 refine AW.ghost g0 ?_
 obtain rfl := oi h
 exact AW.ret pr
 intro cp h
 refine AW.skip (AW.region (AO.r 2 [.k 0 (A + 1 : Nat)] I ⟨cast_wr ck X, J⟩ ?_))
 obtain rfl := oi h
 refine AO.nil ?_
 exact ⟨_, _, _, I, ⟨I, I⟩, ⟨I, I, I, I, I, I, I, J⟩, [0, 1], I, by decide⟩
 rintro aq s ob ⟨rfl, rfl⟩ he
 subst he
 have h := se_l ap
 have cq : decide (((n.2.length : Nat) : Int) < (n.2.length : Int)) = false := by simp
 refine AW.z I (AW.seqG (fun fm fn => (AW.condK (v := false) I cq (AW.exit ?_))))
 exact lg ⟨(), h, I, I⟩ [0, 1]
 rintro s ob ⟨ao, h, rfl, rfl⟩
 unfold L.zgcl.J22 at h
 refine AW.region (AO.r 2 [.k 0 (S + 1 : Nat)] I ⟨cast_wr b8 b5, J⟩ ?_)
 obtain rfl := oi h
 refine AO.nil ?_
 exact ⟨_, _, _, I, ⟨I, I⟩, ⟨I, I, I, I, J⟩, [0, 1], I, by decide⟩
 rintro an s ob ⟨rfl, rfl⟩ he
 subst he
 have h := se_l am
 have cr : decide (((4 : Nat) : Int) < 4) = false := by simp
 refine AW.z I (AW.seqG (fun fo fp => (AW.condK (v := false) I cr (AW.exit ?_))))
 exact lg ⟨(), h, I, I⟩ [0, 1]
 rintro s ob ⟨al, h, rfl, rfl⟩
 unfold L.zgcl.J2 at h
 refine AW.cutX (fun s ob => ∃ (ar : Unit), L.zgcl.J3 a ar = some r ∧ s = [] ∧ ob = [.arr b 32 6 1 [Network.row a]]) [(1, _)] ⟨I, J⟩ ?_ ?_
 refine AW.seqG (fun fq ct => (AW.region (AO.d (Yd.loadO 1 0 0 I I I I I (y := .agg (f.l.map (cL 1 rS))) (part_all I (by simp [Arr.h, flow_streams.row]))) I (AO.q 1 I (AO.nil ?_)))))
 subst ct
 refine AW.block ?_
 have cu : (4 : Nat) ≤ 9223372036854775806 := by decide
 obtain ⟨fr, cv, au⟩ := ob_some h
 clear h
 refine AW.forIX cv [(1, _), (80, _)] ⟨I, I, J⟩ (fun (U : Nat) (av : Unit) s ob => s = [(81, .V (U : Int))] ∧ ob = [.arr b 32 6 1 [Network.row a]]) ⟨I, I⟩ ⟨I, J⟩ ⟨[0], I, by decide⟩ ?_ ?_
 rintro U av fs s ob cw ⟨rfl, rfl⟩ h cx
 unfold L.zgcl.B20 at h
 have cy : decide ((U : Int) < 4) = true := decide_eq_true (by omega)
 refine AW.z I (AW.seqG (fun ft cz => (AW.condK (v := true) I cy (AW.skip ?_))))
 subst cz
 refine AW.seq (AW.block (AW.seq ?_))
 obtain ⟨c0, c1, h⟩ := ob_some h
 obtain ⟨c2, c3⟩ := ix_some c1
 refine AW.region (AO.p (Yp.indexAgM (m := c0.1) I I I I I I I c2 c3 (hlen := Arr.h _)) I (AO.q 1 I (AO.nil (AW.seq ?_))))
 obtain ⟨fu, c4, h⟩ := ob_some h
 refine AW.region (AO.q 1 I (AO.c (L.zaag_ok _ _ c4) (AO.nil (AW.ch h I ?_ ?_))))
 intro c5 h
 refine AW.z I ?_
 obtain rfl := cx _ (oi h).symm
 replace h := au
 replace h := se_r h
 refine AW.ghost g0 ?_
 obtain rfl := oi h
 exact AW.ret pr
 intro c5 h
 refine AW.skip (AW.region (AO.r 2 [.k 0 (U + 1 : Nat)] I ⟨cast_wr cw cu, J⟩ ?_))
 obtain rfl := oi h
 refine AO.nil ?_
 exact ⟨_, _, _, I, ⟨I, I⟩, ⟨I, I, I, J⟩, [0], I, by decide⟩
 rintro av s ob ⟨rfl, rfl⟩ he
 subst he
 have h := se_l au
 have c6 : decide (((4 : Nat) : Int) < 4) = false := by simp
 refine AW.z I (AW.seqG (fun fv fw => (AW.condK (v := false) I c6 (AW.exit ?_))))
 exact lg ⟨(), h, I, I⟩ [0]
 rintro s ob ⟨ar, h, rfl, rfl⟩
 unfold L.zgcl.J3 at h
 refine AW.cutX (fun s ob => ∃ (aw : Unit), L.zgcl.J4 a aw = some r ∧ s = [] ∧ ob = [.arr b 32 6 1 [Network.row a]]) [(1, _)] ⟨I, J⟩ ?_ ?_
 refine AW.zr [.o 1 0, .l 2 (a.Stations.length : Int)] I ⟨len_m, I, J⟩ (AW.block (AW.listMax 88 I (fun Y => ?_)))
 replace Y : a.Stations.length ≤ 9223372036854775806 := by rw [List.length_map] at Y; omega
 obtain ⟨fx, c7, ax⟩ := ob_some h
 clear h
 refine AW.forX c7 [(1, _), (89, _)] ⟨I, I, J⟩ (fun (B : Nat) (ay : Unit) s ob => s = [(90, .V (B : Int))] ∧ ob = [.arr b 32 6 1 [Network.row a]]) ⟨I, I⟩ ⟨I, J⟩ ⟨[0], I, by decide⟩ ?_ ?_
 rintro B c8 ay c9 s ob da db ⟨rfl, rfl⟩ h dc
 unfold L.zgcl.B17 at h
 have dd : decide ((B : Int) < (a.Stations.length : Int)) = true := decide_eq_true (by omega)
 refine AW.z I (AW.seqG (fun fy de => (AW.condK (v := true) I dd (AW.skip ?_))))
 subst de
 refine AW.cutX (fun s ob => ∃ (az : Unit), L.zgcl.J18 az = some c9 ∧ s = [] ∧ ob = [.arr b 32 6 1 [Network.row a]]) [(1, _), (89, _), (90, _)] ⟨I, I, I, J⟩ ?_ ?_
 refine AW.block (AW.z I (AW.z I (AW.block ?_)))
 obtain ⟨fz, df, a0⟩ := ob_some h
 clear h
 refine AW.loopX df [(1, _), (12, _), (89, _), (90, _)] ⟨I, I, I, I, J⟩ (fun (a1 : Int) s ob => s = [(13, .V a1)] ∧ ob = [.arr b 32 6 1 [Network.row a]]) ⟨I, I⟩ ⟨I, J⟩ ⟨[0], I, by decide⟩ ?_
 rintro a1 f0 s ob ⟨rfl, rfl⟩ h a2
 unfold L.zgcl.B19 at h
 refine AW.seqG (fun f1 dg => (AW.z I (AW.ch h I ?_ ?_)))
 intro dh h
 refine AW.skip ?_
 subst dg
 refine AW.seq (AW.block (AW.seq ?_))
 obtain ⟨a3, di, h⟩ := ob_some h
 obtain ⟨dj, dk⟩ := ix_some di
 refine AW.dt (pd 13 0 []) [0] [_] [.o 1 0, .x 3 B (Station.row c8), .o 7 0, .x 9 a3.1 (Station.row a3.2)] I I ⟨⟨dj, map_get dk⟩, I, ⟨I, map_get da⟩, I, J⟩ (AW.ch h I ?_ ?_)
 intro dl h
 refine AW.z I ?_
 obtain rfl := a2 _ (oi h).symm
 replace h := a0
 replace h := se_l h
 obtain rfl := dc _ (oi h).symm
 replace h := ax
 replace h := se_r h
 refine AW.ghost g0 ?_
 obtain rfl := oi h
 exact AW.ret pr
 intro dl h
 refine AW.skip (AW.region (AO.q 3 I ?_))
 obtain rfl := oi h
 refine AO.nil ?_
 exact ⟨_, _, _, I, ⟨I, I⟩, ⟨I, I, I, I, I, J⟩, [0], I, by decide⟩
 intro dh h
 obtain rfl := a2 _ (oi h).symm
 replace h := a0
 replace h := se_r h
 refine AW.exit ?_
 exact lg ⟨(), h, I, I⟩ [0]
 rintro s ob ⟨az, h, rfl, rfl⟩
 unfold L.zgcl.J18 at h
 refine AW.region (AO.r 2 [.k 0 (B + 1 : Nat)] I ⟨cast_wr db Y, J⟩ ?_)
 obtain rfl := oi h
 refine AO.nil ?_
 exact ⟨_, _, _, I, ⟨I, I⟩, ⟨I, I, I, J⟩, [0], I, by decide⟩
 rintro ay s ob ⟨rfl, rfl⟩ he
 subst he
 have h := se_l ax
 have dm : decide (((a.Stations.length : Nat) : Int) < (a.Stations.length : Int)) = false := by simp
 refine AW.z I (AW.seqG (fun f2 f3 => (AW.condK (v := false) I dm (AW.exit ?_))))
 exact lg ⟨(), h, I, I⟩ [0]
 rintro s ob ⟨aw, h, rfl, rfl⟩
 unfold L.zgcl.J4 at h
 refine AW.zr [.o 1 0, .l 2 (a.Nodes.length : Int)] I ⟨len_m, I, J⟩ (AW.cutX (fun s ob => ∃ (a4 : Unit), L.zgcl.J5 a a4 = some r ∧ s = [] ∧ ob = [.arr b 32 6 1 [Network.row a]]) [(1, _), (14, _)] ⟨I, I, J⟩ ?_ ?_)
 refine AW.zr [.o 1 0, .l 2 (a.Segments.length : Int)] I ⟨len_m, I, J⟩ (AW.block (AW.listMax 117 I (fun Z => ?_)))
 replace Z : a.Segments.length ≤ 9223372036854775806 := by rw [List.length_map] at Z; omega
 obtain ⟨f4, dn, a5⟩ := ob_some h
 clear h
 refine AW.forX dn [(1, _), (14, _), (117, _), (118, _)] ⟨I, I, I, I, J⟩ (fun (D : Nat) (a6 : Unit) s ob => s = [(119, .V (D : Int))] ∧ ob = [.arr b 32 6 1 [Network.row a]]) ⟨I, I⟩ ⟨I, J⟩ ⟨[0], I, by decide⟩ ?_ ?_
 rintro D i a6 f5 s ob dp dq ⟨rfl, rfl⟩ h dr
 unfold L.zgcl.B16 at h
 have ds : decide ((D : Int) < (a.Segments.length : Int)) = true := decide_eq_true (by omega)
 refine AW.z I (AW.seqG (fun f6 du => (AW.condK (v := true) I ds (AW.skip ?_))))
 subst du
 refine AW.seq (AW.block (AW.seqG (fun f7 dv => (AW.region (AO.r 2 [.x 0 D (Segment.row i)] I ⟨⟨I, map_get dp⟩, J⟩ (AO.act [] I (AX.alloc (cs := [.v (.string ⟨#[]⟩), .V 0, .V 0, .V 0, .V 0, .V 0, .N]) (m := 7) I I I I I dS (fun f8 => (AO.act [1] I (AX.store 1 0 0 (es' := [Segment.row i]) I I I I I I I I (le_ble I) I I (AO.nil ?_)))))))))))
 subst dv
 refine AW.cutX (fun s ob => s = [(134, .v (.bool ((!(L.zmae i.From 0 (wr ((a.Nodes.length : Int) - 1)))) || (!(L.zmae i.To 0 (wr ((a.Nodes.length : Int) - 1)))))))] ∧ ob = [.arr b 32 6 1 [Network.row a]]) [(1, _), (14, _), (117, _), (118, _), (119, _)] ⟨I, I, I, I, I, J⟩ ?_ ?_
 refine AW.region (AO.r 3 [.o 1 1] I ⟨I, J⟩ (AO.c (L.zmae_ok i.From 0 (wr ((a.Nodes.length : Int) - 1)) _ I) (AO.q 2 I ?_)))
 rcases bt ((!(L.zmae i.From 0 (wr ((a.Nodes.length : Int) - 1))))) with E | E
 refine AO.known 128 I E (AO.q 6 I (AO.nil ?_))
 exact lf ⟨I, I⟩ ⟨(get_b (by simp only [E, bz])), I, I, I, I, I, J⟩ [0] I
 refine AO.known 128 I E (AO.r 3 [.o 1 1] I ⟨I, J⟩ (AO.gt I I I (AO.c (L.zmae_ok i.To 0 (wr ((a.Nodes.length : Int) - 1)) _ I) (AO.q 2 I (AO.nil ?_)))))
 exact lf ⟨I, I⟩ ⟨(get_b (by simp only [E, bz])), I, I, I, I, I, J⟩ [0] I
 rintro s ob ⟨rfl, rfl⟩
 refine AW.ch h I ?_ ?_
 intro dw h
 refine AW.z I ?_
 obtain rfl := dr _ (oi h).symm
 replace h := a5
 replace h := se_r h
 refine AW.ghost g0 ?_
 obtain rfl := oi h
 exact AW.ret pr
 intro dw h
 refine AW.skip (AW.region (AO.r 2 [.k 0 (D + 1 : Nat)] I ⟨cast_wr dq Z, J⟩ ?_))
 obtain rfl := oi h
 refine AO.nil ?_
 exact ⟨_, _, _, I, ⟨I, I⟩, ⟨I, I, I, I, I, J⟩, [0], I, by decide⟩
 rintro a6 s ob ⟨rfl, rfl⟩ he
 subst he
 have h := se_l a5
 have dx : decide (((a.Segments.length : Nat) : Int) < (a.Segments.length : Int)) = false := by simp
 refine AW.z I (AW.seqG (fun f9 ga => (AW.condK (v := false) I dx (AW.exit ?_))))
 exact lg ⟨(), h, I, I⟩ [0]
 rintro s ob ⟨a4, h, rfl, rfl⟩
 unfold L.zgcl.J5 at h
 refine AW.cutX (fun s ob => ∃ (a7 : Unit), L.zgcl.J6 a a7 = some r ∧ s = [] ∧ ob = [.arr b 32 6 1 [Network.row a]]) [(1, _), (14, _)] ⟨I, I, J⟩ ?_ ?_
 refine AW.zr [.o 1 0, .l 2 (a.Ports.length : Int)] I ⟨len_m, I, J⟩ (AW.block (AW.listMax 137 I (fun aa => ?_)))
 replace aa : a.Ports.length ≤ 9223372036854775806 := by rw [List.length_map] at aa; omega
 obtain ⟨gb, dy, a8⟩ := ob_some h
 clear h
 refine AW.forX dy [(1, _), (14, _), (137, _), (138, _)] ⟨I, I, I, I, J⟩ (fun (F : Nat) (a9 : Unit) s ob => s = [(139, .V (F : Int))] ∧ ob = [.arr b 32 6 1 [Network.row a]]) ⟨I, I⟩ ⟨I, J⟩ ⟨[0], I, by decide⟩ ?_ ?_
 rintro F ab a9 gc s ob dz d0 ⟨rfl, rfl⟩ h d1
 unfold L.zgcl.B15 at h
 have d2 : decide ((F : Int) < (a.Ports.length : Int)) = true := decide_eq_true (by omega)
 refine AW.z I (AW.seqG (fun gd d3 => (AW.condK (v := true) I d2 (AW.skip ?_))))
 subst d3
 refine AW.seq (AW.block (AW.seq (AW.region (AO.r 2 [.x 0 F (Port.row ab)] I ⟨⟨I, map_get dz⟩, J⟩ (AO.act [] I (AX.alloc (cs := [.v (.string ⟨#[]⟩), .V 0, .V 0]) (m := 3) I I I I I dS (fun ge => (AO.act [1] I (AX.store 1 0 0 (es' := [Port.row ab]) I I I I I I I I (le_ble I) I I (AO.nil (AW.seq (AW.region (AO.r 3 [.o 1 1] I ⟨I, J⟩ (AO.c (L.zmae_ok ab.Node 0 (wr ((a.Nodes.length : Int) - 1)) _ I) (AO.q 1 I ?_)))))))))))))))
 refine AO.nil (AW.ch h I ?_ ?_)
 intro d4 h
 refine AW.z I ?_
 obtain rfl := d1 _ (oi h).symm
 replace h := a8
 replace h := se_r h
 refine AW.ghost g0 ?_
 obtain rfl := oi h
 exact AW.ret pr
 intro d4 h
 refine AW.skip (AW.region (AO.r 2 [.k 0 (F + 1 : Nat)] I ⟨cast_wr d0 aa, J⟩ ?_))
 obtain rfl := oi h
 refine AO.nil ?_
 exact ⟨_, _, _, I, ⟨I, I⟩, ⟨I, I, I, I, I, J⟩, [0], I, by decide⟩
 rintro a9 s ob ⟨rfl, rfl⟩ he
 subst he
 have h := se_l a8
 have d5 : decide (((a.Ports.length : Nat) : Int) < (a.Ports.length : Int)) = false := by simp
 refine AW.z I (AW.seqG (fun gf gg => (AW.condK (v := false) I d5 (AW.exit ?_))))
 exact lg ⟨(), h, I, I⟩ [0]
 rintro s ob ⟨a7, h, rfl, rfl⟩
 unfold L.zgcl.J6 at h
 refine AW.cutX (fun s ob => ∃ (ba : Unit), L.zgcl.J7 a ba = some r ∧ s = [] ∧ ob = [.arr b 32 6 1 [Network.row a]]) [(1, _)] ⟨I, J⟩ ?_ ?_
 refine AW.zr [.o 1 0, .l 2 (a.Stations.length : Int)] I ⟨len_m, I, J⟩ (AW.block (AW.listMax 150 I (fun ac => ?_)))
 replace ac : a.Stations.length ≤ 9223372036854775806 := by rw [List.length_map] at ac; omega
 obtain ⟨gh, d6, bb⟩ := ob_some h
 clear h
 refine AW.forX d6 [(1, _), (14, _), (150, _), (151, _)] ⟨I, I, I, I, J⟩ (fun (G : Nat) (bc : Unit) s ob => s = [(152, .V (G : Int))] ∧ ob = [.arr b 32 6 1 [Network.row a]]) ⟨I, I⟩ ⟨I, J⟩ ⟨[0], I, by decide⟩ ?_ ?_
 rintro G ad bc gi s ob d7 d8 ⟨rfl, rfl⟩ h d9
 unfold L.zgcl.B14 at h
 have ea : decide ((G : Int) < (a.Stations.length : Int)) = true := decide_eq_true (by omega)
 refine AW.z I (AW.seqG (fun gj eb => (AW.condK (v := true) I ea (AW.skip ?_))))
 subst eb
 refine AW.seq (AW.block (AW.seq (AW.region (AO.r 2 [.x 0 G (Station.row ad)] I ⟨⟨I, map_get d7⟩, J⟩ (AO.act [] I (AX.alloc (cs := [.v (.string ⟨#[]⟩), .V 0, .V 0, .V 0, .V 0]) (m := 5) I I I I I dS (fun gk => (AO.act [1] I (AX.store 1 0 0 (es' := [Station.row ad]) I I I I I I I I (le_ble I) I I (AO.nil (AW.seq (AW.region (AO.r 3 [.o 1 1] I ⟨I, J⟩ (AO.c (L.zmae_ok ad.Node 0 (wr ((a.Nodes.length : Int) - 1)) _ I) (AO.q 1 I ?_)))))))))))))))
 refine AO.nil (AW.ch h I ?_ ?_)
 intro ec h
 refine AW.z I ?_
 obtain rfl := d9 _ (oi h).symm
 replace h := bb
 replace h := se_r h
 refine AW.ghost g0 ?_
 obtain rfl := oi h
 exact AW.ret pr
 intro ec h
 refine AW.skip (AW.region (AO.r 2 [.k 0 (G + 1 : Nat)] I ⟨cast_wr d8 ac, J⟩ ?_))
 obtain rfl := oi h
 refine AO.nil ?_
 exact ⟨_, _, _, I, ⟨I, I⟩, ⟨I, I, I, I, I, J⟩, [0], I, by decide⟩
 rintro bc s ob ⟨rfl, rfl⟩ he
 subst he
 have h := se_l bb
 have ed : decide (((a.Stations.length : Nat) : Int) < (a.Stations.length : Int)) = false := by simp
 refine AW.z I (AW.seqG (fun gl gm => (AW.condK (v := false) I ed (AW.exit ?_))))
 exact lg ⟨(), h, I, I⟩ [0]
 rintro s ob ⟨ba, h, rfl, rfl⟩
 unfold L.zgcl.J7 at h
 refine AW.cutX (fun s ob => ∃ (bd : Unit), L.zgcl.J8 a bd = some r ∧ s = [] ∧ ob = [.arr b 32 6 1 [Network.row a]]) [(1, _)] ⟨I, J⟩ ?_ ?_
 refine AW.zr [.o 1 0, .l 2 (a.Segments.length : Int)] I ⟨len_m, I, J⟩ (AW.block (AW.listMax 163 I (fun ae => ?_)))
 replace ae : a.Segments.length ≤ 9223372036854775806 := by rw [List.length_map] at ae; omega
 obtain ⟨gn, ee, be⟩ := ob_some h
 clear h
 refine AW.forX ee [(1, _), (163, _), (164, _)] ⟨I, I, I, J⟩ (fun (H : Nat) (bf : Unit) s ob => s = [(165, .V (H : Int))] ∧ ob = [.arr b 32 6 1 [Network.row a]]) ⟨I, I⟩ ⟨I, J⟩ ⟨[0], I, by decide⟩ ?_ ?_
 rintro H bg bf go s ob ef eg ⟨rfl, rfl⟩ h eh
 unfold L.zgcl.B13 at h
 have ei : decide ((H : Int) < (a.Segments.length : Int)) = true := decide_eq_true (by omega)
 refine AW.z I (AW.seqG (fun gp ej => (AW.condK (v := true) I ei (AW.skip ?_))))
 subst ej
 refine AW.seq (AW.block (AW.seq (AW.region (AO.r 2 [.x 0 H (Segment.row bg)] I ⟨⟨I, map_get ef⟩, J⟩ (AO.act [] I (AX.alloc (cs := [.v (.string ⟨#[]⟩), .V 0, .V 0, .V 0, .V 0, .V 0, .N]) (m := 7) I I I I I dS (fun gq => (AO.act [1] I (AX.store 1 0 0 (es' := [Segment.row bg]) I I I I I I I I (le_ble I) I I (AO.nil (AW.seq ?_)))))))))))
 obtain ⟨gr, ek, h⟩ := ob_some h
 refine AW.region (AO.r 1 [.o 0 1] I ⟨I, J⟩ (AO.c (L.zimi_ok _ _ ek) (AO.q 1 I (AO.nil (AW.ch h I ?_ ?_)))))
 intro el h
 refine AW.z I ?_
 obtain rfl := eh _ (oi h).symm
 replace h := be
 replace h := se_r h
 refine AW.ghost g0 ?_
 obtain rfl := oi h
 exact AW.ret pr
 intro el h
 refine AW.skip (AW.region (AO.r 2 [.k 0 (H + 1 : Nat)] I ⟨cast_wr eg ae, J⟩ ?_))
 obtain rfl := oi h
 refine AO.nil ?_
 exact ⟨_, _, _, I, ⟨I, I⟩, ⟨I, I, I, I, J⟩, [0], I, by decide⟩
 rintro bf s ob ⟨rfl, rfl⟩ he
 subst he
 have h := se_l be
 have em : decide (((a.Segments.length : Nat) : Int) < (a.Segments.length : Int)) = false := by simp
 refine AW.z I (AW.seqG (fun gs gu => (AW.condK (v := false) I em (AW.exit ?_))))
 exact lg ⟨(), h, I, I⟩ [0]
 rintro s ob ⟨bd, h, rfl, rfl⟩
 unfold L.zgcl.J8 at h
 refine AW.cutX (fun s ob => ∃ (bh : Unit), L.zgcl.J9 a bh = some r ∧ s = [] ∧ ob = [.arr b 32 6 1 [Network.row a]]) [(1, _)] ⟨I, J⟩ ?_ ?_
 refine AW.zr [.o 1 0, .l 2 (a.Ports.length : Int)] I ⟨len_m, I, J⟩ (AW.block (AW.listMax 174 I (fun af => ?_)))
 replace af : a.Ports.length ≤ 9223372036854775806 := by rw [List.length_map] at af; omega
 obtain ⟨gv, en, bi⟩ := ob_some h
 clear h
 refine AW.forX en [(1, _), (174, _), (175, _)] ⟨I, I, I, J⟩ (fun (K : Nat) (bj : Unit) s ob => s = [(176, .V (K : Int))] ∧ ob = [.arr b 32 6 1 [Network.row a]]) ⟨I, I⟩ ⟨I, J⟩ ⟨[0], I, by decide⟩ ?_ ?_
 rintro K ag bj gw s ob eo ep ⟨rfl, rfl⟩ h eq
 unfold L.zgcl.B12 at h
 have er : decide ((K : Int) < (a.Ports.length : Int)) = true := decide_eq_true (by omega)
 refine AW.z I (AW.seqG (fun gx es => (AW.condK (v := true) I er (AW.skip ?_))))
 subst es
 refine AW.seq (AW.block (AW.seq (AW.region (AO.r 2 [.x 0 K (Port.row ag)] I ⟨⟨I, map_get eo⟩, J⟩ (AO.act [] I (AX.alloc (cs := [.v (.string ⟨#[]⟩), .V 0, .V 0]) (m := 3) I I I I I dS (fun gy => (AO.act [1] I (AX.store 1 0 0 (es' := [Port.row ag]) I I I I I I I I (le_ble I) I I (AO.nil (AW.seq (AW.region (AO.r 2 [.o 1 1] I ⟨I, J⟩ (AO.c (L.zmae_ok ag.Pressure 0 100000000 _ I) (AO.q 1 I ?_)))))))))))))))
 refine AO.nil (AW.ch h I ?_ ?_)
 intro et h
 refine AW.z I ?_
 obtain rfl := eq _ (oi h).symm
 replace h := bi
 replace h := se_r h
 refine AW.ghost g0 ?_
 obtain rfl := oi h
 exact AW.ret pr
 intro et h
 refine AW.skip (AW.region (AO.r 2 [.k 0 (K + 1 : Nat)] I ⟨cast_wr ep af, J⟩ ?_))
 obtain rfl := oi h
 refine AO.nil ?_
 exact ⟨_, _, _, I, ⟨I, I⟩, ⟨I, I, I, I, J⟩, [0], I, by decide⟩
 rintro bj s ob ⟨rfl, rfl⟩ he
 subst he
 have h := se_l bi
 have eu : decide (((a.Ports.length : Nat) : Int) < (a.Ports.length : Int)) = false := by simp
 refine AW.z I (AW.seqG (fun gz g1 => (AW.condK (v := false) I eu (AW.exit ?_))))
 exact lg ⟨(), h, I, I⟩ [0]
 rintro s ob ⟨bh, h, rfl, rfl⟩
 unfold L.zgcl.J9 at h
 refine AW.cutX (fun s ob => ∃ (bk : Unit), L.zgcl.J10 a bk = some r ∧ s = [] ∧ ob = [.arr b 32 6 1 [Network.row a]]) [(1, _)] ⟨I, J⟩ ?_ ?_
 refine AW.zr [.o 1 0, .l 2 (a.Stations.length : Int)] I ⟨len_m, I, J⟩ (AW.block (AW.listMax 186 I (fun ah => ?_)))
 replace ah : a.Stations.length ≤ 9223372036854775806 := by rw [List.length_map] at ah; omega
 obtain ⟨g2, ev, bl⟩ := ob_some h
 clear h
 refine AW.forX ev [(1, _), (186, _), (187, _)] ⟨I, I, I, J⟩ (fun (M : Nat) (bm : Unit) s ob => s = [(188, .V (M : Int))] ∧ ob = [.arr b 32 6 1 [Network.row a]]) ⟨I, I⟩ ⟨I, J⟩ ⟨[0], I, by decide⟩ ?_ ?_
 rintro M e bm g3 s ob ew ex ⟨rfl, rfl⟩ h ey
 unfold L.zgcl.B11 at h
 have ez : decide ((M : Int) < (a.Stations.length : Int)) = true := decide_eq_true (by omega)
 refine AW.z I (AW.seqG (fun g4 e0 => (AW.condK (v := true) I ez (AW.skip ?_))))
 subst e0
 refine AW.seq (AW.block (AW.seqG (fun g5 e1 => (AW.region (AO.r 2 [.x 0 M (Station.row e)] I ⟨⟨I, map_get ew⟩, J⟩ (AO.act [] I (AX.alloc (cs := [.v (.string ⟨#[]⟩), .V 0, .V 0, .V 0, .V 0]) (m := 5) I I I I I dS (fun g6 => (AO.act [1] I (AX.store 1 0 0 (es' := [Station.row e]) I I I I I I I I (le_ble I) I I (AO.nil ?_)))))))))))
 subst e1
 refine AW.cutX (fun s ob => s = [(207, .v (.bool ((!(L.zmae e.Head 0 100000000)) || ((!(L.zmae e.Fall 0 100000)) || (!(L.zmae e.Suction 0 100000000))))))] ∧ ob = [.arr b 32 6 1 [Network.row a]]) [(1, _), (186, _), (187, _), (188, _)] ⟨I, I, I, I, J⟩ ?_ ?_
 refine AW.region (AO.r 2 [.o 1 1] I ⟨I, J⟩ (AO.c (L.zmae_ok e.Head 0 100000000 _ I) (AO.q 2 I ?_)))
 rcases bt ((!(L.zmae e.Head 0 100000000))) with t | t
 refine AO.known 196 I t (AO.q 11 I (AO.nil ?_))
 exact lf ⟨I, I⟩ ⟨(get_b (by simp only [t, bz])), I, I, I, I, J⟩ [0] I
 refine AO.known 196 I t (AO.r 2 [.o 1 1] I ⟨I, J⟩ (AO.gt I I I (AO.c (L.zmae_ok e.Fall 0 100000 _ I) (AO.q 3 I ?_))))
 rcases bt ((!(L.zmae e.Fall 0 100000))) with O | O
 refine AO.known 202 I O (AO.q 5 I (AO.nil ?_))
 exact lf ⟨I, I⟩ ⟨(get_b (by simp only [t, O, bz])), I, I, I, I, J⟩ [0] I
 refine AO.known 202 I O (AO.r 2 [.o 1 1] I ⟨I, J⟩ (AO.gt I I I (AO.c (L.zmae_ok e.Suction 0 100000000 _ I) (AO.q 2 I (AO.nil ?_)))))
 exact lf ⟨I, I⟩ ⟨(get_b (by simp only [t, O, bz])), I, I, I, I, J⟩ [0] I
 rintro s ob ⟨rfl, rfl⟩
 refine AW.ch h I ?_ ?_
 intro e2 h
 refine AW.z I ?_
 obtain rfl := ey _ (oi h).symm
 replace h := bl
 replace h := se_r h
 refine AW.ghost g0 ?_
 obtain rfl := oi h
 exact AW.ret pr
 intro e2 h
 refine AW.skip (AW.region (AO.r 2 [.k 0 (M + 1 : Nat)] I ⟨cast_wr ex ah, J⟩ ?_))
 obtain rfl := oi h
 refine AO.nil ?_
 exact ⟨_, _, _, I, ⟨I, I⟩, ⟨I, I, I, I, J⟩, [0], I, by decide⟩
 rintro bm s ob ⟨rfl, rfl⟩ he
 subst he
 have h := se_l bl
 have e3 : decide (((a.Stations.length : Nat) : Int) < (a.Stations.length : Int)) = false := by simp
 refine AW.z I (AW.seqG (fun g7 g8 => (AW.condK (v := false) I e3 (AW.exit ?_))))
 exact lg ⟨(), h, I, I⟩ [0]
 rintro s ob ⟨bk, h, rfl, rfl⟩
 unfold L.zgcl.J10 at h
 refine AW.seq (AW.cutX (fun s ob => s = [(218, .v (.bool ((!(L.zmae a.Vapour (-100000) 100000000)) || (!(L.zmae a.Settle 0 100)))))] ∧ ob = []) [] J ?_ ?_)
 refine AW.region (AO.r 2 [.o 1 0] I ⟨I, J⟩ (AO.c (L.zmae_ok a.Vapour (-100000) 100000000 _ I) (AO.q 2 I ?_)))
 rcases bt ((!(L.zmae a.Vapour (-100000) 100000000))) with P | P
 refine AO.known 213 I P (AO.q 5 I (AO.nil ?_))
 exact lf ⟨I, I⟩ ⟨(get_b (by simp only [P, bz])), J⟩ [] I
 refine AO.known 213 I P (AO.r 2 [.o 1 0] I ⟨I, J⟩ (AO.gt I I I (AO.c (L.zmae_ok a.Settle 0 100 _ I) (AO.q 2 I (AO.nil ?_)))))
 exact lf ⟨I, I⟩ ⟨(get_b (by simp only [P, bz])), J⟩ [] I
 rintro s ob ⟨rfl, rfl⟩
 refine AW.ch h I ?_ ?_
 intro e4 h
 refine AW.z I ?_
 obtain rfl := oi h
 exact AW.ret pr
 intro e4 h
 refine AW.skip (AW.z I ?_)
 obtain rfl := oi h
 exact AW.ret pr
end Go.Proofs.YtaliejncdnegeaaGreat
