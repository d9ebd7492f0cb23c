/- Walks that show what functions of the program compute; printed by a program of ours. No condition. -/
import Derived.Test.YtmaamhgjeampmaaGreatYsL2
import Derived.Test.YtmaamhgjeampmaaGreatYsD
set_option maxRecDepth 100000
namespace Go.Proofs.YtmaamhgjeampmaaGreat
open Go.Aw
set_option linter.unusedVariables false
set_option linter.unusedSimpArgs false
set_option maxHeartbeats 4000000
theorem L.zmae_ok (a : Int) (c : Int) (d : Int) (r : Bool) (h : L.zmae a c d = r) : ACalls Tryz.env 111 [.V a, .V c, .V d] [] (fun x new => x = .v (.bool r) ∧ new = []) := by
 refine ACalls.of_body Tryz.func111 rfl rfl rfl (fun C hC => ?_)
 unfold L.zmae at h
 refine AW.z I (AW.cutX (fun s ob => s = [(6, .v (.bool (decide (a ≥ c) && decide (a ≤ d))))] ∧ ob = []) [] J ?_ ?_)
 refine AW.region (AO.q 4 I ?_)
 rcases bt (decide (a ≥ c)) with b | b
 refine AO.known 10 I b (AO.q 5 I (AO.nil ?_))
 exact lf ⟨I, I⟩ ⟨(get_b (by simp only [b, bz])), J⟩ [] I
 refine AO.known 10 I b (AO.q 5 I (AO.nil ?_))
 exact lf ⟨I, I⟩ ⟨(get_b (by simp only [b, bz])), J⟩ [] I
 rintro s ob ⟨rfl, rfl⟩
 obtain rfl := h
 exact AW.ret pr
theorem L.zghg_ok (a : Network) (r : Arr (List ByteArray) 4) (h : L.zghg a = some r) : ACalls Tryz.env 112 [.agg (Network.row a)] [] (fun x new => x = .agg (r.l.map (cL 1 rS)) ∧ new = []) := by
 refine ACalls.of_body Tryz.func112 rfl rfl rfl (fun C hC => ?_)
 unfold L.zghg at h
 refine AW.seqG (fun y1 U => (AW.region (AO.act [] I (AX.box (cs := Network.row a) (m := 6) I I I dS (fun u => (AO.act [] I (AX.alloc (cs := [.N, .N, .N, .N]) (m := 4) I I I I I dS (fun f => (AO.nil ?_)))))))))
 subst U
 refine AW.seqG (fun y4 W => (AW.region (AO.act [] I (AX.alloc (cs := [.N, .N, .N, .N]) (m := 4) I I I I I dS (fun g => (AO.nil ?_))))))
 subst W
 refine AW.seqG (fun y6 X => (AW.region (AO.r 2 [.o 1 0] I ⟨I, J⟩ (AO.p (Yp.indexA (m := 0) I I I I I I (le_ble I)) I (AO.act [2] I (AX.st 2 0 0 [[.list 1 (a.Nodes.map rS), .N, .N, .N]] I (AO.nil ?_)))))))
 subst X
 refine AW.cutX (fun s ob => ∃ (c : List ByteArray) (b : Value), L.zghg.J1 a c = some r ∧ s = [] ∧ ob = [.arr u 32 6 1 [Network.row a], .arr f 158 4 1 [[.N, .N, .N, .N]], .arr g 158 4 1 [[.list 1 (a.Nodes.map rS), .v b, .N, .N]], .us b 9 1 (c.map rS)]) [(1, _), (2, _), (3, _)] ⟨I, I, I, J⟩ ?_ ?_
 refine AW.zr [.o 1 0, .l 2 (a.Segments.length : Int)] I ⟨len_m, I, J⟩ (AW.block (AW.lm 14 I (fun Y => (AW.ghost (Ghost.nilU 9 1) ?_))))
 obtain ⟨a5, Z, aa⟩ := ob_some h
 clear h
 refine AW.forY Z [(1, _), (2, _), (3, _), (14, _), (15, _)] ⟨I, I, I, I, I, J⟩ (fun (w : Nat) (y : List ByteArray) s ob => ∃ (j : Value), s = [(16, .V (w : Int))] ∧ ob = [.arr u 32 6 1 [Network.row a], .arr f 158 4 1 [[.N, .N, .N, .N]], .arr g 158 4 1 [[.list 1 (a.Nodes.map rS), .v j, .N, .N]], .us j 9 1 (y.map rS)]) ⟨(.slice none 0 0), I, I⟩ ⟨I, J⟩ ⟨[0, 1, 2, 3], I, by decide⟩ ?_ ?_
 rintro w F y a6 s ob ab M ⟨j, rfl, rfl⟩ h
 unfold L.zghg.B6 at h
 have ac := lt_t M
 refine AW.z I (AW.seqG (fun a7 ad => (AW.condK (v := true) I ac (AW.skip ?_))))
 subst ad
 refine AW.seq (AW.block (AW.seq (AW.region (AO.r 2 [.x 0 w (Segment.row F)] I ⟨⟨I, map_get ab⟩, J⟩ (AO.act [] I (AX.alloc (cs := [.v (.string ⟨#[]⟩), .V 0, .V 0, .V 0, .V 0, .V 0, .N]) (m := 7) I I I I I dS (fun a8 => (AO.act [4] I (AX.st 4 0 0 [Segment.row F] I (AO.nil ?_))))))))))
 obtain ⟨a9, ae, h⟩ := ob_some h
 refine AW.region (AO.p (Yp.indexA (m := 1) I I I I I I (le_ble I)) I (AO.r 3 [.o 0 2, .o 2 4] I ⟨I, I, J⟩ (AO.act [] I (AX.lt 1 (([F.Name] : List ByteArray).map rS) (AO.act [3] I (AX.ap 3 I ae (fun O => (AO.p (Yp.indexA (m := 1) I I I I I I (le_ble I)) I (AO.one 3 I (fun af => (AO.act [2] I (AX.store 2 0 1 (es' := [[.list 1 (a.Nodes.map rS), .v O, .N, .N]]) I I I I I I (cells_v af) I (le_ble I) I I (AO.nil (AW.region (AO.r 2 [.k 0 (w + 1 : Nat)] I ⟨cast_wr M Y, J⟩ ?_)))))))))))))))
 obtain rfl := oi h
 refine AO.nil ?_
 exact lg ⟨O, I, I⟩ [0, 1, 2, 3]
 rintro y s ob ⟨j, rfl, rfl⟩ he
 subst he
 have h := aa
 have ag := lt_f a.Segments.length
 refine AW.z I (AW.seqG (fun ba bb => (AW.condK (v := false) I ag (AW.exit ?_))))
 exact lg ⟨y, j, h, I, I⟩ [0, 1, 2, 3]
 rintro s ob ⟨c, b, h, rfl, rfl⟩
 unfold L.zghg.J1 at h
 refine AW.cutX (fun s ob => ∃ (e : List ByteArray) (d : Value), L.zghg.J2 a c e = some r ∧ s = [] ∧ ob = [.arr u 32 6 1 [Network.row a], .arr f 158 4 1 [[.N, .N, .N, .N]], .arr g 158 4 1 [[.list 1 (a.Nodes.map rS), .v b, .v d, .N]], .us b 9 1 (c.map rS), .us d 9 1 (e.map rS)]) [(1, _), (2, _), (3, _)] ⟨I, I, I, J⟩ ?_ ?_
 refine AW.zr [.o 1 0, .l 2 (a.Ports.length : Int)] I ⟨len_m, I, J⟩ (AW.block (AW.lm 29 I (fun ah => (AW.ghost (Ghost.nilU 9 1) ?_))))
 obtain ⟨bc, ai, aj⟩ := ob_some h
 clear h
 refine AW.forY ai [(1, _), (2, _), (3, _), (29, _), (30, _)] ⟨I, I, I, I, I, J⟩ (fun (A : Nat) (B : List ByteArray) s ob => ∃ (n : Value), s = [(31, .V (A : Int))] ∧ ob = [.arr u 32 6 1 [Network.row a], .arr f 158 4 1 [[.N, .N, .N, .N]], .arr g 158 4 1 [[.list 1 (a.Nodes.map rS), .v b, .v n, .N]], .us b 9 1 (c.map rS), .us n 9 1 (B.map rS)]) ⟨(.slice none 0 0), I, I⟩ ⟨I, J⟩ ⟨[0, 1, 2, 3, 4], I, by decide⟩ ?_ ?_
 rintro A G B bd s ob ak P ⟨n, rfl, rfl⟩ h
 unfold L.zghg.B5 at h
 have al := lt_t P
 refine AW.z I (AW.seqG (fun be am => (AW.condK (v := true) I al (AW.skip ?_))))
 subst am
 refine AW.seq (AW.block (AW.seq (AW.region (AO.r 2 [.x 0 A (Port.row G)] I ⟨⟨I, map_get ak⟩, J⟩ (AO.act [] I (AX.alloc (cs := [.v (.string ⟨#[]⟩), .V 0, .V 0]) (m := 3) I I I I I dS (fun bf => (AO.act [5] I (AX.st 5 0 0 [Port.row G] I (AO.nil ?_))))))))))
 obtain ⟨bg, an, h⟩ := ob_some h
 refine AW.region (AO.p (Yp.indexA (m := 2) I I I I I I (le_ble I)) I (AO.r 3 [.o 0 2, .o 2 5] I ⟨I, I, J⟩ (AO.act [] I (AX.lt 1 (([G.Name] : List ByteArray).map rS) (AO.act [4] I (AX.ap 4 I an (fun Q => (AO.p (Yp.indexA (m := 2) I I I I I I (le_ble I)) I (AO.one 4 I (fun ao => (AO.act [2] I (AX.store 2 0 2 (es' := [[.list 1 (a.Nodes.map rS), .v b, .v Q, .N]]) I I I I I I (cells_v ao) I (le_ble I) I I (AO.nil (AW.region (AO.r 2 [.k 0 (A + 1 : Nat)] I ⟨cast_wr P ah, J⟩ ?_)))))))))))))))
 obtain rfl := oi h
 refine AO.nil ?_
 exact lg ⟨Q, I, I⟩ [0, 1, 2, 3, 4]
 rintro B s ob ⟨n, rfl, rfl⟩ he
 subst he
 have h := aj
 have aq := lt_f a.Ports.length
 refine AW.z I (AW.seqG (fun bh bi => (AW.condK (v := false) I aq (AW.exit ?_))))
 exact lg ⟨B, n, h, I, I⟩ [0, 1, 2, 3, 4]
 rintro s ob ⟨e, d, h, rfl, rfl⟩
 unfold L.zghg.J2 at h
 refine AW.cutX (fun s ob => ∃ (q : List ByteArray) (i : Value), L.zghg.J3 a c e q = some r ∧ s = [] ∧ ob = [.arr f 158 4 1 [[.N, .N, .N, .N]], .arr g 158 4 1 [[.list 1 (a.Nodes.map rS), .v b, .v d, .v i]], .us b 9 1 (c.map rS), .us d 9 1 (e.map rS), .us i 9 1 (q.map rS)]) [(2, _), (3, _)] ⟨I, I, J⟩ ?_ ?_
 refine AW.zr [.o 1 0, .l 2 (a.Stations.length : Int)] I ⟨len_m, I, J⟩ (AW.block (AW.lm 44 I (fun ar => (AW.ghost (Ghost.nilU 9 1) ?_))))
 obtain ⟨bj, au, av⟩ := ob_some h
 clear h
 refine AW.forY au [(2, _), (3, _), (44, _), (45, _)] ⟨I, I, I, I, J⟩ (fun (D : Nat) (E : List ByteArray) s ob => ∃ (t : Value), s = [(46, .V (D : Int))] ∧ ob = [.arr f 158 4 1 [[.N, .N, .N, .N]], .arr g 158 4 1 [[.list 1 (a.Nodes.map rS), .v b, .v d, .v t]], .us b 9 1 (c.map rS), .us d 9 1 (e.map rS), .us t 9 1 (E.map rS)]) ⟨(.slice none 0 0), I, I⟩ ⟨I, J⟩ ⟨[1, 2, 3, 4, 5], I, by decide⟩ ?_ ?_
 rintro D H E bk s ob aw R ⟨t, rfl, rfl⟩ h
 unfold L.zghg.B4 at h
 have ax := lt_t R
 refine AW.z I (AW.seqG (fun bl ay => (AW.condK (v := true) I ax (AW.skip ?_))))
 subst ay
 refine AW.seq (AW.block (AW.seq (AW.region (AO.r 2 [.x 0 D (Station.row H)] I ⟨⟨I, map_get aw⟩, J⟩ (AO.act [] I (AX.alloc (cs := [.v (.string ⟨#[]⟩), .V 0, .V 0, .V 0, .V 0]) (m := 5) I I I I I dS (fun bm => (AO.act [5] I (AX.st 5 0 0 [Station.row H] I (AO.nil ?_))))))))))
 obtain ⟨bn, az, h⟩ := ob_some h
 refine AW.region (AO.p (Yp.indexA (m := 3) I I I I I I (le_ble I)) I (AO.r 3 [.o 0 1, .o 2 5] I ⟨I, I, J⟩ (AO.act [] I (AX.lt 1 (([H.Name] : List ByteArray).map rS) (AO.act [4] I (AX.ap 4 I az (fun S => (AO.p (Yp.indexA (m := 3) I I I I I I (le_ble I)) I (AO.one 4 I (fun a0 => (AO.act [1] I (AX.store 1 0 3 (es' := [[.list 1 (a.Nodes.map rS), .v b, .v d, .v S]]) I I I I I I (cells_v a0) I (le_ble I) I I (AO.nil (AW.region (AO.r 2 [.k 0 (D + 1 : Nat)] I ⟨cast_wr R ar, J⟩ ?_)))))))))))))))
 obtain rfl := oi h
 refine AO.nil ?_
 exact lg ⟨S, I, I⟩ [0, 1, 2, 3, 4]
 rintro E s ob ⟨t, rfl, rfl⟩ he
 subst he
 have h := av
 have a1 := lt_f a.Stations.length
 refine AW.z I (AW.seqG (fun bo bp => (AW.condK (v := false) I a1 (AW.exit ?_))))
 exact lg ⟨E, t, h, I, I⟩ [0, 1, 2, 3, 4]
 rintro s ob ⟨q, i, h, rfl, rfl⟩
 unfold L.zghg.J3 at h
 refine AW.seq (AW.region (AO.r 1 [.o 0 1] I ⟨I, J⟩ (AO.act [0] I (AX.st 0 0 0 [[.list 1 (a.Nodes.map rS), .v b, .v d, .v i]] I (AO.nil (AW.ghost (Ghost.freeze [2, 3, 4] (K := [.us b 9 1 (c.map rS), .us d 9 1 (e.map rS), .us i 9 1 (q.map rS)]) I [] J (ob' := [.arr f 158 4 1 [[.list 1 (a.Nodes.map rS), .list 1 (c.map rS), .list 1 (e.map rS), .list 1 (q.map rS)]], .arr g 158 4 1 [[.list 1 (a.Nodes.map rS), .v b, .v d, .v i]]]) (.cons (.arr (.cons (.refl _) (.cons (.us 0 I) (.cons (.us 1 I) (.cons (.us 2 I) (.rest _)))))) (.rest _))) (AW.gp [0] I ?_)))))))
 obtain rfl := oi h
 exact AW.ret ⟨.inr I, [_], [], ⟨⟨0, _, _, _, _, _, _, _, I, I, I, I, I⟩, J⟩, sl_n, I, I⟩
theorem L.zgmr_ok (g : ByteArray) (r : Bool) (h : L.zgmr g = some r) : ACalls Tryz.env 113 [.v (.string g)] [] (fun x new => x = .v (.bool r) ∧ new = []) := by
 refine ACalls.of_body Tryz.func113 rfl rfl rfl (fun C hC => ?_)
 unfold L.zgmr at h
 refine AW.z I (AW.seqG (fun X M => (AW.cutX (fun s ob => ∃ (y : Bool), L.zgmr.J1 g y = some r ∧ s = [(21, .v (.bool y))] ∧ ob = []) [(0, _)] ⟨I, J⟩ ?_ ?_)))
 refine AW.region (AO.q 4 I ?_)
 rcases bt (decide ((g.size : Int) < 1)) with i | i
 replace h := ife_t i h
 refine AO.known 7 I i (AO.q 14 I (AO.nil ?_))
 exact lg ⟨true, h, I, I⟩ []
 replace h := ife_f i h
 refine AO.known 7 I i ?_
 rcases bt (decide ((g.size : Int) > 12)) with j | j
 replace h := ife_t j h
 refine AO.q 5 I (AO.known 12 I j (AO.q 9 I (AO.nil ?_)))
 exact lg ⟨true, h, I, I⟩ []
 replace h := ife_f j h
 obtain ⟨f, N, h⟩ := ob_some h
 obtain ⟨D, E, F⟩ := ixs_some N
 refine AO.q 5 I (AO.known 12 I j (AO.q 1 I (AO.gt I I I (AO.p (Yp.indexStrX (m := f.1) I I I I D E F) I (AO.gt I I I (AO.p (Yp.cmpI (c := decide (f.2 < 97)) I I I) I (AO.q 2 I ?_)))))))
 rcases bt (decide (f.2 < 97)) with k | k
 replace h := ife_t k h
 refine AO.known 17 I k (AO.q 4 I (AO.nil ?_))
 exact lg ⟨true, h, I, I⟩ []
 replace h := ife_f k h
 refine AO.known 17 I k (AO.q 1 I (AO.gt I I I (AO.p (Yp.indexStrX (m := f.1) I I I I D E F) I (AO.gt I I I (AO.p (Yp.cmpI (c := decide (f.2 > 122)) I I I) I (AO.q 1 I (AO.nil ?_)))))))
 exact lg ⟨decide (f.2 > 122), h, I, I⟩ []
 rintro s ob ⟨y, h, rfl, rfl⟩
 unfold L.zgmr.J1 at h
 refine AW.ch h I ?_ ?_
 intro O h
 refine AW.z I ?_
 obtain rfl := oi h
 exact AW.ret pr
 intro O h
 refine AW.skip ?_
 subst M
 refine AW.cutX (fun s ob => ∃ (G : Unit), L.zgmr.J2 G = some r ∧ s = [] ∧ ob = []) [] J ?_ ?_
 refine AW.z I (AW.block ?_)
 obtain ⟨Y, P, H⟩ := ob_some h
 clear h
 refine AW.loopX P [(0, _)] ⟨I, J⟩ (fun (A : Int) s ob => s = [(3, .V A)] ∧ ob = []) ⟨I, I⟩ ⟨I, J⟩ ⟨[], I, by decide⟩ ?_
 rintro A Q s ob ⟨rfl, rfl⟩ h K
 unfold L.zgmr.B3 at h
 refine AW.seqG (fun Z R => (AW.z I (AW.ch h I ?_ ?_)))
 intro S h
 refine AW.skip ?_
 subst R
 refine AW.seq (AW.block (AW.cutX (fun s ob => ∃ (B : Bool), L.zgmr.J4 A B = some Q ∧ s = [(55, .v (.bool B))] ∧ ob = []) [(0, _), (3, _)] ⟨I, I, J⟩ ?_ ?_))
 obtain ⟨a, U, h⟩ := ob_some h
 obtain ⟨b, d, e⟩ := ixs_some U
 refine AW.region (AO.q 2 I (AO.p (Yp.indexStrX (m := a.1) I I I I b d e) I (AO.p (Yp.cmpI (c := decide (a.2 < 97)) I I I) I (AO.q 1 I ?_))))
 rcases bt (decide (a.2 < 97)) with l | l
 replace h := ife_t l h
 refine AO.known 32 I l (AO.q 8 I (AO.gt I I I (AO.p (Yp.indexStrX (m := a.1) I I I I b d e) I (AO.gt I I I (AO.p (Yp.cmpI (c := decide (a.2 < 48)) I I I) I (AO.q 1 I ?_))))))
 rcases bt (decide (a.2 < 48)) with n | n
 replace h := ife_t n h
 refine AO.known 43 I n (AO.q 9 I (AO.gt I I I (AO.p (Yp.indexStrX (m := a.1) I I I I b d e) I (AO.gt I I I (AO.p (Yp.cmpI (c := (a.2 != 45)) I I I) I (AO.q 1 I (AO.nil ?_)))))))
 exact lg ⟨(a.2 != 45), h, I, I⟩ []
 replace h := ife_f n h
 refine AO.known 43 I n (AO.q 2 I (AO.gt I I I (AO.p (Yp.indexStrX (m := a.1) I I I I b d e) I (AO.gt I I I (AO.p (Yp.cmpI (c := decide (a.2 > 57)) I I I) I (AO.q 3 I ?_))))))
 rcases bt (decide (a.2 > 57)) with o | o
 replace h := ife_t o h
 refine AO.known 50 I o (AO.q 2 I (AO.gt I I I (AO.p (Yp.indexStrX (m := a.1) I I I I b d e) I (AO.gt I I I (AO.p (Yp.cmpI (c := (a.2 != 45)) I I I) I (AO.q 1 I (AO.nil ?_)))))))
 exact lg ⟨(a.2 != 45), h, I, I⟩ []
 replace h := ife_f o h
 refine AO.known 50 I o (AO.q 5 I (AO.nil ?_))
 exact lg ⟨false, h, I, I⟩ []
 replace h := ife_f l h
 refine AO.known 32 I l (AO.q 2 I (AO.gt I I I (AO.p (Yp.indexStrX (m := a.1) I I I I b d e) I (AO.gt I I I (AO.p (Yp.cmpI (c := decide (a.2 > 122)) I I I) I (AO.q 2 I ?_))))))
 rcases bt (decide (a.2 > 122)) with t | t
 replace h := ife_t t h
 refine AO.known 38 I t (AO.q 2 I (AO.gt I I I (AO.p (Yp.indexStrX (m := a.1) I I I I b d e) I (AO.gt I I I (AO.p (Yp.cmpI (c := decide (a.2 < 48)) I I I) I (AO.q 1 I ?_))))))
 rcases bt (decide (a.2 < 48)) with u | u
 replace h := ife_t u h
 refine AO.known 43 I u (AO.q 9 I (AO.gt I I I (AO.p (Yp.indexStrX (m := a.1) I I I I b d e) I (AO.gt I I I (AO.p (Yp.cmpI (c := (a.2 != 45)) I I I) I (AO.q 1 I (AO.nil ?_)))))))
 exact lg ⟨(a.2 != 45), h, I, I⟩ []
 replace h := ife_f u h
 refine AO.known 43 I u (AO.q 2 I (AO.gt I I I (AO.p (Yp.indexStrX (m := a.1) I I I I b d e) I (AO.gt I I I (AO.p (Yp.cmpI (c := decide (a.2 > 57)) I I I) I (AO.q 3 I ?_))))))
 rcases bt (decide (a.2 > 57)) with w | w
 replace h := ife_t w h
 refine AO.known 50 I w (AO.q 2 I (AO.gt I I I (AO.p (Yp.indexStrX (m := a.1) I I I I b d e) I (AO.gt I I I (AO.p (Yp.cmpI (c := (a.2 != 45)) I I I) I (AO.q 1 I (AO.nil ?_)))))))
 exact lg ⟨(a.2 != 45), h, I, I⟩ []
 replace h := ife_f w h
 refine AO.known 50 I w (AO.q 5 I (AO.nil ?_))
 exact lg ⟨false, h, I, I⟩ []
 replace h := ife_f t h
 refine AO.known 38 I t (AO.q 5 I (AO.skipU I I dS (AO.skipU I I dS (AO.skipU I I dS (AO.skipU I I dS (AO.q 8 I (AO.nil ?_)))))))
 exact lg ⟨false, h, I, I⟩ []
 rintro s ob ⟨B, h, rfl, rfl⟩
 unfold L.zgmr.J4 at h
 refine AW.ch h I ?_ ?_
 intro W h
 refine AW.z I ?_
 obtain rfl := K _ (oi h).symm
 replace h := H
 replace h := se_l h
 obtain rfl := oi h
 exact AW.ret pr
 intro W h
 refine AW.skip (AW.region (AO.q 3 I ?_))
 obtain rfl := oi h
 refine AO.nil ?_
 exact ⟨_, _, _, I, ⟨I, I⟩, ⟨I, I, J⟩, [], I, by decide⟩
 intro S h
 obtain rfl := K _ (oi h).symm
 replace h := H
 replace h := se_r h
 refine AW.exit ?_
 exact lg ⟨(), h, I, I⟩ []
 rintro s ob ⟨G, h, rfl, rfl⟩
 unfold L.zgmr.J2 at h
 refine AW.z I ?_
 obtain rfl := oi h
 exact AW.ret pr
theorem L.zaag_ok (a : List ByteArray) (r : Bool) (h : L.zaag a = some r) : ACalls Tryz.env 114 [.list 1 (a.map rS)] [] (fun x new => x = .v (.bool r) ∧ new = []) := by
 refine ACalls.of_body Tryz.func114 rfl rfl rfl (fun C hC => ?_)
 unfold L.zaag at h
 refine AW.z I (AW.cutX (fun s ob => ∃ (e : Unit), L.zaag.J1 e = some r ∧ s = [] ∧ ob = []) [] J ?_ ?_)
 refine AW.zr [.l 1 (a.length : Int)] I ⟨len_m, J⟩ (AW.block (AW.lm 5 I (fun t => ?_)))
 obtain ⟨O, u, f⟩ := ob_some h
 clear h
 refine AW.forX u [(0, _), (6, _)] ⟨I, I, J⟩ (fun (b : Nat) (g : Unit) s ob => s = [(7, .V (b : Int))] ∧ ob = []) ⟨I, I⟩ ⟨I, J⟩ ⟨[], I, by decide⟩ ?_ ?_
 rintro b i g w s ob y j ⟨rfl, rfl⟩ h A
 unfold L.zaag.B2 at h
 have B := lt_t j
 refine AW.z I (AW.seqG (fun P D => (AW.condK (v := true) I B (AW.skip ?_))))
 subst D
 refine AW.cutX (fun s ob => ∃ (m : Unit), L.zaag.J3 m = some w ∧ s = [] ∧ ob = []) [(0, _), (6, _), (7, _)] ⟨I, I, I, J⟩ ?_ ?_
 refine AW.block (AW.z I (AW.z I (AW.block ?_)))
 obtain ⟨Q, E, n⟩ := ob_some h
 clear h
 refine AW.loopX E [(0, _), (3, _), (6, _), (7, _)] ⟨I, I, I, I, J⟩ (fun (o : Int) s ob => s = [(4, .V o)] ∧ ob = []) ⟨I, I⟩ ⟨I, J⟩ ⟨[], I, by decide⟩ ?_
 rintro o R s ob ⟨rfl, rfl⟩ h p
 unfold L.zaag.B4 at h
 refine AW.seqG (fun S F => (AW.z I (AW.ch h I ?_ ?_)))
 intro G h
 refine AW.skip ?_
 subst F
 refine AW.seq (AW.block (AW.seq ?_))
 obtain ⟨d, ⟨H, K⟩, h⟩ := ob_ix h
 refine AW.rd (pd 9 0 []) [] [] I (AP.r 8 [.x 2 b (rS i), .x 6 d.1 (rS d.2)] I ⟨⟨H, map_get K⟩, ⟨I, map_get y⟩, J⟩ (AP.op I (Yp.cmpS (c := sEq i d.2) I I I) I (AP.ofAO (AO.nil (AW.ch h I ?_ ?_)))))
 intro M h
 refine AW.z I ?_
 obtain rfl := p _ (oi h).symm
 replace h := n
 replace h := se_l h
 obtain rfl := A _ (oi h).symm
 replace h := f
 replace h := se_r h
 obtain rfl := oi h
 exact AW.ret pr
 intro M h
 refine AW.skip (AW.region (AO.q 3 I ?_))
 obtain rfl := oi h
 refine AO.nil ?_
 exact ⟨_, _, _, I, ⟨I, I⟩, ⟨I, I, I, I, I, J⟩, [], I, by decide⟩
 intro G h
 obtain rfl := p _ (oi h).symm
 replace h := n
 replace h := se_r h
 refine AW.exit ?_
 exact lg ⟨(), h, I, I⟩ []
 rintro s ob ⟨m, h, rfl, rfl⟩
 unfold L.zaag.J3 at h
 refine AW.region (AO.r 2 [.k 0 (b + 1 : Nat)] I ⟨cast_wr j t, J⟩ ?_)
 obtain rfl := oi h
 refine AO.nil ?_
 exact ⟨_, _, _, I, ⟨I, I⟩, ⟨I, I, I, J⟩, [], I, by decide⟩
 rintro g s ob ⟨rfl, rfl⟩ he
 subst he
 have h := se_l f
 have N := lt_f a.length
 refine AW.z I (AW.seqG (fun U W => (AW.condK (v := false) I N (AW.exit ?_))))
 exact lg ⟨(), h, I, I⟩ []
 rintro s ob ⟨e, h, rfl, rfl⟩
 unfold L.zaag.J1 at h
 refine AW.z I ?_
 obtain rfl := oi h
 exact AW.ret pr
theorem L.zimi_ok (a : Segment) (r : Bool) (h : L.zimi a = some r) : ACalls Tryz.env 115 [.agg (Segment.row a)] [] (fun x new => x = .v (.bool r) ∧ new = []) := by
 refine ACalls.of_body Tryz.func115 rfl rfl rfl (fun C hC => ?_)
 unfold L.zimi at h
 refine AW.seqG (fun y1 K => (AW.region (AO.act [] I (AX.box (cs := Segment.row a) (m := 7) I I I dS (fun u => (AO.q 1 I (AO.nil ?_)))))))
 subst K
 refine AW.seqG (fun y3 M => (AW.cutX (fun s ob => ∃ (w : Bool), L.zimi.J1 a w = some r ∧ s = [(49, .v (.bool w))] ∧ ob = [.arr u 83 7 1 [Segment.row a]]) [(1, _)] ⟨I, J⟩ ?_ ?_))
 refine AW.rd (pd 45 0 [8, 14, 20]) [0] [_] I (AP.r 6 [.o 1 0, .o 3 0] I ⟨I, I, J⟩ ?_)
 rcases bt ((a.From == a.To)) with c | c
 replace h := ife_t c h
 refine AP.known 10 I c (AP.q 39 I (AP.ofAO (AO.nil ?_)))
 exact lg ⟨true, h, I, I⟩ [0]
 replace h := ife_f c h
 refine AP.known 10 I c (AP.r 2 [.o 1 0] I ⟨I, J⟩ (AP.cG I (L.zmae_ok a.Capacity 1 1000000 _ I) (AP.q 3 I ?_)))
 rcases bt ((!(L.zmae a.Capacity 1 1000000))) with d | d
 replace h := ife_t d h
 refine AP.known 16 I d (AP.q 33 I (AP.ofAO (AO.nil ?_)))
 exact lg ⟨true, h, I, I⟩ [0]
 replace h := ife_f d h
 refine AP.known 16 I d (AP.r 2 [.o 1 0] I ⟨I, J⟩ (AP.cG I (L.zmae_ok a.Resist 0 1000 _ I) (AP.q 3 I ?_)))
 rcases bt ((!(L.zmae a.Resist 0 1000))) with e | e
 replace h := ife_t e h
 refine AP.known 22 I e (AP.q 27 I (AP.ofAO (AO.nil ?_)))
 exact lg ⟨true, h, I, I⟩ [0]
 replace h := ife_f e h
 refine AP.known 22 I e (AP.r 2 [.o 1 0] I ⟨I, J⟩ (AP.cG I (L.zmae_ok a.Wave 0 100000 _ I) (AP.q 3 I ?_)))
 rcases bt ((!(L.zmae a.Wave 0 100000))) with f | f
 replace h := ife_t f h
 refine AP.known 28 I f (AP.q 21 I (AP.ofAO (AO.nil ?_)))
 exact lg ⟨true, h, I, I⟩ [0]
 replace h := ife_f f h
 obtain ⟨y, ⟨N, O⟩, h⟩ := ob_ix h
 refine AP.known 28 I f (AP.r 8 [.o 1 0, .x 2 y.1 (Point.row y.2)] I ⟨⟨N, map_get O⟩, I, J⟩ ?_)
 rcases bt ((y.2.At != 0)) with g | g
 replace h := ife_t g h
 refine AP.known 36 I g (AP.q 13 I (AP.ofAO (AO.nil ?_)))
 exact lg ⟨true, h, I, I⟩ [0]
 replace h := ife_f g h
 obtain ⟨A, ⟨P, Q⟩, h⟩ := ob_ix h
 refine AP.known 36 I g (AP.r 13 [.o 1 0, .o 3 0, .l 4 (a.Points.length : Int), .x 6 A.1 (Point.row A.2), .o 10 0] I ⟨I, ⟨P, map_get Q⟩, len_m, I, I, J⟩ (AP.ofAO (AO.nil ?_)))
 exact lg ⟨(A.2.At != a.Capacity), h, I, I⟩ [0]
 rintro s ob ⟨w, h, rfl, rfl⟩
 unfold L.zimi.J1 at h
 refine AW.ch h I ?_ ?_
 intro R h
 refine AW.z I (AW.ghost g0 ?_)
 obtain rfl := oi h
 exact AW.ret pr
 intro R h
 refine AW.skip ?_
 subst M
 refine AW.cutX (fun s ob => ∃ (E : Unit), L.zimi.J2 E = some r ∧ s = [] ∧ ob = []) [] J ?_ ?_
 refine AW.zr [.o 1 0, .l 2 (a.Points.length : Int)] I ⟨len_m, I, J⟩ (AW.block (AW.lm 51 I (fun S => ?_)))
 obtain ⟨ai, U, F⟩ := ob_some h
 clear h
 refine AW.forX U [(1, _), (51, _), (52, _)] ⟨I, I, I, J⟩ (fun (i : Nat) (G : Unit) s ob => s = [(53, .V (i : Int))] ∧ ob = [.arr u 83 7 1 [Segment.row a]]) ⟨I, I⟩ ⟨I, J⟩ ⟨[0], I, by decide⟩ ?_ ?_
 rintro i b G W s ob X H ⟨rfl, rfl⟩ h Y
 unfold L.zimi.B3 at h
 have Z := lt_t H
 refine AW.z I (AW.seqG (fun aj aa => (AW.condK (v := true) I Z (AW.skip ?_))))
 subst aa
 refine AW.seq (AW.block (AW.seqG (fun ak ab => (AW.region (AO.r 3 [.x 1 i (Point.row b)] I ⟨⟨I, map_get X⟩, J⟩ (AO.act [] I (AX.alloc (cs := [.V 0, .V 0, .V 0]) (m := 3) I I I I I dS (fun al => (AO.q 1 I (AO.act [1] I (AX.st 1 0 0 [Point.row b] I (AO.nil ?_))))))))))))
 subst ab
 refine AW.cutX (fun s ob => ∃ (B : Bool), L.zimi.J4 B = some W ∧ s = [(83, .v (.bool B))] ∧ ob = [.arr u 83 7 1 [Segment.row a]]) [(1, _), (51, _), (52, _), (53, _)] ⟨I, I, I, I, J⟩ ?_ ?_
 rcases bt (decide ((i : Int) > 0)) with j | j
 replace h := ife_t j h
 obtain ⟨D, ⟨ac, ad⟩, h⟩ := ob_ix h
 refine AW.rd (pd 26 0 [17, 23]) [1, 0] [_, _] I (AP.q 3 I (AP.known 60 I j (AP.r 12 [.o 1 0, .o 3 1, .x 6 D.1 (Point.row D.2)] I ⟨⟨ac, map_get ad⟩, I, I, J⟩ ?_)))
 rcases bt (decide (b.At ≤ D.2.At)) with n | n
 replace h := ife_t n h
 refine AP.known 72 I n (AP.q 11 I (AP.ofAO (AO.nil ?_)))
 exact lg ⟨true, h, I, I⟩ [0]
 replace h := ife_f n h
 refine AP.known 72 I n (AP.r 2 [.o 1 0] I ⟨I, J⟩ (AP.cG I (L.zmae_ok b.Height (-500) 5000 _ I) (AP.q 3 I ?_)))
 rcases bt ((!(L.zmae b.Height (-500) 5000))) with p | p
 replace h := ife_t p h
 refine AP.known 78 I p (AP.q 5 I (AP.ofAO (AO.nil ?_)))
 exact lg ⟨true, h, I, I⟩ [0]
 replace h := ife_f p h
 refine AP.known 78 I p (AP.r 2 [.o 1 0] I ⟨I, J⟩ (AP.cG I (L.zmae_ok b.Limit 0 100000000 _ I) (AP.q 2 I (AP.ofAO (AO.nil ?_)))))
 exact lg ⟨(!(L.zmae b.Limit 0 100000000)), h, I, I⟩ [0]
 replace h := ife_f j h
 refine AW.rd (pd 26 0 [17, 23]) [1] [_] I (AP.q 3 I (AP.known 60 I j (AP.r 14 [.o 13 0] I ⟨I, J⟩ (AP.cG I (L.zmae_ok b.Height (-500) 5000 _ I) (AP.q 3 I ?_)))))
 rcases bt ((!(L.zmae b.Height (-500) 5000))) with t | t
 replace h := ife_t t h
 refine AP.known 78 I t (AP.q 5 I (AP.ofAO (AO.nil ?_)))
 exact lg ⟨true, h, I, I⟩ [0]
 replace h := ife_f t h
 refine AP.known 78 I t (AP.r 2 [.o 1 0] I ⟨I, J⟩ (AP.cG I (L.zmae_ok b.Limit 0 100000000 _ I) (AP.q 2 I (AP.ofAO (AO.nil ?_)))))
 exact lg ⟨(!(L.zmae b.Limit 0 100000000)), h, I, I⟩ [0]
 rintro s ob ⟨B, h, rfl, rfl⟩
 unfold L.zimi.J4 at h
 refine AW.ch h I ?_ ?_
 intro ae h
 refine AW.z I ?_
 obtain rfl := Y _ (oi h).symm
 replace h := F
 replace h := se_r h
 refine AW.ghost g0 ?_
 obtain rfl := oi h
 exact AW.ret pr
 intro ae h
 refine AW.skip (AW.region (AO.r 2 [.k 0 (i + 1 : Nat)] I ⟨cast_wr H S, J⟩ ?_))
 obtain rfl := oi h
 refine AO.nil ?_
 exact ⟨_, _, _, I, ⟨I, I⟩, ⟨I, I, I, I, J⟩, [0], I, by decide⟩
 rintro G s ob ⟨rfl, rfl⟩ he
 subst he
 have h := se_l F
 have af := lt_f a.Points.length
 refine AW.z I (AW.seqG (fun am an => (AW.condK (v := false) I af (AW.exit ?_))))
 exact lg ⟨(), h, I, I⟩ []
 rintro s ob ⟨E, h, rfl, rfl⟩
 unfold L.zimi.J2 at h
 refine AW.z I ?_
 obtain rfl := oi h
 exact AW.ret pr
theorem L.zgcl_ok (a : Network) (r : Int) (h : L.zgcl a = some r) : ACalls Tryz.env 69 [.agg (Network.row a)] [] (fun x new => x = .V r ∧ new = []) := by
 refine ACalls.of_body Tryz.func69 rfl rfl rfl (fun C hC => ?_)
 unfold L.zgcl at h
 refine AW.seqG (fun y1 bn => (AW.region (AO.act [] I (AX.box (cs := Network.row a) (m := 6) I I I dS (fun b => (AO.q 1 I (AO.nil ?_)))))))
 subst bn
 refine AW.seqG (fun y3 bo => (AW.jb 49 ((!(L.zmae (a.Nodes.length : Int) 1 24)) || (decide ((a.Segments.length : Int) > 32) || (decide ((a.Ports.length : Int) > 24) || decide ((a.Stations.length : Int) > 12)))) ?_ ?_))
 refine AW.region (AO.r 3 [.o 1 0, .l 2 (a.Nodes.length : Int)] I ⟨len_m, I, J⟩ (AO.c (L.zmae_ok (a.Nodes.length : Int) 1 24 _ I) (AO.q 2 I ?_)))
 rcases bt ((!(L.zmae (a.Nodes.length : Int) 1 24))) with g | g
 refine AO.known 32 I g (AO.q 17 I (AO.nil ?_))
 exact jf (by simp only [g, bz]) I I ⟨I, I⟩
 refine AO.known 32 I g (AO.r 6 [.o 1 0, .l 2 (a.Segments.length : Int)] I ⟨len_m, I, J⟩ ?_)
 rcases bt (decide ((a.Segments.length : Int) > 32)) with j | j
 refine AO.known 38 I j (AO.q 11 I (AO.nil ?_))
 exact jf (by simp only [g, j, bz]) I I ⟨I, I⟩
 refine AO.known 38 I j (AO.r 6 [.o 1 0, .l 2 (a.Ports.length : Int)] I ⟨len_m, I, J⟩ ?_)
 rcases bt (decide ((a.Ports.length : Int) > 24)) with t | t
 refine AO.known 44 I t (AO.q 5 I (AO.nil ?_))
 exact jf (by simp only [g, j, t, bz]) I I ⟨I, I⟩
 refine AO.known 44 I t (AO.r 5 [.o 1 0, .l 2 (a.Stations.length : Int)] I ⟨len_m, I, J⟩ (AO.nil ?_))
 exact jf (by simp only [g, j, t, bz]) I I ⟨I, I⟩
 refine AW.ch h I ?_ ?_
 intro bp h
 refine AW.z I (AW.ghost g0 ?_)
 obtain rfl := oi h
 exact AW.ret pr
 intro bp h
 refine AW.skip ?_
 subst bo
 refine AW.cutX (fun s ob => ∃ (Z : Unit), L.zgcl.J1 a Z = some r ∧ s = [] ∧ ob = [.arr b 32 6 1 [Network.row a]]) [(1, _)] ⟨I, J⟩ ?_ ?_
 refine AW.zr [.o 1 0, .l 2 (a.Segments.length : Int)] I ⟨len_m, I, J⟩ (AW.block (AW.lm 51 I (fun bq => ?_)))
 obtain ⟨e4, br, aa⟩ := ob_some h
 clear h
 refine AW.forX br [(1, _), (51, _), (52, _)] ⟨I, I, I, J⟩ (fun (B : Nat) (ab : Unit) s ob => s = [(53, .V (B : Int))] ∧ ob = [.arr b 32 6 1 [Network.row a]]) ⟨I, I⟩ ⟨I, J⟩ ⟨[0], I, by decide⟩ ?_ ?_
 rintro B D ab e5 s ob bs ac ⟨rfl, rfl⟩ h bu
 unfold L.zgcl.B24 at h
 have bv := lt_t ac
 refine AW.z I (AW.seqG (fun e6 bw => (AW.condK (v := true) I bv (AW.skip ?_))))
 subst bw
 refine AW.seq (AW.block (AW.seq (AW.region (AO.r 2 [.x 0 B (Segment.row D)] I ⟨⟨I, map_get bs⟩, J⟩ (AO.act [] I (AX.alloc (cs := [.v (.string ⟨#[]⟩), .V 0, .V 0, .V 0, .V 0, .V 0, .N]) (m := 7) I I I I I dS (fun e7 => (AO.act [1] I (AX.st 1 0 0 [Segment.row D] I (AO.nil (AW.seq (AW.region (AO.r 3 [.o 1 1, .l 2 (D.Points.length : Int)] I ⟨len_m, I, J⟩ (AO.c (L.zmae_ok (D.Points.length : Int) 2 8 _ I) (AO.q 1 I ?_)))))))))))))))
 refine AO.nil (AW.ch h I ?_ ?_)
 intro bx h
 refine AW.z I ?_
 obtain rfl := bu _ (oi h).symm
 replace h := aa
 replace h := se_r h
 refine AW.ghost g0 ?_
 obtain rfl := oi h
 exact AW.ret pr
 intro bx h
 refine AW.skip (AW.region (AO.r 2 [.k 0 (B + 1 : Nat)] I ⟨cast_wr ac bq, J⟩ ?_))
 obtain rfl := oi h
 refine AO.nil ?_
 exact ⟨_, _, _, I, ⟨I, I⟩, ⟨I, I, I, I, J⟩, [0], I, by decide⟩
 rintro ab s ob ⟨rfl, rfl⟩ he
 subst he
 have h := se_l aa
 have b0 := lt_f a.Segments.length
 refine AW.z I (AW.seqG (fun e8 e9 => (AW.condK (v := false) I b0 (AW.exit ?_))))
 exact lg ⟨(), h, I, I⟩ [0]
 rintro s ob ⟨Z, h, rfl, rfl⟩
 unfold L.zgcl.J1 at h
 refine AW.seqG (fun fa b1 => ?_)
 obtain ⟨f, b3, h⟩ := ob_some h
 refine AW.region (AO.r 1 [.o 0 0] I ⟨I, J⟩ (AO.act [] I (AX.call0 I I I (L.zghg_ok _ _ b3) dS ?_)))
 rintro _ _ ⟨rfl, rfl⟩
 refine AO.act [] I (AX.alloc (cs := [.N, .N, .N, .N]) (m := 4) I I I I I dS (fun E => (AO.act [1] I (AX.store 1 0 0 (es' := [f.l.map (cL 1 rS)]) I I I I I I I (by simp [Arr.h, flow_streams.row]) (by simp [Arr.h, flow_streams.row]) I (congrArg (fun r => [r]) (setC_all (by simp [Arr.h, flow_streams.row]))) (AO.nil ?_)))))
 subst b1
 refine AW.cutX (fun s ob => ∃ (ad : Unit), L.zgcl.J2 a f ad = some r ∧ s = [] ∧ ob = [.arr b 32 6 1 [Network.row a], .arr E 158 4 1 [f.l.map (cL 1 rS)]]) [(1, _), (5, _)] ⟨I, I, J⟩ ?_ ?_
 refine AW.seqG (fun fb b4 => (AW.region (AO.d (Yd.loadO 1 0 0 I I I I I (y := .agg (f.l.map (cL 1 rS))) (part_all I (by simp [Arr.h, flow_streams.row]))) I (AO.q 1 I (AO.nil ?_)))))
 subst b4
 refine AW.block ?_
 have b5 : (4 : Nat) ≤ 9223372036854775806 := by decide
 obtain ⟨fc, b6, ae⟩ := ob_some h
 clear h
 refine AW.forIX b6 [(1, _), (5, _), (65, _)] ⟨I, I, I, J⟩ (fun (F : Nat) (af : Unit) s ob => s = [(66, .V (F : Int))] ∧ ob = [.arr b 32 6 1 [Network.row a], .arr E 158 4 1 [f.l.map (cL 1 rS)]]) ⟨I, I⟩ ⟨I, J⟩ ⟨[0, 1], I, by decide⟩ ?_ ?_
 rintro F af b7 s ob b8 ⟨rfl, rfl⟩ h b9
 unfold L.zgcl.B21 at h
 have ca : decide ((F : Int) < 4) = true := decide_eq_true (by omega)
 refine AW.z I (AW.seqG (fun fd cb => (AW.condK (v := true) I ca (AW.skip ?_))))
 subst cb
 refine AW.cutX (fun s ob => ∃ (ag : Unit), L.zgcl.J22 ag = some b7 ∧ s = [] ∧ ob = [.arr b 32 6 1 [Network.row a], .arr E 158 4 1 [f.l.map (cL 1 rS)]]) [(1, _), (5, _), (65, _), (66, _)] ⟨I, I, I, I, J⟩ ?_ ?_
 refine AW.block (AW.seqG (fun fe cc => ?_))
 obtain ⟨U, ⟨cd, ce⟩, h⟩ := ob_ix h
 refine AW.region (AO.p (Yp.indexAgM (m := U.1) I I I I I I I cd ce (hlen := Arr.h _)) I (AO.q 1 I (AO.nil ?_)))
 subst cc
 refine AW.zr [.l 1 (U.2.length : Int)] I ⟨len_m, J⟩ (AW.block (AW.lm 69 I (fun cf => ?_)))
 obtain ⟨ff, cg, ah⟩ := ob_some h
 clear h
 refine AW.forX cg [(1, _), (5, _), (65, _), (66, _), (69, _), (70, _)] ⟨I, I, I, I, I, I, J⟩ (fun (G : Nat) (ai : Unit) s ob => s = [(71, .V (G : Int))] ∧ ob = [.arr b 32 6 1 [Network.row a], .arr E 158 4 1 [f.l.map (cL 1 rS)]]) ⟨I, I⟩ ⟨I, J⟩ ⟨[0, 1], I, by decide⟩ ?_ ?_
 rintro G ci ai fg s ob cj aj ⟨rfl, rfl⟩ h ck
 unfold L.zgcl.B23 at h
 have cl := lt_t aj
 refine AW.z I (AW.seqG (fun fh cm => (AW.condK (v := true) I cl (AW.skip ?_))))
 subst cm
 refine AW.seq (AW.block (AW.zr [.x 0 G (rS ci)] I ⟨⟨I, map_get cj⟩, J⟩ (AW.seq ?_)))
 obtain ⟨fi, cn, h⟩ := ob_some h
 refine AW.region (AO.q 1 I (AO.c (L.zgmr_ok _ _ cn) (AO.q 1 I (AO.nil (AW.ch h I ?_ ?_)))))
 intro co h
 refine AW.z I ?_
 obtain rfl := ck _ (oi h).symm
 replace h := ah
 replace h := se_r h
 obtain rfl := b9 _ (oi h).symm
 replace h := ae
 replace h := se_r h
 refine AW.ghost g0 ?_
 obtain rfl := oi h
 exact AW.ret pr
 intro co h
 refine AW.skip (AW.region (AO.r 2 [.k 0 (G + 1 : Nat)] I ⟨cast_wr aj cf, J⟩ ?_))
 obtain rfl := oi h
 refine AO.nil ?_
 exact ⟨_, _, _, I, ⟨I, I⟩, ⟨I, I, I, I, I, I, I, J⟩, [0, 1], I, by decide⟩
 rintro ai s ob ⟨rfl, rfl⟩ he
 subst he
 have h := se_l ah
 have cp := lt_f U.2.length
 refine AW.z I (AW.seqG (fun fj fk => (AW.condK (v := false) I cp (AW.exit ?_))))
 exact lg ⟨(), h, I, I⟩ [0, 1]
 rintro s ob ⟨ag, h, rfl, rfl⟩
 unfold L.zgcl.J22 at h
 refine AW.region (AO.r 2 [.k 0 (F + 1 : Nat)] I ⟨cast_wr b8 b5, J⟩ ?_)
 obtain rfl := oi h
 refine AO.nil ?_
 exact ⟨_, _, _, I, ⟨I, I⟩, ⟨I, I, I, I, J⟩, [0, 1], I, by decide⟩
 rintro af s ob ⟨rfl, rfl⟩ he
 subst he
 have h := se_l ae
 have cq : decide (((4 : Nat) : Int) < 4) = false := by simp
 refine AW.z I (AW.seqG (fun fl fm => (AW.condK (v := false) I cq (AW.exit ?_))))
 exact lg ⟨(), h, I, I⟩ [0, 1]
 rintro s ob ⟨ad, h, rfl, rfl⟩
 unfold L.zgcl.J2 at h
 refine AW.cutX (fun s ob => ∃ (ak : Unit), L.zgcl.J3 a ak = some r ∧ s = [] ∧ ob = [.arr b 32 6 1 [Network.row a]]) [(1, _)] ⟨I, J⟩ ?_ ?_
 refine AW.seqG (fun fn cr => (AW.region (AO.d (Yd.loadO 1 0 0 I I I I I (y := .agg (f.l.map (cL 1 rS))) (part_all I (by simp [Arr.h, flow_streams.row]))) I (AO.q 1 I (AO.nil ?_)))))
 subst cr
 refine AW.block ?_
 have ct : (4 : Nat) ≤ 9223372036854775806 := by decide
 obtain ⟨fo, cu, al⟩ := ob_some h
 clear h
 refine AW.forIX cu [(1, _), (80, _)] ⟨I, I, J⟩ (fun (H : Nat) (am : Unit) s ob => s = [(81, .V (H : Int))] ∧ ob = [.arr b 32 6 1 [Network.row a]]) ⟨I, I⟩ ⟨I, J⟩ ⟨[0], I, by decide⟩ ?_ ?_
 rintro H am fp s ob cv ⟨rfl, rfl⟩ h cw
 unfold L.zgcl.B20 at h
 have cx : decide ((H : Int) < 4) = true := decide_eq_true (by omega)
 refine AW.z I (AW.seqG (fun fq cy => (AW.condK (v := true) I cx (AW.skip ?_))))
 subst cy
 refine AW.seq (AW.block (AW.seq ?_))
 obtain ⟨cz, ⟨c0, c1⟩, h⟩ := ob_ix h
 refine AW.region (AO.p (Yp.indexAgM (m := cz.1) I I I I I I I c0 c1 (hlen := Arr.h _)) I (AO.q 1 I (AO.nil (AW.seq ?_))))
 obtain ⟨fr, c2, h⟩ := ob_some h
 refine AW.region (AO.q 1 I (AO.c (L.zaag_ok _ _ c2) (AO.nil (AW.ch h I ?_ ?_))))
 intro c3 h
 refine AW.z I ?_
 obtain rfl := cw _ (oi h).symm
 replace h := al
 replace h := se_r h
 refine AW.ghost g0 ?_
 obtain rfl := oi h
 exact AW.ret pr
 intro c3 h
 refine AW.skip (AW.region (AO.r 2 [.k 0 (H + 1 : Nat)] I ⟨cast_wr cv ct, J⟩ ?_))
 obtain rfl := oi h
 refine AO.nil ?_
 exact ⟨_, _, _, I, ⟨I, I⟩, ⟨I, I, I, J⟩, [0], I, by decide⟩
 rintro am s ob ⟨rfl, rfl⟩ he
 subst he
 have h := se_l al
 have c4 : decide (((4 : Nat) : Int) < 4) = false := by simp
 refine AW.z I (AW.seqG (fun fs ft => (AW.condK (v := false) I c4 (AW.exit ?_))))
 exact lg ⟨(), h, I, I⟩ [0]
 rintro s ob ⟨ak, h, rfl, rfl⟩
 unfold L.zgcl.J3 at h
 refine AW.cutX (fun s ob => ∃ (an : Unit), L.zgcl.J4 a an = some r ∧ s = [] ∧ ob = [.arr b 32 6 1 [Network.row a]]) [(1, _)] ⟨I, J⟩ ?_ ?_
 refine AW.zr [.o 1 0, .l 2 (a.Stations.length : Int)] I ⟨len_m, I, J⟩ (AW.block (AW.lm 88 I (fun c5 => ?_)))
 obtain ⟨fu, c6, ao⟩ := ob_some h
 clear h
 refine AW.forX c6 [(1, _), (89, _)] ⟨I, I, J⟩ (fun (K : Nat) (ap : Unit) s ob => s = [(90, .V (K : Int))] ∧ ob = [.arr b 32 6 1 [Network.row a]]) ⟨I, I⟩ ⟨I, J⟩ ⟨[0], I, by decide⟩ ?_ ?_
 rintro K c7 ap c8 s ob c9 aq ⟨rfl, rfl⟩ h da
 unfold L.zgcl.B17 at h
 have db := lt_t aq
 refine AW.z I (AW.seqG (fun fv dc => (AW.condK (v := true) I db (AW.skip ?_))))
 subst dc
 refine AW.cutX (fun s ob => ∃ (ar : Unit), L.zgcl.J18 ar = some c8 ∧ s = [] ∧ ob = [.arr b 32 6 1 [Network.row a]]) [(1, _), (89, _), (90, _)] ⟨I, I, I, J⟩ ?_ ?_
 refine AW.block (AW.z I (AW.z I (AW.block ?_)))
 obtain ⟨fw, dd, au⟩ := ob_some h
 clear h
 refine AW.loopX dd [(1, _), (12, _), (89, _), (90, _)] ⟨I, I, I, I, J⟩ (fun (av : Int) s ob => s = [(13, .V av)] ∧ ob = [.arr b 32 6 1 [Network.row a]]) ⟨I, I⟩ ⟨I, J⟩ ⟨[0], I, by decide⟩ ?_
 rintro av fx s ob ⟨rfl, rfl⟩ h aw
 unfold L.zgcl.B19 at h
 refine AW.seqG (fun fy de => (AW.z I (AW.ch h I ?_ ?_)))
 intro df h
 refine AW.skip ?_
 subst de
 refine AW.seq (AW.block (AW.seq ?_))
 obtain ⟨ax, ⟨dg, dh⟩, h⟩ := ob_ix h
 refine AW.dt (pd 13 0 []) [0] [_] [.o 1 0, .x 3 K (Station.row c7), .o 7 0, .x 9 ax.1 (Station.row ax.2)] I I ⟨⟨dg, map_get dh⟩, I, ⟨I, map_get c9⟩, I, J⟩ (AW.ch h I ?_ ?_)
 intro di h
 refine AW.z I ?_
 obtain rfl := aw _ (oi h).symm
 replace h := au
 replace h := se_l h
 obtain rfl := da _ (oi h).symm
 replace h := ao
 replace h := se_r h
 refine AW.ghost g0 ?_
 obtain rfl := oi h
 exact AW.ret pr
 intro di h
 refine AW.skip (AW.region (AO.q 3 I ?_))
 obtain rfl := oi h
 refine AO.nil ?_
 exact ⟨_, _, _, I, ⟨I, I⟩, ⟨I, I, I, I, I, J⟩, [0], I, by decide⟩
 intro df h
 obtain rfl := aw _ (oi h).symm
 replace h := au
 replace h := se_r h
 refine AW.exit ?_
 exact lg ⟨(), h, I, I⟩ [0]
 rintro s ob ⟨ar, h, rfl, rfl⟩
 unfold L.zgcl.J18 at h
 refine AW.region (AO.r 2 [.k 0 (K + 1 : Nat)] I ⟨cast_wr aq c5, J⟩ ?_)
 obtain rfl := oi h
 refine AO.nil ?_
 exact ⟨_, _, _, I, ⟨I, I⟩, ⟨I, I, I, J⟩, [0], I, by decide⟩
 rintro ap s ob ⟨rfl, rfl⟩ he
 subst he
 have h := se_l ao
 have dj := lt_f a.Stations.length
 refine AW.z I (AW.seqG (fun fz f0 => (AW.condK (v := false) I dj (AW.exit ?_))))
 exact lg ⟨(), h, I, I⟩ [0]
 rintro s ob ⟨an, h, rfl, rfl⟩
 unfold L.zgcl.J4 at h
 refine AW.zr [.o 1 0, .l 2 (a.Nodes.length : Int)] I ⟨len_m, I, J⟩ (AW.cutX (fun s ob => ∃ (ay : Unit), L.zgcl.J5 a ay = some r ∧ s = [] ∧ ob = [.arr b 32 6 1 [Network.row a]]) [(1, _), (14, _)] ⟨I, I, J⟩ ?_ ?_)
 refine AW.zr [.o 1 0, .l 2 (a.Segments.length : Int)] I ⟨len_m, I, J⟩ (AW.block (AW.lm 117 I (fun dk => ?_)))
 obtain ⟨f1, dl, az⟩ := ob_some h
 clear h
 refine AW.forX dl [(1, _), (14, _), (117, _), (118, _)] ⟨I, I, I, I, J⟩ (fun (M : Nat) (a0 : Unit) s ob => s = [(119, .V (M : Int))] ∧ ob = [.arr b 32 6 1 [Network.row a]]) ⟨I, I⟩ ⟨I, J⟩ ⟨[0], I, by decide⟩ ?_ ?_
 rintro M i a0 f2 s ob dm a1 ⟨rfl, rfl⟩ h dn
 unfold L.zgcl.B16 at h
 have dp := lt_t a1
 refine AW.z I (AW.seqG (fun f3 dq => (AW.condK (v := true) I dp (AW.skip ?_))))
 subst dq
 refine AW.seq (AW.block (AW.seqG (fun f4 dr => (AW.region (AO.r 2 [.x 0 M (Segment.row i)] I ⟨⟨I, map_get dm⟩, J⟩ (AO.act [] I (AX.alloc (cs := [.v (.string ⟨#[]⟩), .V 0, .V 0, .V 0, .V 0, .V 0, .N]) (m := 7) I I I I I dS (fun f5 => (AO.act [1] I (AX.st 1 0 0 [Segment.row i] I (AO.nil ?_)))))))))))
 subst dr
 refine AW.jb 134 ((!(L.zmae i.From 0 (wr ((a.Nodes.length : Int) - 1)))) || (!(L.zmae i.To 0 (wr ((a.Nodes.length : Int) - 1))))) ?_ ?_
 refine AW.region (AO.r 3 [.o 1 1] I ⟨I, J⟩ (AO.c (L.zmae_ok i.From 0 (wr ((a.Nodes.length : Int) - 1)) _ I) (AO.q 2 I ?_)))
 rcases bt ((!(L.zmae i.From 0 (wr ((a.Nodes.length : Int) - 1))))) with u | u
 refine AO.known 128 I u (AO.q 6 I (AO.nil ?_))
 exact jf (by simp only [u, bz]) I I ⟨I, I⟩
 refine AO.known 128 I u (AO.r 3 [.o 1 1] I ⟨I, J⟩ (AO.gt I I I (AO.c (L.zmae_ok i.To 0 (wr ((a.Nodes.length : Int) - 1)) _ I) (AO.q 2 I (AO.nil ?_)))))
 exact jf (by simp only [u, bz]) I I ⟨I, I⟩
 refine AW.ch h I ?_ ?_
 intro ds h
 refine AW.z I ?_
 obtain rfl := dn _ (oi h).symm
 replace h := az
 replace h := se_r h
 refine AW.ghost g0 ?_
 obtain rfl := oi h
 exact AW.ret pr
 intro ds h
 refine AW.skip (AW.region (AO.r 2 [.k 0 (M + 1 : Nat)] I ⟨cast_wr a1 dk, J⟩ ?_))
 obtain rfl := oi h
 refine AO.nil ?_
 exact ⟨_, _, _, I, ⟨I, I⟩, ⟨I, I, I, I, I, J⟩, [0], I, by decide⟩
 rintro a0 s ob ⟨rfl, rfl⟩ he
 subst he
 have h := se_l az
 have du := lt_f a.Segments.length
 refine AW.z I (AW.seqG (fun f6 f7 => (AW.condK (v := false) I du (AW.exit ?_))))
 exact lg ⟨(), h, I, I⟩ [0]
 rintro s ob ⟨ay, h, rfl, rfl⟩
 unfold L.zgcl.J5 at h
 refine AW.cutX (fun s ob => ∃ (a2 : Unit), L.zgcl.J6 a a2 = some r ∧ s = [] ∧ ob = [.arr b 32 6 1 [Network.row a]]) [(1, _), (14, _)] ⟨I, I, J⟩ ?_ ?_
 refine AW.zr [.o 1 0, .l 2 (a.Ports.length : Int)] I ⟨len_m, I, J⟩ (AW.block (AW.lm 137 I (fun dv => ?_)))
 obtain ⟨f8, dw, a3⟩ := ob_some h
 clear h
 refine AW.forX dw [(1, _), (14, _), (137, _), (138, _)] ⟨I, I, I, I, J⟩ (fun (O : Nat) (a4 : Unit) s ob => s = [(139, .V (O : Int))] ∧ ob = [.arr b 32 6 1 [Network.row a]]) ⟨I, I⟩ ⟨I, J⟩ ⟨[0], I, by decide⟩ ?_ ?_
 rintro O W a4 f9 s ob dx a5 ⟨rfl, rfl⟩ h dy
 unfold L.zgcl.B15 at h
 have dz := lt_t a5
 refine AW.z I (AW.seqG (fun ga d0 => (AW.condK (v := true) I dz (AW.skip ?_))))
 subst d0
 refine AW.seq (AW.block (AW.seq (AW.region (AO.r 2 [.x 0 O (Port.row W)] I ⟨⟨I, map_get dx⟩, J⟩ (AO.act [] I (AX.alloc (cs := [.v (.string ⟨#[]⟩), .V 0, .V 0]) (m := 3) I I I I I dS (fun gb => (AO.act [1] I (AX.st 1 0 0 [Port.row W] I (AO.nil (AW.seq (AW.region (AO.r 3 [.o 1 1] I ⟨I, J⟩ (AO.c (L.zmae_ok W.Node 0 (wr ((a.Nodes.length : Int) - 1)) _ I) (AO.q 1 I ?_)))))))))))))))
 refine AO.nil (AW.ch h I ?_ ?_)
 intro d1 h
 refine AW.z I ?_
 obtain rfl := dy _ (oi h).symm
 replace h := a3
 replace h := se_r h
 refine AW.ghost g0 ?_
 obtain rfl := oi h
 exact AW.ret pr
 intro d1 h
 refine AW.skip (AW.region (AO.r 2 [.k 0 (O + 1 : Nat)] I ⟨cast_wr a5 dv, J⟩ ?_))
 obtain rfl := oi h
 refine AO.nil ?_
 exact ⟨_, _, _, I, ⟨I, I⟩, ⟨I, I, I, I, I, J⟩, [0], I, by decide⟩
 rintro a4 s ob ⟨rfl, rfl⟩ he
 subst he
 have h := se_l a3
 have d2 := lt_f a.Ports.length
 refine AW.z I (AW.seqG (fun gc gd => (AW.condK (v := false) I d2 (AW.exit ?_))))
 exact lg ⟨(), h, I, I⟩ [0]
 rintro s ob ⟨a2, h, rfl, rfl⟩
 unfold L.zgcl.J6 at h
 refine AW.cutX (fun s ob => ∃ (a6 : Unit), L.zgcl.J7 a a6 = some r ∧ s = [] ∧ ob = [.arr b 32 6 1 [Network.row a]]) [(1, _)] ⟨I, J⟩ ?_ ?_
 refine AW.zr [.o 1 0, .l 2 (a.Stations.length : Int)] I ⟨len_m, I, J⟩ (AW.block (AW.lm 150 I (fun d3 => ?_)))
 obtain ⟨ge, d4, a7⟩ := ob_some h
 clear h
 refine AW.forX d4 [(1, _), (14, _), (150, _), (151, _)] ⟨I, I, I, I, J⟩ (fun (P : Nat) (a8 : Unit) s ob => s = [(152, .V (P : Int))] ∧ ob = [.arr b 32 6 1 [Network.row a]]) ⟨I, I⟩ ⟨I, J⟩ ⟨[0], I, by decide⟩ ?_ ?_
 rintro P X a8 gf s ob d5 a9 ⟨rfl, rfl⟩ h d6
 unfold L.zgcl.B14 at h
 have d7 := lt_t a9
 refine AW.z I (AW.seqG (fun gg d8 => (AW.condK (v := true) I d7 (AW.skip ?_))))
 subst d8
 refine AW.seq (AW.block (AW.seq (AW.region (AO.r 2 [.x 0 P (Station.row X)] I ⟨⟨I, map_get d5⟩, J⟩ (AO.act [] I (AX.alloc (cs := [.v (.string ⟨#[]⟩), .V 0, .V 0, .V 0, .V 0]) (m := 5) I I I I I dS (fun gh => (AO.act [1] I (AX.st 1 0 0 [Station.row X] I (AO.nil (AW.seq (AW.region (AO.r 3 [.o 1 1] I ⟨I, J⟩ (AO.c (L.zmae_ok X.Node 0 (wr ((a.Nodes.length : Int) - 1)) _ I) (AO.q 1 I ?_)))))))))))))))
 refine AO.nil (AW.ch h I ?_ ?_)
 intro d9 h
 refine AW.z I ?_
 obtain rfl := d6 _ (oi h).symm
 replace h := a7
 replace h := se_r h
 refine AW.ghost g0 ?_
 obtain rfl := oi h
 exact AW.ret pr
 intro d9 h
 refine AW.skip (AW.region (AO.r 2 [.k 0 (P + 1 : Nat)] I ⟨cast_wr a9 d3, J⟩ ?_))
 obtain rfl := oi h
 refine AO.nil ?_
 exact ⟨_, _, _, I, ⟨I, I⟩, ⟨I, I, I, I, I, J⟩, [0], I, by decide⟩
 rintro a8 s ob ⟨rfl, rfl⟩ he
 subst he
 have h := se_l a7
 have ea := lt_f a.Stations.length
 refine AW.z I (AW.seqG (fun gi gj => (AW.condK (v := false) I ea (AW.exit ?_))))
 exact lg ⟨(), h, I, I⟩ [0]
 rintro s ob ⟨a6, h, rfl, rfl⟩
 unfold L.zgcl.J7 at h
 refine AW.cutX (fun s ob => ∃ (ba : Unit), L.zgcl.J8 a ba = some r ∧ s = [] ∧ ob = [.arr b 32 6 1 [Network.row a]]) [(1, _)] ⟨I, J⟩ ?_ ?_
 refine AW.zr [.o 1 0, .l 2 (a.Segments.length : Int)] I ⟨len_m, I, J⟩ (AW.block (AW.lm 163 I (fun eb => ?_)))
 obtain ⟨gk, ec, bb⟩ := ob_some h
 clear h
 refine AW.forX ec [(1, _), (163, _), (164, _)] ⟨I, I, I, J⟩ (fun (Q : Nat) (bc : Unit) s ob => s = [(165, .V (Q : Int))] ∧ ob = [.arr b 32 6 1 [Network.row a]]) ⟨I, I⟩ ⟨I, J⟩ ⟨[0], I, by decide⟩ ?_ ?_
 rintro Q bd bc gl s ob ed be ⟨rfl, rfl⟩ h ee
 unfold L.zgcl.B13 at h
 have ef := lt_t be
 refine AW.z I (AW.seqG (fun gm eg => (AW.condK (v := true) I ef (AW.skip ?_))))
 subst eg
 refine AW.seq (AW.block (AW.seq (AW.region (AO.r 2 [.x 0 Q (Segment.row bd)] I ⟨⟨I, map_get ed⟩, J⟩ (AO.act [] I (AX.alloc (cs := [.v (.string ⟨#[]⟩), .V 0, .V 0, .V 0, .V 0, .V 0, .N]) (m := 7) I I I I I dS (fun gn => (AO.act [1] I (AX.st 1 0 0 [Segment.row bd] I (AO.nil (AW.seq ?_)))))))))))
 obtain ⟨go, eh, h⟩ := ob_some h
 refine AW.region (AO.r 1 [.o 0 1] I ⟨I, J⟩ (AO.c (L.zimi_ok _ _ eh) (AO.q 1 I (AO.nil (AW.ch h I ?_ ?_)))))
 intro ei h
 refine AW.z I ?_
 obtain rfl := ee _ (oi h).symm
 replace h := bb
 replace h := se_r h
 refine AW.ghost g0 ?_
 obtain rfl := oi h
 exact AW.ret pr
 intro ei h
 refine AW.skip (AW.region (AO.r 2 [.k 0 (Q + 1 : Nat)] I ⟨cast_wr be eb, J⟩ ?_))
 obtain rfl := oi h
 refine AO.nil ?_
 exact ⟨_, _, _, I, ⟨I, I⟩, ⟨I, I, I, I, J⟩, [0], I, by decide⟩
 rintro bc s ob ⟨rfl, rfl⟩ he
 subst he
 have h := se_l bb
 have ej := lt_f a.Segments.length
 refine AW.z I (AW.seqG (fun gp gq => (AW.condK (v := false) I ej (AW.exit ?_))))
 exact lg ⟨(), h, I, I⟩ [0]
 rintro s ob ⟨ba, h, rfl, rfl⟩
 unfold L.zgcl.J8 at h
 refine AW.cutX (fun s ob => ∃ (bf : Unit), L.zgcl.J9 a bf = some r ∧ s = [] ∧ ob = [.arr b 32 6 1 [Network.row a]]) [(1, _)] ⟨I, J⟩ ?_ ?_
 refine AW.zr [.o 1 0, .l 2 (a.Ports.length : Int)] I ⟨len_m, I, J⟩ (AW.block (AW.lm 174 I (fun ek => ?_)))
 obtain ⟨gr, el, bg⟩ := ob_some h
 clear h
 refine AW.forX el [(1, _), (174, _), (175, _)] ⟨I, I, I, J⟩ (fun (R : Nat) (bh : Unit) s ob => s = [(176, .V (R : Int))] ∧ ob = [.arr b 32 6 1 [Network.row a]]) ⟨I, I⟩ ⟨I, J⟩ ⟨[0], I, by decide⟩ ?_ ?_
 rintro R Y bh gs s ob em bi ⟨rfl, rfl⟩ h en
 unfold L.zgcl.B12 at h
 have eo := lt_t bi
 refine AW.z I (AW.seqG (fun gu ep => (AW.condK (v := true) I eo (AW.skip ?_))))
 subst ep
 refine AW.seq (AW.block (AW.seq (AW.region (AO.r 2 [.x 0 R (Port.row Y)] I ⟨⟨I, map_get em⟩, J⟩ (AO.act [] I (AX.alloc (cs := [.v (.string ⟨#[]⟩), .V 0, .V 0]) (m := 3) I I I I I dS (fun gv => (AO.act [1] I (AX.st 1 0 0 [Port.row Y] I (AO.nil (AW.seq (AW.region (AO.r 2 [.o 1 1] I ⟨I, J⟩ (AO.c (L.zmae_ok Y.Pressure 0 100000000 _ I) (AO.q 1 I ?_)))))))))))))))
 refine AO.nil (AW.ch h I ?_ ?_)
 intro eq h
 refine AW.z I ?_
 obtain rfl := en _ (oi h).symm
 replace h := bg
 replace h := se_r h
 refine AW.ghost g0 ?_
 obtain rfl := oi h
 exact AW.ret pr
 intro eq h
 refine AW.skip (AW.region (AO.r 2 [.k 0 (R + 1 : Nat)] I ⟨cast_wr bi ek, J⟩ ?_))
 obtain rfl := oi h
 refine AO.nil ?_
 exact ⟨_, _, _, I, ⟨I, I⟩, ⟨I, I, I, I, J⟩, [0], I, by decide⟩
 rintro bh s ob ⟨rfl, rfl⟩ he
 subst he
 have h := se_l bg
 have er := lt_f a.Ports.length
 refine AW.z I (AW.seqG (fun gw gx => (AW.condK (v := false) I er (AW.exit ?_))))
 exact lg ⟨(), h, I, I⟩ [0]
 rintro s ob ⟨bf, h, rfl, rfl⟩
 unfold L.zgcl.J9 at h
 refine AW.cutX (fun s ob => ∃ (bj : Unit), L.zgcl.J10 a bj = some r ∧ s = [] ∧ ob = [.arr b 32 6 1 [Network.row a]]) [(1, _)] ⟨I, J⟩ ?_ ?_
 refine AW.zr [.o 1 0, .l 2 (a.Stations.length : Int)] I ⟨len_m, I, J⟩ (AW.block (AW.lm 186 I (fun es => ?_)))
 obtain ⟨gy, et, bk⟩ := ob_some h
 clear h
 refine AW.forX et [(1, _), (186, _), (187, _)] ⟨I, I, I, J⟩ (fun (S : Nat) (bl : Unit) s ob => s = [(188, .V (S : Int))] ∧ ob = [.arr b 32 6 1 [Network.row a]]) ⟨I, I⟩ ⟨I, J⟩ ⟨[0], I, by decide⟩ ?_ ?_
 rintro S e bl gz s ob eu bm ⟨rfl, rfl⟩ h ev
 unfold L.zgcl.B11 at h
 have ew := lt_t bm
 refine AW.z I (AW.seqG (fun g1 ex => (AW.condK (v := true) I ew (AW.skip ?_))))
 subst ex
 refine AW.seq (AW.block (AW.seqG (fun g2 ey => (AW.region (AO.r 2 [.x 0 S (Station.row e)] I ⟨⟨I, map_get eu⟩, J⟩ (AO.act [] I (AX.alloc (cs := [.v (.string ⟨#[]⟩), .V 0, .V 0, .V 0, .V 0]) (m := 5) I I I I I dS (fun g3 => (AO.act [1] I (AX.st 1 0 0 [Station.row e] I (AO.nil ?_)))))))))))
 subst ey
 refine AW.jb 207 ((!(L.zmae e.Head 0 100000000)) || ((!(L.zmae e.Fall 0 100000)) || (!(L.zmae e.Suction 0 100000000)))) ?_ ?_
 refine AW.region (AO.r 2 [.o 1 1] I ⟨I, J⟩ (AO.c (L.zmae_ok e.Head 0 100000000 _ I) (AO.q 2 I ?_)))
 rcases bt ((!(L.zmae e.Head 0 100000000))) with n | n
 refine AO.known 196 I n (AO.q 11 I (AO.nil ?_))
 exact jf (by simp only [n, bz]) I I ⟨I, I⟩
 refine AO.known 196 I n (AO.r 2 [.o 1 1] I ⟨I, J⟩ (AO.gt I I I (AO.c (L.zmae_ok e.Fall 0 100000 _ I) (AO.q 3 I ?_))))
 rcases bt ((!(L.zmae e.Fall 0 100000))) with w | w
 refine AO.known 202 I w (AO.q 5 I (AO.nil ?_))
 exact jf (by simp only [n, w, bz]) I I ⟨I, I⟩
 refine AO.known 202 I w (AO.r 2 [.o 1 1] I ⟨I, J⟩ (AO.gt I I I (AO.c (L.zmae_ok e.Suction 0 100000000 _ I) (AO.q 2 I (AO.nil ?_)))))
 exact jf (by simp only [n, w, bz]) I I ⟨I, I⟩
 refine AW.ch h I ?_ ?_
 intro ez h
 refine AW.z I ?_
 obtain rfl := ev _ (oi h).symm
 replace h := bk
 replace h := se_r h
 refine AW.ghost g0 ?_
 obtain rfl := oi h
 exact AW.ret pr
 intro ez h
 refine AW.skip (AW.region (AO.r 2 [.k 0 (S + 1 : Nat)] I ⟨cast_wr bm es, J⟩ ?_))
 obtain rfl := oi h
 refine AO.nil ?_
 exact ⟨_, _, _, I, ⟨I, I⟩, ⟨I, I, I, I, J⟩, [0], I, by decide⟩
 rintro bl s ob ⟨rfl, rfl⟩ he
 subst he
 have h := se_l bk
 have e0 := lt_f a.Stations.length
 refine AW.z I (AW.seqG (fun g4 g5 => (AW.condK (v := false) I e0 (AW.exit ?_))))
 exact lg ⟨(), h, I, I⟩ [0]
 rintro s ob ⟨bj, h, rfl, rfl⟩
 unfold L.zgcl.J10 at h
 refine AW.seq (AW.jb 218 ((!(L.zmae a.Vapour (-100000) 100000000)) || (!(L.zmae a.Settle 0 100))) ?_ ?_)
 refine AW.region (AO.r 2 [.o 1 0] I ⟨I, J⟩ (AO.c (L.zmae_ok a.Vapour (-100000) 100000000 _ I) (AO.q 2 I ?_)))
 rcases bt ((!(L.zmae a.Vapour (-100000) 100000000))) with A | A
 refine AO.known 213 I A (AO.q 5 I (AO.nil ?_))
 exact jf (by simp only [A, bz]) I I ⟨I, I⟩
 refine AO.known 213 I A (AO.r 2 [.o 1 0] I ⟨I, J⟩ (AO.gt I I I (AO.c (L.zmae_ok a.Settle 0 100 _ I) (AO.q 2 I (AO.nil ?_)))))
 exact jf (by simp only [A, bz]) I I ⟨I, I⟩
 refine AW.ch h I ?_ ?_
 intro e1 h
 refine AW.z I (AW.ghost g0 ?_)
 obtain rfl := oi h
 exact AW.ret pr
 intro e1 h
 refine AW.skip (AW.z I (AW.ghost g0 ?_))
 obtain rfl := oi h
 exact AW.ret pr
theorem L.zdwa_ok (a : Segment) (b : Int) (r : Int × Int) (h : L.zdwa a b = r) : ACalls Tryz.env 116 [.agg (Segment.row a), .V b] [] (fun x new => x = .tup [.V r.1, .V r.2] ∧ new = []) := by
 refine ACalls.of_body Tryz.func116 rfl rfl rfl (fun C hC => ?_)
 unfold L.zdwa at h
 refine AW.seqG (fun e c => (AW.region (AO.act [] I (AX.box (cs := Segment.row a) (m := 7) I I I dS (fun f => (AO.q 2 I (AO.nil ?_)))))))
 subst c
 refine AW.seq (AW.z I (AW.ch h I ?_ ?_))
 intro d h
 refine AW.dz (pd 6 0 []) [0] [_] [.o 1 0, .o 3 0] I I ⟨I, I, J⟩ (AW.ghost g0 ?_)
 obtain rfl := h
 exact AW.ret ⟨.inr I, [_, _], [], ⟨I, I, J⟩, sl_n, I, I⟩
 intro d h
 refine AW.skip (AW.dz (pd 6 0 []) [0] [_] [.o 1 0, .o 3 0] I I ⟨I, I, J⟩ (AW.ghost g0 ?_))
 obtain rfl := h
 exact AW.ret ⟨.inr I, [_, _], [], ⟨I, I, J⟩, sl_n, I, I⟩
theorem L.zeew_ok (d : Network) (e : Plan) (n : Int) (r : Int × Int) (h : L.zeew d e n = some r) : ACalls Tryz.env 72 [.agg (Network.row d), .agg (Plan.row e), .V n] [] (fun x new => x = .tup [.V r.1, .V r.2] ∧ new = []) := by
 refine ACalls.of_body Tryz.func72 rfl rfl rfl (fun C hC => ?_)
 unfold L.zeew at h
 refine AW.seqG (fun y1 Q => (AW.region (AO.act [] I (AX.box (cs := Network.row d) (m := 6) I I I dS (fun p => (AO.act [] I (AX.box (cs := Plan.row e) (m := 3) I I I dS (fun g => (AO.q 2 I (AO.nil ?_))))))))))
 subst Q
 refine AW.z I (AW.cutX (fun s ob => ∃ (t : Int × Int), L.zeew.J1 d e n t = some r ∧ s = [(8, .V t.1), (9, .V t.2)] ∧ ob = [.arr p 32 6 1 [Network.row d], .arr g 37 3 1 [Plan.row e]]) [(2, _), (3, _), (4, _)] ⟨I, I, I, J⟩ ?_ ?_)
 refine AW.zr [.o 1 0, .l 2 (d.Segments.length : Int)] I ⟨len_m, I, J⟩ (AW.block (AW.lm 17 I (fun R => ?_)))
 obtain ⟨ar, S, U⟩ := ob_some h
 clear h
 refine AW.forY S [(2, _), (3, _), (4, _), (17, _), (18, _)] ⟨I, I, I, I, I, J⟩ (fun (u : Nat) (b : Int × Int) s ob => s = [(19, .V (u : Int)), (8, .V b.1), (9, .V b.2)] ∧ ob = [.arr p 32 6 1 [Network.row d], .arr g 37 3 1 [Plan.row e]]) ⟨I, I⟩ ⟨I, I, I, J⟩ ⟨[0, 1], I, by decide⟩ ?_ ?_
 rintro u w b G s ob W H ⟨rfl, rfl⟩ h
 unfold L.zeew.B5 at h
 have X := lt_t H
 refine AW.z I (AW.seqG (fun au Y => (AW.condK (v := true) I X (AW.skip ?_))))
 subst Y
 refine AW.cutX (fun s ob => ∃ (y : Int × Int), L.zeew.J6 y = some G ∧ s = [(8, .V y.1), (9, .V y.2)] ∧ ob = [.arr p 32 6 1 [Network.row d], .arr g 37 3 1 [Plan.row e]]) [(2, _), (3, _), (4, _), (17, _), (18, _), (19, _)] ⟨I, I, I, I, I, I, J⟩ ?_ ?_
 refine AW.block (AW.seqG (fun av Z => (AW.region (AO.r 3 [.x 1 u (Segment.row w)] I ⟨⟨I, map_get W⟩, J⟩ (AO.act [] I (AX.alloc (cs := [.v (.string ⟨#[]⟩), .V 0, .V 0, .V 0, .V 0, .V 0, .N]) (m := 7) I I I I I dS (fun aw => (AO.q 1 I (AO.act [2] I (AX.st 2 0 0 [Segment.row w] I (AO.nil ?_)))))))))))
 subst Z
 refine AW.seqG (fun ax aa => (AW.seq ?_))
 obtain ⟨a, ⟨A, B⟩, h⟩ := ob_ix h
 refine AW.tr [.o 1 1, .x 3 a.1 (rI a.2)] I ⟨⟨A, map_get B⟩, I, J⟩ (AW.ch h I ?_ ?_)
 intro ab h
 refine AW.exit ?_
 exact lg ⟨(b.1, b.2), h, I, I⟩ [0, 1]
 intro ab h
 refine AW.skip ?_
 subst aa
 refine AW.seqG (fun ay ac => (AW.rd (pd 12 0 [6]) [2, 1] [_, _] I (AP.r 6 [.o 0 0, .o 2 1, .x 4 a.1 (rI a.2)] I ⟨⟨A, map_get B⟩, I, I, J⟩ (AP.c I (L.zdwa_ok w a.2 _ I) (AP.q 5 I (AP.ofAO (AO.nil ?_)))))))
 subst ac
 refine AW.cutX (fun s ob => ∃ (j : Int), L.zeew.J7 n w b a j = some G ∧ s = [(9, .V j)] ∧ ob = [.arr p 32 6 1 [Network.row d], .arr g 37 3 1 [Plan.row e]]) [(2, _), (3, _), (4, _), (8, _), (10, _), (13, _), (17, _), (18, _), (19, _)] ⟨I, I, I, I, I, I, I, I, I, J⟩ ?_ ?_
 refine AW.z I (AW.ch h I ?_ ?_)
 intro ad h
 refine AW.region (AO.r 6 [.o 2 1, .x 4 a.1 (rI a.2)] I ⟨⟨A, map_get B⟩, I, J⟩ (AO.c (L.zuap_ok a.2 _ I) (AO.q 2 I (AO.nil ?_))))
 exact lg ⟨wr (b.2 + (L.zuap a.2)), h, I, I⟩ [0, 1]
 intro ad h
 refine AW.skip ?_
 exact lg ⟨b.2, h, I, I⟩ [0, 1]
 rintro s ob ⟨j, h, rfl, rfl⟩
 unfold L.zeew.J7 at h
 refine AW.z I (AW.ch h I ?_ ?_)
 intro ae h
 refine AW.region (AO.r 6 [.o 2 1, .x 4 a.1 (rI a.2)] I ⟨⟨A, map_get B⟩, I, J⟩ (AO.c (L.zuap_ok a.2 _ I) (AO.q 2 I (AO.nil ?_))))
 exact lg ⟨(wr (b.1 + (L.zuap a.2)), j), h, I, I⟩ [0, 1]
 intro ae h
 refine AW.skip ?_
 exact lg ⟨(b.1, j), h, I, I⟩ [0, 1]
 rintro s ob ⟨y, h, rfl, rfl⟩
 unfold L.zeew.J6 at h
 refine AW.region (AO.r 2 [.k 0 (u + 1 : Nat)] I ⟨cast_wr H R, J⟩ ?_)
 obtain rfl := oi h
 refine AO.nil ?_
 exact lg ⟨I, I⟩ [0, 1]
 rintro b s ob ⟨rfl, rfl⟩ he
 subst he
 have h := U
 have af := lt_f d.Segments.length
 refine AW.z I (AW.seqG (fun az a0 => (AW.condK (v := false) I af (AW.exit ?_))))
 exact lg ⟨(b.1, b.2), h, I, I⟩ [0, 1]
 rintro s ob ⟨t, h, rfl, rfl⟩
 unfold L.zeew.J1 at h
 refine AW.cutX (fun s ob => ∃ (D : Int × Int), L.zeew.J2 D = some r ∧ s = [(8, .V D.1), (9, .V D.2)] ∧ ob = []) [] J ?_ ?_
 refine AW.zr [.o 1 0, .l 2 (d.Ports.length : Int)] I ⟨len_m, I, J⟩ (AW.block (AW.lm 64 I (fun ag => ?_)))
 obtain ⟨a1, ah, ai⟩ := ob_some h
 clear h
 refine AW.forY ah [(2, _), (4, _), (64, _), (65, _)] ⟨I, I, I, I, J⟩ (fun (E : Nat) (f : Int × Int) s ob => s = [(66, .V (E : Int)), (8, .V f.1), (9, .V f.2)] ∧ ob = [.arr g 37 3 1 [Plan.row e]]) ⟨I, I⟩ ⟨I, I, I, J⟩ ⟨[1], I, by decide⟩ ?_ ?_
 rintro E K f aj s ob ak M ⟨rfl, rfl⟩ h
 unfold L.zeew.B3 at h
 have al := lt_t M
 refine AW.z I (AW.seqG (fun a2 am => (AW.condK (v := true) I al (AW.skip ?_))))
 subst am
 refine AW.cutX (fun s ob => ∃ (F : Int × Int), L.zeew.J4 F = some aj ∧ s = [(8, .V F.1), (9, .V F.2)] ∧ ob = [.arr g 37 3 1 [Plan.row e]]) [(2, _), (4, _), (64, _), (65, _), (66, _)] ⟨I, I, I, I, I, J⟩ ?_ ?_
 refine AW.block (AW.seqG (fun a3 an => (AW.region (AO.r 3 [.x 1 E (Port.row K)] I ⟨⟨I, map_get ak⟩, J⟩ (AO.act [] I (AX.alloc (cs := [.v (.string ⟨#[]⟩), .V 0, .V 0]) (m := 3) I I I I I dS (fun a4 => (AO.q 1 I (AO.act [1] I (AX.st 1 0 0 [Port.row K] I (AO.nil ?_)))))))))))
 subst an
 refine AW.zr [.o 1 1] I ⟨I, J⟩ (AW.ch h I ?_ ?_)
 intro ao h
 obtain ⟨i, ⟨O, P⟩, h⟩ := ob_ix h
 refine AW.dt (pd 19 0 []) [0] [_] [.o 2 0, .x 4 i.1 (rI i.2), .o 10 0, .x 12 i.1 (rI i.2)] I I ⟨⟨O, map_get P⟩, I, ⟨O, map_get P⟩, I, J⟩ ?_
 exact lg ⟨(wr (f.1 + (max 0 i.2)), wr (f.2 + (max 0 (wr (0 - i.2))))), h, I, I⟩ [0]
 intro ao h
 refine AW.skip ?_
 exact lg ⟨(f.1, f.2), h, I, I⟩ [0]
 rintro s ob ⟨F, h, rfl, rfl⟩
 unfold L.zeew.J4 at h
 refine AW.region (AO.r 2 [.k 0 (E + 1 : Nat)] I ⟨cast_wr M ag, J⟩ ?_)
 obtain rfl := oi h
 refine AO.nil ?_
 exact lg ⟨I, I⟩ [0]
 rintro f s ob ⟨rfl, rfl⟩ he
 subst he
 have h := ai
 have ap := lt_f d.Ports.length
 refine AW.z I (AW.seqG (fun a5 a6 => (AW.condK (v := false) I ap (AW.exit ?_))))
 exact lg ⟨(f.1, f.2), h, I, I⟩ []
 rintro s ob ⟨D, h, rfl, rfl⟩
 unfold L.zeew.J2 at h
 refine AW.z I ?_
 obtain rfl := oi h
 exact AW.ret ⟨.inr I, [_, _], [], ⟨I, I, J⟩, sl_n, I, I⟩
theorem L.zaew_ok (b : Network) (g : Plan) (r : List Int) (h : L.zaew b g = some r) : ACalls Tryz.env 73 [.agg (Network.row b), .agg (Plan.row g)] [] (fun x new => ∃ (R : Value), x = .v R ∧ new = [.us R 3 1 (r.map rI)]) := by
 refine ACalls.of_body Tryz.func73 rfl rfl rfl (fun C hC => ?_)
 unfold L.zaew at h
 refine AW.seqG (fun y1 ad => (AW.region (AO.act [] I (AX.box (cs := Network.row b) (m := 6) I I I dS (fun i => (AO.act [] I (AX.box (cs := Plan.row g) (m := 3) I I I dS (fun j => (AO.q 1 I (AO.nil ?_))))))))))
 subst ad
 refine AW.z I (AW.seqG (fun y5 ae => ?_))
 obtain ⟨l6, ⟨m8, af, ag, ah⟩, h⟩ := ob_mk h
 refine AW.region (AO.r 3 [.o 1 0, .l 2 (b.Nodes.length : Int)] I ⟨len_m, I, J⟩ (AO.act [] I (AX.makeU (sz := 1) I I I I I I I I I I af ag (rep_map (f := rB) ah I) dS (fun n => (AO.q 1 I (AO.nil ?_))))))
 subst ae
 refine AW.block (AW.ghost (Ghost.nilU 3 1) ?_)
 obtain ⟨bj, ai, aj⟩ := ob_some h
 clear h
 refine AW.loopX ai [(2, _), (3, _), (6, _)] ⟨I, I, I, J⟩ (fun (a : (List Int) × (List Bool)) s ob => ∃ (e : Value), s = [(5, .v e)] ∧ ob = [.arr i 32 6 1 [Network.row b], .arr j 37 3 1 [Plan.row g], .us n 4 1 (a.2.map rB), .us e 3 1 (a.1.map rI)]) ⟨(.slice none 0 0), I, I⟩ ⟨I, J⟩ ⟨[0, 1, 2, 3], I, by decide⟩ ?_
 rintro a ak s ob ⟨e, rfl, rfl⟩ h al
 unfold L.zaew.B1 at h
 refine AW.block (AW.z I (AW.cutX (fun s ob => ∃ (G : Int), L.zaew.J2 a G = some ak ∧ s = [(7, .V G)] ∧ ob = [.arr i 32 6 1 [Network.row b], .arr j 37 3 1 [Plan.row g], .us n 4 1 (a.2.map rB), .us e 3 1 (a.1.map rI)]) [(2, _), (3, _), (5, _), (6, _)] ⟨I, I, I, I, J⟩ ?_ ?_))
 refine AW.zr [.o 1 0, .l 2 (b.Nodes.length : Int)] I ⟨len_m, I, J⟩ (AW.block (AW.lm 19 I (fun am => ?_)))
 obtain ⟨bk, an, ao⟩ := ob_some h
 clear h
 refine AW.forY an [(2, _), (3, _), (5, _), (6, _), (20, _)] ⟨I, I, I, I, I, J⟩ (fun (u : Nat) (p : Int) s ob => s = [(21, .V (u : Int)), (7, .V p)] ∧ ob = [.arr i 32 6 1 [Network.row b], .arr j 37 3 1 [Plan.row g], .us n 4 1 (a.2.map rB), .us e 3 1 (a.1.map rI)]) ⟨I, I⟩ ⟨I, I, J⟩ ⟨[0, 1, 2, 3], I, by decide⟩ ?_ ?_
 rintro u bl p S s ob bm U ⟨rfl, rfl⟩ h
 unfold L.zaew.B3 at h
 have aq := lt_t U
 refine AW.z I (AW.seqG (fun bn ar => (AW.condK (v := true) I aq (AW.skip ?_))))
 subst ar
 refine AW.cutX (fun s ob => ∃ (O : Int), L.zaew.J4 O = some S ∧ s = [(7, .V O)] ∧ ob = [.arr i 32 6 1 [Network.row b], .arr j 37 3 1 [Plan.row g], .us n 4 1 (a.2.map rB), .us e 3 1 (a.1.map rI)]) [(2, _), (3, _), (5, _), (6, _), (20, _), (21, _)] ⟨I, I, I, I, I, I, J⟩ ?_ ?_
 refine AW.block (AW.z I (AW.seqG (fun bo au => ?_)))
 obtain ⟨P, ⟨av, W⟩, h⟩ := ob_ix h
 refine AW.region (AO.q 2 I (AO.d (Yd.indexU 2 (m := P.1) I I I I I I I av (map_get W)) I (AO.d (Yd.loadU 2 P.1 0 I I I (map_get W) I (y := .v (.bool P.2)) I) I (AO.q 2 I (AO.nil ?_)))))
 subst au
 refine AW.cutX (fun s ob => ∃ (B : Bool), L.zaew.J5 u p B = some S ∧ s = [(9, .v (.bool B))] ∧ ob = [.arr i 32 6 1 [Network.row b], .arr j 37 3 1 [Plan.row g], .us n 4 1 (a.2.map rB), .us e 3 1 (a.1.map rI)]) [(2, _), (3, _), (5, _), (6, _), (7, _), (8, _), (20, _), (21, _)] ⟨I, I, I, I, I, I, I, I, J⟩ ?_ ?_
 refine AW.zr [.o 1 0, .l 2 (b.Segments.length : Int)] I ⟨len_m, I, J⟩ (AW.block (AW.lm 30 I (fun aw => ?_)))
 obtain ⟨bp, ax, ay⟩ := ob_some h
 clear h
 refine AW.forY ax [(2, _), (3, _), (5, _), (6, _), (7, _), (8, _), (20, _), (21, _), (30, _), (31, _)] ⟨I, I, I, I, I, I, I, I, I, I, J⟩ (fun (H : Nat) (w : Bool) s ob => s = [(32, .V (H : Int)), (9, .v (.bool w))] ∧ ob = [.arr i 32 6 1 [Network.row b], .arr j 37 3 1 [Plan.row g], .us n 4 1 (a.2.map rB), .us e 3 1 (a.1.map rI)]) ⟨I, I⟩ ⟨I, I, J⟩ ⟨[0, 1, 2, 3], I, by decide⟩ ?_ ?_
 rintro H K w az s ob a0 X ⟨rfl, rfl⟩ h
 unfold L.zaew.B6 at h
 have a1 := lt_t X
 refine AW.z I (AW.seqG (fun bq a2 => (AW.condK (v := true) I a1 (AW.skip ?_))))
 subst a2
 refine AW.cutX (fun s ob => ∃ (Q : Bool), L.zaew.J7 Q = some az ∧ s = [(9, .v (.bool Q))] ∧ ob = [.arr i 32 6 1 [Network.row b], .arr j 37 3 1 [Plan.row g], .us n 4 1 (a.2.map rB), .us e 3 1 (a.1.map rI)]) [(2, _), (3, _), (5, _), (6, _), (7, _), (8, _), (20, _), (21, _), (30, _), (31, _), (32, _)] ⟨I, I, I, I, I, I, I, I, I, I, I, J⟩ ?_ ?_
 refine AW.block (AW.seqG (fun br a3 => (AW.region (AO.r 3 [.x 1 H (Segment.row K)] I ⟨⟨I, map_get a0⟩, J⟩ (AO.act [] I (AX.alloc (cs := [.v (.string ⟨#[]⟩), .V 0, .V 0, .V 0, .V 0, .V 0, .N]) (m := 7) I I I I I dS (fun bs => (AO.q 1 I (AO.act [4] I (AX.st 4 0 0 [Segment.row K] I (AO.nil ?_)))))))))))
 subst a3
 refine AW.seqG (fun bu a4 => ?_)
 obtain ⟨A, ⟨Y, Z⟩, h⟩ := ob_ix h
 refine AW.tr [.o 1 1, .x 3 A.1 (rI A.2)] I ⟨⟨Y, map_get Z⟩, I, J⟩ ?_
 subst a4
 refine AW.ch h I ?_ ?_
 intro a5 h
 refine AW.seqG (fun bv a6 => (AW.rd (pd 12 0 [6]) [4, 1] [_, _] I (AP.r 6 [.o 0 0, .o 2 1, .x 4 A.1 (rI A.2)] I ⟨⟨Y, map_get Z⟩, I, I, J⟩ (AP.c I (L.zdwa_ok K A.2 _ I) (AP.q 5 I (AP.ofAO (AO.nil ?_)))))))
 subst a6
 refine AW.region (AO.q 2 I ?_)
 rcases bt (w) with D | D
 replace h := ife_t D h
 refine AO.known 54 I D ?_
 rcases bt ((((L.zdwa K A.2).2) != (u : Int))) with E | E
 replace h := ife_t E h
 refine AO.q 4 I (AO.known 58 I E (AO.q 7 I (AO.nil ?_)))
 exact lg ⟨true, h, I, I⟩ [0, 1, 2, 3]
 replace h := ife_f E h
 obtain ⟨M, ⟨a7, aa⟩, h⟩ := ob_ix h
 refine AO.q 4 I (AO.known 58 I E (AO.q 2 I (AO.gt I I I (AO.d (Yd.indexU 2 (m := M.1) I I I I I I I a7 (map_get aa)) I (AO.gt I I I (AO.d (Yd.loadU 2 M.1 0 I I I (map_get aa) I (y := .v (.bool M.2)) I) I (AO.q 3 I (AO.nil ?_))))))))
 exact lg ⟨M.2, h, I, I⟩ [0, 1, 2, 3]
 replace h := ife_f D h
 refine AO.known 54 I D (AO.q 4 I (AO.skipU I I dS (AO.skipU I I dS (AO.skipU I I dS (AO.skipU I I dS (AO.q 3 I (AO.nil ?_)))))))
 exact lg ⟨false, h, I, I⟩ [0, 1, 2, 3]
 intro a5 h
 refine AW.skip ?_
 exact lg ⟨w, h, I, I⟩ [0, 1, 2, 3]
 rintro s ob ⟨Q, h, rfl, rfl⟩
 unfold L.zaew.J7 at h
 refine AW.region (AO.r 2 [.k 0 (H + 1 : Nat)] I ⟨cast_wr X aw, J⟩ ?_)
 obtain rfl := oi h
 refine AO.nil ?_
 exact lg ⟨I, I⟩ [0, 1, 2, 3]
 rintro w s ob ⟨rfl, rfl⟩ he
 subst he
 have h := ay
 have a8 := lt_f b.Segments.length
 refine AW.z I (AW.seqG (fun bw bx => (AW.condK (v := false) I a8 (AW.exit ?_))))
 exact lg ⟨w, h, I, I⟩ [0, 1, 2, 3]
 rintro s ob ⟨B, h, rfl, rfl⟩
 unfold L.zaew.J5 at h
 refine AW.jb 70 (B && decide (p < 0)) ?_ ?_
 refine AW.region (AO.q 2 I ?_)
 rcases bt (B) with F | F
 refine AO.known 67 I F (AO.q 3 I (AO.nil ?_))
 exact jf (by simp only [F, bz]) I I ⟨I, I⟩
 refine AO.known 67 I F (AO.q 3 I (AO.nil ?_))
 exact jf (by simp only [F, bz]) I I ⟨I, I⟩
 refine AW.ch h I ?_ ?_
 intro a9 h
 refine AW.t I ?_
 exact lg ⟨(u : Int), h, I, I⟩ [0, 1, 2, 3]
 intro a9 h
 refine AW.skip ?_
 exact lg ⟨p, h, I, I⟩ [0, 1, 2, 3]
 rintro s ob ⟨O, h, rfl, rfl⟩
 unfold L.zaew.J4 at h
 refine AW.region (AO.r 2 [.k 0 (u + 1 : Nat)] I ⟨cast_wr U am, J⟩ ?_)
 obtain rfl := oi h
 refine AO.nil ?_
 exact lg ⟨I, I⟩ [0, 1, 2, 3]
 rintro p s ob ⟨rfl, rfl⟩ he
 subst he
 have h := ao
 have ba := lt_f b.Nodes.length
 refine AW.z I (AW.seqG (fun b0 b1 => (AW.condK (v := false) I ba (AW.exit ?_))))
 exact lg ⟨p, h, I, I⟩ [0, 1, 2, 3]
 rintro s ob ⟨G, h, rfl, rfl⟩
 unfold L.zaew.J2 at h
 refine AW.seq (AW.z I (AW.ch h I ?_ ?_))
 intro bb h
 refine AW.z I ?_
 obtain rfl := al _ (oi h).symm
 replace h := aj
 refine AW.gp [3] I ?_
 obtain rfl := oi h
 exact AW.ret ⟨.inr I, [_], [.us e 3 1 (a.1.map rI)], ⟨I, J⟩, sl_c I (sl_n), ⟨e, I, I⟩⟩
 intro bb h
 refine AW.skip (AW.seq ?_)
 obtain ⟨b4, bc, h⟩ := ob_some h
 refine AW.region (AO.q 2 I (AO.act [] I (AX.lt 1 (([G] : List Int).map rI) (AO.act [3] I (AX.ap 3 I bc (fun bd => (AO.q 1 I (AO.nil ?_))))))))
 obtain ⟨ab, ⟨be, ac⟩, h⟩ := ob_ix h
 refine AW.region (AO.q 2 I (AO.d (Yd.indexU 2 (m := ab.1) I I I I I I I be (map_get ac)) I (AO.act [2] I (AX.storeU 2 ab.1 0 I I I (map_get ac) I I I I (le_ble I) I (us_set (x := true) I) ?_))))
 obtain rfl := oi h
 refine AO.nil ?_
 exact ⟨_, _, _, I, ⟨bd, I, I⟩, ⟨I, I, I, I, J⟩, [0, 1, 2, 3], I, by decide⟩
theorem L.zvqa_ok (b : Network) (a : Plan) (r : Int) (h : L.zvqa b a = some r) : ACalls Tryz.env 23 [.agg (Network.row b), .agg (Plan.row a)] [] (fun x new => x = .V r ∧ new = []) := by
 refine ACalls.of_body Tryz.func23 rfl rfl rfl (fun C hC => ?_)
 unfold L.zvqa at h
 refine AW.seqG (fun y1 Q => (AW.region (AO.act [] I (AX.box (cs := Network.row b) (m := 6) I I I dS (fun d => (AO.act [] I (AX.box (cs := Plan.row a) (m := 3) I I I dS (fun e => (AO.q 1 I (AO.nil ?_))))))))))
 subst Q
 refine AW.seqG (fun y4 R => (AW.seq ?_))
 obtain ⟨r5, S, h⟩ := ob_some h
 refine AW.region (AO.r 1 [.o 0 0] I ⟨I, J⟩ (AO.c (L.zgcl_ok _ _ S) (AO.q 1 I (AO.nil (AW.z I (AW.ch h I ?_ ?_))))))
 intro U h
 refine AW.z I (AW.ghost g0 ?_)
 obtain rfl := oi h
 exact AW.ret pr
 intro U h
 refine AW.skip ?_
 subst R
 refine AW.seqG (fun y8 W => (AW.jb 43 (((a.Rates.length : Int) != (b.Segments.length : Int)) || (((a.Ports.length : Int) != (b.Ports.length : Int)) || ((a.Pumps.length : Int) != (b.Stations.length : Int)))) ?_ ?_))
 refine AW.region (AO.r 8 [.o 1 1, .l 2 (a.Rates.length : Int), .o 4 0, .l 5 (b.Segments.length : Int)] I ⟨len_m, I, len_m, I, J⟩ ?_)
 rcases bt (((a.Rates.length : Int) != (b.Segments.length : Int))) with f | f
 refine AO.known 26 I f (AO.q 17 I (AO.nil ?_))
 exact jf (by simp only [f, bz]) I I ⟨I, I⟩
 refine AO.known 26 I f (AO.r 9 [.o 1 1, .l 2 (a.Ports.length : Int), .o 4 0, .l 5 (b.Ports.length : Int)] I ⟨len_m, I, len_m, I, J⟩ ?_)
 rcases bt (((a.Ports.length : Int) != (b.Ports.length : Int))) with g | g
 refine AO.known 35 I g (AO.q 8 I (AO.nil ?_))
 exact jf (by simp only [f, g, bz]) I I ⟨I, I⟩
 refine AO.known 35 I g (AO.r 8 [.o 1 1, .l 2 (a.Pumps.length : Int), .o 4 0, .l 5 (b.Stations.length : Int)] I ⟨len_m, I, len_m, I, J⟩ (AO.nil ?_))
 exact jf (by simp only [f, g, bz]) I I ⟨I, I⟩
 refine AW.ch h I ?_ ?_
 intro X h
 refine AW.z I (AW.ghost g0 ?_)
 obtain rfl := oi h
 exact AW.ret pr
 intro X h
 refine AW.skip ?_
 subst W
 refine AW.cutX (fun s ob => ∃ (A : Unit), L.zvqa.J1 b a A = some r ∧ s = [] ∧ ob = [.arr d 32 6 1 [Network.row b], .arr e 37 3 1 [Plan.row a]]) [(2, _), (3, _)] ⟨I, I, J⟩ ?_ ?_
 refine AW.zr [.o 1 1, .l 2 (a.Rates.length : Int)] I ⟨len_m, I, J⟩ (AW.block (AW.lm 45 I (fun Y => ?_)))
 obtain ⟨a7, Z, B⟩ := ob_some h
 clear h
 refine AW.forX Z [(2, _), (3, _), (45, _), (46, _)] ⟨I, I, I, I, J⟩ (fun (p : Nat) (D : Unit) s ob => s = [(47, .V (p : Int))] ∧ ob = [.arr d 32 6 1 [Network.row b], .arr e 37 3 1 [Plan.row a]]) ⟨I, I⟩ ⟨I, J⟩ ⟨[0, 1], I, by decide⟩ ?_ ?_
 rintro p t D a8 s ob aa E ⟨rfl, rfl⟩ h ab
 unfold L.zvqa.B6 at h
 have ac := lt_t E
 refine AW.z I (AW.seqG (fun a9 ad => (AW.condK (v := true) I ac (AW.skip ?_))))
 subst ad
 refine AW.seq (AW.block (AW.zr [.x 1 p (rI t)] I ⟨⟨I, map_get aa⟩, J⟩ (AW.seqG (fun ba ae => ?_))))
 obtain ⟨i, ⟨af, ag⟩, h⟩ := ob_ix h
 refine AW.tr [.o 1 0, .x 3 i.1 (Segment.row i.2)] I ⟨⟨af, map_get ag⟩, I, J⟩ ?_
 subst ae
 refine AW.jb 67 (decide (t < (wr (0 - (min 1000 i.2.Capacity)))) || decide (t > (min 1000 i.2.Capacity))) ?_ ?_
 refine AW.region (AO.q 5 I ?_)
 rcases bt (decide (t < (wr (0 - (min 1000 i.2.Capacity))))) with j | j
 refine AO.known 63 I j (AO.q 4 I (AO.nil ?_))
 exact jf (by simp only [j, bz]) I I ⟨I, I⟩
 refine AO.known 63 I j (AO.q 4 I (AO.nil ?_))
 exact jf (by simp only [j, bz]) I I ⟨I, I⟩
 refine AW.ch h I ?_ ?_
 intro ah h
 refine AW.z I ?_
 obtain rfl := ab _ (oi h).symm
 replace h := B
 replace h := se_r h
 refine AW.ghost g0 ?_
 obtain rfl := oi h
 exact AW.ret pr
 intro ah h
 refine AW.skip (AW.region (AO.r 2 [.k 0 (p + 1 : Nat)] I ⟨cast_wr E Y, J⟩ ?_))
 obtain rfl := oi h
 refine AO.nil ?_
 exact ⟨_, _, _, I, ⟨I, I⟩, ⟨I, I, I, I, I, J⟩, [0, 1], I, by decide⟩
 rintro D s ob ⟨rfl, rfl⟩ he
 subst he
 have h := se_l B
 have ai := lt_f a.Rates.length
 refine AW.z I (AW.seqG (fun bb bc => (AW.condK (v := false) I ai (AW.exit ?_))))
 exact lg ⟨(), h, I, I⟩ [0, 1]
 rintro s ob ⟨A, h, rfl, rfl⟩
 unfold L.zvqa.J1 at h
 refine AW.cutX (fun s ob => ∃ (F : Unit), L.zvqa.J2 b a F = some r ∧ s = [] ∧ ob = [.arr d 32 6 1 [Network.row b], .arr e 37 3 1 [Plan.row a]]) [(2, _), (3, _)] ⟨I, I, J⟩ ?_ ?_
 refine AW.zr [.o 1 1, .l 2 (a.Ports.length : Int)] I ⟨len_m, I, J⟩ (AW.block (AW.lm 70 I (fun aj => ?_)))
 obtain ⟨bd, ak, G⟩ := ob_some h
 clear h
 refine AW.forX ak [(2, _), (3, _), (70, _), (71, _)] ⟨I, I, I, I, J⟩ (fun (u : Nat) (H : Unit) s ob => s = [(72, .V (u : Int))] ∧ ob = [.arr d 32 6 1 [Network.row b], .arr e 37 3 1 [Plan.row a]]) ⟨I, I⟩ ⟨I, J⟩ ⟨[0, 1], I, by decide⟩ ?_ ?_
 rintro u w H be s ob al K ⟨rfl, rfl⟩ h am
 unfold L.zvqa.B5 at h
 have an := lt_t K
 refine AW.z I (AW.seqG (fun bf ao => (AW.condK (v := true) I an (AW.skip ?_))))
 subst ao
 refine AW.seq (AW.block (AW.zr [.x 0 u (rI w)] I ⟨⟨I, map_get al⟩, J⟩ (AW.jb 81 (decide (w < (-1000)) || decide (w > 1000)) ?_ ?_)))
 refine AW.region (AO.q 3 I ?_)
 rcases bt (decide (w < (-1000))) with n | n
 refine AO.known 78 I n (AO.q 3 I (AO.nil ?_))
 exact jf (by simp only [n, bz]) I I ⟨I, I⟩
 refine AO.known 78 I n (AO.q 3 I (AO.nil ?_))
 exact jf (by simp only [n, bz]) I I ⟨I, I⟩
 refine AW.ch h I ?_ ?_
 intro ap h
 refine AW.z I ?_
 obtain rfl := am _ (oi h).symm
 replace h := G
 replace h := se_r h
 refine AW.ghost g0 ?_
 obtain rfl := oi h
 exact AW.ret pr
 intro ap h
 refine AW.skip (AW.region (AO.r 2 [.k 0 (u + 1 : Nat)] I ⟨cast_wr K aj, J⟩ ?_))
 obtain rfl := oi h
 refine AO.nil ?_
 exact ⟨_, _, _, I, ⟨I, I⟩, ⟨I, I, I, I, I, J⟩, [0, 1], I, by decide⟩
 rintro H s ob ⟨rfl, rfl⟩ he
 subst he
 have h := se_l G
 have aq := lt_f a.Ports.length
 refine AW.z I (AW.seqG (fun bg bh => (AW.condK (v := false) I aq (AW.exit ?_))))
 exact lg ⟨(), h, I, I⟩ [0, 1]
 rintro s ob ⟨F, h, rfl, rfl⟩
 unfold L.zvqa.J2 at h
 refine AW.cutX (fun s ob => ∃ (M : Unit), L.zvqa.J3 b a M = some r ∧ s = [] ∧ ob = [.arr d 32 6 1 [Network.row b], .arr e 37 3 1 [Plan.row a]]) [(2, _), (3, _)] ⟨I, I, J⟩ ?_ ?_
 refine AW.zr [.o 1 0, .l 2 (b.Nodes.length : Int)] I ⟨len_m, I, J⟩ (AW.block (AW.lm 84 I (fun ar => ?_)))
 obtain ⟨bi, au, N⟩ := ob_some h
 clear h
 refine AW.forX au [(2, _), (3, _), (85, _)] ⟨I, I, I, J⟩ (fun (y : Nat) (O : Unit) s ob => s = [(86, .V (y : Int))] ∧ ob = [.arr d 32 6 1 [Network.row b], .arr e 37 3 1 [Plan.row a]]) ⟨I, I⟩ ⟨I, J⟩ ⟨[0, 1], I, by decide⟩ ?_ ?_
 rintro y bj O bk s ob bl P ⟨rfl, rfl⟩ h av
 unfold L.zvqa.B4 at h
 have aw := lt_t P
 refine AW.z I (AW.seqG (fun bm ax => (AW.condK (v := true) I aw (AW.skip ?_))))
 subst ax
 refine AW.seq (AW.block (AW.z I (AW.seq ?_)))
 obtain ⟨bn, ay, h⟩ := ob_some h
 refine AW.region (AO.r 3 [.o 0 0, .o 1 1] I ⟨I, I, J⟩ (AO.c (L.zeew_ok _ _ _ _ ay) (AO.q 5 I (AO.nil (AW.z I (AW.ch h I ?_ ?_))))))
 intro az h
 refine AW.z I ?_
 obtain rfl := av _ (oi h).symm
 replace h := N
 replace h := se_r h
 refine AW.ghost g0 ?_
 obtain rfl := oi h
 exact AW.ret pr
 intro az h
 refine AW.skip (AW.region (AO.r 2 [.k 0 (y + 1 : Nat)] I ⟨cast_wr P ar, J⟩ ?_))
 obtain rfl := oi h
 refine AO.nil ?_
 exact ⟨_, _, _, I, ⟨I, I⟩, ⟨I, I, I, I, J⟩, [0, 1], I, by decide⟩
 rintro O s ob ⟨rfl, rfl⟩ he
 subst he
 have h := se_l N
 have a0 := lt_f b.Nodes.length
 refine AW.z I (AW.seqG (fun bo bp => (AW.condK (v := false) I a0 (AW.exit ?_))))
 exact lg ⟨(), h, I, I⟩ [0, 1]
 rintro s ob ⟨M, h, rfl, rfl⟩
 unfold L.zvqa.J3 at h
 refine AW.seq (AW.seq ?_)
 obtain ⟨bq, a1, h⟩ := ob_some h
 refine AW.rd (.still 0 (.still 1 (.still 4 (.still 5 (.still 6 (.act 2 (.act 3 (.still 7 .nil)))))))) [0, 1] [_, _] I (AP.r 5 [.o 0 0, .o 1 1, .o 3 0, .l 4 (b.Nodes.length : Int)] I ⟨len_m, I, I, I, J⟩ (AP.act [] I I I (AX.call0 I I I (L.zaew_ok _ _ _ a1) dS ?_)))
 rintro _ _ ⟨br, rfl, rfl⟩
 refine AP.act [] I I I (AX.of_yd (Yd.lenUM 2 I I I I) dS (AP.q 1 I (AP.ofAO (AO.nil (AW.ch h I ?_ ?_)))))
 intro a2 h
 refine AW.z I (AW.ghost g0 ?_)
 obtain rfl := oi h
 exact AW.ret pr
 intro a2 h
 refine AW.skip (AW.z I (AW.ghost g0 ?_))
 obtain rfl := oi h
 exact AW.ret pr
end Go.Proofs.YtmaamhgjeampmaaGreat
