/- Walks that show what functions of the program compute; printed by a program of ours. No condition. -/
import Derived.Test.YtmaamhgjeampmaaGreatYsL1
set_option maxRecDepth 100000
namespace Go.Proofs.YtmaamhgjeampmaaGreat
open Go.Aw
set_option linter.unusedVariables false
set_option linter.unusedSimpArgs false
set_option maxHeartbeats 4000000
theorem L.zfnd_ok (a : Int) (r : Int) (h : L.zfnd a = r) : ACalls Tryz.env 158 [.v (.int .u8 a)] [] (fun x new => x = .V r ∧ new = []) := by
 refine ACalls.of_body Tryz.func158 rfl rfl rfl (fun C hC => ?_)
 unfold L.zfnd at h
 refine AW.z I (AW.seq (AW.block (AW.cutX (fun s ob => ∃ (e : Unit), L.zfnd.J1 e = r ∧ s = [] ∧ ob = []) [] J ?_ ?_)))
 refine AW.block (AW.block (AW.seq (AW.block (AW.seq (AW.seqG (fun k f => (AW.jb 3 (decide (a ≥ 97) && decide (a ≤ 122)) ?_ ?_)))))))
 refine AW.region (AO.q 1 I (AO.p (Yp.cmpI (c := decide (a ≥ 97)) I I I) I (AO.q 1 I ?_)))
 rcases bt (decide (a ≥ 97)) with b | b
 refine AO.known 6 I b (AO.q 1 I (AO.gt I I I (AO.p (Yp.cmpI (c := decide (a ≤ 122)) I I I) I (AO.q 2 I (AO.nil ?_)))))
 exact jf (by simp only [b, bz]) I I ⟨I, I⟩
 refine AO.known 6 I b (AO.q 4 I (AO.nil ?_))
 exact jf (by simp only [b, bz]) I I ⟨I, I⟩
 refine AW.ch h I ?_ ?_
 intro g h
 refine AW.exit (AW.seq (AW.z I ?_))
 obtain rfl := h
 exact AW.ret pr
 intro g h
 refine AW.skip ?_
 subst f
 refine AW.seq (AW.jb 10 (decide (a ≥ 48) && decide (a ≤ 57)) ?_ ?_)
 refine AW.region (AO.q 1 I (AO.p (Yp.cmpI (c := decide (a ≥ 48)) I I I) I (AO.q 1 I ?_)))
 rcases bt (decide (a ≥ 48)) with d | d
 refine AO.known 13 I d (AO.q 1 I (AO.gt I I I (AO.p (Yp.cmpI (c := decide (a ≤ 57)) I I I) I (AO.q 2 I (AO.nil ?_)))))
 exact jf (by simp only [d, bz]) I I ⟨I, I⟩
 refine AO.known 13 I d (AO.q 4 I (AO.nil ?_))
 exact jf (by simp only [d, bz]) I I ⟨I, I⟩
 refine AW.ch h I ?_ ?_
 intro i h
 refine AW.exit ?_
 exact lg ⟨(), h, I, I⟩ []
 intro i h
 refine AW.skip (AW.seq (AW.region (AO.q 1 I (AO.p (Yp.cmpI (c := (a == 45)) I I I) I (AO.q 1 I (AO.nil (AW.ch h I ?_ ?_)))))))
 intro j h
 refine AW.exit ?_
 exact lg ⟨(), h, I, I⟩ []
 intro j h
 refine AW.skip (AW.exit (AW.z I ?_))
 obtain rfl := h
 exact AW.ret pr
 rintro s ob ⟨e, h, rfl, rfl⟩
 unfold L.zfnd.J1 at h
 refine AW.seq (AW.z I ?_)
 obtain rfl := h
 exact AW.ret pr
theorem L.zcvq_ok (a : ByteArray) (r : Bool) (h : L.zcvq a = some r) : ACalls Tryz.env 137 [.v (.string a)] [] (fun x new => x = .v (.bool r) ∧ new = []) := by
 refine ACalls.of_body Tryz.func137 rfl rfl rfl (fun C hC => ?_)
 unfold L.zcvq at h
 refine AW.z I (AW.seqG (fun S o => (AW.cutX (fun s ob => ∃ (f : Bool), L.zcvq.J1 a f = some r ∧ s = [(17, .v (.bool f))] ∧ ob = []) [(0, _)] ⟨I, J⟩ ?_ ?_)))
 refine AW.region (AO.q 4 I ?_)
 rcases bt (decide ((a.size : Int) < 1)) with b | b
 replace h := ife_t b h
 refine AO.known 7 I b (AO.q 10 I (AO.nil ?_))
 exact lg ⟨true, h, I, I⟩ []
 replace h := ife_f b h
 refine AO.known 7 I b ?_
 rcases bt (decide ((a.size : Int) > 12)) with d | d
 replace h := ife_t d h
 refine AO.q 5 I (AO.known 12 I d (AO.q 5 I (AO.nil ?_)))
 exact lg ⟨true, h, I, I⟩ []
 replace h := ife_f d h
 obtain ⟨g, t, h⟩ := ob_some h
 obtain ⟨u, w, y⟩ := ixs_some t
 refine AO.q 5 I (AO.known 12 I d (AO.q 1 I (AO.gt I I I (AO.p (Yp.indexStrX (m := g.1) I I I I u w y) I (AO.gt I I I (AO.c (L.zfnd_ok g.2 _ I) (AO.q 2 I (AO.nil ?_))))))))
 exact lg ⟨((L.zfnd g.2) != 1), h, I, I⟩ []
 rintro s ob ⟨f, h, rfl, rfl⟩
 unfold L.zcvq.J1 at h
 refine AW.ch h I ?_ ?_
 intro A h
 refine AW.z I ?_
 obtain rfl := oi h
 exact AW.ret pr
 intro A h
 refine AW.skip ?_
 subst o
 refine AW.cutX (fun s ob => ∃ (i : Unit), L.zcvq.J2 i = some r ∧ s = [] ∧ ob = []) [] J ?_ ?_
 refine AW.z I (AW.block ?_)
 obtain ⟨U, B, h⟩ := ob_some h
 have D : (a.size : Int).toNat ≤ 9223372036854775806 := by have := chk_some B; omega
 obtain ⟨W, E, j⟩ := ob_some h
 clear h
 refine AW.forIX E [(0, _), (19, _)] ⟨I, I, J⟩ (fun (e : Nat) (l : Unit) s ob => s = [(20, .V (e : Int))] ∧ ob = []) ⟨I, I⟩ ⟨I, J⟩ ⟨[], I, by decide⟩ ?_ ?_
 rintro e l X s ob F ⟨rfl, rfl⟩ h G
 unfold L.zcvq.B3 at h
 have H : decide ((e : Int) < (a.size : Int)) = true := decide_eq_true (by omega)
 refine AW.z I (AW.seqG (fun Y K => (AW.condK (v := true) I H (AW.skip ?_))))
 subst K
 refine AW.seq (AW.block (AW.z I (AW.seq ?_)))
 obtain ⟨n, M, h⟩ := ob_some h
 obtain ⟨N, O, P⟩ := ixs_some M
 refine AW.region (AO.q 2 I (AO.p (Yp.indexStrX (m := n.1) I I I I N O P) I (AO.c (L.zfnd_ok n.2 _ I) (AO.q 1 I (AO.nil (AW.ch h I ?_ ?_))))))
 intro Q h
 refine AW.z I ?_
 obtain rfl := G _ (oi h).symm
 replace h := j
 replace h := se_r h
 obtain rfl := oi h
 exact AW.ret pr
 intro Q h
 refine AW.skip (AW.region (AO.r 2 [.k 0 (e + 1 : Nat)] I ⟨cast_wr F D, J⟩ ?_))
 obtain rfl := oi h
 refine AO.nil ?_
 exact ⟨_, _, _, I, ⟨I, I⟩, ⟨I, I, I, J⟩, [], I, by decide⟩
 rintro l s ob ⟨rfl, rfl⟩ he
 subst he
 have h := se_l j
 have R : decide ((((a.size : Int).toNat : Nat) : Int) < (a.size : Int)) = false := decide_eq_false (by omega)
 refine AW.z I (AW.seqG (fun Z aa => (AW.condK (v := false) I R (AW.exit ?_))))
 exact lg ⟨(), h, I, I⟩ []
 rintro s ob ⟨i, h, rfl, rfl⟩
 unfold L.zcvq.J2 at h
 refine AW.z I ?_
 obtain rfl := oi h
 exact AW.ret pr
theorem L.zalp_ok (a : Network) (r : Arr (List ByteArray) 4) (h : L.zalp a = some r) : ACalls Tryz.env 134 [.agg (Network.row a)] [] (fun x new => x = .agg (r.l.map (cL 1 rS)) ∧ new = []) := by
 refine ACalls.of_body Tryz.func134 rfl rfl rfl (fun C hC => ?_)
 unfold L.zalp at h
 refine AW.seqG (fun y1 U => (AW.region (AO.act [] I (AX.box (cs := Network.row a) (m := 6) I I I dS (fun u => (AO.act [] I (AX.alloc (cs := [.N, .N, .N, .N]) (m := 4) I I I I I dS (fun f => (AO.nil ?_)))))))))
 subst U
 refine AW.seqG (fun y4 W => (AW.region (AO.act [] I (AX.alloc (cs := [.N, .N, .N, .N]) (m := 4) I I I I I dS (fun g => (AO.nil ?_))))))
 subst W
 refine AW.seqG (fun y6 X => (AW.region (AO.r 2 [.o 1 0] I ⟨I, J⟩ (AO.p (Yp.indexA (m := 0) I I I I I I (le_ble I)) I (AO.act [2] I (AX.st 2 0 0 [[.list 1 (a.Nodes.map rS), .N, .N, .N]] I (AO.nil ?_)))))))
 subst X
 refine AW.cutX (fun s ob => ∃ (c : List ByteArray) (b : Value), L.zalp.J1 a c = some r ∧ s = [] ∧ ob = [.arr u 32 6 1 [Network.row a], .arr f 158 4 1 [[.N, .N, .N, .N]], .arr g 158 4 1 [[.list 1 (a.Nodes.map rS), .v b, .N, .N]], .us b 9 1 (c.map rS)]) [(1, _), (2, _), (3, _)] ⟨I, I, I, J⟩ ?_ ?_
 refine AW.zr [.o 1 0, .l 2 (a.Segments.length : Int)] I ⟨len_m, I, J⟩ (AW.block (AW.lm 14 I (fun Y => (AW.ghost (Ghost.nilU 9 1) ?_))))
 obtain ⟨a5, Z, aa⟩ := ob_some h
 clear h
 refine AW.forY Z [(1, _), (2, _), (3, _), (14, _), (15, _)] ⟨I, I, I, I, I, J⟩ (fun (w : Nat) (y : List ByteArray) s ob => ∃ (j : Value), s = [(16, .V (w : Int))] ∧ ob = [.arr u 32 6 1 [Network.row a], .arr f 158 4 1 [[.N, .N, .N, .N]], .arr g 158 4 1 [[.list 1 (a.Nodes.map rS), .v j, .N, .N]], .us j 9 1 (y.map rS)]) ⟨(.slice none 0 0), I, I⟩ ⟨I, J⟩ ⟨[0, 1, 2, 3], I, by decide⟩ ?_ ?_
 rintro w F y a6 s ob ab M ⟨j, rfl, rfl⟩ h
 unfold L.zalp.B6 at h
 have ac := lt_t M
 refine AW.z I (AW.seqG (fun a7 ad => (AW.condK (v := true) I ac (AW.skip ?_))))
 subst ad
 refine AW.seq (AW.block (AW.seq (AW.region (AO.r 2 [.x 0 w (Segment.row F)] I ⟨⟨I, map_get ab⟩, J⟩ (AO.act [] I (AX.alloc (cs := [.v (.string ⟨#[]⟩), .V 0, .V 0, .V 0, .V 0, .V 0, .N]) (m := 7) I I I I I dS (fun a8 => (AO.act [4] I (AX.st 4 0 0 [Segment.row F] I (AO.nil ?_))))))))))
 obtain ⟨a9, ae, h⟩ := ob_some h
 refine AW.region (AO.p (Yp.indexA (m := 1) I I I I I I (le_ble I)) I (AO.r 3 [.o 0 2, .o 2 4] I ⟨I, I, J⟩ (AO.act [] I (AX.lt 1 (([F.Name] : List ByteArray).map rS) (AO.act [3] I (AX.ap 3 I ae (fun O => (AO.p (Yp.indexA (m := 1) I I I I I I (le_ble I)) I (AO.one 3 I (fun af => (AO.act [2] I (AX.store 2 0 1 (es' := [[.list 1 (a.Nodes.map rS), .v O, .N, .N]]) I I I I I I (cells_v af) I (le_ble I) I I (AO.nil (AW.region (AO.r 2 [.k 0 (w + 1 : Nat)] I ⟨cast_wr M Y, J⟩ ?_)))))))))))))))
 obtain rfl := oi h
 refine AO.nil ?_
 exact lg ⟨O, I, I⟩ [0, 1, 2, 3]
 rintro y s ob ⟨j, rfl, rfl⟩ he
 subst he
 have h := aa
 have ag := lt_f a.Segments.length
 refine AW.z I (AW.seqG (fun ba bb => (AW.condK (v := false) I ag (AW.exit ?_))))
 exact lg ⟨y, j, h, I, I⟩ [0, 1, 2, 3]
 rintro s ob ⟨c, b, h, rfl, rfl⟩
 unfold L.zalp.J1 at h
 refine AW.cutX (fun s ob => ∃ (e : List ByteArray) (d : Value), L.zalp.J2 a c e = some r ∧ s = [] ∧ ob = [.arr u 32 6 1 [Network.row a], .arr f 158 4 1 [[.N, .N, .N, .N]], .arr g 158 4 1 [[.list 1 (a.Nodes.map rS), .v b, .v d, .N]], .us b 9 1 (c.map rS), .us d 9 1 (e.map rS)]) [(1, _), (2, _), (3, _)] ⟨I, I, I, J⟩ ?_ ?_
 refine AW.zr [.o 1 0, .l 2 (a.Ports.length : Int)] I ⟨len_m, I, J⟩ (AW.block (AW.lm 29 I (fun ah => (AW.ghost (Ghost.nilU 9 1) ?_))))
 obtain ⟨bc, ai, aj⟩ := ob_some h
 clear h
 refine AW.forY ai [(1, _), (2, _), (3, _), (29, _), (30, _)] ⟨I, I, I, I, I, J⟩ (fun (A : Nat) (B : List ByteArray) s ob => ∃ (n : Value), s = [(31, .V (A : Int))] ∧ ob = [.arr u 32 6 1 [Network.row a], .arr f 158 4 1 [[.N, .N, .N, .N]], .arr g 158 4 1 [[.list 1 (a.Nodes.map rS), .v b, .v n, .N]], .us b 9 1 (c.map rS), .us n 9 1 (B.map rS)]) ⟨(.slice none 0 0), I, I⟩ ⟨I, J⟩ ⟨[0, 1, 2, 3, 4], I, by decide⟩ ?_ ?_
 rintro A G B bd s ob ak P ⟨n, rfl, rfl⟩ h
 unfold L.zalp.B5 at h
 have al := lt_t P
 refine AW.z I (AW.seqG (fun be am => (AW.condK (v := true) I al (AW.skip ?_))))
 subst am
 refine AW.seq (AW.block (AW.seq (AW.region (AO.r 2 [.x 0 A (Port.row G)] I ⟨⟨I, map_get ak⟩, J⟩ (AO.act [] I (AX.alloc (cs := [.v (.string ⟨#[]⟩), .V 0, .V 0]) (m := 3) I I I I I dS (fun bf => (AO.act [5] I (AX.st 5 0 0 [Port.row G] I (AO.nil ?_))))))))))
 obtain ⟨bg, an, h⟩ := ob_some h
 refine AW.region (AO.p (Yp.indexA (m := 2) I I I I I I (le_ble I)) I (AO.r 3 [.o 0 2, .o 2 5] I ⟨I, I, J⟩ (AO.act [] I (AX.lt 1 (([G.Name] : List ByteArray).map rS) (AO.act [4] I (AX.ap 4 I an (fun Q => (AO.p (Yp.indexA (m := 2) I I I I I I (le_ble I)) I (AO.one 4 I (fun ao => (AO.act [2] I (AX.store 2 0 2 (es' := [[.list 1 (a.Nodes.map rS), .v b, .v Q, .N]]) I I I I I I (cells_v ao) I (le_ble I) I I (AO.nil (AW.region (AO.r 2 [.k 0 (A + 1 : Nat)] I ⟨cast_wr P ah, J⟩ ?_)))))))))))))))
 obtain rfl := oi h
 refine AO.nil ?_
 exact lg ⟨Q, I, I⟩ [0, 1, 2, 3, 4]
 rintro B s ob ⟨n, rfl, rfl⟩ he
 subst he
 have h := aj
 have aq := lt_f a.Ports.length
 refine AW.z I (AW.seqG (fun bh bi => (AW.condK (v := false) I aq (AW.exit ?_))))
 exact lg ⟨B, n, h, I, I⟩ [0, 1, 2, 3, 4]
 rintro s ob ⟨e, d, h, rfl, rfl⟩
 unfold L.zalp.J2 at h
 refine AW.cutX (fun s ob => ∃ (q : List ByteArray) (i : Value), L.zalp.J3 a c e q = some r ∧ s = [] ∧ ob = [.arr f 158 4 1 [[.N, .N, .N, .N]], .arr g 158 4 1 [[.list 1 (a.Nodes.map rS), .v b, .v d, .v i]], .us b 9 1 (c.map rS), .us d 9 1 (e.map rS), .us i 9 1 (q.map rS)]) [(2, _), (3, _)] ⟨I, I, J⟩ ?_ ?_
 refine AW.zr [.o 1 0, .l 2 (a.Stations.length : Int)] I ⟨len_m, I, J⟩ (AW.block (AW.lm 44 I (fun ar => (AW.ghost (Ghost.nilU 9 1) ?_))))
 obtain ⟨bj, au, av⟩ := ob_some h
 clear h
 refine AW.forY au [(2, _), (3, _), (44, _), (45, _)] ⟨I, I, I, I, J⟩ (fun (D : Nat) (E : List ByteArray) s ob => ∃ (t : Value), s = [(46, .V (D : Int))] ∧ ob = [.arr f 158 4 1 [[.N, .N, .N, .N]], .arr g 158 4 1 [[.list 1 (a.Nodes.map rS), .v b, .v d, .v t]], .us b 9 1 (c.map rS), .us d 9 1 (e.map rS), .us t 9 1 (E.map rS)]) ⟨(.slice none 0 0), I, I⟩ ⟨I, J⟩ ⟨[1, 2, 3, 4, 5], I, by decide⟩ ?_ ?_
 rintro D H E bk s ob aw R ⟨t, rfl, rfl⟩ h
 unfold L.zalp.B4 at h
 have ax := lt_t R
 refine AW.z I (AW.seqG (fun bl ay => (AW.condK (v := true) I ax (AW.skip ?_))))
 subst ay
 refine AW.seq (AW.block (AW.seq (AW.region (AO.r 2 [.x 0 D (Station.row H)] I ⟨⟨I, map_get aw⟩, J⟩ (AO.act [] I (AX.alloc (cs := [.v (.string ⟨#[]⟩), .V 0, .V 0, .V 0, .V 0]) (m := 5) I I I I I dS (fun bm => (AO.act [5] I (AX.st 5 0 0 [Station.row H] I (AO.nil ?_))))))))))
 obtain ⟨bn, az, h⟩ := ob_some h
 refine AW.region (AO.p (Yp.indexA (m := 3) I I I I I I (le_ble I)) I (AO.r 3 [.o 0 1, .o 2 5] I ⟨I, I, J⟩ (AO.act [] I (AX.lt 1 (([H.Name] : List ByteArray).map rS) (AO.act [4] I (AX.ap 4 I az (fun S => (AO.p (Yp.indexA (m := 3) I I I I I I (le_ble I)) I (AO.one 4 I (fun a0 => (AO.act [1] I (AX.store 1 0 3 (es' := [[.list 1 (a.Nodes.map rS), .v b, .v d, .v S]]) I I I I I I (cells_v a0) I (le_ble I) I I (AO.nil (AW.region (AO.r 2 [.k 0 (D + 1 : Nat)] I ⟨cast_wr R ar, J⟩ ?_)))))))))))))))
 obtain rfl := oi h
 refine AO.nil ?_
 exact lg ⟨S, I, I⟩ [0, 1, 2, 3, 4]
 rintro E s ob ⟨t, rfl, rfl⟩ he
 subst he
 have h := av
 have a1 := lt_f a.Stations.length
 refine AW.z I (AW.seqG (fun bo bp => (AW.condK (v := false) I a1 (AW.exit ?_))))
 exact lg ⟨E, t, h, I, I⟩ [0, 1, 2, 3, 4]
 rintro s ob ⟨q, i, h, rfl, rfl⟩
 unfold L.zalp.J3 at h
 refine AW.seq (AW.region (AO.r 1 [.o 0 1] I ⟨I, J⟩ (AO.act [0] I (AX.st 0 0 0 [[.list 1 (a.Nodes.map rS), .v b, .v d, .v i]] I (AO.nil (AW.ghost (Ghost.freeze [2, 3, 4] (K := [.us b 9 1 (c.map rS), .us d 9 1 (e.map rS), .us i 9 1 (q.map rS)]) I [] J (ob' := [.arr f 158 4 1 [[.list 1 (a.Nodes.map rS), .list 1 (c.map rS), .list 1 (e.map rS), .list 1 (q.map rS)]], .arr g 158 4 1 [[.list 1 (a.Nodes.map rS), .v b, .v d, .v i]]]) (.cons (.arr (.cons (.refl _) (.cons (.us 0 I) (.cons (.us 1 I) (.cons (.us 2 I) (.rest _)))))) (.rest _))) (AW.gp [0] I ?_)))))))
 obtain rfl := oi h
 exact AW.ret ⟨.inr I, [_], [], ⟨⟨0, _, _, _, _, _, _, _, I, I, I, I, I⟩, J⟩, sl_n, I, I⟩
theorem L.zsgv_ok (a : Station) (b : Station) (r : Bool) (h : L.zsgv a b = r) : ACalls Tryz.env 161 [.agg (Station.row a), .eptr (Station.row b)] [] (fun x new => x = .v (.bool r) ∧ new = []) := by
 refine ACalls.of_body Tryz.func161 rfl rfl rfl (fun C hC => ?_)
 unfold L.zsgv at h
 refine AW.seq (AW.region (AO.act [] I (AX.box (cs := Station.row a) (m := 5) I I I dS (fun c => (AO.q 1 I (AO.nil (AW.zr [.o 1 0] I ⟨I, J⟩ (AW.ghost g0 ?_))))))))
 obtain rfl := h
 exact AW.ret pr
theorem L.zybm_ok (a : Network) (r : Bool) (h : L.zybm a = some r) : ACalls Tryz.env 138 [.agg (Network.row a)] [] (fun x new => x = .v (.bool r) ∧ new = []) := by
 refine ACalls.of_body Tryz.func138 rfl rfl rfl (fun C hC => ?_)
 unfold L.zybm at h
 refine AW.seqG (fun y1 G => (AW.region (AO.act [] I (AX.box (cs := Network.row a) (m := 6) I I I dS (fun b => (AO.q 1 I (AO.nil ?_)))))))
 subst G
 refine AW.cutX (fun s ob => ∃ (j : Unit), L.zybm.J1 a j = some r ∧ s = [] ∧ ob = [.arr b 32 6 1 [Network.row a]]) [(1, _)] ⟨I, J⟩ ?_ ?_
 refine AW.seqG (fun aw H => ?_)
 obtain ⟨ax, K, h⟩ := ob_some h
 refine AW.region (AO.r 1 [.o 0 0] I ⟨I, J⟩ (AO.act [] I (AX.call0 I I I (L.zalp_ok _ _ K) dS ?_)))
 rintro _ _ ⟨rfl, rfl⟩
 refine AO.q 1 I (AO.nil ?_)
 subst H
 refine AW.block ?_
 have M : (4 : Nat) ≤ 9223372036854775806 := by decide
 obtain ⟨ay, N, n⟩ := ob_some h
 clear h
 refine AW.forIX N [(1, _), (10, _)] ⟨I, I, J⟩ (fun (e : Nat) (t : Unit) s ob => s = [(11, .V (e : Int))] ∧ ob = [.arr b 32 6 1 [Network.row a]]) ⟨I, I⟩ ⟨I, J⟩ ⟨[0], I, by decide⟩ ?_ ?_
 rintro e t O s ob P ⟨rfl, rfl⟩ h Q
 unfold L.zybm.B4 at h
 have R : decide ((e : Int) < 4) = true := decide_eq_true (by omega)
 refine AW.z I (AW.seqG (fun az S => (AW.condK (v := true) I R (AW.skip ?_))))
 subst S
 refine AW.cutX (fun s ob => ∃ (u : Unit), L.zybm.J5 u = some O ∧ s = [] ∧ ob = [.arr b 32 6 1 [Network.row a]]) [(1, _), (10, _), (11, _)] ⟨I, I, I, J⟩ ?_ ?_
 refine AW.block (AW.seqG (fun a0 U => ?_))
 obtain ⟨i, ⟨W, X⟩, h⟩ := ob_ix h
 refine AW.region (AO.p (Yp.indexAgM (m := i.1) I I I I I I I W X (hlen := Arr.h _)) I (AO.q 1 I (AO.nil ?_)))
 subst U
 refine AW.zr [.l 1 (i.2.length : Int)] I ⟨len_m, J⟩ (AW.block (AW.lm 14 I (fun Y => ?_)))
 obtain ⟨a1, Z, w⟩ := ob_some h
 clear h
 refine AW.forX Z [(1, _), (4, _), (10, _), (11, _), (14, _), (15, _)] ⟨I, I, I, I, I, I, J⟩ (fun (f : Nat) (y : Unit) s ob => s = [(16, .V (f : Int))] ∧ ob = [.arr b 32 6 1 [Network.row a]]) ⟨I, I⟩ ⟨I, J⟩ ⟨[0], I, by decide⟩ ?_ ?_
 rintro f aa y a2 s ob ab A ⟨rfl, rfl⟩ h ac
 unfold L.zybm.B6 at h
 have ad := lt_t A
 refine AW.z I (AW.seqG (fun a3 ae => (AW.condK (v := true) I ad (AW.skip ?_))))
 subst ae
 refine AW.seq (AW.block (AW.zr [.x 1 f (rS aa)] I ⟨⟨I, map_get ab⟩, J⟩ (AW.seq ?_)))
 obtain ⟨a4, af, h⟩ := ob_some h
 refine AW.region (AO.q 2 I (AO.c (L.zsbv_ok _ _ _ af) (AO.q 2 I (AO.nil (AW.ch h I ?_ ?_)))))
 intro ag h
 refine AW.z I ?_
 obtain rfl := ac _ (oi h).symm
 replace h := w
 replace h := se_r h
 obtain rfl := Q _ (oi h).symm
 replace h := n
 replace h := se_r h
 refine AW.ghost g0 ?_
 obtain rfl := oi h
 exact AW.ret pr
 intro ag h
 refine AW.skip (AW.region (AO.r 2 [.k 0 (f + 1 : Nat)] I ⟨cast_wr A Y, J⟩ ?_))
 obtain rfl := oi h
 refine AO.nil ?_
 exact ⟨_, _, _, I, ⟨I, I⟩, ⟨I, I, I, I, I, I, I, J⟩, [0], I, by decide⟩
 rintro y s ob ⟨rfl, rfl⟩ he
 subst he
 have h := se_l w
 have ah := lt_f i.2.length
 refine AW.z I (AW.seqG (fun a5 a6 => (AW.condK (v := false) I ah (AW.exit ?_))))
 exact lg ⟨(), h, I, I⟩ [0]
 rintro s ob ⟨u, h, rfl, rfl⟩
 unfold L.zybm.J5 at h
 refine AW.region (AO.r 2 [.k 0 (e + 1 : Nat)] I ⟨cast_wr P M, J⟩ ?_)
 obtain rfl := oi h
 refine AO.nil ?_
 exact ⟨_, _, _, I, ⟨I, I⟩, ⟨I, I, I, J⟩, [0], I, by decide⟩
 rintro t s ob ⟨rfl, rfl⟩ he
 subst he
 have h := se_l n
 have ai : decide (((4 : Nat) : Int) < 4) = false := by simp
 refine AW.z I (AW.seqG (fun a7 a8 => (AW.condK (v := false) I ai (AW.exit ?_))))
 exact lg ⟨(), h, I, I⟩ [0]
 rintro s ob ⟨j, h, rfl, rfl⟩
 unfold L.zybm.J1 at h
 refine AW.cutX (fun s ob => ∃ (B : Unit), L.zybm.J2 B = some r ∧ s = [] ∧ ob = []) [] J ?_ ?_
 refine AW.zr [.o 1 0, .l 2 (a.Stations.length : Int)] I ⟨len_m, I, J⟩ (AW.block (AW.lm 29 I (fun aj => ?_)))
 obtain ⟨a9, ak, D⟩ := ob_some h
 clear h
 refine AW.forX ak [(1, _), (29, _), (30, _)] ⟨I, I, I, J⟩ (fun (g : Nat) (E : Unit) s ob => s = [(31, .V (g : Int))] ∧ ob = [.arr b 32 6 1 [Network.row a]]) ⟨I, I⟩ ⟨I, J⟩ ⟨[0], I, by decide⟩ ?_ ?_
 rintro g d E ba s ob al F ⟨rfl, rfl⟩ h am
 unfold L.zybm.B3 at h
 have an := lt_t F
 refine AW.z I (AW.seqG (fun bb ao => (AW.condK (v := true) I an (AW.skip ?_))))
 subst ao
 refine AW.seq (AW.block (AW.seqG (fun bc ap => (AW.region (AO.r 3 [.x 1 g (Station.row d)] I ⟨⟨I, map_get al⟩, J⟩ (AO.act [] I (AX.alloc (cs := [.v (.string ⟨#[]⟩), .V 0, .V 0, .V 0, .V 0]) (m := 5) I I I I I dS (fun bd => (AO.q 1 I (AO.act [1] I (AX.st 1 0 0 [Station.row d] I (AO.nil ?_))))))))))))
 subst ap
 refine AW.seq ?_
 obtain ⟨be, aq, h⟩ := ob_some h
 refine AW.region (AO.r 2 [.o 1 0] I ⟨I, J⟩ (AO.p (Yp.makeFunc I I) I (AO.act [] I (AX.callL I (.refl _) I I (.cons (.refl _) (.cons (.fn (.rest _) (.cons (.box 1 I (.rest _)) (.rest _))) (.rest _))) I (L.zywf_ok _ (.fn 161 [] [.eptr (Station.row d)]) I (fun x => some (L.zsgv x d)) (fun x r h => by obtain I := oi h; exact L.zsgv_ok x d _ I) _ aq) dS (by rintro _ _ ⟨rfl, _⟩; rfl) ?_))))
 rintro _ ⟨_, rfl, -⟩
 refine AO.q 2 I (AO.nil (AW.ch h I ?_ ?_))
 intro ar h
 refine AW.z I ?_
 obtain rfl := am _ (oi h).symm
 replace h := D
 replace h := se_r h
 refine AW.ghost g0 ?_
 obtain rfl := oi h
 exact AW.ret pr
 intro ar h
 refine AW.skip (AW.region (AO.r 2 [.k 0 (g + 1 : Nat)] I ⟨cast_wr F aj, J⟩ ?_))
 obtain rfl := oi h
 refine AO.nil ?_
 exact ⟨_, _, _, I, ⟨I, I⟩, ⟨I, I, I, I, J⟩, [0], I, by decide⟩
 rintro E s ob ⟨rfl, rfl⟩ he
 subst he
 have h := se_l D
 have au := lt_f a.Stations.length
 refine AW.z I (AW.seqG (fun bf bg => (AW.condK (v := false) I au (AW.exit ?_))))
 exact lg ⟨(), h, I, I⟩ []
 rintro s ob ⟨B, h, rfl, rfl⟩
 unfold L.zybm.J2 at h
 refine AW.z I ?_
 obtain rfl := oi h
 exact AW.ret pr
theorem L.zxqi_ok (a : Int) (c : Network) (r : Bool) (h : L.zxqi a c = r) : ACalls Tryz.env 162 [.V a, .eptr (Network.row c)] [] (fun x new => x = .v (.bool r) ∧ new = []) := by
 refine ACalls.of_body Tryz.func162 rfl rfl rfl (fun C hC => ?_)
 unfold L.zxqi at h
 refine AW.z I (AW.cutX (fun s ob => s = [(3, .v (.bool (decide (a < 0) || decide (a ≥ (c.Nodes.length : Int)))))] ∧ ob = []) [] J ?_ ?_)
 refine AW.region (AO.q 3 I ?_)
 rcases bt (decide (a < 0)) with b | b
 refine AO.known 6 I b (AO.q 7 I (AO.nil ?_))
 exact lf ⟨I, I⟩ ⟨(get_b (by simp only [b, bz])), J⟩ [] I
 refine AO.known 6 I b (AO.r 7 [.l 3 (c.Nodes.length : Int)] I ⟨len_m, J⟩ (AO.nil ?_))
 exact lf ⟨I, I⟩ ⟨(get_b (by simp only [b, bz])), J⟩ [] I
 rintro s ob ⟨rfl, rfl⟩
 obtain rfl := h
 exact AW.ret pr
theorem L.zctd_ok (a : Network) (r : Bool) (h : L.zctd a = some r) : ACalls Tryz.env 139 [.agg (Network.row a)] [] (fun x new => x = .v (.bool r) ∧ new = []) := by
 refine ACalls.of_body Tryz.func139 rfl rfl rfl (fun C hC => ?_)
 unfold L.zctd at h
 refine AW.seqG (fun y1 O => (AW.region (AO.act [] I (AX.box (cs := Network.row a) (m := 6) I I I dS (fun b => (AO.q 1 I (AO.nil ?_)))))))
 subst O
 refine AW.z I (AW.cutX (fun s ob => ∃ (A : List Int) (f : Value), L.zctd.J1 a A = some r ∧ s = [(3, .v f)] ∧ ob = [.arr b 32 6 1 [Network.row a], .us f 3 1 (A.map rI)]) [(1, _)] ⟨I, J⟩ ?_ ?_)
 refine AW.zr [.o 1 0, .l 2 (a.Segments.length : Int)] I ⟨len_m, I, J⟩ (AW.block (AW.lm 11 I (fun P => (AW.ghost (Ghost.nilU 3 1) ?_))))
 obtain ⟨ax, Q, R⟩ := ob_some h
 clear h
 refine AW.forY Q [(1, _), (11, _), (12, _)] ⟨I, I, I, J⟩ (fun (g : Nat) (i : List Int) s ob => ∃ (c : Value), s = [(13, .V (g : Int)), (3, .v c)] ∧ ob = [.arr b 32 6 1 [Network.row a], .us c 3 1 (i.map rI)]) ⟨(.slice none 0 0), I, I⟩ ⟨I, I, J⟩ ⟨[0, 1], I, by decide⟩ ?_ ?_
 rintro g j i ay s ob S H ⟨c, rfl, rfl⟩ h
 unfold L.zctd.B6 at h
 have U := lt_t H
 refine AW.z I (AW.seqG (fun az W => (AW.condK (v := true) I U (AW.skip ?_))))
 subst W
 refine AW.seq (AW.block (AW.seq (AW.region (AO.r 2 [.x 0 g (Segment.row j)] I ⟨⟨I, map_get S⟩, J⟩ (AO.act [] I (AX.alloc (cs := [.v (.string ⟨#[]⟩), .V 0, .V 0, .V 0, .V 0, .V 0, .N]) (m := 7) I I I I I dS (fun a0 => (AO.act [2] I (AX.st 2 0 0 [Segment.row j] I (AO.nil ?_))))))))))
 obtain ⟨a1, X, h⟩ := ob_some h
 refine AW.region (AO.r 5 [.o 2 2, .o 4 2] I ⟨I, I, J⟩ (AO.act [] I (AX.lt 1 (([j.From, j.To] : List Int).map rI) (AO.act [1] I (AX.ap 1 I X (fun Y => (AO.q 1 I (AO.nil (AW.region (AO.r 2 [.k 0 (g + 1 : Nat)] I ⟨cast_wr H P, J⟩ ?_))))))))))
 obtain rfl := oi h
 refine AO.nil ?_
 exact lg ⟨Y, I, I⟩ [0, 1]
 rintro i s ob ⟨c, rfl, rfl⟩ he
 subst he
 have h := R
 have Z := lt_f a.Segments.length
 refine AW.z I (AW.seqG (fun a2 a3 => (AW.condK (v := false) I Z (AW.exit ?_))))
 exact lg ⟨i, c, h, I, I⟩ [0, 1]
 rintro s ob ⟨A, f, h, rfl, rfl⟩
 unfold L.zctd.J1 at h
 refine AW.cutX (fun s ob => ∃ (B : List Int) (n : Value), L.zctd.J2 a B = some r ∧ s = [(3, .v n)] ∧ ob = [.arr b 32 6 1 [Network.row a], .us n 3 1 (B.map rI)]) [(1, _)] ⟨I, J⟩ ?_ ?_
 refine AW.zr [.o 1 0, .l 2 (a.Ports.length : Int)] I ⟨len_m, I, J⟩ (AW.block (AW.lm 26 I (fun aa => ?_)))
 obtain ⟨a4, ab, ac⟩ := ob_some h
 clear h
 refine AW.forY ab [(1, _), (26, _), (27, _)] ⟨I, I, I, J⟩ (fun (t : Nat) (u : List Int) s ob => ∃ (d : Value), s = [(28, .V (t : Int)), (3, .v d)] ∧ ob = [.arr b 32 6 1 [Network.row a], .us d 3 1 (u.map rI)]) ⟨f, I, I⟩ ⟨I, I, J⟩ ⟨[0, 1], I, by decide⟩ ?_ ?_
 rintro t D u a5 s ob ad K ⟨d, rfl, rfl⟩ h
 unfold L.zctd.B5 at h
 have ae := lt_t K
 refine AW.z I (AW.seqG (fun a6 af => (AW.condK (v := true) I ae (AW.skip ?_))))
 subst af
 refine AW.seq (AW.block (AW.seq (AW.region (AO.r 2 [.x 0 t (Port.row D)] I ⟨⟨I, map_get ad⟩, J⟩ (AO.act [] I (AX.alloc (cs := [.v (.string ⟨#[]⟩), .V 0, .V 0]) (m := 3) I I I I I dS (fun a7 => (AO.act [2] I (AX.st 2 0 0 [Port.row D] I (AO.nil ?_))))))))))
 obtain ⟨a8, ag, h⟩ := ob_some h
 refine AW.region (AO.r 3 [.o 2 2] I ⟨I, J⟩ (AO.act [] I (AX.lt 1 (([D.Node] : List Int).map rI) (AO.act [1] I (AX.ap 1 I ag (fun ah => (AO.q 1 I (AO.nil (AW.region (AO.r 2 [.k 0 (t + 1 : Nat)] I ⟨cast_wr K aa, J⟩ ?_))))))))))
 obtain rfl := oi h
 refine AO.nil ?_
 exact lg ⟨ah, I, I⟩ [0, 1]
 rintro u s ob ⟨d, rfl, rfl⟩ he
 subst he
 have h := ac
 have ai := lt_f a.Ports.length
 refine AW.z I (AW.seqG (fun a9 ba => (AW.condK (v := false) I ai (AW.exit ?_))))
 exact lg ⟨u, d, h, I, I⟩ [0, 1]
 rintro s ob ⟨B, n, h, rfl, rfl⟩
 unfold L.zctd.J2 at h
 refine AW.cutX (fun s ob => ∃ (E : List Int) (F : Value), L.zctd.J3 a E = some r ∧ s = [(3, .v F)] ∧ ob = [.arr b 32 6 1 [Network.row a], .us F 3 1 (E.map rI)]) [(1, _)] ⟨I, J⟩ ?_ ?_
 refine AW.zr [.o 1 0, .l 2 (a.Stations.length : Int)] I ⟨len_m, I, J⟩ (AW.block (AW.lm 39 I (fun aj => ?_)))
 obtain ⟨bb, ak, al⟩ := ob_some h
 clear h
 refine AW.forY ak [(1, _), (39, _), (40, _)] ⟨I, I, I, J⟩ (fun (w : Nat) (y : List Int) s ob => ∃ (e : Value), s = [(41, .V (w : Int)), (3, .v e)] ∧ ob = [.arr b 32 6 1 [Network.row a], .us e 3 1 (y.map rI)]) ⟨n, I, I⟩ ⟨I, I, J⟩ ⟨[0, 1], I, by decide⟩ ?_ ?_
 rintro w G y bc s ob am M ⟨e, rfl, rfl⟩ h
 unfold L.zctd.B4 at h
 have an := lt_t M
 refine AW.z I (AW.seqG (fun bd ao => (AW.condK (v := true) I an (AW.skip ?_))))
 subst ao
 refine AW.seq (AW.block (AW.seq (AW.region (AO.r 2 [.x 0 w (Station.row G)] I ⟨⟨I, map_get am⟩, J⟩ (AO.act [] I (AX.alloc (cs := [.v (.string ⟨#[]⟩), .V 0, .V 0, .V 0, .V 0]) (m := 5) I I I I I dS (fun be => (AO.act [2] I (AX.st 2 0 0 [Station.row G] I (AO.nil ?_))))))))))
 obtain ⟨bf, aq, h⟩ := ob_some h
 refine AW.region (AO.r 3 [.o 2 2] I ⟨I, J⟩ (AO.act [] I (AX.lt 1 (([G.Node] : List Int).map rI) (AO.act [1] I (AX.ap 1 I aq (fun ar => (AO.q 1 I (AO.nil (AW.region (AO.r 2 [.k 0 (w + 1 : Nat)] I ⟨cast_wr M aj, J⟩ ?_))))))))))
 obtain rfl := oi h
 refine AO.nil ?_
 exact lg ⟨ar, I, I⟩ [0, 1]
 rintro y s ob ⟨e, rfl, rfl⟩ he
 subst he
 have h := al
 have au := lt_f a.Stations.length
 refine AW.z I (AW.seqG (fun bg bh => (AW.condK (v := false) I au (AW.exit ?_))))
 exact lg ⟨y, e, h, I, I⟩ [0, 1]
 rintro s ob ⟨E, F, h, rfl, rfl⟩
 unfold L.zctd.J3 at h
 refine AW.seq ?_
 obtain ⟨bi, av, h⟩ := ob_some h
 refine AW.region (AO.q 1 I (AO.p (Yp.makeFunc I I) I (AO.act [] I (AX.callL I (.refl _) I I (.cons (.us 1 I) (.cons (.fn (.rest _) (.cons (.box 0 I (.rest _)) (.rest _))) (.rest _))) I (L.zvoj_ok _ (.fn 162 [] [.eptr (Network.row a)]) I (fun x => some (L.zxqi x a)) (fun x r h => by obtain I := oi h; exact L.zxqi_ok x a _ I) _ av) dS (by rintro _ _ ⟨rfl, _⟩; rfl) ?_))))
 rintro _ ⟨_, rfl, -⟩
 refine AO.q 2 I (AO.nil (AW.ghost g0 ?_))
 obtain rfl := oi h
 exact AW.ret pr
theorem L.zcxq_ok (a : Segment) (r : Bool) (h : L.zcxq a = some r) : ACalls Tryz.env 164 [.agg (Segment.row a)] [] (fun x new => x = .v (.bool r) ∧ new = []) := by
 refine ACalls.of_body Tryz.func164 rfl rfl rfl (fun C hC => ?_)
 unfold L.zcxq at h
 refine AW.seqG (fun y1 H => (AW.region (AO.act [] I (AX.box (cs := Segment.row a) (m := 7) I I I dS (fun t => (AO.q 1 I (AO.nil ?_)))))))
 subst H
 refine AW.seqG (fun y3 K => (AW.jb 27 ((a.From == a.To) || ((!(L.zvhs a.Capacity 1 1000000)) || ((!(L.zvhs a.Resist 0 1000)) || (!(L.zvhs a.Wave 0 100000))))) ?_ ?_))
 refine AW.region (AO.r 6 [.o 1 0, .o 3 0] I ⟨I, I, J⟩ ?_)
 rcases bt ((a.From == a.To)) with d | d
 refine AO.known 10 I d (AO.q 17 I (AO.nil ?_))
 exact jf (by simp only [d, bz]) I I ⟨I, I⟩
 refine AO.known 10 I d (AO.r 2 [.o 1 0] I ⟨I, J⟩ (AO.gt I I I (AO.c (L.zvhs_ok a.Capacity 1 1000000 _ I) (AO.q 3 I ?_))))
 rcases bt ((!(L.zvhs a.Capacity 1 1000000))) with f | f
 refine AO.known 16 I f (AO.q 11 I (AO.nil ?_))
 exact jf (by simp only [d, f, bz]) I I ⟨I, I⟩
 refine AO.known 16 I f (AO.r 2 [.o 1 0] I ⟨I, J⟩ (AO.gt I I I (AO.c (L.zvhs_ok a.Resist 0 1000 _ I) (AO.q 3 I ?_))))
 rcases bt ((!(L.zvhs a.Resist 0 1000))) with i | i
 refine AO.known 22 I i (AO.q 5 I (AO.nil ?_))
 exact jf (by simp only [d, f, i, bz]) I I ⟨I, I⟩
 refine AO.known 22 I i (AO.r 2 [.o 1 0] I ⟨I, J⟩ (AO.gt I I I (AO.c (L.zvhs_ok a.Wave 0 100000 _ I) (AO.q 2 I (AO.nil ?_)))))
 exact jf (by simp only [d, f, i, bz]) I I ⟨I, I⟩
 refine AW.ch h I ?_ ?_
 intro M h
 refine AW.z I (AW.ghost g0 ?_)
 obtain rfl := oi h
 exact AW.ret pr
 intro M h
 refine AW.skip ?_
 subst K
 refine AW.cutX (fun s ob => ∃ (D : Unit), L.zcxq.J1 a D = some r ∧ s = [] ∧ ob = [.arr t 83 7 1 [Segment.row a]]) [(1, _)] ⟨I, J⟩ ?_ ?_
 refine AW.zr [.o 1 0, .l 2 (a.Points.length : Int)] I ⟨len_m, I, J⟩ (AW.block (AW.lm 29 I (fun N => ?_)))
 obtain ⟨ah, O, E⟩ := ob_some h
 clear h
 refine AW.forX O [(1, _), (29, _), (30, _)] ⟨I, I, I, J⟩ (fun (j : Nat) (F : Unit) s ob => s = [(31, .V (j : Int))] ∧ ob = [.arr t 83 7 1 [Segment.row a]]) ⟨I, I⟩ ⟨I, J⟩ ⟨[0], I, by decide⟩ ?_ ?_
 rintro j b F P s ob Q G ⟨rfl, rfl⟩ h R
 unfold L.zcxq.B3 at h
 have S := lt_t G
 refine AW.z I (AW.seqG (fun ai U => (AW.condK (v := true) I S (AW.skip ?_))))
 subst U
 refine AW.seq (AW.block (AW.seqG (fun aj W => (AW.region (AO.r 3 [.x 1 j (Point.row b)] I ⟨⟨I, map_get Q⟩, J⟩ (AO.act [] I (AX.alloc (cs := [.V 0, .V 0, .V 0]) (m := 3) I I I I I dS (fun ak => (AO.q 1 I (AO.act [1] I (AX.st 1 0 0 [Point.row b] I (AO.nil ?_))))))))))))
 subst W
 refine AW.cutX (fun s ob => ∃ (u : Bool), L.zcxq.J4 u = some P ∧ s = [(61, .v (.bool u))] ∧ ob = [.arr t 83 7 1 [Segment.row a]]) [(1, _), (29, _), (30, _), (31, _)] ⟨I, I, I, I, J⟩ ?_ ?_
 rcases bt ((!(L.zvhs b.Height (-500) 5000))) with e | e
 replace h := ife_t e h
 refine AW.rd (pd 26 0 [2, 7]) [1] [_] I (AP.r 2 [.o 1 0] I ⟨I, J⟩ (AP.c I (L.zvhs_ok b.Height (-500) 5000 _ I) (AP.q 2 I (AP.known 40 I e (AP.q 9 I (AP.skipU I I I I dS (AP.skipU I I I I dS (AP.skipU I I I I dS (AP.skipU I I I I dS (AP.skipU I I I I dS (AP.skipU I I I I dS (AP.skipU I I I I dS ?_))))))))))))
 refine AP.skipU I I I I dS (AP.skipU I I I I dS (AP.skipU I I I I dS (AP.q 2 I (AP.ofAO (AO.nil ?_)))))
 exact lg ⟨true, h, I, I⟩ [0]
 replace h := ife_f e h
 rcases bt ((!(L.zvhs b.Limit 0 100000000))) with g | g
 replace h := ife_t g h
 refine AW.rd (pd 26 0 [2, 7]) [1] [_] I (AP.r 2 [.o 1 0] I ⟨I, J⟩ (AP.c I (L.zvhs_ok b.Height (-500) 5000 _ I) (AP.q 2 I (AP.known 40 I e (AP.r 2 [.o 1 0] I ⟨I, J⟩ (AP.cG I (L.zvhs_ok b.Limit 0 100000000 _ I) (AP.q 3 I (AP.known 46 I g (AP.q 3 I (AP.skipU I I I I dS (AP.skipU I I I I dS (AP.skipU I I I I dS ?_))))))))))))
 refine AP.skipU I I I I dS (AP.skipU I I I I dS (AP.skipU I I I I dS (AP.skipU I I I I dS (AP.skipU I I I I dS (AP.skipU I I I I dS (AP.skipU I I I I dS (AP.q 2 I (AP.ofAO (AO.nil ?_)))))))))
 exact lg ⟨true, h, I, I⟩ [0]
 replace h := ife_f g h
 rcases bt (decide ((j : Int) > 0)) with n | n
 replace h := ife_t n h
 obtain ⟨w, ⟨X, Y⟩, h⟩ := ob_ix h
 refine AW.rd (pd 26 0 [2, 7]) [1, 0] [_, _] I (AP.r 2 [.o 1 0] I ⟨I, J⟩ (AP.c I (L.zvhs_ok b.Height (-500) 5000 _ I) (AP.q 2 I (AP.known 40 I e (AP.r 2 [.o 1 0] I ⟨I, J⟩ (AP.cG I (L.zvhs_ok b.Limit 0 100000000 _ I) (AP.q 3 I (AP.known 46 I g (AP.q 3 I (AP.known 49 I n (AP.r 12 [.o 1 0, .o 3 1, .x 6 w.1 (Point.row w.2)] I ⟨⟨X, map_get Y⟩, I, I, J⟩ (AP.ofAO ?_))))))))))))
 refine AO.nil ?_
 exact lg ⟨decide (b.At ≤ w.2.At), h, I, I⟩ [0]
 replace h := ife_f n h
 refine AW.rd (pd 26 0 [2, 7]) [1] [_] I (AP.r 2 [.o 1 0] I ⟨I, J⟩ (AP.c I (L.zvhs_ok b.Height (-500) 5000 _ I) (AP.q 2 I (AP.known 40 I e (AP.r 2 [.o 1 0] I ⟨I, J⟩ (AP.cG I (L.zvhs_ok b.Limit 0 100000000 _ I) (AP.q 3 I (AP.known 46 I g (AP.q 3 I (AP.known 49 I n (AP.q 12 I (AP.ofAO ?_))))))))))))
 refine AO.nil ?_
 exact lg ⟨false, h, I, I⟩ [0]
 rintro s ob ⟨u, h, rfl, rfl⟩
 unfold L.zcxq.J4 at h
 refine AW.ch h I ?_ ?_
 intro Z h
 refine AW.z I ?_
 obtain rfl := R _ (oi h).symm
 replace h := E
 replace h := se_r h
 refine AW.ghost g0 ?_
 obtain rfl := oi h
 exact AW.ret pr
 intro Z h
 refine AW.skip (AW.region (AO.r 2 [.k 0 (j + 1 : Nat)] I ⟨cast_wr G N, J⟩ ?_))
 obtain rfl := oi h
 refine AO.nil ?_
 exact ⟨_, _, _, I, ⟨I, I⟩, ⟨I, I, I, I, J⟩, [0], I, by decide⟩
 rintro F s ob ⟨rfl, rfl⟩ he
 subst he
 have h := se_l E
 have aa := lt_f a.Points.length
 refine AW.z I (AW.seqG (fun al am => (AW.condK (v := false) I aa (AW.exit ?_))))
 exact lg ⟨(), h, I, I⟩ [0]
 rintro s ob ⟨D, h, rfl, rfl⟩
 unfold L.zcxq.J1 at h
 refine AW.cutX (fun s ob => ∃ (y : Bool), L.zcxq.J2 y = some r ∧ s = [(2, .v (.bool y))] ∧ ob = []) [] J ?_ ?_
 obtain ⟨A, ⟨ab, ac⟩, h⟩ := ob_ix h
 refine AW.rd (pd 21 0 []) [0] [_] I (AP.r 7 [.o 1 0, .x 2 A.1 (Point.row A.2)] I ⟨⟨ab, map_get ac⟩, I, J⟩ ?_)
 rcases bt ((A.2.At == 0)) with p | p
 replace h := ife_t p h
 obtain ⟨B, ⟨ad, ae⟩, h⟩ := ob_ix h
 refine AP.known 69 I p (AP.r 14 [.o 1 0, .o 3 0, .l 4 (a.Points.length : Int), .x 6 B.1 (Point.row B.2), .o 10 0] I ⟨I, ⟨ad, map_get ae⟩, len_m, I, I, J⟩ (AP.ofAO (AO.nil ?_)))
 exact lg ⟨(B.2.At == a.Capacity), h, I, I⟩ []
 replace h := ife_f p h
 refine AP.known 69 I p (AP.q 14 I (AP.ofAO (AO.nil ?_)))
 exact lg ⟨false, h, I, I⟩ []
 rintro s ob ⟨y, h, rfl, rfl⟩
 unfold L.zcxq.J2 at h
 obtain rfl := oi h
 exact AW.ret pr
theorem L.zyto_ok (a : Segment) (r : Bool) (h : L.zyto a = some r) : ACalls Tryz.env 163 [.agg (Segment.row a)] [] (fun x new => x = .v (.bool r) ∧ new = []) := by
 refine ACalls.of_body Tryz.func163 rfl rfl rfl (fun C hC => ?_)
 unfold L.zyto at h
 refine AW.seq (AW.region (AO.act [] I (AX.box (cs := Segment.row a) (m := 7) I I I dS (fun d => (AO.q 1 I (AO.nil (AW.seq ?_)))))))
 obtain ⟨e, b, h⟩ := ob_some h
 refine AW.region (AO.r 1 [.o 0 0] I ⟨I, J⟩ (AO.c (L.zcxq_ok _ _ b) (AO.q 2 I (AO.nil (AW.ghost g0 ?_)))))
 obtain rfl := oi h
 exact AW.ret pr
theorem L.zxcm_ok (a : Port) (r : Bool) (h : L.zxcm a = r) : ACalls Tryz.env 166 [.agg (Port.row a)] [] (fun x new => x = .v (.bool r) ∧ new = []) := by
 refine ACalls.of_body Tryz.func166 rfl rfl rfl (fun C hC => ?_)
 unfold L.zxcm at h
 refine AW.seq (AW.region (AO.act [] I (AX.box (cs := Port.row a) (m := 3) I I I dS (fun b => (AO.q 1 I (AO.nil (AW.seq (AW.region (AO.r 2 [.o 1 0] I ⟨I, J⟩ (AO.c (L.zvhs_ok a.Pressure 0 100000000 _ I) (AO.q 2 I (AO.nil (AW.ghost g0 ?_)))))))))))))
 obtain rfl := h
 exact AW.ret pr
theorem L.zeku_ok (a : Station) (r : Bool) (h : L.zeku a = r) : ACalls Tryz.env 169 [.agg (Station.row a)] [] (fun x new => x = .v (.bool r) ∧ new = []) := by
 refine ACalls.of_body Tryz.func169 rfl rfl rfl (fun C hC => ?_)
 unfold L.zeku at h
 refine AW.seqG (fun f e => (AW.region (AO.act [] I (AX.box (cs := Station.row a) (m := 5) I I I dS (fun g => (AO.q 1 I (AO.nil ?_)))))))
 subst e
 refine AW.cutX (fun s ob => s = [(2, .v (.bool ((!(L.zvhs a.Head 0 100000000)) || ((!(L.zvhs a.Fall 0 100000)) || (!(L.zvhs a.Suction 0 100000000))))))] ∧ ob = []) [] J ?_ ?_
 refine AW.region (AO.r 2 [.o 1 0] I ⟨I, J⟩ (AO.c (L.zvhs_ok a.Head 0 100000000 _ I) (AO.q 2 I ?_)))
 rcases bt ((!(L.zvhs a.Head 0 100000000))) with b | b
 refine AO.known 7 I b (AO.q 12 I (AO.nil ?_))
 exact lf ⟨I, I⟩ ⟨(get_b (by simp only [b, bz])), J⟩ [] I
 refine AO.known 7 I b (AO.r 2 [.o 1 0] I ⟨I, J⟩ (AO.gt I I I (AO.c (L.zvhs_ok a.Fall 0 100000 _ I) (AO.q 3 I ?_))))
 rcases bt ((!(L.zvhs a.Fall 0 100000))) with d | d
 refine AO.known 13 I d (AO.q 6 I (AO.nil ?_))
 exact lf ⟨I, I⟩ ⟨(get_b (by simp only [b, d, bz])), J⟩ [] I
 refine AO.known 13 I d (AO.r 2 [.o 1 0] I ⟨I, J⟩ (AO.gt I I I (AO.c (L.zvhs_ok a.Suction 0 100000000 _ I) (AO.q 3 I (AO.nil ?_)))))
 exact lf ⟨I, I⟩ ⟨(get_b (by simp only [b, d, bz])), J⟩ [] I
 rintro s ob ⟨rfl, rfl⟩
 obtain rfl := h
 exact AW.ret pr
theorem L.zdqn_ok (a : Network) (r : Bool) (h : L.zdqn a = some r) : ACalls Tryz.env 140 [.agg (Network.row a)] [] (fun x new => x = .v (.bool r) ∧ new = []) := by
 refine ACalls.of_body Tryz.func140 rfl rfl rfl (fun C hC => ?_)
 unfold L.zdqn at h
 refine AW.seqG (fun p d => (AW.region (AO.act [] I (AX.box (cs := Network.row a) (m := 6) I I I dS (fun t => (AO.q 1 I (AO.nil ?_)))))))
 subst d
 refine AW.seqG (fun u e => (AW.seq ?_))
 obtain ⟨w, f, h⟩ := ob_some h
 refine AW.region (AO.r 2 [.o 1 0] I ⟨I, J⟩ (AO.c (L.zwuu_ok _ (.v (.func (.func 163) #[] #[])) I (fun x => L.zyto x) (fun x r h => L.zyto_ok x r h) _ f) (AO.nil (AW.ch h I ?_ ?_))))
 intro g h
 refine AW.z I (AW.ghost g0 ?_)
 obtain rfl := oi h
 exact AW.ret pr
 intro g h
 refine AW.skip ?_
 subst e
 refine AW.seqG (fun y i => (AW.seq ?_))
 obtain ⟨A, j, h⟩ := ob_some h
 refine AW.region (AO.r 2 [.o 1 0] I ⟨I, J⟩ (AO.c (L.zdru_ok _ (.v (.func (.func 166) #[] #[])) I (fun x => some (L.zxcm x)) (fun x r h => by obtain I := oi h; exact L.zxcm_ok x _ I) _ j) (AO.nil (AW.ch h I ?_ ?_))))
 intro k h
 refine AW.z I (AW.ghost g0 ?_)
 obtain rfl := oi h
 exact AW.ret pr
 intro k h
 refine AW.skip ?_
 subst i
 refine AW.seq (AW.seq ?_)
 obtain ⟨B, l, h⟩ := ob_some h
 refine AW.region (AO.r 2 [.o 1 0] I ⟨I, J⟩ (AO.c (L.ztlc_ok _ (.v (.func (.func 169) #[] #[])) I (fun x => some (L.zeku x)) (fun x r h => by obtain I := oi h; exact L.zeku_ok x _ I) _ l) (AO.nil (AW.ch h I ?_ ?_))))
 intro n h
 refine AW.z I (AW.ghost g0 ?_)
 obtain rfl := oi h
 exact AW.ret pr
 intro n h
 refine AW.skip (AW.cutX (fun s ob => s = [(2, .v (.bool ((L.zvhs a.Vapour (-100000) 100000000) && (L.zvhs a.Settle 0 100))))] ∧ ob = []) [] J ?_ ?_)
 refine AW.region (AO.r 2 [.o 1 0] I ⟨I, J⟩ (AO.c (L.zvhs_ok a.Vapour (-100000) 100000000 _ I) (AO.q 1 I ?_)))
 rcases bt ((L.zvhs a.Vapour (-100000) 100000000)) with b | b
 refine AO.known 15 I b (AO.r 2 [.o 1 0] I ⟨I, J⟩ (AO.gt I I I (AO.c (L.zvhs_ok a.Settle 0 100 _ I) (AO.q 2 I (AO.nil ?_)))))
 exact lf ⟨I, I⟩ ⟨(get_b (by simp only [b, bz])), J⟩ [] I
 refine AO.known 15 I b (AO.q 5 I (AO.nil ?_))
 exact lf ⟨I, I⟩ ⟨(get_b (by simp only [b, bz])), J⟩ [] I
 rintro s ob ⟨rfl, rfl⟩
 obtain rfl := oi h
 exact AW.ret pr
theorem L.zqbg_ok (a : ByteArray) (r : Bool) (h : L.zqbg a = some r) : ACalls Tryz.env 136 [.v (.string a)] [] (fun x new => x = .v (.bool r) ∧ new = []) := by
 refine ACalls.of_body Tryz.func136 rfl rfl rfl (fun C hC => ?_)
 unfold L.zqbg at h
 refine AW.z I (AW.seq ?_)
 obtain ⟨d, b, h⟩ := ob_some h
 refine AW.region (AO.q 1 I (AO.c (L.zcvq_ok _ _ b) (AO.q 2 I (AO.nil ?_))))
 obtain rfl := oi h
 exact AW.ret pr
theorem L.zfta_ok (a : Network) (r : Int) (h : L.zfta a = some r) : ACalls Tryz.env 87 [.agg (Network.row a)] [] (fun x new => x = .V r ∧ new = []) := by
 refine ACalls.of_body Tryz.func87 rfl rfl rfl (fun C hC => ?_)
 unfold L.zfta at h
 refine AW.seqG (fun Y i => (AW.region (AO.act [] I (AX.box (cs := Network.row a) (m := 6) I I I dS (fun d => (AO.q 1 I (AO.nil ?_)))))))
 subst i
 refine AW.seqG (fun Z j => (AW.seq ?_))
 obtain ⟨r4, l, h⟩ := ob_some h
 refine AW.region (AO.r 1 [.o 0 0] I ⟨I, J⟩ (AO.c (L.znhd_ok _ _ l) (AO.q 1 I (AO.nil (AW.ch h I ?_ ?_)))))
 intro n h
 refine AW.z I (AW.ghost g0 ?_)
 obtain rfl := oi h
 exact AW.ret pr
 intro n h
 refine AW.skip ?_
 subst j
 refine AW.cutX (fun s ob => ∃ (e : Unit), L.zfta.J1 a e = some r ∧ s = [] ∧ ob = [.arr d 32 6 1 [Network.row a]]) [(1, _)] ⟨I, J⟩ ?_ ?_
 refine AW.seqG (fun ab t => ?_)
 obtain ⟨ac, u, h⟩ := ob_some h
 refine AW.region (AO.r 1 [.o 0 0] I ⟨I, J⟩ (AO.act [] I (AX.call0 I I I (L.zalp_ok _ _ u) dS ?_)))
 rintro _ _ ⟨rfl, rfl⟩
 refine AO.q 1 I (AO.nil ?_)
 subst t
 refine AW.block ?_
 have w : (4 : Nat) ≤ 9223372036854775806 := by decide
 obtain ⟨ad, y, f⟩ := ob_some h
 clear h
 refine AW.forIX y [(1, _), (9, _)] ⟨I, I, J⟩ (fun (b : Nat) (g : Unit) s ob => s = [(10, .V (b : Int))] ∧ ob = [.arr d 32 6 1 [Network.row a]]) ⟨I, I⟩ ⟨I, J⟩ ⟨[0], I, by decide⟩ ?_ ?_
 rintro b g ae s ob A ⟨rfl, rfl⟩ h B
 unfold L.zfta.B2 at h
 have D : decide ((b : Int) < 4) = true := decide_eq_true (by omega)
 refine AW.z I (AW.seqG (fun af E => (AW.condK (v := true) I D (AW.skip ?_))))
 subst E
 refine AW.seq (AW.block (AW.seq ?_))
 obtain ⟨F, ⟨G, H⟩, h⟩ := ob_ix h
 refine AW.region (AO.p (Yp.indexAgM (m := F.1) I I I I I I I G H (hlen := Arr.h _)) I (AO.q 1 I (AO.nil (AW.seq ?_))))
 obtain ⟨ag, K, h⟩ := ob_some h
 refine AW.region (AO.q 1 I (AO.c (L.zmkj_ok _ (.v (.func (.func 136) #[] #[])) I (fun x => L.zqbg x) (fun x r h => L.zqbg_ok x r h) _ K) (AO.nil (AW.ch h I ?_ ?_))))
 intro M h
 refine AW.z I ?_
 obtain rfl := B _ (oi h).symm
 replace h := f
 replace h := se_r h
 refine AW.ghost g0 ?_
 obtain rfl := oi h
 exact AW.ret pr
 intro M h
 refine AW.skip (AW.region (AO.r 2 [.k 0 (b + 1 : Nat)] I ⟨cast_wr A w, J⟩ ?_))
 obtain rfl := oi h
 refine AO.nil ?_
 exact ⟨_, _, _, I, ⟨I, I⟩, ⟨I, I, I, J⟩, [0], I, by decide⟩
 rintro g s ob ⟨rfl, rfl⟩ he
 subst he
 have h := se_l f
 have N : decide (((4 : Nat) : Int) < 4) = false := by simp
 refine AW.z I (AW.seqG (fun ah ai => (AW.condK (v := false) I N (AW.exit ?_))))
 exact lg ⟨(), h, I, I⟩ [0]
 rintro s ob ⟨e, h, rfl, rfl⟩
 unfold L.zfta.J1 at h
 refine AW.seq (AW.block (AW.seqG (fun aj O => ?_)))
 obtain ⟨ak, P, h⟩ := ob_some h
 refine AW.region (AO.r 1 [.o 0 0] I ⟨I, J⟩ (AO.c (L.zybm_ok _ _ P) (AO.q 1 I (AO.nil ?_))))
 subst O
 refine AW.ch h I ?_ ?_
 intro Q h
 refine AW.z I (AW.ghost g0 ?_)
 obtain rfl := oi h
 exact AW.ret pr
 intro Q h
 refine AW.seqG (fun al R => ?_)
 obtain ⟨am, S, h⟩ := ob_some h
 refine AW.region (AO.r 1 [.o 0 0] I ⟨I, J⟩ (AO.c (L.zctd_ok _ _ S) (AO.q 2 I (AO.nil ?_))))
 subst R
 refine AW.ch h I ?_ ?_
 intro U h
 refine AW.z I (AW.ghost g0 ?_)
 obtain rfl := oi h
 exact AW.ret pr
 intro U h
 refine AW.seq ?_
 obtain ⟨an, W, h⟩ := ob_some h
 refine AW.region (AO.r 1 [.o 0 0] I ⟨I, J⟩ (AO.c (L.zdqn_ok _ _ W) (AO.q 2 I (AO.nil (AW.ch h I ?_ ?_)))))
 intro X h
 refine AW.z I (AW.ghost g0 ?_)
 obtain rfl := oi h
 exact AW.ret pr
 intro X h
 refine AW.skip (AW.z I (AW.ghost g0 ?_))
 obtain rfl := oi h
 exact AW.ret pr
theorem L.zuui_ok (d : Nat) (a : flow_streams) (j : Int) (n : Int) (p : Int) (r : flow_streams) (h : L.zuui a j n p = some r) : ACalls Tryz.env 153 [.v (.pointer (some ⟨d, 0, none⟩)), .V j, .V n, .V p] [.arr d 175 48 1 [a.come.l.map cI ++ (a.leave.l.map cI ++ [])]] (Gives 1 (fun x os new => x = .tup [] ∧ os = [.arr d 175 48 1 [r.come.l.map cI ++ (r.leave.l.map cI ++ [])]] ∧ new = [])) := by
 refine ACalls.of_body Tryz.func153 rfl rfl rfl (fun C hC => ?_)
 unfold L.zuui at h
 refine AW.cutX (fun s ob => ∃ (b : Int × Int × Int), L.zuui.J1 a b = some r ∧ s = [(1, .V b.1), (2, .V b.2.1), (3, .V b.2.2)] ∧ ob = [.arr d 175 48 1 [a.come.l.map cI ++ (a.leave.l.map cI ++ [])]]) [(0, _)] ⟨I, J⟩ ?_ ?_
 refine AW.z I (AW.ch h I ?_ ?_)
 intro A h
 refine AW.t I ?_
 exact lg ⟨(n, j, wr (0 - p)), h, I, I⟩ [0]
 intro A h
 refine AW.skip ?_
 exact lg ⟨(j, n, p), h, I, I⟩ [0]
 rintro s ob ⟨b, h, rfl, rfl⟩
 unfold L.zuui.J1 at h
 refine AW.cutX (fun s ob => ∃ (f : Arr Int 24), L.zuui.J2 a b f = some r ∧ s = [] ∧ ob = [.arr d 175 48 1 [a.come.l.map cI ++ (f.l.map cI ++ [])]]) [(0, _), (2, _), (3, _)] ⟨I, I, I, J⟩ ?_ ?_
 refine AW.z I (AW.ch h I ?_ ?_)
 intro B h
 obtain ⟨e, ⟨u, g⟩, h⟩ := ob_ix h
 refine AW.rd (.still 0 (.still 1 (.still 2 (.still 3 (.still 4 (.still 5 (.still 6 (.still 7 (.still 8 (.still 9 (.still 10 (.drop 11 .nil)))))))))))) [0] [_] I (AP.q 4 I (AP.op I (Yp.indexA1 (m := e.1) I I I I I I u (arr_lt g)) I (AP.o I (Yd.loadO 0 0 (24 + e.1) I I I I (by omega) (y := .V e.2) (seg_skip (k := 24) (by simp [Arr.h, flow_streams.row]) (seg_here g))) I (AP.q 4 I (AP.op I (Yp.indexA1 (m := e.1) I I I I I I u (arr_lt g)) I (AP.drop [0] I I I (AX.store 0 0 (24 + e.1) (es' := [a.come.l.map cI ++ ((a.leave.set e.1 (wr (e.2 + b.2.2))).l.map cI ++ [])]) I I I I (by omega) I I I (seg_len (arr_lt g) (by simp [Arr.h, flow_streams.row])) I (congrArg (fun r => [r]) (seg_set_skip (k := 24) (by simp [Arr.h, flow_streams.row]) (seg_set_here (get_lt g)))) (AP.ofAO (AO.nil ?_)))))))))
 exact lg ⟨(a.leave.set e.1 (wr (e.2 + b.2.2))), h, I, I⟩ [0]
 intro B h
 refine AW.skip ?_
 exact lg ⟨a.leave, h, I, I⟩ [0]
 rintro s ob ⟨f, h, rfl, rfl⟩
 unfold L.zuui.J2 at h
 refine AW.z I (AW.ch h I ?_ ?_)
 intro D h
 obtain ⟨c, ⟨w, i⟩, h⟩ := ob_ix h
 refine AW.rd (.still 0 (.still 1 (.still 2 (.still 3 (.still 4 (.still 5 (.still 6 (.still 7 (.still 8 (.still 9 (.still 10 (.drop 11 .nil)))))))))))) [0] [_] I (AP.q 4 I (AP.op I (Yp.indexA1 (m := c.1) I I I I I I w (arr_lt i)) I (AP.o I (Yd.loadO 0 0 (0 + c.1) I I I I (by omega) (y := .V c.2) (by rw [Nat.zero_add]; exact seg_here i)) I (AP.q 4 I (AP.op I (Yp.indexA1 (m := c.1) I I I I I I w (arr_lt i)) I (AP.drop [0] I I I (AX.store 0 0 (0 + c.1) (es' := [(a.come.set c.1 (wr (c.2 + b.2.2))).l.map cI ++ (f.l.map cI ++ [])]) I I I I (by omega) I I I (seg_len (arr_lt i) (by simp [Arr.h, flow_streams.row])) I (congrArg (fun r => [r]) (by rw [Nat.zero_add]; exact seg_set_here (get_lt i))) (AP.ofAO ?_))))))))
 obtain rfl := oi h
 refine AO.nil ?_
 exact ⟨.inl I, [], [.arr d 175 48 1 [(a.come.set c.1 (wr (c.2 + b.2.2))).l.map cI ++ (f.l.map cI ++ [])]], J, sl_c I (sl_n), ⟨[.arr d 175 48 1 [(a.come.set c.1 (wr (c.2 + b.2.2))).l.map cI ++ (f.l.map cI ++ [])]], [], I, I, I, I, I⟩⟩
 intro D h
 obtain rfl := oi h
 refine AW.skip ?_
 exact ⟨.inl I, [], [.arr d 175 48 1 [a.come.l.map cI ++ (f.l.map cI ++ [])]], J, sl_c I (sl_n), ⟨[.arr d 175 48 1 [a.come.l.map cI ++ (f.l.map cI ++ [])]], [], I, I, I, I, I⟩⟩
theorem L.zzkf_ok (a : Network) (c : Plan) (r : flow_streams) (h : L.zzkf a c = some r) : ACalls Tryz.env 131 [.agg (Network.row a), .agg (Plan.row c)] [] (fun x new => x = .agg (flow_streams.row r) ∧ new = []) := by
 refine ACalls.of_body Tryz.func131 rfl rfl rfl (fun C hC => ?_)
 unfold L.zzkf at h
 refine AW.seqG (fun y1 G => (AW.region (AO.act [] I (AX.box (cs := Network.row a) (m := 6) I I I dS (fun u => (AO.act [] I (AX.box (cs := Plan.row c) (m := 3) I I I dS (fun t => (AO.act [] I (AX.alloc (cs := (Arr.rep 24 (0 : Int)).l.map cI ++ ((Arr.rep 24 (0 : Int)).l.map cI ++ [])) (m := 48) I I I I I dS (fun i => (AO.nil ?_))))))))))))
 subst G
 refine AW.seqG (fun y5 H => (AW.region (AO.act [] I (AX.alloc (cs := (Arr.rep 24 (0 : Int)).l.map cI ++ ((Arr.rep 24 (0 : Int)).l.map cI ++ [])) (m := 48) I I I I I dS (fun e => (AO.nil ?_))))))
 subst H
 refine AW.cutX (fun s ob => ∃ (j : (Arr Int 24) × (Arr Int 24)), L.zzkf.J1 a c j = some r ∧ s = [] ∧ ob = [.arr u 32 6 1 [Network.row a], .arr t 37 3 1 [Plan.row c], .arr i 175 48 1 [(Arr.rep 24 (0 : Int)).l.map cI ++ ((Arr.rep 24 (0 : Int)).l.map cI ++ [])], .arr e 175 48 1 [j.1.l.map cI ++ (j.2.l.map cI ++ [])]]) [(2, _), (3, _), (4, _), (5, _)] ⟨I, I, I, I, J⟩ ?_ ?_
 refine AW.zr [.o 1 0, .l 2 (a.Segments.length : Int)] I ⟨len_m, I, J⟩ (AW.block (AW.lm 11 I (fun K => ?_)))
 obtain ⟨ak, M, O⟩ := ob_some h
 clear h
 refine AW.forY M [(2, _), (3, _), (4, _), (5, _), (11, _), (12, _)] ⟨I, I, I, I, I, I, J⟩ (fun (n : Nat) (f : (Arr Int 24) × (Arr Int 24)) s ob => s = [(13, .V (n : Int))] ∧ ob = [.arr u 32 6 1 [Network.row a], .arr t 37 3 1 [Plan.row c], .arr i 175 48 1 [(Arr.rep 24 (0 : Int)).l.map cI ++ ((Arr.rep 24 (0 : Int)).l.map cI ++ [])], .arr e 175 48 1 [f.1.l.map cI ++ (f.2.l.map cI ++ [])]]) ⟨I, I⟩ ⟨I, J⟩ ⟨[0, 1, 2, 3], I, by decide⟩ ?_ ?_
 rintro n w f al s ob P A ⟨rfl, rfl⟩ h
 unfold L.zzkf.B4 at h
 have Q := lt_t A
 refine AW.z I (AW.seqG (fun am R => (AW.condK (v := true) I Q (AW.skip ?_))))
 subst R
 refine AW.seq (AW.block (AW.seq (AW.region (AO.r 3 [.x 1 n (Segment.row w)] I ⟨⟨I, map_get P⟩, J⟩ (AO.act [] I (AX.alloc (cs := [.v (.string ⟨#[]⟩), .V 0, .V 0, .V 0, .V 0, .V 0, .N]) (m := 7) I I I I I dS (fun an => (AO.q 1 I (AO.act [4] I (AX.st 4 0 0 [Segment.row w] I (AO.nil ?_)))))))))))
 obtain ⟨B, ⟨S, U⟩, h⟩ := ob_ix h
 obtain ⟨ao, W, h⟩ := ob_some h
 refine AW.rd (pd 10 0 [9]) [4, 1] [_, _] I (AP.r 9 [.o 1 0, .o 3 0, .o 5 1, .x 7 B.1 (rI B.2)] I ⟨⟨S, map_get U⟩, I, I, I, J⟩ (AP.act [3] I I I (AX.c0 [3] (L.zuui_ok e _ _ _ _ _ W) ?_)))
 refine AP.ofAO (AO.nil (AW.region (AO.r 2 [.k 0 (n + 1 : Nat)] I ⟨cast_wr A K, J⟩ ?_)))
 obtain rfl := oi h
 refine AO.nil ?_
 exact lg ⟨I, I⟩ [0, 1, 2, 3]
 rintro f s ob ⟨rfl, rfl⟩ he
 subst he
 have h := O
 have X := lt_f a.Segments.length
 refine AW.z I (AW.seqG (fun ap aq => (AW.condK (v := false) I X (AW.exit ?_))))
 exact lg ⟨(f.1, f.2), h, I, I⟩ [0, 1, 2, 3]
 rintro s ob ⟨j, h, rfl, rfl⟩
 unfold L.zzkf.J1 at h
 refine AW.cutX (fun s ob => ∃ (b : (Arr Int 24) × (Arr Int 24)), L.zzkf.J2 b = some r ∧ s = [] ∧ ob = [.arr i 175 48 1 [(Arr.rep 24 (0 : Int)).l.map cI ++ ((Arr.rep 24 (0 : Int)).l.map cI ++ [])], .arr e 175 48 1 [b.1.l.map cI ++ (b.2.l.map cI ++ [])]]) [(4, _), (5, _)] ⟨I, I, J⟩ ?_ ?_
 refine AW.zr [.o 1 0, .l 2 (a.Ports.length : Int)] I ⟨len_m, I, J⟩ (AW.block (AW.lm 30 I (fun Y => ?_)))
 obtain ⟨ar, Z, aa⟩ := ob_some h
 clear h
 refine AW.forY Z [(3, _), (4, _), (5, _), (30, _), (31, _)] ⟨I, I, I, I, I, J⟩ (fun (p : Nat) (g : (Arr Int 24) × (Arr Int 24)) s ob => s = [(32, .V (p : Int))] ∧ ob = [.arr t 37 3 1 [Plan.row c], .arr i 175 48 1 [(Arr.rep 24 (0 : Int)).l.map cI ++ ((Arr.rep 24 (0 : Int)).l.map cI ++ [])], .arr e 175 48 1 [g.1.l.map cI ++ (g.2.l.map cI ++ [])]]) ⟨I, I⟩ ⟨I, J⟩ ⟨[1, 2, 3], I, by decide⟩ ?_ ?_
 rintro p D g au s ob ab E ⟨rfl, rfl⟩ h
 unfold L.zzkf.B3 at h
 have ac := lt_t E
 refine AW.z I (AW.seqG (fun av ad => (AW.condK (v := true) I ac (AW.skip ?_))))
 subst ad
 refine AW.seq (AW.block (AW.seq (AW.region (AO.r 3 [.x 1 p (Port.row D)] I ⟨⟨I, map_get ab⟩, J⟩ (AO.act [] I (AX.alloc (cs := [.v (.string ⟨#[]⟩), .V 0, .V 0]) (m := 3) I I I I I dS (fun aw => (AO.q 1 I (AO.act [3] I (AX.st 3 0 0 [Port.row D] I (AO.nil ?_)))))))))))
 obtain ⟨F, ⟨ae, af⟩, h⟩ := ob_ix h
 obtain ⟨ax, ag, h⟩ := ob_some h
 refine AW.rd (pd 8 0 [7]) [3, 0] [_, _] I (AP.r 7 [.o 1 0, .o 3 1, .x 5 F.1 (rI F.2)] I ⟨⟨ae, map_get af⟩, I, I, J⟩ (AP.act [2] I I I (AX.c0 [2] (L.zuui_ok e _ _ _ _ _ ag) ?_)))
 refine AP.ofAO (AO.nil (AW.region (AO.r 2 [.k 0 (p + 1 : Nat)] I ⟨cast_wr E Y, J⟩ ?_)))
 obtain rfl := oi h
 refine AO.nil ?_
 exact lg ⟨I, I⟩ [0, 1, 2]
 rintro g s ob ⟨rfl, rfl⟩ he
 subst he
 have h := aa
 have ah := lt_f a.Ports.length
 refine AW.z I (AW.seqG (fun ay az => (AW.condK (v := false) I ah (AW.exit ?_))))
 exact lg ⟨(g.1, g.2), h, I, I⟩ [1, 2]
 rintro s ob ⟨b, h, rfl, rfl⟩
 unfold L.zzkf.J2 at h
 refine AW.seq (AW.region (AO.d (Yd.loadO 1 0 0 I I I I I (y := .agg (b.1.l.map cI ++ (b.2.l.map cI ++ []))) (part_all I (by simp [Arr.h, flow_streams.row]))) I (AO.act [0] I (AX.store 0 0 0 (es' := [b.1.l.map cI ++ (b.2.l.map cI ++ [])]) I I I I I I I (by simp [Arr.h, flow_streams.row]) (by simp [Arr.h, flow_streams.row]) I (congrArg (fun r => [r]) (setC_all (by simp [Arr.h, flow_streams.row]))) (AO.nil (AW.gp [0] I ?_))))))
 obtain rfl := oi h
 exact AW.ret ⟨.inr I, [_], [], ⟨⟨0, _, _, _, _, _, _, _, I, I, I, I, (part_all I (by simp [Arr.h, flow_streams.row]))⟩, J⟩, sl_n, I, I⟩
theorem L.zfct_ok (a : Int) (r : Bool) (h : L.zfct a = r) : ACalls Tryz.env 130 [.V a] [] (fun x new => x = .v (.bool r) ∧ new = []) := by
 refine ACalls.of_body Tryz.func130 rfl rfl rfl (fun C hC => ?_)
 unfold L.zfct at h
 refine AW.z I (AW.seq (AW.region (AO.q 1 I (AO.c (L.zqkj_ok a 1000 _ I) (AO.q 2 I (AO.nil ?_))))))
 obtain rfl := h
 exact AW.ret pr
theorem L.zmqu_ok (e : Network) (f : Plan) (r : Int) (h : L.zmqu e f = some r) : ACalls Tryz.env 86 [.agg (Network.row e), .agg (Plan.row f)] [] (fun x new => x = .V r ∧ new = []) := by
 refine ACalls.of_body Tryz.func86 rfl rfl rfl (fun C hC => ?_)
 unfold L.zmqu at h
 refine AW.seqG (fun y1 G => (AW.region (AO.act [] I (AX.box (cs := Network.row e) (m := 6) I I I dS (fun w => (AO.act [] I (AX.box (cs := Plan.row f) (m := 3) I I I dS (fun A => (AO.q 1 I (AO.nil ?_))))))))))
 subst G
 refine AW.seqG (fun y4 H => (AW.seq ?_))
 obtain ⟨r5, K, h⟩ := ob_some h
 refine AW.region (AO.r 1 [.o 0 0] I ⟨I, J⟩ (AO.c (L.zfta_ok _ _ K) (AO.q 1 I (AO.nil (AW.z I (AW.ch h I ?_ ?_))))))
 intro M h
 refine AW.z I (AW.ghost g0 ?_)
 obtain rfl := oi h
 exact AW.ret pr
 intro M h
 refine AW.skip ?_
 subst H
 refine AW.seqG (fun y8 O => (AW.jb 38 (((f.Rates.length : Int) != (e.Segments.length : Int)) || (((f.Ports.length : Int) != (e.Ports.length : Int)) || ((f.Pumps.length : Int) != (e.Stations.length : Int)))) ?_ ?_))
 refine AW.region (AO.r 8 [.o 1 1, .l 2 (f.Rates.length : Int), .o 4 0, .l 5 (e.Segments.length : Int)] I ⟨len_m, I, len_m, I, J⟩ ?_)
 rcases bt (((f.Rates.length : Int) != (e.Segments.length : Int))) with g | g
 refine AO.known 21 I g (AO.q 17 I (AO.nil ?_))
 exact jf (by simp only [g, bz]) I I ⟨I, I⟩
 refine AO.known 21 I g (AO.r 9 [.o 1 1, .l 2 (f.Ports.length : Int), .o 4 0, .l 5 (e.Ports.length : Int)] I ⟨len_m, I, len_m, I, J⟩ ?_)
 rcases bt (((f.Ports.length : Int) != (e.Ports.length : Int))) with j | j
 refine AO.known 30 I j (AO.q 8 I (AO.nil ?_))
 exact jf (by simp only [g, j, bz]) I I ⟨I, I⟩
 refine AO.known 30 I j (AO.r 8 [.o 1 1, .l 2 (f.Pumps.length : Int), .o 4 0, .l 5 (e.Stations.length : Int)] I ⟨len_m, I, len_m, I, J⟩ (AO.nil ?_))
 exact jf (by simp only [g, j, bz]) I I ⟨I, I⟩
 refine AW.ch h I ?_ ?_
 intro P h
 refine AW.z I (AW.ghost g0 ?_)
 obtain rfl := oi h
 exact AW.ret pr
 intro P h
 refine AW.skip ?_
 subst O
 refine AW.cutX (fun s ob => ∃ (B : Unit), L.zmqu.J1 e f B = some r ∧ s = [] ∧ ob = [.arr w 32 6 1 [Network.row e], .arr A 37 3 1 [Plan.row f]]) [(2, _), (3, _)] ⟨I, I, J⟩ ?_ ?_
 refine AW.zr [.o 1 0, .l 2 (e.Segments.length : Int)] I ⟨len_m, I, J⟩ (AW.block (AW.lm 40 I (fun Q => ?_)))
 obtain ⟨ap, R, D⟩ := ob_some h
 clear h
 refine AW.forX R [(2, _), (3, _), (40, _), (41, _)] ⟨I, I, I, I, J⟩ (fun (n : Nat) (E : Unit) s ob => s = [(42, .V (n : Int))] ∧ ob = [.arr w 32 6 1 [Network.row e], .arr A 37 3 1 [Plan.row f]]) ⟨I, I⟩ ⟨I, J⟩ ⟨[0, 1], I, by decide⟩ ?_ ?_
 rintro n t E aq s ob S F ⟨rfl, rfl⟩ h U
 unfold L.zmqu.B2 at h
 have W := lt_t F
 refine AW.z I (AW.seqG (fun ar X => (AW.condK (v := true) I W (AW.skip ?_))))
 subst X
 refine AW.seq (AW.block (AW.seqG (fun au Y => (AW.region (AO.r 3 [.x 1 n (Segment.row t)] I ⟨⟨I, map_get S⟩, J⟩ (AO.act [] I (AX.alloc (cs := [.v (.string ⟨#[]⟩), .V 0, .V 0, .V 0, .V 0, .V 0, .N]) (m := 7) I I I I I dS (fun av => (AO.q 1 I (AO.act [2] I (AX.st 2 0 0 [Segment.row t] I (AO.nil ?_))))))))))))
 subst Y
 refine AW.seq ?_
 obtain ⟨u, ⟨Z, aa⟩, h⟩ := ob_ix h
 refine AW.rd (pd 10 0 [8]) [1, 2] [_, _] I (AP.r 8 [.o 1 0, .x 3 u.1 (rI u.2), .o 6 1] I ⟨I, ⟨Z, map_get aa⟩, I, J⟩ (AP.c I (L.zqkj_ok u.2 (min 1000 t.Capacity) _ I) (AP.q 1 I (AP.ofAO (AO.nil (AW.ch h I ?_ ?_))))))
 intro ab h
 refine AW.z I ?_
 obtain rfl := U _ (oi h).symm
 replace h := D
 replace h := se_r h
 refine AW.ghost g0 ?_
 obtain rfl := oi h
 exact AW.ret pr
 intro ab h
 refine AW.skip (AW.region (AO.r 2 [.k 0 (n + 1 : Nat)] I ⟨cast_wr F Q, J⟩ ?_))
 obtain rfl := oi h
 refine AO.nil ?_
 exact ⟨_, _, _, I, ⟨I, I⟩, ⟨I, I, I, I, I, J⟩, [0, 1], I, by decide⟩
 rintro E s ob ⟨rfl, rfl⟩ he
 subst he
 have h := se_l D
 have ac := lt_f e.Segments.length
 refine AW.z I (AW.seqG (fun aw ax => (AW.condK (v := false) I ac (AW.exit ?_))))
 exact lg ⟨(), h, I, I⟩ [0, 1]
 rintro s ob ⟨B, h, rfl, rfl⟩
 unfold L.zmqu.J1 at h
 refine AW.seqG (fun ay ad => (AW.seq ?_))
 obtain ⟨az, ae, h⟩ := ob_some h
 refine AW.region (AO.r 2 [.o 1 1] I ⟨I, J⟩ (AO.c (L.zvoj_ok _ (.v (.func (.func 130) #[] #[])) I (fun x => some (L.zfct x)) (fun x r h => by obtain I := oi h; exact L.zfct_ok x _ I) _ ae) (AO.nil (AW.ch h I ?_ ?_))))
 intro af h
 refine AW.z I (AW.ghost g0 ?_)
 obtain rfl := oi h
 exact AW.ret pr
 intro af h
 refine AW.skip ?_
 subst ad
 refine AW.seqG (fun a0 ag => (AW.seq ?_))
 obtain ⟨i, ah, h⟩ := ob_some h
 refine AW.region (AO.r 2 [.o 0 0, .o 1 1] I ⟨I, I, J⟩ (AO.act [] I (AX.call0 I I I (L.zzkf_ok _ _ _ ah) dS ?_)))
 rintro _ _ ⟨rfl, rfl⟩
 refine AO.act [] I (AX.alloc (cs := (Arr.rep 24 (0 : Int)).l.map cI ++ ((Arr.rep 24 (0 : Int)).l.map cI ++ [])) (m := 48) I I I I I dS (fun a1 => (AO.act [2] I (AX.store 2 0 0 (es' := [i.come.l.map cI ++ (i.leave.l.map cI ++ [])]) I I I I I I I (by simp [Arr.h, flow_streams.row]) (by simp [Arr.h, flow_streams.row]) I (congrArg (fun r => [r]) (setC_all (by simp [Arr.h, flow_streams.row]))) (AO.nil (AW.seq (AW.region (AO.q 1 I (AO.d (Yd.loadO 2 0 0 I I I I I (y := .agg (i.come.l.map cI)) (part_here I (by simp [Arr.h, flow_streams.row]))) I (AO.q 1 I (AO.d (Yd.loadO 2 0 24 I I I I I (y := .agg (i.leave.l.map cI)) (part_skip (k := 24) I I (by simp [Arr.h, flow_streams.row]) (part_here I (by simp [Arr.h, flow_streams.row])))) I (AO.p (Yp.eqArr (a := i.come) (b := i.leave) I I I I I Tryz.eq173 I I I) I (AO.nil (AW.ch h I ?_ ?_))))))))))))))
 intro ai h
 refine AW.z I (AW.ghost g0 ?_)
 obtain rfl := oi h
 exact AW.ret pr
 intro ai h
 refine AW.skip ?_
 subst ag
 refine AW.seq (AW.seq ?_)
 obtain ⟨a2, aj, h⟩ := ob_some h
 refine AW.rd (.still 0 (.still 1 (.still 4 (.still 5 (.still 6 (.act 2 (.act 3 (.still 7 .nil)))))))) [0, 1] [_, _] I (AP.r 5 [.o 0 0, .o 1 1, .o 3 0, .l 4 (e.Nodes.length : Int)] I ⟨len_m, I, I, I, J⟩ (AP.act [] I I I (AX.call0 I I I (L.zsgw_ok _ _ _ aj) dS ?_)))
 rintro _ _ ⟨a3, rfl, rfl⟩
 refine AP.act [] I I I (AX.of_yd (Yd.lenUM 3 I I I I) dS (AP.q 1 I (AP.ofAO (AO.nil (AW.ch h I ?_ ?_)))))
 intro ak h
 refine AW.z I (AW.ghost g0 ?_)
 obtain rfl := oi h
 exact AW.ret pr
 intro ak h
 refine AW.skip (AW.z I (AW.ghost g0 ?_))
 obtain rfl := oi h
 exact AW.ret pr
end Go.Proofs.YtmaamhgjeampmaaGreat
