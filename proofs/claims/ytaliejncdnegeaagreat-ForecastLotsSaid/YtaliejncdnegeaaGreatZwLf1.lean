/- Walks that show what functions of the program compute; printed by a program of ours. No condition. -/
import Derived.Test.YtaliejncdnegeaaGreatZwLa4
import Derived.Test.YtaliejncdnegeaaGreatZwD
set_option maxRecDepth 100000
namespace Go.Proofs.YtaliejncdnegeaaGreat
open Go.Aw
set_option linter.unusedVariables false
set_option linter.unusedSimpArgs false
set_option maxHeartbeats 4000000
theorem L.zqaf_ok (a : List Int) (r : Bool) (h : L.zqaf a = r) : ACalls Tryz.env 7 [.list 1 (a.map rI)] [] (fun x new => x = .v (.bool r) ∧ new = []) := by
 refine ACalls.of_body Tryz.func7 rfl rfl rfl (fun C hC => ?_)
 unfold L.zqaf at h
 refine AW.z I (AW.zr [.l 1 (a.length : Int)] I ⟨len_m, J⟩ ?_)
 obtain rfl := h
 exact AW.ret pr
theorem L.zmsr_ok (a : List Piece) (F1 : T) {f : FuncId} {g i : List T} (t : fnT F1 = some (f, g, i)) (j : Piece → Option Int) (u : ∀ (n : Piece) r, j n = some r → ACalls Tryz.env f (g ++ [.agg (Piece.row n)] ++ i) [] (fun x new => x = .V r ∧ new = [])) (r : Int) (h : L.zmsr a j = some r) : ACalls Tryz.env 115 [.list 2 (a.map Piece.row), F1] [] (fun x new => x = .V r ∧ new = []) := by
 refine ACalls.of_body Tryz.func115 rfl rfl rfl (fun C hC => ?_)
 unfold L.zmsr at h
 refine AW.z I (AW.z I (AW.cutX (fun s ob => ∃ (d : Int), L.zmsr.J1 d = some r ∧ s = [(5, .V d)] ∧ ob = []) [] J ?_ ?_))
 refine AW.zr [.l 1 (a.length : Int)] I ⟨len_m, J⟩ (AW.block (AW.listMax 8 I (fun e => ?_)))
 replace e : a.length ≤ 9223372036854775806 := by rw [List.length_map] at e; omega
 obtain ⟨H, w, y⟩ := ob_some h
 clear h
 refine AW.forY w [(1, _), (8, _), (9, _)] ⟨I, I, I, J⟩ (fun (b : Nat) (c : Int) s ob => s = [(10, .V (b : Int)), (5, .V c)] ∧ ob = []) ⟨I, I⟩ ⟨I, I, J⟩ ⟨[], I, by decide⟩ ?_ ?_
 rintro b p c K s ob A B ⟨rfl, rfl⟩ h
 unfold L.zmsr.B2 at h
 have D : decide ((b : Int) < (a.length : Int)) = true := decide_eq_true (by omega)
 refine AW.z I (AW.seqG (fun M E => (AW.condK (v := true) I D (AW.skip ?_))))
 subst E
 refine AW.seq (AW.block (AW.seq (AW.region (AO.r 2 [.x 0 b (Piece.row p)] I ⟨⟨I, map_get A⟩, J⟩ (AO.act [] I (AX.alloc (cs := [.V 0, .V 0]) (m := 2) I I I I I dS (fun N => (AO.act [0] I (AX.store 0 0 0 (es' := [Piece.row p]) I I I I I I I I (le_ble I) I I (AO.nil ?_))))))))))
 obtain ⟨O, F, h⟩ := ob_some h
 refine AW.region (AO.r 3 [.o 2 0] I ⟨I, J⟩ (AO.act [] I (AX.callL I (.refl _) t I (.rest _) I (u _ _ F) dS (by rintro _ _ ⟨rfl, _⟩; rfl) ?_)))
 rintro _ ⟨_, rfl, -⟩
 refine AO.q 2 I (AO.nil (AW.region (AO.r 2 [.k 0 (b + 1 : Nat)] I ⟨cast_wr B e, J⟩ ?_)))
 obtain rfl := oi h
 refine AO.nil ?_
 exact lg ⟨I, I⟩ []
 rintro c s ob ⟨rfl, rfl⟩ he
 subst he
 have h := y
 have G : decide (((a.length : Nat) : Int) < (a.length : Int)) = false := by simp
 refine AW.z I (AW.seqG (fun P Q => (AW.condK (v := false) I G (AW.exit ?_))))
 exact lg ⟨c, h, I, I⟩ []
 rintro s ob ⟨d, h, rfl, rfl⟩
 unfold L.zmsr.J1 at h
 refine AW.z I ?_
 obtain rfl := oi h
 exact AW.ret pr
theorem L.zljv_ok (a : Piece) (r : Int) (h : L.zljv a = r) : ACalls Tryz.env 116 [.agg (Piece.row a)] [] (fun x new => x = .V r ∧ new = []) := by
 refine ACalls.of_body Tryz.func116 rfl rfl rfl (fun C hC => ?_)
 unfold L.zljv at h
 refine AW.seq (AW.region (AO.act [] I (AX.box (cs := Piece.row a) (m := 2) I I I dS (fun b => (AO.q 1 I (AO.nil (AW.zr [.o 1 0] I ⟨I, J⟩ (AW.ghost g0 ?_))))))))
 obtain rfl := h
 exact AW.ret pr
theorem L.zeou_ok (a : List Piece) (r : Int) (h : L.zeou a = some r) : ACalls Tryz.env 81 [.list 2 (a.map Piece.row)] [] (fun x new => x = .V r ∧ new = []) := by
 refine ACalls.of_body Tryz.func81 rfl rfl rfl (fun C hC => ?_)
 unfold L.zeou at h
 refine AW.z I (AW.seq ?_)
 obtain ⟨d, b, h⟩ := ob_some h
 refine AW.region (AO.q 1 I (AO.c (L.zmsr_ok _ (.v (.func (.func 116) #[] #[])) I (fun x => some (L.zljv x)) (fun x r h => by obtain I := oi h; exact L.zljv_ok x _ I) _ b) (AO.q 1 I (AO.nil ?_))))
 obtain rfl := oi h
 exact AW.ret pr
theorem L.zcpc_ok (a : List Piece) (d : Int) (f : Bool) (r : Int × Bool) (h : L.zcpc a d f = some r) : ACalls Tryz.env 44 [.list 2 (a.map Piece.row), .V d, .v (.bool f)] [] (fun x new => x = .tup [.V r.1, .v (.bool r.2)] ∧ new = []) := by
 refine ACalls.of_body Tryz.func44 rfl rfl rfl (fun C hC => ?_)
 unfold L.zcpc at h
 refine AW.z I (AW.cutX (fun s ob => ∃ (g : Unit), L.zcpc.J1 a d g = some r ∧ s = [] ∧ ob = []) [(0, _), (1, _)] ⟨I, I, J⟩ ?_ ?_)
 refine AW.z I (AW.ch h I ?_ ?_)
 intro D h
 refine AW.cutX (fun s ob => ∃ (i : Unit), L.zcpc.J4 i = some r ∧ s = [] ∧ ob = []) [] J ?_ ?_
 refine AW.zr [.l 1 (a.length : Int)] I ⟨len_m, J⟩ (AW.block (AW.listMax 12 I (fun e => ?_)))
 replace e : a.length ≤ 9223372036854775806 := by rw [List.length_map] at e; omega
 obtain ⟨ar, E, j⟩ := ob_some h
 clear h
 refine AW.forX E [(0, _), (1, _), (12, _), (13, _)] ⟨I, I, I, I, J⟩ (fun (b : Nat) (n : Unit) s ob => s = [(14, .V (b : Int))] ∧ ob = []) ⟨I, I⟩ ⟨I, J⟩ ⟨[], I, by decide⟩ ?_ ?_
 rintro b t n au s ob F G ⟨rfl, rfl⟩ h H
 unfold L.zcpc.B5 at h
 have K : decide ((b : Int) < (a.length : Int)) = true := decide_eq_true (by omega)
 refine AW.z I (AW.seqG (fun av M => (AW.condK (v := true) I K (AW.skip ?_))))
 subst M
 refine AW.seq (AW.block (AW.seqG (fun aw N => (AW.region (AO.r 3 [.x 1 b (Piece.row t)] I ⟨⟨I, map_get F⟩, J⟩ (AO.act [] I (AX.alloc (cs := [.V 0, .V 0]) (m := 2) I I I I I dS (fun ax => (AO.q 1 I (AO.act [0] I (AX.store 0 0 0 (es' := [Piece.row t]) I I I I I I I I (le_ble I) I I (AO.nil ?_))))))))))))
 subst N
 refine AW.zr [.o 1 0] I ⟨I, J⟩ (AW.ch h I ?_ ?_)
 intro O h
 refine AW.seq ?_
 obtain ⟨ay, P, h⟩ := ob_some h
 obtain ⟨Q, R, S, U, W, X, Y⟩ := sub_some P
 obtain ⟨az, Z, h⟩ := ob_some h
 refine AW.region (AO.q 2 I (AO.p (Yp.subL Q R 0 I I I I I (bnd0 S) ⟨_, _, I, U⟩ I W X Y) I (AO.c (L.zeou_ok _ _ Z) (AO.q 2 I (AO.nil ?_)))))
 obtain rfl := H _ (oi h).symm
 replace h := j
 replace h := se_r h
 refine AW.ghost g0 ?_
 obtain rfl := oi h
 exact AW.ret ⟨.inr I, [_, _], [], ⟨I, I, J⟩, sl_n, I, I⟩
 intro O h
 refine AW.skip (AW.region (AO.r 2 [.k 0 (b + 1 : Nat)] I ⟨cast_wr G e, J⟩ ?_))
 obtain rfl := oi h
 refine AO.nil ?_
 exact ⟨_, _, _, I, ⟨I, I⟩, ⟨I, I, I, I, I, J⟩, [], I, by decide⟩
 rintro n s ob ⟨rfl, rfl⟩ he
 subst he
 have h := se_l j
 have aa : decide (((a.length : Nat) : Int) < (a.length : Int)) = false := by simp
 refine AW.z I (AW.seqG (fun a0 a1 => (AW.condK (v := false) I aa (AW.exit ?_))))
 exact lg ⟨(), h, I, I⟩ []
 rintro s ob ⟨i, h, rfl, rfl⟩
 unfold L.zcpc.J4 at h
 refine AW.z I ?_
 obtain rfl := oi h
 exact AW.ret ⟨.inr I, [_, _], [], ⟨I, I, J⟩, sl_n, I, I⟩
 intro D h
 refine AW.skip ?_
 exact lg ⟨(), h, I, I⟩ []
 rintro s ob ⟨g, h, rfl, rfl⟩
 unfold L.zcpc.J1 at h
 refine AW.cutX (fun s ob => ∃ (u : Unit), L.zcpc.J2 u = some r ∧ s = [] ∧ ob = []) [] J ?_ ?_
 refine AW.zr [.l 1 (a.length : Int)] I ⟨len_m, J⟩ (AW.block ?_)
 obtain ⟨a2, ab, w⟩ := ob_some h
 clear h
 refine AW.loopX ab [(0, _), (1, _)] ⟨I, I, J⟩ (fun (y : Int) s ob => s = [(10, .V y)] ∧ ob = []) ⟨I, I⟩ ⟨I, J⟩ ⟨[], I, by decide⟩ ?_
 rintro y a3 s ob ⟨rfl, rfl⟩ h A
 unfold L.zcpc.B3 at h
 refine AW.seqG (fun a4 ac => (AW.z I (AW.ch h I ?_ ?_)))
 intro ad h
 refine AW.skip ?_
 subst ac
 refine AW.seq (AW.block (AW.seq ?_))
 obtain ⟨B, ae, h⟩ := ob_some h
 obtain ⟨af, ag⟩ := ix_some ae
 refine AW.tr [.x 2 B.1 (Piece.row B.2)] I ⟨⟨af, map_get ag⟩, J⟩ (AW.ch h I ?_ ?_)
 intro ah h
 refine AW.seq ?_
 obtain ⟨a5, ai, h⟩ := ob_some h
 obtain ⟨aj, ak, al, am, an, ao, ap⟩ := sub_some ai
 obtain ⟨a6, aq, h⟩ := ob_some h
 refine AW.region (AO.q 3 I (AO.p (Yp.subL aj ak 0 I I I I I ⟨_, _, I, al⟩ (bndL am) I an ao ap) I (AO.c (L.zeou_ok _ _ aq) (AO.q 2 I (AO.nil ?_)))))
 obtain rfl := A _ (oi h).symm
 replace h := w
 replace h := se_l h
 obtain rfl := oi h
 exact AW.ret ⟨.inr I, [_, _], [], ⟨I, I, J⟩, sl_n, I, I⟩
 intro ah h
 refine AW.skip (AW.region (AO.q 3 I ?_))
 obtain rfl := oi h
 refine AO.nil ?_
 exact ⟨_, _, _, I, ⟨I, I⟩, ⟨I, I, I, J⟩, [], I, by decide⟩
 intro ad h
 obtain rfl := A _ (oi h).symm
 replace h := w
 replace h := se_r h
 refine AW.exit ?_
 exact lg ⟨(), h, I, I⟩ []
 rintro s ob ⟨u, h, rfl, rfl⟩
 unfold L.zcpc.J2 at h
 refine AW.z I ?_
 obtain rfl := oi h
 exact AW.ret ⟨.inr I, [_, _], [], ⟨I, I, J⟩, sl_n, I, I⟩
theorem L.zacw_ok (a : Network) (b : List Hop) (r : Bool) (h : L.zacw a b = some r) : ACalls Tryz.env 43 [.agg (Network.row a), .list 2 (b.map Hop.row)] [] (fun x new => x = .v (.bool r) ∧ new = []) := by
 refine ACalls.of_body Tryz.func43 rfl rfl rfl (fun C hC => ?_)
 unfold L.zacw at h
 refine AW.seqG (fun Z A => (AW.region (AO.act [] I (AX.box (cs := Network.row a) (m := 6) I I I dS (fun n => (AO.q 1 I (AO.nil ?_)))))))
 subst A
 refine AW.z I (AW.cutX (fun s ob => ∃ (w : Unit), L.zacw.J1 b w = some r ∧ s = [] ∧ ob = []) [(1, _)] ⟨I, J⟩ ?_ ?_)
 refine AW.zr [.l 1 (b.length : Int)] I ⟨len_m, J⟩ (AW.block (AW.listMax 11 I (fun p => ?_)))
 replace p : b.length ≤ 9223372036854775806 := by rw [List.length_map] at p; omega
 obtain ⟨aa, B, u⟩ := ob_some h
 clear h
 refine AW.forX B [(1, _), (2, _), (11, _), (12, _)] ⟨I, I, I, I, J⟩ (fun (f : Nat) (c : Int) s ob => s = [(13, .V (f : Int)), (5, .V c)] ∧ ob = [.arr n 32 6 1 [Network.row a]]) ⟨I, I⟩ ⟨I, I, J⟩ ⟨[0], I, by decide⟩ ?_ ?_
 rintro f e c D s ob E F ⟨rfl, rfl⟩ h y
 unfold L.zacw.B2 at h
 have G : decide ((f : Int) < (b.length : Int)) = true := decide_eq_true (by omega)
 refine AW.z I (AW.seqG (fun ab H => (AW.condK (v := true) I G (AW.skip ?_))))
 subst H
 refine AW.seq (AW.block (AW.seqG (fun ac K => (AW.region (AO.r 2 [.x 0 f (Hop.row e)] I ⟨⟨I, map_get E⟩, J⟩ (AO.act [] I (AX.alloc (cs := [.V 0, .v (.bool false)]) (m := 2) I I I I I dS (fun M => (AO.act [1] I (AX.store 1 0 0 (es' := [Hop.row e]) I I I I I I I I (le_ble I) I I (AO.nil ?_)))))))))))
 subst K
 refine AW.seqG (fun ad O => (AW.cutX (fun s ob => s = [(27, .v (.bool (decide (e.Segment < 0) || decide (e.Segment ≥ (a.Segments.length : Int)))))] ∧ ob = [.arr n 32 6 1 [Network.row a], .arr M 50 2 1 [Hop.row e]]) [(1, _), (2, _), (5, _), (7, _), (11, _), (12, _), (13, _)] ⟨I, I, I, I, I, I, I, J⟩ ?_ ?_))
 refine AW.region (AO.r 4 [.o 1 1] I ⟨I, J⟩ ?_)
 rcases bt (decide (e.Segment < 0)) with g | g
 refine AO.known 20 I g (AO.q 7 I (AO.nil ?_))
 exact lf ⟨I, I⟩ ⟨(get_b (by simp only [g, bz])), I, I, I, I, I, I, I, J⟩ [0, 1] I
 refine AO.known 20 I g (AO.r 7 [.o 1 1, .o 3 0, .l 4 (a.Segments.length : Int)] I ⟨len_m, I, I, J⟩ (AO.nil ?_))
 exact lf ⟨I, I⟩ ⟨(get_b (by simp only [g, bz])), I, I, I, I, I, I, I, J⟩ [0, 1] I
 rintro s ob ⟨rfl, rfl⟩
 refine AW.ch h I ?_ ?_
 intro P h
 refine AW.z I ?_
 obtain rfl := y _ (oi h).symm
 replace h := u
 replace h := se_r h
 refine AW.ghost g0 ?_
 obtain rfl := oi h
 exact AW.ret pr
 intro P h
 refine AW.skip ?_
 subst O
 refine AW.seqG (fun ae Q => ?_)
 obtain ⟨d, R, h⟩ := ob_some h
 obtain ⟨S, U⟩ := ix_some R
 refine AW.region (AO.r 6 [.o 1 0, .o 3 1, .x 4 d.1 (Segment.row d.2)] I ⟨⟨S, map_get U⟩, I, I, J⟩ (AO.act [] I (AX.alloc (cs := [.v (.string ⟨#[]⟩), .V 0, .V 0, .V 0, .V 0, .V 0, .N]) (m := 7) I I I I I dS (fun af => (AO.act [2] I (AX.store 2 0 0 (es' := [Segment.row d.2]) I I I I I I I I (le_ble I) I I (AO.nil ?_)))))))
 subst Q
 refine AW.dz (pd 6 0 []) [2] [_] [.o 1 0, .o 3 0] I I ⟨I, I, J⟩ (AW.cutX (fun s ob => ∃ (i : Int × Int), L.zacw.J3 c i = some D ∧ s = [(9, .V i.1), (10, .V i.2)] ∧ ob = [.arr n 32 6 1 [Network.row a]]) [(1, _), (2, _), (5, _), (11, _), (12, _), (13, _)] ⟨I, I, I, I, I, I, J⟩ ?_ ?_)
 refine AW.zr [.o 1 1] I ⟨I, J⟩ (AW.ch h I ?_ ?_)
 intro W h
 refine AW.t I ?_
 exact lg ⟨(d.2.To, d.2.From), h, I, I⟩ [0]
 intro W h
 refine AW.skip ?_
 exact lg ⟨(d.2.From, d.2.To), h, I, I⟩ [0]
 rintro s ob ⟨i, h, rfl, rfl⟩
 unfold L.zacw.J3 at h
 refine AW.seq (AW.cutX (fun s ob => s = [(48, .v (.bool (decide (c ≥ 0) && (i.1 != c))))] ∧ ob = [.arr n 32 6 1 [Network.row a]]) [(1, _), (2, _), (10, _), (11, _), (12, _), (13, _)] ⟨I, I, I, I, I, I, J⟩ ?_ ?_)
 refine AW.region (AO.q 3 I ?_)
 rcases bt (decide (c ≥ 0)) with j | j
 refine AO.known 44 I j (AO.q 4 I (AO.nil ?_))
 exact lf ⟨I, I⟩ ⟨(get_b (by simp only [j, bz])), I, I, I, I, I, I, J⟩ [0] I
 refine AO.known 44 I j (AO.q 4 I (AO.nil ?_))
 exact lf ⟨I, I⟩ ⟨(get_b (by simp only [j, bz])), I, I, I, I, I, I, J⟩ [0] I
 rintro s ob ⟨rfl, rfl⟩
 refine AW.ch h I ?_ ?_
 intro X h
 refine AW.z I ?_
 obtain rfl := y _ (oi h).symm
 replace h := u
 replace h := se_r h
 refine AW.ghost g0 ?_
 obtain rfl := oi h
 exact AW.ret pr
 intro X h
 refine AW.skip (AW.t I (AW.region (AO.r 2 [.k 0 (f + 1 : Nat)] I ⟨cast_wr F p, J⟩ ?_)))
 obtain rfl := oi h
 refine AO.nil ?_
 exact ⟨_, _, _, I, ⟨I, I⟩, ⟨I, I, I, I, I, I, J⟩, [0], I, by decide⟩
 rintro c s ob ⟨rfl, rfl⟩ he
 subst he
 have h := se_l u
 have Y : decide (((b.length : Nat) : Int) < (b.length : Int)) = false := by simp
 refine AW.z I (AW.seqG (fun ag ah => (AW.condK (v := false) I Y (AW.exit ?_))))
 exact lg ⟨(), h, I, I⟩ []
 rintro s ob ⟨w, h, rfl, rfl⟩
 unfold L.zacw.J1 at h
 refine AW.zr [.l 1 (b.length : Int)] I ⟨len_m, J⟩ ?_
 obtain rfl := oi h
 exact AW.ret pr
theorem L.zdws_ok (b : Int) (e : Int) (r : Int × Int) (h : L.zdws b e = some r) : ACalls Tryz.env 25 [.V b, .V e] [] (fun x new => x = .tup [.V r.1, .V r.2] ∧ new = []) := by
 refine ACalls.of_body Tryz.func25 rfl rfl rfl (fun C hC => ?_)
 unfold L.zdws at h
 refine AW.z I (AW.seq (AW.cutX (fun s ob => s = [(19, .v (.bool (decide (b < 0) || (decide (b > 1099511627776) || (decide (e < 1) || decide (e > 1000))))))] ∧ ob = []) [(0, _), (1, _)] ⟨I, I, J⟩ ?_ ?_))
 refine AW.region (AO.q 3 I ?_)
 rcases bt (decide (b < 0)) with a | a
 refine AO.known 8 I a (AO.q 11 I (AO.nil ?_))
 exact lf ⟨I, I⟩ ⟨(get_b (by simp only [a, bz])), I, I, J⟩ [] I
 refine AO.known 8 I a (AO.q 4 I ?_)
 rcases bt (decide (b > 1099511627776)) with d | d
 refine AO.known 12 I d (AO.q 7 I (AO.nil ?_))
 exact lf ⟨I, I⟩ ⟨(get_b (by simp only [a, d, bz])), I, I, J⟩ [] I
 refine AO.known 12 I d (AO.q 4 I ?_)
 rcases bt (decide (e < 1)) with g | g
 refine AO.known 16 I g (AO.q 3 I (AO.nil ?_))
 exact lf ⟨I, I⟩ ⟨(get_b (by simp only [a, d, g, bz])), I, I, J⟩ [] I
 refine AO.known 16 I g (AO.q 3 I (AO.nil ?_))
 exact lf ⟨I, I⟩ ⟨(get_b (by simp only [a, d, g, bz])), I, I, J⟩ [] I
 rintro s ob ⟨rfl, rfl⟩
 refine AW.ch h I ?_ ?_
 intro j h
 refine AW.z I ?_
 obtain rfl := oi h
 exact AW.ret ⟨.inr I, [_, _], [], ⟨I, I, J⟩, sl_n, I, I⟩
 intro j h
 refine AW.skip (AW.seq ?_)
 obtain ⟨i, k, h⟩ := ob_some h
 refine AW.tr [.f 2 (.V i)] I ⟨Yp.yd (Yp.binI (c := i) I I (quo_some k)), J⟩ ?_
 obtain rfl := oi h
 exact AW.ret ⟨.inr I, [_, _], [], ⟨I, I, J⟩, sl_n, I, I⟩
theorem L.zpyk_ok (a : Network) (g : List (List Piece)) (b : Int) (d : Int) (r : Int) (h : L.zpyk a g b d = some r) : ACalls Tryz.env 53 [.agg (Network.row a), .list 1 (g.map (rL 2 Piece.row)), .V b, .V d] [] (fun x new => x = .V r ∧ new = []) := by
 refine ACalls.of_body Tryz.func53 rfl rfl rfl (fun C hC => ?_)
 unfold L.zpyk at h
 refine AW.seqG (fun A i => (AW.region (AO.act [] I (AX.box (cs := Network.row a) (m := 6) I I I dS (fun B => (AO.q 1 I (AO.nil ?_)))))))
 subst i
 refine AW.seqG (fun D j => (AW.seq ?_))
 obtain ⟨E, k, h⟩ := ob_some h
 refine AW.region (AO.r 1 [.o 0 0] I ⟨I, J⟩ (AO.c (L.zfta_ok _ _ k) (AO.q 1 I (AO.nil (AW.z I (AW.ch h I ?_ ?_))))))
 intro n h
 refine AW.z I (AW.ghost g0 ?_)
 obtain rfl := oi h
 exact AW.ret pr
 intro n h
 refine AW.skip ?_
 subst j
 refine AW.seqG (fun F p => (AW.seq ?_))
 obtain ⟨G, t, h⟩ := ob_some h
 refine AW.region (AO.r 2 [.o 0 0] I ⟨I, J⟩ (AO.c (L.zspo_ok _ _ _ t) (AO.q 1 I (AO.nil (AW.z I (AW.ch h I ?_ ?_))))))
 intro u h
 refine AW.z I (AW.ghost g0 ?_)
 obtain rfl := oi h
 exact AW.ret pr
 intro u h
 refine AW.skip ?_
 subst p
 refine AW.seq (AW.block (AW.cutX (fun s ob => s = [(22, .v (.bool (decide (b < 0) || decide (b ≥ (a.Ports.length : Int)))))] ∧ ob = []) [(3, _)] ⟨I, J⟩ ?_ ?_))
 refine AW.region (AO.q 3 I ?_)
 rcases bt (decide (b < 0)) with e | e
 refine AO.known 25 I e (AO.q 7 I (AO.nil ?_))
 exact lf ⟨I, I⟩ ⟨(get_b (by simp only [e, bz])), I, J⟩ [] I
 refine AO.known 25 I e (AO.r 7 [.o 2 0, .l 3 (a.Ports.length : Int)] I ⟨len_m, I, J⟩ (AO.nil ?_))
 exact lf ⟨I, I⟩ ⟨(get_b (by simp only [e, bz])), I, J⟩ [] I
 rintro s ob ⟨rfl, rfl⟩
 refine AW.ch h I ?_ ?_
 intro w h
 refine AW.z I ?_
 obtain rfl := oi h
 exact AW.ret pr
 intro w h
 refine AW.cutX (fun s ob => s = [(32, .v (.bool (decide (d < 0) || decide (d > 400))))] ∧ ob = []) [] J ?_ ?_
 refine AW.region (AO.q 3 I ?_)
 rcases bt (decide (d < 0)) with f | f
 refine AO.known 35 I f (AO.q 4 I (AO.nil ?_))
 exact lf ⟨I, I⟩ ⟨(get_b (by simp only [f, bz])), J⟩ [] I
 refine AO.known 35 I f (AO.q 4 I (AO.nil ?_))
 exact lf ⟨I, I⟩ ⟨(get_b (by simp only [f, bz])), J⟩ [] I
 rintro s ob ⟨rfl, rfl⟩
 refine AW.ch h I ?_ ?_
 intro y h
 refine AW.z I ?_
 obtain rfl := oi h
 exact AW.ret pr
 intro y h
 refine AW.skip (AW.z I ?_)
 obtain rfl := oi h
 exact AW.ret pr
theorem L.zeyd_ok (a : Network) (f : List (List Piece)) (b : List Hop) (g : Int) (r : Int × Bool × Int) (h : L.zeyd a f b g = some r) : ACalls Tryz.env 14 [.agg (Network.row a), .list 1 (f.map (rL 2 Piece.row)), .list 2 (b.map Hop.row), .V g] [] (fun x new => x = .tup [.V r.1, .v (.bool r.2.1), .V r.2.2] ∧ new = []) := by
 refine ACalls.of_body Tryz.func14 rfl rfl rfl (fun C hC => ?_)
 unfold L.zeyd at h
 refine AW.seqG (fun y1 t => (AW.region (AO.act [] I (AX.box (cs := Network.row a) (m := 6) I I I dS (fun u => (AO.q 3 I (AO.nil ?_)))))))
 subst t
 refine AW.seqG (fun y3 w => (AW.seq ?_))
 obtain ⟨r4, y, h⟩ := ob_some h
 refine AW.region (AO.r 1 [.o 0 0] I ⟨I, J⟩ (AO.c (L.zfta_ok _ _ y) (AO.q 1 I (AO.nil (AW.z I (AW.ch h I ?_ ?_))))))
 intro A h
 refine AW.z I (AW.ghost g0 ?_)
 obtain rfl := oi h
 exact AW.ret ⟨.inr I, [_, _, _], [], ⟨I, I, I, J⟩, sl_n, I, I⟩
 intro A h
 refine AW.skip ?_
 subst w
 refine AW.seqG (fun y7 B => (AW.seq ?_))
 obtain ⟨r8, D, h⟩ := ob_some h
 refine AW.region (AO.r 2 [.o 0 0] I ⟨I, J⟩ (AO.c (L.zspo_ok _ _ _ D) (AO.q 1 I (AO.nil (AW.z I (AW.ch h I ?_ ?_))))))
 intro E h
 refine AW.z I (AW.ghost g0 ?_)
 obtain rfl := oi h
 exact AW.ret ⟨.inr I, [_, _, _], [], ⟨I, I, I, J⟩, sl_n, I, I⟩
 intro E h
 refine AW.skip ?_
 subst B
 refine AW.seqG (fun ai F => (AW.seq ?_))
 obtain ⟨aj, G, h⟩ := ob_some h
 refine AW.region (AO.r 2 [.o 0 0] I ⟨I, J⟩ (AO.c (L.zacw_ok _ _ _ G) (AO.q 1 I (AO.nil (AW.ch h I ?_ ?_)))))
 intro H h
 refine AW.z I (AW.ghost g0 ?_)
 obtain rfl := oi h
 exact AW.ret ⟨.inr I, [_, _, _], [], ⟨I, I, I, J⟩, sl_n, I, I⟩
 intro H h
 refine AW.skip ?_
 subst F
 refine AW.z I (AW.cutX (fun s ob => ∃ (i : Unit), L.zeyd.J1 i = some r ∧ s = [] ∧ ob = []) [] J ?_ ?_)
 refine AW.zr [.l 1 (b.length : Int)] I ⟨len_m, J⟩ (AW.block ?_)
 obtain ⟨ak, K, j⟩ := ob_some h
 clear h
 refine AW.loopX K [(1, _), (2, _), (3, _), (4, _)] ⟨I, I, I, I, J⟩ (fun (d : Int × Int) s ob => s = [(13, .V d.1), (14, .V d.2)] ∧ ob = [.arr u 32 6 1 [Network.row a]]) ⟨I, I⟩ ⟨I, I, J⟩ ⟨[0], I, by decide⟩ ?_
 rintro d al s ob ⟨rfl, rfl⟩ h k
 unfold L.zeyd.B2 at h
 refine AW.seqG (fun am M => (AW.z I (AW.ch h I ?_ ?_)))
 intro N h
 refine AW.skip ?_
 subst M
 refine AW.seq (AW.block (AW.seqG (fun an O => ?_)))
 obtain ⟨e, P, h⟩ := ob_some h
 obtain ⟨Q, R⟩ := ix_some P
 refine AW.region (AO.r 4 [.x 2 e.1 (Hop.row e.2)] I ⟨⟨Q, map_get R⟩, J⟩ (AO.act [] I (AX.alloc (cs := [.V 0, .v (.bool false)]) (m := 2) I I I I I dS (fun ao => (AO.act [1] I (AX.store 1 0 0 (es' := [Hop.row e.2]) I I I I I I I I (le_ble I) I I (AO.nil ?_)))))))
 subst O
 refine AW.seq (AW.seqG (fun ap S => ?_))
 obtain ⟨n, U, h⟩ := ob_some h
 obtain ⟨W, X⟩ := ix_some U
 obtain ⟨aq, Y, h⟩ := ob_some h
 refine AW.rd (pd 14 0 [8]) [1] [_] I (AP.r 8 [.o 2 0, .x 3 n.1 ((rL 2 Piece.row) n.2), .o 7 0] I ⟨I, ⟨W, map_get X⟩, I, J⟩ (AP.c I (L.zcpc_ok _ _ _ _ Y) (AP.q 5 I (AP.ofAO (AO.nil ?_)))))
 subst S
 refine AW.z I (AW.ch h I ?_ ?_)
 intro Z h
 refine AW.z I ?_
 obtain rfl := k _ (oi h).symm
 replace h := j
 replace h := se_l h
 refine AW.ghost g0 ?_
 obtain rfl := oi h
 exact AW.ret ⟨.inr I, [_, _, _], [], ⟨I, I, I, J⟩, sl_n, I, I⟩
 intro Z h
 refine AW.skip ?_
 obtain ⟨p, aa, h⟩ := ob_some h
 obtain ⟨ab, ac⟩ := ix_some aa
 refine AW.tr [.o 2 0, .o 4 1, .x 5 p.1 (Segment.row p.2)] I ⟨⟨ab, map_get ac⟩, I, I, J⟩ (AW.region (AO.q 3 I ?_))
 obtain rfl := oi h
 refine AO.nil ?_
 exact ⟨_, _, _, I, ⟨I, I⟩, ⟨I, I, I, I, I, I, J⟩, [0], I, by decide⟩
 intro N h
 obtain rfl := k _ (oi h).symm
 replace h := j
 replace h := se_r h
 refine AW.exit ?_
 exact lg ⟨(), h, I, I⟩ []
 rintro s ob ⟨i, h, rfl, rfl⟩
 unfold L.zeyd.J1 at h
 refine AW.z I ?_
 obtain rfl := oi h
 exact AW.ret ⟨.inr I, [_, _, _], [], ⟨I, I, I, J⟩, sl_n, I, I⟩
theorem L.zlie_ok (a : Network) (Q : List (List Piece)) (b : Plan) (R : List Int) (S : Int) (H : Int) (p : Int) (r : Int × Bool × Int) (h : L.zlie a Q b R S H p = some r) : ACalls Tryz.env 36 [.agg (Network.row a), .list 1 (Q.map (rL 2 Piece.row)), .agg (Plan.row b), .list 1 (R.map rI), .V S, .V H, .V p] [] (fun x new => x = .tup [.V r.1, .v (.bool r.2.1), .V r.2.2] ∧ new = []) := by
 refine ACalls.of_body Tryz.func36 rfl rfl rfl (fun C hC => ?_)
 unfold L.zlie at h
 refine AW.seqG (fun y1 Y => (AW.region (AO.act [] I (AX.box (cs := Network.row a) (m := 6) I I I dS (fun g => (AO.act [] I (AX.box (cs := Plan.row b) (m := 3) I I I dS (fun i => (AO.q 3 I (AO.nil ?_))))))))))
 subst Y
 refine AW.seqG (fun y4 Z => (AW.seq ?_))
 obtain ⟨r5, aa, h⟩ := ob_some h
 refine AW.region (AO.r 4 [.o 0 0] I ⟨I, J⟩ (AO.c (L.zpyk_ok _ _ _ _ _ aa) (AO.q 1 I (AO.nil (AW.z I (AW.ch h I ?_ ?_))))))
 intro ab h
 refine AW.z I (AW.ghost g0 ?_)
 obtain rfl := oi h
 exact AW.ret ⟨.inr I, [_, _, _], [], ⟨I, I, I, J⟩, sl_n, I, I⟩
 intro ab h
 refine AW.skip ?_
 subst Z
 refine AW.z I (AW.cutX (fun s ob => ∃ (M : Int × Bool), L.zlie.J1 M = some r ∧ s = [(18, .V M.1), (19, .v (.bool M.2))] ∧ ob = []) [] J ?_ ?_)
 refine AW.z I (AW.block ?_)
 obtain ⟨a6, ac, h⟩ := ob_some h
 have ad : p.toNat ≤ 9223372036854775806 := by have := chk_some ac; omega
 obtain ⟨a7, ae, U⟩ := ob_some h
 clear h
 refine AW.forIX ae [(3, _), (4, _), (5, _), (7, _), (9, _), (34, _)] ⟨I, I, I, I, I, I, J⟩ (fun (B : Nat) (j : (List (List Piece)) × Int × Bool) s ob => s = [(35, .V (B : Int)), (1, .list 1 (j.1.map (rL 2 Piece.row))), (18, .V j.2.1), (19, .v (.bool j.2.2))] ∧ ob = [.arr g 32 6 1 [Network.row a], .arr i 46 3 1 [Plan.row b]]) ⟨I, I⟩ ⟨I, I, I, I, J⟩ ⟨[0, 1], I, by decide⟩ ?_ ?_
 rintro B j W s ob af ⟨rfl, rfl⟩ h ag
 unfold L.zlie.B2 at h
 have ah : decide ((B : Int) < p) = true := decide_eq_true (by omega)
 refine AW.z I (AW.seqG (fun a8 ai => (AW.condK (v := true) I ah (AW.skip ?_))))
 subst ai
 refine AW.cutX (fun s ob => ∃ (n : (List (List Piece)) × Int × Bool) (N : Value), L.zlie.J3 n = some W ∧ s = [(1, .v N), (18, .V n.2.1), (19, .v (.bool n.2.2))] ∧ ob = [.arr g 32 6 1 [Network.row a], .arr i 46 3 1 [Plan.row b], .us N 35 1 (n.1.map (rL 2 Piece.row))]) [(3, _), (4, _), (5, _), (7, _), (9, _), (34, _), (35, _)] ⟨I, I, I, I, I, I, I, J⟩ ?_ ?_
 refine AW.block (AW.z I (AW.seqG (fun a9 aj => ?_)))
 obtain ⟨u, ak, h⟩ := ob_some h
 refine AW.region (AO.r 4 [.o 0 0, .o 2 1] I ⟨I, I, J⟩ (AO.act [] I (AX.call0 I I I (L.zcgl_ok _ _ _ _ _ ak) dS ?_)))
 rintro _ _ ⟨D, ba, rfl, rfl⟩
 refine AO.q 7 I (AO.nil ?_)
 subst aj
 refine AW.seqG (fun bb al => (AW.z I (AW.ch h I ?_ ?_)))
 intro am h
 refine AW.z I ?_
 obtain rfl := ag _ (oi h).symm
 replace h := U
 replace h := se_r h
 refine AW.ghost g0 ?_
 obtain rfl := oi h
 exact AW.ret ⟨.inr I, [_, _, _], [], ⟨I, I, I, J⟩, sl_n, I, I⟩
 intro am h
 refine AW.skip ?_
 subst al
 refine AW.cutX (fun s ob => ∃ (w : Int × Bool), L.zlie.J4 u w = some W ∧ s = [(18, .V w.1), (19, .v (.bool w.2))] ∧ ob = [.arr g 32 6 1 [Network.row a], .arr i 46 3 1 [Plan.row b], .us D 35 1 (u.1.map (rL 2 Piece.row))]) [(3, _), (4, _), (5, _), (7, _), (9, _), (21, _), (34, _), (35, _)] ⟨I, I, I, I, I, I, I, I, J⟩ ?_ ?_
 refine AW.seqG (fun bc an => ?_)
 obtain ⟨f, ao, h⟩ := ob_some h
 obtain ⟨ap, X⟩ := ix_some ao
 refine AW.region (AO.q 2 I (AO.d (Yd.indexU 3 (m := f.1) I I I I I I I ap (map_get X)) I (AO.d (Yd.loadU 3 f.1 0 I I I (map_get X) I (y := .list 2 (f.2.map Piece.row)) I) I (AO.r 2 [.l 0 (f.2.length : Int)] I ⟨len_m, J⟩ (AO.nil ?_)))))
 subst an
 refine AW.block (AW.listMax 53 I (fun P => ?_))
 replace P : f.2.length ≤ 9223372036854775806 := by rw [List.length_map] at P; omega
 obtain ⟨bd, aq, ar⟩ := ob_some h
 clear h
 refine AW.forY aq [(3, _), (4, _), (5, _), (7, _), (9, _), (20, _), (21, _), (34, _), (35, _), (53, _), (54, _)] ⟨I, I, I, I, I, I, I, I, I, I, I, J⟩ (fun (E : Nat) (e : Int × Bool) s ob => s = [(55, .V (E : Int)), (18, .V e.1), (19, .v (.bool e.2))] ∧ ob = [.arr g 32 6 1 [Network.row a], .arr i 46 3 1 [Plan.row b], .us D 35 1 (u.1.map (rL 2 Piece.row))]) ⟨I, I⟩ ⟨I, I, I, J⟩ ⟨[0, 1, 2], I, by decide⟩ ?_ ?_
 rintro E F e au s ob av aw ⟨rfl, rfl⟩ h
 unfold L.zlie.B5 at h
 have ax : decide ((E : Int) < (f.2.length : Int)) = true := decide_eq_true (by omega)
 refine AW.z I (AW.seqG (fun be ay => (AW.condK (v := true) I ax (AW.skip ?_))))
 subst ay
 refine AW.cutX (fun s ob => ∃ (O : Int × Bool), L.zlie.J6 O = some au ∧ s = [(18, .V O.1), (19, .v (.bool O.2))] ∧ ob = [.arr g 32 6 1 [Network.row a], .arr i 46 3 1 [Plan.row b], .us D 35 1 (u.1.map (rL 2 Piece.row))]) [(3, _), (4, _), (5, _), (7, _), (9, _), (20, _), (21, _), (34, _), (35, _), (53, _), (54, _), (55, _)] ⟨I, I, I, I, I, I, I, I, I, I, I, I, J⟩ ?_ ?_
 refine AW.block (AW.seqG (fun bf az => (AW.region (AO.r 2 [.x 0 E (Piece.row F)] I ⟨⟨I, map_get av⟩, J⟩ (AO.act [] I (AX.alloc (cs := [.V 0, .V 0]) (m := 2) I I I I I dS (fun bg => (AO.act [3] I (AX.store 3 0 0 (es' := [Piece.row F]) I I I I I I I I (le_ble I) I I (AO.nil ?_))))))))))
 subst az
 refine AW.cutX (fun s ob => s = [(71, .v (.bool ((!e.2) && ((F.Batch == H) && decide (F.Volume > 0)))))] ∧ ob = [.arr g 32 6 1 [Network.row a], .arr i 46 3 1 [Plan.row b], .us D 35 1 (u.1.map (rL 2 Piece.row))]) [(3, _), (4, _), (5, _), (7, _), (9, _), (18, _), (19, _), (20, _), (21, _), (34, _), (35, _), (53, _), (54, _), (55, _)] ⟨I, I, I, I, I, I, I, I, I, I, I, I, I, I, J⟩ ?_ ?_
 refine AW.region (AO.q 3 I ?_)
 rcases bt ((!e.2)) with A | A
 refine AO.known 61 I A (AO.r 6 [.o 1 3] I ⟨I, J⟩ ?_)
 rcases bt ((F.Batch == H)) with G | G
 refine AO.known 67 I G (AO.r 4 [.o 1 3] I ⟨I, J⟩ (AO.nil ?_))
 exact lf ⟨I, I⟩ ⟨(get_b (by simp only [A, G, bz])), I, I, I, I, I, I, I, I, I, I, I, I, I, I, J⟩ [0, 1, 2] I
 refine AO.known 67 I G (AO.q 4 I (AO.nil ?_))
 exact lf ⟨I, I⟩ ⟨(get_b (by simp only [A, G, bz])), I, I, I, I, I, I, I, I, I, I, I, I, I, I, J⟩ [0, 1, 2] I
 refine AO.known 61 I A (AO.q 10 I (AO.nil ?_))
 exact lf ⟨I, I⟩ ⟨(get_b (by simp only [A, bz])), I, I, I, I, I, I, I, I, I, I, I, I, I, I, J⟩ [0, 1, 2] I
 rintro s ob ⟨rfl, rfl⟩
 refine AW.ch h I ?_ ?_
 intro a0 h
 refine AW.t I ?_
 exact lg ⟨((B : Int), true), h, I, I⟩ [0, 1, 2]
 intro a0 h
 refine AW.skip ?_
 exact lg ⟨(e.1, e.2), h, I, I⟩ [0, 1, 2]
 rintro s ob ⟨O, h, rfl, rfl⟩
 unfold L.zlie.J6 at h
 refine AW.region (AO.r 2 [.k 0 (E + 1 : Nat)] I ⟨cast_wr aw P, J⟩ ?_)
 obtain rfl := oi h
 refine AO.nil ?_
 exact lg ⟨I, I⟩ [0, 1, 2]
 rintro e s ob ⟨rfl, rfl⟩ he
 subst he
 have h := ar
 have a1 : decide (((f.2.length : Nat) : Int) < (f.2.length : Int)) = false := by simp
 refine AW.z I (AW.seqG (fun bh bi => (AW.condK (v := false) I a1 (AW.exit ?_))))
 exact lg ⟨(e.1, e.2), h, I, I⟩ [0, 1, 2]
 rintro s ob ⟨w, h, rfl, rfl⟩
 unfold L.zlie.J4 at h
 refine AW.t I ?_
 exact lg ⟨(u.1, w.1, w.2), D, h, I, I⟩ [0, 1, 2]
 rintro s ob ⟨n, N, h, rfl, rfl⟩
 unfold L.zlie.J3 at h
 refine AW.region (AO.r 2 [.k 0 (B + 1 : Nat)] I ⟨cast_wr af ad, J⟩ (AO.ghost (Ghost.freeze [2] (K := [.us N 35 1 (n.1.map (rL 2 Piece.row))]) I [(1, .list 1 (n.1.map (rL 2 Piece.row)))] ⟨⟨_, I, .us 0 I⟩, J⟩ (ob' := [.arr g 32 6 1 [Network.row a], .arr i 46 3 1 [Plan.row b]]) (.rest _)) ?_))
 obtain rfl := oi h
 refine AO.nil ?_
 exact ⟨_, _, _, I, ⟨I, I⟩, ⟨I, I, I, I, I, I, I, I, I, I, J⟩, [0, 1], I, by decide⟩
 rintro j s ob ⟨rfl, rfl⟩ he
 subst he
 have h := se_l U
 have a2 : decide (((p.toNat : Nat) : Int) < p) = false := decide_eq_false (by omega)
 refine AW.z I (AW.seqG (fun bj bk => (AW.condK (v := false) I a2 (AW.exit ?_))))
 exact lg ⟨(j.2.1, j.2.2), h, I, I⟩ []
 rintro s ob ⟨M, h, rfl, rfl⟩
 unfold L.zlie.J1 at h
 refine AW.z I ?_
 obtain rfl := oi h
 exact AW.ret ⟨.inr I, [_, _, _], [], ⟨I, I, I, J⟩, sl_n, I, I⟩
end Go.Proofs.YtaliejncdnegeaaGreat
