/- Walks that show what functions of the program compute; printed by a program of ours. No condition. -/
import Derived.Test.YtaliejncdnegeaaGreatZwLa2
import Derived.Test.YtaliejncdnegeaaGreatZwB2
import Derived.Test.YtaliejncdnegeaaGreatZwB3
set_option maxRecDepth 100000
namespace Go.Proofs.YtaliejncdnegeaaGreat
open Go.Aw
set_option linter.unusedVariables false
set_option linter.unusedSimpArgs false
set_option maxHeartbeats 4000000
theorem L.zvuy_ok (a : List (List Piece)) (F1 : T) {d : FuncId} {e f : List T} (o : fnT F1 = some (d, e, f)) (g : (List Piece) → Option Bool) (p : ∀ (i : List Piece) r, g i = some r → ACalls Tryz.env d (e ++ [.list 2 (i.map Piece.row)] ++ f) [] (fun x new => x = .v (.bool r) ∧ new = [])) (r : Int) (h : L.zvuy a g = some r) : ACalls Tryz.env 114 [.list 1 (a.map (rL 2 Piece.row)), F1] [] (fun x new => x = .V r ∧ new = []) := by
 refine ACalls.of_body Tryz.func114 rfl rfl rfl (fun C hC => ?_)
 unfold L.zvuy at h
 refine AW.z I (AW.cutX (fun s ob => ∃ (j : Unit), L.zvuy.J1 j = some r ∧ s = [] ∧ ob = []) [] J ?_ ?_)
 refine AW.zr [.l 1 (a.length : Int)] I ⟨len_m, J⟩ (AW.block (AW.listMax 6 I (fun c => ?_)))
 replace c : a.length ≤ 9223372036854775806 := by rw [List.length_map] at c; omega
 obtain ⟨G, q, m⟩ := ob_some h
 clear h
 refine AW.forX q [(0, _), (1, _), (7, _)] ⟨I, I, I, J⟩ (fun (b : Nat) (n : Unit) s ob => s = [(8, .V (b : Int))] ∧ ob = []) ⟨I, I⟩ ⟨I, J⟩ ⟨[], I, by decide⟩ ?_ ?_
 rintro b t n H s ob u w ⟨rfl, rfl⟩ h y
 unfold L.zvuy.B2 at h
 have A : decide ((b : Int) < (a.length : Int)) = true := decide_eq_true (by omega)
 refine AW.z I (AW.seqG (fun K B => (AW.condK (v := true) I A (AW.skip ?_))))
 subst B
 refine AW.seq (AW.block (AW.z I (AW.seq ?_)))
 obtain ⟨M, D, h⟩ := ob_some h
 refine AW.region (AO.r 5 [.x 3 b ((rL 2 Piece.row) t)] I ⟨⟨I, map_get u⟩, J⟩ (AO.act [] I (AX.callL I (.refl _) o I (.rest _) I (p _ _ D) dS (by rintro _ _ ⟨rfl, _⟩; rfl) ?_)))
 rintro _ ⟨_, rfl, -⟩
 refine AO.nil (AW.ch h I ?_ ?_)
 intro E h
 refine AW.z I ?_
 obtain rfl := y _ (oi h).symm
 replace h := m
 replace h := se_r h
 obtain rfl := oi h
 exact AW.ret pr
 intro E h
 refine AW.skip (AW.region (AO.r 2 [.k 0 (b + 1 : Nat)] I ⟨cast_wr w c, J⟩ ?_))
 obtain rfl := oi h
 refine AO.nil ?_
 exact ⟨_, _, _, I, ⟨I, I⟩, ⟨I, I, I, I, J⟩, [], I, by decide⟩
 rintro n s ob ⟨rfl, rfl⟩ he
 subst he
 have h := se_l m
 have F : decide (((a.length : Nat) : Int) < (a.length : Int)) = false := by simp
 refine AW.z I (AW.seqG (fun N O => (AW.condK (v := false) I F (AW.exit ?_))))
 exact lg ⟨(), h, I, I⟩ []
 rintro s ob ⟨j, h, rfl, rfl⟩
 unfold L.zvuy.J1 at h
 refine AW.z I ?_
 obtain rfl := oi h
 exact AW.ret pr
theorem L.zbxi_ok (b : List (List Piece)) (F1 : T) {d : FuncId} {e f : List T} (i : fnT F1 = some (d, e, f)) (a : (List Piece) → Option Bool) (j : ∀ (g : List Piece) r, a g = some r → ACalls Tryz.env d (e ++ [.list 2 (g.map Piece.row)] ++ f) [] (fun x new => x = .v (.bool r) ∧ new = [])) (r : Bool) (h : L.zbxi b a = some r) : ACalls Tryz.env 78 [.list 1 (b.map (rL 2 Piece.row)), F1] [] (fun x new => x = .v (.bool r) ∧ new = []) := by
 refine ACalls.of_body Tryz.func78 rfl rfl rfl (fun C hC => ?_)
 unfold L.zbxi at h
 refine AW.z I (AW.seq ?_)
 obtain ⟨l, k, h⟩ := ob_some h
 refine AW.region (AO.q 2 I (AO.c (L.zvuy_ok _ F1 i a j _ k) (AO.q 2 I (AO.nil ?_))))
 obtain rfl := oi h
 exact AW.ret pr
theorem L.zfxs_ok (a : List Piece) (r : Bool) (h : L.zfxs a = some r) : ACalls Tryz.env 79 [.list 2 (a.map Piece.row)] [] (fun x new => x = .v (.bool r) ∧ new = []) := by
 refine ACalls.of_body Tryz.func79 rfl rfl rfl (fun C hC => ?_)
 unfold L.zfxs at h
 refine AW.z I (AW.seq ?_)
 obtain ⟨d, b, h⟩ := ob_some h
 refine AW.region (AO.q 1 I (AO.c (L.zqwg_ok _ _ b) (AO.q 2 I (AO.nil ?_))))
 obtain rfl := oi h
 exact AW.ret pr
theorem L.zspo_ok (b : Network) (a : List (List Piece)) (r : Int) (h : L.zspo b a = some r) : ACalls Tryz.env 42 [.agg (Network.row b), .list 1 (a.map (rL 2 Piece.row))] [] (fun x new => x = .V r ∧ new = []) := by
 refine ACalls.of_body Tryz.func42 rfl rfl rfl (fun C hC => ?_)
 unfold L.zspo at h
 refine AW.seqG (fun Y u => (AW.region (AO.act [] I (AX.box (cs := Network.row b) (m := 6) I I I dS (fun i => (AO.q 1 I (AO.nil ?_)))))))
 subst u
 refine AW.seqG (fun Z w => (AW.seq ?_))
 obtain ⟨r4, y, h⟩ := ob_some h
 refine AW.region (AO.r 1 [.o 0 0] I ⟨I, J⟩ (AO.c (L.zfta_ok _ _ y) (AO.q 1 I (AO.nil (AW.z I (AW.ch h I ?_ ?_))))))
 intro A h
 refine AW.z I (AW.ghost g0 ?_)
 obtain rfl := oi h
 exact AW.ret pr
 intro A h
 refine AW.skip ?_
 subst w
 refine AW.seqG (fun y7 B => (AW.cutX (fun s ob => ∃ (f : Bool), L.zspo.J1 b a f = some r ∧ s = [(22, .v (.bool f))] ∧ ob = [.arr i 32 6 1 [Network.row b]]) [(1, _), (2, _)] ⟨I, I, J⟩ ?_ ?_))
 refine AW.region (AO.r 7 [.l 1 (a.length : Int), .o 3 0, .l 4 (b.Segments.length : Int)] I ⟨len_m, I, len_m, J⟩ ?_)
 rcases bt (((a.length : Int) != (b.Segments.length : Int))) with d | d
 replace h := ife_t d h
 refine AO.known 19 I d (AO.q 3 I (AO.nil ?_))
 exact lg ⟨true, h, I, I⟩ [0]
 replace h := ife_f d h
 obtain ⟨D, E, h⟩ := ob_some h
 refine AO.known 19 I d (AO.q 1 I (AO.gt I I I (AO.c (L.zbxi_ok _ (.v (.func (.func 79) #[] #[])) I (fun x => L.zfxs x) (fun x r h => L.zfxs_ok x r h) _ E) (AO.q 1 I (AO.nil ?_)))))
 exact lg ⟨D, h, I, I⟩ [0]
 rintro s ob ⟨f, h, rfl, rfl⟩
 unfold L.zspo.J1 at h
 refine AW.ch h I ?_ ?_
 intro F h
 refine AW.z I (AW.ghost g0 ?_)
 obtain rfl := oi h
 exact AW.ret pr
 intro F h
 refine AW.skip ?_
 subst B
 refine AW.cutX (fun s ob => ∃ (j : Unit), L.zspo.J2 j = some r ∧ s = [] ∧ ob = []) [] J ?_ ?_
 refine AW.zr [.l 1 (a.length : Int)] I ⟨len_m, J⟩ (AW.block (AW.listMax 23 I (fun g => ?_)))
 replace g : a.length ≤ 9223372036854775806 := by rw [List.length_map] at g; omega
 obtain ⟨ac, G, n⟩ := ob_some h
 clear h
 refine AW.forX G [(2, _), (23, _), (24, _)] ⟨I, I, I, J⟩ (fun (e : Nat) (p : Unit) s ob => s = [(25, .V (e : Int))] ∧ ob = [.arr i 32 6 1 [Network.row b]]) ⟨I, I⟩ ⟨I, J⟩ ⟨[0], I, by decide⟩ ?_ ?_
 rintro e H p ad s ob K M ⟨rfl, rfl⟩ h N
 unfold L.zspo.B3 at h
 have O : decide ((e : Int) < (a.length : Int)) = true := decide_eq_true (by omega)
 refine AW.z I (AW.seqG (fun ae P => (AW.condK (v := true) I O (AW.skip ?_))))
 subst P
 refine AW.seq (AW.block (AW.zr [.x 1 e ((rL 2 Piece.row) H)] I ⟨⟨I, map_get K⟩, J⟩ (AW.seq ?_)))
 obtain ⟨af, Q, h⟩ := ob_some h
 obtain ⟨t, R, h⟩ := ob_some h
 obtain ⟨S, U⟩ := ix_some R
 refine AW.rd (.still 0 (.still 2 (.still 3 (.still 4 (.still 5 (.still 6 (.still 7 (.act 1 (.still 8 .nil))))))))) [0] [_] I (AP.r 7 [.o 2 0, .x 4 t.1 (Segment.row t.2)] I ⟨⟨S, map_get U⟩, I, J⟩ (AP.c I (L.zryf_ok _ _ Q) (AP.q 1 I (AP.ofAO (AO.nil (AW.ch h I ?_ ?_))))))
 intro W h
 refine AW.z I ?_
 obtain rfl := N _ (oi h).symm
 replace h := n
 replace h := se_r h
 refine AW.ghost g0 ?_
 obtain rfl := oi h
 exact AW.ret pr
 intro W h
 refine AW.skip (AW.region (AO.r 2 [.k 0 (e + 1 : Nat)] I ⟨cast_wr M g, J⟩ ?_))
 obtain rfl := oi h
 refine AO.nil ?_
 exact ⟨_, _, _, I, ⟨I, I⟩, ⟨I, I, I, I, J⟩, [0], I, by decide⟩
 rintro p s ob ⟨rfl, rfl⟩ he
 subst he
 have h := se_l n
 have X : decide (((a.length : Nat) : Int) < (a.length : Int)) = false := by simp
 refine AW.z I (AW.seqG (fun ag ah => (AW.condK (v := false) I X (AW.exit ?_))))
 exact lg ⟨(), h, I, I⟩ []
 rintro s ob ⟨j, h, rfl, rfl⟩
 unfold L.zspo.J2 at h
 refine AW.z I ?_
 obtain rfl := oi h
 exact AW.ret pr
theorem L.zljn_ok (w : Value) (F : List Piece) (e : List Piece) (r : List Piece) (h : L.zljn F e = some r) : ACalls Tryz.env 135 [.v w, .list 2 (e.map Piece.row)] [.us w 66 2 (F.map Piece.row)] (Gives 1 (fun x os new => ∃ (G : Value), x = .v G ∧ os = [.us (.slice none 0 0) 66 2 ([].map Piece.row)] ∧ new = [.us G 66 2 (r.map Piece.row)])) := by
 refine ACalls.of_body Tryz.func135 rfl rfl rfl (fun C hC => ?_)
 unfold L.zljn at h
 refine AW.z I (AW.cutX (fun s ob => ∃ (i : List Piece) (f : Value), L.zljn.J1 i = some r ∧ s = [(0, .v f)] ∧ ob = [.us f 66 2 (i.map Piece.row)]) [] J ?_ ?_)
 refine AW.zr [.l 1 (e.length : Int)] I ⟨len_m, J⟩ (AW.block (AW.listMax 8 I (fun A => ?_)))
 replace A : e.length ≤ 9223372036854775806 := by rw [List.length_map] at A; omega
 obtain ⟨aj, N, O⟩ := ob_some h
 clear h
 refine AW.forY N [(8, _), (9, _)] ⟨I, I, J⟩ (fun (n : Nat) (b : List Piece) s ob => ∃ (g : Value), s = [(10, .V (n : Int)), (0, .v g)] ∧ ob = [.us g 66 2 (b.map Piece.row)]) ⟨w, I, I⟩ ⟨I, I, J⟩ ⟨[0], I, by decide⟩ ?_ ?_
 rintro n c b H s ob P Q ⟨g, rfl, rfl⟩ h
 unfold L.zljn.B2 at h
 have R : decide ((n : Int) < (e.length : Int)) = true := decide_eq_true (by omega)
 refine AW.z I (AW.seqG (fun ak S => (AW.condK (v := true) I R (AW.skip ?_))))
 subst S
 refine AW.cutX (fun s ob => ∃ (B : List Piece) (u : Value), L.zljn.J3 B = some H ∧ s = [(0, .v u)] ∧ ob = [.us u 66 2 (B.map Piece.row)]) [(8, _), (9, _), (10, _)] ⟨I, I, I, J⟩ ?_ ?_
 refine AW.block (AW.seqG (fun al U => (AW.region (AO.r 2 [.x 0 n (Piece.row c)] I ⟨⟨I, map_get P⟩, J⟩ (AO.act [] I (AX.alloc (cs := [.V 0, .V 0]) (m := 2) I I I I I dS (fun W => (AO.act [1] I (AX.store 1 0 0 (es' := [Piece.row c]) I I I I I I I I (le_ble I) I I (AO.nil ?_))))))))))
 subst U
 refine AW.seqG (fun am X => (AW.region (AO.q 1 I (AO.d (Yd.lenUM 0 I I I I) I (AO.q 1 I (AO.nil ?_))))))
 subst X
 refine AW.cutX (fun s ob => ∃ (D : Bool), L.zljn.J4 c b D = some H ∧ s = [(28, .v (.bool D))] ∧ ob = [.us g 66 2 (b.map Piece.row), .arr W 66 2 1 [Piece.row c]]) [(0, _), (6, _), (7, _), (8, _), (9, _), (10, _)] ⟨I, I, I, I, I, I, J⟩ ?_ ?_
 rcases bt (decide ((b.length : Int) > 0)) with p | p
 replace h := ife_t p h
 obtain ⟨t, Y, h⟩ := ob_some h
 obtain ⟨Z, E⟩ := ix_some Y
 refine AW.form 0 t.1 I E (fun aa => (AW.rd (pd 13 0 []) [0, 1] [_, _] I (AP.q 3 I (AP.known 18 I p (AP.q 3 I (AP.oldG I I I I ((Yp.indexUf (m := t.1) I I I I I aa I Z E).yd) dS (AP.q 1 I (AP.oldG I I I I (Yd.loadU 0 t.1 0 I I I (map_get E) I (y := .V t.2.Batch) I) dS (AP.r 4 [.o 1 1] I ⟨I, J⟩ (AP.ofAO (AO.nil ?_)))))))))))
 exact lg ⟨(t.2.Batch == c.Batch), h, I, I⟩ [0, 1]
 replace h := ife_f p h
 refine AW.rd (pd 13 0 []) [] [] I (AP.q 3 I (AP.known 18 I p (AP.q 10 I (AP.ofAO (AO.nil ?_)))))
 exact lg ⟨false, h, I, I⟩ [0, 1]
 rintro s ob ⟨D, h, rfl, rfl⟩
 unfold L.zljn.J4 at h
 refine AW.ch h I ?_ ?_
 intro ab h
 obtain ⟨a, ac, h⟩ := ob_some h
 obtain ⟨M, j⟩ := ix_some ac
 refine AW.form 0 a.1 I j (fun ad => (AW.form 0 a.1 I j (fun ae => (AW.rd (.still 0 (.still 1 (.still 2 (.still 3 (.still 4 (.still 5 (.still 6 (.still 7 (.still 8 (.still 9 (.still 10 (.drop 11 .nil)))))))))))) [0, 1] [_, _] I (AP.q 3 I (AP.op I (Yp.indexUf (m := a.1) I I I I I ad I M j) I (AP.q 1 I (AP.o I (Yd.loadU 0 a.1 1 I I I (map_get j) I (y := .V a.2.Volume) I) I (AP.r 3 [.o 1 1] I ⟨I, J⟩ (AP.op I (Yp.indexUf (m := a.1) I I I I I ae I M j) I (AP.q 1 I (AP.drop [0] I I I (AX.storeU 0 a.1 1 I I I (map_get j) I I I I (le_ble I) I (us_set (x := (⟨a.2.Batch, wr (a.2.Volume + c.Volume)⟩ : Piece)) I) (AP.ofAO (AO.nil ?_)))))))))))))))
 exact lg ⟨(b.set a.1 (⟨a.2.Batch, wr (a.2.Volume + c.Volume)⟩ : Piece)), g, h, I, I⟩ [0]
 intro ab h
 obtain ⟨af, ag, h⟩ := ob_some h
 refine AW.region (AO.r 2 [.o 1 1] I ⟨I, J⟩ (AO.act [] I (AX.lt 2 (([c] : List Piece).map Piece.row) (AO.act [0] I (AX.ap 0 I ag (fun ah => (AO.q 1 I (AO.nil ?_))))))))
 exact lg ⟨af, ah, h, I, I⟩ [0]
 rintro s ob ⟨B, u, h, rfl, rfl⟩
 unfold L.zljn.J3 at h
 refine AW.region (AO.r 2 [.k 0 (n + 1 : Nat)] I ⟨cast_wr Q A, J⟩ ?_)
 obtain rfl := oi h
 refine AO.nil ?_
 exact lg ⟨u, I, I⟩ [0]
 rintro b s ob ⟨g, rfl, rfl⟩ he
 subst he
 have h := O
 have ai : decide (((e.length : Nat) : Int) < (e.length : Int)) = false := by simp
 refine AW.z I (AW.seqG (fun an ao => (AW.condK (v := false) I ai (AW.exit ?_))))
 exact lg ⟨b, g, h, I, I⟩ [0]
 rintro s ob ⟨i, f, h, rfl, rfl⟩
 unfold L.zljn.J1 at h
 refine AW.z I (AW.ghost (Ghost.nilU 66 2) (AW.ghost (Ghost.pick [1, 0] (K := [.us (.slice none 0 0) 66 2 ([].map Piece.row), .us f 66 2 (i.map Piece.row)]) I (by decide)) ?_))
 obtain rfl := oi h
 exact AW.ret ⟨.inr I, [_], [.us (.slice none 0 0) 66 2 ([].map Piece.row), .us f 66 2 (i.map Piece.row)], ⟨I, J⟩, sl_c I (sl_c I (sl_n)), ⟨[.us (.slice none 0 0) 66 2 ([].map Piece.row)], [.us f 66 2 (i.map Piece.row)], I, I, f, I, I, I⟩⟩
theorem L.znde_ok (f : Value) (n : List Piece) (r : List Piece) (h : L.znde n = some r) : ACalls Tryz.env 148 [.v f] [.us f 66 2 (n.map Piece.row)] (Gives 1 (fun x os new => x = .tup [] ∧ os = [.us f 66 2 (r.map Piece.row)] ∧ new = [])) := by
 refine ACalls.of_body Tryz.func148 rfl rfl rfl (fun C hC => ?_)
 unfold L.znde at h
 refine AW.seqG (fun O t => (AW.region (AO.q 1 I (AO.d (Yd.lenUM 0 I I I I) I (AO.q 3 I (AO.nil ?_))))))
 subst t
 refine AW.block ?_
 obtain ⟨P, u, w⟩ := ob_some h
 clear h
 refine AW.loopX u [(0, _)] ⟨I, J⟩ (fun (c : (List Piece) × Int × Int) s ob => s = [(2, .V c.2.1), (3, .V c.2.2)] ∧ ob = [.us f 66 2 (c.1.map Piece.row)]) ⟨I, I⟩ ⟨I, I, J⟩ ⟨[0], I, by decide⟩ ?_
 rintro c A s ob ⟨rfl, rfl⟩ h B
 unfold L.znde.B1 at h
 refine AW.seqG (fun Q D => (AW.z I (AW.ch h I ?_ ?_)))
 intro E h
 refine AW.skip ?_
 subst D
 refine AW.cutX (fun s ob => ∃ (k : List Piece), L.znde.J2 c k = some A ∧ s = [] ∧ ob = [.us f 66 2 (k.map Piece.row)]) [(0, _), (2, _), (3, _)] ⟨I, I, I, J⟩ ?_ ?_
 refine AW.block ?_
 obtain ⟨b, F, h⟩ := ob_some h
 obtain ⟨G, i⟩ := ix_some F
 obtain ⟨a, H, h⟩ := ob_some h
 obtain ⟨l, e⟩ := ix_some H
 obtain ⟨g, K, h⟩ := ob_some h
 obtain ⟨o, j⟩ := ix_some K
 refine AW.form 0 b.1 I i (fun M => (AW.form 0 a.1 I e (fun N => (AW.form 0 a.1 I e (fun p => (AW.rd (.still 0 (.still 1 (.still 2 (.still 3 (.still 4 (.still 5 (.still 6 (.still 8 (.still 9 (.still 10 (.two 7 11 (.act 11 (.still 12 (.act 13 (.act 14 (.act 15 .nil))))) (.act 7 (.still 12 (.act 13 (.act 14 (.act 15 .nil)))))))))))))))) [] [] I (AP.q 6 I (AP.op I (Yp.indexUf (m := b.1) I I I I I M I G i) I (AP.q 2 I (AP.op I (Yp.indexUf (m := a.1) I I I I I N I l e) I (AP.two ?_ ?_)))))))))))
 refine AP.act [] I I I (AX.of_yd (Yd.loadU 0 b.1 0 I I I (map_get i) I (y := .agg (Piece.row b.2)) I) dS (AP.act [] I I I (AX.of_yd (Yd.loadU 0 a.1 0 I I I (map_get e) I (y := .agg (Piece.row a.2)) I) dS (AP.op I (Yp.indexUf (m := a.1) I I I I I p I l e) I (AP.act [0] I I I (AX.storeU 0 a.1 0 I I I (map_get e) I I I I (le_ble I) I (us_set (x := b.2) I) (AP.act [] I I I (AX.of_yd (Yd.indexU 0 (m := g.1) I I I I I I I o (map_get j)) dS (AP.act [0] I I I (AX.storeU 0 g.1 0 I I I (map_get j) I I I I (le_ble I) I (us_set (x := a.2) I) (AP.ofAO (AO.nil ?_))))))))))))
 exact lg ⟨((c.1.set a.1 b.2).set g.1 a.2), h, I, I⟩ [0]
 refine AP.act [] I I I (AX.of_yd (Yd.loadU 0 a.1 0 I I I (map_get e) I (y := .agg (Piece.row a.2)) I) dS (AP.act [] I I I (AX.of_yd (Yd.loadU 0 b.1 0 I I I (map_get i) I (y := .agg (Piece.row b.2)) I) dS (AP.op I (Yp.indexUf (m := a.1) I I I I I p I l e) I (AP.act [0] I I I (AX.storeU 0 a.1 0 I I I (map_get e) I I I I (le_ble I) I (us_set (x := b.2) I) (AP.act [] I I I (AX.of_yd (Yd.indexU 0 (m := g.1) I I I I I I I o (map_get j)) dS (AP.act [0] I I I (AX.storeU 0 g.1 0 I I I (map_get j) I I I I (le_ble I) I (us_set (x := a.2) I) (AP.ofAO (AO.nil ?_))))))))))))
 exact lg ⟨((c.1.set a.1 b.2).set g.1 a.2), h, I, I⟩ [0]
 rintro s ob ⟨k, h, rfl, rfl⟩
 unfold L.znde.J2 at h
 refine AW.region (AO.q 6 I ?_)
 obtain rfl := oi h
 refine AO.nil ?_
 exact ⟨_, _, _, I, ⟨I, I⟩, ⟨I, I, I, J⟩, [0], I, by decide⟩
 intro E h
 obtain rfl := B _ (oi h).symm
 replace h := w
 obtain rfl := oi h
 refine AW.exit ?_
 exact ⟨.inl I, [], [.us f 66 2 (c.1.map Piece.row)], J, sl_c I (sl_n), ⟨[.us f 66 2 (c.1.map Piece.row)], [], I, I, I, I, I⟩⟩
theorem L.zqks_ok (b : List Piece) (r : List Piece) (h : L.zqks b = some r) : ACalls Tryz.env 142 [.list 2 (b.map Piece.row)] [] (fun x new => ∃ (c : Value), x = .v c ∧ new = [.us c 66 2 (r.map Piece.row)]) := by
 refine ACalls.of_body Tryz.func142 rfl rfl rfl (fun C hC => ?_)
 unfold L.zqks at h
 refine AW.z I (AW.seq ?_)
 obtain ⟨g, d, h⟩ := ob_some h
 refine AW.region (AO.q 1 I (AO.act [] I (AX.call0 I I I (L.zgxj_ok _ _ d) dS ?_)))
 rintro _ _ ⟨a, rfl, rfl⟩
 refine AO.q 1 I (AO.nil (AW.seq ?_))
 obtain ⟨e, f, h⟩ := ob_some h
 refine AW.region (AO.q 1 I (AO.act [0] I (AX.c0 [0] (L.znde_ok a _ _ f) ?_)))
 refine AO.nil (AW.z I ?_)
 obtain rfl := oi h
 exact AW.ret ⟨.inr I, [_], [.us a 66 2 (e.map Piece.row)], ⟨I, J⟩, sl_c I (sl_n), ⟨a, I, I⟩⟩
theorem L.zwnh_ok (p : Nat) (a : Int) (b : Bool) : ACalls Tryz.env 127 [.v (.pointer (some ⟨p, 0, none⟩)), .V a, .v (.bool b)] [] (fun x new => x = .fn 136 [] [.eptr [.v (.pointer (some ⟨p, 0, none⟩))], .eptr [.V a], .eptr [.v (.bool b)]] ∧ new = []) := by
 refine ACalls.of_body Tryz.func127 rfl rfl rfl (fun C hC => ?_)
 refine AW.seq (AW.region (AO.act [] rfl (AX.box (cs := [.v (.pointer (some ⟨p, 0, none⟩))]) (m := 1) rfl rfl rfl (dst_some rfl) (fun c => AO.act [] rfl (AX.box (cs := [.V a]) (m := 1) rfl rfl rfl (dst_some rfl) (fun d => AO.act [] rfl (AX.box (cs := [.v (.bool b)]) (m := 1) rfl rfl rfl (dst_some rfl) (fun e => AO.q 1 rfl (AO.nil ?_)))))))))
 refine AW.seq (AW.region (AO.p (Yp.makeFunc rfl rfl) rfl (AO.q 1 rfl (AO.nil ?_))))
 refine AW.ghost (Ghost.freeze [0, 1, 2] rfl [(6, .fn 136 [] [.eptr [.v (.pointer (some ⟨p, 0, none⟩))], .eptr [.V a], .eptr [.v (.bool b)]])] ⟨⟨_, rfl, .fn (.rest _) (.cons (.box 0 rfl (.rest _)) (.cons (.box 1 rfl (.rest _)) (.cons (.box 2 rfl (.rest _)) .nil)))⟩, J⟩ (ob' := []) (.rest _)) ?_
 exact AW.ret ⟨.inr rfl, [_], [], ⟨rfl, J⟩, sl_n, rfl, rfl⟩
theorem L.zlug (p : Nat) {l : List Port} {q : List Int} {a : Int} {b : Bool} {r : List (Int × Int)} (h : L.zvgo l q a b = some r) :
  Itr Tryz.env 136 [.eptr [.v (.pointer (some ⟨p, 0, none⟩))], .eptr [.V a], .eptr [.v (.bool b)]] (RowAt p 2 7 (.list 3 (l.map Port.row)) (.list 1 (q.map rI))) (r.map fun x => [.V x.1, .V x.2]) := by
 refine ⟨_, _, Tryz.func136, rfl, rfl, rfl, fun C Y Kq X ob o hneed hround => ?_⟩
 unfold L.zvgo at h
 obtain ⟨f, hf⟩ : ∃ f, f = (fun (k : Nat) (x : Port) (acc : List (Int × Int)) => (ix q (k : Int)).bind fun r => if ((x.Node != a) || ((r.2 == 0) || (decide (r.2 > 0) != b))) = true then some acc else some (acc ++ [((k : Int), max r.2 (wr (0 - r.2)))])) := ⟨_, rfl⟩
 rw [← hf] at h
 have hg : ∀ k x a r, f k x a = some r → ∃ t, r = a ++ t := by
  intro k x a r hr
  rw [hf] at hr
  obtain ⟨z, _, hr⟩ := Option.bind_eq_some_iff.1 hr
  split at hr
  · cases hr; exact ⟨[], by simp⟩
  · cases hr; exact ⟨_, rfl⟩
 obtain ⟨A, ty, sz, cs, B, D, M⟩ := hneed 0 ob o
 refine AW.seq (AW.region (AO.q 4 rfl (AO.d (Yd.loadO (A + 1) 0 2 rfl rfl B rfl (by omega) (part_get rfl D)) rfl (AO.p (Yp.lenM rfl rfl rfl) rfl (AO.q 1 rfl (AO.nil ?_))))))
 refine AW.listMax 12 rfl (fun hm => ?_)
 replace hm : l.length ≤ 9223372036854775806 := by rw [List.length_map] at hm; omega
 refine AW.block ?_
 refine AW.loopW (fun m s j => ∃ k acc ob', k + m = l.length ∧ s = [(14, .V (k : Int)), (0, .v (.func (.yield Y.l) #[] #[])), (1, .eptr [.v (.pointer (some ⟨p, 0, none⟩))]), (2, .eptr [.V a]), (3, .eptr [.v (.bool b)]), (12, .list 3 (l.map Port.row)), (13, .V (l.length : Int))] ∧ j = Y.ob .ready none :: ob' ∧ Kq acc.length ob' ∧ forS f k (l.drop k) acc = some r) (m := l.length) ⟨0, [], ob, by simp, rfl, rfl, o, h⟩ ⟨⟨rfl, rfl, rfl, rfl, rfl, rfl, rfl, J⟩, OL.all (σ := ⟨[], _⟩)⟩ ?_
 rintro m s j ⟨k, acc, ob', hk, rfl, rfl, hJ, hfo⟩
 refine AW.z rfl ?_
 rcases Nat.lt_or_ge k l.length with hkl | hkl
 · have hc : decide ((k : Int) < (l.length : Int)) = true := decide_eq_true (by omega)
   refine AW.seq (AW.condK (v := true) rfl hc (AW.skip ?_))
   have hx : l[k]? = some l[k] := List.getElem?_eq_getElem hkl
   generalize l[k] = x at hx
   obtain ⟨acc', ha, hfo'⟩ := forS_at hx hfo
   obtain ⟨E, N, O, P, u, Q, F⟩ := hneed _ ob' hJ
   rw [hf] at ha
   obtain ⟨z, hz, ha⟩ := Option.bind_eq_some_iff.1 ha
   obtain ⟨G, H⟩ := ix_some hz
   have hkz : k = z.1 := by omega
   refine AW.seq ?_
   refine AW.block ?_
   refine AW.seq (AW.region (AO.q 1 rfl (AO.p (Yp.indexE (m := k) rfl rfl rfl rfl rfl rfl rfl (map_get hx)) rfl (AO.q 1 rfl (AO.act [] rfl (AX.alloc (cs := [.v (.string ⟨#[]⟩), .V 0, .V 0]) (m := 3) rfl rfl rfl rfl rfl (dst_some rfl) (fun w => AO.q 1 rfl (AO.act [(Y.ob .ready none :: ob').length] rfl (AX.storeLast (es' := [Port.row x]) 0 0 rfl rfl rfl rfl rfl rfl rfl (le_ble rfl) rfl (AO.nil ?_))))))))))
   refine AW.seq (AW.region (AO.q 4 rfl (AO.d (Yd.loadO (E + 1) 0 7 rfl rfl (by rw [List.getElem?_append_left (by have := (List.getElem?_eq_some_iff.1 u).1; simp; omega)]; exact u) rfl (by omega) (part_get rfl F)) rfl (AO.q 1 rfl (AO.p (Yp.indexE (m := z.1) rfl rfl rfl rfl rfl rfl G (map_get H)) rfl (AO.q 2 rfl (AO.nil ?_)))))))
   refine AW.seq ?_
   refine AW.cutX (fun s j => s = [(40, .v (.bool ((x.Node != a) || ((z.2 == 0) || (decide (z.2 > 0) != b)))))] ∧ j = (Y.ob .ready none :: ob') ++ [.arr w 90 3 1 [Port.row x]]) [(14, _), (0, _), (1, _), (2, _), (3, _), (12, _), (13, _), (5, _), (7, _)] ⟨rfl, rfl, rfl, rfl, rfl, rfl, rfl, rfl, rfl, J⟩ ?_ ?_
   · refine AW.region (AO.q 1 rfl (AO.d (Yd.loadO (Y.ob .ready none :: ob').length 0 1 rfl rfl List.getElem?_concat_length rfl rfl (y := .V x.Node) rfl) rfl (AO.q 3 rfl ?_)))
     rcases bt (x.Node != a) with g | g
     · refine AO.known 31 rfl g (AO.q 9 rfl (AO.nil ?_))
       exact ⟨_, _, ⟨rfl, rfl⟩, ⟨get_b (by rw [g]; rfl), rfl, rfl, rfl, rfl, rfl, rfl, rfl, rfl, rfl, J⟩, OL.all (σ := ⟨[], _⟩)⟩
     · refine AO.known 31 rfl g (AO.q 4 rfl ?_)
       rcases bt (z.2 == 0) with n | n
       · refine AO.known 35 rfl n (AO.q 5 rfl (AO.nil ?_))
         exact ⟨_, _, ⟨rfl, rfl⟩, ⟨get_b (by rw [g, n]; rfl), rfl, rfl, rfl, rfl, rfl, rfl, rfl, rfl, rfl, J⟩, OL.all (σ := ⟨[], _⟩)⟩
       · refine AO.known 35 rfl n (AO.q 3 rfl (AO.gt rfl rfl rfl (AO.p (Yp.neqB rfl rfl rfl rfl) rfl (AO.q 1 rfl (AO.nil ?_)))))
         exact ⟨_, _, ⟨rfl, rfl⟩, ⟨get_b (by rw [g, n]; rfl), rfl, rfl, rfl, rfl, rfl, rfl, rfl, rfl, rfl, J⟩, OL.all (σ := ⟨[], _⟩)⟩
   · rintro s j ⟨rfl, rfl⟩
     have hcw : wr ((k : Int) + 1) = ((k + 1 : Nat) : Int) := cast_wr hkl hm
     refine AW.cond rfl rfl (fun hb => ?_) (fun hb => ?_)
     · rw [if_pos hb] at ha
       obtain rfl := oi ha
       refine AW.exit (AW.region (AO.r 2 [.k 0 (k + 1 : Nat)] rfl ⟨hcw, J⟩ (AO.nil ?_)))
       exact ⟨m - 1, _, _, by omega, ⟨k + 1, acc, ob', by omega, rfl, rfl, hJ, hfo'⟩, ⟨rfl, rfl, rfl, rfl, rfl, rfl, rfl, J⟩, OL.app⟩
     · rw [if_neg (by simp [hb])] at ha
       obtain rfl := oi ha
       obtain ⟨t, ht⟩ := gather hg _ _ _ _ hfo'
       refine AW.skip ?_
       have hv : (r.map fun x => [T.V x.1, T.V x.2])[acc.length]? = some [T.V (k : Int), T.V (max z.2 (wr (0 - z.2)))] := by
        rw [ht]; simp
       refine AW.seq (AW.region (AO.q 6 rfl (AO.yield (its := [.arr w 90 3 1 [Port.row x]]) (hround _ _ _ hv hJ) rfl rfl rfl ?_ ?_)))
       · intro i K
         refine AO.q 1 rfl (AO.nil ?_)
         refine AW.condK (v := false) rfl rfl (AW.skip ?_)
         refine AW.region (AO.r 2 [.k 0 (k + 1 : Nat)] rfl ⟨hcw, J⟩ (AO.nil ?_))
         exact ⟨m - 1, _, _, by omega, ⟨k + 1, _, i, by omega, rfl, rfl, by simpa using K, hfo'⟩, ⟨rfl, rfl, rfl, rfl, rfl, rfl, rfl, J⟩, OL.app (l := Y.ob .ready none :: i)⟩
       · intro e c i hj hX
         refine AO.q 1 rfl (AO.nil ?_)
         refine AW.condK (v := true) rfl rfl (AW.ret ?_)
         exact ⟨.inr rfl, [], Y.ob .done (some c) :: i, J, List.sublist_append_left (Y.ob .done (some c) :: i) _, .inr ⟨e, c, i, hj, hX, rfl⟩⟩
 · have hc : decide ((k : Int) < (l.length : Int)) = false := decide_eq_false (by omega)
   refine AW.seq (AW.condK (v := false) rfl hc (AW.exit ?_))
   have hke : k = l.length := by omega
   subst hke
   rw [List.drop_length] at hfo
   simp only [forS, Option.some.injEq] at hfo
   subst hfo
   exact ⟨.inl rfl, [], Y.ob .ready none :: ob', J, List.Sublist.refl _, .inl ⟨ob', by simpa using hJ, rfl⟩⟩
theorem L.zagr_ok (p : Nat) (a : Int) (b : Bool) : ACalls Tryz.env 128 [.v (.pointer (some ⟨p, 0, none⟩)), .V a, .v (.bool b)] [] (fun x new => x = .fn 137 [] [.eptr [.v (.pointer (some ⟨p, 0, none⟩))], .eptr [.v (.bool b)], .eptr [.V a]] ∧ new = []) := by
 refine ACalls.of_body Tryz.func128 rfl rfl rfl (fun C hC => ?_)
 refine AW.seq (AW.region (AO.act [] rfl (AX.box (cs := [.v (.pointer (some ⟨p, 0, none⟩))]) (m := 1) rfl rfl rfl (dst_some rfl) (fun c => AO.act [] rfl (AX.box (cs := [.V a]) (m := 1) rfl rfl rfl (dst_some rfl) (fun d => AO.act [] rfl (AX.box (cs := [.v (.bool b)]) (m := 1) rfl rfl rfl (dst_some rfl) (fun e => AO.q 1 rfl (AO.nil ?_)))))))))
 refine AW.seq (AW.region (AO.p (Yp.makeFunc rfl rfl) rfl (AO.q 1 rfl (AO.nil ?_))))
 refine AW.ghost (Ghost.freeze [0, 1, 2] rfl [(6, .fn 137 [] [.eptr [.v (.pointer (some ⟨p, 0, none⟩))], .eptr [.v (.bool b)], .eptr [.V a]])] ⟨⟨_, rfl, .fn (.rest _) (.cons (.box 0 rfl (.rest _)) (.cons (.box 2 rfl (.rest _)) (.cons (.box 1 rfl (.rest _)) .nil)))⟩, J⟩ (ob' := []) (.rest _)) ?_
 exact AW.ret ⟨.inr rfl, [_], [], ⟨rfl, J⟩, sl_n, rfl, rfl⟩
theorem L.zytf (p : Nat) {l : List Segment} {q : List Int} {a : Int} {b : Bool} {r : List (Int × Int)} (h : L.zxub l q a b = some r) :
  Itr Tryz.env 137 [.eptr [.v (.pointer (some ⟨p, 0, none⟩))], .eptr [.v (.bool b)], .eptr [.V a]] (RowAt p 1 6 (.list 7 (l.map Segment.row)) (.list 1 (q.map rI))) (r.map fun x => [.V x.1, .V x.2]) := by
 refine ⟨_, _, Tryz.func137, rfl, rfl, rfl, fun C Y Kq X ob o hneed hround => ?_⟩
 unfold L.zxub at h
 obtain ⟨f, hf⟩ : ∃ f, f = (fun (k : Nat) (x : Segment) (acc : List (Int × Int)) => (ix q (k : Int)).bind fun r => if (((r.2 == 0) || (b && ((L.ztzg x r.2).2 != a))) || (!b && ((L.ztzg x r.2).1 != a))) = true then some acc else some (acc ++ [((k : Int), max r.2 (wr (0 - r.2)))])) := ⟨_, rfl⟩
 rw [← hf] at h
 have hg : ∀ k x a r, f k x a = some r → ∃ t, r = a ++ t := by
  intro k x a r hr
  rw [hf] at hr
  obtain ⟨z, _, hr⟩ := Option.bind_eq_some_iff.1 hr
  split at hr
  · cases hr; exact ⟨[], by simp⟩
  · cases hr; exact ⟨_, rfl⟩
 obtain ⟨A, ty, sz, cs, B, D, M⟩ := hneed 0 ob o
 refine AW.seq (AW.region (AO.q 4 rfl (AO.d (Yd.loadO (A + 1) 0 1 rfl rfl B rfl (by omega) (part_get rfl D)) rfl (AO.p (Yp.lenM rfl rfl rfl) rfl (AO.q 1 rfl (AO.nil ?_))))))
 refine AW.listMax 14 rfl (fun hm => ?_)
 replace hm : l.length ≤ 9223372036854775806 := by rw [List.length_map] at hm; omega
 refine AW.block ?_
 refine AW.loopW (fun m s j => ∃ k acc ob', k + m = l.length ∧ s = [(16, .V (k : Int)), (0, .v (.func (.yield Y.l) #[] #[])), (1, .eptr [.v (.pointer (some ⟨p, 0, none⟩))]), (2, .eptr [.v (.bool b)]), (3, .eptr [.V a]), (14, .list 7 (l.map Segment.row)), (15, .V (l.length : Int))] ∧ j = Y.ob .ready none :: ob' ∧ Kq acc.length ob' ∧ forS f k (l.drop k) acc = some r) (m := l.length) ⟨0, [], ob, by simp, rfl, rfl, o, h⟩ ⟨⟨rfl, rfl, rfl, rfl, rfl, rfl, rfl, J⟩, OL.all (σ := ⟨[], _⟩)⟩ ?_
 rintro m s j ⟨k, acc, ob', hk, rfl, rfl, hJ, hfo⟩
 refine AW.z rfl ?_
 rcases Nat.lt_or_ge k l.length with hkl | hkl
 · have hc : decide ((k : Int) < (l.length : Int)) = true := decide_eq_true (by omega)
   refine AW.seq (AW.condK (v := true) rfl hc (AW.skip ?_))
   have hx : l[k]? = some l[k] := List.getElem?_eq_getElem hkl
   generalize l[k] = x at hx
   obtain ⟨acc', ha, hfo'⟩ := forS_at hx hfo
   obtain ⟨E, O, P, Q, u, R, F⟩ := hneed _ ob' hJ
   rw [hf] at ha
   obtain ⟨z, hz, ha⟩ := Option.bind_eq_some_iff.1 ha
   obtain ⟨G, H⟩ := ix_some hz
   have hkz : k = z.1 := by omega
   refine AW.seq ?_
   refine AW.block ?_
   refine AW.seq (AW.region (AO.q 1 rfl (AO.p (Yp.indexE (m := k) rfl rfl rfl rfl rfl rfl rfl (map_get hx)) rfl (AO.q 1 rfl (AO.act [] rfl (AX.alloc (cs := [.v (.string ⟨#[]⟩), .V 0, .V 0, .V 0, .V 0, .V 0, .N]) (m := 7) rfl rfl rfl rfl rfl (dst_some rfl) (fun w => AO.q 1 rfl (AO.act [(Y.ob .ready none :: ob').length] rfl (AX.storeLast (es' := [Segment.row x]) 0 0 rfl rfl rfl rfl rfl rfl rfl (le_ble rfl) rfl (AO.nil ?_))))))))))
   refine AW.seq (AW.region (AO.q 4 rfl (AO.d (Yd.loadO (E + 1) 0 6 rfl rfl (by rw [List.getElem?_append_left (by have := (List.getElem?_eq_some_iff.1 u).1; simp; omega)]; exact u) rfl (by omega) (part_get rfl F)) rfl (AO.q 1 rfl (AO.p (Yp.indexE (m := z.1) rfl rfl rfl rfl rfl rfl G (map_get H)) rfl (AO.q 2 rfl (AO.nil ?_)))))))
   refine AW.seq (AW.region (AO.d (Yd.loadO (Y.ob .ready none :: ob').length 0 0 rfl rfl List.getElem?_concat_length rfl rfl (y := .agg (Segment.row x)) rfl) rfl (AO.q 1 rfl (AO.c (L.ztzg_ok x z.2 _ rfl) (AO.q 5 rfl (AO.nil ?_))))))
   refine AW.seq ?_
   refine AW.cutX (fun s j => s = [(53, .v (.bool (((z.2 == 0) || (b && ((L.ztzg x z.2).2 != a))) || (!b && ((L.ztzg x z.2).1 != a)))))] ∧ j = (Y.ob .ready none :: ob') ++ [.arr w 39 7 1 [Segment.row x]]) [(16, _), (0, _), (1, _), (2, _), (3, _), (14, _), (15, _), (5, _), (7, _)] ⟨rfl, rfl, rfl, rfl, rfl, rfl, rfl, rfl, rfl, J⟩ ?_ ?_
   · refine AW.region (AO.q 3 rfl ?_)
     rcases bt (z.2 == 0) with g | g
     · refine AO.known 37 rfl g (AO.q 2 rfl (AO.skipU rfl rfl (dst_some rfl) (AO.skipU rfl rfl (dst_some rfl) (AO.skipU rfl rfl (dst_some rfl) (AO.q 6 rfl (AO.skipU rfl rfl (dst_some rfl) (AO.skipU rfl rfl (dst_some rfl) (AO.skipU rfl rfl (dst_some rfl) (AO.q 2 rfl (AO.nil ?_))))))))))
       exact ⟨_, _, ⟨rfl, rfl⟩, ⟨get_b (by simp [g]), rfl, rfl, rfl, rfl, rfl, rfl, rfl, rfl, rfl, J⟩, OL.all (σ := ⟨[], _⟩)⟩
     · cases b
       · refine AO.known 37 rfl g (AO.q 8 rfl (AO.q 3 rfl (AO.known 48 rfl rfl (AO.q 5 rfl (AO.nil ?_)))))
         exact ⟨_, _, ⟨rfl, rfl⟩, ⟨get_b (by simp [g]), rfl, rfl, rfl, rfl, rfl, rfl, rfl, rfl, rfl, J⟩, OL.all (σ := ⟨[], _⟩)⟩
       · refine AO.known 37 rfl g (AO.q 8 rfl (?_))
         rcases bt ((L.ztzg x z.2).2 != a) with n | n
         · refine AO.known 45 rfl n (AO.q 3 rfl (AO.skipU rfl rfl (dst_some rfl) (AO.skipU rfl rfl (dst_some rfl) (AO.skipU rfl rfl (dst_some rfl) (AO.q 2 rfl (AO.nil ?_))))))
           exact ⟨_, _, ⟨rfl, rfl⟩, ⟨get_b (by simp [g, n]), rfl, rfl, rfl, rfl, rfl, rfl, rfl, rfl, rfl, J⟩, OL.all (σ := ⟨[], _⟩)⟩
         · refine AO.known 45 rfl n (AO.q 3 rfl (AO.known 48 rfl rfl (AO.q 3 rfl (AO.q 2 rfl (AO.nil ?_)))))
           exact ⟨_, _, ⟨rfl, rfl⟩, ⟨get_b (by simp [g, n]), rfl, rfl, rfl, rfl, rfl, rfl, rfl, rfl, rfl, J⟩, OL.all (σ := ⟨[], _⟩)⟩
   · rintro s j ⟨rfl, rfl⟩
     have hcw : wr ((k : Int) + 1) = ((k + 1 : Nat) : Int) := cast_wr hkl hm
     refine AW.cond rfl rfl (fun hb => ?_) (fun hb => ?_)
     · rw [if_pos hb] at ha
       obtain rfl := oi ha
       refine AW.exit (AW.region (AO.r 2 [.k 0 (k + 1 : Nat)] rfl ⟨hcw, J⟩ (AO.nil ?_)))
       exact ⟨m - 1, _, _, by omega, ⟨k + 1, acc, ob', by omega, rfl, rfl, hJ, hfo'⟩, ⟨rfl, rfl, rfl, rfl, rfl, rfl, rfl, J⟩, OL.app⟩
     · rw [if_neg (by simp [hb])] at ha
       obtain rfl := oi ha
       obtain ⟨t, ht⟩ := gather hg _ _ _ _ hfo'
       refine AW.skip ?_
       have hv : (r.map fun x => [T.V x.1, T.V x.2])[acc.length]? = some [T.V (k : Int), T.V (max z.2 (wr (0 - z.2)))] := by
        rw [ht]; simp
       refine AW.seq (AW.region (AO.q 6 rfl (AO.yield (its := [.arr w 39 7 1 [Segment.row x]]) (hround _ _ _ hv hJ) rfl rfl rfl ?_ ?_)))
       · intro i K
         refine AO.q 1 rfl (AO.nil ?_)
         refine AW.condK (v := false) rfl rfl (AW.skip ?_)
         refine AW.region (AO.r 2 [.k 0 (k + 1 : Nat)] rfl ⟨hcw, J⟩ (AO.nil ?_))
         exact ⟨m - 1, _, _, by omega, ⟨k + 1, _, i, by omega, rfl, rfl, by simpa using K, hfo'⟩, ⟨rfl, rfl, rfl, rfl, rfl, rfl, rfl, J⟩, OL.app (l := Y.ob .ready none :: i)⟩
       · intro e c i hj hX
         refine AO.q 1 rfl (AO.nil ?_)
         refine AW.condK (v := true) rfl rfl (AW.ret ?_)
         exact ⟨.inr rfl, [], Y.ob .done (some c) :: i, J, List.sublist_append_left (Y.ob .done (some c) :: i) _, .inr ⟨e, c, i, hj, hX, rfl⟩⟩
 · have hc : decide ((k : Int) < (l.length : Int)) = false := decide_eq_false (by omega)
   refine AW.seq (AW.condK (v := false) rfl hc (AW.exit ?_))
   have hke : k = l.length := by omega
   subst hke
   rw [List.drop_length] at hfo
   simp only [forS, Option.some.injEq] at hfo
   subst hfo
   exact ⟨.inl rfl, [], Y.ob .ready none :: ob', J, List.Sublist.refl _, .inl ⟨ob', by simpa using hJ, rfl⟩⟩
theorem L.zyjw_ok (b : Nat) (a : advance_line) (w0_0 : Value) (w0_1 : Value) (w0_2 : Value) (k : Int) (r : (List Piece) × ((List (List Piece)) × (List (List Piece)) × (List (List Piece)))) (h : L.zyjw a k = some r) : ACalls Tryz.env 126 [.v (.pointer (some ⟨b, 0, none⟩)), .V k] [.arr b 131 14 1 [[.list 1 (a.n_.Nodes.map rS), .list 7 (a.n_.Segments.map Segment.row), .list 3 (a.n_.Ports.map Port.row), .list 5 (a.n_.Stations.map Station.row), .V a.n_.Vapour, .V a.n_.Settle, .list 1 (a.p.Rates.map rI), .list 1 (a.p.Ports.map rI), .list 1 (a.p.Pumps.map rB), .list 1 (a.feeds.map rI), .list 1 (a.order.map rI), .v w0_0, .v w0_1, .v w0_2]], .us w0_0 35 1 (a.fills.map (rL 2 Piece.row)), .us w0_1 35 1 (a.given.map (rL 2 Piece.row)), .us w0_2 35 1 (a.out_.map (rL 2 Piece.row))] (Gives 4 (fun x os new => ∃ (n : Value) (u1_0 : Value) (u1_1 : Value) (u1_2 : Value), x = .v n ∧ os = [.arr b 131 14 1 [[.list 1 (a.n_.Nodes.map rS), .list 7 (a.n_.Segments.map Segment.row), .list 3 (a.n_.Ports.map Port.row), .list 5 (a.n_.Stations.map Station.row), .V a.n_.Vapour, .V a.n_.Settle, .list 1 (a.p.Rates.map rI), .list 1 (a.p.Ports.map rI), .list 1 (a.p.Pumps.map rB), .list 1 (a.feeds.map rI), .list 1 (a.order.map rI), .v u1_0, .v u1_1, .v u1_2]], .us u1_0 35 1 (r.2.1.map (rL 2 Piece.row)), .us u1_1 35 1 (r.2.2.1.map (rL 2 Piece.row)), .us u1_2 35 1 (r.2.2.2.map (rL 2 Piece.row))] ∧ new = [.us n 66 2 (r.1.map Piece.row)])) := by
 refine ACalls.of_body Tryz.func126 rfl rfl rfl (fun C hC => ?_)
 unfold L.zyjw at h
 refine AW.seqG (fun y1 B => (AW.region (AO.act [] I (AX.box (cs := [.v (.pointer (some ⟨b, 0, none⟩))]) (m := 1) I I I dS (fun s => (AO.q 1 I (AO.nil ?_)))))))
 subst B
 refine AW.seqG (fun y3 D => (AW.region (AO.act [] I (AX.alloc (cs := [.N]) (m := 1) I I I I I dS (fun t => (AO.nil ?_))))))
 subst D
 refine AW.seqG (fun y5 E => (AW.seqG (fun y6 F => (AW.region (AO.r 2 [.o 0 4] I ⟨I, J⟩ (AO.act [] I (AX.call0 I I I (L.zwnh_ok _ _ _) dS ?_)))))))
 rintro _ _ ⟨rfl, rfl⟩
 refine AO.nil ?_
 subst F
 refine AW.block ?_
 obtain ⟨l7, G, h⟩ := ob_some h
 refine AW.ghost (Ghost.nilU 66 2) ?_
 obtain ⟨al, H, M⟩ := ob_some h
 clear h
 refine AW.rangeY H (L.zlug b G) (fun x => [.V x.1, .V x.2]) I I (fun _ => I) I I I (fun (O : Nat) (i : List Piece) ob => ∃ (d : Value), ob = [.arr b 131 14 1 [[.list 1 (a.n_.Nodes.map rS), .list 7 (a.n_.Segments.map Segment.row), .list 3 (a.n_.Ports.map Port.row), .list 5 (a.n_.Stations.map Station.row), .V a.n_.Vapour, .V a.n_.Settle, .list 1 (a.p.Rates.map rI), .list 1 (a.p.Ports.map rI), .list 1 (a.p.Pumps.map rB), .list 1 (a.feeds.map rI), .list 1 (a.order.map rI), .v w0_0, .v w0_1, .v w0_2]], .us w0_0 35 1 (a.fills.map (rL 2 Piece.row)), .us w0_1 35 1 (a.given.map (rL 2 Piece.row)), .us w0_2 35 1 (a.out_.map (rL 2 Piece.row)), .arr s 126 1 1 [[.v (.pointer (some ⟨b, 0, none⟩))]], .arr t 35 1 1 [[.v d]], .us d 66 2 (i.map Piece.row)]) ⟨(.slice none 0 0), I⟩ ⟨[0, 1, 2, 3, 4, 5, 6], I, by decide⟩ (by rintro _ _ _ ⟨d, rfl⟩; exact ⟨0, _, _, _, rfl, rfl, rfl⟩) (fun _ _ _ => AW.z I (AW.region (AO.q 1 I (AO.nil ⟨I, I⟩)))) ?_ ?_
 rintro C1 O u i am ob an ao ⟨d, rfl⟩ h
 unfold L.zyjw.B1 at h
 refine AW.block ?_
 obtain ⟨f, P, h⟩ := ob_some h
 obtain ⟨Q, R⟩ := ix_some P
 obtain ⟨ap, S, h⟩ := ob_some h
 refine AW.rd (.still 0 (.still 1 (.still 2 (.still 3 (.still 4 (.still 5 (.still 6 (.still 7 (.still 8 (.still 9 (.act 10 (.act 11 (.drop 12 .nil))))))))))))) [5, 4, 0] [_, _, _] I (AP.r 9 [.o 0 0, .o 1 1, .o 4 2, .x 6 f.1 (rI f.2)] I ⟨⟨Q, map_get R⟩, I, I, I, J⟩ (AP.op I (Yp.buildP (l := [.V f.2, .V u.2]) Tryz.bld66 I) I (AP.act [] I I I (AX.lt 2 (([(⟨f.2, u.2⟩ : Piece)] : List Piece).map Piece.row) (AP.act [6] I I I (AX.cg [6] (L.zljn_ok d _ _ _ S) ?_))))))
 rintro _ _ _ - ⟨w, rfl, rfl, rfl⟩
 refine AP.one 7 I (fun U => (AP.drop [5] I I I (AX.store 5 0 0 (es' := [[.v w]]) I I I I I I (cells_v U) I (le_ble I) I I (AP.ofAO ?_))))
 obtain rfl := oi h
 refine AO.nil ?_
 exact ⟨_, ⟨w, I⟩, [0, 1, 2, 3, 4, 5, 7], I, by decide⟩
 rintro i ob ⟨d, rfl⟩ he
 subst he
 have h := M
 refine VS.ret ?_
 subst E
 refine AW.seq (AW.seqG (fun aq W => (AW.region (AO.r 2 [.o 0 4] I ⟨I, J⟩ (AO.act [] I (AX.call0 I I I (L.zagr_ok _ _ _) dS ?_))))))
 rintro _ _ ⟨rfl, rfl⟩
 refine AO.nil ?_
 subst W
 refine AW.block ?_
 obtain ⟨ar, X, h⟩ := ob_some h
 obtain ⟨au, Y, Z⟩ := ob_some h
 clear h
 refine AW.rangeY Y (L.zytf b X) (fun x => [.V x.1, .V x.2]) I I (fun _ => I) I I I (fun (aa : Nat) (e : List Piece) ob => ∃ (c : Value), ob = [.arr b 131 14 1 [[.list 1 (a.n_.Nodes.map rS), .list 7 (a.n_.Segments.map Segment.row), .list 3 (a.n_.Ports.map Port.row), .list 5 (a.n_.Stations.map Station.row), .V a.n_.Vapour, .V a.n_.Settle, .list 1 (a.p.Rates.map rI), .list 1 (a.p.Ports.map rI), .list 1 (a.p.Pumps.map rB), .list 1 (a.feeds.map rI), .list 1 (a.order.map rI), .v w0_0, .v w0_1, .v w0_2]], .us w0_0 35 1 (a.fills.map (rL 2 Piece.row)), .us w0_1 35 1 (a.given.map (rL 2 Piece.row)), .us w0_2 35 1 (a.out_.map (rL 2 Piece.row)), .arr s 126 1 1 [[.v (.pointer (some ⟨b, 0, none⟩))]], .arr t 35 1 1 [[.v c]], .us c 66 2 (e.map Piece.row)]) ⟨d, I⟩ ⟨[0, 1, 2, 3, 4, 5, 6], I, by decide⟩ (by rintro _ _ _ ⟨c, rfl⟩; exact ⟨0, _, _, _, rfl, rfl, rfl⟩) (fun _ _ _ => AW.region (AO.q 1 I (AO.nil ⟨I, I⟩))) ?_ ?_
 rintro C1 aa av e aw ob ax ay ⟨c, rfl⟩ h
 unfold L.zyjw.B2 at h
 refine AW.block ?_
 obtain ⟨g, ab, h⟩ := ob_some h
 obtain ⟨ac, j⟩ := ix_some ab
 obtain ⟨az, ad, h⟩ := ob_some h
 refine AW.form 2 g.1 I j (fun ae => (AW.rd (.still 0 (.still 1 (.still 2 (.still 3 (.still 4 (.still 5 (.still 6 (.still 7 (.act 8 (.drop 9 .nil)))))))))) [5, 4, 0, 2] [_, _, _, _] I (AP.r 6 [.o 0 0, .o 1 1, .o 4 2] I ⟨I, I, I, J⟩ (AP.op I (Yp.indexUf (m := g.1) I I I I I ae I ac j) I (AP.o I (Yd.loadU 3 g.1 0 I I I (map_get j) I (y := .list 2 (g.2.map Piece.row)) I) I (AP.act [6] I I I (AX.cg [6] (L.zljn_ok c _ _ _ ad) ?_)))))))
 rintro _ _ _ - ⟨A, rfl, rfl, rfl⟩
 refine AP.one 7 I (fun af => (AP.drop [5] I I I (AX.store 5 0 0 (es' := [[.v A]]) I I I I I I (cells_v af) I (le_ble I) I I (AP.ofAO ?_))))
 obtain rfl := oi h
 refine AO.nil ?_
 exact ⟨_, ⟨A, I⟩, [0, 1, 2, 3, 4, 5, 7], I, by decide⟩
 rintro e ob ⟨c, rfl⟩ he
 subst he
 have h := Z
 refine VS.ret (AW.zr [.o 0 5] I ⟨I, J⟩ (AW.ghost (Ghost.pick [0, 1, 2, 3, 6] (K := [.arr b 131 14 1 [[.list 1 (a.n_.Nodes.map rS), .list 7 (a.n_.Segments.map Segment.row), .list 3 (a.n_.Ports.map Port.row), .list 5 (a.n_.Stations.map Station.row), .V a.n_.Vapour, .V a.n_.Settle, .list 1 (a.p.Rates.map rI), .list 1 (a.p.Ports.map rI), .list 1 (a.p.Pumps.map rB), .list 1 (a.feeds.map rI), .list 1 (a.order.map rI), .v w0_0, .v w0_1, .v w0_2]], .us w0_0 35 1 (a.fills.map (rL 2 Piece.row)), .us w0_1 35 1 (a.given.map (rL 2 Piece.row)), .us w0_2 35 1 (a.out_.map (rL 2 Piece.row)), .us c 66 2 (e.map Piece.row)]) I (by decide)) ?_))
 obtain rfl := oi h
 exact AW.ret ⟨.inr I, [_], [.arr b 131 14 1 [[.list 1 (a.n_.Nodes.map rS), .list 7 (a.n_.Segments.map Segment.row), .list 3 (a.n_.Ports.map Port.row), .list 5 (a.n_.Stations.map Station.row), .V a.n_.Vapour, .V a.n_.Settle, .list 1 (a.p.Rates.map rI), .list 1 (a.p.Ports.map rI), .list 1 (a.p.Pumps.map rB), .list 1 (a.feeds.map rI), .list 1 (a.order.map rI), .v w0_0, .v w0_1, .v w0_2]], .us w0_0 35 1 (a.fills.map (rL 2 Piece.row)), .us w0_1 35 1 (a.given.map (rL 2 Piece.row)), .us w0_2 35 1 (a.out_.map (rL 2 Piece.row)), .us c 66 2 (e.map Piece.row)], ⟨I, J⟩, sl_c I (sl_c I (sl_c I (sl_c I (sl_c I (sl_n))))), ⟨[.arr b 131 14 1 [[.list 1 (a.n_.Nodes.map rS), .list 7 (a.n_.Segments.map Segment.row), .list 3 (a.n_.Ports.map Port.row), .list 5 (a.n_.Stations.map Station.row), .V a.n_.Vapour, .V a.n_.Settle, .list 1 (a.p.Rates.map rI), .list 1 (a.p.Ports.map rI), .list 1 (a.p.Pumps.map rB), .list 1 (a.feeds.map rI), .list 1 (a.order.map rI), .v w0_0, .v w0_1, .v w0_2]], .us w0_0 35 1 (a.fills.map (rL 2 Piece.row)), .us w0_1 35 1 (a.given.map (rL 2 Piece.row)), .us w0_2 35 1 (a.out_.map (rL 2 Piece.row))], [.us c 66 2 (e.map Piece.row)], I, I, c, w0_0, w0_1, w0_2, I, I, I⟩⟩
theorem L.znry_ok (c : Nat) (a : advance_line) (w0_0 : Value) (w0_1 : Value) (w0_2 : Value) (k : Int) (n : List Piece) (r : Int × ((List (List Piece)) × (List (List Piece)) × (List (List Piece)))) (h : L.znry a k n = some r) : ACalls Tryz.env 130 [.v (.pointer (some ⟨c, 0, none⟩)), .V k, .list 2 (n.map Piece.row)] [.arr c 131 14 1 [[.list 1 (a.n_.Nodes.map rS), .list 7 (a.n_.Segments.map Segment.row), .list 3 (a.n_.Ports.map Port.row), .list 5 (a.n_.Stations.map Station.row), .V a.n_.Vapour, .V a.n_.Settle, .list 1 (a.p.Rates.map rI), .list 1 (a.p.Ports.map rI), .list 1 (a.p.Pumps.map rB), .list 1 (a.feeds.map rI), .list 1 (a.order.map rI), .v w0_0, .v w0_1, .v w0_2]], .us w0_0 35 1 (a.fills.map (rL 2 Piece.row)), .us w0_1 35 1 (a.given.map (rL 2 Piece.row)), .us w0_2 35 1 (a.out_.map (rL 2 Piece.row))] (Gives 4 (fun x os new => ∃ (u1_0 : Value) (u1_1 : Value) (u1_2 : Value), x = .V r.1 ∧ os = [.arr c 131 14 1 [[.list 1 (a.n_.Nodes.map rS), .list 7 (a.n_.Segments.map Segment.row), .list 3 (a.n_.Ports.map Port.row), .list 5 (a.n_.Stations.map Station.row), .V a.n_.Vapour, .V a.n_.Settle, .list 1 (a.p.Rates.map rI), .list 1 (a.p.Ports.map rI), .list 1 (a.p.Pumps.map rB), .list 1 (a.feeds.map rI), .list 1 (a.order.map rI), .v u1_0, .v u1_1, .v u1_2]], .us u1_0 35 1 (r.2.1.map (rL 2 Piece.row)), .us u1_1 35 1 (r.2.2.1.map (rL 2 Piece.row)), .us u1_2 35 1 (r.2.2.2.map (rL 2 Piece.row))] ∧ new = [])) := by
 refine ACalls.of_body Tryz.func130 rfl rfl rfl (fun C hC => ?_)
 unfold L.znry at h
 refine AW.z I (AW.seqG (fun y2 E => ?_))
 obtain ⟨t, F, h⟩ := ob_some h
 obtain ⟨G, H⟩ := ix_some F
 refine AW.tr [.o 4 0, .x 6 t.1 (rI t.2)] I ⟨⟨G, map_get H⟩, I, J⟩ ?_
 subst E
 refine AW.cutX (fun s ob => ∃ (u : List Piece), L.znry.J1 a k t u = some r ∧ s = [(2, .list 2 (u.map Piece.row))] ∧ ob = [.arr c 131 14 1 [[.list 1 (a.n_.Nodes.map rS), .list 7 (a.n_.Segments.map Segment.row), .list 3 (a.n_.Ports.map Port.row), .list 5 (a.n_.Stations.map Station.row), .V a.n_.Vapour, .V a.n_.Settle, .list 1 (a.p.Rates.map rI), .list 1 (a.p.Ports.map rI), .list 1 (a.p.Pumps.map rB), .list 1 (a.feeds.map rI), .list 1 (a.order.map rI), .v w0_0, .v w0_1, .v w0_2]], .us w0_0 35 1 (a.fills.map (rL 2 Piece.row)), .us w0_1 35 1 (a.given.map (rL 2 Piece.row)), .us w0_2 35 1 (a.out_.map (rL 2 Piece.row))]) [(0, _), (1, _), (7, _)] ⟨I, I, I, J⟩ ?_ ?_
 refine AW.z I (AW.ch h I ?_ ?_)
 intro M h
 obtain ⟨l, N, h⟩ := ob_some h
 refine AW.region (AO.q 1 I (AO.act [] I (AX.call0 I I I (L.zqks_ok _ _ N) dS ?_)))
 rintro _ _ ⟨O, rfl, rfl⟩
 refine AO.q 1 I (AO.ghost (Ghost.freeze [4] (K := [.us O 66 2 (l.map Piece.row)]) I [(2, .list 2 (l.map Piece.row)), (23, .list 2 (l.map Piece.row))] ⟨⟨_, I, .us 0 I⟩, ⟨_, I, .us 0 I⟩, J⟩ (ob' := [.arr c 131 14 1 [[.list 1 (a.n_.Nodes.map rS), .list 7 (a.n_.Segments.map Segment.row), .list 3 (a.n_.Ports.map Port.row), .list 5 (a.n_.Stations.map Station.row), .V a.n_.Vapour, .V a.n_.Settle, .list 1 (a.p.Rates.map rI), .list 1 (a.p.Ports.map rI), .list 1 (a.p.Pumps.map rB), .list 1 (a.feeds.map rI), .list 1 (a.order.map rI), .v w0_0, .v w0_1, .v w0_2]], .us w0_0 35 1 (a.fills.map (rL 2 Piece.row)), .us w0_1 35 1 (a.given.map (rL 2 Piece.row)), .us w0_2 35 1 (a.out_.map (rL 2 Piece.row))]) (.rest _)) (AO.nil ?_))
 exact lg ⟨l, h, I, I⟩ [0, 1, 2, 3]
 intro M h
 refine AW.skip ?_
 exact lg ⟨n, h, I, I⟩ [0, 1, 2, 3]
 rintro s ob ⟨u, h, rfl, rfl⟩
 unfold L.znry.J1 at h
 refine AW.seqG (fun af P => ?_)
 obtain ⟨e, Q, h⟩ := ob_some h
 obtain ⟨B, g⟩ := ix_some Q
 obtain ⟨b, R, h⟩ := ob_some h
 refine AW.region (AO.r 5 [.o 3 0] I ⟨I, J⟩ (AO.d (Yd.indexU 1 (m := e.1) I I I I I I I B (map_get g)) I (AO.d (Yd.loadU 1 e.1 0 I I I (map_get g) I (y := .list 2 (e.2.map Piece.row)) I) I (AO.q 2 I (AO.act [] I (AX.call0 I I I (L.zbil_ok _ _ _ _ R) dS ?_))))))
 rintro _ _ ⟨w, D, rfl, rfl⟩
 refine AO.q 7 I (AO.nil ?_)
 subst P
 refine AW.seqG (fun ag S => (AW.z I (AW.ch h I ?_ ?_)))
 intro U h
 refine AW.z I (AW.ghost (Ghost.pick [0, 1, 2, 3] (K := [.arr c 131 14 1 [[.list 1 (a.n_.Nodes.map rS), .list 7 (a.n_.Segments.map Segment.row), .list 3 (a.n_.Ports.map Port.row), .list 5 (a.n_.Stations.map Station.row), .V a.n_.Vapour, .V a.n_.Settle, .list 1 (a.p.Rates.map rI), .list 1 (a.p.Ports.map rI), .list 1 (a.p.Pumps.map rB), .list 1 (a.feeds.map rI), .list 1 (a.order.map rI), .v w0_0, .v w0_1, .v w0_2]], .us w0_0 35 1 (a.fills.map (rL 2 Piece.row)), .us w0_1 35 1 (a.given.map (rL 2 Piece.row)), .us w0_2 35 1 (a.out_.map (rL 2 Piece.row))]) I (by decide)) ?_)
 obtain rfl := oi h
 exact AW.ret ⟨.inr I, [_], [.arr c 131 14 1 [[.list 1 (a.n_.Nodes.map rS), .list 7 (a.n_.Segments.map Segment.row), .list 3 (a.n_.Ports.map Port.row), .list 5 (a.n_.Stations.map Station.row), .V a.n_.Vapour, .V a.n_.Settle, .list 1 (a.p.Rates.map rI), .list 1 (a.p.Ports.map rI), .list 1 (a.p.Pumps.map rB), .list 1 (a.feeds.map rI), .list 1 (a.order.map rI), .v w0_0, .v w0_1, .v w0_2]], .us w0_0 35 1 (a.fills.map (rL 2 Piece.row)), .us w0_1 35 1 (a.given.map (rL 2 Piece.row)), .us w0_2 35 1 (a.out_.map (rL 2 Piece.row))], ⟨I, J⟩, sl_c I (sl_c I (sl_c I (sl_c I (sl_n)))), ⟨[.arr c 131 14 1 [[.list 1 (a.n_.Nodes.map rS), .list 7 (a.n_.Segments.map Segment.row), .list 3 (a.n_.Ports.map Port.row), .list 5 (a.n_.Stations.map Station.row), .V a.n_.Vapour, .V a.n_.Settle, .list 1 (a.p.Rates.map rI), .list 1 (a.p.Ports.map rI), .list 1 (a.p.Pumps.map rB), .list 1 (a.feeds.map rI), .list 1 (a.order.map rI), .v w0_0, .v w0_1, .v w0_2]], .us w0_0 35 1 (a.fills.map (rL 2 Piece.row)), .us w0_1 35 1 (a.given.map (rL 2 Piece.row)), .us w0_2 35 1 (a.out_.map (rL 2 Piece.row))], [], I, I, w0_0, w0_1, w0_2, I, I, I⟩⟩
 intro U h
 refine AW.skip ?_
 subst S
 refine AW.cutX (fun s ob => ∃ (f : List Piece) (i : Value), L.znry.J2 a k e b f = some r ∧ s = [(9, .v i)] ∧ ob = [.arr c 131 14 1 [[.list 1 (a.n_.Nodes.map rS), .list 7 (a.n_.Segments.map Segment.row), .list 3 (a.n_.Ports.map Port.row), .list 5 (a.n_.Stations.map Station.row), .V a.n_.Vapour, .V a.n_.Settle, .list 1 (a.p.Rates.map rI), .list 1 (a.p.Ports.map rI), .list 1 (a.p.Pumps.map rB), .list 1 (a.feeds.map rI), .list 1 (a.order.map rI), .v w0_0, .v w0_1, .v w0_2]], .us w0_0 35 1 (a.fills.map (rL 2 Piece.row)), .us w0_1 35 1 (a.given.map (rL 2 Piece.row)), .us w0_2 35 1 (a.out_.map (rL 2 Piece.row)), .us w 66 2 (b.1.map Piece.row), .us i 66 2 (f.map Piece.row)]) [(0, _), (1, _), (8, _)] ⟨I, I, I, J⟩ ?_ ?_
 refine AW.z I (AW.ch h I ?_ ?_)
 intro W h
 obtain ⟨X, Y, h⟩ := ob_some h
 refine AW.region (AO.q 1 I (AO.ghost (Ghost.freeze [5] (K := [.us D 66 2 (b.2.1.map Piece.row)]) I [(36, .list 2 (b.2.1.map Piece.row)), (9, .list 2 (b.2.1.map Piece.row)), (42, .list 2 (b.2.1.map Piece.row))] ⟨⟨_, I, .us 0 I⟩, ⟨_, I, .us 0 I⟩, ⟨_, I, .us 0 I⟩, J⟩ (ob' := [.arr c 131 14 1 [[.list 1 (a.n_.Nodes.map rS), .list 7 (a.n_.Segments.map Segment.row), .list 3 (a.n_.Ports.map Port.row), .list 5 (a.n_.Stations.map Station.row), .V a.n_.Vapour, .V a.n_.Settle, .list 1 (a.p.Rates.map rI), .list 1 (a.p.Ports.map rI), .list 1 (a.p.Pumps.map rB), .list 1 (a.feeds.map rI), .list 1 (a.order.map rI), .v w0_0, .v w0_1, .v w0_2]], .us w0_0 35 1 (a.fills.map (rL 2 Piece.row)), .us w0_1 35 1 (a.given.map (rL 2 Piece.row)), .us w0_2 35 1 (a.out_.map (rL 2 Piece.row)), .us w 66 2 (b.1.map Piece.row)]) (.rest _)) (AO.act [] I (AX.call0 I I I (L.zqks_ok _ _ Y) dS ?_))))
 rintro _ _ ⟨Z, rfl, rfl⟩
 refine AO.q 1 I (AO.nil ?_)
 exact lg ⟨X, Z, h, I, I⟩ [0, 1, 2, 3, 4, 5]
 intro W h
 refine AW.skip ?_
 exact lg ⟨b.2.1, D, h, I, I⟩ [0, 1, 2, 3, 4, 5]
 rintro s ob ⟨f, i, h, rfl, rfl⟩
 unfold L.znry.J2 at h
 refine AW.seq ?_
 obtain ⟨j, aa, h⟩ := ob_some h
 obtain ⟨ab, A⟩ := ix_some aa
 refine AW.form 1 e.1 I g (fun ac => (AW.form 2 j.1 I A (fun ad => (AW.rd (pd 16 0 [13, 15]) [0] [_] I (AP.r 12 [.o 3 0, .o 8 0] I ⟨I, I, J⟩ (AP.op I (Yp.indexUf (m := e.1) I I I I I ac I B g) I (AP.ghostS (Ghost.freeze [4] (K := [.us w 66 2 (b.1.map Piece.row)]) I [(8, .list 2 (b.1.map Piece.row)), (54, .list 2 (b.1.map Piece.row))] ⟨⟨_, I, .us 0 I⟩, ⟨_, I, .us 0 I⟩, J⟩ (ob' := [.arr c 131 14 1 [[.list 1 (a.n_.Nodes.map rS), .list 7 (a.n_.Segments.map Segment.row), .list 3 (a.n_.Ports.map Port.row), .list 5 (a.n_.Stations.map Station.row), .V a.n_.Vapour, .V a.n_.Settle, .list 1 (a.p.Rates.map rI), .list 1 (a.p.Ports.map rI), .list 1 (a.p.Pumps.map rB), .list 1 (a.feeds.map rI), .list 1 (a.order.map rI), .v w0_0, .v w0_1, .v w0_2]], .us w0_0 35 1 (a.fills.map (rL 2 Piece.row)), .us w0_1 35 1 (a.given.map (rL 2 Piece.row)), .us w0_2 35 1 (a.out_.map (rL 2 Piece.row)), .us i 66 2 (f.map Piece.row)]) (.rest _)) I (AP.act [1] I I I (AX.storeU 1 e.1 0 I I I (map_get g) I I I I (le_ble I) I (us_set (x := b.1) I) (AP.op I (Yp.indexUf (m := j.1) I I I I I ad I ab A) I (AP.ghostS (Ghost.freeze [4] (K := [.us i 66 2 (f.map Piece.row)]) I [(9, .list 2 (f.map Piece.row)), (55, .list 2 (f.map Piece.row))] ⟨⟨_, I, .us 0 I⟩, ⟨_, I, .us 0 I⟩, J⟩ (ob' := [.arr c 131 14 1 [[.list 1 (a.n_.Nodes.map rS), .list 7 (a.n_.Segments.map Segment.row), .list 3 (a.n_.Ports.map Port.row), .list 5 (a.n_.Stations.map Station.row), .V a.n_.Vapour, .V a.n_.Settle, .list 1 (a.p.Rates.map rI), .list 1 (a.p.Ports.map rI), .list 1 (a.p.Pumps.map rB), .list 1 (a.feeds.map rI), .list 1 (a.order.map rI), .v w0_0, .v w0_1, .v w0_2]], .us w0_0 35 1 ((a.fills.set e.1 b.1).map (rL 2 Piece.row)), .us w0_1 35 1 (a.given.map (rL 2 Piece.row)), .us w0_2 35 1 (a.out_.map (rL 2 Piece.row))]) (.rest _)) I ?_)))))))))))
 refine AP.act [2] I I I (AX.storeU 2 j.1 0 I I I (map_get A) I I I I (le_ble I) I (us_set (x := f) I) (AP.ofAO (AO.nil (AW.z I ?_))))
 obtain rfl := oi h
 exact AW.ret ⟨.inr I, [_], [.arr c 131 14 1 [[.list 1 (a.n_.Nodes.map rS), .list 7 (a.n_.Segments.map Segment.row), .list 3 (a.n_.Ports.map Port.row), .list 5 (a.n_.Stations.map Station.row), .V a.n_.Vapour, .V a.n_.Settle, .list 1 (a.p.Rates.map rI), .list 1 (a.p.Ports.map rI), .list 1 (a.p.Pumps.map rB), .list 1 (a.feeds.map rI), .list 1 (a.order.map rI), .v w0_0, .v w0_1, .v w0_2]], .us w0_0 35 1 ((a.fills.set e.1 b.1).map (rL 2 Piece.row)), .us w0_1 35 1 ((a.given.set j.1 f).map (rL 2 Piece.row)), .us w0_2 35 1 (a.out_.map (rL 2 Piece.row))], ⟨I, J⟩, sl_c I (sl_c I (sl_c I (sl_c I (sl_n)))), ⟨[.arr c 131 14 1 [[.list 1 (a.n_.Nodes.map rS), .list 7 (a.n_.Segments.map Segment.row), .list 3 (a.n_.Ports.map Port.row), .list 5 (a.n_.Stations.map Station.row), .V a.n_.Vapour, .V a.n_.Settle, .list 1 (a.p.Rates.map rI), .list 1 (a.p.Ports.map rI), .list 1 (a.p.Pumps.map rB), .list 1 (a.feeds.map rI), .list 1 (a.order.map rI), .v w0_0, .v w0_1, .v w0_2]], .us w0_0 35 1 ((a.fills.set e.1 b.1).map (rL 2 Piece.row)), .us w0_1 35 1 ((a.given.set j.1 f).map (rL 2 Piece.row)), .us w0_2 35 1 (a.out_.map (rL 2 Piece.row))], [], I, I, w0_0, w0_1, w0_2, I, I, I⟩⟩
theorem L.zikm_ok (c : Nat) (a : advance_line) (w0_0 : Value) (w0_1 : Value) (w0_2 : Value) (R : Int) (r : Int × ((List (List Piece)) × (List (List Piece)) × (List (List Piece)))) (h : L.zikm a R = some r) : ACalls Tryz.env 120 [.v (.pointer (some ⟨c, 0, none⟩)), .V R] [.arr c 131 14 1 [[.list 1 (a.n_.Nodes.map rS), .list 7 (a.n_.Segments.map Segment.row), .list 3 (a.n_.Ports.map Port.row), .list 5 (a.n_.Stations.map Station.row), .V a.n_.Vapour, .V a.n_.Settle, .list 1 (a.p.Rates.map rI), .list 1 (a.p.Ports.map rI), .list 1 (a.p.Pumps.map rB), .list 1 (a.feeds.map rI), .list 1 (a.order.map rI), .v w0_0, .v w0_1, .v w0_2]], .us w0_0 35 1 (a.fills.map (rL 2 Piece.row)), .us w0_1 35 1 (a.given.map (rL 2 Piece.row)), .us w0_2 35 1 (a.out_.map (rL 2 Piece.row))] (Gives 4 (fun x os new => ∃ (u1_0 : Value) (u1_1 : Value) (u1_2 : Value), x = .V r.1 ∧ os = [.arr c 131 14 1 [[.list 1 (a.n_.Nodes.map rS), .list 7 (a.n_.Segments.map Segment.row), .list 3 (a.n_.Ports.map Port.row), .list 5 (a.n_.Stations.map Station.row), .V a.n_.Vapour, .V a.n_.Settle, .list 1 (a.p.Rates.map rI), .list 1 (a.p.Ports.map rI), .list 1 (a.p.Pumps.map rB), .list 1 (a.feeds.map rI), .list 1 (a.order.map rI), .v u1_0, .v u1_1, .v u1_2]], .us u1_0 35 1 (r.2.1.map (rL 2 Piece.row)), .us u1_1 35 1 (r.2.2.1.map (rL 2 Piece.row)), .us u1_2 35 1 (r.2.2.2.map (rL 2 Piece.row))] ∧ new = [])) := by
 refine ACalls.of_body Tryz.func120 rfl rfl rfl (fun C hC => ?_)
 unfold L.zikm at h
 refine AW.seqG (fun y1 aa => (AW.region (AO.act [] I (AX.box (cs := [.v (.pointer (some ⟨c, 0, none⟩))]) (m := 1) I I I dS (fun D => (AO.act [] I (AX.alloc (cs := [.V 0]) (m := 1) I I I I I dS (fun s => (AO.nil ?_)))))))))
 subst aa
 refine AW.seqG (fun y4 ab => ?_)
 obtain ⟨b, ac, h⟩ := ob_some h
 refine AW.region (AO.r 2 [.o 0 4] I ⟨I, J⟩ (AO.act [0, 1, 2, 3] I (AX.cg [0, 1, 2, 3] (L.zyjw_ok c _ w0_0 w0_1 w0_2 _ _ ac) ?_)))
 rintro _ _ _ - ⟨G, e, f, g, rfl, rfl, rfl⟩
 refine AO.q 1 I (AO.nil ?_)
 subst ab
 refine AW.seqG (fun bu ad => (AW.seq (AW.region (AO.q 1 I (AO.d (Yd.lenUM 6 I I I I) I (AO.q 1 I (AO.nil (AW.ch h I ?_ ?_))))))))
 intro ae h
 refine AW.seq (AW.region (AO.act [5] I (AX.store 5 0 0 (es' := [[.V 0]]) I I I I I I I I (le_ble I) I I (AO.nil (AW.ghost (Ghost.pick [0, 1, 2, 3, 5] (K := [.arr c 131 14 1 [[.list 1 (a.n_.Nodes.map rS), .list 7 (a.n_.Segments.map Segment.row), .list 3 (a.n_.Ports.map Port.row), .list 5 (a.n_.Stations.map Station.row), .V a.n_.Vapour, .V a.n_.Settle, .list 1 (a.p.Rates.map rI), .list 1 (a.p.Ports.map rI), .list 1 (a.p.Pumps.map rB), .list 1 (a.feeds.map rI), .list 1 (a.order.map rI), .v e, .v f, .v g]], .us e 35 1 (b.2.1.map (rL 2 Piece.row)), .us f 35 1 (b.2.2.1.map (rL 2 Piece.row)), .us g 35 1 (b.2.2.2.map (rL 2 Piece.row)), .arr s 41 1 1 [[.V 0]]]) I (by decide)) ?_)))))
 obtain rfl := oi h
 exact AW.ret ⟨.inr I, [_], [.arr c 131 14 1 [[.list 1 (a.n_.Nodes.map rS), .list 7 (a.n_.Segments.map Segment.row), .list 3 (a.n_.Ports.map Port.row), .list 5 (a.n_.Stations.map Station.row), .V a.n_.Vapour, .V a.n_.Settle, .list 1 (a.p.Rates.map rI), .list 1 (a.p.Ports.map rI), .list 1 (a.p.Pumps.map rB), .list 1 (a.feeds.map rI), .list 1 (a.order.map rI), .v e, .v f, .v g]], .us e 35 1 (b.2.1.map (rL 2 Piece.row)), .us f 35 1 (b.2.2.1.map (rL 2 Piece.row)), .us g 35 1 (b.2.2.2.map (rL 2 Piece.row))], ⟨⟨4, _, _, _, _, _, _, _, I, I, I, I, I⟩, J⟩, sl_c I (sl_c I (sl_c I (sl_c I (sl_n)))), ⟨[.arr c 131 14 1 [[.list 1 (a.n_.Nodes.map rS), .list 7 (a.n_.Segments.map Segment.row), .list 3 (a.n_.Ports.map Port.row), .list 5 (a.n_.Stations.map Station.row), .V a.n_.Vapour, .V a.n_.Settle, .list 1 (a.p.Rates.map rI), .list 1 (a.p.Ports.map rI), .list 1 (a.p.Pumps.map rB), .list 1 (a.feeds.map rI), .list 1 (a.order.map rI), .v e, .v f, .v g]], .us e 35 1 (b.2.1.map (rL 2 Piece.row)), .us f 35 1 (b.2.2.1.map (rL 2 Piece.row)), .us g 35 1 (b.2.2.2.map (rL 2 Piece.row))], [], I, I, e, f, g, I, I, I⟩⟩
 intro ae h
 refine AW.skip ?_
 subst ad
 refine AW.seqG (fun bv af => (AW.seq (AW.region (AO.q 1 I (AO.d (Yd.lenUM 6 I I I I) I (AO.q 1 I (AO.nil (AW.ch h I ?_ ?_))))))))
 intro ag h
 refine AW.seq (AW.region (AO.act [5] I (AX.store 5 0 0 (es' := [[.V 4]]) I I I I I I I I (le_ble I) I I (AO.nil (AW.ghost (Ghost.pick [0, 1, 2, 3, 5] (K := [.arr c 131 14 1 [[.list 1 (a.n_.Nodes.map rS), .list 7 (a.n_.Segments.map Segment.row), .list 3 (a.n_.Ports.map Port.row), .list 5 (a.n_.Stations.map Station.row), .V a.n_.Vapour, .V a.n_.Settle, .list 1 (a.p.Rates.map rI), .list 1 (a.p.Ports.map rI), .list 1 (a.p.Pumps.map rB), .list 1 (a.feeds.map rI), .list 1 (a.order.map rI), .v e, .v f, .v g]], .us e 35 1 (b.2.1.map (rL 2 Piece.row)), .us f 35 1 (b.2.2.1.map (rL 2 Piece.row)), .us g 35 1 (b.2.2.2.map (rL 2 Piece.row)), .arr s 41 1 1 [[.V 4]]]) I (by decide)) ?_)))))
 obtain rfl := oi h
 exact AW.ret ⟨.inr I, [_], [.arr c 131 14 1 [[.list 1 (a.n_.Nodes.map rS), .list 7 (a.n_.Segments.map Segment.row), .list 3 (a.n_.Ports.map Port.row), .list 5 (a.n_.Stations.map Station.row), .V a.n_.Vapour, .V a.n_.Settle, .list 1 (a.p.Rates.map rI), .list 1 (a.p.Ports.map rI), .list 1 (a.p.Pumps.map rB), .list 1 (a.feeds.map rI), .list 1 (a.order.map rI), .v e, .v f, .v g]], .us e 35 1 (b.2.1.map (rL 2 Piece.row)), .us f 35 1 (b.2.2.1.map (rL 2 Piece.row)), .us g 35 1 (b.2.2.2.map (rL 2 Piece.row))], ⟨⟨4, _, _, _, _, _, _, _, I, I, I, I, I⟩, J⟩, sl_c I (sl_c I (sl_c I (sl_c I (sl_n)))), ⟨[.arr c 131 14 1 [[.list 1 (a.n_.Nodes.map rS), .list 7 (a.n_.Segments.map Segment.row), .list 3 (a.n_.Ports.map Port.row), .list 5 (a.n_.Stations.map Station.row), .V a.n_.Vapour, .V a.n_.Settle, .list 1 (a.p.Rates.map rI), .list 1 (a.p.Ports.map rI), .list 1 (a.p.Pumps.map rB), .list 1 (a.feeds.map rI), .list 1 (a.order.map rI), .v e, .v f, .v g]], .us e 35 1 (b.2.1.map (rL 2 Piece.row)), .us f 35 1 (b.2.2.1.map (rL 2 Piece.row)), .us g 35 1 (b.2.2.2.map (rL 2 Piece.row))], [], I, I, e, f, g, I, I, I⟩⟩
 intro ag h
 refine AW.skip ?_
 subst af
 refine AW.seqG (fun bw ah => (AW.region (AO.act [] I (AX.alloc (cs := [.N]) (m := 1) I I I I I dS (fun H => (AO.nil ?_))))))
 subst ah
 refine AW.seqG (fun bx ai => (AW.seq (AW.region (AO.r 2 [.o 0 4] I ⟨I, J⟩ (AO.act [] I (AX.call0 I I I (L.zwnh_ok _ _ _) dS ?_))))))
 rintro _ _ ⟨rfl, rfl⟩
 refine AO.nil (AW.block ?_)
 obtain ⟨bz, aj, h⟩ := ob_some h
 refine AW.ghost (Ghost.nilU 3 1) ?_
 obtain ⟨b1, ak, al⟩ := ob_some h
 clear h
 refine AW.rangeY ak (L.zlug c aj) (fun x => [.V x.1, .V x.2]) I I (fun _ => I) I I I (fun (am : Nat) (M : List Int) ob => ∃ (y : Value), ob = [.arr c 131 14 1 [[.list 1 (a.n_.Nodes.map rS), .list 7 (a.n_.Segments.map Segment.row), .list 3 (a.n_.Ports.map Port.row), .list 5 (a.n_.Stations.map Station.row), .V a.n_.Vapour, .V a.n_.Settle, .list 1 (a.p.Rates.map rI), .list 1 (a.p.Ports.map rI), .list 1 (a.p.Pumps.map rB), .list 1 (a.feeds.map rI), .list 1 (a.order.map rI), .v e, .v f, .v g]], .us e 35 1 (b.2.1.map (rL 2 Piece.row)), .us f 35 1 (b.2.2.1.map (rL 2 Piece.row)), .us g 35 1 (b.2.2.2.map (rL 2 Piece.row)), .arr D 126 1 1 [[.v (.pointer (some ⟨c, 0, none⟩))]], .arr s 41 1 1 [[.V 0]], .us G 66 2 (b.1.map Piece.row), .arr H 22 1 1 [[.v y]], .us y 3 1 (M.map rI)]) ⟨(.slice none 0 0), I⟩ ⟨[0, 1, 2, 3, 4, 5, 6, 7, 8], I, by decide⟩ (by rintro _ _ _ ⟨y, rfl⟩; exact ⟨0, _, _, _, rfl, rfl, rfl⟩) (fun _ _ _ => AW.region (AO.q 1 I (AO.nil ⟨I, I⟩))) ?_ ?_
 rintro C1 am an M b4 ob b5 b6 ⟨y, rfl⟩ h
 unfold L.zikm.B1 at h
 refine AW.block ?_
 obtain ⟨b7, ao, h⟩ := ob_some h
 refine AW.region (AO.r 2 [.o 0 7] I ⟨I, J⟩ (AO.act [] I (AX.lt 1 (([an.2] : List Int).map rI) (AO.act [8] I (AX.ap 8 I ao (fun S => (AO.one 8 I (fun aq => (AO.act [7] I (AX.store 7 0 0 (es' := [[.v S]]) I I I I I I (cells_v aq) I (le_ble I) I I ?_))))))))))
 obtain rfl := oi h
 refine AO.nil ?_
 exact ⟨_, ⟨S, I⟩, [0, 1, 2, 3, 4, 5, 6, 7, 8], I, by decide⟩
 rintro M ob ⟨y, rfl⟩ he
 subst he
 have h := al
 refine VS.ret ?_
 subst ai
 refine AW.seqG (fun b8 ar => (AW.seq (AW.region (AO.r 2 [.o 0 4] I ⟨I, J⟩ (AO.act [] I (AX.call0 I I I (L.zagr_ok _ _ _) dS ?_))))))
 rintro _ _ ⟨rfl, rfl⟩
 refine AO.nil (AW.block ?_)
 obtain ⟨b9, au, h⟩ := ob_some h
 obtain ⟨ca, av, aw⟩ := ob_some h
 clear h
 refine AW.rangeY av (L.zytf c au) (fun x => [.V x.1, .V x.2]) I I (fun _ => I) I I I (fun (ax : Nat) (A : List Int) ob => ∃ (B : Value), ob = [.arr c 131 14 1 [[.list 1 (a.n_.Nodes.map rS), .list 7 (a.n_.Segments.map Segment.row), .list 3 (a.n_.Ports.map Port.row), .list 5 (a.n_.Stations.map Station.row), .V a.n_.Vapour, .V a.n_.Settle, .list 1 (a.p.Rates.map rI), .list 1 (a.p.Ports.map rI), .list 1 (a.p.Pumps.map rB), .list 1 (a.feeds.map rI), .list 1 (a.order.map rI), .v e, .v f, .v g]], .us e 35 1 (b.2.1.map (rL 2 Piece.row)), .us f 35 1 (b.2.2.1.map (rL 2 Piece.row)), .us g 35 1 (b.2.2.2.map (rL 2 Piece.row)), .arr D 126 1 1 [[.v (.pointer (some ⟨c, 0, none⟩))]], .arr s 41 1 1 [[.V 0]], .us G 66 2 (b.1.map Piece.row), .arr H 22 1 1 [[.v B]], .us B 3 1 (A.map rI)]) ⟨y, I⟩ ⟨[0, 1, 2, 3, 4, 5, 6, 7, 8], I, by decide⟩ (by rintro _ _ _ ⟨B, rfl⟩; exact ⟨0, _, _, _, rfl, rfl, rfl⟩) (fun _ _ _ => AW.region (AO.q 1 I (AO.nil ⟨I, I⟩))) ?_ ?_
 rintro C1 ax ay A cb ob cc cd ⟨B, rfl⟩ h
 unfold L.zikm.B2 at h
 refine AW.block ?_
 obtain ⟨ce, az, h⟩ := ob_some h
 refine AW.region (AO.r 2 [.o 0 7] I ⟨I, J⟩ (AO.act [] I (AX.lt 1 (([ay.2] : List Int).map rI) (AO.act [8] I (AX.ap 8 I az (fun U => (AO.one 8 I (fun a0 => (AO.act [7] I (AX.store 7 0 0 (es' := [[.v U]]) I I I I I I (cells_v a0) I (le_ble I) I I ?_))))))))))
 obtain rfl := oi h
 refine AO.nil ?_
 exact ⟨_, ⟨U, I⟩, [0, 1, 2, 3, 4, 5, 6, 7, 8], I, by decide⟩
 rintro A ob ⟨B, rfl⟩ he
 subst he
 have h := aw
 refine VS.ret ?_
 subst ar
 refine AW.seqG (fun cf a1 => ?_)
 obtain ⟨E, a2, h⟩ := ob_some h
 refine AW.region (AO.r 2 [.o 1 7] I ⟨I, J⟩ (AO.ghost (Ghost.freeze [6, 8] (K := [.us G 66 2 (b.1.map Piece.row), .us B 3 1 (A.map rI)]) I [(5, .list 2 (b.1.map Piece.row)), (45, .list 2 (b.1.map Piece.row)), (46, .list 1 (A.map rI))] ⟨⟨_, I, .us 0 I⟩, ⟨_, I, .us 0 I⟩, ⟨_, I, .us 1 I⟩, J⟩ (ob' := [.arr c 131 14 1 [[.list 1 (a.n_.Nodes.map rS), .list 7 (a.n_.Segments.map Segment.row), .list 3 (a.n_.Ports.map Port.row), .list 5 (a.n_.Stations.map Station.row), .V a.n_.Vapour, .V a.n_.Settle, .list 1 (a.p.Rates.map rI), .list 1 (a.p.Ports.map rI), .list 1 (a.p.Pumps.map rB), .list 1 (a.feeds.map rI), .list 1 (a.order.map rI), .v e, .v f, .v g]], .us e 35 1 (b.2.1.map (rL 2 Piece.row)), .us f 35 1 (b.2.2.1.map (rL 2 Piece.row)), .us g 35 1 (b.2.2.2.map (rL 2 Piece.row)), .arr D 126 1 1 [[.v (.pointer (some ⟨c, 0, none⟩))]], .arr s 41 1 1 [[.V 0]], .arr H 22 1 1 [[.list 1 (A.map rI)]]]) (.cons (.same _) (.cons (.same _) (.cons (.same _) (.cons (.same _) (.cons (.same _) (.cons (.same _) (.cons (.arr (.cons (.us 1 I) (.rest _))) (.rest _))))))))) (AO.act [] I (AX.call0 I I I (L.zmxf_ok _ _ _ a2) dS ?_))))
 rintro _ _ ⟨rfl, rfl⟩
 refine AO.q 3 I (AO.act [] I (AX.alloc (cs := [.N]) (m := 1) I I I I I dS (fun W => (AO.act [7] I (AX.store 7 0 0 (es' := [[.list 1 (E.1.map (rL 2 Piece.row))]]) I I I I I I I I (le_ble I) I I (AO.q 1 I (AO.nil ?_)))))))
 subst a1
 refine AW.seqG (fun ci a3 => (AW.z I (AW.ch h I ?_ ?_)))
 intro a4 h
 refine AW.seq (AW.region (AO.q 1 I (AO.act [5] I (AX.store 5 0 0 (es' := [[.V E.2]]) I I I I I I I I (le_ble I) I I (AO.nil (AW.ghost (Ghost.pick [0, 1, 2, 3, 5] (K := [.arr c 131 14 1 [[.list 1 (a.n_.Nodes.map rS), .list 7 (a.n_.Segments.map Segment.row), .list 3 (a.n_.Ports.map Port.row), .list 5 (a.n_.Stations.map Station.row), .V a.n_.Vapour, .V a.n_.Settle, .list 1 (a.p.Rates.map rI), .list 1 (a.p.Ports.map rI), .list 1 (a.p.Pumps.map rB), .list 1 (a.feeds.map rI), .list 1 (a.order.map rI), .v e, .v f, .v g]], .us e 35 1 (b.2.1.map (rL 2 Piece.row)), .us f 35 1 (b.2.2.1.map (rL 2 Piece.row)), .us g 35 1 (b.2.2.2.map (rL 2 Piece.row)), .arr s 41 1 1 [[.V E.2]]]) I (by decide)) ?_))))))
 obtain rfl := oi h
 exact AW.ret ⟨.inr I, [_], [.arr c 131 14 1 [[.list 1 (a.n_.Nodes.map rS), .list 7 (a.n_.Segments.map Segment.row), .list 3 (a.n_.Ports.map Port.row), .list 5 (a.n_.Stations.map Station.row), .V a.n_.Vapour, .V a.n_.Settle, .list 1 (a.p.Rates.map rI), .list 1 (a.p.Ports.map rI), .list 1 (a.p.Pumps.map rB), .list 1 (a.feeds.map rI), .list 1 (a.order.map rI), .v e, .v f, .v g]], .us e 35 1 (b.2.1.map (rL 2 Piece.row)), .us f 35 1 (b.2.2.1.map (rL 2 Piece.row)), .us g 35 1 (b.2.2.2.map (rL 2 Piece.row))], ⟨⟨4, _, _, _, _, _, _, _, I, I, I, I, I⟩, J⟩, sl_c I (sl_c I (sl_c I (sl_c I (sl_n)))), ⟨[.arr c 131 14 1 [[.list 1 (a.n_.Nodes.map rS), .list 7 (a.n_.Segments.map Segment.row), .list 3 (a.n_.Ports.map Port.row), .list 5 (a.n_.Stations.map Station.row), .V a.n_.Vapour, .V a.n_.Settle, .list 1 (a.p.Rates.map rI), .list 1 (a.p.Ports.map rI), .list 1 (a.p.Pumps.map rB), .list 1 (a.feeds.map rI), .list 1 (a.order.map rI), .v e, .v f, .v g]], .us e 35 1 (b.2.1.map (rL 2 Piece.row)), .us f 35 1 (b.2.2.1.map (rL 2 Piece.row)), .us g 35 1 (b.2.2.2.map (rL 2 Piece.row))], [], I, I, e, f, g, I, I, I⟩⟩
 intro a4 h
 refine AW.skip ?_
 subst a3
 refine AW.seqG (fun cj a5 => (AW.region (AO.act [] I (AX.alloc (cs := [.V 0]) (m := 1) I I I I I dS (fun X => (AO.act [8] I (AX.store 8 0 0 (es' := [[.V 0]]) I I I I I I I I (le_ble I) I I (AO.nil ?_))))))))
 subst a5
 refine AW.seqG (fun ck a6 => (AW.seqG (fun cl a7 => (AW.region (AO.r 2 [.o 0 4] I ⟨I, J⟩ (AO.act [] I (AX.call0 I I I (L.zwnh_ok _ _ _) dS ?_)))))))
 rintro _ _ ⟨rfl, rfl⟩
 refine AO.nil ?_
 subst a7
 refine AW.block ?_
 obtain ⟨cm, a8, h⟩ := ob_some h
 obtain ⟨cn, a9, ba⟩ := ob_some h
 clear h
 refine AW.rangeY a9 (L.zlug c a8) (fun x => [.V x.1, .V x.2]) I I (fun _ => I) I I I (fun (bb : Nat) (F : (List (List Piece)) × Int) ob => ob = [.arr c 131 14 1 [[.list 1 (a.n_.Nodes.map rS), .list 7 (a.n_.Segments.map Segment.row), .list 3 (a.n_.Ports.map Port.row), .list 5 (a.n_.Stations.map Station.row), .V a.n_.Vapour, .V a.n_.Settle, .list 1 (a.p.Rates.map rI), .list 1 (a.p.Ports.map rI), .list 1 (a.p.Pumps.map rB), .list 1 (a.feeds.map rI), .list 1 (a.order.map rI), .v e, .v f, .v g]], .us e 35 1 (b.2.1.map (rL 2 Piece.row)), .us f 35 1 (b.2.2.1.map (rL 2 Piece.row)), .us g 35 1 (F.1.map (rL 2 Piece.row)), .arr D 126 1 1 [[.v (.pointer (some ⟨c, 0, none⟩))]], .arr s 41 1 1 [[.V 0]], .arr W 40 1 1 [[.list 1 (E.1.map (rL 2 Piece.row))]], .arr X 3 1 1 [[.V F.2]]]) I ⟨[0, 1, 2, 3, 4, 5, 7, 8], I, by decide⟩ (by rintro _ _ _ rfl; exact ⟨0, _, _, _, rfl, rfl, rfl⟩) (fun _ _ _ => AW.region (AO.q 1 I (AO.nil ⟨I, I⟩))) ?_ ?_
 rintro C1 bb co F cp ob cq cr rfl h
 unfold L.zikm.B3 at h
 refine AW.block (AW.seq ?_)
 obtain ⟨O, bc, h⟩ := ob_some h
 obtain ⟨bd, be⟩ := ix_some bc
 obtain ⟨P, bf, h⟩ := ob_some h
 obtain ⟨bg, Q⟩ := ix_some bf
 refine AW.form 3 P.1 I Q (fun bh => (AW.rd (pd 11 0 [10]) [4, 0, 6, 7] [_, _, _, _] I (AP.r 9 [.o 0 0, .o 3 1, .o 5 2, .o 6 3, .x 7 O.1 ((rL 2 Piece.row) O.2)] I ⟨⟨bd, map_get be⟩, I, I, I, I, J⟩ (AP.op I (Yp.indexUf (m := P.1) I I I I I bh I bg Q) I (AP.act [3] I I I (AX.storeU 3 P.1 0 I I I (map_get Q) I I I I (le_ble I) I (us_set (x := O.2) I) (AP.ofAO (AO.nil (AW.region (AO.r 2 [.o 0 7] I ⟨I, J⟩ (AO.act [7] I (AX.store 7 0 0 (es' := [[.V (wr (F.2 + 1))]]) I I I I I I I I (le_ble I) I I ?_))))))))))))
 obtain rfl := oi h
 refine AO.nil ?_
 exact ⟨_, I, [0, 1, 2, 3, 4, 5, 6, 7], I, by decide⟩
 rintro F ob rfl he
 subst he
 have h := ba
 refine VS.ret ?_
 subst a6
 refine AW.seq (AW.seqG (fun ct bi => (AW.region (AO.r 2 [.o 0 4] I ⟨I, J⟩ (AO.act [] I (AX.call0 I I I (L.zagr_ok _ _ _) dS ?_))))))
 rintro _ _ ⟨rfl, rfl⟩
 refine AO.nil ?_
 subst bi
 refine AW.block ?_
 obtain ⟨cu, bj, h⟩ := ob_some h
 obtain ⟨cv, bk, Y⟩ := ob_some h
 clear h
 refine AW.rangeX bk (L.zytf c bj) (fun x => [.V x.1, .V x.2]) I I (fun _ => I) I I I (fun (bl : Nat) (i : (List (List Piece)) × (List (List Piece)) × (List (List Piece)) × Int) ob => ∃ (j : Value) (k : Value) (l : Value), ob = [.arr c 131 14 1 [[.list 1 (a.n_.Nodes.map rS), .list 7 (a.n_.Segments.map Segment.row), .list 3 (a.n_.Ports.map Port.row), .list 5 (a.n_.Stations.map Station.row), .V a.n_.Vapour, .V a.n_.Settle, .list 1 (a.p.Rates.map rI), .list 1 (a.p.Ports.map rI), .list 1 (a.p.Pumps.map rB), .list 1 (a.feeds.map rI), .list 1 (a.order.map rI), .v j, .v k, .v l]], .us j 35 1 (i.1.map (rL 2 Piece.row)), .us k 35 1 (i.2.1.map (rL 2 Piece.row)), .us l 35 1 (i.2.2.1.map (rL 2 Piece.row)), .arr D 126 1 1 [[.v (.pointer (some ⟨c, 0, none⟩))]], .arr s 41 1 1 [[.V 0]], .arr W 40 1 1 [[.list 1 (E.1.map (rL 2 Piece.row))]], .arr X 3 1 1 [[.V i.2.2.2]]]) ⟨e, f, g, I⟩ ⟨[0, 1, 2, 3, 4, 5, 6, 7], I, by decide⟩ (by rintro _ _ _ ⟨j, k, l, rfl⟩; exact ⟨0, _, _, _, rfl, rfl, rfl⟩) (fun _ _ _ => AW.region (AO.q 1 I (AO.nil ⟨I, I⟩))) ?_ ?_
 rintro C1 bl cw i cx ob cy cz ⟨j, k, l, rfl⟩ h bm
 unfold L.zikm.B4 at h
 refine AW.block (AW.seq (AW.seq ?_))
 obtain ⟨Z, bn, h⟩ := ob_some h
 obtain ⟨bo, bp⟩ := ix_some bn
 obtain ⟨n, bq, h⟩ := ob_some h
 refine AW.rd (pd 8 0 [6]) [4, 6, 7] [_, _, _] I (AP.r 6 [.o 0 0, .o 2 1, .o 3 2, .x 4 Z.1 ((rL 2 Piece.row) Z.2)] I ⟨⟨bo, map_get bp⟩, I, I, I, J⟩ (AP.act [0, 1, 2, 3] I I I (AX.cg [0, 1, 2, 3] (L.znry_ok c _ j k l _ _ _ bq) ?_)))
 rintro _ _ _ - ⟨t, u, w, rfl, rfl, rfl⟩
 refine AP.q 1 I (AP.ofAO (AO.nil (AW.z I (AW.ch h I ?_ ?_))))
 intro br h
 refine AW.seq (AW.region (AO.q 1 I (AO.act [5] I (AX.store 5 0 0 (es' := [[.V n.1]]) I I I I I I I I (le_ble I) I I (AO.nil ?_)))))
 obtain rfl := bm _ (oi h).symm
 replace h := Y
 replace h := se_r h
 refine AW.ghost (Ghost.pick [0, 1, 2, 3, 5] (K := [.arr c 131 14 1 [[.list 1 (a.n_.Nodes.map rS), .list 7 (a.n_.Segments.map Segment.row), .list 3 (a.n_.Ports.map Port.row), .list 5 (a.n_.Stations.map Station.row), .V a.n_.Vapour, .V a.n_.Settle, .list 1 (a.p.Rates.map rI), .list 1 (a.p.Ports.map rI), .list 1 (a.p.Pumps.map rB), .list 1 (a.feeds.map rI), .list 1 (a.order.map rI), .v t, .v u, .v w]], .us t 35 1 (n.2.1.map (rL 2 Piece.row)), .us u 35 1 (n.2.2.1.map (rL 2 Piece.row)), .us w 35 1 (n.2.2.2.map (rL 2 Piece.row)), .arr s 41 1 1 [[.V n.1]]]) I (by decide)) ?_
 obtain rfl := oi h
 refine AW.ret (⟨_, OL.all, ?_⟩)
 exact ⟨.inr I, [_], [.arr c 131 14 1 [[.list 1 (a.n_.Nodes.map rS), .list 7 (a.n_.Segments.map Segment.row), .list 3 (a.n_.Ports.map Port.row), .list 5 (a.n_.Stations.map Station.row), .V a.n_.Vapour, .V a.n_.Settle, .list 1 (a.p.Rates.map rI), .list 1 (a.p.Ports.map rI), .list 1 (a.p.Pumps.map rB), .list 1 (a.feeds.map rI), .list 1 (a.order.map rI), .v t, .v u, .v w]], .us t 35 1 (n.2.1.map (rL 2 Piece.row)), .us u 35 1 (n.2.2.1.map (rL 2 Piece.row)), .us w 35 1 (n.2.2.2.map (rL 2 Piece.row))], ⟨⟨4, _, _, _, _, _, _, _, I, I, I, I, I⟩, J⟩, sl_c I (sl_c I (sl_c I (sl_c I (sl_n)))), ⟨[.arr c 131 14 1 [[.list 1 (a.n_.Nodes.map rS), .list 7 (a.n_.Segments.map Segment.row), .list 3 (a.n_.Ports.map Port.row), .list 5 (a.n_.Stations.map Station.row), .V a.n_.Vapour, .V a.n_.Settle, .list 1 (a.p.Rates.map rI), .list 1 (a.p.Ports.map rI), .list 1 (a.p.Pumps.map rB), .list 1 (a.feeds.map rI), .list 1 (a.order.map rI), .v t, .v u, .v w]], .us t 35 1 (n.2.1.map (rL 2 Piece.row)), .us u 35 1 (n.2.2.1.map (rL 2 Piece.row)), .us w 35 1 (n.2.2.2.map (rL 2 Piece.row))], [], I, I, t, u, w, I, I, I⟩⟩
 intro br h
 refine AW.skip (AW.region (AO.r 2 [.o 0 7] I ⟨I, J⟩ (AO.act [7] I (AX.store 7 0 0 (es' := [[.V (wr (i.2.2.2 + 1))]]) I I I I I I I I (le_ble I) I I ?_))))
 obtain rfl := oi h
 refine AO.nil ?_
 exact ⟨_, _, I, ⟨t, u, w, I⟩, [0, 1, 2, 3, 4, 5, 6, 7], I, by decide⟩
 rintro i ob ⟨j, k, l, rfl⟩ he
 subst he
 have h := se_l Y
 refine VS.ret (AW.seq (AW.region (AO.act [5] I (AX.store 5 0 0 (es' := [[.V 0]]) I I I I I I I I (le_ble I) I I (AO.nil (AW.ghost (Ghost.pick [0, 1, 2, 3, 5] (K := [.arr c 131 14 1 [[.list 1 (a.n_.Nodes.map rS), .list 7 (a.n_.Segments.map Segment.row), .list 3 (a.n_.Ports.map Port.row), .list 5 (a.n_.Stations.map Station.row), .V a.n_.Vapour, .V a.n_.Settle, .list 1 (a.p.Rates.map rI), .list 1 (a.p.Ports.map rI), .list 1 (a.p.Pumps.map rB), .list 1 (a.feeds.map rI), .list 1 (a.order.map rI), .v j, .v k, .v l]], .us j 35 1 (i.1.map (rL 2 Piece.row)), .us k 35 1 (i.2.1.map (rL 2 Piece.row)), .us l 35 1 (i.2.2.1.map (rL 2 Piece.row)), .arr s 41 1 1 [[.V 0]]]) I (by decide)) ?_))))))
 obtain rfl := oi h
 exact AW.ret ⟨.inr I, [_], [.arr c 131 14 1 [[.list 1 (a.n_.Nodes.map rS), .list 7 (a.n_.Segments.map Segment.row), .list 3 (a.n_.Ports.map Port.row), .list 5 (a.n_.Stations.map Station.row), .V a.n_.Vapour, .V a.n_.Settle, .list 1 (a.p.Rates.map rI), .list 1 (a.p.Ports.map rI), .list 1 (a.p.Pumps.map rB), .list 1 (a.feeds.map rI), .list 1 (a.order.map rI), .v j, .v k, .v l]], .us j 35 1 (i.1.map (rL 2 Piece.row)), .us k 35 1 (i.2.1.map (rL 2 Piece.row)), .us l 35 1 (i.2.2.1.map (rL 2 Piece.row))], ⟨⟨4, _, _, _, _, _, _, _, I, I, I, I, I⟩, J⟩, sl_c I (sl_c I (sl_c I (sl_c I (sl_n)))), ⟨[.arr c 131 14 1 [[.list 1 (a.n_.Nodes.map rS), .list 7 (a.n_.Segments.map Segment.row), .list 3 (a.n_.Ports.map Port.row), .list 5 (a.n_.Stations.map Station.row), .V a.n_.Vapour, .V a.n_.Settle, .list 1 (a.p.Rates.map rI), .list 1 (a.p.Ports.map rI), .list 1 (a.p.Pumps.map rB), .list 1 (a.feeds.map rI), .list 1 (a.order.map rI), .v j, .v k, .v l]], .us j 35 1 (i.1.map (rL 2 Piece.row)), .us k 35 1 (i.2.1.map (rL 2 Piece.row)), .us l 35 1 (i.2.2.1.map (rL 2 Piece.row))], [], I, I, j, k, l, I, I, I⟩⟩
theorem L.zlri_ok (b : Nat) (a : advance_line) (w0_0 : Value) (w0_1 : Value) (w0_2 : Value) (r : Int × ((List (List Piece)) × (List (List Piece)) × (List (List Piece)))) (h : L.zlri a = some r) : ACalls Tryz.env 83 [.v (.pointer (some ⟨b, 0, none⟩))] [.arr b 131 14 1 [[.list 1 (a.n_.Nodes.map rS), .list 7 (a.n_.Segments.map Segment.row), .list 3 (a.n_.Ports.map Port.row), .list 5 (a.n_.Stations.map Station.row), .V a.n_.Vapour, .V a.n_.Settle, .list 1 (a.p.Rates.map rI), .list 1 (a.p.Ports.map rI), .list 1 (a.p.Pumps.map rB), .list 1 (a.feeds.map rI), .list 1 (a.order.map rI), .v w0_0, .v w0_1, .v w0_2]], .us w0_0 35 1 (a.fills.map (rL 2 Piece.row)), .us w0_1 35 1 (a.given.map (rL 2 Piece.row)), .us w0_2 35 1 (a.out_.map (rL 2 Piece.row))] (Gives 4 (fun x os new => ∃ (u1_0 : Value) (u1_1 : Value) (u1_2 : Value), x = .V r.1 ∧ os = [.arr b 131 14 1 [[.list 1 (a.n_.Nodes.map rS), .list 7 (a.n_.Segments.map Segment.row), .list 3 (a.n_.Ports.map Port.row), .list 5 (a.n_.Stations.map Station.row), .V a.n_.Vapour, .V a.n_.Settle, .list 1 (a.p.Rates.map rI), .list 1 (a.p.Ports.map rI), .list 1 (a.p.Pumps.map rB), .list 1 (a.feeds.map rI), .list 1 (a.order.map rI), .v u1_0, .v u1_1, .v u1_2]], .us u1_0 35 1 (r.2.1.map (rL 2 Piece.row)), .us u1_1 35 1 (r.2.2.1.map (rL 2 Piece.row)), .us u1_2 35 1 (r.2.2.2.map (rL 2 Piece.row))] ∧ new = [])) := by
 refine ACalls.of_body Tryz.func83 rfl rfl rfl (fun C hC => ?_)
 unfold L.zlri at h
 refine AW.z I (AW.cutX (fun s ob => ∃ (G : (List (List Piece)) × (List (List Piece))) (H : Value) (K : Value), L.zlri.J1 a G = some r ∧ s = [] ∧ ob = [.arr b 131 14 1 [[.list 1 (a.n_.Nodes.map rS), .list 7 (a.n_.Segments.map Segment.row), .list 3 (a.n_.Ports.map Port.row), .list 5 (a.n_.Stations.map Station.row), .V a.n_.Vapour, .V a.n_.Settle, .list 1 (a.p.Rates.map rI), .list 1 (a.p.Ports.map rI), .list 1 (a.p.Pumps.map rB), .list 1 (a.feeds.map rI), .list 1 (a.order.map rI), .v w0_0, .v H, .v K]], .us w0_0 35 1 (a.fills.map (rL 2 Piece.row)), .us H 35 1 (G.1.map (rL 2 Piece.row)), .us K 35 1 (G.2.map (rL 2 Piece.row))]) [(0, _)] ⟨I, J⟩ ?_ ?_)
 obtain ⟨P, ab, h⟩ := ob_some h
 obtain ⟨M, X, Y, Z⟩ := mk_some ab
 obtain ⟨Q, ac, h⟩ := ob_some h
 obtain ⟨j, R, S, U⟩ := mk_some ac
 refine AW.rc (.still 0 (.still 1 (.still 2 (.still 3 (.still 4 (.still 5 (.still 6 (.still 7 (.still 9 (.still 10 (.still 11 (.still 12 (.still 13 (.still 14 (.two 8 15 (.still 16 (.still 17 (.two 15 18 (.act 18 (.still 19 (.still 20 (.act 21 .nil)))) (.act 15 (.still 19 (.still 20 (.act 21 .nil))))))) (.act 8 (.still 16 (.still 17 (.act 18 (.still 19 (.still 20 (.act 21 .nil)))))))))))))))))))))) 0 b [(1, .list 7 (a.n_.Segments.map Segment.row)), (2, .list 3 (a.n_.Ports.map Port.row))] I I (AQ.p I (Yp.move I) I (AQ.p I (Yp.move I) I (AQ.p I (Yp.move I) I (AQ.p I (Yp.nilCheckP I) I (AQ.p I (Yp.fieldPtr I I I I I I) I (AQ.p I (Yp.fieldPtr I I I I I I) I (AQ.ld 0 I I I I I I (AQ.p I (Yp.lenM I I I) I (AQ.p I (Yp.move I) I (AQ.p I (Yp.nilCheckP I) I (AQ.p I (Yp.fieldPtr I I I I I I) I (AQ.p I (Yp.fieldPtr I I I I I I) I ?_))))))))))))
 refine AQ.ld 1 I I I I I I (AQ.p I (Yp.lenM I I I) I (AQ.two ?_ ?_))
 refine AQ.act [] 0 I I I I (AX.makeU (sz := 1) (es' := List.replicate M [.N]) I I I I I I I I I I X Y I dS (fun O => (AQ.ghost (Ghost.toLists (f := Piece.row) 4 M 2 Z I) (AQ.p I (Yp.nilCheckP I) I (AQ.p I (Yp.fieldPtr I I I I I I) I (AQ.two ?_ ?_))))))
 refine AQ.act [] 0 I I I I (AX.makeU (sz := 1) (es' := List.replicate j [.N]) I I I I I I I I I I R S I dS (fun B => (AQ.ghost (Ghost.toLists (f := Piece.row) 5 j 2 U I) (AQ.one 4 I (fun D => (AQ.st 0 I I I I I (cells_v D) I (le_ble I) I I (AQ.p I (Yp.nilCheckP I) I (AQ.p I (Yp.fieldPtr I I I I I I) I (AQ.one 5 I (fun E => (AQ.st 0 I I I I I (cells_v E) I (le_ble I) I I (AQ.ofAO (AO.nil ?_)))))))))))))
 exact lg ⟨(P, Q), O, B, h, I, I⟩ [0, 1, 4, 5]
 refine AQ.one 4 I (fun D => (AQ.st 0 I I I I I (cells_v D) I (le_ble I) I I (AQ.act [] 0 I I I I (AX.makeU (sz := 1) (es' := List.replicate j [.N]) I I I I I I I I I I R S I dS (fun B => (AQ.ghost (Ghost.toLists (f := Piece.row) 5 j 2 U I) (AQ.p I (Yp.nilCheckP I) I (AQ.p I (Yp.fieldPtr I I I I I I) I (AQ.one 5 I (fun E => (AQ.st 0 I I I I I (cells_v E) I (le_ble I) I I (AQ.ofAO (AO.nil ?_)))))))))))))
 exact lg ⟨(P, Q), O, B, h, I, I⟩ [0, 1, 4, 5]
 refine AQ.act [] 0 I I I I (AX.makeU (sz := 1) (es' := List.replicate j [.N]) I I I I I I I I I I R S I dS (fun B => (AQ.ghost (Ghost.toLists (f := Piece.row) 4 j 2 U I) (AQ.act [] 0 I I I I (AX.makeU (sz := 1) (es' := List.replicate M [.N]) I I I I I I I I I I X Y I dS (fun O => (AQ.ghost (Ghost.toLists (f := Piece.row) 5 M 2 Z I) (AQ.p I (Yp.nilCheckP I) I (AQ.p I (Yp.fieldPtr I I I I I I) I (AQ.one 5 I (fun D => (AQ.st 0 I I I I I (cells_v D) I (le_ble I) I I (AQ.p I (Yp.nilCheckP I) I (AQ.p I (Yp.fieldPtr I I I I I I) I (AQ.one 4 I (fun E => (AQ.st 0 I I I I I (cells_v E) I (le_ble I) I I (AQ.ofAO ?_))))))))))))))))))
 refine AO.nil ?_
 exact lg ⟨(P, Q), O, B, h, I, I⟩ [0, 1, 5, 4]
 rintro s ob ⟨G, H, K, h, rfl, rfl⟩
 unfold L.zlri.J1 at h
 refine AW.cutX (fun s ob => ∃ (c : (List (List Piece)) × (List (List Piece)) × (List (List Piece))) (d : Value) (e : Value) (g : Value), L.zlri.J2 c = some r ∧ s = [] ∧ ob = [.arr b 131 14 1 [[.list 1 (a.n_.Nodes.map rS), .list 7 (a.n_.Segments.map Segment.row), .list 3 (a.n_.Ports.map Port.row), .list 5 (a.n_.Stations.map Station.row), .V a.n_.Vapour, .V a.n_.Settle, .list 1 (a.p.Rates.map rI), .list 1 (a.p.Ports.map rI), .list 1 (a.p.Pumps.map rB), .list 1 (a.feeds.map rI), .list 1 (a.order.map rI), .v d, .v e, .v g]], .us d 35 1 (c.1.map (rL 2 Piece.row)), .us e 35 1 (c.2.1.map (rL 2 Piece.row)), .us g 35 1 (c.2.2.map (rL 2 Piece.row))]) [] J ?_ ?_
 refine AW.zr [.o 3 0, .l 4 (a.order.length : Int)] I ⟨len_m, I, J⟩ (AW.block (AW.listMax 29 I (fun W => ?_)))
 replace W : a.order.length ≤ 9223372036854775806 := by rw [List.length_map] at W; omega
 obtain ⟨an, ad, aa⟩ := ob_some h
 clear h
 refine AW.forX ad [(0, _), (29, _), (30, _)] ⟨I, I, I, J⟩ (fun (F : Nat) (i : (List (List Piece)) × (List (List Piece)) × (List (List Piece))) s ob => ∃ (m : Value) (n : Value) (t : Value), s = [(31, .V (F : Int))] ∧ ob = [.arr b 131 14 1 [[.list 1 (a.n_.Nodes.map rS), .list 7 (a.n_.Segments.map Segment.row), .list 3 (a.n_.Ports.map Port.row), .list 5 (a.n_.Stations.map Station.row), .V a.n_.Vapour, .V a.n_.Settle, .list 1 (a.p.Rates.map rI), .list 1 (a.p.Ports.map rI), .list 1 (a.p.Pumps.map rB), .list 1 (a.feeds.map rI), .list 1 (a.order.map rI), .v m, .v n, .v t]], .us m 35 1 (i.1.map (rL 2 Piece.row)), .us n 35 1 (i.2.1.map (rL 2 Piece.row)), .us t 35 1 (i.2.2.map (rL 2 Piece.row))]) ⟨w0_0, H, K, I, I⟩ ⟨I, J⟩ ⟨[0, 1, 2, 3], I, by decide⟩ ?_ ?_
 rintro F ae i ao s ob af ag ⟨m, n, t, rfl, rfl⟩ h ah
 unfold L.zlri.B3 at h
 have ai : decide ((F : Int) < (a.order.length : Int)) = true := decide_eq_true (by omega)
 refine AW.z I (AW.seqG (fun ap aj => (AW.condK (v := true) I ai (AW.skip ?_))))
 subst aj
 refine AW.seq (AW.block (AW.zr [.x 0 F (rI ae)] I ⟨⟨I, map_get af⟩, J⟩ (AW.seq ?_)))
 obtain ⟨u, ak, h⟩ := ob_some h
 refine AW.region (AO.q 2 I (AO.act [0, 1, 2, 3] I (AX.cg [0, 1, 2, 3] (L.zikm_ok b _ m n t _ _ ak) ?_)))
 rintro _ _ _ - ⟨w, y, A, rfl, rfl, rfl⟩
 refine AO.q 1 I (AO.nil (AW.z I (AW.ch h I ?_ ?_)))
 intro al h
 refine AW.z I ?_
 obtain rfl := ah _ (oi h).symm
 replace h := aa
 replace h := se_r h
 obtain rfl := oi h
 exact AW.ret ⟨.inr I, [_], [.arr b 131 14 1 [[.list 1 (a.n_.Nodes.map rS), .list 7 (a.n_.Segments.map Segment.row), .list 3 (a.n_.Ports.map Port.row), .list 5 (a.n_.Stations.map Station.row), .V a.n_.Vapour, .V a.n_.Settle, .list 1 (a.p.Rates.map rI), .list 1 (a.p.Ports.map rI), .list 1 (a.p.Pumps.map rB), .list 1 (a.feeds.map rI), .list 1 (a.order.map rI), .v w, .v y, .v A]], .us w 35 1 (u.2.1.map (rL 2 Piece.row)), .us y 35 1 (u.2.2.1.map (rL 2 Piece.row)), .us A 35 1 (u.2.2.2.map (rL 2 Piece.row))], ⟨I, J⟩, sl_c I (sl_c I (sl_c I (sl_c I (sl_n)))), ⟨[.arr b 131 14 1 [[.list 1 (a.n_.Nodes.map rS), .list 7 (a.n_.Segments.map Segment.row), .list 3 (a.n_.Ports.map Port.row), .list 5 (a.n_.Stations.map Station.row), .V a.n_.Vapour, .V a.n_.Settle, .list 1 (a.p.Rates.map rI), .list 1 (a.p.Ports.map rI), .list 1 (a.p.Pumps.map rB), .list 1 (a.feeds.map rI), .list 1 (a.order.map rI), .v w, .v y, .v A]], .us w 35 1 (u.2.1.map (rL 2 Piece.row)), .us y 35 1 (u.2.2.1.map (rL 2 Piece.row)), .us A 35 1 (u.2.2.2.map (rL 2 Piece.row))], [], I, I, w, y, A, I, I, I⟩⟩
 intro al h
 refine AW.skip (AW.region (AO.r 2 [.k 0 (F + 1 : Nat)] I ⟨cast_wr ag W, J⟩ ?_))
 obtain rfl := oi h
 refine AO.nil ?_
 exact ⟨_, _, _, I, ⟨w, y, A, I, I⟩, ⟨I, I, I, I, J⟩, [0, 1, 2, 3], I, by decide⟩
 rintro i s ob ⟨m, n, t, rfl, rfl⟩ he
 subst he
 have h := se_l aa
 have am : decide (((a.order.length : Nat) : Int) < (a.order.length : Int)) = false := by simp
 refine AW.z I (AW.seqG (fun aq ar => (AW.condK (v := false) I am (AW.exit ?_))))
 exact lg ⟨(i.1, i.2.1, i.2.2), m, n, t, h, I, I⟩ [0, 1, 2, 3]
 rintro s ob ⟨c, d, e, g, h, rfl, rfl⟩
 unfold L.zlri.J2 at h
 refine AW.z I ?_
 obtain rfl := oi h
 exact AW.ret ⟨.inr I, [_], [.arr b 131 14 1 [[.list 1 (a.n_.Nodes.map rS), .list 7 (a.n_.Segments.map Segment.row), .list 3 (a.n_.Ports.map Port.row), .list 5 (a.n_.Stations.map Station.row), .V a.n_.Vapour, .V a.n_.Settle, .list 1 (a.p.Rates.map rI), .list 1 (a.p.Ports.map rI), .list 1 (a.p.Pumps.map rB), .list 1 (a.feeds.map rI), .list 1 (a.order.map rI), .v d, .v e, .v g]], .us d 35 1 (c.1.map (rL 2 Piece.row)), .us e 35 1 (c.2.1.map (rL 2 Piece.row)), .us g 35 1 (c.2.2.map (rL 2 Piece.row))], ⟨I, J⟩, sl_c I (sl_c I (sl_c I (sl_c I (sl_n)))), ⟨[.arr b 131 14 1 [[.list 1 (a.n_.Nodes.map rS), .list 7 (a.n_.Segments.map Segment.row), .list 3 (a.n_.Ports.map Port.row), .list 5 (a.n_.Stations.map Station.row), .V a.n_.Vapour, .V a.n_.Settle, .list 1 (a.p.Rates.map rI), .list 1 (a.p.Ports.map rI), .list 1 (a.p.Pumps.map rB), .list 1 (a.feeds.map rI), .list 1 (a.order.map rI), .v d, .v e, .v g]], .us d 35 1 (c.1.map (rL 2 Piece.row)), .us e 35 1 (c.2.1.map (rL 2 Piece.row)), .us g 35 1 (c.2.2.map (rL 2 Piece.row))], [], I, I, d, e, g, I, I, I⟩⟩
end Go.Proofs.YtaliejncdnegeaaGreat
