/- Walks that show what functions of the program compute; printed by a program of ours. No condition. -/
import Derived.Test.YtligpmmgdjipbaaZvLa4
import Derived.Test.YtligpmmgdjipbaaZvL4c
import Derived.Test.YtligpmmgdjipbaaZvL4b
import Derived.Test.YtligpmmgdjipbaaZvP0
set_option maxRecDepth 100000
namespace Go.Proofs.Ytligpmmgdjipbaa
open Go.Aw
set_option linter.unusedVariables false
set_option linter.unusedSimpArgs false
set_option maxHeartbeats 4000000
theorem L.zzec_ok (az : List Int) (M : Int) (r : Bool) (h : L.zzec az M = some r) : ACalls Try.env 6 [.list 1 (az.map rI), .v (.int .u8 M)] [] (fun x new => x = .v (.bool r) ∧ new = []) := by
 refine ACalls.of_body Try.func6 rfl rfl rfl (fun C hC => ?_)
 unfold L.zzec at h
 refine AW.z I (AW.seqG (fun y2 bb => ?_))
 obtain ⟨r3, bc, h⟩ := ob_some h
 refine AW.region (AO.q 1 I (AO.act [] I (AX.call0 I I I (L.ziti_ok _ _ bc) dS ?_)))
 rintro _ _ ⟨A, rfl, rfl⟩
 refine AO.q 1 I (AO.nil ?_)
 subst bb
 refine AW.seqG (fun y6 bd => ?_)
 obtain ⟨n, be, h⟩ := ob_some h
 refine AW.region (AO.q 1 I (AO.act [0] I (AX.c0 [0] (L.zeju_ok A _ _ be) ?_)))
 refine AO.act [] I (AX.alloc (cs := [.N, .N, .N, .N, .V 0, .V 0]) (m := 6) I I I I I dS (fun w => (AO.act [1] I (AX.store 1 0 0 (es' := [Network.row n.1]) I I I I I I I I (le_ble I) I I (AO.nil ?_)))))
 subst bd
 refine AW.cutX (fun s ob => ∃ (a : (List (List Piece)) × (List Int) × (List Int) × (List Bool) × (List Int)) (aa : Value) (e : Nat) (ab : Value), L.zzec.J1 M n a = some r ∧ s = [(7, .v aa), (8, .v (.pointer (some ⟨e, 0, none⟩))), (9, .v ab)] ∧ ob = [.arr w 30 6 1 [Network.row n.1], .us aa 44 1 (a.1.map (rL 2 Piece.row)), .us ab 3 1 (a.2.2.2.2.map rI), .arr e 37 3 1 [[.list 1 (a.2.1.map rI), .list 1 (a.2.2.1.map rI), .list 1 (a.2.2.2.1.map rB)]]]) [(1, _), (6, _)] ⟨I, I, J⟩ ?_ ?_
 obtain ⟨ac, a0, h⟩ := ob_some h
 obtain ⟨i, al, h⟩ := ob_some h
 obtain ⟨ad, ae, h⟩ := ob_some h
 refine AW.rd (.still 0 (.still 1 (.still 3 (.still 4 (.still 6 (.still 7 (.two 2 9 (.two 5 9 (.two 8 9 (.act 9 (.still 10 (.act 11 (.still 12 .nil)))) (.act 8 (.still 10 (.act 11 (.still 12 .nil))))) (.act 5 (.act 8 (.still 10 (.act 11 (.still 12 .nil)))))) (.act 2 (.act 5 (.act 8 (.still 10 (.act 11 (.still 12 .nil))))))))))))) [1] [_] I (AP.r 6 [.o 1 0, .o 3 0, .o 5 0] I ⟨I, I, I, J⟩ (AP.two ?_ ?_))
 refine AP.act [0] I I I (AX.cg [0] (L.zbhc_ok A _ _ _ _ a0) ?_)
 rintro _ _ _ - ⟨S, rfl, rfl, rfl⟩
 refine AP.two ?_ ?_
 refine AP.act [0] I I I (AX.c0 [0] (L.zjbu_ok A _ _ _ al) ?_)
 refine AP.two ?_ ?_
 refine AP.act [0] I I I (AX.cg [0] (L.zork_ok A _ _ _ _ ae) ?_)
 rintro _ _ _ - ⟨D, rfl, rfl, rfl⟩
 refine AP.act [] I I I (AX.alloc (cs := [.N, .N, .N]) (m := 3) I I I I I dS (fun E => (AP.q 1 I (AP.act [4] I I I (AX.store 4 0 0 (es' := [Plan.row i.1]) I I I I I I I I (le_ble I) I I (AP.q 1 I (AP.ofAO (AO.nil ?_))))))))
 exact lg ⟨(ac.1, i.1.Rates, i.1.Ports, i.1.Pumps, ad.1), S, E, D, h, I, I⟩ [1, 2, 3, 4]
 refine AP.act [] I I I (AX.alloc (cs := [.N, .N, .N]) (m := 3) I I I I I dS (fun E => (AP.act [0] I I I (AX.cg [0] (L.zork_ok A _ _ _ _ ae) ?_))))
 rintro _ _ _ - ⟨D, rfl, rfl, rfl⟩
 refine AP.q 1 I (AP.act [3] I I I (AX.store 3 0 0 (es' := [Plan.row i.1]) I I I I I I I I (le_ble I) I I (AP.q 1 I (AP.ofAO (AO.nil ?_)))))
 exact lg ⟨(ac.1, i.1.Rates, i.1.Ports, i.1.Pumps, ad.1), S, E, D, h, I, I⟩ [1, 2, 4, 3]
 refine AP.act [] I I I (AX.alloc (cs := [.N, .N, .N]) (m := 3) I I I I I dS (fun E => (AP.act [0] I I I (AX.c0 [0] (L.zjbu_ok A _ _ _ al) ?_))))
 refine AP.act [0] I I I (AX.cg [0] (L.zork_ok A _ _ _ _ ae) ?_)
 rintro _ _ _ - ⟨D, rfl, rfl, rfl⟩
 refine AP.q 1 I (AP.act [3] I I I (AX.store 3 0 0 (es' := [Plan.row i.1]) I I I I I I I I (le_ble I) I I (AP.q 1 I (AP.ofAO (AO.nil ?_)))))
 exact lg ⟨(ac.1, i.1.Rates, i.1.Ports, i.1.Pumps, ad.1), S, E, D, h, I, I⟩ [1, 2, 4, 3]
 refine AP.act [] I I I (AX.alloc (cs := [.N, .N, .N]) (m := 3) I I I I I dS (fun E => (AP.act [0] I I I (AX.cg [0] (L.zbhc_ok A _ _ _ _ a0) ?_))))
 rintro _ _ _ - ⟨S, rfl, rfl, rfl⟩
 refine AP.act [0] I I I (AX.c0 [0] (L.zjbu_ok A _ _ _ al) ?_)
 refine AP.act [0] I I I (AX.cg [0] (L.zork_ok A _ _ _ _ ae) ?_)
 rintro _ _ _ - ⟨D, rfl, rfl, rfl⟩
 refine AP.q 1 I (AP.act [2] I I I (AX.store 2 0 0 (es' := [Plan.row i.1]) I I I I I I I I (le_ble I) I I (AP.q 1 I (AP.ofAO (AO.nil ?_)))))
 exact lg ⟨(ac.1, i.1.Rates, i.1.Ports, i.1.Pumps, ad.1), S, E, D, h, I, I⟩ [1, 3, 4, 2]
 rintro s ob ⟨a, aa, e, ab, h, rfl, rfl⟩
 unfold L.zzec.J1 at h
 refine AW.seqG (fun dd bf => (AW.region (AO.q 1 I (AO.p (Yp.convI (c := wr (M)) I I I I I) I (AO.r 2 [.f 0 (.V ((wr (M)).tmod 5))] I ⟨Yp.yd (Yp.binI (c := ((wr (M)).tmod 5)) I I ⟨by decide, I⟩), J⟩ (AO.nil ?_))))))
 subst bf
 refine AW.seqG (fun de bg => ?_)
 obtain ⟨g, bh, h⟩ := ob_some h
 refine AW.region (AO.r 5 [.o 0 0, .o 2 3] I ⟨I, I, J⟩ (AO.ghost (Ghost.freeze [1, 2] (K := [.us aa 44 1 (a.1.map (rL 2 Piece.row)), .us ab 3 1 (a.2.2.2.2.map rI)]) I [(7, .list 1 (a.1.map (rL 2 Piece.row))), (9, .list 1 (a.2.2.2.2.map rI)), (40, .list 1 (a.1.map (rL 2 Piece.row))), (42, .list 1 (a.2.2.2.2.map rI))] ⟨⟨_, I, .us 0 I⟩, ⟨_, I, .us 1 I⟩, ⟨_, I, .us 0 I⟩, ⟨_, I, .us 1 I⟩, J⟩ (ob' := [.arr w 30 6 1 [Network.row n.1], .arr e 37 3 1 [[.list 1 (a.2.1.map rI), .list 1 (a.2.2.1.map rI), .list 1 (a.2.2.2.1.map rB)]]]) (.rest _)) (AO.act [] I (AX.call0 I I I (L.zctt_ok _ _ _ _ _ _ bh) dS ?_))))
 rintro _ _ ⟨u, rfl, rfl⟩
 refine AO.q 7 I (AO.nil ?_)
 subst bg
 refine AW.z I (AW.seqG (fun df bi => ?_))
 obtain ⟨dg, bj, h⟩ := ob_some h
 obtain ⟨a1, bk, bl, bm⟩ := mk_some bj
 refine AW.region (AO.r 3 [.o 1 0, .l 2 (n.1.Ports.length : Int)] I ⟨len_m, I, J⟩ (AO.act [] I (AX.makeU (sz := 1) (es' := List.replicate a1 [.N]) I I I I I I I I I I bk bl I dS (fun B => (AO.ghost (Ghost.toLists (f := Piece.row) 3 a1 2 bm I) (AO.q 1 I (AO.nil ?_)))))))
 subst bi
 refine AW.cutX (fun s ob => ∃ (af : (List (List Piece)) × (List (List Piece))), L.zzec.J2 a g af = some r ∧ s = [(14, .list 1 (af.1.map (rL 2 Piece.row)))] ∧ ob = [.arr e 37 3 1 [[.list 1 (a.2.1.map rI), .list 1 (a.2.2.1.map rI), .list 1 (a.2.2.2.1.map rB)]], .us u 44 1 (g.1.map (rL 2 Piece.row)), .us B 44 1 (af.2.map (rL 2 Piece.row))]) [(7, _), (8, _), (11, _), (12, _), (13, _), (15, _)] ⟨I, I, I, I, I, I, J⟩ ?_ ?_
 refine AW.z I (AW.block ?_)
 obtain ⟨dh, bn, am⟩ := ob_some h
 clear h
 refine AW.loopX bn [(6, _), (7, _), (8, _), (9, _), (10, _), (11, _), (12, _), (13, _), (15, _)] ⟨I, I, I, I, I, I, I, I, I, J⟩ (fun (j : (List (List Piece)) × (List (List Piece)) × Int) s ob => s = [(14, .list 1 (j.1.map (rL 2 Piece.row))), (16, .V j.2.2)] ∧ ob = [.arr w 30 6 1 [Network.row n.1], .arr e 37 3 1 [[.list 1 (a.2.1.map rI), .list 1 (a.2.2.1.map rI), .list 1 (a.2.2.2.1.map rB)]], .us u 44 1 (g.1.map (rL 2 Piece.row)), .us B 44 1 (j.2.1.map (rL 2 Piece.row))]) ⟨I, I⟩ ⟨I, I, J⟩ ⟨[0, 1, 2, 3], I, by decide⟩ ?_
 rintro j a2 s ob ⟨rfl, rfl⟩ h an
 unfold L.zzec.B7 at h
 refine AW.seqG (fun di bo => (AW.z I (AW.ch h I ?_ ?_)))
 intro bp h
 refine AW.skip ?_
 subst bo
 refine AW.cutX (fun s ob => ∃ (F : (List (List Piece)) × (List (List Piece))) (ag : Value), L.zzec.J8 j F = some a2 ∧ s = [(14, .v ag)] ∧ ob = [.arr w 30 6 1 [Network.row n.1], .arr e 37 3 1 [[.list 1 (a.2.1.map rI), .list 1 (a.2.2.1.map rI), .list 1 (a.2.2.2.1.map rB)]], .us u 44 1 (g.1.map (rL 2 Piece.row)), .us B 44 1 (F.2.map (rL 2 Piece.row)), .us ag 44 1 (F.1.map (rL 2 Piece.row))]) [(6, _), (7, _), (8, _), (9, _), (10, _), (11, _), (12, _), (13, _), (15, _), (16, _)] ⟨I, I, I, I, I, I, I, I, I, I, J⟩ ?_ ?_
 refine AW.block (AW.seqG (fun dj bq => ?_))
 obtain ⟨b, br, h⟩ := ob_some h
 refine AW.region (AO.r 4 [.o 0 0, .o 2 1] I ⟨I, I, J⟩ (AO.act [] I (AX.call0 I I I (L.zcgl_ok _ _ _ _ _ br) dS ?_)))
 rintro _ _ ⟨G, U, rfl, rfl⟩
 refine AO.q 7 I (AO.nil ?_)
 subst bq
 refine AW.seqG (fun dk bs => (AW.cutX (fun s ob => s = [(72, .v (.bool ((b.2.2 == 4) || (g.2.2 == 4))))] ∧ ob = [.arr w 30 6 1 [Network.row n.1], .arr e 37 3 1 [[.list 1 (a.2.1.map rI), .list 1 (a.2.2.1.map rI), .list 1 (a.2.2.2.1.map rB)]], .us u 44 1 (g.1.map (rL 2 Piece.row)), .us B 44 1 (j.2.1.map (rL 2 Piece.row)), .us G 44 1 (b.1.map (rL 2 Piece.row)), .us U 44 1 (b.2.1.map (rL 2 Piece.row))]) [(6, _), (7, _), (8, _), (9, _), (10, _), (11, _), (12, _), (13, _), (15, _), (16, _), (17, _), (18, _), (19, _)] ⟨I, I, I, I, I, I, I, I, I, I, I, I, I, J⟩ ?_ ?_))
 refine AW.region (AO.q 3 I ?_)
 rcases bt ((b.2.2 == 4)) with W | W
 refine AO.known 69 I W (AO.q 3 I (AO.nil ?_))
 exact lf ⟨I, I⟩ ⟨(get_b (by simp only [W, bz])), I, I, I, I, I, I, I, I, I, I, I, I, I, J⟩ [0, 1, 2, 3, 4, 5] I
 refine AO.known 69 I W (AO.q 3 I (AO.nil ?_))
 exact lf ⟨I, I⟩ ⟨(get_b (by simp only [W, bz])), I, I, I, I, I, I, I, I, I, I, I, I, I, J⟩ [0, 1, 2, 3, 4, 5] I
 rintro s ob ⟨rfl, rfl⟩
 refine AW.ch h I ?_ ?_
 intro bu h
 refine AW.seq ?_
 obtain ⟨dl, bv, h⟩ := ob_some h
 refine AW.region (AO.c (L.zdqe_ok  _ bv) (AO.q 1 I (AO.nil ?_)))
 obtain rfl := an _ (oi h).symm
 replace h := am
 replace h := se_l h
 refine AW.ghost g0 ?_
 obtain rfl := oi h
 exact AW.ret pr
 intro bu h
 refine AW.skip ?_
 subst bs
 refine AW.seqG (fun dm bw => (AW.cutX (fun s ob => s = [(82, .v (.bool ((b.2.2 != 0) || ((b.2.1.length : Int) != (j.2.1.length : Int)))))] ∧ ob = [.arr w 30 6 1 [Network.row n.1], .arr e 37 3 1 [[.list 1 (a.2.1.map rI), .list 1 (a.2.2.1.map rI), .list 1 (a.2.2.2.1.map rB)]], .us u 44 1 (g.1.map (rL 2 Piece.row)), .us B 44 1 (j.2.1.map (rL 2 Piece.row)), .us G 44 1 (b.1.map (rL 2 Piece.row)), .us U 44 1 (b.2.1.map (rL 2 Piece.row))]) [(6, _), (7, _), (8, _), (9, _), (10, _), (11, _), (12, _), (13, _), (15, _), (16, _), (17, _), (18, _)] ⟨I, I, I, I, I, I, I, I, I, I, I, I, J⟩ ?_ ?_))
 refine AW.region (AO.q 3 I ?_)
 rcases bt ((b.2.2 != 0)) with X | X
 refine AO.known 76 I X (AO.q 6 I (AO.nil ?_))
 exact lf ⟨I, I⟩ ⟨(get_b (by simp only [X, bz])), I, I, I, I, I, I, I, I, I, I, I, I, J⟩ [0, 1, 2, 3, 4, 5] I
 refine AO.known 76 I X (AO.q 1 I (AO.gt I I I (AO.d (Yd.lenUM 5 I I I I) I (AO.q 1 I (AO.gt I I I (AO.d (Yd.lenUM 3 I I I I) I (AO.q 2 I (AO.nil ?_))))))))
 exact lf ⟨I, I⟩ ⟨(get_b (by simp only [X, bz])), I, I, I, I, I, I, I, I, I, I, I, I, J⟩ [0, 1, 2, 3, 4, 5] I
 rintro s ob ⟨rfl, rfl⟩
 refine AW.ch h I ?_ ?_
 intro bx h
 refine AW.z I ?_
 obtain rfl := an _ (oi h).symm
 replace h := am
 replace h := se_l h
 refine AW.ghost g0 ?_
 obtain rfl := oi h
 exact AW.ret pr
 intro bx h
 refine AW.skip ?_
 subst bw
 refine AW.cutX (fun s ob => ∃ (ah : List (List Piece)), L.zzec.J9 j b ah = some a2 ∧ s = [] ∧ ob = [.arr w 30 6 1 [Network.row n.1], .arr e 37 3 1 [[.list 1 (a.2.1.map rI), .list 1 (a.2.2.1.map rI), .list 1 (a.2.2.2.1.map rB)]], .us u 44 1 (g.1.map (rL 2 Piece.row)), .us B 44 1 (ah.map (rL 2 Piece.row)), .us G 44 1 (b.1.map (rL 2 Piece.row))]) [(6, _), (7, _), (8, _), (9, _), (10, _), (11, _), (12, _), (13, _), (15, _), (16, _), (17, _)] ⟨I, I, I, I, I, I, I, I, I, I, I, J⟩ ?_ ?_
 refine AW.seqG (fun dn b0 => (AW.region (AO.q 1 I (AO.d (Yd.lenUM 3 I I I I) I (AO.q 1 I (AO.nil ?_))))))
 subst b0
 refine AW.block (AW.usMax 3 I (fun ao => ?_))
 replace ao : j.2.1.length ≤ 9223372036854775806 := by rw [List.length_map] at ao; omega
 obtain ⟨dp, b1, b2⟩ := ob_some h
 clear h
 refine AW.forJY b1 [(6, _), (7, _), (8, _), (9, _), (10, _), (11, _), (12, _), (13, _), (15, _), (16, _), (17, _), (18, _), (84, _)] ⟨I, I, I, I, I, I, I, I, I, I, I, I, I, J⟩ (fun (ai : Nat) (O : List (List Piece)) s ob => s = [(85, .V (ai : Int))] ∧ ob = [.arr w 30 6 1 [Network.row n.1], .arr e 37 3 1 [[.list 1 (a.2.1.map rI), .list 1 (a.2.2.1.map rI), .list 1 (a.2.2.2.1.map rB)]], .us u 44 1 (g.1.map (rL 2 Piece.row)), .us B 44 1 (O.map (rL 2 Piece.row)), .us G 44 1 (b.1.map (rL 2 Piece.row)), .us U 44 1 (b.2.1.map (rL 2 Piece.row))]) ⟨I, I⟩ ⟨I, J⟩ ⟨[0, 1, 2, 3, 4, 5], I, by decide⟩ ?_ ?_
 rintro ai O dq s ob b3 ⟨rfl, rfl⟩ h
 unfold L.zzec.B10 at h
 have b4 : decide ((ai : Int) < (j.2.1.length : Int)) = true := decide_eq_true (by omega)
 refine AW.z I (AW.seqG (fun dr b6 => (AW.condK (v := true) I b4 (AW.skip ?_))))
 subst b6
 refine AW.seq (AW.block (AW.z I ?_))
 obtain ⟨H, b7, h⟩ := ob_some h
 obtain ⟨a3, P⟩ := ix_some b7
 obtain ⟨ds, b8, h⟩ := ob_some h
 obtain ⟨aj, ca, h⟩ := ob_some h
 obtain ⟨cb, aq⟩ := ix_some ca
 obtain ⟨a4, cc, h⟩ := ob_some h
 obtain ⟨ar, cd, h⟩ := ob_some h
 refine AW.form 3 H.1 I P (fun ce => (AW.form 5 aj.1 I aq (fun cf => (AW.form 3 H.1 I P (fun ci => (AW.rd (.still 0 (.still 1 (.still 3 (.still 4 (.still 5 (.still 6 (.still 8 (.still 9 (.still 10 (.still 11 (.act 2 (.act 7 (.act 12 (.act 13 (.still 14 (.drop 15 .nil)))))))))))))))) [3, 5] [_, _] I (AP.q 4 I (AP.op I (Yp.indexUf (m := H.1) I I I I I ce I a3 P) I (AP.o I (Yd.loadU 0 H.1 0 I I I (map_get P) I (y := .list 2 (H.2.map Piece.row)) I) I (AP.q 2 I (AP.op I (Yp.indexUf (m := aj.1) I I I I I cf I cb aq) I (AP.o I (Yd.loadU 1 aj.1 0 I I I (map_get aq) I (y := .list 2 (aj.2.map Piece.row)) I) I (AP.act [] I I I (AX.buildSlice (sz := 2) (es := ([] : List Piece).map Piece.row) I I I I I I I I I I I dS (fun dt => (AP.act [6] I I I (AX.ap 6 I b8 (fun du => (AP.act [6] I I I (AX.ap 6 I cc (fun cj => ?_)))))))))))))))))))))
 refine AP.ghostS (Ghost.freeze [6] (K := [.us cj 46 2 (a4.map Piece.row)]) I [(100, .list 2 (a4.map Piece.row))] ⟨⟨_, I, .us 0 I⟩, J⟩ (ob' := [.arr w 30 6 1 [Network.row n.1], .arr e 37 3 1 [[.list 1 (a.2.1.map rI), .list 1 (a.2.2.1.map rI), .list 1 (a.2.2.2.1.map rB)]], .us u 44 1 (g.1.map (rL 2 Piece.row)), .us B 44 1 (O.map (rL 2 Piece.row)), .us G 44 1 (b.1.map (rL 2 Piece.row)), .us U 44 1 (b.2.1.map (rL 2 Piece.row))]) (.rest _)) I (AP.act [] I I I (AX.call0 I I I (L.zuyb_ok _ _ cd) dS ?_))
 rintro _ _ ⟨ck, rfl, rfl⟩
 refine AP.op I (Yp.indexUf (m := H.1) I I I I I ci I a3 P) I (AP.ghostS (Ghost.freeze [6] (K := [.us ck 46 2 (ar.map Piece.row)]) I [(101, .list 2 (ar.map Piece.row))] ⟨⟨_, I, .us 0 I⟩, J⟩ (ob' := [.arr w 30 6 1 [Network.row n.1], .arr e 37 3 1 [[.list 1 (a.2.1.map rI), .list 1 (a.2.2.1.map rI), .list 1 (a.2.2.2.1.map rB)]], .us u 44 1 (g.1.map (rL 2 Piece.row)), .us B 44 1 (O.map (rL 2 Piece.row)), .us G 44 1 (b.1.map (rL 2 Piece.row)), .us U 44 1 (b.2.1.map (rL 2 Piece.row))]) (.rest _)) I (AP.drop [3] I I I (AX.storeU 3 H.1 0 I I I (map_get P) I I I I (le_ble I) I (us_set (x := ar) I) (AP.ofAO (AO.nil (AW.region (AO.r 2 [.k 0 (ai + 1 : Nat)] I ⟨cast_wr b3 ao, J⟩ ?_)))))))
 obtain rfl := oi h
 refine AO.nil ?_
 exact lg ⟨I, I⟩ [0, 1, 2, 3, 4, 5]
 rintro O s ob ⟨rfl, rfl⟩ he
 subst he
 have h := b2
 have cl : decide (((j.2.1.length : Nat) : Int) < (j.2.1.length : Int)) = false := by simp
 refine AW.z I (AW.seqG (fun dv dw => (AW.condK (v := false) I cl (AW.exit ?_))))
 exact lg ⟨O, h, I, I⟩ [0, 1, 2, 3, 4]
 rintro s ob ⟨ah, h, rfl, rfl⟩
 unfold L.zzec.J9 at h
 refine AW.t I ?_
 exact lg ⟨(b.1, ah), G, h, I, I⟩ [0, 1, 2, 3, 4]
 rintro s ob ⟨F, ag, h, rfl, rfl⟩
 unfold L.zzec.J8 at h
 refine AW.region (AO.q 3 I (AO.ghost (Ghost.freeze [4] (K := [.us ag 44 1 (F.1.map (rL 2 Piece.row))]) I [(14, .list 1 (F.1.map (rL 2 Piece.row)))] ⟨⟨_, I, .us 0 I⟩, J⟩ (ob' := [.arr w 30 6 1 [Network.row n.1], .arr e 37 3 1 [[.list 1 (a.2.1.map rI), .list 1 (a.2.2.1.map rI), .list 1 (a.2.2.2.1.map rB)]], .us u 44 1 (g.1.map (rL 2 Piece.row)), .us B 44 1 (F.2.map (rL 2 Piece.row))]) (.rest _)) ?_))
 obtain rfl := oi h
 refine AO.nil ?_
 exact ⟨_, _, _, I, ⟨I, I⟩, ⟨I, I, I, I, I, I, I, I, I, I, I, J⟩, [0, 1, 2, 3], I, by decide⟩
 intro bp h
 obtain rfl := an _ (oi h).symm
 replace h := am
 replace h := se_r h
 refine AW.exit ?_
 exact lg ⟨(j.1, j.2.1), h, I, I⟩ [1, 2, 3]
 rintro s ob ⟨af, h, rfl, rfl⟩
 unfold L.zzec.J2 at h
 refine AW.seqG (fun dx cm => (AW.cutX (fun s ob => ∃ (au : Bool), L.zzec.J3 a g au = some r ∧ s = [(118, .v (.bool au))] ∧ ob = [.arr e 37 3 1 [[.list 1 (a.2.1.map rI), .list 1 (a.2.2.1.map rI), .list 1 (a.2.2.2.1.map rB)]], .us u 44 1 (g.1.map (rL 2 Piece.row))]) [(7, _), (8, _), (11, _)] ⟨I, I, I, J⟩ ?_ ?_))
 rcases bt ((g.2.2 != 0)) with Q | Q
 replace h := ife_t Q h
 refine AW.region (AO.q 3 I (AO.known 107 I Q (AO.q 11 I (AO.nil ?_))))
 exact lg ⟨true, h, I, I⟩ [0, 1]
 replace h := ife_f Q h
 obtain ⟨cn, a5, h⟩ := ob_some h
 rcases bt ((!cn)) with Y | Y
 replace h := ife_t Y h
 refine AW.region (AO.q 3 I (AO.known 107 I Q (AO.q 2 I (AO.gt I I I (AO.act [] I (AX.callL I (.refl _) I I (.cons (.refl _) (.cons (.us 1 I) (.rest _))) I (L.zkma_ok _ _ _ a5) dS (by rintro _ _ ⟨rfl, _⟩; rfl) ?_))))))
 rintro _ ⟨_, rfl, -⟩
 refine AO.q 3 I (AO.known 113 I Y (AO.q 5 I (AO.nil ?_)))
 exact lg ⟨true, h, I, I⟩ [0, 1]
 replace h := ife_f Y h
 obtain ⟨co, cp, h⟩ := ob_some h
 refine AW.region (AO.q 3 I (AO.known 107 I Q (AO.q 2 I (AO.gt I I I (AO.act [] I (AX.callL I (.refl _) I I (.cons (.refl _) (.cons (.us 1 I) (.rest _))) I (L.zkma_ok _ _ _ a5) dS (by rintro _ _ ⟨rfl, _⟩; rfl) ?_))))))
 rintro _ ⟨_, rfl, -⟩
 refine AO.q 3 I (AO.known 113 I Y (AO.q 2 I (AO.gt I I I (AO.act [] I (AX.callL I (.refl _) I I (.cons (.us 2 I) (.rest _)) I (L.zkma_ok _ _ _ cp) dS (by rintro _ _ ⟨rfl, _⟩; rfl) ?_)))))
 rintro _ ⟨_, rfl, -⟩
 refine AO.q 2 I (AO.nil ?_)
 exact lg ⟨(!co), h, I, I⟩ [0, 1]
 rintro s ob ⟨au, h, rfl, rfl⟩
 unfold L.zzec.J3 at h
 refine AW.ch h I ?_ ?_
 intro cq h
 refine AW.z I (AW.ghost g0 ?_)
 obtain rfl := oi h
 exact AW.ret pr
 intro cq h
 refine AW.skip ?_
 subst cm
 refine AW.cutX (fun s ob => ∃ (a6 : Unit), L.zzec.J4 a6 = some r ∧ s = [] ∧ ob = []) [] J ?_ ?_
 refine AW.zr [.o 1 0, .l 2 (a.2.1.length : Int)] I ⟨len_m, I, J⟩ (AW.block (AW.listMax 120 I (fun av => ?_)))
 replace av : a.2.1.length ≤ 9223372036854775806 := by rw [List.length_map] at av; omega
 obtain ⟨dy, cr, a7⟩ := ob_some h
 clear h
 refine AW.forX cr [(7, _), (8, _), (11, _), (121, _)] ⟨I, I, I, I, J⟩ (fun (R : Nat) (a8 : Unit) s ob => s = [(122, .V (R : Int))] ∧ ob = [.arr e 37 3 1 [[.list 1 (a.2.1.map rI), .list 1 (a.2.2.1.map rI), .list 1 (a.2.2.2.1.map rB)]], .us u 44 1 (g.1.map (rL 2 Piece.row))]) ⟨I, I⟩ ⟨I, J⟩ ⟨[0, 1], I, by decide⟩ ?_ ?_
 rintro R aw a8 ct s ob a9 cu ⟨rfl, rfl⟩ h cv
 unfold L.zzec.B5 at h
 have cw : decide ((R : Int) < (a.2.1.length : Int)) = true := decide_eq_true (by omega)
 refine AW.z I (AW.seqG (fun dz cx => (AW.condK (v := true) I cw (AW.skip ?_))))
 subst cx
 refine AW.seq (AW.block (AW.z I (AW.cutX (fun s ob => ∃ (ax : Bool), L.zzec.J6 ax = some ct ∧ s = [(142, .v (.bool ax))] ∧ ob = [.arr e 37 3 1 [[.list 1 (a.2.1.map rI), .list 1 (a.2.2.1.map rI), .list 1 (a.2.2.2.1.map rB)]], .us u 44 1 (g.1.map (rL 2 Piece.row))]) [(7, _), (8, _), (11, _), (121, _), (122, _)] ⟨I, I, I, I, I, J⟩ ?_ ?_)))
 rcases bt ((aw == 0)) with Z | Z
 replace h := ife_t Z h
 obtain ⟨ak, cy, h⟩ := ob_some h
 obtain ⟨cz, ay⟩ := ix_some cy
 obtain ⟨ba, c1, h⟩ := ob_some h
 obtain ⟨c2, c3⟩ := ix_some c1
 obtain ⟨c4, c5, h⟩ := ob_some h
 refine AW.form 1 ak.1 I ay (fun c6 => (AW.rd (pd 18 0 [15]) [0, 1] [_, _] I (AP.r 7 [.o 1 0, .x 3 R (rI aw)] I ⟨⟨I, map_get a9⟩, I, J⟩ (AP.known 131 I Z (AP.q 2 I (AP.oldG I I I I ((Yp.indexUf (m := ak.1) I I I I I c6 I cz ay).yd) dS (AP.oldG I I I I (Yd.loadU 1 ak.1 0 I I I (map_get ay) I (y := .list 2 (ak.2.map Piece.row)) I) dS (AP.r 4 [.x 2 ba.1 ((rL 2 Piece.row) ba.2)] I ⟨⟨c2, map_get c3⟩, J⟩ (AP.cG I (L.zjsx_ok _ _ _ c5) (AP.q 2 I (AP.ofAO (AO.nil ?_))))))))))))
 exact lg ⟨(!c4), h, I, I⟩ [0, 1]
 replace h := ife_f Z h
 refine AW.rd (pd 18 0 [15]) [0] [_] I (AP.r 7 [.o 1 0, .x 3 R (rI aw)] I ⟨⟨I, map_get a9⟩, I, J⟩ (AP.known 131 I Z (AP.q 11 I (AP.ofAO (AO.nil ?_)))))
 exact lg ⟨false, h, I, I⟩ [0, 1]
 rintro s ob ⟨ax, h, rfl, rfl⟩
 unfold L.zzec.J6 at h
 refine AW.ch h I ?_ ?_
 intro c7 h
 refine AW.z I ?_
 obtain rfl := cv _ (oi h).symm
 replace h := a7
 replace h := se_r h
 refine AW.ghost g0 ?_
 obtain rfl := oi h
 exact AW.ret pr
 intro c7 h
 refine AW.skip (AW.region (AO.r 2 [.k 0 (R + 1 : Nat)] I ⟨cast_wr cu av, J⟩ ?_))
 obtain rfl := oi h
 refine AO.nil ?_
 exact ⟨_, _, _, I, ⟨I, I⟩, ⟨I, I, I, I, I, J⟩, [0, 1], I, by decide⟩
 rintro a8 s ob ⟨rfl, rfl⟩ he
 subst he
 have h := se_l a7
 have c8 : decide (((a.2.1.length : Nat) : Int) < (a.2.1.length : Int)) = false := by simp
 refine AW.z I (AW.seqG (fun d0 d1 => (AW.condK (v := false) I c8 (AW.exit ?_))))
 exact lg ⟨(), h, I, I⟩ []
 rintro s ob ⟨a6, h, rfl, rfl⟩
 unfold L.zzec.J4 at h
 refine AW.seq ?_
 obtain ⟨d2, c9, h⟩ := ob_some h
 refine AW.region (AO.c (L.zdqe_ok  _ c9) (AO.q 1 I (AO.nil ?_)))
 obtain rfl := oi h
 exact AW.ret pr
end Go.Proofs.Ytligpmmgdjipbaa
