/- Walks that show what functions of the program compute; printed by a program of ours. No condition. -/
import Derived.Test.YtligpmmgdjipbaaZvLa4
import Derived.Test.YtligpmmgdjipbaaZvL4c
import Derived.Test.YtligpmmgdjipbaaZvL4b
import Derived.Test.YtligpmmgdjipbaaZvP0
set_option maxRecDepth 100000
namespace Go.Proofs.Ytligpmmgdjipbaa
open Go.Aw
set_option linter.unusedVariables false
set_option linter.unusedSimpArgs false
set_option maxHeartbeats 4000000
theorem L.zzja_ok (a : List Piece) (i : Int) (r : Int) (h : L.zzja a i = some r) : ACalls Try.env 41 [.list 2 (a.map Piece.row), .V i] [] (fun x new => x = .V r ∧ new = []) := by
 refine ACalls.of_body Try.func41 rfl rfl rfl (fun C hC => ?_)
 unfold L.zzja at h
 refine AW.z I (AW.z I (AW.cutX (fun s ob => ∃ (d : Int), L.zzja.J1 d = some r ∧ s = [(5, .V d)] ∧ ob = []) [] J ?_ ?_))
 refine AW.zr [.l 1 (a.length : Int)] I ⟨len_m, J⟩ (AW.block (AW.listMax 8 I (fun e => ?_)))
 replace e : a.length ≤ 9223372036854775806 := by rw [List.length_map] at e; omega
 obtain ⟨D, j, n⟩ := ob_some h
 clear h
 refine AW.forY j [(1, _), (8, _), (9, _)] ⟨I, I, I, J⟩ (fun (c : Nat) (b : Int) s ob => s = [(10, .V (c : Int)), (5, .V b)] ∧ ob = []) ⟨I, I⟩ ⟨I, I, J⟩ ⟨[], I, by decide⟩ ?_ ?_
 rintro c f b p s ob q t ⟨rfl, rfl⟩ h
 unfold L.zzja.B2 at h
 have u : decide ((c : Int) < (a.length : Int)) = true := decide_eq_true (by omega)
 refine AW.z I (AW.seqG (fun E w => (AW.condK (v := true) I u (AW.skip ?_))))
 subst w
 refine AW.cutX (fun s ob => ∃ (g : Int), L.zzja.J3 g = some p ∧ s = [(5, .V g)] ∧ ob = []) [(1, _), (8, _), (9, _), (10, _)] ⟨I, I, I, I, J⟩ ?_ ?_
 refine AW.block (AW.seqG (fun F y => (AW.region (AO.r 2 [.x 0 c (Piece.row f)] I ⟨⟨I, map_get q⟩, J⟩ (AO.act [] I (AX.alloc (cs := [.V 0, .V 0]) (m := 2) I I I I I dS (fun G => (AO.act [0] I (AX.store 0 0 0 (es' := [Piece.row f]) I I I I I I I I (le_ble I) I I (AO.nil ?_))))))))))
 subst y
 refine AW.zr [.o 1 0] I ⟨I, J⟩ (AW.ch h I ?_ ?_)
 intro A h
 refine AW.tr [.o 2 0] I ⟨I, J⟩ ?_
 exact lg ⟨wr (b + f.Volume), h, I, I⟩ []
 intro A h
 refine AW.skip ?_
 exact lg ⟨b, h, I, I⟩ []
 rintro s ob ⟨g, h, rfl, rfl⟩
 unfold L.zzja.J3 at h
 refine AW.region (AO.r 2 [.k 0 (c + 1 : Nat)] I ⟨cast_wr t e, J⟩ ?_)
 obtain rfl := oi h
 refine AO.nil ?_
 exact lg ⟨I, I⟩ []
 rintro b s ob ⟨rfl, rfl⟩ he
 subst he
 have h := n
 have B : decide (((a.length : Nat) : Int) < (a.length : Int)) = false := by simp
 refine AW.z I (AW.seqG (fun H K => (AW.condK (v := false) I B (AW.exit ?_))))
 exact lg ⟨b, h, I, I⟩ []
 rintro s ob ⟨d, h, rfl, rfl⟩
 unfold L.zzja.J1 at h
 refine AW.z I ?_
 obtain rfl := oi h
 exact AW.ret pr
theorem L.zlet_ok (a : List (List Piece)) (g : Int) (r : Int) (h : L.zlet a g = some r) : ACalls Try.env 22 [.list 1 (a.map (rL 2 Piece.row)), .V g] [] (fun x new => x = .V r ∧ new = []) := by
 refine ACalls.of_body Try.func22 rfl rfl rfl (fun C hC => ?_)
 unfold L.zlet at h
 refine AW.z I (AW.z I (AW.cutX (fun s ob => ∃ (e : Int), L.zlet.J1 e = some r ∧ s = [(5, .V e)] ∧ ob = []) [] J ?_ ?_))
 refine AW.zr [.l 1 (a.length : Int)] I ⟨len_m, J⟩ (AW.block (AW.listMax 7 I (fun f => ?_)))
 replace f : a.length ≤ 9223372036854775806 := by rw [List.length_map] at f; omega
 obtain ⟨y, i, j⟩ := ob_some h
 clear h
 refine AW.forY i [(0, _), (1, _), (8, _)] ⟨I, I, I, J⟩ (fun (b : Nat) (d : Int) s ob => s = [(9, .V (b : Int)), (5, .V d)] ∧ ob = []) ⟨I, I⟩ ⟨I, I, J⟩ ⟨[], I, by decide⟩ ?_ ?_
 rintro b m d A s ob n o ⟨rfl, rfl⟩ h
 unfold L.zlet.B2 at h
 have p : decide ((b : Int) < (a.length : Int)) = true := decide_eq_true (by omega)
 refine AW.z I (AW.seqG (fun B t => (AW.condK (v := true) I p (AW.skip ?_))))
 subst t
 refine AW.seq (AW.block (AW.z I ?_))
 obtain ⟨D, u, h⟩ := ob_some h
 refine AW.region (AO.r 6 [.x 3 b ((rL 2 Piece.row) m)] I ⟨⟨I, map_get n⟩, J⟩ (AO.c (L.zzja_ok _ _ _ u) (AO.q 2 I (AO.nil (AW.region (AO.r 2 [.k 0 (b + 1 : Nat)] I ⟨cast_wr o f, J⟩ ?_))))))
 obtain rfl := oi h
 refine AO.nil ?_
 exact lg ⟨I, I⟩ []
 rintro d s ob ⟨rfl, rfl⟩ he
 subst he
 have h := j
 have w : decide (((a.length : Nat) : Int) < (a.length : Int)) = false := by simp
 refine AW.z I (AW.seqG (fun E F => (AW.condK (v := false) I w (AW.exit ?_))))
 exact lg ⟨d, h, I, I⟩ []
 rintro s ob ⟨e, h, rfl, rfl⟩
 unfold L.zlet.J1 at h
 refine AW.z I ?_
 obtain rfl := oi h
 exact AW.ret pr
theorem L.zaho_ok (Y : List Int) (i : Int) (r : Bool) (h : L.zaho Y i = some r) : ACalls Try.env 5 [.list 1 (Y.map rI), .v (.int .u8 i)] [] (fun x new => x = .v (.bool r) ∧ new = []) := by
 refine ACalls.of_body Try.func5 rfl rfl rfl (fun C hC => ?_)
 unfold L.zaho at h
 refine AW.z I (AW.seqG (fun y2 an => ?_))
 obtain ⟨r3, ao, h⟩ := ob_some h
 refine AW.region (AO.q 1 I (AO.act [] I (AX.call0 I I I (L.ziti_ok _ _ ao) dS ?_)))
 rintro _ _ ⟨g, rfl, rfl⟩
 refine AO.q 1 I (AO.nil ?_)
 subst an
 refine AW.seqG (fun y6 ap => ?_)
 obtain ⟨t, aq, h⟩ := ob_some h
 refine AW.region (AO.q 1 I (AO.act [0] I (AX.c0 [0] (L.zeju_ok g _ _ aq) ?_)))
 refine AO.act [] I (AX.alloc (cs := [.N, .N, .N, .N, .V 0, .V 0]) (m := 6) I I I I I dS (fun Z => (AO.act [1] I (AX.store 1 0 0 (es' := [Network.row t.1]) I I I I I I I I (le_ble I) I I (AO.nil ?_)))))
 subst ap
 refine AW.cutX (fun s ob => ∃ (a : (List (List Piece)) × (List Int) × (List Int) × (List Bool) × (List Int)) (F : Value) (e : Nat) (G : Value), L.zaho.J1 i t a = some r ∧ s = [(7, .v F), (8, .v (.pointer (some ⟨e, 0, none⟩))), (9, .v G)] ∧ ob = [.arr Z 30 6 1 [Network.row t.1], .us F 44 1 (a.1.map (rL 2 Piece.row)), .us G 3 1 (a.2.2.2.2.map rI), .arr e 37 3 1 [[.list 1 (a.2.1.map rI), .list 1 (a.2.2.1.map rI), .list 1 (a.2.2.2.1.map rB)]]]) [(1, _), (6, _)] ⟨I, I, J⟩ ?_ ?_
 obtain ⟨H, aa, h⟩ := ob_some h
 obtain ⟨d, Q, h⟩ := ob_some h
 obtain ⟨M, O, h⟩ := ob_some h
 refine AW.rd (.still 0 (.still 1 (.still 3 (.still 4 (.still 6 (.still 7 (.two 2 9 (.two 5 9 (.two 8 9 (.act 9 (.still 10 (.act 11 (.still 12 .nil)))) (.act 8 (.still 10 (.act 11 (.still 12 .nil))))) (.act 5 (.act 8 (.still 10 (.act 11 (.still 12 .nil)))))) (.act 2 (.act 5 (.act 8 (.still 10 (.act 11 (.still 12 .nil))))))))))))) [1] [_] I (AP.r 6 [.o 1 0, .o 3 0, .o 5 0] I ⟨I, I, I, J⟩ (AP.two ?_ ?_))
 refine AP.act [0] I I I (AX.cg [0] (L.zbhc_ok g _ _ _ _ aa) ?_)
 rintro _ _ _ - ⟨A, rfl, rfl, rfl⟩
 refine AP.two ?_ ?_
 refine AP.act [0] I I I (AX.c0 [0] (L.zjbu_ok g _ _ _ Q) ?_)
 refine AP.two ?_ ?_
 refine AP.act [0] I I I (AX.cg [0] (L.zork_ok g _ _ _ _ O) ?_)
 rintro _ _ _ - ⟨j, rfl, rfl, rfl⟩
 refine AP.act [] I I I (AX.alloc (cs := [.N, .N, .N]) (m := 3) I I I I I dS (fun n => (AP.q 1 I (AP.act [4] I I I (AX.store 4 0 0 (es' := [Plan.row d.1]) I I I I I I I I (le_ble I) I I (AP.q 1 I (AP.ofAO (AO.nil ?_))))))))
 exact lg ⟨(H.1, d.1.Rates, d.1.Ports, d.1.Pumps, M.1), A, n, j, h, I, I⟩ [1, 2, 3, 4]
 refine AP.act [] I I I (AX.alloc (cs := [.N, .N, .N]) (m := 3) I I I I I dS (fun n => (AP.act [0] I I I (AX.cg [0] (L.zork_ok g _ _ _ _ O) ?_))))
 rintro _ _ _ - ⟨j, rfl, rfl, rfl⟩
 refine AP.q 1 I (AP.act [3] I I I (AX.store 3 0 0 (es' := [Plan.row d.1]) I I I I I I I I (le_ble I) I I (AP.q 1 I (AP.ofAO (AO.nil ?_)))))
 exact lg ⟨(H.1, d.1.Rates, d.1.Ports, d.1.Pumps, M.1), A, n, j, h, I, I⟩ [1, 2, 4, 3]
 refine AP.act [] I I I (AX.alloc (cs := [.N, .N, .N]) (m := 3) I I I I I dS (fun n => (AP.act [0] I I I (AX.c0 [0] (L.zjbu_ok g _ _ _ Q) ?_))))
 refine AP.act [0] I I I (AX.cg [0] (L.zork_ok g _ _ _ _ O) ?_)
 rintro _ _ _ - ⟨j, rfl, rfl, rfl⟩
 refine AP.q 1 I (AP.act [3] I I I (AX.store 3 0 0 (es' := [Plan.row d.1]) I I I I I I I I (le_ble I) I I (AP.q 1 I (AP.ofAO (AO.nil ?_)))))
 exact lg ⟨(H.1, d.1.Rates, d.1.Ports, d.1.Pumps, M.1), A, n, j, h, I, I⟩ [1, 2, 4, 3]
 refine AP.act [] I I I (AX.alloc (cs := [.N, .N, .N]) (m := 3) I I I I I dS (fun n => (AP.act [0] I I I (AX.cg [0] (L.zbhc_ok g _ _ _ _ aa) ?_))))
 rintro _ _ _ - ⟨A, rfl, rfl, rfl⟩
 refine AP.act [0] I I I (AX.c0 [0] (L.zjbu_ok g _ _ _ Q) ?_)
 refine AP.act [0] I I I (AX.cg [0] (L.zork_ok g _ _ _ _ O) ?_)
 rintro _ _ _ - ⟨j, rfl, rfl, rfl⟩
 refine AP.q 1 I (AP.act [2] I I I (AX.store 2 0 0 (es' := [Plan.row d.1]) I I I I I I I I (le_ble I) I I (AP.q 1 I (AP.ofAO (AO.nil ?_)))))
 exact lg ⟨(H.1, d.1.Rates, d.1.Ports, d.1.Pumps, M.1), A, n, j, h, I, I⟩ [1, 3, 4, 2]
 rintro s ob ⟨a, F, e, G, h, rfl, rfl⟩
 unfold L.zaho.J1 at h
 refine AW.seqG (fun b6 ar => (AW.region (AO.q 1 I (AO.p (Yp.convI (c := wr (i)) I I I I I) I (AO.r 2 [.f 0 (.V ((wr (i)).tmod 8))] I ⟨Yp.yd (Yp.binI (c := ((wr (i)).tmod 8)) I I ⟨by decide, I⟩), J⟩ (AO.nil ?_))))))
 subst ar
 refine AW.seqG (fun b7 au => ?_)
 obtain ⟨b, av, h⟩ := ob_some h
 refine AW.region (AO.r 5 [.o 0 0, .o 2 3] I ⟨I, I, J⟩ (AO.ghost (Ghost.freeze [1, 2] (K := [.us F 44 1 (a.1.map (rL 2 Piece.row)), .us G 3 1 (a.2.2.2.2.map rI)]) I [(7, .list 1 (a.1.map (rL 2 Piece.row))), (9, .list 1 (a.2.2.2.2.map rI)), (36, .list 1 (a.1.map (rL 2 Piece.row))), (38, .list 1 (a.2.2.2.2.map rI))] ⟨⟨_, I, .us 0 I⟩, ⟨_, I, .us 1 I⟩, ⟨_, I, .us 0 I⟩, ⟨_, I, .us 1 I⟩, J⟩ (ob' := [.arr Z 30 6 1 [Network.row t.1], .arr e 37 3 1 [[.list 1 (a.2.1.map rI), .list 1 (a.2.2.1.map rI), .list 1 (a.2.2.2.1.map rB)]]]) (.rest _)) (AO.act [] I (AX.call0 I I I (L.zctt_ok _ _ _ _ _ _ av) dS ?_))))
 rintro _ _ ⟨u, rfl, rfl⟩
 refine AO.q 7 I (AO.nil ?_)
 subst au
 refine AW.seqG (fun b8 aw => (AW.z I (AW.ch h I ?_ ?_)))
 intro ax h
 refine AW.seq ?_
 obtain ⟨ca, ay, h⟩ := ob_some h
 refine AW.region (AO.c (L.zdqe_ok  _ ay) (AO.q 1 I (AO.nil (AW.ghost g0 ?_))))
 obtain rfl := oi h
 exact AW.ret pr
 intro ax h
 refine AW.skip ?_
 subst aw
 refine AW.seqG (fun cb az => (AW.cutX (fun s ob => ∃ (R : Bool), L.zaho.J2 i a b R = some r ∧ s = [(62, .v (.bool R))] ∧ ob = [.arr e 37 3 1 [[.list 1 (a.2.1.map rI), .list 1 (a.2.2.1.map rI), .list 1 (a.2.2.2.1.map rB)]], .us u 44 1 (b.1.map (rL 2 Piece.row))]) [(7, _), (8, _), (9, _), (10, _), (11, _), (12, _)] ⟨I, I, I, I, I, I, J⟩ ?_ ?_))
 rcases bt ((b.2.2 != 0)) with w | w
 replace h := ife_t w h
 refine AW.region (AO.q 3 I (AO.known 49 I w (AO.q 13 I (AO.nil ?_))))
 exact lg ⟨true, h, I, I⟩ [1, 2]
 replace h := ife_f w h
 obtain ⟨a0, ab, h⟩ := ob_some h
 rcases bt ((a0 != 0)) with B | B
 replace h := ife_t B h
 refine AW.region (AO.q 3 I (AO.known 49 I w (AO.r 2 [.o 0 0] I ⟨I, J⟩ (AO.gt I I I (AO.act [] I (AX.callL I (.refl _) I I (.cons (.refl _) (.cons (.us 2 I) (.rest _))) I (L.zspo_ok _ _ _ ab) dS (by rintro _ _ ⟨rfl, _⟩; rfl) ?_))))))
 rintro _ ⟨_, rfl, -⟩
 refine AO.q 3 I (AO.known 55 I B (AO.q 7 I (AO.nil ?_)))
 exact lg ⟨true, h, I, I⟩ [1, 2]
 replace h := ife_f B h
 refine AW.region (AO.q 3 I (AO.known 49 I w (AO.r 2 [.o 0 0] I ⟨I, J⟩ (AO.gt I I I (AO.act [] I (AX.callL I (.refl _) I I (.cons (.refl _) (.cons (.us 2 I) (.rest _))) I (L.zspo_ok _ _ _ ab) dS (by rintro _ _ ⟨rfl, _⟩; rfl) ?_))))))
 rintro _ ⟨_, rfl, -⟩
 refine AO.q 3 I (AO.known 55 I B (AO.r 7 [.l 1 (b.2.1.length : Int), .o 3 0, .l 4 (t.1.Ports.length : Int)] I ⟨len_m, I, len_m, J⟩ (AO.nil ?_)))
 exact lg ⟨((b.2.1.length : Int) != (t.1.Ports.length : Int)), h, I, I⟩ [1, 2]
 rintro s ob ⟨R, h, rfl, rfl⟩
 unfold L.zaho.J2 at h
 refine AW.ch h I ?_ ?_
 intro a1 h
 refine AW.z I (AW.ghost g0 ?_)
 obtain rfl := oi h
 exact AW.ret pr
 intro a1 h
 refine AW.skip ?_
 subst az
 refine AW.cutX (fun s ob => ∃ (ac : Unit), L.zaho.J3 i a b ac = some r ∧ s = [] ∧ ob = [.arr e 37 3 1 [[.list 1 (a.2.1.map rI), .list 1 (a.2.2.1.map rI), .list 1 (a.2.2.2.1.map rB)]]]) [(8, _), (10, _), (12, _)] ⟨I, I, I, J⟩ ?_ ?_
 refine AW.z I (AW.block ?_)
 obtain ⟨cc, a2, ad⟩ := ob_some h
 clear h
 refine AW.loopX a2 [(7, _), (8, _), (9, _), (10, _), (11, _), (12, _)] ⟨I, I, I, I, I, I, J⟩ (fun (P : Int) s ob => s = [(14, .V P)] ∧ ob = [.arr e 37 3 1 [[.list 1 (a.2.1.map rI), .list 1 (a.2.2.1.map rI), .list 1 (a.2.2.2.1.map rB)]], .us u 44 1 (b.1.map (rL 2 Piece.row))]) ⟨I, I⟩ ⟨I, J⟩ ⟨[0, 1], I, by decide⟩ ?_
 rintro P ae s ob ⟨rfl, rfl⟩ h af
 unfold L.zaho.B6 at h
 refine AW.seqG (fun cd a3 => (AW.z I (AW.ch h I ?_ ?_)))
 intro a4 h
 refine AW.skip ?_
 subst a3
 refine AW.cutX (fun s ob => ∃ (ag : Unit), L.zaho.J7 P ag = some ae ∧ s = [] ∧ ob = [.arr e 37 3 1 [[.list 1 (a.2.1.map rI), .list 1 (a.2.2.1.map rI), .list 1 (a.2.2.2.1.map rB)]], .us u 44 1 (b.1.map (rL 2 Piece.row))]) [(7, _), (8, _), (9, _), (10, _), (11, _), (12, _), (14, _)] ⟨I, I, I, I, I, I, I, J⟩ ?_ ?_
 refine AW.block (AW.z I (AW.cutX (fun s ob => ∃ (S : Int), L.zaho.J8 a b P S = some ae ∧ s = [(15, .V S)] ∧ ob = [.arr e 37 3 1 [[.list 1 (a.2.1.map rI), .list 1 (a.2.2.1.map rI), .list 1 (a.2.2.2.1.map rB)]], .us u 44 1 (b.1.map (rL 2 Piece.row))]) [(7, _), (8, _), (9, _), (10, _), (11, _), (12, _), (14, _)] ⟨I, I, I, I, I, I, I, J⟩ ?_ ?_))
 refine AW.zr [.o 1 0, .l 2 (a.2.2.1.length : Int)] I ⟨len_m, I, J⟩ (AW.block (AW.listMax 68 I (fun U => ?_)))
 replace U : a.2.2.1.length ≤ 9223372036854775806 := by rw [List.length_map] at U; omega
 obtain ⟨ce, a5, a6⟩ := ob_some h
 clear h
 refine AW.forY a5 [(7, _), (8, _), (9, _), (10, _), (11, _), (12, _), (14, _), (69, _)] ⟨I, I, I, I, I, I, I, I, J⟩ (fun (D : Nat) (y : Int) s ob => s = [(70, .V (D : Int)), (15, .V y)] ∧ ob = [.arr e 37 3 1 [[.list 1 (a.2.1.map rI), .list 1 (a.2.2.1.map rI), .list 1 (a.2.2.2.1.map rB)]], .us u 44 1 (b.1.map (rL 2 Piece.row))]) ⟨I, I⟩ ⟨I, I, J⟩ ⟨[0, 1], I, by decide⟩ ?_ ?_
 rintro D ah y a7 s ob a8 a9 ⟨rfl, rfl⟩ h
 unfold L.zaho.B9 at h
 have ba : decide ((D : Int) < (a.2.2.1.length : Int)) = true := decide_eq_true (by omega)
 refine AW.z I (AW.seqG (fun cf bb => (AW.condK (v := true) I ba (AW.skip ?_))))
 subst bb
 refine AW.cutX (fun s ob => ∃ (W : Int), L.zaho.J10 W = some a7 ∧ s = [(15, .V W)] ∧ ob = [.arr e 37 3 1 [[.list 1 (a.2.1.map rI), .list 1 (a.2.2.1.map rI), .list 1 (a.2.2.2.1.map rB)]], .us u 44 1 (b.1.map (rL 2 Piece.row))]) [(7, _), (8, _), (9, _), (10, _), (11, _), (12, _), (14, _), (69, _), (70, _)] ⟨I, I, I, I, I, I, I, I, I, J⟩ ?_ ?_
 refine AW.block (AW.z I (AW.seqG (fun ci bc => ?_)))
 obtain ⟨ai, bd, h⟩ := ob_some h
 obtain ⟨be, bf⟩ := ix_some bd
 refine AW.tr [.x 2 ai.1 (rI ai.2)] I ⟨⟨be, map_get bf⟩, J⟩ ?_
 subst bc
 refine AW.ch h I ?_ ?_
 intro bg h
 refine AW.tr [.o 3 0, .x 5 D (rI ah)] I ⟨⟨I, map_get a8⟩, I, J⟩ ?_
 exact lg ⟨wr (y + (wr (((wr (i)).tmod 8) * (max 0 ah)))), h, I, I⟩ [0, 1]
 intro bg h
 refine AW.skip ?_
 exact lg ⟨y, h, I, I⟩ [0, 1]
 rintro s ob ⟨W, h, rfl, rfl⟩
 unfold L.zaho.J10 at h
 refine AW.region (AO.r 2 [.k 0 (D + 1 : Nat)] I ⟨cast_wr a9 U, J⟩ ?_)
 obtain rfl := oi h
 refine AO.nil ?_
 exact lg ⟨I, I⟩ [0, 1]
 rintro y s ob ⟨rfl, rfl⟩ he
 subst he
 have h := a6
 have bh : decide (((a.2.2.1.length : Nat) : Int) < (a.2.2.1.length : Int)) = false := by simp
 refine AW.z I (AW.seqG (fun cj ck => (AW.condK (v := false) I bh (AW.exit ?_))))
 exact lg ⟨y, h, I, I⟩ [0, 1]
 rintro s ob ⟨S, h, rfl, rfl⟩
 unfold L.zaho.J8 at h
 refine AW.seq ?_
 obtain ⟨cl, bi, h⟩ := ob_some h
 obtain ⟨cm, bj, h⟩ := ob_some h
 obtain ⟨cn, bk, h⟩ := ob_some h
 refine AW.region (AO.q 2 I (AO.c (L.zlet_ok _ _ _ bi) (AO.q 4 I (AO.act [] I (AX.callL I (.refl _) I I (.cons (.us 1 I) (.rest _)) I (L.zlet_ok _ _ _ bj) dS (by rintro _ _ ⟨rfl, _⟩; rfl) ?_)))))
 rintro _ ⟨_, rfl, -⟩
 refine AO.q 2 I (AO.c (L.zlet_ok _ _ _ bk) (AO.q 2 I (AO.nil (AW.ch h I ?_ ?_))))
 intro bl h
 refine AW.z I ?_
 obtain rfl := af _ (oi h).symm
 replace h := ad
 replace h := se_l h
 refine AW.ghost g0 ?_
 obtain rfl := oi h
 exact AW.ret pr
 intro bl h
 refine AW.skip ?_
 exact lg ⟨(), h, I, I⟩ [0, 1]
 rintro s ob ⟨ag, h, rfl, rfl⟩
 unfold L.zaho.J7 at h
 refine AW.region (AO.q 3 I ?_)
 obtain rfl := oi h
 refine AO.nil ?_
 exact ⟨_, _, _, I, ⟨I, I⟩, ⟨I, I, I, I, I, I, I, J⟩, [0, 1], I, by decide⟩
 intro a4 h
 obtain rfl := af _ (oi h).symm
 replace h := ad
 replace h := se_r h
 refine AW.exit ?_
 exact lg ⟨(), h, I, I⟩ [0]
 rintro s ob ⟨ac, h, rfl, rfl⟩
 unfold L.zaho.J3 at h
 refine AW.cutX (fun s ob => ∃ (aj : Unit), L.zaho.J4 aj = some r ∧ s = [] ∧ ob = []) [] J ?_ ?_
 refine AW.zr [.l 1 (b.2.1.length : Int)] I ⟨len_m, J⟩ (AW.block (AW.listMax 103 I (fun X => ?_)))
 replace X : b.2.1.length ≤ 9223372036854775806 := by rw [List.length_map] at X; omega
 obtain ⟨co, bm, ak⟩ := ob_some h
 clear h
 refine AW.forX bm [(8, _), (10, _), (12, _), (104, _)] ⟨I, I, I, I, J⟩ (fun (E : Nat) (al : Unit) s ob => s = [(105, .V (E : Int))] ∧ ob = [.arr e 37 3 1 [[.list 1 (a.2.1.map rI), .list 1 (a.2.2.1.map rI), .list 1 (a.2.2.2.1.map rB)]]]) ⟨I, I⟩ ⟨I, J⟩ ⟨[0], I, by decide⟩ ?_ ?_
 rintro E bn al cp s ob bo bp ⟨rfl, rfl⟩ h bq
 unfold L.zaho.B5 at h
 have br : decide ((E : Int) < (b.2.1.length : Int)) = true := decide_eq_true (by omega)
 refine AW.z I (AW.seqG (fun cq bs => (AW.condK (v := true) I br (AW.skip ?_))))
 subst bs
 refine AW.seq (AW.block (AW.z I (AW.seq ?_)))
 obtain ⟨cr, bu, h⟩ := ob_some h
 obtain ⟨am, bv, h⟩ := ob_some h
 obtain ⟨bw, bx⟩ := ix_some bv
 refine AW.rd (.still 0 (.still 1 (.still 2 (.still 3 (.still 5 (.still 6 (.still 7 (.still 8 (.still 9 (.still 10 (.still 11 (.still 12 (.still 13 (.act 4 (.still 14 .nil))))))))))))))) [0] [_] I (AP.r 13 [.x 2 E ((rL 2 Piece.row) bn), .o 6 0, .x 8 am.1 (rI am.2)] I ⟨⟨bw, map_get bx⟩, I, ⟨I, map_get bo⟩, J⟩ (AP.c I (L.zwqi_ok _ _ bu) (AP.q 1 I (AP.ofAO (AO.nil (AW.ch h I ?_ ?_))))))
 intro bz h
 refine AW.z I ?_
 obtain rfl := bq _ (oi h).symm
 replace h := ak
 replace h := se_r h
 refine AW.ghost g0 ?_
 obtain rfl := oi h
 exact AW.ret pr
 intro bz h
 refine AW.skip (AW.region (AO.r 2 [.k 0 (E + 1 : Nat)] I ⟨cast_wr bp X, J⟩ ?_))
 obtain rfl := oi h
 refine AO.nil ?_
 exact ⟨_, _, _, I, ⟨I, I⟩, ⟨I, I, I, I, I, J⟩, [0], I, by decide⟩
 rintro al s ob ⟨rfl, rfl⟩ he
 subst he
 have h := se_l ak
 have b0 : decide (((b.2.1.length : Nat) : Int) < (b.2.1.length : Int)) = false := by simp
 refine AW.z I (AW.seqG (fun ct cu => (AW.condK (v := false) I b0 (AW.exit ?_))))
 exact lg ⟨(), h, I, I⟩ []
 rintro s ob ⟨aj, h, rfl, rfl⟩
 unfold L.zaho.J4 at h
 refine AW.seq ?_
 obtain ⟨cv, b1, h⟩ := ob_some h
 refine AW.region (AO.c (L.zdqe_ok  _ b1) (AO.q 1 I (AO.nil ?_)))
 obtain rfl := oi h
 exact AW.ret pr
end Go.Proofs.Ytligpmmgdjipbaa
