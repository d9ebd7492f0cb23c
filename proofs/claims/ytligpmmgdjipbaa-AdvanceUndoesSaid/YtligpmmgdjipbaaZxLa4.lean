/- Walks that show what functions of the program compute; printed by a program of ours. No condition. -/
import Derived.Test.YtligpmmgdjipbaaZxLa3
set_option maxRecDepth 100000
namespace Go.Proofs.Ytligpmmgdjipbaa
open Go.Aw
set_option linter.unusedVariables false
set_option linter.unusedSimpArgs false
set_option maxHeartbeats 4000000
theorem L.zhye_ok (a : Int) (r : Bool) (h : L.zhye a = r) : ACalls Try.env 44 [.V a] [] (fun x new => x = .v (.bool r) ∧ new = []) := by
 refine ACalls.of_body Try.func44 rfl rfl rfl (fun C hC => ?_)
 unfold L.zhye at h
 refine AW.z I (AW.cutX (fun s ob => s = [(2, .v (.bool (decide (a < 0) || decide (a ≥ 1000))))] ∧ ob = []) [] J ?_ ?_)
 refine AW.region (AO.q 3 I ?_)
 rcases bt (decide (a < 0)) with b | b
 refine AO.known 5 I b (AO.q 4 I (AO.nil ?_))
 exact lf ⟨I, I⟩ ⟨(get_b (by simp only [b, bz])), J⟩ [] I
 refine AO.known 5 I b (AO.q 4 I (AO.nil ?_))
 exact lf ⟨I, I⟩ ⟨(get_b (by simp only [b, bz])), J⟩ [] I
 rintro s ob ⟨rfl, rfl⟩
 obtain rfl := h
 exact AW.ret pr
theorem L.zvbn_ok (a : Network) (f : List (List Piece)) (b : Plan) (d : List Int) (r : (Option advance_line) × Int) (h : L.zvbn a f b d = some r) : ACalls Try.env 28 [.agg (Network.row a), .list 1 (f.map (rL 2 Piece.row)), .agg (Plan.row b), .list 1 (d.map rI)] [] (fun x new => optR r.1 (x = .tup [.v (.pointer none), .V r.2] ∧ new = []) (fun l => ∃ (D : Nat) (u0_0 : Value) (u0_1 : Value) (u0_2 : Value), x = .tup [.v (.pointer (some ⟨D, 0, none⟩)), .V r.2] ∧ new = [.arr D 77 14 1 [[.list 1 (l.n_.Nodes.map rS), .list 7 (l.n_.Segments.map Segment.row), .list 3 (l.n_.Ports.map Port.row), .list 5 (l.n_.Stations.map Station.row), .V l.n_.Vapour, .V l.n_.Settle, .list 1 (l.p.Rates.map rI), .list 1 (l.p.Ports.map rI), .list 1 (l.p.Pumps.map rB), .list 1 (l.feeds.map rI), .list 1 (l.order.map rI), .v u0_0, .v u0_1, .v u0_2]], .us u0_0 44 1 (l.fills.map (rL 2 Piece.row)), .us u0_1 44 1 (l.given.map (rL 2 Piece.row)), .us u0_2 44 1 (l.out_.map (rL 2 Piece.row))])) := by
 refine ACalls.of_body Try.func28 rfl rfl rfl (fun C hC => ?_)
 unfold L.zvbn at h
 refine AW.seqG (fun y1 M => (AW.region (AO.act [] I (AX.box (cs := Network.row a) (m := 6) I I I dS (fun E => (AO.act [] I (AX.box (cs := Plan.row b) (m := 3) I I I dS (fun F => (AO.q 2 I (AO.nil ?_))))))))))
 subst M
 refine AW.seqG (fun y4 O => (AW.seq ?_))
 obtain ⟨r5, P, h⟩ := ob_some h
 refine AW.region (AO.r 2 [.o 0 0] I ⟨I, J⟩ (AO.c (L.zspo_ok _ _ _ P) (AO.q 1 I (AO.nil (AW.z I (AW.ch h I ?_ ?_))))))
 intro Q h
 refine AW.z I (AW.ghost g0 ?_)
 obtain rfl := oi h
 exact AW.ret ⟨.inr I, [_, _], [], ⟨I, I, J⟩, sl_n, I, I⟩
 intro Q h
 refine AW.skip ?_
 subst O
 refine AW.seqG (fun y8 R => ?_)
 obtain ⟨e, S, h⟩ := ob_some h
 refine AW.region (AO.r 2 [.o 0 0, .o 1 1] I ⟨I, I, J⟩ (AO.act [] I (AX.call0 I I I (L.zyyp_ok _ _ _ S) dS ?_)))
 rintro _ _ ⟨G, rfl, rfl⟩
 refine AO.q 5 I (AO.nil ?_)
 subst R
 refine AW.seqG (fun av U => (AW.z I (AW.ch h I ?_ ?_)))
 intro W h
 refine AW.z I (AW.ghost g0 ?_)
 obtain rfl := oi h
 exact AW.ret ⟨.inr I, [_, _], [], ⟨I, I, J⟩, sl_n, I, I⟩
 intro W h
 refine AW.skip ?_
 subst U
 refine AW.seqG (fun aw X => (AW.cutX (fun s ob => ∃ (y : Bool), L.zvbn.J1 a f b d e y = some r ∧ s = [(40, .v (.bool y))] ∧ ob = [.arr E 30 6 1 [Network.row a], .arr F 37 3 1 [Plan.row b], .us G 3 1 (e.1.map rI)]) [(1, _), (3, _), (4, _), (6, _), (11, _)] ⟨I, I, I, I, I, J⟩ ?_ ?_))
 refine AW.region (AO.r 7 [.l 1 (d.length : Int), .o 3 0, .l 4 (a.Ports.length : Int)] I ⟨len_m, I, len_m, J⟩ ?_)
 rcases bt (((d.length : Int) != (a.Ports.length : Int))) with j | j
 replace h := ife_t j h
 refine AO.known 37 I j (AO.q 3 I (AO.nil ?_))
 exact lg ⟨true, h, I, I⟩ [0, 1, 2]
 replace h := ife_f j h
 obtain ⟨Y, Z, h⟩ := ob_some h
 refine AO.known 37 I j (AO.q 1 I (AO.gt I I I (AO.c (L.zvoj_ok _ (.v (.func (.func 44) #[] #[])) I (fun x => some (L.zhye x)) (fun x r h => by obtain I := oi h; exact L.zhye_ok x _ I) _ Z) (AO.q 1 I (AO.nil ?_)))))
 exact lg ⟨Y, h, I, I⟩ [0, 1, 2]
 rintro s ob ⟨y, h, rfl, rfl⟩
 unfold L.zvbn.J1 at h
 refine AW.ch h I ?_ ?_
 intro aa h
 refine AW.z I (AW.ghost g0 ?_)
 obtain rfl := oi h
 exact AW.ret ⟨.inr I, [_, _], [], ⟨I, I, J⟩, sl_n, I, I⟩
 intro aa h
 refine AW.skip ?_
 subst X
 refine AW.seqG (fun ax ab => (AW.region (AO.r 4 [.o 0 0, .o 1 1] I ⟨I, I, J⟩ (AO.ghost (Ghost.freeze [2] (K := [.us G 3 1 (e.1.map rI)]) I [(11, .list 1 (e.1.map rI)), (44, .list 1 (e.1.map rI))] ⟨⟨_, I, .us 0 I⟩, ⟨_, I, .us 0 I⟩, J⟩ (ob' := [.arr E 30 6 1 [Network.row a], .arr F 37 3 1 [Plan.row b]]) (.rest _)) (AO.p (Yp.buildP (l := [.list 1 (a.Nodes.map rS), .list 7 (a.Segments.map Segment.row), .list 3 (a.Ports.map Port.row), .list 5 (a.Stations.map Station.row), .V a.Vapour, .V a.Settle, .list 1 (b.Rates.map rI), .list 1 (b.Ports.map rI), .list 1 (b.Pumps.map rB), .list 1 (d.map rI), .list 1 (e.1.map rI), .N, .N, .N]) Try.bld77 I) I (AO.act [] I (AX.box (cs := [.list 1 (a.Nodes.map rS), .list 7 (a.Segments.map Segment.row), .list 3 (a.Ports.map Port.row), .list 5 (a.Stations.map Station.row), .V a.Vapour, .V a.Settle, .list 1 (b.Rates.map rI), .list 1 (b.Ports.map rI), .list 1 (b.Pumps.map rB), .list 1 (d.map rI), .list 1 (e.1.map rI), .N, .N, .N]) (m := 14) I I I dS (fun n => (AO.q 1 I (AO.nil ?_))))))))))
 subst ab
 refine AW.cutX (fun s ob => ∃ (w : List (List Piece)) (i : Value), L.zvbn.J2 a b d e w = some r ∧ s = [] ∧ ob = [.arr n 77 14 1 [[.list 1 (a.Nodes.map rS), .list 7 (a.Segments.map Segment.row), .list 3 (a.Ports.map Port.row), .list 5 (a.Stations.map Station.row), .V a.Vapour, .V a.Settle, .list 1 (b.Rates.map rI), .list 1 (b.Ports.map rI), .list 1 (b.Pumps.map rB), .list 1 (d.map rI), .list 1 (e.1.map rI), .v i, .N, .N]], .us i 44 1 (w.map (rL 2 Piece.row))]) [(13, _)] ⟨I, J⟩ ?_ ?_
 refine AW.zr [.l 1 (f.length : Int)] I ⟨len_m, J⟩ (AW.block (AW.listMax 47 I (fun A => ?_)))
 replace A : f.length ≤ 9223372036854775806 := by rw [List.length_map] at A; omega
 refine AW.ghost (Ghost.nilU 44 1) ?_
 obtain ⟨ay, ac, ad⟩ := ob_some h
 clear h
 refine AW.forY ac [(13, _), (47, _), (48, _)] ⟨I, I, I, J⟩ (fun (t : Nat) (u : List (List Piece)) s ob => ∃ (g : Value), s = [(49, .V (t : Int))] ∧ ob = [.arr n 77 14 1 [[.list 1 (a.Nodes.map rS), .list 7 (a.Segments.map Segment.row), .list 3 (a.Ports.map Port.row), .list 5 (a.Stations.map Station.row), .V a.Vapour, .V a.Settle, .list 1 (b.Rates.map rI), .list 1 (b.Ports.map rI), .list 1 (b.Pumps.map rB), .list 1 (d.map rI), .list 1 (e.1.map rI), .v g, .N, .N]], .us g 44 1 (u.map (rL 2 Piece.row))]) ⟨(.slice none 0 0), I, I⟩ ⟨I, J⟩ ⟨[2, 3], I, by decide⟩ ?_ ?_
 rintro t ae u az s ob af ag ⟨g, rfl, rfl⟩ h
 unfold L.zvbn.B3 at h
 have ah : decide ((t : Int) < (f.length : Int)) = true := decide_eq_true (by omega)
 refine AW.z I (AW.seqG (fun a0 ai => (AW.condK (v := true) I ah (AW.skip ?_))))
 subst ai
 refine AW.seq (AW.block (AW.zr [.x 0 t ((rL 2 Piece.row) ae)] I ⟨⟨I, map_get af⟩, J⟩ ?_))
 obtain ⟨B, aj, h⟩ := ob_some h
 obtain ⟨a1, ak, h⟩ := ob_some h
 refine AW.rd (.still 0 (.still 1 (.still 2 (.still 3 (.still 4 (.still 5 (.act 6 (.act 7 (.act 8 (.still 9 (.still 10 (.drop 11 .nil)))))))))))) [0] [_] I (AP.r 6 [.o 4 0] I ⟨I, J⟩ (AP.act [] I I I (AX.call0 I I I (L.zgxj_ok _ _ aj) dS ?_)))
 rintro _ _ ⟨al, rfl, rfl⟩
 refine AP.ghostS (Ghost.freeze [2] (K := [.us al 46 2 (B.map Piece.row)]) I [(59, .list 2 (B.map Piece.row))] ⟨⟨_, I, .us 0 I⟩, J⟩ (ob' := [.arr n 77 14 1 [[.list 1 (a.Nodes.map rS), .list 7 (a.Segments.map Segment.row), .list 3 (a.Ports.map Port.row), .list 5 (a.Stations.map Station.row), .V a.Vapour, .V a.Settle, .list 1 (b.Rates.map rI), .list 1 (b.Ports.map rI), .list 1 (b.Pumps.map rB), .list 1 (d.map rI), .list 1 (e.1.map rI), .v g, .N, .N]], .us g 44 1 (u.map (rL 2 Piece.row))]) (.rest _)) I (AP.act [] I I I (AX.lt 1 (([B] : List (List Piece)).map (rL 2 Piece.row)) (AP.act [1] I I I (AX.ap 1 I ak (fun H => (AP.q 2 I (AP.one 1 I (fun am => (AP.drop [0] I I I (AX.store 0 0 11 (es' := [[.list 1 (a.Nodes.map rS), .list 7 (a.Segments.map Segment.row), .list 3 (a.Ports.map Port.row), .list 5 (a.Stations.map Station.row), .V a.Vapour, .V a.Settle, .list 1 (b.Rates.map rI), .list 1 (b.Ports.map rI), .list 1 (b.Pumps.map rB), .list 1 (d.map rI), .list 1 (e.1.map rI), .v H, .N, .N]]) I I I I I I (cells_v am) I (le_ble I) I I (AP.ofAO (AO.nil (AW.region (AO.r 2 [.k 0 (t + 1 : Nat)] I ⟨cast_wr ag A, J⟩ ?_))))))))))))))
 obtain rfl := oi h
 refine AO.nil ?_
 exact lg ⟨H, I, I⟩ [0, 1]
 rintro u s ob ⟨g, rfl, rfl⟩ he
 subst he
 have h := ad
 have an : decide (((f.length : Nat) : Int) < (f.length : Int)) = false := by simp
 refine AW.z I (AW.seqG (fun a2 a3 => (AW.condK (v := false) I an (AW.exit ?_))))
 exact lg ⟨u, g, h, I, I⟩ [0, 1]
 rintro s ob ⟨w, i, h, rfl, rfl⟩
 unfold L.zvbn.J2 at h
 refine AW.z I (AW.ghost (Ghost.nilU 44 1) (AW.ghost (Ghost.nilU 44 1) ?_))
 obtain rfl := oi h
 exact AW.ret ⟨.inr I, [_, _], [.arr n 77 14 1 [[.list 1 (a.Nodes.map rS), .list 7 (a.Segments.map Segment.row), .list 3 (a.Ports.map Port.row), .list 5 (a.Stations.map Station.row), .V a.Vapour, .V a.Settle, .list 1 (b.Rates.map rI), .list 1 (b.Ports.map rI), .list 1 (b.Pumps.map rB), .list 1 (d.map rI), .list 1 (e.1.map rI), .v i, .N, .N]], .us i 44 1 (w.map (rL 2 Piece.row)), .us (.slice none 0 0) 44 1 ([].map (rL 2 Piece.row)), .us (.slice none 0 0) 44 1 ([].map (rL 2 Piece.row))], ⟨I, I, J⟩, sl_c I (sl_c I (sl_c I (sl_c I (sl_n)))), ⟨n, i, (.slice none 0 0), (.slice none 0 0), I, I⟩⟩
theorem L.zcgl_ok (c : Network) (g : List (List Piece)) (d : Plan) (i : List Int) (r : (List (List Piece)) × (List (List Piece)) × Int) (h : L.zcgl c g d i = some r) : ACalls Try.env 11 [.agg (Network.row c), .list 1 (g.map (rL 2 Piece.row)), .agg (Plan.row d), .list 1 (i.map rI)] [] (fun x new => ∃ (j : Value) (k : Value), x = .tup [.v j, .v k, .V r.2.2] ∧ new = [.us j 44 1 (r.1.map (rL 2 Piece.row)), .us k 44 1 (r.2.1.map (rL 2 Piece.row))]) := by
 refine ACalls.of_body Try.func11 rfl rfl rfl (fun C hC => ?_)
 unfold L.zcgl at h
 refine AW.seqG (fun M p => (AW.region (AO.act [] I (AX.box (cs := Network.row c) (m := 6) I I I dS (fun N => (AO.act [] I (AX.box (cs := Plan.row d) (m := 3) I I I dS (fun O => (AO.q 3 I (AO.nil ?_))))))))))
 subst p
 refine AW.seqG (fun P l => ?_)
 obtain ⟨s, n, h⟩ := ob_some h
 rcases a : s.1 with _ | Q
 replace h := opE_n a h
 refine AW.region (AO.r 4 [.o 0 0, .o 2 1] I ⟨I, I, J⟩ (AO.act [] I (AX.call0 I I I (ACalls.optN a (L.zvbn_ok _ _ _ _ _ n)) dS ?_)))
 rintro _ _ ⟨rfl, rfl⟩
 refine AO.q 5 I (AO.nil ?_)
 subst l
 refine AW.seqG (fun R t => (AW.z I (AW.ch h I ?_ ?_)))
 intro u h
 refine AW.z I (AW.ghost (Ghost.nilU 44 1) (AW.ghost (Ghost.nilU 44 1) (AW.ghost (Ghost.pick [2, 3] (K := [.us (.slice none 0 0) 44 1 ([].map (rL 2 Piece.row)), .us (.slice none 0 0) 44 1 ([].map (rL 2 Piece.row))]) I (by decide)) ?_)))
 obtain rfl := oi h
 rotate_left
 intro u h
 refine AW.skip ?_
 subst t
 refine AW.seqG (fun S U => (AW.seq ?_))
 cases h
 replace h := opE_s a h
 refine AW.region (AO.r 4 [.o 0 0, .o 2 1] I ⟨I, I, J⟩ (AO.act [] I (AX.call0 I I I (ACalls.optS a (L.zvbn_ok _ _ _ _ _ n)) dS ?_)))
 rintro _ _ ⟨w, y, A, B, rfl, rfl⟩
 refine AO.q 5 I (AO.nil ?_)
 subst l
 refine AW.seqG (fun W D => (AW.z I (AW.ch h I ?_ ?_)))
 intro E h
 refine AW.z I (AW.ghost (Ghost.nilU 44 1) (AW.ghost (Ghost.nilU 44 1) (AW.ghost (Ghost.pick [6, 7] (K := [.us (.slice none 0 0) 44 1 ([].map (rL 2 Piece.row)), .us (.slice none 0 0) 44 1 ([].map (rL 2 Piece.row))]) I (by decide)) ?_)))
 obtain rfl := oi h
 rotate_left
 intro E h
 refine AW.skip ?_
 subst D
 refine AW.seqG (fun X F => (AW.seq ?_))
 obtain ⟨b, G, h⟩ := ob_some h
 refine AW.region (AO.q 1 I (AO.act [2, 3, 4, 5] I (AX.cg [2, 3, 4, 5] (L.zlri_ok w _ y A B _ G) ?_)))
 rintro _ _ _ - ⟨e, Y, f, rfl, rfl, rfl⟩
 refine AO.q 1 I (AO.nil (AW.z I (AW.ch h I ?_ ?_)))
 intro H h
 refine AW.z I (AW.ghost (Ghost.nilU 44 1) (AW.ghost (Ghost.nilU 44 1) (AW.ghost (Ghost.pick [6, 7] (K := [.us (.slice none 0 0) 44 1 ([].map (rL 2 Piece.row)), .us (.slice none 0 0) 44 1 ([].map (rL 2 Piece.row))]) I (by decide)) ?_)))
 obtain rfl := oi h
 any_goals
  exact AW.ret ⟨.inr I, [_, _, _], [.us (.slice none 0 0) 44 1 ([].map (rL 2 Piece.row)), .us (.slice none 0 0) 44 1 ([].map (rL 2 Piece.row))], ⟨I, I, I, J⟩, sl_c I (sl_c I (sl_n)), ⟨(.slice none 0 0), (.slice none 0 0), I, I⟩⟩
 intro H h
 refine AW.skip ?_
 subst F
 refine AW.dz (pd 11 0 []) [2] [_] [.o 3 0, .o 7 0] I I ⟨I, I, J⟩ (AW.ghost (Ghost.pick [3, 5] (K := [.us e 44 1 (b.2.1.map (rL 2 Piece.row)), .us f 44 1 (b.2.2.2.map (rL 2 Piece.row))]) I (by decide)) ?_)
 obtain rfl := oi h
 exact AW.ret ⟨.inr I, [_, _, _], [.us e 44 1 (b.2.1.map (rL 2 Piece.row)), .us f 44 1 (b.2.2.2.map (rL 2 Piece.row))], ⟨I, I, I, J⟩, sl_c I (sl_c I (sl_n)), ⟨e, f, I, I⟩⟩
theorem L.zwqi_ok (a : List Piece) (r : Int) (h : L.zwqi a = some r) : ACalls Try.env 12 [.list 2 (a.map Piece.row)] [] (fun x new => x = .V r ∧ new = []) := by
 refine ACalls.of_body Try.func12 rfl rfl rfl (fun C hC => ?_)
 unfold L.zwqi at h
 refine AW.z I (AW.z I (AW.cutX (fun s ob => ∃ (d : Int), L.zwqi.J1 d = some r ∧ s = [(3, .V d)] ∧ ob = []) [] J ?_ ?_))
 refine AW.zr [.l 1 (a.length : Int)] I ⟨len_m, J⟩ (AW.block (AW.listMax 5 I (fun e => ?_)))
 replace e : a.length ≤ 9223372036854775806 := by rw [List.length_map] at e; omega
 obtain ⟨q, f, g⟩ := ob_some h
 clear h
 refine AW.forY f [(0, _), (6, _)] ⟨I, I, J⟩ (fun (b : Nat) (c : Int) s ob => s = [(7, .V (b : Int)), (3, .V c)] ∧ ob = []) ⟨I, I⟩ ⟨I, I, J⟩ ⟨[], I, by decide⟩ ?_ ?_
 rintro b i c t s ob j m ⟨rfl, rfl⟩ h
 unfold L.zwqi.B2 at h
 have n : decide ((b : Int) < (a.length : Int)) = true := decide_eq_true (by omega)
 refine AW.z I (AW.seqG (fun u o => (AW.condK (v := true) I n (AW.skip ?_))))
 subst o
 refine AW.seq (AW.block (AW.z I (AW.tr [.x 3 b (Piece.row i)] I ⟨⟨I, map_get j⟩, J⟩ (AW.region (AO.r 2 [.k 0 (b + 1 : Nat)] I ⟨cast_wr m e, J⟩ ?_)))))
 obtain rfl := oi h
 refine AO.nil ?_
 exact lg ⟨I, I⟩ []
 rintro c s ob ⟨rfl, rfl⟩ he
 subst he
 have h := g
 have p : decide (((a.length : Nat) : Int) < (a.length : Int)) = false := by simp
 refine AW.z I (AW.seqG (fun w y => (AW.condK (v := false) I p (AW.exit ?_))))
 exact lg ⟨c, h, I, I⟩ []
 rintro s ob ⟨d, h, rfl, rfl⟩
 unfold L.zwqi.J1 at h
 refine AW.z I ?_
 obtain rfl := oi h
 exact AW.ret pr
theorem L.zjsx_ok (a : List Piece) (d : List Piece) (r : Bool) (h : L.zjsx a d = some r) : ACalls Try.env 14 [.list 2 (a.map Piece.row), .list 2 (d.map Piece.row)] [] (fun x new => x = .v (.bool r) ∧ new = []) := by
 refine ACalls.of_body Try.func14 rfl rfl rfl (fun C hC => ?_)
 unfold L.zjsx at h
 refine AW.z I (AW.seqG (fun F m => (AW.zr [.l 1 (a.length : Int), .l 3 (d.length : Int)] I ⟨len_m, len_m, J⟩ (AW.ch h I ?_ ?_))))
 intro n h
 refine AW.z I ?_
 obtain rfl := oi h
 exact AW.ret pr
 intro n h
 refine AW.skip ?_
 subst m
 refine AW.cutX (fun s ob => ∃ (g : Unit), L.zjsx.J1 g = some r ∧ s = [] ∧ ob = []) [] J ?_ ?_
 refine AW.zr [.l 1 (a.length : Int)] I ⟨len_m, J⟩ (AW.block (AW.listMax 11 I (fun e => ?_)))
 replace e : a.length ≤ 9223372036854775806 := by rw [List.length_map] at e; omega
 obtain ⟨G, o, i⟩ := ob_some h
 clear h
 refine AW.forX o [(0, _), (1, _), (12, _)] ⟨I, I, I, J⟩ (fun (b : Nat) (j : Unit) s ob => s = [(13, .V (b : Int))] ∧ ob = []) ⟨I, I⟩ ⟨I, J⟩ ⟨[], I, by decide⟩ ?_ ?_
 rintro b f j H s ob p q ⟨rfl, rfl⟩ h t
 unfold L.zjsx.B2 at h
 have u : decide ((b : Int) < (a.length : Int)) = true := decide_eq_true (by omega)
 refine AW.z I (AW.seqG (fun K w => (AW.condK (v := true) I u (AW.skip ?_))))
 subst w
 refine AW.seq (AW.block (AW.z I (AW.seq ?_)))
 obtain ⟨c, y, h⟩ := ob_some h
 obtain ⟨A, B⟩ := ix_some y
 refine AW.rd (pd 9 0 []) [] [] I (AP.r 8 [.x 2 b (Piece.row f), .x 6 c.1 (Piece.row c.2)] I ⟨⟨A, map_get B⟩, ⟨I, map_get p⟩, J⟩ (AP.op I (Yp.eqStruct (r := ((f.Batch == c.2.Batch) && ((f.Volume == c.2.Volume) && true))) I I Try.eq46 I I I I) I (AP.ofAO (AO.nil (AW.ch h I ?_ ?_)))))
 intro D h
 refine AW.z I ?_
 obtain rfl := t _ (oi h).symm
 replace h := i
 replace h := se_r h
 obtain rfl := oi h
 exact AW.ret pr
 intro D h
 refine AW.skip (AW.region (AO.r 2 [.k 0 (b + 1 : Nat)] I ⟨cast_wr q e, J⟩ ?_))
 obtain rfl := oi h
 refine AO.nil ?_
 exact ⟨_, _, _, I, ⟨I, I⟩, ⟨I, I, I, I, J⟩, [], I, by decide⟩
 rintro j s ob ⟨rfl, rfl⟩ he
 subst he
 have h := se_l i
 have E : decide (((a.length : Nat) : Int) < (a.length : Int)) = false := by simp
 refine AW.z I (AW.seqG (fun M N => (AW.condK (v := false) I E (AW.exit ?_))))
 exact lg ⟨(), h, I, I⟩ []
 rintro s ob ⟨g, h, rfl, rfl⟩
 unfold L.zjsx.J1 at h
 refine AW.z I ?_
 obtain rfl := oi h
 exact AW.ret pr
theorem L.zuyb_ok (e : List Piece) (r : List Piece) (h : L.zuyb e = some r) : ACalls Try.env 15 [.list 2 (e.map Piece.row)] [] (fun x new => ∃ (D : Value), x = .v D ∧ new = [.us D 46 2 (r.map Piece.row)]) := by
 refine ACalls.of_body Try.func15 rfl rfl rfl (fun C hC => ?_)
 unfold L.zuyb at h
 refine AW.z I (AW.z I (AW.cutX (fun s ob => ∃ (p : List Piece) (g : Value), L.zuyb.J1 p = some r ∧ s = [(3, .v g)] ∧ ob = [.us g 46 2 (p.map Piece.row)]) [] J ?_ ?_))
 refine AW.zr [.l 1 (e.length : Int)] I ⟨len_m, J⟩ (AW.block (AW.listMax 6 I (fun u => ?_)))
 replace u : e.length ≤ 9223372036854775806 := by rw [List.length_map] at u; omega
 refine AW.ghost (Ghost.nilU 46 2) ?_
 obtain ⟨aj, G, H⟩ := ob_some h
 clear h
 refine AW.forY G [(6, _), (7, _)] ⟨I, I, J⟩ (fun (i : Nat) (b : List Piece) s ob => ∃ (c : Value), s = [(8, .V (i : Int)), (3, .v c)] ∧ ob = [.us c 46 2 (b.map Piece.row)]) ⟨(.slice none 0 0), I, I⟩ ⟨I, I, J⟩ ⟨[0], I, by decide⟩ ?_ ?_
 rintro i d b E s ob K M ⟨c, rfl, rfl⟩ h
 unfold L.zuyb.B2 at h
 have N : decide ((i : Int) < (e.length : Int)) = true := decide_eq_true (by omega)
 refine AW.z I (AW.seqG (fun ak O => (AW.condK (v := true) I N (AW.skip ?_))))
 subst O
 refine AW.cutX (fun s ob => ∃ (w : List Piece) (t : Value), L.zuyb.J3 w = some E ∧ s = [(3, .v t)] ∧ ob = [.us t 46 2 (w.map Piece.row)]) [(6, _), (7, _), (8, _)] ⟨I, I, I, J⟩ ?_ ?_
 refine AW.block (AW.seqG (fun al P => (AW.region (AO.r 2 [.x 0 i (Piece.row d)] I ⟨⟨I, map_get K⟩, J⟩ (AO.act [] I (AX.alloc (cs := [.V 0, .V 0]) (m := 2) I I I I I dS (fun Q => (AO.act [1] I (AX.store 1 0 0 (es' := [Piece.row d]) I I I I I I I I (le_ble I) I I (AO.nil ?_))))))))))
 subst P
 refine AW.block (AW.zr [.o 1 1] I ⟨I, J⟩ (AW.ch h I ?_ ?_))
 intro R h
 refine AW.skip ?_
 exact lg ⟨b, c, h, I, I⟩ [0]
 intro R h
 refine AW.cutX (fun s ob => ∃ (A : Bool), L.zuyb.J4 d b A = some E ∧ s = [(20, .v (.bool A))] ∧ ob = [.us c 46 2 (b.map Piece.row), .arr Q 46 2 1 [Piece.row d]]) [(3, _), (5, _), (6, _), (7, _), (8, _)] ⟨I, I, I, I, I, J⟩ ?_ ?_
 rcases bt (decide ((b.length : Int) > 0)) with j | j
 replace h := ife_t j h
 obtain ⟨n, S, h⟩ := ob_some h
 obtain ⟨U, B⟩ := ix_some S
 refine AW.formL 0 I (fun W => (AW.formL 0 I (fun X => (AW.form 0 n.1 I B (fun Y => (AW.rd (pd 16 0 []) [0, 1] [_, _] I (AP.q 1 I (AP.op I (Yp.lenUf I I I W) I (AP.q 2 I (AP.known 24 I j (AP.q 2 I (AP.oldG I I I I ((Yp.lenUf I I I X).yd) dS (AP.q 1 I (AP.oldG I I I I ((Yp.indexUf (m := n.1) I I I I I Y I U B).yd) dS (AP.q 1 I ?_)))))))))))))))
 refine AP.oldG I I I I (Yd.loadU 0 n.1 0 I I I (map_get B) I (y := .V n.2.Batch) I) dS (AP.r 5 [.o 1 1] I ⟨I, J⟩ (AP.ofAO (AO.nil ?_)))
 exact lg ⟨(n.2.Batch == d.Batch), h, I, I⟩ [0, 1]
 replace h := ife_f j h
 refine AW.formL 0 I (fun Z => (AW.rd (pd 16 0 []) [] [] I (AP.q 1 I (AP.op I (Yp.lenUf I I I Z) I (AP.q 2 I (AP.known 24 I j (AP.q 12 I (AP.ofAO (AO.nil ?_)))))))))
 exact lg ⟨false, h, I, I⟩ [0, 1]
 rintro s ob ⟨A, h, rfl, rfl⟩
 unfold L.zuyb.J4 at h
 refine AW.ch h I ?_ ?_
 intro aa h
 obtain ⟨a, ab, h⟩ := ob_some h
 obtain ⟨F, f⟩ := ix_some ab
 refine AW.formL 0 I (fun ac => (AW.form 0 a.1 I f (fun ad => (AW.form 0 a.1 I f (fun ae => (AW.rd (.still 0 (.still 1 (.still 2 (.still 3 (.still 4 (.still 5 (.still 6 (.still 7 (.still 8 (.still 9 (.still 10 (.still 11 (.drop 12 .nil))))))))))))) [0, 1] [_, _] I (AP.q 2 I (AP.op I (Yp.lenUf I I I ac) I (AP.q 1 I (AP.op I (Yp.indexUf (m := a.1) I I I I I ad I F f) I (AP.q 1 I (AP.o I (Yd.loadU 0 a.1 1 I I I (map_get f) I (y := .V a.2.Volume) I) I (AP.r 3 [.o 1 1] I ⟨I, J⟩ (AP.op I (Yp.indexUf (m := a.1) I I I I I ae I F f) I (AP.q 1 I ?_)))))))))))))))
 refine AP.drop [0] I I I (AX.storeU 0 a.1 1 I I I (map_get f) I I I I (le_ble I) I (us_set (x := (⟨a.2.Batch, wr (a.2.Volume + d.Volume)⟩ : Piece)) I) (AP.ofAO (AO.nil ?_)))
 exact lg ⟨(b.set a.1 (⟨a.2.Batch, wr (a.2.Volume + d.Volume)⟩ : Piece)), c, h, I, I⟩ [0]
 intro aa h
 obtain ⟨af, ag, h⟩ := ob_some h
 refine AW.region (AO.r 2 [.o 1 1] I ⟨I, J⟩ (AO.act [] I (AX.lt 2 (([d] : List Piece).map Piece.row) (AO.act [0] I (AX.ap 0 I ag (fun ah => (AO.q 1 I (AO.nil ?_))))))))
 exact lg ⟨af, ah, h, I, I⟩ [0]
 rintro s ob ⟨w, t, h, rfl, rfl⟩
 unfold L.zuyb.J3 at h
 refine AW.region (AO.r 2 [.k 0 (i + 1 : Nat)] I ⟨cast_wr M u, J⟩ ?_)
 obtain rfl := oi h
 refine AO.nil ?_
 exact lg ⟨t, I, I⟩ [0]
 rintro b s ob ⟨c, rfl, rfl⟩ he
 subst he
 have h := H
 have ai : decide (((e.length : Nat) : Int) < (e.length : Int)) = false := by simp
 refine AW.z I (AW.seqG (fun am an => (AW.condK (v := false) I ai (AW.exit ?_))))
 exact lg ⟨b, c, h, I, I⟩ [0]
 rintro s ob ⟨p, g, h, rfl, rfl⟩
 unfold L.zuyb.J1 at h
 refine AW.z I ?_
 obtain rfl := oi h
 exact AW.ret ⟨.inr I, [_], [.us g 46 2 (p.map Piece.row)], ⟨I, J⟩, sl_c I (sl_n), ⟨g, I, I⟩⟩
theorem L.zkma_ok (a : List (List Piece)) (d : List (List Piece)) (r : Bool) (h : L.zkma a d = some r) : ACalls Try.env 13 [.list 1 (a.map (rL 2 Piece.row)), .list 1 (d.map (rL 2 Piece.row))] [] (fun x new => x = .v (.bool r) ∧ new = []) := by
 refine ACalls.of_body Try.func13 rfl rfl rfl (fun C hC => ?_)
 unfold L.zkma at h
 refine AW.z I (AW.seqG (fun K m => (AW.zr [.l 1 (a.length : Int), .l 3 (d.length : Int)] I ⟨len_m, len_m, J⟩ (AW.ch h I ?_ ?_))))
 intro n h
 refine AW.z I ?_
 obtain rfl := oi h
 exact AW.ret pr
 intro n h
 refine AW.skip ?_
 subst m
 refine AW.cutX (fun s ob => ∃ (f : Unit), L.zkma.J1 f = some r ∧ s = [] ∧ ob = []) [] J ?_ ?_
 refine AW.zr [.l 1 (a.length : Int)] I ⟨len_m, J⟩ (AW.block (AW.listMax 11 I (fun e => ?_)))
 replace e : a.length ≤ 9223372036854775806 := by rw [List.length_map] at e; omega
 obtain ⟨M, o, g⟩ := ob_some h
 clear h
 refine AW.forX o [(0, _), (1, _), (12, _)] ⟨I, I, I, J⟩ (fun (b : Nat) (i : Unit) s ob => s = [(13, .V (b : Int))] ∧ ob = []) ⟨I, I⟩ ⟨I, J⟩ ⟨[], I, by decide⟩ ?_ ?_
 rintro b p i N s ob t u ⟨rfl, rfl⟩ h w
 unfold L.zkma.B2 at h
 have y : decide ((b : Int) < (a.length : Int)) = true := decide_eq_true (by omega)
 refine AW.z I (AW.seqG (fun O A => (AW.condK (v := true) I y (AW.skip ?_))))
 subst A
 refine AW.seq (AW.block (AW.z I (AW.seq ?_)))
 obtain ⟨j, B, h⟩ := ob_some h
 obtain ⟨D, E⟩ := ix_some B
 obtain ⟨P, F, h⟩ := ob_some h
 refine AW.rd (pd 10 0 [8]) [] [] I (AP.r 8 [.x 2 b ((rL 2 Piece.row) p), .x 6 j.1 ((rL 2 Piece.row) j.2)] I ⟨⟨D, map_get E⟩, ⟨I, map_get t⟩, J⟩ (AP.c I (L.zjsx_ok _ _ _ F) (AP.q 1 I (AP.ofAO (AO.nil (AW.ch h I ?_ ?_))))))
 intro G h
 refine AW.z I ?_
 obtain rfl := w _ (oi h).symm
 replace h := g
 replace h := se_r h
 obtain rfl := oi h
 exact AW.ret pr
 intro G h
 refine AW.skip (AW.region (AO.r 2 [.k 0 (b + 1 : Nat)] I ⟨cast_wr u e, J⟩ ?_))
 obtain rfl := oi h
 refine AO.nil ?_
 exact ⟨_, _, _, I, ⟨I, I⟩, ⟨I, I, I, I, J⟩, [], I, by decide⟩
 rintro i s ob ⟨rfl, rfl⟩ he
 subst he
 have h := se_l g
 have H : decide (((a.length : Nat) : Int) < (a.length : Int)) = false := by simp
 refine AW.z I (AW.seqG (fun Q R => (AW.condK (v := false) I H (AW.exit ?_))))
 exact lg ⟨(), h, I, I⟩ []
 rintro s ob ⟨f, h, rfl, rfl⟩
 unfold L.zkma.J1 at h
 refine AW.z I ?_
 obtain rfl := oi h
 exact AW.ret pr
theorem L.zdqe_ok  (r : Bool) (h : L.zdqe = some r) : ACalls Try.env 16 [] [] (fun x new => x = .v (.bool r) ∧ new = []) := by
 refine ACalls.of_body Try.func16 rfl rfl rfl (fun C hC => ?_)
 unfold L.zdqe at h
 refine AW.z I (AW.seqG (fun y2 ah => (AW.region (AO.act [] I (AX.buildSlice (sz := 1) (es := ([(⟨#[97]⟩ : ByteArray), (⟨#[98]⟩ : ByteArray), (⟨#[99]⟩ : ByteArray)] : List ByteArray).map rS) I I I I I I I I I I I dS (fun a => (AO.p (Yp.buildP (l := [.v (.string (⟨#[105, 110]⟩ : ByteArray)), .V 0, .V 0]) Try.bld70 I) I (AO.p (Yp.buildP (l := [.v (.string (⟨#[109, 105, 100]⟩ : ByteArray)), .V 1, .V 0]) Try.bld70 I) I (AO.p (Yp.buildP (l := [.v (.string (⟨#[111, 117, 116]⟩ : ByteArray)), .V 2, .V 0]) Try.bld70 I) I (AO.act [] I (AX.buildSlice (sz := 3) (es := ([(⟨(⟨#[105, 110]⟩ : ByteArray), 0, 0⟩ : Port), (⟨(⟨#[109, 105, 100]⟩ : ByteArray), 1, 0⟩ : Port), (⟨(⟨#[111, 117, 116]⟩ : ByteArray), 2, 0⟩ : Port)] : List Port).map Port.row) I I I I I I I I I I I dS (fun b => (AO.one 0 I (fun ai => (AO.one 1 I (fun aj => (AO.p (Yp.buildP (l := [.v a, .N, .v b, .N, .V 0, .V 0]) Try.bld30 (fill_step I I (cells_v ai) I (fill_step I I (cells_v aj) I (fill_nil)))) I (AO.act [] I (AX.alloc (cs := [.N, .N, .N, .N, .V 0, .V 0]) (m := 6) I I I I I dS (fun f => (AO.act [2] I (AX.store 2 0 0 (es' := [[.v a, .N, .v b, .N, .V 0, .V 0]]) I I I I I I I I (le_ble I) I I ?_))))))))))))))))))))))
 refine AO.nil ?_
 subst ah
 refine AW.cutX (fun s ob => ∃ (n : List Segment) (D : Value), L.zdqe.J1 n = some r ∧ s = [] ∧ ob = [.us a 9 1 (([(⟨#[97]⟩ : ByteArray), (⟨#[98]⟩ : ByteArray), (⟨#[99]⟩ : ByteArray)] : List ByteArray).map rS), .us b 70 3 (([(⟨(⟨#[105, 110]⟩ : ByteArray), 0, 0⟩ : Port), (⟨(⟨#[109, 105, 100]⟩ : ByteArray), 1, 0⟩ : Port), (⟨(⟨#[111, 117, 116]⟩ : ByteArray), 2, 0⟩ : Port)] : List Port).map Port.row), .arr f 30 6 1 [[.v a, .v D, .v b, .N, .V 0, .V 0]], .us D 34 7 (n.map Segment.row)]) [(1, _)] ⟨I, J⟩ ?_ ?_
 refine AW.seqG (fun bi ak => (AW.region (AO.p (Yp.buildA (l := [.V 0, .V 1]) I I I I I I) I (AO.p (Yp.buildA (l := [.V 2, .V 1]) I I I I I I) I (AO.act [] I (AX.buildSlice (sz := 2) (es := ([(⟨[0, 1], I⟩ : Arr Int 2), (⟨[2, 1], I⟩ : Arr Int 2)] : List (Arr Int 2)).map (rA cI)) I I I I I I I I I I I dS (fun E => (AO.d (Yd.lenUM 3 I I I I) I (AO.q 1 I (AO.nil ?_))))))))))
 subst ak
 refine AW.block (AW.usMax 3 I (fun Q => ?_))
 replace Q : ([(⟨[0, 1], rfl⟩ : Arr Int 2), (⟨[2, 1], rfl⟩ : Arr Int 2)] : List (Arr Int 2)).length ≤ 9223372036854775806 := by rw [List.length_map] at Q; omega
 refine AW.ghost (Ghost.nilU 34 7) ?_
 obtain ⟨bj, al, am⟩ := ob_some h
 clear h
 refine AW.forJY al [(1, _), (15, _), (16, _)] ⟨I, I, I, J⟩ (fun (M : Nat) (t : List Segment) s ob => ∃ (e : Value), s = [(17, .V (M : Int))] ∧ ob = [.us a 9 1 (([(⟨#[97]⟩ : ByteArray), (⟨#[98]⟩ : ByteArray), (⟨#[99]⟩ : ByteArray)] : List ByteArray).map rS), .us b 70 3 (([(⟨(⟨#[105, 110]⟩ : ByteArray), 0, 0⟩ : Port), (⟨(⟨#[109, 105, 100]⟩ : ByteArray), 1, 0⟩ : Port), (⟨(⟨#[111, 117, 116]⟩ : ByteArray), 2, 0⟩ : Port)] : List Port).map Port.row), .arr f 30 6 1 [[.v a, .v e, .v b, .N, .V 0, .V 0]], .us E 78 2 (([(⟨[0, 1], I⟩ : Arr Int 2), (⟨[2, 1], I⟩ : Arr Int 2)] : List (Arr Int 2)).map (rA cI)), .us e 34 7 (t.map Segment.row)]) ⟨(.slice none 0 0), I, I⟩ ⟨I, J⟩ ⟨[0, 1, 2, 3, 4], I, by decide⟩ ?_ ?_
 rintro M t an s ob ao ⟨e, rfl, rfl⟩ h
 unfold L.zdqe.B3 at h
 have aq : decide ((M : Int) < (([(⟨[0, 1], rfl⟩ : Arr Int 2), (⟨[2, 1], rfl⟩ : Arr Int 2)] : List (Arr Int 2)).length : Int)) = true := decide_eq_true (by omega)
 refine AW.z I (AW.seqG (fun bk ar => (AW.condK (v := true) I aq (AW.skip ?_))))
 subst ar
 refine AW.cutX (fun s ob => ∃ (R : List Segment) (O : Value), L.zdqe.J4 R = some an ∧ s = [] ∧ ob = [.us a 9 1 (([(⟨#[97]⟩ : ByteArray), (⟨#[98]⟩ : ByteArray), (⟨#[99]⟩ : ByteArray)] : List ByteArray).map rS), .us b 70 3 (([(⟨(⟨#[105, 110]⟩ : ByteArray), 0, 0⟩ : Port), (⟨(⟨#[109, 105, 100]⟩ : ByteArray), 1, 0⟩ : Port), (⟨(⟨#[111, 117, 116]⟩ : ByteArray), 2, 0⟩ : Port)] : List Port).map Port.row), .arr f 30 6 1 [[.v a, .v O, .v b, .N, .V 0, .V 0]], .us E 78 2 (([(⟨[0, 1], I⟩ : Arr Int 2), (⟨[2, 1], I⟩ : Arr Int 2)] : List (Arr Int 2)).map (rA cI)), .us O 34 7 (R.map Segment.row)]) [(1, _), (15, _), (16, _), (17, _)] ⟨I, I, I, I, J⟩ ?_ ?_
 refine AW.block (AW.seqG (fun bl au => ?_))
 obtain ⟨u, av, h⟩ := ob_some h
 obtain ⟨aw, aa⟩ := ix_some av
 refine AW.region (AO.q 1 I (AO.d (Yd.indexU 3 (m := u.1) I I I I I I I aw (map_get aa)) I (AO.d (Yd.loadU 3 u.1 0 I I I (map_get aa) I (y := .agg (u.2.l.map cI)) (part_all I (by simp [rA, Arr.h]))) I (AO.act [] I (AX.alloc (cs := [.V 0, .V 0]) (m := 2) I I I I I dS (fun P => (AO.q 1 I (AO.act [5] I (AX.store 5 0 0 (es' := [u.2.l.map cI]) I I I I I I I (by simp [Arr.h, flow_streams.row, deal_table.row]) (by simp [Arr.h, flow_streams.row, deal_table.row]) I (congrArg (fun r => [r]) (setC_all (by simp [Arr.h, flow_streams.row, deal_table.row]))) (AO.nil ?_))))))))))
 subst au
 obtain ⟨c, ax, h⟩ := ob_some h
 obtain ⟨S, w⟩ := ix_some ax
 obtain ⟨g, ay, h⟩ := ob_some h
 obtain ⟨az, ab⟩ := ix_some ay
 obtain ⟨i, a0, h⟩ := ob_some h
 obtain ⟨a1, ac⟩ := ix_some a0
 obtain ⟨a2, a3, h⟩ := ob_some h
 refine AW.rd (.still 0 (.still 1 (.still 3 (.still 6 (.still 7 (.still 8 (.still 9 (.still 10 (.still 11 (.two 2 12 (.two 4 12 (.two 5 12 (.act 12 (.still 13 (.act 14 (.act 15 (.still 16 (.drop 17 .nil)))))) (.act 5 (.still 13 (.act 14 (.act 15 (.still 16 (.drop 17 .nil))))))) (.act 4 (.act 5 (.still 13 (.act 14 (.act 15 (.still 16 (.drop 17 .nil)))))))) (.act 2 (.act 4 (.act 5 (.still 13 (.act 14 (.act 15 (.still 16 (.drop 17 .nil)))))))))))))))))) [2, 5] [_, _] I (AP.r 3 [.o 1 0] I ⟨I, J⟩ (AP.op I (Yp.indexA1 (m := g.1) I I I I I I az (arr_lt ab)) I (AP.o I (Yd.loadO 1 0 (0 + g.1) I I I I (by omega) (y := .V g.2) (by rw [Nat.zero_add]; exact map_get ab)) I (AP.op I (Yp.indexA1 (m := i.1) I I I I I I a1 (arr_lt ac)) I (AP.o I (Yd.loadO 1 0 (0 + i.1) I I I I (by omega) (y := .V i.2) (by rw [Nat.zero_add]; exact map_get ac)) I (AP.op I (Yp.buildP (l := [.V 0, .V 0, .V 0]) Try.bld81 I) I (AP.op I (Yp.buildP (l := [.V 10, .V 0, .V 0]) Try.bld81 I) I (AP.two ?_ ?_))))))))
 refine AP.act [] I I I (AX.buildSlice (sz := 1) (es := ([(⟨#[120]⟩ : ByteArray), (⟨#[121]⟩ : ByteArray)] : List ByteArray).map rS) I I I I I I I I I I I dS (fun G => (AP.two ?_ ?_)))
 refine AP.act [] I I I (AX.of_yd (Yd.indexU 6 (m := c.1) I I I I I I I S (map_get w)) dS (AP.two ?_ ?_))
 refine AP.act [] I I I (AX.of_yd (Yd.loadU 6 c.1 0 I I I (map_get w) I (y := .v (.string c.2)) I) dS (AP.act [] I I I (AX.buildSlice (sz := 3) (es := ([(⟨0, 0, 0⟩ : Point), (⟨10, 0, 0⟩ : Point)] : List Point).map Point.row) I I I I I I I I I I I dS (fun j => (AP.one 7 I (fun A => (AP.p I (Yp.buildP (l := [.v (.string c.2), .V g.2, .V i.2, .V 10, .V 0, .V 0, .v j]) Try.bld34 (fill_step I I I I (fill_step I I I I (fill_step I I I I (fill_step I I I I (fill_step I I (cells_v A) I (fill_nil))))))) I (AP.ghostS (Ghost.freeze [7] (K := [.us j 81 3 (([(⟨0, 0, 0⟩ : Point), (⟨10, 0, 0⟩ : Point)] : List Point).map Point.row)]) I [(34, .list 3 (([(⟨0, 0, 0⟩ : Point), (⟨10, 0, 0⟩ : Point)] : List Point).map Point.row)), (35, .agg [.v (.string c.2), .V g.2, .V i.2, .V 10, .V 0, .V 0, .list 3 (([(⟨0, 0, 0⟩ : Point), (⟨10, 0, 0⟩ : Point)] : List Point).map Point.row)])] ⟨⟨_, I, .us 0 I⟩, ⟨_, I, .agg (.cons (.refl _) (.cons (.refl _) (.cons (.refl _) (.cons (.refl _) (.cons (.refl _) (.cons (.refl _) (.cons (.us 0 I) (.rest _))))))))⟩, J⟩ (ob' := [.us a 9 1 (([(⟨#[97]⟩ : ByteArray), (⟨#[98]⟩ : ByteArray), (⟨#[99]⟩ : ByteArray)] : List ByteArray).map rS), .us b 70 3 (([(⟨(⟨#[105, 110]⟩ : ByteArray), 0, 0⟩ : Port), (⟨(⟨#[109, 105, 100]⟩ : ByteArray), 1, 0⟩ : Port), (⟨(⟨#[111, 117, 116]⟩ : ByteArray), 2, 0⟩ : Port)] : List Port).map Port.row), .arr f 30 6 1 [[.v a, .v e, .v b, .N, .V 0, .V 0]], .us E 78 2 (([(⟨[0, 1], I⟩ : Arr Int 2), (⟨[2, 1], I⟩ : Arr Int 2)] : List (Arr Int 2)).map (rA cI)), .us e 34 7 (t.map Segment.row), .arr P 78 2 1 [u.2.l.map cI], .us G 9 1 (([(⟨#[120]⟩ : ByteArray), (⟨#[121]⟩ : ByteArray)] : List ByteArray).map rS)]) (.rest _)) I ?_))))))))
 rotate_left
 refine AP.act [] I I I (AX.buildSlice (sz := 3) (es := ([(⟨0, 0, 0⟩ : Point), (⟨10, 0, 0⟩ : Point)] : List Point).map Point.row) I I I I I I I I I I I dS (fun j => (AP.act [] I I I (AX.of_yd (Yd.loadU 6 c.1 0 I I I (map_get w) I (y := .v (.string c.2)) I) dS (AP.one 7 I (fun A => (AP.p I (Yp.buildP (l := [.v (.string c.2), .V g.2, .V i.2, .V 10, .V 0, .V 0, .v j]) Try.bld34 (fill_step I I I I (fill_step I I I I (fill_step I I I I (fill_step I I I I (fill_step I I (cells_v A) I (fill_nil))))))) I (AP.ghostS (Ghost.freeze [7] (K := [.us j 81 3 (([(⟨0, 0, 0⟩ : Point), (⟨10, 0, 0⟩ : Point)] : List Point).map Point.row)]) I [(34, .list 3 (([(⟨0, 0, 0⟩ : Point), (⟨10, 0, 0⟩ : Point)] : List Point).map Point.row)), (35, .agg [.v (.string c.2), .V g.2, .V i.2, .V 10, .V 0, .V 0, .list 3 (([(⟨0, 0, 0⟩ : Point), (⟨10, 0, 0⟩ : Point)] : List Point).map Point.row)])] ⟨⟨_, I, .us 0 I⟩, ⟨_, I, .agg (.cons (.refl _) (.cons (.refl _) (.cons (.refl _) (.cons (.refl _) (.cons (.refl _) (.cons (.refl _) (.cons (.us 0 I) (.rest _))))))))⟩, J⟩ (ob' := [.us a 9 1 (([(⟨#[97]⟩ : ByteArray), (⟨#[98]⟩ : ByteArray), (⟨#[99]⟩ : ByteArray)] : List ByteArray).map rS), .us b 70 3 (([(⟨(⟨#[105, 110]⟩ : ByteArray), 0, 0⟩ : Port), (⟨(⟨#[109, 105, 100]⟩ : ByteArray), 1, 0⟩ : Port), (⟨(⟨#[111, 117, 116]⟩ : ByteArray), 2, 0⟩ : Port)] : List Port).map Port.row), .arr f 30 6 1 [[.v a, .v e, .v b, .N, .V 0, .V 0]], .us E 78 2 (([(⟨[0, 1], I⟩ : Arr Int 2), (⟨[2, 1], I⟩ : Arr Int 2)] : List (Arr Int 2)).map (rA cI)), .us e 34 7 (t.map Segment.row), .arr P 78 2 1 [u.2.l.map cI], .us G 9 1 (([(⟨#[120]⟩ : ByteArray), (⟨#[121]⟩ : ByteArray)] : List ByteArray).map rS)]) (.rest _)) I ?_))))))))
 rotate_left
 refine AP.act [] I I I (AX.buildSlice (sz := 3) (es := ([(⟨0, 0, 0⟩ : Point), (⟨10, 0, 0⟩ : Point)] : List Point).map Point.row) I I I I I I I I I I I dS (fun j => (AP.act [] I I I (AX.of_yd (Yd.indexU 6 (m := c.1) I I I I I I I S (map_get w)) dS (AP.act [] I I I (AX.of_yd (Yd.loadU 6 c.1 0 I I I (map_get w) I (y := .v (.string c.2)) I) dS (AP.one 7 I (fun A => (AP.p I (Yp.buildP (l := [.v (.string c.2), .V g.2, .V i.2, .V 10, .V 0, .V 0, .v j]) Try.bld34 (fill_step I I I I (fill_step I I I I (fill_step I I I I (fill_step I I I I (fill_step I I (cells_v A) I (fill_nil))))))) I (AP.ghostS (Ghost.freeze [7] (K := [.us j 81 3 (([(⟨0, 0, 0⟩ : Point), (⟨10, 0, 0⟩ : Point)] : List Point).map Point.row)]) I [(34, .list 3 (([(⟨0, 0, 0⟩ : Point), (⟨10, 0, 0⟩ : Point)] : List Point).map Point.row)), (35, .agg [.v (.string c.2), .V g.2, .V i.2, .V 10, .V 0, .V 0, .list 3 (([(⟨0, 0, 0⟩ : Point), (⟨10, 0, 0⟩ : Point)] : List Point).map Point.row)])] ⟨⟨_, I, .us 0 I⟩, ⟨_, I, .agg (.cons (.refl _) (.cons (.refl _) (.cons (.refl _) (.cons (.refl _) (.cons (.refl _) (.cons (.refl _) (.cons (.us 0 I) (.rest _))))))))⟩, J⟩ (ob' := [.us a 9 1 (([(⟨#[97]⟩ : ByteArray), (⟨#[98]⟩ : ByteArray), (⟨#[99]⟩ : ByteArray)] : List ByteArray).map rS), .us b 70 3 (([(⟨(⟨#[105, 110]⟩ : ByteArray), 0, 0⟩ : Port), (⟨(⟨#[109, 105, 100]⟩ : ByteArray), 1, 0⟩ : Port), (⟨(⟨#[111, 117, 116]⟩ : ByteArray), 2, 0⟩ : Port)] : List Port).map Port.row), .arr f 30 6 1 [[.v a, .v e, .v b, .N, .V 0, .V 0]], .us E 78 2 (([(⟨[0, 1], I⟩ : Arr Int 2), (⟨[2, 1], I⟩ : Arr Int 2)] : List (Arr Int 2)).map (rA cI)), .us e 34 7 (t.map Segment.row), .arr P 78 2 1 [u.2.l.map cI], .us G 9 1 (([(⟨#[120]⟩ : ByteArray), (⟨#[121]⟩ : ByteArray)] : List ByteArray).map rS)]) (.rest _)) I ?_))))))))))
 rotate_left
 refine AP.act [] I I I (AX.buildSlice (sz := 3) (es := ([(⟨0, 0, 0⟩ : Point), (⟨10, 0, 0⟩ : Point)] : List Point).map Point.row) I I I I I I I I I I I dS (fun j => (AP.act [] I I I (AX.buildSlice (sz := 1) (es := ([(⟨#[120]⟩ : ByteArray), (⟨#[121]⟩ : ByteArray)] : List ByteArray).map rS) I I I I I I I I I I I dS (fun G => (AP.act [] I I I (AX.of_yd (Yd.indexU 7 (m := c.1) I I I I I I I S (map_get w)) dS (AP.act [] I I I (AX.of_yd (Yd.loadU 7 c.1 0 I I I (map_get w) I (y := .v (.string c.2)) I) dS (AP.one 6 I (fun A => (AP.p I (Yp.buildP (l := [.v (.string c.2), .V g.2, .V i.2, .V 10, .V 0, .V 0, .v j]) Try.bld34 (fill_step I I I I (fill_step I I I I (fill_step I I I I (fill_step I I I I (fill_step I I (cells_v A) I (fill_nil))))))) I (AP.ghostS (Ghost.freeze [6] (K := [.us j 81 3 (([(⟨0, 0, 0⟩ : Point), (⟨10, 0, 0⟩ : Point)] : List Point).map Point.row)]) I [(34, .list 3 (([(⟨0, 0, 0⟩ : Point), (⟨10, 0, 0⟩ : Point)] : List Point).map Point.row)), (35, .agg [.v (.string c.2), .V g.2, .V i.2, .V 10, .V 0, .V 0, .list 3 (([(⟨0, 0, 0⟩ : Point), (⟨10, 0, 0⟩ : Point)] : List Point).map Point.row)])] ⟨⟨_, I, .us 0 I⟩, ⟨_, I, .agg (.cons (.refl _) (.cons (.refl _) (.cons (.refl _) (.cons (.refl _) (.cons (.refl _) (.cons (.refl _) (.cons (.us 0 I) (.rest _))))))))⟩, J⟩ (ob' := [.us a 9 1 (([(⟨#[97]⟩ : ByteArray), (⟨#[98]⟩ : ByteArray), (⟨#[99]⟩ : ByteArray)] : List ByteArray).map rS), .us b 70 3 (([(⟨(⟨#[105, 110]⟩ : ByteArray), 0, 0⟩ : Port), (⟨(⟨#[109, 105, 100]⟩ : ByteArray), 1, 0⟩ : Port), (⟨(⟨#[111, 117, 116]⟩ : ByteArray), 2, 0⟩ : Port)] : List Port).map Port.row), .arr f 30 6 1 [[.v a, .v e, .v b, .N, .V 0, .V 0]], .us E 78 2 (([(⟨[0, 1], I⟩ : Arr Int 2), (⟨[2, 1], I⟩ : Arr Int 2)] : List (Arr Int 2)).map (rA cI)), .us e 34 7 (t.map Segment.row), .arr P 78 2 1 [u.2.l.map cI], .us G 9 1 (([(⟨#[120]⟩ : ByteArray), (⟨#[121]⟩ : ByteArray)] : List ByteArray).map rS)]) (.rest _)) I ?_)))))))))))))
 any_goals
  refine AP.act [] I I I (AX.lt 7 (([(⟨c.2, g.2, i.2, 10, 0, 0, ([(⟨0, 0, 0⟩ : Point), (⟨10, 0, 0⟩ : Point)] : List Point)⟩ : Segment)] : List Segment).map Segment.row) (AP.act [4] I I I (AX.ap 4 I a3 (fun ad => (AP.q 1 I (AP.one 4 I (fun a4 => (AP.drop [2] I I I (AX.store 2 0 1 (es' := [[.v a, .v ad, .v b, .N, .V 0, .V 0]]) I I I I I I (cells_v a4) I (le_ble I) I I (AP.ofAO (AO.nil ?_)))))))))))
  exact lg ⟨a2, ad, h, I, I⟩ [0, 1, 2, 3, 4]
 rintro s ob ⟨R, O, h, rfl, rfl⟩
 unfold L.zdqe.J4 at h
 refine AW.region (AO.r 2 [.k 0 (M + 1 : Nat)] I ⟨cast_wr ao Q, J⟩ ?_)
 obtain rfl := oi h
 refine AO.nil ?_
 exact lg ⟨O, I, I⟩ [0, 1, 2, 3, 4]
 rintro t s ob ⟨e, rfl, rfl⟩ he
 subst he
 have h := am
 have a5 : decide (((([(⟨[0, 1], rfl⟩ : Arr Int 2), (⟨[2, 1], rfl⟩ : Arr Int 2)] : List (Arr Int 2)).length : Nat) : Int) < (([(⟨[0, 1], rfl⟩ : Arr Int 2), (⟨[2, 1], rfl⟩ : Arr Int 2)] : List (Arr Int 2)).length : Int)) = false := by simp
 refine AW.z I (AW.seqG (fun bm bn => (AW.condK (v := false) I a5 (AW.exit ?_))))
 exact lg ⟨t, e, h, I, I⟩ [0, 1, 2, 4]
 rintro s ob ⟨n, D, h, rfl, rfl⟩
 unfold L.zdqe.J1 at h
 refine AW.seqG (fun bo a6 => ?_)
 obtain ⟨B, a7, h⟩ := ob_some h
 refine AW.region (AO.r 1 [.o 0 2] I ⟨I, J⟩ (AO.p (Yp.buildP (l := [.V 1, .V 10]) Try.bld46 I) I (AO.act [] I (AX.buildSlice (sz := 2) (es := ([(⟨1, 10⟩ : Piece)] : List Piece).map Piece.row) I I I I I I I I I I I dS (fun a8 => (AO.p (Yp.buildP (l := [.V 2, .V 10]) Try.bld46 I) I (AO.act [] I (AX.buildSlice (sz := 2) (es := ([(⟨2, 10⟩ : Piece)] : List Piece).map Piece.row) I I I I I I I I I I I dS (fun a9 => (AO.ghost (Ghost.freeze [4, 5] (K := [.us a8 46 2 (([(⟨1, 10⟩ : Piece)] : List Piece).map Piece.row), .us a9 46 2 (([(⟨2, 10⟩ : Piece)] : List Piece).map Piece.row)]) I [(43, .list 2 (([(⟨1, 10⟩ : Piece)] : List Piece).map Piece.row)), (45, .list 2 (([(⟨2, 10⟩ : Piece)] : List Piece).map Piece.row))] ⟨⟨_, I, .us 0 I⟩, ⟨_, I, .us 1 I⟩, J⟩ (ob' := [.us a 9 1 (([(⟨#[97]⟩ : ByteArray), (⟨#[98]⟩ : ByteArray), (⟨#[99]⟩ : ByteArray)] : List ByteArray).map rS), .us b 70 3 (([(⟨(⟨#[105, 110]⟩ : ByteArray), 0, 0⟩ : Port), (⟨(⟨#[109, 105, 100]⟩ : ByteArray), 1, 0⟩ : Port), (⟨(⟨#[111, 117, 116]⟩ : ByteArray), 2, 0⟩ : Port)] : List Port).map Port.row), .arr f 30 6 1 [[.v a, .v D, .v b, .N, .V 0, .V 0]], .us D 34 7 (n.map Segment.row)]) (.rest _)) (AO.act [] I (AX.lt 1 (([([(⟨1, 10⟩ : Piece)] : List Piece), ([(⟨2, 10⟩ : Piece)] : List Piece)] : List (List Piece)).map (rL 2 Piece.row)) (AO.act [] I (AX.buildSlice (sz := 1) (es := ([4, (-3)] : List Int).map rI) I I I I I I I I I I I dS (fun ae => ?_)))))))))))))))
 refine AO.act [] I (AX.buildSlice (sz := 1) (es := ([4, (-1), (-3)] : List Int).map rI) I I I I I I I I I I I dS (fun af => (AO.one 4 I (fun ba => (AO.one 5 I (fun bb => (AO.p (Yp.buildP (l := [.v ae, .v af, .N]) Try.bld37 (fill_step I I (cells_v ba) I (fill_step I I (cells_v bb) I (fill_nil)))) I (AO.act [] I (AX.lt 1 (([5, 0, 0] : List Int).map rI) (AO.ghost (Ghost.freeze [0, 1, 3, 4, 5] (K := [.us a 9 1 (([(⟨#[97]⟩ : ByteArray), (⟨#[98]⟩ : ByteArray), (⟨#[99]⟩ : ByteArray)] : List ByteArray).map rS), .us b 70 3 (([(⟨(⟨#[105, 110]⟩ : ByteArray), 0, 0⟩ : Port), (⟨(⟨#[109, 105, 100]⟩ : ByteArray), 1, 0⟩ : Port), (⟨(⟨#[111, 117, 116]⟩ : ByteArray), 2, 0⟩ : Port)] : List Port).map Port.row), .us D 34 7 (n.map Segment.row), .us ae 3 1 (([4, (-3)] : List Int).map rI), .us af 3 1 (([4, (-1), (-3)] : List Int).map rI)]) I [(41, .agg [.list 1 (([(⟨#[97]⟩ : ByteArray), (⟨#[98]⟩ : ByteArray), (⟨#[99]⟩ : ByteArray)] : List ByteArray).map rS), .list 7 (n.map Segment.row), .list 3 (([(⟨(⟨#[105, 110]⟩ : ByteArray), 0, 0⟩ : Port), (⟨(⟨#[109, 105, 100]⟩ : ByteArray), 1, 0⟩ : Port), (⟨(⟨#[111, 117, 116]⟩ : ByteArray), 2, 0⟩ : Port)] : List Port).map Port.row), .list 5 ([].map Station.row), .V 0, .V 0]), (47, .list 1 (([4, (-3)] : List Int).map rI)), (48, .list 1 (([4, (-1), (-3)] : List Int).map rI)), (49, .agg [.list 1 (([4, (-3)] : List Int).map rI), .list 1 (([4, (-1), (-3)] : List Int).map rI), .list 1 ([].map rB)])] ⟨⟨_, I, .agg (.cons (.us 0 I) (.cons (.us 2 I) (.cons (.us 1 I) (.cons (.nil _) (.rest _)))))⟩, ⟨_, I, .us 3 I⟩, ⟨_, I, .us 4 I⟩, ⟨_, I, .agg (.cons (.us 3 I) (.cons (.us 4 I) (.cons (.nil _) (.rest _))))⟩, J⟩ (ob' := [.arr f 30 6 1 [[.list 1 (([(⟨#[97]⟩ : ByteArray), (⟨#[98]⟩ : ByteArray), (⟨#[99]⟩ : ByteArray)] : List ByteArray).map rS), .list 7 (n.map Segment.row), .list 3 (([(⟨(⟨#[105, 110]⟩ : ByteArray), 0, 0⟩ : Port), (⟨(⟨#[109, 105, 100]⟩ : ByteArray), 1, 0⟩ : Port), (⟨(⟨#[111, 117, 116]⟩ : ByteArray), 2, 0⟩ : Port)] : List Port).map Port.row), .N, .V 0, .V 0]]]) (.cons (.arr (.cons (.us 0 I) (.cons (.us 2 I) (.cons (.us 1 I) (.rest _))))) (.rest _))) ?_))))))))))
 refine AO.act [] I (AX.call0 I I I (L.zcgl_ok _ _ _ _ _ a7) dS ?_)
 rintro _ _ ⟨U, W, rfl, rfl⟩
 refine AO.q 7 I (AO.nil ?_)
 subst a6
 refine AW.cutX (fun s ob => ∃ (X : Bool), L.zdqe.J2 X = some r ∧ s = [(0, .v (.bool X))] ∧ ob = []) [] J ?_ ?_
 rcases bt ((B.2.2 == 0)) with F | F
 replace h := ife_t F h
 obtain ⟨bc, ag, h⟩ := ob_some h
 rcases bt (bc) with H | H
 replace h := ife_t H h
 obtain ⟨bd, be, h⟩ := ob_some h
 refine AW.region (AO.q 3 I (AO.known 57 I F (AO.q 1 I (AO.gt I I I (AO.p (Yp.buildP (l := [.V 5, .V 4]) Try.bld46 I) I (AO.gt I I I (AO.p (Yp.buildP (l := [.V 1, .V 6]) Try.bld46 I) I (AO.gt I I I (AO.act [] I (AX.buildSlice (sz := 2) (es := ([(⟨5, 4⟩ : Piece), (⟨1, 6⟩ : Piece)] : List Piece).map Piece.row) I I I I I I I I I I I dS (fun Y => (AO.gt I I I (AO.p (Yp.buildP (l := [.V 2, .V 7]) Try.bld46 I) I (AO.gt I I I ?_))))))))))))))
 refine AO.p (Yp.buildP (l := [.V 1, .V 3]) Try.bld46 I) I (AO.gt I I I (AO.act [] I (AX.buildSlice (sz := 2) (es := ([(⟨2, 7⟩ : Piece), (⟨1, 3⟩ : Piece)] : List Piece).map Piece.row) I I I I I I I I I I I dS (fun Z => (AO.ghost (Ghost.freeze [3, 4] (K := [.us Y 46 2 (([(⟨5, 4⟩ : Piece), (⟨1, 6⟩ : Piece)] : List Piece).map Piece.row), .us Z 46 2 (([(⟨2, 7⟩ : Piece), (⟨1, 3⟩ : Piece)] : List Piece).map Piece.row)]) I [(61, .list 2 (([(⟨5, 4⟩ : Piece), (⟨1, 6⟩ : Piece)] : List Piece).map Piece.row)), (64, .list 2 (([(⟨2, 7⟩ : Piece), (⟨1, 3⟩ : Piece)] : List Piece).map Piece.row))] ⟨⟨_, I, .us 0 I⟩, ⟨_, I, .us 1 I⟩, J⟩ (ob' := [.arr f 30 6 1 [[.list 1 (([(⟨#[97]⟩ : ByteArray), (⟨#[98]⟩ : ByteArray), (⟨#[99]⟩ : ByteArray)] : List ByteArray).map rS), .list 7 (n.map Segment.row), .list 3 (([(⟨(⟨#[105, 110]⟩ : ByteArray), 0, 0⟩ : Port), (⟨(⟨#[109, 105, 100]⟩ : ByteArray), 1, 0⟩ : Port), (⟨(⟨#[111, 117, 116]⟩ : ByteArray), 2, 0⟩ : Port)] : List Port).map Port.row), .N, .V 0, .V 0]], .us U 44 1 (B.1.map (rL 2 Piece.row)), .us W 44 1 (B.2.1.map (rL 2 Piece.row))]) (.rest _)) (AO.gt I I I (AO.act [] I (AX.lt 1 (([([(⟨5, 4⟩ : Piece), (⟨1, 6⟩ : Piece)] : List Piece), ([(⟨2, 7⟩ : Piece), (⟨1, 3⟩ : Piece)] : List Piece)] : List (List Piece)).map (rL 2 Piece.row)) (AO.gt I I I (AO.act [] I (AX.callL I (.refl _) I I (.cons (.us 1 I) (.rest _)) I (L.zkma_ok _ _ _ ag) dS (by rintro _ _ ⟨rfl, _⟩; rfl) ?_)))))))))))
 rintro _ ⟨_, rfl, -⟩
 refine AO.q 2 I (AO.known 68 I H (AO.q 1 I (AO.gt I I I (AO.p (Yp.buildP (l := [.V 1, .V 1]) Try.bld46 I) I (AO.gt I I I (AO.act [] I (AX.buildSlice (sz := 2) (es := ([(⟨1, 1⟩ : Piece)] : List Piece).map Piece.row) I I I I I I I I I I I dS (fun bf => (AO.gt I I I (AO.p (Yp.buildP (l := [.V 2, .V 3]) Try.bld46 I) I (AO.gt I I I (AO.act [] I (AX.buildSlice (sz := 2) (es := ([(⟨2, 3⟩ : Piece)] : List Piece).map Piece.row) I I I I I I I I I I I dS (fun bg => (AO.ghost (Ghost.freeze [3, 4] (K := [.us bf 46 2 (([(⟨1, 1⟩ : Piece)] : List Piece).map Piece.row), .us bg 46 2 (([(⟨2, 3⟩ : Piece)] : List Piece).map Piece.row)]) I [(71, .list 2 (([(⟨1, 1⟩ : Piece)] : List Piece).map Piece.row)), (73, .list 2 (([(⟨2, 3⟩ : Piece)] : List Piece).map Piece.row))] ⟨⟨_, I, .us 0 I⟩, ⟨_, I, .us 1 I⟩, J⟩ (ob' := [.arr f 30 6 1 [[.list 1 (([(⟨#[97]⟩ : ByteArray), (⟨#[98]⟩ : ByteArray), (⟨#[99]⟩ : ByteArray)] : List ByteArray).map rS), .list 7 (n.map Segment.row), .list 3 (([(⟨(⟨#[105, 110]⟩ : ByteArray), 0, 0⟩ : Port), (⟨(⟨#[109, 105, 100]⟩ : ByteArray), 1, 0⟩ : Port), (⟨(⟨#[111, 117, 116]⟩ : ByteArray), 2, 0⟩ : Port)] : List Port).map Port.row), .N, .V 0, .V 0]], .us U 44 1 (B.1.map (rL 2 Piece.row)), .us W 44 1 (B.2.1.map (rL 2 Piece.row))]) (.rest _)) (AO.gt I I I ?_))))))))))))))))
 refine AO.act [] I (AX.lt 1 [[.N], [.list 2 (([(⟨1, 1⟩ : Piece)] : List Piece).map Piece.row)], [.list 2 (([(⟨2, 3⟩ : Piece)] : List Piece).map Piece.row)]] (AO.ghost (Ghost.lit 74 (es' := ([[], ([(⟨1, 1⟩ : Piece)] : List Piece), ([(⟨2, 3⟩ : Piece)] : List Piece)] : List (List Piece)).map (rL 2 Piece.row)) I (.cons (.cons (.nil _) .nil) (.cons (.rest _) (.cons (.rest _) (.nil))))) (AO.gt I I I (AO.act [] I (AX.callL I (.refl _) I I (.cons (.us 2 I) (.rest _)) I (L.zkma_ok _ _ _ be) dS (by rintro _ _ ⟨rfl, _⟩; rfl) ?_)))))
 rintro _ ⟨_, rfl, -⟩
 refine AO.q 2 I (AO.nil ?_)
 exact lg ⟨bd, h, I, I⟩ []
 replace h := ife_f H h
 refine AW.region (AO.q 3 I (AO.known 57 I F (AO.q 1 I (AO.gt I I I (AO.p (Yp.buildP (l := [.V 5, .V 4]) Try.bld46 I) I (AO.gt I I I (AO.p (Yp.buildP (l := [.V 1, .V 6]) Try.bld46 I) I (AO.gt I I I (AO.act [] I (AX.buildSlice (sz := 2) (es := ([(⟨5, 4⟩ : Piece), (⟨1, 6⟩ : Piece)] : List Piece).map Piece.row) I I I I I I I I I I I dS (fun Y => (AO.gt I I I (AO.p (Yp.buildP (l := [.V 2, .V 7]) Try.bld46 I) I (AO.gt I I I ?_))))))))))))))
 refine AO.p (Yp.buildP (l := [.V 1, .V 3]) Try.bld46 I) I (AO.gt I I I (AO.act [] I (AX.buildSlice (sz := 2) (es := ([(⟨2, 7⟩ : Piece), (⟨1, 3⟩ : Piece)] : List Piece).map Piece.row) I I I I I I I I I I I dS (fun Z => (AO.ghost (Ghost.freeze [3, 4] (K := [.us Y 46 2 (([(⟨5, 4⟩ : Piece), (⟨1, 6⟩ : Piece)] : List Piece).map Piece.row), .us Z 46 2 (([(⟨2, 7⟩ : Piece), (⟨1, 3⟩ : Piece)] : List Piece).map Piece.row)]) I [(61, .list 2 (([(⟨5, 4⟩ : Piece), (⟨1, 6⟩ : Piece)] : List Piece).map Piece.row)), (64, .list 2 (([(⟨2, 7⟩ : Piece), (⟨1, 3⟩ : Piece)] : List Piece).map Piece.row))] ⟨⟨_, I, .us 0 I⟩, ⟨_, I, .us 1 I⟩, J⟩ (ob' := [.arr f 30 6 1 [[.list 1 (([(⟨#[97]⟩ : ByteArray), (⟨#[98]⟩ : ByteArray), (⟨#[99]⟩ : ByteArray)] : List ByteArray).map rS), .list 7 (n.map Segment.row), .list 3 (([(⟨(⟨#[105, 110]⟩ : ByteArray), 0, 0⟩ : Port), (⟨(⟨#[109, 105, 100]⟩ : ByteArray), 1, 0⟩ : Port), (⟨(⟨#[111, 117, 116]⟩ : ByteArray), 2, 0⟩ : Port)] : List Port).map Port.row), .N, .V 0, .V 0]], .us U 44 1 (B.1.map (rL 2 Piece.row)), .us W 44 1 (B.2.1.map (rL 2 Piece.row))]) (.rest _)) (AO.gt I I I (AO.act [] I (AX.lt 1 (([([(⟨5, 4⟩ : Piece), (⟨1, 6⟩ : Piece)] : List Piece), ([(⟨2, 7⟩ : Piece), (⟨1, 3⟩ : Piece)] : List Piece)] : List (List Piece)).map (rL 2 Piece.row)) (AO.gt I I I (AO.act [] I (AX.callL I (.refl _) I I (.cons (.us 1 I) (.rest _)) I (L.zkma_ok _ _ _ ag) dS (by rintro _ _ ⟨rfl, _⟩; rfl) ?_)))))))))))
 rintro _ ⟨_, rfl, -⟩
 refine AO.q 2 I (AO.known 68 I H (AO.q 9 I (AO.nil ?_)))
 exact lg ⟨false, h, I, I⟩ []
 replace h := ife_f F h
 refine AW.region (AO.q 3 I (AO.known 57 I F (AO.q 20 I (AO.nil ?_))))
 exact lg ⟨false, h, I, I⟩ []
 rintro s ob ⟨X, h, rfl, rfl⟩
 unfold L.zdqe.J2 at h
 obtain rfl := oi h
 exact AW.ret pr
end Go.Proofs.Ytligpmmgdjipbaa
