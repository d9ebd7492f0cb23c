/- Walks that show what functions of the program compute; printed by a program of ours. No condition. -/
import Derived.Test.YtaliejncdnegeaaGreatZwLa3
set_option maxRecDepth 100000
namespace Go.Proofs.YtaliejncdnegeaaGreat
open Go.Aw
set_option linter.unusedVariables false
set_option linter.unusedSimpArgs false
set_option maxHeartbeats 4000000
theorem L.zhye_ok (a : Int) (r : Bool) (h : L.zhye a = r) : ACalls Tryz.env 118 [.V a] [] (fun x new => x = .v (.bool r) ∧ new = []) := by
 refine ACalls.of_body Tryz.func118 rfl rfl rfl (fun C hC => ?_)
 unfold L.zhye at h
 refine AW.z I (AW.cutX (fun s ob => s = [(2, .v (.bool (decide (a < 0) || decide (a ≥ 1000))))] ∧ ob = []) [] J ?_ ?_)
 refine AW.region (AO.q 3 I ?_)
 rcases bt (decide (a < 0)) with b | b
 refine AO.known 5 I b (AO.q 4 I (AO.nil ?_))
 exact lf ⟨I, I⟩ ⟨(get_b (by simp only [b, bz])), J⟩ [] I
 refine AO.known 5 I b (AO.q 4 I (AO.nil ?_))
 exact lf ⟨I, I⟩ ⟨(get_b (by simp only [b, bz])), J⟩ [] I
 rintro s ob ⟨rfl, rfl⟩
 obtain rfl := h
 exact AW.ret pr
theorem L.zvbn_ok (a : Network) (f : List (List Piece)) (b : Plan) (d : List Int) (r : (Option advance_line) × Int) (h : L.zvbn a f b d = some r) : ACalls Tryz.env 82 [.agg (Network.row a), .list 1 (f.map (rL 2 Piece.row)), .agg (Plan.row b), .list 1 (d.map rI)] [] (fun x new => optR r.1 (x = .tup [.v (.pointer none), .V r.2] ∧ new = []) (fun l => ∃ (D : Nat) (u0_0 : Value) (u0_1 : Value) (u0_2 : Value), x = .tup [.v (.pointer (some ⟨D, 0, none⟩)), .V r.2] ∧ new = [.arr D 131 14 1 [[.list 1 (l.n_.Nodes.map rS), .list 7 (l.n_.Segments.map Segment.row), .list 3 (l.n_.Ports.map Port.row), .list 5 (l.n_.Stations.map Station.row), .V l.n_.Vapour, .V l.n_.Settle, .list 1 (l.p.Rates.map rI), .list 1 (l.p.Ports.map rI), .list 1 (l.p.Pumps.map rB), .list 1 (l.feeds.map rI), .list 1 (l.order.map rI), .v u0_0, .v u0_1, .v u0_2]], .us u0_0 35 1 (l.fills.map (rL 2 Piece.row)), .us u0_1 35 1 (l.given.map (rL 2 Piece.row)), .us u0_2 35 1 (l.out_.map (rL 2 Piece.row))])) := by
 refine ACalls.of_body Tryz.func82 rfl rfl rfl (fun C hC => ?_)
 unfold L.zvbn at h
 refine AW.seqG (fun y1 M => (AW.region (AO.act [] I (AX.box (cs := Network.row a) (m := 6) I I I dS (fun E => (AO.act [] I (AX.box (cs := Plan.row b) (m := 3) I I I dS (fun F => (AO.q 2 I (AO.nil ?_))))))))))
 subst M
 refine AW.seqG (fun y4 O => (AW.seq ?_))
 obtain ⟨r5, P, h⟩ := ob_some h
 refine AW.region (AO.r 2 [.o 0 0] I ⟨I, J⟩ (AO.c (L.zspo_ok _ _ _ P) (AO.q 1 I (AO.nil (AW.z I (AW.ch h I ?_ ?_))))))
 intro Q h
 refine AW.z I (AW.ghost g0 ?_)
 obtain rfl := oi h
 exact AW.ret ⟨.inr I, [_, _], [], ⟨I, I, J⟩, sl_n, I, I⟩
 intro Q h
 refine AW.skip ?_
 subst O
 refine AW.seqG (fun y8 R => ?_)
 obtain ⟨e, S, h⟩ := ob_some h
 refine AW.region (AO.r 2 [.o 0 0, .o 1 1] I ⟨I, I, J⟩ (AO.act [] I (AX.call0 I I I (L.zyyp_ok _ _ _ S) dS ?_)))
 rintro _ _ ⟨G, rfl, rfl⟩
 refine AO.q 5 I (AO.nil ?_)
 subst R
 refine AW.seqG (fun av U => (AW.z I (AW.ch h I ?_ ?_)))
 intro W h
 refine AW.z I (AW.ghost g0 ?_)
 obtain rfl := oi h
 exact AW.ret ⟨.inr I, [_, _], [], ⟨I, I, J⟩, sl_n, I, I⟩
 intro W h
 refine AW.skip ?_
 subst U
 refine AW.seqG (fun aw X => (AW.cutX (fun s ob => ∃ (y : Bool), L.zvbn.J1 a f b d e y = some r ∧ s = [(40, .v (.bool y))] ∧ ob = [.arr E 32 6 1 [Network.row a], .arr F 46 3 1 [Plan.row b], .us G 3 1 (e.1.map rI)]) [(1, _), (3, _), (4, _), (6, _), (11, _)] ⟨I, I, I, I, I, J⟩ ?_ ?_))
 refine AW.region (AO.r 7 [.l 1 (d.length : Int), .o 3 0, .l 4 (a.Ports.length : Int)] I ⟨len_m, I, len_m, J⟩ ?_)
 rcases bt (((d.length : Int) != (a.Ports.length : Int))) with j | j
 replace h := ife_t j h
 refine AO.known 37 I j (AO.q 3 I (AO.nil ?_))
 exact lg ⟨true, h, I, I⟩ [0, 1, 2]
 replace h := ife_f j h
 obtain ⟨Y, Z, h⟩ := ob_some h
 refine AO.known 37 I j (AO.q 1 I (AO.gt I I I (AO.c (L.zvoj_ok _ (.v (.func (.func 118) #[] #[])) I (fun x => some (L.zhye x)) (fun x r h => by obtain I := oi h; exact L.zhye_ok x _ I) _ Z) (AO.q 1 I (AO.nil ?_)))))
 exact lg ⟨Y, h, I, I⟩ [0, 1, 2]
 rintro s ob ⟨y, h, rfl, rfl⟩
 unfold L.zvbn.J1 at h
 refine AW.ch h I ?_ ?_
 intro aa h
 refine AW.z I (AW.ghost g0 ?_)
 obtain rfl := oi h
 exact AW.ret ⟨.inr I, [_, _], [], ⟨I, I, J⟩, sl_n, I, I⟩
 intro aa h
 refine AW.skip ?_
 subst X
 refine AW.seqG (fun ax ab => (AW.region (AO.r 4 [.o 0 0, .o 1 1] I ⟨I, I, J⟩ (AO.ghost (Ghost.freeze [2] (K := [.us G 3 1 (e.1.map rI)]) I [(11, .list 1 (e.1.map rI)), (44, .list 1 (e.1.map rI))] ⟨⟨_, I, .us 0 I⟩, ⟨_, I, .us 0 I⟩, J⟩ (ob' := [.arr E 32 6 1 [Network.row a], .arr F 46 3 1 [Plan.row b]]) (.rest _)) (AO.p (Yp.buildP (l := [.list 1 (a.Nodes.map rS), .list 7 (a.Segments.map Segment.row), .list 3 (a.Ports.map Port.row), .list 5 (a.Stations.map Station.row), .V a.Vapour, .V a.Settle, .list 1 (b.Rates.map rI), .list 1 (b.Ports.map rI), .list 1 (b.Pumps.map rB), .list 1 (d.map rI), .list 1 (e.1.map rI), .N, .N, .N]) Tryz.bld131 I) I (AO.act [] I (AX.box (cs := [.list 1 (a.Nodes.map rS), .list 7 (a.Segments.map Segment.row), .list 3 (a.Ports.map Port.row), .list 5 (a.Stations.map Station.row), .V a.Vapour, .V a.Settle, .list 1 (b.Rates.map rI), .list 1 (b.Ports.map rI), .list 1 (b.Pumps.map rB), .list 1 (d.map rI), .list 1 (e.1.map rI), .N, .N, .N]) (m := 14) I I I dS (fun n => (AO.q 1 I (AO.nil ?_))))))))))
 subst ab
 refine AW.cutX (fun s ob => ∃ (w : List (List Piece)) (i : Value), L.zvbn.J2 a b d e w = some r ∧ s = [] ∧ ob = [.arr n 131 14 1 [[.list 1 (a.Nodes.map rS), .list 7 (a.Segments.map Segment.row), .list 3 (a.Ports.map Port.row), .list 5 (a.Stations.map Station.row), .V a.Vapour, .V a.Settle, .list 1 (b.Rates.map rI), .list 1 (b.Ports.map rI), .list 1 (b.Pumps.map rB), .list 1 (d.map rI), .list 1 (e.1.map rI), .v i, .N, .N]], .us i 35 1 (w.map (rL 2 Piece.row))]) [(13, _)] ⟨I, J⟩ ?_ ?_
 refine AW.zr [.l 1 (f.length : Int)] I ⟨len_m, J⟩ (AW.block (AW.listMax 47 I (fun A => ?_)))
 replace A : f.length ≤ 9223372036854775806 := by rw [List.length_map] at A; omega
 refine AW.ghost (Ghost.nilU 35 1) ?_
 obtain ⟨ay, ac, ad⟩ := ob_some h
 clear h
 refine AW.forY ac [(13, _), (47, _), (48, _)] ⟨I, I, I, J⟩ (fun (t : Nat) (u : List (List Piece)) s ob => ∃ (g : Value), s = [(49, .V (t : Int))] ∧ ob = [.arr n 131 14 1 [[.list 1 (a.Nodes.map rS), .list 7 (a.Segments.map Segment.row), .list 3 (a.Ports.map Port.row), .list 5 (a.Stations.map Station.row), .V a.Vapour, .V a.Settle, .list 1 (b.Rates.map rI), .list 1 (b.Ports.map rI), .list 1 (b.Pumps.map rB), .list 1 (d.map rI), .list 1 (e.1.map rI), .v g, .N, .N]], .us g 35 1 (u.map (rL 2 Piece.row))]) ⟨(.slice none 0 0), I, I⟩ ⟨I, J⟩ ⟨[2, 3], I, by decide⟩ ?_ ?_
 rintro t ae u az s ob af ag ⟨g, rfl, rfl⟩ h
 unfold L.zvbn.B3 at h
 have ah : decide ((t : Int) < (f.length : Int)) = true := decide_eq_true (by omega)
 refine AW.z I (AW.seqG (fun a0 ai => (AW.condK (v := true) I ah (AW.skip ?_))))
 subst ai
 refine AW.seq (AW.block (AW.zr [.x 0 t ((rL 2 Piece.row) ae)] I ⟨⟨I, map_get af⟩, J⟩ ?_))
 obtain ⟨B, aj, h⟩ := ob_some h
 obtain ⟨a1, ak, h⟩ := ob_some h
 refine AW.rd (.still 0 (.still 1 (.still 2 (.still 3 (.still 4 (.still 5 (.act 6 (.act 7 (.act 8 (.still 9 (.still 10 (.drop 11 .nil)))))))))))) [0] [_] I (AP.r 6 [.o 4 0] I ⟨I, J⟩ (AP.act [] I I I (AX.call0 I I I (L.zgxj_ok _ _ aj) dS ?_)))
 rintro _ _ ⟨al, rfl, rfl⟩
 refine AP.ghostS (Ghost.freeze [2] (K := [.us al 66 2 (B.map Piece.row)]) I [(59, .list 2 (B.map Piece.row))] ⟨⟨_, I, .us 0 I⟩, J⟩ (ob' := [.arr n 131 14 1 [[.list 1 (a.Nodes.map rS), .list 7 (a.Segments.map Segment.row), .list 3 (a.Ports.map Port.row), .list 5 (a.Stations.map Station.row), .V a.Vapour, .V a.Settle, .list 1 (b.Rates.map rI), .list 1 (b.Ports.map rI), .list 1 (b.Pumps.map rB), .list 1 (d.map rI), .list 1 (e.1.map rI), .v g, .N, .N]], .us g 35 1 (u.map (rL 2 Piece.row))]) (.rest _)) I (AP.act [] I I I (AX.lt 1 (([B] : List (List Piece)).map (rL 2 Piece.row)) (AP.act [1] I I I (AX.ap 1 I ak (fun H => (AP.q 2 I (AP.one 1 I (fun am => (AP.drop [0] I I I (AX.store 0 0 11 (es' := [[.list 1 (a.Nodes.map rS), .list 7 (a.Segments.map Segment.row), .list 3 (a.Ports.map Port.row), .list 5 (a.Stations.map Station.row), .V a.Vapour, .V a.Settle, .list 1 (b.Rates.map rI), .list 1 (b.Ports.map rI), .list 1 (b.Pumps.map rB), .list 1 (d.map rI), .list 1 (e.1.map rI), .v H, .N, .N]]) I I I I I I (cells_v am) I (le_ble I) I I (AP.ofAO (AO.nil (AW.region (AO.r 2 [.k 0 (t + 1 : Nat)] I ⟨cast_wr ag A, J⟩ ?_))))))))))))))
 obtain rfl := oi h
 refine AO.nil ?_
 exact lg ⟨H, I, I⟩ [0, 1]
 rintro u s ob ⟨g, rfl, rfl⟩ he
 subst he
 have h := ad
 have an : decide (((f.length : Nat) : Int) < (f.length : Int)) = false := by simp
 refine AW.z I (AW.seqG (fun a2 a3 => (AW.condK (v := false) I an (AW.exit ?_))))
 exact lg ⟨u, g, h, I, I⟩ [0, 1]
 rintro s ob ⟨w, i, h, rfl, rfl⟩
 unfold L.zvbn.J2 at h
 refine AW.z I (AW.ghost (Ghost.nilU 35 1) (AW.ghost (Ghost.nilU 35 1) ?_))
 obtain rfl := oi h
 exact AW.ret ⟨.inr I, [_, _], [.arr n 131 14 1 [[.list 1 (a.Nodes.map rS), .list 7 (a.Segments.map Segment.row), .list 3 (a.Ports.map Port.row), .list 5 (a.Stations.map Station.row), .V a.Vapour, .V a.Settle, .list 1 (b.Rates.map rI), .list 1 (b.Ports.map rI), .list 1 (b.Pumps.map rB), .list 1 (d.map rI), .list 1 (e.1.map rI), .v i, .N, .N]], .us i 35 1 (w.map (rL 2 Piece.row)), .us (.slice none 0 0) 35 1 ([].map (rL 2 Piece.row)), .us (.slice none 0 0) 35 1 ([].map (rL 2 Piece.row))], ⟨I, I, J⟩, sl_c I (sl_c I (sl_c I (sl_c I (sl_n)))), ⟨n, i, (.slice none 0 0), (.slice none 0 0), I, I⟩⟩
theorem L.zcgl_ok (c : Network) (g : List (List Piece)) (d : Plan) (i : List Int) (r : (List (List Piece)) × (List (List Piece)) × Int) (h : L.zcgl c g d i = some r) : ACalls Tryz.env 54 [.agg (Network.row c), .list 1 (g.map (rL 2 Piece.row)), .agg (Plan.row d), .list 1 (i.map rI)] [] (fun x new => ∃ (j : Value) (k : Value), x = .tup [.v j, .v k, .V r.2.2] ∧ new = [.us j 35 1 (r.1.map (rL 2 Piece.row)), .us k 35 1 (r.2.1.map (rL 2 Piece.row))]) := by
 refine ACalls.of_body Tryz.func54 rfl rfl rfl (fun C hC => ?_)
 unfold L.zcgl at h
 refine AW.seqG (fun M p => (AW.region (AO.act [] I (AX.box (cs := Network.row c) (m := 6) I I I dS (fun N => (AO.act [] I (AX.box (cs := Plan.row d) (m := 3) I I I dS (fun O => (AO.q 3 I (AO.nil ?_))))))))))
 subst p
 refine AW.seqG (fun P l => ?_)
 obtain ⟨s, n, h⟩ := ob_some h
 rcases a : s.1 with _ | Q
 replace h := opE_n a h
 refine AW.region (AO.r 4 [.o 0 0, .o 2 1] I ⟨I, I, J⟩ (AO.act [] I (AX.call0 I I I (ACalls.optN a (L.zvbn_ok _ _ _ _ _ n)) dS ?_)))
 rintro _ _ ⟨rfl, rfl⟩
 refine AO.q 5 I (AO.nil ?_)
 subst l
 refine AW.seqG (fun R t => (AW.z I (AW.ch h I ?_ ?_)))
 intro u h
 refine AW.z I (AW.ghost (Ghost.nilU 35 1) (AW.ghost (Ghost.nilU 35 1) (AW.ghost (Ghost.pick [2, 3] (K := [.us (.slice none 0 0) 35 1 ([].map (rL 2 Piece.row)), .us (.slice none 0 0) 35 1 ([].map (rL 2 Piece.row))]) I (by decide)) ?_)))
 obtain rfl := oi h
 rotate_left
 intro u h
 refine AW.skip ?_
 subst t
 refine AW.seqG (fun S U => (AW.seq ?_))
 cases h
 replace h := opE_s a h
 refine AW.region (AO.r 4 [.o 0 0, .o 2 1] I ⟨I, I, J⟩ (AO.act [] I (AX.call0 I I I (ACalls.optS a (L.zvbn_ok _ _ _ _ _ n)) dS ?_)))
 rintro _ _ ⟨w, y, A, B, rfl, rfl⟩
 refine AO.q 5 I (AO.nil ?_)
 subst l
 refine AW.seqG (fun W D => (AW.z I (AW.ch h I ?_ ?_)))
 intro E h
 refine AW.z I (AW.ghost (Ghost.nilU 35 1) (AW.ghost (Ghost.nilU 35 1) (AW.ghost (Ghost.pick [6, 7] (K := [.us (.slice none 0 0) 35 1 ([].map (rL 2 Piece.row)), .us (.slice none 0 0) 35 1 ([].map (rL 2 Piece.row))]) I (by decide)) ?_)))
 obtain rfl := oi h
 rotate_left
 intro E h
 refine AW.skip ?_
 subst D
 refine AW.seqG (fun X F => (AW.seq ?_))
 obtain ⟨b, G, h⟩ := ob_some h
 refine AW.region (AO.q 1 I (AO.act [2, 3, 4, 5] I (AX.cg [2, 3, 4, 5] (L.zlri_ok w _ y A B _ G) ?_)))
 rintro _ _ _ - ⟨e, Y, f, rfl, rfl, rfl⟩
 refine AO.q 1 I (AO.nil (AW.z I (AW.ch h I ?_ ?_)))
 intro H h
 refine AW.z I (AW.ghost (Ghost.nilU 35 1) (AW.ghost (Ghost.nilU 35 1) (AW.ghost (Ghost.pick [6, 7] (K := [.us (.slice none 0 0) 35 1 ([].map (rL 2 Piece.row)), .us (.slice none 0 0) 35 1 ([].map (rL 2 Piece.row))]) I (by decide)) ?_)))
 obtain rfl := oi h
 any_goals
  exact AW.ret ⟨.inr I, [_, _, _], [.us (.slice none 0 0) 35 1 ([].map (rL 2 Piece.row)), .us (.slice none 0 0) 35 1 ([].map (rL 2 Piece.row))], ⟨I, I, I, J⟩, sl_c I (sl_c I (sl_n)), ⟨(.slice none 0 0), (.slice none 0 0), I, I⟩⟩
 intro H h
 refine AW.skip ?_
 subst F
 refine AW.dz (pd 11 0 []) [2] [_] [.o 3 0, .o 7 0] I I ⟨I, I, J⟩ (AW.ghost (Ghost.pick [3, 5] (K := [.us e 35 1 (b.2.1.map (rL 2 Piece.row)), .us f 35 1 (b.2.2.2.map (rL 2 Piece.row))]) I (by decide)) ?_)
 obtain rfl := oi h
 exact AW.ret ⟨.inr I, [_, _, _], [.us e 35 1 (b.2.1.map (rL 2 Piece.row)), .us f 35 1 (b.2.2.2.map (rL 2 Piece.row))], ⟨I, I, I, J⟩, sl_c I (sl_c I (sl_n)), ⟨e, f, I, I⟩⟩
theorem L.zwqi_ok (a : List Piece) (r : Int) (h : L.zwqi a = some r) : ACalls Tryz.env 56 [.list 2 (a.map Piece.row)] [] (fun x new => x = .V r ∧ new = []) := by
 refine ACalls.of_body Tryz.func56 rfl rfl rfl (fun C hC => ?_)
 unfold L.zwqi at h
 refine AW.z I (AW.z I (AW.cutX (fun s ob => ∃ (d : Int), L.zwqi.J1 d = some r ∧ s = [(3, .V d)] ∧ ob = []) [] J ?_ ?_))
 refine AW.zr [.l 1 (a.length : Int)] I ⟨len_m, J⟩ (AW.block (AW.listMax 5 I (fun e => ?_)))
 replace e : a.length ≤ 9223372036854775806 := by rw [List.length_map] at e; omega
 obtain ⟨q, f, g⟩ := ob_some h
 clear h
 refine AW.forY f [(0, _), (6, _)] ⟨I, I, J⟩ (fun (b : Nat) (c : Int) s ob => s = [(7, .V (b : Int)), (3, .V c)] ∧ ob = []) ⟨I, I⟩ ⟨I, I, J⟩ ⟨[], I, by decide⟩ ?_ ?_
 rintro b i c t s ob j m ⟨rfl, rfl⟩ h
 unfold L.zwqi.B2 at h
 have n : decide ((b : Int) < (a.length : Int)) = true := decide_eq_true (by omega)
 refine AW.z I (AW.seqG (fun u o => (AW.condK (v := true) I n (AW.skip ?_))))
 subst o
 refine AW.seq (AW.block (AW.z I (AW.tr [.x 3 b (Piece.row i)] I ⟨⟨I, map_get j⟩, J⟩ (AW.region (AO.r 2 [.k 0 (b + 1 : Nat)] I ⟨cast_wr m e, J⟩ ?_)))))
 obtain rfl := oi h
 refine AO.nil ?_
 exact lg ⟨I, I⟩ []
 rintro c s ob ⟨rfl, rfl⟩ he
 subst he
 have h := g
 have p : decide (((a.length : Nat) : Int) < (a.length : Int)) = false := by simp
 refine AW.z I (AW.seqG (fun w y => (AW.condK (v := false) I p (AW.exit ?_))))
 exact lg ⟨c, h, I, I⟩ []
 rintro s ob ⟨d, h, rfl, rfl⟩
 unfold L.zwqi.J1 at h
 refine AW.z I ?_
 obtain rfl := oi h
 exact AW.ret pr
theorem L.zuyb_ok (e : List Piece) (r : List Piece) (h : L.zuyb e = some r) : ACalls Tryz.env 40 [.list 2 (e.map Piece.row)] [] (fun x new => ∃ (D : Value), x = .v D ∧ new = [.us D 66 2 (r.map Piece.row)]) := by
 refine ACalls.of_body Tryz.func40 rfl rfl rfl (fun C hC => ?_)
 unfold L.zuyb at h
 refine AW.z I (AW.z I (AW.cutX (fun s ob => ∃ (p : List Piece) (g : Value), L.zuyb.J1 p = some r ∧ s = [(3, .v g)] ∧ ob = [.us g 66 2 (p.map Piece.row)]) [] J ?_ ?_))
 refine AW.zr [.l 1 (e.length : Int)] I ⟨len_m, J⟩ (AW.block (AW.listMax 6 I (fun u => ?_)))
 replace u : e.length ≤ 9223372036854775806 := by rw [List.length_map] at u; omega
 refine AW.ghost (Ghost.nilU 66 2) ?_
 obtain ⟨aj, G, H⟩ := ob_some h
 clear h
 refine AW.forY G [(6, _), (7, _)] ⟨I, I, J⟩ (fun (i : Nat) (b : List Piece) s ob => ∃ (c : Value), s = [(8, .V (i : Int)), (3, .v c)] ∧ ob = [.us c 66 2 (b.map Piece.row)]) ⟨(.slice none 0 0), I, I⟩ ⟨I, I, J⟩ ⟨[0], I, by decide⟩ ?_ ?_
 rintro i d b E s ob K M ⟨c, rfl, rfl⟩ h
 unfold L.zuyb.B2 at h
 have N : decide ((i : Int) < (e.length : Int)) = true := decide_eq_true (by omega)
 refine AW.z I (AW.seqG (fun ak O => (AW.condK (v := true) I N (AW.skip ?_))))
 subst O
 refine AW.cutX (fun s ob => ∃ (w : List Piece) (t : Value), L.zuyb.J3 w = some E ∧ s = [(3, .v t)] ∧ ob = [.us t 66 2 (w.map Piece.row)]) [(6, _), (7, _), (8, _)] ⟨I, I, I, J⟩ ?_ ?_
 refine AW.block (AW.seqG (fun al P => (AW.region (AO.r 2 [.x 0 i (Piece.row d)] I ⟨⟨I, map_get K⟩, J⟩ (AO.act [] I (AX.alloc (cs := [.V 0, .V 0]) (m := 2) I I I I I dS (fun Q => (AO.act [1] I (AX.store 1 0 0 (es' := [Piece.row d]) I I I I I I I I (le_ble I) I I (AO.nil ?_))))))))))
 subst P
 refine AW.block (AW.zr [.o 1 1] I ⟨I, J⟩ (AW.ch h I ?_ ?_))
 intro R h
 refine AW.skip ?_
 exact lg ⟨b, c, h, I, I⟩ [0]
 intro R h
 refine AW.cutX (fun s ob => ∃ (A : Bool), L.zuyb.J4 d b A = some E ∧ s = [(20, .v (.bool A))] ∧ ob = [.us c 66 2 (b.map Piece.row), .arr Q 66 2 1 [Piece.row d]]) [(3, _), (5, _), (6, _), (7, _), (8, _)] ⟨I, I, I, I, I, J⟩ ?_ ?_
 rcases bt (decide ((b.length : Int) > 0)) with j | j
 replace h := ife_t j h
 obtain ⟨n, S, h⟩ := ob_some h
 obtain ⟨U, B⟩ := ix_some S
 refine AW.formL 0 I (fun W => (AW.formL 0 I (fun X => (AW.form 0 n.1 I B (fun Y => (AW.rd (pd 16 0 []) [0, 1] [_, _] I (AP.q 1 I (AP.op I (Yp.lenUf I I I W) I (AP.q 2 I (AP.known 24 I j (AP.q 2 I (AP.oldG I I I I ((Yp.lenUf I I I X).yd) dS (AP.q 1 I (AP.oldG I I I I ((Yp.indexUf (m := n.1) I I I I I Y I U B).yd) dS (AP.q 1 I ?_)))))))))))))))
 refine AP.oldG I I I I (Yd.loadU 0 n.1 0 I I I (map_get B) I (y := .V n.2.Batch) I) dS (AP.r 5 [.o 1 1] I ⟨I, J⟩ (AP.ofAO (AO.nil ?_)))
 exact lg ⟨(n.2.Batch == d.Batch), h, I, I⟩ [0, 1]
 replace h := ife_f j h
 refine AW.formL 0 I (fun Z => (AW.rd (pd 16 0 []) [] [] I (AP.q 1 I (AP.op I (Yp.lenUf I I I Z) I (AP.q 2 I (AP.known 24 I j (AP.q 12 I (AP.ofAO (AO.nil ?_)))))))))
 exact lg ⟨false, h, I, I⟩ [0, 1]
 rintro s ob ⟨A, h, rfl, rfl⟩
 unfold L.zuyb.J4 at h
 refine AW.ch h I ?_ ?_
 intro aa h
 obtain ⟨a, ab, h⟩ := ob_some h
 obtain ⟨F, f⟩ := ix_some ab
 refine AW.formL 0 I (fun ac => (AW.form 0 a.1 I f (fun ad => (AW.form 0 a.1 I f (fun ae => (AW.rd (.still 0 (.still 1 (.still 2 (.still 3 (.still 4 (.still 5 (.still 6 (.still 7 (.still 8 (.still 9 (.still 10 (.still 11 (.drop 12 .nil))))))))))))) [0, 1] [_, _] I (AP.q 2 I (AP.op I (Yp.lenUf I I I ac) I (AP.q 1 I (AP.op I (Yp.indexUf (m := a.1) I I I I I ad I F f) I (AP.q 1 I (AP.o I (Yd.loadU 0 a.1 1 I I I (map_get f) I (y := .V a.2.Volume) I) I (AP.r 3 [.o 1 1] I ⟨I, J⟩ (AP.op I (Yp.indexUf (m := a.1) I I I I I ae I F f) I (AP.q 1 I ?_)))))))))))))))
 refine AP.drop [0] I I I (AX.storeU 0 a.1 1 I I I (map_get f) I I I I (le_ble I) I (us_set (x := (⟨a.2.Batch, wr (a.2.Volume + d.Volume)⟩ : Piece)) I) (AP.ofAO (AO.nil ?_)))
 exact lg ⟨(b.set a.1 (⟨a.2.Batch, wr (a.2.Volume + d.Volume)⟩ : Piece)), c, h, I, I⟩ [0]
 intro aa h
 obtain ⟨af, ag, h⟩ := ob_some h
 refine AW.region (AO.r 2 [.o 1 1] I ⟨I, J⟩ (AO.act [] I (AX.lt 2 (([d] : List Piece).map Piece.row) (AO.act [0] I (AX.ap 0 I ag (fun ah => (AO.q 1 I (AO.nil ?_))))))))
 exact lg ⟨af, ah, h, I, I⟩ [0]
 rintro s ob ⟨w, t, h, rfl, rfl⟩
 unfold L.zuyb.J3 at h
 refine AW.region (AO.r 2 [.k 0 (i + 1 : Nat)] I ⟨cast_wr M u, J⟩ ?_)
 obtain rfl := oi h
 refine AO.nil ?_
 exact lg ⟨t, I, I⟩ [0]
 rintro b s ob ⟨c, rfl, rfl⟩ he
 subst he
 have h := H
 have ai : decide (((e.length : Nat) : Int) < (e.length : Int)) = false := by simp
 refine AW.z I (AW.seqG (fun am an => (AW.condK (v := false) I ai (AW.exit ?_))))
 exact lg ⟨b, c, h, I, I⟩ [0]
 rintro s ob ⟨p, g, h, rfl, rfl⟩
 unfold L.zuyb.J1 at h
 refine AW.z I ?_
 obtain rfl := oi h
 exact AW.ret ⟨.inr I, [_], [.us g 66 2 (p.map Piece.row)], ⟨I, J⟩, sl_c I (sl_n), ⟨g, I, I⟩⟩
end Go.Proofs.YtaliejncdnegeaaGreat
