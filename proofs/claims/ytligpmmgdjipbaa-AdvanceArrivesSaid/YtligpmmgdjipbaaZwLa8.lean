/- Walks that show what functions of the program compute; printed by a program of ours. No condition. -/
import Derived.Test.YtligpmmgdjipbaaZwLa4
import Derived.Test.YtligpmmgdjipbaaZwL4
import Derived.Test.YtligpmmgdjipbaaZwD
set_option maxRecDepth 100000
namespace Go.Proofs.Ytligpmmgdjipbaa
open Go.Aw
set_option linter.unusedVariables false
set_option linter.unusedSimpArgs false
set_option maxHeartbeats 4000000
theorem L.zyjz_ok (e : List Piece) (r : List Piece) (h : L.zyjz e = some r) : ACalls Try.env 23 [.list 2 (e.map Piece.row)] [] (fun x new => ∃ (g : Value), x = .v g ∧ new = [.us g 46 2 (r.map Piece.row)]) := by
 refine ACalls.of_body Try.func23 rfl rfl rfl (fun C hC => ?_)
 unfold L.zyjz at h
 refine AW.z I (AW.z I (AW.cutX (fun s ob => ∃ (b : List Piece) (a : Value), L.zyjz.J1 b = some r ∧ s = [(3, .v a)] ∧ ob = [.us a 46 2 (b.map Piece.row)]) [] J ?_ ?_))
 refine AW.zr [.l 1 (e.length : Int)] I ⟨len_m, J⟩ (AW.block (AW.ghost (Ghost.nilU 46 2) ?_))
 obtain ⟨y, i, j⟩ := ob_some h
 clear h
 refine AW.loopX i [(0, _)] ⟨I, J⟩ (fun (c : (List Piece) × Int) s ob => ∃ (d : Value), s = [(3, .v d), (4, .V c.2)] ∧ ob = [.us d 46 2 (c.1.map Piece.row)]) ⟨(.slice none 0 0), I, I⟩ ⟨I, I, J⟩ ⟨[0], I, by decide⟩ ?_
 rintro c A s ob ⟨d, rfl, rfl⟩ h k
 unfold L.zyjz.B2 at h
 refine AW.seqG (fun B m => (AW.z I (AW.ch h I ?_ ?_)))
 intro n h
 refine AW.skip ?_
 subst m
 refine AW.seq (AW.block ?_)
 obtain ⟨f, o, h⟩ := ob_some h
 obtain ⟨p, t⟩ := ix_some o
 obtain ⟨D, u, h⟩ := ob_some h
 refine AW.region (AO.r 5 [.x 3 f.1 (Piece.row f.2)] I ⟨⟨p, map_get t⟩, J⟩ (AO.act [] I (AX.lt 2 (([f.2] : List Piece).map Piece.row) (AO.act [0] I (AX.ap 0 I u (fun w => (AO.q 1 I (AO.nil (AW.region (AO.q 3 I ?_))))))))))
 obtain rfl := oi h
 refine AO.nil ?_
 exact ⟨_, _, _, I, ⟨w, I, I⟩, ⟨I, I, I, J⟩, [0], I, by decide⟩
 intro n h
 obtain rfl := k _ (oi h).symm
 replace h := j
 refine AW.exit ?_
 exact lg ⟨c.1, d, h, I, I⟩ [0]
 rintro s ob ⟨b, a, h, rfl, rfl⟩
 unfold L.zyjz.J1 at h
 refine AW.z I ?_
 obtain rfl := oi h
 exact AW.ret ⟨.inr I, [_], [.us a 46 2 (b.map Piece.row)], ⟨I, J⟩, sl_c I (sl_n), ⟨a, I, I⟩⟩
theorem L.zewb_ok (d : List Piece) (G : Int) (r : (List Piece) × (List Piece)) (h : L.zewb d G = some r) : ACalls Try.env 24 [.list 2 (d.map Piece.row), .V G] [] (fun x new => ∃ (H : Value) (M : Value), x = .tup [.v H, .v M] ∧ new = [.us H 46 2 (r.1.map Piece.row), .us M 46 2 (r.2.map Piece.row)]) := by
 refine ACalls.of_body Try.func24 rfl rfl rfl (fun C hC => ?_)
 unfold L.zewb at h
 refine AW.z I (AW.z I (AW.cutX (fun s ob => ∃ (c : (List Piece) × (List Piece)) (p : Value) (e : Value), L.zewb.J1 c = some r ∧ s = [(6, .v p), (7, .v e)] ∧ ob = [.us p 46 2 (c.1.map Piece.row), .us e 46 2 (c.2.map Piece.row)]) [] J ?_ ?_))
 refine AW.zr [.l 1 (d.length : Int)] I ⟨len_m, J⟩ (AW.block (AW.listMax 11 I (fun y => ?_)))
 replace y : d.length ≤ 9223372036854775806 := by rw [List.length_map] at y; omega
 refine AW.ghost (Ghost.nilU 46 2) (AW.ghost (Ghost.nilU 46 2) ?_)
 obtain ⟨ad, P, Q⟩ := ob_some h
 clear h
 refine AW.forY P [(11, _), (12, _)] ⟨I, I, J⟩ (fun (f : Nat) (b : Int × (List Piece) × (List Piece)) s ob => ∃ (g : Value) (i : Value), s = [(13, .V (f : Int)), (1, .V b.1), (6, .v g), (7, .v i)] ∧ ob = [.us g 46 2 (b.2.1.map Piece.row), .us i 46 2 (b.2.2.map Piece.row)]) ⟨(.slice none 0 0), (.slice none 0 0), I, I⟩ ⟨I, I, I, I, J⟩ ⟨[0, 1], I, by decide⟩ ?_ ?_
 rintro f a b R s ob S U ⟨g, i, rfl, rfl⟩ h
 unfold L.zewb.B2 at h
 have W : decide ((f : Int) < (d.length : Int)) = true := decide_eq_true (by omega)
 refine AW.z I (AW.seqG (fun ae X => (AW.condK (v := true) I W (AW.skip ?_))))
 subst X
 refine AW.cutX (fun s ob => ∃ (t : (List Piece) × (List Piece)) (u : Value) (w : Value), L.zewb.J3 a b t = some R ∧ s = [(1, .V (wr (b.1 - (min b.1 a.Volume)))), (6, .v u), (7, .v w)] ∧ ob = [.us u 46 2 (t.1.map Piece.row), .us w 46 2 (t.2.map Piece.row)]) [(11, _), (12, _), (13, _)] ⟨I, I, I, J⟩ ?_ ?_
 refine AW.block (AW.seqG (fun af Y => (AW.region (AO.r 2 [.x 0 f (Piece.row a)] I ⟨⟨I, map_get S⟩, J⟩ (AO.act [] I (AX.alloc (cs := [.V 0, .V 0]) (m := 2) I I I I I dS (fun ag => (AO.act [2] I (AX.store 2 0 0 (es' := [Piece.row a]) I I I I I I I I (le_ble I) I I (AO.nil ?_))))))))))
 subst Y
 refine AW.zr [.o 2 2] I ⟨I, J⟩ (AW.z I ?_)
 obtain ⟨A, B, h⟩ := ob_some h
 obtain ⟨D, E, h⟩ := ob_some h
 refine AW.rd (.still 0 (.still 1 (.still 2 (.still 3 (.still 4 (.still 7 (.still 8 (.still 9 (.still 10 (.still 11 (.still 12 (.still 13 (.still 14 (.two 5 15 (.two 6 15 (.act 15 (.act 16 (.still 17 (.still 18 .nil)))) (.act 6 (.act 16 (.still 17 (.still 18 .nil))))) (.act 5 (.act 6 (.act 16 (.still 17 (.still 18 .nil))))))))))))))))))) [2] [_] I (AP.r 4 [.o 2 0] I ⟨I, J⟩ (AP.op I (Yp.buildP (l := [.V a.Batch, .V (min b.1 a.Volume)]) Try.bld46 I) I (AP.r 7 [.o 2 0, .o 4 0] I ⟨I, I, J⟩ (AP.op I (Yp.buildP (l := [.V a.Batch, .V (wr (a.Volume - (min b.1 a.Volume)))]) Try.bld46 I) I (AP.two ?_ ?_)))))
 refine AP.act [] I I I (AX.lt 2 (([(⟨a.Batch, (min b.1 a.Volume)⟩ : Piece)] : List Piece).map Piece.row) (AP.two ?_ ?_))
 refine AP.act [0] I I I (AX.ap 0 I B (fun j => (AP.act [] I I I (AX.lt 2 (([(⟨a.Batch, wr (a.Volume - (min b.1 a.Volume))⟩ : Piece)] : List Piece).map Piece.row) (AP.act [1] I I I (AX.ap 1 I E (fun n => (AP.eraS 6 (AP.q 1 I (AP.eraS 7 (AP.q 1 I (AP.ofAO (AO.nil ?_)))))))))))))
 exact lg ⟨(A, D), j, n, h, I, I⟩ [0, 1]
 refine AP.act [] I I I (AX.lt 2 (([(⟨a.Batch, wr (a.Volume - (min b.1 a.Volume))⟩ : Piece)] : List Piece).map Piece.row) (AP.act [0] I I I (AX.ap 0 I B (fun j => (AP.act [1] I I I (AX.ap 1 I E (fun n => (AP.eraS 6 (AP.q 1 I (AP.eraS 7 (AP.q 1 I (AP.ofAO (AO.nil ?_)))))))))))))
 exact lg ⟨(A, D), j, n, h, I, I⟩ [0, 1]
 refine AP.act [] I I I (AX.lt 2 (([(⟨a.Batch, wr (a.Volume - (min b.1 a.Volume))⟩ : Piece)] : List Piece).map Piece.row) (AP.act [] I I I (AX.lt 2 (([(⟨a.Batch, (min b.1 a.Volume)⟩ : Piece)] : List Piece).map Piece.row) (AP.act [0] I I I (AX.ap 0 I B (fun j => (AP.act [1] I I I (AX.ap 1 I E (fun n => (AP.eraS 6 (AP.q 1 I (AP.eraS 7 (AP.q 1 I (AP.ofAO (AO.nil ?_)))))))))))))))
 exact lg ⟨(A, D), j, n, h, I, I⟩ [0, 1]
 rintro s ob ⟨t, u, w, h, rfl, rfl⟩
 unfold L.zewb.J3 at h
 refine AW.region (AO.r 2 [.k 0 (f + 1 : Nat)] I ⟨cast_wr U y, J⟩ ?_)
 obtain rfl := oi h
 refine AO.nil ?_
 exact lg ⟨u, w, I, I⟩ [0, 1]
 rintro b s ob ⟨g, i, rfl, rfl⟩ he
 subst he
 have h := Q
 have Z : decide (((d.length : Nat) : Int) < (d.length : Int)) = false := by simp
 refine AW.z I (AW.seqG (fun ah ai => (AW.condK (v := false) I Z (AW.exit ?_))))
 exact lg ⟨(b.2.1, b.2.2), g, i, h, I, I⟩ [0, 1]
 rintro s ob ⟨c, p, e, h, rfl, rfl⟩
 unfold L.zewb.J1 at h
 refine AW.seq ?_
 obtain ⟨N, aa, h⟩ := ob_some h
 obtain ⟨ab, ac, h⟩ := ob_some h
 refine AW.region (AO.q 1 I (AO.ghost (Ghost.freeze [0] (K := [.us p 46 2 (c.1.map Piece.row)]) I [(6, .list 2 (c.1.map Piece.row)), (42, .list 2 (c.1.map Piece.row))] ⟨⟨_, I, .us 0 I⟩, ⟨_, I, .us 0 I⟩, J⟩ (ob' := [.us e 46 2 (c.2.map Piece.row)]) (.rest _)) (AO.act [] I (AX.call0 I I I (L.zuyb_ok _ _ aa) dS ?_))))
 rintro _ _ ⟨F, rfl, rfl⟩
 refine AO.q 1 I (AO.ghost (Ghost.freeze [0] (K := [.us e 46 2 (c.2.map Piece.row)]) I [(7, .list 2 (c.2.map Piece.row)), (44, .list 2 (c.2.map Piece.row))] ⟨⟨_, I, .us 0 I⟩, ⟨_, I, .us 0 I⟩, J⟩ (ob' := [.us F 46 2 (N.map Piece.row)]) (.rest _)) (AO.act [] I (AX.call0 I I I (L.zuyb_ok _ _ ac) dS ?_)))
 rintro _ _ ⟨O, rfl, rfl⟩
 refine AO.q 2 I (AO.nil ?_)
 obtain rfl := oi h
 exact AW.ret ⟨.inr I, [_, _], [.us F 46 2 (N.map Piece.row), .us O 46 2 (ab.map Piece.row)], ⟨I, I, J⟩, sl_c I (sl_c I (sl_n)), ⟨F, O, I, I⟩⟩
theorem L.zhiu_ok (b : Nat) (y : KS) (r : Network × KS) (h : L.zhiu y = some r) : ACalls Try.env 9 [.v (.pointer (some ⟨b, 0, none⟩))] [.arr b 65 2 1 [KS.row y]] (Gives 1 (fun x os new => x = .agg (Network.row r.1) ∧ os = [.arr b 65 2 1 [KS.row r.2]] ∧ new = [])) := by
 refine ACalls.of_body Try.func9 rfl rfl rfl (fun C hC => ?_)
 unfold L.zhiu at h
 refine AW.seqG (fun y1 B => (AW.region (AO.act [] I (AX.alloc (cs := [.N, .N, .N, .N, .V 0, .V 0]) (m := 6) I I I I I dS (fun i => (AO.nil ?_))))))
 subst B
 refine AW.seqG (fun y3 D => (AW.region (AO.act [] I (AX.buildSlice (sz := 1) (es := ([(⟨#[110, 97]⟩ : ByteArray)] : List ByteArray).map rS) I I I I I I I I I I I dS (fun t => (AO.one 2 I (fun E => (AO.p (Yp.buildP (l := [.v t, .N, .N, .N, .V 0, .V 0]) Try.bld30 (fill_step I I (cells_v E) I (fill_nil))) I (AO.act [] I (AX.alloc (cs := [.N, .N, .N, .N, .V 0, .V 0]) (m := 6) I I I I I dS (fun k => (AO.act [3] I (AX.store 3 0 0 (es' := [[.v t, .N, .N, .N, .V 0, .V 0]]) I I I I I I I I (le_ble I) I I (AO.nil ?_))))))))))))))
 subst D
 refine AW.cutX (fun s ob => ∃ (a : (List Int) × Int × (List ByteArray) × (List Segment)) (f : Value) (g : Value), L.zhiu.J1 a = some r ∧ s = [] ∧ ob = [.arr b 65 2 1 [[.list 1 (a.1.map rI), .V a.2.1]], .arr i 30 6 1 [[.N, .N, .N, .N, .V 0, .V 0]], .us f 9 1 (a.2.2.1.map rS), .arr k 30 6 1 [[.v f, .v g, .N, .N, .V 0, .V 0]], .us g 34 7 (a.2.2.2.map Segment.row)]) [(2, _), (3, _)] ⟨I, I, J⟩ ?_ ?_
 refine AW.seqG (fun ah F => ?_)
 obtain ⟨ai, G, h⟩ := ob_some h
 refine AW.region (AO.q 1 I (AO.act [0] I (AX.c0 [0] (L.ziuk_ok b _ _ _ _ G) ?_)))
 refine AO.q 1 I (AO.nil ?_)
 subst F
 refine AW.block (AW.ghost (Ghost.nilU 34 7) ?_)
 obtain ⟨aj, H, M⟩ := ob_some h
 clear h
 refine AW.loopX H [(0, _), (2, _), (3, _)] ⟨I, I, I, J⟩ (fun (e : (List Int) × Int × (List ByteArray) × (List Segment) × Int) s ob => ∃ (n : Value) (j : Value), s = [(4, .V e.2.2.2.2)] ∧ ob = [.arr b 65 2 1 [[.list 1 (e.1.map rI), .V e.2.1]], .arr i 30 6 1 [[.N, .N, .N, .N, .V 0, .V 0]], .us n 9 1 (e.2.2.1.map rS), .arr k 30 6 1 [[.v n, .v j, .N, .N, .V 0, .V 0]], .us j 34 7 (e.2.2.2.1.map Segment.row)]) ⟨t, (.slice none 0 0), I, I⟩ ⟨I, J⟩ ⟨[0, 1, 2, 3, 4], I, by decide⟩ ?_
 rintro e ak s ob ⟨n, j, rfl, rfl⟩ h O
 unfold L.zhiu.B2 at h
 refine AW.seqG (fun al P => (AW.z I (AW.ch h I ?_ ?_)))
 intro Q h
 refine AW.skip ?_
 subst P
 refine AW.seq (AW.block (AW.seqG (fun am R => (AW.region (AO.r 2 [.o 1 3] I ⟨I, J⟩ (AO.d (Yd.lenUM 2 I I I I) I (AO.q 1 I (AO.nil ?_))))))))
 subst R
 refine AW.seqG (fun an S => ?_)
 obtain ⟨ao, U, h⟩ := ob_some h
 obtain ⟨W, X, h⟩ := ob_some h
 obtain ⟨aq, Y, h⟩ := ob_some h
 refine AW.region (AO.r 4 [.o 1 3] I ⟨I, J⟩ (AO.p (Yp.convI (c := IntKind.u8.wrap (wr (97 + (e.2.2.1.length : Int)))) I I I I I) I (AO.act [] I (AX.buildSlice (sz := 1) (es := ([IntKind.u8.wrap (wr (97 + (e.2.2.1.length : Int)))] : List Int).map (rK .u8)) I I I I I I I I I I I dS (fun ar => (AO.act [] I (AX.bytesX 5 U I I I I I I I I dS (AO.p (Yp.addSX I I (cat_some X)) I (AO.act [] I (AX.lt 1 (([W] : List ByteArray).map rS) (AO.act [2] I (AX.ap 2 I Y (fun u => (AO.q 1 I (AO.one 2 I (fun Z => (AO.act [3] I (AX.store 3 0 0 (es' := [[.v u, .v j, .N, .N, .V 0, .V 0]]) I I I I I I (cells_v Z) I (le_ble I) I I (AO.nil ?_)))))))))))))))))))
 subst S
 obtain ⟨aa, ab, h⟩ := ob_some h
 obtain ⟨au, ac, h⟩ := ob_some h
 refine AW.rd (.still 0 (.still 1 (.still 2 (.still 3 (.still 4 (.still 5 (.still 6 (.still 7 (.act 8 (.act 9 (.act 10 (.still 11 (.drop 12 .nil))))))))))))) [3] [_] I (AP.r 8 [.o 1 0] I ⟨I, J⟩ (AP.act [0] I I I (AX.c0 [0] (L.zsex_ok b _ _ _ _ _ ab) ?_)))
 refine AP.act [] I I I (AX.lt 7 (([aa.1] : List Segment).map Segment.row) (AP.act [4] I I I (AX.ap 4 I ac (fun A => (AP.q 1 I (AP.one 4 I (fun ad => (AP.drop [3] I I I (AX.store 3 0 1 (es' := [[.v u, .v A, .N, .N, .V 0, .V 0]]) I I I I I I (cells_v ad) I (le_ble I) I I (AP.ofAO (AO.nil (AW.region (AO.q 3 I ?_)))))))))))))
 obtain rfl := oi h
 refine AO.nil ?_
 exact ⟨_, _, _, I, ⟨u, A, I, I⟩, ⟨I, I, I, I, J⟩, [0, 1, 2, 3, 4], I, by decide⟩
 intro Q h
 obtain rfl := O _ (oi h).symm
 replace h := M
 refine AW.exit ?_
 exact lg ⟨(e.1, e.2.1, e.2.2.1, e.2.2.2.1), n, j, h, I, I⟩ [0, 1, 2, 3, 4]
 rintro s ob ⟨a, f, g, h, rfl, rfl⟩
 unfold L.zhiu.J1 at h
 refine AW.seq (AW.region (AO.p (Yp.buildP (l := [.v (.string (⟨#[113, 97]⟩ : ByteArray)), .V 0, .V 0]) Try.bld70 I) I (AO.r 2 [.o 1 3] I ⟨I, J⟩ (AO.d (Yd.lenUM 2 I I I I) I (AO.q 1 I (AO.p (Yp.buildP (l := [.v (.string (⟨#[113, 98]⟩ : ByteArray)), .V (wr ((a.2.2.1.length : Int) - 1)), .V 0]) Try.bld70 I) I (AO.act [] I (AX.buildSlice (sz := 3) (es := ([(⟨(⟨#[113, 97]⟩ : ByteArray), 0, 0⟩ : Port), (⟨(⟨#[113, 98]⟩ : ByteArray), wr ((a.2.2.1.length : Int) - 1), 0⟩ : Port)] : List Port).map Port.row) I I I I I I I I I I I dS (fun w => (AO.q 1 I (AO.one 5 I (fun ae => (AO.act [3] I (AX.store 3 0 2 (es' := [[.v f, .v g, .v w, .N, .V 0, .V 0]]) I I I I I I (cells_v ae) I (le_ble I) I I (AO.nil (AW.seq ?_))))))))))))))))
 refine AW.region (AO.r 1 [.o 0 3] I ⟨I, J⟩ (AO.act [1] I (AX.store 1 0 0 (es' := [[.v f, .v g, .v w, .N, .V 0, .V 0]]) I I I I I I I I (le_ble I) I I (AO.nil (AW.ghost (Ghost.freeze [2, 4, 5] (K := [.us f 9 1 (a.2.2.1.map rS), .us g 34 7 (a.2.2.2.map Segment.row), .us w 70 3 (([(⟨(⟨#[113, 97]⟩ : ByteArray), 0, 0⟩ : Port), (⟨(⟨#[113, 98]⟩ : ByteArray), wr ((a.2.2.1.length : Int) - 1), 0⟩ : Port)] : List Port).map Port.row)]) I [(42, .list 1 (a.2.2.1.map rS)), (46, .list 3 (([(⟨(⟨#[113, 97]⟩ : ByteArray), 0, 0⟩ : Port), (⟨(⟨#[113, 98]⟩ : ByteArray), wr ((a.2.2.1.length : Int) - 1), 0⟩ : Port)] : List Port).map Port.row)), (48, .agg [.list 1 (a.2.2.1.map rS), .list 7 (a.2.2.2.map Segment.row), .list 3 (([(⟨(⟨#[113, 97]⟩ : ByteArray), 0, 0⟩ : Port), (⟨(⟨#[113, 98]⟩ : ByteArray), wr ((a.2.2.1.length : Int) - 1), 0⟩ : Port)] : List Port).map Port.row), .list 5 ([].map Station.row), .V 0, .V 0])] ⟨⟨_, I, .us 0 I⟩, ⟨_, I, .us 2 I⟩, ⟨_, I, .agg (.cons (.us 0 I) (.cons (.us 1 I) (.cons (.us 2 I) (.cons (.nil _) (.rest _)))))⟩, J⟩ (ob' := [.arr b 65 2 1 [[.list 1 (a.1.map rI), .V a.2.1]], .arr i 30 6 1 [[.list 1 (a.2.2.1.map rS), .list 7 (a.2.2.2.map Segment.row), .list 3 (([(⟨(⟨#[113, 97]⟩ : ByteArray), 0, 0⟩ : Port), (⟨(⟨#[113, 98]⟩ : ByteArray), wr ((a.2.2.1.length : Int) - 1), 0⟩ : Port)] : List Port).map Port.row), .N, .V 0, .V 0]], .arr k 30 6 1 [[.list 1 (a.2.2.1.map rS), .list 7 (a.2.2.2.map Segment.row), .list 3 (([(⟨(⟨#[113, 97]⟩ : ByteArray), 0, 0⟩ : Port), (⟨(⟨#[113, 98]⟩ : ByteArray), wr ((a.2.2.1.length : Int) - 1), 0⟩ : Port)] : List Port).map Port.row), .N, .V 0, .V 0]]]) (.cons (.same _) (.cons (.arr (.cons (.us 0 I) (.cons (.us 1 I) (.cons (.us 2 I) (.rest _))))) (.cons (.arr (.cons (.us 0 I) (.cons (.us 1 I) (.cons (.us 2 I) (.rest _))))) (.rest _))))) ?_)))))
 refine AW.ghost (Ghost.freeze [] (K := []) I [] J (ob' := [.arr b 65 2 1 [[.list 1 (a.1.map rI), .V a.2.1]], .arr i 30 6 1 [[.list 1 (a.2.2.1.map rS), .list 7 (a.2.2.2.map Segment.row), .list 3 (([(⟨(⟨#[113, 97]⟩ : ByteArray), 0, 0⟩ : Port), (⟨(⟨#[113, 98]⟩ : ByteArray), wr ((a.2.2.1.length : Int) - 1), 0⟩ : Port)] : List Port).map Port.row), .list 5 ([].map Station.row), .V 0, .V 0]], .arr k 30 6 1 [[.list 1 (a.2.2.1.map rS), .list 7 (a.2.2.2.map Segment.row), .list 3 (([(⟨(⟨#[113, 97]⟩ : ByteArray), 0, 0⟩ : Port), (⟨(⟨#[113, 98]⟩ : ByteArray), wr ((a.2.2.1.length : Int) - 1), 0⟩ : Port)] : List Port).map Port.row), .N, .V 0, .V 0]]]) (.cons (.same _) (.cons (.arr (.cons (.refl _) (.cons (.refl _) (.cons (.refl _) (.cons (.nil _) (.rest _)))))) (.rest _)))) (AW.ghost (Ghost.pick [0, 1] (K := [.arr b 65 2 1 [[.list 1 (a.1.map rI), .V a.2.1]], .arr i 30 6 1 [[.list 1 (a.2.2.1.map rS), .list 7 (a.2.2.2.map Segment.row), .list 3 (([(⟨(⟨#[113, 97]⟩ : ByteArray), 0, 0⟩ : Port), (⟨(⟨#[113, 98]⟩ : ByteArray), wr ((a.2.2.1.length : Int) - 1), 0⟩ : Port)] : List Port).map Port.row), .list 5 ([].map Station.row), .V 0, .V 0]]]) I (by decide)) ?_)
 obtain rfl := oi h
 exact AW.ret ⟨.inr I, [_], [.arr b 65 2 1 [[.list 1 (a.1.map rI), .V a.2.1]]], ⟨⟨1, _, _, _, _, _, _, _, I, I, I, I, I⟩, J⟩, sl_c I (sl_n), ⟨[.arr b 65 2 1 [[.list 1 (a.1.map rI), .V a.2.1]]], [], I, I, I, I, I⟩⟩
end Go.Proofs.Ytligpmmgdjipbaa
