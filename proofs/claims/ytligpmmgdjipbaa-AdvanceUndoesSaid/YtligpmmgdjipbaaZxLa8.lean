/- Walks that show what functions of the program compute; printed by a program of ours. No condition. -/
import Derived.Test.YtligpmmgdjipbaaZxLa4
import Derived.Test.YtligpmmgdjipbaaZxL4
import Derived.Test.YtligpmmgdjipbaaZxD
set_option maxRecDepth 100000
namespace Go.Proofs.Ytligpmmgdjipbaa
open Go.Aw
set_option linter.unusedVariables false
set_option linter.unusedSimpArgs false
set_option maxHeartbeats 4000000
theorem L.zhiu_ok (b : Nat) (y : KS) (r : Network × KS) (h : L.zhiu y = some r) : ACalls Try.env 9 [.v (.pointer (some ⟨b, 0, none⟩))] [.arr b 65 2 1 [KS.row y]] (Gives 1 (fun x os new => x = .agg (Network.row r.1) ∧ os = [.arr b 65 2 1 [KS.row r.2]] ∧ new = [])) := by
 refine ACalls.of_body Try.func9 rfl rfl rfl (fun C hC => ?_)
 unfold L.zhiu at h
 refine AW.seqG (fun y1 B => (AW.region (AO.act [] I (AX.alloc (cs := [.N, .N, .N, .N, .V 0, .V 0]) (m := 6) I I I I I dS (fun i => (AO.nil ?_))))))
 subst B
 refine AW.seqG (fun y3 D => (AW.region (AO.act [] I (AX.buildSlice (sz := 1) (es := ([(⟨#[110, 97]⟩ : ByteArray)] : List ByteArray).map rS) I I I I I I I I I I I dS (fun t => (AO.one 2 I (fun E => (AO.p (Yp.buildP (l := [.v t, .N, .N, .N, .V 0, .V 0]) Try.bld30 (fill_step I I (cells_v E) I (fill_nil))) I (AO.act [] I (AX.alloc (cs := [.N, .N, .N, .N, .V 0, .V 0]) (m := 6) I I I I I dS (fun k => (AO.act [3] I (AX.store 3 0 0 (es' := [[.v t, .N, .N, .N, .V 0, .V 0]]) I I I I I I I I (le_ble I) I I (AO.nil ?_))))))))))))))
 subst D
 refine AW.cutX (fun s ob => ∃ (a : (List Int) × Int × (List ByteArray) × (List Segment)) (f : Value) (g : Value), L.zhiu.J1 a = some r ∧ s = [] ∧ ob = [.arr b 65 2 1 [[.list 1 (a.1.map rI), .V a.2.1]], .arr i 30 6 1 [[.N, .N, .N, .N, .V 0, .V 0]], .us f 9 1 (a.2.2.1.map rS), .arr k 30 6 1 [[.v f, .v g, .N, .N, .V 0, .V 0]], .us g 34 7 (a.2.2.2.map Segment.row)]) [(2, _), (3, _)] ⟨I, I, J⟩ ?_ ?_
 refine AW.seqG (fun ah F => ?_)
 obtain ⟨ai, G, h⟩ := ob_some h
 refine AW.region (AO.q 1 I (AO.act [0] I (AX.c0 [0] (L.ziuk_ok b _ _ _ _ G) ?_)))
 refine AO.q 1 I (AO.nil ?_)
 subst F
 refine AW.block (AW.ghost (Ghost.nilU 34 7) ?_)
 obtain ⟨aj, H, M⟩ := ob_some h
 clear h
 refine AW.loopX H [(0, _), (2, _), (3, _)] ⟨I, I, I, J⟩ (fun (e : (List Int) × Int × (List ByteArray) × (List Segment) × Int) s ob => ∃ (n : Value) (j : Value), s = [(4, .V e.2.2.2.2)] ∧ ob = [.arr b 65 2 1 [[.list 1 (e.1.map rI), .V e.2.1]], .arr i 30 6 1 [[.N, .N, .N, .N, .V 0, .V 0]], .us n 9 1 (e.2.2.1.map rS), .arr k 30 6 1 [[.v n, .v j, .N, .N, .V 0, .V 0]], .us j 34 7 (e.2.2.2.1.map Segment.row)]) ⟨t, (.slice none 0 0), I, I⟩ ⟨I, J⟩ ⟨[0, 1, 2, 3, 4], I, by decide⟩ ?_
 rintro e ak s ob ⟨n, j, rfl, rfl⟩ h O
 unfold L.zhiu.B2 at h
 refine AW.seqG (fun al P => (AW.z I (AW.ch h I ?_ ?_)))
 intro Q h
 refine AW.skip ?_
 subst P
 refine AW.seq (AW.block (AW.seqG (fun am R => (AW.region (AO.r 2 [.o 1 3] I ⟨I, J⟩ (AO.d (Yd.lenUM 2 I I I I) I (AO.q 1 I (AO.nil ?_))))))))
 subst R
 refine AW.seqG (fun an S => ?_)
 obtain ⟨ao, U, h⟩ := ob_some h
 obtain ⟨W, X, h⟩ := ob_some h
 obtain ⟨aq, Y, h⟩ := ob_some h
 refine AW.region (AO.r 4 [.o 1 3] I ⟨I, J⟩ (AO.p (Yp.convI (c := IntKind.u8.wrap (wr (97 + (e.2.2.1.length : Int)))) I I I I I) I (AO.act [] I (AX.buildSlice (sz := 1) (es := ([IntKind.u8.wrap (wr (97 + (e.2.2.1.length : Int)))] : List Int).map (rK .u8)) I I I I I I I I I I I dS (fun ar => (AO.act [] I (AX.bytesX 5 U I I I I I I I I dS (AO.p (Yp.addSX I I (cat_some X)) I (AO.act [] I (AX.lt 1 (([W] : List ByteArray).map rS) (AO.act [2] I (AX.ap 2 I Y (fun u => (AO.q 1 I (AO.one 2 I (fun Z => (AO.act [3] I (AX.store 3 0 0 (es' := [[.v u, .v j, .N, .N, .V 0, .V 0]]) I I I I I I (cells_v Z) I (le_ble I) I I (AO.nil ?_)))))))))))))))))))
 subst S
 obtain ⟨aa, ab, h⟩ := ob_some h
 obtain ⟨au, ac, h⟩ := ob_some h
 refine AW.rd (.still 0 (.still 1 (.still 2 (.still 3 (.still 4 (.still 5 (.still 6 (.still 7 (.act 8 (.act 9 (.act 10 (.still 11 (.drop 12 .nil))))))))))))) [3] [_] I (AP.r 8 [.o 1 0] I ⟨I, J⟩ (AP.act [0] I I I (AX.c0 [0] (L.zsex_ok b _ _ _ _ _ ab) ?_)))
 refine AP.act [] I I I (AX.lt 7 (([aa.1] : List Segment).map Segment.row) (AP.act [4] I I I (AX.ap 4 I ac (fun A => (AP.q 1 I (AP.one 4 I (fun ad => (AP.drop [3] I I I (AX.store 3 0 1 (es' := [[.v u, .v A, .N, .N, .V 0, .V 0]]) I I I I I I (cells_v ad) I (le_ble I) I I (AP.ofAO (AO.nil (AW.region (AO.q 3 I ?_)))))))))))))
 obtain rfl := oi h
 refine AO.nil ?_
 exact ⟨_, _, _, I, ⟨u, A, I, I⟩, ⟨I, I, I, I, J⟩, [0, 1, 2, 3, 4], I, by decide⟩
 intro Q h
 obtain rfl := O _ (oi h).symm
 replace h := M
 refine AW.exit ?_
 exact lg ⟨(e.1, e.2.1, e.2.2.1, e.2.2.2.1), n, j, h, I, I⟩ [0, 1, 2, 3, 4]
 rintro s ob ⟨a, f, g, h, rfl, rfl⟩
 unfold L.zhiu.J1 at h
 refine AW.seq (AW.region (AO.p (Yp.buildP (l := [.v (.string (⟨#[113, 97]⟩ : ByteArray)), .V 0, .V 0]) Try.bld70 I) I (AO.r 2 [.o 1 3] I ⟨I, J⟩ (AO.d (Yd.lenUM 2 I I I I) I (AO.q 1 I (AO.p (Yp.buildP (l := [.v (.string (⟨#[113, 98]⟩ : ByteArray)), .V (wr ((a.2.2.1.length : Int) - 1)), .V 0]) Try.bld70 I) I (AO.act [] I (AX.buildSlice (sz := 3) (es := ([(⟨(⟨#[113, 97]⟩ : ByteArray), 0, 0⟩ : Port), (⟨(⟨#[113, 98]⟩ : ByteArray), wr ((a.2.2.1.length : Int) - 1), 0⟩ : Port)] : List Port).map Port.row) I I I I I I I I I I I dS (fun w => (AO.q 1 I (AO.one 5 I (fun ae => (AO.act [3] I (AX.store 3 0 2 (es' := [[.v f, .v g, .v w, .N, .V 0, .V 0]]) I I I I I I (cells_v ae) I (le_ble I) I I (AO.nil (AW.seq ?_))))))))))))))))
 refine AW.region (AO.r 1 [.o 0 3] I ⟨I, J⟩ (AO.act [1] I (AX.store 1 0 0 (es' := [[.v f, .v g, .v w, .N, .V 0, .V 0]]) I I I I I I I I (le_ble I) I I (AO.nil (AW.ghost (Ghost.freeze [2, 4, 5] (K := [.us f 9 1 (a.2.2.1.map rS), .us g 34 7 (a.2.2.2.map Segment.row), .us w 70 3 (([(⟨(⟨#[113, 97]⟩ : ByteArray), 0, 0⟩ : Port), (⟨(⟨#[113, 98]⟩ : ByteArray), wr ((a.2.2.1.length : Int) - 1), 0⟩ : Port)] : List Port).map Port.row)]) I [(42, .list 1 (a.2.2.1.map rS)), (46, .list 3 (([(⟨(⟨#[113, 97]⟩ : ByteArray), 0, 0⟩ : Port), (⟨(⟨#[113, 98]⟩ : ByteArray), wr ((a.2.2.1.length : Int) - 1), 0⟩ : Port)] : List Port).map Port.row)), (48, .agg [.list 1 (a.2.2.1.map rS), .list 7 (a.2.2.2.map Segment.row), .list 3 (([(⟨(⟨#[113, 97]⟩ : ByteArray), 0, 0⟩ : Port), (⟨(⟨#[113, 98]⟩ : ByteArray), wr ((a.2.2.1.length : Int) - 1), 0⟩ : Port)] : List Port).map Port.row), .list 5 ([].map Station.row), .V 0, .V 0])] ⟨⟨_, I, .us 0 I⟩, ⟨_, I, .us 2 I⟩, ⟨_, I, .agg (.cons (.us 0 I) (.cons (.us 1 I) (.cons (.us 2 I) (.cons (.nil _) (.rest _)))))⟩, J⟩ (ob' := [.arr b 65 2 1 [[.list 1 (a.1.map rI), .V a.2.1]], .arr i 30 6 1 [[.list 1 (a.2.2.1.map rS), .list 7 (a.2.2.2.map Segment.row), .list 3 (([(⟨(⟨#[113, 97]⟩ : ByteArray), 0, 0⟩ : Port), (⟨(⟨#[113, 98]⟩ : ByteArray), wr ((a.2.2.1.length : Int) - 1), 0⟩ : Port)] : List Port).map Port.row), .N, .V 0, .V 0]], .arr k 30 6 1 [[.list 1 (a.2.2.1.map rS), .list 7 (a.2.2.2.map Segment.row), .list 3 (([(⟨(⟨#[113, 97]⟩ : ByteArray), 0, 0⟩ : Port), (⟨(⟨#[113, 98]⟩ : ByteArray), wr ((a.2.2.1.length : Int) - 1), 0⟩ : Port)] : List Port).map Port.row), .N, .V 0, .V 0]]]) (.cons (.same _) (.cons (.arr (.cons (.us 0 I) (.cons (.us 1 I) (.cons (.us 2 I) (.rest _))))) (.cons (.arr (.cons (.us 0 I) (.cons (.us 1 I) (.cons (.us 2 I) (.rest _))))) (.rest _))))) ?_)))))
 refine AW.ghost (Ghost.freeze [] (K := []) I [] J (ob' := [.arr b 65 2 1 [[.list 1 (a.1.map rI), .V a.2.1]], .arr i 30 6 1 [[.list 1 (a.2.2.1.map rS), .list 7 (a.2.2.2.map Segment.row), .list 3 (([(⟨(⟨#[113, 97]⟩ : ByteArray), 0, 0⟩ : Port), (⟨(⟨#[113, 98]⟩ : ByteArray), wr ((a.2.2.1.length : Int) - 1), 0⟩ : Port)] : List Port).map Port.row), .list 5 ([].map Station.row), .V 0, .V 0]], .arr k 30 6 1 [[.list 1 (a.2.2.1.map rS), .list 7 (a.2.2.2.map Segment.row), .list 3 (([(⟨(⟨#[113, 97]⟩ : ByteArray), 0, 0⟩ : Port), (⟨(⟨#[113, 98]⟩ : ByteArray), wr ((a.2.2.1.length : Int) - 1), 0⟩ : Port)] : List Port).map Port.row), .N, .V 0, .V 0]]]) (.cons (.same _) (.cons (.arr (.cons (.refl _) (.cons (.refl _) (.cons (.refl _) (.cons (.nil _) (.rest _)))))) (.rest _)))) (AW.ghost (Ghost.pick [0, 1] (K := [.arr b 65 2 1 [[.list 1 (a.1.map rI), .V a.2.1]], .arr i 30 6 1 [[.list 1 (a.2.2.1.map rS), .list 7 (a.2.2.2.map Segment.row), .list 3 (([(⟨(⟨#[113, 97]⟩ : ByteArray), 0, 0⟩ : Port), (⟨(⟨#[113, 98]⟩ : ByteArray), wr ((a.2.2.1.length : Int) - 1), 0⟩ : Port)] : List Port).map Port.row), .list 5 ([].map Station.row), .V 0, .V 0]]]) I (by decide)) ?_)
 obtain rfl := oi h
 exact AW.ret ⟨.inr I, [_], [.arr b 65 2 1 [[.list 1 (a.1.map rI), .V a.2.1]]], ⟨⟨1, _, _, _, _, _, _, _, I, I, I, I, I⟩, J⟩, sl_c I (sl_n), ⟨[.arr b 65 2 1 [[.list 1 (a.1.map rI), .V a.2.1]]], [], I, I, I, I, I⟩⟩
theorem L.zxbh_ok (a7 : List Int) (ad : Int) (r : Bool) (h : L.zxbh a7 ad = some r) : ACalls Try.env 3 [.list 1 (a7.map rI), .v (.int .u8 ad)] [] (fun x new => x = .v (.bool r) ∧ new = []) := by
 refine ACalls.of_body Try.func3 rfl rfl rfl (fun C hC => ?_)
 unfold L.zxbh at h
 refine AW.z I (AW.seqG (fun y2 bo => ?_))
 obtain ⟨r3, bp, h⟩ := ob_some h
 refine AW.region (AO.q 1 I (AO.act [] I (AX.call0 I I I (L.ziti_ok _ _ bp) dS ?_)))
 rintro _ _ ⟨D, rfl, rfl⟩
 refine AO.q 1 I (AO.nil ?_)
 subst bo
 refine AW.seqG (fun y6 bq => ?_)
 obtain ⟨b, br, h⟩ := ob_some h
 refine AW.region (AO.q 1 I (AO.act [0] I (AX.c0 [0] (L.zhiu_ok D _ _ br) ?_)))
 refine AO.act [] I (AX.alloc (cs := [.N, .N, .N, .N, .V 0, .V 0]) (m := 6) I I I I I dS (fun j => (AO.act [1] I (AX.store 1 0 0 (es' := [Network.row b.1]) I I I I I I I I (le_ble I) I I (AO.nil ?_)))))
 subst bq
 refine AW.z I (AW.cutX (fun s ob => ∃ (au : Int), L.zxbh.J1 ad b au = some r ∧ s = [(7, .V au)] ∧ ob = [.arr D 65 2 1 [KS.row b.2], .arr j 30 6 1 [Network.row b.1]]) [(1, _), (5, _), (6, _)] ⟨I, I, I, J⟩ ?_ ?_)
 refine AW.zr [.o 1 1, .l 2 (b.1.Segments.length : Int)] I ⟨len_m, I, J⟩ (AW.block (AW.listMax 32 I (fun av => ?_)))
 replace av : b.1.Segments.length ≤ 9223372036854775806 := by rw [List.length_map] at av; omega
 obtain ⟨eb, bs, bu⟩ := ob_some h
 clear h
 refine AW.forY bs [(1, _), (5, _), (6, _), (32, _), (33, _)] ⟨I, I, I, I, I, J⟩ (fun (Q : Nat) (ae : Int) s ob => s = [(34, .V (Q : Int)), (7, .V ae)] ∧ ob = [.arr D 65 2 1 [KS.row b.2], .arr j 30 6 1 [Network.row b.1]]) ⟨I, I⟩ ⟨I, I, J⟩ ⟨[0, 1], I, by decide⟩ ?_ ?_
 rintro Q a8 ae ec s ob bv bw ⟨rfl, rfl⟩ h
 unfold L.zxbh.B13 at h
 have bx : decide ((Q : Int) < (b.1.Segments.length : Int)) = true := decide_eq_true (by omega)
 refine AW.z I (AW.seqG (fun ed b0 => (AW.condK (v := true) I bx (AW.skip ?_))))
 subst b0
 refine AW.seq (AW.block (AW.seq (AW.region (AO.r 2 [.x 0 Q (Segment.row a8)] I ⟨⟨I, map_get bv⟩, J⟩ (AO.act [] I (AX.alloc (cs := [.v (.string ⟨#[]⟩), .V 0, .V 0, .V 0, .V 0, .V 0, .N]) (m := 7) I I I I I dS (fun ee => (AO.act [2] I (AX.store 2 0 0 (es' := [Segment.row a8]) I I I I I I I I (le_ble I) I I (AO.nil (AW.tr [.o 2 2] I ⟨I, J⟩ (AW.region (AO.r 2 [.k 0 (Q + 1 : Nat)] I ⟨cast_wr bw av, J⟩ ?_)))))))))))))
 obtain rfl := oi h
 refine AO.nil ?_
 exact lg ⟨I, I⟩ [0, 1]
 rintro ae s ob ⟨rfl, rfl⟩ he
 subst he
 have h := bu
 have b1 : decide (((b.1.Segments.length : Nat) : Int) < (b.1.Segments.length : Int)) = false := by simp
 refine AW.z I (AW.seqG (fun ef eg => (AW.condK (v := false) I b1 (AW.exit ?_))))
 exact lg ⟨ae, h, I, I⟩ [0, 1]
 rintro s ob ⟨au, h, rfl, rfl⟩
 unfold L.zxbh.J1 at h
 refine AW.seqG (fun eh b2 => ?_)
 obtain ⟨a, b3, h⟩ := ob_some h
 refine AW.region (AO.q 1 I (AO.p (Yp.convI (c := wr (ad)) I I I I I) I (AO.r 4 [.f 1 (.V a)] I ⟨Yp.yd (Yp.binI (c := a) I I (rem_some b3)), J⟩ (AO.nil ?_))))
 subst b2
 refine AW.seqG (fun ei b4 => (AW.region (AO.q 3 I (AO.act [] I (AX.buildSlice (sz := 1) (es := ([wr (1 + a), wr (0 - (wr (1 + a)))] : List Int).map rI) I I I I I I I I I I I dS (fun w => (AO.one 2 I (fun b6 => (AO.p (Yp.buildP (l := [.N, .v w, .N]) Try.bld37 (fill_step I I (cells_v b6) I (fill_nil))) I (AO.act [] I (AX.alloc (cs := [.N, .N, .N]) (m := 3) I I I I I dS (fun n => (AO.act [3] I (AX.store 3 0 0 (es' := [[.N, .v w, .N]]) I I I I I I I I (le_ble I) I I (AO.nil ?_)))))))))))))))
 subst b4
 refine AW.cutX (fun s ob => ∃ (g : List Int) (af : Value), L.zxbh.J2 b a g = some r ∧ s = [] ∧ ob = [.arr D 65 2 1 [KS.row b.2], .arr j 30 6 1 [Network.row b.1], .us w 3 1 (([wr (1 + a), wr (0 - (wr (1 + a)))] : List Int).map rI), .arr n 37 3 1 [[.v af, .v w, .N]], .us af 3 1 (g.map rI)]) [(5, _), (6, _), (10, _), (11, _)] ⟨I, I, I, I, J⟩ ?_ ?_
 refine AW.zr [.o 1 1, .l 2 (b.1.Segments.length : Int)] I ⟨len_m, I, J⟩ (AW.block (AW.listMax 54 I (fun aw => ?_)))
 replace aw : b.1.Segments.length ≤ 9223372036854775806 := by rw [List.length_map] at aw; omega
 refine AW.ghost (Ghost.nilU 3 1) ?_
 obtain ⟨ej, b7, b8⟩ := ob_some h
 clear h
 refine AW.forY b7 [(5, _), (6, _), (10, _), (11, _), (54, _), (55, _)] ⟨I, I, I, I, I, I, J⟩ (fun (R : Nat) (ag : List Int) s ob => ∃ (S : Value), s = [(56, .V (R : Int))] ∧ ob = [.arr D 65 2 1 [KS.row b.2], .arr j 30 6 1 [Network.row b.1], .us w 3 1 (([wr (1 + a), wr (0 - (wr (1 + a)))] : List Int).map rI), .arr n 37 3 1 [[.v S, .v w, .N]], .us S 3 1 (ag.map rI)]) ⟨(.slice none 0 0), I, I⟩ ⟨I, J⟩ ⟨[0, 1, 2, 3, 4], I, by decide⟩ ?_ ?_
 rintro R a9 ag ca s ob cb cc ⟨S, rfl, rfl⟩ h
 unfold L.zxbh.B11 at h
 have cd : decide ((R : Int) < (b.1.Segments.length : Int)) = true := decide_eq_true (by omega)
 refine AW.z I (AW.seqG (fun ek ce => (AW.condK (v := true) I cd (AW.skip ?_))))
 subst ce
 refine AW.cutX (fun s ob => ∃ (ax : List Int) (ah : Value), L.zxbh.J12 ax = some ca ∧ s = [] ∧ ob = [.arr D 65 2 1 [KS.row b.2], .arr j 30 6 1 [Network.row b.1], .us w 3 1 (([wr (1 + a), wr (0 - (wr (1 + a)))] : List Int).map rI), .arr n 37 3 1 [[.v ah, .v w, .N]], .us ah 3 1 (ax.map rI)]) [(5, _), (6, _), (10, _), (11, _), (54, _), (55, _), (56, _)] ⟨I, I, I, I, I, I, I, J⟩ ?_ ?_
 refine AW.block (AW.seqG (fun el cf => (AW.region (AO.r 2 [.x 0 R (Segment.row a9)] I ⟨⟨I, map_get cb⟩, J⟩ (AO.act [] I (AX.alloc (cs := [.v (.string ⟨#[]⟩), .V 0, .V 0, .V 0, .V 0, .V 0, .N]) (m := 7) I I I I I dS (fun em => (AO.act [5] I (AX.store 5 0 0 (es' := [Segment.row a9]) I I I I I I I I (le_ble I) I I (AO.nil ?_))))))))))
 subst cf
 refine AW.zr [.o 1 5, .o 3 5] I ⟨I, I, J⟩ (AW.ch h I ?_ ?_)
 intro ci h
 obtain ⟨cj, ck, h⟩ := ob_some h
 refine AW.region (AO.r 3 [.o 1 3] I ⟨I, J⟩ (AO.act [] I (AX.lt 1 (([wr (1 + a)] : List Int).map rI) (AO.act [4] I (AX.ap 4 I ck (fun ba => (AO.q 1 I (AO.one 4 I (fun cl => (AO.act [3] I (AX.store 3 0 0 (es' := [[.v ba, .v w, .N]]) I I I I I I (cells_v cl) I (le_ble I) I I (AO.nil ?_))))))))))))
 exact lg ⟨cj, ba, h, I, I⟩ [0, 1, 2, 3, 4]
 intro ci h
 obtain ⟨cm, cn, h⟩ := ob_some h
 refine AW.region (AO.r 4 [.o 1 3] I ⟨I, J⟩ (AO.act [] I (AX.lt 1 (([wr (0 - (wr (1 + a)))] : List Int).map rI) (AO.act [4] I (AX.ap 4 I cn (fun bb => (AO.q 1 I (AO.one 4 I (fun co => (AO.act [3] I (AX.store 3 0 0 (es' := [[.v bb, .v w, .N]]) I I I I I I (cells_v co) I (le_ble I) I I (AO.nil ?_))))))))))))
 exact lg ⟨cm, bb, h, I, I⟩ [0, 1, 2, 3, 4]
 rintro s ob ⟨ax, ah, h, rfl, rfl⟩
 unfold L.zxbh.J12 at h
 refine AW.region (AO.r 2 [.k 0 (R + 1 : Nat)] I ⟨cast_wr cc aw, J⟩ ?_)
 obtain rfl := oi h
 refine AO.nil ?_
 exact lg ⟨ah, I, I⟩ [0, 1, 2, 3, 4]
 rintro ag s ob ⟨S, rfl, rfl⟩ he
 subst he
 have h := b8
 have cp : decide (((b.1.Segments.length : Nat) : Int) < (b.1.Segments.length : Int)) = false := by simp
 refine AW.z I (AW.seqG (fun en eo => (AW.condK (v := false) I cp (AW.exit ?_))))
 exact lg ⟨ag, S, h, I, I⟩ [0, 1, 2, 3, 4]
 rintro s ob ⟨g, af, h, rfl, rfl⟩
 unfold L.zxbh.J2 at h
 refine AW.seqG (fun ep cq => ?_)
 obtain ⟨G, cr, h⟩ := ob_some h
 refine AW.region (AO.r 2 [.o 1 1] I ⟨I, J⟩ (AO.act [0] I (AX.cg [0] (L.zbhc_ok D _ _ _ _ cr) ?_)))
 rintro _ _ _ - ⟨ct, rfl, rfl, rfl⟩
 refine AO.q 1 I (AO.nil ?_)
 subst cq
 refine AW.seqG (fun eq cu => ?_)
 obtain ⟨t, cv, h⟩ := ob_some h
 refine AW.region (AO.r 3 [.o 0 1, .o 2 3] I ⟨I, I, J⟩ (AO.act [] I (AX.lt 1 (([7, 0] : List Int).map rI) (AO.ghost (Ghost.freeze [2, 4, 5] (K := [.us w 3 1 (([wr (1 + a), wr (0 - (wr (1 + a)))] : List Int).map rI), .us af 3 1 (g.map rI), .us ct 44 1 (G.1.map (rL 2 Piece.row))]) I [(81, .list 1 (G.1.map (rL 2 Piece.row))), (14, .list 1 (G.1.map (rL 2 Piece.row))), (84, .list 1 (G.1.map (rL 2 Piece.row))), (85, .agg [.list 1 (g.map rI), .list 1 (([wr (1 + a), wr (0 - (wr (1 + a)))] : List Int).map rI), .list 1 ([].map rB)])] ⟨⟨_, I, .us 2 I⟩, ⟨_, I, .us 2 I⟩, ⟨_, I, .us 2 I⟩, ⟨_, I, .agg (.cons (.us 1 I) (.cons (.us 0 I) (.cons (.nil _) (.rest _))))⟩, J⟩ (ob' := [.arr D 65 2 1 [KS.row G.2], .arr j 30 6 1 [Network.row b.1], .arr n 37 3 1 [[.list 1 (g.map rI), .list 1 (([wr (1 + a), wr (0 - (wr (1 + a)))] : List Int).map rI), .N]]]) (.cons (.same _) (.cons (.same _) (.cons (.arr (.cons (.us 1 I) (.cons (.us 0 I) (.rest _)))) (.rest _))))) (AO.act [] I (AX.call0 I I I (L.zcgl_ok _ _ _ _ _ cv) dS ?_))))))
 rintro _ _ ⟨bc, E, rfl, rfl⟩
 refine AO.q 7 I (AO.nil ?_)
 subst cu
 refine AW.seqG (fun er cw => (AW.cutX (fun s ob => ∃ (ay : Bool), L.zxbh.J3 b a g G t ay = some r ∧ s = [(105, .v (.bool ay))] ∧ ob = [.arr j 30 6 1 [Network.row b.1], .arr n 37 3 1 [[.list 1 (g.map rI), .list 1 (([wr (1 + a), wr (0 - (wr (1 + a)))] : List Int).map rI), .N]], .us bc 44 1 (t.1.map (rL 2 Piece.row)), .us E 44 1 (t.2.1.map (rL 2 Piece.row))]) [(6, _), (10, _), (11, _), (14, _), (15, _), (16, _)] ⟨I, I, I, I, I, I, J⟩ ?_ ?_))
 refine AW.region (AO.q 3 I ?_)
 rcases bt ((t.2.2 != 0)) with U | U
 replace h := ife_t U h
 refine AO.known 93 I U (AO.q 12 I (AO.nil ?_))
 exact lg ⟨true, h, I, I⟩ [1, 2, 3, 4]
 replace h := ife_f U h
 refine AO.known 93 I U ?_
 rcases bt (((t.2.1.length : Int) != 2)) with W | W
 replace h := ife_t W h
 refine AO.q 1 I (AO.gt I I I (AO.d (Yd.lenUM 4 I I I I) I (AO.q 3 I (AO.known 98 I W (AO.q 7 I (AO.nil ?_))))))
 exact lg ⟨true, h, I, I⟩ [1, 2, 3, 4]
 replace h := ife_f W h
 obtain ⟨az, cx, h⟩ := ob_some h
 obtain ⟨cy, bd⟩ := ix_some cx
 obtain ⟨cz, c1, h⟩ := ob_some h
 refine AO.q 1 I (AO.gt I I I (AO.d (Yd.lenUM 4 I I I I) I (AO.q 3 I (AO.known 98 I W (AO.q 1 I (AO.gt I I I (AO.d (Yd.indexU 4 (m := az.1) I I I I I I I cy (map_get bd)) I (AO.gt I I I (AO.d (Yd.loadU 4 az.1 0 I I I (map_get bd) I (y := .list 2 (az.2.map Piece.row)) I) I (AO.gt I I I (AO.c (L.zwqi_ok _ _ c1) (AO.q 3 I ?_))))))))))))
 refine AO.nil ?_
 exact lg ⟨(cz != (wr (1 + a))), h, I, I⟩ [1, 2, 3, 4]
 rintro s ob ⟨ay, h, rfl, rfl⟩
 unfold L.zxbh.J3 at h
 refine AW.ch h I ?_ ?_
 intro c2 h
 refine AW.z I (AW.ghost g0 ?_)
 obtain rfl := oi h
 exact AW.ret pr
 intro c2 h
 refine AW.skip ?_
 subst cw
 refine AW.z I (AW.z I (AW.cutX (fun s ob => ∃ (u : (List (List Piece)) × (List Piece)) (X : Value) (Y : Value), L.zxbh.J4 a G u = some r ∧ s = [(18, .v X), (19, .v Y)] ∧ ob = [.us X 44 1 (u.1.map (rL 2 Piece.row)), .us Y 46 2 (u.2.map Piece.row)]) [(10, _), (14, _)] ⟨I, I, J⟩ ?_ ?_))
 refine AW.seqG (fun et c3 => ?_)
 obtain ⟨H, c4, h⟩ := ob_some h
 obtain ⟨be, ai⟩ := ix_some c4
 refine AW.region (AO.q 1 I (AO.d (Yd.indexU 3 (m := H.1) I I I I I I I be (map_get ai)) I (AO.d (Yd.loadU 3 H.1 0 I I I (map_get ai) I (y := .list 2 (H.2.map Piece.row)) I) I (AO.r 3 [.l 0 (H.2.length : Int)] I ⟨len_m, J⟩ (AO.nil ?_)))))
 subst c3
 refine AW.block (AW.ghost (Ghost.nilU 46 2) ?_)
 obtain ⟨eu, c5, bf⟩ := ob_some h
 clear h
 refine AW.loopX c5 [(6, _), (10, _), (11, _), (14, _), (16, _)] ⟨I, I, I, I, I, J⟩ (fun (i : (List (List Piece)) × (List Piece) × Int) s ob => ∃ (F : Value) (B : Value), s = [(18, .v F), (19, .v B), (20, .V i.2.2)] ∧ ob = [.arr j 30 6 1 [Network.row b.1], .arr n 37 3 1 [[.list 1 (g.map rI), .list 1 (([wr (1 + a), wr (0 - (wr (1 + a)))] : List Int).map rI), .N]], .us F 44 1 (i.1.map (rL 2 Piece.row)), .us E 44 1 (t.2.1.map (rL 2 Piece.row)), .us B 46 2 (i.2.1.map Piece.row)]) ⟨bc, (.slice none 0 0), I, I⟩ ⟨I, I, I, J⟩ ⟨[0, 1, 2, 3, 4], I, by decide⟩ ?_
 rintro i bg s ob ⟨F, B, rfl, rfl⟩ h bh
 unfold L.zxbh.B6 at h
 refine AW.seqG (fun ev c6 => (AW.z I (AW.ch h I ?_ ?_)))
 intro c7 h
 refine AW.skip ?_
 subst c6
 refine AW.cutX (fun s ob => ∃ (aj : (List (List Piece)) × (List Piece)) (ak : Value) (al : Value), L.zxbh.J7 i aj = some bg ∧ s = [(18, .v ak), (19, .v al)] ∧ ob = [.arr j 30 6 1 [Network.row b.1], .arr n 37 3 1 [[.list 1 (g.map rI), .list 1 (([wr (1 + a), wr (0 - (wr (1 + a)))] : List Int).map rI), .N]], .us E 44 1 (t.2.1.map (rL 2 Piece.row)), .us al 46 2 (aj.2.map Piece.row), .us ak 44 1 (aj.1.map (rL 2 Piece.row))]) [(6, _), (10, _), (11, _), (14, _), (16, _), (20, _)] ⟨I, I, I, I, I, I, J⟩ ?_ ?_
 refine AW.block (AW.seqG (fun ew c8 => ?_))
 obtain ⟨e, c9, h⟩ := ob_some h
 obtain ⟨da, db⟩ := ix_some c9
 refine AW.region (AO.q 1 I (AO.d (Yd.indexU 3 (m := H.1) I I I I I I I be (map_get ai)) I (AO.d (Yd.loadU 3 H.1 0 I I I (map_get ai) I (y := .list 2 (H.2.map Piece.row)) I) I (AO.r 3 [.x 1 e.1 (Piece.row e.2)] I ⟨⟨da, map_get db⟩, J⟩ (AO.act [] I (AX.alloc (cs := [.V 0, .V 0]) (m := 2) I I I I I dS (fun am => (AO.act [5] I (AX.store 5 0 0 (es' := [Piece.row e.2]) I I I I I I I I (le_ble I) I I (AO.nil ?_))))))))))
 subst c8
 refine AW.seqG (fun ex dc => (AW.region (AO.r 5 [.o 1 5, .o 4 5] I ⟨I, I, J⟩ (AO.act [] I (AX.buildSlice (sz := 1) (es := ([wr (0 - e.2.Volume), e.2.Volume] : List Int).map rI) I I I I I I I I I I I dS (fun A => (AO.one 6 I (fun dd => (AO.p (Yp.buildP (l := [.N, .v A, .N]) Try.bld37 (fill_step I I (cells_v dd) I (fill_nil))) I (AO.act [] I (AX.alloc (cs := [.N, .N, .N]) (m := 3) I I I I I dS (fun an => (AO.act [7] I (AX.store 7 0 0 (es' := [[.N, .v A, .N]]) I I I I I I I I (le_ble I) I I (AO.nil ?_)))))))))))))))
 subst dc
 refine AW.cutX (fun s ob => ∃ (M : List Int) (ao : Value), L.zxbh.J8 b i e M = some bg ∧ s = [] ∧ ob = [.arr j 30 6 1 [Network.row b.1], .arr n 37 3 1 [[.list 1 (g.map rI), .list 1 (([wr (1 + a), wr (0 - (wr (1 + a)))] : List Int).map rI), .N]], .us F 44 1 (i.1.map (rL 2 Piece.row)), .us E 44 1 (t.2.1.map (rL 2 Piece.row)), .us B 46 2 (i.2.1.map Piece.row), .arr am 46 2 1 [Piece.row e.2], .us A 3 1 (([wr (0 - e.2.Volume), e.2.Volume] : List Int).map rI), .arr an 37 3 1 [[.v ao, .v A, .N]], .us ao 3 1 (M.map rI)]) [(6, _), (10, _), (11, _), (14, _), (16, _), (18, _), (19, _), (20, _), (21, _), (22, _)] ⟨I, I, I, I, I, I, I, I, I, I, J⟩ ?_ ?_
 refine AW.zr [.o 1 1, .l 2 (g.length : Int)] I ⟨len_m, I, J⟩ (AW.block (AW.listMax 130 I (fun a0 => ?_)))
 replace a0 : g.length ≤ 9223372036854775806 := by rw [List.length_map] at a0; omega
 refine AW.ghost (Ghost.nilU 3 1) ?_
 obtain ⟨ey, de, df⟩ := ob_some h
 clear h
 refine AW.forY de [(6, _), (10, _), (11, _), (14, _), (16, _), (18, _), (19, _), (20, _), (21, _), (22, _), (131, _)] ⟨I, I, I, I, I, I, I, I, I, I, I, J⟩ (fun (Z : Nat) (aq : List Int) s ob => ∃ (aa : Value), s = [(132, .V (Z : Int))] ∧ ob = [.arr j 30 6 1 [Network.row b.1], .arr n 37 3 1 [[.list 1 (g.map rI), .list 1 (([wr (1 + a), wr (0 - (wr (1 + a)))] : List Int).map rI), .N]], .us F 44 1 (i.1.map (rL 2 Piece.row)), .us E 44 1 (t.2.1.map (rL 2 Piece.row)), .us B 46 2 (i.2.1.map Piece.row), .arr am 46 2 1 [Piece.row e.2], .us A 3 1 (([wr (0 - e.2.Volume), e.2.Volume] : List Int).map rI), .arr an 37 3 1 [[.v aa, .v A, .N]], .us aa 3 1 (aq.map rI)]) ⟨(.slice none 0 0), I, I⟩ ⟨I, J⟩ ⟨[0, 1, 2, 3, 4, 5, 6, 7, 8], I, by decide⟩ ?_ ?_
 rintro Z dg aq dh s ob di dj ⟨aa, rfl, rfl⟩ h
 unfold L.zxbh.B9 at h
 have dk : decide ((Z : Int) < (g.length : Int)) = true := decide_eq_true (by omega)
 refine AW.z I (AW.seqG (fun ez dl => (AW.condK (v := true) I dk (AW.skip ?_))))
 subst dl
 refine AW.cutX (fun s ob => ∃ (a1 : List Int) (ar : Value), L.zxbh.J10 a1 = some dh ∧ s = [] ∧ ob = [.arr j 30 6 1 [Network.row b.1], .arr n 37 3 1 [[.list 1 (g.map rI), .list 1 (([wr (1 + a), wr (0 - (wr (1 + a)))] : List Int).map rI), .N]], .us F 44 1 (i.1.map (rL 2 Piece.row)), .us E 44 1 (t.2.1.map (rL 2 Piece.row)), .us B 46 2 (i.2.1.map Piece.row), .arr am 46 2 1 [Piece.row e.2], .us A 3 1 (([wr (0 - e.2.Volume), e.2.Volume] : List Int).map rI), .arr an 37 3 1 [[.v ar, .v A, .N]], .us ar 3 1 (a1.map rI)]) [(6, _), (10, _), (11, _), (14, _), (16, _), (18, _), (19, _), (20, _), (21, _), (22, _), (131, _), (132, _)] ⟨I, I, I, I, I, I, I, I, I, I, I, I, J⟩ ?_ ?_
 refine AW.block (AW.z I (AW.seqG (fun e0 dm => ?_)))
 obtain ⟨bi, dn, h⟩ := ob_some h
 refine AW.region (AO.r 5 [.o 1 7, .o 3 5] I ⟨I, I, J⟩ (AO.act [] I (AX.lt 1 (([wr (0 - e.2.Volume)] : List Int).map rI) (AO.act [8] I (AX.ap 8 I dn (fun a2 => (AO.q 1 I (AO.one 8 I (fun dp => (AO.act [7] I (AX.store 7 0 0 (es' := [[.v a2, .v A, .N]]) I I I I I I (cells_v dp) I (le_ble I) I I (AO.nil ?_))))))))))))
 subst dm
 refine AW.zr [.o 1 1, .x 3 Z (rI dg)] I ⟨⟨I, map_get di⟩, I, J⟩ (AW.ch h I ?_ ?_)
 intro dq h
 obtain ⟨a3, dr, h⟩ := ob_some h
 obtain ⟨ds, bj⟩ := ix_some dr
 refine AW.region (AO.r 5 [.o 1 7, .o 4 5] I ⟨I, I, J⟩ (AO.d (Yd.indexU 8 (m := a3.1) I I I I I I I ds (map_get bj)) I (AO.act [8] I (AX.storeU 8 a3.1 0 I I I (map_get bj) I I I I (le_ble I) I (us_set (x := e.2.Volume) I) (AO.nil ?_)))))
 exact lg ⟨(bi.set a3.1 e.2.Volume), a2, h, I, I⟩ [0, 1, 2, 3, 4, 5, 6, 7, 8]
 intro dq h
 refine AW.skip ?_
 exact lg ⟨bi, a2, h, I, I⟩ [0, 1, 2, 3, 4, 5, 6, 7, 8]
 rintro s ob ⟨a1, ar, h, rfl, rfl⟩
 unfold L.zxbh.J10 at h
 refine AW.region (AO.r 2 [.k 0 (Z + 1 : Nat)] I ⟨cast_wr dj a0, J⟩ ?_)
 obtain rfl := oi h
 refine AO.nil ?_
 exact lg ⟨ar, I, I⟩ [0, 1, 2, 3, 4, 5, 6, 7, 8]
 rintro aq s ob ⟨aa, rfl, rfl⟩ he
 subst he
 have h := df
 have dt : decide (((g.length : Nat) : Int) < (g.length : Int)) = false := by simp
 refine AW.z I (AW.seqG (fun e1 e2 => (AW.condK (v := false) I dt (AW.exit ?_))))
 exact lg ⟨aq, aa, h, I, I⟩ [0, 1, 2, 3, 4, 5, 6, 7, 8]
 rintro s ob ⟨M, ao, h, rfl, rfl⟩
 unfold L.zxbh.J8 at h
 refine AW.seqG (fun e3 du => ?_)
 obtain ⟨O, dv, h⟩ := ob_some h
 refine AW.region (AO.r 5 [.o 0 0, .o 2 7, .o 4 5] I ⟨I, I, I, J⟩ (AO.act [] I (AX.lt 1 (([0, e.2.Batch] : List Int).map rI) (AO.ghost (Ghost.freeze [2, 6, 8] (K := [.us F 44 1 (i.1.map (rL 2 Piece.row)), .us A 3 1 (([wr (0 - e.2.Volume), e.2.Volume] : List Int).map rI), .us ao 3 1 (M.map rI)]) I [(18, .list 1 (i.1.map (rL 2 Piece.row))), (158, .list 1 (i.1.map (rL 2 Piece.row))), (159, .agg [.list 1 (M.map rI), .list 1 (([wr (0 - e.2.Volume), e.2.Volume] : List Int).map rI), .list 1 ([].map rB)])] ⟨⟨_, I, .us 0 I⟩, ⟨_, I, .us 0 I⟩, ⟨_, I, .agg (.cons (.us 2 I) (.cons (.us 1 I) (.cons (.nil _) (.rest _))))⟩, J⟩ (ob' := [.arr j 30 6 1 [Network.row b.1], .arr n 37 3 1 [[.list 1 (g.map rI), .list 1 (([wr (1 + a), wr (0 - (wr (1 + a)))] : List Int).map rI), .N]], .us E 44 1 (t.2.1.map (rL 2 Piece.row)), .us B 46 2 (i.2.1.map Piece.row), .arr am 46 2 1 [Piece.row e.2], .arr an 37 3 1 [[.list 1 (M.map rI), .list 1 (([wr (0 - e.2.Volume), e.2.Volume] : List Int).map rI), .N]]]) (.cons (.same _) (.cons (.same _) (.cons (.same _) (.cons (.same _) (.cons (.same _) (.cons (.arr (.cons (.us 2 I) (.cons (.us 1 I) (.rest _)))) (.rest _)))))))) (AO.act [] I (AX.call0 I I I (L.zcgl_ok _ _ _ _ _ dv) dS ?_))))))
 rintro _ _ ⟨bk, dw, rfl, rfl⟩
 refine AO.q 7 I (AO.nil ?_)
 subst du
 refine AW.seq (AW.cutX (fun s ob => s = [(173, .v (.bool ((O.2.2 != 0) || ((O.2.1.length : Int) != 2))))] ∧ ob = [.arr j 30 6 1 [Network.row b.1], .arr n 37 3 1 [[.list 1 (g.map rI), .list 1 (([wr (1 + a), wr (0 - (wr (1 + a)))] : List Int).map rI), .N]], .us E 44 1 (t.2.1.map (rL 2 Piece.row)), .us B 46 2 (i.2.1.map Piece.row), .us bk 44 1 (O.1.map (rL 2 Piece.row)), .us dw 44 1 (O.2.1.map (rL 2 Piece.row))]) [(6, _), (10, _), (11, _), (14, _), (16, _), (19, _), (20, _), (24, _), (25, _)] ⟨I, I, I, I, I, I, I, I, I, J⟩ ?_ ?_)
 refine AW.region (AO.q 3 I ?_)
 rcases bt ((O.2.2 != 0)) with ab | ab
 refine AO.known 169 I ab (AO.q 4 I (AO.nil ?_))
 exact lf ⟨I, I⟩ ⟨(get_b (by simp only [ab, bz])), I, I, I, I, I, I, I, I, I, J⟩ [0, 1, 2, 3, 6, 7] I
 refine AO.known 169 I ab (AO.q 1 I (AO.gt I I I (AO.d (Yd.lenUM 7 I I I I) I (AO.q 2 I (AO.nil ?_)))))
 exact lf ⟨I, I⟩ ⟨(get_b (by simp only [ab, bz])), I, I, I, I, I, I, I, I, I, J⟩ [0, 1, 2, 3, 6, 7] I
 rintro s ob ⟨rfl, rfl⟩
 refine AW.ch h I ?_ ?_
 intro dx h
 refine AW.z I ?_
 obtain rfl := bh _ (oi h).symm
 replace h := bf
 replace h := se_l h
 refine AW.ghost g0 ?_
 obtain rfl := oi h
 exact AW.ret pr
 intro dx h
 refine AW.skip ?_
 obtain ⟨a4, dy, h⟩ := ob_some h
 obtain ⟨dz, bl⟩ := ix_some dy
 obtain ⟨d0, d1, h⟩ := ob_some h
 refine AW.region (AO.q 3 I (AO.d (Yd.indexU 5 (m := a4.1) I I I I I I I dz (map_get bl)) I (AO.d (Yd.loadU 5 a4.1 0 I I I (map_get bl) I (y := .list 2 (a4.2.map Piece.row)) I) I (AO.act [3] I (AX.ap 3 I d1 (fun d2 => (AO.q 2 I (AO.nil ?_))))))))
 exact lg ⟨(O.1, d0), bk, d2, h, I, I⟩ [0, 1, 2, 3, 4]
 rintro s ob ⟨aj, ak, al, h, rfl, rfl⟩
 unfold L.zxbh.J7 at h
 refine AW.region (AO.q 3 I ?_)
 obtain rfl := oi h
 refine AO.nil ?_
 exact ⟨_, _, _, I, ⟨ak, al, I, I⟩, ⟨I, I, I, I, I, I, I, I, J⟩, [0, 1, 4, 2, 3], I, by decide⟩
 intro c7 h
 obtain rfl := bh _ (oi h).symm
 replace h := bf
 replace h := se_r h
 refine AW.exit ?_
 exact lg ⟨(i.1, i.2.1), F, B, h, I, I⟩ [2, 4]
 rintro s ob ⟨u, X, Y, h, rfl, rfl⟩
 unfold L.zxbh.J4 at h
 refine AW.cutX (fun s ob => ∃ (a5 : Bool), L.zxbh.J5 a5 = some r ∧ s = [(4, .v (.bool a5))] ∧ ob = []) [] J ?_ ?_
 obtain ⟨d3, a6, h⟩ := ob_some h
 rcases bt (d3) with P | P
 replace h := ife_t P h
 obtain ⟨e4, bm, h⟩ := ob_some h
 obtain ⟨d4, bn, h⟩ := ob_some h
 rcases bt (d4) with ac | ac
 replace h := ife_t ac h
 obtain ⟨d5, d6, h⟩ := ob_some h
 refine AW.region (AO.q 2 I (AO.act [] I (AX.callL I (.refl _) I I (.cons (.us 0 I) (.rest _)) I (L.zkma_ok _ _ _ a6) dS (by rintro _ _ ⟨rfl, _⟩; rfl) ?_)))
 rintro _ ⟨_, rfl, -⟩
 refine AO.q 1 I (AO.known 183 I P (AO.q 1 I (AO.ghost (Ghost.freeze [1] (K := [.us Y 46 2 (u.2.map Piece.row)]) I [(19, .list 2 (u.2.map Piece.row)), (184, .list 2 (u.2.map Piece.row))] ⟨⟨_, I, .us 0 I⟩, ⟨_, I, .us 0 I⟩, J⟩ (ob' := [.us X 44 1 (u.1.map (rL 2 Piece.row))]) (.rest _)) (AO.gt I I I (AO.act [] I (AX.call0 I I I (L.zuyb_ok _ _ bm) dS ?_))))))
 rintro _ _ ⟨d7, rfl, rfl⟩
 refine AO.q 1 I (AO.gt I I I (AO.p (Yp.buildP (l := [.V 7, .V (wr (1 + a))]) Try.bld46 I) I (AO.gt I I I (AO.act [] I (AX.lt 2 (([(⟨7, wr (1 + a)⟩ : Piece)] : List Piece).map Piece.row) (AO.gt I I I (AO.act [] I (AX.callL I (.refl _) I I (.cons (.us 1 I) (.rest _)) I (L.zjsx_ok _ _ _ bn) dS (by rintro _ _ ⟨rfl, _⟩; rfl) ?_))))))))
 rintro _ ⟨_, rfl, -⟩
 refine AO.q 2 I (AO.known 191 I ac (AO.gt I I I (AO.c (L.zdqe_ok  _ d6) (AO.q 2 I (AO.nil ?_)))))
 exact lg ⟨d5, h, I, I⟩ []
 replace h := ife_f ac h
 refine AW.region (AO.q 2 I (AO.act [] I (AX.callL I (.refl _) I I (.cons (.us 0 I) (.rest _)) I (L.zkma_ok _ _ _ a6) dS (by rintro _ _ ⟨rfl, _⟩; rfl) ?_)))
 rintro _ ⟨_, rfl, -⟩
 refine AO.q 1 I (AO.known 183 I P (AO.q 1 I (AO.ghost (Ghost.freeze [1] (K := [.us Y 46 2 (u.2.map Piece.row)]) I [(19, .list 2 (u.2.map Piece.row)), (184, .list 2 (u.2.map Piece.row))] ⟨⟨_, I, .us 0 I⟩, ⟨_, I, .us 0 I⟩, J⟩ (ob' := [.us X 44 1 (u.1.map (rL 2 Piece.row))]) (.rest _)) (AO.gt I I I (AO.act [] I (AX.call0 I I I (L.zuyb_ok _ _ bm) dS ?_))))))
 rintro _ _ ⟨d7, rfl, rfl⟩
 refine AO.q 1 I (AO.gt I I I (AO.p (Yp.buildP (l := [.V 7, .V (wr (1 + a))]) Try.bld46 I) I (AO.gt I I I (AO.act [] I (AX.lt 2 (([(⟨7, wr (1 + a)⟩ : Piece)] : List Piece).map Piece.row) (AO.gt I I I (AO.act [] I (AX.callL I (.refl _) I I (.cons (.us 1 I) (.rest _)) I (L.zjsx_ok _ _ _ bn) dS (by rintro _ _ ⟨rfl, _⟩; rfl) ?_))))))))
 rintro _ ⟨_, rfl, -⟩
 refine AO.q 2 I (AO.known 191 I ac (AO.q 3 I (AO.nil ?_)))
 exact lg ⟨false, h, I, I⟩ []
 replace h := ife_f P h
 refine AW.region (AO.q 2 I (AO.act [] I (AX.callL I (.refl _) I I (.cons (.us 0 I) (.rest _)) I (L.zkma_ok _ _ _ a6) dS (by rintro _ _ ⟨rfl, _⟩; rfl) ?_)))
 rintro _ ⟨_, rfl, -⟩
 refine AO.q 1 I (AO.known 183 I P (AO.q 11 I (AO.nil ?_)))
 exact lg ⟨false, h, I, I⟩ []
 rintro s ob ⟨a5, h, rfl, rfl⟩
 unfold L.zxbh.J5 at h
 obtain rfl := oi h
 exact AW.ret pr
end Go.Proofs.Ytligpmmgdjipbaa
