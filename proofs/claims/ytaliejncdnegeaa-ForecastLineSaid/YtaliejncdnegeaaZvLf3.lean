/- Walks that show what functions of the program compute; printed by a program of ours. No condition. -/
import Derived.Test.YtaliejncdnegeaaZvLf2
import Derived.Test.YtaliejncdnegeaaZvL4
import Derived.Test.YtaliejncdnegeaaZvD
set_option maxRecDepth 100000
namespace Go.Proofs.Ytaliejncdnegeaa
open Go.Aw
set_option linter.unusedVariables false
set_option linter.unusedSimpArgs false
set_option maxHeartbeats 4000000
theorem L.zkdd_ok (ao : List Int) (j : Int) (r : Bool) (h : L.zkdd ao j = some r) : ACalls Try.env 3 [.list 1 (ao.map rI), .v (.int .u8 j)] [] (fun x new => x = .v (.bool r) ∧ new = []) := by
 refine ACalls.of_body Try.func3 rfl rfl rfl (fun C hC => ?_)
 unfold L.zkdd at h
 refine AW.z I (AW.seqG (fun y2 bd => (AW.seq (AW.region (AO.q 1 I (AO.c (L.zqaf_ok ao _ I) (AO.q 1 I (AO.nil (AW.ch h I ?_ ?_)))))))))
 intro be h
 refine AW.seq ?_
 obtain ⟨r4, bf, h⟩ := ob_some h
 refine AW.region (AO.c (L.zuro_ok  _ bf) (AO.q 1 I (AO.nil ?_)))
 obtain rfl := oi h
 exact AW.ret pr
 intro be h
 refine AW.skip ?_
 subst bd
 refine AW.seqG (fun y6 bg => ?_)
 obtain ⟨r7, bh, h⟩ := ob_some h
 refine AW.region (AO.q 1 I (AO.act [] I (AX.call0 I I I (L.ziti_ok _ _ bh) dS ?_)))
 rintro _ _ ⟨k, rfl, rfl⟩
 refine AO.q 1 I (AO.nil ?_)
 subst bg
 refine AW.seqG (fun ds bi => (AW.region (AO.act [] I (AX.buildSlice (sz := 1) (es := ([(⟨#[110, 48]⟩ : ByteArray)] : List ByteArray).map rS) I I I I I I I I I I I dS (fun aq => (AO.one 1 I (fun bj => (AO.p (Yp.buildP (l := [.v aq, .N, .N, .N, .V 0, .V 0]) Try.bld32 (fill_step I I (cells_v bj) I (fill_nil))) I (AO.act [] I (AX.alloc (cs := [.N, .N, .N, .N, .V 0, .V 0]) (m := 6) I I I I I dS (fun w => (AO.act [2] I (AX.store 2 0 0 (es' := [[.v aq, .N, .N, .N, .V 0, .V 0]]) I I I I I I I I (le_ble I) I I (AO.nil ?_))))))))))))))
 subst bi
 refine AW.z I (AW.z I (AW.cutX (fun s ob => ∃ (b : (List Int) × Int × (List ByteArray) × (List Segment) × (List Hop) × Int) (A : Value) (B : Value) (H : Value), L.zkdd.J1 j b = some r ∧ s = [(7, .v H), (8, .V b.2.2.2.2.2)] ∧ ob = [.arr k 63 2 1 [[.list 1 (b.1.map rI), .V b.2.1]], .us A 9 1 (b.2.2.1.map rS), .arr w 32 6 1 [[.v A, .v B, .N, .N, .V 0, .V 0]], .us B 39 7 (b.2.2.2.1.map Segment.row), .us H 41 2 (b.2.2.2.2.1.map Hop.row)]) [(1, _), (5, _), (6, _)] ⟨I, I, I, J⟩ ?_ ?_))
 refine AW.seqG (fun dt bk => ?_)
 obtain ⟨du, bl, h⟩ := ob_some h
 refine AW.region (AO.q 1 I (AO.act [0] I (AX.c0 [0] (L.zdjb_ok k _ _ _ bl) ?_)))
 refine AO.q 2 I (AO.nil ?_)
 subst bk
 refine AW.block (AW.ghost (Ghost.nilU 39 7) (AW.ghost (Ghost.nilU 41 2) ?_))
 obtain ⟨dv, bm, bn⟩ := ob_some h
 clear h
 refine AW.loopX bm [(1, _), (5, _), (6, _)] ⟨I, I, I, J⟩ (fun (a : (List Int) × Int × (List ByteArray) × (List Segment) × (List Hop) × Int × Int) s ob => ∃ (P : Value) (D : Value) (W : Value), s = [(7, .v W), (8, .V a.2.2.2.2.2.1), (9, .V a.2.2.2.2.2.2)] ∧ ob = [.arr k 63 2 1 [[.list 1 (a.1.map rI), .V a.2.1]], .us P 9 1 (a.2.2.1.map rS), .arr w 32 6 1 [[.v P, .v D, .N, .N, .V 0, .V 0]], .us D 39 7 (a.2.2.2.1.map Segment.row), .us W 41 2 (a.2.2.2.2.1.map Hop.row)]) ⟨aq, (.slice none 0 0), (.slice none 0 0), I, I⟩ ⟨I, I, I, J⟩ ⟨[0, 1, 2, 3, 4], I, by decide⟩ ?_
 rintro a az s ob ⟨P, D, W, rfl, rfl⟩ h bo
 unfold L.zkdd.B8 at h
 refine AW.seqG (fun dw bp => (AW.z I (AW.ch h I ?_ ?_)))
 intro bq h
 refine AW.skip ?_
 subst bp
 refine AW.seq (AW.block (AW.seqG (fun dx br => (AW.region (AO.r 2 [.o 1 2] I ⟨I, J⟩ (AO.d (Yd.lenUM 1 I I I I) I (AO.q 1 I (AO.nil ?_))))))))
 subst br
 refine AW.cutX (fun s ob => ∃ (i : (List Int) × Int × ByteArray × Int) (ac : Nat), L.zkdd.J9 a i = some az ∧ s = [(11, .v (.pointer (some ⟨ac, 0, none⟩)))] ∧ ob = [.arr k 63 2 1 [[.list 1 (i.1.map rI), .V i.2.1]], .us P 9 1 (a.2.2.1.map rS), .arr w 32 6 1 [[.v P, .v D, .N, .N, .V 0, .V 0]], .us D 39 7 (a.2.2.2.1.map Segment.row), .us W 41 2 (a.2.2.2.2.1.map Hop.row), .arr ac 39 7 1 [[.v (.string i.2.2.1), .V (wr ((a.2.2.1.length : Int) - 1)), .V (a.2.2.1.length : Int), .V i.2.2.2, .V 0, .V 0, .N]]]) [(1, _), (5, _), (6, _), (7, _), (8, _), (9, _), (10, _)] ⟨I, I, I, I, I, I, I, J⟩ ?_ ?_
 obtain ⟨dy, E, h⟩ := ob_some h
 obtain ⟨g, F, h⟩ := ob_some h
 obtain ⟨e, M, h⟩ := ob_some h
 refine AW.rd (.still 0 (.still 1 (.still 2 (.still 6 (.still 7 (.still 8 (.still 9 (.three 3 10 12 (.three 4 10 12 (.still 5 (.two 10 12 (.still 11 (.act 12 (.act 13 .nil))) (.act 10 (.still 11 (.act 13 .nil))))) (.two 4 12 (.still 5 (.still 11 (.act 12 (.act 13 .nil)))) (.act 4 (.still 5 (.still 11 (.act 13 .nil))))) (.two 4 10 (.still 5 (.act 10 (.still 11 (.act 13 .nil)))) (.act 4 (.still 5 (.still 11 (.act 13 .nil)))))) (.two 3 12 (.two 4 12 (.still 5 (.still 11 (.act 12 (.act 13 .nil)))) (.act 4 (.still 5 (.still 11 (.act 13 .nil))))) (.act 3 (.act 4 (.still 5 (.still 11 (.act 13 .nil)))))) (.two 3 10 (.two 4 10 (.still 5 (.act 10 (.still 11 (.act 13 .nil)))) (.act 4 (.still 5 (.still 11 (.act 13 .nil))))) (.act 3 (.act 4 (.still 5 (.still 11 (.act 13 .nil)))))))))))))) [] [] I (AP.q 2 I (AP.op I (Yp.convI (c := IntKind.u8.wrap (wr (48 + (a.2.2.1.length : Int)))) I I I I I) I (AP.q 4 I (AP.three ?_ ?_ ?_))))
 refine AP.act [] I I I (AX.buildSlice (sz := 1) (es := ([IntKind.u8.wrap (wr (48 + (a.2.2.1.length : Int)))] : List Int).map (rK .u8)) I I I I I I I I I I I dS (fun aj => (AP.three ?_ ?_ ?_)))
 refine AP.act [] I I I (AX.bytesX 5 E I I I I I I I I dS (AP.p I (Yp.addSX I I (cat_some F)) I (AP.two ?_ ?_)))
 refine AP.act [0] I I I (AX.c0 [0] (L.ziuk_ok k _ _ _ _ M) ?_)
 refine AP.p I (Yp.buildP (l := [.v (.string g), .V (wr ((a.2.2.1.length : Int) - 1)), .V (a.2.2.1.length : Int), .V e.1, .V 0, .V 0, .N]) Try.bld39 I) I (AP.act [] I I I (AX.alloc (cs := [.v (.string ⟨#[]⟩), .V 0, .V 0, .V 0, .V 0, .V 0, .N]) (m := 7) I I I I I dS (fun u => (AP.act [6] I I I (AX.store 6 0 0 (es' := [[.v (.string g), .V (wr ((a.2.2.1.length : Int) - 1)), .V (a.2.2.1.length : Int), .V e.1, .V 0, .V 0, .N]]) I I I I I I I I (le_ble I) I I (AP.ofAO (AO.nil ?_)))))))
 rotate_left
 refine AP.act [] I I I (AX.alloc (cs := [.v (.string ⟨#[]⟩), .V 0, .V 0, .V 0, .V 0, .V 0, .N]) (m := 7) I I I I I dS (fun u => (AP.act [0] I I I (AX.c0 [0] (L.ziuk_ok k _ _ _ _ M) ?_))))
 refine AP.p I (Yp.buildP (l := [.v (.string g), .V (wr ((a.2.2.1.length : Int) - 1)), .V (a.2.2.1.length : Int), .V e.1, .V 0, .V 0, .N]) Try.bld39 I) I (AP.act [6] I I I (AX.store 6 0 0 (es' := [[.v (.string g), .V (wr ((a.2.2.1.length : Int) - 1)), .V (a.2.2.1.length : Int), .V e.1, .V 0, .V 0, .N]]) I I I I I I I I (le_ble I) I I (AP.ofAO (AO.nil ?_))))
 rotate_left
 refine AP.act [0] I I I (AX.c0 [0] (L.ziuk_ok k _ _ _ _ M) ?_)
 refine AP.two ?_ ?_
 refine AP.act [] I I I (AX.bytesX 5 E I I I I I I I I dS (AP.p I (Yp.addSX I I (cat_some F)) I (AP.p I (Yp.buildP (l := [.v (.string g), .V (wr ((a.2.2.1.length : Int) - 1)), .V (a.2.2.1.length : Int), .V e.1, .V 0, .V 0, .N]) Try.bld39 I) I (AP.act [] I I I (AX.alloc (cs := [.v (.string ⟨#[]⟩), .V 0, .V 0, .V 0, .V 0, .V 0, .N]) (m := 7) I I I I I dS (fun u => (AP.act [6] I I I (AX.store 6 0 0 (es' := [[.v (.string g), .V (wr ((a.2.2.1.length : Int) - 1)), .V (a.2.2.1.length : Int), .V e.1, .V 0, .V 0, .N]]) I I I I I I I I (le_ble I) I I (AP.ofAO (AO.nil ?_))))))))))
 rotate_left
 refine AP.act [] I I I (AX.alloc (cs := [.v (.string ⟨#[]⟩), .V 0, .V 0, .V 0, .V 0, .V 0, .N]) (m := 7) I I I I I dS (fun u => (AP.act [] I I I (AX.bytesX 5 E I I I I I I I I dS (AP.p I (Yp.addSX I I (cat_some F)) I (AP.p I (Yp.buildP (l := [.v (.string g), .V (wr ((a.2.2.1.length : Int) - 1)), .V (a.2.2.1.length : Int), .V e.1, .V 0, .V 0, .N]) Try.bld39 I) I (AP.act [6] I I I (AX.store 6 0 0 (es' := [[.v (.string g), .V (wr ((a.2.2.1.length : Int) - 1)), .V (a.2.2.1.length : Int), .V e.1, .V 0, .V 0, .N]]) I I I I I I I I (le_ble I) I I (AP.ofAO (AO.nil ?_))))))))))
 rotate_left
 refine AP.act [] I I I (AX.alloc (cs := [.v (.string ⟨#[]⟩), .V 0, .V 0, .V 0, .V 0, .V 0, .N]) (m := 7) I I I I I dS (fun u => (AP.two ?_ ?_)))
 refine AP.act [] I I I (AX.bytesX 5 E I I I I I I I I dS (AP.p I (Yp.addSX I I (cat_some F)) I (AP.act [0] I I I (AX.c0 [0] (L.ziuk_ok k _ _ _ _ M) ?_))))
 refine AP.p I (Yp.buildP (l := [.v (.string g), .V (wr ((a.2.2.1.length : Int) - 1)), .V (a.2.2.1.length : Int), .V e.1, .V 0, .V 0, .N]) Try.bld39 I) I (AP.act [6] I I I (AX.store 6 0 0 (es' := [[.v (.string g), .V (wr ((a.2.2.1.length : Int) - 1)), .V (a.2.2.1.length : Int), .V e.1, .V 0, .V 0, .N]]) I I I I I I I I (le_ble I) I I (AP.ofAO (AO.nil ?_))))
 rotate_left
 refine AP.act [0] I I I (AX.c0 [0] (L.ziuk_ok k _ _ _ _ M) ?_)
 refine AP.act [] I I I (AX.bytesX 5 E I I I I I I I I dS (AP.p I (Yp.addSX I I (cat_some F)) I (AP.p I (Yp.buildP (l := [.v (.string g), .V (wr ((a.2.2.1.length : Int) - 1)), .V (a.2.2.1.length : Int), .V e.1, .V 0, .V 0, .N]) Try.bld39 I) I (AP.act [6] I I I (AX.store 6 0 0 (es' := [[.v (.string g), .V (wr ((a.2.2.1.length : Int) - 1)), .V (a.2.2.1.length : Int), .V e.1, .V 0, .V 0, .N]]) I I I I I I I I (le_ble I) I I (AP.ofAO (AO.nil ?_)))))))
 rotate_left
 refine AP.act [0] I I I (AX.c0 [0] (L.ziuk_ok k _ _ _ _ M) ?_)
 refine AP.two ?_ ?_
 refine AP.act [] I I I (AX.buildSlice (sz := 1) (es := ([IntKind.u8.wrap (wr (48 + (a.2.2.1.length : Int)))] : List Int).map (rK .u8)) I I I I I I I I I I I dS (fun aj => (AP.two ?_ ?_)))
 refine AP.act [] I I I (AX.bytesX 5 E I I I I I I I I dS (AP.p I (Yp.addSX I I (cat_some F)) I (AP.p I (Yp.buildP (l := [.v (.string g), .V (wr ((a.2.2.1.length : Int) - 1)), .V (a.2.2.1.length : Int), .V e.1, .V 0, .V 0, .N]) Try.bld39 I) I (AP.act [] I I I (AX.alloc (cs := [.v (.string ⟨#[]⟩), .V 0, .V 0, .V 0, .V 0, .V 0, .N]) (m := 7) I I I I I dS (fun u => (AP.act [6] I I I (AX.store 6 0 0 (es' := [[.v (.string g), .V (wr ((a.2.2.1.length : Int) - 1)), .V (a.2.2.1.length : Int), .V e.1, .V 0, .V 0, .N]]) I I I I I I I I (le_ble I) I I (AP.ofAO (AO.nil ?_))))))))))
 rotate_left
 refine AP.act [] I I I (AX.alloc (cs := [.v (.string ⟨#[]⟩), .V 0, .V 0, .V 0, .V 0, .V 0, .N]) (m := 7) I I I I I dS (fun u => (AP.act [] I I I (AX.bytesX 5 E I I I I I I I I dS (AP.p I (Yp.addSX I I (cat_some F)) I (AP.p I (Yp.buildP (l := [.v (.string g), .V (wr ((a.2.2.1.length : Int) - 1)), .V (a.2.2.1.length : Int), .V e.1, .V 0, .V 0, .N]) Try.bld39 I) I (AP.act [6] I I I (AX.store 6 0 0 (es' := [[.v (.string g), .V (wr ((a.2.2.1.length : Int) - 1)), .V (a.2.2.1.length : Int), .V e.1, .V 0, .V 0, .N]]) I I I I I I I I (le_ble I) I I (AP.ofAO (AO.nil ?_))))))))))
 any_goals
  exact lg ⟨(e.2.L_, e.2.At, g, e.1), u, h, I, I⟩ [0, 1, 2, 3, 4, 6]
 refine AP.act [] I I I (AX.alloc (cs := [.v (.string ⟨#[]⟩), .V 0, .V 0, .V 0, .V 0, .V 0, .N]) (m := 7) I I I I I dS (fun u => (AP.act [] I I I (AX.buildSlice (sz := 1) (es := ([IntKind.u8.wrap (wr (48 + (a.2.2.1.length : Int)))] : List Int).map (rK .u8)) I I I I I I I I I I I dS (fun aj => (AP.act [] I I I (AX.bytesX 6 E I I I I I I I I dS (AP.p I (Yp.addSX I I (cat_some F)) I (AP.p I (Yp.buildP (l := [.v (.string g), .V (wr ((a.2.2.1.length : Int) - 1)), .V (a.2.2.1.length : Int), .V e.1, .V 0, .V 0, .N]) Try.bld39 I) I (AP.act [5] I I I (AX.store 5 0 0 (es' := [[.v (.string g), .V (wr ((a.2.2.1.length : Int) - 1)), .V (a.2.2.1.length : Int), .V e.1, .V 0, .V 0, .N]]) I I I I I I I I (le_ble I) I I (AP.ofAO (AO.nil ?_)))))))))))))
 exact lg ⟨(e.2.L_, e.2.At, g, e.1), u, h, I, I⟩ [0, 1, 2, 3, 4, 5]
 refine AP.act [] I I I (AX.alloc (cs := [.v (.string ⟨#[]⟩), .V 0, .V 0, .V 0, .V 0, .V 0, .N]) (m := 7) I I I I I dS (fun u => (AP.two ?_ ?_)))
 refine AP.act [] I I I (AX.buildSlice (sz := 1) (es := ([IntKind.u8.wrap (wr (48 + (a.2.2.1.length : Int)))] : List Int).map (rK .u8)) I I I I I I I I I I I dS (fun aj => (AP.two ?_ ?_)))
 refine AP.act [] I I I (AX.bytesX 6 E I I I I I I I I dS (AP.p I (Yp.addSX I I (cat_some F)) I (AP.act [0] I I I (AX.c0 [0] (L.ziuk_ok k _ _ _ _ M) ?_))))
 refine AP.p I (Yp.buildP (l := [.v (.string g), .V (wr ((a.2.2.1.length : Int) - 1)), .V (a.2.2.1.length : Int), .V e.1, .V 0, .V 0, .N]) Try.bld39 I) I (AP.act [5] I I I (AX.store 5 0 0 (es' := [[.v (.string g), .V (wr ((a.2.2.1.length : Int) - 1)), .V (a.2.2.1.length : Int), .V e.1, .V 0, .V 0, .N]]) I I I I I I I I (le_ble I) I I (AP.ofAO (AO.nil ?_))))
 exact lg ⟨(e.2.L_, e.2.At, g, e.1), u, h, I, I⟩ [0, 1, 2, 3, 4, 5]
 refine AP.act [0] I I I (AX.c0 [0] (L.ziuk_ok k _ _ _ _ M) ?_)
 refine AP.act [] I I I (AX.bytesX 6 E I I I I I I I I dS (AP.p I (Yp.addSX I I (cat_some F)) I (AP.p I (Yp.buildP (l := [.v (.string g), .V (wr ((a.2.2.1.length : Int) - 1)), .V (a.2.2.1.length : Int), .V e.1, .V 0, .V 0, .N]) Try.bld39 I) I (AP.act [5] I I I (AX.store 5 0 0 (es' := [[.v (.string g), .V (wr ((a.2.2.1.length : Int) - 1)), .V (a.2.2.1.length : Int), .V e.1, .V 0, .V 0, .N]]) I I I I I I I I (le_ble I) I I (AP.ofAO (AO.nil ?_)))))))
 exact lg ⟨(e.2.L_, e.2.At, g, e.1), u, h, I, I⟩ [0, 1, 2, 3, 4, 5]
 refine AP.act [0] I I I (AX.c0 [0] (L.ziuk_ok k _ _ _ _ M) ?_)
 refine AP.act [] I I I (AX.buildSlice (sz := 1) (es := ([IntKind.u8.wrap (wr (48 + (a.2.2.1.length : Int)))] : List Int).map (rK .u8)) I I I I I I I I I I I dS (fun aj => (AP.act [] I I I (AX.bytesX 6 E I I I I I I I I dS (AP.p I (Yp.addSX I I (cat_some F)) I (AP.p I (Yp.buildP (l := [.v (.string g), .V (wr ((a.2.2.1.length : Int) - 1)), .V (a.2.2.1.length : Int), .V e.1, .V 0, .V 0, .N]) Try.bld39 I) I (AP.act [5] I I I (AX.store 5 0 0 (es' := [[.v (.string g), .V (wr ((a.2.2.1.length : Int) - 1)), .V (a.2.2.1.length : Int), .V e.1, .V 0, .V 0, .N]]) I I I I I I I I (le_ble I) I I (AP.ofAO (AO.nil ?_))))))))))
 exact lg ⟨(e.2.L_, e.2.At, g, e.1), u, h, I, I⟩ [0, 1, 2, 3, 4, 5]
 rintro s ob ⟨i, ac, h, rfl, rfl⟩
 unfold L.zkdd.J9 at h
 refine AW.seqG (fun dz bs => (AW.region (AO.q 2 I (AO.p (Yp.buildP (l := [.V (wr ((a.2.2.1.length : Int) - 1)), .v (.bool false)]) Try.bld41 I) I (AO.act [] I (AX.alloc (cs := [.V 0, .v (.bool false)]) (m := 2) I I I I I dS (fun a0 => (AO.act [6] I (AX.store 6 0 0 (es' := [[.V (wr ((a.2.2.1.length : Int) - 1)), .v (.bool false)]]) I I I I I I I I (le_ble I) I I (AO.nil ?_))))))))))
 subst bs
 refine AW.cutX (fun s ob => ∃ (n : (List Int) × Int × Int × Int × Bool), L.zkdd.J10 a i n = some az ∧ s = [] ∧ ob = [.arr k 63 2 1 [[.list 1 (n.1.map rI), .V n.2.1]], .us P 9 1 (a.2.2.1.map rS), .arr w 32 6 1 [[.v P, .v D, .N, .N, .V 0, .V 0]], .us D 39 7 (a.2.2.2.1.map Segment.row), .us W 41 2 (a.2.2.2.2.1.map Hop.row), .arr ac 39 7 1 [[.v (.string i.2.2.1), .V n.2.2.1, .V n.2.2.2.1, .V i.2.2.2, .V 0, .V 0, .N]], .arr a0 41 2 1 [[.V (wr ((a.2.2.1.length : Int) - 1)), .v (.bool n.2.2.2.2)]]]) [(1, _), (5, _), (6, _), (7, _), (8, _), (9, _), (10, _), (11, _), (12, _)] ⟨I, I, I, I, I, I, I, I, I, J⟩ ?_ ?_
 refine AW.seqG (fun d0 bu => ?_)
 obtain ⟨ak, bv, h⟩ := ob_some h
 refine AW.region (AO.q 1 I (AO.act [0] I (AX.c0 [0] (L.zdjb_ok k _ _ _ bv) ?_)))
 refine AO.q 1 I (AO.nil ?_)
 subst bu
 refine AW.ch h I ?_ ?_
 intro bw h
 refine AW.seq (AW.region (AO.q 4 I (AO.act [5] I (AX.store 5 0 1 (es' := [[.v (.string i.2.2.1), .V (a.2.2.1.length : Int), .V (a.2.2.1.length : Int), .V i.2.2.2, .V 0, .V 0, .N]]) I I I I I I I I (le_ble I) I I (AO.q 1 I (AO.act [5] I (AX.store 5 0 2 (es' := [[.v (.string i.2.2.1), .V (a.2.2.1.length : Int), .V (wr ((a.2.2.1.length : Int) - 1)), .V i.2.2.2, .V 0, .V 0, .N]]) I I I I I I I I (le_ble I) I I (AO.nil (AW.region (AO.q 1 I (AO.act [6] I (AX.store 6 0 1 (es' := [[.V (wr ((a.2.2.1.length : Int) - 1)), .v (.bool true)]]) I I I I I I I I (le_ble I) I I (AO.nil ?_)))))))))))))
 exact lg ⟨(ak.2.L_, ak.2.At, (a.2.2.1.length : Int), wr ((a.2.2.1.length : Int) - 1), true), h, I, I⟩ [0, 1, 2, 3, 4, 5, 6]
 intro bw h
 refine AW.skip ?_
 exact lg ⟨(ak.2.L_, ak.2.At, wr ((a.2.2.1.length : Int) - 1), (a.2.2.1.length : Int), false), h, I, I⟩ [0, 1, 2, 3, 4, 5, 6]
 rintro s ob ⟨n, h, rfl, rfl⟩
 unfold L.zkdd.J10 at h
 refine AW.seqG (fun d1 bx => (AW.region (AO.p (Yp.buildP (l := [.V 0, .V 0, .V 1000]) Try.bld43 I) I (AO.r 2 [.o 1 5] I ⟨I, J⟩ (AO.p (Yp.buildP (l := [.V i.2.2.2, .V 0, .V 1000]) Try.bld43 I) I (AO.act [] I (AX.buildSlice (sz := 3) (es := ([(⟨0, 0, 1000⟩ : Point), (⟨i.2.2.2, 0, 1000⟩ : Point)] : List Point).map Point.row) I I I I I I I I I I I dS (fun a1 => (AO.q 1 I (AO.one 7 I (fun b0 => (AO.act [5] I (AX.store 5 0 6 (es' := [[.v (.string i.2.2.1), .V n.2.2.1, .V n.2.2.2.1, .V i.2.2.2, .V 0, .V 0, .v a1]]) I I I I I I (cells_v b0) I (le_ble I) I I (AO.nil ?_))))))))))))))
 subst bx
 refine AW.seqG (fun d2 b1 => ?_)
 obtain ⟨d3, b2, h⟩ := ob_some h
 obtain ⟨b3, b4, h⟩ := ob_some h
 obtain ⟨b5, b6, h⟩ := ob_some h
 refine AW.region (AO.r 4 [.o 1 2] I ⟨I, J⟩ (AO.p (Yp.convI (c := IntKind.u8.wrap (wr (48 + (a.2.2.1.length : Int)))) I I I I I) I (AO.act [] I (AX.buildSlice (sz := 1) (es := ([IntKind.u8.wrap (wr (48 + (a.2.2.1.length : Int)))] : List Int).map (rK .u8)) I I I I I I I I I I I dS (fun b7 => (AO.act [] I (AX.bytesX 8 b2 I I I I I I I I dS (AO.p (Yp.addSX I I (cat_some b4)) I (AO.act [] I (AX.lt 1 (([b3] : List ByteArray).map rS) (AO.act [1] I (AX.ap 1 I b6 (fun ad => (AO.q 1 I (AO.one 1 I (fun b8 => (AO.act [2] I (AX.store 2 0 0 (es' := [[.v ad, .v D, .N, .N, .V 0, .V 0]]) I I I I I I (cells_v b8) I (le_ble I) I I (AO.nil ?_)))))))))))))))))))
 subst b1
 refine AW.seq ?_
 obtain ⟨d4, ca, h⟩ := ob_some h
 refine AW.region (AO.r 3 [.o 1 2, .o 2 5] I ⟨I, I, J⟩ (AO.ghost (Ghost.freeze [7] (K := [.us a1 43 3 (([(⟨0, 0, 1000⟩ : Point), (⟨i.2.2.2, 0, 1000⟩ : Point)] : List Point).map Point.row)]) I [(77, .list 3 (([(⟨0, 0, 1000⟩ : Point), (⟨i.2.2.2, 0, 1000⟩ : Point)] : List Point).map Point.row)), (92, .agg [.v (.string i.2.2.1), .V n.2.2.1, .V n.2.2.2.1, .V i.2.2.2, .V 0, .V 0, .list 3 (([(⟨0, 0, 1000⟩ : Point), (⟨i.2.2.2, 0, 1000⟩ : Point)] : List Point).map Point.row)])] ⟨⟨_, I, .us 0 I⟩, ⟨_, I, .agg (.cons (.refl _) (.cons (.refl _) (.cons (.refl _) (.cons (.refl _) (.cons (.refl _) (.cons (.refl _) (.cons (.us 0 I) (.rest _))))))))⟩, J⟩ (ob' := [.arr k 63 2 1 [[.list 1 (n.1.map rI), .V n.2.1]], .us ad 9 1 (b5.map rS), .arr w 32 6 1 [[.v ad, .v D, .N, .N, .V 0, .V 0]], .us D 39 7 (a.2.2.2.1.map Segment.row), .us W 41 2 (a.2.2.2.2.1.map Hop.row), .arr ac 39 7 1 [[.v (.string i.2.2.1), .V n.2.2.1, .V n.2.2.2.1, .V i.2.2.2, .V 0, .V 0, .list 3 (([(⟨0, 0, 1000⟩ : Point), (⟨i.2.2.2, 0, 1000⟩ : Point)] : List Point).map Point.row)]], .arr a0 41 2 1 [[.V (wr ((a.2.2.1.length : Int) - 1)), .v (.bool n.2.2.2.2)]], .us b7 5 1 (([IntKind.u8.wrap (wr (48 + (a.2.2.1.length : Int)))] : List Int).map (rK .u8))]) (.cons (.same _) (.cons (.same _) (.cons (.same _) (.cons (.same _) (.cons (.same _) (.cons (.arr (.cons (.refl _) (.cons (.refl _) (.cons (.refl _) (.cons (.refl _) (.cons (.refl _) (.cons (.refl _) (.cons (.us 0 I) (.rest _))))))))) (.rest _)))))))) ?_))
 refine AO.act [] I (AX.lt 7 (([(⟨i.2.2.1, n.2.2.1, n.2.2.2.1, i.2.2.2, 0, 0, ([(⟨0, 0, 1000⟩ : Point), (⟨i.2.2.2, 0, 1000⟩ : Point)] : List Point)⟩ : Segment)] : List Segment).map Segment.row) (AO.act [3] I (AX.ap 3 I ca (fun a2 => (AO.q 1 I (AO.one 3 I (fun cb => (AO.act [2] I (AX.store 2 0 1 (es' := [[.v ad, .v a2, .N, .N, .V 0, .V 0]]) I I I I I I (cells_v cb) I (le_ble I) I I (AO.nil (AW.seq ?_)))))))))))
 obtain ⟨d5, cc, h⟩ := ob_some h
 refine AW.region (AO.r 2 [.o 1 6] I ⟨I, J⟩ (AO.act [] I (AX.lt 2 (([(⟨wr ((a.2.2.1.length : Int) - 1), n.2.2.2.2⟩ : Hop)] : List Hop).map Hop.row) (AO.act [4] I (AX.ap 4 I cc (fun cd => (AO.q 1 I (AO.nil (AW.tr [.o 2 5] I ⟨I, J⟩ (AW.region (AO.q 3 I ?_)))))))))))
 obtain rfl := oi h
 refine AO.nil ?_
 exact ⟨_, _, _, I, ⟨ad, a2, cd, I, I⟩, ⟨I, I, I, I, I, I, J⟩, [0, 1, 2, 3, 4], I, by decide⟩
 intro bq h
 obtain rfl := bo _ (oi h).symm
 replace h := bn
 refine AW.exit ?_
 exact lg ⟨(a.1, a.2.1, a.2.2.1, a.2.2.2.1, a.2.2.2.2.1, a.2.2.2.2.2.1), P, D, W, h, I, I⟩ [0, 1, 2, 3, 4]
 rintro s ob ⟨b, A, B, H, h, rfl, rfl⟩
 unfold L.zkdd.J1 at h
 refine AW.seqG (fun d6 ce => (AW.region (AO.p (Yp.buildP (l := [.v (.string (⟨#[112]⟩ : ByteArray)), .V 0, .V 0]) Try.bld45 I) I (AO.r 2 [.o 1 2] I ⟨I, J⟩ (AO.d (Yd.lenUM 1 I I I I) I (AO.q 1 I (AO.p (Yp.buildP (l := [.v (.string (⟨#[113]⟩ : ByteArray)), .V (wr ((b.2.2.1.length : Int) - 1)), .V 0]) Try.bld45 I) I (AO.act [] I (AX.buildSlice (sz := 3) (es := ([(⟨(⟨#[112]⟩ : ByteArray), 0, 0⟩ : Port), (⟨(⟨#[113]⟩ : ByteArray), wr ((b.2.2.1.length : Int) - 1), 0⟩ : Port)] : List Port).map Port.row) I I I I I I I I I I I dS (fun Q => (AO.q 1 I (AO.one 5 I (fun cf => (AO.act [2] I (AX.store 2 0 2 (es' := [[.v A, .v B, .v Q, .N, .V 0, .V 0]]) I I I I I I (cells_v cf) I (le_ble I) I I (AO.nil ?_))))))))))))))))
 subst ce
 refine AW.seqG (fun d7 ci => (AW.region (AO.q 1 I (AO.p (Yp.convI (c := wr (j)) I I I I I) I (AO.r 3 [.f 0 (.V ((wr (j)).tmod 10))] I ⟨Yp.yd (Yp.binI (c := ((wr (j)).tmod 10)) I I ⟨by decide, I⟩), J⟩ (AO.nil ?_))))))
 subst ci
 refine AW.seqG (fun d8 cj => (AW.region (AO.q 3 I (AO.act [] I (AX.buildSlice (sz := 1) (es := ([wr (1 + ((wr (j)).tmod 10)), wr (0 - (wr (1 + ((wr (j)).tmod 10))))] : List Int).map rI) I I I I I I I I I I I dS (fun t => (AO.one 6 I (fun ck => (AO.p (Yp.buildP (l := [.N, .v t, .N]) Try.bld48 (fill_step I I (cells_v ck) I (fill_nil))) I (AO.act [] I (AX.alloc (cs := [.N, .N, .N]) (m := 3) I I I I I dS (fun X => (AO.act [7] I (AX.store 7 0 0 (es' := [[.N, .v t, .N]]) I I I I I I I I (le_ble I) I I (AO.nil ?_)))))))))))))))
 subst cj
 refine AW.cutX (fun s ob => ∃ (R : List Int) (G : Value), L.zkdd.J2 j b R = some r ∧ s = [] ∧ ob = [.arr k 63 2 1 [[.list 1 (b.1.map rI), .V b.2.1]], .us A 9 1 (b.2.2.1.map rS), .arr w 32 6 1 [[.v A, .v B, .v Q, .N, .V 0, .V 0]], .us B 39 7 (b.2.2.2.1.map Segment.row), .us H 41 2 (b.2.2.2.2.1.map Hop.row), .us Q 45 3 (([(⟨(⟨#[112]⟩ : ByteArray), 0, 0⟩ : Port), (⟨(⟨#[113]⟩ : ByteArray), wr ((b.2.2.1.length : Int) - 1), 0⟩ : Port)] : List Port).map Port.row), .us t 3 1 (([wr (1 + ((wr (j)).tmod 10)), wr (0 - (wr (1 + ((wr (j)).tmod 10))))] : List Int).map rI), .arr X 48 3 1 [[.v G, .v t, .N]], .us G 3 1 (R.map rI)]) [(5, _), (6, _), (7, _), (8, _), (13, _), (14, _)] ⟨I, I, I, I, I, I, J⟩ ?_ ?_
 refine AW.z I (AW.block (AW.ghost (Ghost.nilU 3 1) ?_))
 obtain ⟨d9, cl, cm⟩ := ob_some h
 clear h
 refine AW.loopX cl [(5, _), (6, _), (7, _), (8, _), (13, _), (14, _)] ⟨I, I, I, I, I, I, J⟩ (fun (ae : (List Int) × Int) s ob => ∃ (al : Value), s = [(15, .V ae.2)] ∧ ob = [.arr k 63 2 1 [[.list 1 (b.1.map rI), .V b.2.1]], .us A 9 1 (b.2.2.1.map rS), .arr w 32 6 1 [[.v A, .v B, .v Q, .N, .V 0, .V 0]], .us B 39 7 (b.2.2.2.1.map Segment.row), .us H 41 2 (b.2.2.2.2.1.map Hop.row), .us Q 45 3 (([(⟨(⟨#[112]⟩ : ByteArray), 0, 0⟩ : Port), (⟨(⟨#[113]⟩ : ByteArray), wr ((b.2.2.1.length : Int) - 1), 0⟩ : Port)] : List Port).map Port.row), .us t 3 1 (([wr (1 + ((wr (j)).tmod 10)), wr (0 - (wr (1 + ((wr (j)).tmod 10))))] : List Int).map rI), .arr X 48 3 1 [[.v al, .v t, .N]], .us al 3 1 (ae.1.map rI)]) ⟨(.slice none 0 0), I, I⟩ ⟨I, J⟩ ⟨[0, 1, 2, 3, 4, 5, 6, 7, 8], I, by decide⟩ ?_
 rintro ae cn s ob ⟨al, rfl, rfl⟩ h co
 unfold L.zkdd.B6 at h
 refine AW.seqG (fun ea cp => (AW.seq (AW.region (AO.q 2 I (AO.d (Yd.lenUM 4 I I I I) I (AO.q 1 I (AO.nil (AW.ch h I ?_ ?_))))))))
 intro cq h
 refine AW.skip ?_
 subst cp
 refine AW.cutX (fun s ob => ∃ (ar : List Int) (am : Value), L.zkdd.J7 ae ar = some cn ∧ s = [] ∧ ob = [.arr k 63 2 1 [[.list 1 (b.1.map rI), .V b.2.1]], .us A 9 1 (b.2.2.1.map rS), .arr w 32 6 1 [[.v A, .v B, .v Q, .N, .V 0, .V 0]], .us B 39 7 (b.2.2.2.1.map Segment.row), .us H 41 2 (b.2.2.2.2.1.map Hop.row), .us Q 45 3 (([(⟨(⟨#[112]⟩ : ByteArray), 0, 0⟩ : Port), (⟨(⟨#[113]⟩ : ByteArray), wr ((b.2.2.1.length : Int) - 1), 0⟩ : Port)] : List Port).map Port.row), .us t 3 1 (([wr (1 + ((wr (j)).tmod 10)), wr (0 - (wr (1 + ((wr (j)).tmod 10))))] : List Int).map rI), .arr X 48 3 1 [[.v am, .v t, .N]], .us am 3 1 (ar.map rI)]) [(5, _), (6, _), (7, _), (8, _), (13, _), (14, _), (15, _)] ⟨I, I, I, I, I, I, I, J⟩ ?_ ?_
 refine AW.block (AW.seqG (fun eb cr => ?_))
 obtain ⟨au, ct, h⟩ := ob_some h
 obtain ⟨cu, a3⟩ := ix_some ct
 refine AW.region (AO.q 2 I (AO.d (Yd.indexU 4 (m := au.1) I I I I I I I cu (map_get a3)) I (AO.q 1 I (AO.d (Yd.loadU 4 au.1 1 I I I (map_get a3) I (y := .v (.bool au.2.Back)) I) I (AO.nil ?_)))))
 subst cr
 refine AW.ch h I ?_ ?_
 intro cv h
 obtain ⟨cw, cx, h⟩ := ob_some h
 refine AW.region (AO.r 4 [.o 1 7] I ⟨I, J⟩ (AO.act [] I (AX.lt 1 (([wr (0 - (wr (1 + ((wr (j)).tmod 10))))] : List Int).map rI) (AO.act [8] I (AX.ap 8 I cx (fun a4 => (AO.q 1 I (AO.one 8 I (fun cy => (AO.act [7] I (AX.store 7 0 0 (es' := [[.v a4, .v t, .N]]) I I I I I I (cells_v cy) I (le_ble I) I I (AO.nil ?_))))))))))))
 exact lg ⟨cw, a4, h, I, I⟩ [0, 1, 2, 3, 4, 5, 6, 7, 8]
 intro cv h
 obtain ⟨cz, c1, h⟩ := ob_some h
 refine AW.region (AO.r 3 [.o 1 7] I ⟨I, J⟩ (AO.act [] I (AX.lt 1 (([wr (1 + ((wr (j)).tmod 10))] : List Int).map rI) (AO.act [8] I (AX.ap 8 I c1 (fun a5 => (AO.q 1 I (AO.one 8 I (fun c2 => (AO.act [7] I (AX.store 7 0 0 (es' := [[.v a5, .v t, .N]]) I I I I I I (cells_v c2) I (le_ble I) I I (AO.nil ?_))))))))))))
 exact lg ⟨cz, a5, h, I, I⟩ [0, 1, 2, 3, 4, 5, 6, 7, 8]
 rintro s ob ⟨ar, am, h, rfl, rfl⟩
 unfold L.zkdd.J7 at h
 refine AW.region (AO.q 3 I ?_)
 obtain rfl := oi h
 refine AO.nil ?_
 exact ⟨_, _, _, I, ⟨am, I, I⟩, ⟨I, I, I, I, I, I, I, J⟩, [0, 1, 2, 3, 4, 5, 6, 7, 8], I, by decide⟩
 intro cq h
 obtain rfl := co _ (oi h).symm
 replace h := cm
 refine AW.exit ?_
 exact lg ⟨ae.1, al, h, I, I⟩ [0, 1, 2, 3, 4, 5, 6, 7, 8]
 rintro s ob ⟨R, G, h, rfl, rfl⟩
 unfold L.zkdd.J2 at h
 refine AW.seqG (fun ec c3 => ?_)
 obtain ⟨an, c4, h⟩ := ob_some h
 refine AW.region (AO.r 2 [.o 1 2] I ⟨I, J⟩ (AO.ghost (Ghost.freeze [1, 3, 5] (K := [.us A 9 1 (b.2.2.1.map rS), .us B 39 7 (b.2.2.2.1.map Segment.row), .us Q 45 3 (([(⟨(⟨#[112]⟩ : ByteArray), 0, 0⟩ : Port), (⟨(⟨#[113]⟩ : ByteArray), wr ((b.2.2.1.length : Int) - 1), 0⟩ : Port)] : List Port).map Port.row)]) I [(146, .agg [.list 1 (b.2.2.1.map rS), .list 7 (b.2.2.2.1.map Segment.row), .list 3 (([(⟨(⟨#[112]⟩ : ByteArray), 0, 0⟩ : Port), (⟨(⟨#[113]⟩ : ByteArray), wr ((b.2.2.1.length : Int) - 1), 0⟩ : Port)] : List Port).map Port.row), .list 5 ([].map Station.row), .V 0, .V 0])] ⟨⟨_, I, .agg (.cons (.us 0 I) (.cons (.us 1 I) (.cons (.us 2 I) (.cons (.nil _) (.rest _)))))⟩, J⟩ (ob' := [.arr k 63 2 1 [[.list 1 (b.1.map rI), .V b.2.1]], .arr w 32 6 1 [[.list 1 (b.2.2.1.map rS), .list 7 (b.2.2.2.1.map Segment.row), .list 3 (([(⟨(⟨#[112]⟩ : ByteArray), 0, 0⟩ : Port), (⟨(⟨#[113]⟩ : ByteArray), wr ((b.2.2.1.length : Int) - 1), 0⟩ : Port)] : List Port).map Port.row), .N, .V 0, .V 0]], .us H 41 2 (b.2.2.2.2.1.map Hop.row), .us t 3 1 (([wr (1 + ((wr (j)).tmod 10)), wr (0 - (wr (1 + ((wr (j)).tmod 10))))] : List Int).map rI), .arr X 48 3 1 [[.v G, .v t, .N]], .us G 3 1 (R.map rI)]) (.cons (.same _) (.cons (.arr (.cons (.us 0 I) (.cons (.us 1 I) (.cons (.us 2 I) (.rest _))))) (.rest _)))) (AO.act [0] I (AX.cg [0] (L.zbhc_ok k _ _ _ _ c4) ?_))))
 rintro _ _ _ - ⟨av, rfl, rfl, rfl⟩
 refine AO.q 1 I (AO.nil ?_)
 subst c3
 refine AW.cutX (fun s ob => ∃ (a6 : Unit), L.zkdd.J3 j b R an a6 = some r ∧ s = [] ∧ ob = [.arr w 32 6 1 [[.list 1 (b.2.2.1.map rS), .list 7 (b.2.2.2.1.map Segment.row), .list 3 (([(⟨(⟨#[112]⟩ : ByteArray), 0, 0⟩ : Port), (⟨(⟨#[113]⟩ : ByteArray), wr ((b.2.2.1.length : Int) - 1), 0⟩ : Port)] : List Port).map Port.row), .N, .V 0, .V 0]], .us t 3 1 (([wr (1 + ((wr (j)).tmod 10)), wr (0 - (wr (1 + ((wr (j)).tmod 10))))] : List Int).map rI), .arr X 48 3 1 [[.v G, .v t, .N]], .us G 3 1 (R.map rI), .us av 61 1 (an.1.map (rL 2 Piece.row))]) [(6, _), (8, _), (13, _), (14, _), (16, _)] ⟨I, I, I, I, I, J⟩ ?_ ?_
 refine AW.z I (AW.block ?_)
 obtain ⟨ed, c5, a7⟩ := ob_some h
 clear h
 refine AW.loopX c5 [(6, _), (7, _), (8, _), (13, _), (14, _), (16, _)] ⟨I, I, I, I, I, I, J⟩ (fun (a8 : Int) s ob => s = [(17, .V a8)] ∧ ob = [.arr w 32 6 1 [[.list 1 (b.2.2.1.map rS), .list 7 (b.2.2.2.1.map Segment.row), .list 3 (([(⟨(⟨#[112]⟩ : ByteArray), 0, 0⟩ : Port), (⟨(⟨#[113]⟩ : ByteArray), wr ((b.2.2.1.length : Int) - 1), 0⟩ : Port)] : List Port).map Port.row), .N, .V 0, .V 0]], .us H 41 2 (b.2.2.2.2.1.map Hop.row), .us t 3 1 (([wr (1 + ((wr (j)).tmod 10)), wr (0 - (wr (1 + ((wr (j)).tmod 10))))] : List Int).map rI), .arr X 48 3 1 [[.v G, .v t, .N]], .us G 3 1 (R.map rI), .us av 61 1 (an.1.map (rL 2 Piece.row))]) ⟨I, I⟩ ⟨I, J⟩ ⟨[1, 2, 3, 4, 5, 6], I, by decide⟩ ?_
 rintro a8 ee s ob ⟨rfl, rfl⟩ h a9
 unfold L.zkdd.B5 at h
 refine AW.seqG (fun ef c6 => (AW.z I (AW.ch h I ?_ ?_)))
 intro c7 h
 refine AW.skip ?_
 subst c6
 refine AW.seq (AW.block (AW.seqG (fun eg c8 => ?_)))
 obtain ⟨aa, c9, h⟩ := ob_some h
 refine AW.region (AO.r 4 [.o 0 0] I ⟨I, J⟩ (AO.act [] I (AX.callL I (.refl _) I I (.cons (.agg (.cons (.refl _) (.cons (.refl _) (.cons (.refl _) (.cons (.nil _) (.rest _)))))) (.cons (.us 5 I) (.cons (.us 1 I) (.rest _)))) I (L.zeyd_ok _ _ _ _ _ c9) dS (by rintro _ _ ⟨rfl, _⟩; rfl) ?_)))
 rintro _ ⟨_, rfl, -⟩
 refine AO.q 7 I (AO.nil ?_)
 subst c8
 refine AW.seqG (fun eh da => ?_)
 obtain ⟨aw, db, h⟩ := ob_some h
 refine AW.region (AO.q 2 I (AO.c (L.zdws_ok _ _ _ db) (AO.q 5 I (AO.nil ?_))))
 subst da
 refine AW.seqG (fun ei dc => ?_)
 obtain ⟨ba, dd, h⟩ := ob_some h
 obtain ⟨af, de, h⟩ := ob_some h
 refine AW.rd (.still 0 (.still 1 (.still 2 (.still 4 (.still 5 (.still 6 (.still 7 (.still 8 (.act 3 (.act 9 (.still 10 (.still 11 (.still 12 (.still 13 (.still 14 (.still 15 (.still 16 .nil))))))))))))))))) [0, 3] [_, _] I (AP.r 8 [.o 0 0, .o 2 1, .f 6 (.V ba)] I ⟨Yp.yd (Yp.binI (c := ba) I I (quo_some dd)), I, I, J⟩ (AP.act [] I I I (AX.lt 1 (([7, 0] : List Int).map rI) (AP.act [] I I I (AX.callL I (.refl _) I I (.cons (.agg (.cons (.refl _) (.cons (.refl _) (.cons (.refl _) (.cons (.nil _) (.rest _)))))) (.cons (.us 5 I) (.cons (.agg (.cons (.us 4 I) (.cons (.us 2 I) (.cons (.nil _) (.rest _))))) (.rest _)))) I (L.zlie_ok _ _ _ _ _ _ _ _ de) dS (by rintro _ _ ⟨rfl, _⟩; rfl) ?_)))))
 rintro _ ⟨_, rfl, -⟩
 refine AP.q 7 I (AP.ofAO (AO.nil ?_))
 subst dc
 refine AW.cutX (fun s ob => s = [(203, .v (.bool ((aa.2.2 != 0) || ((aw.2 != 0) || ((af.2.2 != 0) || ((aa.2.1 != af.2.1) || (aa.2.1 && (aw.1 != af.1))))))))] ∧ ob = [.arr w 32 6 1 [[.list 1 (b.2.2.1.map rS), .list 7 (b.2.2.2.1.map Segment.row), .list 3 (([(⟨(⟨#[112]⟩ : ByteArray), 0, 0⟩ : Port), (⟨(⟨#[113]⟩ : ByteArray), wr ((b.2.2.1.length : Int) - 1), 0⟩ : Port)] : List Port).map Port.row), .N, .V 0, .V 0]], .us H 41 2 (b.2.2.2.2.1.map Hop.row), .us t 3 1 (([wr (1 + ((wr (j)).tmod 10)), wr (0 - (wr (1 + ((wr (j)).tmod 10))))] : List Int).map rI), .arr X 48 3 1 [[.v G, .v t, .N]], .us G 3 1 (R.map rI), .us av 61 1 (an.1.map (rL 2 Piece.row))]) [(6, _), (7, _), (8, _), (13, _), (14, _), (16, _), (17, _)] ⟨I, I, I, I, I, I, I, J⟩ ?_ ?_
 refine AW.region (AO.q 3 I ?_)
 rcases bt ((aa.2.2 != 0)) with O | O
 refine AO.known 183 I O (AO.q 15 I (AO.skipU I I dS (AO.skipU I I dS (AO.skipU I I dS (AO.q 2 I (AO.nil ?_))))))
 exact lf ⟨I, I⟩ ⟨(get_b (by simp only [O, bz])), I, I, I, I, I, I, I, J⟩ [0, 1, 2, 3, 4, 5] I
 refine AO.known 183 I O (AO.q 4 I ?_)
 rcases bt ((aw.2 != 0)) with S | S
 refine AO.known 187 I S (AO.q 11 I (AO.skipU I I dS (AO.skipU I I dS (AO.skipU I I dS (AO.q 2 I (AO.nil ?_))))))
 exact lf ⟨I, I⟩ ⟨(get_b (by simp only [O, S, bz])), I, I, I, I, I, I, I, J⟩ [0, 1, 2, 3, 4, 5] I
 refine AO.known 187 I S (AO.q 4 I ?_)
 rcases bt ((af.2.2 != 0)) with Y | Y
 refine AO.known 191 I Y (AO.q 7 I (AO.skipU I I dS (AO.skipU I I dS (AO.skipU I I dS (AO.q 2 I (AO.nil ?_))))))
 exact lf ⟨I, I⟩ ⟨(get_b (by simp only [O, S, Y, bz])), I, I, I, I, I, I, I, J⟩ [0, 1, 2, 3, 4, 5] I
 refine AO.known 191 I Y (AO.q 2 I (AO.gt I I I (AO.p (Yp.neqB I I I I) I (AO.q 2 I ?_))))
 rcases bt ((aa.2.1 != af.2.1)) with U | U
 refine AO.known 196 I U (AO.q 2 I (AO.skipU I I dS (AO.skipU I I dS (AO.skipU I I dS (AO.q 2 I (AO.nil ?_))))))
 exact lf ⟨I, I⟩ ⟨(get_b (by simp only [O, S, Y, U, bz])), I, I, I, I, I, I, I, J⟩ [0, 1, 2, 3, 4, 5] I
 refine AO.known 196 I U (AO.q 2 I ?_)
 rcases bt (aa.2.1) with ag | ag
 refine AO.known 198 I ag (AO.q 5 I (AO.nil ?_))
 exact lf ⟨I, I⟩ ⟨(get_b (by (try simp only [U]); (try simp only [O, S, Y, U, ag, bz]))), I, I, I, I, I, I, I, J⟩ [0, 1, 2, 3, 4, 5] I
 refine AO.known 198 I ag (AO.q 5 I (AO.nil ?_))
 exact lf ⟨I, I⟩ ⟨(get_b (by (try simp only [U]); (try simp only [O, S, Y, U, ag, bz]))), I, I, I, I, I, I, I, J⟩ [0, 1, 2, 3, 4, 5] I
 rintro s ob ⟨rfl, rfl⟩
 refine AW.ch h I ?_ ?_
 intro df h
 refine AW.z I ?_
 obtain rfl := a9 _ (oi h).symm
 replace h := a7
 replace h := se_l h
 refine AW.ghost g0 ?_
 obtain rfl := oi h
 exact AW.ret pr
 intro df h
 refine AW.skip (AW.region (AO.q 3 I ?_))
 obtain rfl := oi h
 refine AO.nil ?_
 exact ⟨_, _, _, I, ⟨I, I⟩, ⟨I, I, I, I, I, I, I, J⟩, [0, 1, 2, 3, 4, 5], I, by decide⟩
 intro c7 h
 obtain rfl := a9 _ (oi h).symm
 replace h := a7
 replace h := se_r h
 refine AW.exit ?_
 exact lg ⟨(), h, I, I⟩ [0, 2, 3, 4, 5]
 rintro s ob ⟨a6, h, rfl, rfl⟩
 unfold L.zkdd.J3 at h
 refine AW.seqG (fun ej dg => ?_)
 obtain ⟨bb, dh, h⟩ := ob_some h
 obtain ⟨ax, di, h⟩ := ob_some h
 refine AW.rd (.still 0 (.still 1 (.still 2 (.still 4 (.still 5 (.still 6 (.still 7 (.act 3 (.act 8 (.still 9 (.still 10 (.still 11 (.still 12 (.still 13 (.still 14 (.still 15 .nil)))))))))))))))) [0, 2] [_, _] I (AP.r 7 [.o 0 0, .o 2 1, .f 5 (.V bb)] I ⟨Yp.yd (Yp.binI (c := bb) I I (quo_some dh)), I, I, J⟩ (AP.act [] I I I (AX.lt 1 (([7, 0] : List Int).map rI) (AP.act [] I I I (AX.callL I (.refl _) I I (.cons (.agg (.cons (.refl _) (.cons (.refl _) (.cons (.refl _) (.cons (.nil _) (.rest _)))))) (.cons (.us 4 I) (.cons (.agg (.cons (.us 3 I) (.cons (.us 1 I) (.cons (.nil _) (.rest _))))) (.rest _)))) I (L.zlie_ok _ _ _ _ _ _ _ _ di) dS (by rintro _ _ ⟨rfl, _⟩; rfl) ?_)))))
 rintro _ ⟨_, rfl, -⟩
 refine AP.q 7 I (AP.ofAO (AO.nil ?_))
 subst dg
 refine AW.seqG (fun ek dj => ?_)
 obtain ⟨bc, dk, h⟩ := ob_some h
 refine AW.region (AO.q 2 I (AO.c (L.zdws_ok _ _ _ dk) (AO.q 5 I (AO.nil ?_))))
 subst dj
 refine AW.cutX (fun s ob => ∃ (ay : Bool), L.zkdd.J4 ay = some r ∧ s = [(4, .v (.bool ay))] ∧ ob = []) [] J ?_ ?_
 refine AW.region (AO.q 3 I ?_)
 rcases bt ((ax.2.2 == 0)) with ah | ah
 replace h := ife_t ah h
 refine AO.known 225 I ah ?_
 rcases bt ((bc.2 == 0)) with Z | Z
 replace h := ife_t Z h
 rcases bt (ax.2.1) with ab | ab
 replace h := ife_t ab h
 rcases bt ((ax.1 == bc.1)) with ai | ai
 replace h := ife_t ai h
 obtain ⟨dl, dm, h⟩ := ob_some h
 refine AO.q 4 I (AO.known 229 I Z (AO.q 3 I (AO.known 232 I ab (AO.q 5 I (AO.known 237 I ai (AO.gt I I I (AO.c (L.zuro_ok  _ dm) (AO.q 2 I (AO.nil ?_)))))))))
 exact lg ⟨dl, h, I, I⟩ []
 replace h := ife_f ai h
 refine AO.q 4 I (AO.known 229 I Z (AO.q 3 I (AO.known 232 I ab (AO.q 5 I (AO.known 237 I ai (AO.q 3 I (AO.nil ?_)))))))
 exact lg ⟨false, h, I, I⟩ []
 replace h := ife_f ab h
 refine AO.q 4 I (AO.known 229 I Z (AO.q 3 I (AO.known 232 I ab (AO.q 8 I (AO.nil ?_)))))
 exact lg ⟨false, h, I, I⟩ []
 replace h := ife_f Z h
 refine AO.q 4 I (AO.known 229 I Z (AO.q 11 I (AO.nil ?_)))
 exact lg ⟨false, h, I, I⟩ []
 replace h := ife_f ah h
 refine AO.known 225 I ah (AO.q 15 I (AO.nil ?_))
 exact lg ⟨false, h, I, I⟩ []
 rintro s ob ⟨ay, h, rfl, rfl⟩
 unfold L.zkdd.J4 at h
 obtain rfl := oi h
 exact AW.ret pr
end Go.Proofs.Ytaliejncdnegeaa
