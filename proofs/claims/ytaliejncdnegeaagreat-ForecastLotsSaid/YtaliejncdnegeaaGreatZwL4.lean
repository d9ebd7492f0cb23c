/- Walks that show what functions of the program compute; printed by a program of ours. No condition. -/
import Derived.Test.YtaliejncdnegeaaGreatZwL1
set_option maxRecDepth 100000
namespace Go.Proofs.YtaliejncdnegeaaGreat
open Go.Aw
set_option linter.unusedVariables false
set_option linter.unusedSimpArgs false
set_option maxHeartbeats 4000000
theorem L.ziti_ok (a : List Int) (r : KS) (h : L.ziti a = some r) : ACalls Tryz.env 9 [.list 1 (a.map rI)] [] (fun x new => ∃ (c : Nat), x = .v (.pointer (some ⟨c, 0, none⟩)) ∧ new = [.arr c 86 2 1 [KS.row r]]) := by
 refine ACalls.of_body Tryz.func9 rfl rfl rfl (fun C hC => ?_)
 unfold L.ziti at h
 refine AW.z I (AW.seq ?_)
 obtain ⟨b, e, h⟩ := ob_some h
 obtain ⟨f, g, i, j, k, n, o⟩ := sub_some e
 refine AW.region (AO.r 4 [.l 2 (a.length : Int)] I ⟨len_m, J⟩ (AO.p (Yp.subL f g 0 I I I I I (bnd0 i) ⟨_, _, I, j⟩ I k n o) I (AO.p (Yp.buildP (l := [.list 1 (b.map rI), .V 0]) Tryz.bld86 I) I (AO.act [] I (AX.box (cs := [.list 1 (b.map rI), .V 0]) (m := 2) I I I dS (fun d => (AO.q 1 I (AO.nil ?_))))))))
 obtain rfl := oi h
 exact AW.ret ⟨.inr I, [_], [.arr d 86 2 1 [[.list 1 (b.map rI), .V 0]]], ⟨I, J⟩, sl_c I (sl_n), ⟨d, I, I⟩⟩
theorem L.zxpl_ok (b : Nat) (a : KS) (r : Int × KS) (h : L.zxpl a = some r) : ACalls Tryz.env 52 [.v (.pointer (some ⟨b, 0, none⟩))] [.arr b 86 2 1 [KS.row a]] (Gives 1 (fun x os new => x = .V r.1 ∧ os = [.arr b 86 2 1 [KS.row r.2]] ∧ new = [])) := by
 refine ACalls.of_body Tryz.func52 rfl rfl rfl (fun C hC => ?_)
 unfold L.zxpl at h
 refine AW.z I (AW.seqG (fun k d => (AW.dz (pd 10 0 []) [0] [_] [.o 3 0, .o 7 0, .l 8 (a.L_.length : Int)] I I ⟨len_m, I, I, J⟩ (AW.ch h I ?_ ?_))))
 intro e h
 refine AW.z I ?_
 obtain rfl := oi h
 exact AW.ret ⟨.inr I, [_], [.arr b 86 2 1 [KS.row a]], ⟨I, J⟩, sl_c I (sl_n), ⟨[.arr b 86 2 1 [KS.row a]], [], I, I, I, I, I⟩⟩
 intro e h
 refine AW.skip ?_
 subst d
 refine AW.seqG (fun m f => (AW.region (AO.r 7 [.o 3 0] I ⟨I, J⟩ (AO.act [0] I (AX.store 0 0 1 (es' := [[.list 1 (a.L_.map rI), .V (wr (a.At + 1))]]) I I I I I I I I (le_ble I) I I (AO.nil ?_))))))
 subst f
 refine AW.seq ?_
 obtain ⟨c, g, h⟩ := ob_some h
 obtain ⟨i, j⟩ := ix_some g
 refine AW.dt (pd 12 0 []) [0] [_] [.o 3 0, .o 7 0, .x 9 c.1 (rI c.2)] I I ⟨⟨i, map_get j⟩, I, I, J⟩ ?_
 obtain rfl := oi h
 exact AW.ret ⟨.inr I, [_], [.arr b 86 2 1 [[.list 1 (a.L_.map rI), .V (wr (a.At + 1))]]], ⟨I, J⟩, sl_c I (sl_n), ⟨[.arr b 86 2 1 [[.list 1 (a.L_.map rI), .V (wr (a.At + 1))]]], [], I, I, I, I, I⟩⟩
theorem L.zdjb_ok (a : Nat) (b : KS) (d : Int) (r : Int × KS) (h : L.zdjb b d = some r) : ACalls Tryz.env 20 [.v (.pointer (some ⟨a, 0, none⟩)), .V d] [.arr a 86 2 1 [KS.row b]] (Gives 1 (fun x os new => x = .V r.1 ∧ os = [.arr a 86 2 1 [KS.row r.2]] ∧ new = [])) := by
 refine ACalls.of_body Tryz.func20 rfl rfl rfl (fun C hC => ?_)
 unfold L.zdjb at h
 refine AW.z I (AW.seq ?_)
 obtain ⟨e, f, h⟩ := ob_some h
 obtain ⟨i, g, h⟩ := ob_some h
 refine AW.region (AO.q 1 I (AO.act [0] I (AX.c0 [0] (L.zxpl_ok a _ _ f) ?_)))
 refine AO.q 1 I (AO.c (L.zbjp_ok _ _ _ g) (AO.q 1 I (AO.nil ?_)))
 obtain rfl := oi h
 exact AW.ret ⟨.inr I, [_], [.arr a 86 2 1 [KS.row e.2]], ⟨I, J⟩, sl_c I (sl_n), ⟨[.arr a 86 2 1 [KS.row e.2]], [], I, I, I, I, I⟩⟩
theorem L.ziuk_ok (a : Nat) (b : KS) (c : Int) (d : Int) (r : Int × KS) (h : L.ziuk b c d = some r) : ACalls Tryz.env 11 [.v (.pointer (some ⟨a, 0, none⟩)), .V c, .V d] [.arr a 86 2 1 [KS.row b]] (Gives 1 (fun x os new => x = .V r.1 ∧ os = [.arr a 86 2 1 [KS.row r.2]] ∧ new = [])) := by
 refine ACalls.of_body Tryz.func11 rfl rfl rfl (fun C hC => ?_)
 unfold L.ziuk at h
 refine AW.z I (AW.seq ?_)
 obtain ⟨e, f, h⟩ := ob_some h
 refine AW.region (AO.q 6 I (AO.act [0] I (AX.c0 [0] (L.zdjb_ok a _ _ _ f) ?_)))
 refine AO.q 2 I (AO.nil ?_)
 obtain rfl := oi h
 exact AW.ret ⟨.inr I, [_], [.arr a 86 2 1 [KS.row e.2]], ⟨I, J⟩, sl_c I (sl_n), ⟨[.arr a 86 2 1 [KS.row e.2]], [], I, I, I, I, I⟩⟩
end Go.Proofs.YtaliejncdnegeaaGreat
