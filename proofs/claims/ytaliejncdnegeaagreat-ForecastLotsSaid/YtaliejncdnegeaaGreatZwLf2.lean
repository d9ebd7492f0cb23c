/- Walks that show what functions of the program compute; printed by a program of ours. No condition. -/
import Derived.Test.YtaliejncdnegeaaGreatZwLf1
set_option maxRecDepth 100000
namespace Go.Proofs.YtaliejncdnegeaaGreat
open Go.Aw
set_option linter.unusedVariables false
set_option linter.unusedSimpArgs false
set_option maxHeartbeats 4000000
theorem L.zvce_ok (a : Int) (r : Network) (h : L.zvce a = r) : ACalls Tryz.env 10 [.V a] [] (fun x new => x = .agg (Network.row r) ∧ new = []) := by
 refine ACalls.of_body Tryz.func10 rfl rfl rfl (fun C hC => ?_)
 unfold L.zvce at h
 refine AW.seqG (fun o g => (AW.region (AO.act [] I (AX.alloc (cs := [.N, .N, .N, .N, .V 0, .V 0]) (m := 6) I I I I I dS (fun c => (AO.nil ?_))))))
 subst g
 refine AW.seq (AW.region (AO.act [] I (AX.buildSlice (sz := 1) (es := ([(⟨#[97]⟩ : ByteArray), (⟨#[98]⟩ : ByteArray)] : List ByteArray).map rS) I I I I I I I I I I I dS (fun b => (AO.q 1 I (AO.p (Yp.buildP (l := [.V 0, .V 0, .V 1000000]) Tryz.bld88 I) I (AO.q 1 I (AO.p (Yp.buildP (l := [.V a, .V 0, .V 1000000]) Tryz.bld88 I) I (AO.act [] I (AX.buildSlice (sz := 3) (es := ([(⟨0, 0, 1000000⟩ : Point), (⟨a, 0, 1000000⟩ : Point)] : List Point).map Point.row) I I I I I I I I I I I dS (fun f => (AO.one 2 I (fun i => (AO.p (Yp.buildP (l := [.v (.string (⟨#[103]⟩ : ByteArray)), .V 0, .V 1, .V a, .V 0, .V 0, .v f]) Tryz.bld39 (fill_step I I I I (fill_step I I I I (fill_step I I I I (fill_step I I I I (fill_step I I (cells_v i) I (fill_nil))))))) I (AO.ghost (Ghost.freeze [2] (K := [.us f 88 3 (([(⟨0, 0, 1000000⟩ : Point), (⟨a, 0, 1000000⟩ : Point)] : List Point).map Point.row)]) I [(8, .list 3 (([(⟨0, 0, 1000000⟩ : Point), (⟨a, 0, 1000000⟩ : Point)] : List Point).map Point.row)), (9, .agg [.v (.string (⟨#[103]⟩ : ByteArray)), .V 0, .V 1, .V a, .V 0, .V 0, .list 3 (([(⟨0, 0, 1000000⟩ : Point), (⟨a, 0, 1000000⟩ : Point)] : List Point).map Point.row)])] ⟨⟨_, I, .us 0 I⟩, ⟨_, I, .agg (.cons (.refl _) (.cons (.refl _) (.cons (.refl _) (.cons (.refl _) (.cons (.refl _) (.cons (.refl _) (.cons (.us 0 I) (.rest _))))))))⟩, J⟩ (ob' := [.arr c 32 6 1 [[.N, .N, .N, .N, .V 0, .V 0]], .us b 9 1 (([(⟨#[97]⟩ : ByteArray), (⟨#[98]⟩ : ByteArray)] : List ByteArray).map rS)]) (.rest _)) ?_)))))))))))))))
 refine AO.act [] I (AX.buildSlice (sz := 7) (es := ([(⟨(⟨#[103]⟩ : ByteArray), 0, 1, a, 0, 0, ([(⟨0, 0, 1000000⟩ : Point), (⟨a, 0, 1000000⟩ : Point)] : List Point)⟩ : Segment)] : List Segment).map Segment.row) I I I I I I I I I I I dS (fun d => (AO.p (Yp.buildP (l := [.v (.string (⟨#[112]⟩ : ByteArray)), .V 0, .V 300000]) Tryz.bld90 I) I (AO.p (Yp.buildP (l := [.v (.string (⟨#[113]⟩ : ByteArray)), .V 1, .V 0]) Tryz.bld90 I) I (AO.act [] I (AX.buildSlice (sz := 3) (es := ([(⟨(⟨#[112]⟩ : ByteArray), 0, 300000⟩ : Port), (⟨(⟨#[113]⟩ : ByteArray), 1, 0⟩ : Port)] : List Port).map Port.row) I I I I I I I I I I I dS (fun e => (AO.one 1 I (fun j => (AO.one 2 I (fun k => (AO.one 3 I (fun n => (AO.p (Yp.buildP (l := [.v b, .v d, .v e, .N, .V 0, .V 0]) Tryz.bld32 (fill_step I I (cells_v j) I (fill_step I I (cells_v k) I (fill_step I I (cells_v n) I (fill_nil))))) I (AO.act [0] I (AX.store 0 0 0 (es' := [[.v b, .v d, .v e, .N, .V 0, .V 0]]) I I I I I I I I (le_ble I) I I (AO.nil (AW.ghost (Ghost.freeze [1, 2, 3] (K := [.us b 9 1 (([(⟨#[97]⟩ : ByteArray), (⟨#[98]⟩ : ByteArray)] : List ByteArray).map rS), .us d 39 7 (([(⟨(⟨#[103]⟩ : ByteArray), 0, 1, a, 0, 0, ([(⟨0, 0, 1000000⟩ : Point), (⟨a, 0, 1000000⟩ : Point)] : List Point)⟩ : Segment)] : List Segment).map Segment.row), .us e 90 3 (([(⟨(⟨#[112]⟩ : ByteArray), 0, 300000⟩ : Port), (⟨(⟨#[113]⟩ : ByteArray), 1, 0⟩ : Port)] : List Port).map Port.row)]) I [(3, .list 1 (([(⟨#[97]⟩ : ByteArray), (⟨#[98]⟩ : ByteArray)] : List ByteArray).map rS)), (10, .list 7 (([(⟨(⟨#[103]⟩ : ByteArray), 0, 1, a, 0, 0, ([(⟨0, 0, 1000000⟩ : Point), (⟨a, 0, 1000000⟩ : Point)] : List Point)⟩ : Segment)] : List Segment).map Segment.row)), (13, .list 3 (([(⟨(⟨#[112]⟩ : ByteArray), 0, 300000⟩ : Port), (⟨(⟨#[113]⟩ : ByteArray), 1, 0⟩ : Port)] : List Port).map Port.row)), (14, .agg [.list 1 (([(⟨#[97]⟩ : ByteArray), (⟨#[98]⟩ : ByteArray)] : List ByteArray).map rS), .list 7 (([(⟨(⟨#[103]⟩ : ByteArray), 0, 1, a, 0, 0, ([(⟨0, 0, 1000000⟩ : Point), (⟨a, 0, 1000000⟩ : Point)] : List Point)⟩ : Segment)] : List Segment).map Segment.row), .list 3 (([(⟨(⟨#[112]⟩ : ByteArray), 0, 300000⟩ : Port), (⟨(⟨#[113]⟩ : ByteArray), 1, 0⟩ : Port)] : List Port).map Port.row), .list 5 ([].map Station.row), .V 0, .V 0])] ⟨⟨_, I, .us 0 I⟩, ⟨_, I, .us 1 I⟩, ⟨_, I, .us 2 I⟩, ⟨_, I, .agg (.cons (.us 0 I) (.cons (.us 1 I) (.cons (.us 2 I) (.cons (.nil _) (.rest _)))))⟩, J⟩ (ob' := [.arr c 32 6 1 [[.list 1 (([(⟨#[97]⟩ : ByteArray), (⟨#[98]⟩ : ByteArray)] : List ByteArray).map rS), .list 7 (([(⟨(⟨#[103]⟩ : ByteArray), 0, 1, a, 0, 0, ([(⟨0, 0, 1000000⟩ : Point), (⟨a, 0, 1000000⟩ : Point)] : List Point)⟩ : Segment)] : List Segment).map Segment.row), .list 3 (([(⟨(⟨#[112]⟩ : ByteArray), 0, 300000⟩ : Port), (⟨(⟨#[113]⟩ : ByteArray), 1, 0⟩ : Port)] : List Port).map Port.row), .N, .V 0, .V 0]]]) (.cons (.arr (.cons (.us 0 I) (.cons (.us 1 I) (.cons (.us 2 I) (.rest _))))) (.rest _))) ?_))))))))))))))))))
 refine AW.ghost (Ghost.freeze [] (K := []) I [] J (ob' := [.arr c 32 6 1 [[.list 1 (([(⟨#[97]⟩ : ByteArray), (⟨#[98]⟩ : ByteArray)] : List ByteArray).map rS), .list 7 (([(⟨(⟨#[103]⟩ : ByteArray), 0, 1, a, 0, 0, ([(⟨0, 0, 1000000⟩ : Point), (⟨a, 0, 1000000⟩ : Point)] : List Point)⟩ : Segment)] : List Segment).map Segment.row), .list 3 (([(⟨(⟨#[112]⟩ : ByteArray), 0, 300000⟩ : Port), (⟨(⟨#[113]⟩ : ByteArray), 1, 0⟩ : Port)] : List Port).map Port.row), .list 5 ([].map Station.row), .V 0, .V 0]]]) (.cons (.arr (.cons (.refl _) (.cons (.refl _) (.cons (.refl _) (.cons (.nil _) (.rest _)))))) (.rest _))) ?_
 obtain rfl := h
 exact AW.ret ⟨.inr I, [_], [], ⟨⟨0, _, _, _, _, _, _, _, I, I, I, I, I⟩, J⟩, sl_n, I, I⟩
theorem L.zuro_ok  (r : Bool) (h : L.zuro = some r) : ACalls Tryz.env 8 [] [] (fun x new => x = .v (.bool r) ∧ new = []) := by
 refine ACalls.of_body Tryz.func8 rfl rfl rfl (fun C hC => ?_)
 unfold L.zuro at h
 refine AW.z I (AW.seqG (fun Q t => (AW.region (AO.act [] I (AX.call0 I I I (L.zvce_ok 100 _ I) dS ?_)))))
 rintro _ _ ⟨rfl, rfl⟩
 refine AO.act [] I (AX.alloc (cs := [.N, .N, .N, .N, .V 0, .V 0]) (m := 6) I I I I I dS (fun u => (AO.act [0] I (AX.store 0 0 0 (es' := [Network.row (L.zvce 100)]) I I I I I I I I (le_ble I) I I (AO.nil ?_)))))
 subst t
 refine AW.seqG (fun R w => (AW.region (AO.p (Yp.buildP (l := [.V 1, .V 30]) Tryz.bld66 I) I (AO.p (Yp.buildP (l := [.V 2, .V 70]) Tryz.bld66 I) I (AO.act [] I (AX.buildSlice (sz := 2) (es := ([(⟨1, 30⟩ : Piece), (⟨2, 70⟩ : Piece)] : List Piece).map Piece.row) I I I I I I I I I I I dS (fun y => (AO.ghost (Ghost.freeze [1] (K := [.us y 66 2 (([(⟨1, 30⟩ : Piece), (⟨2, 70⟩ : Piece)] : List Piece).map Piece.row)]) I [(14, .list 2 (([(⟨1, 30⟩ : Piece), (⟨2, 70⟩ : Piece)] : List Piece).map Piece.row))] ⟨⟨_, I, .us 0 I⟩, J⟩ (ob' := [.arr u 32 6 1 [Network.row (L.zvce 100)]]) (.rest _)) (AO.act [] I (AX.buildSlice (sz := 1) (es := ([([(⟨1, 30⟩ : Piece), (⟨2, 70⟩ : Piece)] : List Piece)] : List (List Piece)).map (rL 2 Piece.row)) I I I I I I I I I I I dS (fun S => (AO.q 1 I (AO.nil ?_)))))))))))))
 subst w
 refine AW.seqG (fun U A => ?_)
 obtain ⟨g, B, h⟩ := ob_some h
 refine AW.region (AO.r 2 [.o 0 0] I ⟨I, J⟩ (AO.p (Yp.buildP (l := [.V 0, .v (.bool false)]) Tryz.bld50 I) I (AO.act [] I (AX.lt 2 (([(⟨0, false⟩ : Hop)] : List Hop).map Hop.row) (AO.act [] I (AX.callL I (.refl _) I I (.cons (.refl _) (.cons (.us 1 I) (.rest _))) I (L.zeyd_ok _ _ _ _ _ B) dS (by rintro _ _ ⟨rfl, _⟩; rfl) ?_))))))
 rintro _ ⟨_, rfl, -⟩
 refine AO.q 7 I (AO.nil ?_)
 subst A
 refine AW.seqG (fun W D => ?_)
 obtain ⟨n, E, h⟩ := ob_some h
 refine AW.region (AO.q 1 I (AO.c (L.zdws_ok _ _ _ E) (AO.q 5 I (AO.nil ?_))))
 subst D
 refine AW.seqG (fun X F => ?_)
 obtain ⟨j, G, h⟩ := ob_some h
 refine AW.region (AO.r 2 [.o 0 0] I ⟨I, J⟩ (AO.act [] I (AX.buildSlice (sz := 1) (es := ([8] : List Int).map rI) I I I I I I I I I I I dS (fun H => (AO.act [] I (AX.buildSlice (sz := 1) (es := ([8, (-8)] : List Int).map rI) I I I I I I I I I I I dS (fun M => (AO.one 2 I (fun O => (AO.one 3 I (fun P => (AO.p (Yp.buildP (l := [.v H, .v M, .N]) Tryz.bld46 (fill_step I I (cells_v O) I (fill_step I I (cells_v P) I (fill_nil)))) I (AO.act [] I (AX.lt 1 (([3, 0] : List Int).map rI) (AO.act [] I (AX.callL I (.refl _) I I (.cons (.refl _) (.cons (.us 1 I) (.cons (.agg (.cons (.us 2 I) (.cons (.us 3 I) (.cons (.nil _) (.rest _))))) (.rest _)))) I (L.zlie_ok _ _ _ _ _ _ _ _ G) dS (by rintro _ _ ⟨rfl, _⟩; rfl) ?_))))))))))))))))
 rintro _ ⟨_, rfl, -⟩
 refine AO.q 7 I (AO.nil ?_)
 subst F
 refine AW.cutX (fun s ob => s = [(0, .v (.bool ((g.2.2 == 0) && ((n.2 == 0) && ((j.2.2 == 0) && (g.2.1 && (j.2.1 && ((g.1 == 70) && ((n.1 == 8) && (j.1 == 8))))))))))] ∧ ob = []) [] J ?_ ?_
 refine AW.region (AO.q 3 I ?_)
 rcases bt ((g.2.2 == 0)) with a | a
 refine AO.known 43 I a (AO.q 4 I ?_)
 rcases bt ((n.2 == 0)) with b | b
 refine AO.known 47 I b (AO.q 4 I ?_)
 rcases bt ((j.2.2 == 0)) with d | d
 refine AO.known 51 I d (AO.q 3 I ?_)
 rcases bt (g.2.1) with e | e
 refine AO.known 54 I e (AO.q 3 I ?_)
 rcases bt (j.2.1) with f | f
 refine AO.known 57 I f (AO.q 4 I ?_)
 rcases bt ((g.1 == 70)) with i | i
 refine AO.known 61 I i (AO.q 4 I ?_)
 rcases bt ((n.1 == 8)) with k | k
 refine AO.known 65 I k (AO.q 4 I (AO.nil ?_))
 exact lf ⟨I, I⟩ ⟨(get_b (by simp only [a, b, d, e, f, i, k, bz])), J⟩ [] I
 refine AO.known 65 I k (AO.q 4 I (AO.nil ?_))
 exact lf ⟨I, I⟩ ⟨(get_b (by simp only [a, b, d, e, f, i, k, bz])), J⟩ [] I
 refine AO.known 61 I i (AO.q 8 I (AO.nil ?_))
 exact lf ⟨I, I⟩ ⟨(get_b (by simp only [a, b, d, e, f, i, bz])), J⟩ [] I
 refine AO.known 57 I f (AO.q 12 I (AO.nil ?_))
 exact lf ⟨I, I⟩ ⟨(get_b (by simp only [a, b, d, e, f, bz])), J⟩ [] I
 refine AO.known 54 I e (AO.q 15 I (AO.nil ?_))
 exact lf ⟨I, I⟩ ⟨(get_b (by simp only [a, b, d, e, bz])), J⟩ [] I
 refine AO.known 51 I d (AO.q 18 I (AO.nil ?_))
 exact lf ⟨I, I⟩ ⟨(get_b (by simp only [a, b, d, bz])), J⟩ [] I
 refine AO.known 47 I b (AO.q 22 I (AO.nil ?_))
 exact lf ⟨I, I⟩ ⟨(get_b (by simp only [a, b, bz])), J⟩ [] I
 refine AO.known 43 I a (AO.q 26 I (AO.nil ?_))
 exact lf ⟨I, I⟩ ⟨(get_b (by simp only [a, bz])), J⟩ [] I
 rintro s ob ⟨rfl, rfl⟩
 obtain rfl := oi h
 exact AW.ret pr
end Go.Proofs.YtaliejncdnegeaaGreat
