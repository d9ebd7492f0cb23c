/- Walks that show what functions of the program compute; printed by a program of ours. No condition. -/
import Derived.Test.YtodeekicjiengaaGreatDoorYvL3s
set_option maxRecDepth 100000
namespace Go.Proofs.YtodeekicjiengaaGreatDoor
open Go.Aw
set_option linter.unusedVariables false
set_option linter.unusedSimpArgs false
set_option maxHeartbeats 4000000
theorem T2  (r : Nw) (h : Vj = some r) : ACalls Aj 32 [] [] (fun x new => x = .agg (Ab r) ∧ new = []) := by
 refine Ad Tryz.func32 I I I fun C hC => ?_
 unfold Vj at h
 refine Aa fun Y E => sH (sJ [] I (sS W3 6 fun g => sI ?_))
 subst E
 refine Aa fun Z F => sH (sJ [] I (sX (sz := 1) (es := ([(⟨#[97]⟩ : Bt), (⟨#[98]⟩ : Bt), (⟨#[99]⟩ : Bt)] : List Bt).map rS) I I I I I I I I I I I dS fun b => sT (Au (l := [.v (.string (⟨#[105, 110]⟩ : Bt)), .V 0, .V 1000000]) H6 I) I (sT (Au (l := [.v (.string (⟨#[111, 117, 116]⟩ : Bt)), .V 2, .V 0]) H6 I) I (sJ [] I (sX (sz := 3) (es := ([(⟨(⟨#[105, 110]⟩ : Bt), 0, 1000000⟩ : Port), (⟨(⟨#[111, 117, 116]⟩ : Bt), 2, 0⟩ : Port)] : List Port).map Cb) I I I I I I I I I I I dS fun c => tE 1 I fun G => tE 2 I fun H => sT (Au (l := [.v b, .N, .v c, .N, .V 0, .V 5]) H7 (As I I (A7 G) I (As I I I I (As I I (A7 H) I (Cv))))) I (sJ [] I (sS W3 6 fun i => sJ [3] I (A3 3 0 0 [[.v b, .N, .v c, .N, .V 0, .V 5]] I (sI ?_)))))))))
 subst F
 refine Ai (fun s ob => ∃ (t : List Sg) (j : Value), Vj.J1 t = some r ∧ s = [] ∧ ob = [O0 g [W3], .us b 9 1 (([(⟨#[97]⟩ : Bt), (⟨#[98]⟩ : Bt), (⟨#[99]⟩ : Bt)] : List Bt).map rS), .us c 68 3 (([(⟨(⟨#[105, 110]⟩ : Bt), 0, 1000000⟩ : Port), (⟨(⟨#[111, 117, 116]⟩ : Bt), 2, 0⟩ : Port)] : List Port).map Cb), O0 i [[.v b, .v j, .v c, .N, .V 0, .V 5]], U5 j t]) [(0, _), (1, _)] J2 ?_ ?_
 refine Ah I (sM (sP (Bv 64 7) ?_))
 obtain ⟨aa, M, O⟩ := Ac h
 clear h
 refine Cs M [(0, _), (1, _)] J2 (fun (a : (List Sg) × Int) s ob => ∃ (e : Value), s = [(2, .V a.2)] ∧ ob = [O0 g [W3], .us b 9 1 (([(⟨#[97]⟩ : Bt), (⟨#[98]⟩ : Bt), (⟨#[99]⟩ : Bt)] : List Bt).map rS), .us c 68 3 (([(⟨(⟨#[105, 110]⟩ : Bt), 0, 1000000⟩ : Port), (⟨(⟨#[111, 117, 116]⟩ : Bt), 2, 0⟩ : Port)] : List Port).map Cb), O0 i [[.v b, .v e, .v c, .N, .V 0, .V 5]], U5 e a.1]) ⟨(.slice none 0 0), I2⟩ ⟨I, J⟩ ⟨[0, 1, 2, 3, 4], I, by decide⟩ ?_
 rintro a P s ob ⟨e, rfl, rfl⟩ h Q
 refine Aa fun ab R => Ah I (Ar h I ?_ ?_)
 intro S h
 refine sL ?_
 subst R
 refine Ai (fun s ob => ∃ (A : List Sg) (w : Value), Vj.J3 a A = some P ∧ s = [] ∧ ob = [O0 g [W3], .us b 9 1 (([(⟨#[97]⟩ : Bt), (⟨#[98]⟩ : Bt), (⟨#[99]⟩ : Bt)] : List Bt).map rS), .us c 68 3 (([(⟨(⟨#[105, 110]⟩ : Bt), 0, 1000000⟩ : Port), (⟨(⟨#[111, 117, 116]⟩ : Bt), 2, 0⟩ : Port)] : List Port).map Cb), O0 i [[.v b, .v w, .v c, .N, .V 0, .V 5]], U5 w A]) [(0, _), (1, _), (2, _)] J3 ?_ ?_
 refine sM ?_
 obtain ⟨d, ⟨B, k⟩, h⟩ := A5 h
 obtain ⟨U, W, h⟩ := Ac h
 refine By (.still 0 (.still 1 (.still 3 (sl 8 6 (.two 2 14 (.two 4 14 (.two 5 14 (.act 14 (.still 15 (.act 16 (.act 17 (.still 18 (.drop 19 .nil)))))) (.act 5 (.still 15 (.act 16 (.act 17 (.still 18 (.drop 19 .nil))))))) (.act 4 (.act 5 (.still 15 (.act 16 (.act 17 (.still 18 (.drop 19 .nil)))))))) (.act 2 (.act 4 (.act 5 (.still 15 (.act 16 (.act 17 (.still 18 (.drop 19 .nil))))))))))))) [3] [_] I (B8 9 [.o 1 0] I J1 (sY I (Au (l := [.V 0, .V 0, .V 2000000]) E7 I) I (sY I (Au (l := [.V 100, .V 0, .V 2000000]) E7 I) I (sW ?_ ?_))))
 refine sK [] I I I (sX (sz := 1) (es := ([(⟨#[120]⟩ : Bt), (⟨#[121]⟩ : Bt)] : List Bt).map rS) I I I I I I I I I I I dS fun u => sW ?_ ?_)
 refine sK [] I I I (Ce (Bm 5 (m := d.1) I I I I I I I B (Ae k)) dS (sW ?_ ?_))
 refine sK [] I I I (Ce (Bl 5 d.1 0 I I I (Ae k) I (y := .v (.string d.2)) I) dS (sK [] I I I (sX (sz := 3) (es := ([(⟨0, 0, 2000000⟩ : Point), (⟨100, 0, 2000000⟩ : Point)] : List Point).map Bi) I I I I I I I I I I I dS fun f => sU 6 I fun n => tC I (Au (l := [.v (.string d.2), .V a.2, .V (wr (a.2 + 1)), .V 100, .V 0, .V (wr (10 + (wr (10 * a.2)))), .v f]) Gz (As I I I I (As I I I I (As I I I I (As I I I I (As I I I I (As I I (A7 n) I (Cv)))))))) I (Cw (Bk [6] (K := [.us f 102 3 (([(⟨0, 0, 2000000⟩ : Point), (⟨100, 0, 2000000⟩ : Point)] : List Point).map Bi)]) I [(26, .list 3 (([(⟨0, 0, 2000000⟩ : Point), (⟨100, 0, 2000000⟩ : Point)] : List Point).map Bi)), (27, .agg [.v (.string d.2), .V a.2, .V (wr (a.2 + 1)), .V 100, .V 0, .V (wr (10 + (wr (10 * a.2)))), .list 3 (([(⟨0, 0, 2000000⟩ : Point), (⟨100, 0, 2000000⟩ : Point)] : List Point).map Bi)])] ⟨⟨_, I, .us 0 I⟩, ⟨_, I, .agg (.cons (.refl _) (.cons (.refl _) (.cons (.refl _) (.cons (.refl _) (.cons (.refl _) (.cons (.refl _) (.cons (.us 0 I) (.rest _))))))))⟩, J⟩ (ob' := [O0 g [W3], .us b 9 1 (([(⟨#[97]⟩ : Bt), (⟨#[98]⟩ : Bt), (⟨#[99]⟩ : Bt)] : List Bt).map rS), .us c 68 3 (([(⟨(⟨#[105, 110]⟩ : Bt), 0, 1000000⟩ : Port), (⟨(⟨#[111, 117, 116]⟩ : Bt), 2, 0⟩ : Port)] : List Port).map Cb), O0 i [[.v b, .v e, .v c, .N, .V 0, .V 5]], U5 e a.1, .us u 9 1 (([(⟨#[120]⟩ : Bt), (⟨#[121]⟩ : Bt)] : List Bt).map rS)]) (.rest _)) I ?_))))
 rotate_left
 refine sK [] I I I (sX (sz := 3) (es := ([(⟨0, 0, 2000000⟩ : Point), (⟨100, 0, 2000000⟩ : Point)] : List Point).map Bi) I I I I I I I I I I I dS fun f => sK [] I I I (Ce (Bl 5 d.1 0 I I I (Ae k) I (y := .v (.string d.2)) I) dS (sU 6 I fun n => tC I (Au (l := [.v (.string d.2), .V a.2, .V (wr (a.2 + 1)), .V 100, .V 0, .V (wr (10 + (wr (10 * a.2)))), .v f]) Gz (As I I I I (As I I I I (As I I I I (As I I I I (As I I I I (As I I (A7 n) I (Cv)))))))) I (Cw (Bk [6] (K := [.us f 102 3 (([(⟨0, 0, 2000000⟩ : Point), (⟨100, 0, 2000000⟩ : Point)] : List Point).map Bi)]) I [(26, .list 3 (([(⟨0, 0, 2000000⟩ : Point), (⟨100, 0, 2000000⟩ : Point)] : List Point).map Bi)), (27, .agg [.v (.string d.2), .V a.2, .V (wr (a.2 + 1)), .V 100, .V 0, .V (wr (10 + (wr (10 * a.2)))), .list 3 (([(⟨0, 0, 2000000⟩ : Point), (⟨100, 0, 2000000⟩ : Point)] : List Point).map Bi)])] ⟨⟨_, I, .us 0 I⟩, ⟨_, I, .agg (.cons (.refl _) (.cons (.refl _) (.cons (.refl _) (.cons (.refl _) (.cons (.refl _) (.cons (.refl _) (.cons (.us 0 I) (.rest _))))))))⟩, J⟩ (ob' := [O0 g [W3], .us b 9 1 (([(⟨#[97]⟩ : Bt), (⟨#[98]⟩ : Bt), (⟨#[99]⟩ : Bt)] : List Bt).map rS), .us c 68 3 (([(⟨(⟨#[105, 110]⟩ : Bt), 0, 1000000⟩ : Port), (⟨(⟨#[111, 117, 116]⟩ : Bt), 2, 0⟩ : Port)] : List Port).map Cb), O0 i [[.v b, .v e, .v c, .N, .V 0, .V 5]], U5 e a.1, .us u 9 1 (([(⟨#[120]⟩ : Bt), (⟨#[121]⟩ : Bt)] : List Bt).map rS)]) (.rest _)) I ?_))))
 rotate_left
 refine sK [] I I I (sX (sz := 3) (es := ([(⟨0, 0, 2000000⟩ : Point), (⟨100, 0, 2000000⟩ : Point)] : List Point).map Bi) I I I I I I I I I I I dS fun f => sK [] I I I (Ce (Bm 5 (m := d.1) I I I I I I I B (Ae k)) dS (sK [] I I I (Ce (Bl 5 d.1 0 I I I (Ae k) I (y := .v (.string d.2)) I) dS (sU 6 I fun n => tC I (Au (l := [.v (.string d.2), .V a.2, .V (wr (a.2 + 1)), .V 100, .V 0, .V (wr (10 + (wr (10 * a.2)))), .v f]) Gz (As I I I I (As I I I I (As I I I I (As I I I I (As I I I I (As I I (A7 n) I (Cv)))))))) I (Cw (Bk [6] (K := [.us f 102 3 (([(⟨0, 0, 2000000⟩ : Point), (⟨100, 0, 2000000⟩ : Point)] : List Point).map Bi)]) I [(26, .list 3 (([(⟨0, 0, 2000000⟩ : Point), (⟨100, 0, 2000000⟩ : Point)] : List Point).map Bi)), (27, .agg [.v (.string d.2), .V a.2, .V (wr (a.2 + 1)), .V 100, .V 0, .V (wr (10 + (wr (10 * a.2)))), .list 3 (([(⟨0, 0, 2000000⟩ : Point), (⟨100, 0, 2000000⟩ : Point)] : List Point).map Bi)])] ⟨⟨_, I, .us 0 I⟩, ⟨_, I, .agg (.cons (.refl _) (.cons (.refl _) (.cons (.refl _) (.cons (.refl _) (.cons (.refl _) (.cons (.refl _) (.cons (.us 0 I) (.rest _))))))))⟩, J⟩ (ob' := [O0 g [W3], .us b 9 1 (([(⟨#[97]⟩ : Bt), (⟨#[98]⟩ : Bt), (⟨#[99]⟩ : Bt)] : List Bt).map rS), .us c 68 3 (([(⟨(⟨#[105, 110]⟩ : Bt), 0, 1000000⟩ : Port), (⟨(⟨#[111, 117, 116]⟩ : Bt), 2, 0⟩ : Port)] : List Port).map Cb), O0 i [[.v b, .v e, .v c, .N, .V 0, .V 5]], U5 e a.1, .us u 9 1 (([(⟨#[120]⟩ : Bt), (⟨#[121]⟩ : Bt)] : List Bt).map rS)]) (.rest _)) I ?_))))))
 rotate_left
 refine sK [] I I I (sX (sz := 3) (es := ([(⟨0, 0, 2000000⟩ : Point), (⟨100, 0, 2000000⟩ : Point)] : List Point).map Bi) I I I I I I I I I I I dS fun f => sK [] I I I (sX (sz := 1) (es := ([(⟨#[120]⟩ : Bt), (⟨#[121]⟩ : Bt)] : List Bt).map rS) I I I I I I I I I I I dS fun u => sK [] I I I (Ce (Bm 6 (m := d.1) I I I I I I I B (Ae k)) dS (sK [] I I I (Ce (Bl 6 d.1 0 I I I (Ae k) I (y := .v (.string d.2)) I) dS (sU 5 I fun n => tC I (Au (l := [.v (.string d.2), .V a.2, .V (wr (a.2 + 1)), .V 100, .V 0, .V (wr (10 + (wr (10 * a.2)))), .v f]) Gz (As I I I I (As I I I I (As I I I I (As I I I I (As I I I I (As I I (A7 n) I (Cv)))))))) I (Cw (Bk [5] (K := [.us f 102 3 (([(⟨0, 0, 2000000⟩ : Point), (⟨100, 0, 2000000⟩ : Point)] : List Point).map Bi)]) I [(26, .list 3 (([(⟨0, 0, 2000000⟩ : Point), (⟨100, 0, 2000000⟩ : Point)] : List Point).map Bi)), (27, .agg [.v (.string d.2), .V a.2, .V (wr (a.2 + 1)), .V 100, .V 0, .V (wr (10 + (wr (10 * a.2)))), .list 3 (([(⟨0, 0, 2000000⟩ : Point), (⟨100, 0, 2000000⟩ : Point)] : List Point).map Bi)])] ⟨⟨_, I, .us 0 I⟩, ⟨_, I, .agg (.cons (.refl _) (.cons (.refl _) (.cons (.refl _) (.cons (.refl _) (.cons (.refl _) (.cons (.refl _) (.cons (.us 0 I) (.rest _))))))))⟩, J⟩ (ob' := [O0 g [W3], .us b 9 1 (([(⟨#[97]⟩ : Bt), (⟨#[98]⟩ : Bt), (⟨#[99]⟩ : Bt)] : List Bt).map rS), .us c 68 3 (([(⟨(⟨#[105, 110]⟩ : Bt), 0, 1000000⟩ : Port), (⟨(⟨#[111, 117, 116]⟩ : Bt), 2, 0⟩ : Port)] : List Port).map Cb), O0 i [[.v b, .v e, .v c, .N, .V 0, .V 5]], U5 e a.1, .us u 9 1 (([(⟨#[120]⟩ : Bt), (⟨#[121]⟩ : Bt)] : List Bt).map rS)]) (.rest _)) I ?_)))))))
 any_goals
  refine sK [] I I I (sR 7 (([(⟨d.2, a.2, wr (a.2 + 1), 100, 0, wr (10 + (wr (10 * a.2))), ([(⟨0, 0, 2000000⟩ : Point), (⟨100, 0, 2000000⟩ : Point)] : List Point)⟩ : Sg)] : List Sg).map Ak) (sK [4] I I I (C7 4 I W fun D => Bg 1 I (sU 4 I fun X => tB [3] I I I (sZ 3 0 1 (es' := [[.v b, .v D, .v c, .N, .V 0, .V 5]]) I I I I I I (A7 X) I (Ca I) I I (Ap (sI ?_)))))))
  exact lg ⟨U, D, h, I2⟩ [0, 1, 2, 3, 4]
 rintro s ob ⟨A, w, h, rfl, rfl⟩
 refine sH (Ag 3 I ?_)
 obtain rfl := oi h
 exact sI ⟨_, _, _, I, ⟨w, I2⟩, J3, [0, 1, 2, 3, 4], I, by decide⟩
 intro S h
 obtain rfl := Q _ (oi h).symm
 replace h := O
 refine sQ ?_
 exact lg ⟨a.1, e, h, I2⟩ [0, 1, 2, 3, 4]
 rintro s ob ⟨t, j, h, rfl, rfl⟩
 refine sN (sH (An 1 [.o 0 3] I J1 (sJ [0] I (A3 0 0 0 [[.v b, .v j, .v c, .N, .V 0, .V 5]] I (sI (sP (Bk [1, 2, 4] (K := [.us b 9 1 (([(⟨#[97]⟩ : Bt), (⟨#[98]⟩ : Bt), (⟨#[99]⟩ : Bt)] : List Bt).map rS), .us c 68 3 (([(⟨(⟨#[105, 110]⟩ : Bt), 0, 1000000⟩ : Port), (⟨(⟨#[111, 117, 116]⟩ : Bt), 2, 0⟩ : Port)] : List Port).map Cb), U5 j t]) I [] J (ob' := [O0 g [[.list 1 (([(⟨#[97]⟩ : Bt), (⟨#[98]⟩ : Bt), (⟨#[99]⟩ : Bt)] : List Bt).map rS), Q6 t, .list 3 (([(⟨(⟨#[105, 110]⟩ : Bt), 0, 1000000⟩ : Port), (⟨(⟨#[111, 117, 116]⟩ : Bt), 2, 0⟩ : Port)] : List Port).map Cb), .N, .V 0, .V 5]], O0 i [[.v b, .v j, .v c, .N, .V 0, .V 5]]]) (.cons (.arr (.cons (.us 0 I) (.cons (.us 2 I) (.cons (.us 1 I) (.rest _))))) (.rest _))) (sP (Bk [] (K := []) I [] J (ob' := [O0 g [[.list 1 (([(⟨#[97]⟩ : Bt), (⟨#[98]⟩ : Bt), (⟨#[99]⟩ : Bt)] : List Bt).map rS), Q6 t, .list 3 (([(⟨(⟨#[105, 110]⟩ : Bt), 0, 1000000⟩ : Port), (⟨(⟨#[111, 117, 116]⟩ : Bt), 2, 0⟩ : Port)] : List Port).map Cb), .list 5 ([].map Ba), .V 0, .V 5]], O0 i [[.v b, .v j, .v c, .N, .V 0, .V 5]]]) (.cons (.arr (.cons (.refl _) (.cons (.refl _) (.cons (.refl _) (.cons (.nil _) (.rest _)))))) (.rest _))) ?_)))))))
 refine Cu [0] I ?_
 obtain rfl := oi h
 exact sO ⟨.inr I, [_], [], ⟨⟨0, _, _, _, _, _, _, _, I5⟩, J⟩, Cm, I2⟩
theorem Js (a : Int) (r : Plan) (h : Mv a = r) : ACalls Aj 33 [.V a] [] (fun x new => x = .agg (Am r) ∧ new = []) := by
 refine Ad Tryz.func33 I I I fun C hC => ?_
 unfold Mv at h
 refine sN (sH (sJ [] I (sS W0 3 fun d => sI (sN (sH (Ag 2 I (sJ [] I (sX (sz := 1) (es := ([a, a] : Li).map rI) I I I I I I I I I I I dS fun b => Ag 3 I (sJ [] I (sX (sz := 1) (es := ([a, wr (0 - a)] : Li).map rI) I I I I I I I I I I I dS fun c => tE 1 I fun e => tE 2 I fun f => sT (Au (l := [.v b, .v c, .N]) Lg (As I I (A7 e) I (As I I (A7 f) I (Cv)))) I ?_))))))))))
 refine sJ [0] I (A3 0 0 0 [[.v b, .v c, .N]] I (sI (sP (Bk [1, 2] (K := [.us b 3 1 (([a, a] : Li).map rI), .us c 3 1 (([a, wr (0 - a)] : Li).map rI)]) I [] J (ob' := [O1 d [[.list 1 (([a, a] : Li).map rI), .list 1 (([a, wr (0 - a)] : Li).map rI), .N]]]) (.cons (.arr (.cons (.us 0 I) (.cons (.us 1 I) (.rest _)))) (.rest _))) (sP (Bk [] (K := []) I [] J (ob' := [O1 d [[.list 1 (([a, a] : Li).map rI), .list 1 (([a, wr (0 - a)] : Li).map rI), .list 1 ([].map rB)]]]) (.cons (.arr (.cons (.refl _) (.cons (.refl _) (.cons (.nil _) (.rest _))))) (.rest _))) ?_))))
 obtain rfl := h
 exact sO ⟨.inr I, [_], [], ⟨⟨0, _, _, _, _, _, _, _, I5⟩, J⟩, Cm, I2⟩
theorem gG  (r : Bool) (h : Y9 = some r) : ACalls Aj 14 [] [] (fun x new => x = .v (.bool r) ∧ new = []) := by
 refine Ad Tryz.func14 I I I fun C hC => ?_
 refine Ah I (Aa fun A i => ?_)
 obtain ⟨B, j, h⟩ := Ac h
 obtain ⟨g, k, h⟩ := Ac h
 refine sH (sJ [] I (Ci I I I (T2  _ j) dS ?_))
 rintro _ _ ⟨rfl, rfl⟩
 refine sJ [] I (Ci I I I (Js 100 _ I) dS ?_)
 rintro _ _ ⟨rfl, rfl⟩
 refine sJ [] I (Ci I I I (Js 80 _ I) dS ?_)
 rintro _ _ ⟨rfl, rfl⟩
 refine sJ [] I (Ci I I I (fF _ _ _ _ k) dS ?_)
 rintro _ _ ⟨l, rfl, rfl⟩
 refine Ag 5 I (sI ?_)
 subst i
 refine Aa fun D m => ?_
 obtain ⟨E, n, h⟩ := Ac h
 obtain ⟨o, p, h⟩ := Ac h
 refine sH (sJ [] I (Ci I I I (T2  _ n) dS ?_))
 rintro _ _ ⟨rfl, rfl⟩
 refine sJ [] I (Ci I I I (Js 0 _ I) dS ?_)
 rintro _ _ ⟨rfl, rfl⟩
 refine sJ [] I (Ci I I I (Js 80 _ I) dS ?_)
 rintro _ _ ⟨rfl, rfl⟩
 refine sJ [] I (Ci I I I (dX _ _ _ _ p) dS ?_)
 rintro _ _ ⟨rfl, rfl⟩
 refine Ag 5 I (sI ?_)
 subst m
 refine Ai (fun s ob => ∃ (e : Bool), Y9.J1 e = some r ∧ s = [(0, .v (.bool e))] ∧ ob = []) [] J ?_ ?_
 rcases bt ((g.2 == 0)) with a | a
 replace h := Bq a h
 obtain ⟨t, f, h⟩ := Ac h
 rcases bt (t) with b | b
 replace h := Bq b h
 rcases bt ((o.2 == 0)) with d | d
 replace h := Bq d h
 obtain ⟨u, w, h⟩ := Ac h
 refine sH (Ag 3 I (Af 21 I a (Ag 1 I (Cd I I I (sJ [] I (sR 1 (([600, 600] : Li).map rI) (Cd I I I (sJ [] I (Cl I (.refl _) I I (.cons (.us 0 I) (.rest _)) I (Jw _ _ _ f) dS (by rintro _ _ ⟨rfl, _⟩; rfl) ?_)))))))))
 rintro _ ⟨_, rfl, -⟩
 refine Ag 2 I (Af 26 I b (Ag 4 I (Af 30 I d (Ag 1 I (Cd I I I (sJ [] I (sX (sz := 1) (es := ([0, 1] : Li).map rI) I I I I I I I I I I I dS fun y => AO.ghost (Bk [1] (K := [.us y 3 1 (([0, 1] : Li).map rI)]) I [(32, .list 1 (([0, 1] : Li).map rI))] ⟨⟨_, I, .us 0 I⟩, J⟩ (ob' := [U0 l g.1]) (.rest _)) (Cd I I I (sJ [] I (sR 1 (([([0, 1] : Li)] : List Li).map (rL 1 rI)) (Cd I I I (Cc (gT _ _ _ w) (Ag 2 I ?_)))))))))))))
 exact sI (lg ⟨u, h, I2⟩ [])
 replace h := Br d h
 refine sH (Ag 3 I (Af 21 I a (Ag 1 I (Cd I I I (sJ [] I (sR 1 (([600, 600] : Li).map rI) (Cd I I I (sJ [] I (Cl I (.refl _) I I (.cons (.us 0 I) (.rest _)) I (Jw _ _ _ f) dS (by rintro _ _ ⟨rfl, _⟩; rfl) ?_)))))))))
 rintro _ ⟨_, rfl, -⟩
 refine Ag 2 I (Af 26 I b (Ag 4 I (Af 30 I d (Ag 6 I (sI ?_)))))
 exact lg ⟨false, h, I2⟩ []
 replace h := Br b h
 refine sH (Ag 3 I (Af 21 I a (Ag 1 I (Cd I I I (sJ [] I (sR 1 (([600, 600] : Li).map rI) (Cd I I I (sJ [] I (Cl I (.refl _) I I (.cons (.us 0 I) (.rest _)) I (Jw _ _ _ f) dS (by rintro _ _ ⟨rfl, _⟩; rfl) ?_)))))))))
 rintro _ ⟨_, rfl, -⟩
 refine Ag 2 I (Af 26 I b (Ag 10 I (sI ?_)))
 exact lg ⟨false, h, I2⟩ []
 replace h := Br a h
 refine sH (Ag 3 I (Af 21 I a (Ag 15 I (sI ?_))))
 exact lg ⟨false, h, I2⟩ []
 rintro s ob ⟨e, h, rfl, rfl⟩
 obtain rfl := oi h
 exact sO pr
end Go.Proofs.YtodeekicjiengaaGreatDoor
