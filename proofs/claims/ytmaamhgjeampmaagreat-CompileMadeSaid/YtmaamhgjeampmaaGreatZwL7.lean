/- Walks that show what functions of the program compute; printed by a program of ours. No condition. -/
import Derived.Test.YtmaamhgjeampmaaGreatZwL4
import Derived.Test.YtmaamhgjeampmaaGreatZwD
import Derived.Test.YtmaamhgjeampmaaGreatZwB3
import Derived.Test.YtmaamhgjeampmaaGreatZwL6
import Derived.Test.YtmaamhgjeampmaaGreatZwL5
set_option maxRecDepth 100000
namespace Go.Proofs.YtmaamhgjeampmaaGreat
open Go.Aw
set_option linter.unusedVariables false
set_option linter.unusedSimpArgs false
set_option maxHeartbeats 4000000
abbrev rG : PL := sl 6 0 (.still 9 (.two 6 10 (.two 7 10 (.two 8 10 (.act 10 (.act 11 (.still 12 (.act 13 (.act 14 .nil))))) (.two 8 11 (.act 11 (.still 12 (.act 13 (.act 14 .nil)))) (.act 8 (.still 12 (.act 13 (.act 14 .nil)))))) (.two 7 11 (.two 8 11 (.act 11 (.still 12 (.act 13 (.act 14 .nil)))) (.act 8 (.still 12 (.act 13 (.act 14 .nil))))) (.act 7 (.act 8 (.still 12 (.act 13 (.act 14 .nil))))))) (.act 6 (.two 7 11 (.two 8 11 (.act 11 (.still 12 (.act 13 (.act 14 .nil)))) (.act 8 (.still 12 (.act 13 (.act 14 .nil))))) (.act 7 (.act 8 (.still 12 (.act 13 (.act 14 .nil)))))))))
theorem V1 (f : Nat) (Q : KS) (R : Plan) (r : Plan × KS) (h : Ls Q R = some r) : ACalls Ai 30 [.P f, .agg (Ak R)] [O2 f [Ca Q]] (E7 1 fun x os new => x = .agg (Ak r.1) ∧ os = [O2 f [Ca r.2]] ∧ new = []) := by
 refine Ag Tryz.func30 I I I fun C hC => ?_
 unfold Ls at h
 refine Aa fun y1 ak => vH (vJ [] I (Bh (Ak R) 3 fun S => vJ [] I (Bm W0 3 fun U => vI ?_)))
 subst ak
 refine Ah (fun s ob => ∃ (g : Li × Li × (List Bool)) (u : Value) (w : Value) (A : Value), Ls.J1 Q g = some r ∧ s = [] ∧ ob = [O2 f [Ca Q], O1 S [[.v u, .v w, .v A]], O1 U [W0], U0 u g.1, U0 w g.2.1, U1 A g.2.2]) (K3 0 3 4) J3 ?_ ?_
 obtain ⟨Z, al, h⟩ := Ac h
 obtain ⟨aa, am, h⟩ := Ac h
 obtain ⟨ab, an, h⟩ := Ac h
 refine Bi (.still 1 (.still 2 (.still 5 (.still 6 (.still 9 (.still 10 (.par [(0, []), (3, [0]), (4, []), (7, [4]), (8, []), (11, [8])] (.still 12 (.drop 13 .nil))))))))) [1] [_] I (Br 6 [.o 1 0, .o 3 0, .o 5 0] I J3 (AP.any [⟨0, [], 5, .lt 3 1⟩, ⟨3, [0], 8, .ap 0 3 1 (Z.map rI)⟩, ⟨4, [], 9, .lt 3 1⟩, ⟨7, [4], 12, .ap 4 3 1 (aa.map rI)⟩, ⟨8, [], 13, .lt 4 1⟩, ⟨11, [8], 16, .ap 8 4 1 (ab.map rB)⟩] I ⟨⟨_, I, I, I, fun _ => vW (sz := 1) (es := ([] : Li).map rI) I I I I I I I I I I I dS fun v => ⟨_, I, ⟨v, I⟩, I⟩⟩, ⟨_, I, I, I, fun _ _ _ => vV (la := []) (fr := rI) 0 I al fun v => ⟨v, I2⟩⟩, ⟨_, I, I, I, fun _ => vW (sz := 1) (es := ([] : Li).map rI) I I I I I I I I I I I dS fun v => ⟨_, I, ⟨v, I⟩, I⟩⟩, ⟨_, I, I, I, fun _ _ _ => vV (la := []) (fr := rI) 0 I am fun v => ⟨v, I2⟩⟩, ⟨_, I, I, I, fun _ => vW (sz := 1) (es := ([] : List Bool).map rB) I I I I I I I I I I I dS fun v => ⟨_, I, ⟨v, I⟩, I⟩⟩, ⟨_, I, I, I, fun _ _ _ => vV (la := []) (fr := rB) 0 I an fun v => ⟨v, I2⟩⟩, J⟩ ?_))
 intro _ _ W ac _ _ X ad _ _ Y ae
 exact wA 3 I fun ac => wA 4 I fun ad => wA 5 I fun ae => Lh I (Bd (l := [.v W, .v X, .v Y]) Dj (Bu I I (A6 ac) I (Bu I I (A6 ad) I (Bu I I (A6 ae) I (Eb))))) I (vZ [1] I I I (A3 1 0 0 [[.v W, .v X, .v Y]] I (An (vI (lg ⟨(Z, aa, ab), W, X, Y, h, I2⟩ N6)))))
 rintro s ob ⟨g, u, w, A, h, rfl, rfl⟩
 unfold Ls.J1 at h
 refine Ah (fun s ob => ∃ (i : Li × Int × Li × Li × (List Bool)) (G : Value) (H : Value), Ls.J2 i = some r ∧ s = [] ∧ ob = [O2 f [[Q0 i.1, .V i.2.1]], O1 S [[.v u, .v G, .v H]], O1 U [W0], U0 u i.2.2.1, U0 G i.2.2.2.1, U1 H i.2.2.2.2]) (K2 3 4) J2 ?_ ?_
 refine Aa fun bb ao => ?_
 obtain ⟨M, aq, h⟩ := Ac h
 refine vH (Af 1 I (vJ [0] I (A1 [0] (Bz f _ _ _ aq) ?_)))
 refine vI ?_
 subst ao
 refine vN (Aj I (Ao h I ?_ ?_))
 intro ar h
 obtain ⟨au, av, h⟩ := Ac h
 exact vH (Al 2 [.o 1 1] I J1 (vJ [] I (vR 1 (([true] : List Bool).map rB) (vJ [5] I (vV 5 I av fun af => Af 1 I (wC 5 I fun aw => vJ [1] I (vT 1 0 2 (es' := [[.v u, .v w, .v af]]) I I I I I I (A6 aw) I (A4 I) I I (vI (lg ⟨(M.2.L_, M.2.At, g.1, g.2.1, au), w, af, h, I2⟩ N6)))))))))
 intro ar h
 refine Aj I (Ao h I ?_ ?_)
 intro ax h
 obtain ⟨ag, ay, h⟩ := Ac h
 obtain ⟨az, a0, h⟩ := Ac h
 refine D4 4 I fun a1 => Bi (sl 7 0 (.act 7 (.act 8 (.still 9 (.drop 10 .nil))))) [1] [_] I (Br 5 [.o 1 0, .o 4 0] I J2 (vX I (D3 I I I a1) I (A9 1 I (vK [0] I I I (A1 [0] (Bz f _ _ _ ay) ?_)))))
 exact vK [4] I I I (dX 4 I a0 fun ah => A9 1 I (wA 4 I fun a2 => vZ [1] I I I (vT 1 0 1 (es' := [[.v u, .v ah, .v A]]) I I I I I I (A6 a2) I (A4 I) I I (An (vI (lg ⟨(ag.2.L_, ag.2.At, g.1, az, g.2.2), ah, A, h, I2⟩ N6))))))
 intro ax h
 refine Aj I (Ao h I ?_ ?_)
 intro a3 h
 refine Aa fun bc a4 => vH (Al 2 [.o 1 1] I J1 (vS (By 4 I I I I) I (Af 1 I (vI ?_))))
 subst a4
 refine Ao h I ?_ ?_
 intro a5 h
 obtain ⟨bd, ai, h⟩ := Ac h
 obtain ⟨a, ⟨j, c⟩, h⟩ := Ba h
 obtain ⟨n, B, h⟩ := Ac h
 refine D4 4 I fun a6 => Bw 4 a.1 I c fun O => Bw 4 a.1 I c fun D => Bi rG [1] [_] I (Br 5 [.o 1 0, .o 4 0] I J2 (vX I (D3 I I I a6) I (A9 1 I (vY ?_ ?_))))
 refine vK [0] I I I (A1 [0] (Bz f _ _ _ ai) ?_)
 refine vY ?_ ?_
 refine vK [] I I I (Ay (wB (Aq (m := a.1) I I I I I O I j c)) dS (vY ?_ ?_))
 refine vK [] I I I (Ay (Au 4 a.1 0 I I I (Ae c) I (y := .V a.2) I) dS (vK [] I I I (vR 1 (([1, (-1), 1001, (-4611686018427387904)] : Li).map rI) (vK [0] I I I (A1 [0] (Am f _ _ _ B) ?_)))))
 refine A9 1 I (vK [] I I I (Ay (wB (Aq (m := a.1) I I I I I D I j c)) dS (vK [4] I I I (Bg 4 a.1 0 I I I (Ae c) I I I I (A4 I) I (Ci (x := wr (a.2 + n.1)) I) (An (vI ?_))))))
 rotate_left
 refine vK [] I I I (vR 1 (([1, (-1), 1001, (-4611686018427387904)] : Li).map rI) (vY ?_ ?_))
 refine vK [] I I I (Ay (Au 4 a.1 0 I I I (Ae c) I (y := .V a.2) I) dS (vK [0] I I I (A1 [0] (Am f _ _ _ B) ?_)))
 refine A9 1 I (vK [] I I I (Ay (wB (Aq (m := a.1) I I I I I D I j c)) dS (vK [4] I I I (Bg 4 a.1 0 I I I (Ae c) I I I I (A4 I) I (Ci (x := wr (a.2 + n.1)) I) (An (vI ?_))))))
 rotate_left
 refine vK [0] I I I (A1 [0] (Am f _ _ _ B) ?_)
 refine vK [] I I I (Ay (Au 4 a.1 0 I I I (Ae c) I (y := .V a.2) I) dS (A9 1 I (vK [] I I I (Ay (wB (Aq (m := a.1) I I I I I D I j c)) dS (vK [4] I I I (Bg 4 a.1 0 I I I (Ae c) I I I I (A4 I) I (Ci (x := wr (a.2 + n.1)) I) (An (vI ?_))))))))
 rotate_left
 refine vK [] I I I (vR 1 (([1, (-1), 1001, (-4611686018427387904)] : Li).map rI) (vY ?_ ?_))
 refine vK [] I I I (Ay (wB (Aq (m := a.1) I I I I I O I j c)) dS (vY ?_ ?_))
 refine vK [] I I I (Ay (Au 4 a.1 0 I I I (Ae c) I (y := .V a.2) I) dS (vK [0] I I I (A1 [0] (Am f _ _ _ B) ?_)))
 refine A9 1 I (vK [] I I I (Ay (wB (Aq (m := a.1) I I I I I D I j c)) dS (vK [4] I I I (Bg 4 a.1 0 I I I (Ae c) I I I I (A4 I) I (Ci (x := wr (a.2 + n.1)) I) (An (vI ?_))))))
 rotate_left
 refine vK [0] I I I (A1 [0] (Am f _ _ _ B) ?_)
 refine vK [] I I I (Ay (Au 4 a.1 0 I I I (Ae c) I (y := .V a.2) I) dS (A9 1 I (vK [] I I I (Ay (wB (Aq (m := a.1) I I I I I D I j c)) dS (vK [4] I I I (Bg 4 a.1 0 I I I (Ae c) I I I I (A4 I) I (Ci (x := wr (a.2 + n.1)) I) (An (vI ?_))))))))
 rotate_left
 refine vK [0] I I I (A1 [0] (Am f _ _ _ B) ?_)
 refine vK [] I I I (Ay (wB (Aq (m := a.1) I I I I I O I j c)) dS (vK [] I I I (Ay (Au 4 a.1 0 I I I (Ae c) I (y := .V a.2) I) dS (A9 1 I (vK [] I I I (Ay (wB (Aq (m := a.1) I I I I I D I j c)) dS (vK [4] I I I (Bg 4 a.1 0 I I I (Ae c) I I I I (A4 I) I (Ci (x := wr (a.2 + n.1)) I) (An (vI ?_))))))))))
 rotate_left
 refine vK [] I I I (vR 1 (([1, (-1), 1001, (-4611686018427387904)] : Li).map rI) (vK [0] I I I (A1 [0] (Bz f _ _ _ ai) ?_)))
 refine vY ?_ ?_
 refine vK [] I I I (Ay (wB (Aq (m := a.1) I I I I I O I j c)) dS (vY ?_ ?_))
 refine vK [] I I I (Ay (Au 4 a.1 0 I I I (Ae c) I (y := .V a.2) I) dS (vK [0] I I I (A1 [0] (Am f _ _ _ B) ?_)))
 refine A9 1 I (vK [] I I I (Ay (wB (Aq (m := a.1) I I I I I D I j c)) dS (vK [4] I I I (Bg 4 a.1 0 I I I (Ae c) I I I I (A4 I) I (Ci (x := wr (a.2 + n.1)) I) (An (vI ?_))))))
 rotate_left
 refine vK [0] I I I (A1 [0] (Am f _ _ _ B) ?_)
 refine vK [] I I I (Ay (Au 4 a.1 0 I I I (Ae c) I (y := .V a.2) I) dS (A9 1 I (vK [] I I I (Ay (wB (Aq (m := a.1) I I I I I D I j c)) dS (vK [4] I I I (Bg 4 a.1 0 I I I (Ae c) I I I I (A4 I) I (Ci (x := wr (a.2 + n.1)) I) (An (vI ?_))))))))
 rotate_left
 refine vK [0] I I I (A1 [0] (Am f _ _ _ B) ?_)
 refine vK [] I I I (Ay (wB (Aq (m := a.1) I I I I I O I j c)) dS (vK [] I I I (Ay (Au 4 a.1 0 I I I (Ae c) I (y := .V a.2) I) dS (A9 1 I (vK [] I I I (Ay (wB (Aq (m := a.1) I I I I I D I j c)) dS (vK [4] I I I (Bg 4 a.1 0 I I I (Ae c) I I I I (A4 I) I (Ci (x := wr (a.2 + n.1)) I) (An (vI ?_))))))))))
 any_goals
  exact lg ⟨(n.2.L_, n.2.At, g.1, (g.2.1.set a.1 (wr (a.2 + n.1))), g.2.2), w, A, h, I2⟩ N6
 intro a5 h
 exact vL (lg ⟨(M.2.L_, M.2.At, g.1, g.2.1, g.2.2), w, A, h, I2⟩ N6)
 intro a3 h
 refine Aa fun be a7 => vH (Al 2 [.o 1 1] I J1 (vS (By 3 I I I I) I (Af 1 I (vI ?_))))
 subst a7
 refine Ao h I ?_ ?_
 intro a8 h
 obtain ⟨bf, aj, h⟩ := Ac h
 obtain ⟨b, ⟨k, e⟩, h⟩ := Ba h
 obtain ⟨t, E, h⟩ := Ac h
 refine D4 3 I fun a9 => Bw 3 b.1 I e fun P => Bw 3 b.1 I e fun F => Bi rG [1] [_] I (Br 5 [.o 1 0, .o 4 0] I J2 (vX I (D3 I I I a9) I (A9 1 I (vY ?_ ?_))))
 refine vK [0] I I I (A1 [0] (Bz f _ _ _ aj) ?_)
 refine vY ?_ ?_
 refine vK [] I I I (Ay (wB (Aq (m := b.1) I I I I I P I k e)) dS (vY ?_ ?_))
 refine vK [] I I I (Ay (Au 3 b.1 0 I I I (Ae e) I (y := .V b.2) I) dS (vK [] I I I (vR 1 (([1, (-1), 5, 1001, 4611686018427387904, (-4611686018427387904)] : Li).map rI) (vK [0] I I I (A1 [0] (Am f _ _ _ E) ?_)))))
 refine A9 1 I (vK [] I I I (Ay (wB (Aq (m := b.1) I I I I I F I k e)) dS (vK [3] I I I (Bg 3 b.1 0 I I I (Ae e) I I I I (A4 I) I (Ci (x := wr (b.2 + t.1)) I) (An (vI ?_))))))
 rotate_left
 refine vK [] I I I (vR 1 (([1, (-1), 5, 1001, 4611686018427387904, (-4611686018427387904)] : Li).map rI) (vY ?_ ?_))
 refine vK [] I I I (Ay (Au 3 b.1 0 I I I (Ae e) I (y := .V b.2) I) dS (vK [0] I I I (A1 [0] (Am f _ _ _ E) ?_)))
 refine A9 1 I (vK [] I I I (Ay (wB (Aq (m := b.1) I I I I I F I k e)) dS (vK [3] I I I (Bg 3 b.1 0 I I I (Ae e) I I I I (A4 I) I (Ci (x := wr (b.2 + t.1)) I) (An (vI ?_))))))
 rotate_left
 refine vK [0] I I I (A1 [0] (Am f _ _ _ E) ?_)
 refine vK [] I I I (Ay (Au 3 b.1 0 I I I (Ae e) I (y := .V b.2) I) dS (A9 1 I (vK [] I I I (Ay (wB (Aq (m := b.1) I I I I I F I k e)) dS (vK [3] I I I (Bg 3 b.1 0 I I I (Ae e) I I I I (A4 I) I (Ci (x := wr (b.2 + t.1)) I) (An (vI ?_))))))))
 rotate_left
 refine vK [] I I I (vR 1 (([1, (-1), 5, 1001, 4611686018427387904, (-4611686018427387904)] : Li).map rI) (vY ?_ ?_))
 refine vK [] I I I (Ay (wB (Aq (m := b.1) I I I I I P I k e)) dS (vY ?_ ?_))
 refine vK [] I I I (Ay (Au 3 b.1 0 I I I (Ae e) I (y := .V b.2) I) dS (vK [0] I I I (A1 [0] (Am f _ _ _ E) ?_)))
 refine A9 1 I (vK [] I I I (Ay (wB (Aq (m := b.1) I I I I I F I k e)) dS (vK [3] I I I (Bg 3 b.1 0 I I I (Ae e) I I I I (A4 I) I (Ci (x := wr (b.2 + t.1)) I) (An (vI ?_))))))
 rotate_left
 refine vK [0] I I I (A1 [0] (Am f _ _ _ E) ?_)
 refine vK [] I I I (Ay (Au 3 b.1 0 I I I (Ae e) I (y := .V b.2) I) dS (A9 1 I (vK [] I I I (Ay (wB (Aq (m := b.1) I I I I I F I k e)) dS (vK [3] I I I (Bg 3 b.1 0 I I I (Ae e) I I I I (A4 I) I (Ci (x := wr (b.2 + t.1)) I) (An (vI ?_))))))))
 rotate_left
 refine vK [0] I I I (A1 [0] (Am f _ _ _ E) ?_)
 refine vK [] I I I (Ay (wB (Aq (m := b.1) I I I I I P I k e)) dS (vK [] I I I (Ay (Au 3 b.1 0 I I I (Ae e) I (y := .V b.2) I) dS (A9 1 I (vK [] I I I (Ay (wB (Aq (m := b.1) I I I I I F I k e)) dS (vK [3] I I I (Bg 3 b.1 0 I I I (Ae e) I I I I (A4 I) I (Ci (x := wr (b.2 + t.1)) I) (An (vI ?_))))))))))
 rotate_left
 refine vK [] I I I (vR 1 (([1, (-1), 5, 1001, 4611686018427387904, (-4611686018427387904)] : Li).map rI) (vK [0] I I I (A1 [0] (Bz f _ _ _ aj) ?_)))
 refine vY ?_ ?_
 refine vK [] I I I (Ay (wB (Aq (m := b.1) I I I I I P I k e)) dS (vY ?_ ?_))
 refine vK [] I I I (Ay (Au 3 b.1 0 I I I (Ae e) I (y := .V b.2) I) dS (vK [0] I I I (A1 [0] (Am f _ _ _ E) ?_)))
 refine A9 1 I (vK [] I I I (Ay (wB (Aq (m := b.1) I I I I I F I k e)) dS (vK [3] I I I (Bg 3 b.1 0 I I I (Ae e) I I I I (A4 I) I (Ci (x := wr (b.2 + t.1)) I) (An (vI ?_))))))
 rotate_left
 refine vK [0] I I I (A1 [0] (Am f _ _ _ E) ?_)
 refine vK [] I I I (Ay (Au 3 b.1 0 I I I (Ae e) I (y := .V b.2) I) dS (A9 1 I (vK [] I I I (Ay (wB (Aq (m := b.1) I I I I I F I k e)) dS (vK [3] I I I (Bg 3 b.1 0 I I I (Ae e) I I I I (A4 I) I (Ci (x := wr (b.2 + t.1)) I) (An (vI ?_))))))))
 rotate_left
 refine vK [0] I I I (A1 [0] (Am f _ _ _ E) ?_)
 refine vK [] I I I (Ay (wB (Aq (m := b.1) I I I I I P I k e)) dS (vK [] I I I (Ay (Au 3 b.1 0 I I I (Ae e) I (y := .V b.2) I) dS (A9 1 I (vK [] I I I (Ay (wB (Aq (m := b.1) I I I I I F I k e)) dS (vK [3] I I I (Bg 3 b.1 0 I I I (Ae e) I I I I (A4 I) I (Ci (x := wr (b.2 + t.1)) I) (An (vI ?_))))))))))
 any_goals
  exact lg ⟨(t.2.L_, t.2.At, (g.1.set b.1 (wr (b.2 + t.1))), g.2.1, g.2.2), w, A, h, I2⟩ N6
 intro a8 h
 exact vL (lg ⟨(M.2.L_, M.2.At, g.1, g.2.1, g.2.2), w, A, h, I2⟩ N6)
 rintro s ob ⟨i, G, H, h, rfl, rfl⟩
 refine vM (vH (Al 1 [.o 0 1] I J1 (vJ [2] I (A3 2 0 0 [[.v u, .v G, .v H]] I (vI (vP (Av [3, 4, 5] (K := [U0 u i.2.2.1, U0 G i.2.2.2.1, U1 H i.2.2.2.2]) I [] J (ob' := [O2 f [[Q0 i.1, .V i.2.1]], O1 S [[.v u, .v G, .v H]], O1 U [[Q0 i.2.2.1, Q0 i.2.2.2.1, Q2 i.2.2.2.2]]]) (.cons (.same _) (.cons (.same _) (.cons (.arr (.cons (.us 0 I) (.cons (.us 1 I) (.cons (.us 2 I) (.rest _))))) (.rest _))))) (Cd [0, 2] I ?_)))))))
 obtain rfl := oi h
 exact vO ⟨.inr I, [_], [O2 f [[Q0 i.1, .V i.2.1]]], ⟨⟨1, _, _, _, _, _, _, _, I5⟩, J⟩, Cy I (Cf), ⟨[O2 f [[Q0 i.1, .V i.2.1]]], [], I5⟩⟩
theorem Mb (f : Nat) (A : KS) (k : Nw) (n : Plan) (r : Desk × KS) (h : Xc A k n = some r) : ACalls Ai 14 [.P f, .agg (Ab k), .agg (Ak n)] [O2 f [Ca A]] (E7 1 fun x os new => ∃ (B : Value), x = .agg [.v B, Q0 r.1.Plan.Rates, Q0 r.1.Plan.Ports, Q2 r.1.Plan.Pumps] ∧ os = [O2 f [Ca r.2]] ∧ new = [U4 B r.1.Valves]) := by
 refine Ag Tryz.func14 I I I fun C hC => ?_
 refine Aa fun y2 H => vH (vJ [] I (Bh (Ab k) 6 fun b3 => vJ [] I (Bh (Ak n) 3 fun b4 => vJ [] I (Bm W1 4 fun t => vI ?_))))
 subst H
 refine Aa fun y6 K => ?_
 obtain ⟨a, M, h⟩ := Ac h
 refine vH (Al 2 [.o 0 1, .o 1 2] I J2 (vJ [] I (Bp I I I (Wj _ _ _ M) dS ?_)))
 rintro _ _ ⟨rfl, rfl⟩
 refine Ch (Bd (l := [.N, Q0 a.Rates, Q0 a.Ports, Q2 a.Pumps]) I9 I) I (vJ [] I (Bm W1 4 fun u => vJ [4] I (A3 4 0 0 [[.N, Q0 a.Rates, Q0 a.Ports, Q2 a.Pumps]] I (vI ?_))))
 subst K
 refine Aa fun ak O => ?_
 obtain ⟨al, P, h⟩ := Ac h
 obtain ⟨D, Q, h⟩ := Ac h
 refine vH (Af 1 I (vS (Bv 4 0 1 I I I I I (y := .agg (Ak a)) I) I (vJ [] I (Bp I I I (Pp _ _ P) dS ?_))))
 rintro _ _ ⟨rfl, rfl⟩
 refine vJ [] I (Bp I I I (Pu _ _ Q) dS ?_)
 rintro _ _ ⟨E, rfl, rfl⟩
 refine Af 1 I (vI ?_)
 subst O
 refine Ah (fun s ob => ∃ (c : Li × Int × (List Valve)) (g : Value), Xc.J1 a c = some r ∧ s = [] ∧ ob = [O2 f [[Q0 c.1, .V c.2.1]], O4 t [W1], O4 u [[.v g, Q0 a.Rates, Q0 a.Ports, Q2 a.Pumps]], U4 g c.2.2]) (K2 6 7) J2 ?_ ?_
 refine Aj I (vN (vP (A7 74 4) ?_))
 obtain ⟨am, R, S⟩ := Ac h
 refine Bo R (K4 0 6 7 8) J4 (fun (e : Li × Int × (List Valve) × Int) s ob => ∃ (i : Value), s = [(9, .V e.2.2.2)] ∧ ob = [O2 f [[Q0 e.1, .V e.2.1]], O4 t [W1], O4 u [[.v i, Q0 a.Rates, Q0 a.Ports, Q2 a.Pumps]], U1 E D, U4 i e.2.2.1]) ⟨nS, I2⟩ ⟨I, J⟩ (pk [0, 3, 4, 5, 6]) ?_
 rintro e U s ob ⟨i, rfl, rfl⟩ h W
 refine Aa fun an X => vM (vH (Af 2 I (vS (By 3 I I I I) I (Af 1 I (vI (Ao h I ?_ ?_))))))
 intro Y h
 refine vL ?_
 subst X
 refine vM (vN (Aa fun ao Z => ?_))
 obtain ⟨b, aa, h⟩ := Ac h
 refine vH (Af 1 I (vJ [0] I (A1 [0] (gI f _ _ aa) ?_)))
 refine vJ [] I (Bm W5 4 fun ab => vJ [5] I (A3 5 0 0 [A5 b.1] I (vI ?_)))
 subst Z
 refine Ah (fun s ob => ∃ (j : Int × Bool), Xc.J3 e b j = some U ∧ s = [] ∧ ob = [O2 f [Ca b.2], O4 t [W1], O4 u [[.v i, Q0 a.Rates, Q0 a.Ports, Q2 a.Pumps]], U1 E D, U4 i e.2.2.1, Yi ab [[.V b.1.Travel, .V j.1, .v (.bool j.2), .v (.bool b.1.Stuck)]]]) (K6 0 6 7 8 9 10) J6 ?_ ?_
 refine vM ?_
 obtain ⟨w, ⟨ac, F⟩, h⟩ := Ba h
 refine vH (Af 2 I (vS (Bb 3 (m := w.1) I I I I I I I ac (Ae F)) I (vS (Au 3 w.1 0 I I I (Ae F) I (y := .v (.bool w.2)) I) I (vI (Ao h I ?_ ?_)))))
 intro ad h
 exact vH (Al 3 [.o 1 5] I J1 (vJ [5] I (A3 5 0 1 [[.V b.1.Travel, .V b.1.Travel, .v (.bool b.1.Want), .v (.bool b.1.Stuck)]] I (Af 1 I (vJ [5] I (A3 5 0 2 [[.V b.1.Travel, .V b.1.Travel, .v (.bool true), .v (.bool b.1.Stuck)]] I (vI (lg ⟨(b.1.Travel, true), h, I2⟩ N6))))))))
 intro ad h
 exact vL (lg ⟨(b.1.Open, b.1.Want), h, I2⟩ N6)
 rintro s ob ⟨j, h, rfl, rfl⟩
 obtain ⟨aq, ae, h⟩ := Ac h
 refine vH (Al 3 [.o 1 2, .o 2 5] I J2 (vJ [] I (vR 4 (([(⟨b.1.Travel, j.1, j.2, b.1.Stuck⟩ : Valve)] : List Valve).map A5) (vJ [4] I (vV 4 I ae fun G => Af 1 I (wC 4 I fun af => vJ [2] I (vT 2 0 0 (es' := [[.v G, Q0 a.Rates, Q0 a.Ports, Q2 a.Pumps]]) I I I I I I (A6 af) I (A4 I) I I (vI (vH (Af 3 I ?_))))))))))
 cases io h
 exact vI ⟨_, _, _, I, ⟨G, I2⟩, J5, pk N5⟩
 intro Y h
 obtain rfl := W _ (oi h).symm
 have h := S
 exact vQ (lg ⟨(e.1, e.2.1, e.2.2.1), i, h, I2⟩ [0, 1, 2, 4])
 rintro s ob ⟨c, g, h, rfl, rfl⟩
 refine vM (vH (Al 1 [.o 0 2] I J1 (vJ [1] I (A3 1 0 0 [[.v g, Q0 a.Rates, Q0 a.Ports, Q2 a.Pumps]] I (vI (Cd [0, 3, 1] I ?_))))))
 obtain rfl := oi h
 exact vO ⟨.inr I, [_], [O2 f [[Q0 c.1, .V c.2.1]], U4 g c.2.2], ⟨⟨2, _, _, _, _, _, _, _, I5⟩, J⟩, Cy I (Cy I (Cf)), ⟨[O2 f [[Q0 c.1, .V c.2.1]]], [U4 g c.2.2], I, I, g, I3⟩⟩
theorem gT (H : Li) (M : Int) (O : Int) (P : Int) (r : Bool) (h : bC H M O P = some r) : ACalls Ai 7 [Q0 H, .V M, .V O, .V P] [] (RB r) := by
 refine Ag Tryz.func7 I I I fun C hC => ?_
 refine Aj I (Aa fun y2 ae => vM (vH (Af 1 I (vU (gW H _ I) (Af 1 I (vI (Ao h I ?_ ?_)))))))
 intro af h
 refine vM ?_
 obtain ⟨r4, ag, h⟩ := Ac h
 refine vH (vU (V8  _ ag) (Af 1 I (vI ?_)))
 cases io h
 exact vO pr
 intro af h
 refine vL ?_
 subst ae
 refine Aa fun y6 ah => ?_
 obtain ⟨r7, ai, h⟩ := Ac h
 refine vH (Af 1 I (vJ [] I (Bp I I I (iH _ _ ai) dS ?_)))
 rintro _ _ ⟨f, rfl, rfl⟩
 refine Af 1 I (vI ?_)
 subst ah
 refine Aa fun bz aj => ?_
 obtain ⟨g, ak, h⟩ := Ac h
 refine vH (Af 1 I (vJ [0] I (A1 [0] (iT f _ _ ak) ?_)))
 refine vJ [] I (Bm W3 6 fun Q => vJ [1] I (A3 1 0 0 [Ab g.1] I (vI ?_)))
 subst aj
 refine Ah (fun s ob => ∃ (a : Li × Int × (List Valve) × Li × Li × (List Bool)) (D : Nat) (t : Value), bC.J1 M O P g a = some r ∧ s = [(11, .P D)] ∧ ob = [O2 f [[Q0 a.1, .V a.2.1]], O0 Q [Ab g.1], U4 t a.2.2.1, O4 D [[.v t, Q0 a.2.2.2.1, Q0 a.2.2.2.2.1, Q2 a.2.2.2.2.2]]]) (K5 1 2 3 9 10) J5 ?_ ?_
 obtain ⟨b0, W, h⟩ := Ac h
 obtain ⟨b, R, h⟩ := Ac h
 refine Bi (sl 4 0 (.two 4 6 (.two 5 6 (.act 6 (.act 7 .nil)) (.act 5 (.act 7 .nil))) (.act 4 (.act 5 (.act 7 .nil))))) [1] [_] I (Br 4 [.o 1 0, .o 3 0] I J2 (vY ?_ ?_))
 refine vK [0] I I I (A1 [0] (Pv f _ _ _ W) ?_)
 refine vY ?_ ?_
 refine vK [0] I I I (Es [0] (Mb f _ _ _ _ R) ?_)
 rintro _ _ _ - ⟨k, rfl, rfl, rfl⟩
 exact vK [] I I I (Bm W1 4 fun E => vK [3] I I I (A3 3 0 0 [[.v k, Q0 b.1.Plan.Rates, Q0 b.1.Plan.Ports, Q2 b.1.Plan.Pumps]] I (An (vI (lg ⟨(b.2.L_, b.2.At, b.1.Valves, b.1.Plan.Rates, b.1.Plan.Ports, b.1.Plan.Pumps), E, k, h, I2⟩ N4)))))
 refine vK [] I I I (Bm W1 4 fun E => vK [0] I I I (Es [0] (Mb f _ _ _ _ R) ?_))
 rintro _ _ _ - ⟨k, rfl, rfl, rfl⟩
 exact vK [2] I I I (A3 2 0 0 [[.v k, Q0 b.1.Plan.Rates, Q0 b.1.Plan.Ports, Q2 b.1.Plan.Pumps]] I (An (vI (lg ⟨(b.2.L_, b.2.At, b.1.Valves, b.1.Plan.Rates, b.1.Plan.Ports, b.1.Plan.Pumps), E, k, h, I2⟩ [0, 1, 3, 2]))))
 refine vK [] I I I (Bm W1 4 fun E => vK [0] I I I (A1 [0] (Pv f _ _ _ W) ?_))
 refine vK [0] I I I (Es [0] (Mb f _ _ _ _ R) ?_)
 rintro _ _ _ - ⟨k, rfl, rfl, rfl⟩
 exact vK [2] I I I (A3 2 0 0 [[.v k, Q0 b.1.Plan.Rates, Q0 b.1.Plan.Ports, Q2 b.1.Plan.Pumps]] I (An (vI (lg ⟨(b.2.L_, b.2.At, b.1.Valves, b.1.Plan.Rates, b.1.Plan.Ports, b.1.Plan.Pumps), E, k, h, I2⟩ [0, 1, 3, 2]))))
 rintro s ob ⟨a, D, t, h, rfl, rfl⟩
 refine Aa fun b1 al => ?_
 obtain ⟨u, am, h⟩ := Ac h
 refine vH (Al 2 [.o 1 1] I J1 (vJ [0] I (A1 [0] (Pv f _ _ _ am) ?_)))
 refine vJ [] I (Bm W0 3 fun X => vJ [4] I (A3 4 0 0 [Ak u.1] I (vI ?_)))
 subst al
 refine Aa fun b2 an => ?_
 obtain ⟨l, ao, h⟩ := Ac h
 obtain ⟨n, ap, h⟩ := Ac h
 refine vH (Af 1 I (vJ [0] I (A1 [0] (Bz f _ _ _ ao) ?_)))
 refine Af 2 I (vJ [0] I (A1 [0] (Bz f _ _ _ ap) ?_))
 refine Af 2 I (vI ?_)
 subst an
 refine Ah (fun s ob => ∃ (e : Nw × (List Valve) × Li × Li × (List Bool) × Plan × Int × Int), bC.J2 e = some r ∧ s = [(13, .V e.2.2.2.2.2.2.1), (14, .V e.2.2.2.2.2.2.2)] ∧ ob = [O0 Q [Ab e.1], U4 t e.2.1, O4 D [[.v t, Q0 e.2.2.1, Q0 e.2.2.2.1, Q2 e.2.2.2.2.1]], O1 X [Ak e.2.2.2.2.2.1]]) (K3 10 11 12) J3 ?_ ?_
 refine Aa fun b3 aq => ?_
 obtain ⟨b4, ar, h⟩ := Ac h
 refine vH (Af 1 I (vU (Pt _ _ _ ar) (vI ?_)))
 subst aq
 refine vN (Aj I (Ao h I ?_ ?_))
 intro au h
 obtain ⟨Y, av, h⟩ := Ac h
 refine vH (Al 2 [.o 1 1] I J1 (vJ [0] I (A1 [0] (jG f _ _ _ av) ?_)))
 exact vJ [1] I (A3 1 0 0 [Ab Y.1] I (vI (lg ⟨(Y.1, a.2.2.1, a.2.2.2.1, a.2.2.2.2.1, a.2.2.2.2.2, u.1, wr (1 + l.1), n.1), h, I2⟩ [1, 2, 3, 4])))
 intro au h
 refine Aj I (Ao h I ?_ ?_)
 intro aw h
 obtain ⟨Z, ax, h⟩ := Ac h
 refine vH (Al 2 [.o 1 4] I J1 (vJ [0] I (A1 [0] (V1 f _ _ _ ax) ?_)))
 exact vJ [4] I (A3 4 0 0 [Ak Z.1] I (vI (lg ⟨(g.1, a.2.2.1, a.2.2.2.1, a.2.2.2.2.1, a.2.2.2.2.2, Z.1, wr (1 + l.1), n.1), h, I2⟩ [1, 2, 3, 4])))
 intro aw h
 refine Aj I (Ao h I ?_ ?_)
 intro ay h
 obtain ⟨az, a0, h⟩ := Ac h
 exact vH (Af 1 I (vU (Pt _ _ _ a0) (Af 2 I (vI (lg ⟨(g.1, a.2.2.1, a.2.2.2.1, a.2.2.2.2.1, a.2.2.2.2.2, u.1, wr (az - 1), n.1), h, I2⟩ [1, 2, 3, 4])))))
 intro ay h
 refine Aj I (Ao h I ?_ ?_)
 intro a1 h
 obtain ⟨a2, a3, h⟩ := Ac h
 exact vH (Af 1 I (vU (Pt _ _ _ a3) (Af 2 I (vI (lg ⟨(g.1, a.2.2.1, a.2.2.2.1, a.2.2.2.2.1, a.2.2.2.2.2, u.1, wr (1 + l.1), wr (a2 - 1)), h, I2⟩ [1, 2, 3, 4])))))
 intro a1 h
 refine Aj I (Ao h I ?_ ?_)
 intro a4 h
 obtain ⟨i, ⟨a5, aa⟩, h⟩ := Ba h
 exact vH (Al 2 [.o 1 3] I J1 (vS (Bb 2 (m := i.1) I I I I I I I a5 (Ae aa)) I (Af 1 I (vJ [2] I (Bg 2 i.1 1 I I I (Ae aa) I I I I (A4 I) I (Ci (x := (⟨i.2.Travel, (-1), i.2.Want, i.2.Stuck⟩ : Valve)) I) (vI (lg ⟨(g.1, (a.2.2.1.set i.1 (⟨i.2.Travel, (-1), i.2.Want, i.2.Stuck⟩ : Valve)), a.2.2.2.1, a.2.2.2.2.1, a.2.2.2.2.2, u.1, wr (1 + l.1), n.1), h, I2⟩ [1, 2, 3, 4])))))))
 intro a4 h
 refine Aj I (Ao h I ?_ ?_)
 intro a6 h
 obtain ⟨ab, a7, h⟩ := Ac h
 refine vH (Al 2 [.o 1 1] I J1 (vJ [0] I (A1 [0] (V4 f _ _ _ a7) ?_)))
 exact vJ [4] I (A3 4 0 0 [Ak ab.1] I (vI (lg ⟨(g.1, a.2.2.1, a.2.2.2.1, a.2.2.2.2.1, a.2.2.2.2.2, ab.1, wr (1 + l.1), n.1), h, I2⟩ [1, 2, 3, 4])))
 intro a6 h
 refine Aj I (Ao h I ?_ ?_)
 intro a8 h
 obtain ⟨A, a9, h⟩ := Ac h
 refine vH (Af 2 I (vS (Bv 3 0 1 I I I I I (y := .agg [Q0 a.2.2.2.1, Q0 a.2.2.2.2.1, Q2 a.2.2.2.2.2]) I) I (vJ [0] I (A1 [0] (V1 f _ _ _ a9) ?_))))
 exact Af 1 I (vJ [3] I (A3 3 0 1 [[.v t, Q0 A.1.Rates, Q0 A.1.Ports, Q2 A.1.Pumps]] I (vI (lg ⟨(g.1, a.2.2.1, A.1.Rates, A.1.Ports, A.1.Pumps, u.1, wr (1 + l.1), n.1), h, I2⟩ [1, 2, 3, 4]))))
 intro a8 h
 refine Aj I (Ao h I ?_ ?_)
 intro ba h
 exact vH (Af 1 I (vS (Bv 3 0 1 I I I I I (y := .agg [Q0 a.2.2.2.1, Q0 a.2.2.2.2.1, Q2 a.2.2.2.2.2]) I) I (vJ [4] I (A3 4 0 0 [[Q0 a.2.2.2.1, Q0 a.2.2.2.2.1, Q2 a.2.2.2.2.2]] I (vI (lg ⟨(g.1, a.2.2.1, a.2.2.2.1, a.2.2.2.2.1, a.2.2.2.2.2, (⟨a.2.2.2.1, a.2.2.2.2.1, a.2.2.2.2.2⟩ : Plan), wr (1 + l.1), n.1), h, I2⟩ [1, 2, 3, 4]))))))
 intro ba h
 exact vL (lg ⟨(g.1, a.2.2.1, a.2.2.2.1, a.2.2.2.2.1, a.2.2.2.2.2, u.1, wr (1 + l.1), n.1), h, I2⟩ [1, 2, 3, 4])
 rintro s ob ⟨e, h, rfl, rfl⟩
 refine Aa fun b5 bb => ?_
 obtain ⟨bc, bd, h⟩ := Ac h
 refine vH (Al 5 [.o 0 0, .o 1 2, .o 2 3] I J3 (wD (Av [1] (K := [U4 t e.2.1]) I [(91, .agg [Q8 e.2.1, Q0 e.2.2.1, Q0 e.2.2.2.1, Q2 e.2.2.2.2.1])] ⟨⟨_, I, .agg (.cons (.us 0 I) (.rest _))⟩, J⟩ (ob' := [O0 Q [Ab e.1], O4 D [[Q8 e.2.1, Q0 e.2.2.1, Q0 e.2.2.2.1, Q2 e.2.2.2.2.1]], O1 X [Ak e.2.2.2.2.2.1]]) (.cons (.same _) (.cons (.arr (.cons (.us 0 I) (.rest _))) (.rest _)))) (vJ [] I (Bp I I I (Po _ _ _ _ _ _ bd) dS ?_))))
 rintro _ _ ⟨b6, rfl, rfl⟩
 refine Af 5 I (vI ?_)
 subst bb
 refine Aa fun b7 be => ?_
 obtain ⟨bf, bg, h⟩ := Ac h
 refine vH (Al 5 [.o 0 0, .o 1 1, .o 2 2] I J3 (vJ [] I (Bp I I I (V0 _ _ _ _ _ _ bg) dS ?_)))
 rintro _ _ ⟨b8, rfl, rfl⟩
 refine Af 5 I (vI ?_)
 subst be
 refine Aa fun ca bh => ?_
 obtain ⟨bi, bj, h⟩ := Ac h
 refine vH (Al 4 [.o 0 0, .o 1 1] I J2 (vJ [] I (Bp I I I (iM _ _ _ _ _ bj) dS ?_)))
 rintro _ _ ⟨cb, rfl, rfl⟩
 refine Af 5 I (vI ?_)
 subst bh
 refine Aa fun cc bk => ?_
 obtain ⟨bl, bm, h⟩ := Ac h
 refine vH (Al 4 [.o 0 0, .o 1 1] I J2 (vJ [] I (Bp I I I (gP _ _ _ _ _ bm) dS ?_)))
 rintro _ _ ⟨cd, rfl, rfl⟩
 refine Af 5 I (vI ?_)
 subst bk
 refine Ah (fun s ob => ∃ (S : Bool), bC.J3 S = some r ∧ s = [(8, .v (.bool S))] ∧ ob = []) [] J ?_ ?_
 rcases bt ((bc.2 == bf.2)) with j | j
 have h := B0 j h
 rcases bt ((bi.2 == bl.2)) with p | p
 have h := B0 p h
 obtain ⟨bn, G, h⟩ := Ac h
 rcases bt (bn) with w | w
 have h := B0 w h
 obtain ⟨bo, U, h⟩ := Ac h
 rcases bt (bo) with B | B
 have h := B0 B h
 obtain ⟨bp, ac, h⟩ := Ac h
 obtain ⟨bq, ad, h⟩ := Ac h
 rcases bt ((bp == bq)) with F | F
 have h := B0 F h
 obtain ⟨br, bs, h⟩ := Ac h
 refine vH (Af 4 I (Ad 126 I j (Af 5 I (Ad 131 I p (Af 2 I (Bf I I I (vJ [] I (Cw I (.refl _) I I (.cons (.us 3 I) (.cons (.us 4 I) (.rest _))) I (F4 _ _ _ G) dS (by rintro _ _ ⟨rfl, _⟩; rfl) ?_))))))))
 rintro _ ⟨_, rfl, -⟩
 refine Af 2 I (Ad 136 I w (Af 2 I (Bf I I I (vJ [] I (Cw I (.refl _) I I (.cons (.us 5 I) (.cons (.us 6 I) (.rest _))) I (F4 _ _ _ U) dS (by rintro _ _ ⟨rfl, _⟩; rfl) ?_)))))
 rintro _ ⟨_, rfl, -⟩
 refine Af 2 I (Ad 141 I B (Af 1 I (Bf I I I (vJ [] I (Cw I (.refl _) I I (.cons (.us 4 I) (.rest _)) I (Pq _ _ ac) dS (by rintro _ _ ⟨rfl, _⟩; rfl) ?_)))))
 rintro _ ⟨_, rfl, -⟩
 refine Af 1 I (Bf I I I (vJ [] I (Cw I (.refl _) I I (.cons (.us 4 I) (.rest _)) I (Wi _ _ ad) dS (by rintro _ _ ⟨rfl, _⟩; rfl) ?_)))
 rintro _ ⟨_, rfl, -⟩
 exact Af 3 I (Ad 148 I F (Bf I I I (vU (V8  _ bs) (Af 2 I (vI (lg ⟨br, h, I2⟩ []))))))
 have h := B8 F h
 refine vH (Af 4 I (Ad 126 I j (Af 5 I (Ad 131 I p (Af 2 I (Bf I I I (vJ [] I (Cw I (.refl _) I I (.cons (.us 3 I) (.cons (.us 4 I) (.rest _))) I (F4 _ _ _ G) dS (by rintro _ _ ⟨rfl, _⟩; rfl) ?_))))))))
 rintro _ ⟨_, rfl, -⟩
 refine Af 2 I (Ad 136 I w (Af 2 I (Bf I I I (vJ [] I (Cw I (.refl _) I I (.cons (.us 5 I) (.cons (.us 6 I) (.rest _))) I (F4 _ _ _ U) dS (by rintro _ _ ⟨rfl, _⟩; rfl) ?_)))))
 rintro _ ⟨_, rfl, -⟩
 refine Af 2 I (Ad 141 I B (Af 1 I (Bf I I I (vJ [] I (Cw I (.refl _) I I (.cons (.us 4 I) (.rest _)) I (Pq _ _ ac) dS (by rintro _ _ ⟨rfl, _⟩; rfl) ?_)))))
 rintro _ ⟨_, rfl, -⟩
 refine Af 1 I (Bf I I I (vJ [] I (Cw I (.refl _) I I (.cons (.us 4 I) (.rest _)) I (Wi _ _ ad) dS (by rintro _ _ ⟨rfl, _⟩; rfl) ?_)))
 rintro _ ⟨_, rfl, -⟩
 exact Af 3 I (Ad 148 I F (Af 3 I (vI (lg ⟨false, h, I2⟩ []))))
 have h := B8 B h
 refine vH (Af 4 I (Ad 126 I j (Af 5 I (Ad 131 I p (Af 2 I (Bf I I I (vJ [] I (Cw I (.refl _) I I (.cons (.us 3 I) (.cons (.us 4 I) (.rest _))) I (F4 _ _ _ G) dS (by rintro _ _ ⟨rfl, _⟩; rfl) ?_))))))))
 rintro _ ⟨_, rfl, -⟩
 refine Af 2 I (Ad 136 I w (Af 2 I (Bf I I I (vJ [] I (Cw I (.refl _) I I (.cons (.us 5 I) (.cons (.us 6 I) (.rest _))) I (F4 _ _ _ U) dS (by rintro _ _ ⟨rfl, _⟩; rfl) ?_)))))
 rintro _ ⟨_, rfl, -⟩
 exact Af 2 I (Ad 141 I B (Af 10 I (vI (lg ⟨false, h, I2⟩ []))))
 have h := B8 w h
 refine vH (Af 4 I (Ad 126 I j (Af 5 I (Ad 131 I p (Af 2 I (Bf I I I (vJ [] I (Cw I (.refl _) I I (.cons (.us 3 I) (.cons (.us 4 I) (.rest _))) I (F4 _ _ _ G) dS (by rintro _ _ ⟨rfl, _⟩; rfl) ?_))))))))
 rintro _ ⟨_, rfl, -⟩
 exact Af 2 I (Ad 136 I w (Af 15 I (vI (lg ⟨false, h, I2⟩ []))))
 have h := B8 p h
 exact vH (Af 4 I (Ad 126 I j (Af 5 I (Ad 131 I p (Af 20 I (vI (lg ⟨false, h, I2⟩ [])))))))
 have h := B8 j h
 exact vH (Af 4 I (Ad 126 I j (Af 25 I (vI (lg ⟨false, h, I2⟩ [])))))
 rintro s ob ⟨S, h, rfl, rfl⟩
 unfold bC.J3 at h
 cases io h
 exact vO pr
end Go.Proofs.YtmaamhgjeampmaaGreat
