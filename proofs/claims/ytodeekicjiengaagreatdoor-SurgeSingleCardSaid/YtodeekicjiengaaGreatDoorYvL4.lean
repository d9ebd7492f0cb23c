/- Walks that show what functions of the program compute; printed by a program of ours. No condition. -/
import Derived.Test.YtodeekicjiengaaGreatDoorYvL1
set_option maxRecDepth 100000
namespace Go.Proofs.YtodeekicjiengaaGreatDoor
open Go.Aw
set_option linter.unusedVariables false
set_option linter.unusedSimpArgs false
set_option maxHeartbeats 4000000
theorem gL (a : Li) (r : KS) (h : Vo a = some r) : ACalls Aj 6 [Q0 a] [] (fun x new => ∃ (c : Nat), x = .v (.pointer (some ⟨c, 0, none⟩)) ∧ new = [O2 c [Cp r]]) := by
 refine Ad Tryz.func6 I I I fun C hC => ?_
 refine Ah I (sN ?_)
 obtain ⟨b, e, h⟩ := Ac h
 obtain ⟨f, g, i, j, k, n, o⟩ := Qw e
 refine sH (An 4 [.l 2 (a.length : Int)] I ⟨Ay, J⟩ (sT (Wc f g 0 I I I I I (qY i) ⟨_, _, I, j⟩ I k n o) I (sT (Au (l := [Q0 b, .V 0]) Z1 I) I (sJ [] I (Bo [Q0 b, .V 0] 2 fun d => Ag 1 I (sI ?_))))))
 obtain rfl := oi h
 exact sO ⟨.inr I, [_], [O2 d [[Q0 b, .V 0]]], J1, Cy I (Cm), ⟨d, I2⟩⟩
theorem eA (b : Nat) (a : KS) (r : Int × KS) (h : Uw a = some r) : ACalls Aj 40 [.v (.pointer (some ⟨b, 0, none⟩))] [O2 b [Cp a]] (D6 1 fun x os new => x = .V r.1 ∧ os = [O2 b [Cp r.2]] ∧ new = []) := by
 refine Ad Tryz.func40 I I I fun C hC => ?_
 refine Ah I (Aa fun j d => Ke (pd 10 0 []) [0] [_] [.o 3 0, .o 7 0, .l 8 (a.L_.length : Int)] I I ⟨Ay, I, I, J⟩ (Ar h I ?_ ?_))
 intro e h
 refine Ah I ?_
 obtain rfl := oi h
 exact sO ⟨.inr I, [_], [O2 b [Cp a]], J1, Cy I (Cm), ⟨[O2 b [Cp a]], [], I5⟩⟩
 intro e h
 refine sL ?_
 subst d
 refine Aa fun k f => sH (An 7 [.o 3 0] I J1 (sJ [0] I (A3 0 0 1 [[Q0 a.L_, .V (wr (a.At + 1))]] I (sI ?_))))
 subst f
 refine sN ?_
 obtain ⟨c, ⟨g, i⟩, h⟩ := A5 h
 refine Il (pd 12 0 []) [0] [_] [.o 3 0, .o 7 0, .x 9 c.1 (rI c.2)] I I ⟨⟨g, Ae i⟩, I, I, J⟩ ?_
 obtain rfl := oi h
 exact sO ⟨.inr I, [_], [O2 b [[Q0 a.L_, .V (wr (a.At + 1))]]], J1, Cy I (Cm), ⟨[O2 b [[Q0 a.L_, .V (wr (a.At + 1))]]], [], I5⟩⟩
theorem Di (a : Nat) (b : KS) (d : Int) (r : Int × KS) (h : D5 b d = some r) : ACalls Aj 20 [.v (.pointer (some ⟨a, 0, none⟩)), .V d] [O2 a [Cp b]] (D6 1 fun x os new => x = .V r.1 ∧ os = [O2 a [Cp r.2]] ∧ new = []) := by
 refine Ad Tryz.func20 I I I fun C hC => ?_
 refine Ah I (sN ?_)
 obtain ⟨e, f, h⟩ := Ac h
 obtain ⟨i, g, h⟩ := Ac h
 refine sH (Ag 1 I (sJ [0] I (A1 [0] (eA a _ _ f) ?_)))
 refine Ag 1 I (Cc (iK _ _ _ g) (Ag 1 I (sI ?_)))
 obtain rfl := oi h
 exact sO ⟨.inr I, [_], [O2 a [Cp e.2]], J1, Cy I (Cm), ⟨[O2 a [Cp e.2]], [], I5⟩⟩
theorem C3 (b : Bt) (a : Int) (r : Bt) (h : Hy b a = some r) : ACalls Aj 18 [.v (.string b), .V a] [] (fun x new => x = .v (.string r) ∧ new = []) := by
 refine Ad Tryz.func18 I I I fun C hC => ?_
 refine Ah I (sN ?_)
 obtain ⟨g, d, h⟩ := Ac h
 obtain ⟨i, e, h⟩ := Ac h
 refine sH (An 4 [.f 2 (.V (a.tmod 26))] I ⟨Yp.yd (Em (c := (a.tmod 26)) I I ⟨by decide, I⟩), J⟩ (sT (L7 (c := IntKind.u8.wrap (wr (97 + (a.tmod 26)))) I I I I I) I (sJ [] I (sX (sz := 1) (es := ([IntKind.u8.wrap (wr (97 + (a.tmod 26)))] : Li).map (rK .u8)) I I I I I I I I I I I dS fun j => sJ [] I (iQ 0 d I I I I I I I I dS (sT (lL I I (kY e)) I (Ag 1 I (sI (sP g0 ?_)))))))))
 obtain rfl := oi h
 exact sO pr
theorem Al (a : Nat) (c : KS) (b : Li) (r : Int × KS) (h : Ek c b = some r) : ACalls Aj 16 [.v (.pointer (some ⟨a, 0, none⟩)), Q0 b] [O2 a [Cp c]] (D6 1 fun x os new => x = .V r.1 ∧ os = [O2 a [Cp r.2]] ∧ new = []) := by
 refine Ad Tryz.func16 I I I fun C hC => ?_
 refine Ah I (sN ?_)
 obtain ⟨d, f, h⟩ := Ac h
 obtain ⟨e, ⟨g, i⟩, h⟩ := A5 h
 refine sH (An 4 [.l 3 (b.length : Int)] I ⟨Ay, J⟩ (sJ [0] I (A1 [0] (Di a _ _ _ f) ?_)))
 refine An 3 [.x 0 e.1 (rI e.2)] I ⟨⟨g, Ae i⟩, J⟩ (sI ?_)
 obtain rfl := oi h
 exact sO ⟨.inr I, [_], [O2 a [Cp d.2]], J1, Cy I (Cm), ⟨[O2 a [Cp d.2]], [], I5⟩⟩
theorem Ea (a : Nat) (b : KS) (c : Int) (d : Int) (r : Int × KS) (h : Fo b c d = some r) : ACalls Aj 17 [.v (.pointer (some ⟨a, 0, none⟩)), .V c, .V d] [O2 a [Cp b]] (D6 1 fun x os new => x = .V r.1 ∧ os = [O2 a [Cp r.2]] ∧ new = []) := by
 refine Ad Tryz.func17 I I I fun C hC => ?_
 refine Ah I (sN ?_)
 obtain ⟨e, f, h⟩ := Ac h
 refine sH (Ag 6 I (sJ [0] I (A1 [0] (Di a _ _ _ f) ?_)))
 refine Ag 2 I (sI ?_)
 obtain rfl := oi h
 exact sO ⟨.inr I, [_], [O2 a [Cp e.2]], J1, Cy I (Cm), ⟨[O2 a [Cp e.2]], [], I5⟩⟩
theorem Tw (b : Nat) (Y : KS) (S : Int) (F : Int) (G : Int) (r : Sg × KS) (h : M2 Y S F G = some r) : ACalls Aj 19 [.v (.pointer (some ⟨b, 0, none⟩)), .V S, .V F, .V G] [O2 b [Cp Y]] (D6 1 fun x os new => x = .agg (Ak r.1) ∧ os = [O2 b [Cp r.2]] ∧ new = []) := by
 refine Ad Tryz.func19 I I I fun C hC => ?_
 unfold M2 at h
 refine Aa fun y1 aj => sH (sJ [] I (sS W2 7 fun y => sI ?_))
 subst aj
 refine Ai (fun s ob => ∃ (a : Li × Int × Int × Int), M2.J1 S a = some r ∧ s = [(2, .V a.2.2.1), (3, .V a.2.2.2)] ∧ ob = [O2 b [[Q0 a.1, .V a.2.1]], O5 y [W2]]) [(0, _), (1, _), (8, _)] J3 ?_ ?_
 refine sN ?_
 obtain ⟨H, ak, h⟩ := Ac h
 refine sH (Ag 1 I (sJ [0] I (A1 [0] (Di b _ _ _ ak) ?_)))
 refine Ag 1 I (sI (Ar h I ?_ ?_))
 intro al h
 refine Sj I ?_
 exact lg ⟨(H.2.L_, H.2.At, G, F), h, I2⟩ [0, 1]
 intro al h
 refine sL ?_
 exact lg ⟨(H.2.L_, H.2.At, F, G), h, I2⟩ [0, 1]
 rintro s ob ⟨a, h, rfl, rfl⟩
 refine Aa fun y7 am => ?_
 obtain ⟨g, an, h⟩ := Ac h
 obtain ⟨e, ao, h⟩ := Ac h
 obtain ⟨i, aq, h⟩ := Ac h
 obtain ⟨j, ar, h⟩ := Ac h
 refine sH (Ag 1 I (Cc (C3 _ _ _ an) (Ag 3 I (sJ [] I (sR 1 (([1, 2, 7, 20, 60, 200, 1000] : Li).map rI) (sJ [0] I (A1 [0] (Al b _ _ _ ao) ?_)))))))
 refine Ag 1 I (sJ [] I (sR 1 (([0, 1, 5, 1000] : Li).map rI) (sJ [0] I (A1 [0] (Al b _ _ _ aq) ?_))))
 refine Ag 1 I (sJ [] I (sR 1 (([0, 50, 1000, 100000] : Li).map rI) (sJ [0] I (A1 [0] (Al b _ _ _ ar) ?_))))
 refine sT (Au (l := [.v (.string g), .V a.2.2.1, .V a.2.2.2, .V e.1, .V i.1, .V j.1, .N]) Gz I) I (sJ [] I (sS W2 7 fun M => sJ [2] I (A3 2 0 0 [[.v (.string g), .V a.2.2.1, .V a.2.2.2, .V e.1, .V i.1, .V j.1, .N]] I (sI ?_))))
 subst am
 refine Aa fun bd au => ?_
 obtain ⟨k, av, h⟩ := Ac h
 refine sH (Ag 1 I (sJ [] I (sR 1 (([1000000, 6000000, 100000000] : Li).map rI) (sJ [0] I (A1 [0] (Al b _ _ _ av) ?_)))))
 refine Ag 1 I (sI ?_)
 subst au
 refine Aa fun be aw => ?_
 obtain ⟨Z, ax, h⟩ := Ac h
 obtain ⟨bf, aa, h⟩ := Ac h
 refine By (sl 3 0 (.still 4 (.act 3 (.still 5 (.act 6 (.act 7 (.still 8 (.drop 9 .nil)))))))) [2] [_] I (B8 4 [.o 1 0] I J1 (sK [0] I I I (A1 [0] (Ea b _ _ _ _ ax) ?_)))
 refine tC I (Au (l := [.V 0, .V Z.1, .V k.1]) E7 I) I (sK [] I I I (sR 3 (([(⟨0, Z.1, k.1⟩ : Point)] : List Point).map Bi) (sK [] I I I (Z4 I I I I I I I I (AppSrc.list I) (lE (Gv aa).1) (lD (Gv aa).2) dS fun ab => Bg 1 I (sU 3 I fun ay => tB [2] I I I (sZ 2 0 6 (es' := [[.v (.string g), .V a.2.2.1, .V a.2.2.2, .V e.1, .V i.1, .V j.1, .v ab]]) I I I I I I (A7 ay) I (Ca I) I I (Ap (sI ?_))))))))
 subst aw
 refine Ai (fun s ob => ∃ (A : Li × Int × (List Point)) (U : Value), M2.J2 a g e i j k A = some r ∧ s = [] ∧ ob = [O2 b [[Q0 A.1, .V A.2.1]], O5 y [W2], O5 M [[.v (.string g), .V a.2.2.1, .V a.2.2.2, .V e.1, .V i.1, .V j.1, .v U]], rN U A.2.2]) [(0, _), (8, _), (9, _), (10, _)] J4 ?_ ?_
 refine Ah I (sM ?_)
 obtain ⟨bg, az, ac⟩ := Ac h
 clear h
 refine Cs az [(0, _), (8, _), (9, _), (10, _)] J4 (fun (f : Li × Int × (List Point) × Int) s ob => ∃ (n : Value), s = [(11, .V f.2.2.2)] ∧ ob = [O2 b [[Q0 f.1, .V f.2.1]], O5 y [W2], O5 M [[.v (.string g), .V a.2.2.1, .V a.2.2.2, .V e.1, .V i.1, .V j.1, .v n]], rN n f.2.2.1]) ⟨ab, I2⟩ ⟨I, J⟩ ⟨[0, 1, 2, 3], I, by decide⟩ ?_
 rintro f a0 s ob ⟨n, rfl, rfl⟩ h ad
 unfold M2.B3 at h
 refine Aa fun bh a1 => Ai (fun s ob => ∃ (u : Li × Int × Bool), M2.J4 e k f u = some a0 ∧ s = [(51, .v (.bool u.2.2))] ∧ ob = [O2 b [[Q0 u.1, .V u.2.1]], O5 y [W2], O5 M [[.v (.string g), .V a.2.2.1, .V a.2.2.2, .V e.1, .V i.1, .V j.1, .v n]], rN n f.2.2.1]) [(0, _), (8, _), (9, _), (10, _), (11, _)] J5 ?_ ?_
 rcases bt (decide ((f.2.2.1.length : Int) < 7)) with B | B
 replace h := Bq B h
 obtain ⟨W, a2, h⟩ := Ac h
 refine sH (An 2 [.o 1 2] I J1 (sV (Cz 3 I I I I) I (Ag 2 I (Af 47 I B (Ag 1 I (Cd I I I (sJ [0] I (A1 [0] (Di b _ _ _ a2) ?_))))))))
 refine Ag 2 I (sI ?_)
 exact lg ⟨(W.2.L_, W.2.At, decide (W.1 > 0)), h, I2⟩ [0, 1, 2, 3]
 replace h := Br B h
 refine sH (An 2 [.o 1 2] I J1 (sV (Cz 3 I I I I) I (Ag 2 I (Af 47 I B (Ag 4 I (sI ?_))))))
 exact lg ⟨(f.1, f.2.1, false), h, I2⟩ [0, 1, 2, 3]
 rintro s ob ⟨u, h, rfl, rfl⟩
 refine Ar h I ?_ ?_
 intro a3 h
 refine sL ?_
 subst a1
 refine sM (Aa fun bi a4 => ?_)
 obtain ⟨w, a5, h⟩ := Ac h
 refine sH (Ag 2 I (sJ [0] I (A1 [0] (Ea b _ _ _ _ a5) ?_)))
 refine Ag 2 I (sI ?_)
 subst a4
 refine Aa fun bj a6 => Bh [.o 2 2] I J1 (Ar h I ?_ ?_)
 intro a7 h
 obtain rfl := ad _ (oi h).symm
 replace h := ac
 refine sQ ?_
 exact lg ⟨(w.2.L_, w.2.At, f.2.2.1), n, h, I2⟩ [0, 1, 2, 3]
 intro a7 h
 refine sL ?_
 subst a6
 obtain ⟨O, ae, h⟩ := Ac h
 obtain ⟨P, af, h⟩ := Ac h
 obtain ⟨Q, ag, h⟩ := Ac h
 obtain ⟨bk, ah, h⟩ := Ac h
 refine By (sl 4 0 (.still 5 (.still 9 (.still 10 (.two 4 6 (.act 6 (.act 7 (.still 8 (.act 11 (sl 3 12 (.act 15 (.act 16 (.still 17 (.drop 18 .nil))))))))) (.act 4 (.act 7 (.still 8 (.act 11 (sl 3 12 (.act 15 (.act 16 (.still 17 (.drop 18 .nil)))))))))))))) [2] [_] I (B8 7 [.o 1 0] I J1 (sW ?_ ?_))
 refine sK [0] I I I (A1 [0] (Ea b _ _ _ _ ae) ?_)
 refine sK [] I I I (sR 1 (([1, 1, 10] : Li).map rI) (sK [0] I I I (A1 [0] (Al b _ _ _ af) ?_)))
 refine Bg 1 I (sK [0] I I I (A1 [0] (Di b _ _ _ ag) ?_))
 refine Bg 2 I (tC I (Au (l := [.V (wr (f.2.2.2 + w.1)), .V (wr (O.1 * P.1)), .V (wr (k.1 - (wr (Q.1 * 1000))))]) E7 I) I (sK [] I I I (sR 3 (([(⟨wr (f.2.2.2 + w.1), wr (O.1 * P.1), wr (k.1 - (wr (Q.1 * 1000)))⟩ : Point)] : List Point).map Bi) (sK [3] I I I (C7 3 I ah fun D => Bg 1 I (sU 3 I fun X => tB [2] I I I (sZ 2 0 6 (es' := [[.v (.string g), .V a.2.2.1, .V a.2.2.2, .V e.1, .V i.1, .V j.1, .v D]]) I I I I I I (A7 X) I (Ca I) I I (Ap ?_))))))))
 obtain rfl := oi h
 exact sI ⟨_, _, _, I, ⟨D, I2⟩, J5, [0, 1, 2, 3], I, by decide⟩
 refine sK [] I I I (sR 1 (([1, 1, 10] : Li).map rI) (sK [0] I I I (A1 [0] (Ea b _ _ _ _ ae) ?_)))
 refine sK [0] I I I (A1 [0] (Al b _ _ _ af) ?_)
 refine Bg 1 I (sK [0] I I I (A1 [0] (Di b _ _ _ ag) ?_))
 refine Bg 2 I (tC I (Au (l := [.V (wr (f.2.2.2 + w.1)), .V (wr (O.1 * P.1)), .V (wr (k.1 - (wr (Q.1 * 1000))))]) E7 I) I (sK [] I I I (sR 3 (([(⟨wr (f.2.2.2 + w.1), wr (O.1 * P.1), wr (k.1 - (wr (Q.1 * 1000)))⟩ : Point)] : List Point).map Bi) (sK [3] I I I (C7 3 I ah fun D => Bg 1 I (sU 3 I fun X => tB [2] I I I (sZ 2 0 6 (es' := [[.v (.string g), .V a.2.2.1, .V a.2.2.2, .V e.1, .V i.1, .V j.1, .v D]]) I I I I I I (A7 X) I (Ca I) I I (Ap ?_))))))))
 obtain rfl := oi h
 exact sI ⟨_, _, _, I, ⟨D, I2⟩, J5, [0, 1, 2, 3], I, by decide⟩
 intro a3 h
 obtain rfl := ad _ (oi h).symm
 replace h := ac
 refine sQ ?_
 exact lg ⟨(u.1, u.2.1, f.2.2.1), n, h, I2⟩ [0, 1, 2, 3]
 rintro s ob ⟨A, U, h, rfl, rfl⟩
 refine sN ?_
 obtain ⟨E, a8, h⟩ := Ac h
 obtain ⟨ai, a9, h⟩ := Ac h
 refine By (sl 5 0 (.still 6 (.act 5 (.still 7 (.act 8 (.act 9 (.still 10 (.drop 11 .nil)))))))) [2] [_] I (B8 6 [.o 1 0, .o 3 0] I J2 (sK [0] I I I (A1 [0] (Ea b _ _ _ _ a8) ?_)))
 refine tC I (Au (l := [.V e.1, .V E.1, .V k.1]) E7 I) I (sK [] I I I (sR 3 (([(⟨e.1, E.1, k.1⟩ : Point)] : List Point).map Bi) (sK [3] I I I (C7 3 I a9 fun R => Bg 1 I (sU 3 I fun ba => tB [2] I I I (sZ 2 0 6 (es' := [[.v (.string g), .V a.2.2.1, .V a.2.2.2, .V e.1, .V i.1, .V j.1, .v R]]) I I I I I I (A7 ba) I (Ca I) I I (Ap (sI (sN (sH (An 1 [.o 0 2] I J1 (sJ [1] I (A3 1 0 0 [[.v (.string g), .V a.2.2.1, .V a.2.2.2, .V e.1, .V i.1, .V j.1, .v R]] I (sI ?_))))))))))))))
 refine sP (Bk [3] (K := [rN R ai]) I [] J (ob' := [O2 b [Cp E.2], O5 y [[.v (.string g), .V a.2.2.1, .V a.2.2.2, .V e.1, .V i.1, .V j.1, qS ai]], O5 M [[.v (.string g), .V a.2.2.1, .V a.2.2.2, .V e.1, .V i.1, .V j.1, .v R]]]) (.cons (.same _) (.cons (.arr (.cons (.refl _) (.cons (.refl _) (.cons (.refl _) (.cons (.refl _) (.cons (.refl _) (.cons (.refl _) (.cons (.us 0 I) (.rest _))))))))) (.rest _)))) (Cu [0, 1] I ?_)
 obtain rfl := oi h
 exact sO ⟨.inr I, [_], [O2 b [Cp E.2]], ⟨⟨1, _, _, _, _, _, _, _, I5⟩, J⟩, Cy I (Cm), ⟨[O2 b [Cp E.2]], [], I5⟩⟩
end Go.Proofs.YtodeekicjiengaaGreatDoor
