/- Walks that show what functions of the program compute; printed by a program of ours. No condition. -/
import Derived.Test.YtmaamhgjeampmaaGreatYtLh1
import Derived.Test.YtmaamhgjeampmaaGreatYtD
set_option maxRecDepth 100000
namespace Go.Proofs.YtmaamhgjeampmaaGreat
open Go.Aw
set_option linter.unusedVariables false
set_option linter.unusedSimpArgs false
set_option maxHeartbeats 4000000
theorem Ic (k : List Path) (p : List Path) (r : List Path) (h : M1 k p = some r) : ACalls Am 22 [.list 4 (k.map Aj), .list 4 (p.map Aj)] [] (fun x new => ∃ (t : Value), x = .v t ∧ new = [.us t 52 4 (r.map Aj)]) := by
 refine Ag Tryz.func22 rfl rfl rfl fun C hC => ?_
 unfold M1 at h
 refine Aq I (Aq I (Al (fun s ob => ∃ (f : List Path) (d : Value), M1.J1 f = some r ∧ s = [(5, .v d)] ∧ ob = [.us d 52 4 (f.map Aj)]) [] J ?_ ?_))
 refine Aq I (nJ (nM (Bo 52 4) ?_))
 obtain ⟨W, y, A⟩ := Ac h
 clear h
 refine Bz y [(0, _), (1, _)] J2 (fun (b : (List Path) × Int) s ob => ∃ (e : Value), s = [(5, .v e), (6, .V b.2)] ∧ ob = [.us e 52 4 (b.1.map Aj)]) ⟨(.slice none 0 0), I2⟩ ⟨I, I, J⟩ ⟨[0], I, by decide⟩ ?_
 rintro b B s ob ⟨e, rfl, rfl⟩ h D
 unfold M1.B2 at h
 refine Aa fun X E => Bu [.l 2 (k.length : Int)] I ⟨Bh, J⟩ (Ay h I ?_ ?_)
 intro F h
 refine nI ?_
 subst E
 refine Al (fun s ob => ∃ (n : List Path) (g : Value), M1.J3 b n = some B ∧ s = [(5, .v g)] ∧ ob = [.us g 52 4 (n.map Aj)]) [(0, _), (1, _), (6, _)] J3 ?_ ?_
 refine nJ (Aa fun Y G => ?_)
 obtain ⟨i, ⟨u, w⟩, h⟩ := Bk h
 obtain ⟨Z, H, h⟩ := Ac h
 refine nD (Ap 5 [.x 3 i.1 (Aj i.2)] I ⟨⟨u, Ah w⟩, J⟩ (Cg (cS _ _ _ H) (Af 1 I (nE ?_))))
 subst G
 refine Aq I (Ay h I ?_ ?_)
 intro K h
 refine Aa fun aa M => ?_
 obtain ⟨a, O, h⟩ := Ac h
 refine nD (Ap 4 [.x 2 i.1 (Aj i.2)] I ⟨⟨u, Ah w⟩, J⟩ (nG [] I (Bp I I I (Te _ _ O) dS ?_)))
 rintro _ _ ⟨rfl, rfl⟩
 refine nG [] I (nN (cs := [.V 0, .V 0, .N, .V 0]) (m := 4) I I I I I dS fun ab => nG [1] I (Ax 1 0 0 [Aj a] I (nE ?_)))
 subst M
 refine nH ?_
 obtain ⟨j, ⟨P, Q⟩, h⟩ := Bk h
 refine Bw (sl 9 0 (.drop 9 .nil)) [1] [_] I (By 9 [.o 1 0, .x 4 j.1 (Aj j.2)] I ⟨⟨P, Ah Q⟩, I, J⟩ (nW [1] I I I (Ax 1 0 3 [[.V a.In, .V a.Out, .list 2 (a.Hops.map Bc), .V (min a.Rate j.2.Rate)]] I (Ak (nE ?_)))))
 obtain ⟨R, S, h⟩ := Ac h
 refine nD (Ap 2 [.o 1 1] I J1 (nG [] I (nR 4 (([(⟨a.In, a.Out, a.Hops, (min a.Rate j.2.Rate)⟩ : Path)] : List Path).map Aj) (nG [0] I (Bf 0 I S fun U => Af 1 I (nE ?_))))))
 exact lg ⟨R, U, h, I2⟩ [0]
 intro K h
 refine nI ?_
 exact lg ⟨b.1, e, h, I2⟩ [0]
 rintro s ob ⟨n, g, h, rfl, rfl⟩
 unfold M1.J3 at h
 refine nD (Af 3 I ?_)
 obtain rfl := oi h
 refine nE ?_
 exact ⟨_, _, _, I, ⟨g, I2⟩, J4, [0], I, by decide⟩
 intro F h
 obtain rfl := D _ (oi h).symm
 replace h := A
 refine nO ?_
 exact lg ⟨b.1, e, h, I2⟩ [0]
 rintro s ob ⟨f, d, h, rfl, rfl⟩
 unfold M1.J1 at h
 refine Aq I ?_
 obtain rfl := oi h
 exact nK ⟨.inr I, [_], [.us d 52 4 (f.map Aj)], J1, Dn I (Cf), ⟨d, I2⟩⟩
theorem Fa (S : Network) (aj : List Path) (ak : List Bool) (r : Plan × Int) (h : M6 S aj ak = some r) : ACalls Am 21 [.agg (Ab S), .list 4 (aj.map Aj), .list 1 (ak.map rB)] [] (fun x new => x = .tup [.agg (As r.1), .V r.2] ∧ new = []) := by
 refine Ag Tryz.func21 rfl rfl rfl fun C hC => ?_
 unfold M6 at h
 refine Aa fun y1 bg => nD (nG [] I (nQ (cs := Ab S) (m := 6) I I I dS fun Y => nG [] I (nN (cs := [.N, .N, .N]) (m := 3) I I I I I dS fun Z => Af 1 I (nE ?_))))
 subst bg
 refine Aa fun y4 bh => nH ?_
 obtain ⟨r5, bi, h⟩ := Ac h
 refine nD (Ap 1 [.o 0 0] I J1 (Cg (If _ _ bi) (Af 1 I (nE (Aq I (Ay h I ?_ ?_))))))
 intro bj h
 refine nH (nD (Ck (Ao (l := [.N, .N, .N]) Az I) I (Af 1 I (nG [1] I (Ax 1 0 0 [[.N, .N, .N]] I (Af 1 I (nE (nM (A0 [] (K := []) I [] J (ob' := [.arr Y 32 6 1 [Ab S], .arr Z 37 3 1 [[.list 1 ([].map rI), .list 1 ([].map rI), .list 1 ([].map rB)]]]) (.cons (.same _) (.cons (.arr (.cons (.nil _) (.cons (.nil _) (.cons (.nil _) (.rest _))))) (.rest _)))) (Cb [1] I ?_)))))))))
 obtain rfl := oi h
 exact nK ⟨.inr I, [_, _], [], ⟨⟨0, _, _, _, _, _, _, _, I5⟩, I, J⟩, Cf, I2⟩
 intro bj h
 refine nI ?_
 subst bh
 refine Aa fun y8 bk => Bu [.l 1 (aj.length : Int)] I ⟨Bh, J⟩ (Ay h I ?_ ?_)
 intro bl h
 refine nH (nD (Ck (Ao (l := [.N, .N, .N]) Az I) I (nG [1] I (Ax 1 0 0 [[.N, .N, .N]] I (Af 1 I (nE (nM (A0 [] (K := []) I [] J (ob' := [.arr Y 32 6 1 [Ab S], .arr Z 37 3 1 [[.list 1 ([].map rI), .list 1 ([].map rI), .list 1 ([].map rB)]]]) (.cons (.same _) (.cons (.arr (.cons (.nil _) (.cons (.nil _) (.cons (.nil _) (.rest _))))) (.rest _)))) (Cb [1] I ?_))))))))
 obtain rfl := oi h
 exact nK ⟨.inr I, [_, _], [], ⟨⟨0, _, _, _, _, _, _, _, I5⟩, I, J⟩, Cf, I2⟩
 intro bl h
 refine nI ?_
 subst bk
 refine Al (fun s ob => ∃ (G : (List Int) × (List Int) × (List Bool)) (aa : Nat) (D : Value) (E : Value) (F : Value), M6.J1 S aj ak G = some r ∧ s = [(9, .v (.pointer (some ⟨aa, 0, none⟩)))] ∧ ob = [.arr Y 32 6 1 [Ab S], .arr Z 37 3 1 [[.N, .N, .N]], .us D 3 1 (G.1.map rI), .us E 3 1 (G.2.1.map rI), .us F 4 1 (G.2.2.map rB), .arr aa 37 3 1 [[.v D, .v E, .v F]]]) [(1, _), (2, _), (3, _), (6, _)] J4 ?_ ?_
 obtain ⟨u, ⟨cw, H, M, O⟩, h⟩ := Hx h
 obtain ⟨w, ⟨cx, P, Q, R⟩, h⟩ := Hx h
 obtain ⟨A, B, h⟩ := Ac h
 refine Bw (sl 3 0 (sl 3 4 (.still 9 (.four 3 7 8 12 (.three 7 8 12 (.two 8 12 (.two 10 12 (.still 11 (.act 12 (.act 13 .nil))) (.act 10 (.still 11 (.act 13 .nil)))) (.act 8 (.act 10 (.still 11 (.act 13 .nil))))) (.three 7 10 12 (.two 10 12 (.still 11 (.act 12 (.act 13 .nil))) (.act 10 (.still 11 (.act 13 .nil)))) (.par [(7, []), (12, []), (11, [7])] (.act 13 .nil)) (.two 7 10 (.act 10 (.still 11 (.act 13 .nil))) (.act 7 (.still 11 (.act 13 .nil))))) (.two 7 8 (.act 8 (.act 10 (.still 11 (.act 13 .nil)))) (.two 7 10 (.act 10 (.still 11 (.act 13 .nil))) (.act 7 (.still 11 (.act 13 .nil)))))) (.three 3 8 12 (.two 8 12 (.two 10 12 (.still 11 (.act 12 (.act 13 .nil))) (.act 10 (.still 11 (.act 13 .nil)))) (.act 8 (.act 10 (.still 11 (.act 13 .nil))))) (.three 3 10 12 (.two 10 12 (.still 11 (.act 12 (.act 13 .nil))) (.act 10 (.still 11 (.act 13 .nil)))) (.par [(3, []), (12, []), (11, [3])] (.act 13 .nil)) (.two 3 10 (.act 10 (.still 11 (.act 13 .nil))) (.act 3 (.still 11 (.act 13 .nil))))) (.two 3 8 (.act 8 (.act 10 (.still 11 (.act 13 .nil)))) (.two 3 10 (.act 10 (.still 11 (.act 13 .nil))) (.act 3 (.still 11 (.act 13 .nil)))))) (.four 3 7 10 12 (.three 7 10 12 (.two 10 12 (.still 11 (.act 12 (.act 13 .nil))) (.act 10 (.still 11 (.act 13 .nil)))) (.par [(7, []), (12, []), (11, [7])] (.act 13 .nil)) (.two 7 10 (.act 10 (.still 11 (.act 13 .nil))) (.act 7 (.still 11 (.act 13 .nil))))) (.three 3 10 12 (.two 10 12 (.still 11 (.act 12 (.act 13 .nil))) (.act 10 (.still 11 (.act 13 .nil)))) (.par [(3, []), (12, []), (11, [3])] (.act 13 .nil)) (.two 3 10 (.act 10 (.still 11 (.act 13 .nil))) (.act 3 (.still 11 (.act 13 .nil))))) (.par [(3, []), (7, []), (12, []), (11, [3, 7])] (.act 13 .nil)) (.three 3 7 10 (.two 7 10 (.act 10 (.still 11 (.act 13 .nil))) (.act 7 (.still 11 (.act 13 .nil)))) (.two 3 10 (.act 10 (.still 11 (.act 13 .nil))) (.act 3 (.still 11 (.act 13 .nil)))) (.par [(3, []), (7, [])] (.still 11 (.act 13 .nil))))) (.three 3 7 8 (.two 7 8 (.act 8 (.act 10 (.still 11 (.act 13 .nil)))) (.two 7 10 (.act 10 (.still 11 (.act 13 .nil))) (.act 7 (.still 11 (.act 13 .nil))))) (.two 3 8 (.act 8 (.act 10 (.still 11 (.act 13 .nil)))) (.two 3 10 (.act 10 (.still 11 (.act 13 .nil))) (.act 3 (.still 11 (.act 13 .nil))))) (.three 3 7 10 (.two 7 10 (.act 10 (.still 11 (.act 13 .nil))) (.act 7 (.still 11 (.act 13 .nil)))) (.two 3 10 (.act 10 (.still 11 (.act 13 .nil))) (.act 3 (.still 11 (.act 13 .nil)))) (.par [(3, []), (7, [])] (.still 11 (.act 13 .nil))))))))) [0] [_] I ?_
 refine By 7 [.o 1 0, .l 2 (S.Segments.length : Int), .o 4 0, .l 5 (S.Ports.length : Int)] I ⟨Bh, I, Bh, I, J⟩ (AP.four ?_ ?_ ?_ ?_)
 refine nF [] I I I (A3 (sz := 1) I I I I I I I I I I H M (Be (f := rI) O I) dS fun e => nX ?_ ?_ ?_)
 refine nF [] I I I (A3 (sz := 1) I I I I I I I I I I P Q (Be (f := rI) R I) dS fun g => nT ?_ ?_)
 refine nF [] I I I (nP (sz := 1) (es := ([] : List Bool).map rB) I I I I I I I I I I I dS fun ab => nT ?_ ?_)
 refine nF [4] I I I (Bf 4 I B fun a => nL 2 I fun i => nL 3 I fun j => nL 4 I fun k => Cr I (Ao (l := [.v e, .v g, .v a]) Az (Ae I I (Ai i) I (Ae I I (Ai j) I (Ae I I (Ai k) I (A8))))) I (nF [] I I I (nN (cs := [.N, .N, .N]) (m := 3) I I I I I dS fun n => nF [5] I I I (Ax 5 0 0 [[.v e, .v g, .v a]] I (Ak (nE ?_))))))
 exact lg ⟨(u, w, A), n, e, g, a, h, I2⟩ [0, 1, 2, 3, 4, 5]
 refine nF [] I I I (nN (cs := [.N, .N, .N]) (m := 3) I I I I I dS fun n => nF [4] I I I (Bf 4 I B fun a => nL 2 I fun i => nL 3 I fun j => nL 4 I fun k => Cr I (Ao (l := [.v e, .v g, .v a]) Az (Ae I I (Ai i) I (Ae I I (Ai j) I (Ae I I (Ai k) I (A8))))) I (nF [5] I I I (Ax 5 0 0 [[.v e, .v g, .v a]] I (Ak (nE ?_))))))
 exact lg ⟨(u, w, A), n, e, g, a, h, I2⟩ [0, 1, 2, 3, 4, 5]
 refine nF [] I I I (nN (cs := [.N, .N, .N]) (m := 3) I I I I I dS fun n => nF [] I I I (nP (sz := 1) (es := ([] : List Bool).map rB) I I I I I I I I I I I dS fun ab => nF [5] I I I (Bf 5 I B fun a => nL 2 I fun i => nL 3 I fun j => nL 5 I fun k => Cr I (Ao (l := [.v e, .v g, .v a]) Az (Ae I I (Ai i) I (Ae I I (Ai j) I (Ae I I (Ai k) I (A8))))) I (nF [4] I I I (Ax 4 0 0 [[.v e, .v g, .v a]] I (Ak (nE ?_)))))))
 exact lg ⟨(u, w, A), n, e, g, a, h, I2⟩ [0, 1, 2, 3, 5, 4]
 refine nF [] I I I (nP (sz := 1) (es := ([] : List Bool).map rB) I I I I I I I I I I I dS fun ab => nX ?_ ?_ ?_)
 refine nF [] I I I (A3 (sz := 1) I I I I I I I I I I P Q (Be (f := rI) R I) dS fun g => nT ?_ ?_)
 refine nF [3] I I I (Bf 3 I B fun a => nL 2 I fun i => nL 4 I fun j => nL 3 I fun k => Cr I (Ao (l := [.v e, .v g, .v a]) Az (Ae I I (Ai i) I (Ae I I (Ai j) I (Ae I I (Ai k) I (A8))))) I (nF [] I I I (nN (cs := [.N, .N, .N]) (m := 3) I I I I I dS fun n => nF [5] I I I (Ax 5 0 0 [[.v e, .v g, .v a]] I (Ak (nE ?_))))))
 exact lg ⟨(u, w, A), n, e, g, a, h, I2⟩ [0, 1, 2, 4, 3, 5]
 refine nF [] I I I (nN (cs := [.N, .N, .N]) (m := 3) I I I I I dS fun n => nF [3] I I I (Bf 3 I B fun a => nL 2 I fun i => nL 4 I fun j => nL 3 I fun k => Cr I (Ao (l := [.v e, .v g, .v a]) Az (Ae I I (Ai i) I (Ae I I (Ai j) I (Ae I I (Ai k) I (A8))))) I (nF [5] I I I (Ax 5 0 0 [[.v e, .v g, .v a]] I (Ak (nE ?_))))))
 exact lg ⟨(u, w, A), n, e, g, a, h, I2⟩ [0, 1, 2, 4, 3, 5]
 refine nF [3] I I I (Bf 3 I B fun a => nL 2 I fun i => nL 3 I fun k => AP.any [⟨7, [], 34, .us 3 1 (w.map rI)⟩, ⟨12, [], 9, .box 37 3 ([.N, .N, .N])⟩, ⟨11, [7], 38, .fn fun l => match l with | [.v g] => .agg [.v e, .v g, .v a] | _ => .tup []⟩] I ⟨⟨_, I, I, I, fun _ => A3 (sz := 1) I I I I I I I I I I P Q (Be (f := rI) R I) dS fun v => ⟨_, I, ⟨v, I⟩, I⟩⟩, ⟨_, I, I, I, fun _ => nN (cs := [.N, .N, .N]) (m := 3) I I I I I dS fun b => ⟨_, I, ⟨b, I⟩, I⟩⟩, ⟨_, I, I, I, fun g j _ => Cd (Yp.yd (Ao (l := [.v e, .v g, .v a]) Az (Ae I I (Ai i) I (Ae I I (Ai j) I (Ae I I (Ai k) I (A8)))))) dS ⟨_, I, I, nb⟩⟩, J⟩ ?_)
 intro g j n
 refine AP.same 38 (.agg [.v e, .v g, .v a]) I (nF [5] I I I (Ax 5 0 0 [[.v e, .v g, .v a]] I (Ak (nE ?_))))
 exact lg ⟨(u, w, A), n, e, g, a, h, I2⟩ [0, 1, 2, 4, 3, 5]
 refine nF [] I I I (nN (cs := [.N, .N, .N]) (m := 3) I I I I I dS fun n => nT ?_ ?_)
 refine nF [] I I I (A3 (sz := 1) I I I I I I I I I I P Q (Be (f := rI) R I) dS fun g => nF [3] I I I (Bf 3 I B fun a => nL 2 I fun i => nL 5 I fun j => nL 3 I fun k => Cr I (Ao (l := [.v e, .v g, .v a]) Az (Ae I I (Ai i) I (Ae I I (Ai j) I (Ae I I (Ai k) I (A8))))) I (nF [4] I I I (Ax 4 0 0 [[.v e, .v g, .v a]] I (Ak (nE ?_))))))
 exact lg ⟨(u, w, A), n, e, g, a, h, I2⟩ [0, 1, 2, 5, 3, 4]
 refine nF [3] I I I (Bf 3 I B fun a => nF [] I I I (A3 (sz := 1) I I I I I I I I I I P Q (Be (f := rI) R I) dS fun g => nL 2 I fun i => nL 5 I fun j => nL 3 I fun k => Cr I (Ao (l := [.v e, .v g, .v a]) Az (Ae I I (Ai i) I (Ae I I (Ai j) I (Ae I I (Ai k) I (A8))))) I (nF [4] I I I (Ax 4 0 0 [[.v e, .v g, .v a]] I (Ak (nE ?_))))))
 exact lg ⟨(u, w, A), n, e, g, a, h, I2⟩ [0, 1, 2, 5, 3, 4]
 refine nF [] I I I (nN (cs := [.N, .N, .N]) (m := 3) I I I I I dS fun n => nT ?_ ?_)
 refine nF [] I I I (A3 (sz := 1) I I I I I I I I I I P Q (Be (f := rI) R I) dS fun g => nF [] I I I (nP (sz := 1) (es := ([] : List Bool).map rB) I I I I I I I I I I I dS fun ab => nF [5] I I I (Bf 5 I B fun a => nL 2 I fun i => nL 4 I fun j => nL 5 I fun k => Cr I (Ao (l := [.v e, .v g, .v a]) Az (Ae I I (Ai i) I (Ae I I (Ai j) I (Ae I I (Ai k) I (A8))))) I (nF [3] I I I (Ax 3 0 0 [[.v e, .v g, .v a]] I (Ak (nE ?_)))))))
 exact lg ⟨(u, w, A), n, e, g, a, h, I2⟩ [0, 1, 2, 4, 5, 3]
 refine nF [] I I I (nP (sz := 1) (es := ([] : List Bool).map rB) I I I I I I I I I I I dS fun ab => nT ?_ ?_)
 refine nF [] I I I (A3 (sz := 1) I I I I I I I I I I P Q (Be (f := rI) R I) dS fun g => nF [4] I I I (Bf 4 I B fun a => nL 2 I fun i => nL 5 I fun j => nL 4 I fun k => Cr I (Ao (l := [.v e, .v g, .v a]) Az (Ae I I (Ai i) I (Ae I I (Ai j) I (Ae I I (Ai k) I (A8))))) I (nF [3] I I I (Ax 3 0 0 [[.v e, .v g, .v a]] I (Ak (nE ?_))))))
 exact lg ⟨(u, w, A), n, e, g, a, h, I2⟩ [0, 1, 2, 5, 4, 3]
 refine nF [4] I I I (Bf 4 I B fun a => nF [] I I I (A3 (sz := 1) I I I I I I I I I I P Q (Be (f := rI) R I) dS fun g => nL 2 I fun i => nL 5 I fun j => nL 4 I fun k => Cr I (Ao (l := [.v e, .v g, .v a]) Az (Ae I I (Ai i) I (Ae I I (Ai j) I (Ae I I (Ai k) I (A8))))) I (nF [3] I I I (Ax 3 0 0 [[.v e, .v g, .v a]] I (Ak (nE ?_))))))
 exact lg ⟨(u, w, A), n, e, g, a, h, I2⟩ [0, 1, 2, 5, 4, 3]
 refine nF [] I I I (A3 (sz := 1) I I I I I I I I I I P Q (Be (f := rI) R I) dS fun g => nX ?_ ?_ ?_)
 refine nF [] I I I (A3 (sz := 1) I I I I I I I I I I H M (Be (f := rI) O I) dS fun e => nT ?_ ?_)
 refine nF [] I I I (nP (sz := 1) (es := ([] : List Bool).map rB) I I I I I I I I I I I dS fun ab => nT ?_ ?_)
 refine nF [4] I I I (Bf 4 I B fun a => nL 3 I fun i => nL 2 I fun j => nL 4 I fun k => Cr I (Ao (l := [.v e, .v g, .v a]) Az (Ae I I (Ai i) I (Ae I I (Ai j) I (Ae I I (Ai k) I (A8))))) I (nF [] I I I (nN (cs := [.N, .N, .N]) (m := 3) I I I I I dS fun n => nF [5] I I I (Ax 5 0 0 [[.v e, .v g, .v a]] I (Ak (nE ?_))))))
 exact lg ⟨(u, w, A), n, e, g, a, h, I2⟩ [0, 1, 3, 2, 4, 5]
 refine nF [] I I I (nN (cs := [.N, .N, .N]) (m := 3) I I I I I dS fun n => nF [4] I I I (Bf 4 I B fun a => nL 3 I fun i => nL 2 I fun j => nL 4 I fun k => Cr I (Ao (l := [.v e, .v g, .v a]) Az (Ae I I (Ai i) I (Ae I I (Ai j) I (Ae I I (Ai k) I (A8))))) I (nF [5] I I I (Ax 5 0 0 [[.v e, .v g, .v a]] I (Ak (nE ?_))))))
 exact lg ⟨(u, w, A), n, e, g, a, h, I2⟩ [0, 1, 3, 2, 4, 5]
 refine nF [] I I I (nN (cs := [.N, .N, .N]) (m := 3) I I I I I dS fun n => nF [] I I I (nP (sz := 1) (es := ([] : List Bool).map rB) I I I I I I I I I I I dS fun ab => nF [5] I I I (Bf 5 I B fun a => nL 3 I fun i => nL 2 I fun j => nL 5 I fun k => Cr I (Ao (l := [.v e, .v g, .v a]) Az (Ae I I (Ai i) I (Ae I I (Ai j) I (Ae I I (Ai k) I (A8))))) I (nF [4] I I I (Ax 4 0 0 [[.v e, .v g, .v a]] I (Ak (nE ?_)))))))
 exact lg ⟨(u, w, A), n, e, g, a, h, I2⟩ [0, 1, 3, 2, 5, 4]
 refine nF [] I I I (nP (sz := 1) (es := ([] : List Bool).map rB) I I I I I I I I I I I dS fun ab => nX ?_ ?_ ?_)
 refine nF [] I I I (A3 (sz := 1) I I I I I I I I I I H M (Be (f := rI) O I) dS fun e => nT ?_ ?_)
 refine nF [3] I I I (Bf 3 I B fun a => nL 4 I fun i => nL 2 I fun j => nL 3 I fun k => Cr I (Ao (l := [.v e, .v g, .v a]) Az (Ae I I (Ai i) I (Ae I I (Ai j) I (Ae I I (Ai k) I (A8))))) I (nF [] I I I (nN (cs := [.N, .N, .N]) (m := 3) I I I I I dS fun n => nF [5] I I I (Ax 5 0 0 [[.v e, .v g, .v a]] I (Ak (nE ?_))))))
 exact lg ⟨(u, w, A), n, e, g, a, h, I2⟩ [0, 1, 4, 2, 3, 5]
 refine nF [] I I I (nN (cs := [.N, .N, .N]) (m := 3) I I I I I dS fun n => nF [3] I I I (Bf 3 I B fun a => nL 4 I fun i => nL 2 I fun j => nL 3 I fun k => Cr I (Ao (l := [.v e, .v g, .v a]) Az (Ae I I (Ai i) I (Ae I I (Ai j) I (Ae I I (Ai k) I (A8))))) I (nF [5] I I I (Ax 5 0 0 [[.v e, .v g, .v a]] I (Ak (nE ?_))))))
 exact lg ⟨(u, w, A), n, e, g, a, h, I2⟩ [0, 1, 4, 2, 3, 5]
 refine nF [3] I I I (Bf 3 I B fun a => nL 2 I fun j => nL 3 I fun k => AP.any [⟨3, [], 30, .us 3 1 (u.map rI)⟩, ⟨12, [], 9, .box 37 3 ([.N, .N, .N])⟩, ⟨11, [3], 38, .fn fun l => match l with | [.v e] => .agg [.v e, .v g, .v a] | _ => .tup []⟩] I ⟨⟨_, I, I, I, fun _ => A3 (sz := 1) I I I I I I I I I I H M (Be (f := rI) O I) dS fun v => ⟨_, I, ⟨v, I⟩, I⟩⟩, ⟨_, I, I, I, fun _ => nN (cs := [.N, .N, .N]) (m := 3) I I I I I dS fun b => ⟨_, I, ⟨b, I⟩, I⟩⟩, ⟨_, I, I, I, fun e i _ => Cd (Yp.yd (Ao (l := [.v e, .v g, .v a]) Az (Ae I I (Ai i) I (Ae I I (Ai j) I (Ae I I (Ai k) I (A8)))))) dS ⟨_, I, I, nb⟩⟩, J⟩ ?_)
 intro e i n
 refine AP.same 38 (.agg [.v e, .v g, .v a]) I (nF [5] I I I (Ax 5 0 0 [[.v e, .v g, .v a]] I (Ak (nE ?_))))
 exact lg ⟨(u, w, A), n, e, g, a, h, I2⟩ [0, 1, 4, 2, 3, 5]
 refine nF [] I I I (nN (cs := [.N, .N, .N]) (m := 3) I I I I I dS fun n => nT ?_ ?_)
 refine nF [] I I I (A3 (sz := 1) I I I I I I I I I I H M (Be (f := rI) O I) dS fun e => nF [3] I I I (Bf 3 I B fun a => nL 5 I fun i => nL 2 I fun j => nL 3 I fun k => Cr I (Ao (l := [.v e, .v g, .v a]) Az (Ae I I (Ai i) I (Ae I I (Ai j) I (Ae I I (Ai k) I (A8))))) I (nF [4] I I I (Ax 4 0 0 [[.v e, .v g, .v a]] I (Ak (nE ?_))))))
 exact lg ⟨(u, w, A), n, e, g, a, h, I2⟩ [0, 1, 5, 2, 3, 4]
 refine nF [3] I I I (Bf 3 I B fun a => nF [] I I I (A3 (sz := 1) I I I I I I I I I I H M (Be (f := rI) O I) dS fun e => nL 5 I fun i => nL 2 I fun j => nL 3 I fun k => Cr I (Ao (l := [.v e, .v g, .v a]) Az (Ae I I (Ai i) I (Ae I I (Ai j) I (Ae I I (Ai k) I (A8))))) I (nF [4] I I I (Ax 4 0 0 [[.v e, .v g, .v a]] I (Ak (nE ?_))))))
 exact lg ⟨(u, w, A), n, e, g, a, h, I2⟩ [0, 1, 5, 2, 3, 4]
 refine nF [] I I I (nN (cs := [.N, .N, .N]) (m := 3) I I I I I dS fun n => nT ?_ ?_)
 refine nF [] I I I (A3 (sz := 1) I I I I I I I I I I H M (Be (f := rI) O I) dS fun e => nF [] I I I (nP (sz := 1) (es := ([] : List Bool).map rB) I I I I I I I I I I I dS fun ab => nF [5] I I I (Bf 5 I B fun a => nL 4 I fun i => nL 2 I fun j => nL 5 I fun k => Cr I (Ao (l := [.v e, .v g, .v a]) Az (Ae I I (Ai i) I (Ae I I (Ai j) I (Ae I I (Ai k) I (A8))))) I (nF [3] I I I (Ax 3 0 0 [[.v e, .v g, .v a]] I (Ak (nE ?_)))))))
 exact lg ⟨(u, w, A), n, e, g, a, h, I2⟩ [0, 1, 4, 2, 5, 3]
 refine nF [] I I I (nP (sz := 1) (es := ([] : List Bool).map rB) I I I I I I I I I I I dS fun ab => nT ?_ ?_)
 refine nF [] I I I (A3 (sz := 1) I I I I I I I I I I H M (Be (f := rI) O I) dS fun e => nF [4] I I I (Bf 4 I B fun a => nL 5 I fun i => nL 2 I fun j => nL 4 I fun k => Cr I (Ao (l := [.v e, .v g, .v a]) Az (Ae I I (Ai i) I (Ae I I (Ai j) I (Ae I I (Ai k) I (A8))))) I (nF [3] I I I (Ax 3 0 0 [[.v e, .v g, .v a]] I (Ak (nE ?_))))))
 exact lg ⟨(u, w, A), n, e, g, a, h, I2⟩ [0, 1, 5, 2, 4, 3]
 refine nF [4] I I I (Bf 4 I B fun a => nF [] I I I (A3 (sz := 1) I I I I I I I I I I H M (Be (f := rI) O I) dS fun e => nL 5 I fun i => nL 2 I fun j => nL 4 I fun k => Cr I (Ao (l := [.v e, .v g, .v a]) Az (Ae I I (Ai i) I (Ae I I (Ai j) I (Ae I I (Ai k) I (A8))))) I (nF [3] I I I (Ax 3 0 0 [[.v e, .v g, .v a]] I (Ak (nE ?_))))))
 exact lg ⟨(u, w, A), n, e, g, a, h, I2⟩ [0, 1, 5, 2, 4, 3]
 refine nF [] I I I (nP (sz := 1) (es := ([] : List Bool).map rB) I I I I I I I I I I I dS fun ab => AP.four ?_ ?_ ?_ ?_)
 refine nF [] I I I (A3 (sz := 1) I I I I I I I I I I H M (Be (f := rI) O I) dS fun e => nX ?_ ?_ ?_)
 refine nF [] I I I (A3 (sz := 1) I I I I I I I I I I P Q (Be (f := rI) R I) dS fun g => nT ?_ ?_)
 refine nF [2] I I I (Bf 2 I B fun a => nL 3 I fun i => nL 4 I fun j => nL 2 I fun k => Cr I (Ao (l := [.v e, .v g, .v a]) Az (Ae I I (Ai i) I (Ae I I (Ai j) I (Ae I I (Ai k) I (A8))))) I (nF [] I I I (nN (cs := [.N, .N, .N]) (m := 3) I I I I I dS fun n => nF [5] I I I (Ax 5 0 0 [[.v e, .v g, .v a]] I (Ak (nE ?_))))))
 exact lg ⟨(u, w, A), n, e, g, a, h, I2⟩ [0, 1, 3, 4, 2, 5]
 refine nF [] I I I (nN (cs := [.N, .N, .N]) (m := 3) I I I I I dS fun n => nF [2] I I I (Bf 2 I B fun a => nL 3 I fun i => nL 4 I fun j => nL 2 I fun k => Cr I (Ao (l := [.v e, .v g, .v a]) Az (Ae I I (Ai i) I (Ae I I (Ai j) I (Ae I I (Ai k) I (A8))))) I (nF [5] I I I (Ax 5 0 0 [[.v e, .v g, .v a]] I (Ak (nE ?_))))))
 exact lg ⟨(u, w, A), n, e, g, a, h, I2⟩ [0, 1, 3, 4, 2, 5]
 refine nF [2] I I I (Bf 2 I B fun a => nL 3 I fun i => nL 2 I fun k => AP.any [⟨7, [], 34, .us 3 1 (w.map rI)⟩, ⟨12, [], 9, .box 37 3 ([.N, .N, .N])⟩, ⟨11, [7], 38, .fn fun l => match l with | [.v g] => .agg [.v e, .v g, .v a] | _ => .tup []⟩] I ⟨⟨_, I, I, I, fun _ => A3 (sz := 1) I I I I I I I I I I P Q (Be (f := rI) R I) dS fun v => ⟨_, I, ⟨v, I⟩, I⟩⟩, ⟨_, I, I, I, fun _ => nN (cs := [.N, .N, .N]) (m := 3) I I I I I dS fun b => ⟨_, I, ⟨b, I⟩, I⟩⟩, ⟨_, I, I, I, fun g j _ => Cd (Yp.yd (Ao (l := [.v e, .v g, .v a]) Az (Ae I I (Ai i) I (Ae I I (Ai j) I (Ae I I (Ai k) I (A8)))))) dS ⟨_, I, I, nb⟩⟩, J⟩ ?_)
 intro g j n
 refine AP.same 38 (.agg [.v e, .v g, .v a]) I (nF [5] I I I (Ax 5 0 0 [[.v e, .v g, .v a]] I (Ak (nE ?_))))
 exact lg ⟨(u, w, A), n, e, g, a, h, I2⟩ [0, 1, 3, 4, 2, 5]
 refine nF [] I I I (nN (cs := [.N, .N, .N]) (m := 3) I I I I I dS fun n => nT ?_ ?_)
 refine nF [] I I I (A3 (sz := 1) I I I I I I I I I I P Q (Be (f := rI) R I) dS fun g => nF [2] I I I (Bf 2 I B fun a => nL 3 I fun i => nL 5 I fun j => nL 2 I fun k => Cr I (Ao (l := [.v e, .v g, .v a]) Az (Ae I I (Ai i) I (Ae I I (Ai j) I (Ae I I (Ai k) I (A8))))) I (nF [4] I I I (Ax 4 0 0 [[.v e, .v g, .v a]] I (Ak (nE ?_))))))
 exact lg ⟨(u, w, A), n, e, g, a, h, I2⟩ [0, 1, 3, 5, 2, 4]
 refine nF [2] I I I (Bf 2 I B fun a => nF [] I I I (A3 (sz := 1) I I I I I I I I I I P Q (Be (f := rI) R I) dS fun g => nL 3 I fun i => nL 5 I fun j => nL 2 I fun k => Cr I (Ao (l := [.v e, .v g, .v a]) Az (Ae I I (Ai i) I (Ae I I (Ai j) I (Ae I I (Ai k) I (A8))))) I (nF [4] I I I (Ax 4 0 0 [[.v e, .v g, .v a]] I (Ak (nE ?_))))))
 exact lg ⟨(u, w, A), n, e, g, a, h, I2⟩ [0, 1, 3, 5, 2, 4]
 refine nF [] I I I (A3 (sz := 1) I I I I I I I I I I P Q (Be (f := rI) R I) dS fun g => nX ?_ ?_ ?_)
 refine nF [] I I I (A3 (sz := 1) I I I I I I I I I I H M (Be (f := rI) O I) dS fun e => nT ?_ ?_)
 refine nF [2] I I I (Bf 2 I B fun a => nL 4 I fun i => nL 3 I fun j => nL 2 I fun k => Cr I (Ao (l := [.v e, .v g, .v a]) Az (Ae I I (Ai i) I (Ae I I (Ai j) I (Ae I I (Ai k) I (A8))))) I (nF [] I I I (nN (cs := [.N, .N, .N]) (m := 3) I I I I I dS fun n => nF [5] I I I (Ax 5 0 0 [[.v e, .v g, .v a]] I (Ak (nE ?_))))))
 exact lg ⟨(u, w, A), n, e, g, a, h, I2⟩ [0, 1, 4, 3, 2, 5]
 refine nF [] I I I (nN (cs := [.N, .N, .N]) (m := 3) I I I I I dS fun n => nF [2] I I I (Bf 2 I B fun a => nL 4 I fun i => nL 3 I fun j => nL 2 I fun k => Cr I (Ao (l := [.v e, .v g, .v a]) Az (Ae I I (Ai i) I (Ae I I (Ai j) I (Ae I I (Ai k) I (A8))))) I (nF [5] I I I (Ax 5 0 0 [[.v e, .v g, .v a]] I (Ak (nE ?_))))))
 exact lg ⟨(u, w, A), n, e, g, a, h, I2⟩ [0, 1, 4, 3, 2, 5]
 refine nF [2] I I I (Bf 2 I B fun a => nL 3 I fun j => nL 2 I fun k => AP.any [⟨3, [], 30, .us 3 1 (u.map rI)⟩, ⟨12, [], 9, .box 37 3 ([.N, .N, .N])⟩, ⟨11, [3], 38, .fn fun l => match l with | [.v e] => .agg [.v e, .v g, .v a] | _ => .tup []⟩] I ⟨⟨_, I, I, I, fun _ => A3 (sz := 1) I I I I I I I I I I H M (Be (f := rI) O I) dS fun v => ⟨_, I, ⟨v, I⟩, I⟩⟩, ⟨_, I, I, I, fun _ => nN (cs := [.N, .N, .N]) (m := 3) I I I I I dS fun b => ⟨_, I, ⟨b, I⟩, I⟩⟩, ⟨_, I, I, I, fun e i _ => Cd (Yp.yd (Ao (l := [.v e, .v g, .v a]) Az (Ae I I (Ai i) I (Ae I I (Ai j) I (Ae I I (Ai k) I (A8)))))) dS ⟨_, I, I, nb⟩⟩, J⟩ ?_)
 intro e i n
 refine AP.same 38 (.agg [.v e, .v g, .v a]) I (nF [5] I I I (Ax 5 0 0 [[.v e, .v g, .v a]] I (Ak (nE ?_))))
 exact lg ⟨(u, w, A), n, e, g, a, h, I2⟩ [0, 1, 4, 3, 2, 5]
 refine nF [] I I I (nN (cs := [.N, .N, .N]) (m := 3) I I I I I dS fun n => nT ?_ ?_)
 refine nF [] I I I (A3 (sz := 1) I I I I I I I I I I H M (Be (f := rI) O I) dS fun e => nF [2] I I I (Bf 2 I B fun a => nL 5 I fun i => nL 3 I fun j => nL 2 I fun k => Cr I (Ao (l := [.v e, .v g, .v a]) Az (Ae I I (Ai i) I (Ae I I (Ai j) I (Ae I I (Ai k) I (A8))))) I (nF [4] I I I (Ax 4 0 0 [[.v e, .v g, .v a]] I (Ak (nE ?_))))))
 exact lg ⟨(u, w, A), n, e, g, a, h, I2⟩ [0, 1, 5, 3, 2, 4]
 refine nF [2] I I I (Bf 2 I B fun a => nF [] I I I (A3 (sz := 1) I I I I I I I I I I H M (Be (f := rI) O I) dS fun e => nL 5 I fun i => nL 3 I fun j => nL 2 I fun k => Cr I (Ao (l := [.v e, .v g, .v a]) Az (Ae I I (Ai i) I (Ae I I (Ai j) I (Ae I I (Ai k) I (A8))))) I (nF [4] I I I (Ax 4 0 0 [[.v e, .v g, .v a]] I (Ak (nE ?_))))))
 exact lg ⟨(u, w, A), n, e, g, a, h, I2⟩ [0, 1, 5, 3, 2, 4]
 refine nF [2] I I I (Bf 2 I B fun a => nL 2 I fun k => AP.any [⟨3, [], 30, .us 3 1 (u.map rI)⟩, ⟨7, [], 34, .us 3 1 (w.map rI)⟩, ⟨12, [], 9, .box 37 3 ([.N, .N, .N])⟩, ⟨11, [3, 7], 38, .fn fun l => match l with | [.v e, .v g] => .agg [.v e, .v g, .v a] | _ => .tup []⟩] I ⟨⟨_, I, I, I, fun _ => A3 (sz := 1) I I I I I I I I I I H M (Be (f := rI) O I) dS fun v => ⟨_, I, ⟨v, I⟩, I⟩⟩, ⟨_, I, I, I, fun _ => A3 (sz := 1) I I I I I I I I I I P Q (Be (f := rI) R I) dS fun v => ⟨_, I, ⟨v, I⟩, I⟩⟩, ⟨_, I, I, I, fun _ => nN (cs := [.N, .N, .N]) (m := 3) I I I I I dS fun b => ⟨_, I, ⟨b, I⟩, I⟩⟩, ⟨_, I, I, I, fun e i g j _ => Cd (Yp.yd (Ao (l := [.v e, .v g, .v a]) Az (Ae I I (Ai i) I (Ae I I (Ai j) I (Ae I I (Ai k) I (A8)))))) dS ⟨_, I, I, nb⟩⟩, J⟩ ?_)
 intro e i g j n
 refine AP.same 38 (.agg [.v e, .v g, .v a]) I (nF [5] I I I (Ax 5 0 0 [[.v e, .v g, .v a]] I (Ak (nE ?_))))
 exact lg ⟨(u, w, A), n, e, g, a, h, I2⟩ [0, 1, 3, 4, 2, 5]
 refine nF [] I I I (nN (cs := [.N, .N, .N]) (m := 3) I I I I I dS fun n => nX ?_ ?_ ?_)
 refine nF [] I I I (A3 (sz := 1) I I I I I I I I I I H M (Be (f := rI) O I) dS fun e => nT ?_ ?_)
 refine nF [] I I I (A3 (sz := 1) I I I I I I I I I I P Q (Be (f := rI) R I) dS fun g => nF [2] I I I (Bf 2 I B fun a => nL 4 I fun i => nL 5 I fun j => nL 2 I fun k => Cr I (Ao (l := [.v e, .v g, .v a]) Az (Ae I I (Ai i) I (Ae I I (Ai j) I (Ae I I (Ai k) I (A8))))) I (nF [3] I I I (Ax 3 0 0 [[.v e, .v g, .v a]] I (Ak (nE ?_))))))
 exact lg ⟨(u, w, A), n, e, g, a, h, I2⟩ [0, 1, 4, 5, 2, 3]
 refine nF [2] I I I (Bf 2 I B fun a => nF [] I I I (A3 (sz := 1) I I I I I I I I I I P Q (Be (f := rI) R I) dS fun g => nL 4 I fun i => nL 5 I fun j => nL 2 I fun k => Cr I (Ao (l := [.v e, .v g, .v a]) Az (Ae I I (Ai i) I (Ae I I (Ai j) I (Ae I I (Ai k) I (A8))))) I (nF [3] I I I (Ax 3 0 0 [[.v e, .v g, .v a]] I (Ak (nE ?_))))))
 exact lg ⟨(u, w, A), n, e, g, a, h, I2⟩ [0, 1, 4, 5, 2, 3]
 refine nF [] I I I (A3 (sz := 1) I I I I I I I I I I P Q (Be (f := rI) R I) dS fun g => nT ?_ ?_)
 refine nF [] I I I (A3 (sz := 1) I I I I I I I I I I H M (Be (f := rI) O I) dS fun e => nF [2] I I I (Bf 2 I B fun a => nL 5 I fun i => nL 4 I fun j => nL 2 I fun k => Cr I (Ao (l := [.v e, .v g, .v a]) Az (Ae I I (Ai i) I (Ae I I (Ai j) I (Ae I I (Ai k) I (A8))))) I (nF [3] I I I (Ax 3 0 0 [[.v e, .v g, .v a]] I (Ak (nE ?_))))))
 exact lg ⟨(u, w, A), n, e, g, a, h, I2⟩ [0, 1, 5, 4, 2, 3]
 refine nF [2] I I I (Bf 2 I B fun a => nF [] I I I (A3 (sz := 1) I I I I I I I I I I H M (Be (f := rI) O I) dS fun e => nL 5 I fun i => nL 4 I fun j => nL 2 I fun k => Cr I (Ao (l := [.v e, .v g, .v a]) Az (Ae I I (Ai i) I (Ae I I (Ai j) I (Ae I I (Ai k) I (A8))))) I (nF [3] I I I (Ax 3 0 0 [[.v e, .v g, .v a]] I (Ak (nE ?_))))))
 exact lg ⟨(u, w, A), n, e, g, a, h, I2⟩ [0, 1, 5, 4, 2, 3]
 refine nF [2] I I I (Bf 2 I B fun a => AP.any [⟨3, [], 30, .us 3 1 (u.map rI)⟩, ⟨7, [], 34, .us 3 1 (w.map rI)⟩] I ⟨⟨_, I, I, I, fun _ => A3 (sz := 1) I I I I I I I I I I H M (Be (f := rI) O I) dS fun v => ⟨_, I, ⟨v, I⟩, I⟩⟩, ⟨_, I, I, I, fun _ => A3 (sz := 1) I I I I I I I I I I P Q (Be (f := rI) R I) dS fun v => ⟨_, I, ⟨v, I⟩, I⟩⟩, J⟩ ?_)
 intro e i g j
 refine nL 4 I fun i => nL 5 I fun j => nL 2 I fun k => Cr I (Ao (l := [.v e, .v g, .v a]) Az (Ae I I (Ai i) I (Ae I I (Ai j) I (Ae I I (Ai k) I (A8))))) I (nF [3] I I I (Ax 3 0 0 [[.v e, .v g, .v a]] I (Ak (nE ?_))))
 exact lg ⟨(u, w, A), n, e, g, a, h, I2⟩ [0, 1, 4, 5, 2, 3]
 refine nF [] I I I (nN (cs := [.N, .N, .N]) (m := 3) I I I I I dS fun n => nX ?_ ?_ ?_)
 refine nF [] I I I (A3 (sz := 1) I I I I I I I I I I H M (Be (f := rI) O I) dS fun e => nT ?_ ?_)
 refine nF [] I I I (A3 (sz := 1) I I I I I I I I I I P Q (Be (f := rI) R I) dS fun g => nF [] I I I (nP (sz := 1) (es := ([] : List Bool).map rB) I I I I I I I I I I I dS fun ab => nF [5] I I I (Bf 5 I B fun a => nL 3 I fun i => nL 4 I fun j => nL 5 I fun k => Cr I (Ao (l := [.v e, .v g, .v a]) Az (Ae I I (Ai i) I (Ae I I (Ai j) I (Ae I I (Ai k) I (A8))))) I (nF [2] I I I (Ax 2 0 0 [[.v e, .v g, .v a]] I (Ak (nE ?_)))))))
 exact lg ⟨(u, w, A), n, e, g, a, h, I2⟩ [0, 1, 3, 4, 5, 2]
 refine nF [] I I I (nP (sz := 1) (es := ([] : List Bool).map rB) I I I I I I I I I I I dS fun ab => nT ?_ ?_)
 refine nF [] I I I (A3 (sz := 1) I I I I I I I I I I P Q (Be (f := rI) R I) dS fun g => nF [4] I I I (Bf 4 I B fun a => nL 3 I fun i => nL 5 I fun j => nL 4 I fun k => Cr I (Ao (l := [.v e, .v g, .v a]) Az (Ae I I (Ai i) I (Ae I I (Ai j) I (Ae I I (Ai k) I (A8))))) I (nF [2] I I I (Ax 2 0 0 [[.v e, .v g, .v a]] I (Ak (nE ?_))))))
 exact lg ⟨(u, w, A), n, e, g, a, h, I2⟩ [0, 1, 3, 5, 4, 2]
 refine nF [4] I I I (Bf 4 I B fun a => nF [] I I I (A3 (sz := 1) I I I I I I I I I I P Q (Be (f := rI) R I) dS fun g => nL 3 I fun i => nL 5 I fun j => nL 4 I fun k => Cr I (Ao (l := [.v e, .v g, .v a]) Az (Ae I I (Ai i) I (Ae I I (Ai j) I (Ae I I (Ai k) I (A8))))) I (nF [2] I I I (Ax 2 0 0 [[.v e, .v g, .v a]] I (Ak (nE ?_))))))
 exact lg ⟨(u, w, A), n, e, g, a, h, I2⟩ [0, 1, 3, 5, 4, 2]
 refine nF [] I I I (A3 (sz := 1) I I I I I I I I I I P Q (Be (f := rI) R I) dS fun g => nT ?_ ?_)
 refine nF [] I I I (A3 (sz := 1) I I I I I I I I I I H M (Be (f := rI) O I) dS fun e => nF [] I I I (nP (sz := 1) (es := ([] : List Bool).map rB) I I I I I I I I I I I dS fun ab => nF [5] I I I (Bf 5 I B fun a => nL 4 I fun i => nL 3 I fun j => nL 5 I fun k => Cr I (Ao (l := [.v e, .v g, .v a]) Az (Ae I I (Ai i) I (Ae I I (Ai j) I (Ae I I (Ai k) I (A8))))) I (nF [2] I I I (Ax 2 0 0 [[.v e, .v g, .v a]] I (Ak (nE ?_)))))))
 exact lg ⟨(u, w, A), n, e, g, a, h, I2⟩ [0, 1, 4, 3, 5, 2]
 refine nF [] I I I (nP (sz := 1) (es := ([] : List Bool).map rB) I I I I I I I I I I I dS fun ab => nT ?_ ?_)
 refine nF [] I I I (A3 (sz := 1) I I I I I I I I I I H M (Be (f := rI) O I) dS fun e => nF [4] I I I (Bf 4 I B fun a => nL 5 I fun i => nL 3 I fun j => nL 4 I fun k => Cr I (Ao (l := [.v e, .v g, .v a]) Az (Ae I I (Ai i) I (Ae I I (Ai j) I (Ae I I (Ai k) I (A8))))) I (nF [2] I I I (Ax 2 0 0 [[.v e, .v g, .v a]] I (Ak (nE ?_))))))
 exact lg ⟨(u, w, A), n, e, g, a, h, I2⟩ [0, 1, 5, 3, 4, 2]
 refine nF [4] I I I (Bf 4 I B fun a => nF [] I I I (A3 (sz := 1) I I I I I I I I I I H M (Be (f := rI) O I) dS fun e => nL 5 I fun i => nL 3 I fun j => nL 4 I fun k => Cr I (Ao (l := [.v e, .v g, .v a]) Az (Ae I I (Ai i) I (Ae I I (Ai j) I (Ae I I (Ai k) I (A8))))) I (nF [2] I I I (Ax 2 0 0 [[.v e, .v g, .v a]] I (Ak (nE ?_))))))
 exact lg ⟨(u, w, A), n, e, g, a, h, I2⟩ [0, 1, 5, 3, 4, 2]
 refine nF [] I I I (nP (sz := 1) (es := ([] : List Bool).map rB) I I I I I I I I I I I dS fun ab => nX ?_ ?_ ?_)
 refine nF [] I I I (A3 (sz := 1) I I I I I I I I I I H M (Be (f := rI) O I) dS fun e => nT ?_ ?_)
 refine nF [] I I I (A3 (sz := 1) I I I I I I I I I I P Q (Be (f := rI) R I) dS fun g => nF [3] I I I (Bf 3 I B fun a => nL 4 I fun i => nL 5 I fun j => nL 3 I fun k => Cr I (Ao (l := [.v e, .v g, .v a]) Az (Ae I I (Ai i) I (Ae I I (Ai j) I (Ae I I (Ai k) I (A8))))) I (nF [2] I I I (Ax 2 0 0 [[.v e, .v g, .v a]] I (Ak (nE ?_))))))
 exact lg ⟨(u, w, A), n, e, g, a, h, I2⟩ [0, 1, 4, 5, 3, 2]
 refine nF [3] I I I (Bf 3 I B fun a => nF [] I I I (A3 (sz := 1) I I I I I I I I I I P Q (Be (f := rI) R I) dS fun g => nL 4 I fun i => nL 5 I fun j => nL 3 I fun k => Cr I (Ao (l := [.v e, .v g, .v a]) Az (Ae I I (Ai i) I (Ae I I (Ai j) I (Ae I I (Ai k) I (A8))))) I (nF [2] I I I (Ax 2 0 0 [[.v e, .v g, .v a]] I (Ak (nE ?_))))))
 exact lg ⟨(u, w, A), n, e, g, a, h, I2⟩ [0, 1, 4, 5, 3, 2]
 refine nF [] I I I (A3 (sz := 1) I I I I I I I I I I P Q (Be (f := rI) R I) dS fun g => nT ?_ ?_)
 refine nF [] I I I (A3 (sz := 1) I I I I I I I I I I H M (Be (f := rI) O I) dS fun e => nF [3] I I I (Bf 3 I B fun a => nL 5 I fun i => nL 4 I fun j => nL 3 I fun k => Cr I (Ao (l := [.v e, .v g, .v a]) Az (Ae I I (Ai i) I (Ae I I (Ai j) I (Ae I I (Ai k) I (A8))))) I (nF [2] I I I (Ax 2 0 0 [[.v e, .v g, .v a]] I (Ak (nE ?_))))))
 exact lg ⟨(u, w, A), n, e, g, a, h, I2⟩ [0, 1, 5, 4, 3, 2]
 refine nF [3] I I I (Bf 3 I B fun a => nF [] I I I (A3 (sz := 1) I I I I I I I I I I H M (Be (f := rI) O I) dS fun e => nL 5 I fun i => nL 4 I fun j => nL 3 I fun k => Cr I (Ao (l := [.v e, .v g, .v a]) Az (Ae I I (Ai i) I (Ae I I (Ai j) I (Ae I I (Ai k) I (A8))))) I (nF [2] I I I (Ax 2 0 0 [[.v e, .v g, .v a]] I (Ak (nE ?_))))))
 exact lg ⟨(u, w, A), n, e, g, a, h, I2⟩ [0, 1, 5, 4, 3, 2]
 refine nF [3] I I I (Bf 3 I B fun a => AP.any [⟨3, [], 30, .us 3 1 (u.map rI)⟩, ⟨7, [], 34, .us 3 1 (w.map rI)⟩] I ⟨⟨_, I, I, I, fun _ => A3 (sz := 1) I I I I I I I I I I H M (Be (f := rI) O I) dS fun v => ⟨_, I, ⟨v, I⟩, I⟩⟩, ⟨_, I, I, I, fun _ => A3 (sz := 1) I I I I I I I I I I P Q (Be (f := rI) R I) dS fun v => ⟨_, I, ⟨v, I⟩, I⟩⟩, J⟩ ?_)
 intro e i g j
 refine nL 4 I fun i => nL 5 I fun j => nL 3 I fun k => Cr I (Ao (l := [.v e, .v g, .v a]) Az (Ae I I (Ai i) I (Ae I I (Ai j) I (Ae I I (Ai k) I (A8))))) I (nF [2] I I I (Ax 2 0 0 [[.v e, .v g, .v a]] I (Ak (nE ?_))))
 exact lg ⟨(u, w, A), n, e, g, a, h, I2⟩ [0, 1, 4, 5, 3, 2]
 rintro s ob ⟨G, aa, D, E, F, h, rfl, rfl⟩
 unfold M6.J1 at h
 refine Al (fun s ob => ∃ (a1 : Unit), M6.J2 S aj ak G a1 = some r ∧ s = [] ∧ ob = [.arr Y 32 6 1 [Ab S], .arr Z 37 3 1 [[.N, .N, .N]], .us D 3 1 (G.1.map rI), .us E 3 1 (G.2.1.map rI), .us F 4 1 (G.2.2.map rB), .arr aa 37 3 1 [[.v D, .v E, .v F]]]) [(1, _), (2, _), (3, _), (6, _), (9, _)] J5 ?_ ?_
 refine Aq I (nJ ?_)
 obtain ⟨cy, bm, a2⟩ := Ac h
 clear h
 refine Bz bm [(1, _), (2, _), (3, _), (6, _), (9, _)] J5 (fun (a3 : Int) s ob => s = [(10, .V a3)] ∧ ob = [.arr Y 32 6 1 [Ab S], .arr Z 37 3 1 [[.N, .N, .N]], .us D 3 1 (G.1.map rI), .us E 3 1 (G.2.1.map rI), .us F 4 1 (G.2.2.map rB), .arr aa 37 3 1 [[.v D, .v E, .v F]]]) ⟨I, I⟩ ⟨I, J⟩ ⟨[0, 1, 2, 3, 4, 5], I, by decide⟩ ?_
 rintro a3 cz s ob ⟨rfl, rfl⟩ h a4
 unfold M6.B9 at h
 refine Aa fun c0 bn => Bu [.l 2 (aj.length : Int)] I ⟨Bh, J⟩ (Ay h I ?_ ?_)
 intro bo h
 refine nI ?_
 subst bn
 refine nH (nJ (nH ?_))
 obtain ⟨a5, ⟨bp, bq⟩, h⟩ := Bk h
 obtain ⟨c1, br, h⟩ := Ac h
 refine Bw (pd 7 0 [5]) [0] [_] I (By 5 [.o 0 0, .x 3 a5.1 (Aj a5.2)] I ⟨⟨bp, Ah bq⟩, I, J⟩ (Ee I (Sv _ _ _ br) (Bm 1 I (Ak (nE (Ay h I ?_ ?_))))))
 intro bs h
 refine nH (nD (Ck (Ao (l := [.N, .N, .N]) Az I) I (nG [1] I (Ax 1 0 0 [[.N, .N, .N]] I (Af 1 I (nE ?_))))))
 obtain rfl := a4 _ (oi h).symm
 replace h := a2
 replace h := Dh h
 refine nM (A0 [] (K := []) I [] J (ob' := [.arr Y 32 6 1 [Ab S], .arr Z 37 3 1 [[.list 1 ([].map rI), .list 1 ([].map rI), .list 1 ([].map rB)]], .us D 3 1 (G.1.map rI), .us E 3 1 (G.2.1.map rI), .us F 4 1 (G.2.2.map rB), .arr aa 37 3 1 [[.v D, .v E, .v F]]]) (.cons (.same _) (.cons (.arr (.cons (.nil _) (.cons (.nil _) (.cons (.nil _) (.rest _))))) (.rest _)))) (Cb [1] I ?_)
 obtain rfl := oi h
 exact nK ⟨.inr I, [_, _], [], ⟨⟨0, _, _, _, _, _, _, _, I5⟩, I, J⟩, Cf, I2⟩
 intro bs h
 refine nI (nD (Af 3 I ?_))
 obtain rfl := oi h
 refine nE ?_
 exact ⟨_, _, _, I, I2, J6, [0, 1, 2, 3, 4, 5], I, by decide⟩
 intro bo h
 obtain rfl := a4 _ (oi h).symm
 replace h := a2
 replace h := Do h
 refine nO ?_
 exact lg ⟨(), h, I2⟩ [0, 1, 2, 3, 4, 5]
 rintro s ob ⟨a1, h, rfl, rfl⟩
 unfold M6.J2 at h
 refine Al (fun s ob => ∃ (ac : (List Int) × (List Int)), M6.J3 S ak G ac = some r ∧ s = [] ∧ ob = [.arr Y 32 6 1 [Ab S], .arr Z 37 3 1 [[.N, .N, .N]], .us D 3 1 (ac.1.map rI), .us E 3 1 (ac.2.map rI), .us F 4 1 (G.2.2.map rB), .arr aa 37 3 1 [[.v D, .v E, .v F]]]) [(2, _), (3, _), (6, _), (9, _)] J4 ?_ ?_
 refine Aq I (nJ ?_)
 obtain ⟨c2, bu, a6⟩ := Ac h
 clear h
 refine Bz bu [(1, _), (2, _), (3, _), (6, _), (9, _)] J5 (fun (ad : (List Int) × (List Int) × Int) s ob => s = [(11, .V ad.2.2)] ∧ ob = [.arr Y 32 6 1 [Ab S], .arr Z 37 3 1 [[.N, .N, .N]], .us D 3 1 (ad.1.map rI), .us E 3 1 (ad.2.1.map rI), .us F 4 1 (G.2.2.map rB), .arr aa 37 3 1 [[.v D, .v E, .v F]]]) ⟨I, I⟩ ⟨I, J⟩ ⟨[0, 1, 2, 3, 4, 5], I, by decide⟩ ?_
 rintro ad bv s ob ⟨rfl, rfl⟩ h a7
 unfold M6.B4 at h
 refine Aa fun c3 bw => Bu [.l 2 (aj.length : Int)] I ⟨Bh, J⟩ (Ay h I ?_ ?_)
 intro bx h
 refine nI ?_
 subst bw
 refine Al (fun s ob => ∃ (av : (List Int) × (List Int)), M6.J5 ad av = some bv ∧ s = [] ∧ ob = [.arr Y 32 6 1 [Ab S], .arr Z 37 3 1 [[.N, .N, .N]], .us D 3 1 (av.1.map rI), .us E 3 1 (av.2.map rI), .us F 4 1 (G.2.2.map rB), .arr aa 37 3 1 [[.v D, .v E, .v F]]]) [(1, _), (2, _), (3, _), (6, _), (9, _), (11, _)] J6 ?_ ?_
 refine nJ (Aa fun c4 bz => ?_)
 obtain ⟨U, ⟨b0, b1⟩, h⟩ := Bk h
 refine nD (Ap 4 [.x 2 U.1 (Aj U.2)] I ⟨⟨b0, Ah b1⟩, J⟩ (nG [] I (nN (cs := [.V 0, .V 0, .N, .V 0]) (m := 4) I I I I I dS fun aw => nG [6] I (Ax 6 0 0 [Aj U.2] I (nE ?_)))))
 subst bz
 refine Aa fun c5 b4 => ?_
 obtain ⟨W, ⟨a8, al⟩, h⟩ := Bk h
 refine Ce 3 W.1 I al fun b5 => Ce 3 W.1 I al fun b6 => Bw (sl 14 0 (.drop 14 .nil)) [5, 6, 3] [_, _, _] I (By 8 [.o 1 0, .o 3 1, .o 5 0, .o 7 1] I J4 (nV I (Bl (m := W.1) I I I I I b5 I a8 al) I (AP.o I (Ba 2 W.1 0 I I I (Ah al) I (y := .V W.2) I) I (By 3 [.o 1 1] I J1 (nV I (Bl (m := W.1) I I I I I b6 I a8 al) I (nW [3] I I I (Ci 3 W.1 0 I I I (Ah al) I I I I (Bs I) I (Dp (x := wr (W.2 + U.2.Rate)) I) (Ak (nE ?_)))))))))
 subst b4
 refine Aa fun c6 b7 => ?_
 obtain ⟨X, ⟨a9, am⟩, h⟩ := Bk h
 refine Ce 3 X.1 I am fun b8 => Ce 3 X.1 I am fun b9 => Bw (sl 14 0 (.drop 14 .nil)) [5, 6, 3] [_, _, _] I (By 8 [.o 1 0, .o 3 1, .o 5 0, .o 7 1] I J4 (nV I (Bl (m := X.1) I I I I I b8 I a9 am) I (AP.o I (Ba 2 X.1 0 I I I (Ah am) I (y := .V X.2) I) I (By 3 [.o 1 1] I J1 (nV I (Bl (m := X.1) I I I I I b9 I a9 am) I (nW [3] I I I (Ci 3 X.1 0 I I I (Ah am) I I I I (Bs I) I (Dp (x := wr (X.2 - U.2.Rate)) I) (Ak (nE ?_)))))))))
 subst b7
 refine Aq I (nJ ?_)
 obtain ⟨c7, ca, ba⟩ := Ac h
 clear h
 refine Bz ca [(1, _), (2, _), (3, _), (6, _), (9, _), (11, _), (12, _)] J7 (fun (ae : (List Int) × Int) s ob => s = [(13, .V ae.2)] ∧ ob = [.arr Y 32 6 1 [Ab S], .arr Z 37 3 1 [[.N, .N, .N]], .us D 3 1 (ae.1.map rI), .us E 3 1 (((ad.2.1.set W.1 (wr (W.2 + U.2.Rate))).set X.1 (wr (X.2 - U.2.Rate))).map rI), .us F 4 1 (G.2.2.map rB), .arr aa 37 3 1 [[.v D, .v E, .v F]], .arr aw 52 4 1 [Aj U.2]]) ⟨I, I⟩ ⟨I, J⟩ ⟨[0, 1, 2, 3, 4, 5, 6], I, by decide⟩ ?_
 rintro ae bb s ob ⟨rfl, rfl⟩ h bc
 unfold M6.B6 at h
 refine Aa fun c8 cb => Bu [.o 2 6, .l 3 (U.2.Hops.length : Int)] I ⟨Bh, I, J⟩ (Ay h I ?_ ?_)
 intro cc h
 refine nI ?_
 subst cb
 refine nH (nJ (Aa fun c9 cd => ?_))
 obtain ⟨af, ⟨ce, cf⟩, h⟩ := Bk h
 refine nD (Ap 5 [.o 1 6, .x 3 af.1 (Bc af.2)] I ⟨⟨ce, Ah cf⟩, I, J⟩ (nG [] I (nN (cs := [.V 0, .v (.bool false)]) (m := 2) I I I I I dS fun az => nG [7] I (Ax 7 0 0 [Bc af.2] I (nE ?_)))))
 subst cd
 refine Bu [.o 1 6] I J1 (Al (fun s ob => ∃ (ag : Int), M6.J7 ae af ag = some bb ∧ s = [(15, .V ag)] ∧ ob = [.arr Y 32 6 1 [Ab S], .arr Z 37 3 1 [[.N, .N, .N]], .us D 3 1 (ae.1.map rI), .us E 3 1 (((ad.2.1.set W.1 (wr (W.2 + U.2.Rate))).set X.1 (wr (X.2 - U.2.Rate))).map rI), .us F 4 1 (G.2.2.map rB), .arr aa 37 3 1 [[.v D, .v E, .v F]], .arr aw 52 4 1 [Aj U.2], .arr az 107 2 1 [Bc af.2]]) [(1, _), (2, _), (3, _), (6, _), (9, _), (11, _), (12, _), (13, _), (14, _)] J9 ?_ ?_)
 refine Bu [.o 1 7] I J1 (Ay h I ?_ ?_)
 intro cg h
 refine Pd I ?_
 exact lg ⟨wr (0 - U.2.Rate), h, I2⟩ [0, 1, 2, 3, 4, 5, 6, 7]
 intro cg h
 refine nI ?_
 exact lg ⟨U.2.Rate, h, I2⟩ [0, 1, 2, 3, 4, 5, 6, 7]
 rintro s ob ⟨ag, h, rfl, rfl⟩
 unfold M6.J7 at h
 refine Aa fun da ci => Al (fun s ob => ∃ (a0 : Bool), M6.J8 ae af ag a0 = some bb ∧ s = [(132, .v (.bool a0))] ∧ ob = [.arr Y 32 6 1 [Ab S], .arr Z 37 3 1 [[.N, .N, .N]], .us D 3 1 (ae.1.map rI), .us E 3 1 (((ad.2.1.set W.1 (wr (W.2 + U.2.Rate))).set X.1 (wr (X.2 - U.2.Rate))).map rI), .us F 4 1 (G.2.2.map rB), .arr aa 37 3 1 [[.v D, .v E, .v F]], .arr aw 52 4 1 [Aj U.2], .arr az 107 2 1 [Bc af.2]]) [(1, _), (2, _), (3, _), (6, _), (9, _), (11, _), (12, _), (13, _), (14, _), (15, _)] kK ?_ ?_
 refine nD (Af 3 I ?_)
 rcases bt (decide (ag > 0)) with ao | ao
 replace h := B0 ao h
 obtain ⟨ah, ⟨bd, ax⟩, h⟩ := Bk h
 refine Ad 111 I ao (Ap 4 [.o 1 5, .o 3 7] I J2 (Br I I I (nS (Bi 2 (m := ah.1) I I I I I I I bd (Ah ax)) I (Br I I I (nS (Ba 2 ah.1 0 I I I (Ah ax) I (y := .V ah.2) I) I (Af 3 I ?_))))))
 rcases bt (decide (ah.2 < 0)) with aq | aq
 replace h := B0 aq h
 refine Ad 120 I aq (Af 3 I (Cq I I dS (Cq I I dS (Cq I I dS (Cq I I dS (Cq I I dS (Cq I I dS (Cq I I dS (Af 2 I (nE ?_))))))))))
 exact lg ⟨true, h, I2⟩ [0, 1, 2, 3, 4, 5, 6, 7]
 replace h := Ca aq h
 refine Ad 120 I aq (Af 3 I ?_)
 rcases bt (decide (ag < 0)) with ar | ar
 replace h := B0 ar h
 refine Ad 123 I ar (Ap 4 [.o 1 5, .o 3 7] I J2 (Br I I I (nS (Bi 2 (m := ah.1) I I I I I I I bd (Ah ax)) I (Br I I I (nS (Ba 2 ah.1 0 I I I (Ah ax) I (y := .V ah.2) I) I (Af 3 I (nE ?_)))))))
 exact lg ⟨decide (ah.2 > 0), h, I2⟩ [0, 1, 2, 3, 4, 5, 6, 7]
 replace h := Ca ar h
 refine Ad 123 I ar (Af 9 I (nE ?_))
 exact lg ⟨false, h, I2⟩ [0, 1, 2, 3, 4, 5, 6, 7]
 replace h := Ca ao h
 refine Ad 111 I ao ?_
 rcases bt (decide (ag < 0)) with au | au
 replace h := B0 au h
 obtain ⟨ay, ⟨cj, be⟩, h⟩ := Bk h
 refine Af 12 I (Ad 123 I au (Ap 4 [.o 1 5, .o 3 7] I J2 (Br I I I (nS (Bi 2 (m := ay.1) I I I I I I I cj (Ah be)) I (Br I I I (nS (Ba 2 ay.1 0 I I I (Ah be) I (y := .V ay.2) I) I (Af 3 I (nE ?_))))))))
 exact lg ⟨decide (ay.2 > 0), h, I2⟩ [0, 1, 2, 3, 4, 5, 6, 7]
 replace h := Ca au h
 refine Af 12 I (Ad 123 I au (Af 9 I (nE ?_)))
 exact lg ⟨false, h, I2⟩ [0, 1, 2, 3, 4, 5, 6, 7]
 rintro s ob ⟨a0, h, rfl, rfl⟩
 unfold M6.J8 at h
 refine Ay h I ?_ ?_
 intro ck h
 refine nH (nD (Ck (Ao (l := [.N, .N, .N]) Az I) I (nG [1] I (Ax 1 0 0 [[.N, .N, .N]] I (Af 1 I (nE ?_))))))
 obtain rfl := bc _ (oi h).symm
 replace h := ba
 replace h := Dh h
 obtain rfl := a7 _ (oi h).symm
 replace h := a6
 replace h := Dh h
 refine nM (A0 [] (K := []) I [] J (ob' := [.arr Y 32 6 1 [Ab S], .arr Z 37 3 1 [[.list 1 ([].map rI), .list 1 ([].map rI), .list 1 ([].map rB)]], .us D 3 1 (ae.1.map rI), .us E 3 1 (((ad.2.1.set W.1 (wr (W.2 + U.2.Rate))).set X.1 (wr (X.2 - U.2.Rate))).map rI), .us F 4 1 (G.2.2.map rB), .arr aa 37 3 1 [[.v D, .v E, .v F]], .arr aw 52 4 1 [Aj U.2], .arr az 107 2 1 [Bc af.2]]) (.cons (.same _) (.cons (.arr (.cons (.nil _) (.cons (.nil _) (.cons (.nil _) (.rest _))))) (.rest _)))) (Cb [1] I ?_)
 obtain rfl := oi h
 exact nK ⟨.inr I, [_, _], [], ⟨⟨0, _, _, _, _, _, _, _, I5⟩, I, J⟩, Cf, I2⟩
 intro ck h
 refine nI ?_
 subst ci
 obtain ⟨ai, ⟨bf, an⟩, h⟩ := Bk h
 refine Ce 2 ai.1 I an fun cl => Ce 2 ai.1 I an fun cm => Bw (sl 13 0 (.drop 13 .nil)) [5, 7, 2] [_, _, _] I (By 8 [.o 1 0, .o 3 1, .o 5 0, .o 7 1] I J4 (nV I (Bl (m := ai.1) I I I I I cl I bf an) I (AP.o I (Ba 2 ai.1 0 I I I (Ah an) I (y := .V ai.2) I) I (Bm 2 I (nV I (Bl (m := ai.1) I I I I I cm I bf an) I (nW [2] I I I (Ci 2 ai.1 0 I I I (Ah an) I I I I (Bs I) I (Dp (x := wr (ai.2 + ag)) I) (Ak (nE (nD (Af 3 I ?_)))))))))))
 obtain rfl := oi h
 refine nE ?_
 exact ⟨_, _, _, I, I2, J8, [0, 1, 2, 3, 4, 5, 6], I, by decide⟩
 intro cc h
 obtain rfl := bc _ (oi h).symm
 replace h := ba
 replace h := Do h
 refine nO ?_
 exact lg ⟨(ae.1, ((ad.2.1.set W.1 (wr (W.2 + U.2.Rate))).set X.1 (wr (X.2 - U.2.Rate)))), h, I2⟩ [0, 1, 2, 3, 4, 5]
 rintro s ob ⟨av, h, rfl, rfl⟩
 unfold M6.J5 at h
 refine nD (Af 3 I ?_)
 obtain rfl := oi h
 refine nE ?_
 exact ⟨_, _, _, I, I2, J6, [0, 1, 2, 3, 4, 5], I, by decide⟩
 intro bx h
 obtain rfl := a7 _ (oi h).symm
 replace h := a6
 replace h := Do h
 refine nO ?_
 exact lg ⟨(ad.1, ad.2.1), h, I2⟩ [0, 1, 2, 3, 4, 5]
 rintro s ob ⟨ac, h, rfl, rfl⟩
 unfold M6.J3 at h
 refine Aa fun db cn => Bu [.l 1 (ak.length : Int), .o 3 0, .l 4 (S.Stations.length : Int)] I ⟨Bh, I, Bh, J⟩ (Ay h I ?_ ?_)
 intro co h
 refine nH (nD (Ck (Ao (l := [.N, .N, .N]) Az I) I (nG [1] I (Ax 1 0 0 [[.N, .N, .N]] I (Af 1 I (nE (nM (A0 [] (K := []) I [] J (ob' := [.arr Y 32 6 1 [Ab S], .arr Z 37 3 1 [[.list 1 ([].map rI), .list 1 ([].map rI), .list 1 ([].map rB)]], .us D 3 1 (ac.1.map rI), .us E 3 1 (ac.2.map rI), .us F 4 1 (G.2.2.map rB), .arr aa 37 3 1 [[.v D, .v E, .v F]]]) (.cons (.same _) (.cons (.arr (.cons (.nil _) (.cons (.nil _) (.cons (.nil _) (.rest _))))) (.rest _)))) (Cb [1] I ?_))))))))
 obtain rfl := oi h
 exact nK ⟨.inr I, [_, _], [], ⟨⟨0, _, _, _, _, _, _, _, I5⟩, I, J⟩, Cf, I2⟩
 intro co h
 refine nI ?_
 subst cn
 refine nH (nH ?_)
 obtain ⟨dc, cp, h⟩ := Ac h
 refine nD (Ap 2 [.o 0 0, .o 1 5] I J2 (nG [] I (Dq I (.refl _) I I (.cons (.refl _) (.cons (.agg (.cons (.us 2 I) (.cons (.us 3 I) (.cons (.us 4 I) (.rest _))))) (.rest _))) I (Gy _ _ _ cp) dS (by rintro _ _ ⟨rfl, _⟩; rfl) ?_)))
 rintro _ ⟨_, rfl, -⟩
 refine Af 1 I (nE (Aq I (Ay h I ?_ ?_)))
 intro cq h
 refine nH (nD (Ck (Ao (l := [.N, .N, .N]) Az I) I (Af 1 I (nG [1] I (Ax 1 0 0 [[.N, .N, .N]] I (Af 1 I (nE (nM (A0 [] (K := []) I [] J (ob' := [.arr Y 32 6 1 [Ab S], .arr Z 37 3 1 [[.list 1 ([].map rI), .list 1 ([].map rI), .list 1 ([].map rB)]], .us D 3 1 (ac.1.map rI), .us E 3 1 (ac.2.map rI), .us F 4 1 (G.2.2.map rB), .arr aa 37 3 1 [[.v D, .v E, .v F]]]) (.cons (.same _) (.cons (.arr (.cons (.nil _) (.cons (.nil _) (.cons (.nil _) (.rest _))))) (.rest _)))) (Cb [1] I ?_)))))))))
 obtain rfl := oi h
 exact nK ⟨.inr I, [_, _], [], ⟨⟨0, _, _, _, _, _, _, _, I5⟩, I, J⟩, Cf, I2⟩
 intro cq h
 refine nI (nH (nD (Ap 1 [.o 0 5] I J1 (nG [1] I (Ax 1 0 0 [[.v D, .v E, .v F]] I (Af 1 I (nE (nM (A0 [2, 3, 4] (K := [.us D 3 1 (ac.1.map rI), .us E 3 1 (ac.2.map rI), .us F 4 1 (G.2.2.map rB)]) I [] J (ob' := [.arr Y 32 6 1 [Ab S], .arr Z 37 3 1 [[.list 1 (ac.1.map rI), .list 1 (ac.2.map rI), .list 1 (G.2.2.map rB)]], .arr aa 37 3 1 [[.v D, .v E, .v F]]]) (.cons (.same _) (.cons (.arr (.cons (.us 0 I) (.cons (.us 1 I) (.cons (.us 2 I) (.rest _))))) (.rest _)))) (Cb [1] I ?_)))))))))
 obtain rfl := oi h
 exact nK ⟨.inr I, [_, _], [], ⟨⟨0, _, _, _, _, _, _, _, I5⟩, I, J⟩, Cf, I2⟩
theorem aK (av : List Int) (r : Bool) (h : Pr av = some r) : ACalls Am 4 [.list 1 (av.map rI)] [] (fun x new => x = .v (.bool r) ∧ new = []) := by
 refine Ag Tryz.func4 rfl rfl rfl fun C hC => ?_
 unfold Pr at h
 refine Aq I (Aa fun y2 bg => nH (nD (Af 1 I (Cg (bB av _ I) (Af 1 I (nE (Ay h I ?_ ?_)))))))
 intro bh h
 refine nH ?_
 obtain ⟨r4, bi, h⟩ := Ac h
 refine nD (Cg (Ti  _ bi) (Af 1 I (nE ?_)))
 obtain rfl := oi h
 exact nK pr
 intro bh h
 refine nI ?_
 subst bg
 refine Aa fun y6 bj => ?_
 obtain ⟨r7, bk, h⟩ := Ac h
 refine nD (Af 1 I (nG [] I (Bp I I I (bW _ _ bk) dS ?_)))
 rintro _ _ ⟨p, rfl, rfl⟩
 refine Af 1 I (nE ?_)
 subst bj
 refine Aa fun ct bl => ?_
 obtain ⟨g, bm, h⟩ := Ac h
 refine nD (Af 1 I (nG [0] I (A5 [0] (cO p _ _ bm) ?_)))
 refine nG [] I (nN (cs := [.N, .N, .N, .N, .V 0, .V 0]) (m := 6) I I I I I dS fun t => nG [1] I (Ax 1 0 0 [Ab g.1] I (nE ?_)))
 subst bl
 refine Al (fun s ob => ∃ (a : (List Int) × Int × (List Valve) × (List Int) × (List Int) × (List Bool)) (w : Nat), Pr.J1 g a = some r ∧ s = [(5, .v (.pointer (some ⟨w, 0, none⟩)))] ∧ ob = [.arr p 88 2 1 [[.list 1 (a.1.map rI), .V a.2.1]], .arr t 32 6 1 [Ab g.1], .arr w 39 4 1 [[.list 4 (a.2.2.1.map Au), .list 1 (a.2.2.2.1.map rI), .list 1 (a.2.2.2.2.1.map rI), .list 1 (a.2.2.2.2.2.map rB)]]]) [(3, _), (4, _)] J2 ?_ ?_
 obtain ⟨cu, a6, h⟩ := Ac h
 obtain ⟨a7, aw, h⟩ := Ac h
 obtain ⟨U, aq, h⟩ := Ac h
 refine Bw (sl 4 0 (.two 4 7 (.two 5 7 (.two 6 7 (.act 7 (.act 8 .nil)) (.act 6 (.act 8 .nil))) (.act 5 (.act 6 (.act 8 .nil)))) (.act 4 (.act 5 (.act 6 (.act 8 .nil)))))) [1] [_] I (By 4 [.o 1 0, .o 3 0] I J2 (nT ?_ ?_))
 refine nF [0] I I I (A5 [0] (Om p _ _ _ a6) ?_)
 refine nT ?_ ?_
 refine nF [0] I I I (A5 [0] (Og p _ _ _ _ aw) ?_)
 refine nT ?_ ?_
 refine nF [] I I I (Bp I I I (Kk _ _ aq) dS ?_)
 rintro _ _ ⟨rfl, rfl⟩
 refine nF [] I I I (nN (cs := [.N, .N, .N, .N]) (m := 4) I I I I I dS fun ar => nF [2] I I I (Ax 2 0 0 [A7 U] I (Ak (nE ?_))))
 rotate_left
 refine nF [] I I I (nN (cs := [.N, .N, .N, .N]) (m := 4) I I I I I dS fun ar => nF [] I I I (Bp I I I (Kk _ _ aq) dS ?_))
 rintro _ _ ⟨rfl, rfl⟩
 refine nF [2] I I I (Ax 2 0 0 [A7 U] I (Ak (nE ?_)))
 rotate_left
 refine nF [] I I I (nN (cs := [.N, .N, .N, .N]) (m := 4) I I I I I dS fun ar => nF [0] I I I (A5 [0] (Og p _ _ _ _ aw) ?_))
 refine nF [] I I I (Bp I I I (Kk _ _ aq) dS ?_)
 rintro _ _ ⟨rfl, rfl⟩
 refine nF [2] I I I (Ax 2 0 0 [A7 U] I (Ak (nE ?_)))
 rotate_left
 refine nF [] I I I (nN (cs := [.N, .N, .N, .N]) (m := 4) I I I I I dS fun ar => nF [0] I I I (A5 [0] (Om p _ _ _ a6) ?_))
 refine nF [0] I I I (A5 [0] (Og p _ _ _ _ aw) ?_)
 refine nF [] I I I (Bp I I I (Kk _ _ aq) dS ?_)
 rintro _ _ ⟨rfl, rfl⟩
 refine nF [2] I I I (Ax 2 0 0 [A7 U] I (Ak (nE ?_)))
 any_goals
  exact lg ⟨(a7.2.L_, a7.2.At, U.Valves, U.Plan.Rates, U.Plan.Ports, U.Plan.Pumps), ar, h, I2⟩ [0, 1, 2]
 rintro s ob ⟨a, w, h, rfl, rfl⟩
 unfold Pr.J1 at h
 refine Aa fun cv bn => ?_
 obtain ⟨b, bo, h⟩ := Ac h
 refine nD (Ap 2 [.o 1 1] I J1 (nG [0] I (A5 [0] (Om p _ _ _ bo) ?_)))
 refine nG [] I (nN (cs := [.N, .N, .N]) (m := 3) I I I I I dS fun E => nG [3] I (Ax 3 0 0 [As b.1] I (nE ?_)))
 subst bn
 refine Aa fun cw bp => ?_
 obtain ⟨k, bq, h⟩ := Ac h
 refine nD (Ap 2 [.o 0 1] I J1 (nS (Bx 2 0 1 I I I I I (y := .agg [.list 1 (a.2.2.2.1.map rI), .list 1 (a.2.2.2.2.1.map rI), .list 1 (a.2.2.2.2.2.map rB)]) I) I (nG [] I (Bp I I I (S8 _ _ _ bq) dS ?_))))
 rintro _ _ ⟨af, rfl, rfl⟩
 refine Af 5 I (nE ?_)
 subst bp
 refine Aa fun cx br => ?_
 obtain ⟨n, bs, h⟩ := Ac h
 refine nD (Ap 2 [.o 0 1, .o 1 3] I J2 (nG [] I (Bp I I I (S8 _ _ _ bs) dS ?_)))
 rintro _ _ ⟨ag, rfl, rfl⟩
 refine Af 5 I (nE ?_)
 subst br
 refine Al (fun s ob => ∃ (e : (List Int) × (List Int) × (List Bool) × Int) (P : Nat), Pr.J2 g a b k n e = some r ∧ s = [(11, .v (.pointer (some ⟨P, 0, none⟩))), (12, .V e.2.2.2)] ∧ ob = [.arr t 32 6 1 [Ab g.1], .arr w 39 4 1 [[.list 4 (a.2.2.1.map Au), .list 1 (a.2.2.2.1.map rI), .list 1 (a.2.2.2.2.1.map rI), .list 1 (a.2.2.2.2.2.map rB)]], .arr E 37 3 1 [As b.1], .arr P 37 3 1 [[.list 1 (e.1.map rI), .list 1 (e.2.1.map rI), .list 1 (e.2.2.1.map rB)]]]) [(4, _), (5, _), (6, _), (8, _), (10, _)] J5 ?_ ?_
 obtain ⟨A, ah, h⟩ := Ac h
 obtain ⟨u, ⟨cy, ai, aj, ak⟩, h⟩ := Hx h
 obtain ⟨F, W, h⟩ := Ac h
 refine Bw (sl 3 0 (sl 3 4 (.three 3 7 12 (.two 7 12 (.two 8 12 (sl 3 9 (.act 12 (.act 13 (.still 14 .nil)))) (.act 8 (sl 3 9 (.act 13 (.still 14 .nil))))) (.act 7 (.act 8 (sl 3 9 (.act 13 (.still 14 .nil)))))) (.two 3 12 (.two 8 12 (sl 3 9 (.act 12 (.act 13 (.still 14 .nil)))) (.act 8 (sl 3 9 (.act 13 (.still 14 .nil))))) (.act 3 (.act 8 (sl 3 9 (.act 13 (.still 14 .nil)))))) (.two 3 7 (.act 7 (.act 8 (sl 3 9 (.act 13 (.still 14 .nil))))) (.act 3 (.act 8 (sl 3 9 (.act 13 (.still 14 .nil))))))))) [1] [_] I (By 6 [.o 0 0, .o 4 0, .l 5 (g.1.Stations.length : Int)] I ⟨Bh, I, I, J⟩ (nX ?_ ?_ ?_))
 refine D4 (A0 [4, 5] (K := [.us af 52 4 (k.1.map Aj), .us ag 52 4 (n.1.map Aj)]) I [(45, .list 4 (k.1.map Aj)), (7, .list 4 (k.1.map Aj)), (51, .list 4 (n.1.map Aj)), (9, .list 4 (n.1.map Aj)), (55, .list 4 (k.1.map Aj)), (56, .list 4 (n.1.map Aj))] ⟨⟨_, I, .us 0 I⟩, ⟨_, I, .us 0 I⟩, ⟨_, I, .us 1 I⟩, ⟨_, I, .us 1 I⟩, ⟨_, I, .us 0 I⟩, ⟨_, I, .us 1 I⟩, J⟩ (ob' := [.arr p 88 2 1 [Cp b.2], .arr t 32 6 1 [Ab g.1], .arr w 39 4 1 [[.list 4 (a.2.2.1.map Au), .list 1 (a.2.2.2.1.map rI), .list 1 (a.2.2.2.2.1.map rI), .list 1 (a.2.2.2.2.2.map rB)]], .arr E 37 3 1 [As b.1]]) (.rest _)) I (nF [] I I I (Bp I I I (Ic _ _ _ ah) dS ?_))
 rintro _ _ ⟨G, rfl, rfl⟩
 refine nT ?_ ?_
 refine nF [] I I I (A3 (sz := 1) I I I I I I I I I I ai aj (Be (f := rB) ak I) dS fun D => nT ?_ ?_)
 refine D4 (A0 [4, 5] (K := [.us G 52 4 (A.map Aj), .us D 4 1 (u.map rB)]) I [(57, .list 4 (A.map Aj)), (61, .list 1 (u.map rB))] ⟨⟨_, I, .us 0 I⟩, ⟨_, I, .us 1 I⟩, J⟩ (ob' := [.arr p 88 2 1 [Cp b.2], .arr t 32 6 1 [Ab g.1], .arr w 39 4 1 [[.list 4 (a.2.2.1.map Au), .list 1 (a.2.2.2.1.map rI), .list 1 (a.2.2.2.2.1.map rI), .list 1 (a.2.2.2.2.2.map rB)]], .arr E 37 3 1 [As b.1]]) (.rest _)) I (nF [] I I I (Bp I I I (Fa _ _ _ _ W) dS ?_))
 rintro _ _ ⟨rfl, rfl⟩
 refine Bm 3 I (nF [] I I I (nN (cs := [.N, .N, .N]) (m := 3) I I I I I dS fun B => nF [4] I I I (Ax 4 0 0 [As F.1] I (Bm 1 I (Ak (nE ?_))))))
 rotate_left
 refine nF [] I I I (nN (cs := [.N, .N, .N]) (m := 3) I I I I I dS fun B => D4 (A0 [4, 5] (K := [.us G 52 4 (A.map Aj), .us D 4 1 (u.map rB)]) I [(57, .list 4 (A.map Aj)), (61, .list 1 (u.map rB))] ⟨⟨_, I, .us 0 I⟩, ⟨_, I, .us 1 I⟩, J⟩ (ob' := [.arr p 88 2 1 [Cp b.2], .arr t 32 6 1 [Ab g.1], .arr w 39 4 1 [[.list 4 (a.2.2.1.map Au), .list 1 (a.2.2.2.1.map rI), .list 1 (a.2.2.2.2.1.map rI), .list 1 (a.2.2.2.2.2.map rB)]], .arr E 37 3 1 [As b.1], .arr B 37 3 1 [[.N, .N, .N]]]) (.rest _)) I (nF [] I I I (Bp I I I (Fa _ _ _ _ W) dS ?_)))
 rintro _ _ ⟨rfl, rfl⟩
 refine Bm 3 I (nF [4] I I I (Ax 4 0 0 [As F.1] I (Bm 1 I (Ak (nE ?_)))))
 rotate_left
 refine nF [] I I I (nN (cs := [.N, .N, .N]) (m := 3) I I I I I dS fun B => nF [] I I I (A3 (sz := 1) I I I I I I I I I I ai aj (Be (f := rB) ak I) dS fun D => D4 (A0 [4, 6] (K := [.us G 52 4 (A.map Aj), .us D 4 1 (u.map rB)]) I [(57, .list 4 (A.map Aj)), (61, .list 1 (u.map rB))] ⟨⟨_, I, .us 0 I⟩, ⟨_, I, .us 1 I⟩, J⟩ (ob' := [.arr p 88 2 1 [Cp b.2], .arr t 32 6 1 [Ab g.1], .arr w 39 4 1 [[.list 4 (a.2.2.1.map Au), .list 1 (a.2.2.2.1.map rI), .list 1 (a.2.2.2.2.1.map rI), .list 1 (a.2.2.2.2.2.map rB)]], .arr E 37 3 1 [As b.1], .arr B 37 3 1 [[.N, .N, .N]]]) (.rest _)) I (nF [] I I I (Bp I I I (Fa _ _ _ _ W) dS ?_))))
 rintro _ _ ⟨rfl, rfl⟩
 refine Bm 3 I (nF [4] I I I (Ax 4 0 0 [As F.1] I (Bm 1 I (Ak (nE ?_)))))
 rotate_left
 refine nF [] I I I (A3 (sz := 1) I I I I I I I I I I ai aj (Be (f := rB) ak I) dS fun D => nT ?_ ?_)
 refine D4 (A0 [4, 5] (K := [.us af 52 4 (k.1.map Aj), .us ag 52 4 (n.1.map Aj)]) I [(45, .list 4 (k.1.map Aj)), (7, .list 4 (k.1.map Aj)), (51, .list 4 (n.1.map Aj)), (9, .list 4 (n.1.map Aj)), (55, .list 4 (k.1.map Aj)), (56, .list 4 (n.1.map Aj))] ⟨⟨_, I, .us 0 I⟩, ⟨_, I, .us 0 I⟩, ⟨_, I, .us 1 I⟩, ⟨_, I, .us 1 I⟩, ⟨_, I, .us 0 I⟩, ⟨_, I, .us 1 I⟩, J⟩ (ob' := [.arr p 88 2 1 [Cp b.2], .arr t 32 6 1 [Ab g.1], .arr w 39 4 1 [[.list 4 (a.2.2.1.map Au), .list 1 (a.2.2.2.1.map rI), .list 1 (a.2.2.2.2.1.map rI), .list 1 (a.2.2.2.2.2.map rB)]], .arr E 37 3 1 [As b.1], .us D 4 1 (u.map rB)]) (.rest _)) I (nF [] I I I (Bp I I I (Ic _ _ _ ah) dS ?_))
 rintro _ _ ⟨G, rfl, rfl⟩
 refine nT ?_ ?_
 refine D4 (A0 [4, 5] (K := [.us D 4 1 (u.map rB), .us G 52 4 (A.map Aj)]) I [(57, .list 4 (A.map Aj)), (61, .list 1 (u.map rB))] ⟨⟨_, I, .us 1 I⟩, ⟨_, I, .us 0 I⟩, J⟩ (ob' := [.arr p 88 2 1 [Cp b.2], .arr t 32 6 1 [Ab g.1], .arr w 39 4 1 [[.list 4 (a.2.2.1.map Au), .list 1 (a.2.2.2.1.map rI), .list 1 (a.2.2.2.2.1.map rI), .list 1 (a.2.2.2.2.2.map rB)]], .arr E 37 3 1 [As b.1]]) (.rest _)) I (nF [] I I I (Bp I I I (Fa _ _ _ _ W) dS ?_))
 rintro _ _ ⟨rfl, rfl⟩
 refine Bm 3 I (nF [] I I I (nN (cs := [.N, .N, .N]) (m := 3) I I I I I dS fun B => nF [4] I I I (Ax 4 0 0 [As F.1] I (Bm 1 I (Ak (nE ?_))))))
 rotate_left
 refine nF [] I I I (nN (cs := [.N, .N, .N]) (m := 3) I I I I I dS fun B => D4 (A0 [4, 5] (K := [.us D 4 1 (u.map rB), .us G 52 4 (A.map Aj)]) I [(57, .list 4 (A.map Aj)), (61, .list 1 (u.map rB))] ⟨⟨_, I, .us 1 I⟩, ⟨_, I, .us 0 I⟩, J⟩ (ob' := [.arr p 88 2 1 [Cp b.2], .arr t 32 6 1 [Ab g.1], .arr w 39 4 1 [[.list 4 (a.2.2.1.map Au), .list 1 (a.2.2.2.1.map rI), .list 1 (a.2.2.2.2.1.map rI), .list 1 (a.2.2.2.2.2.map rB)]], .arr E 37 3 1 [As b.1], .arr B 37 3 1 [[.N, .N, .N]]]) (.rest _)) I (nF [] I I I (Bp I I I (Fa _ _ _ _ W) dS ?_)))
 rintro _ _ ⟨rfl, rfl⟩
 refine Bm 3 I (nF [4] I I I (Ax 4 0 0 [As F.1] I (Bm 1 I (Ak (nE ?_)))))
 rotate_left
 refine nF [] I I I (nN (cs := [.N, .N, .N]) (m := 3) I I I I I dS fun B => D4 (A0 [4, 5] (K := [.us af 52 4 (k.1.map Aj), .us ag 52 4 (n.1.map Aj)]) I [(45, .list 4 (k.1.map Aj)), (7, .list 4 (k.1.map Aj)), (51, .list 4 (n.1.map Aj)), (9, .list 4 (n.1.map Aj)), (55, .list 4 (k.1.map Aj)), (56, .list 4 (n.1.map Aj))] ⟨⟨_, I, .us 0 I⟩, ⟨_, I, .us 0 I⟩, ⟨_, I, .us 1 I⟩, ⟨_, I, .us 1 I⟩, ⟨_, I, .us 0 I⟩, ⟨_, I, .us 1 I⟩, J⟩ (ob' := [.arr p 88 2 1 [Cp b.2], .arr t 32 6 1 [Ab g.1], .arr w 39 4 1 [[.list 4 (a.2.2.1.map Au), .list 1 (a.2.2.2.1.map rI), .list 1 (a.2.2.2.2.1.map rI), .list 1 (a.2.2.2.2.2.map rB)]], .arr E 37 3 1 [As b.1], .us D 4 1 (u.map rB), .arr B 37 3 1 [[.N, .N, .N]]]) (.rest _)) I (nF [] I I I (Bp I I I (Ic _ _ _ ah) dS ?_)))
 rintro _ _ ⟨G, rfl, rfl⟩
 refine D4 (A0 [4, 6] (K := [.us D 4 1 (u.map rB), .us G 52 4 (A.map Aj)]) I [(57, .list 4 (A.map Aj)), (61, .list 1 (u.map rB))] ⟨⟨_, I, .us 1 I⟩, ⟨_, I, .us 0 I⟩, J⟩ (ob' := [.arr p 88 2 1 [Cp b.2], .arr t 32 6 1 [Ab g.1], .arr w 39 4 1 [[.list 4 (a.2.2.1.map Au), .list 1 (a.2.2.2.1.map rI), .list 1 (a.2.2.2.2.1.map rI), .list 1 (a.2.2.2.2.2.map rB)]], .arr E 37 3 1 [As b.1], .arr B 37 3 1 [[.N, .N, .N]]]) (.rest _)) I (nF [] I I I (Bp I I I (Fa _ _ _ _ W) dS ?_))
 rintro _ _ ⟨rfl, rfl⟩
 refine Bm 3 I (nF [4] I I I (Ax 4 0 0 [As F.1] I (Bm 1 I (Ak (nE ?_)))))
 rotate_left
 refine nF [] I I I (nN (cs := [.N, .N, .N]) (m := 3) I I I I I dS fun B => nT ?_ ?_)
 refine D4 (A0 [4, 5] (K := [.us af 52 4 (k.1.map Aj), .us ag 52 4 (n.1.map Aj)]) I [(45, .list 4 (k.1.map Aj)), (7, .list 4 (k.1.map Aj)), (51, .list 4 (n.1.map Aj)), (9, .list 4 (n.1.map Aj)), (55, .list 4 (k.1.map Aj)), (56, .list 4 (n.1.map Aj))] ⟨⟨_, I, .us 0 I⟩, ⟨_, I, .us 0 I⟩, ⟨_, I, .us 1 I⟩, ⟨_, I, .us 1 I⟩, ⟨_, I, .us 0 I⟩, ⟨_, I, .us 1 I⟩, J⟩ (ob' := [.arr p 88 2 1 [Cp b.2], .arr t 32 6 1 [Ab g.1], .arr w 39 4 1 [[.list 4 (a.2.2.1.map Au), .list 1 (a.2.2.2.1.map rI), .list 1 (a.2.2.2.2.1.map rI), .list 1 (a.2.2.2.2.2.map rB)]], .arr E 37 3 1 [As b.1], .arr B 37 3 1 [[.N, .N, .N]]]) (.rest _)) I (nF [] I I I (Bp I I I (Ic _ _ _ ah) dS ?_))
 rintro _ _ ⟨G, rfl, rfl⟩
 refine nF [] I I I (A3 (sz := 1) I I I I I I I I I I ai aj (Be (f := rB) ak I) dS fun D => D4 (A0 [5, 6] (K := [.us G 52 4 (A.map Aj), .us D 4 1 (u.map rB)]) I [(57, .list 4 (A.map Aj)), (61, .list 1 (u.map rB))] ⟨⟨_, I, .us 0 I⟩, ⟨_, I, .us 1 I⟩, J⟩ (ob' := [.arr p 88 2 1 [Cp b.2], .arr t 32 6 1 [Ab g.1], .arr w 39 4 1 [[.list 4 (a.2.2.1.map Au), .list 1 (a.2.2.2.1.map rI), .list 1 (a.2.2.2.2.1.map rI), .list 1 (a.2.2.2.2.2.map rB)]], .arr E 37 3 1 [As b.1], .arr B 37 3 1 [[.N, .N, .N]]]) (.rest _)) I (nF [] I I I (Bp I I I (Fa _ _ _ _ W) dS ?_)))
 rintro _ _ ⟨rfl, rfl⟩
 refine Bm 3 I (nF [4] I I I (Ax 4 0 0 [As F.1] I (Bm 1 I (Ak (nE ?_)))))
 rotate_left
 refine nF [] I I I (A3 (sz := 1) I I I I I I I I I I ai aj (Be (f := rB) ak I) dS fun D => D4 (A0 [4, 5] (K := [.us af 52 4 (k.1.map Aj), .us ag 52 4 (n.1.map Aj)]) I [(45, .list 4 (k.1.map Aj)), (7, .list 4 (k.1.map Aj)), (51, .list 4 (n.1.map Aj)), (9, .list 4 (n.1.map Aj)), (55, .list 4 (k.1.map Aj)), (56, .list 4 (n.1.map Aj))] ⟨⟨_, I, .us 0 I⟩, ⟨_, I, .us 0 I⟩, ⟨_, I, .us 1 I⟩, ⟨_, I, .us 1 I⟩, ⟨_, I, .us 0 I⟩, ⟨_, I, .us 1 I⟩, J⟩ (ob' := [.arr p 88 2 1 [Cp b.2], .arr t 32 6 1 [Ab g.1], .arr w 39 4 1 [[.list 4 (a.2.2.1.map Au), .list 1 (a.2.2.2.1.map rI), .list 1 (a.2.2.2.2.1.map rI), .list 1 (a.2.2.2.2.2.map rB)]], .arr E 37 3 1 [As b.1], .arr B 37 3 1 [[.N, .N, .N]], .us D 4 1 (u.map rB)]) (.rest _)) I (nF [] I I I (Bp I I I (Ic _ _ _ ah) dS ?_)))
 rintro _ _ ⟨G, rfl, rfl⟩
 refine D4 (A0 [5, 6] (K := [.us D 4 1 (u.map rB), .us G 52 4 (A.map Aj)]) I [(57, .list 4 (A.map Aj)), (61, .list 1 (u.map rB))] ⟨⟨_, I, .us 1 I⟩, ⟨_, I, .us 0 I⟩, J⟩ (ob' := [.arr p 88 2 1 [Cp b.2], .arr t 32 6 1 [Ab g.1], .arr w 39 4 1 [[.list 4 (a.2.2.1.map Au), .list 1 (a.2.2.2.1.map rI), .list 1 (a.2.2.2.2.1.map rI), .list 1 (a.2.2.2.2.2.map rB)]], .arr E 37 3 1 [As b.1], .arr B 37 3 1 [[.N, .N, .N]]]) (.rest _)) I (nF [] I I I (Bp I I I (Fa _ _ _ _ W) dS ?_))
 rintro _ _ ⟨rfl, rfl⟩
 refine Bm 3 I (nF [4] I I I (Ax 4 0 0 [As F.1] I (Bm 1 I (Ak (nE ?_)))))
 any_goals
  exact lg ⟨(F.1.Rates, F.1.Ports, F.1.Pumps, F.2), B, h, I2⟩ [1, 2, 3, 4]
 rintro s ob ⟨e, P, h, rfl, rfl⟩
 unfold Pr.J2 at h
 refine Aa fun cz bu => ?_
 obtain ⟨X, bv, h⟩ := Ac h
 refine nD (Ap 3 [.o 0 0, .o 1 1, .o 2 2] I J3 (nG [] I (Bp I I I (Od _ _ _ _ _ _ bv) dS ?_)))
 rintro _ _ ⟨aa, rfl, rfl⟩
 refine Af 5 I (nE ?_)
 subst bu
 refine Aa fun c1 bw => ?_
 obtain ⟨bx, bz, h⟩ := Ac h
 refine nD (Ap 3 [.o 0 0, .o 1 1] I J2 (nS (Bx 1 0 1 I I I I I (y := .agg [.list 1 (a.2.2.2.1.map rI), .list 1 (a.2.2.2.2.1.map rI), .list 1 (a.2.2.2.2.2.map rB)]) I) I (nG [] I (Bp I I I (Od _ _ _ _ _ _ bz) dS ?_))))
 rintro _ _ ⟨c2, rfl, rfl⟩
 refine Af 5 I (nE ?_)
 subst bw
 refine Aa fun c3 b0 => Al (fun s ob => ∃ (ax : Bool), Pr.J3 g a e X ax = some r ∧ s = [(108, .v (.bool ax))] ∧ ob = [.arr t 32 6 1 [Ab g.1], .arr w 39 4 1 [[.list 4 (a.2.2.1.map Au), .list 1 (a.2.2.2.1.map rI), .list 1 (a.2.2.2.2.1.map rI), .list 1 (a.2.2.2.2.2.map rB)]], .arr P 37 3 1 [[.list 1 (e.1.map rI), .list 1 (e.2.1.map rI), .list 1 (e.2.2.1.map rB)]], .us aa 54 7 (X.1.map A6)]) [(4, _), (5, _), (11, _), (13, _)] J4 ?_ ?_
 rcases bt ((k.2 != 0)) with O | O
 replace h := B0 O h
 refine nD (Af 3 I (Ad 82 I O (Af 26 I (nE ?_))))
 exact lg ⟨true, h, I2⟩ [0, 1, 3, 4]
 replace h := Ca O h
 rcases bt ((n.2 != 0)) with Q | Q
 replace h := B0 Q h
 refine nD (Af 3 I (Ad 82 I O (Af 4 I (Ad 86 I Q (Af 22 I (nE ?_))))))
 exact lg ⟨true, h, I2⟩ [0, 1, 3, 4]
 replace h := Ca Q h
 rcases bt ((e.2.2.2 != 0)) with Y | Y
 replace h := B0 Y h
 refine nD (Af 3 I (Ad 82 I O (Af 4 I (Ad 86 I Q (Af 4 I (Ad 90 I Y (Af 18 I (nE ?_))))))))
 exact lg ⟨true, h, I2⟩ [0, 1, 3, 4]
 replace h := Ca Y h
 rcases bt ((X.2 != 0)) with Z | Z
 replace h := B0 Z h
 refine nD (Af 3 I (Ad 82 I O (Af 4 I (Ad 86 I Q (Af 4 I (Ad 90 I Y (Af 4 I (Ad 94 I Z (Af 14 I (nE ?_))))))))))
 exact lg ⟨true, h, I2⟩ [0, 1, 3, 4]
 replace h := Ca Z h
 rcases bt ((bx.2 != 0)) with ab | ab
 replace h := B0 ab h
 refine nD (Af 3 I (Ad 82 I O (Af 4 I (Ad 86 I Q (Af 4 I (Ad 90 I Y (Af 4 I (Ad 94 I Z (Af 4 I (Ad 98 I ab (Af 10 I (nE ?_))))))))))))
 exact lg ⟨true, h, I2⟩ [0, 1, 3, 4]
 replace h := Ca ab h
 obtain ⟨b1, a8, h⟩ := Ac h
 rcases bt ((b1 != 0)) with al | al
 replace h := B0 al h
 refine nD (Af 3 I (Ad 82 I O (Af 4 I (Ad 86 I Q (Af 4 I (Ad 90 I Y (Af 4 I (Ad 94 I Z (Af 4 I (Ad 98 I ab (Af 1 I (Br I I I ?_))))))))))))
 refine nG [] I (Dq I (.refl _) I I (.cons (.us 5 I) (.rest _)) I (Oh _ _ a8) dS (by rintro _ _ ⟨rfl, _⟩; rfl) ?_)
 rintro _ ⟨_, rfl, -⟩
 refine Af 3 I (Ad 103 I al (Af 5 I (nE ?_)))
 exact lg ⟨true, h, I2⟩ [0, 1, 3, 4]
 replace h := Ca al h
 obtain ⟨b2, b3, h⟩ := Ac h
 refine nD (Af 3 I (Ad 82 I O (Af 4 I (Ad 86 I Q (Af 4 I (Ad 90 I Y (Af 4 I (Ad 94 I Z (Af 4 I (Ad 98 I ab (Af 1 I (Br I I I ?_))))))))))))
 refine nG [] I (Dq I (.refl _) I I (.cons (.us 5 I) (.rest _)) I (Oh _ _ a8) dS (by rintro _ _ ⟨rfl, _⟩; rfl) ?_)
 rintro _ ⟨_, rfl, -⟩
 refine Af 3 I (Ad 103 I al (Ap 2 [.o 0 0, .o 1 3] I J2 (Br I I I (Cg (Gy _ _ _ b3) (Af 2 I (nE ?_))))))
 exact lg ⟨(b2 != 0), h, I2⟩ [0, 1, 3, 4]
 rintro s ob ⟨ax, h, rfl, rfl⟩
 unfold Pr.J3 at h
 refine Ay h I ?_ ?_
 intro b4 h
 refine Aq I (nM g0 ?_)
 obtain rfl := oi h
 exact nK pr
 intro b4 h
 refine nI ?_
 subst b0
 refine Aa fun c4 b5 => nD (Ap 1 [.o 0 1] I J1 (nG [] I (nN (cs := [.N, .N, .N, .N]) (m := 4) I I I I I dS fun am => nG [4] I (Ax 4 0 0 [[.list 4 (a.2.2.1.map Au), .list 1 (a.2.2.2.1.map rI), .list 1 (a.2.2.2.2.1.map rI), .list 1 (a.2.2.2.2.2.map rB)]] I (nE ?_)))))
 subst b5
 refine Al (fun s ob => ∃ (a9 : Unit), Pr.J4 a9 = some r ∧ s = [] ∧ ob = []) [] J ?_ ?_
 refine Aq I (nJ ?_)
 obtain ⟨c5, b6, ay⟩ := Ac h
 clear h
 refine Bz b6 [(4, _), (11, _), (13, _), (17, _)] J4 (fun (H : (List Valve) × (List Int) × (List Int) × (List Bool) × Int) s ob => s = [(18, .V H.2.2.2.2)] ∧ ob = [.arr t 32 6 1 [Ab g.1], .arr P 37 3 1 [[.list 1 (e.1.map rI), .list 1 (e.2.1.map rI), .list 1 (e.2.2.1.map rB)]], .us aa 54 7 (X.1.map A6), .arr am 39 4 1 [[.list 4 (H.1.map Au), .list 1 (H.2.1.map rI), .list 1 (H.2.2.1.map rI), .list 1 (H.2.2.2.1.map rB)]]]) ⟨I, I⟩ ⟨I, J⟩ ⟨[0, 2, 3, 4], I, by decide⟩ ?_
 rintro H ba s ob ⟨rfl, rfl⟩ h az
 unfold Pr.B5 at h
 refine Aa fun c6 b7 => nH (nD (Af 2 I (nS (Cn 2 I I I I) I (Af 1 I (nE (Ay h I ?_ ?_))))))
 intro b8 h
 refine nI ?_
 subst b7
 refine Al (fun s ob => ∃ (ac : (List Valve) × (List Int) × (List Int) × (List Bool)), Pr.J6 H ac = some ba ∧ s = [] ∧ ob = [.arr t 32 6 1 [Ab g.1], .arr P 37 3 1 [[.list 1 (e.1.map rI), .list 1 (e.2.1.map rI), .list 1 (e.2.2.1.map rB)]], .us aa 54 7 (X.1.map A6), .arr am 39 4 1 [[.list 4 (ac.1.map Au), .list 1 (ac.2.1.map rI), .list 1 (ac.2.2.1.map rI), .list 1 (ac.2.2.2.map rB)]]]) [(4, _), (11, _), (13, _), (17, _), (18, _)] J5 ?_ ?_
 refine nJ (Al (fun s ob => ∃ (j : (List Valve) × (List Int) × (List Int) × (List Bool) × Int) (a0 : Nat), Pr.J7 e H j = some ba ∧ s = [(19, .v (.pointer (some ⟨a0, 0, none⟩))), (20, .V j.2.2.2.2)] ∧ ob = [.arr t 32 6 1 [Ab g.1], .arr P 37 3 1 [[.list 1 (e.1.map rI), .list 1 (e.2.1.map rI), .list 1 (e.2.2.1.map rB)]], .us aa 54 7 (X.1.map A6), .arr am 39 4 1 [[.list 4 (H.1.map Au), .list 1 (H.2.1.map rI), .list 1 (H.2.2.1.map rI), .list 1 (H.2.2.2.1.map rB)]], .arr a0 39 4 1 [[.list 4 (j.1.map Au), .list 1 (j.2.1.map rI), .list 1 (j.2.2.1.map rI), .list 1 (j.2.2.2.1.map rB)]]]) [(4, _), (11, _), (13, _), (17, _), (18, _)] J5 ?_ ?_)
 obtain ⟨au, ⟨ca, a1⟩, h⟩ := Bk h
 obtain ⟨M, bb, h⟩ := Ac h
 refine Ce 2 au.1 I a1 fun cb => Bw (sl 6 0 (.two 6 10 (sl 3 7 (.act 10 (.act 11 (.still 12 .nil)))) (.act 6 (sl 3 7 (.act 11 (.still 12 .nil)))))) [0, 3, 2] [_, _, _] I (By 4 [.o 0 0, .o 1 1] I J2 (nV I (Bl (m := au.1) I I I I I cb I ca a1) I (AP.o I (Ba 2 au.1 0 I I I (Ah a1) I (y := .agg (A6 au.2)) I) I (nT ?_ ?_))))
 refine nF [] I I I (Bp I I I (S5 _ _ _ _ bb) dS ?_)
 rintro _ _ ⟨rfl, rfl⟩
 refine Bm 3 I (nF [] I I I (nN (cs := [.N, .N, .N, .N]) (m := 4) I I I I I dS fun a2 => nF [4] I I I (Ax 4 0 0 [A7 M.1] I (Bm 1 I (Ak (nE ?_))))))
 exact lg ⟨(M.1.Valves, M.1.Plan.Rates, M.1.Plan.Ports, M.1.Plan.Pumps, M.2), a2, h, I2⟩ [0, 1, 2, 3, 4]
 refine nF [] I I I (nN (cs := [.N, .N, .N, .N]) (m := 4) I I I I I dS fun a2 => nF [] I I I (Bp I I I (S5 _ _ _ _ bb) dS ?_))
 rintro _ _ ⟨rfl, rfl⟩
 refine Bm 3 I (nF [4] I I I (Ax 4 0 0 [A7 M.1] I (Bm 1 I (Ak (nE ?_)))))
 exact lg ⟨(M.1.Valves, M.1.Plan.Rates, M.1.Plan.Ports, M.1.Plan.Pumps, M.2), a2, h, I2⟩ [0, 1, 2, 3, 4]
 rintro s ob ⟨j, a0, h, rfl, rfl⟩
 unfold Pr.J7 at h
 refine Aa fun c7 cc => Aq I (Ay h I ?_ ?_)
 intro cd h
 refine Aq I ?_
 obtain rfl := az _ (oi h).symm
 replace h := ay
 replace h := Dh h
 refine nM g0 ?_
 obtain rfl := oi h
 exact nK pr
 intro cd h
 refine nI ?_
 subst cc
 refine Aa fun c8 ce => nD (Ap 1 [.o 0 4] I J1 (nG [3] I (Ax 3 0 0 [[.list 4 (j.1.map Au), .list 1 (j.2.1.map rI), .list 1 (j.2.2.1.map rI), .list 1 (j.2.2.2.1.map rB)]] I (nE ?_))))
 subst ce
 refine Aq I (nJ ?_)
 obtain ⟨c9, cf, bc⟩ := Ac h
 clear h
 refine Bz cf [(4, _), (11, _), (13, _), (17, _), (18, _)] J5 (fun (a3 : Int) s ob => s = [(21, .V a3)] ∧ ob = [.arr t 32 6 1 [Ab g.1], .arr P 37 3 1 [[.list 1 (e.1.map rI), .list 1 (e.2.1.map rI), .list 1 (e.2.2.1.map rB)]], .us aa 54 7 (X.1.map A6), .arr am 39 4 1 [[.list 4 (j.1.map Au), .list 1 (j.2.1.map rI), .list 1 (j.2.2.1.map rI), .list 1 (j.2.2.2.1.map rB)]]]) ⟨I, I⟩ ⟨I, J⟩ ⟨[0, 1, 2, 3], I, by decide⟩ ?_
 rintro a3 cg s ob ⟨rfl, rfl⟩ h bd
 unfold Pr.B8 at h
 refine Aa fun da ci => Bu [.o 2 1, .l 3 (e.2.1.length : Int)] I ⟨Bh, I, J⟩ (Ay h I ?_ ?_)
 intro cj h
 refine nI ?_
 subst ci
 refine nH (nJ (Al (fun s ob => ∃ (a4 : Bool), Pr.J9 a3 a4 = some cg ∧ s = [(177, .v (.bool a4))] ∧ ob = [.arr t 32 6 1 [Ab g.1], .arr P 37 3 1 [[.list 1 (e.1.map rI), .list 1 (e.2.1.map rI), .list 1 (e.2.2.1.map rB)]], .us aa 54 7 (X.1.map A6), .arr am 39 4 1 [[.list 4 (j.1.map Au), .list 1 (j.2.1.map rI), .list 1 (j.2.2.1.map rI), .list 1 (j.2.2.2.1.map rB)]]]) [(4, _), (11, _), (13, _), (17, _), (18, _), (21, _)] J6 ?_ ?_))
 obtain ⟨i, ⟨R, S⟩, h⟩ := Bk h
 rcases bt (decide (i.2 > 0)) with ad | ad
 replace h := B0 ad h
 obtain ⟨ae, ⟨be, bf⟩, h⟩ := Bk h
 refine Bw (pd 42 0 []) [1, 3] [_, _] I (By 7 [.o 1 0, .x 3 i.1 (rI i.2)] I ⟨⟨R, Ah S⟩, I, J⟩ (Bq 142 I ad (By 14 [.o 2 1, .x 4 ae.1 (rI ae.2), .o 7 0, .x 9 i.1 (rI i.2)] I ⟨⟨R, Ah S⟩, I, ⟨be, Ah bf⟩, I, J⟩ ?_)))
 rcases bt (decide (ae.2 < i.2)) with an | an
 replace h := B0 an h
 refine Bq 156 I an (Bm 7 I (Ct I I I I dS (Ct I I I I dS (Ct I I I I dS (Ct I I I I dS (Ct I I I I dS (Ct I I I I dS (Ct I I I I dS (Ct I I I I dS (Ct I I I I dS (Ct I I I I dS (Ct I I I I dS ?_))))))))))))
 refine Ct I I I I dS (Bm 2 I (Ak (nE ?_)))
 exact lg ⟨true, h, I2⟩ [0, 1, 2, 3]
 replace h := Ca an h
 refine Bq 156 I an (By 7 [.o 1 0, .x 3 i.1 (rI i.2)] I ⟨⟨R, Ah S⟩, I, J⟩ ?_)
 rcases bt (decide (i.2 < 0)) with ao | ao
 replace h := B0 ao h
 refine Bq 163 I ao (By 14 [.o 2 1, .x 4 ae.1 (rI ae.2), .o 7 0, .x 9 i.1 (rI i.2)] I ⟨⟨R, Ah S⟩, I, ⟨be, Ah bf⟩, I, J⟩ (Ak (nE ?_)))
 exact lg ⟨decide (ae.2 > i.2), h, I2⟩ [0, 1, 2, 3]
 replace h := Ca ao h
 refine Bq 163 I ao (Bm 14 I (Ak (nE ?_)))
 exact lg ⟨false, h, I2⟩ [0, 1, 2, 3]
 replace h := Ca ad h
 rcases bt (decide (i.2 < 0)) with ap | ap
 replace h := B0 ap h
 obtain ⟨a5, ⟨ck, cl⟩, h⟩ := Bk h
 refine Bw (pd 42 0 []) [1, 3] [_, _] I (By 7 [.o 1 0, .x 3 i.1 (rI i.2)] I ⟨⟨R, Ah S⟩, I, J⟩ (Bq 142 I ad (By 21 [.o 15 0, .x 17 i.1 (rI i.2)] I ⟨⟨R, Ah S⟩, I, J⟩ (Bq 163 I ap (By 14 [.o 2 1, .x 4 a5.1 (rI a5.2), .o 7 0, .x 9 i.1 (rI i.2)] I ⟨⟨R, Ah S⟩, I, ⟨ck, Ah cl⟩, I, J⟩ (Ak (nE ?_)))))))
 exact lg ⟨decide (a5.2 > i.2), h, I2⟩ [0, 1, 2, 3]
 replace h := Ca ap h
 refine Bw (pd 42 0 []) [1] [_] I (By 7 [.o 1 0, .x 3 i.1 (rI i.2)] I ⟨⟨R, Ah S⟩, I, J⟩ (Bq 142 I ad (By 21 [.o 15 0, .x 17 i.1 (rI i.2)] I ⟨⟨R, Ah S⟩, I, J⟩ (Bq 163 I ap (Bm 14 I (Ak (nE ?_)))))))
 exact lg ⟨false, h, I2⟩ [0, 1, 2, 3]
 rintro s ob ⟨a4, h, rfl, rfl⟩
 unfold Pr.J9 at h
 refine Ay h I ?_ ?_
 intro cm h
 refine Aq I ?_
 obtain rfl := bd _ (oi h).symm
 replace h := bc
 replace h := Dh h
 obtain rfl := az _ (oi h).symm
 replace h := ay
 replace h := Dh h
 refine nM g0 ?_
 obtain rfl := oi h
 exact nK pr
 intro cm h
 refine nI (nD (Af 3 I ?_))
 obtain rfl := oi h
 refine nE ?_
 exact ⟨_, _, _, I, I2, J6, [0, 1, 2, 3], I, by decide⟩
 intro cj h
 obtain rfl := bd _ (oi h).symm
 replace h := bc
 replace h := Do h
 refine nO ?_
 exact lg ⟨(j.1, j.2.1, j.2.2.1, j.2.2.2.1), h, I2⟩ [0, 1, 2, 3]
 rintro s ob ⟨ac, h, rfl, rfl⟩
 unfold Pr.J6 at h
 refine nD (Af 3 I ?_)
 obtain rfl := oi h
 refine nE ?_
 exact ⟨_, _, _, I, I2, J5, [0, 1, 2, 3], I, by decide⟩
 intro b8 h
 obtain rfl := az _ (oi h).symm
 replace h := ay
 replace h := Do h
 refine nO ?_
 exact lg ⟨(), h, I2⟩ []
 rintro s ob ⟨a9, h, rfl, rfl⟩
 unfold Pr.J4 at h
 refine nH ?_
 obtain ⟨db, cn, h⟩ := Ac h
 refine nD (Cg (Ti  _ cn) (Af 1 I (nE ?_)))
 obtain rfl := oi h
 exact nK pr
end Go.Proofs.YtmaamhgjeampmaaGreat
