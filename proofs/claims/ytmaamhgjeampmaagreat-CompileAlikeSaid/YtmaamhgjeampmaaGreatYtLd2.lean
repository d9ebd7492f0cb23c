/- Walks that show what functions of the program compute; printed by a program of ours. No condition. -/
import Derived.Test.YtmaamhgjeampmaaGreatYtLd1
set_option maxRecDepth 100000
namespace Go.Proofs.YtmaamhgjeampmaaGreat
open Go.Aw
set_option linter.unusedVariables false
set_option linter.unusedSimpArgs false
set_option maxHeartbeats 4000000
theorem Ro (D : Plan) (r : Plan) (h : Np D = some r) : ACalls Am 83 [.agg (As D)] [] (fun x new => ∃ (E : Value) (F : Value) (G : Value), x = .agg [.v E, .v F, .v G] ∧ new = [.us E 3 1 (r.Rates.map rI), .us F 3 1 (r.Ports.map rI), .us G 4 1 (r.Pumps.map rB)]) := by
 refine Ag Tryz.func83 rfl rfl rfl fun C hC => ?_
 unfold Np at h
 refine Aa fun M H => nD (nG [] I (nQ (cs := As D) (m := 3) I I I dS fun O => nG [] I (nN (cs := [.N, .N, .N]) (m := 3) I I I I I dS fun K => nE ?_)))
 subst H
 refine Al (fun s ob => ∃ (u : (List Int) × (List Int) × (List Bool)) (y : Value) (z : Value) (A : Value), Np.J1 u = some r ∧ s = [] ∧ ob = [.arr K 37 3 1 [[.v y, .v z, .v A]], .us y 3 1 (u.1.map rI), .us z 3 1 (u.2.1.map rI), .us A 4 1 (u.2.2.map rB)]) [(2, _)] J1 ?_ ?_
 obtain ⟨g, q, h⟩ := Ac h
 obtain ⟨i, j, h⟩ := Ac h
 obtain ⟨k, n, h⟩ := Ac h
 refine Bw (.still 1 (.still 2 (.still 5 (.still 6 (.still 9 (.still 10 (.three 0 4 8 (.three 3 4 8 (.two 4 8 (.two 7 8 (.act 8 (.act 11 (.still 12 (.act 13 .nil)))) (.act 7 (.act 11 (.still 12 (.act 13 .nil))))) (.act 4 (.act 7 (.act 11 (.still 12 (.act 13 .nil)))))) (.two 3 8 (.two 7 8 (.act 8 (.act 11 (.still 12 (.act 13 .nil)))) (.act 7 (.act 11 (.still 12 (.act 13 .nil))))) (.act 3 (.act 7 (.act 11 (.still 12 (.act 13 .nil)))))) (.two 3 4 (.act 4 (.act 7 (.act 11 (.still 12 (.act 13 .nil))))) (.act 3 (.act 7 (.act 11 (.still 12 (.act 13 .nil))))))) (.two 0 8 (.two 3 8 (.two 7 8 (.act 8 (.act 11 (.still 12 (.act 13 .nil)))) (.act 7 (.act 11 (.still 12 (.act 13 .nil))))) (.act 3 (.act 7 (.act 11 (.still 12 (.act 13 .nil)))))) (.act 0 (.act 3 (.act 7 (.act 11 (.still 12 (.act 13 .nil))))))) (.two 0 4 (.two 3 4 (.act 4 (.act 7 (.act 11 (.still 12 (.act 13 .nil))))) (.act 3 (.act 7 (.act 11 (.still 12 (.act 13 .nil)))))) (.act 0 (.act 3 (.act 7 (.act 11 (.still 12 (.act 13 .nil)))))))))))))) [0] [_] I (By 6 [.o 1 0, .o 3 0, .o 5 0] I J3 (nX ?_ ?_ ?_))
 refine nF [] I I I (nP (sz := 1) (es := ([] : List Int).map rI) I I I I I I I I I I I dS fun B => nX ?_ ?_ ?_)
 refine nF [2] I I I (Bf 2 I q fun c => nT ?_ ?_)
 refine nF [] I I I (nP (sz := 1) (es := ([] : List Int).map rI) I I I I I I I I I I I dS fun w => nT ?_ ?_)
 refine nF [3] I I I (Bf 3 I j fun a => nF [] I I I (nP (sz := 1) (es := ([] : List Bool).map rB) I I I I I I I I I I I dS fun t => nF [4] I I I (Bf 4 I n fun b => nL 2 I fun d => nL 3 I fun e => nL 4 I fun f => Cr I (Ao (l := [.v c, .v a, .v b]) Az (Ae I I (Ai d) I (Ae I I (Ai e) I (Ae I I (Ai f) I (A8))))) I (nF [1] I I I (Ax 1 0 0 [[.v c, .v a, .v b]] I (Ak (nE ?_)))))))
 exact lg ⟨(g, i, k), c, a, b, h, I2⟩ [1, 2, 3, 4]
 refine nF [] I I I (nP (sz := 1) (es := ([] : List Bool).map rB) I I I I I I I I I I I dS fun t => nF [3] I I I (Bf 3 I j fun a => nF [4] I I I (Bf 4 I n fun b => nL 2 I fun d => nL 3 I fun e => nL 4 I fun f => Cr I (Ao (l := [.v c, .v a, .v b]) Az (Ae I I (Ai d) I (Ae I I (Ai e) I (Ae I I (Ai f) I (A8))))) I (nF [1] I I I (Ax 1 0 0 [[.v c, .v a, .v b]] I (Ak (nE ?_)))))))
 exact lg ⟨(g, i, k), c, a, b, h, I2⟩ [1, 2, 3, 4]
 refine nF [] I I I (nP (sz := 1) (es := ([] : List Bool).map rB) I I I I I I I I I I I dS fun t => nF [] I I I (nP (sz := 1) (es := ([] : List Int).map rI) I I I I I I I I I I I dS fun w => nF [4] I I I (Bf 4 I j fun a => nF [3] I I I (Bf 3 I n fun b => nL 2 I fun d => nL 4 I fun e => nL 3 I fun f => Cr I (Ao (l := [.v c, .v a, .v b]) Az (Ae I I (Ai d) I (Ae I I (Ai e) I (Ae I I (Ai f) I (A8))))) I (nF [1] I I I (Ax 1 0 0 [[.v c, .v a, .v b]] I (Ak (nE ?_))))))))
 exact lg ⟨(g, i, k), c, a, b, h, I2⟩ [1, 2, 4, 3]
 refine nF [] I I I (nP (sz := 1) (es := ([] : List Int).map rI) I I I I I I I I I I I dS fun w => nT ?_ ?_)
 refine nF [2] I I I (Bf 2 I q fun c => nT ?_ ?_)
 refine nF [3] I I I (Bf 3 I j fun a => nF [] I I I (nP (sz := 1) (es := ([] : List Bool).map rB) I I I I I I I I I I I dS fun t => nF [4] I I I (Bf 4 I n fun b => nL 2 I fun d => nL 3 I fun e => nL 4 I fun f => Cr I (Ao (l := [.v c, .v a, .v b]) Az (Ae I I (Ai d) I (Ae I I (Ai e) I (Ae I I (Ai f) I (A8))))) I (nF [1] I I I (Ax 1 0 0 [[.v c, .v a, .v b]] I (Ak (nE ?_)))))))
 exact lg ⟨(g, i, k), c, a, b, h, I2⟩ [1, 2, 3, 4]
 refine nF [] I I I (nP (sz := 1) (es := ([] : List Bool).map rB) I I I I I I I I I I I dS fun t => nF [3] I I I (Bf 3 I j fun a => nF [4] I I I (Bf 4 I n fun b => nL 2 I fun d => nL 3 I fun e => nL 4 I fun f => Cr I (Ao (l := [.v c, .v a, .v b]) Az (Ae I I (Ai d) I (Ae I I (Ai e) I (Ae I I (Ai f) I (A8))))) I (nF [1] I I I (Ax 1 0 0 [[.v c, .v a, .v b]] I (Ak (nE ?_)))))))
 exact lg ⟨(g, i, k), c, a, b, h, I2⟩ [1, 2, 3, 4]
 refine nF [] I I I (nP (sz := 1) (es := ([] : List Bool).map rB) I I I I I I I I I I I dS fun t => nF [2] I I I (Bf 2 I q fun c => nF [3] I I I (Bf 3 I j fun a => nF [4] I I I (Bf 4 I n fun b => nL 2 I fun d => nL 3 I fun e => nL 4 I fun f => Cr I (Ao (l := [.v c, .v a, .v b]) Az (Ae I I (Ai d) I (Ae I I (Ai e) I (Ae I I (Ai f) I (A8))))) I (nF [1] I I I (Ax 1 0 0 [[.v c, .v a, .v b]] I (Ak (nE ?_))))))))
 exact lg ⟨(g, i, k), c, a, b, h, I2⟩ [1, 2, 3, 4]
 refine nF [] I I I (nP (sz := 1) (es := ([] : List Bool).map rB) I I I I I I I I I I I dS fun t => nT ?_ ?_)
 refine nF [2] I I I (Bf 2 I q fun c => nF [] I I I (nP (sz := 1) (es := ([] : List Int).map rI) I I I I I I I I I I I dS fun w => nF [4] I I I (Bf 4 I j fun a => nF [3] I I I (Bf 3 I n fun b => nL 2 I fun d => nL 4 I fun e => nL 3 I fun f => Cr I (Ao (l := [.v c, .v a, .v b]) Az (Ae I I (Ai d) I (Ae I I (Ai e) I (Ae I I (Ai f) I (A8))))) I (nF [1] I I I (Ax 1 0 0 [[.v c, .v a, .v b]] I (Ak (nE ?_))))))))
 exact lg ⟨(g, i, k), c, a, b, h, I2⟩ [1, 2, 4, 3]
 refine nF [] I I I (nP (sz := 1) (es := ([] : List Int).map rI) I I I I I I I I I I I dS fun w => nF [2] I I I (Bf 2 I q fun c => nF [4] I I I (Bf 4 I j fun a => nF [3] I I I (Bf 3 I n fun b => nL 2 I fun d => nL 4 I fun e => nL 3 I fun f => Cr I (Ao (l := [.v c, .v a, .v b]) Az (Ae I I (Ai d) I (Ae I I (Ai e) I (Ae I I (Ai f) I (A8))))) I (nF [1] I I I (Ax 1 0 0 [[.v c, .v a, .v b]] I (Ak (nE ?_))))))))
 exact lg ⟨(g, i, k), c, a, b, h, I2⟩ [1, 2, 4, 3]
 refine nF [] I I I (nP (sz := 1) (es := ([] : List Int).map rI) I I I I I I I I I I I dS fun w => nT ?_ ?_)
 refine nF [] I I I (nP (sz := 1) (es := ([] : List Int).map rI) I I I I I I I I I I I dS fun B => nT ?_ ?_)
 refine nF [3] I I I (Bf 3 I q fun c => nT ?_ ?_)
 refine nF [2] I I I (Bf 2 I j fun a => nF [] I I I (nP (sz := 1) (es := ([] : List Bool).map rB) I I I I I I I I I I I dS fun t => nF [4] I I I (Bf 4 I n fun b => nL 3 I fun d => nL 2 I fun e => nL 4 I fun f => Cr I (Ao (l := [.v c, .v a, .v b]) Az (Ae I I (Ai d) I (Ae I I (Ai e) I (Ae I I (Ai f) I (A8))))) I (nF [1] I I I (Ax 1 0 0 [[.v c, .v a, .v b]] I (Ak (nE ?_)))))))
 exact lg ⟨(g, i, k), c, a, b, h, I2⟩ [1, 3, 2, 4]
 refine nF [] I I I (nP (sz := 1) (es := ([] : List Bool).map rB) I I I I I I I I I I I dS fun t => nF [2] I I I (Bf 2 I j fun a => nF [4] I I I (Bf 4 I n fun b => nL 3 I fun d => nL 2 I fun e => nL 4 I fun f => Cr I (Ao (l := [.v c, .v a, .v b]) Az (Ae I I (Ai d) I (Ae I I (Ai e) I (Ae I I (Ai f) I (A8))))) I (nF [1] I I I (Ax 1 0 0 [[.v c, .v a, .v b]] I (Ak (nE ?_)))))))
 exact lg ⟨(g, i, k), c, a, b, h, I2⟩ [1, 3, 2, 4]
 refine nF [] I I I (nP (sz := 1) (es := ([] : List Bool).map rB) I I I I I I I I I I I dS fun t => nF [3] I I I (Bf 3 I q fun c => nF [2] I I I (Bf 2 I j fun a => nF [4] I I I (Bf 4 I n fun b => nL 3 I fun d => nL 2 I fun e => nL 4 I fun f => Cr I (Ao (l := [.v c, .v a, .v b]) Az (Ae I I (Ai d) I (Ae I I (Ai e) I (Ae I I (Ai f) I (A8))))) I (nF [1] I I I (Ax 1 0 0 [[.v c, .v a, .v b]] I (Ak (nE ?_))))))))
 exact lg ⟨(g, i, k), c, a, b, h, I2⟩ [1, 3, 2, 4]
 refine nF [] I I I (nP (sz := 1) (es := ([] : List Bool).map rB) I I I I I I I I I I I dS fun t => nF [] I I I (nP (sz := 1) (es := ([] : List Int).map rI) I I I I I I I I I I I dS fun B => nF [4] I I I (Bf 4 I q fun c => nF [2] I I I (Bf 2 I j fun a => nF [3] I I I (Bf 3 I n fun b => nL 4 I fun d => nL 2 I fun e => nL 3 I fun f => Cr I (Ao (l := [.v c, .v a, .v b]) Az (Ae I I (Ai d) I (Ae I I (Ai e) I (Ae I I (Ai f) I (A8))))) I (nF [1] I I I (Ax 1 0 0 [[.v c, .v a, .v b]] I (Ak (nE ?_)))))))))
 exact lg ⟨(g, i, k), c, a, b, h, I2⟩ [1, 4, 2, 3]
 refine nF [] I I I (nP (sz := 1) (es := ([] : List Bool).map rB) I I I I I I I I I I I dS fun t => nT ?_ ?_)
 refine nF [] I I I (nP (sz := 1) (es := ([] : List Int).map rI) I I I I I I I I I I I dS fun B => nT ?_ ?_)
 refine nF [3] I I I (Bf 3 I q fun c => nF [] I I I (nP (sz := 1) (es := ([] : List Int).map rI) I I I I I I I I I I I dS fun w => nF [4] I I I (Bf 4 I j fun a => nF [2] I I I (Bf 2 I n fun b => nL 3 I fun d => nL 4 I fun e => nL 2 I fun f => Cr I (Ao (l := [.v c, .v a, .v b]) Az (Ae I I (Ai d) I (Ae I I (Ai e) I (Ae I I (Ai f) I (A8))))) I (nF [1] I I I (Ax 1 0 0 [[.v c, .v a, .v b]] I (Ak (nE ?_))))))))
 exact lg ⟨(g, i, k), c, a, b, h, I2⟩ [1, 3, 4, 2]
 refine nF [] I I I (nP (sz := 1) (es := ([] : List Int).map rI) I I I I I I I I I I I dS fun w => nF [3] I I I (Bf 3 I q fun c => nF [4] I I I (Bf 4 I j fun a => nF [2] I I I (Bf 2 I n fun b => nL 3 I fun d => nL 4 I fun e => nL 2 I fun f => Cr I (Ao (l := [.v c, .v a, .v b]) Az (Ae I I (Ai d) I (Ae I I (Ai e) I (Ae I I (Ai f) I (A8))))) I (nF [1] I I I (Ax 1 0 0 [[.v c, .v a, .v b]] I (Ak (nE ?_))))))))
 exact lg ⟨(g, i, k), c, a, b, h, I2⟩ [1, 3, 4, 2]
 refine nF [] I I I (nP (sz := 1) (es := ([] : List Int).map rI) I I I I I I I I I I I dS fun w => nF [] I I I (nP (sz := 1) (es := ([] : List Int).map rI) I I I I I I I I I I I dS fun B => nF [4] I I I (Bf 4 I q fun c => nF [3] I I I (Bf 3 I j fun a => nF [2] I I I (Bf 2 I n fun b => nL 4 I fun d => nL 3 I fun e => nL 2 I fun f => Cr I (Ao (l := [.v c, .v a, .v b]) Az (Ae I I (Ai d) I (Ae I I (Ai e) I (Ae I I (Ai f) I (A8))))) I (nF [1] I I I (Ax 1 0 0 [[.v c, .v a, .v b]] I (Ak (nE ?_)))))))))
 exact lg ⟨(g, i, k), c, a, b, h, I2⟩ [1, 4, 3, 2]
 rintro s ob ⟨u, y, z, A, h, rfl, rfl⟩
 unfold Np.J1 at h
 refine Cb [1, 2, 3, 0] I ?_
 obtain rfl := oi h
 exact nK ⟨.inr I, [_], [.us y 3 1 (u.1.map rI), .us z 3 1 (u.2.1.map rI), .us A 4 1 (u.2.2.map rB)], ⟨⟨3, _, _, _, _, _, _, _, I5⟩, J⟩, Dn I (Dn I (Dn I (Cf))), ⟨y, z, A, I2⟩⟩
theorem Ts (a : Path) (r : Bool) (h : Nr a = r) : ACalls Am 102 [.agg (Aj a)] [] (fun x new => x = .v (.bool r) ∧ new = []) := by
 refine Ag Tryz.func102 rfl rfl rfl fun C hC => ?_
 unfold Nr at h
 refine Aa fun f e => nD (nG [] I (nQ (cs := Aj a) (m := 4) I I I dS fun g => Af 1 I (nE ?_)))
 subst e
 refine Al (fun s ob => s = [(2, .v (.bool ((a.In == 0) && ((a.Out == 0) && (((a.Hops.length : Int) == 0) && (a.Rate == 0))))))] ∧ ob = []) [] J ?_ ?_
 refine nD (Ap 4 [.o 1 0] I J1 ?_)
 rcases bt ((a.In == 0)) with b | b
 refine Ad 6 I b (Ap 5 [.o 1 0] I J1 ?_)
 rcases bt ((a.Out == 0)) with c | c
 refine Ad 11 I c (Ap 6 [.o 1 0, .l 2 (a.Hops.length : Int)] I ⟨Bh, I, J⟩ ?_)
 rcases bt (((a.Hops.length : Int) == 0)) with d | d
 refine Ad 17 I d (Ap 5 [.o 1 0] I J1 (nE ?_))
 exact lf I2 ⟨(Dz (by simp only [b, c, d, bz])), J⟩ [] I
 refine Ad 17 I d (Af 5 I (nE ?_))
 exact lf I2 ⟨(Dz (by simp only [b, c, d, bz])), J⟩ [] I
 refine Ad 11 I c (Af 11 I (nE ?_))
 exact lf I2 ⟨(Dz (by simp only [b, c, bz])), J⟩ [] I
 refine Ad 6 I b (Af 16 I (nE ?_))
 exact lf I2 ⟨(Dz (by simp only [b, bz])), J⟩ [] I
 rintro s ob ⟨rfl, rfl⟩
 obtain rfl := h
 exact nK pr
theorem Xl (a : Step) (r : Bool) (h : Pc a = r) : ACalls Am 61 [.agg (A6 a)] [] (fun x new => x = .v (.bool r) ∧ new = []) := by
 refine Ag Tryz.func61 rfl rfl rfl fun C hC => ?_
 unfold Pc at h
 refine Aa fun A i => nD (nG [] I (nQ (cs := A6 a) (m := 7) I I I dS fun j => Af 1 I (nE ?_)))
 subst i
 refine nH (Bu [.o 1 0] I J1 (nJ (Al (fun s ob => ∃ (g : Bool), Pc.J1 a g = r ∧ s = [(5, .v (.bool g))] ∧ ob = [.arr j 54 7 1 [A6 a]]) [(1, _), (4, _)] J2 ?_ ?_)))
 refine Aq I (Ay h I ?_ ?_)
 intro k h
 refine nI ?_
 exact lg ⟨(a.Kind == 1), h, I2⟩ [0]
 intro k h
 refine Aq I (Ay h I ?_ ?_)
 intro l h
 refine nI ?_
 exact lg ⟨(a.Kind == 2), h, I2⟩ [0]
 intro l h
 refine Aq I (Ay h I ?_ ?_)
 intro n h
 refine nI ?_
 exact lg ⟨(a.Kind == 3), h, I2⟩ [0]
 intro n h
 refine Pd I ?_
 exact lg ⟨(a.Kind == 4), h, I2⟩ [0]
 rintro s ob ⟨g, h, rfl, rfl⟩
 unfold Pc.J1 at h
 refine Ay h I ?_ ?_
 intro p h
 refine Dt 2 ((a.Value == 0) && (Nr a.Path)) ?_ ?_
 refine nD (Ap 4 [.o 1 0] I J1 ?_)
 rcases bt ((a.Value == 0)) with b | b
 refine Ad 13 I b (Af 1 I (Br I I I (nS (Bx 0 0 3 I I I I I (y := .agg (Aj a.Path)) I) I (Br I I I (Cg (Ts a.Path _ I) (Af 2 I (nE ?_)))))))
 exact jf (by simp only [b, bz]) I I I2
 refine Ad 13 I b (Af 5 I (nE ?_))
 exact jf (by simp only [b, bz]) I I I2
 refine nM g0 ?_
 obtain rfl := h
 exact nK pr
 intro p h
 refine Aq I (Ay h I ?_ ?_)
 intro u h
 refine Dt 2 ((a.Index == 0) && (a.Path.Rate == 0)) ?_ ?_
 refine nD (Ap 4 [.o 1 0] I J1 ?_)
 rcases bt ((a.Index == 0)) with e | e
 refine Ad 23 I e (Ap 6 [.o 2 0] I J1 (nE ?_))
 exact jf (by simp only [e, bz]) I I I2
 refine Ad 23 I e (Af 6 I (nE ?_))
 exact jf (by simp only [e, bz]) I I I2
 refine nM g0 ?_
 obtain rfl := h
 exact nK pr
 intro u h
 refine Aq I (Ay h I ?_ ?_)
 intro w h
 refine Dt 2 ((a.Index == 0) && (Nr a.Path)) ?_ ?_
 refine nD (Ap 4 [.o 1 0] I J1 ?_)
 rcases bt ((a.Index == 0)) with f | f
 refine Ad 34 I f (Af 1 I (Br I I I (nS (Bx 0 0 3 I I I I I (y := .agg (Aj a.Path)) I) I (Br I I I (Cg (Ts a.Path _ I) (Af 2 I (nE ?_)))))))
 exact jf (by simp only [f, bz]) I I I2
 refine Ad 34 I f (Af 5 I (nE ?_))
 exact jf (by simp only [f, bz]) I I I2
 refine nM g0 ?_
 obtain rfl := h
 exact nK pr
 intro w h
 refine nI (Aq I (nM g0 ?_))
 obtain rfl := h
 exact nK pr
theorem Oj (a : Network) (b : Plan) (r : Bool) (h : Jj a b = some r) : ACalls Am 101 [.agg (Ab a), .agg (As b)] [] (fun x new => x = .v (.bool r) ∧ new = []) := by
 refine Ag Tryz.func101 rfl rfl rfl fun C hC => ?_
 unfold Jj at h
 refine Aa fun Q w => nD (nG [] I (nQ (cs := Ab a) (m := 6) I I I dS fun g => nG [] I (nQ (cs := As b) (m := 3) I I I dS fun i => Af 1 I (nE ?_))))
 subst w
 refine Al (fun s ob => ∃ (j : Unit), Jj.J1 j = some r ∧ s = [] ∧ ob = []) [] J ?_ ?_
 refine Aq I (nJ ?_)
 obtain ⟨R, y, k⟩ := Ac h
 clear h
 refine Bz y [(2, _), (3, _)] J2 (fun (e : Int) s ob => s = [(5, .V e)] ∧ ob = [.arr g 32 6 1 [Ab a], .arr i 37 3 1 [As b]]) ⟨I, I⟩ ⟨I, J⟩ ⟨[0, 1], I, by decide⟩ ?_
 rintro e A s ob ⟨rfl, rfl⟩ h n
 unfold Jj.B2 at h
 refine Aa fun S B => Bu [.o 2 0, .l 3 (a.Stations.length : Int)] I ⟨Bh, I, J⟩ (Ay h I ?_ ?_)
 intro D h
 refine nI ?_
 subst B
 refine Al (fun s ob => ∃ (p : Unit), Jj.J3 e p = some A ∧ s = [] ∧ ob = [.arr g 32 6 1 [Ab a], .arr i 37 3 1 [As b]]) [(2, _), (3, _), (5, _)] J3 ?_ ?_
 refine nJ (Aa fun U E => ?_)
 obtain ⟨t, ⟨F, G⟩, h⟩ := Bk h
 refine I6 [.o 1 1, .x 3 t.1 (rB t.2)] I ⟨⟨F, Ah G⟩, I, J⟩ ?_
 subst E
 refine Ay h I ?_ ?_
 intro H h
 refine Aa fun W K => ?_
 obtain ⟨u, ⟨M, N⟩, h⟩ := Bk h
 obtain ⟨f, O, h⟩ := Ac h
 refine Bw (pd 14 0 [8]) [0, 1] [_, _] I (By 8 [.o 0 0, .o 1 1, .o 3 0, .x 5 u.1 (A4 u.2)] I ⟨⟨M, Ah N⟩, I, I, I, J⟩ (Ee I (Tr _ _ _ _ O) (Bm 5 I (Ak (nE ?_)))))
 subst K
 refine Dt 37 ((f.2 != 0) || (f.1 == 0)) ?_ ?_
 refine nD (Af 3 I ?_)
 rcases bt ((f.2 != 0)) with d | d
 refine Ad 34 I d (Af 3 I (nE ?_))
 exact jf (by simp only [d, bz]) I I I2
 refine Ad 34 I d (Af 3 I (nE ?_))
 exact jf (by simp only [d, bz]) I I I2
 refine Ay h I ?_ ?_
 intro P h
 refine Aq I ?_
 obtain rfl := n _ (oi h).symm
 replace h := k
 replace h := Dh h
 refine nM g0 ?_
 obtain rfl := oi h
 exact nK pr
 intro P h
 refine nI ?_
 exact lg ⟨(), h, I2⟩ [0, 1]
 intro H h
 refine nI ?_
 exact lg ⟨(), h, I2⟩ [0, 1]
 rintro s ob ⟨p, h, rfl, rfl⟩
 unfold Jj.J3 at h
 refine nD (Af 3 I ?_)
 obtain rfl := oi h
 refine nE ?_
 exact ⟨_, _, _, I, I2, J3, [0, 1], I, by decide⟩
 intro D h
 obtain rfl := n _ (oi h).symm
 replace h := k
 replace h := Do h
 refine nO ?_
 exact lg ⟨(), h, I2⟩ []
 rintro s ob ⟨j, h, rfl, rfl⟩
 unfold Jj.J1 at h
 refine Aq I ?_
 obtain rfl := oi h
 exact nK pr
theorem aP (b : Network) (a : Desk) (r : Int) (h : Mu b a = some r) : ACalls Am 60 [.agg (Ab b), .agg (A7 a)] [] (fun x new => x = .V r ∧ new = []) := by
 refine Ag Tryz.func60 rfl rfl rfl fun C hC => ?_
 unfold Mu at h
 refine Aa fun y1 F => nD (nG [] I (nQ (cs := Ab b) (m := 6) I I I dS fun j => nG [] I (nQ (cs := A7 a) (m := 4) I I I dS fun k => Af 1 I (nE ?_))))
 subst F
 refine Aa fun y4 G => nH ?_
 obtain ⟨r5, H, h⟩ := Ac h
 refine nD (Ap 1 [.o 0 0] I J1 (Cg (If _ _ H) (Af 1 I (nE (Aq I (Ay h I ?_ ?_))))))
 intro K h
 refine Aq I (nM g0 ?_)
 obtain rfl := oi h
 exact nK pr
 intro K h
 refine nI ?_
 subst G
 refine Aa fun y8 M => nH ?_
 obtain ⟨r9, N, h⟩ := Ac h
 refine nD (Ap 3 [.o 0 0, .o 2 1] I J2 (Cg (dA _ _ _ N) (Af 1 I (nE (Aq I (Ay h I ?_ ?_))))))
 intro O h
 refine Aq I (nM g0 ?_)
 obtain rfl := oi h
 exact nK pr
 intro O h
 refine nI ?_
 subst M
 refine Aa fun ak P => nH ?_
 obtain ⟨al, Q, h⟩ := Ac h
 refine nD (Ap 2 [.o 0 0] I J1 (nS (Bx 1 0 1 I I I I I (y := .agg (As a.Plan)) I) I (Cg (Gy _ _ _ Q) (Af 1 I (nE (Aq I (Ay h I ?_ ?_)))))))
 intro R h
 refine Aq I (nM g0 ?_)
 obtain rfl := oi h
 exact nK pr
 intro R h
 refine nI ?_
 subst P
 refine Aa fun am S => ?_
 obtain ⟨an, U, h⟩ := Ac h
 obtain ⟨p, W, h⟩ := Ac h
 refine nD (Af 1 I (nS (Bx 1 0 1 I I I I I (y := .agg (As a.Plan)) I) I (nG [] I (Bp I I I (Oe _ _ U) dS ?_))))
 rintro _ _ ⟨rfl, rfl⟩
 refine nG [] I (Bp I I I (Ol _ _ W) dS ?_)
 rintro _ _ ⟨t, rfl, rfl⟩
 refine Af 1 I (nE ?_)
 subst S
 refine Al (fun s ob => ∃ (u : Unit), Mu.J1 b a u = some r ∧ s = [] ∧ ob = [.arr j 32 6 1 [Ab b], .arr k 39 4 1 [A7 a]]) [(2, _), (3, _)] J2 ?_ ?_
 refine Aq I (nJ ?_)
 obtain ⟨ao, X, w⟩ := Ac h
 clear h
 refine Bz X [(2, _), (3, _), (8, _)] J3 (fun (l : Int) s ob => s = [(9, .V l)] ∧ ob = [.arr j 32 6 1 [Ab b], .arr k 39 4 1 [A7 a], .us t 4 1 (p.map rB)]) ⟨I, I⟩ ⟨I, J⟩ ⟨[0, 1, 2], I, by decide⟩ ?_
 rintro l Y s ob ⟨rfl, rfl⟩ h A
 unfold Mu.B2 at h
 refine Aa fun ap Z => nH (nD (Af 2 I (nS (Cn 2 I I I I) I (Af 1 I (nE (Ay h I ?_ ?_))))))
 intro aa h
 refine nI ?_
 subst Z
 refine nH (nJ (Al (fun s ob => ∃ (n : Bool), Mu.J3 l n = some Y ∧ s = [(60, .v (.bool n))] ∧ ob = [.arr j 32 6 1 [Ab b], .arr k 39 4 1 [A7 a], .us t 4 1 (p.map rB)]) [(2, _), (3, _), (8, _), (9, _)] J4 ?_ ?_))
 obtain ⟨i, ⟨ab, B⟩, h⟩ := Bk h
 refine nD (Af 2 I (nS (Bi 2 (m := i.1) I I I I I I I ab (Ah B)) I (nS (Ba 2 i.1 0 I I I (Ah B) I (y := .v (.bool i.2)) I) I (Af 1 I ?_))))
 rcases bt (i.2) with f | f
 replace h := B0 f h
 obtain ⟨e, ⟨D, E⟩, h⟩ := Bk h
 refine Ad 43 I f (Ap 5 [.o 1 1, .x 3 e.1 (Au e.2)] I ⟨⟨D, Ah E⟩, I, J⟩ (Br I I I (Cg (Of e.2 _ I) (Af 2 I ?_))))
 rcases bt ((!(Jf e.2))) with g | g
 replace h := B0 g h
 refine Ad 51 I g (Af 9 I (nE ?_))
 exact lg ⟨true, h, I2⟩ [0, 1, 2]
 replace h := Ca g h
 refine Ad 51 I g (Ap 9 [.o 1 1, .x 3 e.1 (Au e.2)] I ⟨⟨D, Ah E⟩, I, J⟩ (nE ?_))
 exact lg ⟨(!e.2.Want), h, I2⟩ [0, 1, 2]
 replace h := Ca f h
 refine Ad 43 I f (Af 8 I (Cq I I dS (Cq I I dS (Cq I I dS (Cq I I dS (Cq I I dS (Cq I I dS (Cq I I dS (Af 2 I (nE ?_))))))))))
 exact lg ⟨false, h, I2⟩ [0, 1, 2]
 rintro s ob ⟨n, h, rfl, rfl⟩
 unfold Mu.J3 at h
 refine Ay h I ?_ ?_
 intro ac h
 refine Aq I ?_
 obtain rfl := A _ (oi h).symm
 replace h := w
 replace h := Dh h
 refine nM g0 ?_
 obtain rfl := oi h
 exact nK pr
 intro ac h
 refine nI (nD (Af 3 I ?_))
 obtain rfl := oi h
 refine nE ?_
 exact ⟨_, _, _, I, I2, J4, [0, 1, 2], I, by decide⟩
 intro aa h
 obtain rfl := A _ (oi h).symm
 replace h := w
 replace h := Do h
 refine nO ?_
 exact lg ⟨(), h, I2⟩ [0, 1]
 rintro s ob ⟨u, h, rfl, rfl⟩
 unfold Mu.J1 at h
 refine nH (nH ?_)
 obtain ⟨aq, ad, h⟩ := Ac h
 refine nD (Ap 2 [.o 0 0] I J1 (nS (Bx 1 0 1 I I I I I (y := .agg (As a.Plan)) I) I (Cg (Oj _ _ _ ad) (Af 1 I (nE (Ay h I ?_ ?_))))))
 intro ae h
 refine Aq I (nM g0 ?_)
 obtain rfl := oi h
 exact nK pr
 intro ae h
 refine nI (Aq I (nM g0 ?_))
 obtain rfl := oi h
 exact nK pr
theorem Hh (a : Desk) (r : Desk) (h : Hq a = some r) : ACalls Am 42 [.agg (A7 a)] [] (fun x new => ∃ (g : Value) (i : Value) (j : Value) (k : Value), x = .agg [.v g, .v i, .v j, .v k] ∧ new = [.us g 74 4 (r.Valves.map Au), .us i 3 1 (r.Plan.Rates.map rI), .us j 3 1 (r.Plan.Ports.map rI), .us k 4 1 (r.Plan.Pumps.map rB)]) := by
 refine Ag Tryz.func42 rfl rfl rfl fun C hC => ?_
 unfold Hq at h
 refine nH (nD (nG [] I (nQ (cs := A7 a) (m := 4) I I I dS fun u => nG [] I (nN (cs := [.N, .N, .N, .N]) (m := 4) I I I I I dS fun w => nE (nH ?_)))))
 obtain ⟨n, q, h⟩ := Ac h
 obtain ⟨f, s, h⟩ := Ac h
 refine Bw (.still 1 (.still 2 (.still 4 (.still 5 (.act 0 (.act 3 (.act 6 (.still 7 (.act 8 .nil))))))))) [0] [_] I (By 3 [.o 1 0] I J1 (AP.o I (Bx 0 0 1 I I I I I (y := .agg (As a.Plan)) I) I (nF [] I I I (nP (sz := 4) (es := ([] : List Valve).map Au) I I I I I I I I I I I dS fun z => nF [2] I I I (Bf 2 I q fun b => nF [] I I I (F9 I (.refl _) I I (.rest _) I (Ro _ _ s) dS (by rintro _ _ ⟨_, _, _, rfl, rfl⟩; exact ⟨rfl, by intro p hp; simp only [List.mem_cons, List.not_mem_nil, or_false] at hp; rcases hp with rfl | rfl | rfl <;> exact F8 fun _ => rfl⟩) ?_))))))
 rintro _ _ ⟨c, d, e, rfl, rfl⟩
 refine nL 2 I fun t => Cr I (Ao (l := [.v b, .v c, .v d, .v e]) C4 (Ae I I (Ai t) I (Ae I I I I (A8)))) I (nF [1] I I I (Ax 1 0 0 [[.v b, .v c, .v d, .v e]] I (Ak (nE (Cb [2, 3, 4, 5, 1] I ?_)))))
 obtain rfl := oi h
 exact nK ⟨.inr I, [_], [.us b 74 4 (n.map Au), .us c 3 1 (f.Rates.map rI), .us d 3 1 (f.Ports.map rI), .us e 4 1 (f.Pumps.map rB)], ⟨⟨4, _, _, _, _, _, _, _, I5⟩, J⟩, Dn I (Dn I (Dn I (Dn I (Cf)))), ⟨b, c, d, e, I2⟩⟩
theorem cR (d : Desk) (a : Step) (r : Desk × Int) (h : Qe d a = some r) : ACalls Am 62 [.agg (A7 d), .agg (A6 a)] [] (fun x new => x = .tup [.agg (A7 r.1), .V r.2] ∧ new = []) := by
 refine Ag Tryz.func62 rfl rfl rfl fun C hC => ?_
 unfold Qe at h
 refine Aa fun Z F => nD (nG [] I (nQ (cs := A7 d) (m := 4) I I I dS fun z => nG [] I (nQ (cs := A6 a) (m := 7) I I I dS fun A => nG [] I (nN (cs := [.N, .N, .N, .N]) (m := 4) I I I I I dS fun B => Af 1 I (nE ?_)))))
 subst F
 refine Aa fun y5 G => Dt 17 (decide (a.Index < 0) || decide (a.Index ≥ (d.Valves.length : Int))) ?_ ?_
 refine nD (Ap 4 [.o 1 1] I J1 ?_)
 rcases bt (decide (a.Index < 0)) with g | g
 refine Ad 10 I g (Af 7 I (nE ?_))
 exact jf (by simp only [g, bz]) I I I2
 refine Ad 10 I g (Ap 7 [.o 1 1, .o 3 0, .l 4 (d.Valves.length : Int)] I ⟨Bh, I, I, J⟩ (nE ?_))
 exact jf (by simp only [g, bz]) I I I2
 refine Ay h I ?_ ?_
 intro H h
 refine nH (nD (Ap 1 [.o 0 0] I J1 (nG [2] I (Ax 2 0 0 [A7 d] I (Af 1 I (nE (Cb [2] I ?_)))))))
 obtain rfl := oi h
 exact nK ⟨.inr I, [_, _], [], ⟨⟨0, _, _, _, _, _, _, _, I5⟩, I, J⟩, Cf, I2⟩
 intro H h
 refine nI ?_
 subst G
 refine Aa fun ab M => Al (fun s ob => ∃ (w : Bool), Qe.J1 d a w = some r ∧ s = [(31, .v (.bool w))] ∧ ob = [.arr z 39 4 1 [A7 d], .arr A 54 7 1 [A6 a], .arr B 39 4 1 [[.N, .N, .N, .N]]]) [(2, _), (3, _), (4, _)] J3 ?_ ?_
 rcases bt ((a.Kind == 2)) with i | i
 replace h := B0 i h
 obtain ⟨ac, O, h⟩ := Ac h
 obtain ⟨ad, P, h⟩ := Ac h
 obtain ⟨j, ⟨Q, D⟩, h⟩ := Bk h
 refine Bw (sl 6 0 (.still 8 (.still 9 (.act 6 (.act 7 (.act 10 (.act 11 (.still 12 .nil)))))))) [1, 0] [_, _] I (By 4 [.o 1 0] I J1 (Bq 22 I i (Bm 1 I (Gu I I I I (Bx 1 0 1 I I I I I (y := .agg (As d.Plan)) I) dS (By 2 [.o 1 0] I J1 (Ls [] I I I I I (Bp I I I (Oe _ _ O) dS ?_)))))))
 rintro _ _ ⟨rfl, rfl⟩
 refine Ls [] I I I I I (Bp I I I (Ol _ _ P) dS ?_)
 rintro _ _ ⟨ae, rfl, rfl⟩
 refine Ls [] I I I I I (Cd (Bi 3 (m := j.1) I I I I I I I Q (Ah D)) dS (Ls [] I I I I I (Cd (Ba 3 j.1 0 I I I (Ah D) I (y := .v (.bool j.2)) I) dS (Bm 1 I (Ak (nE ?_))))))
 exact lg ⟨j.2, h, I2⟩ [0, 1, 2]
 replace h := Ca i h
 refine Bw (sl 6 0 (.still 8 (.still 9 (.act 6 (.act 7 (.act 10 (.act 11 (.still 12 .nil)))))))) [1] [_] I (By 4 [.o 1 0] I J1 (Bq 22 I i (Bm 9 I (Ak (nE ?_)))))
 exact lg ⟨false, h, I2⟩ [0, 1, 2]
 rintro s ob ⟨w, h, rfl, rfl⟩
 unfold Qe.J1 at h
 refine Ay h I ?_ ?_
 intro R h
 refine nH (nD (Ap 1 [.o 0 0] I J1 (nG [2] I (Ax 2 0 0 [A7 d] I (Af 1 I (nE (Cb [2] I ?_)))))))
 obtain rfl := oi h
 exact nK ⟨.inr I, [_, _], [], ⟨⟨0, _, _, _, _, _, _, _, I5⟩, I, J⟩, Cf, I2⟩
 intro R h
 refine nI ?_
 subst M
 refine Aa fun af S => ?_
 obtain ⟨e, U, h⟩ := Ac h
 refine nD (Ap 1 [.o 0 0] I J1 (nG [] I (F9 I (.refl _) I I (.rest _) I (Hh _ _ U) dS (by rintro _ _ ⟨_, _, _, _, rfl, rfl⟩; exact ⟨rfl, by intro p hp; simp only [List.mem_cons, List.not_mem_nil, or_false] at hp; rcases hp with rfl | rfl | rfl | rfl <;> exact F8 fun _ => rfl⟩) ?_)))
 rintro _ _ ⟨k, n, t, u, rfl, rfl⟩
 refine nG [] I (nN (cs := [.N, .N, .N, .N]) (m := 4) I I I I I dS fun W => nG [7] I (Ax 7 0 0 [[.v k, .v n, .v t, .v u]] I (nE ?_)))
 subst S
 refine nH ?_
 obtain ⟨b, ⟨E, f⟩, h⟩ := Bk h
 refine Ce 3 b.1 I f fun X => Ce 3 b.1 I f fun Y => Bw (sl 9 0 (sl 3 10 (.act 9 (.act 13 (sl 4 14 (.act 18 .nil)))))) [7, 1] [_, _] I (By 8 [.o 1 0, .o 3 1, .o 5 0, .o 7 1] I J4 (nV I (Bl (m := b.1) I I I I I X I E f) I (By 3 [.o 1 1] I J1 (nF [] I I I (Cd (Ba 3 b.1 0 I I I (Ah f) I (y := .agg (Au b.2)) I) dS (Ee I (cK b.2 (a.Kind == 1) _ I) (Bm 3 I (nV I (Bl (m := b.1) I I I I I Y I E f) I (nF [3] I I I (Ci 3 b.1 0 I I I (Ah f) I I I I (Bs I) I (Dp (x := (K7 b.2 (a.Kind == 1)).1) I) (Ak (nE ?_))))))))))))
 refine nH (nD (Ap 1 [.o 0 7] I J1 (nG [2] I (Ax 2 0 0 [[.v k, .v n, .v t, .v u]] I (Af 1 I (nE (nM (A0 [3, 4, 5, 6] (K := [.us k 74 4 ((e.Valves.set b.1 ((K7 b.2 (a.Kind == 1)).1)).map Au), .us n 3 1 (e.Plan.Rates.map rI), .us t 3 1 (e.Plan.Ports.map rI), .us u 4 1 (e.Plan.Pumps.map rB)]) I [] J (ob' := [.arr z 39 4 1 [A7 d], .arr A 54 7 1 [A6 a], .arr B 39 4 1 [[.list 4 ((e.Valves.set b.1 ((K7 b.2 (a.Kind == 1)).1)).map Au), .list 1 (e.Plan.Rates.map rI), .list 1 (e.Plan.Ports.map rI), .list 1 (e.Plan.Pumps.map rB)]], .arr W 39 4 1 [[.v k, .v n, .v t, .v u]]]) (.cons (.same _) (.cons (.same _) (.cons (.arr (.cons (.us 0 I) (.cons (.us 1 I) (.cons (.us 2 I) (.cons (.us 3 I) (.rest _)))))) (.rest _))))) (Cb [2] I ?_))))))))
 obtain rfl := oi h
 exact nK ⟨.inr I, [_, _], [], ⟨⟨0, _, _, _, _, _, _, _, I5⟩, I, J⟩, Cf, I2⟩
theorem bZ (c : Network) (e : Desk) (a : Step) (r : Desk × Int) (h : P8 c e a = some r) : ACalls Am 63 [.agg (Ab c), .agg (A7 e), .agg (A6 a)] [] (fun x new => x = .tup [.agg (A7 r.1), .V r.2] ∧ new = []) := by
 refine Ag Tryz.func63 rfl rfl rfl fun C hC => ?_
 unfold P8 at h
 refine Aa fun Q t => nD (nG [] I (nQ (cs := Ab c) (m := 6) I I I dS fun u => nG [] I (nQ (cs := A7 e) (m := 4) I I I dS fun w => nG [] I (nQ (cs := A6 a) (m := 7) I I I dS fun z => nG [] I (nN (cs := [.N, .N, .N, .N]) (m := 4) I I I I I dS fun A => Af 1 I (nE ?_))))))
 subst t
 refine Aa fun R B => Dt 19 (decide (a.Index < 0) || decide (a.Index ≥ (c.Stations.length : Int))) ?_ ?_
 refine nD (Ap 4 [.o 1 2] I J1 ?_)
 rcases bt (decide (a.Index < 0)) with f | f
 refine Ad 12 I f (Af 7 I (nE ?_))
 exact jf (by simp only [f, bz]) I I I2
 refine Ad 12 I f (Ap 7 [.o 1 2, .o 3 0, .l 4 (c.Stations.length : Int)] I ⟨Bh, I, I, J⟩ (nE ?_))
 exact jf (by simp only [f, bz]) I I I2
 refine Ay h I ?_ ?_
 intro D h
 refine nH (nD (Ap 1 [.o 0 1] I J1 (nG [3] I (Ax 3 0 0 [A7 e] I (Af 1 I (nE (Cb [3] I ?_)))))))
 obtain rfl := oi h
 exact nK ⟨.inr I, [_, _], [], ⟨⟨0, _, _, _, _, _, _, _, I5⟩, I, J⟩, Cf, I2⟩
 intro D h
 refine nI ?_
 subst B
 refine Aa fun S E => ?_
 obtain ⟨b, F, h⟩ := Ac h
 refine nD (Ap 1 [.o 0 1] I J1 (nG [] I (F9 I (.refl _) I I (.rest _) I (Hh _ _ F) dS (by rintro _ _ ⟨_, _, _, _, rfl, rfl⟩; exact ⟨rfl, by intro p hp; simp only [List.mem_cons, List.not_mem_nil, or_false] at hp; rcases hp with rfl | rfl | rfl | rfl <;> exact F8 fun _ => rfl⟩) ?_)))
 rintro _ _ ⟨k, g, i, j, rfl, rfl⟩
 refine nG [] I (nN (cs := [.N, .N, .N, .N]) (m := 4) I I I I I dS fun G => nG [8] I (Ax 8 0 0 [[.v k, .v g, .v i, .v j]] I (nE ?_)))
 subst E
 refine Aa fun U H => ?_
 obtain ⟨n, ⟨M, s⟩, h⟩ := Bk h
 refine nD (Ap 8 [.o 2 8, .o 4 2, .o 6 2] I J3 (nS (Bi 7 (m := n.1) I I I I I I I M (Ah s)) I (nG [7] I (Ci 7 n.1 0 I I I (Ah s) I I I I (Bs I) I (Dp (x := (a.Kind == 3)) I) (nE ?_)))))
 subst H
 refine nH (nH ?_)
 obtain ⟨W, O, h⟩ := Ac h
 refine nD (Ap 2 [.o 0 0] I J1 (nS (Bx 8 0 1 I I I I I (y := .agg [.v g, .v i, .v j]) I) I (nG [] I (Dq I (.refl _) I I (.cons (.refl _) (.cons (.agg (.cons (.us 5 I) (.cons (.us 6 I) (.cons (.us 7 I) (.rest _))))) (.rest _))) I (Oj _ _ _ O) dS (by rintro _ _ ⟨rfl, _⟩; rfl) ?_))))
 rintro _ ⟨_, rfl, -⟩
 refine Af 1 I (nE (Ay h I ?_ ?_))
 intro P h
 refine nH (nD (Ap 1 [.o 0 1] I J1 (nG [3] I (Ax 3 0 0 [A7 e] I (Af 1 I (nE (Cb [3] I ?_)))))))
 obtain rfl := oi h
 exact nK ⟨.inr I, [_, _], [], ⟨⟨0, _, _, _, _, _, _, _, I5⟩, I, J⟩, Cf, I2⟩
 intro P h
 refine nI (nH (nD (Ap 1 [.o 0 8] I J1 (nG [3] I (Ax 3 0 0 [[.v k, .v g, .v i, .v j]] I (Af 1 I (nE (nM (A0 [4, 5, 6, 7] (K := [.us k 74 4 (b.Valves.map Au), .us g 3 1 (b.Plan.Rates.map rI), .us i 3 1 (b.Plan.Ports.map rI), .us j 4 1 ((b.Plan.Pumps.set n.1 (a.Kind == 3)).map rB)]) I [] J (ob' := [.arr u 32 6 1 [Ab c], .arr w 39 4 1 [A7 e], .arr z 54 7 1 [A6 a], .arr A 39 4 1 [[.list 4 (b.Valves.map Au), .list 1 (b.Plan.Rates.map rI), .list 1 (b.Plan.Ports.map rI), .list 1 ((b.Plan.Pumps.set n.1 (a.Kind == 3)).map rB)]], .arr G 39 4 1 [[.v k, .v g, .v i, .v j]]]) (.cons (.same _) (.cons (.same _) (.cons (.same _) (.cons (.arr (.cons (.us 0 I) (.cons (.us 1 I) (.cons (.us 2 I) (.cons (.us 3 I) (.rest _)))))) (.rest _)))))) (Cb [3] I ?_)))))))))
 obtain rfl := oi h
 exact nK ⟨.inr I, [_, _], [], ⟨⟨0, _, _, _, _, _, _, _, I5⟩, I, J⟩, Cf, I2⟩
theorem aX (g : Network) (f : Desk) (i : Path) (r : Bool) (h : Mz g f i = some r) : ACalls Am 105 [.agg (Ab g), .agg (A7 f), .agg (Aj i)] [] (fun x new => x = .v (.bool r) ∧ new = []) := by
 refine Ag Tryz.func105 rfl rfl rfl fun C hC => ?_
 unfold Mz at h
 refine Aa fun y1 M => nD (nG [] I (nQ (cs := Ab g) (m := 6) I I I dS fun b2 => nG [] I (nQ (cs := A7 f) (m := 4) I I I dS fun p => nG [] I (nQ (cs := Aj i) (m := 4) I I I dS fun N => Af 1 I (nE ?_)))))
 subst M
 refine Aa fun y5 O => nD (Ap 12 [.o 1 0, .l 2 (g.Segments.length : Int), .o 4 2, .o 7 0, .l 8 (g.Segments.length : Int), .o 10 2] I ⟨I, Bh, I, I, Bh, I, J⟩ (nG [] I (nP (sz := 1) (es := ([wr ((g.Segments.length : Int) + i.In), wr ((g.Segments.length : Int) + i.Out)] : List Int).map rI) I I I I I I I I I I I dS fun P => Af 1 I (nE ?_))))
 subst O
 refine Al (fun s ob => ∃ (j : List Int) (k : Value), Mz.J1 f j = some r ∧ s = [(7, .v k)] ∧ ob = [.arr p 39 4 1 [A7 f], .us k 3 1 (j.map rI)]) [(4, _)] J1 ?_ ?_
 refine Aq I (nJ ?_)
 obtain ⟨am, Q, R⟩ := Ac h
 clear h
 refine Bz Q [(4, _), (5, _)] J2 (fun (t : (List Int) × Int) s ob => ∃ (u : Value), s = [(7, .v u), (8, .V t.2)] ∧ ob = [.arr p 39 4 1 [A7 f], .arr N 52 4 1 [Aj i], .us u 3 1 (t.1.map rI)]) ⟨P, I2⟩ ⟨I, I, J⟩ ⟨[1, 2, 3], I, by decide⟩ ?_
 rintro t an s ob ⟨u, rfl, rfl⟩ h S
 unfold Mz.B5 at h
 refine Aa fun ao U => Bu [.o 2 1, .l 3 (i.Hops.length : Int)] I ⟨Bh, I, J⟩ (Ay h I ?_ ?_)
 intro W h
 refine nI ?_
 subst U
 refine nH (nJ ?_)
 obtain ⟨w, ⟨X, Y⟩, h⟩ := Bk h
 obtain ⟨aq, Z, h⟩ := Ac h
 refine nD (Ap 7 [.o 2 1, .x 4 w.1 (Bc w.2)] I ⟨⟨X, Ah Y⟩, I, J⟩ (nG [] I (nR 1 (([w.2.Segment] : List Int).map rI) (nG [2] I (Bf 2 I Z fun aa => Af 1 I (nE (nD (Af 3 I ?_))))))))
 obtain rfl := oi h
 refine nE ?_
 exact ⟨_, _, _, I, ⟨aa, I2⟩, J4, [0, 1, 2], I, by decide⟩
 intro W h
 obtain rfl := S _ (oi h).symm
 replace h := R
 refine nO ?_
 exact lg ⟨t.1, u, h, I2⟩ [0, 2]
 rintro s ob ⟨j, k, h, rfl, rfl⟩
 unfold Mz.J1 at h
 refine Al (fun s ob => ∃ (G : Unit), Mz.J2 G = some r ∧ s = [] ∧ ob = []) [] J ?_ ?_
 refine Aq I (nJ ?_)
 obtain ⟨ar, ab, H⟩ := Ac h
 clear h
 refine Bz ab [(4, _), (7, _)] J2 (fun (A : Int) s ob => s = [(9, .V A)] ∧ ob = [.arr p 39 4 1 [A7 f], .us k 3 1 (j.map rI)]) ⟨I, I⟩ ⟨I, J⟩ ⟨[0, 1], I, by decide⟩ ?_
 rintro A ac s ob ⟨rfl, rfl⟩ h K
 unfold Mz.B3 at h
 refine Aa fun au ad => nH (nD (Af 2 I (nS (Cn 1 I I I I) I (Af 1 I (nE (Ay h I ?_ ?_))))))
 intro ae h
 refine nI ?_
 subst ad
 refine nH (nJ (Al (fun s ob => ∃ (B : Bool), Mz.J4 A B = some ac ∧ s = [(66, .v (.bool B))] ∧ ob = [.arr p 39 4 1 [A7 f], .us k 3 1 (j.map rI)]) [(4, _), (7, _), (9, _)] J3 ?_ ?_))
 obtain ⟨a, ⟨D, e⟩, h⟩ := Bk h
 obtain ⟨b, ⟨E, F⟩, h⟩ := Bk h
 rcases bt ((!(Jf b.2))) with n | n
 replace h := B0 n h
 refine Ce 1 a.1 I e fun af => Bw (pd 22 0 [8]) [0, 1] [_, _] I (By 4 [.o 1 0] I J1 (nV I (Bl (m := a.1) I I I I I af I D e) I (AP.o I (Ba 1 a.1 0 I I I (Ah e) I (y := .V a.2) I) I (By 2 [.x 0 b.1 (Au b.2)] I ⟨⟨E, Ah F⟩, J⟩ (Ee I (Of b.2 _ I) (Bm 2 I (Bq 55 I n (Bm 11 I (Ak (nE ?_))))))))))
 exact lg ⟨true, h, I2⟩ [0, 1]
 replace h := Ca n h
 refine Ce 1 a.1 I e fun ag => Ce 1 a.1 I e fun ah => Bw (pd 22 0 [8]) [0, 1] [_, _] I (By 4 [.o 1 0] I J1 (nV I (Bl (m := a.1) I I I I I ag I D e) I (AP.o I (Ba 1 a.1 0 I I I (Ah e) I (y := .V a.2) I) I (By 2 [.x 0 b.1 (Au b.2)] I ⟨⟨E, Ah F⟩, J⟩ (Ee I (Of b.2 _ I) (Bm 2 I (Bq 55 I n (By 4 [.o 1 0] I J1 (Gu I I I I ((Bl (m := a.1) I I I I I ah I D e).yd) dS (Gu I I I I (Ba 1 a.1 0 I I I (Ah e) I (y := .V a.2) I) dS ?_))))))))))
 refine By 5 [.x 0 b.1 (Au b.2)] I ⟨⟨E, Ah F⟩, J⟩ (Ak (nE ?_))
 exact lg ⟨(!b.2.Want), h, I2⟩ [0, 1]
 rintro s ob ⟨B, h, rfl, rfl⟩
 unfold Mz.J4 at h
 refine Ay h I ?_ ?_
 intro ai h
 refine Aq I ?_
 obtain rfl := K _ (oi h).symm
 replace h := H
 replace h := Dh h
 refine nM g0 ?_
 obtain rfl := oi h
 exact nK pr
 intro ai h
 refine nI (nD (Af 3 I ?_))
 obtain rfl := oi h
 refine nE ?_
 exact ⟨_, _, _, I, I2, J3, [0, 1], I, by decide⟩
 intro ae h
 obtain rfl := K _ (oi h).symm
 replace h := H
 replace h := Do h
 refine nO ?_
 exact lg ⟨(), h, I2⟩ []
 rintro s ob ⟨G, h, rfl, rfl⟩
 unfold Mz.J2 at h
 refine Aq I ?_
 obtain rfl := oi h
 exact nK pr
theorem bP (w : Network) (g : Desk) (a : Step) (r : Desk × Int) (h : T9 w g a = some r) : ACalls Am 64 [.agg (Ab w), .agg (A7 g), .agg (A6 a)] [] (fun x new => x = .tup [.agg (A7 r.1), .V r.2] ∧ new = []) := by
 refine Ag Tryz.func64 rfl rfl rfl fun C hC => ?_
 unfold T9 at h
 refine Aa fun y1 aq => nD (nG [] I (nQ (cs := Ab w) (m := 6) I I I dS fun O => nG [] I (nQ (cs := A7 g) (m := 4) I I I dS fun P => nG [] I (nQ (cs := A6 a) (m := 7) I I I dS fun b4 => nG [] I (nN (cs := [.N, .N, .N, .N]) (m := 4) I I I I I dS fun Q => Af 1 I (nE ?_))))))
 subst aq
 refine Aa fun y6 ar => Dt 22 (decide (a.Value < (-1000)) || decide (a.Value > 1000)) ?_ ?_
 refine nD (Ap 4 [.o 1 2] I J1 ?_)
 rcases bt (decide (a.Value < (-1000))) with R | R
 refine Ad 18 I R (Af 4 I (nE ?_))
 exact jf (by simp only [R, bz]) I I I2
 refine Ad 18 I R (Ap 4 [.o 1 2] I J1 (nE ?_))
 exact jf (by simp only [R, bz]) I I I2
 refine Ay h I ?_ ?_
 intro au h
 refine nH (nD (Ap 1 [.o 0 1] I J1 (nG [3] I (Ax 3 0 0 [A7 g] I (Af 1 I (nE (Cb [3] I ?_)))))))
 obtain rfl := oi h
 exact nK ⟨.inr I, [_, _], [], ⟨⟨0, _, _, _, _, _, _, _, I5⟩, I, J⟩, Cf, I2⟩
 intro au h
 refine nI ?_
 subst ar
 refine Aa fun ca av => ?_
 obtain ⟨i, aw, h⟩ := Ac h
 refine nD (Af 1 I (nS (Bx 2 0 3 I I I I I (y := .agg (Aj a.Path)) I) I (nG [] I (Bp I I I (Te _ _ aw) dS ?_))))
 rintro _ _ ⟨rfl, rfl⟩
 refine nG [] I (nN (cs := [.V 0, .V 0, .N, .V 0]) (m := 4) I I I I I dS fun ad => nG [4] I (Ax 4 0 0 [Aj i] I (nE ?_)))
 subst av
 refine Aa fun cb ax => nD (Ap 7 [.o 1 2, .o 3 2] I J2 (nG [4] I (Ax 4 0 3 [[.V i.In, .V i.Out, .list 2 (i.Hops.map Bc), .V (max a.Value (wr (0 - a.Value)))]] I (nE ?_))))
 subst ax
 refine Aa fun cc ay => nH ?_
 obtain ⟨cd, az, h⟩ := Ac h
 refine nD (Ap 2 [.o 0 0, .o 1 4] I J2 (Cg (bF _ _ _ az) (Af 1 I (nE (Ay h I ?_ ?_)))))
 intro a0 h
 refine nH (nD (Ap 1 [.o 0 1] I J1 (nG [3] I (Ax 3 0 0 [A7 g] I (Af 1 I (nE (Cb [3] I ?_)))))))
 obtain rfl := oi h
 exact nK ⟨.inr I, [_, _], [], ⟨⟨0, _, _, _, _, _, _, _, I5⟩, I, J⟩, Cf, I2⟩
 intro a0 h
 refine nI ?_
 subst ay
 refine Aa fun ce a1 => ?_
 obtain ⟨f, a2, h⟩ := Ac h
 refine nD (Ap 1 [.o 0 1] I J1 (nG [] I (F9 I (.refl _) I I (.rest _) I (Hh _ _ a2) dS (by rintro _ _ ⟨_, _, _, _, rfl, rfl⟩; exact ⟨rfl, by intro p hp; simp only [List.mem_cons, List.not_mem_nil, or_false] at hp; rcases hp with rfl | rfl | rfl | rfl <;> exact F8 fun _ => rfl⟩) ?_)))
 rintro _ _ ⟨u, j, k, n, rfl, rfl⟩
 refine nG [] I (nN (cs := [.N, .N, .N, .N]) (m := 4) I I I I I dS fun S => nG [9] I (Ax 9 0 0 [[.v u, .v j, .v k, .v n]] I (nE ?_)))
 subst a1
 refine Aa fun cf a3 => nH ?_
 obtain ⟨cg, a4, h⟩ := Ac h
 refine nD (Ap 3 [.o 0 0, .o 1 9, .o 2 4] I J3 (nG [] I (Dq I (.refl _) I I (.cons (.refl _) (.cons (.agg (.cons (.us 5 I) (.cons (.us 6 I) (.cons (.us 7 I) (.cons (.us 8 I) (.rest _)))))) (.rest _))) I (aX _ _ _ _ a4) dS (by rintro _ _ ⟨rfl, _⟩; rfl) ?_)))
 rintro _ ⟨_, rfl, -⟩
 refine Af 1 I (nE (Ay h I ?_ ?_))
 intro a5 h
 refine nH (nD (Ap 1 [.o 0 1] I J1 (nG [3] I (Ax 3 0 0 [A7 g] I (Af 1 I (nE (Cb [3] I ?_)))))))
 obtain rfl := oi h
 exact nK ⟨.inr I, [_, _], [], ⟨⟨0, _, _, _, _, _, _, _, I5⟩, I, J⟩, Cf, I2⟩
 intro a5 h
 refine nI ?_
 subst a3
 refine Aa fun ci a6 => ?_
 obtain ⟨b, ⟨ah, D⟩, h⟩ := Bk h
 refine Ce 7 b.1 I D fun a7 => Ce 7 b.1 I D fun a8 => Bw (sl 16 0 (.drop 16 .nil)) [9, 4, 7, 2] [_, _, _, _] I (By 10 [.o 2 0, .o 4 1, .o 7 0, .o 9 1] I J4 (nV I (Bl (m := b.1) I I I I I a7 I ah D) I (AP.o I (Ba 2 b.1 0 I I I (Ah D) I (y := .V b.2) I) I (By 3 [.o 1 3] I J1 (nV I (Bl (m := b.1) I I I I I a8 I ah D) I (nW [7] I I I (Ci 7 b.1 0 I I I (Ah D) I I I I (Bs I) I (Dp (x := wr (b.2 + a.Value)) I) (Ak (nE ?_)))))))))
 subst a6
 refine Aa fun cj a9 => ?_
 obtain ⟨e, ⟨ai, E⟩, h⟩ := Bk h
 refine Ce 7 e.1 I E fun ba => Ce 7 e.1 I E fun bb => Bw (sl 16 0 (.drop 16 .nil)) [9, 4, 7, 2] [_, _, _, _] I (By 10 [.o 2 0, .o 4 1, .o 7 0, .o 9 1] I J4 (nV I (Bl (m := e.1) I I I I I ba I ai E) I (AP.o I (Ba 2 e.1 0 I I I (Ah E) I (y := .V e.2) I) I (By 3 [.o 1 3] I J1 (nV I (Bl (m := e.1) I I I I I bb I ai E) I (nW [7] I I I (Ci 7 e.1 0 I I I (Ah E) I I I I (Bs I) I (Dp (x := wr (e.2 - a.Value)) I) (Ak (nE ?_)))))))))
 subst a9
 refine Aa fun ck bc => Al (fun s ob => ∃ (ae : Bool), T9.J1 w g a i f b e ae = some r ∧ s = [(116, .v (.bool ae))] ∧ ob = [.arr O 32 6 1 [Ab w], .arr P 39 4 1 [A7 g], .arr b4 54 7 1 [A6 a], .arr Q 39 4 1 [[.N, .N, .N, .N]], .arr ad 52 4 1 [[.V i.In, .V i.Out, .list 2 (i.Hops.map Bc), .V (max a.Value (wr (0 - a.Value)))]], .us u 74 4 (f.Valves.map Au), .us j 3 1 (f.Plan.Rates.map rI), .us k 3 1 (((f.Plan.Ports.set b.1 (wr (b.2 + a.Value))).set e.1 (wr (e.2 - a.Value))).map rI), .us n 4 1 (f.Plan.Pumps.map rB), .arr S 39 4 1 [[.v u, .v j, .v k, .v n]]]) [(3, _), (4, _), (5, _), (6, _), (8, _), (9, _)] J6 ?_ ?_
 obtain ⟨ab, ⟨bd, aj⟩, h⟩ := Bk h
 refine nD (Ap 5 [.o 2 9, .o 4 4] I J2 (nS (Bi 7 (m := ab.1) I I I I I I I bd (Ah aj)) I (nS (Ba 7 ab.1 0 I I I (Ah aj) I (y := .V ab.2) I) I (Af 2 I ?_))))
 rcases bt (decide (ab.2 < 0)) with U | U
 replace h := B0 U h
 refine Ad 87 I U (Af 29 I (nE ?_))
 exact lg ⟨true, h, I2⟩ [0, 1, 2, 3, 4, 5, 6, 7, 8, 9]
 replace h := Ca U h
 obtain ⟨A, ⟨af, F⟩, h⟩ := Bk h
 refine Ad 87 I U ?_
 rcases bt (decide (A.2 > 0)) with G | G
 replace h := B0 G h
 refine Ap 5 [.o 2 9, .o 4 4] I J2 (Br I I I (nS (Bi 7 (m := A.1) I I I I I I I af (Ah F)) I (Br I I I (nS (Ba 7 A.1 0 I I I (Ah F) I (y := .V A.2) I) I (Af 3 I (Ad 97 I G (Af 19 I (nE ?_))))))))
 exact lg ⟨true, h, I2⟩ [0, 1, 2, 3, 4, 5, 6, 7, 8, 9]
 replace h := Ca G h
 obtain ⟨W, ⟨ak, al⟩, h⟩ := Bk h
 rcases bt (decide (W.2 < 0)) with X | X
 replace h := B0 X h
 refine Ap 5 [.o 2 9, .o 4 4] I J2 (Br I I I (nS (Bi 7 (m := A.1) I I I I I I I af (Ah F)) I (Br I I I (nS (Ba 7 A.1 0 I I I (Ah F) I (y := .V A.2) I) I (Af 3 I (Ad 97 I G (Ap 10 [.o 2 1, .o 4 4, .x 5 W.1 (rI W.2)] I ⟨⟨ak, Ah al⟩, I, I, J⟩ (Ad 107 I X (Af 9 I (nE ?_))))))))))
 exact lg ⟨true, h, I2⟩ [0, 1, 2, 3, 4, 5, 6, 7, 8, 9]
 replace h := Ca X h
 obtain ⟨ag, ⟨be, bf⟩, h⟩ := Bk h
 refine Ap 5 [.o 2 9, .o 4 4] I J2 (Br I I I (nS (Bi 7 (m := A.1) I I I I I I I af (Ah F)) I (Br I I I (nS (Ba 7 A.1 0 I I I (Ah F) I (y := .V A.2) I) I (Af 3 I (Ad 97 I G (Ap 10 [.o 2 1, .o 4 4, .x 5 W.1 (rI W.2)] I ⟨⟨ak, Ah al⟩, I, I, J⟩ (Ad 107 I X (Ap 9 [.o 2 1, .o 4 4, .x 5 ag.1 (rI ag.2)] I ⟨⟨be, Ah bf⟩, I, I, J⟩ (nE ?_))))))))))
 exact lg ⟨decide (ag.2 > 0), h, I2⟩ [0, 1, 2, 3, 4, 5, 6, 7, 8, 9]
 rintro s ob ⟨ae, h, rfl, rfl⟩
 unfold T9.J1 at h
 refine Ay h I ?_ ?_
 intro bg h
 refine nH (nD (Ap 1 [.o 0 1] I J1 (nG [3] I (Ax 3 0 0 [A7 g] I (Af 1 I (nE (Cb [3] I ?_)))))))
 obtain rfl := oi h
 exact nK ⟨.inr I, [_, _], [], ⟨⟨0, _, _, _, _, _, _, _, I5⟩, I, J⟩, Cf, I2⟩
 intro bg h
 refine nI ?_
 subst bc
 refine Al (fun s ob => ∃ (Y : List Int), T9.J2 w g a f b e Y = some r ∧ s = [] ∧ ob = [.arr O 32 6 1 [Ab w], .arr P 39 4 1 [A7 g], .arr Q 39 4 1 [[.N, .N, .N, .N]], .us u 74 4 (f.Valves.map Au), .us j 3 1 (Y.map rI), .us k 3 1 (((f.Plan.Ports.set b.1 (wr (b.2 + a.Value))).set e.1 (wr (e.2 - a.Value))).map rI), .us n 4 1 (f.Plan.Pumps.map rB), .arr S 39 4 1 [[.v u, .v j, .v k, .v n]]]) [(3, _), (4, _), (6, _), (9, _)] J4 ?_ ?_
 refine Aq I (nJ ?_)
 obtain ⟨cl, bh, am⟩ := Ac h
 clear h
 refine Bz bh [(3, _), (4, _), (5, _), (6, _), (8, _), (9, _)] J6 (fun (H : (List Int) × Int) s ob => s = [(10, .V H.2)] ∧ ob = [.arr O 32 6 1 [Ab w], .arr P 39 4 1 [A7 g], .arr b4 54 7 1 [A6 a], .arr Q 39 4 1 [[.N, .N, .N, .N]], .arr ad 52 4 1 [[.V i.In, .V i.Out, .list 2 (i.Hops.map Bc), .V (max a.Value (wr (0 - a.Value)))]], .us u 74 4 (f.Valves.map Au), .us j 3 1 (H.1.map rI), .us k 3 1 (((f.Plan.Ports.set b.1 (wr (b.2 + a.Value))).set e.1 (wr (e.2 - a.Value))).map rI), .us n 4 1 (f.Plan.Pumps.map rB), .arr S 39 4 1 [[.v u, .v j, .v k, .v n]]]) ⟨I, I⟩ ⟨I, J⟩ ⟨[0, 1, 2, 3, 4, 5, 6, 7, 8, 9], I, by decide⟩ ?_
 rintro H bi s ob ⟨rfl, rfl⟩ h an
 unfold T9.B3 at h
 refine Aa fun cm bj => Bu [.o 2 4, .l 3 (i.Hops.length : Int)] I ⟨Bh, I, J⟩ (Ay h I ?_ ?_)
 intro bk h
 refine nI ?_
 subst bj
 refine nH (nJ (Aa fun cn bl => ?_))
 obtain ⟨Z, ⟨bm, bn⟩, h⟩ := Bk h
 refine nD (Ap 5 [.o 1 4, .x 3 Z.1 (Bc Z.2)] I ⟨⟨bm, Ah bn⟩, I, J⟩ (nG [] I (nN (cs := [.V 0, .v (.bool false)]) (m := 2) I I I I I dS fun bo => nG [10] I (Ax 10 0 0 [Bc Z.2] I (nE ?_)))))
 subst bl
 refine Aq I (Al (fun s ob => ∃ (B : Int), T9.J4 g a H Z B = some bi ∧ s = [(12, .V B)] ∧ ob = [.arr O 32 6 1 [Ab w], .arr P 39 4 1 [A7 g], .arr b4 54 7 1 [A6 a], .arr Q 39 4 1 [[.N, .N, .N, .N]], .arr ad 52 4 1 [[.V i.In, .V i.Out, .list 2 (i.Hops.map Bc), .V (max a.Value (wr (0 - a.Value)))]], .us u 74 4 (f.Valves.map Au), .us j 3 1 (H.1.map rI), .us k 3 1 (((f.Plan.Ports.set b.1 (wr (b.2 + a.Value))).set e.1 (wr (e.2 - a.Value))).map rI), .us n 4 1 (f.Plan.Pumps.map rB), .arr S 39 4 1 [[.v u, .v j, .v k, .v n]], .arr bo 107 2 1 [Bc Z.2]]) [(3, _), (4, _), (5, _), (6, _), (8, _), (9, _), (10, _), (11, _)] J8 ?_ ?_)
 refine Bu [.o 1 10] I J1 (Ay h I ?_ ?_)
 intro bp h
 refine Pd I ?_
 exact lg ⟨(-1), h, I2⟩ [0, 1, 2, 3, 4, 5, 6, 7, 8, 9, 10]
 intro bp h
 refine nI ?_
 exact lg ⟨1, h, I2⟩ [0, 1, 2, 3, 4, 5, 6, 7, 8, 9, 10]
 rintro s ob ⟨B, h, rfl, rfl⟩
 unfold T9.J4 at h
 refine Aa fun co bq => ?_
 obtain ⟨M, ⟨br, bs⟩, h⟩ := Bk h
 refine I6 [.o 3 1, .o 5 10, .x 6 M.1 (rI M.2)] I ⟨⟨br, Ah bs⟩, I, I, J⟩ ?_
 subst bq
 refine Aa fun cp bu => Dt 149 (decide ((wr (B * M.2)) < 0) || decide ((wr ((wr (B * M.2)) + a.Value)) < 0)) ?_ ?_
 refine nD (Af 3 I ?_)
 rcases bt (decide ((wr (B * M.2)) < 0)) with aa | aa
 refine Ad 143 I aa (Af 6 I (nE ?_))
 exact jf (by simp only [aa, bz]) I I I2
 refine Ad 143 I aa (Ap 6 [.o 2 2] I J1 (nE ?_))
 exact jf (by simp only [aa, bz]) I I I2
 refine Ay h I ?_ ?_
 intro bv h
 refine nH (nD (Ap 1 [.o 0 1] I J1 (nG [3] I (Ax 3 0 0 [A7 g] I (Af 1 I (nE ?_))))))
 obtain rfl := an _ (oi h).symm
 replace h := am
 replace h := Dh h
 refine Cb [3] I ?_
 obtain rfl := oi h
 exact nK ⟨.inr I, [_, _], [], ⟨⟨0, _, _, _, _, _, _, _, I5⟩, I, J⟩, Cf, I2⟩
 intro bv h
 refine nI ?_
 subst bu
 obtain ⟨ao, ⟨bw, ap⟩, h⟩ := Bk h
 refine nD (Ap 11 [.o 2 9, .o 4 10, .o 8 2] I J3 (nS (Bi 6 (m := ao.1) I I I I I I I bw (Ah ap)) I (nG [6] I (Ci 6 ao.1 0 I I I (Ah ap) I I I I (Bs I) I (Dp (x := wr (B * (wr ((wr (B * M.2)) + a.Value)))) I) (nE (nD (Af 3 I ?_)))))))
 obtain rfl := oi h
 refine nE ?_
 exact ⟨_, _, _, I, I2, J7, [0, 1, 2, 3, 4, 5, 6, 7, 8, 9], I, by decide⟩
 intro bk h
 obtain rfl := an _ (oi h).symm
 replace h := am
 replace h := Do h
 refine nO ?_
 exact lg ⟨H.1, h, I2⟩ [0, 1, 3, 5, 6, 7, 8, 9]
 rintro s ob ⟨Y, h, rfl, rfl⟩
 unfold T9.J2 at h
 refine Aa fun cq bx => nH ?_
 obtain ⟨cr, b0, h⟩ := Ac h
 refine nD (Ap 2 [.o 0 0] I J1 (nS (Bx 7 0 1 I I I I I (y := .agg [.v j, .v k, .v n]) I) I (nG [] I (Dq I (.refl _) I I (.cons (.refl _) (.cons (.agg (.cons (.us 4 I) (.cons (.us 5 I) (.cons (.us 6 I) (.rest _))))) (.rest _))) I (Gy _ _ _ b0) dS (by rintro _ _ ⟨rfl, _⟩; rfl) ?_))))
 rintro _ ⟨_, rfl, -⟩
 refine Af 1 I (nE (Aq I (Ay h I ?_ ?_)))
 intro b1 h
 refine nH (nD (Ap 2 [.o 0 1] I J1 (nG [2] I (Ax 2 0 0 [A7 g] I (Af 1 I (nE (Cb [2] I ?_)))))))
 obtain rfl := oi h
 exact nK ⟨.inr I, [_, _], [], ⟨⟨0, _, _, _, _, _, _, _, I5⟩, I, J⟩, Cf, I2⟩
 intro b1 h
 refine nI ?_
 subst bx
 refine nH (nH ?_)
 obtain ⟨ct, b6, h⟩ := Ac h
 refine nD (Ap 2 [.o 0 0] I J1 (nS (Bx 7 0 1 I I I I I (y := .agg [.v j, .v k, .v n]) I) I (nG [] I (Dq I (.refl _) I I (.cons (.refl _) (.cons (.agg (.cons (.us 4 I) (.cons (.us 5 I) (.cons (.us 6 I) (.rest _))))) (.rest _))) I (Oj _ _ _ b6) dS (by rintro _ _ ⟨rfl, _⟩; rfl) ?_))))
 rintro _ ⟨_, rfl, -⟩
 refine Af 1 I (nE (Ay h I ?_ ?_))
 intro b7 h
 refine nH (nD (Ap 1 [.o 0 1] I J1 (nG [2] I (Ax 2 0 0 [A7 g] I (Af 1 I (nE (Cb [2] I ?_)))))))
 obtain rfl := oi h
 exact nK ⟨.inr I, [_, _], [], ⟨⟨0, _, _, _, _, _, _, _, I5⟩, I, J⟩, Cf, I2⟩
 intro b7 h
 refine nI (nH (nD (Ap 1 [.o 0 7] I J1 (nG [2] I (Ax 2 0 0 [[.v u, .v j, .v k, .v n]] I (Af 1 I (nE (nM (A0 [3, 4, 5, 6] (K := [.us u 74 4 (f.Valves.map Au), .us j 3 1 (Y.map rI), .us k 3 1 (((f.Plan.Ports.set b.1 (wr (b.2 + a.Value))).set e.1 (wr (e.2 - a.Value))).map rI), .us n 4 1 (f.Plan.Pumps.map rB)]) I [] J (ob' := [.arr O 32 6 1 [Ab w], .arr P 39 4 1 [A7 g], .arr Q 39 4 1 [[.list 4 (f.Valves.map Au), .list 1 (Y.map rI), .list 1 (((f.Plan.Ports.set b.1 (wr (b.2 + a.Value))).set e.1 (wr (e.2 - a.Value))).map rI), .list 1 (f.Plan.Pumps.map rB)]], .arr S 39 4 1 [[.v u, .v j, .v k, .v n]]]) (.cons (.same _) (.cons (.same _) (.cons (.arr (.cons (.us 0 I) (.cons (.us 1 I) (.cons (.us 2 I) (.cons (.us 3 I) (.rest _)))))) (.rest _))))) (Cb [2] I ?_)))))))))
 obtain rfl := oi h
 exact nK ⟨.inr I, [_, _], [], ⟨⟨0, _, _, _, _, _, _, _, I5⟩, I, J⟩, Cf, I2⟩
theorem S5 (k : Network) (e : Desk) (a : Step) (r : Desk × Int) (h : Es k e a = some r) : ACalls Am 18 [.agg (Ab k), .agg (A7 e), .agg (A6 a)] [] (fun x new => x = .tup [.agg (A7 r.1), .V r.2] ∧ new = []) := by
 refine Ag Tryz.func18 rfl rfl rfl fun C hC => ?_
 unfold Es at h
 refine Aa fun y1 P => nD (nG [] I (nQ (cs := Ab k) (m := 6) I I I dS fun H => nG [] I (nQ (cs := A7 e) (m := 4) I I I dS fun M => nG [] I (nQ (cs := A6 a) (m := 7) I I I dS fun D => nG [] I (nN (cs := [.N, .N, .N, .N]) (m := 4) I I I I I dS fun u => Af 1 I (nE ?_))))))
 subst P
 refine Aa fun y6 Q => nH ?_
 obtain ⟨r7, R, h⟩ := Ac h
 refine nD (Ap 2 [.o 0 0, .o 1 1] I J2 (Cg (aP _ _ _ R) (Af 1 I (nE (Aq I (Ay h I ?_ ?_))))))
 intro S h
 refine nH (nD (Ap 2 [.o 0 1] I J1 (nG [3] I (Ax 3 0 0 [A7 e] I (Af 1 I (nE (Cb [3] I ?_)))))))
 obtain rfl := oi h
 exact nK ⟨.inr I, [_, _], [], ⟨⟨0, _, _, _, _, _, _, _, I5⟩, I, J⟩, Cf, I2⟩
 intro S h
 refine nI ?_
 subst Q
 refine Aa fun a1 U => nH (nD (Ap 1 [.o 0 2] I J1 (Cg (Xl a _ I) (Af 1 I (nE (Ay h I ?_ ?_))))))
 intro W h
 refine nH (nD (Ap 1 [.o 0 1] I J1 (nG [3] I (Ax 3 0 0 [A7 e] I (Af 1 I (nE (Cb [3] I ?_)))))))
 obtain rfl := oi h
 exact nK ⟨.inr I, [_, _], [], ⟨⟨0, _, _, _, _, _, _, _, I5⟩, I, J⟩, Cf, I2⟩
 intro W h
 refine nI ?_
 subst U
 refine Aa fun a2 X => Bu [.o 1 2] I J1 (nJ (Al (fun s ob => ∃ (E : Bool), Es.J1 k e a E = some r ∧ s = [(24, .v (.bool E))] ∧ ob = [.arr H 32 6 1 [Ab k], .arr M 39 4 1 [A7 e], .arr D 54 7 1 [A6 a], .arr u 39 4 1 [[.N, .N, .N, .N]]]) [(3, _), (4, _), (5, _), (6, _), (23, _)] J5 ?_ ?_))
 refine Aq I (Ay h I ?_ ?_)
 intro Y h
 refine nI ?_
 exact lg ⟨(a.Kind == 1), h, I2⟩ [0, 1, 2, 3]
 intro Y h
 refine Pd I ?_
 exact lg ⟨(a.Kind == 2), h, I2⟩ [0, 1, 2, 3]
 rintro s ob ⟨E, h, rfl, rfl⟩
 unfold Es.J1 at h
 refine Ay h I ?_ ?_
 intro Z h
 refine nH ?_
 obtain ⟨aa, ab, h⟩ := Ac h
 refine nD (Ap 2 [.o 0 1, .o 1 2] I J2 (nG [] I (Bp I I I (cR _ _ _ ab) dS ?_)))
 rintro _ _ ⟨rfl, rfl⟩
 refine Af 2 I (nG [3] I (Ax 3 0 0 [A7 aa.1] I (Af 1 I (nE (Cb [3] I ?_)))))
 obtain rfl := oi h
 exact nK ⟨.inr I, [_, _], [], ⟨⟨0, _, _, _, _, _, _, _, I5⟩, I, J⟩, Cf, I2⟩
 intro Z h
 refine Al (fun s ob => ∃ (F : Bool), Es.J2 k e a F = some r ∧ s = [(32, .v (.bool F))] ∧ ob = [.arr H 32 6 1 [Ab k], .arr M 39 4 1 [A7 e], .arr D 54 7 1 [A6 a], .arr u 39 4 1 [[.N, .N, .N, .N]]]) [(3, _), (4, _), (5, _), (6, _), (23, _)] J5 ?_ ?_
 refine Aq I (Ay h I ?_ ?_)
 intro ac h
 refine nI ?_
 exact lg ⟨(a.Kind == 3), h, I2⟩ [0, 1, 2, 3]
 intro ac h
 refine Pd I ?_
 exact lg ⟨(a.Kind == 4), h, I2⟩ [0, 1, 2, 3]
 rintro s ob ⟨F, h, rfl, rfl⟩
 unfold Es.J2 at h
 refine Ay h I ?_ ?_
 intro ad h
 refine nH ?_
 obtain ⟨ae, af, h⟩ := Ac h
 refine nD (Ap 3 [.o 0 0, .o 1 1, .o 2 2] I J3 (nG [] I (Bp I I I (bZ _ _ _ _ af) dS ?_)))
 rintro _ _ ⟨rfl, rfl⟩
 refine Af 2 I (nG [3] I (Ax 3 0 0 [A7 ae.1] I (Af 1 I (nE (Cb [3] I ?_)))))
 obtain rfl := oi h
 exact nK ⟨.inr I, [_, _], [], ⟨⟨0, _, _, _, _, _, _, _, I5⟩, I, J⟩, Cf, I2⟩
 intro ad h
 refine Aq I (Ay h I ?_ ?_)
 intro ag h
 refine nH ?_
 obtain ⟨ah, ai, h⟩ := Ac h
 refine nD (Ap 3 [.o 0 0, .o 1 1, .o 2 2] I J3 (nG [] I (Bp I I I (bP _ _ _ _ ai) dS ?_)))
 rintro _ _ ⟨rfl, rfl⟩
 refine Af 2 I (nG [3] I (Ax 3 0 0 [A7 ah.1] I (Af 1 I (nE (Cb [3] I ?_)))))
 obtain rfl := oi h
 exact nK ⟨.inr I, [_, _], [], ⟨⟨0, _, _, _, _, _, _, _, I5⟩, I, J⟩, Cf, I2⟩
 intro ag h
 refine nI ?_
 subst X
 refine Aa fun a3 aj => Dt 56 (decide (a.Value < 1) || decide (a.Value > 100)) ?_ ?_
 refine nD (Ap 4 [.o 1 2] I J1 ?_)
 rcases bt (decide (a.Value < 1)) with w | w
 refine Ad 52 I w (Af 4 I (nE ?_))
 exact jf (by simp only [w, bz]) I I I2
 refine Ad 52 I w (Ap 4 [.o 1 2] I J1 (nE ?_))
 exact jf (by simp only [w, bz]) I I I2
 refine Ay h I ?_ ?_
 intro ak h
 refine nH (nD (Ap 1 [.o 0 1] I J1 (nG [3] I (Ax 3 0 0 [A7 e] I (Af 1 I (nE (Cb [3] I ?_)))))))
 obtain rfl := oi h
 exact nK ⟨.inr I, [_, _], [], ⟨⟨0, _, _, _, _, _, _, _, I5⟩, I, J⟩, Cf, I2⟩
 intro ak h
 refine nI ?_
 subst aj
 refine Aa fun a4 al => ?_
 obtain ⟨b, am, h⟩ := Ac h
 refine nD (Ap 1 [.o 0 1] I J1 (nG [] I (F9 I (.refl _) I I (.rest _) I (Hh _ _ am) dS (by rintro _ _ ⟨_, _, _, _, rfl, rfl⟩; exact ⟨rfl, by intro p hp; simp only [List.mem_cons, List.not_mem_nil, or_false] at hp; rcases hp with rfl | rfl | rfl | rfl <;> exact F8 fun _ => rfl⟩) ?_)))
 rintro _ _ ⟨f, g, i, j, rfl, rfl⟩
 refine nG [] I (nN (cs := [.N, .N, .N, .N]) (m := 4) I I I I I dS fun G => nG [8] I (Ax 8 0 0 [[.v f, .v g, .v i, .v j]] I (nE ?_)))
 subst al
 refine Al (fun s ob => ∃ (A : List Valve), Es.J3 b A = some r ∧ s = [] ∧ ob = [.arr u 39 4 1 [[.N, .N, .N, .N]], .us f 74 4 (A.map Au), .us g 3 1 (b.Plan.Rates.map rI), .us i 3 1 (b.Plan.Ports.map rI), .us j 4 1 (b.Plan.Pumps.map rB), .arr G 39 4 1 [[.v f, .v g, .v i, .v j]]]) [(6, _), (9, _)] J2 ?_ ?_
 refine Aq I (nJ ?_)
 obtain ⟨a5, an, ao⟩ := Ac h
 clear h
 refine Bz an [(5, _), (6, _), (9, _)] J3 (fun (B : (List Valve) × Int) s ob => s = [(10, .V B.2)] ∧ ob = [.arr D 54 7 1 [A6 a], .arr u 39 4 1 [[.N, .N, .N, .N]], .us f 74 4 (B.1.map Au), .us g 3 1 (b.Plan.Rates.map rI), .us i 3 1 (b.Plan.Ports.map rI), .us j 4 1 (b.Plan.Pumps.map rB), .arr G 39 4 1 [[.v f, .v g, .v i, .v j]]]) ⟨I, I⟩ ⟨I, J⟩ ⟨[2, 3, 4, 5, 6, 7, 8], I, by decide⟩ ?_
 rintro B a6 s ob ⟨rfl, rfl⟩ h ap
 unfold Es.B4 at h
 refine Aa fun a7 aq => nH (nD (Ap 3 [.o 2 6] I J1 (nS (Cn 2 I I I I) I (Af 1 I (nE (Ay h I ?_ ?_))))))
 intro ar h
 refine nI ?_
 subst aq
 refine nH (nJ ?_)
 obtain ⟨l, ⟨O, n⟩, h⟩ := Bk h
 obtain ⟨au, av, h⟩ := Ac h
 refine Ce 2 l.1 I n fun aw => Ce 2 l.1 I n fun ax => Bw (sl 7 0 (.still 8 (.still 9 (.act 7 (.act 10 (sl 4 11 (.act 15 .nil))))))) [6, 0] [_, _] I (By 6 [.o 1 0, .o 4 0] I J2 (nV I (Bl (m := l.1) I I I I I aw I O n) I (By 2 [.o 1 1] I J1 (nF [] I I I (Cd (Ba 2 l.1 0 I I I (Ah n) I (y := .agg (Au l.2)) I) dS (Ee I (cY _ _ _ av) (Bm 3 I (nV I (Bl (m := l.1) I I I I I ax I O n) I (nF [2] I I I (Ci 2 l.1 0 I I I (Ah n) I I I I (Bs I) I (Dp (x := au.1) I) (Ak (nE ?_))))))))))))
 refine nD (Af 3 I ?_)
 obtain rfl := oi h
 refine nE ?_
 exact ⟨_, _, _, I, I2, J4, [0, 1, 2, 3, 4, 5, 6], I, by decide⟩
 intro ar h
 obtain rfl := ap _ (oi h).symm
 replace h := ao
 refine nO ?_
 exact lg ⟨B.1, h, I2⟩ [1, 2, 3, 4, 5, 6]
 rintro s ob ⟨A, h, rfl, rfl⟩
 unfold Es.J3 at h
 refine nH (nD (Ap 1 [.o 0 5] I J1 (nG [0] I (Ax 0 0 0 [[.v f, .v g, .v i, .v j]] I (Af 1 I (nE (nM (A0 [1, 2, 3, 4] (K := [.us f 74 4 (A.map Au), .us g 3 1 (b.Plan.Rates.map rI), .us i 3 1 (b.Plan.Ports.map rI), .us j 4 1 (b.Plan.Pumps.map rB)]) I [] J (ob' := [.arr u 39 4 1 [[.list 4 (A.map Au), .list 1 (b.Plan.Rates.map rI), .list 1 (b.Plan.Ports.map rI), .list 1 (b.Plan.Pumps.map rB)]], .arr G 39 4 1 [[.v f, .v g, .v i, .v j]]]) (.cons (.arr (.cons (.us 0 I) (.cons (.us 1 I) (.cons (.us 2 I) (.cons (.us 3 I) (.rest _)))))) (.rest _))) (Cb [0] I ?_))))))))
 obtain rfl := oi h
 exact nK ⟨.inr I, [_, _], [], ⟨⟨0, _, _, _, _, _, _, _, I5⟩, I, J⟩, Cf, I2⟩
theorem cV (w : Network) (R : Int) (r : Desk × Int) (h : Wo w R = some r) : ACalls Am 37 [.agg (Ab w), .V R] [] (fun x new => x = .tup [.agg (A7 r.1), .V r.2] ∧ new = []) := by
 refine Ag Tryz.func37 rfl rfl rfl fun C hC => ?_
 unfold Wo at h
 refine Aa fun y1 ad => nD (nG [] I (nQ (cs := Ab w) (m := 6) I I I dS fun Z => nG [] I (nN (cs := [.N, .N, .N, .N]) (m := 4) I I I I I dS fun S => Af 1 I (nE ?_))))
 subst ad
 refine Aa fun y4 ae => nH ?_
 obtain ⟨r5, af, h⟩ := Ac h
 refine nD (Ap 1 [.o 0 0] I J1 (Cg (If _ _ af) (Af 1 I (nE (Aq I (Ay h I ?_ ?_))))))
 intro ag h
 refine nH (nD (Ck (Ao (l := [.N, .N, .N, .N]) C4 I) I (Af 1 I (nG [1] I (Ax 1 0 0 [[.N, .N, .N, .N]] I (Af 1 I (nE (nM (A0 [] (K := []) I [] J (ob' := [.arr Z 32 6 1 [Ab w], .arr S 39 4 1 [[.list 4 ([].map Au), .list 1 ([].map rI), .list 1 ([].map rI), .list 1 ([].map rB)]]]) (.cons (.same _) (.cons (.arr (.cons (.nil _) (.cons (.nil _) (.cons (.nil _) (.cons (.nil _) (.rest _)))))) (.rest _)))) (Cb [1] I ?_)))))))))
 obtain rfl := oi h
 exact nK ⟨.inr I, [_, _], [], ⟨⟨0, _, _, _, _, _, _, _, I5⟩, I, J⟩, Cf, I2⟩
 intro ag h
 refine nI ?_
 subst ae
 refine Aa fun y8 ah => Dt 20 (decide (R < 1) || decide (R > 60)) ?_ ?_
 refine nD (Af 3 I ?_)
 rcases bt (decide (R < 1)) with X | X
 refine Ad 17 I X (Af 3 I (nE ?_))
 exact jf (by simp only [X, bz]) I I I2
 refine Ad 17 I X (Af 3 I (nE ?_))
 exact jf (by simp only [X, bz]) I I I2
 refine Ay h I ?_ ?_
 intro ai h
 refine nH (nD (Ck (Ao (l := [.N, .N, .N, .N]) C4 I) I (nG [1] I (Ax 1 0 0 [[.N, .N, .N, .N]] I (Af 1 I (nE (nM (A0 [] (K := []) I [] J (ob' := [.arr Z 32 6 1 [Ab w], .arr S 39 4 1 [[.list 4 ([].map Au), .list 1 ([].map rI), .list 1 ([].map rI), .list 1 ([].map rB)]]]) (.cons (.same _) (.cons (.arr (.cons (.nil _) (.cons (.nil _) (.cons (.nil _) (.cons (.nil _) (.rest _)))))) (.rest _)))) (Cb [1] I ?_))))))))
 obtain rfl := oi h
 exact nK ⟨.inr I, [_, _], [], ⟨⟨0, _, _, _, _, _, _, _, I5⟩, I, J⟩, Cf, I2⟩
 intro ai h
 refine nI ?_
 subst ah
 refine Al (fun s ob => ∃ (u : (List Int) × (List Int) × (List Bool)) (U : Nat) (y : Value) (A : Value) (B : Value), Wo.J1 w R u = some r ∧ s = [(7, .v (.pointer (some ⟨U, 0, none⟩)))] ∧ ob = [.arr Z 32 6 1 [Ab w], .arr S 39 4 1 [[.N, .N, .N, .N]], .us y 3 1 (u.1.map rI), .us A 3 1 (u.2.1.map rI), .us B 4 1 (u.2.2.map rB), .arr U 39 4 1 [[.N, .v y, .v A, .v B]]]) [(1, _), (2, _), (4, _)] J3 ?_ ?_
 obtain ⟨k, ⟨ax, D, E, F⟩, h⟩ := Hx h
 obtain ⟨n, ⟨ay, G, H, M⟩, h⟩ := Hx h
 obtain ⟨t, ⟨az, O, P, Q⟩, h⟩ := Hx h
 refine Bw (sl 3 0 (sl 3 4 (sl 3 8 (.four 3 7 11 14 (.three 7 11 14 (.two 11 14 (.still 12 (.still 13 (.act 14 (.act 15 .nil)))) (.act 11 (.still 12 (.still 13 (.act 15 .nil))))) (.two 7 14 (.still 12 (.still 13 (.act 14 (.act 15 .nil)))) (.act 7 (.still 12 (.still 13 (.act 15 .nil))))) (.par [(7, []), (11, [])] (.still 12 (.still 13 (.act 15 .nil))))) (.three 3 11 14 (.two 11 14 (.still 12 (.still 13 (.act 14 (.act 15 .nil)))) (.act 11 (.still 12 (.still 13 (.act 15 .nil))))) (.two 3 14 (.still 12 (.still 13 (.act 14 (.act 15 .nil)))) (.act 3 (.still 12 (.still 13 (.act 15 .nil))))) (.par [(3, []), (11, [])] (.still 12 (.still 13 (.act 15 .nil))))) (.three 3 7 14 (.two 7 14 (.still 12 (.still 13 (.act 14 (.act 15 .nil)))) (.act 7 (.still 12 (.still 13 (.act 15 .nil))))) (.two 3 14 (.still 12 (.still 13 (.act 14 (.act 15 .nil)))) (.act 3 (.still 12 (.still 13 (.act 15 .nil))))) (.par [(3, []), (7, [])] (.still 12 (.still 13 (.act 15 .nil))))) (.par [(3, []), (7, []), (11, [])] (.still 12 (.still 13 (.act 15 .nil)))))))) [0] [_] I (By 9 [.o 1 0, .l 2 (w.Segments.length : Int), .o 4 0, .l 5 (w.Ports.length : Int), .o 7 0, .l 8 (w.Stations.length : Int)] I ⟨Bh, I, Bh, I, Bh, I, J⟩ (AP.four ?_ ?_ ?_ ?_))
 refine nF [] I I I (A3 (sz := 1) I I I I I I I I I I D E (Be (f := rI) F I) dS fun a => nX ?_ ?_ ?_)
 refine nF [] I I I (A3 (sz := 1) I I I I I I I I I I G H (Be (f := rI) M I) dS fun b => nT ?_ ?_)
 refine nF [] I I I (A3 (sz := 1) I I I I I I I I I I O P (Be (f := rB) Q I) dS fun d => nL 2 I fun e => nL 3 I fun g => nL 4 I fun i => Cr I (Ao (l := [.v a, .v b, .v d]) Az (Ae I I (Ai e) I (Ae I I (Ai g) I (Ae I I (Ai i) I (A8))))) I (Cr I (Ao (l := [.N, .v a, .v b, .v d]) C4 I) I (nF [] I I I (nN (cs := [.N, .N, .N, .N]) (m := 4) I I I I I dS fun j => nF [5] I I I (Ax 5 0 0 [[.N, .v a, .v b, .v d]] I (Ak (nE ?_)))))))
 exact lg ⟨(k, n, t), j, a, b, d, h, I2⟩ [0, 1, 2, 3, 4, 5]
 refine nF [] I I I (nN (cs := [.N, .N, .N, .N]) (m := 4) I I I I I dS fun j => nF [] I I I (A3 (sz := 1) I I I I I I I I I I O P (Be (f := rB) Q I) dS fun d => nL 2 I fun e => nL 3 I fun g => nL 5 I fun i => Cr I (Ao (l := [.v a, .v b, .v d]) Az (Ae I I (Ai e) I (Ae I I (Ai g) I (Ae I I (Ai i) I (A8))))) I (Cr I (Ao (l := [.N, .v a, .v b, .v d]) C4 I) I (nF [4] I I I (Ax 4 0 0 [[.N, .v a, .v b, .v d]] I (Ak (nE ?_)))))))
 exact lg ⟨(k, n, t), j, a, b, d, h, I2⟩ [0, 1, 2, 3, 5, 4]
 refine nF [] I I I (A3 (sz := 1) I I I I I I I I I I O P (Be (f := rB) Q I) dS fun d => nT ?_ ?_)
 refine nF [] I I I (A3 (sz := 1) I I I I I I I I I I G H (Be (f := rI) M I) dS fun b => nL 2 I fun e => nL 4 I fun g => nL 3 I fun i => Cr I (Ao (l := [.v a, .v b, .v d]) Az (Ae I I (Ai e) I (Ae I I (Ai g) I (Ae I I (Ai i) I (A8))))) I (Cr I (Ao (l := [.N, .v a, .v b, .v d]) C4 I) I (nF [] I I I (nN (cs := [.N, .N, .N, .N]) (m := 4) I I I I I dS fun j => nF [5] I I I (Ax 5 0 0 [[.N, .v a, .v b, .v d]] I (Ak (nE ?_)))))))
 exact lg ⟨(k, n, t), j, a, b, d, h, I2⟩ [0, 1, 2, 4, 3, 5]
 refine nF [] I I I (nN (cs := [.N, .N, .N, .N]) (m := 4) I I I I I dS fun j => nF [] I I I (A3 (sz := 1) I I I I I I I I I I G H (Be (f := rI) M I) dS fun b => nL 2 I fun e => nL 5 I fun g => nL 3 I fun i => Cr I (Ao (l := [.v a, .v b, .v d]) Az (Ae I I (Ai e) I (Ae I I (Ai g) I (Ae I I (Ai i) I (A8))))) I (Cr I (Ao (l := [.N, .v a, .v b, .v d]) C4 I) I (nF [4] I I I (Ax 4 0 0 [[.N, .v a, .v b, .v d]] I (Ak (nE ?_)))))))
 exact lg ⟨(k, n, t), j, a, b, d, h, I2⟩ [0, 1, 2, 5, 3, 4]
 refine nF [] I I I (nN (cs := [.N, .N, .N, .N]) (m := 4) I I I I I dS fun j => AP.any [⟨7, [], 29, .us 3 1 (n.map rI)⟩, ⟨11, [], 33, .us 4 1 (t.map rB)⟩] I ⟨⟨_, I, I, I, fun _ => A3 (sz := 1) I I I I I I I I I I G H (Be (f := rI) M I) dS fun v => ⟨_, I, ⟨v, I⟩, I⟩⟩, ⟨_, I, I, I, fun _ => A3 (sz := 1) I I I I I I I I I I O P (Be (f := rB) Q I) dS fun v => ⟨_, I, ⟨v, I⟩, I⟩⟩, J⟩ ?_)
 intro b g d i
 refine nL 2 I fun e => nL 4 I fun g => nL 5 I fun i => Cr I (Ao (l := [.v a, .v b, .v d]) Az (Ae I I (Ai e) I (Ae I I (Ai g) I (Ae I I (Ai i) I (A8))))) I (Cr I (Ao (l := [.N, .v a, .v b, .v d]) C4 I) I (nF [3] I I I (Ax 3 0 0 [[.N, .v a, .v b, .v d]] I (Ak (nE ?_)))))
 exact lg ⟨(k, n, t), j, a, b, d, h, I2⟩ [0, 1, 2, 4, 5, 3]
 refine nF [] I I I (A3 (sz := 1) I I I I I I I I I I G H (Be (f := rI) M I) dS fun b => nX ?_ ?_ ?_)
 refine nF [] I I I (A3 (sz := 1) I I I I I I I I I I D E (Be (f := rI) F I) dS fun a => nT ?_ ?_)
 refine nF [] I I I (A3 (sz := 1) I I I I I I I I I I O P (Be (f := rB) Q I) dS fun d => nL 3 I fun e => nL 2 I fun g => nL 4 I fun i => Cr I (Ao (l := [.v a, .v b, .v d]) Az (Ae I I (Ai e) I (Ae I I (Ai g) I (Ae I I (Ai i) I (A8))))) I (Cr I (Ao (l := [.N, .v a, .v b, .v d]) C4 I) I (nF [] I I I (nN (cs := [.N, .N, .N, .N]) (m := 4) I I I I I dS fun j => nF [5] I I I (Ax 5 0 0 [[.N, .v a, .v b, .v d]] I (Ak (nE ?_)))))))
 exact lg ⟨(k, n, t), j, a, b, d, h, I2⟩ [0, 1, 3, 2, 4, 5]
 refine nF [] I I I (nN (cs := [.N, .N, .N, .N]) (m := 4) I I I I I dS fun j => nF [] I I I (A3 (sz := 1) I I I I I I I I I I O P (Be (f := rB) Q I) dS fun d => nL 3 I fun e => nL 2 I fun g => nL 5 I fun i => Cr I (Ao (l := [.v a, .v b, .v d]) Az (Ae I I (Ai e) I (Ae I I (Ai g) I (Ae I I (Ai i) I (A8))))) I (Cr I (Ao (l := [.N, .v a, .v b, .v d]) C4 I) I (nF [4] I I I (Ax 4 0 0 [[.N, .v a, .v b, .v d]] I (Ak (nE ?_)))))))
 exact lg ⟨(k, n, t), j, a, b, d, h, I2⟩ [0, 1, 3, 2, 5, 4]
 refine nF [] I I I (A3 (sz := 1) I I I I I I I I I I O P (Be (f := rB) Q I) dS fun d => nT ?_ ?_)
 refine nF [] I I I (A3 (sz := 1) I I I I I I I I I I D E (Be (f := rI) F I) dS fun a => nL 4 I fun e => nL 2 I fun g => nL 3 I fun i => Cr I (Ao (l := [.v a, .v b, .v d]) Az (Ae I I (Ai e) I (Ae I I (Ai g) I (Ae I I (Ai i) I (A8))))) I (Cr I (Ao (l := [.N, .v a, .v b, .v d]) C4 I) I (nF [] I I I (nN (cs := [.N, .N, .N, .N]) (m := 4) I I I I I dS fun j => nF [5] I I I (Ax 5 0 0 [[.N, .v a, .v b, .v d]] I (Ak (nE ?_)))))))
 exact lg ⟨(k, n, t), j, a, b, d, h, I2⟩ [0, 1, 4, 2, 3, 5]
 refine nF [] I I I (nN (cs := [.N, .N, .N, .N]) (m := 4) I I I I I dS fun j => nF [] I I I (A3 (sz := 1) I I I I I I I I I I D E (Be (f := rI) F I) dS fun a => nL 5 I fun e => nL 2 I fun g => nL 3 I fun i => Cr I (Ao (l := [.v a, .v b, .v d]) Az (Ae I I (Ai e) I (Ae I I (Ai g) I (Ae I I (Ai i) I (A8))))) I (Cr I (Ao (l := [.N, .v a, .v b, .v d]) C4 I) I (nF [4] I I I (Ax 4 0 0 [[.N, .v a, .v b, .v d]] I (Ak (nE ?_)))))))
 exact lg ⟨(k, n, t), j, a, b, d, h, I2⟩ [0, 1, 5, 2, 3, 4]
 refine nF [] I I I (nN (cs := [.N, .N, .N, .N]) (m := 4) I I I I I dS fun j => AP.any [⟨3, [], 25, .us 3 1 (k.map rI)⟩, ⟨11, [], 33, .us 4 1 (t.map rB)⟩] I ⟨⟨_, I, I, I, fun _ => A3 (sz := 1) I I I I I I I I I I D E (Be (f := rI) F I) dS fun v => ⟨_, I, ⟨v, I⟩, I⟩⟩, ⟨_, I, I, I, fun _ => A3 (sz := 1) I I I I I I I I I I O P (Be (f := rB) Q I) dS fun v => ⟨_, I, ⟨v, I⟩, I⟩⟩, J⟩ ?_)
 intro a e d i
 refine nL 4 I fun e => nL 2 I fun g => nL 5 I fun i => Cr I (Ao (l := [.v a, .v b, .v d]) Az (Ae I I (Ai e) I (Ae I I (Ai g) I (Ae I I (Ai i) I (A8))))) I (Cr I (Ao (l := [.N, .v a, .v b, .v d]) C4 I) I (nF [3] I I I (Ax 3 0 0 [[.N, .v a, .v b, .v d]] I (Ak (nE ?_)))))
 exact lg ⟨(k, n, t), j, a, b, d, h, I2⟩ [0, 1, 4, 2, 5, 3]
 refine nF [] I I I (A3 (sz := 1) I I I I I I I I I I O P (Be (f := rB) Q I) dS fun d => nX ?_ ?_ ?_)
 refine nF [] I I I (A3 (sz := 1) I I I I I I I I I I D E (Be (f := rI) F I) dS fun a => nT ?_ ?_)
 refine nF [] I I I (A3 (sz := 1) I I I I I I I I I I G H (Be (f := rI) M I) dS fun b => nL 3 I fun e => nL 4 I fun g => nL 2 I fun i => Cr I (Ao (l := [.v a, .v b, .v d]) Az (Ae I I (Ai e) I (Ae I I (Ai g) I (Ae I I (Ai i) I (A8))))) I (Cr I (Ao (l := [.N, .v a, .v b, .v d]) C4 I) I (nF [] I I I (nN (cs := [.N, .N, .N, .N]) (m := 4) I I I I I dS fun j => nF [5] I I I (Ax 5 0 0 [[.N, .v a, .v b, .v d]] I (Ak (nE ?_)))))))
 exact lg ⟨(k, n, t), j, a, b, d, h, I2⟩ [0, 1, 3, 4, 2, 5]
 refine nF [] I I I (nN (cs := [.N, .N, .N, .N]) (m := 4) I I I I I dS fun j => nF [] I I I (A3 (sz := 1) I I I I I I I I I I G H (Be (f := rI) M I) dS fun b => nL 3 I fun e => nL 5 I fun g => nL 2 I fun i => Cr I (Ao (l := [.v a, .v b, .v d]) Az (Ae I I (Ai e) I (Ae I I (Ai g) I (Ae I I (Ai i) I (A8))))) I (Cr I (Ao (l := [.N, .v a, .v b, .v d]) C4 I) I (nF [4] I I I (Ax 4 0 0 [[.N, .v a, .v b, .v d]] I (Ak (nE ?_)))))))
 exact lg ⟨(k, n, t), j, a, b, d, h, I2⟩ [0, 1, 3, 5, 2, 4]
 refine nF [] I I I (A3 (sz := 1) I I I I I I I I I I G H (Be (f := rI) M I) dS fun b => nT ?_ ?_)
 refine nF [] I I I (A3 (sz := 1) I I I I I I I I I I D E (Be (f := rI) F I) dS fun a => nL 4 I fun e => nL 3 I fun g => nL 2 I fun i => Cr I (Ao (l := [.v a, .v b, .v d]) Az (Ae I I (Ai e) I (Ae I I (Ai g) I (Ae I I (Ai i) I (A8))))) I (Cr I (Ao (l := [.N, .v a, .v b, .v d]) C4 I) I (nF [] I I I (nN (cs := [.N, .N, .N, .N]) (m := 4) I I I I I dS fun j => nF [5] I I I (Ax 5 0 0 [[.N, .v a, .v b, .v d]] I (Ak (nE ?_)))))))
 exact lg ⟨(k, n, t), j, a, b, d, h, I2⟩ [0, 1, 4, 3, 2, 5]
 refine nF [] I I I (nN (cs := [.N, .N, .N, .N]) (m := 4) I I I I I dS fun j => nF [] I I I (A3 (sz := 1) I I I I I I I I I I D E (Be (f := rI) F I) dS fun a => nL 5 I fun e => nL 3 I fun g => nL 2 I fun i => Cr I (Ao (l := [.v a, .v b, .v d]) Az (Ae I I (Ai e) I (Ae I I (Ai g) I (Ae I I (Ai i) I (A8))))) I (Cr I (Ao (l := [.N, .v a, .v b, .v d]) C4 I) I (nF [4] I I I (Ax 4 0 0 [[.N, .v a, .v b, .v d]] I (Ak (nE ?_)))))))
 exact lg ⟨(k, n, t), j, a, b, d, h, I2⟩ [0, 1, 5, 3, 2, 4]
 refine nF [] I I I (nN (cs := [.N, .N, .N, .N]) (m := 4) I I I I I dS fun j => AP.any [⟨3, [], 25, .us 3 1 (k.map rI)⟩, ⟨7, [], 29, .us 3 1 (n.map rI)⟩] I ⟨⟨_, I, I, I, fun _ => A3 (sz := 1) I I I I I I I I I I D E (Be (f := rI) F I) dS fun v => ⟨_, I, ⟨v, I⟩, I⟩⟩, ⟨_, I, I, I, fun _ => A3 (sz := 1) I I I I I I I I I I G H (Be (f := rI) M I) dS fun v => ⟨_, I, ⟨v, I⟩, I⟩⟩, J⟩ ?_)
 intro a e b g
 refine nL 4 I fun e => nL 5 I fun g => nL 2 I fun i => Cr I (Ao (l := [.v a, .v b, .v d]) Az (Ae I I (Ai e) I (Ae I I (Ai g) I (Ae I I (Ai i) I (A8))))) I (Cr I (Ao (l := [.N, .v a, .v b, .v d]) C4 I) I (nF [3] I I I (Ax 3 0 0 [[.N, .v a, .v b, .v d]] I (Ak (nE ?_)))))
 exact lg ⟨(k, n, t), j, a, b, d, h, I2⟩ [0, 1, 4, 5, 2, 3]
 refine nF [] I I I (nN (cs := [.N, .N, .N, .N]) (m := 4) I I I I I dS fun j => AP.any [⟨3, [], 25, .us 3 1 (k.map rI)⟩, ⟨7, [], 29, .us 3 1 (n.map rI)⟩, ⟨11, [], 33, .us 4 1 (t.map rB)⟩] I ⟨⟨_, I, I, I, fun _ => A3 (sz := 1) I I I I I I I I I I D E (Be (f := rI) F I) dS fun v => ⟨_, I, ⟨v, I⟩, I⟩⟩, ⟨_, I, I, I, fun _ => A3 (sz := 1) I I I I I I I I I I G H (Be (f := rI) M I) dS fun v => ⟨_, I, ⟨v, I⟩, I⟩⟩, ⟨_, I, I, I, fun _ => A3 (sz := 1) I I I I I I I I I I O P (Be (f := rB) Q I) dS fun v => ⟨_, I, ⟨v, I⟩, I⟩⟩, J⟩ ?_)
 intro a e b g d i
 refine nL 3 I fun e => nL 4 I fun g => nL 5 I fun i => Cr I (Ao (l := [.v a, .v b, .v d]) Az (Ae I I (Ai e) I (Ae I I (Ai g) I (Ae I I (Ai i) I (A8))))) I (Cr I (Ao (l := [.N, .v a, .v b, .v d]) C4 I) I (nF [2] I I I (Ax 2 0 0 [[.N, .v a, .v b, .v d]] I (Ak (nE ?_)))))
 exact lg ⟨(k, n, t), j, a, b, d, h, I2⟩ [0, 1, 3, 4, 5, 2]
 rintro s ob ⟨u, U, y, A, B, h, rfl, rfl⟩
 unfold Wo.J1 at h
 refine Al (fun s ob => ∃ (Y : List Valve) (W : Value), Wo.J2 u Y = some r ∧ s = [] ∧ ob = [.arr S 39 4 1 [[.N, .N, .N, .N]], .us y 3 1 (u.1.map rI), .us A 3 1 (u.2.1.map rI), .us B 4 1 (u.2.2.map rB), .arr U 39 4 1 [[.v W, .v y, .v A, .v B]], .us W 74 4 (Y.map Au)]) [(4, _), (7, _)] J2 ?_ ?_
 refine Aq I (nJ (nM (Bo 74 4) ?_))
 obtain ⟨a0, aj, ak⟩ := Ac h
 clear h
 refine Bz aj [(1, _), (2, _), (4, _), (7, _)] J4 (fun (aa : (List Valve) × Int) s ob => ∃ (ab : Value), s = [(8, .V aa.2)] ∧ ob = [.arr Z 32 6 1 [Ab w], .arr S 39 4 1 [[.N, .N, .N, .N]], .us y 3 1 (u.1.map rI), .us A 3 1 (u.2.1.map rI), .us B 4 1 (u.2.2.map rB), .arr U 39 4 1 [[.v ab, .v y, .v A, .v B]], .us ab 74 4 (aa.1.map Au)]) ⟨(.slice none 0 0), I2⟩ ⟨I, J⟩ ⟨[0, 1, 2, 3, 4, 5, 6], I, by decide⟩ ?_
 rintro aa a1 s ob ⟨ab, rfl, rfl⟩ h al
 unfold Wo.B3 at h
 refine Aa fun a2 am => nH (nD (Ap 2 [.o 1 0] I J1 (Cg (Tu w _ I) (Af 1 I (nE (Ay h I ?_ ?_))))))
 intro an h
 refine nI ?_
 subst am
 refine nH (nJ ?_)
 obtain ⟨a3, ao, h⟩ := Ac h
 refine nD (Ap 3 [.o 1 5] I J1 (Ck (Ao (l := [.V R, .V 0, .v (.bool false), .v (.bool false)]) Rl I) I (nG [] I (nR 4 (([(⟨R, 0, false, false⟩ : Valve)] : List Valve).map Au) (nG [6] I (Bf 6 I ao fun ac => Af 1 I (nZ 6 I fun aq => nG [5] I (nU 5 0 0 (es' := [[.v ac, .v y, .v A, .v B]]) I I I I I I (Ai aq) I (Bs I) I I (nE (nD (Af 3 I ?_)))))))))))
 obtain rfl := oi h
 refine nE ?_
 exact ⟨_, _, _, I, ⟨ac, I2⟩, J5, [0, 1, 2, 3, 4, 5, 6], I, by decide⟩
 intro an h
 obtain rfl := al _ (oi h).symm
 replace h := ak
 refine nO ?_
 exact lg ⟨aa.1, ab, h, I2⟩ [1, 2, 3, 4, 5, 6]
 rintro s ob ⟨Y, W, h, rfl, rfl⟩
 unfold Wo.J2 at h
 refine nH (nD (Ap 1 [.o 0 4] I J1 (nG [0] I (Ax 0 0 0 [[.v W, .v y, .v A, .v B]] I (Af 1 I (nE (nM (A0 [1, 2, 3, 5] (K := [.us y 3 1 (u.1.map rI), .us A 3 1 (u.2.1.map rI), .us B 4 1 (u.2.2.map rB), .us W 74 4 (Y.map Au)]) I [] J (ob' := [.arr S 39 4 1 [[.list 4 (Y.map Au), .list 1 (u.1.map rI), .list 1 (u.2.1.map rI), .list 1 (u.2.2.map rB)]], .arr U 39 4 1 [[.v W, .v y, .v A, .v B]]]) (.cons (.arr (.cons (.us 3 I) (.cons (.us 0 I) (.cons (.us 1 I) (.cons (.us 2 I) (.rest _)))))) (.rest _))) (Cb [0] I ?_))))))))
 obtain rfl := oi h
 exact nK ⟨.inr I, [_, _], [], ⟨⟨0, _, _, _, _, _, _, _, I5⟩, I, J⟩, Cf, I2⟩
end Go.Proofs.YtmaamhgjeampmaaGreat
