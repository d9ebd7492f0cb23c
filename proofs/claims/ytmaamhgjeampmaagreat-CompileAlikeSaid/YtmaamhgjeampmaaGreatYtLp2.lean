/- Walks that show what functions of the program compute; printed by a program of ours. No condition. -/
import Derived.Test.YtmaamhgjeampmaaGreatYtL2
import Derived.Test.YtmaamhgjeampmaaGreatYtD
set_option maxRecDepth 100000
namespace Go.Proofs.YtmaamhgjeampmaaGreat
open Go.Aw
set_option linter.unusedVariables false
set_option linter.unusedSimpArgs false
set_option maxHeartbeats 4000000
theorem Tf (a : List Hop) (r : List Hop) (h : K5 a = some r) : ACalls Am 53 [.list 2 (a.map Bc)] [] (fun x new => ∃ (b : Value), x = .v b ∧ new = [.us b 107 2 (r.map Bc)]) := by
  refine Ag Tryz.func53 rfl rfl rfl fun C hC => ?_
  unfold K5 at h
  obtain ⟨e, d⟩ := Eh h
  refine nH ?_
  refine nD ?_
  refine Ck (oB rfl) rfl ?_
  refine nE ?_
  refine nH ?_
  refine nH ?_
  refine nD ?_
  refine Ck (Yp.move rfl) rfl ?_
  refine nG [] rfl (Q3 rfl rfl rfl (C3 rfl) fun c hc => ?_)
  refine nE ?_
  refine AW.cond rfl rfl ?_ ?_
  · intro hb
    have hs : a = [] := by have := hc hb; simpa using this
    subst hs
    refine nH ?_
    refine nD ?_
    refine Ck (oB rfl) rfl ?_
    refine oA (Bo 107 2) ?_
    refine nE ?_
    refine nK ?_
    have hr : r = [] := by simpa using d.symm
    subst hr
    exact ⟨.inr rfl, [_], [.us (.slice none 0 0) 107 2 ([].map Bc)], ⟨rfl, J⟩, Dn rfl Cf, ⟨_, rfl, rfl⟩⟩
  · intro hb
    refine nI ?_
    refine nH ?_
    refine nD ?_
    refine nG [] rfl (nP (sz := 2) (es := []) rfl rfl rfl rfl rfl rfl rfl rfl rfl rfl rfl (C3 rfl) fun g => ?_)
    refine Ck (Yp.move rfl) rfl ?_
    refine nG [0] rfl (Fw 0 (es' := r.map Bc) rfl rfl rfl rfl rfl rfl rfl rfl rfl (AppSrc.list rfl) (by simpa using e) (by rw [← d]; simp) (C3 rfl) fun f => ?_)
    refine Ck (oB rfl) rfl ?_
    refine nE ?_
    refine nK ?_
    exact ⟨.inr rfl, [_], [.us f 107 2 (r.map Bc)], ⟨rfl, J⟩, Dn rfl Cf, ⟨_, rfl, rfl⟩⟩
theorem bJ (a : Path) (b : Int) (r : Path) (h : P4 a b = some r) : ACalls Am 143 [.agg (Aj a), .V b] [] (fun x new => x = .agg (Aj r) ∧ new = []) := by
 refine Ag Tryz.func143 rfl rfl rfl fun C hC => ?_
 unfold P4 at h
 refine Aa fun k e => nD (nG [] I (nQ (cs := Aj a) (m := 4) I I I dS fun f => nG [] I (nN (cs := [.V 0, .V 0, .N, .V 0]) (m := 4) I I I I I dS fun g => nE ?_)))
 subst e
 refine nH ?_
 obtain ⟨d, i, h⟩ := Ac h
 refine nD (Ap 2 [.o 1 0] I J1 (nG [] I (Bp I I I (Tf _ _ i) dS ?_)))
 rintro _ _ ⟨c, rfl, rfl⟩
 refine Af 2 I (nZ 2 I fun j => nG [0] I (nU 0 0 2 (es' := [[.V a.In, .V a.Out, .v c, .V a.Rate]]) I I I I I I (Ai j) I (Bs I) I I (Af 1 I (nG [0] I (Ax 0 0 3 [[.V a.In, .V a.Out, .v c, .V b]] I (nE (nH (nD (Ap 1 [.o 0 0] I J1 (nG [1] I (Ax 1 0 0 [[.V a.In, .V a.Out, .v c, .V b]] I (nE (nM (A0 [2] (K := [.us c 107 2 (d.map Bc)]) I [] J (ob' := [.arr f 52 4 1 [[.V a.In, .V a.Out, .v c, .V b]], .arr g 52 4 1 [[.V a.In, .V a.Out, .list 2 (d.map Bc), .V b]]]) (.cons (.same _) (.cons (.arr (.cons (.refl _) (.cons (.refl _) (.cons (.us 0 I) (.rest _))))) (.rest _)))) (Cb [1] I ?_))))))))))))))
 obtain rfl := oi h
 exact nK ⟨.inr I, [_], [], ⟨⟨0, _, _, _, _, _, _, _, I5⟩, J⟩, Cf, I2⟩
theorem bN (a : List Bool) (r : List Bool) (h : P5 a = some r) : ACalls Am 55 [.list 1 (a.map rB)] [] (fun x new => ∃ (b : Value), x = .v b ∧ new = [.us b 4 1 (r.map rB)]) := by
  refine Ag Tryz.func55 rfl rfl rfl fun C hC => ?_
  unfold P5 at h
  obtain ⟨e, d⟩ := Eh h
  refine nH ?_
  refine nD ?_
  refine Ck (oB rfl) rfl ?_
  refine nE ?_
  refine nH ?_
  refine nH ?_
  refine nD ?_
  refine Ck (Yp.move rfl) rfl ?_
  refine nG [] rfl (Q3 rfl rfl rfl (C3 rfl) fun c hc => ?_)
  refine nE ?_
  refine AW.cond rfl rfl ?_ ?_
  · intro hb
    have hs : a = [] := by have := hc hb; simpa using this
    subst hs
    refine nH ?_
    refine nD ?_
    refine Ck (oB rfl) rfl ?_
    refine oA (Bo 4 1) ?_
    refine nE ?_
    refine nK ?_
    have hr : r = [] := by simpa using d.symm
    subst hr
    exact ⟨.inr rfl, [_], [.us (.slice none 0 0) 4 1 ([].map rB)], ⟨rfl, J⟩, Dn rfl Cf, ⟨_, rfl, rfl⟩⟩
  · intro hb
    refine nI ?_
    refine nH ?_
    refine nD ?_
    refine nG [] rfl (nP (sz := 1) (es := []) rfl rfl rfl rfl rfl rfl rfl rfl rfl rfl rfl (C3 rfl) fun g => ?_)
    refine Ck (Yp.move rfl) rfl ?_
    refine nG [0] rfl (Fw 0 (es' := r.map rB) rfl rfl rfl rfl rfl rfl rfl rfl rfl (AppSrc.list rfl) (by simpa using e) (by rw [← d]; simp) (C3 rfl) fun f => ?_)
    refine Ck (oB rfl) rfl ?_
    refine nE ?_
    refine nK ?_
    exact ⟨.inr rfl, [_], [.us f 4 1 (r.map rB)], ⟨rfl, J⟩, Dn rfl Cf, ⟨_, rfl, rfl⟩⟩
theorem Oi (a : Hop) (b : Int) (r : Int) (h : Hr a b = r) : ACalls Am 141 [.agg (Bc a), .V b] [] (fun x new => x = .V r ∧ new = []) := by
 refine Ag Tryz.func141 rfl rfl rfl fun C hC => ?_
 unfold Hr at h
 refine Aa fun e c => nD (nG [] I (nQ (cs := Bc a) (m := 2) I I I dS fun f => Af 1 I (nE ?_)))
 subst c
 refine nH (Bu [.o 1 0] I J1 (Ay h I ?_ ?_))
 intro d h
 refine Aq I (nM g0 ?_)
 obtain rfl := h
 exact nK pr
 intro d h
 refine nI (Aq I (nM g0 ?_))
 obtain rfl := h
 exact nK pr
theorem aN (g : Nat) (e : Plan) (w0_0 : Value) (w0_1 : Value) (p : Path) (d : Int) (r : Plan) (h : Pt e p d = some r) : ACalls Am 93 [.v (.pointer (some ⟨g, 0, none⟩)), .agg (Aj p), .V d] [.arr g 37 3 1 [[.v w0_0, .v w0_1, .list 1 (e.Pumps.map rB)]], .us w0_0 3 1 (e.Rates.map rI), .us w0_1 3 1 (e.Ports.map rI)] (Gp 3 fun x os new => ∃ (u0_0 : Value) (u0_1 : Value), x = .tup [] ∧ os = [.arr g 37 3 1 [[.v u0_0, .v u0_1, .list 1 (r.Pumps.map rB)]], .us u0_0 3 1 (r.Rates.map rI), .us u0_1 3 1 (r.Ports.map rI)] ∧ new = []) := by
 refine Ag Tryz.func93 rfl rfl rfl fun C hC => ?_
 unfold Pt at h
 refine Aa fun y1 F => nD (nG [] I (nQ (cs := Aj p) (m := 4) I I I dS fun b2 => nE ?_))
 subst F
 refine Aa fun y3 G => ?_
 obtain ⟨a, ⟨A, i⟩, h⟩ := Bk h
 refine Ce 2 a.1 I i fun H => Ce 2 a.1 I i fun K => Bw (sl 11 0 (.drop 11 .nil)) [0, 3, 2] [_, _, _] I (By 6 [.o 3 0, .o 5 1] I J2 (nV I (Bl (m := a.1) I I I I I H I A i) I (AP.o I (Ba 2 a.1 0 I I I (Ah i) I (y := .V a.2) I) I (Bm 2 I (nV I (Bl (m := a.1) I I I I I K I A i) I (nW [2] I I I (Ci 2 a.1 0 I I I (Ah i) I I I I (Bs I) I (Dp (x := wr (a.2 + d)) I) (Ak (nE ?_)))))))))
 subst G
 refine Aa fun y8 M => ?_
 obtain ⟨b, ⟨B, j⟩, h⟩ := Bk h
 refine Ce 2 b.1 I j fun N => Ce 2 b.1 I j fun O => Bw (sl 11 0 (.drop 11 .nil)) [0, 3, 2] [_, _, _] I (By 6 [.o 3 0, .o 5 1] I J2 (nV I (Bl (m := b.1) I I I I I N I B j) I (AP.o I (Ba 2 b.1 0 I I I (Ah j) I (y := .V b.2) I) I (Bm 2 I (nV I (Bl (m := b.1) I I I I I O I B j) I (nW [2] I I I (Ci 2 b.1 0 I I I (Ah j) I I I I (Bs I) I (Dp (x := wr (b.2 - d)) I) (Ak (nE ?_)))))))))
 subst M
 refine Bu [.o 1 3, .l 2 (p.Hops.length : Int)] I ⟨Bh, I, J⟩ (nJ (Cz 31 I fun P => ?_))
 obtain ⟨af, Q, R⟩ := Ac h
 clear h
 refine Dl Q [(0, _), (2, _), (31, _), (32, _)] J4 (fun (u : Nat) (t : List Int) s ob => s = [(33, .V (u : Int))] ∧ ob = [.arr g 37 3 1 [[.v w0_0, .v w0_1, .list 1 (e.Pumps.map rB)]], .us w0_0 3 1 (t.map rI), .us w0_1 3 1 (((e.Ports.set a.1 (wr (a.2 + d))).set b.1 (wr (b.2 - d))).map rI)]) ⟨I, I⟩ ⟨I, J⟩ ⟨[0, 1, 2], I, by decide⟩ ?_ ?_
 rintro u w t ag s ob S D ⟨rfl, rfl⟩ h
 unfold Pt.B1 at h
 have U := Di D
 refine Aq I (Aa fun ah W => Av (v := true) I U (nI ?_))
 subst W
 refine nH (nJ (Aa fun ai X => nD (Ap 2 [.x 0 u (Bc w)] I ⟨⟨I, Ah S⟩, J⟩ (nG [] I (nN (cs := [.V 0, .v (.bool false)]) (m := 2) I I I I I dS fun aj => nG [3] I (Ax 3 0 0 [Bc w] I (nE ?_)))))))
 subst X
 obtain ⟨f, ⟨E, n⟩, h⟩ := Bk h
 refine Ce 1 f.1 I n fun Y => Ce 1 f.1 I n fun Z => Bw (sl 10 0 (.act 10 (.still 11 (.still 12 (.drop 13 .nil))))) [0, 3, 1] [_, _, _] I (By 6 [.o 3 0, .o 5 1] I J2 (nV I (Bl (m := f.1) I I I I I Y I E n) I (AP.o I (Ba 2 f.1 0 I I I (Ah n) I (y := .V f.2) I) I (By 2 [.o 0 1] I J1 (Ee I (Oi w d _ I) (Bm 1 I (nV I (Bl (m := f.1) I I I I I Z I E n) I (nW [1] I I I (Ci 1 f.1 0 I I I (Ah n) I I I I (Bs I) I (Dp (x := wr (f.2 + (Hr w d))) I) (Ak (nE ?_)))))))))))
 refine nD (Ap 2 [.k 0 (u + 1 : Nat)] I ⟨Bt D P, J⟩ ?_)
 obtain rfl := oi h
 refine nE ?_
 exact lg I2 [0, 1, 2]
 rintro t s ob ⟨rfl, rfl⟩ he
 subst he
 have h := R
 have aa := Dj p.Hops.length
 refine Aq I (Aa fun ak al => Av (v := false) I aa ?_)
 obtain rfl := oi h
 refine nO ?_
 exact ⟨.inl I, [], [.arr g 37 3 1 [[.v w0_0, .v w0_1, .list 1 (e.Pumps.map rB)]], .us w0_0 3 1 (t.map rI), .us w0_1 3 1 (((e.Ports.set a.1 (wr (a.2 + d))).set b.1 (wr (b.2 - d))).map rI)], J, Dn I (Dn I (Dn I (Cf))), ⟨[.arr g 37 3 1 [[.v w0_0, .v w0_1, .list 1 (e.Pumps.map rB)]], .us w0_0 3 1 (t.map rI), .us w0_1 3 1 (((e.Ports.set a.1 (wr (a.2 + d))).set b.1 (wr (b.2 - d))).map rI)], [], I, I, w0_0, w0_1, I3⟩⟩
theorem aY (s1_0 : List Hop) (s2_1 : List Hop) (r : Bool) (h : Pz s1_0 s2_1 = some r) : ACalls Am 170 [.list 2 (s1_0.map Bc), .list 2 (s2_1.map Bc)] [] (fun x new => x = .v (.bool r) ∧ new = []) := by
 refine Ag Tryz.func170 rfl rfl rfl fun C hC => ?_
 unfold Pz at h
 refine Aq I (Aa fun B i => Bu [.l 1 (s1_0.length : Int), .l 3 (s2_1.length : Int)] I ⟨Bh, Bh, J⟩ (Ay h I ?_ ?_))
 intro j h
 refine Aq I ?_
 obtain rfl := oi h
 exact nK pr
 intro j h
 refine nI ?_
 subst i
 refine Al (fun s ob => ∃ (d : Unit), Pz.J1 d = some r ∧ s = [] ∧ ob = []) [] J ?_ ?_
 refine Bu [.l 1 (s1_0.length : Int)] I ⟨Bh, J⟩ (nJ (Cz 11 I fun m => ?_))
 obtain ⟨D, n, e⟩ := Ac h
 clear h
 refine C1 n [(0, _), (1, _), (12, _)] J3 (fun (a : Nat) (f : Unit) s ob => s = [(13, .V (a : Int))] ∧ ob = []) ⟨I, I⟩ ⟨I, J⟩ ⟨[], I, by decide⟩ ?_ ?_
 rintro a c f E s ob o g ⟨rfl, rfl⟩ h p
 unfold Pz.B2 at h
 have q := Di g
 refine Aq I (Aa fun F t => Av (v := true) I q (nI ?_))
 subst t
 refine nH (nJ (Aq I (nH ?_)))
 obtain ⟨b, ⟨u, w⟩, h⟩ := Bk h
 refine Bw (pd 9 0 []) [] [] I (By 8 [.x 2 a (Bc c), .x 6 b.1 (Bc b.2)] I ⟨⟨u, Ah w⟩, ⟨I, Ah o⟩, J⟩ (nV I (Jy (r := ((c.Segment == b.2.Segment) && ((c.Back == b.2.Back) && true))) I I Rj I I I I) I (Ak (nE (Ay h I ?_ ?_)))))
 intro y h
 refine Aq I ?_
 obtain rfl := p _ (oi h).symm
 replace h := e
 replace h := Do h
 obtain rfl := oi h
 exact nK pr
 intro y h
 refine nI (nD (Ap 2 [.k 0 (a + 1 : Nat)] I ⟨Bt g m, J⟩ ?_))
 obtain rfl := oi h
 refine nE ?_
 exact ⟨_, _, _, I, I2, J4, [], I, by decide⟩
 rintro f s ob ⟨rfl, rfl⟩ he
 subst he
 have h := Dh e
 have A := Dj s1_0.length
 refine Aq I (Aa fun G H => Av (v := false) I A (nO ?_))
 exact lg ⟨(), h, I2⟩ []
 rintro s ob ⟨d, h, rfl, rfl⟩
 unfold Pz.J1 at h
 refine Aq I ?_
 obtain rfl := oi h
 exact nK pr
theorem aT (a : Path) (b : Path) (r : Bool) (h : Px a b = some r) : ACalls Am 146 [.agg (Aj a), .agg (Aj b)] [] (fun x new => x = .v (.bool r) ∧ new = []) := by
 refine Ag Tryz.func146 rfl rfl rfl fun C hC => ?_
 unfold Px at h
 refine Aa fun k g => nD (nG [] I (nQ (cs := Aj a) (m := 4) I I I dS fun l => nG [] I (nQ (cs := Aj b) (m := 4) I I I dS fun n => Af 1 I (nE ?_))))
 subst g
 refine Al (fun s ob => ∃ (f : Bool), Px.J1 f = some r ∧ s = [(4, .v (.bool f))] ∧ ob = []) [] J ?_ ?_
 refine nD (Ap 6 [.o 1 0, .o 3 1] I J2 ?_)
 rcases bt ((a.In == b.In)) with d | d
 replace h := B0 d h
 refine Ad 10 I d ?_
 rcases bt ((a.Out == b.Out)) with e | e
 replace h := B0 e h
 obtain ⟨i, j, h⟩ := Ac h
 refine Ap 7 [.o 1 0, .o 3 1] I J2 (Ad 17 I e (Ap 4 [.o 1 0, .o 3 1] I J2 (Br I I I (Cg (aY _ _ _ j) (Af 2 I (nE ?_))))))
 exact lg ⟨i, h, I2⟩ []
 replace h := Ca e h
 refine Ap 7 [.o 1 0, .o 3 1] I J2 (Ad 17 I e (Af 7 I (nE ?_)))
 exact lg ⟨false, h, I2⟩ []
 replace h := Ca d h
 refine Ad 10 I d (Af 14 I (nE ?_))
 exact lg ⟨false, h, I2⟩ []
 rintro s ob ⟨f, h, rfl, rfl⟩
 unfold Px.J1 at h
 obtain rfl := oi h
 exact nK pr
theorem bT (a : List Path) (F1 : T) {c : FuncId} {d e : List T} (o : Mk F1 = some (c, d, e)) (f : Path → Option Bool) (p : ∀ (g : Path) r, f g = some r → ACalls Am c (d ++ [.agg (Aj g)] ++ e) [] fun x new => x = .v (.bool r) ∧ new = []) (r : Int) (h : Ua a f = some r) : ACalls Am 144 [.list 4 (a.map Aj), F1] [] (fun x new => x = .V r ∧ new = []) := by
 refine Ag Tryz.func144 rfl rfl rfl fun C hC => ?_
 unfold Ua at h
 refine Aq I (Al (fun s ob => ∃ (i : Unit), Ua.J1 i = some r ∧ s = [] ∧ ob = []) [] J ?_ ?_)
 refine Bu [.l 1 (a.length : Int)] I ⟨Bh, J⟩ (nJ (Cz 6 I fun q => ?_))
 obtain ⟨G, t, j⟩ := Ac h
 clear h
 refine C1 t [(0, _), (1, _), (7, _)] J3 (fun (b : Nat) (m : Unit) s ob => s = [(8, .V (b : Int))] ∧ ob = []) ⟨I, I⟩ ⟨I, J⟩ ⟨[], I, by decide⟩ ?_ ?_
 rintro b u m H s ob w n ⟨rfl, rfl⟩ h y
 unfold Ua.B2 at h
 have A := Di n
 refine Aq I (Aa fun K B => Av (v := true) I A (nI ?_))
 subst B
 refine nH (nJ (Aq I (nH ?_)))
 obtain ⟨M, D, h⟩ := Ac h
 refine nD (Ap 5 [.x 3 b (Aj u)] I ⟨⟨I, Ah w⟩, J⟩ (nG [] I (Dq I (.refl _) o I (.rest _) I (p _ _ D) dS (by rintro _ _ ⟨rfl, _⟩; rfl) ?_)))
 rintro _ ⟨_, rfl, -⟩
 refine nE (Ay h I ?_ ?_)
 intro E h
 refine Aq I ?_
 obtain rfl := y _ (oi h).symm
 replace h := j
 replace h := Do h
 obtain rfl := oi h
 exact nK pr
 intro E h
 refine nI (nD (Ap 2 [.k 0 (b + 1 : Nat)] I ⟨Bt n q, J⟩ ?_))
 obtain rfl := oi h
 refine nE ?_
 exact ⟨_, _, _, I, I2, J4, [], I, by decide⟩
 rintro m s ob ⟨rfl, rfl⟩ he
 subst he
 have h := Dh j
 have F := Dj a.length
 refine Aq I (Aa fun N O => Av (v := false) I F (nO ?_))
 exact lg ⟨(), h, I2⟩ []
 rintro s ob ⟨i, h, rfl, rfl⟩
 unfold Ua.J1 at h
 refine Aq I ?_
 obtain rfl := oi h
 exact nK pr
theorem cH (a : Path) (b : Path) (r : Bool) (h : Qb a b = some r) : ACalls Am 145 [.agg (Aj a), .eptr (Aj b)] [] (fun x new => x = .v (.bool r) ∧ new = []) := by
 refine Ag Tryz.func145 rfl rfl rfl fun C hC => ?_
 unfold Qb at h
 refine nH (nD (nG [] I (nQ (cs := Aj a) (m := 4) I I I dS fun e => Af 1 I (nE (nH ?_)))))
 obtain ⟨f, d, h⟩ := Ac h
 refine nD (Ap 2 [.o 0 0] I J1 (Cg (aT _ _ _ d) (Af 1 I (nE (nM g0 ?_)))))
 obtain rfl := oi h
 exact nK pr
theorem Tp (b : List Path) (a : Path) (r : Int) (h : Nl b a = some r) : ACalls Am 94 [.list 4 (b.map Aj), .agg (Aj a)] [] (fun x new => x = .V r ∧ new = []) := by
 refine Ag Tryz.func94 rfl rfl rfl fun C hC => ?_
 unfold Nl at h
 refine nH (nD (nG [] I (nQ (cs := Aj a) (m := 4) I I I dS fun d => Af 1 I (nE (nH ?_)))))
 obtain ⟨e, c, h⟩ := Ac h
 refine nD (Af 1 I (Ck (Yp.makeFunc I I) I (nG [] I (Dq I (.refl _) I I (.cons (.refl _) (.cons (.fn (.rest _) (.cons (.box 0 I (.rest _)) (.rest _))) (.rest _))) I (bT _ (.fn 145 [] [.eptr (Aj a)]) I (fun x => Qb x a) (fun x r h => cH x a r h) _ c) dS (by rintro _ _ ⟨rfl, _⟩; rfl) ?_))))
 rintro _ ⟨_, rfl, -⟩
 refine Af 1 I (nE (nM g0 ?_))
 obtain rfl := oi h
 exact nK pr
theorem bC (e : List Path) (n : List Path) (r : List Path) (h : M2 e n = some r) : ACalls Am 92 [.list 4 (e.map Aj), .list 4 (n.map Aj)] [] (fun x new => ∃ (p : Value), x = .v p ∧ new = [.us p 52 4 (r.map Aj)]) := by
 refine Ag Tryz.func92 rfl rfl rfl fun C hC => ?_
 unfold M2 at h
 refine Aq I (Aq I (Al (fun s ob => ∃ (f : List Path) (b : Value), M2.J1 f = some r ∧ s = [(5, .v b)] ∧ ob = [.us b 52 4 (f.map Aj)]) [] J ?_ ?_))
 refine Bu [.l 1 (e.length : Int)] I ⟨Bh, J⟩ (nJ (Cz 9 I fun y => nM (Bo 52 4) ?_))
 obtain ⟨Z, A, B⟩ := Ac h
 clear h
 refine Dl A [(1, _), (9, _), (10, _)] J3 (fun (g : Nat) (d : List Path) s ob => ∃ (a : Value), s = [(11, .V (g : Int)), (5, .v a)] ∧ ob = [.us a 52 4 (d.map Aj)]) ⟨(.slice none 0 0), I2⟩ ⟨I, I, J⟩ ⟨[0], I, by decide⟩ ?_ ?_
 rintro g t d D s ob E u ⟨a, rfl, rfl⟩ h
 unfold M2.B2 at h
 have F := Di u
 refine Aq I (Aa fun aa G => Av (v := true) I F (nI ?_))
 subst G
 refine Al (fun s ob => ∃ (j : List Path) (i : Value), M2.J3 j = some D ∧ s = [(5, .v i)] ∧ ob = [.us i 52 4 (j.map Aj)]) [(1, _), (9, _), (10, _), (11, _)] J4 ?_ ?_
 refine nJ (Aa fun ab H => nD (Ap 2 [.x 0 g (Aj t)] I ⟨⟨I, Ah E⟩, J⟩ (nG [] I (nN (cs := [.V 0, .V 0, .N, .V 0]) (m := 4) I I I I I dS fun ac => nG [1] I (Ax 1 0 0 [Aj t] I (nE ?_))))))
 subst H
 refine Aa fun ad K => ?_
 obtain ⟨ae, M, h⟩ := Ac h
 refine nD (Ap 2 [.o 1 1] I J1 (Cg (Tp _ _ _ M) (Af 1 I (nE ?_))))
 subst K
 refine Aq I (Ay h I ?_ ?_)
 intro O h
 obtain ⟨w, ⟨P, Q⟩, h⟩ := Bk h
 obtain ⟨R, S, h⟩ := Ac h
 obtain ⟨U, W, h⟩ := Ac h
 refine Bw (pd 14 0 [10, 11, 12]) [1] [_] I (By 10 [.o 1 0, .o 3 0, .x 6 w.1 (Aj w.2)] I ⟨⟨P, Ah Q⟩, I, I, J⟩ (nF [] I I I (Bp I I I (bJ _ _ _ S) dS ?_)))
 rintro _ _ ⟨rfl, rfl⟩
 refine nF [] I I I (nR 4 (([R] : List Path).map Aj) (nF [0] I I I (Bf 0 I W fun X => Yn 5 (Bm 1 I (Ak (nE ?_))))))
 exact lg ⟨U, X, h, I2⟩ [0]
 intro O h
 refine nI ?_
 exact lg ⟨d, a, h, I2⟩ [0]
 rintro s ob ⟨j, i, h, rfl, rfl⟩
 unfold M2.J3 at h
 refine nD (Ap 2 [.k 0 (g + 1 : Nat)] I ⟨Bt u y, J⟩ ?_)
 obtain rfl := oi h
 refine nE ?_
 exact lg ⟨i, I2⟩ [0]
 rintro d s ob ⟨a, rfl, rfl⟩ he
 subst he
 have h := B
 have Y := Dj e.length
 refine Aq I (Aa fun af ag => Av (v := false) I Y (nO ?_))
 exact lg ⟨d, a, h, I2⟩ [0]
 rintro s ob ⟨f, b, h, rfl, rfl⟩
 unfold M2.J1 at h
 refine Aq I ?_
 obtain rfl := oi h
 exact nK ⟨.inr I, [_], [.us b 52 4 (f.map Aj)], J1, Dn I (Cf), ⟨b, I2⟩⟩
end Go.Proofs.YtmaamhgjeampmaaGreat
