/- Walks that show what functions of the program compute; printed by a program of ours. No condition. -/
import Derived.Test.YtmaamhgjeampmaaGreatYtD
import Derived.Test.YtmaamhgjeampmaaGreatYtB2
set_option maxRecDepth 100000
namespace Go.Proofs.YtmaamhgjeampmaaGreat
open Go.Aw
set_option linter.unusedVariables false
set_option linter.unusedSimpArgs false
set_option maxHeartbeats 4000000
theorem aQ (a : Segment) (b : Int) (r : Int × Int) (h : Ef a b = r) : ACalls Am 154 [.agg (Ar a), .V b] [] (fun x new => x = .tup [.V r.1, .V r.2] ∧ new = []) := by
 refine Ag Tryz.func154 rfl rfl rfl fun C hC => ?_
 unfold Ef at h
 refine Aa fun e c => nD (nG [] I (nQ (cs := Ar a) (m := 7) I I I dS fun f => Af 2 I (nE ?_)))
 subst c
 refine nH (Aq I (Ay h I ?_ ?_))
 intro d h
 refine Pk (pd 6 0 []) [0] [_] [.o 1 0, .o 3 0] I I J2 (nM g0 ?_)
 obtain rfl := h
 exact nK ⟨.inr I, [_, _], [], J2, Cf, I2⟩
 intro d h
 refine nI (Pk (pd 6 0 []) [0] [_] [.o 1 0, .o 3 0] I I J2 (nM g0 ?_))
 obtain rfl := h
 exact nK ⟨.inr I, [_, _], [], J2, Cf, I2⟩
theorem Tb (a : Int) (b : Int) (r : Bool) (h : M0 a b = r) : ACalls Am 128 [.V a, .V b] [] (fun x new => x = .v (.bool r) ∧ new = []) := by
 refine Ag Tryz.func128 rfl rfl rfl fun C hC => ?_
 unfold M0 at h
 refine Aq I (Al (fun s ob => s = [(4, .v (.bool (decide (a ≥ (wr (0 - b))) && decide (a ≤ b))))] ∧ ob = []) [] J ?_ ?_)
 refine nD (Af 5 I ?_)
 rcases bt (decide (a ≥ (wr (0 - b)))) with c | c
 refine Ad 9 I c (Af 5 I (nE ?_))
 exact lf I2 ⟨(Dz (by simp only [c, bz])), J⟩ [] I
 refine Ad 9 I c (Af 5 I (nE ?_))
 exact lf I2 ⟨(Dz (by simp only [c, bz])), J⟩ [] I
 rintro s ob ⟨rfl, rfl⟩
 obtain rfl := h
 exact nK pr
theorem dB (e : Int) (b : Int) (r : Int) (h : Qh e b = some r) : ACalls Am 74 [.V e, .V b] [] (fun x new => x = .V r ∧ new = []) := by
 refine Ag Tryz.func74 rfl rfl rfl fun C hC => ?_
 unfold Qh at h
 refine Aq I (Aa fun m g => Aq I (Ay h I ?_ ?_))
 intro i h
 refine Aq I ?_
 obtain rfl := oi h
 exact nK pr
 intro i h
 refine nI ?_
 subst g
 refine Aa fun n j => ?_
 obtain ⟨a, k, h⟩ := Ac h
 refine I6 [.f 2 (.V a)] I ⟨Yp.yd (Lr (c := a) I I (fD k)), J⟩ ?_
 subst j
 refine Al (fun s ob => ∃ (d : Int), Qh.J1 d = some r ∧ s = [(0, .V d)] ∧ ob = []) [] J ?_ ?_
 refine Aq I (Ay h I ?_ ?_)
 intro l h
 refine Pd I ?_
 exact lg ⟨wr (a + b), h, I2⟩ []
 intro l h
 refine nI ?_
 exact lg ⟨a, h, I2⟩ []
 rintro s ob ⟨d, h, rfl, rfl⟩
 unfold Qh.J1 at h
 refine Aq I ?_
 obtain rfl := oi h
 exact nK pr
theorem Dx (a : Int) (c : Int) (d : Int) (r : Bool) (h : De a c d = r) : ACalls Am 167 [.V a, .V c, .V d] [] (fun x new => x = .v (.bool r) ∧ new = []) := by
 refine Ag Tryz.func167 rfl rfl rfl fun C hC => ?_
 unfold De at h
 refine Aq I (Al (fun s ob => s = [(6, .v (.bool (decide (a ≥ c) && decide (a ≤ d))))] ∧ ob = []) [] J ?_ ?_)
 refine nD (Af 4 I ?_)
 rcases bt (decide (a ≥ c)) with b | b
 refine Ad 10 I b (Af 5 I (nE ?_))
 exact lf I2 ⟨(Dz (by simp only [b, bz])), J⟩ [] I
 refine Ad 10 I b (Af 5 I (nE ?_))
 exact lf I2 ⟨(Dz (by simp only [b, bz])), J⟩ [] I
 rintro s ob ⟨rfl, rfl⟩
 obtain rfl := h
 exact nK pr
theorem S7 (a : Int) (r : Int) (h : Jh a = r) : ACalls Am 117 [.V a] [] (fun x new => x = .V r ∧ new = []) := by
 refine Ag Tryz.func117 rfl rfl rfl fun C hC => ?_
 unfold Jh at h
 refine Aq I (Aq I ?_)
 obtain rfl := h
 exact nK pr
theorem aW (a : List ByteArray) (d : ByteArray) (r : Int) (h : My a d = some r) : ACalls Am 159 [.list 1 (a.map rS), .v (.string d)] [] (fun x new => x = .V r ∧ new = []) := by
 refine Ag Tryz.func159 rfl rfl rfl fun C hC => ?_
 unfold My at h
 refine Aq I (Al (fun s ob => ∃ (e : Unit), My.J1 e = some r ∧ s = [] ∧ ob = []) [] J ?_ ?_)
 refine Bu [.l 1 (a.length : Int)] I ⟨Bh, J⟩ (nJ (Cz 6 I fun m => ?_))
 obtain ⟨A, n, f⟩ := Ac h
 clear h
 refine C1 n [(0, _), (1, _), (7, _)] J3 (fun (b : Nat) (g : Unit) s ob => s = [(8, .V (b : Int))] ∧ ob = []) ⟨I, I⟩ ⟨I, J⟩ ⟨[], I, by decide⟩ ?_ ?_
 rintro b i g B s ob o j ⟨rfl, rfl⟩ h q
 unfold My.B2 at h
 have t := Di j
 refine Aq I (Aa fun D u => Av (v := true) I t (nI ?_))
 subst u
 refine nH (nJ (Aq I (nH (nD (Ap 5 [.x 3 b (rS i)] I ⟨⟨I, Ah o⟩, J⟩ (Ck (Yp.cmpS (c := Wd d i) I I I) I (nE (Ay h I ?_ ?_))))))))
 intro w h
 refine Aq I ?_
 obtain rfl := q _ (oi h).symm
 replace h := f
 replace h := Do h
 obtain rfl := oi h
 exact nK pr
 intro w h
 refine nI (nD (Ap 2 [.k 0 (b + 1 : Nat)] I ⟨Bt j m, J⟩ ?_))
 obtain rfl := oi h
 refine nE ?_
 exact ⟨_, _, _, I, I2, J4, [], I, by decide⟩
 rintro g s ob ⟨rfl, rfl⟩ he
 subst he
 have h := Dh f
 have y := Dj a.length
 refine Aq I (Aa fun E F => Av (v := false) I y (nO ?_))
 exact lg ⟨(), h, I2⟩ []
 rintro s ob ⟨e, h, rfl, rfl⟩
 unfold My.J1 at h
 refine Aq I ?_
 obtain rfl := oi h
 exact nK pr
theorem dE (a : List Int) (F1 : T) {c : FuncId} {d e : List T} (o : Mk F1 = some (c, d, e)) (f : Int → Option Bool) (p : ∀ (g : Int) r, f g = some r → ACalls Am c (d ++ [.V g] ++ e) [] fun x new => x = .v (.bool r) ∧ new = []) (r : Int) (h : Ql a f = some r) : ACalls Am 152 [.list 1 (a.map rI), F1] [] (fun x new => x = .V r ∧ new = []) := by
 refine Ag Tryz.func152 rfl rfl rfl fun C hC => ?_
 unfold Ql at h
 refine Aq I (Al (fun s ob => ∃ (i : Unit), Ql.J1 i = some r ∧ s = [] ∧ ob = []) [] J ?_ ?_)
 refine Bu [.l 1 (a.length : Int)] I ⟨Bh, J⟩ (nJ (Cz 6 I fun q => ?_))
 obtain ⟨G, t, j⟩ := Ac h
 clear h
 refine C1 t [(0, _), (1, _), (7, _)] J3 (fun (b : Nat) (m : Unit) s ob => s = [(8, .V (b : Int))] ∧ ob = []) ⟨I, I⟩ ⟨I, J⟩ ⟨[], I, by decide⟩ ?_ ?_
 rintro b u m H s ob w n ⟨rfl, rfl⟩ h y
 unfold Ql.B2 at h
 have A := Di n
 refine Aq I (Aa fun K B => Av (v := true) I A (nI ?_))
 subst B
 refine nH (nJ (Aq I (nH ?_)))
 obtain ⟨M, D, h⟩ := Ac h
 refine nD (Ap 5 [.x 3 b (rI u)] I ⟨⟨I, Ah w⟩, J⟩ (nG [] I (Dq I (.refl _) o I (.rest _) I (p _ _ D) dS (by rintro _ _ ⟨rfl, _⟩; rfl) ?_)))
 rintro _ ⟨_, rfl, -⟩
 refine nE (Ay h I ?_ ?_)
 intro E h
 refine Aq I ?_
 obtain rfl := y _ (oi h).symm
 replace h := j
 replace h := Do h
 obtain rfl := oi h
 exact nK pr
 intro E h
 refine nI (nD (Ap 2 [.k 0 (b + 1 : Nat)] I ⟨Bt n q, J⟩ ?_))
 obtain rfl := oi h
 refine nE ?_
 exact ⟨_, _, _, I, I2, J4, [], I, by decide⟩
 rintro m s ob ⟨rfl, rfl⟩ he
 subst he
 have h := Dh j
 have F := Dj a.length
 refine Aq I (Aa fun N O => Av (v := false) I F (nO ?_))
 exact lg ⟨(), h, I2⟩ []
 rintro s ob ⟨i, h, rfl, rfl⟩
 unfold Ql.J1 at h
 refine Aq I ?_
 obtain rfl := oi h
 exact nK pr
theorem S2 (b : List Int) (F1 : T) {d : FuncId} {e f : List T} (i : Mk F1 = some (d, e, f)) (a : Int → Option Bool) (j : ∀ (g : Int) r, a g = some r → ACalls Am d (e ++ [.V g] ++ f) [] fun x new => x = .v (.bool r) ∧ new = []) (r : Bool) (h : K0 b a = some r) : ACalls Am 129 [.list 1 (b.map rI), F1] [] (fun x new => x = .v (.bool r) ∧ new = []) := by
 refine Ag Tryz.func129 rfl rfl rfl fun C hC => ?_
 unfold K0 at h
 refine Aq I (nH ?_)
 obtain ⟨l, k, h⟩ := Ac h
 refine nD (Af 2 I (Cg (dE _ F1 i a j _ k) (Af 2 I (nE ?_))))
 obtain rfl := oi h
 exact nK pr
theorem aZ (a : List ByteArray) (F1 : T) {c : FuncId} {d e : List T} (o : Mk F1 = some (c, d, e)) (f : ByteArray → Option Bool) (p : ∀ (g : ByteArray) r, f g = some r → ACalls Am c (d ++ [.v (.string g)] ++ e) [] fun x new => x = .v (.bool r) ∧ new = []) (r : Int) (h : P0 a f = some r) : ACalls Am 157 [.list 1 (a.map rS), F1] [] (fun x new => x = .V r ∧ new = []) := by
 refine Ag Tryz.func157 rfl rfl rfl fun C hC => ?_
 unfold P0 at h
 refine Aq I (Al (fun s ob => ∃ (i : Unit), P0.J1 i = some r ∧ s = [] ∧ ob = []) [] J ?_ ?_)
 refine Bu [.l 1 (a.length : Int)] I ⟨Bh, J⟩ (nJ (Cz 6 I fun q => ?_))
 obtain ⟨G, t, j⟩ := Ac h
 clear h
 refine C1 t [(0, _), (1, _), (7, _)] J3 (fun (b : Nat) (m : Unit) s ob => s = [(8, .V (b : Int))] ∧ ob = []) ⟨I, I⟩ ⟨I, J⟩ ⟨[], I, by decide⟩ ?_ ?_
 rintro b u m H s ob w n ⟨rfl, rfl⟩ h y
 unfold P0.B2 at h
 have A := Di n
 refine Aq I (Aa fun K B => Av (v := true) I A (nI ?_))
 subst B
 refine nH (nJ (Aq I (nH ?_)))
 obtain ⟨M, D, h⟩ := Ac h
 refine nD (Ap 5 [.x 3 b (rS u)] I ⟨⟨I, Ah w⟩, J⟩ (nG [] I (Dq I (.refl _) o I (.rest _) I (p _ _ D) dS (by rintro _ _ ⟨rfl, _⟩; rfl) ?_)))
 rintro _ ⟨_, rfl, -⟩
 refine nE (Ay h I ?_ ?_)
 intro E h
 refine Aq I ?_
 obtain rfl := y _ (oi h).symm
 replace h := j
 replace h := Do h
 obtain rfl := oi h
 exact nK pr
 intro E h
 refine nI (nD (Ap 2 [.k 0 (b + 1 : Nat)] I ⟨Bt n q, J⟩ ?_))
 obtain rfl := oi h
 refine nE ?_
 exact ⟨_, _, _, I, I2, J4, [], I, by decide⟩
 rintro m s ob ⟨rfl, rfl⟩ he
 subst he
 have h := Dh j
 have F := Dj a.length
 refine Aq I (Aa fun N O => Av (v := false) I F (nO ?_))
 exact lg ⟨(), h, I2⟩ []
 rintro s ob ⟨i, h, rfl, rfl⟩
 unfold P0.J1 at h
 refine Aq I ?_
 obtain rfl := oi h
 exact nK pr
theorem bL (b : List ByteArray) (F1 : T) {d : FuncId} {e f : List T} (i : Mk F1 = some (d, e, f)) (a : ByteArray → Option Bool) (j : ∀ (g : ByteArray) r, a g = some r → ACalls Am d (e ++ [.v (.string g)] ++ f) [] fun x new => x = .v (.bool r) ∧ new = []) (r : Bool) (h : M9 b a = some r) : ACalls Am 135 [.list 1 (b.map rS), F1] [] (fun x new => x = .v (.bool r) ∧ new = []) := by
 refine Ag Tryz.func135 rfl rfl rfl fun C hC => ?_
 unfold M9 at h
 refine Aq I (nH ?_)
 obtain ⟨l, k, h⟩ := Ac h
 refine nD (Af 2 I (Cg (aZ _ F1 i a j _ k) (Af 2 I (nE ?_))))
 obtain rfl := oi h
 exact nK pr
theorem cZ (a : List Segment) (F1 : T) {c : FuncId} {d e : List T} (o : Mk F1 = some (c, d, e)) (f : Segment → Option Bool) (p : ∀ (g : Segment) r, f g = some r → ACalls Am c (d ++ [.agg (Ar g)] ++ e) [] fun x new => x = .v (.bool r) ∧ new = []) (r : Int) (h : Qg a f = some r) : ACalls Am 171 [.list 7 (a.map Ar), F1] [] (fun x new => x = .V r ∧ new = []) := by
 refine Ag Tryz.func171 rfl rfl rfl fun C hC => ?_
 unfold Qg at h
 refine Aq I (Al (fun s ob => ∃ (i : Unit), Qg.J1 i = some r ∧ s = [] ∧ ob = []) [] J ?_ ?_)
 refine Bu [.l 1 (a.length : Int)] I ⟨Bh, J⟩ (nJ (Cz 6 I fun q => ?_))
 obtain ⟨G, t, j⟩ := Ac h
 clear h
 refine C1 t [(0, _), (1, _), (7, _)] J3 (fun (b : Nat) (m : Unit) s ob => s = [(8, .V (b : Int))] ∧ ob = []) ⟨I, I⟩ ⟨I, J⟩ ⟨[], I, by decide⟩ ?_ ?_
 rintro b u m H s ob w n ⟨rfl, rfl⟩ h y
 unfold Qg.B2 at h
 have A := Di n
 refine Aq I (Aa fun K B => Av (v := true) I A (nI ?_))
 subst B
 refine nH (nJ (Aq I (nH ?_)))
 obtain ⟨M, D, h⟩ := Ac h
 refine nD (Ap 5 [.x 3 b (Ar u)] I ⟨⟨I, Ah w⟩, J⟩ (nG [] I (Dq I (.refl _) o I (.rest _) I (p _ _ D) dS (by rintro _ _ ⟨rfl, _⟩; rfl) ?_)))
 rintro _ ⟨_, rfl, -⟩
 refine nE (Ay h I ?_ ?_)
 intro E h
 refine Aq I ?_
 obtain rfl := y _ (oi h).symm
 replace h := j
 replace h := Do h
 obtain rfl := oi h
 exact nK pr
 intro E h
 refine nI (nD (Ap 2 [.k 0 (b + 1 : Nat)] I ⟨Bt n q, J⟩ ?_))
 obtain rfl := oi h
 refine nE ?_
 exact ⟨_, _, _, I, I2, J4, [], I, by decide⟩
 rintro m s ob ⟨rfl, rfl⟩ he
 subst he
 have h := Dh j
 have F := Dj a.length
 refine Aq I (Aa fun N O => Av (v := false) I F (nO ?_))
 exact lg ⟨(), h, I2⟩ []
 rintro s ob ⟨i, h, rfl, rfl⟩
 unfold Qg.J1 at h
 refine Aq I ?_
 obtain rfl := oi h
 exact nK pr
theorem S0 (b : List Segment) (F1 : T) {d : FuncId} {e f : List T} (i : Mk F1 = some (d, e, f)) (a : Segment → Option Bool) (j : ∀ (g : Segment) r, a g = some r → ACalls Am d (e ++ [.agg (Ar g)] ++ f) [] fun x new => x = .v (.bool r) ∧ new = []) (r : Bool) (h : Kz b a = some r) : ACalls Am 155 [.list 7 (b.map Ar), F1] [] (fun x new => x = .v (.bool r) ∧ new = []) := by
 refine Ag Tryz.func155 rfl rfl rfl fun C hC => ?_
 unfold Kz at h
 refine Aq I (nH ?_)
 obtain ⟨l, k, h⟩ := Ac h
 refine nD (Af 2 I (Cg (cZ _ F1 i a j _ k) (Af 2 I (nE ?_))))
 obtain rfl := oi h
 exact nK pr
theorem bG (a : List Port) (F1 : T) {c : FuncId} {d e : List T} (o : Mk F1 = some (c, d, e)) (f : Port → Option Bool) (p : ∀ (g : Port) r, f g = some r → ACalls Am c (d ++ [.agg (Bj g)] ++ e) [] fun x new => x = .v (.bool r) ∧ new = []) (r : Int) (h : P3 a f = some r) : ACalls Am 172 [.list 3 (a.map Bj), F1] [] (fun x new => x = .V r ∧ new = []) := by
 refine Ag Tryz.func172 rfl rfl rfl fun C hC => ?_
 unfold P3 at h
 refine Aq I (Al (fun s ob => ∃ (i : Unit), P3.J1 i = some r ∧ s = [] ∧ ob = []) [] J ?_ ?_)
 refine Bu [.l 1 (a.length : Int)] I ⟨Bh, J⟩ (nJ (Cz 6 I fun q => ?_))
 obtain ⟨G, t, j⟩ := Ac h
 clear h
 refine C1 t [(0, _), (1, _), (7, _)] J3 (fun (b : Nat) (m : Unit) s ob => s = [(8, .V (b : Int))] ∧ ob = []) ⟨I, I⟩ ⟨I, J⟩ ⟨[], I, by decide⟩ ?_ ?_
 rintro b u m H s ob w n ⟨rfl, rfl⟩ h y
 unfold P3.B2 at h
 have A := Di n
 refine Aq I (Aa fun K B => Av (v := true) I A (nI ?_))
 subst B
 refine nH (nJ (Aq I (nH ?_)))
 obtain ⟨M, D, h⟩ := Ac h
 refine nD (Ap 5 [.x 3 b (Bj u)] I ⟨⟨I, Ah w⟩, J⟩ (nG [] I (Dq I (.refl _) o I (.rest _) I (p _ _ D) dS (by rintro _ _ ⟨rfl, _⟩; rfl) ?_)))
 rintro _ ⟨_, rfl, -⟩
 refine nE (Ay h I ?_ ?_)
 intro E h
 refine Aq I ?_
 obtain rfl := y _ (oi h).symm
 replace h := j
 replace h := Do h
 obtain rfl := oi h
 exact nK pr
 intro E h
 refine nI (nD (Ap 2 [.k 0 (b + 1 : Nat)] I ⟨Bt n q, J⟩ ?_))
 obtain rfl := oi h
 refine nE ?_
 exact ⟨_, _, _, I, I2, J4, [], I, by decide⟩
 rintro m s ob ⟨rfl, rfl⟩ he
 subst he
 have h := Dh j
 have F := Dj a.length
 refine Aq I (Aa fun N O => Av (v := false) I F (nO ?_))
 exact lg ⟨(), h, I2⟩ []
 rintro s ob ⟨i, h, rfl, rfl⟩
 unfold P3.J1 at h
 refine Aq I ?_
 obtain rfl := oi h
 exact nK pr
theorem cP (b : List Port) (F1 : T) {d : FuncId} {e f : List T} (i : Mk F1 = some (d, e, f)) (a : Port → Option Bool) (j : ∀ (g : Port) r, a g = some r → ACalls Am d (e ++ [.agg (Bj g)] ++ f) [] fun x new => x = .v (.bool r) ∧ new = []) (r : Bool) (h : Nj b a = some r) : ACalls Am 165 [.list 3 (b.map Bj), F1] [] (fun x new => x = .v (.bool r) ∧ new = []) := by
 refine Ag Tryz.func165 rfl rfl rfl fun C hC => ?_
 unfold Nj at h
 refine Aq I (nH ?_)
 obtain ⟨l, k, h⟩ := Ac h
 refine nD (Af 2 I (Cg (bG _ F1 i a j _ k) (Af 2 I (nE ?_))))
 obtain rfl := oi h
 exact nK pr
theorem Sx (a : List Station) (F1 : T) {c : FuncId} {d e : List T} (o : Mk F1 = some (c, d, e)) (f : Station → Option Bool) (p : ∀ (g : Station) r, f g = some r → ACalls Am c (d ++ [.agg (A4 g)] ++ e) [] fun x new => x = .v (.bool r) ∧ new = []) (r : Int) (h : Mp a f = some r) : ACalls Am 160 [.list 5 (a.map A4), F1] [] (fun x new => x = .V r ∧ new = []) := by
 refine Ag Tryz.func160 rfl rfl rfl fun C hC => ?_
 unfold Mp at h
 refine Aq I (Al (fun s ob => ∃ (i : Unit), Mp.J1 i = some r ∧ s = [] ∧ ob = []) [] J ?_ ?_)
 refine Bu [.l 1 (a.length : Int)] I ⟨Bh, J⟩ (nJ (Cz 6 I fun q => ?_))
 obtain ⟨G, t, j⟩ := Ac h
 clear h
 refine C1 t [(0, _), (1, _), (7, _)] J3 (fun (b : Nat) (m : Unit) s ob => s = [(8, .V (b : Int))] ∧ ob = []) ⟨I, I⟩ ⟨I, J⟩ ⟨[], I, by decide⟩ ?_ ?_
 rintro b u m H s ob w n ⟨rfl, rfl⟩ h y
 unfold Mp.B2 at h
 have A := Di n
 refine Aq I (Aa fun K B => Av (v := true) I A (nI ?_))
 subst B
 refine nH (nJ (Aq I (nH ?_)))
 obtain ⟨M, D, h⟩ := Ac h
 refine nD (Ap 5 [.x 3 b (A4 u)] I ⟨⟨I, Ah w⟩, J⟩ (nG [] I (Dq I (.refl _) o I (.rest _) I (p _ _ D) dS (by rintro _ _ ⟨rfl, _⟩; rfl) ?_)))
 rintro _ ⟨_, rfl, -⟩
 refine nE (Ay h I ?_ ?_)
 intro E h
 refine Aq I ?_
 obtain rfl := y _ (oi h).symm
 replace h := j
 replace h := Do h
 obtain rfl := oi h
 exact nK pr
 intro E h
 refine nI (nD (Ap 2 [.k 0 (b + 1 : Nat)] I ⟨Bt n q, J⟩ ?_))
 obtain rfl := oi h
 refine nE ?_
 exact ⟨_, _, _, I, I2, J4, [], I, by decide⟩
 rintro m s ob ⟨rfl, rfl⟩ he
 subst he
 have h := Dh j
 have F := Dj a.length
 refine Aq I (Aa fun N O => Av (v := false) I F (nO ?_))
 exact lg ⟨(), h, I2⟩ []
 rintro s ob ⟨i, h, rfl, rfl⟩
 unfold Mp.J1 at h
 refine Aq I ?_
 obtain rfl := oi h
 exact nK pr
theorem aS (b : List Station) (F1 : T) {d : FuncId} {e f : List T} (i : Mk F1 = some (d, e, f)) (a : Station → Option Bool) (j : ∀ (g : Station) r, a g = some r → ACalls Am d (e ++ [.agg (A4 g)] ++ f) [] fun x new => x = .v (.bool r) ∧ new = []) (r : Bool) (h : Mv b a = some r) : ACalls Am 168 [.list 5 (b.map A4), F1] [] (fun x new => x = .v (.bool r) ∧ new = []) := by
 refine Ag Tryz.func168 rfl rfl rfl fun C hC => ?_
 unfold Mv at h
 refine Aq I (nH ?_)
 obtain ⟨l, k, h⟩ := Ac h
 refine nD (Af 2 I (Cg (Sx _ F1 i a j _ k) (Af 2 I (nE ?_))))
 obtain rfl := oi h
 exact nK pr
theorem aD (a : Segment) (r : Bool) (h : Mo a = r) : ACalls Am 156 [.agg (Ar a)] [] (fun x new => x = .v (.bool r) ∧ new = []) := by
 refine Ag Tryz.func156 rfl rfl rfl fun C hC => ?_
 unfold Mo at h
 refine Aa fun d c => nD (nG [] I (nQ (cs := Ar a) (m := 7) I I I dS fun e => Af 1 I (nE ?_)))
 subst c
 refine Al (fun s ob => s = [(2, .v (.bool (decide ((a.Points.length : Int) < 2) || decide ((a.Points.length : Int) > 8))))] ∧ ob = []) [] J ?_ ?_
 refine nD (Ap 5 [.o 1 0, .l 2 (a.Points.length : Int)] I ⟨Bh, I, J⟩ ?_)
 rcases bt (decide ((a.Points.length : Int) < 2)) with b | b
 refine Ad 7 I b (Af 6 I (nE ?_))
 exact lf I2 ⟨(Dz (by simp only [b, bz])), J⟩ [] I
 refine Ad 7 I b (Ap 6 [.o 1 0, .l 2 (a.Points.length : Int)] I ⟨Bh, I, J⟩ (nE ?_))
 exact lf I2 ⟨(Dz (by simp only [b, bz])), J⟩ [] I
 rintro s ob ⟨rfl, rfl⟩
 obtain rfl := h
 exact nK pr
theorem bI (a : Network) (r : Bool) (h : T8 a = some r) : ACalls Am 133 [.agg (Ab a)] [] (fun x new => x = .v (.bool r) ∧ new = []) := by
 refine Ag Tryz.func133 rfl rfl rfl fun C hC => ?_
 unfold T8 at h
 refine Aa fun k g => nD (nG [] I (nQ (cs := Ab a) (m := 6) I I I dS fun n => Af 1 I (nE ?_)))
 subst g
 refine nH (Dt 30 (decide ((a.Nodes.length : Int) < 1) || (decide ((a.Nodes.length : Int) > 24) || (decide ((a.Segments.length : Int) > 32) || (decide ((a.Ports.length : Int) > 24) || decide ((a.Stations.length : Int) > 12))))) ?_ ?_)
 refine nD (Ap 5 [.o 1 0, .l 2 (a.Nodes.length : Int)] I ⟨Bh, I, J⟩ ?_)
 rcases bt (decide ((a.Nodes.length : Int) < 1)) with b | b
 refine Ad 7 I b (Af 23 I (nE ?_))
 exact jf (by simp only [b, bz]) I I I2
 refine Ad 7 I b (Ap 6 [.o 1 0, .l 2 (a.Nodes.length : Int)] I ⟨Bh, I, J⟩ ?_)
 rcases bt (decide ((a.Nodes.length : Int) > 24)) with d | d
 refine Ad 13 I d (Af 17 I (nE ?_))
 exact jf (by simp only [b, d, bz]) I I I2
 refine Ad 13 I d (Ap 6 [.o 1 0, .l 2 (a.Segments.length : Int)] I ⟨Bh, I, J⟩ ?_)
 rcases bt (decide ((a.Segments.length : Int) > 32)) with e | e
 refine Ad 19 I e (Af 11 I (nE ?_))
 exact jf (by simp only [b, d, e, bz]) I I I2
 refine Ad 19 I e (Ap 6 [.o 1 0, .l 2 (a.Ports.length : Int)] I ⟨Bh, I, J⟩ ?_)
 rcases bt (decide ((a.Ports.length : Int) > 24)) with f | f
 refine Ad 25 I f (Af 5 I (nE ?_))
 exact jf (by simp only [b, d, e, f, bz]) I I I2
 refine Ad 25 I f (Ap 5 [.o 1 0, .l 2 (a.Stations.length : Int)] I ⟨Bh, I, J⟩ (nE ?_))
 exact jf (by simp only [b, d, e, f, bz]) I I I2
 refine Ay h I ?_ ?_
 intro i h
 refine Aq I (nM g0 ?_)
 obtain rfl := oi h
 exact nK pr
 intro i h
 refine nI (nH ?_)
 obtain ⟨p, j, h⟩ := Ac h
 refine nD (Ap 2 [.o 1 0] I J1 (Cg (S0 _ (.v (.func (.func 156) #[] #[])) I (fun x => some (Mo x)) (fun x r h => by obtain I := oi h; exact aD x _ I) _ j) (Af 2 I (nE (nM g0 ?_)))))
 obtain rfl := oi h
 exact nK pr
theorem aU (b : Network) (g : Plan) (r : List Int) (h : Py b g = some r) : ACalls Am 132 [.agg (Ab b), .agg (As g)] [] (fun x new => ∃ (P : Value), x = .v P ∧ new = [.us P 3 1 (r.map rI)]) := by
 refine Ag Tryz.func132 rfl rfl rfl fun C hC => ?_
 unfold Py at h
 refine Aa fun y1 ab => nD (nG [] I (nQ (cs := Ab b) (m := 6) I I I dS fun n => nG [] I (nQ (cs := As g) (m := 3) I I I dS fun p => Af 1 I (nE ?_))))
 subst ab
 refine AW.scope (Aq I (Aa fun y5 ac => ?_))
 obtain ⟨l6, ⟨m8, ad, ae, af⟩, h⟩ := Hx h
 refine nD (Ap 3 [.o 1 0, .l 2 (b.Nodes.length : Int)] I ⟨Bh, I, J⟩ (nG [] I (A3 (sz := 1) I I I I I I I I I I ad ae (Be (f := rB) af I) dS fun u => Af 1 I (nE ?_))))
 subst ac
 refine Aa fun ba ag => AW.label ?_
 subst ag
 refine Al (fun s ob => ∃ (E : List Int) (w : Value), Py.J1 E = some r ∧ s = [(5, .v w)] ∧ ob = [.us w 3 1 (E.map rI)]) [] J ?_ ?_
 refine Aq I (nJ (nM (Bo 3 1) ?_))
 obtain ⟨bb, ah, ai⟩ := Ac h
 clear h
 refine Bz ah [(2, _), (3, _), (6, _)] J3 (fun (a : (List Int) × (List Bool) × Int) s ob => ∃ (e : Value), s = [(5, .v e), (7, .V a.2.2)] ∧ ob = [.arr n 32 6 1 [Ab b], .arr p 37 3 1 [As g], .us u 4 1 (a.2.1.map rB), .us e 3 1 (a.1.map rI)]) ⟨(.slice none 0 0), I2⟩ ⟨I, I, J⟩ ⟨[0, 1, 2, 3], I, by decide⟩ ?_
 rintro a Q s ob ⟨e, rfl, rfl⟩ h aj
 unfold Py.B2 at h
 refine Aa fun bc ak => Bu [.o 2 0, .l 3 (b.Nodes.length : Int)] I ⟨Bh, I, J⟩ (Ay h I ?_ ?_)
 intro al h
 refine nI ?_
 subst ak
 refine Al (fun s ob => ∃ (A : (List Int) × (List Bool) × Int) (F : Value), Py.J3 A = some Q ∧ s = [(5, .v F), (7, .V A.2.2)] ∧ ob = [.arr n 32 6 1 [Ab b], .arr p 37 3 1 [As g], .us u 4 1 (A.2.1.map rB), .us F 3 1 (A.1.map rI)]) [(2, _), (3, _), (6, _)] J3 ?_ ?_
 refine nJ (Aa fun bd am => nH ?_)
 obtain ⟨i, ⟨R, G⟩, h⟩ := Bk h
 refine nD (Af 2 I (nS (Bi 2 (m := i.1) I I I I I I I R (Ah G)) I (nS (Ba 2 i.1 0 I I I (Ah G) I (y := .v (.bool i.2)) I) I (nE (Ay h I ?_ ?_)))))
 intro an h
 refine nO ?_
 exact lg ⟨(a.1, a.2.1, a.2.2), e, h, I2⟩ [0, 1, 2, 3]
 intro an h
 refine nI ?_
 subst am
 refine Al (fun s ob => ∃ (S : Unit), Py.J4 a i S = some Q ∧ s = [] ∧ ob = [.arr n 32 6 1 [Ab b], .arr p 37 3 1 [As g], .us u 4 1 (a.2.1.map rB), .us e 3 1 (a.1.map rI)]) [(2, _), (3, _), (5, _), (6, _), (7, _)] J5 ?_ ?_
 refine Bu [.o 1 0, .l 2 (b.Segments.length : Int)] I ⟨Bh, I, J⟩ (nJ (Cz 28 I fun ao => ?_))
 obtain ⟨be, aq, U⟩ := Ac h
 clear h
 refine C1 aq [(2, _), (3, _), (5, _), (6, _), (7, _), (28, _), (29, _)] J7 (fun (H : Nat) (W : Unit) s ob => s = [(30, .V (H : Int))] ∧ ob = [.arr n 32 6 1 [Ab b], .arr p 37 3 1 [As g], .us u 4 1 (a.2.1.map rB), .us e 3 1 (a.1.map rI)]) ⟨I, I⟩ ⟨I, J⟩ ⟨[0, 1, 2, 3], I, by decide⟩ ?_ ?_
 rintro H K W ar s ob au X ⟨rfl, rfl⟩ h av
 unfold Py.B5 at h
 have aw := Di X
 refine Aq I (Aa fun bf ax => Av (v := true) I aw (nI ?_))
 subst ax
 refine nH (nJ (Aa fun bg ay => nD (Ap 3 [.x 1 H (Ar K)] I ⟨⟨I, Ah au⟩, J⟩ (nG [] I (nN (cs := [.v (.string ⟨#[]⟩), .V 0, .V 0, .V 0, .V 0, .V 0, .N]) (m := 7) I I I I I dS fun bh => Af 1 I (nG [4] I (Ax 4 0 0 [Ar K] I (nE ?_))))))))
 subst ay
 refine Aa fun bi az => ?_
 obtain ⟨j, ⟨Y, Z⟩, h⟩ := Bk h
 refine Bw (pd 12 0 [6]) [4, 1] [_, _] I (By 6 [.o 0 0, .o 2 1, .x 4 j.1 (rI j.2)] I ⟨⟨Y, Ah Z⟩, I, I, J⟩ (Ee I (aQ K j.2 _ I) (Bm 5 I (Ak (nE ?_)))))
 subst az
 refine Al (fun s ob => ∃ (O : Bool), Py.J6 a O = some ar ∧ s = [(62, .v (.bool O))] ∧ ob = [.arr n 32 6 1 [Ab b], .arr p 37 3 1 [As g], .us u 4 1 (a.2.1.map rB), .us e 3 1 (a.1.map rI)]) [(2, _), (3, _), (5, _), (6, _), (7, _), (28, _), (29, _), (30, _)] J8 ?_ ?_
 refine nD (Ap 7 [.o 1 1, .x 3 j.1 (rI j.2)] I ⟨⟨Y, Ah Z⟩, I, J⟩ ?_)
 rcases bt ((j.2 != 0)) with B | B
 replace h := B0 B h
 refine Ad 51 I B ?_
 rcases bt ((((Ef K j.2).2) == a.2.2)) with D | D
 replace h := B0 D h
 obtain ⟨M, ⟨a0, aa⟩, h⟩ := Bk h
 refine Af 5 I (Ad 56 I D (Af 2 I (Br I I I (nS (Bi 2 (m := M.1) I I I I I I I a0 (Ah aa)) I (Br I I I (nS (Ba 2 M.1 0 I I I (Ah aa) I (y := .v (.bool M.2)) I) I (Af 2 I (nE ?_))))))))
 exact lg ⟨(!M.2), h, I2⟩ [0, 1, 2, 3]
 replace h := Ca D h
 refine Af 5 I (Ad 56 I D (Af 6 I (nE ?_)))
 exact lg ⟨false, h, I2⟩ [0, 1, 2, 3]
 replace h := Ca B h
 refine Ad 51 I B (Af 11 I (nE ?_))
 exact lg ⟨false, h, I2⟩ [0, 1, 2, 3]
 rintro s ob ⟨O, h, rfl, rfl⟩
 unfold Py.J6 at h
 refine Ay h I ?_ ?_
 intro a1 h
 obtain rfl := av _ (oi h).symm
 replace h := U
 replace h := Do h
 refine nO ?_
 exact lg ⟨(a.1, a.2.1, a.2.2), e, h, I2⟩ [0, 1, 2, 3]
 intro a1 h
 refine nI (nD (Ap 2 [.k 0 (H + 1 : Nat)] I ⟨Bt X ao, J⟩ ?_))
 obtain rfl := oi h
 refine nE ?_
 exact ⟨_, _, _, I, I2, J8, [0, 1, 2, 3], I, by decide⟩
 rintro W s ob ⟨rfl, rfl⟩ he
 subst he
 have h := Dh U
 have a2 := Dj b.Segments.length
 refine Aq I (Aa fun bj bk => Av (v := false) I a2 (nO ?_))
 exact lg ⟨(), h, I2⟩ [0, 1, 2, 3]
 rintro s ob ⟨S, h, rfl, rfl⟩
 unfold Py.J4 at h
 refine nH (nD (Af 2 I (nS (Bi 2 (m := i.1) I I I I I I I R (Ah G)) I (nG [2] I (Ci 2 i.1 0 I I I (Ah G) I I I I (Bs I) I (Dp (x := true) I) (nE (nH ?_)))))))
 obtain ⟨a3, a4, h⟩ := Ac h
 refine nD (Af 2 I (nG [] I (nR 1 (([a.2.2] : List Int).map rI) (nG [3] I (Bf 3 I a4 fun a5 => Af 1 I (nE (Pd I ?_)))))))
 exact lg ⟨(a3, (a.2.1.set i.1 true), (-1)), a5, h, I2⟩ [0, 1, 2, 3]
 rintro s ob ⟨A, F, h, rfl, rfl⟩
 unfold Py.J3 at h
 refine nD (Af 3 I ?_)
 obtain rfl := oi h
 refine nE ?_
 exact ⟨_, _, _, I, ⟨F, I2⟩, J5, [0, 1, 2, 3], I, by decide⟩
 intro al h
 obtain rfl := aj _ (oi h).symm
 replace h := ai
 refine nO ?_
 exact lg ⟨a.1, e, h, I2⟩ [3]
 rintro s ob ⟨E, w, h, rfl, rfl⟩
 unfold Py.J1 at h
 refine Aq I ?_
 obtain rfl := oi h
 exact nK ⟨.inr I, [_], [.us w 3 1 (E.map rI)], J1, Dn I (Cf), ⟨w, I2⟩⟩
end Go.Proofs.YtmaamhgjeampmaaGreat
