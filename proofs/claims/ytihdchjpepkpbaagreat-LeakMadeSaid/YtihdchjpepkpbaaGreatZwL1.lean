/- Walks that show what functions of the program compute; printed by a program of ours. No condition. -/
import Derived.Test.YtihdchjpepkpbaaGreatZwL0
import Derived.Test.YtihdchjpepkpbaaGreatZwB3
import Derived.Test.YtihdchjpepkpbaaGreatZwD
import Derived.Test.YtihdchjpepkpbaaGreatZwB2
set_option maxRecDepth 100000
namespace Go.Proofs.YtihdchjpepkpbaaGreat
open Go.Aw
set_option linter.unusedVariables false
set_option linter.unusedSimpArgs false
set_option maxHeartbeats 4000000
theorem Xy (a : List Li) (F1 : T) {c : FuncId} {d e : List T} (o : I8 F1 = some (c, d, e)) (f : Li → Option Bool) (p : ∀ (g : Li) r, f g = some r → ACalls Ah c (d ++ [Q0 g] ++ e) [] (RB r)) (r : Int) (h : Qh a f = some r) : ACalls Ah 150 [.list 1 (a.map (rL 1 rI)), F1] [] (RV (.V r)) := by
 refine Ad Tryz.func150 I I I fun C hC => ?_
 unfold Qh at h
 refine Ag I (Aj (fun s ob => ∃ (i : Unit), Qh.J1 i = some r ∧ s = [] ∧ ob = []) [] J ?_ ?_)
 refine A8 [.l 1 (a.length : Int)] I ⟨Ax, J⟩ (gV (Cu 6 I fun q => ?_))
 obtain ⟨G, t, j⟩ := Aa h
 refine Ca t [(0, _), (1, _), (7, _)] J3 (fun (b : Nat) (m : Unit) s ob => s = [(8, .V (b : Int))] ∧ ob = []) ⟨I, I⟩ ⟨I, J⟩ ⟨[], I, by decide⟩ ?_ ?_
 rintro b u m H s ob w n ⟨rfl, rfl⟩ h y
 have A := Dr n
 refine Ag I (Ab fun K B => Bw I A (gU ?_))
 subst B
 refine gT (gV (Ag I (gT ?_)))
 obtain ⟨M, D, h⟩ := Aa h
 refine gQ (Aq 5 [.x 3 b ((rL 1 rI) u)] I ⟨⟨I, Al w⟩, J⟩ (gS [] I (Cw I (.refl _) o I (.rest _) I (p _ _ D) dS (by rintro _ _ ⟨rfl, _⟩; rfl) ?_)))
 rintro _ ⟨_, rfl, -⟩
 refine gR (An h I ?_ ?_)
 intro E h
 refine Ag I ?_
 obtain rfl := y _ (oi h).symm
 have h := j
 have h := Dm h
 cases io h
 exact gW pr
 intro E h
 refine gU (gQ (Aq 2 [.k 0 (b + 1 : Nat)] I ⟨A4 n q, J⟩ ?_))
 cases io h
 exact gR ⟨_, _, _, I, I2, J4, [], I, by decide⟩
 rintro m s ob ⟨rfl, rfl⟩ he
 subst he
 have h := Dl j
 have F := Ds a.length
 exact Ag I (Ab fun N O => Bx I F (gZ (lg ⟨(), h, I2⟩ [])))
 rintro s ob ⟨i, h, rfl, rfl⟩
 unfold Qh.J1 at h
 refine Ag I ?_
 cases io h
 exact gW pr
theorem Xn (b : List Li) (F1 : T) {d : FuncId} {e f : List T} (i : I8 F1 = some (d, e, f)) (a : Li → Option Bool) (j : ∀ (g : Li) r, a g = some r → ACalls Ah d (e ++ [Q0 g] ++ f) [] (RB r)) (r : Bool) (h : Me b a = some r) : ACalls Ah 84 [.list 1 (b.map (rL 1 rI)), F1] [] (RB r) := by
 refine Ad Tryz.func84 I I I fun C hC => ?_
 refine Ag I (gT ?_)
 obtain ⟨l, k, h⟩ := Aa h
 refine gQ (Ac 2 I (hG (Xy _ F1 i a j _ k) (Ac 2 I (gR ?_))))
 cases io h
 exact gW pr
theorem Xe (a : Li) (r : Bool) (h : G1 a = r) : ACalls Ah 85 [Q0 a] [] (RB r) := by
 refine Ad Tryz.func85 I I I fun C hC => ?_
 unfold G1 at h
 refine Ag I (A8 [.l 1 (a.length : Int)] I ⟨Ax, J⟩ ?_)
 obtain rfl := h
 exact gW pr
theorem Ww (a : Li) (r : Li) (h : P8 a = some r) : ACalls Ah 86 [Q0 a] [] (fun x new => ∃ (b : Value), x = .v b ∧ new = [U0 b r]) := by
  refine Ad Tryz.func86 rfl rfl rfl (fun C hC => ?_)
  unfold P8 at h
  obtain ⟨e, d⟩ := Du h
  refine gT ?_
  refine gQ ?_
  refine Bn (Yp.assign rfl) rfl ?_
  refine gR ?_
  refine gT ?_
  refine gT ?_
  refine gQ ?_
  refine Bn (Yp.move rfl) rfl ?_
  refine gS [] rfl (bH rfl rfl rfl (Be rfl) fun c hc => ?_)
  refine gR ?_
  refine AW.cond rfl rfl ?_ ?_
  · intro hb
    have hs : a = [] := by have := hc hb; simpa using this
    subst hs
    refine gT ?_
    refine gQ ?_
    refine Bn (Yp.assign rfl) rfl ?_
    refine iE (Ay 3 1) ?_
    refine gR ?_
    refine gW ?_
    have hr : r = [] := by simpa using d.symm
    subst hr
    exact ⟨.inr rfl, [_], [.us (.slice none 0 0) 3 1 ([].map rI)], ⟨rfl, J⟩, Dt rfl Cd, ⟨_, rfl, rfl⟩⟩
  · intro hb
    refine gU ?_
    refine gT ?_
    refine gQ ?_
    refine gS [] rfl (hT (sz := 1) (es := []) rfl rfl rfl rfl rfl rfl rfl rfl rfl rfl rfl (Be rfl) fun g => ?_)
    refine Bn (Yp.move rfl) rfl ?_
    refine gS [0] rfl (Gj 0 (es' := r.map rI) rfl rfl rfl rfl rfl rfl rfl rfl rfl (AppSrc.list rfl) (by simpa using e) (by rw [← d]; simp) (Be rfl) fun f => ?_)
    refine Bn (Yp.assign rfl) rfl ?_
    refine gR ?_
    refine gW ?_
    exact ⟨.inr rfl, [_], [U0 f r], ⟨rfl, J⟩, Dt rfl Cd, ⟨_, rfl, rfl⟩⟩
theorem W5 (b : Value) (e : Li) (F1 : T) {n : FuncId} {o p : List T} (u : I8 F1 = some (n, o, p)) (i : Int → Option Bool) (w : ∀ (A : Int) r, i A = some r → ACalls Ah n (o ++ [.V A] ++ p) [] (RB r)) (r : Li) (h : L3 e i = some r) : ACalls Ah 87 [.v b, F1] [U0 b e] (Er 1 fun x os new => ∃ (B : Value), x = .v B ∧ os = [.us (.slice none 0 0) 3 1 ([].map rI)] ∧ new = [U0 B r]) := by
 refine Ad Tryz.func87 I I I fun C hC => ?_
 refine Ag I (Ab fun y2 G => ?_)
 obtain ⟨r3, H, h⟩ := Aa h
 refine gQ (Ac 2 I (gS [] I (Cw I (.refl _) I I (.cons (.us 0 I) (.rest _)) I (Pt _ F1 u i w _ H) dS (by rintro _ _ ⟨rfl, _⟩; rfl) ?_)))
 rintro _ ⟨_, rfl, -⟩
 refine Ac 1 I (gR ?_)
 subst G
 refine Ab fun y5 K => Ag I (An h I ?_ ?_)
 intro M h
 refine Ag I (gY (Ay 3 1) (F2 [1, 0] I ?_))
 obtain rfl := oi h
 exact gW ⟨.inr I, [_], [.us (.slice none 0 0) 3 1 ([].map rI), U0 b e], J1, Dt I (Dt I (Cd)), ⟨[.us (.slice none 0 0) 3 1 ([].map rI)], [U0 b e], I, I, b, I3⟩⟩
 intro M h
 refine gU ?_
 subst K
 refine Aj (fun s ob => ∃ (f : Li × Int), L3.J1 f = some r ∧ s = [(5, .V f.2)] ∧ ob = [U0 b f.1]) [(0, _)] J1 ?_ ?_
 refine Ag I (gV ?_)
 obtain ⟨af, N, O⟩ := Aa h
 refine A5 N [(0, _), (1, _)] J2 (fun (a : Li × Int × Int) s ob => s = [(5, .V a.2.1), (6, .V a.2.2)] ∧ ob = [U0 b a.1]) ⟨I, I⟩ ⟨I, I, J⟩ ⟨[0], I, by decide⟩ ?_
 rintro a P s ob ⟨rfl, rfl⟩ h Q
 refine Ab fun ag R => gT (gQ (Ac 2 I (hM (B0 0 I I I I) I (Ac 1 I (gR (An h I ?_ ?_))))))
 intro S h
 refine gU ?_
 subst R
 refine Aj (fun s ob => ∃ (g : Li × Int), L3.J3 a g = some P ∧ s = [(5, .V g.2)] ∧ ob = [U0 b g.1]) [(0, _), (1, _), (6, _)] J3 ?_ ?_
 refine gV (Ab fun ah U => ?_)
 obtain ⟨c, ⟨W, D⟩, h⟩ := Bh h
 refine gQ (Ac 2 I (hM (Dd 0 (m := c.1) I I I I I I I W (Al D)) I (hM (Dv 0 c.1 0 I I I (Al D) I (y := .V c.2) I) I (Ac 1 I (gR ?_)))))
 subst U
 refine gT ?_
 obtain ⟨ai, X, h⟩ := Aa h
 refine gQ (Ac 2 I (gS [] I (Cw I (.refl _) u I (.rest _) I (w _ _ X) dS (by rintro _ _ ⟨rfl, _⟩; rfl) ?_)))
 rintro _ ⟨_, rfl, -⟩
 refine Ac 1 I (gR (An h I ?_ ?_))
 intro Y h
 refine gT ?_
 obtain ⟨j, ⟨Z, E⟩, h⟩ := Bh h
 exact gQ (Ac 3 I (hM (Dd 0 (m := j.1) I I I I I I I Z (Al E)) I (gS [0] I (De 0 j.1 0 I I I (Al E) I I I I (A9 I) I (Ew (x := c.2) I) (gR (N2 I (lg ⟨((a.1.set j.1 c.2), wr (a.2.1 + 1)), h, I2⟩ [0])))))))
 intro Y h
 exact gU (lg ⟨(a.1, a.2.1), h, I2⟩ [0])
 rintro s ob ⟨g, h, rfl, rfl⟩
 unfold L3.J3 at h
 refine gQ (Ac 3 I ?_)
 cases io h
 exact gR ⟨_, _, _, I, I2, J4, [0], I, by decide⟩
 intro S h
 obtain rfl := Q _ (oi h).symm
 have h := O
 exact gZ (lg ⟨(a.1, a.2.1), h, I2⟩ [0])
 rintro s ob ⟨f, h, rfl, rfl⟩
 refine gT ?_
 obtain ⟨F, k, h⟩ := Aa h
 refine gQ (Ac 2 I (gS [] I (bF 0 I k fun aj aa => gS [0] I (Yq 0 I k aa fun ak ab => gR (gT (gQ (Ac 2 I (gS [0] I (dI 0 I k ab fun l => Ac 1 I (gR (gY (Ay 3 1) (F2 [1, 0] I ?_))))))))))))
 obtain rfl := oi h
 exact gW ⟨.inr I, [_], [.us (.slice none 0 0) 3 1 ([].map rI), U0 l F], J1, Dt I (Dt I (Cd)), ⟨[.us (.slice none 0 0) 3 1 ([].map rI)], [U0 l F], I, I, l, I3⟩⟩
theorem Xa (a : Li) (b : Int) (r : Bool) (h : L7 a b = some r) : ACalls Ah 89 [Q0 a, .V b] [] (RB r) := by
 refine Ad Tryz.func89 I I I fun C hC => ?_
 refine Ag I (gT ?_)
 obtain ⟨e, d, h⟩ := Aa h
 refine gQ (Ac 2 I (hG (Xp _ _ _ d) (Ac 2 I (gR ?_))))
 cases io h
 exact gW pr
theorem Yg (a : Int) (b : Li) (r : Bool) (h : Mv a b = some r) : ACalls Ah 88 [.V a, .eptr ((rL 1 rI) b)] [] (RB r) := by
 refine Ad Tryz.func88 I I I fun C hC => ?_
 refine Ag I (gT ?_)
 obtain ⟨e, d, h⟩ := Aa h
 refine gQ (Ac 2 I (hG (Xa _ _ _ d) (Ac 2 I (gR ?_))))
 cases io h
 exact gW pr
theorem X9 (a : Value) (b : Li) (r : Li) (h : Ql b = some r) : ACalls Ah 90 [.v a] [U0 a b] (Er 1 fun x os new => x = .tup [] ∧ os = [U0 a r] ∧ new = []) := by
  unfold Ql at h
  cases io h
  rw [← Ol]
  exact Rq ⟨_, Tryz.func90, rfl, rfl⟩ (fun Fi off cap zs w c d e => Go.Proofs.Tryz.slices_Sort_int Fi off cap zs w c d e) (.inr Go.Proofs.Tryz.sort_nil)
theorem Ym (a : Value) (b : Li) (r : Li) (h : Qp b = some r) : ACalls Ah 91 [.v a] [U0 a b] (Er 1 fun x os new => ∃ (c : Value), x = .v c ∧ os = [.us (.slice none 0 0) 3 1 ([].map rI)] ∧ new = [U0 c r]) := by
  unfold Qp at h
  cases io h
  exact Lm ⟨_, Tryz.func91, rfl, rfl⟩ (fun Fi off cap zs w d e f => Go.Proofs.Tryz.slices_Compact_int Fi off cap zs w d e f) (.inr Go.Proofs.Tryz.compact_nil)
theorem Xb (b : List Li) (i : List Bool) (r : Li × Int) (h : Gz b i = some r) : ACalls Ah 35 [.list 1 (b.map (rL 1 rI)), Q6 i] [] (fun x new => ∃ (y : Value), x = .tup [.v y, .V r.2] ∧ new = [U0 y r.1]) := by
 refine Ad Tryz.func35 I I I fun C hC => ?_
 refine Ag I (Ab fun y2 E => A8 [.l 1 (i.length : Int), .l 3 (b.length : Int)] I ⟨Ax, Ax, J⟩ (An h I ?_ ?_))
 intro F h
 refine Ag I (gY (Ay 3 1) ?_)
 cases io h
 exact gW ⟨.inr I, [_, _], [.us (.slice none 0 0) 3 1 ([].map rI)], J2, Dt I (Cd), ⟨(.slice none 0 0), I2⟩⟩
 intro F h
 refine gU ?_
 subst E
 refine Ab fun y4 G => Aj (fun s ob => ∃ (u : Bool), Gz.J1 b i u = some r ∧ s = [(21, .v (.bool u))] ∧ ob = []) [(0, _), (1, _)] J2 ?_ ?_
 refine gQ (Aq 4 [.l 1 (b.length : Int)] I ⟨Ax, J⟩ ?_)
 rcases bt (decide ((b.length : Int) > 64)) with f | f
 have h := Bc f h
 exact Ae 18 I f (Ac 3 I (gR (lg ⟨true, h, I2⟩ [])))
 have h := Bd f h
 obtain ⟨H, M, h⟩ := Aa h
 exact Ae 18 I f (Ac 1 I (Bg I I I (hG (Xn _ (.v (.func (.func 85) #[] #[])) I (fun x => some (G1 x)) (fun x r h => by obtain I := oi h; exact Xe x _ I) _ M) (Ac 1 I (gR (lg ⟨H, h, I2⟩ []))))))
 rintro s ob ⟨u, h, rfl, rfl⟩
 refine An h I ?_ ?_
 intro O h
 refine Ag I (gY (Ay 3 1) ?_)
 cases io h
 exact gW ⟨.inr I, [_, _], [.us (.slice none 0 0) 3 1 ([].map rI)], J2, Dt I (Cd), ⟨(.slice none 0 0), I2⟩⟩
 intro O h
 refine gU ?_
 subst G
 refine Ag I (Ag I (Aj (fun s ob => ∃ (w : Li) (g : Value), Gz.J2 w = some r ∧ s = [(6, .v g)] ∧ ob = [U0 g w]) [] J ?_ ?_))
 refine A8 [.l 1 (b.length : Int)] I ⟨Ax, J⟩ (gV (Cu 22 I fun P => gY (Ay 3 1) ?_))
 obtain ⟨ar, Q, R⟩ := Aa h
 refine Dx Q [(1, _), (22, _), (23, _)] J3 (fun (j : Nat) (a : Li × Bool) s ob => ∃ (d : Value), s = [(24, .V (j : Int)), (6, .v d), (7, .v (.bool a.2))] ∧ ob = [U0 d a.1]) ⟨(.slice none 0 0), I2⟩ ⟨I, I, I, J⟩ ⟨[0], I, by decide⟩ ?_ ?_
 rintro j e a S s ob U A ⟨d, rfl, rfl⟩ h
 unfold Gz.B3 at h
 have W := Dr A
 refine Ag I (Ab fun au X => Bw I W (gU ?_))
 subst X
 refine Aj (fun s ob => ∃ (n : Li × Bool) (t : Value), Gz.J4 n = some S ∧ s = [(6, .v t), (7, .v (.bool n.2))] ∧ ob = [U0 t n.1]) [(1, _), (22, _), (23, _), (24, _)] J4 ?_ ?_
 refine gV (Ab fun av Y => gQ (Aq 3 [.x 1 j ((rL 1 rI) e)] I ⟨⟨I, Al U⟩, J⟩ (gS [] I (Cl [.N] 1 fun Z => Ac 1 I (gS [1] I (Bo 1 0 0 [[Q0 e]] I (gR ?_)))))))
 subst Y
 refine Ab fun aw aa => gT ?_
 obtain ⟨B, ⟨ab, ac⟩, h⟩ := Bh h
 refine Gn [.x 2 B.1 (rB B.2)] I ⟨⟨ab, Al ac⟩, J⟩ (An h I ?_ ?_)
 intro ad h
 exact gZ (lg ⟨(a.1, a.2), d, h, I2⟩ [0])
 intro ad h
 refine gU ?_
 subst aa
 refine gT (Ag I (An h I ?_ ?_))
 intro ae h
 refine gT ?_
 obtain ⟨af, ag, h⟩ := Aa h
 refine gQ (Aq 1 [.o 0 1] I J1 (gS [] I (Dh I I I (Ww _ _ ag) dS ?_)))
 rintro _ _ ⟨ah, rfl, rfl⟩
 exact Ac 2 I (gR (gZ (lg ⟨(af, false), ah, h, I2⟩ [2])))
 intro ae h
 refine gU ?_
 obtain ⟨ai, aj, h⟩ := Aa h
 refine gQ (Ac 1 I (Bn (Yp.makeFunc I I) I (iE (Bi [1] (K := [.arr Z 22 1 1 [[Q0 e]]]) I [(38, .fn 88 [] [.eptr ((rL 1 rI) e)])] ⟨⟨_, I, .fn (.rest _) (.cons (.box 0 I (.rest _)) (.rest _))⟩, J⟩ (ob' := [U0 d a.1]) (.rest _)) (gS [0] I (E7 [0] (W5 d _ (.fn 88 [] [.eptr ((rL 1 rI) e)]) I (fun x => Mv x e) (fun x r h => Yg x e r h) _ aj) ?_)))))
 rintro _ _ _ - ⟨ak, rfl, rfl, rfl⟩
 exact Ac 1 I (gR (lg ⟨(ai, a.2), ak, h, I2⟩ [1]))
 rintro s ob ⟨n, t, h, rfl, rfl⟩
 unfold Gz.J4 at h
 refine gQ (Aq 2 [.k 0 (j + 1 : Nat)] I ⟨A4 A P, J⟩ ?_)
 cases io h
 exact gR (lg ⟨t, I2⟩ [0])
 rintro a s ob ⟨d, rfl, rfl⟩ he
 subst he
 have h := R
 have al := Ds b.length
 exact Ag I (Ab fun ax ay => Bx I al (gZ (lg ⟨a.1, d, h, I2⟩ [0])))
 rintro s ob ⟨w, g, h, rfl, rfl⟩
 refine gT ?_
 obtain ⟨az, am, h⟩ := Aa h
 refine gQ (Ac 1 I (gS [0] I (Ar [0] (X9 g _ _ am) ?_)))
 refine gR (gT ?_)
 obtain ⟨an, ao, h⟩ := Aa h
 refine gQ (Ac 1 I (gS [0] I (E7 [0] (Ym g _ _ ao) ?_)))
 rintro _ _ _ - ⟨D, rfl, rfl, rfl⟩
 refine Ac 2 I (gR (F2 [1] I ?_))
 cases io h
 exact gW ⟨.inr I, [_, _], [U0 D an], J2, Dt I (Cd), ⟨D, I2⟩⟩
theorem Xo (a : Sg) (b : Sg) (l : List Bool) (r : Bool) (h : Mf a b l = some r) : ACalls Ah 80 [.agg (Ao a), .agg (Ao b), Q6 l] [] (RB r) := by
 refine Ad Tryz.func80 I I I fun C hC => ?_
 unfold Mf at h
 refine Ab fun W D => gQ (gS [] I (Ck (Ao a) 7 fun X => gS [] I (Ck (Ao b) 7 fun n => Ac 1 I (gR ?_))))
 subst D
 refine Aj (fun s ob => ∃ (p : Unit), Mf.J1 p = some r ∧ s = [] ∧ ob = []) [] J ?_ ?_
 refine Ab fun Y E => gQ (Aq 4 [.o 1 0, .o 3 0] I J2 (gS [] I (hT (sz := 1) (es := ([a.From, a.To] : Li).map rI) I I I I I I I I I I I dS fun t => hM (B0 2 I I I I) I (Ac 1 I (gR ?_)))))
 subst E
 refine gV (fU 2 I fun F => ?_)
 obtain ⟨Z, G, u⟩ := Aa h
 refine Ff G [(2, _), (4, _), (13, _), (14, _)] J4 (fun (g : Nat) (w : Unit) s ob => s = [(15, .V (g : Int))] ∧ ob = [O3 n [Ao b], .us t 3 1 (([a.From, a.To] : Li).map rI)]) ⟨I, I⟩ ⟨I, J⟩ ⟨[1, 2], I, by decide⟩ ?_ ?_
 rintro g w H s ob A ⟨rfl, rfl⟩ h K
 have M := Dr A
 refine Ag I (Ab fun aa N => Bw I M (gU ?_))
 subst N
 refine gT (gV (Ab fun ab O => ?_))
 obtain ⟨c, ⟨P, B⟩, h⟩ := Bh h
 refine gQ (hM (Dd 1 (m := c.1) I I I I I I I P (Al B)) I (hM (Dv 1 c.1 0 I I I (Al B) I (y := .V c.2) I) I (Ac 1 I (gR ?_))))
 subst O
 refine Aj (fun s ob => ∃ (i : Bool), Mf.J3 i = some H ∧ s = [(35, .v (.bool i))] ∧ ob = [O3 n [Ao b], .us t 3 1 (([a.From, a.To] : Li).map rI)]) [(2, _), (4, _), (13, _), (14, _), (15, _)] J5 ?_ ?_
 obtain ⟨j, ⟨Q, R⟩, h⟩ := Bh h
 refine gQ (Aq 6 [.x 2 j.1 (rB j.2)] I ⟨⟨Q, Al R⟩, J⟩ ?_)
 rcases bt ((!j.2)) with e | e
 have h := Bc e h
 refine Ae 24 I e (Aq 5 [.o 2 0] I J1 ?_)
 rcases bt ((c.2 == b.From)) with f | f
 have h := Bc f h
 exact Ae 29 I f (Ac 6 I (gR (lg ⟨true, h, I2⟩ [0, 1])))
 have h := Bd f h
 exact Ae 29 I f (Aq 6 [.o 2 0] I J1 (gR (lg ⟨(c.2 == b.To), h, I2⟩ [0, 1])))
 have h := Bd e h
 exact Ae 24 I e (Ac 5 I (Bk I I dS (Bk I I dS (Bk I I dS (Bk I I dS (Ac 2 I (gR (lg ⟨false, h, I2⟩ [0, 1]))))))))
 rintro s ob ⟨i, h, rfl, rfl⟩
 refine An h I ?_ ?_
 intro S h
 refine Ag I ?_
 obtain rfl := K _ (oi h).symm
 have h := u
 have h := Dm h
 refine gY g0 ?_
 cases io h
 exact gW pr
 intro S h
 refine gU (gQ (Aq 2 [.k 0 (g + 1 : Nat)] I ⟨A4 A F, J⟩ ?_))
 cases io h
 exact gR ⟨_, _, _, I, I2, J5, [0, 1], I, by decide⟩
 rintro w s ob ⟨rfl, rfl⟩ he
 subst he
 have h := Dl u
 have U := Ds (([a.From, a.To] : Li).length)
 exact Ag I (Ab fun ac ad => Bx I U (gZ (lg ⟨(), h, I2⟩ [])))
 rintro s ob ⟨p, h, rfl, rfl⟩
 unfold Mf.J1 at h
 refine Ag I ?_
 cases io h
 exact gW pr
theorem Xv (e : Nat) (a : List (Int × Int)) (b c : Int) (r : List (Int × Int)) (h : Qf a b c = some r) : ACalls Ah 81 [.v (.map (some e)), .V b, .V c] [.raw e (Cc mI a)] (Er 1 fun x os new => x = .tup [] ∧ os = [.raw e (Cc mI r)] ∧ new = []) := by
  refine Ad Tryz.func81 rfl rfl rfl (fun C hC => ?_)
  unfold Qf at h
  split at h
  case isFalse => cases h
  rename_i hn
  cases io h
  obtain ⟨gf, hg⟩ : ∃ gf : Int → Int, gf = fun x : Int => if (x == b || x == c) = true then min b c else x := ⟨_, rfl⟩
  refine gT (gQ (gD rfl rfl (gS [] rfl (AX.range 0 rfl rfl rfl rfl (Be rfl) fun bi => gR ?_))))
  refine gV ?_
  refine Ni (fun m s ob => ∃ seen : Array Nat, m = Th seen a.length ∧ s = [(0, .v (.map (some e))), (1, .V b), (2, .V c), (9, .v (.pointer (some ⟨bi, 0, none⟩)))] ∧ ob = [.raw e (Cc mI (Kd gf seen a)), .raw bi (.mapIter (some e) (Kd gf seen a).length seen (Kd gf seen a).length)])
    ⟨#[], rfl, rfl, rfl⟩ ⟨⟨rfl, rfl, rfl, rfl, J⟩, [0, 1], by rw [cH]; rfl, by decide⟩ ?_
  rintro m s ob ⟨seen, rfl, rfl, rfl⟩
  refine gT (gQ (gS [1] rfl (AX.next 0 1 rfl rfl rfl (Be rfl) (fun hall => ?_) fun j kx hj hs => ?_)))
  · refine Ac 1 rfl (gR (gT (Bx rfl rfl (gZ ?_))))
    have hm : Kd gf seen a = a.map fun kx => (kx.1, gf kx.2) := cK (fun j hj => hall j (by rw [Qu]; exact hj))
    exact ⟨.inl rfl, [], [.raw e (Cc mI (Kd gf seen a))], J, Dt rfl Cd, ⟨[.raw e (Cc mI (Kd gf seen a))], [], rfl, rfl, rfl, by rw [hm, hg], rfl⟩⟩
  · have hj' : ∃ i, a[j]? = some i ∧ kx = i := by
      rw [E0] at hj
      obtain ⟨i, g, rfl⟩ := Option.map_eq_some_iff.1 hj
      exact ⟨i, g, by simp only [hs, Bool.false_eq_true, if_false]⟩
    obtain ⟨i, g, rfl⟩ := hj'
    have hlt : j < a.length := (List.getElem?_eq_some_iff.1 g).1
    have o : (Kd gf (seen.push j) a).length = (Kd gf seen a).length := by rw [Qu, Qu]
    refine Ac 1 rfl (gR (gT (Bw rfl rfl (gU (gV ?_)))))
    refine gT (gQ (hM (Yd.entry 0 1 (seen := seen) (j := j) rfl rfl rfl hj) rfl (Ac 4 rfl (gR ?_))))
    rcases bt (kx.2 == b) with k | k
    · have l : Gu (Kd gf seen a) kx.1 (min b c) = Kd gf (seen.push j) a := by
        rw [← Uz hn g hs, hg]; simp only [k, Bool.true_or, if_true]
      refine gT (gQ (Ac 4 rfl (Ae 18 rfl k (Ac 4 rfl (gR ?_)))))
      refine Bw rfl rfl ?_
      refine gQ (Ac 5 rfl (gS [0] rfl (AX.mapUpdate 0 (f := mI) (z := min b c) rfl rfl rfl rfl rfl rfl rfl rfl rfl ?_)))
      refine gR ?_
      exact ⟨_, _, _, Ha hlt hs, ⟨seen.push j, rfl, rfl, rfl⟩, ⟨rfl, rfl, rfl, rfl, J⟩, [0, 1], by rw [o, ← l]; rfl, by decide⟩
    · refine gT (gQ (Ac 4 rfl (Ae 18 rfl k (Ac 4 rfl (gR ?_)))))
      refine AW.cond rfl rfl ?_ ?_
      · intro n
        have l : Gu (Kd gf seen a) kx.1 (min b c) = Kd gf (seen.push j) a := by
          rw [← Uz hn g hs, hg]; simp only [n, Bool.or_true, if_true]
        refine gQ (Ac 5 rfl (gS [0] rfl (AX.mapUpdate 0 (f := mI) (z := min b c) rfl rfl rfl rfl rfl rfl rfl rfl rfl ?_)))
        refine gR ?_
        exact ⟨_, _, _, Ha hlt hs, ⟨seen.push j, rfl, rfl, rfl⟩, ⟨rfl, rfl, rfl, rfl, J⟩, [0, 1], by rw [o, ← l]; rfl, by decide⟩
      · intro n
        have l : Kd gf seen a = Kd gf (seen.push j) a := (Zt g (by rw [hg]; simp only [k, n, Bool.or_self, Bool.false_eq_true, if_false])).symm
        refine gU ?_
        exact ⟨_, _, _, Ha hlt hs, ⟨seen.push j, rfl, rfl, rfl⟩, ⟨rfl, rfl, rfl, rfl, J⟩, [0, 1], by rw [← l]; rfl, by decide⟩
theorem Xx (a : Nw) (P : List Bool) (r : (List Li) × Int) (h : Ik a P = some r) : ACalls Ah 32 [.agg (Af a), Q6 P] [] (RV (.tup [.list 1 (r.1.map (rL 1 rI)), .V r.2])) := by
 refine Ad Tryz.func32 I I I fun C hC => ?_
 refine Ab fun y1 af => gQ (gS [] I (Ck (Af a) 6 fun p => Ac 2 I (gR ?_)))
 subst af
 refine Ab fun y3 ag => gT ?_
 obtain ⟨r4, ah, h⟩ := Aa h
 refine gQ (Aq 1 [.o 0 0] I J1 (hG (X5 _ _ ah) (Ac 1 I (gR (Ag I (An h I ?_ ?_))))))
 intro ai h
 refine Ag I (gY (Bi [] (K := []) I [(4, .list 1 ([].map (rL 1 rI)))] ⟨⟨_, I, .nil _⟩, J⟩ (ob' := [O0 p [Af a]]) (.rest _)) (gY g0 ?_))
 cases io h
 exact gW ⟨.inr I, [_, _], [], J2, Cd, I2⟩
 intro ai h
 refine gU ?_
 subst ag
 refine Ab fun y7 aj => A8 [.l 1 (P.length : Int), .o 3 0, .l 4 (a.Nodes.length : Int)] I ⟨Ax, I, Ax, J⟩ (An h I ?_ ?_)
 intro ak h
 refine Ag I (gY (Bi [] (K := []) I [(4, .list 1 ([].map (rL 1 rI)))] ⟨⟨_, I, .nil _⟩, J⟩ (ob' := [O0 p [Af a]]) (.rest _)) (gY g0 ?_))
 cases io h
 exact gW ⟨.inr I, [_, _], [], J2, Cd, I2⟩
 intro ak h
 refine gU ?_
 subst aj
 refine Ab fun y9 al => gQ (gS [] I (AX.makeMap mI dS fun n => Ac 1 I (gR ?_)))
 subst al
 refine Aj (fun s ob => ∃ (i : List (Int × Int)), Ik.J1 a i = some r ∧ s = [] ∧ ob = [O0 p [Af a], .raw n (Cc mI i)]) [(2, _), (7, _)] J2 ?_ ?_
 refine A8 [.o 1 0, .l 2 (a.Segments.length : Int)] I ⟨Ax, I, J⟩ (gV (Cu 30 I fun am => ?_))
 obtain ⟨b1, an, ao⟩ := Aa h
 refine Dx an [(1, _), (2, _), (7, _), (30, _), (31, _)] J5 (fun (e : Nat) (H : List (Int × Int)) s ob => s = [(32, .V (e : Int))] ∧ ob = [O0 p [Af a], .raw n (Cc mI H)]) ⟨I, I⟩ ⟨I, J⟩ ⟨[0, 1], I, by decide⟩ ?_ ?_
 rintro e A H aq s ob ar Z ⟨rfl, rfl⟩ h
 unfold Ik.B5 at h
 have au := Dr Z
 refine Ag I (Ab fun b3 av => Bw I au (gU ?_))
 subst av
 refine Aj (fun s ob => ∃ (Q : List (Int × Int)), Ik.J6 Q = some aq ∧ s = [] ∧ ob = [O0 p [Af a], .raw n (Cc mI Q)]) [(1, _), (2, _), (7, _), (30, _), (31, _), (32, _)] J6 ?_ ?_
 refine gV (Ab fun b4 aw => gQ (Aq 3 [.x 1 e (Ao A)] I ⟨⟨I, Al ar⟩, J⟩ (gS [] I (Cl W1 7 fun R => Ac 1 I (gS [2] I (Bo 2 0 0 [Ao A] I (gR ?_)))))))
 subst aw
 refine Ab fun b5 ax => gQ (Ac 3 I (gS [1] I (AX.mapUpdate 1 (f := mI) (z := (e : Int)) I I I I I I I I I (gR ?_))))
 subst ax
 refine Ag I (gV ?_)
 obtain ⟨b6, ay, h⟩ := Aa h
 have az : (e : Int).toNat ≤ 9223372036854775806 := by have := Sm ay; omega
 obtain ⟨b7, a0, a1⟩ := Aa h
 refine bJ a0 [(1, _), (2, _), (7, _), (8, _), (9, _), (30, _), (31, _), (32, _), (40, _)] J9 (fun (t : Nat) (g : List (Int × Int)) s ob => s = [(41, .V (t : Int))] ∧ ob = [O0 p [Af a], .raw n (Cc mI g), O3 R [Ao A]]) ⟨I, I⟩ ⟨I, J⟩ ⟨[0, 1, 2], I, by decide⟩ ?_ ?_
 rintro t g aa s ob a2 ⟨rfl, rfl⟩ h
 unfold Ik.B7 at h
 have a3 : decide ((t : Int) < (e : Int)) = true := decide_eq_true (by omega)
 refine Ag I (Ab fun b8 a4 => Bw I a3 (gU ?_))
 subst a4
 refine Aj (fun s ob => ∃ (S : List (Int × Int)), Ik.J8 S = some aa ∧ s = [] ∧ ob = [O0 p [Af a], .raw n (Cc mI S), O3 R [Ao A]]) [(1, _), (2, _), (7, _), (8, _), (9, _), (30, _), (31, _), (32, _), (40, _), (41, _)] gB ?_ ?_
 refine gV (Ag I (Ab fun b9 a5 => ?_))
 obtain ⟨U, ⟨a6, a7⟩, h⟩ := Bh h
 refine gQ (Aq 5 [.o 1 0, .x 3 U.1 (Ao U.2)] I ⟨⟨a6, Al a7⟩, I, J⟩ (gS [] I (Cl W1 7 fun ca => gS [3] I (Bo 3 0 0 [Ao U.2] I (gR ?_)))))
 subst a5
 refine Aj (fun s ob => ∃ (W : Bool), Ik.J9 e t g W = some aa ∧ s = [(61, .v (.bool W))] ∧ ob = [O0 p [Af a], .raw n (Cc mI g), O3 R [Ao A]]) [(1, _), (2, _), (7, _), (8, _), (9, _), (10, _), (30, _), (31, _), (32, _), (40, _), (41, _)] gG ?_ ?_
 obtain ⟨a8, a9, h⟩ := Aa h
 refine gQ (Aq 3 [.o 0 2, .o 1 3] I J2 (hG (Xo _ _ _ _ a9) (Ac 1 I ?_)))
 rcases bt (a8) with B | B
 have h := Bc B h
 exact Ae 53 I B (Ac 2 I (Bg I I I (hM (Em 1 (f := mI) (z := (0 : Int)) (u := .V ((Cs g (t : Int)).getD (0 : Int))) I I I I I I I I I I) I (Ac 2 I (Bg I I I (hM (Em 1 (f := mI) (z := (0 : Int)) (u := .V ((Cs g (e : Int)).getD (0 : Int))) I I I I I I I I I I) I (Ac 2 I (gR (lg ⟨(((Cs g (t : Int)).getD (0 : Int)) != ((Cs g (e : Int)).getD (0 : Int))), h, I2⟩ [0, 1, 2])))))))))
 have h := Bd B h
 exact Ae 53 I B (Ac 8 I (gR (lg ⟨false, h, I2⟩ [0, 1, 2])))
 rintro s ob ⟨W, h, rfl, rfl⟩
 refine An h I ?_ ?_
 intro ba h
 obtain ⟨bb, bc, h⟩ := Aa h
 refine gQ (Ac 3 I (hM (Em 1 (f := mI) (z := (0 : Int)) (u := .V ((Cs g (t : Int)).getD (0 : Int))) I I I I I I I I I I) I (Ac 2 I (hM (Em 1 (f := mI) (z := (0 : Int)) (u := .V ((Cs g (e : Int)).getD (0 : Int))) I I I I I I I I I I) I (gS [1] I (Ar [1] (Xv n _ _ _ _ bc) ?_))))))
 exact gR (lg ⟨bb, h, I2⟩ [0, 1, 2])
 intro ba h
 exact gU (lg ⟨g, h, I2⟩ [0, 1, 2])
 rintro s ob ⟨S, h, rfl, rfl⟩
 unfold Ik.J8 at h
 refine gQ (Aq 2 [.k 0 (t + 1 : Nat)] I ⟨A4 a2 az, J⟩ ?_)
 cases io h
 exact gR (lg I2 [0, 1, 2])
 rintro g s ob ⟨rfl, rfl⟩ he
 subst he
 have h := a1
 have bd : decide ((((e : Int).toNat : Nat) : Int) < (e : Int)) = false := decide_eq_false (by omega)
 exact Ag I (Ab fun cb cc => Bx I bd (gZ (lg ⟨g, h, I2⟩ [0, 1])))
 rintro s ob ⟨Q, h, rfl, rfl⟩
 unfold Ik.J6 at h
 refine gQ (Aq 2 [.k 0 (e + 1 : Nat)] I ⟨A4 Z am, J⟩ ?_)
 cases io h
 exact gR (lg I2 [0, 1])
 rintro H s ob ⟨rfl, rfl⟩ he
 subst he
 have h := ao
 have be := Ds a.Segments.length
 exact Ag I (Ab fun cd ce => Bx I be (gZ (lg ⟨H, h, I2⟩ [0, 1])))
 rintro s ob ⟨i, h, rfl, rfl⟩
 unfold Ik.J1 at h
 refine Ab fun cf bf => gQ (gS [] I (AX.makeMap mI dS fun ab => Ac 1 I (gR ?_)))
 subst bf
 refine Ag I (Aj (fun s ob => ∃ (D : List Li) (M : Value) (X : List Value), Ik.J2 D = some r ∧ s = [(13, .v M)] ∧ ob = [.uss M 22 3 1 X (D.map fun x => some (x.map rI))]) [] J ?_ ?_)
 refine A8 [.o 1 0, .l 2 (a.Segments.length : Int)] I ⟨Ax, I, J⟩ (gV (Cu 74 I fun bg => gY (Ro 22 3 1) ?_))
 obtain ⟨cg, bh, bi⟩ := Aa h
 refine Dx bh [(7, _), (12, _), (75, _)] J3 (fun (j : Nat) (b : (List (Int × Int)) × (List Li)) s ob => ∃ (w : Value) (E : List Value), s = [(76, .V (j : Int)), (13, .v w)] ∧ ob = [.raw n (Cc mI i), .raw ab (Cc mI b.1), .uss w 22 3 1 E (b.2.map fun x => some (x.map rI))]) ⟨(.slice none 0 0), [], I2⟩ ⟨I, I, J⟩ ⟨[1, 2, 3], I, by decide⟩ ?_ ?_
 rintro j ci b bj s ob cj ac ⟨w, E, rfl, rfl⟩ h
 unfold Ik.B3 at h
 have bk := Dr ac
 refine Ag I (Ab fun ck bl => Bw I bk (gU ?_))
 subst bl
 refine gT (gV (Ag I (Ab fun cl bm => gQ (Ac 3 I (hM (Em 0 (f := mI) (z := (0 : Int)) (u := .V ((Cs i (j : Int)).getD (0 : Int))) I I I I I I I I I I) I (hM (T9 1 (f := mI) (z := (0 : Int)) (u := .V ((Cs b.1 ((Cs i (j : Int)).getD (0 : Int))).getD (0 : Int))) (v := .v (.bool ((Cs b.1 ((Cs i (j : Int)).getD (0 : Int))).isSome))) I I I I I I I I I I I) I (Ac 5 I (gR ?_))))))))
 subst bm
 refine Aj (fun s ob => ∃ (F : (List (Int × Int)) × (List Li) × Int) (O : Value) (Y : List Value), Ik.J4 j F = some bj ∧ s = [(13, .v O), (15, .V F.2.2)] ∧ ob = [.raw n (Cc mI i), .raw ab (Cc mI F.1), .uss O 22 3 1 Y (F.2.1.map fun x => some (x.map rI))]) [(7, _), (12, _), (14, _), (75, _), (76, _)] J5 ?_ ?_
 refine Ag I (An h I ?_ ?_)
 intro bn h
 refine gT (gQ (Ac 1 I (hM (Ub 2 I I I I) I (Ac 1 I (gR (gT (gQ (Ac 3 I (hM (Em 0 (f := mI) (z := (0 : Int)) (u := .V ((Cs i (j : Int)).getD (0 : Int))) I I I I I I I I I I) I (Ac 1 I (gS [1] I (AX.mapUpdate 1 (f := mI) (z := (b.2.length : Int)) I I I I I I I I I (gR ?_)))))))))))))
 obtain ⟨bo, ad, h⟩ := Aa h
 exact gQ (Ac 1 I (gS [] I (hT (sz := 1) (es := [[.N]]) I I I I I I I I I I I dS fun cm => gS [2] I (Rp 2 I I I I I I I I I (Gi 3 I I) (Zp (Du ad).1) (cX (Du ad).2) dS fun bp bq => Ac 1 I (gR (lg ⟨((Gu b.1 ((Cs i (j : Int)).getD (0 : Int)) (b.2.length : Int)), bo, (b.2.length : Int)), bp, bq, h, I2⟩ [0, 1, 2]))))))
 intro bn h
 exact gU (lg ⟨(b.1, b.2, ((Cs b.1 ((Cs i (j : Int)).getD (0 : Int))).getD (0 : Int))), w, E, h, I2⟩ [0, 1, 2])
 rintro s ob ⟨F, O, Y, h, rfl, rfl⟩
 obtain ⟨y, ⟨ae, G⟩, h⟩ := Bh h
 obtain ⟨cn, br, h⟩ := Aa h
 refine gQ (Ac 4 I (hM (Lg 2 (m := y.1) I I I I I I I ae (Y5 G)) I (hM (Ua 2 (m := y.1) I I I I (Y5 G)) I (iE (Ghost.take 2 y.1 I (Al G)) (Ac 1 I (gS [] I (hE 1 (([(j : Int)] : Li).map rI) (gS [3] I (Cq 3 I br fun bs => hM (Lg 2 (m := y.1) I I I I I I I ae (bX G)) I (gS [2, 3] I (Tb 2 3 y.1 I I I I (Z0 G) I I I (N5 _ _ _ _) (gR (gQ (Aq 2 [.k 0 (j + 1 : Nat)] I ⟨A4 ac bg, J⟩ ?_))))))))))))))
 cases io h
 exact gR (lg ⟨O, (Y.set y.1 bs), I2⟩ [0, 1, 2])
 rintro b s ob ⟨w, E, rfl, rfl⟩ he
 subst he
 have h := bi
 have bu := Ds a.Segments.length
 exact Ag I (Ab fun co cp => Bx I bu (gZ (lg ⟨b.2, w, E, h, I2⟩ [2])))
 rintro s ob ⟨D, M, X, h, rfl, rfl⟩
 unfold Ik.J2 at h
 refine Ag I (gY (Bi [0] (K := [.uss M 22 3 1 X (D.map fun x => some (x.map rI))]) I [(4, .list 1 (D.map (rL 1 rI)))] ⟨⟨_, I, Wk 0 I⟩, J⟩ (ob' := []) (.rest _)) ?_)
 cases io h
 exact gW ⟨.inr I, [_, _], [], J2, Cd, I2⟩
theorem Bv (a : Int) (c : Int) (d : Int) (r : Bool) (h : Bf a c d = r) : ACalls Ah 145 [.V a, .V c, .V d] [] (RB r) := by
 refine Ad Tryz.func145 I I I fun C hC => ?_
 unfold Bf at h
 refine Ag I (Aj (fun s ob => s = [(6, .v (.bool (decide (a ≥ c) && decide (a ≤ d))))] ∧ ob = []) [] J ?_ ?_)
 refine gQ (Ac 4 I ?_)
 rcases bt (decide (a ≥ c)) with b | b
 refine Ae 10 I b (Ac 5 I (gR ?_))
 exact lf I2 ⟨(C0 (by simp only [b, bz])), J⟩ [] I
 refine Ae 10 I b (Ac 5 I (gR ?_))
 exact lf I2 ⟨(C0 (by simp only [b, bz])), J⟩ [] I
 rintro s ob ⟨rfl, rfl⟩
 obtain rfl := h
 exact gW pr
theorem X3 (a : Nw) (r : Arr (List Bt) 4) (h : Mq a = some r) : ACalls Ah 146 [.agg (Af a)] [] (RV (.agg (r.l.map (cL 1 rS)))) := by
 refine Ad Tryz.func146 I I I fun C hC => ?_
 unfold Mq at h
 refine Ab fun y1 U => gQ (gS [] I (Ck (Af a) 6 fun u => gS [] I (Cl W2 4 fun f => gR ?_)))
 subst U
 refine Ab fun y4 W => gQ (gS [] I (Cl W2 4 fun g => gR ?_))
 subst W
 refine Ab fun y6 X => gQ (Aq 2 [.o 1 0] I J1 (Bn (Cy (m := 0) I I I I I I (A9 I)) I (gS [2] I (Bo 2 0 0 [[Q1 a.Nodes, .N, .N, .N]] I (gR ?_)))))
 subst X
 refine Aj (fun s ob => ∃ (c : List Bt) (b : Value), Mq.J1 a c = some r ∧ s = [] ∧ ob = [O0 u [Af a], O2 f [W2], O2 g [[Q1 a.Nodes, .v b, .N, .N]], U1 b c]) [(1, _), (2, _), (3, _)] J3 ?_ ?_
 refine A8 [.o 1 0, .l 2 (a.Segments.length : Int)] I ⟨Ax, I, J⟩ (gV (Cu 14 I fun Y => gY (Ay 9 1) ?_))
 obtain ⟨a5, Z, aa⟩ := Aa h
 refine Dx Z [(1, _), (2, _), (3, _), (14, _), (15, _)] J5 (fun (w : Nat) (y : List Bt) s ob => ∃ (j : Value), s = [(16, .V (w : Int))] ∧ ob = [O0 u [Af a], O2 f [W2], O2 g [[Q1 a.Nodes, .v j, .N, .N]], U1 j y]) ⟨(.slice none 0 0), I2⟩ ⟨I, J⟩ ⟨[0, 1, 2, 3], I, by decide⟩ ?_ ?_
 rintro w F y a6 s ob ab M ⟨j, rfl, rfl⟩ h
 have ac := Dr M
 refine Ag I (Ab fun a7 ad => Bw I ac (gU ?_))
 subst ad
 refine gT (gV (gT (gQ (Aq 2 [.x 0 w (Ao F)] I ⟨⟨I, Al ab⟩, J⟩ (gS [] I (Cl W1 7 fun a8 => gS [4] I (Bo 4 0 0 [Ao F] I (gR ?_))))))))
 obtain ⟨a9, ae, h⟩ := Aa h
 refine gQ (Bn (Cy (m := 1) I I I I I I (A9 I)) I (Aq 3 [.o 0 2, .o 2 4] I J2 (gS [] I (hE 1 (([F.Name] : List Bt).map rS) (gS [3] I (Cq 3 I ae fun O => Bn (Cy (m := 1) I I I I I I (A9 I)) I (AO.one 3 I fun af => gS [2] I (hO 2 0 1 (es' := [[Q1 a.Nodes, .v O, .N, .N]]) I I I I I I (Ci af) I (A9 I) I I (gR (gQ (Aq 2 [.k 0 (w + 1 : Nat)] I ⟨A4 M Y, J⟩ ?_)))))))))))
 cases io h
 exact gR (lg ⟨O, I2⟩ [0, 1, 2, 3])
 rintro y s ob ⟨j, rfl, rfl⟩ he
 subst he
 have h := aa
 have ag := Ds a.Segments.length
 exact Ag I (Ab fun ba bb => Bx I ag (gZ (lg ⟨y, j, h, I2⟩ [0, 1, 2, 3])))
 rintro s ob ⟨c, b, h, rfl, rfl⟩
 unfold Mq.J1 at h
 refine Aj (fun s ob => ∃ (e : List Bt) (d : Value), Mq.J2 a c e = some r ∧ s = [] ∧ ob = [O0 u [Af a], O2 f [W2], O2 g [[Q1 a.Nodes, .v b, .v d, .N]], U1 b c, U1 d e]) [(1, _), (2, _), (3, _)] J3 ?_ ?_
 refine A8 [.o 1 0, .l 2 (a.Ports.length : Int)] I ⟨Ax, I, J⟩ (gV (Cu 29 I fun ah => gY (Ay 9 1) ?_))
 obtain ⟨bc, ai, aj⟩ := Aa h
 refine Dx ai [(1, _), (2, _), (3, _), (29, _), (30, _)] J5 (fun (A : Nat) (B : List Bt) s ob => ∃ (n : Value), s = [(31, .V (A : Int))] ∧ ob = [O0 u [Af a], O2 f [W2], O2 g [[Q1 a.Nodes, .v b, .v n, .N]], U1 b c, U1 n B]) ⟨(.slice none 0 0), I2⟩ ⟨I, J⟩ ⟨[0, 1, 2, 3, 4], I, by decide⟩ ?_ ?_
 rintro A G B bd s ob ak P ⟨n, rfl, rfl⟩ h
 have al := Dr P
 refine Ag I (Ab fun be am => Bw I al (gU ?_))
 subst am
 refine gT (gV (gT (gQ (Aq 2 [.x 0 A (B1 G)] I ⟨⟨I, Al ak⟩, J⟩ (gS [] I (Cl W4 3 fun bf => gS [5] I (Bo 5 0 0 [B1 G] I (gR ?_))))))))
 obtain ⟨bg, an, h⟩ := Aa h
 refine gQ (Bn (Cy (m := 2) I I I I I I (A9 I)) I (Aq 3 [.o 0 2, .o 2 5] I J2 (gS [] I (hE 1 (([G.Name] : List Bt).map rS) (gS [4] I (Cq 4 I an fun Q => Bn (Cy (m := 2) I I I I I I (A9 I)) I (AO.one 4 I fun ao => gS [2] I (hO 2 0 2 (es' := [[Q1 a.Nodes, .v b, .v Q, .N]]) I I I I I I (Ci ao) I (A9 I) I I (gR (gQ (Aq 2 [.k 0 (A + 1 : Nat)] I ⟨A4 P ah, J⟩ ?_)))))))))))
 cases io h
 exact gR (lg ⟨Q, I2⟩ [0, 1, 2, 3, 4])
 rintro B s ob ⟨n, rfl, rfl⟩ he
 subst he
 have h := aj
 have aq := Ds a.Ports.length
 exact Ag I (Ab fun bh bi => Bx I aq (gZ (lg ⟨B, n, h, I2⟩ [0, 1, 2, 3, 4])))
 rintro s ob ⟨e, d, h, rfl, rfl⟩
 unfold Mq.J2 at h
 refine Aj (fun s ob => ∃ (q : List Bt) (i : Value), Mq.J3 a c e q = some r ∧ s = [] ∧ ob = [O2 f [W2], O2 g [[Q1 a.Nodes, .v b, .v d, .v i]], U1 b c, U1 d e, U1 i q]) [(2, _), (3, _)] J2 ?_ ?_
 refine A8 [.o 1 0, .l 2 (a.Stations.length : Int)] I ⟨Ax, I, J⟩ (gV (Cu 44 I fun ar => gY (Ay 9 1) ?_))
 obtain ⟨bj, au, av⟩ := Aa h
 refine Dx au [(2, _), (3, _), (44, _), (45, _)] J4 (fun (D : Nat) (E : List Bt) s ob => ∃ (t : Value), s = [(46, .V (D : Int))] ∧ ob = [O2 f [W2], O2 g [[Q1 a.Nodes, .v b, .v d, .v t]], U1 b c, U1 d e, U1 t E]) ⟨(.slice none 0 0), I2⟩ ⟨I, J⟩ ⟨[1, 2, 3, 4, 5], I, by decide⟩ ?_ ?_
 rintro D H E bk s ob aw R ⟨t, rfl, rfl⟩ h
 have ax := Dr R
 refine Ag I (Ab fun bl ay => Bw I ax (gU ?_))
 subst ay
 refine gT (gV (gT (gQ (Aq 2 [.x 0 D (Az H)] I ⟨⟨I, Al aw⟩, J⟩ (gS [] I (Cl W3 5 fun bm => gS [5] I (Bo 5 0 0 [Az H] I (gR ?_))))))))
 obtain ⟨bn, az, h⟩ := Aa h
 refine gQ (Bn (Cy (m := 3) I I I I I I (A9 I)) I (Aq 3 [.o 0 1, .o 2 5] I J2 (gS [] I (hE 1 (([H.Name] : List Bt).map rS) (gS [4] I (Cq 4 I az fun S => Bn (Cy (m := 3) I I I I I I (A9 I)) I (AO.one 4 I fun a0 => gS [1] I (hO 1 0 3 (es' := [[Q1 a.Nodes, .v b, .v d, .v S]]) I I I I I I (Ci a0) I (A9 I) I I (gR (gQ (Aq 2 [.k 0 (D + 1 : Nat)] I ⟨A4 R ar, J⟩ ?_)))))))))))
 cases io h
 exact gR (lg ⟨S, I2⟩ [0, 1, 2, 3, 4])
 rintro E s ob ⟨t, rfl, rfl⟩ he
 subst he
 have h := av
 have a1 := Ds a.Stations.length
 exact Ag I (Ab fun bo bp => Bx I a1 (gZ (lg ⟨E, t, h, I2⟩ [0, 1, 2, 3, 4])))
 rintro s ob ⟨q, i, h, rfl, rfl⟩
 unfold Mq.J3 at h
 refine gT (gQ (Aq 1 [.o 0 1] I J1 (gS [0] I (Bo 0 0 0 [[Q1 a.Nodes, .v b, .v d, .v i]] I (gR (gY (Bi [2, 3, 4] (K := [U1 b c, U1 d e, U1 i q]) I [] J (ob' := [O2 f [[Q1 a.Nodes, Q1 c, Q1 e, Q1 q]], O2 g [[Q1 a.Nodes, .v b, .v d, .v i]]]) (.cons (.arr (.cons (.refl _) (.cons (.us 0 I) (.cons (.us 1 I) (.cons (.us 2 I) (.rest _)))))) (.rest _))) (F2 [0] I ?_)))))))
 cases io h
 exact gW ⟨.inr I, [_], [], ⟨⟨0, _, _, _, _, _, _, _, I5⟩, J⟩, Cd, I2⟩
theorem X2 (g : Bt) (r : Bool) (h : Mp g = some r) : ACalls Ah 147 [.v (.string g)] [] (RB r) := by
 refine Ad Tryz.func147 I I I fun C hC => ?_
 unfold Mp at h
 refine Ag I (Ab fun X M => Aj (fun s ob => ∃ (y : Bool), Mp.J1 g y = some r ∧ s = [(21, .v (.bool y))] ∧ ob = []) [(0, _)] J1 ?_ ?_)
 refine gQ (Ac 4 I ?_)
 rcases bt (decide ((g.size : Int) < 1)) with i | i
 have h := Bc i h
 exact Ae 7 I i (Ac 14 I (gR (lg ⟨true, h, I2⟩ [])))
 have h := Bd i h
 refine Ae 7 I i ?_
 rcases bt (decide ((g.size : Int) > 12)) with j | j
 have h := Bc j h
 exact Ac 5 I (Ae 12 I j (Ac 9 I (gR (lg ⟨true, h, I2⟩ []))))
 have h := Bd j h
 obtain ⟨f, N, h⟩ := Aa h
 obtain ⟨D, E, F⟩ := Jj N
 refine Ac 5 I (Ae 12 I j (Ac 1 I (Bg I I I (Bn (Bp (m := f.1) I I I I D E F) I (Bg I I I (Bn (hY (c := decide (f.2 < 97)) I I I) I (Ac 2 I ?_)))))))
 rcases bt (decide (f.2 < 97)) with k | k
 have h := Bc k h
 exact Ae 17 I k (Ac 4 I (gR (lg ⟨true, h, I2⟩ [])))
 have h := Bd k h
 exact Ae 17 I k (Ac 1 I (Bg I I I (Bn (Bp (m := f.1) I I I I D E F) I (Bg I I I (Bn (hY (c := decide (f.2 > 122)) I I I) I (Ac 1 I (gR (lg ⟨decide (f.2 > 122), h, I2⟩ []))))))))
 rintro s ob ⟨y, h, rfl, rfl⟩
 refine An h I ?_ ?_
 intro O h
 refine Ag I ?_
 cases io h
 exact gW pr
 intro O h
 refine gU ?_
 subst M
 refine Aj (fun s ob => ∃ (G : Unit), Mp.J2 G = some r ∧ s = [] ∧ ob = []) [] J ?_ ?_
 refine Ag I (gV ?_)
 obtain ⟨Y, P, H⟩ := Aa h
 refine A5 P [(0, _)] J1 (fun (A : Int) s ob => s = [(3, .V A)] ∧ ob = []) ⟨I, I⟩ ⟨I, J⟩ ⟨[], I, by decide⟩ ?_
 rintro A Q s ob ⟨rfl, rfl⟩ h K
 refine Ab fun Z R => Ag I (An h I ?_ ?_)
 intro S h
 refine gU ?_
 subst R
 refine gT (gV (Aj (fun s ob => ∃ (B : Bool), Mp.J4 A B = some Q ∧ s = [(55, .v (.bool B))] ∧ ob = []) [(0, _), (3, _)] J2 ?_ ?_))
 obtain ⟨a, U, h⟩ := Aa h
 obtain ⟨b, d, e⟩ := Jj U
 refine gQ (Ac 2 I (Bn (Bp (m := a.1) I I I I b d e) I (Bn (hY (c := decide (a.2 < 97)) I I I) I (Ac 1 I ?_))))
 rcases bt (decide (a.2 < 97)) with l | l
 have h := Bc l h
 refine Ae 32 I l (Ac 8 I (Bg I I I (Bn (Bp (m := a.1) I I I I b d e) I (Bg I I I (Bn (hY (c := decide (a.2 < 48)) I I I) I (Ac 1 I ?_))))))
 rcases bt (decide (a.2 < 48)) with n | n
 have h := Bc n h
 exact Ae 43 I n (Ac 9 I (Bg I I I (Bn (Bp (m := a.1) I I I I b d e) I (Bg I I I (Bn (hY (c := (a.2 != 45)) I I I) I (Ac 1 I (gR (lg ⟨(a.2 != 45), h, I2⟩ []))))))))
 have h := Bd n h
 refine Ae 43 I n (Ac 2 I (Bg I I I (Bn (Bp (m := a.1) I I I I b d e) I (Bg I I I (Bn (hY (c := decide (a.2 > 57)) I I I) I (Ac 3 I ?_))))))
 rcases bt (decide (a.2 > 57)) with o | o
 have h := Bc o h
 exact Ae 50 I o (Ac 2 I (Bg I I I (Bn (Bp (m := a.1) I I I I b d e) I (Bg I I I (Bn (hY (c := (a.2 != 45)) I I I) I (Ac 1 I (gR (lg ⟨(a.2 != 45), h, I2⟩ []))))))))
 have h := Bd o h
 exact Ae 50 I o (Ac 5 I (gR (lg ⟨false, h, I2⟩ [])))
 have h := Bd l h
 refine Ae 32 I l (Ac 2 I (Bg I I I (Bn (Bp (m := a.1) I I I I b d e) I (Bg I I I (Bn (hY (c := decide (a.2 > 122)) I I I) I (Ac 2 I ?_))))))
 rcases bt (decide (a.2 > 122)) with t | t
 have h := Bc t h
 refine Ae 38 I t (Ac 2 I (Bg I I I (Bn (Bp (m := a.1) I I I I b d e) I (Bg I I I (Bn (hY (c := decide (a.2 < 48)) I I I) I (Ac 1 I ?_))))))
 rcases bt (decide (a.2 < 48)) with u | u
 have h := Bc u h
 exact Ae 43 I u (Ac 9 I (Bg I I I (Bn (Bp (m := a.1) I I I I b d e) I (Bg I I I (Bn (hY (c := (a.2 != 45)) I I I) I (Ac 1 I (gR (lg ⟨(a.2 != 45), h, I2⟩ []))))))))
 have h := Bd u h
 refine Ae 43 I u (Ac 2 I (Bg I I I (Bn (Bp (m := a.1) I I I I b d e) I (Bg I I I (Bn (hY (c := decide (a.2 > 57)) I I I) I (Ac 3 I ?_))))))
 rcases bt (decide (a.2 > 57)) with w | w
 have h := Bc w h
 exact Ae 50 I w (Ac 2 I (Bg I I I (Bn (Bp (m := a.1) I I I I b d e) I (Bg I I I (Bn (hY (c := (a.2 != 45)) I I I) I (Ac 1 I (gR (lg ⟨(a.2 != 45), h, I2⟩ []))))))))
 have h := Bd w h
 exact Ae 50 I w (Ac 5 I (gR (lg ⟨false, h, I2⟩ [])))
 have h := Bd t h
 exact Ae 38 I t (Ac 5 I (Bk I I dS (Bk I I dS (Bk I I dS (Bk I I dS (Ac 8 I (gR (lg ⟨false, h, I2⟩ []))))))))
 rintro s ob ⟨B, h, rfl, rfl⟩
 refine An h I ?_ ?_
 intro W h
 refine Ag I ?_
 obtain rfl := K _ (oi h).symm
 have h := H
 have h := Dl h
 cases io h
 exact gW pr
 intro W h
 refine gU (gQ (Ac 3 I ?_))
 cases io h
 exact gR ⟨_, _, _, I, I2, J2, [], I, by decide⟩
 intro S h
 obtain rfl := K _ (oi h).symm
 have h := H
 have h := Dm h
 exact gZ (lg ⟨(), h, I2⟩ [])
 rintro s ob ⟨G, h, rfl, rfl⟩
 unfold Mp.J2 at h
 refine Ag I ?_
 cases io h
 exact gW pr
theorem Yo (a : List Bt) (r : Bool) (h : Mz a = some r) : ACalls Ah 148 [Q1 a] [] (RB r) := by
 refine Ad Tryz.func148 I I I fun C hC => ?_
 unfold Mz at h
 refine Ag I (Aj (fun s ob => ∃ (e : Unit), Mz.J1 e = some r ∧ s = [] ∧ ob = []) [] J ?_ ?_)
 refine A8 [.l 1 (a.length : Int)] I ⟨Ax, J⟩ (gV (Cu 5 I fun t => ?_))
 obtain ⟨O, u, f⟩ := Aa h
 refine Ca u [(0, _), (6, _)] J2 (fun (b : Nat) (g : Unit) s ob => s = [(7, .V (b : Int))] ∧ ob = []) ⟨I, I⟩ ⟨I, J⟩ ⟨[], I, by decide⟩ ?_ ?_
 rintro b i g w s ob y j ⟨rfl, rfl⟩ h A
 unfold Mz.B2 at h
 have B := Dr j
 refine Ag I (Ab fun P D => Bw I B (gU ?_))
 subst D
 refine Aj (fun s ob => ∃ (m : Unit), Mz.J3 m = some w ∧ s = [] ∧ ob = []) [(0, _), (6, _), (7, _)] J3 ?_ ?_
 refine gV (Ag I (Ag I (gV ?_)))
 obtain ⟨Q, E, n⟩ := Aa h
 refine A5 E [(0, _), (3, _), (6, _), (7, _)] J4 (fun (o : Int) s ob => s = [(4, .V o)] ∧ ob = []) ⟨I, I⟩ ⟨I, J⟩ ⟨[], I, by decide⟩ ?_
 rintro o R s ob ⟨rfl, rfl⟩ h p
 refine Ab fun S F => Ag I (An h I ?_ ?_)
 intro G h
 refine gU ?_
 subst F
 refine gT (gV (gT ?_))
 obtain ⟨d, ⟨H, K⟩, h⟩ := Bh h
 refine C4 (pd 9 0 []) [] [] I (C6 8 [.x 2 b (rS i), .x 6 d.1 (rS d.2)] I ⟨⟨H, Al K⟩, ⟨I, Al y⟩, J⟩ (AP.op I (Yp.cmpS (c := Rr i d.2) I I I) I (A2 (gR (An h I ?_ ?_)))))
 intro M h
 refine Ag I ?_
 obtain rfl := p _ (oi h).symm
 have h := n
 have h := Dl h
 obtain rfl := A _ (oi h).symm
 have h := f
 have h := Dm h
 cases io h
 exact gW pr
 intro M h
 refine gU (gQ (Ac 3 I ?_))
 cases io h
 exact gR ⟨_, _, _, I, I2, J5, [], I, by decide⟩
 intro G h
 obtain rfl := p _ (oi h).symm
 have h := n
 have h := Dm h
 exact gZ (lg ⟨(), h, I2⟩ [])
 rintro s ob ⟨m, h, rfl, rfl⟩
 unfold Mz.J3 at h
 refine gQ (Aq 2 [.k 0 (b + 1 : Nat)] I ⟨A4 j t, J⟩ ?_)
 cases io h
 exact gR ⟨_, _, _, I, I2, J3, [], I, by decide⟩
 rintro g s ob ⟨rfl, rfl⟩ he
 subst he
 have h := Dl f
 have N := Ds a.length
 exact Ag I (Ab fun U W => Bx I N (gZ (lg ⟨(), h, I2⟩ [])))
 rintro s ob ⟨e, h, rfl, rfl⟩
 unfold Mz.J1 at h
 refine Ag I ?_
 cases io h
 exact gW pr
theorem X0 (a : Sg) (r : Bool) (h : Mo a = some r) : ACalls Ah 149 [.agg (Ao a)] [] (RB r) := by
 refine Ad Tryz.func149 I I I fun C hC => ?_
 unfold Mo at h
 refine Ab fun y1 K => gQ (gS [] I (Ck (Ao a) 7 fun u => Ac 1 I (gR ?_)))
 subst K
 refine Ab fun y3 M => Aj (fun s ob => ∃ (w : Bool), Mo.J1 a w = some r ∧ s = [(49, .v (.bool w))] ∧ ob = [O3 u [Ao a]]) [(1, _)] J1 ?_ ?_
 refine C4 (pd 45 0 [8, 14, 20]) [0] [_] I (C6 6 [.o 1 0, .o 3 0] I J2 ?_)
 rcases bt ((a.From == a.To)) with c | c
 have h := Bc c h
 exact Ba 10 I c (Bm 39 I (A2 (gR (lg ⟨true, h, I2⟩ [0]))))
 have h := Bd c h
 refine Ba 10 I c (C6 2 [.o 1 0] I J1 (Gx I (Bv a.Capacity 1 1000000 _ I) (Bm 3 I ?_)))
 rcases bt ((!(Bf a.Capacity 1 1000000))) with d | d
 have h := Bc d h
 exact Ba 16 I d (Bm 33 I (A2 (gR (lg ⟨true, h, I2⟩ [0]))))
 have h := Bd d h
 refine Ba 16 I d (C6 2 [.o 1 0] I J1 (Gx I (Bv a.Resist 0 1000 _ I) (Bm 3 I ?_)))
 rcases bt ((!(Bf a.Resist 0 1000))) with e | e
 have h := Bc e h
 exact Ba 22 I e (Bm 27 I (A2 (gR (lg ⟨true, h, I2⟩ [0]))))
 have h := Bd e h
 refine Ba 22 I e (C6 2 [.o 1 0] I J1 (Gx I (Bv a.Wave 0 100000 _ I) (Bm 3 I ?_)))
 rcases bt ((!(Bf a.Wave 0 100000))) with f | f
 have h := Bc f h
 exact Ba 28 I f (Bm 21 I (A2 (gR (lg ⟨true, h, I2⟩ [0]))))
 have h := Bd f h
 obtain ⟨y, ⟨N, O⟩, h⟩ := Bh h
 refine Ba 28 I f (C6 8 [.o 1 0, .x 2 y.1 (By y.2)] I ⟨⟨N, Al O⟩, I, J⟩ ?_)
 rcases bt ((y.2.At != 0)) with g | g
 have h := Bc g h
 exact Ba 36 I g (Bm 13 I (A2 (gR (lg ⟨true, h, I2⟩ [0]))))
 have h := Bd g h
 obtain ⟨A, ⟨P, Q⟩, h⟩ := Bh h
 exact Ba 36 I g (C6 13 [.o 1 0, .o 3 0, .l 4 (a.Points.length : Int), .x 6 A.1 (By A.2), .o 10 0] I ⟨I, ⟨P, Al Q⟩, Ax, I, I, J⟩ (A2 (gR (lg ⟨(A.2.At != a.Capacity), h, I2⟩ [0]))))
 rintro s ob ⟨w, h, rfl, rfl⟩
 refine An h I ?_ ?_
 intro R h
 refine Ag I (gY g0 ?_)
 cases io h
 exact gW pr
 intro R h
 refine gU ?_
 subst M
 refine Aj (fun s ob => ∃ (E : Unit), Mo.J2 E = some r ∧ s = [] ∧ ob = []) [] J ?_ ?_
 refine A8 [.o 1 0, .l 2 (a.Points.length : Int)] I ⟨Ax, I, J⟩ (gV (Cu 51 I fun S => ?_))
 obtain ⟨ai, U, F⟩ := Aa h
 refine Ca U [(1, _), (51, _), (52, _)] J3 (fun (i : Nat) (G : Unit) s ob => s = [(53, .V (i : Int))] ∧ ob = [O3 u [Ao a]]) ⟨I, I⟩ ⟨I, J⟩ ⟨[0], I, by decide⟩ ?_ ?_
 rintro i b G W s ob X H ⟨rfl, rfl⟩ h Y
 unfold Mo.B3 at h
 have Z := Dr H
 refine Ag I (Ab fun aj aa => Bw I Z (gU ?_))
 subst aa
 refine gT (gV (Ab fun ak ab => gQ (Aq 3 [.x 1 i (By b)] I ⟨⟨I, Al X⟩, J⟩ (gS [] I (Cl [.V 0, .V 0, .V 0] 3 fun al => Ac 1 I (gS [1] I (Bo 1 0 0 [By b] I (gR ?_))))))))
 subst ab
 refine Aj (fun s ob => ∃ (B : Bool), Mo.J4 B = some W ∧ s = [(83, .v (.bool B))] ∧ ob = [O3 u [Ao a]]) [(1, _), (51, _), (52, _), (53, _)] J4 ?_ ?_
 rcases bt (decide ((i : Int) > 0)) with j | j
 have h := Bc j h
 obtain ⟨D, ⟨ac, ad⟩, h⟩ := Bh h
 refine C4 (pd 26 0 [17, 23]) [1, 0] [_, _] I (Bm 3 I (Ba 60 I j (C6 12 [.o 1 0, .o 3 1, .x 6 D.1 (By D.2)] I ⟨⟨ac, Al ad⟩, I, I, J⟩ ?_)))
 rcases bt (decide (b.At ≤ D.2.At)) with n | n
 have h := Bc n h
 exact Ba 72 I n (Bm 11 I (A2 (gR (lg ⟨true, h, I2⟩ [0]))))
 have h := Bd n h
 refine Ba 72 I n (C6 2 [.o 1 0] I J1 (Gx I (Bv b.Height (-500) 5000 _ I) (Bm 3 I ?_)))
 rcases bt ((!(Bf b.Height (-500) 5000))) with p | p
 have h := Bc p h
 exact Ba 78 I p (Bm 5 I (A2 (gR (lg ⟨true, h, I2⟩ [0]))))
 have h := Bd p h
 exact Ba 78 I p (C6 2 [.o 1 0] I J1 (Gx I (Bv b.Limit 0 100000000 _ I) (Bm 2 I (A2 (gR (lg ⟨(!(Bf b.Limit 0 100000000)), h, I2⟩ [0]))))))
 have h := Bd j h
 refine C4 (pd 26 0 [17, 23]) [1] [_] I (Bm 3 I (Ba 60 I j (C6 14 [.o 13 0] I J1 (Gx I (Bv b.Height (-500) 5000 _ I) (Bm 3 I ?_)))))
 rcases bt ((!(Bf b.Height (-500) 5000))) with t | t
 have h := Bc t h
 exact Ba 78 I t (Bm 5 I (A2 (gR (lg ⟨true, h, I2⟩ [0]))))
 have h := Bd t h
 exact Ba 78 I t (C6 2 [.o 1 0] I J1 (Gx I (Bv b.Limit 0 100000000 _ I) (Bm 2 I (A2 (gR (lg ⟨(!(Bf b.Limit 0 100000000)), h, I2⟩ [0]))))))
 rintro s ob ⟨B, h, rfl, rfl⟩
 refine An h I ?_ ?_
 intro ae h
 refine Ag I ?_
 obtain rfl := Y _ (oi h).symm
 have h := F
 have h := Dm h
 refine gY g0 ?_
 cases io h
 exact gW pr
 intro ae h
 refine gU (gQ (Aq 2 [.k 0 (i + 1 : Nat)] I ⟨A4 H S, J⟩ ?_))
 cases io h
 exact gR ⟨_, _, _, I, I2, J4, [0], I, by decide⟩
 rintro G s ob ⟨rfl, rfl⟩ he
 subst he
 have h := Dl F
 have af := Ds a.Points.length
 exact Ag I (Ab fun am an => Bx I af (gZ (lg ⟨(), h, I2⟩ [])))
 rintro s ob ⟨E, h, rfl, rfl⟩
 unfold Mo.J2 at h
 refine Ag I ?_
 cases io h
 exact gW pr
theorem X4 (a : Nw) (r : Int) (h : Ip a = some r) : ACalls Ah 82 [.agg (Af a)] [] (RV (.V r)) := by
 refine Ad Tryz.func82 I I I fun C hC => ?_
 unfold Ip at h
 refine Ab fun y1 bn => gQ (gS [] I (Ck (Af a) 6 fun b => Ac 1 I (gR ?_)))
 subst bn
 refine Ab fun y3 bo => E8 49 ((!(Bf (a.Nodes.length : Int) 1 24)) || (decide ((a.Segments.length : Int) > 32) || (decide ((a.Ports.length : Int) > 24) || decide ((a.Stations.length : Int) > 12)))) ?_ ?_
 refine gQ (Aq 3 [.o 1 0, .l 2 (a.Nodes.length : Int)] I ⟨Ax, I, J⟩ (hG (Bv (a.Nodes.length : Int) 1 24 _ I) (Ac 2 I ?_)))
 rcases bt ((!(Bf (a.Nodes.length : Int) 1 24))) with g | g
 exact Ae 32 I g (Ac 17 I (gR (jf (by simp only [g, bz]) I I I2)))
 refine Ae 32 I g (Aq 6 [.o 1 0, .l 2 (a.Segments.length : Int)] I ⟨Ax, I, J⟩ ?_)
 rcases bt (decide ((a.Segments.length : Int) > 32)) with j | j
 exact Ae 38 I j (Ac 11 I (gR (jf (by simp only [g, j, bz]) I I I2)))
 refine Ae 38 I j (Aq 6 [.o 1 0, .l 2 (a.Ports.length : Int)] I ⟨Ax, I, J⟩ ?_)
 rcases bt (decide ((a.Ports.length : Int) > 24)) with t | t
 exact Ae 44 I t (Ac 5 I (gR (jf (by simp only [g, j, t, bz]) I I I2)))
 exact Ae 44 I t (Aq 5 [.o 1 0, .l 2 (a.Stations.length : Int)] I ⟨Ax, I, J⟩ (gR (jf (by simp only [g, j, t, bz]) I I I2)))
 refine An h I ?_ ?_
 intro bp h
 refine Ag I (gY g0 ?_)
 cases io h
 exact gW pr
 intro bp h
 refine gU ?_
 subst bo
 refine Aj (fun s ob => ∃ (Z : Unit), Ip.J1 a Z = some r ∧ s = [] ∧ ob = [O0 b [Af a]]) [(1, _)] J1 ?_ ?_
 refine A8 [.o 1 0, .l 2 (a.Segments.length : Int)] I ⟨Ax, I, J⟩ (gV (Cu 51 I fun bq => ?_))
 obtain ⟨e4, br, aa⟩ := Aa h
 refine Ca br [(1, _), (51, _), (52, _)] J3 (fun (B : Nat) (ab : Unit) s ob => s = [(53, .V (B : Int))] ∧ ob = [O0 b [Af a]]) ⟨I, I⟩ ⟨I, J⟩ ⟨[0], I, by decide⟩ ?_ ?_
 rintro B D ab e5 s ob bs ac ⟨rfl, rfl⟩ h bu
 have bv := Dr ac
 refine Ag I (Ab fun e6 bw => Bw I bv (gU ?_))
 subst bw
 refine gT (gV (gT (gQ (Aq 2 [.x 0 B (Ao D)] I ⟨⟨I, Al bs⟩, J⟩ (gS [] I (Cl W1 7 fun e7 => gS [1] I (Bo 1 0 0 [Ao D] I (gR (gT (gQ (Aq 3 [.o 1 1, .l 2 (D.Points.length : Int)] I ⟨Ax, I, J⟩ (hG (Bv (D.Points.length : Int) 2 8 _ I) (Ac 1 I ?_)))))))))))))
 refine gR (An h I ?_ ?_)
 intro bx h
 refine Ag I ?_
 obtain rfl := bu _ (oi h).symm
 have h := aa
 have h := Dm h
 refine gY g0 ?_
 cases io h
 exact gW pr
 intro bx h
 refine gU (gQ (Aq 2 [.k 0 (B + 1 : Nat)] I ⟨A4 ac bq, J⟩ ?_))
 cases io h
 exact gR ⟨_, _, _, I, I2, J4, [0], I, by decide⟩
 rintro ab s ob ⟨rfl, rfl⟩ he
 subst he
 have h := Dl aa
 have b0 := Ds a.Segments.length
 exact Ag I (Ab fun e8 e9 => Bx I b0 (gZ (lg ⟨(), h, I2⟩ [0])))
 rintro s ob ⟨Z, h, rfl, rfl⟩
 refine Ab fun fa b1 => ?_
 obtain ⟨f, b3, h⟩ := Aa h
 refine gQ (Aq 1 [.o 0 0] I J1 (gS [] I (Dh I I I (X3 _ _ b3) dS ?_)))
 rintro _ _ ⟨rfl, rfl⟩
 refine gS [] I (Cl W2 4 fun E => gS [1] I (hO 1 0 0 (es' := [f.l.map (cL 1 rS)]) I I I I I I I (by simp [Arr.h, Dn]) (by simp [Arr.h, Dn]) I (congrArg (fun r => [r]) (R2 (by simp [Arr.h, Dn]))) (gR ?_)))
 subst b1
 refine Aj (fun s ob => ∃ (ad : Unit), Ip.J2 a f ad = some r ∧ s = [] ∧ ob = [O0 b [Af a], O2 E [f.l.map (cL 1 rS)]]) [(1, _), (5, _)] J2 ?_ ?_
 refine Ab fun fb b4 => gQ (hM (Jp 1 0 0 I I I I I (y := .agg (f.l.map (cL 1 rS))) (R5 I (by simp [Arr.h, Dn]))) I (Ac 1 I (gR ?_)))
 subst b4
 refine gV ?_
 have b5 : (4 : Nat) ≤ 9223372036854775806 := by decide
 obtain ⟨fc, b6, ae⟩ := Aa h
 refine Ff b6 [(1, _), (5, _), (65, _)] J3 (fun (F : Nat) (af : Unit) s ob => s = [(66, .V (F : Int))] ∧ ob = [O0 b [Af a], O2 E [f.l.map (cL 1 rS)]]) ⟨I, I⟩ ⟨I, J⟩ ⟨[0, 1], I, by decide⟩ ?_ ?_
 rintro F af b7 s ob b8 ⟨rfl, rfl⟩ h b9
 unfold Ip.B21 at h
 have ca : decide ((F : Int) < 4) = true := decide_eq_true (by omega)
 refine Ag I (Ab fun fd cb => Bw I ca (gU ?_))
 subst cb
 refine Aj (fun s ob => ∃ (ag : Unit), Ip.J22 ag = some b7 ∧ s = [] ∧ ob = [O0 b [Af a], O2 E [f.l.map (cL 1 rS)]]) [(1, _), (5, _), (65, _), (66, _)] J4 ?_ ?_
 refine gV (Ab fun fe cc => ?_)
 obtain ⟨U, ⟨cd, ce⟩, h⟩ := Bh h
 refine gQ (Bn (Fu (m := U.1) I I I I I I I cd ce (hlen := Arr.h _)) I (Ac 1 I (gR ?_)))
 subst cc
 refine A8 [.l 1 (U.2.length : Int)] I ⟨Ax, J⟩ (gV (Cu 69 I fun cf => ?_))
 obtain ⟨ff, cg, ah⟩ := Aa h
 refine Ca cg [(1, _), (5, _), (65, _), (66, _), (69, _), (70, _)] J6 (fun (G : Nat) (ai : Unit) s ob => s = [(71, .V (G : Int))] ∧ ob = [O0 b [Af a], O2 E [f.l.map (cL 1 rS)]]) ⟨I, I⟩ ⟨I, J⟩ ⟨[0, 1], I, by decide⟩ ?_ ?_
 rintro G ci ai fg s ob cj aj ⟨rfl, rfl⟩ h ck
 have cl := Dr aj
 refine Ag I (Ab fun fh cm => Bw I cl (gU ?_))
 subst cm
 refine gT (gV (A8 [.x 0 G (rS ci)] I ⟨⟨I, Al cj⟩, J⟩ (gT ?_)))
 obtain ⟨fi, cn, h⟩ := Aa h
 refine gQ (Ac 1 I (hG (X2 _ _ cn) (Ac 1 I (gR (An h I ?_ ?_)))))
 intro co h
 refine Ag I ?_
 obtain rfl := ck _ (oi h).symm
 have h := ah
 have h := Dm h
 obtain rfl := b9 _ (oi h).symm
 have h := ae
 have h := Dm h
 refine gY g0 ?_
 cases io h
 exact gW pr
 intro co h
 refine gU (gQ (Aq 2 [.k 0 (G + 1 : Nat)] I ⟨A4 aj cf, J⟩ ?_))
 cases io h
 exact gR ⟨_, _, _, I, I2, J7, [0, 1], I, by decide⟩
 rintro ai s ob ⟨rfl, rfl⟩ he
 subst he
 have h := Dl ah
 have cp := Ds U.2.length
 exact Ag I (Ab fun fj fk => Bx I cp (gZ (lg ⟨(), h, I2⟩ [0, 1])))
 rintro s ob ⟨ag, h, rfl, rfl⟩
 unfold Ip.J22 at h
 refine gQ (Aq 2 [.k 0 (F + 1 : Nat)] I ⟨A4 b8 b5, J⟩ ?_)
 cases io h
 exact gR ⟨_, _, _, I, I2, J4, [0, 1], I, by decide⟩
 rintro af s ob ⟨rfl, rfl⟩ he
 subst he
 have h := Dl ae
 have cq : decide (((4 : Nat) : Int) < 4) = false := by simp
 exact Ag I (Ab fun fl fm => Bx I cq (gZ (lg ⟨(), h, I2⟩ [0, 1])))
 rintro s ob ⟨ad, h, rfl, rfl⟩
 unfold Ip.J2 at h
 refine Aj (fun s ob => ∃ (ak : Unit), Ip.J3 a ak = some r ∧ s = [] ∧ ob = [O0 b [Af a]]) [(1, _)] J1 ?_ ?_
 refine Ab fun fn cr => gQ (hM (Jp 1 0 0 I I I I I (y := .agg (f.l.map (cL 1 rS))) (R5 I (by simp [Arr.h, Dn]))) I (Ac 1 I (gR ?_)))
 subst cr
 refine gV ?_
 have ct : (4 : Nat) ≤ 9223372036854775806 := by decide
 obtain ⟨fo, cu, al⟩ := Aa h
 refine Ff cu [(1, _), (80, _)] J2 (fun (H : Nat) (am : Unit) s ob => s = [(81, .V (H : Int))] ∧ ob = [O0 b [Af a]]) ⟨I, I⟩ ⟨I, J⟩ ⟨[0], I, by decide⟩ ?_ ?_
 rintro H am fp s ob cv ⟨rfl, rfl⟩ h cw
 have cx : decide ((H : Int) < 4) = true := decide_eq_true (by omega)
 refine Ag I (Ab fun fq cy => Bw I cx (gU ?_))
 subst cy
 refine gT (gV (gT ?_))
 obtain ⟨cz, ⟨c0, c1⟩, h⟩ := Bh h
 refine gQ (Bn (Fu (m := cz.1) I I I I I I I c0 c1 (hlen := Arr.h _)) I (Ac 1 I (gR (gT ?_))))
 obtain ⟨fr, c2, h⟩ := Aa h
 refine gQ (Ac 1 I (hG (Yo _ _ c2) (gR (An h I ?_ ?_))))
 intro c3 h
 refine Ag I ?_
 obtain rfl := cw _ (oi h).symm
 have h := al
 have h := Dm h
 refine gY g0 ?_
 cases io h
 exact gW pr
 intro c3 h
 refine gU (gQ (Aq 2 [.k 0 (H + 1 : Nat)] I ⟨A4 cv ct, J⟩ ?_))
 cases io h
 exact gR ⟨_, _, _, I, I2, J3, [0], I, by decide⟩
 rintro am s ob ⟨rfl, rfl⟩ he
 subst he
 have h := Dl al
 have c4 : decide (((4 : Nat) : Int) < 4) = false := by simp
 exact Ag I (Ab fun fs ft => Bx I c4 (gZ (lg ⟨(), h, I2⟩ [0])))
 rintro s ob ⟨ak, h, rfl, rfl⟩
 unfold Ip.J3 at h
 refine Aj (fun s ob => ∃ (an : Unit), Ip.J4 a an = some r ∧ s = [] ∧ ob = [O0 b [Af a]]) [(1, _)] J1 ?_ ?_
 refine A8 [.o 1 0, .l 2 (a.Stations.length : Int)] I ⟨Ax, I, J⟩ (gV (Cu 88 I fun c5 => ?_))
 obtain ⟨fu, c6, ao⟩ := Aa h
 refine Ca c6 [(1, _), (89, _)] J2 (fun (K : Nat) (ap : Unit) s ob => s = [(90, .V (K : Int))] ∧ ob = [O0 b [Af a]]) ⟨I, I⟩ ⟨I, J⟩ ⟨[0], I, by decide⟩ ?_ ?_
 rintro K c7 ap c8 s ob c9 aq ⟨rfl, rfl⟩ h da
 unfold Ip.B17 at h
 have db := Dr aq
 refine Ag I (Ab fun fv dc => Bw I db (gU ?_))
 subst dc
 refine Aj (fun s ob => ∃ (ar : Unit), Ip.J18 ar = some c8 ∧ s = [] ∧ ob = [O0 b [Af a]]) [(1, _), (89, _), (90, _)] J3 ?_ ?_
 refine gV (Ag I (Ag I (gV ?_)))
 obtain ⟨fw, dd, au⟩ := Aa h
 refine A5 dd [(1, _), (12, _), (89, _), (90, _)] J4 (fun (av : Int) s ob => s = [(13, .V av)] ∧ ob = [O0 b [Af a]]) ⟨I, I⟩ ⟨I, J⟩ ⟨[0], I, by decide⟩ ?_
 rintro av fx s ob ⟨rfl, rfl⟩ h aw
 refine Ab fun fy de => Ag I (An h I ?_ ?_)
 intro df h
 refine gU ?_
 subst de
 refine gT (gV (gT ?_))
 obtain ⟨ax, ⟨dg, dh⟩, h⟩ := Bh h
 refine Gw (pd 13 0 []) [0] [_] [.o 1 0, .x 3 K (Az c7), .o 7 0, .x 9 ax.1 (Az ax.2)] I I ⟨⟨dg, Al dh⟩, I, ⟨I, Al c9⟩, I, J⟩ (An h I ?_ ?_)
 intro di h
 refine Ag I ?_
 obtain rfl := aw _ (oi h).symm
 have h := au
 have h := Dl h
 obtain rfl := da _ (oi h).symm
 have h := ao
 have h := Dm h
 refine gY g0 ?_
 cases io h
 exact gW pr
 intro di h
 refine gU (gQ (Ac 3 I ?_))
 cases io h
 exact gR ⟨_, _, _, I, I2, J5, [0], I, by decide⟩
 intro df h
 obtain rfl := aw _ (oi h).symm
 have h := au
 have h := Dm h
 exact gZ (lg ⟨(), h, I2⟩ [0])
 rintro s ob ⟨ar, h, rfl, rfl⟩
 unfold Ip.J18 at h
 refine gQ (Aq 2 [.k 0 (K + 1 : Nat)] I ⟨A4 aq c5, J⟩ ?_)
 cases io h
 exact gR ⟨_, _, _, I, I2, J3, [0], I, by decide⟩
 rintro ap s ob ⟨rfl, rfl⟩ he
 subst he
 have h := Dl ao
 have dj := Ds a.Stations.length
 exact Ag I (Ab fun fz f0 => Bx I dj (gZ (lg ⟨(), h, I2⟩ [0])))
 rintro s ob ⟨an, h, rfl, rfl⟩
 unfold Ip.J4 at h
 refine A8 [.o 1 0, .l 2 (a.Nodes.length : Int)] I ⟨Ax, I, J⟩ (Aj (fun s ob => ∃ (ay : Unit), Ip.J5 a ay = some r ∧ s = [] ∧ ob = [O0 b [Af a]]) [(1, _), (14, _)] J2 ?_ ?_)
 refine A8 [.o 1 0, .l 2 (a.Segments.length : Int)] I ⟨Ax, I, J⟩ (gV (Cu 117 I fun dk => ?_))
 obtain ⟨f1, dl, az⟩ := Aa h
 refine Ca dl [(1, _), (14, _), (117, _), (118, _)] J4 (fun (M : Nat) (a0 : Unit) s ob => s = [(119, .V (M : Int))] ∧ ob = [O0 b [Af a]]) ⟨I, I⟩ ⟨I, J⟩ ⟨[0], I, by decide⟩ ?_ ?_
 rintro M i a0 f2 s ob dm a1 ⟨rfl, rfl⟩ h dn
 unfold Ip.B16 at h
 have dp := Dr a1
 refine Ag I (Ab fun f3 dq => Bw I dp (gU ?_))
 subst dq
 refine gT (gV (Ab fun f4 dr => gQ (Aq 2 [.x 0 M (Ao i)] I ⟨⟨I, Al dm⟩, J⟩ (gS [] I (Cl W1 7 fun f5 => gS [1] I (Bo 1 0 0 [Ao i] I (gR ?_)))))))
 subst dr
 refine E8 134 ((!(Bf i.From 0 (wr ((a.Nodes.length : Int) - 1)))) || (!(Bf i.To 0 (wr ((a.Nodes.length : Int) - 1))))) ?_ ?_
 refine gQ (Aq 3 [.o 1 1] I J1 (hG (Bv i.From 0 (wr ((a.Nodes.length : Int) - 1)) _ I) (Ac 2 I ?_)))
 rcases bt ((!(Bf i.From 0 (wr ((a.Nodes.length : Int) - 1))))) with u | u
 exact Ae 128 I u (Ac 6 I (gR (jf (by simp only [u, bz]) I I I2)))
 exact Ae 128 I u (Aq 3 [.o 1 1] I J1 (Bg I I I (hG (Bv i.To 0 (wr ((a.Nodes.length : Int) - 1)) _ I) (Ac 2 I (gR (jf (by simp only [u, bz]) I I I2))))))
 refine An h I ?_ ?_
 intro ds h
 refine Ag I ?_
 obtain rfl := dn _ (oi h).symm
 have h := az
 have h := Dm h
 refine gY g0 ?_
 cases io h
 exact gW pr
 intro ds h
 refine gU (gQ (Aq 2 [.k 0 (M + 1 : Nat)] I ⟨A4 a1 dk, J⟩ ?_))
 cases io h
 exact gR ⟨_, _, _, I, I2, J5, [0], I, by decide⟩
 rintro a0 s ob ⟨rfl, rfl⟩ he
 subst he
 have h := Dl az
 have du := Ds a.Segments.length
 exact Ag I (Ab fun f6 f7 => Bx I du (gZ (lg ⟨(), h, I2⟩ [0])))
 rintro s ob ⟨ay, h, rfl, rfl⟩
 unfold Ip.J5 at h
 refine Aj (fun s ob => ∃ (a2 : Unit), Ip.J6 a a2 = some r ∧ s = [] ∧ ob = [O0 b [Af a]]) [(1, _), (14, _)] J2 ?_ ?_
 refine A8 [.o 1 0, .l 2 (a.Ports.length : Int)] I ⟨Ax, I, J⟩ (gV (Cu 137 I fun dv => ?_))
 obtain ⟨f8, dw, a3⟩ := Aa h
 refine Ca dw [(1, _), (14, _), (137, _), (138, _)] J4 (fun (O : Nat) (a4 : Unit) s ob => s = [(139, .V (O : Int))] ∧ ob = [O0 b [Af a]]) ⟨I, I⟩ ⟨I, J⟩ ⟨[0], I, by decide⟩ ?_ ?_
 rintro O W a4 f9 s ob dx a5 ⟨rfl, rfl⟩ h dy
 have dz := Dr a5
 refine Ag I (Ab fun ga d0 => Bw I dz (gU ?_))
 subst d0
 refine gT (gV (gT (gQ (Aq 2 [.x 0 O (B1 W)] I ⟨⟨I, Al dx⟩, J⟩ (gS [] I (Cl W4 3 fun gb => gS [1] I (Bo 1 0 0 [B1 W] I (gR (gT (gQ (Aq 3 [.o 1 1] I J1 (hG (Bv W.Node 0 (wr ((a.Nodes.length : Int) - 1)) _ I) (Ac 1 I ?_)))))))))))))
 refine gR (An h I ?_ ?_)
 intro d1 h
 refine Ag I ?_
 obtain rfl := dy _ (oi h).symm
 have h := a3
 have h := Dm h
 refine gY g0 ?_
 cases io h
 exact gW pr
 intro d1 h
 refine gU (gQ (Aq 2 [.k 0 (O + 1 : Nat)] I ⟨A4 a5 dv, J⟩ ?_))
 cases io h
 exact gR ⟨_, _, _, I, I2, J5, [0], I, by decide⟩
 rintro a4 s ob ⟨rfl, rfl⟩ he
 subst he
 have h := Dl a3
 have d2 := Ds a.Ports.length
 exact Ag I (Ab fun gc gd => Bx I d2 (gZ (lg ⟨(), h, I2⟩ [0])))
 rintro s ob ⟨a2, h, rfl, rfl⟩
 unfold Ip.J6 at h
 refine Aj (fun s ob => ∃ (a6 : Unit), Ip.J7 a a6 = some r ∧ s = [] ∧ ob = [O0 b [Af a]]) [(1, _)] J1 ?_ ?_
 refine A8 [.o 1 0, .l 2 (a.Stations.length : Int)] I ⟨Ax, I, J⟩ (gV (Cu 150 I fun d3 => ?_))
 obtain ⟨ge, d4, a7⟩ := Aa h
 refine Ca d4 [(1, _), (14, _), (150, _), (151, _)] J4 (fun (P : Nat) (a8 : Unit) s ob => s = [(152, .V (P : Int))] ∧ ob = [O0 b [Af a]]) ⟨I, I⟩ ⟨I, J⟩ ⟨[0], I, by decide⟩ ?_ ?_
 rintro P X a8 gf s ob d5 a9 ⟨rfl, rfl⟩ h d6
 have d7 := Dr a9
 refine Ag I (Ab fun gg d8 => Bw I d7 (gU ?_))
 subst d8
 refine gT (gV (gT (gQ (Aq 2 [.x 0 P (Az X)] I ⟨⟨I, Al d5⟩, J⟩ (gS [] I (Cl W3 5 fun gh => gS [1] I (Bo 1 0 0 [Az X] I (gR (gT (gQ (Aq 3 [.o 1 1] I J1 (hG (Bv X.Node 0 (wr ((a.Nodes.length : Int) - 1)) _ I) (Ac 1 I ?_)))))))))))))
 refine gR (An h I ?_ ?_)
 intro d9 h
 refine Ag I ?_
 obtain rfl := d6 _ (oi h).symm
 have h := a7
 have h := Dm h
 refine gY g0 ?_
 cases io h
 exact gW pr
 intro d9 h
 refine gU (gQ (Aq 2 [.k 0 (P + 1 : Nat)] I ⟨A4 a9 d3, J⟩ ?_))
 cases io h
 exact gR ⟨_, _, _, I, I2, J5, [0], I, by decide⟩
 rintro a8 s ob ⟨rfl, rfl⟩ he
 subst he
 have h := Dl a7
 have ea := Ds a.Stations.length
 exact Ag I (Ab fun gi gj => Bx I ea (gZ (lg ⟨(), h, I2⟩ [0])))
 rintro s ob ⟨a6, h, rfl, rfl⟩
 unfold Ip.J7 at h
 refine Aj (fun s ob => ∃ (ba : Unit), Ip.J8 a ba = some r ∧ s = [] ∧ ob = [O0 b [Af a]]) [(1, _)] J1 ?_ ?_
 refine A8 [.o 1 0, .l 2 (a.Segments.length : Int)] I ⟨Ax, I, J⟩ (gV (Cu 163 I fun eb => ?_))
 obtain ⟨gk, ec, bb⟩ := Aa h
 refine Ca ec [(1, _), (163, _), (164, _)] J3 (fun (Q : Nat) (bc : Unit) s ob => s = [(165, .V (Q : Int))] ∧ ob = [O0 b [Af a]]) ⟨I, I⟩ ⟨I, J⟩ ⟨[0], I, by decide⟩ ?_ ?_
 rintro Q bd bc gl s ob ed be ⟨rfl, rfl⟩ h ee
 have ef := Dr be
 refine Ag I (Ab fun gm eg => Bw I ef (gU ?_))
 subst eg
 refine gT (gV (gT (gQ (Aq 2 [.x 0 Q (Ao bd)] I ⟨⟨I, Al ed⟩, J⟩ (gS [] I (Cl W1 7 fun gn => gS [1] I (Bo 1 0 0 [Ao bd] I (gR (gT ?_)))))))))
 obtain ⟨go, eh, h⟩ := Aa h
 refine gQ (Aq 1 [.o 0 1] I J1 (hG (X0 _ _ eh) (Ac 1 I (gR (An h I ?_ ?_)))))
 intro ei h
 refine Ag I ?_
 obtain rfl := ee _ (oi h).symm
 have h := bb
 have h := Dm h
 refine gY g0 ?_
 cases io h
 exact gW pr
 intro ei h
 refine gU (gQ (Aq 2 [.k 0 (Q + 1 : Nat)] I ⟨A4 be eb, J⟩ ?_))
 cases io h
 exact gR ⟨_, _, _, I, I2, J4, [0], I, by decide⟩
 rintro bc s ob ⟨rfl, rfl⟩ he
 subst he
 have h := Dl bb
 have ej := Ds a.Segments.length
 exact Ag I (Ab fun gp gq => Bx I ej (gZ (lg ⟨(), h, I2⟩ [0])))
 rintro s ob ⟨ba, h, rfl, rfl⟩
 unfold Ip.J8 at h
 refine Aj (fun s ob => ∃ (bf : Unit), Ip.J9 a bf = some r ∧ s = [] ∧ ob = [O0 b [Af a]]) [(1, _)] J1 ?_ ?_
 refine A8 [.o 1 0, .l 2 (a.Ports.length : Int)] I ⟨Ax, I, J⟩ (gV (Cu 174 I fun ek => ?_))
 obtain ⟨gr, el, bg⟩ := Aa h
 refine Ca el [(1, _), (174, _), (175, _)] J3 (fun (R : Nat) (bh : Unit) s ob => s = [(176, .V (R : Int))] ∧ ob = [O0 b [Af a]]) ⟨I, I⟩ ⟨I, J⟩ ⟨[0], I, by decide⟩ ?_ ?_
 rintro R Y bh gs s ob em bi ⟨rfl, rfl⟩ h en
 have eo := Dr bi
 refine Ag I (Ab fun gu ep => Bw I eo (gU ?_))
 subst ep
 refine gT (gV (gT (gQ (Aq 2 [.x 0 R (B1 Y)] I ⟨⟨I, Al em⟩, J⟩ (gS [] I (Cl W4 3 fun gv => gS [1] I (Bo 1 0 0 [B1 Y] I (gR (gT (gQ (Aq 2 [.o 1 1] I J1 (hG (Bv Y.Pressure 0 100000000 _ I) (Ac 1 I ?_)))))))))))))
 refine gR (An h I ?_ ?_)
 intro eq h
 refine Ag I ?_
 obtain rfl := en _ (oi h).symm
 have h := bg
 have h := Dm h
 refine gY g0 ?_
 cases io h
 exact gW pr
 intro eq h
 refine gU (gQ (Aq 2 [.k 0 (R + 1 : Nat)] I ⟨A4 bi ek, J⟩ ?_))
 cases io h
 exact gR ⟨_, _, _, I, I2, J4, [0], I, by decide⟩
 rintro bh s ob ⟨rfl, rfl⟩ he
 subst he
 have h := Dl bg
 have er := Ds a.Ports.length
 exact Ag I (Ab fun gw gx => Bx I er (gZ (lg ⟨(), h, I2⟩ [0])))
 rintro s ob ⟨bf, h, rfl, rfl⟩
 unfold Ip.J9 at h
 refine Aj (fun s ob => ∃ (bj : Unit), Ip.J10 a bj = some r ∧ s = [] ∧ ob = [O0 b [Af a]]) [(1, _)] J1 ?_ ?_
 refine A8 [.o 1 0, .l 2 (a.Stations.length : Int)] I ⟨Ax, I, J⟩ (gV (Cu 186 I fun es => ?_))
 obtain ⟨gy, et, bk⟩ := Aa h
 refine Ca et [(1, _), (186, _), (187, _)] J3 (fun (S : Nat) (bl : Unit) s ob => s = [(188, .V (S : Int))] ∧ ob = [O0 b [Af a]]) ⟨I, I⟩ ⟨I, J⟩ ⟨[0], I, by decide⟩ ?_ ?_
 rintro S e bl gz s ob eu bm ⟨rfl, rfl⟩ h ev
 unfold Ip.B11 at h
 have ew := Dr bm
 refine Ag I (Ab fun g1 ex => Bw I ew (gU ?_))
 subst ex
 refine gT (gV (Ab fun g2 ey => gQ (Aq 2 [.x 0 S (Az e)] I ⟨⟨I, Al eu⟩, J⟩ (gS [] I (Cl W3 5 fun g3 => gS [1] I (Bo 1 0 0 [Az e] I (gR ?_)))))))
 subst ey
 refine E8 207 ((!(Bf e.Head 0 100000000)) || ((!(Bf e.Fall 0 100000)) || (!(Bf e.Suction 0 100000000)))) ?_ ?_
 refine gQ (Aq 2 [.o 1 1] I J1 (hG (Bv e.Head 0 100000000 _ I) (Ac 2 I ?_)))
 rcases bt ((!(Bf e.Head 0 100000000))) with n | n
 exact Ae 196 I n (Ac 11 I (gR (jf (by simp only [n, bz]) I I I2)))
 refine Ae 196 I n (Aq 2 [.o 1 1] I J1 (Bg I I I (hG (Bv e.Fall 0 100000 _ I) (Ac 3 I ?_))))
 rcases bt ((!(Bf e.Fall 0 100000))) with w | w
 exact Ae 202 I w (Ac 5 I (gR (jf (by simp only [n, w, bz]) I I I2)))
 exact Ae 202 I w (Aq 2 [.o 1 1] I J1 (Bg I I I (hG (Bv e.Suction 0 100000000 _ I) (Ac 2 I (gR (jf (by simp only [n, w, bz]) I I I2))))))
 refine An h I ?_ ?_
 intro ez h
 refine Ag I ?_
 obtain rfl := ev _ (oi h).symm
 have h := bk
 have h := Dm h
 refine gY g0 ?_
 cases io h
 exact gW pr
 intro ez h
 refine gU (gQ (Aq 2 [.k 0 (S + 1 : Nat)] I ⟨A4 bm es, J⟩ ?_))
 cases io h
 exact gR ⟨_, _, _, I, I2, J4, [0], I, by decide⟩
 rintro bl s ob ⟨rfl, rfl⟩ he
 subst he
 have h := Dl bk
 have e0 := Ds a.Stations.length
 exact Ag I (Ab fun g4 g5 => Bx I e0 (gZ (lg ⟨(), h, I2⟩ [0])))
 rintro s ob ⟨bj, h, rfl, rfl⟩
 unfold Ip.J10 at h
 refine gT (E8 218 ((!(Bf a.Vapour (-100000) 100000000)) || (!(Bf a.Settle 0 100))) ?_ ?_)
 refine gQ (Aq 2 [.o 1 0] I J1 (hG (Bv a.Vapour (-100000) 100000000 _ I) (Ac 2 I ?_)))
 rcases bt ((!(Bf a.Vapour (-100000) 100000000))) with A | A
 exact Ae 213 I A (Ac 5 I (gR (jf (by simp only [A, bz]) I I I2)))
 exact Ae 213 I A (Aq 2 [.o 1 0] I J1 (Bg I I I (hG (Bv a.Settle 0 100 _ I) (Ac 2 I (gR (jf (by simp only [A, bz]) I I I2))))))
 refine An h I ?_ ?_
 intro e1 h
 refine Ag I (gY g0 ?_)
 cases io h
 exact gW pr
 intro e1 h
 refine gU (Ag I (gY g0 ?_))
 cases io h
 exact gW pr
theorem Hr (a : Int) (r : Bool) (h : Ei a = r) : ACalls Ah 179 [.V a] [] (RB r) := by
 refine Ad Tryz.func179 I I I fun C hC => ?_
 unfold Ei at h
 refine Ag I (Aj (fun s ob => s = [(2, .v (.bool (decide (a ≥ 0) && decide (a ≤ 1099511627776))))] ∧ ob = []) [] J ?_ ?_)
 refine gQ (Ac 3 I ?_)
 rcases bt (decide (a ≥ 0)) with b | b
 refine Ae 5 I b (Ac 4 I (gR ?_))
 exact lf I2 ⟨(C0 (by simp only [b, bz])), J⟩ [] I
 refine Ae 5 I b (Ac 4 I (gR ?_))
 exact lf I2 ⟨(C0 (by simp only [b, bz])), J⟩ [] I
 rintro s ob ⟨rfl, rfl⟩
 obtain rfl := h
 exact gW pr
theorem K7 (e : List Balance) (r : Int) (h : G2 e = some r) : ACalls Ah 130 [Q2 e] [] (RV (.V r)) := by
 refine Ad Tryz.func130 I I I fun C hC => ?_
 refine Ag I (Ab fun B o => A8 [.l 1 (e.length : Int)] I ⟨Ax, J⟩ (An h I ?_ ?_))
 intro p h
 refine Ag I ?_
 cases io h
 exact gW pr
 intro p h
 refine gU ?_
 subst o
 refine Aj (fun s ob => ∃ (k : Unit), G2.J1 k = some r ∧ s = [] ∧ ob = []) [] J ?_ ?_
 refine Ag I (gV ?_)
 obtain ⟨D, t, m⟩ := Aa h
 refine A5 t [(0, _)] J1 (fun (f : Int) s ob => s = [(3, .V f)] ∧ ob = []) ⟨I, I⟩ ⟨I, J⟩ ⟨[], I, by decide⟩ ?_
 rintro f u s ob ⟨rfl, rfl⟩ h n
 refine Ab fun E w => A8 [.l 2 (e.length : Int)] I ⟨Ax, J⟩ (An h I ?_ ?_)
 intro y h
 refine gU ?_
 subst w
 refine gT (gV (Aj (fun s ob => ∃ (g : Bool), G2.J3 f g = some u ∧ s = [(37, .v (.bool g))] ∧ ob = []) [(0, _), (3, _)] J2 ?_ ?_))
 obtain ⟨a, ⟨i, j⟩, h⟩ := Bh h
 refine gQ (Aq 5 [.x 2 a.1 (A1 a.2)] I ⟨⟨i, Al j⟩, J⟩ (hG (Hr a.2.In _ I) (Ac 2 I ?_)))
 rcases bt ((!(Ei a.2.In))) with b | b
 have h := Bc b h
 exact Ae 20 I b (Ac 17 I (gR (lg ⟨true, h, I2⟩ [])))
 have h := Bd b h
 refine Ae 20 I b (Aq 5 [.x 2 a.1 (A1 a.2)] I ⟨⟨i, Al j⟩, J⟩ (Bg I I I (hG (Hr a.2.Out _ I) (Ac 3 I ?_))))
 rcases bt ((!(Ei a.2.Out))) with d | d
 have h := Bc d h
 exact Ae 29 I d (Ac 8 I (gR (lg ⟨true, h, I2⟩ [])))
 have h := Bd d h
 exact Ae 29 I d (Aq 5 [.x 2 a.1 (A1 a.2)] I ⟨⟨i, Al j⟩, J⟩ (Bg I I I (hG (Hr a.2.Pack _ I) (Ac 2 I (gR (lg ⟨(!(Ei a.2.Pack)), h, I2⟩ []))))))
 rintro s ob ⟨g, h, rfl, rfl⟩
 refine An h I ?_ ?_
 intro A h
 refine Ag I ?_
 obtain rfl := n _ (oi h).symm
 have h := m
 have h := Dl h
 cases io h
 exact gW pr
 intro A h
 refine gU (gQ (Ac 3 I ?_))
 cases io h
 exact gR ⟨_, _, _, I, I2, J2, [], I, by decide⟩
 intro y h
 obtain rfl := n _ (oi h).symm
 have h := m
 have h := Dm h
 exact gZ (lg ⟨(), h, I2⟩ [])
 rintro s ob ⟨k, h, rfl, rfl⟩
 unfold G2.J1 at h
 refine Ag I ?_
 cases io h
 exact gW pr
theorem O8 (a : Accuracy) (r : Bool) (h : Ig a = r) : ACalls Ah 131 [.agg (Am a)] [] (RB r) := by
 refine Ad Tryz.func131 I I I fun C hC => ?_
 unfold Ig at h
 refine Ab fun f e => gQ (gS [] I (Ck (Am a) 2 fun g => Ac 1 I (gR ?_)))
 subst e
 refine Aj (fun s ob => s = [(2, .v (.bool (decide (a.Meter ≥ 0) && (decide (a.Meter ≤ 100000) && (Ei a.Pack)))))] ∧ ob = []) [] J ?_ ?_
 refine gQ (Aq 4 [.o 1 0] I J1 ?_)
 rcases bt (decide (a.Meter ≥ 0)) with b | b
 refine Ae 6 I b (Aq 5 [.o 1 0] I J1 ?_)
 rcases bt (decide (a.Meter ≤ 100000)) with d | d
 refine Ae 11 I d (Aq 2 [.o 1 0] I J1 (Bg I I I (hG (Hr a.Pack _ I) (Ac 2 I (gR ?_)))))
 exact lf I2 ⟨(C0 (by simp only [b, d, bz])), J⟩ [] I
 refine Ae 11 I d (Ac 5 I (gR ?_))
 exact lf I2 ⟨(C0 (by simp only [b, d, bz])), J⟩ [] I
 refine Ae 6 I b (Ac 10 I (gR ?_))
 exact lf I2 ⟨(C0 (by simp only [b, bz])), J⟩ [] I
 rintro s ob ⟨rfl, rfl⟩
 obtain rfl := h
 exact gW pr
theorem Pp (i : List Balance) (a : Accuracy) (d : Int) (e : Int) (r : Int) (h : Mn i a d e = some r) : ACalls Ah 70 [Q2 i, .agg (Am a), .V d, .V e] [] (RV (.V r)) := by
 refine Ad Tryz.func70 I I I fun C hC => ?_
 refine Ab fun u j => gQ (gS [] I (Ck (Am a) 2 fun v => Ac 1 I (gR ?_)))
 subst j
 refine Ab fun w k => gT ?_
 obtain ⟨y, l, h⟩ := Aa h
 refine gQ (Ac 1 I (hG (K7 _ _ l) (Ac 1 I (gR (Ag I (An h I ?_ ?_))))))
 intro n h
 refine Ag I (gY g0 ?_)
 cases io h
 exact gW pr
 intro n h
 refine gU ?_
 subst k
 refine Ab fun A p => E8 25 ((!(Ig a)) || (decide (e < 0) || decide (e > 1099511627776))) ?_ ?_
 refine gQ (Aq 1 [.o 0 0] I J1 (hG (O8 a _ I) (Ac 2 I ?_)))
 rcases bt ((!(Ig a))) with b | b
 exact Ae 18 I b (Ac 7 I (gR (jf (by simp only [b, bz]) I I I2)))
 refine Ae 18 I b (Ac 4 I ?_)
 rcases bt (decide (e < 0)) with f | f
 exact Ae 22 I f (Ac 3 I (gR (jf (by simp only [b, f, bz]) I I I2)))
 exact Ae 22 I f (Ac 3 I (gR (jf (by simp only [b, f, bz]) I I I2)))
 refine An h I ?_ ?_
 intro s h
 refine Ag I (gY g0 ?_)
 cases io h
 exact gW pr
 intro s h
 refine gU ?_
 subst p
 refine gT (E8 31 (decide (d < 1) || decide (d > 400)) ?_ ?_)
 refine gQ (Ac 3 I ?_)
 rcases bt (decide (d < 1)) with g | g
 exact Ae 28 I g (Ac 3 I (gR (jf (by simp only [g, bz]) I I I2)))
 exact Ae 28 I g (Ac 3 I (gR (jf (by simp only [g, bz]) I I I2)))
 refine An h I ?_ ?_
 intro t h
 refine Ag I (gY g0 ?_)
 cases io h
 exact gW pr
 intro t h
 refine gU (Ag I (gY g0 ?_))
 cases io h
 exact gW pr
theorem Pl (d : List Balance) (e : Int) (a : Int) (r : Int) (h : D9 d e a = r) : ACalls Ah 132 [Q2 d, .V e, .V a] [] (RV (.V r)) := by
 refine Ad Tryz.func132 I I I fun C hC => ?_
 unfold D9 at h
 refine Ag I (gT (E8 23 (decide (a < 0) || (decide (a ≥ (d.length : Int)) || (decide (e < 0) || decide (e ≥ a)))) ?_ ?_))
 refine gQ (Ac 3 I ?_)
 rcases bt (decide (a < 0)) with b | b
 exact Ae 9 I b (Ac 14 I (gR (jf (by simp only [b, bz]) I I I2)))
 refine Ae 9 I b (Aq 6 [.l 2 (d.length : Int)] I ⟨Ax, J⟩ ?_)
 rcases bt (decide (a ≥ (d.length : Int))) with c | c
 exact Ae 15 I c (Ac 8 I (gR (jf (by simp only [b, c, bz]) I I I2)))
 refine Ae 15 I c (Ac 4 I ?_)
 rcases bt (decide (e < 0)) with f | f
 exact Ae 19 I f (Ac 4 I (gR (jf (by simp only [b, c, f, bz]) I I I2)))
 exact Ae 19 I f (Ac 4 I (gR (jf (by simp only [b, c, f, bz]) I I I2)))
 refine An h I ?_ ?_
 intro g h
 refine Ag I ?_
 obtain rfl := h
 exact gW pr
 intro g h
 refine gU (Ag I ?_)
 obtain rfl := h
 exact gW pr
theorem Pd (d : List Balance) (e : Int) (f : Int) (r : Int) (h : Ko d e f = some r) : ACalls Ah 133 [Q2 d, .V e, .V f] [] (RV (.V r)) := by
 refine Ad Tryz.func133 I I I fun C hC => ?_
 refine Ag I (Ab fun A l => ?_)
 obtain ⟨g, ⟨m, n⟩, h⟩ := Bh h
 obtain ⟨i, ⟨o, p⟩, h⟩ := Bh h
 refine Gw (pd 12 0 []) [] [] [.x 2 g.1 (A1 g.2), .x 7 i.1 (A1 i.2)] I I ⟨⟨o, Al p⟩, ⟨m, Al n⟩, J⟩ ?_
 subst l
 refine Aj (fun s ob => ∃ (c : Int), Ko.J1 c = some r ∧ s = [(7, .V c)] ∧ ob = []) [] J ?_ ?_
 refine Ag I (gV ?_)
 obtain ⟨B, t, u⟩ := Aa h
 refine A5 t [(0, _), (2, _)] J2 (fun (a : Int × Int) s ob => s = [(7, .V a.1), (8, .V a.2)] ∧ ob = []) ⟨I, I⟩ ⟨I, I, J⟩ ⟨[], I, by decide⟩ ?_
 rintro a D s ob ⟨rfl, rfl⟩ h v
 refine Ab fun E w => Ag I (An h I ?_ ?_)
 intro y h
 refine gU ?_
 subst w
 refine gT (gV ?_)
 obtain ⟨b, ⟨j, k⟩, h⟩ := Bh h
 refine Gw (pd 14 0 []) [] [] [.x 3 b.1 (A1 b.2), .x 9 b.1 (A1 b.2)] I I ⟨⟨j, Al k⟩, ⟨j, Al k⟩, J⟩ (gQ (Ac 3 I ?_))
 cases io h
 exact gR ⟨_, _, _, I, I2, J4, [], I, by decide⟩
 intro y h
 obtain rfl := v _ (oi h).symm
 have h := u
 exact gZ (lg ⟨a.1, h, I2⟩ [])
 rintro s ob ⟨c, h, rfl, rfl⟩
 unfold Ko.J1 at h
 refine Ag I ?_
 cases io h
 exact gW pr
theorem W6 (a : List Balance) (b : Int) (d : Int) (r : Int × Int) (h : Qa a b d = some r) : ACalls Ah 71 [Q2 a, .V b, .V d] [] (RV (.tup [.V r.1, .V r.2])) := by
 refine Ad Tryz.func71 I I I fun C hC => ?_
 refine Ag I (Ab fun k e => gT ?_)
 obtain ⟨l, f, h⟩ := Aa h
 refine gQ (Ac 1 I (hG (K7 _ _ f) (Ac 1 I (gR (Ag I (An h I ?_ ?_))))))
 intro g h
 refine Ag I ?_
 cases io h
 exact gW ⟨.inr I, [_, _], [], J2, Cd, I2⟩
 intro g h
 refine gU ?_
 subst e
 refine gT (gT (gQ (Ac 3 I (hG (Pl a b d _ I) (Ac 1 I (gR (Ag I (An h I ?_ ?_))))))))
 intro i h
 refine Ag I ?_
 cases io h
 exact gW ⟨.inr I, [_, _], [], J2, Cd, I2⟩
 intro i h
 refine gU (gT ?_)
 obtain ⟨m, j, h⟩ := Aa h
 refine gQ (Ac 3 I (hG (Pd _ _ _ _ j) (Ac 2 I (gR ?_))))
 cases io h
 exact gW ⟨.inr I, [_, _], [], J2, Cd, I2⟩
theorem Pm (a : Int) (b : Int) (r : Int) (h : D2 a b = r) : ACalls Ah 180 [.V a, .V b] [] (RV (.V r)) := by
 refine Ad Tryz.func180 I I I fun C hC => ?_
 unfold D2 at h
 refine Ag I (A8 [.f 1 (.V (wr (a.tdiv 1000000))), .f 3 (.V (a.tmod 1000000))] I ⟨iB (C2 (c := (a.tmod 1000000)) I I ⟨by decide, I⟩), iB (C2 (c := wr (a.tdiv 1000000)) I I ⟨by decide, I⟩), J⟩ (A8 [.f 7 (.V (wr ((wr ((wr ((a.tmod 1000000) * b)) + 999999)).tdiv 1000000)))] I ⟨iB (C2 (c := wr ((wr ((wr ((a.tmod 1000000) * b)) + 999999)).tdiv 1000000)) I I ⟨by decide, I⟩), J⟩ ?_))
 obtain rfl := h
 exact gW pr
theorem Xc (f : List Balance) (a : Accuracy) (g : Int) (i : Int) (r : Int) (h : Kp f a g i = some r) : ACalls Ah 134 [Q2 f, .agg (Am a), .V g, .V i] [] (RV (.V r)) := by
 refine Ad Tryz.func134 I I I fun C hC => ?_
 unfold Kp at h
 refine Ab fun y n => gQ (gS [] I (Ck (Am a) 2 fun j => Ac 1 I (gR ?_)))
 subst n
 refine Ag I (Aj (fun s ob => ∃ (b : Int × Int), Kp.J1 a b = some r ∧ s = [(9, .V b.1), (10, .V b.2)] ∧ ob = [O4 j [Am a]]) [(5, _)] J1 ?_ ?_)
 refine Ag I (gV ?_)
 obtain ⟨A, p, t⟩ := Aa h
 refine A5 p [(0, _), (3, _), (5, _)] J3 (fun (d : Int × Int × Int) s ob => s = [(9, .V d.1), (10, .V d.2.1), (11, .V d.2.2)] ∧ ob = [O4 j [Am a]]) ⟨I, I⟩ ⟨I, I, I, J⟩ ⟨[0], I, by decide⟩ ?_
 rintro d B s ob ⟨rfl, rfl⟩ h u
 refine Ab fun D v => Ag I (An h I ?_ ?_)
 intro w h
 refine gU ?_
 subst v
 refine gT (gV ?_)
 obtain ⟨e, ⟨k, l⟩, h⟩ := Bh h
 refine Gw (pd 16 0 []) [] [] [.x 3 e.1 (A1 e.2), .x 10 e.1 (A1 e.2)] I I ⟨⟨k, Al l⟩, ⟨k, Al l⟩, J⟩ (gQ (Ac 3 I ?_))
 cases io h
 exact gR ⟨_, _, _, I, I2, J6, [0], I, by decide⟩
 intro w h
 obtain rfl := u _ (oi h).symm
 have h := t
 exact gZ (lg ⟨(d.1, d.2.1), h, I2⟩ [0])
 rintro s ob ⟨b, h, rfl, rfl⟩
 unfold Kp.J1 at h
 refine gT (C4 (sl 3 0 (sl 3 4 (sl 3 9 (.act 3 (.act 7 (.still 8 (.still 12 (.still 13 .nil)))))))) [0] [_] I (C6 9 [.o 2 0, .o 5 0, .o 7 0] I J3 (iA I (Pm b.1 a.Meter _ I) (iA I (Pm b.2 a.Meter _ I) (Bm 3 I (A2 (gR (gY g0 ?_))))))))
 cases io h
 exact gW pr
theorem K4 (b : List Balance) (a : Accuracy) (d : Int) (e : Int) (r : Int × Int) (h : F9 b a d e = some r) : ACalls Ah 72 [Q2 b, .agg (Am a), .V d, .V e] [] (RV (.tup [.V r.1, .V r.2])) := by
 refine Ad Tryz.func72 I I I fun C hC => ?_
 refine Ab fun s f => gQ (gS [] I (Ck (Am a) 2 fun t => Ac 2 I (gR ?_)))
 subst f
 refine Ab fun u g => gT ?_
 obtain ⟨v, i, h⟩ := Aa h
 refine gQ (Ac 1 I (hG (K7 _ _ i) (Ac 1 I (gR (Ag I (An h I ?_ ?_))))))
 intro j h
 refine Ag I (gY g0 ?_)
 cases io h
 exact gW ⟨.inr I, [_, _], [], J2, Cd, I2⟩
 intro j h
 refine gU ?_
 subst g
 refine Ab fun w k => gT (gQ (Aq 1 [.o 0 0] I J1 (hG (O8 a _ I) (Ac 1 I (gR (An h I ?_ ?_))))))
 intro l h
 refine Ag I (gY g0 ?_)
 cases io h
 exact gW ⟨.inr I, [_, _], [], J2, Cd, I2⟩
 intro l h
 refine gU ?_
 subst k
 refine gT (gT (gQ (Ac 3 I (hG (Pl b d e _ I) (Ac 1 I (gR (Ag I (An h I ?_ ?_))))))))
 intro n h
 refine Ag I (gY g0 ?_)
 cases io h
 exact gW ⟨.inr I, [_, _], [], J2, Cd, I2⟩
 intro n h
 refine gU (gT ?_)
 obtain ⟨y, p, h⟩ := Aa h
 refine gQ (Aq 4 [.o 1 0] I J1 (hG (Xc _ _ _ _ _ p) (Ac 2 I (gR (gY g0 ?_)))))
 cases io h
 exact gW ⟨.inr I, [_, _], [], J2, Cd, I2⟩
theorem Ye (i : List Balance) (b : Accuracy) (k : Int) (n : Int) (r : Li × Int) (h : Mu i b k n = some r) : ACalls Ah 26 [Q2 i, .agg (Am b), .V k, .V n] [] (fun x new => ∃ (p : Value), x = .tup [.v p, .V r.2] ∧ new = [U0 p r.1]) := by
 refine Ad Tryz.func26 I I I fun C hC => ?_
 refine Ab fun U u => gQ (gS [] I (Ck (Am b) 2 fun t => Ac 2 I (gR ?_)))
 subst u
 refine Ab fun W w => gT ?_
 obtain ⟨X, y, h⟩ := Aa h
 refine gQ (Aq 4 [.o 1 0] I J1 (hG (Pp _ _ _ _ _ y) (Ac 1 I (gR (Ag I (An h I ?_ ?_))))))
 intro A h
 refine Ag I (gY (Ay 3 1) (F2 [1] I ?_))
 cases io h
 exact gW ⟨.inr I, [_, _], [.us (.slice none 0 0) 3 1 ([].map rI)], J2, Dt I (Cd), ⟨(.slice none 0 0), I2⟩⟩
 intro A h
 refine gU ?_
 subst w
 refine Ag I (Aj (fun s ob => ∃ (f : Li) (d : Value), Mu.J1 f = some r ∧ s = [(11, .v d)] ∧ ob = [U0 d f]) [] J ?_ ?_)
 refine Ag I (gV (gY (Ay 3 1) ?_))
 obtain ⟨Y, B, D⟩ := Aa h
 refine A5 B [(0, _), (2, _), (3, _), (5, _)] J4 (fun (a : Li × Int) s ob => ∃ (e : Value), s = [(11, .v e), (12, .V a.2)] ∧ ob = [O4 t [Am b], U0 e a.1]) ⟨(.slice none 0 0), I2⟩ ⟨I, I, J⟩ ⟨[0, 1], I, by decide⟩ ?_
 rintro a E s ob ⟨e, rfl, rfl⟩ h F
 refine Ab fun Z G => A8 [.l 2 (i.length : Int)] I ⟨Ax, J⟩ (An h I ?_ ?_)
 intro H h
 refine gU ?_
 subst G
 refine Aj (fun s ob => ∃ (j : Li) (g : Value), Mu.J3 a j = some E ∧ s = [(11, .v g)] ∧ ob = [O4 t [Am b], U0 g j]) [(0, _), (2, _), (3, _), (5, _), (12, _)] J5 ?_ ?_
 refine gV (Ab fun aa K => ?_)
 obtain ⟨ab, M, h⟩ := Aa h
 refine gQ (Ac 5 I (hG (W6 _ _ _ _ M) (Ac 5 I (gR ?_))))
 subst K
 refine Ab fun ac N => ?_
 obtain ⟨ad, O, h⟩ := Aa h
 refine gQ (Aq 6 [.o 1 0] I J1 (hG (K4 _ _ _ _ _ O) (Ac 5 I (gR ?_))))
 subst N
 refine Ag I (An h I ?_ ?_)
 intro P h
 obtain ⟨Q, R, h⟩ := Aa h
 exact gQ (Ac 2 I (gS [] I (hE 1 (([a.2] : Li).map rI) (gS [1] I (Cq 1 I R fun S => Ac 1 I (gR (lg ⟨Q, S, h, I2⟩ [0, 1])))))))
 intro P h
 exact gU (lg ⟨a.1, e, h, I2⟩ [0, 1])
 rintro s ob ⟨j, g, h, rfl, rfl⟩
 unfold Mu.J3 at h
 refine gQ (Ac 3 I ?_)
 cases io h
 exact gR ⟨_, _, _, I, ⟨g, I2⟩, J6, [0, 1], I, by decide⟩
 intro H h
 obtain rfl := F _ (oi h).symm
 have h := D
 exact gZ (lg ⟨a.1, e, h, I2⟩ [1])
 rintro s ob ⟨f, d, h, rfl, rfl⟩
 unfold Mu.J1 at h
 refine Ag I ?_
 cases io h
 exact gW ⟨.inr I, [_, _], [U0 d f], J2, Dt I (Cd), ⟨d, I2⟩⟩
theorem Wy (d : List Balance) (a : Accuracy) (g : Int) (i : Int) (r : Int × Int) (h : L2 d a g i = some r) : ACalls Ah 28 [Q2 d, .agg (Am a), .V g, .V i] [] (RV (.tup [.V r.1, .V r.2])) := by
 refine Ad Tryz.func28 I I I fun C hC => ?_
 refine Ab fun F k => gQ (gS [] I (Ck (Am a) 2 fun n => Ac 2 I (gR ?_)))
 subst k
 refine Ab fun G p => gT ?_
 obtain ⟨H, t, h⟩ := Aa h
 refine gQ (Aq 4 [.o 1 0] I J1 (hG (Pp _ _ _ _ _ t) (Ac 1 I (gR (Ag I (An h I ?_ ?_))))))
 intro u h
 refine Ag I (gY g0 ?_)
 cases io h
 exact gW ⟨.inr I, [_, _], [], J2, Cd, I2⟩
 intro u h
 refine gU ?_
 subst p
 refine Ag I (Aj (fun s ob => ∃ (e : Int), L2.J1 e = some r ∧ s = [(11, .V e)] ∧ ob = []) [] J ?_ ?_)
 refine Ag I (gV ?_)
 obtain ⟨K, v, w⟩ := Aa h
 refine A5 v [(0, _), (2, _), (3, _), (5, _)] J4 (fun (b : Int × Int) s ob => s = [(11, .V b.1), (12, .V b.2)] ∧ ob = [O4 n [Am a]]) ⟨I, I⟩ ⟨I, I, J⟩ ⟨[0], I, by decide⟩ ?_
 rintro b M s ob ⟨rfl, rfl⟩ h y
 refine Ab fun N A => A8 [.l 2 (d.length : Int)] I ⟨Ax, J⟩ (An h I ?_ ?_)
 intro B h
 refine gU ?_
 subst A
 refine gT (gV (gT ?_))
 obtain ⟨O, D, h⟩ := Aa h
 refine gQ (Aq 6 [.o 1 0] I J1 (hG (K4 _ _ _ _ _ D) (Ac 5 I (gR ?_))))
 obtain ⟨j, E, h⟩ := Aa h
 refine Gn [.f 6 (.V j)] I ⟨iB (C2 (c := j) I I (G7 E)), J⟩ (gQ (Ac 3 I ?_))
 cases io h
 exact gR ⟨_, _, _, I, I2, J6, [0], I, by decide⟩
 intro B h
 obtain rfl := y _ (oi h).symm
 have h := w
 exact gZ (lg ⟨b.1, h, I2⟩ [])
 rintro s ob ⟨e, h, rfl, rfl⟩
 unfold L2.J1 at h
 refine Ag I ?_
 cases io h
 exact gW ⟨.inr I, [_, _], [], J2, Cd, I2⟩
theorem X1 (b : List Balance) (a : Accuracy) (d : Int) (e : Int) (r : Int × Int × Int) (h : Qj b a d e = some r) : ACalls Ah 76 [Q2 b, .agg (Am a), .V d, .V e] [] (RV (.tup [.V r.1, .V r.2.1, .V r.2.2])) := by
 refine Ad Tryz.func76 I I I fun C hC => ?_
 refine Ab fun n f => gQ (gS [] I (Ck (Am a) 2 fun p => Ac 3 I (gR ?_)))
 subst f
 refine Ab fun s g => ?_
 obtain ⟨t, i, h⟩ := Aa h
 refine gQ (Aq 4 [.o 1 0] I J1 (hG (K4 _ _ _ _ _ i) (Ac 5 I (gR ?_))))
 subst g
 refine Ab fun u j => Ag I (An h I ?_ ?_)
 intro k h
 refine Ag I (gY g0 ?_)
 cases io h
 exact gW ⟨.inr I, [_, _, _], [], J3, Cd, I2⟩
 intro k h
 refine gU ?_
 subst j
 refine gT ?_
 obtain ⟨v, l, h⟩ := Aa h
 refine gQ (Ac 3 I (hG (Pd _ _ _ _ l) (Ac 1 I (gR (Ag I (gY g0 ?_))))))
 cases io h
 exact gW ⟨.inr I, [_, _, _], [], J3, Cd, I2⟩
theorem Pc (d : Int) (b : Int) (r : Bool) (h : Kn d b = r) : ACalls Ah 136 [.V d, .V b] [] (RB r) := by
 refine Ad Tryz.func136 I I I fun C hC => ?_
 unfold Kn at h
 refine Ag I (Aj (fun s ob => s = [(4, .v (.bool (decide (b ≥ 1) && (decide (b ≤ 1099511627776) && (decide (d ≥ (-2305843009213693952)) && decide (d ≤ 2305843009213693952))))))] ∧ ob = []) [] J ?_ ?_)
 refine gQ (Ac 3 I ?_)
 rcases bt (decide (b ≥ 1)) with a | a
 refine Ae 7 I a (Ac 4 I ?_)
 rcases bt (decide (b ≤ 1099511627776)) with c | c
 refine Ae 11 I c (Ac 4 I ?_)
 rcases bt (decide (d ≥ (-2305843009213693952))) with e | e
 refine Ae 15 I e (Ac 4 I (gR ?_))
 exact lf I2 ⟨(C0 (by simp only [a, c, e, bz])), J⟩ [] I
 refine Ae 15 I e (Ac 4 I (gR ?_))
 exact lf I2 ⟨(C0 (by simp only [a, c, e, bz])), J⟩ [] I
 refine Ae 11 I c (Ac 8 I (gR ?_))
 exact lf I2 ⟨(C0 (by simp only [a, c, bz])), J⟩ [] I
 refine Ae 7 I a (Ac 12 I (gR ?_))
 exact lf I2 ⟨(C0 (by simp only [a, bz])), J⟩ [] I
 rintro s ob ⟨rfl, rfl⟩
 obtain rfl := h
 exact gW pr
theorem X6 (b : Int) (d : Int) (r : Int) (h : Mr b d = some r) : ACalls Ah 77 [.V b, .V d] [] (RV (.V r)) := by
 refine Ad Tryz.func77 I I I fun C hC => ?_
 refine Ag I (Ab fun o i => gT (gQ (Ac 2 I (hG (Pc b d _ I) (Ac 1 I (gR (An h I ?_ ?_)))))))
 intro j h
 refine Ag I ?_
 cases io h
 exact gW pr
 intro j h
 refine gU ?_
 subst i
 refine Ab fun p k => ?_
 obtain ⟨a, l, h⟩ := Aa h
 refine Gn [.f 2 (.V a)] I ⟨iB (C2 (c := a) I I (G7 l)), J⟩ ?_
 subst k
 refine Aj (fun s ob => ∃ (e : Int), Mr.J1 e = some r ∧ s = [(5, .V e)] ∧ ob = []) [] J ?_ ?_
 refine gT ?_
 obtain ⟨g, m, h⟩ := Aa h
 refine Gn [.f 2 (.V g)] I ⟨iB (C2 (c := g) I I (Jg m)), J⟩ (An h I ?_ ?_)
 intro n h
 exact N2 I (lg ⟨wr (a - 1), h, I2⟩ [])
 intro n h
 exact gU (lg ⟨a, h, I2⟩ [])
 rintro s ob ⟨e, h, rfl, rfl⟩
 unfold Mr.J1 at h
 refine Ag I ?_
 cases io h
 exact gW pr
theorem W7 (b : Int) (d : Int) (r : Int) (h : L4 b d = some r) : ACalls Ah 78 [.V b, .V d] [] (RV (.V r)) := by
 refine Ad Tryz.func78 I I I fun C hC => ?_
 refine Ag I (Ab fun o i => gT (gQ (Ac 2 I (hG (Pc b d _ I) (Ac 1 I (gR (An h I ?_ ?_)))))))
 intro j h
 refine Ag I ?_
 cases io h
 exact gW pr
 intro j h
 refine gU ?_
 subst i
 refine Ab fun p k => ?_
 obtain ⟨a, l, h⟩ := Aa h
 refine Gn [.f 2 (.V a)] I ⟨iB (C2 (c := a) I I (G7 l)), J⟩ ?_
 subst k
 refine Aj (fun s ob => ∃ (e : Int), L4.J1 e = some r ∧ s = [(5, .V e)] ∧ ob = []) [] J ?_ ?_
 refine gT ?_
 obtain ⟨g, m, h⟩ := Aa h
 refine Gn [.f 2 (.V g)] I ⟨iB (C2 (c := g) I I (Jg m)), J⟩ (An h I ?_ ?_)
 intro n h
 exact N2 I (lg ⟨wr (a + 1), h, I2⟩ [])
 intro n h
 exact gU (lg ⟨a, h, I2⟩ [])
 rintro s ob ⟨e, h, rfl, rfl⟩
 unfold L4.J1 at h
 refine Ag I ?_
 cases io h
 exact gW pr
theorem W8 (b : List Balance) (a : Accuracy) (d : Int) (e : Int) (r : Int × Int × Int) (h : L5 b a d e = some r) : ACalls Ah 30 [Q2 b, .agg (Am a), .V d, .V e] [] (RV (.tup [.V r.1, .V r.2.1, .V r.2.2])) := by
 refine Ad Tryz.func30 I I I fun C hC => ?_
 refine Ab fun p f => gQ (gS [] I (Ck (Am a) 2 fun s => Ac 3 I (gR ?_)))
 subst f
 refine Ab fun t g => ?_
 obtain ⟨u, i, h⟩ := Aa h
 refine gQ (Aq 4 [.o 1 0] I J1 (hG (X1 _ _ _ _ _ i) (Ac 7 I (gR ?_))))
 subst g
 refine Ab fun v j => Ag I (An h I ?_ ?_)
 intro k h
 refine Ag I (gY g0 ?_)
 cases io h
 exact gW ⟨.inr I, [_, _, _], [], J3, Cd, I2⟩
 intro k h
 refine gU ?_
 subst j
 refine gT ?_
 obtain ⟨w, l, h⟩ := Aa h
 obtain ⟨y, n, h⟩ := Aa h
 refine gQ (Ac 4 I (hG (X6 _ _ _ l) (Ac 5 I (hG (W7 _ _ _ n) (Ac 3 I (gR (gY g0 ?_)))))))
 cases io h
 exact gW ⟨.inr I, [_, _, _], [], J3, Cd, I2⟩
end Go.Proofs.YtihdchjpepkpbaaGreat
