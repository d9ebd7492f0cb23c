/- Walks that show what functions of the program compute; printed by a program of ours. No condition. -/
import Derived.Test.YtihdchjpepkpbaaGreatZwD
import Derived.Test.YtihdchjpepkpbaaGreatZwB2
set_option maxRecDepth 100000
namespace Go.Proofs.YtihdchjpepkpbaaGreat
open Go.Aw
set_option linter.unusedVariables false
set_option linter.unusedSimpArgs false
set_option maxHeartbeats 4000000
theorem Ps (e : Int) (b : Int) (r : Int) (h : My e b = some r) : ACalls Ah 54 [.V e, .V b] [] (RV (.V r)) := by
 refine Ad Tryz.func54 I I I fun C hC => ?_
 refine Ag I (Ab fun m g => Ag I (An h I ?_ ?_))
 intro i h
 refine Ag I ?_
 cases io h
 exact gW pr
 intro i h
 refine gU ?_
 subst g
 refine Ab fun n j => ?_
 obtain ⟨a, k, h⟩ := Aa h
 refine Gn [.f 2 (.V a)] I ⟨iB (C2 (c := a) I I (Jg k)), J⟩ ?_
 subst j
 refine Aj (fun s ob => ∃ (d : Int), My.J1 d = some r ∧ s = [(0, .V d)] ∧ ob = []) [] J ?_ ?_
 refine Ag I (An h I ?_ ?_)
 intro l h
 exact N2 I (lg ⟨wr (a + b), h, I2⟩ [])
 intro l h
 exact gU (lg ⟨a, h, I2⟩ [])
 rintro s ob ⟨d, h, rfl, rfl⟩
 unfold My.J1 at h
 refine Ag I ?_
 cases io h
 exact gW pr
theorem Cp (a : Int) (c : Int) (d : Int) (r : Bool) (h : Ce a c d = r) : ACalls Ah 193 [.V a, .V c, .V d] [] (RB r) := by
 refine Ad Tryz.func193 I I I fun C hC => ?_
 unfold Ce at h
 refine Ag I (Aj (fun s ob => s = [(6, .v (.bool (decide (a ≥ c) && decide (a ≤ d))))] ∧ ob = []) [] J ?_ ?_)
 refine gQ (Ac 4 I ?_)
 rcases bt (decide (a ≥ c)) with b | b
 refine Ae 10 I b (Ac 5 I (gR ?_))
 exact lf I2 ⟨(C0 (by simp only [b, bz])), J⟩ [] I
 refine Ae 10 I b (Ac 5 I (gR ?_))
 exact lf I2 ⟨(C0 (by simp only [b, bz])), J⟩ [] I
 rintro s ob ⟨rfl, rfl⟩
 obtain rfl := h
 exact gW pr
theorem Xp (a : Li) (c : Int) (r : Int) (h : Qd a c = some r) : ACalls Ah 152 [Q0 a, .V c] [] (RV (.V r)) := by
 refine Ad Tryz.func152 I I I fun C hC => ?_
 unfold Qd at h
 refine Ag I (Aj (fun s ob => ∃ (d : Unit), Qd.J1 d = some r ∧ s = [] ∧ ob = []) [] J ?_ ?_)
 refine A8 [.l 1 (a.length : Int)] I ⟨Ax, J⟩ (gV (Cu 6 I fun i => ?_))
 obtain ⟨w, j, e⟩ := Aa h
 refine Ca j [(0, _), (1, _), (7, _)] J3 (fun (b : Nat) (f : Unit) s ob => s = [(8, .V (b : Int))] ∧ ob = []) ⟨I, I⟩ ⟨I, J⟩ ⟨[], I, by decide⟩ ?_ ?_
 rintro b m f y s ob n g ⟨rfl, rfl⟩ h o
 have p := Dr g
 refine Ag I (Ab fun A q => Bw I p (gU ?_))
 subst q
 refine gT (gV (Ag I (A8 [.x 3 b (rI m)] I ⟨⟨I, Al n⟩, J⟩ (An h I ?_ ?_))))
 intro t h
 refine Ag I ?_
 obtain rfl := o _ (oi h).symm
 have h := e
 have h := Dm h
 cases io h
 exact gW pr
 intro t h
 refine gU (gQ (Aq 2 [.k 0 (b + 1 : Nat)] I ⟨A4 g i, J⟩ ?_))
 cases io h
 exact gR ⟨_, _, _, I, I2, J4, [], I, by decide⟩
 rintro f s ob ⟨rfl, rfl⟩ he
 subst he
 have h := Dl e
 have u := Ds a.length
 exact Ag I (Ab fun B D => Bx I u (gZ (lg ⟨(), h, I2⟩ [])))
 rintro s ob ⟨d, h, rfl, rfl⟩
 unfold Qd.J1 at h
 refine Ag I ?_
 cases io h
 exact gW pr
theorem Xf (a : List Bt) (d : Bt) (r : Int) (h : L9 a d = some r) : ACalls Ah 185 [Q1 a, .v (.string d)] [] (RV (.V r)) := by
 refine Ad Tryz.func185 I I I fun C hC => ?_
 unfold L9 at h
 refine Ag I (Aj (fun s ob => ∃ (e : Unit), L9.J1 e = some r ∧ s = [] ∧ ob = []) [] J ?_ ?_)
 refine A8 [.l 1 (a.length : Int)] I ⟨Ax, J⟩ (gV (Cu 6 I fun m => ?_))
 obtain ⟨A, n, f⟩ := Aa h
 refine Ca n [(0, _), (1, _), (7, _)] J3 (fun (b : Nat) (g : Unit) s ob => s = [(8, .V (b : Int))] ∧ ob = []) ⟨I, I⟩ ⟨I, J⟩ ⟨[], I, by decide⟩ ?_ ?_
 rintro b i g B s ob o j ⟨rfl, rfl⟩ h q
 have t := Dr j
 refine Ag I (Ab fun D u => Bw I t (gU ?_))
 subst u
 refine gT (gV (Ag I (gT (gQ (Aq 5 [.x 3 b (rS i)] I ⟨⟨I, Al o⟩, J⟩ (Bn (Yp.cmpS (c := Rr d i) I I I) I (gR (An h I ?_ ?_))))))))
 intro w h
 refine Ag I ?_
 obtain rfl := q _ (oi h).symm
 have h := f
 have h := Dm h
 cases io h
 exact gW pr
 intro w h
 refine gU (gQ (Aq 2 [.k 0 (b + 1 : Nat)] I ⟨A4 j m, J⟩ ?_))
 cases io h
 exact gR ⟨_, _, _, I, I2, J4, [], I, by decide⟩
 rintro g s ob ⟨rfl, rfl⟩ he
 subst he
 have h := Dl f
 have y := Ds a.length
 exact Ag I (Ab fun E F => Bx I y (gZ (lg ⟨(), h, I2⟩ [])))
 rintro s ob ⟨e, h, rfl, rfl⟩
 unfold L9.J1 at h
 refine Ag I ?_
 cases io h
 exact gW pr
theorem Pt (a : Li) (F1 : T) {c : FuncId} {d e : List T} (o : I8 F1 = some (c, d, e)) (f : Int → Option Bool) (p : ∀ (g : Int) r, f g = some r → ACalls Ah c (d ++ [.V g] ++ e) [] (RB r)) (r : Int) (h : Is a f = some r) : ACalls Ah 151 [Q0 a, F1] [] (RV (.V r)) := by
 refine Ad Tryz.func151 I I I fun C hC => ?_
 unfold Is at h
 refine Ag I (Aj (fun s ob => ∃ (i : Unit), Is.J1 i = some r ∧ s = [] ∧ ob = []) [] J ?_ ?_)
 refine A8 [.l 1 (a.length : Int)] I ⟨Ax, J⟩ (gV (Cu 6 I fun q => ?_))
 obtain ⟨G, t, j⟩ := Aa h
 refine Ca t [(0, _), (1, _), (7, _)] J3 (fun (b : Nat) (m : Unit) s ob => s = [(8, .V (b : Int))] ∧ ob = []) ⟨I, I⟩ ⟨I, J⟩ ⟨[], I, by decide⟩ ?_ ?_
 rintro b u m H s ob w n ⟨rfl, rfl⟩ h y
 have A := Dr n
 refine Ag I (Ab fun K B => Bw I A (gU ?_))
 subst B
 refine gT (gV (Ag I (gT ?_)))
 obtain ⟨M, D, h⟩ := Aa h
 refine gQ (Aq 5 [.x 3 b (rI u)] I ⟨⟨I, Al w⟩, J⟩ (gS [] I (Cw I (.refl _) o I (.rest _) I (p _ _ D) dS (by rintro _ _ ⟨rfl, _⟩; rfl) ?_)))
 rintro _ ⟨_, rfl, -⟩
 refine gR (An h I ?_ ?_)
 intro E h
 refine Ag I ?_
 obtain rfl := y _ (oi h).symm
 have h := j
 have h := Dm h
 cases io h
 exact gW pr
 intro E h
 refine gU (gQ (Aq 2 [.k 0 (b + 1 : Nat)] I ⟨A4 n q, J⟩ ?_))
 cases io h
 exact gR ⟨_, _, _, I, I2, J4, [], I, by decide⟩
 rintro m s ob ⟨rfl, rfl⟩ he
 subst he
 have h := Dl j
 have F := Ds a.length
 exact Ag I (Ab fun N O => Bx I F (gZ (lg ⟨(), h, I2⟩ [])))
 rintro s ob ⟨i, h, rfl, rfl⟩
 unfold Is.J1 at h
 refine Ag I ?_
 cases io h
 exact gW pr
theorem Wx (b : Li) (F1 : T) {d : FuncId} {e f : List T} (i : I8 F1 = some (d, e, f)) (a : Int → Option Bool) (j : ∀ (g : Int) r, a g = some r → ACalls Ah d (e ++ [.V g] ++ f) [] (RB r)) (r : Bool) (h : L1 b a = some r) : ACalls Ah 165 [Q0 b, F1] [] (RB r) := by
 refine Ad Tryz.func165 I I I fun C hC => ?_
 refine Ag I (gT ?_)
 obtain ⟨l, k, h⟩ := Aa h
 refine gQ (Ac 2 I (hG (Pt _ F1 i a j _ k) (Ac 2 I (gR ?_))))
 cases io h
 exact gW pr
theorem Xh (a : List Bt) (F1 : T) {c : FuncId} {d e : List T} (o : I8 F1 = some (c, d, e)) (f : Bt → Option Bool) (p : ∀ (g : Bt) r, f g = some r → ACalls Ah c (d ++ [.v (.string g)] ++ e) [] (RB r)) (r : Int) (h : Ma a f = some r) : ACalls Ah 183 [Q1 a, F1] [] (RV (.V r)) := by
 refine Ad Tryz.func183 I I I fun C hC => ?_
 unfold Ma at h
 refine Ag I (Aj (fun s ob => ∃ (i : Unit), Ma.J1 i = some r ∧ s = [] ∧ ob = []) [] J ?_ ?_)
 refine A8 [.l 1 (a.length : Int)] I ⟨Ax, J⟩ (gV (Cu 6 I fun q => ?_))
 obtain ⟨G, t, j⟩ := Aa h
 refine Ca t [(0, _), (1, _), (7, _)] J3 (fun (b : Nat) (m : Unit) s ob => s = [(8, .V (b : Int))] ∧ ob = []) ⟨I, I⟩ ⟨I, J⟩ ⟨[], I, by decide⟩ ?_ ?_
 rintro b u m H s ob w n ⟨rfl, rfl⟩ h y
 have A := Dr n
 refine Ag I (Ab fun K B => Bw I A (gU ?_))
 subst B
 refine gT (gV (Ag I (gT ?_)))
 obtain ⟨M, D, h⟩ := Aa h
 refine gQ (Aq 5 [.x 3 b (rS u)] I ⟨⟨I, Al w⟩, J⟩ (gS [] I (Cw I (.refl _) o I (.rest _) I (p _ _ D) dS (by rintro _ _ ⟨rfl, _⟩; rfl) ?_)))
 rintro _ ⟨_, rfl, -⟩
 refine gR (An h I ?_ ?_)
 intro E h
 refine Ag I ?_
 obtain rfl := y _ (oi h).symm
 have h := j
 have h := Dm h
 cases io h
 exact gW pr
 intro E h
 refine gU (gQ (Aq 2 [.k 0 (b + 1 : Nat)] I ⟨A4 n q, J⟩ ?_))
 cases io h
 exact gR ⟨_, _, _, I, I2, J4, [], I, by decide⟩
 rintro m s ob ⟨rfl, rfl⟩ he
 subst he
 have h := Dl j
 have F := Ds a.length
 exact Ag I (Ab fun N O => Bx I F (gZ (lg ⟨(), h, I2⟩ [])))
 rintro s ob ⟨i, h, rfl, rfl⟩
 unfold Ma.J1 at h
 refine Ag I ?_
 cases io h
 exact gW pr
theorem Xu (b : List Bt) (F1 : T) {d : FuncId} {e f : List T} (i : I8 F1 = some (d, e, f)) (a : Bt → Option Bool) (j : ∀ (g : Bt) r, a g = some r → ACalls Ah d (e ++ [.v (.string g)] ++ f) [] (RB r)) (r : Bool) (h : Ml b a = some r) : ACalls Ah 139 [Q1 b, F1] [] (RB r) := by
 refine Ad Tryz.func139 I I I fun C hC => ?_
 refine Ag I (gT ?_)
 obtain ⟨l, k, h⟩ := Aa h
 refine gQ (Ac 2 I (hG (Xh _ F1 i a j _ k) (Ac 2 I (gR ?_))))
 cases io h
 exact gW pr
theorem Yk (a : List Sg) (F1 : T) {c : FuncId} {d e : List T} (o : I8 F1 = some (c, d, e)) (f : Sg → Option Bool) (p : ∀ (g : Sg) r, f g = some r → ACalls Ah c (d ++ [.agg (Ao g)] ++ e) [] (RB r)) (r : Int) (h : Mx a f = some r) : ACalls Ah 212 [Q5 a, F1] [] (RV (.V r)) := by
 refine Ad Tryz.func212 I I I fun C hC => ?_
 unfold Mx at h
 refine Ag I (Aj (fun s ob => ∃ (i : Unit), Mx.J1 i = some r ∧ s = [] ∧ ob = []) [] J ?_ ?_)
 refine A8 [.l 1 (a.length : Int)] I ⟨Ax, J⟩ (gV (Cu 6 I fun q => ?_))
 obtain ⟨G, t, j⟩ := Aa h
 refine Ca t [(0, _), (1, _), (7, _)] J3 (fun (b : Nat) (m : Unit) s ob => s = [(8, .V (b : Int))] ∧ ob = []) ⟨I, I⟩ ⟨I, J⟩ ⟨[], I, by decide⟩ ?_ ?_
 rintro b u m H s ob w n ⟨rfl, rfl⟩ h y
 have A := Dr n
 refine Ag I (Ab fun K B => Bw I A (gU ?_))
 subst B
 refine gT (gV (Ag I (gT ?_)))
 obtain ⟨M, D, h⟩ := Aa h
 refine gQ (Aq 5 [.x 3 b (Ao u)] I ⟨⟨I, Al w⟩, J⟩ (gS [] I (Cw I (.refl _) o I (.rest _) I (p _ _ D) dS (by rintro _ _ ⟨rfl, _⟩; rfl) ?_)))
 rintro _ ⟨_, rfl, -⟩
 refine gR (An h I ?_ ?_)
 intro E h
 refine Ag I ?_
 obtain rfl := y _ (oi h).symm
 have h := j
 have h := Dm h
 cases io h
 exact gW pr
 intro E h
 refine gU (gQ (Aq 2 [.k 0 (b + 1 : Nat)] I ⟨A4 n q, J⟩ ?_))
 cases io h
 exact gR ⟨_, _, _, I, I2, J4, [], I, by decide⟩
 rintro m s ob ⟨rfl, rfl⟩ he
 subst he
 have h := Dl j
 have F := Ds a.length
 exact Ag I (Ab fun N O => Bx I F (gZ (lg ⟨(), h, I2⟩ [])))
 rintro s ob ⟨i, h, rfl, rfl⟩
 unfold Mx.J1 at h
 refine Ag I ?_
 cases io h
 exact gW pr
theorem O9 (b : List Sg) (F1 : T) {d : FuncId} {e f : List T} (i : I8 F1 = some (d, e, f)) (a : Sg → Option Bool) (j : ∀ (g : Sg) r, a g = some r → ACalls Ah d (e ++ [.agg (Ao g)] ++ f) [] (RB r)) (r : Bool) (h : Kk b a = some r) : ACalls Ah 181 [Q5 b, F1] [] (RB r) := by
 refine Ad Tryz.func181 I I I fun C hC => ?_
 refine Ag I (gT ?_)
 obtain ⟨l, k, h⟩ := Aa h
 refine gQ (Ac 2 I (hG (Yk _ F1 i a j _ k) (Ac 2 I (gR ?_))))
 cases io h
 exact gW pr
theorem Xq (a : List Port) (F1 : T) {c : FuncId} {d e : List T} (o : I8 F1 = some (c, d, e)) (f : Port → Option Bool) (p : ∀ (g : Port) r, f g = some r → ACalls Ah c (d ++ [.agg (B1 g)] ++ e) [] (RB r)) (r : Int) (h : Mh a f = some r) : ACalls Ah 213 [Q4 a, F1] [] (RV (.V r)) := by
 refine Ad Tryz.func213 I I I fun C hC => ?_
 unfold Mh at h
 refine Ag I (Aj (fun s ob => ∃ (i : Unit), Mh.J1 i = some r ∧ s = [] ∧ ob = []) [] J ?_ ?_)
 refine A8 [.l 1 (a.length : Int)] I ⟨Ax, J⟩ (gV (Cu 6 I fun q => ?_))
 obtain ⟨G, t, j⟩ := Aa h
 refine Ca t [(0, _), (1, _), (7, _)] J3 (fun (b : Nat) (m : Unit) s ob => s = [(8, .V (b : Int))] ∧ ob = []) ⟨I, I⟩ ⟨I, J⟩ ⟨[], I, by decide⟩ ?_ ?_
 rintro b u m H s ob w n ⟨rfl, rfl⟩ h y
 have A := Dr n
 refine Ag I (Ab fun K B => Bw I A (gU ?_))
 subst B
 refine gT (gV (Ag I (gT ?_)))
 obtain ⟨M, D, h⟩ := Aa h
 refine gQ (Aq 5 [.x 3 b (B1 u)] I ⟨⟨I, Al w⟩, J⟩ (gS [] I (Cw I (.refl _) o I (.rest _) I (p _ _ D) dS (by rintro _ _ ⟨rfl, _⟩; rfl) ?_)))
 rintro _ ⟨_, rfl, -⟩
 refine gR (An h I ?_ ?_)
 intro E h
 refine Ag I ?_
 obtain rfl := y _ (oi h).symm
 have h := j
 have h := Dm h
 cases io h
 exact gW pr
 intro E h
 refine gU (gQ (Aq 2 [.k 0 (b + 1 : Nat)] I ⟨A4 n q, J⟩ ?_))
 cases io h
 exact gR ⟨_, _, _, I, I2, J4, [], I, by decide⟩
 rintro m s ob ⟨rfl, rfl⟩ he
 subst he
 have h := Dl j
 have F := Ds a.length
 exact Ag I (Ab fun N O => Bx I F (gZ (lg ⟨(), h, I2⟩ [])))
 rintro s ob ⟨i, h, rfl, rfl⟩
 unfold Mh.J1 at h
 refine Ag I ?_
 cases io h
 exact gW pr
theorem Yc (b : List Port) (F1 : T) {d : FuncId} {e f : List T} (i : I8 F1 = some (d, e, f)) (a : Port → Option Bool) (j : ∀ (g : Port) r, a g = some r → ACalls Ah d (e ++ [.agg (B1 g)] ++ f) [] (RB r)) (r : Bool) (h : Mt b a = some r) : ACalls Ah 191 [Q4 b, F1] [] (RB r) := by
 refine Ad Tryz.func191 I I I fun C hC => ?_
 refine Ag I (gT ?_)
 obtain ⟨l, k, h⟩ := Aa h
 refine gQ (Ac 2 I (hG (Xq _ F1 i a j _ k) (Ac 2 I (gR ?_))))
 cases io h
 exact gW pr
theorem O6 (a : List Sn) (F1 : T) {c : FuncId} {d e : List T} (o : I8 F1 = some (c, d, e)) (f : Sn → Option Bool) (p : ∀ (g : Sn) r, f g = some r → ACalls Ah c (d ++ [.agg (Az g)] ++ e) [] (RB r)) (r : Int) (h : Ki a f = some r) : ACalls Ah 186 [Q3 a, F1] [] (RV (.V r)) := by
 refine Ad Tryz.func186 I I I fun C hC => ?_
 unfold Ki at h
 refine Ag I (Aj (fun s ob => ∃ (i : Unit), Ki.J1 i = some r ∧ s = [] ∧ ob = []) [] J ?_ ?_)
 refine A8 [.l 1 (a.length : Int)] I ⟨Ax, J⟩ (gV (Cu 6 I fun q => ?_))
 obtain ⟨G, t, j⟩ := Aa h
 refine Ca t [(0, _), (1, _), (7, _)] J3 (fun (b : Nat) (m : Unit) s ob => s = [(8, .V (b : Int))] ∧ ob = []) ⟨I, I⟩ ⟨I, J⟩ ⟨[], I, by decide⟩ ?_ ?_
 rintro b u m H s ob w n ⟨rfl, rfl⟩ h y
 have A := Dr n
 refine Ag I (Ab fun K B => Bw I A (gU ?_))
 subst B
 refine gT (gV (Ag I (gT ?_)))
 obtain ⟨M, D, h⟩ := Aa h
 refine gQ (Aq 5 [.x 3 b (Az u)] I ⟨⟨I, Al w⟩, J⟩ (gS [] I (Cw I (.refl _) o I (.rest _) I (p _ _ D) dS (by rintro _ _ ⟨rfl, _⟩; rfl) ?_)))
 rintro _ ⟨_, rfl, -⟩
 refine gR (An h I ?_ ?_)
 intro E h
 refine Ag I ?_
 obtain rfl := y _ (oi h).symm
 have h := j
 have h := Dm h
 cases io h
 exact gW pr
 intro E h
 refine gU (gQ (Aq 2 [.k 0 (b + 1 : Nat)] I ⟨A4 n q, J⟩ ?_))
 cases io h
 exact gR ⟨_, _, _, I, I2, J4, [], I, by decide⟩
 rintro m s ob ⟨rfl, rfl⟩ he
 subst he
 have h := Dl j
 have F := Ds a.length
 exact Ag I (Ab fun N O => Bx I F (gZ (lg ⟨(), h, I2⟩ [])))
 rintro s ob ⟨i, h, rfl, rfl⟩
 unfold Ki.J1 at h
 refine Ag I ?_
 cases io h
 exact gW pr
theorem W9 (b : List Sn) (F1 : T) {d : FuncId} {e f : List T} (i : I8 F1 = some (d, e, f)) (a : Sn → Option Bool) (j : ∀ (g : Sn) r, a g = some r → ACalls Ah d (e ++ [.agg (Az g)] ++ f) [] (RB r)) (r : Bool) (h : L6 b a = some r) : ACalls Ah 194 [Q3 b, F1] [] (RB r) := by
 refine Ad Tryz.func194 I I I fun C hC => ?_
 refine Ag I (gT ?_)
 obtain ⟨l, k, h⟩ := Aa h
 refine gQ (Ac 2 I (hG (O6 _ F1 i a j _ k) (Ac 2 I (gR ?_))))
 cases io h
 exact gW pr
theorem Wm (a : Sg) (r : Bool) (h : Ib a = r) : ACalls Ah 182 [.agg (Ao a)] [] (RB r) := by
 refine Ad Tryz.func182 I I I fun C hC => ?_
 unfold Ib at h
 refine Ab fun d c => gQ (gS [] I (Ck (Ao a) 7 fun e => Ac 1 I (gR ?_)))
 subst c
 refine Aj (fun s ob => s = [(2, .v (.bool (decide ((a.Points.length : Int) < 2) || decide ((a.Points.length : Int) > 8))))] ∧ ob = []) [] J ?_ ?_
 refine gQ (Aq 5 [.o 1 0, .l 2 (a.Points.length : Int)] I ⟨Ax, I, J⟩ ?_)
 rcases bt (decide ((a.Points.length : Int) < 2)) with b | b
 refine Ae 7 I b (Ac 6 I (gR ?_))
 exact lf I2 ⟨(C0 (by simp only [b, bz])), J⟩ [] I
 refine Ae 7 I b (Aq 6 [.o 1 0, .l 2 (a.Points.length : Int)] I ⟨Ax, I, J⟩ (gR ?_))
 exact lf I2 ⟨(C0 (by simp only [b, bz])), J⟩ [] I
 rintro s ob ⟨rfl, rfl⟩
 obtain rfl := h
 exact gW pr
theorem Xs (a : Nw) (r : Bool) (h : Mj a = some r) : ACalls Ah 137 [.agg (Af a)] [] (RB r) := by
 refine Ad Tryz.func137 I I I fun C hC => ?_
 unfold Mj at h
 refine Ab fun k g => gQ (gS [] I (Ck (Af a) 6 fun n => Ac 1 I (gR ?_)))
 subst g
 refine gT (E8 30 (decide ((a.Nodes.length : Int) < 1) || (decide ((a.Nodes.length : Int) > 24) || (decide ((a.Segments.length : Int) > 32) || (decide ((a.Ports.length : Int) > 24) || decide ((a.Stations.length : Int) > 12))))) ?_ ?_)
 refine gQ (Aq 5 [.o 1 0, .l 2 (a.Nodes.length : Int)] I ⟨Ax, I, J⟩ ?_)
 rcases bt (decide ((a.Nodes.length : Int) < 1)) with b | b
 exact Ae 7 I b (Ac 23 I (gR (jf (by simp only [b, bz]) I I I2)))
 refine Ae 7 I b (Aq 6 [.o 1 0, .l 2 (a.Nodes.length : Int)] I ⟨Ax, I, J⟩ ?_)
 rcases bt (decide ((a.Nodes.length : Int) > 24)) with d | d
 exact Ae 13 I d (Ac 17 I (gR (jf (by simp only [b, d, bz]) I I I2)))
 refine Ae 13 I d (Aq 6 [.o 1 0, .l 2 (a.Segments.length : Int)] I ⟨Ax, I, J⟩ ?_)
 rcases bt (decide ((a.Segments.length : Int) > 32)) with e | e
 exact Ae 19 I e (Ac 11 I (gR (jf (by simp only [b, d, e, bz]) I I I2)))
 refine Ae 19 I e (Aq 6 [.o 1 0, .l 2 (a.Ports.length : Int)] I ⟨Ax, I, J⟩ ?_)
 rcases bt (decide ((a.Ports.length : Int) > 24)) with f | f
 exact Ae 25 I f (Ac 5 I (gR (jf (by simp only [b, d, e, f, bz]) I I I2)))
 exact Ae 25 I f (Aq 5 [.o 1 0, .l 2 (a.Stations.length : Int)] I ⟨Ax, I, J⟩ (gR (jf (by simp only [b, d, e, f, bz]) I I I2)))
 refine An h I ?_ ?_
 intro i h
 refine Ag I (gY g0 ?_)
 cases io h
 exact gW pr
 intro i h
 refine gU (gT ?_)
 obtain ⟨p, j, h⟩ := Aa h
 refine gQ (Aq 2 [.o 1 0] I J1 (hG (O9 _ (.v (.func (.func 182) #[] #[])) I (fun x => some (Ib x)) (fun x r h => by obtain I := oi h; exact Wm x _ I) _ j) (Ac 2 I (gR (gY g0 ?_)))))
 cases io h
 exact gW pr
theorem Pr (a : Int) (r : Int) (h : G4 a = r) : ACalls Ah 184 [.v (.int .u8 a)] [] (RV (.V r)) := by
 refine Ad Tryz.func184 I I I fun C hC => ?_
 unfold G4 at h
 refine Ag I (gT (gV (Aj (fun s ob => ∃ (e : Unit), G4.J1 e = r ∧ s = [] ∧ ob = []) [] J ?_ ?_)))
 refine gV (gV (gT (gV (gT (Ab fun k f => E8 3 (decide (a ≥ 97) && decide (a ≤ 122)) ?_ ?_)))))
 refine gQ (Ac 1 I (Bn (hY (c := decide (a ≥ 97)) I I I) I (Ac 1 I ?_)))
 rcases bt (decide (a ≥ 97)) with b | b
 exact Ae 6 I b (Ac 1 I (Bg I I I (Bn (hY (c := decide (a ≤ 122)) I I I) I (Ac 2 I (gR (jf (by simp only [b, bz]) I I I2))))))
 exact Ae 6 I b (Ac 4 I (gR (jf (by simp only [b, bz]) I I I2)))
 refine An h I ?_ ?_
 intro g h
 refine gZ (gT (Ag I ?_))
 obtain rfl := h
 exact gW pr
 intro g h
 refine gU ?_
 subst f
 refine gT (E8 10 (decide (a ≥ 48) && decide (a ≤ 57)) ?_ ?_)
 refine gQ (Ac 1 I (Bn (hY (c := decide (a ≥ 48)) I I I) I (Ac 1 I ?_)))
 rcases bt (decide (a ≥ 48)) with d | d
 exact Ae 13 I d (Ac 1 I (Bg I I I (Bn (hY (c := decide (a ≤ 57)) I I I) I (Ac 2 I (gR (jf (by simp only [d, bz]) I I I2))))))
 exact Ae 13 I d (Ac 4 I (gR (jf (by simp only [d, bz]) I I I2)))
 refine An h I ?_ ?_
 intro i h
 exact gZ (lg ⟨(), h, I2⟩ [])
 intro i h
 refine gU (gT (gQ (Ac 1 I (Bn (hY (c := (a == 45)) I I I) I (Ac 1 I (gR (An h I ?_ ?_)))))))
 intro j h
 exact gZ (lg ⟨(), h, I2⟩ [])
 intro j h
 refine gU (gZ (Ag I ?_))
 obtain rfl := h
 exact gW pr
 rintro s ob ⟨e, h, rfl, rfl⟩
 unfold G4.J1 at h
 refine gT (Ag I ?_)
 obtain rfl := h
 exact gW pr
theorem Yi (a : Bt) (r : Bool) (h : Gb a = some r) : ACalls Ah 141 [.v (.string a)] [] (RB r) := by
 refine Ad Tryz.func141 I I I fun C hC => ?_
 unfold Gb at h
 refine Ag I (Ab fun S o => Aj (fun s ob => ∃ (f : Bool), Gb.J1 a f = some r ∧ s = [(17, .v (.bool f))] ∧ ob = []) [(0, _)] J1 ?_ ?_)
 refine gQ (Ac 4 I ?_)
 rcases bt (decide ((a.size : Int) < 1)) with b | b
 have h := Bc b h
 exact Ae 7 I b (Ac 10 I (gR (lg ⟨true, h, I2⟩ [])))
 have h := Bd b h
 refine Ae 7 I b ?_
 rcases bt (decide ((a.size : Int) > 12)) with d | d
 have h := Bc d h
 exact Ac 5 I (Ae 12 I d (Ac 5 I (gR (lg ⟨true, h, I2⟩ []))))
 have h := Bd d h
 obtain ⟨g, t, h⟩ := Aa h
 obtain ⟨u, w, y⟩ := Jj t
 exact Ac 5 I (Ae 12 I d (Ac 1 I (Bg I I I (Bn (Bp (m := g.1) I I I I u w y) I (Bg I I I (hG (Pr g.2 _ I) (Ac 2 I (gR (lg ⟨((G4 g.2) != 1), h, I2⟩ [])))))))))
 rintro s ob ⟨f, h, rfl, rfl⟩
 refine An h I ?_ ?_
 intro A h
 refine Ag I ?_
 cases io h
 exact gW pr
 intro A h
 refine gU ?_
 subst o
 refine Aj (fun s ob => ∃ (i : Unit), Gb.J2 i = some r ∧ s = [] ∧ ob = []) [] J ?_ ?_
 refine Ag I (gV ?_)
 obtain ⟨U, B, h⟩ := Aa h
 have D : (a.size : Int).toNat ≤ 9223372036854775806 := by have := Sm B; omega
 obtain ⟨W, E, j⟩ := Aa h
 refine Ff E [(0, _), (19, _)] J2 (fun (e : Nat) (l : Unit) s ob => s = [(20, .V (e : Int))] ∧ ob = []) ⟨I, I⟩ ⟨I, J⟩ ⟨[], I, by decide⟩ ?_ ?_
 rintro e l X s ob F ⟨rfl, rfl⟩ h G
 have H : decide ((e : Int) < (a.size : Int)) = true := decide_eq_true (by omega)
 refine Ag I (Ab fun Y K => Bw I H (gU ?_))
 subst K
 refine gT (gV (Ag I (gT ?_)))
 obtain ⟨n, M, h⟩ := Aa h
 obtain ⟨N, O, P⟩ := Jj M
 refine gQ (Ac 2 I (Bn (Bp (m := n.1) I I I I N O P) I (hG (Pr n.2 _ I) (Ac 1 I (gR (An h I ?_ ?_))))))
 intro Q h
 refine Ag I ?_
 obtain rfl := G _ (oi h).symm
 have h := j
 have h := Dm h
 cases io h
 exact gW pr
 intro Q h
 refine gU (gQ (Aq 2 [.k 0 (e + 1 : Nat)] I ⟨A4 F D, J⟩ ?_))
 cases io h
 exact gR ⟨_, _, _, I, I2, J3, [], I, by decide⟩
 rintro l s ob ⟨rfl, rfl⟩ he
 subst he
 have h := Dl j
 have R : decide ((((a.size : Int).toNat : Nat) : Int) < (a.size : Int)) = false := decide_eq_false (by omega)
 exact Ag I (Ab fun Z aa => Bx I R (gZ (lg ⟨(), h, I2⟩ [])))
 rintro s ob ⟨i, h, rfl, rfl⟩
 unfold Gb.J2 at h
 refine Ag I ?_
 cases io h
 exact gW pr
theorem Pu (a : Nw) (r : Arr (List Bt) 4) (h : Kt a = some r) : ACalls Ah 138 [.agg (Af a)] [] (RV (.agg (r.l.map (cL 1 rS)))) := by
 refine Ad Tryz.func138 I I I fun C hC => ?_
 unfold Kt at h
 refine Ab fun y1 U => gQ (gS [] I (Ck (Af a) 6 fun u => gS [] I (Cl W2 4 fun f => gR ?_)))
 subst U
 refine Ab fun y4 W => gQ (gS [] I (Cl W2 4 fun g => gR ?_))
 subst W
 refine Ab fun y6 X => gQ (Aq 2 [.o 1 0] I J1 (Bn (Cy (m := 0) I I I I I I (A9 I)) I (gS [2] I (Bo 2 0 0 [[Q1 a.Nodes, .N, .N, .N]] I (gR ?_)))))
 subst X
 refine Aj (fun s ob => ∃ (c : List Bt) (b : Value), Kt.J1 a c = some r ∧ s = [] ∧ ob = [O0 u [Af a], O2 f [W2], O2 g [[Q1 a.Nodes, .v b, .N, .N]], U1 b c]) [(1, _), (2, _), (3, _)] J3 ?_ ?_
 refine A8 [.o 1 0, .l 2 (a.Segments.length : Int)] I ⟨Ax, I, J⟩ (gV (Cu 14 I fun Y => gY (Ay 9 1) ?_))
 obtain ⟨a5, Z, aa⟩ := Aa h
 refine Dx Z [(1, _), (2, _), (3, _), (14, _), (15, _)] J5 (fun (w : Nat) (y : List Bt) s ob => ∃ (j : Value), s = [(16, .V (w : Int))] ∧ ob = [O0 u [Af a], O2 f [W2], O2 g [[Q1 a.Nodes, .v j, .N, .N]], U1 j y]) ⟨(.slice none 0 0), I2⟩ ⟨I, J⟩ ⟨[0, 1, 2, 3], I, by decide⟩ ?_ ?_
 rintro w F y a6 s ob ab M ⟨j, rfl, rfl⟩ h
 have ac := Dr M
 refine Ag I (Ab fun a7 ad => Bw I ac (gU ?_))
 subst ad
 refine gT (gV (gT (gQ (Aq 2 [.x 0 w (Ao F)] I ⟨⟨I, Al ab⟩, J⟩ (gS [] I (Cl W1 7 fun a8 => gS [4] I (Bo 4 0 0 [Ao F] I (gR ?_))))))))
 obtain ⟨a9, ae, h⟩ := Aa h
 refine gQ (Bn (Cy (m := 1) I I I I I I (A9 I)) I (Aq 3 [.o 0 2, .o 2 4] I J2 (gS [] I (hE 1 (([F.Name] : List Bt).map rS) (gS [3] I (Cq 3 I ae fun O => Bn (Cy (m := 1) I I I I I I (A9 I)) I (AO.one 3 I fun af => gS [2] I (hO 2 0 1 (es' := [[Q1 a.Nodes, .v O, .N, .N]]) I I I I I I (Ci af) I (A9 I) I I (gR (gQ (Aq 2 [.k 0 (w + 1 : Nat)] I ⟨A4 M Y, J⟩ ?_)))))))))))
 cases io h
 exact gR (lg ⟨O, I2⟩ [0, 1, 2, 3])
 rintro y s ob ⟨j, rfl, rfl⟩ he
 subst he
 have h := aa
 have ag := Ds a.Segments.length
 exact Ag I (Ab fun ba bb => Bx I ag (gZ (lg ⟨y, j, h, I2⟩ [0, 1, 2, 3])))
 rintro s ob ⟨c, b, h, rfl, rfl⟩
 unfold Kt.J1 at h
 refine Aj (fun s ob => ∃ (e : List Bt) (d : Value), Kt.J2 a c e = some r ∧ s = [] ∧ ob = [O0 u [Af a], O2 f [W2], O2 g [[Q1 a.Nodes, .v b, .v d, .N]], U1 b c, U1 d e]) [(1, _), (2, _), (3, _)] J3 ?_ ?_
 refine A8 [.o 1 0, .l 2 (a.Ports.length : Int)] I ⟨Ax, I, J⟩ (gV (Cu 29 I fun ah => gY (Ay 9 1) ?_))
 obtain ⟨bc, ai, aj⟩ := Aa h
 refine Dx ai [(1, _), (2, _), (3, _), (29, _), (30, _)] J5 (fun (A : Nat) (B : List Bt) s ob => ∃ (n : Value), s = [(31, .V (A : Int))] ∧ ob = [O0 u [Af a], O2 f [W2], O2 g [[Q1 a.Nodes, .v b, .v n, .N]], U1 b c, U1 n B]) ⟨(.slice none 0 0), I2⟩ ⟨I, J⟩ ⟨[0, 1, 2, 3, 4], I, by decide⟩ ?_ ?_
 rintro A G B bd s ob ak P ⟨n, rfl, rfl⟩ h
 have al := Dr P
 refine Ag I (Ab fun be am => Bw I al (gU ?_))
 subst am
 refine gT (gV (gT (gQ (Aq 2 [.x 0 A (B1 G)] I ⟨⟨I, Al ak⟩, J⟩ (gS [] I (Cl W4 3 fun bf => gS [5] I (Bo 5 0 0 [B1 G] I (gR ?_))))))))
 obtain ⟨bg, an, h⟩ := Aa h
 refine gQ (Bn (Cy (m := 2) I I I I I I (A9 I)) I (Aq 3 [.o 0 2, .o 2 5] I J2 (gS [] I (hE 1 (([G.Name] : List Bt).map rS) (gS [4] I (Cq 4 I an fun Q => Bn (Cy (m := 2) I I I I I I (A9 I)) I (AO.one 4 I fun ao => gS [2] I (hO 2 0 2 (es' := [[Q1 a.Nodes, .v b, .v Q, .N]]) I I I I I I (Ci ao) I (A9 I) I I (gR (gQ (Aq 2 [.k 0 (A + 1 : Nat)] I ⟨A4 P ah, J⟩ ?_)))))))))))
 cases io h
 exact gR (lg ⟨Q, I2⟩ [0, 1, 2, 3, 4])
 rintro B s ob ⟨n, rfl, rfl⟩ he
 subst he
 have h := aj
 have aq := Ds a.Ports.length
 exact Ag I (Ab fun bh bi => Bx I aq (gZ (lg ⟨B, n, h, I2⟩ [0, 1, 2, 3, 4])))
 rintro s ob ⟨e, d, h, rfl, rfl⟩
 unfold Kt.J2 at h
 refine Aj (fun s ob => ∃ (q : List Bt) (i : Value), Kt.J3 a c e q = some r ∧ s = [] ∧ ob = [O2 f [W2], O2 g [[Q1 a.Nodes, .v b, .v d, .v i]], U1 b c, U1 d e, U1 i q]) [(2, _), (3, _)] J2 ?_ ?_
 refine A8 [.o 1 0, .l 2 (a.Stations.length : Int)] I ⟨Ax, I, J⟩ (gV (Cu 44 I fun ar => gY (Ay 9 1) ?_))
 obtain ⟨bj, au, av⟩ := Aa h
 refine Dx au [(2, _), (3, _), (44, _), (45, _)] J4 (fun (D : Nat) (E : List Bt) s ob => ∃ (t : Value), s = [(46, .V (D : Int))] ∧ ob = [O2 f [W2], O2 g [[Q1 a.Nodes, .v b, .v d, .v t]], U1 b c, U1 d e, U1 t E]) ⟨(.slice none 0 0), I2⟩ ⟨I, J⟩ ⟨[1, 2, 3, 4, 5], I, by decide⟩ ?_ ?_
 rintro D H E bk s ob aw R ⟨t, rfl, rfl⟩ h
 have ax := Dr R
 refine Ag I (Ab fun bl ay => Bw I ax (gU ?_))
 subst ay
 refine gT (gV (gT (gQ (Aq 2 [.x 0 D (Az H)] I ⟨⟨I, Al aw⟩, J⟩ (gS [] I (Cl W3 5 fun bm => gS [5] I (Bo 5 0 0 [Az H] I (gR ?_))))))))
 obtain ⟨bn, az, h⟩ := Aa h
 refine gQ (Bn (Cy (m := 3) I I I I I I (A9 I)) I (Aq 3 [.o 0 1, .o 2 5] I J2 (gS [] I (hE 1 (([H.Name] : List Bt).map rS) (gS [4] I (Cq 4 I az fun S => Bn (Cy (m := 3) I I I I I I (A9 I)) I (AO.one 4 I fun a0 => gS [1] I (hO 1 0 3 (es' := [[Q1 a.Nodes, .v b, .v d, .v S]]) I I I I I I (Ci a0) I (A9 I) I I (gR (gQ (Aq 2 [.k 0 (D + 1 : Nat)] I ⟨A4 R ar, J⟩ ?_)))))))))))
 cases io h
 exact gR (lg ⟨S, I2⟩ [0, 1, 2, 3, 4])
 rintro E s ob ⟨t, rfl, rfl⟩ he
 subst he
 have h := av
 have a1 := Ds a.Stations.length
 exact Ag I (Ab fun bo bp => Bx I a1 (gZ (lg ⟨E, t, h, I2⟩ [0, 1, 2, 3, 4])))
 rintro s ob ⟨q, i, h, rfl, rfl⟩
 unfold Kt.J3 at h
 refine gT (gQ (Aq 1 [.o 0 1] I J1 (gS [0] I (Bo 0 0 0 [[Q1 a.Nodes, .v b, .v d, .v i]] I (gR (gY (Bi [2, 3, 4] (K := [U1 b c, U1 d e, U1 i q]) I [] J (ob' := [O2 f [[Q1 a.Nodes, Q1 c, Q1 e, Q1 q]], O2 g [[Q1 a.Nodes, .v b, .v d, .v i]]]) (.cons (.arr (.cons (.refl _) (.cons (.us 0 I) (.cons (.us 1 I) (.cons (.us 2 I) (.rest _)))))) (.rest _))) (F2 [0] I ?_)))))))
 cases io h
 exact gW ⟨.inr I, [_], [], ⟨⟨0, _, _, _, _, _, _, _, I5⟩, J⟩, Cd, I2⟩
theorem Xd (a : Sn) (b : Sn) (r : Bool) (h : G0 a b = r) : ACalls Ah 187 [.agg (Az a), .eptr (Az b)] [] (RB r) := by
 refine Ad Tryz.func187 I I I fun C hC => ?_
 unfold G0 at h
 refine gT (gQ (gS [] I (Ck (Az a) 5 fun c => Ac 1 I (gR (A8 [.o 1 0] I J1 (gY g0 ?_))))))
 obtain rfl := h
 exact gW pr
theorem Wp (a : Nw) (r : Bool) (h : L0 a = some r) : ACalls Ah 142 [.agg (Af a)] [] (RB r) := by
 refine Ad Tryz.func142 I I I fun C hC => ?_
 unfold L0 at h
 refine Ab fun y1 G => gQ (gS [] I (Ck (Af a) 6 fun b => Ac 1 I (gR ?_)))
 subst G
 refine Aj (fun s ob => ∃ (j : Unit), L0.J1 a j = some r ∧ s = [] ∧ ob = [O0 b [Af a]]) [(1, _)] J1 ?_ ?_
 refine Ab fun aw H => ?_
 obtain ⟨ax, K, h⟩ := Aa h
 refine gQ (Aq 1 [.o 0 0] I J1 (gS [] I (Dh I I I (Pu _ _ K) dS ?_)))
 rintro _ _ ⟨rfl, rfl⟩
 refine Ac 1 I (gR ?_)
 subst H
 refine gV ?_
 have M : (4 : Nat) ≤ 9223372036854775806 := by decide
 obtain ⟨ay, N, n⟩ := Aa h
 refine Ff N [(1, _), (10, _)] J2 (fun (e : Nat) (t : Unit) s ob => s = [(11, .V (e : Int))] ∧ ob = [O0 b [Af a]]) ⟨I, I⟩ ⟨I, J⟩ ⟨[0], I, by decide⟩ ?_ ?_
 rintro e t O s ob P ⟨rfl, rfl⟩ h Q
 unfold L0.B4 at h
 have R : decide ((e : Int) < 4) = true := decide_eq_true (by omega)
 refine Ag I (Ab fun az S => Bw I R (gU ?_))
 subst S
 refine Aj (fun s ob => ∃ (u : Unit), L0.J5 u = some O ∧ s = [] ∧ ob = [O0 b [Af a]]) [(1, _), (10, _), (11, _)] J3 ?_ ?_
 refine gV (Ab fun a0 U => ?_)
 obtain ⟨i, ⟨W, X⟩, h⟩ := Bh h
 refine gQ (Bn (Fu (m := i.1) I I I I I I I W X (hlen := Arr.h _)) I (Ac 1 I (gR ?_)))
 subst U
 refine A8 [.l 1 (i.2.length : Int)] I ⟨Ax, J⟩ (gV (Cu 14 I fun Y => ?_))
 obtain ⟨a1, Z, w⟩ := Aa h
 refine Ca Z [(1, _), (4, _), (10, _), (11, _), (14, _), (15, _)] J6 (fun (f : Nat) (y : Unit) s ob => s = [(16, .V (f : Int))] ∧ ob = [O0 b [Af a]]) ⟨I, I⟩ ⟨I, J⟩ ⟨[0], I, by decide⟩ ?_ ?_
 rintro f aa y a2 s ob ab A ⟨rfl, rfl⟩ h ac
 have ad := Dr A
 refine Ag I (Ab fun a3 ae => Bw I ad (gU ?_))
 subst ae
 refine gT (gV (A8 [.x 1 f (rS aa)] I ⟨⟨I, Al ab⟩, J⟩ (gT ?_)))
 obtain ⟨a4, af, h⟩ := Aa h
 refine gQ (Ac 2 I (hG (Xf _ _ _ af) (Ac 2 I (gR (An h I ?_ ?_)))))
 intro ag h
 refine Ag I ?_
 obtain rfl := ac _ (oi h).symm
 have h := w
 have h := Dm h
 obtain rfl := Q _ (oi h).symm
 have h := n
 have h := Dm h
 refine gY g0 ?_
 cases io h
 exact gW pr
 intro ag h
 refine gU (gQ (Aq 2 [.k 0 (f + 1 : Nat)] I ⟨A4 A Y, J⟩ ?_))
 cases io h
 exact gR ⟨_, _, _, I, I2, J7, [0], I, by decide⟩
 rintro y s ob ⟨rfl, rfl⟩ he
 subst he
 have h := Dl w
 have ah := Ds i.2.length
 exact Ag I (Ab fun a5 a6 => Bx I ah (gZ (lg ⟨(), h, I2⟩ [0])))
 rintro s ob ⟨u, h, rfl, rfl⟩
 unfold L0.J5 at h
 refine gQ (Aq 2 [.k 0 (e + 1 : Nat)] I ⟨A4 P M, J⟩ ?_)
 cases io h
 exact gR ⟨_, _, _, I, I2, J3, [0], I, by decide⟩
 rintro t s ob ⟨rfl, rfl⟩ he
 subst he
 have h := Dl n
 have ai : decide (((4 : Nat) : Int) < 4) = false := by simp
 exact Ag I (Ab fun a7 a8 => Bx I ai (gZ (lg ⟨(), h, I2⟩ [0])))
 rintro s ob ⟨j, h, rfl, rfl⟩
 unfold L0.J1 at h
 refine Aj (fun s ob => ∃ (B : Unit), L0.J2 B = some r ∧ s = [] ∧ ob = []) [] J ?_ ?_
 refine A8 [.o 1 0, .l 2 (a.Stations.length : Int)] I ⟨Ax, I, J⟩ (gV (Cu 29 I fun aj => ?_))
 obtain ⟨a9, ak, D⟩ := Aa h
 refine Ca ak [(1, _), (29, _), (30, _)] J3 (fun (g : Nat) (E : Unit) s ob => s = [(31, .V (g : Int))] ∧ ob = [O0 b [Af a]]) ⟨I, I⟩ ⟨I, J⟩ ⟨[0], I, by decide⟩ ?_ ?_
 rintro g d E ba s ob al F ⟨rfl, rfl⟩ h am
 have an := Dr F
 refine Ag I (Ab fun bb ao => Bw I an (gU ?_))
 subst ao
 refine gT (gV (Ab fun bc ap => gQ (Aq 3 [.x 1 g (Az d)] I ⟨⟨I, Al al⟩, J⟩ (gS [] I (Cl W3 5 fun bd => Ac 1 I (gS [1] I (Bo 1 0 0 [Az d] I (gR ?_))))))))
 subst ap
 refine gT ?_
 obtain ⟨be, aq, h⟩ := Aa h
 refine gQ (Aq 2 [.o 1 0] I J1 (Bn (Yp.makeFunc I I) I (gS [] I (Cw I (.refl _) I I (.cons (.refl _) (.cons (.fn (.rest _) (.cons (.box 1 I (.rest _)) (.rest _))) (.rest _))) I (O6 _ (.fn 187 [] [.eptr (Az d)]) I (fun x => some (G0 x d)) (fun x r h => by obtain I := oi h; exact Xd x d _ I) _ aq) dS (by rintro _ _ ⟨rfl, _⟩; rfl) ?_))))
 rintro _ ⟨_, rfl, -⟩
 refine Ac 2 I (gR (An h I ?_ ?_))
 intro ar h
 refine Ag I ?_
 obtain rfl := am _ (oi h).symm
 have h := D
 have h := Dm h
 refine gY g0 ?_
 cases io h
 exact gW pr
 intro ar h
 refine gU (gQ (Aq 2 [.k 0 (g + 1 : Nat)] I ⟨A4 F aj, J⟩ ?_))
 cases io h
 exact gR ⟨_, _, _, I, I2, J4, [0], I, by decide⟩
 rintro E s ob ⟨rfl, rfl⟩ he
 subst he
 have h := Dl D
 have au := Ds a.Stations.length
 exact Ag I (Ab fun bf bg => Bx I au (gZ (lg ⟨(), h, I2⟩ [])))
 rintro s ob ⟨B, h, rfl, rfl⟩
 unfold L0.J2 at h
 refine Ag I ?_
 cases io h
 exact gW pr
theorem Wr (a : Int) (c : Nw) (r : Bool) (h : Ie a c = r) : ACalls Ah 188 [.V a, .eptr (Af c)] [] (RB r) := by
 refine Ad Tryz.func188 I I I fun C hC => ?_
 unfold Ie at h
 refine Ag I (Aj (fun s ob => s = [(3, .v (.bool (decide (a < 0) || decide (a ≥ (c.Nodes.length : Int)))))] ∧ ob = []) [] J ?_ ?_)
 refine gQ (Ac 3 I ?_)
 rcases bt (decide (a < 0)) with b | b
 refine Ae 6 I b (Ac 7 I (gR ?_))
 exact lf I2 ⟨(C0 (by simp only [b, bz])), J⟩ [] I
 refine Ae 6 I b (Aq 7 [.l 3 (c.Nodes.length : Int)] I ⟨Ax, J⟩ (gR ?_))
 exact lf I2 ⟨(C0 (by simp only [b, bz])), J⟩ [] I
 rintro s ob ⟨rfl, rfl⟩
 obtain rfl := h
 exact gW pr
theorem Yj (a : Nw) (r : Bool) (h : Mw a = some r) : ACalls Ah 143 [.agg (Af a)] [] (RB r) := by
 refine Ad Tryz.func143 I I I fun C hC => ?_
 unfold Mw at h
 refine Ab fun y1 O => gQ (gS [] I (Ck (Af a) 6 fun b => Ac 1 I (gR ?_)))
 subst O
 refine Ag I (Aj (fun s ob => ∃ (A : Li) (f : Value), Mw.J1 a A = some r ∧ s = [(3, .v f)] ∧ ob = [O0 b [Af a], U0 f A]) [(1, _)] J1 ?_ ?_)
 refine A8 [.o 1 0, .l 2 (a.Segments.length : Int)] I ⟨Ax, I, J⟩ (gV (Cu 11 I fun P => gY (Ay 3 1) ?_))
 obtain ⟨ax, Q, R⟩ := Aa h
 refine Dx Q [(1, _), (11, _), (12, _)] J3 (fun (g : Nat) (i : Li) s ob => ∃ (c : Value), s = [(13, .V (g : Int)), (3, .v c)] ∧ ob = [O0 b [Af a], U0 c i]) ⟨(.slice none 0 0), I2⟩ ⟨I, I, J⟩ ⟨[0, 1], I, by decide⟩ ?_ ?_
 rintro g j i ay s ob S H ⟨c, rfl, rfl⟩ h
 have U := Dr H
 refine Ag I (Ab fun az W => Bw I U (gU ?_))
 subst W
 refine gT (gV (gT (gQ (Aq 2 [.x 0 g (Ao j)] I ⟨⟨I, Al S⟩, J⟩ (gS [] I (Cl W1 7 fun a0 => gS [2] I (Bo 2 0 0 [Ao j] I (gR ?_))))))))
 obtain ⟨a1, X, h⟩ := Aa h
 refine gQ (Aq 5 [.o 2 2, .o 4 2] I J2 (gS [] I (hE 1 (([j.From, j.To] : Li).map rI) (gS [1] I (Cq 1 I X fun Y => Ac 1 I (gR (gQ (Aq 2 [.k 0 (g + 1 : Nat)] I ⟨A4 H P, J⟩ ?_))))))))
 cases io h
 exact gR (lg ⟨Y, I2⟩ [0, 1])
 rintro i s ob ⟨c, rfl, rfl⟩ he
 subst he
 have h := R
 have Z := Ds a.Segments.length
 exact Ag I (Ab fun a2 a3 => Bx I Z (gZ (lg ⟨i, c, h, I2⟩ [0, 1])))
 rintro s ob ⟨A, f, h, rfl, rfl⟩
 unfold Mw.J1 at h
 refine Aj (fun s ob => ∃ (B : Li) (n : Value), Mw.J2 a B = some r ∧ s = [(3, .v n)] ∧ ob = [O0 b [Af a], U0 n B]) [(1, _)] J1 ?_ ?_
 refine A8 [.o 1 0, .l 2 (a.Ports.length : Int)] I ⟨Ax, I, J⟩ (gV (Cu 26 I fun aa => ?_))
 obtain ⟨a4, ab, ac⟩ := Aa h
 refine Dx ab [(1, _), (26, _), (27, _)] J3 (fun (t : Nat) (u : Li) s ob => ∃ (d : Value), s = [(28, .V (t : Int)), (3, .v d)] ∧ ob = [O0 b [Af a], U0 d u]) ⟨f, I2⟩ ⟨I, I, J⟩ ⟨[0, 1], I, by decide⟩ ?_ ?_
 rintro t D u a5 s ob ad K ⟨d, rfl, rfl⟩ h
 have ae := Dr K
 refine Ag I (Ab fun a6 af => Bw I ae (gU ?_))
 subst af
 refine gT (gV (gT (gQ (Aq 2 [.x 0 t (B1 D)] I ⟨⟨I, Al ad⟩, J⟩ (gS [] I (Cl W4 3 fun a7 => gS [2] I (Bo 2 0 0 [B1 D] I (gR ?_))))))))
 obtain ⟨a8, ag, h⟩ := Aa h
 refine gQ (Aq 3 [.o 2 2] I J1 (gS [] I (hE 1 (([D.Node] : Li).map rI) (gS [1] I (Cq 1 I ag fun ah => Ac 1 I (gR (gQ (Aq 2 [.k 0 (t + 1 : Nat)] I ⟨A4 K aa, J⟩ ?_))))))))
 cases io h
 exact gR (lg ⟨ah, I2⟩ [0, 1])
 rintro u s ob ⟨d, rfl, rfl⟩ he
 subst he
 have h := ac
 have ai := Ds a.Ports.length
 exact Ag I (Ab fun a9 ba => Bx I ai (gZ (lg ⟨u, d, h, I2⟩ [0, 1])))
 rintro s ob ⟨B, n, h, rfl, rfl⟩
 unfold Mw.J2 at h
 refine Aj (fun s ob => ∃ (E : Li) (F : Value), Mw.J3 a E = some r ∧ s = [(3, .v F)] ∧ ob = [O0 b [Af a], U0 F E]) [(1, _)] J1 ?_ ?_
 refine A8 [.o 1 0, .l 2 (a.Stations.length : Int)] I ⟨Ax, I, J⟩ (gV (Cu 39 I fun aj => ?_))
 obtain ⟨bb, ak, al⟩ := Aa h
 refine Dx ak [(1, _), (39, _), (40, _)] J3 (fun (w : Nat) (y : Li) s ob => ∃ (e : Value), s = [(41, .V (w : Int)), (3, .v e)] ∧ ob = [O0 b [Af a], U0 e y]) ⟨n, I2⟩ ⟨I, I, J⟩ ⟨[0, 1], I, by decide⟩ ?_ ?_
 rintro w G y bc s ob am M ⟨e, rfl, rfl⟩ h
 have an := Dr M
 refine Ag I (Ab fun bd ao => Bw I an (gU ?_))
 subst ao
 refine gT (gV (gT (gQ (Aq 2 [.x 0 w (Az G)] I ⟨⟨I, Al am⟩, J⟩ (gS [] I (Cl W3 5 fun be => gS [2] I (Bo 2 0 0 [Az G] I (gR ?_))))))))
 obtain ⟨bf, aq, h⟩ := Aa h
 refine gQ (Aq 3 [.o 2 2] I J1 (gS [] I (hE 1 (([G.Node] : Li).map rI) (gS [1] I (Cq 1 I aq fun ar => Ac 1 I (gR (gQ (Aq 2 [.k 0 (w + 1 : Nat)] I ⟨A4 M aj, J⟩ ?_))))))))
 cases io h
 exact gR (lg ⟨ar, I2⟩ [0, 1])
 rintro y s ob ⟨e, rfl, rfl⟩ he
 subst he
 have h := al
 have au := Ds a.Stations.length
 exact Ag I (Ab fun bg bh => Bx I au (gZ (lg ⟨y, e, h, I2⟩ [0, 1])))
 rintro s ob ⟨E, F, h, rfl, rfl⟩
 refine gT ?_
 obtain ⟨bi, av, h⟩ := Aa h
 refine gQ (Ac 1 I (Bn (Yp.makeFunc I I) I (gS [] I (Cw I (.refl _) I I (.cons (.us 1 I) (.cons (.fn (.rest _) (.cons (.box 0 I (.rest _)) (.rest _))) (.rest _))) I (Wx _ (.fn 188 [] [.eptr (Af a)]) I (fun x => some (Ie x a)) (fun x r h => by obtain I := oi h; exact Wr x a _ I) _ av) dS (by rintro _ _ ⟨rfl, _⟩; rfl) ?_))))
 rintro _ ⟨_, rfl, -⟩
 refine Ac 2 I (gR (gY g0 ?_))
 cases io h
 exact gW pr
theorem Yh (a : Sg) (r : Bool) (h : Ir a = some r) : ACalls Ah 190 [.agg (Ao a)] [] (RB r) := by
 refine Ad Tryz.func190 I I I fun C hC => ?_
 unfold Ir at h
 refine Ab fun y1 H => gQ (gS [] I (Ck (Ao a) 7 fun t => Ac 1 I (gR ?_)))
 subst H
 refine Ab fun y3 K => E8 27 ((a.From == a.To) || ((!(Ce a.Capacity 1 1000000)) || ((!(Ce a.Resist 0 1000)) || (!(Ce a.Wave 0 100000))))) ?_ ?_
 refine gQ (Aq 6 [.o 1 0, .o 3 0] I J2 ?_)
 rcases bt ((a.From == a.To)) with d | d
 exact Ae 10 I d (Ac 17 I (gR (jf (by simp only [d, bz]) I I I2)))
 refine Ae 10 I d (Aq 2 [.o 1 0] I J1 (Bg I I I (hG (Cp a.Capacity 1 1000000 _ I) (Ac 3 I ?_))))
 rcases bt ((!(Ce a.Capacity 1 1000000))) with f | f
 exact Ae 16 I f (Ac 11 I (gR (jf (by simp only [d, f, bz]) I I I2)))
 refine Ae 16 I f (Aq 2 [.o 1 0] I J1 (Bg I I I (hG (Cp a.Resist 0 1000 _ I) (Ac 3 I ?_))))
 rcases bt ((!(Ce a.Resist 0 1000))) with i | i
 exact Ae 22 I i (Ac 5 I (gR (jf (by simp only [d, f, i, bz]) I I I2)))
 exact Ae 22 I i (Aq 2 [.o 1 0] I J1 (Bg I I I (hG (Cp a.Wave 0 100000 _ I) (Ac 2 I (gR (jf (by simp only [d, f, i, bz]) I I I2))))))
 refine An h I ?_ ?_
 intro M h
 refine Ag I (gY g0 ?_)
 cases io h
 exact gW pr
 intro M h
 refine gU ?_
 subst K
 refine Aj (fun s ob => ∃ (D : Unit), Ir.J1 a D = some r ∧ s = [] ∧ ob = [O3 t [Ao a]]) [(1, _)] J1 ?_ ?_
 refine A8 [.o 1 0, .l 2 (a.Points.length : Int)] I ⟨Ax, I, J⟩ (gV (Cu 29 I fun N => ?_))
 obtain ⟨ah, O, E⟩ := Aa h
 refine Ca O [(1, _), (29, _), (30, _)] J3 (fun (j : Nat) (F : Unit) s ob => s = [(31, .V (j : Int))] ∧ ob = [O3 t [Ao a]]) ⟨I, I⟩ ⟨I, J⟩ ⟨[0], I, by decide⟩ ?_ ?_
 rintro j b F P s ob Q G ⟨rfl, rfl⟩ h R
 unfold Ir.B3 at h
 have S := Dr G
 refine Ag I (Ab fun ai U => Bw I S (gU ?_))
 subst U
 refine gT (gV (Ab fun aj W => gQ (Aq 3 [.x 1 j (By b)] I ⟨⟨I, Al Q⟩, J⟩ (gS [] I (Cl [.V 0, .V 0, .V 0] 3 fun ak => Ac 1 I (gS [1] I (Bo 1 0 0 [By b] I (gR ?_))))))))
 subst W
 refine Aj (fun s ob => ∃ (u : Bool), Ir.J4 u = some P ∧ s = [(61, .v (.bool u))] ∧ ob = [O3 t [Ao a]]) [(1, _), (29, _), (30, _), (31, _)] J4 ?_ ?_
 rcases bt ((!(Ce b.Height (-500) 5000))) with e | e
 have h := Bc e h
 refine C4 (pd 26 0 [2, 7]) [1] [_] I (C6 2 [.o 1 0] I J1 (iA I (Cp b.Height (-500) 5000 _ I) (Bm 2 I (Ba 40 I e (Bm 9 I (Ch I I I I dS (Ch I I I I dS (Ch I I I I dS (Ch I I I I dS (Ch I I I I dS (Ch I I I I dS (Ch I I I I dS ?_))))))))))))
 exact Ch I I I I dS (Ch I I I I dS (Ch I I I I dS (Bm 2 I (A2 (gR (lg ⟨true, h, I2⟩ [0]))))))
 have h := Bd e h
 rcases bt ((!(Ce b.Limit 0 100000000))) with g | g
 have h := Bc g h
 refine C4 (pd 26 0 [2, 7]) [1] [_] I (C6 2 [.o 1 0] I J1 (iA I (Cp b.Height (-500) 5000 _ I) (Bm 2 I (Ba 40 I e (C6 2 [.o 1 0] I J1 (Gx I (Cp b.Limit 0 100000000 _ I) (Bm 3 I (Ba 46 I g (Bm 3 I (Ch I I I I dS (Ch I I I I dS (Ch I I I I dS ?_))))))))))))
 exact Ch I I I I dS (Ch I I I I dS (Ch I I I I dS (Ch I I I I dS (Ch I I I I dS (Ch I I I I dS (Ch I I I I dS (Bm 2 I (A2 (gR (lg ⟨true, h, I2⟩ [0]))))))))))
 have h := Bd g h
 rcases bt (decide ((j : Int) > 0)) with n | n
 have h := Bc n h
 obtain ⟨w, ⟨X, Y⟩, h⟩ := Bh h
 refine C4 (pd 26 0 [2, 7]) [1, 0] [_, _] I (C6 2 [.o 1 0] I J1 (iA I (Cp b.Height (-500) 5000 _ I) (Bm 2 I (Ba 40 I e (C6 2 [.o 1 0] I J1 (Gx I (Cp b.Limit 0 100000000 _ I) (Bm 3 I (Ba 46 I g (Bm 3 I (Ba 49 I n (C6 12 [.o 1 0, .o 3 1, .x 6 w.1 (By w.2)] I ⟨⟨X, Al Y⟩, I, I, J⟩ (A2 ?_))))))))))))
 exact gR (lg ⟨decide (b.At ≤ w.2.At), h, I2⟩ [0])
 have h := Bd n h
 refine C4 (pd 26 0 [2, 7]) [1] [_] I (C6 2 [.o 1 0] I J1 (iA I (Cp b.Height (-500) 5000 _ I) (Bm 2 I (Ba 40 I e (C6 2 [.o 1 0] I J1 (Gx I (Cp b.Limit 0 100000000 _ I) (Bm 3 I (Ba 46 I g (Bm 3 I (Ba 49 I n (Bm 12 I (A2 ?_))))))))))))
 exact gR (lg ⟨false, h, I2⟩ [0])
 rintro s ob ⟨u, h, rfl, rfl⟩
 refine An h I ?_ ?_
 intro Z h
 refine Ag I ?_
 obtain rfl := R _ (oi h).symm
 have h := E
 have h := Dm h
 refine gY g0 ?_
 cases io h
 exact gW pr
 intro Z h
 refine gU (gQ (Aq 2 [.k 0 (j + 1 : Nat)] I ⟨A4 G N, J⟩ ?_))
 cases io h
 exact gR ⟨_, _, _, I, I2, J4, [0], I, by decide⟩
 rintro F s ob ⟨rfl, rfl⟩ he
 subst he
 have h := Dl E
 have aa := Ds a.Points.length
 exact Ag I (Ab fun al am => Bx I aa (gZ (lg ⟨(), h, I2⟩ [0])))
 rintro s ob ⟨D, h, rfl, rfl⟩
 unfold Ir.J1 at h
 refine Aj (fun s ob => ∃ (y : Bool), Ir.J2 y = some r ∧ s = [(2, .v (.bool y))] ∧ ob = []) [] J ?_ ?_
 obtain ⟨A, ⟨ab, ac⟩, h⟩ := Bh h
 refine C4 (pd 21 0 []) [0] [_] I (C6 7 [.o 1 0, .x 2 A.1 (By A.2)] I ⟨⟨ab, Al ac⟩, I, J⟩ ?_)
 rcases bt ((A.2.At == 0)) with p | p
 have h := Bc p h
 obtain ⟨B, ⟨ad, ae⟩, h⟩ := Bh h
 exact Ba 69 I p (C6 14 [.o 1 0, .o 3 0, .l 4 (a.Points.length : Int), .x 6 B.1 (By B.2), .o 10 0] I ⟨I, ⟨ad, Al ae⟩, Ax, I, I, J⟩ (A2 (gR (lg ⟨(B.2.At == a.Capacity), h, I2⟩ []))))
 have h := Bd p h
 exact Ba 69 I p (Bm 14 I (A2 (gR (lg ⟨false, h, I2⟩ []))))
 rintro s ob ⟨y, h, rfl, rfl⟩
 unfold Ir.J2 at h
 cases io h
 exact gW pr
theorem Wo (a : Sg) (r : Bool) (h : P4 a = some r) : ACalls Ah 189 [.agg (Ao a)] [] (RB r) := by
 refine Ad Tryz.func189 I I I fun C hC => ?_
 refine gT (gQ (gS [] I (Ck (Ao a) 7 fun d => Ac 1 I (gR (gT ?_)))))
 obtain ⟨e, b, h⟩ := Aa h
 refine gQ (Aq 1 [.o 0 0] I J1 (hG (Yh _ _ b) (Ac 2 I (gR (gY g0 ?_)))))
 cases io h
 exact gW pr
theorem Wt (a : Port) (r : Bool) (h : If a = r) : ACalls Ah 192 [.agg (B1 a)] [] (RB r) := by
 refine Ad Tryz.func192 I I I fun C hC => ?_
 unfold If at h
 refine gT (gQ (gS [] I (Ck (B1 a) 3 fun b => Ac 1 I (gR (gT (gQ (Aq 2 [.o 1 0] I J1 (hG (Cp a.Pressure 0 100000000 _ I) (Ac 2 I (gR (gY g0 ?_)))))))))))
 obtain rfl := h
 exact gW pr
theorem Ya (a : Sn) (r : Bool) (h : Iq a = r) : ACalls Ah 195 [.agg (Az a)] [] (RB r) := by
 refine Ad Tryz.func195 I I I fun C hC => ?_
 unfold Iq at h
 refine Ab fun f e => gQ (gS [] I (Ck (Az a) 5 fun g => Ac 1 I (gR ?_)))
 subst e
 refine Aj (fun s ob => s = [(2, .v (.bool ((!(Ce a.Head 0 100000000)) || ((!(Ce a.Fall 0 100000)) || (!(Ce a.Suction 0 100000000))))))] ∧ ob = []) [] J ?_ ?_
 refine gQ (Aq 2 [.o 1 0] I J1 (hG (Cp a.Head 0 100000000 _ I) (Ac 2 I ?_)))
 rcases bt ((!(Ce a.Head 0 100000000))) with b | b
 refine Ae 7 I b (Ac 12 I (gR ?_))
 exact lf I2 ⟨(C0 (by simp only [b, bz])), J⟩ [] I
 refine Ae 7 I b (Aq 2 [.o 1 0] I J1 (Bg I I I (hG (Cp a.Fall 0 100000 _ I) (Ac 3 I ?_))))
 rcases bt ((!(Ce a.Fall 0 100000))) with d | d
 refine Ae 13 I d (Ac 6 I (gR ?_))
 exact lf I2 ⟨(C0 (by simp only [b, d, bz])), J⟩ [] I
 refine Ae 13 I d (Aq 2 [.o 1 0] I J1 (Bg I I I (hG (Cp a.Suction 0 100000000 _ I) (Ac 3 I (gR ?_)))))
 exact lf I2 ⟨(C0 (by simp only [b, d, bz])), J⟩ [] I
 rintro s ob ⟨rfl, rfl⟩
 obtain rfl := h
 exact gW pr
theorem Yf (a : Nw) (r : Bool) (h : Qn a = some r) : ACalls Ah 144 [.agg (Af a)] [] (RB r) := by
 refine Ad Tryz.func144 I I I fun C hC => ?_
 refine Ab fun p d => gQ (gS [] I (Ck (Af a) 6 fun t => Ac 1 I (gR ?_)))
 subst d
 refine Ab fun u e => gT ?_
 obtain ⟨w, f, h⟩ := Aa h
 refine gQ (Aq 2 [.o 1 0] I J1 (hG (O9 _ (.v (.func (.func 189) #[] #[])) I (fun x => P4 x) (fun x r h => Wo x r h) _ f) (gR (An h I ?_ ?_))))
 intro g h
 refine Ag I (gY g0 ?_)
 cases io h
 exact gW pr
 intro g h
 refine gU ?_
 subst e
 refine Ab fun y i => gT ?_
 obtain ⟨A, j, h⟩ := Aa h
 refine gQ (Aq 2 [.o 1 0] I J1 (hG (Yc _ (.v (.func (.func 192) #[] #[])) I (fun x => some (If x)) (fun x r h => by obtain I := oi h; exact Wt x _ I) _ j) (gR (An h I ?_ ?_))))
 intro k h
 refine Ag I (gY g0 ?_)
 cases io h
 exact gW pr
 intro k h
 refine gU ?_
 subst i
 refine gT (gT ?_)
 obtain ⟨B, l, h⟩ := Aa h
 refine gQ (Aq 2 [.o 1 0] I J1 (hG (W9 _ (.v (.func (.func 195) #[] #[])) I (fun x => some (Iq x)) (fun x r h => by obtain I := oi h; exact Ya x _ I) _ l) (gR (An h I ?_ ?_))))
 intro n h
 refine Ag I (gY g0 ?_)
 cases io h
 exact gW pr
 intro n h
 refine gU (Aj (fun s ob => s = [(2, .v (.bool ((Ce a.Vapour (-100000) 100000000) && (Ce a.Settle 0 100))))] ∧ ob = []) [] J ?_ ?_)
 refine gQ (Aq 2 [.o 1 0] I J1 (hG (Cp a.Vapour (-100000) 100000000 _ I) (Ac 1 I ?_)))
 rcases bt ((Ce a.Vapour (-100000) 100000000)) with b | b
 refine Ae 15 I b (Aq 2 [.o 1 0] I J1 (Bg I I I (hG (Cp a.Settle 0 100 _ I) (Ac 2 I (gR ?_)))))
 exact lf I2 ⟨(C0 (by simp only [b, bz])), J⟩ [] I
 refine Ae 15 I b (Ac 5 I (gR ?_))
 exact lf I2 ⟨(C0 (by simp only [b, bz])), J⟩ [] I
 rintro s ob ⟨rfl, rfl⟩
 cases io h
 exact gW pr
theorem Xi (a : Bt) (r : Bool) (h : Qc a = some r) : ACalls Ah 140 [.v (.string a)] [] (RB r) := by
 refine Ad Tryz.func140 I I I fun C hC => ?_
 refine Ag I (gT ?_)
 obtain ⟨d, b, h⟩ := Aa h
 refine gQ (Ac 1 I (hG (Yi _ _ b) (Ac 2 I (gR ?_))))
 cases io h
 exact gW pr
theorem X5 (a : Nw) (r : Int) (h : G3 a = some r) : ACalls Ah 79 [.agg (Af a)] [] (RV (.V r)) := by
 refine Ad Tryz.func79 I I I fun C hC => ?_
 refine Ab fun Y i => gQ (gS [] I (Ck (Af a) 6 fun d => Ac 1 I (gR ?_)))
 subst i
 refine Ab fun Z j => gT ?_
 obtain ⟨r4, l, h⟩ := Aa h
 refine gQ (Aq 1 [.o 0 0] I J1 (hG (Xs _ _ l) (Ac 1 I (gR (An h I ?_ ?_)))))
 intro n h
 refine Ag I (gY g0 ?_)
 cases io h
 exact gW pr
 intro n h
 refine gU ?_
 subst j
 refine Aj (fun s ob => ∃ (e : Unit), G3.J1 a e = some r ∧ s = [] ∧ ob = [O0 d [Af a]]) [(1, _)] J1 ?_ ?_
 refine Ab fun ab t => ?_
 obtain ⟨ac, u, h⟩ := Aa h
 refine gQ (Aq 1 [.o 0 0] I J1 (gS [] I (Dh I I I (Pu _ _ u) dS ?_)))
 rintro _ _ ⟨rfl, rfl⟩
 refine Ac 1 I (gR ?_)
 subst t
 refine gV ?_
 have w : (4 : Nat) ≤ 9223372036854775806 := by decide
 obtain ⟨ad, y, f⟩ := Aa h
 refine Ff y [(1, _), (9, _)] J2 (fun (b : Nat) (g : Unit) s ob => s = [(10, .V (b : Int))] ∧ ob = [O0 d [Af a]]) ⟨I, I⟩ ⟨I, J⟩ ⟨[0], I, by decide⟩ ?_ ?_
 rintro b g ae s ob A ⟨rfl, rfl⟩ h B
 have D : decide ((b : Int) < 4) = true := decide_eq_true (by omega)
 refine Ag I (Ab fun af E => Bw I D (gU ?_))
 subst E
 refine gT (gV (gT ?_))
 obtain ⟨F, ⟨G, H⟩, h⟩ := Bh h
 refine gQ (Bn (Fu (m := F.1) I I I I I I I G H (hlen := Arr.h _)) I (Ac 1 I (gR (gT ?_))))
 obtain ⟨ag, K, h⟩ := Aa h
 refine gQ (Ac 1 I (hG (Xu _ (.v (.func (.func 140) #[] #[])) I (fun x => Qc x) (fun x r h => Xi x r h) _ K) (gR (An h I ?_ ?_))))
 intro M h
 refine Ag I ?_
 obtain rfl := B _ (oi h).symm
 have h := f
 have h := Dm h
 refine gY g0 ?_
 cases io h
 exact gW pr
 intro M h
 refine gU (gQ (Aq 2 [.k 0 (b + 1 : Nat)] I ⟨A4 A w, J⟩ ?_))
 cases io h
 exact gR ⟨_, _, _, I, I2, J3, [0], I, by decide⟩
 rintro g s ob ⟨rfl, rfl⟩ he
 subst he
 have h := Dl f
 have N : decide (((4 : Nat) : Int) < 4) = false := by simp
 exact Ag I (Ab fun ah ai => Bx I N (gZ (lg ⟨(), h, I2⟩ [0])))
 rintro s ob ⟨e, h, rfl, rfl⟩
 refine gT (gV (Ab fun aj O => ?_))
 obtain ⟨ak, P, h⟩ := Aa h
 refine gQ (Aq 1 [.o 0 0] I J1 (hG (Wp _ _ P) (Ac 1 I (gR ?_))))
 subst O
 refine An h I ?_ ?_
 intro Q h
 refine Ag I (gY g0 ?_)
 cases io h
 exact gW pr
 intro Q h
 refine Ab fun al R => ?_
 obtain ⟨am, S, h⟩ := Aa h
 refine gQ (Aq 1 [.o 0 0] I J1 (hG (Yj _ _ S) (Ac 2 I (gR ?_))))
 subst R
 refine An h I ?_ ?_
 intro U h
 refine Ag I (gY g0 ?_)
 cases io h
 exact gW pr
 intro U h
 refine gT ?_
 obtain ⟨an, W, h⟩ := Aa h
 refine gQ (Aq 1 [.o 0 0] I J1 (hG (Yf _ _ W) (Ac 2 I (gR (An h I ?_ ?_)))))
 intro X h
 refine Ag I (gY g0 ?_)
 cases io h
 exact gW pr
 intro X h
 refine gU (Ag I (gY g0 ?_))
 cases io h
 exact gW pr
theorem X7 (a : List Balance) (F1 : T) {c : FuncId} {d e : List T} (o : I8 F1 = some (c, d, e)) (f : Balance → Option Bool) (p : ∀ (g : Balance) r, f g = some r → ACalls Ah c (d ++ [.agg (A1 g)] ++ e) [] (RB r)) (r : Int) (h : Qk a f = some r) : ACalls Ah 211 [Q2 a, F1] [] (RV (.V r)) := by
 refine Ad Tryz.func211 I I I fun C hC => ?_
 unfold Qk at h
 refine Ag I (Aj (fun s ob => ∃ (i : Unit), Qk.J1 i = some r ∧ s = [] ∧ ob = []) [] J ?_ ?_)
 refine A8 [.l 1 (a.length : Int)] I ⟨Ax, J⟩ (gV (Cu 6 I fun q => ?_))
 obtain ⟨G, t, j⟩ := Aa h
 refine Ca t [(0, _), (1, _), (7, _)] J3 (fun (b : Nat) (m : Unit) s ob => s = [(8, .V (b : Int))] ∧ ob = []) ⟨I, I⟩ ⟨I, J⟩ ⟨[], I, by decide⟩ ?_ ?_
 rintro b u m H s ob w n ⟨rfl, rfl⟩ h y
 have A := Dr n
 refine Ag I (Ab fun K B => Bw I A (gU ?_))
 subst B
 refine gT (gV (Ag I (gT ?_)))
 obtain ⟨M, D, h⟩ := Aa h
 refine gQ (Aq 5 [.x 3 b (A1 u)] I ⟨⟨I, Al w⟩, J⟩ (gS [] I (Cw I (.refl _) o I (.rest _) I (p _ _ D) dS (by rintro _ _ ⟨rfl, _⟩; rfl) ?_)))
 rintro _ ⟨_, rfl, -⟩
 refine gR (An h I ?_ ?_)
 intro E h
 refine Ag I ?_
 obtain rfl := y _ (oi h).symm
 have h := j
 have h := Dm h
 cases io h
 exact gW pr
 intro E h
 refine gU (gQ (Aq 2 [.k 0 (b + 1 : Nat)] I ⟨A4 n q, J⟩ ?_))
 cases io h
 exact gR ⟨_, _, _, I, I2, J4, [], I, by decide⟩
 rintro m s ob ⟨rfl, rfl⟩ he
 subst he
 have h := Dl j
 have F := Ds a.length
 exact Ag I (Ab fun N O => Bx I F (gZ (lg ⟨(), h, I2⟩ [])))
 rintro s ob ⟨i, h, rfl, rfl⟩
 unfold Qk.J1 at h
 refine Ag I ?_
 cases io h
 exact gW pr
theorem Xm (b : List Balance) (F1 : T) {d : FuncId} {e f : List T} (i : I8 F1 = some (d, e, f)) (a : Balance → Option Bool) (j : ∀ (g : Balance) r, a g = some r → ACalls Ah d (e ++ [.agg (A1 g)] ++ f) [] (RB r)) (r : Bool) (h : Md b a = some r) : ACalls Ah 173 [Q2 b, F1] [] (RB r) := by
 refine Ad Tryz.func173 I I I fun C hC => ?_
 refine Ag I (gT ?_)
 obtain ⟨l, k, h⟩ := Aa h
 refine gQ (Ac 2 I (hG (X7 _ F1 i a j _ k) (Ac 2 I (gR ?_))))
 cases io h
 exact gW pr
theorem Hu (a : Int) (r : Bool) (h : Ea a = r) : ACalls Ah 175 [.V a] [] (RB r) := by
 refine Ad Tryz.func175 I I I fun C hC => ?_
 unfold Ea at h
 refine Ag I (Aj (fun s ob => s = [(2, .v (.bool (decide (a ≥ 0) && decide (a ≤ 1099511627776))))] ∧ ob = []) [] J ?_ ?_)
 refine gQ (Ac 3 I ?_)
 rcases bt (decide (a ≥ 0)) with b | b
 refine Ae 5 I b (Ac 4 I (gR ?_))
 exact lf I2 ⟨(C0 (by simp only [b, bz])), J⟩ [] I
 refine Ae 5 I b (Ac 4 I (gR ?_))
 exact lf I2 ⟨(C0 (by simp only [b, bz])), J⟩ [] I
 rintro s ob ⟨rfl, rfl⟩
 obtain rfl := h
 exact gW pr
theorem Wu (a : Balance) (r : Bool) (h : Km a = r) : ACalls Ah 174 [.agg (A1 a)] [] (RB r) := by
 refine Ad Tryz.func174 I I I fun C hC => ?_
 unfold Km at h
 refine Ab fun f e => gQ (gS [] I (Ck (A1 a) 3 fun g => Ac 1 I (gR ?_)))
 subst e
 refine Aj (fun s ob => s = [(2, .v (.bool ((!(Ea a.In)) || ((!(Ea a.Out)) || (!(Ea a.Pack))))))] ∧ ob = []) [] J ?_ ?_
 refine gQ (Aq 2 [.o 1 0] I J1 (hG (Hu a.In _ I) (Ac 2 I ?_)))
 rcases bt ((!(Ea a.In))) with b | b
 refine Ae 7 I b (Ac 12 I (gR ?_))
 exact lf I2 ⟨(C0 (by simp only [b, bz])), J⟩ [] I
 refine Ae 7 I b (Aq 2 [.o 1 0] I J1 (Bg I I I (hG (Hu a.Out _ I) (Ac 3 I ?_))))
 rcases bt ((!(Ea a.Out))) with d | d
 refine Ae 13 I d (Ac 6 I (gR ?_))
 exact lf I2 ⟨(C0 (by simp only [b, d, bz])), J⟩ [] I
 refine Ae 13 I d (Aq 2 [.o 1 0] I J1 (Bg I I I (hG (Hu a.Pack _ I) (Ac 3 I (gR ?_)))))
 exact lf I2 ⟨(C0 (by simp only [b, d, bz])), J⟩ [] I
 rintro s ob ⟨rfl, rfl⟩
 obtain rfl := h
 exact gW pr
theorem O5 (a : List Balance) (r : Int) (h : Ia a = some r) : ACalls Ah 125 [Q2 a] [] (RV (.V r)) := by
 refine Ad Tryz.func125 I I I fun C hC => ?_
 refine Ag I (Ab fun g b => A8 [.l 1 (a.length : Int)] I ⟨Ax, J⟩ (An h I ?_ ?_))
 intro d h
 refine Ag I ?_
 cases io h
 exact gW pr
 intro d h
 refine gU ?_
 subst b
 refine gT (gT ?_)
 obtain ⟨i, e, h⟩ := Aa h
 refine gQ (Ac 1 I (hG (Xm _ (.v (.func (.func 174) #[] #[])) I (fun x => some (Km x)) (fun x r h => by obtain I := oi h; exact Wu x _ I) _ e) (gR (An h I ?_ ?_))))
 intro f h
 refine Ag I ?_
 cases io h
 exact gW pr
 intro f h
 refine gU (Ag I ?_)
 cases io h
 exact gW pr
theorem Ph (a : Accuracy) (r : Bool) (h : Db a = r) : ACalls Ah 126 [.agg (Am a)] [] (RB r) := by
 refine Ad Tryz.func126 I I I fun C hC => ?_
 unfold Db at h
 refine Ab fun f e => gQ (gS [] I (Ck (Am a) 2 fun g => Ac 1 I (gR ?_)))
 subst e
 refine Aj (fun s ob => s = [(2, .v (.bool (decide (a.Meter ≥ 0) && (decide (a.Meter ≤ 100000) && (Ea a.Pack)))))] ∧ ob = []) [] J ?_ ?_
 refine gQ (Aq 4 [.o 1 0] I J1 ?_)
 rcases bt (decide (a.Meter ≥ 0)) with b | b
 refine Ae 6 I b (Aq 5 [.o 1 0] I J1 ?_)
 rcases bt (decide (a.Meter ≤ 100000)) with d | d
 refine Ae 11 I d (Aq 2 [.o 1 0] I J1 (Bg I I I (hG (Hu a.Pack _ I) (Ac 2 I (gR ?_)))))
 exact lf I2 ⟨(C0 (by simp only [b, d, bz])), J⟩ [] I
 refine Ae 11 I d (Ac 5 I (gR ?_))
 exact lf I2 ⟨(C0 (by simp only [b, d, bz])), J⟩ [] I
 refine Ae 6 I b (Ac 10 I (gR ?_))
 exact lf I2 ⟨(C0 (by simp only [b, bz])), J⟩ [] I
 rintro s ob ⟨rfl, rfl⟩
 obtain rfl := h
 exact gW pr
theorem Po (i : List Balance) (a : Accuracy) (d : Int) (e : Int) (r : Int) (h : Mm i a d e = some r) : ACalls Ah 68 [Q2 i, .agg (Am a), .V d, .V e] [] (RV (.V r)) := by
 refine Ad Tryz.func68 I I I fun C hC => ?_
 refine Ab fun t j => gQ (gS [] I (Ck (Am a) 2 fun u => Ac 1 I (gR ?_)))
 subst j
 refine Ab fun v k => gT ?_
 obtain ⟨w, l, h⟩ := Aa h
 refine gQ (Ac 1 I (hG (O5 _ _ l) (Ac 1 I (gR (Ag I (An h I ?_ ?_))))))
 intro n h
 refine Ag I (gY g0 ?_)
 cases io h
 exact gW pr
 intro n h
 refine gU ?_
 subst k
 refine gT (gV (E8 15 ((!(Db a)) || (decide (e < 0) || decide (e > 1099511627776))) ?_ ?_))
 refine gQ (Aq 1 [.o 0 0] I J1 (hG (Ph a _ I) (Ac 2 I ?_)))
 rcases bt ((!(Db a))) with b | b
 exact Ae 19 I b (Ac 8 I (gR (jf (by simp only [b, bz]) I I I2)))
 refine Ae 19 I b (Ac 4 I ?_)
 rcases bt (decide (e < 0)) with f | f
 exact Ae 23 I f (Ac 4 I (gR (jf (by simp only [b, f, bz]) I I I2)))
 exact Ae 23 I f (Ac 4 I (gR (jf (by simp only [b, f, bz]) I I I2)))
 refine An h I ?_ ?_
 intro p h
 refine Ag I (gY g0 ?_)
 cases io h
 exact gW pr
 intro p h
 refine E8 27 (decide (d < 1) || decide (d > 400)) ?_ ?_
 refine gQ (Ac 3 I ?_)
 rcases bt (decide (d < 1)) with g | g
 exact Ae 30 I g (Ac 4 I (gR (jf (by simp only [g, bz]) I I I2)))
 exact Ae 30 I g (Ac 4 I (gR (jf (by simp only [g, bz]) I I I2)))
 refine An h I ?_ ?_
 intro s h
 refine Ag I (gY g0 ?_)
 cases io h
 exact gW pr
 intro s h
 refine gU (Ag I (gY g0 ?_))
 cases io h
 exact gW pr
theorem Xw (e : List Balance) (a : Int) (c : Int) (r : Bool) (h : Ga e a c = r) : ACalls Ah 176 [Q2 e, .V a, .V c] [] (RB r) := by
 refine Ad Tryz.func176 I I I fun C hC => ?_
 unfold Ga at h
 refine Ag I (Aj (fun s ob => s = [(6, .v (.bool (decide (a ≥ 0) && (decide (a < c) && decide (c < (e.length : Int))))))] ∧ ob = []) [] J ?_ ?_)
 refine gQ (Ac 3 I ?_)
 rcases bt (decide (a ≥ 0)) with b | b
 refine Ae 9 I b (Ac 5 I ?_)
 rcases bt (decide (a < c)) with d | d
 refine Ae 14 I d (Aq 6 [.l 2 (e.length : Int)] I ⟨Ax, J⟩ (gR ?_))
 exact lf I2 ⟨(C0 (by simp only [b, d, bz])), J⟩ [] I
 refine Ae 14 I d (Ac 6 I (gR ?_))
 exact lf I2 ⟨(C0 (by simp only [b, d, bz])), J⟩ [] I
 refine Ae 9 I b (Ac 11 I (gR ?_))
 exact lf I2 ⟨(C0 (by simp only [b, bz])), J⟩ [] I
 rintro s ob ⟨rfl, rfl⟩
 obtain rfl := h
 exact gW pr
theorem Pa (b : List Balance) (a : Accuracy) (d : Int) (e : Int) (r : Int) (h : Kl b a d e = some r) : ACalls Ah 127 [Q2 b, .agg (Am a), .V d, .V e] [] (RV (.V r)) := by
 refine Ad Tryz.func127 I I I fun C hC => ?_
 refine Ab fun p f => gQ (gS [] I (Ck (Am a) 2 fun s => Ac 1 I (gR ?_)))
 subst f
 refine Ab fun t g => gT ?_
 obtain ⟨u, i, h⟩ := Aa h
 refine gQ (Ac 1 I (hG (O5 _ _ i) (Ac 1 I (gR (Ag I (An h I ?_ ?_))))))
 intro j h
 refine Ag I (gY g0 ?_)
 cases io h
 exact gW pr
 intro j h
 refine gU ?_
 subst g
 refine gT (gV (Ab fun v k => gQ (Aq 1 [.o 0 0] I J1 (hG (Ph a _ I) (Ac 2 I (gR ?_))))))
 subst k
 refine An h I ?_ ?_
 intro l h
 refine Ag I (gY g0 ?_)
 cases io h
 exact gW pr
 intro l h
 refine gT (gQ (Ac 3 I (hG (Xw b d e _ I) (Ac 2 I (gR (An h I ?_ ?_))))))
 intro n h
 refine Ag I (gY g0 ?_)
 cases io h
 exact gW pr
 intro n h
 refine gU (Ag I (gY g0 ?_))
 cases io h
 exact gW pr
theorem Pb (d : List Balance) (e : Int) (f : Int) (r : Int × Int) (h : Ih d e f = some r) : ACalls Ah 177 [Q2 d, .V e, .V f] [] (RV (.tup [.V r.1, .V r.2])) := by
 refine Ad Tryz.func177 I I I fun C hC => ?_
 unfold Ih at h
 refine Ag I (Aj (fun s ob => ∃ (b : Int × Int), Ih.J1 b = some r ∧ s = [(6, .V b.1), (7, .V b.2)] ∧ ob = []) [] J ?_ ?_)
 refine Ab fun S n => ?_
 obtain ⟨g, t, h⟩ := Aa h
 obtain ⟨u, w, y, A, B, D, E, F, G, H⟩ := Vn t
 refine gQ (Ac 7 I (Bn (aB u w y I I I I I ⟨_, _, I, A⟩ ⟨_, _, I, B⟩ ⟨_, _, I, D⟩ (fun h => by cases h) E F G H) I (Aq 2 [.l 0 (g.length : Int)] I ⟨Ax, J⟩ (gR ?_))))
 subst n
 refine gV (Cu 17 I fun K => ?_)
 obtain ⟨U, M, N⟩ := Aa h
 refine Dx M [(17, _), (18, _)] J2 (fun (c : Nat) (a : Int × Int) s ob => s = [(19, .V (c : Int)), (6, .V a.1), (7, .V a.2)] ∧ ob = []) ⟨I, I⟩ ⟨I, I, I, J⟩ ⟨[], I, by decide⟩ ?_ ?_
 rintro c i a W s ob O j ⟨rfl, rfl⟩ h
 unfold Ih.B2 at h
 have P := Dr j
 refine Ag I (Ab fun X Q => Bw I P (gU ?_))
 subst Q
 refine gT (gV (gT (gQ (Aq 2 [.x 0 c (A1 i)] I ⟨⟨I, Al O⟩, J⟩ (gS [] I (Cl [.V 0, .V 0, .V 0] 3 fun Y => gS [0] I (Bo 0 0 0 [A1 i] I (gR (Gw (pd 10 0 []) [0] [_] [.o 2 0, .o 6 0] I I J2 (gQ (Aq 2 [.k 0 (c + 1 : Nat)] I ⟨A4 j K, J⟩ ?_)))))))))))
 cases io h
 exact gR (lg I2 [])
 rintro a s ob ⟨rfl, rfl⟩ he
 subst he
 have h := N
 have R := Ds g.length
 exact Ag I (Ab fun Z aa => Bx I R (gZ (lg ⟨(a.1, a.2), h, I2⟩ [])))
 rintro s ob ⟨b, h, rfl, rfl⟩
 unfold Ih.J1 at h
 refine Ag I ?_
 cases io h
 exact gW ⟨.inr I, [_, _], [], J2, Cd, I2⟩
theorem Xt (a : List Balance) (b : Int) (d : Int) (r : Int) (h : Qe a b d = some r) : ACalls Ah 128 [Q2 a, .V b, .V d] [] (RV (.V r)) := by
 refine Ad Tryz.func128 I I I fun C hC => ?_
 refine Ag I (Ab fun n g => ?_)
 obtain ⟨o, i, h⟩ := Aa h
 refine gQ (Ac 3 I (hG (Pb _ _ _ _ i) (Ac 5 I (gR ?_))))
 subst g
 refine gT ?_
 obtain ⟨e, ⟨j, k⟩, h⟩ := Bh h
 obtain ⟨f, ⟨l, m⟩, h⟩ := Bh h
 refine Gw (pd 16 0 []) [] [] [.x 5 e.1 (A1 e.2), .x 11 f.1 (A1 f.2)] I I ⟨⟨l, Al m⟩, ⟨j, Al k⟩, J⟩ ?_
 cases io h
 exact gW pr
theorem Pq (e : Int) (a : Int) (r : Int × Int × Bool) (h : Il e a = some r) : ACalls Ah 135 [.V e, .V a] [] (RV (.tup [.V r.1, .V r.2.1, .v (.bool r.2.2)])) := by
 refine Ad Tryz.func135 I I I fun C hC => ?_
 unfold Il at h
 refine Ag I (Ab fun w l => E8 22 (decide (a < 1) || (decide (a > 1099511627776) || (decide (e < (-2305843009213693952)) || decide (e > 2305843009213693952)))) ?_ ?_)
 refine gQ (Ac 3 I ?_)
 rcases bt (decide (a < 1)) with b | b
 exact Ae 11 I b (Ac 11 I (gR (jf (by simp only [b, bz]) I I I2)))
 refine Ae 11 I b (Ac 4 I ?_)
 rcases bt (decide (a > 1099511627776)) with d | d
 exact Ae 15 I d (Ac 7 I (gR (jf (by simp only [b, d, bz]) I I I2)))
 refine Ae 15 I d (Ac 4 I ?_)
 rcases bt (decide (e < (-2305843009213693952))) with g | g
 exact Ae 19 I g (Ac 3 I (gR (jf (by simp only [b, d, g, bz]) I I I2)))
 exact Ae 19 I g (Ac 3 I (gR (jf (by simp only [b, d, g, bz]) I I I2)))
 refine An h I ?_ ?_
 intro m h
 refine Ag I ?_
 cases io h
 exact gW ⟨.inr I, [_, _, _], [], J3, Cd, I2⟩
 intro m h
 refine gU ?_
 subst l
 refine Ab fun y n => ?_
 obtain ⟨i, o, h⟩ := Aa h
 obtain ⟨j, p, h⟩ := Aa h
 refine Gw (pd 8 0 []) [] [] [.f 2 (.V i), .f 5 (.V j)] I I ⟨iB (C2 (c := j) I I (Jg p)), iB (C2 (c := i) I I (G7 o)), J⟩ ?_
 subst n
 refine Aj (fun s ob => ∃ (k : Int × Int), Il.J1 k = some r ∧ s = [(7, .V k.1), (8, .V k.2)] ∧ ob = []) [] J ?_ ?_
 refine Ag I (An h I ?_ ?_)
 intro u h
 exact N2 I (lg ⟨(wr (i - 1), wr (j + a)), h, I2⟩ [])
 intro u h
 exact gU (lg ⟨(i, j), h, I2⟩ [])
 rintro s ob ⟨k, h, rfl, rfl⟩
 unfold Il.J1 at h
 refine Ag I ?_
 cases io h
 exact gW ⟨.inr I, [_, _, _], [], J3, Cd, I2⟩
theorem Pe (e : Int) (f : Int) (r : Int) (h : L8 e f = some r) : ACalls Ah 75 [.V e, .V f] [] (RV (.V r)) := by
 refine Ad Tryz.func75 I I I fun C hC => ?_
 refine Ag I (Ab fun k g => ?_)
 obtain ⟨a, i, h⟩ := Aa h
 refine gQ (Ac 2 I (hG (Pq _ _ _ i) (Ac 7 I (gR ?_))))
 subst g
 refine Aj (fun s ob => ∃ (d : Int), L8.J1 d = some r ∧ s = [(5, .V d)] ∧ ob = []) [] J ?_ ?_
 refine E8 19 (a.2.2 && decide (a.2.1 > 0)) ?_ ?_
 refine gQ (Ac 2 I ?_)
 rcases bt (a.2.2) with b | b
 exact Ae 16 I b (Ac 3 I (gR (jf (by simp only [b, bz]) I I I2)))
 exact Ae 16 I b (Ac 3 I (gR (jf (by simp only [b, bz]) I I I2)))
 refine An h I ?_ ?_
 intro j h
 exact N2 I (lg ⟨wr (a.1 + 1), h, I2⟩ [])
 intro j h
 exact gU (lg ⟨a.1, h, I2⟩ [])
 rintro s ob ⟨d, h, rfl, rfl⟩
 unfold L8.J1 at h
 refine Ag I ?_
 cases io h
 exact gW pr
theorem Pk (a : Int) (b : Int) (r : Int) (h : Mk a b = some r) : ACalls Ah 178 [.V a, .V b] [] (RV (.V r)) := by
 refine Ad Tryz.func178 I I I fun C hC => ?_
 refine Ag I (gT ?_)
 obtain ⟨e, d, h⟩ := Aa h
 refine gQ (Aq 8 [.f 1 (.V (wr (a.tdiv 1000000))), .f 5 (.V (a.tmod 1000000))] I ⟨iB (C2 (c := (a.tmod 1000000)) I I ⟨by decide, I⟩), iB (C2 (c := wr (a.tdiv 1000000)) I I ⟨by decide, I⟩), J⟩ (hG (Pe _ _ _ d) (Ac 2 I (gR ?_))))
 cases io h
 exact gW pr
theorem Pg (b : List Balance) (a : Accuracy) (d : Int) (e : Int) (r : Int) (h : Mg b a d e = some r) : ACalls Ah 129 [Q2 b, .agg (Am a), .V d, .V e] [] (RV (.V r)) := by
 refine Ad Tryz.func129 I I I fun C hC => ?_
 refine Ab fun l f => gQ (gS [] I (Ck (Am a) 2 fun n => Ac 1 I (gR ?_)))
 subst f
 refine Ab fun p g => ?_
 obtain ⟨s, i, h⟩ := Aa h
 refine gQ (Ac 3 I (hG (Pb _ _ _ _ i) (Ac 5 I (gR ?_))))
 subst g
 refine gT ?_
 obtain ⟨t, j, h⟩ := Aa h
 obtain ⟨u, k, h⟩ := Aa h
 refine C4 (sl 3 0 (sl 3 4 (sl 3 9 (.act 3 (.act 7 (.still 8 (.still 12 (.still 13 .nil)))))))) [0] [_] I (C6 9 [.o 2 0, .o 5 0, .o 7 0] I J3 (iA I (Pk _ _ _ j) (iA I (Pk _ _ _ k) (Bm 2 I (Vi 8 (Bm 1 I (A2 (gR (gY g0 ?_)))))))))
 cases io h
 exact gW pr
theorem O7 (b : List Balance) (a : Accuracy) (d : Int) (e : Int) (r : Int × Int × Int) (h : Kj b a d e = some r) : ACalls Ah 69 [Q2 b, .agg (Am a), .V d, .V e] [] (RV (.tup [.V r.1, .V r.2.1, .V r.2.2])) := by
 refine Ad Tryz.func69 I I I fun C hC => ?_
 refine Ab fun n f => gQ (gS [] I (Ck (Am a) 2 fun p => Ac 3 I (gR ?_)))
 subst f
 refine Ab fun s g => gT ?_
 obtain ⟨t, i, h⟩ := Aa h
 refine gQ (Aq 4 [.o 1 0] I J1 (hG (Pa _ _ _ _ _ i) (Ac 1 I (gR (Ag I (An h I ?_ ?_))))))
 intro j h
 refine Ag I (gY g0 ?_)
 cases io h
 exact gW ⟨.inr I, [_, _, _], [], J3, Cd, I2⟩
 intro j h
 refine gU ?_
 subst g
 refine gT ?_
 obtain ⟨u, k, h⟩ := Aa h
 obtain ⟨v, l, h⟩ := Aa h
 refine C4 (sl 3 0 (sl 4 4 (.act 3 (.act 8 (.still 9 (.still 10 .nil)))))) [0] [_] I (C6 7 [.o 4 0] I J1 (iA I (Xt _ _ _ _ k) (iA I (Pg _ _ _ _ _ l) (Bm 2 I (A2 (gR (Ag I (gY g0 ?_))))))))
 cases io h
 exact gW ⟨.inr I, [_, _, _], [], J3, Cd, I2⟩
theorem K8 (i : List Balance) (b : Accuracy) (k : Int) (n : Int) (r : Li × Int) (h : Im i b k n = some r) : ACalls Ah 25 [Q2 i, .agg (Am b), .V k, .V n] [] (fun x new => ∃ (p : Value), x = .tup [.v p, .V r.2] ∧ new = [U0 p r.1]) := by
 refine Ad Tryz.func25 I I I fun C hC => ?_
 refine Ab fun S y => gQ (gS [] I (Ck (Am b) 2 fun t => Ac 2 I (gR ?_)))
 subst y
 refine Ab fun U A => gT ?_
 obtain ⟨W, B, h⟩ := Aa h
 refine gQ (Aq 4 [.o 1 0] I J1 (hG (Po _ _ _ _ _ B) (Ac 1 I (gR (Ag I (An h I ?_ ?_))))))
 intro D h
 refine Ag I (gY (Ay 3 1) (F2 [1] I ?_))
 cases io h
 exact gW ⟨.inr I, [_, _], [.us (.slice none 0 0) 3 1 ([].map rI)], J2, Dt I (Cd), ⟨(.slice none 0 0), I2⟩⟩
 intro D h
 refine gU ?_
 subst A
 refine Ag I (Aj (fun s ob => ∃ (f : Li) (d : Value), Im.J1 f = some r ∧ s = [(11, .v d)] ∧ ob = [U0 d f]) [] J ?_ ?_)
 refine Ag I (gV (gY (Ay 3 1) ?_))
 obtain ⟨X, E, u⟩ := Aa h
 refine A5 E [(0, _), (2, _), (3, _), (5, _)] J4 (fun (a : Li × Int) s ob => ∃ (e : Value), s = [(11, .v e), (12, .V a.2)] ∧ ob = [O4 t [Am b], U0 e a.1]) ⟨(.slice none 0 0), I2⟩ ⟨I, I, J⟩ ⟨[0, 1], I, by decide⟩ ?_
 rintro a F s ob ⟨e, rfl, rfl⟩ h w
 refine Ab fun Y G => A8 [.l 2 (i.length : Int)] I ⟨Ax, J⟩ (An h I ?_ ?_)
 intro H h
 refine gU ?_
 subst G
 refine Aj (fun s ob => ∃ (j : Li) (g : Value), Im.J3 a j = some F ∧ s = [(11, .v g)] ∧ ob = [O4 t [Am b], U0 g j]) [(0, _), (2, _), (3, _), (5, _), (12, _)] J5 ?_ ?_
 refine gV (Ab fun Z K => ?_)
 obtain ⟨aa, M, h⟩ := Aa h
 refine gQ (Aq 6 [.o 1 0] I J1 (hG (O7 _ _ _ _ _ M) (Ac 7 I (gR ?_))))
 subst K
 refine gT (Ag I (An h I ?_ ?_))
 intro N h
 refine Ag I ?_
 obtain rfl := w _ (oi h).symm
 have h := u
 have h := Dl h
 refine gY (Ay 3 1) (F2 [2] I ?_)
 cases io h
 exact gW ⟨.inr I, [_, _], [.us (.slice none 0 0) 3 1 ([].map rI)], J2, Dt I (Cd), ⟨(.slice none 0 0), I2⟩⟩
 intro N h
 refine gU (Ag I (An h I ?_ ?_))
 intro O h
 obtain ⟨P, Q, h⟩ := Aa h
 exact gQ (Ac 2 I (gS [] I (hE 1 (([a.2] : Li).map rI) (gS [1] I (Cq 1 I Q fun R => Ac 1 I (gR (lg ⟨P, R, h, I2⟩ [0, 1])))))))
 intro O h
 exact gU (lg ⟨a.1, e, h, I2⟩ [0, 1])
 rintro s ob ⟨j, g, h, rfl, rfl⟩
 unfold Im.J3 at h
 refine gQ (Ac 3 I ?_)
 cases io h
 exact gR ⟨_, _, _, I, ⟨g, I2⟩, J6, [0, 1], I, by decide⟩
 intro H h
 obtain rfl := w _ (oi h).symm
 have h := u
 have h := Dm h
 exact gZ (lg ⟨a.1, e, h, I2⟩ [1])
 rintro s ob ⟨f, d, h, rfl, rfl⟩
 unfold Im.J1 at h
 refine Ag I ?_
 cases io h
 exact gW ⟨.inr I, [_, _], [U0 d f], J2, Dt I (Cd), ⟨d, I2⟩⟩
theorem Xg (b : List Balance) (a : Accuracy) (d : Int) (e : Int) (r : Int × Int) (h : Qb b a d e = some r) : ACalls Ah 73 [Q2 b, .agg (Am a), .V d, .V e] [] (RV (.tup [.V r.1, .V r.2])) := by
 refine Ad Tryz.func73 I I I fun C hC => ?_
 refine Ab fun k f => gQ (gS [] I (Ck (Am a) 2 fun l => Ac 2 I (gR ?_)))
 subst f
 refine gT (gT ?_)
 obtain ⟨n, g, h⟩ := Aa h
 refine gQ (Aq 4 [.o 1 0] I J1 (hG (Pa _ _ _ _ _ g) (Ac 1 I (gR (Ag I (An h I ?_ ?_))))))
 intro i h
 refine Ag I (gY g0 ?_)
 cases io h
 exact gW ⟨.inr I, [_, _], [], J2, Cd, I2⟩
 intro i h
 refine gU (gT ?_)
 obtain ⟨p, j, h⟩ := Aa h
 refine gQ (Aq 4 [.o 1 0] I J1 (hG (Pg _ _ _ _ _ j) (Ac 2 I (gR (gY g0 ?_)))))
 cases io h
 exact gW ⟨.inr I, [_, _], [], J2, Cd, I2⟩
theorem Pv (d : List Balance) (a : Accuracy) (g : Int) (i : Int) (r : Int × Int) (h : Ku d a g i = some r) : ACalls Ah 27 [Q2 d, .agg (Am a), .V g, .V i] [] (RV (.tup [.V r.1, .V r.2])) := by
 refine Ad Tryz.func27 I I I fun C hC => ?_
 refine Ab fun H p => gQ (gS [] I (Ck (Am a) 2 fun t => Ac 2 I (gR ?_)))
 subst p
 refine Ab fun K u => gT ?_
 obtain ⟨M, v, h⟩ := Aa h
 refine gQ (Aq 4 [.o 1 0] I J1 (hG (Po _ _ _ _ _ v) (Ac 1 I (gR (Ag I (An h I ?_ ?_))))))
 intro w h
 refine Ag I (gY g0 ?_)
 cases io h
 exact gW ⟨.inr I, [_, _], [], J2, Cd, I2⟩
 intro w h
 refine gU ?_
 subst u
 refine Ag I (Aj (fun s ob => ∃ (e : Int), Ku.J1 e = some r ∧ s = [(11, .V e)] ∧ ob = []) [] J ?_ ?_)
 refine Ag I (gV ?_)
 obtain ⟨N, y, j⟩ := Aa h
 refine A5 y [(0, _), (2, _), (3, _), (5, _)] J4 (fun (b : Int × Int) s ob => s = [(11, .V b.1), (12, .V b.2)] ∧ ob = [O4 t [Am a]]) ⟨I, I⟩ ⟨I, I, J⟩ ⟨[0], I, by decide⟩ ?_
 rintro b O s ob ⟨rfl, rfl⟩ h k
 refine Ab fun P A => A8 [.l 2 (d.length : Int)] I ⟨Ax, J⟩ (An h I ?_ ?_)
 intro B h
 refine gU ?_
 subst A
 refine gT (gV (Ab fun Q D => ?_))
 obtain ⟨R, E, h⟩ := Aa h
 refine gQ (Aq 6 [.o 1 0] I J1 (hG (Xg _ _ _ _ _ E) (Ac 5 I (gR ?_))))
 subst D
 refine gT (Ag I (An h I ?_ ?_))
 intro F h
 refine Ag I ?_
 obtain rfl := k _ (oi h).symm
 have h := j
 have h := Dl h
 refine gY g0 ?_
 cases io h
 exact gW ⟨.inr I, [_, _], [], J2, Cd, I2⟩
 intro F h
 refine gU ?_
 obtain ⟨n, G, h⟩ := Aa h
 refine Gn [.f 6 (.V n)] I ⟨iB (C2 (c := n) I I (G7 G)), J⟩ (gQ (Ac 3 I ?_))
 cases io h
 exact gR ⟨_, _, _, I, I2, J6, [0], I, by decide⟩
 intro B h
 obtain rfl := k _ (oi h).symm
 have h := j
 have h := Dm h
 exact gZ (lg ⟨b.1, h, I2⟩ [])
 rintro s ob ⟨e, h, rfl, rfl⟩
 unfold Ku.J1 at h
 refine Ag I ?_
 cases io h
 exact gW ⟨.inr I, [_, _], [], J2, Cd, I2⟩
theorem Wv (a : Int) (b : Int) (r : Int) (h : P7 a b = some r) : ACalls Ah 74 [.V a, .V b] [] (RV (.V r)) := by
 refine Ad Tryz.func74 I I I fun C hC => ?_
 refine Ag I (gT ?_)
 obtain ⟨e, d, h⟩ := Aa h
 refine gQ (Ac 2 I (hG (Pq _ _ _ d) (Ac 7 I (gR (Ag I ?_)))))
 cases io h
 exact gW pr
theorem X8 (b : List Balance) (a : Accuracy) (d : Int) (e : Int) (r : Int × Int × Int) (h : Ms b a d e = some r) : ACalls Ah 29 [Q2 b, .agg (Am a), .V d, .V e] [] (RV (.tup [.V r.1, .V r.2.1, .V r.2.2])) := by
 refine Ad Tryz.func29 I I I fun C hC => ?_
 refine Ab fun p f => gQ (gS [] I (Ck (Am a) 2 fun s => Ac 3 I (gR ?_)))
 subst f
 refine Ab fun t g => ?_
 obtain ⟨u, i, h⟩ := Aa h
 refine gQ (Aq 4 [.o 1 0] I J1 (hG (O7 _ _ _ _ _ i) (Ac 7 I (gR ?_))))
 subst g
 refine Ab fun v j => Ag I (An h I ?_ ?_)
 intro k h
 refine Ag I (gY g0 ?_)
 cases io h
 exact gW ⟨.inr I, [_, _, _], [], J3, Cd, I2⟩
 intro k h
 refine gU ?_
 subst j
 refine gT ?_
 obtain ⟨w, l, h⟩ := Aa h
 obtain ⟨y, n, h⟩ := Aa h
 refine gQ (Ac 4 I (hG (Wv _ _ _ l) (Ac 5 I (hG (Pe _ _ _ n) (Ac 3 I (gR (gY g0 ?_)))))))
 cases io h
 exact gW ⟨.inr I, [_, _, _], [], J3, Cd, I2⟩
theorem Pn  (r : Bool) (h : Qg = some r) : ACalls Ah 22 [] [] (RB r) := by
 refine Ad Tryz.func22 I I I fun C hC => ?_
 refine Ag I (Ab fun N w => gQ (Bn (Bq (l := [.V 0, .V 0, .V 9]) Gf I) I (Bn (Bq (l := [.V 8, .V 5, .V 9]) Gf I) I (Bn (Bq (l := [.V 8, .V 5, .V 9]) Gf I) I (gS [] I (hT (sz := 3) (es := ([(⟨0, 0, 9⟩ : Balance), (⟨8, 5, 9⟩ : Balance), (⟨8, 5, 9⟩ : Balance)] : List Balance).map A1) I I I I I I I I I I I dS fun A => Ac 1 I (gR ?_)))))))
 subst w
 refine Ab fun O B => ?_
 obtain ⟨n, D, h⟩ := Aa h
 refine gQ (Ac 1 I (Bn (Bq (l := [.V 0, .V 0]) Gg I) I (iE (Bi [0] (K := [.us A 64 3 (([(⟨0, 0, 9⟩ : Balance), (⟨8, 5, 9⟩ : Balance), (⟨8, 5, 9⟩ : Balance)] : List Balance).map A1)]) I [(11, .list 3 (([(⟨0, 0, 9⟩ : Balance), (⟨8, 5, 9⟩ : Balance), (⟨8, 5, 9⟩ : Balance)] : List Balance).map A1)), (1, .list 3 (([(⟨0, 0, 9⟩ : Balance), (⟨8, 5, 9⟩ : Balance), (⟨8, 5, 9⟩ : Balance)] : List Balance).map A1)), (13, .list 3 (([(⟨0, 0, 9⟩ : Balance), (⟨8, 5, 9⟩ : Balance), (⟨8, 5, 9⟩ : Balance)] : List Balance).map A1))] ⟨⟨_, I, .us 0 I⟩, ⟨_, I, .us 0 I⟩, ⟨_, I, .us 0 I⟩, J⟩ (ob' := []) (.rest _)) (gS [] I (Dh I I I (K8 _ _ _ _ _ D) dS ?_)))))
 rintro _ _ ⟨P, rfl, rfl⟩
 refine Ac 5 I (gR ?_)
 subst B
 refine Ab fun Q E => ?_
 obtain ⟨o, F, h⟩ := Aa h
 refine gQ (Ac 1 I (Bn (Bq (l := [.V 0, .V 0]) Gg I) I (hG (Pv _ _ _ _ _ F) (Ac 5 I (gR ?_)))))
 subst E
 refine Ab fun R G => ?_
 obtain ⟨t, H, h⟩ := Aa h
 refine gQ (Ac 1 I (Bn (Bq (l := [.V 0, .V 0]) Gg I) I (gS [] I (Dh I I I (K8 _ _ _ _ _ H) dS ?_))))
 rintro _ _ ⟨S, rfl, rfl⟩
 refine Ac 5 I (gR ?_)
 subst G
 refine Aj (fun s ob => ∃ (k : Bool), Qg.J1 k = some r ∧ s = [(0, .v (.bool k))] ∧ ob = []) [] J ?_ ?_
 refine gQ (Ac 3 I ?_)
 rcases bt ((n.2 == 0)) with e | e
 have h := Bc e h
 refine Ae 32 I e ?_
 rcases bt ((o.2 == 0)) with a | a
 have h := Bc a h
 rcases bt ((t.2 == 0)) with b | b
 have h := Bc b h
 rcases bt (((n.1.length : Int) == 1)) with f | f
 have h := Bc f h
 obtain ⟨j, ⟨M, u⟩, h⟩ := Bh h
 refine Ac 4 I (Ae 36 I a (Ac 4 I (Ae 40 I b (Ac 1 I (Bg I I I (hM (B0 0 I I I I) I (Ac 3 I (Ae 45 I f (Ac 1 I (Bg I I I (hM (Dd 0 (m := j.1) I I I I I I I M (Al u)) I (Bg I I I ?_))))))))))))
 refine hM (Dv 0 j.1 0 I I I (Al u) I (y := .V j.2) I) I (Ac 3 I ?_)
 rcases bt ((j.2 == 2)) with g | g
 have h := Bc g h
 refine Ae 51 I g (Ac 4 I ?_)
 rcases bt ((o.1 == 3)) with i | i
 have h := Bc i h
 exact Ae 55 I i (Ac 1 I (Bg I I I (hM (B0 1 I I I I) I (Ac 3 I (gR (lg ⟨((t.1.length : Int) == 0), h, I2⟩ []))))))
 have h := Bd i h
 exact Ae 55 I i (Ac 5 I (gR (lg ⟨false, h, I2⟩ [])))
 have h := Bd g h
 exact Ae 51 I g (Ac 9 I (gR (lg ⟨false, h, I2⟩ [])))
 have h := Bd f h
 exact Ac 4 I (Ae 36 I a (Ac 4 I (Ae 40 I b (Ac 1 I (Bg I I I (hM (B0 0 I I I I) I (Ac 3 I (Ae 45 I f (Ac 15 I (gR (lg ⟨false, h, I2⟩ [])))))))))))
 have h := Bd b h
 exact Ac 4 I (Ae 36 I a (Ac 4 I (Ae 40 I b (Ac 20 I (gR (lg ⟨false, h, I2⟩ []))))))
 have h := Bd a h
 exact Ac 4 I (Ae 36 I a (Ac 24 I (gR (lg ⟨false, h, I2⟩ []))))
 have h := Bd e h
 exact Ae 32 I e (Ac 28 I (gR (lg ⟨false, h, I2⟩ [])))
 rintro s ob ⟨k, h, rfl, rfl⟩
 unfold Qg.J1 at h
 cases io h
 exact gW pr
end Go.Proofs.YtihdchjpepkpbaaGreat
