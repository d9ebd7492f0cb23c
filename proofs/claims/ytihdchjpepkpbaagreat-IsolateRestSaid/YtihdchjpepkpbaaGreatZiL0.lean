/- Walks that show what functions of the program compute; printed by a program of ours. No condition. -/
import Derived.Test.YtihdchjpepkpbaaGreatZiD
import Derived.Test.YtihdchjpepkpbaaGreatZiB2
set_option maxRecDepth 100000
namespace Go.Proofs.YtihdchjpepkpbaaGreat
open Go.Aw
set_option linter.unusedVariables false
set_option linter.unusedSimpArgs false
set_option maxHeartbeats 4000000
theorem Yl (a : Sg) (b : Int) (r : Int × Int) (h : B0 a b = r) : ACalls Ah 210 [.agg (Am a), .V b] [] (RV (.tup [.V r.1, .V r.2])) := by
 refine Ae Tryz.func210 I I I fun C hC => ?_
 refine Ab fun e c => jG (jI [] I (Br (Am a) 7 fun f => Af 2 I (jH ?_)))
 subst c
 refine jK (Aj I (Ar h I ?_ ?_))
 intro d h
 refine Mp (pd 6 0 []) [0] [_] [.o 1 0, .o 3 0] I I J2 (jO g0 ?_)
 obtain rfl := h
 exact jN ⟨.inr I, [_, _], [], J2, Ct, I2⟩
 intro d h
 refine jL (Mp (pd 6 0 []) [0] [_] [.o 1 0, .o 3 0] I I J2 (jO g0 ?_))
 obtain rfl := h
 exact jN ⟨.inr I, [_, _], [], J2, Ct, I2⟩
theorem Qn (a : Int) (b : Int) (r : Bool) (h : Kw a b = r) : ACalls Ah 164 [.V a, .V b] [] (RB r) := by
 refine Ae Tryz.func164 I I I fun C hC => ?_
 unfold Kw at h
 refine Aj I (Ai (fun s ob => s = [(4, .v (.bool (decide (a ≥ (wr (0 - b))) && decide (a ≤ b))))] ∧ ob = []) [] J ?_ ?_)
 refine jG (Af 5 I ?_)
 rcases bt (decide (a ≥ (wr (0 - b)))) with c | c
 refine Ad 9 I c (Af 5 I (jH ?_))
 exact lf I2 ⟨(Em (by simp only [c, bz])), J⟩ [] I
 refine Ad 9 I c (Af 5 I (jH ?_))
 exact lf I2 ⟨(Em (by simp only [c, bz])), J⟩ [] I
 rintro s ob ⟨rfl, rfl⟩
 obtain rfl := h
 exact jN pr
theorem Zu (e : Int) (b : Int) (r : Int) (h : Ry e b = some r) : ACalls Ah 54 [.V e, .V b] [] (RV (.V r)) := by
 refine Ae Tryz.func54 I I I fun C hC => ?_
 refine Aj I (Ab fun m g => Aj I (Ar h I ?_ ?_))
 intro i h
 refine Aj I ?_
 cases io h
 exact jN pr
 intro i h
 refine jL ?_
 subst g
 refine Ab fun n j => ?_
 obtain ⟨a, k, h⟩ := Ac h
 refine Mo [.f 2 (.V a)] I ⟨Yp.yd (Jg (c := a) I I (bE k)), J⟩ ?_
 subst j
 refine Ai (fun s ob => ∃ (d : Int), Ry.J1 d = some r ∧ s = [(0, .V d)] ∧ ob = []) [] J ?_ ?_
 refine Aj I (Ar h I ?_ ?_)
 intro l h
 exact Sm I (lg ⟨wr (a + b), h, I2⟩ [])
 intro l h
 exact jL (lg ⟨a, h, I2⟩ [])
 rintro s ob ⟨d, h, rfl, rfl⟩
 unfold Ry.J1 at h
 refine Aj I ?_
 cases io h
 exact jN pr
theorem C3 (a : Int) (c : Int) (d : Int) (r : Bool) (h : Cv a c d = r) : ACalls Ah 193 [.V a, .V c, .V d] [] (RB r) := by
 refine Ae Tryz.func193 I I I fun C hC => ?_
 unfold Cv at h
 refine Aj I (Ai (fun s ob => s = [(6, .v (.bool (decide (a ≥ c) && decide (a ≤ d))))] ∧ ob = []) [] J ?_ ?_)
 refine jG (Af 4 I ?_)
 rcases bt (decide (a ≥ c)) with b | b
 refine Ad 10 I b (Af 5 I (jH ?_))
 exact lf I2 ⟨(Em (by simp only [b, bz])), J⟩ [] I
 refine Ad 10 I b (Af 5 I (jH ?_))
 exact lf I2 ⟨(Em (by simp only [b, bz])), J⟩ [] I
 rintro s ob ⟨rfl, rfl⟩
 obtain rfl := h
 exact jN pr
theorem Qj (a : Int) (r : Int) (h : He a = r) : ACalls Ah 163 [.V a] [] (RV (.V r)) := by
 refine Ae Tryz.func163 I I I fun C hC => ?_
 unfold He at h
 refine Aj I (Aj I ?_)
 obtain rfl := h
 exact jN pr
theorem Yv (a : Li) (c : Int) (r : Int) (h : M9 a c = some r) : ACalls Ah 152 [Q0 a, .V c] [] (RV (.V r)) := by
 refine Ae Tryz.func152 I I I fun C hC => ?_
 unfold M9 at h
 refine Aj I (Ai (fun s ob => ∃ (d : Unit), M9.J1 d = some r ∧ s = [] ∧ ob = []) [] J ?_ ?_)
 refine Bd [.l 1 (a.length : Int)] I ⟨As, J⟩ (jM (Ca 6 I fun i => ?_))
 obtain ⟨w, j, e⟩ := Ac h
 refine Bw j (K3 0 1 7) J3 (fun (b : Nat) (f : Unit) s ob => s = [(8, .V (b : Int))] ∧ ob = []) ⟨I, I⟩ ⟨I, J⟩ (pk []) ?_ ?_
 rintro b m f y s ob n g ⟨rfl, rfl⟩ h o
 have p := Cy g
 refine Aj I (Ab fun A q => Bs I p (jL ?_))
 subst q
 refine jK (jM (Aj I (Bd [.x 3 b (rI m)] I ⟨⟨I, Ag n⟩, J⟩ (Ar h I ?_ ?_))))
 intro t h
 refine Aj I ?_
 obtain rfl := o _ (oi h).symm
 have h := e
 have h := Db h
 cases io h
 exact jN pr
 intro t h
 refine jL (jG (Ao 2 [.k 0 (b + 1 : Nat)] I ⟨Ay g i, J⟩ ?_))
 cases io h
 exact jH ⟨_, _, _, I, I2, J4, pk []⟩
 rintro f s ob ⟨rfl, rfl⟩ he
 subst he
 have h := De e
 have u := Cz a.length
 exact Aj I (Ab fun B D => Bu I u (jP (lg ⟨(), h, I2⟩ [])))
 rintro s ob ⟨d, h, rfl, rfl⟩
 unfold M9.J1 at h
 refine Aj I ?_
 cases io h
 exact jN pr
theorem Yq (a : List Bt) (d : Bt) (r : Int) (h : M6 a d = some r) : ACalls Ah 185 [Q1 a, .v (.string d)] [] (RV (.V r)) := by
 refine Ae Tryz.func185 I I I fun C hC => ?_
 unfold M6 at h
 refine Aj I (Ai (fun s ob => ∃ (e : Unit), M6.J1 e = some r ∧ s = [] ∧ ob = []) [] J ?_ ?_)
 refine Bd [.l 1 (a.length : Int)] I ⟨As, J⟩ (jM (Ca 6 I fun m => ?_))
 obtain ⟨A, n, f⟩ := Ac h
 refine Bw n (K3 0 1 7) J3 (fun (b : Nat) (g : Unit) s ob => s = [(8, .V (b : Int))] ∧ ob = []) ⟨I, I⟩ ⟨I, J⟩ (pk []) ?_ ?_
 rintro b i g B s ob o j ⟨rfl, rfl⟩ h q
 have t := Cy j
 refine Aj I (Ab fun D u => Bs I t (jL ?_))
 subst u
 refine jK (jM (Aj I (jK (jG (Ao 5 [.x 3 b (rS i)] I ⟨⟨I, Ag o⟩, J⟩ (Bv (Yp.cmpS (c := Si d i) I I I) I (jH (Ar h I ?_ ?_))))))))
 intro w h
 refine Aj I ?_
 obtain rfl := q _ (oi h).symm
 have h := f
 have h := Db h
 cases io h
 exact jN pr
 intro w h
 refine jL (jG (Ao 2 [.k 0 (b + 1 : Nat)] I ⟨Ay j m, J⟩ ?_))
 cases io h
 exact jH ⟨_, _, _, I, I2, J4, pk []⟩
 rintro g s ob ⟨rfl, rfl⟩ he
 subst he
 have h := De f
 have y := Cz a.length
 exact Aj I (Ab fun E F => Bu I y (jP (lg ⟨(), h, I2⟩ [])))
 rintro s ob ⟨e, h, rfl, rfl⟩
 unfold M6.J1 at h
 refine Aj I ?_
 cases io h
 exact jN pr
theorem Zw (a : Li) (F1 : T) {c : FuncId} {d e : List T} (o : I9 F1 = some (c, d, e)) (f : Int → Option Bool) (p : ∀ (g : Int) r, f g = some r → ACalls Ah c (d ++ [.V g] ++ e) [] (RB r)) (r : Int) (h : Ns a f = some r) : ACalls Ah 151 [Q0 a, F1] [] (RV (.V r)) := by
 refine Ae Tryz.func151 I I I fun C hC => ?_
 unfold Ns at h
 refine Aj I (Ai (fun s ob => ∃ (i : Unit), Ns.J1 i = some r ∧ s = [] ∧ ob = []) [] J ?_ ?_)
 refine Bd [.l 1 (a.length : Int)] I ⟨As, J⟩ (jM (Ca 6 I fun q => ?_))
 obtain ⟨G, t, j⟩ := Ac h
 refine Bw t (K3 0 1 7) J3 (fun (b : Nat) (m : Unit) s ob => s = [(8, .V (b : Int))] ∧ ob = []) ⟨I, I⟩ ⟨I, J⟩ (pk []) ?_ ?_
 rintro b u m H s ob w n ⟨rfl, rfl⟩ h y
 have A := Cy n
 refine Aj I (Ab fun K B => Bs I A (jL ?_))
 subst B
 refine jK (jM (Aj I (jK ?_)))
 obtain ⟨M, D, h⟩ := Ac h
 refine jG (Ao 5 [.x 3 b (rI u)] I ⟨⟨I, Ag w⟩, J⟩ (jI [] I (Cb I (.refl _) o I (.rest _) I (p _ _ D) dS (by rintro _ _ ⟨rfl, _⟩; rfl) ?_)))
 rintro _ ⟨_, rfl, -⟩
 refine jH (Ar h I ?_ ?_)
 intro E h
 refine Aj I ?_
 obtain rfl := y _ (oi h).symm
 have h := j
 have h := Db h
 cases io h
 exact jN pr
 intro E h
 refine jL (jG (Ao 2 [.k 0 (b + 1 : Nat)] I ⟨Ay n q, J⟩ ?_))
 cases io h
 exact jH ⟨_, _, _, I, I2, J4, pk []⟩
 rintro m s ob ⟨rfl, rfl⟩ he
 subst he
 have h := De j
 have F := Cz a.length
 exact Aj I (Ab fun N O => Bu I F (jP (lg ⟨(), h, I2⟩ [])))
 rintro s ob ⟨i, h, rfl, rfl⟩
 unfold Ns.J1 at h
 refine Aj I ?_
 cases io h
 exact jN pr
theorem Qf (b : Li) (F1 : T) {d : FuncId} {e f : List T} (i : I9 F1 = some (d, e, f)) (a : Int → Option Bool) (j : ∀ (g : Int) r, a g = some r → ACalls Ah d (e ++ [.V g] ++ f) [] (RB r)) (r : Bool) (h : Ku b a = some r) : ACalls Ah 165 [Q0 b, F1] [] (RB r) := by
 refine Ae Tryz.func165 I I I fun C hC => ?_
 refine Aj I (jK ?_)
 obtain ⟨l, k, h⟩ := Ac h
 refine jG (Af 2 I (jU (Zw _ F1 i a j _ k) (Af 2 I (jH ?_))))
 cases io h
 exact jN pr
theorem Yr (a : List Bt) (F1 : T) {c : FuncId} {d e : List T} (o : I9 F1 = some (c, d, e)) (f : Bt → Option Bool) (p : ∀ (g : Bt) r, f g = some r → ACalls Ah c (d ++ [.v (.string g)] ++ e) [] (RB r)) (r : Int) (h : M7 a f = some r) : ACalls Ah 183 [Q1 a, F1] [] (RV (.V r)) := by
 refine Ae Tryz.func183 I I I fun C hC => ?_
 unfold M7 at h
 refine Aj I (Ai (fun s ob => ∃ (i : Unit), M7.J1 i = some r ∧ s = [] ∧ ob = []) [] J ?_ ?_)
 refine Bd [.l 1 (a.length : Int)] I ⟨As, J⟩ (jM (Ca 6 I fun q => ?_))
 obtain ⟨G, t, j⟩ := Ac h
 refine Bw t (K3 0 1 7) J3 (fun (b : Nat) (m : Unit) s ob => s = [(8, .V (b : Int))] ∧ ob = []) ⟨I, I⟩ ⟨I, J⟩ (pk []) ?_ ?_
 rintro b u m H s ob w n ⟨rfl, rfl⟩ h y
 have A := Cy n
 refine Aj I (Ab fun K B => Bs I A (jL ?_))
 subst B
 refine jK (jM (Aj I (jK ?_)))
 obtain ⟨M, D, h⟩ := Ac h
 refine jG (Ao 5 [.x 3 b (rS u)] I ⟨⟨I, Ag w⟩, J⟩ (jI [] I (Cb I (.refl _) o I (.rest _) I (p _ _ D) dS (by rintro _ _ ⟨rfl, _⟩; rfl) ?_)))
 rintro _ ⟨_, rfl, -⟩
 refine jH (Ar h I ?_ ?_)
 intro E h
 refine Aj I ?_
 obtain rfl := y _ (oi h).symm
 have h := j
 have h := Db h
 cases io h
 exact jN pr
 intro E h
 refine jL (jG (Ao 2 [.k 0 (b + 1 : Nat)] I ⟨Ay n q, J⟩ ?_))
 cases io h
 exact jH ⟨_, _, _, I, I2, J4, pk []⟩
 rintro m s ob ⟨rfl, rfl⟩ he
 subst he
 have h := De j
 have F := Cz a.length
 exact Aj I (Ab fun N O => Bu I F (jP (lg ⟨(), h, I2⟩ [])))
 rintro s ob ⟨i, h, rfl, rfl⟩
 unfold M7.J1 at h
 refine Aj I ?_
 cases io h
 exact jN pr
theorem Y0 (b : List Bt) (F1 : T) {d : FuncId} {e f : List T} (i : I9 F1 = some (d, e, f)) (a : Bt → Option Bool) (j : ∀ (g : Bt) r, a g = some r → ACalls Ah d (e ++ [.v (.string g)] ++ f) [] (RB r)) (r : Bool) (h : Nc b a = some r) : ACalls Ah 139 [Q1 b, F1] [] (RB r) := by
 refine Ae Tryz.func139 I I I fun C hC => ?_
 refine Aj I (jK ?_)
 obtain ⟨l, k, h⟩ := Ac h
 refine jG (Af 2 I (jU (Yr _ F1 i a j _ k) (Af 2 I (jH ?_))))
 cases io h
 exact jN pr
theorem Zs (a : List Sg) (F1 : T) {c : FuncId} {d e : List T} (o : I9 F1 = some (c, d, e)) (f : Sg → Option Bool) (p : ∀ (g : Sg) r, f g = some r → ACalls Ah c (d ++ [.agg (Am g)] ++ e) [] (RB r)) (r : Int) (h : Nr a f = some r) : ACalls Ah 212 [Q2 a, F1] [] (RV (.V r)) := by
 refine Ae Tryz.func212 I I I fun C hC => ?_
 unfold Nr at h
 refine Aj I (Ai (fun s ob => ∃ (i : Unit), Nr.J1 i = some r ∧ s = [] ∧ ob = []) [] J ?_ ?_)
 refine Bd [.l 1 (a.length : Int)] I ⟨As, J⟩ (jM (Ca 6 I fun q => ?_))
 obtain ⟨G, t, j⟩ := Ac h
 refine Bw t (K3 0 1 7) J3 (fun (b : Nat) (m : Unit) s ob => s = [(8, .V (b : Int))] ∧ ob = []) ⟨I, I⟩ ⟨I, J⟩ (pk []) ?_ ?_
 rintro b u m H s ob w n ⟨rfl, rfl⟩ h y
 have A := Cy n
 refine Aj I (Ab fun K B => Bs I A (jL ?_))
 subst B
 refine jK (jM (Aj I (jK ?_)))
 obtain ⟨M, D, h⟩ := Ac h
 refine jG (Ao 5 [.x 3 b (Am u)] I ⟨⟨I, Ag w⟩, J⟩ (jI [] I (Cb I (.refl _) o I (.rest _) I (p _ _ D) dS (by rintro _ _ ⟨rfl, _⟩; rfl) ?_)))
 rintro _ ⟨_, rfl, -⟩
 refine jH (Ar h I ?_ ?_)
 intro E h
 refine Aj I ?_
 obtain rfl := y _ (oi h).symm
 have h := j
 have h := Db h
 cases io h
 exact jN pr
 intro E h
 refine jL (jG (Ao 2 [.k 0 (b + 1 : Nat)] I ⟨Ay n q, J⟩ ?_))
 cases io h
 exact jH ⟨_, _, _, I, I2, J4, pk []⟩
 rintro m s ob ⟨rfl, rfl⟩ he
 subst he
 have h := De j
 have F := Cz a.length
 exact Aj I (Ab fun N O => Bu I F (jP (lg ⟨(), h, I2⟩ [])))
 rintro s ob ⟨i, h, rfl, rfl⟩
 unfold Nr.J1 at h
 refine Aj I ?_
 cases io h
 exact jN pr
theorem Qc (b : List Sg) (F1 : T) {d : FuncId} {e f : List T} (i : I9 F1 = some (d, e, f)) (a : Sg → Option Bool) (j : ∀ (g : Sg) r, a g = some r → ACalls Ah d (e ++ [.agg (Am g)] ++ f) [] (RB r)) (r : Bool) (h : Kr b a = some r) : ACalls Ah 181 [Q2 b, F1] [] (RB r) := by
 refine Ae Tryz.func181 I I I fun C hC => ?_
 refine Aj I (jK ?_)
 obtain ⟨l, k, h⟩ := Ac h
 refine jG (Af 2 I (jU (Zs _ F1 i a j _ k) (Af 2 I (jH ?_))))
 cases io h
 exact jN pr
theorem Yx (a : List Port) (F1 : T) {c : FuncId} {d e : List T} (o : I9 F1 = some (c, d, e)) (f : Port → Option Bool) (p : ∀ (g : Port) r, f g = some r → ACalls Ah c (d ++ [.agg (Bb g)] ++ e) [] (RB r)) (r : Int) (h : Na a f = some r) : ACalls Ah 213 [Q3 a, F1] [] (RV (.V r)) := by
 refine Ae Tryz.func213 I I I fun C hC => ?_
 unfold Na at h
 refine Aj I (Ai (fun s ob => ∃ (i : Unit), Na.J1 i = some r ∧ s = [] ∧ ob = []) [] J ?_ ?_)
 refine Bd [.l 1 (a.length : Int)] I ⟨As, J⟩ (jM (Ca 6 I fun q => ?_))
 obtain ⟨G, t, j⟩ := Ac h
 refine Bw t (K3 0 1 7) J3 (fun (b : Nat) (m : Unit) s ob => s = [(8, .V (b : Int))] ∧ ob = []) ⟨I, I⟩ ⟨I, J⟩ (pk []) ?_ ?_
 rintro b u m H s ob w n ⟨rfl, rfl⟩ h y
 have A := Cy n
 refine Aj I (Ab fun K B => Bs I A (jL ?_))
 subst B
 refine jK (jM (Aj I (jK ?_)))
 obtain ⟨M, D, h⟩ := Ac h
 refine jG (Ao 5 [.x 3 b (Bb u)] I ⟨⟨I, Ag w⟩, J⟩ (jI [] I (Cb I (.refl _) o I (.rest _) I (p _ _ D) dS (by rintro _ _ ⟨rfl, _⟩; rfl) ?_)))
 rintro _ ⟨_, rfl, -⟩
 refine jH (Ar h I ?_ ?_)
 intro E h
 refine Aj I ?_
 obtain rfl := y _ (oi h).symm
 have h := j
 have h := Db h
 cases io h
 exact jN pr
 intro E h
 refine jL (jG (Ao 2 [.k 0 (b + 1 : Nat)] I ⟨Ay n q, J⟩ ?_))
 cases io h
 exact jH ⟨_, _, _, I, I2, J4, pk []⟩
 rintro m s ob ⟨rfl, rfl⟩ he
 subst he
 have h := De j
 have F := Cz a.length
 exact Aj I (Ab fun N O => Bu I F (jP (lg ⟨(), h, I2⟩ [])))
 rintro s ob ⟨i, h, rfl, rfl⟩
 unfold Na.J1 at h
 refine Aj I ?_
 cases io h
 exact jN pr
theorem Zh (b : List Port) (F1 : T) {d : FuncId} {e f : List T} (i : I9 F1 = some (d, e, f)) (a : Port → Option Bool) (j : ∀ (g : Port) r, a g = some r → ACalls Ah d (e ++ [.agg (Bb g)] ++ f) [] (RB r)) (r : Bool) (h : Nl b a = some r) : ACalls Ah 191 [Q3 b, F1] [] (RB r) := by
 refine Ae Tryz.func191 I I I fun C hC => ?_
 refine Aj I (jK ?_)
 obtain ⟨l, k, h⟩ := Ac h
 refine jG (Af 2 I (jU (Yx _ F1 i a j _ k) (Af 2 I (jH ?_))))
 cases io h
 exact jN pr
theorem Qb (a : List Sn) (F1 : T) {c : FuncId} {d e : List T} (o : I9 F1 = some (c, d, e)) (f : Sn → Option Bool) (p : ∀ (g : Sn) r, f g = some r → ACalls Ah c (d ++ [.agg (A5 g)] ++ e) [] (RB r)) (r : Int) (h : Kq a f = some r) : ACalls Ah 186 [Q4 a, F1] [] (RV (.V r)) := by
 refine Ae Tryz.func186 I I I fun C hC => ?_
 unfold Kq at h
 refine Aj I (Ai (fun s ob => ∃ (i : Unit), Kq.J1 i = some r ∧ s = [] ∧ ob = []) [] J ?_ ?_)
 refine Bd [.l 1 (a.length : Int)] I ⟨As, J⟩ (jM (Ca 6 I fun q => ?_))
 obtain ⟨G, t, j⟩ := Ac h
 refine Bw t (K3 0 1 7) J3 (fun (b : Nat) (m : Unit) s ob => s = [(8, .V (b : Int))] ∧ ob = []) ⟨I, I⟩ ⟨I, J⟩ (pk []) ?_ ?_
 rintro b u m H s ob w n ⟨rfl, rfl⟩ h y
 have A := Cy n
 refine Aj I (Ab fun K B => Bs I A (jL ?_))
 subst B
 refine jK (jM (Aj I (jK ?_)))
 obtain ⟨M, D, h⟩ := Ac h
 refine jG (Ao 5 [.x 3 b (A5 u)] I ⟨⟨I, Ag w⟩, J⟩ (jI [] I (Cb I (.refl _) o I (.rest _) I (p _ _ D) dS (by rintro _ _ ⟨rfl, _⟩; rfl) ?_)))
 rintro _ ⟨_, rfl, -⟩
 refine jH (Ar h I ?_ ?_)
 intro E h
 refine Aj I ?_
 obtain rfl := y _ (oi h).symm
 have h := j
 have h := Db h
 cases io h
 exact jN pr
 intro E h
 refine jL (jG (Ao 2 [.k 0 (b + 1 : Nat)] I ⟨Ay n q, J⟩ ?_))
 cases io h
 exact jH ⟨_, _, _, I, I2, J4, pk []⟩
 rintro m s ob ⟨rfl, rfl⟩ he
 subst he
 have h := De j
 have F := Cz a.length
 exact Aj I (Ab fun N O => Bu I F (jP (lg ⟨(), h, I2⟩ [])))
 rintro s ob ⟨i, h, rfl, rfl⟩
 unfold Kq.J1 at h
 refine Aj I ?_
 cases io h
 exact jN pr
theorem Ym (b : List Sn) (F1 : T) {d : FuncId} {e f : List T} (i : I9 F1 = some (d, e, f)) (a : Sn → Option Bool) (j : ∀ (g : Sn) r, a g = some r → ACalls Ah d (e ++ [.agg (A5 g)] ++ f) [] (RB r)) (r : Bool) (h : M4 b a = some r) : ACalls Ah 194 [Q4 b, F1] [] (RB r) := by
 refine Ae Tryz.func194 I I I fun C hC => ?_
 refine Aj I (jK ?_)
 obtain ⟨l, k, h⟩ := Ac h
 refine jG (Af 2 I (jU (Qb _ F1 i a j _ k) (Af 2 I (jH ?_))))
 cases io h
 exact jN pr
theorem X6 (a : Sg) (r : Bool) (h : Ip a = r) : ACalls Ah 182 [.agg (Am a)] [] (RB r) := by
 refine Ae Tryz.func182 I I I fun C hC => ?_
 unfold Ip at h
 refine Ab fun d c => jG (jI [] I (Br (Am a) 7 fun e => Af 1 I (jH ?_)))
 subst c
 refine Ai (fun s ob => s = [(2, .v (.bool (decide ((a.Points.length : Int) < 2) || decide ((a.Points.length : Int) > 8))))] ∧ ob = []) [] J ?_ ?_
 refine jG (Ao 5 [.o 1 0, .l 2 (a.Points.length : Int)] I ⟨As, I, J⟩ ?_)
 rcases bt (decide ((a.Points.length : Int) < 2)) with b | b
 refine Ad 7 I b (Af 6 I (jH ?_))
 exact lf I2 ⟨(Em (by simp only [b, bz])), J⟩ [] I
 refine Ad 7 I b (Ao 6 [.o 1 0, .l 2 (a.Points.length : Int)] I ⟨As, I, J⟩ (jH ?_))
 exact lf I2 ⟨(Em (by simp only [b, bz])), J⟩ [] I
 rintro s ob ⟨rfl, rfl⟩
 obtain rfl := h
 exact jN pr
theorem Yy (a : Nw) (r : Bool) (h : Nb a = some r) : ACalls Ah 137 [.agg (Aa a)] [] (RB r) := by
 refine Ae Tryz.func137 I I I fun C hC => ?_
 unfold Nb at h
 refine Ab fun k g => jG (jI [] I (Br (Aa a) 6 fun n => Af 1 I (jH ?_)))
 subst g
 refine jK (Dv 30 (decide ((a.Nodes.length : Int) < 1) || (decide ((a.Nodes.length : Int) > 24) || (decide ((a.Segments.length : Int) > 32) || (decide ((a.Ports.length : Int) > 24) || decide ((a.Stations.length : Int) > 12))))) ?_ ?_)
 refine jG (Ao 5 [.o 1 0, .l 2 (a.Nodes.length : Int)] I ⟨As, I, J⟩ ?_)
 rcases bt (decide ((a.Nodes.length : Int) < 1)) with b | b
 exact Ad 7 I b (Af 23 I (jH (jf (by simp only [b, bz]) I I I2)))
 refine Ad 7 I b (Ao 6 [.o 1 0, .l 2 (a.Nodes.length : Int)] I ⟨As, I, J⟩ ?_)
 rcases bt (decide ((a.Nodes.length : Int) > 24)) with d | d
 exact Ad 13 I d (Af 17 I (jH (jf (by simp only [b, d, bz]) I I I2)))
 refine Ad 13 I d (Ao 6 [.o 1 0, .l 2 (a.Segments.length : Int)] I ⟨As, I, J⟩ ?_)
 rcases bt (decide ((a.Segments.length : Int) > 32)) with e | e
 exact Ad 19 I e (Af 11 I (jH (jf (by simp only [b, d, e, bz]) I I I2)))
 refine Ad 19 I e (Ao 6 [.o 1 0, .l 2 (a.Ports.length : Int)] I ⟨As, I, J⟩ ?_)
 rcases bt (decide ((a.Ports.length : Int) > 24)) with f | f
 exact Ad 25 I f (Af 5 I (jH (jf (by simp only [b, d, e, f, bz]) I I I2)))
 exact Ad 25 I f (Ao 5 [.o 1 0, .l 2 (a.Stations.length : Int)] I ⟨As, I, J⟩ (jH (jf (by simp only [b, d, e, f, bz]) I I I2)))
 refine Ar h I ?_ ?_
 intro i h
 refine Aj I (jO g0 ?_)
 cases io h
 exact jN pr
 intro i h
 refine jL (jK ?_)
 obtain ⟨p, j, h⟩ := Ac h
 refine jG (Ao 2 [.o 1 0] I J1 (jU (Qc _ (.v (.func (.func 182) #[] #[])) I (fun x => some (Ip x)) (fun x r h => by obtain I := oi h; exact X6 x _ I) _ j) (Af 2 I (jH (jO g0 ?_)))))
 cases io h
 exact jN pr
theorem Yn (b : Nw) (g : Plan) (r : Li) (h : M5 b g = some r) : ACalls Ah 168 [.agg (Aa b), .agg (Al g)] [] (fun x new => ∃ (P : Value), x = .v P ∧ new = [U0 P r]) := by
 refine Ae Tryz.func168 I I I fun C hC => ?_
 refine Ab fun y1 ab => jG (jI [] I (Br (Aa b) 6 fun n => jI [] I (Br (Al g) 3 fun p => Af 1 I (jH ?_))))
 subst ab
 refine AW.scope (Aj I (Ab fun y5 ac => ?_))
 obtain ⟨l6, ⟨m8, ad, ae, af⟩, h⟩ := Mh h
 refine jG (Ao 3 [.o 1 0, .l 2 (b.Nodes.length : Int)] I ⟨As, I, J⟩ (jI [] I (Dy (sz := 1) I I I I I I I I I I ad ae (Er (f := rB) af I) dS fun u => Af 1 I (jH ?_))))
 subst ac
 refine Ab fun ba ag => AW.label ?_
 subst ag
 refine Ai (fun s ob => ∃ (E : Li) (w : Value), M5.J1 E = some r ∧ s = [(5, .v w)] ∧ ob = [U0 w E]) [] J ?_ ?_
 refine Aj I (jM (jO (Au 3 1) ?_))
 obtain ⟨bb, ah, ai⟩ := Ac h
 refine Cg ah (K3 2 3 6) J3 (fun (a : Li × (List Bool) × Int) s ob => ∃ (e : Value), s = [(5, .v e), (7, .V a.2.2)] ∧ ob = [O1 n [Aa b], O0 p [Al g], U1 u a.2.1, U0 e a.1]) ⟨nS, I2⟩ ⟨I, I, J⟩ (pk N4) ?_
 rintro a Q s ob ⟨e, rfl, rfl⟩ h aj
 refine Ab fun bc ak => Bd [.o 2 0, .l 3 (b.Nodes.length : Int)] I ⟨As, I, J⟩ (Ar h I ?_ ?_)
 intro al h
 refine jL ?_
 subst ak
 refine Ai (fun s ob => ∃ (A : Li × (List Bool) × Int) (F : Value), M5.J3 A = some Q ∧ s = [(5, .v F), (7, .V A.2.2)] ∧ ob = [O1 n [Aa b], O0 p [Al g], U1 u A.2.1, U0 F A.1]) (K3 2 3 6) J3 ?_ ?_
 refine jM (Ab fun bd am => jK ?_)
 obtain ⟨i, ⟨R, G⟩, h⟩ := Bh h
 refine jG (Af 2 I (jR (Be 2 (m := i.1) I I I I I I I R (Ag G)) I (jR (A7 2 i.1 0 I I I (Ag G) I (y := .v (.bool i.2)) I) I (jH (Ar h I ?_ ?_)))))
 intro an h
 exact jP (lg ⟨(a.1, a.2.1, a.2.2), e, h, I2⟩ N4)
 intro an h
 refine jL ?_
 subst am
 refine Ai (fun s ob => ∃ (S : Unit), M5.J4 a i S = some Q ∧ s = [] ∧ ob = [O1 n [Aa b], O0 p [Al g], U1 u a.2.1, U0 e a.1]) (K5 2 3 5 6 7) J5 ?_ ?_
 refine Bd [.o 1 0, .l 2 (b.Segments.length : Int)] I ⟨As, I, J⟩ (jM (Ca 28 I fun ao => ?_))
 obtain ⟨be, aq, U⟩ := Ac h
 refine Bw aq (K7 2 3 5 6 7 28 29) J7 (fun (H : Nat) (W : Unit) s ob => s = [(30, .V (H : Int))] ∧ ob = [O1 n [Aa b], O0 p [Al g], U1 u a.2.1, U0 e a.1]) ⟨I, I⟩ ⟨I, J⟩ (pk N4) ?_ ?_
 rintro H K W ar s ob au X ⟨rfl, rfl⟩ h av
 have aw := Cy X
 refine Aj I (Ab fun bf ax => Bs I aw (jL ?_))
 subst ax
 refine jK (jM (Ab fun bg ay => jG (Ao 3 [.x 1 H (Am K)] I ⟨⟨I, Ag au⟩, J⟩ (jI [] I (Bf W1 7 fun bh => Af 1 I (jI [4] I (A1 4 0 0 [Am K] I (jH ?_))))))))
 subst ay
 refine Ab fun bi az => ?_
 obtain ⟨j, ⟨Y, Z⟩, h⟩ := Bh h
 refine jT (pd 12 0 [6]) [4, 1] [_, _] I (Bx 6 [.o 0 0, .o 2 1, .x 4 j.1 (rI j.2)] I ⟨⟨Y, Ag Z⟩, I, I, J⟩ (kC I (Yl K j.2 _ I) (Ax 5 I (Ap (jH ?_)))))
 subst az
 refine Ai (fun s ob => ∃ (O : Bool), M5.J6 a O = some ar ∧ s = [(62, .v (.bool O))] ∧ ob = [O1 n [Aa b], O0 p [Al g], U1 u a.2.1, U0 e a.1]) (K8 2 3 5 6 7 28 29 30) J8 ?_ ?_
 refine jG (Ao 7 [.o 1 1, .x 3 j.1 (rI j.2)] I ⟨⟨Y, Ag Z⟩, I, J⟩ ?_)
 rcases bt ((j.2 != 0)) with B | B
 have h := Bp B h
 refine Ad 51 I B ?_
 rcases bt ((((B0 K j.2).2) == a.2.2)) with D | D
 have h := Bp D h
 obtain ⟨M, ⟨a0, aa⟩, h⟩ := Bh h
 exact Af 5 I (Ad 56 I D (Af 2 I (A3 I I I (jR (Be 2 (m := M.1) I I I I I I I a0 (Ag aa)) I (A3 I I I (jR (A7 2 M.1 0 I I I (Ag aa) I (y := .v (.bool M.2)) I) I (Af 2 I (jH (lg ⟨(!M.2), h, I2⟩ N4)))))))))
 have h := Bq D h
 exact Af 5 I (Ad 56 I D (Af 6 I (jH (lg ⟨false, h, I2⟩ N4))))
 have h := Bq B h
 exact Ad 51 I B (Af 11 I (jH (lg ⟨false, h, I2⟩ N4)))
 rintro s ob ⟨O, h, rfl, rfl⟩
 refine Ar h I ?_ ?_
 intro a1 h
 obtain rfl := av _ (oi h).symm
 have h := U
 have h := Db h
 exact jP (lg ⟨(a.1, a.2.1, a.2.2), e, h, I2⟩ N4)
 intro a1 h
 refine jL (jG (Ao 2 [.k 0 (H + 1 : Nat)] I ⟨Ay X ao, J⟩ ?_))
 cases io h
 exact jH ⟨_, _, _, I, I2, J8, pk N4⟩
 rintro W s ob ⟨rfl, rfl⟩ he
 subst he
 have h := De U
 have a2 := Cz b.Segments.length
 exact Aj I (Ab fun bj bk => Bu I a2 (jP (lg ⟨(), h, I2⟩ N4)))
 rintro s ob ⟨S, h, rfl, rfl⟩
 refine jK (jG (Af 2 I (jR (Be 2 (m := i.1) I I I I I I I R (Ag G)) I (jI [2] I (Ck 2 i.1 0 I I I (Ag G) I I I I (A6 I) I (Dp (x := true) I) (jH (jK ?_)))))))
 obtain ⟨a3, a4, h⟩ := Ac h
 exact jG (Af 2 I (jI [] I (jQ 1 (([a.2.2] : Li).map rI) (jI [3] I (jV 3 I a4 fun a5 => Af 1 I (jH (Sm I (lg ⟨(a3, (a.2.1.set i.1 true), (-1)), a5, h, I2⟩ N4))))))))
 rintro s ob ⟨A, F, h, rfl, rfl⟩
 unfold M5.J3 at h
 refine jG (Af 3 I ?_)
 cases io h
 exact jH ⟨_, _, _, I, ⟨F, I2⟩, J5, pk N4⟩
 intro al h
 obtain rfl := aj _ (oi h).symm
 have h := ai
 exact jP (lg ⟨a.1, e, h, I2⟩ [3])
 rintro s ob ⟨E, w, h, rfl, rfl⟩
 refine Aj I ?_
 obtain rfl := oi h
 exact jN ⟨.inr I, [_], [U0 w E], J1, Cx I (Ct), ⟨w, I2⟩⟩
theorem Qq (a : Int) (r : Int) (h : Hh a = r) : ACalls Ah 184 [.v (.int .u8 a)] [] (RV (.V r)) := by
 refine Ae Tryz.func184 I I I fun C hC => ?_
 unfold Hh at h
 refine Aj I (jK (jM (Ai (fun s ob => ∃ (e : Unit), Hh.J1 e = r ∧ s = [] ∧ ob = []) [] J ?_ ?_)))
 refine jM (jM (jK (jM (jK (Ab fun k f => Dv 3 (decide (a ≥ 97) && decide (a ≤ 122)) ?_ ?_)))))
 refine jG (Af 1 I (Bv (kB (c := decide (a ≥ 97)) I I I) I (Af 1 I ?_)))
 rcases bt (decide (a ≥ 97)) with b | b
 exact Ad 6 I b (Af 1 I (A3 I I I (Bv (kB (c := decide (a ≤ 122)) I I I) I (Af 2 I (jH (jf (by simp only [b, bz]) I I I2))))))
 exact Ad 6 I b (Af 4 I (jH (jf (by simp only [b, bz]) I I I2)))
 refine Ar h I ?_ ?_
 intro g h
 refine jP (jK (Aj I ?_))
 obtain rfl := h
 exact jN pr
 intro g h
 refine jL ?_
 subst f
 refine jK (Dv 10 (decide (a ≥ 48) && decide (a ≤ 57)) ?_ ?_)
 refine jG (Af 1 I (Bv (kB (c := decide (a ≥ 48)) I I I) I (Af 1 I ?_)))
 rcases bt (decide (a ≥ 48)) with d | d
 exact Ad 13 I d (Af 1 I (A3 I I I (Bv (kB (c := decide (a ≤ 57)) I I I) I (Af 2 I (jH (jf (by simp only [d, bz]) I I I2))))))
 exact Ad 13 I d (Af 4 I (jH (jf (by simp only [d, bz]) I I I2)))
 refine Ar h I ?_ ?_
 intro i h
 exact jP (lg ⟨(), h, I2⟩ [])
 intro i h
 refine jL (jK (jG (Af 1 I (Bv (kB (c := (a == 45)) I I I) I (Af 1 I (jH (Ar h I ?_ ?_)))))))
 intro j h
 exact jP (lg ⟨(), h, I2⟩ [])
 intro j h
 refine jL (jP (Aj I ?_))
 obtain rfl := h
 exact jN pr
 rintro s ob ⟨e, h, rfl, rfl⟩
 unfold Hh.J1 at h
 refine jK (Aj I ?_)
 obtain rfl := h
 exact jN pr
theorem Zl (a : Bt) (r : Bool) (h : Gt a = some r) : ACalls Ah 141 [.v (.string a)] [] (RB r) := by
 refine Ae Tryz.func141 I I I fun C hC => ?_
 unfold Gt at h
 refine Aj I (Ab fun S o => Ai (fun s ob => ∃ (f : Bool), Gt.J1 a f = some r ∧ s = [(17, .v (.bool f))] ∧ ob = []) [(0, _)] J1 ?_ ?_)
 refine jG (Af 4 I ?_)
 rcases bt (decide ((a.size : Int) < 1)) with b | b
 have h := Bp b h
 exact Ad 7 I b (Af 10 I (jH (lg ⟨true, h, I2⟩ [])))
 have h := Bq b h
 refine Ad 7 I b ?_
 rcases bt (decide ((a.size : Int) > 12)) with d | d
 have h := Bp d h
 exact Af 5 I (Ad 12 I d (Af 5 I (jH (lg ⟨true, h, I2⟩ []))))
 have h := Bq d h
 obtain ⟨g, t, h⟩ := Ac h
 obtain ⟨u, w, y⟩ := Jo t
 exact Af 5 I (Ad 12 I d (Af 1 I (A3 I I I (Bv (Ch (m := g.1) I I I I u w y) I (A3 I I I (jU (Qq g.2 _ I) (Af 2 I (jH (lg ⟨((Hh g.2) != 1), h, I2⟩ [])))))))))
 rintro s ob ⟨f, h, rfl, rfl⟩
 refine Ar h I ?_ ?_
 intro A h
 refine Aj I ?_
 cases io h
 exact jN pr
 intro A h
 refine jL ?_
 subst o
 refine Ai (fun s ob => ∃ (i : Unit), Gt.J2 i = some r ∧ s = [] ∧ ob = []) [] J ?_ ?_
 refine Aj I (jM ?_)
 obtain ⟨U, B, h⟩ := Ac h
 have D : (a.size : Int).toNat ≤ 9223372036854775806 := by have := bO B; omega
 obtain ⟨W, E, j⟩ := Ac h
 refine Ft E (K2 0 19) J2 (fun (e : Nat) (l : Unit) s ob => s = [(20, .V (e : Int))] ∧ ob = []) ⟨I, I⟩ ⟨I, J⟩ (pk []) ?_ ?_
 rintro e l X s ob F ⟨rfl, rfl⟩ h G
 have H : decide ((e : Int) < (a.size : Int)) = true := decide_eq_true (by omega)
 refine Aj I (Ab fun Y K => Bs I H (jL ?_))
 subst K
 refine jK (jM (Aj I (jK ?_)))
 obtain ⟨n, M, h⟩ := Ac h
 obtain ⟨N, O, P⟩ := Jo M
 refine jG (Af 2 I (Bv (Ch (m := n.1) I I I I N O P) I (jU (Qq n.2 _ I) (Af 1 I (jH (Ar h I ?_ ?_))))))
 intro Q h
 refine Aj I ?_
 obtain rfl := G _ (oi h).symm
 have h := j
 have h := Db h
 cases io h
 exact jN pr
 intro Q h
 refine jL (jG (Ao 2 [.k 0 (e + 1 : Nat)] I ⟨Ay F D, J⟩ ?_))
 cases io h
 exact jH ⟨_, _, _, I, I2, J3, pk []⟩
 rintro l s ob ⟨rfl, rfl⟩ he
 subst he
 have h := De j
 have R : decide ((((a.size : Int).toNat : Nat) : Int) < (a.size : Int)) = false := decide_eq_false (by omega)
 exact Aj I (Ab fun Z aa => Bu I R (jP (lg ⟨(), h, I2⟩ [])))
 rintro s ob ⟨i, h, rfl, rfl⟩
 unfold Gt.J2 at h
 refine Aj I ?_
 cases io h
 exact jN pr
theorem Qu (a : Nw) (r : Arr (List Bt) 4) (h : K1 a = some r) : ACalls Ah 138 [.agg (Aa a)] [] (RV (.agg (r.l.map (cL 1 rS)))) := by
 refine Ae Tryz.func138 I I I fun C hC => ?_
 unfold K1 at h
 refine Ab fun y1 U => jG (jI [] I (Br (Aa a) 6 fun u => jI [] I (Bf W2 4 fun f => jH ?_)))
 subst U
 refine Ab fun y4 W => jG (jI [] I (Bf W2 4 fun g => jH ?_))
 subst W
 refine Ab fun y6 X => jG (Ao 2 [.o 1 0] I J1 (Bv (C6 (m := 0) I I I I I I (A6 I)) I (jI [2] I (A1 2 0 0 [[Q1 a.Nodes, .N, .N, .N]] I (jH ?_)))))
 subst X
 refine Ai (fun s ob => ∃ (c : List Bt) (b : Value), K1.J1 a c = some r ∧ s = [] ∧ ob = [O1 u [Aa a], O3 f [W2], O3 g [[Q1 a.Nodes, .v b, .N, .N]], U2 b c]) (K3 1 2 3) J3 ?_ ?_
 refine Bd [.o 1 0, .l 2 (a.Segments.length : Int)] I ⟨As, I, J⟩ (jM (Ca 14 I fun Y => jO (Au 9 1) ?_))
 obtain ⟨a5, Z, aa⟩ := Ac h
 refine C1 Z (K5 1 2 3 14 15) J5 (fun (w : Nat) (y : List Bt) s ob => ∃ (j : Value), s = [(16, .V (w : Int))] ∧ ob = [O1 u [Aa a], O3 f [W2], O3 g [[Q1 a.Nodes, .v j, .N, .N]], U2 j y]) ⟨nS, I2⟩ ⟨I, J⟩ (pk N4) ?_ ?_
 rintro w F y a6 s ob ab M ⟨j, rfl, rfl⟩ h
 have ac := Cy M
 refine Aj I (Ab fun a7 ad => Bs I ac (jL ?_))
 subst ad
 refine jK (jM (jK (jG (Ao 2 [.x 0 w (Am F)] I ⟨⟨I, Ag ab⟩, J⟩ (jI [] I (Bf W1 7 fun a8 => jI [4] I (A1 4 0 0 [Am F] I (jH ?_))))))))
 obtain ⟨a9, ae, h⟩ := Ac h
 refine jG (Bv (C6 (m := 1) I I I I I I (A6 I)) I (Ao 3 [.o 0 2, .o 2 4] I J2 (jI [] I (jQ 1 (([F.Name] : List Bt).map rS) (jI [3] I (jV 3 I ae fun O => Bv (C6 (m := 1) I I I I I I (A6 I)) I (AO.one 3 I fun af => jI [2] I (jS 2 0 1 (es' := [[Q1 a.Nodes, .v O, .N, .N]]) I I I I I I (A8 af) I (A6 I) I I (jH (jG (Ao 2 [.k 0 (w + 1 : Nat)] I ⟨Ay M Y, J⟩ ?_)))))))))))
 cases io h
 exact jH (lg ⟨O, I2⟩ N4)
 rintro y s ob ⟨j, rfl, rfl⟩ he
 subst he
 have h := aa
 have ag := Cz a.Segments.length
 exact Aj I (Ab fun ba bb => Bu I ag (jP (lg ⟨y, j, h, I2⟩ N4)))
 rintro s ob ⟨c, b, h, rfl, rfl⟩
 unfold K1.J1 at h
 refine Ai (fun s ob => ∃ (e : List Bt) (d : Value), K1.J2 a c e = some r ∧ s = [] ∧ ob = [O1 u [Aa a], O3 f [W2], O3 g [[Q1 a.Nodes, .v b, .v d, .N]], U2 b c, U2 d e]) (K3 1 2 3) J3 ?_ ?_
 refine Bd [.o 1 0, .l 2 (a.Ports.length : Int)] I ⟨As, I, J⟩ (jM (Ca 29 I fun ah => jO (Au 9 1) ?_))
 obtain ⟨bc, ai, aj⟩ := Ac h
 refine C1 ai (K5 1 2 3 29 30) J5 (fun (A : Nat) (B : List Bt) s ob => ∃ (n : Value), s = [(31, .V (A : Int))] ∧ ob = [O1 u [Aa a], O3 f [W2], O3 g [[Q1 a.Nodes, .v b, .v n, .N]], U2 b c, U2 n B]) ⟨nS, I2⟩ ⟨I, J⟩ (pk N5) ?_ ?_
 rintro A G B bd s ob ak P ⟨n, rfl, rfl⟩ h
 have al := Cy P
 refine Aj I (Ab fun be am => Bs I al (jL ?_))
 subst am
 refine jK (jM (jK (jG (Ao 2 [.x 0 A (Bb G)] I ⟨⟨I, Ag ak⟩, J⟩ (jI [] I (Bf W5 3 fun bf => jI [5] I (A1 5 0 0 [Bb G] I (jH ?_))))))))
 obtain ⟨bg, an, h⟩ := Ac h
 refine jG (Bv (C6 (m := 2) I I I I I I (A6 I)) I (Ao 3 [.o 0 2, .o 2 5] I J2 (jI [] I (jQ 1 (([G.Name] : List Bt).map rS) (jI [4] I (jV 4 I an fun Q => Bv (C6 (m := 2) I I I I I I (A6 I)) I (AO.one 4 I fun ao => jI [2] I (jS 2 0 2 (es' := [[Q1 a.Nodes, .v b, .v Q, .N]]) I I I I I I (A8 ao) I (A6 I) I I (jH (jG (Ao 2 [.k 0 (A + 1 : Nat)] I ⟨Ay P ah, J⟩ ?_)))))))))))
 cases io h
 exact jH (lg ⟨Q, I2⟩ N5)
 rintro B s ob ⟨n, rfl, rfl⟩ he
 subst he
 have h := aj
 have aq := Cz a.Ports.length
 exact Aj I (Ab fun bh bi => Bu I aq (jP (lg ⟨B, n, h, I2⟩ N5)))
 rintro s ob ⟨e, d, h, rfl, rfl⟩
 unfold K1.J2 at h
 refine Ai (fun s ob => ∃ (q : List Bt) (i : Value), K1.J3 a c e q = some r ∧ s = [] ∧ ob = [O3 f [W2], O3 g [[Q1 a.Nodes, .v b, .v d, .v i]], U2 b c, U2 d e, U2 i q]) (K2 2 3) J2 ?_ ?_
 refine Bd [.o 1 0, .l 2 (a.Stations.length : Int)] I ⟨As, I, J⟩ (jM (Ca 44 I fun ar => jO (Au 9 1) ?_))
 obtain ⟨bj, au, av⟩ := Ac h
 refine C1 au (K4 2 3 44 45) J4 (fun (D : Nat) (E : List Bt) s ob => ∃ (t : Value), s = [(46, .V (D : Int))] ∧ ob = [O3 f [W2], O3 g [[Q1 a.Nodes, .v b, .v d, .v t]], U2 b c, U2 d e, U2 t E]) ⟨nS, I2⟩ ⟨I, J⟩ (pk [1, 2, 3, 4, 5]) ?_ ?_
 rintro D H E bk s ob aw R ⟨t, rfl, rfl⟩ h
 have ax := Cy R
 refine Aj I (Ab fun bl ay => Bs I ax (jL ?_))
 subst ay
 refine jK (jM (jK (jG (Ao 2 [.x 0 D (A5 H)] I ⟨⟨I, Ag aw⟩, J⟩ (jI [] I (Bf W6 5 fun bm => jI [5] I (A1 5 0 0 [A5 H] I (jH ?_))))))))
 obtain ⟨bn, az, h⟩ := Ac h
 refine jG (Bv (C6 (m := 3) I I I I I I (A6 I)) I (Ao 3 [.o 0 1, .o 2 5] I J2 (jI [] I (jQ 1 (([H.Name] : List Bt).map rS) (jI [4] I (jV 4 I az fun S => Bv (C6 (m := 3) I I I I I I (A6 I)) I (AO.one 4 I fun a0 => jI [1] I (jS 1 0 3 (es' := [[Q1 a.Nodes, .v b, .v d, .v S]]) I I I I I I (A8 a0) I (A6 I) I I (jH (jG (Ao 2 [.k 0 (D + 1 : Nat)] I ⟨Ay R ar, J⟩ ?_)))))))))))
 cases io h
 exact jH (lg ⟨S, I2⟩ N5)
 rintro E s ob ⟨t, rfl, rfl⟩ he
 subst he
 have h := av
 have a1 := Cz a.Stations.length
 exact Aj I (Ab fun bo bp => Bu I a1 (jP (lg ⟨E, t, h, I2⟩ N5)))
 rintro s ob ⟨q, i, h, rfl, rfl⟩
 unfold K1.J3 at h
 refine jK (jG (Ao 1 [.o 0 1] I J1 (jI [0] I (A1 0 0 0 [[Q1 a.Nodes, .v b, .v d, .v i]] I (jH (jO (Ba [2, 3, 4] (K := [U2 b c, U2 d e, U2 i q]) I [] J (ob' := [O3 f [[Q1 a.Nodes, Q1 c, Q1 e, Q1 q]], O3 g [[Q1 a.Nodes, .v b, .v d, .v i]]]) (.cons (.arr (.cons (.refl _) (.cons (.us 0 I) (.cons (.us 1 I) (.cons (.us 2 I) (.rest _)))))) (.rest _))) (C9 [0] I ?_)))))))
 cases io h
 exact jN ⟨.inr I, [_], [], ⟨⟨0, _, _, _, _, _, _, _, I5⟩, J⟩, Ct, I2⟩
theorem Yo (a : Sn) (b : Sn) (r : Bool) (h : Hf a b = r) : ACalls Ah 187 [.agg (A5 a), .eptr (A5 b)] [] (RB r) := by
 refine Ae Tryz.func187 I I I fun C hC => ?_
 unfold Hf at h
 refine jK (jG (jI [] I (Br (A5 a) 5 fun c => Af 1 I (jH (Bd [.o 1 0] I J1 (jO g0 ?_))))))
 obtain rfl := h
 exact jN pr
theorem Ya (a : Nw) (r : Bool) (h : My a = some r) : ACalls Ah 142 [.agg (Aa a)] [] (RB r) := by
 refine Ae Tryz.func142 I I I fun C hC => ?_
 unfold My at h
 refine Ab fun y1 G => jG (jI [] I (Br (Aa a) 6 fun b => Af 1 I (jH ?_)))
 subst G
 refine Ai (fun s ob => ∃ (j : Unit), My.J1 a j = some r ∧ s = [] ∧ ob = [O1 b [Aa a]]) [(1, _)] J1 ?_ ?_
 refine Ab fun aw H => ?_
 obtain ⟨ax, K, h⟩ := Ac h
 refine jG (Ao 1 [.o 0 0] I J1 (jI [] I (Cq I I I (Qu _ _ K) dS ?_)))
 rintro _ _ ⟨rfl, rfl⟩
 refine Af 1 I (jH ?_)
 subst H
 refine jM ?_
 have M : (4 : Nat) ≤ 9223372036854775806 := by decide
 obtain ⟨ay, N, n⟩ := Ac h
 refine Ft N (K2 1 10) J2 (fun (e : Nat) (t : Unit) s ob => s = [(11, .V (e : Int))] ∧ ob = [O1 b [Aa a]]) ⟨I, I⟩ ⟨I, J⟩ (pk [0]) ?_ ?_
 rintro e t O s ob P ⟨rfl, rfl⟩ h Q
 unfold My.B4 at h
 have R : decide ((e : Int) < 4) = true := decide_eq_true (by omega)
 refine Aj I (Ab fun az S => Bs I R (jL ?_))
 subst S
 refine Ai (fun s ob => ∃ (u : Unit), My.J5 u = some O ∧ s = [] ∧ ob = [O1 b [Aa a]]) (K3 1 10 11) J3 ?_ ?_
 refine jM (Ab fun a0 U => ?_)
 obtain ⟨i, ⟨W, X⟩, h⟩ := Bh h
 refine jG (Bv (E9 (m := i.1) I I I I I I I W X (hlen := Arr.h _)) I (Af 1 I (jH ?_)))
 subst U
 refine Bd [.l 1 (i.2.length : Int)] I ⟨As, J⟩ (jM (Ca 14 I fun Y => ?_))
 obtain ⟨a1, Z, w⟩ := Ac h
 refine Bw Z (K6 1 4 10 11 14 15) J6 (fun (f : Nat) (y : Unit) s ob => s = [(16, .V (f : Int))] ∧ ob = [O1 b [Aa a]]) ⟨I, I⟩ ⟨I, J⟩ (pk [0]) ?_ ?_
 rintro f aa y a2 s ob ab A ⟨rfl, rfl⟩ h ac
 have ad := Cy A
 refine Aj I (Ab fun a3 ae => Bs I ad (jL ?_))
 subst ae
 refine jK (jM (Bd [.x 1 f (rS aa)] I ⟨⟨I, Ag ab⟩, J⟩ (jK ?_)))
 obtain ⟨a4, af, h⟩ := Ac h
 refine jG (Af 2 I (jU (Yq _ _ _ af) (Af 2 I (jH (Ar h I ?_ ?_)))))
 intro ag h
 refine Aj I ?_
 obtain rfl := ac _ (oi h).symm
 have h := w
 have h := Db h
 obtain rfl := Q _ (oi h).symm
 have h := n
 have h := Db h
 refine jO g0 ?_
 cases io h
 exact jN pr
 intro ag h
 refine jL (jG (Ao 2 [.k 0 (f + 1 : Nat)] I ⟨Ay A Y, J⟩ ?_))
 cases io h
 exact jH ⟨_, _, _, I, I2, J7, pk [0]⟩
 rintro y s ob ⟨rfl, rfl⟩ he
 subst he
 have h := De w
 have ah := Cz i.2.length
 exact Aj I (Ab fun a5 a6 => Bu I ah (jP (lg ⟨(), h, I2⟩ [0])))
 rintro s ob ⟨u, h, rfl, rfl⟩
 unfold My.J5 at h
 refine jG (Ao 2 [.k 0 (e + 1 : Nat)] I ⟨Ay P M, J⟩ ?_)
 cases io h
 exact jH ⟨_, _, _, I, I2, J3, pk [0]⟩
 rintro t s ob ⟨rfl, rfl⟩ he
 subst he
 have h := De n
 have ai : decide (((4 : Nat) : Int) < 4) = false := by simp
 exact Aj I (Ab fun a7 a8 => Bu I ai (jP (lg ⟨(), h, I2⟩ [0])))
 rintro s ob ⟨j, h, rfl, rfl⟩
 unfold My.J1 at h
 refine Ai (fun s ob => ∃ (B : Unit), My.J2 B = some r ∧ s = [] ∧ ob = []) [] J ?_ ?_
 refine Bd [.o 1 0, .l 2 (a.Stations.length : Int)] I ⟨As, I, J⟩ (jM (Ca 29 I fun aj => ?_))
 obtain ⟨a9, ak, D⟩ := Ac h
 refine Bw ak (K3 1 29 30) J3 (fun (g : Nat) (E : Unit) s ob => s = [(31, .V (g : Int))] ∧ ob = [O1 b [Aa a]]) ⟨I, I⟩ ⟨I, J⟩ (pk [0]) ?_ ?_
 rintro g d E ba s ob al F ⟨rfl, rfl⟩ h am
 have an := Cy F
 refine Aj I (Ab fun bb ao => Bs I an (jL ?_))
 subst ao
 refine jK (jM (Ab fun bc ap => jG (Ao 3 [.x 1 g (A5 d)] I ⟨⟨I, Ag al⟩, J⟩ (jI [] I (Bf W6 5 fun bd => Af 1 I (jI [1] I (A1 1 0 0 [A5 d] I (jH ?_))))))))
 subst ap
 refine jK ?_
 obtain ⟨be, aq, h⟩ := Ac h
 refine jG (Ao 2 [.o 1 0] I J1 (Bv (kE I I) I (jI [] I (Cb I (.refl _) I I (.cons (.refl _) (.cons (.fn (.rest _) (.cons (.box 1 I (.rest _)) (.rest _))) (.rest _))) I (Qb _ (.fn 187 [] [.eptr (A5 d)]) I (fun x => some (Hf x d)) (fun x r h => by obtain I := oi h; exact Yo x d _ I) _ aq) dS (by rintro _ _ ⟨rfl, _⟩; rfl) ?_))))
 rintro _ ⟨_, rfl, -⟩
 refine Af 2 I (jH (Ar h I ?_ ?_))
 intro ar h
 refine Aj I ?_
 obtain rfl := am _ (oi h).symm
 have h := D
 have h := Db h
 refine jO g0 ?_
 cases io h
 exact jN pr
 intro ar h
 refine jL (jG (Ao 2 [.k 0 (g + 1 : Nat)] I ⟨Ay F aj, J⟩ ?_))
 cases io h
 exact jH ⟨_, _, _, I, I2, J4, pk [0]⟩
 rintro E s ob ⟨rfl, rfl⟩ he
 subst he
 have h := De D
 have au := Cz a.Stations.length
 exact Aj I (Ab fun bf bg => Bu I au (jP (lg ⟨(), h, I2⟩ [])))
 rintro s ob ⟨B, h, rfl, rfl⟩
 unfold My.J2 at h
 refine Aj I ?_
 cases io h
 exact jN pr
theorem Yb (a : Int) (c : Nw) (r : Bool) (h : Iq a c = r) : ACalls Ah 188 [.V a, .eptr (Aa c)] [] (RB r) := by
 refine Ae Tryz.func188 I I I fun C hC => ?_
 unfold Iq at h
 refine Aj I (Ai (fun s ob => s = [(3, .v (.bool (decide (a < 0) || decide (a ≥ (c.Nodes.length : Int)))))] ∧ ob = []) [] J ?_ ?_)
 refine jG (Af 3 I ?_)
 rcases bt (decide (a < 0)) with b | b
 refine Ad 6 I b (Af 7 I (jH ?_))
 exact lf I2 ⟨(Em (by simp only [b, bz])), J⟩ [] I
 refine Ad 6 I b (Ao 7 [.l 3 (c.Nodes.length : Int)] I ⟨As, J⟩ (jH ?_))
 exact lf I2 ⟨(Em (by simp only [b, bz])), J⟩ [] I
 rintro s ob ⟨rfl, rfl⟩
 obtain rfl := h
 exact jN pr
theorem Zm (a : Nw) (r : Bool) (h : Nm a = some r) : ACalls Ah 143 [.agg (Aa a)] [] (RB r) := by
 refine Ae Tryz.func143 I I I fun C hC => ?_
 unfold Nm at h
 refine Ab fun y1 O => jG (jI [] I (Br (Aa a) 6 fun b => Af 1 I (jH ?_)))
 subst O
 refine Aj I (Ai (fun s ob => ∃ (A : Li) (f : Value), Nm.J1 a A = some r ∧ s = [(3, .v f)] ∧ ob = [O1 b [Aa a], U0 f A]) [(1, _)] J1 ?_ ?_)
 refine Bd [.o 1 0, .l 2 (a.Segments.length : Int)] I ⟨As, I, J⟩ (jM (Ca 11 I fun P => jO (Au 3 1) ?_))
 obtain ⟨ax, Q, R⟩ := Ac h
 refine C1 Q (K3 1 11 12) J3 (fun (g : Nat) (i : Li) s ob => ∃ (c : Value), s = [(13, .V (g : Int)), (3, .v c)] ∧ ob = [O1 b [Aa a], U0 c i]) ⟨nS, I2⟩ ⟨I, I, J⟩ (pk [0, 1]) ?_ ?_
 rintro g j i ay s ob S H ⟨c, rfl, rfl⟩ h
 have U := Cy H
 refine Aj I (Ab fun az W => Bs I U (jL ?_))
 subst W
 refine jK (jM (jK (jG (Ao 2 [.x 0 g (Am j)] I ⟨⟨I, Ag S⟩, J⟩ (jI [] I (Bf W1 7 fun a0 => jI [2] I (A1 2 0 0 [Am j] I (jH ?_))))))))
 obtain ⟨a1, X, h⟩ := Ac h
 refine jG (Ao 5 [.o 2 2, .o 4 2] I J2 (jI [] I (jQ 1 (([j.From, j.To] : Li).map rI) (jI [1] I (jV 1 I X fun Y => Af 1 I (jH (jG (Ao 2 [.k 0 (g + 1 : Nat)] I ⟨Ay H P, J⟩ ?_))))))))
 cases io h
 exact jH (lg ⟨Y, I2⟩ [0, 1])
 rintro i s ob ⟨c, rfl, rfl⟩ he
 subst he
 have h := R
 have Z := Cz a.Segments.length
 exact Aj I (Ab fun a2 a3 => Bu I Z (jP (lg ⟨i, c, h, I2⟩ [0, 1])))
 rintro s ob ⟨A, f, h, rfl, rfl⟩
 unfold Nm.J1 at h
 refine Ai (fun s ob => ∃ (B : Li) (n : Value), Nm.J2 a B = some r ∧ s = [(3, .v n)] ∧ ob = [O1 b [Aa a], U0 n B]) [(1, _)] J1 ?_ ?_
 refine Bd [.o 1 0, .l 2 (a.Ports.length : Int)] I ⟨As, I, J⟩ (jM (Ca 26 I fun aa => ?_))
 obtain ⟨a4, ab, ac⟩ := Ac h
 refine C1 ab (K3 1 26 27) J3 (fun (t : Nat) (u : Li) s ob => ∃ (d : Value), s = [(28, .V (t : Int)), (3, .v d)] ∧ ob = [O1 b [Aa a], U0 d u]) ⟨f, I2⟩ ⟨I, I, J⟩ (pk [0, 1]) ?_ ?_
 rintro t D u a5 s ob ad K ⟨d, rfl, rfl⟩ h
 have ae := Cy K
 refine Aj I (Ab fun a6 af => Bs I ae (jL ?_))
 subst af
 refine jK (jM (jK (jG (Ao 2 [.x 0 t (Bb D)] I ⟨⟨I, Ag ad⟩, J⟩ (jI [] I (Bf W5 3 fun a7 => jI [2] I (A1 2 0 0 [Bb D] I (jH ?_))))))))
 obtain ⟨a8, ag, h⟩ := Ac h
 refine jG (Ao 3 [.o 2 2] I J1 (jI [] I (jQ 1 (([D.Node] : Li).map rI) (jI [1] I (jV 1 I ag fun ah => Af 1 I (jH (jG (Ao 2 [.k 0 (t + 1 : Nat)] I ⟨Ay K aa, J⟩ ?_))))))))
 cases io h
 exact jH (lg ⟨ah, I2⟩ [0, 1])
 rintro u s ob ⟨d, rfl, rfl⟩ he
 subst he
 have h := ac
 have ai := Cz a.Ports.length
 exact Aj I (Ab fun a9 ba => Bu I ai (jP (lg ⟨u, d, h, I2⟩ [0, 1])))
 rintro s ob ⟨B, n, h, rfl, rfl⟩
 unfold Nm.J2 at h
 refine Ai (fun s ob => ∃ (E : Li) (F : Value), Nm.J3 a E = some r ∧ s = [(3, .v F)] ∧ ob = [O1 b [Aa a], U0 F E]) [(1, _)] J1 ?_ ?_
 refine Bd [.o 1 0, .l 2 (a.Stations.length : Int)] I ⟨As, I, J⟩ (jM (Ca 39 I fun aj => ?_))
 obtain ⟨bb, ak, al⟩ := Ac h
 refine C1 ak (K3 1 39 40) J3 (fun (w : Nat) (y : Li) s ob => ∃ (e : Value), s = [(41, .V (w : Int)), (3, .v e)] ∧ ob = [O1 b [Aa a], U0 e y]) ⟨n, I2⟩ ⟨I, I, J⟩ (pk [0, 1]) ?_ ?_
 rintro w G y bc s ob am M ⟨e, rfl, rfl⟩ h
 have an := Cy M
 refine Aj I (Ab fun bd ao => Bs I an (jL ?_))
 subst ao
 refine jK (jM (jK (jG (Ao 2 [.x 0 w (A5 G)] I ⟨⟨I, Ag am⟩, J⟩ (jI [] I (Bf W6 5 fun be => jI [2] I (A1 2 0 0 [A5 G] I (jH ?_))))))))
 obtain ⟨bf, aq, h⟩ := Ac h
 refine jG (Ao 3 [.o 2 2] I J1 (jI [] I (jQ 1 (([G.Node] : Li).map rI) (jI [1] I (jV 1 I aq fun ar => Af 1 I (jH (jG (Ao 2 [.k 0 (w + 1 : Nat)] I ⟨Ay M aj, J⟩ ?_))))))))
 cases io h
 exact jH (lg ⟨ar, I2⟩ [0, 1])
 rintro y s ob ⟨e, rfl, rfl⟩ he
 subst he
 have h := al
 have au := Cz a.Stations.length
 exact Aj I (Ab fun bg bh => Bu I au (jP (lg ⟨y, e, h, I2⟩ [0, 1])))
 rintro s ob ⟨E, F, h, rfl, rfl⟩
 refine jK ?_
 obtain ⟨bi, av, h⟩ := Ac h
 refine jG (Af 1 I (Bv (kE I I) I (jI [] I (Cb I (.refl _) I I (.cons (.us 1 I) (.cons (.fn (.rest _) (.cons (.box 0 I (.rest _)) (.rest _))) (.rest _))) I (Qf _ (.fn 188 [] [.eptr (Aa a)]) I (fun x => some (Iq x a)) (fun x r h => by obtain I := oi h; exact Yb x a _ I) _ av) dS (by rintro _ _ ⟨rfl, _⟩; rfl) ?_))))
 rintro _ ⟨_, rfl, -⟩
 refine Af 2 I (jH (jO g0 ?_))
 cases io h
 exact jN pr
theorem Zk (a : Sg) (r : Bool) (h : Iv a = some r) : ACalls Ah 190 [.agg (Am a)] [] (RB r) := by
 refine Ae Tryz.func190 I I I fun C hC => ?_
 unfold Iv at h
 refine Ab fun y1 H => jG (jI [] I (Br (Am a) 7 fun t => Af 1 I (jH ?_)))
 subst H
 refine Ab fun y3 K => Dv 27 ((a.From == a.To) || ((!(Cv a.Capacity 1 1000000)) || ((!(Cv a.Resist 0 1000)) || (!(Cv a.Wave 0 100000))))) ?_ ?_
 refine jG (Ao 6 [.o 1 0, .o 3 0] I J2 ?_)
 rcases bt ((a.From == a.To)) with d | d
 exact Ad 10 I d (Af 17 I (jH (jf (by simp only [d, bz]) I I I2)))
 refine Ad 10 I d (Ao 2 [.o 1 0] I J1 (A3 I I I (jU (C3 a.Capacity 1 1000000 _ I) (Af 3 I ?_))))
 rcases bt ((!(Cv a.Capacity 1 1000000))) with f | f
 exact Ad 16 I f (Af 11 I (jH (jf (by simp only [d, f, bz]) I I I2)))
 refine Ad 16 I f (Ao 2 [.o 1 0] I J1 (A3 I I I (jU (C3 a.Resist 0 1000 _ I) (Af 3 I ?_))))
 rcases bt ((!(Cv a.Resist 0 1000))) with i | i
 exact Ad 22 I i (Af 5 I (jH (jf (by simp only [d, f, i, bz]) I I I2)))
 exact Ad 22 I i (Ao 2 [.o 1 0] I J1 (A3 I I I (jU (C3 a.Wave 0 100000 _ I) (Af 2 I (jH (jf (by simp only [d, f, i, bz]) I I I2))))))
 refine Ar h I ?_ ?_
 intro M h
 refine Aj I (jO g0 ?_)
 cases io h
 exact jN pr
 intro M h
 refine jL ?_
 subst K
 refine Ai (fun s ob => ∃ (D : Unit), Iv.J1 a D = some r ∧ s = [] ∧ ob = [O7 t [Am a]]) [(1, _)] J1 ?_ ?_
 refine Bd [.o 1 0, .l 2 (a.Points.length : Int)] I ⟨As, I, J⟩ (jM (Ca 29 I fun N => ?_))
 obtain ⟨ah, O, E⟩ := Ac h
 refine Bw O (K3 1 29 30) J3 (fun (j : Nat) (F : Unit) s ob => s = [(31, .V (j : Int))] ∧ ob = [O7 t [Am a]]) ⟨I, I⟩ ⟨I, J⟩ (pk [0]) ?_ ?_
 rintro j b F P s ob Q G ⟨rfl, rfl⟩ h R
 unfold Iv.B3 at h
 have S := Cy G
 refine Aj I (Ab fun ai U => Bs I S (jL ?_))
 subst U
 refine jK (jM (Ab fun aj W => jG (Ao 3 [.x 1 j (Ce b)] I ⟨⟨I, Ag Q⟩, J⟩ (jI [] I (Bf [.V 0, .V 0, .V 0] 3 fun ak => Af 1 I (jI [1] I (A1 1 0 0 [Ce b] I (jH ?_))))))))
 subst W
 refine Ai (fun s ob => ∃ (u : Bool), Iv.J4 u = some P ∧ s = [(61, .v (.bool u))] ∧ ob = [O7 t [Am a]]) (K4 1 29 30 31) J4 ?_ ?_
 rcases bt ((!(Cv b.Height (-500) 5000))) with e | e
 have h := Bp e h
 refine jT (pd 26 0 [2, 7]) [1] [_] I (Bx 2 [.o 1 0] I J1 (kC I (C3 b.Height (-500) 5000 _ I) (Ax 2 I (A4 40 I e (Ax 9 I (Cw I I I I dS (Cw I I I I dS (Cw I I I I dS (Cw I I I I dS (Cw I I I I dS (Cw I I I I dS (Cw I I I I dS ?_))))))))))))
 exact Cw I I I I dS (Cw I I I I dS (Cw I I I I dS (Ax 2 I (Ap (jH (lg ⟨true, h, I2⟩ [0]))))))
 have h := Bq e h
 rcases bt ((!(Cv b.Limit 0 100000000))) with g | g
 have h := Bp g h
 refine jT (pd 26 0 [2, 7]) [1] [_] I (Bx 2 [.o 1 0] I J1 (kC I (C3 b.Height (-500) 5000 _ I) (Ax 2 I (A4 40 I e (Bx 2 [.o 1 0] I J1 (G2 I (C3 b.Limit 0 100000000 _ I) (Ax 3 I (A4 46 I g (Ax 3 I (Cw I I I I dS (Cw I I I I dS (Cw I I I I dS ?_))))))))))))
 exact Cw I I I I dS (Cw I I I I dS (Cw I I I I dS (Cw I I I I dS (Cw I I I I dS (Cw I I I I dS (Cw I I I I dS (Ax 2 I (Ap (jH (lg ⟨true, h, I2⟩ [0]))))))))))
 have h := Bq g h
 rcases bt (decide ((j : Int) > 0)) with n | n
 have h := Bp n h
 obtain ⟨w, ⟨X, Y⟩, h⟩ := Bh h
 refine jT (pd 26 0 [2, 7]) [1, 0] [_, _] I (Bx 2 [.o 1 0] I J1 (kC I (C3 b.Height (-500) 5000 _ I) (Ax 2 I (A4 40 I e (Bx 2 [.o 1 0] I J1 (G2 I (C3 b.Limit 0 100000000 _ I) (Ax 3 I (A4 46 I g (Ax 3 I (A4 49 I n (Bx 12 [.o 1 0, .o 3 1, .x 6 w.1 (Ce w.2)] I ⟨⟨X, Ag Y⟩, I, I, J⟩ (Ap ?_))))))))))))
 exact jH (lg ⟨decide (b.At ≤ w.2.At), h, I2⟩ [0])
 have h := Bq n h
 refine jT (pd 26 0 [2, 7]) [1] [_] I (Bx 2 [.o 1 0] I J1 (kC I (C3 b.Height (-500) 5000 _ I) (Ax 2 I (A4 40 I e (Bx 2 [.o 1 0] I J1 (G2 I (C3 b.Limit 0 100000000 _ I) (Ax 3 I (A4 46 I g (Ax 3 I (A4 49 I n (Ax 12 I (Ap ?_))))))))))))
 exact jH (lg ⟨false, h, I2⟩ [0])
 rintro s ob ⟨u, h, rfl, rfl⟩
 refine Ar h I ?_ ?_
 intro Z h
 refine Aj I ?_
 obtain rfl := R _ (oi h).symm
 have h := E
 have h := Db h
 refine jO g0 ?_
 cases io h
 exact jN pr
 intro Z h
 refine jL (jG (Ao 2 [.k 0 (j + 1 : Nat)] I ⟨Ay G N, J⟩ ?_))
 cases io h
 exact jH ⟨_, _, _, I, I2, J4, pk [0]⟩
 rintro F s ob ⟨rfl, rfl⟩ he
 subst he
 have h := De E
 have aa := Cz a.Points.length
 exact Aj I (Ab fun al am => Bu I aa (jP (lg ⟨(), h, I2⟩ [0])))
 rintro s ob ⟨D, h, rfl, rfl⟩
 unfold Iv.J1 at h
 refine Ai (fun s ob => ∃ (y : Bool), Iv.J2 y = some r ∧ s = [(2, .v (.bool y))] ∧ ob = []) [] J ?_ ?_
 obtain ⟨A, ⟨ab, ac⟩, h⟩ := Bh h
 refine jT (pd 21 0 []) [0] [_] I (Bx 7 [.o 1 0, .x 2 A.1 (Ce A.2)] I ⟨⟨ab, Ag ac⟩, I, J⟩ ?_)
 rcases bt ((A.2.At == 0)) with p | p
 have h := Bp p h
 obtain ⟨B, ⟨ad, ae⟩, h⟩ := Bh h
 exact A4 69 I p (Bx 14 [.o 1 0, .o 3 0, .l 4 (a.Points.length : Int), .x 6 B.1 (Ce B.2), .o 10 0] I ⟨I, ⟨ad, Ag ae⟩, As, I, I, J⟩ (Ap (jH (lg ⟨(B.2.At == a.Capacity), h, I2⟩ []))))
 have h := Bq p h
 exact A4 69 I p (Ax 14 I (Ap (jH (lg ⟨false, h, I2⟩ []))))
 rintro s ob ⟨y, h, rfl, rfl⟩
 unfold Iv.J2 at h
 cases io h
 exact jN pr
theorem X7 (a : Sg) (r : Bool) (h : Re a = some r) : ACalls Ah 189 [.agg (Am a)] [] (RB r) := by
 refine Ae Tryz.func189 I I I fun C hC => ?_
 refine jK (jG (jI [] I (Br (Am a) 7 fun d => Af 1 I (jH (jK ?_)))))
 obtain ⟨e, b, h⟩ := Ac h
 refine jG (Ao 1 [.o 0 0] I J1 (jU (Zk _ _ b) (Af 2 I (jH (jO g0 ?_)))))
 cases io h
 exact jN pr
theorem Yg (a : Port) (r : Bool) (h : Ir a = r) : ACalls Ah 192 [.agg (Bb a)] [] (RB r) := by
 refine Ae Tryz.func192 I I I fun C hC => ?_
 unfold Ir at h
 refine jK (jG (jI [] I (Br (Bb a) 3 fun b => Af 1 I (jH (jK (jG (Ao 2 [.o 1 0] I J1 (jU (C3 a.Pressure 0 100000000 _ I) (Af 2 I (jH (jO g0 ?_)))))))))))
 obtain rfl := h
 exact jN pr
theorem Zd (a : Sn) (r : Bool) (h : Iu a = r) : ACalls Ah 195 [.agg (A5 a)] [] (RB r) := by
 refine Ae Tryz.func195 I I I fun C hC => ?_
 unfold Iu at h
 refine Ab fun f e => jG (jI [] I (Br (A5 a) 5 fun g => Af 1 I (jH ?_)))
 subst e
 refine Ai (fun s ob => s = [(2, .v (.bool ((!(Cv a.Head 0 100000000)) || ((!(Cv a.Fall 0 100000)) || (!(Cv a.Suction 0 100000000))))))] ∧ ob = []) [] J ?_ ?_
 refine jG (Ao 2 [.o 1 0] I J1 (jU (C3 a.Head 0 100000000 _ I) (Af 2 I ?_)))
 rcases bt ((!(Cv a.Head 0 100000000))) with b | b
 refine Ad 7 I b (Af 12 I (jH ?_))
 exact lf I2 ⟨(Em (by simp only [b, bz])), J⟩ [] I
 refine Ad 7 I b (Ao 2 [.o 1 0] I J1 (A3 I I I (jU (C3 a.Fall 0 100000 _ I) (Af 3 I ?_))))
 rcases bt ((!(Cv a.Fall 0 100000))) with d | d
 refine Ad 13 I d (Af 6 I (jH ?_))
 exact lf I2 ⟨(Em (by simp only [b, d, bz])), J⟩ [] I
 refine Ad 13 I d (Ao 2 [.o 1 0] I J1 (A3 I I I (jU (C3 a.Suction 0 100000000 _ I) (Af 3 I (jH ?_)))))
 exact lf I2 ⟨(Em (by simp only [b, d, bz])), J⟩ [] I
 rintro s ob ⟨rfl, rfl⟩
 obtain rfl := h
 exact jN pr
theorem Zi (a : Nw) (r : Bool) (h : Rt a = some r) : ACalls Ah 144 [.agg (Aa a)] [] (RB r) := by
 refine Ae Tryz.func144 I I I fun C hC => ?_
 refine Ab fun p d => jG (jI [] I (Br (Aa a) 6 fun t => Af 1 I (jH ?_)))
 subst d
 refine Ab fun u e => jK ?_
 obtain ⟨w, f, h⟩ := Ac h
 refine jG (Ao 2 [.o 1 0] I J1 (jU (Qc _ (.v (.func (.func 189) #[] #[])) I (fun x => Re x) (fun x r h => X7 x r h) _ f) (jH (Ar h I ?_ ?_))))
 intro g h
 refine Aj I (jO g0 ?_)
 cases io h
 exact jN pr
 intro g h
 refine jL ?_
 subst e
 refine Ab fun y i => jK ?_
 obtain ⟨A, j, h⟩ := Ac h
 refine jG (Ao 2 [.o 1 0] I J1 (jU (Zh _ (.v (.func (.func 192) #[] #[])) I (fun x => some (Ir x)) (fun x r h => by obtain I := oi h; exact Yg x _ I) _ j) (jH (Ar h I ?_ ?_))))
 intro k h
 refine Aj I (jO g0 ?_)
 cases io h
 exact jN pr
 intro k h
 refine jL ?_
 subst i
 refine jK (jK ?_)
 obtain ⟨B, l, h⟩ := Ac h
 refine jG (Ao 2 [.o 1 0] I J1 (jU (Ym _ (.v (.func (.func 195) #[] #[])) I (fun x => some (Iu x)) (fun x r h => by obtain I := oi h; exact Zd x _ I) _ l) (jH (Ar h I ?_ ?_))))
 intro n h
 refine Aj I (jO g0 ?_)
 cases io h
 exact jN pr
 intro n h
 refine jL (Ai (fun s ob => s = [(2, .v (.bool ((Cv a.Vapour (-100000) 100000000) && (Cv a.Settle 0 100))))] ∧ ob = []) [] J ?_ ?_)
 refine jG (Ao 2 [.o 1 0] I J1 (jU (C3 a.Vapour (-100000) 100000000 _ I) (Af 1 I ?_)))
 rcases bt ((Cv a.Vapour (-100000) 100000000)) with b | b
 refine Ad 15 I b (Ao 2 [.o 1 0] I J1 (A3 I I I (jU (C3 a.Settle 0 100 _ I) (Af 2 I (jH ?_)))))
 exact lf I2 ⟨(Em (by simp only [b, bz])), J⟩ [] I
 refine Ad 15 I b (Af 5 I (jH ?_))
 exact lf I2 ⟨(Em (by simp only [b, bz])), J⟩ [] I
 rintro s ob ⟨rfl, rfl⟩
 cases io h
 exact jN pr
theorem Yt (a : Bt) (r : Bool) (h : Rj a = some r) : ACalls Ah 140 [.v (.string a)] [] (RB r) := by
 refine Ae Tryz.func140 I I I fun C hC => ?_
 refine Aj I (jK ?_)
 obtain ⟨d, b, h⟩ := Ac h
 refine jG (Af 1 I (jU (Zl _ _ b) (Af 2 I (jH ?_))))
 cases io h
 exact jN pr
theorem H7 (a : Nw) (r : Int) (h : Ee a = some r) : ACalls Ah 79 [.agg (Aa a)] [] (RV (.V r)) := by
 refine Ae Tryz.func79 I I I fun C hC => ?_
 refine Ab fun Y i => jG (jI [] I (Br (Aa a) 6 fun d => Af 1 I (jH ?_)))
 subst i
 refine Ab fun Z j => jK ?_
 obtain ⟨r4, l, h⟩ := Ac h
 refine jG (Ao 1 [.o 0 0] I J1 (jU (Yy _ _ l) (Af 1 I (jH (Ar h I ?_ ?_)))))
 intro n h
 refine Aj I (jO g0 ?_)
 cases io h
 exact jN pr
 intro n h
 refine jL ?_
 subst j
 refine Ai (fun s ob => ∃ (e : Unit), Ee.J1 a e = some r ∧ s = [] ∧ ob = [O1 d [Aa a]]) [(1, _)] J1 ?_ ?_
 refine Ab fun ab t => ?_
 obtain ⟨ac, u, h⟩ := Ac h
 refine jG (Ao 1 [.o 0 0] I J1 (jI [] I (Cq I I I (Qu _ _ u) dS ?_)))
 rintro _ _ ⟨rfl, rfl⟩
 refine Af 1 I (jH ?_)
 subst t
 refine jM ?_
 have w : (4 : Nat) ≤ 9223372036854775806 := by decide
 obtain ⟨ad, y, f⟩ := Ac h
 refine Ft y (K2 1 9) J2 (fun (b : Nat) (g : Unit) s ob => s = [(10, .V (b : Int))] ∧ ob = [O1 d [Aa a]]) ⟨I, I⟩ ⟨I, J⟩ (pk [0]) ?_ ?_
 rintro b g ae s ob A ⟨rfl, rfl⟩ h B
 have D : decide ((b : Int) < 4) = true := decide_eq_true (by omega)
 refine Aj I (Ab fun af E => Bs I D (jL ?_))
 subst E
 refine jK (jM (jK ?_))
 obtain ⟨F, ⟨G, H⟩, h⟩ := Bh h
 refine jG (Bv (E9 (m := F.1) I I I I I I I G H (hlen := Arr.h _)) I (Af 1 I (jH (jK ?_))))
 obtain ⟨ag, K, h⟩ := Ac h
 refine jG (Af 1 I (jU (Y0 _ (.v (.func (.func 140) #[] #[])) I (fun x => Rj x) (fun x r h => Yt x r h) _ K) (jH (Ar h I ?_ ?_))))
 intro M h
 refine Aj I ?_
 obtain rfl := B _ (oi h).symm
 have h := f
 have h := Db h
 refine jO g0 ?_
 cases io h
 exact jN pr
 intro M h
 refine jL (jG (Ao 2 [.k 0 (b + 1 : Nat)] I ⟨Ay A w, J⟩ ?_))
 cases io h
 exact jH ⟨_, _, _, I, I2, J3, pk [0]⟩
 rintro g s ob ⟨rfl, rfl⟩ he
 subst he
 have h := De f
 have N : decide (((4 : Nat) : Int) < 4) = false := by simp
 exact Aj I (Ab fun ah ai => Bu I N (jP (lg ⟨(), h, I2⟩ [0])))
 rintro s ob ⟨e, h, rfl, rfl⟩
 refine jK (jM (Ab fun aj O => ?_))
 obtain ⟨ak, P, h⟩ := Ac h
 refine jG (Ao 1 [.o 0 0] I J1 (jU (Ya _ _ P) (Af 1 I (jH ?_))))
 subst O
 refine Ar h I ?_ ?_
 intro Q h
 refine Aj I (jO g0 ?_)
 cases io h
 exact jN pr
 intro Q h
 refine Ab fun al R => ?_
 obtain ⟨am, S, h⟩ := Ac h
 refine jG (Ao 1 [.o 0 0] I J1 (jU (Zm _ _ S) (Af 2 I (jH ?_))))
 subst R
 refine Ar h I ?_ ?_
 intro U h
 refine Aj I (jO g0 ?_)
 cases io h
 exact jN pr
 intro U h
 refine jK ?_
 obtain ⟨an, W, h⟩ := Ac h
 refine jG (Ao 1 [.o 0 0] I J1 (jU (Zi _ _ W) (Af 2 I (jH (Ar h I ?_ ?_)))))
 intro X h
 refine Aj I (jO g0 ?_)
 cases io h
 exact jN pr
 intro X h
 refine jL (Aj I (jO g0 ?_))
 cases io h
 exact jN pr
theorem Qg (d : Nat) (a : flow_streams) (j : Int) (n : Int) (p : Int) (r : flow_streams) (h : Hd a j n p = some r) : ACalls Ah 209 [.P d, .V j, .V n, .V p] [O6 d [a.come.l.map cI ++ (a.leave.l.map cI ++ [])]] (En 1 fun x os new => x = .tup [] ∧ os = [O6 d [r.come.l.map cI ++ (r.leave.l.map cI ++ [])]] ∧ new = []) := by
 refine Ae Tryz.func209 I I I fun C hC => ?_
 unfold Hd at h
 refine Ai (fun s ob => ∃ (b : Int × Int × Int), Hd.J1 a b = some r ∧ s = [(1, .V b.1), (2, .V b.2.1), (3, .V b.2.2)] ∧ ob = [O6 d [a.come.l.map cI ++ (a.leave.l.map cI ++ [])]]) [(0, _)] J1 ?_ ?_
 refine Aj I (Ar h I ?_ ?_)
 intro A h
 exact Sm I (lg ⟨(n, j, wr (0 - p)), h, I2⟩ [0])
 intro A h
 exact jL (lg ⟨(j, n, p), h, I2⟩ [0])
 rintro s ob ⟨b, h, rfl, rfl⟩
 unfold Hd.J1 at h
 refine Ai (fun s ob => ∃ (f : Arr Int 24), Hd.J2 a b f = some r ∧ s = [] ∧ ob = [O6 d [a.come.l.map cI ++ (f.l.map cI ++ [])]]) (K3 0 2 3) J3 ?_ ?_
 refine Aj I (Ar h I ?_ ?_)
 intro B h
 obtain ⟨e, ⟨u, g⟩, h⟩ := Bh h
 exact jT (sl 11 0 (.drop 11 .nil)) [0] [_] I (Ax 4 I (jZ I (Gz (m := e.1) I I I I I I u (Ko g)) I (AP.o I (Bn 0 0 (24 + e.1) I I I I (by omega) (y := .V e.2) (bC (k := 24) (by simp [Arr.h, Az]) (Sz g))) I (Ax 4 I (jZ I (Gz (m := e.1) I I I I I I u (Ko g)) I (kA [0] I I I (jS 0 0 (24 + e.1) (es' := [a.come.l.map cI ++ ((a.leave.set e.1 (wr (e.2 + b.2.2))).l.map cI ++ [])]) I I I I (by omega) I I I (V3 (Ko g) (by simp [Arr.h, Az])) I (congrArg (fun r => [r]) (R6 (k := 24) (by simp [Arr.h, Az]) (Jy (Q9 g)))) (Ap (jH (lg ⟨(a.leave.set e.1 (wr (e.2 + b.2.2))), h, I2⟩ [0]))))))))))
 intro B h
 exact jL (lg ⟨a.leave, h, I2⟩ [0])
 rintro s ob ⟨f, h, rfl, rfl⟩
 refine Aj I (Ar h I ?_ ?_)
 intro D h
 obtain ⟨c, ⟨w, i⟩, h⟩ := Bh h
 refine jT (sl 11 0 (.drop 11 .nil)) [0] [_] I (Ax 4 I (jZ I (Gz (m := c.1) I I I I I I w (Ko i)) I (AP.o I (Bn 0 0 (0 + c.1) I I I I (by omega) (y := .V c.2) (by rw [Nat.zero_add]; exact Sz i)) I (Ax 4 I (jZ I (Gz (m := c.1) I I I I I I w (Ko i)) I (kA [0] I I I (jS 0 0 (0 + c.1) (es' := [(a.come.set c.1 (wr (c.2 + b.2.2))).l.map cI ++ (f.l.map cI ++ [])]) I I I I (by omega) I I I (V3 (Ko i) (by simp [Arr.h, Az])) I (congrArg (fun r => [r]) (by rw [Nat.zero_add]; exact Jy (Q9 i))) (Ap ?_))))))))
 cases io h
 exact jH ⟨.inl I, [], [O6 d [(a.come.set c.1 (wr (c.2 + b.2.2))).l.map cI ++ (f.l.map cI ++ [])]], J, Cx I (Ct), ⟨[O6 d [(a.come.set c.1 (wr (c.2 + b.2.2))).l.map cI ++ (f.l.map cI ++ [])]], [], I5⟩⟩
 intro D h
 cases io h
 refine jL ?_
 exact ⟨.inl I, [], [O6 d [a.come.l.map cI ++ (f.l.map cI ++ [])]], J, Cx I (Ct), ⟨[O6 d [a.come.l.map cI ++ (f.l.map cI ++ [])]], [], I5⟩⟩
theorem Qa (a : Nw) (c : Plan) (r : flow_streams) (h : Hb a c = some r) : ACalls Ah 167 [.agg (Aa a), .agg (Al c)] [] (RV (.agg (Az r))) := by
 refine Ae Tryz.func167 I I I fun C hC => ?_
 unfold Hb at h
 refine Ab fun y1 G => jG (jI [] I (Br (Aa a) 6 fun u => jI [] I (Br (Al c) 3 fun t => jI [] I (Bf ((Arr.rep 24 (0 : Int)).l.map cI ++ ((Arr.rep 24 (0 : Int)).l.map cI ++ [])) 48 fun i => jH ?_))))
 subst G
 refine Ab fun y5 H => jG (jI [] I (Bf ((Arr.rep 24 (0 : Int)).l.map cI ++ ((Arr.rep 24 (0 : Int)).l.map cI ++ [])) 48 fun e => jH ?_))
 subst H
 refine Ai (fun s ob => ∃ (j : (Arr Int 24) × (Arr Int 24)), Hb.J1 a c j = some r ∧ s = [] ∧ ob = [O1 u [Aa a], O0 t [Al c], O6 i [(Arr.rep 24 (0 : Int)).l.map cI ++ ((Arr.rep 24 (0 : Int)).l.map cI ++ [])], O6 e [j.1.l.map cI ++ (j.2.l.map cI ++ [])]]) (K4 2 3 4 5) J4 ?_ ?_
 refine Bd [.o 1 0, .l 2 (a.Segments.length : Int)] I ⟨As, I, J⟩ (jM (Ca 11 I fun K => ?_))
 obtain ⟨ak, M, O⟩ := Ac h
 refine C1 M (K6 2 3 4 5 11 12) J6 (fun (n : Nat) (f : (Arr Int 24) × (Arr Int 24)) s ob => s = [(13, .V (n : Int))] ∧ ob = [O1 u [Aa a], O0 t [Al c], O6 i [(Arr.rep 24 (0 : Int)).l.map cI ++ ((Arr.rep 24 (0 : Int)).l.map cI ++ [])], O6 e [f.1.l.map cI ++ (f.2.l.map cI ++ [])]]) ⟨I, I⟩ ⟨I, J⟩ (pk N4) ?_ ?_
 rintro n w f al s ob P A ⟨rfl, rfl⟩ h
 have Q := Cy A
 refine Aj I (Ab fun am R => Bs I Q (jL ?_))
 subst R
 refine jK (jM (jK (jG (Ao 3 [.x 1 n (Am w)] I ⟨⟨I, Ag P⟩, J⟩ (jI [] I (Bf W1 7 fun an => Af 1 I (jI [4] I (A1 4 0 0 [Am w] I (jH ?_)))))))))
 obtain ⟨B, ⟨S, U⟩, h⟩ := Bh h
 obtain ⟨ao, W, h⟩ := Ac h
 refine jT (pd 10 0 [9]) [4, 1] [_, _] I (Bx 9 [.o 1 0, .o 3 0, .o 5 1, .x 7 B.1 (rI B.2)] I ⟨⟨S, Ag U⟩, I, I, I, J⟩ (jJ [3] I I I (Av [3] (Qg e _ _ _ _ _ W) ?_)))
 refine Ap (jH (jG (Ao 2 [.k 0 (n + 1 : Nat)] I ⟨Ay A K, J⟩ ?_)))
 cases io h
 exact jH (lg I2 N4)
 rintro f s ob ⟨rfl, rfl⟩ he
 subst he
 have h := O
 have X := Cz a.Segments.length
 exact Aj I (Ab fun ap aq => Bu I X (jP (lg ⟨(f.1, f.2), h, I2⟩ N4)))
 rintro s ob ⟨j, h, rfl, rfl⟩
 unfold Hb.J1 at h
 refine Ai (fun s ob => ∃ (b : (Arr Int 24) × (Arr Int 24)), Hb.J2 b = some r ∧ s = [] ∧ ob = [O6 i [(Arr.rep 24 (0 : Int)).l.map cI ++ ((Arr.rep 24 (0 : Int)).l.map cI ++ [])], O6 e [b.1.l.map cI ++ (b.2.l.map cI ++ [])]]) (K2 4 5) J2 ?_ ?_
 refine Bd [.o 1 0, .l 2 (a.Ports.length : Int)] I ⟨As, I, J⟩ (jM (Ca 30 I fun Y => ?_))
 obtain ⟨ar, Z, aa⟩ := Ac h
 refine C1 Z (K5 3 4 5 30 31) J5 (fun (p : Nat) (g : (Arr Int 24) × (Arr Int 24)) s ob => s = [(32, .V (p : Int))] ∧ ob = [O0 t [Al c], O6 i [(Arr.rep 24 (0 : Int)).l.map cI ++ ((Arr.rep 24 (0 : Int)).l.map cI ++ [])], O6 e [g.1.l.map cI ++ (g.2.l.map cI ++ [])]]) ⟨I, I⟩ ⟨I, J⟩ (pk [1, 2, 3]) ?_ ?_
 rintro p D g au s ob ab E ⟨rfl, rfl⟩ h
 have ac := Cy E
 refine Aj I (Ab fun av ad => Bs I ac (jL ?_))
 subst ad
 refine jK (jM (jK (jG (Ao 3 [.x 1 p (Bb D)] I ⟨⟨I, Ag ab⟩, J⟩ (jI [] I (Bf W5 3 fun aw => Af 1 I (jI [3] I (A1 3 0 0 [Bb D] I (jH ?_)))))))))
 obtain ⟨F, ⟨ae, af⟩, h⟩ := Bh h
 obtain ⟨ax, ag, h⟩ := Ac h
 refine jT (pd 8 0 [7]) [3, 0] [_, _] I (Bx 7 [.o 1 0, .o 3 1, .x 5 F.1 (rI F.2)] I ⟨⟨ae, Ag af⟩, I, I, J⟩ (jJ [2] I I I (Av [2] (Qg e _ _ _ _ _ ag) ?_)))
 refine Ap (jH (jG (Ao 2 [.k 0 (p + 1 : Nat)] I ⟨Ay E Y, J⟩ ?_)))
 cases io h
 exact jH (lg I2 N3)
 rintro g s ob ⟨rfl, rfl⟩ he
 subst he
 have h := aa
 have ah := Cz a.Ports.length
 exact Aj I (Ab fun ay az => Bu I ah (jP (lg ⟨(g.1, g.2), h, I2⟩ [1, 2])))
 rintro s ob ⟨b, h, rfl, rfl⟩
 unfold Hb.J2 at h
 refine jK (jG (jR (Bn 1 0 0 I I I I I (y := .agg (b.1.l.map cI ++ (b.2.l.map cI ++ []))) (Jm I (by simp [Arr.h, Az]))) I (jI [0] I (jS 0 0 0 (es' := [b.1.l.map cI ++ (b.2.l.map cI ++ [])]) I I I I I I I (by simp [Arr.h, Az]) (by simp [Arr.h, Az]) I (congrArg (fun r => [r]) (Jl (by simp [Arr.h, Az]))) (jH (C9 [0] I ?_))))))
 cases io h
 exact jN ⟨.inr I, [_], [], ⟨⟨0, _, _, _, _, _, _, _, I, I, I, I, (Jm I (by simp [Arr.h, Az]))⟩, J⟩, Ct, I2⟩
theorem Zc (a : Int) (r : Bool) (h : Kz a = r) : ACalls Ah 166 [.V a] [] (RB r) := by
 refine Ae Tryz.func166 I I I fun C hC => ?_
 unfold Kz at h
 refine Aj I (jK (jG (Af 1 I (jU (Qn a 1000 _ I) (Af 2 I (jH ?_))))))
 obtain rfl := h
 exact jN pr
theorem Lp (e : Nw) (f : Plan) (r : Int) (h : Hg e f = some r) : ACalls Ah 107 [.agg (Aa e), .agg (Al f)] [] (RV (.V r)) := by
 refine Ae Tryz.func107 I I I fun C hC => ?_
 refine Ab fun y1 G => jG (jI [] I (Br (Aa e) 6 fun w => jI [] I (Br (Al f) 3 fun A => Af 1 I (jH ?_))))
 subst G
 refine Ab fun y4 H => jK ?_
 obtain ⟨r5, K, h⟩ := Ac h
 refine jG (Ao 1 [.o 0 0] I J1 (jU (H7 _ _ K) (Af 1 I (jH (Aj I (Ar h I ?_ ?_))))))
 intro M h
 refine Aj I (jO g0 ?_)
 cases io h
 exact jN pr
 intro M h
 refine jL ?_
 subst H
 refine Ab fun y8 O => Dv 38 (((f.Rates.length : Int) != (e.Segments.length : Int)) || (((f.Ports.length : Int) != (e.Ports.length : Int)) || ((f.Pumps.length : Int) != (e.Stations.length : Int)))) ?_ ?_
 refine jG (Ao 8 [.o 1 1, .l 2 (f.Rates.length : Int), .o 4 0, .l 5 (e.Segments.length : Int)] I ⟨As, I, As, I, J⟩ ?_)
 rcases bt (((f.Rates.length : Int) != (e.Segments.length : Int))) with g | g
 exact Ad 21 I g (Af 17 I (jH (jf (by simp only [g, bz]) I I I2)))
 refine Ad 21 I g (Ao 9 [.o 1 1, .l 2 (f.Ports.length : Int), .o 4 0, .l 5 (e.Ports.length : Int)] I ⟨As, I, As, I, J⟩ ?_)
 rcases bt (((f.Ports.length : Int) != (e.Ports.length : Int))) with j | j
 exact Ad 30 I j (Af 8 I (jH (jf (by simp only [g, j, bz]) I I I2)))
 exact Ad 30 I j (Ao 8 [.o 1 1, .l 2 (f.Pumps.length : Int), .o 4 0, .l 5 (e.Stations.length : Int)] I ⟨As, I, As, I, J⟩ (jH (jf (by simp only [g, j, bz]) I I I2)))
 refine Ar h I ?_ ?_
 intro P h
 refine Aj I (jO g0 ?_)
 cases io h
 exact jN pr
 intro P h
 refine jL ?_
 subst O
 refine Ai (fun s ob => ∃ (B : Unit), Hg.J1 e f B = some r ∧ s = [] ∧ ob = [O1 w [Aa e], O0 A [Al f]]) (K2 2 3) J2 ?_ ?_
 refine Bd [.o 1 0, .l 2 (e.Segments.length : Int)] I ⟨As, I, J⟩ (jM (Ca 40 I fun Q => ?_))
 obtain ⟨ap, R, D⟩ := Ac h
 refine Bw R (K4 2 3 40 41) J4 (fun (n : Nat) (E : Unit) s ob => s = [(42, .V (n : Int))] ∧ ob = [O1 w [Aa e], O0 A [Al f]]) ⟨I, I⟩ ⟨I, J⟩ (pk [0, 1]) ?_ ?_
 rintro n t E aq s ob S F ⟨rfl, rfl⟩ h U
 have W := Cy F
 refine Aj I (Ab fun ar X => Bs I W (jL ?_))
 subst X
 refine jK (jM (Ab fun au Y => jG (Ao 3 [.x 1 n (Am t)] I ⟨⟨I, Ag S⟩, J⟩ (jI [] I (Bf W1 7 fun av => Af 1 I (jI [2] I (A1 2 0 0 [Am t] I (jH ?_))))))))
 subst Y
 refine jK ?_
 obtain ⟨u, ⟨Z, aa⟩, h⟩ := Bh h
 refine jT (pd 10 0 [8]) [1, 2] [_, _] I (Bx 8 [.o 1 0, .x 3 u.1 (rI u.2), .o 6 1] I ⟨I, ⟨Z, Ag aa⟩, I, J⟩ (kC I (Qn u.2 (min 1000 t.Capacity) _ I) (Ax 1 I (Ap (jH (Ar h I ?_ ?_))))))
 intro ab h
 refine Aj I ?_
 obtain rfl := U _ (oi h).symm
 have h := D
 have h := Db h
 refine jO g0 ?_
 cases io h
 exact jN pr
 intro ab h
 refine jL (jG (Ao 2 [.k 0 (n + 1 : Nat)] I ⟨Ay F Q, J⟩ ?_))
 cases io h
 exact jH ⟨_, _, _, I, I2, J5, pk [0, 1]⟩
 rintro E s ob ⟨rfl, rfl⟩ he
 subst he
 have h := De D
 have ac := Cz e.Segments.length
 exact Aj I (Ab fun aw ax => Bu I ac (jP (lg ⟨(), h, I2⟩ [0, 1])))
 rintro s ob ⟨B, h, rfl, rfl⟩
 refine Ab fun ay ad => jK ?_
 obtain ⟨az, ae, h⟩ := Ac h
 refine jG (Ao 2 [.o 1 1] I J1 (jU (Qf _ (.v (.func (.func 166) #[] #[])) I (fun x => some (Kz x)) (fun x r h => by obtain I := oi h; exact Zc x _ I) _ ae) (jH (Ar h I ?_ ?_))))
 intro af h
 refine Aj I (jO g0 ?_)
 cases io h
 exact jN pr
 intro af h
 refine jL ?_
 subst ad
 refine Ab fun a0 ag => jK ?_
 obtain ⟨i, ah, h⟩ := Ac h
 refine jG (Ao 2 [.o 0 0, .o 1 1] I J2 (jI [] I (Cq I I I (Qa _ _ _ ah) dS ?_)))
 rintro _ _ ⟨rfl, rfl⟩
 refine jI [] I (Bf ((Arr.rep 24 (0 : Int)).l.map cI ++ ((Arr.rep 24 (0 : Int)).l.map cI ++ [])) 48 fun a1 => jI [2] I (jS 2 0 0 (es' := [i.come.l.map cI ++ (i.leave.l.map cI ++ [])]) I I I I I I I (by simp [Arr.h, Az]) (by simp [Arr.h, Az]) I (congrArg (fun r => [r]) (Jl (by simp [Arr.h, Az]))) (jH (jK (jG (Af 1 I (jR (Bn 2 0 0 I I I I I (y := .agg (i.come.l.map cI)) (Lf I (by simp [Arr.h, Az]))) I (Af 1 I (jR (Bn 2 0 24 I I I I I (y := .agg (i.leave.l.map cI)) (Ww (k := 24) I I (by simp [Arr.h, Az]) (Lf I (by simp [Arr.h, Az])))) I (Bv (bY (a := i.come) (b := i.leave) I I I I I Vk I I I) I (jH (Ar h I ?_ ?_))))))))))))
 intro ai h
 refine Aj I (jO g0 ?_)
 cases io h
 exact jN pr
 intro ai h
 refine jL ?_
 subst ag
 refine jK (jK ?_)
 obtain ⟨a2, aj, h⟩ := Ac h
 refine jT (.still 0 (.still 1 (sl 3 4 (.act 2 (.act 3 (.still 7 .nil)))))) [0, 1] [_, _] I (Bx 5 [.o 0 0, .o 1 1, .o 3 0, .l 4 (e.Nodes.length : Int)] I ⟨As, I, I, I, J⟩ (jJ [] I I I (Cq I I I (Yn _ _ _ aj) dS ?_)))
 rintro _ _ ⟨a3, rfl, rfl⟩
 refine jJ [] I I I (Bm (Cp 3 I I I I) dS (Ax 1 I (Ap (jH (Ar h I ?_ ?_)))))
 intro ak h
 refine Aj I (jO g0 ?_)
 cases io h
 exact jN pr
 intro ak h
 refine jL (Aj I (jO g0 ?_))
 cases io h
 exact jN pr
theorem Yf (c : Nw) (e : Int) (b : Nat) (a : List (Int × Bool)) (r : Bool × (List (Int × Bool))) (h : Mz c e a = some r) : ACalls Ah 101 [.agg (Aa c), .V e, .v (.map (some b))] [.raw b (mapOb mB a)] (En 1 fun x os new => x = .v (.bool r.1) ∧ os = [.raw b (mapOb mB r.2)] ∧ new = []) := by
 refine Ae Tryz.func101 I I I fun C hC => ?_
 unfold Mz at h
 refine Ab fun U B => jG (jI [] I (Br (Aa c) 6 fun W => Af 1 I (jH ?_)))
 subst B
 refine Aj I (Ai (fun s ob => ∃ (p : Bool), Mz.J1 a p = some r ∧ s = [(7, .v (.bool p))] ∧ ob = [.raw b (mapOb mB a)]) [] J ?_ ?_)
 refine Bd [.o 1 1, .l 2 (c.Segments.length : Int)] I ⟨As, I, J⟩ (jM (Ca 11 I fun D => ?_))
 obtain ⟨X, E, y⟩ := Ac h
 refine Bw E (K4 1 2 11 12) J4 (fun (g : Nat) (i : Bool) s ob => s = [(13, .V (g : Int)), (7, .v (.bool i))] ∧ ob = [.raw b (mapOb mB a)]) ⟨I, I⟩ ⟨I, I, J⟩ (pk [0]) ?_ ?_
 rintro g j i F s ob G A ⟨rfl, rfl⟩ h H
 unfold Mz.B2 at h
 have K := Cy A
 refine Aj I (Ab fun Y M => Bs I K (jL ?_))
 subst M
 refine Ai (fun s ob => ∃ (w : Bool), Mz.J3 w = some F ∧ s = [(7, .v (.bool w))] ∧ ob = [.raw b (mapOb mB a)]) (K5 1 2 11 12 13) J5 ?_ ?_
 refine jM (Ab fun Z O => jG (Ao 3 [.x 1 g (Am j)] I ⟨⟨I, Ag G⟩, J⟩ (jI [] I (Bf W1 7 fun aa => Af 1 I (jI [1] I (A1 1 0 0 [Am j] I (jH ?_)))))))
 subst O
 refine Ab fun ab P => Dv 27 ((j.From != e) && (j.To != e)) ?_ ?_
 refine jG (Ao 5 [.o 1 1] I J1 ?_)
 rcases bt ((j.From != e)) with n | n
 exact Ad 22 I n (Ao 5 [.o 1 1] I J1 (jH (jf (by simp only [n, bz]) I I I2)))
 exact Ad 22 I n (Af 5 I (jH (jf (by simp only [n, bz]) I I I2)))
 refine Ar h I ?_ ?_
 intro Q h
 exact jP (lg ⟨i, h, I2⟩ [0])
 intro Q h
 refine jL ?_
 subst P
 refine jK (jK (jG (Af 2 I (jR (Vh 0 (f := mB) (z := false) (u := .v (.bool ((Df a (g : Int)).getD false))) I I I I I I I I I I) I (Af 1 I (jH (Ar h I ?_ ?_)))))))
 intro R h
 refine Aj I ?_
 obtain rfl := H _ (oi h).symm
 have h := y
 have h := Db h
 refine C9 [0] I ?_
 obtain rfl := oi h
 exact jN ⟨.inr I, [_], [.raw b (mapOb mB a)], J1, Cx I (Ct), ⟨[.raw b (mapOb mB a)], [], I5⟩⟩
 intro R h
 exact jL (Sm I (lg ⟨true, h, I2⟩ [0]))
 rintro s ob ⟨w, h, rfl, rfl⟩
 unfold Mz.J3 at h
 refine jG (Ao 2 [.k 0 (g + 1 : Nat)] I ⟨Ay A D, J⟩ ?_)
 cases io h
 exact jH ⟨_, _, _, I, I2, J6, pk [0]⟩
 rintro i s ob ⟨rfl, rfl⟩ he
 subst he
 have h := De y
 have S := Cz c.Segments.length
 exact Aj I (Ab fun ac ad => Bu I S (jP (lg ⟨i, h, I2⟩ [0])))
 rintro s ob ⟨p, h, rfl, rfl⟩
 refine Aj I ?_
 obtain rfl := oi h
 exact jN ⟨.inr I, [_], [.raw b (mapOb mB a)], J1, Cx I (Ct), ⟨[.raw b (mapOb mB a)], [], I5⟩⟩
theorem Ys (a : Nat) (b : List (Int × Bool)) (r : List (Int × Bool) × List (Int × Bool)) (h : Uo b = some r) : ACalls Ah 100 [.v (.map (some a))] [.raw a (mapOb mB b)] (En 1 fun x os new => ∃ (c : Nat), x = .v (.map (some c)) ∧ os = [.raw a (mapOb mB r.2)] ∧ new = [.raw c (mapOb mB r.1)]) := by
  cases io h
  exact L7 ⟨_, Tryz.func100, rfl, rfl⟩ Go.Proofs.Tryz.clone_ok
theorem Zr (a : Nat) : ACalls Ah 103 [.v (.map (some a))] [] (fun x new => ∃ (b : Nat), x = .v (.func (.func 161) #[] #[.pointer (some ⟨b, 0, none⟩)]) ∧ new = [.arr b 135 1 1 [[.v (.map (some a))]]]) :=
  Pa ⟨_, Tryz.func103, rfl, rfl⟩ Go.Proofs.Tryz.keys_ok
theorem Yw (b a : Nat) (c : List (Int × Bool)) (r : Li) (h : Rl c = some r) : ACalls Ah 102 [.v (.func (.func 161) #[] #[.pointer (some ⟨b, 0, none⟩)])] [.arr b 135 1 1 [[.v (.map (some a))]], .raw a (mapOb mB c)] (En 2 fun x os new => ∃ (d : Value), x = .v d ∧ os = [.arr b 135 1 1 [[.v (.map (some a))]], .raw a (mapOb mB c)] ∧ new = [U0 d r]) := by
  unfold Rl at h
  split at h
  · rename_i hs
    cases io h
    exact Kk ⟨_, Tryz.func102, rfl, rfl⟩ hs.1 hs.2.1 hs.2.2 Go.Proofs.Tryz.sorted_ok
  · cases h
theorem H6 (a : Nw) (e : Li) (r : Li × Int) (h : Hc a e = some r) : ACalls Ah 41 [.agg (Aa a), Q0 e] [] (fun x new => ∃ (D : Value), x = .tup [.v D, .V r.2] ∧ new = [U0 D r.1]) := by
 refine Ae Tryz.func41 I I I fun C hC => ?_
 refine Ab fun y1 N => jG (jI [] I (Br (Aa a) 6 fun n => Af 2 I (jH ?_)))
 subst N
 refine Ab fun y3 O => jK ?_
 obtain ⟨r4, P, h⟩ := Ac h
 refine jG (Ao 1 [.o 0 0] I J1 (jU (H7 _ _ P) (Af 1 I (jH (Aj I (Ar h I ?_ ?_))))))
 intro Q h
 refine Aj I (jO (Au 3 1) (C9 [1] I ?_))
 cases io h
 exact jN ⟨.inr I, [_, _], [.us nS 3 1 ([].map rI)], J2, Cx I (Ct), ⟨nS, I2⟩⟩
 intro Q h
 refine jL ?_
 subst O
 refine Ab fun y7 R => jG (jI [] I (AX.makeMap mB dS fun g => Af 1 I (jH ?_)))
 subst R
 refine Ai (fun s ob => ∃ (A : List (Int × Bool)), Hc.J1 a e A = some r ∧ s = [] ∧ ob = [O1 n [Aa a], .raw g (mapOb mB A)]) (K3 1 2 7) J3 ?_ ?_
 refine Bd [.l 1 (e.length : Int)] I ⟨As, J⟩ (jM (Ca 19 I fun S => ?_))
 obtain ⟨a0, U, E⟩ := Ac h
 refine Bw U (K5 1 2 7 19 20) J5 (fun (p : Nat) (t : List (Int × Bool)) s ob => s = [(21, .V (p : Int))] ∧ ob = [O1 n [Aa a], .raw g (mapOb mB t)]) ⟨I, I⟩ ⟨I, J⟩ (pk [0, 1]) ?_ ?_
 rintro p u t a1 s ob W F ⟨rfl, rfl⟩ h X
 unfold Hc.B5 at h
 have Y := Cy F
 refine Aj I (Ab fun a2 Z => Bs I Y (jL ?_))
 subst Z
 refine jK (jM (Bd [.x 0 p (rI u)] I ⟨⟨I, Ag W⟩, J⟩ (jK (Dv 33 (decide (u < 0) || decide (u ≥ (a.Segments.length : Int))) ?_ ?_))))
 refine jG (Af 3 I ?_)
 rcases bt (decide (u < 0)) with i | i
 exact Ad 27 I i (Af 6 I (jH (jf (by simp only [i, bz]) I I I2)))
 exact Ad 27 I i (Ao 6 [.o 2 0, .l 3 (a.Segments.length : Int)] I ⟨As, I, J⟩ (jH (jf (by simp only [i, bz]) I I I2)))
 refine Ar h I ?_ ?_
 intro aa h
 refine Aj I ?_
 obtain rfl := X _ (oi h).symm
 have h := E
 have h := Db h
 refine jO (Au 3 1) (C9 [2] I ?_)
 cases io h
 exact jN ⟨.inr I, [_, _], [.us nS 3 1 ([].map rI)], J2, Cx I (Ct), ⟨nS, I2⟩⟩
 intro aa h
 refine jL (jG (Af 2 I (jI [1] I (AX.mapUpdate 1 (f := mB) (z := true) I I I I I I I I I (jH (jG (Ao 2 [.k 0 (p + 1 : Nat)] I ⟨Ay F S, J⟩ ?_)))))))
 cases io h
 exact jH ⟨_, _, _, I, I2, J6, pk [0, 1]⟩
 rintro t s ob ⟨rfl, rfl⟩ he
 subst he
 have h := De E
 have ab := Cz e.length
 exact Aj I (Ab fun a3 a4 => Bu I ab (jP (lg ⟨t, h, I2⟩ [0, 1])))
 rintro s ob ⟨A, h, rfl, rfl⟩
 refine Ab fun a5 ac => jK (jG (Af 1 I (jR (Xo 1 I I I I) I (Ao 3 [.l 1 (e.length : Int)] I ⟨As, J⟩ (jH (Ar h I ?_ ?_))))))
 intro ad h
 refine Aj I (jO (Au 3 1) (C9 [2] I ?_))
 cases io h
 exact jN ⟨.inr I, [_, _], [.us nS 3 1 ([].map rI)], J2, Cx I (Ct), ⟨nS, I2⟩⟩
 intro ad h
 refine jL ?_
 subst ac
 refine Ab fun a6 ae => ?_
 obtain ⟨a7, af, h⟩ := Ac h
 refine jG (Af 1 I (jI [1] I (Fk [1] (Ys g _ _ af) ?_)))
 rintro _ _ _ - ⟨w, rfl, rfl, rfl⟩
 refine Af 1 I (jH ?_)
 subst ae
 refine Ai (fun s ob => ∃ (B : List (Int × Bool)), Hc.J2 B = some r ∧ s = [] ∧ ob = [.raw w (mapOb mB B)]) [(10, _)] J1 ?_ ?_
 refine Bd [.o 1 0, .l 2 (a.Ports.length : Int)] I ⟨As, I, J⟩ (jM (Ca 45 I fun ag => ?_))
 obtain ⟨a8, ah, ai⟩ := Ac h
 refine C1 ah (K5 2 7 10 45 46) J5 (fun (j : Nat) (b : (List (Int × Bool)) × (List (Int × Bool))) s ob => s = [(47, .V (j : Int))] ∧ ob = [O1 n [Aa a], .raw g (mapOb mB b.1), .raw w (mapOb mB b.2)]) ⟨I, I⟩ ⟨I, J⟩ (pk N3) ?_ ?_
 rintro j G b aj s ob ak H ⟨rfl, rfl⟩ h
 unfold Hc.B3 at h
 have al := Cy H
 refine Aj I (Ab fun a9 am => Bs I al (jL ?_))
 subst am
 refine Ai (fun s ob => ∃ (y : (List (Int × Bool)) × (List (Int × Bool))), Hc.J4 y = some aj ∧ s = [] ∧ ob = [O1 n [Aa a], .raw g (mapOb mB y.1), .raw w (mapOb mB y.2)]) (K6 2 7 10 45 46 47) J6 ?_ ?_
 refine jM (Ab fun ba an => jG (Ao 3 [.x 1 j (Bb G)] I ⟨⟨I, Ag ak⟩, J⟩ (jI [] I (Bf W5 3 fun bb => Af 1 I (jI [3] I (A1 3 0 0 [Bb G] I (jH ?_)))))))
 subst an
 refine jK ?_
 obtain ⟨K, ao, h⟩ := Ac h
 refine jG (Ao 4 [.o 0 0, .o 2 3] I J2 (jI [1] I (Av [1] (Yf _ _ g _ _ ao) ?_)))
 refine jH (Ar h I ?_ ?_)
 intro ap h
 exact jG (Ao 6 [.o 2 0, .l 3 (a.Segments.length : Int)] I ⟨As, I, J⟩ (jI [2] I (AX.mapUpdate 2 (f := mB) (z := true) I I I I I I I I I (jH (lg ⟨(K.2, (Il b.2 (wr ((a.Segments.length : Int) + (j : Int))) true)), h, I2⟩ N3)))))
 intro ap h
 exact jL (lg ⟨(K.2, b.2), h, I2⟩ N3)
 rintro s ob ⟨y, h, rfl, rfl⟩
 unfold Hc.J4 at h
 refine jG (Ao 2 [.k 0 (j + 1 : Nat)] I ⟨Ay H ag, J⟩ ?_)
 cases io h
 exact jH (lg I2 N3)
 rintro b s ob ⟨rfl, rfl⟩ he
 subst he
 have h := ai
 have aq := Cz a.Ports.length
 exact Aj I (Ab fun bc bd => Bu I aq (jP (lg ⟨b.2, h, I2⟩ [2])))
 rintro s ob ⟨B, h, rfl, rfl⟩
 refine jK ?_
 obtain ⟨ar, au, h⟩ := Ac h
 refine jG (Af 1 I (jI [] I (Cq I I I (Zr _) dS ?_)))
 rintro _ _ ⟨av, rfl, rfl⟩
 refine jI [1, 0] I (Fk [1, 0] (Yw av w _ _ au) ?_)
 rintro _ _ _ - ⟨M, rfl, rfl, rfl⟩
 refine Af 2 I (jH (C9 [2] I ?_))
 cases io h
 exact jN ⟨.inr I, [_, _], [U0 M ar], J2, Cx I (Ct), ⟨M, I2⟩⟩
end Go.Proofs.YtihdchjpepkpbaaGreat
