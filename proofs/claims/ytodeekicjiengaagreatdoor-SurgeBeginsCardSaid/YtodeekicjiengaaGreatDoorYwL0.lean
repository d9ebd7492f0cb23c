/- Walks that show what functions of the program compute; printed by a program of ours. No condition. -/
import Derived.Test.YtodeekicjiengaaGreatDoorYwD
import Derived.Test.YtodeekicjiengaaGreatDoorYwB2
set_option maxRecDepth 100000
namespace Go.Proofs.YtodeekicjiengaaGreatDoor
open Go.Aw
set_option linter.unusedVariables false
set_option linter.unusedSimpArgs false
set_option maxHeartbeats 4000000
theorem Og (a : Sg) (b : Int) (r : Int × Int) (h : Bn a b = r) : ACalls Aj 82 [.agg (Ak a), .V b] [] (RV (.tup [.V r.1, .V r.2])) := by
 refine Ae Tryz.func82 I I I fun C hC => ?_
 refine Aa fun e c => tV (tX [] I (Bo (Ak a) 7 fun f => Af 2 I (tW ?_)))
 subst c
 refine uB (Ah I (Ar h I ?_ ?_))
 intro d h
 refine Kf (pd 6 0 []) [0] [_] [.o 1 0, .o 3 0] I I J2 (uD g0 ?_)
 obtain rfl := h
 exact uC ⟨.inr I, [_, _], [], J2, Cm, I2⟩
 intro d h
 refine tZ (Kf (pd 6 0 []) [0] [_] [.o 1 0, .o 3 0] I I J2 (uD g0 ?_))
 obtain rfl := h
 exact uC ⟨.inr I, [_, _], [], J2, Cm, I2⟩
theorem Ud (a : Int) (b : Int) (r : Bool) (h : Na a b = r) : ACalls Aj 42 [.V a, .V b] [] (RB r) := by
 refine Ae Tryz.func42 I I I fun C hC => ?_
 unfold Na at h
 refine Ah I (Ai (fun s ob => s = [(4, .v (.bool (decide (a ≥ (wr (0 - b))) && decide (a ≤ b))))] ∧ ob = []) [] J ?_ ?_)
 refine tV (Af 5 I ?_)
 rcases bt (decide (a ≥ (wr (0 - b)))) with c | c
 refine Ad 9 I c (Af 5 I (tW ?_))
 exact lf I2 ⟨(Do (by simp only [c, bz])), J⟩ [] I
 refine Ad 9 I c (Af 5 I (tW ?_))
 exact lf I2 ⟨(Do (by simp only [c, bz])), J⟩ [] I
 rintro s ob ⟨rfl, rfl⟩
 obtain rfl := h
 exact uC pr
theorem jO (e : Int) (b : Int) (r : Int) (h : Wc e b = some r) : ACalls Aj 39 [.V e, .V b] [] (RV (.V r)) := by
 refine Ae Tryz.func39 I I I fun C hC => ?_
 refine Ah I (Aa fun m g => Ah I (Ar h I ?_ ?_))
 intro i h
 refine Ah I ?_
 cases io h
 exact uC pr
 intro i h
 refine tZ ?_
 subst g
 refine Aa fun n j => ?_
 obtain ⟨a, k, h⟩ := Ac h
 refine E2 [.f 2 (.V a)] I ⟨Yp.yd (El (c := a) I I (Hh k)), J⟩ ?_
 subst j
 refine Ai (fun s ob => ∃ (d : Int), Wc.J1 d = some r ∧ s = [(0, .V d)] ∧ ob = []) [] J ?_ ?_
 refine Ah I (Ar h I ?_ ?_)
 intro l h
 exact Sq I (lg ⟨wr (a + b), h, I2⟩ [])
 intro l h
 exact tZ (lg ⟨a, h, I2⟩ [])
 rintro s ob ⟨d, h, rfl, rfl⟩
 unfold Wc.J1 at h
 refine Ah I ?_
 cases io h
 exact uC pr
theorem Ds (a : Int) (c : Int) (d : Int) (r : Bool) (h : Dh a c d = r) : ACalls Aj 132 [.V a, .V c, .V d] [] (RB r) := by
 refine Ae Tryz.func132 I I I fun C hC => ?_
 unfold Dh at h
 refine Ah I (Ai (fun s ob => s = [(6, .v (.bool (decide (a ≥ c) && decide (a ≤ d))))] ∧ ob = []) [] J ?_ ?_)
 refine tV (Af 4 I ?_)
 rcases bt (decide (a ≥ c)) with b | b
 refine Ad 10 I b (Af 5 I (tW ?_))
 exact lf I2 ⟨(Do (by simp only [b, bz])), J⟩ [] I
 refine Ad 10 I b (Af 5 I (tW ?_))
 exact lf I2 ⟨(Do (by simp only [b, bz])), J⟩ [] I
 rintro s ob ⟨rfl, rfl⟩
 obtain rfl := h
 exact uC pr
theorem Of (a : Int) (r : Int) (h : F8 a = r) : ACalls Aj 108 [.V a] [] (RV (.V r)) := by
 refine Ae Tryz.func108 I I I fun C hC => ?_
 unfold F8 at h
 refine Ah I (Ah I ?_)
 obtain rfl := h
 exact uC pr
theorem gJ (a : Li) (c : Int) (r : Int) (h : P9 a c = some r) : ACalls Aj 119 [Q0 a, .V c] [] (RV (.V r)) := by
 refine Ae Tryz.func119 I I I fun C hC => ?_
 unfold P9 at h
 refine Ah I (Ai (fun s ob => ∃ (d : Unit), P9.J1 d = some r ∧ s = [] ∧ ob = []) [] J ?_ ?_)
 refine Bh [.l 1 (a.length : Int)] I ⟨Ax, J⟩ (uA (B0 6 I fun i => ?_))
 obtain ⟨w, j, e⟩ := Ac h
 refine Bx j [(0, _), (1, _), (7, _)] J3 (fun (b : Nat) (f : Unit) s ob => s = [(8, .V (b : Int))] ∧ ob = []) ⟨I, I⟩ ⟨I, J⟩ ⟨[], I, by decide⟩ ?_ ?_
 rintro b m f y s ob n g ⟨rfl, rfl⟩ h o
 have p := Co g
 refine Ah I (Aa fun A q => Bp I p (tZ ?_))
 subst q
 refine uB (uA (Ah I (Bh [.x 3 b (rI m)] I ⟨⟨I, Ag n⟩, J⟩ (Ar h I ?_ ?_))))
 intro t h
 refine Ah I ?_
 obtain rfl := o _ (oi h).symm
 have h := e
 have h := C2 h
 cases io h
 exact uC pr
 intro t h
 refine tZ (tV (An 2 [.k 0 (b + 1 : Nat)] I ⟨A0 g i, J⟩ ?_))
 cases io h
 exact tW ⟨_, _, _, I, I2, J4, [], I, by decide⟩
 rintro f s ob ⟨rfl, rfl⟩ he
 subst he
 have h := C8 e
 have u := Cp a.length
 exact Ah I (Aa fun B D => Br I u (uE (lg ⟨(), h, I2⟩ [])))
 rintro s ob ⟨d, h, rfl, rfl⟩
 unfold P9.J1 at h
 refine Ah I ?_
 cases io h
 exact uC pr
theorem fX (a : List Bt) (d : Bt) (r : Int) (h : M7 a d = some r) : ACalls Aj 124 [Q1 a, .v (.string d)] [] (RV (.V r)) := by
 refine Ae Tryz.func124 I I I fun C hC => ?_
 unfold M7 at h
 refine Ah I (Ai (fun s ob => ∃ (e : Unit), M7.J1 e = some r ∧ s = [] ∧ ob = []) [] J ?_ ?_)
 refine Bh [.l 1 (a.length : Int)] I ⟨Ax, J⟩ (uA (B0 6 I fun m => ?_))
 obtain ⟨A, n, f⟩ := Ac h
 refine Bx n [(0, _), (1, _), (7, _)] J3 (fun (b : Nat) (g : Unit) s ob => s = [(8, .V (b : Int))] ∧ ob = []) ⟨I, I⟩ ⟨I, J⟩ ⟨[], I, by decide⟩ ?_ ?_
 rintro b i g B s ob o j ⟨rfl, rfl⟩ h q
 have t := Co j
 refine Ah I (Aa fun D u => Bp I t (tZ ?_))
 subst u
 refine uB (uA (Ah I (uB (tV (An 5 [.x 3 b (rS i)] I ⟨⟨I, Ag o⟩, J⟩ (uH (Yp.cmpS (c := S0 d i) I I I) I (tW (Ar h I ?_ ?_))))))))
 intro w h
 refine Ah I ?_
 obtain rfl := q _ (oi h).symm
 have h := f
 have h := C2 h
 cases io h
 exact uC pr
 intro w h
 refine tZ (tV (An 2 [.k 0 (b + 1 : Nat)] I ⟨A0 j m, J⟩ ?_))
 cases io h
 exact tW ⟨_, _, _, I, I2, J4, [], I, by decide⟩
 rintro g s ob ⟨rfl, rfl⟩ he
 subst he
 have h := C8 f
 have y := Cp a.length
 exact Ah I (Aa fun E F => Br I y (uE (lg ⟨(), h, I2⟩ [])))
 rintro s ob ⟨e, h, rfl, rfl⟩
 unfold M7.J1 at h
 refine Ah I ?_
 cases io h
 exact uC pr
theorem jQ (a : Li) (F1 : T) {c : FuncId} {d e : List T} (o : Jd F1 = some (c, d, e)) (f : Int → Option Bool) (p : ∀ (g : Int) r, f g = some r → ACalls Aj c (d ++ [.V g] ++ e) [] (RB r)) (r : Int) (h : Qz a f = some r) : ACalls Aj 80 [Q0 a, F1] [] (RV (.V r)) := by
 refine Ae Tryz.func80 I I I fun C hC => ?_
 unfold Qz at h
 refine Ah I (Ai (fun s ob => ∃ (i : Unit), Qz.J1 i = some r ∧ s = [] ∧ ob = []) [] J ?_ ?_)
 refine Bh [.l 1 (a.length : Int)] I ⟨Ax, J⟩ (uA (B0 6 I fun q => ?_))
 obtain ⟨G, t, j⟩ := Ac h
 refine Bx t [(0, _), (1, _), (7, _)] J3 (fun (b : Nat) (m : Unit) s ob => s = [(8, .V (b : Int))] ∧ ob = []) ⟨I, I⟩ ⟨I, J⟩ ⟨[], I, by decide⟩ ?_ ?_
 rintro b u m H s ob w n ⟨rfl, rfl⟩ h y
 have A := Co n
 refine Ah I (Aa fun K B => Bp I A (tZ ?_))
 subst B
 refine uB (uA (Ah I (uB ?_)))
 obtain ⟨M, D, h⟩ := Ac h
 refine tV (An 5 [.x 3 b (rI u)] I ⟨⟨I, Ag w⟩, J⟩ (tX [] I (Ch I (.refl _) o I (.rest _) I (p _ _ D) dS (by rintro _ _ ⟨rfl, _⟩; rfl) ?_)))
 rintro _ ⟨_, rfl, -⟩
 refine tW (Ar h I ?_ ?_)
 intro E h
 refine Ah I ?_
 obtain rfl := y _ (oi h).symm
 have h := j
 have h := C2 h
 cases io h
 exact uC pr
 intro E h
 refine tZ (tV (An 2 [.k 0 (b + 1 : Nat)] I ⟨A0 n q, J⟩ ?_))
 cases io h
 exact tW ⟨_, _, _, I, I2, J4, [], I, by decide⟩
 rintro m s ob ⟨rfl, rfl⟩ he
 subst he
 have h := C8 j
 have F := Cp a.length
 exact Ah I (Aa fun N O => Br I F (uE (lg ⟨(), h, I2⟩ [])))
 rintro s ob ⟨i, h, rfl, rfl⟩
 unfold Qz.J1 at h
 refine Ah I ?_
 cases io h
 exact uC pr
theorem Jr (b : Li) (F1 : T) {d : FuncId} {e f : List T} (i : Jd F1 = some (d, e, f)) (a : Int → Option Bool) (j : ∀ (g : Int) r, a g = some r → ACalls Aj d (e ++ [.V g] ++ f) [] (RB r)) (r : Bool) (h : Kr b a = some r) : ACalls Aj 43 [Q0 b, F1] [] (RB r) := by
 refine Ae Tryz.func43 I I I fun C hC => ?_
 refine Ah I (uB ?_)
 obtain ⟨l, k, h⟩ := Ac h
 refine tV (Af 2 I (Cd (jQ _ F1 i a j _ k) (Af 2 I (tW ?_))))
 cases io h
 exact uC pr
theorem gB (a : List Bt) (F1 : T) {c : FuncId} {d e : List T} (o : Jd F1 = some (c, d, e)) (f : Bt → Option Bool) (p : ∀ (g : Bt) r, f g = some r → ACalls Aj c (d ++ [.v (.string g)] ++ e) [] (RB r)) (r : Int) (h : P6 a f = some r) : ACalls Aj 122 [Q1 a, F1] [] (RV (.V r)) := by
 refine Ae Tryz.func122 I I I fun C hC => ?_
 unfold P6 at h
 refine Ah I (Ai (fun s ob => ∃ (i : Unit), P6.J1 i = some r ∧ s = [] ∧ ob = []) [] J ?_ ?_)
 refine Bh [.l 1 (a.length : Int)] I ⟨Ax, J⟩ (uA (B0 6 I fun q => ?_))
 obtain ⟨G, t, j⟩ := Ac h
 refine Bx t [(0, _), (1, _), (7, _)] J3 (fun (b : Nat) (m : Unit) s ob => s = [(8, .V (b : Int))] ∧ ob = []) ⟨I, I⟩ ⟨I, J⟩ ⟨[], I, by decide⟩ ?_ ?_
 rintro b u m H s ob w n ⟨rfl, rfl⟩ h y
 have A := Co n
 refine Ah I (Aa fun K B => Bp I A (tZ ?_))
 subst B
 refine uB (uA (Ah I (uB ?_)))
 obtain ⟨M, D, h⟩ := Ac h
 refine tV (An 5 [.x 3 b (rS u)] I ⟨⟨I, Ag w⟩, J⟩ (tX [] I (Ch I (.refl _) o I (.rest _) I (p _ _ D) dS (by rintro _ _ ⟨rfl, _⟩; rfl) ?_)))
 rintro _ ⟨_, rfl, -⟩
 refine tW (Ar h I ?_ ?_)
 intro E h
 refine Ah I ?_
 obtain rfl := y _ (oi h).symm
 have h := j
 have h := C2 h
 cases io h
 exact uC pr
 intro E h
 refine tZ (tV (An 2 [.k 0 (b + 1 : Nat)] I ⟨A0 n q, J⟩ ?_))
 cases io h
 exact tW ⟨_, _, _, I, I2, J4, [], I, by decide⟩
 rintro m s ob ⟨rfl, rfl⟩ he
 subst he
 have h := C8 j
 have F := Cp a.length
 exact Ah I (Aa fun N O => Br I F (uE (lg ⟨(), h, I2⟩ [])))
 rintro s ob ⟨i, h, rfl, rfl⟩
 unfold P6.J1 at h
 refine Ah I ?_
 cases io h
 exact uC pr
theorem gY (b : List Bt) (F1 : T) {d : FuncId} {e f : List T} (i : Jd F1 = some (d, e, f)) (a : Bt → Option Bool) (j : ∀ (g : Bt) r, a g = some r → ACalls Aj d (e ++ [.v (.string g)] ++ f) [] (RB r)) (r : Bool) (h : Qg b a = some r) : ACalls Aj 74 [Q1 b, F1] [] (RB r) := by
 refine Ae Tryz.func74 I I I fun C hC => ?_
 refine Ah I (uB ?_)
 obtain ⟨l, k, h⟩ := Ac h
 refine tV (Af 2 I (Cd (gB _ F1 i a j _ k) (Af 2 I (tW ?_))))
 cases io h
 exact uC pr
theorem jN (a : List Sg) (F1 : T) {c : FuncId} {d e : List T} (o : Jd F1 = some (c, d, e)) (f : Sg → Option Bool) (p : ∀ (g : Sg) r, f g = some r → ACalls Aj c (d ++ [.agg (Ak g)] ++ e) [] (RB r)) (r : Int) (h : Qx a f = some r) : ACalls Aj 165 [Q5 a, F1] [] (RV (.V r)) := by
 refine Ae Tryz.func165 I I I fun C hC => ?_
 unfold Qx at h
 refine Ah I (Ai (fun s ob => ∃ (i : Unit), Qx.J1 i = some r ∧ s = [] ∧ ob = []) [] J ?_ ?_)
 refine Bh [.l 1 (a.length : Int)] I ⟨Ax, J⟩ (uA (B0 6 I fun q => ?_))
 obtain ⟨G, t, j⟩ := Ac h
 refine Bx t [(0, _), (1, _), (7, _)] J3 (fun (b : Nat) (m : Unit) s ob => s = [(8, .V (b : Int))] ∧ ob = []) ⟨I, I⟩ ⟨I, J⟩ ⟨[], I, by decide⟩ ?_ ?_
 rintro b u m H s ob w n ⟨rfl, rfl⟩ h y
 have A := Co n
 refine Ah I (Aa fun K B => Bp I A (tZ ?_))
 subst B
 refine uB (uA (Ah I (uB ?_)))
 obtain ⟨M, D, h⟩ := Ac h
 refine tV (An 5 [.x 3 b (Ak u)] I ⟨⟨I, Ag w⟩, J⟩ (tX [] I (Ch I (.refl _) o I (.rest _) I (p _ _ D) dS (by rintro _ _ ⟨rfl, _⟩; rfl) ?_)))
 rintro _ ⟨_, rfl, -⟩
 refine tW (Ar h I ?_ ?_)
 intro E h
 refine Ah I ?_
 obtain rfl := y _ (oi h).symm
 have h := j
 have h := C2 h
 cases io h
 exact uC pr
 intro E h
 refine tZ (tV (An 2 [.k 0 (b + 1 : Nat)] I ⟨A0 n q, J⟩ ?_))
 cases io h
 exact tW ⟨_, _, _, I, I2, J4, [], I, by decide⟩
 rintro m s ob ⟨rfl, rfl⟩ he
 subst he
 have h := C8 j
 have F := Cp a.length
 exact Ah I (Aa fun N O => Br I F (uE (lg ⟨(), h, I2⟩ [])))
 rintro s ob ⟨i, h, rfl, rfl⟩
 unfold Qx.J1 at h
 refine Ah I ?_
 cases io h
 exact uC pr
theorem Ty (b : List Sg) (F1 : T) {d : FuncId} {e f : List T} (i : Jd F1 = some (d, e, f)) (a : Sg → Option Bool) (j : ∀ (g : Sg) r, a g = some r → ACalls Aj d (e ++ [.agg (Ak g)] ++ f) [] (RB r)) (r : Bool) (h : M0 b a = some r) : ACalls Aj 120 [Q5 b, F1] [] (RB r) := by
 refine Ae Tryz.func120 I I I fun C hC => ?_
 refine Ah I (uB ?_)
 obtain ⟨l, k, h⟩ := Ac h
 refine tV (Af 2 I (Cd (jN _ F1 i a j _ k) (Af 2 I (tW ?_))))
 cases io h
 exact uC pr
theorem gQ (a : List Port) (F1 : T) {c : FuncId} {d e : List T} (o : Jd F1 = some (c, d, e)) (f : Port → Option Bool) (p : ∀ (g : Port) r, f g = some r → ACalls Aj c (d ++ [.agg (Cc g)] ++ e) [] (RB r)) (r : Int) (h : Qc a f = some r) : ACalls Aj 166 [Q6 a, F1] [] (RV (.V r)) := by
 refine Ae Tryz.func166 I I I fun C hC => ?_
 unfold Qc at h
 refine Ah I (Ai (fun s ob => ∃ (i : Unit), Qc.J1 i = some r ∧ s = [] ∧ ob = []) [] J ?_ ?_)
 refine Bh [.l 1 (a.length : Int)] I ⟨Ax, J⟩ (uA (B0 6 I fun q => ?_))
 obtain ⟨G, t, j⟩ := Ac h
 refine Bx t [(0, _), (1, _), (7, _)] J3 (fun (b : Nat) (m : Unit) s ob => s = [(8, .V (b : Int))] ∧ ob = []) ⟨I, I⟩ ⟨I, J⟩ ⟨[], I, by decide⟩ ?_ ?_
 rintro b u m H s ob w n ⟨rfl, rfl⟩ h y
 have A := Co n
 refine Ah I (Aa fun K B => Bp I A (tZ ?_))
 subst B
 refine uB (uA (Ah I (uB ?_)))
 obtain ⟨M, D, h⟩ := Ac h
 refine tV (An 5 [.x 3 b (Cc u)] I ⟨⟨I, Ag w⟩, J⟩ (tX [] I (Ch I (.refl _) o I (.rest _) I (p _ _ D) dS (by rintro _ _ ⟨rfl, _⟩; rfl) ?_)))
 rintro _ ⟨_, rfl, -⟩
 refine tW (Ar h I ?_ ?_)
 intro E h
 refine Ah I ?_
 obtain rfl := y _ (oi h).symm
 have h := j
 have h := C2 h
 cases io h
 exact uC pr
 intro E h
 refine tZ (tV (An 2 [.k 0 (b + 1 : Nat)] I ⟨A0 n q, J⟩ ?_))
 cases io h
 exact tW ⟨_, _, _, I, I2, J4, [], I, by decide⟩
 rintro m s ob ⟨rfl, rfl⟩ he
 subst he
 have h := C8 j
 have F := Cp a.length
 exact Ah I (Aa fun N O => Br I F (uE (lg ⟨(), h, I2⟩ [])))
 rintro s ob ⟨i, h, rfl, rfl⟩
 unfold Qc.J1 at h
 refine Ah I ?_
 cases io h
 exact uC pr
theorem jB (b : List Port) (F1 : T) {d : FuncId} {e f : List T} (i : Jd F1 = some (d, e, f)) (a : Port → Option Bool) (j : ∀ (g : Port) r, a g = some r → ACalls Aj d (e ++ [.agg (Cc g)] ++ f) [] (RB r)) (r : Bool) (h : Qt b a = some r) : ACalls Aj 130 [Q6 b, F1] [] (RB r) := by
 refine Ae Tryz.func130 I I I fun C hC => ?_
 refine Ah I (uB ?_)
 obtain ⟨l, k, h⟩ := Ac h
 refine tV (Af 2 I (Cd (gQ _ F1 i a j _ k) (Af 2 I (tW ?_))))
 cases io h
 exact uC pr
theorem Tw (a : List Sn) (F1 : T) {c : FuncId} {d e : List T} (o : Jd F1 = some (c, d, e)) (f : Sn → Option Bool) (p : ∀ (g : Sn) r, f g = some r → ACalls Aj c (d ++ [.agg (Ba g)] ++ e) [] (RB r)) (r : Int) (h : Mw a f = some r) : ACalls Aj 125 [Q7 a, F1] [] (RV (.V r)) := by
 refine Ae Tryz.func125 I I I fun C hC => ?_
 unfold Mw at h
 refine Ah I (Ai (fun s ob => ∃ (i : Unit), Mw.J1 i = some r ∧ s = [] ∧ ob = []) [] J ?_ ?_)
 refine Bh [.l 1 (a.length : Int)] I ⟨Ax, J⟩ (uA (B0 6 I fun q => ?_))
 obtain ⟨G, t, j⟩ := Ac h
 refine Bx t [(0, _), (1, _), (7, _)] J3 (fun (b : Nat) (m : Unit) s ob => s = [(8, .V (b : Int))] ∧ ob = []) ⟨I, I⟩ ⟨I, J⟩ ⟨[], I, by decide⟩ ?_ ?_
 rintro b u m H s ob w n ⟨rfl, rfl⟩ h y
 have A := Co n
 refine Ah I (Aa fun K B => Bp I A (tZ ?_))
 subst B
 refine uB (uA (Ah I (uB ?_)))
 obtain ⟨M, D, h⟩ := Ac h
 refine tV (An 5 [.x 3 b (Ba u)] I ⟨⟨I, Ag w⟩, J⟩ (tX [] I (Ch I (.refl _) o I (.rest _) I (p _ _ D) dS (by rintro _ _ ⟨rfl, _⟩; rfl) ?_)))
 rintro _ ⟨_, rfl, -⟩
 refine tW (Ar h I ?_ ?_)
 intro E h
 refine Ah I ?_
 obtain rfl := y _ (oi h).symm
 have h := j
 have h := C2 h
 cases io h
 exact uC pr
 intro E h
 refine tZ (tV (An 2 [.k 0 (b + 1 : Nat)] I ⟨A0 n q, J⟩ ?_))
 cases io h
 exact tW ⟨_, _, _, I, I2, J4, [], I, by decide⟩
 rintro m s ob ⟨rfl, rfl⟩ he
 subst he
 have h := C8 j
 have F := Cp a.length
 exact Ah I (Aa fun N O => Br I F (uE (lg ⟨(), h, I2⟩ [])))
 rintro s ob ⟨i, h, rfl, rfl⟩
 unfold Mw.J1 at h
 refine Ah I ?_
 cases io h
 exact uC pr
theorem fP (b : List Sn) (F1 : T) {d : FuncId} {e f : List T} (i : Jd F1 = some (d, e, f)) (a : Sn → Option Bool) (j : ∀ (g : Sn) r, a g = some r → ACalls Aj d (e ++ [.agg (Ba g)] ++ f) [] (RB r)) (r : Bool) (h : P0 b a = some r) : ACalls Aj 133 [Q7 b, F1] [] (RB r) := by
 refine Ae Tryz.func133 I I I fun C hC => ?_
 refine Ah I (uB ?_)
 obtain ⟨l, k, h⟩ := Ac h
 refine tV (Af 2 I (Cd (Tw _ F1 i a j _ k) (Af 2 I (tW ?_))))
 cases io h
 exact uC pr
theorem eU (a : Sg) (r : Bool) (h : Mv a = r) : ACalls Aj 121 [.agg (Ak a)] [] (RB r) := by
 refine Ae Tryz.func121 I I I fun C hC => ?_
 unfold Mv at h
 refine Aa fun d c => tV (tX [] I (Bo (Ak a) 7 fun e => Af 1 I (tW ?_)))
 subst c
 refine Ai (fun s ob => s = [(2, .v (.bool (decide ((a.Points.length : Int) < 2) || decide ((a.Points.length : Int) > 8))))] ∧ ob = []) [] J ?_ ?_
 refine tV (An 5 [.o 1 0, .l 2 (a.Points.length : Int)] I ⟨Ax, I, J⟩ ?_)
 rcases bt (decide ((a.Points.length : Int) < 2)) with b | b
 refine Ad 7 I b (Af 6 I (tW ?_))
 exact lf I2 ⟨(Do (by simp only [b, bz])), J⟩ [] I
 refine Ad 7 I b (An 6 [.o 1 0, .l 2 (a.Points.length : Int)] I ⟨Ax, I, J⟩ (tW ?_))
 exact lf I2 ⟨(Do (by simp only [b, bz])), J⟩ [] I
 rintro s ob ⟨rfl, rfl⟩
 obtain rfl := h
 exact uC pr
theorem gT (a : Nw) (r : Bool) (h : Vy a = some r) : ACalls Aj 72 [.agg (Ab a)] [] (RB r) := by
 refine Ae Tryz.func72 I I I fun C hC => ?_
 unfold Vy at h
 refine Aa fun k g => tV (tX [] I (Bo (Ab a) 6 fun n => Af 1 I (tW ?_)))
 subst g
 refine uB (Eb 30 (decide ((a.Nodes.length : Int) < 1) || (decide ((a.Nodes.length : Int) > 24) || (decide ((a.Segments.length : Int) > 32) || (decide ((a.Ports.length : Int) > 24) || decide ((a.Stations.length : Int) > 12))))) ?_ ?_)
 refine tV (An 5 [.o 1 0, .l 2 (a.Nodes.length : Int)] I ⟨Ax, I, J⟩ ?_)
 rcases bt (decide ((a.Nodes.length : Int) < 1)) with b | b
 exact Ad 7 I b (Af 23 I (tW (jf (by simp only [b, bz]) I I I2)))
 refine Ad 7 I b (An 6 [.o 1 0, .l 2 (a.Nodes.length : Int)] I ⟨Ax, I, J⟩ ?_)
 rcases bt (decide ((a.Nodes.length : Int) > 24)) with d | d
 exact Ad 13 I d (Af 17 I (tW (jf (by simp only [b, d, bz]) I I I2)))
 refine Ad 13 I d (An 6 [.o 1 0, .l 2 (a.Segments.length : Int)] I ⟨Ax, I, J⟩ ?_)
 rcases bt (decide ((a.Segments.length : Int) > 32)) with e | e
 exact Ad 19 I e (Af 11 I (tW (jf (by simp only [b, d, e, bz]) I I I2)))
 refine Ad 19 I e (An 6 [.o 1 0, .l 2 (a.Ports.length : Int)] I ⟨Ax, I, J⟩ ?_)
 rcases bt (decide ((a.Ports.length : Int) > 24)) with f | f
 exact Ad 25 I f (Af 5 I (tW (jf (by simp only [b, d, e, f, bz]) I I I2)))
 exact Ad 25 I f (An 5 [.o 1 0, .l 2 (a.Stations.length : Int)] I ⟨Ax, I, J⟩ (tW (jf (by simp only [b, d, e, f, bz]) I I I2)))
 refine Ar h I ?_ ?_
 intro i h
 refine Ah I (uD g0 ?_)
 cases io h
 exact uC pr
 intro i h
 refine tZ (uB ?_)
 obtain ⟨p, j, h⟩ := Ac h
 refine tV (An 2 [.o 1 0] I J1 (Cd (Ty _ (.v (.func (.func 121) #[] #[])) I (fun x => some (Mv x)) (fun x r h => by obtain I := oi h; exact eU x _ I) _ j) (Af 2 I (tW (uD g0 ?_)))))
 cases io h
 exact uC pr
theorem T8 (b : Nw) (g : Plan) (r : Li) (h : Ku b g = some r) : ACalls Aj 46 [.agg (Ab b), .agg (Am g)] [] (fun x new => ∃ (P : Value), x = .v P ∧ new = [U0 P r]) := by
 refine Ae Tryz.func46 I I I fun C hC => ?_
 refine Aa fun y1 ab => tV (tX [] I (Bo (Ab b) 6 fun n => tX [] I (Bo (Am g) 3 fun p => Af 1 I (tW ?_))))
 subst ab
 refine AW.scope (Ah I (Aa fun y5 ac => ?_))
 obtain ⟨l6, ⟨m8, ad, ae, af⟩, h⟩ := Gl h
 refine tV (An 3 [.o 1 0, .l 2 (b.Nodes.length : Int)] I ⟨Ax, I, J⟩ (tX [] I (Bq (sz := 1) I I I I I I I I I I ad ae (Ct (f := rB) af I) dS fun u => Af 1 I (tW ?_))))
 subst ac
 refine Aa fun ba ag => AW.label ?_
 subst ag
 refine Ai (fun s ob => ∃ (E : Li) (w : Value), Ku.J1 E = some r ∧ s = [(5, .v w)] ∧ ob = [U0 w E]) [] J ?_ ?_
 refine Ah I (uA (uD (Bs 3 1) ?_))
 obtain ⟨bb, ah, ai⟩ := Ac h
 refine Cs ah [(2, _), (3, _), (6, _)] J3 (fun (a : Li × (List Bool) × Int) s ob => ∃ (e : Value), s = [(5, .v e), (7, .V a.2.2)] ∧ ob = [O0 n [Ab b], O1 p [Am g], U1 u a.2.1, U0 e a.1]) ⟨(.slice none 0 0), I2⟩ ⟨I, I, J⟩ ⟨[0, 1, 2, 3], I, by decide⟩ ?_
 rintro a Q s ob ⟨e, rfl, rfl⟩ h aj
 refine Aa fun bc ak => Bh [.o 2 0, .l 3 (b.Nodes.length : Int)] I ⟨Ax, I, J⟩ (Ar h I ?_ ?_)
 intro al h
 refine tZ ?_
 subst ak
 refine Ai (fun s ob => ∃ (A : Li × (List Bool) × Int) (F : Value), Ku.J3 A = some Q ∧ s = [(5, .v F), (7, .V A.2.2)] ∧ ob = [O0 n [Ab b], O1 p [Am g], U1 u A.2.1, U0 F A.1]) [(2, _), (3, _), (6, _)] J3 ?_ ?_
 refine uA (Aa fun bd am => uB ?_)
 obtain ⟨i, ⟨R, G⟩, h⟩ := A6 h
 refine tV (Af 2 I (uJ (Bm 2 (m := i.1) I I I I I I I R (Ag G)) I (uJ (Bl 2 i.1 0 I I I (Ag G) I (y := .v (.bool i.2)) I) I (tW (Ar h I ?_ ?_)))))
 intro an h
 exact uE (lg ⟨(a.1, a.2.1, a.2.2), e, h, I2⟩ [0, 1, 2, 3])
 intro an h
 refine tZ ?_
 subst am
 refine Ai (fun s ob => ∃ (S : Unit), Ku.J4 a i S = some Q ∧ s = [] ∧ ob = [O0 n [Ab b], O1 p [Am g], U1 u a.2.1, U0 e a.1]) [(2, _), (3, _), (5, _), (6, _), (7, _)] J5 ?_ ?_
 refine Bh [.o 1 0, .l 2 (b.Segments.length : Int)] I ⟨Ax, I, J⟩ (uA (B0 28 I fun ao => ?_))
 obtain ⟨be, aq, U⟩ := Ac h
 refine Bx aq [(2, _), (3, _), (5, _), (6, _), (7, _), (28, _), (29, _)] J7 (fun (H : Nat) (W : Unit) s ob => s = [(30, .V (H : Int))] ∧ ob = [O0 n [Ab b], O1 p [Am g], U1 u a.2.1, U0 e a.1]) ⟨I, I⟩ ⟨I, J⟩ ⟨[0, 1, 2, 3], I, by decide⟩ ?_ ?_
 rintro H K W ar s ob au X ⟨rfl, rfl⟩ h av
 have aw := Co X
 refine Ah I (Aa fun bf ax => Bp I aw (tZ ?_))
 subst ax
 refine uB (uA (Aa fun bg ay => tV (An 3 [.x 1 H (Ak K)] I ⟨⟨I, Ag au⟩, J⟩ (tX [] I (uF W2 7 fun bh => Af 1 I (tX [4] I (A3 4 0 0 [Ak K] I (tW ?_))))))))
 subst ay
 refine Aa fun bi az => ?_
 obtain ⟨j, ⟨Y, Z⟩, h⟩ := A6 h
 refine Bz (pd 12 0 [6]) [4, 1] [_, _] I (Ca 6 [.o 0 0, .o 2 1, .x 4 j.1 (rI j.2)] I ⟨⟨Y, Ag Z⟩, I, I, J⟩ (Dq I (Og K j.2 _ I) (Bf 5 I (Ap (tW ?_)))))
 subst az
 refine Ai (fun s ob => ∃ (O : Bool), Ku.J6 a O = some ar ∧ s = [(62, .v (.bool O))] ∧ ob = [O0 n [Ab b], O1 p [Am g], U1 u a.2.1, U0 e a.1]) [(2, _), (3, _), (5, _), (6, _), (7, _), (28, _), (29, _), (30, _)] J8 ?_ ?_
 refine tV (An 7 [.o 1 1, .x 3 j.1 (rI j.2)] I ⟨⟨Y, Ag Z⟩, I, J⟩ ?_)
 rcases bt ((j.2 != 0)) with B | B
 have h := Bu B h
 refine Ad 51 I B ?_
 rcases bt ((((Bn K j.2).2) == a.2.2)) with D | D
 have h := Bu D h
 obtain ⟨M, ⟨a0, aa⟩, h⟩ := A6 h
 exact Af 5 I (Ad 56 I D (Af 2 I (Cf I I I (uJ (Bm 2 (m := M.1) I I I I I I I a0 (Ag aa)) I (Cf I I I (uJ (Bl 2 M.1 0 I I I (Ag aa) I (y := .v (.bool M.2)) I) I (Af 2 I (tW (lg ⟨(!M.2), h, I2⟩ [0, 1, 2, 3])))))))))
 have h := Bv D h
 exact Af 5 I (Ad 56 I D (Af 6 I (tW (lg ⟨false, h, I2⟩ [0, 1, 2, 3]))))
 have h := Bv B h
 exact Ad 51 I B (Af 11 I (tW (lg ⟨false, h, I2⟩ [0, 1, 2, 3])))
 rintro s ob ⟨O, h, rfl, rfl⟩
 refine Ar h I ?_ ?_
 intro a1 h
 obtain rfl := av _ (oi h).symm
 have h := U
 have h := C2 h
 exact uE (lg ⟨(a.1, a.2.1, a.2.2), e, h, I2⟩ [0, 1, 2, 3])
 intro a1 h
 refine tZ (tV (An 2 [.k 0 (H + 1 : Nat)] I ⟨A0 X ao, J⟩ ?_))
 cases io h
 exact tW ⟨_, _, _, I, I2, J8, [0, 1, 2, 3], I, by decide⟩
 rintro W s ob ⟨rfl, rfl⟩ he
 subst he
 have h := C8 U
 have a2 := Cp b.Segments.length
 exact Ah I (Aa fun bj bk => Br I a2 (uE (lg ⟨(), h, I2⟩ [0, 1, 2, 3])))
 rintro s ob ⟨S, h, rfl, rfl⟩
 refine uB (tV (Af 2 I (uJ (Bm 2 (m := i.1) I I I I I I I R (Ag G)) I (tX [2] I (Ci 2 i.1 0 I I I (Ag G) I I I I (Cb I) I (Dg (x := true) I) (tW (uB ?_)))))))
 obtain ⟨a3, a4, h⟩ := Ac h
 exact tV (Af 2 I (tX [] I (uG 1 (([a.2.2] : Li).map rI) (tX [3] I (C9 3 I a4 fun a5 => Af 1 I (tW (Sq I (lg ⟨(a3, (a.2.1.set i.1 true), (-1)), a5, h, I2⟩ [0, 1, 2, 3]))))))))
 rintro s ob ⟨A, F, h, rfl, rfl⟩
 unfold Ku.J3 at h
 refine tV (Af 3 I ?_)
 cases io h
 exact tW ⟨_, _, _, I, ⟨F, I2⟩, J5, [0, 1, 2, 3], I, by decide⟩
 intro al h
 obtain rfl := aj _ (oi h).symm
 have h := ai
 exact uE (lg ⟨a.1, e, h, I2⟩ [3])
 rintro s ob ⟨E, w, h, rfl, rfl⟩
 refine Ah I ?_
 obtain rfl := oi h
 exact uC ⟨.inr I, [_], [U0 w E], J1, Cz I (Cm), ⟨w, I2⟩⟩
theorem Ur (a : Int) (r : Int) (h : Qp a = r) : ACalls Aj 123 [.v (.int .u8 a)] [] (RV (.V r)) := by
 refine Ae Tryz.func123 I I I fun C hC => ?_
 unfold Qp at h
 refine Ah I (uB (uA (Ai (fun s ob => ∃ (e : Unit), Qp.J1 e = r ∧ s = [] ∧ ob = []) [] J ?_ ?_)))
 refine uA (uA (uB (uA (uB (Aa fun k f => Eb 3 (decide (a ≥ 97) && decide (a ≤ 122)) ?_ ?_)))))
 refine tV (Af 1 I (uH (uO (c := decide (a ≥ 97)) I I I) I (Af 1 I ?_)))
 rcases bt (decide (a ≥ 97)) with b | b
 exact Ad 6 I b (Af 1 I (Cf I I I (uH (uO (c := decide (a ≤ 122)) I I I) I (Af 2 I (tW (jf (by simp only [b, bz]) I I I2))))))
 exact Ad 6 I b (Af 4 I (tW (jf (by simp only [b, bz]) I I I2)))
 refine Ar h I ?_ ?_
 intro g h
 refine uE (uB (Ah I ?_))
 obtain rfl := h
 exact uC pr
 intro g h
 refine tZ ?_
 subst f
 refine uB (Eb 10 (decide (a ≥ 48) && decide (a ≤ 57)) ?_ ?_)
 refine tV (Af 1 I (uH (uO (c := decide (a ≥ 48)) I I I) I (Af 1 I ?_)))
 rcases bt (decide (a ≥ 48)) with d | d
 exact Ad 13 I d (Af 1 I (Cf I I I (uH (uO (c := decide (a ≤ 57)) I I I) I (Af 2 I (tW (jf (by simp only [d, bz]) I I I2))))))
 exact Ad 13 I d (Af 4 I (tW (jf (by simp only [d, bz]) I I I2)))
 refine Ar h I ?_ ?_
 intro i h
 exact uE (lg ⟨(), h, I2⟩ [])
 intro i h
 refine tZ (uB (tV (Af 1 I (uH (uO (c := (a == 45)) I I I) I (Af 1 I (tW (Ar h I ?_ ?_)))))))
 intro j h
 exact uE (lg ⟨(), h, I2⟩ [])
 intro j h
 refine tZ (uE (Ah I ?_))
 obtain rfl := h
 exact uC pr
 rintro s ob ⟨e, h, rfl, rfl⟩
 unfold Qp.J1 at h
 refine uB (Ah I ?_)
 obtain rfl := h
 exact uC pr
theorem Om (a : Bt) (r : Bool) (h : Iu a = some r) : ACalls Aj 76 [.v (.string a)] [] (RB r) := by
 refine Ae Tryz.func76 I I I fun C hC => ?_
 unfold Iu at h
 refine Ah I (Aa fun S o => Ai (fun s ob => ∃ (f : Bool), Iu.J1 a f = some r ∧ s = [(17, .v (.bool f))] ∧ ob = []) [(0, _)] J1 ?_ ?_)
 refine tV (Af 4 I ?_)
 rcases bt (decide ((a.size : Int) < 1)) with b | b
 have h := Bu b h
 exact Ad 7 I b (Af 10 I (tW (lg ⟨true, h, I2⟩ [])))
 have h := Bv b h
 refine Ad 7 I b ?_
 rcases bt (decide ((a.size : Int) > 12)) with d | d
 have h := Bu d h
 exact Af 5 I (Ad 12 I d (Af 5 I (tW (lg ⟨true, h, I2⟩ []))))
 have h := Bv d h
 obtain ⟨g, t, h⟩ := Ac h
 obtain ⟨u, w, y⟩ := L9 t
 exact Af 5 I (Ad 12 I d (Af 1 I (Cf I I I (uH (Db (m := g.1) I I I I u w y) I (Cf I I I (Cd (Ur g.2 _ I) (Af 2 I (tW (lg ⟨((Qp g.2) != 1), h, I2⟩ [])))))))))
 rintro s ob ⟨f, h, rfl, rfl⟩
 refine Ar h I ?_ ?_
 intro A h
 refine Ah I ?_
 cases io h
 exact uC pr
 intro A h
 refine tZ ?_
 subst o
 refine Ai (fun s ob => ∃ (i : Unit), Iu.J2 i = some r ∧ s = [] ∧ ob = []) [] J ?_ ?_
 refine Ah I (uA ?_)
 obtain ⟨U, B, h⟩ := Ac h
 have D : (a.size : Int).toNat ≤ 9223372036854775806 := by have := mH B; omega
 obtain ⟨W, E, j⟩ := Ac h
 refine Fi E [(0, _), (19, _)] J2 (fun (e : Nat) (l : Unit) s ob => s = [(20, .V (e : Int))] ∧ ob = []) ⟨I, I⟩ ⟨I, J⟩ ⟨[], I, by decide⟩ ?_ ?_
 rintro e l X s ob F ⟨rfl, rfl⟩ h G
 have H : decide ((e : Int) < (a.size : Int)) = true := decide_eq_true (by omega)
 refine Ah I (Aa fun Y K => Bp I H (tZ ?_))
 subst K
 refine uB (uA (Ah I (uB ?_)))
 obtain ⟨n, M, h⟩ := Ac h
 obtain ⟨N, O, P⟩ := L9 M
 refine tV (Af 2 I (uH (Db (m := n.1) I I I I N O P) I (Cd (Ur n.2 _ I) (Af 1 I (tW (Ar h I ?_ ?_))))))
 intro Q h
 refine Ah I ?_
 obtain rfl := G _ (oi h).symm
 have h := j
 have h := C2 h
 cases io h
 exact uC pr
 intro Q h
 refine tZ (tV (An 2 [.k 0 (e + 1 : Nat)] I ⟨A0 F D, J⟩ ?_))
 cases io h
 exact tW ⟨_, _, _, I, I2, J3, [], I, by decide⟩
 rintro l s ob ⟨rfl, rfl⟩ he
 subst he
 have h := C8 j
 have R : decide ((((a.size : Int).toNat : Nat) : Int) < (a.size : Int)) = false := decide_eq_false (by omega)
 exact Ah I (Aa fun Z aa => Br I R (uE (lg ⟨(), h, I2⟩ [])))
 rintro s ob ⟨i, h, rfl, rfl⟩
 unfold Iu.J2 at h
 refine Ah I ?_
 cases io h
 exact uC pr
theorem Ut (a : Nw) (r : Arr (List Bt) 4) (h : Nv a = some r) : ACalls Aj 73 [.agg (Ab a)] [] (RV (.agg (r.l.map (cL 1 rS)))) := by
 refine Ae Tryz.func73 I I I fun C hC => ?_
 unfold Nv at h
 refine Aa fun y1 U => tV (tX [] I (Bo (Ab a) 6 fun u => tX [] I (uF W4 4 fun f => tW ?_)))
 subst U
 refine Aa fun y4 W => tV (tX [] I (uF W4 4 fun g => tW ?_))
 subst W
 refine Aa fun y6 X => tV (An 2 [.o 1 0] I J1 (uH (Du (m := 0) I I I I I I (Cb I)) I (tX [2] I (A3 2 0 0 [[Q1 a.Nodes, .N, .N, .N]] I (tW ?_)))))
 subst X
 refine Ai (fun s ob => ∃ (c : List Bt) (b : Value), Nv.J1 a c = some r ∧ s = [] ∧ ob = [O0 u [Ab a], O7 f [W4], O7 g [[Q1 a.Nodes, .v b, .N, .N]], U3 b c]) [(1, _), (2, _), (3, _)] J3 ?_ ?_
 refine Bh [.o 1 0, .l 2 (a.Segments.length : Int)] I ⟨Ax, I, J⟩ (uA (B0 14 I fun Y => uD (Bs 9 1) ?_))
 obtain ⟨a5, Z, aa⟩ := Ac h
 refine Cu Z [(1, _), (2, _), (3, _), (14, _), (15, _)] J5 (fun (w : Nat) (y : List Bt) s ob => ∃ (j : Value), s = [(16, .V (w : Int))] ∧ ob = [O0 u [Ab a], O7 f [W4], O7 g [[Q1 a.Nodes, .v j, .N, .N]], U3 j y]) ⟨(.slice none 0 0), I2⟩ ⟨I, J⟩ ⟨[0, 1, 2, 3], I, by decide⟩ ?_ ?_
 rintro w F y a6 s ob ab M ⟨j, rfl, rfl⟩ h
 have ac := Co M
 refine Ah I (Aa fun a7 ad => Bp I ac (tZ ?_))
 subst ad
 refine uB (uA (uB (tV (An 2 [.x 0 w (Ak F)] I ⟨⟨I, Ag ab⟩, J⟩ (tX [] I (uF W2 7 fun a8 => tX [4] I (A3 4 0 0 [Ak F] I (tW ?_))))))))
 obtain ⟨a9, ae, h⟩ := Ac h
 refine tV (uH (Du (m := 1) I I I I I I (Cb I)) I (An 3 [.o 0 2, .o 2 4] I J2 (tX [] I (uG 1 (([F.Name] : List Bt).map rS) (tX [3] I (C9 3 I ae fun O => uH (Du (m := 1) I I I I I I (Cb I)) I (uS 3 I fun af => tX [2] I (uN 2 0 1 (es' := [[Q1 a.Nodes, .v O, .N, .N]]) I I I I I I (A8 af) I (Cb I) I I (tW (tV (An 2 [.k 0 (w + 1 : Nat)] I ⟨A0 M Y, J⟩ ?_)))))))))))
 cases io h
 exact tW (lg ⟨O, I2⟩ [0, 1, 2, 3])
 rintro y s ob ⟨j, rfl, rfl⟩ he
 subst he
 have h := aa
 have ag := Cp a.Segments.length
 exact Ah I (Aa fun ba bb => Br I ag (uE (lg ⟨y, j, h, I2⟩ [0, 1, 2, 3])))
 rintro s ob ⟨c, b, h, rfl, rfl⟩
 unfold Nv.J1 at h
 refine Ai (fun s ob => ∃ (e : List Bt) (d : Value), Nv.J2 a c e = some r ∧ s = [] ∧ ob = [O0 u [Ab a], O7 f [W4], O7 g [[Q1 a.Nodes, .v b, .v d, .N]], U3 b c, U3 d e]) [(1, _), (2, _), (3, _)] J3 ?_ ?_
 refine Bh [.o 1 0, .l 2 (a.Ports.length : Int)] I ⟨Ax, I, J⟩ (uA (B0 29 I fun ah => uD (Bs 9 1) ?_))
 obtain ⟨bc, ai, aj⟩ := Ac h
 refine Cu ai [(1, _), (2, _), (3, _), (29, _), (30, _)] J5 (fun (A : Nat) (B : List Bt) s ob => ∃ (n : Value), s = [(31, .V (A : Int))] ∧ ob = [O0 u [Ab a], O7 f [W4], O7 g [[Q1 a.Nodes, .v b, .v n, .N]], U3 b c, U3 n B]) ⟨(.slice none 0 0), I2⟩ ⟨I, J⟩ ⟨[0, 1, 2, 3, 4], I, by decide⟩ ?_ ?_
 rintro A G B bd s ob ak P ⟨n, rfl, rfl⟩ h
 have al := Co P
 refine Ah I (Aa fun be am => Bp I al (tZ ?_))
 subst am
 refine uB (uA (uB (tV (An 2 [.x 0 A (Cc G)] I ⟨⟨I, Ag ak⟩, J⟩ (tX [] I (uF W6 3 fun bf => tX [5] I (A3 5 0 0 [Cc G] I (tW ?_))))))))
 obtain ⟨bg, an, h⟩ := Ac h
 refine tV (uH (Du (m := 2) I I I I I I (Cb I)) I (An 3 [.o 0 2, .o 2 5] I J2 (tX [] I (uG 1 (([G.Name] : List Bt).map rS) (tX [4] I (C9 4 I an fun Q => uH (Du (m := 2) I I I I I I (Cb I)) I (uS 4 I fun ao => tX [2] I (uN 2 0 2 (es' := [[Q1 a.Nodes, .v b, .v Q, .N]]) I I I I I I (A8 ao) I (Cb I) I I (tW (tV (An 2 [.k 0 (A + 1 : Nat)] I ⟨A0 P ah, J⟩ ?_)))))))))))
 cases io h
 exact tW (lg ⟨Q, I2⟩ [0, 1, 2, 3, 4])
 rintro B s ob ⟨n, rfl, rfl⟩ he
 subst he
 have h := aj
 have aq := Cp a.Ports.length
 exact Ah I (Aa fun bh bi => Br I aq (uE (lg ⟨B, n, h, I2⟩ [0, 1, 2, 3, 4])))
 rintro s ob ⟨e, d, h, rfl, rfl⟩
 unfold Nv.J2 at h
 refine Ai (fun s ob => ∃ (q : List Bt) (i : Value), Nv.J3 a c e q = some r ∧ s = [] ∧ ob = [O7 f [W4], O7 g [[Q1 a.Nodes, .v b, .v d, .v i]], U3 b c, U3 d e, U3 i q]) [(2, _), (3, _)] J2 ?_ ?_
 refine Bh [.o 1 0, .l 2 (a.Stations.length : Int)] I ⟨Ax, I, J⟩ (uA (B0 44 I fun ar => uD (Bs 9 1) ?_))
 obtain ⟨bj, au, av⟩ := Ac h
 refine Cu au [(2, _), (3, _), (44, _), (45, _)] J4 (fun (D : Nat) (E : List Bt) s ob => ∃ (t : Value), s = [(46, .V (D : Int))] ∧ ob = [O7 f [W4], O7 g [[Q1 a.Nodes, .v b, .v d, .v t]], U3 b c, U3 d e, U3 t E]) ⟨(.slice none 0 0), I2⟩ ⟨I, J⟩ ⟨[1, 2, 3, 4, 5], I, by decide⟩ ?_ ?_
 rintro D H E bk s ob aw R ⟨t, rfl, rfl⟩ h
 have ax := Co R
 refine Ah I (Aa fun bl ay => Bp I ax (tZ ?_))
 subst ay
 refine uB (uA (uB (tV (An 2 [.x 0 D (Ba H)] I ⟨⟨I, Ag aw⟩, J⟩ (tX [] I (uF W5 5 fun bm => tX [5] I (A3 5 0 0 [Ba H] I (tW ?_))))))))
 obtain ⟨bn, az, h⟩ := Ac h
 refine tV (uH (Du (m := 3) I I I I I I (Cb I)) I (An 3 [.o 0 1, .o 2 5] I J2 (tX [] I (uG 1 (([H.Name] : List Bt).map rS) (tX [4] I (C9 4 I az fun S => uH (Du (m := 3) I I I I I I (Cb I)) I (uS 4 I fun a0 => tX [1] I (uN 1 0 3 (es' := [[Q1 a.Nodes, .v b, .v d, .v S]]) I I I I I I (A8 a0) I (Cb I) I I (tW (tV (An 2 [.k 0 (D + 1 : Nat)] I ⟨A0 R ar, J⟩ ?_)))))))))))
 cases io h
 exact tW (lg ⟨S, I2⟩ [0, 1, 2, 3, 4])
 rintro E s ob ⟨t, rfl, rfl⟩ he
 subst he
 have h := av
 have a1 := Cp a.Stations.length
 exact Ah I (Aa fun bo bp => Br I a1 (uE (lg ⟨E, t, h, I2⟩ [0, 1, 2, 3, 4])))
 rintro s ob ⟨q, i, h, rfl, rfl⟩
 unfold Nv.J3 at h
 refine uB (tV (An 1 [.o 0 1] I J1 (tX [0] I (A3 0 0 0 [[Q1 a.Nodes, .v b, .v d, .v i]] I (tW (uD (Bi [2, 3, 4] (K := [U3 b c, U3 d e, U3 i q]) I [] J (ob' := [O7 f [[Q1 a.Nodes, Q1 c, Q1 e, Q1 q]], O7 g [[Q1 a.Nodes, .v b, .v d, .v i]]]) (.cons (.arr (.cons (.refl _) (.cons (.us 0 I) (.cons (.us 1 I) (.cons (.us 2 I) (.rest _)))))) (.rest _))) (Cv [0] I ?_)))))))
 cases io h
 exact uC ⟨.inr I, [_], [], ⟨⟨0, _, _, _, _, _, _, _, I5⟩, J⟩, Cm, I2⟩
theorem fW (a : Sn) (b : Sn) (r : Bool) (h : Kv a b = r) : ACalls Aj 126 [.agg (Ba a), .eptr (Ba b)] [] (RB r) := by
 refine Ae Tryz.func126 I I I fun C hC => ?_
 unfold Kv at h
 refine uB (tV (tX [] I (Bo (Ba a) 5 fun c => Af 1 I (tW (Bh [.o 1 0] I J1 (uD g0 ?_))))))
 obtain rfl := h
 exact uC pr
theorem fC (a : Nw) (r : Bool) (h : Vh a = some r) : ACalls Aj 77 [.agg (Ab a)] [] (RB r) := by
 refine Ae Tryz.func77 I I I fun C hC => ?_
 unfold Vh at h
 refine Aa fun y1 G => tV (tX [] I (Bo (Ab a) 6 fun b => Af 1 I (tW ?_)))
 subst G
 refine Ai (fun s ob => ∃ (j : Unit), Vh.J1 a j = some r ∧ s = [] ∧ ob = [O0 b [Ab a]]) [(1, _)] J1 ?_ ?_
 refine Aa fun aw H => ?_
 obtain ⟨ax, K, h⟩ := Ac h
 refine tV (An 1 [.o 0 0] I J1 (tX [] I (Ck I I I (Ut _ _ K) dS ?_)))
 rintro _ _ ⟨rfl, rfl⟩
 refine Af 1 I (tW ?_)
 subst H
 refine uA ?_
 have M : (4 : Nat) ≤ 9223372036854775806 := by decide
 obtain ⟨ay, N, n⟩ := Ac h
 refine Fi N [(1, _), (10, _)] J2 (fun (e : Nat) (t : Unit) s ob => s = [(11, .V (e : Int))] ∧ ob = [O0 b [Ab a]]) ⟨I, I⟩ ⟨I, J⟩ ⟨[0], I, by decide⟩ ?_ ?_
 rintro e t O s ob P ⟨rfl, rfl⟩ h Q
 unfold Vh.B4 at h
 have R : decide ((e : Int) < 4) = true := decide_eq_true (by omega)
 refine Ah I (Aa fun az S => Bp I R (tZ ?_))
 subst S
 refine Ai (fun s ob => ∃ (u : Unit), Vh.J5 u = some O ∧ s = [] ∧ ob = [O0 b [Ab a]]) [(1, _), (10, _), (11, _)] J3 ?_ ?_
 refine uA (Aa fun a0 U => ?_)
 obtain ⟨i, ⟨W, X⟩, h⟩ := A6 h
 refine tV (uH (G6 (m := i.1) I I I I I I I W X (hlen := Arr.h _)) I (Af 1 I (tW ?_)))
 subst U
 refine Bh [.l 1 (i.2.length : Int)] I ⟨Ax, J⟩ (uA (B0 14 I fun Y => ?_))
 obtain ⟨a1, Z, w⟩ := Ac h
 refine Bx Z [(1, _), (4, _), (10, _), (11, _), (14, _), (15, _)] J6 (fun (f : Nat) (y : Unit) s ob => s = [(16, .V (f : Int))] ∧ ob = [O0 b [Ab a]]) ⟨I, I⟩ ⟨I, J⟩ ⟨[0], I, by decide⟩ ?_ ?_
 rintro f aa y a2 s ob ab A ⟨rfl, rfl⟩ h ac
 have ad := Co A
 refine Ah I (Aa fun a3 ae => Bp I ad (tZ ?_))
 subst ae
 refine uB (uA (Bh [.x 1 f (rS aa)] I ⟨⟨I, Ag ab⟩, J⟩ (uB ?_)))
 obtain ⟨a4, af, h⟩ := Ac h
 refine tV (Af 2 I (Cd (fX _ _ _ af) (Af 2 I (tW (Ar h I ?_ ?_)))))
 intro ag h
 refine Ah I ?_
 obtain rfl := ac _ (oi h).symm
 have h := w
 have h := C2 h
 obtain rfl := Q _ (oi h).symm
 have h := n
 have h := C2 h
 refine uD g0 ?_
 cases io h
 exact uC pr
 intro ag h
 refine tZ (tV (An 2 [.k 0 (f + 1 : Nat)] I ⟨A0 A Y, J⟩ ?_))
 cases io h
 exact tW ⟨_, _, _, I, I2, J7, [0], I, by decide⟩
 rintro y s ob ⟨rfl, rfl⟩ he
 subst he
 have h := C8 w
 have ah := Cp i.2.length
 exact Ah I (Aa fun a5 a6 => Br I ah (uE (lg ⟨(), h, I2⟩ [0])))
 rintro s ob ⟨u, h, rfl, rfl⟩
 unfold Vh.J5 at h
 refine tV (An 2 [.k 0 (e + 1 : Nat)] I ⟨A0 P M, J⟩ ?_)
 cases io h
 exact tW ⟨_, _, _, I, I2, J3, [0], I, by decide⟩
 rintro t s ob ⟨rfl, rfl⟩ he
 subst he
 have h := C8 n
 have ai : decide (((4 : Nat) : Int) < 4) = false := by simp
 exact Ah I (Aa fun a7 a8 => Br I ai (uE (lg ⟨(), h, I2⟩ [0])))
 rintro s ob ⟨j, h, rfl, rfl⟩
 unfold Vh.J1 at h
 refine Ai (fun s ob => ∃ (B : Unit), Vh.J2 B = some r ∧ s = [] ∧ ob = []) [] J ?_ ?_
 refine Bh [.o 1 0, .l 2 (a.Stations.length : Int)] I ⟨Ax, I, J⟩ (uA (B0 29 I fun aj => ?_))
 obtain ⟨a9, ak, D⟩ := Ac h
 refine Bx ak [(1, _), (29, _), (30, _)] J3 (fun (g : Nat) (E : Unit) s ob => s = [(31, .V (g : Int))] ∧ ob = [O0 b [Ab a]]) ⟨I, I⟩ ⟨I, J⟩ ⟨[0], I, by decide⟩ ?_ ?_
 rintro g d E ba s ob al F ⟨rfl, rfl⟩ h am
 have an := Co F
 refine Ah I (Aa fun bb ao => Bp I an (tZ ?_))
 subst ao
 refine uB (uA (Aa fun bc ap => tV (An 3 [.x 1 g (Ba d)] I ⟨⟨I, Ag al⟩, J⟩ (tX [] I (uF W5 5 fun bd => Af 1 I (tX [1] I (A3 1 0 0 [Ba d] I (tW ?_))))))))
 subst ap
 refine uB ?_
 obtain ⟨be, aq, h⟩ := Ac h
 refine tV (An 2 [.o 1 0] I J1 (uH (uR I I) I (tX [] I (Ch I (.refl _) I I (.cons (.refl _) (.cons (.fn (.rest _) (.cons (.box 1 I (.rest _)) (.rest _))) (.rest _))) I (Tw _ (.fn 126 [] [.eptr (Ba d)]) I (fun x => some (Kv x d)) (fun x r h => by obtain I := oi h; exact fW x d _ I) _ aq) dS (by rintro _ _ ⟨rfl, _⟩; rfl) ?_))))
 rintro _ ⟨_, rfl, -⟩
 refine Af 2 I (tW (Ar h I ?_ ?_))
 intro ar h
 refine Ah I ?_
 obtain rfl := am _ (oi h).symm
 have h := D
 have h := C2 h
 refine uD g0 ?_
 cases io h
 exact uC pr
 intro ar h
 refine tZ (tV (An 2 [.k 0 (g + 1 : Nat)] I ⟨A0 F aj, J⟩ ?_))
 cases io h
 exact tW ⟨_, _, _, I, I2, J4, [0], I, by decide⟩
 rintro E s ob ⟨rfl, rfl⟩ he
 subst he
 have h := C8 D
 have au := Cp a.Stations.length
 exact Ah I (Aa fun bf bg => Br I au (uE (lg ⟨(), h, I2⟩ [])))
 rintro s ob ⟨B, h, rfl, rfl⟩
 unfold Vh.J2 at h
 refine Ah I ?_
 cases io h
 exact uC pr
theorem fD (a : Int) (c : Nw) (r : Bool) (h : Mx a c = r) : ACalls Aj 127 [.V a, .eptr (Ab c)] [] (RB r) := by
 refine Ae Tryz.func127 I I I fun C hC => ?_
 unfold Mx at h
 refine Ah I (Ai (fun s ob => s = [(3, .v (.bool (decide (a < 0) || decide (a ≥ (c.Nodes.length : Int)))))] ∧ ob = []) [] J ?_ ?_)
 refine tV (Af 3 I ?_)
 rcases bt (decide (a < 0)) with b | b
 refine Ad 6 I b (Af 7 I (tW ?_))
 exact lf I2 ⟨(Do (by simp only [b, bz])), J⟩ [] I
 refine Ad 6 I b (An 7 [.l 3 (c.Nodes.length : Int)] I ⟨Ax, J⟩ (tW ?_))
 exact lf I2 ⟨(Do (by simp only [b, bz])), J⟩ [] I
 rintro s ob ⟨rfl, rfl⟩
 obtain rfl := h
 exact uC pr
theorem jH (a : Nw) (r : Bool) (h : Wb a = some r) : ACalls Aj 78 [.agg (Ab a)] [] (RB r) := by
 refine Ae Tryz.func78 I I I fun C hC => ?_
 unfold Wb at h
 refine Aa fun y1 O => tV (tX [] I (Bo (Ab a) 6 fun b => Af 1 I (tW ?_)))
 subst O
 refine Ah I (Ai (fun s ob => ∃ (A : Li) (f : Value), Wb.J1 a A = some r ∧ s = [(3, .v f)] ∧ ob = [O0 b [Ab a], U0 f A]) [(1, _)] J1 ?_ ?_)
 refine Bh [.o 1 0, .l 2 (a.Segments.length : Int)] I ⟨Ax, I, J⟩ (uA (B0 11 I fun P => uD (Bs 3 1) ?_))
 obtain ⟨ax, Q, R⟩ := Ac h
 refine Cu Q [(1, _), (11, _), (12, _)] J3 (fun (g : Nat) (i : Li) s ob => ∃ (c : Value), s = [(13, .V (g : Int)), (3, .v c)] ∧ ob = [O0 b [Ab a], U0 c i]) ⟨(.slice none 0 0), I2⟩ ⟨I, I, J⟩ ⟨[0, 1], I, by decide⟩ ?_ ?_
 rintro g j i ay s ob S H ⟨c, rfl, rfl⟩ h
 have U := Co H
 refine Ah I (Aa fun az W => Bp I U (tZ ?_))
 subst W
 refine uB (uA (uB (tV (An 2 [.x 0 g (Ak j)] I ⟨⟨I, Ag S⟩, J⟩ (tX [] I (uF W2 7 fun a0 => tX [2] I (A3 2 0 0 [Ak j] I (tW ?_))))))))
 obtain ⟨a1, X, h⟩ := Ac h
 refine tV (An 5 [.o 2 2, .o 4 2] I J2 (tX [] I (uG 1 (([j.From, j.To] : Li).map rI) (tX [1] I (C9 1 I X fun Y => Af 1 I (tW (tV (An 2 [.k 0 (g + 1 : Nat)] I ⟨A0 H P, J⟩ ?_))))))))
 cases io h
 exact tW (lg ⟨Y, I2⟩ [0, 1])
 rintro i s ob ⟨c, rfl, rfl⟩ he
 subst he
 have h := R
 have Z := Cp a.Segments.length
 exact Ah I (Aa fun a2 a3 => Br I Z (uE (lg ⟨i, c, h, I2⟩ [0, 1])))
 rintro s ob ⟨A, f, h, rfl, rfl⟩
 unfold Wb.J1 at h
 refine Ai (fun s ob => ∃ (B : Li) (n : Value), Wb.J2 a B = some r ∧ s = [(3, .v n)] ∧ ob = [O0 b [Ab a], U0 n B]) [(1, _)] J1 ?_ ?_
 refine Bh [.o 1 0, .l 2 (a.Ports.length : Int)] I ⟨Ax, I, J⟩ (uA (B0 26 I fun aa => ?_))
 obtain ⟨a4, ab, ac⟩ := Ac h
 refine Cu ab [(1, _), (26, _), (27, _)] J3 (fun (t : Nat) (u : Li) s ob => ∃ (d : Value), s = [(28, .V (t : Int)), (3, .v d)] ∧ ob = [O0 b [Ab a], U0 d u]) ⟨f, I2⟩ ⟨I, I, J⟩ ⟨[0, 1], I, by decide⟩ ?_ ?_
 rintro t D u a5 s ob ad K ⟨d, rfl, rfl⟩ h
 have ae := Co K
 refine Ah I (Aa fun a6 af => Bp I ae (tZ ?_))
 subst af
 refine uB (uA (uB (tV (An 2 [.x 0 t (Cc D)] I ⟨⟨I, Ag ad⟩, J⟩ (tX [] I (uF W6 3 fun a7 => tX [2] I (A3 2 0 0 [Cc D] I (tW ?_))))))))
 obtain ⟨a8, ag, h⟩ := Ac h
 refine tV (An 3 [.o 2 2] I J1 (tX [] I (uG 1 (([D.Node] : Li).map rI) (tX [1] I (C9 1 I ag fun ah => Af 1 I (tW (tV (An 2 [.k 0 (t + 1 : Nat)] I ⟨A0 K aa, J⟩ ?_))))))))
 cases io h
 exact tW (lg ⟨ah, I2⟩ [0, 1])
 rintro u s ob ⟨d, rfl, rfl⟩ he
 subst he
 have h := ac
 have ai := Cp a.Ports.length
 exact Ah I (Aa fun a9 ba => Br I ai (uE (lg ⟨u, d, h, I2⟩ [0, 1])))
 rintro s ob ⟨B, n, h, rfl, rfl⟩
 unfold Wb.J2 at h
 refine Ai (fun s ob => ∃ (E : Li) (F : Value), Wb.J3 a E = some r ∧ s = [(3, .v F)] ∧ ob = [O0 b [Ab a], U0 F E]) [(1, _)] J1 ?_ ?_
 refine Bh [.o 1 0, .l 2 (a.Stations.length : Int)] I ⟨Ax, I, J⟩ (uA (B0 39 I fun aj => ?_))
 obtain ⟨bb, ak, al⟩ := Ac h
 refine Cu ak [(1, _), (39, _), (40, _)] J3 (fun (w : Nat) (y : Li) s ob => ∃ (e : Value), s = [(41, .V (w : Int)), (3, .v e)] ∧ ob = [O0 b [Ab a], U0 e y]) ⟨n, I2⟩ ⟨I, I, J⟩ ⟨[0, 1], I, by decide⟩ ?_ ?_
 rintro w G y bc s ob am M ⟨e, rfl, rfl⟩ h
 have an := Co M
 refine Ah I (Aa fun bd ao => Bp I an (tZ ?_))
 subst ao
 refine uB (uA (uB (tV (An 2 [.x 0 w (Ba G)] I ⟨⟨I, Ag am⟩, J⟩ (tX [] I (uF W5 5 fun be => tX [2] I (A3 2 0 0 [Ba G] I (tW ?_))))))))
 obtain ⟨bf, aq, h⟩ := Ac h
 refine tV (An 3 [.o 2 2] I J1 (tX [] I (uG 1 (([G.Node] : Li).map rI) (tX [1] I (C9 1 I aq fun ar => Af 1 I (tW (tV (An 2 [.k 0 (w + 1 : Nat)] I ⟨A0 M aj, J⟩ ?_))))))))
 cases io h
 exact tW (lg ⟨ar, I2⟩ [0, 1])
 rintro y s ob ⟨e, rfl, rfl⟩ he
 subst he
 have h := al
 have au := Cp a.Stations.length
 exact Ah I (Aa fun bg bh => Br I au (uE (lg ⟨y, e, h, I2⟩ [0, 1])))
 rintro s ob ⟨E, F, h, rfl, rfl⟩
 refine uB ?_
 obtain ⟨bi, av, h⟩ := Ac h
 refine tV (Af 1 I (uH (uR I I) I (tX [] I (Ch I (.refl _) I I (.cons (.us 1 I) (.cons (.fn (.rest _) (.cons (.box 0 I (.rest _)) (.rest _))) (.rest _))) I (Jr _ (.fn 127 [] [.eptr (Ab a)]) I (fun x => some (Mx x a)) (fun x r h => by obtain I := oi h; exact fD x a _ I) _ av) dS (by rintro _ _ ⟨rfl, _⟩; rfl) ?_))))
 rintro _ ⟨_, rfl, -⟩
 refine Af 2 I (tW (uD g0 ?_))
 cases io h
 exact uC pr
theorem jG (a : Sg) (r : Bool) (h : Nt a = some r) : ACalls Aj 129 [.agg (Ak a)] [] (RB r) := by
 refine Ae Tryz.func129 I I I fun C hC => ?_
 unfold Nt at h
 refine Aa fun y1 H => tV (tX [] I (Bo (Ak a) 7 fun t => Af 1 I (tW ?_)))
 subst H
 refine Aa fun y3 K => Eb 27 ((a.From == a.To) || ((!(Dh a.Capacity 1 1000000)) || ((!(Dh a.Resist 0 1000)) || (!(Dh a.Wave 0 100000))))) ?_ ?_
 refine tV (An 6 [.o 1 0, .o 3 0] I J2 ?_)
 rcases bt ((a.From == a.To)) with d | d
 exact Ad 10 I d (Af 17 I (tW (jf (by simp only [d, bz]) I I I2)))
 refine Ad 10 I d (An 2 [.o 1 0] I J1 (Cf I I I (Cd (Ds a.Capacity 1 1000000 _ I) (Af 3 I ?_))))
 rcases bt ((!(Dh a.Capacity 1 1000000))) with f | f
 exact Ad 16 I f (Af 11 I (tW (jf (by simp only [d, f, bz]) I I I2)))
 refine Ad 16 I f (An 2 [.o 1 0] I J1 (Cf I I I (Cd (Ds a.Resist 0 1000 _ I) (Af 3 I ?_))))
 rcases bt ((!(Dh a.Resist 0 1000))) with i | i
 exact Ad 22 I i (Af 5 I (tW (jf (by simp only [d, f, i, bz]) I I I2)))
 exact Ad 22 I i (An 2 [.o 1 0] I J1 (Cf I I I (Cd (Ds a.Wave 0 100000 _ I) (Af 2 I (tW (jf (by simp only [d, f, i, bz]) I I I2))))))
 refine Ar h I ?_ ?_
 intro M h
 refine Ah I (uD g0 ?_)
 cases io h
 exact uC pr
 intro M h
 refine tZ ?_
 subst K
 refine Ai (fun s ob => ∃ (D : Unit), Nt.J1 a D = some r ∧ s = [] ∧ ob = [O5 t [Ak a]]) [(1, _)] J1 ?_ ?_
 refine Bh [.o 1 0, .l 2 (a.Points.length : Int)] I ⟨Ax, I, J⟩ (uA (B0 29 I fun N => ?_))
 obtain ⟨ah, O, E⟩ := Ac h
 refine Bx O [(1, _), (29, _), (30, _)] J3 (fun (j : Nat) (F : Unit) s ob => s = [(31, .V (j : Int))] ∧ ob = [O5 t [Ak a]]) ⟨I, I⟩ ⟨I, J⟩ ⟨[0], I, by decide⟩ ?_ ?_
 rintro j b F P s ob Q G ⟨rfl, rfl⟩ h R
 unfold Nt.B3 at h
 have S := Co G
 refine Ah I (Aa fun ai U => Bp I S (tZ ?_))
 subst U
 refine uB (uA (Aa fun aj W => tV (An 3 [.x 1 j (Bj b)] I ⟨⟨I, Ag Q⟩, J⟩ (tX [] I (uF W1 3 fun ak => Af 1 I (tX [1] I (A3 1 0 0 [Bj b] I (tW ?_))))))))
 subst W
 refine Ai (fun s ob => ∃ (u : Bool), Nt.J4 u = some P ∧ s = [(61, .v (.bool u))] ∧ ob = [O5 t [Ak a]]) [(1, _), (29, _), (30, _), (31, _)] J4 ?_ ?_
 rcases bt ((!(Dh b.Height (-500) 5000))) with e | e
 have h := Bu e h
 refine Bz (pd 26 0 [2, 7]) [1] [_] I (Ca 2 [.o 1 0] I J1 (Dq I (Ds b.Height (-500) 5000 _ I) (Bf 2 I (A5 40 I e (Bf 9 I (Be I I I I dS (Be I I I I dS (Be I I I I dS (Be I I I I dS (Be I I I I dS (Be I I I I dS (Be I I I I dS ?_))))))))))))
 exact Be I I I I dS (Be I I I I dS (Be I I I I dS (Bf 2 I (Ap (tW (lg ⟨true, h, I2⟩ [0]))))))
 have h := Bv e h
 rcases bt ((!(Dh b.Limit 0 100000000))) with g | g
 have h := Bu g h
 refine Bz (pd 26 0 [2, 7]) [1] [_] I (Ca 2 [.o 1 0] I J1 (Dq I (Ds b.Height (-500) 5000 _ I) (Bf 2 I (A5 40 I e (Ca 2 [.o 1 0] I J1 (Ie I (Ds b.Limit 0 100000000 _ I) (Bf 3 I (A5 46 I g (Bf 3 I (Be I I I I dS (Be I I I I dS (Be I I I I dS ?_))))))))))))
 exact Be I I I I dS (Be I I I I dS (Be I I I I dS (Be I I I I dS (Be I I I I dS (Be I I I I dS (Be I I I I dS (Bf 2 I (Ap (tW (lg ⟨true, h, I2⟩ [0]))))))))))
 have h := Bv g h
 rcases bt (decide ((j : Int) > 0)) with n | n
 have h := Bu n h
 obtain ⟨w, ⟨X, Y⟩, h⟩ := A6 h
 refine Bz (pd 26 0 [2, 7]) [1, 0] [_, _] I (Ca 2 [.o 1 0] I J1 (Dq I (Ds b.Height (-500) 5000 _ I) (Bf 2 I (A5 40 I e (Ca 2 [.o 1 0] I J1 (Ie I (Ds b.Limit 0 100000000 _ I) (Bf 3 I (A5 46 I g (Bf 3 I (A5 49 I n (Ca 12 [.o 1 0, .o 3 1, .x 6 w.1 (Bj w.2)] I ⟨⟨X, Ag Y⟩, I, I, J⟩ (Ap ?_))))))))))))
 exact tW (lg ⟨decide (b.At ≤ w.2.At), h, I2⟩ [0])
 have h := Bv n h
 refine Bz (pd 26 0 [2, 7]) [1] [_] I (Ca 2 [.o 1 0] I J1 (Dq I (Ds b.Height (-500) 5000 _ I) (Bf 2 I (A5 40 I e (Ca 2 [.o 1 0] I J1 (Ie I (Ds b.Limit 0 100000000 _ I) (Bf 3 I (A5 46 I g (Bf 3 I (A5 49 I n (Bf 12 I (Ap ?_))))))))))))
 exact tW (lg ⟨false, h, I2⟩ [0])
 rintro s ob ⟨u, h, rfl, rfl⟩
 refine Ar h I ?_ ?_
 intro Z h
 refine Ah I ?_
 obtain rfl := R _ (oi h).symm
 have h := E
 have h := C2 h
 refine uD g0 ?_
 cases io h
 exact uC pr
 intro Z h
 refine tZ (tV (An 2 [.k 0 (j + 1 : Nat)] I ⟨A0 G N, J⟩ ?_))
 cases io h
 exact tW ⟨_, _, _, I, I2, J4, [0], I, by decide⟩
 rintro F s ob ⟨rfl, rfl⟩ he
 subst he
 have h := C8 E
 have aa := Cp a.Points.length
 exact Ah I (Aa fun al am => Br I aa (uE (lg ⟨(), h, I2⟩ [0])))
 rintro s ob ⟨D, h, rfl, rfl⟩
 unfold Nt.J1 at h
 refine Ai (fun s ob => ∃ (y : Bool), Nt.J2 y = some r ∧ s = [(2, .v (.bool y))] ∧ ob = []) [] J ?_ ?_
 obtain ⟨A, ⟨ab, ac⟩, h⟩ := A6 h
 refine Bz (pd 21 0 []) [0] [_] I (Ca 7 [.o 1 0, .x 2 A.1 (Bj A.2)] I ⟨⟨ab, Ag ac⟩, I, J⟩ ?_)
 rcases bt ((A.2.At == 0)) with p | p
 have h := Bu p h
 obtain ⟨B, ⟨ad, ae⟩, h⟩ := A6 h
 exact A5 69 I p (Ca 14 [.o 1 0, .o 3 0, .l 4 (a.Points.length : Int), .x 6 B.1 (Bj B.2), .o 10 0] I ⟨I, ⟨ad, Ag ae⟩, Ax, I, I, J⟩ (Ap (tW (lg ⟨(B.2.At == a.Capacity), h, I2⟩ []))))
 have h := Bv p h
 exact A5 69 I p (Bf 14 I (Ap (tW (lg ⟨false, h, I2⟩ []))))
 rintro s ob ⟨y, h, rfl, rfl⟩
 unfold Nt.J2 at h
 cases io h
 exact uC pr
theorem eX (a : Sg) (r : Bool) (h : Vf a = some r) : ACalls Aj 128 [.agg (Ak a)] [] (RB r) := by
 refine Ae Tryz.func128 I I I fun C hC => ?_
 refine uB (tV (tX [] I (Bo (Ak a) 7 fun d => Af 1 I (tW (uB ?_)))))
 obtain ⟨e, b, h⟩ := Ac h
 refine tV (An 1 [.o 0 0] I J1 (Cd (jG _ _ b) (Af 2 I (tW (uD g0 ?_)))))
 cases io h
 exact uC pr
theorem fG (a : Port) (r : Bool) (h : My a = r) : ACalls Aj 131 [.agg (Cc a)] [] (RB r) := by
 refine Ae Tryz.func131 I I I fun C hC => ?_
 unfold My at h
 refine uB (tV (tX [] I (Bo (Cc a) 3 fun b => Af 1 I (tW (uB (tV (An 2 [.o 1 0] I J1 (Cd (Ds a.Pressure 0 100000000 _ I) (Af 2 I (tW (uD g0 ?_)))))))))))
 obtain rfl := h
 exact uC pr
theorem iW (a : Sn) (r : Bool) (h : Ns a = r) : ACalls Aj 134 [.agg (Ba a)] [] (RB r) := by
 refine Ae Tryz.func134 I I I fun C hC => ?_
 unfold Ns at h
 refine Aa fun f e => tV (tX [] I (Bo (Ba a) 5 fun g => Af 1 I (tW ?_)))
 subst e
 refine Ai (fun s ob => s = [(2, .v (.bool ((!(Dh a.Head 0 100000000)) || ((!(Dh a.Fall 0 100000)) || (!(Dh a.Suction 0 100000000))))))] ∧ ob = []) [] J ?_ ?_
 refine tV (An 2 [.o 1 0] I J1 (Cd (Ds a.Head 0 100000000 _ I) (Af 2 I ?_)))
 rcases bt ((!(Dh a.Head 0 100000000))) with b | b
 refine Ad 7 I b (Af 12 I (tW ?_))
 exact lf I2 ⟨(Do (by simp only [b, bz])), J⟩ [] I
 refine Ad 7 I b (An 2 [.o 1 0] I J1 (Cf I I I (Cd (Ds a.Fall 0 100000 _ I) (Af 3 I ?_))))
 rcases bt ((!(Dh a.Fall 0 100000))) with d | d
 refine Ad 13 I d (Af 6 I (tW ?_))
 exact lf I2 ⟨(Do (by simp only [b, d, bz])), J⟩ [] I
 refine Ad 13 I d (An 2 [.o 1 0] I J1 (Cf I I I (Cd (Ds a.Suction 0 100000000 _ I) (Af 3 I (tW ?_)))))
 exact lf I2 ⟨(Do (by simp only [b, d, bz])), J⟩ [] I
 rintro s ob ⟨rfl, rfl⟩
 obtain rfl := h
 exact uC pr
theorem jC (a : Nw) (r : Bool) (h : Zz a = some r) : ACalls Aj 79 [.agg (Ab a)] [] (RB r) := by
 refine Ae Tryz.func79 I I I fun C hC => ?_
 refine Aa fun p d => tV (tX [] I (Bo (Ab a) 6 fun t => Af 1 I (tW ?_)))
 subst d
 refine Aa fun u e => uB ?_
 obtain ⟨w, f, h⟩ := Ac h
 refine tV (An 2 [.o 1 0] I J1 (Cd (Ty _ (.v (.func (.func 128) #[] #[])) I (fun x => Vf x) (fun x r h => eX x r h) _ f) (tW (Ar h I ?_ ?_))))
 intro g h
 refine Ah I (uD g0 ?_)
 cases io h
 exact uC pr
 intro g h
 refine tZ ?_
 subst e
 refine Aa fun y i => uB ?_
 obtain ⟨A, j, h⟩ := Ac h
 refine tV (An 2 [.o 1 0] I J1 (Cd (jB _ (.v (.func (.func 131) #[] #[])) I (fun x => some (My x)) (fun x r h => by obtain I := oi h; exact fG x _ I) _ j) (tW (Ar h I ?_ ?_))))
 intro k h
 refine Ah I (uD g0 ?_)
 cases io h
 exact uC pr
 intro k h
 refine tZ ?_
 subst i
 refine uB (uB ?_)
 obtain ⟨B, l, h⟩ := Ac h
 refine tV (An 2 [.o 1 0] I J1 (Cd (fP _ (.v (.func (.func 134) #[] #[])) I (fun x => some (Ns x)) (fun x r h => by obtain I := oi h; exact iW x _ I) _ l) (tW (Ar h I ?_ ?_))))
 intro n h
 refine Ah I (uD g0 ?_)
 cases io h
 exact uC pr
 intro n h
 refine tZ (Ai (fun s ob => s = [(2, .v (.bool ((Dh a.Vapour (-100000) 100000000) && (Dh a.Settle 0 100))))] ∧ ob = []) [] J ?_ ?_)
 refine tV (An 2 [.o 1 0] I J1 (Cd (Ds a.Vapour (-100000) 100000000 _ I) (Af 1 I ?_)))
 rcases bt ((Dh a.Vapour (-100000) 100000000)) with b | b
 refine Ad 15 I b (An 2 [.o 1 0] I J1 (Cf I I I (Cd (Ds a.Settle 0 100 _ I) (Af 2 I (tW ?_)))))
 exact lf I2 ⟨(Do (by simp only [b, bz])), J⟩ [] I
 refine Ad 15 I b (Af 5 I (tW ?_))
 exact lf I2 ⟨(Do (by simp only [b, bz])), J⟩ [] I
 rintro s ob ⟨rfl, rfl⟩
 cases io h
 exact uC pr
theorem gF (a : Bt) (r : Bool) (h : Vs a = some r) : ACalls Aj 75 [.v (.string a)] [] (RB r) := by
 refine Ae Tryz.func75 I I I fun C hC => ?_
 refine Ah I (uB ?_)
 obtain ⟨d, b, h⟩ := Ac h
 refine tV (Af 1 I (Cd (Om _ _ b) (Af 2 I (tW ?_))))
 cases io h
 exact uC pr
theorem Jy (a : Nw) (r : Int) (h : Gs a = some r) : ACalls Aj 41 [.agg (Ab a)] [] (RV (.V r)) := by
 refine Ae Tryz.func41 I I I fun C hC => ?_
 refine Aa fun Y i => tV (tX [] I (Bo (Ab a) 6 fun d => Af 1 I (tW ?_)))
 subst i
 refine Aa fun Z j => uB ?_
 obtain ⟨r4, l, h⟩ := Ac h
 refine tV (An 1 [.o 0 0] I J1 (Cd (gT _ _ l) (Af 1 I (tW (Ar h I ?_ ?_)))))
 intro n h
 refine Ah I (uD g0 ?_)
 cases io h
 exact uC pr
 intro n h
 refine tZ ?_
 subst j
 refine Ai (fun s ob => ∃ (e : Unit), Gs.J1 a e = some r ∧ s = [] ∧ ob = [O0 d [Ab a]]) [(1, _)] J1 ?_ ?_
 refine Aa fun ab t => ?_
 obtain ⟨ac, u, h⟩ := Ac h
 refine tV (An 1 [.o 0 0] I J1 (tX [] I (Ck I I I (Ut _ _ u) dS ?_)))
 rintro _ _ ⟨rfl, rfl⟩
 refine Af 1 I (tW ?_)
 subst t
 refine uA ?_
 have w : (4 : Nat) ≤ 9223372036854775806 := by decide
 obtain ⟨ad, y, f⟩ := Ac h
 refine Fi y [(1, _), (9, _)] J2 (fun (b : Nat) (g : Unit) s ob => s = [(10, .V (b : Int))] ∧ ob = [O0 d [Ab a]]) ⟨I, I⟩ ⟨I, J⟩ ⟨[0], I, by decide⟩ ?_ ?_
 rintro b g ae s ob A ⟨rfl, rfl⟩ h B
 have D : decide ((b : Int) < 4) = true := decide_eq_true (by omega)
 refine Ah I (Aa fun af E => Bp I D (tZ ?_))
 subst E
 refine uB (uA (uB ?_))
 obtain ⟨F, ⟨G, H⟩, h⟩ := A6 h
 refine tV (uH (G6 (m := F.1) I I I I I I I G H (hlen := Arr.h _)) I (Af 1 I (tW (uB ?_))))
 obtain ⟨ag, K, h⟩ := Ac h
 refine tV (Af 1 I (Cd (gY _ (.v (.func (.func 75) #[] #[])) I (fun x => Vs x) (fun x r h => gF x r h) _ K) (tW (Ar h I ?_ ?_))))
 intro M h
 refine Ah I ?_
 obtain rfl := B _ (oi h).symm
 have h := f
 have h := C2 h
 refine uD g0 ?_
 cases io h
 exact uC pr
 intro M h
 refine tZ (tV (An 2 [.k 0 (b + 1 : Nat)] I ⟨A0 A w, J⟩ ?_))
 cases io h
 exact tW ⟨_, _, _, I, I2, J3, [0], I, by decide⟩
 rintro g s ob ⟨rfl, rfl⟩ he
 subst he
 have h := C8 f
 have N : decide (((4 : Nat) : Int) < 4) = false := by simp
 exact Ah I (Aa fun ah ai => Br I N (uE (lg ⟨(), h, I2⟩ [0])))
 rintro s ob ⟨e, h, rfl, rfl⟩
 refine uB (uA (Aa fun aj O => ?_))
 obtain ⟨ak, P, h⟩ := Ac h
 refine tV (An 1 [.o 0 0] I J1 (Cd (fC _ _ P) (Af 1 I (tW ?_))))
 subst O
 refine Ar h I ?_ ?_
 intro Q h
 refine Ah I (uD g0 ?_)
 cases io h
 exact uC pr
 intro Q h
 refine Aa fun al R => ?_
 obtain ⟨am, S, h⟩ := Ac h
 refine tV (An 1 [.o 0 0] I J1 (Cd (jH _ _ S) (Af 2 I (tW ?_))))
 subst R
 refine Ar h I ?_ ?_
 intro U h
 refine Ah I (uD g0 ?_)
 cases io h
 exact uC pr
 intro U h
 refine uB ?_
 obtain ⟨an, W, h⟩ := Ac h
 refine tV (An 1 [.o 0 0] I J1 (Cd (jC _ _ W) (Af 2 I (tW (Ar h I ?_ ?_)))))
 intro X h
 refine Ah I (uD g0 ?_)
 cases io h
 exact uC pr
 intro X h
 refine tZ (Ah I (uD g0 ?_))
 cases io h
 exact uC pr
theorem T6 (d : Nat) (a : flow_streams) (j : Int) (n : Int) (p : Int) (r : flow_streams) (h : M5 a j n p = some r) : ACalls Aj 81 [.v (.pointer (some ⟨d, 0, none⟩)), .V j, .V n, .V p] [Zf d [a.come.l.map cI ++ (a.leave.l.map cI ++ [])]] (Ea 1 fun x os new => x = .tup [] ∧ os = [Zf d [r.come.l.map cI ++ (r.leave.l.map cI ++ [])]] ∧ new = []) := by
 refine Ae Tryz.func81 I I I fun C hC => ?_
 unfold M5 at h
 refine Ai (fun s ob => ∃ (b : Int × Int × Int), M5.J1 a b = some r ∧ s = [(1, .V b.1), (2, .V b.2.1), (3, .V b.2.2)] ∧ ob = [Zf d [a.come.l.map cI ++ (a.leave.l.map cI ++ [])]]) [(0, _)] J1 ?_ ?_
 refine Ah I (Ar h I ?_ ?_)
 intro A h
 exact Sq I (lg ⟨(n, j, wr (0 - p)), h, I2⟩ [0])
 intro A h
 exact tZ (lg ⟨(j, n, p), h, I2⟩ [0])
 rintro s ob ⟨b, h, rfl, rfl⟩
 unfold M5.J1 at h
 refine Ai (fun s ob => ∃ (f : Arr Int 24), M5.J2 a b f = some r ∧ s = [] ∧ ob = [Zf d [a.come.l.map cI ++ (f.l.map cI ++ [])]]) [(0, _), (2, _), (3, _)] J3 ?_ ?_
 refine Ah I (Ar h I ?_ ?_)
 intro B h
 obtain ⟨e, ⟨u, g⟩, h⟩ := A6 h
 exact Bz (sl 11 0 (.drop 11 .nil)) [0] [_] I (Bf 4 I (uM I (Dv (m := e.1) I I I I I I u (Ep g)) I (AP.o I (C4 0 0 (24 + e.1) I I I I (by omega) (y := .V e.2) (lK (k := 24) (by simp [Arr.h, Bk]) (Xy g))) I (Bf 4 I (uM I (Dv (m := e.1) I I I I I I u (Ep g)) I (uP [0] I I I (uN 0 0 (24 + e.1) (es' := [a.come.l.map cI ++ ((a.leave.set e.1 (wr (e.2 + b.2.2))).l.map cI ++ [])]) I I I I (by omega) I I I (Lw (Ep g) (by simp [Arr.h, Bk])) I (congrArg (fun r => [r]) (Wt (k := 24) (by simp [Arr.h, Bk]) (Ia (Km g)))) (Ap (tW (lg ⟨(a.leave.set e.1 (wr (e.2 + b.2.2))), h, I2⟩ [0]))))))))))
 intro B h
 exact tZ (lg ⟨a.leave, h, I2⟩ [0])
 rintro s ob ⟨f, h, rfl, rfl⟩
 refine Ah I (Ar h I ?_ ?_)
 intro D h
 obtain ⟨c, ⟨w, i⟩, h⟩ := A6 h
 refine Bz (sl 11 0 (.drop 11 .nil)) [0] [_] I (Bf 4 I (uM I (Dv (m := c.1) I I I I I I w (Ep i)) I (AP.o I (C4 0 0 (0 + c.1) I I I I (by omega) (y := .V c.2) (by rw [Nat.zero_add]; exact Xy i)) I (Bf 4 I (uM I (Dv (m := c.1) I I I I I I w (Ep i)) I (uP [0] I I I (uN 0 0 (0 + c.1) (es' := [(a.come.set c.1 (wr (c.2 + b.2.2))).l.map cI ++ (f.l.map cI ++ [])]) I I I I (by omega) I I I (Lw (Ep i) (by simp [Arr.h, Bk])) I (congrArg (fun r => [r]) (by rw [Nat.zero_add]; exact Ia (Km i))) (Ap ?_))))))))
 cases io h
 exact tW ⟨.inl I, [], [Zf d [(a.come.set c.1 (wr (c.2 + b.2.2))).l.map cI ++ (f.l.map cI ++ [])]], J, Cz I (Cm), ⟨[Zf d [(a.come.set c.1 (wr (c.2 + b.2.2))).l.map cI ++ (f.l.map cI ++ [])]], [], I5⟩⟩
 intro D h
 cases io h
 refine tZ ?_
 exact ⟨.inl I, [], [Zf d [a.come.l.map cI ++ (f.l.map cI ++ [])]], J, Cz I (Cm), ⟨[Zf d [a.come.l.map cI ++ (f.l.map cI ++ [])]], [], I5⟩⟩
theorem eT (a : Nw) (c : Plan) (r : flow_streams) (h : Pv a c = some r) : ACalls Aj 45 [.agg (Ab a), .agg (Am c)] [] (RV (.agg (Bk r))) := by
 refine Ae Tryz.func45 I I I fun C hC => ?_
 unfold Pv at h
 refine Aa fun y1 G => tV (tX [] I (Bo (Ab a) 6 fun u => tX [] I (Bo (Am c) 3 fun t => tX [] I (uF ((Arr.rep 24 (0 : Int)).l.map cI ++ ((Arr.rep 24 (0 : Int)).l.map cI ++ [])) 48 fun i => tW ?_))))
 subst G
 refine Aa fun y5 H => tV (tX [] I (uF ((Arr.rep 24 (0 : Int)).l.map cI ++ ((Arr.rep 24 (0 : Int)).l.map cI ++ [])) 48 fun e => tW ?_))
 subst H
 refine Ai (fun s ob => ∃ (j : (Arr Int 24) × (Arr Int 24)), Pv.J1 a c j = some r ∧ s = [] ∧ ob = [O0 u [Ab a], O1 t [Am c], Zf i [(Arr.rep 24 (0 : Int)).l.map cI ++ ((Arr.rep 24 (0 : Int)).l.map cI ++ [])], Zf e [j.1.l.map cI ++ (j.2.l.map cI ++ [])]]) [(2, _), (3, _), (4, _), (5, _)] J4 ?_ ?_
 refine Bh [.o 1 0, .l 2 (a.Segments.length : Int)] I ⟨Ax, I, J⟩ (uA (B0 11 I fun K => ?_))
 obtain ⟨ak, M, O⟩ := Ac h
 refine Cu M [(2, _), (3, _), (4, _), (5, _), (11, _), (12, _)] J6 (fun (n : Nat) (f : (Arr Int 24) × (Arr Int 24)) s ob => s = [(13, .V (n : Int))] ∧ ob = [O0 u [Ab a], O1 t [Am c], Zf i [(Arr.rep 24 (0 : Int)).l.map cI ++ ((Arr.rep 24 (0 : Int)).l.map cI ++ [])], Zf e [f.1.l.map cI ++ (f.2.l.map cI ++ [])]]) ⟨I, I⟩ ⟨I, J⟩ ⟨[0, 1, 2, 3], I, by decide⟩ ?_ ?_
 rintro n w f al s ob P A ⟨rfl, rfl⟩ h
 have Q := Co A
 refine Ah I (Aa fun am R => Bp I Q (tZ ?_))
 subst R
 refine uB (uA (uB (tV (An 3 [.x 1 n (Ak w)] I ⟨⟨I, Ag P⟩, J⟩ (tX [] I (uF W2 7 fun an => Af 1 I (tX [4] I (A3 4 0 0 [Ak w] I (tW ?_)))))))))
 obtain ⟨B, ⟨S, U⟩, h⟩ := A6 h
 obtain ⟨ao, W, h⟩ := Ac h
 refine Bz (pd 10 0 [9]) [4, 1] [_, _] I (Ca 9 [.o 1 0, .o 3 0, .o 5 1, .x 7 B.1 (rI B.2)] I ⟨⟨S, Ag U⟩, I, I, I, J⟩ (tY [3] I I I (A1 [3] (T6 e _ _ _ _ _ W) ?_)))
 refine Ap (tW (tV (An 2 [.k 0 (n + 1 : Nat)] I ⟨A0 A K, J⟩ ?_)))
 cases io h
 exact tW (lg I2 [0, 1, 2, 3])
 rintro f s ob ⟨rfl, rfl⟩ he
 subst he
 have h := O
 have X := Cp a.Segments.length
 exact Ah I (Aa fun ap aq => Br I X (uE (lg ⟨(f.1, f.2), h, I2⟩ [0, 1, 2, 3])))
 rintro s ob ⟨j, h, rfl, rfl⟩
 unfold Pv.J1 at h
 refine Ai (fun s ob => ∃ (b : (Arr Int 24) × (Arr Int 24)), Pv.J2 b = some r ∧ s = [] ∧ ob = [Zf i [(Arr.rep 24 (0 : Int)).l.map cI ++ ((Arr.rep 24 (0 : Int)).l.map cI ++ [])], Zf e [b.1.l.map cI ++ (b.2.l.map cI ++ [])]]) [(4, _), (5, _)] J2 ?_ ?_
 refine Bh [.o 1 0, .l 2 (a.Ports.length : Int)] I ⟨Ax, I, J⟩ (uA (B0 30 I fun Y => ?_))
 obtain ⟨ar, Z, aa⟩ := Ac h
 refine Cu Z [(3, _), (4, _), (5, _), (30, _), (31, _)] J5 (fun (p : Nat) (g : (Arr Int 24) × (Arr Int 24)) s ob => s = [(32, .V (p : Int))] ∧ ob = [O1 t [Am c], Zf i [(Arr.rep 24 (0 : Int)).l.map cI ++ ((Arr.rep 24 (0 : Int)).l.map cI ++ [])], Zf e [g.1.l.map cI ++ (g.2.l.map cI ++ [])]]) ⟨I, I⟩ ⟨I, J⟩ ⟨[1, 2, 3], I, by decide⟩ ?_ ?_
 rintro p D g au s ob ab E ⟨rfl, rfl⟩ h
 have ac := Co E
 refine Ah I (Aa fun av ad => Bp I ac (tZ ?_))
 subst ad
 refine uB (uA (uB (tV (An 3 [.x 1 p (Cc D)] I ⟨⟨I, Ag ab⟩, J⟩ (tX [] I (uF W6 3 fun aw => Af 1 I (tX [3] I (A3 3 0 0 [Cc D] I (tW ?_)))))))))
 obtain ⟨F, ⟨ae, af⟩, h⟩ := A6 h
 obtain ⟨ax, ag, h⟩ := Ac h
 refine Bz (pd 8 0 [7]) [3, 0] [_, _] I (Ca 7 [.o 1 0, .o 3 1, .x 5 F.1 (rI F.2)] I ⟨⟨ae, Ag af⟩, I, I, J⟩ (tY [2] I I I (A1 [2] (T6 e _ _ _ _ _ ag) ?_)))
 refine Ap (tW (tV (An 2 [.k 0 (p + 1 : Nat)] I ⟨A0 E Y, J⟩ ?_)))
 cases io h
 exact tW (lg I2 [0, 1, 2])
 rintro g s ob ⟨rfl, rfl⟩ he
 subst he
 have h := aa
 have ah := Cp a.Ports.length
 exact Ah I (Aa fun ay az => Br I ah (uE (lg ⟨(g.1, g.2), h, I2⟩ [1, 2])))
 rintro s ob ⟨b, h, rfl, rfl⟩
 unfold Pv.J2 at h
 refine uB (tV (uJ (C4 1 0 0 I I I I I (y := .agg (b.1.l.map cI ++ (b.2.l.map cI ++ []))) (L8 I (by simp [Arr.h, Bk]))) I (tX [0] I (uN 0 0 0 (es' := [b.1.l.map cI ++ (b.2.l.map cI ++ [])]) I I I I I I I (by simp [Arr.h, Bk]) (by simp [Arr.h, Bk]) I (congrArg (fun r => [r]) (Iw (by simp [Arr.h, Bk]))) (tW (Cv [0] I ?_))))))
 cases io h
 exact uC ⟨.inr I, [_], [], ⟨⟨0, _, _, _, _, _, _, _, I, I, I, I, (L8 I (by simp [Arr.h, Bk]))⟩, J⟩, Cm, I2⟩
theorem iS (a : Int) (r : Bool) (h : Nr a = r) : ACalls Aj 44 [.V a] [] (RB r) := by
 refine Ae Tryz.func44 I I I fun C hC => ?_
 unfold Nr at h
 refine Ah I (uB (tV (Af 1 I (Cd (Ud a 1000 _ I) (Af 2 I (tW ?_))))))
 obtain rfl := h
 exact uC pr
theorem Jw (e : Nw) (f : Plan) (r : Int) (h : Ha e f = some r) : ACalls Aj 24 [.agg (Ab e), .agg (Am f)] [] (RV (.V r)) := by
 refine Ae Tryz.func24 I I I fun C hC => ?_
 refine Aa fun y1 G => tV (tX [] I (Bo (Ab e) 6 fun w => tX [] I (Bo (Am f) 3 fun A => Af 1 I (tW ?_))))
 subst G
 refine Aa fun y4 H => uB ?_
 obtain ⟨r5, K, h⟩ := Ac h
 refine tV (An 1 [.o 0 0] I J1 (Cd (Jy _ _ K) (Af 1 I (tW (Ah I (Ar h I ?_ ?_))))))
 intro M h
 refine Ah I (uD g0 ?_)
 cases io h
 exact uC pr
 intro M h
 refine tZ ?_
 subst H
 refine Aa fun y8 O => Eb 38 (((f.Rates.length : Int) != (e.Segments.length : Int)) || (((f.Ports.length : Int) != (e.Ports.length : Int)) || ((f.Pumps.length : Int) != (e.Stations.length : Int)))) ?_ ?_
 refine tV (An 8 [.o 1 1, .l 2 (f.Rates.length : Int), .o 4 0, .l 5 (e.Segments.length : Int)] I ⟨Ax, I, Ax, I, J⟩ ?_)
 rcases bt (((f.Rates.length : Int) != (e.Segments.length : Int))) with g | g
 exact Ad 21 I g (Af 17 I (tW (jf (by simp only [g, bz]) I I I2)))
 refine Ad 21 I g (An 9 [.o 1 1, .l 2 (f.Ports.length : Int), .o 4 0, .l 5 (e.Ports.length : Int)] I ⟨Ax, I, Ax, I, J⟩ ?_)
 rcases bt (((f.Ports.length : Int) != (e.Ports.length : Int))) with j | j
 exact Ad 30 I j (Af 8 I (tW (jf (by simp only [g, j, bz]) I I I2)))
 exact Ad 30 I j (An 8 [.o 1 1, .l 2 (f.Pumps.length : Int), .o 4 0, .l 5 (e.Stations.length : Int)] I ⟨Ax, I, Ax, I, J⟩ (tW (jf (by simp only [g, j, bz]) I I I2)))
 refine Ar h I ?_ ?_
 intro P h
 refine Ah I (uD g0 ?_)
 cases io h
 exact uC pr
 intro P h
 refine tZ ?_
 subst O
 refine Ai (fun s ob => ∃ (B : Unit), Ha.J1 e f B = some r ∧ s = [] ∧ ob = [O0 w [Ab e], O1 A [Am f]]) [(2, _), (3, _)] J2 ?_ ?_
 refine Bh [.o 1 0, .l 2 (e.Segments.length : Int)] I ⟨Ax, I, J⟩ (uA (B0 40 I fun Q => ?_))
 obtain ⟨ap, R, D⟩ := Ac h
 refine Bx R [(2, _), (3, _), (40, _), (41, _)] J4 (fun (n : Nat) (E : Unit) s ob => s = [(42, .V (n : Int))] ∧ ob = [O0 w [Ab e], O1 A [Am f]]) ⟨I, I⟩ ⟨I, J⟩ ⟨[0, 1], I, by decide⟩ ?_ ?_
 rintro n t E aq s ob S F ⟨rfl, rfl⟩ h U
 have W := Co F
 refine Ah I (Aa fun ar X => Bp I W (tZ ?_))
 subst X
 refine uB (uA (Aa fun au Y => tV (An 3 [.x 1 n (Ak t)] I ⟨⟨I, Ag S⟩, J⟩ (tX [] I (uF W2 7 fun av => Af 1 I (tX [2] I (A3 2 0 0 [Ak t] I (tW ?_))))))))
 subst Y
 refine uB ?_
 obtain ⟨u, ⟨Z, aa⟩, h⟩ := A6 h
 refine Bz (pd 10 0 [8]) [1, 2] [_, _] I (Ca 8 [.o 1 0, .x 3 u.1 (rI u.2), .o 6 1] I ⟨I, ⟨Z, Ag aa⟩, I, J⟩ (Dq I (Ud u.2 (min 1000 t.Capacity) _ I) (Bf 1 I (Ap (tW (Ar h I ?_ ?_))))))
 intro ab h
 refine Ah I ?_
 obtain rfl := U _ (oi h).symm
 have h := D
 have h := C2 h
 refine uD g0 ?_
 cases io h
 exact uC pr
 intro ab h
 refine tZ (tV (An 2 [.k 0 (n + 1 : Nat)] I ⟨A0 F Q, J⟩ ?_))
 cases io h
 exact tW ⟨_, _, _, I, I2, J5, [0, 1], I, by decide⟩
 rintro E s ob ⟨rfl, rfl⟩ he
 subst he
 have h := C8 D
 have ac := Cp e.Segments.length
 exact Ah I (Aa fun aw ax => Br I ac (uE (lg ⟨(), h, I2⟩ [0, 1])))
 rintro s ob ⟨B, h, rfl, rfl⟩
 refine Aa fun ay ad => uB ?_
 obtain ⟨az, ae, h⟩ := Ac h
 refine tV (An 2 [.o 1 1] I J1 (Cd (Jr _ (.v (.func (.func 44) #[] #[])) I (fun x => some (Nr x)) (fun x r h => by obtain I := oi h; exact iS x _ I) _ ae) (tW (Ar h I ?_ ?_))))
 intro af h
 refine Ah I (uD g0 ?_)
 cases io h
 exact uC pr
 intro af h
 refine tZ ?_
 subst ad
 refine Aa fun a0 ag => uB ?_
 obtain ⟨i, ah, h⟩ := Ac h
 refine tV (An 2 [.o 0 0, .o 1 1] I J2 (tX [] I (Ck I I I (eT _ _ _ ah) dS ?_)))
 rintro _ _ ⟨rfl, rfl⟩
 refine tX [] I (uF ((Arr.rep 24 (0 : Int)).l.map cI ++ ((Arr.rep 24 (0 : Int)).l.map cI ++ [])) 48 fun a1 => tX [2] I (uN 2 0 0 (es' := [i.come.l.map cI ++ (i.leave.l.map cI ++ [])]) I I I I I I I (by simp [Arr.h, Bk]) (by simp [Arr.h, Bk]) I (congrArg (fun r => [r]) (Iw (by simp [Arr.h, Bk]))) (tW (uB (tV (Af 1 I (uJ (C4 2 0 0 I I I I I (y := .agg (i.come.l.map cI)) (Td I (by simp [Arr.h, Bk]))) I (Af 1 I (uJ (C4 2 0 24 I I I I I (y := .agg (i.leave.l.map cI)) (cV (k := 24) I I (by simp [Arr.h, Bk]) (Td I (by simp [Arr.h, Bk])))) I (uH (mV (a := i.come) (b := i.leave) I I I I I aP I I I) I (tW (Ar h I ?_ ?_))))))))))))
 intro ai h
 refine Ah I (uD g0 ?_)
 cases io h
 exact uC pr
 intro ai h
 refine tZ ?_
 subst ag
 refine uB (uB ?_)
 obtain ⟨a2, aj, h⟩ := Ac h
 refine Bz (.still 0 (.still 1 (sl 3 4 (.act 2 (.act 3 (.still 7 .nil)))))) [0, 1] [_, _] I (Ca 5 [.o 0 0, .o 1 1, .o 3 0, .l 4 (e.Nodes.length : Int)] I ⟨Ax, I, I, I, J⟩ (tY [] I I I (Ck I I I (T8 _ _ _ aj) dS ?_)))
 rintro _ _ ⟨a3, rfl, rfl⟩
 refine tY [] I I I (Ce (C0 3 I I I I) dS (Bf 1 I (Ap (tW (Ar h I ?_ ?_)))))
 intro ak h
 refine Ah I (uD g0 ?_)
 cases io h
 exact uC pr
 intro ak h
 refine tZ (Ah I (uD g0 ?_))
 cases io h
 exact uC pr
theorem fN (a : Sg) (r : Int) (h : Vn a = some r) : ACalls Aj 168 [.agg (Ak a)] [] (RV (.V r)) := by
 refine Ae Tryz.func168 I I I fun C hC => ?_
 refine Aa fun k b => tV (tX [] I (Bo (Ak a) 7 fun n => Af 1 I (tW ?_)))
 subst b
 refine Aa fun s c => tV (Af 1 I (tX [0] I (A3 0 0 1 [[.v (.string a.Name), .V 0, .V a.To, .V a.Capacity, .V a.Resist, .V a.Wave, sP a.Points]] I (Af 1 I (tX [0] I (A3 0 0 2 [[.v (.string a.Name), .V 0, .V 1, .V a.Capacity, .V a.Resist, .V a.Wave, sP a.Points]] I (tW ?_)))))))
 subst c
 refine uB (uB ?_)
 obtain ⟨t, d, h⟩ := Ac h
 refine tV (tX [] I (uL (sz := 1) (es := ([(⟨#[97]⟩ : Bt), (⟨#[98]⟩ : Bt)] : List Bt).map rS) I I I I I I I I I I I dS fun e => An 1 [.o 0 0] I J1 (tX [] I (uL (sz := 7) (es := ([(⟨a.Name, 0, 1, a.Capacity, a.Resist, a.Wave, a.Points⟩ : Sg)] : List Sg).map Ak) I I I I I I I I I I I dS fun f => uS 1 I fun g => uS 2 I fun i => uH (Au (l := [.v e, .v f, .N, .N, .V 0, .V 0]) H9 (As I I (A8 g) I (As I I (A8 i) I (Cw)))) I (tX [] I (Ch I (.refl _) I I (.cons (.agg (.cons (.us 1 I) (.cons (.us 2 I) (.cons (.nil _) (.cons (.nil _) (.rest _)))))) (.rest _)) I (Jy _ _ d) dS (by rintro _ _ ⟨rfl, _⟩; rfl) ?_))))))
 rintro _ ⟨_, rfl, -⟩
 refine Af 1 I (tW (Ar h I ?_ ?_))
 intro j h
 refine Ah I (uD g0 ?_)
 cases io h
 exact uC pr
 intro j h
 refine tZ (Ah I (uD g0 ?_))
 cases io h
 exact uC pr
theorem gO (a : Piece) (r : Bool) (h : Qa a = r) : ACalls Aj 136 [.agg (A4 a)] [] (RB r) := by
 refine Ae Tryz.func136 I I I fun C hC => ?_
 unfold Qa at h
 refine Aa fun f e => tV (tX [] I (Bo (A4 a) 2 fun g => Af 1 I (tW ?_)))
 subst e
 refine Ai (fun s ob => s = [(2, .v (.bool (decide (a.Batch ≥ 0) && (decide (a.Batch < 1000) && (decide (a.Volume ≥ 0) && decide (a.Volume ≤ 1000000))))))] ∧ ob = []) [] J ?_ ?_
 refine tV (An 4 [.o 1 0] I J1 ?_)
 rcases bt (decide (a.Batch ≥ 0)) with b | b
 refine Ad 6 I b (An 5 [.o 1 0] I J1 ?_)
 rcases bt (decide (a.Batch < 1000)) with c | c
 refine Ad 11 I c (An 5 [.o 1 0] I J1 ?_)
 rcases bt (decide (a.Volume ≥ 0)) with d | d
 refine Ad 16 I d (An 5 [.o 1 0] I J1 (tW ?_))
 exact lf I2 ⟨(Do (by simp only [b, c, d, bz])), J⟩ [] I
 refine Ad 16 I d (Af 5 I (tW ?_))
 exact lf I2 ⟨(Do (by simp only [b, c, d, bz])), J⟩ [] I
 refine Ad 11 I c (Af 10 I (tW ?_))
 exact lf I2 ⟨(Do (by simp only [b, c, bz])), J⟩ [] I
 refine Ad 6 I b (Af 15 I (tW ?_))
 exact lf I2 ⟨(Do (by simp only [b, bz])), J⟩ [] I
 rintro s ob ⟨rfl, rfl⟩
 obtain rfl := h
 exact uC pr
theorem Ui (a : List Piece) (r : Int) (h : K2 a = some r) : ACalls Aj 137 [Q4 a] [] (RV (.V r)) := by
 refine Ae Tryz.func137 I I I fun C hC => ?_
 unfold K2 at h
 refine Ah I (Ah I (Ai (fun s ob => ∃ (d : Int), K2.J1 d = some r ∧ s = [(3, .V d)] ∧ ob = []) [] J ?_ ?_))
 refine Bh [.l 1 (a.length : Int)] I ⟨Ax, J⟩ (uA (B0 6 I fun g => ?_))
 obtain ⟨u, i, j⟩ := Ac h
 refine Cu i [(6, _), (7, _)] J2 (fun (b : Nat) (c : Int) s ob => s = [(8, .V (b : Int)), (3, .V c)] ∧ ob = []) ⟨I, I⟩ ⟨I, I, J⟩ ⟨[], I, by decide⟩ ?_ ?_
 rintro b e c w s ob n f ⟨rfl, rfl⟩ h
 unfold K2.B2 at h
 have p := Co f
 refine Ah I (Aa fun y q => Bp I p (tZ ?_))
 subst q
 refine uB (uA (uB (tV (An 2 [.x 0 b (A4 e)] I ⟨⟨I, Ag n⟩, J⟩ (tX [] I (uF [.V 0, .V 0] 2 fun A => tX [0] I (A3 0 0 0 [A4 e] I (tW (E2 [.o 2 0] I J1 (tV (An 2 [.k 0 (b + 1 : Nat)] I ⟨A0 f g, J⟩ ?_)))))))))))
 cases io h
 exact tW (lg I2 [])
 rintro c s ob ⟨rfl, rfl⟩ he
 subst he
 have h := j
 have t := Cp a.length
 exact Ah I (Aa fun B D => Br I t (uE (lg ⟨c, h, I2⟩ [])))
 rintro s ob ⟨d, h, rfl, rfl⟩
 unfold K2.J1 at h
 refine Ah I ?_
 cases io h
 exact uC pr
theorem Oh (a : List Piece) (r : Bool) (h : Ky a = some r) : ACalls Aj 85 [Q4 a] [] (RB r) := by
 refine Ae Tryz.func85 I I I fun C hC => ?_
 refine Ah I (Aa fun R w => Bh [.l 1 (a.length : Int)] I ⟨Ax, J⟩ (Ar h I ?_ ?_))
 intro y h
 refine Ah I ?_
 cases io h
 exact uC pr
 intro y h
 refine tZ ?_
 subst w
 refine Ai (fun s ob => ∃ (n : Unit), Ky.J1 a n = some r ∧ s = [] ∧ ob = []) [(0, _)] J1 ?_ ?_
 refine Bh [.l 1 (a.length : Int)] I ⟨Ax, J⟩ (uA (B0 8 I fun A => ?_))
 obtain ⟨S, B, p⟩ := Ac h
 refine Bx B [(0, _), (8, _), (9, _)] J3 (fun (d : Nat) (t : Unit) s ob => s = [(10, .V (d : Int))] ∧ ob = []) ⟨I, I⟩ ⟨I, J⟩ ⟨[], I, by decide⟩ ?_ ?_
 rintro d b t D s ob E u ⟨rfl, rfl⟩ h F
 unfold Ky.B2 at h
 have G := Co u
 refine Ah I (Aa fun U H => Bp I G (tZ ?_))
 subst H
 refine uB (uA (Aa fun W K => tV (An 3 [.x 1 d (A4 b)] I ⟨⟨I, Ag E⟩, J⟩ (tX [] I (uF [.V 0, .V 0] 2 fun X => Af 1 I (tX [0] I (A3 0 0 0 [A4 b] I (tW ?_))))))))
 subst K
 refine Ai (fun s ob => ∃ (i : Bool), Ky.J3 i = some D ∧ s = [(37, .v (.bool i))] ∧ ob = []) [(0, _), (8, _), (9, _), (10, _)] J4 ?_ ?_
 refine Bz (pd 23 0 [1]) [0] [_] I (Ca 1 [.o 0 0] I J1 (Dq I (gO b _ I) (Bf 2 I ?_)))
 rcases bt ((!(Qa b))) with e | e
 have h := Bu e h
 refine A5 18 I e (Bf 8 I (Be I I I I dS (Be I I I I dS (Be I I I I dS (Be I I I I dS (Be I I I I dS (Be I I I I dS (Be I I I I dS (Be I I I I dS (Be I I I I dS (Bf 2 I (Ap ?_))))))))))))
 exact tW (lg ⟨true, h, I2⟩ [])
 have h := Bv e h
 refine A5 18 I e (Ca 5 [.o 1 0] I J1 ?_)
 rcases bt ((b.Volume == 0)) with f | f
 have h := Bu f h
 refine A5 23 I f (Bf 3 I (Be I I I I dS (Be I I I I dS (Be I I I I dS (Be I I I I dS (Be I I I I dS (Be I I I I dS (Be I I I I dS (Be I I I I dS (Be I I I I dS (Bf 2 I (Ap ?_))))))))))))
 exact tW (lg ⟨true, h, I2⟩ [])
 have h := Bv f h
 refine A5 23 I f (Bf 3 I ?_)
 rcases bt (decide ((d : Int) > 0)) with g | g
 have h := Bu g h
 obtain ⟨j, ⟨M, N⟩, h⟩ := A6 h
 exact A5 26 I g (Ca 11 [.x 3 j.1 (A4 j.2), .o 7 0] I ⟨I, ⟨M, Ag N⟩, J⟩ (Ap (tW (lg ⟨(j.2.Batch == b.Batch), h, I2⟩ []))))
 have h := Bv g h
 exact A5 26 I g (Bf 11 I (Ap (tW (lg ⟨false, h, I2⟩ []))))
 rintro s ob ⟨i, h, rfl, rfl⟩
 refine Ar h I ?_ ?_
 intro O h
 refine Ah I ?_
 obtain rfl := F _ (oi h).symm
 have h := p
 have h := C2 h
 cases io h
 exact uC pr
 intro O h
 refine tZ (tV (An 2 [.k 0 (d + 1 : Nat)] I ⟨A0 u A, J⟩ ?_))
 cases io h
 exact tW ⟨_, _, _, I, I2, J4, [], I, by decide⟩
 rintro t s ob ⟨rfl, rfl⟩ he
 subst he
 have h := C8 p
 have P := Cp a.length
 exact Ah I (Aa fun Y Z => Br I P (uE (lg ⟨(), h, I2⟩ [])))
 rintro s ob ⟨n, h, rfl, rfl⟩
 refine uB ?_
 obtain ⟨aa, Q, h⟩ := Ac h
 refine tV (Af 1 I (Cd (Ui _ _ Q) (Af 2 I (tW ?_))))
 cases io h
 exact uC pr
theorem Ua (a : List Piece) (r : Int) (h : M8 a = some r) : ACalls Aj 86 [Q4 a] [] (RV (.V r)) := by
 refine Ae Tryz.func86 I I I fun C hC => ?_
 refine Ah I (uB (uB ?_))
 obtain ⟨f, b, h⟩ := Ac h
 refine tV (Af 1 I (Cd (Oh _ _ b) (Af 1 I (tW (Ar h I ?_ ?_)))))
 intro d h
 refine Ah I ?_
 cases io h
 exact uC pr
 intro d h
 refine tZ (uB ?_)
 obtain ⟨g, e, h⟩ := Ac h
 refine tV (Af 1 I (Cd (Ui _ _ e) (Af 1 I (tW ?_))))
 cases io h
 exact uC pr
theorem hO (a : Sg) (d : List Piece) (r : Int) (h : Qh a d = some r) : ACalls Aj 143 [.agg (Ak a), Q4 d] [] (RV (.V r)) := by
 refine Ae Tryz.func143 I I I fun C hC => ?_
 unfold Qh at h
 refine Aa fun w f => tV (tX [] I (Bo (Ak a) 7 fun g => Af 1 I (tW ?_)))
 subst f
 refine Aa fun y i => Ai (fun s ob => ∃ (e : Bool), Qh.J1 a d e = some r ∧ s = [(12, .v (.bool e))] ∧ ob = [O5 g [Ak a]]) [(1, _), (2, _)] J2 ?_ ?_
 obtain ⟨j, k, h⟩ := Ac h
 refine tV (An 1 [.o 0 0] I J1 (Cd (fN _ _ k) (Af 2 I ?_)))
 rcases bt ((j != 0)) with b | b
 have h := Bu b h
 exact Ad 8 I b (Af 4 I (tW (lg ⟨true, h, I2⟩ [0])))
 have h := Bv b h
 obtain ⟨l, n, h⟩ := Ac h
 exact Ad 8 I b (Af 1 I (Cf I I I (Cd (Oh _ _ n) (Af 2 I (tW (lg ⟨(!l), h, I2⟩ [0]))))))
 rintro s ob ⟨e, h, rfl, rfl⟩
 refine Ar h I ?_ ?_
 intro p h
 refine Ah I (uD g0 ?_)
 cases io h
 exact uC pr
 intro p h
 refine tZ ?_
 subst i
 refine uB (uB ?_)
 obtain ⟨A, t, h⟩ := Ac h
 refine Bz (.still 0 (.still 2 (.still 3 (.act 1 (.still 4 .nil))))) [0] [_] I (Ca 3 [.o 2 0] I J1 (Dq I (Ua _ _ t) (Bf 1 I (Ap (tW (Ar h I ?_ ?_))))))
 intro u h
 refine Ah I (uD g0 ?_)
 cases io h
 exact uC pr
 intro u h
 refine tZ (Ah I (uD g0 ?_))
 cases io h
 exact uC pr
theorem iT (a : Value) (b : Li) (r : Li) (h : V5 b = some r) : ACalls Aj 169 [.v a] [U0 a b] (Ea 1 fun x os new => x = .tup [] ∧ os = [U0 a r] ∧ new = []) := by
  unfold V5 at h
  split at h
  · cases h
  · rename_i hne
    cases io h
    rw [← S8]
    exact Xe ⟨_, Tryz.func169, rfl, rfl⟩ (fun G2 off cap zs w c d e => Go.Proofs.Tryz.slices_Sort_int G2 off cap zs w c d e) hne
theorem jR (a : Value) (b : Li) (r : Li) (h : Wd b = some r) : ACalls Aj 170 [.v a] [U0 a b] (Ea 1 fun x os new => ∃ (c : Value), x = .v c ∧ os = [.us (.slice none 0 0) 3 1 ([].map rI)] ∧ new = [U0 c r]) := by
  unfold Wd at h
  split at h
  · cases h
  · rename_i hne
    cases io h
    exact Pj ⟨_, Tryz.func170, rfl, rfl⟩ (fun G2 off cap zs w d e f => Go.Proofs.Tryz.slices_Compact_int G2 off cap zs w d e f) hne
theorem hZ (b : Sg) (c : List Piece) (r : Li) (h : Nj b c = some r) : ACalls Aj 146 [.agg (Ak b), Q4 c] [] (fun x new => ∃ (y : Value), x = .v y ∧ new = [U0 y r]) := by
 refine Ae Tryz.func146 I I I fun C hC => ?_
 unfold Nj at h
 refine Aa fun y1 E => tV (tX [] I (Bo (Ak b) 7 fun b2 => Af 1 I (tW ?_)))
 subst E
 refine Ah I (Ai (fun s ob => ∃ (p : Li) (g : Value), Nj.J1 c p = some r ∧ s = [(5, .v g)] ∧ ob = [U0 g p]) [(1, _)] J1 ?_ ?_)
 refine Bh [.o 1 0, .l 2 (b.Points.length : Int)] I ⟨Ax, I, J⟩ (uA (B0 12 I fun F => uD (Bs 3 1) ?_))
 obtain ⟨ah, G, H⟩ := Ac h
 refine Cu G [(1, _), (12, _), (13, _)] J3 (fun (i : Nat) (j : Li) s ob => ∃ (d : Value), s = [(14, .V (i : Int)), (5, .v d)] ∧ ob = [U0 d j]) ⟨(.slice none 0 0), I2⟩ ⟨I, I, J⟩ ⟨[1], I, by decide⟩ ?_ ?_
 rintro i t j ai s ob K A ⟨d, rfl, rfl⟩ h
 have M := Co A
 refine Ah I (Aa fun aj N => Bp I M (tZ ?_))
 subst N
 refine uB (uA (uB (tV (An 2 [.x 0 i (Bj t)] I ⟨⟨I, Ag K⟩, J⟩ (tX [] I (uF W1 3 fun ak => tX [1] I (A3 1 0 0 [Bj t] I (tW ?_))))))))
 obtain ⟨al, O, h⟩ := Ac h
 refine tV (An 3 [.o 2 1] I J1 (tX [] I (uG 1 (([t.At] : Li).map rI) (tX [0] I (C9 0 I O fun P => Af 1 I (tW (tV (An 2 [.k 0 (i + 1 : Nat)] I ⟨A0 A F, J⟩ ?_))))))))
 cases io h
 exact tW (lg ⟨P, I2⟩ [0])
 rintro j s ob ⟨d, rfl, rfl⟩ he
 subst he
 have h := H
 have Q := Cp b.Points.length
 exact Ah I (Aa fun am an => Br I Q (uE (lg ⟨j, d, h, I2⟩ [0])))
 rintro s ob ⟨p, g, h, rfl, rfl⟩
 unfold Nj.J1 at h
 refine Ah I (Ai (fun s ob => ∃ (u : Li) (e : Value), Nj.J2 u = some r ∧ s = [(5, .v e)] ∧ ob = [U0 e u]) [] J ?_ ?_)
 refine Bh [.l 1 (c.length : Int)] I ⟨Ax, J⟩ (uA (B0 24 I fun R => ?_))
 obtain ⟨ao, S, U⟩ := Ac h
 refine Cu S [(24, _), (25, _)] J2 (fun (n : Nat) (a : Li × Int) s ob => ∃ (f : Value), s = [(26, .V (n : Int)), (5, .v f), (8, .V a.2)] ∧ ob = [U0 f a.1]) ⟨g, I2⟩ ⟨I, I, I, J⟩ ⟨[0], I, by decide⟩ ?_ ?_
 rintro n w a aq s ob W B ⟨f, rfl, rfl⟩ h
 have X := Co B
 refine Ah I (Aa fun ar Y => Bp I X (tZ ?_))
 subst Y
 refine uB (uA (uB (tV (An 2 [.x 0 n (A4 w)] I ⟨⟨I, Ag W⟩, J⟩ (tX [] I (uF [.V 0, .V 0] 2 fun au => tX [1] I (A3 1 0 0 [A4 w] I (tW (Bh [.o 2 1] I J1 ?_)))))))))
 obtain ⟨av, Z, h⟩ := Ac h
 refine tV (Af 2 I (tX [] I (uG 1 (([wr (a.2 + w.Volume)] : Li).map rI) (tX [0] I (C9 0 I Z fun aa => Af 1 I (tW (tV (An 2 [.k 0 (n + 1 : Nat)] I ⟨A0 B R, J⟩ ?_))))))))
 cases io h
 exact tW (lg ⟨aa, I2⟩ [0])
 rintro a s ob ⟨f, rfl, rfl⟩ he
 subst he
 have h := U
 have ab := Cp c.length
 exact Ah I (Aa fun aw ax => Br I ab (uE (lg ⟨a.1, f, h, I2⟩ [0])))
 rintro s ob ⟨u, e, h, rfl, rfl⟩
 refine uB ?_
 obtain ⟨ay, ac, h⟩ := Ac h
 refine tV (Af 1 I (tX [0] I (A1 [0] (iT e _ _ ac) ?_)))
 refine tW (uB ?_)
 obtain ⟨ad, ae, h⟩ := Ac h
 refine tV (Af 1 I (tX [0] I (Im [0] (jR e _ _ ae) ?_)))
 rintro _ _ _ - ⟨D, rfl, rfl, rfl⟩
 refine Af 1 I (tW (Cv [1] I ?_))
 obtain rfl := oi h
 exact uC ⟨.inr I, [_], [U0 D ad], J1, Cz I (Cm), ⟨D, I2⟩⟩
end Go.Proofs.YtodeekicjiengaaGreatDoor
