/- Walks that show what functions of the program compute; printed by a program of ours. No condition. -/
import Derived.Test.YtodeekicjiengaaGreatDoorYvD
import Derived.Test.YtodeekicjiengaaGreatDoorYvB2
set_option maxRecDepth 100000
namespace Go.Proofs.YtodeekicjiengaaGreatDoor
open Go.Aw
set_option linter.unusedVariables false
set_option linter.unusedSimpArgs false
set_option maxHeartbeats 4000000
theorem N9 (a : Sg) (b : Int) (r : Int × Int) (h : Bn a b = r) : ACalls Aj 82 [.agg (Ak a), .V b] [] (fun x new => x = .tup [.V r.1, .V r.2] ∧ new = []) := by
 refine Ad Tryz.func82 I I I fun C hC => ?_
 refine Aa fun e c => sH (sJ [] I (Bo (Ak a) 7 fun f => Ag 2 I (sI ?_)))
 subst c
 refine sN (Ah I (Ar h I ?_ ?_))
 intro d h
 refine Ke (pd 6 0 []) [0] [_] [.o 1 0, .o 3 0] I I J2 (sP g0 ?_)
 obtain rfl := h
 exact sO ⟨.inr I, [_, _], [], J2, Cm, I2⟩
 intro d h
 refine sL (Ke (pd 6 0 []) [0] [_] [.o 1 0, .o 3 0] I I J2 (sP g0 ?_))
 obtain rfl := h
 exact sO ⟨.inr I, [_, _], [], J2, Cm, I2⟩
theorem T0 (a : Int) (b : Int) (r : Bool) (h : M5 a b = r) : ACalls Aj 42 [.V a, .V b] [] (fun x new => x = .v (.bool r) ∧ new = []) := by
 refine Ad Tryz.func42 I I I fun C hC => ?_
 unfold M5 at h
 refine Ah I (Ai (fun s ob => s = [(4, .v (.bool (decide (a ≥ (wr (0 - b))) && decide (a ≤ b))))] ∧ ob = []) [] J ?_ ?_)
 refine sH (Ag 5 I ?_)
 rcases bt (decide (a ≥ (wr (0 - b)))) with c | c
 refine Af 9 I c (Ag 5 I (sI ?_))
 exact lf I2 ⟨(Dn (by simp only [c, bz])), J⟩ [] I
 refine Af 9 I c (Ag 5 I (sI ?_))
 exact lf I2 ⟨(Dn (by simp only [c, bz])), J⟩ [] I
 rintro s ob ⟨rfl, rfl⟩
 obtain rfl := h
 exact sO pr
theorem iK (e : Int) (b : Int) (r : Int) (h : Vz e b = some r) : ACalls Aj 39 [.V e, .V b] [] (fun x new => x = .V r ∧ new = []) := by
 refine Ad Tryz.func39 I I I fun C hC => ?_
 refine Ah I (Aa fun m g => Ah I (Ar h I ?_ ?_))
 intro i h
 refine Ah I ?_
 obtain rfl := oi h
 exact sO pr
 intro i h
 refine sL ?_
 subst g
 refine Aa fun n j => ?_
 obtain ⟨a, k, h⟩ := Ac h
 refine Ey [.f 2 (.V a)] I ⟨Yp.yd (Em (c := a) I I (Iz k)), J⟩ ?_
 subst j
 refine Ai (fun s ob => ∃ (d : Int), Vz.J1 d = some r ∧ s = [(0, .V d)] ∧ ob = []) [] J ?_ ?_
 refine Ah I (Ar h I ?_ ?_)
 intro l h
 refine Sj I ?_
 exact lg ⟨wr (a + b), h, I2⟩ []
 intro l h
 refine sL ?_
 exact lg ⟨a, h, I2⟩ []
 rintro s ob ⟨d, h, rfl, rfl⟩
 refine Ah I ?_
 obtain rfl := oi h
 exact sO pr
theorem Dr (a : Int) (c : Int) (d : Int) (r : Bool) (h : Dg a c d = r) : ACalls Aj 132 [.V a, .V c, .V d] [] (fun x new => x = .v (.bool r) ∧ new = []) := by
 refine Ad Tryz.func132 I I I fun C hC => ?_
 unfold Dg at h
 refine Ah I (Ai (fun s ob => s = [(6, .v (.bool (decide (a ≥ c) && decide (a ≤ d))))] ∧ ob = []) [] J ?_ ?_)
 refine sH (Ag 4 I ?_)
 rcases bt (decide (a ≥ c)) with b | b
 refine Af 10 I b (Ag 5 I (sI ?_))
 exact lf I2 ⟨(Dn (by simp only [b, bz])), J⟩ [] I
 refine Af 10 I b (Ag 5 I (sI ?_))
 exact lf I2 ⟨(Dn (by simp only [b, bz])), J⟩ [] I
 rintro s ob ⟨rfl, rfl⟩
 obtain rfl := h
 exact sO pr
theorem N8 (a : Int) (r : Int) (h : Ga a = r) : ACalls Aj 108 [.V a] [] (fun x new => x = .V r ∧ new = []) := by
 refine Ad Tryz.func108 I I I fun C hC => ?_
 unfold Ga at h
 refine Ah I (Ah I ?_)
 obtain rfl := h
 exact sO pr
theorem fG (a : Li) (c : Int) (r : Int) (h : P1 a c = some r) : ACalls Aj 119 [Q0 a, .V c] [] (fun x new => x = .V r ∧ new = []) := by
 refine Ad Tryz.func119 I I I fun C hC => ?_
 unfold P1 at h
 refine Ah I (Ai (fun s ob => ∃ (d : Unit), P1.J1 d = some r ∧ s = [] ∧ ob = []) [] J ?_ ?_)
 refine Bh [.l 1 (a.length : Int)] I ⟨Ay, J⟩ (sM (Bz 6 I fun i => ?_))
 obtain ⟨w, j, e⟩ := Ac h
 clear h
 refine Bx j [(0, _), (1, _), (7, _)] J3 (fun (b : Nat) (f : Unit) s ob => s = [(8, .V (b : Int))] ∧ ob = []) ⟨I, I⟩ ⟨I, J⟩ ⟨[], I, by decide⟩ ?_ ?_
 rintro b m f y s ob n g ⟨rfl, rfl⟩ h o
 have p := Cn g
 refine Ah I (Aa fun A q => Bs I p (sL ?_))
 subst q
 refine sN (sM (Ah I (Bh [.x 3 b (rI m)] I ⟨⟨I, Ae n⟩, J⟩ (Ar h I ?_ ?_))))
 intro t h
 refine Ah I ?_
 obtain rfl := o _ (oi h).symm
 replace h := e
 replace h := C1 h
 obtain rfl := oi h
 exact sO pr
 intro t h
 refine sL (sH (An 2 [.k 0 (b + 1 : Nat)] I ⟨A0 g i, J⟩ ?_))
 obtain rfl := oi h
 exact sI ⟨_, _, _, I, I2, J4, [], I, by decide⟩
 rintro f s ob ⟨rfl, rfl⟩ he
 subst he
 have h := C6 e
 have u := Co a.length
 refine Ah I (Aa fun B D => Bu I u (sQ ?_))
 exact lg ⟨(), h, I2⟩ []
 rintro s ob ⟨d, h, rfl, rfl⟩
 refine Ah I ?_
 obtain rfl := oi h
 exact sO pr
theorem eT (a : List Bt) (d : Bt) (r : Int) (h : M3 a d = some r) : ACalls Aj 124 [Q1 a, .v (.string d)] [] (fun x new => x = .V r ∧ new = []) := by
 refine Ad Tryz.func124 I I I fun C hC => ?_
 unfold M3 at h
 refine Ah I (Ai (fun s ob => ∃ (e : Unit), M3.J1 e = some r ∧ s = [] ∧ ob = []) [] J ?_ ?_)
 refine Bh [.l 1 (a.length : Int)] I ⟨Ay, J⟩ (sM (Bz 6 I fun m => ?_))
 obtain ⟨A, n, f⟩ := Ac h
 clear h
 refine Bx n [(0, _), (1, _), (7, _)] J3 (fun (b : Nat) (g : Unit) s ob => s = [(8, .V (b : Int))] ∧ ob = []) ⟨I, I⟩ ⟨I, J⟩ ⟨[], I, by decide⟩ ?_ ?_
 rintro b i g B s ob o j ⟨rfl, rfl⟩ h q
 have t := Cn j
 refine Ah I (Aa fun D u => Bs I t (sL ?_))
 subst u
 refine sN (sM (Ah I (sN (sH (An 5 [.x 3 b (rS i)] I ⟨⟨I, Ae o⟩, J⟩ (sT (Yp.cmpS (c := Sh d i) I I I) I (sI (Ar h I ?_ ?_))))))))
 intro w h
 refine Ah I ?_
 obtain rfl := q _ (oi h).symm
 replace h := f
 replace h := C1 h
 obtain rfl := oi h
 exact sO pr
 intro w h
 refine sL (sH (An 2 [.k 0 (b + 1 : Nat)] I ⟨A0 j m, J⟩ ?_))
 obtain rfl := oi h
 exact sI ⟨_, _, _, I, I2, J4, [], I, by decide⟩
 rintro g s ob ⟨rfl, rfl⟩ he
 subst he
 have h := C6 f
 have y := Co a.length
 refine Ah I (Aa fun E F => Bu I y (sQ ?_))
 exact lg ⟨(), h, I2⟩ []
 rintro s ob ⟨e, h, rfl, rfl⟩
 refine Ah I ?_
 obtain rfl := oi h
 exact sO pr
theorem iM (a : Li) (F1 : T) {c : FuncId} {d e : List T} (o : Jf F1 = some (c, d, e)) (f : Int → Option Bool) (p : ∀ (g : Int) r, f g = some r → ACalls Aj c (d ++ [.V g] ++ e) [] fun x new => x = .v (.bool r) ∧ new = []) (r : Int) (h : Qq a f = some r) : ACalls Aj 80 [Q0 a, F1] [] (fun x new => x = .V r ∧ new = []) := by
 refine Ad Tryz.func80 I I I fun C hC => ?_
 unfold Qq at h
 refine Ah I (Ai (fun s ob => ∃ (i : Unit), Qq.J1 i = some r ∧ s = [] ∧ ob = []) [] J ?_ ?_)
 refine Bh [.l 1 (a.length : Int)] I ⟨Ay, J⟩ (sM (Bz 6 I fun q => ?_))
 obtain ⟨G, t, j⟩ := Ac h
 clear h
 refine Bx t [(0, _), (1, _), (7, _)] J3 (fun (b : Nat) (m : Unit) s ob => s = [(8, .V (b : Int))] ∧ ob = []) ⟨I, I⟩ ⟨I, J⟩ ⟨[], I, by decide⟩ ?_ ?_
 rintro b u m H s ob w n ⟨rfl, rfl⟩ h y
 have A := Cn n
 refine Ah I (Aa fun K B => Bs I A (sL ?_))
 subst B
 refine sN (sM (Ah I (sN ?_)))
 obtain ⟨M, D, h⟩ := Ac h
 refine sH (An 5 [.x 3 b (rI u)] I ⟨⟨I, Ae w⟩, J⟩ (sJ [] I (Cl I (.refl _) o I (.rest _) I (p _ _ D) dS (by rintro _ _ ⟨rfl, _⟩; rfl) ?_)))
 rintro _ ⟨_, rfl, -⟩
 refine sI (Ar h I ?_ ?_)
 intro E h
 refine Ah I ?_
 obtain rfl := y _ (oi h).symm
 replace h := j
 replace h := C1 h
 obtain rfl := oi h
 exact sO pr
 intro E h
 refine sL (sH (An 2 [.k 0 (b + 1 : Nat)] I ⟨A0 n q, J⟩ ?_))
 obtain rfl := oi h
 exact sI ⟨_, _, _, I, I2, J4, [], I, by decide⟩
 rintro m s ob ⟨rfl, rfl⟩ he
 subst he
 have h := C6 j
 have F := Co a.length
 refine Ah I (Aa fun N O => Bu I F (sQ ?_))
 exact lg ⟨(), h, I2⟩ []
 rintro s ob ⟨i, h, rfl, rfl⟩
 refine Ah I ?_
 obtain rfl := oi h
 exact sO pr
theorem Jt (b : Li) (F1 : T) {d : FuncId} {e f : List T} (i : Jf F1 = some (d, e, f)) (a : Int → Option Bool) (j : ∀ (g : Int) r, a g = some r → ACalls Aj d (e ++ [.V g] ++ f) [] fun x new => x = .v (.bool r) ∧ new = []) (r : Bool) (h : Kq b a = some r) : ACalls Aj 43 [Q0 b, F1] [] (fun x new => x = .v (.bool r) ∧ new = []) := by
 refine Ad Tryz.func43 I I I fun C hC => ?_
 refine Ah I (sN ?_)
 obtain ⟨l, k, h⟩ := Ac h
 refine sH (Ag 2 I (Cc (iM _ F1 i a j _ k) (Ag 2 I (sI ?_))))
 obtain rfl := oi h
 exact sO pr
theorem eX (a : List Bt) (F1 : T) {c : FuncId} {d e : List T} (o : Jf F1 = some (c, d, e)) (f : Bt → Option Bool) (p : ∀ (g : Bt) r, f g = some r → ACalls Aj c (d ++ [.v (.string g)] ++ e) [] fun x new => x = .v (.bool r) ∧ new = []) (r : Int) (h : Py a f = some r) : ACalls Aj 122 [Q1 a, F1] [] (fun x new => x = .V r ∧ new = []) := by
 refine Ad Tryz.func122 I I I fun C hC => ?_
 unfold Py at h
 refine Ah I (Ai (fun s ob => ∃ (i : Unit), Py.J1 i = some r ∧ s = [] ∧ ob = []) [] J ?_ ?_)
 refine Bh [.l 1 (a.length : Int)] I ⟨Ay, J⟩ (sM (Bz 6 I fun q => ?_))
 obtain ⟨G, t, j⟩ := Ac h
 clear h
 refine Bx t [(0, _), (1, _), (7, _)] J3 (fun (b : Nat) (m : Unit) s ob => s = [(8, .V (b : Int))] ∧ ob = []) ⟨I, I⟩ ⟨I, J⟩ ⟨[], I, by decide⟩ ?_ ?_
 rintro b u m H s ob w n ⟨rfl, rfl⟩ h y
 have A := Cn n
 refine Ah I (Aa fun K B => Bs I A (sL ?_))
 subst B
 refine sN (sM (Ah I (sN ?_)))
 obtain ⟨M, D, h⟩ := Ac h
 refine sH (An 5 [.x 3 b (rS u)] I ⟨⟨I, Ae w⟩, J⟩ (sJ [] I (Cl I (.refl _) o I (.rest _) I (p _ _ D) dS (by rintro _ _ ⟨rfl, _⟩; rfl) ?_)))
 rintro _ ⟨_, rfl, -⟩
 refine sI (Ar h I ?_ ?_)
 intro E h
 refine Ah I ?_
 obtain rfl := y _ (oi h).symm
 replace h := j
 replace h := C1 h
 obtain rfl := oi h
 exact sO pr
 intro E h
 refine sL (sH (An 2 [.k 0 (b + 1 : Nat)] I ⟨A0 n q, J⟩ ?_))
 obtain rfl := oi h
 exact sI ⟨_, _, _, I, I2, J4, [], I, by decide⟩
 rintro m s ob ⟨rfl, rfl⟩ he
 subst he
 have h := C6 j
 have F := Co a.length
 refine Ah I (Aa fun N O => Bu I F (sQ ?_))
 exact lg ⟨(), h, I2⟩ []
 rintro s ob ⟨i, h, rfl, rfl⟩
 refine Ah I ?_
 obtain rfl := oi h
 exact sO pr
theorem fT (b : List Bt) (F1 : T) {d : FuncId} {e f : List T} (i : Jf F1 = some (d, e, f)) (a : Bt → Option Bool) (j : ∀ (g : Bt) r, a g = some r → ACalls Aj d (e ++ [.v (.string g)] ++ f) [] fun x new => x = .v (.bool r) ∧ new = []) (r : Bool) (h : P7 b a = some r) : ACalls Aj 74 [Q1 b, F1] [] (fun x new => x = .v (.bool r) ∧ new = []) := by
 refine Ad Tryz.func74 I I I fun C hC => ?_
 refine Ah I (sN ?_)
 obtain ⟨l, k, h⟩ := Ac h
 refine sH (Ag 2 I (Cc (eX _ F1 i a j _ k) (Ag 2 I (sI ?_))))
 obtain rfl := oi h
 exact sO pr
theorem iJ (a : List Sg) (F1 : T) {c : FuncId} {d e : List T} (o : Jf F1 = some (c, d, e)) (f : Sg → Option Bool) (p : ∀ (g : Sg) r, f g = some r → ACalls Aj c (d ++ [.agg (Ak g)] ++ e) [] fun x new => x = .v (.bool r) ∧ new = []) (r : Int) (h : Qo a f = some r) : ACalls Aj 165 [Q6 a, F1] [] (fun x new => x = .V r ∧ new = []) := by
 refine Ad Tryz.func165 I I I fun C hC => ?_
 unfold Qo at h
 refine Ah I (Ai (fun s ob => ∃ (i : Unit), Qo.J1 i = some r ∧ s = [] ∧ ob = []) [] J ?_ ?_)
 refine Bh [.l 1 (a.length : Int)] I ⟨Ay, J⟩ (sM (Bz 6 I fun q => ?_))
 obtain ⟨G, t, j⟩ := Ac h
 clear h
 refine Bx t [(0, _), (1, _), (7, _)] J3 (fun (b : Nat) (m : Unit) s ob => s = [(8, .V (b : Int))] ∧ ob = []) ⟨I, I⟩ ⟨I, J⟩ ⟨[], I, by decide⟩ ?_ ?_
 rintro b u m H s ob w n ⟨rfl, rfl⟩ h y
 have A := Cn n
 refine Ah I (Aa fun K B => Bs I A (sL ?_))
 subst B
 refine sN (sM (Ah I (sN ?_)))
 obtain ⟨M, D, h⟩ := Ac h
 refine sH (An 5 [.x 3 b (Ak u)] I ⟨⟨I, Ae w⟩, J⟩ (sJ [] I (Cl I (.refl _) o I (.rest _) I (p _ _ D) dS (by rintro _ _ ⟨rfl, _⟩; rfl) ?_)))
 rintro _ ⟨_, rfl, -⟩
 refine sI (Ar h I ?_ ?_)
 intro E h
 refine Ah I ?_
 obtain rfl := y _ (oi h).symm
 replace h := j
 replace h := C1 h
 obtain rfl := oi h
 exact sO pr
 intro E h
 refine sL (sH (An 2 [.k 0 (b + 1 : Nat)] I ⟨A0 n q, J⟩ ?_))
 obtain rfl := oi h
 exact sI ⟨_, _, _, I, I2, J4, [], I, by decide⟩
 rintro m s ob ⟨rfl, rfl⟩ he
 subst he
 have h := C6 j
 have F := Co a.length
 refine Ah I (Aa fun N O => Bu I F (sQ ?_))
 exact lg ⟨(), h, I2⟩ []
 rintro s ob ⟨i, h, rfl, rfl⟩
 refine Ah I ?_
 obtain rfl := oi h
 exact sO pr
theorem Tk (b : List Sg) (F1 : T) {d : FuncId} {e f : List T} (i : Jf F1 = some (d, e, f)) (a : Sg → Option Bool) (j : ∀ (g : Sg) r, a g = some r → ACalls Aj d (e ++ [.agg (Ak g)] ++ f) [] fun x new => x = .v (.bool r) ∧ new = []) (r : Bool) (h : Mw b a = some r) : ACalls Aj 120 [Q6 b, F1] [] (fun x new => x = .v (.bool r) ∧ new = []) := by
 refine Ad Tryz.func120 I I I fun C hC => ?_
 refine Ah I (sN ?_)
 obtain ⟨l, k, h⟩ := Ac h
 refine sH (Ag 2 I (Cc (iJ _ F1 i a j _ k) (Ag 2 I (sI ?_))))
 obtain rfl := oi h
 exact sO pr
theorem fM (a : List Port) (F1 : T) {c : FuncId} {d e : List T} (o : Jf F1 = some (c, d, e)) (f : Port → Option Bool) (p : ∀ (g : Port) r, f g = some r → ACalls Aj c (d ++ [.agg (Cb g)] ++ e) [] fun x new => x = .v (.bool r) ∧ new = []) (r : Int) (h : P3 a f = some r) : ACalls Aj 166 [Q7 a, F1] [] (fun x new => x = .V r ∧ new = []) := by
 refine Ad Tryz.func166 I I I fun C hC => ?_
 unfold P3 at h
 refine Ah I (Ai (fun s ob => ∃ (i : Unit), P3.J1 i = some r ∧ s = [] ∧ ob = []) [] J ?_ ?_)
 refine Bh [.l 1 (a.length : Int)] I ⟨Ay, J⟩ (sM (Bz 6 I fun q => ?_))
 obtain ⟨G, t, j⟩ := Ac h
 clear h
 refine Bx t [(0, _), (1, _), (7, _)] J3 (fun (b : Nat) (m : Unit) s ob => s = [(8, .V (b : Int))] ∧ ob = []) ⟨I, I⟩ ⟨I, J⟩ ⟨[], I, by decide⟩ ?_ ?_
 rintro b u m H s ob w n ⟨rfl, rfl⟩ h y
 have A := Cn n
 refine Ah I (Aa fun K B => Bs I A (sL ?_))
 subst B
 refine sN (sM (Ah I (sN ?_)))
 obtain ⟨M, D, h⟩ := Ac h
 refine sH (An 5 [.x 3 b (Cb u)] I ⟨⟨I, Ae w⟩, J⟩ (sJ [] I (Cl I (.refl _) o I (.rest _) I (p _ _ D) dS (by rintro _ _ ⟨rfl, _⟩; rfl) ?_)))
 rintro _ ⟨_, rfl, -⟩
 refine sI (Ar h I ?_ ?_)
 intro E h
 refine Ah I ?_
 obtain rfl := y _ (oi h).symm
 replace h := j
 replace h := C1 h
 obtain rfl := oi h
 exact sO pr
 intro E h
 refine sL (sH (An 2 [.k 0 (b + 1 : Nat)] I ⟨A0 n q, J⟩ ?_))
 obtain rfl := oi h
 exact sI ⟨_, _, _, I, I2, J4, [], I, by decide⟩
 rintro m s ob ⟨rfl, rfl⟩ he
 subst he
 have h := C6 j
 have F := Co a.length
 refine Ah I (Aa fun N O => Bu I F (sQ ?_))
 exact lg ⟨(), h, I2⟩ []
 rintro s ob ⟨i, h, rfl, rfl⟩
 refine Ah I ?_
 obtain rfl := oi h
 exact sO pr
theorem hR (b : List Port) (F1 : T) {d : FuncId} {e f : List T} (i : Jf F1 = some (d, e, f)) (a : Port → Option Bool) (j : ∀ (g : Port) r, a g = some r → ACalls Aj d (e ++ [.agg (Cb g)] ++ f) [] fun x new => x = .v (.bool r) ∧ new = []) (r : Bool) (h : Qk b a = some r) : ACalls Aj 130 [Q7 b, F1] [] (fun x new => x = .v (.bool r) ∧ new = []) := by
 refine Ad Tryz.func130 I I I fun C hC => ?_
 refine Ah I (sN ?_)
 obtain ⟨l, k, h⟩ := Ac h
 refine sH (Ag 2 I (Cc (fM _ F1 i a j _ k) (Ag 2 I (sI ?_))))
 obtain rfl := oi h
 exact sO pr
theorem Ti (a : List Sn) (F1 : T) {c : FuncId} {d e : List T} (o : Jf F1 = some (c, d, e)) (f : Sn → Option Bool) (p : ∀ (g : Sn) r, f g = some r → ACalls Aj c (d ++ [.agg (Ba g)] ++ e) [] fun x new => x = .v (.bool r) ∧ new = []) (r : Int) (h : Ms a f = some r) : ACalls Aj 125 [Q8 a, F1] [] (fun x new => x = .V r ∧ new = []) := by
 refine Ad Tryz.func125 I I I fun C hC => ?_
 unfold Ms at h
 refine Ah I (Ai (fun s ob => ∃ (i : Unit), Ms.J1 i = some r ∧ s = [] ∧ ob = []) [] J ?_ ?_)
 refine Bh [.l 1 (a.length : Int)] I ⟨Ay, J⟩ (sM (Bz 6 I fun q => ?_))
 obtain ⟨G, t, j⟩ := Ac h
 clear h
 refine Bx t [(0, _), (1, _), (7, _)] J3 (fun (b : Nat) (m : Unit) s ob => s = [(8, .V (b : Int))] ∧ ob = []) ⟨I, I⟩ ⟨I, J⟩ ⟨[], I, by decide⟩ ?_ ?_
 rintro b u m H s ob w n ⟨rfl, rfl⟩ h y
 have A := Cn n
 refine Ah I (Aa fun K B => Bs I A (sL ?_))
 subst B
 refine sN (sM (Ah I (sN ?_)))
 obtain ⟨M, D, h⟩ := Ac h
 refine sH (An 5 [.x 3 b (Ba u)] I ⟨⟨I, Ae w⟩, J⟩ (sJ [] I (Cl I (.refl _) o I (.rest _) I (p _ _ D) dS (by rintro _ _ ⟨rfl, _⟩; rfl) ?_)))
 rintro _ ⟨_, rfl, -⟩
 refine sI (Ar h I ?_ ?_)
 intro E h
 refine Ah I ?_
 obtain rfl := y _ (oi h).symm
 replace h := j
 replace h := C1 h
 obtain rfl := oi h
 exact sO pr
 intro E h
 refine sL (sH (An 2 [.k 0 (b + 1 : Nat)] I ⟨A0 n q, J⟩ ?_))
 obtain rfl := oi h
 exact sI ⟨_, _, _, I, I2, J4, [], I, by decide⟩
 rintro m s ob ⟨rfl, rfl⟩ he
 subst he
 have h := C6 j
 have F := Co a.length
 refine Ah I (Aa fun N O => Bu I F (sQ ?_))
 exact lg ⟨(), h, I2⟩ []
 rintro s ob ⟨i, h, rfl, rfl⟩
 refine Ah I ?_
 obtain rfl := oi h
 exact sO pr
theorem eL (b : List Sn) (F1 : T) {d : FuncId} {e f : List T} (i : Jf F1 = some (d, e, f)) (a : Sn → Option Bool) (j : ∀ (g : Sn) r, a g = some r → ACalls Aj d (e ++ [.agg (Ba g)] ++ f) [] fun x new => x = .v (.bool r) ∧ new = []) (r : Bool) (h : Ps b a = some r) : ACalls Aj 133 [Q8 b, F1] [] (fun x new => x = .v (.bool r) ∧ new = []) := by
 refine Ad Tryz.func133 I I I fun C hC => ?_
 refine Ah I (sN ?_)
 obtain ⟨l, k, h⟩ := Ac h
 refine sH (Ag 2 I (Cc (Ti _ F1 i a j _ k) (Ag 2 I (sI ?_))))
 obtain rfl := oi h
 exact sO pr
theorem dQ (a : Sg) (r : Bool) (h : Mr a = r) : ACalls Aj 121 [.agg (Ak a)] [] (fun x new => x = .v (.bool r) ∧ new = []) := by
 refine Ad Tryz.func121 I I I fun C hC => ?_
 unfold Mr at h
 refine Aa fun d c => sH (sJ [] I (Bo (Ak a) 7 fun e => Ag 1 I (sI ?_)))
 subst c
 refine Ai (fun s ob => s = [(2, .v (.bool (decide ((a.Points.length : Int) < 2) || decide ((a.Points.length : Int) > 8))))] ∧ ob = []) [] J ?_ ?_
 refine sH (An 5 [.o 1 0, .l 2 (a.Points.length : Int)] I ⟨Ay, I, J⟩ ?_)
 rcases bt (decide ((a.Points.length : Int) < 2)) with b | b
 refine Af 7 I b (Ag 6 I (sI ?_))
 exact lf I2 ⟨(Dn (by simp only [b, bz])), J⟩ [] I
 refine Af 7 I b (An 6 [.o 1 0, .l 2 (a.Points.length : Int)] I ⟨Ay, I, J⟩ (sI ?_))
 exact lf I2 ⟨(Dn (by simp only [b, bz])), J⟩ [] I
 rintro s ob ⟨rfl, rfl⟩
 obtain rfl := h
 exact sO pr
theorem fO (a : Nw) (r : Bool) (h : Vl a = some r) : ACalls Aj 72 [.agg (Ab a)] [] (fun x new => x = .v (.bool r) ∧ new = []) := by
 refine Ad Tryz.func72 I I I fun C hC => ?_
 unfold Vl at h
 refine Aa fun k g => sH (sJ [] I (Bo (Ab a) 6 fun n => Ag 1 I (sI ?_)))
 subst g
 refine sN (Ec 30 (decide ((a.Nodes.length : Int) < 1) || (decide ((a.Nodes.length : Int) > 24) || (decide ((a.Segments.length : Int) > 32) || (decide ((a.Ports.length : Int) > 24) || decide ((a.Stations.length : Int) > 12))))) ?_ ?_)
 refine sH (An 5 [.o 1 0, .l 2 (a.Nodes.length : Int)] I ⟨Ay, I, J⟩ ?_)
 rcases bt (decide ((a.Nodes.length : Int) < 1)) with b | b
 refine Af 7 I b (Ag 23 I (sI ?_))
 exact jf (by simp only [b, bz]) I I I2
 refine Af 7 I b (An 6 [.o 1 0, .l 2 (a.Nodes.length : Int)] I ⟨Ay, I, J⟩ ?_)
 rcases bt (decide ((a.Nodes.length : Int) > 24)) with d | d
 refine Af 13 I d (Ag 17 I (sI ?_))
 exact jf (by simp only [b, d, bz]) I I I2
 refine Af 13 I d (An 6 [.o 1 0, .l 2 (a.Segments.length : Int)] I ⟨Ay, I, J⟩ ?_)
 rcases bt (decide ((a.Segments.length : Int) > 32)) with e | e
 refine Af 19 I e (Ag 11 I (sI ?_))
 exact jf (by simp only [b, d, e, bz]) I I I2
 refine Af 19 I e (An 6 [.o 1 0, .l 2 (a.Ports.length : Int)] I ⟨Ay, I, J⟩ ?_)
 rcases bt (decide ((a.Ports.length : Int) > 24)) with f | f
 refine Af 25 I f (Ag 5 I (sI ?_))
 exact jf (by simp only [b, d, e, f, bz]) I I I2
 refine Af 25 I f (An 5 [.o 1 0, .l 2 (a.Stations.length : Int)] I ⟨Ay, I, J⟩ (sI ?_))
 exact jf (by simp only [b, d, e, f, bz]) I I I2
 refine Ar h I ?_ ?_
 intro i h
 refine Ah I (sP g0 ?_)
 obtain rfl := oi h
 exact sO pr
 intro i h
 refine sL (sN ?_)
 obtain ⟨p, j, h⟩ := Ac h
 refine sH (An 2 [.o 1 0] I J1 (Cc (Tk _ (.v (.func (.func 121) #[] #[])) I (fun x => some (Mr x)) (fun x r h => by obtain I := oi h; exact dQ x _ I) _ j) (Ag 2 I (sI (sP g0 ?_)))))
 obtain rfl := oi h
 exact sO pr
theorem Tv (b : Nw) (g : Plan) (r : Li) (h : Kt b g = some r) : ACalls Aj 46 [.agg (Ab b), .agg (Am g)] [] (fun x new => ∃ (P : Value), x = .v P ∧ new = [U0 P r]) := by
 refine Ad Tryz.func46 I I I fun C hC => ?_
 refine Aa fun y1 ab => sH (sJ [] I (Bo (Ab b) 6 fun n => sJ [] I (Bo (Am g) 3 fun p => Ag 1 I (sI ?_))))
 subst ab
 refine AW.scope (Ah I (Aa fun y5 ac => ?_))
 obtain ⟨l6, ⟨m8, ad, ae, af⟩, h⟩ := Gm h
 refine sH (An 3 [.o 1 0, .l 2 (b.Nodes.length : Int)] I ⟨Ay, I, J⟩ (sJ [] I (Bp (sz := 1) I I I I I I I I I I ad ae (Cr (f := rB) af I) dS fun u => Ag 1 I (sI ?_))))
 subst ac
 refine Aa fun ba ag => AW.label ?_
 subst ag
 refine Ai (fun s ob => ∃ (E : Li) (w : Value), Kt.J1 E = some r ∧ s = [(5, .v w)] ∧ ob = [U0 w E]) [] J ?_ ?_
 refine Ah I (sM (sP (Bv 3 1) ?_))
 obtain ⟨bb, ah, ai⟩ := Ac h
 clear h
 refine Cs ah [(2, _), (3, _), (6, _)] J3 (fun (a : Li × (List Bool) × Int) s ob => ∃ (e : Value), s = [(5, .v e), (7, .V a.2.2)] ∧ ob = [O0 n [Ab b], O1 p [Am g], U1 u a.2.1, U0 e a.1]) ⟨(.slice none 0 0), I2⟩ ⟨I, I, J⟩ ⟨[0, 1, 2, 3], I, by decide⟩ ?_
 rintro a Q s ob ⟨e, rfl, rfl⟩ h aj
 refine Aa fun bc ak => Bh [.o 2 0, .l 3 (b.Nodes.length : Int)] I ⟨Ay, I, J⟩ (Ar h I ?_ ?_)
 intro al h
 refine sL ?_
 subst ak
 refine Ai (fun s ob => ∃ (A : Li × (List Bool) × Int) (F : Value), Kt.J3 A = some Q ∧ s = [(5, .v F), (7, .V A.2.2)] ∧ ob = [O0 n [Ab b], O1 p [Am g], U1 u A.2.1, U0 F A.1]) [(2, _), (3, _), (6, _)] J3 ?_ ?_
 refine sM (Aa fun bd am => sN ?_)
 obtain ⟨i, ⟨R, G⟩, h⟩ := A5 h
 refine sH (Ag 2 I (sV (Bm 2 (m := i.1) I I I I I I I R (Ae G)) I (sV (Bl 2 i.1 0 I I I (Ae G) I (y := .v (.bool i.2)) I) I (sI (Ar h I ?_ ?_)))))
 intro an h
 refine sQ ?_
 exact lg ⟨(a.1, a.2.1, a.2.2), e, h, I2⟩ [0, 1, 2, 3]
 intro an h
 refine sL ?_
 subst am
 refine Ai (fun s ob => ∃ (S : Unit), Kt.J4 a i S = some Q ∧ s = [] ∧ ob = [O0 n [Ab b], O1 p [Am g], U1 u a.2.1, U0 e a.1]) [(2, _), (3, _), (5, _), (6, _), (7, _)] J5 ?_ ?_
 refine Bh [.o 1 0, .l 2 (b.Segments.length : Int)] I ⟨Ay, I, J⟩ (sM (Bz 28 I fun ao => ?_))
 obtain ⟨be, aq, U⟩ := Ac h
 clear h
 refine Bx aq [(2, _), (3, _), (5, _), (6, _), (7, _), (28, _), (29, _)] J7 (fun (H : Nat) (W : Unit) s ob => s = [(30, .V (H : Int))] ∧ ob = [O0 n [Ab b], O1 p [Am g], U1 u a.2.1, U0 e a.1]) ⟨I, I⟩ ⟨I, J⟩ ⟨[0, 1, 2, 3], I, by decide⟩ ?_ ?_
 rintro H K W ar s ob au X ⟨rfl, rfl⟩ h av
 have aw := Cn X
 refine Ah I (Aa fun bf ax => Bs I aw (sL ?_))
 subst ax
 refine sN (sM (Aa fun bg ay => sH (An 3 [.x 1 H (Ak K)] I ⟨⟨I, Ae au⟩, J⟩ (sJ [] I (sS W2 7 fun bh => Ag 1 I (sJ [4] I (A3 4 0 0 [Ak K] I (sI ?_))))))))
 subst ay
 refine Aa fun bi az => ?_
 obtain ⟨j, ⟨Y, Z⟩, h⟩ := A5 h
 refine By (pd 12 0 [6]) [4, 1] [_, _] I (B8 6 [.o 0 0, .o 2 1, .x 4 j.1 (rI j.2)] I ⟨⟨Y, Ae Z⟩, I, I, J⟩ (Dp I (N9 K j.2 _ I) (Bg 5 I (Ap (sI ?_)))))
 subst az
 refine Ai (fun s ob => ∃ (O : Bool), Kt.J6 a O = some ar ∧ s = [(62, .v (.bool O))] ∧ ob = [O0 n [Ab b], O1 p [Am g], U1 u a.2.1, U0 e a.1]) [(2, _), (3, _), (5, _), (6, _), (7, _), (28, _), (29, _), (30, _)] J8 ?_ ?_
 refine sH (An 7 [.o 1 1, .x 3 j.1 (rI j.2)] I ⟨⟨Y, Ae Z⟩, I, J⟩ ?_)
 rcases bt ((j.2 != 0)) with B | B
 replace h := Bq B h
 refine Af 51 I B ?_
 rcases bt ((((Bn K j.2).2) == a.2.2)) with D | D
 replace h := Bq D h
 obtain ⟨M, ⟨a0, aa⟩, h⟩ := A5 h
 refine Ag 5 I (Af 56 I D (Ag 2 I (Cd I I I (sV (Bm 2 (m := M.1) I I I I I I I a0 (Ae aa)) I (Cd I I I (sV (Bl 2 M.1 0 I I I (Ae aa) I (y := .v (.bool M.2)) I) I (Ag 2 I (sI ?_))))))))
 exact lg ⟨(!M.2), h, I2⟩ [0, 1, 2, 3]
 replace h := Br D h
 refine Ag 5 I (Af 56 I D (Ag 6 I (sI ?_)))
 exact lg ⟨false, h, I2⟩ [0, 1, 2, 3]
 replace h := Br B h
 refine Af 51 I B (Ag 11 I (sI ?_))
 exact lg ⟨false, h, I2⟩ [0, 1, 2, 3]
 rintro s ob ⟨O, h, rfl, rfl⟩
 refine Ar h I ?_ ?_
 intro a1 h
 obtain rfl := av _ (oi h).symm
 replace h := U
 replace h := C1 h
 refine sQ ?_
 exact lg ⟨(a.1, a.2.1, a.2.2), e, h, I2⟩ [0, 1, 2, 3]
 intro a1 h
 refine sL (sH (An 2 [.k 0 (H + 1 : Nat)] I ⟨A0 X ao, J⟩ ?_))
 obtain rfl := oi h
 exact sI ⟨_, _, _, I, I2, J8, [0, 1, 2, 3], I, by decide⟩
 rintro W s ob ⟨rfl, rfl⟩ he
 subst he
 have h := C6 U
 have a2 := Co b.Segments.length
 refine Ah I (Aa fun bj bk => Bu I a2 (sQ ?_))
 exact lg ⟨(), h, I2⟩ [0, 1, 2, 3]
 rintro s ob ⟨S, h, rfl, rfl⟩
 refine sN (sH (Ag 2 I (sV (Bm 2 (m := i.1) I I I I I I I R (Ae G)) I (sJ [2] I (Cg 2 i.1 0 I I I (Ae G) I I I I (Ca I) I (Df (x := true) I) (sI (sN ?_)))))))
 obtain ⟨a3, a4, h⟩ := Ac h
 refine sH (Ag 2 I (sJ [] I (sR 1 (([a.2.2] : Li).map rI) (sJ [3] I (C7 3 I a4 fun a5 => Ag 1 I (sI (Sj I ?_)))))))
 exact lg ⟨(a3, (a.2.1.set i.1 true), (-1)), a5, h, I2⟩ [0, 1, 2, 3]
 rintro s ob ⟨A, F, h, rfl, rfl⟩
 refine sH (Ag 3 I ?_)
 obtain rfl := oi h
 exact sI ⟨_, _, _, I, ⟨F, I2⟩, J5, [0, 1, 2, 3], I, by decide⟩
 intro al h
 obtain rfl := aj _ (oi h).symm
 replace h := ai
 refine sQ ?_
 exact lg ⟨a.1, e, h, I2⟩ [3]
 rintro s ob ⟨E, w, h, rfl, rfl⟩
 refine Ah I ?_
 obtain rfl := oi h
 exact sO ⟨.inr I, [_], [U0 w E], J1, Cy I (Cm), ⟨w, I2⟩⟩
end Go.Proofs.YtodeekicjiengaaGreatDoor
