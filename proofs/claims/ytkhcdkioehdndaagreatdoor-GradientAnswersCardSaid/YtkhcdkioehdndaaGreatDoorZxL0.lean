/- Walks that show what functions of the program compute; printed by a program of ours. No condition. -/
import Derived.Test.YtkhcdkioehdndaaGreatDoorZxD
import Derived.Test.YtkhcdkioehdndaaGreatDoorZxB2
set_option maxRecDepth 100000
namespace Go.Proofs.YtkhcdkioehdndaaGreatDoor
open Go.Aw
set_option linter.unusedVariables false
set_option linter.unusedSimpArgs false
set_option maxHeartbeats 4000000
theorem Cu (a : Int) (c : Int) (d : Int) (r : Bool) (h : Cn a c d = r) : ACalls Ah 124 [.V a, .V c, .V d] [] (RB r) := by
 refine Ad Tryz.func124 I I I fun C hC => ?_
 unfold Cn at h
 refine Ai I (Aj (fun s ob => s = [(6, .v (.bool (decide (a ≥ c) && decide (a ≤ d))))] ∧ ob = []) [] J ?_ ?_)
 refine gN (Af 4 I ?_)
 rcases bt (decide (a ≥ c)) with b | b
 refine Ae 10 I b (Af 5 I (gO ?_))
 exact lf I2 ⟨(Dg (by simp only [b, bz])), J⟩ [] I
 refine Ae 10 I b (Af 5 I (gO ?_))
 exact lf I2 ⟨(Dg (by simp only [b, bz])), J⟩ [] I
 rintro s ob ⟨rfl, rfl⟩
 obtain rfl := h
 exact gT pr
theorem Xl (a : List Bt) (d : Bt) (r : Int) (h : Mp a d = some r) : ACalls Ah 115 [Q5 a, .v (.string d)] [] (RV (.V r)) := by
 refine Ad Tryz.func115 I I I fun C hC => ?_
 unfold Mp at h
 refine Ai I (Aj (fun s ob => ∃ (e : Unit), Mp.J1 e = some r ∧ s = [] ∧ ob = []) [] J ?_ ?_)
 refine A8 [.l 1 (a.length : Int)] I ⟨A2, J⟩ (gQ (B0 6 I fun m => ?_))
 obtain ⟨A, n, f⟩ := Ac h
 refine Bh n [(0, _), (1, _), (7, _)] J3 (fun (b : Nat) (g : Unit) s ob => s = [(8, .V (b : Int))] ∧ ob = []) ⟨I, I⟩ ⟨I, J⟩ ⟨[], I, by decide⟩ ?_ ?_
 rintro b i g B s ob o j ⟨rfl, rfl⟩ h q
 have t := Cr j
 refine Ai I (Ab fun D u => Bf I t (gS ?_))
 subst u
 refine gR (gQ (Ai I (gR (gN (Ao 5 [.x 3 b (rS i)] I ⟨⟨I, Ag o⟩, J⟩ (Bk (Yp.cmpS (c := Ol d i) I I I) I (gO (Ar h I ?_ ?_))))))))
 intro w h
 refine Ai I ?_
 obtain rfl := q _ (oi h).symm
 have h := f
 have h := Cq h
 cases io h
 exact gT pr
 intro w h
 refine gS (gN (Ao 2 [.k 0 (b + 1 : Nat)] I ⟨Az j m, J⟩ ?_))
 cases io h
 exact gO ⟨_, _, _, I, I2, J4, [], I, by decide⟩
 rintro g s ob ⟨rfl, rfl⟩ he
 subst he
 have h := C0 f
 have y := Cs a.length
 exact Ai I (Ab fun E F => Bg I y (gW (lg ⟨(), h, I2⟩ [])))
 rintro s ob ⟨e, h, rfl, rfl⟩
 unfold Mp.J1 at h
 refine Ai I ?_
 cases io h
 exact gT pr
theorem Yy (a : Li) (F1 : T) {c : FuncId} {d e : List T} (o : Kg F1 = some (c, d, e)) (f : Int → Option Bool) (p : ∀ (g : Int) r, f g = some r → ACalls Ah c (d ++ [.V g] ++ e) [] (RB r)) (r : Int) (h : M6 a f = some r) : ACalls Ah 134 [Q2 a, F1] [] (RV (.V r)) := by
 refine Ad Tryz.func134 I I I fun C hC => ?_
 unfold M6 at h
 refine Ai I (Aj (fun s ob => ∃ (i : Unit), M6.J1 i = some r ∧ s = [] ∧ ob = []) [] J ?_ ?_)
 refine A8 [.l 1 (a.length : Int)] I ⟨A2, J⟩ (gQ (B0 6 I fun q => ?_))
 obtain ⟨G, t, j⟩ := Ac h
 refine Bh t [(0, _), (1, _), (7, _)] J3 (fun (b : Nat) (m : Unit) s ob => s = [(8, .V (b : Int))] ∧ ob = []) ⟨I, I⟩ ⟨I, J⟩ ⟨[], I, by decide⟩ ?_ ?_
 rintro b u m H s ob w n ⟨rfl, rfl⟩ h y
 have A := Cr n
 refine Ai I (Ab fun K B => Bf I A (gS ?_))
 subst B
 refine gR (gQ (Ai I (gR ?_)))
 obtain ⟨M, D, h⟩ := Ac h
 refine gN (Ao 5 [.x 3 b (rI u)] I ⟨⟨I, Ag w⟩, J⟩ (gP [] I (By I (.refl _) o I (.rest _) I (p _ _ D) dS (by rintro _ _ ⟨rfl, _⟩; rfl) ?_)))
 rintro _ ⟨_, rfl, -⟩
 refine gO (Ar h I ?_ ?_)
 intro E h
 refine Ai I ?_
 obtain rfl := y _ (oi h).symm
 have h := j
 have h := Cq h
 cases io h
 exact gT pr
 intro E h
 refine gS (gN (Ao 2 [.k 0 (b + 1 : Nat)] I ⟨Az n q, J⟩ ?_))
 cases io h
 exact gO ⟨_, _, _, I, I2, J4, [], I, by decide⟩
 rintro m s ob ⟨rfl, rfl⟩ he
 subst he
 have h := C0 j
 have F := Cs a.length
 exact Ai I (Ab fun N O => Bg I F (gW (lg ⟨(), h, I2⟩ [])))
 rintro s ob ⟨i, h, rfl, rfl⟩
 unfold M6.J1 at h
 refine Ai I ?_
 cases io h
 exact gT pr
theorem Xg (b : Li) (F1 : T) {d : FuncId} {e f : List T} (i : Kg F1 = some (d, e, f)) (a : Int → Option Bool) (j : ∀ (g : Int) r, a g = some r → ACalls Ah d (e ++ [.V g] ++ f) [] (RB r)) (r : Bool) (h : Mk b a = some r) : ACalls Ah 118 [Q2 b, F1] [] (RB r) := by
 refine Ad Tryz.func118 I I I fun C hC => ?_
 refine Ai I (gR ?_)
 obtain ⟨l, k, h⟩ := Ac h
 refine gN (Af 2 I (Br (Yy _ F1 i a j _ k) (Af 2 I (gO ?_))))
 cases io h
 exact gT pr
theorem Xo (a : List Bt) (F1 : T) {c : FuncId} {d e : List T} (o : Kg F1 = some (c, d, e)) (f : Bt → Option Bool) (p : ∀ (g : Bt) r, f g = some r → ACalls Ah c (d ++ [.v (.string g)] ++ e) [] (RB r)) (r : Int) (h : Mq a f = some r) : ACalls Ah 114 [Q5 a, F1] [] (RV (.V r)) := by
 refine Ad Tryz.func114 I I I fun C hC => ?_
 unfold Mq at h
 refine Ai I (Aj (fun s ob => ∃ (i : Unit), Mq.J1 i = some r ∧ s = [] ∧ ob = []) [] J ?_ ?_)
 refine A8 [.l 1 (a.length : Int)] I ⟨A2, J⟩ (gQ (B0 6 I fun q => ?_))
 obtain ⟨G, t, j⟩ := Ac h
 refine Bh t [(0, _), (1, _), (7, _)] J3 (fun (b : Nat) (m : Unit) s ob => s = [(8, .V (b : Int))] ∧ ob = []) ⟨I, I⟩ ⟨I, J⟩ ⟨[], I, by decide⟩ ?_ ?_
 rintro b u m H s ob w n ⟨rfl, rfl⟩ h y
 have A := Cr n
 refine Ai I (Ab fun K B => Bf I A (gS ?_))
 subst B
 refine gR (gQ (Ai I (gR ?_)))
 obtain ⟨M, D, h⟩ := Ac h
 refine gN (Ao 5 [.x 3 b (rS u)] I ⟨⟨I, Ag w⟩, J⟩ (gP [] I (By I (.refl _) o I (.rest _) I (p _ _ D) dS (by rintro _ _ ⟨rfl, _⟩; rfl) ?_)))
 rintro _ ⟨_, rfl, -⟩
 refine gO (Ar h I ?_ ?_)
 intro E h
 refine Ai I ?_
 obtain rfl := y _ (oi h).symm
 have h := j
 have h := Cq h
 cases io h
 exact gT pr
 intro E h
 refine gS (gN (Ao 2 [.k 0 (b + 1 : Nat)] I ⟨Az n q, J⟩ ?_))
 cases io h
 exact gO ⟨_, _, _, I, I2, J4, [], I, by decide⟩
 rintro m s ob ⟨rfl, rfl⟩ he
 subst he
 have h := C0 j
 have F := Cs a.length
 exact Ai I (Ab fun N O => Bg I F (gW (lg ⟨(), h, I2⟩ [])))
 rintro s ob ⟨i, h, rfl, rfl⟩
 unfold Mq.J1 at h
 refine Ai I ?_
 cases io h
 exact gT pr
theorem Xz (b : List Bt) (F1 : T) {d : FuncId} {e f : List T} (i : Kg F1 = some (d, e, f)) (a : Bt → Option Bool) (j : ∀ (g : Bt) r, a g = some r → ACalls Ah d (e ++ [.v (.string g)] ++ f) [] (RB r)) (r : Bool) (h : Mv b a = some r) : ACalls Ah 91 [Q5 b, F1] [] (RB r) := by
 refine Ad Tryz.func91 I I I fun C hC => ?_
 refine Ai I (gR ?_)
 obtain ⟨l, k, h⟩ := Ac h
 refine gN (Af 2 I (Br (Xo _ F1 i a j _ k) (Af 2 I (gO ?_))))
 cases io h
 exact gT pr
theorem Yw (a : List Sg) (F1 : T) {c : FuncId} {d e : List T} (o : Kg F1 = some (c, d, e)) (f : Sg → Option Bool) (p : ∀ (g : Sg) r, f g = some r → ACalls Ah c (d ++ [.agg (Aa g)] ++ e) [] (RB r)) (r : Int) (h : M5 a f = some r) : ACalls Ah 133 [.list 7 (a.map Aa), F1] [] (RV (.V r)) := by
 refine Ad Tryz.func133 I I I fun C hC => ?_
 unfold M5 at h
 refine Ai I (Aj (fun s ob => ∃ (i : Unit), M5.J1 i = some r ∧ s = [] ∧ ob = []) [] J ?_ ?_)
 refine A8 [.l 1 (a.length : Int)] I ⟨A2, J⟩ (gQ (B0 6 I fun q => ?_))
 obtain ⟨G, t, j⟩ := Ac h
 refine Bh t [(0, _), (1, _), (7, _)] J3 (fun (b : Nat) (m : Unit) s ob => s = [(8, .V (b : Int))] ∧ ob = []) ⟨I, I⟩ ⟨I, J⟩ ⟨[], I, by decide⟩ ?_ ?_
 rintro b u m H s ob w n ⟨rfl, rfl⟩ h y
 have A := Cr n
 refine Ai I (Ab fun K B => Bf I A (gS ?_))
 subst B
 refine gR (gQ (Ai I (gR ?_)))
 obtain ⟨M, D, h⟩ := Ac h
 refine gN (Ao 5 [.x 3 b (Aa u)] I ⟨⟨I, Ag w⟩, J⟩ (gP [] I (By I (.refl _) o I (.rest _) I (p _ _ D) dS (by rintro _ _ ⟨rfl, _⟩; rfl) ?_)))
 rintro _ ⟨_, rfl, -⟩
 refine gO (Ar h I ?_ ?_)
 intro E h
 refine Ai I ?_
 obtain rfl := y _ (oi h).symm
 have h := j
 have h := Cq h
 cases io h
 exact gT pr
 intro E h
 refine gS (gN (Ao 2 [.k 0 (b + 1 : Nat)] I ⟨Az n q, J⟩ ?_))
 cases io h
 exact gO ⟨_, _, _, I, I2, J4, [], I, by decide⟩
 rintro m s ob ⟨rfl, rfl⟩ he
 subst he
 have h := C0 j
 have F := Cs a.length
 exact Ai I (Ab fun N O => Bg I F (gW (lg ⟨(), h, I2⟩ [])))
 rintro s ob ⟨i, h, rfl, rfl⟩
 unfold M5.J1 at h
 refine Ai I ?_
 cases io h
 exact gT pr
theorem Pp (b : List Sg) (F1 : T) {d : FuncId} {e f : List T} (i : Kg F1 = some (d, e, f)) (a : Sg → Option Bool) (j : ∀ (g : Sg) r, a g = some r → ACalls Ah d (e ++ [.agg (Aa g)] ++ f) [] (RB r)) (r : Bool) (h : Kl b a = some r) : ACalls Ah 112 [.list 7 (b.map Aa), F1] [] (RB r) := by
 refine Ad Tryz.func112 I I I fun C hC => ?_
 refine Ai I (gR ?_)
 obtain ⟨l, k, h⟩ := Ac h
 refine gN (Af 2 I (Br (Yw _ F1 i a j _ k) (Af 2 I (gO ?_))))
 cases io h
 exact gT pr
theorem Xv (a : List Port) (F1 : T) {c : FuncId} {d e : List T} (o : Kg F1 = some (c, d, e)) (f : Port → Option Bool) (p : ∀ (g : Port) r, f g = some r → ACalls Ah c (d ++ [.agg (Cx g)] ++ e) [] (RB r)) (r : Int) (h : Mr a f = some r) : ACalls Ah 135 [.list 3 (a.map Cx), F1] [] (RV (.V r)) := by
 refine Ad Tryz.func135 I I I fun C hC => ?_
 unfold Mr at h
 refine Ai I (Aj (fun s ob => ∃ (i : Unit), Mr.J1 i = some r ∧ s = [] ∧ ob = []) [] J ?_ ?_)
 refine A8 [.l 1 (a.length : Int)] I ⟨A2, J⟩ (gQ (B0 6 I fun q => ?_))
 obtain ⟨G, t, j⟩ := Ac h
 refine Bh t [(0, _), (1, _), (7, _)] J3 (fun (b : Nat) (m : Unit) s ob => s = [(8, .V (b : Int))] ∧ ob = []) ⟨I, I⟩ ⟨I, J⟩ ⟨[], I, by decide⟩ ?_ ?_
 rintro b u m H s ob w n ⟨rfl, rfl⟩ h y
 have A := Cr n
 refine Ai I (Ab fun K B => Bf I A (gS ?_))
 subst B
 refine gR (gQ (Ai I (gR ?_)))
 obtain ⟨M, D, h⟩ := Ac h
 refine gN (Ao 5 [.x 3 b (Cx u)] I ⟨⟨I, Ag w⟩, J⟩ (gP [] I (By I (.refl _) o I (.rest _) I (p _ _ D) dS (by rintro _ _ ⟨rfl, _⟩; rfl) ?_)))
 rintro _ ⟨_, rfl, -⟩
 refine gO (Ar h I ?_ ?_)
 intro E h
 refine Ai I ?_
 obtain rfl := y _ (oi h).symm
 have h := j
 have h := Cq h
 cases io h
 exact gT pr
 intro E h
 refine gS (gN (Ao 2 [.k 0 (b + 1 : Nat)] I ⟨Az n q, J⟩ ?_))
 cases io h
 exact gO ⟨_, _, _, I, I2, J4, [], I, by decide⟩
 rintro m s ob ⟨rfl, rfl⟩ he
 subst he
 have h := C0 j
 have F := Cs a.length
 exact Ai I (Ab fun N O => Bg I F (gW (lg ⟨(), h, I2⟩ [])))
 rintro s ob ⟨i, h, rfl, rfl⟩
 unfold Mr.J1 at h
 refine Ai I ?_
 cases io h
 exact gT pr
theorem Yl (b : List Port) (F1 : T) {d : FuncId} {e f : List T} (i : Kg F1 = some (d, e, f)) (a : Port → Option Bool) (j : ∀ (g : Port) r, a g = some r → ACalls Ah d (e ++ [.agg (Cx g)] ++ f) [] (RB r)) (r : Bool) (h : M2 b a = some r) : ACalls Ah 122 [.list 3 (b.map Cx), F1] [] (RB r) := by
 refine Ad Tryz.func122 I I I fun C hC => ?_
 refine Ai I (gR ?_)
 obtain ⟨l, k, h⟩ := Ac h
 refine gN (Af 2 I (Br (Xv _ F1 i a j _ k) (Af 2 I (gO ?_))))
 cases io h
 exact gT pr
theorem Po (a : List Sn) (F1 : T) {c : FuncId} {d e : List T} (o : Kg F1 = some (c, d, e)) (f : Sn → Option Bool) (p : ∀ (g : Sn) r, f g = some r → ACalls Ah c (d ++ [.agg (A9 g)] ++ e) [] (RB r)) (r : Int) (h : Kk a f = some r) : ACalls Ah 116 [.list 5 (a.map A9), F1] [] (RV (.V r)) := by
 refine Ad Tryz.func116 I I I fun C hC => ?_
 unfold Kk at h
 refine Ai I (Aj (fun s ob => ∃ (i : Unit), Kk.J1 i = some r ∧ s = [] ∧ ob = []) [] J ?_ ?_)
 refine A8 [.l 1 (a.length : Int)] I ⟨A2, J⟩ (gQ (B0 6 I fun q => ?_))
 obtain ⟨G, t, j⟩ := Ac h
 refine Bh t [(0, _), (1, _), (7, _)] J3 (fun (b : Nat) (m : Unit) s ob => s = [(8, .V (b : Int))] ∧ ob = []) ⟨I, I⟩ ⟨I, J⟩ ⟨[], I, by decide⟩ ?_ ?_
 rintro b u m H s ob w n ⟨rfl, rfl⟩ h y
 have A := Cr n
 refine Ai I (Ab fun K B => Bf I A (gS ?_))
 subst B
 refine gR (gQ (Ai I (gR ?_)))
 obtain ⟨M, D, h⟩ := Ac h
 refine gN (Ao 5 [.x 3 b (A9 u)] I ⟨⟨I, Ag w⟩, J⟩ (gP [] I (By I (.refl _) o I (.rest _) I (p _ _ D) dS (by rintro _ _ ⟨rfl, _⟩; rfl) ?_)))
 rintro _ ⟨_, rfl, -⟩
 refine gO (Ar h I ?_ ?_)
 intro E h
 refine Ai I ?_
 obtain rfl := y _ (oi h).symm
 have h := j
 have h := Cq h
 cases io h
 exact gT pr
 intro E h
 refine gS (gN (Ao 2 [.k 0 (b + 1 : Nat)] I ⟨Az n q, J⟩ ?_))
 cases io h
 exact gO ⟨_, _, _, I, I2, J4, [], I, by decide⟩
 rintro m s ob ⟨rfl, rfl⟩ he
 subst he
 have h := C0 j
 have F := Cs a.length
 exact Ai I (Ab fun N O => Bg I F (gW (lg ⟨(), h, I2⟩ [])))
 rintro s ob ⟨i, h, rfl, rfl⟩
 unfold Kk.J1 at h
 refine Ai I ?_
 cases io h
 exact gT pr
theorem Xh (b : List Sn) (F1 : T) {d : FuncId} {e f : List T} (i : Kg F1 = some (d, e, f)) (a : Sn → Option Bool) (j : ∀ (g : Sn) r, a g = some r → ACalls Ah d (e ++ [.agg (A9 g)] ++ f) [] (RB r)) (r : Bool) (h : Ml b a = some r) : ACalls Ah 125 [.list 5 (b.map A9), F1] [] (RB r) := by
 refine Ad Tryz.func125 I I I fun C hC => ?_
 refine Ai I (gR ?_)
 obtain ⟨l, k, h⟩ := Ac h
 refine gN (Af 2 I (Br (Po _ F1 i a j _ k) (Af 2 I (gO ?_))))
 cases io h
 exact gT pr
theorem Wt (a : Sg) (r : Bool) (h : Ip a = r) : ACalls Ah 113 [.agg (Aa a)] [] (RB r) := by
 refine Ad Tryz.func113 I I I fun C hC => ?_
 unfold Ip at h
 refine Ab fun d c => gN (gP [] I (Cc (Aa a) 7 fun e => Af 1 I (gO ?_)))
 subst c
 refine Aj (fun s ob => s = [(2, .v (.bool (decide ((a.Points.length : Int) < 2) || decide ((a.Points.length : Int) > 8))))] ∧ ob = []) [] J ?_ ?_
 refine gN (Ao 5 [.o 1 0, .l 2 (a.Points.length : Int)] I ⟨A2, I, J⟩ ?_)
 rcases bt (decide ((a.Points.length : Int) < 2)) with b | b
 refine Ae 7 I b (Af 6 I (gO ?_))
 exact lf I2 ⟨(Dg (by simp only [b, bz])), J⟩ [] I
 refine Ae 7 I b (Ao 6 [.o 1 0, .l 2 (a.Points.length : Int)] I ⟨A2, I, J⟩ (gO ?_))
 exact lf I2 ⟨(Dg (by simp only [b, bz])), J⟩ [] I
 rintro s ob ⟨rfl, rfl⟩
 obtain rfl := h
 exact gT pr
theorem Xx (a : Nw) (r : Bool) (h : Mt a = some r) : ACalls Ah 89 [.agg (An a)] [] (RB r) := by
 refine Ad Tryz.func89 I I I fun C hC => ?_
 unfold Mt at h
 refine Ab fun k g => gN (gP [] I (Cc (An a) 6 fun n => Af 1 I (gO ?_)))
 subst g
 refine gR (Ew 30 (decide ((a.Nodes.length : Int) < 1) || (decide ((a.Nodes.length : Int) > 24) || (decide ((a.Segments.length : Int) > 32) || (decide ((a.Ports.length : Int) > 24) || decide ((a.Stations.length : Int) > 12))))) ?_ ?_)
 refine gN (Ao 5 [.o 1 0, .l 2 (a.Nodes.length : Int)] I ⟨A2, I, J⟩ ?_)
 rcases bt (decide ((a.Nodes.length : Int) < 1)) with b | b
 exact Ae 7 I b (Af 23 I (gO (jf (by simp only [b, bz]) I I I2)))
 refine Ae 7 I b (Ao 6 [.o 1 0, .l 2 (a.Nodes.length : Int)] I ⟨A2, I, J⟩ ?_)
 rcases bt (decide ((a.Nodes.length : Int) > 24)) with d | d
 exact Ae 13 I d (Af 17 I (gO (jf (by simp only [b, d, bz]) I I I2)))
 refine Ae 13 I d (Ao 6 [.o 1 0, .l 2 (a.Segments.length : Int)] I ⟨A2, I, J⟩ ?_)
 rcases bt (decide ((a.Segments.length : Int) > 32)) with e | e
 exact Ae 19 I e (Af 11 I (gO (jf (by simp only [b, d, e, bz]) I I I2)))
 refine Ae 19 I e (Ao 6 [.o 1 0, .l 2 (a.Ports.length : Int)] I ⟨A2, I, J⟩ ?_)
 rcases bt (decide ((a.Ports.length : Int) > 24)) with f | f
 exact Ae 25 I f (Af 5 I (gO (jf (by simp only [b, d, e, f, bz]) I I I2)))
 exact Ae 25 I f (Ao 5 [.o 1 0, .l 2 (a.Stations.length : Int)] I ⟨A2, I, J⟩ (gO (jf (by simp only [b, d, e, f, bz]) I I I2)))
 refine Ar h I ?_ ?_
 intro i h
 refine Ai I (gU g0 ?_)
 cases io h
 exact gT pr
 intro i h
 refine gS (gR ?_)
 obtain ⟨p, j, h⟩ := Ac h
 refine gN (Ao 2 [.o 1 0] I J1 (Br (Pp _ (.v (.func (.func 113) #[] #[])) I (fun x => some (Ip x)) (fun x r h => by obtain I := oi h; exact Wt x _ I) _ j) (Af 2 I (gO (gU g0 ?_)))))
 cases io h
 exact gT pr
theorem P8 (a : Int) (r : Int) (h : Hi a = r) : ACalls Ah 100 [.v (.int .u8 a)] [] (RV (.V r)) := by
 refine Ad Tryz.func100 I I I fun C hC => ?_
 unfold Hi at h
 refine Ai I (gR (gQ (Aj (fun s ob => ∃ (e : Unit), Hi.J1 e = r ∧ s = [] ∧ ob = []) [] J ?_ ?_)))
 refine gQ (gQ (gR (gQ (gR (Ab fun k f => Ew 3 (decide (a ≥ 97) && decide (a ≤ 122)) ?_ ?_)))))
 refine gN (Af 1 I (Bk (hE (c := decide (a ≥ 97)) I I I) I (Af 1 I ?_)))
 rcases bt (decide (a ≥ 97)) with b | b
 exact Ae 6 I b (Af 1 I (Bm I I I (Bk (hE (c := decide (a ≤ 122)) I I I) I (Af 2 I (gO (jf (by simp only [b, bz]) I I I2))))))
 exact Ae 6 I b (Af 4 I (gO (jf (by simp only [b, bz]) I I I2)))
 refine Ar h I ?_ ?_
 intro g h
 refine gW (gR (Ai I ?_))
 obtain rfl := h
 exact gT pr
 intro g h
 refine gS ?_
 subst f
 refine gR (Ew 10 (decide (a ≥ 48) && decide (a ≤ 57)) ?_ ?_)
 refine gN (Af 1 I (Bk (hE (c := decide (a ≥ 48)) I I I) I (Af 1 I ?_)))
 rcases bt (decide (a ≥ 48)) with d | d
 exact Ae 13 I d (Af 1 I (Bm I I I (Bk (hE (c := decide (a ≤ 57)) I I I) I (Af 2 I (gO (jf (by simp only [d, bz]) I I I2))))))
 exact Ae 13 I d (Af 4 I (gO (jf (by simp only [d, bz]) I I I2)))
 refine Ar h I ?_ ?_
 intro i h
 exact gW (lg ⟨(), h, I2⟩ [])
 intro i h
 refine gS (gR (gN (Af 1 I (Bk (hE (c := (a == 45)) I I I) I (Af 1 I (gO (Ar h I ?_ ?_)))))))
 intro j h
 exact gW (lg ⟨(), h, I2⟩ [])
 intro j h
 refine gS (gW (Ai I ?_))
 obtain rfl := h
 exact gT pr
 rintro s ob ⟨e, h, rfl, rfl⟩
 unfold Hi.J1 at h
 refine gR (Ai I ?_)
 obtain rfl := h
 exact gT pr
theorem Qa (a : Bt) (r : Bool) (h : Fy a = some r) : ACalls Ah 79 [.v (.string a)] [] (RB r) := by
 refine Ad Tryz.func79 I I I fun C hC => ?_
 unfold Fy at h
 refine Ai I (Ab fun S o => Aj (fun s ob => ∃ (f : Bool), Fy.J1 a f = some r ∧ s = [(17, .v (.bool f))] ∧ ob = []) [(0, _)] J1 ?_ ?_)
 refine gN (Af 4 I ?_)
 rcases bt (decide ((a.size : Int) < 1)) with b | b
 have h := Bp b h
 exact Ae 7 I b (Af 10 I (gO (lg ⟨true, h, I2⟩ [])))
 have h := Bq b h
 refine Ae 7 I b ?_
 rcases bt (decide ((a.size : Int) > 12)) with d | d
 have h := Bp d h
 exact Af 5 I (Ae 12 I d (Af 5 I (gO (lg ⟨true, h, I2⟩ []))))
 have h := Bq d h
 obtain ⟨g, t, h⟩ := Ac h
 obtain ⟨u, w, y⟩ := Jq t
 exact Af 5 I (Ae 12 I d (Af 1 I (Bm I I I (Bk (Ce (m := g.1) I I I I u w y) I (Bm I I I (Br (P8 g.2 _ I) (Af 2 I (gO (lg ⟨((Hi g.2) != 1), h, I2⟩ [])))))))))
 rintro s ob ⟨f, h, rfl, rfl⟩
 refine Ar h I ?_ ?_
 intro A h
 refine Ai I ?_
 cases io h
 exact gT pr
 intro A h
 refine gS ?_
 subst o
 refine Aj (fun s ob => ∃ (i : Unit), Fy.J2 i = some r ∧ s = [] ∧ ob = []) [] J ?_ ?_
 refine Ai I (gQ ?_)
 obtain ⟨U, B, h⟩ := Ac h
 have D : (a.size : Int).toNat ≤ 9223372036854775806 := by have := aB B; omega
 obtain ⟨W, E, j⟩ := Ac h
 refine Do E [(0, _), (19, _)] J2 (fun (e : Nat) (l : Unit) s ob => s = [(20, .V (e : Int))] ∧ ob = []) ⟨I, I⟩ ⟨I, J⟩ ⟨[], I, by decide⟩ ?_ ?_
 rintro e l X s ob F ⟨rfl, rfl⟩ h G
 have H : decide ((e : Int) < (a.size : Int)) = true := decide_eq_true (by omega)
 refine Ai I (Ab fun Y K => Bf I H (gS ?_))
 subst K
 refine gR (gQ (Ai I (gR ?_)))
 obtain ⟨n, M, h⟩ := Ac h
 obtain ⟨N, O, P⟩ := Jq M
 refine gN (Af 2 I (Bk (Ce (m := n.1) I I I I N O P) I (Br (P8 n.2 _ I) (Af 1 I (gO (Ar h I ?_ ?_))))))
 intro Q h
 refine Ai I ?_
 obtain rfl := G _ (oi h).symm
 have h := j
 have h := Cq h
 cases io h
 exact gT pr
 intro Q h
 refine gS (gN (Ao 2 [.k 0 (e + 1 : Nat)] I ⟨Az F D, J⟩ ?_))
 cases io h
 exact gO ⟨_, _, _, I, I2, J3, [], I, by decide⟩
 rintro l s ob ⟨rfl, rfl⟩ he
 subst he
 have h := C0 j
 have R : decide ((((a.size : Int).toNat : Nat) : Int) < (a.size : Int)) = false := decide_eq_false (by omega)
 exact Ai I (Ab fun Z aa => Bg I R (gW (lg ⟨(), h, I2⟩ [])))
 rintro s ob ⟨i, h, rfl, rfl⟩
 unfold Fy.J2 at h
 refine Ai I ?_
 cases io h
 exact gT pr
theorem Qb (a : Nw) (r : Arr (List Bt) 4) (h : K2 a = some r) : ACalls Ah 90 [.agg (An a)] [] (RV (.agg (r.l.map (cL 1 rS)))) := by
 refine Ad Tryz.func90 I I I fun C hC => ?_
 unfold K2 at h
 refine Ab fun y1 U => gN (gP [] I (Cc (An a) 6 fun u => gP [] I (Bl W2 4 fun f => gO ?_)))
 subst U
 refine Ab fun y4 W => gN (gP [] I (Bl W2 4 fun g => gO ?_))
 subst W
 refine Ab fun y6 X => gN (Ao 2 [.o 1 0] I J1 (Bk (Cy (m := 0) I I I I I I (Bn I)) I (gP [2] I (Bc 2 0 0 [[Q5 a.Nodes, .N, .N, .N]] I (gO ?_)))))
 subst X
 refine Aj (fun s ob => ∃ (c : List Bt) (b : Value), K2.J1 a c = some r ∧ s = [] ∧ ob = [O3 u [An a], O4 f [W2], O4 g [[Q5 a.Nodes, .v b, .N, .N]], U1 b c]) [(1, _), (2, _), (3, _)] J3 ?_ ?_
 refine A8 [.o 1 0, .l 2 (a.Segments.length : Int)] I ⟨A2, I, J⟩ (gQ (B0 14 I fun Y => gU (Be 9 1) ?_))
 obtain ⟨a5, Z, aa⟩ := Ac h
 refine Ds Z [(1, _), (2, _), (3, _), (14, _), (15, _)] J5 (fun (w : Nat) (y : List Bt) s ob => ∃ (j : Value), s = [(16, .V (w : Int))] ∧ ob = [O3 u [An a], O4 f [W2], O4 g [[Q5 a.Nodes, .v j, .N, .N]], U1 j y]) ⟨(.slice none 0 0), I2⟩ ⟨I, J⟩ ⟨[0, 1, 2, 3], I, by decide⟩ ?_ ?_
 rintro w F y a6 s ob ab M ⟨j, rfl, rfl⟩ h
 have ac := Cr M
 refine Ai I (Ab fun a7 ad => Bf I ac (gS ?_))
 subst ad
 refine gR (gQ (gR (gN (Ao 2 [.x 0 w (Aa F)] I ⟨⟨I, Ag ab⟩, J⟩ (gP [] I (Bl W0 7 fun a8 => gP [4] I (Bc 4 0 0 [Aa F] I (gO ?_))))))))
 obtain ⟨a9, ae, h⟩ := Ac h
 refine gN (Bk (Cy (m := 1) I I I I I I (Bn I)) I (Ao 3 [.o 0 2, .o 2 4] I J2 (gP [] I (gY 1 (([F.Name] : List Bt).map rS) (gP [3] I (Dd 3 I ae fun O => Bk (Cy (m := 1) I I I I I I (Bn I)) I (AO.one 3 I fun af => gP [2] I (hM 2 0 1 (es' := [[Q5 a.Nodes, .v O, .N, .N]]) I I I I I I (Dm af) I (Bn I) I I (gO (gN (Ao 2 [.k 0 (w + 1 : Nat)] I ⟨Az M Y, J⟩ ?_)))))))))))
 cases io h
 exact gO (lg ⟨O, I2⟩ [0, 1, 2, 3])
 rintro y s ob ⟨j, rfl, rfl⟩ he
 subst he
 have h := aa
 have ag := Cs a.Segments.length
 exact Ai I (Ab fun ba bb => Bg I ag (gW (lg ⟨y, j, h, I2⟩ [0, 1, 2, 3])))
 rintro s ob ⟨c, b, h, rfl, rfl⟩
 unfold K2.J1 at h
 refine Aj (fun s ob => ∃ (e : List Bt) (d : Value), K2.J2 a c e = some r ∧ s = [] ∧ ob = [O3 u [An a], O4 f [W2], O4 g [[Q5 a.Nodes, .v b, .v d, .N]], U1 b c, U1 d e]) [(1, _), (2, _), (3, _)] J3 ?_ ?_
 refine A8 [.o 1 0, .l 2 (a.Ports.length : Int)] I ⟨A2, I, J⟩ (gQ (B0 29 I fun ah => gU (Be 9 1) ?_))
 obtain ⟨bc, ai, aj⟩ := Ac h
 refine Ds ai [(1, _), (2, _), (3, _), (29, _), (30, _)] J5 (fun (A : Nat) (B : List Bt) s ob => ∃ (n : Value), s = [(31, .V (A : Int))] ∧ ob = [O3 u [An a], O4 f [W2], O4 g [[Q5 a.Nodes, .v b, .v n, .N]], U1 b c, U1 n B]) ⟨(.slice none 0 0), I2⟩ ⟨I, J⟩ ⟨[0, 1, 2, 3, 4], I, by decide⟩ ?_ ?_
 rintro A G B bd s ob ak P ⟨n, rfl, rfl⟩ h
 have al := Cr P
 refine Ai I (Ab fun be am => Bf I al (gS ?_))
 subst am
 refine gR (gQ (gR (gN (Ao 2 [.x 0 A (Cx G)] I ⟨⟨I, Ag ak⟩, J⟩ (gP [] I (Bl W4 3 fun bf => gP [5] I (Bc 5 0 0 [Cx G] I (gO ?_))))))))
 obtain ⟨bg, an, h⟩ := Ac h
 refine gN (Bk (Cy (m := 2) I I I I I I (Bn I)) I (Ao 3 [.o 0 2, .o 2 5] I J2 (gP [] I (gY 1 (([G.Name] : List Bt).map rS) (gP [4] I (Dd 4 I an fun Q => Bk (Cy (m := 2) I I I I I I (Bn I)) I (AO.one 4 I fun ao => gP [2] I (hM 2 0 2 (es' := [[Q5 a.Nodes, .v b, .v Q, .N]]) I I I I I I (Dm ao) I (Bn I) I I (gO (gN (Ao 2 [.k 0 (A + 1 : Nat)] I ⟨Az P ah, J⟩ ?_)))))))))))
 cases io h
 exact gO (lg ⟨Q, I2⟩ [0, 1, 2, 3, 4])
 rintro B s ob ⟨n, rfl, rfl⟩ he
 subst he
 have h := aj
 have aq := Cs a.Ports.length
 exact Ai I (Ab fun bh bi => Bg I aq (gW (lg ⟨B, n, h, I2⟩ [0, 1, 2, 3, 4])))
 rintro s ob ⟨e, d, h, rfl, rfl⟩
 unfold K2.J2 at h
 refine Aj (fun s ob => ∃ (q : List Bt) (i : Value), K2.J3 a c e q = some r ∧ s = [] ∧ ob = [O4 f [W2], O4 g [[Q5 a.Nodes, .v b, .v d, .v i]], U1 b c, U1 d e, U1 i q]) [(2, _), (3, _)] J2 ?_ ?_
 refine A8 [.o 1 0, .l 2 (a.Stations.length : Int)] I ⟨A2, I, J⟩ (gQ (B0 44 I fun ar => gU (Be 9 1) ?_))
 obtain ⟨bj, au, av⟩ := Ac h
 refine Ds au [(2, _), (3, _), (44, _), (45, _)] J4 (fun (D : Nat) (E : List Bt) s ob => ∃ (t : Value), s = [(46, .V (D : Int))] ∧ ob = [O4 f [W2], O4 g [[Q5 a.Nodes, .v b, .v d, .v t]], U1 b c, U1 d e, U1 t E]) ⟨(.slice none 0 0), I2⟩ ⟨I, J⟩ ⟨[1, 2, 3, 4, 5], I, by decide⟩ ?_ ?_
 rintro D H E bk s ob aw R ⟨t, rfl, rfl⟩ h
 have ax := Cr R
 refine Ai I (Ab fun bl ay => Bf I ax (gS ?_))
 subst ay
 refine gR (gQ (gR (gN (Ao 2 [.x 0 D (A9 H)] I ⟨⟨I, Ag aw⟩, J⟩ (gP [] I (Bl W3 5 fun bm => gP [5] I (Bc 5 0 0 [A9 H] I (gO ?_))))))))
 obtain ⟨bn, az, h⟩ := Ac h
 refine gN (Bk (Cy (m := 3) I I I I I I (Bn I)) I (Ao 3 [.o 0 1, .o 2 5] I J2 (gP [] I (gY 1 (([H.Name] : List Bt).map rS) (gP [4] I (Dd 4 I az fun S => Bk (Cy (m := 3) I I I I I I (Bn I)) I (AO.one 4 I fun a0 => gP [1] I (hM 1 0 3 (es' := [[Q5 a.Nodes, .v b, .v d, .v S]]) I I I I I I (Dm a0) I (Bn I) I I (gO (gN (Ao 2 [.k 0 (D + 1 : Nat)] I ⟨Az R ar, J⟩ ?_)))))))))))
 cases io h
 exact gO (lg ⟨S, I2⟩ [0, 1, 2, 3, 4])
 rintro E s ob ⟨t, rfl, rfl⟩ he
 subst he
 have h := av
 have a1 := Cs a.Stations.length
 exact Ai I (Ab fun bo bp => Bg I a1 (gW (lg ⟨E, t, h, I2⟩ [0, 1, 2, 3, 4])))
 rintro s ob ⟨q, i, h, rfl, rfl⟩
 unfold K2.J3 at h
 refine gR (gN (Ao 1 [.o 0 1] I J1 (gP [0] I (Bc 0 0 0 [[Q5 a.Nodes, .v b, .v d, .v i]] I (gO (gU (Ba [2, 3, 4] (K := [U1 b c, U1 d e, U1 i q]) I [] J (ob' := [O4 f [[Q5 a.Nodes, Q5 c, Q5 e, Q5 q]], O4 g [[Q5 a.Nodes, .v b, .v d, .v i]]]) (.cons (.arr (.cons (.refl _) (.cons (.us 0 I) (.cons (.us 1 I) (.cons (.us 2 I) (.rest _)))))) (.rest _))) (Em [0] I ?_)))))))
 cases io h
 exact gT ⟨.inr I, [_], [], ⟨⟨0, _, _, _, _, _, _, _, I5⟩, J⟩, Cv, I2⟩
theorem Xk (a : Sn) (b : Sn) (r : Bool) (h : Hf a b = r) : ACalls Ah 117 [.agg (A9 a), .eptr (A9 b)] [] (RB r) := by
 refine Ad Tryz.func117 I I I fun C hC => ?_
 unfold Hf at h
 refine gR (gN (gP [] I (Cc (A9 a) 5 fun c => Af 1 I (gO (A8 [.o 1 0] I J1 (gU g0 ?_))))))
 obtain rfl := h
 exact gT pr
theorem Wx (a : Nw) (r : Bool) (h : Mh a = some r) : ACalls Ah 93 [.agg (An a)] [] (RB r) := by
 refine Ad Tryz.func93 I I I fun C hC => ?_
 unfold Mh at h
 refine Ab fun y1 G => gN (gP [] I (Cc (An a) 6 fun b => Af 1 I (gO ?_)))
 subst G
 refine Aj (fun s ob => ∃ (j : Unit), Mh.J1 a j = some r ∧ s = [] ∧ ob = [O3 b [An a]]) [(1, _)] J1 ?_ ?_
 refine Ab fun aw H => ?_
 obtain ⟨ax, K, h⟩ := Ac h
 refine gN (Ao 1 [.o 0 0] I J1 (gP [] I (A5 I I I (Qb _ _ K) dS ?_)))
 rintro _ _ ⟨rfl, rfl⟩
 refine Af 1 I (gO ?_)
 subst H
 refine gQ ?_
 have M : (4 : Nat) ≤ 9223372036854775806 := by decide
 obtain ⟨ay, N, n⟩ := Ac h
 refine Do N [(1, _), (10, _)] J2 (fun (e : Nat) (t : Unit) s ob => s = [(11, .V (e : Int))] ∧ ob = [O3 b [An a]]) ⟨I, I⟩ ⟨I, J⟩ ⟨[0], I, by decide⟩ ?_ ?_
 rintro e t O s ob P ⟨rfl, rfl⟩ h Q
 unfold Mh.B4 at h
 have R : decide ((e : Int) < 4) = true := decide_eq_true (by omega)
 refine Ai I (Ab fun az S => Bf I R (gS ?_))
 subst S
 refine Aj (fun s ob => ∃ (u : Unit), Mh.J5 u = some O ∧ s = [] ∧ ob = [O3 b [An a]]) [(1, _), (10, _), (11, _)] J3 ?_ ?_
 refine gQ (Ab fun a0 U => ?_)
 obtain ⟨i, ⟨W, X⟩, h⟩ := A7 h
 refine gN (Bk (Gg (m := i.1) I I I I I I I W X (hlen := Arr.h _)) I (Af 1 I (gO ?_)))
 subst U
 refine A8 [.l 1 (i.2.length : Int)] I ⟨A2, J⟩ (gQ (B0 14 I fun Y => ?_))
 obtain ⟨a1, Z, w⟩ := Ac h
 refine Bh Z [(1, _), (4, _), (10, _), (11, _), (14, _), (15, _)] J6 (fun (f : Nat) (y : Unit) s ob => s = [(16, .V (f : Int))] ∧ ob = [O3 b [An a]]) ⟨I, I⟩ ⟨I, J⟩ ⟨[0], I, by decide⟩ ?_ ?_
 rintro f aa y a2 s ob ab A ⟨rfl, rfl⟩ h ac
 have ad := Cr A
 refine Ai I (Ab fun a3 ae => Bf I ad (gS ?_))
 subst ae
 refine gR (gQ (A8 [.x 1 f (rS aa)] I ⟨⟨I, Ag ab⟩, J⟩ (gR ?_)))
 obtain ⟨a4, af, h⟩ := Ac h
 refine gN (Af 2 I (Br (Xl _ _ _ af) (Af 2 I (gO (Ar h I ?_ ?_)))))
 intro ag h
 refine Ai I ?_
 obtain rfl := ac _ (oi h).symm
 have h := w
 have h := Cq h
 obtain rfl := Q _ (oi h).symm
 have h := n
 have h := Cq h
 refine gU g0 ?_
 cases io h
 exact gT pr
 intro ag h
 refine gS (gN (Ao 2 [.k 0 (f + 1 : Nat)] I ⟨Az A Y, J⟩ ?_))
 cases io h
 exact gO ⟨_, _, _, I, I2, J7, [0], I, by decide⟩
 rintro y s ob ⟨rfl, rfl⟩ he
 subst he
 have h := C0 w
 have ah := Cs i.2.length
 exact Ai I (Ab fun a5 a6 => Bg I ah (gW (lg ⟨(), h, I2⟩ [0])))
 rintro s ob ⟨u, h, rfl, rfl⟩
 unfold Mh.J5 at h
 refine gN (Ao 2 [.k 0 (e + 1 : Nat)] I ⟨Az P M, J⟩ ?_)
 cases io h
 exact gO ⟨_, _, _, I, I2, J3, [0], I, by decide⟩
 rintro t s ob ⟨rfl, rfl⟩ he
 subst he
 have h := C0 n
 have ai : decide (((4 : Nat) : Int) < 4) = false := by simp
 exact Ai I (Ab fun a7 a8 => Bg I ai (gW (lg ⟨(), h, I2⟩ [0])))
 rintro s ob ⟨j, h, rfl, rfl⟩
 unfold Mh.J1 at h
 refine Aj (fun s ob => ∃ (B : Unit), Mh.J2 B = some r ∧ s = [] ∧ ob = []) [] J ?_ ?_
 refine A8 [.o 1 0, .l 2 (a.Stations.length : Int)] I ⟨A2, I, J⟩ (gQ (B0 29 I fun aj => ?_))
 obtain ⟨a9, ak, D⟩ := Ac h
 refine Bh ak [(1, _), (29, _), (30, _)] J3 (fun (g : Nat) (E : Unit) s ob => s = [(31, .V (g : Int))] ∧ ob = [O3 b [An a]]) ⟨I, I⟩ ⟨I, J⟩ ⟨[0], I, by decide⟩ ?_ ?_
 rintro g d E ba s ob al F ⟨rfl, rfl⟩ h am
 have an := Cr F
 refine Ai I (Ab fun bb ao => Bf I an (gS ?_))
 subst ao
 refine gR (gQ (Ab fun bc ap => gN (Ao 3 [.x 1 g (A9 d)] I ⟨⟨I, Ag al⟩, J⟩ (gP [] I (Bl W3 5 fun bd => Af 1 I (gP [1] I (Bc 1 0 0 [A9 d] I (gO ?_))))))))
 subst ap
 refine gR ?_
 obtain ⟨be, aq, h⟩ := Ac h
 refine gN (Ao 2 [.o 1 0] I J1 (Bk (Yp.makeFunc I I) I (gP [] I (By I (.refl _) I I (.cons (.refl _) (.cons (.fn (.rest _) (.cons (.box 1 I (.rest _)) (.rest _))) (.rest _))) I (Po _ (.fn 117 [] [.eptr (A9 d)]) I (fun x => some (Hf x d)) (fun x r h => by obtain I := oi h; exact Xk x d _ I) _ aq) dS (by rintro _ _ ⟨rfl, _⟩; rfl) ?_))))
 rintro _ ⟨_, rfl, -⟩
 refine Af 2 I (gO (Ar h I ?_ ?_))
 intro ar h
 refine Ai I ?_
 obtain rfl := am _ (oi h).symm
 have h := D
 have h := Cq h
 refine gU g0 ?_
 cases io h
 exact gT pr
 intro ar h
 refine gS (gN (Ao 2 [.k 0 (g + 1 : Nat)] I ⟨Az F aj, J⟩ ?_))
 cases io h
 exact gO ⟨_, _, _, I, I2, J4, [0], I, by decide⟩
 rintro E s ob ⟨rfl, rfl⟩ he
 subst he
 have h := C0 D
 have au := Cs a.Stations.length
 exact Ai I (Ab fun bf bg => Bg I au (gW (lg ⟨(), h, I2⟩ [])))
 rintro s ob ⟨B, h, rfl, rfl⟩
 unfold Mh.J2 at h
 refine Ai I ?_
 cases io h
 exact gT pr
theorem Wy (a : Int) (c : Nw) (r : Bool) (h : Iq a c = r) : ACalls Ah 119 [.V a, .eptr (An c)] [] (RB r) := by
 refine Ad Tryz.func119 I I I fun C hC => ?_
 unfold Iq at h
 refine Ai I (Aj (fun s ob => s = [(3, .v (.bool (decide (a < 0) || decide (a ≥ (c.Nodes.length : Int)))))] ∧ ob = []) [] J ?_ ?_)
 refine gN (Af 3 I ?_)
 rcases bt (decide (a < 0)) with b | b
 refine Ae 6 I b (Af 7 I (gO ?_))
 exact lf I2 ⟨(Dg (by simp only [b, bz])), J⟩ [] I
 refine Ae 6 I b (Ao 7 [.l 3 (c.Nodes.length : Int)] I ⟨A2, J⟩ (gO ?_))
 exact lf I2 ⟨(Dg (by simp only [b, bz])), J⟩ [] I
 rintro s ob ⟨rfl, rfl⟩
 obtain rfl := h
 exact gT pr
theorem Ys (a : Nw) (r : Bool) (h : M3 a = some r) : ACalls Ah 94 [.agg (An a)] [] (RB r) := by
 refine Ad Tryz.func94 I I I fun C hC => ?_
 unfold M3 at h
 refine Ab fun y1 O => gN (gP [] I (Cc (An a) 6 fun b => Af 1 I (gO ?_)))
 subst O
 refine Ai I (Aj (fun s ob => ∃ (A : Li) (f : Value), M3.J1 a A = some r ∧ s = [(3, .v f)] ∧ ob = [O3 b [An a], U0 f A]) [(1, _)] J1 ?_ ?_)
 refine A8 [.o 1 0, .l 2 (a.Segments.length : Int)] I ⟨A2, I, J⟩ (gQ (B0 11 I fun P => gU (Be 3 1) ?_))
 obtain ⟨ax, Q, R⟩ := Ac h
 refine Ds Q [(1, _), (11, _), (12, _)] J3 (fun (g : Nat) (i : Li) s ob => ∃ (c : Value), s = [(13, .V (g : Int)), (3, .v c)] ∧ ob = [O3 b [An a], U0 c i]) ⟨(.slice none 0 0), I2⟩ ⟨I, I, J⟩ ⟨[0, 1], I, by decide⟩ ?_ ?_
 rintro g j i ay s ob S H ⟨c, rfl, rfl⟩ h
 have U := Cr H
 refine Ai I (Ab fun az W => Bf I U (gS ?_))
 subst W
 refine gR (gQ (gR (gN (Ao 2 [.x 0 g (Aa j)] I ⟨⟨I, Ag S⟩, J⟩ (gP [] I (Bl W0 7 fun a0 => gP [2] I (Bc 2 0 0 [Aa j] I (gO ?_))))))))
 obtain ⟨a1, X, h⟩ := Ac h
 refine gN (Ao 5 [.o 2 2, .o 4 2] I J2 (gP [] I (gY 1 (([j.From, j.To] : Li).map rI) (gP [1] I (Dd 1 I X fun Y => Af 1 I (gO (gN (Ao 2 [.k 0 (g + 1 : Nat)] I ⟨Az H P, J⟩ ?_))))))))
 cases io h
 exact gO (lg ⟨Y, I2⟩ [0, 1])
 rintro i s ob ⟨c, rfl, rfl⟩ he
 subst he
 have h := R
 have Z := Cs a.Segments.length
 exact Ai I (Ab fun a2 a3 => Bg I Z (gW (lg ⟨i, c, h, I2⟩ [0, 1])))
 rintro s ob ⟨A, f, h, rfl, rfl⟩
 unfold M3.J1 at h
 refine Aj (fun s ob => ∃ (B : Li) (n : Value), M3.J2 a B = some r ∧ s = [(3, .v n)] ∧ ob = [O3 b [An a], U0 n B]) [(1, _)] J1 ?_ ?_
 refine A8 [.o 1 0, .l 2 (a.Ports.length : Int)] I ⟨A2, I, J⟩ (gQ (B0 26 I fun aa => ?_))
 obtain ⟨a4, ab, ac⟩ := Ac h
 refine Ds ab [(1, _), (26, _), (27, _)] J3 (fun (t : Nat) (u : Li) s ob => ∃ (d : Value), s = [(28, .V (t : Int)), (3, .v d)] ∧ ob = [O3 b [An a], U0 d u]) ⟨f, I2⟩ ⟨I, I, J⟩ ⟨[0, 1], I, by decide⟩ ?_ ?_
 rintro t D u a5 s ob ad K ⟨d, rfl, rfl⟩ h
 have ae := Cr K
 refine Ai I (Ab fun a6 af => Bf I ae (gS ?_))
 subst af
 refine gR (gQ (gR (gN (Ao 2 [.x 0 t (Cx D)] I ⟨⟨I, Ag ad⟩, J⟩ (gP [] I (Bl W4 3 fun a7 => gP [2] I (Bc 2 0 0 [Cx D] I (gO ?_))))))))
 obtain ⟨a8, ag, h⟩ := Ac h
 refine gN (Ao 3 [.o 2 2] I J1 (gP [] I (gY 1 (([D.Node] : Li).map rI) (gP [1] I (Dd 1 I ag fun ah => Af 1 I (gO (gN (Ao 2 [.k 0 (t + 1 : Nat)] I ⟨Az K aa, J⟩ ?_))))))))
 cases io h
 exact gO (lg ⟨ah, I2⟩ [0, 1])
 rintro u s ob ⟨d, rfl, rfl⟩ he
 subst he
 have h := ac
 have ai := Cs a.Ports.length
 exact Ai I (Ab fun a9 ba => Bg I ai (gW (lg ⟨u, d, h, I2⟩ [0, 1])))
 rintro s ob ⟨B, n, h, rfl, rfl⟩
 unfold M3.J2 at h
 refine Aj (fun s ob => ∃ (E : Li) (F : Value), M3.J3 a E = some r ∧ s = [(3, .v F)] ∧ ob = [O3 b [An a], U0 F E]) [(1, _)] J1 ?_ ?_
 refine A8 [.o 1 0, .l 2 (a.Stations.length : Int)] I ⟨A2, I, J⟩ (gQ (B0 39 I fun aj => ?_))
 obtain ⟨bb, ak, al⟩ := Ac h
 refine Ds ak [(1, _), (39, _), (40, _)] J3 (fun (w : Nat) (y : Li) s ob => ∃ (e : Value), s = [(41, .V (w : Int)), (3, .v e)] ∧ ob = [O3 b [An a], U0 e y]) ⟨n, I2⟩ ⟨I, I, J⟩ ⟨[0, 1], I, by decide⟩ ?_ ?_
 rintro w G y bc s ob am M ⟨e, rfl, rfl⟩ h
 have an := Cr M
 refine Ai I (Ab fun bd ao => Bf I an (gS ?_))
 subst ao
 refine gR (gQ (gR (gN (Ao 2 [.x 0 w (A9 G)] I ⟨⟨I, Ag am⟩, J⟩ (gP [] I (Bl W3 5 fun be => gP [2] I (Bc 2 0 0 [A9 G] I (gO ?_))))))))
 obtain ⟨bf, aq, h⟩ := Ac h
 refine gN (Ao 3 [.o 2 2] I J1 (gP [] I (gY 1 (([G.Node] : Li).map rI) (gP [1] I (Dd 1 I aq fun ar => Af 1 I (gO (gN (Ao 2 [.k 0 (w + 1 : Nat)] I ⟨Az M aj, J⟩ ?_))))))))
 cases io h
 exact gO (lg ⟨ar, I2⟩ [0, 1])
 rintro y s ob ⟨e, rfl, rfl⟩ he
 subst he
 have h := al
 have au := Cs a.Stations.length
 exact Ai I (Ab fun bg bh => Bg I au (gW (lg ⟨y, e, h, I2⟩ [0, 1])))
 rintro s ob ⟨E, F, h, rfl, rfl⟩
 refine gR ?_
 obtain ⟨bi, av, h⟩ := Ac h
 refine gN (Af 1 I (Bk (Yp.makeFunc I I) I (gP [] I (By I (.refl _) I I (.cons (.us 1 I) (.cons (.fn (.rest _) (.cons (.box 0 I (.rest _)) (.rest _))) (.rest _))) I (Xg _ (.fn 119 [] [.eptr (An a)]) I (fun x => some (Iq x a)) (fun x r h => by obtain I := oi h; exact Wy x a _ I) _ av) dS (by rintro _ _ ⟨rfl, _⟩; rfl) ?_))))
 rintro _ ⟨_, rfl, -⟩
 refine Af 2 I (gO (gU g0 ?_))
 cases io h
 exact gT pr
theorem Yr (a : Sg) (r : Bool) (h : I1 a = some r) : ACalls Ah 121 [.agg (Aa a)] [] (RB r) := by
 refine Ad Tryz.func121 I I I fun C hC => ?_
 unfold I1 at h
 refine Ab fun y1 H => gN (gP [] I (Cc (Aa a) 7 fun t => Af 1 I (gO ?_)))
 subst H
 refine Ab fun y3 K => Ew 27 ((a.From == a.To) || ((!(Cn a.Capacity 1 1000000)) || ((!(Cn a.Resist 0 1000)) || (!(Cn a.Wave 0 100000))))) ?_ ?_
 refine gN (Ao 6 [.o 1 0, .o 3 0] I J2 ?_)
 rcases bt ((a.From == a.To)) with d | d
 exact Ae 10 I d (Af 17 I (gO (jf (by simp only [d, bz]) I I I2)))
 refine Ae 10 I d (Ao 2 [.o 1 0] I J1 (Bm I I I (Br (Cu a.Capacity 1 1000000 _ I) (Af 3 I ?_))))
 rcases bt ((!(Cn a.Capacity 1 1000000))) with f | f
 exact Ae 16 I f (Af 11 I (gO (jf (by simp only [d, f, bz]) I I I2)))
 refine Ae 16 I f (Ao 2 [.o 1 0] I J1 (Bm I I I (Br (Cu a.Resist 0 1000 _ I) (Af 3 I ?_))))
 rcases bt ((!(Cn a.Resist 0 1000))) with i | i
 exact Ae 22 I i (Af 5 I (gO (jf (by simp only [d, f, i, bz]) I I I2)))
 exact Ae 22 I i (Ao 2 [.o 1 0] I J1 (Bm I I I (Br (Cu a.Wave 0 100000 _ I) (Af 2 I (gO (jf (by simp only [d, f, i, bz]) I I I2))))))
 refine Ar h I ?_ ?_
 intro M h
 refine Ai I (gU g0 ?_)
 cases io h
 exact gT pr
 intro M h
 refine gS ?_
 subst K
 refine Aj (fun s ob => ∃ (D : Unit), I1.J1 a D = some r ∧ s = [] ∧ ob = [O0 t [Aa a]]) [(1, _)] J1 ?_ ?_
 refine A8 [.o 1 0, .l 2 (a.Points.length : Int)] I ⟨A2, I, J⟩ (gQ (B0 29 I fun N => ?_))
 obtain ⟨ah, O, E⟩ := Ac h
 refine Bh O [(1, _), (29, _), (30, _)] J3 (fun (j : Nat) (F : Unit) s ob => s = [(31, .V (j : Int))] ∧ ob = [O0 t [Aa a]]) ⟨I, I⟩ ⟨I, J⟩ ⟨[0], I, by decide⟩ ?_ ?_
 rintro j b F P s ob Q G ⟨rfl, rfl⟩ h R
 unfold I1.B3 at h
 have S := Cr G
 refine Ai I (Ab fun ai U => Bf I S (gS ?_))
 subst U
 refine gR (gQ (Ab fun aj W => gN (Ao 3 [.x 1 j (A1 b)] I ⟨⟨I, Ag Q⟩, J⟩ (gP [] I (Bl W1 3 fun ak => Af 1 I (gP [1] I (Bc 1 0 0 [A1 b] I (gO ?_))))))))
 subst W
 refine Aj (fun s ob => ∃ (u : Bool), I1.J4 u = some P ∧ s = [(61, .v (.bool u))] ∧ ob = [O0 t [Aa a]]) [(1, _), (29, _), (30, _), (31, _)] J4 ?_ ?_
 rcases bt ((!(Cn b.Height (-500) 5000))) with e | e
 have h := Bp e h
 refine Ca (pd 26 0 [2, 7]) [1] [_] I (Cg 2 [.o 1 0] I J1 (Gh I (Cu b.Height (-500) 5000 _ I) (Bb 2 I (A0 40 I e (Bb 9 I (Av I I I I dS (Av I I I I dS (Av I I I I dS (Av I I I I dS (Av I I I I dS (Av I I I I dS (Av I I I I dS ?_))))))))))))
 exact Av I I I I dS (Av I I I I dS (Av I I I I dS (Bb 2 I (Ax (gO (lg ⟨true, h, I2⟩ [0]))))))
 have h := Bq e h
 rcases bt ((!(Cn b.Limit 0 100000000))) with g | g
 have h := Bp g h
 refine Ca (pd 26 0 [2, 7]) [1] [_] I (Cg 2 [.o 1 0] I J1 (Gh I (Cu b.Height (-500) 5000 _ I) (Bb 2 I (A0 40 I e (Cg 2 [.o 1 0] I J1 (Ik I (Cu b.Limit 0 100000000 _ I) (Bb 3 I (A0 46 I g (Bb 3 I (Av I I I I dS (Av I I I I dS (Av I I I I dS ?_))))))))))))
 exact Av I I I I dS (Av I I I I dS (Av I I I I dS (Av I I I I dS (Av I I I I dS (Av I I I I dS (Av I I I I dS (Bb 2 I (Ax (gO (lg ⟨true, h, I2⟩ [0]))))))))))
 have h := Bq g h
 rcases bt (decide ((j : Int) > 0)) with n | n
 have h := Bp n h
 obtain ⟨w, ⟨X, Y⟩, h⟩ := A7 h
 refine Ca (pd 26 0 [2, 7]) [1, 0] [_, _] I (Cg 2 [.o 1 0] I J1 (Gh I (Cu b.Height (-500) 5000 _ I) (Bb 2 I (A0 40 I e (Cg 2 [.o 1 0] I J1 (Ik I (Cu b.Limit 0 100000000 _ I) (Bb 3 I (A0 46 I g (Bb 3 I (A0 49 I n (Cg 12 [.o 1 0, .o 3 1, .x 6 w.1 (A1 w.2)] I ⟨⟨X, Ag Y⟩, I, I, J⟩ (Ax ?_))))))))))))
 exact gO (lg ⟨decide (b.At ≤ w.2.At), h, I2⟩ [0])
 have h := Bq n h
 refine Ca (pd 26 0 [2, 7]) [1] [_] I (Cg 2 [.o 1 0] I J1 (Gh I (Cu b.Height (-500) 5000 _ I) (Bb 2 I (A0 40 I e (Cg 2 [.o 1 0] I J1 (Ik I (Cu b.Limit 0 100000000 _ I) (Bb 3 I (A0 46 I g (Bb 3 I (A0 49 I n (Bb 12 I (Ax ?_))))))))))))
 exact gO (lg ⟨false, h, I2⟩ [0])
 rintro s ob ⟨u, h, rfl, rfl⟩
 refine Ar h I ?_ ?_
 intro Z h
 refine Ai I ?_
 obtain rfl := R _ (oi h).symm
 have h := E
 have h := Cq h
 refine gU g0 ?_
 cases io h
 exact gT pr
 intro Z h
 refine gS (gN (Ao 2 [.k 0 (j + 1 : Nat)] I ⟨Az G N, J⟩ ?_))
 cases io h
 exact gO ⟨_, _, _, I, I2, J4, [0], I, by decide⟩
 rintro F s ob ⟨rfl, rfl⟩ he
 subst he
 have h := C0 E
 have aa := Cs a.Points.length
 exact Ai I (Ab fun al am => Bg I aa (gW (lg ⟨(), h, I2⟩ [0])))
 rintro s ob ⟨D, h, rfl, rfl⟩
 unfold I1.J1 at h
 refine Aj (fun s ob => ∃ (y : Bool), I1.J2 y = some r ∧ s = [(2, .v (.bool y))] ∧ ob = []) [] J ?_ ?_
 obtain ⟨A, ⟨ab, ac⟩, h⟩ := A7 h
 refine Ca (pd 21 0 []) [0] [_] I (Cg 7 [.o 1 0, .x 2 A.1 (A1 A.2)] I ⟨⟨ab, Ag ac⟩, I, J⟩ ?_)
 rcases bt ((A.2.At == 0)) with p | p
 have h := Bp p h
 obtain ⟨B, ⟨ad, ae⟩, h⟩ := A7 h
 exact A0 69 I p (Cg 14 [.o 1 0, .o 3 0, .l 4 (a.Points.length : Int), .x 6 B.1 (A1 B.2), .o 10 0] I ⟨I, ⟨ad, Ag ae⟩, A2, I, I, J⟩ (Ax (gO (lg ⟨(B.2.At == a.Capacity), h, I2⟩ []))))
 have h := Bq p h
 exact A0 69 I p (Bb 14 I (Ax (gO (lg ⟨false, h, I2⟩ []))))
 rintro s ob ⟨y, h, rfl, rfl⟩
 unfold I1.J2 at h
 cases io h
 exact gT pr
theorem Wu (a : Sg) (r : Bool) (h : Qg a = some r) : ACalls Ah 120 [.agg (Aa a)] [] (RB r) := by
 refine Ad Tryz.func120 I I I fun C hC => ?_
 refine gR (gN (gP [] I (Cc (Aa a) 7 fun d => Af 1 I (gO (gR ?_)))))
 obtain ⟨e, b, h⟩ := Ac h
 refine gN (Ao 1 [.o 0 0] I J1 (Br (Yr _ _ b) (Af 2 I (gO (gU g0 ?_)))))
 cases io h
 exact gT pr
theorem W5 (a : Port) (r : Bool) (h : Ir a = r) : ACalls Ah 123 [.agg (Cx a)] [] (RB r) := by
 refine Ad Tryz.func123 I I I fun C hC => ?_
 unfold Ir at h
 refine gR (gN (gP [] I (Cc (Cx a) 3 fun b => Af 1 I (gO (gR (gN (Ao 2 [.o 1 0] I J1 (Br (Cu a.Pressure 0 100000000 _ I) (Af 2 I (gO (gU g0 ?_)))))))))))
 obtain rfl := h
 exact gT pr
theorem Yk (a : Sn) (r : Bool) (h : I0 a = r) : ACalls Ah 126 [.agg (A9 a)] [] (RB r) := by
 refine Ad Tryz.func126 I I I fun C hC => ?_
 unfold I0 at h
 refine Ab fun f e => gN (gP [] I (Cc (A9 a) 5 fun g => Af 1 I (gO ?_)))
 subst e
 refine Aj (fun s ob => s = [(2, .v (.bool ((!(Cn a.Head 0 100000000)) || ((!(Cn a.Fall 0 100000)) || (!(Cn a.Suction 0 100000000))))))] ∧ ob = []) [] J ?_ ?_
 refine gN (Ao 2 [.o 1 0] I J1 (Br (Cu a.Head 0 100000000 _ I) (Af 2 I ?_)))
 rcases bt ((!(Cn a.Head 0 100000000))) with b | b
 refine Ae 7 I b (Af 12 I (gO ?_))
 exact lf I2 ⟨(Dg (by simp only [b, bz])), J⟩ [] I
 refine Ae 7 I b (Ao 2 [.o 1 0] I J1 (Bm I I I (Br (Cu a.Fall 0 100000 _ I) (Af 3 I ?_))))
 rcases bt ((!(Cn a.Fall 0 100000))) with d | d
 refine Ae 13 I d (Af 6 I (gO ?_))
 exact lf I2 ⟨(Dg (by simp only [b, d, bz])), J⟩ [] I
 refine Ae 13 I d (Ao 2 [.o 1 0] I J1 (Bm I I I (Br (Cu a.Suction 0 100000000 _ I) (Af 3 I (gO ?_)))))
 exact lf I2 ⟨(Dg (by simp only [b, d, bz])), J⟩ [] I
 rintro s ob ⟨rfl, rfl⟩
 obtain rfl := h
 exact gT pr
theorem Ym (a : Nw) (r : Bool) (h : Qv a = some r) : ACalls Ah 95 [.agg (An a)] [] (RB r) := by
 refine Ad Tryz.func95 I I I fun C hC => ?_
 refine Ab fun p d => gN (gP [] I (Cc (An a) 6 fun t => Af 1 I (gO ?_)))
 subst d
 refine Ab fun u e => gR ?_
 obtain ⟨w, f, h⟩ := Ac h
 refine gN (Ao 2 [.o 1 0] I J1 (Br (Pp _ (.v (.func (.func 120) #[] #[])) I (fun x => Qg x) (fun x r h => Wu x r h) _ f) (gO (Ar h I ?_ ?_))))
 intro g h
 refine Ai I (gU g0 ?_)
 cases io h
 exact gT pr
 intro g h
 refine gS ?_
 subst e
 refine Ab fun y i => gR ?_
 obtain ⟨A, j, h⟩ := Ac h
 refine gN (Ao 2 [.o 1 0] I J1 (Br (Yl _ (.v (.func (.func 123) #[] #[])) I (fun x => some (Ir x)) (fun x r h => by obtain I := oi h; exact W5 x _ I) _ j) (gO (Ar h I ?_ ?_))))
 intro k h
 refine Ai I (gU g0 ?_)
 cases io h
 exact gT pr
 intro k h
 refine gS ?_
 subst i
 refine gR (gR ?_)
 obtain ⟨B, l, h⟩ := Ac h
 refine gN (Ao 2 [.o 1 0] I J1 (Br (Xh _ (.v (.func (.func 126) #[] #[])) I (fun x => some (I0 x)) (fun x r h => by obtain I := oi h; exact Yk x _ I) _ l) (gO (Ar h I ?_ ?_))))
 intro n h
 refine Ai I (gU g0 ?_)
 cases io h
 exact gT pr
 intro n h
 refine gS (Aj (fun s ob => s = [(2, .v (.bool ((Cn a.Vapour (-100000) 100000000) && (Cn a.Settle 0 100))))] ∧ ob = []) [] J ?_ ?_)
 refine gN (Ao 2 [.o 1 0] I J1 (Br (Cu a.Vapour (-100000) 100000000 _ I) (Af 1 I ?_)))
 rcases bt ((Cn a.Vapour (-100000) 100000000)) with b | b
 refine Ae 15 I b (Ao 2 [.o 1 0] I J1 (Bm I I I (Br (Cu a.Settle 0 100 _ I) (Af 2 I (gO ?_)))))
 exact lf I2 ⟨(Dg (by simp only [b, bz])), J⟩ [] I
 refine Ae 15 I b (Af 5 I (gO ?_))
 exact lf I2 ⟨(Dg (by simp only [b, bz])), J⟩ [] I
 rintro s ob ⟨rfl, rfl⟩
 cases io h
 exact gT pr
theorem Xq (a : Bt) (r : Bool) (h : Qn a = some r) : ACalls Ah 92 [.v (.string a)] [] (RB r) := by
 refine Ad Tryz.func92 I I I fun C hC => ?_
 refine Ai I (gR ?_)
 obtain ⟨d, b, h⟩ := Ac h
 refine gN (Af 1 I (Br (Qa _ _ b) (Af 2 I (gO ?_))))
 cases io h
 exact gT pr
theorem Yg (a : Nw) (r : Int) (h : G2 a = some r) : ACalls Ah 73 [.agg (An a)] [] (RV (.V r)) := by
 refine Ad Tryz.func73 I I I fun C hC => ?_
 refine Ab fun Y i => gN (gP [] I (Cc (An a) 6 fun d => Af 1 I (gO ?_)))
 subst i
 refine Ab fun Z j => gR ?_
 obtain ⟨r4, l, h⟩ := Ac h
 refine gN (Ao 1 [.o 0 0] I J1 (Br (Xx _ _ l) (Af 1 I (gO (Ar h I ?_ ?_)))))
 intro n h
 refine Ai I (gU g0 ?_)
 cases io h
 exact gT pr
 intro n h
 refine gS ?_
 subst j
 refine Aj (fun s ob => ∃ (e : Unit), G2.J1 a e = some r ∧ s = [] ∧ ob = [O3 d [An a]]) [(1, _)] J1 ?_ ?_
 refine Ab fun ab t => ?_
 obtain ⟨ac, u, h⟩ := Ac h
 refine gN (Ao 1 [.o 0 0] I J1 (gP [] I (A5 I I I (Qb _ _ u) dS ?_)))
 rintro _ _ ⟨rfl, rfl⟩
 refine Af 1 I (gO ?_)
 subst t
 refine gQ ?_
 have w : (4 : Nat) ≤ 9223372036854775806 := by decide
 obtain ⟨ad, y, f⟩ := Ac h
 refine Do y [(1, _), (9, _)] J2 (fun (b : Nat) (g : Unit) s ob => s = [(10, .V (b : Int))] ∧ ob = [O3 d [An a]]) ⟨I, I⟩ ⟨I, J⟩ ⟨[0], I, by decide⟩ ?_ ?_
 rintro b g ae s ob A ⟨rfl, rfl⟩ h B
 have D : decide ((b : Int) < 4) = true := decide_eq_true (by omega)
 refine Ai I (Ab fun af E => Bf I D (gS ?_))
 subst E
 refine gR (gQ (gR ?_))
 obtain ⟨F, ⟨G, H⟩, h⟩ := A7 h
 refine gN (Bk (Gg (m := F.1) I I I I I I I G H (hlen := Arr.h _)) I (Af 1 I (gO (gR ?_))))
 obtain ⟨ag, K, h⟩ := Ac h
 refine gN (Af 1 I (Br (Xz _ (.v (.func (.func 92) #[] #[])) I (fun x => Qn x) (fun x r h => Xq x r h) _ K) (gO (Ar h I ?_ ?_))))
 intro M h
 refine Ai I ?_
 obtain rfl := B _ (oi h).symm
 have h := f
 have h := Cq h
 refine gU g0 ?_
 cases io h
 exact gT pr
 intro M h
 refine gS (gN (Ao 2 [.k 0 (b + 1 : Nat)] I ⟨Az A w, J⟩ ?_))
 cases io h
 exact gO ⟨_, _, _, I, I2, J3, [0], I, by decide⟩
 rintro g s ob ⟨rfl, rfl⟩ he
 subst he
 have h := C0 f
 have N : decide (((4 : Nat) : Int) < 4) = false := by simp
 exact Ai I (Ab fun ah ai => Bg I N (gW (lg ⟨(), h, I2⟩ [0])))
 rintro s ob ⟨e, h, rfl, rfl⟩
 refine gR (gQ (Ab fun aj O => ?_))
 obtain ⟨ak, P, h⟩ := Ac h
 refine gN (Ao 1 [.o 0 0] I J1 (Br (Wx _ _ P) (Af 1 I (gO ?_))))
 subst O
 refine Ar h I ?_ ?_
 intro Q h
 refine Ai I (gU g0 ?_)
 cases io h
 exact gT pr
 intro Q h
 refine Ab fun al R => ?_
 obtain ⟨am, S, h⟩ := Ac h
 refine gN (Ao 1 [.o 0 0] I J1 (Br (Ys _ _ S) (Af 2 I (gO ?_))))
 subst R
 refine Ar h I ?_ ?_
 intro U h
 refine Ai I (gU g0 ?_)
 cases io h
 exact gT pr
 intro U h
 refine gR ?_
 obtain ⟨an, W, h⟩ := Ac h
 refine gN (Ao 1 [.o 0 0] I J1 (Br (Ym _ _ W) (Af 2 I (gO (Ar h I ?_ ?_)))))
 intro X h
 refine Ai I (gU g0 ?_)
 cases io h
 exact gT pr
 intro X h
 refine gS (Ai I (gU g0 ?_))
 cases io h
 exact gT pr
theorem Ch (a : Int) (c : Int) (d : Int) (r : Bool) (h : Bo a c d = r) : ACalls Ah 96 [.V a, .V c, .V d] [] (RB r) := by
 refine Ad Tryz.func96 I I I fun C hC => ?_
 unfold Bo at h
 refine Ai I (Aj (fun s ob => s = [(6, .v (.bool (decide (a ≥ c) && decide (a ≤ d))))] ∧ ob = []) [] J ?_ ?_)
 refine gN (Af 4 I ?_)
 rcases bt (decide (a ≥ c)) with b | b
 refine Ae 10 I b (Af 5 I (gO ?_))
 exact lf I2 ⟨(Dg (by simp only [b, bz])), J⟩ [] I
 refine Ae 10 I b (Af 5 I (gO ?_))
 exact lf I2 ⟨(Dg (by simp only [b, bz])), J⟩ [] I
 rintro s ob ⟨rfl, rfl⟩
 obtain rfl := h
 exact gT pr
theorem Ye (a : Nw) (r : Arr (List Bt) 4) (h : Mz a = some r) : ACalls Ah 97 [.agg (An a)] [] (RV (.agg (r.l.map (cL 1 rS)))) := by
 refine Ad Tryz.func97 I I I fun C hC => ?_
 unfold Mz at h
 refine Ab fun y1 U => gN (gP [] I (Cc (An a) 6 fun u => gP [] I (Bl W2 4 fun f => gO ?_)))
 subst U
 refine Ab fun y4 W => gN (gP [] I (Bl W2 4 fun g => gO ?_))
 subst W
 refine Ab fun y6 X => gN (Ao 2 [.o 1 0] I J1 (Bk (Cy (m := 0) I I I I I I (Bn I)) I (gP [2] I (Bc 2 0 0 [[Q5 a.Nodes, .N, .N, .N]] I (gO ?_)))))
 subst X
 refine Aj (fun s ob => ∃ (c : List Bt) (b : Value), Mz.J1 a c = some r ∧ s = [] ∧ ob = [O3 u [An a], O4 f [W2], O4 g [[Q5 a.Nodes, .v b, .N, .N]], U1 b c]) [(1, _), (2, _), (3, _)] J3 ?_ ?_
 refine A8 [.o 1 0, .l 2 (a.Segments.length : Int)] I ⟨A2, I, J⟩ (gQ (B0 14 I fun Y => gU (Be 9 1) ?_))
 obtain ⟨a5, Z, aa⟩ := Ac h
 refine Ds Z [(1, _), (2, _), (3, _), (14, _), (15, _)] J5 (fun (w : Nat) (y : List Bt) s ob => ∃ (j : Value), s = [(16, .V (w : Int))] ∧ ob = [O3 u [An a], O4 f [W2], O4 g [[Q5 a.Nodes, .v j, .N, .N]], U1 j y]) ⟨(.slice none 0 0), I2⟩ ⟨I, J⟩ ⟨[0, 1, 2, 3], I, by decide⟩ ?_ ?_
 rintro w F y a6 s ob ab M ⟨j, rfl, rfl⟩ h
 have ac := Cr M
 refine Ai I (Ab fun a7 ad => Bf I ac (gS ?_))
 subst ad
 refine gR (gQ (gR (gN (Ao 2 [.x 0 w (Aa F)] I ⟨⟨I, Ag ab⟩, J⟩ (gP [] I (Bl W0 7 fun a8 => gP [4] I (Bc 4 0 0 [Aa F] I (gO ?_))))))))
 obtain ⟨a9, ae, h⟩ := Ac h
 refine gN (Bk (Cy (m := 1) I I I I I I (Bn I)) I (Ao 3 [.o 0 2, .o 2 4] I J2 (gP [] I (gY 1 (([F.Name] : List Bt).map rS) (gP [3] I (Dd 3 I ae fun O => Bk (Cy (m := 1) I I I I I I (Bn I)) I (AO.one 3 I fun af => gP [2] I (hM 2 0 1 (es' := [[Q5 a.Nodes, .v O, .N, .N]]) I I I I I I (Dm af) I (Bn I) I I (gO (gN (Ao 2 [.k 0 (w + 1 : Nat)] I ⟨Az M Y, J⟩ ?_)))))))))))
 cases io h
 exact gO (lg ⟨O, I2⟩ [0, 1, 2, 3])
 rintro y s ob ⟨j, rfl, rfl⟩ he
 subst he
 have h := aa
 have ag := Cs a.Segments.length
 exact Ai I (Ab fun ba bb => Bg I ag (gW (lg ⟨y, j, h, I2⟩ [0, 1, 2, 3])))
 rintro s ob ⟨c, b, h, rfl, rfl⟩
 unfold Mz.J1 at h
 refine Aj (fun s ob => ∃ (e : List Bt) (d : Value), Mz.J2 a c e = some r ∧ s = [] ∧ ob = [O3 u [An a], O4 f [W2], O4 g [[Q5 a.Nodes, .v b, .v d, .N]], U1 b c, U1 d e]) [(1, _), (2, _), (3, _)] J3 ?_ ?_
 refine A8 [.o 1 0, .l 2 (a.Ports.length : Int)] I ⟨A2, I, J⟩ (gQ (B0 29 I fun ah => gU (Be 9 1) ?_))
 obtain ⟨bc, ai, aj⟩ := Ac h
 refine Ds ai [(1, _), (2, _), (3, _), (29, _), (30, _)] J5 (fun (A : Nat) (B : List Bt) s ob => ∃ (n : Value), s = [(31, .V (A : Int))] ∧ ob = [O3 u [An a], O4 f [W2], O4 g [[Q5 a.Nodes, .v b, .v n, .N]], U1 b c, U1 n B]) ⟨(.slice none 0 0), I2⟩ ⟨I, J⟩ ⟨[0, 1, 2, 3, 4], I, by decide⟩ ?_ ?_
 rintro A G B bd s ob ak P ⟨n, rfl, rfl⟩ h
 have al := Cr P
 refine Ai I (Ab fun be am => Bf I al (gS ?_))
 subst am
 refine gR (gQ (gR (gN (Ao 2 [.x 0 A (Cx G)] I ⟨⟨I, Ag ak⟩, J⟩ (gP [] I (Bl W4 3 fun bf => gP [5] I (Bc 5 0 0 [Cx G] I (gO ?_))))))))
 obtain ⟨bg, an, h⟩ := Ac h
 refine gN (Bk (Cy (m := 2) I I I I I I (Bn I)) I (Ao 3 [.o 0 2, .o 2 5] I J2 (gP [] I (gY 1 (([G.Name] : List Bt).map rS) (gP [4] I (Dd 4 I an fun Q => Bk (Cy (m := 2) I I I I I I (Bn I)) I (AO.one 4 I fun ao => gP [2] I (hM 2 0 2 (es' := [[Q5 a.Nodes, .v b, .v Q, .N]]) I I I I I I (Dm ao) I (Bn I) I I (gO (gN (Ao 2 [.k 0 (A + 1 : Nat)] I ⟨Az P ah, J⟩ ?_)))))))))))
 cases io h
 exact gO (lg ⟨Q, I2⟩ [0, 1, 2, 3, 4])
 rintro B s ob ⟨n, rfl, rfl⟩ he
 subst he
 have h := aj
 have aq := Cs a.Ports.length
 exact Ai I (Ab fun bh bi => Bg I aq (gW (lg ⟨B, n, h, I2⟩ [0, 1, 2, 3, 4])))
 rintro s ob ⟨e, d, h, rfl, rfl⟩
 unfold Mz.J2 at h
 refine Aj (fun s ob => ∃ (q : List Bt) (i : Value), Mz.J3 a c e q = some r ∧ s = [] ∧ ob = [O4 f [W2], O4 g [[Q5 a.Nodes, .v b, .v d, .v i]], U1 b c, U1 d e, U1 i q]) [(2, _), (3, _)] J2 ?_ ?_
 refine A8 [.o 1 0, .l 2 (a.Stations.length : Int)] I ⟨A2, I, J⟩ (gQ (B0 44 I fun ar => gU (Be 9 1) ?_))
 obtain ⟨bj, au, av⟩ := Ac h
 refine Ds au [(2, _), (3, _), (44, _), (45, _)] J4 (fun (D : Nat) (E : List Bt) s ob => ∃ (t : Value), s = [(46, .V (D : Int))] ∧ ob = [O4 f [W2], O4 g [[Q5 a.Nodes, .v b, .v d, .v t]], U1 b c, U1 d e, U1 t E]) ⟨(.slice none 0 0), I2⟩ ⟨I, J⟩ ⟨[1, 2, 3, 4, 5], I, by decide⟩ ?_ ?_
 rintro D H E bk s ob aw R ⟨t, rfl, rfl⟩ h
 have ax := Cr R
 refine Ai I (Ab fun bl ay => Bf I ax (gS ?_))
 subst ay
 refine gR (gQ (gR (gN (Ao 2 [.x 0 D (A9 H)] I ⟨⟨I, Ag aw⟩, J⟩ (gP [] I (Bl W3 5 fun bm => gP [5] I (Bc 5 0 0 [A9 H] I (gO ?_))))))))
 obtain ⟨bn, az, h⟩ := Ac h
 refine gN (Bk (Cy (m := 3) I I I I I I (Bn I)) I (Ao 3 [.o 0 1, .o 2 5] I J2 (gP [] I (gY 1 (([H.Name] : List Bt).map rS) (gP [4] I (Dd 4 I az fun S => Bk (Cy (m := 3) I I I I I I (Bn I)) I (AO.one 4 I fun a0 => gP [1] I (hM 1 0 3 (es' := [[Q5 a.Nodes, .v b, .v d, .v S]]) I I I I I I (Dm a0) I (Bn I) I I (gO (gN (Ao 2 [.k 0 (D + 1 : Nat)] I ⟨Az R ar, J⟩ ?_)))))))))))
 cases io h
 exact gO (lg ⟨S, I2⟩ [0, 1, 2, 3, 4])
 rintro E s ob ⟨t, rfl, rfl⟩ he
 subst he
 have h := av
 have a1 := Cs a.Stations.length
 exact Ai I (Ab fun bo bp => Bg I a1 (gW (lg ⟨E, t, h, I2⟩ [0, 1, 2, 3, 4])))
 rintro s ob ⟨q, i, h, rfl, rfl⟩
 unfold Mz.J3 at h
 refine gR (gN (Ao 1 [.o 0 1] I J1 (gP [0] I (Bc 0 0 0 [[Q5 a.Nodes, .v b, .v d, .v i]] I (gO (gU (Ba [2, 3, 4] (K := [U1 b c, U1 d e, U1 i q]) I [] J (ob' := [O4 f [[Q5 a.Nodes, Q5 c, Q5 e, Q5 q]], O4 g [[Q5 a.Nodes, .v b, .v d, .v i]]]) (.cons (.arr (.cons (.refl _) (.cons (.us 0 I) (.cons (.us 1 I) (.cons (.us 2 I) (.rest _)))))) (.rest _))) (Em [0] I ?_)))))))
 cases io h
 exact gT ⟨.inr I, [_], [], ⟨⟨0, _, _, _, _, _, _, _, I5⟩, J⟩, Cv, I2⟩
theorem P7 (g : Bt) (r : Bool) (h : Kx g = some r) : ACalls Ah 88 [.v (.string g)] [] (RB r) := by
 refine Ad Tryz.func88 I I I fun C hC => ?_
 unfold Kx at h
 refine Ai I (Ab fun X M => Aj (fun s ob => ∃ (y : Bool), Kx.J1 g y = some r ∧ s = [(21, .v (.bool y))] ∧ ob = []) [(0, _)] J1 ?_ ?_)
 refine gN (Af 4 I ?_)
 rcases bt (decide ((g.size : Int) < 1)) with i | i
 have h := Bp i h
 exact Ae 7 I i (Af 14 I (gO (lg ⟨true, h, I2⟩ [])))
 have h := Bq i h
 refine Ae 7 I i ?_
 rcases bt (decide ((g.size : Int) > 12)) with j | j
 have h := Bp j h
 exact Af 5 I (Ae 12 I j (Af 9 I (gO (lg ⟨true, h, I2⟩ []))))
 have h := Bq j h
 obtain ⟨f, N, h⟩ := Ac h
 obtain ⟨D, E, F⟩ := Jq N
 refine Af 5 I (Ae 12 I j (Af 1 I (Bm I I I (Bk (Ce (m := f.1) I I I I D E F) I (Bm I I I (Bk (hE (c := decide (f.2 < 97)) I I I) I (Af 2 I ?_)))))))
 rcases bt (decide (f.2 < 97)) with k | k
 have h := Bp k h
 exact Ae 17 I k (Af 4 I (gO (lg ⟨true, h, I2⟩ [])))
 have h := Bq k h
 exact Ae 17 I k (Af 1 I (Bm I I I (Bk (Ce (m := f.1) I I I I D E F) I (Bm I I I (Bk (hE (c := decide (f.2 > 122)) I I I) I (Af 1 I (gO (lg ⟨decide (f.2 > 122), h, I2⟩ []))))))))
 rintro s ob ⟨y, h, rfl, rfl⟩
 refine Ar h I ?_ ?_
 intro O h
 refine Ai I ?_
 cases io h
 exact gT pr
 intro O h
 refine gS ?_
 subst M
 refine Aj (fun s ob => ∃ (G : Unit), Kx.J2 G = some r ∧ s = [] ∧ ob = []) [] J ?_ ?_
 refine Ai I (gQ ?_)
 obtain ⟨Y, P, H⟩ := Ac h
 refine Cm P [(0, _)] J1 (fun (A : Int) s ob => s = [(3, .V A)] ∧ ob = []) ⟨I, I⟩ ⟨I, J⟩ ⟨[], I, by decide⟩ ?_
 rintro A Q s ob ⟨rfl, rfl⟩ h K
 refine Ab fun Z R => Ai I (Ar h I ?_ ?_)
 intro S h
 refine gS ?_
 subst R
 refine gR (gQ (Aj (fun s ob => ∃ (B : Bool), Kx.J4 A B = some Q ∧ s = [(55, .v (.bool B))] ∧ ob = []) [(0, _), (3, _)] J2 ?_ ?_))
 obtain ⟨a, U, h⟩ := Ac h
 obtain ⟨b, d, e⟩ := Jq U
 refine gN (Af 2 I (Bk (Ce (m := a.1) I I I I b d e) I (Bk (hE (c := decide (a.2 < 97)) I I I) I (Af 1 I ?_))))
 rcases bt (decide (a.2 < 97)) with l | l
 have h := Bp l h
 refine Ae 32 I l (Af 8 I (Bm I I I (Bk (Ce (m := a.1) I I I I b d e) I (Bm I I I (Bk (hE (c := decide (a.2 < 48)) I I I) I (Af 1 I ?_))))))
 rcases bt (decide (a.2 < 48)) with n | n
 have h := Bp n h
 exact Ae 43 I n (Af 9 I (Bm I I I (Bk (Ce (m := a.1) I I I I b d e) I (Bm I I I (Bk (hE (c := (a.2 != 45)) I I I) I (Af 1 I (gO (lg ⟨(a.2 != 45), h, I2⟩ []))))))))
 have h := Bq n h
 refine Ae 43 I n (Af 2 I (Bm I I I (Bk (Ce (m := a.1) I I I I b d e) I (Bm I I I (Bk (hE (c := decide (a.2 > 57)) I I I) I (Af 3 I ?_))))))
 rcases bt (decide (a.2 > 57)) with o | o
 have h := Bp o h
 exact Ae 50 I o (Af 2 I (Bm I I I (Bk (Ce (m := a.1) I I I I b d e) I (Bm I I I (Bk (hE (c := (a.2 != 45)) I I I) I (Af 1 I (gO (lg ⟨(a.2 != 45), h, I2⟩ []))))))))
 have h := Bq o h
 exact Ae 50 I o (Af 5 I (gO (lg ⟨false, h, I2⟩ [])))
 have h := Bq l h
 refine Ae 32 I l (Af 2 I (Bm I I I (Bk (Ce (m := a.1) I I I I b d e) I (Bm I I I (Bk (hE (c := decide (a.2 > 122)) I I I) I (Af 2 I ?_))))))
 rcases bt (decide (a.2 > 122)) with t | t
 have h := Bp t h
 refine Ae 38 I t (Af 2 I (Bm I I I (Bk (Ce (m := a.1) I I I I b d e) I (Bm I I I (Bk (hE (c := decide (a.2 < 48)) I I I) I (Af 1 I ?_))))))
 rcases bt (decide (a.2 < 48)) with u | u
 have h := Bp u h
 exact Ae 43 I u (Af 9 I (Bm I I I (Bk (Ce (m := a.1) I I I I b d e) I (Bm I I I (Bk (hE (c := (a.2 != 45)) I I I) I (Af 1 I (gO (lg ⟨(a.2 != 45), h, I2⟩ []))))))))
 have h := Bq u h
 refine Ae 43 I u (Af 2 I (Bm I I I (Bk (Ce (m := a.1) I I I I b d e) I (Bm I I I (Bk (hE (c := decide (a.2 > 57)) I I I) I (Af 3 I ?_))))))
 rcases bt (decide (a.2 > 57)) with w | w
 have h := Bp w h
 exact Ae 50 I w (Af 2 I (Bm I I I (Bk (Ce (m := a.1) I I I I b d e) I (Bm I I I (Bk (hE (c := (a.2 != 45)) I I I) I (Af 1 I (gO (lg ⟨(a.2 != 45), h, I2⟩ []))))))))
 have h := Bq w h
 exact Ae 50 I w (Af 5 I (gO (lg ⟨false, h, I2⟩ [])))
 have h := Bq t h
 exact Ae 38 I t (Af 5 I (Ju I I dS (Ju I I dS (Ju I I dS (Ju I I dS (Af 8 I (gO (lg ⟨false, h, I2⟩ []))))))))
 rintro s ob ⟨B, h, rfl, rfl⟩
 refine Ar h I ?_ ?_
 intro W h
 refine Ai I ?_
 obtain rfl := K _ (oi h).symm
 have h := H
 have h := C0 h
 cases io h
 exact gT pr
 intro W h
 refine gS (gN (Af 3 I ?_))
 cases io h
 exact gO ⟨_, _, _, I, I2, J2, [], I, by decide⟩
 intro S h
 obtain rfl := K _ (oi h).symm
 have h := H
 have h := Cq h
 exact gW (lg ⟨(), h, I2⟩ [])
 rintro s ob ⟨G, h, rfl, rfl⟩
 unfold Kx.J2 at h
 refine Ai I ?_
 cases io h
 exact gT pr
theorem Y0 (a : List Bt) (r : Bool) (h : M9 a = some r) : ACalls Ah 98 [Q5 a] [] (RB r) := by
 refine Ad Tryz.func98 I I I fun C hC => ?_
 unfold M9 at h
 refine Ai I (Aj (fun s ob => ∃ (e : Unit), M9.J1 e = some r ∧ s = [] ∧ ob = []) [] J ?_ ?_)
 refine A8 [.l 1 (a.length : Int)] I ⟨A2, J⟩ (gQ (B0 5 I fun t => ?_))
 obtain ⟨O, u, f⟩ := Ac h
 refine Bh u [(0, _), (6, _)] J2 (fun (b : Nat) (g : Unit) s ob => s = [(7, .V (b : Int))] ∧ ob = []) ⟨I, I⟩ ⟨I, J⟩ ⟨[], I, by decide⟩ ?_ ?_
 rintro b i g w s ob y j ⟨rfl, rfl⟩ h A
 unfold M9.B2 at h
 have B := Cr j
 refine Ai I (Ab fun P D => Bf I B (gS ?_))
 subst D
 refine Aj (fun s ob => ∃ (m : Unit), M9.J3 m = some w ∧ s = [] ∧ ob = []) [(0, _), (6, _), (7, _)] J3 ?_ ?_
 refine gQ (Ai I (Ai I (gQ ?_)))
 obtain ⟨Q, E, n⟩ := Ac h
 refine Cm E [(0, _), (3, _), (6, _), (7, _)] J4 (fun (o : Int) s ob => s = [(4, .V o)] ∧ ob = []) ⟨I, I⟩ ⟨I, J⟩ ⟨[], I, by decide⟩ ?_
 rintro o R s ob ⟨rfl, rfl⟩ h p
 refine Ab fun S F => Ai I (Ar h I ?_ ?_)
 intro G h
 refine gS ?_
 subst F
 refine gR (gQ (gR ?_))
 obtain ⟨d, ⟨H, K⟩, h⟩ := A7 h
 refine Ca (pd 9 0 []) [] [] I (Cg 8 [.x 2 b (rS i), .x 6 d.1 (rS d.2)] I ⟨⟨H, Ag K⟩, ⟨I, Ag y⟩, J⟩ (gZ I (Yp.cmpS (c := Ol i d.2) I I I) I (Ax (gO (Ar h I ?_ ?_)))))
 intro M h
 refine Ai I ?_
 obtain rfl := p _ (oi h).symm
 have h := n
 have h := C0 h
 obtain rfl := A _ (oi h).symm
 have h := f
 have h := Cq h
 cases io h
 exact gT pr
 intro M h
 refine gS (gN (Af 3 I ?_))
 cases io h
 exact gO ⟨_, _, _, I, I2, J5, [], I, by decide⟩
 intro G h
 obtain rfl := p _ (oi h).symm
 have h := n
 have h := Cq h
 exact gW (lg ⟨(), h, I2⟩ [])
 rintro s ob ⟨m, h, rfl, rfl⟩
 unfold M9.J3 at h
 refine gN (Ao 2 [.k 0 (b + 1 : Nat)] I ⟨Az j t, J⟩ ?_)
 cases io h
 exact gO ⟨_, _, _, I, I2, J3, [], I, by decide⟩
 rintro g s ob ⟨rfl, rfl⟩ he
 subst he
 have h := C0 f
 have N := Cs a.length
 exact Ai I (Ab fun U W => Bg I N (gW (lg ⟨(), h, I2⟩ [])))
 rintro s ob ⟨e, h, rfl, rfl⟩
 unfold M9.J1 at h
 refine Ai I ?_
 cases io h
 exact gT pr
theorem Yb (a : Sg) (r : Bool) (h : Mx a = some r) : ACalls Ah 99 [.agg (Aa a)] [] (RB r) := by
 refine Ad Tryz.func99 I I I fun C hC => ?_
 unfold Mx at h
 refine Ab fun y1 K => gN (gP [] I (Cc (Aa a) 7 fun u => Af 1 I (gO ?_)))
 subst K
 refine Ab fun y3 M => Aj (fun s ob => ∃ (w : Bool), Mx.J1 a w = some r ∧ s = [(49, .v (.bool w))] ∧ ob = [O0 u [Aa a]]) [(1, _)] J1 ?_ ?_
 refine Ca (pd 45 0 [8, 14, 20]) [0] [_] I (Cg 6 [.o 1 0, .o 3 0] I J2 ?_)
 rcases bt ((a.From == a.To)) with c | c
 have h := Bp c h
 exact A0 10 I c (Bb 39 I (Ax (gO (lg ⟨true, h, I2⟩ [0]))))
 have h := Bq c h
 refine A0 10 I c (Cg 2 [.o 1 0] I J1 (Ik I (Ch a.Capacity 1 1000000 _ I) (Bb 3 I ?_)))
 rcases bt ((!(Bo a.Capacity 1 1000000))) with d | d
 have h := Bp d h
 exact A0 16 I d (Bb 33 I (Ax (gO (lg ⟨true, h, I2⟩ [0]))))
 have h := Bq d h
 refine A0 16 I d (Cg 2 [.o 1 0] I J1 (Ik I (Ch a.Resist 0 1000 _ I) (Bb 3 I ?_)))
 rcases bt ((!(Bo a.Resist 0 1000))) with e | e
 have h := Bp e h
 exact A0 22 I e (Bb 27 I (Ax (gO (lg ⟨true, h, I2⟩ [0]))))
 have h := Bq e h
 refine A0 22 I e (Cg 2 [.o 1 0] I J1 (Ik I (Ch a.Wave 0 100000 _ I) (Bb 3 I ?_)))
 rcases bt ((!(Bo a.Wave 0 100000))) with f | f
 have h := Bp f h
 exact A0 28 I f (Bb 21 I (Ax (gO (lg ⟨true, h, I2⟩ [0]))))
 have h := Bq f h
 obtain ⟨y, ⟨N, O⟩, h⟩ := A7 h
 refine A0 28 I f (Cg 8 [.o 1 0, .x 2 y.1 (A1 y.2)] I ⟨⟨N, Ag O⟩, I, J⟩ ?_)
 rcases bt ((y.2.At != 0)) with g | g
 have h := Bp g h
 exact A0 36 I g (Bb 13 I (Ax (gO (lg ⟨true, h, I2⟩ [0]))))
 have h := Bq g h
 obtain ⟨A, ⟨P, Q⟩, h⟩ := A7 h
 exact A0 36 I g (Cg 13 [.o 1 0, .o 3 0, .l 4 (a.Points.length : Int), .x 6 A.1 (A1 A.2), .o 10 0] I ⟨I, ⟨P, Ag Q⟩, A2, I, I, J⟩ (Ax (gO (lg ⟨(A.2.At != a.Capacity), h, I2⟩ [0]))))
 rintro s ob ⟨w, h, rfl, rfl⟩
 refine Ar h I ?_ ?_
 intro R h
 refine Ai I (gU g0 ?_)
 cases io h
 exact gT pr
 intro R h
 refine gS ?_
 subst M
 refine Aj (fun s ob => ∃ (E : Unit), Mx.J2 E = some r ∧ s = [] ∧ ob = []) [] J ?_ ?_
 refine A8 [.o 1 0, .l 2 (a.Points.length : Int)] I ⟨A2, I, J⟩ (gQ (B0 51 I fun S => ?_))
 obtain ⟨ai, U, F⟩ := Ac h
 refine Bh U [(1, _), (51, _), (52, _)] J3 (fun (i : Nat) (G : Unit) s ob => s = [(53, .V (i : Int))] ∧ ob = [O0 u [Aa a]]) ⟨I, I⟩ ⟨I, J⟩ ⟨[0], I, by decide⟩ ?_ ?_
 rintro i b G W s ob X H ⟨rfl, rfl⟩ h Y
 unfold Mx.B3 at h
 have Z := Cr H
 refine Ai I (Ab fun aj aa => Bf I Z (gS ?_))
 subst aa
 refine gR (gQ (Ab fun ak ab => gN (Ao 3 [.x 1 i (A1 b)] I ⟨⟨I, Ag X⟩, J⟩ (gP [] I (Bl W1 3 fun al => Af 1 I (gP [1] I (Bc 1 0 0 [A1 b] I (gO ?_))))))))
 subst ab
 refine Aj (fun s ob => ∃ (B : Bool), Mx.J4 B = some W ∧ s = [(83, .v (.bool B))] ∧ ob = [O0 u [Aa a]]) [(1, _), (51, _), (52, _), (53, _)] J4 ?_ ?_
 rcases bt (decide ((i : Int) > 0)) with j | j
 have h := Bp j h
 obtain ⟨D, ⟨ac, ad⟩, h⟩ := A7 h
 refine Ca (pd 26 0 [17, 23]) [1, 0] [_, _] I (Bb 3 I (A0 60 I j (Cg 12 [.o 1 0, .o 3 1, .x 6 D.1 (A1 D.2)] I ⟨⟨ac, Ag ad⟩, I, I, J⟩ ?_)))
 rcases bt (decide (b.At ≤ D.2.At)) with n | n
 have h := Bp n h
 exact A0 72 I n (Bb 11 I (Ax (gO (lg ⟨true, h, I2⟩ [0]))))
 have h := Bq n h
 refine A0 72 I n (Cg 2 [.o 1 0] I J1 (Ik I (Ch b.Height (-500) 5000 _ I) (Bb 3 I ?_)))
 rcases bt ((!(Bo b.Height (-500) 5000))) with p | p
 have h := Bp p h
 exact A0 78 I p (Bb 5 I (Ax (gO (lg ⟨true, h, I2⟩ [0]))))
 have h := Bq p h
 exact A0 78 I p (Cg 2 [.o 1 0] I J1 (Ik I (Ch b.Limit 0 100000000 _ I) (Bb 2 I (Ax (gO (lg ⟨(!(Bo b.Limit 0 100000000)), h, I2⟩ [0]))))))
 have h := Bq j h
 refine Ca (pd 26 0 [17, 23]) [1] [_] I (Bb 3 I (A0 60 I j (Cg 14 [.o 13 0] I J1 (Ik I (Ch b.Height (-500) 5000 _ I) (Bb 3 I ?_)))))
 rcases bt ((!(Bo b.Height (-500) 5000))) with t | t
 have h := Bp t h
 exact A0 78 I t (Bb 5 I (Ax (gO (lg ⟨true, h, I2⟩ [0]))))
 have h := Bq t h
 exact A0 78 I t (Cg 2 [.o 1 0] I J1 (Ik I (Ch b.Limit 0 100000000 _ I) (Bb 2 I (Ax (gO (lg ⟨(!(Bo b.Limit 0 100000000)), h, I2⟩ [0]))))))
 rintro s ob ⟨B, h, rfl, rfl⟩
 refine Ar h I ?_ ?_
 intro ae h
 refine Ai I ?_
 obtain rfl := Y _ (oi h).symm
 have h := F
 have h := Cq h
 refine gU g0 ?_
 cases io h
 exact gT pr
 intro ae h
 refine gS (gN (Ao 2 [.k 0 (i + 1 : Nat)] I ⟨Az H S, J⟩ ?_))
 cases io h
 exact gO ⟨_, _, _, I, I2, J4, [0], I, by decide⟩
 rintro G s ob ⟨rfl, rfl⟩ he
 subst he
 have h := C0 F
 have af := Cs a.Points.length
 exact Ai I (Ab fun am an => Bg I af (gW (lg ⟨(), h, I2⟩ [])))
 rintro s ob ⟨E, h, rfl, rfl⟩
 unfold Mx.J2 at h
 refine Ai I ?_
 cases io h
 exact gT pr
theorem Yf (a : Nw) (r : Int) (h : Ky a = some r) : ACalls Ah 75 [.agg (An a)] [] (RV (.V r)) := by
 refine Ad Tryz.func75 I I I fun C hC => ?_
 unfold Ky at h
 refine Ab fun y1 bn => gN (gP [] I (Cc (An a) 6 fun b => Af 1 I (gO ?_)))
 subst bn
 refine Ab fun y3 bo => Ew 49 ((!(Bo (a.Nodes.length : Int) 1 24)) || (decide ((a.Segments.length : Int) > 32) || (decide ((a.Ports.length : Int) > 24) || decide ((a.Stations.length : Int) > 12)))) ?_ ?_
 refine gN (Ao 3 [.o 1 0, .l 2 (a.Nodes.length : Int)] I ⟨A2, I, J⟩ (Br (Ch (a.Nodes.length : Int) 1 24 _ I) (Af 2 I ?_)))
 rcases bt ((!(Bo (a.Nodes.length : Int) 1 24))) with g | g
 exact Ae 32 I g (Af 17 I (gO (jf (by simp only [g, bz]) I I I2)))
 refine Ae 32 I g (Ao 6 [.o 1 0, .l 2 (a.Segments.length : Int)] I ⟨A2, I, J⟩ ?_)
 rcases bt (decide ((a.Segments.length : Int) > 32)) with j | j
 exact Ae 38 I j (Af 11 I (gO (jf (by simp only [g, j, bz]) I I I2)))
 refine Ae 38 I j (Ao 6 [.o 1 0, .l 2 (a.Ports.length : Int)] I ⟨A2, I, J⟩ ?_)
 rcases bt (decide ((a.Ports.length : Int) > 24)) with t | t
 exact Ae 44 I t (Af 5 I (gO (jf (by simp only [g, j, t, bz]) I I I2)))
 exact Ae 44 I t (Ao 5 [.o 1 0, .l 2 (a.Stations.length : Int)] I ⟨A2, I, J⟩ (gO (jf (by simp only [g, j, t, bz]) I I I2)))
 refine Ar h I ?_ ?_
 intro bp h
 refine Ai I (gU g0 ?_)
 cases io h
 exact gT pr
 intro bp h
 refine gS ?_
 subst bo
 refine Aj (fun s ob => ∃ (Z : Unit), Ky.J1 a Z = some r ∧ s = [] ∧ ob = [O3 b [An a]]) [(1, _)] J1 ?_ ?_
 refine A8 [.o 1 0, .l 2 (a.Segments.length : Int)] I ⟨A2, I, J⟩ (gQ (B0 51 I fun bq => ?_))
 obtain ⟨e4, br, aa⟩ := Ac h
 refine Bh br [(1, _), (51, _), (52, _)] J3 (fun (B : Nat) (ab : Unit) s ob => s = [(53, .V (B : Int))] ∧ ob = [O3 b [An a]]) ⟨I, I⟩ ⟨I, J⟩ ⟨[0], I, by decide⟩ ?_ ?_
 rintro B D ab e5 s ob bs ac ⟨rfl, rfl⟩ h bu
 have bv := Cr ac
 refine Ai I (Ab fun e6 bw => Bf I bv (gS ?_))
 subst bw
 refine gR (gQ (gR (gN (Ao 2 [.x 0 B (Aa D)] I ⟨⟨I, Ag bs⟩, J⟩ (gP [] I (Bl W0 7 fun e7 => gP [1] I (Bc 1 0 0 [Aa D] I (gO (gR (gN (Ao 3 [.o 1 1, .l 2 (D.Points.length : Int)] I ⟨A2, I, J⟩ (Br (Ch (D.Points.length : Int) 2 8 _ I) (Af 1 I ?_)))))))))))))
 refine gO (Ar h I ?_ ?_)
 intro bx h
 refine Ai I ?_
 obtain rfl := bu _ (oi h).symm
 have h := aa
 have h := Cq h
 refine gU g0 ?_
 cases io h
 exact gT pr
 intro bx h
 refine gS (gN (Ao 2 [.k 0 (B + 1 : Nat)] I ⟨Az ac bq, J⟩ ?_))
 cases io h
 exact gO ⟨_, _, _, I, I2, J4, [0], I, by decide⟩
 rintro ab s ob ⟨rfl, rfl⟩ he
 subst he
 have h := C0 aa
 have b0 := Cs a.Segments.length
 exact Ai I (Ab fun e8 e9 => Bg I b0 (gW (lg ⟨(), h, I2⟩ [0])))
 rintro s ob ⟨Z, h, rfl, rfl⟩
 refine Ab fun fa b1 => ?_
 obtain ⟨f, b3, h⟩ := Ac h
 refine gN (Ao 1 [.o 0 0] I J1 (gP [] I (A5 I I I (Ye _ _ b3) dS ?_)))
 rintro _ _ ⟨rfl, rfl⟩
 refine gP [] I (Bl W2 4 fun E => gP [1] I (hM 1 0 0 (es' := [f.l.map (cL 1 rS)]) I I I I I I I (by simp [Arr.h]) (by simp [Arr.h]) I (congrArg (fun r => [r]) (Ng (by simp [Arr.h]))) (gO ?_)))
 subst b1
 refine Aj (fun s ob => ∃ (ad : Unit), Ky.J2 a f ad = some r ∧ s = [] ∧ ob = [O3 b [An a], O4 E [f.l.map (cL 1 rS)]]) [(1, _), (5, _)] J2 ?_ ?_
 refine Ab fun fb b4 => gN (hF (Gt 1 0 0 I I I I I (y := .agg (f.l.map (cL 1 rS))) (R1 I (by simp [Arr.h]))) I (Af 1 I (gO ?_)))
 subst b4
 refine gQ ?_
 have b5 : (4 : Nat) ≤ 9223372036854775806 := by decide
 obtain ⟨fc, b6, ae⟩ := Ac h
 refine Do b6 [(1, _), (5, _), (65, _)] J3 (fun (F : Nat) (af : Unit) s ob => s = [(66, .V (F : Int))] ∧ ob = [O3 b [An a], O4 E [f.l.map (cL 1 rS)]]) ⟨I, I⟩ ⟨I, J⟩ ⟨[0, 1], I, by decide⟩ ?_ ?_
 rintro F af b7 s ob b8 ⟨rfl, rfl⟩ h b9
 unfold Ky.B21 at h
 have ca : decide ((F : Int) < 4) = true := decide_eq_true (by omega)
 refine Ai I (Ab fun fd cb => Bf I ca (gS ?_))
 subst cb
 refine Aj (fun s ob => ∃ (ag : Unit), Ky.J22 ag = some b7 ∧ s = [] ∧ ob = [O3 b [An a], O4 E [f.l.map (cL 1 rS)]]) [(1, _), (5, _), (65, _), (66, _)] J4 ?_ ?_
 refine gQ (Ab fun fe cc => ?_)
 obtain ⟨U, ⟨cd, ce⟩, h⟩ := A7 h
 refine gN (Bk (Gg (m := U.1) I I I I I I I cd ce (hlen := Arr.h _)) I (Af 1 I (gO ?_)))
 subst cc
 refine A8 [.l 1 (U.2.length : Int)] I ⟨A2, J⟩ (gQ (B0 69 I fun cf => ?_))
 obtain ⟨ff, cg, ah⟩ := Ac h
 refine Bh cg [(1, _), (5, _), (65, _), (66, _), (69, _), (70, _)] J6 (fun (G : Nat) (ai : Unit) s ob => s = [(71, .V (G : Int))] ∧ ob = [O3 b [An a], O4 E [f.l.map (cL 1 rS)]]) ⟨I, I⟩ ⟨I, J⟩ ⟨[0, 1], I, by decide⟩ ?_ ?_
 rintro G ci ai fg s ob cj aj ⟨rfl, rfl⟩ h ck
 have cl := Cr aj
 refine Ai I (Ab fun fh cm => Bf I cl (gS ?_))
 subst cm
 refine gR (gQ (A8 [.x 0 G (rS ci)] I ⟨⟨I, Ag cj⟩, J⟩ (gR ?_)))
 obtain ⟨fi, cn, h⟩ := Ac h
 refine gN (Af 1 I (Br (P7 _ _ cn) (Af 1 I (gO (Ar h I ?_ ?_)))))
 intro co h
 refine Ai I ?_
 obtain rfl := ck _ (oi h).symm
 have h := ah
 have h := Cq h
 obtain rfl := b9 _ (oi h).symm
 have h := ae
 have h := Cq h
 refine gU g0 ?_
 cases io h
 exact gT pr
 intro co h
 refine gS (gN (Ao 2 [.k 0 (G + 1 : Nat)] I ⟨Az aj cf, J⟩ ?_))
 cases io h
 exact gO ⟨_, _, _, I, I2, J7, [0, 1], I, by decide⟩
 rintro ai s ob ⟨rfl, rfl⟩ he
 subst he
 have h := C0 ah
 have cp := Cs U.2.length
 exact Ai I (Ab fun fj fk => Bg I cp (gW (lg ⟨(), h, I2⟩ [0, 1])))
 rintro s ob ⟨ag, h, rfl, rfl⟩
 unfold Ky.J22 at h
 refine gN (Ao 2 [.k 0 (F + 1 : Nat)] I ⟨Az b8 b5, J⟩ ?_)
 cases io h
 exact gO ⟨_, _, _, I, I2, J4, [0, 1], I, by decide⟩
 rintro af s ob ⟨rfl, rfl⟩ he
 subst he
 have h := C0 ae
 have cq : decide (((4 : Nat) : Int) < 4) = false := by simp
 exact Ai I (Ab fun fl fm => Bg I cq (gW (lg ⟨(), h, I2⟩ [0, 1])))
 rintro s ob ⟨ad, h, rfl, rfl⟩
 unfold Ky.J2 at h
 refine Aj (fun s ob => ∃ (ak : Unit), Ky.J3 a ak = some r ∧ s = [] ∧ ob = [O3 b [An a]]) [(1, _)] J1 ?_ ?_
 refine Ab fun fn cr => gN (hF (Gt 1 0 0 I I I I I (y := .agg (f.l.map (cL 1 rS))) (R1 I (by simp [Arr.h]))) I (Af 1 I (gO ?_)))
 subst cr
 refine gQ ?_
 have ct : (4 : Nat) ≤ 9223372036854775806 := by decide
 obtain ⟨fo, cu, al⟩ := Ac h
 refine Do cu [(1, _), (80, _)] J2 (fun (H : Nat) (am : Unit) s ob => s = [(81, .V (H : Int))] ∧ ob = [O3 b [An a]]) ⟨I, I⟩ ⟨I, J⟩ ⟨[0], I, by decide⟩ ?_ ?_
 rintro H am fp s ob cv ⟨rfl, rfl⟩ h cw
 have cx : decide ((H : Int) < 4) = true := decide_eq_true (by omega)
 refine Ai I (Ab fun fq cy => Bf I cx (gS ?_))
 subst cy
 refine gR (gQ (gR ?_))
 obtain ⟨cz, ⟨c0, c1⟩, h⟩ := A7 h
 refine gN (Bk (Gg (m := cz.1) I I I I I I I c0 c1 (hlen := Arr.h _)) I (Af 1 I (gO (gR ?_))))
 obtain ⟨fr, c2, h⟩ := Ac h
 refine gN (Af 1 I (Br (Y0 _ _ c2) (gO (Ar h I ?_ ?_))))
 intro c3 h
 refine Ai I ?_
 obtain rfl := cw _ (oi h).symm
 have h := al
 have h := Cq h
 refine gU g0 ?_
 cases io h
 exact gT pr
 intro c3 h
 refine gS (gN (Ao 2 [.k 0 (H + 1 : Nat)] I ⟨Az cv ct, J⟩ ?_))
 cases io h
 exact gO ⟨_, _, _, I, I2, J3, [0], I, by decide⟩
 rintro am s ob ⟨rfl, rfl⟩ he
 subst he
 have h := C0 al
 have c4 : decide (((4 : Nat) : Int) < 4) = false := by simp
 exact Ai I (Ab fun fs ft => Bg I c4 (gW (lg ⟨(), h, I2⟩ [0])))
 rintro s ob ⟨ak, h, rfl, rfl⟩
 unfold Ky.J3 at h
 refine Aj (fun s ob => ∃ (an : Unit), Ky.J4 a an = some r ∧ s = [] ∧ ob = [O3 b [An a]]) [(1, _)] J1 ?_ ?_
 refine A8 [.o 1 0, .l 2 (a.Stations.length : Int)] I ⟨A2, I, J⟩ (gQ (B0 88 I fun c5 => ?_))
 obtain ⟨fu, c6, ao⟩ := Ac h
 refine Bh c6 [(1, _), (89, _)] J2 (fun (K : Nat) (ap : Unit) s ob => s = [(90, .V (K : Int))] ∧ ob = [O3 b [An a]]) ⟨I, I⟩ ⟨I, J⟩ ⟨[0], I, by decide⟩ ?_ ?_
 rintro K c7 ap c8 s ob c9 aq ⟨rfl, rfl⟩ h da
 unfold Ky.B17 at h
 have db := Cr aq
 refine Ai I (Ab fun fv dc => Bf I db (gS ?_))
 subst dc
 refine Aj (fun s ob => ∃ (ar : Unit), Ky.J18 ar = some c8 ∧ s = [] ∧ ob = [O3 b [An a]]) [(1, _), (89, _), (90, _)] J3 ?_ ?_
 refine gQ (Ai I (Ai I (gQ ?_)))
 obtain ⟨fw, dd, au⟩ := Ac h
 refine Cm dd [(1, _), (12, _), (89, _), (90, _)] J4 (fun (av : Int) s ob => s = [(13, .V av)] ∧ ob = [O3 b [An a]]) ⟨I, I⟩ ⟨I, J⟩ ⟨[0], I, by decide⟩ ?_
 rintro av fx s ob ⟨rfl, rfl⟩ h aw
 refine Ab fun fy de => Ai I (Ar h I ?_ ?_)
 intro df h
 refine gS ?_
 subst de
 refine gR (gQ (gR ?_))
 obtain ⟨ax, ⟨dg, dh⟩, h⟩ := A7 h
 refine Ll (pd 13 0 []) [0] [_] [.o 1 0, .x 3 K (A9 c7), .o 7 0, .x 9 ax.1 (A9 ax.2)] I I ⟨⟨dg, Ag dh⟩, I, ⟨I, Ag c9⟩, I, J⟩ (Ar h I ?_ ?_)
 intro di h
 refine Ai I ?_
 obtain rfl := aw _ (oi h).symm
 have h := au
 have h := C0 h
 obtain rfl := da _ (oi h).symm
 have h := ao
 have h := Cq h
 refine gU g0 ?_
 cases io h
 exact gT pr
 intro di h
 refine gS (gN (Af 3 I ?_))
 cases io h
 exact gO ⟨_, _, _, I, I2, J5, [0], I, by decide⟩
 intro df h
 obtain rfl := aw _ (oi h).symm
 have h := au
 have h := Cq h
 exact gW (lg ⟨(), h, I2⟩ [0])
 rintro s ob ⟨ar, h, rfl, rfl⟩
 unfold Ky.J18 at h
 refine gN (Ao 2 [.k 0 (K + 1 : Nat)] I ⟨Az aq c5, J⟩ ?_)
 cases io h
 exact gO ⟨_, _, _, I, I2, J3, [0], I, by decide⟩
 rintro ap s ob ⟨rfl, rfl⟩ he
 subst he
 have h := C0 ao
 have dj := Cs a.Stations.length
 exact Ai I (Ab fun fz f0 => Bg I dj (gW (lg ⟨(), h, I2⟩ [0])))
 rintro s ob ⟨an, h, rfl, rfl⟩
 unfold Ky.J4 at h
 refine A8 [.o 1 0, .l 2 (a.Nodes.length : Int)] I ⟨A2, I, J⟩ (Aj (fun s ob => ∃ (ay : Unit), Ky.J5 a ay = some r ∧ s = [] ∧ ob = [O3 b [An a]]) [(1, _), (14, _)] J2 ?_ ?_)
 refine A8 [.o 1 0, .l 2 (a.Segments.length : Int)] I ⟨A2, I, J⟩ (gQ (B0 117 I fun dk => ?_))
 obtain ⟨f1, dl, az⟩ := Ac h
 refine Bh dl [(1, _), (14, _), (117, _), (118, _)] J4 (fun (M : Nat) (a0 : Unit) s ob => s = [(119, .V (M : Int))] ∧ ob = [O3 b [An a]]) ⟨I, I⟩ ⟨I, J⟩ ⟨[0], I, by decide⟩ ?_ ?_
 rintro M i a0 f2 s ob dm a1 ⟨rfl, rfl⟩ h dn
 unfold Ky.B16 at h
 have dp := Cr a1
 refine Ai I (Ab fun f3 dq => Bf I dp (gS ?_))
 subst dq
 refine gR (gQ (Ab fun f4 dr => gN (Ao 2 [.x 0 M (Aa i)] I ⟨⟨I, Ag dm⟩, J⟩ (gP [] I (Bl W0 7 fun f5 => gP [1] I (Bc 1 0 0 [Aa i] I (gO ?_)))))))
 subst dr
 refine Ew 134 ((!(Bo i.From 0 (wr ((a.Nodes.length : Int) - 1)))) || (!(Bo i.To 0 (wr ((a.Nodes.length : Int) - 1))))) ?_ ?_
 refine gN (Ao 3 [.o 1 1] I J1 (Br (Ch i.From 0 (wr ((a.Nodes.length : Int) - 1)) _ I) (Af 2 I ?_)))
 rcases bt ((!(Bo i.From 0 (wr ((a.Nodes.length : Int) - 1))))) with u | u
 exact Ae 128 I u (Af 6 I (gO (jf (by simp only [u, bz]) I I I2)))
 exact Ae 128 I u (Ao 3 [.o 1 1] I J1 (Bm I I I (Br (Ch i.To 0 (wr ((a.Nodes.length : Int) - 1)) _ I) (Af 2 I (gO (jf (by simp only [u, bz]) I I I2))))))
 refine Ar h I ?_ ?_
 intro ds h
 refine Ai I ?_
 obtain rfl := dn _ (oi h).symm
 have h := az
 have h := Cq h
 refine gU g0 ?_
 cases io h
 exact gT pr
 intro ds h
 refine gS (gN (Ao 2 [.k 0 (M + 1 : Nat)] I ⟨Az a1 dk, J⟩ ?_))
 cases io h
 exact gO ⟨_, _, _, I, I2, J5, [0], I, by decide⟩
 rintro a0 s ob ⟨rfl, rfl⟩ he
 subst he
 have h := C0 az
 have du := Cs a.Segments.length
 exact Ai I (Ab fun f6 f7 => Bg I du (gW (lg ⟨(), h, I2⟩ [0])))
 rintro s ob ⟨ay, h, rfl, rfl⟩
 unfold Ky.J5 at h
 refine Aj (fun s ob => ∃ (a2 : Unit), Ky.J6 a a2 = some r ∧ s = [] ∧ ob = [O3 b [An a]]) [(1, _), (14, _)] J2 ?_ ?_
 refine A8 [.o 1 0, .l 2 (a.Ports.length : Int)] I ⟨A2, I, J⟩ (gQ (B0 137 I fun dv => ?_))
 obtain ⟨f8, dw, a3⟩ := Ac h
 refine Bh dw [(1, _), (14, _), (137, _), (138, _)] J4 (fun (O : Nat) (a4 : Unit) s ob => s = [(139, .V (O : Int))] ∧ ob = [O3 b [An a]]) ⟨I, I⟩ ⟨I, J⟩ ⟨[0], I, by decide⟩ ?_ ?_
 rintro O W a4 f9 s ob dx a5 ⟨rfl, rfl⟩ h dy
 have dz := Cr a5
 refine Ai I (Ab fun ga d0 => Bf I dz (gS ?_))
 subst d0
 refine gR (gQ (gR (gN (Ao 2 [.x 0 O (Cx W)] I ⟨⟨I, Ag dx⟩, J⟩ (gP [] I (Bl W4 3 fun gb => gP [1] I (Bc 1 0 0 [Cx W] I (gO (gR (gN (Ao 3 [.o 1 1] I J1 (Br (Ch W.Node 0 (wr ((a.Nodes.length : Int) - 1)) _ I) (Af 1 I ?_)))))))))))))
 refine gO (Ar h I ?_ ?_)
 intro d1 h
 refine Ai I ?_
 obtain rfl := dy _ (oi h).symm
 have h := a3
 have h := Cq h
 refine gU g0 ?_
 cases io h
 exact gT pr
 intro d1 h
 refine gS (gN (Ao 2 [.k 0 (O + 1 : Nat)] I ⟨Az a5 dv, J⟩ ?_))
 cases io h
 exact gO ⟨_, _, _, I, I2, J5, [0], I, by decide⟩
 rintro a4 s ob ⟨rfl, rfl⟩ he
 subst he
 have h := C0 a3
 have d2 := Cs a.Ports.length
 exact Ai I (Ab fun gc gd => Bg I d2 (gW (lg ⟨(), h, I2⟩ [0])))
 rintro s ob ⟨a2, h, rfl, rfl⟩
 unfold Ky.J6 at h
 refine Aj (fun s ob => ∃ (a6 : Unit), Ky.J7 a a6 = some r ∧ s = [] ∧ ob = [O3 b [An a]]) [(1, _)] J1 ?_ ?_
 refine A8 [.o 1 0, .l 2 (a.Stations.length : Int)] I ⟨A2, I, J⟩ (gQ (B0 150 I fun d3 => ?_))
 obtain ⟨ge, d4, a7⟩ := Ac h
 refine Bh d4 [(1, _), (14, _), (150, _), (151, _)] J4 (fun (P : Nat) (a8 : Unit) s ob => s = [(152, .V (P : Int))] ∧ ob = [O3 b [An a]]) ⟨I, I⟩ ⟨I, J⟩ ⟨[0], I, by decide⟩ ?_ ?_
 rintro P X a8 gf s ob d5 a9 ⟨rfl, rfl⟩ h d6
 have d7 := Cr a9
 refine Ai I (Ab fun gg d8 => Bf I d7 (gS ?_))
 subst d8
 refine gR (gQ (gR (gN (Ao 2 [.x 0 P (A9 X)] I ⟨⟨I, Ag d5⟩, J⟩ (gP [] I (Bl W3 5 fun gh => gP [1] I (Bc 1 0 0 [A9 X] I (gO (gR (gN (Ao 3 [.o 1 1] I J1 (Br (Ch X.Node 0 (wr ((a.Nodes.length : Int) - 1)) _ I) (Af 1 I ?_)))))))))))))
 refine gO (Ar h I ?_ ?_)
 intro d9 h
 refine Ai I ?_
 obtain rfl := d6 _ (oi h).symm
 have h := a7
 have h := Cq h
 refine gU g0 ?_
 cases io h
 exact gT pr
 intro d9 h
 refine gS (gN (Ao 2 [.k 0 (P + 1 : Nat)] I ⟨Az a9 d3, J⟩ ?_))
 cases io h
 exact gO ⟨_, _, _, I, I2, J5, [0], I, by decide⟩
 rintro a8 s ob ⟨rfl, rfl⟩ he
 subst he
 have h := C0 a7
 have ea := Cs a.Stations.length
 exact Ai I (Ab fun gi gj => Bg I ea (gW (lg ⟨(), h, I2⟩ [0])))
 rintro s ob ⟨a6, h, rfl, rfl⟩
 unfold Ky.J7 at h
 refine Aj (fun s ob => ∃ (ba : Unit), Ky.J8 a ba = some r ∧ s = [] ∧ ob = [O3 b [An a]]) [(1, _)] J1 ?_ ?_
 refine A8 [.o 1 0, .l 2 (a.Segments.length : Int)] I ⟨A2, I, J⟩ (gQ (B0 163 I fun eb => ?_))
 obtain ⟨gk, ec, bb⟩ := Ac h
 refine Bh ec [(1, _), (163, _), (164, _)] J3 (fun (Q : Nat) (bc : Unit) s ob => s = [(165, .V (Q : Int))] ∧ ob = [O3 b [An a]]) ⟨I, I⟩ ⟨I, J⟩ ⟨[0], I, by decide⟩ ?_ ?_
 rintro Q bd bc gl s ob ed be ⟨rfl, rfl⟩ h ee
 have ef := Cr be
 refine Ai I (Ab fun gm eg => Bf I ef (gS ?_))
 subst eg
 refine gR (gQ (gR (gN (Ao 2 [.x 0 Q (Aa bd)] I ⟨⟨I, Ag ed⟩, J⟩ (gP [] I (Bl W0 7 fun gn => gP [1] I (Bc 1 0 0 [Aa bd] I (gO (gR ?_)))))))))
 obtain ⟨go, eh, h⟩ := Ac h
 refine gN (Ao 1 [.o 0 1] I J1 (Br (Yb _ _ eh) (Af 1 I (gO (Ar h I ?_ ?_)))))
 intro ei h
 refine Ai I ?_
 obtain rfl := ee _ (oi h).symm
 have h := bb
 have h := Cq h
 refine gU g0 ?_
 cases io h
 exact gT pr
 intro ei h
 refine gS (gN (Ao 2 [.k 0 (Q + 1 : Nat)] I ⟨Az be eb, J⟩ ?_))
 cases io h
 exact gO ⟨_, _, _, I, I2, J4, [0], I, by decide⟩
 rintro bc s ob ⟨rfl, rfl⟩ he
 subst he
 have h := C0 bb
 have ej := Cs a.Segments.length
 exact Ai I (Ab fun gp gq => Bg I ej (gW (lg ⟨(), h, I2⟩ [0])))
 rintro s ob ⟨ba, h, rfl, rfl⟩
 unfold Ky.J8 at h
 refine Aj (fun s ob => ∃ (bf : Unit), Ky.J9 a bf = some r ∧ s = [] ∧ ob = [O3 b [An a]]) [(1, _)] J1 ?_ ?_
 refine A8 [.o 1 0, .l 2 (a.Ports.length : Int)] I ⟨A2, I, J⟩ (gQ (B0 174 I fun ek => ?_))
 obtain ⟨gr, el, bg⟩ := Ac h
 refine Bh el [(1, _), (174, _), (175, _)] J3 (fun (R : Nat) (bh : Unit) s ob => s = [(176, .V (R : Int))] ∧ ob = [O3 b [An a]]) ⟨I, I⟩ ⟨I, J⟩ ⟨[0], I, by decide⟩ ?_ ?_
 rintro R Y bh gs s ob em bi ⟨rfl, rfl⟩ h en
 have eo := Cr bi
 refine Ai I (Ab fun gu ep => Bf I eo (gS ?_))
 subst ep
 refine gR (gQ (gR (gN (Ao 2 [.x 0 R (Cx Y)] I ⟨⟨I, Ag em⟩, J⟩ (gP [] I (Bl W4 3 fun gv => gP [1] I (Bc 1 0 0 [Cx Y] I (gO (gR (gN (Ao 2 [.o 1 1] I J1 (Br (Ch Y.Pressure 0 100000000 _ I) (Af 1 I ?_)))))))))))))
 refine gO (Ar h I ?_ ?_)
 intro eq h
 refine Ai I ?_
 obtain rfl := en _ (oi h).symm
 have h := bg
 have h := Cq h
 refine gU g0 ?_
 cases io h
 exact gT pr
 intro eq h
 refine gS (gN (Ao 2 [.k 0 (R + 1 : Nat)] I ⟨Az bi ek, J⟩ ?_))
 cases io h
 exact gO ⟨_, _, _, I, I2, J4, [0], I, by decide⟩
 rintro bh s ob ⟨rfl, rfl⟩ he
 subst he
 have h := C0 bg
 have er := Cs a.Ports.length
 exact Ai I (Ab fun gw gx => Bg I er (gW (lg ⟨(), h, I2⟩ [0])))
 rintro s ob ⟨bf, h, rfl, rfl⟩
 unfold Ky.J9 at h
 refine Aj (fun s ob => ∃ (bj : Unit), Ky.J10 a bj = some r ∧ s = [] ∧ ob = [O3 b [An a]]) [(1, _)] J1 ?_ ?_
 refine A8 [.o 1 0, .l 2 (a.Stations.length : Int)] I ⟨A2, I, J⟩ (gQ (B0 186 I fun es => ?_))
 obtain ⟨gy, et, bk⟩ := Ac h
 refine Bh et [(1, _), (186, _), (187, _)] J3 (fun (S : Nat) (bl : Unit) s ob => s = [(188, .V (S : Int))] ∧ ob = [O3 b [An a]]) ⟨I, I⟩ ⟨I, J⟩ ⟨[0], I, by decide⟩ ?_ ?_
 rintro S e bl gz s ob eu bm ⟨rfl, rfl⟩ h ev
 unfold Ky.B11 at h
 have ew := Cr bm
 refine Ai I (Ab fun g1 ex => Bf I ew (gS ?_))
 subst ex
 refine gR (gQ (Ab fun g2 ey => gN (Ao 2 [.x 0 S (A9 e)] I ⟨⟨I, Ag eu⟩, J⟩ (gP [] I (Bl W3 5 fun g3 => gP [1] I (Bc 1 0 0 [A9 e] I (gO ?_)))))))
 subst ey
 refine Ew 207 ((!(Bo e.Head 0 100000000)) || ((!(Bo e.Fall 0 100000)) || (!(Bo e.Suction 0 100000000)))) ?_ ?_
 refine gN (Ao 2 [.o 1 1] I J1 (Br (Ch e.Head 0 100000000 _ I) (Af 2 I ?_)))
 rcases bt ((!(Bo e.Head 0 100000000))) with n | n
 exact Ae 196 I n (Af 11 I (gO (jf (by simp only [n, bz]) I I I2)))
 refine Ae 196 I n (Ao 2 [.o 1 1] I J1 (Bm I I I (Br (Ch e.Fall 0 100000 _ I) (Af 3 I ?_))))
 rcases bt ((!(Bo e.Fall 0 100000))) with w | w
 exact Ae 202 I w (Af 5 I (gO (jf (by simp only [n, w, bz]) I I I2)))
 exact Ae 202 I w (Ao 2 [.o 1 1] I J1 (Bm I I I (Br (Ch e.Suction 0 100000000 _ I) (Af 2 I (gO (jf (by simp only [n, w, bz]) I I I2))))))
 refine Ar h I ?_ ?_
 intro ez h
 refine Ai I ?_
 obtain rfl := ev _ (oi h).symm
 have h := bk
 have h := Cq h
 refine gU g0 ?_
 cases io h
 exact gT pr
 intro ez h
 refine gS (gN (Ao 2 [.k 0 (S + 1 : Nat)] I ⟨Az bm es, J⟩ ?_))
 cases io h
 exact gO ⟨_, _, _, I, I2, J4, [0], I, by decide⟩
 rintro bl s ob ⟨rfl, rfl⟩ he
 subst he
 have h := C0 bk
 have e0 := Cs a.Stations.length
 exact Ai I (Ab fun g4 g5 => Bg I e0 (gW (lg ⟨(), h, I2⟩ [0])))
 rintro s ob ⟨bj, h, rfl, rfl⟩
 unfold Ky.J10 at h
 refine gR (Ew 218 ((!(Bo a.Vapour (-100000) 100000000)) || (!(Bo a.Settle 0 100))) ?_ ?_)
 refine gN (Ao 2 [.o 1 0] I J1 (Br (Ch a.Vapour (-100000) 100000000 _ I) (Af 2 I ?_)))
 rcases bt ((!(Bo a.Vapour (-100000) 100000000))) with A | A
 exact Ae 213 I A (Af 5 I (gO (jf (by simp only [A, bz]) I I I2)))
 exact Ae 213 I A (Ao 2 [.o 1 0] I J1 (Bm I I I (Br (Ch a.Settle 0 100 _ I) (Af 2 I (gO (jf (by simp only [A, bz]) I I I2))))))
 refine Ar h I ?_ ?_
 intro e1 h
 refine Ai I (gU g0 ?_)
 cases io h
 exact gT pr
 intro e1 h
 refine gS (Ai I (gU g0 ?_))
 cases io h
 exact gT pr
end Go.Proofs.YtkhcdkioehdndaaGreatDoor
