/- Walks that show what functions of the program compute; printed by a program of ours. No condition. -/
import Derived.Test.YtodeekicjiengaaGreatDoorYvLg2
import Derived.Test.YtodeekicjiengaaGreatDoorYvD
set_option maxRecDepth 100000
namespace Go.Proofs.YtodeekicjiengaaGreatDoor
open Go.Aw
set_option linter.unusedVariables false
set_option linter.unusedSimpArgs false
set_option maxHeartbeats 4000000
theorem dR (a : Nw) (b : Plan) (r : Li × Int) (h : Us a b = some r) : ACalls Aj 47 [.agg (Ab a), .agg (Am b)] [] (fun x new => ∃ (d : Value), x = .tup [.v d, .V r.2] ∧ new = [U0 d r.1]) := by
 refine Ad Tryz.func47 I I I fun C hC => ?_
 refine Aa fun l f => sH (sJ [] I (Bo (Ab a) 6 fun n => sJ [] I (Bo (Am b) 3 fun p => Ag 2 I (sI ?_))))
 subst f
 refine sN (sN ?_)
 obtain ⟨s, g, h⟩ := Ac h
 refine sH (An 2 [.o 0 0, .o 1 1] I J2 (Cc (Jx _ _ _ g) (Ag 1 I (sI (Ah I (Ar h I ?_ ?_))))))
 intro i h
 refine Ah I (sP (Bv 3 1) (Cu [2] I ?_))
 obtain rfl := oi h
 exact sO ⟨.inr I, [_, _], [.us (.slice none 0 0) 3 1 ([].map rI)], J2, Cy I (Cm), ⟨(.slice none 0 0), I2⟩⟩
 intro i h
 refine sL (sN ?_)
 obtain ⟨j, k, h⟩ := Ac h
 refine sH (An 2 [.o 0 0, .o 1 1] I J2 (sJ [] I (Ci I I I (Tv _ _ _ k) dS ?_)))
 rintro _ _ ⟨e, rfl, rfl⟩
 refine Ag 2 I (sI (Cu [2] I ?_))
 obtain rfl := oi h
 exact sO ⟨.inr I, [_, _], [U0 e j], J2, Cy I (Cm), ⟨e, I2⟩⟩
theorem eH (a : List (List Piece)) (F1 : T) {c : FuncId} {d e : List T} (o : Jf F1 = some (c, d, e)) (f : (List Piece) → Option Bool) (p : ∀ (g : List Piece) r, f g = some r → ACalls Aj c (d ++ [Q4 g] ++ e) [] fun x new => x = .v (.bool r) ∧ new = []) (r : Int) (h : Uz a f = some r) : ACalls Aj 135 [.list 1 (a.map (rL 2 A9)), F1] [] (fun x new => x = .V r ∧ new = []) := by
 refine Ad Tryz.func135 I I I fun C hC => ?_
 unfold Uz at h
 refine Ah I (Ai (fun s ob => ∃ (i : Unit), Uz.J1 i = some r ∧ s = [] ∧ ob = []) [] J ?_ ?_)
 refine Bh [.l 1 (a.length : Int)] I ⟨Ay, J⟩ (sM (Bz 6 I fun q => ?_))
 obtain ⟨G, t, j⟩ := Ac h
 clear h
 refine Bx t [(0, _), (1, _), (7, _)] J3 (fun (b : Nat) (m : Unit) s ob => s = [(8, .V (b : Int))] ∧ ob = []) ⟨I, I⟩ ⟨I, J⟩ ⟨[], I, by decide⟩ ?_ ?_
 rintro b u m H s ob w n ⟨rfl, rfl⟩ h y
 have A := Cn n
 refine Ah I (Aa fun K B => Bs I A (sL ?_))
 subst B
 refine sN (sM (Ah I (sN ?_)))
 obtain ⟨M, D, h⟩ := Ac h
 refine sH (An 5 [.x 3 b ((rL 2 A9) u)] I ⟨⟨I, Ae w⟩, J⟩ (sJ [] I (Cl I (.refl _) o I (.rest _) I (p _ _ D) dS (by rintro _ _ ⟨rfl, _⟩; rfl) ?_)))
 rintro _ ⟨_, rfl, -⟩
 refine sI (Ar h I ?_ ?_)
 intro E h
 refine Ah I ?_
 obtain rfl := y _ (oi h).symm
 replace h := j
 replace h := C1 h
 obtain rfl := oi h
 exact sO pr
 intro E h
 refine sL (sH (An 2 [.k 0 (b + 1 : Nat)] I ⟨A0 n q, J⟩ ?_))
 obtain rfl := oi h
 exact sI ⟨_, _, _, I, I2, J4, [], I, by decide⟩
 rintro m s ob ⟨rfl, rfl⟩ he
 subst he
 have h := C6 j
 have F := Co a.length
 refine Ah I (Aa fun N O => Bu I F (sQ ?_))
 exact lg ⟨(), h, I2⟩ []
 rintro s ob ⟨i, h, rfl, rfl⟩
 refine Ah I ?_
 obtain rfl := oi h
 exact sO pr
theorem iH (b : List (List Piece)) (F1 : T) {d : FuncId} {e f : List T} (i : Jf F1 = some (d, e, f)) (a : (List Piece) → Option Bool) (j : ∀ (g : List Piece) r, a g = some r → ACalls Aj d (e ++ [Q4 g] ++ f) [] fun x new => x = .v (.bool r) ∧ new = []) (r : Bool) (h : Qm b a = some r) : ACalls Aj 83 [.list 1 (b.map (rL 2 A9)), F1] [] (fun x new => x = .v (.bool r) ∧ new = []) := by
 refine Ad Tryz.func83 I I I fun C hC => ?_
 refine Ah I (sN ?_)
 obtain ⟨l, k, h⟩ := Ac h
 refine sH (Ag 2 I (Cc (eH _ F1 i a j _ k) (Ag 2 I (sI ?_))))
 obtain rfl := oi h
 exact sO pr
theorem gQ (a : List Piece) (r : Bool) (h : Vq a = some r) : ACalls Aj 84 [Q4 a] [] (fun x new => x = .v (.bool r) ∧ new = []) := by
 refine Ad Tryz.func84 I I I fun C hC => ?_
 refine Ah I (sN ?_)
 obtain ⟨d, b, h⟩ := Ac h
 refine sH (Ag 1 I (Cc (Oa _ _ b) (Ag 2 I (sI ?_))))
 obtain rfl := oi h
 exact sO pr
theorem eO (a : Nw) (b : List (List Piece)) (r : Int) (h : Pv a b = some r) : ACalls Aj 48 [.agg (Ab a), .list 1 (b.map (rL 2 A9))] [] (fun x new => x = .V r ∧ new = []) := by
 refine Ad Tryz.func48 I I I fun C hC => ?_
 refine Aa fun X u => sH (sJ [] I (Bo (Ab a) 6 fun g => Ag 1 I (sI ?_)))
 subst u
 refine Aa fun Y w => sN ?_
 obtain ⟨Z, y, h⟩ := Ac h
 refine sH (An 1 [.o 0 0] I J1 (Cc (Jz _ _ y) (Ag 1 I (sI (Ah I (Ar h I ?_ ?_))))))
 intro A h
 refine Ah I (sP g0 ?_)
 obtain rfl := oi h
 exact sO pr
 intro A h
 refine sL ?_
 subst w
 refine Aa fun y7 B => Ai (fun s ob => ∃ (f : Bool), Pv.J1 a b f = some r ∧ s = [(22, .v (.bool f))] ∧ ob = [O0 g [Ab a]]) [(1, _), (2, _)] J2 ?_ ?_
 refine sH (An 7 [.l 1 (b.length : Int), .o 3 0, .l 4 (a.Segments.length : Int)] I ⟨Ay, I, Ay, J⟩ ?_)
 rcases bt (((b.length : Int) != (a.Segments.length : Int))) with d | d
 replace h := Bq d h
 refine Af 19 I d (Ag 3 I (sI ?_))
 exact lg ⟨true, h, I2⟩ [0]
 replace h := Br d h
 obtain ⟨D, E, h⟩ := Ac h
 refine Af 19 I d (Ag 1 I (Cd I I I (Cc (iH _ (.v (.func (.func 84) #[] #[])) I (fun x => Vq x) (fun x r h => gQ x r h) _ E) (Ag 1 I (sI ?_)))))
 exact lg ⟨D, h, I2⟩ [0]
 rintro s ob ⟨f, h, rfl, rfl⟩
 refine Ar h I ?_ ?_
 intro F h
 refine Ah I (sP g0 ?_)
 obtain rfl := oi h
 exact sO pr
 intro F h
 refine sL ?_
 subst B
 refine Ai (fun s ob => ∃ (i : Unit), Pv.J2 i = some r ∧ s = [] ∧ ob = []) [] J ?_ ?_
 refine Bh [.l 1 (b.length : Int)] I ⟨Ay, J⟩ (sM (Bz 23 I fun G => ?_))
 obtain ⟨ab, H, j⟩ := Ac h
 clear h
 refine Bx H [(2, _), (23, _), (24, _)] J3 (fun (e : Nat) (n : Unit) s ob => s = [(25, .V (e : Int))] ∧ ob = [O0 g [Ab a]]) ⟨I, I⟩ ⟨I, J⟩ ⟨[0], I, by decide⟩ ?_ ?_
 rintro e K n ac s ob M p ⟨rfl, rfl⟩ h N
 have O := Cn p
 refine Ah I (Aa fun ad P => Bs I O (sL ?_))
 subst P
 refine sN (sM (Bh [.x 1 e ((rL 2 A9) K)] I ⟨⟨I, Ae M⟩, J⟩ (sN ?_)))
 obtain ⟨ae, Q, h⟩ := Ac h
 obtain ⟨t, ⟨R, S⟩, h⟩ := A5 h
 refine By (.still 0 (sl 6 2 (.act 1 (.still 8 .nil)))) [0] [_] I (B8 7 [.o 2 0, .x 4 t.1 (Ak t.2)] I ⟨⟨R, Ae S⟩, I, J⟩ (Dp I (Tx _ _ Q) (Bg 1 I (Ap (sI (Ar h I ?_ ?_))))))
 intro U h
 refine Ah I ?_
 obtain rfl := N _ (oi h).symm
 replace h := j
 replace h := C1 h
 refine sP g0 ?_
 obtain rfl := oi h
 exact sO pr
 intro U h
 refine sL (sH (An 2 [.k 0 (e + 1 : Nat)] I ⟨A0 p G, J⟩ ?_))
 obtain rfl := oi h
 exact sI ⟨_, _, _, I, I2, J4, [0], I, by decide⟩
 rintro n s ob ⟨rfl, rfl⟩ he
 subst he
 have h := C6 j
 have W := Co b.length
 refine Ah I (Aa fun af ag => Bu I W (sQ ?_))
 exact lg ⟨(), h, I2⟩ []
 rintro s ob ⟨i, h, rfl, rfl⟩
 refine Ah I ?_
 obtain rfl := oi h
 exact sO pr
theorem Ka (a : Int) (c : Int) (r : Bool) (h : El a c = r) : ACalls Aj 181 [.V a, .V c] [] (fun x new => x = .v (.bool r) ∧ new = []) := by
 refine Ad Tryz.func181 I I I fun C hC => ?_
 unfold El at h
 refine Ah I (Ai (fun s ob => s = [(4, .v (.bool (decide (a ≥ 0) && decide (a ≤ c))))] ∧ ob = []) [] J ?_ ?_)
 refine sH (Ag 3 I ?_)
 rcases bt (decide (a ≥ 0)) with b | b
 refine Af 7 I b (Ag 5 I (sI ?_))
 exact lf I2 ⟨(Dn (by simp only [b, bz])), J⟩ [] I
 refine Af 7 I b (Ag 5 I (sI ?_))
 exact lf I2 ⟨(Dn (by simp only [b, bz])), J⟩ [] I
 rintro s ob ⟨rfl, rfl⟩
 obtain rfl := h
 exact sO pr
theorem eQ (a : Sn) (r : Bool) (h : Pw a = some r) : ACalls Aj 174 [.agg (Ba a)] [] (fun x new => x = .v (.bool r) ∧ new = []) := by
 refine Ad Tryz.func174 I I I fun C hC => ?_
 unfold Pw at h
 refine Aa fun l i => sH (sJ [] I (Bo (Ba a) 5 fun n => Ag 1 I (sI ?_)))
 subst i
 refine Ah I (Ai (fun s ob => ∃ (g : Bool), Pw.J1 g = some r ∧ s = [(2, .v (.bool g))] ∧ ob = []) [] J ?_ ?_)
 obtain ⟨j, k, h⟩ := Ac h
 refine sH (An 2 [.o 1 0] I J1 (Cc (Of _ _ k) (Ag 1 I ?_)))
 rcases bt (j) with b | b
 replace h := Bq b h
 refine Af 7 I b (An 3 [.o 2 0] I J1 (Cd I I I (Cc (Ka a.Node 23 _ I) (Ag 2 I ?_))))
 rcases bt ((El a.Node 23)) with d | d
 replace h := Bq d h
 refine Af 13 I d (An 3 [.o 2 0] I J1 (Cd I I I (Cc (Ka a.Head 100000000 _ I) (Ag 2 I ?_))))
 rcases bt ((El a.Head 100000000)) with e | e
 replace h := Bq e h
 refine Af 19 I e (An 3 [.o 2 0] I J1 (Cd I I I (Cc (Ka a.Fall 100000 _ I) (Ag 2 I ?_))))
 rcases bt ((El a.Fall 100000)) with f | f
 replace h := Bq f h
 refine Af 25 I f (An 3 [.o 2 0] I J1 (Cd I I I (Cc (Ka a.Suction 100000000 _ I) (Ag 2 I (sI ?_)))))
 exact lg ⟨(El a.Suction 100000000), h, I2⟩ []
 replace h := Br f h
 refine Af 25 I f (Ag 6 I (sI ?_))
 exact lg ⟨false, h, I2⟩ []
 replace h := Br e h
 refine Af 19 I e (Ag 12 I (sI ?_))
 exact lg ⟨false, h, I2⟩ []
 replace h := Br d h
 refine Af 13 I d (Ag 18 I (sI ?_))
 exact lg ⟨false, h, I2⟩ []
 replace h := Br b h
 refine Af 7 I b (Ag 24 I (sI ?_))
 exact lg ⟨false, h, I2⟩ []
 rintro s ob ⟨g, h, rfl, rfl⟩
 obtain rfl := oi h
 exact sO pr
theorem fV (a : station_pump) (b : Int) (r : Int) (h : Y8 a b = some r) : ACalls Aj 175 [.agg (Hr a), .V b] [] (fun x new => x = .V r ∧ new = []) := by
 refine Ad Tryz.func175 I I I fun C hC => ?_
 refine Aa fun f d => sH (sJ [] I (Bo (Hr a) 5 fun g => Ag 1 I (sI ?_)))
 subst d
 refine sN ?_
 obtain ⟨i, e, h⟩ := Ac h
 refine By (pd 14 0 [10]) [0] [_] I (B8 10 [.o 2 0, .o 5 0] I J2 (Dp I (N7 _ _ _ e) (Bg 2 I (Jl 4 (Bg 1 I (Ap (sI (sP g0 ?_))))))))
 obtain rfl := oi h
 exact sO pr
theorem hG (a : Sn) (b : Int) (r : Int × Int) (h : Vu a b = some r) : ACalls Aj 167 [.agg (Ba a), .V b] [] (fun x new => x = .tup [.V r.1, .V r.2] ∧ new = []) := by
 refine Ad Tryz.func167 I I I fun C hC => ?_
 refine Aa fun n e => sH (sJ [] I (Bo (Ba a) 5 fun s => Ag 2 I (sI ?_)))
 subst e
 refine Aa fun t f => sN ?_
 obtain ⟨u, g, h⟩ := Ac h
 refine sH (An 1 [.o 0 0] I J1 (Cc (eQ _ _ g) (Ag 1 I (sI (Ar h I ?_ ?_)))))
 intro i h
 refine Ah I (sP g0 ?_)
 obtain rfl := oi h
 exact sO ⟨.inr I, [_, _], [], J2, Cm, I2⟩
 intro i h
 refine sL ?_
 subst f
 refine sN (Ec 14 (decide (b < 0) || decide (b > 32000)) ?_ ?_)
 refine sH (Ag 3 I ?_)
 rcases bt (decide (b < 0)) with d | d
 refine Af 11 I d (Ag 3 I (sI ?_))
 exact jf (by simp only [d, bz]) I I I2
 refine Af 11 I d (Ag 3 I (sI ?_))
 exact jf (by simp only [d, bz]) I I I2
 refine Ar h I ?_ ?_
 intro j h
 refine Ah I (sP g0 ?_)
 obtain rfl := oi h
 exact sO ⟨.inr I, [_, _], [], J2, Cm, I2⟩
 intro j h
 refine sL (sN ?_)
 obtain ⟨w, k, h⟩ := Ac h
 refine sH (An 1 [.o 0 0] I J1 (sT (Au (l := [.v (.string a.Name), .V a.Node, .V a.Head, .V a.Fall, .V a.Suction]) Yj I) I (Ag 1 I (Cc (fV _ _ _ k) (Ag 2 I (sI (sP g0 ?_)))))))
 obtain rfl := oi h
 exact sO ⟨.inr I, [_, _], [], J2, Cm, I2⟩
theorem dO (f : Sn) (a : Bounds) (g : Int) (r : Bounds × Int) (h : Ur f a g = some r) : ACalls Aj 141 [.agg (Ba f), .agg (Aq a), .V g] [] (fun x new => x = .tup [.agg (Aq r.1), .V r.2] ∧ new = []) := by
 refine Ad Tryz.func141 I I I fun C hC => ?_
 refine Aa fun v i => sH (sJ [] I (Bo (Ba f) 5 fun w => sJ [] I (Bo (Aq a) 2 fun y => sJ [] I (sS [.V 0, .V 0] 2 fun A => Ag 1 I (sI ?_)))))
 subst i
 refine Aa fun B j => ?_
 obtain ⟨e, k, h⟩ := Ac h
 refine sH (An 2 [.o 0 0] I J1 (Cc (hG _ _ _ k) (Ag 5 I (sI ?_))))
 subst j
 refine Aa fun D n => Ah I (Ar h I ?_ ?_)
 intro s h
 refine sN (sH (sT (Au (l := [.V 0, .V 0]) Do I) I (Ag 1 I (sJ [2] I (A3 2 0 0 [[.V 0, .V 0]] I (Ag 1 I (sI (Cu [2] I ?_))))))))
 obtain rfl := oi h
 exact sO ⟨.inr I, [_, _], [], ⟨⟨0, _, _, _, _, _, _, _, I5⟩, I, J⟩, Cm, I2⟩
 intro s h
 refine sL ?_
 subst n
 refine Aa fun E t => Ec 34 (decide (a.Low > a.High) || (decide (a.Low < (-1125899906842624)) || decide (a.High > 1125899906842624))) ?_ ?_
 refine sH (An 6 [.o 1 1, .o 3 1] I J2 ?_)
 rcases bt (decide (a.Low > a.High)) with b | b
 refine Af 25 I b (Ag 9 I (sI ?_))
 exact jf (by simp only [b, bz]) I I I2
 refine Af 25 I b (An 5 [.o 1 1] I J1 ?_)
 rcases bt (decide (a.Low < (-1125899906842624))) with d | d
 refine Af 30 I d (Ag 4 I (sI ?_))
 exact jf (by simp only [b, d, bz]) I I I2
 refine Af 30 I d (An 4 [.o 1 1] I J1 (sI ?_))
 exact jf (by simp only [b, d, bz]) I I I2
 refine Ar h I ?_ ?_
 intro u h
 refine sN (sH (sT (Au (l := [.V 0, .V 0]) Do I) I (sJ [2] I (A3 2 0 0 [[.V 0, .V 0]] I (Ag 1 I (sI (Cu [2] I ?_)))))))
 obtain rfl := oi h
 exact sO ⟨.inr I, [_, _], [], ⟨⟨0, _, _, _, _, _, _, _, I5⟩, I, J⟩, Cm, I2⟩
 intro u h
 refine sL ?_
 subst t
 refine sN (sH (An 8 [.o 1 1, .o 5 1] I J2 (sT (Au (l := [.V (wr (a.Low + e.1)), .V (wr (a.High + e.1))]) Do I) I (sJ [2] I (A3 2 0 0 [[.V (wr (a.Low + e.1)), .V (wr (a.High + e.1))]] I (Ag 1 I (sI (Cu [2] I ?_))))))))
 obtain rfl := oi h
 exact sO ⟨.inr I, [_, _], [], ⟨⟨0, _, _, _, _, _, _, _, I5⟩, I, J⟩, Cm, I2⟩
theorem fK (f : Int) (d : List Batch) (e : List Product) (r : Bool) (h : M9 f d e = some r) : ACalls Aj 52 [.V f, Q3 d, Q2 e] [] (fun x new => x = .v (.bool r) ∧ new = []) := by
 refine Ad Tryz.func52 I I I fun C hC => ?_
 unfold M9 at h
 refine Ah I (Ai (fun s ob => ∃ (g : Bool), M9.J1 g = some r ∧ s = [(6, .v (.bool g))] ∧ ob = []) [] J ?_ ?_)
 refine sH (An 5 [.l 2 (d.length : Int)] I ⟨Ay, J⟩ ?_)
 rcases bt (decide (f < (d.length : Int))) with b | b
 replace h := Bq b h
 obtain ⟨a, ⟨i, j⟩, h⟩ := A5 h
 refine Af 11 I b (An 8 [.x 2 a.1 (D3 a.2)] I ⟨⟨i, Ae j⟩, J⟩ ?_)
 rcases bt (decide (a.2.Product ≥ 0)) with c | c
 replace h := Bq c h
 refine Af 19 I c (An 10 [.x 2 a.1 (D3 a.2), .l 6 (e.length : Int)] I ⟨Ay, ⟨i, Ae j⟩, J⟩ (sI ?_))
 exact lg ⟨decide (a.2.Product < (e.length : Int)), h, I2⟩ []
 replace h := Br c h
 refine Af 19 I c (Ag 10 I (sI ?_))
 exact lg ⟨false, h, I2⟩ []
 replace h := Br b h
 refine Af 11 I b (Ag 18 I (sI ?_))
 exact lg ⟨false, h, I2⟩ []
 rintro s ob ⟨g, h, rfl, rfl⟩
 obtain rfl := oi h
 exact sO pr
end Go.Proofs.YtodeekicjiengaaGreatDoor
