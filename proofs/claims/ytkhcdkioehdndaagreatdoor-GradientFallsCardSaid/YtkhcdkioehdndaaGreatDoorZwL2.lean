/- Walks that show what functions of the program compute; printed by a program of ours. No condition. -/
import Derived.Test.YtkhcdkioehdndaaGreatDoorZwL1
import Derived.Test.YtkhcdkioehdndaaGreatDoorZwD
set_option maxRecDepth 100000
namespace Go.Proofs.YtkhcdkioehdndaaGreatDoor
open Go.Aw
set_option linter.unusedVariables false
set_option linter.unusedSimpArgs false
set_option maxHeartbeats 4000000
theorem L3 (a : Sg) (r : Int) (h : Jm a = some r) : ACalls Ae 49 [.agg (Ai a)] [] (RV (.V r)) := by
 refine Aa Tryz.func49 I I I fun C hC => ?_
 refine Ab fun k b => Z2 (Z4 [] I (Cg (Ai a) 7 fun n => Af 1 I (Z3 ?_)))
 subst b
 refine Ab fun s c => Z2 (Af 1 I (Z4 [0] I (Bk 0 0 1 [[.v (.string a.Name), .V 0, .V a.To, .V a.Capacity, .V a.Resist, .V a.Wave, Q6 a.Points]] I (Af 1 I (Z4 [0] I (Bk 0 0 2 [[.v (.string a.Name), .V 0, .V 1, .V a.Capacity, .V a.Resist, .V a.Wave, Q6 a.Points]] I (Z3 ?_)))))))
 subst c
 refine Z5 (Z5 ?_)
 obtain ⟨t, d, h⟩ := Ac h
 refine Z2 (Z4 [] I (aE (sz := 1) (es := ([(⟨#[97]⟩ : Bt), (⟨#[98]⟩ : Bt)] : List Bt).map rS) I I I I I I I I I I I dS fun e => Ao 1 [.o 0 0] I J1 (Z4 [] I (aE (sz := 7) (es := ([(⟨a.Name, 0, 1, a.Capacity, a.Resist, a.Wave, a.Points⟩ : Sg)] : List Sg).map Ai) I I I I I I I I I I I dS fun f => AO.one 1 I fun g => AO.one 2 I fun i => Bi (Au (l := [.v e, .v f, .N, .N, .V 0, .V 0]) Oy (D0 I I (D5 g) I (D0 I I (D5 i) I (N8)))) I (Z4 [] I (Bo I (.refl _) I I (.cons (.agg (.cons (.us 1 I) (.cons (.us 2 I) (.cons (.nil _) (.cons (.nil _) (.rest _)))))) (.rest _)) I (Tj _ _ d) dS (by rintro _ _ ⟨rfl, _⟩; rfl) ?_))))))
 rintro _ ⟨_, rfl, -⟩
 refine Af 1 I (Z3 (Av h I ?_ ?_))
 intro j h
 refine Ak I (aA g0 ?_)
 cases io h
 exact Z8 pr
 intro j h
 refine Z7 (Ak I (aA g0 ?_))
 cases io h
 exact Z8 pr
theorem S5 (a : Piece) (r : Bool) (h : Jr a = r) : ACalls Ae 76 [.agg (A3 a)] [] (RB r) := by
 refine Aa Tryz.func76 I I I fun C hC => ?_
 unfold Jr at h
 refine Ab fun f e => Z2 (Z4 [] I (Cg (A3 a) 2 fun g => Af 1 I (Z3 ?_)))
 subst e
 refine Am (fun s ob => s = [(2, .v (.bool (decide (a.Batch ≥ 0) && (decide (a.Batch < 1000) && (decide (a.Volume ≥ 0) && decide (a.Volume ≤ 1000000))))))] ∧ ob = []) [] J ?_ ?_
 refine Z2 (Ao 4 [.o 1 0] I J1 ?_)
 rcases bt (decide (a.Batch ≥ 0)) with b | b
 refine Aj 6 I b (Ao 5 [.o 1 0] I J1 ?_)
 rcases bt (decide (a.Batch < 1000)) with c | c
 refine Aj 11 I c (Ao 5 [.o 1 0] I J1 ?_)
 rcases bt (decide (a.Volume ≥ 0)) with d | d
 refine Aj 16 I d (Ao 5 [.o 1 0] I J1 (Z3 ?_))
 exact lf I2 ⟨(Dl (by simp only [b, c, d, bz])), J⟩ [] I
 refine Aj 16 I d (Af 5 I (Z3 ?_))
 exact lf I2 ⟨(Dl (by simp only [b, c, d, bz])), J⟩ [] I
 refine Aj 11 I c (Af 10 I (Z3 ?_))
 exact lf I2 ⟨(Dl (by simp only [b, c, bz])), J⟩ [] I
 refine Aj 6 I b (Af 15 I (Z3 ?_))
 exact lf I2 ⟨(Dl (by simp only [b, bz])), J⟩ [] I
 rintro s ob ⟨rfl, rfl⟩
 obtain rfl := h
 exact Z8 pr
theorem L6 (a : List Piece) (r : Int) (h : Gl a = some r) : ACalls Ae 77 [Q4 a] [] (RV (.V r)) := by
 refine Aa Tryz.func77 I I I fun C hC => ?_
 unfold Gl at h
 refine Ak I (Ak I (Am (fun s ob => ∃ (d : Int), Gl.J1 d = some r ∧ s = [(3, .V d)] ∧ ob = []) [] J ?_ ?_))
 refine Bl [.l 1 (a.length : Int)] I ⟨Bc, J⟩ (Z6 (Co 6 I fun g => ?_))
 obtain ⟨u, i, j⟩ := Ac h
 refine Ei i [(6, _), (7, _)] J2 (fun (b : Nat) (c : Int) s ob => s = [(8, .V (b : Int)), (3, .V c)] ∧ ob = []) ⟨I, I⟩ ⟨I, I, J⟩ ⟨[], I, by decide⟩ ?_ ?_
 rintro b e c w s ob n f ⟨rfl, rfl⟩ h
 unfold Gl.B2 at h
 have p := Do f
 refine Ak I (Ab fun y q => B0 I p (Z7 ?_))
 subst q
 refine Z5 (Z6 (Z5 (Z2 (Ao 2 [.x 0 b (A3 e)] I ⟨⟨I, Ag n⟩, J⟩ (Z4 [] I (Bz [.V 0, .V 0] 2 fun A => Z4 [0] I (Bk 0 0 0 [A3 e] I (Z3 (Qg [.o 2 0] I J1 (Z2 (Ao 2 [.k 0 (b + 1 : Nat)] I ⟨A5 f g, J⟩ ?_)))))))))))
 cases io h
 exact Z3 (lg I2 [])
 rintro c s ob ⟨rfl, rfl⟩ he
 subst he
 have h := j
 have t := Dp a.length
 exact Ak I (Ab fun B D => B7 I t (aB (lg ⟨c, h, I2⟩ [])))
 rintro s ob ⟨d, h, rfl, rfl⟩
 unfold Gl.J1 at h
 refine Ak I ?_
 cases io h
 exact Z8 pr
theorem L5 (a : List Piece) (r : Bool) (h : H6 a = some r) : ACalls Ae 57 [Q4 a] [] (RB r) := by
 refine Aa Tryz.func57 I I I fun C hC => ?_
 refine Ak I (Ab fun R w => Bl [.l 1 (a.length : Int)] I ⟨Bc, J⟩ (Av h I ?_ ?_))
 intro y h
 refine Ak I ?_
 cases io h
 exact Z8 pr
 intro y h
 refine Z7 ?_
 subst w
 refine Am (fun s ob => ∃ (n : Unit), H6.J1 a n = some r ∧ s = [] ∧ ob = []) [(0, _)] J1 ?_ ?_
 refine Bl [.l 1 (a.length : Int)] I ⟨Bc, J⟩ (Z6 (Co 8 I fun A => ?_))
 obtain ⟨S, B, p⟩ := Ac h
 refine Cd B [(0, _), (8, _), (9, _)] J3 (fun (d : Nat) (t : Unit) s ob => s = [(10, .V (d : Int))] ∧ ob = []) ⟨I, I⟩ ⟨I, J⟩ ⟨[], I, by decide⟩ ?_ ?_
 rintro d b t D s ob E u ⟨rfl, rfl⟩ h F
 unfold H6.B2 at h
 have G := Do u
 refine Ak I (Ab fun U H => B0 I G (Z7 ?_))
 subst H
 refine Z5 (Z6 (Ab fun W K => Z2 (Ao 3 [.x 1 d (A3 b)] I ⟨⟨I, Ag E⟩, J⟩ (Z4 [] I (Bz [.V 0, .V 0] 2 fun X => Af 1 I (Z4 [0] I (Bk 0 0 0 [A3 b] I (Z3 ?_))))))))
 subst K
 refine Am (fun s ob => ∃ (i : Bool), H6.J3 i = some D ∧ s = [(37, .v (.bool i))] ∧ ob = []) [(0, _), (8, _), (9, _), (10, _)] J4 ?_ ?_
 refine Cb (pd 23 0 [1]) [0] [_] I (Dd 1 [.o 0 0] I J1 (Nl I (S5 b _ I) (Aq 2 I ?_)))
 rcases bt ((!(Jr b))) with e | e
 have h := C1 e h
 refine Ax 18 I e (Aq 8 I (Ad I I I I dS (Ad I I I I dS (Ad I I I I dS (Ad I I I I dS (Ad I I I I dS (Ad I I I I dS (Ad I I I I dS (Ad I I I I dS (Ad I I I I dS (Aq 2 I (Ay ?_))))))))))))
 exact Z3 (lg ⟨true, h, I2⟩ [])
 have h := C2 e h
 refine Ax 18 I e (Dd 5 [.o 1 0] I J1 ?_)
 rcases bt ((b.Volume == 0)) with f | f
 have h := C1 f h
 refine Ax 23 I f (Aq 3 I (Ad I I I I dS (Ad I I I I dS (Ad I I I I dS (Ad I I I I dS (Ad I I I I dS (Ad I I I I dS (Ad I I I I dS (Ad I I I I dS (Ad I I I I dS (Aq 2 I (Ay ?_))))))))))))
 exact Z3 (lg ⟨true, h, I2⟩ [])
 have h := C2 f h
 refine Ax 23 I f (Aq 3 I ?_)
 rcases bt (decide ((d : Int) > 0)) with g | g
 have h := C1 g h
 obtain ⟨j, ⟨M, N⟩, h⟩ := Bg h
 exact Ax 26 I g (Dd 11 [.x 3 j.1 (A3 j.2), .o 7 0] I ⟨I, ⟨M, Ag N⟩, J⟩ (Ay (Z3 (lg ⟨(j.2.Batch == b.Batch), h, I2⟩ []))))
 have h := C2 g h
 exact Ax 26 I g (Aq 11 I (Ay (Z3 (lg ⟨false, h, I2⟩ []))))
 rintro s ob ⟨i, h, rfl, rfl⟩
 refine Av h I ?_ ?_
 intro O h
 refine Ak I ?_
 obtain rfl := F _ (oi h).symm
 have h := p
 have h := Ef h
 cases io h
 exact Z8 pr
 intro O h
 refine Z7 (Z2 (Ao 2 [.k 0 (d + 1 : Nat)] I ⟨A5 u A, J⟩ ?_))
 cases io h
 exact Z3 ⟨_, _, _, I, I2, J4, [], I, by decide⟩
 rintro t s ob ⟨rfl, rfl⟩ he
 subst he
 have h := Eo p
 have P := Dp a.length
 exact Ak I (Ab fun Y Z => B7 I P (aB (lg ⟨(), h, I2⟩ [])))
 rintro s ob ⟨n, h, rfl, rfl⟩
 refine Z5 ?_
 obtain ⟨aa, Q, h⟩ := Ac h
 refine Z2 (Af 1 I (By (L6 _ _ Q) (Af 2 I (Z3 ?_))))
 cases io h
 exact Z8 pr
theorem Sy (a : List Piece) (r : Int) (h : Pg a = some r) : ACalls Ae 58 [Q4 a] [] (RV (.V r)) := by
 refine Aa Tryz.func58 I I I fun C hC => ?_
 refine Ak I (Z5 (Z5 ?_))
 obtain ⟨f, b, h⟩ := Ac h
 refine Z2 (Af 1 I (By (L5 _ _ b) (Af 1 I (Z3 (Av h I ?_ ?_)))))
 intro d h
 refine Ak I ?_
 cases io h
 exact Z8 pr
 intro d h
 refine Z7 (Z5 ?_)
 obtain ⟨g, e, h⟩ := Ac h
 refine Z2 (Af 1 I (By (L6 _ _ e) (Af 1 I (Z3 ?_))))
 cases io h
 exact Z8 pr
theorem Tc (a : Sg) (d : List Piece) (r : Int) (h : Jv a d = some r) : ACalls Ae 25 [.agg (Ai a), Q4 d] [] (RV (.V r)) := by
 refine Aa Tryz.func25 I I I fun C hC => ?_
 unfold Jv at h
 refine Ab fun w f => Z2 (Z4 [] I (Cg (Ai a) 7 fun g => Af 1 I (Z3 ?_)))
 subst f
 refine Ab fun y i => Am (fun s ob => ∃ (e : Bool), Jv.J1 a d e = some r ∧ s = [(12, .v (.bool e))] ∧ ob = [O1 g [Ai a]]) [(1, _), (2, _)] J2 ?_ ?_
 obtain ⟨j, k, h⟩ := Ac h
 refine Z2 (Ao 1 [.o 0 0] I J1 (By (L3 _ _ k) (Af 2 I ?_)))
 rcases bt ((j != 0)) with b | b
 have h := C1 b h
 exact Aj 8 I b (Af 4 I (Z3 (lg ⟨true, h, I2⟩ [0])))
 have h := C2 b h
 obtain ⟨l, n, h⟩ := Ac h
 exact Aj 8 I b (Af 1 I (Bu I I I (By (L5 _ _ n) (Af 2 I (Z3 (lg ⟨(!l), h, I2⟩ [0]))))))
 rintro s ob ⟨e, h, rfl, rfl⟩
 refine Av h I ?_ ?_
 intro p h
 refine Ak I (aA g0 ?_)
 cases io h
 exact Z8 pr
 intro p h
 refine Z7 ?_
 subst i
 refine Z5 (Z5 ?_)
 obtain ⟨A, t, h⟩ := Ac h
 refine Cb (.still 0 (.still 2 (.still 3 (.act 1 (.still 4 .nil))))) [0] [_] I (Dd 3 [.o 2 0] I J1 (Nl I (Sy _ _ t) (Aq 1 I (Ay (Z3 (Av h I ?_ ?_))))))
 intro u h
 refine Ak I (aA g0 ?_)
 cases io h
 exact Z8 pr
 intro u h
 refine Z7 (Ak I (aA g0 ?_))
 cases io h
 exact Z8 pr
theorem Tk (a : Value) (b : Li) (r : Li) (h : Mu b = some r) : ACalls Ae 61 [.v a] [U0 a b] (Dz 1 fun x os new => x = .tup [] ∧ os = [U0 a r] ∧ new = []) := by
  unfold Mu at h
  split at h
  · cases h
  · rename_i hne
    cases io h
    rw [← Lo]
    exact Nh ⟨_, Tryz.func61, rfl, rfl⟩ (fun Fb off cap zs w c d e => Go.Proofs.Tryz.slices_Sort_int Fb off cap zs w c d e) hne
theorem T1 (a : Value) (b : Li) (r : Li) (h : Mz b = some r) : ACalls Ae 62 [.v a] [U0 a b] (Dz 1 fun x os new => ∃ (c : Value), x = .v c ∧ os = [.us (.slice none 0 0) 3 1 ([].map rI)] ∧ new = [U0 c r]) := by
  unfold Mz at h
  split at h
  · cases h
  · rename_i hne
    cases io h
    exact I9 ⟨_, Tryz.func62, rfl, rfl⟩ (fun Fb off cap zs w d e f => Go.Proofs.Tryz.slices_Compact_int Fb off cap zs w d e f) hne
theorem Te (b : Sg) (c : List Piece) (r : Li) (h : H7 b c = some r) : ACalls Ae 29 [.agg (Ai b), Q4 c] [] (fun x new => ∃ (y : Value), x = .v y ∧ new = [U0 y r]) := by
 refine Aa Tryz.func29 I I I fun C hC => ?_
 unfold H7 at h
 refine Ab fun y1 E => Z2 (Z4 [] I (Cg (Ai b) 7 fun b2 => Af 1 I (Z3 ?_)))
 subst E
 refine Ak I (Am (fun s ob => ∃ (p : Li) (g : Value), H7.J1 c p = some r ∧ s = [(5, .v g)] ∧ ob = [U0 g p]) [(1, _)] J1 ?_ ?_)
 refine Bl [.o 1 0, .l 2 (b.Points.length : Int)] I ⟨Bc, I, J⟩ (Z6 (Co 12 I fun F => aA (Be 3 1) ?_))
 obtain ⟨ah, G, H⟩ := Ac h
 refine Ei G [(1, _), (12, _), (13, _)] J3 (fun (i : Nat) (j : Li) s ob => ∃ (d : Value), s = [(14, .V (i : Int)), (5, .v d)] ∧ ob = [U0 d j]) ⟨(.slice none 0 0), I2⟩ ⟨I, I, J⟩ ⟨[1], I, by decide⟩ ?_ ?_
 rintro i t j ai s ob K A ⟨d, rfl, rfl⟩ h
 have M := Do A
 refine Ak I (Ab fun aj N => B0 I M (Z7 ?_))
 subst N
 refine Z5 (Z6 (Z5 (Z2 (Ao 2 [.x 0 i (A2 t)] I ⟨⟨I, Ag K⟩, J⟩ (Z4 [] I (Bz W1 3 fun ak => Z4 [1] I (Bk 1 0 0 [A2 t] I (Z3 ?_))))))))
 obtain ⟨al, O, h⟩ := Ac h
 refine Z2 (Ao 3 [.o 2 1] I J1 (Z4 [] I (aD 1 (([t.At] : Li).map rI) (Z4 [0] I (D7 0 I O fun P => Af 1 I (Z3 (Z2 (Ao 2 [.k 0 (i + 1 : Nat)] I ⟨A5 A F, J⟩ ?_))))))))
 cases io h
 exact Z3 (lg ⟨P, I2⟩ [0])
 rintro j s ob ⟨d, rfl, rfl⟩ he
 subst he
 have h := H
 have Q := Dp b.Points.length
 exact Ak I (Ab fun am an => B7 I Q (aB (lg ⟨j, d, h, I2⟩ [0])))
 rintro s ob ⟨p, g, h, rfl, rfl⟩
 unfold H7.J1 at h
 refine Ak I (Am (fun s ob => ∃ (u : Li) (e : Value), H7.J2 u = some r ∧ s = [(5, .v e)] ∧ ob = [U0 e u]) [] J ?_ ?_)
 refine Bl [.l 1 (c.length : Int)] I ⟨Bc, J⟩ (Z6 (Co 24 I fun R => ?_))
 obtain ⟨ao, S, U⟩ := Ac h
 refine Ei S [(24, _), (25, _)] J2 (fun (n : Nat) (a : Li × Int) s ob => ∃ (f : Value), s = [(26, .V (n : Int)), (5, .v f), (8, .V a.2)] ∧ ob = [U0 f a.1]) ⟨g, I2⟩ ⟨I, I, I, J⟩ ⟨[0], I, by decide⟩ ?_ ?_
 rintro n w a aq s ob W B ⟨f, rfl, rfl⟩ h
 have X := Do B
 refine Ak I (Ab fun ar Y => B0 I X (Z7 ?_))
 subst Y
 refine Z5 (Z6 (Z5 (Z2 (Ao 2 [.x 0 n (A3 w)] I ⟨⟨I, Ag W⟩, J⟩ (Z4 [] I (Bz [.V 0, .V 0] 2 fun au => Z4 [1] I (Bk 1 0 0 [A3 w] I (Z3 (Bl [.o 2 1] I J1 ?_)))))))))
 obtain ⟨av, Z, h⟩ := Ac h
 refine Z2 (Af 2 I (Z4 [] I (aD 1 (([wr (a.2 + w.Volume)] : Li).map rI) (Z4 [0] I (D7 0 I Z fun aa => Af 1 I (Z3 (Z2 (Ao 2 [.k 0 (n + 1 : Nat)] I ⟨A5 B R, J⟩ ?_))))))))
 cases io h
 exact Z3 (lg ⟨aa, I2⟩ [0])
 rintro a s ob ⟨f, rfl, rfl⟩ he
 subst he
 have h := U
 have ab := Dp c.length
 exact Ak I (Ab fun aw ax => B7 I ab (aB (lg ⟨a.1, f, h, I2⟩ [0])))
 rintro s ob ⟨u, e, h, rfl, rfl⟩
 refine Z5 ?_
 obtain ⟨ay, ac, h⟩ := Ac h
 refine Z2 (Af 1 I (Z4 [0] I (Cf [0] (Tk e _ _ ac) ?_)))
 refine Z3 (Z5 ?_)
 obtain ⟨ad, ae, h⟩ := Ac h
 refine Z2 (Af 1 I (Z4 [0] I (Jg [0] (T1 e _ _ ae) ?_)))
 rintro _ _ _ - ⟨D, rfl, rfl, rfl⟩
 refine Af 1 I (Z3 (Fy [1] I ?_))
 obtain rfl := oi h
 exact Z8 ⟨.inr I, [_], [U0 D ad], J1, Dh I (Ct), ⟨D, I2⟩⟩
end Go.Proofs.YtkhcdkioehdndaaGreatDoor
