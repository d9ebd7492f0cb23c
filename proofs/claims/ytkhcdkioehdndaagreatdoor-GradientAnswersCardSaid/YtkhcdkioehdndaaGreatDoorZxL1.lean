/- Walks that show what functions of the program compute; printed by a program of ours. No condition. -/
import Derived.Test.YtkhcdkioehdndaaGreatDoorZxL0
import Derived.Test.YtkhcdkioehdndaaGreatDoorZxD
set_option maxRecDepth 100000
namespace Go.Proofs.YtkhcdkioehdndaaGreatDoor
open Go.Aw
set_option linter.unusedVariables false
set_option linter.unusedSimpArgs false
set_option maxHeartbeats 4000000
abbrev Y8 : PL := sl 7 0 (sl 3 8 (.two 7 11 (.act 11 (.still 12 (.act 13 (.act 14 (.act 15 .nil))))) (.act 7 (.still 12 (.act 13 (.act 14 (.act 15 .nil)))))))
theorem Qc (a : Sg) (r : Bool) (h : M8 a = some r) : ACalls Ah 53 [.agg (Aa a)] [] (RB r) := by
 refine Ad Tryz.func53 I I I fun C hC => ?_
 refine Ab fun i b => gN (gP [] I (Cc (Aa a) 7 fun j => Af 1 I (gO ?_)))
 subst b
 refine gR (gN (Af 1 I (gP [0] I (Bc 0 0 1 [[.v (.string a.Name), .V 0, .V a.To, .V a.Capacity, .V a.Resist, .V a.Wave, Q6 a.Points]] I (Af 1 I (gP [0] I (Bc 0 0 2 [[.v (.string a.Name), .V 0, .V 1, .V a.Capacity, .V a.Resist, .V a.Wave, Q6 a.Points]] I (gO (gR ?_)))))))))
 obtain ⟨k, c, h⟩ := Ac h
 refine gN (gP [] I (gX (sz := 1) (es := ([(⟨#[97]⟩ : Bt), (⟨#[98]⟩ : Bt)] : List Bt).map rS) I I I I I I I I I I I dS fun d => Ao 1 [.o 0 0] I J1 (gP [] I (gX (sz := 7) (es := ([(⟨a.Name, 0, 1, a.Capacity, a.Resist, a.Wave, a.Points⟩ : Sg)] : List Sg).map Aa) I I I I I I I I I I I dS fun e => AO.one 1 I fun f => AO.one 2 I fun g => Bk (A4 (l := [.v d, .v e, .N, .N, .V 0, .V 0]) Lv (D4 I I (Dm f) I (D4 I I (Dm g) I (Nt)))) I (gP [] I (By I (.refl _) I I (.cons (.agg (.cons (.us 1 I) (.cons (.us 2 I) (.cons (.nil _) (.cons (.nil _) (.rest _)))))) (.rest _)) I (Yf _ _ c) dS (by rintro _ _ ⟨rfl, _⟩; rfl) ?_))))))
 rintro _ ⟨_, rfl, -⟩
 refine Af 2 I (gO (gU g0 ?_))
 cases io h
 exact gT pr
theorem Pr (a : Sg) (r : Int) (h : It a = some r) : ACalls Ah 49 [.agg (Aa a)] [] (RV (.V r)) := by
 refine Ad Tryz.func49 I I I fun C hC => ?_
 refine Ab fun k b => gN (gP [] I (Cc (Aa a) 7 fun n => Af 1 I (gO ?_)))
 subst b
 refine Ab fun s c => gN (Af 1 I (gP [0] I (Bc 0 0 1 [[.v (.string a.Name), .V 0, .V a.To, .V a.Capacity, .V a.Resist, .V a.Wave, Q6 a.Points]] I (Af 1 I (gP [0] I (Bc 0 0 2 [[.v (.string a.Name), .V 0, .V 1, .V a.Capacity, .V a.Resist, .V a.Wave, Q6 a.Points]] I (gO ?_)))))))
 subst c
 refine gR (gR ?_)
 obtain ⟨t, d, h⟩ := Ac h
 refine gN (gP [] I (gX (sz := 1) (es := ([(⟨#[97]⟩ : Bt), (⟨#[98]⟩ : Bt)] : List Bt).map rS) I I I I I I I I I I I dS fun e => Ao 1 [.o 0 0] I J1 (gP [] I (gX (sz := 7) (es := ([(⟨a.Name, 0, 1, a.Capacity, a.Resist, a.Wave, a.Points⟩ : Sg)] : List Sg).map Aa) I I I I I I I I I I I dS fun f => AO.one 1 I fun g => AO.one 2 I fun i => Bk (A4 (l := [.v e, .v f, .N, .N, .V 0, .V 0]) Lv (D4 I I (Dm g) I (D4 I I (Dm i) I (Nt)))) I (gP [] I (By I (.refl _) I I (.cons (.agg (.cons (.us 1 I) (.cons (.us 2 I) (.cons (.nil _) (.cons (.nil _) (.rest _)))))) (.rest _)) I (Yg _ _ d) dS (by rintro _ _ ⟨rfl, _⟩; rfl) ?_))))))
 rintro _ ⟨_, rfl, -⟩
 refine Af 1 I (gO (Ar h I ?_ ?_))
 intro j h
 refine Ai I (gU g0 ?_)
 cases io h
 exact gT pr
 intro j h
 refine gS (Ai I (gU g0 ?_))
 cases io h
 exact gT pr
theorem Xu (a : Piece) (r : Bool) (h : Iv a = r) : ACalls Ah 76 [.agg (Aq a)] [] (RB r) := by
 refine Ad Tryz.func76 I I I fun C hC => ?_
 unfold Iv at h
 refine Ab fun f e => gN (gP [] I (Cc (Aq a) 2 fun g => Af 1 I (gO ?_)))
 subst e
 refine Aj (fun s ob => s = [(2, .v (.bool (decide (a.Batch ≥ 0) && (decide (a.Batch < 1000) && (decide (a.Volume ≥ 0) && decide (a.Volume ≤ 1000000))))))] ∧ ob = []) [] J ?_ ?_
 refine gN (Ao 4 [.o 1 0] I J1 ?_)
 rcases bt (decide (a.Batch ≥ 0)) with b | b
 refine Ae 6 I b (Ao 5 [.o 1 0] I J1 ?_)
 rcases bt (decide (a.Batch < 1000)) with c | c
 refine Ae 11 I c (Ao 5 [.o 1 0] I J1 ?_)
 rcases bt (decide (a.Volume ≥ 0)) with d | d
 refine Ae 16 I d (Ao 5 [.o 1 0] I J1 (gO ?_))
 exact lf I2 ⟨(Dg (by simp only [b, c, d, bz])), J⟩ [] I
 refine Ae 16 I d (Af 5 I (gO ?_))
 exact lf I2 ⟨(Dg (by simp only [b, c, d, bz])), J⟩ [] I
 refine Ae 11 I c (Af 10 I (gO ?_))
 exact lf I2 ⟨(Dg (by simp only [b, c, bz])), J⟩ [] I
 refine Ae 6 I b (Af 15 I (gO ?_))
 exact lf I2 ⟨(Dg (by simp only [b, bz])), J⟩ [] I
 rintro s ob ⟨rfl, rfl⟩
 obtain rfl := h
 exact gT pr
theorem Pz (a : List Piece) (r : Int) (h : Gj a = some r) : ACalls Ah 77 [Q0 a] [] (RV (.V r)) := by
 refine Ad Tryz.func77 I I I fun C hC => ?_
 unfold Gj at h
 refine Ai I (Ai I (Aj (fun s ob => ∃ (d : Int), Gj.J1 d = some r ∧ s = [(3, .V d)] ∧ ob = []) [] J ?_ ?_))
 refine A8 [.l 1 (a.length : Int)] I ⟨A2, J⟩ (gQ (B0 6 I fun g => ?_))
 obtain ⟨u, i, j⟩ := Ac h
 refine Ds i [(6, _), (7, _)] J2 (fun (b : Nat) (c : Int) s ob => s = [(8, .V (b : Int)), (3, .V c)] ∧ ob = []) ⟨I, I⟩ ⟨I, I, J⟩ ⟨[], I, by decide⟩ ?_ ?_
 rintro b e c w s ob n f ⟨rfl, rfl⟩ h
 unfold Gj.B2 at h
 have p := Cr f
 refine Ai I (Ab fun y q => Bf I p (gS ?_))
 subst q
 refine gR (gQ (gR (gN (Ao 2 [.x 0 b (Aq e)] I ⟨⟨I, Ag n⟩, J⟩ (gP [] I (Bl [.V 0, .V 0] 2 fun A => gP [0] I (Bc 0 0 0 [Aq e] I (gO (G7 [.o 2 0] I J1 (gN (Ao 2 [.k 0 (b + 1 : Nat)] I ⟨Az f g, J⟩ ?_)))))))))))
 cases io h
 exact gO (lg I2 [])
 rintro c s ob ⟨rfl, rfl⟩ he
 subst he
 have h := j
 have t := Cs a.length
 exact Ai I (Ab fun B D => Bg I t (gW (lg ⟨c, h, I2⟩ [])))
 rintro s ob ⟨d, h, rfl, rfl⟩
 unfold Gj.J1 at h
 refine Ai I ?_
 cases io h
 exact gT pr
theorem Pu (a : List Piece) (r : Bool) (h : Gz a = some r) : ACalls Ah 57 [Q0 a] [] (RB r) := by
 refine Ad Tryz.func57 I I I fun C hC => ?_
 refine Ai I (Ab fun R w => A8 [.l 1 (a.length : Int)] I ⟨A2, J⟩ (Ar h I ?_ ?_))
 intro y h
 refine Ai I ?_
 cases io h
 exact gT pr
 intro y h
 refine gS ?_
 subst w
 refine Aj (fun s ob => ∃ (n : Unit), Gz.J1 a n = some r ∧ s = [] ∧ ob = []) [(0, _)] J1 ?_ ?_
 refine A8 [.l 1 (a.length : Int)] I ⟨A2, J⟩ (gQ (B0 8 I fun A => ?_))
 obtain ⟨S, B, p⟩ := Ac h
 refine Bh B [(0, _), (8, _), (9, _)] J3 (fun (d : Nat) (t : Unit) s ob => s = [(10, .V (d : Int))] ∧ ob = []) ⟨I, I⟩ ⟨I, J⟩ ⟨[], I, by decide⟩ ?_ ?_
 rintro d b t D s ob E u ⟨rfl, rfl⟩ h F
 unfold Gz.B2 at h
 have G := Cr u
 refine Ai I (Ab fun U H => Bf I G (gS ?_))
 subst H
 refine gR (gQ (Ab fun W K => gN (Ao 3 [.x 1 d (Aq b)] I ⟨⟨I, Ag E⟩, J⟩ (gP [] I (Bl [.V 0, .V 0] 2 fun X => Af 1 I (gP [0] I (Bc 0 0 0 [Aq b] I (gO ?_))))))))
 subst K
 refine Aj (fun s ob => ∃ (i : Bool), Gz.J3 i = some D ∧ s = [(37, .v (.bool i))] ∧ ob = []) [(0, _), (8, _), (9, _), (10, _)] J4 ?_ ?_
 refine Ca (pd 23 0 [1]) [0] [_] I (Cg 1 [.o 0 0] I J1 (Gh I (Xu b _ I) (Bb 2 I ?_)))
 rcases bt ((!(Iv b))) with e | e
 have h := Bp e h
 refine A0 18 I e (Bb 8 I (Av I I I I dS (Av I I I I dS (Av I I I I dS (Av I I I I dS (Av I I I I dS (Av I I I I dS (Av I I I I dS (Av I I I I dS (Av I I I I dS (Bb 2 I (Ax ?_))))))))))))
 exact gO (lg ⟨true, h, I2⟩ [])
 have h := Bq e h
 refine A0 18 I e (Cg 5 [.o 1 0] I J1 ?_)
 rcases bt ((b.Volume == 0)) with f | f
 have h := Bp f h
 refine A0 23 I f (Bb 3 I (Av I I I I dS (Av I I I I dS (Av I I I I dS (Av I I I I dS (Av I I I I dS (Av I I I I dS (Av I I I I dS (Av I I I I dS (Av I I I I dS (Bb 2 I (Ax ?_))))))))))))
 exact gO (lg ⟨true, h, I2⟩ [])
 have h := Bq f h
 refine A0 23 I f (Bb 3 I ?_)
 rcases bt (decide ((d : Int) > 0)) with g | g
 have h := Bp g h
 obtain ⟨j, ⟨M, N⟩, h⟩ := A7 h
 exact A0 26 I g (Cg 11 [.x 3 j.1 (Aq j.2), .o 7 0] I ⟨I, ⟨M, Ag N⟩, J⟩ (Ax (gO (lg ⟨(j.2.Batch == b.Batch), h, I2⟩ []))))
 have h := Bq g h
 exact A0 26 I g (Bb 11 I (Ax (gO (lg ⟨false, h, I2⟩ []))))
 rintro s ob ⟨i, h, rfl, rfl⟩
 refine Ar h I ?_ ?_
 intro O h
 refine Ai I ?_
 obtain rfl := F _ (oi h).symm
 have h := p
 have h := Cq h
 cases io h
 exact gT pr
 intro O h
 refine gS (gN (Ao 2 [.k 0 (d + 1 : Nat)] I ⟨Az u A, J⟩ ?_))
 cases io h
 exact gO ⟨_, _, _, I, I2, J4, [], I, by decide⟩
 rintro t s ob ⟨rfl, rfl⟩ he
 subst he
 have h := C0 p
 have P := Cs a.length
 exact Ai I (Ab fun Y Z => Bg I P (gW (lg ⟨(), h, I2⟩ [])))
 rintro s ob ⟨n, h, rfl, rfl⟩
 refine gR ?_
 obtain ⟨aa, Q, h⟩ := Ac h
 refine gN (Af 1 I (Br (Pz _ _ Q) (Af 2 I (gO ?_))))
 cases io h
 exact gT pr
theorem Xm (a : List Piece) (r : Int) (h : Qm a = some r) : ACalls Ah 58 [Q0 a] [] (RV (.V r)) := by
 refine Ad Tryz.func58 I I I fun C hC => ?_
 refine Ai I (gR (gR ?_))
 obtain ⟨f, b, h⟩ := Ac h
 refine gN (Af 1 I (Br (Pu _ _ b) (Af 1 I (gO (Ar h I ?_ ?_)))))
 intro d h
 refine Ai I ?_
 cases io h
 exact gT pr
 intro d h
 refine gS (gR ?_)
 obtain ⟨g, e, h⟩ := Ac h
 refine gN (Af 1 I (Br (Pz _ _ e) (Af 1 I (gO ?_))))
 cases io h
 exact gT pr
theorem P0 (a : Sg) (d : List Piece) (r : Int) (h : G0 a d = some r) : ACalls Ah 25 [.agg (Aa a), Q0 d] [] (RV (.V r)) := by
 refine Ad Tryz.func25 I I I fun C hC => ?_
 unfold G0 at h
 refine Ab fun w f => gN (gP [] I (Cc (Aa a) 7 fun g => Af 1 I (gO ?_)))
 subst f
 refine Ab fun y i => Aj (fun s ob => ∃ (e : Bool), G0.J1 a d e = some r ∧ s = [(12, .v (.bool e))] ∧ ob = [O0 g [Aa a]]) [(1, _), (2, _)] J2 ?_ ?_
 obtain ⟨j, k, h⟩ := Ac h
 refine gN (Ao 1 [.o 0 0] I J1 (Br (Pr _ _ k) (Af 2 I ?_)))
 rcases bt ((j != 0)) with b | b
 have h := Bp b h
 exact Ae 8 I b (Af 4 I (gO (lg ⟨true, h, I2⟩ [0])))
 have h := Bq b h
 obtain ⟨l, n, h⟩ := Ac h
 exact Ae 8 I b (Af 1 I (Bm I I I (Br (Pu _ _ n) (Af 2 I (gO (lg ⟨(!l), h, I2⟩ [0]))))))
 rintro s ob ⟨e, h, rfl, rfl⟩
 refine Ar h I ?_ ?_
 intro p h
 refine Ai I (gU g0 ?_)
 cases io h
 exact gT pr
 intro p h
 refine gS ?_
 subst i
 refine gR (gR ?_)
 obtain ⟨A, t, h⟩ := Ac h
 refine Ca (.still 0 (.still 2 (.still 3 (.act 1 (.still 4 .nil))))) [0] [_] I (Cg 3 [.o 2 0] I J1 (Gh I (Xm _ _ t) (Bb 1 I (Ax (gO (Ar h I ?_ ?_))))))
 intro u h
 refine Ai I (gU g0 ?_)
 cases io h
 exact gT pr
 intro u h
 refine gS (Ai I (gU g0 ?_))
 cases io h
 exact gT pr
theorem Yh (a : Value) (b : Li) (r : Li) (h : M0 b = some r) : ACalls Ah 61 [.v a] [U0 a b] (Eg 1 fun x os new => x = .tup [] ∧ os = [U0 a r] ∧ new = []) := by
  unfold M0 at h
  split at h
  · cases h
  · rename_i hne
    cases io h
    rw [← O6]
    exact Rm ⟨_, Tryz.func61, rfl, rfl⟩ (fun Gp off cap zs w c d e => Go.Proofs.Tryz.slices_Sort_int Gp off cap zs w c d e) hne
theorem Yz (a : Value) (b : Li) (r : Li) (h : M7 b = some r) : ACalls Ah 62 [.v a] [U0 a b] (Eg 1 fun x os new => ∃ (c : Value), x = .v c ∧ os = [.us (.slice none 0 0) 3 1 ([].map rI)] ∧ new = [U0 c r]) := by
  unfold M7 at h
  split at h
  · cases h
  · rename_i hne
    cases io h
    exact Lz ⟨_, Tryz.func62, rfl, rfl⟩ (fun Gp off cap zs w d e f => Go.Proofs.Tryz.slices_Compact_int Gp off cap zs w d e f) hne
theorem P1 (b : Sg) (c : List Piece) (r : Li) (h : Gl b c = some r) : ACalls Ah 29 [.agg (Aa b), Q0 c] [] (fun x new => ∃ (y : Value), x = .v y ∧ new = [U0 y r]) := by
 refine Ad Tryz.func29 I I I fun C hC => ?_
 unfold Gl at h
 refine Ab fun y1 E => gN (gP [] I (Cc (Aa b) 7 fun b2 => Af 1 I (gO ?_)))
 subst E
 refine Ai I (Aj (fun s ob => ∃ (p : Li) (g : Value), Gl.J1 c p = some r ∧ s = [(5, .v g)] ∧ ob = [U0 g p]) [(1, _)] J1 ?_ ?_)
 refine A8 [.o 1 0, .l 2 (b.Points.length : Int)] I ⟨A2, I, J⟩ (gQ (B0 12 I fun F => gU (Be 3 1) ?_))
 obtain ⟨ah, G, H⟩ := Ac h
 refine Ds G [(1, _), (12, _), (13, _)] J3 (fun (i : Nat) (j : Li) s ob => ∃ (d : Value), s = [(14, .V (i : Int)), (5, .v d)] ∧ ob = [U0 d j]) ⟨(.slice none 0 0), I2⟩ ⟨I, I, J⟩ ⟨[1], I, by decide⟩ ?_ ?_
 rintro i t j ai s ob K A ⟨d, rfl, rfl⟩ h
 have M := Cr A
 refine Ai I (Ab fun aj N => Bf I M (gS ?_))
 subst N
 refine gR (gQ (gR (gN (Ao 2 [.x 0 i (A1 t)] I ⟨⟨I, Ag K⟩, J⟩ (gP [] I (Bl W1 3 fun ak => gP [1] I (Bc 1 0 0 [A1 t] I (gO ?_))))))))
 obtain ⟨al, O, h⟩ := Ac h
 refine gN (Ao 3 [.o 2 1] I J1 (gP [] I (gY 1 (([t.At] : Li).map rI) (gP [0] I (Dd 0 I O fun P => Af 1 I (gO (gN (Ao 2 [.k 0 (i + 1 : Nat)] I ⟨Az A F, J⟩ ?_))))))))
 cases io h
 exact gO (lg ⟨P, I2⟩ [0])
 rintro j s ob ⟨d, rfl, rfl⟩ he
 subst he
 have h := H
 have Q := Cs b.Points.length
 exact Ai I (Ab fun am an => Bg I Q (gW (lg ⟨j, d, h, I2⟩ [0])))
 rintro s ob ⟨p, g, h, rfl, rfl⟩
 unfold Gl.J1 at h
 refine Ai I (Aj (fun s ob => ∃ (u : Li) (e : Value), Gl.J2 u = some r ∧ s = [(5, .v e)] ∧ ob = [U0 e u]) [] J ?_ ?_)
 refine A8 [.l 1 (c.length : Int)] I ⟨A2, J⟩ (gQ (B0 24 I fun R => ?_))
 obtain ⟨ao, S, U⟩ := Ac h
 refine Ds S [(24, _), (25, _)] J2 (fun (n : Nat) (a : Li × Int) s ob => ∃ (f : Value), s = [(26, .V (n : Int)), (5, .v f), (8, .V a.2)] ∧ ob = [U0 f a.1]) ⟨g, I2⟩ ⟨I, I, I, J⟩ ⟨[0], I, by decide⟩ ?_ ?_
 rintro n w a aq s ob W B ⟨f, rfl, rfl⟩ h
 have X := Cr B
 refine Ai I (Ab fun ar Y => Bf I X (gS ?_))
 subst Y
 refine gR (gQ (gR (gN (Ao 2 [.x 0 n (Aq w)] I ⟨⟨I, Ag W⟩, J⟩ (gP [] I (Bl [.V 0, .V 0] 2 fun au => gP [1] I (Bc 1 0 0 [Aq w] I (gO (A8 [.o 2 1] I J1 ?_)))))))))
 obtain ⟨av, Z, h⟩ := Ac h
 refine gN (Af 2 I (gP [] I (gY 1 (([wr (a.2 + w.Volume)] : Li).map rI) (gP [0] I (Dd 0 I Z fun aa => Af 1 I (gO (gN (Ao 2 [.k 0 (n + 1 : Nat)] I ⟨Az B R, J⟩ ?_))))))))
 cases io h
 exact gO (lg ⟨aa, I2⟩ [0])
 rintro a s ob ⟨f, rfl, rfl⟩ he
 subst he
 have h := U
 have ab := Cs c.length
 exact Ai I (Ab fun aw ax => Bg I ab (gW (lg ⟨a.1, f, h, I2⟩ [0])))
 rintro s ob ⟨u, e, h, rfl, rfl⟩
 refine gR ?_
 obtain ⟨ay, ac, h⟩ := Ac h
 refine gN (Af 1 I (gP [0] I (Bz [0] (Yh e _ _ ac) ?_)))
 refine gO (gR ?_)
 obtain ⟨ad, ae, h⟩ := Ac h
 refine gN (Af 1 I (gP [0] I (Mb [0] (Yz e _ _ ae) ?_)))
 rintro _ _ _ - ⟨D, rfl, rfl, rfl⟩
 refine Af 1 I (gO (Em [1] I ?_))
 obtain rfl := oi h
 exact gT ⟨.inr I, [_], [U0 D ad], J1, Dp I (Cv), ⟨D, I2⟩⟩
theorem X1 (a : Sg) (b : List Piece) (r : Li × Int) (h : Qp a b = some r) : ACalls Ah 13 [.agg (Aa a), Q0 b] [] (fun x new => ∃ (d : Value), x = .tup [.v d, .V r.2] ∧ new = [U0 d r.1]) := by
 refine Ad Tryz.func13 I I I fun C hC => ?_
 refine Ab fun l f => gN (gP [] I (Cc (Aa a) 7 fun n => Af 2 I (gO ?_)))
 subst f
 refine gR (gR ?_)
 obtain ⟨p, g, h⟩ := Ac h
 refine gN (Ao 2 [.o 0 0] I J1 (Br (P0 _ _ _ g) (Af 1 I (gO (Ai I (Ar h I ?_ ?_))))))
 intro i h
 refine Ai I (gU (Be 3 1) (Em [1] I ?_))
 cases io h
 exact gT ⟨.inr I, [_, _], [.us (.slice none 0 0) 3 1 ([].map rI)], J2, Dp I (Cv), ⟨(.slice none 0 0), I2⟩⟩
 intro i h
 refine gS (gR ?_)
 obtain ⟨j, k, h⟩ := Ac h
 refine gN (Ao 2 [.o 0 0] I J1 (gP [] I (A5 I I I (P1 _ _ _ k) dS ?_)))
 rintro _ _ ⟨e, rfl, rfl⟩
 refine Af 2 I (gO (Em [1] I ?_))
 cases io h
 exact gT ⟨.inr I, [_, _], [U0 e j], J2, Dp I (Cv), ⟨e, I2⟩⟩
theorem Yi (a : Product) (r : Arr Int 4) (h : Ey a = r) : ACalls Ah 78 [.agg (Ak a)] [] (RV (.agg (r.l.map cI))) := by
 refine Ad Tryz.func78 I I I fun C hC => ?_
 unfold Ey at h
 refine Ab fun c b => gN (gP [] I (Cc (Ak a) 5 fun d => gP [] I (Bl [.V 0, .V 0, .V 0, .V 0] 4 fun e => gO ?_)))
 subst b
 refine gR (gN (Ao 8 [.o 1 0, .o 3 0, .o 5 0, .o 7 0] I J4 (Bk (V9 (l := [.V a.Density, .V a.Expansion, .V a.Compress, .V a.Friction]) I I I I I I) I (gP [1] I (Bc 1 0 0 [[.V a.Density, .V a.Expansion, .V a.Compress, .V a.Friction]] I (gO (Em [1] I ?_)))))))
 obtain rfl := h
 exact gT ⟨.inr I, [_], [], ⟨⟨0, _, _, _, _, _, _, _, I5⟩, J⟩, Cv, I2⟩
theorem Xf (a : Product) (r : Bool) (h : Kn a = some r) : ACalls Ah 59 [.agg (Ak a)] [] (RB r) := by
 refine Ad Tryz.func59 I I I fun C hC => ?_
 unfold Kn at h
 refine Ab fun X B => gN (gP [] I (Cc (Ak a) 5 fun i => Af 1 I (gO ?_)))
 subst B
 refine Ab fun Y D => gN (Ao 1 [.o 0 0] I J1 (gP [] I (A5 I I I (Yi a _ I) dS ?_)))
 rintro _ _ ⟨rfl, rfl⟩
 refine gP [] I (Bl [.V 0, .V 0, .V 0, .V 0] 4 fun n => gP [1] I (hM 1 0 0 (es' := [(Ey a).l.map cI]) I I I I I I I (by simp [Arr.h]) (by simp [Arr.h]) I (congrArg (fun r => [r]) (Ng (by simp [Arr.h]))) (gO ?_)))
 subst D
 refine Aj (fun s ob => ∃ (t : Unit), Kn.J1 a t = some r ∧ s = [] ∧ ob = [O5 i [Ak a]]) [(1, _)] J1 ?_ ?_
 refine Ab fun Z E => gN (gP [] I (bN (cs := ([⟨400, 1200⟩, ⟨0, 2000⟩, ⟨0, 5000⟩, ⟨1, 2000⟩] : List product_span).flatMap D9) (y := .agg (([⟨400, 1200⟩, ⟨0, 2000⟩, ⟨0, 5000⟩, ⟨1, 2000⟩] : List product_span).flatMap D9)) (List.mem_singleton.2 I) I I dS (Af 1 I (gO ?_))))
 subst E
 refine gQ ?_
 have F : (4 : Nat) ≤ 9223372036854775806 := by decide
 obtain ⟨aa, G, u⟩ := Ac h
 refine Do G [(1, _), (3, _), (8, _)] J3 (fun (e : Nat) (w : Unit) s ob => s = [(9, .V (e : Int))] ∧ ob = [O5 i [Ak a], .arr n 119 4 1 [(Ey a).l.map cI]]) ⟨I, I⟩ ⟨I, J⟩ ⟨[0, 1], I, by decide⟩ ?_ ?_
 rintro e w H s ob K ⟨rfl, rfl⟩ h M
 have N : decide ((e : Int) < 4) = true := decide_eq_true (by omega)
 refine Ai I (Ab fun ab O => Bf I N (gS ?_))
 subst O
 refine gR (gQ (Ab fun ac P => ?_))
 obtain ⟨f, ⟨Q, R⟩, h⟩ := A7 h
 refine gN (Af 1 I (Bk (Sw (m := f.1) (l := ([⟨400, 1200⟩, ⟨0, 2000⟩, ⟨0, 5000⟩, ⟨1, 2000⟩] : List product_span)) (row := D9) I I I I I (fun _ => I) I I Q R) I (gP [] I (Bl [.V 0, .V 0] 2 fun ad => Af 1 I (gP [2] I (Bc 2 0 0 [D9 f.2] I (gO ?_)))))))
 subst P
 refine Aj (fun s ob => ∃ (j : Bool), Kn.J3 j = some H ∧ s = [(26, .v (.bool j))] ∧ ob = [O5 i [Ak a], .arr n 119 4 1 [(Ey a).l.map cI]]) [(1, _), (3, _), (8, _), (9, _)] J4 ?_ ?_
 obtain ⟨b, ⟨A, g⟩, h⟩ := A7 h
 refine Ca (pd 14 0 []) [1, 2] [_, _] I (Bb 1 I (gZ I (N9 (m := b.1) I I I I I I A (Zq g)) I (AP.o I (Gt 0 0 (0 + b.1) I I I I (by omega) (y := .V b.2) (by rw [Nat.zero_add]; exact Ag g)) I (Cg 4 [.o 1 1] I J1 ?_))))
 rcases bt (decide (b.2 < f.2.least)) with d | d
 have h := Bp d h
 exact A0 19 I d (Bb 7 I (Ax (gO (lg ⟨true, h, I2⟩ [0, 1]))))
 have h := Bq d h
 exact A0 19 I d (Bb 1 I (H5 I I I I ((N9 (m := b.1) I I I I I I A (Zq g)).yd) dS (H5 I I I I (Gt 0 0 (0 + b.1) I I I I (by omega) (y := .V b.2) (by rw [Nat.zero_add]; exact Ag g)) dS (Cg 4 [.o 1 1] I J1 (Ax (gO (lg ⟨decide (b.2 > f.2.most), h, I2⟩ [0, 1])))))))
 rintro s ob ⟨j, h, rfl, rfl⟩
 refine Ar h I ?_ ?_
 intro S h
 refine Ai I ?_
 obtain rfl := M _ (oi h).symm
 have h := u
 have h := Cq h
 refine gU g0 ?_
 cases io h
 exact gT pr
 intro S h
 refine gS (gN (Ao 2 [.k 0 (e + 1 : Nat)] I ⟨Az K F, J⟩ ?_))
 cases io h
 exact gO ⟨_, _, _, I, I2, J4, [0, 1], I, by decide⟩
 rintro w s ob ⟨rfl, rfl⟩ he
 subst he
 have h := C0 u
 have U : decide (((4 : Nat) : Int) < 4) = false := by simp
 exact Ai I (Ab fun ae af => Bg I U (gW (lg ⟨(), h, I2⟩ [0])))
 rintro s ob ⟨t, h, rfl, rfl⟩
 refine gR ?_
 obtain ⟨ag, W, h⟩ := Ac h
 refine gN (Ao 2 [.o 1 0] I J1 (Br (Qa _ _ W) (Af 1 I (gO (gU g0 ?_)))))
 cases io h
 exact gT pr
theorem Xy (a : List Product) (F1 : T) {c : FuncId} {d e : List T} (o : Kg F1 = some (c, d, e)) (f : Product → Option Bool) (p : ∀ (g : Product) r, f g = some r → ACalls Ah c (d ++ [.agg (Ak g)] ++ e) [] (RB r)) (r : Int) (h : Mu a f = some r) : ACalls Ah 80 [Q3 a, F1] [] (RV (.V r)) := by
 refine Ad Tryz.func80 I I I fun C hC => ?_
 unfold Mu at h
 refine Ai I (Aj (fun s ob => ∃ (i : Unit), Mu.J1 i = some r ∧ s = [] ∧ ob = []) [] J ?_ ?_)
 refine A8 [.l 1 (a.length : Int)] I ⟨A2, J⟩ (gQ (B0 6 I fun q => ?_))
 obtain ⟨G, t, j⟩ := Ac h
 refine Bh t [(0, _), (1, _), (7, _)] J3 (fun (b : Nat) (m : Unit) s ob => s = [(8, .V (b : Int))] ∧ ob = []) ⟨I, I⟩ ⟨I, J⟩ ⟨[], I, by decide⟩ ?_ ?_
 rintro b u m H s ob w n ⟨rfl, rfl⟩ h y
 have A := Cr n
 refine Ai I (Ab fun K B => Bf I A (gS ?_))
 subst B
 refine gR (gQ (Ai I (gR ?_)))
 obtain ⟨M, D, h⟩ := Ac h
 refine gN (Ao 5 [.x 3 b (Ak u)] I ⟨⟨I, Ag w⟩, J⟩ (gP [] I (By I (.refl _) o I (.rest _) I (p _ _ D) dS (by rintro _ _ ⟨rfl, _⟩; rfl) ?_)))
 rintro _ ⟨_, rfl, -⟩
 refine gO (Ar h I ?_ ?_)
 intro E h
 refine Ai I ?_
 obtain rfl := y _ (oi h).symm
 have h := j
 have h := Cq h
 cases io h
 exact gT pr
 intro E h
 refine gS (gN (Ao 2 [.k 0 (b + 1 : Nat)] I ⟨Az n q, J⟩ ?_))
 cases io h
 exact gO ⟨_, _, _, I, I2, J4, [], I, by decide⟩
 rintro m s ob ⟨rfl, rfl⟩ he
 subst he
 have h := C0 j
 have F := Cs a.length
 exact Ai I (Ab fun N O => Bg I F (gW (lg ⟨(), h, I2⟩ [])))
 rintro s ob ⟨i, h, rfl, rfl⟩
 unfold Mu.J1 at h
 refine Ai I ?_
 cases io h
 exact gT pr
theorem X3 (a : Product) (b : Bt) (r : Bool) (h : Gk a b = r) : ACalls Ah 81 [.agg (Ak a), .eptr (rS b)] [] (RB r) := by
 refine Ad Tryz.func81 I I I fun C hC => ?_
 unfold Gk at h
 refine gR (gN (gP [] I (Cc (Ak a) 5 fun d => Af 1 I (gO (gR (gN (Ao 3 [.o 1 0] I J1 (Bk (Yp.cmpS (c := Ol a.Name b) I I I) I (Af 1 I (gO (gU g0 ?_)))))))))))
 obtain rfl := h
 exact gT pr
theorem Xa (b : List Product) (a : Bt) (r : Int) (h : Qk b a = some r) : ACalls Ah 60 [Q3 b, .v (.string a)] [] (RV (.V r)) := by
 refine Ad Tryz.func60 I I I fun C hC => ?_
 refine gR (gN (gP [] I (Cc [.v (.string a)] 1 fun d => Af 1 I (gO (gR ?_)))))
 obtain ⟨e, c, h⟩ := Ac h
 refine gN (Af 1 I (Bk (Yp.makeFunc I I) I (gP [] I (By I (.refl _) I I (.cons (.refl _) (.cons (.fn (.rest _) (.cons (.box 0 I (.rest _)) (.rest _))) (.rest _))) I (Xy _ (.fn 81 [] [.eptr (rS a)]) I (fun x => some (Gk x a)) (fun x r h => by obtain I := oi h; exact X3 x a _ I) _ c) dS (by rintro _ _ ⟨rfl, _⟩; rfl) ?_))))
 rintro _ ⟨_, rfl, -⟩
 refine Af 1 I (gO (gU g0 ?_))
 cases io h
 exact gT pr
theorem Xb (a : List Product) (r : Int) (h : Gy a = some r) : ACalls Ah 26 [Q3 a] [] (RV (.V r)) := by
 refine Ad Tryz.func26 I I I fun C hC => ?_
 refine Ai I (Ab fun y2 y => A8 [.l 1 (a.length : Int)] I ⟨A2, J⟩ (Ar h I ?_ ?_))
 intro A h
 refine Ai I ?_
 cases io h
 exact gT pr
 intro A h
 refine gS ?_
 subst y
 refine Aj (fun s ob => ∃ (e : Unit), Gy.J1 a e = some r ∧ s = [] ∧ ob = []) [(0, _)] J1 ?_ ?_
 refine A8 [.l 1 (a.length : Int)] I ⟨A2, J⟩ (gQ (B0 10 I fun B => ?_))
 obtain ⟨ab, D, f⟩ := Ac h
 refine Bh D [(0, _), (10, _), (11, _)] J3 (fun (b : Nat) (g : Unit) s ob => s = [(12, .V (b : Int))] ∧ ob = []) ⟨I, I⟩ ⟨I, J⟩ ⟨[], I, by decide⟩ ?_ ?_
 rintro b i g ac s ob E j ⟨rfl, rfl⟩ h F
 have G := Cr j
 refine Ai I (Ab fun ad H => Bf I G (gS ?_))
 subst H
 refine gR (gQ (gR (gN (Ao 2 [.x 0 b (Ak i)] I ⟨⟨I, Ag E⟩, J⟩ (gP [] I (Bl W3 5 fun ae => gP [0] I (Bc 0 0 0 [Ak i] I (gO (gR ?_)))))))))
 obtain ⟨af, K, h⟩ := Ac h
 refine gN (Ao 1 [.o 0 0] I J1 (Br (Xf _ _ K) (Af 1 I (gO (Ar h I ?_ ?_)))))
 intro M h
 refine Ai I ?_
 obtain rfl := F _ (oi h).symm
 have h := f
 have h := Cq h
 refine gU g0 ?_
 cases io h
 exact gT pr
 intro M h
 refine gS (gN (Ao 2 [.k 0 (b + 1 : Nat)] I ⟨Az j B, J⟩ ?_))
 cases io h
 exact gO ⟨_, _, _, I, I2, J4, [], I, by decide⟩
 rintro g s ob ⟨rfl, rfl⟩ he
 subst he
 have h := C0 f
 have N := Cs a.length
 exact Ai I (Ab fun ag ah => Bg I N (gW (lg ⟨(), h, I2⟩ [])))
 rintro s ob ⟨e, h, rfl, rfl⟩
 unfold Gy.J1 at h
 refine Aj (fun s ob => ∃ (n : Unit), Gy.J2 n = some r ∧ s = [] ∧ ob = []) [] J ?_ ?_
 refine A8 [.l 1 (a.length : Int)] I ⟨A2, J⟩ (gQ (B0 20 I fun O => ?_))
 obtain ⟨ai, P, p⟩ := Ac h
 refine Bh P [(0, _), (20, _), (21, _)] J3 (fun (d : Nat) (t : Unit) s ob => s = [(22, .V (d : Int))] ∧ ob = []) ⟨I, I⟩ ⟨I, J⟩ ⟨[], I, by decide⟩ ?_ ?_
 rintro d u t aj s ob Q w ⟨rfl, rfl⟩ h R
 have S := Cr w
 refine Ai I (Ab fun ak U => Bf I S (gS ?_))
 subst U
 refine gR (gQ (Ab fun al W => gN (Ao 3 [.x 1 d (Ak u)] I ⟨⟨I, Ag Q⟩, J⟩ (gP [] I (Bl W3 5 fun am => Af 1 I (gP [0] I (Bc 0 0 0 [Ak u] I (gO ?_))))))))
 subst W
 refine gR ?_
 obtain ⟨an, X, h⟩ := Ac h
 refine gN (Ao 3 [.o 2 0] I J1 (Br (Xa _ _ _ X) (Af 2 I (gO (Ar h I ?_ ?_)))))
 intro Y h
 refine Ai I ?_
 obtain rfl := R _ (oi h).symm
 have h := p
 have h := Cq h
 refine gU g0 ?_
 cases io h
 exact gT pr
 intro Y h
 refine gS (gN (Ao 2 [.k 0 (d + 1 : Nat)] I ⟨Az w O, J⟩ ?_))
 cases io h
 exact gO ⟨_, _, _, I, I2, J4, [], I, by decide⟩
 rintro t s ob ⟨rfl, rfl⟩ he
 subst he
 have h := C0 p
 have Z := Cs a.length
 exact Ai I (Ab fun ao ap => Bg I Z (gW (lg ⟨(), h, I2⟩ [])))
 rintro s ob ⟨n, h, rfl, rfl⟩
 unfold Gy.J2 at h
 refine Ai I ?_
 cases io h
 exact gT pr
theorem Xt (e : List Piece) (n : List Batch) (f : List Product) (r : (List Product) × Int) (h : Fg e n f = some r) : ACalls Ah 27 [Q0 e, Q1 n, Q3 f] [] (fun x new => ∃ (u : Value), x = .tup [.v u, .V r.2] ∧ new = [U3 u r.1]) := by
 refine Ad Tryz.func27 I I I fun C hC => ?_
 unfold Fg at h
 refine Ai I (Ai I (Aj (fun s ob => ∃ (g : List Product) (a : Value), Fg.J1 g = some r ∧ s = [(8, .v a)] ∧ ob = [U3 a g]) [] J ?_ ?_))
 refine A8 [.l 1 (e.length : Int)] I ⟨A2, J⟩ (gQ (B0 12 I fun B => gU (Be 49 5) ?_))
 obtain ⟨Y, D, p⟩ := Ac h
 refine Bh D [(1, _), (2, _), (12, _), (13, _)] J4 (fun (i : Nat) (j : List Product) s ob => ∃ (b : Value), s = [(14, .V (i : Int)), (8, .v b)] ∧ ob = [U3 b j]) ⟨(.slice none 0 0), I2⟩ ⟨I, I, J⟩ ⟨[0], I, by decide⟩ ?_ ?_
 rintro i w j Z s ob E y ⟨b, rfl, rfl⟩ h A
 have F := Cr y
 refine Ai I (Ab fun aa G => Bf I F (gS ?_))
 subst G
 refine gR (gQ (Ab fun ab H => gN (Ao 2 [.x 0 i (Aq w)] I ⟨⟨I, Ag E⟩, J⟩ (gP [] I (Bl [.V 0, .V 0] 2 fun ac => gP [1] I (Bc 1 0 0 [Aq w] I (gO ?_)))))))
 subst H
 refine Ab fun ad K => A8 [.o 1 1, .l 3 (n.length : Int)] I ⟨A2, I, J⟩ (Ar h I ?_ ?_)
 intro M h
 refine Ai I ?_
 obtain rfl := A _ (oi h).symm
 have h := p
 have h := Cq h
 refine gU (Be 49 5) (Em [2] I ?_)
 cases io h
 exact gT ⟨.inr I, [_, _], [.us (.slice none 0 0) 49 5 ([].map Ak)], J2, Dp I (Cv), ⟨(.slice none 0 0), I2⟩⟩
 intro M h
 refine gS ?_
 subst K
 refine Ab fun ae N => ?_
 obtain ⟨c, ⟨O, P⟩, h⟩ := A7 h
 refine G7 [.o 2 1, .x 3 c.1 (Cf c.2)] I ⟨⟨O, Ag P⟩, I, J⟩ ?_
 subst N
 refine gR (Ew 36 (decide (c.2.Product < 0) || decide (c.2.Product ≥ (f.length : Int))) ?_ ?_)
 refine gN (Af 3 I ?_)
 rcases bt (decide (c.2.Product < 0)) with d | d
 exact Ae 31 I d (Af 5 I (gO (jf (by simp only [d, bz]) I I I2)))
 exact Ae 31 I d (Ao 5 [.l 2 (f.length : Int)] I ⟨A2, J⟩ (gO (jf (by simp only [d, bz]) I I I2)))
 refine Ar h I ?_ ?_
 intro Q h
 refine Ai I ?_
 obtain rfl := A _ (oi h).symm
 have h := p
 have h := Cq h
 refine gU (Be 49 5) (Em [2] I ?_)
 cases io h
 exact gT ⟨.inr I, [_, _], [.us (.slice none 0 0) 49 5 ([].map Ak)], J2, Dp I (Cv), ⟨(.slice none 0 0), I2⟩⟩
 intro Q h
 refine gS ?_
 obtain ⟨t, ⟨R, S⟩, h⟩ := A7 h
 obtain ⟨af, U, h⟩ := Ac h
 refine gN (Ao 5 [.x 3 t.1 (Ak t.2)] I ⟨⟨R, Ag S⟩, J⟩ (gP [] I (gY 5 (([t.2] : List Product).map Ak) (gP [0] I (Dd 0 I U fun W => Af 1 I (gO (gN (Ao 2 [.k 0 (i + 1 : Nat)] I ⟨Az y B, J⟩ ?_))))))))
 cases io h
 exact gO ⟨_, _, _, I, ⟨W, I2⟩, J6, [0], I, by decide⟩
 rintro j s ob ⟨b, rfl, rfl⟩ he
 subst he
 have h := C0 p
 have X := Cs e.length
 exact Ai I (Ab fun ag ah => Bg I X (gW (lg ⟨j, b, h, I2⟩ [0])))
 rintro s ob ⟨g, a, h, rfl, rfl⟩
 unfold Fg.J1 at h
 refine Ai I ?_
 cases io h
 exact gT ⟨.inr I, [_, _], [U3 a g], J2, Dp I (Cv), ⟨a, I2⟩⟩
theorem Xj (a : Bounds) (r : Bool) (h : Ff a = r) : ACalls Ah 28 [.agg (Al a)] [] (RB r) := by
 refine Ad Tryz.func28 I I I fun C hC => ?_
 unfold Ff at h
 refine Ab fun e d => gN (gP [] I (Cc (Al a) 2 fun f => Af 1 I (gO ?_)))
 subst d
 refine Aj (fun s ob => s = [(2, .v (.bool (decide (a.Low ≤ a.High) && (decide (a.Low ≥ (-1125899906842624)) && decide (a.High ≤ 1125899906842624)))))] ∧ ob = []) [] J ?_ ?_
 refine gN (Ao 6 [.o 1 0, .o 3 0] I J2 ?_)
 rcases bt (decide (a.Low ≤ a.High)) with b | b
 refine Ae 8 I b (Ao 5 [.o 1 0] I J1 ?_)
 rcases bt (decide (a.Low ≥ (-1125899906842624))) with c | c
 refine Ae 13 I c (Ao 5 [.o 1 0] I J1 (gO ?_))
 exact lf I2 ⟨(Dg (by simp only [b, c, bz])), J⟩ [] I
 refine Ae 13 I c (Af 5 I (gO ?_))
 exact lf I2 ⟨(Dg (by simp only [b, c, bz])), J⟩ [] I
 refine Ae 8 I b (Af 10 I (gO ?_))
 exact lf I2 ⟨(Dg (by simp only [b, bz])), J⟩ [] I
 rintro s ob ⟨rfl, rfl⟩
 obtain rfl := h
 exact gT pr
theorem Yv (d : Int) (F1 : T) {e : FuncId} {f g : List T} (k : Kg F1 = some (e, f, g)) (i : Int → Option Bool) (l : ∀ (j : Int) r, i j = some r → ACalls Ah e (f ++ [.V j] ++ g) [] (RB r)) (r : Int) (h : M4 d i = some r) : ACalls Ah 84 [.V d, F1] [] (RV (.V r)) := by
 refine Ad Tryz.func84 I I I fun C hC => ?_
 unfold M4 at h
 refine Ai I (Ai I (Aj (fun s ob => ∃ (b : Int), M4.J1 b = some r ∧ s = [(5, .V b)] ∧ ob = []) [] J ?_ ?_))
 refine gQ ?_
 obtain ⟨A, m, n⟩ := Ac h
 refine Cm m [(1, _)] J1 (fun (a : Int × Int) s ob => s = [(5, .V a.1), (6, .V a.2)] ∧ ob = []) ⟨I, I⟩ ⟨I, I, J⟩ ⟨[], I, by decide⟩ ?_
 rintro a B s ob ⟨rfl, rfl⟩ h o
 refine Ab fun D t => Ai I (Ar h I ?_ ?_)
 intro u h
 refine gS ?_
 subst t
 refine gQ (gR (gN (Af 3 I (Bk (Nv (c := IntKind.u64.wrap (wr (a.1 + a.2))) I I I I I) I (Bk (dE I I) I (Bk (Nv (c := wr (((IntKind.u64.wrap (wr (a.1 + a.2))).fdiv 2))) I I I I I) I (Af 1 I (gO (gR ?_)))))))))
 obtain ⟨E, w, h⟩ := Ac h
 refine gN (Af 2 I (gP [] I (By I (.refl _) k I (.rest _) I (l _ _ w) dS (by rintro _ _ ⟨rfl, _⟩; rfl) ?_)))
 rintro _ ⟨_, rfl, -⟩
 refine Af 1 I (gO (Ar h I ?_ ?_))
 intro y h
 refine gN (Af 3 I ?_)
 cases io h
 exact gO ⟨_, _, _, I, I2, J3, [], I, by decide⟩
 intro y h
 refine gN (Af 2 I ?_)
 cases io h
 exact gO ⟨_, _, _, I, I2, J3, [], I, by decide⟩
 intro u h
 obtain rfl := o _ (oi h).symm
 have h := n
 exact gW (lg ⟨a.1, h, I2⟩ [])
 rintro s ob ⟨b, h, rfl, rfl⟩
 unfold M4.J1 at h
 refine Ai I ?_
 cases io h
 exact gT pr
theorem Xs (a : Int) (b : Sg) (c : Int) (r : Bool) (h : Qo a b c = some r) : ACalls Ah 85 [.V a, .eptr (Aa b), .eptr (rI c)] [] (RB r) := by
 refine Ad Tryz.func85 I I I fun C hC => ?_
 refine Ai I (gR ?_)
 obtain ⟨d, ⟨e, f⟩, h⟩ := A7 h
 refine Ll (pd 9 0 []) [] [] [.x 3 d.1 (A1 d.2)] I I ⟨⟨e, Ag f⟩, J⟩ ?_
 cases io h
 exact gT pr
theorem W9 (a : Sg) (b : Int) (r : Int) (h : Qj a b = some r) : ACalls Ah 63 [.agg (Aa a), .V b] [] (RV (.V r)) := by
 refine Ad Tryz.func63 I I I fun C hC => ?_
 refine gR (gN (gP [] I (Cc (Aa a) 7 fun d => gP [] I (Cc [.V b] 1 fun e => Af 1 I (gO (gR ?_))))))
 obtain ⟨f, c, h⟩ := Ac h
 refine gN (Ao 4 [.o 1 0, .l 2 (a.Points.length : Int)] I ⟨A2, I, J⟩ (Bk (Yp.makeFunc I I) I (gP [] I (By I (.refl _) I I (.cons (.refl _) (.cons (.fn (.rest _) (.cons (.box 0 I (.rest _)) (.cons (.box 1 I (.rest _)) (.rest _)))) (.rest _))) I (Yv _ (.fn 85 [] [.eptr (Aa a), .eptr (rI b)]) I (fun x => Qo x a b) (fun x r h => Xs x a b r h) _ c) dS (by rintro _ _ ⟨rfl, _⟩; rfl) ?_))))
 rintro _ ⟨_, rfl, -⟩
 refine Af 1 I (gO (gU g0 ?_))
 cases io h
 exact gT pr
theorem Yn (e : Sg) (K : List Piece) (A : List Product) (p : Li) (r : List gradient_part) (h : K0 e K A p = some r) : ACalls Ah 30 [.agg (Aa e), Q0 K, Q3 A, Q2 p] [] (fun x new => ∃ (M : Value), x = .v M ∧ new = [U4 M r]) := by
 refine Ad Tryz.func30 I I I fun C hC => ?_
 refine Ab fun y1 S => gN (gP [] I (Cc (Aa e) 7 fun t => Af 1 I (gO ?_)))
 subst S
 refine Ai I (Ab fun y4 U => ?_)
 obtain ⟨N, ⟨W, X⟩, h⟩ := A7 h
 refine Ll (pd 6 0 []) [] [] [.x 1 N.1 (Aq N.2)] I I ⟨⟨W, Ag X⟩, J⟩ ?_
 subst U
 refine Aj (fun s ob => ∃ (B : List gradient_part) (u : Value), K0.J1 B = some r ∧ s = [(9, .v u)] ∧ ob = [U4 u B]) [] J ?_ ?_
 refine Ai I (gQ (gU (Be 82 8) ?_))
 obtain ⟨a6, Y, Z⟩ := Ac h
 refine Cm Y [(1, _), (2, _), (3, _), (4, _)] J4 (fun (d : (List gradient_part) × Int × Int × Int) s ob => ∃ (g : Value), s = [(9, .v g), (10, .V d.2.1), (11, .V d.2.2.1), (12, .V d.2.2.2)] ∧ ob = [O0 t [Aa e], U4 g d.1]) ⟨(.slice none 0 0), I2⟩ ⟨I, I, I, I, J⟩ ⟨[0, 1], I, by decide⟩ ?_
 rintro d F s ob ⟨g, rfl, rfl⟩ h aa
 refine Ab fun a7 ab => A8 [.l 2 (p.length : Int)] I ⟨A2, J⟩ (Ar h I ?_ ?_)
 intro ac h
 refine gS ?_
 subst ab
 refine Aj (fun s ob => ∃ (w : (List gradient_part) × Int × Int) (D : Value), K0.J3 d w = some F ∧ s = [(9, .v D), (10, .V w.2.1), (11, .V w.2.2)] ∧ ob = [O0 t [Aa e], U4 D w.1]) [(1, _), (2, _), (3, _), (4, _), (12, _)] J5 ?_ ?_
 refine gQ (Aj (fun s ob => ∃ (i : Int × Int), K0.J4 e A p d i = some F ∧ s = [(10, .V i.1), (11, .V i.2)] ∧ ob = [O0 t [Aa e], U4 g d.1]) [(1, _), (2, _), (3, _), (4, _), (9, _), (12, _)] J6 ?_ ?_)
 refine gQ ?_
 obtain ⟨a8, ad, ae⟩ := Ac h
 refine Cm ad [(1, _), (2, _), (3, _), (4, _), (9, _), (12, _)] J6 (fun (y : Int × Int) s ob => s = [(10, .V y.1), (11, .V y.2)] ∧ ob = [O0 t [Aa e], U4 g d.1]) ⟨I, I⟩ ⟨I, I, J⟩ ⟨[0, 1], I, by decide⟩ ?_
 rintro y a9 s ob ⟨rfl, rfl⟩ h af
 refine Ab fun ba ag => gR ?_
 obtain ⟨O, ⟨ah, ai⟩, h⟩ := A7 h
 refine G7 [.x 2 O.1 (rI O.2)] I ⟨⟨ah, Ag ai⟩, J⟩ (Ar h I ?_ ?_)
 intro aj h
 refine gS ?_
 subst ag
 refine gQ (Ai I ?_)
 obtain ⟨P, ⟨ak, al⟩, h⟩ := A7 h
 refine gN (Ao 8 [.x 3 P.1 (Aq P.2)] I ⟨⟨ak, Ag al⟩, J⟩ ?_)
 cases io h
 exact gO ⟨_, _, _, I, I2, J8, [0, 1], I, by decide⟩
 intro aj h
 obtain rfl := af _ (oi h).symm
 have h := ae
 exact gW (lg ⟨(y.1, y.2), h, I2⟩ [0, 1])
 rintro s ob ⟨i, h, rfl, rfl⟩
 refine Ab fun bb am => ?_
 obtain ⟨j, ⟨Q, R⟩, h⟩ := A7 h
 obtain ⟨bc, an, h⟩ := Ac h
 refine Ca (pd 7 0 [5]) [0] [_] I (Cg 5 [.o 0 0, .x 3 j.1 (rI j.2)] I ⟨⟨Q, Ag R⟩, I, J⟩ (Gh I (W9 _ _ _ an) (Bb 1 I (Ax (gO ?_)))))
 subst am
 refine Aj (fun s ob => ∃ (a : Int × Int × Int × Int × Int × Int) (G : Nat) (H : Nat), K0.J5 A p d i j a = some F ∧ s = [(14, .v (.pointer (some ⟨G, 0, none⟩))), (15, .v (.pointer (some ⟨H, 0, none⟩)))] ∧ ob = [O0 t [Aa e], U4 g d.1, .arr G 35 3 1 [[.V a.1, .V a.2.1, .V a.2.2.1]], .arr H 35 3 1 [[.V a.2.2.2.1, .V a.2.2.2.2.1, .V a.2.2.2.2.2]]]) [(1, _), (2, _), (3, _), (4, _), (9, _), (10, _), (11, _), (12, _)] J8 ?_ ?_
 obtain ⟨k, ⟨ao, aq⟩, h⟩ := A7 h
 obtain ⟨n, ⟨ar, au⟩, h⟩ := A7 h
 refine Ca (sl 11 0 (.par [(11, []), (12, [])] (.act 13 (.act 14 .nil)))) [0] [_] I (Cg 11 [.o 1 0, .x 4 k.1 (A1 k.2), .o 7 0, .x 9 n.1 (A1 n.2)] I ⟨⟨ar, Ag au⟩, I, ⟨ao, Ag aq⟩, I, J⟩ (AP.any [⟨11, [], 14, .box 35 3 (W1)⟩, ⟨12, [], 15, .box 35 3 (W1)⟩] I ⟨⟨_, I, I, I, fun _ => Bl W1 3 fun b => ⟨_, I, ⟨b, I⟩, I⟩⟩, ⟨_, I, I, I, fun _ => Bl W1 3 fun b => ⟨_, I, ⟨b, I⟩, I⟩⟩, J⟩ ?_))
 intro av aw
 exact gV [2] I I I (Bc 2 0 0 [A1 k.2] I (gV [3] I I I (Bc 3 0 0 [A1 n.2] I (Ax (gO (lg ⟨(k.2.At, k.2.Height, k.2.Limit, n.2.At, n.2.Height, n.2.Limit), av, aw, h, I2⟩ [0, 1, 2, 3]))))))
 rintro s ob ⟨a, G, H, h, rfl, rfl⟩
 obtain ⟨E, ⟨ax, ay⟩, h⟩ := A7 h
 obtain ⟨f, ⟨az, a0⟩, h⟩ := A7 h
 obtain ⟨a1, a2, h⟩ := Ac h
 exact Ca (pd 29 0 [26, 27]) [3, 2] [_, _] I (Cg 25 [.x 3 j.1 (rI j.2), .x 8 E.1 (rI E.2), .o 12 0, .o 14 1, .o 17 0, .o 19 1, .x 23 f.1 (Ak f.2)] I ⟨⟨az, Ag a0⟩, I, I, I, I, ⟨ax, Ag ay⟩, ⟨Q, Ag R⟩, J⟩ (gZ I (A4 (l := [.V (wr (j.2 - E.2)), .V (wr (a.2.2.2.1 - a.1)), .V (wr (a.2.2.2.2.1 - a.2.1)), .v (.string f.2.Name), .V f.2.Density, .V f.2.Expansion, .V f.2.Compress, .V f.2.Friction]) Tv I) I (gV [] I I I (gY 8 (([(⟨wr (j.2 - E.2), wr (a.2.2.2.1 - a.1), wr (a.2.2.2.2.1 - a.2.1), f.2⟩ : gradient_part)] : List gradient_part).map Bv) (gV [1] I I I (Dd 1 I a2 fun a3 => L8 9 (Bb 1 I (Ax (gO (lg ⟨(a1, i.1, i.2), a3, h, I2⟩ [0, 1]))))))))))
 rintro s ob ⟨w, D, h, rfl, rfl⟩
 unfold K0.J3 at h
 refine gN (Af 3 I ?_)
 cases io h
 exact gO ⟨_, _, _, I, ⟨D, I2⟩, J8, [0, 1], I, by decide⟩
 intro ac h
 obtain rfl := aa _ (oi h).symm
 have h := Z
 exact gW (lg ⟨d.1, g, h, I2⟩ [1])
 rintro s ob ⟨B, u, h, rfl, rfl⟩
 refine Ai I ?_
 obtain rfl := oi h
 exact gT ⟨.inr I, [_], [U4 u B], J1, Dp I (Cv), ⟨u, I2⟩⟩
theorem P5 (e : Int) (a : Int) (r : Int × Int × Bool) (h : Iz e a = some r) : ACalls Ah 86 [.V e, .V a] [] (RV (.tup [.V r.1, .V r.2.1, .v (.bool r.2.2)])) := by
 refine Ad Tryz.func86 I I I fun C hC => ?_
 unfold Iz at h
 refine Ai I (Ab fun w l => Ew 22 (decide (a < 1) || (decide (a > 1099511627776) || (decide (e < (-2305843009213693952)) || decide (e > 2305843009213693952)))) ?_ ?_)
 refine gN (Af 3 I ?_)
 rcases bt (decide (a < 1)) with b | b
 exact Ae 11 I b (Af 11 I (gO (jf (by simp only [b, bz]) I I I2)))
 refine Ae 11 I b (Af 4 I ?_)
 rcases bt (decide (a > 1099511627776)) with d | d
 exact Ae 15 I d (Af 7 I (gO (jf (by simp only [b, d, bz]) I I I2)))
 refine Ae 15 I d (Af 4 I ?_)
 rcases bt (decide (e < (-2305843009213693952))) with g | g
 exact Ae 19 I g (Af 3 I (gO (jf (by simp only [b, d, g, bz]) I I I2)))
 exact Ae 19 I g (Af 3 I (gO (jf (by simp only [b, d, g, bz]) I I I2)))
 refine Ar h I ?_ ?_
 intro m h
 refine Ai I ?_
 cases io h
 exact gT ⟨.inr I, [_, _, _], [], J3, Cv, I2⟩
 intro m h
 refine gS ?_
 subst l
 refine Ab fun y n => ?_
 obtain ⟨i, o, h⟩ := Ac h
 obtain ⟨j, p, h⟩ := Ac h
 refine Ll (pd 8 0 []) [] [] [.f 2 (.V i), .f 5 (.V j)] I I ⟨Yp.yd (D2 (c := j) I I (Hl p)), Yp.yd (D2 (c := i) I I (Nj o)), J⟩ ?_
 subst n
 refine Aj (fun s ob => ∃ (k : Int × Int), Iz.J1 k = some r ∧ s = [(7, .V k.1), (8, .V k.2)] ∧ ob = []) [] J ?_ ?_
 refine Ai I (Ar h I ?_ ?_)
 intro u h
 exact Vh I (lg ⟨(wr (i - 1), wr (j + a)), h, I2⟩ [])
 intro u h
 exact gS (lg ⟨(i, j), h, I2⟩ [])
 rintro s ob ⟨k, h, rfl, rfl⟩
 unfold Iz.J1 at h
 refine Ai I ?_
 cases io h
 exact gT ⟨.inr I, [_, _, _], [], J3, Cv, I2⟩
theorem Pq (a : Int) (b : Int) (r : Int) (h : Mi a b = some r) : ACalls Ah 64 [.V a, .V b] [] (RV (.V r)) := by
 refine Ad Tryz.func64 I I I fun C hC => ?_
 refine Ai I (gR ?_)
 obtain ⟨e, d, h⟩ := Ac h
 refine gN (Af 2 I (Br (P5 _ _ _ d) (Af 7 I (gO (Ai I ?_)))))
 cases io h
 exact gT pr
theorem Pt (e : Int) (f : Int) (r : Int) (h : Mn e f = some r) : ACalls Ah 65 [.V e, .V f] [] (RV (.V r)) := by
 refine Ad Tryz.func65 I I I fun C hC => ?_
 refine Ai I (Ab fun k g => ?_)
 obtain ⟨a, i, h⟩ := Ac h
 refine gN (Af 2 I (Br (P5 _ _ _ i) (Af 7 I (gO ?_))))
 subst g
 refine Aj (fun s ob => ∃ (d : Int), Mn.J1 d = some r ∧ s = [(5, .V d)] ∧ ob = []) [] J ?_ ?_
 refine Ew 19 (a.2.2 && decide (a.2.1 > 0)) ?_ ?_
 refine gN (Af 2 I ?_)
 rcases bt (a.2.2) with b | b
 exact Ae 16 I b (Af 3 I (gO (jf (by simp only [b, bz]) I I I2)))
 exact Ae 16 I b (Af 3 I (gO (jf (by simp only [b, bz]) I I I2)))
 refine Ar h I ?_ ?_
 intro j h
 exact Vh I (lg ⟨wr (a.1 + 1), h, I2⟩ [])
 intro j h
 exact gS (lg ⟨a.1, h, I2⟩ [])
 rintro s ob ⟨d, h, rfl, rfl⟩
 unfold Mn.J1 at h
 refine Ai I ?_
 cases io h
 exact gT pr
theorem Xr (a : gradient_part) (b : Sg) (d : Int) (r : Int × Int) (h : Ks a b d = some r) : ACalls Ah 34 [.agg (Bv a), .agg (Aa b), .V d] [] (RV (.tup [.V r.1, .V r.2])) := by
 refine Ad Tryz.func34 I I I fun C hC => ?_
 refine Ab fun k e => gN (gP [] I (Cc (Bv a) 8 fun l => gP [] I (Cc (Aa b) 7 fun n => Af 2 I (gO ?_))))
 subst e
 refine Ua (pd 18 0 []) [1, 0] [_, _] [.o 1 0, .o 4 1, .o 11 1, .o 14 0] I I J4 (Ua (pd 15 0 []) [0] [_] [.o 2 0, .o 5 0, .o 8 0, .o 11 0] I I J4 (gR ?_))
 obtain ⟨p, f, h⟩ := Ac h
 obtain ⟨s, g, h⟩ := Ac h
 obtain ⟨t, i, h⟩ := Ac h
 obtain ⟨u, j, h⟩ := Ac h
 refine gN (Af 2 I (Br (Pq _ _ _ f) (Af 2 I (Br (Pq _ _ _ g) (Af 3 I (Br (Pt _ _ _ i) (Af 2 I (Br (Pt _ _ _ j) (Af 3 I (gO (gU g0 ?_)))))))))))
 cases io h
 exact gT ⟨.inr I, [_, _], [], J2, Cv, I2⟩
theorem Xc (a : Li) (r : Li) (h : Is a = some r) : ACalls Ah 31 [Q2 a] [] (fun x new => ∃ (b : Value), x = .v b ∧ new = [U0 b r]) := by
  refine Ad Tryz.func31 rfl rfl rfl (fun C hC => ?_)
  unfold Is at h
  obtain ⟨e, d⟩ := F3 h
  refine gR ?_
  refine gN ?_
  refine Bk (Yp.assign rfl) rfl ?_
  refine gO ?_
  refine gR ?_
  refine gR ?_
  refine gN ?_
  refine Bk (Yp.move rfl) rfl ?_
  refine gP [] rfl (bO rfl rfl rfl (Cj rfl) fun c hc => ?_)
  refine gO ?_
  refine AW.cond rfl rfl ?_ ?_
  · intro hb
    have hs : a = [] := by have := hc hb; simpa using this
    subst hs
    refine gR ?_
    refine gN ?_
    refine Bk (Yp.assign rfl) rfl ?_
    refine AO.ghost (Be 3 1) ?_
    refine gO ?_
    refine gT ?_
    have hr : r = [] := by simpa using d.symm
    subst hr
    exact ⟨.inr rfl, [_], [.us (.slice none 0 0) 3 1 ([].map rI)], ⟨rfl, J⟩, Dp rfl Cv, ⟨_, rfl, rfl⟩⟩
  · intro hb
    refine gS ?_
    refine gR ?_
    refine gN ?_
    refine gP [] rfl (gX (sz := 1) (es := []) rfl rfl rfl rfl rfl rfl rfl rfl rfl rfl rfl (Cj rfl) fun g => ?_)
    refine Bk (Yp.move rfl) rfl ?_
    refine gP [0] rfl (Ja 0 (es' := r.map rI) rfl rfl rfl rfl rfl rfl rfl rfl rfl (AppSrc.list rfl) (by simpa using e) (by rw [← d]; simp) (Cj rfl) fun f => ?_)
    refine Bk (Yp.assign rfl) rfl ?_
    refine gO ?_
    refine gT ?_
    exact ⟨.inr rfl, [_], [U0 f r], ⟨rfl, J⟩, Dp rfl Cv, ⟨_, rfl, rfl⟩⟩
theorem Wv (f : Value) (n : Li) (r : Li) (h : Te n = some r) : ACalls Ah 32 [.v f] [U0 f n] (Eg 1 fun x os new => x = .tup [] ∧ os = [U0 f r] ∧ new = []) := by
 refine Ad Tryz.func32 I I I fun C hC => ?_
 refine Ab fun K t => gN (Af 1 I (hF (Da 0 I I I I) I (Af 3 I (gO ?_))))
 subst t
 refine gQ ?_
 obtain ⟨M, u, w⟩ := Ac h
 refine Cm u [(0, _)] J1 (fun (c : Li × Int × Int) s ob => s = [(2, .V c.2.1), (3, .V c.2.2)] ∧ ob = [U0 f c.1]) ⟨I, I⟩ ⟨I, I, J⟩ ⟨[0], I, by decide⟩ ?_
 rintro c A s ob ⟨rfl, rfl⟩ h B
 refine Ab fun N D => Ai I (Ar h I ?_ ?_)
 intro E h
 refine gS ?_
 subst D
 refine Aj (fun s ob => ∃ (k : Li), Te.J2 c k = some A ∧ s = [] ∧ ob = [U0 f k]) [(0, _), (2, _), (3, _)] J3 ?_ ?_
 refine gQ ?_
 obtain ⟨b, ⟨F, i⟩, h⟩ := A7 h
 obtain ⟨a, ⟨l, e⟩, h⟩ := A7 h
 obtain ⟨g, ⟨o, j⟩, h⟩ := A7 h
 refine C3 0 b.1 I i fun G => C3 0 a.1 I e fun H => C3 0 a.1 I e fun p => Ca Y8 [] [] I (Bb 6 I (gZ I (Bi (m := b.1) I I I I I G I F i) I (Bb 2 I (gZ I (Bi (m := a.1) I I I I I H I l e) I (AP.two ?_ ?_)))))
 exact gV [] I I I (Cl (Bx 0 b.1 0 I I I (Ag i) I (y := .V b.2) I) dS (gV [] I I I (Cl (Bx 0 a.1 0 I I I (Ag e) I (y := .V a.2) I) dS (gZ I (Bi (m := a.1) I I I I I p I l e) I (gV [0] I I I (Cb 0 a.1 0 I I I (Ag e) I I I I (Bn I) I (Dl (x := b.2) I) (gV [] I I I (Cl (Co 0 (m := g.1) I I I I I I I o (Ag j)) dS (gV [0] I I I (Cb 0 g.1 0 I I I (Ag j) I I I I (Bn I) I (Dl (x := a.2) I) (Ax (gO (lg ⟨((c.1.set a.1 b.2).set g.1 a.2), h, I2⟩ [0])))))))))))))
 exact gV [] I I I (Cl (Bx 0 a.1 0 I I I (Ag e) I (y := .V a.2) I) dS (gV [] I I I (Cl (Bx 0 b.1 0 I I I (Ag i) I (y := .V b.2) I) dS (gZ I (Bi (m := a.1) I I I I I p I l e) I (gV [0] I I I (Cb 0 a.1 0 I I I (Ag e) I I I I (Bn I) I (Dl (x := b.2) I) (gV [] I I I (Cl (Co 0 (m := g.1) I I I I I I I o (Ag j)) dS (gV [0] I I I (Cb 0 g.1 0 I I I (Ag j) I I I I (Bn I) I (Dl (x := a.2) I) (Ax (gO (lg ⟨((c.1.set a.1 b.2).set g.1 a.2), h, I2⟩ [0])))))))))))))
 rintro s ob ⟨k, h, rfl, rfl⟩
 unfold Te.J2 at h
 refine gN (Af 6 I ?_)
 cases io h
 exact gO ⟨_, _, _, I, I2, J3, [0], I, by decide⟩
 intro E h
 obtain rfl := B _ (oi h).symm
 have h := w
 cases io h
 refine gW ?_
 exact ⟨.inl I, [], [U0 f c.1], J, Dp I (Cv), ⟨[U0 f c.1], [], I5⟩⟩
theorem Yu (f : Value) (n : List gradient_part) (r : List gradient_part) (h : Tf n = some r) : ACalls Ah 33 [.v f] [U4 f n] (Eg 1 fun x os new => x = .tup [] ∧ os = [U4 f r] ∧ new = []) := by
 refine Ad Tryz.func33 I I I fun C hC => ?_
 refine Ab fun K t => gN (Af 1 I (hF (Da 0 I I I I) I (Af 3 I (gO ?_))))
 subst t
 refine gQ ?_
 obtain ⟨M, u, w⟩ := Ac h
 refine Cm u [(0, _)] J1 (fun (c : (List gradient_part) × Int × Int) s ob => s = [(2, .V c.2.1), (3, .V c.2.2)] ∧ ob = [U4 f c.1]) ⟨I, I⟩ ⟨I, I, J⟩ ⟨[0], I, by decide⟩ ?_
 rintro c A s ob ⟨rfl, rfl⟩ h B
 refine Ab fun N D => Ai I (Ar h I ?_ ?_)
 intro E h
 refine gS ?_
 subst D
 refine Aj (fun s ob => ∃ (k : List gradient_part), Tf.J2 c k = some A ∧ s = [] ∧ ob = [U4 f k]) [(0, _), (2, _), (3, _)] J3 ?_ ?_
 refine gQ ?_
 obtain ⟨b, ⟨F, i⟩, h⟩ := A7 h
 obtain ⟨a, ⟨l, e⟩, h⟩ := A7 h
 obtain ⟨g, ⟨o, j⟩, h⟩ := A7 h
 refine C3 0 b.1 I i fun G => C3 0 a.1 I e fun H => C3 0 a.1 I e fun p => Ca Y8 [] [] I (Bb 6 I (gZ I (Bi (m := b.1) I I I I I G I F i) I (Bb 2 I (gZ I (Bi (m := a.1) I I I I I H I l e) I (AP.two ?_ ?_)))))
 exact gV [] I I I (Cl (Bx 0 b.1 0 I I I (Ag i) I (y := .agg (Bv b.2)) I) dS (gV [] I I I (Cl (Bx 0 a.1 0 I I I (Ag e) I (y := .agg (Bv a.2)) I) dS (gZ I (Bi (m := a.1) I I I I I p I l e) I (gV [0] I I I (Cb 0 a.1 0 I I I (Ag e) I I I I (Bn I) I (Dl (x := b.2) I) (gV [] I I I (Cl (Co 0 (m := g.1) I I I I I I I o (Ag j)) dS (gV [0] I I I (Cb 0 g.1 0 I I I (Ag j) I I I I (Bn I) I (Dl (x := a.2) I) (Ax (gO (lg ⟨((c.1.set a.1 b.2).set g.1 a.2), h, I2⟩ [0])))))))))))))
 exact gV [] I I I (Cl (Bx 0 a.1 0 I I I (Ag e) I (y := .agg (Bv a.2)) I) dS (gV [] I I I (Cl (Bx 0 b.1 0 I I I (Ag i) I (y := .agg (Bv b.2)) I) dS (gZ I (Bi (m := a.1) I I I I I p I l e) I (gV [0] I I I (Cb 0 a.1 0 I I I (Ag e) I I I I (Bn I) I (Dl (x := b.2) I) (gV [] I I I (Cl (Co 0 (m := g.1) I I I I I I I o (Ag j)) dS (gV [0] I I I (Cb 0 g.1 0 I I I (Ag j) I I I I (Bn I) I (Dl (x := a.2) I) (Ax (gO (lg ⟨((c.1.set a.1 b.2).set g.1 a.2), h, I2⟩ [0])))))))))))))
 rintro s ob ⟨k, h, rfl, rfl⟩
 unfold Tf.J2 at h
 refine gN (Af 6 I ?_)
 cases io h
 exact gO ⟨_, _, _, I, I2, J3, [0], I, by decide⟩
 intro E h
 obtain rfl := B _ (oi h).symm
 have h := w
 cases io h
 refine gW ?_
 exact ⟨.inl I, [], [U4 f c.1], J, Dp I (Cv), ⟨[U4 f c.1], [], I5⟩⟩
theorem Ty (f : Value) (n : List Level) (r : List Level) (h : Rb n = some r) : ACalls Ah 35 [.v f] [U2 f n] (Eg 1 fun x os new => x = .tup [] ∧ os = [U2 f r] ∧ new = []) := by
 refine Ad Tryz.func35 I I I fun C hC => ?_
 refine Ab fun K t => gN (Af 1 I (hF (Da 0 I I I I) I (Af 3 I (gO ?_))))
 subst t
 refine gQ ?_
 obtain ⟨M, u, w⟩ := Ac h
 refine Cm u [(0, _)] J1 (fun (c : (List Level) × Int × Int) s ob => s = [(2, .V c.2.1), (3, .V c.2.2)] ∧ ob = [U2 f c.1]) ⟨I, I⟩ ⟨I, I, J⟩ ⟨[0], I, by decide⟩ ?_
 rintro c A s ob ⟨rfl, rfl⟩ h B
 refine Ab fun N D => Ai I (Ar h I ?_ ?_)
 intro E h
 refine gS ?_
 subst D
 refine Aj (fun s ob => ∃ (k : List Level), Rb.J2 c k = some A ∧ s = [] ∧ ob = [U2 f k]) [(0, _), (2, _), (3, _)] J3 ?_ ?_
 refine gQ ?_
 obtain ⟨b, ⟨F, i⟩, h⟩ := A7 h
 obtain ⟨a, ⟨l, e⟩, h⟩ := A7 h
 obtain ⟨g, ⟨o, j⟩, h⟩ := A7 h
 refine C3 0 b.1 I i fun G => C3 0 a.1 I e fun H => C3 0 a.1 I e fun p => Ca Y8 [] [] I (Bb 6 I (gZ I (Bi (m := b.1) I I I I I G I F i) I (Bb 2 I (gZ I (Bi (m := a.1) I I I I I H I l e) I (AP.two ?_ ?_)))))
 exact gV [] I I I (Cl (Bx 0 b.1 0 I I I (Ag i) I (y := .agg (Ay b.2)) I) dS (gV [] I I I (Cl (Bx 0 a.1 0 I I I (Ag e) I (y := .agg (Ay a.2)) I) dS (gZ I (Bi (m := a.1) I I I I I p I l e) I (gV [0] I I I (Cb 0 a.1 0 I I I (Ag e) I I I I (Bn I) I (Dl (x := b.2) I) (gV [] I I I (Cl (Co 0 (m := g.1) I I I I I I I o (Ag j)) dS (gV [0] I I I (Cb 0 g.1 0 I I I (Ag j) I I I I (Bn I) I (Dl (x := a.2) I) (Ax (gO (lg ⟨((c.1.set a.1 b.2).set g.1 a.2), h, I2⟩ [0])))))))))))))
 exact gV [] I I I (Cl (Bx 0 a.1 0 I I I (Ag e) I (y := .agg (Ay a.2)) I) dS (gV [] I I I (Cl (Bx 0 b.1 0 I I I (Ag i) I (y := .agg (Ay b.2)) I) dS (gZ I (Bi (m := a.1) I I I I I p I l e) I (gV [0] I I I (Cb 0 a.1 0 I I I (Ag e) I I I I (Bn I) I (Dl (x := b.2) I) (gV [] I I I (Cl (Co 0 (m := g.1) I I I I I I I o (Ag j)) dS (gV [0] I I I (Cb 0 g.1 0 I I I (Ag j) I I I I (Bn I) I (Dl (x := a.2) I) (Ax (gO (lg ⟨((c.1.set a.1 b.2).set g.1 a.2), h, I2⟩ [0])))))))))))))
 rintro s ob ⟨k, h, rfl, rfl⟩
 unfold Rb.J2 at h
 refine gN (Af 6 I ?_)
 cases io h
 exact gO ⟨_, _, _, I, I2, J3, [0], I, by decide⟩
 intro E h
 obtain rfl := B _ (oi h).symm
 have h := w
 cases io h
 refine gW ?_
 exact ⟨.inl I, [], [U2 f c.1], J, Dp I (Cv), ⟨[U2 f c.1], [], I5⟩⟩
theorem Dj (g : Sg) (aa : List Piece) (ab : List Batch) (ac : List Product) (e : Int) (b : Bounds) (r : (List Level) × Int) (h : Ex g aa ab ac e b = some r) : ACalls Ah 7 [.agg (Aa g), Q0 aa, Q1 ab, Q3 ac, .V e, .agg (Al b)] [] (fun x new => ∃ (u0 : Value), x = .tup [.v u0, .V r.2] ∧ new = [U2 u0 r.1]) := by
 refine Ad Tryz.func7 I I I fun C hC => ?_
 refine Ab fun y1 aj => gN (gP [] I (Cc (Aa g) 7 fun E => gP [] I (Cc (Al b) 2 fun F => Af 2 I (gO ?_))))
 subst aj
 refine Ab fun y4 ak => gR ?_
 obtain ⟨r5, al, h⟩ := Ac h
 refine gN (Ao 2 [.o 0 0] I J1 (Br (P0 _ _ _ al) (Af 1 I (gO (Ai I (Ar h I ?_ ?_))))))
 intro am h
 refine Ai I (gU (Be 43 3) (Em [2] I ?_))
 cases io h
 rotate_left
 intro am h
 refine gS ?_
 subst ak
 refine Ab fun y8 an => gR ?_
 obtain ⟨r9, ao, h⟩ := Ac h
 refine gN (Af 1 I (Br (Xb _ _ ao) (Af 1 I (gO (Ai I (Ar h I ?_ ?_))))))
 intro aq h
 refine Ai I (gU (Be 43 3) (Em [2] I ?_))
 cases io h
 rotate_left
 intro aq h
 refine gS ?_
 subst an
 refine Ab fun cg ar => ?_
 obtain ⟨G, au, h⟩ := Ac h
 refine gN (Af 3 I (gP [] I (A5 I I I (Xt _ _ _ _ au) dS ?_)))
 rintro _ _ ⟨av, rfl, rfl⟩
 refine Af 5 I (gO ?_)
 subst ar
 refine Ab fun ci aw => gQ (Ai I (Ar h I ?_ ?_))
 intro ax h
 refine Ai I (gU (Be 43 3) (Em [3] I ?_))
 cases io h
 any_goals
  exact gT ⟨.inr I, [_, _], [.us (.slice none 0 0) 43 3 ([].map Ay)], J2, Dp I (Cv), ⟨(.slice none 0 0), I2⟩⟩
 intro ax h
 refine Ew 49 ((e == 0) || (decide (e < (-1000)) || (decide (e > 1000) || (!(Ff b))))) ?_ ?_
 refine gN (Af 3 I ?_)
 rcases bt ((e == 0)) with j | j
 exact Ae 52 I j (Af 13 I (gO (jf (by simp only [j, bz]) I I I2)))
 refine Ae 52 I j (Af 4 I ?_)
 rcases bt (decide (e < (-1000))) with u | u
 exact Ae 56 I u (Af 9 I (gO (jf (by simp only [j, u, bz]) I I I2)))
 refine Ae 56 I u (Af 4 I ?_)
 rcases bt (decide (e > 1000)) with B | B
 exact Ae 60 I B (Af 5 I (gO (jf (by simp only [j, u, B, bz]) I I I2)))
 exact Ae 60 I B (Ao 1 [.o 0 1] I J1 (Bm I I I (Br (Xj b _ I) (Af 3 I (gO (jf (by simp only [j, u, B, bz]) I I I2))))))
 refine Ar h I ?_ ?_
 intro ay h
 refine Ai I (gU (Be 43 3) (Em [3] I ?_))
 cases io h
 exact gT ⟨.inr I, [_, _], [.us (.slice none 0 0) 43 3 ([].map Ay)], J2, Dp I (Cv), ⟨(.slice none 0 0), I2⟩⟩
 intro ay h
 refine gS ?_
 subst aw
 refine Ab fun cj az => ?_
 obtain ⟨H, a0, h⟩ := Ac h
 refine gN (Ao 2 [.o 0 0] I J1 (gP [] I (A5 I I I (P1 _ _ _ a0) dS ?_)))
 rintro _ _ ⟨a1, rfl, rfl⟩
 refine Af 1 I (gO ?_)
 subst az
 refine Ab fun ck a2 => ?_
 obtain ⟨a3, a4, h⟩ := Ac h
 refine gN (Ao 4 [.o 0 0] I J1 (AO.ghost (Ba [2, 3] (K := [U3 av G.1, U0 a1 H]) I [(43, Q3 G.1), (16, Q3 G.1), (67, Q2 H), (18, Q2 H), (70, Q3 G.1), (71, Q2 H)] ⟨⟨_, I, .us 0 I⟩, ⟨_, I, .us 0 I⟩, ⟨_, I, .us 1 I⟩, ⟨_, I, .us 1 I⟩, ⟨_, I, .us 0 I⟩, ⟨_, I, .us 1 I⟩, J⟩ (ob' := [O0 E [Aa g], O2 F [Al b]]) (.rest _)) (gP [] I (A5 I I I (Yn _ _ _ _ _ a4) dS ?_))))
 rintro _ _ ⟨M, rfl, rfl⟩
 refine Af 1 I (gO ?_)
 subst a2
 refine Ab fun cl a5 => ?_
 obtain ⟨a6, a7, h⟩ := Ac h
 refine gN (Af 1 I (gP [] I (A5 I I I (Xc _ _ a7) dS ?_)))
 rintro _ _ ⟨N, rfl, rfl⟩
 refine Af 1 I (gO ?_)
 subst a5
 refine Aj (fun s ob => ∃ (n : (List gradient_part) × Li), Ex.J1 g e b n = some r ∧ s = [] ∧ ob = [O0 E [Aa g], O2 F [Al b], U4 M n.1, U0 N n.2]) [(4, _), (6, _), (11, _), (19, _), (20, _)] J5 ?_ ?_
 refine Ai I (Ar h I ?_ ?_)
 intro a8 h
 refine Ab fun cm a9 => ?_
 obtain ⟨ae, ba, h⟩ := Ac h
 refine gN (Af 1 I (gP [3] I (Bz [3] (Wv N _ _ ba) ?_)))
 refine gO ?_
 subst a9
 refine Ab fun cn bb => ?_
 obtain ⟨bc, bd, h⟩ := Ac h
 refine gN (Af 1 I (gP [2] I (Bz [2] (Yu M _ _ bd) ?_)))
 refine gO ?_
 subst bb
 refine Ab fun co be => gN (Af 1 I (hF (Da 2 I I I I) I (Af 1 I (gO ?_))))
 subst be
 refine gQ (Lk 2 I fun bf => ?_)
 obtain ⟨cp, bg, bh⟩ := Ac h
 refine Sl bg [(4, _), (6, _), (11, _), (19, _), (20, _), (82, _)] J6 (fun (W : Nat) (O : List gradient_part) s ob => s = [(83, .V (W : Int))] ∧ ob = [O0 E [Aa g], O2 F [Al b], U4 M O, U0 N ae]) ⟨I, I⟩ ⟨I, J⟩ ⟨[0, 1, 2, 3], I, by decide⟩ ?_ ?_
 rintro W O cq s ob af ⟨rfl, rfl⟩ h
 have bi := Cr af
 refine Ai I (Ab fun cr bj => Bf I bi (gS ?_))
 subst bj
 refine gR (gQ (Ai I ?_))
 obtain ⟨f, ⟨ag, P⟩, h⟩ := A7 h
 refine gN (Af 4 I (hF (Co 2 (m := f.1) I I I I I I I ag (Ag P)) I (Af 1 I (hF (Bx 2 f.1 2 I I I (Ag P) I (y := .V f.2.height) I) I (Af 1 I (hF (Co 2 (m := f.1) I I I I I I I ag (Ag P)) I (Af 1 I (gP [2] I (Cb 2 f.1 2 I I I (Ag P) I I I I (Bn I) I (Dl (x := (⟨f.2.length, f.2.width, wr (0 - f.2.height), f.2.liquid⟩ : gradient_part)) I) (gO (gN (Ao 2 [.k 0 (W + 1 : Nat)] I ⟨Az af bf, J⟩ ?_))))))))))))
 cases io h
 exact gO (lg I2 [0, 1, 2, 3])
 rintro O s ob ⟨rfl, rfl⟩ he
 subst he
 have h := bh
 have bk := Cs bc.length
 exact Ai I (Ab fun ct cu => Bg I bk (gW (lg ⟨(O, ae), h, I2⟩ [0, 1, 2, 3])))
 intro a8 h
 exact gS (lg ⟨(a3, a6), h, I2⟩ [0, 1, 2, 3])
 rintro s ob ⟨n, h, rfl, rfl⟩
 refine Ab fun cv bl => ?_
 obtain ⟨w, ⟨bm, X⟩, h⟩ := A7 h
 refine C3 3 w.1 I X fun bn => Ca (pd 7 0 [5]) [3, 1] [_, _] I (Bb 1 I (gZ I (Bi (m := w.1) I I I I I bn I bm X) I (AP.o I (Bx 0 w.1 0 I I I (Ag X) I (y := .V w.2) I) I (Cg 1 [.o 0 1] I J1 (gZ I (A4 (l := [.V w.2, .V b.Low, .V b.High]) C7 I) I (gV [] I I I (gX (sz := 3) (es := ([(⟨w.2, b⟩ : Level)] : List Level).map Ay) I I I I I I I I I I I dS fun bo => Bb 1 I (Ax (gO ?_)))))))))
 subst bl
 refine Aj (fun s ob => ∃ (Q : List Level) (t : Value), Ex.J2 e Q = some r ∧ s = [(22, .v t)] ∧ ob = [U2 t Q]) [(4, _)] J1 ?_ ?_
 refine Ab fun cw bp => gN (Af 1 I (hF (Da 2 I I I I) I (Af 1 I (gO ?_))))
 subst bp
 refine gQ (Lk 2 I fun ah => ?_)
 obtain ⟨cx, bq, br⟩ := Ac h
 refine Sl bq [(4, _), (6, _), (11, _), (20, _), (103, _), (104, _)] J6 (fun (R : Nat) (a : Int × Int × (List Level)) s ob => ∃ (D : Value), s = [(105, .V (R : Int)), (22, .v D)] ∧ ob = [O0 E [Aa g], O2 F [[.V a.1, .V a.2.1]], U4 M n.1, U0 N n.2, U2 D a.2.2]) ⟨bo, I2⟩ ⟨I, I, J⟩ ⟨[0, 1, 2, 3, 4], I, by decide⟩ ?_ ?_
 rintro R a cy s ob Y ⟨D, rfl, rfl⟩ h
 have bs := Cr Y
 refine Ai I (Ab fun cz bu => Bf I bs (gS ?_))
 subst bu
 refine gR (gQ (Ab fun c1 bv => ?_))
 obtain ⟨S, ⟨bw, ai⟩, h⟩ := A7 h
 refine gN (Af 1 I (hF (Co 2 (m := S.1) I I I I I I I bw (Ag ai)) I (hF (Bx 2 S.1 0 I I I (Ag ai) I (y := .agg (Bv S.2)) I) I (gP [] I (Bl W6 8 fun c2 => Af 1 I (gP [5] I (Bc 5 0 0 [Bv S.2] I (gO ?_))))))))
 subst bv
 refine Ab fun c3 bx => ?_
 obtain ⟨i, b0, h⟩ := Ac h
 refine gN (Ao 6 [.o 0 5, .o 1 0] I J2 (Br (Xr _ _ _ _ b0) (Af 5 I (gO ?_))))
 subst bx
 refine gR (gN (Ao 8 [.o 1 1, .o 5 1] I J2 (Bk (A4 (l := [.V (wr (a.1 - i.2)), .V (wr (a.2.1 - i.1))]) C8 I) I (gP [1] I (Bc 1 0 0 [[.V (wr (a.1 - i.2)), .V (wr (a.2.1 - i.1))]] I (gO ?_))))))
 obtain ⟨A, ⟨b1, Z⟩, h⟩ := A7 h
 obtain ⟨c4, b4, h⟩ := Ac h
 refine C3 3 A.1 I Z fun b5 => Ca (pd 11 0 [8, 9]) [3, 1] [_, _] I (Cg 4 [.k 3 (R + 1 : Nat)] I ⟨Az Y ah, J⟩ (gZ I (Bi (m := A.1) I I I I I b5 I b1 Z) I (AP.o I (Bx 0 A.1 0 I I I (Ag Z) I (y := .V A.2) I) I (Cg 1 [.o 0 1] I J1 (gZ I (A4 (l := [.V A.2, .V (wr (a.1 - i.2)), .V (wr (a.2.1 - i.1))]) C7 I) I (gV [] I I I (gY 3 (([(⟨A.2, (⟨wr (a.1 - i.2), wr (a.2.1 - i.1)⟩ : Bounds)⟩ : Level)] : List Level).map Ay) (gV [4] I I I (Dd 4 I b4 fun b6 => L8 22 (Bb 1 I (Ax (gO ?_))))))))))))
 refine gN (Ao 2 [.k 0 (R + 1 : Nat)] I ⟨Az Y ah, J⟩ ?_)
 cases io h
 exact gO (lg ⟨b6, I2⟩ [0, 1, 2, 3, 4])
 rintro a s ob ⟨D, rfl, rfl⟩ he
 subst he
 have h := br
 have b7 := Cs n.1.length
 exact Ai I (Ab fun c5 c6 => Bg I b7 (gW (lg ⟨a.2.2, D, h, I2⟩ [4])))
 rintro s ob ⟨Q, t, h, rfl, rfl⟩
 unfold Ex.J2 at h
 refine Aj (fun s ob => ∃ (U : List Level), Ex.J3 U = some r ∧ s = [] ∧ ob = [U2 t U]) [(22, _)] J1 ?_ ?_
 refine Ai I (Ar h I ?_ ?_)
 intro b8 h
 obtain ⟨b9, ca, h⟩ := Ac h
 refine gN (Af 1 I (gP [0] I (Bz [0] (Ty t _ _ ca) ?_)))
 exact gO (lg ⟨b9, h, I2⟩ [0])
 intro b8 h
 exact gS (lg ⟨Q, h, I2⟩ [0])
 rintro s ob ⟨U, h, rfl, rfl⟩
 unfold Ex.J3 at h
 refine Ai I ?_
 cases io h
 exact gT ⟨.inr I, [_, _], [U2 t U], J2, Dp I (Cv), ⟨t, I2⟩⟩
end Go.Proofs.YtkhcdkioehdndaaGreatDoor
