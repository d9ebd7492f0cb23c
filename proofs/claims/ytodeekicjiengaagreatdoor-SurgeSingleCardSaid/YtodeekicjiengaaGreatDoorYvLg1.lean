/- Walks that show what functions of the program compute; printed by a program of ours. No condition. -/
import Derived.Test.YtodeekicjiengaaGreatDoorYvL2
import Derived.Test.YtodeekicjiengaaGreatDoorYvD
set_option maxRecDepth 100000
namespace Go.Proofs.YtodeekicjiengaaGreatDoor
open Go.Aw
set_option linter.unusedVariables false
set_option linter.unusedSimpArgs false
set_option maxHeartbeats 4000000
theorem eJ (a : Sg) (r : Int) (h : Vb a = some r) : ACalls Aj 168 [.agg (Ak a)] [] (fun x new => x = .V r ∧ new = []) := by
 refine Ad Tryz.func168 I I I fun C hC => ?_
 refine Aa fun k b => sH (sJ [] I (Bo (Ak a) 7 fun n => Ag 1 I (sI ?_)))
 subst b
 refine Aa fun s c => sH (Ag 1 I (sJ [0] I (A3 0 0 1 [[.v (.string a.Name), .V 0, .V a.To, .V a.Capacity, .V a.Resist, .V a.Wave, qS a.Points]] I (Ag 1 I (sJ [0] I (A3 0 0 2 [[.v (.string a.Name), .V 0, .V 1, .V a.Capacity, .V a.Resist, .V a.Wave, qS a.Points]] I (sI ?_)))))))
 subst c
 refine sN (sN ?_)
 obtain ⟨t, d, h⟩ := Ac h
 refine sH (sJ [] I (sX (sz := 1) (es := ([(⟨#[97]⟩ : Bt), (⟨#[98]⟩ : Bt)] : List Bt).map rS) I I I I I I I I I I I dS fun e => An 1 [.o 0 0] I J1 (sJ [] I (sX (sz := 7) (es := ([(⟨a.Name, 0, 1, a.Capacity, a.Resist, a.Wave, a.Points⟩ : Sg)] : List Sg).map Ak) I I I I I I I I I I I dS fun f => tE 1 I fun g => tE 2 I fun i => sT (Au (l := [.v e, .v f, .N, .N, .V 0, .V 0]) H7 (As I I (A7 g) I (As I I (A7 i) I (Cv)))) I (sJ [] I (Cl I (.refl _) I I (.cons (.agg (.cons (.us 1 I) (.cons (.us 2 I) (.cons (.nil _) (.cons (.nil _) (.rest _)))))) (.rest _)) I (Jz _ _ d) dS (by rintro _ _ ⟨rfl, _⟩; rfl) ?_))))))
 rintro _ ⟨_, rfl, -⟩
 refine Ag 1 I (sI (Ar h I ?_ ?_))
 intro j h
 refine Ah I (sP g0 ?_)
 obtain rfl := oi h
 exact sO pr
 intro j h
 refine sL (Ah I (sP g0 ?_))
 obtain rfl := oi h
 exact sO pr
theorem fL (a : Piece) (r : Bool) (h : P2 a = r) : ACalls Aj 136 [.agg (A9 a)] [] (fun x new => x = .v (.bool r) ∧ new = []) := by
 refine Ad Tryz.func136 I I I fun C hC => ?_
 unfold P2 at h
 refine Aa fun f e => sH (sJ [] I (Bo (A9 a) 2 fun g => Ag 1 I (sI ?_)))
 subst e
 refine Ai (fun s ob => s = [(2, .v (.bool (decide (a.Batch ≥ 0) && (decide (a.Batch < 1000) && (decide (a.Volume ≥ 0) && decide (a.Volume ≤ 1000000))))))] ∧ ob = []) [] J ?_ ?_
 refine sH (An 4 [.o 1 0] I J1 ?_)
 rcases bt (decide (a.Batch ≥ 0)) with b | b
 refine Af 6 I b (An 5 [.o 1 0] I J1 ?_)
 rcases bt (decide (a.Batch < 1000)) with c | c
 refine Af 11 I c (An 5 [.o 1 0] I J1 ?_)
 rcases bt (decide (a.Volume ≥ 0)) with d | d
 refine Af 16 I d (An 5 [.o 1 0] I J1 (sI ?_))
 exact lf I2 ⟨(Dn (by simp only [b, c, d, bz])), J⟩ [] I
 refine Af 16 I d (Ag 5 I (sI ?_))
 exact lf I2 ⟨(Dn (by simp only [b, c, d, bz])), J⟩ [] I
 refine Af 11 I c (Ag 10 I (sI ?_))
 exact lf I2 ⟨(Dn (by simp only [b, c, bz])), J⟩ [] I
 refine Af 6 I b (Ag 15 I (sI ?_))
 exact lf I2 ⟨(Dn (by simp only [b, bz])), J⟩ [] I
 rintro s ob ⟨rfl, rfl⟩
 obtain rfl := h
 exact sO pr
theorem T6 (a : List Piece) (r : Int) (h : Kz a = some r) : ACalls Aj 137 [Q4 a] [] (fun x new => x = .V r ∧ new = []) := by
 refine Ad Tryz.func137 I I I fun C hC => ?_
 unfold Kz at h
 refine Ah I (Ah I (Ai (fun s ob => ∃ (d : Int), Kz.J1 d = some r ∧ s = [(3, .V d)] ∧ ob = []) [] J ?_ ?_))
 refine Bh [.l 1 (a.length : Int)] I ⟨Ay, J⟩ (sM (Bz 6 I fun g => ?_))
 obtain ⟨u, i, j⟩ := Ac h
 clear h
 refine Ct i [(6, _), (7, _)] J2 (fun (b : Nat) (c : Int) s ob => s = [(8, .V (b : Int)), (3, .V c)] ∧ ob = []) ⟨I, I⟩ ⟨I, I, J⟩ ⟨[], I, by decide⟩ ?_ ?_
 rintro b e c w s ob n f ⟨rfl, rfl⟩ h
 have p := Cn f
 refine Ah I (Aa fun y q => Bs I p (sL ?_))
 subst q
 refine sN (sM (sN (sH (An 2 [.x 0 b (A9 e)] I ⟨⟨I, Ae n⟩, J⟩ (sJ [] I (sS [.V 0, .V 0] 2 fun A => sJ [0] I (A3 0 0 0 [A9 e] I (sI (Ey [.o 2 0] I J1 (sH (An 2 [.k 0 (b + 1 : Nat)] I ⟨A0 f g, J⟩ ?_)))))))))))
 obtain rfl := oi h
 exact sI (lg I2 [])
 rintro c s ob ⟨rfl, rfl⟩ he
 subst he
 have h := j
 have t := Co a.length
 refine Ah I (Aa fun B D => Bu I t (sQ ?_))
 exact lg ⟨c, h, I2⟩ []
 rintro s ob ⟨d, h, rfl, rfl⟩
 refine Ah I ?_
 obtain rfl := oi h
 exact sO pr
theorem Oa (a : List Piece) (r : Bool) (h : Kx a = some r) : ACalls Aj 85 [Q4 a] [] (fun x new => x = .v (.bool r) ∧ new = []) := by
 refine Ad Tryz.func85 I I I fun C hC => ?_
 refine Ah I (Aa fun R w => Bh [.l 1 (a.length : Int)] I ⟨Ay, J⟩ (Ar h I ?_ ?_))
 intro y h
 refine Ah I ?_
 obtain rfl := oi h
 exact sO pr
 intro y h
 refine sL ?_
 subst w
 refine Ai (fun s ob => ∃ (n : Unit), Kx.J1 a n = some r ∧ s = [] ∧ ob = []) [(0, _)] J1 ?_ ?_
 refine Bh [.l 1 (a.length : Int)] I ⟨Ay, J⟩ (sM (Bz 8 I fun A => ?_))
 obtain ⟨S, B, p⟩ := Ac h
 clear h
 refine Bx B [(0, _), (8, _), (9, _)] J3 (fun (d : Nat) (t : Unit) s ob => s = [(10, .V (d : Int))] ∧ ob = []) ⟨I, I⟩ ⟨I, J⟩ ⟨[], I, by decide⟩ ?_ ?_
 rintro d b t D s ob E u ⟨rfl, rfl⟩ h F
 unfold Kx.B2 at h
 have G := Cn u
 refine Ah I (Aa fun U H => Bs I G (sL ?_))
 subst H
 refine sN (sM (Aa fun W K => sH (An 3 [.x 1 d (A9 b)] I ⟨⟨I, Ae E⟩, J⟩ (sJ [] I (sS [.V 0, .V 0] 2 fun X => Ag 1 I (sJ [0] I (A3 0 0 0 [A9 b] I (sI ?_))))))))
 subst K
 refine Ai (fun s ob => ∃ (i : Bool), Kx.J3 i = some D ∧ s = [(37, .v (.bool i))] ∧ ob = []) [(0, _), (8, _), (9, _), (10, _)] J4 ?_ ?_
 refine By (pd 23 0 [1]) [0] [_] I (B8 1 [.o 0 0] I J1 (Dp I (fL b _ I) (Bg 2 I ?_)))
 rcases bt ((!(P2 b))) with e | e
 replace h := Bq e h
 refine A4 18 I e (Bg 8 I (Bc I I I I dS (Bc I I I I dS (Bc I I I I dS (Bc I I I I dS (Bc I I I I dS (Bc I I I I dS (Bc I I I I dS (Bc I I I I dS (Bc I I I I dS (Bg 2 I (Ap ?_))))))))))))
 exact sI (lg ⟨true, h, I2⟩ [])
 replace h := Br e h
 refine A4 18 I e (B8 5 [.o 1 0] I J1 ?_)
 rcases bt ((b.Volume == 0)) with f | f
 replace h := Bq f h
 refine A4 23 I f (Bg 3 I (Bc I I I I dS (Bc I I I I dS (Bc I I I I dS (Bc I I I I dS (Bc I I I I dS (Bc I I I I dS (Bc I I I I dS (Bc I I I I dS (Bc I I I I dS (Bg 2 I (Ap ?_))))))))))))
 exact sI (lg ⟨true, h, I2⟩ [])
 replace h := Br f h
 refine A4 23 I f (Bg 3 I ?_)
 rcases bt (decide ((d : Int) > 0)) with g | g
 replace h := Bq g h
 obtain ⟨j, ⟨M, N⟩, h⟩ := A5 h
 refine A4 26 I g (B8 11 [.x 3 j.1 (A9 j.2), .o 7 0] I ⟨I, ⟨M, Ae N⟩, J⟩ (Ap (sI ?_)))
 exact lg ⟨(j.2.Batch == b.Batch), h, I2⟩ []
 replace h := Br g h
 refine A4 26 I g (Bg 11 I (Ap (sI ?_)))
 exact lg ⟨false, h, I2⟩ []
 rintro s ob ⟨i, h, rfl, rfl⟩
 refine Ar h I ?_ ?_
 intro O h
 refine Ah I ?_
 obtain rfl := F _ (oi h).symm
 replace h := p
 replace h := C1 h
 obtain rfl := oi h
 exact sO pr
 intro O h
 refine sL (sH (An 2 [.k 0 (d + 1 : Nat)] I ⟨A0 u A, J⟩ ?_))
 obtain rfl := oi h
 exact sI ⟨_, _, _, I, I2, J4, [], I, by decide⟩
 rintro t s ob ⟨rfl, rfl⟩ he
 subst he
 have h := C6 p
 have P := Co a.length
 refine Ah I (Aa fun Y Z => Bu I P (sQ ?_))
 exact lg ⟨(), h, I2⟩ []
 rintro s ob ⟨n, h, rfl, rfl⟩
 refine sN ?_
 obtain ⟨aa, Q, h⟩ := Ac h
 refine sH (Ag 1 I (Cc (T6 _ _ Q) (Ag 2 I (sI ?_))))
 obtain rfl := oi h
 exact sO pr
theorem Tx (a : List Piece) (r : Int) (h : M4 a = some r) : ACalls Aj 86 [Q4 a] [] (fun x new => x = .V r ∧ new = []) := by
 refine Ad Tryz.func86 I I I fun C hC => ?_
 refine Ah I (sN (sN ?_))
 obtain ⟨f, b, h⟩ := Ac h
 refine sH (Ag 1 I (Cc (Oa _ _ b) (Ag 1 I (sI (Ar h I ?_ ?_)))))
 intro d h
 refine Ah I ?_
 obtain rfl := oi h
 exact sO pr
 intro d h
 refine sL (sN ?_)
 obtain ⟨g, e, h⟩ := Ac h
 refine sH (Ag 1 I (Cc (T6 _ _ e) (Ag 1 I (sI ?_))))
 obtain rfl := oi h
 exact sO pr
theorem fX (a : Sg) (d : List Piece) (r : Int) (h : P8 a d = some r) : ACalls Aj 143 [.agg (Ak a), Q4 d] [] (fun x new => x = .V r ∧ new = []) := by
 refine Ad Tryz.func143 I I I fun C hC => ?_
 unfold P8 at h
 refine Aa fun w f => sH (sJ [] I (Bo (Ak a) 7 fun g => Ag 1 I (sI ?_)))
 subst f
 refine Aa fun y i => Ai (fun s ob => ∃ (e : Bool), P8.J1 a d e = some r ∧ s = [(12, .v (.bool e))] ∧ ob = [O5 g [Ak a]]) [(1, _), (2, _)] J2 ?_ ?_
 obtain ⟨j, k, h⟩ := Ac h
 refine sH (An 1 [.o 0 0] I J1 (Cc (eJ _ _ k) (Ag 2 I ?_)))
 rcases bt ((j != 0)) with b | b
 replace h := Bq b h
 refine Af 8 I b (Ag 4 I (sI ?_))
 exact lg ⟨true, h, I2⟩ [0]
 replace h := Br b h
 obtain ⟨l, n, h⟩ := Ac h
 refine Af 8 I b (Ag 1 I (Cd I I I (Cc (Oa _ _ n) (Ag 2 I (sI ?_)))))
 exact lg ⟨(!l), h, I2⟩ [0]
 rintro s ob ⟨e, h, rfl, rfl⟩
 refine Ar h I ?_ ?_
 intro p h
 refine Ah I (sP g0 ?_)
 obtain rfl := oi h
 exact sO pr
 intro p h
 refine sL ?_
 subst i
 refine sN (sN ?_)
 obtain ⟨A, t, h⟩ := Ac h
 refine By (.still 0 (.still 2 (.still 3 (.act 1 (.still 4 .nil))))) [0] [_] I (B8 3 [.o 2 0] I J1 (Dp I (Tx _ _ t) (Bg 1 I (Ap (sI (Ar h I ?_ ?_))))))
 intro u h
 refine Ah I (sP g0 ?_)
 obtain rfl := oi h
 exact sO pr
 intro u h
 refine sL (Ah I (sP g0 ?_))
 obtain rfl := oi h
 exact sO pr
theorem gV (a : Value) (b : Li) (r : Li) (h : Vs b = some r) : ACalls Aj 169 [.v a] [U0 a b] (D6 1 fun x os new => x = .tup [] ∧ os = [U0 a r] ∧ new = []) := by
  unfold Vs at h
  split at h
  · cases h
  · rename_i hne
    obtain rfl := oi h
    rw [← Sx]
    exact Wt ⟨_, Tryz.func169, rfl, rfl⟩ (fun G4 off cap zs w c d e => Go.Proofs.Tryz.slices_Sort_int G4 off cap zs w c d e) hne
theorem iN (a : Value) (b : Li) (r : Li) (h : V0 b = some r) : ACalls Aj 170 [.v a] [U0 a b] (D6 1 fun x os new => ∃ (c : Value), x = .v c ∧ os = [.us (.slice none 0 0) 3 1 ([].map rI)] ∧ new = [U0 c r]) := by
  unfold V0 at h
  split at h
  · cases h
  · rename_i hne
    obtain rfl := oi h
    exact Pb ⟨_, Tryz.func170, rfl, rfl⟩ (fun G4 off cap zs w d e f => Go.Proofs.Tryz.slices_Compact_int G4 off cap zs w d e f) hne
theorem gA (b : Sg) (c : List Piece) (r : Li) (h : Nd b c = some r) : ACalls Aj 146 [.agg (Ak b), Q4 c] [] (fun x new => ∃ (y : Value), x = .v y ∧ new = [U0 y r]) := by
 refine Ad Tryz.func146 I I I fun C hC => ?_
 unfold Nd at h
 refine Aa fun y1 E => sH (sJ [] I (Bo (Ak b) 7 fun b2 => Ag 1 I (sI ?_)))
 subst E
 refine Ah I (Ai (fun s ob => ∃ (p : Li) (g : Value), Nd.J1 c p = some r ∧ s = [(5, .v g)] ∧ ob = [U0 g p]) [(1, _)] J1 ?_ ?_)
 refine Bh [.o 1 0, .l 2 (b.Points.length : Int)] I ⟨Ay, I, J⟩ (sM (Bz 12 I fun F => sP (Bv 3 1) ?_))
 obtain ⟨ah, G, H⟩ := Ac h
 clear h
 refine Ct G [(1, _), (12, _), (13, _)] J3 (fun (i : Nat) (j : Li) s ob => ∃ (d : Value), s = [(14, .V (i : Int)), (5, .v d)] ∧ ob = [U0 d j]) ⟨(.slice none 0 0), I2⟩ ⟨I, I, J⟩ ⟨[1], I, by decide⟩ ?_ ?_
 rintro i t j ai s ob K A ⟨d, rfl, rfl⟩ h
 have M := Cn A
 refine Ah I (Aa fun aj N => Bs I M (sL ?_))
 subst N
 refine sN (sM (sN (sH (An 2 [.x 0 i (Bi t)] I ⟨⟨I, Ae K⟩, J⟩ (sJ [] I (sS W1 3 fun ak => sJ [1] I (A3 1 0 0 [Bi t] I (sI ?_))))))))
 obtain ⟨al, O, h⟩ := Ac h
 refine sH (An 3 [.o 2 1] I J1 (sJ [] I (sR 1 (([t.At] : Li).map rI) (sJ [0] I (C7 0 I O fun P => Ag 1 I (sI (sH (An 2 [.k 0 (i + 1 : Nat)] I ⟨A0 A F, J⟩ ?_))))))))
 obtain rfl := oi h
 exact sI (lg ⟨P, I2⟩ [0])
 rintro j s ob ⟨d, rfl, rfl⟩ he
 subst he
 have h := H
 have Q := Co b.Points.length
 refine Ah I (Aa fun am an => Bu I Q (sQ ?_))
 exact lg ⟨j, d, h, I2⟩ [0]
 rintro s ob ⟨p, g, h, rfl, rfl⟩
 unfold Nd.J1 at h
 refine Ah I (Ai (fun s ob => ∃ (u : Li) (e : Value), Nd.J2 u = some r ∧ s = [(5, .v e)] ∧ ob = [U0 e u]) [] J ?_ ?_)
 refine Bh [.l 1 (c.length : Int)] I ⟨Ay, J⟩ (sM (Bz 24 I fun R => ?_))
 obtain ⟨ao, S, U⟩ := Ac h
 clear h
 refine Ct S [(24, _), (25, _)] J2 (fun (n : Nat) (a : Li × Int) s ob => ∃ (f : Value), s = [(26, .V (n : Int)), (5, .v f), (8, .V a.2)] ∧ ob = [U0 f a.1]) ⟨g, I2⟩ ⟨I, I, I, J⟩ ⟨[0], I, by decide⟩ ?_ ?_
 rintro n w a aq s ob W B ⟨f, rfl, rfl⟩ h
 have X := Cn B
 refine Ah I (Aa fun ar Y => Bs I X (sL ?_))
 subst Y
 refine sN (sM (sN (sH (An 2 [.x 0 n (A9 w)] I ⟨⟨I, Ae W⟩, J⟩ (sJ [] I (sS [.V 0, .V 0] 2 fun au => sJ [1] I (A3 1 0 0 [A9 w] I (sI (Bh [.o 2 1] I J1 ?_)))))))))
 obtain ⟨av, Z, h⟩ := Ac h
 refine sH (Ag 2 I (sJ [] I (sR 1 (([wr (a.2 + w.Volume)] : Li).map rI) (sJ [0] I (C7 0 I Z fun aa => Ag 1 I (sI (sH (An 2 [.k 0 (n + 1 : Nat)] I ⟨A0 B R, J⟩ ?_))))))))
 obtain rfl := oi h
 exact sI (lg ⟨aa, I2⟩ [0])
 rintro a s ob ⟨f, rfl, rfl⟩ he
 subst he
 have h := U
 have ab := Co c.length
 refine Ah I (Aa fun aw ax => Bu I ab (sQ ?_))
 exact lg ⟨a.1, f, h, I2⟩ [0]
 rintro s ob ⟨u, e, h, rfl, rfl⟩
 refine sN ?_
 obtain ⟨ay, ac, h⟩ := Ac h
 refine sH (Ag 1 I (sJ [0] I (A1 [0] (gV e _ _ ac) ?_)))
 refine sI (sN ?_)
 obtain ⟨ad, ae, h⟩ := Ac h
 refine sH (Ag 1 I (sJ [0] I (Ik [0] (iN e _ _ ae) ?_)))
 rintro _ _ _ - ⟨D, rfl, rfl, rfl⟩
 refine Ag 1 I (sI (Cu [1] I ?_))
 obtain rfl := oi h
 exact sO ⟨.inr I, [_], [U0 D ad], J1, Cy I (Cm), ⟨D, I2⟩⟩
end Go.Proofs.YtodeekicjiengaaGreatDoor
