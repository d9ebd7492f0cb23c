/- Walks that show what functions of the program compute; printed by a program of ours. No condition. -/
import Derived.Test.YtodeekicjiengaaGreatDoorYvL2
import Derived.Test.YtodeekicjiengaaGreatDoorYvD
set_option maxRecDepth 100000
namespace Go.Proofs.YtodeekicjiengaaGreatDoor
open Go.Aw
set_option linter.unusedVariables false
set_option linter.unusedSimpArgs false
set_option maxHeartbeats 4000000
theorem Jw (a : Li) (c : Li) (r : Bool) (h : Y7 a c = some r) : ACalls Aj 35 [Q0 a, Q0 c] [] (fun x new => x = .v (.bool r) ∧ new = []) := by
 refine Ad Tryz.func35 I I I fun C hC => ?_
 refine Ah I (Aa fun E j => Bh [.l 1 (a.length : Int), .l 3 (c.length : Int)] I ⟨Ay, Ay, J⟩ (Ar h I ?_ ?_))
 intro m h
 refine Ah I ?_
 obtain rfl := oi h
 exact sO pr
 intro m h
 refine sL ?_
 subst j
 refine Ai (fun s ob => ∃ (d : Unit), Y7.J1 d = some r ∧ s = [] ∧ ob = []) [] J ?_ ?_
 refine Bh [.l 1 (a.length : Int)] I ⟨Ay, J⟩ (sM (Bz 11 I fun n => ?_))
 obtain ⟨F, o, e⟩ := Ac h
 clear h
 refine Bx o [(0, _), (1, _), (12, _)] J3 (fun (b : Nat) (f : Unit) s ob => s = [(13, .V (b : Int))] ∧ ob = []) ⟨I, I⟩ ⟨I, J⟩ ⟨[], I, by decide⟩ ?_ ?_
 rintro b p f G s ob q g ⟨rfl, rfl⟩ h t
 have u := Cn g
 refine Ah I (Aa fun H w => Bs I u (sL ?_))
 subst w
 refine sN (sM (Ah I (sN ?_)))
 obtain ⟨i, ⟨y, A⟩, h⟩ := A5 h
 refine Il (pd 9 0 []) [] [] [.x 2 b (rI p), .x 6 i.1 (rI i.2)] I I ⟨⟨y, Ae A⟩, ⟨I, Ae q⟩, J⟩ (Ar h I ?_ ?_)
 intro B h
 refine Ah I ?_
 obtain rfl := t _ (oi h).symm
 replace h := e
 replace h := C1 h
 obtain rfl := oi h
 exact sO pr
 intro B h
 refine sL (sH (An 2 [.k 0 (b + 1 : Nat)] I ⟨A0 g n, J⟩ ?_))
 obtain rfl := oi h
 exact sI ⟨_, _, _, I, I2, J4, [], I, by decide⟩
 rintro f s ob ⟨rfl, rfl⟩ he
 subst he
 have h := C6 e
 have D := Co a.length
 refine Ah I (Aa fun K M => Bu I D (sQ ?_))
 exact lg ⟨(), h, I2⟩ []
 rintro s ob ⟨d, h, rfl, rfl⟩
 refine Ah I ?_
 obtain rfl := oi h
 exact sO pr
theorem gT (a : List Li) (d : List Li) (r : Bool) (h : jP a d = some r) : ACalls Aj 36 [.list 1 (a.map (rL 1 rI)), .list 1 (d.map (rL 1 rI))] [] (fun x new => x = .v (.bool r) ∧ new = []) := by
 refine Ad Tryz.func36 I I I fun C hC => ?_
 refine Ah I (Aa fun H m => Bh [.l 1 (a.length : Int), .l 3 (d.length : Int)] I ⟨Ay, Ay, J⟩ (Ar h I ?_ ?_))
 intro n h
 refine Ah I ?_
 obtain rfl := oi h
 exact sO pr
 intro n h
 refine sL ?_
 subst m
 refine Ai (fun s ob => ∃ (e : Unit), jP.J1 e = some r ∧ s = [] ∧ ob = []) [] J ?_ ?_
 refine Bh [.l 1 (a.length : Int)] I ⟨Ay, J⟩ (sM (Bz 11 I fun o => ?_))
 obtain ⟨K, p, f⟩ := Ac h
 clear h
 refine Bx p [(0, _), (1, _), (12, _)] J3 (fun (b : Nat) (g : Unit) s ob => s = [(13, .V (b : Int))] ∧ ob = []) ⟨I, I⟩ ⟨I, J⟩ ⟨[], I, by decide⟩ ?_ ?_
 rintro b t g M s ob u i ⟨rfl, rfl⟩ h w
 have y := Cn i
 refine Ah I (Aa fun N A => Bs I y (sL ?_))
 subst A
 refine sN (sM (Ah I (sN ?_)))
 obtain ⟨j, ⟨B, D⟩, h⟩ := A5 h
 obtain ⟨O, E, h⟩ := Ac h
 refine By (pd 10 0 [8]) [] [] I (B8 8 [.x 2 b ((rL 1 rI) t), .x 6 j.1 ((rL 1 rI) j.2)] I ⟨⟨B, Ae D⟩, ⟨I, Ae u⟩, J⟩ (Dp I (Jw _ _ _ E) (Bg 1 I (Ap (sI (Ar h I ?_ ?_))))))
 intro F h
 refine Ah I ?_
 obtain rfl := w _ (oi h).symm
 replace h := f
 replace h := C1 h
 obtain rfl := oi h
 exact sO pr
 intro F h
 refine sL (sH (An 2 [.k 0 (b + 1 : Nat)] I ⟨A0 i o, J⟩ ?_))
 obtain rfl := oi h
 exact sI ⟨_, _, _, I, I2, J4, [], I, by decide⟩
 rintro g s ob ⟨rfl, rfl⟩ he
 subst he
 have h := C6 f
 have G := Co a.length
 refine Ah I (Aa fun P Q => Bu I G (sQ ?_))
 exact lg ⟨(), h, I2⟩ []
 rintro s ob ⟨e, h, rfl, rfl⟩
 refine Ah I ?_
 obtain rfl := oi h
 exact sO pr
theorem fZ  (r : Arr Int 24) (h : P9 = some r) : ACalls Aj 116 [] [] (fun x new => ∃ (g : Nat), x = .v (.pointer (some ⟨g, 0, none⟩)) ∧ new = [O9 g [r.l.map cI]]) := by
 refine Ad Tryz.func116 I I I fun C hC => ?_
 unfold P9 at h
 refine Ah I (Aa fun A i => sH (sJ [] I (sS ((Arr.rep 24 (0 : Int)).l.map cI) 24 fun c => sI ?_)))
 subst i
 refine Ai (fun s ob => ∃ (d : Arr Int 24), P9.J1 d = some r ∧ s = [] ∧ ob = [O9 c [d.l.map cI]]) [(1, _)] J1 ?_ ?_
 refine Ah I (sM ?_)
 have j : (24 : Nat) ≤ 9223372036854775806 := by decide
 obtain ⟨B, n, o⟩ := Ac h
 clear h
 refine Gw n [(1, _)] J1 (fun (a : Nat) (b : Arr Int 24) s ob => s = [(3, .V (a : Int))] ∧ ob = [O9 c [b.l.map cI]]) ⟨I, I⟩ ⟨I, J⟩ ⟨[0], I, by decide⟩ ?_ ?_
 rintro a b D s ob t ⟨rfl, rfl⟩ h
 have u : decide ((a : Int) < 24) = true := decide_eq_true (by omega)
 refine Ah I (sN (Bs I u (sL (sN (sM (Ah I ?_))))))
 obtain ⟨e, ⟨w, f⟩, h⟩ := A5 h
 refine sH (Ag 2 I (sT (Du (m := e.1) I I I I I I w (Ej f)) I (sJ [0] I (sZ 0 0 (0 + e.1) (es' := [(b.set e.1 (a : Int)).l.map cI]) I I I I (by omega) I I I (Lq (Ej f) (by simp [Arr.h, Bj])) I (congrArg (fun r => [r]) (by rw [Nat.zero_add]; exact Rg (Kl f))) (sI (sH (An 2 [.k 0 (a + 1 : Nat)] I ⟨A0 t j, J⟩ ?_)))))))
 obtain rfl := oi h
 exact sI (lg I2 [0])
 rintro b s ob ⟨rfl, rfl⟩ he
 subst he
 have h := o
 have y : decide (((24 : Nat) : Int) < 24) = false := by simp
 refine Ah I (sN (Bu I y (sQ ?_)))
 exact lg ⟨b, h, I2⟩ [0]
 rintro s ob ⟨d, h, rfl, rfl⟩
 refine Ah I ?_
 obtain rfl := oi h
 exact sO ⟨.inr I, [_], [O9 c [d.l.map cI]], J1, Cy I (Cm), ⟨c, I2⟩⟩
theorem Od (b : Nat) (k : Arr Int 24) (n : Int) (r : Int × (Arr Int 24)) (h : K0 k n = some r) : ACalls Aj 118 [.v (.pointer (some ⟨b, 0, none⟩)), .V n] [O9 b [k.l.map cI]] (D6 1 fun x os new => x = .V r.1 ∧ os = [O9 b [r.2.l.map cI]] ∧ new = []) := by
 refine Ad Tryz.func118 I I I fun C hC => ?_
 unfold K0 at h
 refine Ah I (Ai (fun s ob => ∃ (e : (Arr Int 24) × Int), K0.J1 e = some r ∧ s = [(1, .V e.2)] ∧ ob = [O9 b [e.1.l.map cI]]) [] J ?_ ?_)
 refine sM ?_
 obtain ⟨H, w, A⟩ := Ac h
 clear h
 refine Cs w [(0, _)] J1 (fun (f : (Arr Int 24) × Int) s ob => s = [(1, .V f.2)] ∧ ob = [O9 b [f.1.l.map cI]]) ⟨I, I⟩ ⟨I, J⟩ ⟨[0], I, by decide⟩ ?_
 rintro f K s ob ⟨rfl, rfl⟩ h B
 refine Aa fun M D => sN ?_
 obtain ⟨a, ⟨i, c⟩, h⟩ := A5 h
 refine sH (Ag 3 I (sT (Du (m := a.1) I I I I I I i (Ej c)) I (sV (C2 0 0 (0 + a.1) I I I I (by omega) (y := .V a.2) (by rw [Nat.zero_add]; exact Ae c)) I (Ag 2 I (sI (Ar h I ?_ ?_))))))
 intro E h
 refine sL ?_
 subst D
 refine sM (sN ?_)
 obtain ⟨g, ⟨F, t⟩, h⟩ := A5 h
 refine By (sl 13 0 (.drop 13 .nil)) [0] [_] I (Bg 6 I (sY I (Du (m := a.1) I I I I I I i (Ej c)) I (AP.o I (C2 0 0 (0 + a.1) I I I I (by omega) (y := .V a.2) (by rw [Nat.zero_add]; exact Ae c)) I (Bg 1 I (sY I (Du (m := g.1) I I I I I I F (Ej t)) I (AP.o I (C2 0 0 (0 + g.1) I I I I (by omega) (y := .V g.2) (by rw [Nat.zero_add]; exact Ae t)) I (Bg 1 I (sY I (Du (m := a.1) I I I I I I i (Ej c)) I (tB [0] I I I (sZ 0 0 (0 + a.1) (es' := [(f.1.set a.1 g.2).l.map cI]) I I I I (by omega) I I I (Lq (Ej c) (by simp [Arr.h, Bj])) I (congrArg (fun r => [r]) (by rw [Nat.zero_add]; exact Rg (Kl c))) (Ap (sI ?_))))))))))))
 obtain ⟨j, ⟨G, u⟩, h⟩ := A5 h
 refine sH (Ag 3 I (sT (Du (m := j.1) I I I I I I G (Ej u)) I (sV (C2 0 0 (0 + j.1) I I I I (by omega) (y := .V j.2) (by rw [Nat.zero_add]; exact Ae u)) I (Ag 1 I ?_))))
 obtain rfl := oi h
 exact sI ⟨_, _, _, I, I2, J2, [0], I, by decide⟩
 intro E h
 obtain rfl := B _ (oi h).symm
 replace h := A
 refine sQ ?_
 exact lg ⟨(f.1, f.2), h, I2⟩ [0]
 rintro s ob ⟨e, h, rfl, rfl⟩
 refine Ah I ?_
 obtain rfl := oi h
 exact sO ⟨.inr I, [_], [O9 b [e.1.l.map cI]], J1, Cy I (Cm), ⟨[O9 b [e.1.l.map cI]], [], I5⟩⟩
theorem fN (a : Nat) (e : Arr Int 24) (f : Int) (g : Int) (r : Arr Int 24) (h : Vk e f g = some r) : ACalls Aj 117 [.v (.pointer (some ⟨a, 0, none⟩)), .V f, .V g] [O9 a [e.l.map cI]] (D6 1 fun x os new => x = .tup [] ∧ os = [O9 a [r.l.map cI]] ∧ new = []) := by
 refine Ad Tryz.func117 I I I fun C hC => ?_
 obtain ⟨n, i, h⟩ := Ac h
 obtain ⟨b, j, h⟩ := Ac h
 obtain ⟨c, ⟨k, d⟩, h⟩ := A5 h
 refine By (sl 3 0 (.still 4 (.still 5 (.still 7 (.act 3 (.act 6 (.act 8 (.act 9 .nil)))))))) [] [] I (Bg 6 I (sK [0] I I I (A1 [0] (Od a _ _ _ i) ?_)))
 refine sK [0] I I I (A1 [0] (Od a _ _ _ j) ?_)
 refine sK [] I I I (Ce (Yp.yd (Du (m := c.1) I I I I I I k (Ej d))) dS (sK [0] I I I (sZ 0 0 (0 + c.1) (es' := [(b.2.set c.1 b.1).l.map cI]) I I I I (by omega) I I I (Lq (Ej d) (by simp [Arr.h, Bj])) I (congrArg (fun r => [r]) (by rw [Nat.zero_add]; exact Rg (Kl d))) (Ap ?_))))
 obtain rfl := oi h
 exact sI ⟨.inl I, [], [O9 a [(b.2.set c.1 b.1).l.map cI]], J, Cy I (Cm), ⟨[O9 a [(b.2.set c.1 b.1).l.map cI]], [], I5⟩⟩
theorem Ud (e : Int) (f : Plan) (g : Plan) (r : Bool) (h : Nk e f g = some r) : ACalls Aj 115 [.V e, .eptr (Am f), .eptr (Am g)] [] (fun x new => x = .v (.bool r) ∧ new = []) := by
 refine Ad Tryz.func115 I I I fun C hC => ?_
 unfold Nk at h
 refine Ah I (Ai (fun s ob => ∃ (b : Bool), Nk.J1 b = some r ∧ s = [(4, .v (.bool b))] ∧ ob = []) [] J ?_ ?_)
 obtain ⟨c, ⟨i, j⟩, h⟩ := A5 h
 refine sH (An 7 [.x 3 c.1 (rI c.2)] I ⟨⟨i, Ae j⟩, J⟩ ?_)
 rcases bt ((c.2 != 0)) with a | a
 replace h := Bq a h
 refine Af 11 I a (Ag 8 I (sI ?_))
 exact lg ⟨true, h, I2⟩ []
 replace h := Br a h
 obtain ⟨d, ⟨k, l⟩, h⟩ := A5 h
 refine Af 11 I a (An 8 [.x 3 d.1 (rI d.2)] I ⟨⟨k, Ae l⟩, J⟩ (sI ?_))
 exact lg ⟨(d.2 != 0), h, I2⟩ []
 rintro s ob ⟨b, h, rfl, rfl⟩
 obtain rfl := oi h
 exact sO pr
theorem Tj (b : Nw) (c : Plan) (e : Plan) (r : List Li) (h : Pp b c e = some r) : ACalls Aj 71 [.agg (Ab b), .agg (Am c), .agg (Am e)] [] (fun x new => x = .list 1 (r.map (rL 1 rI)) ∧ new = []) := by
 refine Ad Tryz.func71 I I I fun C hC => ?_
 refine Aa fun y1 ag => sH (sJ [] I (Bo (Ab b) 6 fun R => sJ [] I (Bo (Am c) 3 fun n => sJ [] I (Bo (Am e) 3 fun t => Ag 1 I (sI ?_)))))
 subst ag
 refine Aa fun y5 ah => sH (sT (tD I I) I (Ag 1 I (sI ?_)))
 subst ah
 refine Aa fun y6 ai => ?_
 obtain ⟨r7, aj, h⟩ := Ac h
 refine sH (sJ [] I (Ci I I I (fZ  _ aj) dS ?_))
 rintro _ _ ⟨f, rfl, rfl⟩
 refine Ag 1 I (sI ?_)
 subst ai
 refine Ai (fun s ob => ∃ (S : Arr Int 24), Pp.J1 b c e S = some r ∧ s = [] ∧ ob = [O0 R [Ab b], O1 n [Am c], O1 t [Am e], O9 f [S.l.map cI]]) [(3, _), (7, _), (8, _)] J3 ?_ ?_
 refine Bh [.o 1 0, .l 2 (b.Segments.length : Int)] I ⟨Ay, I, J⟩ (sM (Bz 20 I fun ak => ?_))
 obtain ⟨bu, al, am⟩ := Ac h
 clear h
 refine Ct al [(3, _), (7, _), (8, _), (20, _), (21, _)] J5 (fun (F : Nat) (A : Arr Int 24) s ob => s = [(22, .V (F : Int))] ∧ ob = [O0 R [Ab b], O1 n [Am c], O1 t [Am e], O9 f [A.l.map cI]]) ⟨I, I⟩ ⟨I, J⟩ ⟨[0, 1, 2, 3], I, by decide⟩ ?_ ?_
 rintro F Z A an s ob ao aa ⟨rfl, rfl⟩ h
 unfold Pp.B6 at h
 have aq := Cn aa
 refine Ah I (Aa fun bv ar => Bs I aq (sL ?_))
 subst ar
 refine Ai (fun s ob => ∃ (U : Arr Int 24), Pp.J7 U = some an ∧ s = [] ∧ ob = [O0 R [Ab b], O1 n [Am c], O1 t [Am e], O9 f [U.l.map cI]]) [(3, _), (7, _), (8, _), (20, _), (21, _), (22, _)] J6 ?_ ?_
 refine sM (Aa fun bw au => sH (An 3 [.x 1 F (Ak Z)] I ⟨⟨I, Ae ao⟩, J⟩ (sJ [] I (sS W2 7 fun bx => Ag 1 I (sJ [4] I (A3 4 0 0 [Ak Z] I (sI ?_)))))))
 subst au
 refine sN ?_
 obtain ⟨bz, av, h⟩ := Ac h
 refine sH (Ag 2 I (sJ [] I (Cl I (.fn (.rest _) (.cons (.box 1 I (.rest _)) (.cons (.box 2 I (.rest _)) (.rest _)))) I I (.rest _) I (Ud _ _ _ _ av) dS (by rintro _ _ ⟨rfl, _⟩; rfl) ?_)))
 rintro _ ⟨_, rfl, -⟩
 refine sI (Ar h I ?_ ?_)
 intro aw h
 obtain ⟨ax, ay, h⟩ := Ac h
 refine sH (An 5 [.o 2 4, .o 4 4] I J2 (sJ [3] I (A1 [3] (fN f _ _ _ _ ay) ?_)))
 exact sI (lg ⟨ax, h, I2⟩ [0, 1, 2, 3])
 intro aw h
 refine sL ?_
 exact lg ⟨A, h, I2⟩ [0, 1, 2, 3]
 rintro s ob ⟨U, h, rfl, rfl⟩
 refine sH (An 2 [.k 0 (F + 1 : Nat)] I ⟨A0 aa ak, J⟩ ?_)
 obtain rfl := oi h
 exact sI (lg I2 [0, 1, 2, 3])
 rintro A s ob ⟨rfl, rfl⟩ he
 subst he
 have h := am
 have az := Co b.Segments.length
 refine Ah I (Aa fun b0 b1 => Bu I az (sQ ?_))
 exact lg ⟨A, h, I2⟩ [0, 1, 2, 3]
 rintro s ob ⟨S, h, rfl, rfl⟩
 unfold Pp.J1 at h
 refine Ah I (Ah I (Ai (fun s ob => ∃ (B : List Li) (G : Value) (W : List Value), Pp.J2 B = some r ∧ s = [(11, .v G)] ∧ ob = [.uss G 22 3 1 W (B.map fun x => some (x.map rI))]) [] J ?_ ?_))
 refine Bh [.o 1 0, .l 2 (b.Segments.length : Int)] I ⟨Ay, I, J⟩ (sM (Bz 38 I fun a0 => sP (Wr 22 3 1) (sP (Bv 3 1) ?_)))
 obtain ⟨b5, a1, a2⟩ := Ac h
 clear h
 refine Ct a1 [(7, _), (8, _), (38, _), (39, _)] J4 (fun (u : Nat) (a : (Arr Int 24) × (List Li) × Li) s ob => ∃ (g : Value) (w : List Value) (y : Value), s = [(40, .V (u : Int)), (11, .v g), (12, .v y)] ∧ ob = [O1 n [Am c], O1 t [Am e], O9 f [a.1.l.map cI], .uss g 22 3 1 w (a.2.1.map fun x => some (x.map rI)), U0 y a.2.2]) ⟨(.slice none 0 0), [], (.slice none 0 0), I2⟩ ⟨I, I, I, J⟩ ⟨[1, 2, 3, 4, 5], I, by decide⟩ ?_ ?_
 rintro u ab a ac s ob a3 ad ⟨g, w, y, rfl, rfl⟩ h
 unfold Pp.B3 at h
 have a4 := Cn ad
 refine Ah I (Aa fun b6 a5 => Bs I a4 (sL ?_))
 subst a5
 refine Ai (fun s ob => ∃ (D : (Arr Int 24) × (List Li) × Li) (H : Value) (X : List Value) (M : Value), Pp.J4 D = some ac ∧ s = [(11, .v H), (12, .v M)] ∧ ob = [O1 n [Am c], O1 t [Am e], O9 f [D.1.l.map cI], .uss H 22 3 1 X (D.2.1.map fun x => some (x.map rI)), U0 M D.2.2]) [(7, _), (8, _), (38, _), (39, _), (40, _)] J5 ?_ ?_
 refine sM (Aa fun b7 a6 => sH (An 3 [.x 1 u (Ak ab)] I ⟨⟨I, Ae a3⟩, J⟩ (sJ [] I (sS W2 7 fun b8 => Ag 1 I (sJ [5] I (A3 5 0 0 [Ak ab] I (sI ?_)))))))
 subst a6
 refine Aa fun ca a7 => sN ?_
 obtain ⟨cb, a8, h⟩ := Ac h
 refine sH (Ag 2 I (sJ [] I (Cl I (.fn (.rest _) (.cons (.box 0 I (.rest _)) (.cons (.box 1 I (.rest _)) (.rest _)))) I I (.rest _) I (Ud _ _ _ _ a8) dS (by rintro _ _ ⟨rfl, _⟩; rfl) ?_)))
 rintro _ ⟨_, rfl, -⟩
 refine Ag 1 I (sI (Ar h I ?_ ?_))
 intro a9 h
 refine sQ ?_
 exact lg ⟨(a.1, a.2.1, a.2.2), g, w, y, h, I2⟩ [0, 1, 2, 3, 4]
 intro a9 h
 refine sL ?_
 subst a7
 refine Aa fun cc ba => ?_
 obtain ⟨O, bb, h⟩ := Ac h
 refine sH (An 3 [.o 2 5] I J1 (sJ [2] I (A1 [2] (Od f _ _ _ bb) ?_)))
 refine Ag 1 I (sI ?_)
 subst ba
 refine Aa fun cd bc => ?_
 obtain ⟨bd, be, h⟩ := Ac h
 refine sH (Ag 2 I (sJ [] I (Cl I (.refl _) I I (.cons (.us 4 I) (.rest _)) I (fG _ _ _ be) dS (by rintro _ _ ⟨rfl, _⟩; rfl) ?_)))
 rintro _ ⟨_, rfl, -⟩
 refine Ag 1 I (sI ?_)
 subst bc
 refine Ai (fun s ob => ∃ (i : (List Li) × Li × Int) (P : Value) (Y : List Value) (Q : Value), Pp.J5 u O i = some ac ∧ s = [(11, .v P), (12, .v Q), (16, .V i.2.2)] ∧ ob = [O1 n [Am c], O1 t [Am e], O9 f [O.2.l.map cI], .uss P 22 3 1 Y (i.1.map fun x => some (x.map rI)), U0 Q i.2.1]) [(7, _), (8, _), (13, _), (38, _), (39, _), (40, _)] J6 ?_ ?_
 refine Ah I (Ar h I ?_ ?_)
 intro bf h
 obtain ⟨bg, bh, h⟩ := Ac h
 obtain ⟨bi, ae, h⟩ := Ac h
 refine sH (Ag 1 I (sV (Cz 4 I I I I) I (Ag 2 I (sJ [] I (sR 1 (([O.1] : Li).map rI) (sJ [4] I (C7 4 I bh fun bj => Ag 1 I (sJ [] I (sX (sz := 1) (es := [[.N]]) I I I I I I I I I I I dS fun ce => sJ [3] I (Ws 3 I I I I I I I I I (Sa 6 I I) (kE (Gv ae).1) (oP (Gv ae).2) dS fun bk bl => Ag 3 I (sI ?_)))))))))))
 exact lg ⟨(bi, bg, (a.2.2.length : Int)), bk, bl, bj, h, I2⟩ [0, 1, 2, 3, 4]
 intro bf h
 refine sL ?_
 exact lg ⟨(a.2.1, a.2.2, bd), g, w, y, h, I2⟩ [0, 1, 2, 3, 4]
 rintro s ob ⟨i, P, Y, Q, h, rfl, rfl⟩
 obtain ⟨j, ⟨af, E⟩, h⟩ := A5 h
 obtain ⟨bm, bn, h⟩ := Ac h
 refine sH (Ag 4 I (sV (Oy 3 (m := j.1) I I I I I I I af (iZ E)) I (sV (Zu 3 (m := j.1) I I I I (iZ E)) I (AO.ghost (Ghost.take 3 j.1 I (Ae E)) (Ag 1 I (sJ [] I (sR 1 (([(u : Int)] : Li).map rI) (sJ [5] I (C7 5 I bn fun bo => sV (Oy 3 (m := j.1) I I I I I I I af (nI E)) I (sJ [3, 5] I (Yn 3 5 j.1 I I I I (kM E) I I I (Sk _ _ _ _) (sI ?_))))))))))))
 exact lg ⟨(O.2, (i.1.set j.1 bm), i.2.1), P, (Y.set j.1 bo), Q, h, I2⟩ [0, 1, 2, 3, 4]
 rintro s ob ⟨D, H, X, M, h, rfl, rfl⟩
 refine sH (An 2 [.k 0 (u + 1 : Nat)] I ⟨A0 ad a0, J⟩ ?_)
 obtain rfl := oi h
 exact sI (lg ⟨H, X, M, I2⟩ [0, 1, 2, 3, 4])
 rintro a s ob ⟨g, w, y, rfl, rfl⟩ he
 subst he
 have h := a2
 have bp := Co b.Segments.length
 refine Ah I (Aa fun cf cg => Bu I bp (sQ ?_))
 exact lg ⟨a.2.1, g, w, h, I2⟩ [3]
 rintro s ob ⟨B, G, W, h, rfl, rfl⟩
 refine Ah I (sP (Bk [0] (K := [.uss G 22 3 1 W (B.map fun x => some (x.map rI))]) I [(6, .list 1 (B.map (rL 1 rI)))] ⟨⟨_, I, dM 0 I⟩, J⟩ (ob' := []) (.rest _)) ?_)
 obtain rfl := oi h
 exact sO pr
theorem Uf (a : Nw) (b : Plan) (d : Plan) (r : Int) (h : Zb a b d = some r) : ACalls Aj 70 [.agg (Ab a), .agg (Am b), .agg (Am d)] [] (fun x new => x = .V r ∧ new = []) := by
 refine Ad Tryz.func70 I I I fun C hC => ?_
 refine Aa fun j e => sH (sJ [] I (Bo (Ab a) 6 fun k => sJ [] I (Bo (Am b) 3 fun l => sJ [] I (Bo (Am d) 3 fun n => Ag 1 I (sI ?_)))))
 subst e
 refine sN (sN ?_)
 obtain ⟨p, f, h⟩ := Ac h
 refine sH (An 2 [.o 0 0, .o 1 1] I J2 (Cc (Jx _ _ _ f) (Ag 1 I (sI (Ah I (Ar h I ?_ ?_))))))
 intro g h
 refine Ah I (sP g0 ?_)
 obtain rfl := oi h
 exact sO pr
 intro g h
 refine sL (sN ?_)
 obtain ⟨s, i, h⟩ := Ac h
 refine sH (An 2 [.o 0 0, .o 1 2] I J2 (Cc (Jx _ _ _ i) (Ag 1 I (sI (sP g0 ?_)))))
 obtain rfl := oi h
 exact sO pr
theorem dX (a : Nw) (b : Plan) (d : Plan) (r : (List Li) × Int) (h : jN a b d = some r) : ACalls Aj 34 [.agg (Ab a), .agg (Am b), .agg (Am d)] [] (fun x new => x = .tup [.list 1 (r.1.map (rL 1 rI)), .V r.2] ∧ new = []) := by
 refine Ad Tryz.func34 I I I fun C hC => ?_
 refine Aa fun n e => sH (sJ [] I (Bo (Ab a) 6 fun f => sJ [] I (Bo (Am b) 3 fun g => sJ [] I (Bo (Am d) 3 fun i => Ag 2 I (sI ?_)))))
 subst e
 refine sN (sN ?_)
 obtain ⟨p, j, h⟩ := Ac h
 refine sH (An 3 [.o 0 0, .o 1 1, .o 2 2] I J3 (Cc (Uf _ _ _ _ j) (Ag 1 I (sI (Ah I (Ar h I ?_ ?_))))))
 intro k h
 refine Ah I (sP (Bk [] (K := []) I [(6, .list 1 ([].map (rL 1 rI)))] ⟨⟨_, I, .nil _⟩, J⟩ (ob' := [O0 f [Ab a], O1 g [Am b], O1 i [Am d]]) (.rest _)) (sP g0 ?_))
 obtain rfl := oi h
 exact sO ⟨.inr I, [_, _], [], J2, Cm, I2⟩
 intro k h
 refine sL (sN ?_)
 obtain ⟨s, l, h⟩ := Ac h
 refine sH (An 3 [.o 0 0, .o 1 1, .o 2 2] I J3 (sJ [] I (Ci I I I (Tj _ _ _ _ l) dS ?_)))
 rintro _ _ ⟨rfl, rfl⟩
 refine Ag 2 I (sI (sP g0 ?_))
 obtain rfl := oi h
 exact sO ⟨.inr I, [_, _], [], J2, Cm, I2⟩
theorem Ty (a : Nw) (b : Plan) (c : Plan) (r : Li) (h : Ir a b c = some r) : ACalls Aj 58 [.agg (Ab a), .agg (Am b), .agg (Am c)] [] (fun x new => ∃ (F : Value), x = .v F ∧ new = [U0 F r]) := by
 refine Ad Tryz.func58 I I I fun C hC => ?_
 refine Aa fun y1 U => sH (sJ [] I (Bo (Ab a) 6 fun j => sJ [] I (Bo (Am b) 3 fun n => sJ [] I (Bo (Am c) 3 fun p => Ag 1 I (sI ?_)))))
 subst U
 refine Aa fun y5 W => ?_
 obtain ⟨l6, ⟨m8, X, Y, Z⟩, h⟩ := Gm h
 refine sH (An 3 [.o 1 0, .l 2 (a.Segments.length : Int)] I ⟨Ay, I, J⟩ (sJ [] I (Bp (sz := 1) I I I I I I I I I I X Y (Cr (f := rI) Z I) dS fun e => Ag 1 I (sI ?_))))
 subst W
 refine Ai (fun s ob => ∃ (t : Li), Ir.J1 t = some r ∧ s = [] ∧ ob = [U0 e t]) [(7, _)] J1 ?_ ?_
 refine Aa fun bd aa => ?_
 obtain ⟨G, ab, h⟩ := Ac h
 refine sH (An 3 [.o 0 0, .o 1 1, .o 2 2] I J3 (sJ [] I (Ci I I I (Tj _ _ _ _ ab) dS ?_)))
 rintro _ _ ⟨rfl, rfl⟩
 refine An 2 [.l 0 (G.length : Int)] I ⟨Ay, J⟩ (sI ?_)
 subst aa
 refine sM (Bz 23 I fun ac => ?_)
 obtain ⟨be, ad, ae⟩ := Ac h
 clear h
 refine Ct ad [(3, _), (4, _), (5, _), (7, _), (23, _), (24, _)] J6 (fun (u : Nat) (g : Li) s ob => s = [(25, .V (u : Int))] ∧ ob = [O0 j [Ab a], O1 n [Am b], O1 p [Am c], U0 e g]) ⟨I, I⟩ ⟨I, J⟩ ⟨[0, 1, 2, 3], I, by decide⟩ ?_ ?_
 rintro u i g H s ob af K ⟨rfl, rfl⟩ h
 unfold Ir.B2 at h
 have ag := Cn K
 refine Ah I (Aa fun bf ah => Bs I ag (sL ?_))
 subst ah
 refine Ai (fun s ob => ∃ (E : Li), Ir.J3 E = some H ∧ s = [] ∧ ob = [O0 j [Ab a], O1 n [Am b], O1 p [Am c], U0 e E]) [(3, _), (4, _), (5, _), (7, _), (23, _), (24, _), (25, _)] J7 ?_ ?_
 refine sM (Bh [.x 0 u ((rL 1 rI) i)] I ⟨⟨I, Ae af⟩, J⟩ (Ah I (Ai (fun s ob => ∃ (w : Int), Ir.J4 i g w = some H ∧ s = [(10, .V w)] ∧ ob = [O0 j [Ab a], O1 n [Am b], O1 p [Am c], U0 e g]) [(3, _), (4, _), (5, _), (7, _), (9, _), (23, _), (24, _), (25, _)] J8 ?_ ?_)))
 refine Bh [.l 1 (i.length : Int)] I ⟨Ay, J⟩ (sM (Bz 29 I fun ai => ?_))
 obtain ⟨bg, aj, ak⟩ := Ac h
 clear h
 refine Ct aj [(3, _), (4, _), (5, _), (7, _), (9, _), (23, _), (24, _), (25, _), (29, _), (30, _)] iR (fun (y : Nat) (A : Int) s ob => s = [(31, .V (y : Int)), (10, .V A)] ∧ ob = [O0 j [Ab a], O1 n [Am b], O1 p [Am c], U0 e g]) ⟨I, I⟩ ⟨I, I, J⟩ ⟨[0, 1, 2, 3], I, by decide⟩ ?_ ?_
 rintro y al A bh s ob am M ⟨rfl, rfl⟩ h
 have an := Cn M
 refine Ah I (Aa fun bi ao => Bs I an (sL ?_))
 subst ao
 refine sN (sM (Bh [.x 0 y (rI al)] I ⟨⟨I, Ae am⟩, J⟩ (Aa fun bj ap => ?_)))
 obtain ⟨N, ⟨aq, ar⟩, h⟩ := A5 h
 obtain ⟨O, ⟨au, av⟩, h⟩ := A5 h
 refine Il (pd 12 0 []) [2, 1] [_, _] [.o 1 0, .x 3 N.1 (rI N.2), .o 6 1, .x 8 O.1 (rI O.2)] I I ⟨⟨au, Ae av⟩, I, ⟨aq, Ae ar⟩, I, J⟩ ?_
 subst ap
 obtain ⟨P, ⟨aw, ax⟩, h⟩ := A5 h
 refine Ey [.o 2 0, .x 4 P.1 (Ak P.2)] I ⟨⟨aw, Ae ax⟩, I, J⟩ (sH (An 2 [.k 0 (y + 1 : Nat)] I ⟨A0 M ai, J⟩ ?_))
 obtain rfl := oi h
 exact sI (lg I2 [0, 1, 2, 3])
 rintro A s ob ⟨rfl, rfl⟩ he
 subst he
 have h := ak
 have ay := Co i.length
 refine Ah I (Aa fun bk bl => Bu I ay (sQ ?_))
 exact lg ⟨A, h, I2⟩ [0, 1, 2, 3]
 rintro s ob ⟨w, h, rfl, rfl⟩
 refine Bh [.l 1 (i.length : Int)] I ⟨Ay, J⟩ (sM (Bz 60 I fun az => ?_))
 obtain ⟨bm, a0, a1⟩ := Ac h
 clear h
 refine Ct a0 [(3, _), (4, _), (5, _), (7, _), (10, _), (23, _), (24, _), (25, _), (60, _), (61, _)] iR (fun (B : Nat) (D : Li) s ob => s = [(62, .V (B : Int))] ∧ ob = [O0 j [Ab a], O1 n [Am b], O1 p [Am c], U0 e D]) ⟨I, I⟩ ⟨I, J⟩ ⟨[0, 1, 2, 3], I, by decide⟩ ?_ ?_
 rintro B a2 D bn s ob a3 Q ⟨rfl, rfl⟩ h
 have a4 := Cn Q
 refine Ah I (Aa fun bo a5 => Bs I a4 (sL ?_))
 subst a5
 refine sN (sM (Bh [.x 0 B (rI a2)] I ⟨⟨I, Ae a3⟩, J⟩ ?_))
 obtain ⟨R, ⟨a6, S⟩, h⟩ := A5 h
 refine sH (Ag 3 I (sV (Bm 3 (m := R.1) I I I I I I I a6 (Ae S)) I (sJ [3] I (Cg 3 R.1 0 I I I (Ae S) I I I I (Ca I) I (Df (x := w) I) (sI (sH (An 2 [.k 0 (B + 1 : Nat)] I ⟨A0 Q az, J⟩ ?_)))))))
 obtain rfl := oi h
 exact sI (lg I2 [0, 1, 2, 3])
 rintro D s ob ⟨rfl, rfl⟩ he
 subst he
 have h := a1
 have a7 := Co i.length
 refine Ah I (Aa fun bp bq => Bu I a7 (sQ ?_))
 exact lg ⟨D, h, I2⟩ [0, 1, 2, 3]
 rintro s ob ⟨E, h, rfl, rfl⟩
 refine sH (An 2 [.k 0 (u + 1 : Nat)] I ⟨A0 K ac, J⟩ ?_)
 obtain rfl := oi h
 exact sI (lg I2 [0, 1, 2, 3])
 rintro g s ob ⟨rfl, rfl⟩ he
 subst he
 have h := ae
 have a8 := Co G.length
 refine Ah I (Aa fun br bs => Bu I a8 (sQ ?_))
 exact lg ⟨g, h, I2⟩ [3]
 rintro s ob ⟨t, h, rfl, rfl⟩
 refine Ah I ?_
 obtain rfl := oi h
 exact sO ⟨.inr I, [_], [U0 e t], J1, Cy I (Cm), ⟨e, I2⟩⟩
theorem fF (a : Nw) (b : Plan) (d : Plan) (r : Li × Int) (h : jO a b d = some r) : ACalls Aj 31 [.agg (Ab a), .agg (Am b), .agg (Am d)] [] (fun x new => ∃ (e : Value), x = .tup [.v e, .V r.2] ∧ new = [U0 e r.1]) := by
 refine Ad Tryz.func31 I I I fun C hC => ?_
 refine Aa fun n g => sH (sJ [] I (Bo (Ab a) 6 fun p => sJ [] I (Bo (Am b) 3 fun s => sJ [] I (Bo (Am d) 3 fun t => Ag 2 I (sI ?_)))))
 subst g
 refine sN (sN ?_)
 obtain ⟨u, i, h⟩ := Ac h
 refine sH (An 3 [.o 0 0, .o 1 1, .o 2 2] I J3 (Cc (Uf _ _ _ _ i) (Ag 1 I (sI (Ah I (Ar h I ?_ ?_))))))
 intro j h
 refine Ah I (sP (Bv 3 1) (Cu [3] I ?_))
 obtain rfl := oi h
 exact sO ⟨.inr I, [_, _], [.us (.slice none 0 0) 3 1 ([].map rI)], J2, Cy I (Cm), ⟨(.slice none 0 0), I2⟩⟩
 intro j h
 refine sL (sN ?_)
 obtain ⟨k, l, h⟩ := Ac h
 refine sH (An 3 [.o 0 0, .o 1 1, .o 2 2] I J3 (sJ [] I (Ci I I I (Ty _ _ _ _ l) dS ?_)))
 rintro _ _ ⟨f, rfl, rfl⟩
 refine Ag 2 I (sI (Cu [3] I ?_))
 obtain rfl := oi h
 exact sO ⟨.inr I, [_, _], [U0 f k], J2, Cy I (Cm), ⟨f, I2⟩⟩
end Go.Proofs.YtodeekicjiengaaGreatDoor
