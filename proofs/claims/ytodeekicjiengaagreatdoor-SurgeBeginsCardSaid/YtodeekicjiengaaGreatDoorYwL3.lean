/- Walks that show what functions of the program compute; printed by a program of ours. No condition. -/
import Derived.Test.YtodeekicjiengaaGreatDoorYwL0
import Derived.Test.YtodeekicjiengaaGreatDoorYwD
import Derived.Test.YtodeekicjiengaaGreatDoorYwL2
set_option maxRecDepth 100000
namespace Go.Proofs.YtodeekicjiengaaGreatDoor
open Go.Aw
set_option linter.unusedVariables false
set_option linter.unusedSimpArgs false
set_option maxHeartbeats 4000000
abbrev bE : PL := .still 15 (.act 16 (.act 17 (.still 18 (.drop 19 .nil))))
abbrev qY : PL := .act 7 (.still 8 (.act 11 (sl 3 12 (.act 15 (.act 16 (.still 17 (.drop 18 .nil)))))))
abbrev kB : PL := .act 17 (.still 18 .nil)
theorem Ju (a : Li) (c : Li) (r : Bool) (h : Zw a c = some r) : ACalls Aj 35 [Q0 a, Q0 c] [] (RB r) := by
 refine Ae Tryz.func35 I I I fun C hC => ?_
 refine Ah I (Aa fun E j => Bh [.l 1 (a.length : Int), .l 3 (c.length : Int)] I ⟨Ax, Ax, J⟩ (Ar h I ?_ ?_))
 intro m h
 refine Ah I ?_
 cases io h
 exact uC pr
 intro m h
 refine tZ ?_
 subst j
 refine Ai (fun s ob => ∃ (d : Unit), Zw.J1 d = some r ∧ s = [] ∧ ob = []) [] J ?_ ?_
 refine Bh [.l 1 (a.length : Int)] I ⟨Ax, J⟩ (uA (B0 11 I fun n => ?_))
 obtain ⟨F, o, e⟩ := Ac h
 refine Bx o [(0, _), (1, _), (12, _)] J3 (fun (b : Nat) (f : Unit) s ob => s = [(13, .V (b : Int))] ∧ ob = []) ⟨I, I⟩ ⟨I, J⟩ ⟨[], I, by decide⟩ ?_ ?_
 rintro b p f G s ob q g ⟨rfl, rfl⟩ h t
 have u := Co g
 refine Ah I (Aa fun H w => Bp I u (tZ ?_))
 subst w
 refine uB (uA (Ah I (uB ?_)))
 obtain ⟨i, ⟨y, A⟩, h⟩ := A6 h
 refine In (pd 9 0 []) [] [] [.x 2 b (rI p), .x 6 i.1 (rI i.2)] I I ⟨⟨y, Ag A⟩, ⟨I, Ag q⟩, J⟩ (Ar h I ?_ ?_)
 intro B h
 refine Ah I ?_
 obtain rfl := t _ (oi h).symm
 have h := e
 have h := C2 h
 cases io h
 exact uC pr
 intro B h
 refine tZ (tV (An 2 [.k 0 (b + 1 : Nat)] I ⟨A0 g n, J⟩ ?_))
 cases io h
 exact tW ⟨_, _, _, I, I2, J4, [], I, by decide⟩
 rintro f s ob ⟨rfl, rfl⟩ he
 subst he
 have h := C8 e
 have D := Cp a.length
 exact Ah I (Aa fun K M => Br I D (uE (lg ⟨(), h, I2⟩ [])))
 rintro s ob ⟨d, h, rfl, rfl⟩
 unfold Zw.J1 at h
 refine Ah I ?_
 cases io h
 exact uC pr
theorem iR (a : List Li) (d : List Li) (r : Bool) (h : lC a d = some r) : ACalls Aj 36 [.list 1 (a.map (rL 1 rI)), .list 1 (d.map (rL 1 rI))] [] (RB r) := by
 refine Ae Tryz.func36 I I I fun C hC => ?_
 refine Ah I (Aa fun H m => Bh [.l 1 (a.length : Int), .l 3 (d.length : Int)] I ⟨Ax, Ax, J⟩ (Ar h I ?_ ?_))
 intro n h
 refine Ah I ?_
 cases io h
 exact uC pr
 intro n h
 refine tZ ?_
 subst m
 refine Ai (fun s ob => ∃ (e : Unit), lC.J1 e = some r ∧ s = [] ∧ ob = []) [] J ?_ ?_
 refine Bh [.l 1 (a.length : Int)] I ⟨Ax, J⟩ (uA (B0 11 I fun o => ?_))
 obtain ⟨K, p, f⟩ := Ac h
 refine Bx p [(0, _), (1, _), (12, _)] J3 (fun (b : Nat) (g : Unit) s ob => s = [(13, .V (b : Int))] ∧ ob = []) ⟨I, I⟩ ⟨I, J⟩ ⟨[], I, by decide⟩ ?_ ?_
 rintro b t g M s ob u i ⟨rfl, rfl⟩ h w
 have y := Co i
 refine Ah I (Aa fun N A => Bp I y (tZ ?_))
 subst A
 refine uB (uA (Ah I (uB ?_)))
 obtain ⟨j, ⟨B, D⟩, h⟩ := A6 h
 obtain ⟨O, E, h⟩ := Ac h
 refine Bz (pd 10 0 [8]) [] [] I (Ca 8 [.x 2 b ((rL 1 rI) t), .x 6 j.1 ((rL 1 rI) j.2)] I ⟨⟨B, Ag D⟩, ⟨I, Ag u⟩, J⟩ (Dq I (Ju _ _ _ E) (Bf 1 I (Ap (tW (Ar h I ?_ ?_))))))
 intro F h
 refine Ah I ?_
 obtain rfl := w _ (oi h).symm
 have h := f
 have h := C2 h
 cases io h
 exact uC pr
 intro F h
 refine tZ (tV (An 2 [.k 0 (b + 1 : Nat)] I ⟨A0 i o, J⟩ ?_))
 cases io h
 exact tW ⟨_, _, _, I, I2, J4, [], I, by decide⟩
 rintro g s ob ⟨rfl, rfl⟩ he
 subst he
 have h := C8 f
 have G := Cp a.length
 exact Ah I (Aa fun P Q => Br I G (uE (lg ⟨(), h, I2⟩ [])))
 rintro s ob ⟨e, h, rfl, rfl⟩
 unfold lC.J1 at h
 refine Ah I ?_
 cases io h
 exact uC pr
theorem hY  (r : Arr Int 24) (h : Qi = some r) : ACalls Aj 116 [] [] (fun x new => ∃ (g : Nat), x = .v (.pointer (some ⟨g, 0, none⟩)) ∧ new = [O9 g [r.l.map cI]]) := by
 refine Ae Tryz.func116 I I I fun C hC => ?_
 unfold Qi at h
 refine Ah I (Aa fun A i => tV (tX [] I (uF ((Arr.rep 24 (0 : Int)).l.map cI) 24 fun c => tW ?_)))
 subst i
 refine Ai (fun s ob => ∃ (d : Arr Int 24), Qi.J1 d = some r ∧ s = [] ∧ ob = [O9 c [d.l.map cI]]) [(1, _)] J1 ?_ ?_
 refine Ah I (uA ?_)
 have j : (24 : Nat) ≤ 9223372036854775806 := by decide
 obtain ⟨B, n, o⟩ := Ac h
 refine Gv n [(1, _)] J1 (fun (a : Nat) (b : Arr Int 24) s ob => s = [(3, .V (a : Int))] ∧ ob = [O9 c [b.l.map cI]]) ⟨I, I⟩ ⟨I, J⟩ ⟨[0], I, by decide⟩ ?_ ?_
 rintro a b D s ob t ⟨rfl, rfl⟩ h
 have u : decide ((a : Int) < 24) = true := decide_eq_true (by omega)
 refine Ah I (uB (Bp I u (tZ (uB (uA (Ah I ?_))))))
 obtain ⟨e, ⟨w, f⟩, h⟩ := A6 h
 refine tV (Af 2 I (uH (Dv (m := e.1) I I I I I I w (Ep f)) I (tX [0] I (uN 0 0 (0 + e.1) (es' := [(b.set e.1 (a : Int)).l.map cI]) I I I I (by omega) I I I (Lw (Ep f) (by simp [Arr.h, Bk])) I (congrArg (fun r => [r]) (by rw [Nat.zero_add]; exact Ro (Km f))) (tW (tV (An 2 [.k 0 (a + 1 : Nat)] I ⟨A0 t j, J⟩ ?_)))))))
 cases io h
 exact tW (lg I2 [0])
 rintro b s ob ⟨rfl, rfl⟩ he
 subst he
 have h := o
 have y : decide (((24 : Nat) : Int) < 24) = false := by simp
 exact Ah I (uB (Br I y (uE (lg ⟨b, h, I2⟩ [0]))))
 rintro s ob ⟨d, h, rfl, rfl⟩
 refine Ah I ?_
 obtain rfl := oi h
 exact uC ⟨.inr I, [_], [O9 c [d.l.map cI]], J1, Cz I (Cm), ⟨c, I2⟩⟩
theorem Oj (b : Nat) (k : Arr Int 24) (n : Int) (r : Int × (Arr Int 24)) (h : K3 k n = some r) : ACalls Aj 118 [.v (.pointer (some ⟨b, 0, none⟩)), .V n] [O9 b [k.l.map cI]] (Ea 1 fun x os new => x = .V r.1 ∧ os = [O9 b [r.2.l.map cI]] ∧ new = []) := by
 refine Ae Tryz.func118 I I I fun C hC => ?_
 unfold K3 at h
 refine Ah I (Ai (fun s ob => ∃ (e : (Arr Int 24) × Int), K3.J1 e = some r ∧ s = [(1, .V e.2)] ∧ ob = [O9 b [e.1.l.map cI]]) [] J ?_ ?_)
 refine uA ?_
 obtain ⟨H, w, A⟩ := Ac h
 refine Cs w [(0, _)] J1 (fun (f : (Arr Int 24) × Int) s ob => s = [(1, .V f.2)] ∧ ob = [O9 b [f.1.l.map cI]]) ⟨I, I⟩ ⟨I, J⟩ ⟨[0], I, by decide⟩ ?_
 rintro f K s ob ⟨rfl, rfl⟩ h B
 refine Aa fun M D => uB ?_
 obtain ⟨a, ⟨i, c⟩, h⟩ := A6 h
 refine tV (Af 3 I (uH (Dv (m := a.1) I I I I I I i (Ep c)) I (uJ (C4 0 0 (0 + a.1) I I I I (by omega) (y := .V a.2) (by rw [Nat.zero_add]; exact Ag c)) I (Af 2 I (tW (Ar h I ?_ ?_))))))
 intro E h
 refine tZ ?_
 subst D
 refine uA (uB ?_)
 obtain ⟨g, ⟨F, t⟩, h⟩ := A6 h
 refine Bz (sl 13 0 (.drop 13 .nil)) [0] [_] I (Bf 6 I (uM I (Dv (m := a.1) I I I I I I i (Ep c)) I (AP.o I (C4 0 0 (0 + a.1) I I I I (by omega) (y := .V a.2) (by rw [Nat.zero_add]; exact Ag c)) I (Bf 1 I (uM I (Dv (m := g.1) I I I I I I F (Ep t)) I (AP.o I (C4 0 0 (0 + g.1) I I I I (by omega) (y := .V g.2) (by rw [Nat.zero_add]; exact Ag t)) I (Bf 1 I (uM I (Dv (m := a.1) I I I I I I i (Ep c)) I (uP [0] I I I (uN 0 0 (0 + a.1) (es' := [(f.1.set a.1 g.2).l.map cI]) I I I I (by omega) I I I (Lw (Ep c) (by simp [Arr.h, Bk])) I (congrArg (fun r => [r]) (by rw [Nat.zero_add]; exact Ro (Km c))) (Ap (tW ?_))))))))))))
 obtain ⟨j, ⟨G, u⟩, h⟩ := A6 h
 refine tV (Af 3 I (uH (Dv (m := j.1) I I I I I I G (Ep u)) I (uJ (C4 0 0 (0 + j.1) I I I I (by omega) (y := .V j.2) (by rw [Nat.zero_add]; exact Ag u)) I (Af 1 I ?_))))
 cases io h
 exact tW ⟨_, _, _, I, I2, J2, [0], I, by decide⟩
 intro E h
 obtain rfl := B _ (oi h).symm
 have h := A
 exact uE (lg ⟨(f.1, f.2), h, I2⟩ [0])
 rintro s ob ⟨e, h, rfl, rfl⟩
 refine Ah I ?_
 obtain rfl := oi h
 exact uC ⟨.inr I, [_], [O9 b [e.1.l.map cI]], J1, Cz I (Cm), ⟨[O9 b [e.1.l.map cI]], [], I5⟩⟩
theorem gS (a : Nat) (e : Arr Int 24) (f : Int) (g : Int) (r : Arr Int 24) (h : Vx e f g = some r) : ACalls Aj 117 [.v (.pointer (some ⟨a, 0, none⟩)), .V f, .V g] [O9 a [e.l.map cI]] (Ea 1 fun x os new => x = .tup [] ∧ os = [O9 a [r.l.map cI]] ∧ new = []) := by
 refine Ae Tryz.func117 I I I fun C hC => ?_
 obtain ⟨n, i, h⟩ := Ac h
 obtain ⟨b, j, h⟩ := Ac h
 obtain ⟨c, ⟨k, d⟩, h⟩ := A6 h
 refine Bz (sl 3 0 (.still 4 (.still 5 (.still 7 (.act 3 (.act 6 (.act 8 (.act 9 .nil)))))))) [] [] I (Bf 6 I (tY [0] I I I (A1 [0] (Oj a _ _ _ i) ?_)))
 refine tY [0] I I I (A1 [0] (Oj a _ _ _ j) ?_)
 refine tY [] I I I (Ce (Yp.yd (Dv (m := c.1) I I I I I I k (Ep d))) dS (tY [0] I I I (uN 0 0 (0 + c.1) (es' := [(b.2.set c.1 b.1).l.map cI]) I I I I (by omega) I I I (Lw (Ep d) (by simp [Arr.h, Bk])) I (congrArg (fun r => [r]) (by rw [Nat.zero_add]; exact Ro (Km d))) (Ap ?_))))
 cases io h
 exact tW ⟨.inl I, [], [O9 a [(b.2.set c.1 b.1).l.map cI]], J, Cz I (Cm), ⟨[O9 a [(b.2.set c.1 b.1).l.map cI]], [], I5⟩⟩
theorem Uq (e : Int) (f : Plan) (g : Plan) (r : Bool) (h : Nq e f g = some r) : ACalls Aj 115 [.V e, .eptr (Am f), .eptr (Am g)] [] (RB r) := by
 refine Ae Tryz.func115 I I I fun C hC => ?_
 unfold Nq at h
 refine Ah I (Ai (fun s ob => ∃ (b : Bool), Nq.J1 b = some r ∧ s = [(4, .v (.bool b))] ∧ ob = []) [] J ?_ ?_)
 obtain ⟨c, ⟨i, j⟩, h⟩ := A6 h
 refine tV (An 7 [.x 3 c.1 (rI c.2)] I ⟨⟨i, Ag j⟩, J⟩ ?_)
 rcases bt ((c.2 != 0)) with a | a
 have h := Bu a h
 exact Ad 11 I a (Af 8 I (tW (lg ⟨true, h, I2⟩ [])))
 have h := Bv a h
 obtain ⟨d, ⟨k, l⟩, h⟩ := A6 h
 exact Ad 11 I a (An 8 [.x 3 d.1 (rI d.2)] I ⟨⟨k, Ag l⟩, J⟩ (tW (lg ⟨(d.2 != 0), h, I2⟩ [])))
 rintro s ob ⟨b, h, rfl, rfl⟩
 unfold Nq.J1 at h
 cases io h
 exact uC pr
theorem Tx (b : Nw) (c : Plan) (e : Plan) (r : List Li) (h : Px b c e = some r) : ACalls Aj 71 [.agg (Ab b), .agg (Am c), .agg (Am e)] [] (RV (.list 1 (r.map (rL 1 rI)))) := by
 refine Ae Tryz.func71 I I I fun C hC => ?_
 refine Aa fun y1 ag => tV (tX [] I (Bo (Ab b) 6 fun R => tX [] I (Bo (Am c) 3 fun n => tX [] I (Bo (Am e) 3 fun t => Af 1 I (tW ?_)))))
 subst ag
 refine Aa fun y5 ah => tV (uH (uR I I) I (Af 1 I (tW ?_)))
 subst ah
 refine Aa fun y6 ai => ?_
 obtain ⟨r7, aj, h⟩ := Ac h
 refine tV (tX [] I (Ck I I I (hY  _ aj) dS ?_))
 rintro _ _ ⟨f, rfl, rfl⟩
 refine Af 1 I (tW ?_)
 subst ai
 refine Ai (fun s ob => ∃ (S : Arr Int 24), Px.J1 b c e S = some r ∧ s = [] ∧ ob = [O0 R [Ab b], O1 n [Am c], O1 t [Am e], O9 f [S.l.map cI]]) [(3, _), (7, _), (8, _)] J3 ?_ ?_
 refine Bh [.o 1 0, .l 2 (b.Segments.length : Int)] I ⟨Ax, I, J⟩ (uA (B0 20 I fun ak => ?_))
 obtain ⟨bu, al, am⟩ := Ac h
 refine Cu al [(3, _), (7, _), (8, _), (20, _), (21, _)] J5 (fun (F : Nat) (A : Arr Int 24) s ob => s = [(22, .V (F : Int))] ∧ ob = [O0 R [Ab b], O1 n [Am c], O1 t [Am e], O9 f [A.l.map cI]]) ⟨I, I⟩ ⟨I, J⟩ ⟨[0, 1, 2, 3], I, by decide⟩ ?_ ?_
 rintro F Z A an s ob ao aa ⟨rfl, rfl⟩ h
 unfold Px.B6 at h
 have aq := Co aa
 refine Ah I (Aa fun bv ar => Bp I aq (tZ ?_))
 subst ar
 refine Ai (fun s ob => ∃ (U : Arr Int 24), Px.J7 U = some an ∧ s = [] ∧ ob = [O0 R [Ab b], O1 n [Am c], O1 t [Am e], O9 f [U.l.map cI]]) [(3, _), (7, _), (8, _), (20, _), (21, _), (22, _)] J6 ?_ ?_
 refine uA (Aa fun bw au => tV (An 3 [.x 1 F (Ak Z)] I ⟨⟨I, Ag ao⟩, J⟩ (tX [] I (uF W2 7 fun bx => Af 1 I (tX [4] I (A3 4 0 0 [Ak Z] I (tW ?_)))))))
 subst au
 refine uB ?_
 obtain ⟨bz, av, h⟩ := Ac h
 refine tV (Af 2 I (tX [] I (Ch I (.fn (.rest _) (.cons (.box 1 I (.rest _)) (.cons (.box 2 I (.rest _)) (.rest _)))) I I (.rest _) I (Uq _ _ _ _ av) dS (by rintro _ _ ⟨rfl, _⟩; rfl) ?_)))
 rintro _ ⟨_, rfl, -⟩
 refine tW (Ar h I ?_ ?_)
 intro aw h
 obtain ⟨ax, ay, h⟩ := Ac h
 refine tV (An 5 [.o 2 4, .o 4 4] I J2 (tX [3] I (A1 [3] (gS f _ _ _ _ ay) ?_)))
 exact tW (lg ⟨ax, h, I2⟩ [0, 1, 2, 3])
 intro aw h
 exact tZ (lg ⟨A, h, I2⟩ [0, 1, 2, 3])
 rintro s ob ⟨U, h, rfl, rfl⟩
 unfold Px.J7 at h
 refine tV (An 2 [.k 0 (F + 1 : Nat)] I ⟨A0 aa ak, J⟩ ?_)
 cases io h
 exact tW (lg I2 [0, 1, 2, 3])
 rintro A s ob ⟨rfl, rfl⟩ he
 subst he
 have h := am
 have az := Cp b.Segments.length
 exact Ah I (Aa fun b0 b1 => Br I az (uE (lg ⟨A, h, I2⟩ [0, 1, 2, 3])))
 rintro s ob ⟨S, h, rfl, rfl⟩
 unfold Px.J1 at h
 refine Ah I (Ah I (Ai (fun s ob => ∃ (B : List Li) (G : Value) (W : List Value), Px.J2 B = some r ∧ s = [(11, .v G)] ∧ ob = [.uss G 22 3 1 W (B.map fun x => some (x.map rI))]) [] J ?_ ?_))
 refine Bh [.o 1 0, .l 2 (b.Segments.length : Int)] I ⟨Ax, I, J⟩ (uA (B0 38 I fun a0 => uD (Xc 22 3 1) (uD (Bs 3 1) ?_)))
 obtain ⟨b5, a1, a2⟩ := Ac h
 refine Cu a1 [(7, _), (8, _), (38, _), (39, _)] J4 (fun (u : Nat) (a : (Arr Int 24) × (List Li) × Li) s ob => ∃ (g : Value) (w : List Value) (y : Value), s = [(40, .V (u : Int)), (11, .v g), (12, .v y)] ∧ ob = [O1 n [Am c], O1 t [Am e], O9 f [a.1.l.map cI], .uss g 22 3 1 w (a.2.1.map fun x => some (x.map rI)), U0 y a.2.2]) ⟨(.slice none 0 0), [], (.slice none 0 0), I2⟩ ⟨I, I, I, J⟩ ⟨[1, 2, 3, 4, 5], I, by decide⟩ ?_ ?_
 rintro u ab a ac s ob a3 ad ⟨g, w, y, rfl, rfl⟩ h
 unfold Px.B3 at h
 have a4 := Co ad
 refine Ah I (Aa fun b6 a5 => Bp I a4 (tZ ?_))
 subst a5
 refine Ai (fun s ob => ∃ (D : (Arr Int 24) × (List Li) × Li) (H : Value) (X : List Value) (M : Value), Px.J4 D = some ac ∧ s = [(11, .v H), (12, .v M)] ∧ ob = [O1 n [Am c], O1 t [Am e], O9 f [D.1.l.map cI], .uss H 22 3 1 X (D.2.1.map fun x => some (x.map rI)), U0 M D.2.2]) [(7, _), (8, _), (38, _), (39, _), (40, _)] J5 ?_ ?_
 refine uA (Aa fun b7 a6 => tV (An 3 [.x 1 u (Ak ab)] I ⟨⟨I, Ag a3⟩, J⟩ (tX [] I (uF W2 7 fun b8 => Af 1 I (tX [5] I (A3 5 0 0 [Ak ab] I (tW ?_)))))))
 subst a6
 refine Aa fun ca a7 => uB ?_
 obtain ⟨cb, a8, h⟩ := Ac h
 refine tV (Af 2 I (tX [] I (Ch I (.fn (.rest _) (.cons (.box 0 I (.rest _)) (.cons (.box 1 I (.rest _)) (.rest _)))) I I (.rest _) I (Uq _ _ _ _ a8) dS (by rintro _ _ ⟨rfl, _⟩; rfl) ?_)))
 rintro _ ⟨_, rfl, -⟩
 refine Af 1 I (tW (Ar h I ?_ ?_))
 intro a9 h
 exact uE (lg ⟨(a.1, a.2.1, a.2.2), g, w, y, h, I2⟩ [0, 1, 2, 3, 4])
 intro a9 h
 refine tZ ?_
 subst a7
 refine Aa fun cc ba => ?_
 obtain ⟨O, bb, h⟩ := Ac h
 refine tV (An 3 [.o 2 5] I J1 (tX [2] I (A1 [2] (Oj f _ _ _ bb) ?_)))
 refine Af 1 I (tW ?_)
 subst ba
 refine Aa fun cd bc => ?_
 obtain ⟨bd, be, h⟩ := Ac h
 refine tV (Af 2 I (tX [] I (Ch I (.refl _) I I (.cons (.us 4 I) (.rest _)) I (gJ _ _ _ be) dS (by rintro _ _ ⟨rfl, _⟩; rfl) ?_)))
 rintro _ ⟨_, rfl, -⟩
 refine Af 1 I (tW ?_)
 subst bc
 refine Ai (fun s ob => ∃ (i : (List Li) × Li × Int) (P : Value) (Y : List Value) (Q : Value), Px.J5 u O i = some ac ∧ s = [(11, .v P), (12, .v Q), (16, .V i.2.2)] ∧ ob = [O1 n [Am c], O1 t [Am e], O9 f [O.2.l.map cI], .uss P 22 3 1 Y (i.1.map fun x => some (x.map rI)), U0 Q i.2.1]) [(7, _), (8, _), (13, _), (38, _), (39, _), (40, _)] J6 ?_ ?_
 refine Ah I (Ar h I ?_ ?_)
 intro bf h
 obtain ⟨bg, bh, h⟩ := Ac h
 obtain ⟨bi, ae, h⟩ := Ac h
 exact tV (Af 1 I (uJ (C0 4 I I I I) I (Af 2 I (tX [] I (uG 1 (([O.1] : Li).map rI) (tX [4] I (C9 4 I bh fun bj => Af 1 I (tX [] I (uL (sz := 1) (es := [[.N]]) I I I I I I I I I I I dS fun ce => tX [3] I (Xd 3 I I I I I I I I I (Si 6 I I) (lR (Gu ae).1) (pY (Gu ae).2) dS fun bk bl => Af 3 I (tW (lg ⟨(bi, bg, (a.2.2.length : Int)), bk, bl, bj, h, I2⟩ [0, 1, 2, 3, 4]))))))))))))
 intro bf h
 exact tZ (lg ⟨(a.2.1, a.2.2, bd), g, w, y, h, I2⟩ [0, 1, 2, 3, 4])
 rintro s ob ⟨i, P, Y, Q, h, rfl, rfl⟩
 obtain ⟨j, ⟨af, E⟩, h⟩ := A6 h
 obtain ⟨bm, bn, h⟩ := Ac h
 exact tV (Af 4 I (uJ (Pe 3 (m := j.1) I I I I I I I af (kI E)) I (uJ (aM 3 (m := j.1) I I I I (kI E)) I (AO.ghost (Ghost.take 3 j.1 I (Ag E)) (Af 1 I (tX [] I (uG 1 (([(u : Int)] : Li).map rI) (tX [5] I (C9 5 I bn fun bo => uJ (Pe 3 (m := j.1) I I I I I I I af (oR E)) I (tX [3, 5] I (Zb 3 5 j.1 I I I I (lY E) I I I (Sr _ _ _ _) (tW (lg ⟨(O.2, (i.1.set j.1 bm), i.2.1), P, (Y.set j.1 bo), Q, h, I2⟩ [0, 1, 2, 3, 4])))))))))))))
 rintro s ob ⟨D, H, X, M, h, rfl, rfl⟩
 unfold Px.J4 at h
 refine tV (An 2 [.k 0 (u + 1 : Nat)] I ⟨A0 ad a0, J⟩ ?_)
 cases io h
 exact tW (lg ⟨H, X, M, I2⟩ [0, 1, 2, 3, 4])
 rintro a s ob ⟨g, w, y, rfl, rfl⟩ he
 subst he
 have h := a2
 have bp := Cp b.Segments.length
 exact Ah I (Aa fun cf cg => Br I bp (uE (lg ⟨a.2.1, g, w, h, I2⟩ [3])))
 rintro s ob ⟨B, G, W, h, rfl, rfl⟩
 unfold Px.J2 at h
 refine Ah I (uD (Bi [0] (K := [.uss G 22 3 1 W (B.map fun x => some (x.map rI))]) I [(6, .list 1 (B.map (rL 1 rI)))] ⟨⟨_, I, eR 0 I⟩, J⟩ (ob' := []) (.rest _)) ?_)
 cases io h
 exact uC pr
theorem Us (a : Nw) (b : Plan) (d : Plan) (r : Int) (h : Z0 a b d = some r) : ACalls Aj 70 [.agg (Ab a), .agg (Am b), .agg (Am d)] [] (RV (.V r)) := by
 refine Ae Tryz.func70 I I I fun C hC => ?_
 refine Aa fun j e => tV (tX [] I (Bo (Ab a) 6 fun k => tX [] I (Bo (Am b) 3 fun l => tX [] I (Bo (Am d) 3 fun n => Af 1 I (tW ?_)))))
 subst e
 refine uB (uB ?_)
 obtain ⟨p, f, h⟩ := Ac h
 refine tV (An 2 [.o 0 0, .o 1 1] I J2 (Cd (Jw _ _ _ f) (Af 1 I (tW (Ah I (Ar h I ?_ ?_))))))
 intro g h
 refine Ah I (uD g0 ?_)
 cases io h
 exact uC pr
 intro g h
 refine tZ (uB ?_)
 obtain ⟨s, i, h⟩ := Ac h
 refine tV (An 2 [.o 0 0, .o 1 2] I J2 (Cd (Jw _ _ _ i) (Af 1 I (tW (uD g0 ?_)))))
 cases io h
 exact uC pr
theorem fB (a : Nw) (b : Plan) (d : Plan) (r : (List Li) × Int) (h : kZ a b d = some r) : ACalls Aj 34 [.agg (Ab a), .agg (Am b), .agg (Am d)] [] (RV (.tup [.list 1 (r.1.map (rL 1 rI)), .V r.2])) := by
 refine Ae Tryz.func34 I I I fun C hC => ?_
 refine Aa fun n e => tV (tX [] I (Bo (Ab a) 6 fun f => tX [] I (Bo (Am b) 3 fun g => tX [] I (Bo (Am d) 3 fun i => Af 2 I (tW ?_)))))
 subst e
 refine uB (uB ?_)
 obtain ⟨p, j, h⟩ := Ac h
 refine tV (An 3 [.o 0 0, .o 1 1, .o 2 2] I J3 (Cd (Us _ _ _ _ j) (Af 1 I (tW (Ah I (Ar h I ?_ ?_))))))
 intro k h
 refine Ah I (uD (Bi [] (K := []) I [(6, .list 1 ([].map (rL 1 rI)))] ⟨⟨_, I, .nil _⟩, J⟩ (ob' := [O0 f [Ab a], O1 g [Am b], O1 i [Am d]]) (.rest _)) (uD g0 ?_))
 cases io h
 exact uC ⟨.inr I, [_, _], [], J2, Cm, I2⟩
 intro k h
 refine tZ (uB ?_)
 obtain ⟨s, l, h⟩ := Ac h
 refine tV (An 3 [.o 0 0, .o 1 1, .o 2 2] I J3 (tX [] I (Ck I I I (Tx _ _ _ _ l) dS ?_)))
 rintro _ _ ⟨rfl, rfl⟩
 refine Af 2 I (tW (uD g0 ?_))
 cases io h
 exact uC ⟨.inr I, [_, _], [], J2, Cm, I2⟩
theorem Ub (a : Nw) (b : Plan) (c : Plan) (r : Li) (h : Kx a b c = some r) : ACalls Aj 58 [.agg (Ab a), .agg (Am b), .agg (Am c)] [] (fun x new => ∃ (F : Value), x = .v F ∧ new = [U0 F r]) := by
 refine Ae Tryz.func58 I I I fun C hC => ?_
 refine Aa fun y1 U => tV (tX [] I (Bo (Ab a) 6 fun j => tX [] I (Bo (Am b) 3 fun n => tX [] I (Bo (Am c) 3 fun p => Af 1 I (tW ?_)))))
 subst U
 refine Aa fun y5 W => ?_
 obtain ⟨l6, ⟨m8, X, Y, Z⟩, h⟩ := Gl h
 refine tV (An 3 [.o 1 0, .l 2 (a.Segments.length : Int)] I ⟨Ax, I, J⟩ (tX [] I (Bq (sz := 1) I I I I I I I I I I X Y (Ct (f := rI) Z I) dS fun e => Af 1 I (tW ?_))))
 subst W
 refine Ai (fun s ob => ∃ (t : Li), Kx.J1 t = some r ∧ s = [] ∧ ob = [U0 e t]) [(7, _)] J1 ?_ ?_
 refine Aa fun bd aa => ?_
 obtain ⟨G, ab, h⟩ := Ac h
 refine tV (An 3 [.o 0 0, .o 1 1, .o 2 2] I J3 (tX [] I (Ck I I I (Tx _ _ _ _ ab) dS ?_)))
 rintro _ _ ⟨rfl, rfl⟩
 refine An 2 [.l 0 (G.length : Int)] I ⟨Ax, J⟩ (tW ?_)
 subst aa
 refine uA (B0 23 I fun ac => ?_)
 obtain ⟨be, ad, ae⟩ := Ac h
 refine Cu ad [(3, _), (4, _), (5, _), (7, _), (23, _), (24, _)] J6 (fun (u : Nat) (g : Li) s ob => s = [(25, .V (u : Int))] ∧ ob = [O0 j [Ab a], O1 n [Am b], O1 p [Am c], U0 e g]) ⟨I, I⟩ ⟨I, J⟩ ⟨[0, 1, 2, 3], I, by decide⟩ ?_ ?_
 rintro u i g H s ob af K ⟨rfl, rfl⟩ h
 unfold Kx.B2 at h
 have ag := Co K
 refine Ah I (Aa fun bf ah => Bp I ag (tZ ?_))
 subst ah
 refine Ai (fun s ob => ∃ (E : Li), Kx.J3 E = some H ∧ s = [] ∧ ob = [O0 j [Ab a], O1 n [Am b], O1 p [Am c], U0 e E]) [(3, _), (4, _), (5, _), (7, _), (23, _), (24, _), (25, _)] J7 ?_ ?_
 refine uA (Bh [.x 0 u ((rL 1 rI) i)] I ⟨⟨I, Ag af⟩, J⟩ (Ah I (Ai (fun s ob => ∃ (w : Int), Kx.J4 i g w = some H ∧ s = [(10, .V w)] ∧ ob = [O0 j [Ab a], O1 n [Am b], O1 p [Am c], U0 e g]) [(3, _), (4, _), (5, _), (7, _), (9, _), (23, _), (24, _), (25, _)] J8 ?_ ?_)))
 refine Bh [.l 1 (i.length : Int)] I ⟨Ax, J⟩ (uA (B0 29 I fun ai => ?_))
 obtain ⟨bg, aj, ak⟩ := Ac h
 refine Cu aj [(3, _), (4, _), (5, _), (7, _), (9, _), (23, _), (24, _), (25, _), (29, _), (30, _)] jW (fun (y : Nat) (A : Int) s ob => s = [(31, .V (y : Int)), (10, .V A)] ∧ ob = [O0 j [Ab a], O1 n [Am b], O1 p [Am c], U0 e g]) ⟨I, I⟩ ⟨I, I, J⟩ ⟨[0, 1, 2, 3], I, by decide⟩ ?_ ?_
 rintro y al A bh s ob am M ⟨rfl, rfl⟩ h
 have an := Co M
 refine Ah I (Aa fun bi ao => Bp I an (tZ ?_))
 subst ao
 refine uB (uA (Bh [.x 0 y (rI al)] I ⟨⟨I, Ag am⟩, J⟩ (Aa fun bj ap => ?_)))
 obtain ⟨N, ⟨aq, ar⟩, h⟩ := A6 h
 obtain ⟨O, ⟨au, av⟩, h⟩ := A6 h
 refine In (pd 12 0 []) [2, 1] [_, _] [.o 1 0, .x 3 N.1 (rI N.2), .o 6 1, .x 8 O.1 (rI O.2)] I I ⟨⟨au, Ag av⟩, I, ⟨aq, Ag ar⟩, I, J⟩ ?_
 subst ap
 obtain ⟨P, ⟨aw, ax⟩, h⟩ := A6 h
 refine E2 [.o 2 0, .x 4 P.1 (Ak P.2)] I ⟨⟨aw, Ag ax⟩, I, J⟩ (tV (An 2 [.k 0 (y + 1 : Nat)] I ⟨A0 M ai, J⟩ ?_))
 cases io h
 exact tW (lg I2 [0, 1, 2, 3])
 rintro A s ob ⟨rfl, rfl⟩ he
 subst he
 have h := ak
 have ay := Cp i.length
 exact Ah I (Aa fun bk bl => Br I ay (uE (lg ⟨A, h, I2⟩ [0, 1, 2, 3])))
 rintro s ob ⟨w, h, rfl, rfl⟩
 refine Bh [.l 1 (i.length : Int)] I ⟨Ax, J⟩ (uA (B0 60 I fun az => ?_))
 obtain ⟨bm, a0, a1⟩ := Ac h
 refine Cu a0 [(3, _), (4, _), (5, _), (7, _), (10, _), (23, _), (24, _), (25, _), (60, _), (61, _)] jW (fun (B : Nat) (D : Li) s ob => s = [(62, .V (B : Int))] ∧ ob = [O0 j [Ab a], O1 n [Am b], O1 p [Am c], U0 e D]) ⟨I, I⟩ ⟨I, J⟩ ⟨[0, 1, 2, 3], I, by decide⟩ ?_ ?_
 rintro B a2 D bn s ob a3 Q ⟨rfl, rfl⟩ h
 have a4 := Co Q
 refine Ah I (Aa fun bo a5 => Bp I a4 (tZ ?_))
 subst a5
 refine uB (uA (Bh [.x 0 B (rI a2)] I ⟨⟨I, Ag a3⟩, J⟩ ?_))
 obtain ⟨R, ⟨a6, S⟩, h⟩ := A6 h
 refine tV (Af 3 I (uJ (Bm 3 (m := R.1) I I I I I I I a6 (Ag S)) I (tX [3] I (Ci 3 R.1 0 I I I (Ag S) I I I I (Cb I) I (Dg (x := w) I) (tW (tV (An 2 [.k 0 (B + 1 : Nat)] I ⟨A0 Q az, J⟩ ?_)))))))
 cases io h
 exact tW (lg I2 [0, 1, 2, 3])
 rintro D s ob ⟨rfl, rfl⟩ he
 subst he
 have h := a1
 have a7 := Cp i.length
 exact Ah I (Aa fun bp bq => Br I a7 (uE (lg ⟨D, h, I2⟩ [0, 1, 2, 3])))
 rintro s ob ⟨E, h, rfl, rfl⟩
 unfold Kx.J3 at h
 refine tV (An 2 [.k 0 (u + 1 : Nat)] I ⟨A0 K ac, J⟩ ?_)
 cases io h
 exact tW (lg I2 [0, 1, 2, 3])
 rintro g s ob ⟨rfl, rfl⟩ he
 subst he
 have h := ae
 have a8 := Cp G.length
 exact Ah I (Aa fun br bs => Br I a8 (uE (lg ⟨g, h, I2⟩ [3])))
 rintro s ob ⟨t, h, rfl, rfl⟩
 refine Ah I ?_
 obtain rfl := oi h
 exact uC ⟨.inr I, [_], [U0 e t], J1, Cz I (Cm), ⟨e, I2⟩⟩
theorem gI (a : Nw) (b : Plan) (d : Plan) (r : Li × Int) (h : lB a b d = some r) : ACalls Aj 31 [.agg (Ab a), .agg (Am b), .agg (Am d)] [] (fun x new => ∃ (e : Value), x = .tup [.v e, .V r.2] ∧ new = [U0 e r.1]) := by
 refine Ae Tryz.func31 I I I fun C hC => ?_
 refine Aa fun n g => tV (tX [] I (Bo (Ab a) 6 fun p => tX [] I (Bo (Am b) 3 fun s => tX [] I (Bo (Am d) 3 fun t => Af 2 I (tW ?_)))))
 subst g
 refine uB (uB ?_)
 obtain ⟨u, i, h⟩ := Ac h
 refine tV (An 3 [.o 0 0, .o 1 1, .o 2 2] I J3 (Cd (Us _ _ _ _ i) (Af 1 I (tW (Ah I (Ar h I ?_ ?_))))))
 intro j h
 refine Ah I (uD (Bs 3 1) (Cv [3] I ?_))
 cases io h
 exact uC ⟨.inr I, [_, _], [.us (.slice none 0 0) 3 1 ([].map rI)], J2, Cz I (Cm), ⟨(.slice none 0 0), I2⟩⟩
 intro j h
 refine tZ (uB ?_)
 obtain ⟨k, l, h⟩ := Ac h
 refine tV (An 3 [.o 0 0, .o 1 1, .o 2 2] I J3 (tX [] I (Ck I I I (Ub _ _ _ _ l) dS ?_)))
 rintro _ _ ⟨f, rfl, rfl⟩
 refine Af 2 I (tW (Cv [3] I ?_))
 cases io h
 exact uC ⟨.inr I, [_, _], [U0 f k], J2, Cz I (Cm), ⟨f, I2⟩⟩
theorem gW (a : List Change) (r : Int) (h : K0 a = some r) : ACalls Aj 23 [Q8 a] [] (RV (.V r)) := by
 refine Ae Tryz.func23 I I I fun C hC => ?_
 unfold K0 at h
 refine Ah I (Aa fun Z D => Eb 12 (((a.length : Int) == 0) || decide ((a.length : Int) > 40)) ?_ ?_)
 refine tV (An 4 [.l 1 (a.length : Int)] I ⟨Ax, J⟩ ?_)
 rcases bt (((a.length : Int) == 0)) with d | d
 exact Ad 8 I d (Af 4 I (tW (jf (by simp only [d, bz]) I I I2)))
 exact Ad 8 I d (An 4 [.l 1 (a.length : Int)] I ⟨Ax, J⟩ (tW (jf (by simp only [d, bz]) I I I2)))
 refine Ar h I ?_ ?_
 intro E h
 refine Ah I ?_
 cases io h
 exact uC pr
 intro E h
 refine tZ ?_
 subst D
 refine Ai (fun s ob => ∃ (w : Unit), K0.J1 w = some r ∧ s = [] ∧ ob = []) [] J ?_ ?_
 refine Bh [.l 1 (a.length : Int)] I ⟨Ax, J⟩ (uA (B0 13 I fun F => ?_))
 obtain ⟨aa, G, y⟩ := Ac h
 refine Bx G [(0, _), (13, _), (14, _)] J3 (fun (c : Nat) (A : Unit) s ob => s = [(15, .V (c : Int))] ∧ ob = []) ⟨I, I⟩ ⟨I, J⟩ ⟨[], I, by decide⟩ ?_ ?_
 rintro c b A H s ob K B ⟨rfl, rfl⟩ h M
 unfold K0.B2 at h
 have O := Co B
 refine Ah I (Aa fun ab P => Bp I O (tZ ?_))
 subst P
 refine uB (uA (Aa fun ac Q => tV (An 3 [.x 1 c (C1 b)] I ⟨⟨I, Ag K⟩, J⟩ (tX [] I (uF [.V 0, .N, .N, .N] 4 fun ad => Af 1 I (tX [0] I (A3 0 0 0 [C1 b] I (tW ?_))))))))
 subst Q
 refine Ai (fun s ob => ∃ (p : Bool), K0.J3 p = some H ∧ s = [(46, .v (.bool p))] ∧ ob = []) [(0, _), (13, _), (14, _), (15, _)] J4 ?_ ?_
 refine Bz (pd 27 0 []) [0] [_] I (Bf 3 I ?_)
 rcases bt (((c : Int) == 0)) with e | e
 have h := Bu e h
 refine A5 22 I e (Ca 5 [.o 1 0] I J1 ?_)
 rcases bt ((b.Tick != 0)) with f | f
 have h := Bu f h
 refine A5 27 I f (Bf 3 I (Be I I I I dS (Be I I I I dS (Be I I I I dS (Be I I I I dS (Be I I I I dS (Be I I I I dS (Be I I I I dS (Be I I I I dS (Be I I I I dS (Bf 7 I (Ap ?_))))))))))))
 exact tW (lg ⟨true, h, I2⟩ [])
 have h := Bv f h
 refine A5 27 I f (Bf 3 I ?_)
 rcases bt (decide ((c : Int) > 0)) with g | g
 have h := Bu g h
 obtain ⟨t, ⟨R, S⟩, h⟩ := A6 h
 refine A5 30 I g (Ca 12 [.o 1 0, .x 5 t.1 (C1 t.2)] I ⟨⟨R, Ag S⟩, I, J⟩ ?_)
 rcases bt (decide (b.Tick ≤ t.2.Tick)) with i | i
 have h := Bu i h
 exact A5 42 I i (Bf 4 I (Ap (tW (lg ⟨true, h, I2⟩ []))))
 have h := Bv i h
 exact A5 42 I i (Ca 4 [.o 1 0] I J1 (Ap (tW (lg ⟨decide (b.Tick > 1099511627776), h, I2⟩ []))))
 have h := Bv g h
 exact A5 30 I g (Ca 16 [.o 13 0] I J1 (Ap (tW (lg ⟨decide (b.Tick > 1099511627776), h, I2⟩ []))))
 have h := Bv e h
 refine A5 22 I e (Bf 8 I ?_)
 rcases bt (decide ((c : Int) > 0)) with j | j
 have h := Bu j h
 obtain ⟨u, ⟨U, W⟩, h⟩ := A6 h
 refine A5 30 I j (Ca 12 [.o 1 0, .x 5 u.1 (C1 u.2)] I ⟨⟨U, Ag W⟩, I, J⟩ ?_)
 rcases bt (decide (b.Tick ≤ u.2.Tick)) with n | n
 have h := Bu n h
 exact A5 42 I n (Bf 4 I (Ap (tW (lg ⟨true, h, I2⟩ []))))
 have h := Bv n h
 exact A5 42 I n (Ca 4 [.o 1 0] I J1 (Ap (tW (lg ⟨decide (b.Tick > 1099511627776), h, I2⟩ []))))
 have h := Bv j h
 exact A5 30 I j (Ca 16 [.o 13 0] I J1 (Ap (tW (lg ⟨decide (b.Tick > 1099511627776), h, I2⟩ []))))
 rintro s ob ⟨p, h, rfl, rfl⟩
 refine Ar h I ?_ ?_
 intro X h
 refine Ah I ?_
 obtain rfl := M _ (oi h).symm
 have h := y
 have h := C2 h
 cases io h
 exact uC pr
 intro X h
 refine tZ (tV (An 2 [.k 0 (c + 1 : Nat)] I ⟨A0 B F, J⟩ ?_))
 cases io h
 exact tW ⟨_, _, _, I, I2, J4, [], I, by decide⟩
 rintro A s ob ⟨rfl, rfl⟩ he
 subst he
 have h := C8 y
 have Y := Cp a.length
 exact Ah I (Aa fun ae af => Br I Y (uE (lg ⟨(), h, I2⟩ [])))
 rintro s ob ⟨w, h, rfl, rfl⟩
 unfold K0.J1 at h
 refine Ah I ?_
 cases io h
 exact uC pr
theorem fY (a : Nw) (B : List Change) (D : Int) (r : Li) (h : M9 a B D = some r) : ACalls Aj 28 [.agg (Ab a), Q8 B, .V D] [] (fun x new => ∃ (E : Value), x = .v E ∧ new = [U0 E r]) := by
 refine Ae Tryz.func28 I I I fun C hC => ?_
 refine Aa fun y1 P => tV (tX [] I (Bo (Ab a) 6 fun t => Af 1 I (tW ?_)))
 subst P
 refine Aa fun y3 Q => ?_
 obtain ⟨l4, ⟨m6, R, S, U⟩, h⟩ := Gl h
 refine tV (An 3 [.o 1 0, .l 2 (a.Segments.length : Int)] I ⟨Ax, I, J⟩ (tX [] I (Bq (sz := 1) I I I I I I I I I I R S (Ct (f := rI) U I) dS fun b => Af 1 I (tW ?_))))
 subst Q
 refine Ai (fun s ob => ∃ (i : Li), M9.J1 i = some r ∧ s = [] ∧ ob = [U0 b i]) [(7, _)] J1 ?_ ?_
 refine Ah I (uA ?_)
 obtain ⟨ay, W, X⟩ := Ac h
 refine Cs W [(1, _), (2, _), (3, _), (7, _)] J4 (fun (c : Li × Int) s ob => s = [(8, .V c.2)] ∧ ob = [O0 t [Ab a], U0 b c.1]) ⟨I, I⟩ ⟨I, J⟩ ⟨[0, 1], I, by decide⟩ ?_
 rintro c Y s ob ⟨rfl, rfl⟩ h Z
 refine Aa fun az aa => Ah I (Ar h I ?_ ?_)
 intro ab h
 refine tZ ?_
 subst aa
 refine Ai (fun s ob => ∃ (u : Li), M9.J3 c u = some Y ∧ s = [] ∧ ob = [O0 t [Ab a], U0 b u]) [(1, _), (2, _), (3, _), (7, _), (8, _)] J5 ?_ ?_
 refine uA (Aa fun a0 ac => uB ?_)
 obtain ⟨F, ⟨ad, ae⟩, h⟩ := A6 h
 obtain ⟨g, ⟨G, H⟩, h⟩ := A6 h
 refine In (pd 14 0 []) [0] [_] [.x 2 F.1 (C1 F.2), .x 7 g.1 (C1 g.2), .o 12 0] I I ⟨I, ⟨G, Ag H⟩, ⟨ad, Ag ae⟩, J⟩ (Ar h I ?_ ?_)
 intro af h
 exact uE (lg ⟨c.1, h, I2⟩ [0, 1])
 intro af h
 refine tZ ?_
 subst ac
 refine Aa fun a1 ag => ?_
 obtain ⟨w, ⟨ah, ai⟩, h⟩ := A6 h
 obtain ⟨K, aj, h⟩ := Ac h
 refine Bz (sl 12 0 (.still 14 (.act 12 (.act 13 .nil)))) [0] [_] I (Ca 6 [.o 0 0, .x 4 w.1 (C1 w.2)] I ⟨⟨ah, Ag ai⟩, I, J⟩ (AP.o I (Hi I I (y := .agg (Am w.2.Plan)) I) I (Ca 4 [.x 2 g.1 (C1 g.2)] I ⟨⟨G, Ag H⟩, J⟩ (AP.o I (Hi I I (y := .agg (Am g.2.Plan)) I) I (Bf 1 I (tY [] I I I (Ck I I I (Ub _ _ _ _ aj) dS ?_)))))))
 rintro _ _ ⟨ak, rfl, rfl⟩
 refine tY [] I I I (Ce (C0 2 I I I I) dS (Ap (tW ?_)))
 subst ag
 refine uA (Ot 2 I fun al => ?_)
 obtain ⟨a2, am, an⟩ := Ac h
 refine Gv am [(1, _), (2, _), (3, _), (7, _), (8, _), (46, _), (47, _)] J7 (fun (A : Nat) (j : Li) s ob => s = [(48, .V (A : Int))] ∧ ob = [O0 t [Ab a], U0 b j, U0 ak K]) ⟨I, I⟩ ⟨I, J⟩ ⟨[0, 1, 2], I, by decide⟩ ?_ ?_
 rintro A j a3 s ob M ⟨rfl, rfl⟩ h
 have ao := Co M
 refine Ah I (Aa fun a4 ap => Bp I ao (tZ ?_))
 subst ap
 refine uB (uA (uB ?_))
 obtain ⟨n, ⟨aq, N⟩, h⟩ := A6 h
 refine tV (Af 1 I (uJ (Bm 2 (m := n.1) I I I I I I I aq (Ag N)) I (uJ (Bl 2 n.1 0 I I I (Ag N) I (y := .V n.2) I) I (Af 2 I (tW ?_)))))
 obtain ⟨e, ⟨O, p⟩, h⟩ := A6 h
 refine tV (Af 2 I (uJ (Bm 1 (m := e.1) I I I I I I I O (Ag p)) I (uJ (Bl 1 e.1 0 I I I (Ag p) I (y := .V e.2) I) I (Af 2 I (uJ (Bm 1 (m := e.1) I I I I I I I O (Ag p)) I (tX [1] I (Ci 1 e.1 0 I I I (Ag p) I I I I (Cb I) I (Dg (x := wr (e.2 + n.2)) I) (tW (tV (An 2 [.k 0 (A + 1 : Nat)] I ⟨A0 M al, J⟩ ?_))))))))))
 cases io h
 exact tW (lg I2 [0, 1, 2])
 rintro j s ob ⟨rfl, rfl⟩ he
 subst he
 have h := an
 have ar := Cp K.length
 exact Ah I (Aa fun a5 a6 => Br I ar (uE (lg ⟨j, h, I2⟩ [0, 1])))
 rintro s ob ⟨u, h, rfl, rfl⟩
 unfold M9.J3 at h
 refine tV (Af 3 I ?_)
 cases io h
 exact tW ⟨_, _, _, I, I2, J5, [0, 1], I, by decide⟩
 intro ab h
 obtain rfl := Z _ (oi h).symm
 have h := X
 exact uE (lg ⟨c.1, h, I2⟩ [1])
 rintro s ob ⟨i, h, rfl, rfl⟩
 refine Ah I ?_
 obtain rfl := oi h
 exact uC ⟨.inr I, [_], [U0 b i], J1, Cz I (Cm), ⟨b, I2⟩⟩
theorem Jv (a : Nw) (O : List Batch) (P : List Product) (Q : List (List Piece)) (i : List Change) (r : Fault × Int) (h : Kz a O P Q i = some r) : ACalls Aj 12 [.agg (Ab a), Q3 O, Q2 P, .list 1 (Q.map (rL 2 A4)), Q8 i] [] (RV (.tup [.agg (Cr r.1), .V r.2])) := by
 refine Ae Tryz.func12 I I I fun C hC => ?_
 refine Aa fun y1 a5 => tV (tX [] I (Bo (Ab a) 6 fun j => tX [] I (uF W1 3 fun e => Af 1 I (tW ?_))))
 subst a5
 refine Aa fun y4 a6 => uB ?_
 obtain ⟨r5, a7, h⟩ := Ac h
 refine tV (Af 1 I (Cd (gW _ _ a7) (Af 1 I (tW (Ah I (Ar h I ?_ ?_))))))
 intro a8 h
 refine uB (tV (uH (Au (l := W1) Df I) I (Af 1 I (tX [1] I (A3 1 0 0 [W1] I (Af 1 I (tW (Cv [1] I ?_))))))))
 cases io h
 exact uC ⟨.inr I, [_, _], [], ⟨⟨0, _, _, _, _, _, _, _, I5⟩, I, J⟩, Cm, I2⟩
 intro a8 h
 refine tZ ?_
 subst a6
 refine Ai (fun s ob => ∃ (af : Unit), Kz.J1 a O P Q i af = some r ∧ s = [] ∧ ob = [O0 j [Ab a], O6 e [W1]]) [(1, _), (2, _), (3, _), (4, _), (5, _), (10, _)] J6 ?_ ?_
 refine Bh [.l 1 (i.length : Int)] I ⟨Ax, J⟩ (uA (B0 35 I fun a9 => ?_))
 obtain ⟨cy, ba, ag⟩ := Ac h
 refine Bx ba [(1, _), (2, _), (3, _), (4, _), (5, _), (10, _), (35, _), (36, _)] J8 (fun (E : Nat) (ah : Unit) s ob => s = [(37, .V (E : Int))] ∧ ob = [O0 j [Ab a], O6 e [W1]]) ⟨I, I⟩ ⟨I, J⟩ ⟨[0, 1], I, by decide⟩ ?_ ?_
 rintro E R ah cz s ob bb ai ⟨rfl, rfl⟩ h bc
 have bd := Co ai
 refine Ah I (Aa fun c0 be => Bp I bd (tZ ?_))
 subst be
 refine uB (uA (Aa fun c1 bf => tV (An 2 [.x 0 E (C1 R)] I ⟨⟨I, Ag bb⟩, J⟩ (tX [] I (uF [.V 0, .N, .N, .N] 4 fun c2 => tX [2] I (A3 2 0 0 [C1 R] I (tW ?_)))))))
 subst bf
 refine uB ?_
 obtain ⟨c3, bg, h⟩ := Ac h
 refine tV (An 2 [.o 0 0] I J1 (uJ (C4 2 0 1 I I I I I (y := .agg (Am R.Plan)) I) I (Cd (Jw _ _ _ bg) (Af 1 I (tW (Ah I (Ar h I ?_ ?_)))))))
 intro bh h
 refine uB (tV (uH (Au (l := W1) Df I) I (Af 1 I (tX [1] I (A3 1 0 0 [W1] I (Af 1 I (tW ?_)))))))
 obtain rfl := bc _ (oi h).symm
 have h := ag
 have h := C2 h
 refine Cv [1] I ?_
 cases io h
 exact uC ⟨.inr I, [_, _], [], ⟨⟨0, _, _, _, _, _, _, _, I5⟩, I, J⟩, Cm, I2⟩
 intro bh h
 refine tZ (tV (An 2 [.k 0 (E + 1 : Nat)] I ⟨A0 ai a9, J⟩ ?_))
 cases io h
 exact tW ⟨_, _, _, I, I2, J9, [0, 1], I, by decide⟩
 rintro ah s ob ⟨rfl, rfl⟩ he
 subst he
 have h := C8 ag
 have bi := Cp i.length
 exact Ah I (Aa fun c4 c5 => Br I bi (uE (lg ⟨(), h, I2⟩ [0, 1])))
 rintro s ob ⟨af, h, rfl, rfl⟩
 unfold Kz.J1 at h
 refine Ah I (Ai (fun s ob => ∃ (n : List Pressures) (u : Value), Kz.J2 a i n = some r ∧ s = [(16, .v u)] ∧ ob = [O0 j [Ab a], O6 e [W1], qP u n]) [(4, _), (5, _), (10, _)] J3 ?_ ?_)
 refine Bh [.l 1 (i.length : Int)] I ⟨Ax, J⟩ (uA (B0 50 I fun bj => uD (Bs 84 3) ?_))
 obtain ⟨c6, bk, aj⟩ := Ac h
 refine Bx bk [(1, _), (2, _), (3, _), (4, _), (5, _), (10, _), (50, _), (51, _)] J8 (fun (F : Nat) (G : List Pressures) s ob => ∃ (B : Value), s = [(52, .V (F : Int)), (16, .v B)] ∧ ob = [O0 j [Ab a], O6 e [W1], qP B G]) ⟨(.slice none 0 0), I2⟩ ⟨I, I, J⟩ ⟨[0, 1, 2], I, by decide⟩ ?_ ?_
 rintro F S G c7 s ob bl ak ⟨B, rfl, rfl⟩ h bm
 have bn := Co ak
 refine Ah I (Aa fun c8 bo => Bp I bn (tZ ?_))
 subst bo
 refine uB (uA (Aa fun c9 bp => tV (An 2 [.x 0 F (C1 S)] I ⟨⟨I, Ag bl⟩, J⟩ (tX [] I (uF [.V 0, .N, .N, .N] 4 fun da => tX [3] I (A3 3 0 0 [C1 S] I (tW ?_)))))))
 subst bp
 refine Aa fun db bq => ?_
 obtain ⟨al, br, h⟩ := Ac h
 refine tV (An 5 [.o 0 0] I J1 (uJ (C4 3 0 1 I I I I I (y := .agg (Am S.Plan)) I) I (tX [] I (Ck I I I (gM _ _ _ _ _ _ br) dS ?_))))
 rintro _ _ ⟨rfl, rfl⟩
 refine Af 3 I (tX [] I (uF W0 3 fun dc => tX [4] I (A3 4 0 0 [A9 al.1] I (Af 1 I (tW ?_)))))
 subst bq
 refine uB (Ah I (Ar h I ?_ ?_))
 intro bs h
 refine uB (tV (uH (Au (l := W1) Df I) I (Af 1 I (tX [1] I (A3 1 0 0 [W1] I (Af 1 I (tW ?_)))))))
 obtain rfl := bm _ (oi h).symm
 have h := aj
 have h := C2 h
 refine Cv [1] I ?_
 cases io h
 exact uC ⟨.inr I, [_, _], [], ⟨⟨0, _, _, _, _, _, _, _, I5⟩, I, J⟩, Cm, I2⟩
 intro bs h
 refine tZ ?_
 obtain ⟨dd, bt, h⟩ := Ac h
 refine tV (An 2 [.o 1 4] I J1 (tX [] I (uG 3 (([al.1] : List Pressures).map A9) (tX [2] I (C9 2 I bt fun bu => Af 1 I (tW (tV (An 2 [.k 0 (F + 1 : Nat)] I ⟨A0 ak bj, J⟩ ?_))))))))
 cases io h
 exact tW ⟨_, _, _, I, ⟨bu, I2⟩, jW, [0, 1, 2], I, by decide⟩
 rintro G s ob ⟨B, rfl, rfl⟩ he
 subst he
 have h := C8 aj
 have bv := Cp i.length
 exact Ah I (Aa fun de df => Br I bv (uE (lg ⟨G, B, h, I2⟩ [0, 1, 2])))
 rintro s ob ⟨n, u, h, rfl, rfl⟩
 unfold Kz.J2 at h
 refine Aa fun dg bw => Ai (fun s ob => ∃ (w : Int × Int × Int × Bool) (U : Nat), Kz.J3 a i n w = some r ∧ s = [(21, .v (.pointer (some ⟨U, 0, none⟩))), (22, .v (.bool w.2.2.2))] ∧ ob = [O0 j [Ab a], O6 e [W1], qP u n, O6 U [[.V w.1, .V w.2.1, .V w.2.2.1]]]) [(4, _), (5, _), (10, _), (16, _)] J4 ?_ ?_
 obtain ⟨H, ⟨bx, W⟩, h⟩ := A6 h
 obtain ⟨X, ⟨bz, b0⟩, h⟩ := A6 h
 obtain ⟨dh, ⟨di, am, an, ao⟩, h⟩ := Gl h
 obtain ⟨b, Y, h⟩ := Ac h
 refine C7 2 H.1 I W fun b1 => Bz (sl 11 0 (.two 11 16 (.two 12 16 (sl 3 13 (.act 16 kB)) (.act 12 (sl 3 13 kB))) (.act 11 (.act 12 (sl 3 13 kB))))) [0, 2] [_, _] I (Ca 2 [.o 0 0] I J1 (uM I (B8 (m := H.1) I I I I I b1 I bx W) I (AP.o I (Bl 1 H.1 0 I I I (Ag W) I (y := .agg (A9 H.2)) I) I (Ca 3 [.x 1 X.1 (C1 X.2)] I ⟨⟨bz, Ag b0⟩, J⟩ (AP.o I (Hi I I (y := .agg (Am X.2.Plan)) I) I (Ca 3 [.o 1 0, .l 2 (a.Segments.length : Int)] I ⟨Ax, I, J⟩ (uK ?_ ?_)))))))
 refine tY [] I I I (Bq (sz := 1) I I I I I I I I I I am an (Ct (f := rI) ao I) dS fun b4 => uK ?_ ?_)
 refine tY [] I I I (Ch I (.refl _) I I (.cons (.refl _) (.cons (.refl _) (.cons (.refl _) (.cons (.us 3 I) (.rest _))))) I (Hm _ _ _ _ _ Y) dS (by rintro _ _ ⟨rfl, _⟩; rfl) ?_)
 rintro _ ⟨_, rfl, -⟩
 exact Bf 3 I (tY [] I I I (uF W1 3 fun D => tY [4] I I I (A3 4 0 0 [Cr b.1] I (Bf 1 I (Ap (tW (lg ⟨(b.1.Kind, b.1.Index, b.1.At, b.2), D, h, I2⟩ [0, 1, 2, 4])))))))
 refine tY [] I I I (uF W1 3 fun D => tY [] I I I (Ch I (.refl _) I I (.cons (.refl _) (.cons (.refl _) (.cons (.refl _) (.cons (.us 3 I) (.rest _))))) I (Hm _ _ _ _ _ Y) dS (by rintro _ _ ⟨rfl, _⟩; rfl) ?_))
 rintro _ ⟨_, rfl, -⟩
 exact Bf 3 I (tY [4] I I I (A3 4 0 0 [Cr b.1] I (Bf 1 I (Ap (tW (lg ⟨(b.1.Kind, b.1.Index, b.1.At, b.2), D, h, I2⟩ [0, 1, 2, 4]))))))
 refine tY [] I I I (uF W1 3 fun D => tY [] I I I (Bq (sz := 1) I I I I I I I I I I am an (Ct (f := rI) ao I) dS fun b4 => tY [] I I I (Ch I (.refl _) I I (.cons (.refl _) (.cons (.refl _) (.cons (.refl _) (.cons (.us 4 I) (.rest _))))) I (Hm _ _ _ _ _ Y) dS (by rintro _ _ ⟨rfl, _⟩; rfl) ?_)))
 rintro _ ⟨_, rfl, -⟩
 exact Bf 3 I (tY [3] I I I (A3 3 0 0 [Cr b.1] I (Bf 1 I (Ap (tW (lg ⟨(b.1.Kind, b.1.Index, b.1.At, b.2), D, h, I2⟩ [0, 1, 2, 3]))))))
 rintro s ob ⟨w, U, h, rfl, rfl⟩
 refine Ah I (Ar h I ?_ ?_)
 intro b5 h
 refine uB (tV (An 1 [.o 0 3] I J1 (tX [1] I (A3 1 0 0 [[.V w.1, .V w.2.1, .V w.2.2.1]] I (Af 1 I (tW (Cv [1] I ?_)))))))
 cases io h
 exact uC ⟨.inr I, [_, _], [], ⟨⟨0, _, _, _, _, _, _, _, I5⟩, I, J⟩, Cm, I2⟩
 intro b5 h
 refine tZ ?_
 subst bw
 refine Ai (fun s ob => ∃ (aq : Unit), Kz.J4 aq = some r ∧ s = [] ∧ ob = [O6 e [W1]]) [(10, _)] J1 ?_ ?_
 refine Ah I (uA ?_)
 obtain ⟨dj, b6, ar⟩ := Ac h
 refine Cs b6 [(4, _), (5, _), (10, _), (16, _)] J4 (fun (g : Int) s ob => s = [(23, .V g)] ∧ ob = [O0 j [Ab a], O6 e [W1], qP u n]) ⟨I, I⟩ ⟨I, J⟩ ⟨[0, 1, 2], I, by decide⟩ ?_
 rintro g b7 s ob ⟨rfl, rfl⟩ h au
 refine Aa fun dk b8 => Bh [.l 2 (i.length : Int)] I ⟨Ax, J⟩ (Ar h I ?_ ?_)
 intro b9 h
 refine tZ ?_
 subst b8
 refine Ai (fun s ob => ∃ (av : Unit), Kz.J6 g av = some b7 ∧ s = [] ∧ ob = [O0 j [Ab a], O6 e [W1], qP u n]) [(4, _), (5, _), (10, _), (16, _), (23, _)] J5 ?_ ?_
 refine uA (Aa fun dl ca => ?_)
 obtain ⟨aw, cb, h⟩ := Ac h
 obtain ⟨ax, cc, h⟩ := Ac h
 refine tV (An 3 [.o 0 0] I J1 (tX [] I (Ck I I I (fY _ _ _ _ cb) dS ?_)))
 rintro _ _ ⟨cd, rfl, rfl⟩
 refine AO.ghost (Bi [3] (K := [U0 cd aw]) I [(102, Q0 aw)] ⟨⟨_, I, .us 0 I⟩, J⟩ (ob' := [O0 j [Ab a], O6 e [W1], qP u n]) (.rest _)) (tX [] I (Ck I I I (T2 _ _ cc) dS ?_))
 rintro _ _ ⟨ay, rfl, rfl⟩
 refine Af 1 I (tW ?_)
 subst ca
 refine Aa fun dm ce => tV (Af 3 I (tX [] I (uL (sz := 1) (es := ([wr (g - 1), g] : Li).map rI) I I I I I I I I I I I dS fun az => uJ (C0 4 I I I I) I (Af 1 I (tW ?_)))))
 subst ce
 refine uA (Ot 4 I fun cf => ?_)
 obtain ⟨dn, cg, a0⟩ := Ac h
 refine Fi cg [(4, _), (5, _), (10, _), (16, _), (23, _), (24, _), (107, _), (108, _)] J8 (fun (Z : Nat) (a1 : Unit) s ob => s = [(109, .V (Z : Int))] ∧ ob = [O0 j [Ab a], O6 e [W1], qP u n, U0 ay ax, .us az 3 1 (([wr (g - 1), g] : Li).map rI)]) ⟨I, I⟩ ⟨I, J⟩ ⟨[0, 1, 2, 3, 4], I, by decide⟩ ?_ ?_
 rintro Z a1 ci s ob a2 ⟨rfl, rfl⟩ h cj
 have ck := Co a2
 refine Ah I (Aa fun dp cl => Bp I ck (tZ ?_))
 subst cl
 refine uB (uA (Aa fun dq cm => ?_))
 obtain ⟨aa, ⟨cn, a3⟩, h⟩ := A6 h
 refine tV (uJ (Bm 4 (m := aa.1) I I I I I I I cn (Ag a3)) I (uJ (Bl 4 aa.1 0 I I I (Ag a3) I (y := .V aa.2) I) I (Af 1 I (tW ?_))))
 subst cm
 refine Ai (fun s ob => ∃ (A : Int × Int × Int × Bool) (ab : Nat), Kz.J8 A = some ci ∧ s = [(27, .v (.pointer (some ⟨ab, 0, none⟩))), (28, .v (.bool A.2.2.2))] ∧ ob = [O0 j [Ab a], O6 e [W1], qP u n, U0 ay ax, .us az 3 1 (([wr (g - 1), g] : Li).map rI), O6 ab [[.V A.1, .V A.2.1, .V A.2.2.1]]]) [(4, _), (5, _), (10, _), (16, _), (23, _), (24, _), (107, _), (108, _), (109, _)] J9 ?_ ?_
 obtain ⟨M, ⟨co, ac⟩, h⟩ := A6 h
 obtain ⟨ad, ⟨cp, cq⟩, h⟩ := A6 h
 obtain ⟨t, a4, h⟩ := Ac h
 refine C7 2 M.1 I ac fun cr => Bz (sl 11 0 (.two 11 15 (sl 3 12 (.act 15 (.act 16 (.still 17 .nil)))) (.act 11 (sl 3 12 (.act 16 (.still 17 .nil)))))) [0, 2] [_, _] I (Ca 3 [.o 0 0] I J1 (uM I (B8 (m := M.1) I I I I I cr I co ac) I (AP.o I (Bl 1 M.1 0 I I I (Ag ac) I (y := .agg (A9 M.2)) I) I (Ca 4 [.x 2 ad.1 (C1 ad.2)] I ⟨⟨cp, Ag cq⟩, J⟩ (AP.o I (Hi I I (y := .agg (Am ad.2.Plan)) I) I (Bf 1 I (uK ?_ ?_)))))))
 refine tY [] I I I (Ch I (.refl _) I I (.cons (.refl _) (.cons (.refl _) (.cons (.refl _) (.cons (.us 3 I) (.rest _))))) I (Hm _ _ _ _ _ a4) dS (by rintro _ _ ⟨rfl, _⟩; rfl) ?_)
 rintro _ ⟨_, rfl, -⟩
 exact Bf 3 I (tY [] I I I (uF W1 3 fun ae => tY [5] I I I (A3 5 0 0 [Cr t.1] I (Bf 1 I (Ap (tW (lg ⟨(t.1.Kind, t.1.Index, t.1.At, t.2), ae, h, I2⟩ [0, 1, 2, 3, 4, 5])))))))
 refine tY [] I I I (uF W1 3 fun ae => tY [] I I I (Ch I (.refl _) I I (.cons (.refl _) (.cons (.refl _) (.cons (.refl _) (.cons (.us 3 I) (.rest _))))) I (Hm _ _ _ _ _ a4) dS (by rintro _ _ ⟨rfl, _⟩; rfl) ?_))
 rintro _ ⟨_, rfl, -⟩
 exact Bf 3 I (tY [5] I I I (A3 5 0 0 [Cr t.1] I (Bf 1 I (Ap (tW (lg ⟨(t.1.Kind, t.1.Index, t.1.At, t.2), ae, h, I2⟩ [0, 1, 2, 3, 4, 5]))))))
 rintro s ob ⟨A, ab, h, rfl, rfl⟩
 refine Ah I (Ar h I ?_ ?_)
 intro ct h
 refine uB (tV (An 1 [.o 0 5] I J1 (tX [1] I (A3 1 0 0 [[.V A.1, .V A.2.1, .V A.2.2.1]] I (Af 1 I (tW ?_))))))
 obtain rfl := cj _ (oi h).symm
 have h := a0
 have h := C2 h
 obtain rfl := au _ (oi h).symm
 have h := ar
 have h := C8 h
 refine Cv [1] I ?_
 cases io h
 exact uC ⟨.inr I, [_, _], [], ⟨⟨0, _, _, _, _, _, _, _, I5⟩, I, J⟩, Cm, I2⟩
 intro ct h
 refine tZ (tV (An 2 [.k 0 (Z + 1 : Nat)] I ⟨A0 a2 cf, J⟩ ?_))
 cases io h
 exact tW ⟨_, _, _, I, I2, J9, [0, 1, 2, 3, 4], I, by decide⟩
 rintro a1 s ob ⟨rfl, rfl⟩ he
 subst he
 have h := C8 a0
 have cu := Cp (([wr (g - 1), g] : Li).length)
 exact Ah I (Aa fun dr ds => Br I cu (uE (lg ⟨(), h, I2⟩ [0, 1, 2])))
 rintro s ob ⟨av, h, rfl, rfl⟩
 unfold Kz.J6 at h
 refine tV (Af 3 I ?_)
 cases io h
 exact tW ⟨_, _, _, I, I2, J5, [0, 1, 2], I, by decide⟩
 intro b9 h
 obtain rfl := au _ (oi h).symm
 have h := ar
 have h := C2 h
 exact uE (lg ⟨(), h, I2⟩ [1])
 rintro s ob ⟨aq, h, rfl, rfl⟩
 unfold Kz.J4 at h
 refine uB (tV (uH (Au (l := W1) Df I) I (tX [0] I (A3 0 0 0 [W1] I (Af 1 I (tW ?_))))))
 cases io h
 exact uC ⟨.inr I, [_, _], [], ⟨⟨0, _, _, _, _, _, _, _, I5⟩, I, J⟩, Cm, I2⟩
theorem Uf  (r : Nw) (h : Vv = some r) : ACalls Aj 32 [] [] (RV (.agg (Ab r))) := by
 refine Ae Tryz.func32 I I I fun C hC => ?_
 unfold Vv at h
 refine Aa fun Y E => tV (tX [] I (uF W3 6 fun g => tW ?_))
 subst E
 refine Aa fun Z F => tV (tX [] I (uL (sz := 1) (es := ([(⟨#[97]⟩ : Bt), (⟨#[98]⟩ : Bt), (⟨#[99]⟩ : Bt)] : List Bt).map rS) I I I I I I I I I I I dS fun b => uH (Au (l := [.v (.string (⟨#[105, 110]⟩ : Bt)), .V 0, .V 1000000]) H8 I) I (uH (Au (l := [.v (.string (⟨#[111, 117, 116]⟩ : Bt)), .V 2, .V 0]) H8 I) I (tX [] I (uL (sz := 3) (es := ([(⟨(⟨#[105, 110]⟩ : Bt), 0, 1000000⟩ : Port), (⟨(⟨#[111, 117, 116]⟩ : Bt), 2, 0⟩ : Port)] : List Port).map Cc) I I I I I I I I I I I dS fun c => uS 1 I fun G => uS 2 I fun H => uH (Au (l := [.v b, .N, .v c, .N, .V 0, .V 5]) H9 (As I I (A8 G) I (As I I I I (As I I (A8 H) I (Cw))))) I (tX [] I (uF W3 6 fun i => tX [3] I (A3 3 0 0 [[.v b, .N, .v c, .N, .V 0, .V 5]] I (tW ?_)))))))))
 subst F
 refine Ai (fun s ob => ∃ (t : List Sg) (j : Value), Vv.J1 t = some r ∧ s = [] ∧ ob = [O0 g [W3], .us b 9 1 (([(⟨#[97]⟩ : Bt), (⟨#[98]⟩ : Bt), (⟨#[99]⟩ : Bt)] : List Bt).map rS), .us c 68 3 (([(⟨(⟨#[105, 110]⟩ : Bt), 0, 1000000⟩ : Port), (⟨(⟨#[111, 117, 116]⟩ : Bt), 2, 0⟩ : Port)] : List Port).map Cc), O0 i [[.v b, .v j, .v c, .N, .V 0, .V 5]], U7 j t]) [(0, _), (1, _)] J2 ?_ ?_
 refine Ah I (uA (uD (Bs 64 7) ?_))
 obtain ⟨aa, M, O⟩ := Ac h
 refine Cs M [(0, _), (1, _)] J2 (fun (a : (List Sg) × Int) s ob => ∃ (e : Value), s = [(2, .V a.2)] ∧ ob = [O0 g [W3], .us b 9 1 (([(⟨#[97]⟩ : Bt), (⟨#[98]⟩ : Bt), (⟨#[99]⟩ : Bt)] : List Bt).map rS), .us c 68 3 (([(⟨(⟨#[105, 110]⟩ : Bt), 0, 1000000⟩ : Port), (⟨(⟨#[111, 117, 116]⟩ : Bt), 2, 0⟩ : Port)] : List Port).map Cc), O0 i [[.v b, .v e, .v c, .N, .V 0, .V 5]], U7 e a.1]) ⟨(.slice none 0 0), I2⟩ ⟨I, J⟩ ⟨[0, 1, 2, 3, 4], I, by decide⟩ ?_
 rintro a P s ob ⟨e, rfl, rfl⟩ h Q
 refine Aa fun ab R => Ah I (Ar h I ?_ ?_)
 intro S h
 refine tZ ?_
 subst R
 refine Ai (fun s ob => ∃ (A : List Sg) (w : Value), Vv.J3 a A = some P ∧ s = [] ∧ ob = [O0 g [W3], .us b 9 1 (([(⟨#[97]⟩ : Bt), (⟨#[98]⟩ : Bt), (⟨#[99]⟩ : Bt)] : List Bt).map rS), .us c 68 3 (([(⟨(⟨#[105, 110]⟩ : Bt), 0, 1000000⟩ : Port), (⟨(⟨#[111, 117, 116]⟩ : Bt), 2, 0⟩ : Port)] : List Port).map Cc), O0 i [[.v b, .v w, .v c, .N, .V 0, .V 5]], U7 w A]) [(0, _), (1, _), (2, _)] J3 ?_ ?_
 refine uA ?_
 obtain ⟨d, ⟨B, k⟩, h⟩ := A6 h
 obtain ⟨U, W, h⟩ := Ac h
 refine Bz (.still 0 (.still 1 (.still 3 (sl 8 6 (.two 2 14 (.two 4 14 (.two 5 14 (.act 14 bE) (.act 5 bE)) (.act 4 (.act 5 bE))) (.act 2 (.act 4 (.act 5 bE)))))))) [3] [_] I (Ca 9 [.o 1 0] I J1 (uM I (Au (l := [.V 0, .V 0, .V 2000000]) Fa I) I (uM I (Au (l := [.V 100, .V 0, .V 2000000]) Fa I) I (uK ?_ ?_))))
 refine tY [] I I I (uL (sz := 1) (es := ([(⟨#[120]⟩ : Bt), (⟨#[121]⟩ : Bt)] : List Bt).map rS) I I I I I I I I I I I dS fun u => uK ?_ ?_)
 refine tY [] I I I (Ce (Bm 5 (m := d.1) I I I I I I I B (Ag k)) dS (uK ?_ ?_))
 refine tY [] I I I (Ce (Bl 5 d.1 0 I I I (Ag k) I (y := .v (.string d.2)) I) dS (tY [] I I I (uL (sz := 3) (es := ([(⟨0, 0, 2000000⟩ : Point), (⟨100, 0, 2000000⟩ : Point)] : List Point).map Bj) I I I I I I I I I I I dS fun f => uI 6 I fun n => uQ I (Au (l := [.v (.string d.2), .V a.2, .V (wr (a.2 + 1)), .V 100, .V 0, .V (wr (10 + (wr (10 * a.2)))), .v f]) Gx (As I I I I (As I I I I (As I I I I (As I I I I (As I I I I (As I I (A8 n) I (Cw)))))))) I (Cx (Bi [6] (K := [.us f 102 3 (([(⟨0, 0, 2000000⟩ : Point), (⟨100, 0, 2000000⟩ : Point)] : List Point).map Bj)]) I [(26, .list 3 (([(⟨0, 0, 2000000⟩ : Point), (⟨100, 0, 2000000⟩ : Point)] : List Point).map Bj)), (27, .agg [.v (.string d.2), .V a.2, .V (wr (a.2 + 1)), .V 100, .V 0, .V (wr (10 + (wr (10 * a.2)))), .list 3 (([(⟨0, 0, 2000000⟩ : Point), (⟨100, 0, 2000000⟩ : Point)] : List Point).map Bj)])] ⟨⟨_, I, .us 0 I⟩, ⟨_, I, .agg (.cons (.refl _) (.cons (.refl _) (.cons (.refl _) (.cons (.refl _) (.cons (.refl _) (.cons (.refl _) (.cons (.us 0 I) (.rest _))))))))⟩, J⟩ (ob' := [O0 g [W3], .us b 9 1 (([(⟨#[97]⟩ : Bt), (⟨#[98]⟩ : Bt), (⟨#[99]⟩ : Bt)] : List Bt).map rS), .us c 68 3 (([(⟨(⟨#[105, 110]⟩ : Bt), 0, 1000000⟩ : Port), (⟨(⟨#[111, 117, 116]⟩ : Bt), 2, 0⟩ : Port)] : List Port).map Cc), O0 i [[.v b, .v e, .v c, .N, .V 0, .V 5]], U7 e a.1, .us u 9 1 (([(⟨#[120]⟩ : Bt), (⟨#[121]⟩ : Bt)] : List Bt).map rS)]) (.rest _)) I ?_))))
 rotate_left
 refine tY [] I I I (uL (sz := 3) (es := ([(⟨0, 0, 2000000⟩ : Point), (⟨100, 0, 2000000⟩ : Point)] : List Point).map Bj) I I I I I I I I I I I dS fun f => tY [] I I I (Ce (Bl 5 d.1 0 I I I (Ag k) I (y := .v (.string d.2)) I) dS (uI 6 I fun n => uQ I (Au (l := [.v (.string d.2), .V a.2, .V (wr (a.2 + 1)), .V 100, .V 0, .V (wr (10 + (wr (10 * a.2)))), .v f]) Gx (As I I I I (As I I I I (As I I I I (As I I I I (As I I I I (As I I (A8 n) I (Cw)))))))) I (Cx (Bi [6] (K := [.us f 102 3 (([(⟨0, 0, 2000000⟩ : Point), (⟨100, 0, 2000000⟩ : Point)] : List Point).map Bj)]) I [(26, .list 3 (([(⟨0, 0, 2000000⟩ : Point), (⟨100, 0, 2000000⟩ : Point)] : List Point).map Bj)), (27, .agg [.v (.string d.2), .V a.2, .V (wr (a.2 + 1)), .V 100, .V 0, .V (wr (10 + (wr (10 * a.2)))), .list 3 (([(⟨0, 0, 2000000⟩ : Point), (⟨100, 0, 2000000⟩ : Point)] : List Point).map Bj)])] ⟨⟨_, I, .us 0 I⟩, ⟨_, I, .agg (.cons (.refl _) (.cons (.refl _) (.cons (.refl _) (.cons (.refl _) (.cons (.refl _) (.cons (.refl _) (.cons (.us 0 I) (.rest _))))))))⟩, J⟩ (ob' := [O0 g [W3], .us b 9 1 (([(⟨#[97]⟩ : Bt), (⟨#[98]⟩ : Bt), (⟨#[99]⟩ : Bt)] : List Bt).map rS), .us c 68 3 (([(⟨(⟨#[105, 110]⟩ : Bt), 0, 1000000⟩ : Port), (⟨(⟨#[111, 117, 116]⟩ : Bt), 2, 0⟩ : Port)] : List Port).map Cc), O0 i [[.v b, .v e, .v c, .N, .V 0, .V 5]], U7 e a.1, .us u 9 1 (([(⟨#[120]⟩ : Bt), (⟨#[121]⟩ : Bt)] : List Bt).map rS)]) (.rest _)) I ?_))))
 rotate_left
 refine tY [] I I I (uL (sz := 3) (es := ([(⟨0, 0, 2000000⟩ : Point), (⟨100, 0, 2000000⟩ : Point)] : List Point).map Bj) I I I I I I I I I I I dS fun f => tY [] I I I (Ce (Bm 5 (m := d.1) I I I I I I I B (Ag k)) dS (tY [] I I I (Ce (Bl 5 d.1 0 I I I (Ag k) I (y := .v (.string d.2)) I) dS (uI 6 I fun n => uQ I (Au (l := [.v (.string d.2), .V a.2, .V (wr (a.2 + 1)), .V 100, .V 0, .V (wr (10 + (wr (10 * a.2)))), .v f]) Gx (As I I I I (As I I I I (As I I I I (As I I I I (As I I I I (As I I (A8 n) I (Cw)))))))) I (Cx (Bi [6] (K := [.us f 102 3 (([(⟨0, 0, 2000000⟩ : Point), (⟨100, 0, 2000000⟩ : Point)] : List Point).map Bj)]) I [(26, .list 3 (([(⟨0, 0, 2000000⟩ : Point), (⟨100, 0, 2000000⟩ : Point)] : List Point).map Bj)), (27, .agg [.v (.string d.2), .V a.2, .V (wr (a.2 + 1)), .V 100, .V 0, .V (wr (10 + (wr (10 * a.2)))), .list 3 (([(⟨0, 0, 2000000⟩ : Point), (⟨100, 0, 2000000⟩ : Point)] : List Point).map Bj)])] ⟨⟨_, I, .us 0 I⟩, ⟨_, I, .agg (.cons (.refl _) (.cons (.refl _) (.cons (.refl _) (.cons (.refl _) (.cons (.refl _) (.cons (.refl _) (.cons (.us 0 I) (.rest _))))))))⟩, J⟩ (ob' := [O0 g [W3], .us b 9 1 (([(⟨#[97]⟩ : Bt), (⟨#[98]⟩ : Bt), (⟨#[99]⟩ : Bt)] : List Bt).map rS), .us c 68 3 (([(⟨(⟨#[105, 110]⟩ : Bt), 0, 1000000⟩ : Port), (⟨(⟨#[111, 117, 116]⟩ : Bt), 2, 0⟩ : Port)] : List Port).map Cc), O0 i [[.v b, .v e, .v c, .N, .V 0, .V 5]], U7 e a.1, .us u 9 1 (([(⟨#[120]⟩ : Bt), (⟨#[121]⟩ : Bt)] : List Bt).map rS)]) (.rest _)) I ?_))))))
 rotate_left
 refine tY [] I I I (uL (sz := 3) (es := ([(⟨0, 0, 2000000⟩ : Point), (⟨100, 0, 2000000⟩ : Point)] : List Point).map Bj) I I I I I I I I I I I dS fun f => tY [] I I I (uL (sz := 1) (es := ([(⟨#[120]⟩ : Bt), (⟨#[121]⟩ : Bt)] : List Bt).map rS) I I I I I I I I I I I dS fun u => tY [] I I I (Ce (Bm 6 (m := d.1) I I I I I I I B (Ag k)) dS (tY [] I I I (Ce (Bl 6 d.1 0 I I I (Ag k) I (y := .v (.string d.2)) I) dS (uI 5 I fun n => uQ I (Au (l := [.v (.string d.2), .V a.2, .V (wr (a.2 + 1)), .V 100, .V 0, .V (wr (10 + (wr (10 * a.2)))), .v f]) Gx (As I I I I (As I I I I (As I I I I (As I I I I (As I I I I (As I I (A8 n) I (Cw)))))))) I (Cx (Bi [5] (K := [.us f 102 3 (([(⟨0, 0, 2000000⟩ : Point), (⟨100, 0, 2000000⟩ : Point)] : List Point).map Bj)]) I [(26, .list 3 (([(⟨0, 0, 2000000⟩ : Point), (⟨100, 0, 2000000⟩ : Point)] : List Point).map Bj)), (27, .agg [.v (.string d.2), .V a.2, .V (wr (a.2 + 1)), .V 100, .V 0, .V (wr (10 + (wr (10 * a.2)))), .list 3 (([(⟨0, 0, 2000000⟩ : Point), (⟨100, 0, 2000000⟩ : Point)] : List Point).map Bj)])] ⟨⟨_, I, .us 0 I⟩, ⟨_, I, .agg (.cons (.refl _) (.cons (.refl _) (.cons (.refl _) (.cons (.refl _) (.cons (.refl _) (.cons (.refl _) (.cons (.us 0 I) (.rest _))))))))⟩, J⟩ (ob' := [O0 g [W3], .us b 9 1 (([(⟨#[97]⟩ : Bt), (⟨#[98]⟩ : Bt), (⟨#[99]⟩ : Bt)] : List Bt).map rS), .us c 68 3 (([(⟨(⟨#[105, 110]⟩ : Bt), 0, 1000000⟩ : Port), (⟨(⟨#[111, 117, 116]⟩ : Bt), 2, 0⟩ : Port)] : List Port).map Cc), O0 i [[.v b, .v e, .v c, .N, .V 0, .V 5]], U7 e a.1, .us u 9 1 (([(⟨#[120]⟩ : Bt), (⟨#[121]⟩ : Bt)] : List Bt).map rS)]) (.rest _)) I ?_)))))))
 any_goals
  refine tY [] I I I (uG 7 (([(⟨d.2, a.2, wr (a.2 + 1), 100, 0, wr (10 + (wr (10 * a.2))), ([(⟨0, 0, 2000000⟩ : Point), (⟨100, 0, 2000000⟩ : Point)] : List Point)⟩ : Sg)] : List Sg).map Ak) (tY [4] I I I (C9 4 I W fun D => Bf 1 I (uI 4 I fun X => uP [3] I I I (uN 3 0 1 (es' := [[.v b, .v D, .v c, .N, .V 0, .V 5]]) I I I I I I (A8 X) I (Cb I) I I (Ap (tW ?_)))))))
  exact lg ⟨U, D, h, I2⟩ [0, 1, 2, 3, 4]
 rintro s ob ⟨A, w, h, rfl, rfl⟩
 unfold Vv.J3 at h
 refine tV (Af 3 I ?_)
 cases io h
 exact tW ⟨_, _, _, I, ⟨w, I2⟩, J3, [0, 1, 2, 3, 4], I, by decide⟩
 intro S h
 obtain rfl := Q _ (oi h).symm
 have h := O
 exact uE (lg ⟨a.1, e, h, I2⟩ [0, 1, 2, 3, 4])
 rintro s ob ⟨t, j, h, rfl, rfl⟩
 unfold Vv.J1 at h
 refine uB (tV (An 1 [.o 0 3] I J1 (tX [0] I (A3 0 0 0 [[.v b, .v j, .v c, .N, .V 0, .V 5]] I (tW (uD (Bi [1, 2, 4] (K := [.us b 9 1 (([(⟨#[97]⟩ : Bt), (⟨#[98]⟩ : Bt), (⟨#[99]⟩ : Bt)] : List Bt).map rS), .us c 68 3 (([(⟨(⟨#[105, 110]⟩ : Bt), 0, 1000000⟩ : Port), (⟨(⟨#[111, 117, 116]⟩ : Bt), 2, 0⟩ : Port)] : List Port).map Cc), U7 j t]) I [] J (ob' := [O0 g [[.list 1 (([(⟨#[97]⟩ : Bt), (⟨#[98]⟩ : Bt), (⟨#[99]⟩ : Bt)] : List Bt).map rS), Q5 t, .list 3 (([(⟨(⟨#[105, 110]⟩ : Bt), 0, 1000000⟩ : Port), (⟨(⟨#[111, 117, 116]⟩ : Bt), 2, 0⟩ : Port)] : List Port).map Cc), .N, .V 0, .V 5]], O0 i [[.v b, .v j, .v c, .N, .V 0, .V 5]]]) (.cons (.arr (.cons (.us 0 I) (.cons (.us 2 I) (.cons (.us 1 I) (.rest _))))) (.rest _))) (uD (Bi [] (K := []) I [] J (ob' := [O0 g [[.list 1 (([(⟨#[97]⟩ : Bt), (⟨#[98]⟩ : Bt), (⟨#[99]⟩ : Bt)] : List Bt).map rS), Q5 t, .list 3 (([(⟨(⟨#[105, 110]⟩ : Bt), 0, 1000000⟩ : Port), (⟨(⟨#[111, 117, 116]⟩ : Bt), 2, 0⟩ : Port)] : List Port).map Cc), .list 5 ([].map Ba), .V 0, .V 5]], O0 i [[.v b, .v j, .v c, .N, .V 0, .V 5]]]) (.cons (.arr (.cons (.refl _) (.cons (.refl _) (.cons (.refl _) (.cons (.nil _) (.rest _)))))) (.rest _))) ?_)))))))
 refine Cv [0] I ?_
 cases io h
 exact uC ⟨.inr I, [_], [], ⟨⟨0, _, _, _, _, _, _, _, I5⟩, J⟩, Cm, I2⟩
theorem Jq (a : Int) (r : Plan) (h : Mz a = r) : ACalls Aj 33 [.V a] [] (RV (.agg (Am r))) := by
 refine Ae Tryz.func33 I I I fun C hC => ?_
 unfold Mz at h
 refine uB (tV (tX [] I (uF W0 3 fun d => tW (uB (tV (Af 2 I (tX [] I (uL (sz := 1) (es := ([a, a] : Li).map rI) I I I I I I I I I I I dS fun b => Af 3 I (tX [] I (uL (sz := 1) (es := ([a, wr (0 - a)] : Li).map rI) I I I I I I I I I I I dS fun c => uS 1 I fun e => uS 2 I fun f => uH (Au (l := [.v b, .v c, .N]) Ll (As I I (A8 e) I (As I I (A8 f) I (Cw)))) I ?_))))))))))
 refine tX [0] I (A3 0 0 0 [[.v b, .v c, .N]] I (tW (uD (Bi [1, 2] (K := [.us b 3 1 (([a, a] : Li).map rI), .us c 3 1 (([a, wr (0 - a)] : Li).map rI)]) I [] J (ob' := [O1 d [[.list 1 (([a, a] : Li).map rI), .list 1 (([a, wr (0 - a)] : Li).map rI), .N]]]) (.cons (.arr (.cons (.us 0 I) (.cons (.us 1 I) (.rest _)))) (.rest _))) (uD (Bi [] (K := []) I [] J (ob' := [O1 d [[.list 1 (([a, a] : Li).map rI), .list 1 (([a, wr (0 - a)] : Li).map rI), .list 1 ([].map rB)]]]) (.cons (.arr (.cons (.refl _) (.cons (.refl _) (.cons (.nil _) (.rest _))))) (.rest _))) ?_))))
 obtain rfl := h
 exact uC ⟨.inr I, [_], [], ⟨⟨0, _, _, _, _, _, _, _, I5⟩, J⟩, Cm, I2⟩
theorem iF  (r : Bool) (h : Zy = some r) : ACalls Aj 14 [] [] (RB r) := by
 refine Ae Tryz.func14 I I I fun C hC => ?_
 refine Ah I (Aa fun A i => ?_)
 obtain ⟨B, j, h⟩ := Ac h
 obtain ⟨g, k, h⟩ := Ac h
 refine tV (tX [] I (Ck I I I (Uf  _ j) dS ?_))
 rintro _ _ ⟨rfl, rfl⟩
 refine tX [] I (Ck I I I (Jq 100 _ I) dS ?_)
 rintro _ _ ⟨rfl, rfl⟩
 refine tX [] I (Ck I I I (Jq 80 _ I) dS ?_)
 rintro _ _ ⟨rfl, rfl⟩
 refine tX [] I (Ck I I I (gI _ _ _ _ k) dS ?_)
 rintro _ _ ⟨l, rfl, rfl⟩
 refine Af 5 I (tW ?_)
 subst i
 refine Aa fun D m => ?_
 obtain ⟨E, n, h⟩ := Ac h
 obtain ⟨o, p, h⟩ := Ac h
 refine tV (tX [] I (Ck I I I (Uf  _ n) dS ?_))
 rintro _ _ ⟨rfl, rfl⟩
 refine tX [] I (Ck I I I (Jq 0 _ I) dS ?_)
 rintro _ _ ⟨rfl, rfl⟩
 refine tX [] I (Ck I I I (Jq 80 _ I) dS ?_)
 rintro _ _ ⟨rfl, rfl⟩
 refine tX [] I (Ck I I I (fB _ _ _ _ p) dS ?_)
 rintro _ _ ⟨rfl, rfl⟩
 refine Af 5 I (tW ?_)
 subst m
 refine Ai (fun s ob => ∃ (e : Bool), Zy.J1 e = some r ∧ s = [(0, .v (.bool e))] ∧ ob = []) [] J ?_ ?_
 rcases bt ((g.2 == 0)) with a | a
 have h := Bu a h
 obtain ⟨t, f, h⟩ := Ac h
 rcases bt (t) with b | b
 have h := Bu b h
 rcases bt ((o.2 == 0)) with d | d
 have h := Bu d h
 obtain ⟨u, w, h⟩ := Ac h
 refine tV (Af 3 I (Ad 21 I a (Af 1 I (Cf I I I (tX [] I (uG 1 (([600, 600] : Li).map rI) (Cf I I I (tX [] I (Ch I (.refl _) I I (.cons (.us 0 I) (.rest _)) I (Ju _ _ _ f) dS (by rintro _ _ ⟨rfl, _⟩; rfl) ?_)))))))))
 rintro _ ⟨_, rfl, -⟩
 refine Af 2 I (Ad 26 I b (Af 4 I (Ad 30 I d (Af 1 I (Cf I I I (tX [] I (uL (sz := 1) (es := ([0, 1] : Li).map rI) I I I I I I I I I I I dS fun y => AO.ghost (Bi [1] (K := [.us y 3 1 (([0, 1] : Li).map rI)]) I [(32, .list 1 (([0, 1] : Li).map rI))] ⟨⟨_, I, .us 0 I⟩, J⟩ (ob' := [U0 l g.1]) (.rest _)) (Cf I I I (tX [] I (uG 1 (([([0, 1] : Li)] : List Li).map (rL 1 rI)) (Cf I I I (Cd (iR _ _ _ w) (Af 2 I ?_)))))))))))))
 exact tW (lg ⟨u, h, I2⟩ [])
 have h := Bv d h
 refine tV (Af 3 I (Ad 21 I a (Af 1 I (Cf I I I (tX [] I (uG 1 (([600, 600] : Li).map rI) (Cf I I I (tX [] I (Ch I (.refl _) I I (.cons (.us 0 I) (.rest _)) I (Ju _ _ _ f) dS (by rintro _ _ ⟨rfl, _⟩; rfl) ?_)))))))))
 rintro _ ⟨_, rfl, -⟩
 exact Af 2 I (Ad 26 I b (Af 4 I (Ad 30 I d (Af 6 I (tW (lg ⟨false, h, I2⟩ []))))))
 have h := Bv b h
 refine tV (Af 3 I (Ad 21 I a (Af 1 I (Cf I I I (tX [] I (uG 1 (([600, 600] : Li).map rI) (Cf I I I (tX [] I (Ch I (.refl _) I I (.cons (.us 0 I) (.rest _)) I (Ju _ _ _ f) dS (by rintro _ _ ⟨rfl, _⟩; rfl) ?_)))))))))
 rintro _ ⟨_, rfl, -⟩
 exact Af 2 I (Ad 26 I b (Af 10 I (tW (lg ⟨false, h, I2⟩ []))))
 have h := Bv a h
 exact tV (Af 3 I (Ad 21 I a (Af 15 I (tW (lg ⟨false, h, I2⟩ [])))))
 rintro s ob ⟨e, h, rfl, rfl⟩
 unfold Zy.J1 at h
 cases io h
 exact uC pr
theorem iK (a : Li) (r : KS) (h : V1 a = some r) : ACalls Aj 6 [Q0 a] [] (fun x new => ∃ (c : Nat), x = .v (.pointer (some ⟨c, 0, none⟩)) ∧ new = [O2 c [Cq r]]) := by
 refine Ae Tryz.func6 I I I fun C hC => ?_
 refine Ah I (uB ?_)
 obtain ⟨b, e, h⟩ := Ac h
 obtain ⟨f, g, i, j, k, n, o⟩ := L6 e
 refine tV (An 4 [.l 2 (a.length : Int)] I ⟨Ax, J⟩ (uH (Po f g 0 I I I I I (rG i) ⟨_, _, I, j⟩ I k n o) I (uH (Au (l := [Q0 b, .V 0]) aT I) I (tX [] I (Bo [Q0 b, .V 0] 2 fun d => Af 1 I (tW ?_))))))
 obtain rfl := oi h
 exact uC ⟨.inr I, [_], [O2 d [[Q0 b, .V 0]]], J1, Cz I (Cm), ⟨d, I2⟩⟩
theorem fE (b : Nat) (a : KS) (r : Int × KS) (h : Vi a = some r) : ACalls Aj 40 [.v (.pointer (some ⟨b, 0, none⟩))] [O2 b [Cq a]] (Ea 1 fun x os new => x = .V r.1 ∧ os = [O2 b [Cq r.2]] ∧ new = []) := by
 refine Ae Tryz.func40 I I I fun C hC => ?_
 refine Ah I (Aa fun j d => Kf (pd 10 0 []) [0] [_] [.o 3 0, .o 7 0, .l 8 (a.L_.length : Int)] I I ⟨Ax, I, I, J⟩ (Ar h I ?_ ?_))
 intro e h
 refine Ah I ?_
 obtain rfl := oi h
 exact uC ⟨.inr I, [_], [O2 b [Cq a]], J1, Cz I (Cm), ⟨[O2 b [Cq a]], [], I5⟩⟩
 intro e h
 refine tZ ?_
 subst d
 refine Aa fun k f => tV (An 7 [.o 3 0] I J1 (tX [0] I (A3 0 0 1 [[Q0 a.L_, .V (wr (a.At + 1))]] I (tW ?_))))
 subst f
 refine uB ?_
 obtain ⟨c, ⟨g, i⟩, h⟩ := A6 h
 refine In (pd 12 0 []) [0] [_] [.o 3 0, .o 7 0, .x 9 c.1 (rI c.2)] I I ⟨⟨g, Ag i⟩, I, I, J⟩ ?_
 obtain rfl := oi h
 exact uC ⟨.inr I, [_], [O2 b [[Q0 a.L_, .V (wr (a.At + 1))]]], J1, Cz I (Cm), ⟨[O2 b [[Q0 a.L_, .V (wr (a.At + 1))]]], [], I5⟩⟩
theorem Dj (a : Nat) (b : KS) (d : Int) (r : Int × KS) (h : D9 b d = some r) : ACalls Aj 20 [.v (.pointer (some ⟨a, 0, none⟩)), .V d] [O2 a [Cq b]] (Ea 1 fun x os new => x = .V r.1 ∧ os = [O2 a [Cq r.2]] ∧ new = []) := by
 refine Ae Tryz.func20 I I I fun C hC => ?_
 refine Ah I (uB ?_)
 obtain ⟨e, f, h⟩ := Ac h
 obtain ⟨i, g, h⟩ := Ac h
 refine tV (Af 1 I (tX [0] I (A1 [0] (fE a _ _ f) ?_)))
 refine Af 1 I (Cd (jO _ _ _ g) (Af 1 I (tW ?_)))
 obtain rfl := oi h
 exact uC ⟨.inr I, [_], [O2 a [Cq e.2]], J1, Cz I (Cm), ⟨[O2 a [Cq e.2]], [], I5⟩⟩
theorem C5 (b : Bt) (a : Int) (r : Bt) (h : Hz b a = some r) : ACalls Aj 18 [.v (.string b), .V a] [] (RV (.v (.string r))) := by
 refine Ae Tryz.func18 I I I fun C hC => ?_
 refine Ah I (uB ?_)
 obtain ⟨g, d, h⟩ := Ac h
 obtain ⟨i, e, h⟩ := Ac h
 refine tV (An 4 [.f 2 (.V (a.tmod 26))] I ⟨Yp.yd (El (c := (a.tmod 26)) I I ⟨by decide, I⟩), J⟩ (uH (I4 (c := IntKind.u8.wrap (wr (97 + (a.tmod 26)))) I I I I I) I (tX [] I (uL (sz := 1) (es := ([IntKind.u8.wrap (wr (97 + (a.tmod 26)))] : Li).map (rK .u8)) I I I I I I I I I I I dS fun j => tX [] I (jU 0 d I I I I I I I I dS (uH (mW I I (mJ e)) I (Af 1 I (tW (uD g0 ?_)))))))))
 cases io h
 exact uC pr
theorem Al (a : Nat) (c : KS) (b : Li) (r : Int × KS) (h : Ej c b = some r) : ACalls Aj 16 [.v (.pointer (some ⟨a, 0, none⟩)), Q0 b] [O2 a [Cq c]] (Ea 1 fun x os new => x = .V r.1 ∧ os = [O2 a [Cq r.2]] ∧ new = []) := by
 refine Ae Tryz.func16 I I I fun C hC => ?_
 refine Ah I (uB ?_)
 obtain ⟨d, f, h⟩ := Ac h
 obtain ⟨e, ⟨g, i⟩, h⟩ := A6 h
 refine tV (An 4 [.l 3 (b.length : Int)] I ⟨Ax, J⟩ (tX [0] I (A1 [0] (Dj a _ _ _ f) ?_)))
 refine An 3 [.x 0 e.1 (rI e.2)] I ⟨⟨g, Ag i⟩, J⟩ (tW ?_)
 obtain rfl := oi h
 exact uC ⟨.inr I, [_], [O2 a [Cq d.2]], J1, Cz I (Cm), ⟨[O2 a [Cq d.2]], [], I5⟩⟩
theorem D3 (a : Nat) (b : KS) (c : Int) (d : Int) (r : Int × KS) (h : E7 b c d = some r) : ACalls Aj 17 [.v (.pointer (some ⟨a, 0, none⟩)), .V c, .V d] [O2 a [Cq b]] (Ea 1 fun x os new => x = .V r.1 ∧ os = [O2 a [Cq r.2]] ∧ new = []) := by
 refine Ae Tryz.func17 I I I fun C hC => ?_
 refine Ah I (uB ?_)
 obtain ⟨e, f, h⟩ := Ac h
 refine tV (Af 6 I (tX [0] I (A1 [0] (Dj a _ _ _ f) ?_)))
 refine Af 2 I (tW ?_)
 obtain rfl := oi h
 exact uC ⟨.inr I, [_], [O2 a [Cq e.2]], J1, Cz I (Cm), ⟨[O2 a [Cq e.2]], [], I5⟩⟩
theorem T9 (b : Nat) (Y : KS) (S : Int) (F : Int) (G : Int) (r : Sg × KS) (h : M6 Y S F G = some r) : ACalls Aj 19 [.v (.pointer (some ⟨b, 0, none⟩)), .V S, .V F, .V G] [O2 b [Cq Y]] (Ea 1 fun x os new => x = .agg (Ak r.1) ∧ os = [O2 b [Cq r.2]] ∧ new = []) := by
 refine Ae Tryz.func19 I I I fun C hC => ?_
 unfold M6 at h
 refine Aa fun y1 aj => tV (tX [] I (uF W2 7 fun y => tW ?_))
 subst aj
 refine Ai (fun s ob => ∃ (a : Li × Int × Int × Int), M6.J1 S a = some r ∧ s = [(2, .V a.2.2.1), (3, .V a.2.2.2)] ∧ ob = [O2 b [[Q0 a.1, .V a.2.1]], O5 y [W2]]) [(0, _), (1, _), (8, _)] J3 ?_ ?_
 refine uB ?_
 obtain ⟨H, ak, h⟩ := Ac h
 refine tV (Af 1 I (tX [0] I (A1 [0] (Dj b _ _ _ ak) ?_)))
 refine Af 1 I (tW (Ar h I ?_ ?_))
 intro al h
 exact Sq I (lg ⟨(H.2.L_, H.2.At, G, F), h, I2⟩ [0, 1])
 intro al h
 exact tZ (lg ⟨(H.2.L_, H.2.At, F, G), h, I2⟩ [0, 1])
 rintro s ob ⟨a, h, rfl, rfl⟩
 refine Aa fun y7 am => ?_
 obtain ⟨g, an, h⟩ := Ac h
 obtain ⟨e, ao, h⟩ := Ac h
 obtain ⟨i, aq, h⟩ := Ac h
 obtain ⟨j, ar, h⟩ := Ac h
 refine tV (Af 1 I (Cd (C5 _ _ _ an) (Af 3 I (tX [] I (uG 1 (([1, 2, 7, 20, 60, 200, 1000] : Li).map rI) (tX [0] I (A1 [0] (Al b _ _ _ ao) ?_)))))))
 refine Af 1 I (tX [] I (uG 1 (([0, 1, 5, 1000] : Li).map rI) (tX [0] I (A1 [0] (Al b _ _ _ aq) ?_))))
 refine Af 1 I (tX [] I (uG 1 (([0, 50, 1000, 100000] : Li).map rI) (tX [0] I (A1 [0] (Al b _ _ _ ar) ?_))))
 refine uH (Au (l := [.v (.string g), .V a.2.2.1, .V a.2.2.2, .V e.1, .V i.1, .V j.1, .N]) Gx I) I (tX [] I (uF W2 7 fun M => tX [2] I (A3 2 0 0 [[.v (.string g), .V a.2.2.1, .V a.2.2.2, .V e.1, .V i.1, .V j.1, .N]] I (tW ?_))))
 subst am
 refine Aa fun bd au => ?_
 obtain ⟨k, av, h⟩ := Ac h
 refine tV (Af 1 I (tX [] I (uG 1 (([1000000, 6000000, 100000000] : Li).map rI) (tX [0] I (A1 [0] (Al b _ _ _ av) ?_)))))
 refine Af 1 I (tW ?_)
 subst au
 refine Aa fun be aw => ?_
 obtain ⟨Z, ax, h⟩ := Ac h
 obtain ⟨bf, aa, h⟩ := Ac h
 refine Bz (sl 3 0 (.still 4 (.act 3 (.still 5 (.act 6 (.act 7 (.still 8 (.drop 9 .nil)))))))) [2] [_] I (Ca 4 [.o 1 0] I J1 (tY [0] I I I (A1 [0] (D3 b _ _ _ _ ax) ?_)))
 refine uQ I (Au (l := [.V 0, .V Z.1, .V k.1]) Fa I) I (tY [] I I I (uG 3 (([(⟨0, Z.1, k.1⟩ : Point)] : List Point).map Bj) (tY [] I I I (aW I I I I I I I I (AppSrc.list I) (mP (Gu aa).1) (mO (Gu aa).2) dS fun ab => Bf 1 I (uI 3 I fun ay => uP [2] I I I (uN 2 0 6 (es' := [[.v (.string g), .V a.2.2.1, .V a.2.2.2, .V e.1, .V i.1, .V j.1, .v ab]]) I I I I I I (A8 ay) I (Cb I) I I (Ap (tW ?_))))))))
 subst aw
 refine Ai (fun s ob => ∃ (A : Li × Int × (List Point)) (U : Value), M6.J2 a g e i j k A = some r ∧ s = [] ∧ ob = [O2 b [[Q0 A.1, .V A.2.1]], O5 y [W2], O5 M [[.v (.string g), .V a.2.2.1, .V a.2.2.2, .V e.1, .V i.1, .V j.1, .v U]], tD U A.2.2]) [(0, _), (8, _), (9, _), (10, _)] J4 ?_ ?_
 refine Ah I (uA ?_)
 obtain ⟨bg, az, ac⟩ := Ac h
 refine Cs az [(0, _), (8, _), (9, _), (10, _)] J4 (fun (f : Li × Int × (List Point) × Int) s ob => ∃ (n : Value), s = [(11, .V f.2.2.2)] ∧ ob = [O2 b [[Q0 f.1, .V f.2.1]], O5 y [W2], O5 M [[.v (.string g), .V a.2.2.1, .V a.2.2.2, .V e.1, .V i.1, .V j.1, .v n]], tD n f.2.2.1]) ⟨ab, I2⟩ ⟨I, J⟩ ⟨[0, 1, 2, 3], I, by decide⟩ ?_
 rintro f a0 s ob ⟨n, rfl, rfl⟩ h ad
 unfold M6.B3 at h
 refine Aa fun bh a1 => Ai (fun s ob => ∃ (u : Li × Int × Bool), M6.J4 e k f u = some a0 ∧ s = [(51, .v (.bool u.2.2))] ∧ ob = [O2 b [[Q0 u.1, .V u.2.1]], O5 y [W2], O5 M [[.v (.string g), .V a.2.2.1, .V a.2.2.2, .V e.1, .V i.1, .V j.1, .v n]], tD n f.2.2.1]) [(0, _), (8, _), (9, _), (10, _), (11, _)] J5 ?_ ?_
 rcases bt (decide ((f.2.2.1.length : Int) < 7)) with B | B
 have h := Bu B h
 obtain ⟨W, a2, h⟩ := Ac h
 refine tV (An 2 [.o 1 2] I J1 (uJ (C0 3 I I I I) I (Af 2 I (Ad 47 I B (Af 1 I (Cf I I I (tX [0] I (A1 [0] (Dj b _ _ _ a2) ?_))))))))
 exact Af 2 I (tW (lg ⟨(W.2.L_, W.2.At, decide (W.1 > 0)), h, I2⟩ [0, 1, 2, 3]))
 have h := Bv B h
 exact tV (An 2 [.o 1 2] I J1 (uJ (C0 3 I I I I) I (Af 2 I (Ad 47 I B (Af 4 I (tW (lg ⟨(f.1, f.2.1, false), h, I2⟩ [0, 1, 2, 3])))))))
 rintro s ob ⟨u, h, rfl, rfl⟩
 refine Ar h I ?_ ?_
 intro a3 h
 refine tZ ?_
 subst a1
 refine uA (Aa fun bi a4 => ?_)
 obtain ⟨w, a5, h⟩ := Ac h
 refine tV (Af 2 I (tX [0] I (A1 [0] (D3 b _ _ _ _ a5) ?_)))
 refine Af 2 I (tW ?_)
 subst a4
 refine Aa fun bj a6 => Bh [.o 2 2] I J1 (Ar h I ?_ ?_)
 intro a7 h
 obtain rfl := ad _ (oi h).symm
 have h := ac
 exact uE (lg ⟨(w.2.L_, w.2.At, f.2.2.1), n, h, I2⟩ [0, 1, 2, 3])
 intro a7 h
 refine tZ ?_
 subst a6
 obtain ⟨O, ae, h⟩ := Ac h
 obtain ⟨P, af, h⟩ := Ac h
 obtain ⟨Q, ag, h⟩ := Ac h
 obtain ⟨bk, ah, h⟩ := Ac h
 refine Bz (sl 4 0 (.still 5 (.still 9 (.still 10 (.two 4 6 (.act 6 qY) (.act 4 qY)))))) [2] [_] I (Ca 7 [.o 1 0] I J1 (uK ?_ ?_))
 refine tY [0] I I I (A1 [0] (D3 b _ _ _ _ ae) ?_)
 refine tY [] I I I (uG 1 (([1, 1, 10] : Li).map rI) (tY [0] I I I (A1 [0] (Al b _ _ _ af) ?_)))
 refine Bf 1 I (tY [0] I I I (A1 [0] (Dj b _ _ _ ag) ?_))
 refine Bf 2 I (uQ I (Au (l := [.V (wr (f.2.2.2 + w.1)), .V (wr (O.1 * P.1)), .V (wr (k.1 - (wr (Q.1 * 1000))))]) Fa I) I (tY [] I I I (uG 3 (([(⟨wr (f.2.2.2 + w.1), wr (O.1 * P.1), wr (k.1 - (wr (Q.1 * 1000)))⟩ : Point)] : List Point).map Bj) (tY [3] I I I (C9 3 I ah fun D => Bf 1 I (uI 3 I fun X => uP [2] I I I (uN 2 0 6 (es' := [[.v (.string g), .V a.2.2.1, .V a.2.2.2, .V e.1, .V i.1, .V j.1, .v D]]) I I I I I I (A8 X) I (Cb I) I I (Ap ?_))))))))
 cases io h
 exact tW ⟨_, _, _, I, ⟨D, I2⟩, J5, [0, 1, 2, 3], I, by decide⟩
 refine tY [] I I I (uG 1 (([1, 1, 10] : Li).map rI) (tY [0] I I I (A1 [0] (D3 b _ _ _ _ ae) ?_)))
 refine tY [0] I I I (A1 [0] (Al b _ _ _ af) ?_)
 refine Bf 1 I (tY [0] I I I (A1 [0] (Dj b _ _ _ ag) ?_))
 refine Bf 2 I (uQ I (Au (l := [.V (wr (f.2.2.2 + w.1)), .V (wr (O.1 * P.1)), .V (wr (k.1 - (wr (Q.1 * 1000))))]) Fa I) I (tY [] I I I (uG 3 (([(⟨wr (f.2.2.2 + w.1), wr (O.1 * P.1), wr (k.1 - (wr (Q.1 * 1000)))⟩ : Point)] : List Point).map Bj) (tY [3] I I I (C9 3 I ah fun D => Bf 1 I (uI 3 I fun X => uP [2] I I I (uN 2 0 6 (es' := [[.v (.string g), .V a.2.2.1, .V a.2.2.2, .V e.1, .V i.1, .V j.1, .v D]]) I I I I I I (A8 X) I (Cb I) I I (Ap ?_))))))))
 cases io h
 exact tW ⟨_, _, _, I, ⟨D, I2⟩, J5, [0, 1, 2, 3], I, by decide⟩
 intro a3 h
 obtain rfl := ad _ (oi h).symm
 have h := ac
 exact uE (lg ⟨(u.1, u.2.1, f.2.2.1), n, h, I2⟩ [0, 1, 2, 3])
 rintro s ob ⟨A, U, h, rfl, rfl⟩
 refine uB ?_
 obtain ⟨E, a8, h⟩ := Ac h
 obtain ⟨ai, a9, h⟩ := Ac h
 refine Bz (sl 5 0 (.still 6 (.act 5 (.still 7 (.act 8 (.act 9 (.still 10 (.drop 11 .nil)))))))) [2] [_] I (Ca 6 [.o 1 0, .o 3 0] I J2 (tY [0] I I I (A1 [0] (D3 b _ _ _ _ a8) ?_)))
 refine uQ I (Au (l := [.V e.1, .V E.1, .V k.1]) Fa I) I (tY [] I I I (uG 3 (([(⟨e.1, E.1, k.1⟩ : Point)] : List Point).map Bj) (tY [3] I I I (C9 3 I a9 fun R => Bf 1 I (uI 3 I fun ba => uP [2] I I I (uN 2 0 6 (es' := [[.v (.string g), .V a.2.2.1, .V a.2.2.2, .V e.1, .V i.1, .V j.1, .v R]]) I I I I I I (A8 ba) I (Cb I) I I (Ap (tW (uB (tV (An 1 [.o 0 2] I J1 (tX [1] I (A3 1 0 0 [[.v (.string g), .V a.2.2.1, .V a.2.2.2, .V e.1, .V i.1, .V j.1, .v R]] I (tW ?_))))))))))))))
 refine uD (Bi [3] (K := [tD R ai]) I [] J (ob' := [O2 b [Cq E.2], O5 y [[.v (.string g), .V a.2.2.1, .V a.2.2.2, .V e.1, .V i.1, .V j.1, sP ai]], O5 M [[.v (.string g), .V a.2.2.1, .V a.2.2.2, .V e.1, .V i.1, .V j.1, .v R]]]) (.cons (.same _) (.cons (.arr (.cons (.refl _) (.cons (.refl _) (.cons (.refl _) (.cons (.refl _) (.cons (.refl _) (.cons (.refl _) (.cons (.us 0 I) (.rest _))))))))) (.rest _)))) (Cv [0, 1] I ?_)
 obtain rfl := oi h
 exact uC ⟨.inr I, [_], [O2 b [Cq E.2]], ⟨⟨1, _, _, _, _, _, _, _, I5⟩, J⟩, Cz I (Cm), ⟨[O2 b [Cq E.2]], [], I5⟩⟩
end Go.Proofs.YtodeekicjiengaaGreatDoor
