/- Walks that show what functions of the program compute; printed by a program of ours. No condition. -/
import Derived.Test.YtaoclefkknloiaaGreatZwL1
import Derived.Test.YtaoclefkknloiaaGreatZwB3
set_option maxRecDepth 100000
namespace Go.Proofs.YtaoclefkknloiaaGreat
open Go.Aw
set_option linter.unusedVariables false
set_option linter.unusedSimpArgs false
set_option maxHeartbeats 4000000
abbrev fM : PL := .still 19 (.still 20 (.act 21 .nil))
abbrev nG : PL := .still 12 (.act 13 (.act 14 (.act 15 .nil)))
theorem cV (a : List (List Piece)) (F1 : T) {c : FuncId} {d e : List T} (o : Kz F1 = some (c, d, e)) (f : (List Piece) → Option Bool) (p : ∀ (g : List Piece) r, f g = some r → ACalls Al c (d ++ [Q3 g] ++ e) [] (RB r)) (r : Int) (h : Qg a f = some r) : ACalls Al 83 [.list 1 (a.map (rL 2 Aa)), F1] [] (RV (.V r)) := by
 refine Ag Tryz.func83 I I I fun C hC => ?_
 unfold Qg at h
 refine Ai I (Ak (fun s ob => ∃ (i : Unit), Qg.J1 i = some r ∧ s = [] ∧ ob = []) [] J ?_ ?_)
 refine Bk [.l 1 (a.length : Int)] I ⟨A6, J⟩ (qH (Cd 6 I fun q => ?_))
 obtain ⟨G, t, j⟩ := Ad h
 refine Cg t (K3 0 1 7) J3 (fun (b : Nat) (m : Unit) s ob => s = [(8, .V (b : Int))] ∧ ob = []) ⟨I, I⟩ ⟨I, J⟩ (pk []) ?_ ?_
 rintro b u m H s ob w n ⟨rfl, rfl⟩ h y
 have A := Cm n
 refine Ai I (Ac fun K B => Bl I A (qI ?_))
 subst B
 refine qJ (qH (Ai I (qJ ?_)))
 obtain ⟨M, D, h⟩ := Ad h
 refine qD (Ao 5 [.x 3 b ((rL 2 Aa) u)] I ⟨⟨I, Ae w⟩, J⟩ (qF [] I (Cz I (.refl _) o I (.rest _) I (p _ _ D) dS (by rintro _ _ ⟨rfl, _⟩; rfl) ?_)))
 rintro _ ⟨_, rfl, -⟩
 refine qE (Av h I ?_ ?_)
 intro E h
 refine Ai I ?_
 obtain rfl := y _ (oi h).symm
 have h := j
 have h := Dj h
 cases io h
 exact qK pr
 intro E h
 refine qI (qD (Ao 2 [.k 0 (b + 1 : Nat)] I ⟨Az n q, J⟩ ?_))
 cases io h
 exact qE ⟨_, _, _, I, I2, J4, pk []⟩
 rintro m s ob ⟨rfl, rfl⟩ he
 subst he
 have h := Dp j
 have F := Cn a.length
 exact Ai I (Ac fun N O => Bm I F (qM (lg ⟨(), h, I2⟩ [])))
 rintro s ob ⟨i, h, rfl, rfl⟩
 unfold Qg.J1 at h
 refine Ai I ?_
 cases io h
 exact qK pr
theorem eO (b : List (List Piece)) (F1 : T) {d : FuncId} {e f : List T} (i : Kz F1 = some (d, e, f)) (a : (List Piece) → Option Bool) (j : ∀ (g : List Piece) r, a g = some r → ACalls Al d (e ++ [Q3 g] ++ f) [] (RB r)) (r : Bool) (h : Ra b a = some r) : ACalls Al 47 [.list 1 (b.map (rL 2 Aa)), F1] [] (RB r) := by
 refine Ag Tryz.func47 I I I fun C hC => ?_
 refine Ai I (qJ ?_)
 obtain ⟨l, k, h⟩ := Ad h
 refine qD (Af 2 I (qR (cV _ F1 i a j _ k) (Af 2 I (qE ?_))))
 cases io h
 exact qK pr
theorem eA (a : List Piece) (r : Bool) (h : Nr a = some r) : ACalls Al 48 [Q3 a] [] (RB r) := by
 refine Ag Tryz.func48 I I I fun C hC => ?_
 refine Ai I (qJ ?_)
 obtain ⟨d, b, h⟩ := Ad h
 refine qD (Af 1 I (qR (Kp _ _ b) (Af 2 I (qE ?_))))
 cases io h
 exact qK pr
theorem T7 (a : Nw) (b : List (List Piece)) (r : Int) (h : Ig a b = some r) : ACalls Al 14 [.agg (Ab a), .list 1 (b.map (rL 2 Aa))] [] (RV (.V r)) := by
 refine Ag Tryz.func14 I I I fun C hC => ?_
 refine Ac fun X u => qD (qF [] I (Cp (Ab a) 6 fun g => Af 1 I (qE ?_)))
 subst u
 refine Ac fun Y w => qJ ?_
 obtain ⟨Z, y, h⟩ := Ad h
 refine qD (Ao 1 [.o 0 0] I J1 (qR (Uj _ _ y) (Af 1 I (qE (Ai I (Av h I ?_ ?_))))))
 intro A h
 refine Ai I (qL g0 ?_)
 cases io h
 exact qK pr
 intro A h
 refine qI ?_
 subst w
 refine Ac fun y7 B => Ak (fun s ob => ∃ (f : Bool), Ig.J1 a b f = some r ∧ s = [(22, .v (.bool f))] ∧ ob = [O0 g [Ab a]]) (K2 1 2) J2 ?_ ?_
 refine qD (Ao 7 [.l 1 (b.length : Int), .o 3 0, .l 4 (a.Segments.length : Int)] I ⟨A6, I, A6, J⟩ ?_)
 rcases bt (((b.length : Int) != (a.Segments.length : Int))) with d | d
 have h := Cb d h
 exact Ah 19 I d (Af 3 I (qE (lg ⟨true, h, I2⟩ [0])))
 have h := Cc d h
 obtain ⟨D, E, h⟩ := Ad h
 exact Ah 19 I d (Af 1 I (Bj I I I (qR (eO _ (.v (.func (.func 48) #[] #[])) I (fun x => Nr x) (fun x r h => eA x r h) _ E) (Af 1 I (qE (lg ⟨D, h, I2⟩ [0]))))))
 rintro s ob ⟨f, h, rfl, rfl⟩
 refine Av h I ?_ ?_
 intro F h
 refine Ai I (qL g0 ?_)
 cases io h
 exact qK pr
 intro F h
 refine qI ?_
 subst B
 refine Ak (fun s ob => ∃ (i : Unit), Ig.J2 i = some r ∧ s = [] ∧ ob = []) [] J ?_ ?_
 refine Bk [.l 1 (b.length : Int)] I ⟨A6, J⟩ (qH (Cd 23 I fun G => ?_))
 obtain ⟨ab, H, j⟩ := Ad h
 refine Cg H (K3 2 23 24) J3 (fun (e : Nat) (n : Unit) s ob => s = [(25, .V (e : Int))] ∧ ob = [O0 g [Ab a]]) ⟨I, I⟩ ⟨I, J⟩ (pk [0]) ?_ ?_
 rintro e K n ac s ob M p ⟨rfl, rfl⟩ h N
 have O := Cm p
 refine Ai I (Ac fun ad P => Bl I O (qI ?_))
 subst P
 refine qJ (qH (Bk [.x 1 e ((rL 2 Aa) K)] I ⟨⟨I, Ae M⟩, J⟩ (qJ ?_)))
 obtain ⟨ae, Q, h⟩ := Ad h
 obtain ⟨t, ⟨R, S⟩, h⟩ := Bc h
 refine Bv (.still 0 (sl 6 2 (.act 1 (.still 8 .nil)))) [0] [_] I (Cf 7 [.o 2 0, .x 4 t.1 (Au t.2)] I ⟨⟨R, Ae S⟩, I, J⟩ (rD I (cZ _ _ Q) (A9 1 I (Ar (qE (Av h I ?_ ?_))))))
 intro U h
 refine Ai I ?_
 obtain rfl := N _ (oi h).symm
 have h := j
 have h := Dj h
 refine qL g0 ?_
 cases io h
 exact qK pr
 intro U h
 refine qI (qD (Ao 2 [.k 0 (e + 1 : Nat)] I ⟨Az p G, J⟩ ?_))
 cases io h
 exact qE ⟨_, _, _, I, I2, J4, pk [0]⟩
 rintro n s ob ⟨rfl, rfl⟩ he
 subst he
 have h := Dp j
 have W := Cn b.length
 exact Ai I (Ac fun af ag => Bm I W (qM (lg ⟨(), h, I2⟩ [])))
 rintro s ob ⟨i, h, rfl, rfl⟩
 unfold Ig.J2 at h
 refine Ai I ?_
 cases io h
 exact qK pr
theorem Ot (w : Value) (E : List Piece) (p : List Piece) (r : List Piece) (h : Ls E p = some r) : ACalls Al 65 [.v w, Q3 p] [U1 w E] (Fh 1 fun x os new => ∃ (F : Value), x = .v F ∧ os = [.us nS 69 2 ([].map Aa)] ∧ new = [U1 F r]) := by
 refine Ag Tryz.func65 I I I fun C hC => ?_
 unfold Ls at h
 refine Ai I (Ak (fun s ob => ∃ (i : List Piece) (f : Value), Ls.J1 i = some r ∧ s = [(0, .v f)] ∧ ob = [U1 f i]) [] J ?_ ?_)
 refine Bk [.l 1 (p.length : Int)] I ⟨A6, J⟩ (qH (Cd 8 I fun M => ?_))
 obtain ⟨ag, N, O⟩ := Ad h
 refine Cr N (K2 8 9) J2 (fun (t : Nat) (b : List Piece) s ob => ∃ (e : Value), s = [(10, .V (t : Int)), (0, .v e)] ∧ ob = [U1 e b]) ⟨w, I2⟩ ⟨I, I, J⟩ (pk [0]) ?_ ?_
 rintro t c b G s ob P H ⟨e, rfl, rfl⟩ h
 unfold Ls.B2 at h
 have Q := Cm H
 refine Ai I (Ac fun ah R => Bl I Q (qI ?_))
 subst R
 refine Ak (fun s ob => ∃ (A : List Piece) (u : Value), Ls.J3 A = some G ∧ s = [(0, .v u)] ∧ ob = [U1 u A]) (K3 8 9 10) J3 ?_ ?_
 refine qH (Ac fun ai S => qD (Ao 2 [.x 0 t (Aa c)] I ⟨⟨I, Ae P⟩, J⟩ (qF [] I (B0 [.V 0, .V 0] 2 fun U => qF [1] I (By 1 0 0 [Aa c] I (qE ?_))))))
 subst S
 refine Ac fun aj W => qD (Af 1 I (qN (Bu 0 I I I I) I (Af 1 I (qE ?_))))
 subst W
 refine Ak (fun s ob => ∃ (B : Bool), Ls.J4 c b B = some G ∧ s = [(28, .v (.bool B))] ∧ ob = [U1 e b, O7 U [Aa c]]) (K6 0 6 7 8 9 10) J6 ?_ ?_
 rcases bt (decide ((b.length : Int) > 0)) with j | j
 have h := Cb j h
 obtain ⟨n, ⟨X, D⟩, h⟩ := Bc h
 exact Cl 0 n.1 I D fun Y => Bv (pd 13 0 []) [0, 1] [_, _] I (A9 3 I (A8 18 I j (A9 3 I (Dl I I I I ((A3 (m := n.1) I I I I I Y I X D).yd) dS (A9 1 I (Dl I I I I (Ax 0 n.1 0 I I I (Ae D) I (y := .V n.2.Batch) I) dS (Cf 4 [.o 1 1] I J1 (Ar (qE (lg ⟨(n.2.Batch == c.Batch), h, I2⟩ [0, 1]))))))))))
 have h := Cc j h
 exact Bv (pd 13 0 []) [] [] I (A9 3 I (A8 18 I j (A9 10 I (Ar (qE (lg ⟨false, h, I2⟩ [0, 1]))))))
 rintro s ob ⟨B, h, rfl, rfl⟩
 refine Av h I ?_ ?_
 intro Z h
 obtain ⟨a, ⟨K, g⟩, h⟩ := Bc h
 exact Cl 0 a.1 I g fun aa => Cl 0 a.1 I g fun ab => Bv (sl 11 0 (.drop 11 .nil)) [0, 1] [_, _] I (A9 3 I (qV I (A3 (m := a.1) I I I I I aa I K g) I (A9 1 I (AP.o I (Ax 0 a.1 1 I I I (Ae g) I (y := .V a.2.Volume) I) I (Cf 3 [.o 1 1] I J1 (qV I (A3 (m := a.1) I I I I I ab I K g) I (A9 1 I (qX [0] I I I (Bh 0 a.1 1 I I I (Ae g) I I I I (Be I) I (Cj (x := (⟨a.2.Batch, wr (a.2.Volume + c.Volume)⟩ : Piece)) I) (Ar (qE (lg ⟨(b.set a.1 (⟨a.2.Batch, wr (a.2.Volume + c.Volume)⟩ : Piece)), e, h, I2⟩ [0]))))))))))))
 intro Z h
 obtain ⟨ac, ad, h⟩ := Ad h
 exact qD (Ao 2 [.o 1 1] I J1 (qF [] I (qO 2 (([c] : List Piece).map Aa) (qF [0] I (qU 0 I ad fun ae => Af 1 I (qE (lg ⟨ac, ae, h, I2⟩ [0])))))))
 rintro s ob ⟨A, u, h, rfl, rfl⟩
 unfold Ls.J3 at h
 refine qD (Ao 2 [.k 0 (t + 1 : Nat)] I ⟨Az H M, J⟩ ?_)
 cases io h
 exact qE (lg ⟨u, I2⟩ [0])
 rintro b s ob ⟨e, rfl, rfl⟩ he
 subst he
 have h := O
 have af := Cn p.length
 exact Ai I (Ac fun ak al => Bm I af (qM (lg ⟨b, e, h, I2⟩ [0])))
 rintro s ob ⟨i, f, h, rfl, rfl⟩
 refine Ai I (qL (Ay 69 2) (Dd [1, 0] I ?_))
 obtain rfl := oi h
 exact qK ⟨.inr I, [_], [.us nS 69 2 ([].map Aa), U1 f i], J1, Ca I (Ca I (Cv)), ⟨[.us nS 69 2 ([].map Aa)], [U1 f i], I, I, f, I3⟩⟩
theorem dG (f : Value) (n : List Piece) (r : List Piece) (h : Qp n = some r) : ACalls Al 148 [.v f] [U1 f n] (Fh 1 fun x os new => x = .tup [] ∧ os = [U1 f r] ∧ new = []) := by
 refine Ag Tryz.func148 I I I fun C hC => ?_
 refine Ac fun K t => qD (Af 1 I (qN (Bu 0 I I I I) I (Af 3 I (qE ?_))))
 subst t
 refine qH ?_
 obtain ⟨M, u, w⟩ := Ad h
 refine Dm u [(0, _)] J1 (fun (c : (List Piece) × Int × Int) s ob => s = [(2, .V c.2.1), (3, .V c.2.2)] ∧ ob = [U1 f c.1]) ⟨I, I⟩ ⟨I, I, J⟩ (pk [0]) ?_
 rintro c A s ob ⟨rfl, rfl⟩ h B
 refine Ac fun N D => Ai I (Av h I ?_ ?_)
 intro E h
 refine qI ?_
 subst D
 refine Ak (fun s ob => ∃ (k : List Piece), Qp.J2 c k = some A ∧ s = [] ∧ ob = [U1 f k]) (K3 0 2 3) J3 ?_ ?_
 refine qH ?_
 obtain ⟨b, ⟨F, i⟩, h⟩ := Bc h
 obtain ⟨a, ⟨l, e⟩, h⟩ := Bc h
 obtain ⟨g, ⟨o, j⟩, h⟩ := Bc h
 refine Cl 0 b.1 I i fun G => Cl 0 a.1 I e fun H => Cl 0 a.1 I e fun p => Bv (sl 7 0 (sl 3 8 (.two 7 11 (.act 11 nG) (.act 7 nG)))) [] [] I (A9 6 I (qV I (A3 (m := b.1) I I I I I G I F i) I (A9 2 I (qV I (A3 (m := a.1) I I I I I H I l e) I (qW ?_ ?_)))))
 exact qG [] I I I (Ba (Ax 0 b.1 0 I I I (Ae i) I (y := .agg (Aa b.2)) I) dS (qG [] I I I (Ba (Ax 0 a.1 0 I I I (Ae e) I (y := .agg (Aa a.2)) I) dS (qV I (A3 (m := a.1) I I I I I p I l e) I (qG [0] I I I (Bh 0 a.1 0 I I I (Ae e) I I I I (Be I) I (Cj (x := b.2) I) (qG [] I I I (Ba (Bb 0 (m := g.1) I I I I I I I o (Ae j)) dS (qG [0] I I I (Bh 0 g.1 0 I I I (Ae j) I I I I (Be I) I (Cj (x := a.2) I) (Ar (qE (lg ⟨((c.1.set a.1 b.2).set g.1 a.2), h, I2⟩ [0])))))))))))))
 exact qG [] I I I (Ba (Ax 0 a.1 0 I I I (Ae e) I (y := .agg (Aa a.2)) I) dS (qG [] I I I (Ba (Ax 0 b.1 0 I I I (Ae i) I (y := .agg (Aa b.2)) I) dS (qV I (A3 (m := a.1) I I I I I p I l e) I (qG [0] I I I (Bh 0 a.1 0 I I I (Ae e) I I I I (Be I) I (Cj (x := b.2) I) (qG [] I I I (Ba (Bb 0 (m := g.1) I I I I I I I o (Ae j)) dS (qG [0] I I I (Bh 0 g.1 0 I I I (Ae j) I I I I (Be I) I (Cj (x := a.2) I) (Ar (qE (lg ⟨((c.1.set a.1 b.2).set g.1 a.2), h, I2⟩ [0])))))))))))))
 rintro s ob ⟨k, h, rfl, rfl⟩
 unfold Qp.J2 at h
 refine qD (Af 6 I ?_)
 cases io h
 exact qE ⟨_, _, _, I, I2, J3, pk [0]⟩
 intro E h
 obtain rfl := B _ (oi h).symm
 have h := w
 cases io h
 refine qM ?_
 exact ⟨.inl I, [], [U1 f c.1], J, Ca I (Cv), ⟨[U1 f c.1], [], I5⟩⟩
theorem Ua (b : List Piece) (r : List Piece) (h : Qk b = some r) : ACalls Al 142 [Q3 b] [] (fun x new => ∃ (c : Value), x = .v c ∧ new = [U1 c r]) := by
 refine Ag Tryz.func142 I I I fun C hC => ?_
 refine Ai I (qJ ?_)
 obtain ⟨g, d, h⟩ := Ad h
 refine qD (Af 1 I (qF [] I (Bg I I I (Gy _ _ d) dS ?_)))
 rintro _ _ ⟨a, rfl, rfl⟩
 refine Af 1 I (qE (qJ ?_))
 obtain ⟨e, f, h⟩ := Ad h
 refine qD (Af 1 I (qF [0] I (A7 [0] (dG a _ _ f) ?_)))
 refine qE (Ai I ?_)
 obtain rfl := oi h
 exact qK ⟨.inr I, [_], [U1 a e], J1, Ca I (Cv), ⟨a, I2⟩⟩
theorem On (p : Nat) (a : Int) (b : Bool) : ACalls Al 124 [.P p, .V a, .v (.bool b)] [] (RV (.fn 136 [] [.eptr [.P p], .eptr [.V a], .eptr [.v (.bool b)]])) := by
 refine Ag Tryz.func124 I I I fun C hC => ?_
 refine qJ (qD (qF [] rfl (AX.box (cs := [.P p]) (m := 1) rfl rfl rfl (Bq rfl) fun c => qF [] rfl (AX.box (cs := [.V a]) (m := 1) rfl rfl rfl (Bq rfl) fun d => qF [] rfl (AX.box (cs := [.v (.bool b)]) (m := 1) rfl rfl rfl (Bq rfl) fun e => Af 1 rfl (qE ?_))))))
 refine qJ (qD (qQ (Yp.makeFunc rfl rfl) rfl (Af 1 rfl (qE ?_))))
 refine qL (As N3 rfl [(6, .fn 136 [] [.eptr [.P p], .eptr [.V a], .eptr [.v (.bool b)]])] ⟨⟨_, rfl, .fn (.rest _) (.cons (.box 0 rfl (.rest _)) (.cons (.box 1 rfl (.rest _)) (.cons (.box 2 rfl (.rest _)) .nil)))⟩, J⟩ (ob' := []) (.rest _)) ?_
 exact qK ⟨.inr rfl, [_], [], ⟨rfl, J⟩, Cv, rfl, rfl⟩
theorem Yz (p : Nat) {l : List Port} {q : Li} {a : Int} {b : Bool} {r : List (Int × Int)} (h : Jg l q a b = some r) :
  pR Al 136 [.eptr [.P p], .eptr [.V a], .eptr [.v (.bool b)]] (nK p 2 7 (Q5 l) (Q0 q)) (r.map fun x => [.V x.1, .V x.2]) := by
 refine ⟨_, _, Tryz.func136, rfl, rfl, rfl, fun C Y Kq X ob o hneed hround => ?_⟩
 unfold Jg at h
 obtain ⟨f, hf⟩ : ∃ f, f = (fun (k : Nat) (x : Port) (acc : List (Int × Int)) => (ix q (k : Int)).bind fun r => if ((x.Node != a) || ((r.2 == 0) || (decide (r.2 > 0) != b))) = true then some acc else some (acc ++ [((k : Int), max r.2 (wr (0 - r.2)))])) := ⟨_, rfl⟩
 rw [← hf] at h
 have hg : ∀ k x a r, f k x a = some r → ∃ t, r = a ++ t := by
  intro k x a r hr
  rw [hf] at hr
  obtain ⟨z, _, hr⟩ := Option.bind_eq_some_iff.1 hr
  split at hr
  · cases hr; exact ⟨[], by simp⟩
  · cases hr; exact ⟨_, rfl⟩
 obtain ⟨A, ty, sz, cs, B, D, M⟩ := hneed 0 ob o
 refine qJ (qD (Af 4 rfl (qN (Ck (A + 1) 0 2 rfl rfl B rfl (by omega) (Mr rfl D)) rfl (qQ (Pu rfl rfl rfl) rfl (Af 1 rfl (qE ?_))))))
 refine L9 12 rfl fun hm => ?_
 replace hm : l.length ≤ 9223372036854775806 := by rw [List.length_map] at hm; omega
 refine qH ?_
 refine Mz (fun m s j => ∃ k acc ob', k + m = l.length ∧ s = [(14, .V (k : Int)), (0, .v (.func (.yield Y.l) #[] #[])), (1, .eptr [.P p]), (2, .eptr [.V a]), (3, .eptr [.v (.bool b)]), (12, Q5 l), (13, .V (l.length : Int))] ∧ j = Y.ob .ready none :: ob' ∧ Kq acc.length ob' ∧ forS f k (l.drop k) acc = some r) (m := l.length) ⟨0, [], ob, by simp, rfl, rfl, o, h⟩ ⟨⟨rfl, rfl, rfl, rfl, rfl, rfl, rfl, J⟩, OL.all (σ := ⟨[], _⟩)⟩ ?_
 rintro m s j ⟨k, acc, ob', hk, rfl, rfl, hJ, hfo⟩
 refine Ai rfl ?_
 rcases Nat.lt_or_ge k l.length with hkl | hkl
 · have hc : decide ((k : Int) < (l.length : Int)) = true := decide_eq_true (by omega)
   refine qJ (Bl rfl hc (qI ?_))
   have hx : l[k]? = some l[k] := List.getElem?_eq_getElem hkl
   generalize l[k] = x at hx
   obtain ⟨acc', ha, hfo'⟩ := aB hx hfo
   obtain ⟨E, N, O, P, u, Q, F⟩ := hneed _ ob' hJ
   rw [hf] at ha
   obtain ⟨z, hz, ha⟩ := Option.bind_eq_some_iff.1 ha
   obtain ⟨G, H⟩ := V4 hz
   have hkz : k = z.1 := by omega
   refine qJ ?_
   refine qH ?_
   refine qJ (qD (Af 1 rfl (qQ (H9 (m := k) rfl rfl rfl rfl rfl rfl rfl (Ae hx)) rfl (Af 1 rfl (qF [] rfl (AX.alloc (cs := W4) (m := 3) rfl rfl rfl rfl rfl (Bq rfl) fun w => Af 1 rfl (qF [(Y.ob .ready none :: ob').length] rfl (Nc (es' := [Bn x]) 0 0 rfl rfl rfl rfl rfl rfl rfl (Be rfl) rfl (qE ?_)))))))))
   refine qJ (qD (Af 4 rfl (qN (Ck (E + 1) 0 7 rfl rfl (by rw [List.getElem?_append_left (by have := (List.getElem?_eq_some_iff.1 u).1; simp; omega)]; exact u) rfl (by omega) (Mr rfl F)) rfl (Af 1 rfl (qQ (H9 (m := z.1) rfl rfl rfl rfl rfl rfl G (Ae H)) rfl (Af 2 rfl (qE ?_)))))))
   refine qJ ?_
   refine Ak (fun s j => s = [(40, .v (.bool ((x.Node != a) || ((z.2 == 0) || (decide (z.2 > 0) != b)))))] ∧ j = (Y.ob .ready none :: ob') ++ [.arr w 82 3 1 [Bn x]]) (K9 14 0 1 2 3 12 13 5 7) ⟨rfl, rfl, rfl, rfl, rfl, rfl, rfl, rfl, rfl, J⟩ ?_ ?_
   · refine qD (Af 1 rfl (qN (Ck (Y.ob .ready none :: ob').length 0 1 rfl rfl List.getElem?_concat_length rfl rfl (y := .V x.Node) rfl) rfl (Af 3 rfl ?_)))
     rcases bt (x.Node != a) with g | g
     · refine Ah 31 rfl g (Af 9 rfl (qE ?_))
       exact ⟨_, _, ⟨rfl, rfl⟩, ⟨D3 (by rw [g]; rfl), rfl, rfl, rfl, rfl, rfl, rfl, rfl, rfl, rfl, J⟩, OL.all (σ := ⟨[], _⟩)⟩
     · refine Ah 31 rfl g (Af 4 rfl ?_)
       rcases bt (z.2 == 0) with n | n
       · refine Ah 35 rfl n (Af 5 rfl (qE ?_))
         exact ⟨_, _, ⟨rfl, rfl⟩, ⟨D3 (by rw [g, n]; rfl), rfl, rfl, rfl, rfl, rfl, rfl, rfl, rfl, rfl, J⟩, OL.all (σ := ⟨[], _⟩)⟩
       · refine Ah 35 rfl n (Af 3 rfl (Bj rfl rfl rfl (qQ (mH rfl rfl rfl rfl) rfl (Af 1 rfl (qE ?_)))))
         exact ⟨_, _, ⟨rfl, rfl⟩, ⟨D3 (by rw [g, n]; rfl), rfl, rfl, rfl, rfl, rfl, rfl, rfl, rfl, rfl, J⟩, OL.all (σ := ⟨[], _⟩)⟩
   · rintro s j ⟨rfl, rfl⟩
     have hcw : wr ((k : Int) + 1) = ((k + 1 : Nat) : Int) := Az hkl hm
     refine AW.cond rfl rfl (fun hb => ?_) (fun hb => ?_)
     · rw [if_pos hb] at ha
       obtain rfl := oi ha
       refine qM (qD (Ao 2 [.k 0 (k + 1 : Nat)] rfl ⟨hcw, J⟩ (qE ?_)))
       exact ⟨m - 1, _, _, by omega, ⟨k + 1, acc, ob', by omega, rfl, rfl, hJ, hfo'⟩, ⟨rfl, rfl, rfl, rfl, rfl, rfl, rfl, J⟩, OL.app⟩
     · rw [if_neg (by simp [hb])] at ha
       obtain rfl := oi ha
       obtain ⟨t, ht⟩ := Yn hg _ _ _ _ hfo'
       refine qI ?_
       have hv : (r.map fun x => [T.V x.1, T.V x.2])[acc.length]? = some [T.V (k : Int), T.V (max z.2 (wr (0 - z.2)))] := by
        rw [ht]; simp
       refine qJ (qD (Af 6 rfl (AO.yield (its := [.arr w 82 3 1 [Bn x]]) (hround _ _ _ hv hJ) rfl rfl rfl ?_ ?_)))
       · intro i K
         refine Af 1 rfl (qE ?_)
         refine Bm rfl rfl (qI ?_)
         refine qD (Ao 2 [.k 0 (k + 1 : Nat)] rfl ⟨hcw, J⟩ (qE ?_))
         exact ⟨m - 1, _, _, by omega, ⟨k + 1, _, i, by omega, rfl, rfl, by simpa using K, hfo'⟩, ⟨rfl, rfl, rfl, rfl, rfl, rfl, rfl, J⟩, OL.app (l := Y.ob .ready none :: i)⟩
       · intro e c i hj hX
         refine Af 1 rfl (qE ?_)
         refine Bl rfl rfl (qK ?_)
         exact ⟨.inr rfl, [], Y.ob .done (some c) :: i, J, List.sublist_append_left (Y.ob .done (some c) :: i) _, .inr ⟨e, c, i, hj, hX, rfl⟩⟩
 · have hc : decide ((k : Int) < (l.length : Int)) = false := decide_eq_false (by omega)
   refine qJ (Bm rfl hc (qM ?_))
   have hke : k = l.length := by omega
   subst hke
   rw [List.drop_length] at hfo
   simp only [forS, Option.some.injEq] at hfo
   subst hfo
   exact ⟨.inl rfl, [], Y.ob .ready none :: ob', J, List.Sublist.refl _, .inl ⟨ob', by simpa using hJ, rfl⟩⟩
theorem Ox (p : Nat) (a : Int) (b : Bool) : ACalls Al 125 [.P p, .V a, .v (.bool b)] [] (RV (.fn 137 [] [.eptr [.P p], .eptr [.v (.bool b)], .eptr [.V a]])) := by
 refine Ag Tryz.func125 I I I fun C hC => ?_
 refine qJ (qD (qF [] rfl (AX.box (cs := [.P p]) (m := 1) rfl rfl rfl (Bq rfl) fun c => qF [] rfl (AX.box (cs := [.V a]) (m := 1) rfl rfl rfl (Bq rfl) fun d => qF [] rfl (AX.box (cs := [.v (.bool b)]) (m := 1) rfl rfl rfl (Bq rfl) fun e => Af 1 rfl (qE ?_))))))
 refine qJ (qD (qQ (Yp.makeFunc rfl rfl) rfl (Af 1 rfl (qE ?_))))
 refine qL (As N3 rfl [(6, .fn 137 [] [.eptr [.P p], .eptr [.v (.bool b)], .eptr [.V a]])] ⟨⟨_, rfl, .fn (.rest _) (.cons (.box 0 rfl (.rest _)) (.cons (.box 2 rfl (.rest _)) (.cons (.box 1 rfl (.rest _)) .nil)))⟩, J⟩ (ob' := []) (.rest _)) ?_
 exact qK ⟨.inr rfl, [_], [], ⟨rfl, J⟩, Cv, rfl, rfl⟩
theorem Yx (p : Nat) {l : List Sg} {q : Li} {a : Int} {b : Bool} {r : List (Int × Int)} (h : Je l q a b = some r) :
  pR Al 137 [.eptr [.P p], .eptr [.v (.bool b)], .eptr [.V a]] (nK p 1 6 (Q4 l) (Q0 q)) (r.map fun x => [.V x.1, .V x.2]) := by
 refine ⟨_, _, Tryz.func137, rfl, rfl, rfl, fun C Y Kq X ob o hneed hround => ?_⟩
 unfold Je at h
 obtain ⟨f, hf⟩ : ∃ f, f = (fun (k : Nat) (x : Sg) (acc : List (Int × Int)) => (ix q (k : Int)).bind fun r => if (((r.2 == 0) || (b && ((Bo x r.2).2 != a))) || (!b && ((Bo x r.2).1 != a))) = true then some acc else some (acc ++ [((k : Int), max r.2 (wr (0 - r.2)))])) := ⟨_, rfl⟩
 rw [← hf] at h
 have hg : ∀ k x a r, f k x a = some r → ∃ t, r = a ++ t := by
  intro k x a r hr
  rw [hf] at hr
  obtain ⟨z, _, hr⟩ := Option.bind_eq_some_iff.1 hr
  split at hr
  · cases hr; exact ⟨[], by simp⟩
  · cases hr; exact ⟨_, rfl⟩
 obtain ⟨A, ty, sz, cs, B, D, M⟩ := hneed 0 ob o
 refine qJ (qD (Af 4 rfl (qN (Ck (A + 1) 0 1 rfl rfl B rfl (by omega) (Mr rfl D)) rfl (qQ (Pu rfl rfl rfl) rfl (Af 1 rfl (qE ?_))))))
 refine L9 14 rfl fun hm => ?_
 replace hm : l.length ≤ 9223372036854775806 := by rw [List.length_map] at hm; omega
 refine qH ?_
 refine Mz (fun m s j => ∃ k acc ob', k + m = l.length ∧ s = [(16, .V (k : Int)), (0, .v (.func (.yield Y.l) #[] #[])), (1, .eptr [.P p]), (2, .eptr [.v (.bool b)]), (3, .eptr [.V a]), (14, Q4 l), (15, .V (l.length : Int))] ∧ j = Y.ob .ready none :: ob' ∧ Kq acc.length ob' ∧ forS f k (l.drop k) acc = some r) (m := l.length) ⟨0, [], ob, by simp, rfl, rfl, o, h⟩ ⟨⟨rfl, rfl, rfl, rfl, rfl, rfl, rfl, J⟩, OL.all (σ := ⟨[], _⟩)⟩ ?_
 rintro m s j ⟨k, acc, ob', hk, rfl, rfl, hJ, hfo⟩
 refine Ai rfl ?_
 rcases Nat.lt_or_ge k l.length with hkl | hkl
 · have hc : decide ((k : Int) < (l.length : Int)) = true := decide_eq_true (by omega)
   refine qJ (Bl rfl hc (qI ?_))
   have hx : l[k]? = some l[k] := List.getElem?_eq_getElem hkl
   generalize l[k] = x at hx
   obtain ⟨acc', ha, hfo'⟩ := aB hx hfo
   obtain ⟨E, O, P, Q, u, R, F⟩ := hneed _ ob' hJ
   rw [hf] at ha
   obtain ⟨z, hz, ha⟩ := Option.bind_eq_some_iff.1 ha
   obtain ⟨G, H⟩ := V4 hz
   have hkz : k = z.1 := by omega
   refine qJ ?_
   refine qH ?_
   refine qJ (qD (Af 1 rfl (qQ (H9 (m := k) rfl rfl rfl rfl rfl rfl rfl (Ae hx)) rfl (Af 1 rfl (qF [] rfl (AX.alloc (cs := W1) (m := 7) rfl rfl rfl rfl rfl (Bq rfl) fun w => Af 1 rfl (qF [(Y.ob .ready none :: ob').length] rfl (Nc (es' := [Au x]) 0 0 rfl rfl rfl rfl rfl rfl rfl (Be rfl) rfl (qE ?_)))))))))
   refine qJ (qD (Af 4 rfl (qN (Ck (E + 1) 0 6 rfl rfl (by rw [List.getElem?_append_left (by have := (List.getElem?_eq_some_iff.1 u).1; simp; omega)]; exact u) rfl (by omega) (Mr rfl F)) rfl (Af 1 rfl (qQ (H9 (m := z.1) rfl rfl rfl rfl rfl rfl G (Ae H)) rfl (Af 2 rfl (qE ?_)))))))
   refine qJ (qD (qN (Ck (Y.ob .ready none :: ob').length 0 0 rfl rfl List.getElem?_concat_length rfl rfl (y := .agg (Au x)) rfl) rfl (Af 1 rfl (qR (T5 x z.2 _ rfl) (Af 5 rfl (qE ?_))))))
   refine qJ ?_
   refine Ak (fun s j => s = [(53, .v (.bool (((z.2 == 0) || (b && ((Bo x z.2).2 != a))) || (!b && ((Bo x z.2).1 != a)))))] ∧ j = (Y.ob .ready none :: ob') ++ [O5 w [Au x]]) (K9 16 0 1 2 3 14 15 5 7) ⟨rfl, rfl, rfl, rfl, rfl, rfl, rfl, rfl, rfl, J⟩ ?_ ?_
   · refine qD (Af 3 rfl ?_)
     rcases bt (z.2 == 0) with g | g
     · refine Ah 37 rfl g (Af 2 rfl (Cq rfl rfl (Bq rfl) (Cq rfl rfl (Bq rfl) (Cq rfl rfl (Bq rfl) (Af 6 rfl (Cq rfl rfl (Bq rfl) (Cq rfl rfl (Bq rfl) (Cq rfl rfl (Bq rfl) (Af 2 rfl (qE ?_))))))))))
       exact ⟨_, _, ⟨rfl, rfl⟩, ⟨D3 (by simp [g]), rfl, rfl, rfl, rfl, rfl, rfl, rfl, rfl, rfl, J⟩, OL.all (σ := ⟨[], _⟩)⟩
     · cases b
       · refine Ah 37 rfl g (Af 8 rfl (Af 3 rfl (Ah 48 rfl rfl (Af 5 rfl (qE ?_)))))
         exact ⟨_, _, ⟨rfl, rfl⟩, ⟨D3 (by simp [g]), rfl, rfl, rfl, rfl, rfl, rfl, rfl, rfl, rfl, J⟩, OL.all (σ := ⟨[], _⟩)⟩
       · refine Ah 37 rfl g (Af 8 rfl (?_))
         rcases bt ((Bo x z.2).2 != a) with n | n
         · refine Ah 45 rfl n (Af 3 rfl (Cq rfl rfl (Bq rfl) (Cq rfl rfl (Bq rfl) (Cq rfl rfl (Bq rfl) (Af 2 rfl (qE ?_))))))
           exact ⟨_, _, ⟨rfl, rfl⟩, ⟨D3 (by simp [g, n]), rfl, rfl, rfl, rfl, rfl, rfl, rfl, rfl, rfl, J⟩, OL.all (σ := ⟨[], _⟩)⟩
         · refine Ah 45 rfl n (Af 3 rfl (Ah 48 rfl rfl (Af 3 rfl (Af 2 rfl (qE ?_)))))
           exact ⟨_, _, ⟨rfl, rfl⟩, ⟨D3 (by simp [g, n]), rfl, rfl, rfl, rfl, rfl, rfl, rfl, rfl, rfl, J⟩, OL.all (σ := ⟨[], _⟩)⟩
   · rintro s j ⟨rfl, rfl⟩
     have hcw : wr ((k : Int) + 1) = ((k + 1 : Nat) : Int) := Az hkl hm
     refine AW.cond rfl rfl (fun hb => ?_) (fun hb => ?_)
     · rw [if_pos hb] at ha
       obtain rfl := oi ha
       refine qM (qD (Ao 2 [.k 0 (k + 1 : Nat)] rfl ⟨hcw, J⟩ (qE ?_)))
       exact ⟨m - 1, _, _, by omega, ⟨k + 1, acc, ob', by omega, rfl, rfl, hJ, hfo'⟩, ⟨rfl, rfl, rfl, rfl, rfl, rfl, rfl, J⟩, OL.app⟩
     · rw [if_neg (by simp [hb])] at ha
       obtain rfl := oi ha
       obtain ⟨t, ht⟩ := Yn hg _ _ _ _ hfo'
       refine qI ?_
       have hv : (r.map fun x => [T.V x.1, T.V x.2])[acc.length]? = some [T.V (k : Int), T.V (max z.2 (wr (0 - z.2)))] := by
        rw [ht]; simp
       refine qJ (qD (Af 6 rfl (AO.yield (its := [O5 w [Au x]]) (hround _ _ _ hv hJ) rfl rfl rfl ?_ ?_)))
       · intro i K
         refine Af 1 rfl (qE ?_)
         refine Bm rfl rfl (qI ?_)
         refine qD (Ao 2 [.k 0 (k + 1 : Nat)] rfl ⟨hcw, J⟩ (qE ?_))
         exact ⟨m - 1, _, _, by omega, ⟨k + 1, _, i, by omega, rfl, rfl, by simpa using K, hfo'⟩, ⟨rfl, rfl, rfl, rfl, rfl, rfl, rfl, J⟩, OL.app (l := Y.ob .ready none :: i)⟩
       · intro e c i hj hX
         refine Af 1 rfl (qE ?_)
         refine Bl rfl rfl (qK ?_)
         exact ⟨.inr rfl, [], Y.ob .done (some c) :: i, J, List.sublist_append_left (Y.ob .done (some c) :: i) _, .inr ⟨e, c, i, hj, hX, rfl⟩⟩
 · have hc : decide ((k : Int) < (l.length : Int)) = false := decide_eq_false (by omega)
   refine qJ (Bm rfl hc (qM ?_))
   have hke : k = l.length := by omega
   subst hke
   rw [List.drop_length] at hfo
   simp only [forS, Option.some.injEq] at hfo
   subst hfo
   exact ⟨.inl rfl, [], Y.ob .ready none :: ob', J, List.Sublist.refl _, .inl ⟨ob', by simpa using hJ, rfl⟩⟩
theorem cN (b : Nat) (a : advance_line) (w0_0 : Value) (w0_1 : Value) (w0_2 : Value) (k : Int) (r : (List Piece) × ((List (List Piece)) × (List (List Piece)) × (List (List Piece)))) (h : Qe a k = some r) : ACalls Al 123 [.P b, .V k] [O3 b [[Q1 a.n_.Nodes, Q4 a.n_.Segments, Q5 a.n_.Ports, Q6 a.n_.Stations, .V a.n_.Vapour, .V a.n_.Settle, Q0 a.p.Rates, Q0 a.p.Ports, Q2 a.p.Pumps, Q0 a.feeds, Q0 a.order, .v w0_0, .v w0_1, .v w0_2]], .us w0_0 34 1 (a.fills.map (rL 2 Aa)), .us w0_1 34 1 (a.given.map (rL 2 Aa)), .us w0_2 34 1 (a.out_.map (rL 2 Aa))] (Fh 4 fun x os new => ∃ (n : Value) (u1_0 : Value) (u1_1 : Value) (u1_2 : Value), x = .v n ∧ os = [O3 b [[Q1 a.n_.Nodes, Q4 a.n_.Segments, Q5 a.n_.Ports, Q6 a.n_.Stations, .V a.n_.Vapour, .V a.n_.Settle, Q0 a.p.Rates, Q0 a.p.Ports, Q2 a.p.Pumps, Q0 a.feeds, Q0 a.order, .v u1_0, .v u1_1, .v u1_2]], .us u1_0 34 1 (r.2.1.map (rL 2 Aa)), .us u1_1 34 1 (r.2.2.1.map (rL 2 Aa)), .us u1_2 34 1 (r.2.2.2.map (rL 2 Aa))] ∧ new = [U1 n r.1]) := by
 refine Ag Tryz.func123 I I I fun C hC => ?_
 unfold Qe at h
 refine Ac fun y1 B => qD (qF [] I (Cp [.P b] 1 fun s => Af 1 I (qE ?_)))
 subst B
 refine Ac fun y3 D => qD (qF [] I (B0 [.N] 1 fun t => qE ?_))
 subst D
 refine Ac fun y5 E => Ac fun y6 F => qD (Ao 2 [.o 0 4] I J1 (qF [] I (Bg I I I (On _ _ _) dS ?_)))
 rintro _ _ ⟨rfl, rfl⟩
 refine qE ?_
 subst F
 refine qH ?_
 obtain ⟨l7, G, h⟩ := Ad h
 refine qL (Ay 69 2) ?_
 obtain ⟨ai, H, K⟩ := Ad h
 refine Ib H (Yz b G) (fun x => [.V x.1, .V x.2]) I I (fun _ => I) I I I (fun (M : Nat) (i : List Piece) ob => ∃ (d : Value), ob = [O3 b [[Q1 a.n_.Nodes, Q4 a.n_.Segments, Q5 a.n_.Ports, Q6 a.n_.Stations, .V a.n_.Vapour, .V a.n_.Settle, Q0 a.p.Rates, Q0 a.p.Ports, Q2 a.p.Pumps, Q0 a.feeds, Q0 a.order, .v w0_0, .v w0_1, .v w0_2]], .us w0_0 34 1 (a.fills.map (rL 2 Aa)), .us w0_1 34 1 (a.given.map (rL 2 Aa)), .us w0_2 34 1 (a.out_.map (rL 2 Aa)), .arr s 101 1 1 [[.P b]], .arr t 34 1 1 [[.v d]], U1 d i]) ⟨nS, I⟩ (pk N7) (by rintro _ _ _ ⟨d, rfl⟩; exact ⟨0, _, _, _, rfl, rfl, rfl⟩) (fun _ _ _ => Ai I (qD (Af 1 I (qE I2)))) ?_ ?_
 rintro C1 M u i aj ob ak al ⟨d, rfl⟩ h
 refine qH ?_
 obtain ⟨f, ⟨O, P⟩, h⟩ := Bc h
 obtain ⟨am, Q, h⟩ := Ad h
 refine Bv (sl 10 0 (.act 10 (.act 11 (.drop 12 .nil)))) [5, 4, 0] [_, _, _] I (Cf 9 [.o 0 0, .o 1 1, .o 4 2, .x 6 f.1 (rI f.2)] I ⟨⟨O, Ae P⟩, I, I, I, J⟩ (qV I (Bi (l := [.V f.2, .V u.2]) Ct I) I (qG [] I I I (qO 2 (([(⟨f.2, u.2⟩ : Piece)] : List Piece).map Aa) (qG [6] I I I (E8 [6] (Ot d _ _ _ Q) ?_))))))
 rintro _ _ _ - ⟨w, rfl, rfl, rfl⟩
 refine rC 7 I fun R => qX [5] I I I (qT 5 0 0 (es' := [[.v w]]) I I I I I I (Bz R) I (Be I) I I (Ar ?_))
 cases io h
 exact qE ⟨_, ⟨w, I⟩, pk [0, 1, 2, 3, 4, 5, 7]⟩
 rintro i ob ⟨d, rfl⟩ he
 subst he
 have h := K
 refine VS.ret ?_
 subst E
 refine qJ (Ac fun an S => qD (Ao 2 [.o 0 4] I J1 (qF [] I (Bg I I I (Ox _ _ _) dS ?_))))
 rintro _ _ ⟨rfl, rfl⟩
 refine qE ?_
 subst S
 refine qH ?_
 obtain ⟨ao, U, h⟩ := Ad h
 obtain ⟨ap, W, X⟩ := Ad h
 refine Ib W (Yx b U) (fun x => [.V x.1, .V x.2]) I I (fun _ => I) I I I (fun (Y : Nat) (e : List Piece) ob => ∃ (c : Value), ob = [O3 b [[Q1 a.n_.Nodes, Q4 a.n_.Segments, Q5 a.n_.Ports, Q6 a.n_.Stations, .V a.n_.Vapour, .V a.n_.Settle, Q0 a.p.Rates, Q0 a.p.Ports, Q2 a.p.Pumps, Q0 a.feeds, Q0 a.order, .v w0_0, .v w0_1, .v w0_2]], .us w0_0 34 1 (a.fills.map (rL 2 Aa)), .us w0_1 34 1 (a.given.map (rL 2 Aa)), .us w0_2 34 1 (a.out_.map (rL 2 Aa)), .arr s 101 1 1 [[.P b]], .arr t 34 1 1 [[.v c]], U1 c e]) ⟨d, I⟩ (pk N7) (by rintro _ _ _ ⟨c, rfl⟩; exact ⟨0, _, _, _, rfl, rfl, rfl⟩) (fun _ _ _ => qD (Af 1 I (qE I2))) ?_ ?_
 rintro C1 Y aq e ar ob au av ⟨c, rfl⟩ h
 refine qH ?_
 obtain ⟨g, ⟨Z, j⟩, h⟩ := Bc h
 obtain ⟨aw, aa, h⟩ := Ad h
 refine Cl 2 g.1 I j fun ab => Bv (sl 8 0 (.act 8 (.drop 9 .nil))) [5, 4, 0, 2] [_, _, _, _] I (Cf 6 [.o 0 0, .o 1 1, .o 4 2] I J3 (qV I (A3 (m := g.1) I I I I I ab I Z j) I (AP.o I (Ax 3 g.1 0 I I I (Ae j) I (y := Q3 g.2) I) I (qG [6] I I I (E8 [6] (Ot c _ _ _ aa) ?_)))))
 rintro _ _ _ - ⟨A, rfl, rfl, rfl⟩
 refine rC 7 I fun ac => qX [5] I I I (qT 5 0 0 (es' := [[.v A]]) I I I I I I (Bz ac) I (Be I) I I (Ar ?_))
 cases io h
 exact qE ⟨_, ⟨A, I⟩, pk [0, 1, 2, 3, 4, 5, 7]⟩
 rintro e ob ⟨c, rfl⟩ he
 subst he
 have h := X
 refine VS.ret (Bk [.o 0 5] I J1 (Dd [0, 1, 2, 3, 6] I ?_))
 obtain rfl := oi h
 exact qK ⟨.inr I, [_], [O3 b [[Q1 a.n_.Nodes, Q4 a.n_.Segments, Q5 a.n_.Ports, Q6 a.n_.Stations, .V a.n_.Vapour, .V a.n_.Settle, Q0 a.p.Rates, Q0 a.p.Ports, Q2 a.p.Pumps, Q0 a.feeds, Q0 a.order, .v w0_0, .v w0_1, .v w0_2]], .us w0_0 34 1 (a.fills.map (rL 2 Aa)), .us w0_1 34 1 (a.given.map (rL 2 Aa)), .us w0_2 34 1 (a.out_.map (rL 2 Aa)), U1 c e], J1, Ca I (Ca I (Ca I (Ca I (Ca I (Cv))))), ⟨[O3 b [[Q1 a.n_.Nodes, Q4 a.n_.Segments, Q5 a.n_.Ports, Q6 a.n_.Stations, .V a.n_.Vapour, .V a.n_.Settle, Q0 a.p.Rates, Q0 a.p.Ports, Q2 a.p.Pumps, Q0 a.feeds, Q0 a.order, .v w0_0, .v w0_1, .v w0_2]], .us w0_0 34 1 (a.fills.map (rL 2 Aa)), .us w0_1 34 1 (a.given.map (rL 2 Aa)), .us w0_2 34 1 (a.out_.map (rL 2 Aa))], [U1 c e], I, I, c, w0_0, w0_1, w0_2, I3⟩⟩
theorem dE (c : Nat) (a : advance_line) (w0_0 : Value) (w0_1 : Value) (w0_2 : Value) (k : Int) (n : List Piece) (r : Int × ((List (List Piece)) × (List (List Piece)) × (List (List Piece)))) (h : Qn a k n = some r) : ACalls Al 127 [.P c, .V k, Q3 n] [O3 c [[Q1 a.n_.Nodes, Q4 a.n_.Segments, Q5 a.n_.Ports, Q6 a.n_.Stations, .V a.n_.Vapour, .V a.n_.Settle, Q0 a.p.Rates, Q0 a.p.Ports, Q2 a.p.Pumps, Q0 a.feeds, Q0 a.order, .v w0_0, .v w0_1, .v w0_2]], .us w0_0 34 1 (a.fills.map (rL 2 Aa)), .us w0_1 34 1 (a.given.map (rL 2 Aa)), .us w0_2 34 1 (a.out_.map (rL 2 Aa))] (Fh 4 fun x os new => ∃ (u1_0 : Value) (u1_1 : Value) (u1_2 : Value), x = .V r.1 ∧ os = [O3 c [[Q1 a.n_.Nodes, Q4 a.n_.Segments, Q5 a.n_.Ports, Q6 a.n_.Stations, .V a.n_.Vapour, .V a.n_.Settle, Q0 a.p.Rates, Q0 a.p.Ports, Q2 a.p.Pumps, Q0 a.feeds, Q0 a.order, .v u1_0, .v u1_1, .v u1_2]], .us u1_0 34 1 (r.2.1.map (rL 2 Aa)), .us u1_1 34 1 (r.2.2.1.map (rL 2 Aa)), .us u1_2 34 1 (r.2.2.2.map (rL 2 Aa))] ∧ new = []) := by
 refine Ag Tryz.func127 I I I fun C hC => ?_
 refine Ai I (Ac fun y2 E => ?_)
 obtain ⟨t, ⟨F, G⟩, h⟩ := Bc h
 refine Lb [.o 4 0, .x 6 t.1 (rI t.2)] I ⟨⟨F, Ae G⟩, I, J⟩ ?_
 subst E
 refine Ak (fun s ob => ∃ (u : List Piece), Qn.J1 a k t u = some r ∧ s = [(2, Q3 u)] ∧ ob = [O3 c [[Q1 a.n_.Nodes, Q4 a.n_.Segments, Q5 a.n_.Ports, Q6 a.n_.Stations, .V a.n_.Vapour, .V a.n_.Settle, Q0 a.p.Rates, Q0 a.p.Ports, Q2 a.p.Pumps, Q0 a.feeds, Q0 a.order, .v w0_0, .v w0_1, .v w0_2]], .us w0_0 34 1 (a.fills.map (rL 2 Aa)), .us w0_1 34 1 (a.given.map (rL 2 Aa)), .us w0_2 34 1 (a.out_.map (rL 2 Aa))]) (K3 0 1 7) J3 ?_ ?_
 refine Ai I (Av h I ?_ ?_)
 intro H h
 obtain ⟨l, M, h⟩ := Ad h
 refine qD (Af 1 I (qF [] I (Bg I I I (Ua _ _ M) dS ?_)))
 rintro _ _ ⟨N, rfl, rfl⟩
 exact Af 1 I (qS (As [4] (K := [U1 N l]) I [(2, Q3 l), (23, Q3 l)] ⟨⟨_, I, .us 0 I⟩, ⟨_, I, .us 0 I⟩, J⟩ (ob' := [O3 c [[Q1 a.n_.Nodes, Q4 a.n_.Segments, Q5 a.n_.Ports, Q6 a.n_.Stations, .V a.n_.Vapour, .V a.n_.Settle, Q0 a.p.Rates, Q0 a.p.Ports, Q2 a.p.Pumps, Q0 a.feeds, Q0 a.order, .v w0_0, .v w0_1, .v w0_2]], .us w0_0 34 1 (a.fills.map (rL 2 Aa)), .us w0_1 34 1 (a.given.map (rL 2 Aa)), .us w0_2 34 1 (a.out_.map (rL 2 Aa))]) (.rest _)) (qE (lg ⟨l, h, I2⟩ N4)))
 intro H h
 exact qI (lg ⟨n, h, I2⟩ N4)
 rintro s ob ⟨u, h, rfl, rfl⟩
 refine Ac fun ac O => ?_
 obtain ⟨e, ⟨B, g⟩, h⟩ := Bc h
 obtain ⟨b, P, h⟩ := Ad h
 refine qD (Ao 5 [.o 3 0] I J1 (qN (Bb 1 (m := e.1) I I I I I I I B (Ae g)) I (qN (Ax 1 e.1 0 I I I (Ae g) I (y := Q3 e.2) I) I (Af 2 I (qF [] I (Bg I I I (eS _ _ _ _ P) dS ?_))))))
 rintro _ _ ⟨w, D, rfl, rfl⟩
 refine Af 7 I (qE ?_)
 subst O
 refine Ac fun ad Q => Ai I (Av h I ?_ ?_)
 intro R h
 refine Ai I (Dd N4 I ?_)
 obtain rfl := oi h
 exact qK ⟨.inr I, [_], [O3 c [[Q1 a.n_.Nodes, Q4 a.n_.Segments, Q5 a.n_.Ports, Q6 a.n_.Stations, .V a.n_.Vapour, .V a.n_.Settle, Q0 a.p.Rates, Q0 a.p.Ports, Q2 a.p.Pumps, Q0 a.feeds, Q0 a.order, .v w0_0, .v w0_1, .v w0_2]], .us w0_0 34 1 (a.fills.map (rL 2 Aa)), .us w0_1 34 1 (a.given.map (rL 2 Aa)), .us w0_2 34 1 (a.out_.map (rL 2 Aa))], J1, Ca I (Ca I (Ca I (Ca I (Cv)))), ⟨[O3 c [[Q1 a.n_.Nodes, Q4 a.n_.Segments, Q5 a.n_.Ports, Q6 a.n_.Stations, .V a.n_.Vapour, .V a.n_.Settle, Q0 a.p.Rates, Q0 a.p.Ports, Q2 a.p.Pumps, Q0 a.feeds, Q0 a.order, .v w0_0, .v w0_1, .v w0_2]], .us w0_0 34 1 (a.fills.map (rL 2 Aa)), .us w0_1 34 1 (a.given.map (rL 2 Aa)), .us w0_2 34 1 (a.out_.map (rL 2 Aa))], [], I, I, w0_0, w0_1, w0_2, I3⟩⟩
 intro R h
 refine qI ?_
 subst Q
 refine Ak (fun s ob => ∃ (f : List Piece) (i : Value), Qn.J2 a k e b f = some r ∧ s = [(9, .v i)] ∧ ob = [O3 c [[Q1 a.n_.Nodes, Q4 a.n_.Segments, Q5 a.n_.Ports, Q6 a.n_.Stations, .V a.n_.Vapour, .V a.n_.Settle, Q0 a.p.Rates, Q0 a.p.Ports, Q2 a.p.Pumps, Q0 a.feeds, Q0 a.order, .v w0_0, .v w0_1, .v w0_2]], .us w0_0 34 1 (a.fills.map (rL 2 Aa)), .us w0_1 34 1 (a.given.map (rL 2 Aa)), .us w0_2 34 1 (a.out_.map (rL 2 Aa)), U1 w b.1, U1 i f]) (K3 0 1 8) J3 ?_ ?_
 refine Ai I (Av h I ?_ ?_)
 intro S h
 obtain ⟨U, W, h⟩ := Ad h
 refine qD (Af 1 I (qS (As [5] (K := [U1 D b.2.1]) I [(36, Q3 b.2.1), (9, Q3 b.2.1), (42, Q3 b.2.1)] ⟨⟨_, I, .us 0 I⟩, ⟨_, I, .us 0 I⟩, ⟨_, I, .us 0 I⟩, J⟩ (ob' := [O3 c [[Q1 a.n_.Nodes, Q4 a.n_.Segments, Q5 a.n_.Ports, Q6 a.n_.Stations, .V a.n_.Vapour, .V a.n_.Settle, Q0 a.p.Rates, Q0 a.p.Ports, Q2 a.p.Pumps, Q0 a.feeds, Q0 a.order, .v w0_0, .v w0_1, .v w0_2]], .us w0_0 34 1 (a.fills.map (rL 2 Aa)), .us w0_1 34 1 (a.given.map (rL 2 Aa)), .us w0_2 34 1 (a.out_.map (rL 2 Aa)), U1 w b.1]) (.rest _)) (qF [] I (Bg I I I (Ua _ _ W) dS ?_))))
 rintro _ _ ⟨X, rfl, rfl⟩
 exact Af 1 I (qE (lg ⟨U, X, h, I2⟩ N6))
 intro S h
 exact qI (lg ⟨b.2.1, D, h, I2⟩ N6)
 rintro s ob ⟨f, i, h, rfl, rfl⟩
 refine qJ ?_
 obtain ⟨j, ⟨Y, A⟩, h⟩ := Bc h
 refine Cl 1 e.1 I g fun Z => Cl 2 j.1 I A fun aa => Bv (pd 16 0 [13, 15]) [0] [_] I (Cf 12 [.o 3 0, .o 8 0] I J2 (qV I (A3 (m := e.1) I I I I I Z I B g) I (D6 (As [4] (K := [U1 w b.1]) I [(8, Q3 b.1), (54, Q3 b.1)] ⟨⟨_, I, .us 0 I⟩, ⟨_, I, .us 0 I⟩, J⟩ (ob' := [O3 c [[Q1 a.n_.Nodes, Q4 a.n_.Segments, Q5 a.n_.Ports, Q6 a.n_.Stations, .V a.n_.Vapour, .V a.n_.Settle, Q0 a.p.Rates, Q0 a.p.Ports, Q2 a.p.Pumps, Q0 a.feeds, Q0 a.order, .v w0_0, .v w0_1, .v w0_2]], .us w0_0 34 1 (a.fills.map (rL 2 Aa)), .us w0_1 34 1 (a.given.map (rL 2 Aa)), .us w0_2 34 1 (a.out_.map (rL 2 Aa)), U1 i f]) (.rest _)) I (qG [1] I I I (Bh 1 e.1 0 I I I (Ae g) I I I I (Be I) I (Cj (x := b.1) I) (qV I (A3 (m := j.1) I I I I I aa I Y A) I (D6 (As [4] (K := [U1 i f]) I [(9, Q3 f), (55, Q3 f)] ⟨⟨_, I, .us 0 I⟩, ⟨_, I, .us 0 I⟩, J⟩ (ob' := [O3 c [[Q1 a.n_.Nodes, Q4 a.n_.Segments, Q5 a.n_.Ports, Q6 a.n_.Stations, .V a.n_.Vapour, .V a.n_.Settle, Q0 a.p.Rates, Q0 a.p.Ports, Q2 a.p.Pumps, Q0 a.feeds, Q0 a.order, .v w0_0, .v w0_1, .v w0_2]], .us w0_0 34 1 ((a.fills.set e.1 b.1).map (rL 2 Aa)), .us w0_1 34 1 (a.given.map (rL 2 Aa)), .us w0_2 34 1 (a.out_.map (rL 2 Aa))]) (.rest _)) I ?_)))))))
 refine qG [2] I I I (Bh 2 j.1 0 I I I (Ae A) I I I I (Be I) I (Cj (x := f) I) (Ar (qE (Ai I ?_))))
 obtain rfl := oi h
 exact qK ⟨.inr I, [_], [O3 c [[Q1 a.n_.Nodes, Q4 a.n_.Segments, Q5 a.n_.Ports, Q6 a.n_.Stations, .V a.n_.Vapour, .V a.n_.Settle, Q0 a.p.Rates, Q0 a.p.Ports, Q2 a.p.Pumps, Q0 a.feeds, Q0 a.order, .v w0_0, .v w0_1, .v w0_2]], .us w0_0 34 1 ((a.fills.set e.1 b.1).map (rL 2 Aa)), .us w0_1 34 1 ((a.given.set j.1 f).map (rL 2 Aa)), .us w0_2 34 1 (a.out_.map (rL 2 Aa))], J1, Ca I (Ca I (Ca I (Ca I (Cv)))), ⟨[O3 c [[Q1 a.n_.Nodes, Q4 a.n_.Segments, Q5 a.n_.Ports, Q6 a.n_.Stations, .V a.n_.Vapour, .V a.n_.Settle, Q0 a.p.Rates, Q0 a.p.Ports, Q2 a.p.Pumps, Q0 a.feeds, Q0 a.order, .v w0_0, .v w0_1, .v w0_2]], .us w0_0 34 1 ((a.fills.set e.1 b.1).map (rL 2 Aa)), .us w0_1 34 1 ((a.given.set j.1 f).map (rL 2 Aa)), .us w0_2 34 1 (a.out_.map (rL 2 Aa))], [], I, I, w0_0, w0_1, w0_2, I3⟩⟩
theorem dW (c : Nat) (a : advance_line) (w0_0 : Value) (w0_1 : Value) (w0_2 : Value) (R : Int) (r : Int × ((List (List Piece)) × (List (List Piece)) × (List (List Piece)))) (h : Vp a R = some r) : ACalls Al 96 [.P c, .V R] [O3 c [[Q1 a.n_.Nodes, Q4 a.n_.Segments, Q5 a.n_.Ports, Q6 a.n_.Stations, .V a.n_.Vapour, .V a.n_.Settle, Q0 a.p.Rates, Q0 a.p.Ports, Q2 a.p.Pumps, Q0 a.feeds, Q0 a.order, .v w0_0, .v w0_1, .v w0_2]], .us w0_0 34 1 (a.fills.map (rL 2 Aa)), .us w0_1 34 1 (a.given.map (rL 2 Aa)), .us w0_2 34 1 (a.out_.map (rL 2 Aa))] (Fh 4 fun x os new => ∃ (u1_0 : Value) (u1_1 : Value) (u1_2 : Value), x = .V r.1 ∧ os = [O3 c [[Q1 a.n_.Nodes, Q4 a.n_.Segments, Q5 a.n_.Ports, Q6 a.n_.Stations, .V a.n_.Vapour, .V a.n_.Settle, Q0 a.p.Rates, Q0 a.p.Ports, Q2 a.p.Pumps, Q0 a.feeds, Q0 a.order, .v u1_0, .v u1_1, .v u1_2]], .us u1_0 34 1 (r.2.1.map (rL 2 Aa)), .us u1_1 34 1 (r.2.2.1.map (rL 2 Aa)), .us u1_2 34 1 (r.2.2.2.map (rL 2 Aa))] ∧ new = []) := by
 refine Ag Tryz.func96 I I I fun C hC => ?_
 refine Ac fun y1 aa => qD (qF [] I (Cp [.P c] 1 fun B => qF [] I (B0 [.V 0] 1 fun D => qE ?_)))
 subst aa
 refine Ac fun y4 ab => ?_
 obtain ⟨b, ac, h⟩ := Ad h
 refine qD (Ao 2 [.o 0 4] I J1 (qF N4 I (E8 N4 (cN c _ w0_0 w0_1 w0_2 _ _ ac) ?_)))
 rintro _ _ _ - ⟨G, e, f, g, rfl, rfl, rfl⟩
 refine Af 1 I (qE ?_)
 subst ab
 refine Ac fun br ad => qJ (qD (Af 1 I (qN (Bu 6 I I I I) I (Af 1 I (qE (Av h I ?_ ?_))))))
 intro ae h
 refine qJ (qD (qF [5] I (By 5 0 0 [[.V 0]] I (qE (Dd [0, 1, 2, 3, 5] I ?_)))))
 obtain rfl := oi h
 exact qK ⟨.inr I, [_], [O3 c [[Q1 a.n_.Nodes, Q4 a.n_.Segments, Q5 a.n_.Ports, Q6 a.n_.Stations, .V a.n_.Vapour, .V a.n_.Settle, Q0 a.p.Rates, Q0 a.p.Ports, Q2 a.p.Pumps, Q0 a.feeds, Q0 a.order, .v e, .v f, .v g]], .us e 34 1 (b.2.1.map (rL 2 Aa)), .us f 34 1 (b.2.2.1.map (rL 2 Aa)), .us g 34 1 (b.2.2.2.map (rL 2 Aa))], ⟨⟨4, _, _, _, _, _, _, _, I5⟩, J⟩, Ca I (Ca I (Ca I (Ca I (Cv)))), ⟨[O3 c [[Q1 a.n_.Nodes, Q4 a.n_.Segments, Q5 a.n_.Ports, Q6 a.n_.Stations, .V a.n_.Vapour, .V a.n_.Settle, Q0 a.p.Rates, Q0 a.p.Ports, Q2 a.p.Pumps, Q0 a.feeds, Q0 a.order, .v e, .v f, .v g]], .us e 34 1 (b.2.1.map (rL 2 Aa)), .us f 34 1 (b.2.2.1.map (rL 2 Aa)), .us g 34 1 (b.2.2.2.map (rL 2 Aa))], [], I, I, e, f, g, I3⟩⟩
 intro ae h
 refine qI ?_
 subst ad
 refine Ac fun bs af => qJ (qD (Af 1 I (qN (Bu 6 I I I I) I (Af 1 I (qE (Av h I ?_ ?_))))))
 intro ag h
 refine qJ (qD (qF [5] I (By 5 0 0 [[.V 4]] I (qE (Dd [0, 1, 2, 3, 5] I ?_)))))
 obtain rfl := oi h
 exact qK ⟨.inr I, [_], [O3 c [[Q1 a.n_.Nodes, Q4 a.n_.Segments, Q5 a.n_.Ports, Q6 a.n_.Stations, .V a.n_.Vapour, .V a.n_.Settle, Q0 a.p.Rates, Q0 a.p.Ports, Q2 a.p.Pumps, Q0 a.feeds, Q0 a.order, .v e, .v f, .v g]], .us e 34 1 (b.2.1.map (rL 2 Aa)), .us f 34 1 (b.2.2.1.map (rL 2 Aa)), .us g 34 1 (b.2.2.2.map (rL 2 Aa))], ⟨⟨4, _, _, _, _, _, _, _, I5⟩, J⟩, Ca I (Ca I (Ca I (Ca I (Cv)))), ⟨[O3 c [[Q1 a.n_.Nodes, Q4 a.n_.Segments, Q5 a.n_.Ports, Q6 a.n_.Stations, .V a.n_.Vapour, .V a.n_.Settle, Q0 a.p.Rates, Q0 a.p.Ports, Q2 a.p.Pumps, Q0 a.feeds, Q0 a.order, .v e, .v f, .v g]], .us e 34 1 (b.2.1.map (rL 2 Aa)), .us f 34 1 (b.2.2.1.map (rL 2 Aa)), .us g 34 1 (b.2.2.2.map (rL 2 Aa))], [], I, I, e, f, g, I3⟩⟩
 intro ag h
 refine qI ?_
 subst af
 refine Ac fun bt ah => qD (qF [] I (B0 [.N] 1 fun H => qE ?_))
 subst ah
 refine Ac fun bu ai => qJ (qD (Ao 2 [.o 0 4] I J1 (qF [] I (Bg I I I (On _ _ _) dS ?_))))
 rintro _ _ ⟨rfl, rfl⟩
 refine qE (qH ?_)
 obtain ⟨bv, aj, h⟩ := Ad h
 refine qL (Ay 3 1) ?_
 obtain ⟨bw, ak, al⟩ := Ad h
 refine Ib ak (Yz c aj) (fun x => [.V x.1, .V x.2]) I I (fun _ => I) I I I (fun (am : Nat) (M : Li) ob => ∃ (s : Value), ob = [O3 c [[Q1 a.n_.Nodes, Q4 a.n_.Segments, Q5 a.n_.Ports, Q6 a.n_.Stations, .V a.n_.Vapour, .V a.n_.Settle, Q0 a.p.Rates, Q0 a.p.Ports, Q2 a.p.Pumps, Q0 a.feeds, Q0 a.order, .v e, .v f, .v g]], .us e 34 1 (b.2.1.map (rL 2 Aa)), .us f 34 1 (b.2.2.1.map (rL 2 Aa)), .us g 34 1 (b.2.2.2.map (rL 2 Aa)), .arr B 101 1 1 [[.P c]], .arr D 46 1 1 [[.V 0]], U1 G b.1, .arr H 29 1 1 [[.v s]], U0 s M]) ⟨nS, I⟩ (pk N9) (by rintro _ _ _ ⟨s, rfl⟩; exact ⟨0, _, _, _, rfl, rfl, rfl⟩) (fun _ _ _ => qD (Af 1 I (qE I2))) ?_ ?_
 rintro C1 am an M bx ob bz b1 ⟨s, rfl⟩ h
 refine qH ?_
 obtain ⟨b4, ao, h⟩ := Ad h
 refine qD (Ao 2 [.o 0 7] I J1 (qF [] I (qO 1 (([an.2] : Li).map rI) (qF [8] I (qU 8 I ao fun S => AO.one 8 I fun aq => qF [7] I (qT 7 0 0 (es' := [[.v S]]) I I I I I I (Bz aq) I (Be I) I I ?_))))))
 cases io h
 exact qE ⟨_, ⟨S, I⟩, pk N9⟩
 rintro M ob ⟨s, rfl⟩ he
 subst he
 have h := al
 refine VS.ret ?_
 subst ai
 refine Ac fun b5 ar => qJ (qD (Ao 2 [.o 0 4] I J1 (qF [] I (Bg I I I (Ox _ _ _) dS ?_))))
 rintro _ _ ⟨rfl, rfl⟩
 refine qE (qH ?_)
 obtain ⟨b6, au, h⟩ := Ad h
 obtain ⟨b7, av, aw⟩ := Ad h
 refine Ib av (Yx c au) (fun x => [.V x.1, .V x.2]) I I (fun _ => I) I I I (fun (ax : Nat) (t : Li) ob => ∃ (u : Value), ob = [O3 c [[Q1 a.n_.Nodes, Q4 a.n_.Segments, Q5 a.n_.Ports, Q6 a.n_.Stations, .V a.n_.Vapour, .V a.n_.Settle, Q0 a.p.Rates, Q0 a.p.Ports, Q2 a.p.Pumps, Q0 a.feeds, Q0 a.order, .v e, .v f, .v g]], .us e 34 1 (b.2.1.map (rL 2 Aa)), .us f 34 1 (b.2.2.1.map (rL 2 Aa)), .us g 34 1 (b.2.2.2.map (rL 2 Aa)), .arr B 101 1 1 [[.P c]], .arr D 46 1 1 [[.V 0]], U1 G b.1, .arr H 29 1 1 [[.v u]], U0 u t]) ⟨s, I⟩ (pk N9) (by rintro _ _ _ ⟨u, rfl⟩; exact ⟨0, _, _, _, rfl, rfl, rfl⟩) (fun _ _ _ => qD (Af 1 I (qE I2))) ?_ ?_
 rintro C1 ax ay t b8 ob b9 ca ⟨u, rfl⟩ h
 refine qH ?_
 obtain ⟨cb, az, h⟩ := Ad h
 refine qD (Ao 2 [.o 0 7] I J1 (qF [] I (qO 1 (([ay.2] : Li).map rI) (qF [8] I (qU 8 I az fun U => AO.one 8 I fun a0 => qF [7] I (qT 7 0 0 (es' := [[.v U]]) I I I I I I (Bz a0) I (Be I) I I ?_))))))
 cases io h
 exact qE ⟨_, ⟨U, I⟩, pk N9⟩
 rintro t ob ⟨u, rfl⟩ he
 subst he
 have h := aw
 refine VS.ret ?_
 subst ar
 refine Ac fun cc a1 => ?_
 obtain ⟨F, a2, h⟩ := Ad h
 refine qD (Ao 2 [.o 1 7] I J1 (qS (As [6, 8] (K := [U1 G b.1, U0 u t]) I [(5, Q3 b.1), (45, Q3 b.1), (46, Q0 t)] ⟨⟨_, I, .us 0 I⟩, ⟨_, I, .us 0 I⟩, ⟨_, I, .us 1 I⟩, J⟩ (ob' := [O3 c [[Q1 a.n_.Nodes, Q4 a.n_.Segments, Q5 a.n_.Ports, Q6 a.n_.Stations, .V a.n_.Vapour, .V a.n_.Settle, Q0 a.p.Rates, Q0 a.p.Ports, Q2 a.p.Pumps, Q0 a.feeds, Q0 a.order, .v e, .v f, .v g]], .us e 34 1 (b.2.1.map (rL 2 Aa)), .us f 34 1 (b.2.2.1.map (rL 2 Aa)), .us g 34 1 (b.2.2.2.map (rL 2 Aa)), .arr B 101 1 1 [[.P c]], .arr D 46 1 1 [[.V 0]], .arr H 29 1 1 [[Q0 t]]]) (.cons (.same _) (.cons (.same _) (.cons (.same _) (.cons (.same _) (.cons (.same _) (.cons (.same _) (.cons (.arr (.cons (.us 1 I) (.rest _))) (.rest _))))))))) (qF [] I (Bg I I I (dI _ _ _ a2) dS ?_))))
 rintro _ _ ⟨rfl, rfl⟩
 refine Af 3 I (qF [] I (B0 [.N] 1 fun W => qF [7] I (By 7 0 0 [[.list 1 (F.1.map (rL 2 Aa))]] I (Af 1 I (qE ?_)))))
 subst a1
 refine Ac fun cd a3 => Ai I (Av h I ?_ ?_)
 intro a4 h
 refine qJ (qD (Af 1 I (qF [5] I (By 5 0 0 [[.V F.2]] I (qE (Dd [0, 1, 2, 3, 5] I ?_))))))
 obtain rfl := oi h
 exact qK ⟨.inr I, [_], [O3 c [[Q1 a.n_.Nodes, Q4 a.n_.Segments, Q5 a.n_.Ports, Q6 a.n_.Stations, .V a.n_.Vapour, .V a.n_.Settle, Q0 a.p.Rates, Q0 a.p.Ports, Q2 a.p.Pumps, Q0 a.feeds, Q0 a.order, .v e, .v f, .v g]], .us e 34 1 (b.2.1.map (rL 2 Aa)), .us f 34 1 (b.2.2.1.map (rL 2 Aa)), .us g 34 1 (b.2.2.2.map (rL 2 Aa))], ⟨⟨4, _, _, _, _, _, _, _, I5⟩, J⟩, Ca I (Ca I (Ca I (Ca I (Cv)))), ⟨[O3 c [[Q1 a.n_.Nodes, Q4 a.n_.Segments, Q5 a.n_.Ports, Q6 a.n_.Stations, .V a.n_.Vapour, .V a.n_.Settle, Q0 a.p.Rates, Q0 a.p.Ports, Q2 a.p.Pumps, Q0 a.feeds, Q0 a.order, .v e, .v f, .v g]], .us e 34 1 (b.2.1.map (rL 2 Aa)), .us f 34 1 (b.2.2.1.map (rL 2 Aa)), .us g 34 1 (b.2.2.2.map (rL 2 Aa))], [], I, I, e, f, g, I3⟩⟩
 intro a4 h
 refine qI ?_
 subst a3
 refine Ac fun ce a5 => qD (qF [] I (B0 [.V 0] 1 fun X => qF [8] I (By 8 0 0 [[.V 0]] I (qE ?_))))
 subst a5
 refine Ac fun cf a6 => Ac fun ci a7 => qD (Ao 2 [.o 0 4] I J1 (qF [] I (Bg I I I (On _ _ _) dS ?_)))
 rintro _ _ ⟨rfl, rfl⟩
 refine qE ?_
 subst a7
 refine qH ?_
 obtain ⟨cj, a8, h⟩ := Ad h
 obtain ⟨ck, a9, ba⟩ := Ad h
 refine Ib a9 (Yz c a8) (fun x => [.V x.1, .V x.2]) I I (fun _ => I) I I I (fun (bb : Nat) (E : (List (List Piece)) × Int) ob => ob = [O3 c [[Q1 a.n_.Nodes, Q4 a.n_.Segments, Q5 a.n_.Ports, Q6 a.n_.Stations, .V a.n_.Vapour, .V a.n_.Settle, Q0 a.p.Rates, Q0 a.p.Ports, Q2 a.p.Pumps, Q0 a.feeds, Q0 a.order, .v e, .v f, .v g]], .us e 34 1 (b.2.1.map (rL 2 Aa)), .us f 34 1 (b.2.2.1.map (rL 2 Aa)), .us g 34 1 (E.1.map (rL 2 Aa)), .arr B 101 1 1 [[.P c]], .arr D 46 1 1 [[.V 0]], .arr W 28 1 1 [[.list 1 (F.1.map (rL 2 Aa))]], .arr X 3 1 1 [[.V E.2]]]) I (pk [0, 1, 2, 3, 4, 5, 7, 8]) (by rintro _ _ _ rfl; exact ⟨0, _, _, _, rfl, rfl, rfl⟩) (fun _ _ _ => qD (Af 1 I (qE I2))) ?_ ?_
 rintro C1 bb cl E cm ob cn co rfl h
 refine qH (qJ ?_)
 obtain ⟨O, ⟨bc, bd⟩, h⟩ := Bc h
 obtain ⟨P, ⟨be, Q⟩, h⟩ := Bc h
 refine Cl 3 P.1 I Q fun bf => Bv (pd 11 0 [10]) [4, 0, 6, 7] [_, _, _, _] I (Cf 9 [.o 0 0, .o 3 1, .o 5 2, .o 6 3, .x 7 O.1 ((rL 2 Aa) O.2)] I ⟨⟨bc, Ae bd⟩, I, I, I, I, J⟩ (qV I (A3 (m := P.1) I I I I I bf I be Q) I (qG [3] I I I (Bh 3 P.1 0 I I I (Ae Q) I I I I (Be I) I (Cj (x := O.2) I) (Ar (qE (qD (Ao 2 [.o 0 7] I J1 (qF [7] I (By 7 0 0 [[.V (wr (E.2 + 1))]] I ?_))))))))))
 cases io h
 exact qE ⟨_, I, pk N8⟩
 rintro E ob rfl he
 subst he
 have h := ba
 refine VS.ret ?_
 subst a6
 refine qJ (Ac fun cp bg => qD (Ao 2 [.o 0 4] I J1 (qF [] I (Bg I I I (Ox _ _ _) dS ?_))))
 rintro _ _ ⟨rfl, rfl⟩
 refine qE ?_
 subst bg
 refine qH ?_
 obtain ⟨cq, bh, h⟩ := Ad h
 obtain ⟨cr, bi, Y⟩ := Ad h
 refine Ut bi (Yx c bh) (fun x => [.V x.1, .V x.2]) I I (fun _ => I) I I I (fun (bj : Nat) (i : (List (List Piece)) × (List (List Piece)) × (List (List Piece)) × Int) ob => ∃ (j : Value) (k : Value) (l : Value), ob = [O3 c [[Q1 a.n_.Nodes, Q4 a.n_.Segments, Q5 a.n_.Ports, Q6 a.n_.Stations, .V a.n_.Vapour, .V a.n_.Settle, Q0 a.p.Rates, Q0 a.p.Ports, Q2 a.p.Pumps, Q0 a.feeds, Q0 a.order, .v j, .v k, .v l]], .us j 34 1 (i.1.map (rL 2 Aa)), .us k 34 1 (i.2.1.map (rL 2 Aa)), .us l 34 1 (i.2.2.1.map (rL 2 Aa)), .arr B 101 1 1 [[.P c]], .arr D 46 1 1 [[.V 0]], .arr W 28 1 1 [[.list 1 (F.1.map (rL 2 Aa))]], .arr X 3 1 1 [[.V i.2.2.2]]]) ⟨e, f, g, I⟩ (pk N8) (by rintro _ _ _ ⟨j, k, l, rfl⟩; exact ⟨0, _, _, _, rfl, rfl, rfl⟩) (fun _ _ _ => qD (Af 1 I (qE I2))) ?_ ?_
 rintro C1 bj ct i cu ob cv cw ⟨j, k, l, rfl⟩ h bk
 refine qH (qJ (qJ ?_))
 obtain ⟨Z, ⟨bl, bm⟩, h⟩ := Bc h
 obtain ⟨n, bn, h⟩ := Ad h
 refine Bv (pd 8 0 [6]) [4, 6, 7] [_, _, _] I (Cf 6 [.o 0 0, .o 2 1, .o 3 2, .x 4 Z.1 ((rL 2 Aa) Z.2)] I ⟨⟨bl, Ae bm⟩, I, I, I, J⟩ (qG N4 I I I (E8 N4 (dE c _ j k l _ _ _ bn) ?_)))
 rintro _ _ _ - ⟨w, y, A, rfl, rfl, rfl⟩
 refine A9 1 I (Ar (qE (Ai I (Av h I ?_ ?_))))
 intro bo h
 refine qJ (qD (Af 1 I (qF [5] I (By 5 0 0 [[.V n.1]] I (qE ?_)))))
 obtain rfl := bk _ (oi h).symm
 have h := Y
 have h := Dj h
 refine Dd [0, 1, 2, 3, 5] I ?_
 cases io h
 refine qK (⟨_, OL.all, ?_⟩)
 exact ⟨.inr I, [_], [O3 c [[Q1 a.n_.Nodes, Q4 a.n_.Segments, Q5 a.n_.Ports, Q6 a.n_.Stations, .V a.n_.Vapour, .V a.n_.Settle, Q0 a.p.Rates, Q0 a.p.Ports, Q2 a.p.Pumps, Q0 a.feeds, Q0 a.order, .v w, .v y, .v A]], .us w 34 1 (n.2.1.map (rL 2 Aa)), .us y 34 1 (n.2.2.1.map (rL 2 Aa)), .us A 34 1 (n.2.2.2.map (rL 2 Aa))], ⟨⟨4, _, _, _, _, _, _, _, I5⟩, J⟩, Ca I (Ca I (Ca I (Ca I (Cv)))), ⟨[O3 c [[Q1 a.n_.Nodes, Q4 a.n_.Segments, Q5 a.n_.Ports, Q6 a.n_.Stations, .V a.n_.Vapour, .V a.n_.Settle, Q0 a.p.Rates, Q0 a.p.Ports, Q2 a.p.Pumps, Q0 a.feeds, Q0 a.order, .v w, .v y, .v A]], .us w 34 1 (n.2.1.map (rL 2 Aa)), .us y 34 1 (n.2.2.1.map (rL 2 Aa)), .us A 34 1 (n.2.2.2.map (rL 2 Aa))], [], I, I, w, y, A, I3⟩⟩
 intro bo h
 refine qI (qD (Ao 2 [.o 0 7] I J1 (qF [7] I (By 7 0 0 [[.V (wr (i.2.2.2 + 1))]] I ?_))))
 cases io h
 exact qE ⟨_, _, I, ⟨w, y, A, I⟩, pk N8⟩
 rintro i ob ⟨j, k, l, rfl⟩ he
 subst he
 have h := Dp Y
 refine VS.ret (qJ (qD (qF [5] I (By 5 0 0 [[.V 0]] I (qE (Dd [0, 1, 2, 3, 5] I ?_))))))
 obtain rfl := oi h
 exact qK ⟨.inr I, [_], [O3 c [[Q1 a.n_.Nodes, Q4 a.n_.Segments, Q5 a.n_.Ports, Q6 a.n_.Stations, .V a.n_.Vapour, .V a.n_.Settle, Q0 a.p.Rates, Q0 a.p.Ports, Q2 a.p.Pumps, Q0 a.feeds, Q0 a.order, .v j, .v k, .v l]], .us j 34 1 (i.1.map (rL 2 Aa)), .us k 34 1 (i.2.1.map (rL 2 Aa)), .us l 34 1 (i.2.2.1.map (rL 2 Aa))], ⟨⟨4, _, _, _, _, _, _, _, I5⟩, J⟩, Ca I (Ca I (Ca I (Ca I (Cv)))), ⟨[O3 c [[Q1 a.n_.Nodes, Q4 a.n_.Segments, Q5 a.n_.Ports, Q6 a.n_.Stations, .V a.n_.Vapour, .V a.n_.Settle, Q0 a.p.Rates, Q0 a.p.Ports, Q2 a.p.Pumps, Q0 a.feeds, Q0 a.order, .v j, .v k, .v l]], .us j 34 1 (i.1.map (rL 2 Aa)), .us k 34 1 (i.2.1.map (rL 2 Aa)), .us l 34 1 (i.2.2.1.map (rL 2 Aa))], [], I, I, j, k, l, I3⟩⟩
theorem Ue (b : Nat) (a : advance_line) (w0_0 : Value) (w0_1 : Value) (w0_2 : Value) (r : Int × ((List (List Piece)) × (List (List Piece)) × (List (List Piece)))) (h : Ih a = some r) : ACalls Al 55 [.P b] [O3 b [[Q1 a.n_.Nodes, Q4 a.n_.Segments, Q5 a.n_.Ports, Q6 a.n_.Stations, .V a.n_.Vapour, .V a.n_.Settle, Q0 a.p.Rates, Q0 a.p.Ports, Q2 a.p.Pumps, Q0 a.feeds, Q0 a.order, .v w0_0, .v w0_1, .v w0_2]], .us w0_0 34 1 (a.fills.map (rL 2 Aa)), .us w0_1 34 1 (a.given.map (rL 2 Aa)), .us w0_2 34 1 (a.out_.map (rL 2 Aa))] (Fh 4 fun x os new => ∃ (u1_0 : Value) (u1_1 : Value) (u1_2 : Value), x = .V r.1 ∧ os = [O3 b [[Q1 a.n_.Nodes, Q4 a.n_.Segments, Q5 a.n_.Ports, Q6 a.n_.Stations, .V a.n_.Vapour, .V a.n_.Settle, Q0 a.p.Rates, Q0 a.p.Ports, Q2 a.p.Pumps, Q0 a.feeds, Q0 a.order, .v u1_0, .v u1_1, .v u1_2]], .us u1_0 34 1 (r.2.1.map (rL 2 Aa)), .us u1_1 34 1 (r.2.2.1.map (rL 2 Aa)), .us u1_2 34 1 (r.2.2.2.map (rL 2 Aa))] ∧ new = []) := by
 refine Ag Tryz.func55 I I I fun C hC => ?_
 unfold Ih at h
 refine Ai I (Ak (fun s ob => ∃ (F : (List (List Piece)) × (List (List Piece))) (G : Value) (H : Value), Ih.J1 a F = some r ∧ s = [] ∧ ob = [O3 b [[Q1 a.n_.Nodes, Q4 a.n_.Segments, Q5 a.n_.Ports, Q6 a.n_.Stations, .V a.n_.Vapour, .V a.n_.Settle, Q0 a.p.Rates, Q0 a.p.Ports, Q2 a.p.Pumps, Q0 a.feeds, Q0 a.order, .v w0_0, .v G, .v H]], .us w0_0 34 1 (a.fills.map (rL 2 Aa)), .us G 34 1 (F.1.map (rL 2 Aa)), .us H 34 1 (F.2.map (rL 2 Aa))]) [(0, _)] J1 ?_ ?_)
 obtain ⟨P, ⟨K, W, X, Y⟩, h⟩ := G0 h
 obtain ⟨Q, ⟨j, R, S, U⟩, h⟩ := G0 h
 refine pL (sl 8 0 (sl 6 9 (.two 8 15 (.still 16 (.still 17 (.two 15 18 (.act 18 fM) (.act 15 fM)))) (.act 8 (.still 16 (.still 17 (.act 18 fM))))))) 0 b [(1, Q4 a.n_.Segments), (2, Q5 a.n_.Ports)] I I (AQ.p I (Yp.move I) I (AQ.p I (Yp.move I) I (AQ.p I (Yp.move I) I (AQ.p I (Eg I) I (AQ.p I (D4 I I I I I I) I (AQ.p I (D4 I I I I I I) I (nM 0 I I I I I I (AQ.p I (Pu I I I) I (AQ.p I (Yp.move I) I (AQ.p I (Eg I) I (AQ.p I (D4 I I I I I I) I (AQ.p I (D4 I I I I I I) I ?_))))))))))))
 refine nM 1 I I I I I I (AQ.p I (Pu I I I) I (AQ.two ?_ ?_))
 refine AQ.act [] 0 I I I I (Dg (sz := 1) (es' := List.replicate K [.N]) I I I I I I I I I I W X I dS fun M => AQ.ghost (Db (f := Aa) 4 K 2 Y I) (AQ.p I (Eg I) I (AQ.p I (D4 I I I I I I) I (AQ.two ?_ ?_))))
 exact AQ.act [] 0 I I I I (Dg (sz := 1) (es' := List.replicate j [.N]) I I I I I I I I I I R S I dS fun B => AQ.ghost (Db (f := Aa) 5 j 2 U I) (AQ.one 4 I fun D => Td 0 I I I I I (Bz D) I (Be I) I I (AQ.p I (Eg I) I (AQ.p I (D4 I I I I I I) I (AQ.one 5 I fun E => Td 0 I I I I I (Bz E) I (Be I) I I (Wb (qE (lg ⟨(P, Q), M, B, h, I2⟩ [0, 1, 4, 5]))))))))
 exact AQ.one 4 I fun D => Td 0 I I I I I (Bz D) I (Be I) I I (AQ.act [] 0 I I I I (Dg (sz := 1) (es' := List.replicate j [.N]) I I I I I I I I I I R S I dS fun B => AQ.ghost (Db (f := Aa) 5 j 2 U I) (AQ.p I (Eg I) I (AQ.p I (D4 I I I I I I) I (AQ.one 5 I fun E => Td 0 I I I I I (Bz E) I (Be I) I I (Wb (qE (lg ⟨(P, Q), M, B, h, I2⟩ [0, 1, 4, 5]))))))))
 refine AQ.act [] 0 I I I I (Dg (sz := 1) (es' := List.replicate j [.N]) I I I I I I I I I I R S I dS fun B => AQ.ghost (Db (f := Aa) 4 j 2 U I) (AQ.act [] 0 I I I I (Dg (sz := 1) (es' := List.replicate K [.N]) I I I I I I I I I I W X I dS fun M => AQ.ghost (Db (f := Aa) 5 K 2 Y I) (AQ.p I (Eg I) I (AQ.p I (D4 I I I I I I) I (AQ.one 5 I fun D => Td 0 I I I I I (Bz D) I (Be I) I I (AQ.p I (Eg I) I (AQ.p I (D4 I I I I I I) I (AQ.one 4 I fun E => Td 0 I I I I I (Bz E) I (Be I) I I (Wb ?_))))))))))
 exact qE (lg ⟨(P, Q), M, B, h, I2⟩ [0, 1, 5, 4])
 rintro s ob ⟨F, G, H, h, rfl, rfl⟩
 unfold Ih.J1 at h
 refine Ak (fun s ob => ∃ (c : (List (List Piece)) × (List (List Piece)) × (List (List Piece))) (d : Value) (e : Value) (g : Value), Ih.J2 c = some r ∧ s = [] ∧ ob = [O3 b [[Q1 a.n_.Nodes, Q4 a.n_.Segments, Q5 a.n_.Ports, Q6 a.n_.Stations, .V a.n_.Vapour, .V a.n_.Settle, Q0 a.p.Rates, Q0 a.p.Ports, Q2 a.p.Pumps, Q0 a.feeds, Q0 a.order, .v d, .v e, .v g]], .us d 34 1 (c.1.map (rL 2 Aa)), .us e 34 1 (c.2.1.map (rL 2 Aa)), .us g 34 1 (c.2.2.map (rL 2 Aa))]) [] J ?_ ?_
 refine Bk [.o 3 0, .l 4 (a.order.length : Int)] I ⟨A6, I, J⟩ (qH (Cd 29 I fun ab => ?_))
 obtain ⟨al, ac, Z⟩ := Ad h
 refine Cg ac (K3 0 29 30) J3 (fun (O : Nat) (i : (List (List Piece)) × (List (List Piece)) × (List (List Piece))) s ob => ∃ (m : Value) (n : Value) (t : Value), s = [(31, .V (O : Int))] ∧ ob = [O3 b [[Q1 a.n_.Nodes, Q4 a.n_.Segments, Q5 a.n_.Ports, Q6 a.n_.Stations, .V a.n_.Vapour, .V a.n_.Settle, Q0 a.p.Rates, Q0 a.p.Ports, Q2 a.p.Pumps, Q0 a.feeds, Q0 a.order, .v m, .v n, .v t]], .us m 34 1 (i.1.map (rL 2 Aa)), .us n 34 1 (i.2.1.map (rL 2 Aa)), .us t 34 1 (i.2.2.map (rL 2 Aa))]) ⟨w0_0, G, H, I2⟩ ⟨I, J⟩ (pk N4) ?_ ?_
 rintro O ad i am s ob ae aa ⟨m, n, t, rfl, rfl⟩ h af
 have ag := Cm aa
 refine Ai I (Ac fun an ah => Bl I ag (qI ?_))
 subst ah
 refine qJ (qH (Bk [.x 0 O (rI ad)] I ⟨⟨I, Ae ae⟩, J⟩ (qJ ?_)))
 obtain ⟨u, ai, h⟩ := Ad h
 refine qD (Af 2 I (qF N4 I (E8 N4 (dW b _ m n t _ _ ai) ?_)))
 rintro _ _ _ - ⟨w, y, A, rfl, rfl, rfl⟩
 refine Af 1 I (qE (Ai I (Av h I ?_ ?_)))
 intro aj h
 refine Ai I ?_
 obtain rfl := af _ (oi h).symm
 have h := Z
 have h := Dj h
 obtain rfl := oi h
 exact qK ⟨.inr I, [_], [O3 b [[Q1 a.n_.Nodes, Q4 a.n_.Segments, Q5 a.n_.Ports, Q6 a.n_.Stations, .V a.n_.Vapour, .V a.n_.Settle, Q0 a.p.Rates, Q0 a.p.Ports, Q2 a.p.Pumps, Q0 a.feeds, Q0 a.order, .v w, .v y, .v A]], .us w 34 1 (u.2.1.map (rL 2 Aa)), .us y 34 1 (u.2.2.1.map (rL 2 Aa)), .us A 34 1 (u.2.2.2.map (rL 2 Aa))], J1, Ca I (Ca I (Ca I (Ca I (Cv)))), ⟨[O3 b [[Q1 a.n_.Nodes, Q4 a.n_.Segments, Q5 a.n_.Ports, Q6 a.n_.Stations, .V a.n_.Vapour, .V a.n_.Settle, Q0 a.p.Rates, Q0 a.p.Ports, Q2 a.p.Pumps, Q0 a.feeds, Q0 a.order, .v w, .v y, .v A]], .us w 34 1 (u.2.1.map (rL 2 Aa)), .us y 34 1 (u.2.2.1.map (rL 2 Aa)), .us A 34 1 (u.2.2.2.map (rL 2 Aa))], [], I, I, w, y, A, I3⟩⟩
 intro aj h
 refine qI (qD (Ao 2 [.k 0 (O + 1 : Nat)] I ⟨Az aa ab, J⟩ ?_))
 cases io h
 exact qE ⟨_, _, _, I, ⟨w, y, A, I2⟩, J4, pk N4⟩
 rintro i s ob ⟨m, n, t, rfl, rfl⟩ he
 subst he
 have h := Dp Z
 have ak := Cn a.order.length
 exact Ai I (Ac fun ao ap => Bm I ak (qM (lg ⟨(i.1, i.2.1, i.2.2), m, n, t, h, I2⟩ N4)))
 rintro s ob ⟨c, d, e, g, h, rfl, rfl⟩
 refine Ai I ?_
 obtain rfl := oi h
 exact qK ⟨.inr I, [_], [O3 b [[Q1 a.n_.Nodes, Q4 a.n_.Segments, Q5 a.n_.Ports, Q6 a.n_.Stations, .V a.n_.Vapour, .V a.n_.Settle, Q0 a.p.Rates, Q0 a.p.Ports, Q2 a.p.Pumps, Q0 a.feeds, Q0 a.order, .v d, .v e, .v g]], .us d 34 1 (c.1.map (rL 2 Aa)), .us e 34 1 (c.2.1.map (rL 2 Aa)), .us g 34 1 (c.2.2.map (rL 2 Aa))], J1, Ca I (Ca I (Ca I (Ca I (Cv)))), ⟨[O3 b [[Q1 a.n_.Nodes, Q4 a.n_.Segments, Q5 a.n_.Ports, Q6 a.n_.Stations, .V a.n_.Vapour, .V a.n_.Settle, Q0 a.p.Rates, Q0 a.p.Ports, Q2 a.p.Pumps, Q0 a.feeds, Q0 a.order, .v d, .v e, .v g]], .us d 34 1 (c.1.map (rL 2 Aa)), .us e 34 1 (c.2.1.map (rL 2 Aa)), .us g 34 1 (c.2.2.map (rL 2 Aa))], [], I, I, d, e, g, I3⟩⟩
theorem dX (a : Int) (r : Bool) (h : G5 a = r) : ACalls Al 94 [.V a] [] (RB r) := by
 refine Ag Tryz.func94 I I I fun C hC => ?_
 unfold G5 at h
 refine Ai I (Ak (fun s ob => s = [(2, .v (.bool (decide (a < 0) || decide (a ≥ 1000))))] ∧ ob = []) [] J ?_ ?_)
 refine qD (Af 3 I ?_)
 rcases bt (decide (a < 0)) with b | b
 refine Ah 5 I b (Af 4 I (qE ?_))
 exact lf I2 ⟨(D3 (by simp only [b, bz])), J⟩ [] I
 refine Ah 5 I b (Af 4 I (qE ?_))
 exact lf I2 ⟨(D3 (by simp only [b, bz])), J⟩ [] I
 rintro s ob ⟨rfl, rfl⟩
 obtain rfl := h
 exact qK pr
theorem Ko (a : Nw) (i : List (List Piece)) (b : Plan) (d : Li) (r : (Option advance_line) × Int) (h : Lq a i b d = some r) : ACalls Al 54 [.agg (Ab a), .list 1 (i.map (rL 2 Aa)), .agg (Aj b), Q0 d] [] (fun x new => nP r.1 (x = .tup [.v (.pointer none), .V r.2] ∧ new = []) fun l => ∃ (B : Nat) (u0_0 : Value) (u0_1 : Value) (u0_2 : Value), x = .tup [.P B, .V r.2] ∧ new = [O3 B [[Q1 l.n_.Nodes, Q4 l.n_.Segments, Q5 l.n_.Ports, Q6 l.n_.Stations, .V l.n_.Vapour, .V l.n_.Settle, Q0 l.p.Rates, Q0 l.p.Ports, Q2 l.p.Pumps, Q0 l.feeds, Q0 l.order, .v u0_0, .v u0_1, .v u0_2]], .us u0_0 34 1 (l.fills.map (rL 2 Aa)), .us u0_1 34 1 (l.given.map (rL 2 Aa)), .us u0_2 34 1 (l.out_.map (rL 2 Aa))]) := by
 refine Ag Tryz.func54 I I I fun C hC => ?_
 refine Ac fun y1 M => qD (qF [] I (Cp (Ab a) 6 fun D => qF [] I (Cp (Aj b) 3 fun E => Af 2 I (qE ?_))))
 subst M
 refine Ac fun y4 O => qJ ?_
 obtain ⟨r5, P, h⟩ := Ad h
 refine qD (Ao 2 [.o 0 0] I J1 (qR (T7 _ _ _ P) (Af 1 I (qE (Ai I (Av h I ?_ ?_))))))
 intro Q h
 refine Ai I (qL g0 ?_)
 cases io h
 exact qK ⟨.inr I, [_, _], [], J2, Cv, I2⟩
 intro Q h
 refine qI ?_
 subst O
 refine Ac fun y8 R => ?_
 obtain ⟨e, S, h⟩ := Ad h
 refine qD (Ao 2 [.o 0 0, .o 1 1] I J2 (qF [] I (Bg I I I (cJ _ _ _ S) dS ?_)))
 rintro _ _ ⟨F, rfl, rfl⟩
 refine Af 5 I (qE ?_)
 subst R
 refine Ac fun av U => Ai I (Av h I ?_ ?_)
 intro W h
 refine Ai I (qL g0 ?_)
 cases io h
 exact qK ⟨.inr I, [_, _], [], J2, Cv, I2⟩
 intro W h
 refine qI ?_
 subst U
 refine Ac fun aw X => Ak (fun s ob => ∃ (y : Bool), Lq.J1 a i b d e y = some r ∧ s = [(40, .v (.bool y))] ∧ ob = [O0 D [Ab a], O1 E [Aj b], U0 F e.1]) (K5 1 3 4 6 11) J5 ?_ ?_
 refine qD (Ao 7 [.l 1 (d.length : Int), .o 3 0, .l 4 (a.Ports.length : Int)] I ⟨A6, I, A6, J⟩ ?_)
 rcases bt (((d.length : Int) != (a.Ports.length : Int))) with j | j
 have h := Cb j h
 exact Ah 37 I j (Af 3 I (qE (lg ⟨true, h, I2⟩ N3)))
 have h := Cc j h
 obtain ⟨Y, Z, h⟩ := Ad h
 exact Ah 37 I j (Af 1 I (Bj I I I (qR (Oo _ (.v (.func (.func 94) #[] #[])) I (fun x => some (G5 x)) (fun x r h => by obtain I := oi h; exact dX x _ I) _ Z) (Af 1 I (qE (lg ⟨Y, h, I2⟩ N3))))))
 rintro s ob ⟨y, h, rfl, rfl⟩
 refine Av h I ?_ ?_
 intro aa h
 refine Ai I (qL g0 ?_)
 cases io h
 exact qK ⟨.inr I, [_, _], [], J2, Cv, I2⟩
 intro aa h
 refine qI ?_
 subst X
 refine Ac fun ax ab => qD (Ao 4 [.o 0 0, .o 1 1] I J2 (qS (As [2] (K := [U0 F e.1]) I [(11, Q0 e.1), (44, Q0 e.1)] ⟨⟨_, I, .us 0 I⟩, ⟨_, I, .us 0 I⟩, J⟩ (ob' := [O0 D [Ab a], O1 E [Aj b]]) (.rest _)) (qQ (Bi (l := [Q1 a.Nodes, Q4 a.Segments, Q5 a.Ports, Q6 a.Stations, .V a.Vapour, .V a.Settle, Q0 b.Rates, Q0 b.Ports, Q2 b.Pumps, Q0 d, Q0 e.1, .N, .N, .N]) X6 I) I (qF [] I (Cp [Q1 a.Nodes, Q4 a.Segments, Q5 a.Ports, Q6 a.Stations, .V a.Vapour, .V a.Settle, Q0 b.Rates, Q0 b.Ports, Q2 b.Pumps, Q0 d, Q0 e.1, .N, .N, .N] 14 fun n => Af 1 I (qE ?_))))))
 subst ab
 refine Ak (fun s ob => ∃ (u : List (List Piece)) (g : Value), Lq.J2 a b d e u = some r ∧ s = [] ∧ ob = [O3 n [[Q1 a.Nodes, Q4 a.Segments, Q5 a.Ports, Q6 a.Stations, .V a.Vapour, .V a.Settle, Q0 b.Rates, Q0 b.Ports, Q2 b.Pumps, Q0 d, Q0 e.1, .v g, .N, .N]], .us g 34 1 (u.map (rL 2 Aa))]) [(13, _)] J1 ?_ ?_
 refine Bk [.l 1 (i.length : Int)] I ⟨A6, J⟩ (qH (Cd 47 I fun ac => qL (Ay 34 1) ?_))
 obtain ⟨ay, ad, ae⟩ := Ad h
 refine Cr ad (K3 13 47 48) J3 (fun (w : Nat) (t : List (List Piece)) s ob => ∃ (f : Value), s = [(49, .V (w : Int))] ∧ ob = [O3 n [[Q1 a.Nodes, Q4 a.Segments, Q5 a.Ports, Q6 a.Stations, .V a.Vapour, .V a.Settle, Q0 b.Rates, Q0 b.Ports, Q2 b.Pumps, Q0 d, Q0 e.1, .v f, .N, .N]], .us f 34 1 (t.map (rL 2 Aa))]) ⟨nS, I2⟩ ⟨I, J⟩ (pk [2, 3]) ?_ ?_
 rintro w af t az s ob ag G ⟨f, rfl, rfl⟩ h
 have ah := Cm G
 refine Ai I (Ac fun a0 ai => Bl I ah (qI ?_))
 subst ai
 refine qJ (qH (Bk [.x 0 w ((rL 2 Aa) af)] I ⟨⟨I, Ae ag⟩, J⟩ ?_))
 obtain ⟨A, aj, h⟩ := Ad h
 obtain ⟨a1, ak, h⟩ := Ad h
 refine Bv (sl 6 0 (.act 6 (.act 7 (.act 8 (.still 9 (.still 10 (.drop 11 .nil))))))) [0] [_] I (Cf 6 [.o 4 0] I J1 (qG [] I I I (Bg I I I (Gy _ _ aj) dS ?_)))
 rintro _ _ ⟨al, rfl, rfl⟩
 refine D6 (As [2] (K := [U1 al A]) I [(59, Q3 A)] ⟨⟨_, I, .us 0 I⟩, J⟩ (ob' := [O3 n [[Q1 a.Nodes, Q4 a.Segments, Q5 a.Ports, Q6 a.Stations, .V a.Vapour, .V a.Settle, Q0 b.Rates, Q0 b.Ports, Q2 b.Pumps, Q0 d, Q0 e.1, .v f, .N, .N]], .us f 34 1 (t.map (rL 2 Aa))]) (.rest _)) I (qG [] I I I (qO 1 (([A] : List (List Piece)).map (rL 2 Aa)) (qG [1] I I I (qU 1 I ak fun H => A9 2 I (rC 1 I fun am => qX [0] I I I (qT 0 0 11 (es' := [[Q1 a.Nodes, Q4 a.Segments, Q5 a.Ports, Q6 a.Stations, .V a.Vapour, .V a.Settle, Q0 b.Rates, Q0 b.Ports, Q2 b.Pumps, Q0 d, Q0 e.1, .v H, .N, .N]]) I I I I I I (Bz am) I (Be I) I I (Ar (qE (qD (Ao 2 [.k 0 (w + 1 : Nat)] I ⟨Az G ac, J⟩ ?_))))))))))
 cases io h
 exact qE (lg ⟨H, I2⟩ [0, 1])
 rintro t s ob ⟨f, rfl, rfl⟩ he
 subst he
 have h := ae
 have an := Cn i.length
 exact Ai I (Ac fun a2 a3 => Bm I an (qM (lg ⟨t, f, h, I2⟩ [0, 1])))
 rintro s ob ⟨u, g, h, rfl, rfl⟩
 unfold Lq.J2 at h
 refine Ai I (qL (Ay 34 1) (qL (Ay 34 1) ?_))
 cases io h
 exact qK ⟨.inr I, [_, _], [O3 n [[Q1 a.Nodes, Q4 a.Segments, Q5 a.Ports, Q6 a.Stations, .V a.Vapour, .V a.Settle, Q0 b.Rates, Q0 b.Ports, Q2 b.Pumps, Q0 d, Q0 e.1, .v g, .N, .N]], .us g 34 1 (u.map (rL 2 Aa)), .us nS 34 1 ([].map (rL 2 Aa)), .us nS 34 1 ([].map (rL 2 Aa))], J2, Ca I (Ca I (Ca I (Ca I (Cv)))), ⟨n, g, nS, nS, I2⟩⟩
theorem Uo (b : Nw) (d : List (List Piece)) (c : Plan) (e : Li) (r : (List (List Piece)) × (List (List Piece)) × Int) (h : Js b d c e = some r) : ACalls Al 17 [.agg (Ab b), .list 1 (d.map (rL 2 Aa)), .agg (Aj c), Q0 e] [] (fun x new => ∃ (f : Value) (g : Value), x = .tup [.v f, .v g, .V r.2.2] ∧ new = [.us f 34 1 (r.1.map (rL 2 Aa)), .us g 34 1 (r.2.1.map (rL 2 Aa))]) := by
 refine Ag Tryz.func17 I I I fun C hC => ?_
 refine Ac fun K p => qD (qF [] I (Cp (Ab b) 6 fun M => qF [] I (Cp (Aj c) 3 fun N => Af 3 I (qE ?_))))
 subst p
 refine Ac fun O i => ?_
 obtain ⟨s, j, h⟩ := Ad h
 rcases a : s.1 with _ | P
 have h := nA a h
 refine qD (Ao 4 [.o 0 0, .o 2 1] I J2 (qF [] I (Bg I I I (Pg a (Ko _ _ _ _ _ j)) dS ?_)))
 rintro _ _ ⟨rfl, rfl⟩
 refine Af 5 I (qE ?_)
 subst i
 refine Ac fun Q t => Ai I (Av h I ?_ ?_)
 intro u h
 refine Ai I (qL (Ay 34 1) (qL (Ay 34 1) (Dd [2, 3] I ?_)))
 cases io h
 rotate_left
 intro u h
 refine qI ?_
 subst t
 refine Ac fun R S => qJ ?_
 cases h
 have h := mZ a h
 refine qD (Ao 4 [.o 0 0, .o 2 1] I J2 (qF [] I (Bg I I I (Pf a (Ko _ _ _ _ _ j)) dS ?_)))
 rintro _ _ ⟨w, y, A, B, rfl, rfl⟩
 refine Af 5 I (qE ?_)
 subst i
 refine Ac fun U D => Ai I (Av h I ?_ ?_)
 intro E h
 refine Ai I (qL (Ay 34 1) (qL (Ay 34 1) (Dd [6, 7] I ?_)))
 cases io h
 rotate_left
 intro E h
 refine qI ?_
 subst D
 refine Ac fun W F => qJ ?_
 obtain ⟨k, G, h⟩ := Ad h
 refine qD (Af 1 I (qF [2, 3, 4, 5] I (E8 [2, 3, 4, 5] (Ue w _ y A B _ G) ?_)))
 rintro _ _ _ - ⟨l, X, n, rfl, rfl, rfl⟩
 refine Af 1 I (qE (Ai I (Av h I ?_ ?_)))
 intro H h
 refine Ai I (qL (Ay 34 1) (qL (Ay 34 1) (Dd [6, 7] I ?_)))
 cases io h
 any_goals
  exact qK ⟨.inr I, [_, _, _], [.us nS 34 1 ([].map (rL 2 Aa)), .us nS 34 1 ([].map (rL 2 Aa))], J3, Ca I (Ca I (Cv)), ⟨nS, nS, I2⟩⟩
 intro H h
 refine qI ?_
 subst F
 refine Tc (pd 11 0 []) [2] [_] [.o 3 0, .o 7 0] I I J2 (Dd [3, 5] I ?_)
 cases io h
 exact qK ⟨.inr I, [_, _, _], [.us l 34 1 (k.2.1.map (rL 2 Aa)), .us n 34 1 (k.2.2.2.map (rL 2 Aa))], J3, Ca I (Ca I (Cv)), ⟨l, n, I2⟩⟩
end Go.Proofs.YtaoclefkknloiaaGreat
