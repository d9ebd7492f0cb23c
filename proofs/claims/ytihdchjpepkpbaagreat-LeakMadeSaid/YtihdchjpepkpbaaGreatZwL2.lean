/- Walks that show what functions of the program compute; printed by a program of ours. No condition. -/
import Derived.Test.YtihdchjpepkpbaaGreatZwL1
import Derived.Test.YtihdchjpepkpbaaGreatZwL0
import Derived.Test.YtihdchjpepkpbaaGreatZwD
import Derived.Test.YtihdchjpepkpbaaGreatZwB3
import Derived.Test.YtihdchjpepkpbaaGreatZwB2
set_option maxRecDepth 100000
namespace Go.Proofs.YtihdchjpepkpbaaGreat
open Go.Aw
set_option linter.unusedVariables false
set_option linter.unusedSimpArgs false
set_option maxHeartbeats 4000000
abbrev eA : PL := .act 7 (.still 8 (.act 11 (sl 3 12 (.act 15 (.act 16 (.still 17 (.drop 18 .nil)))))))
abbrev dZ : PL := .act 11 (.act 12 (.still 13 (.act 14 .nil)))
theorem Xr (u : Nw) (t : List Bool) (A : Int) (B : Int) (r : Bool) (h : Mi u t A B = some r) : ACalls Ah 83 [.agg (Af u), Q6 t, .V A, .V B] [] (RB r) := by
 refine Ad Tryz.func83 I I I fun C hC => ?_
 unfold Mi at h
 refine Ab fun y1 G => gQ (gS [] I (Ck (Af u) 6 fun b2 => Ac 1 I (gR ?_)))
 subst G
 refine Aj (fun s ob => ∃ (a : Bt × Int × Int × Int × Int × Int × (List Point) × Bt × Int × Int × Int × Int × Int × (List Point)) (f : Nat) (g : Nat), Mi.J1 t a = some r ∧ s = [(9, .v (.pointer (some ⟨f, 0, none⟩))), (10, .v (.pointer (some ⟨g, 0, none⟩)))] ∧ ob = [O3 f [[.v (.string a.1), .V a.2.1, .V a.2.2.1, .V a.2.2.2.1, .V a.2.2.2.2.1, .V a.2.2.2.2.2.1, Q7 a.2.2.2.2.2.2.1]], O3 g [[.v (.string a.2.2.2.2.2.2.2.1), .V a.2.2.2.2.2.2.2.2.1, .V a.2.2.2.2.2.2.2.2.2.1, .V a.2.2.2.2.2.2.2.2.2.2.1, .V a.2.2.2.2.2.2.2.2.2.2.2.1, .V a.2.2.2.2.2.2.2.2.2.2.2.2.1, Q7 a.2.2.2.2.2.2.2.2.2.2.2.2.2]]]) [(1, _)] J1 ?_ ?_
 obtain ⟨c, ⟨H, K⟩, h⟩ := Bh h
 obtain ⟨d, ⟨M, O⟩, h⟩ := Bh h
 refine C4 (sl 10 0 (.par [(10, []), (11, [])] (.act 12 (.act 13 .nil)))) [0] [_] I (C6 10 [.o 1 0, .x 3 c.1 (Ao c.2), .o 6 0, .x 8 d.1 (Ao d.2)] I ⟨⟨M, Al O⟩, I, ⟨H, Al K⟩, I, J⟩ (AP.any [⟨10, [], 9, .box 93 7 (W1)⟩, ⟨11, [], 10, .box 93 7 (W1)⟩] I ⟨⟨_, I, I, I, fun _ => Cl W1 7 fun b => ⟨_, I, ⟨b, I⟩, I⟩⟩, ⟨_, I, I, I, fun _ => Cl W1 7 fun b => ⟨_, I, ⟨b, I⟩, I⟩⟩, J⟩ ?_))
 intro P Q
 exact gX [1] I I I (Bo 1 0 0 [Ao c.2] I (gX [2] I I I (Bo 2 0 0 [Ao d.2] I (A2 (gR (lg ⟨(c.2.Name, c.2.From, c.2.To, c.2.Capacity, c.2.Resist, c.2.Wave, c.2.Points, d.2.Name, d.2.From, d.2.To, d.2.Capacity, d.2.Resist, d.2.Wave, d.2.Points), P, Q, h, I2⟩ [1, 2]))))))
 rintro s ob ⟨a, f, g, h, rfl, rfl⟩
 unfold Mi.J1 at h
 refine Aj (fun s ob => ∃ (D : Unit), Mi.J2 D = some r ∧ s = [] ∧ ob = []) [] J ?_ ?_
 refine Ag I (gV ?_)
 obtain ⟨ac, R, E⟩ := Aa h
 refine A5 R [(1, _), (9, _), (10, _)] J3 (fun (e : Int) s ob => s = [(11, .V e)] ∧ ob = [O3 f [[.v (.string a.1), .V a.2.1, .V a.2.2.1, .V a.2.2.2.1, .V a.2.2.2.2.1, .V a.2.2.2.2.2.1, Q7 a.2.2.2.2.2.2.1]], O3 g [[.v (.string a.2.2.2.2.2.2.2.1), .V a.2.2.2.2.2.2.2.2.1, .V a.2.2.2.2.2.2.2.2.2.1, .V a.2.2.2.2.2.2.2.2.2.2.1, .V a.2.2.2.2.2.2.2.2.2.2.2.1, .V a.2.2.2.2.2.2.2.2.2.2.2.2.1, Q7 a.2.2.2.2.2.2.2.2.2.2.2.2.2]]]) ⟨I, I⟩ ⟨I, J⟩ ⟨[0, 1], I, by decide⟩ ?_
 rintro e S s ob ⟨rfl, rfl⟩ h F
 refine Ab fun ad U => A8 [.l 2 (t.length : Int)] I ⟨Ax, J⟩ (An h I ?_ ?_)
 intro W h
 refine gU ?_
 subst U
 refine gT (gV (Aj (fun s ob => ∃ (w : Bool), Mi.J4 e w = some S ∧ s = [(56, .v (.bool w))] ∧ ob = [O3 f [[.v (.string a.1), .V a.2.1, .V a.2.2.1, .V a.2.2.2.1, .V a.2.2.2.2.1, .V a.2.2.2.2.2.1, Q7 a.2.2.2.2.2.2.1]], O3 g [[.v (.string a.2.2.2.2.2.2.2.1), .V a.2.2.2.2.2.2.2.2.1, .V a.2.2.2.2.2.2.2.2.2.1, .V a.2.2.2.2.2.2.2.2.2.2.1, .V a.2.2.2.2.2.2.2.2.2.2.2.1, .V a.2.2.2.2.2.2.2.2.2.2.2.2.1, Q7 a.2.2.2.2.2.2.2.2.2.2.2.2.2]]]) [(1, _), (9, _), (10, _), (11, _)] J4 ?_ ?_))
 obtain ⟨y, ⟨X, Y⟩, h⟩ := Bh h
 refine gQ (Aq 6 [.x 2 y.1 (rB y.2)] I ⟨⟨X, Al Y⟩, J⟩ ?_)
 rcases bt ((!y.2)) with i | i
 have h := Bc i h
 refine Ae 33 I i (Aq 5 [.o 1 0] I J1 ?_)
 rcases bt ((a.2.1 == e)) with j | j
 have h := Bc j h
 refine Ae 38 I j (Aq 12 [.o 8 1] I J1 ?_)
 rcases bt ((a.2.2.2.2.2.2.2.2.1 == e)) with k | k
 have h := Bc k h
 exact Ae 50 I k (Ac 6 I (gR (lg ⟨true, h, I2⟩ [0, 1])))
 have h := Bd k h
 exact Ae 50 I k (Aq 6 [.o 1 1] I J1 (gR (lg ⟨(a.2.2.2.2.2.2.2.2.2.1 == e), h, I2⟩ [0, 1])))
 have h := Bd j h
 refine Ae 38 I j (Aq 7 [.o 1 0] I J1 ?_)
 rcases bt ((a.2.2.1 == e)) with n | n
 have h := Bc n h
 refine Ae 45 I n (Aq 5 [.o 1 1] I J1 ?_)
 rcases bt ((a.2.2.2.2.2.2.2.2.1 == e)) with p | p
 have h := Bc p h
 exact Ae 50 I p (Ac 6 I (gR (lg ⟨true, h, I2⟩ [0, 1])))
 have h := Bd p h
 exact Ae 50 I p (Aq 6 [.o 1 1] I J1 (gR (lg ⟨(a.2.2.2.2.2.2.2.2.2.1 == e), h, I2⟩ [0, 1])))
 have h := Bd n h
 exact Ae 45 I n (Ac 5 I (Bk I I dS (Bk I I dS (Bk I I dS (Bk I I dS (Ac 2 I (gR (lg ⟨false, h, I2⟩ [0, 1]))))))))
 have h := Bd i h
 exact Ae 33 I i (Ac 5 I (Bk I I dS (Bk I I dS (Bk I I dS (Bk I I dS (Ac 8 I (Bk I I dS (Bk I I dS (Bk I I dS (Bk I I dS (Ac 2 I (gR (lg ⟨false, h, I2⟩ [0, 1])))))))))))))
 rintro s ob ⟨w, h, rfl, rfl⟩
 refine An h I ?_ ?_
 intro Z h
 refine Ag I ?_
 obtain rfl := F _ (oi h).symm
 have h := E
 have h := Dl h
 refine gY g0 ?_
 cases io h
 exact gW pr
 intro Z h
 refine gU (gQ (Ac 3 I ?_))
 cases io h
 exact gR ⟨_, _, _, I, I2, J4, [0, 1], I, by decide⟩
 intro W h
 obtain rfl := F _ (oi h).symm
 have h := E
 have h := Dm h
 exact gZ (lg ⟨(), h, I2⟩ [])
 rintro s ob ⟨D, h, rfl, rfl⟩
 unfold Mi.J2 at h
 refine Ag I ?_
 cases io h
 exact gW pr
theorem Wn (b : Nw) (N : List Bool) (r : (List Li) × Int) (h : Ic b N = some r) : ACalls Ah 33 [.agg (Af b), Q6 N] [] (fun x new => ∃ (u0 : Value), x = .tup [.v u0, .V r.2] ∧ new = [.us u0 22 1 (r.1.map (rL 1 rI))]) := by
 refine Ad Tryz.func33 I I I fun C hC => ?_
 refine Ab fun y1 an => gQ (gS [] I (Ck (Af b) 6 fun p => Ac 2 I (gR ?_)))
 subst an
 refine Ab fun y3 ao => gT ?_
 obtain ⟨r4, aq, h⟩ := Aa h
 refine gQ (Aq 1 [.o 0 0] I J1 (hG (X4 _ _ aq) (Ac 1 I (gR (Ag I (An h I ?_ ?_))))))
 intro ar h
 refine Ag I (gY (Ay 22 1) (F2 [1] I ?_))
 cases io h
 exact gW ⟨.inr I, [_, _], [.us (.slice none 0 0) 22 1 ([].map (rL 1 rI))], J2, Dt I (Cd), ⟨(.slice none 0 0), I2⟩⟩
 intro ar h
 refine gU ?_
 subst ao
 refine Ab fun y7 au => A8 [.l 1 (N.length : Int), .o 3 0, .l 4 (b.Nodes.length : Int)] I ⟨Ax, I, Ax, J⟩ (An h I ?_ ?_)
 intro av h
 refine Ag I (gY (Ay 22 1) (F2 [1] I ?_))
 cases io h
 exact gW ⟨.inr I, [_, _], [.us (.slice none 0 0) 22 1 ([].map (rL 1 rI))], J2, Dt I (Cd), ⟨(.slice none 0 0), I2⟩⟩
 intro av h
 refine gU ?_
 subst au
 refine Ab fun y9 aw => ?_
 obtain ⟨cn, ⟨co, ax, ay, az⟩, h⟩ := fS h
 refine gQ (Aq 3 [.o 1 0, .l 2 (b.Segments.length : Int)] I ⟨Ax, I, J⟩ (gS [] I (bG (sz := 1) I I I I I I I I I I ax ay (cB (f := rI) az I) dS fun a => Ac 1 I (gR ?_))))
 subst aw
 refine Aj (fun s ob => ∃ (X : Li), Ic.J1 b N X = some r ∧ s = [] ∧ ob = [O0 p [Af b], U0 a X]) [(1, _), (2, _), (7, _)] J3 ?_ ?_
 refine Ag I (gV ?_)
 obtain ⟨cp, a0, a1⟩ := Aa h
 refine A5 a0 [(1, _), (2, _), (7, _)] J3 (fun (E : Li × Int) s ob => s = [(8, .V E.2)] ∧ ob = [O0 p [Af b], U0 a E.1]) ⟨I, I⟩ ⟨I, J⟩ ⟨[0, 1], I, by decide⟩ ?_
 rintro E cq s ob ⟨rfl, rfl⟩ h a2
 refine gT (gT (gQ (Ac 2 I (hM (B0 1 I I I I) I (Ac 1 I (gR (An h I ?_ ?_)))))))
 intro a3 h
 refine gU (gT (gV ?_))
 obtain ⟨ae, ⟨a4, af⟩, h⟩ := Bh h
 refine gQ (Ac 3 I (hM (Dd 1 (m := ae.1) I I I I I I I a4 (Al af)) I (gS [1] I (De 1 ae.1 0 I I I (Al af) I I I I (A9 I) I (Ew (x := E.2) I) (gR (gQ (Ac 3 I ?_)))))))
 cases io h
 exact gR ⟨_, _, _, I, I2, J4, [0, 1], I, by decide⟩
 intro a3 h
 obtain rfl := a2 _ (oi h).symm
 have h := a1
 exact gZ (lg ⟨E.1, h, I2⟩ [0, 1])
 rintro s ob ⟨X, h, rfl, rfl⟩
 unfold Ic.J1 at h
 refine Aj (fun s ob => ∃ (i : Li), Ic.J2 i = some r ∧ s = [] ∧ ob = [U0 a i]) [(7, _)] J1 ?_ ?_
 refine Ag I (gV ?_)
 obtain ⟨cr, a5, a6⟩ := Aa h
 refine A5 a5 [(1, _), (2, _), (7, _)] J3 (fun (O : Li × Bool) s ob => s = [(9, .v (.bool O.2))] ∧ ob = [O0 p [Af b], U0 a O.1]) ⟨I, I⟩ ⟨I, J⟩ ⟨[0, 1], I, by decide⟩ ?_
 rintro O ct s ob ⟨rfl, rfl⟩ h a7
 refine Ab fun cu a8 => Ag I (An h I ?_ ?_)
 intro a9 h
 refine gU ?_
 subst a8
 refine gV (Ag I (Ag I (gV ?_)))
 obtain ⟨cv, ba, bb⟩ := Aa h
 refine A5 ba [(1, _), (2, _), (7, _)] J3 (fun (A : Li × Bool × Int) s ob => s = [(9, .v (.bool A.2.1)), (10, .V A.2.2)] ∧ ob = [O0 p [Af b], U0 a A.1]) ⟨I, I⟩ ⟨I, I, J⟩ ⟨[0, 1], I, by decide⟩ ?_
 rintro A bc s ob ⟨rfl, rfl⟩ h bd
 refine Ab fun cw be => gT (gQ (Ac 2 I (hM (B0 1 I I I I) I (Ac 1 I (gR (An h I ?_ ?_))))))
 intro bf h
 refine gU ?_
 subst be
 refine Aj (fun s ob => ∃ (P : Li × Bool), Ic.J11 A P = some bc ∧ s = [(9, .v (.bool P.2))] ∧ ob = [O0 p [Af b], U0 a P.1]) [(1, _), (2, _), (7, _), (10, _)] J4 ?_ ?_
 refine gV (Ag I (gV ?_))
 obtain ⟨cx, bg, bh⟩ := Aa h
 refine A5 bg [(1, _), (2, _), (7, _), (10, _)] J4 (fun (e : Li × Bool × Int) s ob => s = [(9, .v (.bool e.2.1)), (11, .V e.2.2)] ∧ ob = [O0 p [Af b], U0 a e.1]) ⟨I, I⟩ ⟨I, I, J⟩ ⟨[0, 1], I, by decide⟩ ?_
 rintro e ag s ob ⟨rfl, rfl⟩ h bi
 refine Ab fun cy bj => gT (gQ (Ac 2 I (hM (B0 1 I I I I) I (Ac 1 I (gR (An h I ?_ ?_))))))
 intro bk h
 refine gU ?_
 subst bj
 refine Aj (fun s ob => ∃ (Q : Li × Bool), Ic.J13 e Q = some ag ∧ s = [(9, .v (.bool Q.2))] ∧ ob = [O0 p [Af b], U0 a Q.1]) [(1, _), (2, _), (7, _), (10, _), (11, _)] J5 ?_ ?_
 refine gV (Aj (fun s ob => ∃ (Y : Bool), Ic.J14 A e Y = some ag ∧ s = [(69, .v (.bool Y))] ∧ ob = [O0 p [Af b], U0 a e.1]) [(1, _), (2, _), (7, _), (9, _), (10, _), (11, _)] J6 ?_ ?_)
 obtain ⟨j, ⟨ah, B⟩, h⟩ := Bh h
 obtain ⟨k, ⟨ai, D⟩, h⟩ := Bh h
 rcases bt (decide (j.2 < k.2)) with F | F
 have h := Bc F h
 obtain ⟨bl, bm, h⟩ := Aa h
 refine Fo 1 j.1 I B fun bn => Fo 1 k.1 I D fun bo => C4 (pd 16 0 [14]) [1, 0] [_, _] I (Bm 2 I (AP.op I (C8 (m := j.1) I I I I I bn I ah B) I (AP.o I (Dv 0 j.1 0 I I I (Al B) I (y := .V j.2) I) I (Bm 2 I (AP.op I (C8 (m := k.1) I I I I I bo I ai D) I (AP.o I (Dv 0 k.1 0 I I I (Al D) I (y := .V k.2) I) I (Bm 2 I (Ba 63 I F (C6 4 [.o 0 1] I J1 (Gx I (Xr _ _ _ _ _ bm) ?_))))))))))
 exact Bm 1 I (A2 (gR (lg ⟨bl, h, I2⟩ [0, 1])))
 have h := Bd F h
 refine Fo 1 j.1 I B fun bp => Fo 1 k.1 I D fun bq => C4 (pd 16 0 [14]) [1] [_] I (Bm 2 I (AP.op I (C8 (m := j.1) I I I I I bp I ah B) I (AP.o I (Dv 0 j.1 0 I I I (Al B) I (y := .V j.2) I) I (Bm 2 I (AP.op I (C8 (m := k.1) I I I I I bq I ai D) I (AP.o I (Dv 0 k.1 0 I I I (Al D) I (y := .V k.2) I) I (Bm 2 I (Ba 63 I F (Bm 6 I (A2 ?_))))))))))
 exact gR (lg ⟨false, h, I2⟩ [0, 1])
 rintro s ob ⟨Y, h, rfl, rfl⟩
 refine An h I ?_ ?_
 intro br h
 refine gT ?_
 obtain ⟨G, ⟨bs, aj⟩, h⟩ := Bh h
 obtain ⟨Z, ⟨bu, ak⟩, h⟩ := Bh h
 exact gQ (Ac 4 I (hM (Dd 1 (m := G.1) I I I I I I I bs (Al aj)) I (hM (Dv 1 G.1 0 I I I (Al aj) I (y := .V G.2) I) I (hM (Dd 1 (m := Z.1) I I I I I I I bu (Al ak)) I (gS [1] I (De 1 Z.1 0 I I I (Al ak) I I I I (A9 I) I (Ew (x := G.2) I) (gR (N2 I (lg ⟨((e.1.set Z.1 G.2), true), h, I2⟩ [0, 1])))))))))
 intro br h
 exact gU (lg ⟨(e.1, e.2.1), h, I2⟩ [0, 1])
 rintro s ob ⟨Q, h, rfl, rfl⟩
 unfold Ic.J13 at h
 refine gQ (Ac 3 I ?_)
 cases io h
 exact gR ⟨_, _, _, I, I2, J6, [0, 1], I, by decide⟩
 intro bk h
 obtain rfl := bi _ (oi h).symm
 have h := bh
 exact gZ (lg ⟨(e.1, e.2.1), h, I2⟩ [0, 1])
 rintro s ob ⟨P, h, rfl, rfl⟩
 unfold Ic.J11 at h
 refine gQ (Ac 3 I ?_)
 cases io h
 exact gR ⟨_, _, _, I, I2, J5, [0, 1], I, by decide⟩
 intro bf h
 obtain rfl := bd _ (oi h).symm
 have h := bb
 cases io h
 refine gZ ?_
 exact ⟨_, _, _, I, I2, J4, [0, 1], I, by decide⟩
 intro a9 h
 obtain rfl := a7 _ (oi h).symm
 have h := a6
 exact gZ (lg ⟨O.1, h, I2⟩ [1])
 rintro s ob ⟨i, h, rfl, rfl⟩
 unfold Ic.J2 at h
 refine Ag I (Aj (fun s ob => ∃ (R : List Li) (H : Value), Ic.J3 R = some r ∧ s = [(12, .v H)] ∧ ob = [.us H 22 1 (R.map (rL 1 rI))]) [] J ?_ ?_)
 refine Ag I (gV (gY (Ay 22 1) ?_))
 obtain ⟨cz, bv, bw⟩ := Aa h
 refine A5 bv [(7, _)] J1 (fun (g : (List Li) × Int) s ob => ∃ (n : Value), s = [(12, .v n), (13, .V g.2)] ∧ ob = [U0 a i, .us n 22 1 (g.1.map (rL 1 rI))]) ⟨(.slice none 0 0), I2⟩ ⟨I, I, J⟩ ⟨[0, 1], I, by decide⟩ ?_
 rintro g al s ob ⟨n, rfl, rfl⟩ h bx
 refine Ab fun c0 bz => gT (gQ (Ac 2 I (hM (B0 0 I I I I) I (Ac 1 I (gR (An h I ?_ ?_))))))
 intro b0 h
 refine gU ?_
 subst bz
 refine Aj (fun s ob => ∃ (aa : List Li) (S : Value), Ic.J5 g aa = some al ∧ s = [(12, .v S)] ∧ ob = [U0 a i, .us S 22 1 (aa.map (rL 1 rI))]) [(7, _), (13, _)] J2 ?_ ?_
 refine gV (Ag I (Aj (fun s ob => ∃ (u : Li) (U : Value), Ic.J6 g u = some al ∧ s = [(14, .v U)] ∧ ob = [U0 a i, .us n 22 1 (g.1.map (rL 1 rI)), U0 U u]) [(7, _), (12, _), (13, _)] J3 ?_ ?_))
 refine Ag I (gV (gY (Ay 3 1) ?_))
 obtain ⟨c1, b1, b3⟩ := Aa h
 refine A5 b1 [(7, _), (12, _), (13, _)] J3 (fun (w : Li × Int) s ob => ∃ (M : Value), s = [(14, .v M), (15, .V w.2)] ∧ ob = [U0 a i, .us n 22 1 (g.1.map (rL 1 rI)), U0 M w.1]) ⟨(.slice none 0 0), I2⟩ ⟨I, I, J⟩ ⟨[0, 1, 2], I, by decide⟩ ?_
 rintro w b4 s ob ⟨M, rfl, rfl⟩ h b5
 refine Ab fun c2 b6 => gT (gQ (Ac 2 I (hM (B0 0 I I I I) I (Ac 1 I (gR (An h I ?_ ?_))))))
 intro b7 h
 refine gU ?_
 subst b6
 refine Aj (fun s ob => ∃ (ab : Li) (W : Value), Ic.J8 w ab = some b4 ∧ s = [(14, .v W)] ∧ ob = [U0 a i, .us n 22 1 (g.1.map (rL 1 rI)), U0 W ab]) [(7, _), (12, _), (13, _), (15, _)] J4 ?_ ?_
 refine gV (gT ?_)
 obtain ⟨ac, ⟨b8, am⟩, h⟩ := Bh h
 refine gQ (Ac 2 I (hM (Dd 0 (m := ac.1) I I I I I I I b8 (Al am)) I (hM (Dv 0 ac.1 0 I I I (Al am) I (y := .V ac.2) I) I (Ac 2 I (gR (An h I ?_ ?_))))))
 intro b9 h
 obtain ⟨ca, cb, h⟩ := Aa h
 exact gQ (Ac 2 I (gS [] I (hE 1 (([w.2] : Li).map rI) (gS [2] I (Cq 2 I cb fun cc => Ac 1 I (gR (lg ⟨ca, cc, h, I2⟩ [0, 1, 2])))))))
 intro b9 h
 exact gU (lg ⟨w.1, M, h, I2⟩ [0, 1, 2])
 rintro s ob ⟨ab, W, h, rfl, rfl⟩
 unfold Ic.J8 at h
 refine gQ (Ac 3 I ?_)
 cases io h
 exact gR ⟨_, _, _, I, ⟨W, I2⟩, J5, [0, 1, 2], I, by decide⟩
 intro b7 h
 obtain rfl := b5 _ (oi h).symm
 have h := b3
 exact gZ (lg ⟨w.1, M, h, I2⟩ [0, 1, 2])
 rintro s ob ⟨u, U, h, rfl, rfl⟩
 refine gT (gQ (Ac 1 I (hM (B0 2 I I I I) I (Ac 1 I (gR (An h I ?_ ?_))))))
 intro cd h
 obtain ⟨ce, cf, h⟩ := Aa h
 exact gQ (Ac 2 I (iE (Bi [2] (K := [U0 U u]) I [(14, Q0 u), (99, Q0 u), (103, Q0 u)] ⟨⟨_, I, .us 0 I⟩, ⟨_, I, .us 0 I⟩, ⟨_, I, .us 0 I⟩, J⟩ (ob' := [U0 a i, .us n 22 1 (g.1.map (rL 1 rI))]) (.rest _)) (gS [] I (hE 1 (([u] : List Li).map (rL 1 rI)) (gS [1] I (Cq 1 I cf fun cg => Ac 1 I (gR (lg ⟨ce, cg, h, I2⟩ [0, 1]))))))))
 intro cd h
 exact gU (lg ⟨g.1, n, h, I2⟩ [0, 1])
 rintro s ob ⟨aa, S, h, rfl, rfl⟩
 unfold Ic.J5 at h
 refine gQ (Ac 3 I ?_)
 cases io h
 exact gR ⟨_, _, _, I, ⟨S, I2⟩, J3, [0, 1], I, by decide⟩
 intro b0 h
 obtain rfl := bx _ (oi h).symm
 have h := bw
 exact gZ (lg ⟨g.1, n, h, I2⟩ [1])
 rintro s ob ⟨R, H, h, rfl, rfl⟩
 unfold Ic.J3 at h
 refine Ag I ?_
 cases io h
 exact gW ⟨.inr I, [_, _], [.us H 22 1 (R.map (rL 1 rI))], J2, Dt I (Cd), ⟨H, I2⟩⟩
theorem Pj (a : Li) (b : Int) (r : Bool) (h : Ii a b = some r) : ACalls Ah 92 [Q0 a, .V b] [] (RB r) := by
 refine Ad Tryz.func92 I I I fun C hC => ?_
 unfold Ii at h
 refine Ag I (Aj (fun s ob => ∃ (c : Unit), Ii.J1 c = some r ∧ s = [] ∧ ob = []) [] J ?_ ?_)
 refine Ag I (gV ?_)
 obtain ⟨p, i, d⟩ := Aa h
 refine A5 i [(0, _), (1, _)] J2 (fun (e : Int) s ob => s = [(5, .V e)] ∧ ob = []) ⟨I, I⟩ ⟨I, J⟩ ⟨[], I, by decide⟩ ?_
 rintro e t s ob ⟨rfl, rfl⟩ h f
 refine Ab fun u j => A8 [.l 2 (a.length : Int)] I ⟨Ax, J⟩ (An h I ?_ ?_)
 intro k h
 refine gU ?_
 subst j
 refine gT (gV (gT ?_))
 obtain ⟨g, ⟨m, n⟩, h⟩ := Bh h
 refine Gn [.x 2 g.1 (rI g.2)] I ⟨⟨m, Al n⟩, J⟩ (An h I ?_ ?_)
 intro o h
 refine Ag I ?_
 obtain rfl := f _ (oi h).symm
 have h := d
 have h := Dl h
 cases io h
 exact gW pr
 intro o h
 refine gU (gQ (Ac 3 I ?_))
 cases io h
 exact gR ⟨_, _, _, I, I2, J3, [], I, by decide⟩
 intro k h
 obtain rfl := f _ (oi h).symm
 have h := d
 have h := Dm h
 exact gZ (lg ⟨(), h, I2⟩ [])
 rintro s ob ⟨c, h, rfl, rfl⟩
 unfold Ii.J1 at h
 refine Ag I ?_
 cases io h
 exact gW pr
theorem Xk (d : Li) (a : Int) (r : Li) (h : Mb d a = some r) : ACalls Ah 93 [Q0 d, .V a] [] (fun x new => ∃ (i : Value), x = .v i ∧ new = [U0 i r]) := by
 refine Ad Tryz.func93 I I I fun C hC => ?_
 unfold Mb at h
 refine Ag I (A8 [.l 1 (d.length : Int)] I ⟨Ax, J⟩ (Aj (fun s ob => ∃ (e : Int), Mb.J1 d a e = some r ∧ s = [(5, .V e)] ∧ ob = []) [(0, _), (1, _)] J2 ?_ ?_))
 refine gV ?_
 obtain ⟨aa, k, m⟩ := Aa h
 refine A5 k [(0, _), (1, _)] J2 (fun (b : Int) s ob => s = [(5, .V b)] ∧ ob = []) ⟨I, I⟩ ⟨I, J⟩ ⟨[], I, by decide⟩ ?_
 rintro b n s ob ⟨rfl, rfl⟩ h o
 unfold Mb.B2 at h
 refine gT (Aj (fun s ob => ∃ (f : Bool), Mb.J3 b f = some n ∧ s = [(19, .v (.bool f))] ∧ ob = []) [(0, _), (1, _), (5, _)] J3 ?_ ?_)
 refine gQ (Ac 3 I ?_)
 rcases bt (decide (b > 0)) with c | c
 have h := Bc c h
 obtain ⟨g, ⟨t, u⟩, h⟩ := Bh h
 exact Ae 11 I c (Aq 8 [.x 3 g.1 (rI g.2)] I ⟨⟨t, Al u⟩, J⟩ (gR (lg ⟨decide (g.2 > a), h, I2⟩ [])))
 have h := Bd c h
 exact Ae 11 I c (Ac 8 I (gR (lg ⟨false, h, I2⟩ [])))
 rintro s ob ⟨f, h, rfl, rfl⟩
 refine An h I ?_ ?_
 intro w h
 refine gU (gV (gQ (Ac 3 I ?_)))
 cases io h
 exact gR ⟨_, _, _, I, I2, J3, [], I, by decide⟩
 intro w h
 obtain rfl := o _ (oi h).symm
 have h := m
 exact gZ (lg ⟨b, h, I2⟩ [])
 rintro s ob ⟨e, h, rfl, rfl⟩
 refine Ab fun ab y => ?_
 obtain ⟨ac, A, h⟩ := Aa h
 obtain ⟨B, D, E, F, G, H, K⟩ := G5 A
 obtain ⟨ad, M, h⟩ := Aa h
 refine gQ (gS [] I (hT (sz := 1) (es := ([] : Li).map rI) I I I I I I I I I I I dS fun ae => Ac 2 I (Bn (Rb B D 0 I I I I I (fP E) ⟨_, _, I, F⟩ I G H K) I (gS [0] I (Cq 0 I M fun af => Ac 1 I (gR ?_))))))
 subst y
 refine gT ?_
 obtain ⟨ag, N, h⟩ := Aa h
 refine gQ (Ac 2 I (gS [] I (hE 1 (([a] : Li).map rI) (gS [0] I (Cq 0 I N fun ah => Ac 1 I (gR (gT ?_)))))))
 obtain ⟨ai, O, h⟩ := Aa h
 obtain ⟨P, Q, R, S, U, W, X⟩ := G5 O
 obtain ⟨Y, Z, h⟩ := Aa h
 refine gQ (Ac 3 I (Bn (Rb P Q 0 I I I I I ⟨_, _, I, R⟩ (gC S) I U W X) I (gS [0] I (Cq 0 I Z fun j => Ac 1 I (gR ?_)))))
 obtain rfl := oi h
 exact gW ⟨.inr I, [_], [U0 j Y], J1, Dt I (Cd), ⟨j, I2⟩⟩
theorem Wl (e : List Li) (p : List Bool) (r : Li × Int) (h : H9 e p = some r) : ACalls Ah 36 [.list 1 (e.map (rL 1 rI)), Q6 p] [] (fun x new => ∃ (P : Value), x = .tup [.v P, .V r.2] ∧ new = [U0 P r.1]) := by
 refine Ad Tryz.func36 I I I fun C hC => ?_
 refine Ag I (Ab fun y2 aa => A8 [.l 1 (p.length : Int), .l 3 (e.length : Int)] I ⟨Ax, Ax, J⟩ (An h I ?_ ?_))
 intro ab h
 refine Ag I (gY (Ay 3 1) ?_)
 cases io h
 rotate_left
 intro ab h
 refine gU ?_
 subst aa
 refine Ab fun y4 ac => A8 [.l 1 (e.length : Int)] I ⟨Ax, J⟩ (An h I ?_ ?_)
 intro ad h
 refine Ag I (gY (Ay 3 1) ?_)
 cases io h
 rotate_left
 intro ad h
 refine gU ?_
 subst ac
 refine Ag I (Aj (fun s ob => ∃ (B : Int), H9.J1 e p B = some r ∧ s = [(6, .V B)] ∧ ob = []) [(0, _), (1, _)] J2 ?_ ?_)
 refine Ag I (gV ?_)
 obtain ⟨bi, ae, Q⟩ := Aa h
 refine A5 ae [(0, _), (1, _)] J2 (fun (d : Int × Int) s ob => s = [(6, .V d.1), (7, .V d.2)] ∧ ob = []) ⟨I, I⟩ ⟨I, I, J⟩ ⟨[], I, by decide⟩ ?_
 rintro d R s ob ⟨rfl, rfl⟩ h S
 refine Ab fun bj af => A8 [.l 2 (e.length : Int)] I ⟨Ax, J⟩ (An h I ?_ ?_)
 intro ag h
 refine gU ?_
 subst af
 refine Aj (fun s ob => ∃ (D : Int), H9.J10 d D = some R ∧ s = [(6, .V D)] ∧ ob = []) [(0, _), (1, _), (7, _)] J3 ?_ ?_
 refine gV (Ab fun bk ah => gT ?_)
 obtain ⟨E, ⟨ai, aj⟩, h⟩ := Bh h
 refine Gn [.x 2 E.1 ((rL 1 rI) E.2), .l 4 (E.2.length : Int)] I ⟨Ax, ⟨ai, Al aj⟩, J⟩ (An h I ?_ ?_)
 intro ak h
 refine Ag I ?_
 obtain rfl := S _ (oi h).symm
 have h := Q
 have h := Dl h
 refine gY (Ay 3 1) ?_
 cases io h
 any_goals
  exact gW ⟨.inr I, [_, _], [.us (.slice none 0 0) 3 1 ([].map rI)], J2, Dt I (Cd), ⟨(.slice none 0 0), I2⟩⟩
 intro ak h
 refine gU ?_
 subst ah
 refine Aj (fun s ob => ∃ (F : Bool), H9.J11 d F = some R ∧ s = [(40, .v (.bool F))] ∧ ob = []) [(0, _), (1, _), (6, _), (7, _)] J4 ?_ ?_
 obtain ⟨G, ⟨al, am⟩, h⟩ := Bh h
 refine gQ (Aq 5 [.x 2 G.1 (rB G.2)] I ⟨⟨al, Al am⟩, J⟩ ?_)
 rcases bt (G.2) with g | g
 have h := Bc g h
 exact Ae 37 I g (Ac 3 I (gR (lg ⟨decide (d.1 < 0), h, I2⟩ [])))
 have h := Bd g h
 exact Ae 37 I g (Ac 3 I (gR (lg ⟨false, h, I2⟩ [])))
 rintro s ob ⟨F, h, rfl, rfl⟩
 refine An h I ?_ ?_
 intro an h
 exact N2 I (lg ⟨d.2, h, I2⟩ [])
 intro an h
 exact gU (lg ⟨d.1, h, I2⟩ [])
 rintro s ob ⟨D, h, rfl, rfl⟩
 unfold H9.J10 at h
 refine gQ (Ac 3 I ?_)
 cases io h
 exact gR ⟨_, _, _, I, I2, J4, [], I, by decide⟩
 intro ag h
 obtain rfl := S _ (oi h).symm
 have h := Q
 have h := Dm h
 exact gZ (lg ⟨d.1, h, I2⟩ [])
 rintro s ob ⟨B, h, rfl, rfl⟩
 refine Ab fun bl ao => Ag I (An h I ?_ ?_)
 intro ap h
 refine Ag I (gY (Ay 3 1) ?_)
 cases io h
 exact gW ⟨.inr I, [_, _], [.us (.slice none 0 0) 3 1 ([].map rI)], J2, Dt I (Cd), ⟨(.slice none 0 0), I2⟩⟩
 intro ap h
 refine gU ?_
 subst ao
 refine Ag I (Aj (fun s ob => ∃ (u : Li) (i : Value), H9.J2 u = some r ∧ s = [(8, .v i)] ∧ ob = [U0 i u]) [] J ?_ ?_)
 refine Ag I (gV (gY (Ay 3 1) ?_))
 obtain ⟨bm, aq, ar⟩ := Aa h
 refine A5 aq [(0, _), (1, _), (6, _)] J3 (fun (a : Li × Int) s ob => ∃ (b : Value), s = [(8, .v b), (9, .V a.2)] ∧ ob = [U0 b a.1]) ⟨(.slice none 0 0), I2⟩ ⟨I, I, J⟩ ⟨[0], I, by decide⟩ ?_
 rintro a H s ob ⟨b, rfl, rfl⟩ h au
 refine Ab fun bn av => gT ?_
 obtain ⟨j, ⟨U, W⟩, h⟩ := Bh h
 refine Gn [.x 3 j.1 ((rL 1 rI) j.2), .l 5 (j.2.length : Int)] I ⟨Ax, ⟨U, Al W⟩, J⟩ (An h I ?_ ?_)
 intro aw h
 refine gU ?_
 subst av
 refine Aj (fun s ob => ∃ (M : Li) (w : Value), H9.J4 a M = some H ∧ s = [(8, .v w)] ∧ ob = [U0 w M]) [(0, _), (1, _), (6, _), (9, _)] J4 ?_ ?_
 refine gV (Ab fun bo ax => ?_)
 obtain ⟨y, ⟨ay, az⟩, h⟩ := Bh h
 refine Gn [.x 2 j.1 ((rL 1 rI) j.2), .x 5 y.1 (rI y.2)] I ⟨⟨ay, Al az⟩, ⟨U, Al W⟩, J⟩ ?_
 subst ax
 refine Ag I (Aj (fun s ob => ∃ (A : Bool), H9.J5 a y A = some H ∧ s = [(11, .v (.bool A))] ∧ ob = [U0 b a.1]) [(0, _), (1, _), (6, _), (8, _), (9, _), (10, _)] J6 ?_ ?_)
 refine Ag I (gV ?_)
 obtain ⟨bp, a0, a1⟩ := Aa h
 refine A5 a0 [(0, _), (1, _), (6, _), (8, _), (9, _), (10, _)] J6 (fun (f : Bool × Int) s ob => s = [(11, .v (.bool f.1)), (12, .V f.2)] ∧ ob = [U0 b a.1]) ⟨I, I⟩ ⟨I, I, J⟩ ⟨[0], I, by decide⟩ ?_
 rintro f a2 s ob ⟨rfl, rfl⟩ h a3
 refine Ab fun bq a4 => A8 [.l 2 (e.length : Int)] I ⟨Ax, J⟩ (An h I ?_ ?_)
 intro a5 h
 refine gU ?_
 subst a4
 refine Aj (fun s ob => ∃ (N : Bool), H9.J8 f N = some a2 ∧ s = [(11, .v (.bool N))] ∧ ob = [U0 b a.1]) [(0, _), (1, _), (6, _), (8, _), (9, _), (10, _), (12, _)] J7 ?_ ?_
 refine gV (gQ (Ac 2 I ?_))
 rcases bt (f.1) with k | k
 have h := Bc k h
 obtain ⟨m, ⟨X, Y⟩, h⟩ := Bh h
 refine Ae 67 I k ?_
 rcases bt ((!m.2)) with n | n
 have h := Bc n h
 exact Aq 6 [.x 2 m.1 (rB m.2)] I ⟨⟨X, Al Y⟩, J⟩ (Ae 73 I n (Ac 9 I (gR (lg ⟨true, h, I2⟩ [0]))))
 have h := Bd n h
 obtain ⟨Z, ⟨a6, a7⟩, h⟩ := Bh h
 obtain ⟨a8, a9, h⟩ := Aa h
 exact Aq 6 [.x 2 m.1 (rB m.2)] I ⟨⟨X, Al Y⟩, J⟩ (Ae 73 I n (Aq 5 [.x 2 Z.1 ((rL 1 rI) Z.2)] I ⟨⟨a6, Al a7⟩, J⟩ (Bg I I I (hG (Pj _ _ _ a9) (Ac 3 I (gR (lg ⟨a8, h, I2⟩ [0])))))))
 have h := Bd k h
 exact Ae 67 I k (Ac 6 I (Bk I I dS (Bk I I dS (Bk I I dS (Bk I I dS (Bk I I dS (Bk I I dS (Ac 3 I (gR (lg ⟨false, h, I2⟩ [0]))))))))))
 rintro s ob ⟨N, h, rfl, rfl⟩
 unfold H9.J8 at h
 refine gQ (Ac 3 I ?_)
 cases io h
 exact gR ⟨_, _, _, I, I2, J8, [0], I, by decide⟩
 intro a5 h
 obtain rfl := a3 _ (oi h).symm
 have h := a1
 exact gZ (lg ⟨f.1, h, I2⟩ [0])
 rintro s ob ⟨A, h, rfl, rfl⟩
 unfold H9.J5 at h
 refine Aj (fun s ob => ∃ (O : Bool), H9.J6 a y O = some H ∧ s = [(88, .v (.bool O))] ∧ ob = [U0 b a.1]) [(0, _), (1, _), (6, _), (8, _), (9, _), (10, _)] J6 ?_ ?_
 rcases bt (A) with o | o
 have h := Bc o h
 obtain ⟨ba, bb, h⟩ := Aa h
 refine gQ (Ac 2 I (Ae 83 I o (Ac 2 I (Bg I I I (gS [] I (Cw I (.refl _) I I (.cons (.us 0 I) (.rest _)) I (Pj _ _ _ bb) dS (by rintro _ _ ⟨rfl, _⟩; rfl) ?_))))))
 rintro _ ⟨_, rfl, -⟩
 exact Ac 2 I (gR (lg ⟨(!ba), h, I2⟩ [0]))
 have h := Bd o h
 exact gQ (Ac 2 I (Ae 83 I o (Ac 5 I (gR (lg ⟨false, h, I2⟩ [0])))))
 rintro s ob ⟨O, h, rfl, rfl⟩
 refine An h I ?_ ?_
 intro bc h
 obtain ⟨bd, be, h⟩ := Aa h
 refine gQ (Ac 2 I (iE (Bi [0] (K := [U0 b a.1]) I [(8, Q0 a.1), (89, Q0 a.1)] ⟨⟨_, I, .us 0 I⟩, ⟨_, I, .us 0 I⟩, J⟩ (ob' := []) (.rest _)) (gS [] I (Dh I I I (Xk _ _ _ be) dS ?_))))
 rintro _ _ ⟨bf, rfl, rfl⟩
 exact Ac 1 I (gR (lg ⟨bd, bf, h, I2⟩ [0]))
 intro bc h
 exact gU (lg ⟨a.1, b, h, I2⟩ [0])
 rintro s ob ⟨M, w, h, rfl, rfl⟩
 unfold H9.J4 at h
 refine gQ (Ac 3 I ?_)
 cases io h
 exact gR ⟨_, _, _, I, ⟨w, I2⟩, J5, [0], I, by decide⟩
 intro aw h
 obtain rfl := au _ (oi h).symm
 have h := ar
 exact gZ (lg ⟨a.1, b, h, I2⟩ [0])
 rintro s ob ⟨u, i, h, rfl, rfl⟩
 unfold H9.J2 at h
 refine Ag I ?_
 cases io h
 exact gW ⟨.inr I, [_, _], [U0 i u], J2, Dt I (Cd), ⟨i, I2⟩⟩
theorem Xl (c : List Li) (d : List Li) (r : Bool) (h : Mc c d = some r) : ACalls Ah 34 [.list 1 (c.map (rL 1 rI)), .list 1 (d.map (rL 1 rI))] [] (RB r) := by
 refine Ad Tryz.func34 I I I fun C hC => ?_
 refine Ag I (Ab fun W A => A8 [.l 1 (c.length : Int), .l 3 (d.length : Int)] I ⟨Ax, Ax, J⟩ (An h I ?_ ?_))
 intro B h
 refine Ag I ?_
 cases io h
 exact gW pr
 intro B h
 refine gU ?_
 subst A
 refine Aj (fun s ob => ∃ (k : Unit), Mc.J1 k = some r ∧ s = [] ∧ ob = []) [] J ?_ ?_
 refine Ag I (gV ?_)
 obtain ⟨X, D, e⟩ := Aa h
 refine A5 D [(0, _), (1, _)] J2 (fun (f : Int) s ob => s = [(5, .V f)] ∧ ob = []) ⟨I, I⟩ ⟨I, J⟩ ⟨[], I, by decide⟩ ?_
 rintro f E s ob ⟨rfl, rfl⟩ h g
 refine Ab fun Y F => A8 [.l 2 (c.length : Int)] I ⟨Ax, J⟩ (An h I ?_ ?_)
 intro G h
 refine gU ?_
 subst F
 refine Aj (fun s ob => ∃ (m : Unit), Mc.J3 f m = some E ∧ s = [] ∧ ob = []) [(0, _), (1, _), (5, _)] J3 ?_ ?_
 refine gV (Ab fun Z H => gT ?_)
 obtain ⟨a, ⟨i, j⟩, h⟩ := Bh h
 obtain ⟨b, ⟨n, o⟩, h⟩ := Bh h
 refine Gw (pd 11 0 []) [] [] [.x 2 a.1 ((rL 1 rI) a.2), .l 4 (a.2.length : Int), .x 7 b.1 ((rL 1 rI) b.2), .l 9 (b.2.length : Int)] I I ⟨Ax, ⟨n, Al o⟩, Ax, ⟨i, Al j⟩, J⟩ (An h I ?_ ?_)
 intro K h
 refine Ag I ?_
 obtain rfl := g _ (oi h).symm
 have h := e
 have h := Dl h
 cases io h
 exact gW pr
 intro K h
 refine gU ?_
 subst H
 refine Ag I (gV ?_)
 obtain ⟨aa, M, p⟩ := Aa h
 refine A5 M [(0, _), (1, _), (5, _)] J3 (fun (t : Int) s ob => s = [(6, .V t)] ∧ ob = []) ⟨I, I⟩ ⟨I, J⟩ ⟨[], I, by decide⟩ ?_
 rintro t ab s ob ⟨rfl, rfl⟩ h u
 refine Ab fun ac N => A8 [.x 3 a.1 ((rL 1 rI) a.2), .l 5 (a.2.length : Int)] I ⟨Ax, ⟨i, Al j⟩, J⟩ (An h I ?_ ?_)
 intro O h
 refine gU ?_
 subst N
 refine gT (gV (gT ?_))
 obtain ⟨w, ⟨P, Q⟩, h⟩ := Bh h
 obtain ⟨y, ⟨R, S⟩, h⟩ := Bh h
 refine Gw (pd 15 0 []) [] [] [.x 2 a.1 ((rL 1 rI) a.2), .x 5 w.1 (rI w.2), .x 9 b.1 ((rL 1 rI) b.2), .x 12 y.1 (rI y.2)] I I ⟨⟨R, Al S⟩, ⟨n, Al o⟩, ⟨P, Al Q⟩, ⟨i, Al j⟩, J⟩ (An h I ?_ ?_)
 intro U h
 refine Ag I ?_
 obtain rfl := u _ (oi h).symm
 have h := p
 have h := Dl h
 obtain rfl := g _ (oi h).symm
 have h := e
 have h := Dl h
 cases io h
 exact gW pr
 intro U h
 refine gU (gQ (Ac 3 I ?_))
 cases io h
 exact gR ⟨_, _, _, I, I2, J4, [], I, by decide⟩
 intro O h
 obtain rfl := u _ (oi h).symm
 have h := p
 have h := Dm h
 exact gZ (lg ⟨(), h, I2⟩ [])
 rintro s ob ⟨m, h, rfl, rfl⟩
 unfold Mc.J3 at h
 refine gQ (Ac 3 I ?_)
 cases io h
 exact gR ⟨_, _, _, I, I2, J3, [], I, by decide⟩
 intro G h
 obtain rfl := g _ (oi h).symm
 have h := e
 have h := Dm h
 exact gZ (lg ⟨(), h, I2⟩ [])
 rintro s ob ⟨k, h, rfl, rfl⟩
 unfold Mc.J1 at h
 refine Ag I ?_
 cases io h
 exact gW pr
theorem Xz (a : Li) (r : KS) (h : Qi a = some r) : ACalls Ah 8 [Q0 a] [] (fun x new => ∃ (c : Nat), x = .v (.pointer (some ⟨c, 0, none⟩)) ∧ new = [O1 c [A0 r]]) := by
 refine Ad Tryz.func8 I I I fun C hC => ?_
 refine Ag I (gT ?_)
 obtain ⟨b, e, h⟩ := Aa h
 obtain ⟨f, g, i, j, k, n, o⟩ := G5 e
 refine gQ (Aq 4 [.l 2 (a.length : Int)] I ⟨Ax, J⟩ (Bn (Rb f g 0 I I I I I (fP i) ⟨_, _, I, j⟩ I k n o) I (Bn (Bq (l := [Q0 b, .V 0]) Ue I) I (gS [] I (Ck [Q0 b, .V 0] 2 fun d => Ac 1 I (gR ?_))))))
 obtain rfl := oi h
 exact gW ⟨.inr I, [_], [O1 d [[Q0 b, .V 0]]], J1, Dt I (Cd), ⟨d, I2⟩⟩
theorem Ws (b : Nat) (a : KS) (r : Int × KS) (h : P6 a = some r) : ACalls Ah 55 [.v (.pointer (some ⟨b, 0, none⟩))] [O1 b [A0 a]] (Er 1 fun x os new => x = .V r.1 ∧ os = [O1 b [A0 r.2]] ∧ new = []) := by
 refine Ad Tryz.func55 I I I fun C hC => ?_
 refine Ag I (Ab fun j d => fV (pd 10 0 []) [0] [_] [.o 3 0, .o 7 0, .l 8 (a.L_.length : Int)] I I ⟨Ax, I, I, J⟩ (An h I ?_ ?_))
 intro e h
 refine Ag I ?_
 obtain rfl := oi h
 exact gW ⟨.inr I, [_], [O1 b [A0 a]], J1, Dt I (Cd), ⟨[O1 b [A0 a]], [], I5⟩⟩
 intro e h
 refine gU ?_
 subst d
 refine Ab fun k f => gQ (Aq 7 [.o 3 0] I J1 (gS [0] I (Bo 0 0 1 [[Q0 a.L_, .V (wr (a.At + 1))]] I (gR ?_))))
 subst f
 refine gT ?_
 obtain ⟨c, ⟨g, i⟩, h⟩ := Bh h
 refine Gw (pd 12 0 []) [0] [_] [.o 3 0, .o 7 0, .x 9 c.1 (rI c.2)] I I ⟨⟨g, Al i⟩, I, I, J⟩ ?_
 obtain rfl := oi h
 exact gW ⟨.inr I, [_], [O1 b [[Q0 a.L_, .V (wr (a.At + 1))]]], J1, Dt I (Cd), ⟨[O1 b [[Q0 a.L_, .V (wr (a.At + 1))]]], [], I5⟩⟩
theorem A3 (a : Nat) (b : KS) (d : Int) (r : Int × KS) (h : Cg b d = some r) : ACalls Ah 12 [.v (.pointer (some ⟨a, 0, none⟩)), .V d] [O1 a [A0 b]] (Er 1 fun x os new => x = .V r.1 ∧ os = [O1 a [A0 r.2]] ∧ new = []) := by
 refine Ad Tryz.func12 I I I fun C hC => ?_
 refine Ag I (gT ?_)
 obtain ⟨e, f, h⟩ := Aa h
 obtain ⟨i, g, h⟩ := Aa h
 refine gQ (Ac 1 I (gS [0] I (Ar [0] (Ws a _ _ f) ?_)))
 refine Ac 1 I (hG (Ps _ _ _ g) (Ac 1 I (gR ?_)))
 obtain rfl := oi h
 exact gW ⟨.inr I, [_], [O1 a [A0 e.2]], J1, Dt I (Cd), ⟨[O1 a [A0 e.2]], [], I5⟩⟩
theorem Bl (b : Bt) (a : Int) (r : Bt) (h : Fa b a = some r) : ACalls Ah 49 [.v (.string b), .V a] [] (RV (.v (.string r))) := by
 refine Ad Tryz.func49 I I I fun C hC => ?_
 refine Ag I (gT ?_)
 obtain ⟨g, d, h⟩ := Aa h
 obtain ⟨i, e, h⟩ := Aa h
 refine gQ (Aq 4 [.f 2 (.V (a.tmod 26))] I ⟨iB (C2 (c := (a.tmod 26)) I I ⟨by decide, I⟩), J⟩ (Bn (aE (c := IntKind.u8.wrap (wr (97 + (a.tmod 26)))) I I I I I) I (gS [] I (hT (sz := 1) (es := ([IntKind.u8.wrap (wr (97 + (a.tmod 26)))] : Li).map (rK .u8)) I I I I I I I I I I I dS fun j => gS [] I (Yr 0 d I I I I I I I I dS (Bn (Sr I I (So e)) I (Ac 1 I (gR (gY g0 ?_)))))))))
 cases io h
 exact gW pr
theorem Ai (a : Nat) (c : KS) (b : Li) (r : Int × KS) (h : Cf c b = some r) : ACalls Ah 47 [.v (.pointer (some ⟨a, 0, none⟩)), Q0 b] [O1 a [A0 c]] (Er 1 fun x os new => x = .V r.1 ∧ os = [O1 a [A0 r.2]] ∧ new = []) := by
 refine Ad Tryz.func47 I I I fun C hC => ?_
 refine Ag I (gT ?_)
 obtain ⟨d, f, h⟩ := Aa h
 obtain ⟨e, ⟨g, i⟩, h⟩ := Bh h
 refine gQ (Aq 4 [.l 3 (b.length : Int)] I ⟨Ax, J⟩ (gS [0] I (Ar [0] (A3 a _ _ _ f) ?_)))
 refine Aq 3 [.x 0 e.1 (rI e.2)] I ⟨⟨g, Al i⟩, J⟩ (gR ?_)
 obtain rfl := oi h
 exact gW ⟨.inr I, [_], [O1 a [A0 d.2]], J1, Dt I (Cd), ⟨[O1 a [A0 d.2]], [], I5⟩⟩
theorem D5 (a : Nat) (b : KS) (c : Int) (d : Int) (r : Int × KS) (h : Fy b c d = some r) : ACalls Ah 48 [.v (.pointer (some ⟨a, 0, none⟩)), .V c, .V d] [O1 a [A0 b]] (Er 1 fun x os new => x = .V r.1 ∧ os = [O1 a [A0 r.2]] ∧ new = []) := by
 refine Ad Tryz.func48 I I I fun C hC => ?_
 refine Ag I (gT ?_)
 obtain ⟨e, f, h⟩ := Aa h
 refine gQ (Ac 6 I (gS [0] I (Ar [0] (A3 a _ _ _ f) ?_)))
 refine Ac 2 I (gR ?_)
 obtain rfl := oi h
 exact gW ⟨.inr I, [_], [O1 a [A0 e.2]], J1, Dt I (Cd), ⟨[O1 a [A0 e.2]], [], I5⟩⟩
theorem Pf (b : Nat) (Y : KS) (S : Int) (F : Int) (G : Int) (r : Sg × KS) (h : Kq Y S F G = some r) : ACalls Ah 50 [.v (.pointer (some ⟨b, 0, none⟩)), .V S, .V F, .V G] [O1 b [A0 Y]] (Er 1 fun x os new => x = .agg (Ao r.1) ∧ os = [O1 b [A0 r.2]] ∧ new = []) := by
 refine Ad Tryz.func50 I I I fun C hC => ?_
 unfold Kq at h
 refine Ab fun y1 aj => gQ (gS [] I (Cl W1 7 fun y => gR ?_))
 subst aj
 refine Aj (fun s ob => ∃ (a : Li × Int × Int × Int), Kq.J1 S a = some r ∧ s = [(2, .V a.2.2.1), (3, .V a.2.2.2)] ∧ ob = [O1 b [[Q0 a.1, .V a.2.1]], O3 y [W1]]) [(0, _), (1, _), (8, _)] J3 ?_ ?_
 refine gT ?_
 obtain ⟨H, ak, h⟩ := Aa h
 refine gQ (Ac 1 I (gS [0] I (Ar [0] (A3 b _ _ _ ak) ?_)))
 refine Ac 1 I (gR (An h I ?_ ?_))
 intro al h
 exact N2 I (lg ⟨(H.2.L_, H.2.At, G, F), h, I2⟩ [0, 1])
 intro al h
 exact gU (lg ⟨(H.2.L_, H.2.At, F, G), h, I2⟩ [0, 1])
 rintro s ob ⟨a, h, rfl, rfl⟩
 refine Ab fun y7 am => ?_
 obtain ⟨g, an, h⟩ := Aa h
 obtain ⟨e, ao, h⟩ := Aa h
 obtain ⟨i, aq, h⟩ := Aa h
 obtain ⟨j, ar, h⟩ := Aa h
 refine gQ (Ac 1 I (hG (Bl _ _ _ an) (Ac 3 I (gS [] I (hE 1 (([1, 2, 7, 20, 60, 200, 1000] : Li).map rI) (gS [0] I (Ar [0] (Ai b _ _ _ ao) ?_)))))))
 refine Ac 1 I (gS [] I (hE 1 (([0, 1, 5, 1000] : Li).map rI) (gS [0] I (Ar [0] (Ai b _ _ _ aq) ?_))))
 refine Ac 1 I (gS [] I (hE 1 (([0, 50, 1000, 100000] : Li).map rI) (gS [0] I (Ar [0] (Ai b _ _ _ ar) ?_))))
 refine Bn (Bq (l := [.v (.string g), .V a.2.2.1, .V a.2.2.2, .V e.1, .V i.1, .V j.1, .N]) Uf I) I (gS [] I (Cl W1 7 fun M => gS [2] I (Bo 2 0 0 [[.v (.string g), .V a.2.2.1, .V a.2.2.2, .V e.1, .V i.1, .V j.1, .N]] I (gR ?_))))
 subst am
 refine Ab fun bd au => ?_
 obtain ⟨k, av, h⟩ := Aa h
 refine gQ (Ac 1 I (gS [] I (hE 1 (([1000000, 6000000, 100000000] : Li).map rI) (gS [0] I (Ar [0] (Ai b _ _ _ av) ?_)))))
 refine Ac 1 I (gR ?_)
 subst au
 refine Ab fun be aw => ?_
 obtain ⟨Z, ax, h⟩ := Aa h
 obtain ⟨bf, aa, h⟩ := Aa h
 refine C4 (sl 3 0 (.still 4 (.act 3 (.still 5 (.act 6 (.act 7 (.still 8 (.drop 9 .nil)))))))) [2] [_] I (C6 4 [.o 1 0] I J1 (gX [0] I I I (Ar [0] (D5 b _ _ _ _ ax) ?_)))
 refine N3 I (Bq (l := [.V 0, .V Z.1, .V k.1]) Ge I) I (gX [] I I I (hE 3 (([(⟨0, Z.1, k.1⟩ : Point)] : List Point).map By) (gX [] I I I (Uh I I I I I I I I (AppSrc.list I) (aA (Du aa).1) (Z9 (Du aa).2) dS fun ab => Bm 1 I (AP.one 3 I fun ay => iD [2] I I I (hO 2 0 6 (es' := [[.v (.string g), .V a.2.2.1, .V a.2.2.2, .V e.1, .V i.1, .V j.1, .v ab]]) I I I I I I (Ci ay) I (A9 I) I I (A2 (gR ?_))))))))
 subst aw
 refine Aj (fun s ob => ∃ (A : Li × Int × (List Point)) (U : Value), Kq.J2 a g e i j k A = some r ∧ s = [] ∧ ob = [O1 b [[Q0 A.1, .V A.2.1]], O3 y [W1], O3 M [[.v (.string g), .V a.2.2.1, .V a.2.2.2, .V e.1, .V i.1, .V j.1, .v U]], U7 U A.2.2]) [(0, _), (8, _), (9, _), (10, _)] J4 ?_ ?_
 refine Ag I (gV ?_)
 obtain ⟨bg, az, ac⟩ := Aa h
 refine A5 az [(0, _), (8, _), (9, _), (10, _)] J4 (fun (f : Li × Int × (List Point) × Int) s ob => ∃ (n : Value), s = [(11, .V f.2.2.2)] ∧ ob = [O1 b [[Q0 f.1, .V f.2.1]], O3 y [W1], O3 M [[.v (.string g), .V a.2.2.1, .V a.2.2.2, .V e.1, .V i.1, .V j.1, .v n]], U7 n f.2.2.1]) ⟨ab, I2⟩ ⟨I, J⟩ ⟨[0, 1, 2, 3], I, by decide⟩ ?_
 rintro f a0 s ob ⟨n, rfl, rfl⟩ h ad
 unfold Kq.B3 at h
 refine Ab fun bh a1 => Aj (fun s ob => ∃ (u : Li × Int × Bool), Kq.J4 e k f u = some a0 ∧ s = [(51, .v (.bool u.2.2))] ∧ ob = [O1 b [[Q0 u.1, .V u.2.1]], O3 y [W1], O3 M [[.v (.string g), .V a.2.2.1, .V a.2.2.2, .V e.1, .V i.1, .V j.1, .v n]], U7 n f.2.2.1]) [(0, _), (8, _), (9, _), (10, _), (11, _)] J5 ?_ ?_
 rcases bt (decide ((f.2.2.1.length : Int) < 7)) with B | B
 have h := Bc B h
 obtain ⟨W, a2, h⟩ := Aa h
 refine gQ (Aq 2 [.o 1 2] I J1 (hM (B0 3 I I I I) I (Ac 2 I (Ae 47 I B (Ac 1 I (Bg I I I (gS [0] I (Ar [0] (A3 b _ _ _ a2) ?_))))))))
 exact Ac 2 I (gR (lg ⟨(W.2.L_, W.2.At, decide (W.1 > 0)), h, I2⟩ [0, 1, 2, 3]))
 have h := Bd B h
 exact gQ (Aq 2 [.o 1 2] I J1 (hM (B0 3 I I I I) I (Ac 2 I (Ae 47 I B (Ac 4 I (gR (lg ⟨(f.1, f.2.1, false), h, I2⟩ [0, 1, 2, 3])))))))
 rintro s ob ⟨u, h, rfl, rfl⟩
 refine An h I ?_ ?_
 intro a3 h
 refine gU ?_
 subst a1
 refine gV (Ab fun bi a4 => ?_)
 obtain ⟨w, a5, h⟩ := Aa h
 refine gQ (Ac 2 I (gS [0] I (Ar [0] (D5 b _ _ _ _ a5) ?_)))
 refine Ac 2 I (gR ?_)
 subst a4
 refine Ab fun bj a6 => A8 [.o 2 2] I J1 (An h I ?_ ?_)
 intro a7 h
 obtain rfl := ad _ (oi h).symm
 have h := ac
 exact gZ (lg ⟨(w.2.L_, w.2.At, f.2.2.1), n, h, I2⟩ [0, 1, 2, 3])
 intro a7 h
 refine gU ?_
 subst a6
 obtain ⟨O, ae, h⟩ := Aa h
 obtain ⟨P, af, h⟩ := Aa h
 obtain ⟨Q, ag, h⟩ := Aa h
 obtain ⟨bk, ah, h⟩ := Aa h
 refine C4 (sl 4 0 (.still 5 (.still 9 (.still 10 (.two 4 6 (.act 6 eA) (.act 4 eA)))))) [2] [_] I (C6 7 [.o 1 0] I J1 (hZ ?_ ?_))
 refine gX [0] I I I (Ar [0] (D5 b _ _ _ _ ae) ?_)
 refine gX [] I I I (hE 1 (([1, 1, 10] : Li).map rI) (gX [0] I I I (Ar [0] (Ai b _ _ _ af) ?_)))
 refine Bm 1 I (gX [0] I I I (Ar [0] (A3 b _ _ _ ag) ?_))
 refine Bm 2 I (N3 I (Bq (l := [.V (wr (f.2.2.2 + w.1)), .V (wr (O.1 * P.1)), .V (wr (k.1 - (wr (Q.1 * 1000))))]) Ge I) I (gX [] I I I (hE 3 (([(⟨wr (f.2.2.2 + w.1), wr (O.1 * P.1), wr (k.1 - (wr (Q.1 * 1000)))⟩ : Point)] : List Point).map By) (gX [3] I I I (Cq 3 I ah fun D => Bm 1 I (AP.one 3 I fun X => iD [2] I I I (hO 2 0 6 (es' := [[.v (.string g), .V a.2.2.1, .V a.2.2.2, .V e.1, .V i.1, .V j.1, .v D]]) I I I I I I (Ci X) I (A9 I) I I (A2 ?_))))))))
 cases io h
 exact gR ⟨_, _, _, I, ⟨D, I2⟩, J5, [0, 1, 2, 3], I, by decide⟩
 refine gX [] I I I (hE 1 (([1, 1, 10] : Li).map rI) (gX [0] I I I (Ar [0] (D5 b _ _ _ _ ae) ?_)))
 refine gX [0] I I I (Ar [0] (Ai b _ _ _ af) ?_)
 refine Bm 1 I (gX [0] I I I (Ar [0] (A3 b _ _ _ ag) ?_))
 refine Bm 2 I (N3 I (Bq (l := [.V (wr (f.2.2.2 + w.1)), .V (wr (O.1 * P.1)), .V (wr (k.1 - (wr (Q.1 * 1000))))]) Ge I) I (gX [] I I I (hE 3 (([(⟨wr (f.2.2.2 + w.1), wr (O.1 * P.1), wr (k.1 - (wr (Q.1 * 1000)))⟩ : Point)] : List Point).map By) (gX [3] I I I (Cq 3 I ah fun D => Bm 1 I (AP.one 3 I fun X => iD [2] I I I (hO 2 0 6 (es' := [[.v (.string g), .V a.2.2.1, .V a.2.2.2, .V e.1, .V i.1, .V j.1, .v D]]) I I I I I I (Ci X) I (A9 I) I I (A2 ?_))))))))
 cases io h
 exact gR ⟨_, _, _, I, ⟨D, I2⟩, J5, [0, 1, 2, 3], I, by decide⟩
 intro a3 h
 obtain rfl := ad _ (oi h).symm
 have h := ac
 exact gZ (lg ⟨(u.1, u.2.1, f.2.2.1), n, h, I2⟩ [0, 1, 2, 3])
 rintro s ob ⟨A, U, h, rfl, rfl⟩
 refine gT ?_
 obtain ⟨E, a8, h⟩ := Aa h
 obtain ⟨ai, a9, h⟩ := Aa h
 refine C4 (sl 5 0 (.still 6 (.act 5 (.still 7 (.act 8 (.act 9 (.still 10 (.drop 11 .nil)))))))) [2] [_] I (C6 6 [.o 1 0, .o 3 0] I J2 (gX [0] I I I (Ar [0] (D5 b _ _ _ _ a8) ?_)))
 refine N3 I (Bq (l := [.V e.1, .V E.1, .V k.1]) Ge I) I (gX [] I I I (hE 3 (([(⟨e.1, E.1, k.1⟩ : Point)] : List Point).map By) (gX [3] I I I (Cq 3 I a9 fun R => Bm 1 I (AP.one 3 I fun ba => iD [2] I I I (hO 2 0 6 (es' := [[.v (.string g), .V a.2.2.1, .V a.2.2.2, .V e.1, .V i.1, .V j.1, .v R]]) I I I I I I (Ci ba) I (A9 I) I I (A2 (gR (gT (gQ (Aq 1 [.o 0 2] I J1 (gS [1] I (Bo 1 0 0 [[.v (.string g), .V a.2.2.1, .V a.2.2.2, .V e.1, .V i.1, .V j.1, .v R]] I (gR ?_))))))))))))))
 refine gY (Bi [3] (K := [U7 R ai]) I [] J (ob' := [O1 b [A0 E.2], O3 y [[.v (.string g), .V a.2.2.1, .V a.2.2.2, .V e.1, .V i.1, .V j.1, Q7 ai]], O3 M [[.v (.string g), .V a.2.2.1, .V a.2.2.2, .V e.1, .V i.1, .V j.1, .v R]]]) (.cons (.same _) (.cons (.arr (.cons (.refl _) (.cons (.refl _) (.cons (.refl _) (.cons (.refl _) (.cons (.refl _) (.cons (.refl _) (.cons (.us 0 I) (.rest _))))))))) (.rest _)))) (F2 [0, 1] I ?_)
 obtain rfl := oi h
 exact gW ⟨.inr I, [_], [O1 b [A0 E.2]], ⟨⟨1, _, _, _, _, _, _, _, I5⟩, J⟩, Dt I (Cd), ⟨[O1 b [A0 E.2]], [], I5⟩⟩
theorem Ht (a : Nat) (c : KS) (b : List Bt) (r : Bt × KS) (h : Ks c b = some r) : ACalls Ah 61 [.v (.pointer (some ⟨a, 0, none⟩)), Q1 b] [O1 a [A0 c]] (Er 1 fun x os new => x = .v (.string r.1) ∧ os = [O1 a [A0 r.2]] ∧ new = []) := by
 refine Ad Tryz.func61 I I I fun C hC => ?_
 refine Ag I (gT ?_)
 obtain ⟨d, f, h⟩ := Aa h
 obtain ⟨e, ⟨g, i⟩, h⟩ := Bh h
 refine gQ (Aq 4 [.l 3 (b.length : Int)] I ⟨Ax, J⟩ (gS [0] I (Ar [0] (A3 a _ _ _ f) ?_)))
 refine Aq 3 [.x 0 e.1 (rS e.2)] I ⟨⟨g, Al i⟩, J⟩ (gR ?_)
 obtain rfl := oi h
 exact gW ⟨.inr I, [_], [O1 a [A0 d.2]], J1, Dt I (Cd), ⟨[O1 a [A0 d.2]], [], I5⟩⟩
theorem Yl (g : Nat) (U : KS) (b : Nw) (r : Nw × KS) (h : Qo U b = some r) : ACalls Ah 19 [.v (.pointer (some ⟨g, 0, none⟩)), .agg (Af b)] [O1 g [A0 U]] (Er 1 fun x os new => x = .agg (Af r.1) ∧ os = [O1 g [A0 r.2]] ∧ new = []) := by
 refine Ad Tryz.func19 I I I fun C hC => ?_
 refine Ab fun y1 bi => gQ (gS [] I (Ck (Af b) 6 fun D => gS [] I (Cl W0 6 fun E => gR ?_)))
 subst bi
 refine A6 (s' := [(0, .v (.pointer (some ⟨g, 0, none⟩))), (3, .v (.pointer (some ⟨D, 0, none⟩))), (4, .v (.pointer (some ⟨E, 0, none⟩)))]) (ob' := [O1 g [A0 U], O0 D [Af b], O0 E [W0]]) ⟨J3, [0, 1, 2], I, by decide⟩ (Ab fun y4 bj => ?_)
 obtain ⟨t, bk, h⟩ := Aa h
 refine gQ (gS [] I (hT (sz := 1) (es := ([] : List Bt).map rS) I I I I I I I I I I I dS fun v5 => Aq 2 [.o 1 1] I J1 (gS [3] I (Cq 3 I bk fun i => Ac 1 I (AO.one 3 I fun bl => gS [1] I (hO 1 0 0 (es' := [[.v i, Q5 b.Segments, Q4 b.Ports, Q3 b.Stations, .V b.Vapour, .V b.Settle]]) I I I I I I (Ci bl) I (A9 I) I I (gR ?_)))))))
 subst bj
 refine A6 (s' := [(0, .v (.pointer (some ⟨g, 0, none⟩))), (3, .v (.pointer (some ⟨D, 0, none⟩))), (4, .v (.pointer (some ⟨E, 0, none⟩)))]) (ob' := [O1 g [A0 U], O0 D [[.v i, Q5 b.Segments, Q4 b.Ports, Q3 b.Stations, .V b.Vapour, .V b.Settle]], O0 E [W0], U1 i t]) ⟨J3, [0, 1, 2, 3], I, by decide⟩ (Ab fun y9 bm => ?_)
 obtain ⟨H, bn, h⟩ := Aa h
 refine gQ (gS [] I (hT (sz := 7) (es := ([] : List Sg).map Ao) I I I I I I I I I I I dS fun d6 => Aq 2 [.o 1 1] I J1 (gS [4] I (Cq 4 I bn fun k => Ac 1 I (AO.one 4 I fun bo => gS [1] I (hO 1 0 1 (es' := [[.v i, .v k, Q4 b.Ports, Q3 b.Stations, .V b.Vapour, .V b.Settle]]) I I I I I I (Ci bo) I (A9 I) I I (gR ?_)))))))
 subst bm
 refine A6 (s' := [(0, .v (.pointer (some ⟨g, 0, none⟩))), (3, .v (.pointer (some ⟨D, 0, none⟩))), (4, .v (.pointer (some ⟨E, 0, none⟩)))]) (ob' := [O1 g [A0 U], O0 D [[.v i, .v k, Q4 b.Ports, Q3 b.Stations, .V b.Vapour, .V b.Settle]], O0 E [W0], U1 i t, U4 k H]) ⟨J3, [0, 1, 2, 3, 4], I, by decide⟩ (Ab fun d7 bp => ?_)
 obtain ⟨u, bq, h⟩ := Aa h
 refine gQ (gS [] I (hT (sz := 3) (es := ([] : List Port).map B1) I I I I I I I I I I I dS fun d8 => Aq 2 [.o 1 1] I J1 (gS [5] I (Cq 5 I bq fun w => Ac 1 I (AO.one 5 I fun br => gS [1] I (hO 1 0 2 (es' := [[.v i, .v k, .v w, Q3 b.Stations, .V b.Vapour, .V b.Settle]]) I I I I I I (Ci br) I (A9 I) I I (gR ?_)))))))
 subst bp
 refine A6 (s' := [(0, .v (.pointer (some ⟨g, 0, none⟩))), (3, .v (.pointer (some ⟨D, 0, none⟩))), (4, .v (.pointer (some ⟨E, 0, none⟩)))]) (ob' := [O1 g [A0 U], O0 D [[.v i, .v k, .v w, Q3 b.Stations, .V b.Vapour, .V b.Settle]], O0 E [W0], U1 i t, U4 k H, U5 w u]) ⟨J3, [0, 1, 2, 3, 4, 5], I, by decide⟩ (Ab fun d9 bs => ?_)
 obtain ⟨A, bt, h⟩ := Aa h
 refine gQ (gS [] I (hT (sz := 5) (es := ([] : List Sn).map Az) I I I I I I I I I I I dS fun ea => Aq 2 [.o 1 1] I J1 (gS [6] I (Cq 6 I bt fun j => Ac 1 I (AO.one 6 I fun bu => gS [1] I (hO 1 0 3 (es' := [[.v i, .v k, .v w, .v j, .V b.Vapour, .V b.Settle]]) I I I I I I (Ci bu) I (A9 I) I I (gR ?_)))))))
 subst bs
 refine A6 (s' := [(0, .v (.pointer (some ⟨g, 0, none⟩))), (3, .v (.pointer (some ⟨D, 0, none⟩))), (4, .v (.pointer (some ⟨E, 0, none⟩)))]) (ob' := [O1 g [A0 U], O0 D [[.v i, .v k, .v w, .v j, .V b.Vapour, .V b.Settle]], O0 E [W0], U1 i t, U4 k H, U5 w u, U6 j A]) ⟨J3, [0, 1, 2, 3, 4, 5, 6], I, by decide⟩ (Ab fun eb bv => ?_)
 obtain ⟨aw, bw, h⟩ := Aa h
 refine gQ (Aq 3 [.o 2 1] I J1 (hM (B0 4 I I I I) I (gS [0] I (Ar [0] (A3 g _ _ _ bw) ?_))))
 refine Ac 1 I (gR ?_)
 subst bv
 refine A6 (s' := [(0, .v (.pointer (some ⟨g, 0, none⟩))), (3, .v (.pointer (some ⟨D, 0, none⟩))), (4, .v (.pointer (some ⟨E, 0, none⟩))), (5, .V aw.1)]) (ob' := [O1 g [A0 aw.2], O0 D [[.v i, .v k, .v w, .v j, .V b.Vapour, .V b.Settle]], O0 E [W0], U1 i t, U4 k H, U5 w u, U6 j A]) ⟨J4, [0, 1, 2, 3, 4, 5, 6], I, by decide⟩ (Ab fun ec bx => ?_)
 obtain ⟨a, ⟨a0, ag⟩, h⟩ := Bh h
 refine gQ (Aq 3 [.o 1 1] I J1 (hM (Dd 4 (m := a.1) I I I I I I I a0 (Al ag)) I (hM (Dv 4 a.1 0 I I I (Al ag) I (y := .agg (Ao a.2)) I) I (gS [] I (Cl W1 7 fun X => gS [7] I (Bo 7 0 0 [Ao a.2] I (gR ?_)))))))
 subst bx
 refine Ab fun ed bz => ?_
 obtain ⟨B, b1, h⟩ := Aa h
 refine gQ (gS [] I (hT (sz := 3) (es := ([] : List Point).map By) I I I I I I I I I I I dS fun ee => Aq 2 [.o 1 7] I J1 (gS [8] I (Cq 8 I b1 fun n => Ac 1 I (AO.one 8 I fun b4 => gS [7] I (hO 7 0 6 (es' := [[.v (.string a.2.Name), .V a.2.From, .V a.2.To, .V a.2.Capacity, .V a.2.Resist, .V a.2.Wave, .v n]]) I I I I I I (Ci b4) I (A9 I) I I (gR ?_)))))))
 subst bz
 refine Aj (fun s ob => ∃ (e : Li × Int × (List Bt) × (List Port) × (List Sn) × Int × Int × Int × Int × Int × Int × (List Point)) (M : Value) (O : Value) (ah : Value), Qo.J1 H a e = some r ∧ s = [] ∧ ob = [O1 g [[Q0 e.1, .V e.2.1]], O0 D [[.v M, .v k, .v w, .v O, .V e.2.2.2.2.2.1, .V e.2.2.2.2.2.2.1]], O0 E [W0], U1 M e.2.2.1, U4 k H, U5 w e.2.2.2.1, U6 O e.2.2.2.2.1, O3 X [[.v (.string a.2.Name), .V e.2.2.2.2.2.2.2.1, .V a.2.To, .V e.2.2.2.2.2.2.2.2.1, .V e.2.2.2.2.2.2.2.2.2.1, .V e.2.2.2.2.2.2.2.2.2.2.1, .v ah]], U7 ah e.2.2.2.2.2.2.2.2.2.2.2]) [(3, _), (4, _), (5, _), (6, _)] J4 ?_ ?_
 refine Ab fun ef b5 => ?_
 obtain ⟨Y, b6, h⟩ := Aa h
 refine gQ (Ac 1 I (gS [0] I (Ar [0] (A3 g _ _ _ b6) ?_)))
 refine gR ?_
 subst b5
 refine gV (Ag I (An h I ?_ ?_))
 intro b7 h
 obtain ⟨eg, a1, h⟩ := Aa h
 obtain ⟨P, a2, h⟩ := Aa h
 obtain ⟨W, ⟨a3, aa⟩, h⟩ := Bh h
 refine Di 3 I fun b8 => Fo 3 W.1 I aa fun a4 => C4 (sl 6 0 (.still 7 (.two 6 8 (.act 8 (.act 9 (.act 10 (.act 11 .nil)))) (.act 6 (.act 9 (.act 10 (.act 11 .nil))))))) [1] [_] I (C6 5 [.o 1 0, .o 4 0] I J2 (AP.op I (Dg I I I b8) I (Bm 1 I (hZ ?_ ?_))))
 refine gX [0] I I I (Ar [0] (A3 g _ _ _ a1) ?_)
 refine gX [] I I I (hE 1 (([(⟨#[]⟩ : Bt), (⟨#[110, 97]⟩ : Bt), (⟨#[65]⟩ : Bt), (⟨#[120, 45, 57]⟩ : Bt)] : List Bt).map rS) (gX [0] I I I (Ar [0] (Ht g _ _ _ a2) ?_)))
 exact gX [] I I I (Fe (iB (C8 (m := W.1) I I I I I a4 I a3 aa)) dS (gX [3] I I I (De 3 W.1 0 I I I (Al aa) I I I I (A9 I) I (Ew (x := P.1) I) (A2 (gR (lg ⟨(P.2.L_, P.2.At, (t.set W.1 P.1), u, A, b.Vapour, b.Settle, a.2.From, a.2.Capacity, a.2.Resist, a.2.Wave, B), i, j, n, h, I2⟩ [0, 1, 2, 3, 4, 5, 6, 7, 8]))))))
 refine gX [] I I I (hE 1 (([(⟨#[]⟩ : Bt), (⟨#[110, 97]⟩ : Bt), (⟨#[65]⟩ : Bt), (⟨#[120, 45, 57]⟩ : Bt)] : List Bt).map rS) (gX [0] I I I (Ar [0] (A3 g _ _ _ a1) ?_)))
 refine gX [0] I I I (Ar [0] (Ht g _ _ _ a2) ?_)
 exact gX [] I I I (Fe (iB (C8 (m := W.1) I I I I I a4 I a3 aa)) dS (gX [3] I I I (De 3 W.1 0 I I I (Al aa) I I I I (A9 I) I (Ew (x := P.1) I) (A2 (gR (lg ⟨(P.2.L_, P.2.At, (t.set W.1 P.1), u, A, b.Vapour, b.Settle, a.2.From, a.2.Capacity, a.2.Resist, a.2.Wave, B), i, j, n, h, I2⟩ [0, 1, 2, 3, 4, 5, 6, 7, 8]))))))
 intro b7 h
 refine Ag I (An h I ?_ ?_)
 intro b9 h
 obtain ⟨ai, ca, h⟩ := Aa h
 refine gQ (Aq 5 [.o 2 7, .o 4 1] I J2 (hM (B0 3 I I I I) I (gS [] I (hE 1 (([(-1), a.2.To, (t.length : Int), 0] : Li).map rI) (gS [0] I (Ar [0] (Ai g _ _ _ ca) ?_))))))
 exact Ac 1 I (gS [7] I (Bo 7 0 1 [[.v (.string a.2.Name), .V ai.1, .V a.2.To, .V a.2.Capacity, .V a.2.Resist, .V a.2.Wave, .v n]] I (gR (lg ⟨(ai.2.L_, ai.2.At, t, u, A, b.Vapour, b.Settle, ai.1, a.2.Capacity, a.2.Resist, a.2.Wave, B), i, j, n, h, I2⟩ [0, 1, 2, 3, 4, 5, 6, 7, 8]))))
 intro b9 h
 refine Ag I (An h I ?_ ?_)
 intro cb h
 obtain ⟨aj, cc, h⟩ := Aa h
 refine gQ (Aq 4 [.o 2 7] I J1 (gS [] I (hE 1 (([0, (-1), wr (a.2.Capacity + 1), 1000001] : Li).map rI) (gS [0] I (Ar [0] (Ai g _ _ _ cc) ?_)))))
 exact Ac 1 I (gS [7] I (Bo 7 0 3 [[.v (.string a.2.Name), .V a.2.From, .V a.2.To, .V aj.1, .V a.2.Resist, .V a.2.Wave, .v n]] I (gR (lg ⟨(aj.2.L_, aj.2.At, t, u, A, b.Vapour, b.Settle, a.2.From, aj.1, a.2.Resist, a.2.Wave, B), i, j, n, h, I2⟩ [0, 1, 2, 3, 4, 5, 6, 7, 8]))))
 intro cb h
 refine Ag I (An h I ?_ ?_)
 intro cd h
 obtain ⟨ak, ce, h⟩ := Aa h
 refine gQ (Ac 1 I (gS [] I (hE 1 (([(-1), 1000, 1001] : Li).map rI) (gS [0] I (Ar [0] (Ai g _ _ _ ce) ?_)))))
 exact Ac 1 I (gS [7] I (Bo 7 0 4 [[.v (.string a.2.Name), .V a.2.From, .V a.2.To, .V a.2.Capacity, .V ak.1, .V a.2.Wave, .v n]] I (gR (lg ⟨(ak.2.L_, ak.2.At, t, u, A, b.Vapour, b.Settle, a.2.From, a.2.Capacity, ak.1, a.2.Wave, B), i, j, n, h, I2⟩ [0, 1, 2, 3, 4, 5, 6, 7, 8]))))
 intro cd h
 refine Ag I (An h I ?_ ?_)
 intro cf h
 obtain ⟨al, ci, h⟩ := Aa h
 refine gQ (Ac 1 I (gS [] I (hE 1 (([(-1), 100000, 100001] : Li).map rI) (gS [0] I (Ar [0] (Ai g _ _ _ ci) ?_)))))
 exact Ac 1 I (gS [7] I (Bo 7 0 5 [[.v (.string a.2.Name), .V a.2.From, .V a.2.To, .V a.2.Capacity, .V a.2.Resist, .V al.1, .v n]] I (gR (lg ⟨(al.2.L_, al.2.At, t, u, A, b.Vapour, b.Settle, a.2.From, a.2.Capacity, a.2.Resist, al.1, B), i, j, n, h, I2⟩ [0, 1, 2, 3, 4, 5, 6, 7, 8]))))
 intro cf h
 refine Ag I (An h I ?_ ?_)
 intro cj h
 refine Ab fun eh ck => gQ (Aq 2 [.o 1 7] I J1 (hM (B0 8 I I I I) I (Ac 1 I (gR ?_))))
 subst ck
 refine An h I ?_ ?_
 intro cl h
 obtain ⟨ei, a5, h⟩ := Aa h
 obtain ⟨Q, a6, h⟩ := Aa h
 obtain ⟨F, ⟨a7, ab⟩, h⟩ := Bh h
 refine Di 8 I fun cm => Fo 8 F.1 I ab fun a8 => C4 (sl 6 0 (sl 3 7 (.two 6 10 (.act 10 dZ) (.act 6 dZ)))) [7] [_] I (C6 5 [.o 1 0, .o 4 0] I J2 (AP.op I (Dg I I I cm) I (C6 3 [.o 2 0] I J1 (hZ ?_ ?_))))
 refine gX [0] I I I (Ar [0] (A3 g _ _ _ a5) ?_)
 refine gX [] I I I (hE 1 (([(-1), 0, 1, a.2.Capacity] : Li).map rI) (gX [0] I I I (Ar [0] (Ai g _ _ _ a6) ?_)))
 exact gX [] I I I (Fe (iB (C8 (m := F.1) I I I I I a8 I a7 ab)) dS (Bm 1 I (gX [8] I I I (De 8 F.1 0 I I I (Al ab) I I I I (A9 I) I (Ew (x := (⟨Q.1, F.2.Height, F.2.Limit⟩ : Point)) I) (A2 (gR (lg ⟨(Q.2.L_, Q.2.At, t, u, A, b.Vapour, b.Settle, a.2.From, a.2.Capacity, a.2.Resist, a.2.Wave, (B.set F.1 (⟨Q.1, F.2.Height, F.2.Limit⟩ : Point))), i, j, n, h, I2⟩ [0, 1, 2, 3, 4, 5, 6, 7, 8])))))))
 refine gX [] I I I (hE 1 (([(-1), 0, 1, a.2.Capacity] : Li).map rI) (gX [0] I I I (Ar [0] (A3 g _ _ _ a5) ?_)))
 refine gX [0] I I I (Ar [0] (Ai g _ _ _ a6) ?_)
 exact gX [] I I I (Fe (iB (C8 (m := F.1) I I I I I a8 I a7 ab)) dS (Bm 1 I (gX [8] I I I (De 8 F.1 0 I I I (Al ab) I I I I (A9 I) I (Ew (x := (⟨Q.1, F.2.Height, F.2.Limit⟩ : Point)) I) (A2 (gR (lg ⟨(Q.2.L_, Q.2.At, t, u, A, b.Vapour, b.Settle, a.2.From, a.2.Capacity, a.2.Resist, a.2.Wave, (B.set F.1 (⟨Q.1, F.2.Height, F.2.Limit⟩ : Point))), i, j, n, h, I2⟩ [0, 1, 2, 3, 4, 5, 6, 7, 8])))))))
 intro cl h
 exact gU (lg ⟨(Y.2.L_, Y.2.At, t, u, A, b.Vapour, b.Settle, a.2.From, a.2.Capacity, a.2.Resist, a.2.Wave, B), i, j, n, h, I2⟩ [0, 1, 2, 3, 4, 5, 6, 7, 8])
 intro cj h
 refine Ag I (An h I ?_ ?_)
 intro cn h
 obtain ⟨a9, co, h⟩ := Aa h
 obtain ⟨cp, cq, h⟩ := Aa h
 refine Di 8 I fun cr => C4 (sl 8 0 (.act 8 (.act 9 (.still 10 (.drop 11 .nil))))) [7] [_] I (C6 5 [.o 1 0, .o 4 0] I J2 (AP.op I (Dg I I I cr) I (Bm 2 I (gX [0] I I I (Ar [0] (A3 g _ _ _ co) ?_)))))
 exact gX [8] I I I (dH 8 I cq fun ba => Bm 1 I (AP.one 8 I fun ct => iD [7] I I I (hO 7 0 6 (es' := [[.v (.string a.2.Name), .V a.2.From, .V a.2.To, .V a.2.Capacity, .V a.2.Resist, .V a.2.Wave, .v ba]]) I I I I I I (Ci ct) I (A9 I) I I (A2 (gR (lg ⟨(a9.2.L_, a9.2.At, t, u, A, b.Vapour, b.Settle, a.2.From, a.2.Capacity, a.2.Resist, a.2.Wave, cp), i, j, ba, h, I2⟩ [0, 1, 2, 3, 4, 5, 6, 7, 8]))))))
 intro cn h
 refine Ag I (An h I ?_ ?_)
 intro cu h
 refine Ab fun ej cv => gQ (Aq 2 [.o 1 7] I J1 (hM (B0 8 I I I I) I (Ac 1 I (gR ?_))))
 subst cv
 refine An h I ?_ ?_
 intro cw h
 obtain ⟨ek, bb, h⟩ := Aa h
 obtain ⟨R, bc, h⟩ := Aa h
 obtain ⟨G, ⟨bd, ac⟩, h⟩ := Bh h
 refine Di 8 I fun cx => Fo 8 G.1 I ac fun be => C4 (sl 6 0 (.still 7 (.two 6 8 (.act 8 (.act 9 (.act 10 (.still 11 (.act 12 .nil))))) (.act 6 (.act 9 (.act 10 (.still 11 (.act 12 .nil)))))))) [7] [_] I (C6 5 [.o 1 0, .o 4 0] I J2 (AP.op I (Dg I I I cx) I (Bm 1 I (hZ ?_ ?_))))
 refine gX [0] I I I (Ar [0] (A3 g _ _ _ bb) ?_)
 refine gX [] I I I (hE 1 (([(-501), (-500), 5000, 5001] : Li).map rI) (gX [0] I I I (Ar [0] (Ai g _ _ _ bc) ?_)))
 exact gX [] I I I (Fe (iB (C8 (m := G.1) I I I I I be I bd ac)) dS (Bm 1 I (gX [8] I I I (De 8 G.1 1 I I I (Al ac) I I I I (A9 I) I (Ew (x := (⟨G.2.At, R.1, G.2.Limit⟩ : Point)) I) (A2 (gR (lg ⟨(R.2.L_, R.2.At, t, u, A, b.Vapour, b.Settle, a.2.From, a.2.Capacity, a.2.Resist, a.2.Wave, (B.set G.1 (⟨G.2.At, R.1, G.2.Limit⟩ : Point))), i, j, n, h, I2⟩ [0, 1, 2, 3, 4, 5, 6, 7, 8])))))))
 refine gX [] I I I (hE 1 (([(-501), (-500), 5000, 5001] : Li).map rI) (gX [0] I I I (Ar [0] (A3 g _ _ _ bb) ?_)))
 refine gX [0] I I I (Ar [0] (Ai g _ _ _ bc) ?_)
 exact gX [] I I I (Fe (iB (C8 (m := G.1) I I I I I be I bd ac)) dS (Bm 1 I (gX [8] I I I (De 8 G.1 1 I I I (Al ac) I I I I (A9 I) I (Ew (x := (⟨G.2.At, R.1, G.2.Limit⟩ : Point)) I) (A2 (gR (lg ⟨(R.2.L_, R.2.At, t, u, A, b.Vapour, b.Settle, a.2.From, a.2.Capacity, a.2.Resist, a.2.Wave, (B.set G.1 (⟨G.2.At, R.1, G.2.Limit⟩ : Point))), i, j, n, h, I2⟩ [0, 1, 2, 3, 4, 5, 6, 7, 8])))))))
 intro cw h
 exact gU (lg ⟨(Y.2.L_, Y.2.At, t, u, A, b.Vapour, b.Settle, a.2.From, a.2.Capacity, a.2.Resist, a.2.Wave, B), i, j, n, h, I2⟩ [0, 1, 2, 3, 4, 5, 6, 7, 8])
 intro cu h
 refine Ag I (An h I ?_ ?_)
 intro cy h
 refine Ab fun el cz => gQ (Aq 2 [.o 1 1] I J1 (hM (B0 5 I I I I) I (Ac 1 I (gR ?_))))
 subst cz
 refine An h I ?_ ?_
 intro c1 h
 obtain ⟨bf, c2, h⟩ := Aa h
 obtain ⟨ad, c3, h⟩ := Aa h
 obtain ⟨ae, c4, h⟩ := Aa h
 obtain ⟨af, c5, h⟩ := Aa h
 obtain ⟨am, ⟨c6, ax⟩, h⟩ := Bh h
 refine Di 5 I fun c7 => Di 3 I fun c8 => Fo 5 am.1 I ax fun c9 => C4 (sl 6 0 (.still 7 (sl 4 10 (.still 16 (.parS [(6, []), (8, []), (9, [6, 8]), (14, []), (15, [6, 8, 9, 14]), (17, [])] [[], [6], [8], [14], [17], [6, 8], [6, 14], [6, 17], [8, 14], [8, 17], [14, 17], [6, 8, 9], [6, 8, 14], [6, 8, 17], [6, 14, 17], [8, 14, 17], [6, 8, 9, 14], [6, 8, 9, 17], [6, 8, 14, 17], [6, 8, 9, 14, 15], [6, 8, 9, 14, 17], [6, 8, 9, 14, 15, 17]] (.act 18 (.still 19 (.act 20 (.act 21 .nil))))))))) [1] [_] I (C6 5 [.o 1 0, .o 4 0] I J2 (AP.op I (Dg I I I c7) I (C6 4 [.o 3 0] I J1 (AP.op I (Dg I I I c8) I (Bm 1 I (Qr [⟨6, [], 174, .V bf.1, [0], [O1 g [A0 bf.2]]⟩, ⟨8, [], 176, .list 1 (([(⟨#[113, 97]⟩ : Bt), (⟨#[113, 98]⟩ : Bt), (⟨#[]⟩ : Bt), (⟨#[122]⟩ : Bt)] : List Bt).map rS), [], []⟩, ⟨9, [6, 8], 177, .v (.string ad.1), [0], [O1 g [A0 ad.2]]⟩, ⟨14, [], 182, .list 1 (([(-1), 0, 1, (t.length : Int)] : Li).map rI), [], []⟩, ⟨15, [6, 8, 9, 14], 183, .V ae.1, [0], [O1 g [A0 ae.2]]⟩, ⟨17, [], 185, .list 1 (([0, (-1), 100000000, 100000001] : Li).map rI), [], []⟩] I ⟨⟨_, I, I, I, fun _ h => by cases h; exact E7 [0] (A3 g _ _ _ c2) (by rintro _ _ _ - ⟨rfl, rfl, rfl⟩; exact ⟨rfl, rfl⟩)⟩, ⟨_, I, I, I, fun _ _ => hE 1 (([(⟨#[113, 97]⟩ : Bt), (⟨#[113, 98]⟩ : Bt), (⟨#[]⟩ : Bt), (⟨#[122]⟩ : Bt)] : List Bt).map rS) I2⟩, ⟨_, I, I, I, fun _ h => by cases h; exact E7 [0] (Ht g _ _ _ c3) (by rintro _ _ _ - ⟨rfl, rfl, rfl⟩; exact ⟨rfl, rfl⟩)⟩, ⟨_, I, I, I, fun _ _ => hE 1 (([(-1), 0, 1, (t.length : Int)] : Li).map rI) I2⟩, ⟨_, I, I, I, fun _ h => by cases h; exact E7 [0] (Ai g _ _ _ c4) (by rintro _ _ _ - ⟨rfl, rfl, rfl⟩; exact ⟨rfl, rfl⟩)⟩, ⟨_, I, I, I, fun _ _ => hE 1 (([0, (-1), 100000000, 100000001] : Li).map rI) I2⟩, J⟩ ?_))))))
 refine gX [0] I I I (Ar [0] (Ai g _ _ _ c5) ?_)
 exact N3 I (Bq (l := [.v (.string ad.1), .V ae.1, .V af.1]) Iz I) I (gX [] I I I (Fe (iB (C8 (m := am.1) I I I I I c9 I c6 ax)) dS (gX [5] I I I (De 5 am.1 0 I I I (Al ax) I I I I (A9 I) I (Ew (x := (⟨ad.1, ae.1, af.1⟩ : Port)) I) (A2 (gR (lg ⟨(af.2.L_, af.2.At, t, (u.set am.1 (⟨ad.1, ae.1, af.1⟩ : Port)), A, b.Vapour, b.Settle, a.2.From, a.2.Capacity, a.2.Resist, a.2.Wave, B), i, j, n, h, I2⟩ [0, 1, 2, 3, 4, 5, 6, 7, 8])))))))
 intro c1 h
 exact gU (lg ⟨(Y.2.L_, Y.2.At, t, u, A, b.Vapour, b.Settle, a.2.From, a.2.Capacity, a.2.Resist, a.2.Wave, B), i, j, n, h, I2⟩ [0, 1, 2, 3, 4, 5, 6, 7, 8])
 intro cy h
 refine Ag I (An h I ?_ ?_)
 intro da h
 obtain ⟨an, db, h⟩ := Aa h
 obtain ⟨ao, dc, h⟩ := Aa h
 obtain ⟨aq, dd, h⟩ := Aa h
 obtain ⟨ar, de, h⟩ := Aa h
 obtain ⟨au, df, h⟩ := Aa h
 obtain ⟨dg, dh, h⟩ := Aa h
 refine C4 (sl 3 0 (.still 5 (.still 8 (.still 11 (.still 14 (.parS [(3, []), (4, [3]), (6, []), (7, [3, 4, 6]), (9, []), (10, [3, 4, 6, 7, 9]), (12, []), (13, [3, 4, 6, 7, 9, 10, 12]), (15, [])] [[], [3], [6], [9], [12], [15], [3, 4], [3, 6], [3, 9], [3, 12], [3, 15], [6, 9], [6, 12], [6, 15], [9, 12], [9, 15], [12, 15], [3, 4, 6], [3, 4, 9], [3, 4, 12], [3, 4, 15], [3, 6, 9], [3, 6, 12], [3, 6, 15], [3, 9, 12], [3, 9, 15], [3, 12, 15], [6, 9, 12], [6, 9, 15], [6, 12, 15], [9, 12, 15], [3, 4, 6, 7], [3, 4, 6, 9], [3, 4, 6, 12], [3, 4, 6, 15], [3, 4, 9, 12], [3, 4, 9, 15], [3, 4, 12, 15], [3, 6, 9, 12], [3, 6, 9, 15], [3, 6, 12, 15], [3, 9, 12, 15], [6, 9, 12, 15], [3, 4, 6, 7, 9], [3, 4, 6, 7, 12], [3, 4, 6, 7, 15], [3, 4, 6, 9, 12], [3, 4, 6, 9, 15], [3, 4, 6, 12, 15], [3, 4, 9, 12, 15], [3, 6, 9, 12, 15], [3, 4, 6, 7, 9, 10], [3, 4, 6, 7, 9, 12], [3, 4, 6, 7, 9, 15], [3, 4, 6, 7, 12, 15], [3, 4, 6, 9, 12, 15], [3, 4, 6, 7, 9, 10, 12], [3, 4, 6, 7, 9, 10, 15], [3, 4, 6, 7, 9, 12, 15], [3, 4, 6, 7, 9, 10, 12, 13], [3, 4, 6, 7, 9, 10, 12, 15], [3, 4, 6, 7, 9, 10, 12, 13, 15]] (.act 16 (.still 17 (.act 18 (.act 19 (.still 20 (.drop 21 .nil)))))))))))) [1] [_] I (C6 7 [.o 1 0] I J1 (Qr [⟨3, [], 194, .list 1 (([(⟨#[115, 97]⟩ : Bt), (⟨#[115, 122]⟩ : Bt), (⟨#[]⟩ : Bt)] : List Bt).map rS), [], []⟩, ⟨4, [3], 195, .v (.string an.1), [0], [O1 g [A0 an.2]]⟩, ⟨6, [], 197, .list 1 (([(-1), 0, 0, 1, 99] : Li).map rI), [], []⟩, ⟨7, [3, 4, 6], 198, .V ao.1, [0], [O1 g [A0 ao.2]]⟩, ⟨9, [], 200, .list 1 (([0, (-1)] : Li).map rI), [], []⟩, ⟨10, [3, 4, 6, 7, 9], 201, .V aq.1, [0], [O1 g [A0 aq.2]]⟩, ⟨12, [], 203, .list 1 (([0, 100001] : Li).map rI), [], []⟩, ⟨13, [3, 4, 6, 7, 9, 10, 12], 204, .V ar.1, [0], [O1 g [A0 ar.2]]⟩, ⟨15, [], 206, .list 1 (([0, (-1)] : Li).map rI), [], []⟩] I ⟨⟨_, I, I, I, fun _ _ => hE 1 (([(⟨#[115, 97]⟩ : Bt), (⟨#[115, 122]⟩ : Bt), (⟨#[]⟩ : Bt)] : List Bt).map rS) I2⟩, ⟨_, I, I, I, fun _ h => by cases h; exact E7 [0] (Ht g _ _ _ db) (by rintro _ _ _ - ⟨rfl, rfl, rfl⟩; exact ⟨rfl, rfl⟩)⟩, ⟨_, I, I, I, fun _ _ => hE 1 (([(-1), 0, 0, 1, 99] : Li).map rI) I2⟩, ⟨_, I, I, I, fun _ h => by cases h; exact E7 [0] (Ai g _ _ _ dc) (by rintro _ _ _ - ⟨rfl, rfl, rfl⟩; exact ⟨rfl, rfl⟩)⟩, ⟨_, I, I, I, fun _ _ => hE 1 (([0, (-1)] : Li).map rI) I2⟩, ⟨_, I, I, I, fun _ h => by cases h; exact E7 [0] (Ai g _ _ _ dd) (by rintro _ _ _ - ⟨rfl, rfl, rfl⟩; exact ⟨rfl, rfl⟩)⟩, ⟨_, I, I, I, fun _ _ => hE 1 (([0, 100001] : Li).map rI) I2⟩, ⟨_, I, I, I, fun _ h => by cases h; exact E7 [0] (Ai g _ _ _ de) (by rintro _ _ _ - ⟨rfl, rfl, rfl⟩; exact ⟨rfl, rfl⟩)⟩, ⟨_, I, I, I, fun _ _ => hE 1 (([0, (-1)] : Li).map rI) I2⟩, J⟩ ?_))
 refine gX [0] I I I (Ar [0] (Ai g _ _ _ df) ?_)
 exact N3 I (Bq (l := [.v (.string an.1), .V ao.1, .V aq.1, .V ar.1, .V au.1]) Lh I) I (gX [] I I I (hE 5 (([(⟨an.1, ao.1, aq.1, ar.1, au.1⟩ : Sn)] : List Sn).map Az) (gX [6] I I I (Cq 6 I dh fun bg => Bm 1 I (AP.one 6 I fun di => iD [1] I I I (hO 1 0 3 (es' := [[.v i, .v k, .v w, .v bg, .V b.Vapour, .V b.Settle]]) I I I I I I (Ci di) I (A9 I) I I (A2 (gR (lg ⟨(au.2.L_, au.2.At, t, u, dg, b.Vapour, b.Settle, a.2.From, a.2.Capacity, a.2.Resist, a.2.Wave, B), i, bg, n, h, I2⟩ [0, 1, 2, 3, 4, 5, 6, 7, 8])))))))))
 intro da h
 refine Ag I (An h I ?_ ?_)
 intro dj h
 obtain ⟨ay, dk, h⟩ := Aa h
 obtain ⟨av, dl, h⟩ := Aa h
 refine gQ (Ac 1 I (gS [] I (hE 1 (([0, (-100001), 100000001] : Li).map rI) (gS [0] I (Ar [0] (Ai g _ _ _ dk) ?_)))))
 refine Ac 1 I (gS [] I (hE 1 (([0, (-1), 101] : Li).map rI) (gS [0] I (Ar [0] (Ai g _ _ _ dl) ?_))))
 exact Ac 1 I (gS [1] I (Bo 1 0 4 [[.v i, .v k, .v w, .v j, .V ay.1, .V b.Settle]] I (Ac 1 I (gS [1] I (Bo 1 0 5 [[.v i, .v k, .v w, .v j, .V ay.1, .V av.1]] I (gR (lg ⟨(av.2.L_, av.2.At, t, u, A, ay.1, av.1, a.2.From, a.2.Capacity, a.2.Resist, a.2.Wave, B), i, j, n, h, I2⟩ [0, 1, 2, 3, 4, 5, 6, 7, 8])))))))
 intro dj h
 refine gV ?_
 obtain ⟨em, dm, dn⟩ := Aa h
 refine A5 dm [(0, _), (3, _), (4, _), (5, _), (6, _)] J5 (fun (S : Li × Int × (List Bt)) s ob => ∃ (Z : Value), s = [] ∧ ob = [O1 g [[Q0 S.1, .V S.2.1]], O0 D [[.v Z, .v k, .v w, .v j, .V b.Vapour, .V b.Settle]], O0 E [W0], U1 Z S.2.2, U4 k H, U5 w u, U6 j A, O3 X [[.v (.string a.2.Name), .V a.2.From, .V a.2.To, .V a.2.Capacity, .V a.2.Resist, .V a.2.Wave, .v n]], U7 n B]) ⟨i, I2⟩ J ⟨[0, 1, 2, 3, 4, 5, 6, 7, 8], I, by decide⟩ ?_
 rintro S en s ob ⟨Z, rfl, rfl⟩ h dp
 refine Ab fun eo dq => gT ?_
 obtain ⟨az, dr, h⟩ := Aa h
 refine Di 3 I fun ds => C4 (pd 7 0 [4]) [1] [_] I (C6 2 [.o 1 0] I J1 (AP.op I (Dg I I I ds) I (Bm 1 I (gX [0] I I I (Ar [0] (A3 g _ _ _ dr) ?_)))))
 refine Bm 2 I (A2 (gR (An h I ?_ ?_)))
 intro dt h
 refine gU ?_
 subst dq
 refine A6 (s' := [(0, .v (.pointer (some ⟨g, 0, none⟩))), (3, .v (.pointer (some ⟨D, 0, none⟩))), (4, .v (.pointer (some ⟨E, 0, none⟩))), (5, .V aw.1), (6, .v (.pointer (some ⟨X, 0, none⟩)))]) (ob' := [O1 g [A0 az.2], O0 D [[.v Z, .v k, .v w, .v j, .V b.Vapour, .V b.Settle]], O0 E [W0], U1 Z S.2.2, U4 k H, U5 w u, U6 j A, O3 X [[.v (.string a.2.Name), .V a.2.From, .V a.2.To, .V a.2.Capacity, .V a.2.Resist, .V a.2.Wave, .v n]], U7 n B]) ⟨J5, [0, 1, 2, 3, 4, 5, 6, 7, 8], I, by decide⟩ (gV ?_)
 obtain ⟨ep, du, h⟩ := Aa h
 obtain ⟨eq, dv, h⟩ := Aa h
 obtain ⟨dw, dx, h⟩ := Aa h
 obtain ⟨er, dy, h⟩ := Aa h
 refine Di 3 I fun dz => Di 3 I fun d0 => C4 (sl 5 0 (sl 4 6 (.act 5 (.act 10 (.still 11 (.act 12 (.act 13 (.still 14 (.drop 15 .nil))))))))) [1] [_] I (C6 4 [.o 1 0, .o 3 0] I J2 (AP.op I (Dg I I I dz) I (C6 2 [.o 1 0] I J1 (AP.op I (Dg I I I d0) I (C6 1 [.f 0 (.V (wr ((S.2.2.length : Int).tdiv 26)))] I ⟨iB (C2 (c := wr ((S.2.2.length : Int).tdiv 26)) I I ⟨by decide, I⟩), J⟩ (iA I (Bl _ _ _ du) (iA I (Bl _ _ _ dv) (N3 I (Sr I I (So dx)) I (gX [] I I I (hE 1 (([dw] : List Bt).map rS) (gX [3] I I I (Cq 3 I dy fun bh => ?_))))))))))))
 refine Bm 1 I (AP.one 3 I fun d1 => iD [1] I I I (hO 1 0 0 (es' := [[.v bh, .v k, .v w, .v j, .V b.Vapour, .V b.Settle]]) I I I I I I (Ci d1) I (A9 I) I I (A2 ?_)))
 cases io h
 exact gR ⟨_, _, _, I, ⟨bh, I2⟩, J5, [0, 1, 2, 3, 4, 5, 6, 7, 8], I, by decide⟩
 intro dt h
 obtain rfl := dp _ (oi h).symm
 have h := dn
 exact gZ (lg ⟨(az.2.L_, az.2.At, S.2.2, u, A, b.Vapour, b.Settle, a.2.From, a.2.Capacity, a.2.Resist, a.2.Wave, B), Z, j, n, h, I2⟩ [0, 1, 2, 3, 4, 5, 6, 7, 8])
 rintro s ob ⟨e, M, O, ah, h, rfl, rfl⟩
 refine gT (gQ (Aq 4 [.o 1 1, .o 3 7] I J2 (hM (Dd 4 (m := a.1) I I I I I I I a0 (Al ag)) I (iE (Bi [8] (K := [U7 ah e.2.2.2.2.2.2.2.2.2.2.2]) I [(225, .agg [.v (.string a.2.Name), .V e.2.2.2.2.2.2.2.1, .V a.2.To, .V e.2.2.2.2.2.2.2.2.1, .V e.2.2.2.2.2.2.2.2.2.1, .V e.2.2.2.2.2.2.2.2.2.2.1, Q7 e.2.2.2.2.2.2.2.2.2.2.2])] ⟨⟨_, I, .agg (.cons (.refl _) (.cons (.refl _) (.cons (.refl _) (.cons (.refl _) (.cons (.refl _) (.cons (.refl _) (.cons (.us 0 I) (.rest _))))))))⟩, J⟩ (ob' := [O1 g [[Q0 e.1, .V e.2.1]], O0 D [[.v M, .v k, .v w, .v O, .V e.2.2.2.2.2.1, .V e.2.2.2.2.2.2.1]], O0 E [W0], U1 M e.2.2.1, U4 k H, U5 w e.2.2.2.1, U6 O e.2.2.2.2.1, O3 X [[.v (.string a.2.Name), .V e.2.2.2.2.2.2.2.1, .V a.2.To, .V e.2.2.2.2.2.2.2.2.1, .V e.2.2.2.2.2.2.2.2.2.1, .V e.2.2.2.2.2.2.2.2.2.2.1, Q7 e.2.2.2.2.2.2.2.2.2.2.2]]]) (.cons (.same _) (.cons (.same _) (.cons (.same _) (.cons (.same _) (.cons (.same _) (.cons (.same _) (.cons (.same _) (.cons (.arr (.cons (.refl _) (.cons (.refl _) (.cons (.refl _) (.cons (.refl _) (.cons (.refl _) (.cons (.refl _) (.cons (.us 0 I) (.rest _))))))))) (.rest _)))))))))) ?_))))
 refine gS [4] I (De 4 a.1 0 I I I (Al ag) I I I I (A9 I) I (Ew (x := (⟨a.2.Name, e.2.2.2.2.2.2.2.1, a.2.To, e.2.2.2.2.2.2.2.2.1, e.2.2.2.2.2.2.2.2.2.1, e.2.2.2.2.2.2.2.2.2.2.1, e.2.2.2.2.2.2.2.2.2.2.2⟩ : Sg)) I) (gR (gT (gQ (Aq 1 [.o 0 1] I J1 (gS [2] I (Bo 2 0 0 [[.v M, .v k, .v w, .v O, .V e.2.2.2.2.2.1, .V e.2.2.2.2.2.2.1]] I (gR (gY (Bi [3, 4, 5, 6] (K := [U1 M e.2.2.1, .us k 93 7 ((H.set a.1 (⟨a.2.Name, e.2.2.2.2.2.2.2.1, a.2.To, e.2.2.2.2.2.2.2.2.1, e.2.2.2.2.2.2.2.2.2.1, e.2.2.2.2.2.2.2.2.2.2.1, e.2.2.2.2.2.2.2.2.2.2.2⟩ : Sg)).map Ao), U5 w e.2.2.2.1, U6 O e.2.2.2.2.1]) I [] J (ob' := [O1 g [[Q0 e.1, .V e.2.1]], O0 D [[.v M, .v k, .v w, .v O, .V e.2.2.2.2.2.1, .V e.2.2.2.2.2.2.1]], O0 E [[Q1 e.2.2.1, .list 7 ((H.set a.1 (⟨a.2.Name, e.2.2.2.2.2.2.2.1, a.2.To, e.2.2.2.2.2.2.2.2.1, e.2.2.2.2.2.2.2.2.2.1, e.2.2.2.2.2.2.2.2.2.2.1, e.2.2.2.2.2.2.2.2.2.2.2⟩ : Sg)).map Ao), Q4 e.2.2.2.1, Q3 e.2.2.2.2.1, .V e.2.2.2.2.2.1, .V e.2.2.2.2.2.2.1]], O3 X [[.v (.string a.2.Name), .V e.2.2.2.2.2.2.2.1, .V a.2.To, .V e.2.2.2.2.2.2.2.2.1, .V e.2.2.2.2.2.2.2.2.2.1, .V e.2.2.2.2.2.2.2.2.2.2.1, Q7 e.2.2.2.2.2.2.2.2.2.2.2]]]) (.cons (.same _) (.cons (.same _) (.cons (.arr (.cons (.us 0 I) (.cons (.us 1 I) (.cons (.us 2 I) (.cons (.us 3 I) (.rest _)))))) (.rest _))))) ?_)))))))))
 refine F2 [0, 2] I ?_
 obtain rfl := oi h
 exact gW ⟨.inr I, [_], [O1 g [[Q0 e.1, .V e.2.1]]], ⟨⟨1, _, _, _, _, _, _, _, I5⟩, J⟩, Dt I (Cd), ⟨[O1 g [[Q0 e.1, .V e.2.1]]], [], I5⟩⟩
theorem Yn (a : Nat) (i : KS) (j : Int) (r : (List Balance) × KS) (h : Qq i j = some r) : ACalls Ah 23 [.v (.pointer (some ⟨a, 0, none⟩)), .V j] [O1 a [A0 i]] (Er 1 fun x os new => ∃ (k : Value), x = .v k ∧ os = [O1 a [A0 r.2]] ∧ new = [U3 k r.1]) := by
 refine Ad Tryz.func23 I I I fun C hC => ?_
 refine Ag I (Ag I (Ab fun U u => ?_))
 obtain ⟨W, w, h⟩ := Aa h
 refine gQ (Ac 1 I (gS [0] I (Ar [0] (D5 a _ _ _ _ w) ?_)))
 refine Ac 1 I (gR ?_)
 subst u
 refine Ab fun X y => ?_
 obtain ⟨n, A, h⟩ := Aa h
 refine gQ (Ac 1 I (gS [] I (hE 1 (([0, 0, 1, 5, 20] : Li).map rI) (gS [0] I (Ar [0] (Ai a _ _ _ A) ?_)))))
 refine Ac 1 I (gR ?_)
 subst y
 refine Aj (fun s ob => ∃ (b : Li × Int × (List Balance)) (e : Value), Qq.J1 b = some r ∧ s = [(5, .v e)] ∧ ob = [O1 a [[Q0 b.1, .V b.2.1]], U3 e b.2.2]) [] J ?_ ?_
 refine Ab fun Y B => ?_
 obtain ⟨Z, D, h⟩ := Aa h
 refine gQ (Ac 3 I (gS [0] I (Ar [0] (A3 a _ _ _ D) ?_)))
 refine Ac 1 I (gR ?_)
 subst B
 refine gV (gY (Ay 64 3) ?_)
 obtain ⟨aa, E, F⟩ := Aa h
 refine A5 E [(0, _), (7, _)] J2 (fun (c : Li × Int × (List Balance) × Int × Int) s ob => ∃ (g : Value), s = [(5, .v g), (6, .V c.2.2.2.1), (8, .V c.2.2.2.2)] ∧ ob = [O1 a [[Q0 c.1, .V c.2.1]], U3 g c.2.2.1]) ⟨(.slice none 0 0), I2⟩ ⟨I, I, I, J⟩ ⟨[0, 1], I, by decide⟩ ?_
 rintro c ab s ob ⟨g, rfl, rfl⟩ h G
 refine Ab fun ac H => Ag I (An h I ?_ ?_)
 intro K h
 refine gU ?_
 subst H
 refine gT (gV (Ab fun ad M => ?_))
 obtain ⟨d, N, h⟩ := Aa h
 refine gQ (Ac 1 I (gS [0] I (Ar [0] (A3 a _ _ _ N) ?_)))
 refine Bn (Bq (l := [.V d.1, .V 0, .V 0]) Gf I) I (gS [] I (Cl [.V 0, .V 0, .V 0] 3 fun ae => gS [2] I (Bo 2 0 0 [[.V d.1, .V 0, .V 0]] I (gR ?_))))
 subst M
 refine Ab fun af O => ?_
 obtain ⟨f, P, h⟩ := Aa h
 refine gQ (Aq 4 [.o 2 2] I J1 (gS [0] I (Ar [0] (A3 a _ _ _ P) ?_)))
 refine Ac 1 I (gS [2] I (Bo 2 0 1 [[.V d.1, .V f.1, .V 0]] I (gR ?_)))
 subst O
 refine gT ?_
 obtain ⟨t, Q, h⟩ := Aa h
 refine C4 (pd 15 0 [10]) [2] [_] I (C6 10 [.o 2 0, .o 5 0] I J2 (gX [0] I I I (Ar [0] (A3 a _ _ _ Q) ?_)))
 refine Bm 3 I (Vi 6 (Bm 1 I (A2 (gR (gT (gQ (Ac 2 I (gS [2] I (Bo 2 0 2 [[.V d.1, .V f.1, .V (max 0 (wr ((wr ((wr ((wr ((wr (c.2.2.2.1 + d.1)) - f.1)) - n.1)) + t.1)) - 2)))]] I (gR ?_))))))))))
 obtain ⟨ag, R, h⟩ := Aa h
 refine gQ (Aq 2 [.o 1 2] I J1 (gS [] I (hE 3 (([(⟨d.1, f.1, (max 0 (wr ((wr ((wr ((wr ((wr (c.2.2.2.1 + d.1)) - f.1)) - n.1)) + t.1)) - 2)))⟩ : Balance)] : List Balance).map A1) (gS [1] I (Cq 1 I R fun S => Ac 1 I (gR (gQ (Ac 3 I ?_))))))))
 cases io h
 exact gR ⟨_, _, _, I, ⟨S, I2⟩, J5, [0, 1], I, by decide⟩
 intro K h
 obtain rfl := G _ (oi h).symm
 have h := F
 exact gZ (lg ⟨(c.1, c.2.1, c.2.2.1), g, h, I2⟩ [0, 1])
 rintro s ob ⟨b, e, h, rfl, rfl⟩
 refine Ag I ?_
 obtain rfl := oi h
 exact gW ⟨.inr I, [_], [O1 a [[Q0 b.1, .V b.2.1]], U3 e b.2.2], J1, Dt I (Dt I (Cd)), ⟨[O1 a [[Q0 b.1, .V b.2.1]]], [U3 e b.2.2], I, I, e, I3⟩⟩
theorem Wq (a : Nat) (c : KS) (r : Accuracy × KS) (h : P5 c = some r) : ACalls Ah 24 [.v (.pointer (some ⟨a, 0, none⟩))] [O1 a [A0 c]] (Er 1 fun x os new => x = .agg (Am r.1) ∧ os = [O1 a [A0 r.2]] ∧ new = []) := by
 refine Ad Tryz.func24 I I I fun C hC => ?_
 refine gT (gQ (gS [] I (Cl [.V 0, .V 0] 2 fun g => gR (gT ?_))))
 obtain ⟨d, e, h⟩ := Aa h
 obtain ⟨b, f, h⟩ := Aa h
 refine gQ (Ac 1 I (gS [] I (hE 1 (([0, 0, 1000, 20000, 100000] : Li).map rI) (gS [0] I (Ar [0] (Ai a _ _ _ e) ?_)))))
 refine Ac 1 I (gS [] I (hE 1 (([0, 0, 1, 10] : Li).map rI) (gS [0] I (Ar [0] (Ai a _ _ _ f) ?_))))
 refine Bn (Bq (l := [.V d.1, .V b.1]) Gg I) I (gS [1] I (Bo 1 0 0 [[.V d.1, .V b.1]] I (gR ?_)))
 obtain rfl := oi h
 exact gW ⟨.inr I, [_], [O1 a [A0 b.2]], ⟨⟨1, _, _, _, _, _, _, _, I5⟩, J⟩, Dt I (Cd), ⟨[O1 a [A0 b.2]], [], I5⟩⟩
end Go.Proofs.YtihdchjpepkpbaaGreat
