/- Walks that show what functions of the program compute; printed by a program of ours. No condition. -/
import Derived.Test.YtihdchjpepkpbaaGreatZwL3
import Derived.Test.YtihdchjpepkpbaaGreatZwD
import Derived.Test.YtihdchjpepkpbaaGreatZwB3
import Derived.Test.YtihdchjpepkpbaaGreatZwB2
set_option maxRecDepth 100000
namespace Go.Proofs.YtihdchjpepkpbaaGreat
open Go.Aw
set_option linter.unusedVariables false
set_option linter.unusedSimpArgs false
set_option maxHeartbeats 4000000
abbrev Qx : PL := .act 15 (.still 16 (.act 17 (.act 18 (.still 19 (.drop 20 .nil)))))
abbrev jI : PL := sl 6 0 (.still 9 (.two 6 10 (.two 7 10 (.two 8 10 (.act 10 (.act 11 (.still 12 (.act 13 (.act 14 .nil))))) (.two 8 11 (.act 11 (.still 12 (.act 13 (.act 14 .nil)))) (.act 8 (.still 12 (.act 13 (.act 14 .nil)))))) (.two 7 11 (.two 8 11 (.act 11 (.still 12 (.act 13 (.act 14 .nil)))) (.act 8 (.still 12 (.act 13 (.act 14 .nil))))) (.act 7 (.act 8 (.still 12 (.act 13 (.act 14 .nil))))))) (.act 6 (.two 7 11 (.two 8 11 (.act 11 (.still 12 (.act 13 (.act 14 .nil)))) (.act 8 (.still 12 (.act 13 (.act 14 .nil))))) (.act 7 (.act 8 (.still 12 (.act 13 (.act 14 .nil)))))))))
abbrev Ni : PL := .act 9 (.act 12 Qx)
abbrev cN : PL := .two 9 14 (.two 12 14 (.act 14 Qx) (.act 12 Qx)) Ni
abbrev cK : PL := .two 9 11 (.act 11 (.act 12 Qx)) Ni
abbrev jD : PL := .act 9 (.still 10 (.act 11 (.act 12 (.still 13 (.drop 14 .nil)))))
abbrev Qv : PL := .act 5 Ni
abbrev jC : PL := .act 11 (.act 12 (.still 13 (.act 14 .nil)))
theorem Ik (a : Nat) (c : KS) (b : List Bt) (r : Bt × KS) (h : L0 c b = some r) : ACalls Ak 61 [.P a, Q1 b] [O2 a [Bx c]] (Gm 1 fun x os new => x = .v (.string r.1) ∧ os = [O2 a [Bx r.2]] ∧ new = []) := by
 refine Ag Tryz.func61 I I I fun C hC => ?_
 refine Ai I (mK ?_)
 obtain ⟨d, f, h⟩ := Ab h
 obtain ⟨e, ⟨g, i⟩, h⟩ := Bb h
 refine mE (Al 4 [.l 3 (b.length : Int)] I ⟨A0, J⟩ (mG [0] I (Az [0] (Bu a _ _ _ f) ?_)))
 refine Al 3 [.x 0 e.1 (rS e.2)] I ⟨⟨g, Ae i⟩, J⟩ (mF ?_)
 obtain rfl := oi h
 exact mL ⟨.inr I, [_], [O2 a [Bx d.2]], J1, Dj I (Cm), ⟨[O2 a [Bx d.2]], [], I5⟩⟩
theorem bR (g : Nat) (U : KS) (b : Nw) (r : Nw × KS) (h : Tc U b = some r) : ACalls Ak 19 [.P g, .agg (Ac b)] [O2 g [Bx U]] (Gm 1 fun x os new => x = .agg (Ac r.1) ∧ os = [O2 g [Bx r.2]] ∧ new = []) := by
 refine Ag Tryz.func19 I I I fun C hC => ?_
 refine Aa fun y1 bi => mE (mG [] I (Bz (Ac b) 6 fun D => mG [] I (Br W2 6 fun E => mF ?_)))
 subst bi
 refine F3 (s' := [(0, .P g), (3, .P D), (4, .P E)]) (ob' := [O2 g [Bx U], O0 D [Ac b], O0 E [W2]]) ⟨J3, pk N3⟩ (Aa fun y4 bj => ?_)
 obtain ⟨t, bk, h⟩ := Ab h
 refine mE (mG [] I (mS (sz := 1) (es := ([] : List Bt).map rS) I I I I I I I I I I I dS fun v5 => Al 2 [.o 1 1] I J1 (mG [3] I (mT 3 I bk fun i => Af 1 I (nD 3 I fun bl => mG [1] I (mP 1 0 0 (es' := [[.v i, Q4 b.Segments, Q3 b.Ports, Q2 b.Stations, .V b.Vapour, .V b.Settle]]) I I I I I I (Bd bl) I (As I) I I (mF ?_)))))))
 subst bj
 refine F3 (s' := [(0, .P g), (3, .P D), (4, .P E)]) (ob' := [O2 g [Bx U], O0 D [[.v i, Q4 b.Segments, Q3 b.Ports, Q2 b.Stations, .V b.Vapour, .V b.Settle]], O0 E [W2], U2 i t]) ⟨J3, pk N4⟩ (Aa fun y9 bm => ?_)
 obtain ⟨H, bn, h⟩ := Ab h
 refine mE (mG [] I (mS (sz := 7) (es := ([] : List Sg).map Ap) I I I I I I I I I I I dS fun d6 => Al 2 [.o 1 1] I J1 (mG [4] I (mT 4 I bn fun k => Af 1 I (nD 4 I fun bo => mG [1] I (mP 1 0 1 (es' := [[.v i, .v k, Q3 b.Ports, Q2 b.Stations, .V b.Vapour, .V b.Settle]]) I I I I I I (Bd bo) I (As I) I I (mF ?_)))))))
 subst bm
 refine F3 (s' := [(0, .P g), (3, .P D), (4, .P E)]) (ob' := [O2 g [Bx U], O0 D [[.v i, .v k, Q3 b.Ports, Q2 b.Stations, .V b.Vapour, .V b.Settle]], O0 E [W2], U2 i t, U5 k H]) ⟨J3, pk N5⟩ (Aa fun d7 bp => ?_)
 obtain ⟨u, bq, h⟩ := Ab h
 refine mE (mG [] I (mS (sz := 3) (es := ([] : List Port).map Bp) I I I I I I I I I I I dS fun d8 => Al 2 [.o 1 1] I J1 (mG [5] I (mT 5 I bq fun w => Af 1 I (nD 5 I fun br => mG [1] I (mP 1 0 2 (es' := [[.v i, .v k, .v w, Q2 b.Stations, .V b.Vapour, .V b.Settle]]) I I I I I I (Bd br) I (As I) I I (mF ?_)))))))
 subst bp
 refine F3 (s' := [(0, .P g), (3, .P D), (4, .P E)]) (ob' := [O2 g [Bx U], O0 D [[.v i, .v k, .v w, Q2 b.Stations, .V b.Vapour, .V b.Settle]], O0 E [W2], U2 i t, U5 k H, U6 w u]) ⟨J3, pk N6⟩ (Aa fun d9 bs => ?_)
 obtain ⟨A, bt, h⟩ := Ab h
 refine mE (mG [] I (mS (sz := 5) (es := ([] : List Sn).map Bl) I I I I I I I I I I I dS fun ea => Al 2 [.o 1 1] I J1 (mG [6] I (mT 6 I bt fun j => Af 1 I (nD 6 I fun bu => mG [1] I (mP 1 0 3 (es' := [[.v i, .v k, .v w, .v j, .V b.Vapour, .V b.Settle]]) I I I I I I (Bd bu) I (As I) I I (mF ?_)))))))
 subst bs
 refine F3 (s' := [(0, .P g), (3, .P D), (4, .P E)]) (ob' := [O2 g [Bx U], O0 D [[.v i, .v k, .v w, .v j, .V b.Vapour, .V b.Settle]], O0 E [W2], U2 i t, U5 k H, U6 w u, U7 j A]) ⟨J3, pk N7⟩ (Aa fun eb bv => ?_)
 obtain ⟨aw, bw, h⟩ := Ab h
 refine mE (Al 3 [.o 2 1] I J1 (mQ (Cf 4 I I I I) I (mG [0] I (Az [0] (Bu g _ _ _ bw) ?_))))
 refine Af 1 I (mF ?_)
 subst bv
 refine F3 (s' := [(0, .P g), (3, .P D), (4, .P E), (5, .V aw.1)]) (ob' := [O2 g [Bx aw.2], O0 D [[.v i, .v k, .v w, .v j, .V b.Vapour, .V b.Settle]], O0 E [W2], U2 i t, U5 k H, U6 w u, U7 j A]) ⟨J4, pk N7⟩ (Aa fun ec bx => ?_)
 obtain ⟨a, ⟨a0, ag⟩, h⟩ := Bb h
 refine mE (Al 3 [.o 1 1] I J1 (mQ (Bh 4 (m := a.1) I I I I I I I a0 (Ae ag)) I (mQ (Ay 4 a.1 0 I I I (Ae ag) I (y := .agg (Ap a.2)) I) I (mG [] I (Br W3 7 fun X => mG [7] I (Ba 7 0 0 [Ap a.2] I (mF ?_)))))))
 subst bx
 refine Aa fun ed bz => ?_
 obtain ⟨B, b1, h⟩ := Ab h
 refine mE (mG [] I (mS (sz := 3) (es := ([] : List Point).map Cn) I I I I I I I I I I I dS fun ee => Al 2 [.o 1 7] I J1 (mG [8] I (mT 8 I b1 fun n => Af 1 I (nD 8 I fun b4 => mG [7] I (mP 7 0 6 (es' := [[.v (.string a.2.Name), .V a.2.From, .V a.2.To, .V a.2.Capacity, .V a.2.Resist, .V a.2.Wave, .v n]]) I I I I I I (Bd b4) I (As I) I I (mF ?_)))))))
 subst bz
 refine Ah (fun s ob => ∃ (e : Li × Int × (List Bt) × (List Port) × (List Sn) × Int × Int × Int × Int × Int × Int × (List Point)) (M : Value) (O : Value) (ah : Value), Tc.J1 H a e = some r ∧ s = [] ∧ ob = [O2 g [[Q0 e.1, .V e.2.1]], O0 D [[.v M, .v k, .v w, .v O, .V e.2.2.2.2.2.1, .V e.2.2.2.2.2.2.1]], O0 E [W2], U2 M e.2.2.1, U5 k H, U6 w e.2.2.2.1, U7 O e.2.2.2.2.1, O5 X [[.v (.string a.2.Name), .V e.2.2.2.2.2.2.2.1, .V a.2.To, .V e.2.2.2.2.2.2.2.2.1, .V e.2.2.2.2.2.2.2.2.2.1, .V e.2.2.2.2.2.2.2.2.2.2.1, .v ah]], U8 ah e.2.2.2.2.2.2.2.2.2.2.2]) (K4 3 4 5 6) J4 ?_ ?_
 refine Aa fun ef b5 => ?_
 obtain ⟨Y, b6, h⟩ := Ab h
 refine mE (Af 1 I (mG [0] I (Az [0] (Bu g _ _ _ b6) ?_)))
 refine mF ?_
 subst b5
 refine mJ (Ai I (Aq h I ?_ ?_))
 intro b7 h
 obtain ⟨eg, a1, h⟩ := Ab h
 obtain ⟨P, a2, h⟩ := Ab h
 obtain ⟨W, ⟨a3, aa⟩, h⟩ := Bb h
 refine Dn 3 I fun b8 => Bq 3 W.1 I aa fun a4 => Bm (sl 6 0 (.still 7 (.two 6 8 (.act 8 (.act 9 (.act 10 (.act 11 .nil)))) (.act 6 (.act 9 (.act 10 (.act 11 .nil))))))) [1] [_] I (Bo 5 [.o 1 0, .o 4 0] I J2 (mU I (Dm I I I b8) I (A4 1 I (mV ?_ ?_))))
 refine mH [0] I I I (Az [0] (Bu g _ _ _ a1) ?_)
 refine mH [] I I I (mO 1 (([(⟨#[]⟩ : Bt), (⟨#[110, 97]⟩ : Bt), (⟨#[65]⟩ : Bt), (⟨#[120, 45, 57]⟩ : Bt)] : List Bt).map rS) (mH [0] I I I (Az [0] (Ik g _ _ _ a2) ?_)))
 exact mH [] I I I (Av (mY (Ar (m := W.1) I I I I I a4 I a3 aa)) dS (mH [3] I I I (A5 3 W.1 0 I I I (Ae aa) I I I I (As I) I (Ca (x := P.1) I) (An (mF (lg ⟨(P.2.L_, P.2.At, (t.set W.1 P.1), u, A, b.Vapour, b.Settle, a.2.From, a.2.Capacity, a.2.Resist, a.2.Wave, B), i, j, n, h, I2⟩ N9))))))
 refine mH [] I I I (mO 1 (([(⟨#[]⟩ : Bt), (⟨#[110, 97]⟩ : Bt), (⟨#[65]⟩ : Bt), (⟨#[120, 45, 57]⟩ : Bt)] : List Bt).map rS) (mH [0] I I I (Az [0] (Bu g _ _ _ a1) ?_)))
 refine mH [0] I I I (Az [0] (Ik g _ _ _ a2) ?_)
 exact mH [] I I I (Av (mY (Ar (m := W.1) I I I I I a4 I a3 aa)) dS (mH [3] I I I (A5 3 W.1 0 I I I (Ae aa) I I I I (As I) I (Ca (x := P.1) I) (An (mF (lg ⟨(P.2.L_, P.2.At, (t.set W.1 P.1), u, A, b.Vapour, b.Settle, a.2.From, a.2.Capacity, a.2.Resist, a.2.Wave, B), i, j, n, h, I2⟩ N9))))))
 intro b7 h
 refine Ai I (Aq h I ?_ ?_)
 intro b9 h
 obtain ⟨ai, ca, h⟩ := Ab h
 refine mE (Al 5 [.o 2 7, .o 4 1] I J2 (mQ (Cf 3 I I I I) I (mG [] I (mO 1 (([(-1), a.2.To, (t.length : Int), 0] : Li).map rI) (mG [0] I (Az [0] (Aj g _ _ _ ca) ?_))))))
 exact Af 1 I (mG [7] I (Ba 7 0 1 [[.v (.string a.2.Name), .V ai.1, .V a.2.To, .V a.2.Capacity, .V a.2.Resist, .V a.2.Wave, .v n]] I (mF (lg ⟨(ai.2.L_, ai.2.At, t, u, A, b.Vapour, b.Settle, ai.1, a.2.Capacity, a.2.Resist, a.2.Wave, B), i, j, n, h, I2⟩ N9))))
 intro b9 h
 refine Ai I (Aq h I ?_ ?_)
 intro cb h
 obtain ⟨aj, cc, h⟩ := Ab h
 refine mE (Al 4 [.o 2 7] I J1 (mG [] I (mO 1 (([0, (-1), wr (a.2.Capacity + 1), 1000001] : Li).map rI) (mG [0] I (Az [0] (Aj g _ _ _ cc) ?_)))))
 exact Af 1 I (mG [7] I (Ba 7 0 3 [[.v (.string a.2.Name), .V a.2.From, .V a.2.To, .V aj.1, .V a.2.Resist, .V a.2.Wave, .v n]] I (mF (lg ⟨(aj.2.L_, aj.2.At, t, u, A, b.Vapour, b.Settle, a.2.From, aj.1, a.2.Resist, a.2.Wave, B), i, j, n, h, I2⟩ N9))))
 intro cb h
 refine Ai I (Aq h I ?_ ?_)
 intro cd h
 obtain ⟨ak, ce, h⟩ := Ab h
 refine mE (Af 1 I (mG [] I (mO 1 (([(-1), 1000, 1001] : Li).map rI) (mG [0] I (Az [0] (Aj g _ _ _ ce) ?_)))))
 exact Af 1 I (mG [7] I (Ba 7 0 4 [[.v (.string a.2.Name), .V a.2.From, .V a.2.To, .V a.2.Capacity, .V ak.1, .V a.2.Wave, .v n]] I (mF (lg ⟨(ak.2.L_, ak.2.At, t, u, A, b.Vapour, b.Settle, a.2.From, a.2.Capacity, ak.1, a.2.Wave, B), i, j, n, h, I2⟩ N9))))
 intro cd h
 refine Ai I (Aq h I ?_ ?_)
 intro cf h
 obtain ⟨al, ci, h⟩ := Ab h
 refine mE (Af 1 I (mG [] I (mO 1 (([(-1), 100000, 100001] : Li).map rI) (mG [0] I (Az [0] (Aj g _ _ _ ci) ?_)))))
 exact Af 1 I (mG [7] I (Ba 7 0 5 [[.v (.string a.2.Name), .V a.2.From, .V a.2.To, .V a.2.Capacity, .V a.2.Resist, .V al.1, .v n]] I (mF (lg ⟨(al.2.L_, al.2.At, t, u, A, b.Vapour, b.Settle, a.2.From, a.2.Capacity, a.2.Resist, al.1, B), i, j, n, h, I2⟩ N9))))
 intro cf h
 refine Ai I (Aq h I ?_ ?_)
 intro cj h
 refine Aa fun eh ck => mE (Al 2 [.o 1 7] I J1 (mQ (Cf 8 I I I I) I (Af 1 I (mF ?_))))
 subst ck
 refine Aq h I ?_ ?_
 intro cl h
 obtain ⟨ei, a5, h⟩ := Ab h
 obtain ⟨Q, a6, h⟩ := Ab h
 obtain ⟨F, ⟨a7, ab⟩, h⟩ := Bb h
 refine Dn 8 I fun cm => Bq 8 F.1 I ab fun a8 => Bm (sl 6 0 (sl 3 7 (.two 6 10 (.act 10 jC) (.act 6 jC)))) [7] [_] I (Bo 5 [.o 1 0, .o 4 0] I J2 (mU I (Dm I I I cm) I (Bo 3 [.o 2 0] I J1 (mV ?_ ?_))))
 refine mH [0] I I I (Az [0] (Bu g _ _ _ a5) ?_)
 refine mH [] I I I (mO 1 (([(-1), 0, 1, a.2.Capacity] : Li).map rI) (mH [0] I I I (Az [0] (Aj g _ _ _ a6) ?_)))
 exact mH [] I I I (Av (mY (Ar (m := F.1) I I I I I a8 I a7 ab)) dS (A4 1 I (mH [8] I I I (A5 8 F.1 0 I I I (Ae ab) I I I I (As I) I (Ca (x := (⟨Q.1, F.2.Height, F.2.Limit⟩ : Point)) I) (An (mF (lg ⟨(Q.2.L_, Q.2.At, t, u, A, b.Vapour, b.Settle, a.2.From, a.2.Capacity, a.2.Resist, a.2.Wave, (B.set F.1 (⟨Q.1, F.2.Height, F.2.Limit⟩ : Point))), i, j, n, h, I2⟩ N9)))))))
 refine mH [] I I I (mO 1 (([(-1), 0, 1, a.2.Capacity] : Li).map rI) (mH [0] I I I (Az [0] (Bu g _ _ _ a5) ?_)))
 refine mH [0] I I I (Az [0] (Aj g _ _ _ a6) ?_)
 exact mH [] I I I (Av (mY (Ar (m := F.1) I I I I I a8 I a7 ab)) dS (A4 1 I (mH [8] I I I (A5 8 F.1 0 I I I (Ae ab) I I I I (As I) I (Ca (x := (⟨Q.1, F.2.Height, F.2.Limit⟩ : Point)) I) (An (mF (lg ⟨(Q.2.L_, Q.2.At, t, u, A, b.Vapour, b.Settle, a.2.From, a.2.Capacity, a.2.Resist, a.2.Wave, (B.set F.1 (⟨Q.1, F.2.Height, F.2.Limit⟩ : Point))), i, j, n, h, I2⟩ N9)))))))
 intro cl h
 exact mI (lg ⟨(Y.2.L_, Y.2.At, t, u, A, b.Vapour, b.Settle, a.2.From, a.2.Capacity, a.2.Resist, a.2.Wave, B), i, j, n, h, I2⟩ N9)
 intro cj h
 refine Ai I (Aq h I ?_ ?_)
 intro cn h
 obtain ⟨a9, co, h⟩ := Ab h
 obtain ⟨cp, cq, h⟩ := Ab h
 refine Dn 8 I fun cr => Bm (sl 8 0 (.act 8 (.act 9 (.still 10 (.drop 11 .nil))))) [7] [_] I (Bo 5 [.o 1 0, .o 4 0] I J2 (mU I (Dm I I I cr) I (A4 2 I (mH [0] I I I (Az [0] (Bu g _ _ _ co) ?_)))))
 exact mH [8] I I I (Yi 8 I cq fun ba => A4 1 I (mX 8 I fun ct => mW [7] I I I (mP 7 0 6 (es' := [[.v (.string a.2.Name), .V a.2.From, .V a.2.To, .V a.2.Capacity, .V a.2.Resist, .V a.2.Wave, .v ba]]) I I I I I I (Bd ct) I (As I) I I (An (mF (lg ⟨(a9.2.L_, a9.2.At, t, u, A, b.Vapour, b.Settle, a.2.From, a.2.Capacity, a.2.Resist, a.2.Wave, cp), i, j, ba, h, I2⟩ N9))))))
 intro cn h
 refine Ai I (Aq h I ?_ ?_)
 intro cu h
 refine Aa fun ej cv => mE (Al 2 [.o 1 7] I J1 (mQ (Cf 8 I I I I) I (Af 1 I (mF ?_))))
 subst cv
 refine Aq h I ?_ ?_
 intro cw h
 obtain ⟨ek, bb, h⟩ := Ab h
 obtain ⟨R, bc, h⟩ := Ab h
 obtain ⟨G, ⟨bd, ac⟩, h⟩ := Bb h
 refine Dn 8 I fun cx => Bq 8 G.1 I ac fun be => Bm (sl 6 0 (.still 7 (.two 6 8 (.act 8 (.act 9 (.act 10 (.still 11 (.act 12 .nil))))) (.act 6 (.act 9 (.act 10 (.still 11 (.act 12 .nil)))))))) [7] [_] I (Bo 5 [.o 1 0, .o 4 0] I J2 (mU I (Dm I I I cx) I (A4 1 I (mV ?_ ?_))))
 refine mH [0] I I I (Az [0] (Bu g _ _ _ bb) ?_)
 refine mH [] I I I (mO 1 (([(-501), (-500), 5000, 5001] : Li).map rI) (mH [0] I I I (Az [0] (Aj g _ _ _ bc) ?_)))
 exact mH [] I I I (Av (mY (Ar (m := G.1) I I I I I be I bd ac)) dS (A4 1 I (mH [8] I I I (A5 8 G.1 1 I I I (Ae ac) I I I I (As I) I (Ca (x := (⟨G.2.At, R.1, G.2.Limit⟩ : Point)) I) (An (mF (lg ⟨(R.2.L_, R.2.At, t, u, A, b.Vapour, b.Settle, a.2.From, a.2.Capacity, a.2.Resist, a.2.Wave, (B.set G.1 (⟨G.2.At, R.1, G.2.Limit⟩ : Point))), i, j, n, h, I2⟩ N9)))))))
 refine mH [] I I I (mO 1 (([(-501), (-500), 5000, 5001] : Li).map rI) (mH [0] I I I (Az [0] (Bu g _ _ _ bb) ?_)))
 refine mH [0] I I I (Az [0] (Aj g _ _ _ bc) ?_)
 exact mH [] I I I (Av (mY (Ar (m := G.1) I I I I I be I bd ac)) dS (A4 1 I (mH [8] I I I (A5 8 G.1 1 I I I (Ae ac) I I I I (As I) I (Ca (x := (⟨G.2.At, R.1, G.2.Limit⟩ : Point)) I) (An (mF (lg ⟨(R.2.L_, R.2.At, t, u, A, b.Vapour, b.Settle, a.2.From, a.2.Capacity, a.2.Resist, a.2.Wave, (B.set G.1 (⟨G.2.At, R.1, G.2.Limit⟩ : Point))), i, j, n, h, I2⟩ N9)))))))
 intro cw h
 exact mI (lg ⟨(Y.2.L_, Y.2.At, t, u, A, b.Vapour, b.Settle, a.2.From, a.2.Capacity, a.2.Resist, a.2.Wave, B), i, j, n, h, I2⟩ N9)
 intro cu h
 refine Ai I (Aq h I ?_ ?_)
 intro cy h
 refine Aa fun el cz => mE (Al 2 [.o 1 1] I J1 (mQ (Cf 5 I I I I) I (Af 1 I (mF ?_))))
 subst cz
 refine Aq h I ?_ ?_
 intro c1 h
 obtain ⟨bf, c2, h⟩ := Ab h
 obtain ⟨ad, c3, h⟩ := Ab h
 obtain ⟨ae, c4, h⟩ := Ab h
 obtain ⟨af, c5, h⟩ := Ab h
 obtain ⟨am, ⟨c6, ax⟩, h⟩ := Bb h
 refine Dn 5 I fun c7 => Dn 3 I fun c8 => Bq 5 am.1 I ax fun c9 => Bm (sl 6 0 (.still 7 (sl 4 10 (.still 16 (.parS [(6, []), (8, []), (9, [6, 8]), (14, []), (15, [6, 8, 9, 14]), (17, [])] [[], [6], [8], [14], [17], [6, 8], [6, 14], [6, 17], [8, 14], [8, 17], [14, 17], [6, 8, 9], [6, 8, 14], [6, 8, 17], [6, 14, 17], [8, 14, 17], [6, 8, 9, 14], [6, 8, 9, 17], [6, 8, 14, 17], [6, 8, 9, 14, 15], [6, 8, 9, 14, 17], [6, 8, 9, 14, 15, 17]] (.act 18 (.still 19 (.act 20 (.act 21 .nil))))))))) [1] [_] I (Bo 5 [.o 1 0, .o 4 0] I J2 (mU I (Dm I I I c7) I (Bo 4 [.o 3 0] I J1 (mU I (Dm I I I c8) I (A4 1 I (Td [⟨6, [], 174, .V bf.1, [0], [O2 g [Bx bf.2]]⟩, ⟨8, [], 176, .list 1 (([(⟨#[113, 97]⟩ : Bt), (⟨#[113, 98]⟩ : Bt), (⟨#[]⟩ : Bt), (⟨#[122]⟩ : Bt)] : List Bt).map rS), [], []⟩, ⟨9, [6, 8], 177, .v (.string ad.1), [0], [O2 g [Bx ad.2]]⟩, ⟨14, [], 182, .list 1 (([(-1), 0, 1, (t.length : Int)] : Li).map rI), [], []⟩, ⟨15, [6, 8, 9, 14], 183, .V ae.1, [0], [O2 g [Bx ae.2]]⟩, ⟨17, [], 185, .list 1 (([0, (-1), 100000000, 100000001] : Li).map rI), [], []⟩] I ⟨⟨_, I, I, I, fun _ h => by cases h; exact Dp [0] (Bu g _ _ _ c2) (by rintro _ _ _ - ⟨rfl, rfl, rfl⟩; exact ⟨rfl, rfl⟩)⟩, ⟨_, I, I, I, fun _ _ => mO 1 (([(⟨#[113, 97]⟩ : Bt), (⟨#[113, 98]⟩ : Bt), (⟨#[]⟩ : Bt), (⟨#[122]⟩ : Bt)] : List Bt).map rS) I2⟩, ⟨_, I, I, I, fun _ h => by cases h; exact Dp [0] (Ik g _ _ _ c3) (by rintro _ _ _ - ⟨rfl, rfl, rfl⟩; exact ⟨rfl, rfl⟩)⟩, ⟨_, I, I, I, fun _ _ => mO 1 (([(-1), 0, 1, (t.length : Int)] : Li).map rI) I2⟩, ⟨_, I, I, I, fun _ h => by cases h; exact Dp [0] (Aj g _ _ _ c4) (by rintro _ _ _ - ⟨rfl, rfl, rfl⟩; exact ⟨rfl, rfl⟩)⟩, ⟨_, I, I, I, fun _ _ => mO 1 (([0, (-1), 100000000, 100000001] : Li).map rI) I2⟩, J⟩ ?_))))))
 refine mH [0] I I I (Az [0] (Aj g _ _ _ c5) ?_)
 exact Jr I (Bi (l := [.v (.string ad.1), .V ae.1, .V af.1]) Fe I) I (mH [] I I I (Av (mY (Ar (m := am.1) I I I I I c9 I c6 ax)) dS (mH [5] I I I (A5 5 am.1 0 I I I (Ae ax) I I I I (As I) I (Ca (x := (⟨ad.1, ae.1, af.1⟩ : Port)) I) (An (mF (lg ⟨(af.2.L_, af.2.At, t, (u.set am.1 (⟨ad.1, ae.1, af.1⟩ : Port)), A, b.Vapour, b.Settle, a.2.From, a.2.Capacity, a.2.Resist, a.2.Wave, B), i, j, n, h, I2⟩ N9)))))))
 intro c1 h
 exact mI (lg ⟨(Y.2.L_, Y.2.At, t, u, A, b.Vapour, b.Settle, a.2.From, a.2.Capacity, a.2.Resist, a.2.Wave, B), i, j, n, h, I2⟩ N9)
 intro cy h
 refine Ai I (Aq h I ?_ ?_)
 intro da h
 obtain ⟨an, db, h⟩ := Ab h
 obtain ⟨ao, dc, h⟩ := Ab h
 obtain ⟨aq, dd, h⟩ := Ab h
 obtain ⟨ar, de, h⟩ := Ab h
 obtain ⟨au, df, h⟩ := Ab h
 obtain ⟨dg, dh, h⟩ := Ab h
 refine Bm (sl 3 0 (.still 5 (.still 8 (.still 11 (.still 14 (.parS [(3, []), (4, [3]), (6, []), (7, [3, 4, 6]), (9, []), (10, [3, 4, 6, 7, 9]), (12, []), (13, [3, 4, 6, 7, 9, 10, 12]), (15, [])] [[], [3], [6], [9], [12], [15], [3, 4], [3, 6], [3, 9], [3, 12], [3, 15], [6, 9], [6, 12], [6, 15], [9, 12], [9, 15], [12, 15], [3, 4, 6], [3, 4, 9], [3, 4, 12], [3, 4, 15], [3, 6, 9], [3, 6, 12], [3, 6, 15], [3, 9, 12], [3, 9, 15], [3, 12, 15], [6, 9, 12], [6, 9, 15], [6, 12, 15], [9, 12, 15], [3, 4, 6, 7], [3, 4, 6, 9], [3, 4, 6, 12], [3, 4, 6, 15], [3, 4, 9, 12], [3, 4, 9, 15], [3, 4, 12, 15], [3, 6, 9, 12], [3, 6, 9, 15], [3, 6, 12, 15], [3, 9, 12, 15], [6, 9, 12, 15], [3, 4, 6, 7, 9], [3, 4, 6, 7, 12], [3, 4, 6, 7, 15], [3, 4, 6, 9, 12], [3, 4, 6, 9, 15], [3, 4, 6, 12, 15], [3, 4, 9, 12, 15], [3, 6, 9, 12, 15], [3, 4, 6, 7, 9, 10], [3, 4, 6, 7, 9, 12], [3, 4, 6, 7, 9, 15], [3, 4, 6, 7, 12, 15], [3, 4, 6, 9, 12, 15], [3, 4, 6, 7, 9, 10, 12], [3, 4, 6, 7, 9, 10, 15], [3, 4, 6, 7, 9, 12, 15], [3, 4, 6, 7, 9, 10, 12, 13], [3, 4, 6, 7, 9, 10, 12, 15], [3, 4, 6, 7, 9, 10, 12, 13, 15]] (.act 16 (.still 17 (.act 18 (.act 19 (.still 20 (.drop 21 .nil)))))))))))) [1] [_] I (Bo 7 [.o 1 0] I J1 (Td [⟨3, [], 194, .list 1 (([(⟨#[115, 97]⟩ : Bt), (⟨#[115, 122]⟩ : Bt), (⟨#[]⟩ : Bt)] : List Bt).map rS), [], []⟩, ⟨4, [3], 195, .v (.string an.1), [0], [O2 g [Bx an.2]]⟩, ⟨6, [], 197, .list 1 (([(-1), 0, 0, 1, 99] : Li).map rI), [], []⟩, ⟨7, [3, 4, 6], 198, .V ao.1, [0], [O2 g [Bx ao.2]]⟩, ⟨9, [], 200, .list 1 (([0, (-1)] : Li).map rI), [], []⟩, ⟨10, [3, 4, 6, 7, 9], 201, .V aq.1, [0], [O2 g [Bx aq.2]]⟩, ⟨12, [], 203, .list 1 (([0, 100001] : Li).map rI), [], []⟩, ⟨13, [3, 4, 6, 7, 9, 10, 12], 204, .V ar.1, [0], [O2 g [Bx ar.2]]⟩, ⟨15, [], 206, .list 1 (([0, (-1)] : Li).map rI), [], []⟩] I ⟨⟨_, I, I, I, fun _ _ => mO 1 (([(⟨#[115, 97]⟩ : Bt), (⟨#[115, 122]⟩ : Bt), (⟨#[]⟩ : Bt)] : List Bt).map rS) I2⟩, ⟨_, I, I, I, fun _ h => by cases h; exact Dp [0] (Ik g _ _ _ db) (by rintro _ _ _ - ⟨rfl, rfl, rfl⟩; exact ⟨rfl, rfl⟩)⟩, ⟨_, I, I, I, fun _ _ => mO 1 (([(-1), 0, 0, 1, 99] : Li).map rI) I2⟩, ⟨_, I, I, I, fun _ h => by cases h; exact Dp [0] (Aj g _ _ _ dc) (by rintro _ _ _ - ⟨rfl, rfl, rfl⟩; exact ⟨rfl, rfl⟩)⟩, ⟨_, I, I, I, fun _ _ => mO 1 (([0, (-1)] : Li).map rI) I2⟩, ⟨_, I, I, I, fun _ h => by cases h; exact Dp [0] (Aj g _ _ _ dd) (by rintro _ _ _ - ⟨rfl, rfl, rfl⟩; exact ⟨rfl, rfl⟩)⟩, ⟨_, I, I, I, fun _ _ => mO 1 (([0, 100001] : Li).map rI) I2⟩, ⟨_, I, I, I, fun _ h => by cases h; exact Dp [0] (Aj g _ _ _ de) (by rintro _ _ _ - ⟨rfl, rfl, rfl⟩; exact ⟨rfl, rfl⟩)⟩, ⟨_, I, I, I, fun _ _ => mO 1 (([0, (-1)] : Li).map rI) I2⟩, J⟩ ?_))
 refine mH [0] I I I (Az [0] (Aj g _ _ _ df) ?_)
 exact Jr I (Bi (l := [.v (.string an.1), .V ao.1, .V aq.1, .V ar.1, .V au.1]) M3 I) I (mH [] I I I (mO 5 (([(⟨an.1, ao.1, aq.1, ar.1, au.1⟩ : Sn)] : List Sn).map Bl) (mH [6] I I I (mT 6 I dh fun bg => A4 1 I (mX 6 I fun di => mW [1] I I I (mP 1 0 3 (es' := [[.v i, .v k, .v w, .v bg, .V b.Vapour, .V b.Settle]]) I I I I I I (Bd di) I (As I) I I (An (mF (lg ⟨(au.2.L_, au.2.At, t, u, dg, b.Vapour, b.Settle, a.2.From, a.2.Capacity, a.2.Resist, a.2.Wave, B), i, bg, n, h, I2⟩ N9)))))))))
 intro da h
 refine Ai I (Aq h I ?_ ?_)
 intro dj h
 obtain ⟨ay, dk, h⟩ := Ab h
 obtain ⟨av, dl, h⟩ := Ab h
 refine mE (Af 1 I (mG [] I (mO 1 (([0, (-100001), 100000001] : Li).map rI) (mG [0] I (Az [0] (Aj g _ _ _ dk) ?_)))))
 refine Af 1 I (mG [] I (mO 1 (([0, (-1), 101] : Li).map rI) (mG [0] I (Az [0] (Aj g _ _ _ dl) ?_))))
 exact Af 1 I (mG [1] I (Ba 1 0 4 [[.v i, .v k, .v w, .v j, .V ay.1, .V b.Settle]] I (Af 1 I (mG [1] I (Ba 1 0 5 [[.v i, .v k, .v w, .v j, .V ay.1, .V av.1]] I (mF (lg ⟨(av.2.L_, av.2.At, t, u, A, ay.1, av.1, a.2.From, a.2.Capacity, a.2.Resist, a.2.Wave, B), i, j, n, h, I2⟩ N9)))))))
 intro dj h
 refine mJ ?_
 obtain ⟨em, dm, dn⟩ := Ab h
 refine Bs dm (K5 0 3 4 5 6) J5 (fun (S : Li × Int × (List Bt)) s ob => ∃ (Z : Value), s = [] ∧ ob = [O2 g [[Q0 S.1, .V S.2.1]], O0 D [[.v Z, .v k, .v w, .v j, .V b.Vapour, .V b.Settle]], O0 E [W2], U2 Z S.2.2, U5 k H, U6 w u, U7 j A, O5 X [[.v (.string a.2.Name), .V a.2.From, .V a.2.To, .V a.2.Capacity, .V a.2.Resist, .V a.2.Wave, .v n]], U8 n B]) ⟨i, I2⟩ J (pk N9) ?_
 rintro S en s ob ⟨Z, rfl, rfl⟩ h dp
 refine Aa fun eo dq => mK ?_
 obtain ⟨az, dr, h⟩ := Ab h
 refine Dn 3 I fun ds => Bm (pd 7 0 [4]) [1] [_] I (Bo 2 [.o 1 0] I J1 (mU I (Dm I I I ds) I (A4 1 I (mH [0] I I I (Az [0] (Bu g _ _ _ dr) ?_)))))
 refine A4 2 I (An (mF (Aq h I ?_ ?_)))
 intro dt h
 refine mI ?_
 subst dq
 refine F3 (s' := [(0, .P g), (3, .P D), (4, .P E), (5, .V aw.1), (6, .P X)]) (ob' := [O2 g [Bx az.2], O0 D [[.v Z, .v k, .v w, .v j, .V b.Vapour, .V b.Settle]], O0 E [W2], U2 Z S.2.2, U5 k H, U6 w u, U7 j A, O5 X [[.v (.string a.2.Name), .V a.2.From, .V a.2.To, .V a.2.Capacity, .V a.2.Resist, .V a.2.Wave, .v n]], U8 n B]) ⟨J5, pk N9⟩ (mJ ?_)
 obtain ⟨ep, du, h⟩ := Ab h
 obtain ⟨eq, dv, h⟩ := Ab h
 obtain ⟨dw, dx, h⟩ := Ab h
 obtain ⟨er, dy, h⟩ := Ab h
 refine Dn 3 I fun dz => Dn 3 I fun d0 => Bm (sl 5 0 (sl 4 6 (.act 5 (.act 10 (.still 11 (.act 12 (.act 13 (.still 14 (.drop 15 .nil))))))))) [1] [_] I (Bo 4 [.o 1 0, .o 3 0] I J2 (mU I (Dm I I I dz) I (Bo 2 [.o 1 0] I J1 (mU I (Dm I I I d0) I (Bo 1 [.f 0 (.V (wr ((S.2.2.length : Int).tdiv 26)))] I ⟨mY (If (c := wr ((S.2.2.length : Int).tdiv 26)) I I ⟨by decide, I⟩), J⟩ (nC I (Co _ _ _ du) (nC I (Co _ _ _ dv) (Jr I (Vr I I (Vn dx)) I (mH [] I I I (mO 1 (([dw] : List Bt).map rS) (mH [3] I I I (mT 3 I dy fun bh => ?_))))))))))))
 refine A4 1 I (mX 3 I fun d1 => mW [1] I I I (mP 1 0 0 (es' := [[.v bh, .v k, .v w, .v j, .V b.Vapour, .V b.Settle]]) I I I I I I (Bd d1) I (As I) I I (An ?_)))
 cases io h
 exact mF ⟨_, _, _, I, ⟨bh, I2⟩, J5, pk N9⟩
 intro dt h
 obtain rfl := dp _ (oi h).symm
 have h := dn
 exact mN (lg ⟨(az.2.L_, az.2.At, S.2.2, u, A, b.Vapour, b.Settle, a.2.From, a.2.Capacity, a.2.Resist, a.2.Wave, B), Z, j, n, h, I2⟩ N9)
 rintro s ob ⟨e, M, O, ah, h, rfl, rfl⟩
 refine mK (mE (Al 4 [.o 1 1, .o 3 7] I J2 (mQ (Bh 4 (m := a.1) I I I I I I I a0 (Ae ag)) I (mZ (Be [8] (K := [U8 ah e.2.2.2.2.2.2.2.2.2.2.2]) I [(225, .agg [.v (.string a.2.Name), .V e.2.2.2.2.2.2.2.1, .V a.2.To, .V e.2.2.2.2.2.2.2.2.1, .V e.2.2.2.2.2.2.2.2.2.1, .V e.2.2.2.2.2.2.2.2.2.2.1, Q8 e.2.2.2.2.2.2.2.2.2.2.2])] ⟨⟨_, I, .agg (.cons (.refl _) (.cons (.refl _) (.cons (.refl _) (.cons (.refl _) (.cons (.refl _) (.cons (.refl _) (.cons (.us 0 I) (.rest _))))))))⟩, J⟩ (ob' := [O2 g [[Q0 e.1, .V e.2.1]], O0 D [[.v M, .v k, .v w, .v O, .V e.2.2.2.2.2.1, .V e.2.2.2.2.2.2.1]], O0 E [W2], U2 M e.2.2.1, U5 k H, U6 w e.2.2.2.1, U7 O e.2.2.2.2.1, O5 X [[.v (.string a.2.Name), .V e.2.2.2.2.2.2.2.1, .V a.2.To, .V e.2.2.2.2.2.2.2.2.1, .V e.2.2.2.2.2.2.2.2.2.1, .V e.2.2.2.2.2.2.2.2.2.2.1, Q8 e.2.2.2.2.2.2.2.2.2.2.2]]]) (.cons (.same _) (.cons (.same _) (.cons (.same _) (.cons (.same _) (.cons (.same _) (.cons (.same _) (.cons (.same _) (.cons (.arr (.cons (.refl _) (.cons (.refl _) (.cons (.refl _) (.cons (.refl _) (.cons (.refl _) (.cons (.refl _) (.cons (.us 0 I) (.rest _))))))))) (.rest _)))))))))) ?_))))
 refine mG [4] I (A5 4 a.1 0 I I I (Ae ag) I I I I (As I) I (Ca (x := (⟨a.2.Name, e.2.2.2.2.2.2.2.1, a.2.To, e.2.2.2.2.2.2.2.2.1, e.2.2.2.2.2.2.2.2.2.1, e.2.2.2.2.2.2.2.2.2.2.1, e.2.2.2.2.2.2.2.2.2.2.2⟩ : Sg)) I) (mF (mK (mE (Al 1 [.o 0 1] I J1 (mG [2] I (Ba 2 0 0 [[.v M, .v k, .v w, .v O, .V e.2.2.2.2.2.1, .V e.2.2.2.2.2.2.1]] I (mF (mM (Be [3, 4, 5, 6] (K := [U2 M e.2.2.1, .us k 93 7 ((H.set a.1 (⟨a.2.Name, e.2.2.2.2.2.2.2.1, a.2.To, e.2.2.2.2.2.2.2.2.1, e.2.2.2.2.2.2.2.2.2.1, e.2.2.2.2.2.2.2.2.2.2.1, e.2.2.2.2.2.2.2.2.2.2.2⟩ : Sg)).map Ap), U6 w e.2.2.2.1, U7 O e.2.2.2.2.1]) I [] J (ob' := [O2 g [[Q0 e.1, .V e.2.1]], O0 D [[.v M, .v k, .v w, .v O, .V e.2.2.2.2.2.1, .V e.2.2.2.2.2.2.1]], O0 E [[Q1 e.2.2.1, .list 7 ((H.set a.1 (⟨a.2.Name, e.2.2.2.2.2.2.2.1, a.2.To, e.2.2.2.2.2.2.2.2.1, e.2.2.2.2.2.2.2.2.2.1, e.2.2.2.2.2.2.2.2.2.2.1, e.2.2.2.2.2.2.2.2.2.2.2⟩ : Sg)).map Ap), Q3 e.2.2.2.1, Q2 e.2.2.2.2.1, .V e.2.2.2.2.2.1, .V e.2.2.2.2.2.2.1]], O5 X [[.v (.string a.2.Name), .V e.2.2.2.2.2.2.2.1, .V a.2.To, .V e.2.2.2.2.2.2.2.2.1, .V e.2.2.2.2.2.2.2.2.2.1, .V e.2.2.2.2.2.2.2.2.2.2.1, Q8 e.2.2.2.2.2.2.2.2.2.2.2]]]) (.cons (.same _) (.cons (.same _) (.cons (.arr (.cons (.us 0 I) (.cons (.us 1 I) (.cons (.us 2 I) (.cons (.us 3 I) (.rest _)))))) (.rest _))))) ?_)))))))))
 refine Dd [0, 2] I ?_
 obtain rfl := oi h
 exact mL ⟨.inr I, [_], [O2 g [[Q0 e.1, .V e.2.1]]], ⟨⟨1, _, _, _, _, _, _, _, I5⟩, J⟩, Dj I (Cm), ⟨[O2 g [[Q0 e.1, .V e.2.1]]], [], I5⟩⟩
theorem aS (f : Nat) (Q : KS) (R : Plan) (r : Plan × KS) (h : Oo Q R = some r) : ACalls Ak 20 [.P f, .agg (Au R)] [O2 f [Bx Q]] (Gm 1 fun x os new => x = .agg (Au r.1) ∧ os = [O2 f [Bx r.2]] ∧ new = []) := by
 refine Ag Tryz.func20 I I I fun C hC => ?_
 unfold Oo at h
 refine Aa fun y1 ak => mE (mG [] I (Bz (Au R) 3 fun S => mG [] I (Br W0 3 fun U => mF ?_)))
 subst ak
 refine Ah (fun s ob => ∃ (g : Li × Li × (List Bool)) (u : Value) (w : Value) (A : Value), Oo.J1 Q g = some r ∧ s = [] ∧ ob = [O2 f [Bx Q], O1 S [[.v u, .v w, .v A]], O1 U [W0], U0 u g.1, U0 w g.2.1, U1 A g.2.2]) (K3 0 3 4) J3 ?_ ?_
 obtain ⟨Z, al, h⟩ := Ab h
 obtain ⟨aa, am, h⟩ := Ab h
 obtain ⟨ab, an, h⟩ := Ab h
 refine Bm (.still 1 (.still 2 (.still 5 (.still 6 (.still 9 (.still 10 (.par [(0, []), (3, [0]), (4, []), (7, [4]), (8, []), (11, [8])] (.still 12 (.drop 13 .nil))))))))) [1] [_] I (Bo 6 [.o 1 0, .o 3 0, .o 5 0] I J3 (AP.any [⟨0, [], 5, .lt 3 1⟩, ⟨3, [0], 8, .ap 0 3 1 (Z.map rI)⟩, ⟨4, [], 9, .lt 3 1⟩, ⟨7, [4], 12, .ap 4 3 1 (aa.map rI)⟩, ⟨8, [], 13, .lt 4 1⟩, ⟨11, [8], 16, .ap 8 4 1 (ab.map rB)⟩] I ⟨⟨_, I, I, I, fun _ => mS (sz := 1) (es := ([] : Li).map rI) I I I I I I I I I I I dS fun v => ⟨_, I, ⟨v, I⟩, I⟩⟩, ⟨_, I, I, I, fun _ _ _ => mT (la := []) (fr := rI) 0 I al fun v => ⟨v, I2⟩⟩, ⟨_, I, I, I, fun _ => mS (sz := 1) (es := ([] : Li).map rI) I I I I I I I I I I I dS fun v => ⟨_, I, ⟨v, I⟩, I⟩⟩, ⟨_, I, I, I, fun _ _ _ => mT (la := []) (fr := rI) 0 I am fun v => ⟨v, I2⟩⟩, ⟨_, I, I, I, fun _ => mS (sz := 1) (es := ([] : List Bool).map rB) I I I I I I I I I I I dS fun v => ⟨_, I, ⟨v, I⟩, I⟩⟩, ⟨_, I, I, I, fun _ _ _ => mT (la := []) (fr := rB) 0 I an fun v => ⟨v, I2⟩⟩, J⟩ ?_))
 intro _ _ W ac _ _ X ad _ _ Y ae
 exact mX 3 I fun ac => mX 4 I fun ad => mX 5 I fun ae => Jr I (Bi (l := [.v W, .v X, .v Y]) C3 (Ci I I (Bd ac) I (Ci I I (Bd ad) I (Ci I I (Bd ae) I (E6))))) I (mW [1] I I I (Ba 1 0 0 [[.v W, .v X, .v Y]] I (An (mF (lg ⟨(Z, aa, ab), W, X, Y, h, I2⟩ N6)))))
 rintro s ob ⟨g, u, w, A, h, rfl, rfl⟩
 unfold Oo.J1 at h
 refine Ah (fun s ob => ∃ (i : Li × Int × Li × Li × (List Bool)) (G : Value) (H : Value), Oo.J2 i = some r ∧ s = [] ∧ ob = [O2 f [[Q0 i.1, .V i.2.1]], O1 S [[.v u, .v G, .v H]], O1 U [W0], U0 u i.2.2.1, U0 G i.2.2.2.1, U1 H i.2.2.2.2]) (K2 3 4) J2 ?_ ?_
 refine Aa fun bb ao => ?_
 obtain ⟨M, aq, h⟩ := Ab h
 refine mE (Af 1 I (mG [0] I (Az [0] (Bu f _ _ _ aq) ?_)))
 refine mF ?_
 subst ao
 refine mJ (Ai I (Aq h I ?_ ?_))
 intro ar h
 obtain ⟨au, av, h⟩ := Ab h
 exact mE (Al 2 [.o 1 1] I J1 (mG [] I (mO 1 (([true] : List Bool).map rB) (mG [5] I (mT 5 I av fun af => Af 1 I (nD 5 I fun aw => mG [1] I (mP 1 0 2 (es' := [[.v u, .v w, .v af]]) I I I I I I (Bd aw) I (As I) I I (mF (lg ⟨(M.2.L_, M.2.At, g.1, g.2.1, au), w, af, h, I2⟩ N6)))))))))
 intro ar h
 refine Ai I (Aq h I ?_ ?_)
 intro ax h
 obtain ⟨ag, ay, h⟩ := Ab h
 obtain ⟨az, a0, h⟩ := Ab h
 refine Dn 4 I fun a1 => Bm (sl 7 0 (.act 7 (.act 8 (.still 9 (.drop 10 .nil))))) [1] [_] I (Bo 5 [.o 1 0, .o 4 0] I J2 (mU I (Dm I I I a1) I (A4 1 I (mH [0] I I I (Az [0] (Bu f _ _ _ ay) ?_)))))
 exact mH [4] I I I (Yi 4 I a0 fun ah => A4 1 I (mX 4 I fun a2 => mW [1] I I I (mP 1 0 1 (es' := [[.v u, .v ah, .v A]]) I I I I I I (Bd a2) I (As I) I I (An (mF (lg ⟨(ag.2.L_, ag.2.At, g.1, az, g.2.2), ah, A, h, I2⟩ N6))))))
 intro ax h
 refine Ai I (Aq h I ?_ ?_)
 intro a3 h
 refine Aa fun bc a4 => mE (Al 2 [.o 1 1] I J1 (mQ (Cf 4 I I I I) I (Af 1 I (mF ?_))))
 subst a4
 refine Aq h I ?_ ?_
 intro a5 h
 obtain ⟨bd, ai, h⟩ := Ab h
 obtain ⟨a, ⟨j, c⟩, h⟩ := Bb h
 obtain ⟨n, B, h⟩ := Ab h
 refine Dn 4 I fun a6 => Bq 4 a.1 I c fun O => Bq 4 a.1 I c fun D => Bm jI [1] [_] I (Bo 5 [.o 1 0, .o 4 0] I J2 (mU I (Dm I I I a6) I (A4 1 I (mV ?_ ?_))))
 refine mH [0] I I I (Az [0] (Bu f _ _ _ ai) ?_)
 refine mV ?_ ?_
 refine mH [] I I I (Av (mY (Ar (m := a.1) I I I I I O I j c)) dS (mV ?_ ?_))
 refine mH [] I I I (Av (Ay 4 a.1 0 I I I (Ae c) I (y := .V a.2) I) dS (mH [] I I I (mO 1 (([1, (-1), 1001, (-4611686018427387904)] : Li).map rI) (mH [0] I I I (Az [0] (Aj f _ _ _ B) ?_)))))
 refine A4 1 I (mH [] I I I (Av (mY (Ar (m := a.1) I I I I I D I j c)) dS (mH [4] I I I (A5 4 a.1 0 I I I (Ae c) I I I I (As I) I (Ca (x := wr (a.2 + n.1)) I) (An (mF ?_))))))
 rotate_left
 refine mH [] I I I (mO 1 (([1, (-1), 1001, (-4611686018427387904)] : Li).map rI) (mV ?_ ?_))
 refine mH [] I I I (Av (Ay 4 a.1 0 I I I (Ae c) I (y := .V a.2) I) dS (mH [0] I I I (Az [0] (Aj f _ _ _ B) ?_)))
 refine A4 1 I (mH [] I I I (Av (mY (Ar (m := a.1) I I I I I D I j c)) dS (mH [4] I I I (A5 4 a.1 0 I I I (Ae c) I I I I (As I) I (Ca (x := wr (a.2 + n.1)) I) (An (mF ?_))))))
 rotate_left
 refine mH [0] I I I (Az [0] (Aj f _ _ _ B) ?_)
 refine mH [] I I I (Av (Ay 4 a.1 0 I I I (Ae c) I (y := .V a.2) I) dS (A4 1 I (mH [] I I I (Av (mY (Ar (m := a.1) I I I I I D I j c)) dS (mH [4] I I I (A5 4 a.1 0 I I I (Ae c) I I I I (As I) I (Ca (x := wr (a.2 + n.1)) I) (An (mF ?_))))))))
 rotate_left
 refine mH [] I I I (mO 1 (([1, (-1), 1001, (-4611686018427387904)] : Li).map rI) (mV ?_ ?_))
 refine mH [] I I I (Av (mY (Ar (m := a.1) I I I I I O I j c)) dS (mV ?_ ?_))
 refine mH [] I I I (Av (Ay 4 a.1 0 I I I (Ae c) I (y := .V a.2) I) dS (mH [0] I I I (Az [0] (Aj f _ _ _ B) ?_)))
 refine A4 1 I (mH [] I I I (Av (mY (Ar (m := a.1) I I I I I D I j c)) dS (mH [4] I I I (A5 4 a.1 0 I I I (Ae c) I I I I (As I) I (Ca (x := wr (a.2 + n.1)) I) (An (mF ?_))))))
 rotate_left
 refine mH [0] I I I (Az [0] (Aj f _ _ _ B) ?_)
 refine mH [] I I I (Av (Ay 4 a.1 0 I I I (Ae c) I (y := .V a.2) I) dS (A4 1 I (mH [] I I I (Av (mY (Ar (m := a.1) I I I I I D I j c)) dS (mH [4] I I I (A5 4 a.1 0 I I I (Ae c) I I I I (As I) I (Ca (x := wr (a.2 + n.1)) I) (An (mF ?_))))))))
 rotate_left
 refine mH [0] I I I (Az [0] (Aj f _ _ _ B) ?_)
 refine mH [] I I I (Av (mY (Ar (m := a.1) I I I I I O I j c)) dS (mH [] I I I (Av (Ay 4 a.1 0 I I I (Ae c) I (y := .V a.2) I) dS (A4 1 I (mH [] I I I (Av (mY (Ar (m := a.1) I I I I I D I j c)) dS (mH [4] I I I (A5 4 a.1 0 I I I (Ae c) I I I I (As I) I (Ca (x := wr (a.2 + n.1)) I) (An (mF ?_))))))))))
 rotate_left
 refine mH [] I I I (mO 1 (([1, (-1), 1001, (-4611686018427387904)] : Li).map rI) (mH [0] I I I (Az [0] (Bu f _ _ _ ai) ?_)))
 refine mV ?_ ?_
 refine mH [] I I I (Av (mY (Ar (m := a.1) I I I I I O I j c)) dS (mV ?_ ?_))
 refine mH [] I I I (Av (Ay 4 a.1 0 I I I (Ae c) I (y := .V a.2) I) dS (mH [0] I I I (Az [0] (Aj f _ _ _ B) ?_)))
 refine A4 1 I (mH [] I I I (Av (mY (Ar (m := a.1) I I I I I D I j c)) dS (mH [4] I I I (A5 4 a.1 0 I I I (Ae c) I I I I (As I) I (Ca (x := wr (a.2 + n.1)) I) (An (mF ?_))))))
 rotate_left
 refine mH [0] I I I (Az [0] (Aj f _ _ _ B) ?_)
 refine mH [] I I I (Av (Ay 4 a.1 0 I I I (Ae c) I (y := .V a.2) I) dS (A4 1 I (mH [] I I I (Av (mY (Ar (m := a.1) I I I I I D I j c)) dS (mH [4] I I I (A5 4 a.1 0 I I I (Ae c) I I I I (As I) I (Ca (x := wr (a.2 + n.1)) I) (An (mF ?_))))))))
 rotate_left
 refine mH [0] I I I (Az [0] (Aj f _ _ _ B) ?_)
 refine mH [] I I I (Av (mY (Ar (m := a.1) I I I I I O I j c)) dS (mH [] I I I (Av (Ay 4 a.1 0 I I I (Ae c) I (y := .V a.2) I) dS (A4 1 I (mH [] I I I (Av (mY (Ar (m := a.1) I I I I I D I j c)) dS (mH [4] I I I (A5 4 a.1 0 I I I (Ae c) I I I I (As I) I (Ca (x := wr (a.2 + n.1)) I) (An (mF ?_))))))))))
 any_goals
  exact lg ⟨(n.2.L_, n.2.At, g.1, (g.2.1.set a.1 (wr (a.2 + n.1))), g.2.2), w, A, h, I2⟩ N6
 intro a5 h
 exact mI (lg ⟨(M.2.L_, M.2.At, g.1, g.2.1, g.2.2), w, A, h, I2⟩ N6)
 intro a3 h
 refine Aa fun be a7 => mE (Al 2 [.o 1 1] I J1 (mQ (Cf 3 I I I I) I (Af 1 I (mF ?_))))
 subst a7
 refine Aq h I ?_ ?_
 intro a8 h
 obtain ⟨bf, aj, h⟩ := Ab h
 obtain ⟨b, ⟨k, e⟩, h⟩ := Bb h
 obtain ⟨t, E, h⟩ := Ab h
 refine Dn 3 I fun a9 => Bq 3 b.1 I e fun P => Bq 3 b.1 I e fun F => Bm jI [1] [_] I (Bo 5 [.o 1 0, .o 4 0] I J2 (mU I (Dm I I I a9) I (A4 1 I (mV ?_ ?_))))
 refine mH [0] I I I (Az [0] (Bu f _ _ _ aj) ?_)
 refine mV ?_ ?_
 refine mH [] I I I (Av (mY (Ar (m := b.1) I I I I I P I k e)) dS (mV ?_ ?_))
 refine mH [] I I I (Av (Ay 3 b.1 0 I I I (Ae e) I (y := .V b.2) I) dS (mH [] I I I (mO 1 (([1, (-1), 5, 1001, 4611686018427387904, (-4611686018427387904)] : Li).map rI) (mH [0] I I I (Az [0] (Aj f _ _ _ E) ?_)))))
 refine A4 1 I (mH [] I I I (Av (mY (Ar (m := b.1) I I I I I F I k e)) dS (mH [3] I I I (A5 3 b.1 0 I I I (Ae e) I I I I (As I) I (Ca (x := wr (b.2 + t.1)) I) (An (mF ?_))))))
 rotate_left
 refine mH [] I I I (mO 1 (([1, (-1), 5, 1001, 4611686018427387904, (-4611686018427387904)] : Li).map rI) (mV ?_ ?_))
 refine mH [] I I I (Av (Ay 3 b.1 0 I I I (Ae e) I (y := .V b.2) I) dS (mH [0] I I I (Az [0] (Aj f _ _ _ E) ?_)))
 refine A4 1 I (mH [] I I I (Av (mY (Ar (m := b.1) I I I I I F I k e)) dS (mH [3] I I I (A5 3 b.1 0 I I I (Ae e) I I I I (As I) I (Ca (x := wr (b.2 + t.1)) I) (An (mF ?_))))))
 rotate_left
 refine mH [0] I I I (Az [0] (Aj f _ _ _ E) ?_)
 refine mH [] I I I (Av (Ay 3 b.1 0 I I I (Ae e) I (y := .V b.2) I) dS (A4 1 I (mH [] I I I (Av (mY (Ar (m := b.1) I I I I I F I k e)) dS (mH [3] I I I (A5 3 b.1 0 I I I (Ae e) I I I I (As I) I (Ca (x := wr (b.2 + t.1)) I) (An (mF ?_))))))))
 rotate_left
 refine mH [] I I I (mO 1 (([1, (-1), 5, 1001, 4611686018427387904, (-4611686018427387904)] : Li).map rI) (mV ?_ ?_))
 refine mH [] I I I (Av (mY (Ar (m := b.1) I I I I I P I k e)) dS (mV ?_ ?_))
 refine mH [] I I I (Av (Ay 3 b.1 0 I I I (Ae e) I (y := .V b.2) I) dS (mH [0] I I I (Az [0] (Aj f _ _ _ E) ?_)))
 refine A4 1 I (mH [] I I I (Av (mY (Ar (m := b.1) I I I I I F I k e)) dS (mH [3] I I I (A5 3 b.1 0 I I I (Ae e) I I I I (As I) I (Ca (x := wr (b.2 + t.1)) I) (An (mF ?_))))))
 rotate_left
 refine mH [0] I I I (Az [0] (Aj f _ _ _ E) ?_)
 refine mH [] I I I (Av (Ay 3 b.1 0 I I I (Ae e) I (y := .V b.2) I) dS (A4 1 I (mH [] I I I (Av (mY (Ar (m := b.1) I I I I I F I k e)) dS (mH [3] I I I (A5 3 b.1 0 I I I (Ae e) I I I I (As I) I (Ca (x := wr (b.2 + t.1)) I) (An (mF ?_))))))))
 rotate_left
 refine mH [0] I I I (Az [0] (Aj f _ _ _ E) ?_)
 refine mH [] I I I (Av (mY (Ar (m := b.1) I I I I I P I k e)) dS (mH [] I I I (Av (Ay 3 b.1 0 I I I (Ae e) I (y := .V b.2) I) dS (A4 1 I (mH [] I I I (Av (mY (Ar (m := b.1) I I I I I F I k e)) dS (mH [3] I I I (A5 3 b.1 0 I I I (Ae e) I I I I (As I) I (Ca (x := wr (b.2 + t.1)) I) (An (mF ?_))))))))))
 rotate_left
 refine mH [] I I I (mO 1 (([1, (-1), 5, 1001, 4611686018427387904, (-4611686018427387904)] : Li).map rI) (mH [0] I I I (Az [0] (Bu f _ _ _ aj) ?_)))
 refine mV ?_ ?_
 refine mH [] I I I (Av (mY (Ar (m := b.1) I I I I I P I k e)) dS (mV ?_ ?_))
 refine mH [] I I I (Av (Ay 3 b.1 0 I I I (Ae e) I (y := .V b.2) I) dS (mH [0] I I I (Az [0] (Aj f _ _ _ E) ?_)))
 refine A4 1 I (mH [] I I I (Av (mY (Ar (m := b.1) I I I I I F I k e)) dS (mH [3] I I I (A5 3 b.1 0 I I I (Ae e) I I I I (As I) I (Ca (x := wr (b.2 + t.1)) I) (An (mF ?_))))))
 rotate_left
 refine mH [0] I I I (Az [0] (Aj f _ _ _ E) ?_)
 refine mH [] I I I (Av (Ay 3 b.1 0 I I I (Ae e) I (y := .V b.2) I) dS (A4 1 I (mH [] I I I (Av (mY (Ar (m := b.1) I I I I I F I k e)) dS (mH [3] I I I (A5 3 b.1 0 I I I (Ae e) I I I I (As I) I (Ca (x := wr (b.2 + t.1)) I) (An (mF ?_))))))))
 rotate_left
 refine mH [0] I I I (Az [0] (Aj f _ _ _ E) ?_)
 refine mH [] I I I (Av (mY (Ar (m := b.1) I I I I I P I k e)) dS (mH [] I I I (Av (Ay 3 b.1 0 I I I (Ae e) I (y := .V b.2) I) dS (A4 1 I (mH [] I I I (Av (mY (Ar (m := b.1) I I I I I F I k e)) dS (mH [3] I I I (A5 3 b.1 0 I I I (Ae e) I I I I (As I) I (Ca (x := wr (b.2 + t.1)) I) (An (mF ?_))))))))))
 any_goals
  exact lg ⟨(t.2.L_, t.2.At, (g.1.set b.1 (wr (b.2 + t.1))), g.2.1, g.2.2), w, A, h, I2⟩ N6
 intro a8 h
 exact mI (lg ⟨(M.2.L_, M.2.At, g.1, g.2.1, g.2.2), w, A, h, I2⟩ N6)
 rintro s ob ⟨i, G, H, h, rfl, rfl⟩
 refine mK (mE (Al 1 [.o 0 1] I J1 (mG [2] I (Ba 2 0 0 [[.v u, .v G, .v H]] I (mF (mM (Be [3, 4, 5] (K := [U0 u i.2.2.1, U0 G i.2.2.2.1, U1 H i.2.2.2.2]) I [] J (ob' := [O2 f [[Q0 i.1, .V i.2.1]], O1 S [[.v u, .v G, .v H]], O1 U [[Q0 i.2.2.1, Q0 i.2.2.2.1, Q5 i.2.2.2.2]]]) (.cons (.same _) (.cons (.same _) (.cons (.arr (.cons (.us 0 I) (.cons (.us 1 I) (.cons (.us 2 I) (.rest _))))) (.rest _))))) (Dd [0, 2] I ?_)))))))
 obtain rfl := oi h
 exact mL ⟨.inr I, [_], [O2 f [[Q0 i.1, .V i.2.1]]], ⟨⟨1, _, _, _, _, _, _, _, I5⟩, J⟩, Dj I (Cm), ⟨[O2 f [[Q0 i.1, .V i.2.1]]], [], I5⟩⟩
theorem bE (a : Nat) (au : KS) (r : Nw × KS) (h : S9 au = some r) : ACalls Ak 9 [.P a] [O2 a [Bx au]] (Gm 1 fun x os new => x = .agg (Ac r.1) ∧ os = [O2 a [Bx r.2]] ∧ new = []) := by
 refine Ag Tryz.func9 I I I fun C hC => ?_
 refine Aa fun y1 a4 => mE (mG [] I (Br W2 6 fun A => mF ?_))
 subst a4
 refine Aa fun y3 a5 => ?_
 obtain ⟨f, a6, h⟩ := Ab h
 obtain ⟨g, a7, h⟩ := Ab h
 refine mE (Af 1 I (mG [] I (mO 1 (([(-100000), 0, 50000] : Li).map rI) (mG [0] I (Az [0] (Aj a _ _ _ a6) ?_)))))
 refine Af 1 I (mG [] I (mO 1 (([0, 1, 5, 100] : Li).map rI) (mG [0] I (Az [0] (Aj a _ _ _ a7) ?_))))
 refine B0 (Bi (l := [.N, .N, .N, .N, .V f.1, .V g.1]) Qc I) I (mG [] I (Br W2 6 fun B => mG [2] I (Ba 2 0 0 [[.N, .N, .N, .N, .V f.1, .V g.1]] I (mF ?_))))
 subst a5
 refine Ah (fun s ob => ∃ (k : Li × Int × (List Bt)) (e : Value), S9.J1 f g k = some r ∧ s = [] ∧ ob = [O2 a [[Q0 k.1, .V k.2.1]], O0 A [W2], O0 B [[.v e, .N, .N, .N, .V f.1, .V g.1]], U2 e k.2.2]) (K3 0 2 3) J3 ?_ ?_
 refine Aa fun cx a8 => ?_
 obtain ⟨an, a9, h⟩ := Ab h
 refine mE (Af 1 I (mG [0] I (Az [0] (Ey a _ _ _ _ a9) ?_)))
 refine Af 1 I (mF ?_)
 subst a8
 refine mJ (mM (A6 9 1) ?_)
 obtain ⟨cy, ba, bb⟩ := Ab h
 refine Bs ba (K3 0 2 3) J3 (fun (ad : (List Bt) × Int) s ob => ∃ (ae : Value), s = [(4, .V ad.2)] ∧ ob = [O2 a [Bx an.2], O0 A [W2], O0 B [[.v ae, .N, .N, .N, .V f.1, .V g.1]], U2 ae ad.1]) ⟨nS, I2⟩ ⟨I, J⟩ (pk N4) ?_
 rintro ad cz s ob ⟨ae, rfl, rfl⟩ h bc
 refine Aa fun c1 bd => Ai I (Aq h I ?_ ?_)
 intro be h
 refine mI ?_
 subst bd
 refine mK (mJ ?_)
 obtain ⟨bf, bg, h⟩ := Ab h
 obtain ⟨c2, bh, h⟩ := Ab h
 refine Dn 3 I fun bi => Bm (sl 5 0 (.act 5 (.act 6 (.act 7 (.still 8 (.drop 9 .nil)))))) [2] [_] I (Bo 4 [.o 1 0, .o 3 0] I J2 (mU I (Dm I I I bi) I (nC I (Co _ _ _ bg) (mH [] I I I (mO 1 (([bf] : List Bt).map rS) (mH [3] I I I (mT 3 I bh fun av => A4 1 I (mX 3 I fun bj => mW [2] I I I (mP 2 0 0 (es' := [[.v av, .N, .N, .N, .V f.1, .V g.1]]) I I I I I I (Bd bj) I (As I) I I (An (mF (mE ?_))))))))))))
 refine Af 3 I ?_
 cases io h
 exact mF ⟨_, _, _, I, ⟨av, I2⟩, J4, pk N4⟩
 intro be h
 obtain rfl := bc _ (oi h).symm
 have h := bb
 exact mN (lg ⟨(an.2.L_, an.2.At, ad.1), ae, h, I2⟩ N4)
 rintro s ob ⟨k, e, h, rfl, rfl⟩
 unfold S9.J1 at h
 refine Aa fun c3 bk => mE (Al 2 [.o 1 2] I J1 (mQ (Cf 3 I I I I) I (Af 2 I (mF ?_))))
 subst bk
 refine Ah (fun s ob => ∃ (Z : Li × Int × (List Sg)) (af : Value), S9.J2 f g k Z = some r ∧ s = [] ∧ ob = [O2 a [[Q0 Z.1, .V Z.2.1]], O0 A [W2], O0 B [[.v e, .v af, .N, .N, .V f.1, .V g.1]], U2 e k.2.2, U5 af Z.2.2]) (K4 0 2 3 5) J4 ?_ ?_
 refine Ai I (mJ (mM (A6 93 7) ?_))
 obtain ⟨c4, bl, bm⟩ := Ab h
 refine Bs bl (K4 0 2 3 5) J4 (fun (F : Li × Int × (List Sg) × Int) s ob => ∃ (ag : Value), s = [(6, .V F.2.2.2)] ∧ ob = [O2 a [[Q0 F.1, .V F.2.1]], O0 A [W2], O0 B [[.v e, .v ag, .N, .N, .V f.1, .V g.1]], U2 e k.2.2, U5 ag F.2.2.1]) ⟨nS, I2⟩ ⟨I, J⟩ (pk N5) ?_
 rintro F c5 s ob ⟨ag, rfl, rfl⟩ h bn
 refine Aa fun c6 bo => Ai I (Aq h I ?_ ?_)
 intro bp h
 refine mI ?_
 subst bo
 refine mK (mJ ?_)
 obtain ⟨bq, br, h⟩ := Ab h
 obtain ⟨c7, bs, h⟩ := Ab h
 refine Dn 4 I fun bu => Bm (sl 9 0 (.act 9 (.act 10 (.act 11 (.still 12 (.drop 13 .nil)))))) [2] [_] I (Bo 5 [.o 1 0, .o 4 0] I J2 (mU I (Dm I I I bu) I (A4 3 I (mH [0] I I I (Az [0] (R6 a _ _ _ _ _ br) ?_)))))
 refine mH [] I I I (mO 7 (([bq.1] : List Sg).map Ap) (mH [4] I I I (mT 4 I bs fun aw => A4 1 I (mX 4 I fun bv => mW [2] I I I (mP 2 0 1 (es' := [[.v e, .v aw, .N, .N, .V f.1, .V g.1]]) I I I I I I (Bd bv) I (As I) I I (An (mF (mE (Af 3 I ?_)))))))))
 cases io h
 exact mF ⟨_, _, _, I, ⟨aw, I2⟩, J5, pk N5⟩
 intro bp h
 obtain rfl := bn _ (oi h).symm
 have h := bm
 exact mN (lg ⟨(F.1, F.2.1, F.2.2.1), ag, h, I2⟩ N5)
 rintro s ob ⟨Z, af, h, rfl, rfl⟩
 unfold S9.J2 at h
 refine Ah (fun s ob => ∃ (y : Li × Int × (List Sg)) (t : Value), S9.J3 f g k y = some r ∧ s = [] ∧ ob = [O2 a [[Q0 y.1, .V y.2.1]], O0 A [W2], O0 B [[.v e, .v t, .N, .N, .V f.1, .V g.1]], U2 e k.2.2, U5 t y.2.2]) (K4 0 2 3 5) J4 ?_ ?_
 refine Aa fun c8 bw => ?_
 obtain ⟨c9, bx, h⟩ := Ab h
 refine mE (Af 1 I (mG [0] I (Az [0] (Bu a _ _ _ bx) ?_)))
 refine Af 1 I (mF ?_)
 subst bw
 refine mJ ?_
 obtain ⟨da, bz, b1⟩ := Ab h
 refine Bs bz (K4 0 2 3 5) J4 (fun (G : Li × Int × (List Sg) × Int) s ob => ∃ (ah : Value), s = [(7, .V G.2.2.2)] ∧ ob = [O2 a [[Q0 G.1, .V G.2.1]], O0 A [W2], O0 B [[.v e, .v ah, .N, .N, .V f.1, .V g.1]], U2 e k.2.2, U5 ah G.2.2.1]) ⟨af, I2⟩ ⟨I, J⟩ (pk N5) ?_
 rintro G db s ob ⟨ah, rfl, rfl⟩ h b3
 refine Aa fun dc b4 => Ai I (Aq h I ?_ ?_)
 intro b5 h
 refine mI ?_
 subst b4
 refine mK (mJ (Aa fun dd b6 => ?_))
 obtain ⟨de, b7, h⟩ := Ab h
 refine mE (Af 2 I (mG [0] I (Az [0] (Bu a _ _ _ b7) ?_)))
 refine Af 1 I (mF ?_)
 subst b6
 obtain ⟨df, b8, h⟩ := Ab h
 obtain ⟨b9, ca, h⟩ := Ab h
 obtain ⟨dg, cb, h⟩ := Ab h
 refine Dn 4 I fun cc => Bm (sl 11 0 (.act 11 (.act 12 (.act 13 (.act 14 (.still 15 (.drop 16 .nil))))))) [2] [_] I (Bo 5 [.o 1 0, .o 4 0] I J2 (mU I (Dm I I I cc) I (A4 5 I (mH [0] I I I (Az [0] (Ey a _ _ _ _ b8) ?_)))))
 refine mH [0] I I I (Az [0] (R6 a _ _ _ _ _ ca) ?_)
 refine mH [] I I I (mO 7 (([b9.1] : List Sg).map Ap) (mH [4] I I I (mT 4 I cb fun ax => A4 1 I (mX 4 I fun cd => mW [2] I I I (mP 2 0 1 (es' := [[.v e, .v ax, .N, .N, .V f.1, .V g.1]]) I I I I I I (Bd cd) I (As I) I I (An (mF (mE (Af 3 I ?_)))))))))
 cases io h
 exact mF ⟨_, _, _, I, ⟨ax, I2⟩, J5, pk N5⟩
 intro b5 h
 obtain rfl := b3 _ (oi h).symm
 have h := b1
 exact mN (lg ⟨(G.1, G.2.1, G.2.2.1), ah, h, I2⟩ N5)
 rintro s ob ⟨y, t, h, rfl, rfl⟩
 unfold S9.J3 at h
 refine Ah (fun s ob => ∃ (u : Li × Int × (List Port) × (List Sn)) (R : Value) (S : Value), S9.J4 f g k y u = some r ∧ s = [] ∧ ob = [O2 a [[Q0 u.1, .V u.2.1]], O0 A [W2], O0 B [[.v e, .v t, .v R, .v S, .V f.1, .V g.1]], U2 e k.2.2, U5 t y.2.2, U6 R u.2.2.1, U7 S u.2.2.2]) (K2 2 3) J2 ?_ ?_
 refine Ai I (mJ (mM (A6 95 3) (mM (A6 102 5) ?_)))
 obtain ⟨dh, ce, cf⟩ := Ab h
 refine Bs ce (K4 0 2 3 5) J4 (fun (b : Li × Int × (List Port) × (List Sn) × Int) s ob => ∃ (O : Value) (D : Value), s = [(9, .V b.2.2.2.2)] ∧ ob = [O2 a [[Q0 b.1, .V b.2.1]], O0 A [W2], O0 B [[.v e, .v t, .v O, .v D, .V f.1, .V g.1]], U2 e k.2.2, U5 t y.2.2, U6 O b.2.2.1, U7 D b.2.2.2.1]) ⟨nS, nS, I2⟩ ⟨I, J⟩ (pk N7) ?_
 rintro b ai s ob ⟨O, D, rfl, rfl⟩ h ci
 refine Aa fun di cj => Ai I (Aq h I ?_ ?_)
 intro ck h
 refine mI ?_
 subst cj
 refine Ah (fun s ob => ∃ (U : Li × Int × (List Port) × (List Sn)) (aj : Value) (ak : Value), S9.J6 b U = some ai ∧ s = [] ∧ ob = [O2 a [[Q0 U.1, .V U.2.1]], O0 A [W2], O0 B [[.v e, .v t, .v aj, .v ak, .V f.1, .V g.1]], U2 e k.2.2, U5 t y.2.2, U6 aj U.2.2.1, U7 ak U.2.2.2]) (K5 0 2 3 5 9) J5 ?_ ?_
 refine mJ (Ah (fun s ob => ∃ (E : Li × Int × (List Port)) (H : Value), S9.J7 k b E = some ai ∧ s = [] ∧ ob = [O2 a [[Q0 E.1, .V E.2.1]], O0 A [W2], O0 B [[.v e, .v t, .v H, .v D, .V f.1, .V g.1]], U2 e k.2.2, U5 t y.2.2, U6 H E.2.2, U7 D b.2.2.2.1]) (K5 0 2 3 5 9) J5 ?_ ?_)
 refine Ah (fun s ob => ∃ (P : Li × Int × Bool), S9.J9 k b P = some ai ∧ s = [(95, .v (.bool P.2.2))] ∧ ob = [O2 a [[Q0 P.1, .V P.2.1]], O0 A [W2], O0 B [[.v e, .v t, .v O, .v D, .V f.1, .V g.1]], U2 e k.2.2, U5 t y.2.2, U6 O b.2.2.1, U7 D b.2.2.2.1]) (K5 0 2 3 5 9) J5 ?_ ?_
 rcases bt ((b.2.2.2.2 == 0)) with W | W
 have h := Bv W h
 exact mE (Af 3 I (Ad 86 I W (Af 9 I (mF (lg ⟨(b.1, b.2.1, true), h, I2⟩ N7)))))
 have h := Bw W h
 rcases bt ((b.2.2.2.2 == (wr ((k.2.2.length : Int) - 1)))) with aa | aa
 have h := Bv aa h
 exact mE (Af 3 I (Ad 86 I W (Af 5 I (Ad 91 I aa (Af 4 I (mF (lg ⟨(b.1, b.2.1, true), h, I2⟩ N7)))))))
 have h := Bw aa h
 obtain ⟨ao, cl, h⟩ := Ab h
 refine mE (Af 3 I (Ad 86 I W (Af 5 I (Ad 91 I aa (Af 1 I (Bc I I I (mG [0] I (Az [0] (Bu a _ _ _ cl) ?_))))))))
 exact Af 2 I (mF (lg ⟨(ao.2.L_, ao.2.At, (ao.1 == 0)), h, I2⟩ N7))
 rintro s ob ⟨P, h, rfl, rfl⟩
 refine Aq h I ?_ ?_
 intro cm h
 obtain ⟨al, ay, h⟩ := Ab h
 obtain ⟨M, az, h⟩ := Ab h
 obtain ⟨a0, a1, h⟩ := Ab h
 refine Dn 5 I fun cn => Bm (sl 5 0 (.still 6 (.still 7 (.two 5 8 (.act 8 jD) (.act 5 jD))))) [2] [_] I (Bo 4 [.o 1 0, .o 3 0] I J2 (mU I (Dm I I I cn) I (A4 2 I (mV ?_ ?_))))
 refine nC I (Co _ _ _ ay) (mH [] I I I (mO 1 (([300000, 1000000, 0, 5000000] : Li).map rI) (mH [0] I I I (Az [0] (Aj a _ _ _ az) ?_))))
 exact Jr I (Bi (l := [.v (.string al), .V b.2.2.2.2, .V M.1]) Fe I) I (mH [] I I I (mO 3 (([(⟨al, b.2.2.2.2, M.1⟩ : Port)] : List Port).map Bp) (mH [5] I I I (mT 5 I a1 fun ab => A4 1 I (mX 5 I fun aq => mW [2] I I I (mP 2 0 2 (es' := [[.v e, .v t, .v ab, .v D, .V f.1, .V g.1]]) I I I I I I (Bd aq) I (As I) I I (An (mF (lg ⟨(M.2.L_, M.2.At, a0), ab, h, I2⟩ N7)))))))))
 refine mH [] I I I (mO 1 (([300000, 1000000, 0, 5000000] : Li).map rI) (nC I (Co _ _ _ ay) (mH [0] I I I (Az [0] (Aj a _ _ _ az) ?_))))
 exact Jr I (Bi (l := [.v (.string al), .V b.2.2.2.2, .V M.1]) Fe I) I (mH [] I I I (mO 3 (([(⟨al, b.2.2.2.2, M.1⟩ : Port)] : List Port).map Bp) (mH [5] I I I (mT 5 I a1 fun ab => A4 1 I (mX 5 I fun aq => mW [2] I I I (mP 2 0 2 (es' := [[.v e, .v t, .v ab, .v D, .V f.1, .V g.1]]) I I I I I I (Bd aq) I (As I) I I (An (mF (lg ⟨(M.2.L_, M.2.At, a0), ab, h, I2⟩ N7)))))))))
 intro cm h
 exact mI (lg ⟨(P.1, P.2.1, b.2.2.1), O, h, I2⟩ N7)
 rintro s ob ⟨E, H, h, rfl, rfl⟩
 unfold S9.J7 at h
 refine Ah (fun s ob => ∃ (Q : Li × Int × Bool), S9.J8 b E Q = some ai ∧ s = [(117, .v (.bool Q.2.2))] ∧ ob = [O2 a [[Q0 Q.1, .V Q.2.1]], O0 A [W2], O0 B [[.v e, .v t, .v H, .v D, .V f.1, .V g.1]], U2 e k.2.2, U5 t y.2.2, U6 H E.2.2, U7 D b.2.2.2.1]) (K5 0 2 3 5 9) J5 ?_ ?_
 rcases bt (decide (b.2.2.2.2 < (wr ((k.2.2.length : Int) - 1)))) with ac | ac
 have h := Bv ac h
 obtain ⟨ar, co, h⟩ := Ab h
 refine mE (Af 4 I (Ad 113 I ac (Af 1 I (Bc I I I (mG [0] I (Az [0] (Bu a _ _ _ co) ?_))))))
 exact Af 2 I (mF (lg ⟨(ar.2.L_, ar.2.At, (ar.1 == 0)), h, I2⟩ N7))
 have h := Bw ac h
 exact mE (Af 4 I (Ad 113 I ac (Af 4 I (mF (lg ⟨(E.1, E.2.1, false), h, I2⟩ N7)))))
 rintro s ob ⟨Q, h, rfl, rfl⟩
 refine Aq h I ?_ ?_
 intro cp h
 obtain ⟨a2, w, h⟩ := Ab h
 obtain ⟨X, n, h⟩ := Ab h
 obtain ⟨Y, i, h⟩ := Ab h
 obtain ⟨am, j, h⟩ := Ab h
 obtain ⟨cq, cr, h⟩ := Ab h
 refine Dn 6 I fun ct => Bm (sl 5 0 (.still 6 (.still 7 (.still 10 (.still 13 (.four 5 8 11 14 (.parS [(8, []), (9, [8]), (11, []), (12, [8, 9, 11]), (14, [])] [[], [8], [11], [14], [8, 9], [8, 11], [8, 14], [11, 14], [8, 9, 11], [8, 9, 14], [8, 11, 14], [8, 9, 11, 12], [8, 9, 11, 14], [8, 9, 11, 12, 14]] Qx) (.three 5 11 14 (.parS [(9, []), (11, []), (12, [9, 11]), (14, [])] [[], [9], [11], [14], [9, 11], [9, 14], [11, 14], [9, 11, 12], [9, 11, 14], [9, 11, 12, 14]] Qx) (.two 5 14 cN Qv) (.two 5 11 cK Qv)) (.three 5 8 14 (.two 8 14 cN (.act 8 Ni)) (.two 5 14 cN Qv) (.two 5 8 (.act 8 Ni) Qv)) (.three 5 8 11 (.two 8 11 cK (.act 8 Ni)) (.two 5 11 cK Qv) (.two 5 8 (.act 8 Ni) Qv)))))))) [2] [_] I ?_
 refine Bo 4 [.o 1 0, .o 3 0] I J2 (mU I (Dm I I I ct) I (A4 4 I (AP.four ?_ ?_ ?_ ?_)))
 refine nC I (Co _ _ _ w) (Td [⟨8, [], 126, .list 1 (([500000, 2000000, 0] : Li).map rI), [], []⟩, ⟨9, [8], 127, .V X.1, [0], [O2 a [Bx X.2]]⟩, ⟨11, [], 129, .list 1 (([0, 200, 100000] : Li).map rI), [], []⟩, ⟨12, [8, 9, 11], 130, .V Y.1, [0], [O2 a [Bx Y.2]]⟩, ⟨14, [], 132, .list 1 (([0, 100000, 400000] : Li).map rI), [], []⟩] I ⟨⟨_, I, I, I, fun _ _ => mO 1 (([500000, 2000000, 0] : Li).map rI) I2⟩, ⟨_, I, I, I, fun _ h => by cases h; exact Dp [0] (Aj a _ _ _ n) (by rintro _ _ _ - ⟨rfl, rfl, rfl⟩; exact ⟨rfl, rfl⟩)⟩, ⟨_, I, I, I, fun _ _ => mO 1 (([0, 200, 100000] : Li).map rI) I2⟩, ⟨_, I, I, I, fun _ h => by cases h; exact Dp [0] (Aj a _ _ _ i) (by rintro _ _ _ - ⟨rfl, rfl, rfl⟩; exact ⟨rfl, rfl⟩)⟩, ⟨_, I, I, I, fun _ _ => mO 1 (([0, 100000, 400000] : Li).map rI) I2⟩, J⟩ (mH [0] I I I (Az [0] (Aj a _ _ _ j) ?_)))
 rotate_left
 refine mH [] I I I (mO 1 (([500000, 2000000, 0] : Li).map rI) (AP.three ?_ ?_ ?_))
 refine nC I (Co _ _ _ w) (Td [⟨9, [], 127, .V X.1, [0], [O2 a [Bx X.2]]⟩, ⟨11, [], 129, .list 1 (([0, 200, 100000] : Li).map rI), [], []⟩, ⟨12, [9, 11], 130, .V Y.1, [0], [O2 a [Bx Y.2]]⟩, ⟨14, [], 132, .list 1 (([0, 100000, 400000] : Li).map rI), [], []⟩] I ⟨⟨_, I, I, I, fun _ h => by cases h; exact Dp [0] (Aj a _ _ _ n) (by rintro _ _ _ - ⟨rfl, rfl, rfl⟩; exact ⟨rfl, rfl⟩)⟩, ⟨_, I, I, I, fun _ _ => mO 1 (([0, 200, 100000] : Li).map rI) I2⟩, ⟨_, I, I, I, fun _ h => by cases h; exact Dp [0] (Aj a _ _ _ i) (by rintro _ _ _ - ⟨rfl, rfl, rfl⟩; exact ⟨rfl, rfl⟩)⟩, ⟨_, I, I, I, fun _ _ => mO 1 (([0, 100000, 400000] : Li).map rI) I2⟩, J⟩ (mH [0] I I I (Az [0] (Aj a _ _ _ j) ?_)))
 rotate_left
 refine mH [] I I I (mO 1 (([0, 200, 100000] : Li).map rI) (mV ?_ ?_))
 refine nC I (Co _ _ _ w) (mV ?_ ?_)
 refine mH [0] I I I (Az [0] (Aj a _ _ _ n) ?_)
 refine mV ?_ ?_
 refine mH [0] I I I (Az [0] (Aj a _ _ _ i) ?_)
 refine mH [] I I I (mO 1 (([0, 100000, 400000] : Li).map rI) (mH [0] I I I (Az [0] (Aj a _ _ _ j) ?_)))
 rotate_left
 refine mH [] I I I (mO 1 (([0, 100000, 400000] : Li).map rI) (mH [0] I I I (Az [0] (Aj a _ _ _ i) ?_)))
 refine mH [0] I I I (Az [0] (Aj a _ _ _ j) ?_)
 rotate_left
 refine mH [] I I I (mO 1 (([0, 100000, 400000] : Li).map rI) (mH [0] I I I (Az [0] (Aj a _ _ _ n) ?_)))
 refine mH [0] I I I (Az [0] (Aj a _ _ _ i) ?_)
 refine mH [0] I I I (Az [0] (Aj a _ _ _ j) ?_)
 rotate_left
 refine mH [] I I I (mO 1 (([0, 100000, 400000] : Li).map rI) (nC I (Co _ _ _ w) (mH [0] I I I (Az [0] (Aj a _ _ _ n) ?_))))
 refine mH [0] I I I (Az [0] (Aj a _ _ _ i) ?_)
 refine mH [0] I I I (Az [0] (Aj a _ _ _ j) ?_)
 rotate_left
 refine mH [] I I I (mO 1 (([0, 100000, 400000] : Li).map rI) (mV ?_ ?_))
 refine nC I (Co _ _ _ w) (mV ?_ ?_)
 refine mH [0] I I I (Az [0] (Aj a _ _ _ n) ?_)
 refine mH [] I I I (mO 1 (([0, 200, 100000] : Li).map rI) (mH [0] I I I (Az [0] (Aj a _ _ _ i) ?_)))
 refine mH [0] I I I (Az [0] (Aj a _ _ _ j) ?_)
 rotate_left
 refine mH [] I I I (mO 1 (([0, 200, 100000] : Li).map rI) (mH [0] I I I (Az [0] (Aj a _ _ _ n) ?_)))
 refine mH [0] I I I (Az [0] (Aj a _ _ _ i) ?_)
 refine mH [0] I I I (Az [0] (Aj a _ _ _ j) ?_)
 rotate_left
 refine mH [] I I I (mO 1 (([0, 200, 100000] : Li).map rI) (nC I (Co _ _ _ w) (mH [0] I I I (Az [0] (Aj a _ _ _ n) ?_))))
 refine mH [0] I I I (Az [0] (Aj a _ _ _ i) ?_)
 refine mH [0] I I I (Az [0] (Aj a _ _ _ j) ?_)
 rotate_left
 refine mH [] I I I (mO 1 (([0, 200, 100000] : Li).map rI) (AP.three ?_ ?_ ?_))
 refine nC I (Co _ _ _ w) (mV ?_ ?_)
 refine mH [] I I I (mO 1 (([500000, 2000000, 0] : Li).map rI) (mV ?_ ?_))
 refine mH [0] I I I (Az [0] (Aj a _ _ _ n) ?_)
 refine mV ?_ ?_
 refine mH [0] I I I (Az [0] (Aj a _ _ _ i) ?_)
 refine mH [] I I I (mO 1 (([0, 100000, 400000] : Li).map rI) (mH [0] I I I (Az [0] (Aj a _ _ _ j) ?_)))
 rotate_left
 refine mH [] I I I (mO 1 (([0, 100000, 400000] : Li).map rI) (mH [0] I I I (Az [0] (Aj a _ _ _ i) ?_)))
 refine mH [0] I I I (Az [0] (Aj a _ _ _ j) ?_)
 rotate_left
 refine mH [] I I I (mO 1 (([0, 100000, 400000] : Li).map rI) (mH [0] I I I (Az [0] (Aj a _ _ _ n) ?_)))
 refine mH [0] I I I (Az [0] (Aj a _ _ _ i) ?_)
 refine mH [0] I I I (Az [0] (Aj a _ _ _ j) ?_)
 rotate_left
 refine mH [] I I I (mO 1 (([0, 100000, 400000] : Li).map rI) (mH [] I I I (mO 1 (([500000, 2000000, 0] : Li).map rI) (mH [0] I I I (Az [0] (Aj a _ _ _ n) ?_)))))
 refine mH [0] I I I (Az [0] (Aj a _ _ _ i) ?_)
 refine mH [0] I I I (Az [0] (Aj a _ _ _ j) ?_)
 rotate_left
 refine mH [] I I I (mO 1 (([500000, 2000000, 0] : Li).map rI) (mV ?_ ?_))
 refine nC I (Co _ _ _ w) (mV ?_ ?_)
 refine mH [0] I I I (Az [0] (Aj a _ _ _ n) ?_)
 refine mV ?_ ?_
 refine mH [0] I I I (Az [0] (Aj a _ _ _ i) ?_)
 refine mH [] I I I (mO 1 (([0, 100000, 400000] : Li).map rI) (mH [0] I I I (Az [0] (Aj a _ _ _ j) ?_)))
 rotate_left
 refine mH [] I I I (mO 1 (([0, 100000, 400000] : Li).map rI) (mH [0] I I I (Az [0] (Aj a _ _ _ i) ?_)))
 refine mH [0] I I I (Az [0] (Aj a _ _ _ j) ?_)
 rotate_left
 refine mH [] I I I (mO 1 (([0, 100000, 400000] : Li).map rI) (mH [0] I I I (Az [0] (Aj a _ _ _ n) ?_)))
 refine mH [0] I I I (Az [0] (Aj a _ _ _ i) ?_)
 refine mH [0] I I I (Az [0] (Aj a _ _ _ j) ?_)
 rotate_left
 refine mH [] I I I (mO 1 (([0, 100000, 400000] : Li).map rI) (nC I (Co _ _ _ w) (mH [0] I I I (Az [0] (Aj a _ _ _ n) ?_))))
 refine mH [0] I I I (Az [0] (Aj a _ _ _ i) ?_)
 refine mH [0] I I I (Az [0] (Aj a _ _ _ j) ?_)
 rotate_left
 refine mH [] I I I (mO 1 (([0, 100000, 400000] : Li).map rI) (mV ?_ ?_))
 refine nC I (Co _ _ _ w) (mH [] I I I (mO 1 (([500000, 2000000, 0] : Li).map rI) (mH [0] I I I (Az [0] (Aj a _ _ _ n) ?_))))
 refine mH [0] I I I (Az [0] (Aj a _ _ _ i) ?_)
 refine mH [0] I I I (Az [0] (Aj a _ _ _ j) ?_)
 rotate_left
 refine mH [] I I I (mO 1 (([500000, 2000000, 0] : Li).map rI) (nC I (Co _ _ _ w) (mH [0] I I I (Az [0] (Aj a _ _ _ n) ?_))))
 refine mH [0] I I I (Az [0] (Aj a _ _ _ i) ?_)
 refine mH [0] I I I (Az [0] (Aj a _ _ _ j) ?_)
 rotate_left
 refine mH [] I I I (mO 1 (([0, 100000, 400000] : Li).map rI) (AP.three ?_ ?_ ?_))
 refine nC I (Co _ _ _ w) (mV ?_ ?_)
 refine mH [] I I I (mO 1 (([500000, 2000000, 0] : Li).map rI) (mV ?_ ?_))
 refine mH [0] I I I (Az [0] (Aj a _ _ _ n) ?_)
 refine mH [] I I I (mO 1 (([0, 200, 100000] : Li).map rI) (mH [0] I I I (Az [0] (Aj a _ _ _ i) ?_)))
 refine mH [0] I I I (Az [0] (Aj a _ _ _ j) ?_)
 rotate_left
 refine mH [] I I I (mO 1 (([0, 200, 100000] : Li).map rI) (mH [0] I I I (Az [0] (Aj a _ _ _ n) ?_)))
 refine mH [0] I I I (Az [0] (Aj a _ _ _ i) ?_)
 refine mH [0] I I I (Az [0] (Aj a _ _ _ j) ?_)
 rotate_left
 refine mH [] I I I (mO 1 (([0, 200, 100000] : Li).map rI) (mH [] I I I (mO 1 (([500000, 2000000, 0] : Li).map rI) (mH [0] I I I (Az [0] (Aj a _ _ _ n) ?_)))))
 refine mH [0] I I I (Az [0] (Aj a _ _ _ i) ?_)
 refine mH [0] I I I (Az [0] (Aj a _ _ _ j) ?_)
 rotate_left
 refine mH [] I I I (mO 1 (([500000, 2000000, 0] : Li).map rI) (mV ?_ ?_))
 refine nC I (Co _ _ _ w) (mV ?_ ?_)
 refine mH [0] I I I (Az [0] (Aj a _ _ _ n) ?_)
 refine mH [] I I I (mO 1 (([0, 200, 100000] : Li).map rI) (mH [0] I I I (Az [0] (Aj a _ _ _ i) ?_)))
 refine mH [0] I I I (Az [0] (Aj a _ _ _ j) ?_)
 rotate_left
 refine mH [] I I I (mO 1 (([0, 200, 100000] : Li).map rI) (mH [0] I I I (Az [0] (Aj a _ _ _ n) ?_)))
 refine mH [0] I I I (Az [0] (Aj a _ _ _ i) ?_)
 refine mH [0] I I I (Az [0] (Aj a _ _ _ j) ?_)
 rotate_left
 refine mH [] I I I (mO 1 (([0, 200, 100000] : Li).map rI) (nC I (Co _ _ _ w) (mH [0] I I I (Az [0] (Aj a _ _ _ n) ?_))))
 refine mH [0] I I I (Az [0] (Aj a _ _ _ i) ?_)
 refine mH [0] I I I (Az [0] (Aj a _ _ _ j) ?_)
 rotate_left
 refine mH [] I I I (mO 1 (([0, 200, 100000] : Li).map rI) (mV ?_ ?_))
 refine nC I (Co _ _ _ w) (mH [] I I I (mO 1 (([500000, 2000000, 0] : Li).map rI) (mH [0] I I I (Az [0] (Aj a _ _ _ n) ?_))))
 refine mH [0] I I I (Az [0] (Aj a _ _ _ i) ?_)
 refine mH [0] I I I (Az [0] (Aj a _ _ _ j) ?_)
 rotate_left
 refine mH [] I I I (mO 1 (([500000, 2000000, 0] : Li).map rI) (nC I (Co _ _ _ w) (mH [0] I I I (Az [0] (Aj a _ _ _ n) ?_))))
 refine mH [0] I I I (Az [0] (Aj a _ _ _ i) ?_)
 refine mH [0] I I I (Az [0] (Aj a _ _ _ j) ?_)
 any_goals
  refine Jr I (Bi (l := [.v (.string a2), .V b.2.2.2.2, .V X.1, .V Y.1, .V am.1]) M3 I) I (mH [] I I I (mO 5 (([(⟨a2, b.2.2.2.2, X.1, Y.1, am.1⟩ : Sn)] : List Sn).map Bl) (mH [6] I I I (mT 6 I cr fun a3 => A4 1 I (mX 6 I fun cu => mW [2] I I I (mP 2 0 3 (es' := [[.v e, .v t, .v H, .v a3, .V f.1, .V g.1]]) I I I I I I (Bd cu) I (As I) I I (An (mF ?_))))))))
  exact lg ⟨(am.2.L_, am.2.At, E.2.2, cq), H, a3, h, I2⟩ N7
 intro cp h
 exact mI (lg ⟨(Q.1, Q.2.1, E.2.2, b.2.2.2.1), H, D, h, I2⟩ N7)
 rintro s ob ⟨U, aj, ak, h, rfl, rfl⟩
 unfold S9.J6 at h
 refine mE (Af 3 I ?_)
 cases io h
 exact mF ⟨_, _, _, I, ⟨aj, ak, I2⟩, J5, pk N7⟩
 intro ck h
 obtain rfl := ci _ (oi h).symm
 have h := cf
 exact mN (lg ⟨(b.1, b.2.1, b.2.2.1, b.2.2.2.1), O, D, h, I2⟩ N7)
 rintro s ob ⟨u, R, S, h, rfl, rfl⟩
 refine mK (mE (Al 1 [.o 0 2] I J1 (mG [1] I (Ba 1 0 0 [[.v e, .v t, .v R, .v S, .V f.1, .V g.1]] I (mF (mM (Be [3, 4, 5, 6] (K := [U2 e k.2.2, U5 t y.2.2, U6 R u.2.2.1, U7 S u.2.2.2]) I [] J (ob' := [O2 a [[Q0 u.1, .V u.2.1]], O0 A [[Q1 k.2.2, Q4 y.2.2, Q3 u.2.2.1, Q2 u.2.2.2, .V f.1, .V g.1]], O0 B [[.v e, .v t, .v R, .v S, .V f.1, .V g.1]]]) (.cons (.same _) (.cons (.arr (.cons (.us 0 I) (.cons (.us 1 I) (.cons (.us 2 I) (.cons (.us 3 I) (.rest _)))))) (.rest _)))) (Dd [0, 1] I ?_)))))))
 obtain rfl := oi h
 exact mL ⟨.inr I, [_], [O2 a [[Q0 u.1, .V u.2.1]]], ⟨⟨1, _, _, _, _, _, _, _, I5⟩, J⟩, Dj I (Cm), ⟨[O2 a [[Q0 u.1, .V u.2.1]]], [], I5⟩⟩
end Go.Proofs.YtihdchjpepkpbaaGreat
