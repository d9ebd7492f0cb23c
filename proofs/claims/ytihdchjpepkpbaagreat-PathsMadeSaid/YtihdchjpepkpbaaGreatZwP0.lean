/- Plain proofs. No condition. -/
import Derived.Test.YtihdchjpepkpbaaGreatZwD
import Derived.Test.YtihdchjpepkpbaaGreatZwB3
import Derived.Test.YtihdchjpepkpbaaGreatZwL1
import Derived.Test.YtihdchjpepkpbaaGreatZwL3
import Derived.Test.YtihdchjpepkpbaaGreatZwL4
import Derived.Test.YtihdchjpepkpbaaGreatZwL5
import Derived.Test.YtihdchjpepkpbaaGreatZwB2
set_option maxRecDepth 100000
namespace Go.Proofs.YtihdchjpepkpbaaGreat
open Go.Aw
set_option linter.unusedVariables false
set_option linter.unusedSimpArgs false
def Wb (u : Value) (p : Path) : List T := [.v (.int .i64 p.In), .v (.int .i64 p.Out), .v u, .v (.int .i64 p.Rate)]
def Dy (u : Value) : List Path → Nat → List (List T)
 | [], _ => []
 | p :: l, 0 => Wb u p :: l.map Am
 | p :: l, k + 1 => Am p :: Dy u l k
def E2 : List Path → Nat → List Hop
 | [], _ => []
 | p :: _, 0 => p.Hops
 | _ :: l, k + 1 => E2 l k
theorem Kd {u : Value} : ∀ {l : List Path} {k : Nat}, (Dy u l k).length = l.length
 | [], _ => rfl
 | p :: l, 0 => by simp [Dy]
 | p :: l, k + 1 => by simp [Dy, Kd (l := l)]
theorem Uq {u : Value} {p : Path} : ∀ {l : List Path} {k : Nat}, l.length ≠ k → Dy u (l ++ [p]) k = Dy u l k ++ [Am p] ∧ E2 (l ++ [p]) k = E2 l k
 | [], 0, h => absurd rfl h
 | [], k + 1, h => ⟨rfl, rfl⟩
 | q :: l, 0, h => by simp [Dy, E2]
 | q :: l, k + 1, h => by
  obtain ⟨G, M⟩ := Uq (u := u) (p := p) (l := l) (k := k) (by simpa using h)
  exact ⟨by simp [Dy, G], by simpa [E2] using M⟩
theorem Un {u w : Value} {p : Path} : ∀ {l : List Path} {k : Nat}, l.length = k → Dy u (l ++ [p]) k = Dy w l k ++ [Wb u p] ∧ E2 (l ++ [p]) k = p.Hops
 | [], 0, h => ⟨rfl, rfl⟩
 | [], k + 1, h => by cases h
 | q :: l, 0, h => by cases h
 | q :: l, k + 1, h => by
  obtain ⟨G, M⟩ := Un (u := u) (w := w) (p := p) (l := l) (k := k) (by simpa using h)
  exact ⟨by simp [Dy, G], by simpa [E2] using M⟩
theorem Uo {u : Value} {p : Path} : ∀ {l : List Path} {k : Nat}, l[k]? = some p → (Dy u l k)[k]? = some (Wb u p) ∧ E2 l k = p.Hops
 | [], _, h => by simp at h
 | q :: l, 0, h => by simp at h; subst h; exact ⟨rfl, rfl⟩
 | q :: l, k + 1, h => by
  obtain ⟨G, M⟩ := Uo (u := u) (l := l) (k := k) (by simpa using h)
  exact ⟨by simpa [Dy] using G, by simpa [E2] using M⟩
theorem Kc {u w : Value} {p q : Path} : ∀ {l : List Path} {k : Nat}, l[k]? = some p → (Dy u l k).set k (Wb w q) = Dy w (l.set k q) k ∧ E2 (l.set k q) k = q.Hops
 | [], _, h => by simp at h
 | x :: l, 0, h => ⟨rfl, rfl⟩
 | x :: l, k + 1, h => by
  obtain ⟨G, M⟩ := Kc (u := u) (w := w) (q := q) (l := l) (k := k) (by simpa using h)
  exact ⟨by simp [Dy, G], by simpa [E2] using M⟩
theorem Ra {u : Value} {p : Path} {hs : List Hop} : ∀ {l : List Path} {k : Nat}, l[k]? = some p → Dy u (l.set k ⟨p.In, p.Out, hs, p.Rate⟩) k = Dy u l k
 | [], _, h => by simp at h
 | x :: l, 0, h => by simp at h; subst h; rfl
 | x :: l, k + 1, h => by
  have := Ra (u := u) (hs := hs) (l := l) (k := k) (by simpa using h)
  simp [Dy, this]
theorem Up {u : Value} {m : List Path} : ∀ {l : List Path} {k : Nat}, k < l.length → Dy u (l ++ m) k = Dy u l k ++ m.map Am ∧ E2 (l ++ m) k = E2 l k
 | [], k, h => absurd h (Nat.not_lt_zero _)
 | q :: l, 0, h => by simp [Dy, E2]
 | q :: l, k + 1, h => by
  obtain ⟨G, M⟩ := Up (u := u) (m := m) (l := l) (k := k) (by simpa using h)
  exact ⟨by simp [Dy, G], by simpa [E2] using M⟩
theorem L8 {u : Value} {ob : List Ob} (q : Nat) : ∀ {l : List Path} {k : Nat}, ob[q]? = some (.us u 53 2 ((E2 l k).map A9)) → LendLL ob (Dy u l k) (l.map Am)
 | [], _, _ => .nil
 | p :: l, 0, h => .cons (.cons (.refl _) (.cons (.refl _) (.cons (.us q h) (.rest _)))) (.rest _)
 | p :: l, k + 1, h => .cons (.rest _) (L8 q (l := l) (k := k) h)
theorem Yh (k : Nat) {E : Env} {n : Nat} {s : Ao} {dst : Option Tmp} {ty : TypeId} {pos : String} {aft : Array Edge} {g : Option (Nat × Bool)} {x : Operand} {t : TypeId} {objs : List Ob} {v w : Value} {W sz : Nat} {l : List Path} {i : Nat} {ti : TI} {e : Nat} (O : E.tab t = some ti) (G : ti.kind = .slice e) (hx : A3 s x = some (.v v))
  (M : objs[k]? = some (.us v W sz (Dy w l i))) : Yd E.P n s objs ⟨dst, .call { callee := .builtin .len, args := #[x], argTypes := #[t] }, ty, pos, aft, g⟩ (.v (.int .i64 (l.length : Int))) := by
 have := Ts (E := E) (n := n) (dst := dst) (ty := ty) (pos := pos) (aft := aft) (g := g) k O G hx M
 rwa [Kd] at this
theorem iJ (k : Nat) {E : Env} {n : Nat} {s : Ao} {dst : Option Tmp} {ty : TypeId} {pos : String} {aft : Array Edge} {g : Option (Nat × Bool)} {x : Operand} {t : TypeId} {objs : List Ob} {v : Value} {W sz m : Nat} {es : List (List T)} (hl : es.length = m) {ti : TI} {e : Nat} (O : E.tab t = some ti) (G : ti.kind = .slice e) (hx : A3 s x = some (.v v))
  (M : objs[k]? = some (.us v W sz es)) : Yd E.P n s objs ⟨dst, .call { callee := .builtin .len, args := #[x], argTypes := #[t] }, ty, pos, aft, g⟩ (.v (.int .i64 (m : Int))) := by
 rw [← hl]; exact Ts (E := E) (n := n) (dst := dst) (ty := ty) (pos := pos) (aft := aft) (g := g) k O G hx M
def Wq (G : Li) : Bool := (decide ((G.length : Int) ≤ 400))
def Sy.J4 (G : Bool) : Option Bool := some G
def Sy.J3 (x : List Path) (m : List Bool) (O : Int × KS) (G : (List Bt) × (List Sg) × (List Port) × (List Sn) × Int × Int × Li × Li × (List Bool)) : Option Bool := Option.bind (S5 (⟨G.1, G.2.1, G.2.2.1, G.2.2.2.1, G.2.2.2.2.1, G.2.2.2.2.2.1⟩ : Nw) (⟨G.2.2.2.2.2.2.1, G.2.2.2.2.2.2.2.1, G.2.2.2.2.2.2.2.2⟩ : Plan) x m O.1) fun W => if W = true then Option.bind (Nz) fun M => Sy.J4 M else Sy.J4 false
def Sy.J5 (Z : Int) (G : Nw × KS) (O : Li × Int × Li × Li × (List Bool) × Li × Li × (List Bool)) (X : Int × KS) (x : List Path) (m : List Bool) : Option Bool := Option.bind (Fy Z 14) fun Y => if (Y == 8) = true then Option.bind (Tc X.2 G.1) fun M => Sy.J3 x m X (M.1.Nodes, M.1.Segments, M.1.Ports, M.1.Stations, M.1.Vapour, M.1.Settle, O.2.2.1, O.2.2.2.1, O.2.2.2.2.1) else if (Y == 9) = true then Option.bind (Oo X.2 (⟨O.2.2.1, O.2.2.2.1, O.2.2.2.2.1⟩ : Plan)) fun W => Sy.J3 x m X (G.1.Nodes, G.1.Segments, G.1.Ports, G.1.Stations, G.1.Vapour, G.1.Settle, W.1.Rates, W.1.Ports, W.1.Pumps) else Sy.J3 x m X (G.1.Nodes, G.1.Segments, G.1.Ports, G.1.Stations, G.1.Vapour, G.1.Settle, O.2.2.1, O.2.2.2.1, O.2.2.2.2.1)
def Sy.Sw (M G : Int) (n : Nw) (x y : List Path) (m : List Bool) : Option (List Path × List Bool) := if decide ((x.length : Int) > 0) = true then Option.bind (Fy G (x.length : Int)) fun k => Option.bind (ix x k) fun e => Option.bind (Fy M 14) fun c => if (c == 0) = true then Option.bind (Fy G 1003) fun u => some (x.set e.1 ⟨e.2.In, e.2.Out, e.2.Hops, wr (u - 1)⟩, m) else if (c == 1) = true then Option.bind (Fy G (wr ((n.Ports.length : Int) + 2))) fun u => some (x.set e.1 ⟨wr (u - 1), e.2.Out, e.2.Hops, e.2.Rate⟩, m) else if (c == 2) = true then Option.bind (Fy G (wr ((n.Ports.length : Int) + 2))) fun u => some (x.set e.1 ⟨e.2.In, wr (u - 1), e.2.Hops, e.2.Rate⟩, m) else if (c == 3) = true then (if decide ((e.2.Hops.length : Int) > 0) = true then Option.bind (ix e.2.Hops 0) fun q => some (x.set e.1 ⟨e.2.In, e.2.Out, e.2.Hops.set q.1 ⟨q.2.Segment, !q.2.Back⟩, e.2.Rate⟩, m) else some (x, m)) else if (c == 4) = true then (if decide ((e.2.Hops.length : Int) > 0) = true then Option.bind (Fy G (wr ((n.Segments.length : Int) + 2))) fun u => Option.bind (ix e.2.Hops 0) fun q => some (x.set e.1 ⟨e.2.In, e.2.Out, e.2.Hops.set q.1 ⟨wr (u - 1), q.2.Back⟩, e.2.Rate⟩, m) else some (x, m)) else if (c == 5) = true then Option.bind (Fy G (n.Segments.length : Int)) fun u => Option.bind (C0 e.2.Hops ([⟨u, false⟩] : List Hop)) fun hs => some (x.set e.1 ⟨e.2.In, e.2.Out, hs, e.2.Rate⟩, m) else if (c == 6) = true then Option.bind (C0 x y) fun l => some (l, m) else if (c == 7) = true then Option.bind (C0 m ([true] : List Bool)) fun l => some (x, l) else some (x, m) else some (x, m)
def Sy.J2 (G M : Int) (O : Nw × KS) (W : Li × Int × Li × Li × (List Bool) × Li × Li × (List Bool)) (Z : (List Path) × Int) (aa : (List Path) × Int) (Y : List Bool) (ab : Int × KS) (X : Bool) : Option Bool := if X = true then some false else Option.bind (Sy.Sw G M O.1 Z.1 aa.1 Y) fun w => Sy.J5 G O W ab w.1 w.2
def Sy.J1 (W Y : Int) (X : Nw × KS) (G : Li × Int × Li × Li × (List Bool) × Li × Li × (List Bool)) : Option Bool := Option.bind (Fb X.1 (⟨G.2.2.1, G.2.2.2.1, G.2.2.2.2.1⟩ : Plan)) fun M => Option.bind (Fb X.1 (⟨G.2.2.2.2.2.1, G.2.2.2.2.2.2.1, G.2.2.2.2.2.2.2⟩ : Plan)) fun O => Option.bind (C0 ([] : List Bool) G.2.2.2.2.1) fun Z => Option.bind (C6 (⟨G.1, G.2.1⟩ : KS) (wr ((X.1.Segments.length : Int) + 1))) fun aa => Option.bind (Of M.1 O.1) fun ah => Option.bind (Jd M.1 O.1) fun ai => Option.bind (G6 ah ai) fun aj => if (!aj) = true then some false else Option.bind (Jd O.1 M.1) fun ak => Option.bind (Lg M.1 ak) fun ad => Option.bind (Jd O.1 M.1) fun al => Option.bind (Lr M.1 al) fun ae => Option.bind (Lg M.1 O.1) fun af => Option.bind (Lr M.1 O.1) fun ag => if (ad.2 != ae.2) = true then Sy.J2 W Y X G M O Z aa true else if (af.2 != ag.2) = true then Sy.J2 W Y X G M O Z aa true else Option.bind (G6 ad.1 ae.1) fun ab => if (!ab) = true then Sy.J2 W Y X G M O Z aa true else Option.bind (G6 af.1 ag.1) fun ac => Sy.J2 W Y X G M O Z aa (!ac)
def Sy (Y : Li) (W : Int) (X : Int) : Option Bool := if (!(Wq Y)) = true then Option.bind (Nz) fun r4 => some r4 else Option.bind (S7 Y) fun Z => Option.bind (S9 Z) fun O => Option.bind (Lz O.2 O.1) fun M => Option.bind (Lz M.2 O.1) fun G => Sy.J1 W X O (G.2.L_, G.2.At, M.1.Rates, M.1.Ports, M.1.Pumps, G.1.Rates, G.1.Ports, G.1.Pumps)
set_option maxHeartbeats 4000000
theorem Xi (k : Nat) (an : Nw) (p_1 : Plan) (r : (List Path) × Int) (h : Fb an p_1 = some r) : ACalls Ak 11 [.agg (Ac an), .agg (Au p_1)] [] (fun x new => ∃ (u0 w0 : Value), x = .tup [.v u0, .v (.int .i64 r.2)] ∧ new = [.us u0 50 4 (Dy w0 r.1 k), .us w0 53 2 ((E2 r.1 k).map A9)]) := by
 refine Ag Tryz.func11 rfl rfl rfl (fun C hC => ?_)
 unfold Fb at h
 refine Aa (fun y1 hy1 => (mE (mG [] I (AX.box (cs := Ac an) (m := 6) I I I (A1 I) (fun b2 => (mG [] I (AX.box (cs := Au p_1) (m := 3) I I I (A1 I) (fun b3 => (Af 2 I (mF ?_))))))))))
 subst hy1
 refine Aa (fun y4 hy4 => (mK ?_))
 obtain ⟨r5, hx6, h⟩ := Ab h
 refine mE (Al 2 [.o 0 0, .o 1 1] I ⟨I, I, trivial⟩ (mR (Mi _ _ _ hx6) (Af 1 I (mF (Ai I (Aq h I ?_ ?_))))))
 intro hc7 h
 refine Ai I (mM (A6 50 4) (mM (A6 53 2) (mM (Ghost.pick [2, 3] I (by decide)) ?_)))
 obtain rfl := Option.some.inj h
 exact mL ⟨.inr I, [_, _], [.us (.slice none 0 0) 50 4 [], .us (.slice none 0 0) 53 2 []], ⟨I, I, trivial⟩, Dj I (Dj I (Cm)), ⟨(.slice none 0 0), (.slice none 0 0), I, I⟩⟩
 intro hc7 h
 refine mI ?_
 subst hy4
 refine Aa (fun y8 hy8 => ?_)
 obtain ⟨l10, hx11, h⟩ := Ab h
 refine mE (mG [] I (mS (sz := 1) (es := ([] : Li).map rI) I I I I I I I I I I I (A1 I) (fun v9 => (Al 2 [.o 1 1] I ⟨I, trivial⟩ (mG [2] I (mT 2 I hx11 (fun v12 => (Af 1 I (mF ?_)))))))))
 subst hy8
 refine Aa (fun y13 hy13 => ?_)
 obtain ⟨l15, hx16, h⟩ := Ab h
 refine mE (mG [] I (mS (sz := 1) (es := ([] : Li).map rI) I I I I I I I I I I I (A1 I) (fun v14 => (Al 2 [.o 1 1] I ⟨I, trivial⟩ (mG [3] I (mT 3 I hx16 (fun v17 => (Af 1 I (mF ?_)))))))))
 subst hy13
 refine Ai I (Ah (fun s ob => ∃ (ao : List Path) (v840 : Value) (w840 : Value), Fb.J1 ao = some r ∧ s = [(9, .v v840)] ∧ ob = [.us v840 50 4 (Dy w840 ao k), .us w840 53 2 ((E2 ao k).map A9)]) [] trivial ?_ ?_)
 refine Ai I (mJ (mM (A6 50 4) (mM (A6 53 2) ?_)))
 obtain ⟨o1661, hL1662, hR1663⟩ := Ab h
 clear h
 refine Bs hL1662 [(2, _), (7, _), (8, _)] ⟨I, I, I, trivial⟩ (fun (Z : Li × Li × (List Path) × Int) s ob => ∃ (al : Value) (am : Value), s = [(9, .v al), (10, .v (.int .i64 Z.2.2.2))] ∧ ob = [.arr b2 32 6 1 [Ac an], .us v12 3 1 (Z.1.map rI), .us v17 3 1 (Z.2.1.map rI), .us al 50 4 (Dy am Z.2.2.1 k), .us am 53 2 ((E2 Z.2.2.1 k).map A9)]) ⟨(.slice none 0 0), (.slice none 0 0), I, I⟩ ⟨I, I, trivial⟩ ⟨[0, 2, 3, 4, 5], I, by decide⟩ ?_
 rintro Z r1665 s ob ⟨al, am, rfl, rfl⟩ h hb1664
 unfold Fb.B2 at h
 refine Aa (fun y1666 hy1666 => (mK (mE (Af 2 I (mQ (Cf 2 I I I I) I (Af 1 I (mF (Aq h I ?_ ?_))))))))
 intro hc1667 h
 refine mI ?_
 subst hy1666
 refine Ah (fun s ob => ∃ (ak : Li × Li × (List Path)) (v1936 : Value) (w1936 : Value), Fb.J3 Z ak = some r1665 ∧ s = [(9, .v v1936)] ∧ ob = [.arr b2 32 6 1 [Ac an], .us v12 3 1 (ak.1.map rI), .us v17 3 1 (ak.2.1.map rI), .us v1936 50 4 (Dy w1936 ak.2.2 k), .us w1936 53 2 ((E2 ak.2.2 k).map A9)]) [(2, _), (7, _), (8, _), (10, _)] ⟨I, I, I, I, trivial⟩ ?_ ?_
 refine mJ (mJ ?_)
 obtain ⟨o2204, hL2205, hR2206⟩ := Ab h
 clear h
 refine Bs hL2205 [(2, _), (7, _), (8, _), (10, _)] ⟨I, I, I, I, trivial⟩ (fun (M : Li × Li × (List Path)) s ob => ∃ (ah : Value) (X : Value), s = [(9, .v ah)] ∧ ob = [.arr b2 32 6 1 [Ac an], .us v12 3 1 (M.1.map rI), .us v17 3 1 (M.2.1.map rI), .us ah 50 4 (Dy X M.2.2 k), .us X 53 2 ((E2 M.2.2 k).map A9)]) ⟨al, am, I, I⟩ ⟨I, trivial⟩ ⟨[0, 1, 2, 3, 4], I, by decide⟩ ?_
 rintro M r2208 s ob ⟨ah, X, rfl, rfl⟩ h hb2207
 unfold Fb.B4 at h
 refine Aa (fun y2209 hy2209 => (mK ?_))
 obtain ⟨p2210, hp2211, h⟩ := Ab h
 obtain ⟨hp2211i, hp2211x⟩ := Fj hp2211
 refine mE (Af 2 I (mQ (Bh 2 (m := p2210.1) I I I I I I I hp2211i (Ae hp2211x)) I (mQ (Ay 2 p2210.1 0 I I I (Ae hp2211x) I (y := .v (.int .i64 p2210.2)) I) I (Af 1 I (mF (Aq h I ?_ ?_))))))
 intro hc2212 h
 refine mI ?_
 subst hy2209
 refine mJ (Aa (fun y2213 hy2213 => ?_))
 obtain ⟨G, hx2215, h⟩ := Ab h
 refine mE (Al 4 [.o 0 0] I ⟨I, trivial⟩ (mG [] I (Px I (.refl _) I I (.cons (.refl _) (.cons (.us 1 I) (.cons (.us 2 I) (.rest _)))) I (Qd _ _ _ _ _ hx2215) (A1 I) (by rintro _ _ ⟨_, rfl, rfl⟩; exact ⟨rfl, by intro p hp; simp only [List.mem_cons, List.not_mem_nil, or_false] at hp; rcases hp with rfl <;> exact Vg fun _ => rfl⟩) ?_)))
 rintro _ _ ⟨Y, rfl, rfl⟩
 refine Af 3 I (mG [] I (nB (cs := [.v (.int .i64 0), .v (.int .i64 0), .v (.slice none 0 0), .v (.int .i64 0)]) (m := 4) I I I I I (A1 I) (fun b2217 => (mG [6] I (mP 6 0 0 (es' := [[.v (.int .i64 G.1.In), .v (.int .i64 G.1.Out), .v Y, .v (.int .i64 G.1.Rate)]]) I I I I I I I I (As I) I I (Af 1 I (mF ?_)))))))
 subst hy2213
 refine Aa (fun y2218 hy2218 => (Ec 60 ((!G.2) || (((M.2.2.length : Int) == 64) || decide ((G.1.Hops.length : Int) > 32))) ?_ ?_))
 refine mE (Af 3 I ?_)
 rcases Bool.eq_false_or_eq_true ((!G.2)) with ai | ai
 refine Ad 50 I ai (Af 10 I (mF ?_))
 exact jf (by simp only [ai, bz]) I I ⟨I, I⟩
 refine Ad 50 I ai (Af 1 I (Bc I I I (mQ (Yh 3 I I I I) I (Af 3 I ?_))))
 rcases Bool.eq_false_or_eq_true (((M.2.2.length : Int) == 64)) with aj | aj
 refine Ad 55 I aj (Af 5 I (mF ?_))
 exact jf (by simp only [ai, aj, bz]) I I ⟨I, I⟩
 refine Ad 55 I aj (Al 2 [.o 1 6] I ⟨I, trivial⟩ (Bc I I I (mQ (Cf 5 I I I I) I (Af 2 I (mF ?_)))))
 exact jf (by simp only [ai, aj, bz]) I I ⟨I, I⟩
 refine Aq h I ?_ ?_
 intro hc2224 h
 refine Ai I ?_
 obtain rfl := hb2207 _ (Option.some.inj h).symm
 replace h := hR2206
 replace h := Cz h
 obtain rfl := hb1664 _ (Option.some.inj h).symm
 replace h := hR1663
 replace h := Cz h
 refine mM (A6 50 4) (mM (A6 53 2) (mM (Ghost.pick [7, 8] I (by decide)) ?_))
 obtain rfl := Option.some.inj h
 exact mL ⟨.inr I, [_, _], [.us (.slice none 0 0) 50 4 [], .us (.slice none 0 0) 53 2 []], ⟨I, I, trivial⟩, Dj I (Dj I (Cm)), ⟨(.slice none 0 0), (.slice none 0 0), I, I⟩⟩
 intro hc2224 h
 refine mI ?_
 subst hy2218
 refine Aa (fun y2225 hy2225 => ?_)
 obtain ⟨O, hp2227, h⟩ := Ab h
 obtain ⟨hp2227i, ac⟩ := Fj hp2227
 refine Bq 2 O.1 I ac (fun hf2228 => (Bq 2 O.1 I ac (fun hf2229 => (Bm (.still 0 (.still 1 (.still 2 (.still 3 (.still 4 (.still 5 (.still 6 (.still 7 (.still 8 (.still 9 (.still 10 (.still 11 (.drop 12 .nil))))))))))))) [6, 2] [_, _] I (Bo 6 [.o 2 0, .o 5 0] I ⟨I, I, trivial⟩ (mU I (Ar (m := O.1) I I I I I hf2228 I hp2227i ac) I (AP.o I (Ay 1 O.1 0 I I I (Ae ac) I (y := .v (.int .i64 O.2)) I) I (Bo 3 [.o 1 0] I ⟨I, trivial⟩ (mU I (Ar (m := O.1) I I I I I hf2229 I hp2227i ac) I (mW [2] I I I (A5 2 O.1 0 I I I (Ae ac) I I I I (As I) I (Ca (x := wr (O.2 - G.1.Rate)) I) (An (mF ?_)))))))))))))
 subst hy2225
 refine Aa (fun y2230 hy2230 => ?_)
 obtain ⟨W, hp2232, h⟩ := Ab h
 obtain ⟨hp2232i, ad⟩ := Fj hp2232
 refine Bq 2 W.1 I ad (fun hf2233 => (Bq 2 W.1 I ad (fun hf2234 => (Bm (.still 0 (.still 1 (.still 2 (.still 3 (.still 4 (.still 5 (.still 6 (.still 7 (.still 8 (.still 9 (.still 10 (.still 11 (.drop 12 .nil))))))))))))) [6, 2] [_, _] I (Bo 6 [.o 2 0, .o 5 0] I ⟨I, I, trivial⟩ (mU I (Ar (m := W.1) I I I I I hf2233 I hp2232i ad) I (AP.o I (Ay 1 W.1 0 I I I (Ae ad) I (y := .v (.int .i64 W.2)) I) I (Bo 3 [.o 1 0] I ⟨I, trivial⟩ (mU I (Ar (m := W.1) I I I I I hf2234 I hp2232i ad) I (mW [2] I I I (A5 2 W.1 0 I I I (Ae ad) I I I I (As I) I (Ca (x := wr (W.2 + G.1.Rate)) I) (An (mF ?_)))))))))))))
 subst hy2230
 refine Ah (fun s ob => ∃ (j2291 : Li), Fb.J5 M G O W j2291 = some r2208 ∧ s = [] ∧ ob = [.arr b2 32 6 1 [Ac an], .us v12 3 1 (j2291.map rI), .us v17 3 1 (((M.2.1.set O.1 (wr (O.2 - G.1.Rate))).set W.1 (wr (W.2 + G.1.Rate))).map rI), .us ah 50 4 (Dy X M.2.2 k), .us X 53 2 ((E2 M.2.2 k).map A9), .us Y 53 2 (G.1.Hops.map A9), .arr b2217 50 4 1 [[.v (.int .i64 G.1.In), .v (.int .i64 G.1.Out), .v Y, .v (.int .i64 G.1.Rate)]]]) [(2, _), (7, _), (8, _), (9, _), (10, _), (11, _)] ⟨I, I, I, I, I, I, trivial⟩ ?_ ?_
 refine Ai I (mJ ?_)
 obtain ⟨o2352, hL2353, hR2354⟩ := Ab h
 clear h
 refine Bs hL2353 [(2, _), (7, _), (8, _), (9, _), (10, _), (11, _)] ⟨I, I, I, I, I, I, trivial⟩ (fun (ag : Li × Int) s ob => s = [(13, .v (.int .i64 ag.2))] ∧ ob = [.arr b2 32 6 1 [Ac an], .us v12 3 1 (ag.1.map rI), .us v17 3 1 (((M.2.1.set O.1 (wr (O.2 - G.1.Rate))).set W.1 (wr (W.2 + G.1.Rate))).map rI), .us ah 50 4 (Dy X M.2.2 k), .us X 53 2 ((E2 M.2.2 k).map A9), .us Y 53 2 (G.1.Hops.map A9), .arr b2217 50 4 1 [[.v (.int .i64 G.1.In), .v (.int .i64 G.1.Out), .v Y, .v (.int .i64 G.1.Rate)]]]) ⟨I, I⟩ ⟨I, trivial⟩ ⟨[0, 1, 2, 3, 4, 5, 6], I, by decide⟩ ?_
 rintro ag r2356 s ob ⟨rfl, rfl⟩ h hb2355
 unfold Fb.B6 at h
 refine Aa (fun y2357 hy2357 => (mK (mE (Al 3 [.o 2 6] I ⟨I, trivial⟩ (mQ (Cf 5 I I I I) I (Af 1 I (mF (Aq h I ?_ ?_))))))))
 intro hc2358 h
 refine mI ?_
 subst hy2357
 refine Ah (fun s ob => ∃ (j2373 : Li), Fb.J7 ag j2373 = some r2356 ∧ s = [] ∧ ob = [.arr b2 32 6 1 [Ac an], .us v12 3 1 (j2373.map rI), .us v17 3 1 (((M.2.1.set O.1 (wr (O.2 - G.1.Rate))).set W.1 (wr (W.2 + G.1.Rate))).map rI), .us ah 50 4 (Dy X M.2.2 k), .us X 53 2 ((E2 M.2.2 k).map A9), .us Y 53 2 (G.1.Hops.map A9), .arr b2217 50 4 1 [[.v (.int .i64 G.1.In), .v (.int .i64 G.1.Out), .v Y, .v (.int .i64 G.1.Rate)]]]) [(2, _), (7, _), (8, _), (9, _), (10, _), (11, _), (13, _)] ⟨I, I, I, I, I, I, I, trivial⟩ ?_ ?_
 refine mJ (Aa (fun y2374 hy2374 => ?_))
 obtain ⟨p2375, hp2376, h⟩ := Ab h
 obtain ⟨hp2376i, hp2376x⟩ := Fj hp2376
 refine mE (Al 3 [.o 1 6] I ⟨I, trivial⟩ (mQ (Bh 5 (m := p2375.1) I I I I I I I hp2376i (Ae hp2376x)) I (mQ (Ay 5 p2375.1 0 I I I (Ae hp2376x) I (y := .agg (A9 p2375.2)) I) I (mG [] I (nB (cs := [.v (.int .i64 0), .v (.bool false)]) (m := 2) I I I I I (A1 I) (fun b2377 => (mG [7] I (mP 7 0 0 (es' := [A9 p2375.2]) I I I I I I I I (As I) I I (mF ?_)))))))))
 subst hy2374
 refine Bg [.o 1 7] I ⟨I, trivial⟩ (Aq h I ?_ ?_)
 intro hc2379 h
 obtain ⟨aa, hp2381, h⟩ := Ab h
 obtain ⟨hp2381i, ae⟩ := Fj hp2381
 refine Bq 1 aa.1 I ae (fun hf2382 => (Bq 1 aa.1 I ae (fun hf2383 => (Bm (.still 0 (.still 1 (.still 2 (.still 3 (.still 4 (.still 5 (.still 6 (.still 7 (.still 8 (.still 9 (.still 10 (.still 11 (.drop 12 .nil))))))))))))) [7, 1, 6] [_, _, _] I (Bo 6 [.o 2 0, .o 5 0] I ⟨I, I, trivial⟩ (mU I (Ar (m := aa.1) I I I I I hf2382 I hp2381i ae) I (AP.o I (Ay 1 aa.1 0 I I I (Ae ae) I (y := .v (.int .i64 aa.2)) I) I (Bo 3 [.o 1 2] I ⟨I, trivial⟩ (mU I (Ar (m := aa.1) I I I I I hf2383 I hp2381i ae) I (mW [1] I I I (A5 1 aa.1 0 I I I (Ae ae) I I I I (As I) I (Ca (x := wr (aa.2 + G.1.Rate)) I) (An (mF ?_)))))))))))))
 exact lg ⟨(ag.1.set aa.1 (wr (aa.2 + G.1.Rate))), h, I, I⟩ [0, 1, 2, 3, 4, 5, 6]
 intro hc2379 h
 obtain ⟨ab, hp2385, h⟩ := Ab h
 obtain ⟨hp2385i, af⟩ := Fj hp2385
 refine Bq 1 ab.1 I af (fun hf2386 => (Bq 1 ab.1 I af (fun hf2387 => (Bm (.still 0 (.still 1 (.still 2 (.still 3 (.still 4 (.still 5 (.still 6 (.still 7 (.still 8 (.still 9 (.still 10 (.still 11 (.drop 12 .nil))))))))))))) [7, 1, 6] [_, _, _] I (Bo 6 [.o 2 0, .o 5 0] I ⟨I, I, trivial⟩ (mU I (Ar (m := ab.1) I I I I I hf2386 I hp2385i af) I (AP.o I (Ay 1 ab.1 0 I I I (Ae af) I (y := .v (.int .i64 ab.2)) I) I (Bo 3 [.o 1 2] I ⟨I, trivial⟩ (mU I (Ar (m := ab.1) I I I I I hf2387 I hp2385i af) I (mW [1] I I I (A5 1 ab.1 0 I I I (Ae af) I I I I (As I) I (Ca (x := wr (ab.2 - G.1.Rate)) I) (An (mF ?_)))))))))))))
 exact lg ⟨(ag.1.set ab.1 (wr (ab.2 - G.1.Rate))), h, I, I⟩ [0, 1, 2, 3, 4, 5, 6]
 rintro s ob ⟨j2373, h, rfl, rfl⟩
 unfold Fb.J7 at h
 refine mE (Af 3 I ?_)
 obtain rfl := Option.some.inj h
 refine mF ?_
 exact ⟨_, _, _, I, ⟨I, I⟩, ⟨I, I, I, I, I, I, I, trivial⟩, [0, 1, 2, 3, 4, 5, 6], I, by decide⟩
 intro hc2358 h
 obtain rfl := hb2355 _ (Option.some.inj h).symm
 replace h := hR2354
 refine mN ?_
 exact lg ⟨ag.1, h, I, I⟩ [0, 1, 2, 3, 4, 5, 6]
 rintro s ob ⟨j2291, h, rfl, rfl⟩
 unfold Fb.J5 at h
 obtain ⟨l2293, hx2294, h⟩ := Ab h
 obtain ⟨ha1, ha2⟩ := E8 hx2294
 have hlen : ∀ (w : Value) (es2 : List (List T)), es2.length = 1 → (Dy w M.2.2 k).length + es2.length ≤ 68719476736 := fun w es2 he => by rw [Kd, he]; exact ha1
 rcases Nat.decEq M.2.2.length k with hk | hk
 ·obtain ⟨e1, e2⟩ := Uq (u := X) (p := G.1) hk
  rw [ha2] at e1 e2
  refine mE (Al 2 [.o 1 6] I ⟨I, trivial⟩ (mZ (Be [5] (K := [.us Y 53 2 (G.1.Hops.map A9)]) I [(124, .agg [.v (.int .i64 G.1.In), .v (.int .i64 G.1.Out), .list 2 (G.1.Hops.map A9), .v (.int .i64 G.1.Rate)])] ⟨⟨_, I, .agg (.cons (.refl _) (.cons (.refl _) (.cons (.us 0 I) (.rest _))))⟩, trivial⟩ (ob' := [.arr b2 32 6 1 [Ac an], .us v12 3 1 (j2291.map rI), .us v17 3 1 (((M.2.1.set O.1 (wr (O.2 - G.1.Rate))).set W.1 (wr (W.2 + G.1.Rate))).map rI), .us ah 50 4 (Dy X M.2.2 k), .us X 53 2 ((E2 M.2.2 k).map A9), .arr b2217 50 4 1 [Am G.1]]) (.cons (.same _) (.cons (.same _) (.cons (.same _) (.cons (.same _) (.cons (.same _) (.cons (.arr (.cons (.refl _) (.cons (.refl _) (.cons (.us 0 I) (.rest _))))) (.rest _)))))))) (mG [] I (mO 4 (([G.1] : List Path).map Am) (mG [3] I (Et 3 (es' := Dy X l2293 k) I I I I I I I I I (AppSrc.list I) (hlen _ _ I) e1.symm (A1 I) (fun v2295 => (Af 1 I ?_))))))))
  obtain rfl := Option.some.inj h
  refine mF ?_
  exact ⟨_, _, _, I, ⟨v2295, X, I, I⟩, ⟨I, I, I, I, I, trivial⟩, [0, 1, 2, 3, 4], (by dsimp only; rw [e2]; exact I), by decide⟩
 ·obtain ⟨e1, e2⟩ := Un (u := Y) (w := X) (p := G.1) hk
  rw [ha2] at e1 e2
  refine mE (Al 2 [.o 1 6] I ⟨I, trivial⟩ (mG [] I (mO 4 [Wb Y G.1] (mG [3] I (Et 3 (es' := Dy Y l2293 k) I I I I I I I I I (AppSrc.list I) (hlen _ _ I) e1.symm (A1 I) (fun v2295 => (Af 1 I ?_)))))))
  obtain rfl := Option.some.inj h
  refine mF ?_
  exact ⟨_, _, _, I, ⟨v2295, Y, I, I⟩, ⟨I, I, I, I, I, trivial⟩, [0, 1, 2, 3, 5], (by dsimp only; rw [e2]; exact I), by decide⟩
 intro hc2212 h
 obtain rfl := hb2207 _ (Option.some.inj h).symm
 replace h := hR2206
 replace h := C2 h
 refine mN ?_
 exact lg ⟨(M.1, M.2.1, M.2.2), ah, X, h, I, I⟩ [0, 1, 2, 3, 4]
 rintro s ob ⟨ak, v1936, w1936, h, rfl, rfl⟩
 unfold Fb.J3 at h
 refine mE (Af 3 I ?_)
 obtain rfl := Option.some.inj h
 refine mF ?_
 exact ⟨_, _, _, I, ⟨v1936, w1936, I, I⟩, ⟨I, I, I, I, I, trivial⟩, [0, 1, 2, 3, 4], I, by decide⟩
 intro hc1667 h
 obtain rfl := hb1664 _ (Option.some.inj h).symm
 replace h := hR1663
 replace h := C2 h
 refine mN ?_
 exact lg ⟨Z.2.2.1, al, am, h, I, I⟩ [3, 4]
 rintro s ob ⟨ao, v840, w840, h, rfl, rfl⟩
 unfold Fb.J1 at h
 refine Ai I ?_
 obtain rfl := Option.some.inj h
 exact mL ⟨.inr I, [_, _], [.us v840 50 4 (Dy w840 ao k), .us w840 53 2 ((E2 ao k).map A9)], ⟨I, I, trivial⟩, Dj I (Dj I (Cm)), ⟨v840, w840, I, I⟩⟩
theorem aH (G : Li) (r : Bool) (h : Wq G = r) : ACalls Ak 6 [.list 1 (G.map rI)] [] (fun x new => x = .v (.bool r) ∧ new = []) := by
 refine Ag Tryz.func6 rfl rfl rfl (fun C M => ?_)
 unfold Wq at h
 refine Ai I (Bg [.l 1 (G.length : Int)] I ⟨A0, trivial⟩ ?_)
 obtain rfl := h
 exact mL ⟨.inr I, [_], [], ⟨I, trivial⟩, Cm, I, I⟩
theorem Z2 (l_0 : Li) (odd_1 : Int) (by_2 : Int) (r : Bool) (h : Sy l_0 odd_1 by_2 = some r) : ACalls Ak 3 [.list 1 (l_0.map rI), .v (.int .i64 odd_1), .v (.int .i64 by_2)] [] (fun x new => x = .v (.bool r) ∧ new = []) := by
 refine Ag Tryz.func3 rfl rfl rfl (fun C hC => ?_)
 unfold Sy at h
 refine Ai I (Aa (fun y2 hy2 => (mK (mE (Af 1 I (mR (aH l_0 _ I) (Af 1 I (mF (Aq h I ?_ ?_)))))))))
 intro hc3 h
 refine mK ?_
 obtain ⟨r4, hx5, h⟩ := Ab h
 refine mE (mR (Rz  _ hx5) (Af 1 I (mF ?_)))
 obtain rfl := Option.some.inj h
 exact mL ⟨.inr I, [_], [], ⟨I, trivial⟩, Cm, I, I⟩
 intro hc3 h
 refine mI ?_
 subst hy2
 refine Aa (fun y6 hy6 => ?_)
 obtain ⟨r7, hx8, h⟩ := Ab h
 refine mE (Af 1 I (mG [] I (Cb I I I (aV _ _ hx8) (A1 I) ?_)))
 rintro _ _ ⟨b9, rfl, rfl⟩
 refine Af 1 I (mF ?_)
 subst hy6
 refine Aa (fun y10 hy10 => ?_)
 obtain ⟨aa, hx12, h⟩ := Ab h
 refine mE (Af 1 I (mG [0] I (Dp [0] (bE b9 _ _ hx12) ?_)))
 rintro _ _ _ - ⟨rfl, rfl, rfl⟩
 refine mG [] I (nB (cs := [.v (.slice none 0 0), .v (.slice none 0 0), .v (.slice none 0 0), .v (.slice none 0 0), .v (.int .i64 0), .v (.int .i64 0)]) (m := 6) I I I I I (A1 I) (fun b13 => (mG [1] I (mP 1 0 0 (es' := [Ac aa.1]) I I I I I I I I (As I) I I (mF ?_)))))
 subst hy10
 refine Ah (fun s ob => ∃ (Z : Li × Int × Li × Li × (List Bool) × Li × Li × (List Bool)) (b21 : Nat) (b22 : Nat), Sy.J1 odd_1 by_2 aa Z = some r ∧ s = [(9, .v (.pointer (some ⟨b21, 0, none⟩))), (10, .v (.pointer (some ⟨b22, 0, none⟩)))] ∧ ob = [.arr b9 97 2 1 [[.list 1 (Z.1.map rI), .v (.int .i64 Z.2.1)]], .arr b13 32 6 1 [Ac aa.1], .arr b21 36 3 1 [[.list 1 (Z.2.2.1.map rI), .list 1 (Z.2.2.2.1.map rI), .list 1 (Z.2.2.2.2.1.map rB)]], .arr b22 36 3 1 [[.list 1 (Z.2.2.2.2.2.1.map rI), .list 1 (Z.2.2.2.2.2.2.1.map rI), .list 1 (Z.2.2.2.2.2.2.2.map rB)]]]) [(1, _), (2, _), (7, _), (8, _)] ⟨I, I, I, I, trivial⟩ ?_ ?_
 obtain ⟨M, hx122, h⟩ := Ab h
 obtain ⟨G, ab, h⟩ := Ab h
 refine Bm (.still 0 (.still 1 (.still 3 (.still 4 (.three 2 6 7 (.three 5 6 7 (.par [(6, []), (7, [])] (.act 8 (.act 9 .nil))) (.two 5 7 (.act 7 (.act 8 (.act 9 .nil))) (.act 5 (.act 8 (.act 9 .nil)))) (.two 5 6 (.act 6 (.act 8 (.act 9 .nil))) (.act 5 (.act 8 (.act 9 .nil))))) (.two 2 7 (.two 5 7 (.act 7 (.act 8 (.act 9 .nil))) (.act 5 (.act 8 (.act 9 .nil)))) (.act 2 (.act 5 (.act 8 (.act 9 .nil))))) (.two 2 6 (.two 5 6 (.act 6 (.act 8 (.act 9 .nil))) (.act 5 (.act 8 (.act 9 .nil)))) (.act 2 (.act 5 (.act 8 (.act 9 .nil)))))))))) [1] [_] I (Bo 4 [.o 1 0, .o 3 0] I ⟨I, I, trivial⟩ (AP.three ?_ ?_ ?_))
 refine mH [0] I I I (Dp [0] (Dh b9 _ _ _ hx122) ?_)
 rintro _ _ _ - ⟨rfl, rfl, rfl⟩
 refine AP.three ?_ ?_ ?_
 refine mH [0] I I I (Dp [0] (Dh b9 _ _ _ ab) ?_)
 rintro _ _ _ - ⟨rfl, rfl, rfl⟩
 refine AP.any [⟨6, [], 9, .box 36 3 ([.v (.slice none 0 0), .v (.slice none 0 0), .v (.slice none 0 0)])⟩, ⟨7, [], 10, .box 36 3 ([.v (.slice none 0 0), .v (.slice none 0 0), .v (.slice none 0 0)])⟩] I ⟨⟨_, I, I, I, fun _ => nB (cs := [.v (.slice none 0 0), .v (.slice none 0 0), .v (.slice none 0 0)]) (m := 3) I I I I I (A1 I) (fun b => ⟨_, I, ⟨b, I⟩, I⟩)⟩, ⟨_, I, I, I, fun _ => nB (cs := [.v (.slice none 0 0), .v (.slice none 0 0), .v (.slice none 0 0)]) (m := 3) I I I I I (A1 I) (fun b => ⟨_, I, ⟨b, I⟩, I⟩)⟩, trivial⟩ ?_
 intro W X
 refine mH [2] I I I (mP 2 0 0 (es' := [Au M.1]) I I I I I I I I (As I) I I (mH [3] I I I (mP 3 0 0 (es' := [Au G.1]) I I I I I I I I (As I) I I (An (mF ?_)))))
 exact lg ⟨(G.2.L_, G.2.At, M.1.Rates, M.1.Ports, M.1.Pumps, G.1.Rates, G.1.Ports, G.1.Pumps), W, X, h, I, I⟩ [0, 1, 2, 3]
 refine mH [] I I I (nB (cs := [.v (.slice none 0 0), .v (.slice none 0 0), .v (.slice none 0 0)]) (m := 3) I I I I I (A1 I) (fun W => (mV ?_ ?_)))
 refine mH [0] I I I (Dp [0] (Dh b9 _ _ _ ab) ?_)
 rintro _ _ _ - ⟨rfl, rfl, rfl⟩
 refine mH [] I I I (nB (cs := [.v (.slice none 0 0), .v (.slice none 0 0), .v (.slice none 0 0)]) (m := 3) I I I I I (A1 I) (fun X => (mH [2] I I I (mP 2 0 0 (es' := [Au M.1]) I I I I I I I I (As I) I I (mH [3] I I I (mP 3 0 0 (es' := [Au G.1]) I I I I I I I I (As I) I I (An (mF ?_))))))))
 exact lg ⟨(G.2.L_, G.2.At, M.1.Rates, M.1.Ports, M.1.Pumps, G.1.Rates, G.1.Ports, G.1.Pumps), W, X, h, I, I⟩ [0, 1, 2, 3]
 refine mH [] I I I (nB (cs := [.v (.slice none 0 0), .v (.slice none 0 0), .v (.slice none 0 0)]) (m := 3) I I I I I (A1 I) (fun X => (mH [0] I I I (Dp [0] (Dh b9 _ _ _ ab) ?_))))
 rintro _ _ _ - ⟨rfl, rfl, rfl⟩
 refine mH [2] I I I (mP 2 0 0 (es' := [Au M.1]) I I I I I I I I (As I) I I (mH [3] I I I (mP 3 0 0 (es' := [Au G.1]) I I I I I I I I (As I) I I (An (mF ?_)))))
 exact lg ⟨(G.2.L_, G.2.At, M.1.Rates, M.1.Ports, M.1.Pumps, G.1.Rates, G.1.Ports, G.1.Pumps), W, X, h, I, I⟩ [0, 1, 2, 3]
 refine mH [] I I I (nB (cs := [.v (.slice none 0 0), .v (.slice none 0 0), .v (.slice none 0 0)]) (m := 3) I I I I I (A1 I) (fun X => (mV ?_ ?_)))
 refine mH [0] I I I (Dp [0] (Dh b9 _ _ _ ab) ?_)
 rintro _ _ _ - ⟨rfl, rfl, rfl⟩
 refine mH [] I I I (nB (cs := [.v (.slice none 0 0), .v (.slice none 0 0), .v (.slice none 0 0)]) (m := 3) I I I I I (A1 I) (fun W => (mH [3] I I I (mP 3 0 0 (es' := [Au M.1]) I I I I I I I I (As I) I I (mH [2] I I I (mP 2 0 0 (es' := [Au G.1]) I I I I I I I I (As I) I I (An (mF ?_))))))))
 exact lg ⟨(G.2.L_, G.2.At, M.1.Rates, M.1.Ports, M.1.Pumps, G.1.Rates, G.1.Ports, G.1.Pumps), W, X, h, I, I⟩ [0, 1, 3, 2]
 refine mH [] I I I (nB (cs := [.v (.slice none 0 0), .v (.slice none 0 0), .v (.slice none 0 0)]) (m := 3) I I I I I (A1 I) (fun W => (mH [0] I I I (Dp [0] (Dh b9 _ _ _ ab) ?_))))
 rintro _ _ _ - ⟨rfl, rfl, rfl⟩
 refine mH [3] I I I (mP 3 0 0 (es' := [Au M.1]) I I I I I I I I (As I) I I (mH [2] I I I (mP 2 0 0 (es' := [Au G.1]) I I I I I I I I (As I) I I (An (mF ?_)))))
 exact lg ⟨(G.2.L_, G.2.At, M.1.Rates, M.1.Ports, M.1.Pumps, G.1.Rates, G.1.Ports, G.1.Pumps), W, X, h, I, I⟩ [0, 1, 3, 2]
 refine mH [] I I I (nB (cs := [.v (.slice none 0 0), .v (.slice none 0 0), .v (.slice none 0 0)]) (m := 3) I I I I I (A1 I) (fun W => (mV ?_ ?_)))
 refine mH [0] I I I (Dp [0] (Dh b9 _ _ _ hx122) ?_)
 rintro _ _ _ - ⟨rfl, rfl, rfl⟩
 refine mV ?_ ?_
 refine mH [0] I I I (Dp [0] (Dh b9 _ _ _ ab) ?_)
 rintro _ _ _ - ⟨rfl, rfl, rfl⟩
 refine mH [] I I I (nB (cs := [.v (.slice none 0 0), .v (.slice none 0 0), .v (.slice none 0 0)]) (m := 3) I I I I I (A1 I) (fun X => (mH [2] I I I (mP 2 0 0 (es' := [Au M.1]) I I I I I I I I (As I) I I (mH [3] I I I (mP 3 0 0 (es' := [Au G.1]) I I I I I I I I (As I) I I (An (mF ?_))))))))
 exact lg ⟨(G.2.L_, G.2.At, M.1.Rates, M.1.Ports, M.1.Pumps, G.1.Rates, G.1.Ports, G.1.Pumps), W, X, h, I, I⟩ [0, 1, 2, 3]
 refine mH [] I I I (nB (cs := [.v (.slice none 0 0), .v (.slice none 0 0), .v (.slice none 0 0)]) (m := 3) I I I I I (A1 I) (fun X => (mH [0] I I I (Dp [0] (Dh b9 _ _ _ ab) ?_))))
 rintro _ _ _ - ⟨rfl, rfl, rfl⟩
 refine mH [2] I I I (mP 2 0 0 (es' := [Au M.1]) I I I I I I I I (As I) I I (mH [3] I I I (mP 3 0 0 (es' := [Au G.1]) I I I I I I I I (As I) I I (An (mF ?_)))))
 exact lg ⟨(G.2.L_, G.2.At, M.1.Rates, M.1.Ports, M.1.Pumps, G.1.Rates, G.1.Ports, G.1.Pumps), W, X, h, I, I⟩ [0, 1, 2, 3]
 refine mH [] I I I (nB (cs := [.v (.slice none 0 0), .v (.slice none 0 0), .v (.slice none 0 0)]) (m := 3) I I I I I (A1 I) (fun X => (mH [0] I I I (Dp [0] (Dh b9 _ _ _ hx122) ?_))))
 rintro _ _ _ - ⟨rfl, rfl, rfl⟩
 refine mH [0] I I I (Dp [0] (Dh b9 _ _ _ ab) ?_)
 rintro _ _ _ - ⟨rfl, rfl, rfl⟩
 refine mH [2] I I I (mP 2 0 0 (es' := [Au M.1]) I I I I I I I I (As I) I I (mH [3] I I I (mP 3 0 0 (es' := [Au G.1]) I I I I I I I I (As I) I I (An (mF ?_)))))
 exact lg ⟨(G.2.L_, G.2.At, M.1.Rates, M.1.Ports, M.1.Pumps, G.1.Rates, G.1.Ports, G.1.Pumps), W, X, h, I, I⟩ [0, 1, 2, 3]
 refine mH [] I I I (nB (cs := [.v (.slice none 0 0), .v (.slice none 0 0), .v (.slice none 0 0)]) (m := 3) I I I I I (A1 I) (fun X => (mV ?_ ?_)))
 refine mH [0] I I I (Dp [0] (Dh b9 _ _ _ hx122) ?_)
 rintro _ _ _ - ⟨rfl, rfl, rfl⟩
 refine mV ?_ ?_
 refine mH [0] I I I (Dp [0] (Dh b9 _ _ _ ab) ?_)
 rintro _ _ _ - ⟨rfl, rfl, rfl⟩
 refine mH [] I I I (nB (cs := [.v (.slice none 0 0), .v (.slice none 0 0), .v (.slice none 0 0)]) (m := 3) I I I I I (A1 I) (fun W => (mH [3] I I I (mP 3 0 0 (es' := [Au M.1]) I I I I I I I I (As I) I I (mH [2] I I I (mP 2 0 0 (es' := [Au G.1]) I I I I I I I I (As I) I I (An (mF ?_))))))))
 exact lg ⟨(G.2.L_, G.2.At, M.1.Rates, M.1.Ports, M.1.Pumps, G.1.Rates, G.1.Ports, G.1.Pumps), W, X, h, I, I⟩ [0, 1, 3, 2]
 refine mH [] I I I (nB (cs := [.v (.slice none 0 0), .v (.slice none 0 0), .v (.slice none 0 0)]) (m := 3) I I I I I (A1 I) (fun W => (mH [0] I I I (Dp [0] (Dh b9 _ _ _ ab) ?_))))
 rintro _ _ _ - ⟨rfl, rfl, rfl⟩
 refine mH [3] I I I (mP 3 0 0 (es' := [Au M.1]) I I I I I I I I (As I) I I (mH [2] I I I (mP 2 0 0 (es' := [Au G.1]) I I I I I I I I (As I) I I (An (mF ?_)))))
 exact lg ⟨(G.2.L_, G.2.At, M.1.Rates, M.1.Ports, M.1.Pumps, G.1.Rates, G.1.Ports, G.1.Pumps), W, X, h, I, I⟩ [0, 1, 3, 2]
 refine mH [] I I I (nB (cs := [.v (.slice none 0 0), .v (.slice none 0 0), .v (.slice none 0 0)]) (m := 3) I I I I I (A1 I) (fun W => (mH [0] I I I (Dp [0] (Dh b9 _ _ _ hx122) ?_))))
 rintro _ _ _ - ⟨rfl, rfl, rfl⟩
 refine mH [0] I I I (Dp [0] (Dh b9 _ _ _ ab) ?_)
 rintro _ _ _ - ⟨rfl, rfl, rfl⟩
 refine mH [3] I I I (mP 3 0 0 (es' := [Au M.1]) I I I I I I I I (As I) I I (mH [2] I I I (mP 2 0 0 (es' := [Au G.1]) I I I I I I I I (As I) I I (An (mF ?_)))))
 exact lg ⟨(G.2.L_, G.2.At, M.1.Rates, M.1.Ports, M.1.Pumps, G.1.Rates, G.1.Ports, G.1.Pumps), W, X, h, I, I⟩ [0, 1, 3, 2]
 rintro s ob ⟨Z, b21, b22, h, rfl, rfl⟩
 unfold Sy.J1 at h
 refine Aa (fun y23 hy23 => ?_)
 obtain ⟨r24, hx25, h⟩ := Ab h
 obtain ⟨kk, hkk⟩ : ∃ kk : Nat, kk = ((Fy by_2 (r24.1.length : Int)).getD 0).toNat := ⟨_, rfl⟩
 refine mE (Al 2 [.o 0 1, .o 1 2] I ⟨I, I, trivial⟩ (mG [] I (Cb I I I (Xi kk _ _ _ hx25) (A1 I) ?_)))
 rintro _ _ ⟨v26, Y, rfl, rfl⟩
 refine Af 5 I (mF ?_)
 subst hy23
 refine Aa (fun y27 hy27 => ?_)
 obtain ⟨r28, hx29, h⟩ := Ab h
 refine mE (Al 2 [.o 0 1, .o 1 3] I ⟨I, I, trivial⟩ (mG [] I (Cb I I I (R4 _ _ _ hx29) (A1 I) ?_)))
 rintro _ _ ⟨v30, rfl, rfl⟩
 refine Af 5 I (mF ?_)
 subst hy27
 refine Aa (fun y31 hy31 => ?_)
 obtain ⟨l33, hx34, h⟩ := Ab h
 refine mE (mG [] I (mS (sz := 1) (es := ([] : List Bool).map rB) I I I I I I I I I I I (A1 I) (fun v32 => (Al 2 [.o 1 2] I ⟨I, trivial⟩ (mG [7] I (mT 7 I hx34 (fun v35 => (Af 1 I (mF ?_)))))))))
 subst hy31
 refine Aa (fun y36 hy36 => ?_)
 obtain ⟨r37, hx38, h⟩ := Ab h
 refine mE (Al 5 [.o 2 1, .l 3 (aa.1.Segments.length : Int)] I ⟨A0, I, trivial⟩ (mG [0] I (Dp [0] (Bu b9 _ _ _ hx38) ?_)))
 rintro _ _ _ - ⟨rfl, rfl, rfl⟩
 refine Af 1 I (mF ?_)
 subst hy36
 refine iQ [(1, _), (2, _), (7, _), (8, _), (9, _), (11, _), (13, _), (15, _), (16, _)] ⟨I, I, I, I, I, I, I, I, I, trivial⟩ I (fun C1 v hv hB => ?_)
 have hX : VR C1.H0 (v 11) (.list 4 (r24.1.map Am)) := hv 11 _ _ I (.usd 4 I (L8 5 I))
 have hY : VR C1.H0 (v 13) (.list 4 (r28.1.map Am)) := hv 13 _ _ I (.us 6 I)
 clear hv
 refine G0 (fun y39 hy39 => (mK ?_))
 obtain ⟨r40, hx41, h⟩ := Ab h
 obtain ⟨r43, hx44, h⟩ := Ab h
 obtain ⟨r46, hx47, h⟩ := Ab h
 refine mE (Af 2 I (mZ (D1 62 I hX) (mZ (D1 63 I hY) (mG [] I (Cb I I I (aI _ _ _ hx41) (A1 I) ?_)))))
 rintro _ _ ⟨v42, rfl, rfl⟩
 refine Af 2 I (mZ (D1 65 I hX) (mZ (D1 66 I hY) (mG [] I (Cb I I I (Mj _ _ _ hx44) (A1 I) ?_))))
 rintro _ _ ⟨v45, rfl, rfl⟩
 refine mG [] I (By I (.refl _) I I (.cons (.us 0 I) (.cons (.us 1 I) (.rest _))) I (Ew _ _ _ hx47) (A1 I) (by rintro _ _ ⟨rfl, _⟩; rfl) ?_)
 rintro _ ⟨_, rfl, -⟩
 refine Af 1 I (mF (mM (Ghost.pick [] I (by decide)) (Aq h I ?_ ?_)))
 intro hc48 h
 refine Ai I ?_
 obtain rfl := Option.some.inj h
 exact mL (hB.out [(6, .v (.bool false))] ⟨I, I, I, I, I, I, I, I, I, trivial⟩ ⟨I, trivial⟩ I ⟨.inr I, [_], [], ⟨I, trivial⟩, Cm, I, I⟩)
 intro hc48 h
 refine mI ?_
 subst hy39
 refine G0 (fun y49 hy49 => ?_)
 obtain ⟨r50, hx51, h⟩ := Ab h
 obtain ⟨r53, hx54, h⟩ := Ab h
 refine mE (Af 3 I (mZ (D1 71 I hX) (mZ (D1 72 I hY) (mZ (D1 73 I hX) (mG [] I (Cb I I I (Mj _ _ _ hx51) (A1 I) ?_))))))
 rintro _ _ ⟨v52, rfl, rfl⟩
 refine mZ (Be [0] (K := [.us v52 50 4 (r50.map Am)]) I [(74, .list 4 (r50.map Am))] ⟨⟨_, I, .us 0 I⟩, trivial⟩ (ob' := []) (.rest _)) (mG [] I (Cb I I I (Rt _ _ _ hx54) (A1 I) ?_))
 rintro _ _ ⟨v55, rfl, rfl⟩
 refine Af 5 I (mF ?_)
 subst hy49
 refine G0 (fun y56 hy56 => ?_)
 obtain ⟨r57, hx58, h⟩ := Ab h
 obtain ⟨r60, hx61, h⟩ := Ab h
 refine mE (Af 3 I (mZ (D1 79 I hX) (mZ (D1 80 I hY) (mZ (D1 81 I hX) (mG [] I (Cb I I I (Mj _ _ _ hx58) (A1 I) ?_))))))
 rintro _ _ ⟨v59, rfl, rfl⟩
 refine mZ (Be [1] (K := [.us v59 50 4 (r57.map Am)]) I [(82, .list 4 (r57.map Am))] ⟨⟨_, I, .us 0 I⟩, trivial⟩ (ob' := [.us v55 50 4 (r53.1.map Am)]) (.rest _)) (mG [] I (Cb I I I (R9 _ _ _ hx61) (A1 I) ?_))
 rintro _ _ ⟨v62, rfl, rfl⟩
 refine Af 5 I (mF ?_)
 subst hy56
 refine G0 (fun y63 hy63 => ?_)
 obtain ⟨r64, hx65, h⟩ := Ab h
 refine mE (Af 2 I (mZ (D1 87 I hX) (mZ (D1 88 I hY) (mG [] I (Cb I I I (Rt _ _ _ hx65) (A1 I) ?_)))))
 rintro _ _ ⟨v66, rfl, rfl⟩
 refine Af 5 I (mF ?_)
 subst hy63
 refine G0 (fun y67 hy67 => ?_)
 obtain ⟨r68, hx69, h⟩ := Ab h
 refine mE (Af 2 I (mZ (D1 93 I hX) (mZ (D1 94 I hY) (mG [] I (Cb I I I (R9 _ _ _ hx69) (A1 I) ?_)))))
 rintro _ _ ⟨v70, rfl, rfl⟩
 refine Af 5 I (mF ?_)
 subst hy67
 refine G0 (fun y71 hy71 => (Ah (fun s ob => ∃ (j79 : Bool), Sy.J2 odd_1 by_2 aa Z r24 r28 l33 r37 j79 = some r ∧ s = [(117, .v (.bool j79))] ∧ ob = []) [(1, _), (2, _), (7, _), (8, _), (9, _), (11, _), (13, _), (15, _), (16, _)] ⟨I, I, I, I, I, I, I, I, I, trivial⟩ ?_ ?_))
 rcases Bool.eq_false_or_eq_true ((r53.2 != r60.2)) with ac | ac
 replace h := Bv ac h
 refine mE (Af 2 I (B0 (Fk I I I I) I (Af 1 I (Ad 101 I ac (Af 16 I (mF ?_))))))
 exact lg ⟨true, h, I, I⟩ []
 replace h := Bw ac h
 rcases Bool.eq_false_or_eq_true ((r64.2 != r68.2)) with ad | ad
 replace h := Bv ad h
 refine mE (Af 2 I (B0 (Fk I I I I) I (Af 1 I (Ad 101 I ac (Af 2 I (Bc I I I (B0 (Fk I I I I) I (Af 2 I (Ad 106 I ad (Af 11 I (mF ?_)))))))))))
 exact lg ⟨true, h, I, I⟩ []
 replace h := Bw ad h
 obtain ⟨r116, hx117, h⟩ := Ab h
 rcases Bool.eq_false_or_eq_true ((!r116)) with hg118 | hg118
 replace h := Bv hg118 h
 refine mE (Af 2 I (B0 (Fk I I I I) I (Af 1 I (Ad 101 I ac (Af 2 I (Bc I I I (B0 (Fk I I I I) I (Af 2 I (Ad 106 I ad (Af 2 I (Bc I I I (mG [] I (By I (.refl _) I I (.cons (.us 0 I) (.cons (.us 1 I) (.rest _))) I (Ew _ _ _ hx117) (A1 I) (by rintro _ _ ⟨rfl, _⟩; rfl) ?_)))))))))))))
 rintro _ ⟨_, rfl, -⟩
 refine Af 3 I (Ad 112 I hg118 (Af 5 I (mF ?_)))
 exact lg ⟨true, h, I, I⟩ []
 replace h := Bw hg118 h
 obtain ⟨r119, hx120, h⟩ := Ab h
 refine mE (Af 2 I (B0 (Fk I I I I) I (Af 1 I (Ad 101 I ac (Af 2 I (Bc I I I (B0 (Fk I I I I) I (Af 2 I (Ad 106 I ad (Af 2 I (Bc I I I (mG [] I (By I (.refl _) I I (.cons (.us 0 I) (.cons (.us 1 I) (.rest _))) I (Ew _ _ _ hx117) (A1 I) (by rintro _ _ ⟨rfl, _⟩; rfl) ?_)))))))))))))
 rintro _ ⟨_, rfl, -⟩
 refine Af 3 I (Ad 112 I hg118 (Af 2 I (Bc I I I (mG [] I (By I (.refl _) I I (.cons (.us 2 I) (.cons (.us 3 I) (.rest _))) I (Ew _ _ _ hx120) (A1 I) (by rintro _ _ ⟨rfl, _⟩; rfl) ?_)))))
 rintro _ ⟨_, rfl, -⟩
 refine Af 2 I (mF ?_)
 exact lg ⟨(!r119), h, I, I⟩ []
 rintro s ob ⟨j79, h, rfl, rfl⟩
 unfold Sy.J2 at h
 refine Aq h I ?_ ?_
 intro hc80 h
 refine Ai I ?_
 obtain rfl := Option.some.inj h
 exact mL (hB.out [(6, .v (.bool false))] ⟨I, I, I, I, I, I, I, I, I, trivial⟩ ⟨I, trivial⟩ I ⟨.inr I, [_], [], ⟨I, trivial⟩, Cm, I, I⟩)
 intro hc80 h
 refine mI (hB.leave ⟨I, I, I, I, I, I, I, I, I, trivial⟩ ?_)
 subst hy71
 clear hB hX hY
 obtain ⟨w, O, h⟩ := Ab h
 refine Ah (fun s ob => ∃ (x' : List Path) (m' : List Bool) (es : List (List T)) (hs : List Hop) (vx wx vm : Value), Dy wx x' kk = es ∧ E2 x' kk = hs ∧ Sy.J5 odd_1 aa Z r37 x' m' = some r ∧ s = [(11, .v vx), (15, .v vm)] ∧ ob = [.arr b9 97 2 1 [Bx r37.2], .arr b13 32 6 1 [Ac aa.1], .arr b21 36 3 1 [[.list 1 (Z.2.2.1.map rI), .list 1 (Z.2.2.2.1.map rI), .list 1 (Z.2.2.2.2.1.map rB)]], .us vx 50 4 es, .us wx 53 2 (hs.map A9), .us vm 4 1 (m'.map rB)]) [(1, _), (7, _), (8, _), (9, _), (16, _)] ⟨I, I, I, I, I, trivial⟩ ?_ ?_
 unfold Sy.Sw at O
 refine mK (mE (Af 1 I (mQ (Yh 4 I I I I) I (Af 1 I (mF (Aq O I ?_ ?_))))))
 rotate_left
 intro hc O
 obtain rfl := Option.some.inj O
 refine mI ?_
 exact lg ⟨r24.1, l33, _, _, v26, Y, v35, rfl, rfl, h, I, I⟩ [0, 1, 2, 4, 5, 7]
 rotate_left
 intro hc O
 obtain ⟨kv, hk1, O⟩ := Ab O
 obtain ⟨e, he, O⟩ := Ab O
 obtain ⟨c, hc1, O⟩ := Ab O
 obtain ⟨hei, hex⟩ := Fj he
 have hek : e.1 = kk := by rw [hkk, hk1, hei]; rfl
 rw [hek] at hei hex O
 obtain ⟨gk, gh⟩ := Uo (u := Y) hex
 rw [gh]
 generalize hgl : Dy Y r24.1 kk = rows at gk
 have gl := Kd (u := Y) (l := r24.1) (k := kk)
 rw [hgl] at gl
 have set1 : ∀ q : Path, rows.set kk (Wb Y q) = Dy Y (r24.1.set kk q) kk := fun q => by rw [← hgl]; exact (Kc hex).1
 have set2 : ∀ q : Path, E2 (r24.1.set kk q) kk = q.Hops := fun q => (Kc (u := Y) (w := Y) hex).2
 refine mK (mE (Af 3 I (mQ (iJ 4 gl I I I I) I (mR (Ex _ _ _ hk1) (mQ (Bh 4 (m := kk) I I I I I I I hei gk) I (Af 1 I (mF ?_)))))))
 refine mK (mE (Af 1 I (mR (Ex _ _ _ hc1) (mF ?_))))
 refine mJ (Ai I (Aq O I ?_ ?_))
 ·intro hc O
  obtain ⟨u, hu, O⟩ := Ab O
  obtain rfl := Option.some.inj O
  refine mE (Af 2 I (mR (Ex _ _ _ hu) (Af 3 I (mG [4] I (A5 4 kk 3 I I I gk I I I I (As I) I (set1 ⟨e.2.In, e.2.Out, e.2.Hops, wr (u - 1)⟩) (mF ?_))))))
  exact lg ⟨_, _, _, _, v26, Y, v35, I, set2 _, h, I, I⟩ [0, 1, 2, 4, 5, 7]
 intro hc O
 refine Ai I (Aq O I ?_ ?_)
 ·intro hc O
  obtain ⟨u, hu, O⟩ := Ab O
  obtain rfl := Option.some.inj O
  refine mE (Al 6 [.o 3 1, .l 4 (aa.1.Ports.length : Int)] I ⟨A0, I, trivial⟩ (mR (Ex _ _ _ hu) (Af 3 I (mG [4] I (A5 4 kk 0 I I I gk I I I I (As I) I (set1 ⟨wr (u - 1), e.2.Out, e.2.Hops, e.2.Rate⟩) (mF ?_))))))
  exact lg ⟨_, _, _, _, v26, Y, v35, I, set2 _, h, I, I⟩ [0, 1, 2, 4, 5, 7]
 intro hc O
 refine Ai I (Aq O I ?_ ?_)
 ·intro hc O
  obtain ⟨u, hu, O⟩ := Ab O
  obtain rfl := Option.some.inj O
  refine mE (Al 6 [.o 3 1, .l 4 (aa.1.Ports.length : Int)] I ⟨A0, I, trivial⟩ (mR (Ex _ _ _ hu) (Af 3 I (mG [4] I (A5 4 kk 1 I I I gk I I I I (As I) I (set1 ⟨e.2.In, wr (u - 1), e.2.Hops, e.2.Rate⟩) (mF ?_))))))
  exact lg ⟨_, _, _, _, v26, Y, v35, I, set2 _, h, I, I⟩ [0, 1, 2, 4, 5, 7]
 have same : ∀ hs : List Hop, Dy Y (r24.1.set kk ⟨e.2.In, e.2.Out, hs, e.2.Rate⟩) kk = rows := fun hs => by rw [← hgl]; exact Ra hex
 intro hc O
 refine Ai I (Aq O I ?_ ?_)
 ·intro hc O
  refine mK (mE (Af 3 I (mQ (Ay 4 kk 2 I I I gk I (y := .v Y) I) I (mQ (Cf 5 I I I I) I (Af 1 I (mF (Aq O I ?_ ?_)))))))
  ·intro hc O
   obtain ⟨q, hq, O⟩ := Ab O
   obtain ⟨hqi, hqx⟩ := Fj hq
   obtain rfl := Option.some.inj O
   refine Bq 5 q.1 I hqx (fun hf => Bm (.still 0 (.still 1 (.still 2 (.still 3 (.still 4 (.still 5 (.still 6 (.still 7 (.still 8 (.still 9 (.still 10 (.still 11 (.still 12 (.still 13 (.drop 14 .nil))))))))))))))) [4, 5] [_, _] I (A4 3 I (AP.o I (Ay 0 kk 2 I I I gk I (y := .v Y) I) I (A4 3 I (AP.o I (Ay 0 kk 2 I I I gk I (y := .v Y) I) I (mU I (Ar (m := q.1) I I I I I hf I hqi hqx) I (A4 1 I (AP.o I (Ay 1 q.1 1 I I I (Ae hqx) I (y := .v (.bool q.2.Back)) I) I (A4 1 I (mU I (Ar (m := q.1) I I I I I hf I hqi hqx) I (A4 1 I (mW [5] I I I (A5 5 q.1 1 I I I (Ae hqx) I I I I (As I) I (Ca (x := ⟨q.2.Segment, !q.2.Back⟩) I) (An (mF ?_)))))))))))))))
   exact lg ⟨_, _, _, _, v26, Y, v35, same _, set2 _, h, I, I⟩ [0, 1, 2, 4, 5, 7]
  ·intro hc O
   obtain rfl := Option.some.inj O
   refine mI ?_
   exact lg ⟨_, _, _, _, v26, Y, v35, hgl, gh, h, I, I⟩ [0, 1, 2, 4, 5, 7]
 intro hc O
 refine Ai I (Aq O I ?_ ?_)
 ·intro hc O
  refine mK (mE (Af 3 I (mQ (Ay 4 kk 2 I I I gk I (y := .v Y) I) I (mQ (Cf 5 I I I I) I (Af 1 I (mF (Aq O I ?_ ?_)))))))
  ·intro hc O
   obtain ⟨u, hu, O⟩ := Ab O
   obtain ⟨q, hq, O⟩ := Ab O
   obtain ⟨hqi, hqx⟩ := Fj hq
   obtain rfl := Option.some.inj O
   refine Bq 5 q.1 I hqx (fun hf => Bm (.still 0 (.still 1 (.still 2 (.still 3 (.still 4 (.still 5 (.still 6 (.still 7 (.still 8 (.act 9 (.still 10 (.still 11 (.still 12 (.drop 13 .nil)))))))))))))) [1, 4, 5] [_, _, _] I (A4 3 I (AP.o I (Ay 1 kk 2 I I I gk I (y := .v Y) I) I (Bo 5 [.o 2 0, .l 3 (aa.1.Segments.length : Int)] I ⟨A0, I, trivial⟩ (nC I (Ex _ _ _ hu) (A4 1 I (mU I (Ar (m := q.1) I I I I I hf I hqi hqx) I (A4 1 I (mW [5] I I I (A5 5 q.1 0 I I I (Ae hqx) I I I I (As I) I (Ca (x := ⟨wr (u - 1), q.2.Back⟩) I) (An (mF ?_))))))))))))
   exact lg ⟨_, _, _, _, v26, Y, v35, same _, set2 _, h, I, I⟩ [0, 1, 2, 4, 5, 7]
  ·intro hc O
   obtain rfl := Option.some.inj O
   refine mI ?_
   exact lg ⟨_, _, _, _, v26, Y, v35, hgl, gh, h, I, I⟩ [0, 1, 2, 4, 5, 7]
 intro hc O
 refine Ai I (Aq O I ?_ ?_)
 ·intro hc O
  obtain ⟨u, hu, O⟩ := Ab O
  obtain ⟨hs, hhs, O⟩ := Ab O
  obtain rfl := Option.some.inj O
  refine Bm (.still 0 (.still 1 (.still 2 (.still 3 (.still 4 (.still 5 (.still 6 (.still 7 (.still 8 (.act 9 (.still 10 (.act 11 (.act 12 (.still 13 (.still 14 (.drop 15 .nil)))))))))))))))) [1, 4] [_, _] I (A4 4 I (AP.o I (Ay 1 kk 2 I I I gk I (y := .v Y) I) I (Bo 4 [.o 2 0, .l 3 (aa.1.Segments.length : Int)] I ⟨A0, I, trivial⟩ (nC I (Ex _ _ _ hu) (Jr I (Bi (l := [.v (.int .i64 u), .v (.bool false)]) Gj I) I (mH [] I I I (mO 2 (([⟨u, false⟩] : List Hop).map A9) (mH [5] I I I (mT 5 I hhs (fun w2 => A4 2 I (mX 5 I (fun w2o => (mW [4] I I I (A5 4 kk 2 I I I gk I I (Bd w2o) I (As I) I I (An (mF ?_))))))))))))))))
  have e1 : rows.set kk (Wb w2 e.2) = Dy w2 (r24.1.set kk ⟨e.2.In, e.2.Out, hs, e.2.Rate⟩) kk := by rw [← hgl]; exact (Kc (q := ⟨e.2.In, e.2.Out, hs, e.2.Rate⟩) hex).1
  exact lg ⟨_, _, _, _, v26, w2, v35, e1.symm, set2 _, h, I, I⟩ [0, 1, 2, 4, 5, 7]
 intro hc O
 refine Ai I (Aq O I ?_ ?_)
 ·intro hc O
  obtain ⟨l2, hl2, O⟩ := Ab O
  obtain rfl := Option.some.inj O
  obtain ⟨q1, q2⟩ := E8 hl2
  obtain ⟨e1, e2⟩ := Up (u := Y) (m := r28.1) (gs hex).1
  rw [q2, hgl] at e1
  rw [q2, gh] at e2
  refine mE (Af 2 I (mG [4] I (Et 4 (es' := Dy Y l2 kk) I I I I I I I I I (Qf 6 I I) (by rw [gl, List.length_map]; exact q1) e1.symm (A1 I) (fun v2 => (Af 1 I (mF ?_))))))
  exact lg ⟨_, _, _, _, v2, Y, v35, I, e2, h, I, I⟩ [0, 1, 2, 4, 5, 7]
 intro hc O
 refine Ai I (Aq O I ?_ ?_)
 ·intro hc O
  obtain ⟨l2, hl2, O⟩ := Ab O
  obtain rfl := Option.some.inj O
  refine mE (Af 1 I (mG [] I (mO 1 (([true] : List Bool).map rB) (mG [7] I (mT 7 I hl2 (fun v2 => (Af 1 I (mF ?_))))))))
  exact lg ⟨_, _, _, _, v26, Y, v2, hgl, gh, h, I, I⟩ [0, 1, 2, 4, 5, 7]
 intro hc O
 obtain rfl := Option.some.inj O
 refine mI ?_
 exact lg ⟨_, _, _, _, v26, Y, v35, hgl, gh, h, I, I⟩ [0, 1, 2, 4, 5, 7]
 rintro s ob ⟨x', m', es, hs, vx, wx, vm, rfl, rfl, h, rfl, rfl⟩
 unfold Sy.J5 at h
 refine mM (Be [3, 4] (K := [.us vx 50 4 (Dy wx x' kk), .us wx 53 2 ((E2 x' kk).map A9)]) I [(11, .list 4 (x'.map Am))] ⟨⟨_, I, .usd 0 I (L8 1 I)⟩, trivial⟩ (ob' := [.arr b9 97 2 1 [Bx r37.2], .arr b13 32 6 1 [Ac aa.1], .arr b21 36 3 1 [[.list 1 (Z.2.2.1.map rI), .list 1 (Z.2.2.2.1.map rI), .list 1 (Z.2.2.2.2.1.map rB)]], .us vm 4 1 (m'.map rB)]) (.rest _)) ?_
 refine Ah (fun s ob => ∃ (j92 : (List Bt) × (List Sg) × (List Port) × (List Sn) × Int × Int × Li × Li × (List Bool)), Sy.J3 x' m' r37 j92 = some r ∧ s = [] ∧ ob = [.arr b13 32 6 1 [[.list 1 (j92.1.map rS), .list 7 (j92.2.1.map Ap), .list 3 (j92.2.2.1.map Bp), .list 5 (j92.2.2.2.1.map Bl), .v (.int .i64 j92.2.2.2.2.1), .v (.int .i64 j92.2.2.2.2.2.1)]], .arr b21 36 3 1 [[.list 1 (j92.2.2.2.2.2.2.1.map rI), .list 1 (j92.2.2.2.2.2.2.2.1.map rI), .list 1 (j92.2.2.2.2.2.2.2.2.map rB)]], .us vm 4 1 (m'.map rB)]) [(8, _), (9, _), (11, _), (15, _), (16, _)] ⟨I, I, I, I, I, trivial⟩ ?_ ?_
 refine Aa (fun y104 hy104 => ?_)
 obtain ⟨r105, hx106, h⟩ := Ab h
 refine mE (Af 1 I (mR (Ex _ _ _ hx106) (mF ?_)))
 subst hy104
 refine mJ (Ai I (Aq h I ?_ ?_))
 intro hc108 h
 obtain ⟨r109, hx110, h⟩ := Ab h
 refine mE (Al 2 [.o 1 1] I ⟨I, trivial⟩ (mG [0] I (Dp [0] (bR b9 _ _ _ hx110) ?_)))
 rintro _ _ _ - ⟨rfl, rfl, rfl⟩
 refine mG [1] I (mP 1 0 0 (es' := [Ac r109.1]) I I I I I I I I (As I) I I (mF ?_))
 exact lg ⟨(r109.1.Nodes, r109.1.Segments, r109.1.Ports, r109.1.Stations, r109.1.Vapour, r109.1.Settle, Z.2.2.1, Z.2.2.2.1, Z.2.2.2.2.1), h, I, I⟩ [1, 2, 3]
 intro hc108 h
 refine Ai I (Aq h I ?_ ?_)
 intro hc111 h
 obtain ⟨r112, hx113, h⟩ := Ab h
 refine mE (Al 2 [.o 1 2] I ⟨I, trivial⟩ (mG [0] I (Dp [0] (aS b9 _ _ _ hx113) ?_)))
 rintro _ _ _ - ⟨rfl, rfl, rfl⟩
 refine mG [2] I (mP 2 0 0 (es' := [Au r112.1]) I I I I I I I I (As I) I I (mF ?_))
 exact lg ⟨(aa.1.Nodes, aa.1.Segments, aa.1.Ports, aa.1.Stations, aa.1.Vapour, aa.1.Settle, r112.1.Rates, r112.1.Ports, r112.1.Pumps), h, I, I⟩ [1, 2, 3]
 intro hc111 h
 refine mI ?_
 exact lg ⟨(aa.1.Nodes, aa.1.Segments, aa.1.Ports, aa.1.Stations, aa.1.Vapour, aa.1.Settle, Z.2.2.1, Z.2.2.2.1, Z.2.2.2.2.1), h, I, I⟩ [1, 2, 3]
 rintro s ob ⟨j92, h, rfl, rfl⟩
 unfold Sy.J3 at h
 refine Ah (fun s ob => ∃ (j98 : Bool), Sy.J4 j98 = some r ∧ s = [(6, .v (.bool j98))] ∧ ob = []) [] trivial ?_ ?_
 obtain ⟨r99, hx100, h⟩ := Ab h
 rcases Bool.eq_false_or_eq_true (r99) with hg101 | hg101
 replace h := Bv hg101 h
 obtain ⟨r102, hx103, h⟩ := Ab h
 refine mE (Al 5 [.o 0 0, .o 1 1] I ⟨I, I, trivial⟩ (mG [] I (By I (.refl _) I I (.cons (.refl _) (.cons (.refl _) (.cons (.refl _) (.cons (.us 2 I) (.rest _))))) I (Sb _ _ _ _ _ _ hx100) (A1 I) (by rintro _ _ ⟨rfl, _⟩; rfl) ?_)))
 rintro _ ⟨_, rfl, -⟩
 refine Af 1 I (Ad 249 I hg101 (Bc I I I (mR (Rz  _ hx103) (Af 2 I (mF ?_)))))
 exact lg ⟨r102, h, I, I⟩ []
 replace h := Bw hg101 h
 refine mE (Al 5 [.o 0 0, .o 1 1] I ⟨I, I, trivial⟩ (mG [] I (By I (.refl _) I I (.cons (.refl _) (.cons (.refl _) (.cons (.refl _) (.cons (.us 2 I) (.rest _))))) I (Sb _ _ _ _ _ _ hx100) (A1 I) (by rintro _ _ ⟨rfl, _⟩; rfl) ?_)))
 rintro _ ⟨_, rfl, -⟩
 refine Af 1 I (Ad 249 I hg101 (Af 3 I (mF ?_)))
 exact lg ⟨false, h, I, I⟩ []
 rintro s ob ⟨j98, h, rfl, rfl⟩
 unfold Sy.J4 at h
 obtain rfl := Option.some.inj h
 exact mL ⟨.inr I, [_], [], ⟨I, trivial⟩, Cm, I, I⟩
end Go.Proofs.YtihdchjpepkpbaaGreat
namespace Go.Aw
set_option linter.unusedVariables false
set_option linter.unusedSimpArgs false
def Ok {α : Type} (o : Option α) (P : α → Prop) : Prop := ∃ r, o = some r ∧ P r
section
variable {α β S B : Type}
theorem Ok.pure {x : α} {P : α → Prop} (h : P x) : Ok (some x) P := ⟨x, rfl, h⟩
theorem So {o : Option α} {v : α} (h : Ok o fun r => r = v) : o = some v := by obtain ⟨r, h, rfl⟩ := h; exact h
theorem Ok.get {o : Option α} {P : α → Prop} (h : Ok o P) : ∃ r, o = some r ∧ P r := h
theorem Ok.mono {o : Option α} {P Q : α → Prop} (h : Ok o P) (k : ∀ x, P x → Q x) : Ok o Q := let ⟨r, h1, h2⟩ := h; ⟨r, h1, k r h2⟩
theorem Ok.bind {o : Option α} {f : α → Option β} {P : β → Prop} {Q : α → Prop} (h : Ok o Q) (k : ∀ x, Q x → Ok (f x) P) : Ok (o.bind f) P := by
 obtain ⟨r, rfl, G⟩ := h; exact k r G
theorem Ok.bind' {o : Option α} {f : α → Option β} {P : β → Prop} (h : Ok o fun x => Ok (f x) P) : Ok (o.bind f) P := h.bind fun _ k => k
theorem Ok.eq {o : Option α} {P : α → Prop} {x : α} (h : o = some x) (k : P x) : Ok o P := ⟨x, h, k⟩
theorem kL {c : Prop} [Decidable c] {a b : Option α} {P : α → Prop} (h1 : c → Ok a P) (h2 : ¬ c → Ok b P) : Ok (if c then a else b) P := by
 split <;> simp_all
theorem Ok.map {o : Option α} {f : α → β} {P : β → Prop} (h : Ok o fun x => P (f x)) : Ok (o.map f) P := by
 obtain ⟨r, rfl, G⟩ := h; exact ⟨_, rfl, G⟩
theorem Ok.chk {p : Prop} [Decidable p] {P : Unit → Prop} (h : p) (k : P ()) : Ok (chk p) P := ⟨(), kI h, k⟩
theorem Ok.ix {l : List α} {i : Int} {P : Nat × α → Prop} (k : Nat) (hi : i = (k : Int)) (G : k < l.length) (h : P (k, l[k])) : Ok (ix l i) P := by
 subst hi; exact ⟨_, A8 (gq G), h⟩
theorem Ok.ix' {l : List α} {i : Int} {P : Nat × α → Prop} (M : 0 ≤ i) (O : i < (l.length : Int)) (h : ∀ (k : Nat) (x : α), i = (k : Int) → l[k]? = some x → P (k, x)) : Ok (Aw.ix l i) P := by
 obtain ⟨k, rfl⟩ : ∃ k : Nat, i = (k : Int) := ⟨i.toNat, by omega⟩
 have G : k < l.length := by omega
 exact ⟨_, A8 (gq G), h k _ rfl (gq G)⟩
theorem Ok.app {l m : List α} {P : List α → Prop} (hl : l.length + m.length ≤ 68719476736) (h : P (l ++ m)) : Ok (C0 l m) P := ⟨_, Jy hl, h⟩
theorem Ok.mk {n : Int} {z : α} {P : List α → Prop} (m : Nat) (G : n = (m : Int)) (hl : m ≤ 68719476736) (h : P (List.replicate m z)) : Ok (Xm n z) P := by
 subst G; exact ⟨_, kC z hl, h⟩
theorem Ok.cat {a b : ByteArray} {P : ByteArray → Prop} (hl : a.size + b.size ≤ 68719476736) (h : P (a ++ b)) : Ok (cC a b) P := ⟨_, if_pos hl, h⟩
theorem Ok.quo {a b : Int} {P : Int → Prop} (hb : b ≠ 0) (h : P (wr (a.tdiv b))) : Ok (lN a b) P := ⟨_, if_pos hb, h⟩
theorem Ok.rem {a b : Int} {P : Int → Prop} (hb : b ≠ 0) (h : P (a.tmod b)) : Ok (gD a b) P := ⟨_, if_pos hb, h⟩
theorem Ok.sub {l : List α} {a b : Int} {P : List α → Prop} (x y : Nat) (G : a = (x : Int)) (hb : b = (y : Int)) (M : x ≤ y) (hl : y ≤ l.length) (h : P ((l.drop x).take (y - x))) : Ok (Wa l a b) P := by
 subst G; subst hb
 exact ⟨_, if_pos ⟨by omega, by omega, by omega⟩, by simpa using h⟩
theorem Kx {f : Nat → α → S → Option S} (I : Nat → S → Prop) (l : List α) : ∀ (m : List α) (k : Nat), l.drop k = m → ∀ st, I k st →
  (∀ k x st, l[k]? = some x → I k st → Ok (f k x st) (I (k + 1))) → k ≤ l.length → Ok (forS f k m st) (I l.length)
 | [], k, hm, st, hi, _, hk => by
  have : l.length - k = 0 := by simpa using congrArg List.length hm
  have : k = l.length := by omega
  subst this; exact .pure hi
 | x :: m, k, hm, st, hi, hf, hk => by
  have M : l[k]? = some x := by have := congrArg (fun z => z[0]?) hm; simpa using this
  have G : l.drop (k + 1) = m := by have := congrArg (List.drop 1) hm; simpa [Nat.add_comm] using this
  obtain ⟨X, O, W⟩ := hf k x st M hi
  simp only [forS, O]
  exact Kx I l m (k + 1) G X W hf (by have := (gs M).1; omega)
theorem Ok.forS {f : Nat → α → S → Option S} {l : List α} {st : S} {P : S → Prop} (I : Nat → S → Prop) (G : I 0 st)
  (hf : ∀ k x st, l[k]? = some x → I k st → Ok (f k x st) (I (k + 1))) (M : ∀ st, I l.length st → P st) : Ok (forS f 0 l st) P :=
 (Kx I l l 0 rfl st G hf (Nat.zero_le _)).mono M
theorem Ky {f : Nat → α → S → Option (S ⊕ B)} (I : Nat → S → Prop) (R : B → Prop) (l : List α) : ∀ (m : List α) (k : Nat), l.drop k = m → ∀ st, I k st →
  (∀ k x st, l[k]? = some x → I k st → Ok (f k x st) (Sum.elim (fun s => I (k + 1) s) R)) → k ≤ l.length → Ok (forL f k m st) (Sum.elim (fun s => I l.length s) R)
 | [], k, hm, st, hi, _, hk => by
  have : l.length - k = 0 := by simpa using congrArg List.length hm
  have : k = l.length := by omega
  subst this; exact .pure hi
 | x :: m, k, hm, st, hi, hf, hk => by
  have X : l[k]? = some x := by have := congrArg (fun z => z[0]?) hm; simpa using this
  have G : l.drop (k + 1) = m := by have := congrArg (List.drop 1) hm; simpa [Nat.add_comm] using this
  obtain ⟨M, O, W⟩ := hf k x st X hi
  cases M with
  | inl M =>
   simp only [forL, O]
   exact Ky I R l m (k + 1) G M W hf (by have := (gs X).1; omega)
  | inr b => simp only [forL, O]; exact .pure W
theorem Ok.forL {f : Nat → α → S → Option (S ⊕ B)} {l : List α} {st : S} {P : S ⊕ B → Prop} (I : Nat → S → Prop) (R : B → Prop) (G : I 0 st)
  (hf : ∀ k x st, l[k]? = some x → I k st → Ok (f k x st) (Sum.elim (fun s => I (k + 1) s) R)) (M : ∀ st, I l.length st → P (.inl st)) (O : ∀ b, R b → P (.inr b)) : Ok (forL f 0 l st) P :=
 (Ky I R l l 0 rfl st G hf (Nat.zero_le _)).mono fun x h => by cases x with | inl s => exact M s h | inr b => exact O b h
theorem Kz {f : Nat → S → Option S} (I : Nat → S → Prop) (n : Nat) : ∀ (m k : Nat), k + m = n → ∀ st, I k st →
  (∀ k st, k < n → I k st → Ok (f k st) (I (k + 1))) → Ok (forJ f k m st) (I n)
 | 0, k, hm, st, hi, _ => by have : k = n := (by omega); subst this; exact .pure hi
 | m + 1, k, hm, st, hi, hf => by
  obtain ⟨O, G, M⟩ := hf k st (by omega) hi
  simp only [forJ, G]
  exact Kz I n m (k + 1) (by omega) O M hf
theorem Ok.forJ {f : Nat → S → Option S} {n : Nat} {st : S} {P : S → Prop} (I : Nat → S → Prop) (G : I 0 st)
  (hf : ∀ k st, k < n → I k st → Ok (f k st) (I (k + 1))) (M : ∀ st, I n st → P st) : Ok (forJ f 0 n st) P :=
 (Kz I n n 0 (by omega) st G hf).mono M
theorem K0 {f : Nat → S → Option (S ⊕ B)} (I : Nat → S → Prop) (R : B → Prop) (n : Nat) : ∀ (m k : Nat), k + m = n → ∀ st, I k st →
  (∀ k st, k < n → I k st → Ok (f k st) (Sum.elim (fun s => I (k + 1) s) R)) → Ok (forI f k m st) (Sum.elim (fun s => I n s) R)
 | 0, k, hm, st, hi, _ => by have : k = n := (by omega); subst this; exact .pure hi
 | m + 1, k, hm, st, hi, hf => by
  obtain ⟨G, M, O⟩ := hf k st (by omega) hi
  cases G with
  | inl G =>
   simp only [forI, M]
   exact K0 I R n m (k + 1) (by omega) G O hf
  | inr b => simp only [forI, M]; exact .pure O
theorem Ok.forI {f : Nat → S → Option (S ⊕ B)} {n : Nat} {st : S} {P : S ⊕ B → Prop} (I : Nat → S → Prop) (R : B → Prop) (G : I 0 st)
  (hf : ∀ k st, k < n → I k st → Ok (f k st) (Sum.elim (fun s => I (k + 1) s) R)) (M : ∀ st, I n st → P (.inl st)) (O : ∀ b, R b → P (.inr b)) : Ok (forI f 0 n st) P :=
 (K0 I R n n 0 (by omega) st G hf).mono fun x h => by cases x with | inl s => exact M s h | inr b => exact O b h
theorem Kw {f : S → Option (S ⊕ B)} {P : B → Prop} (I : S → Prop) (μ : S → Nat) (hf : ∀ st, I st → Ok (f st) (Sum.elim (fun s => I s ∧ μ s < μ st) P)) :
  ∀ (n : Nat) (st : S), I st → μ st < n → Ok (Cl f n st) P
 | 0, st, _, h => absurd h (Nat.not_lt_zero _)
 | n + 1, st, hi, h => by
  obtain ⟨r, M, G⟩ := hf st hi
  cases r with
  | inl s =>
   simp only [Cl, M]
   exact Kw I μ hf n s G.1 (by have := G.2; omega)
  | inr b => simp only [Cl, M]; exact .pure G
theorem Ok.loop {f : S → Option (S ⊕ B)} {P : B → Prop} {st : S} (I : S → Prop) (μ : S → Nat) (G : I st) (M : μ st < 18446744073709551616)
  (hf : ∀ st, I st → Ok (f st) (Sum.elim (fun s => I s ∧ μ s < μ st) P)) : Ok (Cl f Du st) P :=
 Kw I μ hf _ st G M
end
def Ep : Li → Li → Int
 | w :: ws, x :: xs => w * x + Ep ws xs
 | _, _ => 0
theorem Ic (w : Li) : Ep w [] = 0 := by cases w <;> rfl
theorem Vi (w : Li) (n : Nat) : Ep w (List.replicate n 0) = 0 := by
 induction n generalizing w with
 | zero => exact Ic w
 | succ n ih => cases w with
  | nil => rfl
  | cons a w => simp [List.replicate_succ, Ep, ih]
theorem Gp {w l : Li} {k : Nat} {a x y : Int} (G : w[k]? = some a) (hl : l[k]? = some x) : Ep w (l.set k y) = Ep w l + a * (y - x) := by
 induction w generalizing l k with
 | nil => simp at G
 | cons b w ih =>
  cases l with
  | nil => simp at hl
  | cons z l =>
   cases k with
   | zero =>
    simp at G hl
    subst G; subst hl
    simp only [List.set_cons_zero, Ep, Int.mul_sub]; omega
   | succ k =>
    simp at G hl
    simp only [List.set_cons_succ, Ep, ih G hl]; omega
theorem Nb (w l : Li) : Ep w (l.map fun x => -x) = -Ep w l := by
 induction w generalizing l with
 | nil => rfl
 | cons b w ih =>
  cases l with
  | nil => rfl
  | cons z l => simp only [List.map_cons, Ep, ih, Int.mul_neg]; omega
theorem Fm {w l : Li} {k : Nat} {a x : Int} (G : w[k]? = some a) (hl : l[k]? = some x) : Ep w (l.take (k + 1)) = Ep w (l.take k) + a * x := by
 induction w generalizing l k with
 | nil => simp at G
 | cons b w ih =>
  cases l with
  | nil => simp at hl
  | cons z l =>
   cases k with
   | zero => simp at G hl; subst G; subst hl; simp [Ep, Ic]
   | succ k =>
    simp at G hl
    simp only [List.take_succ_cons, Ep, ih G hl]; omega
theorem Ee {α : Type} {l : List α} {k i : Nat} {x : α} : (l.set k x)[i]? = if k = i ∧ i < l.length then some x else l[i]? := by
 rw [List.getElem?_set]
 by_cases h : k = i
 ·subst h
  by_cases G : k < l.length
  ·simp [G]
  ·simp [G]
 ·simp [h]
theorem D5 {a b : Nat} (h : some (a : Int) = some (b : Int)) : a = b := Int.ofNat.inj (Option.some.inj h)
inductive Rep (u : List Int) : Nat → Nat → Nat → Prop
 | root {k : Nat} : u[k]? = some (k : Int) → Rep u 0 k k
 | step {k j m r : Nat} : u[k]? = some (j : Int) → k ≠ j → Rep u m j r → Rep u (m + 1) k r
theorem Rep.det {u : Li} {m k r : Nat} (h : Rep u m k r) : ∀ {M r' : Nat}, Rep u M k r' → m = M ∧ r = r' := by
 induction h with
 | root h =>
  intro M r' O
  cases O with
  | root _ => exact ⟨rfl, rfl⟩
  | step h1 h2 _ => rw [h] at h1; have := D5 h1; omega
 | step h1 h2 h3 ih =>
  intro M r' O
  cases O with
  | root h => rw [h] at h1; have := D5 h1; omega
  | step G h5 h6 =>
   rw [h1] at G; have G := D5 G
   subst G
   obtain ⟨rfl, rfl⟩ := ih h6
   exact ⟨rfl, rfl⟩
theorem Zs {u : Li} {k j i : Nat} (W : u[k]? = some (j : Int)) (hne : k ≠ j) (hj : u[j]? = some (i : Int)) :
  ∀ (m x r : Nat), Rep u m x r → ∃ m', m' ≤ m ∧ Rep (u.set k (i : Int)) m' x r := by
 intro m
 induction m using Nat.strongRecOn with
 | ind m ih =>
  intro x r h
  have X : k < u.length := (gs W).1
  cases h with
  | root h =>
   refine ⟨0, Nat.le_refl _, .root ?_⟩
   rw [List.getElem?_set]
   by_cases Z : k = x
   ·subst Z; rw [h] at W; have := D5 W; omega
   ·simp [Z, h]
  | @step _ y m' _ O h2 h3 =>
   by_cases Z : k = x
   ·subst Z
    rw [W] at O; have O := D5 O
    subst O
    cases h3 with
    | root M =>
     rw [hj] at M; have M := D5 M
     subst M
     obtain ⟨m2, Y, G⟩ := ih 0 (by omega) i i (.root hj)
     have : m2 = 0 := by omega
     subst this
     exact ⟨1, by omega, .step (by simp [X]) h2 G⟩
    | @step _ z m'' _ M h5 h6 =>
     rw [hj] at M; have M := D5 M
     subst M
     have hki : k ≠ i := by
      rintro rfl
      have := (Rep.det h6 (.step W hne (.step hj h5 h6))).1
      omega
     obtain ⟨m2, Y, G⟩ := ih m'' (by omega) i r h6
     exact ⟨m2 + 1, by omega, .step (by simp [X]) hki G⟩
   ·obtain ⟨m2, Y, G⟩ := ih m' (by omega) y r h3
    exact ⟨m2 + 1, by omega, .step (by rw [List.getElem?_set]; simp [Z, O]) h2 G⟩
structure Uni (n : Nat) (u : List Int) (d : Nat) (ρ : Nat → Nat) : Prop where
 len : u.length = n
 lt : ∀ k, k < n → ρ k < n
 rep : ∀ k, k < n → ∃ m, m ≤ d ∧ Rep u m k (ρ k)
theorem Uni.at_ {n d : Nat} {u : Li} {ρ : Nat → Nat} (h : Uni n u d ρ) {k : Nat} (O : k < n) : ∃ j : Nat, u[k]? = some (j : Int) ∧ j < n ∧ ρ j = ρ k := by
 obtain ⟨m, _, W⟩ := h.rep k O
 generalize X : ρ k = r at W
 cases W with
 | root h1 => exact ⟨k, h1, O, X⟩
 | @step _ j _ _ h1 h2 h3 =>
  have M : j < n := by
   rw [← h.len]
   cases h3 with
   | root h => exact (gs h).1
   | step h _ _ => exact (gs h).1
  refine ⟨j, h1, M, ?_⟩
  obtain ⟨Y, _, G⟩ := h.rep j M
  exact (G.det h3).2
theorem Uni.step {n d : Nat} {u : Li} {ρ : Nat → Nat} (h : Uni n u d ρ) {k j i m : Nat} (X : u[k]? = some (j : Int)) (hne : k ≠ j) (O : u[j]? = some (i : Int)) (hr : Rep u m k (ρ k)) :
  ∃ m', m' < m ∧ Rep (u.set k (i : Int)) m' i (ρ i) ∧ ρ i = ρ k := by
 have hj' : j < n := by rw [← h.len]; exact (gs O).1
 have hk' : k < n := by rw [← h.len]; exact (gs X).1
 obtain ⟨y, Y, hy, e2⟩ := h.at_ hj'
 obtain ⟨y2, Z, hy2, e4⟩ := h.at_ hk'
 rw [O] at Y; have Y := D5 Y; subst Y
 rw [X] at Z; have Z := D5 Z; subst Z
 have M : ρ i = ρ k := by rw [e2, e4]
 generalize ρ k = r at hr M
 cases hr with
 | root W => rw [W] at X; have := D5 X; omega
 | @step _ y m1 _ W h2 h3 =>
  rw [X] at W; have W := D5 W
  subst W
  have : ∃ m2, m2 ≤ m1 ∧ Rep u m2 i r := by
   cases h3 with
   | root G => rw [O] at G; have G := D5 G; exact ⟨0, by omega, by rw [G]; rw [G] at O; exact .root O⟩
   | step G h5 h6 => rw [O] at G; have G := D5 G; subst G; exact ⟨_, by omega, h6⟩
  obtain ⟨m2, G, h5⟩ := this
  obtain ⟨m3, h6, h7⟩ := Zs X hne O m2 i _ h5
  exact ⟨m3, by omega, by rw [M]; exact h7, M⟩
inductive Conn (R : Nat → Nat → Prop) : Nat → Nat → Prop
 | refl (x : Nat) : Conn R x x
 | edge {x y : Nat} : R x y → Conn R x y
 | symm {x y : Nat} : Conn R x y → Conn R y x
 | trans {x y z : Nat} : Conn R x y → Conn R y z → Conn R x z
theorem Conn.mono {R R' : Nat → Nat → Prop} (h : ∀ x y, R x y → Conn R' x y) {x y : Nat} (c : Conn R x y) : Conn R' x y := by
 induction c with
 | refl x => exact .refl x
 | edge e => exact h _ _ e
 | symm _ ih => exact ih.symm
 | trans _ _ i1 i2 => exact i1.trans i2
end Go.Aw
namespace Go.Proofs.YtihdchjpepkpbaaGreat
set_option linter.unusedVariables false
set_option linter.unusedSimpArgs false
open Go.Aw
abbrev V9 := KS
structure SrcOk (s : V9) : Prop where
 at0 : 0 ≤ s.At
 at1 : s.At ≤ (s.L_.length : Int)
 len : s.L_.length ≤ 2000
theorem Ax {α : Type} {c : Prop} [Decidable c] {a b : Option α} {P : α → Prop} (h1 : c → Ok a P) (h2 : ¬ c → Ok b P) : Ok (if decide c = true then a else b) P := by
 by_cases G : c
 ·rw [if_pos (by simp [G])]; exact h1 G
 ·rw [if_neg (by simp [G])]; exact h2 G
theorem A7 {α : Type} {c : Bool} {a b : Option α} {P : α → Prop} (h1 : c = true → Ok a P) (h2 : c = false → Ok b P) : Ok (if c = true then a else b) P := by
 cases c
 ·rw [if_neg (by simp)]; exact h2 rfl
 ·rw [if_pos rfl]; exact h1 rfl
theorem Gq {α : Type} {c : Bool} {a b : Option α} {P : α → Prop} (h1 : c = false → Ok a P) (h2 : c = true → Ok b P) : Ok (if (!c) = true then a else b) P := by
 cases c
 ·exact h1 rfl
 ·exact h2 rfl
theorem Dk {α : Type} {x y : Int} {a b : Option α} {P : α → Prop} (h1 : x = y → Ok a P) (h2 : x ≠ y → Ok b P) : Ok (if (x == y) = true then a else b) P := by
 by_cases h : x = y
 ·rw [if_pos (by simp [h])]; exact h1 h
 ·rw [if_neg (by simp [h])]; exact h2 h
theorem Cx {α : Type} {x y : Int} {a b : Option α} {P : α → Prop} (h1 : x ≠ y → Ok a P) (h2 : x = y → Ok b P) : Ok (if (x != y) = true then a else b) P := by
 by_cases h : x = y
 ·rw [if_neg (by simp [h])]; exact h2 h
 ·rw [if_pos (by simp [h])]; exact h1 h
theorem dB (x : Int) {n : Int} (h1 : 1 ≤ n) (h2 : n ≤ 9223372036854775807) : Ok (Pa x n) fun r => 0 ≤ r ∧ r < n := by
 unfold Pa Pa.J1
 have G := Int.tmod_lt_of_pos x (show 0 < n by omega)
 have M : -n < x.tmod n := by
  have := Int.tmod_lt_of_pos (-x) (show 0 < n by omega)
  rw [Int.neg_tmod] at this; omega
 refine Ax (fun h => by omega) fun _ => .bind' (.rem (by omega) ?_)
 refine Ax (fun h => .pure ?_) (fun h => .pure ?_)
 ·rw [Bn (by omega)]; omega
 ·omega
theorem jY (l : Li) : Ok (S7 l) SrcOk := by
 unfold S7
 refine .bind' (.sub 0 (min l.length 2000) rfl (by omega) (by omega) (by omega) (.pure ?_))
 exact ⟨Int.le_refl _, by simp, by simp; omega⟩
theorem jT {s : V9} (h : SrcOk s) : Ok (Sx s) fun r => SrcOk r.2 := by
 obtain ⟨M, O, G⟩ := h
 unfold Sx
 refine Ax (fun _ => .pure ⟨M, O, G⟩) fun h => ?_
 simp (disch := omega) only [Bn]
 refine .bind' (.ix' (by omega) (by omega) fun k x _ _ => .pure ⟨by dsimp only; omega, by dsimp only; omega, G⟩)
theorem E1 {s : V9} (h : SrcOk s) {n : Int} (h1 : 1 ≤ n) (h2 : n ≤ 9223372036854775807) : Ok (C6 s n) fun r => SrcOk r.2 ∧ 0 ≤ r.1 ∧ r.1 < n := by
 unfold C6
 exact .bind (jT h) fun x G => .bind (dB _ h1 h2) fun y M => .pure ⟨G, M⟩
theorem Gc {s : V9} (h : SrcOk s) {lo hi : Int} (h1 : lo ≤ hi) (h2 : -1000000000 ≤ lo) (M : hi ≤ 1000000000) : Ok (Gx s lo hi) fun r => SrcOk r.2 ∧ lo ≤ r.1 ∧ r.1 ≤ hi := by
 unfold Gx
 simp (disch := omega) only [Bn]
 refine .bind (E1 h (by omega) (by omega)) fun x G => .pure ⟨G.1, ?_⟩
 dsimp only
 rw [Bn (by omega)]; omega
theorem Cs {s : V9} (h : SrcOk s) {l : Li} (h1 : 1 ≤ l.length) (h2 : l.length ≤ 1000) : Ok (C8 s l) fun r => SrcOk r.2 ∧ r.1 ∈ l := by
 unfold C8
 refine .bind (E1 h (by omega) (by omega)) fun x G => .bind' (.ix' G.2.1 G.2.2 fun k y _ M => .pure ⟨G.1, mg M⟩)
def nm (c : UInt8) (k : Nat) : Bt := ⟨#[c, 97 + UInt8.ofNat k]⟩
theorem M8 {c : UInt8} {k : Nat} (M : k < 26) : Gb ⟨#[c]⟩ (k : Int) = some (nm c k) := by
 unfold Gb
 have G : ((k : Int).tmod 26) = (k : Int) := by rw [Int.tmod_eq_emod_of_nonneg (by omega)]; omega
 rw [G, Bn (by omega)]
 have : k = 0 ∨ k = 1 ∨ k = 2 ∨ k = 3 ∨ k = 4 ∨ k = 5 ∨ k = 6 ∨ k = 7 ∨ k = 8 ∨ k = 9 ∨ k = 10 ∨ k = 11 ∨ k = 12 ∨ k = 13 ∨ k = 14 ∨ k = 15 ∨ k = 16 ∨ k = 17 ∨ k = 18 ∨ k = 19 ∨ k = 20 ∨ k = 21 ∨ k = 22 ∨ k = 23 ∨ k = 24 ∨ k = 25 := by omega
 rcases this with rfl | rfl | rfl | rfl | rfl | rfl | rfl | rfl | rfl | rfl | rfl | rfl | rfl | rfl | rfl | rfl | rfl | rfl | rfl | rfl | rfl | rfl | rfl | rfl | rfl | rfl <;> rfl
structure PointsOk (cap : Int) (l : List Point) : Prop where
 len : 2 ≤ l.length ∧ l.length ≤ 8
 first : ∀ p, l[0]? = some p → p.At = 0
 last : ∀ p, l[l.length - 1]? = some p → p.At = cap
 up : ∀ i p q, l[i]? = some p → l[i + 1]? = some q → p.At < q.At
 height : ∀ p, p ∈ l → -500 ≤ p.Height ∧ p.Height ≤ 5000
 limit : ∀ p, p ∈ l → 0 ≤ p.Limit ∧ p.Limit ≤ 100000000
structure SegOk (nodes k : Nat) (s : Segment) : Prop where
 name : s.Name = nm 103 k
 ends : 0 ≤ s.From ∧ s.From < (nodes : Int) ∧ 0 ≤ s.To ∧ s.To < (nodes : Int) ∧ s.From ≠ s.To
 cap : 1 ≤ s.Capacity ∧ s.Capacity ≤ 1000
 resist : 0 ≤ s.Resist ∧ s.Resist ≤ 1000
 wave : 0 ≤ s.Wave ∧ s.Wave ≤ 100000
 points : PointsOk s.Capacity s.Points
structure PortOk (nodes k : Nat) (p : Port) : Prop where
 name : p.Name = nm 113 k
 node : 0 ≤ p.Node ∧ p.Node < (nodes : Int)
 pressure : 0 ≤ p.Pressure ∧ p.Pressure ≤ 100000000
structure StOk (nodes k : Nat) (p : Station) : Prop where
 name : p.Name = nm 115 k
 node : 0 ≤ p.Node ∧ p.Node < (nodes : Int)
 head : 0 ≤ p.Head ∧ p.Head ≤ 2000000
 fall : 0 ≤ p.Fall ∧ p.Fall ≤ 100000
 suction : 0 ≤ p.Suction ∧ p.Suction ≤ 400000
structure NetOk (n : Network) : Prop where
 nodes : 2 ≤ n.Nodes.length ∧ n.Nodes.length ≤ 6
 names : ∀ k x, n.Nodes[k]? = some x → x = nm 110 k
 segs1 : n.Nodes.length - 1 ≤ n.Segments.length ∧ n.Segments.length ≤ 8
 segs : ∀ k s, n.Segments[k]? = some s → SegOk n.Nodes.length k s
 ports1 : 2 ≤ n.Ports.length ∧ n.Ports.length ≤ 6
 ports : ∀ k s, n.Ports[k]? = some s → PortOk n.Nodes.length k s
 portsUp : ∀ (i j : Nat) (p q : Port), i < j → n.Ports[i]? = some p → n.Ports[j]? = some q → p.Node < q.Node
 sts1 : n.Stations.length ≤ 6
 sts : ∀ k s, n.Stations[k]? = some s → StOk n.Nodes.length k s
 stsUp : ∀ (i j : Nat) (p q : Sn), i < j → n.Stations[i]? = some p → n.Stations[j]? = some q → p.Node < q.Node
 vapour : -100000 ≤ n.Vapour ∧ n.Vapour ≤ 50000
 settle : 0 ≤ n.Settle ∧ n.Settle ≤ 100
structure PInv (l : List Point) (at_ : Int) : Prop where
 len : 1 ≤ l.length
 first : ∀ p, l[0]? = some p → p.At = 0
 last : ∀ p, l[l.length - 1]? = some p → p.At = at_
 up : ∀ i p q, l[i]? = some p → l[i + 1]? = some q → p.At < q.At
 height : ∀ p, p ∈ l → -500 ≤ p.Height ∧ p.Height ≤ 5000
 limit : ∀ p, p ∈ l → 0 ≤ p.Limit ∧ p.Limit ≤ 100000000
theorem PInv.append {l : List Point} {at_ : Int} (h : PInv l at_) {p : Point} (h1 : at_ < p.At) (h2 : -500 ≤ p.Height ∧ p.Height ≤ 5000) (X : 0 ≤ p.Limit ∧ p.Limit ≤ 100000000) : PInv (l ++ [p]) p.At := by
 have hl := h.len
 refine ⟨by simp, fun q G => h.first q ?_, fun q G => ?_, fun i a b O M => ?_, fun q G => ?_, fun q G => ?_⟩
 ·rw [List.getElem?_append_left (by omega)] at G; exact G
 ·rw [List.getElem?_append_right (by simp)] at G; simp at G; rw [G]
 ·rw [List.getElem?_append] at O M
  split at M
  ·rw [if_pos (by omega)] at O; exact h.up i a b O M
  ·rename_i Z
   have W := (gs M).1
   simp at W
   have : i + 1 = l.length := by omega
   rw [if_pos (by omega)] at O
   have Y := h.last a (by rw [show l.length - 1 = i by omega]; exact O)
   simp [this] at M
   rw [← M]; omega
 ·rcases List.mem_append.1 G with G | G
  ·exact h.height q G
  ·simp at G; subst G; exact h2
 ·rcases List.mem_append.1 G with G | G
  ·exact h.limit q G
  ·simp at G; subst G; exact X
theorem PInv.done {l : List Point} {at_ : Int} (h : PInv l at_) (h1 : 2 ≤ l.length ∧ l.length ≤ 8) : PointsOk at_ l := ⟨h1, h.first, h.last, h.up, h.height, h.limit⟩
theorem Ed {n : Int} (h : 0 ≤ n) : ∃ k : Nat, n = (k : Int) := ⟨n.toNat, by omega⟩
theorem cX {s : V9} (hs : SrcOk s) {nodes k : Nat} (hk : k < 26) {a b : Int} (ha : 0 ≤ a ∧ a < (nodes : Int)) (hb : 0 ≤ b ∧ b < (nodes : Int)) (al : a ≠ b) :
  Ok (Ln s (k : Int) a b) fun r => SegOk nodes k r.1 ∧ SrcOk r.2 := by
 have Z : ∀ (j : Li × Int × Int × Int), SrcOk ⟨j.1, j.2.1⟩ → 0 ≤ j.2.2.1 ∧ j.2.2.1 < (nodes : Int) → 0 ≤ j.2.2.2 ∧ j.2.2.2 < (nodes : Int) → j.2.2.1 ≠ j.2.2.2 →
   Ok (Ln.J1 (k : Int) j) fun r => SegOk nodes k r.1 ∧ SrcOk r.2 := by
  intro j hs h1 h2 h3
  unfold Ln.J1
  refine .bind' (.eq (M8 hk) ?_)
  refine .bind (Cs hs (by decide) (by decide)) fun O ae => ?_
  refine .bind (Cs ae.1 (by decide) (by decide)) fun r14 af => ?_
  refine .bind (Cs af.1 (by decide) (by decide)) fun r17 ag => ?_
  refine .bind (Cs ag.1 (by decide) (by decide)) fun aq ak => ?_
  refine .bind (Gc ak.1 (by decide) (by decide) (by decide)) fun r25 h25 => ?_
  have c11 := ae.2; have c14 := af.2; have c17 := ag.2; have c22 := ak.2
  simp only [List.mem_cons, List.not_mem_nil, or_false] at c11 c14 c17 c22
  refine .bind' (.app (by simp) ?_)
  refine .bind (Q := fun d : Li × Int × List Point => SrcOk ⟨d.1, d.2.1⟩ ∧ ∃ G, PInv d.2.2 G ∧ G < O.1 ∧ d.2.2.length ≤ 7) ?_ ?_
  ·refine .loop (fun M => SrcOk ⟨M.1, M.2.1⟩ ∧ PInv M.2.2.1 M.2.2.2 ∧ 0 ≤ M.2.2.2 ∧ M.2.2.2 < O.1 ∧ M.2.2.1.length ≤ 7) (fun M => 7 - M.2.2.1.length)
    ⟨h25.1, ⟨by simp, by simp, by simp, by simp, by simp; omega, by simp; omega⟩, by simp, by simp; omega, by simp⟩ (by dsimp only; omega) ?_
   rintro ⟨L_, At, ac, G⟩ ⟨i1, i2, i3, i4, i5⟩
   dsimp only at i1 i2 i3 i4 i5 ⊢
   have j4 : ∀ (x : Li × Int × Bool), SrcOk ⟨x.1, x.2.1⟩ → (x.2.2 = true → ac.length < 7) → Ok (Ln.J4 O aq (L_, At, ac, G) x) (Sum.elim (fun M => (SrcOk ⟨M.1, M.2.1⟩ ∧ PInv M.2.2.1 M.2.2.2 ∧ 0 ≤ M.2.2.2 ∧ M.2.2.2 < O.1 ∧ M.2.2.1.length ≤ 7) ∧ 7 - M.2.2.1.length < 7 - ac.length) fun d => SrcOk ⟨d.1, d.2.1⟩ ∧ ∃ G, PInv d.2.2 G ∧ G < O.1 ∧ d.2.2.length ≤ 7) := by
    intro x hx hl
    unfold Ln.J4
    refine A7 (fun hb => ?_) fun _ => .pure ⟨hx, G, i2, i4, i5⟩
    have hl := hl hb
    refine .bind (Gc hx (by decide) (by decide) (by decide)) fun r197 X => ?_
    dsimp only
    rw [Bn (by omega)]
    refine Ax (fun _ => .pure ⟨X.1, G, i2, i4, i5⟩) fun an => ?_
    refine .bind (Gc X.1 (by decide) (by decide) (by decide)) fun aa ah => ?_
    refine .bind (Cs ah.1 (by decide) (by decide)) fun ab Y => ?_
    have W := Y.2
    simp only [List.mem_cons, List.not_mem_nil, or_false] at W
    refine .bind (E1 Y.1 (by decide) (by decide)) fun r206 ai => ?_
    refine .bind' (.app (by simp; omega) (.pure ⟨⟨ai.1, ?_, by dsimp only; omega, by dsimp only; omega, by simp; omega⟩, by simp; omega⟩))
    have hh : -50 ≤ aa.1 * ab.1 ∧ aa.1 * ab.1 ≤ 600 := by
     rcases W with h | h | h <;> rw [h] <;> omega
    refine i2.append ?_ ?_ ?_ <;> simp (disch := omega) only [Bn] <;> omega
   unfold Ln.B3
   refine Ax (fun h => ?_) fun h => ?_
   ·refine .bind (E1 i1 (by decide) (by decide)) fun r213 aj => j4 (_, _, _) aj.1 fun _ => by dsimp only at h; omega
   ·exact j4 (_, _, _) i1 (by simp)
  ·rintro ⟨dl, da, dp⟩ ⟨hd, G, hp, an, am⟩
   dsimp only at hd hp am
   unfold Ln.J2
   refine .bind (Gc hd (by decide) (by decide) (by decide)) fun ao ad => ?_
   have h1l := hp.len
   refine .bind' (.app (by simp; omega) (.pure ⟨⟨rfl, ⟨h1.1, h1.2, h2.1, h2.2, h3⟩, by dsimp only; omega, by dsimp only; omega, by dsimp only; omega, ?_⟩, ad.1⟩))
   exact (hp.append (p := ⟨O.1, ao.1, aq.1⟩) an (by dsimp only; omega) (by dsimp only; omega)).done (by simp; omega)
 unfold Ln
 refine .bind (E1 hs (by decide) (by decide)) fun r hr => ?_
 exact Dk (fun _ => Z _ hr.1 hb ha (Ne.symm al)) fun _ => Z _ hr.1 ha hb al
theorem K1 {s : Li} {g : Int → Option Bool} {P : Int → Bool} (hg : ∀ (k : Nat) (x : Int), s[k]? = some x → g x = some (P x)) :
  Ok (Pc s g) fun r => (r = -1 ∧ ∀ (j : Nat) (y : Int), s[j]? = some y → P y = false) ∨ ∃ (k : Nat) (x : Int), r = (k : Int) ∧ s[k]? = some x ∧ P x = true ∧ ∀ (j : Nat) (y : Int), j < k → s[j]? = some y → P y = false := by
 unfold Pc
 refine .bind' (.forL (fun k _ => ∀ (j : Nat) (y : Int), j < k → s[j]? = some y → P y = false) (fun r => ∃ (k : Nat) (x : Int), r = (k : Int) ∧ s[k]? = some x ∧ P x = true ∧ ∀ (j : Nat) (y : Int), j < k → s[j]? = some y → P y = false) (fun j y h => absurd h (Nat.not_lt_zero _)) ?_ ?_ ?_)
 ·intro k x _ W M
  unfold Pc.B2
  refine .bind' (.eq (hg k x W) (A7 (fun O => .pure ⟨k, x, rfl, W, O, M⟩) fun O => .pure fun j y Y G => ?_))
  by_cases h : j < k
  ·exact M j y h G
  ·have : j = k := by omega
   subst this
   rw [W] at G; simp at G; subst G; exact O
 ·intro _ M
  simp only [Sum.elim_inl]
  unfold Pc.J1
  exact .pure (.inl ⟨rfl, fun j y G => M j y (gs G).1 G⟩)
 ·intro b X
  exact .pure (.inr X)
theorem Fw {s : Li} {g : Int → Option Bool} {P : Int → Bool} (hg : ∀ (k : Nat) (x : Int), s[k]? = some x → g x = some (P x)) :
  Lk s g = some (s.any P) := by
 have : Ok (Lk s g) fun r => r = s.any P := by
  unfold Lk
  refine .bind (K1 hg) fun r W => .pure ?_
  rcases W with ⟨rfl, h⟩ | ⟨k, x, rfl, G, O, _⟩
  ·have : s.any P = false := by
    rw [List.any_eq_false]
    intro x G
    obtain ⟨j, M⟩ := List.getElem?_of_mem G
    rw [h j x M]; simp
   rw [this]; rfl
  ·have : s.any P = true := List.any_eq_true.2 ⟨x, mg G, O⟩
   rw [this]; simp
 obtain ⟨r, h, rfl⟩ := this
 exact h
theorem G5 {s : List Bt} {g : Bt → Option Bool} {P : Bt → Bool} (hg : ∀ (k : Nat) (x : Bt), s[k]? = some x → g x = some (P x)) :
  Ok (Oe s g) fun r => (r = -1 ∧ ∀ (j : Nat) (y : Bt), s[j]? = some y → P y = false) ∨ ∃ (k : Nat) (x : Bt), r = (k : Int) ∧ s[k]? = some x ∧ P x = true ∧ ∀ (j : Nat) (y : Bt), j < k → s[j]? = some y → P y = false := by
 unfold Oe
 refine .bind' (.forL (fun k _ => ∀ (j : Nat) (y : Bt), j < k → s[j]? = some y → P y = false) (fun r => ∃ (k : Nat) (x : Bt), r = (k : Int) ∧ s[k]? = some x ∧ P x = true ∧ ∀ (j : Nat) (y : Bt), j < k → s[j]? = some y → P y = false) (fun j y h => absurd h (Nat.not_lt_zero _)) ?_ ?_ ?_)
 ·intro k x _ W M
  unfold Oe.B2
  refine .bind' (.eq (hg k x W) (A7 (fun O => .pure ⟨k, x, rfl, W, O, M⟩) fun O => .pure fun j y Y G => ?_))
  by_cases h : j < k
  ·exact M j y h G
  ·have : j = k := by omega
   subst this
   rw [W] at G; simp at G; subst G; exact O
 ·intro _ M
  simp only [Sum.elim_inl]
  unfold Oe.J1
  exact .pure (.inl ⟨rfl, fun j y G => M j y (gs G).1 G⟩)
 ·intro b X
  exact .pure (.inr X)
theorem Gl {s : List Bt} {g : Bt → Option Bool} {P : Bt → Bool} (hg : ∀ (k : Nat) (x : Bt), s[k]? = some x → g x = some (P x)) :
  Om s g = some (s.any P) := by
 have : Ok (Om s g) fun r => r = s.any P := by
  unfold Om
  refine .bind (G5 hg) fun r W => .pure ?_
  rcases W with ⟨rfl, h⟩ | ⟨k, x, rfl, G, O, _⟩
  ·have : s.any P = false := by
    rw [List.any_eq_false]
    intro x G
    obtain ⟨j, M⟩ := List.getElem?_of_mem G
    rw [h j x M]; simp
   rw [this]; rfl
  ·have : s.any P = true := List.any_eq_true.2 ⟨x, mg G, O⟩
   rw [this]; simp
 obtain ⟨r, h, rfl⟩ := this
 exact h
theorem E0 {s : List Sg} {g : Sg → Option Bool} {P : Sg → Bool} (hg : ∀ (k : Nat) (x : Sg), s[k]? = some x → g x = some (P x)) :
  Ok (O9 s g) fun r => (r = -1 ∧ ∀ (j : Nat) (y : Sg), s[j]? = some y → P y = false) ∨ ∃ (k : Nat) (x : Sg), r = (k : Int) ∧ s[k]? = some x ∧ P x = true ∧ ∀ (j : Nat) (y : Sg), j < k → s[j]? = some y → P y = false := by
 unfold O9
 refine .bind' (.forL (fun k _ => ∀ (j : Nat) (y : Sg), j < k → s[j]? = some y → P y = false) (fun r => ∃ (k : Nat) (x : Sg), r = (k : Int) ∧ s[k]? = some x ∧ P x = true ∧ ∀ (j : Nat) (y : Sg), j < k → s[j]? = some y → P y = false) (fun j y h => absurd h (Nat.not_lt_zero _)) ?_ ?_ ?_)
 ·intro k x _ W M
  unfold O9.B2
  refine .bind' (.eq (hg k x W) (A7 (fun O => .pure ⟨k, x, rfl, W, O, M⟩) fun O => .pure fun j y Y G => ?_))
  by_cases h : j < k
  ·exact M j y h G
  ·have : j = k := by omega
   subst this
   rw [W] at G; simp at G; subst G; exact O
 ·intro _ M
  simp only [Sum.elim_inl]
  unfold O9.J1
  exact .pure (.inl ⟨rfl, fun j y G => M j y (gs G).1 G⟩)
 ·intro b X
  exact .pure (.inr X)
theorem Dt {s : List Sg} {g : Sg → Option Bool} {P : Sg → Bool} (hg : ∀ (k : Nat) (x : Sg), s[k]? = some x → g x = some (P x)) :
  Lh s g = some (s.any P) := by
 have : Ok (Lh s g) fun r => r = s.any P := by
  unfold Lh
  refine .bind (E0 hg) fun r W => .pure ?_
  rcases W with ⟨rfl, h⟩ | ⟨k, x, rfl, G, O, _⟩
  ·have : s.any P = false := by
    rw [List.any_eq_false]
    intro x G
    obtain ⟨j, M⟩ := List.getElem?_of_mem G
    rw [h j x M]; simp
   rw [this]; rfl
  ·have : s.any P = true := List.any_eq_true.2 ⟨x, mg G, O⟩
   rw [this]; simp
 obtain ⟨r, h, rfl⟩ := this
 exact h
theorem F6 {s : List Port} {g : Port → Option Bool} {P : Port → Bool} (hg : ∀ (k : Nat) (x : Port), s[k]? = some x → g x = some (P x)) :
  Ok (Oi s g) fun r => (r = -1 ∧ ∀ (j : Nat) (y : Port), s[j]? = some y → P y = false) ∨ ∃ (k : Nat) (x : Port), r = (k : Int) ∧ s[k]? = some x ∧ P x = true ∧ ∀ (j : Nat) (y : Port), j < k → s[j]? = some y → P y = false := by
 unfold Oi
 refine .bind' (.forL (fun k _ => ∀ (j : Nat) (y : Port), j < k → s[j]? = some y → P y = false) (fun r => ∃ (k : Nat) (x : Port), r = (k : Int) ∧ s[k]? = some x ∧ P x = true ∧ ∀ (j : Nat) (y : Port), j < k → s[j]? = some y → P y = false) (fun j y h => absurd h (Nat.not_lt_zero _)) ?_ ?_ ?_)
 ·intro k x _ W M
  unfold Oi.B2
  refine .bind' (.eq (hg k x W) (A7 (fun O => .pure ⟨k, x, rfl, W, O, M⟩) fun O => .pure fun j y Y G => ?_))
  by_cases h : j < k
  ·exact M j y h G
  ·have : j = k := by omega
   subst this
   rw [W] at G; simp at G; subst G; exact O
 ·intro _ M
  simp only [Sum.elim_inl]
  unfold Oi.J1
  exact .pure (.inl ⟨rfl, fun j y G => M j y (gs G).1 G⟩)
 ·intro b X
  exact .pure (.inr X)
theorem Fh {s : List Port} {g : Port → Option Bool} {P : Port → Bool} (hg : ∀ (k : Nat) (x : Port), s[k]? = some x → g x = some (P x)) :
  Oz s g = some (s.any P) := by
 have : Ok (Oz s g) fun r => r = s.any P := by
  unfold Oz
  refine .bind (F6 hg) fun r W => .pure ?_
  rcases W with ⟨rfl, h⟩ | ⟨k, x, rfl, G, O, _⟩
  ·have : s.any P = false := by
    rw [List.any_eq_false]
    intro x G
    obtain ⟨j, M⟩ := List.getElem?_of_mem G
    rw [h j x M]; simp
   rw [this]; rfl
  ·have : s.any P = true := List.any_eq_true.2 ⟨x, mg G, O⟩
   rw [this]; simp
 obtain ⟨r, h, rfl⟩ := this
 exact h
theorem Dx {s : List Sn} {g : Sn → Option Bool} {P : Sn → Bool} (hg : ∀ (k : Nat) (x : Sn), s[k]? = some x → g x = some (P x)) :
  Ok (Lf s g) fun r => (r = -1 ∧ ∀ (j : Nat) (y : Sn), s[j]? = some y → P y = false) ∨ ∃ (k : Nat) (x : Sn), r = (k : Int) ∧ s[k]? = some x ∧ P x = true ∧ ∀ (j : Nat) (y : Sn), j < k → s[j]? = some y → P y = false := by
 unfold Lf
 refine .bind' (.forL (fun k _ => ∀ (j : Nat) (y : Sn), j < k → s[j]? = some y → P y = false) (fun r => ∃ (k : Nat) (x : Sn), r = (k : Int) ∧ s[k]? = some x ∧ P x = true ∧ ∀ (j : Nat) (y : Sn), j < k → s[j]? = some y → P y = false) (fun j y h => absurd h (Nat.not_lt_zero _)) ?_ ?_ ?_)
 ·intro k x _ W M
  unfold Lf.B2
  refine .bind' (.eq (hg k x W) (A7 (fun O => .pure ⟨k, x, rfl, W, O, M⟩) fun O => .pure fun j y Y G => ?_))
  by_cases h : j < k
  ·exact M j y h G
  ·have : j = k := by omega
   subst this
   rw [W] at G; simp at G; subst G; exact O
 ·intro _ M
  simp only [Sum.elim_inl]
  unfold Lf.J1
  exact .pure (.inl ⟨rfl, fun j y G => M j y (gs G).1 G⟩)
 ·intro b X
  exact .pure (.inr X)
theorem Eo {s : List Sn} {g : Sn → Option Bool} {P : Sn → Bool} (hg : ∀ (k : Nat) (x : Sn), s[k]? = some x → g x = some (P x)) :
  N2 s g = some (s.any P) := by
 have : Ok (N2 s g) fun r => r = s.any P := by
  unfold N2
  refine .bind (Dx hg) fun r W => .pure ?_
  rcases W with ⟨rfl, h⟩ | ⟨k, x, rfl, G, O, _⟩
  ·have : s.any P = false := by
    rw [List.any_eq_false]
    intro x G
    obtain ⟨j, M⟩ := List.getElem?_of_mem G
    rw [h j x M]; simp
   rw [this]; rfl
  ·have : s.any P = true := List.any_eq_true.2 ⟨x, mg G, O⟩
   rw [this]; simp
 obtain ⟨r, h, rfl⟩ := this
 exact h
theorem Ip {s : List Bt} {v : Bt} :
  Ok (Od s v) fun r => (r = -1 ∧ ∀ (j : Nat) (y : Bt), s[j]? = some y → (T3 v y) = false) ∨ ∃ (k : Nat) (y : Bt), r = (k : Int) ∧ s[k]? = some y ∧ (T3 v y) = true ∧ ∀ (j : Nat) (y : Bt), j < k → s[j]? = some y → (T3 v y) = false := by
 unfold Od
 refine .bind' (.forL (fun k _ => ∀ (j : Nat) (y : Bt), j < k → s[j]? = some y → (T3 v y) = false) (fun r => ∃ (k : Nat) (y : Bt), r = (k : Int) ∧ s[k]? = some y ∧ (T3 v y) = true ∧ ∀ (j : Nat) (y : Bt), j < k → s[j]? = some y → (T3 v y) = false) (fun j y h => absurd h (Nat.not_lt_zero _)) ?_ ?_ ?_)
 ·intro k x _ W M
  unfold Od.B2
  refine A7 (fun O => .pure ⟨k, x, rfl, W, O, M⟩) fun O => .pure fun j y Y G => ?_
  by_cases h : j < k
  ·exact M j y h G
  ·have : j = k := by omega
   subst this
   rw [W] at G; simp at G; subst G; exact O
 ·intro _ M
  simp only [Sum.elim_inl]
  unfold Od.J1
  exact .pure (.inl ⟨rfl, fun j y G => M j y (gs G).1 G⟩)
 ·intro b X
  exact .pure (.inr X)
end Go.Proofs.YtihdchjpepkpbaaGreat
