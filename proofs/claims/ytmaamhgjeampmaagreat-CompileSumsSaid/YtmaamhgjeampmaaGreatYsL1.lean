/- Walks that show what functions of the program compute; printed by a program of ours. No condition. -/
import Derived.Test.YtmaamhgjeampmaaGreatYsD
import Derived.Test.YtmaamhgjeampmaaGreatYsB2
set_option maxRecDepth 100000
namespace Go.Proofs.YtmaamhgjeampmaaGreat
open Go.Aw
set_option linter.unusedVariables false
set_option linter.unusedSimpArgs false
set_option maxHeartbeats 4000000
theorem L.ztzg_ok (a : Segment) (b : Int) (r : Int × Int) (h : L.ztzg a b = r) : ACalls Tryz.env 154 [.agg (Segment.row a), .V b] [] (fun x new => x = .tup [.V r.1, .V r.2] ∧ new = []) := by
 refine ACalls.of_body Tryz.func154 rfl rfl rfl (fun C hC => ?_)
 unfold L.ztzg at h
 refine AW.seqG (fun e c => (AW.region (AO.act [] I (AX.box (cs := Segment.row a) (m := 7) I I I dS (fun f => (AO.q 2 I (AO.nil ?_)))))))
 subst c
 refine AW.seq (AW.z I (AW.ch h I ?_ ?_))
 intro d h
 refine AW.dz (pd 6 0 []) [0] [_] [.o 1 0, .o 3 0] I I ⟨I, I, J⟩ (AW.ghost g0 ?_)
 obtain rfl := h
 exact AW.ret ⟨.inr I, [_, _], [], ⟨I, I, J⟩, sl_n, I, I⟩
 intro d h
 refine AW.skip (AW.dz (pd 6 0 []) [0] [_] [.o 1 0, .o 3 0] I I ⟨I, I, J⟩ (AW.ghost g0 ?_))
 obtain rfl := h
 exact AW.ret ⟨.inr I, [_, _], [], ⟨I, I, J⟩, sl_n, I, I⟩
theorem L.zqkj_ok (a : Int) (b : Int) (r : Bool) (h : L.zqkj a b = r) : ACalls Tryz.env 128 [.V a, .V b] [] (fun x new => x = .v (.bool r) ∧ new = []) := by
 refine ACalls.of_body Tryz.func128 rfl rfl rfl (fun C hC => ?_)
 unfold L.zqkj at h
 refine AW.z I (AW.cutX (fun s ob => s = [(4, .v (.bool (decide (a ≥ (wr (0 - b))) && decide (a ≤ b))))] ∧ ob = []) [] J ?_ ?_)
 refine AW.region (AO.q 5 I ?_)
 rcases bt (decide (a ≥ (wr (0 - b)))) with c | c
 refine AO.known 9 I c (AO.q 5 I (AO.nil ?_))
 exact lf ⟨I, I⟩ ⟨(get_b (by simp only [c, bz])), J⟩ [] I
 refine AO.known 9 I c (AO.q 5 I (AO.nil ?_))
 exact lf ⟨I, I⟩ ⟨(get_b (by simp only [c, bz])), J⟩ [] I
 rintro s ob ⟨rfl, rfl⟩
 obtain rfl := h
 exact AW.ret pr
theorem L.zbjp_ok (e : Int) (b : Int) (r : Int) (h : L.zbjp e b = some r) : ACalls Tryz.env 74 [.V e, .V b] [] (fun x new => x = .V r ∧ new = []) := by
 refine ACalls.of_body Tryz.func74 rfl rfl rfl (fun C hC => ?_)
 unfold L.zbjp at h
 refine AW.z I (AW.seqG (fun m g => (AW.z I (AW.ch h I ?_ ?_))))
 intro i h
 refine AW.z I ?_
 obtain rfl := oi h
 exact AW.ret pr
 intro i h
 refine AW.skip ?_
 subst g
 refine AW.seqG (fun n j => ?_)
 obtain ⟨a, k, h⟩ := ob_some h
 refine AW.tr [.f 2 (.V a)] I ⟨Yp.yd (Yp.binI (c := a) I I (rem_some k)), J⟩ ?_
 subst j
 refine AW.cutX (fun s ob => ∃ (d : Int), L.zbjp.J1 d = some r ∧ s = [(0, .V d)] ∧ ob = []) [] J ?_ ?_
 refine AW.z I (AW.ch h I ?_ ?_)
 intro l h
 refine AW.t I ?_
 exact lg ⟨wr (a + b), h, I, I⟩ []
 intro l h
 refine AW.skip ?_
 exact lg ⟨a, h, I, I⟩ []
 rintro s ob ⟨d, h, rfl, rfl⟩
 unfold L.zbjp.J1 at h
 refine AW.z I ?_
 obtain rfl := oi h
 exact AW.ret pr
theorem L.zvhs_ok (a : Int) (c : Int) (d : Int) (r : Bool) (h : L.zvhs a c d = r) : ACalls Tryz.env 167 [.V a, .V c, .V d] [] (fun x new => x = .v (.bool r) ∧ new = []) := by
 refine ACalls.of_body Tryz.func167 rfl rfl rfl (fun C hC => ?_)
 unfold L.zvhs at h
 refine AW.z I (AW.cutX (fun s ob => s = [(6, .v (.bool (decide (a ≥ c) && decide (a ≤ d))))] ∧ ob = []) [] J ?_ ?_)
 refine AW.region (AO.q 4 I ?_)
 rcases bt (decide (a ≥ c)) with b | b
 refine AO.known 10 I b (AO.q 5 I (AO.nil ?_))
 exact lf ⟨I, I⟩ ⟨(get_b (by simp only [b, bz])), J⟩ [] I
 refine AO.known 10 I b (AO.q 5 I (AO.nil ?_))
 exact lf ⟨I, I⟩ ⟨(get_b (by simp only [b, bz])), J⟩ [] I
 rintro s ob ⟨rfl, rfl⟩
 obtain rfl := h
 exact AW.ret pr
theorem L.zuap_ok (a : Int) (r : Int) (h : L.zuap a = r) : ACalls Tryz.env 117 [.V a] [] (fun x new => x = .V r ∧ new = []) := by
 refine ACalls.of_body Tryz.func117 rfl rfl rfl (fun C hC => ?_)
 unfold L.zuap at h
 refine AW.z I (AW.z I ?_)
 obtain rfl := h
 exact AW.ret pr
theorem L.zsbv_ok (a : List ByteArray) (d : ByteArray) (r : Int) (h : L.zsbv a d = some r) : ACalls Tryz.env 159 [.list 1 (a.map rS), .v (.string d)] [] (fun x new => x = .V r ∧ new = []) := by
 refine ACalls.of_body Tryz.func159 rfl rfl rfl (fun C hC => ?_)
 unfold L.zsbv at h
 refine AW.z I (AW.cutX (fun s ob => ∃ (e : Unit), L.zsbv.J1 e = some r ∧ s = [] ∧ ob = []) [] J ?_ ?_)
 refine AW.zr [.l 1 (a.length : Int)] I ⟨len_m, J⟩ (AW.block (AW.lm 6 I (fun m => ?_)))
 obtain ⟨A, n, f⟩ := ob_some h
 clear h
 refine AW.forX n [(0, _), (1, _), (7, _)] ⟨I, I, I, J⟩ (fun (b : Nat) (g : Unit) s ob => s = [(8, .V (b : Int))] ∧ ob = []) ⟨I, I⟩ ⟨I, J⟩ ⟨[], I, by decide⟩ ?_ ?_
 rintro b i g B s ob o j ⟨rfl, rfl⟩ h q
 unfold L.zsbv.B2 at h
 have t := lt_t j
 refine AW.z I (AW.seqG (fun D u => (AW.condK (v := true) I t (AW.skip ?_))))
 subst u
 refine AW.seq (AW.block (AW.z I (AW.seq (AW.region (AO.r 5 [.x 3 b (rS i)] I ⟨⟨I, map_get o⟩, J⟩ (AO.p (Yp.cmpS (c := sEq d i) I I I) I (AO.nil (AW.ch h I ?_ ?_))))))))
 intro w h
 refine AW.z I ?_
 obtain rfl := q _ (oi h).symm
 replace h := f
 replace h := se_r h
 obtain rfl := oi h
 exact AW.ret pr
 intro w h
 refine AW.skip (AW.region (AO.r 2 [.k 0 (b + 1 : Nat)] I ⟨cast_wr j m, J⟩ ?_))
 obtain rfl := oi h
 refine AO.nil ?_
 exact ⟨_, _, _, I, ⟨I, I⟩, ⟨I, I, I, I, J⟩, [], I, by decide⟩
 rintro g s ob ⟨rfl, rfl⟩ he
 subst he
 have h := se_l f
 have y := lt_f a.length
 refine AW.z I (AW.seqG (fun E F => (AW.condK (v := false) I y (AW.exit ?_))))
 exact lg ⟨(), h, I, I⟩ []
 rintro s ob ⟨e, h, rfl, rfl⟩
 unfold L.zsbv.J1 at h
 refine AW.z I ?_
 obtain rfl := oi h
 exact AW.ret pr
theorem L.zapw_ok (a : List Int) (F1 : T) {c : FuncId} {d e : List T} (o : fnT F1 = some (c, d, e)) (f : Int → Option Bool) (p : ∀ (g : Int) r, f g = some r → ACalls Tryz.env c (d ++ [.V g] ++ e) [] (fun x new => x = .v (.bool r) ∧ new = [])) (r : Int) (h : L.zapw a f = some r) : ACalls Tryz.env 152 [.list 1 (a.map rI), F1] [] (fun x new => x = .V r ∧ new = []) := by
 refine ACalls.of_body Tryz.func152 rfl rfl rfl (fun C hC => ?_)
 unfold L.zapw at h
 refine AW.z I (AW.cutX (fun s ob => ∃ (i : Unit), L.zapw.J1 i = some r ∧ s = [] ∧ ob = []) [] J ?_ ?_)
 refine AW.zr [.l 1 (a.length : Int)] I ⟨len_m, J⟩ (AW.block (AW.lm 6 I (fun q => ?_)))
 obtain ⟨G, t, j⟩ := ob_some h
 clear h
 refine AW.forX t [(0, _), (1, _), (7, _)] ⟨I, I, I, J⟩ (fun (b : Nat) (m : Unit) s ob => s = [(8, .V (b : Int))] ∧ ob = []) ⟨I, I⟩ ⟨I, J⟩ ⟨[], I, by decide⟩ ?_ ?_
 rintro b u m H s ob w n ⟨rfl, rfl⟩ h y
 unfold L.zapw.B2 at h
 have A := lt_t n
 refine AW.z I (AW.seqG (fun K B => (AW.condK (v := true) I A (AW.skip ?_))))
 subst B
 refine AW.seq (AW.block (AW.z I (AW.seq ?_)))
 obtain ⟨M, D, h⟩ := ob_some h
 refine AW.region (AO.r 5 [.x 3 b (rI u)] I ⟨⟨I, map_get w⟩, J⟩ (AO.act [] I (AX.callL I (.refl _) o I (.rest _) I (p _ _ D) dS (by rintro _ _ ⟨rfl, _⟩; rfl) ?_)))
 rintro _ ⟨_, rfl, -⟩
 refine AO.nil (AW.ch h I ?_ ?_)
 intro E h
 refine AW.z I ?_
 obtain rfl := y _ (oi h).symm
 replace h := j
 replace h := se_r h
 obtain rfl := oi h
 exact AW.ret pr
 intro E h
 refine AW.skip (AW.region (AO.r 2 [.k 0 (b + 1 : Nat)] I ⟨cast_wr n q, J⟩ ?_))
 obtain rfl := oi h
 refine AO.nil ?_
 exact ⟨_, _, _, I, ⟨I, I⟩, ⟨I, I, I, I, J⟩, [], I, by decide⟩
 rintro m s ob ⟨rfl, rfl⟩ he
 subst he
 have h := se_l j
 have F := lt_f a.length
 refine AW.z I (AW.seqG (fun N O => (AW.condK (v := false) I F (AW.exit ?_))))
 exact lg ⟨(), h, I, I⟩ []
 rintro s ob ⟨i, h, rfl, rfl⟩
 unfold L.zapw.J1 at h
 refine AW.z I ?_
 obtain rfl := oi h
 exact AW.ret pr
theorem L.zvoj_ok (b : List Int) (F1 : T) {d : FuncId} {e f : List T} (i : fnT F1 = some (d, e, f)) (a : Int → Option Bool) (j : ∀ (g : Int) r, a g = some r → ACalls Tryz.env d (e ++ [.V g] ++ f) [] (fun x new => x = .v (.bool r) ∧ new = [])) (r : Bool) (h : L.zvoj b a = some r) : ACalls Tryz.env 129 [.list 1 (b.map rI), F1] [] (fun x new => x = .v (.bool r) ∧ new = []) := by
 refine ACalls.of_body Tryz.func129 rfl rfl rfl (fun C hC => ?_)
 unfold L.zvoj at h
 refine AW.z I (AW.seq ?_)
 obtain ⟨l, k, h⟩ := ob_some h
 refine AW.region (AO.q 2 I (AO.c (L.zapw_ok _ F1 i a j _ k) (AO.q 2 I (AO.nil ?_))))
 obtain rfl := oi h
 exact AW.ret pr
theorem L.zqyu_ok (a : List ByteArray) (F1 : T) {c : FuncId} {d e : List T} (o : fnT F1 = some (c, d, e)) (f : ByteArray → Option Bool) (p : ∀ (g : ByteArray) r, f g = some r → ACalls Tryz.env c (d ++ [.v (.string g)] ++ e) [] (fun x new => x = .v (.bool r) ∧ new = [])) (r : Int) (h : L.zqyu a f = some r) : ACalls Tryz.env 157 [.list 1 (a.map rS), F1] [] (fun x new => x = .V r ∧ new = []) := by
 refine ACalls.of_body Tryz.func157 rfl rfl rfl (fun C hC => ?_)
 unfold L.zqyu at h
 refine AW.z I (AW.cutX (fun s ob => ∃ (i : Unit), L.zqyu.J1 i = some r ∧ s = [] ∧ ob = []) [] J ?_ ?_)
 refine AW.zr [.l 1 (a.length : Int)] I ⟨len_m, J⟩ (AW.block (AW.lm 6 I (fun q => ?_)))
 obtain ⟨G, t, j⟩ := ob_some h
 clear h
 refine AW.forX t [(0, _), (1, _), (7, _)] ⟨I, I, I, J⟩ (fun (b : Nat) (m : Unit) s ob => s = [(8, .V (b : Int))] ∧ ob = []) ⟨I, I⟩ ⟨I, J⟩ ⟨[], I, by decide⟩ ?_ ?_
 rintro b u m H s ob w n ⟨rfl, rfl⟩ h y
 unfold L.zqyu.B2 at h
 have A := lt_t n
 refine AW.z I (AW.seqG (fun K B => (AW.condK (v := true) I A (AW.skip ?_))))
 subst B
 refine AW.seq (AW.block (AW.z I (AW.seq ?_)))
 obtain ⟨M, D, h⟩ := ob_some h
 refine AW.region (AO.r 5 [.x 3 b (rS u)] I ⟨⟨I, map_get w⟩, J⟩ (AO.act [] I (AX.callL I (.refl _) o I (.rest _) I (p _ _ D) dS (by rintro _ _ ⟨rfl, _⟩; rfl) ?_)))
 rintro _ ⟨_, rfl, -⟩
 refine AO.nil (AW.ch h I ?_ ?_)
 intro E h
 refine AW.z I ?_
 obtain rfl := y _ (oi h).symm
 replace h := j
 replace h := se_r h
 obtain rfl := oi h
 exact AW.ret pr
 intro E h
 refine AW.skip (AW.region (AO.r 2 [.k 0 (b + 1 : Nat)] I ⟨cast_wr n q, J⟩ ?_))
 obtain rfl := oi h
 refine AO.nil ?_
 exact ⟨_, _, _, I, ⟨I, I⟩, ⟨I, I, I, I, J⟩, [], I, by decide⟩
 rintro m s ob ⟨rfl, rfl⟩ he
 subst he
 have h := se_l j
 have F := lt_f a.length
 refine AW.z I (AW.seqG (fun N O => (AW.condK (v := false) I F (AW.exit ?_))))
 exact lg ⟨(), h, I, I⟩ []
 rintro s ob ⟨i, h, rfl, rfl⟩
 unfold L.zqyu.J1 at h
 refine AW.z I ?_
 obtain rfl := oi h
 exact AW.ret pr
theorem L.zmkj_ok (b : List ByteArray) (F1 : T) {d : FuncId} {e f : List T} (i : fnT F1 = some (d, e, f)) (a : ByteArray → Option Bool) (j : ∀ (g : ByteArray) r, a g = some r → ACalls Tryz.env d (e ++ [.v (.string g)] ++ f) [] (fun x new => x = .v (.bool r) ∧ new = [])) (r : Bool) (h : L.zmkj b a = some r) : ACalls Tryz.env 135 [.list 1 (b.map rS), F1] [] (fun x new => x = .v (.bool r) ∧ new = []) := by
 refine ACalls.of_body Tryz.func135 rfl rfl rfl (fun C hC => ?_)
 unfold L.zmkj at h
 refine AW.z I (AW.seq ?_)
 obtain ⟨l, k, h⟩ := ob_some h
 refine AW.region (AO.q 2 I (AO.c (L.zqyu_ok _ F1 i a j _ k) (AO.q 2 I (AO.nil ?_))))
 obtain rfl := oi h
 exact AW.ret pr
theorem L.zbuy_ok (a : List Segment) (F1 : T) {c : FuncId} {d e : List T} (o : fnT F1 = some (c, d, e)) (f : Segment → Option Bool) (p : ∀ (g : Segment) r, f g = some r → ACalls Tryz.env c (d ++ [.agg (Segment.row g)] ++ e) [] (fun x new => x = .v (.bool r) ∧ new = [])) (r : Int) (h : L.zbuy a f = some r) : ACalls Tryz.env 171 [.list 7 (a.map Segment.row), F1] [] (fun x new => x = .V r ∧ new = []) := by
 refine ACalls.of_body Tryz.func171 rfl rfl rfl (fun C hC => ?_)
 unfold L.zbuy at h
 refine AW.z I (AW.cutX (fun s ob => ∃ (i : Unit), L.zbuy.J1 i = some r ∧ s = [] ∧ ob = []) [] J ?_ ?_)
 refine AW.zr [.l 1 (a.length : Int)] I ⟨len_m, J⟩ (AW.block (AW.lm 6 I (fun q => ?_)))
 obtain ⟨G, t, j⟩ := ob_some h
 clear h
 refine AW.forX t [(0, _), (1, _), (7, _)] ⟨I, I, I, J⟩ (fun (b : Nat) (m : Unit) s ob => s = [(8, .V (b : Int))] ∧ ob = []) ⟨I, I⟩ ⟨I, J⟩ ⟨[], I, by decide⟩ ?_ ?_
 rintro b u m H s ob w n ⟨rfl, rfl⟩ h y
 unfold L.zbuy.B2 at h
 have A := lt_t n
 refine AW.z I (AW.seqG (fun K B => (AW.condK (v := true) I A (AW.skip ?_))))
 subst B
 refine AW.seq (AW.block (AW.z I (AW.seq ?_)))
 obtain ⟨M, D, h⟩ := ob_some h
 refine AW.region (AO.r 5 [.x 3 b (Segment.row u)] I ⟨⟨I, map_get w⟩, J⟩ (AO.act [] I (AX.callL I (.refl _) o I (.rest _) I (p _ _ D) dS (by rintro _ _ ⟨rfl, _⟩; rfl) ?_)))
 rintro _ ⟨_, rfl, -⟩
 refine AO.nil (AW.ch h I ?_ ?_)
 intro E h
 refine AW.z I ?_
 obtain rfl := y _ (oi h).symm
 replace h := j
 replace h := se_r h
 obtain rfl := oi h
 exact AW.ret pr
 intro E h
 refine AW.skip (AW.region (AO.r 2 [.k 0 (b + 1 : Nat)] I ⟨cast_wr n q, J⟩ ?_))
 obtain rfl := oi h
 refine AO.nil ?_
 exact ⟨_, _, _, I, ⟨I, I⟩, ⟨I, I, I, I, J⟩, [], I, by decide⟩
 rintro m s ob ⟨rfl, rfl⟩ he
 subst he
 have h := se_l j
 have F := lt_f a.length
 refine AW.z I (AW.seqG (fun N O => (AW.condK (v := false) I F (AW.exit ?_))))
 exact lg ⟨(), h, I, I⟩ []
 rintro s ob ⟨i, h, rfl, rfl⟩
 unfold L.zbuy.J1 at h
 refine AW.z I ?_
 obtain rfl := oi h
 exact AW.ret pr
theorem L.zwuu_ok (b : List Segment) (F1 : T) {d : FuncId} {e f : List T} (i : fnT F1 = some (d, e, f)) (a : Segment → Option Bool) (j : ∀ (g : Segment) r, a g = some r → ACalls Tryz.env d (e ++ [.agg (Segment.row g)] ++ f) [] (fun x new => x = .v (.bool r) ∧ new = [])) (r : Bool) (h : L.zwuu b a = some r) : ACalls Tryz.env 155 [.list 7 (b.map Segment.row), F1] [] (fun x new => x = .v (.bool r) ∧ new = []) := by
 refine ACalls.of_body Tryz.func155 rfl rfl rfl (fun C hC => ?_)
 unfold L.zwuu at h
 refine AW.z I (AW.seq ?_)
 obtain ⟨l, k, h⟩ := ob_some h
 refine AW.region (AO.q 2 I (AO.c (L.zbuy_ok _ F1 i a j _ k) (AO.q 2 I (AO.nil ?_))))
 obtain rfl := oi h
 exact AW.ret pr
theorem L.zobp_ok (a : List Port) (F1 : T) {c : FuncId} {d e : List T} (o : fnT F1 = some (c, d, e)) (f : Port → Option Bool) (p : ∀ (g : Port) r, f g = some r → ACalls Tryz.env c (d ++ [.agg (Port.row g)] ++ e) [] (fun x new => x = .v (.bool r) ∧ new = [])) (r : Int) (h : L.zobp a f = some r) : ACalls Tryz.env 172 [.list 3 (a.map Port.row), F1] [] (fun x new => x = .V r ∧ new = []) := by
 refine ACalls.of_body Tryz.func172 rfl rfl rfl (fun C hC => ?_)
 unfold L.zobp at h
 refine AW.z I (AW.cutX (fun s ob => ∃ (i : Unit), L.zobp.J1 i = some r ∧ s = [] ∧ ob = []) [] J ?_ ?_)
 refine AW.zr [.l 1 (a.length : Int)] I ⟨len_m, J⟩ (AW.block (AW.lm 6 I (fun q => ?_)))
 obtain ⟨G, t, j⟩ := ob_some h
 clear h
 refine AW.forX t [(0, _), (1, _), (7, _)] ⟨I, I, I, J⟩ (fun (b : Nat) (m : Unit) s ob => s = [(8, .V (b : Int))] ∧ ob = []) ⟨I, I⟩ ⟨I, J⟩ ⟨[], I, by decide⟩ ?_ ?_
 rintro b u m H s ob w n ⟨rfl, rfl⟩ h y
 unfold L.zobp.B2 at h
 have A := lt_t n
 refine AW.z I (AW.seqG (fun K B => (AW.condK (v := true) I A (AW.skip ?_))))
 subst B
 refine AW.seq (AW.block (AW.z I (AW.seq ?_)))
 obtain ⟨M, D, h⟩ := ob_some h
 refine AW.region (AO.r 5 [.x 3 b (Port.row u)] I ⟨⟨I, map_get w⟩, J⟩ (AO.act [] I (AX.callL I (.refl _) o I (.rest _) I (p _ _ D) dS (by rintro _ _ ⟨rfl, _⟩; rfl) ?_)))
 rintro _ ⟨_, rfl, -⟩
 refine AO.nil (AW.ch h I ?_ ?_)
 intro E h
 refine AW.z I ?_
 obtain rfl := y _ (oi h).symm
 replace h := j
 replace h := se_r h
 obtain rfl := oi h
 exact AW.ret pr
 intro E h
 refine AW.skip (AW.region (AO.r 2 [.k 0 (b + 1 : Nat)] I ⟨cast_wr n q, J⟩ ?_))
 obtain rfl := oi h
 refine AO.nil ?_
 exact ⟨_, _, _, I, ⟨I, I⟩, ⟨I, I, I, I, J⟩, [], I, by decide⟩
 rintro m s ob ⟨rfl, rfl⟩ he
 subst he
 have h := se_l j
 have F := lt_f a.length
 refine AW.z I (AW.seqG (fun N O => (AW.condK (v := false) I F (AW.exit ?_))))
 exact lg ⟨(), h, I, I⟩ []
 rintro s ob ⟨i, h, rfl, rfl⟩
 unfold L.zobp.J1 at h
 refine AW.z I ?_
 obtain rfl := oi h
 exact AW.ret pr
theorem L.zdru_ok (b : List Port) (F1 : T) {d : FuncId} {e f : List T} (i : fnT F1 = some (d, e, f)) (a : Port → Option Bool) (j : ∀ (g : Port) r, a g = some r → ACalls Tryz.env d (e ++ [.agg (Port.row g)] ++ f) [] (fun x new => x = .v (.bool r) ∧ new = [])) (r : Bool) (h : L.zdru b a = some r) : ACalls Tryz.env 165 [.list 3 (b.map Port.row), F1] [] (fun x new => x = .v (.bool r) ∧ new = []) := by
 refine ACalls.of_body Tryz.func165 rfl rfl rfl (fun C hC => ?_)
 unfold L.zdru at h
 refine AW.z I (AW.seq ?_)
 obtain ⟨l, k, h⟩ := ob_some h
 refine AW.region (AO.q 2 I (AO.c (L.zobp_ok _ F1 i a j _ k) (AO.q 2 I (AO.nil ?_))))
 obtain rfl := oi h
 exact AW.ret pr
theorem L.zywf_ok (a : List Station) (F1 : T) {c : FuncId} {d e : List T} (o : fnT F1 = some (c, d, e)) (f : Station → Option Bool) (p : ∀ (g : Station) r, f g = some r → ACalls Tryz.env c (d ++ [.agg (Station.row g)] ++ e) [] (fun x new => x = .v (.bool r) ∧ new = [])) (r : Int) (h : L.zywf a f = some r) : ACalls Tryz.env 160 [.list 5 (a.map Station.row), F1] [] (fun x new => x = .V r ∧ new = []) := by
 refine ACalls.of_body Tryz.func160 rfl rfl rfl (fun C hC => ?_)
 unfold L.zywf at h
 refine AW.z I (AW.cutX (fun s ob => ∃ (i : Unit), L.zywf.J1 i = some r ∧ s = [] ∧ ob = []) [] J ?_ ?_)
 refine AW.zr [.l 1 (a.length : Int)] I ⟨len_m, J⟩ (AW.block (AW.lm 6 I (fun q => ?_)))
 obtain ⟨G, t, j⟩ := ob_some h
 clear h
 refine AW.forX t [(0, _), (1, _), (7, _)] ⟨I, I, I, J⟩ (fun (b : Nat) (m : Unit) s ob => s = [(8, .V (b : Int))] ∧ ob = []) ⟨I, I⟩ ⟨I, J⟩ ⟨[], I, by decide⟩ ?_ ?_
 rintro b u m H s ob w n ⟨rfl, rfl⟩ h y
 unfold L.zywf.B2 at h
 have A := lt_t n
 refine AW.z I (AW.seqG (fun K B => (AW.condK (v := true) I A (AW.skip ?_))))
 subst B
 refine AW.seq (AW.block (AW.z I (AW.seq ?_)))
 obtain ⟨M, D, h⟩ := ob_some h
 refine AW.region (AO.r 5 [.x 3 b (Station.row u)] I ⟨⟨I, map_get w⟩, J⟩ (AO.act [] I (AX.callL I (.refl _) o I (.rest _) I (p _ _ D) dS (by rintro _ _ ⟨rfl, _⟩; rfl) ?_)))
 rintro _ ⟨_, rfl, -⟩
 refine AO.nil (AW.ch h I ?_ ?_)
 intro E h
 refine AW.z I ?_
 obtain rfl := y _ (oi h).symm
 replace h := j
 replace h := se_r h
 obtain rfl := oi h
 exact AW.ret pr
 intro E h
 refine AW.skip (AW.region (AO.r 2 [.k 0 (b + 1 : Nat)] I ⟨cast_wr n q, J⟩ ?_))
 obtain rfl := oi h
 refine AO.nil ?_
 exact ⟨_, _, _, I, ⟨I, I⟩, ⟨I, I, I, I, J⟩, [], I, by decide⟩
 rintro m s ob ⟨rfl, rfl⟩ he
 subst he
 have h := se_l j
 have F := lt_f a.length
 refine AW.z I (AW.seqG (fun N O => (AW.condK (v := false) I F (AW.exit ?_))))
 exact lg ⟨(), h, I, I⟩ []
 rintro s ob ⟨i, h, rfl, rfl⟩
 unfold L.zywf.J1 at h
 refine AW.z I ?_
 obtain rfl := oi h
 exact AW.ret pr
theorem L.ztlc_ok (b : List Station) (F1 : T) {d : FuncId} {e f : List T} (i : fnT F1 = some (d, e, f)) (a : Station → Option Bool) (j : ∀ (g : Station) r, a g = some r → ACalls Tryz.env d (e ++ [.agg (Station.row g)] ++ f) [] (fun x new => x = .v (.bool r) ∧ new = [])) (r : Bool) (h : L.ztlc b a = some r) : ACalls Tryz.env 168 [.list 5 (b.map Station.row), F1] [] (fun x new => x = .v (.bool r) ∧ new = []) := by
 refine ACalls.of_body Tryz.func168 rfl rfl rfl (fun C hC => ?_)
 unfold L.ztlc at h
 refine AW.z I (AW.seq ?_)
 obtain ⟨l, k, h⟩ := ob_some h
 refine AW.region (AO.q 2 I (AO.c (L.zywf_ok _ F1 i a j _ k) (AO.q 2 I (AO.nil ?_))))
 obtain rfl := oi h
 exact AW.ret pr
theorem L.zzec_ok (a : Segment) (r : Bool) (h : L.zzec a = r) : ACalls Tryz.env 156 [.agg (Segment.row a)] [] (fun x new => x = .v (.bool r) ∧ new = []) := by
 refine ACalls.of_body Tryz.func156 rfl rfl rfl (fun C hC => ?_)
 unfold L.zzec at h
 refine AW.seqG (fun d c => (AW.region (AO.act [] I (AX.box (cs := Segment.row a) (m := 7) I I I dS (fun e => (AO.q 1 I (AO.nil ?_)))))))
 subst c
 refine AW.cutX (fun s ob => s = [(2, .v (.bool (decide ((a.Points.length : Int) < 2) || decide ((a.Points.length : Int) > 8))))] ∧ ob = []) [] J ?_ ?_
 refine AW.region (AO.r 5 [.o 1 0, .l 2 (a.Points.length : Int)] I ⟨len_m, I, J⟩ ?_)
 rcases bt (decide ((a.Points.length : Int) < 2)) with b | b
 refine AO.known 7 I b (AO.q 6 I (AO.nil ?_))
 exact lf ⟨I, I⟩ ⟨(get_b (by simp only [b, bz])), J⟩ [] I
 refine AO.known 7 I b (AO.r 6 [.o 1 0, .l 2 (a.Points.length : Int)] I ⟨len_m, I, J⟩ (AO.nil ?_))
 exact lf ⟨I, I⟩ ⟨(get_b (by simp only [b, bz])), J⟩ [] I
 rintro s ob ⟨rfl, rfl⟩
 obtain rfl := h
 exact AW.ret pr
theorem L.znhd_ok (a : Network) (r : Bool) (h : L.znhd a = some r) : ACalls Tryz.env 133 [.agg (Network.row a)] [] (fun x new => x = .v (.bool r) ∧ new = []) := by
 refine ACalls.of_body Tryz.func133 rfl rfl rfl (fun C hC => ?_)
 unfold L.znhd at h
 refine AW.seqG (fun k g => (AW.region (AO.act [] I (AX.box (cs := Network.row a) (m := 6) I I I dS (fun n => (AO.q 1 I (AO.nil ?_)))))))
 subst g
 refine AW.seq (AW.jb 30 (decide ((a.Nodes.length : Int) < 1) || (decide ((a.Nodes.length : Int) > 24) || (decide ((a.Segments.length : Int) > 32) || (decide ((a.Ports.length : Int) > 24) || decide ((a.Stations.length : Int) > 12))))) ?_ ?_)
 refine AW.region (AO.r 5 [.o 1 0, .l 2 (a.Nodes.length : Int)] I ⟨len_m, I, J⟩ ?_)
 rcases bt (decide ((a.Nodes.length : Int) < 1)) with b | b
 refine AO.known 7 I b (AO.q 23 I (AO.nil ?_))
 exact jf (by simp only [b, bz]) I I ⟨I, I⟩
 refine AO.known 7 I b (AO.r 6 [.o 1 0, .l 2 (a.Nodes.length : Int)] I ⟨len_m, I, J⟩ ?_)
 rcases bt (decide ((a.Nodes.length : Int) > 24)) with d | d
 refine AO.known 13 I d (AO.q 17 I (AO.nil ?_))
 exact jf (by simp only [b, d, bz]) I I ⟨I, I⟩
 refine AO.known 13 I d (AO.r 6 [.o 1 0, .l 2 (a.Segments.length : Int)] I ⟨len_m, I, J⟩ ?_)
 rcases bt (decide ((a.Segments.length : Int) > 32)) with e | e
 refine AO.known 19 I e (AO.q 11 I (AO.nil ?_))
 exact jf (by simp only [b, d, e, bz]) I I ⟨I, I⟩
 refine AO.known 19 I e (AO.r 6 [.o 1 0, .l 2 (a.Ports.length : Int)] I ⟨len_m, I, J⟩ ?_)
 rcases bt (decide ((a.Ports.length : Int) > 24)) with f | f
 refine AO.known 25 I f (AO.q 5 I (AO.nil ?_))
 exact jf (by simp only [b, d, e, f, bz]) I I ⟨I, I⟩
 refine AO.known 25 I f (AO.r 5 [.o 1 0, .l 2 (a.Stations.length : Int)] I ⟨len_m, I, J⟩ (AO.nil ?_))
 exact jf (by simp only [b, d, e, f, bz]) I I ⟨I, I⟩
 refine AW.ch h I ?_ ?_
 intro i h
 refine AW.z I (AW.ghost g0 ?_)
 obtain rfl := oi h
 exact AW.ret pr
 intro i h
 refine AW.skip (AW.seq ?_)
 obtain ⟨p, j, h⟩ := ob_some h
 refine AW.region (AO.r 2 [.o 1 0] I ⟨I, J⟩ (AO.c (L.zwuu_ok _ (.v (.func (.func 156) #[] #[])) I (fun x => some (L.zzec x)) (fun x r h => by obtain I := oi h; exact L.zzec_ok x _ I) _ j) (AO.q 2 I (AO.nil (AW.ghost g0 ?_)))))
 obtain rfl := oi h
 exact AW.ret pr
theorem L.zsgw_ok (b : Network) (g : Plan) (r : List Int) (h : L.zsgw b g = some r) : ACalls Tryz.env 132 [.agg (Network.row b), .agg (Plan.row g)] [] (fun x new => ∃ (P : Value), x = .v P ∧ new = [.us P 3 1 (r.map rI)]) := by
 refine ACalls.of_body Tryz.func132 rfl rfl rfl (fun C hC => ?_)
 unfold L.zsgw at h
 refine AW.seqG (fun y1 ab => (AW.region (AO.act [] I (AX.box (cs := Network.row b) (m := 6) I I I dS (fun n => (AO.act [] I (AX.box (cs := Plan.row g) (m := 3) I I I dS (fun p => (AO.q 1 I (AO.nil ?_))))))))))
 subst ab
 refine AW.scope (AW.z I (AW.seqG (fun y5 ac => ?_)))
 obtain ⟨l6, ⟨m8, ad, ae, af⟩, h⟩ := ob_mk h
 refine AW.region (AO.r 3 [.o 1 0, .l 2 (b.Nodes.length : Int)] I ⟨len_m, I, J⟩ (AO.act [] I (AX.makeU (sz := 1) I I I I I I I I I I ad ae (rep_map (f := rB) af I) dS (fun u => (AO.q 1 I (AO.nil ?_))))))
 subst ac
 refine AW.seqG (fun ba ag => (AW.label ?_))
 subst ag
 refine AW.cutX (fun s ob => ∃ (E : List Int) (w : Value), L.zsgw.J1 E = some r ∧ s = [(5, .v w)] ∧ ob = [.us w 3 1 (E.map rI)]) [] J ?_ ?_
 refine AW.z I (AW.block (AW.ghost (Ghost.nilU 3 1) ?_))
 obtain ⟨bb, ah, ai⟩ := ob_some h
 clear h
 refine AW.loopX ah [(2, _), (3, _), (6, _)] ⟨I, I, I, J⟩ (fun (a : (List Int) × (List Bool) × Int) s ob => ∃ (e : Value), s = [(5, .v e), (7, .V a.2.2)] ∧ ob = [.arr n 32 6 1 [Network.row b], .arr p 37 3 1 [Plan.row g], .us u 4 1 (a.2.1.map rB), .us e 3 1 (a.1.map rI)]) ⟨(.slice none 0 0), I, I⟩ ⟨I, I, J⟩ ⟨[0, 1, 2, 3], I, by decide⟩ ?_
 rintro a Q s ob ⟨e, rfl, rfl⟩ h aj
 unfold L.zsgw.B2 at h
 refine AW.seqG (fun bc ak => (AW.zr [.o 2 0, .l 3 (b.Nodes.length : Int)] I ⟨len_m, I, J⟩ (AW.ch h I ?_ ?_)))
 intro al h
 refine AW.skip ?_
 subst ak
 refine AW.cutX (fun s ob => ∃ (A : (List Int) × (List Bool) × Int) (F : Value), L.zsgw.J3 A = some Q ∧ s = [(5, .v F), (7, .V A.2.2)] ∧ ob = [.arr n 32 6 1 [Network.row b], .arr p 37 3 1 [Plan.row g], .us u 4 1 (A.2.1.map rB), .us F 3 1 (A.1.map rI)]) [(2, _), (3, _), (6, _)] ⟨I, I, I, J⟩ ?_ ?_
 refine AW.block (AW.seqG (fun bd am => (AW.seq ?_)))
 obtain ⟨i, ⟨R, G⟩, h⟩ := ob_ix h
 refine AW.region (AO.q 2 I (AO.d (Yd.indexU 2 (m := i.1) I I I I I I I R (map_get G)) I (AO.d (Yd.loadU 2 i.1 0 I I I (map_get G) I (y := .v (.bool i.2)) I) I (AO.nil (AW.ch h I ?_ ?_)))))
 intro an h
 refine AW.exit ?_
 exact lg ⟨(a.1, a.2.1, a.2.2), e, h, I, I⟩ [0, 1, 2, 3]
 intro an h
 refine AW.skip ?_
 subst am
 refine AW.cutX (fun s ob => ∃ (S : Unit), L.zsgw.J4 a i S = some Q ∧ s = [] ∧ ob = [.arr n 32 6 1 [Network.row b], .arr p 37 3 1 [Plan.row g], .us u 4 1 (a.2.1.map rB), .us e 3 1 (a.1.map rI)]) [(2, _), (3, _), (5, _), (6, _), (7, _)] ⟨I, I, I, I, I, J⟩ ?_ ?_
 refine AW.zr [.o 1 0, .l 2 (b.Segments.length : Int)] I ⟨len_m, I, J⟩ (AW.block (AW.lm 28 I (fun ao => ?_)))
 obtain ⟨be, aq, U⟩ := ob_some h
 clear h
 refine AW.forX aq [(2, _), (3, _), (5, _), (6, _), (7, _), (28, _), (29, _)] ⟨I, I, I, I, I, I, I, J⟩ (fun (H : Nat) (W : Unit) s ob => s = [(30, .V (H : Int))] ∧ ob = [.arr n 32 6 1 [Network.row b], .arr p 37 3 1 [Plan.row g], .us u 4 1 (a.2.1.map rB), .us e 3 1 (a.1.map rI)]) ⟨I, I⟩ ⟨I, J⟩ ⟨[0, 1, 2, 3], I, by decide⟩ ?_ ?_
 rintro H K W ar s ob au X ⟨rfl, rfl⟩ h av
 unfold L.zsgw.B5 at h
 have aw := lt_t X
 refine AW.z I (AW.seqG (fun bf ax => (AW.condK (v := true) I aw (AW.skip ?_))))
 subst ax
 refine AW.seq (AW.block (AW.seqG (fun bg ay => (AW.region (AO.r 3 [.x 1 H (Segment.row K)] I ⟨⟨I, map_get au⟩, J⟩ (AO.act [] I (AX.alloc (cs := [.v (.string ⟨#[]⟩), .V 0, .V 0, .V 0, .V 0, .V 0, .N]) (m := 7) I I I I I dS (fun bh => (AO.q 1 I (AO.act [4] I (AX.st 4 0 0 [Segment.row K] I (AO.nil ?_))))))))))))
 subst ay
 refine AW.seqG (fun bi az => ?_)
 obtain ⟨j, ⟨Y, Z⟩, h⟩ := ob_ix h
 refine AW.rd (pd 12 0 [6]) [4, 1] [_, _] I (AP.r 6 [.o 0 0, .o 2 1, .x 4 j.1 (rI j.2)] I ⟨⟨Y, map_get Z⟩, I, I, J⟩ (AP.c I (L.ztzg_ok K j.2 _ I) (AP.q 5 I (AP.ofAO (AO.nil ?_)))))
 subst az
 refine AW.cutX (fun s ob => ∃ (O : Bool), L.zsgw.J6 a O = some ar ∧ s = [(62, .v (.bool O))] ∧ ob = [.arr n 32 6 1 [Network.row b], .arr p 37 3 1 [Plan.row g], .us u 4 1 (a.2.1.map rB), .us e 3 1 (a.1.map rI)]) [(2, _), (3, _), (5, _), (6, _), (7, _), (28, _), (29, _), (30, _)] ⟨I, I, I, I, I, I, I, I, J⟩ ?_ ?_
 refine AW.region (AO.r 7 [.o 1 1, .x 3 j.1 (rI j.2)] I ⟨⟨Y, map_get Z⟩, I, J⟩ ?_)
 rcases bt ((j.2 != 0)) with B | B
 replace h := ife_t B h
 refine AO.known 51 I B ?_
 rcases bt ((((L.ztzg K j.2).2) == a.2.2)) with D | D
 replace h := ife_t D h
 obtain ⟨M, ⟨a0, aa⟩, h⟩ := ob_ix h
 refine AO.q 5 I (AO.known 56 I D (AO.q 2 I (AO.gt I I I (AO.d (Yd.indexU 2 (m := M.1) I I I I I I I a0 (map_get aa)) I (AO.gt I I I (AO.d (Yd.loadU 2 M.1 0 I I I (map_get aa) I (y := .v (.bool M.2)) I) I (AO.q 2 I (AO.nil ?_))))))))
 exact lg ⟨(!M.2), h, I, I⟩ [0, 1, 2, 3]
 replace h := ife_f D h
 refine AO.q 5 I (AO.known 56 I D (AO.q 6 I (AO.nil ?_)))
 exact lg ⟨false, h, I, I⟩ [0, 1, 2, 3]
 replace h := ife_f B h
 refine AO.known 51 I B (AO.q 11 I (AO.nil ?_))
 exact lg ⟨false, h, I, I⟩ [0, 1, 2, 3]
 rintro s ob ⟨O, h, rfl, rfl⟩
 unfold L.zsgw.J6 at h
 refine AW.ch h I ?_ ?_
 intro a1 h
 obtain rfl := av _ (oi h).symm
 replace h := U
 replace h := se_r h
 refine AW.exit ?_
 exact lg ⟨(a.1, a.2.1, a.2.2), e, h, I, I⟩ [0, 1, 2, 3]
 intro a1 h
 refine AW.skip (AW.region (AO.r 2 [.k 0 (H + 1 : Nat)] I ⟨cast_wr X ao, J⟩ ?_))
 obtain rfl := oi h
 refine AO.nil ?_
 exact ⟨_, _, _, I, ⟨I, I⟩, ⟨I, I, I, I, I, I, I, I, J⟩, [0, 1, 2, 3], I, by decide⟩
 rintro W s ob ⟨rfl, rfl⟩ he
 subst he
 have h := se_l U
 have a2 := lt_f b.Segments.length
 refine AW.z I (AW.seqG (fun bj bk => (AW.condK (v := false) I a2 (AW.exit ?_))))
 exact lg ⟨(), h, I, I⟩ [0, 1, 2, 3]
 rintro s ob ⟨S, h, rfl, rfl⟩
 unfold L.zsgw.J4 at h
 refine AW.seq (AW.region (AO.q 2 I (AO.d (Yd.indexU 2 (m := i.1) I I I I I I I R (map_get G)) I (AO.act [2] I (AX.storeU 2 i.1 0 I I I (map_get G) I I I I (le_ble I) I (us_set (x := true) I) (AO.nil (AW.seq ?_)))))))
 obtain ⟨a3, a4, h⟩ := ob_some h
 refine AW.region (AO.q 2 I (AO.act [] I (AX.lt 1 (([a.2.2] : List Int).map rI) (AO.act [3] I (AX.ap 3 I a4 (fun a5 => (AO.q 1 I (AO.nil (AW.t I ?_)))))))))
 exact lg ⟨(a3, (a.2.1.set i.1 true), (-1)), a5, h, I, I⟩ [0, 1, 2, 3]
 rintro s ob ⟨A, F, h, rfl, rfl⟩
 unfold L.zsgw.J3 at h
 refine AW.region (AO.q 3 I ?_)
 obtain rfl := oi h
 refine AO.nil ?_
 exact ⟨_, _, _, I, ⟨F, I, I⟩, ⟨I, I, I, I, I, J⟩, [0, 1, 2, 3], I, by decide⟩
 intro al h
 obtain rfl := aj _ (oi h).symm
 replace h := ai
 refine AW.exit ?_
 exact lg ⟨a.1, e, h, I, I⟩ [3]
 rintro s ob ⟨E, w, h, rfl, rfl⟩
 unfold L.zsgw.J1 at h
 refine AW.z I ?_
 obtain rfl := oi h
 exact AW.ret ⟨.inr I, [_], [.us w 3 1 (E.map rI)], ⟨I, J⟩, sl_c I (sl_n), ⟨w, I, I⟩⟩
end Go.Proofs.YtmaamhgjeampmaaGreat
