/- Walks that show what functions of the program compute; printed by a program of ours. No condition. -/
import Derived.Test.YtmaamhgjeampmaaGreatYsL2
import Derived.Test.YtmaamhgjeampmaaGreatYsD
set_option maxRecDepth 100000
namespace Go.Proofs.YtmaamhgjeampmaaGreat
open Go.Aw
set_option linter.unusedVariables false
set_option linter.unusedSimpArgs false
set_option maxHeartbeats 4000000
theorem L.zjlw_ok (a : List Hop) (r : List Hop) (h : L.zjlw a = some r) : ACalls Tryz.env 53 [.list 2 (a.map Hop.row)] [] (fun x new => ∃ (b : Value), x = .v b ∧ new = [.us b 107 2 (r.map Hop.row)]) := by
  refine ACalls.of_body Tryz.func53 rfl rfl rfl (fun C hC => ?_)
  unfold L.zjlw at h
  obtain ⟨e, d⟩ := app_some h
  refine AW.seq ?_
  refine AW.region ?_
  refine AO.p (Yp.assign rfl) rfl ?_
  refine AO.nil ?_
  refine AW.seq ?_
  refine AW.seq ?_
  refine AW.region ?_
  refine AO.p (Yp.move rfl) rfl ?_
  refine AO.act [] rfl (AX.eqNil rfl rfl rfl (dst_some rfl) (fun c hc => ?_))
  refine AO.nil ?_
  refine AW.cond rfl rfl ?_ ?_
  · intro hb
    have hs : a = [] := by have := hc hb; simpa using this
    subst hs
    refine AW.seq ?_
    refine AW.region ?_
    refine AO.p (Yp.assign rfl) rfl ?_
    refine AO.ghost (Ghost.nilU 107 2) ?_
    refine AO.nil ?_
    refine AW.ret ?_
    have hr : r = [] := by simpa using d.symm
    subst hr
    exact ⟨.inr rfl, [_], [.us (.slice none 0 0) 107 2 ([].map Hop.row)], ⟨rfl, J⟩, sl_c rfl sl_n, ⟨_, rfl, rfl⟩⟩
  · intro hb
    refine AW.skip ?_
    refine AW.seq ?_
    refine AW.region ?_
    refine AO.act [] rfl (AX.buildSlice (sz := 2) (es := []) rfl rfl rfl rfl rfl rfl rfl rfl rfl rfl rfl (dst_some rfl) (fun g => ?_))
    refine AO.p (Yp.move rfl) rfl ?_
    refine AO.act [0] rfl (AX.appendU 0 (es' := r.map Hop.row) rfl rfl rfl rfl rfl rfl rfl rfl rfl (AppSrc.list rfl) (by simpa using e) (by rw [← d]; simp) (dst_some rfl) (fun f => ?_))
    refine AO.p (Yp.assign rfl) rfl ?_
    refine AO.nil ?_
    refine AW.ret ?_
    exact ⟨.inr rfl, [_], [.us f 107 2 (r.map Hop.row)], ⟨rfl, J⟩, sl_c rfl sl_n, ⟨_, rfl, rfl⟩⟩
theorem L.znbv_ok (a : Path) (b : Int) (r : Path) (h : L.znbv a b = some r) : ACalls Tryz.env 143 [.agg (Path.row a), .V b] [] (fun x new => x = .agg (Path.row r) ∧ new = []) := by
 refine ACalls.of_body Tryz.func143 rfl rfl rfl (fun C hC => ?_)
 unfold L.znbv at h
 refine AW.seqG (fun k e => (AW.region (AO.act [] I (AX.box (cs := Path.row a) (m := 4) I I I dS (fun f => (AO.act [] I (AX.alloc (cs := [.V 0, .V 0, .N, .V 0]) (m := 4) I I I I I dS (fun g => (AO.nil ?_)))))))))
 subst e
 refine AW.seq ?_
 obtain ⟨d, i, h⟩ := ob_some h
 refine AW.region (AO.r 2 [.o 1 0] I ⟨I, J⟩ (AO.act [] I (AX.call0 I I I (L.zjlw_ok _ _ i) dS ?_)))
 rintro _ _ ⟨c, rfl, rfl⟩
 refine AO.q 2 I (AO.one 2 I (fun j => (AO.act [0] I (AX.store 0 0 2 (es' := [[.V a.In, .V a.Out, .v c, .V a.Rate]]) I I I I I I (cells_v j) I (le_ble I) I I (AO.q 1 I (AO.act [0] I (AX.st 0 0 3 [[.V a.In, .V a.Out, .v c, .V b]] I (AO.nil (AW.seq (AW.region (AO.r 1 [.o 0 0] I ⟨I, J⟩ (AO.act [1] I (AX.st 1 0 0 [[.V a.In, .V a.Out, .v c, .V b]] I (AO.nil (AW.ghost (Ghost.freeze [2] (K := [.us c 107 2 (d.map Hop.row)]) I [] J (ob' := [.arr f 52 4 1 [[.V a.In, .V a.Out, .v c, .V b]], .arr g 52 4 1 [[.V a.In, .V a.Out, .list 2 (d.map Hop.row), .V b]]]) (.cons (.same _) (.cons (.arr (.cons (.refl _) (.cons (.refl _) (.cons (.us 0 I) (.rest _))))) (.rest _)))) (AW.gp [1] I ?_))))))))))))))))
 obtain rfl := oi h
 exact AW.ret ⟨.inr I, [_], [], ⟨⟨0, _, _, _, _, _, _, _, I, I, I, I, I⟩, J⟩, sl_n, I, I⟩
theorem L.zlhc_ok (a : List Bool) (r : List Bool) (h : L.zlhc a = some r) : ACalls Tryz.env 55 [.list 1 (a.map rB)] [] (fun x new => ∃ (b : Value), x = .v b ∧ new = [.us b 4 1 (r.map rB)]) := by
  refine ACalls.of_body Tryz.func55 rfl rfl rfl (fun C hC => ?_)
  unfold L.zlhc at h
  obtain ⟨e, d⟩ := app_some h
  refine AW.seq ?_
  refine AW.region ?_
  refine AO.p (Yp.assign rfl) rfl ?_
  refine AO.nil ?_
  refine AW.seq ?_
  refine AW.seq ?_
  refine AW.region ?_
  refine AO.p (Yp.move rfl) rfl ?_
  refine AO.act [] rfl (AX.eqNil rfl rfl rfl (dst_some rfl) (fun c hc => ?_))
  refine AO.nil ?_
  refine AW.cond rfl rfl ?_ ?_
  · intro hb
    have hs : a = [] := by have := hc hb; simpa using this
    subst hs
    refine AW.seq ?_
    refine AW.region ?_
    refine AO.p (Yp.assign rfl) rfl ?_
    refine AO.ghost (Ghost.nilU 4 1) ?_
    refine AO.nil ?_
    refine AW.ret ?_
    have hr : r = [] := by simpa using d.symm
    subst hr
    exact ⟨.inr rfl, [_], [.us (.slice none 0 0) 4 1 ([].map rB)], ⟨rfl, J⟩, sl_c rfl sl_n, ⟨_, rfl, rfl⟩⟩
  · intro hb
    refine AW.skip ?_
    refine AW.seq ?_
    refine AW.region ?_
    refine AO.act [] rfl (AX.buildSlice (sz := 1) (es := []) rfl rfl rfl rfl rfl rfl rfl rfl rfl rfl rfl (dst_some rfl) (fun g => ?_))
    refine AO.p (Yp.move rfl) rfl ?_
    refine AO.act [0] rfl (AX.appendU 0 (es' := r.map rB) rfl rfl rfl rfl rfl rfl rfl rfl rfl (AppSrc.list rfl) (by simpa using e) (by rw [← d]; simp) (dst_some rfl) (fun f => ?_))
    refine AO.p (Yp.assign rfl) rfl ?_
    refine AO.nil ?_
    refine AW.ret ?_
    exact ⟨.inr rfl, [_], [.us f 4 1 (r.map rB)], ⟨rfl, J⟩, sl_c rfl sl_n, ⟨_, rfl, rfl⟩⟩
theorem L.zqxx_ok (a : Hop) (b : Int) (r : Int) (h : L.zqxx a b = r) : ACalls Tryz.env 141 [.agg (Hop.row a), .V b] [] (fun x new => x = .V r ∧ new = []) := by
 refine ACalls.of_body Tryz.func141 rfl rfl rfl (fun C hC => ?_)
 unfold L.zqxx at h
 refine AW.seqG (fun e c => (AW.region (AO.act [] I (AX.box (cs := Hop.row a) (m := 2) I I I dS (fun f => (AO.q 1 I (AO.nil ?_)))))))
 subst c
 refine AW.seq (AW.zr [.o 1 0] I ⟨I, J⟩ (AW.ch h I ?_ ?_))
 intro d h
 refine AW.z I (AW.ghost g0 ?_)
 obtain rfl := h
 exact AW.ret pr
 intro d h
 refine AW.skip (AW.z I (AW.ghost g0 ?_))
 obtain rfl := h
 exact AW.ret pr
theorem L.zvqh_ok (g : Nat) (e : Plan) (w0_0 : Value) (w0_1 : Value) (p : Path) (d : Int) (r : Plan) (h : L.zvqh e p d = some r) : ACalls Tryz.env 93 [.v (.pointer (some ⟨g, 0, none⟩)), .agg (Path.row p), .V d] [.arr g 37 3 1 [[.v w0_0, .v w0_1, .list 1 (e.Pumps.map rB)]], .us w0_0 3 1 (e.Rates.map rI), .us w0_1 3 1 (e.Ports.map rI)] (Gives 3 (fun x os new => ∃ (u0_0 : Value) (u0_1 : Value), x = .tup [] ∧ os = [.arr g 37 3 1 [[.v u0_0, .v u0_1, .list 1 (r.Pumps.map rB)]], .us u0_0 3 1 (r.Rates.map rI), .us u0_1 3 1 (r.Ports.map rI)] ∧ new = [])) := by
 refine ACalls.of_body Tryz.func93 rfl rfl rfl (fun C hC => ?_)
 unfold L.zvqh at h
 refine AW.seqG (fun y1 F => (AW.region (AO.act [] I (AX.box (cs := Path.row p) (m := 4) I I I dS (fun b2 => (AO.nil ?_))))))
 subst F
 refine AW.seqG (fun y3 G => ?_)
 obtain ⟨a, ⟨A, i⟩, h⟩ := ob_ix h
 refine AW.form 2 a.1 I i (fun H => (AW.form 2 a.1 I i (fun K => (AW.rd (.still 0 (.still 1 (.still 2 (.still 3 (.still 4 (.still 5 (.still 6 (.still 7 (.still 8 (.still 9 (.still 10 (.drop 11 .nil)))))))))))) [0, 3, 2] [_, _, _] I (AP.r 6 [.o 3 0, .o 5 1] I ⟨I, I, J⟩ (AP.op I (Yp.indexUf (m := a.1) I I I I I H I A i) I (AP.o I (Yd.loadU 2 a.1 0 I I I (map_get i) I (y := .V a.2) I) I (AP.q 2 I (AP.op I (Yp.indexUf (m := a.1) I I I I I K I A i) I (AP.drop [2] I I I (AX.storeU 2 a.1 0 I I I (map_get i) I I I I (le_ble I) I (us_set (x := wr (a.2 + d)) I) (AP.ofAO (AO.nil ?_)))))))))))))
 subst G
 refine AW.seqG (fun y8 M => ?_)
 obtain ⟨b, ⟨B, j⟩, h⟩ := ob_ix h
 refine AW.form 2 b.1 I j (fun N => (AW.form 2 b.1 I j (fun O => (AW.rd (.still 0 (.still 1 (.still 2 (.still 3 (.still 4 (.still 5 (.still 6 (.still 7 (.still 8 (.still 9 (.still 10 (.drop 11 .nil)))))))))))) [0, 3, 2] [_, _, _] I (AP.r 6 [.o 3 0, .o 5 1] I ⟨I, I, J⟩ (AP.op I (Yp.indexUf (m := b.1) I I I I I N I B j) I (AP.o I (Yd.loadU 2 b.1 0 I I I (map_get j) I (y := .V b.2) I) I (AP.q 2 I (AP.op I (Yp.indexUf (m := b.1) I I I I I O I B j) I (AP.drop [2] I I I (AX.storeU 2 b.1 0 I I I (map_get j) I I I I (le_ble I) I (us_set (x := wr (b.2 - d)) I) (AP.ofAO (AO.nil ?_)))))))))))))
 subst M
 refine AW.zr [.o 1 3, .l 2 (p.Hops.length : Int)] I ⟨len_m, I, J⟩ (AW.block (AW.lm 31 I (fun P => ?_)))
 obtain ⟨af, Q, R⟩ := ob_some h
 clear h
 refine AW.forY Q [(0, _), (2, _), (31, _), (32, _)] ⟨I, I, I, I, J⟩ (fun (u : Nat) (t : List Int) s ob => s = [(33, .V (u : Int))] ∧ ob = [.arr g 37 3 1 [[.v w0_0, .v w0_1, .list 1 (e.Pumps.map rB)]], .us w0_0 3 1 (t.map rI), .us w0_1 3 1 (((e.Ports.set a.1 (wr (a.2 + d))).set b.1 (wr (b.2 - d))).map rI)]) ⟨I, I⟩ ⟨I, J⟩ ⟨[0, 1, 2], I, by decide⟩ ?_ ?_
 rintro u w t ag s ob S D ⟨rfl, rfl⟩ h
 unfold L.zvqh.B1 at h
 have U := lt_t D
 refine AW.z I (AW.seqG (fun ah W => (AW.condK (v := true) I U (AW.skip ?_))))
 subst W
 refine AW.seq (AW.block (AW.seqG (fun ai X => (AW.region (AO.r 2 [.x 0 u (Hop.row w)] I ⟨⟨I, map_get S⟩, J⟩ (AO.act [] I (AX.alloc (cs := [.V 0, .v (.bool false)]) (m := 2) I I I I I dS (fun aj => (AO.act [3] I (AX.st 3 0 0 [Hop.row w] I (AO.nil ?_)))))))))))
 subst X
 obtain ⟨f, ⟨E, n⟩, h⟩ := ob_ix h
 refine AW.form 1 f.1 I n (fun Y => (AW.form 1 f.1 I n (fun Z => (AW.rd (.still 0 (.still 1 (.still 2 (.still 3 (.still 4 (.still 5 (.still 6 (.still 7 (.still 8 (.still 9 (.act 10 (.still 11 (.still 12 (.drop 13 .nil)))))))))))))) [0, 3, 1] [_, _, _] I (AP.r 6 [.o 3 0, .o 5 1] I ⟨I, I, J⟩ (AP.op I (Yp.indexUf (m := f.1) I I I I I Y I E n) I (AP.o I (Yd.loadU 2 f.1 0 I I I (map_get n) I (y := .V f.2) I) I (AP.r 2 [.o 0 1] I ⟨I, J⟩ (AP.c I (L.zqxx_ok w d _ I) (AP.q 1 I (AP.op I (Yp.indexUf (m := f.1) I I I I I Z I E n) I (AP.drop [1] I I I (AX.storeU 1 f.1 0 I I I (map_get n) I I I I (le_ble I) I (us_set (x := wr (f.2 + (L.zqxx w d))) I) (AP.ofAO (AO.nil ?_)))))))))))))))
 refine AW.region (AO.r 2 [.k 0 (u + 1 : Nat)] I ⟨cast_wr D P, J⟩ ?_)
 obtain rfl := oi h
 refine AO.nil ?_
 exact lg ⟨I, I⟩ [0, 1, 2]
 rintro t s ob ⟨rfl, rfl⟩ he
 subst he
 have h := R
 have aa := lt_f p.Hops.length
 refine AW.z I (AW.seqG (fun ak al => (AW.condK (v := false) I aa ?_)))
 obtain rfl := oi h
 refine AW.exit ?_
 exact ⟨.inl I, [], [.arr g 37 3 1 [[.v w0_0, .v w0_1, .list 1 (e.Pumps.map rB)]], .us w0_0 3 1 (t.map rI), .us w0_1 3 1 (((e.Ports.set a.1 (wr (a.2 + d))).set b.1 (wr (b.2 - d))).map rI)], J, sl_c I (sl_c I (sl_c I (sl_n))), ⟨[.arr g 37 3 1 [[.v w0_0, .v w0_1, .list 1 (e.Pumps.map rB)]], .us w0_0 3 1 (t.map rI), .us w0_1 3 1 (((e.Ports.set a.1 (wr (a.2 + d))).set b.1 (wr (b.2 - d))).map rI)], [], I, I, w0_0, w0_1, I, I, I⟩⟩
theorem L.zrak_ok (s1_0 : List Hop) (s2_1 : List Hop) (r : Bool) (h : L.zrak s1_0 s2_1 = some r) : ACalls Tryz.env 170 [.list 2 (s1_0.map Hop.row), .list 2 (s2_1.map Hop.row)] [] (fun x new => x = .v (.bool r) ∧ new = []) := by
 refine ACalls.of_body Tryz.func170 rfl rfl rfl (fun C hC => ?_)
 unfold L.zrak at h
 refine AW.z I (AW.seqG (fun B i => (AW.zr [.l 1 (s1_0.length : Int), .l 3 (s2_1.length : Int)] I ⟨len_m, len_m, J⟩ (AW.ch h I ?_ ?_))))
 intro j h
 refine AW.z I ?_
 obtain rfl := oi h
 exact AW.ret pr
 intro j h
 refine AW.skip ?_
 subst i
 refine AW.cutX (fun s ob => ∃ (d : Unit), L.zrak.J1 d = some r ∧ s = [] ∧ ob = []) [] J ?_ ?_
 refine AW.zr [.l 1 (s1_0.length : Int)] I ⟨len_m, J⟩ (AW.block (AW.lm 11 I (fun m => ?_)))
 obtain ⟨D, n, e⟩ := ob_some h
 clear h
 refine AW.forX n [(0, _), (1, _), (12, _)] ⟨I, I, I, J⟩ (fun (a : Nat) (f : Unit) s ob => s = [(13, .V (a : Int))] ∧ ob = []) ⟨I, I⟩ ⟨I, J⟩ ⟨[], I, by decide⟩ ?_ ?_
 rintro a c f E s ob o g ⟨rfl, rfl⟩ h p
 unfold L.zrak.B2 at h
 have q := lt_t g
 refine AW.z I (AW.seqG (fun F t => (AW.condK (v := true) I q (AW.skip ?_))))
 subst t
 refine AW.seq (AW.block (AW.z I (AW.seq ?_)))
 obtain ⟨b, ⟨u, w⟩, h⟩ := ob_ix h
 refine AW.rd (pd 9 0 []) [] [] I (AP.r 8 [.x 2 a (Hop.row c), .x 6 b.1 (Hop.row b.2)] I ⟨⟨u, map_get w⟩, ⟨I, map_get o⟩, J⟩ (AP.op I (Yp.eqStruct (r := ((c.Segment == b.2.Segment) && ((c.Back == b.2.Back) && true))) I I Tryz.eq107 I I I I) I (AP.ofAO (AO.nil (AW.ch h I ?_ ?_)))))
 intro y h
 refine AW.z I ?_
 obtain rfl := p _ (oi h).symm
 replace h := e
 replace h := se_r h
 obtain rfl := oi h
 exact AW.ret pr
 intro y h
 refine AW.skip (AW.region (AO.r 2 [.k 0 (a + 1 : Nat)] I ⟨cast_wr g m, J⟩ ?_))
 obtain rfl := oi h
 refine AO.nil ?_
 exact ⟨_, _, _, I, ⟨I, I⟩, ⟨I, I, I, I, J⟩, [], I, by decide⟩
 rintro f s ob ⟨rfl, rfl⟩ he
 subst he
 have h := se_l e
 have A := lt_f s1_0.length
 refine AW.z I (AW.seqG (fun G H => (AW.condK (v := false) I A (AW.exit ?_))))
 exact lg ⟨(), h, I, I⟩ []
 rintro s ob ⟨d, h, rfl, rfl⟩
 unfold L.zrak.J1 at h
 refine AW.z I ?_
 obtain rfl := oi h
 exact AW.ret pr
theorem L.ztke_ok (a : Path) (b : Path) (r : Bool) (h : L.ztke a b = some r) : ACalls Tryz.env 146 [.agg (Path.row a), .agg (Path.row b)] [] (fun x new => x = .v (.bool r) ∧ new = []) := by
 refine ACalls.of_body Tryz.func146 rfl rfl rfl (fun C hC => ?_)
 unfold L.ztke at h
 refine AW.seqG (fun k g => (AW.region (AO.act [] I (AX.box (cs := Path.row a) (m := 4) I I I dS (fun l => (AO.act [] I (AX.box (cs := Path.row b) (m := 4) I I I dS (fun n => (AO.q 1 I (AO.nil ?_))))))))))
 subst g
 refine AW.cutX (fun s ob => ∃ (f : Bool), L.ztke.J1 f = some r ∧ s = [(4, .v (.bool f))] ∧ ob = []) [] J ?_ ?_
 refine AW.region (AO.r 6 [.o 1 0, .o 3 1] I ⟨I, I, J⟩ ?_)
 rcases bt ((a.In == b.In)) with d | d
 replace h := ife_t d h
 refine AO.known 10 I d ?_
 rcases bt ((a.Out == b.Out)) with e | e
 replace h := ife_t e h
 obtain ⟨i, j, h⟩ := ob_some h
 refine AO.r 7 [.o 1 0, .o 3 1] I ⟨I, I, J⟩ (AO.known 17 I e (AO.r 4 [.o 1 0, .o 3 1] I ⟨I, I, J⟩ (AO.gt I I I (AO.c (L.zrak_ok _ _ _ j) (AO.q 2 I (AO.nil ?_))))))
 exact lg ⟨i, h, I, I⟩ []
 replace h := ife_f e h
 refine AO.r 7 [.o 1 0, .o 3 1] I ⟨I, I, J⟩ (AO.known 17 I e (AO.q 7 I (AO.nil ?_)))
 exact lg ⟨false, h, I, I⟩ []
 replace h := ife_f d h
 refine AO.known 10 I d (AO.q 14 I (AO.nil ?_))
 exact lg ⟨false, h, I, I⟩ []
 rintro s ob ⟨f, h, rfl, rfl⟩
 unfold L.ztke.J1 at h
 obtain rfl := oi h
 exact AW.ret pr
theorem L.zjqr_ok (a : List Path) (F1 : T) {c : FuncId} {d e : List T} (o : fnT F1 = some (c, d, e)) (f : Path → Option Bool) (p : ∀ (g : Path) r, f g = some r → ACalls Tryz.env c (d ++ [.agg (Path.row g)] ++ e) [] (fun x new => x = .v (.bool r) ∧ new = [])) (r : Int) (h : L.zjqr a f = some r) : ACalls Tryz.env 144 [.list 4 (a.map Path.row), F1] [] (fun x new => x = .V r ∧ new = []) := by
 refine ACalls.of_body Tryz.func144 rfl rfl rfl (fun C hC => ?_)
 unfold L.zjqr at h
 refine AW.z I (AW.cutX (fun s ob => ∃ (i : Unit), L.zjqr.J1 i = some r ∧ s = [] ∧ ob = []) [] J ?_ ?_)
 refine AW.zr [.l 1 (a.length : Int)] I ⟨len_m, J⟩ (AW.block (AW.lm 6 I (fun q => ?_)))
 obtain ⟨G, t, j⟩ := ob_some h
 clear h
 refine AW.forX t [(0, _), (1, _), (7, _)] ⟨I, I, I, J⟩ (fun (b : Nat) (m : Unit) s ob => s = [(8, .V (b : Int))] ∧ ob = []) ⟨I, I⟩ ⟨I, J⟩ ⟨[], I, by decide⟩ ?_ ?_
 rintro b u m H s ob w n ⟨rfl, rfl⟩ h y
 unfold L.zjqr.B2 at h
 have A := lt_t n
 refine AW.z I (AW.seqG (fun K B => (AW.condK (v := true) I A (AW.skip ?_))))
 subst B
 refine AW.seq (AW.block (AW.z I (AW.seq ?_)))
 obtain ⟨M, D, h⟩ := ob_some h
 refine AW.region (AO.r 5 [.x 3 b (Path.row u)] I ⟨⟨I, map_get w⟩, J⟩ (AO.act [] I (AX.callL I (.refl _) o I (.rest _) I (p _ _ D) dS (by rintro _ _ ⟨rfl, _⟩; rfl) ?_)))
 rintro _ ⟨_, rfl, -⟩
 refine AO.nil (AW.ch h I ?_ ?_)
 intro E h
 refine AW.z I ?_
 obtain rfl := y _ (oi h).symm
 replace h := j
 replace h := se_r h
 obtain rfl := oi h
 exact AW.ret pr
 intro E h
 refine AW.skip (AW.region (AO.r 2 [.k 0 (b + 1 : Nat)] I ⟨cast_wr n q, J⟩ ?_))
 obtain rfl := oi h
 refine AO.nil ?_
 exact ⟨_, _, _, I, ⟨I, I⟩, ⟨I, I, I, I, J⟩, [], I, by decide⟩
 rintro m s ob ⟨rfl, rfl⟩ he
 subst he
 have h := se_l j
 have F := lt_f a.length
 refine AW.z I (AW.seqG (fun N O => (AW.condK (v := false) I F (AW.exit ?_))))
 exact lg ⟨(), h, I, I⟩ []
 rintro s ob ⟨i, h, rfl, rfl⟩
 unfold L.zjqr.J1 at h
 refine AW.z I ?_
 obtain rfl := oi h
 exact AW.ret pr
theorem L.zfog_ok (a : Path) (b : Path) (r : Bool) (h : L.zfog a b = some r) : ACalls Tryz.env 145 [.agg (Path.row a), .eptr (Path.row b)] [] (fun x new => x = .v (.bool r) ∧ new = []) := by
 refine ACalls.of_body Tryz.func145 rfl rfl rfl (fun C hC => ?_)
 unfold L.zfog at h
 refine AW.seq (AW.region (AO.act [] I (AX.box (cs := Path.row a) (m := 4) I I I dS (fun e => (AO.q 1 I (AO.nil (AW.seq ?_)))))))
 obtain ⟨f, d, h⟩ := ob_some h
 refine AW.region (AO.r 2 [.o 0 0] I ⟨I, J⟩ (AO.c (L.ztke_ok _ _ _ d) (AO.q 1 I (AO.nil (AW.ghost g0 ?_)))))
 obtain rfl := oi h
 exact AW.ret pr
theorem L.zdhf_ok (b : List Path) (a : Path) (r : Int) (h : L.zdhf b a = some r) : ACalls Tryz.env 94 [.list 4 (b.map Path.row), .agg (Path.row a)] [] (fun x new => x = .V r ∧ new = []) := by
 refine ACalls.of_body Tryz.func94 rfl rfl rfl (fun C hC => ?_)
 unfold L.zdhf at h
 refine AW.seq (AW.region (AO.act [] I (AX.box (cs := Path.row a) (m := 4) I I I dS (fun d => (AO.q 1 I (AO.nil (AW.seq ?_)))))))
 obtain ⟨e, c, h⟩ := ob_some h
 refine AW.region (AO.q 1 I (AO.p (Yp.makeFunc I I) I (AO.act [] I (AX.callL I (.refl _) I I (.cons (.refl _) (.cons (.fn (.rest _) (.cons (.box 0 I (.rest _)) (.rest _))) (.rest _))) I (L.zjqr_ok _ (.fn 145 [] [.eptr (Path.row a)]) I (fun x => L.zfog x a) (fun x r h => L.zfog_ok x a r h) _ c) dS (by rintro _ _ ⟨rfl, _⟩; rfl) ?_))))
 rintro _ ⟨_, rfl, -⟩
 refine AO.q 1 I (AO.nil (AW.ghost g0 ?_))
 obtain rfl := oi h
 exact AW.ret pr
theorem L.zprq_ok (e : List Path) (n : List Path) (r : List Path) (h : L.zprq e n = some r) : ACalls Tryz.env 92 [.list 4 (e.map Path.row), .list 4 (n.map Path.row)] [] (fun x new => ∃ (p : Value), x = .v p ∧ new = [.us p 52 4 (r.map Path.row)]) := by
 refine ACalls.of_body Tryz.func92 rfl rfl rfl (fun C hC => ?_)
 unfold L.zprq at h
 refine AW.z I (AW.z I (AW.cutX (fun s ob => ∃ (f : List Path) (b : Value), L.zprq.J1 f = some r ∧ s = [(5, .v b)] ∧ ob = [.us b 52 4 (f.map Path.row)]) [] J ?_ ?_))
 refine AW.zr [.l 1 (e.length : Int)] I ⟨len_m, J⟩ (AW.block (AW.lm 9 I (fun y => (AW.ghost (Ghost.nilU 52 4) ?_))))
 obtain ⟨Z, A, B⟩ := ob_some h
 clear h
 refine AW.forY A [(1, _), (9, _), (10, _)] ⟨I, I, I, J⟩ (fun (g : Nat) (d : List Path) s ob => ∃ (a : Value), s = [(11, .V (g : Int)), (5, .v a)] ∧ ob = [.us a 52 4 (d.map Path.row)]) ⟨(.slice none 0 0), I, I⟩ ⟨I, I, J⟩ ⟨[0], I, by decide⟩ ?_ ?_
 rintro g t d D s ob E u ⟨a, rfl, rfl⟩ h
 unfold L.zprq.B2 at h
 have F := lt_t u
 refine AW.z I (AW.seqG (fun aa G => (AW.condK (v := true) I F (AW.skip ?_))))
 subst G
 refine AW.cutX (fun s ob => ∃ (j : List Path) (i : Value), L.zprq.J3 j = some D ∧ s = [(5, .v i)] ∧ ob = [.us i 52 4 (j.map Path.row)]) [(1, _), (9, _), (10, _), (11, _)] ⟨I, I, I, I, J⟩ ?_ ?_
 refine AW.block (AW.seqG (fun ab H => (AW.region (AO.r 2 [.x 0 g (Path.row t)] I ⟨⟨I, map_get E⟩, J⟩ (AO.act [] I (AX.alloc (cs := [.V 0, .V 0, .N, .V 0]) (m := 4) I I I I I dS (fun ac => (AO.act [1] I (AX.st 1 0 0 [Path.row t] I (AO.nil ?_))))))))))
 subst H
 refine AW.seqG (fun ad K => ?_)
 obtain ⟨ae, M, h⟩ := ob_some h
 refine AW.region (AO.r 2 [.o 1 1] I ⟨I, J⟩ (AO.c (L.zdhf_ok _ _ _ M) (AO.q 1 I (AO.nil ?_))))
 subst K
 refine AW.z I (AW.ch h I ?_ ?_)
 intro O h
 obtain ⟨w, ⟨P, Q⟩, h⟩ := ob_ix h
 obtain ⟨R, S, h⟩ := ob_some h
 obtain ⟨U, W, h⟩ := ob_some h
 refine AW.rd (pd 14 0 [10, 11, 12]) [1] [_] I (AP.r 10 [.o 1 0, .o 3 0, .x 6 w.1 (Path.row w.2)] I ⟨⟨P, map_get Q⟩, I, I, J⟩ (AP.act [] I I I (AX.call0 I I I (L.znbv_ok _ _ _ S) dS ?_)))
 rintro _ _ ⟨rfl, rfl⟩
 refine AP.act [] I I I (AX.lt 4 (([R] : List Path).map Path.row) (AP.act [0] I I I (AX.ap 0 I W (fun X => (AP.eraS 5 (AP.q 1 I (AP.ofAO (AO.nil ?_))))))))
 exact lg ⟨U, X, h, I, I⟩ [0]
 intro O h
 refine AW.skip ?_
 exact lg ⟨d, a, h, I, I⟩ [0]
 rintro s ob ⟨j, i, h, rfl, rfl⟩
 unfold L.zprq.J3 at h
 refine AW.region (AO.r 2 [.k 0 (g + 1 : Nat)] I ⟨cast_wr u y, J⟩ ?_)
 obtain rfl := oi h
 refine AO.nil ?_
 exact lg ⟨i, I, I⟩ [0]
 rintro d s ob ⟨a, rfl, rfl⟩ he
 subst he
 have h := B
 have Y := lt_f e.length
 refine AW.z I (AW.seqG (fun af ag => (AW.condK (v := false) I Y (AW.exit ?_))))
 exact lg ⟨d, a, h, I, I⟩ [0]
 rintro s ob ⟨f, b, h, rfl, rfl⟩
 unfold L.zprq.J1 at h
 refine AW.z I ?_
 obtain rfl := oi h
 exact AW.ret ⟨.inr I, [_], [.us b 52 4 (f.map Path.row)], ⟨I, J⟩, sl_c I (sl_n), ⟨b, I, I⟩⟩
end Go.Proofs.YtmaamhgjeampmaaGreat
