/- Walks that show what functions of the program compute; printed by a program of ours. No condition. -/
import Derived.Test.YtaliejncdnegeaaGreatZwLv1
import Derived.Test.YtaliejncdnegeaaGreatZwD
set_option maxRecDepth 100000
namespace Go.Proofs.YtaliejncdnegeaaGreat
open Go.Aw
set_option linter.unusedVariables false
set_option linter.unusedSimpArgs false
set_option maxHeartbeats 4000000
theorem L.zdwa_ok (a : Segment) (b : Int) (r : Int × Int) (h : L.zdwa a b = r) : ACalls Tryz.env 59 [.agg (Segment.row a), .V b] [] (fun x new => x = .tup [.V r.1, .V r.2] ∧ new = []) := by
 refine ACalls.of_body Tryz.func59 rfl rfl rfl (fun C hC => ?_)
 unfold L.zdwa at h
 refine AW.seqG (fun e c => (AW.region (AO.act [] I (AX.box (cs := Segment.row a) (m := 7) I I I dS (fun f => (AO.q 2 I (AO.nil ?_)))))))
 subst c
 refine AW.seq (AW.z I (AW.ch h I ?_ ?_))
 intro d h
 refine AW.dz (pd 6 0 []) [0] [_] [.o 1 0, .o 3 0] I I ⟨I, I, J⟩ (AW.ghost g0 ?_)
 obtain rfl := h
 exact AW.ret ⟨.inr I, [_, _], [], ⟨I, I, J⟩, sl_n, I, I⟩
 intro d h
 refine AW.skip (AW.dz (pd 6 0 []) [0] [_] [.o 1 0, .o 3 0] I I ⟨I, I, J⟩ (AW.ghost g0 ?_))
 obtain rfl := h
 exact AW.ret ⟨.inr I, [_, _], [], ⟨I, I, J⟩, sl_n, I, I⟩
theorem L.zuap_ok (a : Int) (r : Int) (h : L.zuap a = r) : ACalls Tryz.env 60 [.V a] [] (fun x new => x = .V r ∧ new = []) := by
 refine ACalls.of_body Tryz.func60 rfl rfl rfl (fun C hC => ?_)
 unfold L.zuap at h
 refine AW.z I (AW.z I ?_)
 obtain rfl := h
 exact AW.ret pr
theorem L.zeew_ok (a : Network) (e : Plan) (t : Int) (r : Int × Int) (h : L.zeew a e t = some r) : ACalls Tryz.env 92 [.agg (Network.row a), .agg (Plan.row e), .V t] [] (fun x new => x = .tup [.V r.1, .V r.2] ∧ new = []) := by
 refine ACalls.of_body Tryz.func92 rfl rfl rfl (fun C hC => ?_)
 unfold L.zeew at h
 refine AW.seqG (fun y1 Q => (AW.region (AO.act [] I (AX.box (cs := Network.row a) (m := 6) I I I dS (fun u => (AO.act [] I (AX.box (cs := Plan.row e) (m := 3) I I I dS (fun g => (AO.q 2 I (AO.nil ?_))))))))))
 subst Q
 refine AW.z I (AW.cutX (fun s ob => ∃ (w : Int × Int), L.zeew.J1 a e t w = some r ∧ s = [(8, .V w.1), (9, .V w.2)] ∧ ob = [.arr u 32 6 1 [Network.row a], .arr g 46 3 1 [Plan.row e]]) [(2, _), (3, _), (4, _)] ⟨I, I, I, J⟩ ?_ ?_)
 refine AW.zr [.o 1 0, .l 2 (a.Segments.length : Int)] I ⟨len_m, I, J⟩ (AW.block (AW.listMax 17 I (fun G => ?_)))
 replace G : a.Segments.length ≤ 9223372036854775806 := by rw [List.length_map] at G; omega
 obtain ⟨av, R, S⟩ := ob_some h
 clear h
 refine AW.forY R [(2, _), (3, _), (4, _), (17, _), (18, _)] ⟨I, I, I, I, I, J⟩ (fun (j : Nat) (d : Int × Int) s ob => s = [(19, .V (j : Int)), (8, .V d.1), (9, .V d.2)] ∧ ob = [.arr u 32 6 1 [Network.row a], .arr g 46 3 1 [Plan.row e]]) ⟨I, I⟩ ⟨I, I, I, J⟩ ⟨[0, 1], I, by decide⟩ ?_ ?_
 rintro j y d K s ob U W ⟨rfl, rfl⟩ h
 unfold L.zeew.B5 at h
 have X : decide ((j : Int) < (a.Segments.length : Int)) = true := decide_eq_true (by omega)
 refine AW.z I (AW.seqG (fun aw Y => (AW.condK (v := true) I X (AW.skip ?_))))
 subst Y
 refine AW.cutX (fun s ob => ∃ (A : Int × Int), L.zeew.J6 A = some K ∧ s = [(8, .V A.1), (9, .V A.2)] ∧ ob = [.arr u 32 6 1 [Network.row a], .arr g 46 3 1 [Plan.row e]]) [(2, _), (3, _), (4, _), (17, _), (18, _), (19, _)] ⟨I, I, I, I, I, I, J⟩ ?_ ?_
 refine AW.block (AW.seqG (fun ax Z => (AW.region (AO.r 3 [.x 1 j (Segment.row y)] I ⟨⟨I, map_get U⟩, J⟩ (AO.act [] I (AX.alloc (cs := [.v (.string ⟨#[]⟩), .V 0, .V 0, .V 0, .V 0, .V 0, .N]) (m := 7) I I I I I dS (fun ay => (AO.q 1 I (AO.act [2] I (AX.store 2 0 0 (es' := [Segment.row y]) I I I I I I I I (le_ble I) I I (AO.nil ?_)))))))))))
 subst Z
 refine AW.seqG (fun az aa => (AW.seq ?_))
 obtain ⟨b, ab, h⟩ := ob_some h
 obtain ⟨B, D⟩ := ix_some ab
 refine AW.tr [.o 1 1, .x 3 b.1 (rI b.2)] I ⟨⟨B, map_get D⟩, I, J⟩ (AW.ch h I ?_ ?_)
 intro ac h
 refine AW.exit ?_
 exact lg ⟨(d.1, d.2), h, I, I⟩ [0, 1]
 intro ac h
 refine AW.skip ?_
 subst aa
 refine AW.seqG (fun a0 ad => (AW.rd (pd 12 0 [6]) [2, 1] [_, _] I (AP.r 6 [.o 0 0, .o 2 1, .x 4 b.1 (rI b.2)] I ⟨⟨B, map_get D⟩, I, I, J⟩ (AP.c I (L.zdwa_ok y b.2 _ I) (AP.q 5 I (AP.ofAO (AO.nil ?_)))))))
 subst ad
 refine AW.cutX (fun s ob => ∃ (n : Int), L.zeew.J7 t y d b n = some K ∧ s = [(9, .V n)] ∧ ob = [.arr u 32 6 1 [Network.row a], .arr g 46 3 1 [Plan.row e]]) [(2, _), (3, _), (4, _), (8, _), (10, _), (13, _), (17, _), (18, _), (19, _)] ⟨I, I, I, I, I, I, I, I, I, J⟩ ?_ ?_
 refine AW.z I (AW.ch h I ?_ ?_)
 intro ae h
 refine AW.region (AO.r 6 [.o 2 1, .x 4 b.1 (rI b.2)] I ⟨⟨B, map_get D⟩, I, J⟩ (AO.c (L.zuap_ok b.2 _ I) (AO.q 2 I (AO.nil ?_))))
 exact lg ⟨wr (d.2 + (L.zuap b.2)), h, I, I⟩ [0, 1]
 intro ae h
 refine AW.skip ?_
 exact lg ⟨d.2, h, I, I⟩ [0, 1]
 rintro s ob ⟨n, h, rfl, rfl⟩
 unfold L.zeew.J7 at h
 refine AW.z I (AW.ch h I ?_ ?_)
 intro af h
 refine AW.region (AO.r 6 [.o 2 1, .x 4 b.1 (rI b.2)] I ⟨⟨B, map_get D⟩, I, J⟩ (AO.c (L.zuap_ok b.2 _ I) (AO.q 2 I (AO.nil ?_))))
 exact lg ⟨(wr (d.1 + (L.zuap b.2)), n), h, I, I⟩ [0, 1]
 intro af h
 refine AW.skip ?_
 exact lg ⟨(d.1, n), h, I, I⟩ [0, 1]
 rintro s ob ⟨A, h, rfl, rfl⟩
 unfold L.zeew.J6 at h
 refine AW.region (AO.r 2 [.k 0 (j + 1 : Nat)] I ⟨cast_wr W G, J⟩ ?_)
 obtain rfl := oi h
 refine AO.nil ?_
 exact lg ⟨I, I⟩ [0, 1]
 rintro d s ob ⟨rfl, rfl⟩ he
 subst he
 have h := S
 have ag : decide (((a.Segments.length : Nat) : Int) < (a.Segments.length : Int)) = false := by simp
 refine AW.z I (AW.seqG (fun a1 a2 => (AW.condK (v := false) I ag (AW.exit ?_))))
 exact lg ⟨(d.1, d.2), h, I, I⟩ [0, 1]
 rintro s ob ⟨w, h, rfl, rfl⟩
 unfold L.zeew.J1 at h
 refine AW.cutX (fun s ob => ∃ (E : Int × Int), L.zeew.J2 E = some r ∧ s = [(8, .V E.1), (9, .V E.2)] ∧ ob = []) [] J ?_ ?_
 refine AW.zr [.o 1 0, .l 2 (a.Ports.length : Int)] I ⟨len_m, I, J⟩ (AW.block (AW.listMax 64 I (fun H => ?_)))
 replace H : a.Ports.length ≤ 9223372036854775806 := by rw [List.length_map] at H; omega
 obtain ⟨a3, ah, ai⟩ := ob_some h
 clear h
 refine AW.forY ah [(2, _), (4, _), (64, _), (65, _)] ⟨I, I, I, I, J⟩ (fun (p : Nat) (f : Int × Int) s ob => s = [(66, .V (p : Int)), (8, .V f.1), (9, .V f.2)] ∧ ob = [.arr g 46 3 1 [Plan.row e]]) ⟨I, I⟩ ⟨I, I, I, J⟩ ⟨[1], I, by decide⟩ ?_ ?_
 rintro p M f aj s ob ak al ⟨rfl, rfl⟩ h
 unfold L.zeew.B3 at h
 have am : decide ((p : Int) < (a.Ports.length : Int)) = true := decide_eq_true (by omega)
 refine AW.z I (AW.seqG (fun a4 an => (AW.condK (v := true) I am (AW.skip ?_))))
 subst an
 refine AW.cutX (fun s ob => ∃ (F : Int × Int), L.zeew.J4 F = some aj ∧ s = [(8, .V F.1), (9, .V F.2)] ∧ ob = [.arr g 46 3 1 [Plan.row e]]) [(2, _), (4, _), (64, _), (65, _), (66, _)] ⟨I, I, I, I, I, J⟩ ?_ ?_
 refine AW.block (AW.seqG (fun a5 ao => (AW.region (AO.r 3 [.x 1 p (Port.row M)] I ⟨⟨I, map_get ak⟩, J⟩ (AO.act [] I (AX.alloc (cs := [.v (.string ⟨#[]⟩), .V 0, .V 0]) (m := 3) I I I I I dS (fun a6 => (AO.q 1 I (AO.act [1] I (AX.store 1 0 0 (es' := [Port.row M]) I I I I I I I I (le_ble I) I I (AO.nil ?_)))))))))))
 subst ao
 refine AW.zr [.o 1 1] I ⟨I, J⟩ (AW.ch h I ?_ ?_)
 intro ap h
 obtain ⟨i, aq, h⟩ := ob_some h
 obtain ⟨O, P⟩ := ix_some aq
 refine AW.dt (pd 19 0 []) [0] [_] [.o 2 0, .x 4 i.1 (rI i.2), .o 10 0, .x 12 i.1 (rI i.2)] I I ⟨⟨O, map_get P⟩, I, ⟨O, map_get P⟩, I, J⟩ ?_
 exact lg ⟨(wr (f.1 + (max 0 i.2)), wr (f.2 + (max 0 (wr (0 - i.2))))), h, I, I⟩ [0]
 intro ap h
 refine AW.skip ?_
 exact lg ⟨(f.1, f.2), h, I, I⟩ [0]
 rintro s ob ⟨F, h, rfl, rfl⟩
 unfold L.zeew.J4 at h
 refine AW.region (AO.r 2 [.k 0 (p + 1 : Nat)] I ⟨cast_wr al H, J⟩ ?_)
 obtain rfl := oi h
 refine AO.nil ?_
 exact lg ⟨I, I⟩ [0]
 rintro f s ob ⟨rfl, rfl⟩ he
 subst he
 have h := ai
 have ar : decide (((a.Ports.length : Nat) : Int) < (a.Ports.length : Int)) = false := by simp
 refine AW.z I (AW.seqG (fun a7 a8 => (AW.condK (v := false) I ar (AW.exit ?_))))
 exact lg ⟨(f.1, f.2), h, I, I⟩ []
 rintro s ob ⟨E, h, rfl, rfl⟩
 unfold L.zeew.J2 at h
 refine AW.z I ?_
 obtain rfl := oi h
 exact AW.ret ⟨.inr I, [_, _], [], ⟨I, I, J⟩, sl_n, I, I⟩
theorem L.zaew_ok (a : Network) (g : Plan) (r : List Int) (h : L.zaew a g = some r) : ACalls Tryz.env 89 [.agg (Network.row a), .agg (Plan.row g)] [] (fun x new => ∃ (W : Value), x = .v W ∧ new = [.us W 3 1 (r.map rI)]) := by
 refine ACalls.of_body Tryz.func89 rfl rfl rfl (fun C hC => ?_)
 unfold L.zaew at h
 refine AW.seqG (fun y1 ae => (AW.region (AO.act [] I (AX.box (cs := Network.row a) (m := 6) I I I dS (fun i => (AO.act [] I (AX.box (cs := Plan.row g) (m := 3) I I I dS (fun j => (AO.q 1 I (AO.nil ?_))))))))))
 subst ae
 refine AW.z I (AW.seqG (fun y5 af => ?_))
 obtain ⟨l6, ag, h⟩ := ob_some h
 obtain ⟨m8, ah, ai, aj⟩ := mk_some ag
 refine AW.region (AO.r 3 [.o 1 0, .l 2 (a.Nodes.length : Int)] I ⟨len_m, I, J⟩ (AO.act [] I (AX.makeU (sz := 1) I I I I I I I I I I ah ai (rep_map (f := rB) aj I) dS (fun n => (AO.q 1 I (AO.nil ?_))))))
 subst af
 refine AW.block (AW.ghost (Ghost.nilU 3 1) ?_)
 obtain ⟨bp, ak, al⟩ := ob_some h
 clear h
 refine AW.loopX ak [(2, _), (3, _), (6, _)] ⟨I, I, I, J⟩ (fun (b : (List Int) × (List Bool)) s ob => ∃ (e : Value), s = [(5, .v e)] ∧ ob = [.arr i 32 6 1 [Network.row a], .arr j 46 3 1 [Plan.row g], .us n 4 1 (b.2.map rB), .us e 3 1 (b.1.map rI)]) ⟨(.slice none 0 0), I, I⟩ ⟨I, J⟩ ⟨[0, 1, 2, 3], I, by decide⟩ ?_
 rintro b am s ob ⟨e, rfl, rfl⟩ h an
 unfold L.zaew.B1 at h
 refine AW.block (AW.z I (AW.cutX (fun s ob => ∃ (H : Int), L.zaew.J2 b H = some am ∧ s = [(7, .V H)] ∧ ob = [.arr i 32 6 1 [Network.row a], .arr j 46 3 1 [Plan.row g], .us n 4 1 (b.2.map rB), .us e 3 1 (b.1.map rI)]) [(2, _), (3, _), (5, _), (6, _)] ⟨I, I, I, I, J⟩ ?_ ?_))
 refine AW.zr [.o 1 0, .l 2 (a.Nodes.length : Int)] I ⟨len_m, I, J⟩ (AW.block (AW.listMax 19 I (fun P => ?_)))
 replace P : a.Nodes.length ≤ 9223372036854775806 := by rw [List.length_map] at P; omega
 obtain ⟨bq, ao, aq⟩ := ob_some h
 clear h
 refine AW.forY ao [(2, _), (3, _), (5, _), (6, _), (20, _)] ⟨I, I, I, I, I, J⟩ (fun (p : Nat) (u : Int) s ob => s = [(21, .V (p : Int)), (7, .V u)] ∧ ob = [.arr i 32 6 1 [Network.row a], .arr j 46 3 1 [Plan.row g], .us n 4 1 (b.2.map rB), .us e 3 1 (b.1.map rI)]) ⟨I, I⟩ ⟨I, I, J⟩ ⟨[0, 1, 2, 3], I, by decide⟩ ?_ ?_
 rintro p br u X s ob bs ar ⟨rfl, rfl⟩ h
 unfold L.zaew.B3 at h
 have au : decide ((p : Int) < (a.Nodes.length : Int)) = true := decide_eq_true (by omega)
 refine AW.z I (AW.seqG (fun bu av => (AW.condK (v := true) I au (AW.skip ?_))))
 subst av
 refine AW.cutX (fun s ob => ∃ (Q : Int), L.zaew.J4 Q = some X ∧ s = [(7, .V Q)] ∧ ob = [.arr i 32 6 1 [Network.row a], .arr j 46 3 1 [Plan.row g], .us n 4 1 (b.2.map rB), .us e 3 1 (b.1.map rI)]) [(2, _), (3, _), (5, _), (6, _), (20, _), (21, _)] ⟨I, I, I, I, I, I, J⟩ ?_ ?_
 refine AW.block (AW.z I (AW.seqG (fun bv aw => ?_)))
 obtain ⟨R, ax, h⟩ := ob_some h
 obtain ⟨ay, Y⟩ := ix_some ax
 refine AW.region (AO.q 2 I (AO.d (Yd.indexU 2 (m := R.1) I I I I I I I ay (map_get Y)) I (AO.d (Yd.loadU 2 R.1 0 I I I (map_get Y) I (y := .v (.bool R.2)) I) I (AO.q 2 I (AO.nil ?_)))))
 subst aw
 refine AW.cutX (fun s ob => ∃ (B : Bool), L.zaew.J5 p u B = some X ∧ s = [(9, .v (.bool B))] ∧ ob = [.arr i 32 6 1 [Network.row a], .arr j 46 3 1 [Plan.row g], .us n 4 1 (b.2.map rB), .us e 3 1 (b.1.map rI)]) [(2, _), (3, _), (5, _), (6, _), (7, _), (8, _), (20, _), (21, _)] ⟨I, I, I, I, I, I, I, I, J⟩ ?_ ?_
 refine AW.zr [.o 1 0, .l 2 (a.Segments.length : Int)] I ⟨len_m, I, J⟩ (AW.block (AW.listMax 30 I (fun S => ?_)))
 replace S : a.Segments.length ≤ 9223372036854775806 := by rw [List.length_map] at S; omega
 obtain ⟨bw, az, a0⟩ := ob_some h
 clear h
 refine AW.forY az [(2, _), (3, _), (5, _), (6, _), (7, _), (8, _), (20, _), (21, _), (30, _), (31, _)] ⟨I, I, I, I, I, I, I, I, I, I, J⟩ (fun (D : Nat) (w : Bool) s ob => s = [(32, .V (D : Int)), (9, .v (.bool w))] ∧ ob = [.arr i 32 6 1 [Network.row a], .arr j 46 3 1 [Plan.row g], .us n 4 1 (b.2.map rB), .us e 3 1 (b.1.map rI)]) ⟨I, I⟩ ⟨I, I, J⟩ ⟨[0, 1, 2, 3], I, by decide⟩ ?_ ?_
 rintro D M w a1 s ob a2 a3 ⟨rfl, rfl⟩ h
 unfold L.zaew.B6 at h
 have a4 : decide ((D : Int) < (a.Segments.length : Int)) = true := decide_eq_true (by omega)
 refine AW.z I (AW.seqG (fun bx a5 => (AW.condK (v := true) I a4 (AW.skip ?_))))
 subst a5
 refine AW.cutX (fun s ob => ∃ (U : Bool), L.zaew.J7 U = some a1 ∧ s = [(9, .v (.bool U))] ∧ ob = [.arr i 32 6 1 [Network.row a], .arr j 46 3 1 [Plan.row g], .us n 4 1 (b.2.map rB), .us e 3 1 (b.1.map rI)]) [(2, _), (3, _), (5, _), (6, _), (7, _), (8, _), (20, _), (21, _), (30, _), (31, _), (32, _)] ⟨I, I, I, I, I, I, I, I, I, I, I, J⟩ ?_ ?_
 refine AW.block (AW.seqG (fun b0 a6 => (AW.region (AO.r 3 [.x 1 D (Segment.row M)] I ⟨⟨I, map_get a2⟩, J⟩ (AO.act [] I (AX.alloc (cs := [.v (.string ⟨#[]⟩), .V 0, .V 0, .V 0, .V 0, .V 0, .N]) (m := 7) I I I I I dS (fun b1 => (AO.q 1 I (AO.act [4] I (AX.store 4 0 0 (es' := [Segment.row M]) I I I I I I I I (le_ble I) I I (AO.nil ?_)))))))))))
 subst a6
 refine AW.seqG (fun b4 a7 => ?_)
 obtain ⟨A, a8, h⟩ := ob_some h
 obtain ⟨Z, aa⟩ := ix_some a8
 refine AW.tr [.o 1 1, .x 3 A.1 (rI A.2)] I ⟨⟨Z, map_get aa⟩, I, J⟩ ?_
 subst a7
 refine AW.ch h I ?_ ?_
 intro a9 h
 refine AW.seqG (fun b5 ba => (AW.rd (pd 12 0 [6]) [4, 1] [_, _] I (AP.r 6 [.o 0 0, .o 2 1, .x 4 A.1 (rI A.2)] I ⟨⟨Z, map_get aa⟩, I, I, J⟩ (AP.c I (L.zdwa_ok M A.2 _ I) (AP.q 5 I (AP.ofAO (AO.nil ?_)))))))
 subst ba
 refine AW.region (AO.q 2 I ?_)
 rcases bt (w) with E | E
 replace h := ife_t E h
 refine AO.known 54 I E ?_
 rcases bt ((((L.zdwa M A.2).2) != (p : Int))) with F | F
 replace h := ife_t F h
 refine AO.q 4 I (AO.known 58 I F (AO.q 7 I (AO.nil ?_)))
 exact lg ⟨true, h, I, I⟩ [0, 1, 2, 3]
 replace h := ife_f F h
 obtain ⟨O, bb, h⟩ := ob_some h
 obtain ⟨bc, ab⟩ := ix_some bb
 refine AO.q 4 I (AO.known 58 I F (AO.q 2 I (AO.gt I I I (AO.d (Yd.indexU 2 (m := O.1) I I I I I I I bc (map_get ab)) I (AO.gt I I I (AO.d (Yd.loadU 2 O.1 0 I I I (map_get ab) I (y := .v (.bool O.2)) I) I (AO.q 3 I (AO.nil ?_))))))))
 exact lg ⟨O.2, h, I, I⟩ [0, 1, 2, 3]
 replace h := ife_f E h
 refine AO.known 54 I E (AO.q 4 I (AO.skipU I I dS (AO.skipU I I dS (AO.skipU I I dS (AO.skipU I I dS (AO.q 3 I (AO.nil ?_)))))))
 exact lg ⟨false, h, I, I⟩ [0, 1, 2, 3]
 intro a9 h
 refine AW.skip ?_
 exact lg ⟨w, h, I, I⟩ [0, 1, 2, 3]
 rintro s ob ⟨U, h, rfl, rfl⟩
 unfold L.zaew.J7 at h
 refine AW.region (AO.r 2 [.k 0 (D + 1 : Nat)] I ⟨cast_wr a3 S, J⟩ ?_)
 obtain rfl := oi h
 refine AO.nil ?_
 exact lg ⟨I, I⟩ [0, 1, 2, 3]
 rintro w s ob ⟨rfl, rfl⟩ he
 subst he
 have h := a0
 have bd : decide (((a.Segments.length : Nat) : Int) < (a.Segments.length : Int)) = false := by simp
 refine AW.z I (AW.seqG (fun b6 b7 => (AW.condK (v := false) I bd (AW.exit ?_))))
 exact lg ⟨w, h, I, I⟩ [0, 1, 2, 3]
 rintro s ob ⟨B, h, rfl, rfl⟩
 unfold L.zaew.J5 at h
 refine AW.cutX (fun s ob => s = [(70, .v (.bool (B && decide (u < 0))))] ∧ ob = [.arr i 32 6 1 [Network.row a], .arr j 46 3 1 [Plan.row g], .us n 4 1 (b.2.map rB), .us e 3 1 (b.1.map rI)]) [(2, _), (3, _), (5, _), (6, _), (7, _), (8, _), (20, _), (21, _)] ⟨I, I, I, I, I, I, I, I, J⟩ ?_ ?_
 refine AW.region (AO.q 2 I ?_)
 rcases bt (B) with G | G
 refine AO.known 67 I G (AO.q 3 I (AO.nil ?_))
 exact lf ⟨I, I⟩ ⟨(get_b (by simp only [G, bz])), I, I, I, I, I, I, I, I, J⟩ [0, 1, 2, 3] I
 refine AO.known 67 I G (AO.q 3 I (AO.nil ?_))
 exact lf ⟨I, I⟩ ⟨(get_b (by simp only [G, bz])), I, I, I, I, I, I, I, I, J⟩ [0, 1, 2, 3] I
 rintro s ob ⟨rfl, rfl⟩
 refine AW.ch h I ?_ ?_
 intro be h
 refine AW.t I ?_
 exact lg ⟨(p : Int), h, I, I⟩ [0, 1, 2, 3]
 intro be h
 refine AW.skip ?_
 exact lg ⟨u, h, I, I⟩ [0, 1, 2, 3]
 rintro s ob ⟨Q, h, rfl, rfl⟩
 unfold L.zaew.J4 at h
 refine AW.region (AO.r 2 [.k 0 (p + 1 : Nat)] I ⟨cast_wr ar P, J⟩ ?_)
 obtain rfl := oi h
 refine AO.nil ?_
 exact lg ⟨I, I⟩ [0, 1, 2, 3]
 rintro u s ob ⟨rfl, rfl⟩ he
 subst he
 have h := aq
 have bf : decide (((a.Nodes.length : Nat) : Int) < (a.Nodes.length : Int)) = false := by simp
 refine AW.z I (AW.seqG (fun b8 b9 => (AW.condK (v := false) I bf (AW.exit ?_))))
 exact lg ⟨u, h, I, I⟩ [0, 1, 2, 3]
 rintro s ob ⟨H, h, rfl, rfl⟩
 unfold L.zaew.J2 at h
 refine AW.seq (AW.z I (AW.ch h I ?_ ?_))
 intro bg h
 refine AW.z I ?_
 obtain rfl := an _ (oi h).symm
 replace h := al
 refine AW.ghost (Ghost.pick [3] (K := [.us e 3 1 (b.1.map rI)]) I (by decide)) ?_
 obtain rfl := oi h
 exact AW.ret ⟨.inr I, [_], [.us e 3 1 (b.1.map rI)], ⟨I, J⟩, sl_c I (sl_n), ⟨e, I, I⟩⟩
 intro bg h
 refine AW.skip (AW.seq ?_)
 obtain ⟨ca, bh, h⟩ := ob_some h
 refine AW.region (AO.q 2 I (AO.act [] I (AX.lt 1 (([H] : List Int).map rI) (AO.act [3] I (AX.ap 3 I bh (fun bi => (AO.q 1 I (AO.nil ?_))))))))
 obtain ⟨ac, bj, h⟩ := ob_some h
 obtain ⟨bk, ad⟩ := ix_some bj
 refine AW.region (AO.q 2 I (AO.d (Yd.indexU 2 (m := ac.1) I I I I I I I bk (map_get ad)) I (AO.act [2] I (AX.storeU 2 ac.1 0 I I I (map_get ad) I I I I (le_ble I) I (us_set (x := true) I) ?_))))
 obtain rfl := oi h
 refine AO.nil ?_
 exact ⟨_, _, _, I, ⟨bi, I, I⟩, ⟨I, I, I, I, J⟩, [0, 1, 2, 3], I, by decide⟩
theorem L.zvqa_ok (b : Network) (a : Plan) (r : Int) (h : L.zvqa b a = some r) : ACalls Tryz.env 64 [.agg (Network.row b), .agg (Plan.row a)] [] (fun x new => x = .V r ∧ new = []) := by
 refine ACalls.of_body Tryz.func64 rfl rfl rfl (fun C hC => ?_)
 unfold L.zvqa at h
 refine AW.seqG (fun y1 Q => (AW.region (AO.act [] I (AX.box (cs := Network.row b) (m := 6) I I I dS (fun d => (AO.act [] I (AX.box (cs := Plan.row a) (m := 3) I I I dS (fun e => (AO.q 1 I (AO.nil ?_))))))))))
 subst Q
 refine AW.seqG (fun y4 R => (AW.seq ?_))
 obtain ⟨r5, S, h⟩ := ob_some h
 refine AW.region (AO.r 1 [.o 0 0] I ⟨I, J⟩ (AO.c (L.zgcl_ok _ _ S) (AO.q 1 I (AO.nil (AW.z I (AW.ch h I ?_ ?_))))))
 intro U h
 refine AW.z I (AW.ghost g0 ?_)
 obtain rfl := oi h
 exact AW.ret pr
 intro U h
 refine AW.skip ?_
 subst R
 refine AW.seqG (fun y8 W => (AW.cutX (fun s ob => s = [(43, .v (.bool (((a.Rates.length : Int) != (b.Segments.length : Int)) || (((a.Ports.length : Int) != (b.Ports.length : Int)) || ((a.Pumps.length : Int) != (b.Stations.length : Int))))))] ∧ ob = [.arr d 32 6 1 [Network.row b], .arr e 46 3 1 [Plan.row a]]) [(2, _), (3, _)] ⟨I, I, J⟩ ?_ ?_))
 refine AW.region (AO.r 8 [.o 1 1, .l 2 (a.Rates.length : Int), .o 4 0, .l 5 (b.Segments.length : Int)] I ⟨len_m, I, len_m, I, J⟩ ?_)
 rcases bt (((a.Rates.length : Int) != (b.Segments.length : Int))) with f | f
 refine AO.known 26 I f (AO.q 17 I (AO.nil ?_))
 exact lf ⟨I, I⟩ ⟨(get_b (by simp only [f, bz])), I, I, J⟩ [0, 1] I
 refine AO.known 26 I f (AO.r 9 [.o 1 1, .l 2 (a.Ports.length : Int), .o 4 0, .l 5 (b.Ports.length : Int)] I ⟨len_m, I, len_m, I, J⟩ ?_)
 rcases bt (((a.Ports.length : Int) != (b.Ports.length : Int))) with g | g
 refine AO.known 35 I g (AO.q 8 I (AO.nil ?_))
 exact lf ⟨I, I⟩ ⟨(get_b (by simp only [f, g, bz])), I, I, J⟩ [0, 1] I
 refine AO.known 35 I g (AO.r 8 [.o 1 1, .l 2 (a.Pumps.length : Int), .o 4 0, .l 5 (b.Stations.length : Int)] I ⟨len_m, I, len_m, I, J⟩ (AO.nil ?_))
 exact lf ⟨I, I⟩ ⟨(get_b (by simp only [f, g, bz])), I, I, J⟩ [0, 1] I
 rintro s ob ⟨rfl, rfl⟩
 refine AW.ch h I ?_ ?_
 intro X h
 refine AW.z I (AW.ghost g0 ?_)
 obtain rfl := oi h
 exact AW.ret pr
 intro X h
 refine AW.skip ?_
 subst W
 refine AW.cutX (fun s ob => ∃ (E : Unit), L.zvqa.J1 b a E = some r ∧ s = [] ∧ ob = [.arr d 32 6 1 [Network.row b], .arr e 46 3 1 [Plan.row a]]) [(2, _), (3, _)] ⟨I, I, J⟩ ?_ ?_
 refine AW.zr [.o 1 1, .l 2 (a.Rates.length : Int)] I ⟨len_m, I, J⟩ (AW.block (AW.listMax 45 I (fun A => ?_)))
 replace A : a.Rates.length ≤ 9223372036854775806 := by rw [List.length_map] at A; omega
 obtain ⟨a8, Y, F⟩ := ob_some h
 clear h
 refine AW.forX Y [(2, _), (3, _), (45, _), (46, _)] ⟨I, I, I, I, J⟩ (fun (i : Nat) (G : Unit) s ob => s = [(47, .V (i : Int))] ∧ ob = [.arr d 32 6 1 [Network.row b], .arr e 46 3 1 [Plan.row a]]) ⟨I, I⟩ ⟨I, J⟩ ⟨[0, 1], I, by decide⟩ ?_ ?_
 rintro i u G a9 s ob Z aa ⟨rfl, rfl⟩ h ab
 unfold L.zvqa.B6 at h
 have ac : decide ((i : Int) < (a.Rates.length : Int)) = true := decide_eq_true (by omega)
 refine AW.z I (AW.seqG (fun ba ad => (AW.condK (v := true) I ac (AW.skip ?_))))
 subst ad
 refine AW.seq (AW.block (AW.zr [.x 1 i (rI u)] I ⟨⟨I, map_get Z⟩, J⟩ (AW.seqG (fun bb ae => ?_))))
 obtain ⟨j, af, h⟩ := ob_some h
 obtain ⟨ag, ah⟩ := ix_some af
 refine AW.tr [.o 1 0, .x 3 j.1 (Segment.row j.2)] I ⟨⟨ag, map_get ah⟩, I, J⟩ ?_
 subst ae
 refine AW.cutX (fun s ob => s = [(67, .v (.bool (decide (u < (wr (0 - (min 1000 j.2.Capacity)))) || decide (u > (min 1000 j.2.Capacity)))))] ∧ ob = [.arr d 32 6 1 [Network.row b], .arr e 46 3 1 [Plan.row a]]) [(2, _), (3, _), (45, _), (46, _), (47, _)] ⟨I, I, I, I, I, J⟩ ?_ ?_
 refine AW.region (AO.q 5 I ?_)
 rcases bt (decide (u < (wr (0 - (min 1000 j.2.Capacity))))) with n | n
 refine AO.known 63 I n (AO.q 4 I (AO.nil ?_))
 exact lf ⟨I, I⟩ ⟨(get_b (by simp only [n, bz])), I, I, I, I, I, J⟩ [0, 1] I
 refine AO.known 63 I n (AO.q 4 I (AO.nil ?_))
 exact lf ⟨I, I⟩ ⟨(get_b (by simp only [n, bz])), I, I, I, I, I, J⟩ [0, 1] I
 rintro s ob ⟨rfl, rfl⟩
 refine AW.ch h I ?_ ?_
 intro ai h
 refine AW.z I ?_
 obtain rfl := ab _ (oi h).symm
 replace h := F
 replace h := se_r h
 refine AW.ghost g0 ?_
 obtain rfl := oi h
 exact AW.ret pr
 intro ai h
 refine AW.skip (AW.region (AO.r 2 [.k 0 (i + 1 : Nat)] I ⟨cast_wr aa A, J⟩ ?_))
 obtain rfl := oi h
 refine AO.nil ?_
 exact ⟨_, _, _, I, ⟨I, I⟩, ⟨I, I, I, I, I, J⟩, [0, 1], I, by decide⟩
 rintro G s ob ⟨rfl, rfl⟩ he
 subst he
 have h := se_l F
 have aj : decide (((a.Rates.length : Nat) : Int) < (a.Rates.length : Int)) = false := by simp
 refine AW.z I (AW.seqG (fun bc bd => (AW.condK (v := false) I aj (AW.exit ?_))))
 exact lg ⟨(), h, I, I⟩ [0, 1]
 rintro s ob ⟨E, h, rfl, rfl⟩
 unfold L.zvqa.J1 at h
 refine AW.cutX (fun s ob => ∃ (H : Unit), L.zvqa.J2 b a H = some r ∧ s = [] ∧ ob = [.arr d 32 6 1 [Network.row b], .arr e 46 3 1 [Plan.row a]]) [(2, _), (3, _)] ⟨I, I, J⟩ ?_ ?_
 refine AW.zr [.o 1 1, .l 2 (a.Ports.length : Int)] I ⟨len_m, I, J⟩ (AW.block (AW.listMax 70 I (fun B => ?_)))
 replace B : a.Ports.length ≤ 9223372036854775806 := by rw [List.length_map] at B; omega
 obtain ⟨be, ak, K⟩ := ob_some h
 clear h
 refine AW.forX ak [(2, _), (3, _), (70, _), (71, _)] ⟨I, I, I, I, J⟩ (fun (p : Nat) (M : Unit) s ob => s = [(72, .V (p : Int))] ∧ ob = [.arr d 32 6 1 [Network.row b], .arr e 46 3 1 [Plan.row a]]) ⟨I, I⟩ ⟨I, J⟩ ⟨[0, 1], I, by decide⟩ ?_ ?_
 rintro p w M bf s ob al am ⟨rfl, rfl⟩ h an
 unfold L.zvqa.B5 at h
 have ao : decide ((p : Int) < (a.Ports.length : Int)) = true := decide_eq_true (by omega)
 refine AW.z I (AW.seqG (fun bg ap => (AW.condK (v := true) I ao (AW.skip ?_))))
 subst ap
 refine AW.seq (AW.block (AW.zr [.x 0 p (rI w)] I ⟨⟨I, map_get al⟩, J⟩ (AW.cutX (fun s ob => s = [(81, .v (.bool (decide (w < (-1000)) || decide (w > 1000))))] ∧ ob = [.arr d 32 6 1 [Network.row b], .arr e 46 3 1 [Plan.row a]]) [(2, _), (3, _), (70, _), (71, _), (72, _)] ⟨I, I, I, I, I, J⟩ ?_ ?_)))
 refine AW.region (AO.q 3 I ?_)
 rcases bt (decide (w < (-1000))) with t | t
 refine AO.known 78 I t (AO.q 3 I (AO.nil ?_))
 exact lf ⟨I, I⟩ ⟨(get_b (by simp only [t, bz])), I, I, I, I, I, J⟩ [0, 1] I
 refine AO.known 78 I t (AO.q 3 I (AO.nil ?_))
 exact lf ⟨I, I⟩ ⟨(get_b (by simp only [t, bz])), I, I, I, I, I, J⟩ [0, 1] I
 rintro s ob ⟨rfl, rfl⟩
 refine AW.ch h I ?_ ?_
 intro aq h
 refine AW.z I ?_
 obtain rfl := an _ (oi h).symm
 replace h := K
 replace h := se_r h
 refine AW.ghost g0 ?_
 obtain rfl := oi h
 exact AW.ret pr
 intro aq h
 refine AW.skip (AW.region (AO.r 2 [.k 0 (p + 1 : Nat)] I ⟨cast_wr am B, J⟩ ?_))
 obtain rfl := oi h
 refine AO.nil ?_
 exact ⟨_, _, _, I, ⟨I, I⟩, ⟨I, I, I, I, I, J⟩, [0, 1], I, by decide⟩
 rintro M s ob ⟨rfl, rfl⟩ he
 subst he
 have h := se_l K
 have ar : decide (((a.Ports.length : Nat) : Int) < (a.Ports.length : Int)) = false := by simp
 refine AW.z I (AW.seqG (fun bh bi => (AW.condK (v := false) I ar (AW.exit ?_))))
 exact lg ⟨(), h, I, I⟩ [0, 1]
 rintro s ob ⟨H, h, rfl, rfl⟩
 unfold L.zvqa.J2 at h
 refine AW.cutX (fun s ob => ∃ (N : Unit), L.zvqa.J3 b a N = some r ∧ s = [] ∧ ob = [.arr d 32 6 1 [Network.row b], .arr e 46 3 1 [Plan.row a]]) [(2, _), (3, _)] ⟨I, I, J⟩ ?_ ?_
 refine AW.zr [.o 1 0, .l 2 (b.Nodes.length : Int)] I ⟨len_m, I, J⟩ (AW.block (AW.listMax 84 I (fun D => ?_)))
 replace D : b.Nodes.length ≤ 9223372036854775806 := by rw [List.length_map] at D; omega
 obtain ⟨bj, au, O⟩ := ob_some h
 clear h
 refine AW.forX au [(2, _), (3, _), (85, _)] ⟨I, I, I, J⟩ (fun (y : Nat) (P : Unit) s ob => s = [(86, .V (y : Int))] ∧ ob = [.arr d 32 6 1 [Network.row b], .arr e 46 3 1 [Plan.row a]]) ⟨I, I⟩ ⟨I, J⟩ ⟨[0, 1], I, by decide⟩ ?_ ?_
 rintro y bk P bl s ob bm av ⟨rfl, rfl⟩ h aw
 unfold L.zvqa.B4 at h
 have ax : decide ((y : Int) < (b.Nodes.length : Int)) = true := decide_eq_true (by omega)
 refine AW.z I (AW.seqG (fun bn ay => (AW.condK (v := true) I ax (AW.skip ?_))))
 subst ay
 refine AW.seq (AW.block (AW.z I (AW.seq ?_)))
 obtain ⟨bo, az, h⟩ := ob_some h
 refine AW.region (AO.r 3 [.o 0 0, .o 1 1] I ⟨I, I, J⟩ (AO.c (L.zeew_ok _ _ _ _ az) (AO.q 5 I (AO.nil (AW.z I (AW.ch h I ?_ ?_))))))
 intro a0 h
 refine AW.z I ?_
 obtain rfl := aw _ (oi h).symm
 replace h := O
 replace h := se_r h
 refine AW.ghost g0 ?_
 obtain rfl := oi h
 exact AW.ret pr
 intro a0 h
 refine AW.skip (AW.region (AO.r 2 [.k 0 (y + 1 : Nat)] I ⟨cast_wr av D, J⟩ ?_))
 obtain rfl := oi h
 refine AO.nil ?_
 exact ⟨_, _, _, I, ⟨I, I⟩, ⟨I, I, I, I, J⟩, [0, 1], I, by decide⟩
 rintro P s ob ⟨rfl, rfl⟩ he
 subst he
 have h := se_l O
 have a1 : decide (((b.Nodes.length : Nat) : Int) < (b.Nodes.length : Int)) = false := by simp
 refine AW.z I (AW.seqG (fun bp bq => (AW.condK (v := false) I a1 (AW.exit ?_))))
 exact lg ⟨(), h, I, I⟩ [0, 1]
 rintro s ob ⟨N, h, rfl, rfl⟩
 unfold L.zvqa.J3 at h
 refine AW.seq (AW.seq ?_)
 obtain ⟨br, a2, h⟩ := ob_some h
 refine AW.rd (.still 0 (.still 1 (.still 4 (.still 5 (.still 6 (.act 2 (.act 3 (.still 7 .nil)))))))) [0, 1] [_, _] I (AP.r 5 [.o 0 0, .o 1 1, .o 3 0, .l 4 (b.Nodes.length : Int)] I ⟨len_m, I, I, I, J⟩ (AP.act [] I I I (AX.call0 I I I (L.zaew_ok _ _ _ a2) dS ?_)))
 rintro _ _ ⟨bs, rfl, rfl⟩
 refine AP.act [] I I I (AX.of_yd (Yd.lenUM 2 I I I I) dS (AP.q 1 I (AP.ofAO (AO.nil (AW.ch h I ?_ ?_)))))
 intro a3 h
 refine AW.z I (AW.ghost g0 ?_)
 obtain rfl := oi h
 exact AW.ret pr
 intro a3 h
 refine AW.skip (AW.z I (AW.ghost g0 ?_))
 obtain rfl := oi h
 exact AW.ret pr
theorem L.zfjh_ok (a : Network) (b : Plan) (r : (List Int) × Int) (h : L.zfjh a b = some r) : ACalls Tryz.env 58 [.agg (Network.row a), .agg (Plan.row b)] [] (fun x new => ∃ (e : Value), x = .tup [.v e, .V r.2] ∧ new = [.us e 3 1 (r.1.map rI)]) := by
 refine ACalls.of_body Tryz.func58 rfl rfl rfl (fun C hC => ?_)
 unfold L.zfjh at h
 refine AW.seqG (fun l g => (AW.region (AO.act [] I (AX.box (cs := Network.row a) (m := 6) I I I dS (fun n => (AO.act [] I (AX.box (cs := Plan.row b) (m := 3) I I I dS (fun p => (AO.q 2 I (AO.nil ?_))))))))))
 subst g
 refine AW.seq (AW.seq ?_)
 obtain ⟨s, i, h⟩ := ob_some h
 refine AW.region (AO.r 2 [.o 0 0, .o 1 1] I ⟨I, I, J⟩ (AO.c (L.zvqa_ok _ _ _ i) (AO.q 1 I (AO.nil (AW.z I (AW.ch h I ?_ ?_))))))
 intro j h
 refine AW.z I (AW.ghost (Ghost.nilU 3 1) (AW.ghost (Ghost.pick [2] (K := [.us (.slice none 0 0) 3 1 ([].map rI)]) I (by decide)) ?_))
 obtain rfl := oi h
 exact AW.ret ⟨.inr I, [_, _], [.us (.slice none 0 0) 3 1 ([].map rI)], ⟨I, I, J⟩, sl_c I (sl_n), ⟨(.slice none 0 0), I, I⟩⟩
 intro j h
 refine AW.skip (AW.seq ?_)
 obtain ⟨f, k, h⟩ := ob_some h
 refine AW.region (AO.r 2 [.o 0 0, .o 1 1] I ⟨I, I, J⟩ (AO.act [] I (AX.call0 I I I (L.zaew_ok _ _ _ k) dS ?_)))
 rintro _ _ ⟨d, rfl, rfl⟩
 refine AO.q 2 I (AO.nil (AW.ghost (Ghost.pick [2] (K := [.us d 3 1 (f.map rI)]) I (by decide)) ?_))
 obtain rfl := oi h
 exact AW.ret ⟨.inr I, [_, _], [.us d 3 1 (f.map rI)], ⟨I, I, J⟩, sl_c I (sl_n), ⟨d, I, I⟩⟩
theorem L.zcdm_ok (b : List Int) (u : List Int) (r : Int) (h : L.zcdm b u = some r) : ACalls Tryz.env 90 [.list 1 (b.map rI), .list 1 (u.map rI)] [] (fun x new => x = .V r ∧ new = []) := by
 refine ACalls.of_body Tryz.func90 rfl rfl rfl (fun C hC => ?_)
 unfold L.zcdm at h
 refine AW.z I (AW.z I (AW.cutX (fun s ob => ∃ (g : Int), L.zcdm.J1 g = some r ∧ s = [(5, .V g)] ∧ ob = []) [] J ?_ ?_))
 refine AW.zr [.l 1 (b.length : Int)] I ⟨len_m, J⟩ (AW.block (AW.listMax 7 I (fun i => ?_)))
 replace i : b.length ≤ 9223372036854775806 := by rw [List.length_map] at i; omega
 obtain ⟨W, A, B⟩ := ob_some h
 clear h
 refine AW.forY A [(0, _), (1, _), (8, _)] ⟨I, I, I, J⟩ (fun (a : Nat) (c : Int) s ob => s = [(9, .V (a : Int)), (5, .V c)] ∧ ob = []) ⟨I, I⟩ ⟨I, I, J⟩ ⟨[], I, by decide⟩ ?_ ?_
 rintro a f c w s ob y D ⟨rfl, rfl⟩ h
 unfold L.zcdm.B2 at h
 have E : decide ((a : Int) < (b.length : Int)) = true := decide_eq_true (by omega)
 refine AW.z I (AW.seqG (fun X F => (AW.condK (v := true) I E (AW.skip ?_))))
 subst F
 refine AW.cutX (fun s ob => ∃ (j : Int), L.zcdm.J3 j = some w ∧ s = [(5, .V j)] ∧ ob = []) [(0, _), (1, _), (8, _), (9, _)] ⟨I, I, I, I, J⟩ ?_ ?_
 refine AW.block (AW.z I (AW.cutX (fun s ob => ∃ (m : Bool), L.zcdm.J4 a c m = some w ∧ s = [(43, .v (.bool m))] ∧ ob = []) [(0, _), (1, _), (5, _), (6, _), (8, _), (9, _)] ⟨I, I, I, I, I, I, J⟩ ?_ ?_))
 refine AW.rd (pd 32 0 []) [] [] I (AP.r 6 [.x 2 a (rI f)] I ⟨⟨I, map_get y⟩, J⟩ ?_)
 rcases bt (decide (f > 0)) with d | d
 replace h := ife_t d h
 refine AP.known 17 I d (AP.q 3 I ?_)
 rcases bt (decide (c < 0)) with e | e
 replace h := ife_t e h
 refine AP.known 20 I e (AP.q 23 I (AP.ofAO (AO.nil ?_)))
 exact lg ⟨true, h, I, I⟩ []
 replace h := ife_f e h
 obtain ⟨n, G, h⟩ := ob_some h
 obtain ⟨H, K⟩ := ix_some G
 obtain ⟨o, M, h⟩ := ob_some h
 obtain ⟨N, O⟩ := ix_some M
 obtain ⟨p, P, h⟩ := ob_some h
 obtain ⟨Q, R⟩ := ix_some P
 refine AP.known 20 I e (AP.r 23 [.x 2 n.1 (rI n.2), .x 7 o.1 (rI o.2), .x 12 p.1 (rI p.2), .x 17 a (rI f)] I ⟨⟨I, map_get y⟩, ⟨Q, map_get R⟩, ⟨N, map_get O⟩, ⟨H, map_get K⟩, J⟩ (AP.ofAO (AO.nil ?_)))
 exact lg ⟨decide ((wr ((wr (n.2 + 1)) * o.2)) < (wr ((wr (p.2 + 1)) * f))), h, I, I⟩ []
 replace h := ife_f d h
 refine AP.known 17 I d (AP.q 3 I (AP.skipU I I I I dS (AP.skipU I I I I dS (AP.skipU I I I I dS (AP.skipU I I I I dS (AP.skipU I I I I dS (AP.skipU I I I I dS (AP.skipU I I I I dS (AP.skipU I I I I dS (AP.skipU I I I I dS (AP.skipU I I I I dS (AP.skipU I I I I dS ?_))))))))))))
 refine AP.skipU I I I I dS (AP.skipU I I I I dS (AP.skipU I I I I dS (AP.skipU I I I I dS (AP.skipU I I I I dS (AP.skipU I I I I dS (AP.skipU I I I I dS (AP.skipU I I I I dS (AP.skipU I I I I dS (AP.skipU I I I I dS (AP.q 2 I (AP.ofAO (AO.nil ?_))))))))))))
 exact lg ⟨false, h, I, I⟩ []
 rintro s ob ⟨m, h, rfl, rfl⟩
 unfold L.zcdm.J4 at h
 refine AW.ch h I ?_ ?_
 intro S h
 refine AW.t I ?_
 exact lg ⟨(a : Int), h, I, I⟩ []
 intro S h
 refine AW.skip ?_
 exact lg ⟨c, h, I, I⟩ []
 rintro s ob ⟨j, h, rfl, rfl⟩
 unfold L.zcdm.J3 at h
 refine AW.region (AO.r 2 [.k 0 (a + 1 : Nat)] I ⟨cast_wr D i, J⟩ ?_)
 obtain rfl := oi h
 refine AO.nil ?_
 exact lg ⟨I, I⟩ []
 rintro c s ob ⟨rfl, rfl⟩ he
 subst he
 have h := B
 have U : decide (((b.length : Nat) : Int) < (b.length : Int)) = false := by simp
 refine AW.z I (AW.seqG (fun Y Z => (AW.condK (v := false) I U (AW.exit ?_))))
 exact lg ⟨c, h, I, I⟩ []
 rintro s ob ⟨g, h, rfl, rfl⟩
 unfold L.zcdm.J1 at h
 refine AW.z I ?_
 obtain rfl := oi h
 exact AW.ret pr
theorem L.zjah_ok (i : List Piece) (a : List Int) (r : List (List Piece)) (h : L.zjah i a = some r) : ACalls Tryz.env 61 [.list 2 (i.map Piece.row), .list 1 (a.map rI)] [] (fun x new => x = .list 1 (r.map (rL 2 Piece.row)) ∧ new = []) := by
 refine ACalls.of_body Tryz.func61 rfl rfl rfl (fun C hC => ?_)
 unfold L.zjah at h
 refine AW.z I (AW.seqG (fun y2 ao => ?_))
 obtain ⟨l3, aq, h⟩ := ob_some h
 obtain ⟨Y, ar, au, av⟩ := mk_some aq
 refine AW.region (AO.r 2 [.l 1 (a.length : Int)] I ⟨len_m, J⟩ (AO.act [] I (AX.makeU (sz := 1) (es' := List.replicate Y [.N]) I I I I I I I I I I ar au I dS (fun b => (AO.ghost (Ghost.toUssM (f := Piece.row) 0 Y 66 2 av I) (AO.q 1 I (AO.nil ?_)))))))
 subst ao
 refine AW.seqG (fun y7 aw => ?_)
 obtain ⟨l8, ax, h⟩ := ob_some h
 obtain ⟨cb, ay, az, a0⟩ := mk_some ax
 refine AW.region (AO.r 2 [.l 1 (a.length : Int)] I ⟨len_m, J⟩ (AO.act [] I (AX.makeU (sz := 1) I I I I I I I I I I ay az (rep_map (f := rI) a0 I) dS (fun D => (AO.q 1 I (AO.nil ?_))))))
 subst aw
 refine AW.cutX (fun s ob => ∃ (j : List (List Piece)) (Z : List Value), L.zjah.J1 j = some r ∧ s = [] ∧ ob = [.uss b 35 66 2 Z (j.map fun x => some (x.map Piece.row))]) [(5, _)] ⟨I, J⟩ ?_ ?_
 refine AW.zr [.l 1 (i.length : Int)] I ⟨len_m, J⟩ (AW.block (AW.listMax 19 I (fun aa => ?_)))
 replace aa : i.length ≤ 9223372036854775806 := by rw [List.length_map] at aa; omega
 obtain ⟨cc, a1, a2⟩ := ob_some h
 clear h
 refine AW.forY a1 [(1, _), (5, _), (6, _), (19, _), (20, _)] ⟨I, I, I, I, I, J⟩ (fun (E : Nat) (e : (List (List Piece)) × (List Int)) s ob => ∃ (n : List Value), s = [(21, .V (E : Int))] ∧ ob = [.uss b 35 66 2 n (e.1.map fun x => some (x.map Piece.row)), .us D 3 1 (e.2.map rI)]) ⟨(List.replicate Y (.slice none 0 0)), I, I⟩ ⟨I, J⟩ ⟨[0, 1], I, by decide⟩ ?_ ?_
 rintro E g e aj s ob a3 a4 ⟨n, rfl, rfl⟩ h
 unfold L.zjah.B4 at h
 have a5 : decide ((E : Int) < (i.length : Int)) = true := decide_eq_true (by omega)
 refine AW.z I (AW.seqG (fun cd a6 => (AW.condK (v := true) I a5 (AW.skip ?_))))
 subst a6
 refine AW.cutX (fun s ob => ∃ (P : (List (List Piece)) × (List Int)) (ab : List Value), L.zjah.J5 P = some aj ∧ s = [] ∧ ob = [.uss b 35 66 2 ab (P.1.map fun x => some (x.map Piece.row)), .us D 3 1 (P.2.map rI)]) [(1, _), (5, _), (6, _), (19, _), (20, _), (21, _)] ⟨I, I, I, I, I, I, J⟩ ?_ ?_
 refine AW.block (AW.seqG (fun ce a7 => (AW.region (AO.r 2 [.x 0 E (Piece.row g)] I ⟨⟨I, map_get a3⟩, J⟩ (AO.act [] I (AX.alloc (cs := [.V 0, .V 0]) (m := 2) I I I I I dS (fun ac => (AO.act [2] I (AX.store 2 0 0 (es' := [Piece.row g]) I I I I I I I I (le_ble I) I I (AO.nil ?_))))))))))
 subst a7
 refine AW.seqG (fun cf a8 => ?_)
 obtain ⟨Q, ak, h⟩ := ob_some h
 refine AW.region (AO.act [] I (AX.buildSlice (sz := 1) (es := ([] : List Int).map rI) I I I I I I I I I I I dS (fun cg => (AO.q 1 I (AO.act [3] I (AX.appendU 3 I I I I I I I I I (AppSrc.own 1 I I) (app_len (app_some ak).1) (app_map (app_some ak).2) dS (fun ad => (AO.q 1 I (AO.nil ?_)))))))))
 subst a8
 refine AW.cutX (fun s ob => ∃ (F : List Int), L.zjah.J6 a g e Q F = some aj ∧ s = [] ∧ ob = [.uss b 35 66 2 n (e.1.map fun x => some (x.map Piece.row)), .us D 3 1 (F.map rI), .arr ac 66 2 1 [Piece.row g], .us ad 3 1 (Q.map rI)]) [(1, _), (5, _), (6, _), (8, _), (9, _), (19, _), (20, _), (21, _)] ⟨I, I, I, I, I, I, I, I, J⟩ ?_ ?_
 refine AW.z I (AW.block ?_)
 obtain ⟨ci, a9, ba⟩ := ob_some h
 clear h
 refine AW.loopX a9 [(1, _), (5, _), (6, _), (8, _), (9, _), (19, _), (20, _), (21, _)] ⟨I, I, I, I, I, I, I, I, J⟩ (fun (R : (List Int) × Int) s ob => s = [(10, .V R.2)] ∧ ob = [.uss b 35 66 2 n (e.1.map fun x => some (x.map Piece.row)), .us D 3 1 (R.1.map rI), .arr ac 66 2 1 [Piece.row g], .us ad 3 1 (Q.map rI)]) ⟨I, I⟩ ⟨I, J⟩ ⟨[0, 1, 2, 3], I, by decide⟩ ?_
 rintro R cj s ob ⟨rfl, rfl⟩ h bb
 unfold L.zjah.B8 at h
 refine AW.seqG (fun ck bc => (AW.zr [.o 2 2] I ⟨I, J⟩ (AW.ch h I ?_ ?_)))
 intro bd h
 refine AW.skip ?_
 subst bc
 refine AW.seq (AW.block ?_)
 obtain ⟨cl, be, h⟩ := ob_some h
 obtain ⟨u, bf, h⟩ := ob_some h
 obtain ⟨al, S⟩ := ix_some bf
 refine AW.region (AO.q 3 I (AO.act [] I (AX.callL I (.refl _) I I (.cons (.refl _) (.cons (.us 1 I) (.rest _))) I (L.zcdm_ok _ _ _ be) dS (by rintro _ _ ⟨rfl, _⟩; rfl) ?_)))
 rintro _ ⟨_, rfl, -⟩
 refine AO.d (Yd.indexU 1 (m := u.1) I I I I I I I al (map_get S)) I (AO.d (Yd.loadU 1 u.1 0 I I I (map_get S) I (y := .V u.2) I) I (AO.q 1 I (AO.d (Yd.indexU 1 (m := u.1) I I I I I I I al (map_get S)) I (AO.act [1] I (AX.storeU 1 u.1 0 I I I (map_get S) I I I I (le_ble I) I (us_set (x := wr (u.2 + 1)) I) (AO.nil (AW.region (AO.q 3 I ?_))))))))
 obtain rfl := oi h
 refine AO.nil ?_
 exact ⟨_, _, _, I, ⟨I, I⟩, ⟨I, I, I, I, I, I, I, I, I, J⟩, [0, 1, 2, 3], I, by decide⟩
 intro bd h
 obtain rfl := bb _ (oi h).symm
 replace h := ba
 refine AW.exit ?_
 exact lg ⟨R.1, h, I, I⟩ [0, 1, 2, 3]
 rintro s ob ⟨F, h, rfl, rfl⟩
 unfold L.zjah.J6 at h
 refine AW.zr [.l 1 (a.length : Int)] I ⟨len_m, J⟩ (AW.block (AW.listMax 42 I (fun ae => ?_)))
 replace ae : a.length ≤ 9223372036854775806 := by rw [List.length_map] at ae; omega
 obtain ⟨cm, bg, bh⟩ := ob_some h
 clear h
 refine AW.forY bg [(1, _), (5, _), (6, _), (8, _), (9, _), (19, _), (20, _), (21, _), (43, _)] ⟨I, I, I, I, I, I, I, I, I, J⟩ (fun (U : Nat) (W : List (List Piece)) s ob => ∃ (G : List Value), s = [(44, .V (U : Int))] ∧ ob = [.uss b 35 66 2 G (W.map fun x => some (x.map Piece.row)), .us D 3 1 (F.map rI), .arr ac 66 2 1 [Piece.row g], .us ad 3 1 (Q.map rI)]) ⟨n, I, I⟩ ⟨I, J⟩ ⟨[0, 1, 2, 3], I, by decide⟩ ?_ ?_
 rintro U cn W co s ob cp bi ⟨G, rfl, rfl⟩ h
 unfold L.zjah.B7 at h
 have bj : decide ((U : Int) < (a.length : Int)) = true := decide_eq_true (by omega)
 refine AW.z I (AW.seqG (fun cq bk => (AW.condK (v := true) I bj (AW.skip ?_))))
 subst bk
 refine AW.seq (AW.block (AW.z I ?_))
 obtain ⟨w, bl, h⟩ := ob_some h
 obtain ⟨am, H⟩ := ix_some bl
 obtain ⟨A, bm, h⟩ := ob_some h
 obtain ⟨bn, af⟩ := ix_some bm
 obtain ⟨B, bo, h⟩ := ob_some h
 obtain ⟨bp, ag⟩ := ix_some bo
 obtain ⟨cr, bq, h⟩ := ob_some h
 refine AW.ghost (Ghost.take 0 w.1 I (map_get H)) (AW.form 1 A.1 I af (fun br => (AW.form 3 B.1 I ag (fun bs => (AW.rd (.still 0 (.still 1 (.still 2 (.still 3 (.still 4 (.still 5 (.still 6 (.still 7 (.still 8 (.still 9 (.still 10 (.still 11 (.still 12 (.still 13 (.still 14 (.still 15 (.still 16 (.still 17 (.act 18 (.act 19 (.still 20 (.drop 21 .nil)))))))))))))))))))))) [0, 2, 1, 3] [_, _, _, _] I (AP.q 4 I (AP.o I (Yd.indexUss 0 (m := w.1) I I I I I I I am (uss_lt' H)) I (AP.o I (Yd.loadUss 0 (m := w.1) I I I I (uss_lt' H)) I (AP.r 4 [.o 1 1] I ⟨I, J⟩ (AP.op I (Yp.indexUf (m := A.1) I I I I I br I bn af) I (AP.o I (Yd.loadU 2 A.1 0 I I I (map_get af) I (y := .V A.2) I) I (AP.q 2 I (AP.op I (Yp.indexUf (m := B.1) I I I I I bs I bp ag) I (AP.o I (Yd.loadU 3 B.1 0 I I I (map_get ag) I (y := .V B.2) I) I ?_))))))))))))))
 refine AP.q 1 I (AP.op I (Yp.buildP (l := [.V g.Batch, .V (wr (A.2 - B.2))]) Tryz.bld66 I) I (AP.act [] I I I (AX.lt 2 (([(⟨g.Batch, wr (A.2 - B.2)⟩ : Piece)] : List Piece).map Piece.row) (AP.act [4] I I I (AX.ap 4 I bq (fun bt => (AP.o I (Yd.indexUss 0 (m := w.1) I I I I I I I am (uss_lt' H)) I (AP.drop [0, 4] I I I (AX.storeUss 0 4 w.1 I I I I (hole_get H) I I I (set_none_some _ _ _ _) (AP.ofAO (AO.nil (AW.region (AO.r 2 [.k 0 (U + 1 : Nat)] I ⟨cast_wr bi ae, J⟩ ?_)))))))))))))
 obtain rfl := oi h
 refine AO.nil ?_
 exact lg ⟨(G.set w.1 bt), I, I⟩ [0, 1, 2, 3]
 rintro W s ob ⟨G, rfl, rfl⟩ he
 subst he
 have h := bh
 have bu : decide (((a.length : Nat) : Int) < (a.length : Int)) = false := by simp
 refine AW.z I (AW.seqG (fun ct cu => (AW.condK (v := false) I bu (AW.exit ?_))))
 exact lg ⟨(W, F), G, h, I, I⟩ [0, 1]
 rintro s ob ⟨P, ab, h, rfl, rfl⟩
 unfold L.zjah.J5 at h
 refine AW.region (AO.r 2 [.k 0 (E + 1 : Nat)] I ⟨cast_wr a4 aa, J⟩ ?_)
 obtain rfl := oi h
 refine AO.nil ?_
 exact lg ⟨ab, I, I⟩ [0, 1]
 rintro e s ob ⟨n, rfl, rfl⟩ he
 subst he
 have h := a2
 have bv : decide (((i.length : Nat) : Int) < (i.length : Int)) = false := by simp
 refine AW.z I (AW.seqG (fun cv cw => (AW.condK (v := false) I bv (AW.exit ?_))))
 exact lg ⟨e.1, n, h, I, I⟩ [0]
 rintro s ob ⟨j, Z, h, rfl, rfl⟩
 unfold L.zjah.J1 at h
 refine AW.cutX (fun s ob => ∃ (p : List (List Piece)) (ah : List Value), L.zjah.J2 p = some r ∧ s = [] ∧ ob = [.uss b 35 66 2 ah (p.map fun x => some (x.map Piece.row))]) [(5, _)] ⟨I, J⟩ ?_ ?_
 refine AW.seqG (fun cx bw => (AW.region (AO.q 1 I (AO.d (Yd.lenUssM 0 I I I I) I (AO.q 1 I (AO.nil ?_))))))
 subst bw
 refine AW.block (AW.ussMax 0 I (fun ai => ?_))
 replace ai : j.length ≤ 9223372036854775806 := by rw [List.length_map] at ai; omega
 obtain ⟨cy, bx, bz⟩ := ob_some h
 clear h
 refine AW.forJY bx [(5, _), (71, _)] ⟨I, I, J⟩ (fun (X : Nat) (M : List (List Piece)) s ob => ∃ (t : List Value), s = [(72, .V (X : Int))] ∧ ob = [.uss b 35 66 2 t (M.map fun x => some (x.map Piece.row))]) ⟨Z, I, I⟩ ⟨I, J⟩ ⟨[0], I, by decide⟩ ?_ ?_
 rintro X M cz s ob b0 ⟨t, rfl, rfl⟩ h
 unfold L.zjah.B3 at h
 have b1 : decide ((X : Int) < (j.length : Int)) = true := decide_eq_true (by omega)
 refine AW.z I (AW.seqG (fun c0 b2 => (AW.condK (v := true) I b1 (AW.skip ?_))))
 subst b2
 refine AW.seq (AW.block (AW.z I ?_))
 obtain ⟨c, b3, h⟩ := ob_some h
 obtain ⟨an, O⟩ := ix_some b3
 obtain ⟨c1, b4, h⟩ := ob_some h
 refine AW.region (AO.q 4 I (AO.d (Yd.indexUss 0 (m := c.1) I I I I I I I an (uss_lt O)) I (AO.d (Yd.loadUss 0 (m := c.1) I I I I (uss_lt O)) I (AO.ghost (Ghost.take 0 c.1 I (map_get O)) (AO.ghost (Ghost.freeze [1] (K := [.us (t.getD c.1 undef) 66 2 (c.2.map Piece.row)]) I [(80, .list 2 (c.2.map Piece.row))] ⟨⟨_, I, .us 0 I⟩, J⟩ (ob' := [.uss b 35 66 2 t (List.set (M.map fun x => some (x.map Piece.row)) c.1 none)]) (.rest _)) (AO.act [] I (AX.call0 I I I (L.zuyb_ok _ _ b4) dS ?_)))))))
 rintro _ _ ⟨b5, rfl, rfl⟩
 refine AO.d (Yd.indexUss 0 (m := c.1) I I I I I I I an (uss_lt' O)) I (AO.act [0, 1] I (AX.storeUss 0 1 c.1 I I I I (hole_get O) I I I (set_none_some _ _ _ _) (AO.nil (AW.region (AO.r 2 [.k 0 (X + 1 : Nat)] I ⟨cast_wr b0 ai, J⟩ ?_)))))
 obtain rfl := oi h
 refine AO.nil ?_
 exact lg ⟨(t.set c.1 b5), I, I⟩ [0]
 rintro M s ob ⟨t, rfl, rfl⟩ he
 subst he
 have h := bz
 have b6 : decide (((j.length : Nat) : Int) < (j.length : Int)) = false := by simp
 refine AW.z I (AW.seqG (fun c2 c3 => (AW.condK (v := false) I b6 (AW.exit ?_))))
 exact lg ⟨M, t, h, I, I⟩ [0]
 rintro s ob ⟨p, ah, h, rfl, rfl⟩
 unfold L.zjah.J2 at h
 refine AW.z I (AW.ghost (Ghost.freeze [0] (K := [.uss b 35 66 2 ah (p.map fun x => some (x.map Piece.row))]) I [(5, .list 1 (p.map (rL 2 Piece.row))), (84, .list 1 (p.map (rL 2 Piece.row))), (4, .list 1 (p.map (rL 2 Piece.row)))] ⟨⟨_, I, Lend.ussM 0 I⟩, ⟨_, I, Lend.ussM 0 I⟩, ⟨_, I, Lend.ussM 0 I⟩, J⟩ (ob' := []) (.rest _)) ?_)
 obtain rfl := oi h
 exact AW.ret pr
theorem L.zewb_ok (d : List Piece) (G : Int) (r : (List Piece) × (List Piece)) (h : L.zewb d G = some r) : ACalls Tryz.env 91 [.list 2 (d.map Piece.row), .V G] [] (fun x new => ∃ (H : Value) (M : Value), x = .tup [.v H, .v M] ∧ new = [.us H 66 2 (r.1.map Piece.row), .us M 66 2 (r.2.map Piece.row)]) := by
 refine ACalls.of_body Tryz.func91 rfl rfl rfl (fun C hC => ?_)
 unfold L.zewb at h
 refine AW.z I (AW.z I (AW.cutX (fun s ob => ∃ (c : (List Piece) × (List Piece)) (p : Value) (e : Value), L.zewb.J1 c = some r ∧ s = [(6, .v p), (7, .v e)] ∧ ob = [.us p 66 2 (c.1.map Piece.row), .us e 66 2 (c.2.map Piece.row)]) [] J ?_ ?_))
 refine AW.zr [.l 1 (d.length : Int)] I ⟨len_m, J⟩ (AW.block (AW.listMax 11 I (fun y => ?_)))
 replace y : d.length ≤ 9223372036854775806 := by rw [List.length_map] at y; omega
 refine AW.ghost (Ghost.nilU 66 2) (AW.ghost (Ghost.nilU 66 2) ?_)
 obtain ⟨ad, P, Q⟩ := ob_some h
 clear h
 refine AW.forY P [(11, _), (12, _)] ⟨I, I, J⟩ (fun (f : Nat) (b : Int × (List Piece) × (List Piece)) s ob => ∃ (g : Value) (i : Value), s = [(13, .V (f : Int)), (1, .V b.1), (6, .v g), (7, .v i)] ∧ ob = [.us g 66 2 (b.2.1.map Piece.row), .us i 66 2 (b.2.2.map Piece.row)]) ⟨(.slice none 0 0), (.slice none 0 0), I, I⟩ ⟨I, I, I, I, J⟩ ⟨[0, 1], I, by decide⟩ ?_ ?_
 rintro f a b R s ob S U ⟨g, i, rfl, rfl⟩ h
 unfold L.zewb.B2 at h
 have W : decide ((f : Int) < (d.length : Int)) = true := decide_eq_true (by omega)
 refine AW.z I (AW.seqG (fun ae X => (AW.condK (v := true) I W (AW.skip ?_))))
 subst X
 refine AW.cutX (fun s ob => ∃ (t : (List Piece) × (List Piece)) (u : Value) (w : Value), L.zewb.J3 a b t = some R ∧ s = [(1, .V (wr (b.1 - (min b.1 a.Volume)))), (6, .v u), (7, .v w)] ∧ ob = [.us u 66 2 (t.1.map Piece.row), .us w 66 2 (t.2.map Piece.row)]) [(11, _), (12, _), (13, _)] ⟨I, I, I, J⟩ ?_ ?_
 refine AW.block (AW.seqG (fun af Y => (AW.region (AO.r 2 [.x 0 f (Piece.row a)] I ⟨⟨I, map_get S⟩, J⟩ (AO.act [] I (AX.alloc (cs := [.V 0, .V 0]) (m := 2) I I I I I dS (fun ag => (AO.act [2] I (AX.store 2 0 0 (es' := [Piece.row a]) I I I I I I I I (le_ble I) I I (AO.nil ?_))))))))))
 subst Y
 refine AW.zr [.o 2 2] I ⟨I, J⟩ (AW.z I ?_)
 obtain ⟨A, B, h⟩ := ob_some h
 obtain ⟨D, E, h⟩ := ob_some h
 refine AW.rd (.still 0 (.still 1 (.still 2 (.still 3 (.still 4 (.still 7 (.still 8 (.still 9 (.still 10 (.still 11 (.still 12 (.still 13 (.still 14 (.two 5 15 (.two 6 15 (.act 15 (.act 16 (.still 17 (.still 18 .nil)))) (.act 6 (.act 16 (.still 17 (.still 18 .nil))))) (.act 5 (.act 6 (.act 16 (.still 17 (.still 18 .nil))))))))))))))))))) [2] [_] I (AP.r 4 [.o 2 0] I ⟨I, J⟩ (AP.op I (Yp.buildP (l := [.V a.Batch, .V (min b.1 a.Volume)]) Tryz.bld66 I) I (AP.r 7 [.o 2 0, .o 4 0] I ⟨I, I, J⟩ (AP.op I (Yp.buildP (l := [.V a.Batch, .V (wr (a.Volume - (min b.1 a.Volume)))]) Tryz.bld66 I) I (AP.two ?_ ?_)))))
 refine AP.act [] I I I (AX.lt 2 (([(⟨a.Batch, (min b.1 a.Volume)⟩ : Piece)] : List Piece).map Piece.row) (AP.two ?_ ?_))
 refine AP.act [0] I I I (AX.ap 0 I B (fun j => (AP.act [] I I I (AX.lt 2 (([(⟨a.Batch, wr (a.Volume - (min b.1 a.Volume))⟩ : Piece)] : List Piece).map Piece.row) (AP.act [1] I I I (AX.ap 1 I E (fun n => (AP.eraS 6 (AP.q 1 I (AP.eraS 7 (AP.q 1 I (AP.ofAO (AO.nil ?_)))))))))))))
 exact lg ⟨(A, D), j, n, h, I, I⟩ [0, 1]
 refine AP.act [] I I I (AX.lt 2 (([(⟨a.Batch, wr (a.Volume - (min b.1 a.Volume))⟩ : Piece)] : List Piece).map Piece.row) (AP.act [0] I I I (AX.ap 0 I B (fun j => (AP.act [1] I I I (AX.ap 1 I E (fun n => (AP.eraS 6 (AP.q 1 I (AP.eraS 7 (AP.q 1 I (AP.ofAO (AO.nil ?_)))))))))))))
 exact lg ⟨(A, D), j, n, h, I, I⟩ [0, 1]
 refine AP.act [] I I I (AX.lt 2 (([(⟨a.Batch, wr (a.Volume - (min b.1 a.Volume))⟩ : Piece)] : List Piece).map Piece.row) (AP.act [] I I I (AX.lt 2 (([(⟨a.Batch, (min b.1 a.Volume)⟩ : Piece)] : List Piece).map Piece.row) (AP.act [0] I I I (AX.ap 0 I B (fun j => (AP.act [1] I I I (AX.ap 1 I E (fun n => (AP.eraS 6 (AP.q 1 I (AP.eraS 7 (AP.q 1 I (AP.ofAO (AO.nil ?_)))))))))))))))
 exact lg ⟨(A, D), j, n, h, I, I⟩ [0, 1]
 rintro s ob ⟨t, u, w, h, rfl, rfl⟩
 unfold L.zewb.J3 at h
 refine AW.region (AO.r 2 [.k 0 (f + 1 : Nat)] I ⟨cast_wr U y, J⟩ ?_)
 obtain rfl := oi h
 refine AO.nil ?_
 exact lg ⟨u, w, I, I⟩ [0, 1]
 rintro b s ob ⟨g, i, rfl, rfl⟩ he
 subst he
 have h := Q
 have Z : decide (((d.length : Nat) : Int) < (d.length : Int)) = false := by simp
 refine AW.z I (AW.seqG (fun ah ai => (AW.condK (v := false) I Z (AW.exit ?_))))
 exact lg ⟨(b.2.1, b.2.2), g, i, h, I, I⟩ [0, 1]
 rintro s ob ⟨c, p, e, h, rfl, rfl⟩
 unfold L.zewb.J1 at h
 refine AW.seq ?_
 obtain ⟨N, aa, h⟩ := ob_some h
 obtain ⟨ab, ac, h⟩ := ob_some h
 refine AW.region (AO.q 1 I (AO.ghost (Ghost.freeze [0] (K := [.us p 66 2 (c.1.map Piece.row)]) I [(6, .list 2 (c.1.map Piece.row)), (42, .list 2 (c.1.map Piece.row))] ⟨⟨_, I, .us 0 I⟩, ⟨_, I, .us 0 I⟩, J⟩ (ob' := [.us e 66 2 (c.2.map Piece.row)]) (.rest _)) (AO.act [] I (AX.call0 I I I (L.zuyb_ok _ _ aa) dS ?_))))
 rintro _ _ ⟨F, rfl, rfl⟩
 refine AO.q 1 I (AO.ghost (Ghost.freeze [0] (K := [.us e 66 2 (c.2.map Piece.row)]) I [(7, .list 2 (c.2.map Piece.row)), (44, .list 2 (c.2.map Piece.row))] ⟨⟨_, I, .us 0 I⟩, ⟨_, I, .us 0 I⟩, J⟩ (ob' := [.us F 66 2 (N.map Piece.row)]) (.rest _)) (AO.act [] I (AX.call0 I I I (L.zuyb_ok _ _ ac) dS ?_)))
 rintro _ _ ⟨O, rfl, rfl⟩
 refine AO.q 2 I (AO.nil ?_)
 obtain rfl := oi h
 exact AW.ret ⟨.inr I, [_, _], [.us F 66 2 (N.map Piece.row), .us O 66 2 (ab.map Piece.row)], ⟨I, I, J⟩, sl_c I (sl_c I (sl_n)), ⟨F, O, I, I⟩⟩
theorem L.ziwy_ok (e : List Piece) (f : List Piece) (g : Bool) (r : (List Piece) × (List Piece)) (h : L.ziwy e f g = some r) : ACalls Tryz.env 63 [.list 2 (e.map Piece.row), .list 2 (f.map Piece.row), .v (.bool g)] [] (fun x new => ∃ (i : Value) (j : Value), x = .tup [.v i, .v j] ∧ new = [.us i 66 2 (r.1.map Piece.row), .us j 66 2 (r.2.map Piece.row)]) := by
 refine ACalls.of_body Tryz.func63 rfl rfl rfl (fun C hC => ?_)
 unfold L.ziwy at h
 refine AW.z I (AW.seqG (fun H p => (AW.z I (AW.ch h I ?_ ?_))))
 intro s h
 refine AW.seq ?_
 obtain ⟨M, t, h⟩ := ob_some h
 obtain ⟨k, u, h⟩ := ob_some h
 obtain ⟨N, w, h⟩ := ob_some h
 obtain ⟨a, y, h⟩ := ob_some h
 refine AW.region (AO.act [] I (AX.buildSlice (sz := 2) (es := ([] : List Piece).map Piece.row) I I I I I I I I I I I dS (fun O => (AO.q 1 I (AO.act [0] I (AX.ap 0 I t (fun P => (AO.q 1 I (AO.act [0] I (AX.ap 0 I u (fun A => (AO.q 1 I (AO.c (L.zwqi_ok _ _ w) (AO.ghost (Ghost.freeze [0] (K := [.us A 66 2 (k.map Piece.row)]) I [(16, .list 2 (k.map Piece.row))] ⟨⟨_, I, .us 0 I⟩, J⟩ (ob' := []) (.rest _)) (AO.act [] I (AX.call0 I I I (L.zewb_ok _ _ _ y) dS ?_))))))))))))))))
 rintro _ _ ⟨b, d, rfl, rfl⟩
 refine AO.q 5 I (AO.nil (AW.z I (AW.ghost (Ghost.pick [1, 0] (K := [.us d 66 2 (a.2.map Piece.row), .us b 66 2 (a.1.map Piece.row)]) I (by decide)) ?_)))
 obtain rfl := oi h
 exact AW.ret ⟨.inr I, [_, _], [.us d 66 2 (a.2.map Piece.row), .us b 66 2 (a.1.map Piece.row)], ⟨I, I, J⟩, sl_c I (sl_c I (sl_n)), ⟨d, b, I, I⟩⟩
 intro s h
 refine AW.skip ?_
 subst p
 refine AW.seq ?_
 obtain ⟨Q, B, h⟩ := ob_some h
 obtain ⟨l, D, h⟩ := ob_some h
 obtain ⟨R, E, h⟩ := ob_some h
 obtain ⟨m, F, h⟩ := ob_some h
 refine AW.region (AO.act [] I (AX.buildSlice (sz := 2) (es := ([] : List Piece).map Piece.row) I I I I I I I I I I I dS (fun S => (AO.q 1 I (AO.act [0] I (AX.ap 0 I B (fun U => (AO.q 1 I (AO.act [0] I (AX.ap 0 I D (fun G => (AO.q 1 I (AO.c (L.zwqi_ok _ _ E) (AO.ghost (Ghost.freeze [0] (K := [.us G 66 2 (l.map Piece.row)]) I [(28, .list 2 (l.map Piece.row))] ⟨⟨_, I, .us 0 I⟩, J⟩ (ob' := []) (.rest _)) (AO.act [] I (AX.call0 I I I (L.zewb_ok _ _ _ F) dS ?_))))))))))))))))
 rintro _ _ ⟨n, o, rfl, rfl⟩
 refine AO.q 4 I (AO.nil ?_)
 obtain rfl := oi h
 exact AW.ret ⟨.inr I, [_, _], [.us n 66 2 (m.1.map Piece.row), .us o 66 2 (m.2.map Piece.row)], ⟨I, I, J⟩, sl_c I (sl_c I (sl_n)), ⟨n, o, I, I⟩⟩
theorem L.zkim_ok (d : Network) (g : List (List Piece)) (e : Plan) (a : List Int) (r : Int) (h : L.zkim d g e a = some r) : ACalls Tryz.env 39 [.agg (Network.row d), .list 1 (g.map (rL 2 Piece.row)), .agg (Plan.row e), .list 1 (a.map rI)] [] (fun x new => x = .V r ∧ new = []) := by
 refine ACalls.of_body Tryz.func39 rfl rfl rfl (fun C hC => ?_)
 unfold L.zkim at h
 refine AW.seqG (fun R t => (AW.region (AO.act [] I (AX.box (cs := Network.row d) (m := 6) I I I dS (fun S => (AO.act [] I (AX.box (cs := Plan.row e) (m := 3) I I I dS (fun U => (AO.q 1 I (AO.nil ?_))))))))))
 subst t
 refine AW.seqG (fun W u => (AW.seq ?_))
 obtain ⟨X, w, h⟩ := ob_some h
 refine AW.region (AO.r 2 [.o 0 0] I ⟨I, J⟩ (AO.c (L.zjfe_ok _ _ _ w) (AO.q 1 I (AO.nil (AW.z I (AW.ch h I ?_ ?_))))))
 intro y h
 refine AW.z I (AW.ghost g0 ?_)
 obtain rfl := oi h
 exact AW.ret pr
 intro y h
 refine AW.skip ?_
 subst u
 refine AW.seqG (fun Y A => (AW.seq ?_))
 obtain ⟨Z, B, h⟩ := ob_some h
 refine AW.region (AO.r 2 [.o 0 0, .o 1 1] I ⟨I, I, J⟩ (AO.c (L.zvqa_ok _ _ _ B) (AO.q 1 I (AO.nil (AW.z I (AW.ch h I ?_ ?_))))))
 intro D h
 refine AW.z I (AW.ghost g0 ?_)
 obtain rfl := oi h
 exact AW.ret pr
 intro D h
 refine AW.skip ?_
 subst A
 refine AW.seqG (fun aa E => (AW.zr [.l 1 (a.length : Int), .o 3 0, .l 4 (d.Ports.length : Int)] I ⟨len_m, I, len_m, J⟩ (AW.ch h I ?_ ?_)))
 intro F h
 refine AW.z I (AW.ghost g0 ?_)
 obtain rfl := oi h
 exact AW.ret pr
 intro F h
 refine AW.skip ?_
 subst E
 refine AW.cutX (fun s ob => ∃ (i : Unit), L.zkim.J1 i = some r ∧ s = [] ∧ ob = []) [] J ?_ ?_
 refine AW.zr [.l 1 (a.length : Int)] I ⟨len_m, J⟩ (AW.block (AW.listMax 30 I (fun f => ?_)))
 replace f : a.length ≤ 9223372036854775806 := by rw [List.length_map] at f; omega
 obtain ⟨ab, G, j⟩ := ob_some h
 clear h
 refine AW.forX G [(3, _), (31, _)] ⟨I, I, J⟩ (fun (b : Nat) (n : Unit) s ob => s = [(32, .V (b : Int))] ∧ ob = []) ⟨I, I⟩ ⟨I, J⟩ ⟨[], I, by decide⟩ ?_ ?_
 rintro b p n ac s ob H K ⟨rfl, rfl⟩ h M
 unfold L.zkim.B2 at h
 have N : decide ((b : Int) < (a.length : Int)) = true := decide_eq_true (by omega)
 refine AW.z I (AW.seqG (fun ad O => (AW.condK (v := true) I N (AW.skip ?_))))
 subst O
 refine AW.seq (AW.block (AW.z I (AW.seq (AW.region (AO.r 4 [.x 2 b (rI p)] I ⟨⟨I, map_get H⟩, J⟩ (AO.c (L.zcjy_ok p _ I) (AO.q 1 I (AO.nil (AW.ch h I ?_ ?_)))))))))
 intro P h
 refine AW.z I ?_
 obtain rfl := M _ (oi h).symm
 replace h := j
 replace h := se_r h
 obtain rfl := oi h
 exact AW.ret pr
 intro P h
 refine AW.skip (AW.region (AO.r 2 [.k 0 (b + 1 : Nat)] I ⟨cast_wr K f, J⟩ ?_))
 obtain rfl := oi h
 refine AO.nil ?_
 exact ⟨_, _, _, I, ⟨I, I⟩, ⟨I, I, I, J⟩, [], I, by decide⟩
 rintro n s ob ⟨rfl, rfl⟩ he
 subst he
 have h := se_l j
 have Q : decide (((a.length : Nat) : Int) < (a.length : Int)) = false := by simp
 refine AW.z I (AW.seqG (fun ae af => (AW.condK (v := false) I Q (AW.exit ?_))))
 exact lg ⟨(), h, I, I⟩ []
 rintro s ob ⟨i, h, rfl, rfl⟩
 unfold L.zkim.J1 at h
 refine AW.z I ?_
 obtain rfl := oi h
 exact AW.ret pr
theorem L.zyjz_ok (e : List Piece) (r : List Piece) (h : L.zyjz e = some r) : ACalls Tryz.env 62 [.list 2 (e.map Piece.row)] [] (fun x new => ∃ (g : Value), x = .v g ∧ new = [.us g 66 2 (r.map Piece.row)]) := by
 refine ACalls.of_body Tryz.func62 rfl rfl rfl (fun C hC => ?_)
 unfold L.zyjz at h
 refine AW.z I (AW.z I (AW.cutX (fun s ob => ∃ (b : List Piece) (a : Value), L.zyjz.J1 b = some r ∧ s = [(3, .v a)] ∧ ob = [.us a 66 2 (b.map Piece.row)]) [] J ?_ ?_))
 refine AW.zr [.l 1 (e.length : Int)] I ⟨len_m, J⟩ (AW.block (AW.ghost (Ghost.nilU 66 2) ?_))
 obtain ⟨y, i, j⟩ := ob_some h
 clear h
 refine AW.loopX i [(0, _)] ⟨I, J⟩ (fun (c : (List Piece) × Int) s ob => ∃ (d : Value), s = [(3, .v d), (4, .V c.2)] ∧ ob = [.us d 66 2 (c.1.map Piece.row)]) ⟨(.slice none 0 0), I, I⟩ ⟨I, I, J⟩ ⟨[0], I, by decide⟩ ?_
 rintro c A s ob ⟨d, rfl, rfl⟩ h k
 unfold L.zyjz.B2 at h
 refine AW.seqG (fun B m => (AW.z I (AW.ch h I ?_ ?_)))
 intro n h
 refine AW.skip ?_
 subst m
 refine AW.seq (AW.block ?_)
 obtain ⟨f, o, h⟩ := ob_some h
 obtain ⟨p, t⟩ := ix_some o
 obtain ⟨D, u, h⟩ := ob_some h
 refine AW.region (AO.r 5 [.x 3 f.1 (Piece.row f.2)] I ⟨⟨p, map_get t⟩, J⟩ (AO.act [] I (AX.lt 2 (([f.2] : List Piece).map Piece.row) (AO.act [0] I (AX.ap 0 I u (fun w => (AO.q 1 I (AO.nil (AW.region (AO.q 3 I ?_))))))))))
 obtain rfl := oi h
 refine AO.nil ?_
 exact ⟨_, _, _, I, ⟨w, I, I⟩, ⟨I, I, I, J⟩, [0], I, by decide⟩
 intro n h
 obtain rfl := k _ (oi h).symm
 replace h := j
 refine AW.exit ?_
 exact lg ⟨c.1, d, h, I, I⟩ [0]
 rintro s ob ⟨b, a, h, rfl, rfl⟩
 unfold L.zyjz.J1 at h
 refine AW.z I ?_
 obtain rfl := oi h
 exact AW.ret ⟨.inr I, [_], [.us a 66 2 (b.map Piece.row)], ⟨I, J⟩, sl_c I (sl_n), ⟨a, I, I⟩⟩
theorem L.zthj_ok (b : Network) (P : List (List Piece)) (e : Plan) (am : List Int) (r : (List (List Piece)) × (List (List Piece)) × Int) (h : L.zthj b P e am = some r) : ACalls Tryz.env 24 [.agg (Network.row b), .list 1 (P.map (rL 2 Piece.row)), .agg (Plan.row e), .list 1 (am.map rI)] [] (fun x new => ∃ (u0 : Value) (u1 : Value), x = .tup [.v u0, .v u1, .V r.2.2] ∧ new = [.us u0 35 1 (r.1.map (rL 2 Piece.row)), .us u1 35 1 (r.2.1.map (rL 2 Piece.row))]) := by
 refine ACalls.of_body Tryz.func24 rfl rfl rfl (fun C hC => ?_)
 unfold L.zthj at h
 refine AW.seqG (fun y1 dt => (AW.region (AO.act [] I (AX.box (cs := Network.row b) (m := 6) I I I dS (fun t => (AO.act [] I (AX.box (cs := Plan.row e) (m := 3) I I I dS (fun u => (AO.q 3 I (AO.nil ?_))))))))))
 subst dt
 refine AW.seqG (fun y4 du => (AW.seq ?_))
 obtain ⟨r5, dv, h⟩ := ob_some h
 refine AW.region (AO.r 4 [.o 0 0, .o 2 1] I ⟨I, I, J⟩ (AO.c (L.zkim_ok _ _ _ _ _ dv) (AO.q 1 I (AO.nil (AW.z I (AW.ch h I ?_ ?_))))))
 intro dw h
 refine AW.z I (AW.ghost (Ghost.nilU 35 1) (AW.ghost (Ghost.nilU 35 1) (AW.ghost (Ghost.pick [2, 3] (K := [.us (.slice none 0 0) 35 1 ([].map (rL 2 Piece.row)), .us (.slice none 0 0) 35 1 ([].map (rL 2 Piece.row))]) I (by decide)) ?_)))
 obtain rfl := oi h
 exact AW.ret ⟨.inr I, [_, _, _], [.us (.slice none 0 0) 35 1 ([].map (rL 2 Piece.row)), .us (.slice none 0 0) 35 1 ([].map (rL 2 Piece.row))], ⟨I, I, I, J⟩, sl_c I (sl_c I (sl_n)), ⟨(.slice none 0 0), (.slice none 0 0), I, I⟩⟩
 intro dw h
 refine AW.skip ?_
 subst du
 refine AW.cutX (fun s ob => ∃ (aa : (List (List Piece)) × (List (List Piece))) (g : Value) (i : Value), L.zthj.J1 b P e am aa = some r ∧ s = [(12, .v g), (13, .v i)] ∧ ob = [.arr t 32 6 1 [Network.row b], .arr u 46 3 1 [Plan.row e], .us g 35 1 (aa.1.map (rL 2 Piece.row)), .us i 35 1 (aa.2.map (rL 2 Piece.row))]) [(1, _), (3, _), (4, _), (6, _)] ⟨I, I, I, I, J⟩ ?_ ?_
 obtain ⟨c1, dx, h⟩ := ob_some h
 obtain ⟨a7, c2, c3, c4⟩ := mk_some dx
 obtain ⟨c5, dy, h⟩ := ob_some h
 obtain ⟨a8, c6, c7, c8⟩ := mk_some dy
 refine AW.rd (.still 0 (.still 1 (.still 3 (.still 4 (.still 5 (.two 2 6 (.still 7 (.act 6 (.still 8 .nil))) (.act 2 (.still 7 (.still 8 .nil))))))))) [0] [_] I (AP.r 5 [.l 1 (P.length : Int), .o 3 0, .l 4 (b.Ports.length : Int)] I ⟨len_m, I, len_m, J⟩ (AP.two ?_ ?_))
 refine AP.act [] I I I (AX.makeU (sz := 1) (es' := List.replicate a7 [.N]) I I I I I I I I I I c2 c3 I dS (fun b1 => (AP.ghostS (Ghost.toLists (f := Piece.row) 2 a7 2 c4 I) I (AP.q 1 I (AP.act [] I I I (AX.makeU (sz := 1) (es' := List.replicate a8 [.N]) I I I I I I I I I I c6 c7 I dS (fun b4 => (AP.ghostS (Ghost.toLists (f := Piece.row) 3 a8 2 c8 I) I (AP.q 1 I (AP.ofAO (AO.nil ?_)))))))))))
 exact lg ⟨(c1, c5), b1, b4, h, I, I⟩ [0, 1, 2, 3]
 refine AP.act [] I I I (AX.makeU (sz := 1) (es' := List.replicate a8 [.N]) I I I I I I I I I I c6 c7 I dS (fun b4 => (AP.ghostS (Ghost.toLists (f := Piece.row) 2 a8 2 c8 I) I (AP.act [] I I I (AX.makeU (sz := 1) (es' := List.replicate a7 [.N]) I I I I I I I I I I c2 c3 I dS (fun b1 => (AP.ghostS (Ghost.toLists (f := Piece.row) 3 a7 2 c4 I) I (AP.q 2 I (AP.ofAO (AO.nil ?_))))))))))
 exact lg ⟨(c1, c5), b1, b4, h, I, I⟩ [0, 1, 3, 2]
 rintro s ob ⟨aa, g, i, h, rfl, rfl⟩
 unfold L.zthj.J1 at h
 refine AW.seqG (fun ip dz => ?_)
 obtain ⟨a9, d0, h⟩ := ob_some h
 obtain ⟨c9, d1, d2, d3⟩ := mk_some d0
 refine AW.region (AO.r 2 [.l 1 (P.length : Int)] I ⟨len_m, J⟩ (AO.act [] I (AX.makeU (sz := 1) (es' := List.replicate c9 [.N]) I I I I I I I I I I d1 d2 I dS (fun n => (AO.ghost (Ghost.toLists (f := Piece.row) 4 c9 2 d3 I) (AO.q 1 I (AO.nil ?_)))))))
 subst dz
 refine AW.z I (AW.cutX (fun s ob => ∃ (b5 : List (List Piece)), L.zthj.J2 b e am aa a9 b5 = some r ∧ s = [] ∧ ob = [.arr t 32 6 1 [Network.row b], .arr u 46 3 1 [Plan.row e], .us g 35 1 (b5.map (rL 2 Piece.row)), .us i 35 1 (aa.2.map (rL 2 Piece.row)), .us n 35 1 (a9.map (rL 2 Piece.row))]) [(3, _), (4, _), (6, _), (12, _), (13, _), (14, _), (15, _)] ⟨I, I, I, I, I, I, I, J⟩ ?_ ?_)
 refine AW.zr [.l 1 (P.length : Int)] I ⟨len_m, J⟩ (AW.block (AW.listMax 59 I (fun b6 => ?_)))
 replace b6 : P.length ≤ 9223372036854775806 := by rw [List.length_map] at b6; omega
 obtain ⟨iq, d4, d5⟩ := ob_some h
 clear h
 refine AW.forY d4 [(1, _), (3, _), (4, _), (6, _), (12, _), (13, _), (14, _), (15, _), (60, _)] ⟨I, I, I, I, I, I, I, I, I, J⟩ (fun (an : Nat) (ao : List (List Piece)) s ob => s = [(61, .V (an : Int))] ∧ ob = [.arr t 32 6 1 [Network.row b], .arr u 46 3 1 [Plan.row e], .us g 35 1 (ao.map (rL 2 Piece.row)), .us i 35 1 (aa.2.map (rL 2 Piece.row)), .us n 35 1 (a9.map (rL 2 Piece.row))]) ⟨I, I⟩ ⟨I, J⟩ ⟨[0, 1, 2, 3, 4], I, by decide⟩ ?_ ?_
 rintro an d6 ao ir s ob d7 d8 ⟨rfl, rfl⟩ h
 unfold L.zthj.B27 at h
 have d9 : decide ((an : Int) < (P.length : Int)) = true := decide_eq_true (by omega)
 refine AW.z I (AW.seqG (fun it ea => (AW.condK (v := true) I d9 (AW.skip ?_))))
 subst ea
 refine AW.seq (AW.block (AW.z I ?_))
 obtain ⟨b7, eb, h⟩ := ob_some h
 obtain ⟨da, ec, h⟩ := ob_some h
 obtain ⟨ed, db⟩ := ix_some ec
 refine AW.region (AO.q 2 I (AO.act [] I (AX.buildSlice (sz := 2) (es := ([] : List Piece).map Piece.row) I I I I I I I I I I I dS (fun iu => (AO.r 4 [.x 2 an ((rL 2 Piece.row) d6)] I ⟨⟨I, map_get d7⟩, J⟩ (AO.act [5] I (AX.ap 5 I eb (fun ee => (AO.d (Yd.indexU 2 (m := da.1) I I I I I I I ed (map_get db)) I (AO.ghost (Ghost.freeze [5] (K := [.us ee 66 2 (b7.map Piece.row)]) I [(71, .list 2 (b7.map Piece.row))] ⟨⟨_, I, .us 0 I⟩, J⟩ (ob' := [.arr t 32 6 1 [Network.row b], .arr u 46 3 1 [Plan.row e], .us g 35 1 (ao.map (rL 2 Piece.row)), .us i 35 1 (aa.2.map (rL 2 Piece.row)), .us n 35 1 (a9.map (rL 2 Piece.row))]) (.rest _)) (AO.act [2] I (AX.storeU 2 da.1 0 I I I (map_get db) I I I I (le_ble I) I (us_set (x := b7) I) (AO.nil (AW.region (AO.r 2 [.k 0 (an + 1 : Nat)] I ⟨cast_wr d8 b6, J⟩ ?_)))))))))))))))
 obtain rfl := oi h
 refine AO.nil ?_
 exact lg ⟨I, I⟩ [0, 1, 2, 3, 4]
 rintro ao s ob ⟨rfl, rfl⟩ he
 subst he
 have h := d5
 have ef : decide (((P.length : Nat) : Int) < (P.length : Int)) = false := by simp
 refine AW.z I (AW.seqG (fun iv iw => (AW.condK (v := false) I ef (AW.exit ?_))))
 exact lg ⟨ao, h, I, I⟩ [0, 1, 2, 3, 4]
 rintro s ob ⟨b5, h, rfl, rfl⟩
 unfold L.zthj.J2 at h
 refine AW.seqG (fun ix eg => ?_)
 obtain ⟨w, eh, h⟩ := ob_some h
 refine AW.region (AO.r 2 [.o 0 0, .o 1 1] I ⟨I, I, J⟩ (AO.act [] I (AX.call0 I I I (L.zfjh_ok _ _ _ eh) dS ?_)))
 rintro _ _ ⟨B, rfl, rfl⟩
 refine AO.q 5 I (AO.nil ?_)
 subst eg
 refine AW.cutX (fun s ob => ∃ (j : (List (List Piece)) × (List (List Piece)) × (List (List Piece)) × Bool), L.zthj.J3 j = some r ∧ s = [(15, .v (.bool j.2.2.2))] ∧ ob = [.us g 35 1 (j.1.map (rL 2 Piece.row)), .us i 35 1 (j.2.1.map (rL 2 Piece.row)), .us n 35 1 (j.2.2.1.map (rL 2 Piece.row))]) [(12, _), (13, _), (14, _)] ⟨I, I, I, J⟩ ?_ ?_
 refine AW.seqG (fun iy ei => (AW.region (AO.q 1 I (AO.d (Yd.lenUM 5 I I I I) I (AO.q 1 I (AO.nil ?_))))))
 subst ei
 refine AW.block (AW.usMax 5 I (fun b8 => ?_))
 replace b8 : w.1.length ≤ 9223372036854775806 := by rw [List.length_map] at b8; omega
 obtain ⟨iz, ej, ek⟩ := ob_some h
 clear h
 refine AW.forJY ej [(3, _), (4, _), (6, _), (12, _), (13, _), (14, _), (80, _), (81, _)] ⟨I, I, I, I, I, I, I, I, J⟩ (fun (ba : Nat) (a : (List (List Piece)) × (List (List Piece)) × (List (List Piece)) × Bool) s ob => s = [(82, .V (ba : Int)), (15, .v (.bool a.2.2.2))] ∧ ob = [.arr t 32 6 1 [Network.row b], .arr u 46 3 1 [Plan.row e], .us g 35 1 (a.1.map (rL 2 Piece.row)), .us i 35 1 (a.2.1.map (rL 2 Piece.row)), .us n 35 1 (a.2.2.1.map (rL 2 Piece.row)), .us B 3 1 (w.1.map rI)]) ⟨I, I⟩ ⟨I, I, J⟩ ⟨[0, 1, 2, 3, 4, 5], I, by decide⟩ ?_ ?_
 rintro ba a bb s ob el ⟨rfl, rfl⟩ h
 unfold L.zthj.B10 at h
 have em : decide ((ba : Int) < (w.1.length : Int)) = true := decide_eq_true (by omega)
 refine AW.z I (AW.seqG (fun i0 en => (AW.condK (v := true) I em (AW.skip ?_))))
 subst en
 refine AW.cutX (fun s ob => ∃ (aj : (List (List Piece)) × (List (List Piece)) × (List (List Piece)) × Bool), L.zthj.J11 aj = some bb ∧ s = [(15, .v (.bool aj.2.2.2))] ∧ ob = [.arr t 32 6 1 [Network.row b], .arr u 46 3 1 [Plan.row e], .us g 35 1 (aj.1.map (rL 2 Piece.row)), .us i 35 1 (aj.2.1.map (rL 2 Piece.row)), .us n 35 1 (aj.2.2.1.map (rL 2 Piece.row)), .us B 3 1 (w.1.map rI)]) [(3, _), (4, _), (6, _), (12, _), (13, _), (14, _), (80, _), (81, _), (82, _)] ⟨I, I, I, I, I, I, I, I, I, J⟩ ?_ ?_
 refine AW.block (AW.seqG (fun i1 eo => ?_))
 obtain ⟨R, ep, h⟩ := ob_some h
 obtain ⟨eq, dc⟩ := ix_some ep
 refine AW.region (AO.d (Yd.indexU 5 (m := R.1) I I I I I I I eq (map_get dc)) I (AO.d (Yd.loadU 5 R.1 0 I I I (map_get dc) I (y := .V R.2) I) I (AO.q 1 I (AO.nil ?_))))
 subst eo
 refine AW.z I (AW.z I (AW.cutX (fun s ob => ∃ (A : (List Piece) × (List Int) × (List Int)) (bc : Value) (bd : Value) (F : Value), L.zthj.J12 b e a R A = some bb ∧ s = [(21, .v bc), (22, .v bd), (23, .v F)] ∧ ob = [.arr t 32 6 1 [Network.row b], .arr u 46 3 1 [Plan.row e], .us g 35 1 (a.1.map (rL 2 Piece.row)), .us i 35 1 (a.2.1.map (rL 2 Piece.row)), .us n 35 1 (a.2.2.1.map (rL 2 Piece.row)), .us B 3 1 (w.1.map rI), .us bc 66 2 (A.1.map Piece.row), .us bd 3 1 (A.2.1.map rI), .us F 3 1 (A.2.2.map rI)]) [(3, _), (4, _), (6, _), (12, _), (13, _), (14, _), (15, _), (20, _), (24, _), (80, _), (81, _), (82, _)] ⟨I, I, I, I, I, I, I, I, I, I, I, I, J⟩ ?_ ?_))
 refine AW.zr [.o 1 0, .l 2 (b.Ports.length : Int)] I ⟨len_m, I, J⟩ (AW.block (AW.listMax 87 I (fun b9 => ?_)))
 replace b9 : b.Ports.length ≤ 9223372036854775806 := by rw [List.length_map] at b9; omega
 refine AW.ghost (Ghost.nilU 66 2) (AW.ghost (Ghost.nilU 3 1) (AW.ghost (Ghost.nilU 3 1) ?_))
 obtain ⟨i2, er, et⟩ := ob_some h
 clear h
 refine AW.forY er [(3, _), (4, _), (6, _), (12, _), (13, _), (14, _), (15, _), (20, _), (24, _), (80, _), (81, _), (82, _), (87, _), (88, _)] ⟨I, I, I, I, I, I, I, I, I, I, I, I, I, I, J⟩ (fun (S : Nat) (D : (List Piece) × (List Int) × (List Int)) s ob => ∃ (ae : Value) (U : Value) (W : Value), s = [(89, .V (S : Int)), (21, .v ae), (22, .v U), (23, .v W)] ∧ ob = [.arr t 32 6 1 [Network.row b], .arr u 46 3 1 [Plan.row e], .us g 35 1 (a.1.map (rL 2 Piece.row)), .us i 35 1 (a.2.1.map (rL 2 Piece.row)), .us n 35 1 (a.2.2.1.map (rL 2 Piece.row)), .us B 3 1 (w.1.map rI), .us ae 66 2 (D.1.map Piece.row), .us U 3 1 (D.2.1.map rI), .us W 3 1 (D.2.2.map rI)]) ⟨(.slice none 0 0), (.slice none 0 0), (.slice none 0 0), I, I⟩ ⟨I, I, I, I, J⟩ ⟨[0, 1, 2, 3, 4, 5, 6, 7, 8], I, by decide⟩ ?_ ?_
 rintro S ab D be s ob eu ev ⟨ae, U, W, rfl, rfl⟩ h
 unfold L.zthj.B22 at h
 have ew : decide ((S : Int) < (b.Ports.length : Int)) = true := decide_eq_true (by omega)
 refine AW.z I (AW.seqG (fun i3 ex => (AW.condK (v := true) I ew (AW.skip ?_))))
 subst ex
 refine AW.cutX (fun s ob => ∃ (aq : (List Piece) × (List Int) × (List Int)) (bf : Value) (bg : Value) (bh : Value), L.zthj.J23 aq = some be ∧ s = [(21, .v bf), (22, .v bg), (23, .v bh)] ∧ ob = [.arr t 32 6 1 [Network.row b], .arr u 46 3 1 [Plan.row e], .us g 35 1 (a.1.map (rL 2 Piece.row)), .us i 35 1 (a.2.1.map (rL 2 Piece.row)), .us n 35 1 (a.2.2.1.map (rL 2 Piece.row)), .us B 3 1 (w.1.map rI), .us bf 66 2 (aq.1.map Piece.row), .us bg 3 1 (aq.2.1.map rI), .us bh 3 1 (aq.2.2.map rI)]) [(3, _), (4, _), (6, _), (12, _), (13, _), (14, _), (15, _), (20, _), (24, _), (80, _), (81, _), (82, _), (87, _), (88, _), (89, _)] ⟨I, I, I, I, I, I, I, I, I, I, I, I, I, I, I, J⟩ ?_ ?_
 refine AW.block (AW.seqG (fun i4 ey => (AW.region (AO.r 3 [.x 1 S (Port.row ab)] I ⟨⟨I, map_get eu⟩, J⟩ (AO.act [] I (AX.alloc (cs := [.v (.string ⟨#[]⟩), .V 0, .V 0]) (m := 3) I I I I I dS (fun dd => (AO.q 1 I (AO.act [9] I (AX.store 9 0 0 (es' := [Port.row ab]) I I I I I I I I (le_ble I) I I (AO.nil ?_)))))))))))
 subst ey
 refine AW.cutX (fun s ob => ∃ (af : List Piece) (ak : Value), L.zthj.J24 e R S ab D af = some be ∧ s = [(21, .v ak)] ∧ ob = [.arr t 32 6 1 [Network.row b], .arr u 46 3 1 [Plan.row e], .us g 35 1 (a.1.map (rL 2 Piece.row)), .us i 35 1 (a.2.1.map (rL 2 Piece.row)), .us n 35 1 (a.2.2.1.map (rL 2 Piece.row)), .us B 3 1 (w.1.map rI), .us ak 66 2 (af.map Piece.row), .us U 3 1 (D.2.1.map rI), .us W 3 1 (D.2.2.map rI), .arr dd 90 3 1 [Port.row ab]]) [(3, _), (4, _), (6, _), (12, _), (13, _), (14, _), (15, _), (20, _), (22, _), (23, _), (24, _), (25, _), (26, _), (80, _), (81, _), (82, _), (87, _), (88, _), (89, _)] ⟨I, I, I, I, I, I, I, I, I, I, I, I, I, I, I, I, I, I, I, J⟩ ?_ ?_
 refine AW.cutX (fun s ob => ∃ (ca : Bool), L.zthj.J26 e am R S ab D ca = some be ∧ s = [(105, .v (.bool ca))] ∧ ob = [.arr t 32 6 1 [Network.row b], .arr u 46 3 1 [Plan.row e], .us g 35 1 (a.1.map (rL 2 Piece.row)), .us i 35 1 (a.2.1.map (rL 2 Piece.row)), .us n 35 1 (a.2.2.1.map (rL 2 Piece.row)), .us B 3 1 (w.1.map rI), .us ae 66 2 (D.1.map Piece.row), .us U 3 1 (D.2.1.map rI), .us W 3 1 (D.2.2.map rI), .arr dd 90 3 1 [Port.row ab]]) [(3, _), (4, _), (6, _), (12, _), (13, _), (14, _), (15, _), (20, _), (21, _), (22, _), (23, _), (24, _), (25, _), (26, _), (80, _), (81, _), (82, _), (87, _), (88, _), (89, _)] ⟨I, I, I, I, I, I, I, I, I, I, I, I, I, I, I, I, I, I, I, I, J⟩ ?_ ?_
 refine AW.region (AO.r 5 [.o 1 9] I ⟨I, J⟩ ?_)
 rcases bt ((ab.Node == R.2)) with ar | ar
 replace h := ife_t ar h
 obtain ⟨cb, ez, h⟩ := ob_some h
 obtain ⟨e0, e1⟩ := ix_some ez
 refine AO.known 98 I ar (AO.r 7 [.o 1 1, .x 3 cb.1 (rI cb.2)] I ⟨⟨e0, map_get e1⟩, I, J⟩ (AO.nil ?_))
 exact lg ⟨decide (cb.2 > 0), h, I, I⟩ [0, 1, 2, 3, 4, 5, 6, 7, 8, 9]
 replace h := ife_f ar h
 refine AO.known 98 I ar (AO.q 7 I (AO.nil ?_))
 exact lg ⟨false, h, I, I⟩ [0, 1, 2, 3, 4, 5, 6, 7, 8, 9]
 rintro s ob ⟨ca, h, rfl, rfl⟩
 unfold L.zthj.J26 at h
 refine AW.ch h I ?_ ?_
 intro e2 h
 obtain ⟨bi, e3, h⟩ := ob_some h
 obtain ⟨e4, e5⟩ := ix_some e3
 obtain ⟨bj, e6, h⟩ := ob_some h
 obtain ⟨e7, e8⟩ := ix_some e6
 obtain ⟨e9, fa, h⟩ := ob_some h
 refine AW.rd (pd 14 0 [11, 12]) [1] [_] I (AP.r 10 [.x 3 bi.1 (rI bi.2), .o 6 0, .x 8 bj.1 (rI bj.2)] I ⟨⟨e7, map_get e8⟩, I, ⟨e4, map_get e5⟩, J⟩ (AP.op I (Yp.buildP (l := [.V bi.2, .V bj.2]) Tryz.bld66 I) I (AP.act [] I I I (AX.lt 2 (([(⟨bi.2, bj.2⟩ : Piece)] : List Piece).map Piece.row) (AP.act [6] I I I (AX.ap 6 I fa (fun fb => (AP.eraS 21 (AP.q 1 I (AP.ofAO (AO.nil ?_)))))))))))
 exact lg ⟨e9, fb, h, I, I⟩ [0, 1, 2, 3, 4, 5, 6, 7, 8, 9]
 intro e2 h
 refine AW.skip ?_
 exact lg ⟨D.1, ae, h, I, I⟩ [0, 1, 2, 3, 4, 5, 6, 7, 8, 9]
 rintro s ob ⟨af, ak, h, rfl, rfl⟩
 unfold L.zthj.J24 at h
 refine AW.cutX (fun s ob => ∃ (cc : Bool), L.zthj.J25 e S D af cc = some be ∧ s = [(130, .v (.bool cc))] ∧ ob = [.arr t 32 6 1 [Network.row b], .arr u 46 3 1 [Plan.row e], .us g 35 1 (a.1.map (rL 2 Piece.row)), .us i 35 1 (a.2.1.map (rL 2 Piece.row)), .us n 35 1 (a.2.2.1.map (rL 2 Piece.row)), .us B 3 1 (w.1.map rI), .us ak 66 2 (af.map Piece.row), .us U 3 1 (D.2.1.map rI), .us W 3 1 (D.2.2.map rI)]) [(3, _), (4, _), (6, _), (12, _), (13, _), (14, _), (15, _), (20, _), (21, _), (22, _), (23, _), (24, _), (25, _), (80, _), (81, _), (82, _), (87, _), (88, _), (89, _)] ⟨I, I, I, I, I, I, I, I, I, I, I, I, I, I, I, I, I, I, I, J⟩ ?_ ?_
 refine AW.region (AO.r 5 [.o 1 9] I ⟨I, J⟩ ?_)
 rcases bt ((ab.Node == R.2)) with au | au
 replace h := ife_t au h
 obtain ⟨cd, fc, h⟩ := ob_some h
 obtain ⟨fd, fe⟩ := ix_some fc
 refine AO.known 123 I au (AO.r 7 [.o 1 1, .x 3 cd.1 (rI cd.2)] I ⟨⟨fd, map_get fe⟩, I, J⟩ (AO.nil ?_))
 exact lg ⟨decide (cd.2 < 0), h, I, I⟩ [0, 1, 2, 3, 4, 5, 6, 7, 8]
 replace h := ife_f au h
 refine AO.known 123 I au (AO.q 7 I (AO.nil ?_))
 exact lg ⟨false, h, I, I⟩ [0, 1, 2, 3, 4, 5, 6, 7, 8]
 rintro s ob ⟨cc, h, rfl, rfl⟩
 unfold L.zthj.J25 at h
 refine AW.ch h I ?_ ?_
 intro ff h
 obtain ⟨ce, fg, h⟩ := ob_some h
 obtain ⟨fh, fi⟩ := ix_some fg
 obtain ⟨fj, fk, h⟩ := ob_some h
 obtain ⟨fl, fm, h⟩ := ob_some h
 refine AW.region (AO.r 7 [.o 2 1, .x 4 ce.1 (rI ce.2)] I ⟨⟨fh, map_get fi⟩, I, J⟩ (AO.act [] I (AX.lt 1 (([wr (0 - ce.2)] : List Int).map rI) (AO.act [7] I (AX.ap 7 I fk (fun fn => (AO.q 2 I (AO.act [] I (AX.lt 1 (([(S : Int)] : List Int).map rI) (AO.act [8] I (AX.ap 8 I fm (fun fo => (AO.q 2 I (AO.nil ?_))))))))))))))
 exact lg ⟨(af, fj, fl), ak, fn, fo, h, I, I⟩ [0, 1, 2, 3, 4, 5, 6, 7, 8]
 intro ff h
 refine AW.skip ?_
 exact lg ⟨(af, D.2.1, D.2.2), ak, U, W, h, I, I⟩ [0, 1, 2, 3, 4, 5, 6, 7, 8]
 rintro s ob ⟨aq, bf, bg, bh, h, rfl, rfl⟩
 unfold L.zthj.J23 at h
 refine AW.region (AO.r 2 [.k 0 (S + 1 : Nat)] I ⟨cast_wr ev b9, J⟩ ?_)
 obtain rfl := oi h
 refine AO.nil ?_
 exact lg ⟨bf, bg, bh, I, I⟩ [0, 1, 2, 3, 4, 5, 6, 7, 8]
 rintro D s ob ⟨ae, U, W, rfl, rfl⟩ he
 subst he
 have h := et
 have fp : decide (((b.Ports.length : Nat) : Int) < (b.Ports.length : Int)) = false := by simp
 refine AW.z I (AW.seqG (fun i5 i6 => (AW.condK (v := false) I fp (AW.exit ?_))))
 exact lg ⟨(D.1, D.2.1, D.2.2), ae, U, W, h, I, I⟩ [0, 1, 2, 3, 4, 5, 6, 7, 8]
 rintro s ob ⟨A, bc, bd, F, h, rfl, rfl⟩
 unfold L.zthj.J12 at h
 refine AW.cutX (fun s ob => ∃ (p : (List Piece) × (List Int) × (List Int)) (bk : Value) (al : Value) (H : Value), L.zthj.J13 e a A p = some bb ∧ s = [(21, .v bk), (22, .v al), (24, .v H)] ∧ ob = [.arr t 32 6 1 [Network.row b], .arr u 46 3 1 [Plan.row e], .us g 35 1 (a.1.map (rL 2 Piece.row)), .us i 35 1 (a.2.1.map (rL 2 Piece.row)), .us n 35 1 (a.2.2.1.map (rL 2 Piece.row)), .us B 3 1 (w.1.map rI), .us bk 66 2 (p.1.map Piece.row), .us al 3 1 (p.2.1.map rI), .us F 3 1 (A.2.2.map rI), .us H 3 1 (p.2.2.map rI)]) [(3, _), (4, _), (6, _), (12, _), (13, _), (14, _), (15, _), (23, _), (80, _), (81, _), (82, _)] ⟨I, I, I, I, I, I, I, I, I, I, I, J⟩ ?_ ?_
 refine AW.zr [.o 1 0, .l 2 (b.Segments.length : Int)] I ⟨len_m, I, J⟩ (AW.block (AW.listMax 146 I (fun cf => ?_)))
 replace cf : b.Segments.length ≤ 9223372036854775806 := by rw [List.length_map] at cf; omega
 refine AW.ghost (Ghost.nilU 3 1) ?_
 obtain ⟨i7, fq, fr⟩ := ob_some h
 clear h
 refine AW.forY fq [(3, _), (4, _), (6, _), (12, _), (13, _), (14, _), (15, _), (20, _), (23, _), (80, _), (81, _), (82, _), (146, _), (147, _)] ⟨I, I, I, I, I, I, I, I, I, I, I, I, I, I, J⟩ (fun (ag : Nat) (G : (List Piece) × (List Int) × (List Int)) s ob => ∃ (ah : Value) (ac : Value) (ad : Value), s = [(148, .V (ag : Int)), (21, .v ah), (22, .v ac), (24, .v ad)] ∧ ob = [.arr t 32 6 1 [Network.row b], .arr u 46 3 1 [Plan.row e], .us g 35 1 (a.1.map (rL 2 Piece.row)), .us i 35 1 (a.2.1.map (rL 2 Piece.row)), .us n 35 1 (a.2.2.1.map (rL 2 Piece.row)), .us B 3 1 (w.1.map rI), .us ah 66 2 (G.1.map Piece.row), .us ac 3 1 (G.2.1.map rI), .us F 3 1 (A.2.2.map rI), .us ad 3 1 (G.2.2.map rI)]) ⟨bc, bd, (.slice none 0 0), I, I⟩ ⟨I, I, I, I, J⟩ ⟨[0, 1, 2, 3, 4, 5, 6, 7, 8, 9], I, by decide⟩ ?_ ?_
 rintro ag bl G de s ob fs ft ⟨ah, ac, ad, rfl, rfl⟩ h
 unfold L.zthj.B19 at h
 have fu : decide ((ag : Int) < (b.Segments.length : Int)) = true := decide_eq_true (by omega)
 refine AW.z I (AW.seqG (fun i8 fv => (AW.condK (v := true) I fu (AW.skip ?_))))
 subst fv
 refine AW.cutX (fun s ob => ∃ (av : (List Piece) × (List Int) × (List Int)) (bm : Value) (bn : Value) (bo : Value), L.zthj.J20 av = some de ∧ s = [(21, .v bm), (22, .v bn), (24, .v bo)] ∧ ob = [.arr t 32 6 1 [Network.row b], .arr u 46 3 1 [Plan.row e], .us g 35 1 (a.1.map (rL 2 Piece.row)), .us i 35 1 (a.2.1.map (rL 2 Piece.row)), .us n 35 1 (a.2.2.1.map (rL 2 Piece.row)), .us B 3 1 (w.1.map rI), .us bm 66 2 (av.1.map Piece.row), .us bn 3 1 (av.2.1.map rI), .us F 3 1 (A.2.2.map rI), .us bo 3 1 (av.2.2.map rI)]) [(3, _), (4, _), (6, _), (12, _), (13, _), (14, _), (15, _), (20, _), (23, _), (80, _), (81, _), (82, _), (146, _), (147, _), (148, _)] ⟨I, I, I, I, I, I, I, I, I, I, I, I, I, I, I, J⟩ ?_ ?_
 refine AW.block (AW.seqG (fun i9 fw => (AW.region (AO.r 3 [.x 1 ag (Segment.row bl)] I ⟨⟨I, map_get fs⟩, J⟩ (AO.act [] I (AX.alloc (cs := [.v (.string ⟨#[]⟩), .V 0, .V 0, .V 0, .V 0, .V 0, .N]) (m := 7) I I I I I dS (fun ja => (AO.q 1 I (AO.act [10] I (AX.store 10 0 0 (es' := [Segment.row bl]) I I I I I I I I (le_ble I) I I (AO.nil ?_)))))))))))
 subst fw
 refine AW.seqG (fun jb fx => (AW.seq ?_))
 obtain ⟨Q, fy, h⟩ := ob_some h
 obtain ⟨cg, ci⟩ := ix_some fy
 refine AW.tr [.o 1 1, .x 3 Q.1 (rI Q.2)] I ⟨⟨cg, map_get ci⟩, I, J⟩ (AW.ch h I ?_ ?_)
 intro fz h
 refine AW.exit ?_
 exact lg ⟨(G.1, G.2.1, G.2.2), ah, ac, ad, h, I, I⟩ [0, 1, 2, 3, 4, 5, 6, 7, 8, 9]
 intro fz h
 refine AW.skip ?_
 subst fx
 refine AW.seqG (fun jc f0 => (AW.rd (pd 12 0 [6]) [10, 1] [_, _] I (AP.r 6 [.o 0 0, .o 2 1, .x 4 Q.1 (rI Q.2)] I ⟨⟨cg, map_get ci⟩, I, I, J⟩ (AP.c I (L.zdwa_ok bl Q.2 _ I) (AP.q 5 I (AP.ofAO (AO.nil ?_)))))))
 subst f0
 refine AW.cutX (fun s ob => ∃ (aw : List Piece) (ax : Value), L.zthj.J21 R ag bl G Q aw = some de ∧ s = [(21, .v ax)] ∧ ob = [.arr t 32 6 1 [Network.row b], .arr u 46 3 1 [Plan.row e], .us g 35 1 (a.1.map (rL 2 Piece.row)), .us i 35 1 (a.2.1.map (rL 2 Piece.row)), .us n 35 1 (a.2.2.1.map (rL 2 Piece.row)), .us B 3 1 (w.1.map rI), .us ax 66 2 (aw.map Piece.row), .us ac 3 1 (G.2.1.map rI), .us F 3 1 (A.2.2.map rI), .us ad 3 1 (G.2.2.map rI)]) [(3, _), (4, _), (6, _), (12, _), (13, _), (14, _), (15, _), (20, _), (22, _), (23, _), (24, _), (27, _), (29, _), (80, _), (81, _), (82, _), (146, _), (147, _), (148, _)] ⟨I, I, I, I, I, I, I, I, I, I, I, I, I, I, I, I, I, I, I, J⟩ ?_ ?_
 refine AW.z I (AW.ch h I ?_ ?_)
 intro f1 h
 obtain ⟨cj, f2, h⟩ := ob_some h
 obtain ⟨f3, df⟩ := ix_some f2
 obtain ⟨f4, f5, h⟩ := ob_some h
 refine AW.region (AO.q 3 I (AO.d (Yd.indexU 4 (m := cj.1) I I I I I I I f3 (map_get df)) I (AO.d (Yd.loadU 4 cj.1 0 I I I (map_get df) I (y := .list 2 (cj.2.map Piece.row)) I) I (AO.act [6] I (AX.ap 6 I f5 (fun f6 => (AO.q 1 I (AO.nil ?_))))))))
 exact lg ⟨f4, f6, h, I, I⟩ [0, 1, 2, 3, 4, 5, 6, 7, 8, 9]
 intro f1 h
 refine AW.skip ?_
 exact lg ⟨G.1, ah, h, I, I⟩ [0, 1, 2, 3, 4, 5, 6, 7, 8, 9]
 rintro s ob ⟨aw, ax, h, rfl, rfl⟩
 unfold L.zthj.J21 at h
 refine AW.z I (AW.ch h I ?_ ?_)
 intro f7 h
 obtain ⟨f8, f9, h⟩ := ob_some h
 obtain ⟨ga, gb, h⟩ := ob_some h
 refine AW.region (AO.r 6 [.o 2 1, .x 4 Q.1 (rI Q.2)] I ⟨⟨cg, map_get ci⟩, I, J⟩ (AO.c (L.zuap_ok Q.2 _ I) (AO.act [] I (AX.lt 1 (([(L.zuap Q.2)] : List Int).map rI) (AO.act [7] I (AX.ap 7 I f9 (fun gc => (AO.q 2 I (AO.act [] I (AX.lt 1 (([(ag : Int)] : List Int).map rI) (AO.act [9] I (AX.ap 9 I gb (fun gd => (AO.q 2 I (AO.nil ?_)))))))))))))))
 exact lg ⟨(aw, f8, ga), ax, gc, gd, h, I, I⟩ [0, 1, 2, 3, 4, 5, 6, 7, 8, 9]
 intro f7 h
 refine AW.skip ?_
 exact lg ⟨(aw, G.2.1, G.2.2), ax, ac, ad, h, I, I⟩ [0, 1, 2, 3, 4, 5, 6, 7, 8, 9]
 rintro s ob ⟨av, bm, bn, bo, h, rfl, rfl⟩
 unfold L.zthj.J20 at h
 refine AW.region (AO.r 2 [.k 0 (ag + 1 : Nat)] I ⟨cast_wr ft cf, J⟩ ?_)
 obtain rfl := oi h
 refine AO.nil ?_
 exact lg ⟨bm, bn, bo, I, I⟩ [0, 1, 2, 3, 4, 5, 6, 7, 8, 9]
 rintro G s ob ⟨ah, ac, ad, rfl, rfl⟩ he
 subst he
 have h := fr
 have ge : decide (((b.Segments.length : Nat) : Int) < (b.Segments.length : Int)) = false := by simp
 refine AW.z I (AW.seqG (fun jd je => (AW.condK (v := false) I ge (AW.exit ?_))))
 exact lg ⟨(G.1, G.2.1, G.2.2), ah, ac, ad, h, I, I⟩ [0, 1, 2, 3, 4, 5, 6, 7, 8, 9]
 rintro s ob ⟨p, bk, al, H, h, rfl, rfl⟩
 unfold L.zthj.J13 at h
 refine AW.seqG (fun jf gf => ?_)
 obtain ⟨X, gg, h⟩ := ob_some h
 refine AW.region (AO.q 1 I (AO.ghost (Ghost.freeze [6] (K := [.us bk 66 2 (p.1.map Piece.row)]) I [(21, .list 2 (p.1.map Piece.row)), (195, .list 2 (p.1.map Piece.row))] ⟨⟨_, I, .us 0 I⟩, ⟨_, I, .us 0 I⟩, J⟩ (ob' := [.arr t 32 6 1 [Network.row b], .arr u 46 3 1 [Plan.row e], .us g 35 1 (a.1.map (rL 2 Piece.row)), .us i 35 1 (a.2.1.map (rL 2 Piece.row)), .us n 35 1 (a.2.2.1.map (rL 2 Piece.row)), .us B 3 1 (w.1.map rI), .us al 3 1 (p.2.1.map rI), .us F 3 1 (A.2.2.map rI), .us H 3 1 (p.2.2.map rI)]) (.rest _)) (AO.act [] I (AX.call0 I I I (L.zuyb_ok _ _ gg) dS ?_))))
 rintro _ _ ⟨dg, rfl, rfl⟩
 refine AO.q 1 I (AO.nil ?_)
 subst gf
 refine AW.cutX (fun s ob => s = [(15, .v (.bool (a.2.2.2 || decide ((X.length : Int) > 200))))] ∧ ob = [.arr t 32 6 1 [Network.row b], .arr u 46 3 1 [Plan.row e], .us g 35 1 (a.1.map (rL 2 Piece.row)), .us i 35 1 (a.2.1.map (rL 2 Piece.row)), .us n 35 1 (a.2.2.1.map (rL 2 Piece.row)), .us B 3 1 (w.1.map rI), .us al 3 1 (p.2.1.map rI), .us F 3 1 (A.2.2.map rI), .us H 3 1 (p.2.2.map rI), .us dg 66 2 (X.map Piece.row)]) [(3, _), (4, _), (6, _), (12, _), (13, _), (14, _), (21, _), (22, _), (23, _), (24, _), (80, _), (81, _), (82, _)] ⟨I, I, I, I, I, I, I, I, I, I, I, I, I, J⟩ ?_ ?_
 refine AW.region (AO.q 2 I ?_)
 rcases bt (a.2.2.2) with ay | ay
 refine AO.known 198 I ay (AO.q 5 I (AO.nil ?_))
 exact lf ⟨I, I⟩ ⟨(get_b (by simp only [ay, bz])), I, I, I, I, I, I, I, I, I, I, I, I, I, J⟩ [0, 1, 2, 3, 4, 5, 6, 7, 8, 9] I
 refine AO.known 198 I ay (AO.q 1 I (AO.gt I I I (AO.d (Yd.lenUM 9 I I I I) I (AO.q 3 I (AO.nil ?_)))))
 exact lf ⟨I, I⟩ ⟨(get_b (by simp only [ay, bz])), I, I, I, I, I, I, I, I, I, I, I, I, I, J⟩ [0, 1, 2, 3, 4, 5, 6, 7, 8, 9] I
 rintro s ob ⟨rfl, rfl⟩
 refine AW.seqG (fun jg gh => (AW.seq (AW.region (AO.q 1 I (AO.d (Yd.lenUM 9 I I I I) I (AO.q 1 I (AO.nil (AW.ch h I ?_ ?_))))))))
 intro gi h
 refine AW.exit ?_
 exact lg ⟨(a.1, a.2.1, a.2.2.1, (a.2.2.2 || decide ((X.length : Int) > 200))), h, I, I⟩ [0, 1, 2, 3, 4, 5]
 intro gi h
 refine AW.skip ?_
 subst gh
 refine AW.seqG (fun jh gj => ?_)
 obtain ⟨gk, gl, h⟩ := ob_some h
 refine AW.region (AO.q 2 I (AO.ghost (Ghost.freeze [6, 9] (K := [.us al 3 1 (p.2.1.map rI), .us dg 66 2 (X.map Piece.row)]) I [(21, .list 2 (X.map Piece.row)), (22, .list 1 (p.2.1.map rI)), (203, .list 2 (X.map Piece.row)), (206, .list 2 (X.map Piece.row)), (207, .list 1 (p.2.1.map rI))] ⟨⟨_, I, .us 1 I⟩, ⟨_, I, .us 0 I⟩, ⟨_, I, .us 1 I⟩, ⟨_, I, .us 1 I⟩, ⟨_, I, .us 0 I⟩, J⟩ (ob' := [.arr t 32 6 1 [Network.row b], .arr u 46 3 1 [Plan.row e], .us g 35 1 (a.1.map (rL 2 Piece.row)), .us i 35 1 (a.2.1.map (rL 2 Piece.row)), .us n 35 1 (a.2.2.1.map (rL 2 Piece.row)), .us B 3 1 (w.1.map rI), .us F 3 1 (A.2.2.map rI), .us H 3 1 (p.2.2.map rI)]) (.rest _)) (AO.act [] I (AX.call0 I I I (L.zjah_ok _ _ _ gl) dS ?_))))
 rintro _ _ ⟨rfl, rfl⟩
 refine AO.q 1 I (AO.nil ?_)
 subst gj
 refine AW.cutX (fun s ob => ∃ (O : List (List Piece)), L.zthj.J14 e a A p X gk O = some bb ∧ s = [] ∧ ob = [.arr t 32 6 1 [Network.row b], .arr u 46 3 1 [Plan.row e], .us g 35 1 (a.1.map (rL 2 Piece.row)), .us i 35 1 (O.map (rL 2 Piece.row)), .us n 35 1 (a.2.2.1.map (rL 2 Piece.row)), .us B 3 1 (w.1.map rI), .us F 3 1 (A.2.2.map rI), .us H 3 1 (p.2.2.map rI)]) [(3, _), (4, _), (6, _), (12, _), (13, _), (14, _), (15, _), (23, _), (24, _), (31, _), (80, _), (81, _), (82, _)] ⟨I, I, I, I, I, I, I, I, I, I, I, I, I, J⟩ ?_ ?_
 refine AW.seqG (fun ji gm => (AW.region (AO.q 1 I (AO.d (Yd.lenUM 6 I I I I) I (AO.q 1 I (AO.nil ?_))))))
 subst gm
 refine AW.block (AW.usMax 6 I (fun ck => ?_))
 replace ck : A.2.2.length ≤ 9223372036854775806 := by rw [List.length_map] at ck; omega
 obtain ⟨jj, gn, go⟩ := ob_some h
 clear h
 refine AW.forJY gn [(3, _), (4, _), (6, _), (12, _), (13, _), (14, _), (15, _), (23, _), (24, _), (31, _), (80, _), (81, _), (82, _), (209, _), (210, _)] ⟨I, I, I, I, I, I, I, I, I, I, I, I, I, I, I, J⟩ (fun (bp : Nat) (bq : List (List Piece)) s ob => s = [(211, .V (bp : Int))] ∧ ob = [.arr t 32 6 1 [Network.row b], .arr u 46 3 1 [Plan.row e], .us g 35 1 (a.1.map (rL 2 Piece.row)), .us i 35 1 (bq.map (rL 2 Piece.row)), .us n 35 1 (a.2.2.1.map (rL 2 Piece.row)), .us B 3 1 (w.1.map rI), .us F 3 1 (A.2.2.map rI), .us H 3 1 (p.2.2.map rI)]) ⟨I, I⟩ ⟨I, J⟩ ⟨[0, 1, 2, 3, 4, 5, 6, 7], I, by decide⟩ ?_ ?_
 rintro bp bq jk s ob gp ⟨rfl, rfl⟩ h
 unfold L.zthj.B18 at h
 have gq : decide ((bp : Int) < (A.2.2.length : Int)) = true := decide_eq_true (by omega)
 refine AW.z I (AW.seqG (fun jl gr => (AW.condK (v := true) I gq (AW.skip ?_))))
 subst gr
 refine AW.seq (AW.block (AW.seq ?_))
 obtain ⟨cl, gs, h⟩ := ob_some h
 obtain ⟨gu, dh⟩ := ix_some gs
 refine AW.region (AO.q 1 I (AO.d (Yd.indexU 6 (m := cl.1) I I I I I I I gu (map_get dh)) I (AO.d (Yd.loadU 6 cl.1 0 I I I (map_get dh) I (y := .V cl.2) I) I (AO.q 2 I (AO.nil ?_)))))
 obtain ⟨cm, gv, h⟩ := ob_some h
 obtain ⟨gw, gx⟩ := ix_some gv
 obtain ⟨di, gy, h⟩ := ob_some h
 obtain ⟨gz, dj⟩ := ix_some gy
 refine AW.region (AO.r 6 [.x 4 cm.1 ((rL 2 Piece.row) cm.2)] I ⟨⟨gw, map_get gx⟩, J⟩ (AO.d (Yd.indexU 3 (m := di.1) I I I I I I I gz (map_get dj)) I (AO.act [3] I (AX.storeU 3 di.1 0 I I I (map_get dj) I I I I (le_ble I) I (us_set (x := cm.2) I) (AO.nil (AW.region (AO.r 2 [.k 0 (bp + 1 : Nat)] I ⟨cast_wr gp ck, J⟩ ?_)))))))
 obtain rfl := oi h
 refine AO.nil ?_
 exact lg ⟨I, I⟩ [0, 1, 2, 3, 4, 5, 6, 7]
 rintro bq s ob ⟨rfl, rfl⟩ he
 subst he
 have h := go
 have g0 : decide (((A.2.2.length : Nat) : Int) < (A.2.2.length : Int)) = false := by simp
 refine AW.z I (AW.seqG (fun jm jn => (AW.condK (v := false) I g0 (AW.exit ?_))))
 exact lg ⟨bq, h, I, I⟩ [0, 1, 2, 3, 4, 5, 6, 7]
 rintro s ob ⟨O, h, rfl, rfl⟩
 unfold L.zthj.J14 at h
 refine AW.seqG (fun jo g1 => (AW.region (AO.q 1 I (AO.d (Yd.lenUM 7 I I I I) I (AO.q 1 I (AO.nil ?_))))))
 subst g1
 refine AW.block (AW.usMax 7 I (fun cn => ?_))
 replace cn : p.2.2.length ≤ 9223372036854775806 := by rw [List.length_map] at cn; omega
 obtain ⟨jp, g2, g3⟩ := ob_some h
 clear h
 refine AW.forJY g2 [(3, _), (4, _), (6, _), (12, _), (13, _), (14, _), (15, _), (23, _), (31, _), (80, _), (81, _), (82, _), (224, _), (225, _)] ⟨I, I, I, I, I, I, I, I, I, I, I, I, I, I, J⟩ (fun (br : Nat) (E : (List (List Piece)) × (List (List Piece))) s ob => s = [(226, .V (br : Int))] ∧ ob = [.arr t 32 6 1 [Network.row b], .arr u 46 3 1 [Plan.row e], .us g 35 1 (E.1.map (rL 2 Piece.row)), .us i 35 1 (O.map (rL 2 Piece.row)), .us n 35 1 (E.2.map (rL 2 Piece.row)), .us B 3 1 (w.1.map rI), .us F 3 1 (A.2.2.map rI), .us H 3 1 (p.2.2.map rI)]) ⟨I, I⟩ ⟨I, J⟩ ⟨[0, 1, 2, 3, 4, 5, 6, 7], I, by decide⟩ ?_ ?_
 rintro br E dk s ob g4 ⟨rfl, rfl⟩ h
 unfold L.zthj.B15 at h
 have g5 : decide ((br : Int) < (p.2.2.length : Int)) = true := decide_eq_true (by omega)
 refine AW.z I (AW.seqG (fun jq g6 => (AW.condK (v := true) I g5 (AW.skip ?_))))
 subst g6
 refine AW.seq (AW.block (AW.seqG (fun jr g7 => ?_)))
 obtain ⟨az, g8, h⟩ := ob_some h
 obtain ⟨g9, dl⟩ := ix_some g8
 refine AW.region (AO.q 1 I (AO.d (Yd.indexU 7 (m := az.1) I I I I I I I g9 (map_get dl)) I (AO.d (Yd.loadU 7 az.1 0 I I I (map_get dl) I (y := .V az.2) I) I (AO.q 2 I (AO.nil ?_)))))
 subst g7
 refine AW.seqG (fun js ha => ?_)
 obtain ⟨co, hb, h⟩ := ob_some h
 obtain ⟨hc, hd⟩ := ix_some hb
 obtain ⟨cp, hf, h⟩ := ob_some h
 obtain ⟨hg, hh⟩ := ix_some hf
 refine AW.formL 6 I (fun hi => (AW.rd (pd 15 0 []) [1] [_] I (AP.q 2 I (AP.op I (Yp.lenUf I I I hi) I (AP.r 12 [.x 2 co.1 ((rL 2 Piece.row) co.2), .o 5 0, .x 7 cp.1 (rI cp.2)] I ⟨⟨hg, map_get hh⟩, I, ⟨hc, map_get hd⟩, J⟩ (AP.ofAO (AO.nil ?_)))))))
 subst ha
 refine AW.cutX (fun s ob => ∃ (cq : List Piece), L.zthj.J16 E az cp cq = some dk ∧ s = [(36, .list 2 (cq.map Piece.row))] ∧ ob = [.arr t 32 6 1 [Network.row b], .arr u 46 3 1 [Plan.row e], .us g 35 1 (E.1.map (rL 2 Piece.row)), .us i 35 1 (O.map (rL 2 Piece.row)), .us n 35 1 (E.2.map (rL 2 Piece.row)), .us B 3 1 (w.1.map rI), .us F 3 1 (A.2.2.map rI), .us H 3 1 (p.2.2.map rI)]) [(3, _), (4, _), (6, _), (12, _), (13, _), (14, _), (15, _), (23, _), (31, _), (35, _), (37, _), (80, _), (81, _), (82, _), (224, _), (225, _), (226, _)] ⟨I, I, I, I, I, I, I, I, I, I, I, I, I, I, I, I, I, J⟩ ?_ ?_
 refine AW.z I (AW.ch h I ?_ ?_)
 intro hj h
 obtain ⟨bs, hk, h⟩ := ob_some h
 refine AW.region (AO.q 1 I (AO.act [] I (AX.call0 I I I (L.zyjz_ok _ _ hk) dS ?_)))
 rintro _ _ ⟨hl, rfl, rfl⟩
 refine AO.q 1 I (AO.ghost (Ghost.freeze [8] (K := [.us hl 66 2 (bs.map Piece.row)]) I [(36, .list 2 (bs.map Piece.row)), (247, .list 2 (bs.map Piece.row))] ⟨⟨_, I, .us 0 I⟩, ⟨_, I, .us 0 I⟩, J⟩ (ob' := [.arr t 32 6 1 [Network.row b], .arr u 46 3 1 [Plan.row e], .us g 35 1 (E.1.map (rL 2 Piece.row)), .us i 35 1 (O.map (rL 2 Piece.row)), .us n 35 1 (E.2.map (rL 2 Piece.row)), .us B 3 1 (w.1.map rI), .us F 3 1 (A.2.2.map rI), .us H 3 1 (p.2.2.map rI)]) (.rest _)) (AO.nil ?_))
 exact lg ⟨bs, h, I, I⟩ [0, 1, 2, 3, 4, 5, 6, 7]
 intro hj h
 refine AW.skip ?_
 exact lg ⟨co.2, h, I, I⟩ [0, 1, 2, 3, 4, 5, 6, 7]
 rintro s ob ⟨cq, h, rfl, rfl⟩
 unfold L.zthj.J16 at h
 refine AW.z I (AW.seqG (fun jt hm => ?_))
 obtain ⟨Y, hn, h⟩ := ob_some h
 obtain ⟨dm, bu⟩ := ix_some hn
 obtain ⟨M, ho, h⟩ := ob_some h
 refine AW.region (AO.q 4 I (AO.d (Yd.indexU 2 (m := Y.1) I I I I I I I dm (map_get bu)) I (AO.d (Yd.loadU 2 Y.1 0 I I I (map_get bu) I (y := .list 2 (Y.2.map Piece.row)) I) I (AO.q 2 I (AO.act [] I (AX.call0 I I I (L.ziwy_ok _ _ _ _ ho) dS ?_))))))
 rintro _ _ ⟨hp, cr, rfl, rfl⟩
 refine AO.q 3 I (AO.d (Yd.indexU 2 (m := Y.1) I I I I I I I dm (map_get bu)) I (AO.ghost (Ghost.freeze [8] (K := [.us hp 66 2 (M.1.map Piece.row)]) I [(258, .list 2 (M.1.map Piece.row))] ⟨⟨_, I, .us 0 I⟩, J⟩ (ob' := [.arr t 32 6 1 [Network.row b], .arr u 46 3 1 [Plan.row e], .us g 35 1 (E.1.map (rL 2 Piece.row)), .us i 35 1 (O.map (rL 2 Piece.row)), .us n 35 1 (E.2.map (rL 2 Piece.row)), .us B 3 1 (w.1.map rI), .us F 3 1 (A.2.2.map rI), .us H 3 1 (p.2.2.map rI), .us cr 66 2 (M.2.map Piece.row)]) (.rest _)) (AO.act [2] I (AX.storeU 2 Y.1 0 I I I (map_get bu) I I I I (le_ble I) I (us_set (x := M.1) I) (AO.q 1 I (AO.nil ?_))))))
 subst hm
 refine AW.cutX (fun s ob => ∃ (ai : List Piece) (bv : Value), L.zthj.J17 E az Y M ai = some dk ∧ s = [(38, .v bv)] ∧ ob = [.arr t 32 6 1 [Network.row b], .arr u 46 3 1 [Plan.row e], .us g 35 1 ((E.1.set Y.1 M.1).map (rL 2 Piece.row)), .us i 35 1 (O.map (rL 2 Piece.row)), .us n 35 1 (E.2.map (rL 2 Piece.row)), .us B 3 1 (w.1.map rI), .us F 3 1 (A.2.2.map rI), .us H 3 1 (p.2.2.map rI), .us bv 66 2 (ai.map Piece.row)]) [(3, _), (4, _), (6, _), (12, _), (13, _), (14, _), (15, _), (23, _), (31, _), (35, _), (80, _), (81, _), (82, _), (224, _), (225, _), (226, _)] ⟨I, I, I, I, I, I, I, I, I, I, I, I, I, I, I, I, J⟩ ?_ ?_
 refine AW.z I (AW.ch h I ?_ ?_)
 intro hq h
 obtain ⟨hr, hs, h⟩ := ob_some h
 refine AW.region (AO.q 1 I (AO.ghost (Ghost.freeze [8] (K := [.us cr 66 2 (M.2.map Piece.row)]) I [(38, .list 2 (M.2.map Piece.row)), (259, .list 2 (M.2.map Piece.row)), (263, .list 2 (M.2.map Piece.row))] ⟨⟨_, I, .us 0 I⟩, ⟨_, I, .us 0 I⟩, ⟨_, I, .us 0 I⟩, J⟩ (ob' := [.arr t 32 6 1 [Network.row b], .arr u 46 3 1 [Plan.row e], .us g 35 1 ((E.1.set Y.1 M.1).map (rL 2 Piece.row)), .us i 35 1 (O.map (rL 2 Piece.row)), .us n 35 1 (E.2.map (rL 2 Piece.row)), .us B 3 1 (w.1.map rI), .us F 3 1 (A.2.2.map rI), .us H 3 1 (p.2.2.map rI)]) (.rest _)) (AO.act [] I (AX.call0 I I I (L.zyjz_ok _ _ hs) dS ?_))))
 rintro _ _ ⟨ht, rfl, rfl⟩
 refine AO.q 1 I (AO.nil ?_)
 exact lg ⟨hr, ht, h, I, I⟩ [0, 1, 2, 3, 4, 5, 6, 7, 8]
 intro hq h
 refine AW.skip ?_
 exact lg ⟨M.2, cr, h, I, I⟩ [0, 1, 2, 3, 4, 5, 6, 7, 8]
 rintro s ob ⟨ai, bv, h, rfl, rfl⟩
 unfold L.zthj.J17 at h
 obtain ⟨dn, hu, h⟩ := ob_some h
 obtain ⟨hv, dp⟩ := ix_some hu
 refine AW.region (AO.q 3 I (AO.d (Yd.indexU 4 (m := dn.1) I I I I I I I hv (map_get dp)) I (AO.ghost (Ghost.freeze [8] (K := [.us bv 66 2 (ai.map Piece.row)]) I [(38, .list 2 (ai.map Piece.row)), (267, .list 2 (ai.map Piece.row))] ⟨⟨_, I, .us 0 I⟩, ⟨_, I, .us 0 I⟩, J⟩ (ob' := [.arr t 32 6 1 [Network.row b], .arr u 46 3 1 [Plan.row e], .us g 35 1 ((E.1.set Y.1 M.1).map (rL 2 Piece.row)), .us i 35 1 (O.map (rL 2 Piece.row)), .us n 35 1 (E.2.map (rL 2 Piece.row)), .us B 3 1 (w.1.map rI), .us F 3 1 (A.2.2.map rI), .us H 3 1 (p.2.2.map rI)]) (.rest _)) (AO.act [4] I (AX.storeU 4 dn.1 0 I I I (map_get dp) I I I I (le_ble I) I (us_set (x := ai) I) (AO.nil (AW.region (AO.r 2 [.k 0 (br + 1 : Nat)] I ⟨cast_wr g4 cn, J⟩ ?_))))))))
 obtain rfl := oi h
 refine AO.nil ?_
 exact lg ⟨I, I⟩ [0, 1, 2, 3, 4, 5, 6, 7]
 rintro E s ob ⟨rfl, rfl⟩ he
 subst he
 have h := g3
 have hw : decide (((p.2.2.length : Nat) : Int) < (p.2.2.length : Int)) = false := by simp
 refine AW.z I (AW.seqG (fun ju jv => (AW.condK (v := false) I hw (AW.exit ?_))))
 exact lg ⟨(E.1, O, E.2, (a.2.2.2 || decide ((X.length : Int) > 200))), h, I, I⟩ [0, 1, 2, 3, 4, 5]
 rintro s ob ⟨aj, h, rfl, rfl⟩
 unfold L.zthj.J11 at h
 refine AW.region (AO.r 2 [.k 0 (ba + 1 : Nat)] I ⟨cast_wr el b8, J⟩ ?_)
 obtain rfl := oi h
 refine AO.nil ?_
 exact lg ⟨I, I⟩ [0, 1, 2, 3, 4, 5]
 rintro a s ob ⟨rfl, rfl⟩ he
 subst he
 have h := ek
 have hx : decide (((w.1.length : Nat) : Int) < (w.1.length : Int)) = false := by simp
 refine AW.z I (AW.seqG (fun jw jx => (AW.condK (v := false) I hx (AW.exit ?_))))
 exact lg ⟨(a.1, a.2.1, a.2.2.1, a.2.2.2), h, I, I⟩ [2, 3, 4]
 rintro s ob ⟨j, h, rfl, rfl⟩
 unfold L.zthj.J3 at h
 refine AW.cutX (fun s ob => ∃ (ct : Bool), L.zthj.J4 j ct = some r ∧ s = [(15, .v (.bool ct))] ∧ ob = [.us g 35 1 (j.1.map (rL 2 Piece.row)), .us i 35 1 (j.2.1.map (rL 2 Piece.row))]) [(12, _), (13, _)] ⟨I, I, J⟩ ?_ ?_
 refine AW.seqG (fun jy hy => (AW.region (AO.q 1 I (AO.d (Yd.lenUM 0 I I I I) I (AO.q 1 I (AO.nil ?_))))))
 subst hy
 refine AW.block (AW.usMax 0 I (fun cu => ?_))
 replace cu : j.1.length ≤ 9223372036854775806 := by rw [List.length_map] at cu; omega
 obtain ⟨jz, hz, h0⟩ := ob_some h
 clear h
 refine AW.forJY hz [(12, _), (13, _), (14, _), (272, _)] ⟨I, I, I, I, J⟩ (fun (bw : Nat) (a0 : Bool) s ob => s = [(273, .V (bw : Int)), (15, .v (.bool a0))] ∧ ob = [.us g 35 1 (j.1.map (rL 2 Piece.row)), .us i 35 1 (j.2.1.map (rL 2 Piece.row)), .us n 35 1 (j.2.2.1.map (rL 2 Piece.row))]) ⟨I, I⟩ ⟨I, I, J⟩ ⟨[0, 1, 2], I, by decide⟩ ?_ ?_
 rintro bw a0 h1 s ob h2 ⟨rfl, rfl⟩ h
 unfold L.zthj.B8 at h
 have h3 : decide ((bw : Int) < (j.1.length : Int)) = true := decide_eq_true (by omega)
 refine AW.z I (AW.seqG (fun j0 h4 => (AW.condK (v := true) I h3 (AW.skip ?_))))
 subst h4
 refine AW.cutX (fun s ob => ∃ (cv : Bool), L.zthj.J9 cv = some h1 ∧ s = [(15, .v (.bool cv))] ∧ ob = [.us g 35 1 (j.1.map (rL 2 Piece.row)), .us i 35 1 (j.2.1.map (rL 2 Piece.row)), .us n 35 1 (j.2.2.1.map (rL 2 Piece.row))]) [(12, _), (13, _), (14, _), (272, _), (273, _)] ⟨I, I, I, I, I, J⟩ ?_ ?_
 refine AW.block (AW.z I (AW.region (AO.q 2 I ?_)))
 rcases bt (a0) with a1 | a1
 replace h := ife_t a1 h
 refine AO.known 277 I a1 (AO.q 16 I (AO.nil ?_))
 exact lg ⟨true, h, I, I⟩ [0, 1, 2]
 replace h := ife_f a1 h
 obtain ⟨Z, h5, h⟩ := ob_some h
 obtain ⟨dq, bx⟩ := ix_some h5
 refine AO.known 277 I a1 ?_
 rcases bt (decide ((Z.2.length : Int) > 200)) with a2 | a2
 replace h := ife_t a2 h
 refine AO.q 2 I (AO.gt I I I (AO.d (Yd.indexU 0 (m := Z.1) I I I I I I I dq (map_get bx)) I (AO.gt I I I (AO.d (Yd.loadU 0 Z.1 0 I I I (map_get bx) I (y := .list 2 (Z.2.map Piece.row)) I) I (AO.r 4 [.l 0 (Z.2.length : Int)] I ⟨len_m, J⟩ (AO.known 285 I a2 (AO.q 8 I (AO.nil ?_))))))))
 exact lg ⟨true, h, I, I⟩ [0, 1, 2]
 replace h := ife_f a2 h
 obtain ⟨a3, h6, h⟩ := ob_some h
 obtain ⟨h7, dr⟩ := ix_some h6
 refine AO.q 2 I (AO.gt I I I (AO.d (Yd.indexU 0 (m := Z.1) I I I I I I I dq (map_get bx)) I (AO.gt I I I (AO.d (Yd.loadU 0 Z.1 0 I I I (map_get bx) I (y := .list 2 (Z.2.map Piece.row)) I) I (AO.r 4 [.l 0 (Z.2.length : Int)] I ⟨len_m, J⟩ (AO.known 285 I a2 (AO.q 2 I (AO.gt I I I (AO.d (Yd.indexU 2 (m := a3.1) I I I I I I I h7 (map_get dr)) I (AO.gt I I I (AO.d (Yd.loadU 2 a3.1 0 I I I (map_get dr) I (y := .list 2 (a3.2.map Piece.row)) I) I (AO.r 4 [.l 0 (a3.2.length : Int)] I ⟨len_m, J⟩ ?_))))))))))))
 refine AO.nil ?_
 exact lg ⟨decide ((a3.2.length : Int) > 200), h, I, I⟩ [0, 1, 2]
 rintro s ob ⟨cv, h, rfl, rfl⟩
 unfold L.zthj.J9 at h
 refine AW.region (AO.r 2 [.k 0 (bw + 1 : Nat)] I ⟨cast_wr h2 cu, J⟩ ?_)
 obtain rfl := oi h
 refine AO.nil ?_
 exact lg ⟨I, I⟩ [0, 1, 2]
 rintro a0 s ob ⟨rfl, rfl⟩ he
 subst he
 have h := h0
 have h8 : decide (((j.1.length : Nat) : Int) < (j.1.length : Int)) = false := by simp
 refine AW.z I (AW.seqG (fun j1 j2 => (AW.condK (v := false) I h8 (AW.exit ?_))))
 exact lg ⟨a0, h, I, I⟩ [0, 1]
 rintro s ob ⟨ct, h, rfl, rfl⟩
 unfold L.zthj.J4 at h
 refine AW.cutX (fun s ob => ∃ (cw : Bool), L.zthj.J5 j cw = some r ∧ s = [(15, .v (.bool cw))] ∧ ob = [.us g 35 1 (j.1.map (rL 2 Piece.row)), .us i 35 1 (j.2.1.map (rL 2 Piece.row))]) [(12, _), (13, _)] ⟨I, I, J⟩ ?_ ?_
 refine AW.seqG (fun j3 h9 => (AW.region (AO.q 1 I (AO.d (Yd.lenUM 1 I I I I) I (AO.q 1 I (AO.nil ?_))))))
 subst h9
 refine AW.block (AW.usMax 1 I (fun cx => ?_))
 replace cx : j.2.1.length ≤ 9223372036854775806 := by rw [List.length_map] at cx; omega
 obtain ⟨j4, ia, ib⟩ := ob_some h
 clear h
 refine AW.forJY ia [(12, _), (13, _), (295, _)] ⟨I, I, I, J⟩ (fun (b0 : Nat) (a4 : Bool) s ob => s = [(296, .V (b0 : Int)), (15, .v (.bool a4))] ∧ ob = [.us g 35 1 (j.1.map (rL 2 Piece.row)), .us i 35 1 (j.2.1.map (rL 2 Piece.row))]) ⟨I, I⟩ ⟨I, I, J⟩ ⟨[0, 1], I, by decide⟩ ?_ ?_
 rintro b0 a4 ic s ob id ⟨rfl, rfl⟩ h
 unfold L.zthj.B6 at h
 have ie : decide ((b0 : Int) < (j.2.1.length : Int)) = true := decide_eq_true (by omega)
 refine AW.z I (AW.seqG (fun j5 ig => (AW.condK (v := true) I ie (AW.skip ?_))))
 subst ig
 refine AW.cutX (fun s ob => ∃ (cy : Bool), L.zthj.J7 cy = some ic ∧ s = [(15, .v (.bool cy))] ∧ ob = [.us g 35 1 (j.1.map (rL 2 Piece.row)), .us i 35 1 (j.2.1.map (rL 2 Piece.row))]) [(12, _), (13, _), (295, _), (296, _)] ⟨I, I, I, I, J⟩ ?_ ?_
 refine AW.block (AW.z I (AW.region (AO.q 2 I ?_)))
 rcases bt (a4) with a5 | a5
 replace h := ife_t a5 h
 refine AO.known 300 I a5 (AO.q 8 I (AO.nil ?_))
 exact lg ⟨true, h, I, I⟩ [0, 1]
 replace h := ife_f a5 h
 obtain ⟨a6, ih, h⟩ := ob_some h
 obtain ⟨ii, ds⟩ := ix_some ih
 refine AO.known 300 I a5 (AO.q 2 I (AO.gt I I I (AO.d (Yd.indexU 1 (m := a6.1) I I I I I I I ii (map_get ds)) I (AO.gt I I I (AO.d (Yd.loadU 1 a6.1 0 I I I (map_get ds) I (y := .list 2 (a6.2.map Piece.row)) I) I (AO.r 4 [.l 0 (a6.2.length : Int)] I ⟨len_m, J⟩ (AO.nil ?_)))))))
 exact lg ⟨decide ((a6.2.length : Int) > 200), h, I, I⟩ [0, 1]
 rintro s ob ⟨cy, h, rfl, rfl⟩
 unfold L.zthj.J7 at h
 refine AW.region (AO.r 2 [.k 0 (b0 + 1 : Nat)] I ⟨cast_wr id cx, J⟩ ?_)
 obtain rfl := oi h
 refine AO.nil ?_
 exact lg ⟨I, I⟩ [0, 1]
 rintro a4 s ob ⟨rfl, rfl⟩ he
 subst he
 have h := ib
 have ij : decide (((j.2.1.length : Nat) : Int) < (j.2.1.length : Int)) = false := by simp
 refine AW.z I (AW.seqG (fun j6 j7 => (AW.condK (v := false) I ij (AW.exit ?_))))
 exact lg ⟨a4, h, I, I⟩ [0, 1]
 rintro s ob ⟨cw, h, rfl, rfl⟩
 unfold L.zthj.J5 at h
 refine AW.seq (AW.z I (AW.ch h I ?_ ?_))
 intro ik h
 refine AW.z I (AW.ghost (Ghost.nilU 35 1) (AW.ghost (Ghost.nilU 35 1) (AW.ghost (Ghost.pick [2, 3] (K := [.us (.slice none 0 0) 35 1 ([].map (rL 2 Piece.row)), .us (.slice none 0 0) 35 1 ([].map (rL 2 Piece.row))]) I (by decide)) ?_)))
 obtain rfl := oi h
 exact AW.ret ⟨.inr I, [_, _, _], [.us (.slice none 0 0) 35 1 ([].map (rL 2 Piece.row)), .us (.slice none 0 0) 35 1 ([].map (rL 2 Piece.row))], ⟨I, I, I, J⟩, sl_c I (sl_c I (sl_n)), ⟨(.slice none 0 0), (.slice none 0 0), I, I⟩⟩
 intro ik h
 refine AW.skip (AW.z I ?_)
 obtain rfl := oi h
 exact AW.ret ⟨.inr I, [_, _, _], [.us g 35 1 (j.1.map (rL 2 Piece.row)), .us i 35 1 (j.2.1.map (rL 2 Piece.row))], ⟨I, I, I, J⟩, sl_c I (sl_c I (sl_n)), ⟨g, i, I, I⟩⟩
end Go.Proofs.YtaliejncdnegeaaGreat
