/- Walks that show what functions of the program compute; printed by a program of ours. No condition. -/
import Derived.Test.YtndfiddakngjdaaL2
import Derived.Test.YtndfiddakngjdaaDl
import Derived.Test.YtndfiddakngjdaaBwIter
namespace Go.Proofs.Ytndfiddakngjdaa
open Go.Aw
set_option linter.unusedVariables false
set_option linter.unusedSimpArgs false
set_option maxRecDepth 100000
set_option maxHeartbeats 4000000

theorem L.leak_shares_ok (a_0 : Segment) (b_1 : Segment) (metered_2 : List Bool) (r : Bool) (h : L.leak_shares a_0 b_1 metered_2 = some r) : ACalls Try.env 75 [.agg (Segment.row a_0), .agg (Segment.row b_1), .list 1 (metered_2.map rB)] [] (fun x new => x = .v (.bool r) ∧ new = []) := by
 refine ACalls.of_body Try.func75 rfl rfl rfl (fun C hC => ?_)
 unfold L.leak_shares at h
 refine AW.seqG (fun y1 hy1 => (AW.region (AO.act [] I (AX.box (cs := Segment.row a_0) (m := 7) I I I (dst_some I) (fun b2 => (AO.act [] I (AX.box (cs := Segment.row b_1) (m := 7) I I I (dst_some I) (fun b3 => (AO.q 1 I (AO.nil ?_))))))))))
 subst hy1
 refine AW.cutX (fun s ob => ∃ (j36 : Unit), L.leak_shares.J1 j36 = some r ∧ s = [] ∧ ob = []) [] trivial ?_ ?_
 refine AW.seqG (fun y37 hy37 => (AW.region (AO.r 4 [.o 1 0, .o 3 0] I ⟨I, I, trivial⟩ (AO.act [] I (AX.buildSlice (sz := 1) (es := ([a_0.From, a_0.To] : List Int).map rI) I I I I I I I I I I I (dst_some I) (fun v38 => (AO.d (Yd.lenUM 2 I I I I) I (AO.q 1 I (AO.nil ?_)))))))))
 subst hy37
 refine AW.block (AW.usMax 2 I (fun hm41 => ?_))
 replace hm41 : ([a_0.From, a_0.To] : List Int).length ≤ 9223372036854775806 := by rw [List.length_map] at hm41; omega
 obtain ⟨o67, hL68, hR69⟩ := ob_some h
 clear h
 refine AW.forIX hL68 [(2, _), (4, _), (13, _), (14, _)] ⟨I, I, I, I, trivial⟩ (fun (k39 : Nat) (st55 : Unit) s ob => s = [(15, .v (.int .i64 (k39 : Int)))] ∧ ob = [.arr b3 42 7 1 [Segment.row b_1], .us v38 3 1 (([a_0.From, a_0.To] : List Int).map rI)]) ⟨I, I⟩ ⟨I, trivial⟩ ⟨[1, 2], I, by decide⟩ ?_ ?_
 rintro k39 st55 r71 s ob hk40 ⟨rfl, rfl⟩ h hb70
 unfold L.leak_shares.B2 at h
 have hk40t : decide ((k39 : Int) < (([a_0.From, a_0.To] : List Int).length : Int)) = true := decide_eq_true (by omega)
 refine AW.z I (AW.seqG (fun y73 hy73 => (AW.condK (v := true) I hk40t (AW.skip ?_))))
 subst hy73
 refine AW.seq (AW.block (AW.seqG (fun y74 hy74 => ?_)))
 obtain ⟨p75, hp76, h⟩ := ob_some h
 obtain ⟨hp76i, hp76x⟩ := ix_some hp76
 refine AW.region (AO.d (Yd.indexU 1 (m := p75.1) I I I I I I I hp76i (map_get hp76x)) I (AO.d (Yd.loadU 1 p75.1 0 I I I (map_get hp76x) I (y := .v (.int .i64 p75.2)) I) I (AO.q 1 I (AO.nil ?_))))
 subst hy74
 refine AW.cutX (fun s ob => ∃ (j81 : Bool), L.leak_shares.J3 j81 = some r71 ∧ s = [(35, .v (.bool j81))] ∧ ob = [.arr b3 42 7 1 [Segment.row b_1], .us v38 3 1 (([a_0.From, a_0.To] : List Int).map rI)]) [(2, _), (4, _), (13, _), (14, _), (15, _)] ⟨I, I, I, I, I, trivial⟩ ?_ ?_
 obtain ⟨p83, hp84, h⟩ := ob_some h
 obtain ⟨hp84i, hp84x⟩ := ix_some hp84
 rcases Bool.eq_false_or_eq_true ((!p83.2)) with hg85 | hg85
 replace h := ife_t hg85 h
 rcases Bool.eq_false_or_eq_true ((p75.2 == b_1.From)) with hg86 | hg86
 replace h := ife_t hg86 h
 refine AW.region (AO.r 6 [.x 2 p83.1 (rB p83.2)] I ⟨⟨hp84i, map_get hp84x⟩, trivial⟩ (AO.known 24 I hg85 (AO.r 5 [.o 2 0] I ⟨I, trivial⟩ (AO.known 29 I hg86 (AO.q 6 I (AO.nil ?_))))))
 exact lg ⟨true, h, I, I⟩ [0, 1]
 replace h := ife_f hg86 h
 refine AW.region (AO.r 6 [.x 2 p83.1 (rB p83.2)] I ⟨⟨hp84i, map_get hp84x⟩, trivial⟩ (AO.known 24 I hg85 (AO.r 5 [.o 2 0] I ⟨I, trivial⟩ (AO.known 29 I hg86 (AO.r 6 [.o 2 0] I ⟨I, trivial⟩ (AO.nil ?_))))))
 exact lg ⟨(p75.2 == b_1.To), h, I, I⟩ [0, 1]
 replace h := ife_f hg85 h
 refine AW.region (AO.r 6 [.x 2 p83.1 (rB p83.2)] I ⟨⟨hp84i, map_get hp84x⟩, trivial⟩ (AO.known 24 I hg85 (AO.q 5 I (AO.skipU I I (dst_some I) (AO.skipU I I (dst_some I) (AO.skipU I I (dst_some I) (AO.skipU I I (dst_some I) (AO.q 2 I (AO.nil ?_)))))))))
 exact lg ⟨false, h, I, I⟩ [0, 1]
 rintro s ob ⟨j81, h, rfl, rfl⟩
 unfold L.leak_shares.J3 at h
 refine AW.ch h I ?_ ?_
 intro hc82 h
 refine AW.z I ?_
 obtain rfl := hb70 _ (Option.some.inj h).symm
 replace h := hR69
 replace h := se_r h
 refine AW.ghost (Ghost.pick [] (K := []) I (by decide)) ?_
 obtain rfl := Option.some.inj h
 exact AW.ret ⟨.inr I, [_], [], ⟨I, trivial⟩, sl_n, I, I⟩
 intro hc82 h
 refine AW.skip (AW.region (AO.r 2 [.k 0 (k39 + 1 : Nat)] I ⟨cast_wr hk40 hm41, trivial⟩ ?_))
 obtain rfl := Option.some.inj h
 refine AO.nil ?_
 exact ⟨_, _, _, I, ⟨I, I⟩, ⟨I, I, I, I, I, trivial⟩, [0, 1], I, by decide⟩
 rintro st55 s ob ⟨rfl, rfl⟩ he
 subst he
 have h := se_l hR69
 have hk40f : decide (((([a_0.From, a_0.To] : List Int).length : Nat) : Int) < (([a_0.From, a_0.To] : List Int).length : Int)) = false := by simp
 refine AW.z I (AW.seqG (fun y88 hy88 => (AW.condK (v := false) I hk40f (AW.exit ?_))))
 exact lg ⟨(), h, I, I⟩ []
 rintro s ob ⟨j36, h, rfl, rfl⟩
 unfold L.leak_shares.J1 at h
 refine AW.z I ?_
 obtain rfl := Option.some.inj h
 exact AW.ret ⟨.inr I, [_], [], ⟨I, trivial⟩, sl_n, I, I⟩

theorem L.leak_join_ok (b0 : Nat) (s0 : List (Int × Int)) (a_1 b_2 : Int) (r : List (Int × Int)) (h : L.leak_join s0 a_1 b_2 = some r) : ACalls Try.env 76 [.v (.map (some b0)), .v (.int .i64 a_1), .v (.int .i64 b_2)] [.raw b0 (mapOb mI s0)] (Gives 1 (fun x os new => x = .tup [] ∧ os = [.raw b0 (mapOb mI r)] ∧ new = [])) := by
  refine ACalls.of_body Try.func76 rfl rfl rfl (fun C hC => ?_)
  unfold L.leak_join at h
  split at h
  case isFalse => cases h
  rename_i hn
  obtain rfl := Option.some.inj h
  obtain ⟨gf, hg⟩ : ∃ gf : Int → Int, gf = fun x : Int => if (x == a_1 || x == b_2) = true then min a_1 b_2 else x := ⟨_, rfl⟩
  refine AW.seq (AW.region (AO.m rfl rfl (AO.act [] rfl (AX.range 0 rfl rfl rfl rfl (dst_some rfl) (fun bi => AO.nil ?_)))))
  refine AW.block ?_
  refine AW.loopW (fun m s ob => ∃ seen : Array Nat, m = unseen seen s0.length ∧ s = [(0, .v (.map (some b0))), (1, .v (.int .i64 a_1)), (2, .v (.int .i64 b_2)), (9, .v (.pointer (some ⟨bi, 0, none⟩)))] ∧ ob = [.raw b0 (mapOb mI (mix gf seen s0)), .raw bi (.mapIter (some b0) (mix gf seen s0).length seen (mix gf seen s0).length)])
    ⟨#[], rfl, rfl, rfl⟩ ⟨⟨rfl, rfl, rfl, rfl, trivial⟩, [0, 1], by rw [mix_nil]; rfl, by decide⟩ ?_
  rintro m s ob ⟨seen, rfl, rfl, rfl⟩
  refine AW.seq (AW.region (AO.act [1] rfl (AX.next 0 1 rfl rfl rfl (dst_some rfl) (fun hall => ?_) (fun j kx hj hs => ?_))))
  · refine AO.q 1 rfl (AO.nil (AW.seq (AW.condK (v := false) rfl rfl (AW.exit ?_))))
    have hm : mix gf seen s0 = s0.map fun kx => (kx.1, gf kx.2) := mix_all (fun j hj => hall j (by rw [mix_len]; exact hj))
    exact ⟨.inl rfl, [], [.raw b0 (mapOb mI (mix gf seen s0))], trivial, sl_c rfl sl_n, ⟨[.raw b0 (mapOb mI (mix gf seen s0))], [], rfl, rfl, rfl, by rw [hm, hg], rfl⟩⟩
  · have hj' : ∃ k0, s0[j]? = some k0 ∧ kx = k0 := by
      rw [mix_get] at hj
      obtain ⟨k0, hk0, rfl⟩ := Option.map_eq_some_iff.1 hj
      exact ⟨k0, hk0, by simp only [hs, Bool.false_eq_true, if_false]⟩
    obtain ⟨k0, hk0, rfl⟩ := hj'
    have hlt : j < s0.length := (List.getElem?_eq_some_iff.1 hk0).1
    have e2 : (mix gf (seen.push j) s0).length = (mix gf seen s0).length := by rw [mix_len, mix_len]
    refine AO.q 1 rfl (AO.nil (AW.seq (AW.condK (v := true) rfl rfl (AW.skip (AW.block ?_)))))
    refine AW.seq (AW.region (AO.d (Yd.entry 0 1 (seen := seen) (j := j) rfl rfl rfl hj) rfl (AO.q 4 rfl (AO.nil ?_))))
    rcases Bool.eq_false_or_eq_true (kx.2 == a_1) with h1 | h1
    · have e1 : mput (mix gf seen s0) kx.1 (min a_1 b_2) = mix gf (seen.push j) s0 := by
        rw [← mix_put hn hk0 hs, hg]; simp only [h1, Bool.true_or, if_true]
      refine AW.seq (AW.region (AO.q 4 rfl (AO.known 18 rfl h1 (AO.q 4 rfl (AO.nil ?_)))))
      refine AW.condK (v := true) rfl rfl ?_
      refine AW.region (AO.q 5 rfl (AO.act [0] rfl (AX.mapUpdate 0 (f := mI) (z := min a_1 b_2) rfl rfl rfl rfl rfl rfl rfl rfl rfl ?_)))
      refine AO.nil ?_
      exact ⟨_, _, _, unseen_push hlt hs, ⟨seen.push j, rfl, rfl, rfl⟩, ⟨rfl, rfl, rfl, rfl, trivial⟩, [0, 1], by rw [e2, ← e1]; rfl, by decide⟩
    · refine AW.seq (AW.region (AO.q 4 rfl (AO.known 18 rfl h1 (AO.q 4 rfl (AO.nil ?_)))))
      refine AW.cond rfl rfl ?_ ?_
      · intro h2
        have e1 : mput (mix gf seen s0) kx.1 (min a_1 b_2) = mix gf (seen.push j) s0 := by
          rw [← mix_put hn hk0 hs, hg]; simp only [h2, Bool.or_true, if_true]
        refine AW.region (AO.q 5 rfl (AO.act [0] rfl (AX.mapUpdate 0 (f := mI) (z := min a_1 b_2) rfl rfl rfl rfl rfl rfl rfl rfl rfl ?_)))
        refine AO.nil ?_
        exact ⟨_, _, _, unseen_push hlt hs, ⟨seen.push j, rfl, rfl, rfl⟩, ⟨rfl, rfl, rfl, rfl, trivial⟩, [0, 1], by rw [e2, ← e1]; rfl, by decide⟩
      · intro h2
        have e1 : mix gf seen s0 = mix gf (seen.push j) s0 := (mix_same hk0 (by rw [hg]; simp only [h1, h2, Bool.or_self, Bool.false_eq_true, if_false])).symm
        refine AW.skip ?_
        exact ⟨_, _, _, unseen_push hlt hs, ⟨seen.push j, rfl, rfl, rfl⟩, ⟨rfl, rfl, rfl, rfl, trivial⟩, [0, 1], by rw [← e1]; rfl, by decide⟩

theorem L.leak_Sections_ok (n_0 : Network) (metered_1 : List Bool) (r : (List (List Int)) × Int) (h : L.leak_Sections n_0 metered_1 = some r) : ACalls Try.env 30 [.agg (Network.row n_0), .list 1 (metered_1.map rB)] [] (fun x new => x = .tup [.list 1 (r.1.map (rL 1 rI)), .v (.int .i64 r.2)] ∧ new = []) := by
 refine ACalls.of_body Try.func30 rfl rfl rfl (fun C hC => ?_)
 unfold L.leak_Sections at h
 refine AW.seqG (fun y1 hy1 => (AW.region (AO.act [] I (AX.box (cs := Network.row n_0) (m := 6) I I I (dst_some I) (fun b2 => (AO.q 2 I (AO.nil ?_)))))))
 subst hy1
 refine AW.seqG (fun y3 hy3 => (AW.seq ?_))
 obtain ⟨r4, hx5, h⟩ := ob_some h
 refine AW.region (AO.r 1 [.o 0 0] I ⟨I, trivial⟩ (AO.c (L.network_Check_ok n_0 _ hx5) (AO.q 1 I (AO.nil (AW.z I (AW.ch h I ?_ ?_))))))
 intro hc6 h
 refine AW.z I (AW.ghost (Ghost.freeze [] (K := []) I [(4, .list 1 ([].map (rL 1 rI)))] ⟨⟨_, I, .nil _⟩, trivial⟩ (ob' := [.arr b2 30 6 1 [Network.row n_0]]) (.rest _)) (AW.ghost (Ghost.pick [] (K := []) I (by decide)) ?_))
 obtain rfl := Option.some.inj h
 exact AW.ret ⟨.inr I, [_, _], [], ⟨I, I, trivial⟩, sl_n, I, I⟩
 intro hc6 h
 refine AW.skip ?_
 subst hy3
 refine AW.seqG (fun y7 hy7 => (AW.zr [.l 1 (metered_1.length : Int), .o 3 0, .l 4 (n_0.Nodes.length : Int)] I ⟨len_m, I, len_m, trivial⟩ (AW.ch h I ?_ ?_)))
 intro hc8 h
 refine AW.z I (AW.ghost (Ghost.freeze [] (K := []) I [(4, .list 1 ([].map (rL 1 rI)))] ⟨⟨_, I, .nil _⟩, trivial⟩ (ob' := [.arr b2 30 6 1 [Network.row n_0]]) (.rest _)) (AW.ghost (Ghost.pick [] (K := []) I (by decide)) ?_))
 obtain rfl := Option.some.inj h
 exact AW.ret ⟨.inr I, [_, _], [], ⟨I, I, trivial⟩, sl_n, I, I⟩
 intro hc8 h
 refine AW.skip ?_
 subst hy7
 refine AW.seqG (fun y9 hy9 => (AW.region (AO.act [] I (AX.makeMap mI (dst_some I) (fun b10 => (AO.q 1 I (AO.nil ?_)))))))
 subst hy9
 refine AW.cutX (fun s ob => ∃ (j211 : List (Int × Int)), L.leak_Sections.J1 n_0 j211 = some r ∧ s = [] ∧ ob = [.arr b2 30 6 1 [Network.row n_0], .raw b10 (mapOb mI j211)]) [(2, _), (7, _)] ⟨I, I, trivial⟩ ?_ ?_
 refine AW.zr [.o 1 0, .l 2 (n_0.Segments.length : Int)] I ⟨len_m, I, trivial⟩ (AW.block (AW.listMax 30 I (fun hm403 => ?_)))
 replace hm403 : n_0.Segments.length ≤ 9223372036854775806 := by rw [List.length_map] at hm403; omega
 obtain ⟨o598, hL599, hR600⟩ := ob_some h
 clear h
 refine AW.forY hL599 [(1, _), (2, _), (7, _), (30, _), (31, _)] ⟨I, I, I, I, I, trivial⟩ (fun (k401 : Nat) (st534 : List (Int × Int)) s ob => s = [(32, .v (.int .i64 (k401 : Int)))] ∧ ob = [.arr b2 30 6 1 [Network.row n_0], .raw b10 (mapOb mI st534)]) ⟨I, I⟩ ⟨I, trivial⟩ ⟨[0, 1], I, by decide⟩ ?_ ?_
 rintro k401 x404 st534 r602 s ob hx405 hk402 ⟨rfl, rfl⟩ h
 unfold L.leak_Sections.B5 at h
 have hk402t : decide ((k401 : Int) < (n_0.Segments.length : Int)) = true := decide_eq_true (by omega)
 refine AW.z I (AW.seqG (fun y604 hy604 => (AW.condK (v := true) I hk402t (AW.skip ?_))))
 subst hy604
 refine AW.cutX (fun s ob => ∃ (j665 : List (Int × Int)), L.leak_Sections.J6 j665 = some r602 ∧ s = [] ∧ ob = [.arr b2 30 6 1 [Network.row n_0], .raw b10 (mapOb mI j665)]) [(1, _), (2, _), (7, _), (30, _), (31, _), (32, _)] ⟨I, I, I, I, I, I, trivial⟩ ?_ ?_
 refine AW.block (AW.seqG (fun y666 hy666 => (AW.region (AO.r 3 [.x 1 k401 (Segment.row x404)] I ⟨⟨I, map_get hx405⟩, trivial⟩ (AO.act [] I (AX.alloc (cs := [.v (.string ⟨#[]⟩), .v (.int .i64 0), .v (.int .i64 0), .v (.int .i64 0), .v (.int .i64 0), .v (.int .i64 0), .v (.slice none 0 0)]) (m := 7) I I I I I (dst_some I) (fun b667 => (AO.q 1 I (AO.act [2] I (AX.store 2 0 0 (es' := [Segment.row x404]) I I I I I I I I (le_ble I) I I (AO.nil ?_)))))))))))
 subst hy666
 refine AW.seqG (fun y668 hy668 => (AW.region (AO.q 3 I (AO.act [1] I (AX.mapUpdate 1 (f := mI) (z := (k401 : Int)) I I I I I I I I I (AO.nil ?_))))))
 subst hy668
 refine AW.z I (AW.block ?_)
 obtain ⟨u673, hx674, h⟩ := ob_some h
 have hm672 : (k401 : Int).toNat ≤ 9223372036854775806 := by have := chk_some hx674; omega
 obtain ⟨o724, hL725, hR726⟩ := ob_some h
 clear h
 refine AW.forJY hL725 [(1, _), (2, _), (7, _), (8, _), (9, _), (30, _), (31, _), (32, _), (40, _)] ⟨I, I, I, I, I, I, I, I, I, trivial⟩ (fun (k670 : Nat) (st708 : List (Int × Int)) s ob => s = [(41, .v (.int .i64 (k670 : Int)))] ∧ ob = [.arr b2 30 6 1 [Network.row n_0], .raw b10 (mapOb mI st708), .arr b667 42 7 1 [Segment.row x404]]) ⟨I, I⟩ ⟨I, trivial⟩ ⟨[0, 1, 2], I, by decide⟩ ?_ ?_
 rintro k670 st708 r728 s ob hk671 ⟨rfl, rfl⟩ h
 unfold L.leak_Sections.B7 at h
 have hk671t : decide ((k670 : Int) < (k401 : Int)) = true := decide_eq_true (by omega)
 refine AW.z I (AW.seqG (fun y730 hy730 => (AW.condK (v := true) I hk671t (AW.skip ?_))))
 subst hy730
 refine AW.cutX (fun s ob => ∃ (j743 : List (Int × Int)), L.leak_Sections.J8 j743 = some r728 ∧ s = [] ∧ ob = [.arr b2 30 6 1 [Network.row n_0], .raw b10 (mapOb mI j743), .arr b667 42 7 1 [Segment.row x404]]) [(1, _), (2, _), (7, _), (8, _), (9, _), (30, _), (31, _), (32, _), (40, _), (41, _)] ⟨I, I, I, I, I, I, I, I, I, I, trivial⟩ ?_ ?_
 refine AW.block (AW.z I (AW.seqG (fun y745 hy745 => ?_)))
 obtain ⟨p746, hp747, h⟩ := ob_some h
 obtain ⟨hp747i, hp747x⟩ := ix_some hp747
 refine AW.region (AO.r 5 [.o 1 0, .x 3 p746.1 (Segment.row p746.2)] I ⟨⟨hp747i, map_get hp747x⟩, I, trivial⟩ (AO.act [] I (AX.alloc (cs := [.v (.string ⟨#[]⟩), .v (.int .i64 0), .v (.int .i64 0), .v (.int .i64 0), .v (.int .i64 0), .v (.int .i64 0), .v (.slice none 0 0)]) (m := 7) I I I I I (dst_some I) (fun b748 => (AO.act [3] I (AX.store 3 0 0 (es' := [Segment.row p746.2]) I I I I I I I I (le_ble I) I I (AO.nil ?_)))))))
 subst hy745
 refine AW.cutX (fun s ob => ∃ (j752 : Bool), L.leak_Sections.J9 k401 k670 st708 j752 = some r728 ∧ s = [(61, .v (.bool j752))] ∧ ob = [.arr b2 30 6 1 [Network.row n_0], .raw b10 (mapOb mI st708), .arr b667 42 7 1 [Segment.row x404]]) [(1, _), (2, _), (7, _), (8, _), (9, _), (10, _), (30, _), (31, _), (32, _), (40, _), (41, _)] ⟨I, I, I, I, I, I, I, I, I, I, I, trivial⟩ ?_ ?_
 obtain ⟨r756, hx757, h⟩ := ob_some h
 rcases Bool.eq_false_or_eq_true (r756) with hg758 | hg758
 replace h := ife_t hg758 h
 refine AW.region (AO.r 3 [.o 0 2, .o 1 3] I ⟨I, I, trivial⟩ (AO.c (L.leak_shares_ok x404 p746.2 metered_1 _ hx757) (AO.q 1 I (AO.known 53 I hg758 (AO.q 2 I (AO.gt I I I (AO.d (Yd.lookup1 1 (f := mI) (z := (0 : Int)) (u := .v (.int .i64 ((mget st708 (k670 : Int)).getD (0 : Int)))) I I I I I I I I I I) I (AO.q 2 I (AO.gt I I I (AO.d (Yd.lookup1 1 (f := mI) (z := (0 : Int)) (u := .v (.int .i64 ((mget st708 (k401 : Int)).getD (0 : Int)))) I I I I I I I I I I) I (AO.q 2 I (AO.nil ?_))))))))))))
 exact lg ⟨(((mget st708 (k670 : Int)).getD (0 : Int)) != ((mget st708 (k401 : Int)).getD (0 : Int))), h, I, I⟩ [0, 1, 2]
 replace h := ife_f hg758 h
 refine AW.region (AO.r 3 [.o 0 2, .o 1 3] I ⟨I, I, trivial⟩ (AO.c (L.leak_shares_ok x404 p746.2 metered_1 _ hx757) (AO.q 1 I (AO.known 53 I hg758 (AO.q 8 I (AO.nil ?_))))))
 exact lg ⟨false, h, I, I⟩ [0, 1, 2]
 rintro s ob ⟨j752, h, rfl, rfl⟩
 unfold L.leak_Sections.J9 at h
 refine AW.ch h I ?_ ?_
 intro hc753 h
 obtain ⟨r754, hx755, h⟩ := ob_some h
 refine AW.region (AO.q 3 I (AO.d (Yd.lookup1 1 (f := mI) (z := (0 : Int)) (u := .v (.int .i64 ((mget st708 (k670 : Int)).getD (0 : Int)))) I I I I I I I I I I) I (AO.q 2 I (AO.d (Yd.lookup1 1 (f := mI) (z := (0 : Int)) (u := .v (.int .i64 ((mget st708 (k401 : Int)).getD (0 : Int)))) I I I I I I I I I I) I (AO.act [1] I (AX.cg [1] (L.leak_join_ok b10 st708 ((mget st708 (k670 : Int)).getD (0 : Int)) ((mget st708 (k401 : Int)).getD (0 : Int)) _ hx755) ?_))))))
 rintro _ _ _ - ⟨rfl, rfl, rfl⟩
 refine AO.nil ?_
 exact lg ⟨r754, h, I, I⟩ [0, 1, 2]
 intro hc753 h
 refine AW.skip ?_
 exact lg ⟨st708, h, I, I⟩ [0, 1, 2]
 rintro s ob ⟨j743, h, rfl, rfl⟩
 unfold L.leak_Sections.J8 at h
 refine AW.region (AO.r 2 [.k 0 (k670 + 1 : Nat)] I ⟨cast_wr hk671 hm672, trivial⟩ ?_)
 obtain rfl := Option.some.inj h
 refine AO.nil ?_
 exact lg ⟨I, I⟩ [0, 1, 2]
 rintro st708 s ob ⟨rfl, rfl⟩ he
 subst he
 have h := hR726
 have hk671f : decide ((((k401 : Int).toNat : Nat) : Int) < (k401 : Int)) = false := by simp
 refine AW.z I (AW.seqG (fun y760 hy760 => (AW.condK (v := false) I hk671f (AW.exit ?_))))
 exact lg ⟨st708, h, I, I⟩ [0, 1]
 rintro s ob ⟨j665, h, rfl, rfl⟩
 unfold L.leak_Sections.J6 at h
 refine AW.region (AO.r 2 [.k 0 (k401 + 1 : Nat)] I ⟨cast_wr hk402 hm403, trivial⟩ ?_)
 obtain rfl := Option.some.inj h
 refine AO.nil ?_
 exact lg ⟨I, I⟩ [0, 1]
 rintro st534 s ob ⟨rfl, rfl⟩ he
 subst he
 have h := hR600
 have hk402f : decide (((n_0.Segments.length : Nat) : Int) < (n_0.Segments.length : Int)) = false := by simp
 refine AW.z I (AW.seqG (fun y762 hy762 => (AW.condK (v := false) I hk402f (AW.exit ?_))))
 exact lg ⟨st534, h, I, I⟩ [0, 1]
 rintro s ob ⟨j211, h, rfl, rfl⟩
 unfold L.leak_Sections.J1 at h
 refine AW.seqG (fun y212 hy212 => (AW.region (AO.act [] I (AX.makeMap mI (dst_some I) (fun b213 => (AO.q 1 I (AO.nil ?_)))))))
 subst hy212
 refine AW.z I (AW.cutX (fun s ob => ∃ (j290 : List (List Int)) (v291 : Value) (vs292 : List Value), L.leak_Sections.J2 j290 = some r ∧ s = [(13, .v v291)] ∧ ob = [.uss v291 22 3 1 vs292 (j290.map fun x => some (x.map rI))]) [] trivial ?_ ?_)
 refine AW.zr [.o 1 0, .l 2 (n_0.Segments.length : Int)] I ⟨len_m, I, trivial⟩ (AW.block (AW.listMax 74 I (fun hm296 => ?_)))
 replace hm296 : n_0.Segments.length ≤ 9223372036854775806 := by rw [List.length_map] at hm296; omega
 refine AW.ghost (Ghost.nilUss 22 3 1) ?_
 obtain ⟨o366, hL367, hR368⟩ := ob_some h
 clear h
 refine AW.forY hL367 [(7, _), (12, _), (75, _)] ⟨I, I, I, trivial⟩ (fun (k294 : Nat) (st343 : (List (Int × Int)) × (List (List Int))) s ob => ∃ (v344 : Value) (vs345 : List Value), s = [(76, .v (.int .i64 (k294 : Int))), (13, .v v344)] ∧ ob = [.raw b10 (mapOb mI j211), .raw b213 (mapOb mI st343.1), .uss v344 22 3 1 vs345 (st343.2.map fun x => some (x.map rI))]) ⟨(.slice none 0 0), [], I, I⟩ ⟨I, I, trivial⟩ ⟨[1, 2, 3], I, by decide⟩ ?_ ?_
 rintro k294 x297 st343 r370 s ob hx298 hk295 ⟨v344, vs345, rfl, rfl⟩ h
 unfold L.leak_Sections.B3 at h
 have hk295t : decide ((k294 : Int) < (n_0.Segments.length : Int)) = true := decide_eq_true (by omega)
 refine AW.z I (AW.seqG (fun y372 hy372 => (AW.condK (v := true) I hk295t (AW.skip ?_))))
 subst hy372
 refine AW.seq (AW.block (AW.z I (AW.seqG (fun y374 hy374 => (AW.region (AO.q 3 I (AO.d (Yd.lookup1 0 (f := mI) (z := (0 : Int)) (u := .v (.int .i64 ((mget j211 (k294 : Int)).getD (0 : Int)))) I I I I I I I I I I) I (AO.d (Yd.lookup2 1 (f := mI) (z := (0 : Int)) (u := .v (.int .i64 ((mget st343.1 ((mget j211 (k294 : Int)).getD (0 : Int))).getD (0 : Int)))) (v := .v (.bool ((mget st343.1 ((mget j211 (k294 : Int)).getD (0 : Int))).isSome))) I I I I I I I I I I I) I (AO.q 5 I (AO.nil ?_))))))))))
 subst hy374
 refine AW.cutX (fun s ob => ∃ (j382 : (List (Int × Int)) × (List (List Int)) × Int) (v383 : Value) (vs384 : List Value), L.leak_Sections.J4 k294 j382 = some r370 ∧ s = [(13, .v v383), (15, .v (.int .i64 j382.2.2))] ∧ ob = [.raw b10 (mapOb mI j211), .raw b213 (mapOb mI j382.1), .uss v383 22 3 1 vs384 (j382.2.1.map fun x => some (x.map rI))]) [(7, _), (12, _), (14, _), (75, _), (76, _)] ⟨I, I, I, I, I, trivial⟩ ?_ ?_
 refine AW.z I (AW.ch h I ?_ ?_)
 intro hc392 h
 refine AW.seq (AW.region (AO.q 1 I (AO.d (Yd.lenUssM 2 I I I I) I (AO.q 1 I (AO.nil (AW.seq (AW.region (AO.q 3 I (AO.d (Yd.lookup1 0 (f := mI) (z := (0 : Int)) (u := .v (.int .i64 ((mget j211 (k294 : Int)).getD (0 : Int)))) I I I I I I I I I I) I (AO.q 1 I (AO.act [1] I (AX.mapUpdate 1 (f := mI) (z := (st343.2.length : Int)) I I I I I I I I I (AO.nil ?_)))))))))))))
 obtain ⟨l394, hx395, h⟩ := ob_some h
 refine AW.region (AO.q 1 I (AO.act [] I (AX.buildSlice (sz := 1) (es := [[.v (.slice none 0 0)]]) I I I I I I I I I I I (dst_some I) (fun v393 => (AO.act [2] I (AX.appendUss 2 I I I I I I I I I (AppSrc.own 3 I I) (nils_len (app_some hx395).1) (app_nil (app_some hx395).2) (dst_some I) (fun v396 vs397 => (AO.q 1 I (AO.nil ?_)))))))))
 exact lg ⟨((mput st343.1 ((mget j211 (k294 : Int)).getD (0 : Int)) (st343.2.length : Int)), l394, (st343.2.length : Int)), v396, vs397, h, I, I⟩ [0, 1, 2]
 intro hc392 h
 refine AW.skip ?_
 exact lg ⟨(st343.1, st343.2, ((mget st343.1 ((mget j211 (k294 : Int)).getD (0 : Int))).getD (0 : Int))), v344, vs345, h, I, I⟩ [0, 1, 2]
 rintro s ob ⟨j382, v383, vs384, h, rfl, rfl⟩
 unfold L.leak_Sections.J4 at h
 obtain ⟨p385, hp386, h⟩ := ob_some h
 obtain ⟨hp386i, hp386x⟩ := ix_some hp386
 obtain ⟨l388, hx389, h⟩ := ob_some h
 refine AW.region (AO.q 4 I (AO.d (Yd.indexUss 2 (m := p385.1) I I I I I I I hp386i (uss_lt hp386x)) I (AO.d (Yd.loadUss 2 (m := p385.1) I I I I (uss_lt hp386x)) I (AO.ghost (Ghost.take 2 p385.1 I (map_get hp386x)) (AO.q 1 I (AO.act [] I (AX.lt 1 (([(k294 : Int)] : List Int).map rI) (AO.act [3] I (AX.ap 3 I hx389 (fun v390 => (AO.d (Yd.indexUss 2 (m := p385.1) I I I I I I I hp386i (uss_lt' hp386x)) I (AO.act [2, 3] I (AX.storeUss 2 3 p385.1 I I I I (hole_get hp386x) I I I (set_none_some _ _ _ _) (AO.nil (AW.region (AO.r 2 [.k 0 (k294 + 1 : Nat)] I ⟨cast_wr hk295 hm296, trivial⟩ ?_))))))))))))))))
 obtain rfl := Option.some.inj h
 refine AO.nil ?_
 exact lg ⟨v383, (vs384.set p385.1 v390), I, I⟩ [0, 1, 2]
 rintro st343 s ob ⟨v344, vs345, rfl, rfl⟩ he
 subst he
 have h := hR368
 have hk295f : decide (((n_0.Segments.length : Nat) : Int) < (n_0.Segments.length : Int)) = false := by simp
 refine AW.z I (AW.seqG (fun y399 hy399 => (AW.condK (v := false) I hk295f (AW.exit ?_))))
 exact lg ⟨st343.2, v344, vs345, h, I, I⟩ [2]
 rintro s ob ⟨j290, v291, vs292, h, rfl, rfl⟩
 unfold L.leak_Sections.J2 at h
 refine AW.z I (AW.ghost (Ghost.freeze [0] (K := [.uss v291 22 3 1 vs292 (j290.map fun x => some (x.map rI))]) I [(13, .list 1 (j290.map (rL 1 rI))), (110, .list 1 (j290.map (rL 1 rI))), (4, .list 1 (j290.map (rL 1 rI)))] ⟨⟨_, I, Lend.ussM 0 I⟩, ⟨_, I, Lend.ussM 0 I⟩, ⟨_, I, Lend.ussM 0 I⟩, trivial⟩ (ob' := []) (.rest _)) ?_)
 obtain rfl := Option.some.inj h
 exact AW.ret ⟨.inr I, [_, _], [], ⟨I, I, trivial⟩, sl_n, I, I⟩

end Go.Proofs.Ytndfiddakngjdaa
