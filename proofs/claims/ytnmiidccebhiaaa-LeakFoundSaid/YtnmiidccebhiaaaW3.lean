/- Walks of functions of the program, printed by a program of ours. No condition. -/
import Derived.Test.YtnmiidccebhiaaaW2
namespace Go.Proofs.Ytnmiidccebhiaaa
open Go.Aw

set_option maxRecDepth 100000 in
set_option maxHeartbeats 1000000 in
theorem accuracy (b : Nat) (S : Ob) (hS : SrcOk S) :
    ACalls Try.env 14 [.v (.pointer (some ⟨b, 0, none⟩))] [(b, S)] fun x fp => ∃ S', fp = [(b, S')] ∧ SrcOk S' ∧ ∃ a, x = .agg (encAcc a) ∧ 0 ≤ a.m ∧ a.m ≤ 100000 ∧ 0 ≤ a.p ∧ a.p ≤ 10 := by
  refine ACalls.of_body Try.func14 rfl rfl rfl (fun C hC => ?_)
  refine AW.seq ?_
  refine AW.region ?_
  refine AO.act [] rfl (AX.alloc rfl rfl rfl rfl rfl (dst_some rfl) (fun b2 => ?_))
  refine AO.nil ?_
  refine AW.seq ?_
  refine AW.region ?_
  refine AO.p (Yp.move rfl) rfl ?_
  refine AO.act [] rfl (AX.buildSlice (sz := 1) rfl rfl rfl rfl rfl rfl rfl rfl rfl rfl rfl (dst_some rfl) (fun b4 => ?_))
  refine AO.frz 4 2 rfl rfl rfl (le_ble rfl) ?_
  refine AO.act [0] rfl (AX.call1 0 rfl rfl rfl rfl (pick_ _ _ (by assumption) [0, 0, 1000, 20000, 100000] (by decide) (by decide)) (dst_some rfl) ?_)
  rintro _ S5 ⟨hS5, r5, rfl, hr5⟩
  simp only [List.mem_cons, List.not_mem_nil, or_false] at hr5
  refine AO.p (Yp.move rfl) rfl ?_
  refine AO.act [] rfl (AX.buildSlice (sz := 1) rfl rfl rfl rfl rfl rfl rfl rfl rfl rfl rfl (dst_some rfl) (fun b7 => ?_))
  refine AO.frz 7 2 rfl rfl rfl (le_ble rfl) ?_
  refine AO.act [0] rfl (AX.call1 0 rfl rfl rfl rfl (pick_ _ _ (by assumption) [0, 0, 1, 10] (by decide) (by decide)) (dst_some rfl) ?_)
  rintro _ S8 ⟨hS8, r8, rfl, hr8⟩
  simp only [List.mem_cons, List.not_mem_nil, or_false] at hr8
  refine AO.p (Yp.build rfl rfl rfl rfl rfl rfl) rfl ?_
  refine AO.act [1] rfl (AX.store 1 0 0 rfl rfl rfl rfl rfl rfl rfl rfl (le_ble rfl) rfl ?_)
  refine AO.nil ?_
  refine AW.ret ?_
  refine ⟨.inr rfl, [_], _, ⟨⟨1, _, _, _, _, _, _, _, rfl, rfl, rfl, rfl, rfl⟩, trivial⟩, sl_c rfl sl_n, ⟨_, rfl, hS8, ⟨r5, r8⟩, rfl, ?_⟩⟩
  dsimp only
  omega

set_option maxRecDepth 100000 in
set_option maxHeartbeats 1000000 in
theorem balances (b : Nat) (S : Ob) (hS : SrcOk S) (most : Int) (hm : 0 ≤ most) (hm2 : most ≤ 300) :
    ACalls Try.env 13 [.v (.pointer (some ⟨b, 0, none⟩)), .v (.int .i64 most)] [(b, S)] fun x fp => ∃ S', fp = [(b, S')] ∧ SrcOk S' ∧ ∃ l : List Bal, x = encBals l ∧ balsOk l ∧ (l.length : Int) ≤ most := by
  refine ACalls.of_body Try.func13 rfl rfl rfl (fun C hC => ?_)
  refine AW.seq ?_
  refine AW.region ?_
  refine AO.p (Yp.assign rfl) rfl ?_
  refine AO.nil ?_
  refine AW.seq ?_
  refine AW.region ?_
  refine AO.p (Yp.assign rfl) rfl ?_
  refine AO.nil ?_
  refine AW.seq ?_
  refine AW.region ?_
  refine AO.p (Yp.move rfl) rfl ?_
  refine AO.act [0] rfl (AX.call1 0 rfl rfl rfl rfl (range_ _ _ (by assumption) _ _ (by omega) (by omega) (by omega)) (dst_some rfl) ?_)
  rintro _ S11 ⟨hS11, r11, rfl, hr11⟩
  refine AO.p (Yp.assign rfl) rfl ?_
  refine AO.nil ?_
  refine AW.seq ?_
  refine AW.region ?_
  refine AO.p (Yp.move rfl) rfl ?_
  refine AO.act [] rfl (AX.buildSlice (sz := 1) rfl rfl rfl rfl rfl rfl rfl rfl rfl rfl rfl (dst_some rfl) (fun b13 => ?_))
  refine AO.frz 13 1 rfl rfl rfl (le_ble rfl) ?_
  refine AO.act [0] rfl (AX.call1 0 rfl rfl rfl rfl (pick_ _ _ (by assumption) [0, 0, 1, 5, 20] (by decide) (by decide)) (dst_some rfl) ?_)
  rintro _ S14 ⟨hS14, r14, rfl, hr14⟩
  simp only [List.mem_cons, List.not_mem_nil, or_false] at hr14
  refine AO.p (Yp.assign rfl) rfl ?_
  refine AO.nil ?_
  refine AW.seq ?_
  refine AW.seq ?_
  refine AW.region ?_
  refine AO.p (Yp.move rfl) rfl ?_
  refine AO.p (Yp.move rfl) rfl ?_
  first
  | refine AO.p (Yp.binI rfl rfl (w64 (by omega))) rfl ?_
  | refine AO.p (Yp.binI rfl rfl rfl) rfl ?_
  refine AO.act [0] rfl (AX.call1 0 rfl rfl rfl rfl (n_ _ _ (by assumption) _ (by omega) (by omega)) (dst_some rfl) ?_)
  rintro _ S18 ⟨hS18, r18, rfl, hr18⟩
  refine AO.p (Yp.assign rfl) rfl ?_
  refine AO.nil ?_
  refine AW.block ?_
  refine AW.loopK [(0, _), (7, _)] ⟨rfl, rfl, trivial⟩ (fun m s ob => ∃ (i pack : Int) (l : List Bal) (S' : Ob), 0 ≤ i ∧ (l.length : Int) + i ≤ most ∧ m = i.toNat ∧ SrcOk S' ∧ balsOk l ∧ 0 ≤ pack ∧ pack ≤ 5000 + 200 * l.length ∧
      ((l = [] ∧ ob = [(b, S')] ∧ s = [(5, .v (.slice none 0 0)), (6, .v (.int .i64 pack)), (8, .v (.int .i64 i))]) ∨
      ∃ b5 cap, l.length ≤ cap ∧ ob = [(b, S'), (b5, .arr 35 3 cap (l.map encBal))] ∧ s = [(5, .v (.slice (some ⟨b5, 0, none⟩) l.length cap)), (6, .v (.int .i64 pack)), (8, .v (.int .i64 i))])) (m := _) (s0 := _) (ob0 := _) (⟨r18, r11, [], S18, by omega, by simp; omega, rfl, hS18, by intro x hx; simp at hx, by omega, by simp; omega, .inl ⟨rfl, rfl, rfl⟩⟩) ⟨rfl, rfl, rfl, trivial⟩ (List.Sublist.refl _) ?_
  rintro m s ob ⟨i, pack, l, S', hi, hli, rfl, hS', ho, hp, hp2, (⟨rfl, rfl, rfl⟩ | ⟨b5, cap, hcap, rfl, rfl⟩)⟩
  ·
    refine AW.seq ?_
    refine AW.seq ?_
    refine AW.region ?_
    refine AO.p (Yp.move rfl) rfl ?_
    refine AO.p (Yp.cmpI rfl rfl rfl) rfl ?_
    refine AO.nil ?_
    refine AW.cond rfl rfl ?_ ?_
    · intro hc1
      replace hc1 := of_decide_eq_true hc1
      refine AW.skip ?_
      refine AW.seq ?_
      refine AW.block ?_
      refine AW.seq ?_
      refine AW.region ?_
      refine AO.p (Yp.move rfl) rfl ?_
      refine AO.act [0] rfl (AX.call1 0 rfl rfl rfl rfl (n_ _ _ (by assumption) _ (by omega) (by omega)) (dst_some rfl) ?_)
      rintro _ S24 ⟨hS24, r24, rfl, hr24⟩
      refine AO.p (Yp.build rfl rfl rfl rfl rfl rfl) rfl ?_
      refine AO.act [] rfl (AX.alloc rfl rfl rfl rfl rfl (dst_some rfl) (fun b9 => ?_))
      refine AO.act [1] rfl (AX.store 1 0 0 rfl rfl rfl rfl rfl rfl rfl rfl (le_ble rfl) rfl ?_)
      refine AO.nil ?_
      refine AW.seq ?_
      refine AW.region ?_
      refine AO.p (Yp.move rfl) rfl ?_
      first
      | refine AO.p (Yp.fieldPtr rfl rfl rfl rfl rfl rfl) rfl ?_
      | refine AO.p (Yp.fieldE rfl rfl rfl rfl rfl rfl rfl) rfl ?_
      refine AO.d (Yd.loadO 1 0 0 rfl rfl rfl rfl rfl rfl) rfl ?_
      first
      | refine AO.p (Yp.binI rfl rfl (w64 (by omega))) rfl ?_
      | refine AO.p (Yp.binI rfl rfl rfl) rfl ?_
      refine AO.act [0] rfl (AX.call1 0 rfl rfl rfl rfl (n_ _ _ (by assumption) _ (by omega) (by omega)) (dst_some rfl) ?_)
      rintro _ S30 ⟨hS30, r30, rfl, hr30⟩
      first
      | refine AO.p (Yp.fieldPtr rfl rfl rfl rfl rfl rfl) rfl ?_
      | refine AO.p (Yp.fieldE rfl rfl rfl rfl rfl rfl rfl) rfl ?_
      refine AO.act [1] rfl (AX.store 1 0 1 rfl rfl rfl rfl rfl rfl rfl rfl (le_ble rfl) rfl ?_)
      refine AO.nil ?_
      refine AW.seq ?_
      refine AW.regionD (.still 0 (.still 1 (.still 2 (.still 3 (.still 4 (.still 5 (.still 6 (.still 7 (.still 8 (.still 9 (.act 10 (.still 11 (.still 12 (.still 13 (.still 14 .nil))))))))))))))) [1] [_] (by kernel_rfl) rfl ?_
      refine AP.op rfl (Yp.move rfl) rfl ?_
      first
      | refine AP.op rfl (Yp.fieldPtr rfl rfl rfl rfl rfl rfl) rfl ?_
      | refine AP.op rfl (Yp.fieldE rfl rfl rfl rfl rfl rfl rfl) rfl ?_
      refine AP.o rfl (Yd.loadO 0 0 0 rfl rfl rfl rfl rfl rfl) rfl ?_
      first
      | refine AP.op rfl (Yp.binI rfl rfl (w64 (by omega))) rfl ?_
      | refine AP.op rfl (Yp.binI rfl rfl rfl) rfl ?_
      first
      | refine AP.op rfl (Yp.fieldPtr rfl rfl rfl rfl rfl rfl) rfl ?_
      | refine AP.op rfl (Yp.fieldE rfl rfl rfl rfl rfl rfl rfl) rfl ?_
      refine AP.o rfl (Yd.loadO 0 0 1 rfl rfl rfl rfl rfl rfl) rfl ?_
      first
      | refine AP.op rfl (Yp.binI rfl rfl (w64 (by omega))) rfl ?_
      | refine AP.op rfl (Yp.binI rfl rfl rfl) rfl ?_
      refine AP.op rfl (Yp.move rfl) rfl ?_
      first
      | refine AP.op rfl (Yp.binI rfl rfl (w64 (by omega))) rfl ?_
      | refine AP.op rfl (Yp.binI rfl rfl rfl) rfl ?_
      refine AP.op rfl (Yp.move rfl) rfl ?_
      refine AP.act [0] rfl rfl rfl (AX.call1 0 rfl rfl rfl rfl (n_ _ _ (by assumption) _ (by omega) (by omega)) (dst_some rfl) ?_)
      rintro _ S42 ⟨hS42, r42, rfl, hr42⟩
      first
      | refine AP.p rfl (Yp.binI rfl rfl (w64 (by omega))) rfl ?_
      | refine AP.p rfl (Yp.binI rfl rfl rfl) rfl ?_
      first
      | refine AP.p rfl (Yp.binI rfl rfl (w64 (by omega))) rfl ?_
      | refine AP.p rfl (Yp.binI rfl rfl rfl) rfl ?_
      refine AP.p rfl (Yp.maxI rfl rfl) rfl ?_
      refine AP.p rfl (Yp.assign rfl) rfl ?_
      refine AP.nil ?_
      refine AW.seq ?_
      refine AW.region ?_
      refine AO.p (Yp.move rfl) rfl ?_
      first
      | refine AO.p (Yp.fieldPtr rfl rfl rfl rfl rfl rfl) rfl ?_
      | refine AO.p (Yp.fieldE rfl rfl rfl rfl rfl rfl rfl) rfl ?_
      refine AO.act [1] rfl (AX.store 1 0 2 rfl rfl rfl rfl rfl rfl rfl rfl (le_ble rfl) rfl ?_)
      refine AO.nil ?_
      refine AW.region ?_
      refine AO.p (Yp.move rfl) rfl ?_
      refine AO.d (Yd.loadO 1 0 0 rfl rfl rfl rfl rfl rfl) rfl ?_
      refine AO.act [] rfl (AX.buildSlice (sz := 3) rfl rfl rfl rfl rfl rfl rfl rfl rfl rfl rfl (dst_some rfl) (fun b50 => ?_))
      first
      | refine AO.act [] rfl (AX.appendN (sz := 3) rfl rfl rfl rfl rfl rfl rfl (AppSrc.own 2 rfl rfl rfl) (le_ble rfl) (le_ble rfl) (le_ble rfl) (dst_some rfl) (fun b51 c51 h51 => ?_))
      | refine AO.act [0] rfl (AX.appendS (sz := 3) 0 rfl rfl rfl rfl rfl rfl rfl rfl (by first | rfl | simp) rfl (AppSrc.own 2 rfl rfl rfl) (app_le (by first | omega | (simp only [List.length_map, List.length_cons, List.length_nil, List.length_append, rows_length]; omega))) (by first | omega | (simp only [List.length_map, List.length_cons, List.length_nil, List.length_append, rows_length]; omega)) (dst_some rfl) (fun b51 c51 h51 => ?_))
      | refine AO.act [1] rfl (AX.appendS (sz := 3) 1 rfl rfl rfl rfl rfl rfl rfl rfl (by first | rfl | simp) rfl (AppSrc.own 2 rfl rfl rfl) (app_le (by first | omega | (simp only [List.length_map, List.length_cons, List.length_nil, List.length_append, rows_length]; omega))) (by first | omega | (simp only [List.length_map, List.length_cons, List.length_nil, List.length_append, rows_length]; omega)) (dst_some rfl) (fun b51 c51 h51 => ?_))
      | refine AO.act [2] rfl (AX.appendS (sz := 3) 2 rfl rfl rfl rfl rfl rfl rfl rfl (by first | rfl | simp) rfl (AppSrc.own 2 rfl rfl rfl) (app_le (by first | omega | (simp only [List.length_map, List.length_cons, List.length_nil, List.length_append, rows_length]; omega))) (by first | omega | (simp only [List.length_map, List.length_cons, List.length_nil, List.length_append, rows_length]; omega)) (dst_some rfl) (fun b51 c51 h51 => ?_))
      | refine AO.act [3] rfl (AX.appendS (sz := 3) 3 rfl rfl rfl rfl rfl rfl rfl rfl (by first | rfl | simp) rfl (AppSrc.own 2 rfl rfl rfl) (app_le (by first | omega | (simp only [List.length_map, List.length_cons, List.length_nil, List.length_append, rows_length]; omega))) (by first | omega | (simp only [List.length_map, List.length_cons, List.length_nil, List.length_append, rows_length]; omega)) (dst_some rfl) (fun b51 c51 h51 => ?_))
      | refine AO.act [4] rfl (AX.appendS (sz := 3) 4 rfl rfl rfl rfl rfl rfl rfl rfl (by first | rfl | simp) rfl (AppSrc.own 2 rfl rfl rfl) (app_le (by first | omega | (simp only [List.length_map, List.length_cons, List.length_nil, List.length_append, rows_length]; omega))) (by first | omega | (simp only [List.length_map, List.length_cons, List.length_nil, List.length_append, rows_length]; omega)) (dst_some rfl) (fun b51 c51 h51 => ?_))
      | refine AO.act [5] rfl (AX.appendS (sz := 3) 5 rfl rfl rfl rfl rfl rfl rfl rfl (by first | rfl | simp) rfl (AppSrc.own 2 rfl rfl rfl) (app_le (by first | omega | (simp only [List.length_map, List.length_cons, List.length_nil, List.length_append, rows_length]; omega))) (by first | omega | (simp only [List.length_map, List.length_cons, List.length_nil, List.length_append, rows_length]; omega)) (dst_some rfl) (fun b51 c51 h51 => ?_))
      refine AO.p (Yp.assign rfl) rfl ?_
      refine AO.nil ?_
      refine AW.region ?_
      refine AO.p (Yp.move rfl) rfl ?_
      first
      | refine AO.p (Yp.binI rfl rfl (w64 (by omega))) rfl ?_
      | refine AO.p (Yp.binI rfl rfl rfl) rfl ?_
      refine AO.p (Yp.assign rfl) rfl ?_
      refine AO.nil ?_
      have hob : balsOk [(⟨r24, r30, max 0 (pack + r24 - r30 - r14 + r42 - 2)⟩ : Bal)] := by
        intro x hx
        simp only [List.mem_singleton] at hx
        subst hx
        unfold Bal.ok vol
        dsimp only
        simp only [List.length_nil] at hp2
        omega
      refine ⟨_, _, _, ?_, ⟨i - 1, max 0 (pack + r24 - r30 - r14 + r42 - 2), [⟨r24, r30, max 0 (pack + r24 - r30 - r14 + r42 - 2)⟩], S42, by omega, by simp at hli ⊢; omega, rfl, hS42, hob, by omega, by simp at hp2 ⊢; omega, .inr ⟨b51, c51, h51, rfl, rfl⟩⟩, ⟨rfl, rfl, rfl, rfl, rfl, trivial⟩, sl_c rfl (sl_d (sl_d (sl_c (ob_es rfl) sl_n)))⟩
      omega
    · intro hc1
      replace hc1 := of_decide_eq_false hc1
      refine AW.nilL 5 3 rfl ?_
      refine AW.exit ?_
      refine AW.seq ?_
      refine AW.region ?_
      refine AO.p (Yp.move rfl) rfl ?_
      refine AO.p (Yp.assign rfl) rfl ?_
      refine AO.nil ?_
      refine AW.ret ?_
      exact ⟨.inr rfl, [_], _, ⟨rfl, trivial⟩, sl_c rfl sl_n, ⟨_, rfl, hS', [], rfl, ho, by simp; omega⟩⟩
  ·
    refine AW.seq ?_
    refine AW.seq ?_
    refine AW.region ?_
    refine AO.p (Yp.move rfl) rfl ?_
    refine AO.p (Yp.cmpI rfl rfl rfl) rfl ?_
    refine AO.nil ?_
    refine AW.cond rfl rfl ?_ ?_
    · intro hc1
      replace hc1 := of_decide_eq_true hc1
      refine AW.skip ?_
      refine AW.seq ?_
      refine AW.block ?_
      refine AW.seq ?_
      refine AW.region ?_
      refine AO.p (Yp.move rfl) rfl ?_
      refine AO.act [0] rfl (AX.call1 0 rfl rfl rfl rfl (n_ _ _ (by assumption) _ (by omega) (by omega)) (dst_some rfl) ?_)
      rintro _ S24 ⟨hS24, r24, rfl, hr24⟩
      refine AO.p (Yp.build rfl rfl rfl rfl rfl rfl) rfl ?_
      refine AO.act [] rfl (AX.alloc rfl rfl rfl rfl rfl (dst_some rfl) (fun b9 => ?_))
      refine AO.act [2] rfl (AX.store 2 0 0 rfl rfl rfl rfl rfl rfl rfl rfl (le_ble rfl) rfl ?_)
      refine AO.nil ?_
      refine AW.seq ?_
      refine AW.region ?_
      refine AO.p (Yp.move rfl) rfl ?_
      first
      | refine AO.p (Yp.fieldPtr rfl rfl rfl rfl rfl rfl) rfl ?_
      | refine AO.p (Yp.fieldE rfl rfl rfl rfl rfl rfl rfl) rfl ?_
      refine AO.d (Yd.loadO 2 0 0 rfl rfl rfl rfl rfl rfl) rfl ?_
      first
      | refine AO.p (Yp.binI rfl rfl (w64 (by omega))) rfl ?_
      | refine AO.p (Yp.binI rfl rfl rfl) rfl ?_
      refine AO.act [0] rfl (AX.call1 0 rfl rfl rfl rfl (n_ _ _ (by assumption) _ (by omega) (by omega)) (dst_some rfl) ?_)
      rintro _ S30 ⟨hS30, r30, rfl, hr30⟩
      first
      | refine AO.p (Yp.fieldPtr rfl rfl rfl rfl rfl rfl) rfl ?_
      | refine AO.p (Yp.fieldE rfl rfl rfl rfl rfl rfl rfl) rfl ?_
      refine AO.act [2] rfl (AX.store 2 0 1 rfl rfl rfl rfl rfl rfl rfl rfl (le_ble rfl) rfl ?_)
      refine AO.nil ?_
      refine AW.seq ?_
      refine AW.regionD (.still 0 (.still 1 (.still 2 (.still 3 (.still 4 (.still 5 (.still 6 (.still 7 (.still 8 (.still 9 (.act 10 (.still 11 (.still 12 (.still 13 (.still 14 .nil))))))))))))))) [2] [_] (by kernel_rfl) rfl ?_
      refine AP.op rfl (Yp.move rfl) rfl ?_
      first
      | refine AP.op rfl (Yp.fieldPtr rfl rfl rfl rfl rfl rfl) rfl ?_
      | refine AP.op rfl (Yp.fieldE rfl rfl rfl rfl rfl rfl rfl) rfl ?_
      refine AP.o rfl (Yd.loadO 0 0 0 rfl rfl rfl rfl rfl rfl) rfl ?_
      first
      | refine AP.op rfl (Yp.binI rfl rfl (w64 (by omega))) rfl ?_
      | refine AP.op rfl (Yp.binI rfl rfl rfl) rfl ?_
      first
      | refine AP.op rfl (Yp.fieldPtr rfl rfl rfl rfl rfl rfl) rfl ?_
      | refine AP.op rfl (Yp.fieldE rfl rfl rfl rfl rfl rfl rfl) rfl ?_
      refine AP.o rfl (Yd.loadO 0 0 1 rfl rfl rfl rfl rfl rfl) rfl ?_
      first
      | refine AP.op rfl (Yp.binI rfl rfl (w64 (by omega))) rfl ?_
      | refine AP.op rfl (Yp.binI rfl rfl rfl) rfl ?_
      refine AP.op rfl (Yp.move rfl) rfl ?_
      first
      | refine AP.op rfl (Yp.binI rfl rfl (w64 (by omega))) rfl ?_
      | refine AP.op rfl (Yp.binI rfl rfl rfl) rfl ?_
      refine AP.op rfl (Yp.move rfl) rfl ?_
      refine AP.act [0] rfl rfl rfl (AX.call1 0 rfl rfl rfl rfl (n_ _ _ (by assumption) _ (by omega) (by omega)) (dst_some rfl) ?_)
      rintro _ S42 ⟨hS42, r42, rfl, hr42⟩
      first
      | refine AP.p rfl (Yp.binI rfl rfl (w64 (by omega))) rfl ?_
      | refine AP.p rfl (Yp.binI rfl rfl rfl) rfl ?_
      first
      | refine AP.p rfl (Yp.binI rfl rfl (w64 (by omega))) rfl ?_
      | refine AP.p rfl (Yp.binI rfl rfl rfl) rfl ?_
      refine AP.p rfl (Yp.maxI rfl rfl) rfl ?_
      refine AP.p rfl (Yp.assign rfl) rfl ?_
      refine AP.nil ?_
      refine AW.seq ?_
      refine AW.region ?_
      refine AO.p (Yp.move rfl) rfl ?_
      first
      | refine AO.p (Yp.fieldPtr rfl rfl rfl rfl rfl rfl) rfl ?_
      | refine AO.p (Yp.fieldE rfl rfl rfl rfl rfl rfl rfl) rfl ?_
      refine AO.act [2] rfl (AX.store 2 0 2 rfl rfl rfl rfl rfl rfl rfl rfl (le_ble rfl) rfl ?_)
      refine AO.nil ?_
      refine AW.region ?_
      refine AO.p (Yp.move rfl) rfl ?_
      refine AO.d (Yd.loadO 2 0 0 rfl rfl rfl rfl rfl rfl) rfl ?_
      refine AO.act [] rfl (AX.buildSlice (sz := 3) rfl rfl rfl rfl rfl rfl rfl rfl rfl rfl rfl (dst_some rfl) (fun b50 => ?_))
      refine AO.act [1] rfl (AX.appendS (sz := 3) 1 rfl rfl rfl rfl rfl rfl rfl rfl (by first | rfl | simp) rfl (AppSrc.own 3 rfl rfl rfl) (app_le (by first | omega | (simp only [List.length_map, List.length_cons, List.length_nil, List.length_append, rows_length]; omega))) (by first | omega | (simp only [List.length_map, List.length_cons, List.length_nil, List.length_append, rows_length]; omega)) (dst_some rfl) (fun b51 c51 h51 => ?_))
      refine AO.p (Yp.assign rfl) rfl ?_
      refine AO.nil ?_
      refine AW.region ?_
      refine AO.p (Yp.move rfl) rfl ?_
      first
      | refine AO.p (Yp.binI rfl rfl (w64 (by omega))) rfl ?_
      | refine AO.p (Yp.binI rfl rfl rfl) rfl ?_
      refine AO.p (Yp.assign rfl) rfl ?_
      refine AO.nil ?_
      have hob : balsOk (l ++ [(⟨r24, r30, max 0 (pack + r24 - r30 - r14 + r42 - 2)⟩ : Bal)]) := by
        intro x hx
        rcases List.mem_append.1 hx with hx | hx
        · exact ho x hx
        simp only [List.mem_singleton] at hx
        subst hx
        unfold Bal.ok vol
        dsimp only
        omega
      simp only [List.length_map, rows_length] at h51
      refine ⟨_, _, _, ?_, ⟨i - 1, max 0 (pack + r24 - r30 - r14 + r42 - 2), l ++ [⟨r24, r30, max 0 (pack + r24 - r30 - r14 + r42 - 2)⟩], S42, by omega, by simp at hli ⊢; omega, rfl, hS42, hob, by omega, by simp; omega, .inr ⟨b51, c51, by simp; omega, rfl, rfl⟩⟩, ⟨get_t ?_, rfl, rfl, rfl, rfl, trivial⟩, sl_c rfl (sl_c (ob_es ?_) sl_n)⟩
      · omega
      · simp only [List.length_map, rows_length, List.length_append, List.length_cons, List.length_nil]
      · rw [List.map_append]; rfl
    · intro hc1
      replace hc1 := of_decide_eq_false hc1
      refine AW.frz 5 1 rfl rfl (by simp) hcap ?_
      refine AW.exit ?_
      refine AW.seq ?_
      refine AW.region ?_
      refine AO.p (Yp.move rfl) rfl ?_
      refine AO.p (Yp.assign rfl) rfl ?_
      refine AO.nil ?_
      refine AW.ret ?_
      exact ⟨.inr rfl, [_], _, ⟨rfl, trivial⟩, sl_c rfl sl_n, ⟨_, rfl, hS', l, rfl, ho, by omega⟩⟩

end Go.Proofs.Ytnmiidccebhiaaa
