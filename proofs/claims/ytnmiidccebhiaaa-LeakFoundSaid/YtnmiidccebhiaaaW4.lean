/- Walks of functions of the program, printed by a program of ours. No condition. -/
import Derived.Test.YtnmiidccebhiaaaW3
namespace Go.Proofs.Ytnmiidccebhiaaa
open Go.Aw


def awkL : List Bal := [⟨0, 0, 9⟩, ⟨8, 5, 9⟩, ⟨8, 5, 9⟩]
theorem awk1 : (if chkL awkL ⟨0, 0⟩ 2 5 = 0 then T.tup [encInts (alarmsTo awkL ⟨0, 0⟩ (2 : Int).toNat 5 (max (2 : Int).toNat awkL.length)), .v (.int .i64 0)] else .tup [.list 1 [], .v (.int .i64 (chkL awkL ⟨0, 0⟩ 2 5))]) = .tup [encInts [2], .v (.int .i64 0)] := by
  rw [if_pos (by decide), show alarmsTo awkL ⟨0, 0⟩ (2 : Int).toNat 5 (max (2 : Int).toNat awkL.length) = [2] from by decide]
theorem awk2 : (if chkL awkL ⟨0, 0⟩ 2 5 = 0 then T.tup [.v (.int .i64 (leastTo awkL ⟨0, 0⟩ (2 : Int).toNat 5 (max (2 : Int).toNat awkL.length))), .v (.int .i64 0)] else .tup [.v (.int .i64 0), .v (.int .i64 (chkL awkL ⟨0, 0⟩ 2 5))]) = .tup [.v (.int .i64 3), .v (.int .i64 0)] := by
  rw [if_pos (by decide), show leastTo awkL ⟨0, 0⟩ (2 : Int).toNat 5 (max (2 : Int).toNat awkL.length) = 3 from by decide]
theorem awk3 : (if chkL awkL ⟨0, 0⟩ 2 6 = 0 then T.tup [encInts (alarmsTo awkL ⟨0, 0⟩ (2 : Int).toNat 6 (max (2 : Int).toNat awkL.length)), .v (.int .i64 0)] else .tup [.list 1 [], .v (.int .i64 (chkL awkL ⟨0, 0⟩ 2 6))]) = .tup [encInts [], .v (.int .i64 0)] := by
  rw [if_pos (by decide), show alarmsTo awkL ⟨0, 0⟩ (2 : Int).toNat 6 (max (2 : Int).toNat awkL.length) = [] from by decide]

set_option maxRecDepth 100000 in
theorem awake : ACalls Try.env 7 [] [] fun x _ => x = .v (.bool true) := by
  refine ACalls.of_body Try.func7 rfl rfl rfl (fun C hC => ?_)
  refine AW.seq ?_
  refine AW.region ?_
  refine AO.p (Yp.assign rfl) rfl ?_
  refine AO.nil ?_
  refine AW.seq ?_
  refine AW.region ?_
  refine AO.p (Yp.build rfl rfl rfl rfl rfl rfl) rfl ?_
  refine AO.p (Yp.build rfl rfl rfl rfl rfl rfl) rfl ?_
  refine AO.p (Yp.build rfl rfl rfl rfl rfl rfl) rfl ?_
  refine AO.act [] rfl (AX.buildSlice (sz := 3) rfl rfl rfl rfl rfl rfl rfl rfl rfl rfl rfl (dst_some rfl) (fun b11 => ?_))
  refine AO.p (Yp.assign rfl) rfl ?_
  refine AO.nil ?_
  refine AW.frz 1 0 rfl rfl rfl (le_ble rfl) ?_
  refine AW.seq ?_
  refine AW.region ?_
  refine AO.p (Yp.move rfl) rfl ?_
  refine AO.p (Yp.build rfl rfl rfl rfl rfl rfl) rfl ?_
  refine AO.act [] rfl (AX.call0 rfl rfl rfl (alarms awkL ⟨0, 0⟩ 2 5) (dst_some rfl) ?_)
  rintro _ ⟨_, rfl⟩
  rw [awk1]
  refine AO.p (Yp.move rfl) rfl ?_
  refine AO.p (Yp.extract rfl rfl) rfl ?_
  refine AO.p (Yp.extract rfl rfl) rfl ?_
  refine AO.p (Yp.assign rfl) rfl ?_
  refine AO.p (Yp.assign rfl) rfl ?_
  refine AO.nil ?_
  refine AW.seq ?_
  refine AW.region ?_
  refine AO.p (Yp.move rfl) rfl ?_
  refine AO.p (Yp.build rfl rfl rfl rfl rfl rfl) rfl ?_
  refine AO.act [] rfl (AX.call0 rfl rfl rfl (least awkL ⟨0, 0⟩ 2 5) (dst_some rfl) ?_)
  rintro _ ⟨_, rfl⟩
  rw [awk2]
  refine AO.p (Yp.move rfl) rfl ?_
  refine AO.p (Yp.extract rfl rfl) rfl ?_
  refine AO.p (Yp.extract rfl rfl) rfl ?_
  refine AO.p (Yp.assign rfl) rfl ?_
  refine AO.p (Yp.assign rfl) rfl ?_
  refine AO.nil ?_
  refine AW.seq ?_
  refine AW.region ?_
  refine AO.p (Yp.move rfl) rfl ?_
  refine AO.p (Yp.build rfl rfl rfl rfl rfl rfl) rfl ?_
  refine AO.act [] rfl (AX.call0 rfl rfl rfl (alarms awkL ⟨0, 0⟩ 2 6) (dst_some rfl) ?_)
  rintro _ ⟨_, rfl⟩
  rw [awk3]
  refine AO.p (Yp.move rfl) rfl ?_
  refine AO.p (Yp.extract rfl rfl) rfl ?_
  refine AO.p (Yp.extract rfl rfl) rfl ?_
  refine AO.p (Yp.assign rfl) rfl ?_
  refine AO.p (Yp.assign rfl) rfl ?_
  refine AO.nil ?_
  refine AW.seq ?_
  refine AW.region ?_
  refine AO.p (Yp.move rfl) rfl ?_
  refine AO.p (Yp.cmpI rfl rfl rfl) rfl ?_
  refine AO.p (Yp.move rfl) rfl ?_
  refine AO.g rfl rfl (dst_some rfl) ?_ ?_
  · intro hg5_3
    first
    | replace hg5_3 := of_decide_eq_true hg5_3
    | skip
    refine AO.p (Yp.move rfl) rfl ?_
    refine AO.g rfl rfl (dst_some rfl) (fun _ => ?_) (fun h => absurd h (by decide))
    refine AO.p (Yp.cmpI rfl rfl rfl) rfl ?_
    first
    | refine AO.p (Yp.pickT rfl rfl) rfl ?_
    | refine AO.p (Yp.pickF rfl rfl) rfl ?_
    | refine AO.p (Yp.pickB rfl rfl rfl) rfl ?_
    refine AO.p (Yp.move rfl) rfl ?_
    refine AO.g rfl rfl (dst_some rfl) ?_ ?_
    · intro hg5_7
      first
      | replace hg5_7 := of_decide_eq_true hg5_7
      | skip
      refine AO.p (Yp.move rfl) rfl ?_
      refine AO.g rfl rfl (dst_some rfl) (fun _ => ?_) (fun h => absurd h (by decide))
      refine AO.p (Yp.cmpI rfl rfl rfl) rfl ?_
      first
      | refine AO.p (Yp.pickT rfl rfl) rfl ?_
      | refine AO.p (Yp.pickF rfl rfl) rfl ?_
      | refine AO.p (Yp.pickB rfl rfl rfl) rfl ?_
      refine AO.p (Yp.move rfl) rfl ?_
      refine AO.g rfl rfl (dst_some rfl) ?_ ?_
      · intro hg5_11
        first
        | replace hg5_11 := of_decide_eq_true hg5_11
        | skip
        refine AO.p (Yp.move rfl) rfl ?_
        refine AO.g rfl rfl (dst_some rfl) (fun _ => ?_) (fun h => absurd h (by decide))
        first
        | refine AO.p (Yp.lenList rfl rfl rfl) rfl ?_
        | refine AO.p (Yp.lenSlice rfl rfl rfl) rfl ?_
        | refine AO.p (Yp.lenString rfl rfl rfl) rfl ?_
        refine AO.g rfl rfl (dst_some rfl) (fun _ => ?_) (fun h => absurd h (by decide))
        refine AO.p (Yp.cmpI rfl rfl rfl) rfl ?_
        first
        | refine AO.p (Yp.pickT rfl rfl) rfl ?_
        | refine AO.p (Yp.pickF rfl rfl) rfl ?_
        | refine AO.p (Yp.pickB rfl rfl rfl) rfl ?_
        refine AO.p (Yp.move rfl) rfl ?_
        refine AO.g rfl rfl (dst_some rfl) ?_ ?_
        · intro hg5_16
          first
          | replace hg5_16 := of_decide_eq_true hg5_16
          | skip
          refine AO.p (Yp.move rfl) rfl ?_
          refine AO.g rfl rfl (dst_some rfl) (fun _ => ?_) (fun h => absurd h (by decide))
          first
          | refine AO.p (Yp.indexE (m := 0) rfl rfl rfl rfl rfl rfl rfl (by first | exact map_get (by assumption) | rfl)) rfl ?_
          | refine AO.p (Yp.indexS (m := 0) rfl rfl rfl rfl rfl rfl (by omega)) rfl ?_
          refine AO.g rfl rfl (dst_some rfl) (fun _ => ?_) (fun h => absurd h (by decide))
          first
          | refine AO.d (Yd.loadE rfl rfl rfl) rfl ?_
          | refine AO.d (Yd.loadO 0 0 0 rfl rfl rfl rfl rfl rfl) rfl ?_
          | refine AO.d (Yd.loadO 1 0 0 rfl rfl rfl rfl rfl rfl) rfl ?_
          | refine AO.d (Yd.loadO 2 0 0 rfl rfl rfl rfl rfl rfl) rfl ?_
          | refine AO.d (Yd.loadO 3 0 0 rfl rfl rfl rfl rfl rfl) rfl ?_
          | refine AO.d (Yd.loadO 4 0 0 rfl rfl rfl rfl rfl rfl) rfl ?_
          | refine AO.d (Yd.loadO 5 0 0 rfl rfl rfl rfl rfl rfl) rfl ?_
          refine AO.g rfl rfl (dst_some rfl) (fun _ => ?_) (fun h => absurd h (by decide))
          refine AO.p (Yp.cmpI rfl rfl rfl) rfl ?_
          first
          | refine AO.p (Yp.pickT rfl rfl) rfl ?_
          | refine AO.p (Yp.pickF rfl rfl) rfl ?_
          | refine AO.p (Yp.pickB rfl rfl rfl) rfl ?_
          refine AO.p (Yp.move rfl) rfl ?_
          refine AO.g rfl rfl (dst_some rfl) ?_ ?_
          · intro hg5_22
            first
            | replace hg5_22 := of_decide_eq_true hg5_22
            | skip
            refine AO.p (Yp.move rfl) rfl ?_
            refine AO.g rfl rfl (dst_some rfl) (fun _ => ?_) (fun h => absurd h (by decide))
            refine AO.p (Yp.cmpI rfl rfl rfl) rfl ?_
            first
            | refine AO.p (Yp.pickT rfl rfl) rfl ?_
            | refine AO.p (Yp.pickF rfl rfl) rfl ?_
            | refine AO.p (Yp.pickB rfl rfl rfl) rfl ?_
            refine AO.p (Yp.move rfl) rfl ?_
            refine AO.g rfl rfl (dst_some rfl) ?_ ?_
            · intro hg5_26
              first
              | replace hg5_26 := of_decide_eq_true hg5_26
              | skip
              refine AO.p (Yp.move rfl) rfl ?_
              refine AO.g rfl rfl (dst_some rfl) (fun _ => ?_) (fun h => absurd h (by decide))
              first
              | refine AO.p (Yp.lenList rfl rfl rfl) rfl ?_
              | refine AO.p (Yp.lenSlice rfl rfl rfl) rfl ?_
              | refine AO.p (Yp.lenString rfl rfl rfl) rfl ?_
              refine AO.g rfl rfl (dst_some rfl) (fun _ => ?_) (fun h => absurd h (by decide))
              refine AO.p (Yp.cmpI rfl rfl rfl) rfl ?_
              first
              | refine AO.p (Yp.pickT rfl rfl) rfl ?_
              | refine AO.p (Yp.pickF rfl rfl) rfl ?_
              | refine AO.p (Yp.pickB rfl rfl rfl) rfl ?_
              refine AO.p (Yp.assign rfl) rfl ?_
              refine AO.nil ?_
              refine AW.ret ?_
              exact ⟨.inr rfl, [_], [], ⟨rfl, trivial⟩, List.nil_sublist _, rfl⟩
            · intro hg5_26
              first
              | replace hg5_26 := of_decide_eq_false hg5_26
              | skip
              exact absurd hg5_26 (by decide)
          · intro hg5_22
            first
            | replace hg5_22 := of_decide_eq_false hg5_22
            | skip
            exact absurd hg5_22 (by decide)
        · intro hg5_16
          first
          | replace hg5_16 := of_decide_eq_false hg5_16
          | skip
          exact absurd hg5_16 (by decide)
      · intro hg5_11
        first
        | replace hg5_11 := of_decide_eq_false hg5_11
        | skip
        exact absurd hg5_11 (by decide)
    · intro hg5_7
      first
      | replace hg5_7 := of_decide_eq_false hg5_7
      | skip
      exact absurd hg5_7 (by decide)
  · intro hg5_3
    first
    | replace hg5_3 := of_decide_eq_false hg5_3
    | skip
    exact absurd hg5_3 (by decide)


theorem upI_mono {a b n : Int} (hn : 0 < n) (h : a ≤ b) : upI a n ≤ upI b n := by
  unfold upI; exact Int.ediv_le_ediv hn (by omega)
theorem prt_mono {v m m' : Int} (hv : 0 ≤ v) (h : m ≤ m') : prt v m ≤ prt v m' := by
  unfold prt
  have h1 : v / 1000000 * m ≤ v / 1000000 * m' := Int.mul_le_mul_of_nonneg_left h (by omega)
  have h2 : v % 1000000 * m ≤ v % 1000000 * m' := Int.mul_le_mul_of_nonneg_left h (by omega)
  have h3 := upI_mono (n := 1000000) (by omega) h2
  omega
theorem wrg_mono {l : List Bal} {c c' : Acc} (ho : balsOk l) (a b : Nat) (h1 : c.m ≤ c'.m) (h2 : c.p ≤ c'.p) : wrg l c a b ≤ wrg l c' a b := by
  unfold wrg
  have k1 := prt_mono (sI_bd (seg_ok ho a b)).1 h1
  have k2 := prt_mono (sO_bd (seg_ok ho a b)).1 h1
  omega
theorem alarms_sub {l : List Bal} {c c' : Acc} {w : Nat} {t t' : Int} (ho : balsOk l) (h1 : c.m ≤ c'.m) (h2 : c.p ≤ c'.p) (h3 : t ≤ t') (N : Nat) : ∀ x, x ∈ alarmsTo l c' w t' N → x ∈ alarmsTo l c w t N := by
  intro x hx
  unfold alarmsTo at *
  obtain ⟨b, hb, rfl⟩ := List.mem_map.1 hx
  refine List.mem_map.2 ⟨b, ?_, rfl⟩
  rw [List.mem_filter] at *
  refine ⟨hb.1, ?_⟩
  have hb2 := hb.2
  simp only [Bool.and_eq_true, decide_eq_true_eq, alarmAt] at *
  have := wrg_mono ho (b - w) b h1 h2
  omega
theorem least_mono {l : List Bal} {c c' : Acc} {w : Nat} {t : Int} (ho : balsOk l) (hw : 0 < w) (h1 : c.m ≤ c'.m) (h2 : c.p ≤ c'.p) : ∀ N, leastTo l c w t N ≤ leastTo l c' w t N
  | 0 => by simp [leastTo]
  | b + 1 => by
    have ih := least_mono (t := t) ho hw h1 h2 b
    have k := wrg_mono ho (b - w) b h1 h2
    simp only [leastTo]
    split
    · have := Int.ediv_le_ediv (show (0 : Int) < w by omega) (show 2 * wrg l c (b - w) b + t ≤ 2 * wrg l c' (b - w) b + t by omega)
      omega
    · omega
theorem found_y {P : List Int} {k : Nat} {x y : Int} (hy : P[k]? = some y) (h : x ∈ P.take k) : true = decide (x ∈ P.take (k + 1)) := by
  rw [take_one hy]; simp [h]
theorem found_n {P : List Int} {k : Nat} {x y : Int} (hy : P[k]? = some y) (h : x ∉ P.take k) : (y == x) = decide (x ∈ P.take (k + 1)) := by
  rw [take_one hy, Bool.eq_iff_iff]
  simp only [beq_iff_eq, decide_eq_true_eq, List.mem_append, List.mem_singleton]
  exact ⟨fun e => .inr e.symm, fun e => e.elim (fun e => absurd e h) Eq.symm⟩
theorem chkE_0 {l : List Bal} (h1 : l.length ≤ 400) (h2 : balsOk l) : chkE l = 0 := by
  unfold chkE
  rw [if_neg (by omega), if_neg]
  simp only [Bool.not_eq_true, List.any_eq_false, Bal.bad, Bool.or_eq_false_iff, Bool.not_eq_false', volB_iff]
  exact fun x hx => by have := h2 x hx; simp [volB_iff, this.1, this.2.1, this.2.2]
theorem good_1 {c : Acc} (h : c.ok) : c.good = true := by
  unfold Acc.ok at h
  simp only [Acc.good, Bool.and_eq_true, decide_eq_true_eq, volB_iff]
  exact ⟨⟨h.1, h.2.1⟩, h.2.2⟩

set_option maxRecDepth 100000 in
set_option maxHeartbeats 1000000 in
theorem leakThresholds (l : List Int) (w t m : Int) (hl : ∀ n, n ∈ l → i64 n) (hll : l.length ≤ 17592186044416) (hw : 0 ≤ w ∧ w ≤ 255) (ht : 0 ≤ t ∧ t ≤ 255) (hm : 0 ≤ m ∧ m ≤ 255) :
    ACalls Try.env 4 [encInts l, .v (.int .u8 w), .v (.int .u8 t), .v (.int .u8 m)] [] fun x _ => x = .v (.bool true) := by
  refine ACalls.of_body Try.func4 rfl rfl rfl (fun C hC => ?_)
  refine AW.seq ?_
  refine AW.region ?_
  refine AO.p (Yp.assign rfl) rfl ?_
  refine AO.nil ?_
  refine AW.seq ?_
  refine AW.seq ?_
  refine AW.region ?_
  refine AO.p (Yp.move rfl) rfl ?_
  refine AO.act [] rfl (AX.call0 rfl rfl rfl (few_ _) (dst_some rfl) ?_)
  rintro _ ⟨_, rfl⟩
  refine AO.p (Yp.not rfl) rfl ?_
  refine AO.nil ?_
  refine AW.cond rfl rfl ?_ ?_
  · intro hc1
    skip
    refine AW.seq ?_
    refine AW.region ?_
    refine AO.act [] rfl (AX.call0 rfl rfl rfl (awake) (dst_some rfl) ?_)
    rintro _ ⟨_, rfl⟩
    refine AO.p (Yp.assign rfl) rfl ?_
    refine AO.nil ?_
    refine AW.ret ?_
    exact ⟨.inr rfl, [_], [], ⟨rfl, trivial⟩, List.nil_sublist _, rfl⟩
  · intro hc1
    skip
    refine AW.skip ?_
    refine AW.seq ?_
    refine AW.region ?_
    refine AO.p (Yp.move rfl) rfl ?_
    refine AO.act [] rfl (AX.callN rfl rfl rfl (new_ _ (by assumption) (by omega)) (dst_some rfl) ?_)
    rintro _ b31 S31 ⟨hS31, rfl⟩
    refine AO.p (Yp.assign rfl) rfl ?_
    refine AO.nil ?_
    refine AW.seq ?_
    refine AW.region ?_
    refine AO.p (Yp.move rfl) rfl ?_
    refine AO.act [0] rfl (AX.call1 0 rfl rfl rfl rfl (balances _ _ (by assumption) _ (by omega) (by omega)) (dst_some rfl) ?_)
    rintro _ S33 ⟨hS33, l33, rfl, hl33⟩
    refine AO.p (Yp.move rfl) rfl ?_
    refine AO.act [0] rfl (AX.call1 0 rfl rfl rfl rfl (accuracy _ _ (by assumption)) (dst_some rfl) ?_)
    rintro _ S35 ⟨hS35, a35, rfl, ha35⟩
    refine AO.act [] rfl (AX.alloc rfl rfl rfl rfl rfl (dst_some rfl) (fun b11 => ?_))
    refine AO.p (Yp.assign rfl) rfl ?_
    refine AO.act [1] rfl (AX.store 1 0 0 rfl rfl rfl rfl rfl rfl rfl rfl (le_ble rfl) rfl ?_)
    refine AO.nil ?_
    refine AW.seq ?_
    refine AW.region ?_
    refine AO.p (Yp.move rfl) rfl ?_
    first
    | refine AO.p (Yp.convI rfl rfl rfl rfl (w64 (by omega))) rfl ?_
    | refine AO.p (Yp.convI rfl rfl rfl rfl (w8 (by omega))) rfl ?_
    first
    | refine AO.p (Yp.remN rfl rfl (by omega) (by omega)) rfl ?_
    | refine AO.p (Yp.binI rfl rfl ⟨by omega, rfl⟩) rfl ?_
    first
    | refine AO.p (Yp.binI rfl rfl (w64 (by omega))) rfl ?_
    | refine AO.p (Yp.binI rfl rfl rfl) rfl ?_
    refine AO.p (Yp.move rfl) rfl ?_
    first
    | refine AO.p (Yp.convI rfl rfl rfl rfl (w64 (by omega))) rfl ?_
    | refine AO.p (Yp.convI rfl rfl rfl rfl (w8 (by omega))) rfl ?_
    first
    | refine AO.p (Yp.remN rfl rfl (by omega) (by omega)) rfl ?_
    | refine AO.p (Yp.binI rfl rfl ⟨by omega, rfl⟩) rfl ?_
    refine AO.p (Yp.assign rfl) rfl ?_
    refine AO.p (Yp.assign rfl) rfl ?_
    refine AO.nil ?_
    refine AW.cutK (fun s ob => ∃ (S' : Ob) (r : Int) (b14 : Nat), SrcOk S' ∧ 0 ≤ r ∧ r < 3 ∧ s = [(14, .v (.pointer (some ⟨b14, 0, none⟩)))] ∧ ob = [(b31, S'), (b11, .arr 31 2 1 [encAcc a35]), (b14, .arr 31 2 1 [encAcc ⟨min 100000 (a35.m + m), a35.p + r⟩])]) [(9, _), (10, _), (11, _), (12, _), (13, _)] ⟨rfl, rfl, rfl, rfl, rfl, trivial⟩ ?_ ?_
    ·
      refine AW.regionD (.still 0 (.still 1 (.still 2 (.still 3 (.still 4 (.still 5 (.still 6 (.still 7 (.still 8 (.two 9 12 (.still 10 (.still 11 (.act 12 (.act 13 .nil)))) (.act 9 (.still 10 (.still 11 (.act 13 .nil)))))))))))))) [1] [_] (by kernel_rfl) rfl ?_
      first
      | refine AP.op rfl (Yp.fieldPtr rfl rfl rfl rfl rfl rfl) rfl ?_
      | refine AP.op rfl (Yp.fieldE rfl rfl rfl rfl rfl rfl rfl) rfl ?_
      refine AP.o rfl (Yd.loadO 0 0 0 rfl rfl rfl rfl rfl rfl) rfl ?_
      refine AP.op rfl (Yp.move rfl) rfl ?_
      first
      | refine AP.op rfl (Yp.convI rfl rfl rfl rfl (w64 (by omega))) rfl ?_
      | refine AP.op rfl (Yp.convI rfl rfl rfl rfl (w8 (by omega))) rfl ?_
      first
      | refine AP.op rfl (Yp.binI rfl rfl (w64 (by omega))) rfl ?_
      | refine AP.op rfl (Yp.binI rfl rfl rfl) rfl ?_
      refine AP.op rfl (Yp.minI rfl rfl) rfl ?_
      first
      | refine AP.op rfl (Yp.fieldPtr rfl rfl rfl rfl rfl rfl) rfl ?_
      | refine AP.op rfl (Yp.fieldE rfl rfl rfl rfl rfl rfl rfl) rfl ?_
      refine AP.o rfl (Yd.loadO 0 0 1 rfl rfl rfl rfl rfl rfl) rfl ?_
      refine AP.op rfl (Yp.move rfl) rfl ?_
      refine AP.two ?_ ?_
      ·
        refine AP.act [0] rfl rfl rfl (AX.call1 0 rfl rfl rfl rfl (n_ _ _ (by assumption) _ (by omega) (by omega)) (dst_some rfl) ?_)
        rintro _ S52 ⟨hS52, r52, rfl, hr52⟩
        first
        | refine AP.p rfl (Yp.binI rfl rfl (w64 (by omega))) rfl ?_
        | refine AP.p rfl (Yp.binI rfl rfl rfl) rfl ?_
        refine AP.p rfl (Yp.build rfl rfl rfl rfl rfl rfl) rfl ?_
        refine AP.act [] rfl rfl rfl (AX.alloc rfl rfl rfl rfl rfl (dst_some rfl) (fun b14 => ?_))
        refine AP.act [2] rfl rfl rfl (AX.store 2 0 0 rfl rfl rfl rfl rfl rfl rfl rfl (le_ble rfl) rfl ?_)
        refine AP.nil ?_
        refine ⟨_, _, ⟨S52, r52, _, hS52, hr52.1, hr52.2, rfl, rfl⟩, ⟨rfl, rfl, rfl, rfl, rfl, rfl, trivial⟩, sl_c rfl (sl_c rfl (sl_c rfl sl_n))⟩
      ·
        refine AP.act [] rfl rfl rfl (AX.alloc rfl rfl rfl rfl rfl (dst_some rfl) (fun b14 => ?_))
        refine AP.act [0] rfl rfl rfl (AX.call1 0 rfl rfl rfl rfl (n_ _ _ (by assumption) _ (by omega) (by omega)) (dst_some rfl) ?_)
        rintro _ S52 ⟨hS52, r52, rfl, hr52⟩
        first
        | refine AP.p rfl (Yp.binI rfl rfl (w64 (by omega))) rfl ?_
        | refine AP.p rfl (Yp.binI rfl rfl rfl) rfl ?_
        refine AP.p rfl (Yp.build rfl rfl rfl rfl rfl rfl) rfl ?_
        refine AP.act [2] rfl rfl rfl (AX.store 2 0 0 rfl rfl rfl rfl rfl rfl rfl rfl (le_ble rfl) rfl ?_)
        refine AP.nil ?_
        refine ⟨_, _, ⟨S52, r52, _, hS52, hr52.1, hr52.2, rfl, rfl⟩, ⟨rfl, rfl, rfl, rfl, rfl, rfl, trivial⟩, sl_c rfl (sl_c rfl (sl_c rfl sl_n))⟩
    ·
      rintro s ob ⟨S52, r52, b14, hS52, hr52, hr52b, rfl, rfl⟩
      refine AW.seq ?_
      refine AW.region ?_
      have ht2 : 0 ≤ t % 30 ∧ t % 30 < 30 := by omega
      have hw2 : 0 ≤ w % 10 ∧ w % 10 < 10 := by omega
      have he := chkE_0 (l := l33) (by omega) hl33.1
      have hg1 := good_1 (c := a35) (by unfold Acc.ok vol; omega)
      have hk1 : chkL l33 a35 (1 + w % 10) (t % 30) = 0 := (chkL_0 he hg1 (by omega) (by omega)).symm
      refine AO.p (Yp.move rfl) rfl ?_
      refine AO.d (Yd.loadO 1 0 0 rfl rfl rfl rfl rfl rfl) rfl ?_
      refine AO.p (Yp.move rfl) rfl ?_
      refine AO.p (Yp.move rfl) rfl ?_
      refine AO.act [] rfl (AX.call0 rfl rfl rfl (alarms l33 a35 (1 + w % 10) (t % 30)) (dst_some rfl) ?_)
      rintro _ ⟨_, rfl⟩
      rw [if_pos hk1]
      refine AO.p (Yp.move rfl) rfl ?_
      refine AO.p (Yp.extract rfl rfl) rfl ?_
      refine AO.p (Yp.extract rfl rfl) rfl ?_
      refine AO.p (Yp.assign rfl) rfl ?_
      refine AO.p (Yp.assign rfl) rfl ?_
      refine AO.nil ?_
      refine AW.seq ?_
      refine AW.regionD (.still 0 (.still 1 (.still 2 (.still 3 (.still 4 (.act 5 (.still 6 (.act 7 (.still 8 (.still 9 (.still 10 (.still 11 (.still 12 .nil))))))))))))) [2] [_] (by kernel_rfl) rfl ?_
      refine AP.op rfl (Yp.move rfl) rfl ?_
      refine AP.o rfl (Yd.loadO 0 0 0 rfl rfl rfl rfl rfl rfl) rfl ?_
      refine AP.op rfl (Yp.move rfl) rfl ?_
      refine AP.op rfl (Yp.move rfl) rfl ?_
      refine AP.op rfl (Yp.move rfl) rfl ?_
      refine AP.act [0] rfl rfl rfl (AX.call1 0 rfl rfl rfl rfl (n_ _ _ (by assumption) _ (by omega) (by omega)) (dst_some rfl) ?_)
      rintro _ S69 ⟨hS69, r69, rfl, hr69⟩
      first
      | refine AP.p rfl (Yp.binI rfl rfl (w64 (by omega))) rfl ?_
      | refine AP.p rfl (Yp.binI rfl rfl rfl) rfl ?_
      refine AP.act [] rfl rfl rfl (AX.call0 rfl rfl rfl (alarms l33 ⟨min 100000 (a35.m + m), a35.p + r52⟩ (1 + w % 10) (t % 30 + r69)) (dst_some rfl) ?_)
      rintro _ ⟨_, rfl⟩
      have hg2 := good_1 (c := ⟨min 100000 (a35.m + m), a35.p + r52⟩) (by unfold Acc.ok vol; dsimp only; omega)
      have hk2 : chkL l33 ⟨min 100000 (a35.m + m), a35.p + r52⟩ (1 + w % 10) (t % 30 + r69) = 0 := (chkL_0 he hg2 (by omega) (by omega)).symm
      rw [if_pos hk2]
      refine AP.p rfl (Yp.move rfl) rfl ?_
      refine AP.p rfl (Yp.extract rfl rfl) rfl ?_
      refine AP.p rfl (Yp.extract rfl rfl) rfl ?_
      refine AP.p rfl (Yp.assign rfl) rfl ?_
      refine AP.p rfl (Yp.assign rfl) rfl ?_
      refine AP.nil ?_
      refine AW.seq ?_
      refine AW.region ?_
      refine AO.p (Yp.move rfl) rfl ?_
      refine AO.d (Yd.loadO 1 0 0 rfl rfl rfl rfl rfl rfl) rfl ?_
      refine AO.p (Yp.move rfl) rfl ?_
      refine AO.p (Yp.move rfl) rfl ?_
      refine AO.act [] rfl (AX.call0 rfl rfl rfl (least l33 a35 (1 + w % 10) (t % 30)) (dst_some rfl) ?_)
      rintro _ ⟨_, rfl⟩
      rw [if_pos hk1]
      refine AO.p (Yp.move rfl) rfl ?_
      refine AO.p (Yp.extract rfl rfl) rfl ?_
      refine AO.p (Yp.extract rfl rfl) rfl ?_
      refine AO.p (Yp.assign rfl) rfl ?_
      refine AO.p (Yp.assign rfl) rfl ?_
      refine AO.nil ?_
      refine AW.seq ?_
      refine AW.region ?_
      refine AO.p (Yp.move rfl) rfl ?_
      refine AO.d (Yd.loadO 2 0 0 rfl rfl rfl rfl rfl rfl) rfl ?_
      refine AO.p (Yp.move rfl) rfl ?_
      refine AO.p (Yp.move rfl) rfl ?_
      refine AO.act [] rfl (AX.call0 rfl rfl rfl (least l33 ⟨min 100000 (a35.m + m), a35.p + r52⟩ (1 + w % 10) (t % 30)) (dst_some rfl) ?_)
      rintro _ ⟨_, rfl⟩
      have hk3 : chkL l33 ⟨min 100000 (a35.m + m), a35.p + r52⟩ (1 + w % 10) (t % 30) = 0 := (chkL_0 he hg2 (by omega) (by omega)).symm
      rw [if_pos hk3]
      have hlm := least_mono (c := a35) (c' := ⟨min 100000 (a35.m + m), a35.p + r52⟩) (t := t % 30) hl33.1 (show 0 < (1 + w % 10).toNat by omega) (by dsimp only; omega) (by dsimp only; omega) (max (1 + w % 10).toNat l33.length)
      have hsub := alarms_sub (c := a35) (c' := ⟨min 100000 (a35.m + m), a35.p + r52⟩) (w := (1 + w % 10).toNat) (t := t % 30) (t' := t % 30 + r69) hl33.1 (by dsimp only; omega) (by dsimp only; omega) (by omega) (max (1 + w % 10).toNat l33.length)
      have hpl := alarmsTo_len l33 a35 (1 + w % 10).toNat (t % 30) (max (1 + w % 10).toNat l33.length)
      have hql := alarmsTo_len l33 ⟨min 100000 (a35.m + m), a35.p + r52⟩ (1 + w % 10).toNat (t % 30 + r69) (max (1 + w % 10).toNat l33.length)
      generalize hP : alarmsTo l33 a35 (1 + w % 10).toNat (t % 30) (max (1 + w % 10).toNat l33.length) = P at hsub hpl ⊢
      generalize hQ : alarmsTo l33 ⟨min 100000 (a35.m + m), a35.p + r52⟩ (1 + w % 10).toNat (t % 30 + r69) (max (1 + w % 10).toNat l33.length) = Q at hsub hql ⊢
      refine AO.p (Yp.move rfl) rfl ?_
      refine AO.p (Yp.extract rfl rfl) rfl ?_
      refine AO.p (Yp.extract rfl rfl) rfl ?_
      refine AO.p (Yp.assign rfl) rfl ?_
      refine AO.p (Yp.assign rfl) rfl ?_
      refine AO.nil ?_
      refine AW.seq ?_
      refine AW.seq ?_
      refine AW.region ?_
      refine AO.p (Yp.move rfl) rfl ?_
      refine AO.p (Yp.cmpI rfl rfl rfl) rfl ?_
      refine AO.p (Yp.move rfl) rfl ?_
      refine AO.g rfl rfl (dst_some rfl) ?_ ?_
      · intro hg11_3
        first
        | replace hg11_3 := of_decide_eq_false hg11_3
        | skip
        refine AO.p (Yp.move rfl) rfl ?_
        refine AO.g rfl rfl (dst_some rfl) (fun _ => ?_) (fun h => absurd h (by decide))
        refine AO.p (Yp.cmpI rfl rfl rfl) rfl ?_
        first
        | refine AO.p (Yp.pickT rfl rfl) rfl ?_
        | refine AO.p (Yp.pickF rfl rfl) rfl ?_
        | refine AO.p (Yp.pickB rfl rfl rfl) rfl ?_
        refine AO.p (Yp.move rfl) rfl ?_
        refine AO.g rfl rfl (dst_some rfl) ?_ ?_
        · intro hg11_7
          first
          | replace hg11_7 := of_decide_eq_false hg11_7
          | skip
          refine AO.p (Yp.move rfl) rfl ?_
          refine AO.g rfl rfl (dst_some rfl) (fun _ => ?_) (fun h => absurd h (by decide))
          refine AO.p (Yp.cmpI rfl rfl rfl) rfl ?_
          first
          | refine AO.p (Yp.pickT rfl rfl) rfl ?_
          | refine AO.p (Yp.pickF rfl rfl) rfl ?_
          | refine AO.p (Yp.pickB rfl rfl rfl) rfl ?_
          refine AO.p (Yp.move rfl) rfl ?_
          refine AO.g rfl rfl (dst_some rfl) ?_ ?_
          · intro hg11_11
            first
            | replace hg11_11 := of_decide_eq_false hg11_11
            | skip
            refine AO.p (Yp.move rfl) rfl ?_
            refine AO.g rfl rfl (dst_some rfl) (fun _ => ?_) (fun h => absurd h (by decide))
            refine AO.p (Yp.cmpI rfl rfl rfl) rfl ?_
            first
            | refine AO.p (Yp.pickT rfl rfl) rfl ?_
            | refine AO.p (Yp.pickF rfl rfl) rfl ?_
            | refine AO.p (Yp.pickB rfl rfl rfl) rfl ?_
            refine AO.p (Yp.move rfl) rfl ?_
            refine AO.g rfl rfl (dst_some rfl) ?_ ?_
            · intro hg11_15
              first
              | replace hg11_15 := of_decide_eq_false hg11_15
              | skip
              refine AO.p (Yp.move rfl) rfl ?_
              refine AO.g rfl rfl (dst_some rfl) (fun _ => ?_) (fun h => absurd h (by decide))
              refine AO.p (Yp.move rfl) rfl ?_
              refine AO.g rfl rfl (dst_some rfl) (fun _ => ?_) (fun h => absurd h (by decide))
              refine AO.p (Yp.cmpI rfl rfl rfl) rfl ?_
              first
              | refine AO.p (Yp.pickT rfl rfl) rfl ?_
              | refine AO.p (Yp.pickF rfl rfl) rfl ?_
              | refine AO.p (Yp.pickB rfl rfl rfl) rfl ?_
              refine AO.nil ?_
              refine AW.cond rfl rfl ?_ ?_
              · intro hc2
                exact absurd (of_decide_eq_true hc2) (by omega)
              · intro hc2
                skip
                refine AW.skip ?_
                refine AW.seq ?_
                refine AW.seq ?_
                refine AW.region ?_
                refine AO.p (Yp.assign rfl) rfl ?_
                refine AO.nil ?_
                refine AW.block ?_
                refine AW.loopK [(15, _), (17, _)] ⟨rfl, rfl, trivial⟩ (fun m s ob => ∃ i : Nat, i ≤ Q.length ∧ m = Q.length - i ∧ ob = [] ∧ s = [(23, .v (.int .i64 i))]) (m := _) (s0 := _) (ob0 := _) (⟨0, by omega, rfl, rfl, rfl⟩) ⟨rfl, trivial⟩ (List.nil_sublist _) ?_
                rintro m s ob ⟨i, hi, rfl, rfl, rfl⟩
                refine AW.seq ?_
                refine AW.seq ?_
                refine AW.region ?_
                refine AO.p (Yp.move rfl) rfl ?_
                refine AO.p (Yp.move rfl) rfl ?_
                first
                | refine AO.p (Yp.lenList rfl rfl rfl) rfl ?_
                | refine AO.p (Yp.lenSlice rfl rfl rfl) rfl ?_
                | refine AO.p (Yp.lenString rfl rfl rfl) rfl ?_
                refine AO.p (Yp.cmpI rfl rfl rfl) rfl ?_
                refine AO.nil ?_
                refine AW.cond rfl rfl ?_ ?_
                · intro hc3
                  replace hc3 := of_decide_eq_true hc3
                  simp only [List.length_map] at hc3
                  obtain ⟨x, hx⟩ := get_ex (show i < Q.length by omega)
                  have hxp := hsub x (List.mem_of_getElem? hx)
                  refine AW.skip ?_
                  refine AW.seq ?_
                  refine AW.block ?_
                  refine AW.seq ?_
                  refine AW.region ?_
                  refine AO.p (Yp.assign rfl) rfl ?_
                  refine AO.nil ?_
                  refine AW.seq ?_
                  refine AW.seq ?_
                  refine AW.region ?_
                  refine AO.p (Yp.assign rfl) rfl ?_
                  refine AO.nil ?_
                  refine AW.block ?_
                  refine AW.loopK [(15, _), (17, _), (23, _)] ⟨rfl, rfl, rfl, trivial⟩ (fun m s ob => ∃ (k : Nat) (fd : Bool), k ≤ P.length ∧ m = P.length - k ∧ ob = [] ∧ s = [(24, .v (.bool fd)), (25, .v (.int .i64 k))] ∧ fd = decide (x ∈ P.take k)) (m := _) (s0 := _) (ob0 := _) (⟨0, false, by omega, rfl, rfl, rfl, by simp⟩) ⟨rfl, rfl, trivial⟩ (List.Sublist.refl _) ?_
                  rintro m s ob ⟨k, fd, hk, rfl, rfl, rfl, hfd⟩
                  refine AW.seq ?_
                  refine AW.seq ?_
                  refine AW.region ?_
                  refine AO.p (Yp.move rfl) rfl ?_
                  refine AO.p (Yp.move rfl) rfl ?_
                  first
                  | refine AO.p (Yp.lenList rfl rfl rfl) rfl ?_
                  | refine AO.p (Yp.lenSlice rfl rfl rfl) rfl ?_
                  | refine AO.p (Yp.lenString rfl rfl rfl) rfl ?_
                  refine AO.p (Yp.cmpI rfl rfl rfl) rfl ?_
                  refine AO.nil ?_
                  refine AW.cond rfl rfl ?_ ?_
                  · intro hc4
                    replace hc4 := of_decide_eq_true hc4
                    simp only [List.length_map] at hc4
                    obtain ⟨y, hy⟩ := get_ex (show k < P.length by omega)
                    refine AW.skip ?_
                    refine AW.seq ?_
                    refine AW.block ?_
                    refine AW.regionD (.still 0 (.still 1 (.still 2 (.still 3 (.still 4 (.still 5 (.still 6 (.still 7 (.still 8 (.still 9 (.still 10 (.still 11 (.still 12 .nil))))))))))))) [] [] (by kernel_rfl) rfl ?_
                    refine AP.op rfl (Yp.move rfl) rfl ?_
                    refine AP.op rfl (Yp.move rfl) rfl ?_
                    refine AP.split 122 rfl ?_ ?_
                    · intro hg20_2
                      first
                      | replace hg20_2 := of_decide_eq_true hg20_2
                      | skip
                      refine AP.skip rfl rfl rfl rfl rfl (dst_some rfl) ?_
                      refine AP.skip rfl rfl rfl rfl rfl (dst_some rfl) ?_
                      refine AP.skip rfl rfl rfl rfl rfl (dst_some rfl) ?_
                      refine AP.skip rfl rfl rfl rfl rfl (dst_some rfl) ?_
                      refine AP.skip rfl rfl rfl rfl rfl (dst_some rfl) ?_
                      refine AP.skip rfl rfl rfl rfl rfl (dst_some rfl) ?_
                      refine AP.skip rfl rfl rfl rfl rfl (dst_some rfl) ?_
                      refine AP.skip rfl rfl rfl rfl rfl (dst_some rfl) ?_
                      refine AP.skip rfl rfl rfl rfl rfl (dst_some rfl) ?_
                      first
                      | refine AP.p rfl (Yp.pickT rfl rfl) rfl ?_
                      | refine AP.p rfl (Yp.pickF rfl rfl) rfl ?_
                      | refine AP.p rfl (Yp.pickB rfl rfl rfl) rfl ?_
                      refine AP.p rfl (Yp.assign rfl) rfl ?_
                      refine AP.nil ?_
                      refine AW.region ?_
                      refine AO.p (Yp.move rfl) rfl ?_
                      first
                      | refine AO.p (Yp.binI rfl rfl (w64 (by omega))) rfl ?_
                      | refine AO.p (Yp.binI rfl rfl rfl) rfl ?_
                      refine AO.p (Yp.assign rfl) rfl ?_
                      refine AO.nil ?_
                      exact ⟨_, _, _, by omega, ⟨k + 1, true, by omega, rfl, rfl, rfl, found_y hy (of_decide_eq_true (hfd.symm.trans hg20_2))⟩, ⟨rfl, get_i (by simp), rfl, rfl, rfl, trivial⟩, List.nil_sublist _⟩
                    · intro hg20_2
                      first
                      | replace hg20_2 := of_decide_eq_false hg20_2
                      | skip
                      refine AP.oldG rfl rfl rfl rfl ((Yp.move rfl).yd) (dst_some rfl) ?_
                      refine AP.oldG rfl rfl rfl rfl ((Yp.move rfl).yd) (dst_some rfl) ?_
                      refine AP.oldG rfl rfl rfl rfl ((Yp.indexE rfl rfl rfl rfl rfl rfl rfl (map_get (by assumption))).yd) (dst_some rfl) ?_
                      first
                      | refine AP.oldG rfl rfl rfl rfl (Yd.loadE rfl rfl rfl) (dst_some rfl) ?_
                      | refine AP.oldG rfl rfl rfl rfl (Yd.loadO 0 0 0 rfl rfl rfl rfl rfl rfl) (dst_some rfl) ?_
                      | refine AP.oldG rfl rfl rfl rfl (Yd.loadO 1 0 0 rfl rfl rfl rfl rfl rfl) (dst_some rfl) ?_
                      | refine AP.oldG rfl rfl rfl rfl (Yd.loadO 2 0 0 rfl rfl rfl rfl rfl rfl) (dst_some rfl) ?_
                      | refine AP.oldG rfl rfl rfl rfl (Yd.loadO 3 0 0 rfl rfl rfl rfl rfl rfl) (dst_some rfl) ?_
                      | refine AP.oldG rfl rfl rfl rfl (Yd.loadO 4 0 0 rfl rfl rfl rfl rfl rfl) (dst_some rfl) ?_
                      | refine AP.oldG rfl rfl rfl rfl (Yd.loadO 5 0 0 rfl rfl rfl rfl rfl rfl) (dst_some rfl) ?_
                      refine AP.oldG rfl rfl rfl rfl ((Yp.move rfl).yd) (dst_some rfl) ?_
                      refine AP.oldG rfl rfl rfl rfl ((Yp.move rfl).yd) (dst_some rfl) ?_
                      refine AP.oldG rfl rfl rfl rfl ((Yp.indexE rfl rfl rfl rfl rfl rfl rfl (map_get (by assumption))).yd) (dst_some rfl) ?_
                      first
                      | refine AP.oldG rfl rfl rfl rfl (Yd.loadE rfl rfl rfl) (dst_some rfl) ?_
                      | refine AP.oldG rfl rfl rfl rfl (Yd.loadO 0 0 0 rfl rfl rfl rfl rfl rfl) (dst_some rfl) ?_
                      | refine AP.oldG rfl rfl rfl rfl (Yd.loadO 1 0 0 rfl rfl rfl rfl rfl rfl) (dst_some rfl) ?_
                      | refine AP.oldG rfl rfl rfl rfl (Yd.loadO 2 0 0 rfl rfl rfl rfl rfl rfl) (dst_some rfl) ?_
                      | refine AP.oldG rfl rfl rfl rfl (Yd.loadO 3 0 0 rfl rfl rfl rfl rfl rfl) (dst_some rfl) ?_
                      | refine AP.oldG rfl rfl rfl rfl (Yd.loadO 4 0 0 rfl rfl rfl rfl rfl rfl) (dst_some rfl) ?_
                      | refine AP.oldG rfl rfl rfl rfl (Yd.loadO 5 0 0 rfl rfl rfl rfl rfl rfl) (dst_some rfl) ?_
                      refine AP.oldG rfl rfl rfl rfl ((Yp.cmpI rfl rfl rfl).yd) (dst_some rfl) ?_
                      first
                      | refine AP.p rfl (Yp.pickT rfl rfl) rfl ?_
                      | refine AP.p rfl (Yp.pickF rfl rfl) rfl ?_
                      | refine AP.p rfl (Yp.pickB rfl rfl rfl) rfl ?_
                      refine AP.p rfl (Yp.assign rfl) rfl ?_
                      refine AP.nil ?_
                      refine AW.region ?_
                      refine AO.p (Yp.move rfl) rfl ?_
                      first
                      | refine AO.p (Yp.binI rfl rfl (w64 (by omega))) rfl ?_
                      | refine AO.p (Yp.binI rfl rfl rfl) rfl ?_
                      refine AO.p (Yp.assign rfl) rfl ?_
                      refine AO.nil ?_
                      exact ⟨_, _, _, by omega, ⟨k + 1, _, by omega, rfl, rfl, rfl, found_n hy (of_decide_eq_false (hfd.symm.trans hg20_2))⟩, ⟨rfl, get_i (by simp), rfl, rfl, rfl, trivial⟩, List.nil_sublist _⟩
                  · intro hc4
                    replace hc4 := of_decide_eq_false hc4
                    simp only [List.length_map] at hc4
                    have hke : k = P.length := by omega
                    subst hke
                    rw [List.take_length] at hfd
                    refine AW.exit ?_
                    refine AW.seq ?_
                    refine AW.region ?_
                    refine AO.p (Yp.move rfl) rfl ?_
                    refine AO.p (Yp.not rfl) rfl ?_
                    refine AO.nil ?_
                    refine AW.cond rfl rfl ?_ ?_
                    · intro hc5
                      exact absurd hc5 (by subst hfd; simp [hxp])
                    · intro hc5
                      skip
                      refine AW.skip ?_
                      refine AW.region ?_
                      refine AO.p (Yp.move rfl) rfl ?_
                      first
                      | refine AO.p (Yp.binI rfl rfl (w64 (by omega))) rfl ?_
                      | refine AO.p (Yp.binI rfl rfl rfl) rfl ?_
                      refine AO.p (Yp.assign rfl) rfl ?_
                      refine AO.nil ?_
                      exact ⟨_, _, _, by omega, ⟨i + 1, by omega, rfl, rfl, rfl⟩, ⟨get_i (by simp), rfl, rfl, trivial⟩, List.nil_sublist _⟩
                · intro hc3
                  skip
                  refine AW.exit ?_
                  refine AW.seq ?_
                  refine AW.region ?_
                  refine AO.act [] rfl (AX.call0 rfl rfl rfl (awake) (dst_some rfl) ?_)
                  rintro _ ⟨_, rfl⟩
                  refine AO.p (Yp.assign rfl) rfl ?_
                  refine AO.nil ?_
                  refine AW.ret ?_
                  exact ⟨.inr rfl, [_], [], ⟨rfl, trivial⟩, List.nil_sublist _, rfl⟩
            · intro hg11_15
              first
              | replace hg11_15 := of_decide_eq_true hg11_15
              | skip
              exact absurd hg11_15 (by decide)
          · intro hg11_11
            first
            | replace hg11_11 := of_decide_eq_true hg11_11
            | skip
            exact absurd hg11_11 (by decide)
        · intro hg11_7
          first
          | replace hg11_7 := of_decide_eq_true hg11_7
          | skip
          exact absurd hg11_7 (by decide)
      · intro hg11_3
        first
        | replace hg11_3 := of_decide_eq_true hg11_3
        | skip
        exact absurd hg11_3 (by decide)

end Go.Proofs.Ytnmiidccebhiaaa
