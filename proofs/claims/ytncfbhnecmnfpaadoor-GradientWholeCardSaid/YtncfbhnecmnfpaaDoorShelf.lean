/- The kit's contracts for sorting and for compaction at this program, laid by its tool. No condition. -/
import Derived.Shelf.Sort.Plain
import Derived.Shelf.Slices.CompactI
import Derived.Test.YtncfbhnecmnfpaaDoorProg
namespace Go.Proofs
open Go.Shelf
def Tryd.lays189_ren : Go.Shelf.Ren := ⟨fun | 189 => 35 | 125 => 51 | 257 => 50 | 128 => 73 | 129 => 74 | 294 => 64 | 295 => 65 | 296 => 66 | 297 => 67 | 298 => 68 | 299 => 69 | 216 => 70 | 300 => 71 | 301 => 72 | 328 => 90 | 329 => 91 | 330 => 92 | 331 => 93 | 332 => 94 | 215 => 95 | 343 => 99 | n => n, fun | 28 => 22 | 3 => 3 | 46 => 106 | 0 => 0 | 51 => 127 | 53 => 129 | 4 => 4 | 183 => 119 | 182 => 118 | 131 => 124 | 5 => 5 | 9 => 9 | 218 => 145 | 222 => 149 | 228 => 154 | 229 => 69 | n => n, fun | n => n⟩
theorem Tryd.lays189 : Go.Proofs.Lays.n189 Tryd.prog Tryd.lays189_ren := {
  mixed := by kernel_rfl
  f125 := Tryd.func51.trans (congrArg some (by kernel_rfl))
  f128 := Tryd.func73.trans (congrArg some (by kernel_rfl))
  f129 := Tryd.func74.trans (congrArg some (by kernel_rfl))
  f189 := Tryd.func35.trans (congrArg some (by kernel_rfl))
  f215 := Tryd.func95.trans (congrArg some (by kernel_rfl))
  f216 := Tryd.func70.trans (congrArg some (by kernel_rfl))
  f257 := Tryd.func50.trans (congrArg some (by kernel_rfl))
  f294 := Tryd.func64.trans (congrArg some (by kernel_rfl))
  f295 := Tryd.func65.trans (congrArg some (by kernel_rfl))
  f296 := Tryd.func66.trans (congrArg some (by kernel_rfl))
  f297 := Tryd.func67.trans (congrArg some (by kernel_rfl))
  f298 := Tryd.func68.trans (congrArg some (by kernel_rfl))
  f299 := Tryd.func69.trans (congrArg some (by kernel_rfl))
  f300 := Tryd.func71.trans (congrArg some (by kernel_rfl))
  f301 := Tryd.func72.trans (congrArg some (by kernel_rfl))
  f328 := Tryd.func90.trans (congrArg some (by kernel_rfl))
  f329 := Tryd.func91.trans (congrArg some (by kernel_rfl))
  f330 := Tryd.func92.trans (congrArg some (by kernel_rfl))
  f331 := Tryd.func93.trans (congrArg some (by kernel_rfl))
  f332 := Tryd.func94.trans (congrArg some (by kernel_rfl))
  f343 := Tryd.func99.trans (congrArg some (by kernel_rfl))
  t0 := Tryd.underlying0
  a0 := Tryd.isAgg0
  z0 := Tryd.sizeOf0
  v0 := Tryd.zeroValue0
  t3 := Tryd.underlying3
  a3 := Tryd.isAgg3
  z3 := Tryd.sizeOf3
  v3 := Tryd.zeroValue3
  t4 := Tryd.underlying4
  a4 := Tryd.isAgg4
  z4 := Tryd.sizeOf4
  v4 := Tryd.zeroValue4
  t5 := Tryd.underlying5
  a5 := Tryd.isAgg5
  z5 := Tryd.sizeOf5
  v5 := Tryd.zeroValue5
  t9 := Tryd.underlying9
  a9 := Tryd.isAgg9
  z9 := Tryd.sizeOf9
  v9 := Tryd.zeroValue9
  t28 := Tryd.underlying22
  a28 := Tryd.isAgg22
  z28 := Tryd.sizeOf22
  v28 := Tryd.zeroValue22
  t46 := Tryd.underlying106
  a46 := Tryd.isAgg106
  z46 := Tryd.sizeOf106
  v46 := Tryd.zeroValue106
  t51 := Tryd.underlying127
  a51 := Tryd.isAgg127
  z51 := Tryd.sizeOf127
  v51 := Tryd.zeroValue127
  t53 := Tryd.underlying129
  a53 := Tryd.isAgg129
  z53 := Tryd.sizeOf129
  v53 := Tryd.zeroValue129
  t131 := Tryd.underlying124
  a131 := Tryd.isAgg124
  z131 := Tryd.sizeOf124
  v131 := Tryd.zeroValue124
  t182 := Tryd.underlying118
  a182 := Tryd.isAgg118
  z182 := Tryd.sizeOf118
  v182 := Tryd.zeroValue118
  t183 := Tryd.underlying119
  a183 := Tryd.isAgg119
  z183 := Tryd.sizeOf119
  v183 := Tryd.zeroValue119
  t218 := Tryd.underlying145
  a218 := Tryd.isAgg145
  z218 := Tryd.sizeOf145
  v218 := Tryd.zeroValue145
  t222 := Tryd.underlying149
  a222 := Tryd.isAgg149
  z222 := Tryd.sizeOf149
  v222 := Tryd.zeroValue149
  t228 := Tryd.underlying154
  a228 := Tryd.isAgg154
  z228 := Tryd.sizeOf154
  v228 := Tryd.zeroValue154
  t229 := Tryd.underlying69
  a229 := Tryd.isAgg69
  z229 := Tryd.sizeOf69
  v229 := Tryd.zeroValue69 }
open Go.Sort Go.RowKit in
theorem Tryd.slices_Sort_int (blk off cap : Nat) (zs : List Int) (w : World) (hH : Holds (Value.int .i64) w blk off zs.toArray) (hblk : blk < w.heap.size) (hsz : zs.length < 4611686018427387904) :
    Calls Tryd.prog 35 #[.slice (some ⟨blk, off, none⟩) zs.length cap] w fun e w' =>
      e = .returned (.tuple #[]) ∧ ∃ n os, w' = grow (putRow (Value.int .i64) (Sort.ahead w n) blk off (zs.mergeSort fun x y => decide (x ≤ y)).toArray) os := Any.slices_Sort_int Tryd.lays189 blk off cap zs w hH hblk hsz
def Tryd.laysNm220_ren : Go.Shelf.Ren := ⟨fun | 20 => 36 | n => n, fun | 22 => 22 | 3 => 3 | 4 => 4 | 0 => 0 | n => n, fun | n => n⟩
theorem Tryd.laysNm220 : Go.Proofs.Lays2.n20 Tryd.prog Tryd.laysNm220_ren := {
  mixed := by kernel_rfl
  f20 := Tryd.func36.trans (congrArg some (by kernel_rfl))
  t0 := Tryd.underlying0
  a0 := Tryd.isAgg0
  z0 := Tryd.sizeOf0
  v0 := Tryd.zeroValue0
  t3 := Tryd.underlying3
  a3 := Tryd.isAgg3
  z3 := Tryd.sizeOf3
  v3 := Tryd.zeroValue3
  t4 := Tryd.underlying4
  a4 := Tryd.isAgg4
  z4 := Tryd.sizeOf4
  v4 := Tryd.zeroValue4
  t22 := Tryd.underlying22
  a22 := Tryd.isAgg22
  z22 := Tryd.sizeOf22
  v22 := Tryd.zeroValue22
  i3 := by kernel_rfl }
open Go.RowKit Go.Lib Go.Sort in
/-- slices.Compact at []int: "Compact replaces consecutive runs of equal elements with a single copy. This is like the uniq command found on Unix. Compact modifies the contents of the slice s and returns the modified slice, which may have a smaller length. Compact zeroes the elements between the new length and the original length. The result preserves the nilness of s.": IT RETURNS THE SLICE CUT TO 'Lib.compact zs'; ITS CELLS HOLD 'Lib.compact zs', THEN ZERO VALUES up to the old length; all else is as it was, but for the count of draws. IN THE WORDS OF slices.Sort's CONTRACT ('Holds', 'putRow'): so the everyday 'slices.Sort(xs); xs = slices.Compact(xs)' goes from the one contract to the other. It asks 'zs.length ≤ cap' (every slice's: the reslicing 's[:k]' looks at it). Length 0, nil: '.._empty'. (LAID: no walk: one application.) -/
theorem Tryd.slices_Compact_int (blk off cap : Nat) (zs : List Int) (w : World) (hH : Holds (Value.int .i64) w blk off zs.toArray) (hsz : zs.length ≤ 9223372036854775807) (hcap : zs.length ≤ cap) :
    Calls Tryd.prog 36 #[.slice (some ⟨blk, off, none⟩) zs.length cap] w fun e w' => e = .returned (.slice (some ⟨blk, off, none⟩) (Lib.compact zs).length cap) ∧ ∃ q, w' = putRow (Value.int .i64) (Sort.ahead w q) blk off (Lib.compact zs ++ List.replicate (zs.length - (Lib.compact zs).length) 0).toArray := Any.slices_Compact_int Tryd.laysNm220 blk off cap zs w hH hsz hcap
end Go.Proofs
