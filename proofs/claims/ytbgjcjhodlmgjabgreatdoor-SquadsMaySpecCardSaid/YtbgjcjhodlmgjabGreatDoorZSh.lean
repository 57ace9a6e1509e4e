import Derived.Shelf.Small.Bits
import Derived.Shelf.Small.Wraps
import Derived.Shelf.Strconv.Itoa0
import Derived.Shelf.Sort.Plain
import Derived.Shelf.Slices.Turned
import Derived.Ground.Names2Prog
import Derived.Shelf.Slices.Clone
import Derived.Shelf.Slices.CompactI
import Derived.Shelf.Slices.SearchI
import Derived.Shelf.Slices.Cells
import Derived.Shelf.Slices.In.SortNone
import Derived.Ground.SlgnProg
import Derived.Shelf.SlicesE.Clone
import Derived.Test.YtbgjcjhodlmgjabGreatDoorProg
/-
  Contracts of Go's library, laid over this program (printed by the kit's lay-shelf and lay-plain).
-/
namespace Go.Proofs
open Go.Shelf
def Tryz.lays189_ren : Go.Shelf.Ren := ⟨fun | 189 => 21 | 125 => 52 | 257 => 51 | 128 => 79 | 129 => 80 | 294 => 70 | 295 => 71 | 296 => 72 | 297 => 73 | 298 => 74 | 299 => 75 | 216 => 76 | 300 => 77 | 301 => 78 | 328 => 93 | 329 => 94 | 330 => 95 | 331 => 96 | 332 => 97 | 215 => 98 | 343 => 108 | n => n, fun | 28 => 25 | 3 => 3 | 46 => 91 | 0 => 0 | 51 => 118 | 53 => 120 | 4 => 4 | 183 => 111 | 182 => 110 | 131 => 115 | 5 => 5 | 9 => 9 | 218 => 130 | 222 => 134 | 228 => 137 | 229 => 66 | n => n, fun | n => n⟩
theorem Tryz.lays189 : Go.Proofs.Lays.n189 Tryz.prog Tryz.lays189_ren := {
  mixed := by kernel_rfl
  f125 := Tryz.func52.trans (congrArg some (by kernel_rfl))
  f128 := Tryz.func79.trans (congrArg some (by kernel_rfl))
  f129 := Tryz.func80.trans (congrArg some (by kernel_rfl))
  f189 := Tryz.func21.trans (congrArg some (by kernel_rfl))
  f215 := Tryz.func98.trans (congrArg some (by kernel_rfl))
  f216 := Tryz.func76.trans (congrArg some (by kernel_rfl))
  f257 := Tryz.func51.trans (congrArg some (by kernel_rfl))
  f294 := Tryz.func70.trans (congrArg some (by kernel_rfl))
  f295 := Tryz.func71.trans (congrArg some (by kernel_rfl))
  f296 := Tryz.func72.trans (congrArg some (by kernel_rfl))
  f297 := Tryz.func73.trans (congrArg some (by kernel_rfl))
  f298 := Tryz.func74.trans (congrArg some (by kernel_rfl))
  f299 := Tryz.func75.trans (congrArg some (by kernel_rfl))
  f300 := Tryz.func77.trans (congrArg some (by kernel_rfl))
  f301 := Tryz.func78.trans (congrArg some (by kernel_rfl))
  f328 := Tryz.func93.trans (congrArg some (by kernel_rfl))
  f329 := Tryz.func94.trans (congrArg some (by kernel_rfl))
  f330 := Tryz.func95.trans (congrArg some (by kernel_rfl))
  f331 := Tryz.func96.trans (congrArg some (by kernel_rfl))
  f332 := Tryz.func97.trans (congrArg some (by kernel_rfl))
  f343 := Tryz.func108.trans (congrArg some (by kernel_rfl))
  t0 := Tryz.underlying0
  a0 := Tryz.isAgg0
  z0 := Tryz.sizeOf0
  v0 := Tryz.zeroValue0
  t3 := Tryz.underlying3
  a3 := Tryz.isAgg3
  z3 := Tryz.sizeOf3
  v3 := Tryz.zeroValue3
  t4 := Tryz.underlying4
  a4 := Tryz.isAgg4
  z4 := Tryz.sizeOf4
  v4 := Tryz.zeroValue4
  t5 := Tryz.underlying5
  a5 := Tryz.isAgg5
  z5 := Tryz.sizeOf5
  v5 := Tryz.zeroValue5
  t9 := Tryz.underlying9
  a9 := Tryz.isAgg9
  z9 := Tryz.sizeOf9
  v9 := Tryz.zeroValue9
  t28 := Tryz.underlying25
  a28 := Tryz.isAgg25
  z28 := Tryz.sizeOf25
  v28 := Tryz.zeroValue25
  t46 := Tryz.underlying91
  a46 := Tryz.isAgg91
  z46 := Tryz.sizeOf91
  v46 := Tryz.zeroValue91
  t51 := Tryz.underlying118
  a51 := Tryz.isAgg118
  z51 := Tryz.sizeOf118
  v51 := Tryz.zeroValue118
  t53 := Tryz.underlying120
  a53 := Tryz.isAgg120
  z53 := Tryz.sizeOf120
  v53 := Tryz.zeroValue120
  t131 := Tryz.underlying115
  a131 := Tryz.isAgg115
  z131 := Tryz.sizeOf115
  v131 := Tryz.zeroValue115
  t182 := Tryz.underlying110
  a182 := Tryz.isAgg110
  z182 := Tryz.sizeOf110
  v182 := Tryz.zeroValue110
  t183 := Tryz.underlying111
  a183 := Tryz.isAgg111
  z183 := Tryz.sizeOf111
  v183 := Tryz.zeroValue111
  t218 := Tryz.underlying130
  a218 := Tryz.isAgg130
  z218 := Tryz.sizeOf130
  v218 := Tryz.zeroValue130
  t222 := Tryz.underlying134
  a222 := Tryz.isAgg134
  z222 := Tryz.sizeOf134
  v222 := Tryz.zeroValue134
  t228 := Tryz.underlying137
  a228 := Tryz.isAgg137
  z228 := Tryz.sizeOf137
  v228 := Tryz.zeroValue137
  t229 := Tryz.underlying66
  a229 := Tryz.isAgg66
  z229 := Tryz.sizeOf66
  v229 := Tryz.zeroValue66 }
open Go.Sort Go.RowKit in
theorem Tryz.slices_Sort_int (blk off cap : Nat) (zs : List Int) (w : World) (hH : Holds (Value.int .i64) w blk off zs.toArray) (hblk : blk < w.heap.size) (hsz : zs.length < 4611686018427387904) :
    Calls Tryz.prog 21 #[.slice (some ⟨blk, off, none⟩) zs.length cap] w fun e w' =>
      e = .returned (.tuple #[]) ∧ ∃ n os, w' = grow (putRow (Value.int .i64) (Sort.ahead w n) blk off (zs.mergeSort fun x y => decide (x ≤ y)).toArray) os := Any.slices_Sort_int Tryz.lays189 blk off cap zs w hH hblk hsz
def Tryz.laysNm220_ren : Go.Shelf.Ren := ⟨fun | 20 => 22 | n => n, fun | 22 => 25 | 3 => 3 | 4 => 4 | 0 => 0 | n => n, fun | n => n⟩
theorem Tryz.laysNm220 : Go.Proofs.Lays2.n20 Tryz.prog Tryz.laysNm220_ren := {
  mixed := by kernel_rfl
  f20 := Tryz.func22.trans (congrArg some (by kernel_rfl))
  t0 := Tryz.underlying0
  a0 := Tryz.isAgg0
  z0 := Tryz.sizeOf0
  v0 := Tryz.zeroValue0
  t3 := Tryz.underlying3
  a3 := Tryz.isAgg3
  z3 := Tryz.sizeOf3
  v3 := Tryz.zeroValue3
  t4 := Tryz.underlying4
  a4 := Tryz.isAgg4
  z4 := Tryz.sizeOf4
  v4 := Tryz.zeroValue4
  t22 := Tryz.underlying25
  a22 := Tryz.isAgg25
  z22 := Tryz.sizeOf25
  v22 := Tryz.zeroValue25
  i3 := by kernel_rfl }
open Go.RowKit Go.Lib Go.Sort in
/-- slices.Compact at []int: "Compact replaces consecutive runs of equal elements with a single copy. This is like the uniq command found on Unix. Compact modifies the contents of the slice s and returns the modified slice, which may have a smaller length. Compact zeroes the elements between the new length and the original length. The result preserves the nilness of s.": IT RETURNS THE SLICE CUT TO 'Lib.compact zs'; ITS CELLS HOLD 'Lib.compact zs', THEN ZERO VALUES up to the old length; all else is as it was, but for the count of draws. IN THE WORDS OF slices.Sort's CONTRACT ('Holds', 'putRow'): so the everyday 'slices.Sort(xs); xs = slices.Compact(xs)' goes from the one contract to the other. It asks 'zs.length ≤ cap' (every slice's: the reslicing 's[:k]' looks at it). Length 0, nil: '.._empty'. (LAID: no walk: one application.) -/
theorem Tryz.slices_Compact_int (blk off cap : Nat) (zs : List Int) (w : World) (hH : Holds (Value.int .i64) w blk off zs.toArray) (hsz : zs.length ≤ 9223372036854775807) (hcap : zs.length ≤ cap) :
    Calls Tryz.prog 22 #[.slice (some ⟨blk, off, none⟩) zs.length cap] w fun e w' => e = .returned (.slice (some ⟨blk, off, none⟩) (Lib.compact zs).length cap) ∧ ∃ q, w' = putRow (Value.int .i64) (Sort.ahead w q) blk off (Lib.compact zs ++ List.replicate (zs.length - (Lib.compact zs).length) 0).toArray := Any.slices_Compact_int Tryz.laysNm220 blk off cap zs w hH hsz hcap
open Go.RowKit Go.Lib Go.Sort in
/-- The same at a slice of length 0, a nil one too: it comes back as it is. (LAID: no walk: one application.) -/
theorem Tryz.slices_Compact_int_empty (a : Option Addr) (cap : Nat) (w : World) :
    Calls Tryz.prog 22 #[.slice a 0 cap] w fun e w' => e = .returned (.slice a 0 cap) ∧ w' = w := Any.slices_Compact_int_empty Tryz.laysNm220 a cap w
open Go.RowKit Go.Sort in
/-- .. and plain. (LAID: no walk: one application.) -/
theorem Tryz.slices_Sort_int_none (p : Option Addr) (cap : Nat) (w : World) :
    Calls Tryz.prog 21 #[.slice p 0 cap] w fun e w' => e = .returned (.tuple #[]) ∧ w' = w := Any.slices_Sort_int_none Tryz.lays189 p cap w
end Go.Proofs
