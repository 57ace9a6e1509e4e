import Derived.Shelf.Small.Bits
import Derived.Shelf.Small.Wraps
import Derived.Shelf.Strconv.Itoa0
import Derived.Shelf.Strconv.Itoa1
import Derived.Shelf.LaysM
import Derived.Shelf.Strconv.Itoa2
import Derived.Shelf.Sort.Plain
import Derived.Ground.Names2Prog
import Derived.Shelf.Slices.CompactI
import Derived.Shelf.Slices.In.SortNone
import Derived.Test.YtphlhpbmkejbaaaGreatDoorProg
set_option linter.unusedVariables false
set_option linter.unusedSimpArgs false
namespace Go.Proofs
open Go.Shelf
def Tryz.lays189_ren : Go.Shelf.Ren:=⟨fun|189 => 90|125 => 105|257 => 112|128 => 159|129 => 160|294 => 162|295 => 163|296 => 164|297 => 165|298 => 166|299 => 167|216 => 168|300 => 169|301 => 170|328 => 210|329 => 206|330 => 207|331 => 211|332 => 212|215 => 106|343 => 260|n => n,fun|28 => 33|3 => 3|46 => 74|0 => 0|51 => 106|53 => 108|4 => 4|183 => 206|182 => 205|131 => 61|5 => 5|9 => 9|218 => 267|222 => 271|228 => 309|229 => 69|n => n,fun|n => n⟩
theorem Tryz.lays189 : Go.Proofs.Lays.n189 Tryz.prog Tryz.lays189_ren:={
  mixed:=by kernel_rfl
  f125:=Tryz.func105.trans (congrArg some (by kernel_rfl))
  f128:=Tryz.func159.trans (congrArg some (by kernel_rfl))
  f129:=Tryz.func160.trans (congrArg some (by kernel_rfl))
  f189:=Tryz.func90.trans (congrArg some (by kernel_rfl))
  f215:=Tryz.func106.trans (congrArg some (by kernel_rfl))
  f216:=Tryz.func168.trans (congrArg some (by kernel_rfl))
  f257:=Tryz.func112.trans (congrArg some (by kernel_rfl))
  f294:=Tryz.func162.trans (congrArg some (by kernel_rfl))
  f295:=Tryz.func163.trans (congrArg some (by kernel_rfl))
  f296:=Tryz.func164.trans (congrArg some (by kernel_rfl))
  f297:=Tryz.func165.trans (congrArg some (by kernel_rfl))
  f298:=Tryz.func166.trans (congrArg some (by kernel_rfl))
  f299:=Tryz.func167.trans (congrArg some (by kernel_rfl))
  f300:=Tryz.func169.trans (congrArg some (by kernel_rfl))
  f301:=Tryz.func170.trans (congrArg some (by kernel_rfl))
  f328:=Tryz.func210.trans (congrArg some (by kernel_rfl))
  f329:=Tryz.func206.trans (congrArg some (by kernel_rfl))
  f330:=Tryz.func207.trans (congrArg some (by kernel_rfl))
  f331:=Tryz.func211.trans (congrArg some (by kernel_rfl))
  f332:=Tryz.func212.trans (congrArg some (by kernel_rfl))
  f343:=Tryz.func260.trans (congrArg some (by kernel_rfl))
  t0:=Tryz.underlying0
  a0:=Tryz.isAgg0
  z0:=Tryz.sizeOf0
  v0:=Tryz.zeroValue0
  t3:=Tryz.underlying3
  a3:=Tryz.isAgg3
  z3:=Tryz.sizeOf3
  v3:=Tryz.zeroValue3
  t4:=Tryz.underlying4
  a4:=Tryz.isAgg4
  z4:=Tryz.sizeOf4
  v4:=Tryz.zeroValue4
  t5:=Tryz.underlying5
  a5:=Tryz.isAgg5
  z5:=Tryz.sizeOf5
  v5:=Tryz.zeroValue5
  t9:=Tryz.underlying9
  a9:=Tryz.isAgg9
  z9:=Tryz.sizeOf9
  v9:=Tryz.zeroValue9
  t28:=Tryz.underlying33
  a28:=Tryz.isAgg33
  z28:=Tryz.sizeOf33
  v28:=Tryz.zeroValue33
  t46:=Tryz.underlying74
  a46:=Tryz.isAgg74
  z46:=Tryz.sizeOf74
  v46:=Tryz.zeroValue74
  t51:=Tryz.underlying106
  a51:=Tryz.isAgg106
  z51:=Tryz.sizeOf106
  v51:=Tryz.zeroValue106
  t53:=Tryz.underlying108
  a53:=Tryz.isAgg108
  z53:=Tryz.sizeOf108
  v53:=Tryz.zeroValue108
  t131:=Tryz.underlying61
  a131:=Tryz.isAgg61
  z131:=Tryz.sizeOf61
  v131:=Tryz.zeroValue61
  t182:=Tryz.underlying205
  a182:=Tryz.isAgg205
  z182:=Tryz.sizeOf205
  v182:=Tryz.zeroValue205
  t183:=Tryz.underlying206
  a183:=Tryz.isAgg206
  z183:=Tryz.sizeOf206
  v183:=Tryz.zeroValue206
  t218:=Tryz.underlying267
  a218:=Tryz.isAgg267
  z218:=Tryz.sizeOf267
  v218:=Tryz.zeroValue267
  t222:=Tryz.underlying271
  a222:=Tryz.isAgg271
  z222:=Tryz.sizeOf271
  v222:=Tryz.zeroValue271
  t228:=Tryz.underlying309
  a228:=Tryz.isAgg309
  z228:=Tryz.sizeOf309
  v228:=Tryz.zeroValue309
  t229:=Tryz.underlying69
  a229:=Tryz.isAgg69
  z229:=Tryz.sizeOf69
  v229:=Tryz.zeroValue69 }
open Go.Sort Go.RowKit in
theorem Tryz.slices_Sort_int (blk off cap : Nat) (zs : List Int) (w : World) (hH : Holds (Value.int .i64) w blk off zs.toArray) (hblk : blk < w.heap.size) (hsz : zs.length < 4611686018427387904) :
    Calls Tryz.prog 90 #[.slice (some ⟨blk,off,none⟩) zs.length cap] w fun e w' =>
      e = .returned (.tuple #[]) ∧ ∃ n os,w' = grow (putRow (Value.int .i64) (Sort.ahead w n) blk off (zs.mergeSort fun x y => decide (x ≤ y)).toArray) os:=Any.slices_Sort_int Tryz.lays189 blk off cap zs w hH hblk hsz
def Tryz.laysNm220_ren : Go.Shelf.Ren:=⟨fun|20 => 70|n => n,fun|22 => 33|3 => 3|4 => 4|0 => 0|n => n,fun|n => n⟩
theorem Tryz.laysNm220 : Go.Proofs.Lays2.n20 Tryz.prog Tryz.laysNm220_ren:={
  mixed:=by kernel_rfl
  f20:=Tryz.func70.trans (congrArg some (by kernel_rfl))
  t0:=Tryz.underlying0
  a0:=Tryz.isAgg0
  z0:=Tryz.sizeOf0
  v0:=Tryz.zeroValue0
  t3:=Tryz.underlying3
  a3:=Tryz.isAgg3
  z3:=Tryz.sizeOf3
  v3:=Tryz.zeroValue3
  t4:=Tryz.underlying4
  a4:=Tryz.isAgg4
  z4:=Tryz.sizeOf4
  v4:=Tryz.zeroValue4
  t22:=Tryz.underlying33
  a22:=Tryz.isAgg33
  z22:=Tryz.sizeOf33
  v22:=Tryz.zeroValue33
  i3:=by kernel_rfl }
open Go.RowKit Go.Lib Go.Sort in
theorem Tryz.slices_Compact_int (blk off cap : Nat) (zs : List Int) (w : World) (hH : Holds (Value.int .i64) w blk off zs.toArray) (hsz : zs.length ≤ 9223372036854775807) (hcap : zs.length ≤ cap) :
    Calls Tryz.prog 70 #[.slice (some ⟨blk,off,none⟩) zs.length cap] w fun e w' => e = .returned (.slice (some ⟨blk,off,none⟩) (Lib.compact zs).length cap) ∧ ∃ q,w' = putRow (Value.int .i64) (Sort.ahead w q) blk off (Lib.compact zs ++ List.replicate (zs.length - (Lib.compact zs).length) 0).toArray:=Any.slices_Compact_int Tryz.laysNm220 blk off cap zs w hH hsz hcap
open Go.RowKit Go.Lib Go.Sort in
theorem Tryz.slices_Compact_int_empty (a : Option Addr) (cap : Nat) (w : World) :
    Calls Tryz.prog 70 #[.slice a 0 cap] w fun e w' => e = .returned (.slice a 0 cap) ∧ w' = w:=Any.slices_Compact_int_empty Tryz.laysNm220 a cap w
open Go.RowKit Go.Sort in
theorem Tryz.slices_Sort_int_none (p : Option Addr) (cap : Nat) (w : World) :
    Calls Tryz.prog 90 #[.slice p 0 cap] w fun e w' => e = .returned (.tuple #[]) ∧ w' = w:=Any.slices_Sort_int_none Tryz.lays189 p cap w
end Go.Proofs
