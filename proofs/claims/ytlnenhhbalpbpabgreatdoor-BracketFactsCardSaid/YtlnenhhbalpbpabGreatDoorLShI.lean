import Derived.Shelf.Small.Bits
import Derived.Shelf.Small.Wraps
import Derived.Shelf.Strconv.Itoa0
import Derived.Shelf.Strconv.Itoa1
import Derived.Shelf.LaysM
import Derived.Shelf.Strconv.Itoa2
import Derived.Shelf.Sort.Plain
import Derived.Ground.Names2Prog
import Derived.Shelf.Slices.CompactI
import Derived.Shelf.Slices.SearchI
import Derived.Shelf.Slices.Cells
import Derived.Shelf.Slices.In.SortNone
import Derived.Test.YtlnenhhbalpbpabGreatDoorProg
import Derived.Shelf.SlSortCmp.NoneTotal
import Derived.Shelf.SlLaysF0
import Derived.Shelf.SlLaysF
namespace Go.Proofs
open Go.Shelf
def Tryz.lays189_ren:Go.Shelf.Ren:=⟨fun|189=>88|125=>66|257=>149|128=>115|129=>116|294=>190|295=>191|296=>192|297=>193|298=>194|299=>195|216=>196|300=>197|301=>198|328=>245|329=>168|330=>169|331=>246|332=>247|215=>67|343=>260|n=>n,fun|28=>34|3=>3|46=>25|0=>0|51=>148|53=>150|4=>4|183=>200|182=>199|131=>106|5=>5|9=>9|218=>250|222=>254|228=>299|229=>142|n=>n,fun|n=>n⟩
theorem Tryz.lays189:Go.Proofs.Lays.n189 Tryz.prog Tryz.lays189_ren:={
 mixed:=by kernel_rfl
 f125:=Tryz.func66.trans (congrArg some (by kernel_rfl))
 f128:=Tryz.func115.trans (congrArg some (by kernel_rfl))
 f129:=Tryz.func116.trans (congrArg some (by kernel_rfl))
 f189:=Tryz.func88.trans (congrArg some (by kernel_rfl))
 f215:=Tryz.func67.trans (congrArg some (by kernel_rfl))
 f216:=Tryz.func196.trans (congrArg some (by kernel_rfl))
 f257:=Tryz.func149.trans (congrArg some (by kernel_rfl))
 f294:=Tryz.func190.trans (congrArg some (by kernel_rfl))
 f295:=Tryz.func191.trans (congrArg some (by kernel_rfl))
 f296:=Tryz.func192.trans (congrArg some (by kernel_rfl))
 f297:=Tryz.func193.trans (congrArg some (by kernel_rfl))
 f298:=Tryz.func194.trans (congrArg some (by kernel_rfl))
 f299:=Tryz.func195.trans (congrArg some (by kernel_rfl))
 f300:=Tryz.func197.trans (congrArg some (by kernel_rfl))
 f301:=Tryz.func198.trans (congrArg some (by kernel_rfl))
 f328:=Tryz.func245.trans (congrArg some (by kernel_rfl))
 f329:=Tryz.func168.trans (congrArg some (by kernel_rfl))
 f330:=Tryz.func169.trans (congrArg some (by kernel_rfl))
 f331:=Tryz.func246.trans (congrArg some (by kernel_rfl))
 f332:=Tryz.func247.trans (congrArg some (by kernel_rfl))
 f343:=Tryz.func260.trans (congrArg some (by kernel_rfl))
 t0:=Tryz.underlying0
 a0:=Tryz.isAgg0
 z0:=Tryz.sizeOf0
 v0:=Tryz.zeroValue0
 t3:=Tryz.underlying3
 a3:=Tryz.isAgg3
 z3:=Tryz.sizeOf3
 v3:=Tryz.zeroValue3
 t4:=Tryz.underlying4
 a4:=Tryz.isAgg4
 z4:=Tryz.sizeOf4
 v4:=Tryz.zeroValue4
 t5:=Tryz.underlying5
 a5:=Tryz.isAgg5
 z5:=Tryz.sizeOf5
 v5:=Tryz.zeroValue5
 t9:=Tryz.underlying9
 a9:=Tryz.isAgg9
 z9:=Tryz.sizeOf9
 v9:=Tryz.zeroValue9
 t28:=Tryz.underlying34
 a28:=Tryz.isAgg34
 z28:=Tryz.sizeOf34
 v28:=Tryz.zeroValue34
 t46:=Tryz.underlying25
 a46:=Tryz.isAgg25
 z46:=Tryz.sizeOf25
 v46:=Tryz.zeroValue25
 t51:=Tryz.underlying148
 a51:=Tryz.isAgg148
 z51:=Tryz.sizeOf148
 v51:=Tryz.zeroValue148
 t53:=Tryz.underlying150
 a53:=Tryz.isAgg150
 z53:=Tryz.sizeOf150
 v53:=Tryz.zeroValue150
 t131:=Tryz.underlying106
 a131:=Tryz.isAgg106
 z131:=Tryz.sizeOf106
 v131:=Tryz.zeroValue106
 t182:=Tryz.underlying199
 a182:=Tryz.isAgg199
 z182:=Tryz.sizeOf199
 v182:=Tryz.zeroValue199
 t183:=Tryz.underlying200
 a183:=Tryz.isAgg200
 z183:=Tryz.sizeOf200
 v183:=Tryz.zeroValue200
 t218:=Tryz.underlying250
 a218:=Tryz.isAgg250
 z218:=Tryz.sizeOf250
 v218:=Tryz.zeroValue250
 t222:=Tryz.underlying254
 a222:=Tryz.isAgg254
 z222:=Tryz.sizeOf254
 v222:=Tryz.zeroValue254
 t228:=Tryz.underlying299
 a228:=Tryz.isAgg299
 z228:=Tryz.sizeOf299
 v228:=Tryz.zeroValue299
 t229:=Tryz.underlying142
 a229:=Tryz.isAgg142
 z229:=Tryz.sizeOf142
 v229:=Tryz.zeroValue142 }
open Go.Sort Go.RowKit in
theorem Tryz.slices_Sort_int (blk off cap:Nat)(zs:List Int)(w:World)(hH:Holds (Value.int .i64) w blk off zs.toArray)(hblk:blk<w.heap.size)(hsz:zs.length<4611686018427387904) :
 Calls Tryz.prog 88 #[.slice (some ⟨blk,off,none⟩) zs.length cap] w fun e w' =>
  e=.returned (.tuple #[])∧∃ n os,w'=grow (putRow (Value.int .i64) (Sort.ahead w n) blk off (zs.mergeSort fun x y=>decide (x≤y)).toArray) os:=Any.slices_Sort_int Tryz.lays189 blk off cap zs w hH hblk hsz
def Tryz.laysNm220_ren:Go.Shelf.Ren:=⟨fun|20=>80|n=>n,fun|22=>34|3=>3|4=>4|0=>0|n=>n,fun|n=>n⟩
theorem Tryz.laysNm220:Go.Proofs.Lays2.n20 Tryz.prog Tryz.laysNm220_ren:={
 mixed:=by kernel_rfl
 f20:=Tryz.func80.trans (congrArg some (by kernel_rfl))
 t0:=Tryz.underlying0
 a0:=Tryz.isAgg0
 z0:=Tryz.sizeOf0
 v0:=Tryz.zeroValue0
 t3:=Tryz.underlying3
 a3:=Tryz.isAgg3
 z3:=Tryz.sizeOf3
 v3:=Tryz.zeroValue3
 t4:=Tryz.underlying4
 a4:=Tryz.isAgg4
 z4:=Tryz.sizeOf4
 v4:=Tryz.zeroValue4
 t22:=Tryz.underlying34
 a22:=Tryz.isAgg34
 z22:=Tryz.sizeOf34
 v22:=Tryz.zeroValue34
 i3:=by kernel_rfl }
open Go.RowKit Go.Lib Go.Sort in
theorem Tryz.slices_Compact_int (blk off cap:Nat)(zs:List Int)(w:World)(hH:Holds (Value.int .i64) w blk off zs.toArray)(hsz:zs.length≤9223372036854775807)(hcap:zs.length≤cap) :
 Calls Tryz.prog 80 #[.slice (some ⟨blk,off,none⟩) zs.length cap] w fun e w'=>e=.returned (.slice (some ⟨blk,off,none⟩) (Lib.compact zs).length cap)∧∃ q,w'=putRow (Value.int .i64) (Sort.ahead w q) blk off (Lib.compact zs++List.replicate (zs.length-(Lib.compact zs).length) 0).toArray:=Any.slices_Compact_int Tryz.laysNm220 blk off cap zs w hH hsz hcap
open Go.RowKit Go.Lib Go.Sort in
theorem Tryz.slices_Compact_int_empty (a:Option Addr)(cap:Nat)(w:World) :
 Calls Tryz.prog 80 #[.slice a 0 cap] w fun e w'=>e=.returned (.slice a 0 cap)∧w'=w:=Any.slices_Compact_int_empty Tryz.laysNm220 a cap w
open Go.RowKit Go.Sort in
theorem Tryz.slices_Sort_int_none (p:Option Addr)(cap:Nat)(w:World) :
 Calls Tryz.prog 88 #[.slice p 0 cap] w fun e w'=>e=.returned (.tuple #[])∧w'=w:=Any.slices_Sort_int_none Tryz.lays189 p cap w
end Go.Proofs
