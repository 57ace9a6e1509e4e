import Derived.Shelf.Small.Wraps
import Derived.Shelf.Strconv.Itoa1
import Derived.Shelf.Strconv.Itoa2
import Derived.Shelf.Sort.Plain
import Derived.Shelf.Slices.SearchI
import Derived.Shelf.Slices.Cells
import Derived.Shelf.Slices.In.SortNone
import Derived.Test.YtbmffdagfjepgaaGreatDoorProg
import Derived.Shelf.SlSortCmp.NoneTotal
set_option linter.defProp false
namespace Go.Proofs
open Go.Shelf
open Tryz
def CU' {a:Option Func}{f g:Func}(h:a=some f)(k:f=g:=by kernel_rfl):a=some g:=by rw[h,k]
def Tryz.lays189_ren:Go.Shelf.Ren:=⟨fun|189=>92|125=>99|257=>151|128=>171|129=>172|294=>206|295=>207|296=>208|297=>209|298=>210|299=>211|216=>212|300=>213|301=>214|328=>295|329=>232|330=>233|331=>296|332=>297|215=>100|343=>328|n=>n,fun|28=>46|3=>3|46=>88|0=>0|51=>135|53=>137|4=>4|183=>204|182=>203|131=>83|5=>5|9=>9|218=>269|222=>273|228=>317|229=>123|n=>n,fun|n=>n⟩
def Tryz.lays189:Go.Proofs.Lays.n189 Tryz.prog Tryz.lays189_ren:={mixed:=by kernel_rfl,f125:=CU' func99,f128:=CU' func171,f129:=CU' func172,f189:=CU' func92,f215:=CU' func100,f216:=CU' func212,f257:=CU' func151,f294:=CU' func206,f295:=CU' func207,f296:=CU' func208,f297:=CU' func209,f298:=CU' func210,f299:=CU' func211,f300:=CU' func213,f301:=CU' func214,f328:=CU' func295,f329:=CU' func232,f330:=CU' func233,f331:=CU' func296,f332:=CU' func297,f343:=CU' func328,t0:=underlying0,a0:=isAgg0,z0:=sizeOf0,v0:=zeroValue0,t3:=underlying3,a3:=isAgg3,z3:=sizeOf3,v3:=zeroValue3,t4:=underlying4,a4:=isAgg4,z4:=sizeOf4,v4:=zeroValue4,t5:=underlying5,a5:=isAgg5,z5:=sizeOf5,v5:=zeroValue5,t9:=underlying9,a9:=isAgg9,z9:=sizeOf9,v9:=zeroValue9,t28:=underlying46,a28:=isAgg46,z28:=sizeOf46,v28:=zeroValue46,t46:=underlying88,a46:=isAgg88,z46:=sizeOf88,v46:=zeroValue88,t51:=underlying135,a51:=isAgg135,z51:=sizeOf135,v51:=zeroValue135,t53:=underlying137,a53:=isAgg137,z53:=sizeOf137,v53:=zeroValue137,t131:=underlying83,a131:=isAgg83,z131:=sizeOf83,v131:=zeroValue83,t182:=underlying203,a182:=isAgg203,z182:=sizeOf203,v182:=zeroValue203,t183:=underlying204,a183:=isAgg204,z183:=sizeOf204,v183:=zeroValue204,t218:=underlying269,a218:=isAgg269,z218:=sizeOf269,v218:=zeroValue269,t222:=underlying273,a222:=isAgg273,z222:=sizeOf273,v222:=zeroValue273,t228:=underlying317,a228:=isAgg317,z228:=sizeOf317,v228:=zeroValue317,t229:=underlying123,a229:=isAgg123,z229:=sizeOf123,v229:=zeroValue123}
open Go.Sort Go.RowKit in
theorem Tryz.slices_Sort_int (blk off a:Nat)(zs:List Int)(w:World)(b:Holds (Value.int .i64) w blk off zs.toArray)(c:blk<w.heap.size)(d:zs.length<4611686018427387904) :
 Calls Tryz.prog 92 #[.slice (some ⟨blk,off,none⟩) zs.length a] w λe f=>
  e=.returned (.tuple #[])∧∃n os,f=grow (putRow (Value.int .i64) (Sort.ahead w n) blk off (zs.mergeSort λx y=>decide (x≤y)).toArray) os:=Any.slices_Sort_int Tryz.lays189 blk off a zs w b c d
def Tryz.laysNm220_ren:Go.Shelf.Ren:=⟨fun|20=>78|n=>n,fun|22=>46|3=>3|4=>4|0=>0|n=>n,fun|n=>n⟩
def Tryz.laysNm220:Go.Proofs.Lays2.n20 Tryz.prog Tryz.laysNm220_ren:={mixed:=by kernel_rfl,f20:=CU' func78,t0:=underlying0,a0:=isAgg0,z0:=sizeOf0,v0:=zeroValue0,t3:=underlying3,a3:=isAgg3,z3:=sizeOf3,v3:=zeroValue3,t4:=underlying4,a4:=isAgg4,z4:=sizeOf4,v4:=zeroValue4,t22:=underlying46,a22:=isAgg46,z22:=sizeOf46,v22:=zeroValue46,i3:=by kernel_rfl}
open Go.RowKit Go.Lib Go.Sort in
theorem Tryz.slices_Compact_int (blk off a:Nat)(zs:List Int)(w:World)(b:Holds (Value.int .i64) w blk off zs.toArray)(d:zs.length≤9223372036854775807)(c:zs.length≤a) :
 Calls Tryz.prog 78 #[.slice (some ⟨blk,off,none⟩) zs.length a] w λe f=>e=.returned (.slice (some ⟨blk,off,none⟩) (Lib.compact zs).length a)∧∃q,f=putRow (Value.int .i64) (Sort.ahead w q) blk off (Lib.compact zs++List.replicate (zs.length-(Lib.compact zs).length) 0).toArray:=Any.slices_Compact_int Tryz.laysNm220 blk off a zs w b d c
open Go.RowKit Go.Lib Go.Sort in
theorem Tryz.slices_Compact_int_empty (a:Option Addr)(b:Nat)(w:World) :
 Calls Tryz.prog 78 #[.slice a 0 b] w λe c=>e=.returned (.slice a 0 b)∧c=w:=Any.slices_Compact_int_empty Tryz.laysNm220 a b w
open Go.RowKit Go.Sort in
theorem Tryz.slices_Sort_int_none (p:Option Addr)(a:Nat)(w:World) :
 Calls Tryz.prog 92 #[.slice p 0 a] w λe b=>e=.returned (.tuple #[])∧b=w:=Any.slices_Sort_int_none Tryz.lays189 p a w
end Go.Proofs
