import Derived.Test.YtgbamiehiokacaaGreatDoorProg
import Derived.Test.YtgbamiehiokacaaGreatDoorHB
import Derived.KernelRfl
set_option linter.unusedVariables false
set_option maxRecDepth 100000
namespace Go.Hw
open Go
open Go.Proofs (Tryz.prog)
def fd (t o : Nat) (b : Bool:=false) : Field:={ name:=if b then "_" else "",type:=t,offset:=o,embedded:=false,tag := "",pkgPath := "",byteOffset:=0 }
def ty2 : Ty:=⟨2,.int .i64,1,8,.int .i64 0⟩
theorem ty2_ok : TyOk Tryz.prog ty2:=⟨by kernel_rfl,by kernel_rfl⟩
def ty3 : Ty:=⟨3,.int .i64,1,8,.int .i64 0⟩
theorem ty3_ok : TyOk Tryz.prog ty3:=⟨by kernel_rfl,by kernel_rfl⟩
def ty4 : Ty:=⟨4,.bool,1,1,.bool false⟩
theorem ty4_ok : TyOk Tryz.prog ty4:=⟨by kernel_rfl,by kernel_rfl⟩
def ty5 : Ty:=⟨5,.int .u8,1,1,.int .u8 0⟩
theorem ty5_ok : TyOk Tryz.prog ty5:=⟨by kernel_rfl,by kernel_rfl⟩
def ty9 : Ty:=⟨9,.string,1,16,.string ByteArray.empty⟩
theorem ty9_ok : TyOk Tryz.prog ty9:=⟨by kernel_rfl,by kernel_rfl⟩
def ty22 : Ty:=⟨22,.slice 54,1,24,.slice none 0 0⟩
theorem ty22_ok : TyOk Tryz.prog ty22:=⟨by kernel_rfl,by kernel_rfl⟩
def ty25 : Ty:=⟨25,.slice 52,1,24,.slice none 0 0⟩
theorem ty25_ok : TyOk Tryz.prog ty25:=⟨by kernel_rfl,by kernel_rfl⟩
def ty26 : Ty:=⟨26,.int .i64,1,8,.int .i64 0⟩
theorem ty26_ok : TyOk Tryz.prog ty26:=⟨by kernel_rfl,by kernel_rfl⟩
def ty30 : Ty:=⟨30,.int .u64,1,8,.int .u64 0⟩
theorem ty30_ok : TyOk Tryz.prog ty30:=⟨by kernel_rfl,by kernel_rfl⟩
def ty31 : Ty:=⟨31,.slice 3,1,24,.slice none 0 0⟩
theorem ty31_ok : TyOk Tryz.prog ty31:=⟨by kernel_rfl,by kernel_rfl⟩
def ty33 : Ty:=⟨33,.struct #[fd 3 0,fd 3 1,fd 31 2,fd 9 3],4,56,.agg #[.int .i64 0,.int .i64 0,.slice none 0 0,.string ByteArray.empty]⟩
theorem ty33_ok : TyOk Tryz.prog ty33:=⟨by kernel_rfl,by kernel_rfl⟩
def ty35 : Ty:=⟨35,.struct #[fd 3 0,fd 3 1,fd 3 2,fd 3 3],4,32,.agg #[.int .i64 0,.int .i64 0,.int .i64 0,.int .i64 0]⟩
theorem ty35_ok : TyOk Tryz.prog ty35:=⟨by kernel_rfl,by kernel_rfl⟩
def ty37 : Ty:=⟨37,.struct #[fd 35 0,fd 3 4],5,40,.agg #[.int .i64 0,.int .i64 0,.int .i64 0,.int .i64 0,.int .i64 0]⟩
theorem ty37_ok : TyOk Tryz.prog ty37:=⟨by kernel_rfl,by kernel_rfl⟩
def ty38 : Ty:=⟨38,.slice 161,1,24,.slice none 0 0⟩
theorem ty38_ok : TyOk Tryz.prog ty38:=⟨by kernel_rfl,by kernel_rfl⟩
def ty40 : Ty:=⟨40,.struct #[fd 35 0,fd 3 4,fd 3 5,fd 3 6,fd 3 7,fd 3 8,fd 31 9,fd 31 10,fd 38 11,fd 38 12],13,168,.agg #[.int .i64 0,.int .i64 0,.int .i64 0,.int .i64 0,.int .i64 0,.int .i64 0,.int .i64 0,.int .i64 0,.int .i64 0,.slice none 0 0,.slice none 0 0,.slice none 0 0,.slice none 0 0]⟩
theorem ty40_ok : TyOk Tryz.prog ty40:=⟨by kernel_rfl,by kernel_rfl⟩
def ty42 : Ty:=⟨42,.struct #[fd 3 0,fd 3 1],2,16,.agg #[.int .i64 0,.int .i64 0]⟩
theorem ty42_ok : TyOk Tryz.prog ty42:=⟨by kernel_rfl,by kernel_rfl⟩
def ty44 : Ty:=⟨44,.struct #[fd 3 0,fd 3 1,fd 3 2,fd 35 3,fd 3 7,fd 3 8,fd 3 9,fd 3 10,fd 3 11,fd 3 12,fd 3 13,fd 3 14,fd 42 15],17,136,.agg #[.int .i64 0,.int .i64 0,.int .i64 0,.int .i64 0,.int .i64 0,.int .i64 0,.int .i64 0,.int .i64 0,.int .i64 0,.int .i64 0,.int .i64 0,.int .i64 0,.int .i64 0,.int .i64 0,.int .i64 0,.int .i64 0,.int .i64 0]⟩
theorem ty44_ok : TyOk Tryz.prog ty44:=⟨by kernel_rfl,by kernel_rfl⟩
def ty46 : Ty:=⟨46,.struct #[fd 3 0,fd 3 1,fd 4 2],3,24,.agg #[.int .i64 0,.int .i64 0,.bool false]⟩
theorem ty46_ok : TyOk Tryz.prog ty46:=⟨by kernel_rfl,by kernel_rfl⟩
def ty48 : Ty:=⟨48,.struct #[fd 3 0,fd 3 1],2,16,.agg #[.int .i64 0,.int .i64 0]⟩
theorem ty48_ok : TyOk Tryz.prog ty48:=⟨by kernel_rfl,by kernel_rfl⟩
def ty50 : Ty:=⟨50,.struct #[fd 3 0,fd 3 1,fd 31 2],3,40,.agg #[.int .i64 0,.int .i64 0,.slice none 0 0]⟩
theorem ty50_ok : TyOk Tryz.prog ty50:=⟨by kernel_rfl,by kernel_rfl⟩
def ty51 : Ty:=⟨51,.array 32 5,32,32,.agg #[.int .u8 0,.int .u8 0,.int .u8 0,.int .u8 0,.int .u8 0,.int .u8 0,.int .u8 0,.int .u8 0,.int .u8 0,.int .u8 0,.int .u8 0,.int .u8 0,.int .u8 0,.int .u8 0,.int .u8 0,.int .u8 0,.int .u8 0,.int .u8 0,.int .u8 0,.int .u8 0,.int .u8 0,.int .u8 0,.int .u8 0,.int .u8 0,.int .u8 0,.int .u8 0,.int .u8 0,.int .u8 0,.int .u8 0,.int .u8 0,.int .u8 0,.int .u8 0]⟩
theorem ty51_ok : TyOk Tryz.prog ty51:=⟨by kernel_rfl,by kernel_rfl⟩
def ty52 : Ty:=⟨52,.array 32 5,32,32,.agg #[.int .u8 0,.int .u8 0,.int .u8 0,.int .u8 0,.int .u8 0,.int .u8 0,.int .u8 0,.int .u8 0,.int .u8 0,.int .u8 0,.int .u8 0,.int .u8 0,.int .u8 0,.int .u8 0,.int .u8 0,.int .u8 0,.int .u8 0,.int .u8 0,.int .u8 0,.int .u8 0,.int .u8 0,.int .u8 0,.int .u8 0,.int .u8 0,.int .u8 0,.int .u8 0,.int .u8 0,.int .u8 0,.int .u8 0,.int .u8 0,.int .u8 0,.int .u8 0]⟩
theorem ty52_ok : TyOk Tryz.prog ty52:=⟨by kernel_rfl,by kernel_rfl⟩
def ty54 : Ty:=⟨54,.struct #[fd 3 0,fd 3 1,fd 3 2,fd 33 3,fd 37 7,fd 40 12,fd 44 25,fd 46 42,fd 48 45,fd 50 47,fd 52 50],82,536,.agg #[.int .i64 0,.int .i64 0,.int .i64 0,.int .i64 0,.int .i64 0,.slice none 0 0,.string ByteArray.empty,.int .i64 0,.int .i64 0,.int .i64 0,.int .i64 0,.int .i64 0,.int .i64 0,.int .i64 0,.int .i64 0,.int .i64 0,.int .i64 0,.int .i64 0,.int .i64 0,.int .i64 0,.int .i64 0,.slice none 0 0,.slice none 0 0,.slice none 0 0,.slice none 0 0,.int .i64 0,.int .i64 0,.int .i64 0,.int .i64 0,.int .i64 0,.int .i64 0,.int .i64 0,.int .i64 0,.int .i64 0,.int .i64 0,.int .i64 0,.int .i64 0,.int .i64 0,.int .i64 0,.int .i64 0,.int .i64 0,.int .i64 0,.int .i64 0,.int .i64 0,.bool false,.int .i64 0,.int .i64 0,.int .i64 0,.int .i64 0,.slice none 0 0,.int .u8 0,.int .u8 0,.int .u8 0,.int .u8 0,.int .u8 0,.int .u8 0,.int .u8 0,.int .u8 0,.int .u8 0,.int .u8 0,.int .u8 0,.int .u8 0,.int .u8 0,.int .u8 0,.int .u8 0,.int .u8 0,.int .u8 0,.int .u8 0,.int .u8 0,.int .u8 0,.int .u8 0,.int .u8 0,.int .u8 0,.int .u8 0,.int .u8 0,.int .u8 0,.int .u8 0,.int .u8 0,.int .u8 0,.int .u8 0,.int .u8 0,.int .u8 0]⟩
theorem ty54_ok : TyOk Tryz.prog ty54:=⟨by kernel_rfl,by kernel_rfl⟩
def ty57 : Ty:=⟨57,.slice 44,1,24,.slice none 0 0⟩
theorem ty57_ok : TyOk Tryz.prog ty57:=⟨by kernel_rfl,by kernel_rfl⟩
def ty64 : Ty:=⟨64,.slice 42,1,24,.slice none 0 0⟩
theorem ty64_ok : TyOk Tryz.prog ty64:=⟨by kernel_rfl,by kernel_rfl⟩
def ty67 : Ty:=⟨67,.func #[54,54] #[3] false,1,8,.nilFunc⟩
theorem ty67_ok : TyOk Tryz.prog ty67:=⟨by kernel_rfl,by kernel_rfl⟩
def ty74 : Ty:=⟨74,.slice 88,1,24,.slice none 0 0⟩
theorem ty74_ok : TyOk Tryz.prog ty74:=⟨by kernel_rfl,by kernel_rfl⟩
def ty76 : Ty:=⟨76,.slice 35,1,24,.slice none 0 0⟩
theorem ty76_ok : TyOk Tryz.prog ty76:=⟨by kernel_rfl,by kernel_rfl⟩
def ty84 : Ty:=⟨84,.struct #[fd 3 0,fd 40 1,fd 3 14],15,184,.agg #[.int .i64 0,.int .i64 0,.int .i64 0,.int .i64 0,.int .i64 0,.int .i64 0,.int .i64 0,.int .i64 0,.int .i64 0,.int .i64 0,.slice none 0 0,.slice none 0 0,.slice none 0 0,.slice none 0 0,.int .i64 0]⟩
theorem ty84_ok : TyOk Tryz.prog ty84:=⟨by kernel_rfl,by kernel_rfl⟩
def ty88 : Ty:=⟨88,.struct #[fd 3 0,fd 3 1,fd 35 2],6,48,.agg #[.int .i64 0,.int .i64 0,.int .i64 0,.int .i64 0,.int .i64 0,.int .i64 0]⟩
theorem ty88_ok : TyOk Tryz.prog ty88:=⟨by kernel_rfl,by kernel_rfl⟩
def ty94 : Ty:=⟨94,.slice 96,1,24,.slice none 0 0⟩
theorem ty94_ok : TyOk Tryz.prog ty94:=⟨by kernel_rfl,by kernel_rfl⟩
def ty96 : Ty:=⟨96,.pointer 99,1,8,.pointer none⟩
theorem ty96_ok : TyOk Tryz.prog ty96:=⟨by kernel_rfl,by kernel_rfl⟩
def ty97 : Ty:=⟨97,.array 4 4,4,4,.agg #[.bool false,.bool false,.bool false,.bool false]⟩
theorem ty97_ok : TyOk Tryz.prog ty97:=⟨by kernel_rfl,by kernel_rfl⟩
def ty99 : Ty:=⟨99,.struct #[fd 3 0,fd 22 1,fd 97 2],6,40,.agg #[.int .i64 0,.slice none 0 0,.bool false,.bool false,.bool false,.bool false]⟩
theorem ty99_ok : TyOk Tryz.prog ty99:=⟨by kernel_rfl,by kernel_rfl⟩
def ty102 : Ty:=⟨102,.func #[54,54] #[4] false,1,8,.nilFunc⟩
theorem ty102_ok : TyOk Tryz.prog ty102:=⟨by kernel_rfl,by kernel_rfl⟩
def ty106 : Ty:=⟨106,.func #[54] #[4] false,1,8,.nilFunc⟩
theorem ty106_ok : TyOk Tryz.prog ty106:=⟨by kernel_rfl,by kernel_rfl⟩
def ty107 : Ty:=⟨107,.func #[54,114] #[] false,1,8,.nilFunc⟩
theorem ty107_ok : TyOk Tryz.prog ty107:=⟨by kernel_rfl,by kernel_rfl⟩
def ty109 : Ty:=⟨109,.struct #[fd 106 0,fd 107 1],2,16,.agg #[.nilFunc,.nilFunc]⟩
theorem ty109_ok : TyOk Tryz.prog ty109:=⟨by kernel_rfl,by kernel_rfl⟩
def ty111 : Ty:=⟨111,.map 3 109,1,8,.map none⟩
theorem ty111_ok : TyOk Tryz.prog ty111:=⟨by kernel_rfl,by kernel_rfl⟩
def ty113 : Ty:=⟨113,.func #[3] #[4] false,1,8,.nilFunc⟩
theorem ty113_ok : TyOk Tryz.prog ty113:=⟨by kernel_rfl,by kernel_rfl⟩
def ty114 : Ty:=⟨114,.pointer 54,1,8,.pointer none⟩
theorem ty114_ok : TyOk Tryz.prog ty114:=⟨by kernel_rfl,by kernel_rfl⟩
def ty121 : Ty:=⟨121,.slice 5,1,24,.slice none 0 0⟩
theorem ty121_ok : TyOk Tryz.prog ty121:=⟨by kernel_rfl,by kernel_rfl⟩
def ty131 : Ty:=⟨131,.func #[44] #[4] false,1,8,.nilFunc⟩
theorem ty131_ok : TyOk Tryz.prog ty131:=⟨by kernel_rfl,by kernel_rfl⟩
def ty132 : Ty:=⟨132,.slice 84,1,24,.slice none 0 0⟩
theorem ty132_ok : TyOk Tryz.prog ty132:=⟨by kernel_rfl,by kernel_rfl⟩
def ty134 : Ty:=⟨134,.map 3 3,1,8,.map none⟩
theorem ty134_ok : TyOk Tryz.prog ty134:=⟨by kernel_rfl,by kernel_rfl⟩
def ty135 : Ty:=⟨135,.map 3 142,1,8,.map none⟩
theorem ty135_ok : TyOk Tryz.prog ty135:=⟨by kernel_rfl,by kernel_rfl⟩
def ty137 : Ty:=⟨137,.slice 140,1,24,.slice none 0 0⟩
theorem ty137_ok : TyOk Tryz.prog ty137:=⟨by kernel_rfl,by kernel_rfl⟩
def ty140 : Ty:=⟨140,.struct #[fd 3 0,fd 3 1],2,16,.agg #[.int .i64 0,.int .i64 0]⟩
theorem ty140_ok : TyOk Tryz.prog ty140:=⟨by kernel_rfl,by kernel_rfl⟩
def ty142 : Ty:=⟨142,.struct #[fd 3 0,fd 4 1],2,16,.agg #[.int .i64 0,.bool false]⟩
theorem ty142_ok : TyOk Tryz.prog ty142:=⟨by kernel_rfl,by kernel_rfl⟩
def ty144 : Ty:=⟨144,.func #[84] #[4] false,1,8,.nilFunc⟩
theorem ty144_ok : TyOk Tryz.prog ty144:=⟨by kernel_rfl,by kernel_rfl⟩
def ty146 : Ty:=⟨146,.map 3 4,1,8,.map none⟩
theorem ty146_ok : TyOk Tryz.prog ty146:=⟨by kernel_rfl,by kernel_rfl⟩
def ty147 : Ty:=⟨147,.func #[140] #[4] false,1,8,.nilFunc⟩
theorem ty147_ok : TyOk Tryz.prog ty147:=⟨by kernel_rfl,by kernel_rfl⟩
def ty149 : Ty:=⟨149,.struct #[fd 147 0,fd 147 1,fd 147 2],3,24,.agg #[.nilFunc,.nilFunc,.nilFunc]⟩
theorem ty149_ok : TyOk Tryz.prog ty149:=⟨by kernel_rfl,by kernel_rfl⟩
def ty153 : Ty:=⟨153,.array 2 54,164,1072,.agg #[.int .i64 0,.int .i64 0,.int .i64 0,.int .i64 0,.int .i64 0,.slice none 0 0,.string ByteArray.empty,.int .i64 0,.int .i64 0,.int .i64 0,.int .i64 0,.int .i64 0,.int .i64 0,.int .i64 0,.int .i64 0,.int .i64 0,.int .i64 0,.int .i64 0,.int .i64 0,.int .i64 0,.int .i64 0,.slice none 0 0,.slice none 0 0,.slice none 0 0,.slice none 0 0,.int .i64 0,.int .i64 0,.int .i64 0,.int .i64 0,.int .i64 0,.int .i64 0,.int .i64 0,.int .i64 0,.int .i64 0,.int .i64 0,.int .i64 0,.int .i64 0,.int .i64 0,.int .i64 0,.int .i64 0,.int .i64 0,.int .i64 0,.int .i64 0,.int .i64 0,.bool false,.int .i64 0,.int .i64 0,.int .i64 0,.int .i64 0,.slice none 0 0,.int .u8 0,.int .u8 0,.int .u8 0,.int .u8 0,.int .u8 0,.int .u8 0,.int .u8 0,.int .u8 0,.int .u8 0,.int .u8 0,.int .u8 0,.int .u8 0,.int .u8 0,.int .u8 0,.int .u8 0,.int .u8 0,.int .u8 0,.int .u8 0,.int .u8 0,.int .u8 0,.int .u8 0,.int .u8 0,.int .u8 0,.int .u8 0,.int .u8 0,.int .u8 0,.int .u8 0,.int .u8 0,.int .u8 0,.int .u8 0,.int .u8 0,.int .u8 0,.int .i64 0,.int .i64 0,.int .i64 0,.int .i64 0,.int .i64 0,.slice none 0 0,.string ByteArray.empty,.int .i64 0,.int .i64 0,.int .i64 0,.int .i64 0,.int .i64 0,.int .i64 0,.int .i64 0,.int .i64 0,.int .i64 0,.int .i64 0,.int .i64 0,.int .i64 0,.int .i64 0,.int .i64 0,.slice none 0 0,.slice none 0 0,.slice none 0 0,.slice none 0 0,.int .i64 0,.int .i64 0,.int .i64 0,.int .i64 0,.int .i64 0,.int .i64 0,.int .i64 0,.int .i64 0,.int .i64 0,.int .i64 0,.int .i64 0,.int .i64 0,.int .i64 0,.int .i64 0,.int .i64 0,.int .i64 0,.int .i64 0,.int .i64 0,.int .i64 0,.bool false,.int .i64 0,.int .i64 0,.int .i64 0,.int .i64 0,.slice none 0 0,.int .u8 0,.int .u8 0,.int .u8 0,.int .u8 0,.int .u8 0,.int .u8 0,.int .u8 0,.int .u8 0,.int .u8 0,.int .u8 0,.int .u8 0,.int .u8 0,.int .u8 0,.int .u8 0,.int .u8 0,.int .u8 0,.int .u8 0,.int .u8 0,.int .u8 0,.int .u8 0,.int .u8 0,.int .u8 0,.int .u8 0,.int .u8 0,.int .u8 0,.int .u8 0,.int .u8 0,.int .u8 0,.int .u8 0,.int .u8 0,.int .u8 0,.int .u8 0]⟩
theorem ty153_ok : TyOk Tryz.prog ty153:=⟨by kernel_rfl,by kernel_rfl⟩
def ty154 : Ty:=⟨154,.map 35 153,1,8,.map none⟩
theorem ty154_ok : TyOk Tryz.prog ty154:=⟨by kernel_rfl,by kernel_rfl⟩
def ty158 : Ty:=⟨158,.func #[35,35] #[3] false,1,8,.nilFunc⟩
theorem ty158_ok : TyOk Tryz.prog ty158:=⟨by kernel_rfl,by kernel_rfl⟩
def ty159 : Ty:=⟨159,.func #[35,153] #[4] false,1,8,.nilFunc⟩
theorem ty159_ok : TyOk Tryz.prog ty159:=⟨by kernel_rfl,by kernel_rfl⟩
def ty161 : Ty:=⟨161,.struct #[fd 3 0,fd 4 1],2,16,.agg #[.int .i64 0,.bool false]⟩
theorem ty161_ok : TyOk Tryz.prog ty161:=⟨by kernel_rfl,by kernel_rfl⟩
def ty163 : Ty:=⟨163,.map 3 96,1,8,.map none⟩
theorem ty163_ok : TyOk Tryz.prog ty163:=⟨by kernel_rfl,by kernel_rfl⟩
def ty166 : Ty:=⟨166,.func #[96,96] #[3] false,1,8,.nilFunc⟩
theorem ty166_ok : TyOk Tryz.prog ty166:=⟨by kernel_rfl,by kernel_rfl⟩
def ty182 : Ty:=⟨182,.func #[236] #[] false,1,8,.nilFunc⟩
theorem ty182_ok : TyOk Tryz.prog ty182:=⟨by kernel_rfl,by kernel_rfl⟩
def ty184 : Ty:=⟨184,.func #[42,42] #[3] false,1,8,.nilFunc⟩
theorem ty184_ok : TyOk Tryz.prog ty184:=⟨by kernel_rfl,by kernel_rfl⟩
def ty186 : Ty:=⟨186,.slice 192,1,24,.slice none 0 0⟩
theorem ty186_ok : TyOk Tryz.prog ty186:=⟨by kernel_rfl,by kernel_rfl⟩
def ty190 : Ty:=⟨190,.slice 9,1,24,.slice none 0 0⟩
theorem ty190_ok : TyOk Tryz.prog ty190:=⟨by kernel_rfl,by kernel_rfl⟩
def ty192 : Ty:=⟨192,.struct #[fd 3 0,fd 3 1,fd 9 2,fd 186 3,fd 190 4],5,80,.agg #[.int .i64 0,.int .i64 0,.string ByteArray.empty,.slice none 0 0,.slice none 0 0]⟩
theorem ty192_ok : TyOk Tryz.prog ty192:=⟨by kernel_rfl,by kernel_rfl⟩
def ty198 : Ty:=⟨198,.func #[84,84] #[3] false,1,8,.nilFunc⟩
theorem ty198_ok : TyOk Tryz.prog ty198:=⟨by kernel_rfl,by kernel_rfl⟩
def ty201 : Ty:=⟨201,.func #[140,140] #[3] false,1,8,.nilFunc⟩
theorem ty201_ok : TyOk Tryz.prog ty201:=⟨by kernel_rfl,by kernel_rfl⟩
def ty217 : Ty:=⟨217,.func #[96,96] #[4] false,1,8,.nilFunc⟩
theorem ty217_ok : TyOk Tryz.prog ty217:=⟨by kernel_rfl,by kernel_rfl⟩
def ty227 : Ty:=⟨227,.func #[44,233] #[] false,1,8,.nilFunc⟩
theorem ty227_ok : TyOk Tryz.prog ty227:=⟨by kernel_rfl,by kernel_rfl⟩
def ty229 : Ty:=⟨229,.struct #[fd 131 0,fd 227 1],2,16,.agg #[.nilFunc,.nilFunc]⟩
theorem ty229_ok : TyOk Tryz.prog ty229:=⟨by kernel_rfl,by kernel_rfl⟩
def ty231 : Ty:=⟨231,.map 3 229,1,8,.map none⟩
theorem ty231_ok : TyOk Tryz.prog ty231:=⟨by kernel_rfl,by kernel_rfl⟩
def ty233 : Ty:=⟨233,.pointer 44,1,8,.pointer none⟩
theorem ty233_ok : TyOk Tryz.prog ty233:=⟨by kernel_rfl,by kernel_rfl⟩
def ty237 : Ty:=⟨237,.func #[192] #[4] false,1,8,.nilFunc⟩
theorem ty237_ok : TyOk Tryz.prog ty237:=⟨by kernel_rfl,by kernel_rfl⟩
def ty245 : Ty:=⟨245,.func #[121,192] #[121] false,1,8,.nilFunc⟩
theorem ty245_ok : TyOk Tryz.prog ty245:=⟨by kernel_rfl,by kernel_rfl⟩
def ty247 : Ty:=⟨247,.struct #[fd 245 0],1,8,.agg #[.nilFunc]⟩
theorem ty247_ok : TyOk Tryz.prog ty247:=⟨by kernel_rfl,by kernel_rfl⟩
def ty248 : Ty:=⟨248,.pointer 295,1,8,.pointer none⟩
theorem ty248_ok : TyOk Tryz.prog ty248:=⟨by kernel_rfl,by kernel_rfl⟩
def ty251 : Ty:=⟨251,.slice 38,1,24,.slice none 0 0⟩
theorem ty251_ok : TyOk Tryz.prog ty251:=⟨by kernel_rfl,by kernel_rfl⟩
def ty257 : Ty:=⟨257,.array 25 3,25,200,.agg #[.int .i64 0,.int .i64 0,.int .i64 0,.int .i64 0,.int .i64 0,.int .i64 0,.int .i64 0,.int .i64 0,.int .i64 0,.int .i64 0,.int .i64 0,.int .i64 0,.int .i64 0,.int .i64 0,.int .i64 0,.int .i64 0,.int .i64 0,.int .i64 0,.int .i64 0,.int .i64 0,.int .i64 0,.int .i64 0,.int .i64 0,.int .i64 0,.int .i64 0]⟩
theorem ty257_ok : TyOk Tryz.prog ty257:=⟨by kernel_rfl,by kernel_rfl⟩
def ty258 : Ty:=⟨258,.int .u64,1,8,.int .u64 0⟩
theorem ty258_ok : TyOk Tryz.prog ty258:=⟨by kernel_rfl,by kernel_rfl⟩
def ty259 : Ty:=⟨259,.array 24 258,24,192,.agg #[.int .u64 0,.int .u64 0,.int .u64 0,.int .u64 0,.int .u64 0,.int .u64 0,.int .u64 0,.int .u64 0,.int .u64 0,.int .u64 0,.int .u64 0,.int .u64 0,.int .u64 0,.int .u64 0,.int .u64 0,.int .u64 0,.int .u64 0,.int .u64 0,.int .u64 0,.int .u64 0,.int .u64 0,.int .u64 0,.int .u64 0,.int .u64 0]⟩
theorem ty259_ok : TyOk Tryz.prog ty259:=⟨by kernel_rfl,by kernel_rfl⟩
def ty263 : Ty:=⟨263,.array 25 258,25,200,.agg #[.int .u64 0,.int .u64 0,.int .u64 0,.int .u64 0,.int .u64 0,.int .u64 0,.int .u64 0,.int .u64 0,.int .u64 0,.int .u64 0,.int .u64 0,.int .u64 0,.int .u64 0,.int .u64 0,.int .u64 0,.int .u64 0,.int .u64 0,.int .u64 0,.int .u64 0,.int .u64 0,.int .u64 0,.int .u64 0,.int .u64 0,.int .u64 0,.int .u64 0]⟩
theorem ty263_ok : TyOk Tryz.prog ty263:=⟨by kernel_rfl,by kernel_rfl⟩
def ty265 : Ty:=⟨265,.pointer 257,1,8,.pointer none⟩
theorem ty265_ok : TyOk Tryz.prog ty265:=⟨by kernel_rfl,by kernel_rfl⟩
def ty266 : Ty:=⟨266,.pointer 259,1,8,.pointer none⟩
theorem ty266_ok : TyOk Tryz.prog ty266:=⟨by kernel_rfl,by kernel_rfl⟩
def ty267 : Ty:=⟨267,.slice 121,1,24,.slice none 0 0⟩
theorem ty267_ok : TyOk Tryz.prog ty267:=⟨by kernel_rfl,by kernel_rfl⟩
def ty271 : Ty:=⟨271,.int .i64,1,8,.int .i64 0⟩
theorem ty271_ok : TyOk Tryz.prog ty271:=⟨by kernel_rfl,by kernel_rfl⟩
def ty278 : Ty:=⟨278,.int .u32,1,4,.int .u32 0⟩
theorem ty278_ok : TyOk Tryz.prog ty278:=⟨by kernel_rfl,by kernel_rfl⟩
def ty282 : Ty:=⟨282,.array 25 258,25,200,.agg #[.int .u64 0,.int .u64 0,.int .u64 0,.int .u64 0,.int .u64 0,.int .u64 0,.int .u64 0,.int .u64 0,.int .u64 0,.int .u64 0,.int .u64 0,.int .u64 0,.int .u64 0,.int .u64 0,.int .u64 0,.int .u64 0,.int .u64 0,.int .u64 0,.int .u64 0,.int .u64 0,.int .u64 0,.int .u64 0,.int .u64 0,.int .u64 0,.int .u64 0]⟩
theorem ty282_ok : TyOk Tryz.prog ty282:=⟨by kernel_rfl,by kernel_rfl⟩
def ty288 : Ty:=⟨288,.func #[161] #[4] false,1,8,.nilFunc⟩
theorem ty288_ok : TyOk Tryz.prog ty288:=⟨by kernel_rfl,by kernel_rfl⟩
def ty295 : Ty:=⟨295,.array 5 247,5,40,.agg #[.nilFunc,.nilFunc,.nilFunc,.nilFunc,.nilFunc]⟩
theorem ty295_ok : TyOk Tryz.prog ty295:=⟨by kernel_rfl,by kernel_rfl⟩
def ty315 : Ty:=⟨315,.array 5 258,5,40,.agg #[.int .u64 0,.int .u64 0,.int .u64 0,.int .u64 0,.int .u64 0]⟩
theorem ty315_ok : TyOk Tryz.prog ty315:=⟨by kernel_rfl,by kernel_rfl⟩
def ty322 : Ty:=⟨322,.int .u64,1,8,.int .u64 0⟩
theorem ty322_ok : TyOk Tryz.prog ty322:=⟨by kernel_rfl,by kernel_rfl⟩
def ty326 : Ty:=⟨326,.pointer 3,1,8,.pointer none⟩
theorem ty326_ok : TyOk Tryz.prog ty326:=⟨by kernel_rfl,by kernel_rfl⟩
def ty331 : Ty:=⟨331,.array 168 258,168,1344,.agg #[.int .u64 0,.int .u64 0,.int .u64 0,.int .u64 0,.int .u64 0,.int .u64 0,.int .u64 0,.int .u64 0,.int .u64 0,.int .u64 0,.int .u64 0,.int .u64 0,.int .u64 0,.int .u64 0,.int .u64 0,.int .u64 0,.int .u64 0,.int .u64 0,.int .u64 0,.int .u64 0,.int .u64 0,.int .u64 0,.int .u64 0,.int .u64 0,.int .u64 0,.int .u64 0,.int .u64 0,.int .u64 0,.int .u64 0,.int .u64 0,.int .u64 0,.int .u64 0,.int .u64 0,.int .u64 0,.int .u64 0,.int .u64 0,.int .u64 0,.int .u64 0,.int .u64 0,.int .u64 0,.int .u64 0,.int .u64 0,.int .u64 0,.int .u64 0,.int .u64 0,.int .u64 0,.int .u64 0,.int .u64 0,.int .u64 0,.int .u64 0,.int .u64 0,.int .u64 0,.int .u64 0,.int .u64 0,.int .u64 0,.int .u64 0,.int .u64 0,.int .u64 0,.int .u64 0,.int .u64 0,.int .u64 0,.int .u64 0,.int .u64 0,.int .u64 0,.int .u64 0,.int .u64 0,.int .u64 0,.int .u64 0,.int .u64 0,.int .u64 0,.int .u64 0,.int .u64 0,.int .u64 0,.int .u64 0,.int .u64 0,.int .u64 0,.int .u64 0,.int .u64 0,.int .u64 0,.int .u64 0,.int .u64 0,.int .u64 0,.int .u64 0,.int .u64 0,.int .u64 0,.int .u64 0,.int .u64 0,.int .u64 0,.int .u64 0,.int .u64 0,.int .u64 0,.int .u64 0,.int .u64 0,.int .u64 0,.int .u64 0,.int .u64 0,.int .u64 0,.int .u64 0,.int .u64 0,.int .u64 0,.int .u64 0,.int .u64 0,.int .u64 0,.int .u64 0,.int .u64 0,.int .u64 0,.int .u64 0,.int .u64 0,.int .u64 0,.int .u64 0,.int .u64 0,.int .u64 0,.int .u64 0,.int .u64 0,.int .u64 0,.int .u64 0,.int .u64 0,.int .u64 0,.int .u64 0,.int .u64 0,.int .u64 0,.int .u64 0,.int .u64 0,.int .u64 0,.int .u64 0,.int .u64 0,.int .u64 0,.int .u64 0,.int .u64 0,.int .u64 0,.int .u64 0,.int .u64 0,.int .u64 0,.int .u64 0,.int .u64 0,.int .u64 0,.int .u64 0,.int .u64 0,.int .u64 0,.int .u64 0,.int .u64 0,.int .u64 0,.int .u64 0,.int .u64 0,.int .u64 0,.int .u64 0,.int .u64 0,.int .u64 0,.int .u64 0,.int .u64 0,.int .u64 0,.int .u64 0,.int .u64 0,.int .u64 0,.int .u64 0,.int .u64 0,.int .u64 0,.int .u64 0,.int .u64 0,.int .u64 0,.int .u64 0,.int .u64 0,.int .u64 0,.int .u64 0,.int .u64 0,.int .u64 0,.int .u64 0,.int .u64 0]⟩
theorem ty331_ok : TyOk Tryz.prog ty331:=⟨by kernel_rfl,by kernel_rfl⟩
def ty354 : Ty:=⟨354,.array 5 4,5,5,.agg #[.bool false,.bool false,.bool false,.bool false,.bool false]⟩
theorem ty354_ok : TyOk Tryz.prog ty354:=⟨by kernel_rfl,by kernel_rfl⟩
def ty361 : Ty:=⟨361,.array 24 5,24,24,.agg #[.int .u8 0,.int .u8 0,.int .u8 0,.int .u8 0,.int .u8 0,.int .u8 0,.int .u8 0,.int .u8 0,.int .u8 0,.int .u8 0,.int .u8 0,.int .u8 0,.int .u8 0,.int .u8 0,.int .u8 0,.int .u8 0,.int .u8 0,.int .u8 0,.int .u8 0,.int .u8 0,.int .u8 0,.int .u8 0,.int .u8 0,.int .u8 0]⟩
theorem ty361_ok : TyOk Tryz.prog ty361:=⟨by kernel_rfl,by kernel_rfl⟩
def ty366 : Ty:=⟨366,.array 20 258,20,160,.agg #[.int .u64 0,.int .u64 0,.int .u64 0,.int .u64 0,.int .u64 0,.int .u64 0,.int .u64 0,.int .u64 0,.int .u64 0,.int .u64 0,.int .u64 0,.int .u64 0,.int .u64 0,.int .u64 0,.int .u64 0,.int .u64 0,.int .u64 0,.int .u64 0,.int .u64 0,.int .u64 0]⟩
theorem ty366_ok : TyOk Tryz.prog ty366:=⟨by kernel_rfl,by kernel_rfl⟩
def ty367 : Ty:=⟨367,.array 65 5,65,65,.agg #[.int .u8 0,.int .u8 0,.int .u8 0,.int .u8 0,.int .u8 0,.int .u8 0,.int .u8 0,.int .u8 0,.int .u8 0,.int .u8 0,.int .u8 0,.int .u8 0,.int .u8 0,.int .u8 0,.int .u8 0,.int .u8 0,.int .u8 0,.int .u8 0,.int .u8 0,.int .u8 0,.int .u8 0,.int .u8 0,.int .u8 0,.int .u8 0,.int .u8 0,.int .u8 0,.int .u8 0,.int .u8 0,.int .u8 0,.int .u8 0,.int .u8 0,.int .u8 0,.int .u8 0,.int .u8 0,.int .u8 0,.int .u8 0,.int .u8 0,.int .u8 0,.int .u8 0,.int .u8 0,.int .u8 0,.int .u8 0,.int .u8 0,.int .u8 0,.int .u8 0,.int .u8 0,.int .u8 0,.int .u8 0,.int .u8 0,.int .u8 0,.int .u8 0,.int .u8 0,.int .u8 0,.int .u8 0,.int .u8 0,.int .u8 0,.int .u8 0,.int .u8 0,.int .u8 0,.int .u8 0,.int .u8 0,.int .u8 0,.int .u8 0,.int .u8 0,.int .u8 0]⟩
theorem ty367_ok : TyOk Tryz.prog ty367:=⟨by kernel_rfl,by kernel_rfl⟩
def ty368 : Ty:=⟨368,.array 64 5,64,64,.agg #[.int .u8 0,.int .u8 0,.int .u8 0,.int .u8 0,.int .u8 0,.int .u8 0,.int .u8 0,.int .u8 0,.int .u8 0,.int .u8 0,.int .u8 0,.int .u8 0,.int .u8 0,.int .u8 0,.int .u8 0,.int .u8 0,.int .u8 0,.int .u8 0,.int .u8 0,.int .u8 0,.int .u8 0,.int .u8 0,.int .u8 0,.int .u8 0,.int .u8 0,.int .u8 0,.int .u8 0,.int .u8 0,.int .u8 0,.int .u8 0,.int .u8 0,.int .u8 0,.int .u8 0,.int .u8 0,.int .u8 0,.int .u8 0,.int .u8 0,.int .u8 0,.int .u8 0,.int .u8 0,.int .u8 0,.int .u8 0,.int .u8 0,.int .u8 0,.int .u8 0,.int .u8 0,.int .u8 0,.int .u8 0,.int .u8 0,.int .u8 0,.int .u8 0,.int .u8 0,.int .u8 0,.int .u8 0,.int .u8 0,.int .u8 0,.int .u8 0,.int .u8 0,.int .u8 0,.int .u8 0,.int .u8 0,.int .u8 0,.int .u8 0,.int .u8 0]⟩
theorem ty368_ok : TyOk Tryz.prog ty368:=⟨by kernel_rfl,by kernel_rfl⟩
def ts : List Ty:=[ty2,ty3,ty4,ty5,ty9,ty22,ty25,ty26,ty30,ty31,ty33,ty35,ty37,ty38,ty40,ty42,ty44,ty46,ty48,ty50,ty51,ty52,ty54,ty57,ty64,ty67,ty74,ty76,ty84,ty88,ty94,ty96,ty97,ty99,ty102,ty106,ty107,ty109,ty111,ty113,ty114,ty121,ty131,ty132,ty134,ty135,ty137,ty140,ty142,ty144,ty146,ty147,ty149,ty153,ty154,ty158,ty159,ty161,ty163,ty166,ty182,ty184,ty186,ty190,ty192,ty198,ty201,ty217,ty227,ty229,ty231,ty233,ty237,ty245,ty247,ty248,ty251,ty257,ty258,ty259,ty263,ty265,ty266,ty267,ty271,ty278,ty282,ty288,ty295,ty315,ty322,ty326,ty331,ty354,ty361,ty366,ty367,ty368]
theorem ts_ok : TsOk Tryz.prog ts:=by
 intro t ht
 simp only [ts,List.mem_cons,List.not_mem_nil,or_false] at ht
 rcases ht with rfl|rfl|rfl|rfl|rfl|rfl|rfl|rfl|rfl|rfl|rfl|rfl|rfl|rfl|rfl|rfl|rfl|rfl|rfl|rfl|rfl|rfl|rfl|rfl|rfl|rfl|rfl|rfl|rfl|rfl|rfl|rfl|rfl|rfl|rfl|rfl|rfl|rfl|rfl|rfl|rfl|rfl|rfl|rfl|rfl|rfl|rfl|rfl|rfl|rfl|rfl|rfl|rfl|rfl|rfl|rfl|rfl|rfl|rfl|rfl|rfl|rfl|rfl|rfl|rfl|rfl|rfl|rfl|rfl|rfl|rfl|rfl|rfl|rfl|rfl|rfl|rfl|rfl|rfl|rfl|rfl|rfl|rfl|rfl|rfl|rfl|rfl|rfl|rfl|rfl|rfl|rfl|rfl|rfl|rfl|rfl|rfl|rfl
 · exact ty2_ok
 · exact ty3_ok
 · exact ty4_ok
 · exact ty5_ok
 · exact ty9_ok
 · exact ty22_ok
 · exact ty25_ok
 · exact ty26_ok
 · exact ty30_ok
 · exact ty31_ok
 · exact ty33_ok
 · exact ty35_ok
 · exact ty37_ok
 · exact ty38_ok
 · exact ty40_ok
 · exact ty42_ok
 · exact ty44_ok
 · exact ty46_ok
 · exact ty48_ok
 · exact ty50_ok
 · exact ty51_ok
 · exact ty52_ok
 · exact ty54_ok
 · exact ty57_ok
 · exact ty64_ok
 · exact ty67_ok
 · exact ty74_ok
 · exact ty76_ok
 · exact ty84_ok
 · exact ty88_ok
 · exact ty94_ok
 · exact ty96_ok
 · exact ty97_ok
 · exact ty99_ok
 · exact ty102_ok
 · exact ty106_ok
 · exact ty107_ok
 · exact ty109_ok
 · exact ty111_ok
 · exact ty113_ok
 · exact ty114_ok
 · exact ty121_ok
 · exact ty131_ok
 · exact ty132_ok
 · exact ty134_ok
 · exact ty135_ok
 · exact ty137_ok
 · exact ty140_ok
 · exact ty142_ok
 · exact ty144_ok
 · exact ty146_ok
 · exact ty147_ok
 · exact ty149_ok
 · exact ty153_ok
 · exact ty154_ok
 · exact ty158_ok
 · exact ty159_ok
 · exact ty161_ok
 · exact ty163_ok
 · exact ty166_ok
 · exact ty182_ok
 · exact ty184_ok
 · exact ty186_ok
 · exact ty190_ok
 · exact ty192_ok
 · exact ty198_ok
 · exact ty201_ok
 · exact ty217_ok
 · exact ty227_ok
 · exact ty229_ok
 · exact ty231_ok
 · exact ty233_ok
 · exact ty237_ok
 · exact ty245_ok
 · exact ty247_ok
 · exact ty248_ok
 · exact ty251_ok
 · exact ty257_ok
 · exact ty258_ok
 · exact ty259_ok
 · exact ty263_ok
 · exact ty265_ok
 · exact ty266_ok
 · exact ty267_ok
 · exact ty271_ok
 · exact ty278_ok
 · exact ty282_ok
 · exact ty288_ok
 · exact ty295_ok
 · exact ty315_ok
 · exact ty322_ok
 · exact ty326_ok
 · exact ty331_ok
 · exact ty354_ok
 · exact ty361_ok
 · exact ty366_ok
 · exact ty367_ok
 · exact ty368_ok
theorem has15 : Has Tryz.prog 15:=⟨_,Go.Proofs.Tryz.func15,by kernel_rfl,by kernel_rfl⟩
theorem has16 : Has Tryz.prog 16:=⟨_,Go.Proofs.Tryz.func16,by kernel_rfl,by kernel_rfl⟩
theorem has17 : Has Tryz.prog 17:=⟨_,Go.Proofs.Tryz.func17,by kernel_rfl,by kernel_rfl⟩
theorem has18 : Has Tryz.prog 18:=⟨_,Go.Proofs.Tryz.func18,by kernel_rfl,by kernel_rfl⟩
theorem has19 : Has Tryz.prog 19:=⟨_,Go.Proofs.Tryz.func19,by kernel_rfl,by kernel_rfl⟩
theorem has20 : Has Tryz.prog 20:=⟨_,Go.Proofs.Tryz.func20,by kernel_rfl,by kernel_rfl⟩
theorem Bfa : Has Tryz.prog 22:=⟨_,Go.Proofs.Tryz.func22,by kernel_rfl,by kernel_rfl⟩
theorem has23 : Has Tryz.prog 23:=⟨_,Go.Proofs.Tryz.func23,by kernel_rfl,by kernel_rfl⟩
theorem has24 : Has Tryz.prog 24:=⟨_,Go.Proofs.Tryz.func24,by kernel_rfl,by kernel_rfl⟩
theorem has25 : Has Tryz.prog 25:=⟨_,Go.Proofs.Tryz.func25,by kernel_rfl,by kernel_rfl⟩
theorem has26 : Has Tryz.prog 26:=⟨_,Go.Proofs.Tryz.func26,by kernel_rfl,by kernel_rfl⟩
theorem has27 : Has Tryz.prog 27:=⟨_,Go.Proofs.Tryz.func27,by kernel_rfl,by kernel_rfl⟩
theorem has28 : Has Tryz.prog 28:=⟨_,Go.Proofs.Tryz.func28,by kernel_rfl,by kernel_rfl⟩
theorem has29 : Has Tryz.prog 29:=⟨_,Go.Proofs.Tryz.func29,by kernel_rfl,by kernel_rfl⟩
theorem has30 : Has Tryz.prog 30:=⟨_,Go.Proofs.Tryz.func30,by kernel_rfl,by kernel_rfl⟩
theorem has31 : Has Tryz.prog 31:=⟨_,Go.Proofs.Tryz.func31,by kernel_rfl,by kernel_rfl⟩
theorem has34 : Has Tryz.prog 34:=⟨_,Go.Proofs.Tryz.func34,by kernel_rfl,by kernel_rfl⟩
theorem has44 : Has Tryz.prog 44:=⟨_,Go.Proofs.Tryz.func44,by kernel_rfl,by kernel_rfl⟩
theorem has45 : Has Tryz.prog 45:=⟨_,Go.Proofs.Tryz.func45,by kernel_rfl,by kernel_rfl⟩
theorem has50 : Has Tryz.prog 50:=⟨_,Go.Proofs.Tryz.func50,by kernel_rfl,by kernel_rfl⟩
theorem has51 : Has Tryz.prog 51:=⟨_,Go.Proofs.Tryz.func51,by kernel_rfl,by kernel_rfl⟩
theorem has52 : Has Tryz.prog 52:=⟨_,Go.Proofs.Tryz.func52,by kernel_rfl,by kernel_rfl⟩
theorem has53 : Has Tryz.prog 53:=⟨_,Go.Proofs.Tryz.func53,by kernel_rfl,by kernel_rfl⟩
theorem has54 : Has Tryz.prog 54:=⟨_,Go.Proofs.Tryz.func54,by kernel_rfl,by kernel_rfl⟩
theorem has55 : Has Tryz.prog 55:=⟨_,Go.Proofs.Tryz.func55,by kernel_rfl,by kernel_rfl⟩
theorem has56 : Has Tryz.prog 56:=⟨_,Go.Proofs.Tryz.func56,by kernel_rfl,by kernel_rfl⟩
theorem has57 : Has Tryz.prog 57:=⟨_,Go.Proofs.Tryz.func57,by kernel_rfl,by kernel_rfl⟩
theorem has58 : Has Tryz.prog 58:=⟨_,Go.Proofs.Tryz.func58,by kernel_rfl,by kernel_rfl⟩
theorem has59 : Has Tryz.prog 59:=⟨_,Go.Proofs.Tryz.func59,by kernel_rfl,by kernel_rfl⟩
theorem has60 : Has Tryz.prog 60:=⟨_,Go.Proofs.Tryz.func60,by kernel_rfl,by kernel_rfl⟩
theorem has61 : Has Tryz.prog 61:=⟨_,Go.Proofs.Tryz.func61,by kernel_rfl,by kernel_rfl⟩
theorem has62 : Has Tryz.prog 62:=⟨_,Go.Proofs.Tryz.func62,by kernel_rfl,by kernel_rfl⟩
theorem has63 : Has Tryz.prog 63:=⟨_,Go.Proofs.Tryz.func63,by kernel_rfl,by kernel_rfl⟩
theorem has64 : Has Tryz.prog 64:=⟨_,Go.Proofs.Tryz.func64,by kernel_rfl,by kernel_rfl⟩
theorem has65 : Has Tryz.prog 65:=⟨_,Go.Proofs.Tryz.func65,by kernel_rfl,by kernel_rfl⟩
theorem has66 : Has Tryz.prog 66:=⟨_,Go.Proofs.Tryz.func66,by kernel_rfl,by kernel_rfl⟩
theorem has67 : Has Tryz.prog 67:=⟨_,Go.Proofs.Tryz.func67,by kernel_rfl,by kernel_rfl⟩
theorem has68 : Has Tryz.prog 68:=⟨_,Go.Proofs.Tryz.func68,by kernel_rfl,by kernel_rfl⟩
theorem has69 : Has Tryz.prog 69:=⟨_,Go.Proofs.Tryz.func69,by kernel_rfl,by kernel_rfl⟩
theorem has70 : Has Tryz.prog 70:=⟨_,Go.Proofs.Tryz.func70,by kernel_rfl,by kernel_rfl⟩
theorem has71 : Has Tryz.prog 71:=⟨_,Go.Proofs.Tryz.func71,by kernel_rfl,by kernel_rfl⟩
theorem has72 : Has Tryz.prog 72:=⟨_,Go.Proofs.Tryz.func72,by kernel_rfl,by kernel_rfl⟩
theorem has73 : Has Tryz.prog 73:=⟨_,Go.Proofs.Tryz.func73,by kernel_rfl,by kernel_rfl⟩
theorem has74 : Has Tryz.prog 74:=⟨_,Go.Proofs.Tryz.func74,by kernel_rfl,by kernel_rfl⟩
theorem has78 : Has Tryz.prog 78:=⟨_,Go.Proofs.Tryz.func78,by kernel_rfl,by kernel_rfl⟩
theorem has96 : Has Tryz.prog 96:=⟨_,Go.Proofs.Tryz.func96,by kernel_rfl,by kernel_rfl⟩
theorem has97 : Has Tryz.prog 97:=⟨_,Go.Proofs.Tryz.func97,by kernel_rfl,by kernel_rfl⟩
theorem has98 : Has Tryz.prog 98:=⟨_,Go.Proofs.Tryz.func98,by kernel_rfl,by kernel_rfl⟩
theorem has99 : Has Tryz.prog 99:=⟨_,Go.Proofs.Tryz.func99,by kernel_rfl,by kernel_rfl⟩
theorem has105 : Has Tryz.prog 105:=⟨_,Go.Proofs.Tryz.func105,by kernel_rfl,by kernel_rfl⟩
theorem has106 : Has Tryz.prog 106:=⟨_,Go.Proofs.Tryz.func106,by kernel_rfl,by kernel_rfl⟩
theorem has107 : Has Tryz.prog 107:=⟨_,Go.Proofs.Tryz.func107,by kernel_rfl,by kernel_rfl⟩
theorem has108 : Has Tryz.prog 108:=⟨_,Go.Proofs.Tryz.func108,by kernel_rfl,by kernel_rfl⟩
theorem Uw : Has Tryz.prog 109:=⟨_,Go.Proofs.Tryz.func109,by kernel_rfl,by kernel_rfl⟩
theorem has110 : Has Tryz.prog 110:=⟨_,Go.Proofs.Tryz.func110,by kernel_rfl,by kernel_rfl⟩
theorem has111 : Has Tryz.prog 111:=⟨_,Go.Proofs.Tryz.func111,by kernel_rfl,by kernel_rfl⟩
theorem has112 : Has Tryz.prog 112:=⟨_,Go.Proofs.Tryz.func112,by kernel_rfl,by kernel_rfl⟩
theorem has113 : Has Tryz.prog 113:=⟨_,Go.Proofs.Tryz.func113,by kernel_rfl,by kernel_rfl⟩
theorem has114 : Has Tryz.prog 114:=⟨_,Go.Proofs.Tryz.func114,by kernel_rfl,by kernel_rfl⟩
theorem has115 : Has Tryz.prog 115:=⟨_,Go.Proofs.Tryz.func115,by kernel_rfl,by kernel_rfl⟩
theorem has116 : Has Tryz.prog 116:=⟨_,Go.Proofs.Tryz.func116,by kernel_rfl,by kernel_rfl⟩
theorem has117 : Has Tryz.prog 117:=⟨_,Go.Proofs.Tryz.func117,by kernel_rfl,by kernel_rfl⟩
theorem has118 : Has Tryz.prog 118:=⟨_,Go.Proofs.Tryz.func118,by kernel_rfl,by kernel_rfl⟩
theorem has119 : Has Tryz.prog 119:=⟨_,Go.Proofs.Tryz.func119,by kernel_rfl,by kernel_rfl⟩
theorem has120 : Has Tryz.prog 120:=⟨_,Go.Proofs.Tryz.func120,by kernel_rfl,by kernel_rfl⟩
theorem has121 : Has Tryz.prog 121:=⟨_,Go.Proofs.Tryz.func121,by kernel_rfl,by kernel_rfl⟩
theorem has122 : Has Tryz.prog 122:=⟨_,Go.Proofs.Tryz.func122,by kernel_rfl,by kernel_rfl⟩
theorem has123 : Has Tryz.prog 123:=⟨_,Go.Proofs.Tryz.func123,by kernel_rfl,by kernel_rfl⟩
theorem Nt : Has Tryz.prog 124:=⟨_,Go.Proofs.Tryz.func124,by kernel_rfl,by kernel_rfl⟩
theorem has125 : Has Tryz.prog 125:=⟨_,Go.Proofs.Tryz.func125,by kernel_rfl,by kernel_rfl⟩
theorem has126 : Has Tryz.prog 126:=⟨_,Go.Proofs.Tryz.func126,by kernel_rfl,by kernel_rfl⟩
theorem has127 : Has Tryz.prog 127:=⟨_,Go.Proofs.Tryz.func127,by kernel_rfl,by kernel_rfl⟩
theorem has128 : Has Tryz.prog 128:=⟨_,Go.Proofs.Tryz.func128,by kernel_rfl,by kernel_rfl⟩
theorem has129 : Has Tryz.prog 129:=⟨_,Go.Proofs.Tryz.func129,by kernel_rfl,by kernel_rfl⟩
theorem has130 : Has Tryz.prog 130:=⟨_,Go.Proofs.Tryz.func130,by kernel_rfl,by kernel_rfl⟩
theorem has131 : Has Tryz.prog 131:=⟨_,Go.Proofs.Tryz.func131,by kernel_rfl,by kernel_rfl⟩
theorem has132 : Has Tryz.prog 132:=⟨_,Go.Proofs.Tryz.func132,by kernel_rfl,by kernel_rfl⟩
theorem has133 : Has Tryz.prog 133:=⟨_,Go.Proofs.Tryz.func133,by kernel_rfl,by kernel_rfl⟩
theorem has134 : Has Tryz.prog 134:=⟨_,Go.Proofs.Tryz.func134,by kernel_rfl,by kernel_rfl⟩
theorem has135 : Has Tryz.prog 135:=⟨_,Go.Proofs.Tryz.func135,by kernel_rfl,by kernel_rfl⟩
theorem Ns : Has Tryz.prog 136:=⟨_,Go.Proofs.Tryz.func136,by kernel_rfl,by kernel_rfl⟩
theorem has137 : Has Tryz.prog 137:=⟨_,Go.Proofs.Tryz.func137,by kernel_rfl,by kernel_rfl⟩
theorem has138 : Has Tryz.prog 138:=⟨_,Go.Proofs.Tryz.func138,by kernel_rfl,by kernel_rfl⟩
theorem has139 : Has Tryz.prog 139:=⟨_,Go.Proofs.Tryz.func139,by kernel_rfl,by kernel_rfl⟩
theorem has140 : Has Tryz.prog 140:=⟨_,Go.Proofs.Tryz.func140,by kernel_rfl,by kernel_rfl⟩
theorem has141 : Has Tryz.prog 141:=⟨_,Go.Proofs.Tryz.func141,by kernel_rfl,by kernel_rfl⟩
theorem has142 : Has Tryz.prog 142:=⟨_,Go.Proofs.Tryz.func142,by kernel_rfl,by kernel_rfl⟩
theorem has143 : Has Tryz.prog 143:=⟨_,Go.Proofs.Tryz.func143,by kernel_rfl,by kernel_rfl⟩
theorem has144 : Has Tryz.prog 144:=⟨_,Go.Proofs.Tryz.func144,by kernel_rfl,by kernel_rfl⟩
theorem has145 : Has Tryz.prog 145:=⟨_,Go.Proofs.Tryz.func145,by kernel_rfl,by kernel_rfl⟩
theorem has146 : Has Tryz.prog 146:=⟨_,Go.Proofs.Tryz.func146,by kernel_rfl,by kernel_rfl⟩
theorem has147 : Has Tryz.prog 147:=⟨_,Go.Proofs.Tryz.func147,by kernel_rfl,by kernel_rfl⟩
theorem has148 : Has Tryz.prog 148:=⟨_,Go.Proofs.Tryz.func148,by kernel_rfl,by kernel_rfl⟩
theorem has149 : Has Tryz.prog 149:=⟨_,Go.Proofs.Tryz.func149,by kernel_rfl,by kernel_rfl⟩
theorem has150 : Has Tryz.prog 150:=⟨_,Go.Proofs.Tryz.func150,by kernel_rfl,by kernel_rfl⟩
theorem has152 : Has Tryz.prog 152:=⟨_,Go.Proofs.Tryz.func152,by kernel_rfl,by kernel_rfl⟩
theorem has153 : Has Tryz.prog 153:=⟨_,Go.Proofs.Tryz.func153,by kernel_rfl,by kernel_rfl⟩
theorem has154 : Has Tryz.prog 154:=⟨_,Go.Proofs.Tryz.func154,by kernel_rfl,by kernel_rfl⟩
theorem has155 : Has Tryz.prog 155:=⟨_,Go.Proofs.Tryz.func155,by kernel_rfl,by kernel_rfl⟩
theorem has156 : Has Tryz.prog 156:=⟨_,Go.Proofs.Tryz.func156,by kernel_rfl,by kernel_rfl⟩
theorem Nr : Has Tryz.prog 157:=⟨_,Go.Proofs.Tryz.func157,by kernel_rfl,by kernel_rfl⟩
theorem Zt : Has Tryz.prog 158:=⟨_,Go.Proofs.Tryz.func158,by kernel_rfl,by kernel_rfl⟩
theorem Ey : Has Tryz.prog 172:=⟨_,Go.Proofs.Tryz.func172,by kernel_rfl,by kernel_rfl⟩
theorem has173 : Has Tryz.prog 173:=⟨_,Go.Proofs.Tryz.func173,by kernel_rfl,by kernel_rfl⟩
theorem Uv : Has Tryz.prog 174:=⟨_,Go.Proofs.Tryz.func174,by kernel_rfl,by kernel_rfl⟩
theorem has175 : Has Tryz.prog 175:=⟨_,Go.Proofs.Tryz.func175,by kernel_rfl,by kernel_rfl⟩
theorem has176 : Has Tryz.prog 176:=⟨_,Go.Proofs.Tryz.func176,by kernel_rfl,by kernel_rfl⟩
theorem has177 : Has Tryz.prog 177:=⟨_,Go.Proofs.Tryz.func177,by kernel_rfl,by kernel_rfl⟩
theorem has178 : Has Tryz.prog 178:=⟨_,Go.Proofs.Tryz.func178,by kernel_rfl,by kernel_rfl⟩
theorem has179 : Has Tryz.prog 179:=⟨_,Go.Proofs.Tryz.func179,by kernel_rfl,by kernel_rfl⟩
theorem has184 : Has Tryz.prog 184:=⟨_,Go.Proofs.Tryz.func184,by kernel_rfl,by kernel_rfl⟩
theorem has185 : Has Tryz.prog 185:=⟨_,Go.Proofs.Tryz.func185,by kernel_rfl,by kernel_rfl⟩
theorem has186 : Has Tryz.prog 186:=⟨_,Go.Proofs.Tryz.func186,by kernel_rfl,by kernel_rfl⟩
theorem has187 : Has Tryz.prog 187:=⟨_,Go.Proofs.Tryz.func187,by kernel_rfl,by kernel_rfl⟩
theorem has188 : Has Tryz.prog 188:=⟨_,Go.Proofs.Tryz.func188,by kernel_rfl,by kernel_rfl⟩
theorem has189 : Has Tryz.prog 189:=⟨_,Go.Proofs.Tryz.func189,by kernel_rfl,by kernel_rfl⟩
theorem Pt : Has Tryz.prog 192:=⟨_,Go.Proofs.Tryz.func192,by kernel_rfl,by kernel_rfl⟩
theorem has193 : Has Tryz.prog 193:=⟨_,Go.Proofs.Tryz.func193,by kernel_rfl,by kernel_rfl⟩
theorem has194 : Has Tryz.prog 194:=⟨_,Go.Proofs.Tryz.func194,by kernel_rfl,by kernel_rfl⟩
theorem has195 : Has Tryz.prog 195:=⟨_,Go.Proofs.Tryz.func195,by kernel_rfl,by kernel_rfl⟩
theorem Zs : Has Tryz.prog 196:=⟨_,Go.Proofs.Tryz.func196,by kernel_rfl,by kernel_rfl⟩
theorem has197 : Has Tryz.prog 197:=⟨_,Go.Proofs.Tryz.func197,by kernel_rfl,by kernel_rfl⟩
theorem has198 : Has Tryz.prog 198:=⟨_,Go.Proofs.Tryz.func198,by kernel_rfl,by kernel_rfl⟩
theorem has199 : Has Tryz.prog 199:=⟨_,Go.Proofs.Tryz.func199,by kernel_rfl,by kernel_rfl⟩
theorem has200 : Has Tryz.prog 200:=⟨_,Go.Proofs.Tryz.func200,by kernel_rfl,by kernel_rfl⟩
theorem has201 : Has Tryz.prog 201:=⟨_,Go.Proofs.Tryz.func201,by kernel_rfl,by kernel_rfl⟩
theorem has202 : Has Tryz.prog 202:=⟨_,Go.Proofs.Tryz.func202,by kernel_rfl,by kernel_rfl⟩
theorem has203 : Has Tryz.prog 203:=⟨_,Go.Proofs.Tryz.func203,by kernel_rfl,by kernel_rfl⟩
theorem has204 : Has Tryz.prog 204:=⟨_,Go.Proofs.Tryz.func204,by kernel_rfl,by kernel_rfl⟩
theorem has205 : Has Tryz.prog 205:=⟨_,Go.Proofs.Tryz.func205,by kernel_rfl,by kernel_rfl⟩
theorem Zr : Has Tryz.prog 206:=⟨_,Go.Proofs.Tryz.func206,by kernel_rfl,by kernel_rfl⟩
theorem Uu : Has Tryz.prog 207:=⟨_,Go.Proofs.Tryz.func207,by kernel_rfl,by kernel_rfl⟩
theorem has208 : Has Tryz.prog 208:=⟨_,Go.Proofs.Tryz.func208,by kernel_rfl,by kernel_rfl⟩
theorem has209 : Has Tryz.prog 209:=⟨_,Go.Proofs.Tryz.func209,by kernel_rfl,by kernel_rfl⟩
theorem has210 : Has Tryz.prog 210:=⟨_,Go.Proofs.Tryz.func210,by kernel_rfl,by kernel_rfl⟩
theorem has211 : Has Tryz.prog 211:=⟨_,Go.Proofs.Tryz.func211,by kernel_rfl,by kernel_rfl⟩
theorem has212 : Has Tryz.prog 212:=⟨_,Go.Proofs.Tryz.func212,by kernel_rfl,by kernel_rfl⟩
theorem has213 : Has Tryz.prog 213:=⟨_,Go.Proofs.Tryz.func213,by kernel_rfl,by kernel_rfl⟩
theorem Lw : Has Tryz.prog 214:=⟨_,Go.Proofs.Tryz.func214,by kernel_rfl,by kernel_rfl⟩
theorem Hy : Has Tryz.prog 215:=⟨_,Go.Proofs.Tryz.func215,by kernel_rfl,by kernel_rfl⟩
theorem has216 : Has Tryz.prog 216:=⟨_,Go.Proofs.Tryz.func216,by kernel_rfl,by kernel_rfl⟩
theorem Zq : Has Tryz.prog 217:=⟨_,Go.Proofs.Tryz.func217,by kernel_rfl,by kernel_rfl⟩
theorem has218 : Has Tryz.prog 218:=⟨_,Go.Proofs.Tryz.func218,by kernel_rfl,by kernel_rfl⟩
theorem has219 : Has Tryz.prog 219:=⟨_,Go.Proofs.Tryz.func219,by kernel_rfl,by kernel_rfl⟩
theorem has220 : Has Tryz.prog 220:=⟨_,Go.Proofs.Tryz.func220,by kernel_rfl,by kernel_rfl⟩
theorem has221 : Has Tryz.prog 221:=⟨_,Go.Proofs.Tryz.func221,by kernel_rfl,by kernel_rfl⟩
theorem Zp : Has Tryz.prog 228:=⟨_,Go.Proofs.Tryz.func228,by kernel_rfl,by kernel_rfl⟩
theorem Zo : Has Tryz.prog 229:=⟨_,Go.Proofs.Tryz.func229,by kernel_rfl,by kernel_rfl⟩
theorem has230 : Has Tryz.prog 230:=⟨_,Go.Proofs.Tryz.func230,by kernel_rfl,by kernel_rfl⟩
theorem has231 : Has Tryz.prog 231:=⟨_,Go.Proofs.Tryz.func231,by kernel_rfl,by kernel_rfl⟩
theorem has232 : Has Tryz.prog 232:=⟨_,Go.Proofs.Tryz.func232,by kernel_rfl,by kernel_rfl⟩
theorem has233 : Has Tryz.prog 233:=⟨_,Go.Proofs.Tryz.func233,by kernel_rfl,by kernel_rfl⟩
theorem Ut : Has Tryz.prog 234:=⟨_,Go.Proofs.Tryz.func234,by kernel_rfl,by kernel_rfl⟩
theorem has235 : Has Tryz.prog 235:=⟨_,Go.Proofs.Tryz.func235,by kernel_rfl,by kernel_rfl⟩
theorem has236 : Has Tryz.prog 236:=⟨_,Go.Proofs.Tryz.func236,by kernel_rfl,by kernel_rfl⟩
theorem has237 : Has Tryz.prog 237:=⟨_,Go.Proofs.Tryz.func237,by kernel_rfl,by kernel_rfl⟩
theorem has238 : Has Tryz.prog 238:=⟨_,Go.Proofs.Tryz.func238,by kernel_rfl,by kernel_rfl⟩
theorem has239 : Has Tryz.prog 239:=⟨_,Go.Proofs.Tryz.func239,by kernel_rfl,by kernel_rfl⟩
theorem has242 : Has Tryz.prog 242:=⟨_,Go.Proofs.Tryz.func242,by kernel_rfl,by kernel_rfl⟩
theorem has243 : Has Tryz.prog 243:=⟨_,Go.Proofs.Tryz.func243,by kernel_rfl,by kernel_rfl⟩
theorem has244 : Has Tryz.prog 244:=⟨_,Go.Proofs.Tryz.func244,by kernel_rfl,by kernel_rfl⟩
theorem Us : Has Tryz.prog 256:=⟨_,Go.Proofs.Tryz.func256,by kernel_rfl,by kernel_rfl⟩
theorem Hx : Has Tryz.prog 257:=⟨_,Go.Proofs.Tryz.func257,by kernel_rfl,by kernel_rfl⟩
theorem has258 : Has Tryz.prog 258:=⟨_,Go.Proofs.Tryz.func258,by kernel_rfl,by kernel_rfl⟩
theorem has259 : Has Tryz.prog 259:=⟨_,Go.Proofs.Tryz.func259,by kernel_rfl,by kernel_rfl⟩
theorem has260 : Has Tryz.prog 260:=⟨_,Go.Proofs.Tryz.func260,by kernel_rfl,by kernel_rfl⟩
theorem has261 : Has Tryz.prog 261:=⟨_,Go.Proofs.Tryz.func261,by kernel_rfl,by kernel_rfl⟩
theorem has262 : Has Tryz.prog 262:=⟨_,Go.Proofs.Tryz.func262,by kernel_rfl,by kernel_rfl⟩
theorem has263 : Has Tryz.prog 263:=⟨_,Go.Proofs.Tryz.func263,by kernel_rfl,by kernel_rfl⟩
theorem has264 : Has Tryz.prog 264:=⟨_,Go.Proofs.Tryz.func264,by kernel_rfl,by kernel_rfl⟩
theorem has265 : Has Tryz.prog 265:=⟨_,Go.Proofs.Tryz.func265,by kernel_rfl,by kernel_rfl⟩
theorem has266 : Has Tryz.prog 266:=⟨_,Go.Proofs.Tryz.func266,by kernel_rfl,by kernel_rfl⟩
theorem has267 : Has Tryz.prog 267:=⟨_,Go.Proofs.Tryz.func267,by kernel_rfl,by kernel_rfl⟩
theorem has268 : Has Tryz.prog 268:=⟨_,Go.Proofs.Tryz.func268,by kernel_rfl,by kernel_rfl⟩
theorem has269 : Has Tryz.prog 269:=⟨_,Go.Proofs.Tryz.func269,by kernel_rfl,by kernel_rfl⟩
theorem has270 : Has Tryz.prog 270:=⟨_,Go.Proofs.Tryz.func270,by kernel_rfl,by kernel_rfl⟩
theorem has271 : Has Tryz.prog 271:=⟨_,Go.Proofs.Tryz.func271,by kernel_rfl,by kernel_rfl⟩
theorem has272 : Has Tryz.prog 272:=⟨_,Go.Proofs.Tryz.func272,by kernel_rfl,by kernel_rfl⟩
theorem has273 : Has Tryz.prog 273:=⟨_,Go.Proofs.Tryz.func273,by kernel_rfl,by kernel_rfl⟩
theorem has274 : Has Tryz.prog 274:=⟨_,Go.Proofs.Tryz.func274,by kernel_rfl,by kernel_rfl⟩
theorem has275 : Has Tryz.prog 275:=⟨_,Go.Proofs.Tryz.func275,by kernel_rfl,by kernel_rfl⟩
theorem has276 : Has Tryz.prog 276:=⟨_,Go.Proofs.Tryz.func276,by kernel_rfl,by kernel_rfl⟩
theorem has277 : Has Tryz.prog 277:=⟨_,Go.Proofs.Tryz.func277,by kernel_rfl,by kernel_rfl⟩
theorem has278 : Has Tryz.prog 278:=⟨_,Go.Proofs.Tryz.func278,by kernel_rfl,by kernel_rfl⟩
theorem has279 : Has Tryz.prog 279:=⟨_,Go.Proofs.Tryz.func279,by kernel_rfl,by kernel_rfl⟩
theorem has280 : Has Tryz.prog 280:=⟨_,Go.Proofs.Tryz.func280,by kernel_rfl,by kernel_rfl⟩
theorem has281 : Has Tryz.prog 281:=⟨_,Go.Proofs.Tryz.func281,by kernel_rfl,by kernel_rfl⟩
theorem has282 : Has Tryz.prog 282:=⟨_,Go.Proofs.Tryz.func282,by kernel_rfl,by kernel_rfl⟩
theorem has283 : Has Tryz.prog 283:=⟨_,Go.Proofs.Tryz.func283,by kernel_rfl,by kernel_rfl⟩
theorem has284 : Has Tryz.prog 284:=⟨_,Go.Proofs.Tryz.func284,by kernel_rfl,by kernel_rfl⟩
theorem has285 : Has Tryz.prog 285:=⟨_,Go.Proofs.Tryz.func285,by kernel_rfl,by kernel_rfl⟩
theorem has286 : Has Tryz.prog 286:=⟨_,Go.Proofs.Tryz.func286,by kernel_rfl,by kernel_rfl⟩
theorem has287 : Has Tryz.prog 287:=⟨_,Go.Proofs.Tryz.func287,by kernel_rfl,by kernel_rfl⟩
theorem has288 : Has Tryz.prog 288:=⟨_,Go.Proofs.Tryz.func288,by kernel_rfl,by kernel_rfl⟩
theorem has289 : Has Tryz.prog 289:=⟨_,Go.Proofs.Tryz.func289,by kernel_rfl,by kernel_rfl⟩
theorem has290 : Has Tryz.prog 290:=⟨_,Go.Proofs.Tryz.func290,by kernel_rfl,by kernel_rfl⟩
theorem has292 : Has Tryz.prog 292:=⟨_,Go.Proofs.Tryz.func292,by kernel_rfl,by kernel_rfl⟩
theorem has293 : Has Tryz.prog 293:=⟨_,Go.Proofs.Tryz.func293,by kernel_rfl,by kernel_rfl⟩
theorem has294 : Has Tryz.prog 294:=⟨_,Go.Proofs.Tryz.func294,by kernel_rfl,by kernel_rfl⟩
theorem has295 : Has Tryz.prog 295:=⟨_,Go.Proofs.Tryz.func295,by kernel_rfl,by kernel_rfl⟩
theorem has296 : Has Tryz.prog 296:=⟨_,Go.Proofs.Tryz.func296,by kernel_rfl,by kernel_rfl⟩
theorem has297 : Has Tryz.prog 297:=⟨_,Go.Proofs.Tryz.func297,by kernel_rfl,by kernel_rfl⟩
theorem has298 : Has Tryz.prog 298:=⟨_,Go.Proofs.Tryz.func298,by kernel_rfl,by kernel_rfl⟩
theorem has324 : Has Tryz.prog 324:=⟨_,Go.Proofs.Tryz.func324,by kernel_rfl,by kernel_rfl⟩
theorem has338 : Has Tryz.prog 338:=⟨_,Go.Proofs.Tryz.func338,by kernel_rfl,by kernel_rfl⟩
theorem has339 : Has Tryz.prog 339:=⟨_,Go.Proofs.Tryz.func339,by kernel_rfl,by kernel_rfl⟩
theorem has340 : Has Tryz.prog 340:=⟨_,Go.Proofs.Tryz.func340,by kernel_rfl,by kernel_rfl⟩
theorem has341 : Has Tryz.prog 341:=⟨_,Go.Proofs.Tryz.func341,by kernel_rfl,by kernel_rfl⟩
theorem Ur : Has Tryz.prog 342:=⟨_,Go.Proofs.Tryz.func342,by kernel_rfl,by kernel_rfl⟩
theorem has343 : Has Tryz.prog 343:=⟨_,Go.Proofs.Tryz.func343,by kernel_rfl,by kernel_rfl⟩
theorem has344 : Has Tryz.prog 344:=⟨_,Go.Proofs.Tryz.func344,by kernel_rfl,by kernel_rfl⟩
theorem has353 : Has Tryz.prog 353:=⟨_,Go.Proofs.Tryz.func353,by kernel_rfl,by kernel_rfl⟩
theorem has354 : Has Tryz.prog 354:=⟨_,Go.Proofs.Tryz.func354,by kernel_rfl,by kernel_rfl⟩
theorem has369 : Has Tryz.prog 369:=⟨_,Go.Proofs.Tryz.func369,by kernel_rfl,by kernel_rfl⟩
theorem Zn : Has Tryz.prog 370:=⟨_,Go.Proofs.Tryz.func370,by kernel_rfl,by kernel_rfl⟩
theorem has374 : Has Tryz.prog 374:=⟨_,Go.Proofs.Tryz.func374,by kernel_rfl,by kernel_rfl⟩
theorem has380 : Has Tryz.prog 380:=⟨_,Go.Proofs.Tryz.func380,by kernel_rfl,by kernel_rfl⟩
theorem has381 : Has Tryz.prog 381:=⟨_,Go.Proofs.Tryz.func381,by kernel_rfl,by kernel_rfl⟩
theorem has382 : Has Tryz.prog 382:=⟨_,Go.Proofs.Tryz.func382,by kernel_rfl,by kernel_rfl⟩
end Go.Hw
