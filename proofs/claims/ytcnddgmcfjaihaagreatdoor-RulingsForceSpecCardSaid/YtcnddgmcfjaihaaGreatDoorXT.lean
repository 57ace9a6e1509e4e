import Derived.Test.YtcnddgmcfjaihaaGreatDoorProg
import Derived.Test.YtcnddgmcfjaihaaGreatDoorHB
import Derived.KernelRfl
set_option linter.unusedVariables false
set_option maxRecDepth 100000
namespace Go.Hw
open Go
open Go.Proofs (Tryz.prog)
def fd (t o : Nat) (b : Bool:=false) : Field:={ name:=if b then "_" else "",type:=t,offset:=o,embedded:=false,tag := "",pkgPath := "",byteOffset:=0 }
def ty2 : Ty:=⟨2,.int .i64,1,8,.int .i64 0⟩
theorem ty2_ok : TyOk Tryz.prog ty2:=⟨by kernel_rfl,by kernel_rfl⟩
def ty3 : Ty:=⟨3,.int .i64,1,8,.int .i64 0⟩
theorem ty3_ok : TyOk Tryz.prog ty3:=⟨by kernel_rfl,by kernel_rfl⟩
def ty4 : Ty:=⟨4,.bool,1,1,.bool false⟩
theorem ty4_ok : TyOk Tryz.prog ty4:=⟨by kernel_rfl,by kernel_rfl⟩
def ty5 : Ty:=⟨5,.int .u8,1,1,.int .u8 0⟩
theorem ty5_ok : TyOk Tryz.prog ty5:=⟨by kernel_rfl,by kernel_rfl⟩
def ty9 : Ty:=⟨9,.string,1,16,.string ByteArray.empty⟩
theorem ty9_ok : TyOk Tryz.prog ty9:=⟨by kernel_rfl,by kernel_rfl⟩
def ty22 : Ty:=⟨22,.slice 54,1,24,.slice none 0 0⟩
theorem ty22_ok : TyOk Tryz.prog ty22:=⟨by kernel_rfl,by kernel_rfl⟩
def ty25 : Ty:=⟨25,.slice 52,1,24,.slice none 0 0⟩
theorem ty25_ok : TyOk Tryz.prog ty25:=⟨by kernel_rfl,by kernel_rfl⟩
def ty26 : Ty:=⟨26,.int .i64,1,8,.int .i64 0⟩
theorem ty26_ok : TyOk Tryz.prog ty26:=⟨by kernel_rfl,by kernel_rfl⟩
def ty30 : Ty:=⟨30,.int .u64,1,8,.int .u64 0⟩
theorem ty30_ok : TyOk Tryz.prog ty30:=⟨by kernel_rfl,by kernel_rfl⟩
def ty31 : Ty:=⟨31,.slice 3,1,24,.slice none 0 0⟩
theorem ty31_ok : TyOk Tryz.prog ty31:=⟨by kernel_rfl,by kernel_rfl⟩
def ty33 : Ty:=⟨33,.struct #[fd 3 0,fd 3 1,fd 31 2,fd 9 3],4,56,.agg #[.int .i64 0,.int .i64 0,.slice none 0 0,.string ByteArray.empty]⟩
theorem ty33_ok : TyOk Tryz.prog ty33:=⟨by kernel_rfl,by kernel_rfl⟩
def ty35 : Ty:=⟨35,.struct #[fd 3 0,fd 3 1,fd 3 2,fd 3 3],4,32,.agg #[.int .i64 0,.int .i64 0,.int .i64 0,.int .i64 0]⟩
theorem ty35_ok : TyOk Tryz.prog ty35:=⟨by kernel_rfl,by kernel_rfl⟩
def ty37 : Ty:=⟨37,.struct #[fd 35 0,fd 3 4],5,40,.agg #[.int .i64 0,.int .i64 0,.int .i64 0,.int .i64 0,.int .i64 0]⟩
theorem ty37_ok : TyOk Tryz.prog ty37:=⟨by kernel_rfl,by kernel_rfl⟩
def ty38 : Ty:=⟨38,.slice 117,1,24,.slice none 0 0⟩
theorem ty38_ok : TyOk Tryz.prog ty38:=⟨by kernel_rfl,by kernel_rfl⟩
def ty40 : Ty:=⟨40,.struct #[fd 35 0,fd 3 4,fd 3 5,fd 3 6,fd 3 7,fd 3 8,fd 31 9,fd 31 10,fd 38 11,fd 38 12],13,168,.agg #[.int .i64 0,.int .i64 0,.int .i64 0,.int .i64 0,.int .i64 0,.int .i64 0,.int .i64 0,.int .i64 0,.int .i64 0,.slice none 0 0,.slice none 0 0,.slice none 0 0,.slice none 0 0]⟩
theorem ty40_ok : TyOk Tryz.prog ty40:=⟨by kernel_rfl,by kernel_rfl⟩
def ty42 : Ty:=⟨42,.struct #[fd 3 0,fd 3 1],2,16,.agg #[.int .i64 0,.int .i64 0]⟩
theorem ty42_ok : TyOk Tryz.prog ty42:=⟨by kernel_rfl,by kernel_rfl⟩
def ty44 : Ty:=⟨44,.struct #[fd 3 0,fd 3 1,fd 3 2,fd 35 3,fd 3 7,fd 3 8,fd 3 9,fd 3 10,fd 3 11,fd 3 12,fd 3 13,fd 3 14,fd 42 15],17,136,.agg #[.int .i64 0,.int .i64 0,.int .i64 0,.int .i64 0,.int .i64 0,.int .i64 0,.int .i64 0,.int .i64 0,.int .i64 0,.int .i64 0,.int .i64 0,.int .i64 0,.int .i64 0,.int .i64 0,.int .i64 0,.int .i64 0,.int .i64 0]⟩
theorem ty44_ok : TyOk Tryz.prog ty44:=⟨by kernel_rfl,by kernel_rfl⟩
def ty46 : Ty:=⟨46,.struct #[fd 3 0,fd 3 1,fd 4 2],3,24,.agg #[.int .i64 0,.int .i64 0,.bool false]⟩
theorem ty46_ok : TyOk Tryz.prog ty46:=⟨by kernel_rfl,by kernel_rfl⟩
def ty48 : Ty:=⟨48,.struct #[fd 3 0,fd 3 1],2,16,.agg #[.int .i64 0,.int .i64 0]⟩
theorem ty48_ok : TyOk Tryz.prog ty48:=⟨by kernel_rfl,by kernel_rfl⟩
def ty50 : Ty:=⟨50,.struct #[fd 3 0,fd 3 1,fd 31 2],3,40,.agg #[.int .i64 0,.int .i64 0,.slice none 0 0]⟩
theorem ty50_ok : TyOk Tryz.prog ty50:=⟨by kernel_rfl,by kernel_rfl⟩
def ty51 : Ty:=⟨51,.array 32 5,32,32,.agg #[.int .u8 0,.int .u8 0,.int .u8 0,.int .u8 0,.int .u8 0,.int .u8 0,.int .u8 0,.int .u8 0,.int .u8 0,.int .u8 0,.int .u8 0,.int .u8 0,.int .u8 0,.int .u8 0,.int .u8 0,.int .u8 0,.int .u8 0,.int .u8 0,.int .u8 0,.int .u8 0,.int .u8 0,.int .u8 0,.int .u8 0,.int .u8 0,.int .u8 0,.int .u8 0,.int .u8 0,.int .u8 0,.int .u8 0,.int .u8 0,.int .u8 0,.int .u8 0]⟩
theorem ty51_ok : TyOk Tryz.prog ty51:=⟨by kernel_rfl,by kernel_rfl⟩
def ty52 : Ty:=⟨52,.array 32 5,32,32,.agg #[.int .u8 0,.int .u8 0,.int .u8 0,.int .u8 0,.int .u8 0,.int .u8 0,.int .u8 0,.int .u8 0,.int .u8 0,.int .u8 0,.int .u8 0,.int .u8 0,.int .u8 0,.int .u8 0,.int .u8 0,.int .u8 0,.int .u8 0,.int .u8 0,.int .u8 0,.int .u8 0,.int .u8 0,.int .u8 0,.int .u8 0,.int .u8 0,.int .u8 0,.int .u8 0,.int .u8 0,.int .u8 0,.int .u8 0,.int .u8 0,.int .u8 0,.int .u8 0]⟩
theorem ty52_ok : TyOk Tryz.prog ty52:=⟨by kernel_rfl,by kernel_rfl⟩
def ty54 : Ty:=⟨54,.struct #[fd 3 0,fd 3 1,fd 3 2,fd 33 3,fd 37 7,fd 40 12,fd 44 25,fd 46 42,fd 48 45,fd 50 47,fd 52 50],82,536,.agg #[.int .i64 0,.int .i64 0,.int .i64 0,.int .i64 0,.int .i64 0,.slice none 0 0,.string ByteArray.empty,.int .i64 0,.int .i64 0,.int .i64 0,.int .i64 0,.int .i64 0,.int .i64 0,.int .i64 0,.int .i64 0,.int .i64 0,.int .i64 0,.int .i64 0,.int .i64 0,.int .i64 0,.int .i64 0,.slice none 0 0,.slice none 0 0,.slice none 0 0,.slice none 0 0,.int .i64 0,.int .i64 0,.int .i64 0,.int .i64 0,.int .i64 0,.int .i64 0,.int .i64 0,.int .i64 0,.int .i64 0,.int .i64 0,.int .i64 0,.int .i64 0,.int .i64 0,.int .i64 0,.int .i64 0,.int .i64 0,.int .i64 0,.int .i64 0,.int .i64 0,.bool false,.int .i64 0,.int .i64 0,.int .i64 0,.int .i64 0,.slice none 0 0,.int .u8 0,.int .u8 0,.int .u8 0,.int .u8 0,.int .u8 0,.int .u8 0,.int .u8 0,.int .u8 0,.int .u8 0,.int .u8 0,.int .u8 0,.int .u8 0,.int .u8 0,.int .u8 0,.int .u8 0,.int .u8 0,.int .u8 0,.int .u8 0,.int .u8 0,.int .u8 0,.int .u8 0,.int .u8 0,.int .u8 0,.int .u8 0,.int .u8 0,.int .u8 0,.int .u8 0,.int .u8 0,.int .u8 0,.int .u8 0,.int .u8 0,.int .u8 0]⟩
theorem ty54_ok : TyOk Tryz.prog ty54:=⟨by kernel_rfl,by kernel_rfl⟩
def ty57 : Ty:=⟨57,.slice 44,1,24,.slice none 0 0⟩
theorem ty57_ok : TyOk Tryz.prog ty57:=⟨by kernel_rfl,by kernel_rfl⟩
def ty66 : Ty:=⟨66,.slice 42,1,24,.slice none 0 0⟩
theorem ty66_ok : TyOk Tryz.prog ty66:=⟨by kernel_rfl,by kernel_rfl⟩
def ty69 : Ty:=⟨69,.func #[54,54] #[3] false,1,8,.nilFunc⟩
theorem ty69_ok : TyOk Tryz.prog ty69:=⟨by kernel_rfl,by kernel_rfl⟩
def ty75 : Ty:=⟨75,.slice 77,1,24,.slice none 0 0⟩
theorem ty75_ok : TyOk Tryz.prog ty75:=⟨by kernel_rfl,by kernel_rfl⟩
def ty77 : Ty:=⟨77,.pointer 80,1,8,.pointer none⟩
theorem ty77_ok : TyOk Tryz.prog ty77:=⟨by kernel_rfl,by kernel_rfl⟩
def ty78 : Ty:=⟨78,.array 4 4,4,4,.agg #[.bool false,.bool false,.bool false,.bool false]⟩
theorem ty78_ok : TyOk Tryz.prog ty78:=⟨by kernel_rfl,by kernel_rfl⟩
def ty80 : Ty:=⟨80,.struct #[fd 3 0,fd 22 1,fd 78 2],6,40,.agg #[.int .i64 0,.slice none 0 0,.bool false,.bool false,.bool false,.bool false]⟩
theorem ty80_ok : TyOk Tryz.prog ty80:=⟨by kernel_rfl,by kernel_rfl⟩
def ty83 : Ty:=⟨83,.func #[54,54] #[4] false,1,8,.nilFunc⟩
theorem ty83_ok : TyOk Tryz.prog ty83:=⟨by kernel_rfl,by kernel_rfl⟩
def ty87 : Ty:=⟨87,.func #[54] #[4] false,1,8,.nilFunc⟩
theorem ty87_ok : TyOk Tryz.prog ty87:=⟨by kernel_rfl,by kernel_rfl⟩
def ty88 : Ty:=⟨88,.func #[54,95] #[] false,1,8,.nilFunc⟩
theorem ty88_ok : TyOk Tryz.prog ty88:=⟨by kernel_rfl,by kernel_rfl⟩
def ty90 : Ty:=⟨90,.struct #[fd 87 0,fd 88 1],2,16,.agg #[.nilFunc,.nilFunc]⟩
theorem ty90_ok : TyOk Tryz.prog ty90:=⟨by kernel_rfl,by kernel_rfl⟩
def ty92 : Ty:=⟨92,.map 3 90,1,8,.map none⟩
theorem ty92_ok : TyOk Tryz.prog ty92:=⟨by kernel_rfl,by kernel_rfl⟩
def ty94 : Ty:=⟨94,.func #[3] #[4] false,1,8,.nilFunc⟩
theorem ty94_ok : TyOk Tryz.prog ty94:=⟨by kernel_rfl,by kernel_rfl⟩
def ty95 : Ty:=⟨95,.pointer 54,1,8,.pointer none⟩
theorem ty95_ok : TyOk Tryz.prog ty95:=⟨by kernel_rfl,by kernel_rfl⟩
def ty102 : Ty:=⟨102,.slice 5,1,24,.slice none 0 0⟩
theorem ty102_ok : TyOk Tryz.prog ty102:=⟨by kernel_rfl,by kernel_rfl⟩
def ty107 : Ty:=⟨107,.func #[42] #[4] false,1,8,.nilFunc⟩
theorem ty107_ok : TyOk Tryz.prog ty107:=⟨by kernel_rfl,by kernel_rfl⟩
def ty109 : Ty:=⟨109,.map 3 77,1,8,.map none⟩
theorem ty109_ok : TyOk Tryz.prog ty109:=⟨by kernel_rfl,by kernel_rfl⟩
def ty112 : Ty:=⟨112,.func #[77,77] #[3] false,1,8,.nilFunc⟩
theorem ty112_ok : TyOk Tryz.prog ty112:=⟨by kernel_rfl,by kernel_rfl⟩
def ty117 : Ty:=⟨117,.struct #[fd 3 0,fd 4 1],2,16,.agg #[.int .i64 0,.bool false]⟩
theorem ty117_ok : TyOk Tryz.prog ty117:=⟨by kernel_rfl,by kernel_rfl⟩
def ty124 : Ty:=⟨124,.func #[44] #[4] false,1,8,.nilFunc⟩
theorem ty124_ok : TyOk Tryz.prog ty124:=⟨by kernel_rfl,by kernel_rfl⟩
def ty132 : Ty:=⟨132,.func #[107] #[] false,1,8,.nilFunc⟩
theorem ty132_ok : TyOk Tryz.prog ty132:=⟨by kernel_rfl,by kernel_rfl⟩
def ty134 : Ty:=⟨134,.func #[42,42] #[3] false,1,8,.nilFunc⟩
theorem ty134_ok : TyOk Tryz.prog ty134:=⟨by kernel_rfl,by kernel_rfl⟩
def ty136 : Ty:=⟨136,.slice 142,1,24,.slice none 0 0⟩
theorem ty136_ok : TyOk Tryz.prog ty136:=⟨by kernel_rfl,by kernel_rfl⟩
def ty140 : Ty:=⟨140,.slice 9,1,24,.slice none 0 0⟩
theorem ty140_ok : TyOk Tryz.prog ty140:=⟨by kernel_rfl,by kernel_rfl⟩
def ty142 : Ty:=⟨142,.struct #[fd 3 0,fd 3 1,fd 9 2,fd 136 3,fd 140 4],5,80,.agg #[.int .i64 0,.int .i64 0,.string ByteArray.empty,.slice none 0 0,.slice none 0 0]⟩
theorem ty142_ok : TyOk Tryz.prog ty142:=⟨by kernel_rfl,by kernel_rfl⟩
def ty152 : Ty:=⟨152,.func #[77,77] #[4] false,1,8,.nilFunc⟩
theorem ty152_ok : TyOk Tryz.prog ty152:=⟨by kernel_rfl,by kernel_rfl⟩
def ty164 : Ty:=⟨164,.func #[44,170] #[] false,1,8,.nilFunc⟩
theorem ty164_ok : TyOk Tryz.prog ty164:=⟨by kernel_rfl,by kernel_rfl⟩
def ty166 : Ty:=⟨166,.struct #[fd 124 0,fd 164 1],2,16,.agg #[.nilFunc,.nilFunc]⟩
theorem ty166_ok : TyOk Tryz.prog ty166:=⟨by kernel_rfl,by kernel_rfl⟩
def ty168 : Ty:=⟨168,.map 3 166,1,8,.map none⟩
theorem ty168_ok : TyOk Tryz.prog ty168:=⟨by kernel_rfl,by kernel_rfl⟩
def ty170 : Ty:=⟨170,.pointer 44,1,8,.pointer none⟩
theorem ty170_ok : TyOk Tryz.prog ty170:=⟨by kernel_rfl,by kernel_rfl⟩
def ty171 : Ty:=⟨171,.map 3 4,1,8,.map none⟩
theorem ty171_ok : TyOk Tryz.prog ty171:=⟨by kernel_rfl,by kernel_rfl⟩
def ty174 : Ty:=⟨174,.func #[142] #[4] false,1,8,.nilFunc⟩
theorem ty174_ok : TyOk Tryz.prog ty174:=⟨by kernel_rfl,by kernel_rfl⟩
def ty182 : Ty:=⟨182,.func #[102,142] #[102] false,1,8,.nilFunc⟩
theorem ty182_ok : TyOk Tryz.prog ty182:=⟨by kernel_rfl,by kernel_rfl⟩
def ty184 : Ty:=⟨184,.struct #[fd 182 0],1,8,.agg #[.nilFunc]⟩
theorem ty184_ok : TyOk Tryz.prog ty184:=⟨by kernel_rfl,by kernel_rfl⟩
def ty185 : Ty:=⟨185,.pointer 228,1,8,.pointer none⟩
theorem ty185_ok : TyOk Tryz.prog ty185:=⟨by kernel_rfl,by kernel_rfl⟩
def ty187 : Ty:=⟨187,.array 25 3,25,200,.agg #[.int .i64 0,.int .i64 0,.int .i64 0,.int .i64 0,.int .i64 0,.int .i64 0,.int .i64 0,.int .i64 0,.int .i64 0,.int .i64 0,.int .i64 0,.int .i64 0,.int .i64 0,.int .i64 0,.int .i64 0,.int .i64 0,.int .i64 0,.int .i64 0,.int .i64 0,.int .i64 0,.int .i64 0,.int .i64 0,.int .i64 0,.int .i64 0,.int .i64 0]⟩
theorem ty187_ok : TyOk Tryz.prog ty187:=⟨by kernel_rfl,by kernel_rfl⟩
def ty188 : Ty:=⟨188,.int .u64,1,8,.int .u64 0⟩
theorem ty188_ok : TyOk Tryz.prog ty188:=⟨by kernel_rfl,by kernel_rfl⟩
def ty189 : Ty:=⟨189,.array 24 188,24,192,.agg #[.int .u64 0,.int .u64 0,.int .u64 0,.int .u64 0,.int .u64 0,.int .u64 0,.int .u64 0,.int .u64 0,.int .u64 0,.int .u64 0,.int .u64 0,.int .u64 0,.int .u64 0,.int .u64 0,.int .u64 0,.int .u64 0,.int .u64 0,.int .u64 0,.int .u64 0,.int .u64 0,.int .u64 0,.int .u64 0,.int .u64 0,.int .u64 0]⟩
theorem ty189_ok : TyOk Tryz.prog ty189:=⟨by kernel_rfl,by kernel_rfl⟩
def ty193 : Ty:=⟨193,.array 25 188,25,200,.agg #[.int .u64 0,.int .u64 0,.int .u64 0,.int .u64 0,.int .u64 0,.int .u64 0,.int .u64 0,.int .u64 0,.int .u64 0,.int .u64 0,.int .u64 0,.int .u64 0,.int .u64 0,.int .u64 0,.int .u64 0,.int .u64 0,.int .u64 0,.int .u64 0,.int .u64 0,.int .u64 0,.int .u64 0,.int .u64 0,.int .u64 0,.int .u64 0,.int .u64 0]⟩
theorem ty193_ok : TyOk Tryz.prog ty193:=⟨by kernel_rfl,by kernel_rfl⟩
def ty195 : Ty:=⟨195,.pointer 187,1,8,.pointer none⟩
theorem ty195_ok : TyOk Tryz.prog ty195:=⟨by kernel_rfl,by kernel_rfl⟩
def ty196 : Ty:=⟨196,.pointer 189,1,8,.pointer none⟩
theorem ty196_ok : TyOk Tryz.prog ty196:=⟨by kernel_rfl,by kernel_rfl⟩
def ty197 : Ty:=⟨197,.slice 102,1,24,.slice none 0 0⟩
theorem ty197_ok : TyOk Tryz.prog ty197:=⟨by kernel_rfl,by kernel_rfl⟩
def ty201 : Ty:=⟨201,.int .i64,1,8,.int .i64 0⟩
theorem ty201_ok : TyOk Tryz.prog ty201:=⟨by kernel_rfl,by kernel_rfl⟩
def ty209 : Ty:=⟨209,.int .u32,1,4,.int .u32 0⟩
theorem ty209_ok : TyOk Tryz.prog ty209:=⟨by kernel_rfl,by kernel_rfl⟩
def ty215 : Ty:=⟨215,.array 25 188,25,200,.agg #[.int .u64 0,.int .u64 0,.int .u64 0,.int .u64 0,.int .u64 0,.int .u64 0,.int .u64 0,.int .u64 0,.int .u64 0,.int .u64 0,.int .u64 0,.int .u64 0,.int .u64 0,.int .u64 0,.int .u64 0,.int .u64 0,.int .u64 0,.int .u64 0,.int .u64 0,.int .u64 0,.int .u64 0,.int .u64 0,.int .u64 0,.int .u64 0,.int .u64 0]⟩
theorem ty215_ok : TyOk Tryz.prog ty215:=⟨by kernel_rfl,by kernel_rfl⟩
def ty221 : Ty:=⟨221,.func #[117] #[4] false,1,8,.nilFunc⟩
theorem ty221_ok : TyOk Tryz.prog ty221:=⟨by kernel_rfl,by kernel_rfl⟩
def ty228 : Ty:=⟨228,.array 5 184,5,40,.agg #[.nilFunc,.nilFunc,.nilFunc,.nilFunc,.nilFunc]⟩
theorem ty228_ok : TyOk Tryz.prog ty228:=⟨by kernel_rfl,by kernel_rfl⟩
def ty232 : Ty:=⟨232,.array 5 188,5,40,.agg #[.int .u64 0,.int .u64 0,.int .u64 0,.int .u64 0,.int .u64 0]⟩
theorem ty232_ok : TyOk Tryz.prog ty232:=⟨by kernel_rfl,by kernel_rfl⟩
def ty239 : Ty:=⟨239,.int .u64,1,8,.int .u64 0⟩
theorem ty239_ok : TyOk Tryz.prog ty239:=⟨by kernel_rfl,by kernel_rfl⟩
def ty243 : Ty:=⟨243,.pointer 3,1,8,.pointer none⟩
theorem ty243_ok : TyOk Tryz.prog ty243:=⟨by kernel_rfl,by kernel_rfl⟩
def ty249 : Ty:=⟨249,.array 168 188,168,1344,.agg #[.int .u64 0,.int .u64 0,.int .u64 0,.int .u64 0,.int .u64 0,.int .u64 0,.int .u64 0,.int .u64 0,.int .u64 0,.int .u64 0,.int .u64 0,.int .u64 0,.int .u64 0,.int .u64 0,.int .u64 0,.int .u64 0,.int .u64 0,.int .u64 0,.int .u64 0,.int .u64 0,.int .u64 0,.int .u64 0,.int .u64 0,.int .u64 0,.int .u64 0,.int .u64 0,.int .u64 0,.int .u64 0,.int .u64 0,.int .u64 0,.int .u64 0,.int .u64 0,.int .u64 0,.int .u64 0,.int .u64 0,.int .u64 0,.int .u64 0,.int .u64 0,.int .u64 0,.int .u64 0,.int .u64 0,.int .u64 0,.int .u64 0,.int .u64 0,.int .u64 0,.int .u64 0,.int .u64 0,.int .u64 0,.int .u64 0,.int .u64 0,.int .u64 0,.int .u64 0,.int .u64 0,.int .u64 0,.int .u64 0,.int .u64 0,.int .u64 0,.int .u64 0,.int .u64 0,.int .u64 0,.int .u64 0,.int .u64 0,.int .u64 0,.int .u64 0,.int .u64 0,.int .u64 0,.int .u64 0,.int .u64 0,.int .u64 0,.int .u64 0,.int .u64 0,.int .u64 0,.int .u64 0,.int .u64 0,.int .u64 0,.int .u64 0,.int .u64 0,.int .u64 0,.int .u64 0,.int .u64 0,.int .u64 0,.int .u64 0,.int .u64 0,.int .u64 0,.int .u64 0,.int .u64 0,.int .u64 0,.int .u64 0,.int .u64 0,.int .u64 0,.int .u64 0,.int .u64 0,.int .u64 0,.int .u64 0,.int .u64 0,.int .u64 0,.int .u64 0,.int .u64 0,.int .u64 0,.int .u64 0,.int .u64 0,.int .u64 0,.int .u64 0,.int .u64 0,.int .u64 0,.int .u64 0,.int .u64 0,.int .u64 0,.int .u64 0,.int .u64 0,.int .u64 0,.int .u64 0,.int .u64 0,.int .u64 0,.int .u64 0,.int .u64 0,.int .u64 0,.int .u64 0,.int .u64 0,.int .u64 0,.int .u64 0,.int .u64 0,.int .u64 0,.int .u64 0,.int .u64 0,.int .u64 0,.int .u64 0,.int .u64 0,.int .u64 0,.int .u64 0,.int .u64 0,.int .u64 0,.int .u64 0,.int .u64 0,.int .u64 0,.int .u64 0,.int .u64 0,.int .u64 0,.int .u64 0,.int .u64 0,.int .u64 0,.int .u64 0,.int .u64 0,.int .u64 0,.int .u64 0,.int .u64 0,.int .u64 0,.int .u64 0,.int .u64 0,.int .u64 0,.int .u64 0,.int .u64 0,.int .u64 0,.int .u64 0,.int .u64 0,.int .u64 0,.int .u64 0,.int .u64 0,.int .u64 0,.int .u64 0,.int .u64 0,.int .u64 0,.int .u64 0,.int .u64 0,.int .u64 0,.int .u64 0,.int .u64 0,.int .u64 0]⟩
theorem ty249_ok : TyOk Tryz.prog ty249:=⟨by kernel_rfl,by kernel_rfl⟩
def ty265 : Ty:=⟨265,.array 5 4,5,5,.agg #[.bool false,.bool false,.bool false,.bool false,.bool false]⟩
theorem ty265_ok : TyOk Tryz.prog ty265:=⟨by kernel_rfl,by kernel_rfl⟩
def ty269 : Ty:=⟨269,.array 24 5,24,24,.agg #[.int .u8 0,.int .u8 0,.int .u8 0,.int .u8 0,.int .u8 0,.int .u8 0,.int .u8 0,.int .u8 0,.int .u8 0,.int .u8 0,.int .u8 0,.int .u8 0,.int .u8 0,.int .u8 0,.int .u8 0,.int .u8 0,.int .u8 0,.int .u8 0,.int .u8 0,.int .u8 0,.int .u8 0,.int .u8 0,.int .u8 0,.int .u8 0]⟩
theorem ty269_ok : TyOk Tryz.prog ty269:=⟨by kernel_rfl,by kernel_rfl⟩
def ty274 : Ty:=⟨274,.array 20 188,20,160,.agg #[.int .u64 0,.int .u64 0,.int .u64 0,.int .u64 0,.int .u64 0,.int .u64 0,.int .u64 0,.int .u64 0,.int .u64 0,.int .u64 0,.int .u64 0,.int .u64 0,.int .u64 0,.int .u64 0,.int .u64 0,.int .u64 0,.int .u64 0,.int .u64 0,.int .u64 0,.int .u64 0]⟩
theorem ty274_ok : TyOk Tryz.prog ty274:=⟨by kernel_rfl,by kernel_rfl⟩
def ty275 : Ty:=⟨275,.array 65 5,65,65,.agg #[.int .u8 0,.int .u8 0,.int .u8 0,.int .u8 0,.int .u8 0,.int .u8 0,.int .u8 0,.int .u8 0,.int .u8 0,.int .u8 0,.int .u8 0,.int .u8 0,.int .u8 0,.int .u8 0,.int .u8 0,.int .u8 0,.int .u8 0,.int .u8 0,.int .u8 0,.int .u8 0,.int .u8 0,.int .u8 0,.int .u8 0,.int .u8 0,.int .u8 0,.int .u8 0,.int .u8 0,.int .u8 0,.int .u8 0,.int .u8 0,.int .u8 0,.int .u8 0,.int .u8 0,.int .u8 0,.int .u8 0,.int .u8 0,.int .u8 0,.int .u8 0,.int .u8 0,.int .u8 0,.int .u8 0,.int .u8 0,.int .u8 0,.int .u8 0,.int .u8 0,.int .u8 0,.int .u8 0,.int .u8 0,.int .u8 0,.int .u8 0,.int .u8 0,.int .u8 0,.int .u8 0,.int .u8 0,.int .u8 0,.int .u8 0,.int .u8 0,.int .u8 0,.int .u8 0,.int .u8 0,.int .u8 0,.int .u8 0,.int .u8 0,.int .u8 0,.int .u8 0]⟩
theorem ty275_ok : TyOk Tryz.prog ty275:=⟨by kernel_rfl,by kernel_rfl⟩
def ty276 : Ty:=⟨276,.array 64 5,64,64,.agg #[.int .u8 0,.int .u8 0,.int .u8 0,.int .u8 0,.int .u8 0,.int .u8 0,.int .u8 0,.int .u8 0,.int .u8 0,.int .u8 0,.int .u8 0,.int .u8 0,.int .u8 0,.int .u8 0,.int .u8 0,.int .u8 0,.int .u8 0,.int .u8 0,.int .u8 0,.int .u8 0,.int .u8 0,.int .u8 0,.int .u8 0,.int .u8 0,.int .u8 0,.int .u8 0,.int .u8 0,.int .u8 0,.int .u8 0,.int .u8 0,.int .u8 0,.int .u8 0,.int .u8 0,.int .u8 0,.int .u8 0,.int .u8 0,.int .u8 0,.int .u8 0,.int .u8 0,.int .u8 0,.int .u8 0,.int .u8 0,.int .u8 0,.int .u8 0,.int .u8 0,.int .u8 0,.int .u8 0,.int .u8 0,.int .u8 0,.int .u8 0,.int .u8 0,.int .u8 0,.int .u8 0,.int .u8 0,.int .u8 0,.int .u8 0,.int .u8 0,.int .u8 0,.int .u8 0,.int .u8 0,.int .u8 0,.int .u8 0,.int .u8 0,.int .u8 0]⟩
theorem ty276_ok : TyOk Tryz.prog ty276:=⟨by kernel_rfl,by kernel_rfl⟩
def ts : List Ty:=[ty2,ty3,ty4,ty5,ty9,ty22,ty25,ty26,ty30,ty31,ty33,ty35,ty37,ty38,ty40,ty42,ty44,ty46,ty48,ty50,ty51,ty52,ty54,ty57,ty66,ty69,ty75,ty77,ty78,ty80,ty83,ty87,ty88,ty90,ty92,ty94,ty95,ty102,ty107,ty109,ty112,ty117,ty124,ty132,ty134,ty136,ty140,ty142,ty152,ty164,ty166,ty168,ty170,ty171,ty174,ty182,ty184,ty185,ty187,ty188,ty189,ty193,ty195,ty196,ty197,ty201,ty209,ty215,ty221,ty228,ty232,ty239,ty243,ty249,ty265,ty269,ty274,ty275,ty276]
theorem ts_ok : TsOk Tryz.prog ts:=by
  intro t ht
  simp only [ts,List.mem_cons,List.not_mem_nil,or_false] at ht
  rcases ht with rfl|rfl|rfl|rfl|rfl|rfl|rfl|rfl|rfl|rfl|rfl|rfl|rfl|rfl|rfl|rfl|rfl|rfl|rfl|rfl|rfl|rfl|rfl|rfl|rfl|rfl|rfl|rfl|rfl|rfl|rfl|rfl|rfl|rfl|rfl|rfl|rfl|rfl|rfl|rfl|rfl|rfl|rfl|rfl|rfl|rfl|rfl|rfl|rfl|rfl|rfl|rfl|rfl|rfl|rfl|rfl|rfl|rfl|rfl|rfl|rfl|rfl|rfl|rfl|rfl|rfl|rfl|rfl|rfl|rfl|rfl|rfl|rfl|rfl|rfl|rfl|rfl|rfl|rfl
  · exact ty2_ok
  · exact ty3_ok
  · exact ty4_ok
  · exact ty5_ok
  · exact ty9_ok
  · exact ty22_ok
  · exact ty25_ok
  · exact ty26_ok
  · exact ty30_ok
  · exact ty31_ok
  · exact ty33_ok
  · exact ty35_ok
  · exact ty37_ok
  · exact ty38_ok
  · exact ty40_ok
  · exact ty42_ok
  · exact ty44_ok
  · exact ty46_ok
  · exact ty48_ok
  · exact ty50_ok
  · exact ty51_ok
  · exact ty52_ok
  · exact ty54_ok
  · exact ty57_ok
  · exact ty66_ok
  · exact ty69_ok
  · exact ty75_ok
  · exact ty77_ok
  · exact ty78_ok
  · exact ty80_ok
  · exact ty83_ok
  · exact ty87_ok
  · exact ty88_ok
  · exact ty90_ok
  · exact ty92_ok
  · exact ty94_ok
  · exact ty95_ok
  · exact ty102_ok
  · exact ty107_ok
  · exact ty109_ok
  · exact ty112_ok
  · exact ty117_ok
  · exact ty124_ok
  · exact ty132_ok
  · exact ty134_ok
  · exact ty136_ok
  · exact ty140_ok
  · exact ty142_ok
  · exact ty152_ok
  · exact ty164_ok
  · exact ty166_ok
  · exact ty168_ok
  · exact ty170_ok
  · exact ty171_ok
  · exact ty174_ok
  · exact ty182_ok
  · exact ty184_ok
  · exact ty185_ok
  · exact ty187_ok
  · exact ty188_ok
  · exact ty189_ok
  · exact ty193_ok
  · exact ty195_ok
  · exact ty196_ok
  · exact ty197_ok
  · exact ty201_ok
  · exact ty209_ok
  · exact ty215_ok
  · exact ty221_ok
  · exact ty228_ok
  · exact ty232_ok
  · exact ty239_ok
  · exact ty243_ok
  · exact ty249_ok
  · exact ty265_ok
  · exact ty269_ok
  · exact ty274_ok
  · exact ty275_ok
  · exact ty276_ok
theorem has10 : Has Tryz.prog 10:=⟨_,Go.Proofs.Tryz.func10,by kernel_rfl,by kernel_rfl⟩
theorem has11 : Has Tryz.prog 11:=⟨_,Go.Proofs.Tryz.func11,by kernel_rfl,by kernel_rfl⟩
theorem has12 : Has Tryz.prog 12:=⟨_,Go.Proofs.Tryz.func12,by kernel_rfl,by kernel_rfl⟩
theorem has15 : Has Tryz.prog 15:=⟨_,Go.Proofs.Tryz.func15,by kernel_rfl,by kernel_rfl⟩
theorem has16 : Has Tryz.prog 16:=⟨_,Go.Proofs.Tryz.func16,by kernel_rfl,by kernel_rfl⟩
theorem has17 : Has Tryz.prog 17:=⟨_,Go.Proofs.Tryz.func17,by kernel_rfl,by kernel_rfl⟩
theorem has18 : Has Tryz.prog 18:=⟨_,Go.Proofs.Tryz.func18,by kernel_rfl,by kernel_rfl⟩
theorem has19 : Has Tryz.prog 19:=⟨_,Go.Proofs.Tryz.func19,by kernel_rfl,by kernel_rfl⟩
theorem has20 : Has Tryz.prog 20:=⟨_,Go.Proofs.Tryz.func20,by kernel_rfl,by kernel_rfl⟩
theorem has21 : Has Tryz.prog 21:=⟨_,Go.Proofs.Tryz.func21,by kernel_rfl,by kernel_rfl⟩
theorem has22 : Has Tryz.prog 22:=⟨_,Go.Proofs.Tryz.func22,by kernel_rfl,by kernel_rfl⟩
theorem has23 : Has Tryz.prog 23:=⟨_,Go.Proofs.Tryz.func23,by kernel_rfl,by kernel_rfl⟩
theorem has25 : Has Tryz.prog 25:=⟨_,Go.Proofs.Tryz.func25,by kernel_rfl,by kernel_rfl⟩
theorem has28 : Has Tryz.prog 28:=⟨_,Go.Proofs.Tryz.func28,by kernel_rfl,by kernel_rfl⟩
theorem has30 : Has Tryz.prog 30:=⟨_,Go.Proofs.Tryz.func30,by kernel_rfl,by kernel_rfl⟩
theorem has31 : Has Tryz.prog 31:=⟨_,Go.Proofs.Tryz.func31,by kernel_rfl,by kernel_rfl⟩
theorem has32 : Has Tryz.prog 32:=⟨_,Go.Proofs.Tryz.func32,by kernel_rfl,by kernel_rfl⟩
theorem has33 : Has Tryz.prog 33:=⟨_,Go.Proofs.Tryz.func33,by kernel_rfl,by kernel_rfl⟩
theorem has34 : Has Tryz.prog 34:=⟨_,Go.Proofs.Tryz.func34,by kernel_rfl,by kernel_rfl⟩
theorem has35 : Has Tryz.prog 35:=⟨_,Go.Proofs.Tryz.func35,by kernel_rfl,by kernel_rfl⟩
theorem has36 : Has Tryz.prog 36:=⟨_,Go.Proofs.Tryz.func36,by kernel_rfl,by kernel_rfl⟩
theorem has37 : Has Tryz.prog 37:=⟨_,Go.Proofs.Tryz.func37,by kernel_rfl,by kernel_rfl⟩
theorem has38 : Has Tryz.prog 38:=⟨_,Go.Proofs.Tryz.func38,by kernel_rfl,by kernel_rfl⟩
theorem has39 : Has Tryz.prog 39:=⟨_,Go.Proofs.Tryz.func39,by kernel_rfl,by kernel_rfl⟩
theorem has40 : Has Tryz.prog 40:=⟨_,Go.Proofs.Tryz.func40,by kernel_rfl,by kernel_rfl⟩
theorem has42 : Has Tryz.prog 42:=⟨_,Go.Proofs.Tryz.func42,by kernel_rfl,by kernel_rfl⟩
theorem has43 : Has Tryz.prog 43:=⟨_,Go.Proofs.Tryz.func43,by kernel_rfl,by kernel_rfl⟩
theorem has44 : Has Tryz.prog 44:=⟨_,Go.Proofs.Tryz.func44,by kernel_rfl,by kernel_rfl⟩
theorem has45 : Has Tryz.prog 45:=⟨_,Go.Proofs.Tryz.func45,by kernel_rfl,by kernel_rfl⟩
theorem has46 : Has Tryz.prog 46:=⟨_,Go.Proofs.Tryz.func46,by kernel_rfl,by kernel_rfl⟩
theorem has47 : Has Tryz.prog 47:=⟨_,Go.Proofs.Tryz.func47,by kernel_rfl,by kernel_rfl⟩
theorem has48 : Has Tryz.prog 48:=⟨_,Go.Proofs.Tryz.func48,by kernel_rfl,by kernel_rfl⟩
theorem has49 : Has Tryz.prog 49:=⟨_,Go.Proofs.Tryz.func49,by kernel_rfl,by kernel_rfl⟩
theorem has50 : Has Tryz.prog 50:=⟨_,Go.Proofs.Tryz.func50,by kernel_rfl,by kernel_rfl⟩
theorem has51 : Has Tryz.prog 51:=⟨_,Go.Proofs.Tryz.func51,by kernel_rfl,by kernel_rfl⟩
theorem has52 : Has Tryz.prog 52:=⟨_,Go.Proofs.Tryz.func52,by kernel_rfl,by kernel_rfl⟩
theorem has54 : Has Tryz.prog 54:=⟨_,Go.Proofs.Tryz.func54,by kernel_rfl,by kernel_rfl⟩
theorem has55 : Has Tryz.prog 55:=⟨_,Go.Proofs.Tryz.func55,by kernel_rfl,by kernel_rfl⟩
theorem has56 : Has Tryz.prog 56:=⟨_,Go.Proofs.Tryz.func56,by kernel_rfl,by kernel_rfl⟩
theorem has57 : Has Tryz.prog 57:=⟨_,Go.Proofs.Tryz.func57,by kernel_rfl,by kernel_rfl⟩
theorem has58 : Has Tryz.prog 58:=⟨_,Go.Proofs.Tryz.func58,by kernel_rfl,by kernel_rfl⟩
theorem has59 : Has Tryz.prog 59:=⟨_,Go.Proofs.Tryz.func59,by kernel_rfl,by kernel_rfl⟩
theorem has60 : Has Tryz.prog 60:=⟨_,Go.Proofs.Tryz.func60,by kernel_rfl,by kernel_rfl⟩
theorem has61 : Has Tryz.prog 61:=⟨_,Go.Proofs.Tryz.func61,by kernel_rfl,by kernel_rfl⟩
theorem has62 : Has Tryz.prog 62:=⟨_,Go.Proofs.Tryz.func62,by kernel_rfl,by kernel_rfl⟩
theorem has63 : Has Tryz.prog 63:=⟨_,Go.Proofs.Tryz.func63,by kernel_rfl,by kernel_rfl⟩
theorem has64 : Has Tryz.prog 64:=⟨_,Go.Proofs.Tryz.func64,by kernel_rfl,by kernel_rfl⟩
theorem has65 : Has Tryz.prog 65:=⟨_,Go.Proofs.Tryz.func65,by kernel_rfl,by kernel_rfl⟩
theorem has66 : Has Tryz.prog 66:=⟨_,Go.Proofs.Tryz.func66,by kernel_rfl,by kernel_rfl⟩
theorem has67 : Has Tryz.prog 67:=⟨_,Go.Proofs.Tryz.func67,by kernel_rfl,by kernel_rfl⟩
theorem has68 : Has Tryz.prog 68:=⟨_,Go.Proofs.Tryz.func68,by kernel_rfl,by kernel_rfl⟩
theorem has69 : Has Tryz.prog 69:=⟨_,Go.Proofs.Tryz.func69,by kernel_rfl,by kernel_rfl⟩
theorem has70 : Has Tryz.prog 70:=⟨_,Go.Proofs.Tryz.func70,by kernel_rfl,by kernel_rfl⟩
theorem has71 : Has Tryz.prog 71:=⟨_,Go.Proofs.Tryz.func71,by kernel_rfl,by kernel_rfl⟩
theorem has72 : Has Tryz.prog 72:=⟨_,Go.Proofs.Tryz.func72,by kernel_rfl,by kernel_rfl⟩
theorem has73 : Has Tryz.prog 73:=⟨_,Go.Proofs.Tryz.func73,by kernel_rfl,by kernel_rfl⟩
theorem has74 : Has Tryz.prog 74:=⟨_,Go.Proofs.Tryz.func74,by kernel_rfl,by kernel_rfl⟩
theorem has75 : Has Tryz.prog 75:=⟨_,Go.Proofs.Tryz.func75,by kernel_rfl,by kernel_rfl⟩
theorem has77 : Has Tryz.prog 77:=⟨_,Go.Proofs.Tryz.func77,by kernel_rfl,by kernel_rfl⟩
theorem has78 : Has Tryz.prog 78:=⟨_,Go.Proofs.Tryz.func78,by kernel_rfl,by kernel_rfl⟩
theorem has79 : Has Tryz.prog 79:=⟨_,Go.Proofs.Tryz.func79,by kernel_rfl,by kernel_rfl⟩
theorem has80 : Has Tryz.prog 80:=⟨_,Go.Proofs.Tryz.func80,by kernel_rfl,by kernel_rfl⟩
theorem has81 : Has Tryz.prog 81:=⟨_,Go.Proofs.Tryz.func81,by kernel_rfl,by kernel_rfl⟩
theorem has82 : Has Tryz.prog 82:=⟨_,Go.Proofs.Tryz.func82,by kernel_rfl,by kernel_rfl⟩
theorem has83 : Has Tryz.prog 83:=⟨_,Go.Proofs.Tryz.func83,by kernel_rfl,by kernel_rfl⟩
theorem has84 : Has Tryz.prog 84:=⟨_,Go.Proofs.Tryz.func84,by kernel_rfl,by kernel_rfl⟩
theorem has85 : Has Tryz.prog 85:=⟨_,Go.Proofs.Tryz.func85,by kernel_rfl,by kernel_rfl⟩
theorem has86 : Has Tryz.prog 86:=⟨_,Go.Proofs.Tryz.func86,by kernel_rfl,by kernel_rfl⟩
theorem has87 : Has Tryz.prog 87:=⟨_,Go.Proofs.Tryz.func87,by kernel_rfl,by kernel_rfl⟩
theorem has88 : Has Tryz.prog 88:=⟨_,Go.Proofs.Tryz.func88,by kernel_rfl,by kernel_rfl⟩
theorem has89 : Has Tryz.prog 89:=⟨_,Go.Proofs.Tryz.func89,by kernel_rfl,by kernel_rfl⟩
theorem has90 : Has Tryz.prog 90:=⟨_,Go.Proofs.Tryz.func90,by kernel_rfl,by kernel_rfl⟩
theorem has91 : Has Tryz.prog 91:=⟨_,Go.Proofs.Tryz.func91,by kernel_rfl,by kernel_rfl⟩
theorem has92 : Has Tryz.prog 92:=⟨_,Go.Proofs.Tryz.func92,by kernel_rfl,by kernel_rfl⟩
theorem has93 : Has Tryz.prog 93:=⟨_,Go.Proofs.Tryz.func93,by kernel_rfl,by kernel_rfl⟩
theorem has94 : Has Tryz.prog 94:=⟨_,Go.Proofs.Tryz.func94,by kernel_rfl,by kernel_rfl⟩
theorem has95 : Has Tryz.prog 95:=⟨_,Go.Proofs.Tryz.func95,by kernel_rfl,by kernel_rfl⟩
theorem has96 : Has Tryz.prog 96:=⟨_,Go.Proofs.Tryz.func96,by kernel_rfl,by kernel_rfl⟩
theorem has97 : Has Tryz.prog 97:=⟨_,Go.Proofs.Tryz.func97,by kernel_rfl,by kernel_rfl⟩
theorem has98 : Has Tryz.prog 98:=⟨_,Go.Proofs.Tryz.func98,by kernel_rfl,by kernel_rfl⟩
theorem has99 : Has Tryz.prog 99:=⟨_,Go.Proofs.Tryz.func99,by kernel_rfl,by kernel_rfl⟩
theorem has100 : Has Tryz.prog 100:=⟨_,Go.Proofs.Tryz.func100,by kernel_rfl,by kernel_rfl⟩
theorem has101 : Has Tryz.prog 101:=⟨_,Go.Proofs.Tryz.func101,by kernel_rfl,by kernel_rfl⟩
theorem has102 : Has Tryz.prog 102:=⟨_,Go.Proofs.Tryz.func102,by kernel_rfl,by kernel_rfl⟩
theorem has103 : Has Tryz.prog 103:=⟨_,Go.Proofs.Tryz.func103,by kernel_rfl,by kernel_rfl⟩
theorem has104 : Has Tryz.prog 104:=⟨_,Go.Proofs.Tryz.func104,by kernel_rfl,by kernel_rfl⟩
theorem has105 : Has Tryz.prog 105:=⟨_,Go.Proofs.Tryz.func105,by kernel_rfl,by kernel_rfl⟩
theorem has106 : Has Tryz.prog 106:=⟨_,Go.Proofs.Tryz.func106,by kernel_rfl,by kernel_rfl⟩
theorem has107 : Has Tryz.prog 107:=⟨_,Go.Proofs.Tryz.func107,by kernel_rfl,by kernel_rfl⟩
theorem has111 : Has Tryz.prog 111:=⟨_,Go.Proofs.Tryz.func111,by kernel_rfl,by kernel_rfl⟩
theorem has112 : Has Tryz.prog 112:=⟨_,Go.Proofs.Tryz.func112,by kernel_rfl,by kernel_rfl⟩
theorem has113 : Has Tryz.prog 113:=⟨_,Go.Proofs.Tryz.func113,by kernel_rfl,by kernel_rfl⟩
theorem has114 : Has Tryz.prog 114:=⟨_,Go.Proofs.Tryz.func114,by kernel_rfl,by kernel_rfl⟩
theorem has115 : Has Tryz.prog 115:=⟨_,Go.Proofs.Tryz.func115,by kernel_rfl,by kernel_rfl⟩
theorem has117 : Has Tryz.prog 117:=⟨_,Go.Proofs.Tryz.func117,by kernel_rfl,by kernel_rfl⟩
theorem has118 : Has Tryz.prog 118:=⟨_,Go.Proofs.Tryz.func118,by kernel_rfl,by kernel_rfl⟩
theorem has119 : Has Tryz.prog 119:=⟨_,Go.Proofs.Tryz.func119,by kernel_rfl,by kernel_rfl⟩
theorem has120 : Has Tryz.prog 120:=⟨_,Go.Proofs.Tryz.func120,by kernel_rfl,by kernel_rfl⟩
theorem has121 : Has Tryz.prog 121:=⟨_,Go.Proofs.Tryz.func121,by kernel_rfl,by kernel_rfl⟩
theorem has122 : Has Tryz.prog 122:=⟨_,Go.Proofs.Tryz.func122,by kernel_rfl,by kernel_rfl⟩
theorem has123 : Has Tryz.prog 123:=⟨_,Go.Proofs.Tryz.func123,by kernel_rfl,by kernel_rfl⟩
theorem has126 : Has Tryz.prog 126:=⟨_,Go.Proofs.Tryz.func126,by kernel_rfl,by kernel_rfl⟩
theorem has127 : Has Tryz.prog 127:=⟨_,Go.Proofs.Tryz.func127,by kernel_rfl,by kernel_rfl⟩
theorem has128 : Has Tryz.prog 128:=⟨_,Go.Proofs.Tryz.func128,by kernel_rfl,by kernel_rfl⟩
theorem has129 : Has Tryz.prog 129:=⟨_,Go.Proofs.Tryz.func129,by kernel_rfl,by kernel_rfl⟩
theorem has130 : Has Tryz.prog 130:=⟨_,Go.Proofs.Tryz.func130,by kernel_rfl,by kernel_rfl⟩
theorem has131 : Has Tryz.prog 131:=⟨_,Go.Proofs.Tryz.func131,by kernel_rfl,by kernel_rfl⟩
theorem has132 : Has Tryz.prog 132:=⟨_,Go.Proofs.Tryz.func132,by kernel_rfl,by kernel_rfl⟩
theorem has133 : Has Tryz.prog 133:=⟨_,Go.Proofs.Tryz.func133,by kernel_rfl,by kernel_rfl⟩
theorem has135 : Has Tryz.prog 135:=⟨_,Go.Proofs.Tryz.func135,by kernel_rfl,by kernel_rfl⟩
theorem has136 : Has Tryz.prog 136:=⟨_,Go.Proofs.Tryz.func136,by kernel_rfl,by kernel_rfl⟩
theorem has137 : Has Tryz.prog 137:=⟨_,Go.Proofs.Tryz.func137,by kernel_rfl,by kernel_rfl⟩
theorem has138 : Has Tryz.prog 138:=⟨_,Go.Proofs.Tryz.func138,by kernel_rfl,by kernel_rfl⟩
theorem has139 : Has Tryz.prog 139:=⟨_,Go.Proofs.Tryz.func139,by kernel_rfl,by kernel_rfl⟩
theorem has140 : Has Tryz.prog 140:=⟨_,Go.Proofs.Tryz.func140,by kernel_rfl,by kernel_rfl⟩
theorem has141 : Has Tryz.prog 141:=⟨_,Go.Proofs.Tryz.func141,by kernel_rfl,by kernel_rfl⟩
theorem has142 : Has Tryz.prog 142:=⟨_,Go.Proofs.Tryz.func142,by kernel_rfl,by kernel_rfl⟩
theorem has143 : Has Tryz.prog 143:=⟨_,Go.Proofs.Tryz.func143,by kernel_rfl,by kernel_rfl⟩
theorem has144 : Has Tryz.prog 144:=⟨_,Go.Proofs.Tryz.func144,by kernel_rfl,by kernel_rfl⟩
theorem has145 : Has Tryz.prog 145:=⟨_,Go.Proofs.Tryz.func145,by kernel_rfl,by kernel_rfl⟩
theorem has146 : Has Tryz.prog 146:=⟨_,Go.Proofs.Tryz.func146,by kernel_rfl,by kernel_rfl⟩
theorem has147 : Has Tryz.prog 147:=⟨_,Go.Proofs.Tryz.func147,by kernel_rfl,by kernel_rfl⟩
theorem has148 : Has Tryz.prog 148:=⟨_,Go.Proofs.Tryz.func148,by kernel_rfl,by kernel_rfl⟩
theorem has149 : Has Tryz.prog 149:=⟨_,Go.Proofs.Tryz.func149,by kernel_rfl,by kernel_rfl⟩
theorem has150 : Has Tryz.prog 150:=⟨_,Go.Proofs.Tryz.func150,by kernel_rfl,by kernel_rfl⟩
theorem has152 : Has Tryz.prog 152:=⟨_,Go.Proofs.Tryz.func152,by kernel_rfl,by kernel_rfl⟩
theorem has153 : Has Tryz.prog 153:=⟨_,Go.Proofs.Tryz.func153,by kernel_rfl,by kernel_rfl⟩
theorem has154 : Has Tryz.prog 154:=⟨_,Go.Proofs.Tryz.func154,by kernel_rfl,by kernel_rfl⟩
theorem has155 : Has Tryz.prog 155:=⟨_,Go.Proofs.Tryz.func155,by kernel_rfl,by kernel_rfl⟩
theorem has156 : Has Tryz.prog 156:=⟨_,Go.Proofs.Tryz.func156,by kernel_rfl,by kernel_rfl⟩
theorem has157 : Has Tryz.prog 157:=⟨_,Go.Proofs.Tryz.func157,by kernel_rfl,by kernel_rfl⟩
theorem has158 : Has Tryz.prog 158:=⟨_,Go.Proofs.Tryz.func158,by kernel_rfl,by kernel_rfl⟩
theorem has159 : Has Tryz.prog 159:=⟨_,Go.Proofs.Tryz.func159,by kernel_rfl,by kernel_rfl⟩
theorem has160 : Has Tryz.prog 160:=⟨_,Go.Proofs.Tryz.func160,by kernel_rfl,by kernel_rfl⟩
theorem has161 : Has Tryz.prog 161:=⟨_,Go.Proofs.Tryz.func161,by kernel_rfl,by kernel_rfl⟩
theorem has162 : Has Tryz.prog 162:=⟨_,Go.Proofs.Tryz.func162,by kernel_rfl,by kernel_rfl⟩
theorem has163 : Has Tryz.prog 163:=⟨_,Go.Proofs.Tryz.func163,by kernel_rfl,by kernel_rfl⟩
theorem has175 : Has Tryz.prog 175:=⟨_,Go.Proofs.Tryz.func175,by kernel_rfl,by kernel_rfl⟩
theorem has176 : Has Tryz.prog 176:=⟨_,Go.Proofs.Tryz.func176,by kernel_rfl,by kernel_rfl⟩
theorem has177 : Has Tryz.prog 177:=⟨_,Go.Proofs.Tryz.func177,by kernel_rfl,by kernel_rfl⟩
theorem has178 : Has Tryz.prog 178:=⟨_,Go.Proofs.Tryz.func178,by kernel_rfl,by kernel_rfl⟩
theorem has179 : Has Tryz.prog 179:=⟨_,Go.Proofs.Tryz.func179,by kernel_rfl,by kernel_rfl⟩
theorem has180 : Has Tryz.prog 180:=⟨_,Go.Proofs.Tryz.func180,by kernel_rfl,by kernel_rfl⟩
theorem has181 : Has Tryz.prog 181:=⟨_,Go.Proofs.Tryz.func181,by kernel_rfl,by kernel_rfl⟩
theorem has182 : Has Tryz.prog 182:=⟨_,Go.Proofs.Tryz.func182,by kernel_rfl,by kernel_rfl⟩
theorem has183 : Has Tryz.prog 183:=⟨_,Go.Proofs.Tryz.func183,by kernel_rfl,by kernel_rfl⟩
theorem has184 : Has Tryz.prog 184:=⟨_,Go.Proofs.Tryz.func184,by kernel_rfl,by kernel_rfl⟩
theorem has185 : Has Tryz.prog 185:=⟨_,Go.Proofs.Tryz.func185,by kernel_rfl,by kernel_rfl⟩
theorem has186 : Has Tryz.prog 186:=⟨_,Go.Proofs.Tryz.func186,by kernel_rfl,by kernel_rfl⟩
theorem has187 : Has Tryz.prog 187:=⟨_,Go.Proofs.Tryz.func187,by kernel_rfl,by kernel_rfl⟩
theorem has188 : Has Tryz.prog 188:=⟨_,Go.Proofs.Tryz.func188,by kernel_rfl,by kernel_rfl⟩
theorem has189 : Has Tryz.prog 189:=⟨_,Go.Proofs.Tryz.func189,by kernel_rfl,by kernel_rfl⟩
theorem has190 : Has Tryz.prog 190:=⟨_,Go.Proofs.Tryz.func190,by kernel_rfl,by kernel_rfl⟩
theorem has195 : Has Tryz.prog 195:=⟨_,Go.Proofs.Tryz.func195,by kernel_rfl,by kernel_rfl⟩
theorem has196 : Has Tryz.prog 196:=⟨_,Go.Proofs.Tryz.func196,by kernel_rfl,by kernel_rfl⟩
theorem has197 : Has Tryz.prog 197:=⟨_,Go.Proofs.Tryz.func197,by kernel_rfl,by kernel_rfl⟩
theorem has198 : Has Tryz.prog 198:=⟨_,Go.Proofs.Tryz.func198,by kernel_rfl,by kernel_rfl⟩
theorem has199 : Has Tryz.prog 199:=⟨_,Go.Proofs.Tryz.func199,by kernel_rfl,by kernel_rfl⟩
theorem has200 : Has Tryz.prog 200:=⟨_,Go.Proofs.Tryz.func200,by kernel_rfl,by kernel_rfl⟩
theorem has201 : Has Tryz.prog 201:=⟨_,Go.Proofs.Tryz.func201,by kernel_rfl,by kernel_rfl⟩
theorem has202 : Has Tryz.prog 202:=⟨_,Go.Proofs.Tryz.func202,by kernel_rfl,by kernel_rfl⟩
theorem has203 : Has Tryz.prog 203:=⟨_,Go.Proofs.Tryz.func203,by kernel_rfl,by kernel_rfl⟩
theorem has204 : Has Tryz.prog 204:=⟨_,Go.Proofs.Tryz.func204,by kernel_rfl,by kernel_rfl⟩
theorem has205 : Has Tryz.prog 205:=⟨_,Go.Proofs.Tryz.func205,by kernel_rfl,by kernel_rfl⟩
theorem has206 : Has Tryz.prog 206:=⟨_,Go.Proofs.Tryz.func206,by kernel_rfl,by kernel_rfl⟩
theorem has207 : Has Tryz.prog 207:=⟨_,Go.Proofs.Tryz.func207,by kernel_rfl,by kernel_rfl⟩
theorem has208 : Has Tryz.prog 208:=⟨_,Go.Proofs.Tryz.func208,by kernel_rfl,by kernel_rfl⟩
theorem has209 : Has Tryz.prog 209:=⟨_,Go.Proofs.Tryz.func209,by kernel_rfl,by kernel_rfl⟩
theorem has210 : Has Tryz.prog 210:=⟨_,Go.Proofs.Tryz.func210,by kernel_rfl,by kernel_rfl⟩
theorem has211 : Has Tryz.prog 211:=⟨_,Go.Proofs.Tryz.func211,by kernel_rfl,by kernel_rfl⟩
theorem has212 : Has Tryz.prog 212:=⟨_,Go.Proofs.Tryz.func212,by kernel_rfl,by kernel_rfl⟩
theorem has213 : Has Tryz.prog 213:=⟨_,Go.Proofs.Tryz.func213,by kernel_rfl,by kernel_rfl⟩
theorem has214 : Has Tryz.prog 214:=⟨_,Go.Proofs.Tryz.func214,by kernel_rfl,by kernel_rfl⟩
theorem has215 : Has Tryz.prog 215:=⟨_,Go.Proofs.Tryz.func215,by kernel_rfl,by kernel_rfl⟩
theorem has216 : Has Tryz.prog 216:=⟨_,Go.Proofs.Tryz.func216,by kernel_rfl,by kernel_rfl⟩
theorem has217 : Has Tryz.prog 217:=⟨_,Go.Proofs.Tryz.func217,by kernel_rfl,by kernel_rfl⟩
theorem has219 : Has Tryz.prog 219:=⟨_,Go.Proofs.Tryz.func219,by kernel_rfl,by kernel_rfl⟩
theorem has220 : Has Tryz.prog 220:=⟨_,Go.Proofs.Tryz.func220,by kernel_rfl,by kernel_rfl⟩
theorem has221 : Has Tryz.prog 221:=⟨_,Go.Proofs.Tryz.func221,by kernel_rfl,by kernel_rfl⟩
theorem has222 : Has Tryz.prog 222:=⟨_,Go.Proofs.Tryz.func222,by kernel_rfl,by kernel_rfl⟩
theorem has223 : Has Tryz.prog 223:=⟨_,Go.Proofs.Tryz.func223,by kernel_rfl,by kernel_rfl⟩
theorem has224 : Has Tryz.prog 224:=⟨_,Go.Proofs.Tryz.func224,by kernel_rfl,by kernel_rfl⟩
theorem has225 : Has Tryz.prog 225:=⟨_,Go.Proofs.Tryz.func225,by kernel_rfl,by kernel_rfl⟩
theorem has226 : Has Tryz.prog 226:=⟨_,Go.Proofs.Tryz.func226,by kernel_rfl,by kernel_rfl⟩
theorem has240 : Has Tryz.prog 240:=⟨_,Go.Proofs.Tryz.func240,by kernel_rfl,by kernel_rfl⟩
theorem has241 : Has Tryz.prog 241:=⟨_,Go.Proofs.Tryz.func241,by kernel_rfl,by kernel_rfl⟩
theorem has242 : Has Tryz.prog 242:=⟨_,Go.Proofs.Tryz.func242,by kernel_rfl,by kernel_rfl⟩
theorem has243 : Has Tryz.prog 243:=⟨_,Go.Proofs.Tryz.func243,by kernel_rfl,by kernel_rfl⟩
theorem has244 : Has Tryz.prog 244:=⟨_,Go.Proofs.Tryz.func244,by kernel_rfl,by kernel_rfl⟩
theorem has245 : Has Tryz.prog 245:=⟨_,Go.Proofs.Tryz.func245,by kernel_rfl,by kernel_rfl⟩
theorem has246 : Has Tryz.prog 246:=⟨_,Go.Proofs.Tryz.func246,by kernel_rfl,by kernel_rfl⟩
theorem has247 : Has Tryz.prog 247:=⟨_,Go.Proofs.Tryz.func247,by kernel_rfl,by kernel_rfl⟩
theorem has248 : Has Tryz.prog 248:=⟨_,Go.Proofs.Tryz.func248,by kernel_rfl,by kernel_rfl⟩
theorem has249 : Has Tryz.prog 249:=⟨_,Go.Proofs.Tryz.func249,by kernel_rfl,by kernel_rfl⟩
theorem has250 : Has Tryz.prog 250:=⟨_,Go.Proofs.Tryz.func250,by kernel_rfl,by kernel_rfl⟩
theorem has251 : Has Tryz.prog 251:=⟨_,Go.Proofs.Tryz.func251,by kernel_rfl,by kernel_rfl⟩
theorem has252 : Has Tryz.prog 252:=⟨_,Go.Proofs.Tryz.func252,by kernel_rfl,by kernel_rfl⟩
theorem has253 : Has Tryz.prog 253:=⟨_,Go.Proofs.Tryz.func253,by kernel_rfl,by kernel_rfl⟩
theorem has254 : Has Tryz.prog 254:=⟨_,Go.Proofs.Tryz.func254,by kernel_rfl,by kernel_rfl⟩
theorem has257 : Has Tryz.prog 257:=⟨_,Go.Proofs.Tryz.func257,by kernel_rfl,by kernel_rfl⟩
theorem has266 : Has Tryz.prog 266:=⟨_,Go.Proofs.Tryz.func266,by kernel_rfl,by kernel_rfl⟩
theorem has267 : Has Tryz.prog 267:=⟨_,Go.Proofs.Tryz.func267,by kernel_rfl,by kernel_rfl⟩
theorem has272 : Has Tryz.prog 272:=⟨_,Go.Proofs.Tryz.func272,by kernel_rfl,by kernel_rfl⟩
theorem has273 : Has Tryz.prog 273:=⟨_,Go.Proofs.Tryz.func273,by kernel_rfl,by kernel_rfl⟩
theorem has277 : Has Tryz.prog 277:=⟨_,Go.Proofs.Tryz.func277,by kernel_rfl,by kernel_rfl⟩
theorem has280 : Has Tryz.prog 280:=⟨_,Go.Proofs.Tryz.func280,by kernel_rfl,by kernel_rfl⟩
theorem has281 : Has Tryz.prog 281:=⟨_,Go.Proofs.Tryz.func281,by kernel_rfl,by kernel_rfl⟩
theorem has282 : Has Tryz.prog 282:=⟨_,Go.Proofs.Tryz.func282,by kernel_rfl,by kernel_rfl⟩
end Go.Hw
