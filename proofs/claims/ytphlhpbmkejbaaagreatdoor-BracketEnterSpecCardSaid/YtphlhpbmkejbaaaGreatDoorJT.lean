import Derived.Test.YtphlhpbmkejbaaaGreatDoorProg
import Derived.Test.YtphlhpbmkejbaaaGreatDoorHB
import Derived.KernelRfl
set_option linter.unusedSimpArgs false
set_option linter.unusedVariables false
set_option maxRecDepth 100000
namespace Go.Hw
open Go
open Go.Proofs (Tryz.prog)
def fd (t o : Nat) (b : Bool:=false) : Field:={ name:=if b then "_" else "",type:=t,offset:=o,embedded:=false,tag := "",pkgPath := "",byteOffset:=0 }
def ty2 : Ty:=⟨2,.int .i64,1,8,.int .i64 0⟩
theorem ty2_ok : TyOk Tryz.prog ty2:=⟨by kernel_rfl,by kernel_rfl⟩
def ty3 : Ty:=⟨3,.int .i64,1,8,.int .i64 0⟩
theorem ty3_ok : TyOk Tryz.prog ty3:=⟨by kernel_rfl,by kernel_rfl⟩
def ty4 : Ty:=⟨4,.bool,1,1,.bool false⟩
theorem ty4_ok : TyOk Tryz.prog ty4:=⟨by kernel_rfl,by kernel_rfl⟩
def ty5 : Ty:=⟨5,.int .u8,1,1,.int .u8 0⟩
theorem ty5_ok : TyOk Tryz.prog ty5:=⟨by kernel_rfl,by kernel_rfl⟩
def ty9 : Ty:=⟨9,.string,1,16,.string ByteArray.empty⟩
theorem ty9_ok : TyOk Tryz.prog ty9:=⟨by kernel_rfl,by kernel_rfl⟩
def ty22 : Ty:=⟨22,.slice 40,1,24,.slice none 0 0⟩
theorem ty22_ok : TyOk Tryz.prog ty22:=⟨by kernel_rfl,by kernel_rfl⟩
def ty24 : Ty:=⟨24,.struct #[fd 3 0,fd 3 1,fd 22 2],3,40,.agg #[.int .i64 0,.int .i64 0,.slice none 0 0]⟩
theorem ty24_ok : TyOk Tryz.prog ty24:=⟨by kernel_rfl,by kernel_rfl⟩
def ty26 : Ty:=⟨26,.struct #[fd 3 0,fd 4 1],2,16,.agg #[.int .i64 0,.bool false]⟩
theorem ty26_ok : TyOk Tryz.prog ty26:=⟨by kernel_rfl,by kernel_rfl⟩
def ty28 : Ty:=⟨28,.int .i64,1,8,.int .i64 0⟩
theorem ty28_ok : TyOk Tryz.prog ty28:=⟨by kernel_rfl,by kernel_rfl⟩
def ty33 : Ty:=⟨33,.slice 3,1,24,.slice none 0 0⟩
theorem ty33_ok : TyOk Tryz.prog ty33:=⟨by kernel_rfl,by kernel_rfl⟩
def ty34 : Ty:=⟨34,.slice 53,1,24,.slice none 0 0⟩
theorem ty34_ok : TyOk Tryz.prog ty34:=⟨by kernel_rfl,by kernel_rfl⟩
def ty36 : Ty:=⟨36,.struct #[fd 26 0,fd 34 2],3,40,.agg #[.int .i64 0,.bool false,.slice none 0 0]⟩
theorem ty36_ok : TyOk Tryz.prog ty36:=⟨by kernel_rfl,by kernel_rfl⟩
def ty38 : Ty:=⟨38,.struct #[fd 3 0,fd 3 1,fd 3 2,fd 3 3],4,32,.agg #[.int .i64 0,.int .i64 0,.int .i64 0,.int .i64 0]⟩
theorem ty38_ok : TyOk Tryz.prog ty38:=⟨by kernel_rfl,by kernel_rfl⟩
def ty40 : Ty:=⟨40,.struct #[fd 38 0,fd 3 4,fd 3 5,fd 3 6,fd 3 7,fd 3 8,fd 3 9,fd 3 10,fd 4 11,fd 4 12],13,96,.agg #[.int .i64 0,.int .i64 0,.int .i64 0,.int .i64 0,.int .i64 0,.int .i64 0,.int .i64 0,.int .i64 0,.int .i64 0,.int .i64 0,.int .i64 0,.bool false,.bool false]⟩
theorem ty40_ok : TyOk Tryz.prog ty40:=⟨by kernel_rfl,by kernel_rfl⟩
def ty49 : Ty:=⟨49,.slice 5,1,24,.slice none 0 0⟩
theorem ty49_ok : TyOk Tryz.prog ty49:=⟨by kernel_rfl,by kernel_rfl⟩
def ty52 : Ty:=⟨52,.map 3 3,1,8,.map none⟩
theorem ty52_ok : TyOk Tryz.prog ty52:=⟨by kernel_rfl,by kernel_rfl⟩
def ty53 : Ty:=⟨53,.slice 24,1,24,.slice none 0 0⟩
theorem ty53_ok : TyOk Tryz.prog ty53:=⟨by kernel_rfl,by kernel_rfl⟩
def ty56 : Ty:=⟨56,.func #[24,24] #[4] false,1,8,.nilFunc⟩
theorem ty56_ok : TyOk Tryz.prog ty56:=⟨by kernel_rfl,by kernel_rfl⟩
def ty63 : Ty:=⟨63,.struct #[fd 24 0,fd 26 3],5,56,.agg #[.int .i64 0,.int .i64 0,.slice none 0 0,.int .i64 0,.bool false]⟩
theorem ty63_ok : TyOk Tryz.prog ty63:=⟨by kernel_rfl,by kernel_rfl⟩
def ty67 : Ty:=⟨67,.func #[3] #[4] false,1,8,.nilFunc⟩
theorem ty67_ok : TyOk Tryz.prog ty67:=⟨by kernel_rfl,by kernel_rfl⟩
def ty74 : Ty:=⟨74,.int .u64,1,8,.int .u64 0⟩
theorem ty74_ok : TyOk Tryz.prog ty74:=⟨by kernel_rfl,by kernel_rfl⟩
def ty77 : Ty:=⟨77,.func #[3,3] #[24] false,1,8,.nilFunc⟩
theorem ty77_ok : TyOk Tryz.prog ty77:=⟨by kernel_rfl,by kernel_rfl⟩
def ty82 : Ty:=⟨82,.func #[40] #[4] false,1,8,.nilFunc⟩
theorem ty82_ok : TyOk Tryz.prog ty82:=⟨by kernel_rfl,by kernel_rfl⟩
def ty83 : Ty:=⟨83,.func #[24] #[4] false,1,8,.nilFunc⟩
theorem ty83_ok : TyOk Tryz.prog ty83:=⟨by kernel_rfl,by kernel_rfl⟩
def ty91 : Ty:=⟨91,.slice 138,1,24,.slice none 0 0⟩
theorem ty91_ok : TyOk Tryz.prog ty91:=⟨by kernel_rfl,by kernel_rfl⟩
def ty93 : Ty:=⟨93,.struct #[fd 3 0,fd 3 1,fd 33 2,fd 9 3],4,56,.agg #[.int .i64 0,.int .i64 0,.slice none 0 0,.string ByteArray.empty]⟩
theorem ty93_ok : TyOk Tryz.prog ty93:=⟨by kernel_rfl,by kernel_rfl⟩
def ty99 : Ty:=⟨99,.struct #[fd 3 0,fd 3 1,fd 3 2],3,24,.agg #[.int .i64 0,.int .i64 0,.int .i64 0]⟩
theorem ty99_ok : TyOk Tryz.prog ty99:=⟨by kernel_rfl,by kernel_rfl⟩
def ty103 : Ty:=⟨103,.array 2 4,2,2,.agg #[.bool false,.bool false]⟩
theorem ty103_ok : TyOk Tryz.prog ty103:=⟨by kernel_rfl,by kernel_rfl⟩
def ty106 : Ty:=⟨106,.int .u32,1,4,.int .u32 0⟩
theorem ty106_ok : TyOk Tryz.prog ty106:=⟨by kernel_rfl,by kernel_rfl⟩
def ty108 : Ty:=⟨108,.int .u64,1,8,.int .u64 0⟩
theorem ty108_ok : TyOk Tryz.prog ty108:=⟨by kernel_rfl,by kernel_rfl⟩
def ty111 : Ty:=⟨111,.func #[67] #[] false,1,8,.nilFunc⟩
theorem ty111_ok : TyOk Tryz.prog ty111:=⟨by kernel_rfl,by kernel_rfl⟩
def ty121 : Ty:=⟨121,.struct #[fd 38 0,fd 3 4],5,40,.agg #[.int .i64 0,.int .i64 0,.int .i64 0,.int .i64 0,.int .i64 0]⟩
theorem ty121_ok : TyOk Tryz.prog ty121:=⟨by kernel_rfl,by kernel_rfl⟩
def ty122 : Ty:=⟨122,.slice 183,1,24,.slice none 0 0⟩
theorem ty122_ok : TyOk Tryz.prog ty122:=⟨by kernel_rfl,by kernel_rfl⟩
def ty124 : Ty:=⟨124,.struct #[fd 38 0,fd 3 4,fd 3 5,fd 3 6,fd 3 7,fd 3 8,fd 33 9,fd 33 10,fd 122 11,fd 122 12],13,168,.agg #[.int .i64 0,.int .i64 0,.int .i64 0,.int .i64 0,.int .i64 0,.int .i64 0,.int .i64 0,.int .i64 0,.int .i64 0,.slice none 0 0,.slice none 0 0,.slice none 0 0,.slice none 0 0]⟩
theorem ty124_ok : TyOk Tryz.prog ty124:=⟨by kernel_rfl,by kernel_rfl⟩
def ty126 : Ty:=⟨126,.struct #[fd 3 0,fd 3 1],2,16,.agg #[.int .i64 0,.int .i64 0]⟩
theorem ty126_ok : TyOk Tryz.prog ty126:=⟨by kernel_rfl,by kernel_rfl⟩
def ty128 : Ty:=⟨128,.struct #[fd 3 0,fd 3 1,fd 3 2,fd 38 3,fd 3 7,fd 3 8,fd 3 9,fd 3 10,fd 3 11,fd 3 12,fd 3 13,fd 3 14,fd 126 15],17,136,.agg #[.int .i64 0,.int .i64 0,.int .i64 0,.int .i64 0,.int .i64 0,.int .i64 0,.int .i64 0,.int .i64 0,.int .i64 0,.int .i64 0,.int .i64 0,.int .i64 0,.int .i64 0,.int .i64 0,.int .i64 0,.int .i64 0,.int .i64 0]⟩
theorem ty128_ok : TyOk Tryz.prog ty128:=⟨by kernel_rfl,by kernel_rfl⟩
def ty130 : Ty:=⟨130,.struct #[fd 3 0,fd 3 1,fd 4 2],3,24,.agg #[.int .i64 0,.int .i64 0,.bool false]⟩
theorem ty130_ok : TyOk Tryz.prog ty130:=⟨by kernel_rfl,by kernel_rfl⟩
def ty132 : Ty:=⟨132,.struct #[fd 3 0,fd 3 1],2,16,.agg #[.int .i64 0,.int .i64 0]⟩
theorem ty132_ok : TyOk Tryz.prog ty132:=⟨by kernel_rfl,by kernel_rfl⟩
def ty134 : Ty:=⟨134,.struct #[fd 3 0,fd 3 1,fd 33 2],3,40,.agg #[.int .i64 0,.int .i64 0,.slice none 0 0]⟩
theorem ty134_ok : TyOk Tryz.prog ty134:=⟨by kernel_rfl,by kernel_rfl⟩
def ty135 : Ty:=⟨135,.array 32 5,32,32,.agg #[.int .u8 0,.int .u8 0,.int .u8 0,.int .u8 0,.int .u8 0,.int .u8 0,.int .u8 0,.int .u8 0,.int .u8 0,.int .u8 0,.int .u8 0,.int .u8 0,.int .u8 0,.int .u8 0,.int .u8 0,.int .u8 0,.int .u8 0,.int .u8 0,.int .u8 0,.int .u8 0,.int .u8 0,.int .u8 0,.int .u8 0,.int .u8 0,.int .u8 0,.int .u8 0,.int .u8 0,.int .u8 0,.int .u8 0,.int .u8 0,.int .u8 0,.int .u8 0]⟩
theorem ty135_ok : TyOk Tryz.prog ty135:=⟨by kernel_rfl,by kernel_rfl⟩
def ty136 : Ty:=⟨136,.array 32 5,32,32,.agg #[.int .u8 0,.int .u8 0,.int .u8 0,.int .u8 0,.int .u8 0,.int .u8 0,.int .u8 0,.int .u8 0,.int .u8 0,.int .u8 0,.int .u8 0,.int .u8 0,.int .u8 0,.int .u8 0,.int .u8 0,.int .u8 0,.int .u8 0,.int .u8 0,.int .u8 0,.int .u8 0,.int .u8 0,.int .u8 0,.int .u8 0,.int .u8 0,.int .u8 0,.int .u8 0,.int .u8 0,.int .u8 0,.int .u8 0,.int .u8 0,.int .u8 0,.int .u8 0]⟩
theorem ty136_ok : TyOk Tryz.prog ty136:=⟨by kernel_rfl,by kernel_rfl⟩
def ty138 : Ty:=⟨138,.struct #[fd 3 0,fd 3 1,fd 3 2,fd 93 3,fd 121 7,fd 124 12,fd 128 25,fd 130 42,fd 132 45,fd 134 47,fd 136 50],82,536,.agg #[.int .i64 0,.int .i64 0,.int .i64 0,.int .i64 0,.int .i64 0,.slice none 0 0,.string ByteArray.empty,.int .i64 0,.int .i64 0,.int .i64 0,.int .i64 0,.int .i64 0,.int .i64 0,.int .i64 0,.int .i64 0,.int .i64 0,.int .i64 0,.int .i64 0,.int .i64 0,.int .i64 0,.int .i64 0,.slice none 0 0,.slice none 0 0,.slice none 0 0,.slice none 0 0,.int .i64 0,.int .i64 0,.int .i64 0,.int .i64 0,.int .i64 0,.int .i64 0,.int .i64 0,.int .i64 0,.int .i64 0,.int .i64 0,.int .i64 0,.int .i64 0,.int .i64 0,.int .i64 0,.int .i64 0,.int .i64 0,.int .i64 0,.int .i64 0,.int .i64 0,.bool false,.int .i64 0,.int .i64 0,.int .i64 0,.int .i64 0,.slice none 0 0,.int .u8 0,.int .u8 0,.int .u8 0,.int .u8 0,.int .u8 0,.int .u8 0,.int .u8 0,.int .u8 0,.int .u8 0,.int .u8 0,.int .u8 0,.int .u8 0,.int .u8 0,.int .u8 0,.int .u8 0,.int .u8 0,.int .u8 0,.int .u8 0,.int .u8 0,.int .u8 0,.int .u8 0,.int .u8 0,.int .u8 0,.int .u8 0,.int .u8 0,.int .u8 0,.int .u8 0,.int .u8 0,.int .u8 0,.int .u8 0,.int .u8 0,.int .u8 0]⟩
theorem ty138_ok : TyOk Tryz.prog ty138:=⟨by kernel_rfl,by kernel_rfl⟩
def ty140 : Ty:=⟨140,.func #[138,138] #[3] false,1,8,.nilFunc⟩
theorem ty140_ok : TyOk Tryz.prog ty140:=⟨by kernel_rfl,by kernel_rfl⟩
def ty150 : Ty:=⟨150,.func #[40,40] #[3] false,1,8,.nilFunc⟩
theorem ty150_ok : TyOk Tryz.prog ty150:=⟨by kernel_rfl,by kernel_rfl⟩
def ty155 : Ty:=⟨155,.func #[138] #[4] false,1,8,.nilFunc⟩
theorem ty155_ok : TyOk Tryz.prog ty155:=⟨by kernel_rfl,by kernel_rfl⟩
def ty156 : Ty:=⟨156,.func #[138,162] #[] false,1,8,.nilFunc⟩
theorem ty156_ok : TyOk Tryz.prog ty156:=⟨by kernel_rfl,by kernel_rfl⟩
def ty158 : Ty:=⟨158,.struct #[fd 155 0,fd 156 1],2,16,.agg #[.nilFunc,.nilFunc]⟩
theorem ty158_ok : TyOk Tryz.prog ty158:=⟨by kernel_rfl,by kernel_rfl⟩
def ty160 : Ty:=⟨160,.map 3 158,1,8,.map none⟩
theorem ty160_ok : TyOk Tryz.prog ty160:=⟨by kernel_rfl,by kernel_rfl⟩
def ty162 : Ty:=⟨162,.pointer 138,1,8,.pointer none⟩
theorem ty162_ok : TyOk Tryz.prog ty162:=⟨by kernel_rfl,by kernel_rfl⟩
def ty163 : Ty:=⟨163,.func #[138,138] #[4] false,1,8,.nilFunc⟩
theorem ty163_ok : TyOk Tryz.prog ty163:=⟨by kernel_rfl,by kernel_rfl⟩
def ty167 : Ty:=⟨167,.map 38 4,1,8,.map none⟩
theorem ty167_ok : TyOk Tryz.prog ty167:=⟨by kernel_rfl,by kernel_rfl⟩
def ty171 : Ty:=⟨171,.func #[38,128,3] #[40,4] false,1,8,.nilFunc⟩
theorem ty171_ok : TyOk Tryz.prog ty171:=⟨by kernel_rfl,by kernel_rfl⟩
def ty172 : Ty:=⟨172,.map 3 171,1,8,.map none⟩
theorem ty172_ok : TyOk Tryz.prog ty172:=⟨by kernel_rfl,by kernel_rfl⟩
def ty179 : Ty:=⟨179,.func #[128] #[4] false,1,8,.nilFunc⟩
theorem ty179_ok : TyOk Tryz.prog ty179:=⟨by kernel_rfl,by kernel_rfl⟩
def ty183 : Ty:=⟨183,.struct #[fd 3 0,fd 4 1],2,16,.agg #[.int .i64 0,.bool false]⟩
theorem ty183_ok : TyOk Tryz.prog ty183:=⟨by kernel_rfl,by kernel_rfl⟩
def ty184 : Ty:=⟨184,.slice 190,1,24,.slice none 0 0⟩
theorem ty184_ok : TyOk Tryz.prog ty184:=⟨by kernel_rfl,by kernel_rfl⟩
def ty188 : Ty:=⟨188,.slice 9,1,24,.slice none 0 0⟩
theorem ty188_ok : TyOk Tryz.prog ty188:=⟨by kernel_rfl,by kernel_rfl⟩
def ty190 : Ty:=⟨190,.struct #[fd 3 0,fd 3 1,fd 9 2,fd 184 3,fd 188 4],5,80,.agg #[.int .i64 0,.int .i64 0,.string ByteArray.empty,.slice none 0 0,.slice none 0 0]⟩
theorem ty190_ok : TyOk Tryz.prog ty190:=⟨by kernel_rfl,by kernel_rfl⟩
def ty199 : Ty:=⟨199,.struct #[fd 3 0,fd 124 1,fd 3 14],15,184,.agg #[.int .i64 0,.int .i64 0,.int .i64 0,.int .i64 0,.int .i64 0,.int .i64 0,.int .i64 0,.int .i64 0,.int .i64 0,.int .i64 0,.slice none 0 0,.slice none 0 0,.slice none 0 0,.slice none 0 0,.int .i64 0]⟩
theorem ty199_ok : TyOk Tryz.prog ty199:=⟨by kernel_rfl,by kernel_rfl⟩
def ty205 : Ty:=⟨205,.int .i64,1,8,.int .i64 0⟩
theorem ty205_ok : TyOk Tryz.prog ty205:=⟨by kernel_rfl,by kernel_rfl⟩
def ty220 : Ty:=⟨220,.func #[128,226] #[] false,1,8,.nilFunc⟩
theorem ty220_ok : TyOk Tryz.prog ty220:=⟨by kernel_rfl,by kernel_rfl⟩
def ty222 : Ty:=⟨222,.struct #[fd 179 0,fd 220 1],2,16,.agg #[.nilFunc,.nilFunc]⟩
theorem ty222_ok : TyOk Tryz.prog ty222:=⟨by kernel_rfl,by kernel_rfl⟩
def ty224 : Ty:=⟨224,.map 3 222,1,8,.map none⟩
theorem ty224_ok : TyOk Tryz.prog ty224:=⟨by kernel_rfl,by kernel_rfl⟩
def ty226 : Ty:=⟨226,.pointer 128,1,8,.pointer none⟩
theorem ty226_ok : TyOk Tryz.prog ty226:=⟨by kernel_rfl,by kernel_rfl⟩
def ty227 : Ty:=⟨227,.map 3 4,1,8,.map none⟩
theorem ty227_ok : TyOk Tryz.prog ty227:=⟨by kernel_rfl,by kernel_rfl⟩
def ty228 : Ty:=⟨228,.func #[190] #[4] false,1,8,.nilFunc⟩
theorem ty228_ok : TyOk Tryz.prog ty228:=⟨by kernel_rfl,by kernel_rfl⟩
def ty236 : Ty:=⟨236,.func #[49,190] #[49] false,1,8,.nilFunc⟩
theorem ty236_ok : TyOk Tryz.prog ty236:=⟨by kernel_rfl,by kernel_rfl⟩
def ty238 : Ty:=⟨238,.struct #[fd 236 0],1,8,.agg #[.nilFunc]⟩
theorem ty238_ok : TyOk Tryz.prog ty238:=⟨by kernel_rfl,by kernel_rfl⟩
def ty239 : Ty:=⟨239,.pointer 281,1,8,.pointer none⟩
theorem ty239_ok : TyOk Tryz.prog ty239:=⟨by kernel_rfl,by kernel_rfl⟩
def ty242 : Ty:=⟨242,.slice 244,1,24,.slice none 0 0⟩
theorem ty242_ok : TyOk Tryz.prog ty242:=⟨by kernel_rfl,by kernel_rfl⟩
def ty244 : Ty:=⟨244,.pointer 287,1,8,.pointer none⟩
theorem ty244_ok : TyOk Tryz.prog ty244:=⟨by kernel_rfl,by kernel_rfl⟩
def ty249 : Ty:=⟨249,.array 2 138,164,1072,.agg #[.int .i64 0,.int .i64 0,.int .i64 0,.int .i64 0,.int .i64 0,.slice none 0 0,.string ByteArray.empty,.int .i64 0,.int .i64 0,.int .i64 0,.int .i64 0,.int .i64 0,.int .i64 0,.int .i64 0,.int .i64 0,.int .i64 0,.int .i64 0,.int .i64 0,.int .i64 0,.int .i64 0,.int .i64 0,.slice none 0 0,.slice none 0 0,.slice none 0 0,.slice none 0 0,.int .i64 0,.int .i64 0,.int .i64 0,.int .i64 0,.int .i64 0,.int .i64 0,.int .i64 0,.int .i64 0,.int .i64 0,.int .i64 0,.int .i64 0,.int .i64 0,.int .i64 0,.int .i64 0,.int .i64 0,.int .i64 0,.int .i64 0,.int .i64 0,.int .i64 0,.bool false,.int .i64 0,.int .i64 0,.int .i64 0,.int .i64 0,.slice none 0 0,.int .u8 0,.int .u8 0,.int .u8 0,.int .u8 0,.int .u8 0,.int .u8 0,.int .u8 0,.int .u8 0,.int .u8 0,.int .u8 0,.int .u8 0,.int .u8 0,.int .u8 0,.int .u8 0,.int .u8 0,.int .u8 0,.int .u8 0,.int .u8 0,.int .u8 0,.int .u8 0,.int .u8 0,.int .u8 0,.int .u8 0,.int .u8 0,.int .u8 0,.int .u8 0,.int .u8 0,.int .u8 0,.int .u8 0,.int .u8 0,.int .u8 0,.int .u8 0,.int .i64 0,.int .i64 0,.int .i64 0,.int .i64 0,.int .i64 0,.slice none 0 0,.string ByteArray.empty,.int .i64 0,.int .i64 0,.int .i64 0,.int .i64 0,.int .i64 0,.int .i64 0,.int .i64 0,.int .i64 0,.int .i64 0,.int .i64 0,.int .i64 0,.int .i64 0,.int .i64 0,.int .i64 0,.slice none 0 0,.slice none 0 0,.slice none 0 0,.slice none 0 0,.int .i64 0,.int .i64 0,.int .i64 0,.int .i64 0,.int .i64 0,.int .i64 0,.int .i64 0,.int .i64 0,.int .i64 0,.int .i64 0,.int .i64 0,.int .i64 0,.int .i64 0,.int .i64 0,.int .i64 0,.int .i64 0,.int .i64 0,.int .i64 0,.int .i64 0,.bool false,.int .i64 0,.int .i64 0,.int .i64 0,.int .i64 0,.slice none 0 0,.int .u8 0,.int .u8 0,.int .u8 0,.int .u8 0,.int .u8 0,.int .u8 0,.int .u8 0,.int .u8 0,.int .u8 0,.int .u8 0,.int .u8 0,.int .u8 0,.int .u8 0,.int .u8 0,.int .u8 0,.int .u8 0,.int .u8 0,.int .u8 0,.int .u8 0,.int .u8 0,.int .u8 0,.int .u8 0,.int .u8 0,.int .u8 0,.int .u8 0,.int .u8 0,.int .u8 0,.int .u8 0,.int .u8 0,.int .u8 0,.int .u8 0,.int .u8 0]⟩
theorem ty249_ok : TyOk Tryz.prog ty249:=⟨by kernel_rfl,by kernel_rfl⟩
def ty250 : Ty:=⟨250,.map 38 249,1,8,.map none⟩
theorem ty250_ok : TyOk Tryz.prog ty250:=⟨by kernel_rfl,by kernel_rfl⟩
def ty253 : Ty:=⟨253,.slice 256,1,24,.slice none 0 0⟩
theorem ty253_ok : TyOk Tryz.prog ty253:=⟨by kernel_rfl,by kernel_rfl⟩
def ty256 : Ty:=⟨256,.struct #[fd 3 0,fd 3 1,fd 38 2],6,48,.agg #[.int .i64 0,.int .i64 0,.int .i64 0,.int .i64 0,.int .i64 0,.int .i64 0]⟩
theorem ty256_ok : TyOk Tryz.prog ty256:=⟨by kernel_rfl,by kernel_rfl⟩
def ty258 : Ty:=⟨258,.struct #[fd 3 0,fd 3 1],2,16,.agg #[.int .i64 0,.int .i64 0]⟩
theorem ty258_ok : TyOk Tryz.prog ty258:=⟨by kernel_rfl,by kernel_rfl⟩
def ty262 : Ty:=⟨262,.func #[258] #[4] false,1,8,.nilFunc⟩
theorem ty262_ok : TyOk Tryz.prog ty262:=⟨by kernel_rfl,by kernel_rfl⟩
def ty265 : Ty:=⟨265,.struct #[fd 262 0,fd 262 1,fd 262 2],3,24,.agg #[.nilFunc,.nilFunc,.nilFunc]⟩
theorem ty265_ok : TyOk Tryz.prog ty265:=⟨by kernel_rfl,by kernel_rfl⟩
def ty267 : Ty:=⟨267,.int .u64,1,8,.int .u64 0⟩
theorem ty267_ok : TyOk Tryz.prog ty267:=⟨by kernel_rfl,by kernel_rfl⟩
def ty271 : Ty:=⟨271,.pointer 3,1,8,.pointer none⟩
theorem ty271_ok : TyOk Tryz.prog ty271:=⟨by kernel_rfl,by kernel_rfl⟩
def ty276 : Ty:=⟨276,.func #[183] #[4] false,1,8,.nilFunc⟩
theorem ty276_ok : TyOk Tryz.prog ty276:=⟨by kernel_rfl,by kernel_rfl⟩
def ty281 : Ty:=⟨281,.array 5 238,5,40,.agg #[.nilFunc,.nilFunc,.nilFunc,.nilFunc,.nilFunc]⟩
theorem ty281_ok : TyOk Tryz.prog ty281:=⟨by kernel_rfl,by kernel_rfl⟩
def ty284 : Ty:=⟨284,.map 3 244,1,8,.map none⟩
theorem ty284_ok : TyOk Tryz.prog ty284:=⟨by kernel_rfl,by kernel_rfl⟩
def ty285 : Ty:=⟨285,.array 4 4,4,4,.agg #[.bool false,.bool false,.bool false,.bool false]⟩
theorem ty285_ok : TyOk Tryz.prog ty285:=⟨by kernel_rfl,by kernel_rfl⟩
def ty287 : Ty:=⟨287,.struct #[fd 3 0,fd 91 1,fd 285 2],6,40,.agg #[.int .i64 0,.slice none 0 0,.bool false,.bool false,.bool false,.bool false]⟩
theorem ty287_ok : TyOk Tryz.prog ty287:=⟨by kernel_rfl,by kernel_rfl⟩
def ty291 : Ty:=⟨291,.func #[244,244] #[3] false,1,8,.nilFunc⟩
theorem ty291_ok : TyOk Tryz.prog ty291:=⟨by kernel_rfl,by kernel_rfl⟩
def ty296 : Ty:=⟨296,.slice 199,1,24,.slice none 0 0⟩
theorem ty296_ok : TyOk Tryz.prog ty296:=⟨by kernel_rfl,by kernel_rfl⟩
def ty298 : Ty:=⟨298,.map 3 303,1,8,.map none⟩
theorem ty298_ok : TyOk Tryz.prog ty298:=⟨by kernel_rfl,by kernel_rfl⟩
def ty300 : Ty:=⟨300,.slice 258,1,24,.slice none 0 0⟩
theorem ty300_ok : TyOk Tryz.prog ty300:=⟨by kernel_rfl,by kernel_rfl⟩
def ty303 : Ty:=⟨303,.struct #[fd 3 0,fd 4 1],2,16,.agg #[.int .i64 0,.bool false]⟩
theorem ty303_ok : TyOk Tryz.prog ty303:=⟨by kernel_rfl,by kernel_rfl⟩
def ty305 : Ty:=⟨305,.func #[199] #[4] false,1,8,.nilFunc⟩
theorem ty305_ok : TyOk Tryz.prog ty305:=⟨by kernel_rfl,by kernel_rfl⟩
def ty307 : Ty:=⟨307,.slice 128,1,24,.slice none 0 0⟩
theorem ty307_ok : TyOk Tryz.prog ty307:=⟨by kernel_rfl,by kernel_rfl⟩
def ty318 : Ty:=⟨318,.func #[244,244] #[4] false,1,8,.nilFunc⟩
theorem ty318_ok : TyOk Tryz.prog ty318:=⟨by kernel_rfl,by kernel_rfl⟩
def ty319 : Ty:=⟨319,.slice 38,1,24,.slice none 0 0⟩
theorem ty319_ok : TyOk Tryz.prog ty319:=⟨by kernel_rfl,by kernel_rfl⟩
def ty322 : Ty:=⟨322,.func #[199,199] #[3] false,1,8,.nilFunc⟩
theorem ty322_ok : TyOk Tryz.prog ty322:=⟨by kernel_rfl,by kernel_rfl⟩
def ty325 : Ty:=⟨325,.func #[258,258] #[3] false,1,8,.nilFunc⟩
theorem ty325_ok : TyOk Tryz.prog ty325:=⟨by kernel_rfl,by kernel_rfl⟩
def ty327 : Ty:=⟨327,.array 5 4,5,5,.agg #[.bool false,.bool false,.bool false,.bool false,.bool false]⟩
theorem ty327_ok : TyOk Tryz.prog ty327:=⟨by kernel_rfl,by kernel_rfl⟩
def ty332 : Ty:=⟨332,.func #[38,38] #[3] false,1,8,.nilFunc⟩
theorem ty332_ok : TyOk Tryz.prog ty332:=⟨by kernel_rfl,by kernel_rfl⟩
def ty333 : Ty:=⟨333,.func #[38,249] #[4] false,1,8,.nilFunc⟩
theorem ty333_ok : TyOk Tryz.prog ty333:=⟨by kernel_rfl,by kernel_rfl⟩
def ty335 : Ty:=⟨335,.slice 122,1,24,.slice none 0 0⟩
theorem ty335_ok : TyOk Tryz.prog ty335:=⟨by kernel_rfl,by kernel_rfl⟩
def ty339 : Ty:=⟨339,.array 24 5,24,24,.agg #[.int .u8 0,.int .u8 0,.int .u8 0,.int .u8 0,.int .u8 0,.int .u8 0,.int .u8 0,.int .u8 0,.int .u8 0,.int .u8 0,.int .u8 0,.int .u8 0,.int .u8 0,.int .u8 0,.int .u8 0,.int .u8 0,.int .u8 0,.int .u8 0,.int .u8 0,.int .u8 0,.int .u8 0,.int .u8 0,.int .u8 0,.int .u8 0]⟩
theorem ty339_ok : TyOk Tryz.prog ty339:=⟨by kernel_rfl,by kernel_rfl⟩
def ty365 : Ty:=⟨365,.array 20 108,20,160,.agg #[.int .u64 0,.int .u64 0,.int .u64 0,.int .u64 0,.int .u64 0,.int .u64 0,.int .u64 0,.int .u64 0,.int .u64 0,.int .u64 0,.int .u64 0,.int .u64 0,.int .u64 0,.int .u64 0,.int .u64 0,.int .u64 0,.int .u64 0,.int .u64 0,.int .u64 0,.int .u64 0]⟩
theorem ty365_ok : TyOk Tryz.prog ty365:=⟨by kernel_rfl,by kernel_rfl⟩
def ty366 : Ty:=⟨366,.array 65 5,65,65,.agg #[.int .u8 0,.int .u8 0,.int .u8 0,.int .u8 0,.int .u8 0,.int .u8 0,.int .u8 0,.int .u8 0,.int .u8 0,.int .u8 0,.int .u8 0,.int .u8 0,.int .u8 0,.int .u8 0,.int .u8 0,.int .u8 0,.int .u8 0,.int .u8 0,.int .u8 0,.int .u8 0,.int .u8 0,.int .u8 0,.int .u8 0,.int .u8 0,.int .u8 0,.int .u8 0,.int .u8 0,.int .u8 0,.int .u8 0,.int .u8 0,.int .u8 0,.int .u8 0,.int .u8 0,.int .u8 0,.int .u8 0,.int .u8 0,.int .u8 0,.int .u8 0,.int .u8 0,.int .u8 0,.int .u8 0,.int .u8 0,.int .u8 0,.int .u8 0,.int .u8 0,.int .u8 0,.int .u8 0,.int .u8 0,.int .u8 0,.int .u8 0,.int .u8 0,.int .u8 0,.int .u8 0,.int .u8 0,.int .u8 0,.int .u8 0,.int .u8 0,.int .u8 0,.int .u8 0,.int .u8 0,.int .u8 0,.int .u8 0,.int .u8 0,.int .u8 0,.int .u8 0]⟩
theorem ty366_ok : TyOk Tryz.prog ty366:=⟨by kernel_rfl,by kernel_rfl⟩
def ty385 : Ty:=⟨385,.array 64 5,64,64,.agg #[.int .u8 0,.int .u8 0,.int .u8 0,.int .u8 0,.int .u8 0,.int .u8 0,.int .u8 0,.int .u8 0,.int .u8 0,.int .u8 0,.int .u8 0,.int .u8 0,.int .u8 0,.int .u8 0,.int .u8 0,.int .u8 0,.int .u8 0,.int .u8 0,.int .u8 0,.int .u8 0,.int .u8 0,.int .u8 0,.int .u8 0,.int .u8 0,.int .u8 0,.int .u8 0,.int .u8 0,.int .u8 0,.int .u8 0,.int .u8 0,.int .u8 0,.int .u8 0,.int .u8 0,.int .u8 0,.int .u8 0,.int .u8 0,.int .u8 0,.int .u8 0,.int .u8 0,.int .u8 0,.int .u8 0,.int .u8 0,.int .u8 0,.int .u8 0,.int .u8 0,.int .u8 0,.int .u8 0,.int .u8 0,.int .u8 0,.int .u8 0,.int .u8 0,.int .u8 0,.int .u8 0,.int .u8 0,.int .u8 0,.int .u8 0,.int .u8 0,.int .u8 0,.int .u8 0,.int .u8 0,.int .u8 0,.int .u8 0,.int .u8 0,.int .u8 0]⟩
theorem ty385_ok : TyOk Tryz.prog ty385:=⟨by kernel_rfl,by kernel_rfl⟩
def ts : List Ty:=[ty2,ty3,ty4,ty5,ty9,ty22,ty24,ty26,ty28,ty33,ty34,ty36,ty38,ty40,ty49,ty52,ty53,ty56,ty63,ty67,ty74,ty77,ty82,ty83,ty91,ty93,ty99,ty103,ty106,ty108,ty111,ty121,ty122,ty124,ty126,ty128,ty130,ty132,ty134,ty135,ty136,ty138,ty140,ty150,ty155,ty156,ty158,ty160,ty162,ty163,ty167,ty171,ty172,ty179,ty183,ty184,ty188,ty190,ty199,ty205,ty220,ty222,ty224,ty226,ty227,ty228,ty236,ty238,ty239,ty242,ty244,ty249,ty250,ty253,ty256,ty258,ty262,ty265,ty267,ty271,ty276,ty281,ty284,ty285,ty287,ty291,ty296,ty298,ty300,ty303,ty305,ty307,ty318,ty319,ty322,ty325,ty327,ty332,ty333,ty335,ty339,ty365,ty366,ty385]
theorem ts_ok : TsOk Tryz.prog ts:=by
  intro t ht
  simp only [ts,List.mem_cons,List.not_mem_nil,or_false] at ht
  rcases ht with rfl|rfl|rfl|rfl|rfl|rfl|rfl|rfl|rfl|rfl|rfl|rfl|rfl|rfl|rfl|rfl|rfl|rfl|rfl|rfl|rfl|rfl|rfl|rfl|rfl|rfl|rfl|rfl|rfl|rfl|rfl|rfl|rfl|rfl|rfl|rfl|rfl|rfl|rfl|rfl|rfl|rfl|rfl|rfl|rfl|rfl|rfl|rfl|rfl|rfl|rfl|rfl|rfl|rfl|rfl|rfl|rfl|rfl|rfl|rfl|rfl|rfl|rfl|rfl|rfl|rfl|rfl|rfl|rfl|rfl|rfl|rfl|rfl|rfl|rfl|rfl|rfl|rfl|rfl|rfl|rfl|rfl|rfl|rfl|rfl|rfl|rfl|rfl|rfl|rfl|rfl|rfl|rfl|rfl|rfl|rfl|rfl|rfl|rfl|rfl|rfl|rfl|rfl|rfl
  · exact ty2_ok
  · exact ty3_ok
  · exact ty4_ok
  · exact ty5_ok
  · exact ty9_ok
  · exact ty22_ok
  · exact ty24_ok
  · exact ty26_ok
  · exact ty28_ok
  · exact ty33_ok
  · exact ty34_ok
  · exact ty36_ok
  · exact ty38_ok
  · exact ty40_ok
  · exact ty49_ok
  · exact ty52_ok
  · exact ty53_ok
  · exact ty56_ok
  · exact ty63_ok
  · exact ty67_ok
  · exact ty74_ok
  · exact ty77_ok
  · exact ty82_ok
  · exact ty83_ok
  · exact ty91_ok
  · exact ty93_ok
  · exact ty99_ok
  · exact ty103_ok
  · exact ty106_ok
  · exact ty108_ok
  · exact ty111_ok
  · exact ty121_ok
  · exact ty122_ok
  · exact ty124_ok
  · exact ty126_ok
  · exact ty128_ok
  · exact ty130_ok
  · exact ty132_ok
  · exact ty134_ok
  · exact ty135_ok
  · exact ty136_ok
  · exact ty138_ok
  · exact ty140_ok
  · exact ty150_ok
  · exact ty155_ok
  · exact ty156_ok
  · exact ty158_ok
  · exact ty160_ok
  · exact ty162_ok
  · exact ty163_ok
  · exact ty167_ok
  · exact ty171_ok
  · exact ty172_ok
  · exact ty179_ok
  · exact ty183_ok
  · exact ty184_ok
  · exact ty188_ok
  · exact ty190_ok
  · exact ty199_ok
  · exact ty205_ok
  · exact ty220_ok
  · exact ty222_ok
  · exact ty224_ok
  · exact ty226_ok
  · exact ty227_ok
  · exact ty228_ok
  · exact ty236_ok
  · exact ty238_ok
  · exact ty239_ok
  · exact ty242_ok
  · exact ty244_ok
  · exact ty249_ok
  · exact ty250_ok
  · exact ty253_ok
  · exact ty256_ok
  · exact ty258_ok
  · exact ty262_ok
  · exact ty265_ok
  · exact ty267_ok
  · exact ty271_ok
  · exact ty276_ok
  · exact ty281_ok
  · exact ty284_ok
  · exact ty285_ok
  · exact ty287_ok
  · exact ty291_ok
  · exact ty296_ok
  · exact ty298_ok
  · exact ty300_ok
  · exact ty303_ok
  · exact ty305_ok
  · exact ty307_ok
  · exact ty318_ok
  · exact ty319_ok
  · exact ty322_ok
  · exact ty325_ok
  · exact ty327_ok
  · exact ty332_ok
  · exact ty333_ok
  · exact ty335_ok
  · exact ty339_ok
  · exact ty365_ok
  · exact ty366_ok
  · exact ty385_ok
theorem has8 : Has Tryz.prog 8:=⟨_,Go.Proofs.Tryz.func8,by kernel_rfl,by kernel_rfl⟩
theorem has9 : Has Tryz.prog 9:=⟨_,Go.Proofs.Tryz.func9,by kernel_rfl,by kernel_rfl⟩
theorem has11 : Has Tryz.prog 11:=⟨_,Go.Proofs.Tryz.func11,by kernel_rfl,by kernel_rfl⟩
theorem has12 : Has Tryz.prog 12:=⟨_,Go.Proofs.Tryz.func12,by kernel_rfl,by kernel_rfl⟩
theorem has13 : Has Tryz.prog 13:=⟨_,Go.Proofs.Tryz.func13,by kernel_rfl,by kernel_rfl⟩
theorem has14 : Has Tryz.prog 14:=⟨_,Go.Proofs.Tryz.func14,by kernel_rfl,by kernel_rfl⟩
theorem has15 : Has Tryz.prog 15:=⟨_,Go.Proofs.Tryz.func15,by kernel_rfl,by kernel_rfl⟩
theorem has16 : Has Tryz.prog 16:=⟨_,Go.Proofs.Tryz.func16,by kernel_rfl,by kernel_rfl⟩
theorem has17 : Has Tryz.prog 17:=⟨_,Go.Proofs.Tryz.func17,by kernel_rfl,by kernel_rfl⟩
theorem has18 : Has Tryz.prog 18:=⟨_,Go.Proofs.Tryz.func18,by kernel_rfl,by kernel_rfl⟩
theorem has19 : Has Tryz.prog 19:=⟨_,Go.Proofs.Tryz.func19,by kernel_rfl,by kernel_rfl⟩
theorem has20 : Has Tryz.prog 20:=⟨_,Go.Proofs.Tryz.func20,by kernel_rfl,by kernel_rfl⟩
theorem has23 : Has Tryz.prog 23:=⟨_,Go.Proofs.Tryz.func23,by kernel_rfl,by kernel_rfl⟩
theorem has24 : Has Tryz.prog 24:=⟨_,Go.Proofs.Tryz.func24,by kernel_rfl,by kernel_rfl⟩
theorem has25 : Has Tryz.prog 25:=⟨_,Go.Proofs.Tryz.func25,by kernel_rfl,by kernel_rfl⟩
theorem has26 : Has Tryz.prog 26:=⟨_,Go.Proofs.Tryz.func26,by kernel_rfl,by kernel_rfl⟩
theorem has27 : Has Tryz.prog 27:=⟨_,Go.Proofs.Tryz.func27,by kernel_rfl,by kernel_rfl⟩
theorem has28 : Has Tryz.prog 28:=⟨_,Go.Proofs.Tryz.func28,by kernel_rfl,by kernel_rfl⟩
theorem has29 : Has Tryz.prog 29:=⟨_,Go.Proofs.Tryz.func29,by kernel_rfl,by kernel_rfl⟩
theorem has30 : Has Tryz.prog 30:=⟨_,Go.Proofs.Tryz.func30,by kernel_rfl,by kernel_rfl⟩
theorem has31 : Has Tryz.prog 31:=⟨_,Go.Proofs.Tryz.func31,by kernel_rfl,by kernel_rfl⟩
theorem has32 : Has Tryz.prog 32:=⟨_,Go.Proofs.Tryz.func32,by kernel_rfl,by kernel_rfl⟩
theorem has33 : Has Tryz.prog 33:=⟨_,Go.Proofs.Tryz.func33,by kernel_rfl,by kernel_rfl⟩
theorem has34 : Has Tryz.prog 34:=⟨_,Go.Proofs.Tryz.func34,by kernel_rfl,by kernel_rfl⟩
theorem has35 : Has Tryz.prog 35:=⟨_,Go.Proofs.Tryz.func35,by kernel_rfl,by kernel_rfl⟩
theorem has36 : Has Tryz.prog 36:=⟨_,Go.Proofs.Tryz.func36,by kernel_rfl,by kernel_rfl⟩
theorem has37 : Has Tryz.prog 37:=⟨_,Go.Proofs.Tryz.func37,by kernel_rfl,by kernel_rfl⟩
theorem has38 : Has Tryz.prog 38:=⟨_,Go.Proofs.Tryz.func38,by kernel_rfl,by kernel_rfl⟩
theorem has39 : Has Tryz.prog 39:=⟨_,Go.Proofs.Tryz.func39,by kernel_rfl,by kernel_rfl⟩
theorem has40 : Has Tryz.prog 40:=⟨_,Go.Proofs.Tryz.func40,by kernel_rfl,by kernel_rfl⟩
theorem has41 : Has Tryz.prog 41:=⟨_,Go.Proofs.Tryz.func41,by kernel_rfl,by kernel_rfl⟩
theorem has42 : Has Tryz.prog 42:=⟨_,Go.Proofs.Tryz.func42,by kernel_rfl,by kernel_rfl⟩
theorem has43 : Has Tryz.prog 43:=⟨_,Go.Proofs.Tryz.func43,by kernel_rfl,by kernel_rfl⟩
theorem has44 : Has Tryz.prog 44:=⟨_,Go.Proofs.Tryz.func44,by kernel_rfl,by kernel_rfl⟩
theorem has45 : Has Tryz.prog 45:=⟨_,Go.Proofs.Tryz.func45,by kernel_rfl,by kernel_rfl⟩
theorem has46 : Has Tryz.prog 46:=⟨_,Go.Proofs.Tryz.func46,by kernel_rfl,by kernel_rfl⟩
theorem has47 : Has Tryz.prog 47:=⟨_,Go.Proofs.Tryz.func47,by kernel_rfl,by kernel_rfl⟩
theorem has48 : Has Tryz.prog 48:=⟨_,Go.Proofs.Tryz.func48,by kernel_rfl,by kernel_rfl⟩
theorem has49 : Has Tryz.prog 49:=⟨_,Go.Proofs.Tryz.func49,by kernel_rfl,by kernel_rfl⟩
theorem has50 : Has Tryz.prog 50:=⟨_,Go.Proofs.Tryz.func50,by kernel_rfl,by kernel_rfl⟩
theorem has51 : Has Tryz.prog 51:=⟨_,Go.Proofs.Tryz.func51,by kernel_rfl,by kernel_rfl⟩
theorem has52 : Has Tryz.prog 52:=⟨_,Go.Proofs.Tryz.func52,by kernel_rfl,by kernel_rfl⟩
theorem has53 : Has Tryz.prog 53:=⟨_,Go.Proofs.Tryz.func53,by kernel_rfl,by kernel_rfl⟩
theorem has54 : Has Tryz.prog 54:=⟨_,Go.Proofs.Tryz.func54,by kernel_rfl,by kernel_rfl⟩
theorem has55 : Has Tryz.prog 55:=⟨_,Go.Proofs.Tryz.func55,by kernel_rfl,by kernel_rfl⟩
theorem has56 : Has Tryz.prog 56:=⟨_,Go.Proofs.Tryz.func56,by kernel_rfl,by kernel_rfl⟩
theorem has59 : Has Tryz.prog 59:=⟨_,Go.Proofs.Tryz.func59,by kernel_rfl,by kernel_rfl⟩
theorem has60 : Has Tryz.prog 60:=⟨_,Go.Proofs.Tryz.func60,by kernel_rfl,by kernel_rfl⟩
theorem has61 : Has Tryz.prog 61:=⟨_,Go.Proofs.Tryz.func61,by kernel_rfl,by kernel_rfl⟩
theorem has62 : Has Tryz.prog 62:=⟨_,Go.Proofs.Tryz.func62,by kernel_rfl,by kernel_rfl⟩
theorem has63 : Has Tryz.prog 63:=⟨_,Go.Proofs.Tryz.func63,by kernel_rfl,by kernel_rfl⟩
theorem has65 : Has Tryz.prog 65:=⟨_,Go.Proofs.Tryz.func65,by kernel_rfl,by kernel_rfl⟩
theorem has66 : Has Tryz.prog 66:=⟨_,Go.Proofs.Tryz.func66,by kernel_rfl,by kernel_rfl⟩
theorem has67 : Has Tryz.prog 67:=⟨_,Go.Proofs.Tryz.func67,by kernel_rfl,by kernel_rfl⟩
theorem has68 : Has Tryz.prog 68:=⟨_,Go.Proofs.Tryz.func68,by kernel_rfl,by kernel_rfl⟩
theorem has69 : Has Tryz.prog 69:=⟨_,Go.Proofs.Tryz.func69,by kernel_rfl,by kernel_rfl⟩
theorem has70 : Has Tryz.prog 70:=⟨_,Go.Proofs.Tryz.func70,by kernel_rfl,by kernel_rfl⟩
theorem has71 : Has Tryz.prog 71:=⟨_,Go.Proofs.Tryz.func71,by kernel_rfl,by kernel_rfl⟩
theorem has72 : Has Tryz.prog 72:=⟨_,Go.Proofs.Tryz.func72,by kernel_rfl,by kernel_rfl⟩
theorem has73 : Has Tryz.prog 73:=⟨_,Go.Proofs.Tryz.func73,by kernel_rfl,by kernel_rfl⟩
theorem has74 : Has Tryz.prog 74:=⟨_,Go.Proofs.Tryz.func74,by kernel_rfl,by kernel_rfl⟩
theorem has75 : Has Tryz.prog 75:=⟨_,Go.Proofs.Tryz.func75,by kernel_rfl,by kernel_rfl⟩
theorem has85 : Has Tryz.prog 85:=⟨_,Go.Proofs.Tryz.func85,by kernel_rfl,by kernel_rfl⟩
theorem has86 : Has Tryz.prog 86:=⟨_,Go.Proofs.Tryz.func86,by kernel_rfl,by kernel_rfl⟩
theorem has87 : Has Tryz.prog 87:=⟨_,Go.Proofs.Tryz.func87,by kernel_rfl,by kernel_rfl⟩
theorem has88 : Has Tryz.prog 88:=⟨_,Go.Proofs.Tryz.func88,by kernel_rfl,by kernel_rfl⟩
theorem has89 : Has Tryz.prog 89:=⟨_,Go.Proofs.Tryz.func89,by kernel_rfl,by kernel_rfl⟩
theorem has90 : Has Tryz.prog 90:=⟨_,Go.Proofs.Tryz.func90,by kernel_rfl,by kernel_rfl⟩
theorem has91 : Has Tryz.prog 91:=⟨_,Go.Proofs.Tryz.func91,by kernel_rfl,by kernel_rfl⟩
theorem has92 : Has Tryz.prog 92:=⟨_,Go.Proofs.Tryz.func92,by kernel_rfl,by kernel_rfl⟩
theorem has93 : Has Tryz.prog 93:=⟨_,Go.Proofs.Tryz.func93,by kernel_rfl,by kernel_rfl⟩
theorem has94 : Has Tryz.prog 94:=⟨_,Go.Proofs.Tryz.func94,by kernel_rfl,by kernel_rfl⟩
theorem has107 : Has Tryz.prog 107:=⟨_,Go.Proofs.Tryz.func107,by kernel_rfl,by kernel_rfl⟩
theorem has108 : Has Tryz.prog 108:=⟨_,Go.Proofs.Tryz.func108,by kernel_rfl,by kernel_rfl⟩
theorem has109 : Has Tryz.prog 109:=⟨_,Go.Proofs.Tryz.func109,by kernel_rfl,by kernel_rfl⟩
theorem has110 : Has Tryz.prog 110:=⟨_,Go.Proofs.Tryz.func110,by kernel_rfl,by kernel_rfl⟩
theorem has111 : Has Tryz.prog 111:=⟨_,Go.Proofs.Tryz.func111,by kernel_rfl,by kernel_rfl⟩
theorem has161 : Has Tryz.prog 161:=⟨_,Go.Proofs.Tryz.func161,by kernel_rfl,by kernel_rfl⟩
end Go.Hw
