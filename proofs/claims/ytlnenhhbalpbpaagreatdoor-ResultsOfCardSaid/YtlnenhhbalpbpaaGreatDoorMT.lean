import Derived.Test.YtlnenhhbalpbpaaGreatDoorProg
import Derived.Test.YtlnenhhbalpbpaaGreatDoorHB
import Derived.KernelRfl
set_option linter.all false
set_option maxRecDepth 100000
namespace Go.Hw
open Go
open Go.Proofs.Tryz (prog)
def fd (t o:Nat) (b:Bool:=false):Field:={ name:=if b then "_" else "",type:=t,offset:=o,embedded:=false,tag := "",pkgPath := "",byteOffset:=0 }
def ty2:Ty:=⟨2,.int .i64,1,8,.int .i64 0⟩
theorem ty2_ok:Dy prog ty2:=⟨QKR,QKR⟩
def ty3:Ty:=⟨3,.int .i64,1,8,.int .i64 0⟩
theorem ty3_ok:Dy prog ty3:=⟨QKR,QKR⟩
def ty4:Ty:=⟨4,.bool,1,1,.bool false⟩
theorem ty4_ok:Dy prog ty4:=⟨QKR,QKR⟩
def ty5:Ty:=⟨5,.int .u8,1,1,.int .u8 0⟩
theorem ty5_ok:Dy prog ty5:=⟨QKR,QKR⟩
def ty9:Ty:=⟨9,.string,1,16,.string ByteArray.empty⟩
theorem ty9_ok:Dy prog ty9:=⟨QKR,QKR⟩
def ty22:Ty:=⟨22,.slice 57,1,24,.slice none 0 0⟩
theorem ty22_ok:Dy prog ty22:=⟨QKR,QKR⟩
def ty24:Ty:=⟨24,.struct #[fd 3 0,fd 3 1,fd 3 2,fd 3 3],4,32,.agg #[.int .i64 0,.int .i64 0,.int .i64 0,.int .i64 0]⟩
theorem ty24_ok:Dy prog ty24:=⟨QKR,QKR⟩
def ty28:Ty:=⟨28,.struct #[fd 24 0,fd 3 4,fd 3 5,fd 3 6,fd 3 7,fd 3 8,fd 3 9,fd 3 10,fd 4 11,fd 4 12],13,96,.agg #[.int .i64 0,.int .i64 0,.int .i64 0,.int .i64 0,.int .i64 0,.int .i64 0,.int .i64 0,.int .i64 0,.int .i64 0,.int .i64 0,.int .i64 0,.bool false,.bool false]⟩
theorem ty28_ok:Dy prog ty28:=⟨QKR,QKR⟩
def ty32:Ty:=⟨32,.int .i64,1,8,.int .i64 0⟩
theorem ty32_ok:Dy prog ty32:=⟨QKR,QKR⟩
def ty37:Ty:=⟨37,.struct #[fd 3 0,fd 3 1],2,16,.agg #[.int .i64 0,.int .i64 0]⟩
theorem ty37_ok:Dy prog ty37:=⟨QKR,QKR⟩
def ty39:Ty:=⟨39,.struct #[fd 3 0,fd 3 1,fd 3 2,fd 24 3,fd 3 7,fd 3 8,fd 3 9,fd 3 10,fd 3 11,fd 3 12,fd 3 13,fd 3 14,fd 37 15],17,136,.agg #[.int .i64 0,.int .i64 0,.int .i64 0,.int .i64 0,.int .i64 0,.int .i64 0,.int .i64 0,.int .i64 0,.int .i64 0,.int .i64 0,.int .i64 0,.int .i64 0,.int .i64 0,.int .i64 0,.int .i64 0,.int .i64 0,.int .i64 0]⟩
theorem ty39_ok:Dy prog ty39:=⟨QKR,QKR⟩
def ty40:Ty:=⟨40,.slice 3,1,24,.slice none 0 0⟩
theorem ty40_ok:Dy prog ty40:=⟨QKR,QKR⟩
def ty42:Ty:=⟨42,.struct #[fd 3 0,fd 3 1,fd 40 2,fd 9 3],4,56,.agg #[.int .i64 0,.int .i64 0,.slice none 0 0,.string ByteArray.empty]⟩
theorem ty42_ok:Dy prog ty42:=⟨QKR,QKR⟩
def ty44:Ty:=⟨44,.struct #[fd 24 0,fd 3 4],5,40,.agg #[.int .i64 0,.int .i64 0,.int .i64 0,.int .i64 0,.int .i64 0]⟩
theorem ty44_ok:Dy prog ty44:=⟨QKR,QKR⟩
def ty45:Ty:=⟨45,.slice 128,1,24,.slice none 0 0⟩
theorem ty45_ok:Dy prog ty45:=⟨QKR,QKR⟩
def ty47:Ty:=⟨47,.struct #[fd 24 0,fd 3 4,fd 3 5,fd 3 6,fd 3 7,fd 3 8,fd 40 9,fd 40 10,fd 45 11,fd 45 12],13,168,.agg #[.int .i64 0,.int .i64 0,.int .i64 0,.int .i64 0,.int .i64 0,.int .i64 0,.int .i64 0,.int .i64 0,.int .i64 0,.slice none 0 0,.slice none 0 0,.slice none 0 0,.slice none 0 0]⟩
theorem ty47_ok:Dy prog ty47:=⟨QKR,QKR⟩
def ty49:Ty:=⟨49,.struct #[fd 3 0,fd 3 1,fd 4 2],3,24,.agg #[.int .i64 0,.int .i64 0,.bool false]⟩
theorem ty49_ok:Dy prog ty49:=⟨QKR,QKR⟩
def ty51:Ty:=⟨51,.struct #[fd 3 0,fd 3 1],2,16,.agg #[.int .i64 0,.int .i64 0]⟩
theorem ty51_ok:Dy prog ty51:=⟨QKR,QKR⟩
def ty53:Ty:=⟨53,.struct #[fd 3 0,fd 3 1,fd 40 2],3,40,.agg #[.int .i64 0,.int .i64 0,.slice none 0 0]⟩
theorem ty53_ok:Dy prog ty53:=⟨QKR,QKR⟩
def ty54:Ty:=⟨54,.array 32 5,32,32,.agg #[.int .u8 0,.int .u8 0,.int .u8 0,.int .u8 0,.int .u8 0,.int .u8 0,.int .u8 0,.int .u8 0,.int .u8 0,.int .u8 0,.int .u8 0,.int .u8 0,.int .u8 0,.int .u8 0,.int .u8 0,.int .u8 0,.int .u8 0,.int .u8 0,.int .u8 0,.int .u8 0,.int .u8 0,.int .u8 0,.int .u8 0,.int .u8 0,.int .u8 0,.int .u8 0,.int .u8 0,.int .u8 0,.int .u8 0,.int .u8 0,.int .u8 0,.int .u8 0]⟩
theorem ty54_ok:Dy prog ty54:=⟨QKR,QKR⟩
def ty55:Ty:=⟨55,.array 32 5,32,32,.agg #[.int .u8 0,.int .u8 0,.int .u8 0,.int .u8 0,.int .u8 0,.int .u8 0,.int .u8 0,.int .u8 0,.int .u8 0,.int .u8 0,.int .u8 0,.int .u8 0,.int .u8 0,.int .u8 0,.int .u8 0,.int .u8 0,.int .u8 0,.int .u8 0,.int .u8 0,.int .u8 0,.int .u8 0,.int .u8 0,.int .u8 0,.int .u8 0,.int .u8 0,.int .u8 0,.int .u8 0,.int .u8 0,.int .u8 0,.int .u8 0,.int .u8 0,.int .u8 0]⟩
theorem ty55_ok:Dy prog ty55:=⟨QKR,QKR⟩
def Ara:Ty:=⟨57,.struct #[fd 3 0,fd 3 1,fd 3 2,fd 42 3,fd 44 7,fd 47 12,fd 39 25,fd 49 42,fd 51 45,fd 53 47,fd 55 50],82,536,.agg #[.int .i64 0,.int .i64 0,.int .i64 0,.int .i64 0,.int .i64 0,.slice none 0 0,.string ByteArray.empty,.int .i64 0,.int .i64 0,.int .i64 0,.int .i64 0,.int .i64 0,.int .i64 0,.int .i64 0,.int .i64 0,.int .i64 0,.int .i64 0,.int .i64 0,.int .i64 0,.int .i64 0,.int .i64 0,.slice none 0 0,.slice none 0 0,.slice none 0 0,.slice none 0 0,.int .i64 0,.int .i64 0,.int .i64 0,.int .i64 0,.int .i64 0,.int .i64 0,.int .i64 0,.int .i64 0,.int .i64 0,.int .i64 0,.int .i64 0,.int .i64 0,.int .i64 0,.int .i64 0,.int .i64 0,.int .i64 0,.int .i64 0,.int .i64 0,.int .i64 0,.bool false,.int .i64 0,.int .i64 0,.int .i64 0,.int .i64 0,.slice none 0 0,.int .u8 0,.int .u8 0,.int .u8 0,.int .u8 0,.int .u8 0,.int .u8 0,.int .u8 0,.int .u8 0,.int .u8 0,.int .u8 0,.int .u8 0,.int .u8 0,.int .u8 0,.int .u8 0,.int .u8 0,.int .u8 0,.int .u8 0,.int .u8 0,.int .u8 0,.int .u8 0,.int .u8 0,.int .u8 0,.int .u8 0,.int .u8 0,.int .u8 0,.int .u8 0,.int .u8 0,.int .u8 0,.int .u8 0,.int .u8 0,.int .u8 0,.int .u8 0]⟩
theorem ty57_ok:Dy prog Ara:=⟨QKR,QKR⟩
def ty62:Ty:=⟨62,.struct #[fd 3 0,fd 47 1,fd 3 14],15,184,.agg #[.int .i64 0,.int .i64 0,.int .i64 0,.int .i64 0,.int .i64 0,.int .i64 0,.int .i64 0,.int .i64 0,.int .i64 0,.int .i64 0,.slice none 0 0,.slice none 0 0,.slice none 0 0,.slice none 0 0,.int .i64 0]⟩
theorem ty62_ok:Dy prog ty62:=⟨QKR,QKR⟩
def ty66:Ty:=⟨66,.slice 28,1,24,.slice none 0 0⟩
theorem ty66_ok:Dy prog ty66:=⟨QKR,QKR⟩
def ty68:Ty:=⟨68,.array 3 3,3,24,.agg #[.int .i64 0,.int .i64 0,.int .i64 0]⟩
theorem ty68_ok:Dy prog ty68:=⟨QKR,QKR⟩
def ty69:Ty:=⟨69,.slice 24,1,24,.slice none 0 0⟩
theorem ty69_ok:Dy prog ty69:=⟨QKR,QKR⟩
def ty79:Ty:=⟨79,.func #[57] #[4] false,1,8,.nilFunc⟩
theorem ty79_ok:Dy prog ty79:=⟨QKR,QKR⟩
def ty81:Ty:=⟨81,.func #[24,39,3] #[28,4] false,1,8,.nilFunc⟩
theorem ty81_ok:Dy prog ty81:=⟨QKR,QKR⟩
def ty82:Ty:=⟨82,.map 3 81,1,8,.map none⟩
theorem ty82_ok:Dy prog ty82:=⟨QKR,QKR⟩
def ty87:Ty:=⟨87,.array 2 4,2,2,.agg #[.bool false,.bool false]⟩
theorem ty87_ok:Dy prog ty87:=⟨QKR,QKR⟩
def ty93:Ty:=⟨93,.func #[57,57] #[3] false,1,8,.nilFunc⟩
theorem ty93_ok:Dy prog ty93:=⟨QKR,QKR⟩
def ty95:Ty:=⟨95,.array 2 57,164,1072,.agg #[.int .i64 0,.int .i64 0,.int .i64 0,.int .i64 0,.int .i64 0,.slice none 0 0,.string ByteArray.empty,.int .i64 0,.int .i64 0,.int .i64 0,.int .i64 0,.int .i64 0,.int .i64 0,.int .i64 0,.int .i64 0,.int .i64 0,.int .i64 0,.int .i64 0,.int .i64 0,.int .i64 0,.int .i64 0,.slice none 0 0,.slice none 0 0,.slice none 0 0,.slice none 0 0,.int .i64 0,.int .i64 0,.int .i64 0,.int .i64 0,.int .i64 0,.int .i64 0,.int .i64 0,.int .i64 0,.int .i64 0,.int .i64 0,.int .i64 0,.int .i64 0,.int .i64 0,.int .i64 0,.int .i64 0,.int .i64 0,.int .i64 0,.int .i64 0,.int .i64 0,.bool false,.int .i64 0,.int .i64 0,.int .i64 0,.int .i64 0,.slice none 0 0,.int .u8 0,.int .u8 0,.int .u8 0,.int .u8 0,.int .u8 0,.int .u8 0,.int .u8 0,.int .u8 0,.int .u8 0,.int .u8 0,.int .u8 0,.int .u8 0,.int .u8 0,.int .u8 0,.int .u8 0,.int .u8 0,.int .u8 0,.int .u8 0,.int .u8 0,.int .u8 0,.int .u8 0,.int .u8 0,.int .u8 0,.int .u8 0,.int .u8 0,.int .u8 0,.int .u8 0,.int .u8 0,.int .u8 0,.int .u8 0,.int .u8 0,.int .u8 0,.int .i64 0,.int .i64 0,.int .i64 0,.int .i64 0,.int .i64 0,.slice none 0 0,.string ByteArray.empty,.int .i64 0,.int .i64 0,.int .i64 0,.int .i64 0,.int .i64 0,.int .i64 0,.int .i64 0,.int .i64 0,.int .i64 0,.int .i64 0,.int .i64 0,.int .i64 0,.int .i64 0,.int .i64 0,.slice none 0 0,.slice none 0 0,.slice none 0 0,.slice none 0 0,.int .i64 0,.int .i64 0,.int .i64 0,.int .i64 0,.int .i64 0,.int .i64 0,.int .i64 0,.int .i64 0,.int .i64 0,.int .i64 0,.int .i64 0,.int .i64 0,.int .i64 0,.int .i64 0,.int .i64 0,.int .i64 0,.int .i64 0,.int .i64 0,.int .i64 0,.bool false,.int .i64 0,.int .i64 0,.int .i64 0,.int .i64 0,.slice none 0 0,.int .u8 0,.int .u8 0,.int .u8 0,.int .u8 0,.int .u8 0,.int .u8 0,.int .u8 0,.int .u8 0,.int .u8 0,.int .u8 0,.int .u8 0,.int .u8 0,.int .u8 0,.int .u8 0,.int .u8 0,.int .u8 0,.int .u8 0,.int .u8 0,.int .u8 0,.int .u8 0,.int .u8 0,.int .u8 0,.int .u8 0,.int .u8 0,.int .u8 0,.int .u8 0,.int .u8 0,.int .u8 0,.int .u8 0,.int .u8 0,.int .u8 0,.int .u8 0]⟩
theorem ty95_ok:Dy prog ty95:=⟨QKR,QKR⟩
def ty96:Ty:=⟨96,.map 24 95,1,8,.map none⟩
theorem ty96_ok:Dy prog ty96:=⟨QKR,QKR⟩
def ty99:Ty:=⟨99,.map 3 4,1,8,.map none⟩
theorem ty99_ok:Dy prog ty99:=⟨QKR,QKR⟩
def ty100:Ty:=⟨100,.slice 103,1,24,.slice none 0 0⟩
theorem ty100_ok:Dy prog ty100:=⟨QKR,QKR⟩
def ty103:Ty:=⟨103,.struct #[fd 3 0,fd 3 1,fd 24 2],6,48,.agg #[.int .i64 0,.int .i64 0,.int .i64 0,.int .i64 0,.int .i64 0,.int .i64 0]⟩
theorem ty103_ok:Dy prog ty103:=⟨QKR,QKR⟩
def ty105:Ty:=⟨105,.struct #[fd 3 0,fd 3 1],2,16,.agg #[.int .i64 0,.int .i64 0]⟩
theorem ty105_ok:Dy prog ty105:=⟨QKR,QKR⟩
def ty110:Ty:=⟨110,.func #[105] #[4] false,1,8,.nilFunc⟩
theorem ty110_ok:Dy prog ty110:=⟨QKR,QKR⟩
def ty112:Ty:=⟨112,.struct #[fd 110 0,fd 110 1,fd 110 2],3,24,.agg #[.nilFunc,.nilFunc,.nilFunc]⟩
theorem ty112_ok:Dy prog ty112:=⟨QKR,QKR⟩
def ty120:Ty:=⟨120,.func #[28,28] #[3] false,1,8,.nilFunc⟩
theorem ty120_ok:Dy prog ty120:=⟨QKR,QKR⟩
def ty122:Ty:=⟨122,.func #[3] #[4] false,1,8,.nilFunc⟩
theorem ty122_ok:Dy prog ty122:=⟨QKR,QKR⟩
def Kga:Ty:=⟨128,.struct #[fd 3 0,fd 4 1],2,16,.agg #[.int .i64 0,.bool false]⟩
theorem ty128_ok:Dy prog Kga:=⟨QKR,QKR⟩
def ty131:Ty:=⟨131,.slice 133,1,24,.slice none 0 0⟩
theorem ty131_ok:Dy prog ty131:=⟨QKR,QKR⟩
def ty133:Ty:=⟨133,.pointer 181,1,8,.pointer none⟩
theorem ty133_ok:Dy prog ty133:=⟨QKR,QKR⟩
def ty137:Ty:=⟨137,.slice 5,1,24,.slice none 0 0⟩
theorem ty137_ok:Dy prog ty137:=⟨QKR,QKR⟩
def ty144:Ty:=⟨144,.slice 62,1,24,.slice none 0 0⟩
theorem ty144_ok:Dy prog ty144:=⟨QKR,QKR⟩
def ty146:Ty:=⟨146,.map 3 3,1,8,.map none⟩
theorem ty146_ok:Dy prog ty146:=⟨QKR,QKR⟩
def ty147:Ty:=⟨147,.map 3 152,1,8,.map none⟩
theorem ty147_ok:Dy prog ty147:=⟨QKR,QKR⟩
def ty149:Ty:=⟨149,.slice 105,1,24,.slice none 0 0⟩
theorem ty149_ok:Dy prog ty149:=⟨QKR,QKR⟩
def ty152:Ty:=⟨152,.struct #[fd 3 0,fd 4 1],2,16,.agg #[.int .i64 0,.bool false]⟩
theorem ty152_ok:Dy prog ty152:=⟨QKR,QKR⟩
def ty154:Ty:=⟨154,.func #[62] #[4] false,1,8,.nilFunc⟩
theorem ty154_ok:Dy prog ty154:=⟨QKR,QKR⟩
def ty156:Ty:=⟨156,.slice 39,1,24,.slice none 0 0⟩
theorem ty156_ok:Dy prog ty156:=⟨QKR,QKR⟩
def ty158:Ty:=⟨158,.func #[39] #[4] false,1,8,.nilFunc⟩
theorem ty158_ok:Dy prog ty158:=⟨QKR,QKR⟩
def ty159:Ty:=⟨159,.map 24 4,1,8,.map none⟩
theorem ty159_ok:Dy prog ty159:=⟨QKR,QKR⟩
def ty162:Ty:=⟨162,.int .u64,1,8,.int .u64 0⟩
theorem ty162_ok:Dy prog ty162:=⟨QKR,QKR⟩
def ty163:Ty:=⟨163,.func #[57,169] #[] false,1,8,.nilFunc⟩
theorem ty163_ok:Dy prog ty163:=⟨QKR,QKR⟩
def ty165:Ty:=⟨165,.struct #[fd 79 0,fd 163 1],2,16,.agg #[.nilFunc,.nilFunc]⟩
theorem ty165_ok:Dy prog ty165:=⟨QKR,QKR⟩
def ty167:Ty:=⟨167,.map 3 165,1,8,.map none⟩
theorem ty167_ok:Dy prog ty167:=⟨QKR,QKR⟩
def ty169:Ty:=⟨169,.pointer 57,1,8,.pointer none⟩
theorem ty169_ok:Dy prog ty169:=⟨QKR,QKR⟩
def ty170:Ty:=⟨170,.func #[57,57] #[4] false,1,8,.nilFunc⟩
theorem ty170_ok:Dy prog ty170:=⟨QKR,QKR⟩
def ty178:Ty:=⟨178,.map 3 133,1,8,.map none⟩
theorem ty178_ok:Dy prog ty178:=⟨QKR,QKR⟩
def ty179:Ty:=⟨179,.array 4 4,4,4,.agg #[.bool false,.bool false,.bool false,.bool false]⟩
theorem ty179_ok:Dy prog ty179:=⟨QKR,QKR⟩
def ty181:Ty:=⟨181,.struct #[fd 3 0,fd 22 1,fd 179 2],6,40,.agg #[.int .i64 0,.slice none 0 0,.bool false,.bool false,.bool false,.bool false]⟩
theorem ty181_ok:Dy prog ty181:=⟨QKR,QKR⟩
def ty185:Ty:=⟨185,.func #[133,133] #[3] false,1,8,.nilFunc⟩
theorem ty185_ok:Dy prog ty185:=⟨QKR,QKR⟩
def ty186:Ty:=⟨186,.slice 192,1,24,.slice none 0 0⟩
theorem ty186_ok:Dy prog ty186:=⟨QKR,QKR⟩
def ty190:Ty:=⟨190,.slice 9,1,24,.slice none 0 0⟩
theorem ty190_ok:Dy prog ty190:=⟨QKR,QKR⟩
def ty192:Ty:=⟨192,.struct #[fd 3 0,fd 3 1,fd 9 2,fd 186 3,fd 190 4],5,80,.agg #[.int .i64 0,.int .i64 0,.string ByteArray.empty,.slice none 0 0,.slice none 0 0]⟩
theorem ty192_ok:Dy prog ty192:=⟨QKR,QKR⟩
def ty198:Ty:=⟨198,.func #[62,62] #[3] false,1,8,.nilFunc⟩
theorem ty198_ok:Dy prog ty198:=⟨QKR,QKR⟩
def ty201:Ty:=⟨201,.func #[105,105] #[3] false,1,8,.nilFunc⟩
theorem ty201_ok:Dy prog ty201:=⟨QKR,QKR⟩
def ty204:Ty:=⟨204,.int .i64,1,8,.int .i64 0⟩
theorem ty204_ok:Dy prog ty204:=⟨QKR,QKR⟩
def ty211:Ty:=⟨211,.int .u32,1,4,.int .u32 0⟩
theorem ty211_ok:Dy prog ty211:=⟨QKR,QKR⟩
def ty213:Ty:=⟨213,.int .u64,1,8,.int .u64 0⟩
theorem ty213_ok:Dy prog ty213:=⟨QKR,QKR⟩
def ty226:Ty:=⟨226,.func #[133,133] #[4] false,1,8,.nilFunc⟩
theorem ty226_ok:Dy prog ty226:=⟨QKR,QKR⟩
def ty227:Ty:=⟨227,.func #[192] #[4] false,1,8,.nilFunc⟩
theorem ty227_ok:Dy prog ty227:=⟨QKR,QKR⟩
def ty235:Ty:=⟨235,.func #[137,192] #[137] false,1,8,.nilFunc⟩
theorem ty235_ok:Dy prog ty235:=⟨QKR,QKR⟩
def ty237:Ty:=⟨237,.struct #[fd 235 0],1,8,.agg #[.nilFunc]⟩
theorem ty237_ok:Dy prog ty237:=⟨QKR,QKR⟩
def ty238:Ty:=⟨238,.pointer 272,1,8,.pointer none⟩
theorem ty238_ok:Dy prog ty238:=⟨QKR,QKR⟩
def ty241:Ty:=⟨241,.func #[24,24] #[3] false,1,8,.nilFunc⟩
theorem ty241_ok:Dy prog ty241:=⟨QKR,QKR⟩
def ty242:Ty:=⟨242,.func #[24,95] #[4] false,1,8,.nilFunc⟩
theorem ty242_ok:Dy prog ty242:=⟨QKR,QKR⟩
def ty244:Ty:=⟨244,.slice 45,1,24,.slice none 0 0⟩
theorem ty244_ok:Dy prog ty244:=⟨QKR,QKR⟩
def ty247:Ty:=⟨247,.int .u64,1,8,.int .u64 0⟩
theorem ty247_ok:Dy prog ty247:=⟨QKR,QKR⟩
def ty251:Ty:=⟨251,.pointer 3,1,8,.pointer none⟩
theorem ty251_ok:Dy prog ty251:=⟨QKR,QKR⟩
def ty257:Ty:=⟨257,.func #[39,263] #[] false,1,8,.nilFunc⟩
theorem ty257_ok:Dy prog ty257:=⟨QKR,QKR⟩
def ty259:Ty:=⟨259,.struct #[fd 158 0,fd 257 1],2,16,.agg #[.nilFunc,.nilFunc]⟩
theorem ty259_ok:Dy prog ty259:=⟨QKR,QKR⟩
def ty261:Ty:=⟨261,.map 3 259,1,8,.map none⟩
theorem ty261_ok:Dy prog ty261:=⟨QKR,QKR⟩
def ty263:Ty:=⟨263,.pointer 39,1,8,.pointer none⟩
theorem ty263_ok:Dy prog ty263:=⟨QKR,QKR⟩
def ty272:Ty:=⟨272,.array 5 237,5,40,.agg #[.nilFunc,.nilFunc,.nilFunc,.nilFunc,.nilFunc]⟩
theorem ty272_ok:Dy prog ty272:=⟨QKR,QKR⟩
def ty290:Ty:=⟨290,.func #[128] #[4] false,1,8,.nilFunc⟩
theorem ty290_ok:Dy prog ty290:=⟨QKR,QKR⟩
def ty322:Ty:=⟨322,.array 5 4,5,5,.agg #[.bool false,.bool false,.bool false,.bool false,.bool false]⟩
theorem ty322_ok:Dy prog ty322:=⟨QKR,QKR⟩
def ty334:Ty:=⟨334,.array 24 5,24,24,.agg #[.int .u8 0,.int .u8 0,.int .u8 0,.int .u8 0,.int .u8 0,.int .u8 0,.int .u8 0,.int .u8 0,.int .u8 0,.int .u8 0,.int .u8 0,.int .u8 0,.int .u8 0,.int .u8 0,.int .u8 0,.int .u8 0,.int .u8 0,.int .u8 0,.int .u8 0,.int .u8 0,.int .u8 0,.int .u8 0,.int .u8 0,.int .u8 0]⟩
theorem ty334_ok:Dy prog ty334:=⟨QKR,QKR⟩
def ty341:Ty:=⟨341,.array 20 213,20,160,.agg #[.int .u64 0,.int .u64 0,.int .u64 0,.int .u64 0,.int .u64 0,.int .u64 0,.int .u64 0,.int .u64 0,.int .u64 0,.int .u64 0,.int .u64 0,.int .u64 0,.int .u64 0,.int .u64 0,.int .u64 0,.int .u64 0,.int .u64 0,.int .u64 0,.int .u64 0,.int .u64 0]⟩
theorem ty341_ok:Dy prog ty341:=⟨QKR,QKR⟩
def ty342:Ty:=⟨342,.array 65 5,65,65,.agg #[.int .u8 0,.int .u8 0,.int .u8 0,.int .u8 0,.int .u8 0,.int .u8 0,.int .u8 0,.int .u8 0,.int .u8 0,.int .u8 0,.int .u8 0,.int .u8 0,.int .u8 0,.int .u8 0,.int .u8 0,.int .u8 0,.int .u8 0,.int .u8 0,.int .u8 0,.int .u8 0,.int .u8 0,.int .u8 0,.int .u8 0,.int .u8 0,.int .u8 0,.int .u8 0,.int .u8 0,.int .u8 0,.int .u8 0,.int .u8 0,.int .u8 0,.int .u8 0,.int .u8 0,.int .u8 0,.int .u8 0,.int .u8 0,.int .u8 0,.int .u8 0,.int .u8 0,.int .u8 0,.int .u8 0,.int .u8 0,.int .u8 0,.int .u8 0,.int .u8 0,.int .u8 0,.int .u8 0,.int .u8 0,.int .u8 0,.int .u8 0,.int .u8 0,.int .u8 0,.int .u8 0,.int .u8 0,.int .u8 0,.int .u8 0,.int .u8 0,.int .u8 0,.int .u8 0,.int .u8 0,.int .u8 0,.int .u8 0,.int .u8 0,.int .u8 0,.int .u8 0]⟩
theorem ty342_ok:Dy prog ty342:=⟨QKR,QKR⟩
def ty344:Ty:=⟨344,.array 64 5,64,64,.agg #[.int .u8 0,.int .u8 0,.int .u8 0,.int .u8 0,.int .u8 0,.int .u8 0,.int .u8 0,.int .u8 0,.int .u8 0,.int .u8 0,.int .u8 0,.int .u8 0,.int .u8 0,.int .u8 0,.int .u8 0,.int .u8 0,.int .u8 0,.int .u8 0,.int .u8 0,.int .u8 0,.int .u8 0,.int .u8 0,.int .u8 0,.int .u8 0,.int .u8 0,.int .u8 0,.int .u8 0,.int .u8 0,.int .u8 0,.int .u8 0,.int .u8 0,.int .u8 0,.int .u8 0,.int .u8 0,.int .u8 0,.int .u8 0,.int .u8 0,.int .u8 0,.int .u8 0,.int .u8 0,.int .u8 0,.int .u8 0,.int .u8 0,.int .u8 0,.int .u8 0,.int .u8 0,.int .u8 0,.int .u8 0,.int .u8 0,.int .u8 0,.int .u8 0,.int .u8 0,.int .u8 0,.int .u8 0,.int .u8 0,.int .u8 0,.int .u8 0,.int .u8 0,.int .u8 0,.int .u8 0,.int .u8 0,.int .u8 0,.int .u8 0,.int .u8 0]⟩
theorem ty344_ok:Dy prog ty344:=⟨QKR,QKR⟩
def ts:List Ty:=[ty2,ty3,ty4,ty5,ty9,ty22,ty24,ty28,ty32,ty37,ty39,ty40,ty42,ty44,ty45,ty47,ty49,ty51,ty53,ty54,ty55,Ara,ty62,ty66,ty68,ty69,ty79,ty81,ty82,ty87,ty93,ty95,ty96,ty99,ty100,ty103,ty105,ty110,ty112,ty120,ty122,Kga,ty131,ty133,ty137,ty144,ty146,ty147,ty149,ty152,ty154,ty156,ty158,ty159,ty162,ty163,ty165,ty167,ty169,ty170,ty178,ty179,ty181,ty185,ty186,ty190,ty192,ty198,ty201,ty204,ty211,ty213,ty226,ty227,ty235,ty237,ty238,ty241,ty242,ty244,ty247,ty251,ty257,ty259,ty261,ty263,ty272,ty290,ty322,ty334,ty341,ty342,ty344]
theorem ts_ok:Ss prog ts:=by
 intro t ht
 simp only [ts,List.mem_cons,List.not_mem_nil,or_false] at ht
 rcases ht with rfl|rfl|rfl|rfl|rfl|rfl|rfl|rfl|rfl|rfl|rfl|rfl|rfl|rfl|rfl|rfl|rfl|rfl|rfl|rfl|rfl|rfl|rfl|rfl|rfl|rfl|rfl|rfl|rfl|rfl|rfl|rfl|rfl|rfl|rfl|rfl|rfl|rfl|rfl|rfl|rfl|rfl|rfl|rfl|rfl|rfl|rfl|rfl|rfl|rfl|rfl|rfl|rfl|rfl|rfl|rfl|rfl|rfl|rfl|rfl|rfl|rfl|rfl|rfl|rfl|rfl|rfl|rfl|rfl|rfl|rfl|rfl|rfl|rfl|rfl|rfl|rfl|rfl|rfl|rfl|rfl|rfl|rfl|rfl|rfl|rfl|rfl|rfl|rfl|rfl|rfl|rfl|rfl
 · exact ty2_ok
 · exact ty3_ok
 · exact ty4_ok
 · exact ty5_ok
 · exact ty9_ok
 · exact ty22_ok
 · exact ty24_ok
 · exact ty28_ok
 · exact ty32_ok
 · exact ty37_ok
 · exact ty39_ok
 · exact ty40_ok
 · exact ty42_ok
 · exact ty44_ok
 · exact ty45_ok
 · exact ty47_ok
 · exact ty49_ok
 · exact ty51_ok
 · exact ty53_ok
 · exact ty54_ok
 · exact ty55_ok
 · exact ty57_ok
 · exact ty62_ok
 · exact ty66_ok
 · exact ty68_ok
 · exact ty69_ok
 · exact ty79_ok
 · exact ty81_ok
 · exact ty82_ok
 · exact ty87_ok
 · exact ty93_ok
 · exact ty95_ok
 · exact ty96_ok
 · exact ty99_ok
 · exact ty100_ok
 · exact ty103_ok
 · exact ty105_ok
 · exact ty110_ok
 · exact ty112_ok
 · exact ty120_ok
 · exact ty122_ok
 · exact ty128_ok
 · exact ty131_ok
 · exact ty133_ok
 · exact ty137_ok
 · exact ty144_ok
 · exact ty146_ok
 · exact ty147_ok
 · exact ty149_ok
 · exact ty152_ok
 · exact ty154_ok
 · exact ty156_ok
 · exact ty158_ok
 · exact ty159_ok
 · exact ty162_ok
 · exact ty163_ok
 · exact ty165_ok
 · exact ty167_ok
 · exact ty169_ok
 · exact ty170_ok
 · exact ty178_ok
 · exact ty179_ok
 · exact ty181_ok
 · exact ty185_ok
 · exact ty186_ok
 · exact ty190_ok
 · exact ty192_ok
 · exact ty198_ok
 · exact ty201_ok
 · exact ty204_ok
 · exact ty211_ok
 · exact ty213_ok
 · exact ty226_ok
 · exact ty227_ok
 · exact ty235_ok
 · exact ty237_ok
 · exact ty238_ok
 · exact ty241_ok
 · exact ty242_ok
 · exact ty244_ok
 · exact ty247_ok
 · exact ty251_ok
 · exact ty257_ok
 · exact ty259_ok
 · exact ty261_ok
 · exact ty263_ok
 · exact ty272_ok
 · exact ty290_ok
 · exact ty322_ok
 · exact ty334_ok
 · exact ty341_ok
 · exact ty342_ok
 · exact ty344_ok
theorem has8:Has prog 8:=⟨_,Go.Proofs.Tryz.func8,QKR,QKR⟩
theorem has9:Has prog 9:=⟨_,Go.Proofs.Tryz.func9,QKR,QKR⟩
theorem Bga:Has prog 10:=⟨_,Go.Proofs.Tryz.func10,QKR,QKR⟩
theorem has11:Has prog 11:=⟨_,Go.Proofs.Tryz.func11,QKR,QKR⟩
theorem has12:Has prog 12:=⟨_,Go.Proofs.Tryz.func12,QKR,QKR⟩
theorem has14:Has prog 14:=⟨_,Go.Proofs.Tryz.func14,QKR,QKR⟩
theorem has15:Has prog 15:=⟨_,Go.Proofs.Tryz.func15,QKR,QKR⟩
theorem has16:Has prog 16:=⟨_,Go.Proofs.Tryz.func16,QKR,QKR⟩
theorem has17:Has prog 17:=⟨_,Go.Proofs.Tryz.func17,QKR,QKR⟩
theorem has19:Has prog 19:=⟨_,Go.Proofs.Tryz.func19,QKR,QKR⟩
theorem has20:Has prog 20:=⟨_,Go.Proofs.Tryz.func20,QKR,QKR⟩
theorem has21:Has prog 21:=⟨_,Go.Proofs.Tryz.func21,QKR,QKR⟩
theorem has22:Has prog 22:=⟨_,Go.Proofs.Tryz.func22,QKR,QKR⟩
theorem has23:Has prog 23:=⟨_,Go.Proofs.Tryz.func23,QKR,QKR⟩
theorem has24:Has prog 24:=⟨_,Go.Proofs.Tryz.func24,QKR,QKR⟩
theorem has25:Has prog 25:=⟨_,Go.Proofs.Tryz.func25,QKR,QKR⟩
theorem has26:Has prog 26:=⟨_,Go.Proofs.Tryz.func26,QKR,QKR⟩
theorem has27:Has prog 27:=⟨_,Go.Proofs.Tryz.func27,QKR,QKR⟩
theorem has28:Has prog 28:=⟨_,Go.Proofs.Tryz.func28,QKR,QKR⟩
theorem has29:Has prog 29:=⟨_,Go.Proofs.Tryz.func29,QKR,QKR⟩
theorem has30:Has prog 30:=⟨_,Go.Proofs.Tryz.func30,QKR,QKR⟩
theorem has31:Has prog 31:=⟨_,Go.Proofs.Tryz.func31,QKR,QKR⟩
theorem has32:Has prog 32:=⟨_,Go.Proofs.Tryz.func32,QKR,QKR⟩
theorem has33:Has prog 33:=⟨_,Go.Proofs.Tryz.func33,QKR,QKR⟩
theorem has34:Has prog 34:=⟨_,Go.Proofs.Tryz.func34,QKR,QKR⟩
theorem Gta:Has prog 36:=⟨_,Go.Proofs.Tryz.func36,QKR,QKR⟩
theorem has37:Has prog 37:=⟨_,Go.Proofs.Tryz.func37,QKR,QKR⟩
theorem has38:Has prog 38:=⟨_,Go.Proofs.Tryz.func38,QKR,QKR⟩
theorem has39:Has prog 39:=⟨_,Go.Proofs.Tryz.func39,QKR,QKR⟩
theorem has40:Has prog 40:=⟨_,Go.Proofs.Tryz.func40,QKR,QKR⟩
theorem Lga:Has prog 41:=⟨_,Go.Proofs.Tryz.func41,QKR,QKR⟩
theorem has42:Has prog 42:=⟨_,Go.Proofs.Tryz.func42,QKR,QKR⟩
theorem has43:Has prog 43:=⟨_,Go.Proofs.Tryz.func43,QKR,QKR⟩
theorem has44:Has prog 44:=⟨_,Go.Proofs.Tryz.func44,QKR,QKR⟩
theorem has45:Has prog 45:=⟨_,Go.Proofs.Tryz.func45,QKR,QKR⟩
theorem has46:Has prog 46:=⟨_,Go.Proofs.Tryz.func46,QKR,QKR⟩
theorem has47:Has prog 47:=⟨_,Go.Proofs.Tryz.func47,QKR,QKR⟩
theorem has48:Has prog 48:=⟨_,Go.Proofs.Tryz.func48,QKR,QKR⟩
theorem has49:Has prog 49:=⟨_,Go.Proofs.Tryz.func49,QKR,QKR⟩
theorem has50:Has prog 50:=⟨_,Go.Proofs.Tryz.func50,QKR,QKR⟩
theorem has51:Has prog 51:=⟨_,Go.Proofs.Tryz.func51,QKR,QKR⟩
theorem has52:Has prog 52:=⟨_,Go.Proofs.Tryz.func52,QKR,QKR⟩
theorem has56:Has prog 56:=⟨_,Go.Proofs.Tryz.func56,QKR,QKR⟩
theorem has57:Has prog 57:=⟨_,Go.Proofs.Tryz.func57,QKR,QKR⟩
theorem has58:Has prog 58:=⟨_,Go.Proofs.Tryz.func58,QKR,QKR⟩
theorem has59:Has prog 59:=⟨_,Go.Proofs.Tryz.func59,QKR,QKR⟩
theorem has60:Has prog 60:=⟨_,Go.Proofs.Tryz.func60,QKR,QKR⟩
theorem has61:Has prog 61:=⟨_,Go.Proofs.Tryz.func61,QKR,QKR⟩
theorem has62:Has prog 62:=⟨_,Go.Proofs.Tryz.func62,QKR,QKR⟩
theorem has63:Has prog 63:=⟨_,Go.Proofs.Tryz.func63,QKR,QKR⟩
theorem has64:Has prog 64:=⟨_,Go.Proofs.Tryz.func64,QKR,QKR⟩
theorem has65:Has prog 65:=⟨_,Go.Proofs.Tryz.func65,QKR,QKR⟩
theorem has66:Has prog 66:=⟨_,Go.Proofs.Tryz.func66,QKR,QKR⟩
theorem has67:Has prog 67:=⟨_,Go.Proofs.Tryz.func67,QKR,QKR⟩
theorem has68:Has prog 68:=⟨_,Go.Proofs.Tryz.func68,QKR,QKR⟩
theorem has69:Has prog 69:=⟨_,Go.Proofs.Tryz.func69,QKR,QKR⟩
theorem has70:Has prog 70:=⟨_,Go.Proofs.Tryz.func70,QKR,QKR⟩
theorem has71:Has prog 71:=⟨_,Go.Proofs.Tryz.func71,QKR,QKR⟩
theorem has72:Has prog 72:=⟨_,Go.Proofs.Tryz.func72,QKR,QKR⟩
theorem has73:Has prog 73:=⟨_,Go.Proofs.Tryz.func73,QKR,QKR⟩
theorem has74:Has prog 74:=⟨_,Go.Proofs.Tryz.func74,QKR,QKR⟩
theorem has75:Has prog 75:=⟨_,Go.Proofs.Tryz.func75,QKR,QKR⟩
theorem has76:Has prog 76:=⟨_,Go.Proofs.Tryz.func76,QKR,QKR⟩
theorem has77:Has prog 77:=⟨_,Go.Proofs.Tryz.func77,QKR,QKR⟩
theorem has78:Has prog 78:=⟨_,Go.Proofs.Tryz.func78,QKR,QKR⟩
theorem has79:Has prog 79:=⟨_,Go.Proofs.Tryz.func79,QKR,QKR⟩
theorem has80:Has prog 80:=⟨_,Go.Proofs.Tryz.func80,QKR,QKR⟩
theorem has81:Has prog 81:=⟨_,Go.Proofs.Tryz.func81,QKR,QKR⟩
theorem has82:Has prog 82:=⟨_,Go.Proofs.Tryz.func82,QKR,QKR⟩
theorem has83:Has prog 83:=⟨_,Go.Proofs.Tryz.func83,QKR,QKR⟩
theorem has84:Has prog 84:=⟨_,Go.Proofs.Tryz.func84,QKR,QKR⟩
theorem has85:Has prog 85:=⟨_,Go.Proofs.Tryz.func85,QKR,QKR⟩
theorem has86:Has prog 86:=⟨_,Go.Proofs.Tryz.func86,QKR,QKR⟩
theorem has87:Has prog 87:=⟨_,Go.Proofs.Tryz.func87,QKR,QKR⟩
theorem has88:Has prog 88:=⟨_,Go.Proofs.Tryz.func88,QKR,QKR⟩
theorem has89:Has prog 89:=⟨_,Go.Proofs.Tryz.func89,QKR,QKR⟩
theorem has90:Has prog 90:=⟨_,Go.Proofs.Tryz.func90,QKR,QKR⟩
theorem has91:Has prog 91:=⟨_,Go.Proofs.Tryz.func91,QKR,QKR⟩
theorem has92:Has prog 92:=⟨_,Go.Proofs.Tryz.func92,QKR,QKR⟩
theorem has93:Has prog 93:=⟨_,Go.Proofs.Tryz.func93,QKR,QKR⟩
theorem has94:Has prog 94:=⟨_,Go.Proofs.Tryz.func94,QKR,QKR⟩
theorem has98:Has prog 98:=⟨_,Go.Proofs.Tryz.func98,QKR,QKR⟩
theorem has99:Has prog 99:=⟨_,Go.Proofs.Tryz.func99,QKR,QKR⟩
theorem has100:Has prog 100:=⟨_,Go.Proofs.Tryz.func100,QKR,QKR⟩
theorem has101:Has prog 101:=⟨_,Go.Proofs.Tryz.func101,QKR,QKR⟩
theorem has102:Has prog 102:=⟨_,Go.Proofs.Tryz.func102,QKR,QKR⟩
theorem has103:Has prog 103:=⟨_,Go.Proofs.Tryz.func103,QKR,QKR⟩
theorem has104:Has prog 104:=⟨_,Go.Proofs.Tryz.func104,QKR,QKR⟩
theorem has105:Has prog 105:=⟨_,Go.Proofs.Tryz.func105,QKR,QKR⟩
theorem has106:Has prog 106:=⟨_,Go.Proofs.Tryz.func106,QKR,QKR⟩
theorem has107:Has prog 107:=⟨_,Go.Proofs.Tryz.func107,QKR,QKR⟩
theorem has108:Has prog 108:=⟨_,Go.Proofs.Tryz.func108,QKR,QKR⟩
theorem has109:Has prog 109:=⟨_,Go.Proofs.Tryz.func109,QKR,QKR⟩
theorem has110:Has prog 110:=⟨_,Go.Proofs.Tryz.func110,QKR,QKR⟩
theorem has111:Has prog 111:=⟨_,Go.Proofs.Tryz.func111,QKR,QKR⟩
theorem has112:Has prog 112:=⟨_,Go.Proofs.Tryz.func112,QKR,QKR⟩
theorem has113:Has prog 113:=⟨_,Go.Proofs.Tryz.func113,QKR,QKR⟩
theorem has114:Has prog 114:=⟨_,Go.Proofs.Tryz.func114,QKR,QKR⟩
theorem has115:Has prog 115:=⟨_,Go.Proofs.Tryz.func115,QKR,QKR⟩
theorem has116:Has prog 116:=⟨_,Go.Proofs.Tryz.func116,QKR,QKR⟩
theorem has117:Has prog 117:=⟨_,Go.Proofs.Tryz.func117,QKR,QKR⟩
theorem has118:Has prog 118:=⟨_,Go.Proofs.Tryz.func118,QKR,QKR⟩
theorem has119:Has prog 119:=⟨_,Go.Proofs.Tryz.func119,QKR,QKR⟩
theorem has120:Has prog 120:=⟨_,Go.Proofs.Tryz.func120,QKR,QKR⟩
theorem has121:Has prog 121:=⟨_,Go.Proofs.Tryz.func121,QKR,QKR⟩
theorem has122:Has prog 122:=⟨_,Go.Proofs.Tryz.func122,QKR,QKR⟩
theorem has123:Has prog 123:=⟨_,Go.Proofs.Tryz.func123,QKR,QKR⟩
theorem has124:Has prog 124:=⟨_,Go.Proofs.Tryz.func124,QKR,QKR⟩
theorem Wg:Has prog 125:=⟨_,Go.Proofs.Tryz.func125,QKR,QKR⟩
theorem Jca:Has prog 126:=⟨_,Go.Proofs.Tryz.func126,QKR,QKR⟩
theorem has128:Has prog 128:=⟨_,Go.Proofs.Tryz.func128,QKR,QKR⟩
theorem has129:Has prog 129:=⟨_,Go.Proofs.Tryz.func129,QKR,QKR⟩
theorem has130:Has prog 130:=⟨_,Go.Proofs.Tryz.func130,QKR,QKR⟩
theorem has131:Has prog 131:=⟨_,Go.Proofs.Tryz.func131,QKR,QKR⟩
theorem has132:Has prog 132:=⟨_,Go.Proofs.Tryz.func132,QKR,QKR⟩
theorem has134:Has prog 134:=⟨_,Go.Proofs.Tryz.func134,QKR,QKR⟩
theorem has135:Has prog 135:=⟨_,Go.Proofs.Tryz.func135,QKR,QKR⟩
theorem has137:Has prog 137:=⟨_,Go.Proofs.Tryz.func137,QKR,QKR⟩
theorem has148:Has prog 148:=⟨_,Go.Proofs.Tryz.func148,QKR,QKR⟩
theorem has149:Has prog 149:=⟨_,Go.Proofs.Tryz.func149,QKR,QKR⟩
theorem has150:Has prog 150:=⟨_,Go.Proofs.Tryz.func150,QKR,QKR⟩
theorem has151:Has prog 151:=⟨_,Go.Proofs.Tryz.func151,QKR,QKR⟩
theorem has152:Has prog 152:=⟨_,Go.Proofs.Tryz.func152,QKR,QKR⟩
theorem has153:Has prog 153:=⟨_,Go.Proofs.Tryz.func153,QKR,QKR⟩
theorem has154:Has prog 154:=⟨_,Go.Proofs.Tryz.func154,QKR,QKR⟩
theorem has155:Has prog 155:=⟨_,Go.Proofs.Tryz.func155,QKR,QKR⟩
theorem has156:Has prog 156:=⟨_,Go.Proofs.Tryz.func156,QKR,QKR⟩
theorem has157:Has prog 157:=⟨_,Go.Proofs.Tryz.func157,QKR,QKR⟩
theorem has158:Has prog 158:=⟨_,Go.Proofs.Tryz.func158,QKR,QKR⟩
theorem has159:Has prog 159:=⟨_,Go.Proofs.Tryz.func159,QKR,QKR⟩
theorem has160:Has prog 160:=⟨_,Go.Proofs.Tryz.func160,QKR,QKR⟩
theorem has161:Has prog 161:=⟨_,Go.Proofs.Tryz.func161,QKR,QKR⟩
theorem has162:Has prog 162:=⟨_,Go.Proofs.Tryz.func162,QKR,QKR⟩
theorem has163:Has prog 163:=⟨_,Go.Proofs.Tryz.func163,QKR,QKR⟩
theorem has164:Has prog 164:=⟨_,Go.Proofs.Tryz.func164,QKR,QKR⟩
theorem has165:Has prog 165:=⟨_,Go.Proofs.Tryz.func165,QKR,QKR⟩
theorem has166:Has prog 166:=⟨_,Go.Proofs.Tryz.func166,QKR,QKR⟩
theorem has167:Has prog 167:=⟨_,Go.Proofs.Tryz.func167,QKR,QKR⟩
theorem has168:Has prog 168:=⟨_,Go.Proofs.Tryz.func168,QKR,QKR⟩
theorem has169:Has prog 169:=⟨_,Go.Proofs.Tryz.func169,QKR,QKR⟩
theorem has170:Has prog 170:=⟨_,Go.Proofs.Tryz.func170,QKR,QKR⟩
theorem Jba:Has prog 171:=⟨_,Go.Proofs.Tryz.func171,QKR,QKR⟩
theorem Zg:Has prog 172:=⟨_,Go.Proofs.Tryz.func172,QKR,QKR⟩
theorem has173:Has prog 173:=⟨_,Go.Proofs.Tryz.func173,QKR,QKR⟩
theorem has174:Has prog 174:=⟨_,Go.Proofs.Tryz.func174,QKR,QKR⟩
theorem has175:Has prog 175:=⟨_,Go.Proofs.Tryz.func175,QKR,QKR⟩
theorem has176:Has prog 176:=⟨_,Go.Proofs.Tryz.func176,QKR,QKR⟩
theorem has177:Has prog 177:=⟨_,Go.Proofs.Tryz.func177,QKR,QKR⟩
theorem has178:Has prog 178:=⟨_,Go.Proofs.Tryz.func178,QKR,QKR⟩
theorem has179:Has prog 179:=⟨_,Go.Proofs.Tryz.func179,QKR,QKR⟩
theorem has180:Has prog 180:=⟨_,Go.Proofs.Tryz.func180,QKR,QKR⟩
theorem has181:Has prog 181:=⟨_,Go.Proofs.Tryz.func181,QKR,QKR⟩
theorem has182:Has prog 182:=⟨_,Go.Proofs.Tryz.func182,QKR,QKR⟩
theorem has183:Has prog 183:=⟨_,Go.Proofs.Tryz.func183,QKR,QKR⟩
theorem has184:Has prog 184:=⟨_,Go.Proofs.Tryz.func184,QKR,QKR⟩
theorem has185:Has prog 185:=⟨_,Go.Proofs.Tryz.func185,QKR,QKR⟩
theorem has186:Has prog 186:=⟨_,Go.Proofs.Tryz.func186,QKR,QKR⟩
theorem has187:Has prog 187:=⟨_,Go.Proofs.Tryz.func187,QKR,QKR⟩
theorem Tm:Has prog 188:=⟨_,Go.Proofs.Tryz.func188,QKR,QKR⟩
theorem Ov:Has prog 189:=⟨_,Go.Proofs.Tryz.func189,QKR,QKR⟩
theorem has190:Has prog 190:=⟨_,Go.Proofs.Tryz.func190,QKR,QKR⟩
theorem Jaa:Has prog 191:=⟨_,Go.Proofs.Tryz.func191,QKR,QKR⟩
theorem has192:Has prog 192:=⟨_,Go.Proofs.Tryz.func192,QKR,QKR⟩
theorem has193:Has prog 193:=⟨_,Go.Proofs.Tryz.func193,QKR,QKR⟩
theorem has194:Has prog 194:=⟨_,Go.Proofs.Tryz.func194,QKR,QKR⟩
theorem has195:Has prog 195:=⟨_,Go.Proofs.Tryz.func195,QKR,QKR⟩
theorem has196:Has prog 196:=⟨_,Go.Proofs.Tryz.func196,QKR,QKR⟩
theorem has198:Has prog 198:=⟨_,Go.Proofs.Tryz.func198,QKR,QKR⟩
theorem has200:Has prog 200:=⟨_,Go.Proofs.Tryz.func200,QKR,QKR⟩
theorem has207:Has prog 207:=⟨_,Go.Proofs.Tryz.func207,QKR,QKR⟩
theorem has208:Has prog 208:=⟨_,Go.Proofs.Tryz.func208,QKR,QKR⟩
theorem has209:Has prog 209:=⟨_,Go.Proofs.Tryz.func209,QKR,QKR⟩
theorem has210:Has prog 210:=⟨_,Go.Proofs.Tryz.func210,QKR,QKR⟩
theorem has211:Has prog 211:=⟨_,Go.Proofs.Tryz.func211,QKR,QKR⟩
theorem has212:Has prog 212:=⟨_,Go.Proofs.Tryz.func212,QKR,QKR⟩
theorem has213:Has prog 213:=⟨_,Go.Proofs.Tryz.func213,QKR,QKR⟩
theorem has214:Has prog 214:=⟨_,Go.Proofs.Tryz.func214,QKR,QKR⟩
theorem has215:Has prog 215:=⟨_,Go.Proofs.Tryz.func215,QKR,QKR⟩
theorem has216:Has prog 216:=⟨_,Go.Proofs.Tryz.func216,QKR,QKR⟩
theorem has217:Has prog 217:=⟨_,Go.Proofs.Tryz.func217,QKR,QKR⟩
theorem has218:Has prog 218:=⟨_,Go.Proofs.Tryz.func218,QKR,QKR⟩
theorem has219:Has prog 219:=⟨_,Go.Proofs.Tryz.func219,QKR,QKR⟩
theorem has220:Has prog 220:=⟨_,Go.Proofs.Tryz.func220,QKR,QKR⟩
theorem Eba:Has prog 221:=⟨_,Go.Proofs.Tryz.func221,QKR,QKR⟩
theorem Mx:Has prog 222:=⟨_,Go.Proofs.Tryz.func222,QKR,QKR⟩
theorem has223:Has prog 223:=⟨_,Go.Proofs.Tryz.func223,QKR,QKR⟩
theorem has224:Has prog 224:=⟨_,Go.Proofs.Tryz.func224,QKR,QKR⟩
theorem has225:Has prog 225:=⟨_,Go.Proofs.Tryz.func225,QKR,QKR⟩
theorem has226:Has prog 226:=⟨_,Go.Proofs.Tryz.func226,QKR,QKR⟩
theorem has227:Has prog 227:=⟨_,Go.Proofs.Tryz.func227,QKR,QKR⟩
theorem has228:Has prog 228:=⟨_,Go.Proofs.Tryz.func228,QKR,QKR⟩
theorem has229:Has prog 229:=⟨_,Go.Proofs.Tryz.func229,QKR,QKR⟩
theorem has230:Has prog 230:=⟨_,Go.Proofs.Tryz.func230,QKR,QKR⟩
theorem has233:Has prog 233:=⟨_,Go.Proofs.Tryz.func233,QKR,QKR⟩
theorem has234:Has prog 234:=⟨_,Go.Proofs.Tryz.func234,QKR,QKR⟩
theorem has235:Has prog 235:=⟨_,Go.Proofs.Tryz.func235,QKR,QKR⟩
theorem has236:Has prog 236:=⟨_,Go.Proofs.Tryz.func236,QKR,QKR⟩
theorem has237:Has prog 237:=⟨_,Go.Proofs.Tryz.func237,QKR,QKR⟩
theorem has238:Has prog 238:=⟨_,Go.Proofs.Tryz.func238,QKR,QKR⟩
theorem has239:Has prog 239:=⟨_,Go.Proofs.Tryz.func239,QKR,QKR⟩
theorem has240:Has prog 240:=⟨_,Go.Proofs.Tryz.func240,QKR,QKR⟩
theorem has258:Has prog 258:=⟨_,Go.Proofs.Tryz.func258,QKR,QKR⟩
theorem has259:Has prog 259:=⟨_,Go.Proofs.Tryz.func259,QKR,QKR⟩
theorem has260:Has prog 260:=⟨_,Go.Proofs.Tryz.func260,QKR,QKR⟩
theorem has261:Has prog 261:=⟨_,Go.Proofs.Tryz.func261,QKR,QKR⟩
theorem has262:Has prog 262:=⟨_,Go.Proofs.Tryz.func262,QKR,QKR⟩
theorem has263:Has prog 263:=⟨_,Go.Proofs.Tryz.func263,QKR,QKR⟩
theorem has264:Has prog 264:=⟨_,Go.Proofs.Tryz.func264,QKR,QKR⟩
theorem has265:Has prog 265:=⟨_,Go.Proofs.Tryz.func265,QKR,QKR⟩
theorem has266:Has prog 266:=⟨_,Go.Proofs.Tryz.func266,QKR,QKR⟩
theorem has267:Has prog 267:=⟨_,Go.Proofs.Tryz.func267,QKR,QKR⟩
theorem has268:Has prog 268:=⟨_,Go.Proofs.Tryz.func268,QKR,QKR⟩
theorem has269:Has prog 269:=⟨_,Go.Proofs.Tryz.func269,QKR,QKR⟩
theorem has270:Has prog 270:=⟨_,Go.Proofs.Tryz.func270,QKR,QKR⟩
theorem has271:Has prog 271:=⟨_,Go.Proofs.Tryz.func271,QKR,QKR⟩
theorem has272:Has prog 272:=⟨_,Go.Proofs.Tryz.func272,QKR,QKR⟩
theorem has273:Has prog 273:=⟨_,Go.Proofs.Tryz.func273,QKR,QKR⟩
theorem has274:Has prog 274:=⟨_,Go.Proofs.Tryz.func274,QKR,QKR⟩
theorem has275:Has prog 275:=⟨_,Go.Proofs.Tryz.func275,QKR,QKR⟩
theorem has276:Has prog 276:=⟨_,Go.Proofs.Tryz.func276,QKR,QKR⟩
theorem has277:Has prog 277:=⟨_,Go.Proofs.Tryz.func277,QKR,QKR⟩
theorem has278:Has prog 278:=⟨_,Go.Proofs.Tryz.func278,QKR,QKR⟩
theorem has279:Has prog 279:=⟨_,Go.Proofs.Tryz.func279,QKR,QKR⟩
theorem has280:Has prog 280:=⟨_,Go.Proofs.Tryz.func280,QKR,QKR⟩
theorem has281:Has prog 281:=⟨_,Go.Proofs.Tryz.func281,QKR,QKR⟩
theorem has282:Has prog 282:=⟨_,Go.Proofs.Tryz.func282,QKR,QKR⟩
theorem has283:Has prog 283:=⟨_,Go.Proofs.Tryz.func283,QKR,QKR⟩
theorem has284:Has prog 284:=⟨_,Go.Proofs.Tryz.func284,QKR,QKR⟩
theorem has285:Has prog 285:=⟨_,Go.Proofs.Tryz.func285,QKR,QKR⟩
theorem has286:Has prog 286:=⟨_,Go.Proofs.Tryz.func286,QKR,QKR⟩
theorem has287:Has prog 287:=⟨_,Go.Proofs.Tryz.func287,QKR,QKR⟩
theorem has288:Has prog 288:=⟨_,Go.Proofs.Tryz.func288,QKR,QKR⟩
theorem has289:Has prog 289:=⟨_,Go.Proofs.Tryz.func289,QKR,QKR⟩
theorem has290:Has prog 290:=⟨_,Go.Proofs.Tryz.func290,QKR,QKR⟩
theorem has307:Has prog 307:=⟨_,Go.Proofs.Tryz.func307,QKR,QKR⟩
theorem has308:Has prog 308:=⟨_,Go.Proofs.Tryz.func308,QKR,QKR⟩
theorem has316:Has prog 316:=⟨_,Go.Proofs.Tryz.func316,QKR,QKR⟩
theorem has317:Has prog 317:=⟨_,Go.Proofs.Tryz.func317,QKR,QKR⟩
theorem has318:Has prog 318:=⟨_,Go.Proofs.Tryz.func318,QKR,QKR⟩
theorem has319:Has prog 319:=⟨_,Go.Proofs.Tryz.func319,QKR,QKR⟩
theorem has320:Has prog 320:=⟨_,Go.Proofs.Tryz.func320,QKR,QKR⟩
theorem has321:Has prog 321:=⟨_,Go.Proofs.Tryz.func321,QKR,QKR⟩
theorem has322:Has prog 322:=⟨_,Go.Proofs.Tryz.func322,QKR,QKR⟩
theorem has323:Has prog 323:=⟨_,Go.Proofs.Tryz.func323,QKR,QKR⟩
theorem has324:Has prog 324:=⟨_,Go.Proofs.Tryz.func324,QKR,QKR⟩
theorem has325:Has prog 325:=⟨_,Go.Proofs.Tryz.func325,QKR,QKR⟩
theorem has326:Has prog 326:=⟨_,Go.Proofs.Tryz.func326,QKR,QKR⟩
theorem I9a:Has prog 327:=⟨_,Go.Proofs.Tryz.func327,QKR,QKR⟩
theorem has328:Has prog 328:=⟨_,Go.Proofs.Tryz.func328,QKR,QKR⟩
theorem has335:Has prog 335:=⟨_,Go.Proofs.Tryz.func335,QKR,QKR⟩
theorem I8a:Has prog 346:=⟨_,Go.Proofs.Tryz.func346,QKR,QKR⟩
theorem has349:Has prog 349:=⟨_,Go.Proofs.Tryz.func349,QKR,QKR⟩
theorem has350:Has prog 350:=⟨_,Go.Proofs.Tryz.func350,QKR,QKR⟩
theorem has351:Has prog 351:=⟨_,Go.Proofs.Tryz.func351,QKR,QKR⟩
end Go.Hw
namespace Go.Hw
open Go
open Go.Proofs (Tryz.prog)
theorem QXV {f:FuncId}{fn:Func}{c:Code}{args:List Value}{h0:Ro}{v:Value}(hf:Tryz.prog.funcs[f]?=some fn)(g:∀ w0 X0,GO (mkC Tryz.prog ts ts_ok fn w0 X0 h0 (Pe v)) [] (argS 0 args) [] h0 [.code c])(hb:fn.body=some c:=by exact J)(hn:Nat.ble args.length fn.ntmps=true:=by exact J):Val Tryz.prog f args.toArray h0 v:=Val_intro ts_ok hf hb hn g
theorem QXR {f:FuncId}{fn:Func}{c:Code}{args:List Value}{h0:Ro}{R:Value→Ro→Prop}(hf:Tryz.prog.funcs[f]?=some fn)(g:∀ w0 X0,GO (mkC Tryz.prog ts ts_ok fn w0 X0 h0 (Ll R)) [] (argS 0 args) [] h0 [.code c])(hb:fn.body=some c:=by exact J)(hn:Nat.ble args.length fn.ntmps=true:=by exact J):Res Tryz.prog f args.toArray h0 R:=Res_intro ts_ok hf hb hn g
theorem QXF {f:FuncId}{fn:Func}{c:Code}{args:List Value}{h0:Ro}{Es0:List Asn}{Post:Value→List Asn→Ro→Prop}(hf:Tryz.prog.funcs[f]?=some fn)(g:∀ w0 X0,GO (mkC Tryz.prog ts ts_ok fn w0 X0 h0 (Post)) [] (argS 0 args) Es0 h0 [.code c])(hb:fn.body=some c:=by exact J)(hn:Nat.ble args.length fn.ntmps=true:=by exact J):Fn Tryz.prog f args.toArray Es0 h0 Post:=Cna ts_ok hf hb hn g
end Go.Hw
