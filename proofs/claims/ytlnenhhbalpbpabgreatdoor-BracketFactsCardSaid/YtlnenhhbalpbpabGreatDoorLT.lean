import Derived.Test.YtlnenhhbalpbpabGreatDoorProg
import Derived.Test.YtlnenhhbalpbpabGreatDoorHB
import Derived.KernelRfl
set_option linter.all false
set_option maxRecDepth 100000
namespace Go.Hw
open Go
open Go.Proofs (Tryz.prog)
def fd (t o:Nat) (b:Bool:=false):Field:={ name:=if b then "_" else "",type:=t,offset:=o,embedded:=false,tag := "",pkgPath := "",byteOffset:=0 }
def ty2:Ty:=⟨2,.int .i64,1,8,.int .i64 0⟩
theorem ty2_ok:Ej Tryz.prog ty2:=⟨by kernel_rfl,by kernel_rfl⟩
def ty3:Ty:=⟨3,.int .i64,1,8,.int .i64 0⟩
theorem ty3_ok:Ej Tryz.prog ty3:=⟨by kernel_rfl,by kernel_rfl⟩
def ty4:Ty:=⟨4,.bool,1,1,.bool false⟩
theorem ty4_ok:Ej Tryz.prog ty4:=⟨by kernel_rfl,by kernel_rfl⟩
def ty5:Ty:=⟨5,.int .u8,1,1,.int .u8 0⟩
theorem ty5_ok:Ej Tryz.prog ty5:=⟨by kernel_rfl,by kernel_rfl⟩
def ty9:Ty:=⟨9,.string,1,16,.string ByteArray.empty⟩
theorem ty9_ok:Ej Tryz.prog ty9:=⟨by kernel_rfl,by kernel_rfl⟩
def ty22:Ty:=⟨22,.slice 57,1,24,.slice none 0 0⟩
theorem ty22_ok:Ej Tryz.prog ty22:=⟨by kernel_rfl,by kernel_rfl⟩
def ty24:Ty:=⟨24,.struct #[fd 3 0,fd 4 1],2,16,.agg #[.int .i64 0,.bool false]⟩
theorem ty24_ok:Ej Tryz.prog ty24:=⟨by kernel_rfl,by kernel_rfl⟩
def ty25:Ty:=⟨25,.int .u64,1,8,.int .u64 0⟩
theorem ty25_ok:Ej Tryz.prog ty25:=⟨by kernel_rfl,by kernel_rfl⟩
def ty28:Ty:=⟨28,.slice 59,1,24,.slice none 0 0⟩
theorem ty28_ok:Ej Tryz.prog ty28:=⟨by kernel_rfl,by kernel_rfl⟩
def ty30:Ty:=⟨30,.struct #[fd 24 0,fd 28 2],3,40,.agg #[.int .i64 0,.bool false,.slice none 0 0]⟩
theorem ty30_ok:Ej Tryz.prog ty30:=⟨by kernel_rfl,by kernel_rfl⟩
def ty31:Ty:=⟨31,.int .i64,1,8,.int .i64 0⟩
theorem ty31_ok:Ej Tryz.prog ty31:=⟨by kernel_rfl,by kernel_rfl⟩
def ty34:Ty:=⟨34,.slice 3,1,24,.slice none 0 0⟩
theorem ty34_ok:Ej Tryz.prog ty34:=⟨by kernel_rfl,by kernel_rfl⟩
def ty36:Ty:=⟨36,.struct #[fd 3 0,fd 3 1,fd 34 2,fd 9 3],4,56,.agg #[.int .i64 0,.int .i64 0,.slice none 0 0,.string ByteArray.empty]⟩
theorem ty36_ok:Ej Tryz.prog ty36:=⟨by kernel_rfl,by kernel_rfl⟩
def ty38:Ty:=⟨38,.struct #[fd 3 0,fd 3 1,fd 3 2,fd 3 3],4,32,.agg #[.int .i64 0,.int .i64 0,.int .i64 0,.int .i64 0]⟩
theorem ty38_ok:Ej Tryz.prog ty38:=⟨by kernel_rfl,by kernel_rfl⟩
def ty40:Ty:=⟨40,.struct #[fd 38 0,fd 3 4],5,40,.agg #[.int .i64 0,.int .i64 0,.int .i64 0,.int .i64 0,.int .i64 0]⟩
theorem ty40_ok:Ej Tryz.prog ty40:=⟨by kernel_rfl,by kernel_rfl⟩
def ty41:Ty:=⟨41,.slice 197,1,24,.slice none 0 0⟩
theorem ty41_ok:Ej Tryz.prog ty41:=⟨by kernel_rfl,by kernel_rfl⟩
def ty43:Ty:=⟨43,.struct #[fd 38 0,fd 3 4,fd 3 5,fd 3 6,fd 3 7,fd 3 8,fd 34 9,fd 34 10,fd 41 11,fd 41 12],13,168,.agg #[.int .i64 0,.int .i64 0,.int .i64 0,.int .i64 0,.int .i64 0,.int .i64 0,.int .i64 0,.int .i64 0,.int .i64 0,.slice none 0 0,.slice none 0 0,.slice none 0 0,.slice none 0 0]⟩
theorem ty43_ok:Ej Tryz.prog ty43:=⟨by kernel_rfl,by kernel_rfl⟩
def ty45:Ty:=⟨45,.struct #[fd 3 0,fd 3 1],2,16,.agg #[.int .i64 0,.int .i64 0]⟩
theorem ty45_ok:Ej Tryz.prog ty45:=⟨by kernel_rfl,by kernel_rfl⟩
def ty47:Ty:=⟨47,.struct #[fd 3 0,fd 3 1,fd 3 2,fd 38 3,fd 3 7,fd 3 8,fd 3 9,fd 3 10,fd 3 11,fd 3 12,fd 3 13,fd 3 14,fd 45 15],17,136,.agg #[.int .i64 0,.int .i64 0,.int .i64 0,.int .i64 0,.int .i64 0,.int .i64 0,.int .i64 0,.int .i64 0,.int .i64 0,.int .i64 0,.int .i64 0,.int .i64 0,.int .i64 0,.int .i64 0,.int .i64 0,.int .i64 0,.int .i64 0]⟩
theorem ty47_ok:Ej Tryz.prog ty47:=⟨by kernel_rfl,by kernel_rfl⟩
def ty49:Ty:=⟨49,.struct #[fd 3 0,fd 3 1,fd 4 2],3,24,.agg #[.int .i64 0,.int .i64 0,.bool false]⟩
theorem ty49_ok:Ej Tryz.prog ty49:=⟨by kernel_rfl,by kernel_rfl⟩
def ty51:Ty:=⟨51,.struct #[fd 3 0,fd 3 1],2,16,.agg #[.int .i64 0,.int .i64 0]⟩
theorem ty51_ok:Ej Tryz.prog ty51:=⟨by kernel_rfl,by kernel_rfl⟩
def ty53:Ty:=⟨53,.struct #[fd 3 0,fd 3 1,fd 34 2],3,40,.agg #[.int .i64 0,.int .i64 0,.slice none 0 0]⟩
theorem ty53_ok:Ej Tryz.prog ty53:=⟨by kernel_rfl,by kernel_rfl⟩
def ty54:Ty:=⟨54,.array 32 5,32,32,.agg #[.int .u8 0,.int .u8 0,.int .u8 0,.int .u8 0,.int .u8 0,.int .u8 0,.int .u8 0,.int .u8 0,.int .u8 0,.int .u8 0,.int .u8 0,.int .u8 0,.int .u8 0,.int .u8 0,.int .u8 0,.int .u8 0,.int .u8 0,.int .u8 0,.int .u8 0,.int .u8 0,.int .u8 0,.int .u8 0,.int .u8 0,.int .u8 0,.int .u8 0,.int .u8 0,.int .u8 0,.int .u8 0,.int .u8 0,.int .u8 0,.int .u8 0,.int .u8 0]⟩
theorem ty54_ok:Ej Tryz.prog ty54:=⟨by kernel_rfl,by kernel_rfl⟩
def ty55:Ty:=⟨55,.array 32 5,32,32,.agg #[.int .u8 0,.int .u8 0,.int .u8 0,.int .u8 0,.int .u8 0,.int .u8 0,.int .u8 0,.int .u8 0,.int .u8 0,.int .u8 0,.int .u8 0,.int .u8 0,.int .u8 0,.int .u8 0,.int .u8 0,.int .u8 0,.int .u8 0,.int .u8 0,.int .u8 0,.int .u8 0,.int .u8 0,.int .u8 0,.int .u8 0,.int .u8 0,.int .u8 0,.int .u8 0,.int .u8 0,.int .u8 0,.int .u8 0,.int .u8 0,.int .u8 0,.int .u8 0]⟩
theorem ty55_ok:Ej Tryz.prog ty55:=⟨by kernel_rfl,by kernel_rfl⟩
def ty57:Ty:=⟨57,.struct #[fd 3 0,fd 3 1,fd 3 2,fd 36 3,fd 40 7,fd 43 12,fd 47 25,fd 49 42,fd 51 45,fd 53 47,fd 55 50],82,536,.agg #[.int .i64 0,.int .i64 0,.int .i64 0,.int .i64 0,.int .i64 0,.slice none 0 0,.string ByteArray.empty,.int .i64 0,.int .i64 0,.int .i64 0,.int .i64 0,.int .i64 0,.int .i64 0,.int .i64 0,.int .i64 0,.int .i64 0,.int .i64 0,.int .i64 0,.int .i64 0,.int .i64 0,.int .i64 0,.slice none 0 0,.slice none 0 0,.slice none 0 0,.slice none 0 0,.int .i64 0,.int .i64 0,.int .i64 0,.int .i64 0,.int .i64 0,.int .i64 0,.int .i64 0,.int .i64 0,.int .i64 0,.int .i64 0,.int .i64 0,.int .i64 0,.int .i64 0,.int .i64 0,.int .i64 0,.int .i64 0,.int .i64 0,.int .i64 0,.int .i64 0,.bool false,.int .i64 0,.int .i64 0,.int .i64 0,.int .i64 0,.slice none 0 0,.int .u8 0,.int .u8 0,.int .u8 0,.int .u8 0,.int .u8 0,.int .u8 0,.int .u8 0,.int .u8 0,.int .u8 0,.int .u8 0,.int .u8 0,.int .u8 0,.int .u8 0,.int .u8 0,.int .u8 0,.int .u8 0,.int .u8 0,.int .u8 0,.int .u8 0,.int .u8 0,.int .u8 0,.int .u8 0,.int .u8 0,.int .u8 0,.int .u8 0,.int .u8 0,.int .u8 0,.int .u8 0,.int .u8 0,.int .u8 0,.int .u8 0,.int .u8 0]⟩
theorem ty57_ok:Ej Tryz.prog ty57:=⟨by kernel_rfl,by kernel_rfl⟩
def ty59:Ty:=⟨59,.slice 62,1,24,.slice none 0 0⟩
theorem ty59_ok:Ej Tryz.prog ty59:=⟨by kernel_rfl,by kernel_rfl⟩
def ty60:Ty:=⟨60,.slice 64,1,24,.slice none 0 0⟩
theorem ty60_ok:Ej Tryz.prog ty60:=⟨by kernel_rfl,by kernel_rfl⟩
def Lea:Ty:=⟨62,.struct #[fd 3 0,fd 3 1,fd 60 2],3,40,.agg #[.int .i64 0,.int .i64 0,.slice none 0 0]⟩
theorem ty62_ok:Ej Tryz.prog Lea:=⟨by kernel_rfl,by kernel_rfl⟩
def I6a:Ty:=⟨64,.struct #[fd 38 0,fd 3 4,fd 3 5,fd 3 6,fd 3 7,fd 3 8,fd 3 9,fd 3 10,fd 4 11,fd 4 12],13,96,.agg #[.int .i64 0,.int .i64 0,.int .i64 0,.int .i64 0,.int .i64 0,.int .i64 0,.int .i64 0,.int .i64 0,.int .i64 0,.int .i64 0,.int .i64 0,.bool false,.bool false]⟩
theorem ty64_ok:Ej Tryz.prog I6a:=⟨by kernel_rfl,by kernel_rfl⟩
def ty76:Ty:=⟨76,.func #[57] #[4] false,1,8,.nilFunc⟩
theorem ty76_ok:Ej Tryz.prog ty76:=⟨by kernel_rfl,by kernel_rfl⟩
def ty81:Ty:=⟨81,.func #[62,62] #[4] false,1,8,.nilFunc⟩
theorem ty81_ok:Ej Tryz.prog ty81:=⟨by kernel_rfl,by kernel_rfl⟩
def ty86:Ty:=⟨86,.func #[38,47,3] #[64,4] false,1,8,.nilFunc⟩
theorem ty86_ok:Ej Tryz.prog ty86:=⟨by kernel_rfl,by kernel_rfl⟩
def ty87:Ty:=⟨87,.map 3 86,1,8,.map none⟩
theorem ty87_ok:Ej Tryz.prog ty87:=⟨by kernel_rfl,by kernel_rfl⟩
def ty95:Ty:=⟨95,.func #[64,64] #[3] false,1,8,.nilFunc⟩
theorem ty95_ok:Ej Tryz.prog ty95:=⟨by kernel_rfl,by kernel_rfl⟩
def ty100:Ty:=⟨100,.func #[64] #[4] false,1,8,.nilFunc⟩
theorem ty100_ok:Ej Tryz.prog ty100:=⟨by kernel_rfl,by kernel_rfl⟩
def ty102:Ty:=⟨102,.struct #[fd 62 0,fd 24 3],5,56,.agg #[.int .i64 0,.int .i64 0,.slice none 0 0,.int .i64 0,.bool false]⟩
theorem ty102_ok:Ej Tryz.prog ty102:=⟨by kernel_rfl,by kernel_rfl⟩
def ty103:Ty:=⟨103,.func #[62] #[4] false,1,8,.nilFunc⟩
theorem ty103_ok:Ej Tryz.prog ty103:=⟨by kernel_rfl,by kernel_rfl⟩
def ty115:Ty:=⟨115,.func #[3,3] #[62] false,1,8,.nilFunc⟩
theorem ty115_ok:Ej Tryz.prog ty115:=⟨by kernel_rfl,by kernel_rfl⟩
def ty117:Ty:=⟨117,.func #[57,57] #[3] false,1,8,.nilFunc⟩
theorem ty117_ok:Ej Tryz.prog ty117:=⟨by kernel_rfl,by kernel_rfl⟩
def ty121:Ty:=⟨121,.func #[124] #[] false,1,8,.nilFunc⟩
theorem ty121_ok:Ej Tryz.prog ty121:=⟨by kernel_rfl,by kernel_rfl⟩
def ty124:Ty:=⟨124,.func #[3] #[4] false,1,8,.nilFunc⟩
theorem ty124_ok:Ej Tryz.prog ty124:=⟨by kernel_rfl,by kernel_rfl⟩
def ty130:Ty:=⟨130,.struct #[fd 3 0,fd 43 1,fd 3 14],15,184,.agg #[.int .i64 0,.int .i64 0,.int .i64 0,.int .i64 0,.int .i64 0,.int .i64 0,.int .i64 0,.int .i64 0,.int .i64 0,.int .i64 0,.slice none 0 0,.slice none 0 0,.slice none 0 0,.slice none 0 0,.int .i64 0]⟩
theorem ty130_ok:Ej Tryz.prog ty130:=⟨by kernel_rfl,by kernel_rfl⟩
def ty136:Ty:=⟨136,.map 38 4,1,8,.map none⟩
theorem ty136_ok:Ej Tryz.prog ty136:=⟨by kernel_rfl,by kernel_rfl⟩
def ty141:Ty:=⟨141,.array 2 4,2,2,.agg #[.bool false,.bool false]⟩
theorem ty141_ok:Ej Tryz.prog ty141:=⟨by kernel_rfl,by kernel_rfl⟩
def ty145:Ty:=⟨145,.struct #[fd 3 0,fd 3 1,fd 3 2],3,24,.agg #[.int .i64 0,.int .i64 0,.int .i64 0]⟩
theorem ty145_ok:Ej Tryz.prog ty145:=⟨by kernel_rfl,by kernel_rfl⟩
def ty148:Ty:=⟨148,.int .u32,1,4,.int .u32 0⟩
theorem ty148_ok:Ej Tryz.prog ty148:=⟨by kernel_rfl,by kernel_rfl⟩
def ty150:Ty:=⟨150,.int .u64,1,8,.int .u64 0⟩
theorem ty150_ok:Ej Tryz.prog ty150:=⟨by kernel_rfl,by kernel_rfl⟩
def ty156:Ty:=⟨156,.func #[57,162] #[] false,1,8,.nilFunc⟩
theorem ty156_ok:Ej Tryz.prog ty156:=⟨by kernel_rfl,by kernel_rfl⟩
def ty158:Ty:=⟨158,.struct #[fd 76 0,fd 156 1],2,16,.agg #[.nilFunc,.nilFunc]⟩
theorem ty158_ok:Ej Tryz.prog ty158:=⟨by kernel_rfl,by kernel_rfl⟩
def ty160:Ty:=⟨160,.map 3 158,1,8,.map none⟩
theorem ty160_ok:Ej Tryz.prog ty160:=⟨by kernel_rfl,by kernel_rfl⟩
def ty162:Ty:=⟨162,.pointer 57,1,8,.pointer none⟩
theorem ty162_ok:Ej Tryz.prog ty162:=⟨by kernel_rfl,by kernel_rfl⟩
def ty163:Ty:=⟨163,.func #[57,57] #[4] false,1,8,.nilFunc⟩
theorem ty163_ok:Ej Tryz.prog ty163:=⟨by kernel_rfl,by kernel_rfl⟩
def ty164:Ty:=⟨164,.slice 5,1,24,.slice none 0 0⟩
theorem ty164_ok:Ej Tryz.prog ty164:=⟨by kernel_rfl,by kernel_rfl⟩
def ty170:Ty:=⟨170,.slice 172,1,24,.slice none 0 0⟩
theorem ty170_ok:Ej Tryz.prog ty170:=⟨by kernel_rfl,by kernel_rfl⟩
def ty172:Ty:=⟨172,.pointer 227,1,8,.pointer none⟩
theorem ty172_ok:Ej Tryz.prog ty172:=⟨by kernel_rfl,by kernel_rfl⟩
def ty177:Ty:=⟨177,.array 2 57,164,1072,.agg #[.int .i64 0,.int .i64 0,.int .i64 0,.int .i64 0,.int .i64 0,.slice none 0 0,.string ByteArray.empty,.int .i64 0,.int .i64 0,.int .i64 0,.int .i64 0,.int .i64 0,.int .i64 0,.int .i64 0,.int .i64 0,.int .i64 0,.int .i64 0,.int .i64 0,.int .i64 0,.int .i64 0,.int .i64 0,.slice none 0 0,.slice none 0 0,.slice none 0 0,.slice none 0 0,.int .i64 0,.int .i64 0,.int .i64 0,.int .i64 0,.int .i64 0,.int .i64 0,.int .i64 0,.int .i64 0,.int .i64 0,.int .i64 0,.int .i64 0,.int .i64 0,.int .i64 0,.int .i64 0,.int .i64 0,.int .i64 0,.int .i64 0,.int .i64 0,.int .i64 0,.bool false,.int .i64 0,.int .i64 0,.int .i64 0,.int .i64 0,.slice none 0 0,.int .u8 0,.int .u8 0,.int .u8 0,.int .u8 0,.int .u8 0,.int .u8 0,.int .u8 0,.int .u8 0,.int .u8 0,.int .u8 0,.int .u8 0,.int .u8 0,.int .u8 0,.int .u8 0,.int .u8 0,.int .u8 0,.int .u8 0,.int .u8 0,.int .u8 0,.int .u8 0,.int .u8 0,.int .u8 0,.int .u8 0,.int .u8 0,.int .u8 0,.int .u8 0,.int .u8 0,.int .u8 0,.int .u8 0,.int .u8 0,.int .u8 0,.int .u8 0,.int .i64 0,.int .i64 0,.int .i64 0,.int .i64 0,.int .i64 0,.slice none 0 0,.string ByteArray.empty,.int .i64 0,.int .i64 0,.int .i64 0,.int .i64 0,.int .i64 0,.int .i64 0,.int .i64 0,.int .i64 0,.int .i64 0,.int .i64 0,.int .i64 0,.int .i64 0,.int .i64 0,.int .i64 0,.slice none 0 0,.slice none 0 0,.slice none 0 0,.slice none 0 0,.int .i64 0,.int .i64 0,.int .i64 0,.int .i64 0,.int .i64 0,.int .i64 0,.int .i64 0,.int .i64 0,.int .i64 0,.int .i64 0,.int .i64 0,.int .i64 0,.int .i64 0,.int .i64 0,.int .i64 0,.int .i64 0,.int .i64 0,.int .i64 0,.int .i64 0,.bool false,.int .i64 0,.int .i64 0,.int .i64 0,.int .i64 0,.slice none 0 0,.int .u8 0,.int .u8 0,.int .u8 0,.int .u8 0,.int .u8 0,.int .u8 0,.int .u8 0,.int .u8 0,.int .u8 0,.int .u8 0,.int .u8 0,.int .u8 0,.int .u8 0,.int .u8 0,.int .u8 0,.int .u8 0,.int .u8 0,.int .u8 0,.int .u8 0,.int .u8 0,.int .u8 0,.int .u8 0,.int .u8 0,.int .u8 0,.int .u8 0,.int .u8 0,.int .u8 0,.int .u8 0,.int .u8 0,.int .u8 0,.int .u8 0,.int .u8 0]⟩
theorem ty177_ok:Ej Tryz.prog ty177:=⟨by kernel_rfl,by kernel_rfl⟩
def ty178:Ty:=⟨178,.map 38 177,1,8,.map none⟩
theorem ty178_ok:Ej Tryz.prog ty178:=⟨by kernel_rfl,by kernel_rfl⟩
def ty181:Ty:=⟨181,.map 3 4,1,8,.map none⟩
theorem ty181_ok:Ej Tryz.prog ty181:=⟨by kernel_rfl,by kernel_rfl⟩
def ty182:Ty:=⟨182,.slice 185,1,24,.slice none 0 0⟩
theorem ty182_ok:Ej Tryz.prog ty182:=⟨by kernel_rfl,by kernel_rfl⟩
def ty185:Ty:=⟨185,.struct #[fd 3 0,fd 3 1,fd 38 2],6,48,.agg #[.int .i64 0,.int .i64 0,.int .i64 0,.int .i64 0,.int .i64 0,.int .i64 0]⟩
theorem ty185_ok:Ej Tryz.prog ty185:=⟨by kernel_rfl,by kernel_rfl⟩
def ty187:Ty:=⟨187,.struct #[fd 3 0,fd 3 1],2,16,.agg #[.int .i64 0,.int .i64 0]⟩
theorem ty187_ok:Ej Tryz.prog ty187:=⟨by kernel_rfl,by kernel_rfl⟩
def ty191:Ty:=⟨191,.func #[187] #[4] false,1,8,.nilFunc⟩
theorem ty191_ok:Ej Tryz.prog ty191:=⟨by kernel_rfl,by kernel_rfl⟩
def ty194:Ty:=⟨194,.struct #[fd 191 0,fd 191 1,fd 191 2],3,24,.agg #[.nilFunc,.nilFunc,.nilFunc]⟩
theorem ty194_ok:Ej Tryz.prog ty194:=⟨by kernel_rfl,by kernel_rfl⟩
def ty197:Ty:=⟨197,.struct #[fd 3 0,fd 4 1],2,16,.agg #[.int .i64 0,.bool false]⟩
theorem ty197_ok:Ej Tryz.prog ty197:=⟨by kernel_rfl,by kernel_rfl⟩
def ty199:Ty:=⟨199,.int .i64,1,8,.int .i64 0⟩
theorem ty199_ok:Ej Tryz.prog ty199:=⟨by kernel_rfl,by kernel_rfl⟩
def ty209:Ty:=⟨209,.func #[47] #[4] false,1,8,.nilFunc⟩
theorem ty209_ok:Ej Tryz.prog ty209:=⟨by kernel_rfl,by kernel_rfl⟩
def ty212:Ty:=⟨212,.slice 218,1,24,.slice none 0 0⟩
theorem ty212_ok:Ej Tryz.prog ty212:=⟨by kernel_rfl,by kernel_rfl⟩
def ty216:Ty:=⟨216,.slice 9,1,24,.slice none 0 0⟩
theorem ty216_ok:Ej Tryz.prog ty216:=⟨by kernel_rfl,by kernel_rfl⟩
def ty218:Ty:=⟨218,.struct #[fd 3 0,fd 3 1,fd 9 2,fd 212 3,fd 216 4],5,80,.agg #[.int .i64 0,.int .i64 0,.string ByteArray.empty,.slice none 0 0,.slice none 0 0]⟩
theorem ty218_ok:Ej Tryz.prog ty218:=⟨by kernel_rfl,by kernel_rfl⟩
def ty224:Ty:=⟨224,.map 3 172,1,8,.map none⟩
theorem ty224_ok:Ej Tryz.prog ty224:=⟨by kernel_rfl,by kernel_rfl⟩
def ty225:Ty:=⟨225,.array 4 4,4,4,.agg #[.bool false,.bool false,.bool false,.bool false]⟩
theorem ty225_ok:Ej Tryz.prog ty225:=⟨by kernel_rfl,by kernel_rfl⟩
def ty227:Ty:=⟨227,.struct #[fd 3 0,fd 22 1,fd 225 2],6,40,.agg #[.int .i64 0,.slice none 0 0,.bool false,.bool false,.bool false,.bool false]⟩
theorem ty227_ok:Ej Tryz.prog ty227:=⟨by kernel_rfl,by kernel_rfl⟩
def ty231:Ty:=⟨231,.func #[172,172] #[3] false,1,8,.nilFunc⟩
theorem ty231_ok:Ej Tryz.prog ty231:=⟨by kernel_rfl,by kernel_rfl⟩
def ty236:Ty:=⟨236,.slice 130,1,24,.slice none 0 0⟩
theorem ty236_ok:Ej Tryz.prog ty236:=⟨by kernel_rfl,by kernel_rfl⟩
def ty238:Ty:=⟨238,.map 3 3,1,8,.map none⟩
theorem ty238_ok:Ej Tryz.prog ty238:=⟨by kernel_rfl,by kernel_rfl⟩
def ty239:Ty:=⟨239,.map 3 244,1,8,.map none⟩
theorem ty239_ok:Ej Tryz.prog ty239:=⟨by kernel_rfl,by kernel_rfl⟩
def ty241:Ty:=⟨241,.slice 187,1,24,.slice none 0 0⟩
theorem ty241_ok:Ej Tryz.prog ty241:=⟨by kernel_rfl,by kernel_rfl⟩
def ty244:Ty:=⟨244,.struct #[fd 3 0,fd 4 1],2,16,.agg #[.int .i64 0,.bool false]⟩
theorem ty244_ok:Ej Tryz.prog ty244:=⟨by kernel_rfl,by kernel_rfl⟩
def ty246:Ty:=⟨246,.func #[130] #[4] false,1,8,.nilFunc⟩
theorem ty246_ok:Ej Tryz.prog ty246:=⟨by kernel_rfl,by kernel_rfl⟩
def ty248:Ty:=⟨248,.slice 47,1,24,.slice none 0 0⟩
theorem ty248_ok:Ej Tryz.prog ty248:=⟨by kernel_rfl,by kernel_rfl⟩
def ty250:Ty:=⟨250,.int .u64,1,8,.int .u64 0⟩
theorem ty250_ok:Ej Tryz.prog ty250:=⟨by kernel_rfl,by kernel_rfl⟩
def ty254:Ty:=⟨254,.pointer 3,1,8,.pointer none⟩
theorem ty254_ok:Ej Tryz.prog ty254:=⟨by kernel_rfl,by kernel_rfl⟩
def ty260:Ty:=⟨260,.func #[47,266] #[] false,1,8,.nilFunc⟩
theorem ty260_ok:Ej Tryz.prog ty260:=⟨by kernel_rfl,by kernel_rfl⟩
def ty262:Ty:=⟨262,.struct #[fd 209 0,fd 260 1],2,16,.agg #[.nilFunc,.nilFunc]⟩
theorem ty262_ok:Ej Tryz.prog ty262:=⟨by kernel_rfl,by kernel_rfl⟩
def ty264:Ty:=⟨264,.map 3 262,1,8,.map none⟩
theorem ty264_ok:Ej Tryz.prog ty264:=⟨by kernel_rfl,by kernel_rfl⟩
def ty266:Ty:=⟨266,.pointer 47,1,8,.pointer none⟩
theorem ty266_ok:Ej Tryz.prog ty266:=⟨by kernel_rfl,by kernel_rfl⟩
def ty267:Ty:=⟨267,.func #[218] #[4] false,1,8,.nilFunc⟩
theorem ty267_ok:Ej Tryz.prog ty267:=⟨by kernel_rfl,by kernel_rfl⟩
def ty275:Ty:=⟨275,.func #[164,218] #[164] false,1,8,.nilFunc⟩
theorem ty275_ok:Ej Tryz.prog ty275:=⟨by kernel_rfl,by kernel_rfl⟩
def ty277:Ty:=⟨277,.struct #[fd 275 0],1,8,.agg #[.nilFunc]⟩
theorem ty277_ok:Ej Tryz.prog ty277:=⟨by kernel_rfl,by kernel_rfl⟩
def ty278:Ty:=⟨278,.pointer 307,1,8,.pointer none⟩
theorem ty278_ok:Ej Tryz.prog ty278:=⟨by kernel_rfl,by kernel_rfl⟩
def ty290:Ty:=⟨290,.func #[172,172] #[4] false,1,8,.nilFunc⟩
theorem ty290_ok:Ej Tryz.prog ty290:=⟨by kernel_rfl,by kernel_rfl⟩
def ty291:Ty:=⟨291,.slice 38,1,24,.slice none 0 0⟩
theorem ty291_ok:Ej Tryz.prog ty291:=⟨by kernel_rfl,by kernel_rfl⟩
def ty294:Ty:=⟨294,.func #[130,130] #[3] false,1,8,.nilFunc⟩
theorem ty294_ok:Ej Tryz.prog ty294:=⟨by kernel_rfl,by kernel_rfl⟩
def ty297:Ty:=⟨297,.func #[187,187] #[3] false,1,8,.nilFunc⟩
theorem ty297_ok:Ej Tryz.prog ty297:=⟨by kernel_rfl,by kernel_rfl⟩
def ty302:Ty:=⟨302,.func #[197] #[4] false,1,8,.nilFunc⟩
theorem ty302_ok:Ej Tryz.prog ty302:=⟨by kernel_rfl,by kernel_rfl⟩
def ty307:Ty:=⟨307,.array 5 277,5,40,.agg #[.nilFunc,.nilFunc,.nilFunc,.nilFunc,.nilFunc]⟩
theorem ty307_ok:Ej Tryz.prog ty307:=⟨by kernel_rfl,by kernel_rfl⟩
def ty315:Ty:=⟨315,.func #[38,38] #[3] false,1,8,.nilFunc⟩
theorem ty315_ok:Ej Tryz.prog ty315:=⟨by kernel_rfl,by kernel_rfl⟩
def ty316:Ty:=⟨316,.func #[38,177] #[4] false,1,8,.nilFunc⟩
theorem ty316_ok:Ej Tryz.prog ty316:=⟨by kernel_rfl,by kernel_rfl⟩
def ty318:Ty:=⟨318,.slice 41,1,24,.slice none 0 0⟩
theorem ty318_ok:Ej Tryz.prog ty318:=⟨by kernel_rfl,by kernel_rfl⟩
def ty344:Ty:=⟨344,.array 5 4,5,5,.agg #[.bool false,.bool false,.bool false,.bool false,.bool false]⟩
theorem ty344_ok:Ej Tryz.prog ty344:=⟨by kernel_rfl,by kernel_rfl⟩
def ty356:Ty:=⟨356,.array 24 5,24,24,.agg #[.int .u8 0,.int .u8 0,.int .u8 0,.int .u8 0,.int .u8 0,.int .u8 0,.int .u8 0,.int .u8 0,.int .u8 0,.int .u8 0,.int .u8 0,.int .u8 0,.int .u8 0,.int .u8 0,.int .u8 0,.int .u8 0,.int .u8 0,.int .u8 0,.int .u8 0,.int .u8 0,.int .u8 0,.int .u8 0,.int .u8 0,.int .u8 0]⟩
theorem ty356_ok:Ej Tryz.prog ty356:=⟨by kernel_rfl,by kernel_rfl⟩
def ty370:Ty:=⟨370,.array 20 150,20,160,.agg #[.int .u64 0,.int .u64 0,.int .u64 0,.int .u64 0,.int .u64 0,.int .u64 0,.int .u64 0,.int .u64 0,.int .u64 0,.int .u64 0,.int .u64 0,.int .u64 0,.int .u64 0,.int .u64 0,.int .u64 0,.int .u64 0,.int .u64 0,.int .u64 0,.int .u64 0,.int .u64 0]⟩
theorem ty370_ok:Ej Tryz.prog ty370:=⟨by kernel_rfl,by kernel_rfl⟩
def ty371:Ty:=⟨371,.array 65 5,65,65,.agg #[.int .u8 0,.int .u8 0,.int .u8 0,.int .u8 0,.int .u8 0,.int .u8 0,.int .u8 0,.int .u8 0,.int .u8 0,.int .u8 0,.int .u8 0,.int .u8 0,.int .u8 0,.int .u8 0,.int .u8 0,.int .u8 0,.int .u8 0,.int .u8 0,.int .u8 0,.int .u8 0,.int .u8 0,.int .u8 0,.int .u8 0,.int .u8 0,.int .u8 0,.int .u8 0,.int .u8 0,.int .u8 0,.int .u8 0,.int .u8 0,.int .u8 0,.int .u8 0,.int .u8 0,.int .u8 0,.int .u8 0,.int .u8 0,.int .u8 0,.int .u8 0,.int .u8 0,.int .u8 0,.int .u8 0,.int .u8 0,.int .u8 0,.int .u8 0,.int .u8 0,.int .u8 0,.int .u8 0,.int .u8 0,.int .u8 0,.int .u8 0,.int .u8 0,.int .u8 0,.int .u8 0,.int .u8 0,.int .u8 0,.int .u8 0,.int .u8 0,.int .u8 0,.int .u8 0,.int .u8 0,.int .u8 0,.int .u8 0,.int .u8 0,.int .u8 0,.int .u8 0]⟩
theorem ty371_ok:Ej Tryz.prog ty371:=⟨by kernel_rfl,by kernel_rfl⟩
def ty375:Ty:=⟨375,.array 64 5,64,64,.agg #[.int .u8 0,.int .u8 0,.int .u8 0,.int .u8 0,.int .u8 0,.int .u8 0,.int .u8 0,.int .u8 0,.int .u8 0,.int .u8 0,.int .u8 0,.int .u8 0,.int .u8 0,.int .u8 0,.int .u8 0,.int .u8 0,.int .u8 0,.int .u8 0,.int .u8 0,.int .u8 0,.int .u8 0,.int .u8 0,.int .u8 0,.int .u8 0,.int .u8 0,.int .u8 0,.int .u8 0,.int .u8 0,.int .u8 0,.int .u8 0,.int .u8 0,.int .u8 0,.int .u8 0,.int .u8 0,.int .u8 0,.int .u8 0,.int .u8 0,.int .u8 0,.int .u8 0,.int .u8 0,.int .u8 0,.int .u8 0,.int .u8 0,.int .u8 0,.int .u8 0,.int .u8 0,.int .u8 0,.int .u8 0,.int .u8 0,.int .u8 0,.int .u8 0,.int .u8 0,.int .u8 0,.int .u8 0,.int .u8 0,.int .u8 0,.int .u8 0,.int .u8 0,.int .u8 0,.int .u8 0,.int .u8 0,.int .u8 0,.int .u8 0,.int .u8 0]⟩
theorem ty375_ok:Ej Tryz.prog ty375:=⟨by kernel_rfl,by kernel_rfl⟩
def ts:List Ty:=[ty2,ty3,ty4,ty5,ty9,ty22,ty24,ty25,ty28,ty30,ty31,ty34,ty36,ty38,ty40,ty41,ty43,ty45,ty47,ty49,ty51,ty53,ty54,ty55,ty57,ty59,ty60,Lea,I6a,ty76,ty81,ty86,ty87,ty95,ty100,ty102,ty103,ty115,ty117,ty121,ty124,ty130,ty136,ty141,ty145,ty148,ty150,ty156,ty158,ty160,ty162,ty163,ty164,ty170,ty172,ty177,ty178,ty181,ty182,ty185,ty187,ty191,ty194,ty197,ty199,ty209,ty212,ty216,ty218,ty224,ty225,ty227,ty231,ty236,ty238,ty239,ty241,ty244,ty246,ty248,ty250,ty254,ty260,ty262,ty264,ty266,ty267,ty275,ty277,ty278,ty290,ty291,ty294,ty297,ty302,ty307,ty315,ty316,ty318,ty344,ty356,ty370,ty371,ty375]
theorem ts_ok:Ue Tryz.prog ts:=by
 intro t ht
 simp only [ts,List.mem_cons,List.not_mem_nil,or_false] at ht
 rcases ht with rfl|rfl|rfl|rfl|rfl|rfl|rfl|rfl|rfl|rfl|rfl|rfl|rfl|rfl|rfl|rfl|rfl|rfl|rfl|rfl|rfl|rfl|rfl|rfl|rfl|rfl|rfl|rfl|rfl|rfl|rfl|rfl|rfl|rfl|rfl|rfl|rfl|rfl|rfl|rfl|rfl|rfl|rfl|rfl|rfl|rfl|rfl|rfl|rfl|rfl|rfl|rfl|rfl|rfl|rfl|rfl|rfl|rfl|rfl|rfl|rfl|rfl|rfl|rfl|rfl|rfl|rfl|rfl|rfl|rfl|rfl|rfl|rfl|rfl|rfl|rfl|rfl|rfl|rfl|rfl|rfl|rfl|rfl|rfl|rfl|rfl|rfl|rfl|rfl|rfl|rfl|rfl|rfl|rfl|rfl|rfl|rfl|rfl|rfl|rfl|rfl|rfl|rfl|rfl
 · exact ty2_ok
 · exact ty3_ok
 · exact ty4_ok
 · exact ty5_ok
 · exact ty9_ok
 · exact ty22_ok
 · exact ty24_ok
 · exact ty25_ok
 · exact ty28_ok
 · exact ty30_ok
 · exact ty31_ok
 · exact ty34_ok
 · exact ty36_ok
 · exact ty38_ok
 · exact ty40_ok
 · exact ty41_ok
 · exact ty43_ok
 · exact ty45_ok
 · exact ty47_ok
 · exact ty49_ok
 · exact ty51_ok
 · exact ty53_ok
 · exact ty54_ok
 · exact ty55_ok
 · exact ty57_ok
 · exact ty59_ok
 · exact ty60_ok
 · exact ty62_ok
 · exact ty64_ok
 · exact ty76_ok
 · exact ty81_ok
 · exact ty86_ok
 · exact ty87_ok
 · exact ty95_ok
 · exact ty100_ok
 · exact ty102_ok
 · exact ty103_ok
 · exact ty115_ok
 · exact ty117_ok
 · exact ty121_ok
 · exact ty124_ok
 · exact ty130_ok
 · exact ty136_ok
 · exact ty141_ok
 · exact ty145_ok
 · exact ty148_ok
 · exact ty150_ok
 · exact ty156_ok
 · exact ty158_ok
 · exact ty160_ok
 · exact ty162_ok
 · exact ty163_ok
 · exact ty164_ok
 · exact ty170_ok
 · exact ty172_ok
 · exact ty177_ok
 · exact ty178_ok
 · exact ty181_ok
 · exact ty182_ok
 · exact ty185_ok
 · exact ty187_ok
 · exact ty191_ok
 · exact ty194_ok
 · exact ty197_ok
 · exact ty199_ok
 · exact ty209_ok
 · exact ty212_ok
 · exact ty216_ok
 · exact ty218_ok
 · exact ty224_ok
 · exact ty225_ok
 · exact ty227_ok
 · exact ty231_ok
 · exact ty236_ok
 · exact ty238_ok
 · exact ty239_ok
 · exact ty241_ok
 · exact ty244_ok
 · exact ty246_ok
 · exact ty248_ok
 · exact ty250_ok
 · exact ty254_ok
 · exact ty260_ok
 · exact ty262_ok
 · exact ty264_ok
 · exact ty266_ok
 · exact ty267_ok
 · exact ty275_ok
 · exact ty277_ok
 · exact ty278_ok
 · exact ty290_ok
 · exact ty291_ok
 · exact ty294_ok
 · exact ty297_ok
 · exact ty302_ok
 · exact ty307_ok
 · exact ty315_ok
 · exact ty316_ok
 · exact ty318_ok
 · exact ty344_ok
 · exact ty356_ok
 · exact ty370_ok
 · exact ty371_ok
 · exact ty375_ok
theorem has4:Has Tryz.prog 4:=⟨_,Go.Proofs.Tryz.func4,by kernel_rfl,by kernel_rfl⟩
theorem has5:Has Tryz.prog 5:=⟨_,Go.Proofs.Tryz.func5,by kernel_rfl,by kernel_rfl⟩
theorem has6:Has Tryz.prog 6:=⟨_,Go.Proofs.Tryz.func6,by kernel_rfl,by kernel_rfl⟩
theorem has7:Has Tryz.prog 7:=⟨_,Go.Proofs.Tryz.func7,by kernel_rfl,by kernel_rfl⟩
theorem has8:Has Tryz.prog 8:=⟨_,Go.Proofs.Tryz.func8,by kernel_rfl,by kernel_rfl⟩
theorem has9:Has Tryz.prog 9:=⟨_,Go.Proofs.Tryz.func9,by kernel_rfl,by kernel_rfl⟩
theorem Hha:Has Tryz.prog 10:=⟨_,Go.Proofs.Tryz.func10,by kernel_rfl,by kernel_rfl⟩
theorem has11:Has Tryz.prog 11:=⟨_,Go.Proofs.Tryz.func11,by kernel_rfl,by kernel_rfl⟩
theorem has12:Has Tryz.prog 12:=⟨_,Go.Proofs.Tryz.func12,by kernel_rfl,by kernel_rfl⟩
theorem Hga:Has Tryz.prog 13:=⟨_,Go.Proofs.Tryz.func13,by kernel_rfl,by kernel_rfl⟩
theorem has14:Has Tryz.prog 14:=⟨_,Go.Proofs.Tryz.func14,by kernel_rfl,by kernel_rfl⟩
theorem has15:Has Tryz.prog 15:=⟨_,Go.Proofs.Tryz.func15,by kernel_rfl,by kernel_rfl⟩
theorem Pw:Has Tryz.prog 16:=⟨_,Go.Proofs.Tryz.func16,by kernel_rfl,by kernel_rfl⟩
theorem has17:Has Tryz.prog 17:=⟨_,Go.Proofs.Tryz.func17,by kernel_rfl,by kernel_rfl⟩
theorem has18:Has Tryz.prog 18:=⟨_,Go.Proofs.Tryz.func18,by kernel_rfl,by kernel_rfl⟩
theorem has19:Has Tryz.prog 19:=⟨_,Go.Proofs.Tryz.func19,by kernel_rfl,by kernel_rfl⟩
theorem Xo:Has Tryz.prog 20:=⟨_,Go.Proofs.Tryz.func20,by kernel_rfl,by kernel_rfl⟩
theorem has21:Has Tryz.prog 21:=⟨_,Go.Proofs.Tryz.func21,by kernel_rfl,by kernel_rfl⟩
theorem has22:Has Tryz.prog 22:=⟨_,Go.Proofs.Tryz.func22,by kernel_rfl,by kernel_rfl⟩
theorem has23:Has Tryz.prog 23:=⟨_,Go.Proofs.Tryz.func23,by kernel_rfl,by kernel_rfl⟩
theorem has24:Has Tryz.prog 24:=⟨_,Go.Proofs.Tryz.func24,by kernel_rfl,by kernel_rfl⟩
theorem has25:Has Tryz.prog 25:=⟨_,Go.Proofs.Tryz.func25,by kernel_rfl,by kernel_rfl⟩
theorem has27:Has Tryz.prog 27:=⟨_,Go.Proofs.Tryz.func27,by kernel_rfl,by kernel_rfl⟩
theorem Mca:Has Tryz.prog 28:=⟨_,Go.Proofs.Tryz.func28,by kernel_rfl,by kernel_rfl⟩
theorem Bya:Has Tryz.prog 29:=⟨_,Go.Proofs.Tryz.func29,by kernel_rfl,by kernel_rfl⟩
theorem Mba:Has Tryz.prog 30:=⟨_,Go.Proofs.Tryz.func30,by kernel_rfl,by kernel_rfl⟩
theorem has31:Has Tryz.prog 31:=⟨_,Go.Proofs.Tryz.func31,by kernel_rfl,by kernel_rfl⟩
theorem has32:Has Tryz.prog 32:=⟨_,Go.Proofs.Tryz.func32,by kernel_rfl,by kernel_rfl⟩
theorem has33:Has Tryz.prog 33:=⟨_,Go.Proofs.Tryz.func33,by kernel_rfl,by kernel_rfl⟩
theorem has34:Has Tryz.prog 34:=⟨_,Go.Proofs.Tryz.func34,by kernel_rfl,by kernel_rfl⟩
theorem has35:Has Tryz.prog 35:=⟨_,Go.Proofs.Tryz.func35,by kernel_rfl,by kernel_rfl⟩
theorem has36:Has Tryz.prog 36:=⟨_,Go.Proofs.Tryz.func36,by kernel_rfl,by kernel_rfl⟩
theorem Xn:Has Tryz.prog 37:=⟨_,Go.Proofs.Tryz.func37,by kernel_rfl,by kernel_rfl⟩
theorem Maa:Has Tryz.prog 38:=⟨_,Go.Proofs.Tryz.func38,by kernel_rfl,by kernel_rfl⟩
theorem has39:Has Tryz.prog 39:=⟨_,Go.Proofs.Tryz.func39,by kernel_rfl,by kernel_rfl⟩
theorem Hfa:Has Tryz.prog 40:=⟨_,Go.Proofs.Tryz.func40,by kernel_rfl,by kernel_rfl⟩
theorem Hea:Has Tryz.prog 41:=⟨_,Go.Proofs.Tryz.func41,by kernel_rfl,by kernel_rfl⟩
theorem has42:Has Tryz.prog 42:=⟨_,Go.Proofs.Tryz.func42,by kernel_rfl,by kernel_rfl⟩
theorem has43:Has Tryz.prog 43:=⟨_,Go.Proofs.Tryz.func43,by kernel_rfl,by kernel_rfl⟩
theorem has44:Has Tryz.prog 44:=⟨_,Go.Proofs.Tryz.func44,by kernel_rfl,by kernel_rfl⟩
theorem has45:Has Tryz.prog 45:=⟨_,Go.Proofs.Tryz.func45,by kernel_rfl,by kernel_rfl⟩
theorem Pv:Has Tryz.prog 46:=⟨_,Go.Proofs.Tryz.func46,by kernel_rfl,by kernel_rfl⟩
theorem Vh:Has Tryz.prog 47:=⟨_,Go.Proofs.Tryz.func47,by kernel_rfl,by kernel_rfl⟩
theorem has48:Has Tryz.prog 48:=⟨_,Go.Proofs.Tryz.func48,by kernel_rfl,by kernel_rfl⟩
theorem has49:Has Tryz.prog 49:=⟨_,Go.Proofs.Tryz.func49,by kernel_rfl,by kernel_rfl⟩
theorem has50:Has Tryz.prog 50:=⟨_,Go.Proofs.Tryz.func50,by kernel_rfl,by kernel_rfl⟩
theorem has51:Has Tryz.prog 51:=⟨_,Go.Proofs.Tryz.func51,by kernel_rfl,by kernel_rfl⟩
theorem Hda:Has Tryz.prog 52:=⟨_,Go.Proofs.Tryz.func52,by kernel_rfl,by kernel_rfl⟩
theorem has53:Has Tryz.prog 53:=⟨_,Go.Proofs.Tryz.func53,by kernel_rfl,by kernel_rfl⟩
theorem has54:Has Tryz.prog 54:=⟨_,Go.Proofs.Tryz.func54,by kernel_rfl,by kernel_rfl⟩
theorem has55:Has Tryz.prog 55:=⟨_,Go.Proofs.Tryz.func55,by kernel_rfl,by kernel_rfl⟩
theorem has56:Has Tryz.prog 56:=⟨_,Go.Proofs.Tryz.func56,by kernel_rfl,by kernel_rfl⟩
theorem has57:Has Tryz.prog 57:=⟨_,Go.Proofs.Tryz.func57,by kernel_rfl,by kernel_rfl⟩
theorem has58:Has Tryz.prog 58:=⟨_,Go.Proofs.Tryz.func58,by kernel_rfl,by kernel_rfl⟩
theorem has59:Has Tryz.prog 59:=⟨_,Go.Proofs.Tryz.func59,by kernel_rfl,by kernel_rfl⟩
theorem has60:Has Tryz.prog 60:=⟨_,Go.Proofs.Tryz.func60,by kernel_rfl,by kernel_rfl⟩
theorem Hca:Has Tryz.prog 61:=⟨_,Go.Proofs.Tryz.func61,by kernel_rfl,by kernel_rfl⟩
theorem has62:Has Tryz.prog 62:=⟨_,Go.Proofs.Tryz.func62,by kernel_rfl,by kernel_rfl⟩
theorem has63:Has Tryz.prog 63:=⟨_,Go.Proofs.Tryz.func63,by kernel_rfl,by kernel_rfl⟩
theorem has64:Has Tryz.prog 64:=⟨_,Go.Proofs.Tryz.func64,by kernel_rfl,by kernel_rfl⟩
theorem has67:Has Tryz.prog 67:=⟨_,Go.Proofs.Tryz.func67,by kernel_rfl,by kernel_rfl⟩
theorem has68:Has Tryz.prog 68:=⟨_,Go.Proofs.Tryz.func68,by kernel_rfl,by kernel_rfl⟩
theorem has69:Has Tryz.prog 69:=⟨_,Go.Proofs.Tryz.func69,by kernel_rfl,by kernel_rfl⟩
theorem has70:Has Tryz.prog 70:=⟨_,Go.Proofs.Tryz.func70,by kernel_rfl,by kernel_rfl⟩
theorem has71:Has Tryz.prog 71:=⟨_,Go.Proofs.Tryz.func71,by kernel_rfl,by kernel_rfl⟩
theorem has72:Has Tryz.prog 72:=⟨_,Go.Proofs.Tryz.func72,by kernel_rfl,by kernel_rfl⟩
theorem has73:Has Tryz.prog 73:=⟨_,Go.Proofs.Tryz.func73,by kernel_rfl,by kernel_rfl⟩
theorem has74:Has Tryz.prog 74:=⟨_,Go.Proofs.Tryz.func74,by kernel_rfl,by kernel_rfl⟩
theorem has75:Has Tryz.prog 75:=⟨_,Go.Proofs.Tryz.func75,by kernel_rfl,by kernel_rfl⟩
theorem has77:Has Tryz.prog 77:=⟨_,Go.Proofs.Tryz.func77,by kernel_rfl,by kernel_rfl⟩
theorem has78:Has Tryz.prog 78:=⟨_,Go.Proofs.Tryz.func78,by kernel_rfl,by kernel_rfl⟩
theorem has79:Has Tryz.prog 79:=⟨_,Go.Proofs.Tryz.func79,by kernel_rfl,by kernel_rfl⟩
theorem has80:Has Tryz.prog 80:=⟨_,Go.Proofs.Tryz.func80,by kernel_rfl,by kernel_rfl⟩
theorem has81:Has Tryz.prog 81:=⟨_,Go.Proofs.Tryz.func81,by kernel_rfl,by kernel_rfl⟩
theorem has82:Has Tryz.prog 82:=⟨_,Go.Proofs.Tryz.func82,by kernel_rfl,by kernel_rfl⟩
theorem has83:Has Tryz.prog 83:=⟨_,Go.Proofs.Tryz.func83,by kernel_rfl,by kernel_rfl⟩
theorem has84:Has Tryz.prog 84:=⟨_,Go.Proofs.Tryz.func84,by kernel_rfl,by kernel_rfl⟩
theorem has85:Has Tryz.prog 85:=⟨_,Go.Proofs.Tryz.func85,by kernel_rfl,by kernel_rfl⟩
theorem has86:Has Tryz.prog 86:=⟨_,Go.Proofs.Tryz.func86,by kernel_rfl,by kernel_rfl⟩
theorem has87:Has Tryz.prog 87:=⟨_,Go.Proofs.Tryz.func87,by kernel_rfl,by kernel_rfl⟩
theorem has88:Has Tryz.prog 88:=⟨_,Go.Proofs.Tryz.func88,by kernel_rfl,by kernel_rfl⟩
theorem has89:Has Tryz.prog 89:=⟨_,Go.Proofs.Tryz.func89,by kernel_rfl,by kernel_rfl⟩
theorem Hba:Has Tryz.prog 90:=⟨_,Go.Proofs.Tryz.func90,by kernel_rfl,by kernel_rfl⟩
theorem has91:Has Tryz.prog 91:=⟨_,Go.Proofs.Tryz.func91,by kernel_rfl,by kernel_rfl⟩
theorem has92:Has Tryz.prog 92:=⟨_,Go.Proofs.Tryz.func92,by kernel_rfl,by kernel_rfl⟩
theorem has93:Has Tryz.prog 93:=⟨_,Go.Proofs.Tryz.func93,by kernel_rfl,by kernel_rfl⟩
theorem has94:Has Tryz.prog 94:=⟨_,Go.Proofs.Tryz.func94,by kernel_rfl,by kernel_rfl⟩
theorem has95:Has Tryz.prog 95:=⟨_,Go.Proofs.Tryz.func95,by kernel_rfl,by kernel_rfl⟩
theorem has96:Has Tryz.prog 96:=⟨_,Go.Proofs.Tryz.func96,by kernel_rfl,by kernel_rfl⟩
theorem has97:Has Tryz.prog 97:=⟨_,Go.Proofs.Tryz.func97,by kernel_rfl,by kernel_rfl⟩
theorem has98:Has Tryz.prog 98:=⟨_,Go.Proofs.Tryz.func98,by kernel_rfl,by kernel_rfl⟩
theorem has99:Has Tryz.prog 99:=⟨_,Go.Proofs.Tryz.func99,by kernel_rfl,by kernel_rfl⟩
theorem has100:Has Tryz.prog 100:=⟨_,Go.Proofs.Tryz.func100,by kernel_rfl,by kernel_rfl⟩
theorem has101:Has Tryz.prog 101:=⟨_,Go.Proofs.Tryz.func101,by kernel_rfl,by kernel_rfl⟩
theorem has102:Has Tryz.prog 102:=⟨_,Go.Proofs.Tryz.func102,by kernel_rfl,by kernel_rfl⟩
theorem has103:Has Tryz.prog 103:=⟨_,Go.Proofs.Tryz.func103,by kernel_rfl,by kernel_rfl⟩
theorem has104:Has Tryz.prog 104:=⟨_,Go.Proofs.Tryz.func104,by kernel_rfl,by kernel_rfl⟩
theorem has105:Has Tryz.prog 105:=⟨_,Go.Proofs.Tryz.func105,by kernel_rfl,by kernel_rfl⟩
theorem has106:Has Tryz.prog 106:=⟨_,Go.Proofs.Tryz.func106,by kernel_rfl,by kernel_rfl⟩
theorem has117:Has Tryz.prog 117:=⟨_,Go.Proofs.Tryz.func117,by kernel_rfl,by kernel_rfl⟩
theorem has118:Has Tryz.prog 118:=⟨_,Go.Proofs.Tryz.func118,by kernel_rfl,by kernel_rfl⟩
theorem has119:Has Tryz.prog 119:=⟨_,Go.Proofs.Tryz.func119,by kernel_rfl,by kernel_rfl⟩
theorem has120:Has Tryz.prog 120:=⟨_,Go.Proofs.Tryz.func120,by kernel_rfl,by kernel_rfl⟩
theorem has121:Has Tryz.prog 121:=⟨_,Go.Proofs.Tryz.func121,by kernel_rfl,by kernel_rfl⟩
theorem has122:Has Tryz.prog 122:=⟨_,Go.Proofs.Tryz.func122,by kernel_rfl,by kernel_rfl⟩
theorem has123:Has Tryz.prog 123:=⟨_,Go.Proofs.Tryz.func123,by kernel_rfl,by kernel_rfl⟩
theorem has124:Has Tryz.prog 124:=⟨_,Go.Proofs.Tryz.func124,by kernel_rfl,by kernel_rfl⟩
theorem has125:Has Tryz.prog 125:=⟨_,Go.Proofs.Tryz.func125,by kernel_rfl,by kernel_rfl⟩
theorem has126:Has Tryz.prog 126:=⟨_,Go.Proofs.Tryz.func126,by kernel_rfl,by kernel_rfl⟩
theorem has127:Has Tryz.prog 127:=⟨_,Go.Proofs.Tryz.func127,by kernel_rfl,by kernel_rfl⟩
theorem has128:Has Tryz.prog 128:=⟨_,Go.Proofs.Tryz.func128,by kernel_rfl,by kernel_rfl⟩
theorem has129:Has Tryz.prog 129:=⟨_,Go.Proofs.Tryz.func129,by kernel_rfl,by kernel_rfl⟩
theorem has130:Has Tryz.prog 130:=⟨_,Go.Proofs.Tryz.func130,by kernel_rfl,by kernel_rfl⟩
theorem has131:Has Tryz.prog 131:=⟨_,Go.Proofs.Tryz.func131,by kernel_rfl,by kernel_rfl⟩
theorem has132:Has Tryz.prog 132:=⟨_,Go.Proofs.Tryz.func132,by kernel_rfl,by kernel_rfl⟩
theorem has133:Has Tryz.prog 133:=⟨_,Go.Proofs.Tryz.func133,by kernel_rfl,by kernel_rfl⟩
theorem has134:Has Tryz.prog 134:=⟨_,Go.Proofs.Tryz.func134,by kernel_rfl,by kernel_rfl⟩
theorem has135:Has Tryz.prog 135:=⟨_,Go.Proofs.Tryz.func135,by kernel_rfl,by kernel_rfl⟩
theorem has136:Has Tryz.prog 136:=⟨_,Go.Proofs.Tryz.func136,by kernel_rfl,by kernel_rfl⟩
theorem has137:Has Tryz.prog 137:=⟨_,Go.Proofs.Tryz.func137,by kernel_rfl,by kernel_rfl⟩
theorem has138:Has Tryz.prog 138:=⟨_,Go.Proofs.Tryz.func138,by kernel_rfl,by kernel_rfl⟩
theorem has139:Has Tryz.prog 139:=⟨_,Go.Proofs.Tryz.func139,by kernel_rfl,by kernel_rfl⟩
theorem has140:Has Tryz.prog 140:=⟨_,Go.Proofs.Tryz.func140,by kernel_rfl,by kernel_rfl⟩
theorem has141:Has Tryz.prog 141:=⟨_,Go.Proofs.Tryz.func141,by kernel_rfl,by kernel_rfl⟩
theorem has142:Has Tryz.prog 142:=⟨_,Go.Proofs.Tryz.func142,by kernel_rfl,by kernel_rfl⟩
theorem has143:Has Tryz.prog 143:=⟨_,Go.Proofs.Tryz.func143,by kernel_rfl,by kernel_rfl⟩
theorem has144:Has Tryz.prog 144:=⟨_,Go.Proofs.Tryz.func144,by kernel_rfl,by kernel_rfl⟩
theorem Xp:Has Tryz.prog 145:=⟨_,Go.Proofs.Tryz.func145,by kernel_rfl,by kernel_rfl⟩
theorem J0a:Has Tryz.prog 146:=⟨_,Go.Proofs.Tryz.func146,by kernel_rfl,by kernel_rfl⟩
theorem has148:Has Tryz.prog 148:=⟨_,Go.Proofs.Tryz.func148,by kernel_rfl,by kernel_rfl⟩
theorem has150:Has Tryz.prog 150:=⟨_,Go.Proofs.Tryz.func150,by kernel_rfl,by kernel_rfl⟩
theorem has151:Has Tryz.prog 151:=⟨_,Go.Proofs.Tryz.func151,by kernel_rfl,by kernel_rfl⟩
theorem has152:Has Tryz.prog 152:=⟨_,Go.Proofs.Tryz.func152,by kernel_rfl,by kernel_rfl⟩
theorem has153:Has Tryz.prog 153:=⟨_,Go.Proofs.Tryz.func153,by kernel_rfl,by kernel_rfl⟩
theorem has154:Has Tryz.prog 154:=⟨_,Go.Proofs.Tryz.func154,by kernel_rfl,by kernel_rfl⟩
theorem has155:Has Tryz.prog 155:=⟨_,Go.Proofs.Tryz.func155,by kernel_rfl,by kernel_rfl⟩
theorem has156:Has Tryz.prog 156:=⟨_,Go.Proofs.Tryz.func156,by kernel_rfl,by kernel_rfl⟩
theorem has157:Has Tryz.prog 157:=⟨_,Go.Proofs.Tryz.func157,by kernel_rfl,by kernel_rfl⟩
theorem has158:Has Tryz.prog 158:=⟨_,Go.Proofs.Tryz.func158,by kernel_rfl,by kernel_rfl⟩
theorem has159:Has Tryz.prog 159:=⟨_,Go.Proofs.Tryz.func159,by kernel_rfl,by kernel_rfl⟩
theorem has160:Has Tryz.prog 160:=⟨_,Go.Proofs.Tryz.func160,by kernel_rfl,by kernel_rfl⟩
theorem has161:Has Tryz.prog 161:=⟨_,Go.Proofs.Tryz.func161,by kernel_rfl,by kernel_rfl⟩
theorem has162:Has Tryz.prog 162:=⟨_,Go.Proofs.Tryz.func162,by kernel_rfl,by kernel_rfl⟩
theorem has163:Has Tryz.prog 163:=⟨_,Go.Proofs.Tryz.func163,by kernel_rfl,by kernel_rfl⟩
theorem has164:Has Tryz.prog 164:=⟨_,Go.Proofs.Tryz.func164,by kernel_rfl,by kernel_rfl⟩
theorem has165:Has Tryz.prog 165:=⟨_,Go.Proofs.Tryz.func165,by kernel_rfl,by kernel_rfl⟩
theorem has166:Has Tryz.prog 166:=⟨_,Go.Proofs.Tryz.func166,by kernel_rfl,by kernel_rfl⟩
theorem has172:Has Tryz.prog 172:=⟨_,Go.Proofs.Tryz.func172,by kernel_rfl,by kernel_rfl⟩
theorem has173:Has Tryz.prog 173:=⟨_,Go.Proofs.Tryz.func173,by kernel_rfl,by kernel_rfl⟩
theorem has174:Has Tryz.prog 174:=⟨_,Go.Proofs.Tryz.func174,by kernel_rfl,by kernel_rfl⟩
theorem has175:Has Tryz.prog 175:=⟨_,Go.Proofs.Tryz.func175,by kernel_rfl,by kernel_rfl⟩
theorem has176:Has Tryz.prog 176:=⟨_,Go.Proofs.Tryz.func176,by kernel_rfl,by kernel_rfl⟩
theorem has177:Has Tryz.prog 177:=⟨_,Go.Proofs.Tryz.func177,by kernel_rfl,by kernel_rfl⟩
theorem has178:Has Tryz.prog 178:=⟨_,Go.Proofs.Tryz.func178,by kernel_rfl,by kernel_rfl⟩
theorem has179:Has Tryz.prog 179:=⟨_,Go.Proofs.Tryz.func179,by kernel_rfl,by kernel_rfl⟩
theorem Jza:Has Tryz.prog 180:=⟨_,Go.Proofs.Tryz.func180,by kernel_rfl,by kernel_rfl⟩
theorem has181:Has Tryz.prog 181:=⟨_,Go.Proofs.Tryz.func181,by kernel_rfl,by kernel_rfl⟩
theorem Ur:Has Tryz.prog 182:=⟨_,Go.Proofs.Tryz.func182,by kernel_rfl,by kernel_rfl⟩
theorem Oj:Has Tryz.prog 183:=⟨_,Go.Proofs.Tryz.func183,by kernel_rfl,by kernel_rfl⟩
theorem has184:Has Tryz.prog 184:=⟨_,Go.Proofs.Tryz.func184,by kernel_rfl,by kernel_rfl⟩
theorem Jya:Has Tryz.prog 185:=⟨_,Go.Proofs.Tryz.func185,by kernel_rfl,by kernel_rfl⟩
theorem has186:Has Tryz.prog 186:=⟨_,Go.Proofs.Tryz.func186,by kernel_rfl,by kernel_rfl⟩
theorem has187:Has Tryz.prog 187:=⟨_,Go.Proofs.Tryz.func187,by kernel_rfl,by kernel_rfl⟩
theorem has188:Has Tryz.prog 188:=⟨_,Go.Proofs.Tryz.func188,by kernel_rfl,by kernel_rfl⟩
theorem has189:Has Tryz.prog 189:=⟨_,Go.Proofs.Tryz.func189,by kernel_rfl,by kernel_rfl⟩
theorem has199:Has Tryz.prog 199:=⟨_,Go.Proofs.Tryz.func199,by kernel_rfl,by kernel_rfl⟩
theorem has200:Has Tryz.prog 200:=⟨_,Go.Proofs.Tryz.func200,by kernel_rfl,by kernel_rfl⟩
theorem has201:Has Tryz.prog 201:=⟨_,Go.Proofs.Tryz.func201,by kernel_rfl,by kernel_rfl⟩
theorem has202:Has Tryz.prog 202:=⟨_,Go.Proofs.Tryz.func202,by kernel_rfl,by kernel_rfl⟩
theorem has203:Has Tryz.prog 203:=⟨_,Go.Proofs.Tryz.func203,by kernel_rfl,by kernel_rfl⟩
theorem has204:Has Tryz.prog 204:=⟨_,Go.Proofs.Tryz.func204,by kernel_rfl,by kernel_rfl⟩
theorem has205:Has Tryz.prog 205:=⟨_,Go.Proofs.Tryz.func205,by kernel_rfl,by kernel_rfl⟩
theorem has206:Has Tryz.prog 206:=⟨_,Go.Proofs.Tryz.func206,by kernel_rfl,by kernel_rfl⟩
theorem has207:Has Tryz.prog 207:=⟨_,Go.Proofs.Tryz.func207,by kernel_rfl,by kernel_rfl⟩
theorem has208:Has Tryz.prog 208:=⟨_,Go.Proofs.Tryz.func208,by kernel_rfl,by kernel_rfl⟩
theorem has209:Has Tryz.prog 209:=⟨_,Go.Proofs.Tryz.func209,by kernel_rfl,by kernel_rfl⟩
theorem has211:Has Tryz.prog 211:=⟨_,Go.Proofs.Tryz.func211,by kernel_rfl,by kernel_rfl⟩
theorem has212:Has Tryz.prog 212:=⟨_,Go.Proofs.Tryz.func212,by kernel_rfl,by kernel_rfl⟩
theorem has214:Has Tryz.prog 214:=⟨_,Go.Proofs.Tryz.func214,by kernel_rfl,by kernel_rfl⟩
theorem has216:Has Tryz.prog 216:=⟨_,Go.Proofs.Tryz.func216,by kernel_rfl,by kernel_rfl⟩
theorem has217:Has Tryz.prog 217:=⟨_,Go.Proofs.Tryz.func217,by kernel_rfl,by kernel_rfl⟩
theorem has218:Has Tryz.prog 218:=⟨_,Go.Proofs.Tryz.func218,by kernel_rfl,by kernel_rfl⟩
theorem has219:Has Tryz.prog 219:=⟨_,Go.Proofs.Tryz.func219,by kernel_rfl,by kernel_rfl⟩
theorem has220:Has Tryz.prog 220:=⟨_,Go.Proofs.Tryz.func220,by kernel_rfl,by kernel_rfl⟩
theorem has221:Has Tryz.prog 221:=⟨_,Go.Proofs.Tryz.func221,by kernel_rfl,by kernel_rfl⟩
theorem has222:Has Tryz.prog 222:=⟨_,Go.Proofs.Tryz.func222,by kernel_rfl,by kernel_rfl⟩
theorem has223:Has Tryz.prog 223:=⟨_,Go.Proofs.Tryz.func223,by kernel_rfl,by kernel_rfl⟩
theorem has224:Has Tryz.prog 224:=⟨_,Go.Proofs.Tryz.func224,by kernel_rfl,by kernel_rfl⟩
theorem has225:Has Tryz.prog 225:=⟨_,Go.Proofs.Tryz.func225,by kernel_rfl,by kernel_rfl⟩
theorem has226:Has Tryz.prog 226:=⟨_,Go.Proofs.Tryz.func226,by kernel_rfl,by kernel_rfl⟩
theorem has227:Has Tryz.prog 227:=⟨_,Go.Proofs.Tryz.func227,by kernel_rfl,by kernel_rfl⟩
theorem has228:Has Tryz.prog 228:=⟨_,Go.Proofs.Tryz.func228,by kernel_rfl,by kernel_rfl⟩
theorem has229:Has Tryz.prog 229:=⟨_,Go.Proofs.Tryz.func229,by kernel_rfl,by kernel_rfl⟩
theorem has230:Has Tryz.prog 230:=⟨_,Go.Proofs.Tryz.func230,by kernel_rfl,by kernel_rfl⟩
theorem has231:Has Tryz.prog 231:=⟨_,Go.Proofs.Tryz.func231,by kernel_rfl,by kernel_rfl⟩
theorem has232:Has Tryz.prog 232:=⟨_,Go.Proofs.Tryz.func232,by kernel_rfl,by kernel_rfl⟩
theorem has233:Has Tryz.prog 233:=⟨_,Go.Proofs.Tryz.func233,by kernel_rfl,by kernel_rfl⟩
theorem has234:Has Tryz.prog 234:=⟨_,Go.Proofs.Tryz.func234,by kernel_rfl,by kernel_rfl⟩
theorem has235:Has Tryz.prog 235:=⟨_,Go.Proofs.Tryz.func235,by kernel_rfl,by kernel_rfl⟩
theorem has236:Has Tryz.prog 236:=⟨_,Go.Proofs.Tryz.func236,by kernel_rfl,by kernel_rfl⟩
theorem has237:Has Tryz.prog 237:=⟨_,Go.Proofs.Tryz.func237,by kernel_rfl,by kernel_rfl⟩
theorem has238:Has Tryz.prog 238:=⟨_,Go.Proofs.Tryz.func238,by kernel_rfl,by kernel_rfl⟩
theorem has239:Has Tryz.prog 239:=⟨_,Go.Proofs.Tryz.func239,by kernel_rfl,by kernel_rfl⟩
theorem has240:Has Tryz.prog 240:=⟨_,Go.Proofs.Tryz.func240,by kernel_rfl,by kernel_rfl⟩
theorem has241:Has Tryz.prog 241:=⟨_,Go.Proofs.Tryz.func241,by kernel_rfl,by kernel_rfl⟩
theorem has242:Has Tryz.prog 242:=⟨_,Go.Proofs.Tryz.func242,by kernel_rfl,by kernel_rfl⟩
theorem has243:Has Tryz.prog 243:=⟨_,Go.Proofs.Tryz.func243,by kernel_rfl,by kernel_rfl⟩
theorem has244:Has Tryz.prog 244:=⟨_,Go.Proofs.Tryz.func244,by kernel_rfl,by kernel_rfl⟩
theorem has250:Has Tryz.prog 250:=⟨_,Go.Proofs.Tryz.func250,by kernel_rfl,by kernel_rfl⟩
theorem has252:Has Tryz.prog 252:=⟨_,Go.Proofs.Tryz.func252,by kernel_rfl,by kernel_rfl⟩
theorem has254:Has Tryz.prog 254:=⟨_,Go.Proofs.Tryz.func254,by kernel_rfl,by kernel_rfl⟩
theorem has256:Has Tryz.prog 256:=⟨_,Go.Proofs.Tryz.func256,by kernel_rfl,by kernel_rfl⟩
theorem has257:Has Tryz.prog 257:=⟨_,Go.Proofs.Tryz.func257,by kernel_rfl,by kernel_rfl⟩
theorem has258:Has Tryz.prog 258:=⟨_,Go.Proofs.Tryz.func258,by kernel_rfl,by kernel_rfl⟩
theorem has259:Has Tryz.prog 259:=⟨_,Go.Proofs.Tryz.func259,by kernel_rfl,by kernel_rfl⟩
theorem has277:Has Tryz.prog 277:=⟨_,Go.Proofs.Tryz.func277,by kernel_rfl,by kernel_rfl⟩
theorem has294:Has Tryz.prog 294:=⟨_,Go.Proofs.Tryz.func294,by kernel_rfl,by kernel_rfl⟩
theorem has308:Has Tryz.prog 308:=⟨_,Go.Proofs.Tryz.func308,by kernel_rfl,by kernel_rfl⟩
theorem has309:Has Tryz.prog 309:=⟨_,Go.Proofs.Tryz.func309,by kernel_rfl,by kernel_rfl⟩
theorem has310:Has Tryz.prog 310:=⟨_,Go.Proofs.Tryz.func310,by kernel_rfl,by kernel_rfl⟩
end Go.Hw
