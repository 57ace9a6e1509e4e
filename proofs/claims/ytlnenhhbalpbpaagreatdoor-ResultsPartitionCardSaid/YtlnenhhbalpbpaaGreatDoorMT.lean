import Derived.Test.YtlnenhhbalpbpaaGreatDoorProg
import Derived.Test.YtlnenhhbalpbpaaGreatDoorHB
import Derived.KernelRfl
set_option linter.unusedVariables false
set_option maxRecDepth 100000
namespace Go.Hw
open Go
open Go.Proofs (Tryz.prog)
def fd (t o : Nat) (b : Bool:=false) : Field:={ name:=if b then "_" else "",type:=t,offset:=o,embedded:=false,tag := "",pkgPath := "",byteOffset:=0 }
def ty2 : Ty:=⟨2,.int .i64,1,8,.int .i64 0⟩
theorem ty2_ok : TyOk Tryz.prog ty2:=⟨by kernel_rfl,by kernel_rfl⟩
def ty3 : Ty:=⟨3,.int .i64,1,8,.int .i64 0⟩
theorem ty3_ok : TyOk Tryz.prog ty3:=⟨by kernel_rfl,by kernel_rfl⟩
def ty4 : Ty:=⟨4,.bool,1,1,.bool false⟩
theorem ty4_ok : TyOk Tryz.prog ty4:=⟨by kernel_rfl,by kernel_rfl⟩
def ty5 : Ty:=⟨5,.int .u8,1,1,.int .u8 0⟩
theorem ty5_ok : TyOk Tryz.prog ty5:=⟨by kernel_rfl,by kernel_rfl⟩
def ty9 : Ty:=⟨9,.string,1,16,.string ByteArray.empty⟩
theorem ty9_ok : TyOk Tryz.prog ty9:=⟨by kernel_rfl,by kernel_rfl⟩
def ty22 : Ty:=⟨22,.slice 57,1,24,.slice none 0 0⟩
theorem ty22_ok : TyOk Tryz.prog ty22:=⟨by kernel_rfl,by kernel_rfl⟩
def ty24 : Ty:=⟨24,.struct #[fd 3 0,fd 3 1,fd 3 2,fd 3 3],4,32,.agg #[.int .i64 0,.int .i64 0,.int .i64 0,.int .i64 0]⟩
theorem ty24_ok : TyOk Tryz.prog ty24:=⟨by kernel_rfl,by kernel_rfl⟩
def ty28 : Ty:=⟨28,.struct #[fd 24 0,fd 3 4,fd 3 5,fd 3 6,fd 3 7,fd 3 8,fd 3 9,fd 3 10,fd 4 11,fd 4 12],13,96,.agg #[.int .i64 0,.int .i64 0,.int .i64 0,.int .i64 0,.int .i64 0,.int .i64 0,.int .i64 0,.int .i64 0,.int .i64 0,.int .i64 0,.int .i64 0,.bool false,.bool false]⟩
theorem ty28_ok : TyOk Tryz.prog ty28:=⟨by kernel_rfl,by kernel_rfl⟩
def ty32 : Ty:=⟨32,.int .i64,1,8,.int .i64 0⟩
theorem ty32_ok : TyOk Tryz.prog ty32:=⟨by kernel_rfl,by kernel_rfl⟩
def ty37 : Ty:=⟨37,.struct #[fd 3 0,fd 3 1],2,16,.agg #[.int .i64 0,.int .i64 0]⟩
theorem ty37_ok : TyOk Tryz.prog ty37:=⟨by kernel_rfl,by kernel_rfl⟩
def ty39 : Ty:=⟨39,.struct #[fd 3 0,fd 3 1,fd 3 2,fd 24 3,fd 3 7,fd 3 8,fd 3 9,fd 3 10,fd 3 11,fd 3 12,fd 3 13,fd 3 14,fd 37 15],17,136,.agg #[.int .i64 0,.int .i64 0,.int .i64 0,.int .i64 0,.int .i64 0,.int .i64 0,.int .i64 0,.int .i64 0,.int .i64 0,.int .i64 0,.int .i64 0,.int .i64 0,.int .i64 0,.int .i64 0,.int .i64 0,.int .i64 0,.int .i64 0]⟩
theorem ty39_ok : TyOk Tryz.prog ty39:=⟨by kernel_rfl,by kernel_rfl⟩
def ty40 : Ty:=⟨40,.slice 3,1,24,.slice none 0 0⟩
theorem ty40_ok : TyOk Tryz.prog ty40:=⟨by kernel_rfl,by kernel_rfl⟩
def ty42 : Ty:=⟨42,.struct #[fd 3 0,fd 3 1,fd 40 2,fd 9 3],4,56,.agg #[.int .i64 0,.int .i64 0,.slice none 0 0,.string ByteArray.empty]⟩
theorem ty42_ok : TyOk Tryz.prog ty42:=⟨by kernel_rfl,by kernel_rfl⟩
def ty44 : Ty:=⟨44,.struct #[fd 24 0,fd 3 4],5,40,.agg #[.int .i64 0,.int .i64 0,.int .i64 0,.int .i64 0,.int .i64 0]⟩
theorem ty44_ok : TyOk Tryz.prog ty44:=⟨by kernel_rfl,by kernel_rfl⟩
def ty45 : Ty:=⟨45,.slice 128,1,24,.slice none 0 0⟩
theorem ty45_ok : TyOk Tryz.prog ty45:=⟨by kernel_rfl,by kernel_rfl⟩
def ty47 : Ty:=⟨47,.struct #[fd 24 0,fd 3 4,fd 3 5,fd 3 6,fd 3 7,fd 3 8,fd 40 9,fd 40 10,fd 45 11,fd 45 12],13,168,.agg #[.int .i64 0,.int .i64 0,.int .i64 0,.int .i64 0,.int .i64 0,.int .i64 0,.int .i64 0,.int .i64 0,.int .i64 0,.slice none 0 0,.slice none 0 0,.slice none 0 0,.slice none 0 0]⟩
theorem ty47_ok : TyOk Tryz.prog ty47:=⟨by kernel_rfl,by kernel_rfl⟩
def ty49 : Ty:=⟨49,.struct #[fd 3 0,fd 3 1,fd 4 2],3,24,.agg #[.int .i64 0,.int .i64 0,.bool false]⟩
theorem ty49_ok : TyOk Tryz.prog ty49:=⟨by kernel_rfl,by kernel_rfl⟩
def ty51 : Ty:=⟨51,.struct #[fd 3 0,fd 3 1],2,16,.agg #[.int .i64 0,.int .i64 0]⟩
theorem ty51_ok : TyOk Tryz.prog ty51:=⟨by kernel_rfl,by kernel_rfl⟩
def ty53 : Ty:=⟨53,.struct #[fd 3 0,fd 3 1,fd 40 2],3,40,.agg #[.int .i64 0,.int .i64 0,.slice none 0 0]⟩
theorem ty53_ok : TyOk Tryz.prog ty53:=⟨by kernel_rfl,by kernel_rfl⟩
def ty54 : Ty:=⟨54,.array 32 5,32,32,.agg #[.int .u8 0,.int .u8 0,.int .u8 0,.int .u8 0,.int .u8 0,.int .u8 0,.int .u8 0,.int .u8 0,.int .u8 0,.int .u8 0,.int .u8 0,.int .u8 0,.int .u8 0,.int .u8 0,.int .u8 0,.int .u8 0,.int .u8 0,.int .u8 0,.int .u8 0,.int .u8 0,.int .u8 0,.int .u8 0,.int .u8 0,.int .u8 0,.int .u8 0,.int .u8 0,.int .u8 0,.int .u8 0,.int .u8 0,.int .u8 0,.int .u8 0,.int .u8 0]⟩
theorem ty54_ok : TyOk Tryz.prog ty54:=⟨by kernel_rfl,by kernel_rfl⟩
def ty55 : Ty:=⟨55,.array 32 5,32,32,.agg #[.int .u8 0,.int .u8 0,.int .u8 0,.int .u8 0,.int .u8 0,.int .u8 0,.int .u8 0,.int .u8 0,.int .u8 0,.int .u8 0,.int .u8 0,.int .u8 0,.int .u8 0,.int .u8 0,.int .u8 0,.int .u8 0,.int .u8 0,.int .u8 0,.int .u8 0,.int .u8 0,.int .u8 0,.int .u8 0,.int .u8 0,.int .u8 0,.int .u8 0,.int .u8 0,.int .u8 0,.int .u8 0,.int .u8 0,.int .u8 0,.int .u8 0,.int .u8 0]⟩
theorem ty55_ok : TyOk Tryz.prog ty55:=⟨by kernel_rfl,by kernel_rfl⟩
def ty57 : Ty:=⟨57,.struct #[fd 3 0,fd 3 1,fd 3 2,fd 42 3,fd 44 7,fd 47 12,fd 39 25,fd 49 42,fd 51 45,fd 53 47,fd 55 50],82,536,.agg #[.int .i64 0,.int .i64 0,.int .i64 0,.int .i64 0,.int .i64 0,.slice none 0 0,.string ByteArray.empty,.int .i64 0,.int .i64 0,.int .i64 0,.int .i64 0,.int .i64 0,.int .i64 0,.int .i64 0,.int .i64 0,.int .i64 0,.int .i64 0,.int .i64 0,.int .i64 0,.int .i64 0,.int .i64 0,.slice none 0 0,.slice none 0 0,.slice none 0 0,.slice none 0 0,.int .i64 0,.int .i64 0,.int .i64 0,.int .i64 0,.int .i64 0,.int .i64 0,.int .i64 0,.int .i64 0,.int .i64 0,.int .i64 0,.int .i64 0,.int .i64 0,.int .i64 0,.int .i64 0,.int .i64 0,.int .i64 0,.int .i64 0,.int .i64 0,.int .i64 0,.bool false,.int .i64 0,.int .i64 0,.int .i64 0,.int .i64 0,.slice none 0 0,.int .u8 0,.int .u8 0,.int .u8 0,.int .u8 0,.int .u8 0,.int .u8 0,.int .u8 0,.int .u8 0,.int .u8 0,.int .u8 0,.int .u8 0,.int .u8 0,.int .u8 0,.int .u8 0,.int .u8 0,.int .u8 0,.int .u8 0,.int .u8 0,.int .u8 0,.int .u8 0,.int .u8 0,.int .u8 0,.int .u8 0,.int .u8 0,.int .u8 0,.int .u8 0,.int .u8 0,.int .u8 0,.int .u8 0,.int .u8 0,.int .u8 0,.int .u8 0]⟩
theorem ty57_ok : TyOk Tryz.prog ty57:=⟨by kernel_rfl,by kernel_rfl⟩
def ty62 : Ty:=⟨62,.struct #[fd 3 0,fd 47 1,fd 3 14],15,184,.agg #[.int .i64 0,.int .i64 0,.int .i64 0,.int .i64 0,.int .i64 0,.int .i64 0,.int .i64 0,.int .i64 0,.int .i64 0,.int .i64 0,.slice none 0 0,.slice none 0 0,.slice none 0 0,.slice none 0 0,.int .i64 0]⟩
theorem ty62_ok : TyOk Tryz.prog ty62:=⟨by kernel_rfl,by kernel_rfl⟩
def ty66 : Ty:=⟨66,.slice 28,1,24,.slice none 0 0⟩
theorem ty66_ok : TyOk Tryz.prog ty66:=⟨by kernel_rfl,by kernel_rfl⟩
def ty68 : Ty:=⟨68,.array 3 3,3,24,.agg #[.int .i64 0,.int .i64 0,.int .i64 0]⟩
theorem ty68_ok : TyOk Tryz.prog ty68:=⟨by kernel_rfl,by kernel_rfl⟩
def ty69 : Ty:=⟨69,.slice 24,1,24,.slice none 0 0⟩
theorem ty69_ok : TyOk Tryz.prog ty69:=⟨by kernel_rfl,by kernel_rfl⟩
def ty79 : Ty:=⟨79,.func #[57] #[4] false,1,8,.nilFunc⟩
theorem ty79_ok : TyOk Tryz.prog ty79:=⟨by kernel_rfl,by kernel_rfl⟩
def ty81 : Ty:=⟨81,.func #[24,39,3] #[28,4] false,1,8,.nilFunc⟩
theorem ty81_ok : TyOk Tryz.prog ty81:=⟨by kernel_rfl,by kernel_rfl⟩
def ty82 : Ty:=⟨82,.map 3 81,1,8,.map none⟩
theorem ty82_ok : TyOk Tryz.prog ty82:=⟨by kernel_rfl,by kernel_rfl⟩
def ty87 : Ty:=⟨87,.array 2 4,2,2,.agg #[.bool false,.bool false]⟩
theorem ty87_ok : TyOk Tryz.prog ty87:=⟨by kernel_rfl,by kernel_rfl⟩
def ty93 : Ty:=⟨93,.func #[57,57] #[3] false,1,8,.nilFunc⟩
theorem ty93_ok : TyOk Tryz.prog ty93:=⟨by kernel_rfl,by kernel_rfl⟩
def ty95 : Ty:=⟨95,.array 2 57,164,1072,.agg #[.int .i64 0,.int .i64 0,.int .i64 0,.int .i64 0,.int .i64 0,.slice none 0 0,.string ByteArray.empty,.int .i64 0,.int .i64 0,.int .i64 0,.int .i64 0,.int .i64 0,.int .i64 0,.int .i64 0,.int .i64 0,.int .i64 0,.int .i64 0,.int .i64 0,.int .i64 0,.int .i64 0,.int .i64 0,.slice none 0 0,.slice none 0 0,.slice none 0 0,.slice none 0 0,.int .i64 0,.int .i64 0,.int .i64 0,.int .i64 0,.int .i64 0,.int .i64 0,.int .i64 0,.int .i64 0,.int .i64 0,.int .i64 0,.int .i64 0,.int .i64 0,.int .i64 0,.int .i64 0,.int .i64 0,.int .i64 0,.int .i64 0,.int .i64 0,.int .i64 0,.bool false,.int .i64 0,.int .i64 0,.int .i64 0,.int .i64 0,.slice none 0 0,.int .u8 0,.int .u8 0,.int .u8 0,.int .u8 0,.int .u8 0,.int .u8 0,.int .u8 0,.int .u8 0,.int .u8 0,.int .u8 0,.int .u8 0,.int .u8 0,.int .u8 0,.int .u8 0,.int .u8 0,.int .u8 0,.int .u8 0,.int .u8 0,.int .u8 0,.int .u8 0,.int .u8 0,.int .u8 0,.int .u8 0,.int .u8 0,.int .u8 0,.int .u8 0,.int .u8 0,.int .u8 0,.int .u8 0,.int .u8 0,.int .u8 0,.int .u8 0,.int .i64 0,.int .i64 0,.int .i64 0,.int .i64 0,.int .i64 0,.slice none 0 0,.string ByteArray.empty,.int .i64 0,.int .i64 0,.int .i64 0,.int .i64 0,.int .i64 0,.int .i64 0,.int .i64 0,.int .i64 0,.int .i64 0,.int .i64 0,.int .i64 0,.int .i64 0,.int .i64 0,.int .i64 0,.slice none 0 0,.slice none 0 0,.slice none 0 0,.slice none 0 0,.int .i64 0,.int .i64 0,.int .i64 0,.int .i64 0,.int .i64 0,.int .i64 0,.int .i64 0,.int .i64 0,.int .i64 0,.int .i64 0,.int .i64 0,.int .i64 0,.int .i64 0,.int .i64 0,.int .i64 0,.int .i64 0,.int .i64 0,.int .i64 0,.int .i64 0,.bool false,.int .i64 0,.int .i64 0,.int .i64 0,.int .i64 0,.slice none 0 0,.int .u8 0,.int .u8 0,.int .u8 0,.int .u8 0,.int .u8 0,.int .u8 0,.int .u8 0,.int .u8 0,.int .u8 0,.int .u8 0,.int .u8 0,.int .u8 0,.int .u8 0,.int .u8 0,.int .u8 0,.int .u8 0,.int .u8 0,.int .u8 0,.int .u8 0,.int .u8 0,.int .u8 0,.int .u8 0,.int .u8 0,.int .u8 0,.int .u8 0,.int .u8 0,.int .u8 0,.int .u8 0,.int .u8 0,.int .u8 0,.int .u8 0,.int .u8 0]⟩
theorem ty95_ok : TyOk Tryz.prog ty95:=⟨by kernel_rfl,by kernel_rfl⟩
def ty96 : Ty:=⟨96,.map 24 95,1,8,.map none⟩
theorem ty96_ok : TyOk Tryz.prog ty96:=⟨by kernel_rfl,by kernel_rfl⟩
def ty99 : Ty:=⟨99,.map 3 4,1,8,.map none⟩
theorem ty99_ok : TyOk Tryz.prog ty99:=⟨by kernel_rfl,by kernel_rfl⟩
def ty100 : Ty:=⟨100,.slice 103,1,24,.slice none 0 0⟩
theorem ty100_ok : TyOk Tryz.prog ty100:=⟨by kernel_rfl,by kernel_rfl⟩
def ty103 : Ty:=⟨103,.struct #[fd 3 0,fd 3 1,fd 24 2],6,48,.agg #[.int .i64 0,.int .i64 0,.int .i64 0,.int .i64 0,.int .i64 0,.int .i64 0]⟩
theorem ty103_ok : TyOk Tryz.prog ty103:=⟨by kernel_rfl,by kernel_rfl⟩
def ty105 : Ty:=⟨105,.struct #[fd 3 0,fd 3 1],2,16,.agg #[.int .i64 0,.int .i64 0]⟩
theorem ty105_ok : TyOk Tryz.prog ty105:=⟨by kernel_rfl,by kernel_rfl⟩
def ty110 : Ty:=⟨110,.func #[105] #[4] false,1,8,.nilFunc⟩
theorem ty110_ok : TyOk Tryz.prog ty110:=⟨by kernel_rfl,by kernel_rfl⟩
def ty112 : Ty:=⟨112,.struct #[fd 110 0,fd 110 1,fd 110 2],3,24,.agg #[.nilFunc,.nilFunc,.nilFunc]⟩
theorem ty112_ok : TyOk Tryz.prog ty112:=⟨by kernel_rfl,by kernel_rfl⟩
def ty120 : Ty:=⟨120,.func #[28,28] #[3] false,1,8,.nilFunc⟩
theorem ty120_ok : TyOk Tryz.prog ty120:=⟨by kernel_rfl,by kernel_rfl⟩
def ty122 : Ty:=⟨122,.func #[3] #[4] false,1,8,.nilFunc⟩
theorem ty122_ok : TyOk Tryz.prog ty122:=⟨by kernel_rfl,by kernel_rfl⟩
def ty128 : Ty:=⟨128,.struct #[fd 3 0,fd 4 1],2,16,.agg #[.int .i64 0,.bool false]⟩
theorem ty128_ok : TyOk Tryz.prog ty128:=⟨by kernel_rfl,by kernel_rfl⟩
def ty131 : Ty:=⟨131,.slice 133,1,24,.slice none 0 0⟩
theorem ty131_ok : TyOk Tryz.prog ty131:=⟨by kernel_rfl,by kernel_rfl⟩
def ty133 : Ty:=⟨133,.pointer 181,1,8,.pointer none⟩
theorem ty133_ok : TyOk Tryz.prog ty133:=⟨by kernel_rfl,by kernel_rfl⟩
def ty137 : Ty:=⟨137,.slice 5,1,24,.slice none 0 0⟩
theorem ty137_ok : TyOk Tryz.prog ty137:=⟨by kernel_rfl,by kernel_rfl⟩
def ty144 : Ty:=⟨144,.slice 62,1,24,.slice none 0 0⟩
theorem ty144_ok : TyOk Tryz.prog ty144:=⟨by kernel_rfl,by kernel_rfl⟩
def ty146 : Ty:=⟨146,.map 3 3,1,8,.map none⟩
theorem ty146_ok : TyOk Tryz.prog ty146:=⟨by kernel_rfl,by kernel_rfl⟩
def ty147 : Ty:=⟨147,.map 3 152,1,8,.map none⟩
theorem ty147_ok : TyOk Tryz.prog ty147:=⟨by kernel_rfl,by kernel_rfl⟩
def ty149 : Ty:=⟨149,.slice 105,1,24,.slice none 0 0⟩
theorem ty149_ok : TyOk Tryz.prog ty149:=⟨by kernel_rfl,by kernel_rfl⟩
def ty152 : Ty:=⟨152,.struct #[fd 3 0,fd 4 1],2,16,.agg #[.int .i64 0,.bool false]⟩
theorem ty152_ok : TyOk Tryz.prog ty152:=⟨by kernel_rfl,by kernel_rfl⟩
def ty154 : Ty:=⟨154,.func #[62] #[4] false,1,8,.nilFunc⟩
theorem ty154_ok : TyOk Tryz.prog ty154:=⟨by kernel_rfl,by kernel_rfl⟩
def ty156 : Ty:=⟨156,.slice 39,1,24,.slice none 0 0⟩
theorem ty156_ok : TyOk Tryz.prog ty156:=⟨by kernel_rfl,by kernel_rfl⟩
def ty158 : Ty:=⟨158,.func #[39] #[4] false,1,8,.nilFunc⟩
theorem ty158_ok : TyOk Tryz.prog ty158:=⟨by kernel_rfl,by kernel_rfl⟩
def ty159 : Ty:=⟨159,.map 24 4,1,8,.map none⟩
theorem ty159_ok : TyOk Tryz.prog ty159:=⟨by kernel_rfl,by kernel_rfl⟩
def ty162 : Ty:=⟨162,.int .u64,1,8,.int .u64 0⟩
theorem ty162_ok : TyOk Tryz.prog ty162:=⟨by kernel_rfl,by kernel_rfl⟩
def ty163 : Ty:=⟨163,.func #[57,169] #[] false,1,8,.nilFunc⟩
theorem ty163_ok : TyOk Tryz.prog ty163:=⟨by kernel_rfl,by kernel_rfl⟩
def ty165 : Ty:=⟨165,.struct #[fd 79 0,fd 163 1],2,16,.agg #[.nilFunc,.nilFunc]⟩
theorem ty165_ok : TyOk Tryz.prog ty165:=⟨by kernel_rfl,by kernel_rfl⟩
def ty167 : Ty:=⟨167,.map 3 165,1,8,.map none⟩
theorem ty167_ok : TyOk Tryz.prog ty167:=⟨by kernel_rfl,by kernel_rfl⟩
def ty169 : Ty:=⟨169,.pointer 57,1,8,.pointer none⟩
theorem ty169_ok : TyOk Tryz.prog ty169:=⟨by kernel_rfl,by kernel_rfl⟩
def ty170 : Ty:=⟨170,.func #[57,57] #[4] false,1,8,.nilFunc⟩
theorem ty170_ok : TyOk Tryz.prog ty170:=⟨by kernel_rfl,by kernel_rfl⟩
def ty178 : Ty:=⟨178,.map 3 133,1,8,.map none⟩
theorem ty178_ok : TyOk Tryz.prog ty178:=⟨by kernel_rfl,by kernel_rfl⟩
def ty179 : Ty:=⟨179,.array 4 4,4,4,.agg #[.bool false,.bool false,.bool false,.bool false]⟩
theorem ty179_ok : TyOk Tryz.prog ty179:=⟨by kernel_rfl,by kernel_rfl⟩
def ty181 : Ty:=⟨181,.struct #[fd 3 0,fd 22 1,fd 179 2],6,40,.agg #[.int .i64 0,.slice none 0 0,.bool false,.bool false,.bool false,.bool false]⟩
theorem ty181_ok : TyOk Tryz.prog ty181:=⟨by kernel_rfl,by kernel_rfl⟩
def ty185 : Ty:=⟨185,.func #[133,133] #[3] false,1,8,.nilFunc⟩
theorem ty185_ok : TyOk Tryz.prog ty185:=⟨by kernel_rfl,by kernel_rfl⟩
def ty186 : Ty:=⟨186,.slice 192,1,24,.slice none 0 0⟩
theorem ty186_ok : TyOk Tryz.prog ty186:=⟨by kernel_rfl,by kernel_rfl⟩
def ty190 : Ty:=⟨190,.slice 9,1,24,.slice none 0 0⟩
theorem ty190_ok : TyOk Tryz.prog ty190:=⟨by kernel_rfl,by kernel_rfl⟩
def ty192 : Ty:=⟨192,.struct #[fd 3 0,fd 3 1,fd 9 2,fd 186 3,fd 190 4],5,80,.agg #[.int .i64 0,.int .i64 0,.string ByteArray.empty,.slice none 0 0,.slice none 0 0]⟩
theorem ty192_ok : TyOk Tryz.prog ty192:=⟨by kernel_rfl,by kernel_rfl⟩
def ty198 : Ty:=⟨198,.func #[62,62] #[3] false,1,8,.nilFunc⟩
theorem ty198_ok : TyOk Tryz.prog ty198:=⟨by kernel_rfl,by kernel_rfl⟩
def ty201 : Ty:=⟨201,.func #[105,105] #[3] false,1,8,.nilFunc⟩
theorem ty201_ok : TyOk Tryz.prog ty201:=⟨by kernel_rfl,by kernel_rfl⟩
def ty204 : Ty:=⟨204,.int .i64,1,8,.int .i64 0⟩
theorem ty204_ok : TyOk Tryz.prog ty204:=⟨by kernel_rfl,by kernel_rfl⟩
def ty211 : Ty:=⟨211,.int .u32,1,4,.int .u32 0⟩
theorem ty211_ok : TyOk Tryz.prog ty211:=⟨by kernel_rfl,by kernel_rfl⟩
def ty213 : Ty:=⟨213,.int .u64,1,8,.int .u64 0⟩
theorem ty213_ok : TyOk Tryz.prog ty213:=⟨by kernel_rfl,by kernel_rfl⟩
def ty226 : Ty:=⟨226,.func #[133,133] #[4] false,1,8,.nilFunc⟩
theorem ty226_ok : TyOk Tryz.prog ty226:=⟨by kernel_rfl,by kernel_rfl⟩
def ty227 : Ty:=⟨227,.func #[192] #[4] false,1,8,.nilFunc⟩
theorem ty227_ok : TyOk Tryz.prog ty227:=⟨by kernel_rfl,by kernel_rfl⟩
def ty235 : Ty:=⟨235,.func #[137,192] #[137] false,1,8,.nilFunc⟩
theorem ty235_ok : TyOk Tryz.prog ty235:=⟨by kernel_rfl,by kernel_rfl⟩
def ty237 : Ty:=⟨237,.struct #[fd 235 0],1,8,.agg #[.nilFunc]⟩
theorem ty237_ok : TyOk Tryz.prog ty237:=⟨by kernel_rfl,by kernel_rfl⟩
def ty238 : Ty:=⟨238,.pointer 272,1,8,.pointer none⟩
theorem ty238_ok : TyOk Tryz.prog ty238:=⟨by kernel_rfl,by kernel_rfl⟩
def ty241 : Ty:=⟨241,.func #[24,24] #[3] false,1,8,.nilFunc⟩
theorem ty241_ok : TyOk Tryz.prog ty241:=⟨by kernel_rfl,by kernel_rfl⟩
def ty242 : Ty:=⟨242,.func #[24,95] #[4] false,1,8,.nilFunc⟩
theorem ty242_ok : TyOk Tryz.prog ty242:=⟨by kernel_rfl,by kernel_rfl⟩
def ty244 : Ty:=⟨244,.slice 45,1,24,.slice none 0 0⟩
theorem ty244_ok : TyOk Tryz.prog ty244:=⟨by kernel_rfl,by kernel_rfl⟩
def ty247 : Ty:=⟨247,.int .u64,1,8,.int .u64 0⟩
theorem ty247_ok : TyOk Tryz.prog ty247:=⟨by kernel_rfl,by kernel_rfl⟩
def ty251 : Ty:=⟨251,.pointer 3,1,8,.pointer none⟩
theorem ty251_ok : TyOk Tryz.prog ty251:=⟨by kernel_rfl,by kernel_rfl⟩
def ty257 : Ty:=⟨257,.func #[39,263] #[] false,1,8,.nilFunc⟩
theorem ty257_ok : TyOk Tryz.prog ty257:=⟨by kernel_rfl,by kernel_rfl⟩
def ty259 : Ty:=⟨259,.struct #[fd 158 0,fd 257 1],2,16,.agg #[.nilFunc,.nilFunc]⟩
theorem ty259_ok : TyOk Tryz.prog ty259:=⟨by kernel_rfl,by kernel_rfl⟩
def ty261 : Ty:=⟨261,.map 3 259,1,8,.map none⟩
theorem ty261_ok : TyOk Tryz.prog ty261:=⟨by kernel_rfl,by kernel_rfl⟩
def ty263 : Ty:=⟨263,.pointer 39,1,8,.pointer none⟩
theorem ty263_ok : TyOk Tryz.prog ty263:=⟨by kernel_rfl,by kernel_rfl⟩
def ty272 : Ty:=⟨272,.array 5 237,5,40,.agg #[.nilFunc,.nilFunc,.nilFunc,.nilFunc,.nilFunc]⟩
theorem ty272_ok : TyOk Tryz.prog ty272:=⟨by kernel_rfl,by kernel_rfl⟩
def ty290 : Ty:=⟨290,.func #[128] #[4] false,1,8,.nilFunc⟩
theorem ty290_ok : TyOk Tryz.prog ty290:=⟨by kernel_rfl,by kernel_rfl⟩
def ty322 : Ty:=⟨322,.array 5 4,5,5,.agg #[.bool false,.bool false,.bool false,.bool false,.bool false]⟩
theorem ty322_ok : TyOk Tryz.prog ty322:=⟨by kernel_rfl,by kernel_rfl⟩
def ty334 : Ty:=⟨334,.array 24 5,24,24,.agg #[.int .u8 0,.int .u8 0,.int .u8 0,.int .u8 0,.int .u8 0,.int .u8 0,.int .u8 0,.int .u8 0,.int .u8 0,.int .u8 0,.int .u8 0,.int .u8 0,.int .u8 0,.int .u8 0,.int .u8 0,.int .u8 0,.int .u8 0,.int .u8 0,.int .u8 0,.int .u8 0,.int .u8 0,.int .u8 0,.int .u8 0,.int .u8 0]⟩
theorem ty334_ok : TyOk Tryz.prog ty334:=⟨by kernel_rfl,by kernel_rfl⟩
def ty341 : Ty:=⟨341,.array 20 213,20,160,.agg #[.int .u64 0,.int .u64 0,.int .u64 0,.int .u64 0,.int .u64 0,.int .u64 0,.int .u64 0,.int .u64 0,.int .u64 0,.int .u64 0,.int .u64 0,.int .u64 0,.int .u64 0,.int .u64 0,.int .u64 0,.int .u64 0,.int .u64 0,.int .u64 0,.int .u64 0,.int .u64 0]⟩
theorem ty341_ok : TyOk Tryz.prog ty341:=⟨by kernel_rfl,by kernel_rfl⟩
def ty342 : Ty:=⟨342,.array 65 5,65,65,.agg #[.int .u8 0,.int .u8 0,.int .u8 0,.int .u8 0,.int .u8 0,.int .u8 0,.int .u8 0,.int .u8 0,.int .u8 0,.int .u8 0,.int .u8 0,.int .u8 0,.int .u8 0,.int .u8 0,.int .u8 0,.int .u8 0,.int .u8 0,.int .u8 0,.int .u8 0,.int .u8 0,.int .u8 0,.int .u8 0,.int .u8 0,.int .u8 0,.int .u8 0,.int .u8 0,.int .u8 0,.int .u8 0,.int .u8 0,.int .u8 0,.int .u8 0,.int .u8 0,.int .u8 0,.int .u8 0,.int .u8 0,.int .u8 0,.int .u8 0,.int .u8 0,.int .u8 0,.int .u8 0,.int .u8 0,.int .u8 0,.int .u8 0,.int .u8 0,.int .u8 0,.int .u8 0,.int .u8 0,.int .u8 0,.int .u8 0,.int .u8 0,.int .u8 0,.int .u8 0,.int .u8 0,.int .u8 0,.int .u8 0,.int .u8 0,.int .u8 0,.int .u8 0,.int .u8 0,.int .u8 0,.int .u8 0,.int .u8 0,.int .u8 0,.int .u8 0,.int .u8 0]⟩
theorem ty342_ok : TyOk Tryz.prog ty342:=⟨by kernel_rfl,by kernel_rfl⟩
def ty344 : Ty:=⟨344,.array 64 5,64,64,.agg #[.int .u8 0,.int .u8 0,.int .u8 0,.int .u8 0,.int .u8 0,.int .u8 0,.int .u8 0,.int .u8 0,.int .u8 0,.int .u8 0,.int .u8 0,.int .u8 0,.int .u8 0,.int .u8 0,.int .u8 0,.int .u8 0,.int .u8 0,.int .u8 0,.int .u8 0,.int .u8 0,.int .u8 0,.int .u8 0,.int .u8 0,.int .u8 0,.int .u8 0,.int .u8 0,.int .u8 0,.int .u8 0,.int .u8 0,.int .u8 0,.int .u8 0,.int .u8 0,.int .u8 0,.int .u8 0,.int .u8 0,.int .u8 0,.int .u8 0,.int .u8 0,.int .u8 0,.int .u8 0,.int .u8 0,.int .u8 0,.int .u8 0,.int .u8 0,.int .u8 0,.int .u8 0,.int .u8 0,.int .u8 0,.int .u8 0,.int .u8 0,.int .u8 0,.int .u8 0,.int .u8 0,.int .u8 0,.int .u8 0,.int .u8 0,.int .u8 0,.int .u8 0,.int .u8 0,.int .u8 0,.int .u8 0,.int .u8 0,.int .u8 0,.int .u8 0]⟩
theorem ty344_ok : TyOk Tryz.prog ty344:=⟨by kernel_rfl,by kernel_rfl⟩
def ts : List Ty:=[ty2,ty3,ty4,ty5,ty9,ty22,ty24,ty28,ty32,ty37,ty39,ty40,ty42,ty44,ty45,ty47,ty49,ty51,ty53,ty54,ty55,ty57,ty62,ty66,ty68,ty69,ty79,ty81,ty82,ty87,ty93,ty95,ty96,ty99,ty100,ty103,ty105,ty110,ty112,ty120,ty122,ty128,ty131,ty133,ty137,ty144,ty146,ty147,ty149,ty152,ty154,ty156,ty158,ty159,ty162,ty163,ty165,ty167,ty169,ty170,ty178,ty179,ty181,ty185,ty186,ty190,ty192,ty198,ty201,ty204,ty211,ty213,ty226,ty227,ty235,ty237,ty238,ty241,ty242,ty244,ty247,ty251,ty257,ty259,ty261,ty263,ty272,ty290,ty322,ty334,ty341,ty342,ty344]
theorem ts_ok : TsOk Tryz.prog ts:=by
  intro t ht
  simp only [ts,List.mem_cons,List.not_mem_nil,or_false] at ht
  rcases ht with rfl|rfl|rfl|rfl|rfl|rfl|rfl|rfl|rfl|rfl|rfl|rfl|rfl|rfl|rfl|rfl|rfl|rfl|rfl|rfl|rfl|rfl|rfl|rfl|rfl|rfl|rfl|rfl|rfl|rfl|rfl|rfl|rfl|rfl|rfl|rfl|rfl|rfl|rfl|rfl|rfl|rfl|rfl|rfl|rfl|rfl|rfl|rfl|rfl|rfl|rfl|rfl|rfl|rfl|rfl|rfl|rfl|rfl|rfl|rfl|rfl|rfl|rfl|rfl|rfl|rfl|rfl|rfl|rfl|rfl|rfl|rfl|rfl|rfl|rfl|rfl|rfl|rfl|rfl|rfl|rfl|rfl|rfl|rfl|rfl|rfl|rfl|rfl|rfl|rfl|rfl|rfl|rfl
  · exact ty2_ok
  · exact ty3_ok
  · exact ty4_ok
  · exact ty5_ok
  · exact ty9_ok
  · exact ty22_ok
  · exact ty24_ok
  · exact ty28_ok
  · exact ty32_ok
  · exact ty37_ok
  · exact ty39_ok
  · exact ty40_ok
  · exact ty42_ok
  · exact ty44_ok
  · exact ty45_ok
  · exact ty47_ok
  · exact ty49_ok
  · exact ty51_ok
  · exact ty53_ok
  · exact ty54_ok
  · exact ty55_ok
  · exact ty57_ok
  · exact ty62_ok
  · exact ty66_ok
  · exact ty68_ok
  · exact ty69_ok
  · exact ty79_ok
  · exact ty81_ok
  · exact ty82_ok
  · exact ty87_ok
  · exact ty93_ok
  · exact ty95_ok
  · exact ty96_ok
  · exact ty99_ok
  · exact ty100_ok
  · exact ty103_ok
  · exact ty105_ok
  · exact ty110_ok
  · exact ty112_ok
  · exact ty120_ok
  · exact ty122_ok
  · exact ty128_ok
  · exact ty131_ok
  · exact ty133_ok
  · exact ty137_ok
  · exact ty144_ok
  · exact ty146_ok
  · exact ty147_ok
  · exact ty149_ok
  · exact ty152_ok
  · exact ty154_ok
  · exact ty156_ok
  · exact ty158_ok
  · exact ty159_ok
  · exact ty162_ok
  · exact ty163_ok
  · exact ty165_ok
  · exact ty167_ok
  · exact ty169_ok
  · exact ty170_ok
  · exact ty178_ok
  · exact ty179_ok
  · exact ty181_ok
  · exact ty185_ok
  · exact ty186_ok
  · exact ty190_ok
  · exact ty192_ok
  · exact ty198_ok
  · exact ty201_ok
  · exact ty204_ok
  · exact ty211_ok
  · exact ty213_ok
  · exact ty226_ok
  · exact ty227_ok
  · exact ty235_ok
  · exact ty237_ok
  · exact ty238_ok
  · exact ty241_ok
  · exact ty242_ok
  · exact ty244_ok
  · exact ty247_ok
  · exact ty251_ok
  · exact ty257_ok
  · exact ty259_ok
  · exact ty261_ok
  · exact ty263_ok
  · exact ty272_ok
  · exact ty290_ok
  · exact ty322_ok
  · exact ty334_ok
  · exact ty341_ok
  · exact ty342_ok
  · exact ty344_ok
theorem has8 : Has Tryz.prog 8:=⟨_,Go.Proofs.Tryz.func8,by kernel_rfl,by kernel_rfl⟩
theorem has9 : Has Tryz.prog 9:=⟨_,Go.Proofs.Tryz.func9,by kernel_rfl,by kernel_rfl⟩
theorem has10 : Has Tryz.prog 10:=⟨_,Go.Proofs.Tryz.func10,by kernel_rfl,by kernel_rfl⟩
theorem has12 : Has Tryz.prog 12:=⟨_,Go.Proofs.Tryz.func12,by kernel_rfl,by kernel_rfl⟩
theorem has13 : Has Tryz.prog 13:=⟨_,Go.Proofs.Tryz.func13,by kernel_rfl,by kernel_rfl⟩
theorem has14 : Has Tryz.prog 14:=⟨_,Go.Proofs.Tryz.func14,by kernel_rfl,by kernel_rfl⟩
theorem has15 : Has Tryz.prog 15:=⟨_,Go.Proofs.Tryz.func15,by kernel_rfl,by kernel_rfl⟩
theorem has16 : Has Tryz.prog 16:=⟨_,Go.Proofs.Tryz.func16,by kernel_rfl,by kernel_rfl⟩
theorem has17 : Has Tryz.prog 17:=⟨_,Go.Proofs.Tryz.func17,by kernel_rfl,by kernel_rfl⟩
theorem has18 : Has Tryz.prog 18:=⟨_,Go.Proofs.Tryz.func18,by kernel_rfl,by kernel_rfl⟩
theorem has19 : Has Tryz.prog 19:=⟨_,Go.Proofs.Tryz.func19,by kernel_rfl,by kernel_rfl⟩
theorem has20 : Has Tryz.prog 20:=⟨_,Go.Proofs.Tryz.func20,by kernel_rfl,by kernel_rfl⟩
theorem has21 : Has Tryz.prog 21:=⟨_,Go.Proofs.Tryz.func21,by kernel_rfl,by kernel_rfl⟩
theorem has22 : Has Tryz.prog 22:=⟨_,Go.Proofs.Tryz.func22,by kernel_rfl,by kernel_rfl⟩
theorem has23 : Has Tryz.prog 23:=⟨_,Go.Proofs.Tryz.func23,by kernel_rfl,by kernel_rfl⟩
theorem has24 : Has Tryz.prog 24:=⟨_,Go.Proofs.Tryz.func24,by kernel_rfl,by kernel_rfl⟩
theorem has25 : Has Tryz.prog 25:=⟨_,Go.Proofs.Tryz.func25,by kernel_rfl,by kernel_rfl⟩
theorem has26 : Has Tryz.prog 26:=⟨_,Go.Proofs.Tryz.func26,by kernel_rfl,by kernel_rfl⟩
theorem has27 : Has Tryz.prog 27:=⟨_,Go.Proofs.Tryz.func27,by kernel_rfl,by kernel_rfl⟩
theorem has28 : Has Tryz.prog 28:=⟨_,Go.Proofs.Tryz.func28,by kernel_rfl,by kernel_rfl⟩
theorem has34 : Has Tryz.prog 34:=⟨_,Go.Proofs.Tryz.func34,by kernel_rfl,by kernel_rfl⟩
theorem has35 : Has Tryz.prog 35:=⟨_,Go.Proofs.Tryz.func35,by kernel_rfl,by kernel_rfl⟩
theorem has36 : Has Tryz.prog 36:=⟨_,Go.Proofs.Tryz.func36,by kernel_rfl,by kernel_rfl⟩
theorem has37 : Has Tryz.prog 37:=⟨_,Go.Proofs.Tryz.func37,by kernel_rfl,by kernel_rfl⟩
theorem has38 : Has Tryz.prog 38:=⟨_,Go.Proofs.Tryz.func38,by kernel_rfl,by kernel_rfl⟩
theorem has39 : Has Tryz.prog 39:=⟨_,Go.Proofs.Tryz.func39,by kernel_rfl,by kernel_rfl⟩
theorem has40 : Has Tryz.prog 40:=⟨_,Go.Proofs.Tryz.func40,by kernel_rfl,by kernel_rfl⟩
theorem has41 : Has Tryz.prog 41:=⟨_,Go.Proofs.Tryz.func41,by kernel_rfl,by kernel_rfl⟩
theorem has42 : Has Tryz.prog 42:=⟨_,Go.Proofs.Tryz.func42,by kernel_rfl,by kernel_rfl⟩
theorem has43 : Has Tryz.prog 43:=⟨_,Go.Proofs.Tryz.func43,by kernel_rfl,by kernel_rfl⟩
theorem has44 : Has Tryz.prog 44:=⟨_,Go.Proofs.Tryz.func44,by kernel_rfl,by kernel_rfl⟩
theorem has45 : Has Tryz.prog 45:=⟨_,Go.Proofs.Tryz.func45,by kernel_rfl,by kernel_rfl⟩
theorem has46 : Has Tryz.prog 46:=⟨_,Go.Proofs.Tryz.func46,by kernel_rfl,by kernel_rfl⟩
theorem has47 : Has Tryz.prog 47:=⟨_,Go.Proofs.Tryz.func47,by kernel_rfl,by kernel_rfl⟩
theorem has48 : Has Tryz.prog 48:=⟨_,Go.Proofs.Tryz.func48,by kernel_rfl,by kernel_rfl⟩
theorem has49 : Has Tryz.prog 49:=⟨_,Go.Proofs.Tryz.func49,by kernel_rfl,by kernel_rfl⟩
theorem has50 : Has Tryz.prog 50:=⟨_,Go.Proofs.Tryz.func50,by kernel_rfl,by kernel_rfl⟩
theorem has51 : Has Tryz.prog 51:=⟨_,Go.Proofs.Tryz.func51,by kernel_rfl,by kernel_rfl⟩
theorem has52 : Has Tryz.prog 52:=⟨_,Go.Proofs.Tryz.func52,by kernel_rfl,by kernel_rfl⟩
theorem has53 : Has Tryz.prog 53:=⟨_,Go.Proofs.Tryz.func53,by kernel_rfl,by kernel_rfl⟩
theorem has54 : Has Tryz.prog 54:=⟨_,Go.Proofs.Tryz.func54,by kernel_rfl,by kernel_rfl⟩
theorem has56 : Has Tryz.prog 56:=⟨_,Go.Proofs.Tryz.func56,by kernel_rfl,by kernel_rfl⟩
theorem has57 : Has Tryz.prog 57:=⟨_,Go.Proofs.Tryz.func57,by kernel_rfl,by kernel_rfl⟩
theorem has58 : Has Tryz.prog 58:=⟨_,Go.Proofs.Tryz.func58,by kernel_rfl,by kernel_rfl⟩
theorem has59 : Has Tryz.prog 59:=⟨_,Go.Proofs.Tryz.func59,by kernel_rfl,by kernel_rfl⟩
theorem has60 : Has Tryz.prog 60:=⟨_,Go.Proofs.Tryz.func60,by kernel_rfl,by kernel_rfl⟩
theorem has61 : Has Tryz.prog 61:=⟨_,Go.Proofs.Tryz.func61,by kernel_rfl,by kernel_rfl⟩
theorem has62 : Has Tryz.prog 62:=⟨_,Go.Proofs.Tryz.func62,by kernel_rfl,by kernel_rfl⟩
theorem has63 : Has Tryz.prog 63:=⟨_,Go.Proofs.Tryz.func63,by kernel_rfl,by kernel_rfl⟩
theorem has64 : Has Tryz.prog 64:=⟨_,Go.Proofs.Tryz.func64,by kernel_rfl,by kernel_rfl⟩
theorem has65 : Has Tryz.prog 65:=⟨_,Go.Proofs.Tryz.func65,by kernel_rfl,by kernel_rfl⟩
theorem has71 : Has Tryz.prog 71:=⟨_,Go.Proofs.Tryz.func71,by kernel_rfl,by kernel_rfl⟩
theorem has72 : Has Tryz.prog 72:=⟨_,Go.Proofs.Tryz.func72,by kernel_rfl,by kernel_rfl⟩
theorem has73 : Has Tryz.prog 73:=⟨_,Go.Proofs.Tryz.func73,by kernel_rfl,by kernel_rfl⟩
theorem has74 : Has Tryz.prog 74:=⟨_,Go.Proofs.Tryz.func74,by kernel_rfl,by kernel_rfl⟩
theorem has75 : Has Tryz.prog 75:=⟨_,Go.Proofs.Tryz.func75,by kernel_rfl,by kernel_rfl⟩
theorem has76 : Has Tryz.prog 76:=⟨_,Go.Proofs.Tryz.func76,by kernel_rfl,by kernel_rfl⟩
theorem has77 : Has Tryz.prog 77:=⟨_,Go.Proofs.Tryz.func77,by kernel_rfl,by kernel_rfl⟩
theorem has78 : Has Tryz.prog 78:=⟨_,Go.Proofs.Tryz.func78,by kernel_rfl,by kernel_rfl⟩
theorem has79 : Has Tryz.prog 79:=⟨_,Go.Proofs.Tryz.func79,by kernel_rfl,by kernel_rfl⟩
theorem has80 : Has Tryz.prog 80:=⟨_,Go.Proofs.Tryz.func80,by kernel_rfl,by kernel_rfl⟩
theorem has81 : Has Tryz.prog 81:=⟨_,Go.Proofs.Tryz.func81,by kernel_rfl,by kernel_rfl⟩
theorem has82 : Has Tryz.prog 82:=⟨_,Go.Proofs.Tryz.func82,by kernel_rfl,by kernel_rfl⟩
theorem has83 : Has Tryz.prog 83:=⟨_,Go.Proofs.Tryz.func83,by kernel_rfl,by kernel_rfl⟩
theorem has84 : Has Tryz.prog 84:=⟨_,Go.Proofs.Tryz.func84,by kernel_rfl,by kernel_rfl⟩
theorem has85 : Has Tryz.prog 85:=⟨_,Go.Proofs.Tryz.func85,by kernel_rfl,by kernel_rfl⟩
theorem has86 : Has Tryz.prog 86:=⟨_,Go.Proofs.Tryz.func86,by kernel_rfl,by kernel_rfl⟩
theorem has87 : Has Tryz.prog 87:=⟨_,Go.Proofs.Tryz.func87,by kernel_rfl,by kernel_rfl⟩
theorem has88 : Has Tryz.prog 88:=⟨_,Go.Proofs.Tryz.func88,by kernel_rfl,by kernel_rfl⟩
theorem has89 : Has Tryz.prog 89:=⟨_,Go.Proofs.Tryz.func89,by kernel_rfl,by kernel_rfl⟩
theorem has90 : Has Tryz.prog 90:=⟨_,Go.Proofs.Tryz.func90,by kernel_rfl,by kernel_rfl⟩
theorem has91 : Has Tryz.prog 91:=⟨_,Go.Proofs.Tryz.func91,by kernel_rfl,by kernel_rfl⟩
theorem has92 : Has Tryz.prog 92:=⟨_,Go.Proofs.Tryz.func92,by kernel_rfl,by kernel_rfl⟩
theorem has93 : Has Tryz.prog 93:=⟨_,Go.Proofs.Tryz.func93,by kernel_rfl,by kernel_rfl⟩
theorem has94 : Has Tryz.prog 94:=⟨_,Go.Proofs.Tryz.func94,by kernel_rfl,by kernel_rfl⟩
theorem has95 : Has Tryz.prog 95:=⟨_,Go.Proofs.Tryz.func95,by kernel_rfl,by kernel_rfl⟩
theorem has98 : Has Tryz.prog 98:=⟨_,Go.Proofs.Tryz.func98,by kernel_rfl,by kernel_rfl⟩
theorem has99 : Has Tryz.prog 99:=⟨_,Go.Proofs.Tryz.func99,by kernel_rfl,by kernel_rfl⟩
theorem has100 : Has Tryz.prog 100:=⟨_,Go.Proofs.Tryz.func100,by kernel_rfl,by kernel_rfl⟩
theorem has101 : Has Tryz.prog 101:=⟨_,Go.Proofs.Tryz.func101,by kernel_rfl,by kernel_rfl⟩
theorem has102 : Has Tryz.prog 102:=⟨_,Go.Proofs.Tryz.func102,by kernel_rfl,by kernel_rfl⟩
theorem has116 : Has Tryz.prog 116:=⟨_,Go.Proofs.Tryz.func116,by kernel_rfl,by kernel_rfl⟩
theorem has117 : Has Tryz.prog 117:=⟨_,Go.Proofs.Tryz.func117,by kernel_rfl,by kernel_rfl⟩
theorem has118 : Has Tryz.prog 118:=⟨_,Go.Proofs.Tryz.func118,by kernel_rfl,by kernel_rfl⟩
theorem has119 : Has Tryz.prog 119:=⟨_,Go.Proofs.Tryz.func119,by kernel_rfl,by kernel_rfl⟩
theorem has120 : Has Tryz.prog 120:=⟨_,Go.Proofs.Tryz.func120,by kernel_rfl,by kernel_rfl⟩
theorem has121 : Has Tryz.prog 121:=⟨_,Go.Proofs.Tryz.func121,by kernel_rfl,by kernel_rfl⟩
theorem has122 : Has Tryz.prog 122:=⟨_,Go.Proofs.Tryz.func122,by kernel_rfl,by kernel_rfl⟩
theorem has123 : Has Tryz.prog 123:=⟨_,Go.Proofs.Tryz.func123,by kernel_rfl,by kernel_rfl⟩
theorem has124 : Has Tryz.prog 124:=⟨_,Go.Proofs.Tryz.func124,by kernel_rfl,by kernel_rfl⟩
theorem has125 : Has Tryz.prog 125:=⟨_,Go.Proofs.Tryz.func125,by kernel_rfl,by kernel_rfl⟩
theorem has126 : Has Tryz.prog 126:=⟨_,Go.Proofs.Tryz.func126,by kernel_rfl,by kernel_rfl⟩
theorem has128 : Has Tryz.prog 128:=⟨_,Go.Proofs.Tryz.func128,by kernel_rfl,by kernel_rfl⟩
theorem has129 : Has Tryz.prog 129:=⟨_,Go.Proofs.Tryz.func129,by kernel_rfl,by kernel_rfl⟩
theorem has130 : Has Tryz.prog 130:=⟨_,Go.Proofs.Tryz.func130,by kernel_rfl,by kernel_rfl⟩
theorem has131 : Has Tryz.prog 131:=⟨_,Go.Proofs.Tryz.func131,by kernel_rfl,by kernel_rfl⟩
theorem has132 : Has Tryz.prog 132:=⟨_,Go.Proofs.Tryz.func132,by kernel_rfl,by kernel_rfl⟩
theorem has134 : Has Tryz.prog 134:=⟨_,Go.Proofs.Tryz.func134,by kernel_rfl,by kernel_rfl⟩
theorem has135 : Has Tryz.prog 135:=⟨_,Go.Proofs.Tryz.func135,by kernel_rfl,by kernel_rfl⟩
theorem has137 : Has Tryz.prog 137:=⟨_,Go.Proofs.Tryz.func137,by kernel_rfl,by kernel_rfl⟩
theorem has148 : Has Tryz.prog 148:=⟨_,Go.Proofs.Tryz.func148,by kernel_rfl,by kernel_rfl⟩
theorem has149 : Has Tryz.prog 149:=⟨_,Go.Proofs.Tryz.func149,by kernel_rfl,by kernel_rfl⟩
theorem has150 : Has Tryz.prog 150:=⟨_,Go.Proofs.Tryz.func150,by kernel_rfl,by kernel_rfl⟩
theorem has151 : Has Tryz.prog 151:=⟨_,Go.Proofs.Tryz.func151,by kernel_rfl,by kernel_rfl⟩
theorem has152 : Has Tryz.prog 152:=⟨_,Go.Proofs.Tryz.func152,by kernel_rfl,by kernel_rfl⟩
theorem has153 : Has Tryz.prog 153:=⟨_,Go.Proofs.Tryz.func153,by kernel_rfl,by kernel_rfl⟩
theorem has154 : Has Tryz.prog 154:=⟨_,Go.Proofs.Tryz.func154,by kernel_rfl,by kernel_rfl⟩
theorem has155 : Has Tryz.prog 155:=⟨_,Go.Proofs.Tryz.func155,by kernel_rfl,by kernel_rfl⟩
theorem has156 : Has Tryz.prog 156:=⟨_,Go.Proofs.Tryz.func156,by kernel_rfl,by kernel_rfl⟩
theorem has157 : Has Tryz.prog 157:=⟨_,Go.Proofs.Tryz.func157,by kernel_rfl,by kernel_rfl⟩
theorem has158 : Has Tryz.prog 158:=⟨_,Go.Proofs.Tryz.func158,by kernel_rfl,by kernel_rfl⟩
theorem has159 : Has Tryz.prog 159:=⟨_,Go.Proofs.Tryz.func159,by kernel_rfl,by kernel_rfl⟩
theorem has160 : Has Tryz.prog 160:=⟨_,Go.Proofs.Tryz.func160,by kernel_rfl,by kernel_rfl⟩
theorem has161 : Has Tryz.prog 161:=⟨_,Go.Proofs.Tryz.func161,by kernel_rfl,by kernel_rfl⟩
theorem has162 : Has Tryz.prog 162:=⟨_,Go.Proofs.Tryz.func162,by kernel_rfl,by kernel_rfl⟩
theorem has163 : Has Tryz.prog 163:=⟨_,Go.Proofs.Tryz.func163,by kernel_rfl,by kernel_rfl⟩
theorem has164 : Has Tryz.prog 164:=⟨_,Go.Proofs.Tryz.func164,by kernel_rfl,by kernel_rfl⟩
theorem has165 : Has Tryz.prog 165:=⟨_,Go.Proofs.Tryz.func165,by kernel_rfl,by kernel_rfl⟩
theorem has166 : Has Tryz.prog 166:=⟨_,Go.Proofs.Tryz.func166,by kernel_rfl,by kernel_rfl⟩
theorem has167 : Has Tryz.prog 167:=⟨_,Go.Proofs.Tryz.func167,by kernel_rfl,by kernel_rfl⟩
theorem has168 : Has Tryz.prog 168:=⟨_,Go.Proofs.Tryz.func168,by kernel_rfl,by kernel_rfl⟩
theorem has179 : Has Tryz.prog 179:=⟨_,Go.Proofs.Tryz.func179,by kernel_rfl,by kernel_rfl⟩
theorem has180 : Has Tryz.prog 180:=⟨_,Go.Proofs.Tryz.func180,by kernel_rfl,by kernel_rfl⟩
theorem has181 : Has Tryz.prog 181:=⟨_,Go.Proofs.Tryz.func181,by kernel_rfl,by kernel_rfl⟩
theorem has182 : Has Tryz.prog 182:=⟨_,Go.Proofs.Tryz.func182,by kernel_rfl,by kernel_rfl⟩
theorem has183 : Has Tryz.prog 183:=⟨_,Go.Proofs.Tryz.func183,by kernel_rfl,by kernel_rfl⟩
theorem has184 : Has Tryz.prog 184:=⟨_,Go.Proofs.Tryz.func184,by kernel_rfl,by kernel_rfl⟩
theorem has185 : Has Tryz.prog 185:=⟨_,Go.Proofs.Tryz.func185,by kernel_rfl,by kernel_rfl⟩
theorem has186 : Has Tryz.prog 186:=⟨_,Go.Proofs.Tryz.func186,by kernel_rfl,by kernel_rfl⟩
theorem has187 : Has Tryz.prog 187:=⟨_,Go.Proofs.Tryz.func187,by kernel_rfl,by kernel_rfl⟩
theorem has188 : Has Tryz.prog 188:=⟨_,Go.Proofs.Tryz.func188,by kernel_rfl,by kernel_rfl⟩
theorem has189 : Has Tryz.prog 189:=⟨_,Go.Proofs.Tryz.func189,by kernel_rfl,by kernel_rfl⟩
theorem has190 : Has Tryz.prog 190:=⟨_,Go.Proofs.Tryz.func190,by kernel_rfl,by kernel_rfl⟩
theorem has191 : Has Tryz.prog 191:=⟨_,Go.Proofs.Tryz.func191,by kernel_rfl,by kernel_rfl⟩
theorem has192 : Has Tryz.prog 192:=⟨_,Go.Proofs.Tryz.func192,by kernel_rfl,by kernel_rfl⟩
theorem has193 : Has Tryz.prog 193:=⟨_,Go.Proofs.Tryz.func193,by kernel_rfl,by kernel_rfl⟩
theorem has194 : Has Tryz.prog 194:=⟨_,Go.Proofs.Tryz.func194,by kernel_rfl,by kernel_rfl⟩
theorem has195 : Has Tryz.prog 195:=⟨_,Go.Proofs.Tryz.func195,by kernel_rfl,by kernel_rfl⟩
theorem has196 : Has Tryz.prog 196:=⟨_,Go.Proofs.Tryz.func196,by kernel_rfl,by kernel_rfl⟩
theorem has198 : Has Tryz.prog 198:=⟨_,Go.Proofs.Tryz.func198,by kernel_rfl,by kernel_rfl⟩
theorem has200 : Has Tryz.prog 200:=⟨_,Go.Proofs.Tryz.func200,by kernel_rfl,by kernel_rfl⟩
theorem has207 : Has Tryz.prog 207:=⟨_,Go.Proofs.Tryz.func207,by kernel_rfl,by kernel_rfl⟩
theorem has208 : Has Tryz.prog 208:=⟨_,Go.Proofs.Tryz.func208,by kernel_rfl,by kernel_rfl⟩
theorem has209 : Has Tryz.prog 209:=⟨_,Go.Proofs.Tryz.func209,by kernel_rfl,by kernel_rfl⟩
theorem has210 : Has Tryz.prog 210:=⟨_,Go.Proofs.Tryz.func210,by kernel_rfl,by kernel_rfl⟩
theorem has211 : Has Tryz.prog 211:=⟨_,Go.Proofs.Tryz.func211,by kernel_rfl,by kernel_rfl⟩
theorem has212 : Has Tryz.prog 212:=⟨_,Go.Proofs.Tryz.func212,by kernel_rfl,by kernel_rfl⟩
theorem has213 : Has Tryz.prog 213:=⟨_,Go.Proofs.Tryz.func213,by kernel_rfl,by kernel_rfl⟩
theorem has214 : Has Tryz.prog 214:=⟨_,Go.Proofs.Tryz.func214,by kernel_rfl,by kernel_rfl⟩
theorem has215 : Has Tryz.prog 215:=⟨_,Go.Proofs.Tryz.func215,by kernel_rfl,by kernel_rfl⟩
theorem has233 : Has Tryz.prog 233:=⟨_,Go.Proofs.Tryz.func233,by kernel_rfl,by kernel_rfl⟩
theorem has234 : Has Tryz.prog 234:=⟨_,Go.Proofs.Tryz.func234,by kernel_rfl,by kernel_rfl⟩
theorem has235 : Has Tryz.prog 235:=⟨_,Go.Proofs.Tryz.func235,by kernel_rfl,by kernel_rfl⟩
theorem has236 : Has Tryz.prog 236:=⟨_,Go.Proofs.Tryz.func236,by kernel_rfl,by kernel_rfl⟩
theorem has237 : Has Tryz.prog 237:=⟨_,Go.Proofs.Tryz.func237,by kernel_rfl,by kernel_rfl⟩
theorem has238 : Has Tryz.prog 238:=⟨_,Go.Proofs.Tryz.func238,by kernel_rfl,by kernel_rfl⟩
theorem has239 : Has Tryz.prog 239:=⟨_,Go.Proofs.Tryz.func239,by kernel_rfl,by kernel_rfl⟩
theorem has240 : Has Tryz.prog 240:=⟨_,Go.Proofs.Tryz.func240,by kernel_rfl,by kernel_rfl⟩
theorem has258 : Has Tryz.prog 258:=⟨_,Go.Proofs.Tryz.func258,by kernel_rfl,by kernel_rfl⟩
theorem has259 : Has Tryz.prog 259:=⟨_,Go.Proofs.Tryz.func259,by kernel_rfl,by kernel_rfl⟩
theorem has260 : Has Tryz.prog 260:=⟨_,Go.Proofs.Tryz.func260,by kernel_rfl,by kernel_rfl⟩
theorem has261 : Has Tryz.prog 261:=⟨_,Go.Proofs.Tryz.func261,by kernel_rfl,by kernel_rfl⟩
theorem has262 : Has Tryz.prog 262:=⟨_,Go.Proofs.Tryz.func262,by kernel_rfl,by kernel_rfl⟩
theorem has263 : Has Tryz.prog 263:=⟨_,Go.Proofs.Tryz.func263,by kernel_rfl,by kernel_rfl⟩
theorem has264 : Has Tryz.prog 264:=⟨_,Go.Proofs.Tryz.func264,by kernel_rfl,by kernel_rfl⟩
theorem has265 : Has Tryz.prog 265:=⟨_,Go.Proofs.Tryz.func265,by kernel_rfl,by kernel_rfl⟩
theorem has266 : Has Tryz.prog 266:=⟨_,Go.Proofs.Tryz.func266,by kernel_rfl,by kernel_rfl⟩
theorem has267 : Has Tryz.prog 267:=⟨_,Go.Proofs.Tryz.func267,by kernel_rfl,by kernel_rfl⟩
theorem has268 : Has Tryz.prog 268:=⟨_,Go.Proofs.Tryz.func268,by kernel_rfl,by kernel_rfl⟩
theorem has269 : Has Tryz.prog 269:=⟨_,Go.Proofs.Tryz.func269,by kernel_rfl,by kernel_rfl⟩
theorem has270 : Has Tryz.prog 270:=⟨_,Go.Proofs.Tryz.func270,by kernel_rfl,by kernel_rfl⟩
theorem has271 : Has Tryz.prog 271:=⟨_,Go.Proofs.Tryz.func271,by kernel_rfl,by kernel_rfl⟩
theorem has272 : Has Tryz.prog 272:=⟨_,Go.Proofs.Tryz.func272,by kernel_rfl,by kernel_rfl⟩
theorem has273 : Has Tryz.prog 273:=⟨_,Go.Proofs.Tryz.func273,by kernel_rfl,by kernel_rfl⟩
theorem has274 : Has Tryz.prog 274:=⟨_,Go.Proofs.Tryz.func274,by kernel_rfl,by kernel_rfl⟩
theorem has275 : Has Tryz.prog 275:=⟨_,Go.Proofs.Tryz.func275,by kernel_rfl,by kernel_rfl⟩
theorem has276 : Has Tryz.prog 276:=⟨_,Go.Proofs.Tryz.func276,by kernel_rfl,by kernel_rfl⟩
theorem has277 : Has Tryz.prog 277:=⟨_,Go.Proofs.Tryz.func277,by kernel_rfl,by kernel_rfl⟩
theorem has278 : Has Tryz.prog 278:=⟨_,Go.Proofs.Tryz.func278,by kernel_rfl,by kernel_rfl⟩
theorem has279 : Has Tryz.prog 279:=⟨_,Go.Proofs.Tryz.func279,by kernel_rfl,by kernel_rfl⟩
theorem has307 : Has Tryz.prog 307:=⟨_,Go.Proofs.Tryz.func307,by kernel_rfl,by kernel_rfl⟩
theorem has308 : Has Tryz.prog 308:=⟨_,Go.Proofs.Tryz.func308,by kernel_rfl,by kernel_rfl⟩
theorem has316 : Has Tryz.prog 316:=⟨_,Go.Proofs.Tryz.func316,by kernel_rfl,by kernel_rfl⟩
theorem has317 : Has Tryz.prog 317:=⟨_,Go.Proofs.Tryz.func317,by kernel_rfl,by kernel_rfl⟩
theorem has335 : Has Tryz.prog 335:=⟨_,Go.Proofs.Tryz.func335,by kernel_rfl,by kernel_rfl⟩
theorem has349 : Has Tryz.prog 349:=⟨_,Go.Proofs.Tryz.func349,by kernel_rfl,by kernel_rfl⟩
theorem has350 : Has Tryz.prog 350:=⟨_,Go.Proofs.Tryz.func350,by kernel_rfl,by kernel_rfl⟩
theorem has351 : Has Tryz.prog 351:=⟨_,Go.Proofs.Tryz.func351,by kernel_rfl,by kernel_rfl⟩
end Go.Hw
