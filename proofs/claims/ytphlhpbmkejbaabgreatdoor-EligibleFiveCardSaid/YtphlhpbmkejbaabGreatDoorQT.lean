import Derived.Test.YtphlhpbmkejbaabGreatDoorProg
import Derived.Test.YtphlhpbmkejbaabGreatDoorHB
import Derived.KernelRfl
set_option linter.unusedSimpArgs false
set_option linter.unusedVariables false
set_option maxRecDepth 100000
namespace Go.Hw
open Go
open Go.Proofs (Tryz.prog)
def fd (t o : Nat) (b : Bool:=false) : Field:={ name:=if b then "_" else "",type:=t,offset:=o,embedded:=false,tag := "",pkgPath := "",byteOffset:=0 }
def ty2 : Ty:=⟨2,.int .i64,1,8,.int .i64 0⟩
theorem ty2_ok : TyOk Tryz.prog ty2:=⟨by kernel_rfl,by kernel_rfl⟩
def ty3 : Ty:=⟨3,.int .i64,1,8,.int .i64 0⟩
theorem ty3_ok : TyOk Tryz.prog ty3:=⟨by kernel_rfl,by kernel_rfl⟩
def ty4 : Ty:=⟨4,.bool,1,1,.bool false⟩
theorem ty4_ok : TyOk Tryz.prog ty4:=⟨by kernel_rfl,by kernel_rfl⟩
def ty5 : Ty:=⟨5,.int .u8,1,1,.int .u8 0⟩
theorem ty5_ok : TyOk Tryz.prog ty5:=⟨by kernel_rfl,by kernel_rfl⟩
def ty9 : Ty:=⟨9,.string,1,16,.string ByteArray.empty⟩
theorem ty9_ok : TyOk Tryz.prog ty9:=⟨by kernel_rfl,by kernel_rfl⟩
def ty22 : Ty:=⟨22,.slice 60,1,24,.slice none 0 0⟩
theorem ty22_ok : TyOk Tryz.prog ty22:=⟨by kernel_rfl,by kernel_rfl⟩
def ty25 : Ty:=⟨25,.slice 30,1,24,.slice none 0 0⟩
theorem ty25_ok : TyOk Tryz.prog ty25:=⟨by kernel_rfl,by kernel_rfl⟩
def ty28 : Ty:=⟨28,.struct #[fd 3 0,fd 3 1,fd 3 2,fd 3 3],4,32,.agg #[.int .i64 0,.int .i64 0,.int .i64 0,.int .i64 0]⟩
theorem ty28_ok : TyOk Tryz.prog ty28:=⟨by kernel_rfl,by kernel_rfl⟩
def ty30 : Ty:=⟨30,.struct #[fd 3 0,fd 3 1,fd 28 2],6,48,.agg #[.int .i64 0,.int .i64 0,.int .i64 0,.int .i64 0,.int .i64 0,.int .i64 0]⟩
theorem ty30_ok : TyOk Tryz.prog ty30:=⟨by kernel_rfl,by kernel_rfl⟩
def ty31 : Ty:=⟨31,.slice 3,1,24,.slice none 0 0⟩
theorem ty31_ok : TyOk Tryz.prog ty31:=⟨by kernel_rfl,by kernel_rfl⟩
def ty32 : Ty:=⟨32,.slice 90,1,24,.slice none 0 0⟩
theorem ty32_ok : TyOk Tryz.prog ty32:=⟨by kernel_rfl,by kernel_rfl⟩
def ty34 : Ty:=⟨34,.struct #[fd 28 0,fd 3 4,fd 3 5,fd 3 6,fd 3 7,fd 3 8,fd 31 9,fd 31 10,fd 32 11,fd 32 12],13,168,.agg #[.int .i64 0,.int .i64 0,.int .i64 0,.int .i64 0,.int .i64 0,.int .i64 0,.int .i64 0,.int .i64 0,.int .i64 0,.slice none 0 0,.slice none 0 0,.slice none 0 0,.slice none 0 0]⟩
theorem ty34_ok : TyOk Tryz.prog ty34:=⟨by kernel_rfl,by kernel_rfl⟩
def ty36 : Ty:=⟨36,.struct #[fd 3 0,fd 34 1,fd 3 14],15,184,.agg #[.int .i64 0,.int .i64 0,.int .i64 0,.int .i64 0,.int .i64 0,.int .i64 0,.int .i64 0,.int .i64 0,.int .i64 0,.int .i64 0,.slice none 0 0,.slice none 0 0,.slice none 0 0,.slice none 0 0,.int .i64 0]⟩
theorem ty36_ok : TyOk Tryz.prog ty36:=⟨by kernel_rfl,by kernel_rfl⟩
def ty38 : Ty:=⟨38,.slice 28,1,24,.slice none 0 0⟩
theorem ty38_ok : TyOk Tryz.prog ty38:=⟨by kernel_rfl,by kernel_rfl⟩
def ty44 : Ty:=⟨44,.struct #[fd 3 0,fd 3 1,fd 31 2,fd 9 3],4,56,.agg #[.int .i64 0,.int .i64 0,.slice none 0 0,.string ByteArray.empty]⟩
theorem ty44_ok : TyOk Tryz.prog ty44:=⟨by kernel_rfl,by kernel_rfl⟩
def ty46 : Ty:=⟨46,.struct #[fd 28 0,fd 3 4],5,40,.agg #[.int .i64 0,.int .i64 0,.int .i64 0,.int .i64 0,.int .i64 0]⟩
theorem ty46_ok : TyOk Tryz.prog ty46:=⟨by kernel_rfl,by kernel_rfl⟩
def ty48 : Ty:=⟨48,.struct #[fd 3 0,fd 3 1],2,16,.agg #[.int .i64 0,.int .i64 0]⟩
theorem ty48_ok : TyOk Tryz.prog ty48:=⟨by kernel_rfl,by kernel_rfl⟩
def ty50 : Ty:=⟨50,.struct #[fd 3 0,fd 3 1,fd 3 2,fd 28 3,fd 3 7,fd 3 8,fd 3 9,fd 3 10,fd 3 11,fd 3 12,fd 3 13,fd 3 14,fd 48 15],17,136,.agg #[.int .i64 0,.int .i64 0,.int .i64 0,.int .i64 0,.int .i64 0,.int .i64 0,.int .i64 0,.int .i64 0,.int .i64 0,.int .i64 0,.int .i64 0,.int .i64 0,.int .i64 0,.int .i64 0,.int .i64 0,.int .i64 0,.int .i64 0]⟩
theorem ty50_ok : TyOk Tryz.prog ty50:=⟨by kernel_rfl,by kernel_rfl⟩
def ty52 : Ty:=⟨52,.struct #[fd 3 0,fd 3 1,fd 4 2],3,24,.agg #[.int .i64 0,.int .i64 0,.bool false]⟩
theorem ty52_ok : TyOk Tryz.prog ty52:=⟨by kernel_rfl,by kernel_rfl⟩
def ty54 : Ty:=⟨54,.struct #[fd 3 0,fd 3 1],2,16,.agg #[.int .i64 0,.int .i64 0]⟩
theorem ty54_ok : TyOk Tryz.prog ty54:=⟨by kernel_rfl,by kernel_rfl⟩
def ty56 : Ty:=⟨56,.struct #[fd 3 0,fd 3 1,fd 31 2],3,40,.agg #[.int .i64 0,.int .i64 0,.slice none 0 0]⟩
theorem ty56_ok : TyOk Tryz.prog ty56:=⟨by kernel_rfl,by kernel_rfl⟩
def ty57 : Ty:=⟨57,.array 32 5,32,32,.agg #[.int .u8 0,.int .u8 0,.int .u8 0,.int .u8 0,.int .u8 0,.int .u8 0,.int .u8 0,.int .u8 0,.int .u8 0,.int .u8 0,.int .u8 0,.int .u8 0,.int .u8 0,.int .u8 0,.int .u8 0,.int .u8 0,.int .u8 0,.int .u8 0,.int .u8 0,.int .u8 0,.int .u8 0,.int .u8 0,.int .u8 0,.int .u8 0,.int .u8 0,.int .u8 0,.int .u8 0,.int .u8 0,.int .u8 0,.int .u8 0,.int .u8 0,.int .u8 0]⟩
theorem ty57_ok : TyOk Tryz.prog ty57:=⟨by kernel_rfl,by kernel_rfl⟩
def ty58 : Ty:=⟨58,.array 32 5,32,32,.agg #[.int .u8 0,.int .u8 0,.int .u8 0,.int .u8 0,.int .u8 0,.int .u8 0,.int .u8 0,.int .u8 0,.int .u8 0,.int .u8 0,.int .u8 0,.int .u8 0,.int .u8 0,.int .u8 0,.int .u8 0,.int .u8 0,.int .u8 0,.int .u8 0,.int .u8 0,.int .u8 0,.int .u8 0,.int .u8 0,.int .u8 0,.int .u8 0,.int .u8 0,.int .u8 0,.int .u8 0,.int .u8 0,.int .u8 0,.int .u8 0,.int .u8 0,.int .u8 0]⟩
theorem ty58_ok : TyOk Tryz.prog ty58:=⟨by kernel_rfl,by kernel_rfl⟩
def ty60 : Ty:=⟨60,.struct #[fd 3 0,fd 3 1,fd 3 2,fd 44 3,fd 46 7,fd 34 12,fd 50 25,fd 52 42,fd 54 45,fd 56 47,fd 58 50],82,536,.agg #[.int .i64 0,.int .i64 0,.int .i64 0,.int .i64 0,.int .i64 0,.slice none 0 0,.string ByteArray.empty,.int .i64 0,.int .i64 0,.int .i64 0,.int .i64 0,.int .i64 0,.int .i64 0,.int .i64 0,.int .i64 0,.int .i64 0,.int .i64 0,.int .i64 0,.int .i64 0,.int .i64 0,.int .i64 0,.slice none 0 0,.slice none 0 0,.slice none 0 0,.slice none 0 0,.int .i64 0,.int .i64 0,.int .i64 0,.int .i64 0,.int .i64 0,.int .i64 0,.int .i64 0,.int .i64 0,.int .i64 0,.int .i64 0,.int .i64 0,.int .i64 0,.int .i64 0,.int .i64 0,.int .i64 0,.int .i64 0,.int .i64 0,.int .i64 0,.int .i64 0,.bool false,.int .i64 0,.int .i64 0,.int .i64 0,.int .i64 0,.slice none 0 0,.int .u8 0,.int .u8 0,.int .u8 0,.int .u8 0,.int .u8 0,.int .u8 0,.int .u8 0,.int .u8 0,.int .u8 0,.int .u8 0,.int .u8 0,.int .u8 0,.int .u8 0,.int .u8 0,.int .u8 0,.int .u8 0,.int .u8 0,.int .u8 0,.int .u8 0,.int .u8 0,.int .u8 0,.int .u8 0,.int .u8 0,.int .u8 0,.int .u8 0,.int .u8 0,.int .u8 0,.int .u8 0,.int .u8 0,.int .u8 0,.int .u8 0,.int .u8 0]⟩
theorem ty60_ok : TyOk Tryz.prog ty60:=⟨by kernel_rfl,by kernel_rfl⟩
def ty67 : Ty:=⟨67,.func #[60] #[4] false,1,8,.nilFunc⟩
theorem ty67_ok : TyOk Tryz.prog ty67:=⟨by kernel_rfl,by kernel_rfl⟩
def ty68 : Ty:=⟨68,.slice 36,1,24,.slice none 0 0⟩
theorem ty68_ok : TyOk Tryz.prog ty68:=⟨by kernel_rfl,by kernel_rfl⟩
def ty70 : Ty:=⟨70,.map 3 3,1,8,.map none⟩
theorem ty70_ok : TyOk Tryz.prog ty70:=⟨by kernel_rfl,by kernel_rfl⟩
def ty71 : Ty:=⟨71,.map 3 78,1,8,.map none⟩
theorem ty71_ok : TyOk Tryz.prog ty71:=⟨by kernel_rfl,by kernel_rfl⟩
def ty73 : Ty:=⟨73,.slice 76,1,24,.slice none 0 0⟩
theorem ty73_ok : TyOk Tryz.prog ty73:=⟨by kernel_rfl,by kernel_rfl⟩
def ty76 : Ty:=⟨76,.struct #[fd 3 0,fd 3 1],2,16,.agg #[.int .i64 0,.int .i64 0]⟩
theorem ty76_ok : TyOk Tryz.prog ty76:=⟨by kernel_rfl,by kernel_rfl⟩
def ty78 : Ty:=⟨78,.struct #[fd 3 0,fd 4 1],2,16,.agg #[.int .i64 0,.bool false]⟩
theorem ty78_ok : TyOk Tryz.prog ty78:=⟨by kernel_rfl,by kernel_rfl⟩
def ty80 : Ty:=⟨80,.func #[36] #[4] false,1,8,.nilFunc⟩
theorem ty80_ok : TyOk Tryz.prog ty80:=⟨by kernel_rfl,by kernel_rfl⟩
def ty82 : Ty:=⟨82,.array 2 60,164,1072,.agg #[.int .i64 0,.int .i64 0,.int .i64 0,.int .i64 0,.int .i64 0,.slice none 0 0,.string ByteArray.empty,.int .i64 0,.int .i64 0,.int .i64 0,.int .i64 0,.int .i64 0,.int .i64 0,.int .i64 0,.int .i64 0,.int .i64 0,.int .i64 0,.int .i64 0,.int .i64 0,.int .i64 0,.int .i64 0,.slice none 0 0,.slice none 0 0,.slice none 0 0,.slice none 0 0,.int .i64 0,.int .i64 0,.int .i64 0,.int .i64 0,.int .i64 0,.int .i64 0,.int .i64 0,.int .i64 0,.int .i64 0,.int .i64 0,.int .i64 0,.int .i64 0,.int .i64 0,.int .i64 0,.int .i64 0,.int .i64 0,.int .i64 0,.int .i64 0,.int .i64 0,.bool false,.int .i64 0,.int .i64 0,.int .i64 0,.int .i64 0,.slice none 0 0,.int .u8 0,.int .u8 0,.int .u8 0,.int .u8 0,.int .u8 0,.int .u8 0,.int .u8 0,.int .u8 0,.int .u8 0,.int .u8 0,.int .u8 0,.int .u8 0,.int .u8 0,.int .u8 0,.int .u8 0,.int .u8 0,.int .u8 0,.int .u8 0,.int .u8 0,.int .u8 0,.int .u8 0,.int .u8 0,.int .u8 0,.int .u8 0,.int .u8 0,.int .u8 0,.int .u8 0,.int .u8 0,.int .u8 0,.int .u8 0,.int .u8 0,.int .u8 0,.int .i64 0,.int .i64 0,.int .i64 0,.int .i64 0,.int .i64 0,.slice none 0 0,.string ByteArray.empty,.int .i64 0,.int .i64 0,.int .i64 0,.int .i64 0,.int .i64 0,.int .i64 0,.int .i64 0,.int .i64 0,.int .i64 0,.int .i64 0,.int .i64 0,.int .i64 0,.int .i64 0,.int .i64 0,.slice none 0 0,.slice none 0 0,.slice none 0 0,.slice none 0 0,.int .i64 0,.int .i64 0,.int .i64 0,.int .i64 0,.int .i64 0,.int .i64 0,.int .i64 0,.int .i64 0,.int .i64 0,.int .i64 0,.int .i64 0,.int .i64 0,.int .i64 0,.int .i64 0,.int .i64 0,.int .i64 0,.int .i64 0,.int .i64 0,.int .i64 0,.bool false,.int .i64 0,.int .i64 0,.int .i64 0,.int .i64 0,.slice none 0 0,.int .u8 0,.int .u8 0,.int .u8 0,.int .u8 0,.int .u8 0,.int .u8 0,.int .u8 0,.int .u8 0,.int .u8 0,.int .u8 0,.int .u8 0,.int .u8 0,.int .u8 0,.int .u8 0,.int .u8 0,.int .u8 0,.int .u8 0,.int .u8 0,.int .u8 0,.int .u8 0,.int .u8 0,.int .u8 0,.int .u8 0,.int .u8 0,.int .u8 0,.int .u8 0,.int .u8 0,.int .u8 0,.int .u8 0,.int .u8 0,.int .u8 0,.int .u8 0]⟩
theorem ty82_ok : TyOk Tryz.prog ty82:=⟨by kernel_rfl,by kernel_rfl⟩
def ty83 : Ty:=⟨83,.map 28 82,1,8,.map none⟩
theorem ty83_ok : TyOk Tryz.prog ty83:=⟨by kernel_rfl,by kernel_rfl⟩
def ty87 : Ty:=⟨87,.func #[28,28] #[3] false,1,8,.nilFunc⟩
theorem ty87_ok : TyOk Tryz.prog ty87:=⟨by kernel_rfl,by kernel_rfl⟩
def ty88 : Ty:=⟨88,.func #[28,82] #[4] false,1,8,.nilFunc⟩
theorem ty88_ok : TyOk Tryz.prog ty88:=⟨by kernel_rfl,by kernel_rfl⟩
def ty90 : Ty:=⟨90,.struct #[fd 3 0,fd 4 1],2,16,.agg #[.int .i64 0,.bool false]⟩
theorem ty90_ok : TyOk Tryz.prog ty90:=⟨by kernel_rfl,by kernel_rfl⟩
def ty93 : Ty:=⟨93,.func #[60,60] #[3] false,1,8,.nilFunc⟩
theorem ty93_ok : TyOk Tryz.prog ty93:=⟨by kernel_rfl,by kernel_rfl⟩
def ty94 : Ty:=⟨94,.map 3 4,1,8,.map none⟩
theorem ty94_ok : TyOk Tryz.prog ty94:=⟨by kernel_rfl,by kernel_rfl⟩
def ty95 : Ty:=⟨95,.func #[76] #[4] false,1,8,.nilFunc⟩
theorem ty95_ok : TyOk Tryz.prog ty95:=⟨by kernel_rfl,by kernel_rfl⟩
def ty97 : Ty:=⟨97,.struct #[fd 95 0,fd 95 1,fd 95 2],3,24,.agg #[.nilFunc,.nilFunc,.nilFunc]⟩
theorem ty97_ok : TyOk Tryz.prog ty97:=⟨by kernel_rfl,by kernel_rfl⟩
def ty100 : Ty:=⟨100,.slice 50,1,24,.slice none 0 0⟩
theorem ty100_ok : TyOk Tryz.prog ty100:=⟨by kernel_rfl,by kernel_rfl⟩
def ty102 : Ty:=⟨102,.func #[50] #[4] false,1,8,.nilFunc⟩
theorem ty102_ok : TyOk Tryz.prog ty102:=⟨by kernel_rfl,by kernel_rfl⟩
def ty106 : Ty:=⟨106,.func #[36,36] #[3] false,1,8,.nilFunc⟩
theorem ty106_ok : TyOk Tryz.prog ty106:=⟨by kernel_rfl,by kernel_rfl⟩
def ty109 : Ty:=⟨109,.func #[76,76] #[3] false,1,8,.nilFunc⟩
theorem ty109_ok : TyOk Tryz.prog ty109:=⟨by kernel_rfl,by kernel_rfl⟩
def ty115 : Ty:=⟨115,.int .i64,1,8,.int .i64 0⟩
theorem ty115_ok : TyOk Tryz.prog ty115:=⟨by kernel_rfl,by kernel_rfl⟩
def ty117 : Ty:=⟨117,.slice 5,1,24,.slice none 0 0⟩
theorem ty117_ok : TyOk Tryz.prog ty117:=⟨by kernel_rfl,by kernel_rfl⟩
def ty125 : Ty:=⟨125,.int .u64,1,8,.int .u64 0⟩
theorem ty125_ok : TyOk Tryz.prog ty125:=⟨by kernel_rfl,by kernel_rfl⟩
def ty126 : Ty:=⟨126,.func #[3] #[4] false,1,8,.nilFunc⟩
theorem ty126_ok : TyOk Tryz.prog ty126:=⟨by kernel_rfl,by kernel_rfl⟩
def ty127 : Ty:=⟨127,.slice 32,1,24,.slice none 0 0⟩
theorem ty127_ok : TyOk Tryz.prog ty127:=⟨by kernel_rfl,by kernel_rfl⟩
def ty133 : Ty:=⟨133,.func #[60,139] #[] false,1,8,.nilFunc⟩
theorem ty133_ok : TyOk Tryz.prog ty133:=⟨by kernel_rfl,by kernel_rfl⟩
def ty135 : Ty:=⟨135,.struct #[fd 67 0,fd 133 1],2,16,.agg #[.nilFunc,.nilFunc]⟩
theorem ty135_ok : TyOk Tryz.prog ty135:=⟨by kernel_rfl,by kernel_rfl⟩
def ty137 : Ty:=⟨137,.map 3 135,1,8,.map none⟩
theorem ty137_ok : TyOk Tryz.prog ty137:=⟨by kernel_rfl,by kernel_rfl⟩
def ty139 : Ty:=⟨139,.pointer 60,1,8,.pointer none⟩
theorem ty139_ok : TyOk Tryz.prog ty139:=⟨by kernel_rfl,by kernel_rfl⟩
def ty140 : Ty:=⟨140,.func #[60,60] #[4] false,1,8,.nilFunc⟩
theorem ty140_ok : TyOk Tryz.prog ty140:=⟨by kernel_rfl,by kernel_rfl⟩
def ty141 : Ty:=⟨141,.slice 147,1,24,.slice none 0 0⟩
theorem ty141_ok : TyOk Tryz.prog ty141:=⟨by kernel_rfl,by kernel_rfl⟩
def ty145 : Ty:=⟨145,.slice 9,1,24,.slice none 0 0⟩
theorem ty145_ok : TyOk Tryz.prog ty145:=⟨by kernel_rfl,by kernel_rfl⟩
def ty147 : Ty:=⟨147,.struct #[fd 3 0,fd 3 1,fd 9 2,fd 141 3,fd 145 4],5,80,.agg #[.int .i64 0,.int .i64 0,.string ByteArray.empty,.slice none 0 0,.slice none 0 0]⟩
theorem ty147_ok : TyOk Tryz.prog ty147:=⟨by kernel_rfl,by kernel_rfl⟩
def ty151 : Ty:=⟨151,.slice 153,1,24,.slice none 0 0⟩
theorem ty151_ok : TyOk Tryz.prog ty151:=⟨by kernel_rfl,by kernel_rfl⟩
def ty153 : Ty:=⟨153,.pointer 199,1,8,.pointer none⟩
theorem ty153_ok : TyOk Tryz.prog ty153:=⟨by kernel_rfl,by kernel_rfl⟩
def ty158 : Ty:=⟨158,.int .i64,1,8,.int .i64 0⟩
theorem ty158_ok : TyOk Tryz.prog ty158:=⟨by kernel_rfl,by kernel_rfl⟩
def ty165 : Ty:=⟨165,.int .u32,1,4,.int .u32 0⟩
theorem ty165_ok : TyOk Tryz.prog ty165:=⟨by kernel_rfl,by kernel_rfl⟩
def ty167 : Ty:=⟨167,.int .u64,1,8,.int .u64 0⟩
theorem ty167_ok : TyOk Tryz.prog ty167:=⟨by kernel_rfl,by kernel_rfl⟩
def ty183 : Ty:=⟨183,.func #[147] #[4] false,1,8,.nilFunc⟩
theorem ty183_ok : TyOk Tryz.prog ty183:=⟨by kernel_rfl,by kernel_rfl⟩
def ty191 : Ty:=⟨191,.func #[117,147] #[117] false,1,8,.nilFunc⟩
theorem ty191_ok : TyOk Tryz.prog ty191:=⟨by kernel_rfl,by kernel_rfl⟩
def ty193 : Ty:=⟨193,.struct #[fd 191 0],1,8,.agg #[.nilFunc]⟩
theorem ty193_ok : TyOk Tryz.prog ty193:=⟨by kernel_rfl,by kernel_rfl⟩
def ty194 : Ty:=⟨194,.pointer 230,1,8,.pointer none⟩
theorem ty194_ok : TyOk Tryz.prog ty194:=⟨by kernel_rfl,by kernel_rfl⟩
def ty196 : Ty:=⟨196,.map 3 153,1,8,.map none⟩
theorem ty196_ok : TyOk Tryz.prog ty196:=⟨by kernel_rfl,by kernel_rfl⟩
def ty197 : Ty:=⟨197,.array 4 4,4,4,.agg #[.bool false,.bool false,.bool false,.bool false]⟩
theorem ty197_ok : TyOk Tryz.prog ty197:=⟨by kernel_rfl,by kernel_rfl⟩
def ty199 : Ty:=⟨199,.struct #[fd 3 0,fd 22 1,fd 197 2],6,40,.agg #[.int .i64 0,.slice none 0 0,.bool false,.bool false,.bool false,.bool false]⟩
theorem ty199_ok : TyOk Tryz.prog ty199:=⟨by kernel_rfl,by kernel_rfl⟩
def ty203 : Ty:=⟨203,.func #[153,153] #[3] false,1,8,.nilFunc⟩
theorem ty203_ok : TyOk Tryz.prog ty203:=⟨by kernel_rfl,by kernel_rfl⟩
def ty205 : Ty:=⟨205,.int .u64,1,8,.int .u64 0⟩
theorem ty205_ok : TyOk Tryz.prog ty205:=⟨by kernel_rfl,by kernel_rfl⟩
def ty209 : Ty:=⟨209,.pointer 3,1,8,.pointer none⟩
theorem ty209_ok : TyOk Tryz.prog ty209:=⟨by kernel_rfl,by kernel_rfl⟩
def ty221 : Ty:=⟨221,.func #[50,227] #[] false,1,8,.nilFunc⟩
theorem ty221_ok : TyOk Tryz.prog ty221:=⟨by kernel_rfl,by kernel_rfl⟩
def ty223 : Ty:=⟨223,.struct #[fd 102 0,fd 221 1],2,16,.agg #[.nilFunc,.nilFunc]⟩
theorem ty223_ok : TyOk Tryz.prog ty223:=⟨by kernel_rfl,by kernel_rfl⟩
def ty225 : Ty:=⟨225,.map 3 223,1,8,.map none⟩
theorem ty225_ok : TyOk Tryz.prog ty225:=⟨by kernel_rfl,by kernel_rfl⟩
def ty227 : Ty:=⟨227,.pointer 50,1,8,.pointer none⟩
theorem ty227_ok : TyOk Tryz.prog ty227:=⟨by kernel_rfl,by kernel_rfl⟩
def ty230 : Ty:=⟨230,.array 5 193,5,40,.agg #[.nilFunc,.nilFunc,.nilFunc,.nilFunc,.nilFunc]⟩
theorem ty230_ok : TyOk Tryz.prog ty230:=⟨by kernel_rfl,by kernel_rfl⟩
def ty238 : Ty:=⟨238,.func #[153,153] #[4] false,1,8,.nilFunc⟩
theorem ty238_ok : TyOk Tryz.prog ty238:=⟨by kernel_rfl,by kernel_rfl⟩
def ty245 : Ty:=⟨245,.func #[90] #[4] false,1,8,.nilFunc⟩
theorem ty245_ok : TyOk Tryz.prog ty245:=⟨by kernel_rfl,by kernel_rfl⟩
def ty252 : Ty:=⟨252,.array 5 4,5,5,.agg #[.bool false,.bool false,.bool false,.bool false,.bool false]⟩
theorem ty252_ok : TyOk Tryz.prog ty252:=⟨by kernel_rfl,by kernel_rfl⟩
def ty265 : Ty:=⟨265,.array 24 5,24,24,.agg #[.int .u8 0,.int .u8 0,.int .u8 0,.int .u8 0,.int .u8 0,.int .u8 0,.int .u8 0,.int .u8 0,.int .u8 0,.int .u8 0,.int .u8 0,.int .u8 0,.int .u8 0,.int .u8 0,.int .u8 0,.int .u8 0,.int .u8 0,.int .u8 0,.int .u8 0,.int .u8 0,.int .u8 0,.int .u8 0,.int .u8 0,.int .u8 0]⟩
theorem ty265_ok : TyOk Tryz.prog ty265:=⟨by kernel_rfl,by kernel_rfl⟩
def ty274 : Ty:=⟨274,.array 20 167,20,160,.agg #[.int .u64 0,.int .u64 0,.int .u64 0,.int .u64 0,.int .u64 0,.int .u64 0,.int .u64 0,.int .u64 0,.int .u64 0,.int .u64 0,.int .u64 0,.int .u64 0,.int .u64 0,.int .u64 0,.int .u64 0,.int .u64 0,.int .u64 0,.int .u64 0,.int .u64 0,.int .u64 0]⟩
theorem ty274_ok : TyOk Tryz.prog ty274:=⟨by kernel_rfl,by kernel_rfl⟩
def ty275 : Ty:=⟨275,.array 65 5,65,65,.agg #[.int .u8 0,.int .u8 0,.int .u8 0,.int .u8 0,.int .u8 0,.int .u8 0,.int .u8 0,.int .u8 0,.int .u8 0,.int .u8 0,.int .u8 0,.int .u8 0,.int .u8 0,.int .u8 0,.int .u8 0,.int .u8 0,.int .u8 0,.int .u8 0,.int .u8 0,.int .u8 0,.int .u8 0,.int .u8 0,.int .u8 0,.int .u8 0,.int .u8 0,.int .u8 0,.int .u8 0,.int .u8 0,.int .u8 0,.int .u8 0,.int .u8 0,.int .u8 0,.int .u8 0,.int .u8 0,.int .u8 0,.int .u8 0,.int .u8 0,.int .u8 0,.int .u8 0,.int .u8 0,.int .u8 0,.int .u8 0,.int .u8 0,.int .u8 0,.int .u8 0,.int .u8 0,.int .u8 0,.int .u8 0,.int .u8 0,.int .u8 0,.int .u8 0,.int .u8 0,.int .u8 0,.int .u8 0,.int .u8 0,.int .u8 0,.int .u8 0,.int .u8 0,.int .u8 0,.int .u8 0,.int .u8 0,.int .u8 0,.int .u8 0,.int .u8 0,.int .u8 0]⟩
theorem ty275_ok : TyOk Tryz.prog ty275:=⟨by kernel_rfl,by kernel_rfl⟩
def ty278 : Ty:=⟨278,.array 64 5,64,64,.agg #[.int .u8 0,.int .u8 0,.int .u8 0,.int .u8 0,.int .u8 0,.int .u8 0,.int .u8 0,.int .u8 0,.int .u8 0,.int .u8 0,.int .u8 0,.int .u8 0,.int .u8 0,.int .u8 0,.int .u8 0,.int .u8 0,.int .u8 0,.int .u8 0,.int .u8 0,.int .u8 0,.int .u8 0,.int .u8 0,.int .u8 0,.int .u8 0,.int .u8 0,.int .u8 0,.int .u8 0,.int .u8 0,.int .u8 0,.int .u8 0,.int .u8 0,.int .u8 0,.int .u8 0,.int .u8 0,.int .u8 0,.int .u8 0,.int .u8 0,.int .u8 0,.int .u8 0,.int .u8 0,.int .u8 0,.int .u8 0,.int .u8 0,.int .u8 0,.int .u8 0,.int .u8 0,.int .u8 0,.int .u8 0,.int .u8 0,.int .u8 0,.int .u8 0,.int .u8 0,.int .u8 0,.int .u8 0,.int .u8 0,.int .u8 0,.int .u8 0,.int .u8 0,.int .u8 0,.int .u8 0,.int .u8 0,.int .u8 0,.int .u8 0,.int .u8 0]⟩
theorem ty278_ok : TyOk Tryz.prog ty278:=⟨by kernel_rfl,by kernel_rfl⟩
def ts : List Ty:=[ty2,ty3,ty4,ty5,ty9,ty22,ty25,ty28,ty30,ty31,ty32,ty34,ty36,ty38,ty44,ty46,ty48,ty50,ty52,ty54,ty56,ty57,ty58,ty60,ty67,ty68,ty70,ty71,ty73,ty76,ty78,ty80,ty82,ty83,ty87,ty88,ty90,ty93,ty94,ty95,ty97,ty100,ty102,ty106,ty109,ty115,ty117,ty125,ty126,ty127,ty133,ty135,ty137,ty139,ty140,ty141,ty145,ty147,ty151,ty153,ty158,ty165,ty167,ty183,ty191,ty193,ty194,ty196,ty197,ty199,ty203,ty205,ty209,ty221,ty223,ty225,ty227,ty230,ty238,ty245,ty252,ty265,ty274,ty275,ty278]
theorem ts_ok : TsOk Tryz.prog ts:=by
  intro t ht
  simp only [ts,List.mem_cons,List.not_mem_nil,or_false] at ht
  rcases ht with rfl|rfl|rfl|rfl|rfl|rfl|rfl|rfl|rfl|rfl|rfl|rfl|rfl|rfl|rfl|rfl|rfl|rfl|rfl|rfl|rfl|rfl|rfl|rfl|rfl|rfl|rfl|rfl|rfl|rfl|rfl|rfl|rfl|rfl|rfl|rfl|rfl|rfl|rfl|rfl|rfl|rfl|rfl|rfl|rfl|rfl|rfl|rfl|rfl|rfl|rfl|rfl|rfl|rfl|rfl|rfl|rfl|rfl|rfl|rfl|rfl|rfl|rfl|rfl|rfl|rfl|rfl|rfl|rfl|rfl|rfl|rfl|rfl|rfl|rfl|rfl|rfl|rfl|rfl|rfl|rfl|rfl|rfl|rfl|rfl
  · exact ty2_ok
  · exact ty3_ok
  · exact ty4_ok
  · exact ty5_ok
  · exact ty9_ok
  · exact ty22_ok
  · exact ty25_ok
  · exact ty28_ok
  · exact ty30_ok
  · exact ty31_ok
  · exact ty32_ok
  · exact ty34_ok
  · exact ty36_ok
  · exact ty38_ok
  · exact ty44_ok
  · exact ty46_ok
  · exact ty48_ok
  · exact ty50_ok
  · exact ty52_ok
  · exact ty54_ok
  · exact ty56_ok
  · exact ty57_ok
  · exact ty58_ok
  · exact ty60_ok
  · exact ty67_ok
  · exact ty68_ok
  · exact ty70_ok
  · exact ty71_ok
  · exact ty73_ok
  · exact ty76_ok
  · exact ty78_ok
  · exact ty80_ok
  · exact ty82_ok
  · exact ty83_ok
  · exact ty87_ok
  · exact ty88_ok
  · exact ty90_ok
  · exact ty93_ok
  · exact ty94_ok
  · exact ty95_ok
  · exact ty97_ok
  · exact ty100_ok
  · exact ty102_ok
  · exact ty106_ok
  · exact ty109_ok
  · exact ty115_ok
  · exact ty117_ok
  · exact ty125_ok
  · exact ty126_ok
  · exact ty127_ok
  · exact ty133_ok
  · exact ty135_ok
  · exact ty137_ok
  · exact ty139_ok
  · exact ty140_ok
  · exact ty141_ok
  · exact ty145_ok
  · exact ty147_ok
  · exact ty151_ok
  · exact ty153_ok
  · exact ty158_ok
  · exact ty165_ok
  · exact ty167_ok
  · exact ty183_ok
  · exact ty191_ok
  · exact ty193_ok
  · exact ty194_ok
  · exact ty196_ok
  · exact ty197_ok
  · exact ty199_ok
  · exact ty203_ok
  · exact ty205_ok
  · exact ty209_ok
  · exact ty221_ok
  · exact ty223_ok
  · exact ty225_ok
  · exact ty227_ok
  · exact ty230_ok
  · exact ty238_ok
  · exact ty245_ok
  · exact ty252_ok
  · exact ty265_ok
  · exact ty274_ok
  · exact ty275_ok
  · exact ty278_ok
theorem has4 : Has Tryz.prog 4:=⟨_,Go.Proofs.Tryz.func4,by kernel_rfl,by kernel_rfl⟩
theorem has5 : Has Tryz.prog 5:=⟨_,Go.Proofs.Tryz.func5,by kernel_rfl,by kernel_rfl⟩
theorem has6 : Has Tryz.prog 6:=⟨_,Go.Proofs.Tryz.func6,by kernel_rfl,by kernel_rfl⟩
theorem has7 : Has Tryz.prog 7:=⟨_,Go.Proofs.Tryz.func7,by kernel_rfl,by kernel_rfl⟩
theorem has8 : Has Tryz.prog 8:=⟨_,Go.Proofs.Tryz.func8,by kernel_rfl,by kernel_rfl⟩
theorem has9 : Has Tryz.prog 9:=⟨_,Go.Proofs.Tryz.func9,by kernel_rfl,by kernel_rfl⟩
theorem has10 : Has Tryz.prog 10:=⟨_,Go.Proofs.Tryz.func10,by kernel_rfl,by kernel_rfl⟩
theorem has11 : Has Tryz.prog 11:=⟨_,Go.Proofs.Tryz.func11,by kernel_rfl,by kernel_rfl⟩
theorem has12 : Has Tryz.prog 12:=⟨_,Go.Proofs.Tryz.func12,by kernel_rfl,by kernel_rfl⟩
theorem has13 : Has Tryz.prog 13:=⟨_,Go.Proofs.Tryz.func13,by kernel_rfl,by kernel_rfl⟩
theorem has14 : Has Tryz.prog 14:=⟨_,Go.Proofs.Tryz.func14,by kernel_rfl,by kernel_rfl⟩
theorem has15 : Has Tryz.prog 15:=⟨_,Go.Proofs.Tryz.func15,by kernel_rfl,by kernel_rfl⟩
theorem has16 : Has Tryz.prog 16:=⟨_,Go.Proofs.Tryz.func16,by kernel_rfl,by kernel_rfl⟩
theorem has17 : Has Tryz.prog 17:=⟨_,Go.Proofs.Tryz.func17,by kernel_rfl,by kernel_rfl⟩
theorem has18 : Has Tryz.prog 18:=⟨_,Go.Proofs.Tryz.func18,by kernel_rfl,by kernel_rfl⟩
theorem has19 : Has Tryz.prog 19:=⟨_,Go.Proofs.Tryz.func19,by kernel_rfl,by kernel_rfl⟩
theorem has20 : Has Tryz.prog 20:=⟨_,Go.Proofs.Tryz.func20,by kernel_rfl,by kernel_rfl⟩
theorem has21 : Has Tryz.prog 21:=⟨_,Go.Proofs.Tryz.func21,by kernel_rfl,by kernel_rfl⟩
theorem has22 : Has Tryz.prog 22:=⟨_,Go.Proofs.Tryz.func22,by kernel_rfl,by kernel_rfl⟩
theorem has23 : Has Tryz.prog 23:=⟨_,Go.Proofs.Tryz.func23,by kernel_rfl,by kernel_rfl⟩
theorem has24 : Has Tryz.prog 24:=⟨_,Go.Proofs.Tryz.func24,by kernel_rfl,by kernel_rfl⟩
theorem has26 : Has Tryz.prog 26:=⟨_,Go.Proofs.Tryz.func26,by kernel_rfl,by kernel_rfl⟩
theorem has27 : Has Tryz.prog 27:=⟨_,Go.Proofs.Tryz.func27,by kernel_rfl,by kernel_rfl⟩
theorem has28 : Has Tryz.prog 28:=⟨_,Go.Proofs.Tryz.func28,by kernel_rfl,by kernel_rfl⟩
theorem has29 : Has Tryz.prog 29:=⟨_,Go.Proofs.Tryz.func29,by kernel_rfl,by kernel_rfl⟩
theorem has30 : Has Tryz.prog 30:=⟨_,Go.Proofs.Tryz.func30,by kernel_rfl,by kernel_rfl⟩
theorem has31 : Has Tryz.prog 31:=⟨_,Go.Proofs.Tryz.func31,by kernel_rfl,by kernel_rfl⟩
theorem has32 : Has Tryz.prog 32:=⟨_,Go.Proofs.Tryz.func32,by kernel_rfl,by kernel_rfl⟩
theorem has33 : Has Tryz.prog 33:=⟨_,Go.Proofs.Tryz.func33,by kernel_rfl,by kernel_rfl⟩
theorem has34 : Has Tryz.prog 34:=⟨_,Go.Proofs.Tryz.func34,by kernel_rfl,by kernel_rfl⟩
theorem has35 : Has Tryz.prog 35:=⟨_,Go.Proofs.Tryz.func35,by kernel_rfl,by kernel_rfl⟩
theorem has36 : Has Tryz.prog 36:=⟨_,Go.Proofs.Tryz.func36,by kernel_rfl,by kernel_rfl⟩
theorem has37 : Has Tryz.prog 37:=⟨_,Go.Proofs.Tryz.func37,by kernel_rfl,by kernel_rfl⟩
theorem has39 : Has Tryz.prog 39:=⟨_,Go.Proofs.Tryz.func39,by kernel_rfl,by kernel_rfl⟩
theorem has40 : Has Tryz.prog 40:=⟨_,Go.Proofs.Tryz.func40,by kernel_rfl,by kernel_rfl⟩
theorem has41 : Has Tryz.prog 41:=⟨_,Go.Proofs.Tryz.func41,by kernel_rfl,by kernel_rfl⟩
theorem has42 : Has Tryz.prog 42:=⟨_,Go.Proofs.Tryz.func42,by kernel_rfl,by kernel_rfl⟩
theorem has44 : Has Tryz.prog 44:=⟨_,Go.Proofs.Tryz.func44,by kernel_rfl,by kernel_rfl⟩
theorem has45 : Has Tryz.prog 45:=⟨_,Go.Proofs.Tryz.func45,by kernel_rfl,by kernel_rfl⟩
theorem has46 : Has Tryz.prog 46:=⟨_,Go.Proofs.Tryz.func46,by kernel_rfl,by kernel_rfl⟩
theorem has47 : Has Tryz.prog 47:=⟨_,Go.Proofs.Tryz.func47,by kernel_rfl,by kernel_rfl⟩
theorem has48 : Has Tryz.prog 48:=⟨_,Go.Proofs.Tryz.func48,by kernel_rfl,by kernel_rfl⟩
theorem has49 : Has Tryz.prog 49:=⟨_,Go.Proofs.Tryz.func49,by kernel_rfl,by kernel_rfl⟩
theorem has50 : Has Tryz.prog 50:=⟨_,Go.Proofs.Tryz.func50,by kernel_rfl,by kernel_rfl⟩
theorem has51 : Has Tryz.prog 51:=⟨_,Go.Proofs.Tryz.func51,by kernel_rfl,by kernel_rfl⟩
theorem has52 : Has Tryz.prog 52:=⟨_,Go.Proofs.Tryz.func52,by kernel_rfl,by kernel_rfl⟩
theorem has53 : Has Tryz.prog 53:=⟨_,Go.Proofs.Tryz.func53,by kernel_rfl,by kernel_rfl⟩
theorem has56 : Has Tryz.prog 56:=⟨_,Go.Proofs.Tryz.func56,by kernel_rfl,by kernel_rfl⟩
theorem has57 : Has Tryz.prog 57:=⟨_,Go.Proofs.Tryz.func57,by kernel_rfl,by kernel_rfl⟩
theorem has59 : Has Tryz.prog 59:=⟨_,Go.Proofs.Tryz.func59,by kernel_rfl,by kernel_rfl⟩
theorem has60 : Has Tryz.prog 60:=⟨_,Go.Proofs.Tryz.func60,by kernel_rfl,by kernel_rfl⟩
theorem has61 : Has Tryz.prog 61:=⟨_,Go.Proofs.Tryz.func61,by kernel_rfl,by kernel_rfl⟩
theorem has63 : Has Tryz.prog 63:=⟨_,Go.Proofs.Tryz.func63,by kernel_rfl,by kernel_rfl⟩
theorem has64 : Has Tryz.prog 64:=⟨_,Go.Proofs.Tryz.func64,by kernel_rfl,by kernel_rfl⟩
theorem has65 : Has Tryz.prog 65:=⟨_,Go.Proofs.Tryz.func65,by kernel_rfl,by kernel_rfl⟩
theorem has66 : Has Tryz.prog 66:=⟨_,Go.Proofs.Tryz.func66,by kernel_rfl,by kernel_rfl⟩
theorem has67 : Has Tryz.prog 67:=⟨_,Go.Proofs.Tryz.func67,by kernel_rfl,by kernel_rfl⟩
theorem has68 : Has Tryz.prog 68:=⟨_,Go.Proofs.Tryz.func68,by kernel_rfl,by kernel_rfl⟩
theorem has69 : Has Tryz.prog 69:=⟨_,Go.Proofs.Tryz.func69,by kernel_rfl,by kernel_rfl⟩
theorem has71 : Has Tryz.prog 71:=⟨_,Go.Proofs.Tryz.func71,by kernel_rfl,by kernel_rfl⟩
theorem has72 : Has Tryz.prog 72:=⟨_,Go.Proofs.Tryz.func72,by kernel_rfl,by kernel_rfl⟩
theorem has73 : Has Tryz.prog 73:=⟨_,Go.Proofs.Tryz.func73,by kernel_rfl,by kernel_rfl⟩
theorem has74 : Has Tryz.prog 74:=⟨_,Go.Proofs.Tryz.func74,by kernel_rfl,by kernel_rfl⟩
theorem has101 : Has Tryz.prog 101:=⟨_,Go.Proofs.Tryz.func101,by kernel_rfl,by kernel_rfl⟩
theorem has102 : Has Tryz.prog 102:=⟨_,Go.Proofs.Tryz.func102,by kernel_rfl,by kernel_rfl⟩
theorem has103 : Has Tryz.prog 103:=⟨_,Go.Proofs.Tryz.func103,by kernel_rfl,by kernel_rfl⟩
theorem has104 : Has Tryz.prog 104:=⟨_,Go.Proofs.Tryz.func104,by kernel_rfl,by kernel_rfl⟩
theorem has105 : Has Tryz.prog 105:=⟨_,Go.Proofs.Tryz.func105,by kernel_rfl,by kernel_rfl⟩
theorem has106 : Has Tryz.prog 106:=⟨_,Go.Proofs.Tryz.func106,by kernel_rfl,by kernel_rfl⟩
theorem has107 : Has Tryz.prog 107:=⟨_,Go.Proofs.Tryz.func107,by kernel_rfl,by kernel_rfl⟩
theorem has108 : Has Tryz.prog 108:=⟨_,Go.Proofs.Tryz.func108,by kernel_rfl,by kernel_rfl⟩
theorem has109 : Has Tryz.prog 109:=⟨_,Go.Proofs.Tryz.func109,by kernel_rfl,by kernel_rfl⟩
theorem has110 : Has Tryz.prog 110:=⟨_,Go.Proofs.Tryz.func110,by kernel_rfl,by kernel_rfl⟩
theorem has111 : Has Tryz.prog 111:=⟨_,Go.Proofs.Tryz.func111,by kernel_rfl,by kernel_rfl⟩
theorem has112 : Has Tryz.prog 112:=⟨_,Go.Proofs.Tryz.func112,by kernel_rfl,by kernel_rfl⟩
theorem has113 : Has Tryz.prog 113:=⟨_,Go.Proofs.Tryz.func113,by kernel_rfl,by kernel_rfl⟩
theorem has114 : Has Tryz.prog 114:=⟨_,Go.Proofs.Tryz.func114,by kernel_rfl,by kernel_rfl⟩
theorem has115 : Has Tryz.prog 115:=⟨_,Go.Proofs.Tryz.func115,by kernel_rfl,by kernel_rfl⟩
theorem has116 : Has Tryz.prog 116:=⟨_,Go.Proofs.Tryz.func116,by kernel_rfl,by kernel_rfl⟩
theorem has117 : Has Tryz.prog 117:=⟨_,Go.Proofs.Tryz.func117,by kernel_rfl,by kernel_rfl⟩
theorem has118 : Has Tryz.prog 118:=⟨_,Go.Proofs.Tryz.func118,by kernel_rfl,by kernel_rfl⟩
theorem has119 : Has Tryz.prog 119:=⟨_,Go.Proofs.Tryz.func119,by kernel_rfl,by kernel_rfl⟩
theorem has120 : Has Tryz.prog 120:=⟨_,Go.Proofs.Tryz.func120,by kernel_rfl,by kernel_rfl⟩
theorem has121 : Has Tryz.prog 121:=⟨_,Go.Proofs.Tryz.func121,by kernel_rfl,by kernel_rfl⟩
theorem has122 : Has Tryz.prog 122:=⟨_,Go.Proofs.Tryz.func122,by kernel_rfl,by kernel_rfl⟩
theorem has123 : Has Tryz.prog 123:=⟨_,Go.Proofs.Tryz.func123,by kernel_rfl,by kernel_rfl⟩
theorem has124 : Has Tryz.prog 124:=⟨_,Go.Proofs.Tryz.func124,by kernel_rfl,by kernel_rfl⟩
theorem has125 : Has Tryz.prog 125:=⟨_,Go.Proofs.Tryz.func125,by kernel_rfl,by kernel_rfl⟩
theorem has126 : Has Tryz.prog 126:=⟨_,Go.Proofs.Tryz.func126,by kernel_rfl,by kernel_rfl⟩
theorem has127 : Has Tryz.prog 127:=⟨_,Go.Proofs.Tryz.func127,by kernel_rfl,by kernel_rfl⟩
theorem has128 : Has Tryz.prog 128:=⟨_,Go.Proofs.Tryz.func128,by kernel_rfl,by kernel_rfl⟩
theorem has129 : Has Tryz.prog 129:=⟨_,Go.Proofs.Tryz.func129,by kernel_rfl,by kernel_rfl⟩
theorem has130 : Has Tryz.prog 130:=⟨_,Go.Proofs.Tryz.func130,by kernel_rfl,by kernel_rfl⟩
theorem has131 : Has Tryz.prog 131:=⟨_,Go.Proofs.Tryz.func131,by kernel_rfl,by kernel_rfl⟩
theorem has132 : Has Tryz.prog 132:=⟨_,Go.Proofs.Tryz.func132,by kernel_rfl,by kernel_rfl⟩
theorem has133 : Has Tryz.prog 133:=⟨_,Go.Proofs.Tryz.func133,by kernel_rfl,by kernel_rfl⟩
theorem has134 : Has Tryz.prog 134:=⟨_,Go.Proofs.Tryz.func134,by kernel_rfl,by kernel_rfl⟩
theorem has135 : Has Tryz.prog 135:=⟨_,Go.Proofs.Tryz.func135,by kernel_rfl,by kernel_rfl⟩
theorem has136 : Has Tryz.prog 136:=⟨_,Go.Proofs.Tryz.func136,by kernel_rfl,by kernel_rfl⟩
theorem has137 : Has Tryz.prog 137:=⟨_,Go.Proofs.Tryz.func137,by kernel_rfl,by kernel_rfl⟩
theorem has138 : Has Tryz.prog 138:=⟨_,Go.Proofs.Tryz.func138,by kernel_rfl,by kernel_rfl⟩
theorem has139 : Has Tryz.prog 139:=⟨_,Go.Proofs.Tryz.func139,by kernel_rfl,by kernel_rfl⟩
theorem has151 : Has Tryz.prog 151:=⟨_,Go.Proofs.Tryz.func151,by kernel_rfl,by kernel_rfl⟩
theorem has152 : Has Tryz.prog 152:=⟨_,Go.Proofs.Tryz.func152,by kernel_rfl,by kernel_rfl⟩
theorem has153 : Has Tryz.prog 153:=⟨_,Go.Proofs.Tryz.func153,by kernel_rfl,by kernel_rfl⟩
theorem has154 : Has Tryz.prog 154:=⟨_,Go.Proofs.Tryz.func154,by kernel_rfl,by kernel_rfl⟩
theorem has155 : Has Tryz.prog 155:=⟨_,Go.Proofs.Tryz.func155,by kernel_rfl,by kernel_rfl⟩
theorem has156 : Has Tryz.prog 156:=⟨_,Go.Proofs.Tryz.func156,by kernel_rfl,by kernel_rfl⟩
theorem has157 : Has Tryz.prog 157:=⟨_,Go.Proofs.Tryz.func157,by kernel_rfl,by kernel_rfl⟩
theorem has158 : Has Tryz.prog 158:=⟨_,Go.Proofs.Tryz.func158,by kernel_rfl,by kernel_rfl⟩
theorem has159 : Has Tryz.prog 159:=⟨_,Go.Proofs.Tryz.func159,by kernel_rfl,by kernel_rfl⟩
theorem has160 : Has Tryz.prog 160:=⟨_,Go.Proofs.Tryz.func160,by kernel_rfl,by kernel_rfl⟩
theorem has161 : Has Tryz.prog 161:=⟨_,Go.Proofs.Tryz.func161,by kernel_rfl,by kernel_rfl⟩
theorem has162 : Has Tryz.prog 162:=⟨_,Go.Proofs.Tryz.func162,by kernel_rfl,by kernel_rfl⟩
theorem has163 : Has Tryz.prog 163:=⟨_,Go.Proofs.Tryz.func163,by kernel_rfl,by kernel_rfl⟩
theorem has164 : Has Tryz.prog 164:=⟨_,Go.Proofs.Tryz.func164,by kernel_rfl,by kernel_rfl⟩
theorem has165 : Has Tryz.prog 165:=⟨_,Go.Proofs.Tryz.func165,by kernel_rfl,by kernel_rfl⟩
theorem has166 : Has Tryz.prog 166:=⟨_,Go.Proofs.Tryz.func166,by kernel_rfl,by kernel_rfl⟩
theorem has167 : Has Tryz.prog 167:=⟨_,Go.Proofs.Tryz.func167,by kernel_rfl,by kernel_rfl⟩
theorem has168 : Has Tryz.prog 168:=⟨_,Go.Proofs.Tryz.func168,by kernel_rfl,by kernel_rfl⟩
theorem has169 : Has Tryz.prog 169:=⟨_,Go.Proofs.Tryz.func169,by kernel_rfl,by kernel_rfl⟩
theorem has170 : Has Tryz.prog 170:=⟨_,Go.Proofs.Tryz.func170,by kernel_rfl,by kernel_rfl⟩
theorem has171 : Has Tryz.prog 171:=⟨_,Go.Proofs.Tryz.func171,by kernel_rfl,by kernel_rfl⟩
theorem has172 : Has Tryz.prog 172:=⟨_,Go.Proofs.Tryz.func172,by kernel_rfl,by kernel_rfl⟩
theorem has173 : Has Tryz.prog 173:=⟨_,Go.Proofs.Tryz.func173,by kernel_rfl,by kernel_rfl⟩
theorem has174 : Has Tryz.prog 174:=⟨_,Go.Proofs.Tryz.func174,by kernel_rfl,by kernel_rfl⟩
theorem has175 : Has Tryz.prog 175:=⟨_,Go.Proofs.Tryz.func175,by kernel_rfl,by kernel_rfl⟩
theorem has176 : Has Tryz.prog 176:=⟨_,Go.Proofs.Tryz.func176,by kernel_rfl,by kernel_rfl⟩
theorem has180 : Has Tryz.prog 180:=⟨_,Go.Proofs.Tryz.func180,by kernel_rfl,by kernel_rfl⟩
theorem has181 : Has Tryz.prog 181:=⟨_,Go.Proofs.Tryz.func181,by kernel_rfl,by kernel_rfl⟩
theorem has182 : Has Tryz.prog 182:=⟨_,Go.Proofs.Tryz.func182,by kernel_rfl,by kernel_rfl⟩
theorem has183 : Has Tryz.prog 183:=⟨_,Go.Proofs.Tryz.func183,by kernel_rfl,by kernel_rfl⟩
theorem has184 : Has Tryz.prog 184:=⟨_,Go.Proofs.Tryz.func184,by kernel_rfl,by kernel_rfl⟩
theorem has185 : Has Tryz.prog 185:=⟨_,Go.Proofs.Tryz.func185,by kernel_rfl,by kernel_rfl⟩
theorem has186 : Has Tryz.prog 186:=⟨_,Go.Proofs.Tryz.func186,by kernel_rfl,by kernel_rfl⟩
theorem has187 : Has Tryz.prog 187:=⟨_,Go.Proofs.Tryz.func187,by kernel_rfl,by kernel_rfl⟩
theorem has188 : Has Tryz.prog 188:=⟨_,Go.Proofs.Tryz.func188,by kernel_rfl,by kernel_rfl⟩
theorem has189 : Has Tryz.prog 189:=⟨_,Go.Proofs.Tryz.func189,by kernel_rfl,by kernel_rfl⟩
theorem has190 : Has Tryz.prog 190:=⟨_,Go.Proofs.Tryz.func190,by kernel_rfl,by kernel_rfl⟩
theorem has191 : Has Tryz.prog 191:=⟨_,Go.Proofs.Tryz.func191,by kernel_rfl,by kernel_rfl⟩
theorem has192 : Has Tryz.prog 192:=⟨_,Go.Proofs.Tryz.func192,by kernel_rfl,by kernel_rfl⟩
theorem has193 : Has Tryz.prog 193:=⟨_,Go.Proofs.Tryz.func193,by kernel_rfl,by kernel_rfl⟩
theorem has194 : Has Tryz.prog 194:=⟨_,Go.Proofs.Tryz.func194,by kernel_rfl,by kernel_rfl⟩
theorem has195 : Has Tryz.prog 195:=⟨_,Go.Proofs.Tryz.func195,by kernel_rfl,by kernel_rfl⟩
theorem has196 : Has Tryz.prog 196:=⟨_,Go.Proofs.Tryz.func196,by kernel_rfl,by kernel_rfl⟩
theorem has197 : Has Tryz.prog 197:=⟨_,Go.Proofs.Tryz.func197,by kernel_rfl,by kernel_rfl⟩
theorem has198 : Has Tryz.prog 198:=⟨_,Go.Proofs.Tryz.func198,by kernel_rfl,by kernel_rfl⟩
theorem has199 : Has Tryz.prog 199:=⟨_,Go.Proofs.Tryz.func199,by kernel_rfl,by kernel_rfl⟩
theorem has200 : Has Tryz.prog 200:=⟨_,Go.Proofs.Tryz.func200,by kernel_rfl,by kernel_rfl⟩
theorem has201 : Has Tryz.prog 201:=⟨_,Go.Proofs.Tryz.func201,by kernel_rfl,by kernel_rfl⟩
theorem has202 : Has Tryz.prog 202:=⟨_,Go.Proofs.Tryz.func202,by kernel_rfl,by kernel_rfl⟩
theorem has203 : Has Tryz.prog 203:=⟨_,Go.Proofs.Tryz.func203,by kernel_rfl,by kernel_rfl⟩
theorem has204 : Has Tryz.prog 204:=⟨_,Go.Proofs.Tryz.func204,by kernel_rfl,by kernel_rfl⟩
theorem has207 : Has Tryz.prog 207:=⟨_,Go.Proofs.Tryz.func207,by kernel_rfl,by kernel_rfl⟩
theorem has208 : Has Tryz.prog 208:=⟨_,Go.Proofs.Tryz.func208,by kernel_rfl,by kernel_rfl⟩
theorem has209 : Has Tryz.prog 209:=⟨_,Go.Proofs.Tryz.func209,by kernel_rfl,by kernel_rfl⟩
theorem has226 : Has Tryz.prog 226:=⟨_,Go.Proofs.Tryz.func226,by kernel_rfl,by kernel_rfl⟩
theorem has227 : Has Tryz.prog 227:=⟨_,Go.Proofs.Tryz.func227,by kernel_rfl,by kernel_rfl⟩
theorem has228 : Has Tryz.prog 228:=⟨_,Go.Proofs.Tryz.func228,by kernel_rfl,by kernel_rfl⟩
end Go.Hw
