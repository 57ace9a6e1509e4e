import Derived.Test.YtajmniiiahhfaaaGreatDoorProg
import Derived.Test.YtajmniiiahhfaaaGreatDoorHB
import Derived.KernelRfl
set_option linter.unusedSimpArgs false
/- The table of types and the functions of this seat's program, for the walk kit: printed by types.py off the dump. -/
set_option linter.unusedVariables false
set_option maxRecDepth 100000
namespace Go.Hw
open Go
open Go.Proofs (Tryz.prog)
def fd (t o : Nat) (b : Bool := false) : Field := { name := if b then "_" else "", type := t, offset := o, embedded := false, tag := "", pkgPath := "", byteOffset := 0 }
def ty2 : Ty := ⟨2, .int .i64, 1, 8, .int .i64 0⟩
theorem ty2_ok : TyOk Tryz.prog ty2 := ⟨by kernel_rfl, by kernel_rfl⟩
def ty3 : Ty := ⟨3, .int .i64, 1, 8, .int .i64 0⟩
theorem ty3_ok : TyOk Tryz.prog ty3 := ⟨by kernel_rfl, by kernel_rfl⟩
def ty4 : Ty := ⟨4, .bool, 1, 1, .bool false⟩
theorem ty4_ok : TyOk Tryz.prog ty4 := ⟨by kernel_rfl, by kernel_rfl⟩
def ty5 : Ty := ⟨5, .int .u8, 1, 1, .int .u8 0⟩
theorem ty5_ok : TyOk Tryz.prog ty5 := ⟨by kernel_rfl, by kernel_rfl⟩
def ty9 : Ty := ⟨9, .string, 1, 16, .string ByteArray.empty⟩
theorem ty9_ok : TyOk Tryz.prog ty9 := ⟨by kernel_rfl, by kernel_rfl⟩
def ty22 : Ty := ⟨22, .slice 73, 1, 24, .slice none 0 0⟩
theorem ty22_ok : TyOk Tryz.prog ty22 := ⟨by kernel_rfl, by kernel_rfl⟩
def ty24 : Ty := ⟨24, .struct #[fd 3 0, fd 3 1, fd 3 2, fd 3 3], 4, 32, .agg #[.int .i64 0, .int .i64 0, .int .i64 0, .int .i64 0]⟩
theorem ty24_ok : TyOk Tryz.prog ty24 := ⟨by kernel_rfl, by kernel_rfl⟩
def ty25 : Ty := ⟨25, .slice 3, 1, 24, .slice none 0 0⟩
theorem ty25_ok : TyOk Tryz.prog ty25 := ⟨by kernel_rfl, by kernel_rfl⟩
def ty26 : Ty := ⟨26, .slice 103, 1, 24, .slice none 0 0⟩
theorem ty26_ok : TyOk Tryz.prog ty26 := ⟨by kernel_rfl, by kernel_rfl⟩
def ty28 : Ty := ⟨28, .struct #[fd 24 0, fd 3 4, fd 3 5, fd 3 6, fd 3 7, fd 3 8, fd 25 9, fd 25 10, fd 26 11, fd 26 12], 13, 168, .agg #[.int .i64 0, .int .i64 0, .int .i64 0, .int .i64 0, .int .i64 0, .int .i64 0, .int .i64 0, .int .i64 0, .int .i64 0, .slice none 0 0, .slice none 0 0, .slice none 0 0, .slice none 0 0]⟩
theorem ty28_ok : TyOk Tryz.prog ty28 := ⟨by kernel_rfl, by kernel_rfl⟩
def ty38 : Ty := ⟨38, .struct #[fd 3 0, fd 28 1, fd 3 14], 15, 184, .agg #[.int .i64 0, .int .i64 0, .int .i64 0, .int .i64 0, .int .i64 0, .int .i64 0, .int .i64 0, .int .i64 0, .int .i64 0, .int .i64 0, .slice none 0 0, .slice none 0 0, .slice none 0 0, .slice none 0 0, .int .i64 0]⟩
theorem ty38_ok : TyOk Tryz.prog ty38 := ⟨by kernel_rfl, by kernel_rfl⟩
def ty42 : Ty := ⟨42, .slice 24, 1, 24, .slice none 0 0⟩
theorem ty42_ok : TyOk Tryz.prog ty42 := ⟨by kernel_rfl, by kernel_rfl⟩
def ty47 : Ty := ⟨47, .struct #[fd 22 0], 1, 24, .agg #[.slice none 0 0]⟩
theorem ty47_ok : TyOk Tryz.prog ty47 := ⟨by kernel_rfl, by kernel_rfl⟩
def ty48 : Ty := ⟨48, .int .i64, 1, 8, .int .i64 0⟩
theorem ty48_ok : TyOk Tryz.prog ty48 := ⟨by kernel_rfl, by kernel_rfl⟩
def ty57 : Ty := ⟨57, .struct #[fd 3 0, fd 3 1, fd 25 2, fd 9 3], 4, 56, .agg #[.int .i64 0, .int .i64 0, .slice none 0 0, .string ByteArray.empty]⟩
theorem ty57_ok : TyOk Tryz.prog ty57 := ⟨by kernel_rfl, by kernel_rfl⟩
def ty59 : Ty := ⟨59, .struct #[fd 24 0, fd 3 4], 5, 40, .agg #[.int .i64 0, .int .i64 0, .int .i64 0, .int .i64 0, .int .i64 0]⟩
theorem ty59_ok : TyOk Tryz.prog ty59 := ⟨by kernel_rfl, by kernel_rfl⟩
def ty61 : Ty := ⟨61, .struct #[fd 3 0, fd 3 1], 2, 16, .agg #[.int .i64 0, .int .i64 0]⟩
theorem ty61_ok : TyOk Tryz.prog ty61 := ⟨by kernel_rfl, by kernel_rfl⟩
def ty63 : Ty := ⟨63, .struct #[fd 3 0, fd 3 1, fd 3 2, fd 24 3, fd 3 7, fd 3 8, fd 3 9, fd 3 10, fd 3 11, fd 3 12, fd 3 13, fd 3 14, fd 61 15], 17, 136, .agg #[.int .i64 0, .int .i64 0, .int .i64 0, .int .i64 0, .int .i64 0, .int .i64 0, .int .i64 0, .int .i64 0, .int .i64 0, .int .i64 0, .int .i64 0, .int .i64 0, .int .i64 0, .int .i64 0, .int .i64 0, .int .i64 0, .int .i64 0]⟩
theorem ty63_ok : TyOk Tryz.prog ty63 := ⟨by kernel_rfl, by kernel_rfl⟩
def ty65 : Ty := ⟨65, .struct #[fd 3 0, fd 3 1, fd 4 2], 3, 24, .agg #[.int .i64 0, .int .i64 0, .bool false]⟩
theorem ty65_ok : TyOk Tryz.prog ty65 := ⟨by kernel_rfl, by kernel_rfl⟩
def ty67 : Ty := ⟨67, .struct #[fd 3 0, fd 3 1], 2, 16, .agg #[.int .i64 0, .int .i64 0]⟩
theorem ty67_ok : TyOk Tryz.prog ty67 := ⟨by kernel_rfl, by kernel_rfl⟩
def ty69 : Ty := ⟨69, .struct #[fd 3 0, fd 3 1, fd 25 2], 3, 40, .agg #[.int .i64 0, .int .i64 0, .slice none 0 0]⟩
theorem ty69_ok : TyOk Tryz.prog ty69 := ⟨by kernel_rfl, by kernel_rfl⟩
def ty70 : Ty := ⟨70, .array 32 5, 32, 32, .agg #[.int .u8 0, .int .u8 0, .int .u8 0, .int .u8 0, .int .u8 0, .int .u8 0, .int .u8 0, .int .u8 0, .int .u8 0, .int .u8 0, .int .u8 0, .int .u8 0, .int .u8 0, .int .u8 0, .int .u8 0, .int .u8 0, .int .u8 0, .int .u8 0, .int .u8 0, .int .u8 0, .int .u8 0, .int .u8 0, .int .u8 0, .int .u8 0, .int .u8 0, .int .u8 0, .int .u8 0, .int .u8 0, .int .u8 0, .int .u8 0, .int .u8 0, .int .u8 0]⟩
theorem ty70_ok : TyOk Tryz.prog ty70 := ⟨by kernel_rfl, by kernel_rfl⟩
def ty71 : Ty := ⟨71, .array 32 5, 32, 32, .agg #[.int .u8 0, .int .u8 0, .int .u8 0, .int .u8 0, .int .u8 0, .int .u8 0, .int .u8 0, .int .u8 0, .int .u8 0, .int .u8 0, .int .u8 0, .int .u8 0, .int .u8 0, .int .u8 0, .int .u8 0, .int .u8 0, .int .u8 0, .int .u8 0, .int .u8 0, .int .u8 0, .int .u8 0, .int .u8 0, .int .u8 0, .int .u8 0, .int .u8 0, .int .u8 0, .int .u8 0, .int .u8 0, .int .u8 0, .int .u8 0, .int .u8 0, .int .u8 0]⟩
theorem ty71_ok : TyOk Tryz.prog ty71 := ⟨by kernel_rfl, by kernel_rfl⟩
def ty73 : Ty := ⟨73, .struct #[fd 3 0, fd 3 1, fd 3 2, fd 57 3, fd 59 7, fd 28 12, fd 63 25, fd 65 42, fd 67 45, fd 69 47, fd 71 50], 82, 536, .agg #[.int .i64 0, .int .i64 0, .int .i64 0, .int .i64 0, .int .i64 0, .slice none 0 0, .string ByteArray.empty, .int .i64 0, .int .i64 0, .int .i64 0, .int .i64 0, .int .i64 0, .int .i64 0, .int .i64 0, .int .i64 0, .int .i64 0, .int .i64 0, .int .i64 0, .int .i64 0, .int .i64 0, .int .i64 0, .slice none 0 0, .slice none 0 0, .slice none 0 0, .slice none 0 0, .int .i64 0, .int .i64 0, .int .i64 0, .int .i64 0, .int .i64 0, .int .i64 0, .int .i64 0, .int .i64 0, .int .i64 0, .int .i64 0, .int .i64 0, .int .i64 0, .int .i64 0, .int .i64 0, .int .i64 0, .int .i64 0, .int .i64 0, .int .i64 0, .int .i64 0, .bool false, .int .i64 0, .int .i64 0, .int .i64 0, .int .i64 0, .slice none 0 0, .int .u8 0, .int .u8 0, .int .u8 0, .int .u8 0, .int .u8 0, .int .u8 0, .int .u8 0, .int .u8 0, .int .u8 0, .int .u8 0, .int .u8 0, .int .u8 0, .int .u8 0, .int .u8 0, .int .u8 0, .int .u8 0, .int .u8 0, .int .u8 0, .int .u8 0, .int .u8 0, .int .u8 0, .int .u8 0, .int .u8 0, .int .u8 0, .int .u8 0, .int .u8 0, .int .u8 0, .int .u8 0, .int .u8 0, .int .u8 0, .int .u8 0, .int .u8 0]⟩
theorem ty73_ok : TyOk Tryz.prog ty73 := ⟨by kernel_rfl, by kernel_rfl⟩
def ty76 : Ty := ⟨76, .func #[73, 73] #[4] false, 1, 8, .nilFunc⟩
theorem ty76_ok : TyOk Tryz.prog ty76 := ⟨by kernel_rfl, by kernel_rfl⟩
def ty78 : Ty := ⟨78, .slice 5, 1, 24, .slice none 0 0⟩
theorem ty78_ok : TyOk Tryz.prog ty78 := ⟨by kernel_rfl, by kernel_rfl⟩
def ty87 : Ty := ⟨87, .slice 71, 1, 24, .slice none 0 0⟩
theorem ty87_ok : TyOk Tryz.prog ty87 := ⟨by kernel_rfl, by kernel_rfl⟩
def ty94 : Ty := ⟨94, .func #[73] #[4] false, 1, 8, .nilFunc⟩
theorem ty94_ok : TyOk Tryz.prog ty94 := ⟨by kernel_rfl, by kernel_rfl⟩
def ty96 : Ty := ⟨96, .array 2 73, 164, 1072, .agg #[.int .i64 0, .int .i64 0, .int .i64 0, .int .i64 0, .int .i64 0, .slice none 0 0, .string ByteArray.empty, .int .i64 0, .int .i64 0, .int .i64 0, .int .i64 0, .int .i64 0, .int .i64 0, .int .i64 0, .int .i64 0, .int .i64 0, .int .i64 0, .int .i64 0, .int .i64 0, .int .i64 0, .int .i64 0, .slice none 0 0, .slice none 0 0, .slice none 0 0, .slice none 0 0, .int .i64 0, .int .i64 0, .int .i64 0, .int .i64 0, .int .i64 0, .int .i64 0, .int .i64 0, .int .i64 0, .int .i64 0, .int .i64 0, .int .i64 0, .int .i64 0, .int .i64 0, .int .i64 0, .int .i64 0, .int .i64 0, .int .i64 0, .int .i64 0, .int .i64 0, .bool false, .int .i64 0, .int .i64 0, .int .i64 0, .int .i64 0, .slice none 0 0, .int .u8 0, .int .u8 0, .int .u8 0, .int .u8 0, .int .u8 0, .int .u8 0, .int .u8 0, .int .u8 0, .int .u8 0, .int .u8 0, .int .u8 0, .int .u8 0, .int .u8 0, .int .u8 0, .int .u8 0, .int .u8 0, .int .u8 0, .int .u8 0, .int .u8 0, .int .u8 0, .int .u8 0, .int .u8 0, .int .u8 0, .int .u8 0, .int .u8 0, .int .u8 0, .int .u8 0, .int .u8 0, .int .u8 0, .int .u8 0, .int .u8 0, .int .u8 0, .int .i64 0, .int .i64 0, .int .i64 0, .int .i64 0, .int .i64 0, .slice none 0 0, .string ByteArray.empty, .int .i64 0, .int .i64 0, .int .i64 0, .int .i64 0, .int .i64 0, .int .i64 0, .int .i64 0, .int .i64 0, .int .i64 0, .int .i64 0, .int .i64 0, .int .i64 0, .int .i64 0, .int .i64 0, .slice none 0 0, .slice none 0 0, .slice none 0 0, .slice none 0 0, .int .i64 0, .int .i64 0, .int .i64 0, .int .i64 0, .int .i64 0, .int .i64 0, .int .i64 0, .int .i64 0, .int .i64 0, .int .i64 0, .int .i64 0, .int .i64 0, .int .i64 0, .int .i64 0, .int .i64 0, .int .i64 0, .int .i64 0, .int .i64 0, .int .i64 0, .bool false, .int .i64 0, .int .i64 0, .int .i64 0, .int .i64 0, .slice none 0 0, .int .u8 0, .int .u8 0, .int .u8 0, .int .u8 0, .int .u8 0, .int .u8 0, .int .u8 0, .int .u8 0, .int .u8 0, .int .u8 0, .int .u8 0, .int .u8 0, .int .u8 0, .int .u8 0, .int .u8 0, .int .u8 0, .int .u8 0, .int .u8 0, .int .u8 0, .int .u8 0, .int .u8 0, .int .u8 0, .int .u8 0, .int .u8 0, .int .u8 0, .int .u8 0, .int .u8 0, .int .u8 0, .int .u8 0, .int .u8 0, .int .u8 0, .int .u8 0]⟩
theorem ty96_ok : TyOk Tryz.prog ty96 := ⟨by kernel_rfl, by kernel_rfl⟩
def ty97 : Ty := ⟨97, .map 24 96, 1, 8, .map none⟩
theorem ty97_ok : TyOk Tryz.prog ty97 := ⟨by kernel_rfl, by kernel_rfl⟩
def ty103 : Ty := ⟨103, .struct #[fd 3 0, fd 4 1], 2, 16, .agg #[.int .i64 0, .bool false]⟩
theorem ty103_ok : TyOk Tryz.prog ty103 := ⟨by kernel_rfl, by kernel_rfl⟩
def ty106 : Ty := ⟨106, .func #[24, 24] #[3] false, 1, 8, .nilFunc⟩
theorem ty106_ok : TyOk Tryz.prog ty106 := ⟨by kernel_rfl, by kernel_rfl⟩
def ty107 : Ty := ⟨107, .func #[24, 96] #[4] false, 1, 8, .nilFunc⟩
theorem ty107_ok : TyOk Tryz.prog ty107 := ⟨by kernel_rfl, by kernel_rfl⟩
def ty110 : Ty := ⟨110, .func #[73, 73] #[3] false, 1, 8, .nilFunc⟩
theorem ty110_ok : TyOk Tryz.prog ty110 := ⟨by kernel_rfl, by kernel_rfl⟩
def ty114 : Ty := ⟨114, .func #[3] #[4] false, 1, 8, .nilFunc⟩
theorem ty114_ok : TyOk Tryz.prog ty114 := ⟨by kernel_rfl, by kernel_rfl⟩
def ty115 : Ty := ⟨115, .map 71 4, 1, 8, .map none⟩
theorem ty115_ok : TyOk Tryz.prog ty115 := ⟨by kernel_rfl, by kernel_rfl⟩
def ty124 : Ty := ⟨124, .slice 47, 1, 24, .slice none 0 0⟩
theorem ty124_ok : TyOk Tryz.prog ty124 := ⟨by kernel_rfl, by kernel_rfl⟩
def ty128 : Ty := ⟨128, .func #[94] #[] false, 1, 8, .nilFunc⟩
theorem ty128_ok : TyOk Tryz.prog ty128 := ⟨by kernel_rfl, by kernel_rfl⟩
def ty137 : Ty := ⟨137, .int .u64, 1, 8, .int .u64 0⟩
theorem ty137_ok : TyOk Tryz.prog ty137 := ⟨by kernel_rfl, by kernel_rfl⟩
def ty140 : Ty := ⟨140, .slice 146, 1, 24, .slice none 0 0⟩
theorem ty140_ok : TyOk Tryz.prog ty140 := ⟨by kernel_rfl, by kernel_rfl⟩
def ty144 : Ty := ⟨144, .slice 9, 1, 24, .slice none 0 0⟩
theorem ty144_ok : TyOk Tryz.prog ty144 := ⟨by kernel_rfl, by kernel_rfl⟩
def ty146 : Ty := ⟨146, .struct #[fd 3 0, fd 3 1, fd 9 2, fd 140 3, fd 144 4], 5, 80, .agg #[.int .i64 0, .int .i64 0, .string ByteArray.empty, .slice none 0 0, .slice none 0 0]⟩
theorem ty146_ok : TyOk Tryz.prog ty146 := ⟨by kernel_rfl, by kernel_rfl⟩
def ty152 : Ty := ⟨152, .func #[73, 158] #[] false, 1, 8, .nilFunc⟩
theorem ty152_ok : TyOk Tryz.prog ty152 := ⟨by kernel_rfl, by kernel_rfl⟩
def ty154 : Ty := ⟨154, .struct #[fd 94 0, fd 152 1], 2, 16, .agg #[.nilFunc, .nilFunc]⟩
theorem ty154_ok : TyOk Tryz.prog ty154 := ⟨by kernel_rfl, by kernel_rfl⟩
def ty156 : Ty := ⟨156, .map 3 154, 1, 8, .map none⟩
theorem ty156_ok : TyOk Tryz.prog ty156 := ⟨by kernel_rfl, by kernel_rfl⟩
def ty158 : Ty := ⟨158, .pointer 73, 1, 8, .pointer none⟩
theorem ty158_ok : TyOk Tryz.prog ty158 := ⟨by kernel_rfl, by kernel_rfl⟩
def ty163 : Ty := ⟨163, .int .i64, 1, 8, .int .i64 0⟩
theorem ty163_ok : TyOk Tryz.prog ty163 := ⟨by kernel_rfl, by kernel_rfl⟩
def ty170 : Ty := ⟨170, .int .u32, 1, 4, .int .u32 0⟩
theorem ty170_ok : TyOk Tryz.prog ty170 := ⟨by kernel_rfl, by kernel_rfl⟩
def ty172 : Ty := ⟨172, .int .u64, 1, 8, .int .u64 0⟩
theorem ty172_ok : TyOk Tryz.prog ty172 := ⟨by kernel_rfl, by kernel_rfl⟩
def ty176 : Ty := ⟨176, .func #[63] #[4] false, 1, 8, .nilFunc⟩
theorem ty176_ok : TyOk Tryz.prog ty176 := ⟨by kernel_rfl, by kernel_rfl⟩
def ty179 : Ty := ⟨179, .func #[146] #[4] false, 1, 8, .nilFunc⟩
theorem ty179_ok : TyOk Tryz.prog ty179 := ⟨by kernel_rfl, by kernel_rfl⟩
def ty187 : Ty := ⟨187, .func #[78, 146] #[78] false, 1, 8, .nilFunc⟩
theorem ty187_ok : TyOk Tryz.prog ty187 := ⟨by kernel_rfl, by kernel_rfl⟩
def ty189 : Ty := ⟨189, .struct #[fd 187 0], 1, 8, .agg #[.nilFunc]⟩
theorem ty189_ok : TyOk Tryz.prog ty189 := ⟨by kernel_rfl, by kernel_rfl⟩
def ty190 : Ty := ⟨190, .pointer 226, 1, 8, .pointer none⟩
theorem ty190_ok : TyOk Tryz.prog ty190 := ⟨by kernel_rfl, by kernel_rfl⟩
def ty192 : Ty := ⟨192, .array 25 3, 25, 200, .agg #[.int .i64 0, .int .i64 0, .int .i64 0, .int .i64 0, .int .i64 0, .int .i64 0, .int .i64 0, .int .i64 0, .int .i64 0, .int .i64 0, .int .i64 0, .int .i64 0, .int .i64 0, .int .i64 0, .int .i64 0, .int .i64 0, .int .i64 0, .int .i64 0, .int .i64 0, .int .i64 0, .int .i64 0, .int .i64 0, .int .i64 0, .int .i64 0, .int .i64 0]⟩
theorem ty192_ok : TyOk Tryz.prog ty192 := ⟨by kernel_rfl, by kernel_rfl⟩
def ty193 : Ty := ⟨193, .array 24 172, 24, 192, .agg #[.int .u64 0, .int .u64 0, .int .u64 0, .int .u64 0, .int .u64 0, .int .u64 0, .int .u64 0, .int .u64 0, .int .u64 0, .int .u64 0, .int .u64 0, .int .u64 0, .int .u64 0, .int .u64 0, .int .u64 0, .int .u64 0, .int .u64 0, .int .u64 0, .int .u64 0, .int .u64 0, .int .u64 0, .int .u64 0, .int .u64 0, .int .u64 0]⟩
theorem ty193_ok : TyOk Tryz.prog ty193 := ⟨by kernel_rfl, by kernel_rfl⟩
def ty197 : Ty := ⟨197, .array 25 172, 25, 200, .agg #[.int .u64 0, .int .u64 0, .int .u64 0, .int .u64 0, .int .u64 0, .int .u64 0, .int .u64 0, .int .u64 0, .int .u64 0, .int .u64 0, .int .u64 0, .int .u64 0, .int .u64 0, .int .u64 0, .int .u64 0, .int .u64 0, .int .u64 0, .int .u64 0, .int .u64 0, .int .u64 0, .int .u64 0, .int .u64 0, .int .u64 0, .int .u64 0, .int .u64 0]⟩
theorem ty197_ok : TyOk Tryz.prog ty197 := ⟨by kernel_rfl, by kernel_rfl⟩
def ty199 : Ty := ⟨199, .pointer 192, 1, 8, .pointer none⟩
theorem ty199_ok : TyOk Tryz.prog ty199 := ⟨by kernel_rfl, by kernel_rfl⟩
def ty200 : Ty := ⟨200, .pointer 193, 1, 8, .pointer none⟩
theorem ty200_ok : TyOk Tryz.prog ty200 := ⟨by kernel_rfl, by kernel_rfl⟩
def ty201 : Ty := ⟨201, .slice 78, 1, 24, .slice none 0 0⟩
theorem ty201_ok : TyOk Tryz.prog ty201 := ⟨by kernel_rfl, by kernel_rfl⟩
def ty210 : Ty := ⟨210, .int .u64, 1, 8, .int .u64 0⟩
theorem ty210_ok : TyOk Tryz.prog ty210 := ⟨by kernel_rfl, by kernel_rfl⟩
def ty214 : Ty := ⟨214, .pointer 3, 1, 8, .pointer none⟩
theorem ty214_ok : TyOk Tryz.prog ty214 := ⟨by kernel_rfl, by kernel_rfl⟩
def ty226 : Ty := ⟨226, .array 5 189, 5, 40, .agg #[.nilFunc, .nilFunc, .nilFunc, .nilFunc, .nilFunc]⟩
theorem ty226_ok : TyOk Tryz.prog ty226 := ⟨by kernel_rfl, by kernel_rfl⟩
def ty230 : Ty := ⟨230, .array 5 172, 5, 40, .agg #[.int .u64 0, .int .u64 0, .int .u64 0, .int .u64 0, .int .u64 0]⟩
theorem ty230_ok : TyOk Tryz.prog ty230 := ⟨by kernel_rfl, by kernel_rfl⟩
def ty234 : Ty := ⟨234, .func #[63, 240] #[] false, 1, 8, .nilFunc⟩
theorem ty234_ok : TyOk Tryz.prog ty234 := ⟨by kernel_rfl, by kernel_rfl⟩
def ty236 : Ty := ⟨236, .struct #[fd 176 0, fd 234 1], 2, 16, .agg #[.nilFunc, .nilFunc]⟩
theorem ty236_ok : TyOk Tryz.prog ty236 := ⟨by kernel_rfl, by kernel_rfl⟩
def ty238 : Ty := ⟨238, .map 3 236, 1, 8, .map none⟩
theorem ty238_ok : TyOk Tryz.prog ty238 := ⟨by kernel_rfl, by kernel_rfl⟩
def ty240 : Ty := ⟨240, .pointer 63, 1, 8, .pointer none⟩
theorem ty240_ok : TyOk Tryz.prog ty240 := ⟨by kernel_rfl, by kernel_rfl⟩
def ty241 : Ty := ⟨241, .map 3 4, 1, 8, .map none⟩
theorem ty241_ok : TyOk Tryz.prog ty241 := ⟨by kernel_rfl, by kernel_rfl⟩
def ty242 : Ty := ⟨242, .array 25 172, 25, 200, .agg #[.int .u64 0, .int .u64 0, .int .u64 0, .int .u64 0, .int .u64 0, .int .u64 0, .int .u64 0, .int .u64 0, .int .u64 0, .int .u64 0, .int .u64 0, .int .u64 0, .int .u64 0, .int .u64 0, .int .u64 0, .int .u64 0, .int .u64 0, .int .u64 0, .int .u64 0, .int .u64 0, .int .u64 0, .int .u64 0, .int .u64 0, .int .u64 0, .int .u64 0]⟩
theorem ty242_ok : TyOk Tryz.prog ty242 := ⟨by kernel_rfl, by kernel_rfl⟩
def ty256 : Ty := ⟨256, .func #[103] #[4] false, 1, 8, .nilFunc⟩
theorem ty256_ok : TyOk Tryz.prog ty256 := ⟨by kernel_rfl, by kernel_rfl⟩
def ty260 : Ty := ⟨260, .array 168 172, 168, 1344, .agg #[.int .u64 0, .int .u64 0, .int .u64 0, .int .u64 0, .int .u64 0, .int .u64 0, .int .u64 0, .int .u64 0, .int .u64 0, .int .u64 0, .int .u64 0, .int .u64 0, .int .u64 0, .int .u64 0, .int .u64 0, .int .u64 0, .int .u64 0, .int .u64 0, .int .u64 0, .int .u64 0, .int .u64 0, .int .u64 0, .int .u64 0, .int .u64 0, .int .u64 0, .int .u64 0, .int .u64 0, .int .u64 0, .int .u64 0, .int .u64 0, .int .u64 0, .int .u64 0, .int .u64 0, .int .u64 0, .int .u64 0, .int .u64 0, .int .u64 0, .int .u64 0, .int .u64 0, .int .u64 0, .int .u64 0, .int .u64 0, .int .u64 0, .int .u64 0, .int .u64 0, .int .u64 0, .int .u64 0, .int .u64 0, .int .u64 0, .int .u64 0, .int .u64 0, .int .u64 0, .int .u64 0, .int .u64 0, .int .u64 0, .int .u64 0, .int .u64 0, .int .u64 0, .int .u64 0, .int .u64 0, .int .u64 0, .int .u64 0, .int .u64 0, .int .u64 0, .int .u64 0, .int .u64 0, .int .u64 0, .int .u64 0, .int .u64 0, .int .u64 0, .int .u64 0, .int .u64 0, .int .u64 0, .int .u64 0, .int .u64 0, .int .u64 0, .int .u64 0, .int .u64 0, .int .u64 0, .int .u64 0, .int .u64 0, .int .u64 0, .int .u64 0, .int .u64 0, .int .u64 0, .int .u64 0, .int .u64 0, .int .u64 0, .int .u64 0, .int .u64 0, .int .u64 0, .int .u64 0, .int .u64 0, .int .u64 0, .int .u64 0, .int .u64 0, .int .u64 0, .int .u64 0, .int .u64 0, .int .u64 0, .int .u64 0, .int .u64 0, .int .u64 0, .int .u64 0, .int .u64 0, .int .u64 0, .int .u64 0, .int .u64 0, .int .u64 0, .int .u64 0, .int .u64 0, .int .u64 0, .int .u64 0, .int .u64 0, .int .u64 0, .int .u64 0, .int .u64 0, .int .u64 0, .int .u64 0, .int .u64 0, .int .u64 0, .int .u64 0, .int .u64 0, .int .u64 0, .int .u64 0, .int .u64 0, .int .u64 0, .int .u64 0, .int .u64 0, .int .u64 0, .int .u64 0, .int .u64 0, .int .u64 0, .int .u64 0, .int .u64 0, .int .u64 0, .int .u64 0, .int .u64 0, .int .u64 0, .int .u64 0, .int .u64 0, .int .u64 0, .int .u64 0, .int .u64 0, .int .u64 0, .int .u64 0, .int .u64 0, .int .u64 0, .int .u64 0, .int .u64 0, .int .u64 0, .int .u64 0, .int .u64 0, .int .u64 0, .int .u64 0, .int .u64 0, .int .u64 0, .int .u64 0, .int .u64 0, .int .u64 0, .int .u64 0, .int .u64 0, .int .u64 0, .int .u64 0, .int .u64 0, .int .u64 0, .int .u64 0, .int .u64 0]⟩
theorem ty260_ok : TyOk Tryz.prog ty260 := ⟨by kernel_rfl, by kernel_rfl⟩
def ty264 : Ty := ⟨264, .array 5 4, 5, 5, .agg #[.bool false, .bool false, .bool false, .bool false, .bool false]⟩
theorem ty264_ok : TyOk Tryz.prog ty264 := ⟨by kernel_rfl, by kernel_rfl⟩
def ty267 : Ty := ⟨267, .array 24 5, 24, 24, .agg #[.int .u8 0, .int .u8 0, .int .u8 0, .int .u8 0, .int .u8 0, .int .u8 0, .int .u8 0, .int .u8 0, .int .u8 0, .int .u8 0, .int .u8 0, .int .u8 0, .int .u8 0, .int .u8 0, .int .u8 0, .int .u8 0, .int .u8 0, .int .u8 0, .int .u8 0, .int .u8 0, .int .u8 0, .int .u8 0, .int .u8 0, .int .u8 0]⟩
theorem ty267_ok : TyOk Tryz.prog ty267 := ⟨by kernel_rfl, by kernel_rfl⟩
def ty272 : Ty := ⟨272, .array 20 172, 20, 160, .agg #[.int .u64 0, .int .u64 0, .int .u64 0, .int .u64 0, .int .u64 0, .int .u64 0, .int .u64 0, .int .u64 0, .int .u64 0, .int .u64 0, .int .u64 0, .int .u64 0, .int .u64 0, .int .u64 0, .int .u64 0, .int .u64 0, .int .u64 0, .int .u64 0, .int .u64 0, .int .u64 0]⟩
theorem ty272_ok : TyOk Tryz.prog ty272 := ⟨by kernel_rfl, by kernel_rfl⟩
def ty273 : Ty := ⟨273, .array 65 5, 65, 65, .agg #[.int .u8 0, .int .u8 0, .int .u8 0, .int .u8 0, .int .u8 0, .int .u8 0, .int .u8 0, .int .u8 0, .int .u8 0, .int .u8 0, .int .u8 0, .int .u8 0, .int .u8 0, .int .u8 0, .int .u8 0, .int .u8 0, .int .u8 0, .int .u8 0, .int .u8 0, .int .u8 0, .int .u8 0, .int .u8 0, .int .u8 0, .int .u8 0, .int .u8 0, .int .u8 0, .int .u8 0, .int .u8 0, .int .u8 0, .int .u8 0, .int .u8 0, .int .u8 0, .int .u8 0, .int .u8 0, .int .u8 0, .int .u8 0, .int .u8 0, .int .u8 0, .int .u8 0, .int .u8 0, .int .u8 0, .int .u8 0, .int .u8 0, .int .u8 0, .int .u8 0, .int .u8 0, .int .u8 0, .int .u8 0, .int .u8 0, .int .u8 0, .int .u8 0, .int .u8 0, .int .u8 0, .int .u8 0, .int .u8 0, .int .u8 0, .int .u8 0, .int .u8 0, .int .u8 0, .int .u8 0, .int .u8 0, .int .u8 0, .int .u8 0, .int .u8 0, .int .u8 0]⟩
theorem ty273_ok : TyOk Tryz.prog ty273 := ⟨by kernel_rfl, by kernel_rfl⟩
def ty274 : Ty := ⟨274, .array 64 5, 64, 64, .agg #[.int .u8 0, .int .u8 0, .int .u8 0, .int .u8 0, .int .u8 0, .int .u8 0, .int .u8 0, .int .u8 0, .int .u8 0, .int .u8 0, .int .u8 0, .int .u8 0, .int .u8 0, .int .u8 0, .int .u8 0, .int .u8 0, .int .u8 0, .int .u8 0, .int .u8 0, .int .u8 0, .int .u8 0, .int .u8 0, .int .u8 0, .int .u8 0, .int .u8 0, .int .u8 0, .int .u8 0, .int .u8 0, .int .u8 0, .int .u8 0, .int .u8 0, .int .u8 0, .int .u8 0, .int .u8 0, .int .u8 0, .int .u8 0, .int .u8 0, .int .u8 0, .int .u8 0, .int .u8 0, .int .u8 0, .int .u8 0, .int .u8 0, .int .u8 0, .int .u8 0, .int .u8 0, .int .u8 0, .int .u8 0, .int .u8 0, .int .u8 0, .int .u8 0, .int .u8 0, .int .u8 0, .int .u8 0, .int .u8 0, .int .u8 0, .int .u8 0, .int .u8 0, .int .u8 0, .int .u8 0, .int .u8 0, .int .u8 0, .int .u8 0, .int .u8 0]⟩
theorem ty274_ok : TyOk Tryz.prog ty274 := ⟨by kernel_rfl, by kernel_rfl⟩
def ts : List Ty := [ty2, ty3, ty4, ty5, ty9, ty22, ty24, ty25, ty26, ty28, ty38, ty42, ty47, ty48, ty57, ty59, ty61, ty63, ty65, ty67, ty69, ty70, ty71, ty73, ty76, ty78, ty87, ty94, ty96, ty97, ty103, ty106, ty107, ty110, ty114, ty115, ty124, ty128, ty137, ty140, ty144, ty146, ty152, ty154, ty156, ty158, ty163, ty170, ty172, ty176, ty179, ty187, ty189, ty190, ty192, ty193, ty197, ty199, ty200, ty201, ty210, ty214, ty226, ty230, ty234, ty236, ty238, ty240, ty241, ty242, ty256, ty260, ty264, ty267, ty272, ty273, ty274]
theorem ts_ok : TsOk Tryz.prog ts := by
  intro t ht
  simp only [ts, List.mem_cons, List.not_mem_nil, or_false] at ht
  rcases ht with rfl | rfl | rfl | rfl | rfl | rfl | rfl | rfl | rfl | rfl | rfl | rfl | rfl | rfl | rfl | rfl | rfl | rfl | rfl | rfl | rfl | rfl | rfl | rfl | rfl | rfl | rfl | rfl | rfl | rfl | rfl | rfl | rfl | rfl | rfl | rfl | rfl | rfl | rfl | rfl | rfl | rfl | rfl | rfl | rfl | rfl | rfl | rfl | rfl | rfl | rfl | rfl | rfl | rfl | rfl | rfl | rfl | rfl | rfl | rfl | rfl | rfl | rfl | rfl | rfl | rfl | rfl | rfl | rfl | rfl | rfl | rfl | rfl | rfl | rfl | rfl | rfl
  · exact ty2_ok
  · exact ty3_ok
  · exact ty4_ok
  · exact ty5_ok
  · exact ty9_ok
  · exact ty22_ok
  · exact ty24_ok
  · exact ty25_ok
  · exact ty26_ok
  · exact ty28_ok
  · exact ty38_ok
  · exact ty42_ok
  · exact ty47_ok
  · exact ty48_ok
  · exact ty57_ok
  · exact ty59_ok
  · exact ty61_ok
  · exact ty63_ok
  · exact ty65_ok
  · exact ty67_ok
  · exact ty69_ok
  · exact ty70_ok
  · exact ty71_ok
  · exact ty73_ok
  · exact ty76_ok
  · exact ty78_ok
  · exact ty87_ok
  · exact ty94_ok
  · exact ty96_ok
  · exact ty97_ok
  · exact ty103_ok
  · exact ty106_ok
  · exact ty107_ok
  · exact ty110_ok
  · exact ty114_ok
  · exact ty115_ok
  · exact ty124_ok
  · exact ty128_ok
  · exact ty137_ok
  · exact ty140_ok
  · exact ty144_ok
  · exact ty146_ok
  · exact ty152_ok
  · exact ty154_ok
  · exact ty156_ok
  · exact ty158_ok
  · exact ty163_ok
  · exact ty170_ok
  · exact ty172_ok
  · exact ty176_ok
  · exact ty179_ok
  · exact ty187_ok
  · exact ty189_ok
  · exact ty190_ok
  · exact ty192_ok
  · exact ty193_ok
  · exact ty197_ok
  · exact ty199_ok
  · exact ty200_ok
  · exact ty201_ok
  · exact ty210_ok
  · exact ty214_ok
  · exact ty226_ok
  · exact ty230_ok
  · exact ty234_ok
  · exact ty236_ok
  · exact ty238_ok
  · exact ty240_ok
  · exact ty241_ok
  · exact ty242_ok
  · exact ty256_ok
  · exact ty260_ok
  · exact ty264_ok
  · exact ty267_ok
  · exact ty272_ok
  · exact ty273_ok
  · exact ty274_ok
theorem has3 : Has Tryz.prog 3 := ⟨_, Go.Proofs.Tryz.func3, by kernel_rfl, by kernel_rfl⟩
theorem has4 : Has Tryz.prog 4 := ⟨_, Go.Proofs.Tryz.func4, by kernel_rfl, by kernel_rfl⟩
theorem has5 : Has Tryz.prog 5 := ⟨_, Go.Proofs.Tryz.func5, by kernel_rfl, by kernel_rfl⟩
theorem has6 : Has Tryz.prog 6 := ⟨_, Go.Proofs.Tryz.func6, by kernel_rfl, by kernel_rfl⟩
theorem has7 : Has Tryz.prog 7 := ⟨_, Go.Proofs.Tryz.func7, by kernel_rfl, by kernel_rfl⟩
theorem has8 : Has Tryz.prog 8 := ⟨_, Go.Proofs.Tryz.func8, by kernel_rfl, by kernel_rfl⟩
theorem has9 : Has Tryz.prog 9 := ⟨_, Go.Proofs.Tryz.func9, by kernel_rfl, by kernel_rfl⟩
theorem has10 : Has Tryz.prog 10 := ⟨_, Go.Proofs.Tryz.func10, by kernel_rfl, by kernel_rfl⟩
theorem has11 : Has Tryz.prog 11 := ⟨_, Go.Proofs.Tryz.func11, by kernel_rfl, by kernel_rfl⟩
theorem has12 : Has Tryz.prog 12 := ⟨_, Go.Proofs.Tryz.func12, by kernel_rfl, by kernel_rfl⟩
theorem has13 : Has Tryz.prog 13 := ⟨_, Go.Proofs.Tryz.func13, by kernel_rfl, by kernel_rfl⟩
theorem has14 : Has Tryz.prog 14 := ⟨_, Go.Proofs.Tryz.func14, by kernel_rfl, by kernel_rfl⟩
theorem has15 : Has Tryz.prog 15 := ⟨_, Go.Proofs.Tryz.func15, by kernel_rfl, by kernel_rfl⟩
theorem has16 : Has Tryz.prog 16 := ⟨_, Go.Proofs.Tryz.func16, by kernel_rfl, by kernel_rfl⟩
theorem has17 : Has Tryz.prog 17 := ⟨_, Go.Proofs.Tryz.func17, by kernel_rfl, by kernel_rfl⟩
theorem has18 : Has Tryz.prog 18 := ⟨_, Go.Proofs.Tryz.func18, by kernel_rfl, by kernel_rfl⟩
theorem has19 : Has Tryz.prog 19 := ⟨_, Go.Proofs.Tryz.func19, by kernel_rfl, by kernel_rfl⟩
theorem has20 : Has Tryz.prog 20 := ⟨_, Go.Proofs.Tryz.func20, by kernel_rfl, by kernel_rfl⟩
theorem has21 : Has Tryz.prog 21 := ⟨_, Go.Proofs.Tryz.func21, by kernel_rfl, by kernel_rfl⟩
theorem has22 : Has Tryz.prog 22 := ⟨_, Go.Proofs.Tryz.func22, by kernel_rfl, by kernel_rfl⟩
theorem has23 : Has Tryz.prog 23 := ⟨_, Go.Proofs.Tryz.func23, by kernel_rfl, by kernel_rfl⟩
theorem has24 : Has Tryz.prog 24 := ⟨_, Go.Proofs.Tryz.func24, by kernel_rfl, by kernel_rfl⟩
theorem has25 : Has Tryz.prog 25 := ⟨_, Go.Proofs.Tryz.func25, by kernel_rfl, by kernel_rfl⟩
theorem has26 : Has Tryz.prog 26 := ⟨_, Go.Proofs.Tryz.func26, by kernel_rfl, by kernel_rfl⟩
theorem has27 : Has Tryz.prog 27 := ⟨_, Go.Proofs.Tryz.func27, by kernel_rfl, by kernel_rfl⟩
theorem has28 : Has Tryz.prog 28 := ⟨_, Go.Proofs.Tryz.func28, by kernel_rfl, by kernel_rfl⟩
theorem has29 : Has Tryz.prog 29 := ⟨_, Go.Proofs.Tryz.func29, by kernel_rfl, by kernel_rfl⟩
theorem has30 : Has Tryz.prog 30 := ⟨_, Go.Proofs.Tryz.func30, by kernel_rfl, by kernel_rfl⟩
theorem has31 : Has Tryz.prog 31 := ⟨_, Go.Proofs.Tryz.func31, by kernel_rfl, by kernel_rfl⟩
theorem has32 : Has Tryz.prog 32 := ⟨_, Go.Proofs.Tryz.func32, by kernel_rfl, by kernel_rfl⟩
theorem has33 : Has Tryz.prog 33 := ⟨_, Go.Proofs.Tryz.func33, by kernel_rfl, by kernel_rfl⟩
theorem has34 : Has Tryz.prog 34 := ⟨_, Go.Proofs.Tryz.func34, by kernel_rfl, by kernel_rfl⟩
theorem has35 : Has Tryz.prog 35 := ⟨_, Go.Proofs.Tryz.func35, by kernel_rfl, by kernel_rfl⟩
theorem has36 : Has Tryz.prog 36 := ⟨_, Go.Proofs.Tryz.func36, by kernel_rfl, by kernel_rfl⟩
theorem has37 : Has Tryz.prog 37 := ⟨_, Go.Proofs.Tryz.func37, by kernel_rfl, by kernel_rfl⟩
theorem has38 : Has Tryz.prog 38 := ⟨_, Go.Proofs.Tryz.func38, by kernel_rfl, by kernel_rfl⟩
theorem has39 : Has Tryz.prog 39 := ⟨_, Go.Proofs.Tryz.func39, by kernel_rfl, by kernel_rfl⟩
theorem has40 : Has Tryz.prog 40 := ⟨_, Go.Proofs.Tryz.func40, by kernel_rfl, by kernel_rfl⟩
theorem has41 : Has Tryz.prog 41 := ⟨_, Go.Proofs.Tryz.func41, by kernel_rfl, by kernel_rfl⟩
theorem has42 : Has Tryz.prog 42 := ⟨_, Go.Proofs.Tryz.func42, by kernel_rfl, by kernel_rfl⟩
theorem has43 : Has Tryz.prog 43 := ⟨_, Go.Proofs.Tryz.func43, by kernel_rfl, by kernel_rfl⟩
theorem has44 : Has Tryz.prog 44 := ⟨_, Go.Proofs.Tryz.func44, by kernel_rfl, by kernel_rfl⟩
theorem has45 : Has Tryz.prog 45 := ⟨_, Go.Proofs.Tryz.func45, by kernel_rfl, by kernel_rfl⟩
theorem has46 : Has Tryz.prog 46 := ⟨_, Go.Proofs.Tryz.func46, by kernel_rfl, by kernel_rfl⟩
theorem has47 : Has Tryz.prog 47 := ⟨_, Go.Proofs.Tryz.func47, by kernel_rfl, by kernel_rfl⟩
theorem has48 : Has Tryz.prog 48 := ⟨_, Go.Proofs.Tryz.func48, by kernel_rfl, by kernel_rfl⟩
theorem has49 : Has Tryz.prog 49 := ⟨_, Go.Proofs.Tryz.func49, by kernel_rfl, by kernel_rfl⟩
theorem has50 : Has Tryz.prog 50 := ⟨_, Go.Proofs.Tryz.func50, by kernel_rfl, by kernel_rfl⟩
theorem has51 : Has Tryz.prog 51 := ⟨_, Go.Proofs.Tryz.func51, by kernel_rfl, by kernel_rfl⟩
theorem has52 : Has Tryz.prog 52 := ⟨_, Go.Proofs.Tryz.func52, by kernel_rfl, by kernel_rfl⟩
theorem has53 : Has Tryz.prog 53 := ⟨_, Go.Proofs.Tryz.func53, by kernel_rfl, by kernel_rfl⟩
theorem has54 : Has Tryz.prog 54 := ⟨_, Go.Proofs.Tryz.func54, by kernel_rfl, by kernel_rfl⟩
theorem has55 : Has Tryz.prog 55 := ⟨_, Go.Proofs.Tryz.func55, by kernel_rfl, by kernel_rfl⟩
theorem has56 : Has Tryz.prog 56 := ⟨_, Go.Proofs.Tryz.func56, by kernel_rfl, by kernel_rfl⟩
theorem has57 : Has Tryz.prog 57 := ⟨_, Go.Proofs.Tryz.func57, by kernel_rfl, by kernel_rfl⟩
theorem has58 : Has Tryz.prog 58 := ⟨_, Go.Proofs.Tryz.func58, by kernel_rfl, by kernel_rfl⟩
theorem has59 : Has Tryz.prog 59 := ⟨_, Go.Proofs.Tryz.func59, by kernel_rfl, by kernel_rfl⟩
theorem has60 : Has Tryz.prog 60 := ⟨_, Go.Proofs.Tryz.func60, by kernel_rfl, by kernel_rfl⟩
theorem has61 : Has Tryz.prog 61 := ⟨_, Go.Proofs.Tryz.func61, by kernel_rfl, by kernel_rfl⟩
theorem has62 : Has Tryz.prog 62 := ⟨_, Go.Proofs.Tryz.func62, by kernel_rfl, by kernel_rfl⟩
theorem has63 : Has Tryz.prog 63 := ⟨_, Go.Proofs.Tryz.func63, by kernel_rfl, by kernel_rfl⟩
theorem has64 : Has Tryz.prog 64 := ⟨_, Go.Proofs.Tryz.func64, by kernel_rfl, by kernel_rfl⟩
theorem has65 : Has Tryz.prog 65 := ⟨_, Go.Proofs.Tryz.func65, by kernel_rfl, by kernel_rfl⟩
theorem has66 : Has Tryz.prog 66 := ⟨_, Go.Proofs.Tryz.func66, by kernel_rfl, by kernel_rfl⟩
theorem has67 : Has Tryz.prog 67 := ⟨_, Go.Proofs.Tryz.func67, by kernel_rfl, by kernel_rfl⟩
theorem has68 : Has Tryz.prog 68 := ⟨_, Go.Proofs.Tryz.func68, by kernel_rfl, by kernel_rfl⟩
theorem has69 : Has Tryz.prog 69 := ⟨_, Go.Proofs.Tryz.func69, by kernel_rfl, by kernel_rfl⟩
theorem has70 : Has Tryz.prog 70 := ⟨_, Go.Proofs.Tryz.func70, by kernel_rfl, by kernel_rfl⟩
theorem has71 : Has Tryz.prog 71 := ⟨_, Go.Proofs.Tryz.func71, by kernel_rfl, by kernel_rfl⟩
theorem has72 : Has Tryz.prog 72 := ⟨_, Go.Proofs.Tryz.func72, by kernel_rfl, by kernel_rfl⟩
theorem has73 : Has Tryz.prog 73 := ⟨_, Go.Proofs.Tryz.func73, by kernel_rfl, by kernel_rfl⟩
theorem has74 : Has Tryz.prog 74 := ⟨_, Go.Proofs.Tryz.func74, by kernel_rfl, by kernel_rfl⟩
theorem has75 : Has Tryz.prog 75 := ⟨_, Go.Proofs.Tryz.func75, by kernel_rfl, by kernel_rfl⟩
theorem has76 : Has Tryz.prog 76 := ⟨_, Go.Proofs.Tryz.func76, by kernel_rfl, by kernel_rfl⟩
theorem has77 : Has Tryz.prog 77 := ⟨_, Go.Proofs.Tryz.func77, by kernel_rfl, by kernel_rfl⟩
theorem has78 : Has Tryz.prog 78 := ⟨_, Go.Proofs.Tryz.func78, by kernel_rfl, by kernel_rfl⟩
theorem has79 : Has Tryz.prog 79 := ⟨_, Go.Proofs.Tryz.func79, by kernel_rfl, by kernel_rfl⟩
theorem has80 : Has Tryz.prog 80 := ⟨_, Go.Proofs.Tryz.func80, by kernel_rfl, by kernel_rfl⟩
theorem has81 : Has Tryz.prog 81 := ⟨_, Go.Proofs.Tryz.func81, by kernel_rfl, by kernel_rfl⟩
theorem has82 : Has Tryz.prog 82 := ⟨_, Go.Proofs.Tryz.func82, by kernel_rfl, by kernel_rfl⟩
theorem has83 : Has Tryz.prog 83 := ⟨_, Go.Proofs.Tryz.func83, by kernel_rfl, by kernel_rfl⟩
theorem has84 : Has Tryz.prog 84 := ⟨_, Go.Proofs.Tryz.func84, by kernel_rfl, by kernel_rfl⟩
theorem has85 : Has Tryz.prog 85 := ⟨_, Go.Proofs.Tryz.func85, by kernel_rfl, by kernel_rfl⟩
theorem has86 : Has Tryz.prog 86 := ⟨_, Go.Proofs.Tryz.func86, by kernel_rfl, by kernel_rfl⟩
theorem has87 : Has Tryz.prog 87 := ⟨_, Go.Proofs.Tryz.func87, by kernel_rfl, by kernel_rfl⟩
theorem has88 : Has Tryz.prog 88 := ⟨_, Go.Proofs.Tryz.func88, by kernel_rfl, by kernel_rfl⟩
theorem has89 : Has Tryz.prog 89 := ⟨_, Go.Proofs.Tryz.func89, by kernel_rfl, by kernel_rfl⟩
theorem has90 : Has Tryz.prog 90 := ⟨_, Go.Proofs.Tryz.func90, by kernel_rfl, by kernel_rfl⟩
theorem has91 : Has Tryz.prog 91 := ⟨_, Go.Proofs.Tryz.func91, by kernel_rfl, by kernel_rfl⟩
theorem has92 : Has Tryz.prog 92 := ⟨_, Go.Proofs.Tryz.func92, by kernel_rfl, by kernel_rfl⟩
theorem has93 : Has Tryz.prog 93 := ⟨_, Go.Proofs.Tryz.func93, by kernel_rfl, by kernel_rfl⟩
theorem has94 : Has Tryz.prog 94 := ⟨_, Go.Proofs.Tryz.func94, by kernel_rfl, by kernel_rfl⟩
theorem has95 : Has Tryz.prog 95 := ⟨_, Go.Proofs.Tryz.func95, by kernel_rfl, by kernel_rfl⟩
theorem has96 : Has Tryz.prog 96 := ⟨_, Go.Proofs.Tryz.func96, by kernel_rfl, by kernel_rfl⟩
theorem has97 : Has Tryz.prog 97 := ⟨_, Go.Proofs.Tryz.func97, by kernel_rfl, by kernel_rfl⟩
theorem has98 : Has Tryz.prog 98 := ⟨_, Go.Proofs.Tryz.func98, by kernel_rfl, by kernel_rfl⟩
theorem has99 : Has Tryz.prog 99 := ⟨_, Go.Proofs.Tryz.func99, by kernel_rfl, by kernel_rfl⟩
theorem has100 : Has Tryz.prog 100 := ⟨_, Go.Proofs.Tryz.func100, by kernel_rfl, by kernel_rfl⟩
theorem has101 : Has Tryz.prog 101 := ⟨_, Go.Proofs.Tryz.func101, by kernel_rfl, by kernel_rfl⟩
theorem has102 : Has Tryz.prog 102 := ⟨_, Go.Proofs.Tryz.func102, by kernel_rfl, by kernel_rfl⟩
theorem has103 : Has Tryz.prog 103 := ⟨_, Go.Proofs.Tryz.func103, by kernel_rfl, by kernel_rfl⟩
theorem has104 : Has Tryz.prog 104 := ⟨_, Go.Proofs.Tryz.func104, by kernel_rfl, by kernel_rfl⟩
theorem has105 : Has Tryz.prog 105 := ⟨_, Go.Proofs.Tryz.func105, by kernel_rfl, by kernel_rfl⟩
theorem has106 : Has Tryz.prog 106 := ⟨_, Go.Proofs.Tryz.func106, by kernel_rfl, by kernel_rfl⟩
theorem has107 : Has Tryz.prog 107 := ⟨_, Go.Proofs.Tryz.func107, by kernel_rfl, by kernel_rfl⟩
theorem has108 : Has Tryz.prog 108 := ⟨_, Go.Proofs.Tryz.func108, by kernel_rfl, by kernel_rfl⟩
theorem has109 : Has Tryz.prog 109 := ⟨_, Go.Proofs.Tryz.func109, by kernel_rfl, by kernel_rfl⟩
theorem has110 : Has Tryz.prog 110 := ⟨_, Go.Proofs.Tryz.func110, by kernel_rfl, by kernel_rfl⟩
theorem has111 : Has Tryz.prog 111 := ⟨_, Go.Proofs.Tryz.func111, by kernel_rfl, by kernel_rfl⟩
theorem has112 : Has Tryz.prog 112 := ⟨_, Go.Proofs.Tryz.func112, by kernel_rfl, by kernel_rfl⟩
theorem has113 : Has Tryz.prog 113 := ⟨_, Go.Proofs.Tryz.func113, by kernel_rfl, by kernel_rfl⟩
theorem has114 : Has Tryz.prog 114 := ⟨_, Go.Proofs.Tryz.func114, by kernel_rfl, by kernel_rfl⟩
theorem has115 : Has Tryz.prog 115 := ⟨_, Go.Proofs.Tryz.func115, by kernel_rfl, by kernel_rfl⟩
theorem has116 : Has Tryz.prog 116 := ⟨_, Go.Proofs.Tryz.func116, by kernel_rfl, by kernel_rfl⟩
theorem has117 : Has Tryz.prog 117 := ⟨_, Go.Proofs.Tryz.func117, by kernel_rfl, by kernel_rfl⟩
theorem has118 : Has Tryz.prog 118 := ⟨_, Go.Proofs.Tryz.func118, by kernel_rfl, by kernel_rfl⟩
theorem has119 : Has Tryz.prog 119 := ⟨_, Go.Proofs.Tryz.func119, by kernel_rfl, by kernel_rfl⟩
theorem has120 : Has Tryz.prog 120 := ⟨_, Go.Proofs.Tryz.func120, by kernel_rfl, by kernel_rfl⟩
theorem has121 : Has Tryz.prog 121 := ⟨_, Go.Proofs.Tryz.func121, by kernel_rfl, by kernel_rfl⟩
theorem has122 : Has Tryz.prog 122 := ⟨_, Go.Proofs.Tryz.func122, by kernel_rfl, by kernel_rfl⟩
theorem has123 : Has Tryz.prog 123 := ⟨_, Go.Proofs.Tryz.func123, by kernel_rfl, by kernel_rfl⟩
theorem has124 : Has Tryz.prog 124 := ⟨_, Go.Proofs.Tryz.func124, by kernel_rfl, by kernel_rfl⟩
theorem has125 : Has Tryz.prog 125 := ⟨_, Go.Proofs.Tryz.func125, by kernel_rfl, by kernel_rfl⟩
theorem has126 : Has Tryz.prog 126 := ⟨_, Go.Proofs.Tryz.func126, by kernel_rfl, by kernel_rfl⟩
theorem has127 : Has Tryz.prog 127 := ⟨_, Go.Proofs.Tryz.func127, by kernel_rfl, by kernel_rfl⟩
theorem has128 : Has Tryz.prog 128 := ⟨_, Go.Proofs.Tryz.func128, by kernel_rfl, by kernel_rfl⟩
theorem has129 : Has Tryz.prog 129 := ⟨_, Go.Proofs.Tryz.func129, by kernel_rfl, by kernel_rfl⟩
theorem has130 : Has Tryz.prog 130 := ⟨_, Go.Proofs.Tryz.func130, by kernel_rfl, by kernel_rfl⟩
theorem has131 : Has Tryz.prog 131 := ⟨_, Go.Proofs.Tryz.func131, by kernel_rfl, by kernel_rfl⟩
theorem has133 : Has Tryz.prog 133 := ⟨_, Go.Proofs.Tryz.func133, by kernel_rfl, by kernel_rfl⟩
theorem has134 : Has Tryz.prog 134 := ⟨_, Go.Proofs.Tryz.func134, by kernel_rfl, by kernel_rfl⟩
theorem has135 : Has Tryz.prog 135 := ⟨_, Go.Proofs.Tryz.func135, by kernel_rfl, by kernel_rfl⟩
theorem has136 : Has Tryz.prog 136 := ⟨_, Go.Proofs.Tryz.func136, by kernel_rfl, by kernel_rfl⟩
theorem has137 : Has Tryz.prog 137 := ⟨_, Go.Proofs.Tryz.func137, by kernel_rfl, by kernel_rfl⟩
theorem has138 : Has Tryz.prog 138 := ⟨_, Go.Proofs.Tryz.func138, by kernel_rfl, by kernel_rfl⟩
theorem has139 : Has Tryz.prog 139 := ⟨_, Go.Proofs.Tryz.func139, by kernel_rfl, by kernel_rfl⟩
theorem has140 : Has Tryz.prog 140 := ⟨_, Go.Proofs.Tryz.func140, by kernel_rfl, by kernel_rfl⟩
theorem has141 : Has Tryz.prog 141 := ⟨_, Go.Proofs.Tryz.func141, by kernel_rfl, by kernel_rfl⟩
theorem has142 : Has Tryz.prog 142 := ⟨_, Go.Proofs.Tryz.func142, by kernel_rfl, by kernel_rfl⟩
theorem has143 : Has Tryz.prog 143 := ⟨_, Go.Proofs.Tryz.func143, by kernel_rfl, by kernel_rfl⟩
theorem has144 : Has Tryz.prog 144 := ⟨_, Go.Proofs.Tryz.func144, by kernel_rfl, by kernel_rfl⟩
theorem has145 : Has Tryz.prog 145 := ⟨_, Go.Proofs.Tryz.func145, by kernel_rfl, by kernel_rfl⟩
theorem has146 : Has Tryz.prog 146 := ⟨_, Go.Proofs.Tryz.func146, by kernel_rfl, by kernel_rfl⟩
theorem has147 : Has Tryz.prog 147 := ⟨_, Go.Proofs.Tryz.func147, by kernel_rfl, by kernel_rfl⟩
theorem has148 : Has Tryz.prog 148 := ⟨_, Go.Proofs.Tryz.func148, by kernel_rfl, by kernel_rfl⟩
theorem has149 : Has Tryz.prog 149 := ⟨_, Go.Proofs.Tryz.func149, by kernel_rfl, by kernel_rfl⟩
theorem has150 : Has Tryz.prog 150 := ⟨_, Go.Proofs.Tryz.func150, by kernel_rfl, by kernel_rfl⟩
theorem has151 : Has Tryz.prog 151 := ⟨_, Go.Proofs.Tryz.func151, by kernel_rfl, by kernel_rfl⟩
theorem has152 : Has Tryz.prog 152 := ⟨_, Go.Proofs.Tryz.func152, by kernel_rfl, by kernel_rfl⟩
theorem has153 : Has Tryz.prog 153 := ⟨_, Go.Proofs.Tryz.func153, by kernel_rfl, by kernel_rfl⟩
theorem has154 : Has Tryz.prog 154 := ⟨_, Go.Proofs.Tryz.func154, by kernel_rfl, by kernel_rfl⟩
theorem has155 : Has Tryz.prog 155 := ⟨_, Go.Proofs.Tryz.func155, by kernel_rfl, by kernel_rfl⟩
theorem has156 : Has Tryz.prog 156 := ⟨_, Go.Proofs.Tryz.func156, by kernel_rfl, by kernel_rfl⟩
theorem has157 : Has Tryz.prog 157 := ⟨_, Go.Proofs.Tryz.func157, by kernel_rfl, by kernel_rfl⟩
theorem has158 : Has Tryz.prog 158 := ⟨_, Go.Proofs.Tryz.func158, by kernel_rfl, by kernel_rfl⟩
theorem has159 : Has Tryz.prog 159 := ⟨_, Go.Proofs.Tryz.func159, by kernel_rfl, by kernel_rfl⟩
theorem has160 : Has Tryz.prog 160 := ⟨_, Go.Proofs.Tryz.func160, by kernel_rfl, by kernel_rfl⟩
theorem has161 : Has Tryz.prog 161 := ⟨_, Go.Proofs.Tryz.func161, by kernel_rfl, by kernel_rfl⟩
theorem has162 : Has Tryz.prog 162 := ⟨_, Go.Proofs.Tryz.func162, by kernel_rfl, by kernel_rfl⟩
theorem has163 : Has Tryz.prog 163 := ⟨_, Go.Proofs.Tryz.func163, by kernel_rfl, by kernel_rfl⟩
theorem has164 : Has Tryz.prog 164 := ⟨_, Go.Proofs.Tryz.func164, by kernel_rfl, by kernel_rfl⟩
theorem has165 : Has Tryz.prog 165 := ⟨_, Go.Proofs.Tryz.func165, by kernel_rfl, by kernel_rfl⟩
theorem has166 : Has Tryz.prog 166 := ⟨_, Go.Proofs.Tryz.func166, by kernel_rfl, by kernel_rfl⟩
theorem has167 : Has Tryz.prog 167 := ⟨_, Go.Proofs.Tryz.func167, by kernel_rfl, by kernel_rfl⟩
theorem has168 : Has Tryz.prog 168 := ⟨_, Go.Proofs.Tryz.func168, by kernel_rfl, by kernel_rfl⟩
theorem has169 : Has Tryz.prog 169 := ⟨_, Go.Proofs.Tryz.func169, by kernel_rfl, by kernel_rfl⟩
theorem has170 : Has Tryz.prog 170 := ⟨_, Go.Proofs.Tryz.func170, by kernel_rfl, by kernel_rfl⟩
theorem has171 : Has Tryz.prog 171 := ⟨_, Go.Proofs.Tryz.func171, by kernel_rfl, by kernel_rfl⟩
theorem has172 : Has Tryz.prog 172 := ⟨_, Go.Proofs.Tryz.func172, by kernel_rfl, by kernel_rfl⟩
theorem has173 : Has Tryz.prog 173 := ⟨_, Go.Proofs.Tryz.func173, by kernel_rfl, by kernel_rfl⟩
theorem has174 : Has Tryz.prog 174 := ⟨_, Go.Proofs.Tryz.func174, by kernel_rfl, by kernel_rfl⟩
theorem has175 : Has Tryz.prog 175 := ⟨_, Go.Proofs.Tryz.func175, by kernel_rfl, by kernel_rfl⟩
theorem has176 : Has Tryz.prog 176 := ⟨_, Go.Proofs.Tryz.func176, by kernel_rfl, by kernel_rfl⟩
theorem has177 : Has Tryz.prog 177 := ⟨_, Go.Proofs.Tryz.func177, by kernel_rfl, by kernel_rfl⟩
theorem has178 : Has Tryz.prog 178 := ⟨_, Go.Proofs.Tryz.func178, by kernel_rfl, by kernel_rfl⟩
theorem has179 : Has Tryz.prog 179 := ⟨_, Go.Proofs.Tryz.func179, by kernel_rfl, by kernel_rfl⟩
theorem has180 : Has Tryz.prog 180 := ⟨_, Go.Proofs.Tryz.func180, by kernel_rfl, by kernel_rfl⟩
theorem has181 : Has Tryz.prog 181 := ⟨_, Go.Proofs.Tryz.func181, by kernel_rfl, by kernel_rfl⟩
theorem has182 : Has Tryz.prog 182 := ⟨_, Go.Proofs.Tryz.func182, by kernel_rfl, by kernel_rfl⟩
theorem has183 : Has Tryz.prog 183 := ⟨_, Go.Proofs.Tryz.func183, by kernel_rfl, by kernel_rfl⟩
theorem has184 : Has Tryz.prog 184 := ⟨_, Go.Proofs.Tryz.func184, by kernel_rfl, by kernel_rfl⟩
theorem has185 : Has Tryz.prog 185 := ⟨_, Go.Proofs.Tryz.func185, by kernel_rfl, by kernel_rfl⟩
theorem has186 : Has Tryz.prog 186 := ⟨_, Go.Proofs.Tryz.func186, by kernel_rfl, by kernel_rfl⟩
theorem has187 : Has Tryz.prog 187 := ⟨_, Go.Proofs.Tryz.func187, by kernel_rfl, by kernel_rfl⟩
theorem has188 : Has Tryz.prog 188 := ⟨_, Go.Proofs.Tryz.func188, by kernel_rfl, by kernel_rfl⟩
theorem has189 : Has Tryz.prog 189 := ⟨_, Go.Proofs.Tryz.func189, by kernel_rfl, by kernel_rfl⟩
theorem has190 : Has Tryz.prog 190 := ⟨_, Go.Proofs.Tryz.func190, by kernel_rfl, by kernel_rfl⟩
theorem has191 : Has Tryz.prog 191 := ⟨_, Go.Proofs.Tryz.func191, by kernel_rfl, by kernel_rfl⟩
theorem has192 : Has Tryz.prog 192 := ⟨_, Go.Proofs.Tryz.func192, by kernel_rfl, by kernel_rfl⟩
theorem has193 : Has Tryz.prog 193 := ⟨_, Go.Proofs.Tryz.func193, by kernel_rfl, by kernel_rfl⟩
theorem has194 : Has Tryz.prog 194 := ⟨_, Go.Proofs.Tryz.func194, by kernel_rfl, by kernel_rfl⟩
theorem has195 : Has Tryz.prog 195 := ⟨_, Go.Proofs.Tryz.func195, by kernel_rfl, by kernel_rfl⟩
theorem has196 : Has Tryz.prog 196 := ⟨_, Go.Proofs.Tryz.func196, by kernel_rfl, by kernel_rfl⟩
theorem has197 : Has Tryz.prog 197 := ⟨_, Go.Proofs.Tryz.func197, by kernel_rfl, by kernel_rfl⟩
theorem has198 : Has Tryz.prog 198 := ⟨_, Go.Proofs.Tryz.func198, by kernel_rfl, by kernel_rfl⟩
theorem has199 : Has Tryz.prog 199 := ⟨_, Go.Proofs.Tryz.func199, by kernel_rfl, by kernel_rfl⟩
theorem has200 : Has Tryz.prog 200 := ⟨_, Go.Proofs.Tryz.func200, by kernel_rfl, by kernel_rfl⟩
theorem has201 : Has Tryz.prog 201 := ⟨_, Go.Proofs.Tryz.func201, by kernel_rfl, by kernel_rfl⟩
theorem has202 : Has Tryz.prog 202 := ⟨_, Go.Proofs.Tryz.func202, by kernel_rfl, by kernel_rfl⟩
theorem has203 : Has Tryz.prog 203 := ⟨_, Go.Proofs.Tryz.func203, by kernel_rfl, by kernel_rfl⟩
theorem has204 : Has Tryz.prog 204 := ⟨_, Go.Proofs.Tryz.func204, by kernel_rfl, by kernel_rfl⟩
theorem has205 : Has Tryz.prog 205 := ⟨_, Go.Proofs.Tryz.func205, by kernel_rfl, by kernel_rfl⟩
theorem has206 : Has Tryz.prog 206 := ⟨_, Go.Proofs.Tryz.func206, by kernel_rfl, by kernel_rfl⟩
theorem has207 : Has Tryz.prog 207 := ⟨_, Go.Proofs.Tryz.func207, by kernel_rfl, by kernel_rfl⟩
theorem has208 : Has Tryz.prog 208 := ⟨_, Go.Proofs.Tryz.func208, by kernel_rfl, by kernel_rfl⟩
theorem has209 : Has Tryz.prog 209 := ⟨_, Go.Proofs.Tryz.func209, by kernel_rfl, by kernel_rfl⟩
theorem has210 : Has Tryz.prog 210 := ⟨_, Go.Proofs.Tryz.func210, by kernel_rfl, by kernel_rfl⟩
theorem has211 : Has Tryz.prog 211 := ⟨_, Go.Proofs.Tryz.func211, by kernel_rfl, by kernel_rfl⟩
theorem has212 : Has Tryz.prog 212 := ⟨_, Go.Proofs.Tryz.func212, by kernel_rfl, by kernel_rfl⟩
theorem has213 : Has Tryz.prog 213 := ⟨_, Go.Proofs.Tryz.func213, by kernel_rfl, by kernel_rfl⟩
theorem has214 : Has Tryz.prog 214 := ⟨_, Go.Proofs.Tryz.func214, by kernel_rfl, by kernel_rfl⟩
theorem has215 : Has Tryz.prog 215 := ⟨_, Go.Proofs.Tryz.func215, by kernel_rfl, by kernel_rfl⟩
theorem has216 : Has Tryz.prog 216 := ⟨_, Go.Proofs.Tryz.func216, by kernel_rfl, by kernel_rfl⟩
theorem has217 : Has Tryz.prog 217 := ⟨_, Go.Proofs.Tryz.func217, by kernel_rfl, by kernel_rfl⟩
theorem has218 : Has Tryz.prog 218 := ⟨_, Go.Proofs.Tryz.func218, by kernel_rfl, by kernel_rfl⟩
theorem has219 : Has Tryz.prog 219 := ⟨_, Go.Proofs.Tryz.func219, by kernel_rfl, by kernel_rfl⟩
theorem has220 : Has Tryz.prog 220 := ⟨_, Go.Proofs.Tryz.func220, by kernel_rfl, by kernel_rfl⟩
theorem has221 : Has Tryz.prog 221 := ⟨_, Go.Proofs.Tryz.func221, by kernel_rfl, by kernel_rfl⟩
theorem has222 : Has Tryz.prog 222 := ⟨_, Go.Proofs.Tryz.func222, by kernel_rfl, by kernel_rfl⟩
theorem has223 : Has Tryz.prog 223 := ⟨_, Go.Proofs.Tryz.func223, by kernel_rfl, by kernel_rfl⟩
theorem has224 : Has Tryz.prog 224 := ⟨_, Go.Proofs.Tryz.func224, by kernel_rfl, by kernel_rfl⟩
theorem has225 : Has Tryz.prog 225 := ⟨_, Go.Proofs.Tryz.func225, by kernel_rfl, by kernel_rfl⟩
theorem has226 : Has Tryz.prog 226 := ⟨_, Go.Proofs.Tryz.func226, by kernel_rfl, by kernel_rfl⟩
theorem has227 : Has Tryz.prog 227 := ⟨_, Go.Proofs.Tryz.func227, by kernel_rfl, by kernel_rfl⟩
theorem has228 : Has Tryz.prog 228 := ⟨_, Go.Proofs.Tryz.func228, by kernel_rfl, by kernel_rfl⟩
theorem has229 : Has Tryz.prog 229 := ⟨_, Go.Proofs.Tryz.func229, by kernel_rfl, by kernel_rfl⟩
theorem has230 : Has Tryz.prog 230 := ⟨_, Go.Proofs.Tryz.func230, by kernel_rfl, by kernel_rfl⟩
theorem has231 : Has Tryz.prog 231 := ⟨_, Go.Proofs.Tryz.func231, by kernel_rfl, by kernel_rfl⟩
theorem has232 : Has Tryz.prog 232 := ⟨_, Go.Proofs.Tryz.func232, by kernel_rfl, by kernel_rfl⟩
theorem has233 : Has Tryz.prog 233 := ⟨_, Go.Proofs.Tryz.func233, by kernel_rfl, by kernel_rfl⟩
theorem has234 : Has Tryz.prog 234 := ⟨_, Go.Proofs.Tryz.func234, by kernel_rfl, by kernel_rfl⟩
theorem has235 : Has Tryz.prog 235 := ⟨_, Go.Proofs.Tryz.func235, by kernel_rfl, by kernel_rfl⟩
theorem has236 : Has Tryz.prog 236 := ⟨_, Go.Proofs.Tryz.func236, by kernel_rfl, by kernel_rfl⟩
theorem has237 : Has Tryz.prog 237 := ⟨_, Go.Proofs.Tryz.func237, by kernel_rfl, by kernel_rfl⟩
theorem has238 : Has Tryz.prog 238 := ⟨_, Go.Proofs.Tryz.func238, by kernel_rfl, by kernel_rfl⟩
theorem has239 : Has Tryz.prog 239 := ⟨_, Go.Proofs.Tryz.func239, by kernel_rfl, by kernel_rfl⟩
theorem has240 : Has Tryz.prog 240 := ⟨_, Go.Proofs.Tryz.func240, by kernel_rfl, by kernel_rfl⟩
theorem has241 : Has Tryz.prog 241 := ⟨_, Go.Proofs.Tryz.func241, by kernel_rfl, by kernel_rfl⟩
theorem has242 : Has Tryz.prog 242 := ⟨_, Go.Proofs.Tryz.func242, by kernel_rfl, by kernel_rfl⟩
theorem has243 : Has Tryz.prog 243 := ⟨_, Go.Proofs.Tryz.func243, by kernel_rfl, by kernel_rfl⟩
theorem has244 : Has Tryz.prog 244 := ⟨_, Go.Proofs.Tryz.func244, by kernel_rfl, by kernel_rfl⟩
theorem has245 : Has Tryz.prog 245 := ⟨_, Go.Proofs.Tryz.func245, by kernel_rfl, by kernel_rfl⟩
theorem has246 : Has Tryz.prog 246 := ⟨_, Go.Proofs.Tryz.func246, by kernel_rfl, by kernel_rfl⟩
theorem has247 : Has Tryz.prog 247 := ⟨_, Go.Proofs.Tryz.func247, by kernel_rfl, by kernel_rfl⟩
theorem has248 : Has Tryz.prog 248 := ⟨_, Go.Proofs.Tryz.func248, by kernel_rfl, by kernel_rfl⟩
theorem has249 : Has Tryz.prog 249 := ⟨_, Go.Proofs.Tryz.func249, by kernel_rfl, by kernel_rfl⟩
theorem has250 : Has Tryz.prog 250 := ⟨_, Go.Proofs.Tryz.func250, by kernel_rfl, by kernel_rfl⟩
theorem has251 : Has Tryz.prog 251 := ⟨_, Go.Proofs.Tryz.func251, by kernel_rfl, by kernel_rfl⟩
theorem has252 : Has Tryz.prog 252 := ⟨_, Go.Proofs.Tryz.func252, by kernel_rfl, by kernel_rfl⟩
theorem has253 : Has Tryz.prog 253 := ⟨_, Go.Proofs.Tryz.func253, by kernel_rfl, by kernel_rfl⟩
theorem has254 : Has Tryz.prog 254 := ⟨_, Go.Proofs.Tryz.func254, by kernel_rfl, by kernel_rfl⟩
theorem has255 : Has Tryz.prog 255 := ⟨_, Go.Proofs.Tryz.func255, by kernel_rfl, by kernel_rfl⟩
theorem has256 : Has Tryz.prog 256 := ⟨_, Go.Proofs.Tryz.func256, by kernel_rfl, by kernel_rfl⟩
theorem has257 : Has Tryz.prog 257 := ⟨_, Go.Proofs.Tryz.func257, by kernel_rfl, by kernel_rfl⟩
theorem has258 : Has Tryz.prog 258 := ⟨_, Go.Proofs.Tryz.func258, by kernel_rfl, by kernel_rfl⟩
theorem has259 : Has Tryz.prog 259 := ⟨_, Go.Proofs.Tryz.func259, by kernel_rfl, by kernel_rfl⟩
theorem has260 : Has Tryz.prog 260 := ⟨_, Go.Proofs.Tryz.func260, by kernel_rfl, by kernel_rfl⟩
theorem has261 : Has Tryz.prog 261 := ⟨_, Go.Proofs.Tryz.func261, by kernel_rfl, by kernel_rfl⟩
theorem has262 : Has Tryz.prog 262 := ⟨_, Go.Proofs.Tryz.func262, by kernel_rfl, by kernel_rfl⟩
theorem has263 : Has Tryz.prog 263 := ⟨_, Go.Proofs.Tryz.func263, by kernel_rfl, by kernel_rfl⟩
theorem has264 : Has Tryz.prog 264 := ⟨_, Go.Proofs.Tryz.func264, by kernel_rfl, by kernel_rfl⟩
theorem has265 : Has Tryz.prog 265 := ⟨_, Go.Proofs.Tryz.func265, by kernel_rfl, by kernel_rfl⟩
theorem has266 : Has Tryz.prog 266 := ⟨_, Go.Proofs.Tryz.func266, by kernel_rfl, by kernel_rfl⟩
theorem has267 : Has Tryz.prog 267 := ⟨_, Go.Proofs.Tryz.func267, by kernel_rfl, by kernel_rfl⟩
theorem has268 : Has Tryz.prog 268 := ⟨_, Go.Proofs.Tryz.func268, by kernel_rfl, by kernel_rfl⟩
theorem has269 : Has Tryz.prog 269 := ⟨_, Go.Proofs.Tryz.func269, by kernel_rfl, by kernel_rfl⟩
theorem has270 : Has Tryz.prog 270 := ⟨_, Go.Proofs.Tryz.func270, by kernel_rfl, by kernel_rfl⟩
theorem has271 : Has Tryz.prog 271 := ⟨_, Go.Proofs.Tryz.func271, by kernel_rfl, by kernel_rfl⟩
theorem has272 : Has Tryz.prog 272 := ⟨_, Go.Proofs.Tryz.func272, by kernel_rfl, by kernel_rfl⟩
theorem has273 : Has Tryz.prog 273 := ⟨_, Go.Proofs.Tryz.func273, by kernel_rfl, by kernel_rfl⟩
theorem has274 : Has Tryz.prog 274 := ⟨_, Go.Proofs.Tryz.func274, by kernel_rfl, by kernel_rfl⟩
theorem has275 : Has Tryz.prog 275 := ⟨_, Go.Proofs.Tryz.func275, by kernel_rfl, by kernel_rfl⟩
theorem has276 : Has Tryz.prog 276 := ⟨_, Go.Proofs.Tryz.func276, by kernel_rfl, by kernel_rfl⟩
theorem has277 : Has Tryz.prog 277 := ⟨_, Go.Proofs.Tryz.func277, by kernel_rfl, by kernel_rfl⟩
theorem has278 : Has Tryz.prog 278 := ⟨_, Go.Proofs.Tryz.func278, by kernel_rfl, by kernel_rfl⟩
theorem has279 : Has Tryz.prog 279 := ⟨_, Go.Proofs.Tryz.func279, by kernel_rfl, by kernel_rfl⟩
theorem has280 : Has Tryz.prog 280 := ⟨_, Go.Proofs.Tryz.func280, by kernel_rfl, by kernel_rfl⟩
theorem has281 : Has Tryz.prog 281 := ⟨_, Go.Proofs.Tryz.func281, by kernel_rfl, by kernel_rfl⟩
theorem has282 : Has Tryz.prog 282 := ⟨_, Go.Proofs.Tryz.func282, by kernel_rfl, by kernel_rfl⟩
theorem has283 : Has Tryz.prog 283 := ⟨_, Go.Proofs.Tryz.func283, by kernel_rfl, by kernel_rfl⟩
theorem has284 : Has Tryz.prog 284 := ⟨_, Go.Proofs.Tryz.func284, by kernel_rfl, by kernel_rfl⟩
theorem has285 : Has Tryz.prog 285 := ⟨_, Go.Proofs.Tryz.func285, by kernel_rfl, by kernel_rfl⟩
theorem has286 : Has Tryz.prog 286 := ⟨_, Go.Proofs.Tryz.func286, by kernel_rfl, by kernel_rfl⟩
theorem has287 : Has Tryz.prog 287 := ⟨_, Go.Proofs.Tryz.func287, by kernel_rfl, by kernel_rfl⟩
end Go.Hw
