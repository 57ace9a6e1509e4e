/- The table of types and the functions of this seat's program, for the walk kit: printed by types.py off the dump. -/
import Derived.Test.YtbgjcjhodlmgjaaProg
import Derived.Test.YtbgjcjhodlmgjaaHwR
import Derived.KernelRfl
set_option linter.unusedVariables false
set_option maxRecDepth 100000
namespace Go.Hw
open Go
open Go.Proofs (Try.prog)
def fd (t o : Nat) (b : Bool := false) : Field := { name := if b then "_" else "", type := t, offset := o, embedded := false, tag := "", pkgPath := "", byteOffset := 0 }
def ty3 : Ty := ⟨3, .int .i64, 1, 8, .int .i64 0⟩
theorem ty3_ok : TyOk Try.prog ty3 := ⟨by kernel_rfl, by kernel_rfl⟩
def ty4 : Ty := ⟨4, .bool, 1, 1, .bool false⟩
theorem ty4_ok : TyOk Try.prog ty4 := ⟨by kernel_rfl, by kernel_rfl⟩
def ty5 : Ty := ⟨5, .int .u8, 1, 1, .int .u8 0⟩
theorem ty5_ok : TyOk Try.prog ty5 := ⟨by kernel_rfl, by kernel_rfl⟩
def ty9 : Ty := ⟨9, .string, 1, 16, .string ByteArray.empty⟩
theorem ty9_ok : TyOk Try.prog ty9 := ⟨by kernel_rfl, by kernel_rfl⟩
def ty22 : Ty := ⟨22, .slice 3, 1, 24, .slice none 0 0⟩
theorem ty22_ok : TyOk Try.prog ty22 := ⟨by kernel_rfl, by kernel_rfl⟩
def ty23 : Ty := ⟨23, .slice 27, 1, 24, .slice none 0 0⟩
theorem ty23_ok : TyOk Try.prog ty23 := ⟨by kernel_rfl, by kernel_rfl⟩
def ty25 : Ty := ⟨25, .struct #[fd 3 0, fd 22 1, fd 3 2, fd 23 3], 4, 64, .agg #[.int .i64 0, .slice none 0 0, .int .i64 0, .slice none 0 0]⟩
theorem ty25_ok : TyOk Try.prog ty25 := ⟨by kernel_rfl, by kernel_rfl⟩
def ty27 : Ty := ⟨27, .struct #[fd 3 0, fd 3 1, fd 3 2, fd 3 3, fd 3 4, fd 3 5, fd 3 6], 7, 56, .agg #[.int .i64 0, .int .i64 0, .int .i64 0, .int .i64 0, .int .i64 0, .int .i64 0, .int .i64 0]⟩
theorem ty27_ok : TyOk Try.prog ty27 := ⟨by kernel_rfl, by kernel_rfl⟩
def ty30 : Ty := ⟨30, .int .i64, 1, 8, .int .i64 0⟩
theorem ty30_ok : TyOk Try.prog ty30 := ⟨by kernel_rfl, by kernel_rfl⟩
def ty44 : Ty := ⟨44, .slice 95, 1, 24, .slice none 0 0⟩
theorem ty44_ok : TyOk Try.prog ty44 := ⟨by kernel_rfl, by kernel_rfl⟩
def ty53 : Ty := ⟨53, .pointer 59, 1, 8, .pointer none⟩
theorem ty53_ok : TyOk Try.prog ty53 := ⟨by kernel_rfl, by kernel_rfl⟩
def ty57 : Ty := ⟨57, .map 3 61, 1, 8, .map none⟩
theorem ty57_ok : TyOk Try.prog ty57 := ⟨by kernel_rfl, by kernel_rfl⟩
def ty59 : Ty := ⟨59, .struct #[fd 25 0, fd 57 4], 5, 72, .agg #[.int .i64 0, .slice none 0 0, .int .i64 0, .slice none 0 0, .map none]⟩
theorem ty59_ok : TyOk Try.prog ty59 := ⟨by kernel_rfl, by kernel_rfl⟩
def ty61 : Ty := ⟨61, .struct #[fd 3 0, fd 3 1, fd 3 2, fd 3 3, fd 4 4], 5, 40, .agg #[.int .i64 0, .int .i64 0, .int .i64 0, .int .i64 0, .bool false]⟩
theorem ty61_ok : TyOk Try.prog ty61 := ⟨by kernel_rfl, by kernel_rfl⟩
def ty66 : Ty := ⟨66, .struct #[fd 3 0, fd 3 1, fd 3 2, fd 3 3, fd 4 4], 5, 40, .agg #[.int .i64 0, .int .i64 0, .int .i64 0, .int .i64 0, .bool false]⟩
theorem ty66_ok : TyOk Try.prog ty66 := ⟨by kernel_rfl, by kernel_rfl⟩
def ty74 : Ty := ⟨74, .struct #[fd 3 0, fd 3 1, fd 22 2, fd 9 3], 4, 56, .agg #[.int .i64 0, .int .i64 0, .slice none 0 0, .string ByteArray.empty]⟩
theorem ty74_ok : TyOk Try.prog ty74 := ⟨by kernel_rfl, by kernel_rfl⟩
def ty76 : Ty := ⟨76, .struct #[fd 3 0, fd 3 1, fd 3 2, fd 3 3], 4, 32, .agg #[.int .i64 0, .int .i64 0, .int .i64 0, .int .i64 0]⟩
theorem ty76_ok : TyOk Try.prog ty76 := ⟨by kernel_rfl, by kernel_rfl⟩
def ty78 : Ty := ⟨78, .struct #[fd 76 0, fd 3 4], 5, 40, .agg #[.int .i64 0, .int .i64 0, .int .i64 0, .int .i64 0, .int .i64 0]⟩
theorem ty78_ok : TyOk Try.prog ty78 := ⟨by kernel_rfl, by kernel_rfl⟩
def ty79 : Ty := ⟨79, .slice 135, 1, 24, .slice none 0 0⟩
theorem ty79_ok : TyOk Try.prog ty79 := ⟨by kernel_rfl, by kernel_rfl⟩
def ty81 : Ty := ⟨81, .struct #[fd 76 0, fd 3 4, fd 3 5, fd 3 6, fd 3 7, fd 3 8, fd 22 9, fd 22 10, fd 79 11, fd 79 12], 13, 168, .agg #[.int .i64 0, .int .i64 0, .int .i64 0, .int .i64 0, .int .i64 0, .int .i64 0, .int .i64 0, .int .i64 0, .int .i64 0, .slice none 0 0, .slice none 0 0, .slice none 0 0, .slice none 0 0]⟩
theorem ty81_ok : TyOk Try.prog ty81 := ⟨by kernel_rfl, by kernel_rfl⟩
def ty83 : Ty := ⟨83, .struct #[fd 3 0, fd 3 1], 2, 16, .agg #[.int .i64 0, .int .i64 0]⟩
theorem ty83_ok : TyOk Try.prog ty83 := ⟨by kernel_rfl, by kernel_rfl⟩
def ty85 : Ty := ⟨85, .struct #[fd 3 0, fd 3 1, fd 3 2, fd 76 3, fd 3 7, fd 3 8, fd 3 9, fd 3 10, fd 3 11, fd 3 12, fd 3 13, fd 3 14, fd 83 15], 17, 136, .agg #[.int .i64 0, .int .i64 0, .int .i64 0, .int .i64 0, .int .i64 0, .int .i64 0, .int .i64 0, .int .i64 0, .int .i64 0, .int .i64 0, .int .i64 0, .int .i64 0, .int .i64 0, .int .i64 0, .int .i64 0, .int .i64 0, .int .i64 0]⟩
theorem ty85_ok : TyOk Try.prog ty85 := ⟨by kernel_rfl, by kernel_rfl⟩
def ty87 : Ty := ⟨87, .struct #[fd 3 0, fd 3 1, fd 4 2], 3, 24, .agg #[.int .i64 0, .int .i64 0, .bool false]⟩
theorem ty87_ok : TyOk Try.prog ty87 := ⟨by kernel_rfl, by kernel_rfl⟩
def ty89 : Ty := ⟨89, .struct #[fd 3 0, fd 3 1], 2, 16, .agg #[.int .i64 0, .int .i64 0]⟩
theorem ty89_ok : TyOk Try.prog ty89 := ⟨by kernel_rfl, by kernel_rfl⟩
def ty91 : Ty := ⟨91, .struct #[fd 3 0, fd 3 1, fd 22 2], 3, 40, .agg #[.int .i64 0, .int .i64 0, .slice none 0 0]⟩
theorem ty91_ok : TyOk Try.prog ty91 := ⟨by kernel_rfl, by kernel_rfl⟩
def ty93 : Ty := ⟨93, .array 32 5, 32, 32, .agg #[.int .u8 0, .int .u8 0, .int .u8 0, .int .u8 0, .int .u8 0, .int .u8 0, .int .u8 0, .int .u8 0, .int .u8 0, .int .u8 0, .int .u8 0, .int .u8 0, .int .u8 0, .int .u8 0, .int .u8 0, .int .u8 0, .int .u8 0, .int .u8 0, .int .u8 0, .int .u8 0, .int .u8 0, .int .u8 0, .int .u8 0, .int .u8 0, .int .u8 0, .int .u8 0, .int .u8 0, .int .u8 0, .int .u8 0, .int .u8 0, .int .u8 0, .int .u8 0]⟩
theorem ty93_ok : TyOk Try.prog ty93 := ⟨by kernel_rfl, by kernel_rfl⟩
def ty95 : Ty := ⟨95, .struct #[fd 3 0, fd 3 1, fd 3 2, fd 74 3, fd 78 7, fd 81 12, fd 85 25, fd 87 42, fd 89 45, fd 91 47, fd 93 50], 82, 536, .agg #[.int .i64 0, .int .i64 0, .int .i64 0, .int .i64 0, .int .i64 0, .slice none 0 0, .string ByteArray.empty, .int .i64 0, .int .i64 0, .int .i64 0, .int .i64 0, .int .i64 0, .int .i64 0, .int .i64 0, .int .i64 0, .int .i64 0, .int .i64 0, .int .i64 0, .int .i64 0, .int .i64 0, .int .i64 0, .slice none 0 0, .slice none 0 0, .slice none 0 0, .slice none 0 0, .int .i64 0, .int .i64 0, .int .i64 0, .int .i64 0, .int .i64 0, .int .i64 0, .int .i64 0, .int .i64 0, .int .i64 0, .int .i64 0, .int .i64 0, .int .i64 0, .int .i64 0, .int .i64 0, .int .i64 0, .int .i64 0, .int .i64 0, .int .i64 0, .int .i64 0, .bool false, .int .i64 0, .int .i64 0, .int .i64 0, .int .i64 0, .slice none 0 0, .int .u8 0, .int .u8 0, .int .u8 0, .int .u8 0, .int .u8 0, .int .u8 0, .int .u8 0, .int .u8 0, .int .u8 0, .int .u8 0, .int .u8 0, .int .u8 0, .int .u8 0, .int .u8 0, .int .u8 0, .int .u8 0, .int .u8 0, .int .u8 0, .int .u8 0, .int .u8 0, .int .u8 0, .int .u8 0, .int .u8 0, .int .u8 0, .int .u8 0, .int .u8 0, .int .u8 0, .int .u8 0, .int .u8 0, .int .u8 0, .int .u8 0, .int .u8 0]⟩
theorem ty95_ok : TyOk Try.prog ty95 := ⟨by kernel_rfl, by kernel_rfl⟩
def ty99 : Ty := ⟨99, .func #[27] #[61, 30] false, 1, 8, .nilFunc⟩
theorem ty99_ok : TyOk Try.prog ty99 := ⟨by kernel_rfl, by kernel_rfl⟩
def ty106 : Ty := ⟨106, .int .u64, 1, 8, .int .u64 0⟩
theorem ty106_ok : TyOk Try.prog ty106 := ⟨by kernel_rfl, by kernel_rfl⟩
def ty109 : Ty := ⟨109, .map 3 99, 1, 8, .map none⟩
theorem ty109_ok : TyOk Try.prog ty109 := ⟨by kernel_rfl, by kernel_rfl⟩
def ty111 : Ty := ⟨111, .int .i64, 1, 8, .int .i64 0⟩
theorem ty111_ok : TyOk Try.prog ty111 := ⟨by kernel_rfl, by kernel_rfl⟩
def ty119 : Ty := ⟨119, .int .u32, 1, 4, .int .u32 0⟩
theorem ty119_ok : TyOk Try.prog ty119 := ⟨by kernel_rfl, by kernel_rfl⟩
def ty121 : Ty := ⟨121, .int .u64, 1, 8, .int .u64 0⟩
theorem ty121_ok : TyOk Try.prog ty121 := ⟨by kernel_rfl, by kernel_rfl⟩
def ty127 : Ty := ⟨127, .int .u64, 1, 8, .int .u64 0⟩
theorem ty127_ok : TyOk Try.prog ty127 := ⟨by kernel_rfl, by kernel_rfl⟩
def ty131 : Ty := ⟨131, .pointer 3, 1, 8, .pointer none⟩
theorem ty131_ok : TyOk Try.prog ty131 := ⟨by kernel_rfl, by kernel_rfl⟩
def ty135 : Ty := ⟨135, .struct #[fd 3 0, fd 4 1], 2, 16, .agg #[.int .i64 0, .bool false]⟩
theorem ty135_ok : TyOk Try.prog ty135 := ⟨by kernel_rfl, by kernel_rfl⟩
def ty136 : Ty := ⟨136, .slice 30, 1, 24, .slice none 0 0⟩
theorem ty136_ok : TyOk Try.prog ty136 := ⟨by kernel_rfl, by kernel_rfl⟩
def ts : List Ty := [ty3, ty4, ty5, ty9, ty22, ty23, ty25, ty27, ty30, ty44, ty53, ty57, ty59, ty61, ty66, ty74, ty76, ty78, ty79, ty81, ty83, ty85, ty87, ty89, ty91, ty93, ty95, ty99, ty106, ty109, ty111, ty119, ty121, ty127, ty131, ty135, ty136]
theorem ts_ok : TsOk Try.prog ts := by
  intro t ht
  simp only [ts, List.mem_cons, List.not_mem_nil, or_false] at ht
  rcases ht with rfl | rfl | rfl | rfl | rfl | rfl | rfl | rfl | rfl | rfl | rfl | rfl | rfl | rfl | rfl | rfl | rfl | rfl | rfl | rfl | rfl | rfl | rfl | rfl | rfl | rfl | rfl | rfl | rfl | rfl | rfl | rfl | rfl | rfl | rfl | rfl | rfl
  · exact ty3_ok
  · exact ty4_ok
  · exact ty5_ok
  · exact ty9_ok
  · exact ty22_ok
  · exact ty23_ok
  · exact ty25_ok
  · exact ty27_ok
  · exact ty30_ok
  · exact ty44_ok
  · exact ty53_ok
  · exact ty57_ok
  · exact ty59_ok
  · exact ty61_ok
  · exact ty66_ok
  · exact ty74_ok
  · exact ty76_ok
  · exact ty78_ok
  · exact ty79_ok
  · exact ty81_ok
  · exact ty83_ok
  · exact ty85_ok
  · exact ty87_ok
  · exact ty89_ok
  · exact ty91_ok
  · exact ty93_ok
  · exact ty95_ok
  · exact ty99_ok
  · exact ty106_ok
  · exact ty109_ok
  · exact ty111_ok
  · exact ty119_ok
  · exact ty121_ok
  · exact ty127_ok
  · exact ty131_ok
  · exact ty135_ok
  · exact ty136_ok
theorem has3 : Has Try.prog 3 := ⟨_, Go.Proofs.Try.func3, by kernel_rfl, by kernel_rfl⟩
theorem has4 : Has Try.prog 4 := ⟨_, Go.Proofs.Try.func4, by kernel_rfl, by kernel_rfl⟩
theorem has5 : Has Try.prog 5 := ⟨_, Go.Proofs.Try.func5, by kernel_rfl, by kernel_rfl⟩
theorem has6 : Has Try.prog 6 := ⟨_, Go.Proofs.Try.func6, by kernel_rfl, by kernel_rfl⟩
theorem has7 : Has Try.prog 7 := ⟨_, Go.Proofs.Try.func7, by kernel_rfl, by kernel_rfl⟩
theorem has8 : Has Try.prog 8 := ⟨_, Go.Proofs.Try.func8, by kernel_rfl, by kernel_rfl⟩
theorem has9 : Has Try.prog 9 := ⟨_, Go.Proofs.Try.func9, by kernel_rfl, by kernel_rfl⟩
theorem has10 : Has Try.prog 10 := ⟨_, Go.Proofs.Try.func10, by kernel_rfl, by kernel_rfl⟩
theorem has11 : Has Try.prog 11 := ⟨_, Go.Proofs.Try.func11, by kernel_rfl, by kernel_rfl⟩
theorem has12 : Has Try.prog 12 := ⟨_, Go.Proofs.Try.func12, by kernel_rfl, by kernel_rfl⟩
theorem has13 : Has Try.prog 13 := ⟨_, Go.Proofs.Try.func13, by kernel_rfl, by kernel_rfl⟩
theorem has14 : Has Try.prog 14 := ⟨_, Go.Proofs.Try.func14, by kernel_rfl, by kernel_rfl⟩
theorem has15 : Has Try.prog 15 := ⟨_, Go.Proofs.Try.func15, by kernel_rfl, by kernel_rfl⟩
theorem has16 : Has Try.prog 16 := ⟨_, Go.Proofs.Try.func16, by kernel_rfl, by kernel_rfl⟩
theorem has17 : Has Try.prog 17 := ⟨_, Go.Proofs.Try.func17, by kernel_rfl, by kernel_rfl⟩
theorem has18 : Has Try.prog 18 := ⟨_, Go.Proofs.Try.func18, by kernel_rfl, by kernel_rfl⟩
theorem has19 : Has Try.prog 19 := ⟨_, Go.Proofs.Try.func19, by kernel_rfl, by kernel_rfl⟩
theorem has20 : Has Try.prog 20 := ⟨_, Go.Proofs.Try.func20, by kernel_rfl, by kernel_rfl⟩
theorem has21 : Has Try.prog 21 := ⟨_, Go.Proofs.Try.func21, by kernel_rfl, by kernel_rfl⟩
theorem has22 : Has Try.prog 22 := ⟨_, Go.Proofs.Try.func22, by kernel_rfl, by kernel_rfl⟩
theorem has23 : Has Try.prog 23 := ⟨_, Go.Proofs.Try.func23, by kernel_rfl, by kernel_rfl⟩
theorem has24 : Has Try.prog 24 := ⟨_, Go.Proofs.Try.func24, by kernel_rfl, by kernel_rfl⟩
theorem has25 : Has Try.prog 25 := ⟨_, Go.Proofs.Try.func25, by kernel_rfl, by kernel_rfl⟩
theorem has26 : Has Try.prog 26 := ⟨_, Go.Proofs.Try.func26, by kernel_rfl, by kernel_rfl⟩
theorem has27 : Has Try.prog 27 := ⟨_, Go.Proofs.Try.func27, by kernel_rfl, by kernel_rfl⟩
theorem has28 : Has Try.prog 28 := ⟨_, Go.Proofs.Try.func28, by kernel_rfl, by kernel_rfl⟩
theorem has29 : Has Try.prog 29 := ⟨_, Go.Proofs.Try.func29, by kernel_rfl, by kernel_rfl⟩
theorem has30 : Has Try.prog 30 := ⟨_, Go.Proofs.Try.func30, by kernel_rfl, by kernel_rfl⟩
theorem has31 : Has Try.prog 31 := ⟨_, Go.Proofs.Try.func31, by kernel_rfl, by kernel_rfl⟩
theorem has32 : Has Try.prog 32 := ⟨_, Go.Proofs.Try.func32, by kernel_rfl, by kernel_rfl⟩
theorem has33 : Has Try.prog 33 := ⟨_, Go.Proofs.Try.func33, by kernel_rfl, by kernel_rfl⟩
theorem has34 : Has Try.prog 34 := ⟨_, Go.Proofs.Try.func34, by kernel_rfl, by kernel_rfl⟩
theorem has35 : Has Try.prog 35 := ⟨_, Go.Proofs.Try.func35, by kernel_rfl, by kernel_rfl⟩
theorem has36 : Has Try.prog 36 := ⟨_, Go.Proofs.Try.func36, by kernel_rfl, by kernel_rfl⟩
theorem has37 : Has Try.prog 37 := ⟨_, Go.Proofs.Try.func37, by kernel_rfl, by kernel_rfl⟩
theorem has38 : Has Try.prog 38 := ⟨_, Go.Proofs.Try.func38, by kernel_rfl, by kernel_rfl⟩
theorem has39 : Has Try.prog 39 := ⟨_, Go.Proofs.Try.func39, by kernel_rfl, by kernel_rfl⟩
theorem has40 : Has Try.prog 40 := ⟨_, Go.Proofs.Try.func40, by kernel_rfl, by kernel_rfl⟩
theorem has41 : Has Try.prog 41 := ⟨_, Go.Proofs.Try.func41, by kernel_rfl, by kernel_rfl⟩
theorem has42 : Has Try.prog 42 := ⟨_, Go.Proofs.Try.func42, by kernel_rfl, by kernel_rfl⟩
theorem has43 : Has Try.prog 43 := ⟨_, Go.Proofs.Try.func43, by kernel_rfl, by kernel_rfl⟩
theorem has44 : Has Try.prog 44 := ⟨_, Go.Proofs.Try.func44, by kernel_rfl, by kernel_rfl⟩
theorem has45 : Has Try.prog 45 := ⟨_, Go.Proofs.Try.func45, by kernel_rfl, by kernel_rfl⟩
theorem has46 : Has Try.prog 46 := ⟨_, Go.Proofs.Try.func46, by kernel_rfl, by kernel_rfl⟩
theorem has47 : Has Try.prog 47 := ⟨_, Go.Proofs.Try.func47, by kernel_rfl, by kernel_rfl⟩
theorem has48 : Has Try.prog 48 := ⟨_, Go.Proofs.Try.func48, by kernel_rfl, by kernel_rfl⟩
theorem has49 : Has Try.prog 49 := ⟨_, Go.Proofs.Try.func49, by kernel_rfl, by kernel_rfl⟩
theorem has50 : Has Try.prog 50 := ⟨_, Go.Proofs.Try.func50, by kernel_rfl, by kernel_rfl⟩
theorem has51 : Has Try.prog 51 := ⟨_, Go.Proofs.Try.func51, by kernel_rfl, by kernel_rfl⟩
theorem has52 : Has Try.prog 52 := ⟨_, Go.Proofs.Try.func52, by kernel_rfl, by kernel_rfl⟩
theorem has53 : Has Try.prog 53 := ⟨_, Go.Proofs.Try.func53, by kernel_rfl, by kernel_rfl⟩
theorem has54 : Has Try.prog 54 := ⟨_, Go.Proofs.Try.func54, by kernel_rfl, by kernel_rfl⟩
theorem has55 : Has Try.prog 55 := ⟨_, Go.Proofs.Try.func55, by kernel_rfl, by kernel_rfl⟩
theorem has56 : Has Try.prog 56 := ⟨_, Go.Proofs.Try.func56, by kernel_rfl, by kernel_rfl⟩
theorem has57 : Has Try.prog 57 := ⟨_, Go.Proofs.Try.func57, by kernel_rfl, by kernel_rfl⟩
theorem has58 : Has Try.prog 58 := ⟨_, Go.Proofs.Try.func58, by kernel_rfl, by kernel_rfl⟩
theorem has59 : Has Try.prog 59 := ⟨_, Go.Proofs.Try.func59, by kernel_rfl, by kernel_rfl⟩
theorem has60 : Has Try.prog 60 := ⟨_, Go.Proofs.Try.func60, by kernel_rfl, by kernel_rfl⟩
theorem has61 : Has Try.prog 61 := ⟨_, Go.Proofs.Try.func61, by kernel_rfl, by kernel_rfl⟩
theorem has62 : Has Try.prog 62 := ⟨_, Go.Proofs.Try.func62, by kernel_rfl, by kernel_rfl⟩
theorem has63 : Has Try.prog 63 := ⟨_, Go.Proofs.Try.func63, by kernel_rfl, by kernel_rfl⟩
theorem has64 : Has Try.prog 64 := ⟨_, Go.Proofs.Try.func64, by kernel_rfl, by kernel_rfl⟩
theorem has65 : Has Try.prog 65 := ⟨_, Go.Proofs.Try.func65, by kernel_rfl, by kernel_rfl⟩
theorem has66 : Has Try.prog 66 := ⟨_, Go.Proofs.Try.func66, by kernel_rfl, by kernel_rfl⟩
theorem has67 : Has Try.prog 67 := ⟨_, Go.Proofs.Try.func67, by kernel_rfl, by kernel_rfl⟩
theorem has68 : Has Try.prog 68 := ⟨_, Go.Proofs.Try.func68, by kernel_rfl, by kernel_rfl⟩
theorem has69 : Has Try.prog 69 := ⟨_, Go.Proofs.Try.func69, by kernel_rfl, by kernel_rfl⟩
theorem has70 : Has Try.prog 70 := ⟨_, Go.Proofs.Try.func70, by kernel_rfl, by kernel_rfl⟩
theorem has71 : Has Try.prog 71 := ⟨_, Go.Proofs.Try.func71, by kernel_rfl, by kernel_rfl⟩
theorem has72 : Has Try.prog 72 := ⟨_, Go.Proofs.Try.func72, by kernel_rfl, by kernel_rfl⟩
theorem has73 : Has Try.prog 73 := ⟨_, Go.Proofs.Try.func73, by kernel_rfl, by kernel_rfl⟩
theorem has74 : Has Try.prog 74 := ⟨_, Go.Proofs.Try.func74, by kernel_rfl, by kernel_rfl⟩
theorem has75 : Has Try.prog 75 := ⟨_, Go.Proofs.Try.func75, by kernel_rfl, by kernel_rfl⟩
theorem has76 : Has Try.prog 76 := ⟨_, Go.Proofs.Try.func76, by kernel_rfl, by kernel_rfl⟩
theorem has77 : Has Try.prog 77 := ⟨_, Go.Proofs.Try.func77, by kernel_rfl, by kernel_rfl⟩
theorem has78 : Has Try.prog 78 := ⟨_, Go.Proofs.Try.func78, by kernel_rfl, by kernel_rfl⟩
theorem has79 : Has Try.prog 79 := ⟨_, Go.Proofs.Try.func79, by kernel_rfl, by kernel_rfl⟩
theorem has80 : Has Try.prog 80 := ⟨_, Go.Proofs.Try.func80, by kernel_rfl, by kernel_rfl⟩
theorem has81 : Has Try.prog 81 := ⟨_, Go.Proofs.Try.func81, by kernel_rfl, by kernel_rfl⟩
theorem has82 : Has Try.prog 82 := ⟨_, Go.Proofs.Try.func82, by kernel_rfl, by kernel_rfl⟩
theorem has83 : Has Try.prog 83 := ⟨_, Go.Proofs.Try.func83, by kernel_rfl, by kernel_rfl⟩
end Go.Hw
