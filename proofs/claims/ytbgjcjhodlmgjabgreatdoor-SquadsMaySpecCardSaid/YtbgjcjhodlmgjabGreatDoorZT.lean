import Derived.Test.YtbgjcjhodlmgjabGreatDoorProg
import Derived.Test.YtbgjcjhodlmgjabGreatDoorHB
import Derived.KernelRfl
/- The table of types and the functions of this seat's program, for the walk kit: printed by types.py off the dump. -/
set_option linter.unusedVariables false
set_option maxRecDepth 100000
namespace Go.Hw
open Go
open Go.Proofs (Tryz.prog)
def fd (t o : Nat) (b : Bool := false) : Field := { name := if b then "_" else "", type := t, offset := o, embedded := false, tag := "", pkgPath := "", byteOffset := 0 }
def ty3 : Ty := ⟨3, .int .i64, 1, 8, .int .i64 0⟩
theorem ty3_ok : TyOk Tryz.prog ty3 := ⟨by kernel_rfl, by kernel_rfl⟩
def ty4 : Ty := ⟨4, .bool, 1, 1, .bool false⟩
theorem ty4_ok : TyOk Tryz.prog ty4 := ⟨by kernel_rfl, by kernel_rfl⟩
def ty5 : Ty := ⟨5, .int .u8, 1, 1, .int .u8 0⟩
theorem ty5_ok : TyOk Tryz.prog ty5 := ⟨by kernel_rfl, by kernel_rfl⟩
def ty9 : Ty := ⟨9, .string, 1, 16, .string ByteArray.empty⟩
theorem ty9_ok : TyOk Tryz.prog ty9 := ⟨by kernel_rfl, by kernel_rfl⟩
def ty22 : Ty := ⟨22, .slice 76, 1, 24, .slice none 0 0⟩
theorem ty22_ok : TyOk Tryz.prog ty22 := ⟨by kernel_rfl, by kernel_rfl⟩
def ty24 : Ty := ⟨24, .struct #[fd 3 0, fd 3 1, fd 3 2, fd 3 3, fd 3 4, fd 3 5, fd 22 6], 7, 72, .agg #[.int .i64 0, .int .i64 0, .int .i64 0, .int .i64 0, .int .i64 0, .int .i64 0, .slice none 0 0]⟩
theorem ty24_ok : TyOk Tryz.prog ty24 := ⟨by kernel_rfl, by kernel_rfl⟩
def ty25 : Ty := ⟨25, .slice 3, 1, 24, .slice none 0 0⟩
theorem ty25_ok : TyOk Tryz.prog ty25 := ⟨by kernel_rfl, by kernel_rfl⟩
def ty26 : Ty := ⟨26, .slice 100, 1, 24, .slice none 0 0⟩
theorem ty26_ok : TyOk Tryz.prog ty26 := ⟨by kernel_rfl, by kernel_rfl⟩
def ty28 : Ty := ⟨28, .struct #[fd 3 0, fd 25 1, fd 3 2, fd 26 3], 4, 64, .agg #[.int .i64 0, .slice none 0 0, .int .i64 0, .slice none 0 0]⟩
theorem ty28_ok : TyOk Tryz.prog ty28 := ⟨by kernel_rfl, by kernel_rfl⟩
def ty29 : Ty := ⟨29, .slice 37, 1, 24, .slice none 0 0⟩
theorem ty29_ok : TyOk Tryz.prog ty29 := ⟨by kernel_rfl, by kernel_rfl⟩
def ty30 : Ty := ⟨30, .func #[] #[4] false, 1, 8, .nilFunc⟩
theorem ty30_ok : TyOk Tryz.prog ty30 := ⟨by kernel_rfl, by kernel_rfl⟩
def ty33 : Ty := ⟨33, .int .i64, 1, 8, .int .i64 0⟩
theorem ty33_ok : TyOk Tryz.prog ty33 := ⟨by kernel_rfl, by kernel_rfl⟩
def ty37 : Ty := ⟨37, .struct #[fd 3 0, fd 3 1, fd 4 2, fd 3 3], 4, 32, .agg #[.int .i64 0, .int .i64 0, .bool false, .int .i64 0]⟩
theorem ty37_ok : TyOk Tryz.prog ty37 := ⟨by kernel_rfl, by kernel_rfl⟩
def ty51 : Ty := ⟨51, .map 3 37, 1, 8, .map none⟩
theorem ty51_ok : TyOk Tryz.prog ty51 := ⟨by kernel_rfl, by kernel_rfl⟩
def ty59 : Ty := ⟨59, .struct #[fd 33 0, fd 30 1], 2, 16, .agg #[.int .i64 0, .nilFunc]⟩
theorem ty59_ok : TyOk Tryz.prog ty59 := ⟨by kernel_rfl, by kernel_rfl⟩
def ty70 : Ty := ⟨70, .struct #[fd 3 0, fd 3 1, fd 3 2], 3, 24, .agg #[.int .i64 0, .int .i64 0, .int .i64 0]⟩
theorem ty70_ok : TyOk Tryz.prog ty70 := ⟨by kernel_rfl, by kernel_rfl⟩
def ty74 : Ty := ⟨74, .func #[3] #[4] false, 1, 8, .nilFunc⟩
theorem ty74_ok : TyOk Tryz.prog ty74 := ⟨by kernel_rfl, by kernel_rfl⟩
def ty76 : Ty := ⟨76, .struct #[fd 3 0, fd 3 1], 2, 16, .agg #[.int .i64 0, .int .i64 0]⟩
theorem ty76_ok : TyOk Tryz.prog ty76 := ⟨by kernel_rfl, by kernel_rfl⟩
def ty79 : Ty := ⟨79, .pointer 85, 1, 8, .pointer none⟩
theorem ty79_ok : TyOk Tryz.prog ty79 := ⟨by kernel_rfl, by kernel_rfl⟩
def ty83 : Ty := ⟨83, .map 3 87, 1, 8, .map none⟩
theorem ty83_ok : TyOk Tryz.prog ty83 := ⟨by kernel_rfl, by kernel_rfl⟩
def ty85 : Ty := ⟨85, .struct #[fd 28 0, fd 83 4], 5, 72, .agg #[.int .i64 0, .slice none 0 0, .int .i64 0, .slice none 0 0, .map none]⟩
theorem ty85_ok : TyOk Tryz.prog ty85 := ⟨by kernel_rfl, by kernel_rfl⟩
def ty87 : Ty := ⟨87, .struct #[fd 3 0, fd 3 1, fd 3 2, fd 3 3, fd 4 4], 5, 40, .agg #[.int .i64 0, .int .i64 0, .int .i64 0, .int .i64 0, .bool false]⟩
theorem ty87_ok : TyOk Tryz.prog ty87 := ⟨by kernel_rfl, by kernel_rfl⟩
def ty91 : Ty := ⟨91, .int .u64, 1, 8, .int .u64 0⟩
theorem ty91_ok : TyOk Tryz.prog ty91 := ⟨by kernel_rfl, by kernel_rfl⟩
def ty92 : Ty := ⟨92, .slice 59, 1, 24, .slice none 0 0⟩
theorem ty92_ok : TyOk Tryz.prog ty92 := ⟨by kernel_rfl, by kernel_rfl⟩
def ty94 : Ty := ⟨94, .func #[76] #[4] false, 1, 8, .nilFunc⟩
theorem ty94_ok : TyOk Tryz.prog ty94 := ⟨by kernel_rfl, by kernel_rfl⟩
def ty98 : Ty := ⟨98, .map 3 4, 1, 8, .map none⟩
theorem ty98_ok : TyOk Tryz.prog ty98 := ⟨by kernel_rfl, by kernel_rfl⟩
def ty100 : Ty := ⟨100, .struct #[fd 3 0, fd 3 1, fd 3 2, fd 3 3, fd 3 4, fd 3 5, fd 3 6], 7, 56, .agg #[.int .i64 0, .int .i64 0, .int .i64 0, .int .i64 0, .int .i64 0, .int .i64 0, .int .i64 0]⟩
theorem ty100_ok : TyOk Tryz.prog ty100 := ⟨by kernel_rfl, by kernel_rfl⟩
def ty103 : Ty := ⟨103, .struct #[fd 3 0, fd 3 1, fd 3 2, fd 3 3, fd 4 4], 5, 40, .agg #[.int .i64 0, .int .i64 0, .int .i64 0, .int .i64 0, .bool false]⟩
theorem ty103_ok : TyOk Tryz.prog ty103 := ⟨by kernel_rfl, by kernel_rfl⟩
def ty110 : Ty := ⟨110, .int .i64, 1, 8, .int .i64 0⟩
theorem ty110_ok : TyOk Tryz.prog ty110 := ⟨by kernel_rfl, by kernel_rfl⟩
def ty118 : Ty := ⟨118, .int .u32, 1, 4, .int .u32 0⟩
theorem ty118_ok : TyOk Tryz.prog ty118 := ⟨by kernel_rfl, by kernel_rfl⟩
def ty120 : Ty := ⟨120, .int .u64, 1, 8, .int .u64 0⟩
theorem ty120_ok : TyOk Tryz.prog ty120 := ⟨by kernel_rfl, by kernel_rfl⟩
def ty126 : Ty := ⟨126, .array 12 3, 12, 96, .agg #[.int .i64 0, .int .i64 0, .int .i64 0, .int .i64 0, .int .i64 0, .int .i64 0, .int .i64 0, .int .i64 0, .int .i64 0, .int .i64 0, .int .i64 0, .int .i64 0]⟩
theorem ty126_ok : TyOk Tryz.prog ty126 := ⟨by kernel_rfl, by kernel_rfl⟩
def ty129 : Ty := ⟨129, .func #[100] #[87, 33] false, 1, 8, .nilFunc⟩
theorem ty129_ok : TyOk Tryz.prog ty129 := ⟨by kernel_rfl, by kernel_rfl⟩
def ty130 : Ty := ⟨130, .int .u64, 1, 8, .int .u64 0⟩
theorem ty130_ok : TyOk Tryz.prog ty130 := ⟨by kernel_rfl, by kernel_rfl⟩
def ty134 : Ty := ⟨134, .pointer 3, 1, 8, .pointer none⟩
theorem ty134_ok : TyOk Tryz.prog ty134 := ⟨by kernel_rfl, by kernel_rfl⟩
def ty136 : Ty := ⟨136, .map 3 129, 1, 8, .map none⟩
theorem ty136_ok : TyOk Tryz.prog ty136 := ⟨by kernel_rfl, by kernel_rfl⟩
def ty142 : Ty := ⟨142, .slice 33, 1, 24, .slice none 0 0⟩
theorem ty142_ok : TyOk Tryz.prog ty142 := ⟨by kernel_rfl, by kernel_rfl⟩
def ts : List Ty := [ty3, ty4, ty5, ty9, ty22, ty24, ty25, ty26, ty28, ty29, ty30, ty33, ty37, ty51, ty59, ty70, ty74, ty76, ty79, ty83, ty85, ty87, ty91, ty92, ty94, ty98, ty100, ty103, ty110, ty118, ty120, ty126, ty129, ty130, ty134, ty136, ty142]
theorem ts_ok : TsOk Tryz.prog ts := by
  intro t ht
  simp only [ts, List.mem_cons, List.not_mem_nil, or_false] at ht
  rcases ht with rfl | rfl | rfl | rfl | rfl | rfl | rfl | rfl | rfl | rfl | rfl | rfl | rfl | rfl | rfl | rfl | rfl | rfl | rfl | rfl | rfl | rfl | rfl | rfl | rfl | rfl | rfl | rfl | rfl | rfl | rfl | rfl | rfl | rfl | rfl | rfl | rfl
  · exact ty3_ok
  · exact ty4_ok
  · exact ty5_ok
  · exact ty9_ok
  · exact ty22_ok
  · exact ty24_ok
  · exact ty25_ok
  · exact ty26_ok
  · exact ty28_ok
  · exact ty29_ok
  · exact ty30_ok
  · exact ty33_ok
  · exact ty37_ok
  · exact ty51_ok
  · exact ty59_ok
  · exact ty70_ok
  · exact ty74_ok
  · exact ty76_ok
  · exact ty79_ok
  · exact ty83_ok
  · exact ty85_ok
  · exact ty87_ok
  · exact ty91_ok
  · exact ty92_ok
  · exact ty94_ok
  · exact ty98_ok
  · exact ty100_ok
  · exact ty103_ok
  · exact ty110_ok
  · exact ty118_ok
  · exact ty120_ok
  · exact ty126_ok
  · exact ty129_ok
  · exact ty130_ok
  · exact ty134_ok
  · exact ty136_ok
  · exact ty142_ok
theorem has3 : Has Tryz.prog 3 := ⟨_, Go.Proofs.Tryz.func3, by kernel_rfl, by kernel_rfl⟩
theorem has4 : Has Tryz.prog 4 := ⟨_, Go.Proofs.Tryz.func4, by kernel_rfl, by kernel_rfl⟩
theorem has5 : Has Tryz.prog 5 := ⟨_, Go.Proofs.Tryz.func5, by kernel_rfl, by kernel_rfl⟩
theorem has6 : Has Tryz.prog 6 := ⟨_, Go.Proofs.Tryz.func6, by kernel_rfl, by kernel_rfl⟩
theorem has7 : Has Tryz.prog 7 := ⟨_, Go.Proofs.Tryz.func7, by kernel_rfl, by kernel_rfl⟩
theorem has8 : Has Tryz.prog 8 := ⟨_, Go.Proofs.Tryz.func8, by kernel_rfl, by kernel_rfl⟩
theorem has9 : Has Tryz.prog 9 := ⟨_, Go.Proofs.Tryz.func9, by kernel_rfl, by kernel_rfl⟩
theorem has10 : Has Tryz.prog 10 := ⟨_, Go.Proofs.Tryz.func10, by kernel_rfl, by kernel_rfl⟩
theorem has11 : Has Tryz.prog 11 := ⟨_, Go.Proofs.Tryz.func11, by kernel_rfl, by kernel_rfl⟩
theorem has12 : Has Tryz.prog 12 := ⟨_, Go.Proofs.Tryz.func12, by kernel_rfl, by kernel_rfl⟩
theorem has13 : Has Tryz.prog 13 := ⟨_, Go.Proofs.Tryz.func13, by kernel_rfl, by kernel_rfl⟩
theorem has14 : Has Tryz.prog 14 := ⟨_, Go.Proofs.Tryz.func14, by kernel_rfl, by kernel_rfl⟩
theorem has15 : Has Tryz.prog 15 := ⟨_, Go.Proofs.Tryz.func15, by kernel_rfl, by kernel_rfl⟩
theorem has16 : Has Tryz.prog 16 := ⟨_, Go.Proofs.Tryz.func16, by kernel_rfl, by kernel_rfl⟩
theorem has17 : Has Tryz.prog 17 := ⟨_, Go.Proofs.Tryz.func17, by kernel_rfl, by kernel_rfl⟩
theorem has18 : Has Tryz.prog 18 := ⟨_, Go.Proofs.Tryz.func18, by kernel_rfl, by kernel_rfl⟩
theorem has19 : Has Tryz.prog 19 := ⟨_, Go.Proofs.Tryz.func19, by kernel_rfl, by kernel_rfl⟩
theorem has20 : Has Tryz.prog 20 := ⟨_, Go.Proofs.Tryz.func20, by kernel_rfl, by kernel_rfl⟩
theorem has21 : Has Tryz.prog 21 := ⟨_, Go.Proofs.Tryz.func21, by kernel_rfl, by kernel_rfl⟩
theorem has22 : Has Tryz.prog 22 := ⟨_, Go.Proofs.Tryz.func22, by kernel_rfl, by kernel_rfl⟩
theorem has23 : Has Tryz.prog 23 := ⟨_, Go.Proofs.Tryz.func23, by kernel_rfl, by kernel_rfl⟩
theorem has24 : Has Tryz.prog 24 := ⟨_, Go.Proofs.Tryz.func24, by kernel_rfl, by kernel_rfl⟩
theorem has25 : Has Tryz.prog 25 := ⟨_, Go.Proofs.Tryz.func25, by kernel_rfl, by kernel_rfl⟩
theorem has26 : Has Tryz.prog 26 := ⟨_, Go.Proofs.Tryz.func26, by kernel_rfl, by kernel_rfl⟩
theorem has27 : Has Tryz.prog 27 := ⟨_, Go.Proofs.Tryz.func27, by kernel_rfl, by kernel_rfl⟩
theorem has28 : Has Tryz.prog 28 := ⟨_, Go.Proofs.Tryz.func28, by kernel_rfl, by kernel_rfl⟩
theorem has29 : Has Tryz.prog 29 := ⟨_, Go.Proofs.Tryz.func29, by kernel_rfl, by kernel_rfl⟩
theorem has30 : Has Tryz.prog 30 := ⟨_, Go.Proofs.Tryz.func30, by kernel_rfl, by kernel_rfl⟩
theorem has31 : Has Tryz.prog 31 := ⟨_, Go.Proofs.Tryz.func31, by kernel_rfl, by kernel_rfl⟩
theorem has32 : Has Tryz.prog 32 := ⟨_, Go.Proofs.Tryz.func32, by kernel_rfl, by kernel_rfl⟩
theorem has33 : Has Tryz.prog 33 := ⟨_, Go.Proofs.Tryz.func33, by kernel_rfl, by kernel_rfl⟩
theorem has34 : Has Tryz.prog 34 := ⟨_, Go.Proofs.Tryz.func34, by kernel_rfl, by kernel_rfl⟩
theorem has35 : Has Tryz.prog 35 := ⟨_, Go.Proofs.Tryz.func35, by kernel_rfl, by kernel_rfl⟩
theorem has36 : Has Tryz.prog 36 := ⟨_, Go.Proofs.Tryz.func36, by kernel_rfl, by kernel_rfl⟩
theorem has37 : Has Tryz.prog 37 := ⟨_, Go.Proofs.Tryz.func37, by kernel_rfl, by kernel_rfl⟩
theorem has38 : Has Tryz.prog 38 := ⟨_, Go.Proofs.Tryz.func38, by kernel_rfl, by kernel_rfl⟩
theorem has39 : Has Tryz.prog 39 := ⟨_, Go.Proofs.Tryz.func39, by kernel_rfl, by kernel_rfl⟩
theorem has40 : Has Tryz.prog 40 := ⟨_, Go.Proofs.Tryz.func40, by kernel_rfl, by kernel_rfl⟩
theorem has41 : Has Tryz.prog 41 := ⟨_, Go.Proofs.Tryz.func41, by kernel_rfl, by kernel_rfl⟩
theorem has42 : Has Tryz.prog 42 := ⟨_, Go.Proofs.Tryz.func42, by kernel_rfl, by kernel_rfl⟩
theorem has43 : Has Tryz.prog 43 := ⟨_, Go.Proofs.Tryz.func43, by kernel_rfl, by kernel_rfl⟩
theorem has44 : Has Tryz.prog 44 := ⟨_, Go.Proofs.Tryz.func44, by kernel_rfl, by kernel_rfl⟩
theorem has45 : Has Tryz.prog 45 := ⟨_, Go.Proofs.Tryz.func45, by kernel_rfl, by kernel_rfl⟩
theorem has46 : Has Tryz.prog 46 := ⟨_, Go.Proofs.Tryz.func46, by kernel_rfl, by kernel_rfl⟩
theorem has47 : Has Tryz.prog 47 := ⟨_, Go.Proofs.Tryz.func47, by kernel_rfl, by kernel_rfl⟩
theorem has48 : Has Tryz.prog 48 := ⟨_, Go.Proofs.Tryz.func48, by kernel_rfl, by kernel_rfl⟩
theorem has49 : Has Tryz.prog 49 := ⟨_, Go.Proofs.Tryz.func49, by kernel_rfl, by kernel_rfl⟩
theorem has50 : Has Tryz.prog 50 := ⟨_, Go.Proofs.Tryz.func50, by kernel_rfl, by kernel_rfl⟩
theorem has51 : Has Tryz.prog 51 := ⟨_, Go.Proofs.Tryz.func51, by kernel_rfl, by kernel_rfl⟩
theorem has52 : Has Tryz.prog 52 := ⟨_, Go.Proofs.Tryz.func52, by kernel_rfl, by kernel_rfl⟩
theorem has53 : Has Tryz.prog 53 := ⟨_, Go.Proofs.Tryz.func53, by kernel_rfl, by kernel_rfl⟩
theorem has54 : Has Tryz.prog 54 := ⟨_, Go.Proofs.Tryz.func54, by kernel_rfl, by kernel_rfl⟩
theorem has55 : Has Tryz.prog 55 := ⟨_, Go.Proofs.Tryz.func55, by kernel_rfl, by kernel_rfl⟩
theorem has56 : Has Tryz.prog 56 := ⟨_, Go.Proofs.Tryz.func56, by kernel_rfl, by kernel_rfl⟩
theorem has57 : Has Tryz.prog 57 := ⟨_, Go.Proofs.Tryz.func57, by kernel_rfl, by kernel_rfl⟩
theorem has58 : Has Tryz.prog 58 := ⟨_, Go.Proofs.Tryz.func58, by kernel_rfl, by kernel_rfl⟩
theorem has59 : Has Tryz.prog 59 := ⟨_, Go.Proofs.Tryz.func59, by kernel_rfl, by kernel_rfl⟩
theorem has60 : Has Tryz.prog 60 := ⟨_, Go.Proofs.Tryz.func60, by kernel_rfl, by kernel_rfl⟩
theorem has61 : Has Tryz.prog 61 := ⟨_, Go.Proofs.Tryz.func61, by kernel_rfl, by kernel_rfl⟩
theorem has62 : Has Tryz.prog 62 := ⟨_, Go.Proofs.Tryz.func62, by kernel_rfl, by kernel_rfl⟩
theorem has63 : Has Tryz.prog 63 := ⟨_, Go.Proofs.Tryz.func63, by kernel_rfl, by kernel_rfl⟩
theorem has64 : Has Tryz.prog 64 := ⟨_, Go.Proofs.Tryz.func64, by kernel_rfl, by kernel_rfl⟩
theorem has65 : Has Tryz.prog 65 := ⟨_, Go.Proofs.Tryz.func65, by kernel_rfl, by kernel_rfl⟩
theorem has66 : Has Tryz.prog 66 := ⟨_, Go.Proofs.Tryz.func66, by kernel_rfl, by kernel_rfl⟩
theorem has67 : Has Tryz.prog 67 := ⟨_, Go.Proofs.Tryz.func67, by kernel_rfl, by kernel_rfl⟩
theorem has68 : Has Tryz.prog 68 := ⟨_, Go.Proofs.Tryz.func68, by kernel_rfl, by kernel_rfl⟩
theorem has69 : Has Tryz.prog 69 := ⟨_, Go.Proofs.Tryz.func69, by kernel_rfl, by kernel_rfl⟩
theorem has70 : Has Tryz.prog 70 := ⟨_, Go.Proofs.Tryz.func70, by kernel_rfl, by kernel_rfl⟩
theorem has71 : Has Tryz.prog 71 := ⟨_, Go.Proofs.Tryz.func71, by kernel_rfl, by kernel_rfl⟩
theorem has72 : Has Tryz.prog 72 := ⟨_, Go.Proofs.Tryz.func72, by kernel_rfl, by kernel_rfl⟩
theorem has73 : Has Tryz.prog 73 := ⟨_, Go.Proofs.Tryz.func73, by kernel_rfl, by kernel_rfl⟩
theorem has74 : Has Tryz.prog 74 := ⟨_, Go.Proofs.Tryz.func74, by kernel_rfl, by kernel_rfl⟩
theorem has75 : Has Tryz.prog 75 := ⟨_, Go.Proofs.Tryz.func75, by kernel_rfl, by kernel_rfl⟩
theorem has76 : Has Tryz.prog 76 := ⟨_, Go.Proofs.Tryz.func76, by kernel_rfl, by kernel_rfl⟩
theorem has77 : Has Tryz.prog 77 := ⟨_, Go.Proofs.Tryz.func77, by kernel_rfl, by kernel_rfl⟩
theorem has78 : Has Tryz.prog 78 := ⟨_, Go.Proofs.Tryz.func78, by kernel_rfl, by kernel_rfl⟩
theorem has79 : Has Tryz.prog 79 := ⟨_, Go.Proofs.Tryz.func79, by kernel_rfl, by kernel_rfl⟩
theorem has80 : Has Tryz.prog 80 := ⟨_, Go.Proofs.Tryz.func80, by kernel_rfl, by kernel_rfl⟩
theorem has81 : Has Tryz.prog 81 := ⟨_, Go.Proofs.Tryz.func81, by kernel_rfl, by kernel_rfl⟩
theorem has82 : Has Tryz.prog 82 := ⟨_, Go.Proofs.Tryz.func82, by kernel_rfl, by kernel_rfl⟩
theorem has83 : Has Tryz.prog 83 := ⟨_, Go.Proofs.Tryz.func83, by kernel_rfl, by kernel_rfl⟩
theorem has84 : Has Tryz.prog 84 := ⟨_, Go.Proofs.Tryz.func84, by kernel_rfl, by kernel_rfl⟩
theorem has85 : Has Tryz.prog 85 := ⟨_, Go.Proofs.Tryz.func85, by kernel_rfl, by kernel_rfl⟩
theorem has86 : Has Tryz.prog 86 := ⟨_, Go.Proofs.Tryz.func86, by kernel_rfl, by kernel_rfl⟩
theorem has87 : Has Tryz.prog 87 := ⟨_, Go.Proofs.Tryz.func87, by kernel_rfl, by kernel_rfl⟩
theorem has88 : Has Tryz.prog 88 := ⟨_, Go.Proofs.Tryz.func88, by kernel_rfl, by kernel_rfl⟩
theorem has89 : Has Tryz.prog 89 := ⟨_, Go.Proofs.Tryz.func89, by kernel_rfl, by kernel_rfl⟩
theorem has90 : Has Tryz.prog 90 := ⟨_, Go.Proofs.Tryz.func90, by kernel_rfl, by kernel_rfl⟩
theorem has91 : Has Tryz.prog 91 := ⟨_, Go.Proofs.Tryz.func91, by kernel_rfl, by kernel_rfl⟩
theorem has92 : Has Tryz.prog 92 := ⟨_, Go.Proofs.Tryz.func92, by kernel_rfl, by kernel_rfl⟩
theorem has93 : Has Tryz.prog 93 := ⟨_, Go.Proofs.Tryz.func93, by kernel_rfl, by kernel_rfl⟩
theorem has94 : Has Tryz.prog 94 := ⟨_, Go.Proofs.Tryz.func94, by kernel_rfl, by kernel_rfl⟩
theorem has95 : Has Tryz.prog 95 := ⟨_, Go.Proofs.Tryz.func95, by kernel_rfl, by kernel_rfl⟩
theorem has96 : Has Tryz.prog 96 := ⟨_, Go.Proofs.Tryz.func96, by kernel_rfl, by kernel_rfl⟩
theorem has97 : Has Tryz.prog 97 := ⟨_, Go.Proofs.Tryz.func97, by kernel_rfl, by kernel_rfl⟩
theorem has98 : Has Tryz.prog 98 := ⟨_, Go.Proofs.Tryz.func98, by kernel_rfl, by kernel_rfl⟩
theorem has99 : Has Tryz.prog 99 := ⟨_, Go.Proofs.Tryz.func99, by kernel_rfl, by kernel_rfl⟩
theorem has100 : Has Tryz.prog 100 := ⟨_, Go.Proofs.Tryz.func100, by kernel_rfl, by kernel_rfl⟩
theorem has101 : Has Tryz.prog 101 := ⟨_, Go.Proofs.Tryz.func101, by kernel_rfl, by kernel_rfl⟩
theorem has102 : Has Tryz.prog 102 := ⟨_, Go.Proofs.Tryz.func102, by kernel_rfl, by kernel_rfl⟩
theorem has103 : Has Tryz.prog 103 := ⟨_, Go.Proofs.Tryz.func103, by kernel_rfl, by kernel_rfl⟩
theorem has104 : Has Tryz.prog 104 := ⟨_, Go.Proofs.Tryz.func104, by kernel_rfl, by kernel_rfl⟩
theorem has105 : Has Tryz.prog 105 := ⟨_, Go.Proofs.Tryz.func105, by kernel_rfl, by kernel_rfl⟩
theorem has106 : Has Tryz.prog 106 := ⟨_, Go.Proofs.Tryz.func106, by kernel_rfl, by kernel_rfl⟩
theorem has107 : Has Tryz.prog 107 := ⟨_, Go.Proofs.Tryz.func107, by kernel_rfl, by kernel_rfl⟩
theorem has108 : Has Tryz.prog 108 := ⟨_, Go.Proofs.Tryz.func108, by kernel_rfl, by kernel_rfl⟩
theorem has109 : Has Tryz.prog 109 := ⟨_, Go.Proofs.Tryz.func109, by kernel_rfl, by kernel_rfl⟩
theorem has110 : Has Tryz.prog 110 := ⟨_, Go.Proofs.Tryz.func110, by kernel_rfl, by kernel_rfl⟩
theorem has111 : Has Tryz.prog 111 := ⟨_, Go.Proofs.Tryz.func111, by kernel_rfl, by kernel_rfl⟩
theorem has112 : Has Tryz.prog 112 := ⟨_, Go.Proofs.Tryz.func112, by kernel_rfl, by kernel_rfl⟩
theorem has113 : Has Tryz.prog 113 := ⟨_, Go.Proofs.Tryz.func113, by kernel_rfl, by kernel_rfl⟩
theorem has133 : Has Tryz.prog 133 := ⟨_, Go.Proofs.Tryz.func133, by kernel_rfl, by kernel_rfl⟩
end Go.Hw
