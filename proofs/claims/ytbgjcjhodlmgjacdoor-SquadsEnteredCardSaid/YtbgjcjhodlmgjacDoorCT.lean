import Derived.Test.YtbgjcjhodlmgjacDoorProg
import Derived.Test.YtbgjcjhodlmgjacDoorHB
import Derived.KernelRfl
/- The table of types and the functions of this seat's program, for the walk kit: printed by types.py off the dump. -/
set_option linter.unusedVariables false
set_option maxRecDepth 100000
namespace Go.Hw
open Go
open Go.Proofs (Tryd.prog)
def fd (t o : Nat) (b : Bool := false) : Field := { name := if b then "_" else "", type := t, offset := o, embedded := false, tag := "", pkgPath := "", byteOffset := 0 }
def ty3 : Ty := ⟨3, .int .i64, 1, 8, .int .i64 0⟩
theorem ty3_ok : TyOk Tryd.prog ty3 := ⟨by kernel_rfl, by kernel_rfl⟩
def ty4 : Ty := ⟨4, .bool, 1, 1, .bool false⟩
theorem ty4_ok : TyOk Tryd.prog ty4 := ⟨by kernel_rfl, by kernel_rfl⟩
def ty5 : Ty := ⟨5, .int .u8, 1, 1, .int .u8 0⟩
theorem ty5_ok : TyOk Tryd.prog ty5 := ⟨by kernel_rfl, by kernel_rfl⟩
def ty9 : Ty := ⟨9, .string, 1, 16, .string ByteArray.empty⟩
theorem ty9_ok : TyOk Tryd.prog ty9 := ⟨by kernel_rfl, by kernel_rfl⟩
def ty22 : Ty := ⟨22, .slice 36, 1, 24, .slice none 0 0⟩
theorem ty22_ok : TyOk Tryd.prog ty22 := ⟨by kernel_rfl, by kernel_rfl⟩
def ty24 : Ty := ⟨24, .struct #[fd 3 0, fd 3 1, fd 3 2, fd 3 3, fd 3 4, fd 3 5, fd 22 6], 7, 72, .agg #[.int .i64 0, .int .i64 0, .int .i64 0, .int .i64 0, .int .i64 0, .int .i64 0, .slice none 0 0]⟩
theorem ty24_ok : TyOk Tryd.prog ty24 := ⟨by kernel_rfl, by kernel_rfl⟩
def ty25 : Ty := ⟨25, .slice 3, 1, 24, .slice none 0 0⟩
theorem ty25_ok : TyOk Tryd.prog ty25 := ⟨by kernel_rfl, by kernel_rfl⟩
def ty26 : Ty := ⟨26, .slice 40, 1, 24, .slice none 0 0⟩
theorem ty26_ok : TyOk Tryd.prog ty26 := ⟨by kernel_rfl, by kernel_rfl⟩
def ty28 : Ty := ⟨28, .struct #[fd 3 0, fd 25 1, fd 3 2, fd 26 3], 4, 64, .agg #[.int .i64 0, .slice none 0 0, .int .i64 0, .slice none 0 0]⟩
theorem ty28_ok : TyOk Tryd.prog ty28 := ⟨by kernel_rfl, by kernel_rfl⟩
def ty29 : Ty := ⟨29, .slice 43, 1, 24, .slice none 0 0⟩
theorem ty29_ok : TyOk Tryd.prog ty29 := ⟨by kernel_rfl, by kernel_rfl⟩
def ty30 : Ty := ⟨30, .func #[] #[4] false, 1, 8, .nilFunc⟩
theorem ty30_ok : TyOk Tryd.prog ty30 := ⟨by kernel_rfl, by kernel_rfl⟩
def ty33 : Ty := ⟨33, .int .i64, 1, 8, .int .i64 0⟩
theorem ty33_ok : TyOk Tryd.prog ty33 := ⟨by kernel_rfl, by kernel_rfl⟩
def ty36 : Ty := ⟨36, .struct #[fd 3 0, fd 3 1], 2, 16, .agg #[.int .i64 0, .int .i64 0]⟩
theorem ty36_ok : TyOk Tryd.prog ty36 := ⟨by kernel_rfl, by kernel_rfl⟩
def ty40 : Ty := ⟨40, .struct #[fd 3 0, fd 3 1, fd 3 2, fd 3 3, fd 3 4, fd 3 5, fd 3 6], 7, 56, .agg #[.int .i64 0, .int .i64 0, .int .i64 0, .int .i64 0, .int .i64 0, .int .i64 0, .int .i64 0]⟩
theorem ty40_ok : TyOk Tryd.prog ty40 := ⟨by kernel_rfl, by kernel_rfl⟩
def ty43 : Ty := ⟨43, .struct #[fd 3 0, fd 3 1, fd 4 2, fd 3 3], 4, 32, .agg #[.int .i64 0, .int .i64 0, .bool false, .int .i64 0]⟩
theorem ty43_ok : TyOk Tryd.prog ty43 := ⟨by kernel_rfl, by kernel_rfl⟩
def ty59 : Ty := ⟨59, .map 3 43, 1, 8, .map none⟩
theorem ty59_ok : TyOk Tryd.prog ty59 := ⟨by kernel_rfl, by kernel_rfl⟩
def ty66 : Ty := ⟨66, .struct #[fd 33 0, fd 30 1], 2, 16, .agg #[.int .i64 0, .nilFunc]⟩
theorem ty66_ok : TyOk Tryd.prog ty66 := ⟨by kernel_rfl, by kernel_rfl⟩
def ty71 : Ty := ⟨71, .pointer 77, 1, 8, .pointer none⟩
theorem ty71_ok : TyOk Tryd.prog ty71 := ⟨by kernel_rfl, by kernel_rfl⟩
def ty75 : Ty := ⟨75, .map 3 79, 1, 8, .map none⟩
theorem ty75_ok : TyOk Tryd.prog ty75 := ⟨by kernel_rfl, by kernel_rfl⟩
def ty77 : Ty := ⟨77, .struct #[fd 28 0, fd 75 4], 5, 72, .agg #[.int .i64 0, .slice none 0 0, .int .i64 0, .slice none 0 0, .map none]⟩
theorem ty77_ok : TyOk Tryd.prog ty77 := ⟨by kernel_rfl, by kernel_rfl⟩
def ty79 : Ty := ⟨79, .struct #[fd 3 0, fd 3 1, fd 3 2, fd 3 3, fd 4 4], 5, 40, .agg #[.int .i64 0, .int .i64 0, .int .i64 0, .int .i64 0, .bool false]⟩
theorem ty79_ok : TyOk Tryd.prog ty79 := ⟨by kernel_rfl, by kernel_rfl⟩
def ty83 : Ty := ⟨83, .struct #[fd 3 0, fd 3 1, fd 3 2], 3, 24, .agg #[.int .i64 0, .int .i64 0, .int .i64 0]⟩
theorem ty83_ok : TyOk Tryd.prog ty83 := ⟨by kernel_rfl, by kernel_rfl⟩
def ty87 : Ty := ⟨87, .func #[3] #[4] false, 1, 8, .nilFunc⟩
theorem ty87_ok : TyOk Tryd.prog ty87 := ⟨by kernel_rfl, by kernel_rfl⟩
def ty93 : Ty := ⟨93, .int .u64, 1, 8, .int .u64 0⟩
theorem ty93_ok : TyOk Tryd.prog ty93 := ⟨by kernel_rfl, by kernel_rfl⟩
def ty94 : Ty := ⟨94, .slice 66, 1, 24, .slice none 0 0⟩
theorem ty94_ok : TyOk Tryd.prog ty94 := ⟨by kernel_rfl, by kernel_rfl⟩
def ty96 : Ty := ⟨96, .func #[36] #[4] false, 1, 8, .nilFunc⟩
theorem ty96_ok : TyOk Tryd.prog ty96 := ⟨by kernel_rfl, by kernel_rfl⟩
def ty100 : Ty := ⟨100, .map 3 4, 1, 8, .map none⟩
theorem ty100_ok : TyOk Tryd.prog ty100 := ⟨by kernel_rfl, by kernel_rfl⟩
def ty103 : Ty := ⟨103, .func #[40] #[79, 33] false, 1, 8, .nilFunc⟩
theorem ty103_ok : TyOk Tryd.prog ty103 := ⟨by kernel_rfl, by kernel_rfl⟩
def ty105 : Ty := ⟨105, .struct #[fd 3 0, fd 3 1, fd 3 2, fd 3 3, fd 4 4], 5, 40, .agg #[.int .i64 0, .int .i64 0, .int .i64 0, .int .i64 0, .bool false]⟩
theorem ty105_ok : TyOk Tryd.prog ty105 := ⟨by kernel_rfl, by kernel_rfl⟩
def ty111 : Ty := ⟨111, .int .i64, 1, 8, .int .i64 0⟩
theorem ty111_ok : TyOk Tryd.prog ty111 := ⟨by kernel_rfl, by kernel_rfl⟩
def ty119 : Ty := ⟨119, .int .u32, 1, 4, .int .u32 0⟩
theorem ty119_ok : TyOk Tryd.prog ty119 := ⟨by kernel_rfl, by kernel_rfl⟩
def ty121 : Ty := ⟨121, .int .u64, 1, 8, .int .u64 0⟩
theorem ty121_ok : TyOk Tryd.prog ty121 := ⟨by kernel_rfl, by kernel_rfl⟩
def ty124 : Ty := ⟨124, .map 3 103, 1, 8, .map none⟩
theorem ty124_ok : TyOk Tryd.prog ty124 := ⟨by kernel_rfl, by kernel_rfl⟩
def ty126 : Ty := ⟨126, .array 12 3, 12, 96, .agg #[.int .i64 0, .int .i64 0, .int .i64 0, .int .i64 0, .int .i64 0, .int .i64 0, .int .i64 0, .int .i64 0, .int .i64 0, .int .i64 0, .int .i64 0, .int .i64 0]⟩
theorem ty126_ok : TyOk Tryd.prog ty126 := ⟨by kernel_rfl, by kernel_rfl⟩
def ty127 : Ty := ⟨127, .int .u64, 1, 8, .int .u64 0⟩
theorem ty127_ok : TyOk Tryd.prog ty127 := ⟨by kernel_rfl, by kernel_rfl⟩
def ty131 : Ty := ⟨131, .pointer 3, 1, 8, .pointer none⟩
theorem ty131_ok : TyOk Tryd.prog ty131 := ⟨by kernel_rfl, by kernel_rfl⟩
def ty140 : Ty := ⟨140, .slice 33, 1, 24, .slice none 0 0⟩
theorem ty140_ok : TyOk Tryd.prog ty140 := ⟨by kernel_rfl, by kernel_rfl⟩
def ts : List Ty := [ty3, ty4, ty5, ty9, ty22, ty24, ty25, ty26, ty28, ty29, ty30, ty33, ty36, ty40, ty43, ty59, ty66, ty71, ty75, ty77, ty79, ty83, ty87, ty93, ty94, ty96, ty100, ty103, ty105, ty111, ty119, ty121, ty124, ty126, ty127, ty131, ty140]
theorem ts_ok : TsOk Tryd.prog ts := by
  intro t ht
  simp only [ts, List.mem_cons, List.not_mem_nil, or_false] at ht
  rcases ht with rfl | rfl | rfl | rfl | rfl | rfl | rfl | rfl | rfl | rfl | rfl | rfl | rfl | rfl | rfl | rfl | rfl | rfl | rfl | rfl | rfl | rfl | rfl | rfl | rfl | rfl | rfl | rfl | rfl | rfl | rfl | rfl | rfl | rfl | rfl | rfl | rfl
  · exact ty3_ok
  · exact ty4_ok
  · exact ty5_ok
  · exact ty9_ok
  · exact ty22_ok
  · exact ty24_ok
  · exact ty25_ok
  · exact ty26_ok
  · exact ty28_ok
  · exact ty29_ok
  · exact ty30_ok
  · exact ty33_ok
  · exact ty36_ok
  · exact ty40_ok
  · exact ty43_ok
  · exact ty59_ok
  · exact ty66_ok
  · exact ty71_ok
  · exact ty75_ok
  · exact ty77_ok
  · exact ty79_ok
  · exact ty83_ok
  · exact ty87_ok
  · exact ty93_ok
  · exact ty94_ok
  · exact ty96_ok
  · exact ty100_ok
  · exact ty103_ok
  · exact ty105_ok
  · exact ty111_ok
  · exact ty119_ok
  · exact ty121_ok
  · exact ty124_ok
  · exact ty126_ok
  · exact ty127_ok
  · exact ty131_ok
  · exact ty140_ok
theorem has3 : Has Tryd.prog 3 := ⟨_, Go.Proofs.Tryd.func3, by kernel_rfl, by kernel_rfl⟩
theorem has4 : Has Tryd.prog 4 := ⟨_, Go.Proofs.Tryd.func4, by kernel_rfl, by kernel_rfl⟩
theorem has5 : Has Tryd.prog 5 := ⟨_, Go.Proofs.Tryd.func5, by kernel_rfl, by kernel_rfl⟩
theorem has6 : Has Tryd.prog 6 := ⟨_, Go.Proofs.Tryd.func6, by kernel_rfl, by kernel_rfl⟩
theorem has7 : Has Tryd.prog 7 := ⟨_, Go.Proofs.Tryd.func7, by kernel_rfl, by kernel_rfl⟩
theorem has8 : Has Tryd.prog 8 := ⟨_, Go.Proofs.Tryd.func8, by kernel_rfl, by kernel_rfl⟩
theorem has9 : Has Tryd.prog 9 := ⟨_, Go.Proofs.Tryd.func9, by kernel_rfl, by kernel_rfl⟩
theorem has10 : Has Tryd.prog 10 := ⟨_, Go.Proofs.Tryd.func10, by kernel_rfl, by kernel_rfl⟩
theorem has11 : Has Tryd.prog 11 := ⟨_, Go.Proofs.Tryd.func11, by kernel_rfl, by kernel_rfl⟩
theorem has12 : Has Tryd.prog 12 := ⟨_, Go.Proofs.Tryd.func12, by kernel_rfl, by kernel_rfl⟩
theorem has13 : Has Tryd.prog 13 := ⟨_, Go.Proofs.Tryd.func13, by kernel_rfl, by kernel_rfl⟩
theorem has14 : Has Tryd.prog 14 := ⟨_, Go.Proofs.Tryd.func14, by kernel_rfl, by kernel_rfl⟩
theorem has15 : Has Tryd.prog 15 := ⟨_, Go.Proofs.Tryd.func15, by kernel_rfl, by kernel_rfl⟩
theorem has16 : Has Tryd.prog 16 := ⟨_, Go.Proofs.Tryd.func16, by kernel_rfl, by kernel_rfl⟩
theorem has17 : Has Tryd.prog 17 := ⟨_, Go.Proofs.Tryd.func17, by kernel_rfl, by kernel_rfl⟩
theorem has18 : Has Tryd.prog 18 := ⟨_, Go.Proofs.Tryd.func18, by kernel_rfl, by kernel_rfl⟩
theorem has19 : Has Tryd.prog 19 := ⟨_, Go.Proofs.Tryd.func19, by kernel_rfl, by kernel_rfl⟩
theorem has20 : Has Tryd.prog 20 := ⟨_, Go.Proofs.Tryd.func20, by kernel_rfl, by kernel_rfl⟩
theorem has21 : Has Tryd.prog 21 := ⟨_, Go.Proofs.Tryd.func21, by kernel_rfl, by kernel_rfl⟩
theorem has22 : Has Tryd.prog 22 := ⟨_, Go.Proofs.Tryd.func22, by kernel_rfl, by kernel_rfl⟩
theorem has23 : Has Tryd.prog 23 := ⟨_, Go.Proofs.Tryd.func23, by kernel_rfl, by kernel_rfl⟩
theorem has24 : Has Tryd.prog 24 := ⟨_, Go.Proofs.Tryd.func24, by kernel_rfl, by kernel_rfl⟩
theorem has25 : Has Tryd.prog 25 := ⟨_, Go.Proofs.Tryd.func25, by kernel_rfl, by kernel_rfl⟩
theorem has26 : Has Tryd.prog 26 := ⟨_, Go.Proofs.Tryd.func26, by kernel_rfl, by kernel_rfl⟩
theorem has27 : Has Tryd.prog 27 := ⟨_, Go.Proofs.Tryd.func27, by kernel_rfl, by kernel_rfl⟩
theorem has28 : Has Tryd.prog 28 := ⟨_, Go.Proofs.Tryd.func28, by kernel_rfl, by kernel_rfl⟩
theorem has29 : Has Tryd.prog 29 := ⟨_, Go.Proofs.Tryd.func29, by kernel_rfl, by kernel_rfl⟩
theorem has30 : Has Tryd.prog 30 := ⟨_, Go.Proofs.Tryd.func30, by kernel_rfl, by kernel_rfl⟩
theorem has31 : Has Tryd.prog 31 := ⟨_, Go.Proofs.Tryd.func31, by kernel_rfl, by kernel_rfl⟩
theorem has32 : Has Tryd.prog 32 := ⟨_, Go.Proofs.Tryd.func32, by kernel_rfl, by kernel_rfl⟩
theorem has33 : Has Tryd.prog 33 := ⟨_, Go.Proofs.Tryd.func33, by kernel_rfl, by kernel_rfl⟩
theorem has34 : Has Tryd.prog 34 := ⟨_, Go.Proofs.Tryd.func34, by kernel_rfl, by kernel_rfl⟩
theorem has35 : Has Tryd.prog 35 := ⟨_, Go.Proofs.Tryd.func35, by kernel_rfl, by kernel_rfl⟩
theorem has36 : Has Tryd.prog 36 := ⟨_, Go.Proofs.Tryd.func36, by kernel_rfl, by kernel_rfl⟩
theorem has37 : Has Tryd.prog 37 := ⟨_, Go.Proofs.Tryd.func37, by kernel_rfl, by kernel_rfl⟩
theorem has38 : Has Tryd.prog 38 := ⟨_, Go.Proofs.Tryd.func38, by kernel_rfl, by kernel_rfl⟩
theorem has39 : Has Tryd.prog 39 := ⟨_, Go.Proofs.Tryd.func39, by kernel_rfl, by kernel_rfl⟩
theorem has40 : Has Tryd.prog 40 := ⟨_, Go.Proofs.Tryd.func40, by kernel_rfl, by kernel_rfl⟩
theorem has41 : Has Tryd.prog 41 := ⟨_, Go.Proofs.Tryd.func41, by kernel_rfl, by kernel_rfl⟩
theorem has42 : Has Tryd.prog 42 := ⟨_, Go.Proofs.Tryd.func42, by kernel_rfl, by kernel_rfl⟩
theorem has43 : Has Tryd.prog 43 := ⟨_, Go.Proofs.Tryd.func43, by kernel_rfl, by kernel_rfl⟩
theorem has44 : Has Tryd.prog 44 := ⟨_, Go.Proofs.Tryd.func44, by kernel_rfl, by kernel_rfl⟩
theorem has45 : Has Tryd.prog 45 := ⟨_, Go.Proofs.Tryd.func45, by kernel_rfl, by kernel_rfl⟩
theorem has46 : Has Tryd.prog 46 := ⟨_, Go.Proofs.Tryd.func46, by kernel_rfl, by kernel_rfl⟩
theorem has47 : Has Tryd.prog 47 := ⟨_, Go.Proofs.Tryd.func47, by kernel_rfl, by kernel_rfl⟩
theorem has48 : Has Tryd.prog 48 := ⟨_, Go.Proofs.Tryd.func48, by kernel_rfl, by kernel_rfl⟩
theorem has49 : Has Tryd.prog 49 := ⟨_, Go.Proofs.Tryd.func49, by kernel_rfl, by kernel_rfl⟩
theorem has50 : Has Tryd.prog 50 := ⟨_, Go.Proofs.Tryd.func50, by kernel_rfl, by kernel_rfl⟩
theorem has51 : Has Tryd.prog 51 := ⟨_, Go.Proofs.Tryd.func51, by kernel_rfl, by kernel_rfl⟩
theorem has52 : Has Tryd.prog 52 := ⟨_, Go.Proofs.Tryd.func52, by kernel_rfl, by kernel_rfl⟩
theorem has53 : Has Tryd.prog 53 := ⟨_, Go.Proofs.Tryd.func53, by kernel_rfl, by kernel_rfl⟩
theorem has54 : Has Tryd.prog 54 := ⟨_, Go.Proofs.Tryd.func54, by kernel_rfl, by kernel_rfl⟩
theorem has55 : Has Tryd.prog 55 := ⟨_, Go.Proofs.Tryd.func55, by kernel_rfl, by kernel_rfl⟩
theorem has56 : Has Tryd.prog 56 := ⟨_, Go.Proofs.Tryd.func56, by kernel_rfl, by kernel_rfl⟩
theorem has57 : Has Tryd.prog 57 := ⟨_, Go.Proofs.Tryd.func57, by kernel_rfl, by kernel_rfl⟩
theorem has58 : Has Tryd.prog 58 := ⟨_, Go.Proofs.Tryd.func58, by kernel_rfl, by kernel_rfl⟩
theorem has59 : Has Tryd.prog 59 := ⟨_, Go.Proofs.Tryd.func59, by kernel_rfl, by kernel_rfl⟩
theorem has60 : Has Tryd.prog 60 := ⟨_, Go.Proofs.Tryd.func60, by kernel_rfl, by kernel_rfl⟩
theorem has61 : Has Tryd.prog 61 := ⟨_, Go.Proofs.Tryd.func61, by kernel_rfl, by kernel_rfl⟩
theorem has62 : Has Tryd.prog 62 := ⟨_, Go.Proofs.Tryd.func62, by kernel_rfl, by kernel_rfl⟩
theorem has63 : Has Tryd.prog 63 := ⟨_, Go.Proofs.Tryd.func63, by kernel_rfl, by kernel_rfl⟩
theorem has64 : Has Tryd.prog 64 := ⟨_, Go.Proofs.Tryd.func64, by kernel_rfl, by kernel_rfl⟩
theorem has65 : Has Tryd.prog 65 := ⟨_, Go.Proofs.Tryd.func65, by kernel_rfl, by kernel_rfl⟩
theorem has66 : Has Tryd.prog 66 := ⟨_, Go.Proofs.Tryd.func66, by kernel_rfl, by kernel_rfl⟩
theorem has67 : Has Tryd.prog 67 := ⟨_, Go.Proofs.Tryd.func67, by kernel_rfl, by kernel_rfl⟩
theorem has68 : Has Tryd.prog 68 := ⟨_, Go.Proofs.Tryd.func68, by kernel_rfl, by kernel_rfl⟩
theorem has69 : Has Tryd.prog 69 := ⟨_, Go.Proofs.Tryd.func69, by kernel_rfl, by kernel_rfl⟩
theorem has70 : Has Tryd.prog 70 := ⟨_, Go.Proofs.Tryd.func70, by kernel_rfl, by kernel_rfl⟩
theorem has71 : Has Tryd.prog 71 := ⟨_, Go.Proofs.Tryd.func71, by kernel_rfl, by kernel_rfl⟩
theorem has72 : Has Tryd.prog 72 := ⟨_, Go.Proofs.Tryd.func72, by kernel_rfl, by kernel_rfl⟩
theorem has73 : Has Tryd.prog 73 := ⟨_, Go.Proofs.Tryd.func73, by kernel_rfl, by kernel_rfl⟩
theorem has74 : Has Tryd.prog 74 := ⟨_, Go.Proofs.Tryd.func74, by kernel_rfl, by kernel_rfl⟩
theorem has75 : Has Tryd.prog 75 := ⟨_, Go.Proofs.Tryd.func75, by kernel_rfl, by kernel_rfl⟩
theorem has76 : Has Tryd.prog 76 := ⟨_, Go.Proofs.Tryd.func76, by kernel_rfl, by kernel_rfl⟩
theorem has77 : Has Tryd.prog 77 := ⟨_, Go.Proofs.Tryd.func77, by kernel_rfl, by kernel_rfl⟩
theorem has78 : Has Tryd.prog 78 := ⟨_, Go.Proofs.Tryd.func78, by kernel_rfl, by kernel_rfl⟩
theorem has79 : Has Tryd.prog 79 := ⟨_, Go.Proofs.Tryd.func79, by kernel_rfl, by kernel_rfl⟩
theorem has80 : Has Tryd.prog 80 := ⟨_, Go.Proofs.Tryd.func80, by kernel_rfl, by kernel_rfl⟩
theorem has81 : Has Tryd.prog 81 := ⟨_, Go.Proofs.Tryd.func81, by kernel_rfl, by kernel_rfl⟩
theorem has82 : Has Tryd.prog 82 := ⟨_, Go.Proofs.Tryd.func82, by kernel_rfl, by kernel_rfl⟩
theorem has83 : Has Tryd.prog 83 := ⟨_, Go.Proofs.Tryd.func83, by kernel_rfl, by kernel_rfl⟩
theorem has84 : Has Tryd.prog 84 := ⟨_, Go.Proofs.Tryd.func84, by kernel_rfl, by kernel_rfl⟩
theorem has85 : Has Tryd.prog 85 := ⟨_, Go.Proofs.Tryd.func85, by kernel_rfl, by kernel_rfl⟩
theorem has86 : Has Tryd.prog 86 := ⟨_, Go.Proofs.Tryd.func86, by kernel_rfl, by kernel_rfl⟩
theorem has87 : Has Tryd.prog 87 := ⟨_, Go.Proofs.Tryd.func87, by kernel_rfl, by kernel_rfl⟩
theorem has88 : Has Tryd.prog 88 := ⟨_, Go.Proofs.Tryd.func88, by kernel_rfl, by kernel_rfl⟩
theorem has89 : Has Tryd.prog 89 := ⟨_, Go.Proofs.Tryd.func89, by kernel_rfl, by kernel_rfl⟩
theorem has90 : Has Tryd.prog 90 := ⟨_, Go.Proofs.Tryd.func90, by kernel_rfl, by kernel_rfl⟩
theorem has91 : Has Tryd.prog 91 := ⟨_, Go.Proofs.Tryd.func91, by kernel_rfl, by kernel_rfl⟩
theorem has92 : Has Tryd.prog 92 := ⟨_, Go.Proofs.Tryd.func92, by kernel_rfl, by kernel_rfl⟩
theorem has93 : Has Tryd.prog 93 := ⟨_, Go.Proofs.Tryd.func93, by kernel_rfl, by kernel_rfl⟩
theorem has94 : Has Tryd.prog 94 := ⟨_, Go.Proofs.Tryd.func94, by kernel_rfl, by kernel_rfl⟩
theorem has95 : Has Tryd.prog 95 := ⟨_, Go.Proofs.Tryd.func95, by kernel_rfl, by kernel_rfl⟩
theorem has96 : Has Tryd.prog 96 := ⟨_, Go.Proofs.Tryd.func96, by kernel_rfl, by kernel_rfl⟩
theorem has97 : Has Tryd.prog 97 := ⟨_, Go.Proofs.Tryd.func97, by kernel_rfl, by kernel_rfl⟩
theorem has117 : Has Tryd.prog 117 := ⟨_, Go.Proofs.Tryd.func117, by kernel_rfl, by kernel_rfl⟩
end Go.Hw
