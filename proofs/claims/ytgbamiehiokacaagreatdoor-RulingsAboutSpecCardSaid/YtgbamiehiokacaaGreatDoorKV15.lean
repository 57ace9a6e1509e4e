import Derived.Test.YtgbamiehiokacaaGreatDoorKV14
set_option linter.unusedVariables false
set_option linter.unusedSimpArgs false
set_option maxRecDepth 100000
set_option maxHeartbeats 8000000
namespace Go.Hw
open Go
attribute [local irreducible] GO GOl GDp Val Fn Res CellsAt ValE Blk OwnS MapA OwnPf Has Yl SepA forceL idF voidL
open Go.Proofs (Tryz.prog)
theorem LedIn.facts16 {h : Ro} {A : Option Addr} {n c : Nat} {l : List (Fsh × Fct)} (a : LedIn h A n c l) (hn : (n : Int) ≤ 16) : FactsAt h A n l:=⟨a.row,a.fat,by omega⟩
end Go.Hw
