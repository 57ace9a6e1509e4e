import Derived.Test.YtgbamiehiokacaaGreatDoorKR2s
set_option linter.unusedVariables false
set_option maxRecDepth 100000
namespace Go.Hw
open Go
attribute [local irreducible] GO GOl GDp Val Fn Res CellsAt ValE Blk OwnS MapA OwnPf Has Yl
open Go.Proofs (Tryz.prog)
theorem sameI_t (h : Ro) (A : Option Addr) (n c : Nat) (l : List Int) (hx : SlOf encI 1 h A n l) (hn : n ≤ 9223372036854775807) (B : Option Addr) (m d : Nat) (hy : SlOf encI 1 h B m l) (hm : m ≤ 9223372036854775807) :
 Val Tryz.prog 44 #[.slice A n c,.slice B m d] h (.bool true):=by
 have:=Nx h A n c l hx hn B m d l hy hm
 rwa [show (decide (l = l)) = true from decide_eq_true rfl] at this
end Go.Hw
