import Derived.Test.YtekcphgpmihmlabGreatDoorGB
/-
  The reference's facts: the small functions, walked.
-/
set_option linter.unusedVariables false
set_option linter.unusedSimpArgs false
set_option maxRecDepth 100000
set_option maxHeartbeats 4000000
namespace Go.Hw
open Go
attribute [local irreducible] GO GOl GDp Val Fn Res CellsAt ValE Blk OwnS MapA OwnPf Has
open Go.Proofs (Tryz.prog)

















theorem FAt.smallN {h : Ro} {s : Fsh} {x : Fct} (a : FAt h s x) (b : FSm x) : s.cl.n ≤ 1000000000 ∧ s.lo.n ≤ 1000000000 ∧ x.eRules.length ≤ 1000000000 := by
  obtain ⟨_, _, _, _, h5, h6⟩ := a.small b
  have := b.2.2.2
  omega

end Go.Hw
/-
  The reference's facts: ruling, content, only, Same, Check, walked.
-/
set_option linter.unusedVariables false
set_option linter.unusedSimpArgs false
set_option maxRecDepth 100000
set_option maxHeartbeats 4000000
namespace Go.Hw
open Go
attribute [local irreducible] GO GOl GDp Val Fn Res CellsAt ValE Blk OwnS MapA OwnPf Has
open Go.Proofs (Tryz.prog)

end Go.Hw
