import Derived.Test.YtajmniiiahhfaaaGreatDoorUE14b
set_option linter.unusedVariables false
set_option linter.unusedSimpArgs false
set_option maxRecDepth 100000
set_option maxHeartbeats 8000000
namespace Go.Hw
open Go
attribute [local irreducible] GO GOl GDp Val Fn Res CellsAt ValE Blk OwnS MapA OwnPf Has Yl idF
open Go.Proofs (Tryz.prog)
theorem In32_of {h : Ro} {l : List (Fsh × Fct)} (hf : ∀ p ∈ l,FAt h p.1 p.2 ∧ FSm p.2) : In32 (fcs l):=fun f hf2 => by
  obtain ⟨p,hp,rfl⟩:=List.mem_map.1 hf2
  exact (hf p hp).1.void
end Go.Hw
