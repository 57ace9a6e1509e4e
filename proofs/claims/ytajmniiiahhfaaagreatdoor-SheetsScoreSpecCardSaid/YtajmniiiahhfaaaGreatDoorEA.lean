import Derived.Test.YtajmniiiahhfaaaGreatDoorSA
import Derived.Test.YtajmniiiahhfaaaGreatDoorFB
import Derived.Test.YtajmniiiahhfaaaGreatDoorHD
import Derived.Test.YtajmniiiahhfaaaGreatDoorHB
/-
  ledger: check, limited, isDay, New$1, Clone, the search in a list of facts, walked.
-/
set_option linter.unusedVariables false
set_option linter.unusedSimpArgs false
set_option maxRecDepth 100000
set_option maxHeartbeats 4000000
namespace Go.Hw
open Go
attribute [local irreducible] GO GOl GDp Val Fn Res CellsAt ValE Blk OwnS MapA OwnPf Has Yl
open Go.Proofs (Tryz.prog)
def FGd (h : Ro) (p : Fsh × Fct) : Prop := FAt h p.1 p.2 ∧ FSm p.2 ∧ FctOk p.2
theorem FGd.le {h h' : Ro} {p : Fsh × Fct} (g : FGd h p) (hl : Le h h') : FGd h' p := ⟨g.1.le hl, g.2⟩
/-- A list of valid facts in memory. -/
structure LedAt (h : Ro) (A : Option Addr) (n : Nat) (l : List (Fsh × Fct)) : Prop where
  row : SlOf encF82 82 h A n l
  good : ∀ p ∈ l, FGd h p
  small : n ≤ 1000000
theorem LedAt.le {h h' : Ro} {A : Option Addr} {n : Nat} {l : List (Fsh × Fct)} (a : LedAt h A n l) (hl : Le h h') : LedAt h' A n l := ⟨a.row.le hl, fun p hp => (a.good p hp).le hl, a.small⟩
theorem FactsAt.led {h : Ro} {A : Option Addr} {n : Nat} {l : List (Fsh × Fct)} (a : FactsAt h A n l) (hk : ∀ p ∈ l, FctOk p.2) : LedAt h A n l := ⟨a.row, fun p hp => ⟨(a.fat p hp).1, (a.fat p hp).2, hk p hp⟩, a.small⟩
theorem LedAt.nil (h : Ro) : LedAt h none 0 [] := ⟨SlOf.nil, fun p hp => absurd hp (by simp), by omega⟩
end Go.Hw
/-
  ledger: the search in a list of facts, two lists brought together, walked.
-/
set_option linter.unusedVariables false
set_option linter.unusedSimpArgs false
set_option maxRecDepth 100000
set_option maxHeartbeats 8000000
namespace Go.Hw
open Go
attribute [local irreducible] GO GOl GDp Val Fn Res CellsAt ValE Blk OwnS MapA OwnPf Has Yl
open Go.Proofs (Tryz.prog)
end Go.Hw
/-
  ledger: two lists in order brought together, walked.
-/
set_option linter.unusedVariables false
set_option linter.unusedSimpArgs false
set_option maxRecDepth 100000
set_option maxHeartbeats 8000000
namespace Go.Hw
open Go
attribute [local irreducible] GO GOl GDp Val Fn Res CellsAt ValE Blk OwnS MapA OwnPf Has Yl
open Go.Proofs (Tryz.prog)
end Go.Hw
