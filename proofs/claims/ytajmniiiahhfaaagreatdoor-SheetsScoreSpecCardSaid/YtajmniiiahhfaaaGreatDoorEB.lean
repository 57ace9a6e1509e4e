import Derived.Test.YtajmniiiahhfaaaGreatDoorEA
import Derived.Test.YtajmniiiahhfaaaGreatDoorHD
import Derived.Test.YtajmniiiahhfaaaGreatDoorUSh
/-
  ledger: a copy of a list of facts, its sort, what is left of it when repetitions go, walked.
-/
set_option linter.unusedVariables false
set_option linter.unusedSimpArgs false
set_option maxRecDepth 100000
set_option maxHeartbeats 8000000
namespace Go.Hw
open Go
attribute [local irreducible] GO GOl GDp Val Fn Res CellsAt ValE Blk OwnS MapA OwnPf Has Yl
open Go.Proofs (Tryz.prog)
end Go.Hw
/-
  ledger: Check, New, Add, Merge, walked.
-/
set_option linter.unusedVariables false
set_option linter.unusedSimpArgs false
set_option maxRecDepth 100000
set_option maxHeartbeats 8000000
namespace Go.Hw
open Go
attribute [local irreducible] GO GOl GDp Val Fn Res CellsAt ValE Blk OwnS MapA OwnPf Has Yl
open Go.Proofs (Tryz.prog)
def ledV (A : Option Addr) (n c : Nat) : Value := .agg #[.slice A n c]
abbrev fcs (l : List (Fsh × Fct)) : List Fct := l.map (·.2)
end Go.Hw
/-
  A ledger, as a law is handed it.
-/
set_option linter.unusedVariables false
namespace Go.Hw
open Go
structure LedIn (h : Ro) (A : Option Addr) (n c : Nat) (l : List (Fsh × Fct)) : Prop where
  row : SlOf encF82 82 h A n l
  fat : ∀ p ∈ l, FAt h p.1 p.2 ∧ FSm p.2
  cap : n ≤ c
  small : n ≤ 9223372036854775807
theorem LedIn.facts {h : Ro} {A : Option Addr} {n c : Nat} {l : List (Fsh × Fct)} (a : LedIn h A n c l) (hn : (n : Int) ≤ 14) : FactsAt h A n l := ⟨a.row, a.fat, by omega⟩
end Go.Hw
/-
  ledger: New, Add, Merge, walked.
-/
set_option linter.unusedVariables false
set_option linter.unusedSimpArgs false
set_option maxRecDepth 100000
set_option maxHeartbeats 8000000
namespace Go.Hw
open Go
attribute [local irreducible] GO GOl GDp Val Fn Res CellsAt ValE Blk OwnS MapA OwnPf Has Yl
open Go.Proofs (Tryz.prog)
/-- A ledger of valid facts, as it is handed back. -/
def LedOut (h : Ro) (v : Value) (L : List Fct) : Prop := ∃ A k c l, v = ledV A k c ∧ k ≤ c ∧ LedAt h A k l ∧ fcs l = L
theorem LedOut.le {h h' : Ro} {v : Value} {L : List Fct} (a : LedOut h v L) (hl : Le h h') : LedOut h' v L := by
  obtain ⟨A, k, c, l, e1, e2, e3, e4⟩ := a
  exact ⟨A, k, c, l, e1, e2, e3.le hl, e4⟩
theorem LedOut.nil (h : Ro) : LedOut h (ledV none 0 0) [] := ⟨none, 0, 0, [], rfl, Nat.le_refl _, LedAt.nil h, rfl⟩
end Go.Hw
