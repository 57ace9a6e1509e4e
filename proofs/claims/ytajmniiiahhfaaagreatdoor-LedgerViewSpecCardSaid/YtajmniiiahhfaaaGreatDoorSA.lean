import Derived.Test.YtajmniiiahhfaaaGreatDoorGC
set_option linter.unusedVariables false
set_option linter.unusedSimpArgs false
set_option maxRecDepth 100000
set_option maxHeartbeats 4000000
namespace Go.Hw
open Go
attribute [local irreducible] GO GOl GDp Val Fn Res CellsAt ValE Blk OwnS MapA OwnPf Has Yl
open Go.Proofs (Tryz.prog)
structure FactsAt (h : Ro) (A : Option Addr) (n : Nat) (l : List (Fsh × Fct)) : Prop where
  row : SlOf encF82 82 h A n l
  fat : ∀ p ∈ l,FAt h p.1 p.2 ∧ FSm p.2
  small : n ≤ 1000000
theorem FactsAt.le {h h' : Ro} {A : Option Addr} {n : Nat} {l : List (Fsh × Fct)} (a : FactsAt h A n l) (hl : Le h h') : FactsAt h' A n l:=⟨a.row.le hl,fun p hp => ⟨(a.fat p hp).1.le hl,(a.fat p hp).2⟩,a.small⟩
def FR (p : Fsh × Fct) (u : List Value) (h : Ro) : Prop:=u = [factV p.1 p.2]
def p0 : Fsh × Fct:=(fsh0,fct0)
end Go.Hw
