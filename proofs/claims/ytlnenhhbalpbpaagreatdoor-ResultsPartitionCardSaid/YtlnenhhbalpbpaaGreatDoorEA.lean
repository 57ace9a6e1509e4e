import Derived.Test.YtlnenhhbalpbpaaGreatDoorSA
import Derived.Test.YtlnenhhbalpbpaaGreatDoorFB
import Derived.Test.YtlnenhhbalpbpaaGreatDoorHD
import Derived.Test.YtlnenhhbalpbpaaGreatDoorHB
set_option linter.unusedVariables false
set_option linter.unusedSimpArgs false
set_option maxRecDepth 100000
set_option maxHeartbeats 4000000
namespace Go.Hw
open Go
attribute [local irreducible] GO GOl GDp Val Fn Res CellsAt ValE Blk OwnS MapA OwnPf Has Yl
open Go.Proofs (Tryz.prog)
def FGd (h : Ro) (p : Fsh × Fct) : Prop:=FAt h p.1 p.2 ∧ FSm p.2 ∧ FctOk p.2
theorem FGd.le {h h' : Ro} {p : Fsh × Fct} (g : FGd h p) (hl : Le h h') : FGd h' p:=⟨g.1.le hl,g.2⟩
theorem FGd.in_ {h : Ro} {p : Fsh × Fct} (g : FGd h p) : FctIn p.2:=⟨g.2.2,g.1.void⟩
structure LedAt (h : Ro) (A : Option Addr) (n : Nat) (l : List (Fsh × Fct)) : Prop where
  row : SlOf encF82 82 h A n l
  good : ∀ p ∈ l,FGd h p
  small : n ≤ 1000000
theorem LedAt.le {h h' : Ro} {A : Option Addr} {n : Nat} {l : List (Fsh × Fct)} (a : LedAt h A n l) (hl : Le h h') : LedAt h' A n l:=⟨a.row.le hl,fun p hp => (a.good p hp).le hl,a.small⟩
theorem LedAt.nil (h : Ro) : LedAt h none 0 []:=⟨SlOf.nil,fun p hp => absurd hp (by simp),by omega⟩
theorem cmp_c (h : Ro) (hG : PowG h) (x y : Fsh × Fct) (hx : FGd h x) (hy : FGd h y) : Res Tryz.prog 41 #[factV x.1 x.2,factV y.1 y.2] h (fun u _ => u = .int .i64 (cmpF x.2 y.2)) :=
  compare7_c h hG x.1 y.1 x.2 y.2 hx.1 hx.2.1 hy.1 hy.2.1 hx.2.2 hy.2.2
end Go.Hw
set_option linter.unusedVariables false
set_option linter.unusedSimpArgs false
set_option maxRecDepth 100000
set_option maxHeartbeats 8000000
namespace Go.Hw
open Go
attribute [local irreducible] GO GOl GDp Val Fn Res CellsAt ValE Blk OwnS MapA OwnPf Has Yl
open Go.Proofs (Tryz.prog)
end Go.Hw
set_option linter.unusedVariables false
set_option linter.unusedSimpArgs false
set_option maxRecDepth 100000
set_option maxHeartbeats 8000000
namespace Go.Hw
open Go
attribute [local irreducible] GO GOl GDp Val Fn Res CellsAt ValE Blk OwnS MapA OwnPf Has Yl
open Go.Proofs (Tryz.prog)
theorem encF82_one : ∀ x : Fsh × Fct,∀ v ∈ encF82 x,v.oneCell' = true:=fun x => allOne_ok rfl
end Go.Hw
