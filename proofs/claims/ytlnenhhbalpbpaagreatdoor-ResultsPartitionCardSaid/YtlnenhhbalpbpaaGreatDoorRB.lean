import Derived.Test.YtlnenhhbalpbpaaGreatDoorGB
import Derived.Test.YtlnenhhbalpbpaaGreatDoorRA
import Derived.Test.YtlnenhhbalpbpaaGreatDoorGC
import Derived.Test.YtlnenhhbalpbpaaGreatDoorHwXd
import Derived.Test.YtlnenhhbalpbpaaGreatDoorHwZe
import Derived.Test.YtlnenhhbalpbpaaGreatDoorHwZf
import Derived.Test.YtlnenhhbalpbpaaGreatDoorEC
set_option linter.unusedVariables false
set_option linter.unusedSimpArgs false
set_option maxRecDepth 100000
set_option maxHeartbeats 4000000
namespace Go.Hw
open Go
attribute [local irreducible] GO GOl GDp Val Fn Res CellsAt ValE Blk OwnS MapA OwnPf Has
open Go.Proofs (Tryz.prog)
end Go.Hw
set_option linter.unusedVariables false
set_option linter.unusedSimpArgs false
set_option maxRecDepth 100000
set_option maxHeartbeats 4000000
namespace Go.Hw
open Go
attribute [local irreducible] GO GOl GDp Val Fn Res CellsAt ValE Blk OwnS MapA OwnPf Has
open Go.Proofs (Tryz.prog)
end Go.Hw
set_option linter.unusedVariables false
set_option linter.unusedSimpArgs false
set_option maxRecDepth 100000
set_option maxHeartbeats 4000000
namespace Go.Hw
open Go
attribute [local irreducible] GO GOl GDp Val Fn Res CellsAt ValE Blk OwnS MapA OwnPf Has
open Go.Proofs (Tryz.prog)
section
variable {C : Ctx} {ds : List Deferred} {l : Sl} {Es : List Asn} {h : Ro} {K : List Item}
end
end Go.Hw
set_option linter.unusedVariables false
set_option linter.unusedSimpArgs false
set_option maxRecDepth 100000
set_option maxHeartbeats 4000000
namespace Go.Hw
open Go
attribute [local irreducible] GO GOl GDp Val Fn Res CellsAt ValE Blk OwnS MapA OwnPf Has
open Go.Proofs (Tryz.prog)
end Go.Hw
set_option linter.unusedVariables false
set_option linter.unusedSimpArgs false
set_option maxRecDepth 100000
set_option maxHeartbeats 4000000
namespace Go.Hw
open Go
attribute [local irreducible] GO GOl GDp Val Fn Res CellsAt ValE Blk OwnS MapA OwnPf Has
open Go.Proofs (Tryz.prog)
theorem VEnc.pos {d : Nat} {h : Ro} {v : Va} {bs : List UInt8} (e : VEnc d h v bs) : 0 < bs.length:=by
  cases d with
  | zero => exact e.elim
  | succ d =>
    rcases e with ⟨m,rfl,hm,rfl⟩|⟨s,rfl,rfl⟩|⟨L,vs,bss,rfl,e2,e3,e4,rfl⟩|⟨L,K,vs,bss,ks,rfl,e2,e3,e4,e5,e6,e7,rfl⟩
    · unfold bInt;simp
    · unfold bText;simp only [List.length_append,List.length_cons];omega
    · unfold bSeq;simp
    · unfold bDict;simp
end Go.Hw
set_option linter.unusedVariables false
set_option linter.unusedSimpArgs false
set_option maxRecDepth 100000
set_option maxHeartbeats 8000000
namespace Go.Hw
open Go
attribute [local irreducible] GO GOl GDp Val Fn Res CellsAt ValE Blk OwnS MapA OwnPf Has
open Go.Proofs (Tryz.prog)
end Go.Hw
set_option linter.unusedVariables false
set_option linter.unusedSimpArgs false
set_option maxRecDepth 100000
set_option maxHeartbeats 8000000
namespace Go.Hw
open Go
attribute [local irreducible] GO GOl GDp Val Fn Res CellsAt ValE Blk OwnS MapA OwnPf Has Yl idF
open Go.Proofs (Tryz.prog)
end Go.Hw
set_option linter.unusedVariables false
set_option linter.unusedSimpArgs false
set_option maxRecDepth 100000
set_option maxHeartbeats 8000000
namespace Go.Hw
open Go
attribute [local irreducible] GO GOl GDp Val Fn Res CellsAt ValE Blk OwnS MapA OwnPf Has Yl idF
open Go.Proofs (Tryz.prog)
end Go.Hw
