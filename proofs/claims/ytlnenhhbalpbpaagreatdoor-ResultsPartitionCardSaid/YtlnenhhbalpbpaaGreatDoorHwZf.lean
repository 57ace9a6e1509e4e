import Derived.Test.YtlnenhhbalpbpaaGreatDoorHC
import Derived.Test.YtlnenhhbalpbpaaGreatDoorHwZe
import Derived.Laws.Append
set_option linter.unusedVariables false
set_option linter.unusedSimpArgs false
namespace Go.Hw
open Go
section
variable {C : Ctx} {l : Sl} {Es : List Asn} {h : Ro} {G : Value → List Asn → Ro → Prop} {ty : TypeId} {pos : String} {aft : Array Edge} {gd : Option (Nat × Bool)} {dst : Option Tmp}
end
end Go.Hw
