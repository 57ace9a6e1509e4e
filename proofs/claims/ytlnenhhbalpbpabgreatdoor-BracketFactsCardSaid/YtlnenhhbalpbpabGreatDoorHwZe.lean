import Derived.Test.YtlnenhhbalpbpabGreatDoorHC
import Derived.Test.YtlnenhhbalpbpabGreatDoorHB
set_option linter.all false
namespace Go.Hw
open Go
section
variable {C:Ctx} {l:Sl} {h:Ro} {ty:TypeId} {pos:String} {aft:Array Edge} {gd:Option (Nat×Bool)} {dst:Option Tmp}
end
section
variable {C:Ctx} {ds:List Deferred} {l:Sl} {Es:List Asn} {h:Ro} {ops:Array Oper} {os:List Oper} {K:List Item}
theorem u64_in {p:Int}(hb:0≤p∧p≤18446744073709551615):IntKind.u64.wrap p=p:=by simp [IntKind.wrap,IntKind.bits,IntKind.signed];omega
end
end Go.Hw
