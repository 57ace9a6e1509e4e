import Derived.Test.YtlnenhhbalpbpabGreatDoorHB
set_option linter.all false
namespace Go.Hw
open Go
theorem K4a {C:Ctx}{ds:List Deferred}{l:Sl}{Es Es':List Asn}{h:Ro}{ops:Array Oper}{os:List Oper}{K:List Item}{b:Nat}{e:TypeId}{cs:List Value}(hT:Je Es (Blk b e cs) Es')
  (g:∀ h',Le h h'→At h' ⟨b,0,none⟩ cs→GOl C ds l Es' h' ops os K):GOl C ds l Es h ops os K :=
 Yu hT fun D h' hle hA=>g h' hle (Awa hA.2)
end Go.Hw
