import Derived.Test.YtlnenhhbalpbpaaGreatDoorHB
set_option linter.all false
namespace Go.Hw
open Go
theorem Cfa {C:Ctx}{ds:List Deferred}{l:Sl}{Es Es':List Asn}{h:Ro}{ops:Array Oper}{os:List Oper}{K:List Item}{b:Nat}{e:TypeId}{cs:List Value}(hT:Kc Es (Blk b e cs) Es')
  (g:∀ h',Le h h'→Ab h' ⟨b,0,none⟩ cs→GOl C ds l Es' h' ops os K):GOl C ds l Es h ops os K :=
 Hqa hT fun D h' hle hA=>g h' hle (Eza hA.2)
end Go.Hw
