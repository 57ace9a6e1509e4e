import Derived.Test.YtphlhpbmkejbaabGreatDoorHB
set_option linter.unusedSimpArgs false
set_option linter.unusedVariables false
namespace Go.Hw
open Go
theorem GOl_relB {C : Ctx} {ds : List Deferred} {l : Sl} {Es Es' : List Asn} {h : Ro} {ops : Array Oper} {os : List Oper} {K : List Item} {b : Nat} {e : TypeId} {cs : List Value} (hT : Take Es (Blk b e cs) Es')
    (g : ∀ h',Le h h' → CellsAt h' ⟨b,0,none⟩ cs → GOl C ds l Es' h' ops os K) : GOl C ds l Es h ops os K :=
  GOl_release hT fun D h' hle hA => g h' hle (blk_at hA.2)
end Go.Hw
