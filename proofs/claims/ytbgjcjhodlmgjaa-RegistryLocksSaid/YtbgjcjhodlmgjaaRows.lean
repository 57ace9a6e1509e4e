/-
  No cell of these rows narrows 'for every input' (looked for: loops, veiled, ifaces, maps, wideKeys, modest, calm, conditions, laid).
  DERIVED. THE GIVEN ROWS OF THIS SEAT. 6 by the template 'for every input the law returns true; each argument reads behind the call as it read before'; 0 by the template 'total and deterministic' (their statements: YtbgjcjhodlmgjaaTotals.lean).
  GIVEN WITH THE SEED: the statements are not yours to turn. If you find one false, say at which input.
  Laid BY PROGRAM, IN A SANDBOX (cutbox-rows.mjs): the forced cells as the released guide's own fill.sh prints them over the translation fcd7c6695045f1e0… (all of the seat's roots in one cut). By AI agents, Wed Nov 11 2026. No macro, syntax, notation, axiom, sorry.
-/
import Derived.Test.YtbgjcjhodlmgjaaChecked
import GoSem.Claim
import GoSem.ClaimJoined
import GoSem.ClaimMapViews
import Derived.JoinedTies
import Derived.KernelRfl
namespace Go.Proofs.Ytbgjcjhodlmgjaa
/- THE CELL 'sum', in the pinned program and in every row, IS THE sha256 OF THE DUMP (.gsa) THAT YtbgjcjhodlmgjaaProg.lean LOADS. Nothing in Lean hashes anything: it is a label: what it is worth is what the hold of that sum in a sandbox is worth. -/
noncomputable def Try.pinned : Pinned := { name := "ytbgjcjhodlmgjaa", sum := "fcd7c6695045f1e0cc20a694ed6679005283fd53ddd52f498837ace1d1b4b111", checked := Try.checked }
namespace Rows
def none {H : Type} : Left H := { results := [], args := [] }

/-- 'assizelaw36.RegistryEnterSpec': WHATEVER THE INPUT: true; the input reads as it did. -/
def registryEnterSpecSpec : ChangeSpec := { name := "registryEnterSpec", fn := fun _ => fun
  | [d1, d2, d3, d4] => { results := [.lit (.bool true)], args := [d1, d2, d3, d4] }
  | _ => none }
def registryEnterSpecRow : OpenClaim := { program := "ytbgjcjhodlmgjaa", sum := "fcd7c6695045f1e0cc20a694ed6679005283fd53ddd52f498837ace1d1b4b111", func := "assize/assizelaw36.RegistryEnterSpec", spec := "registryEnterSpec", unfollowed := true, recurses := true, apart := false }
def RegistryEnterSpecSaid : Prop := registryEnterSpecRow.holds Try.pinned (OpenSpec.ofChange registryEnterSpecSpec)

/-- ITS FALSE NEIGHBOUR: 'it returns false'. Refute it at one input. -/
def registryEnterSpecWrong : ChangeSpec := { name := "registryEnterSpec", fn := fun _ => fun
  | [d1, d2, d3, d4] => { results := [.lit (.bool false)], args := [d1, d2, d3, d4] }
  | _ => none }
def RegistryEnterSpecWrongFalsely : Prop := registryEnterSpecRow.holds Try.pinned (OpenSpec.ofChange registryEnterSpecWrong)

/-- 'assizelaw36.RegistryAskSpec': WHATEVER THE INPUT: true; the input reads as it did. -/
def registryAskSpecSpec : ChangeSpec := { name := "registryAskSpec", fn := fun _ => fun
  | [d1, d2, d3] => { results := [.lit (.bool true)], args := [d1, d2, d3] }
  | _ => none }
def registryAskSpecRow : OpenClaim := { program := "ytbgjcjhodlmgjaa", sum := "fcd7c6695045f1e0cc20a694ed6679005283fd53ddd52f498837ace1d1b4b111", func := "assize/assizelaw36.RegistryAskSpec", spec := "registryAskSpec", unfollowed := true, recurses := true, apart := false }
def RegistryAskSpecSaid : Prop := registryAskSpecRow.holds Try.pinned (OpenSpec.ofChange registryAskSpecSpec)

/-- ITS FALSE NEIGHBOUR: 'it returns false'. Refute it at one input. -/
def registryAskSpecWrong : ChangeSpec := { name := "registryAskSpec", fn := fun _ => fun
  | [d1, d2, d3] => { results := [.lit (.bool false)], args := [d1, d2, d3] }
  | _ => none }
def RegistryAskSpecWrongFalsely : Prop := registryAskSpecRow.holds Try.pinned (OpenSpec.ofChange registryAskSpecWrong)

/-- 'assizelaw36.RegistryMovesSpec': WHATEVER THE INPUT: true; the input reads as it did. -/
def registryMovesSpecSpec : ChangeSpec := { name := "registryMovesSpec", fn := fun _ => fun
  | [d] => { results := [.lit (.bool true)], args := [d] }
  | _ => none }
def registryMovesSpecRow : OpenClaim := { program := "ytbgjcjhodlmgjaa", sum := "fcd7c6695045f1e0cc20a694ed6679005283fd53ddd52f498837ace1d1b4b111", func := "assize/assizelaw36.RegistryMovesSpec", spec := "registryMovesSpec", unfollowed := true, recurses := true, apart := false }
def RegistryMovesSpecSaid : Prop := registryMovesSpecRow.holds Try.pinned (OpenSpec.ofChange registryMovesSpecSpec)

/-- ITS FALSE NEIGHBOUR: 'it returns false'. Refute it at one input. -/
def registryMovesSpecWrong : ChangeSpec := { name := "registryMovesSpec", fn := fun _ => fun
  | [d] => { results := [.lit (.bool false)], args := [d] }
  | _ => none }
def RegistryMovesSpecWrongFalsely : Prop := registryMovesSpecRow.holds Try.pinned (OpenSpec.ofChange registryMovesSpecWrong)

/-- 'assizelaw36.RegistrySquads': WHATEVER THE INPUT: true; the input reads as it did. -/
def registrySquadsSpec : ChangeSpec := { name := "registrySquads", fn := fun _ => fun
  | [d1, d2] => { results := [.lit (.bool true)], args := [d1, d2] }
  | _ => none }
def registrySquadsRow : OpenClaim := { program := "ytbgjcjhodlmgjaa", sum := "fcd7c6695045f1e0cc20a694ed6679005283fd53ddd52f498837ace1d1b4b111", func := "assize/assizelaw36.RegistrySquads", spec := "registrySquads", unfollowed := true, recurses := true, apart := false }
def RegistrySquadsSaid : Prop := registrySquadsRow.holds Try.pinned (OpenSpec.ofChange registrySquadsSpec)

/-- ITS FALSE NEIGHBOUR: 'it returns false'. Refute it at one input. -/
def registrySquadsWrong : ChangeSpec := { name := "registrySquads", fn := fun _ => fun
  | [d1, d2] => { results := [.lit (.bool false)], args := [d1, d2] }
  | _ => none }
def RegistrySquadsWrongFalsely : Prop := registrySquadsRow.holds Try.pinned (OpenSpec.ofChange registrySquadsWrong)

/-- 'assizelaw36.RegistryGrows': WHATEVER THE INPUT: true; the input reads as it did. -/
def registryGrowsSpec : ChangeSpec := { name := "registryGrows", fn := fun _ => fun
  | [d1, d2, d3] => { results := [.lit (.bool true)], args := [d1, d2, d3] }
  | _ => none }
def registryGrowsRow : OpenClaim := { program := "ytbgjcjhodlmgjaa", sum := "fcd7c6695045f1e0cc20a694ed6679005283fd53ddd52f498837ace1d1b4b111", func := "assize/assizelaw36.RegistryGrows", spec := "registryGrows", unfollowed := true, recurses := true, apart := false }
def RegistryGrowsSaid : Prop := registryGrowsRow.holds Try.pinned (OpenSpec.ofChange registryGrowsSpec)

/-- ITS FALSE NEIGHBOUR: 'it returns false'. Refute it at one input. -/
def registryGrowsWrong : ChangeSpec := { name := "registryGrows", fn := fun _ => fun
  | [d1, d2, d3] => { results := [.lit (.bool false)], args := [d1, d2, d3] }
  | _ => none }
def RegistryGrowsWrongFalsely : Prop := registryGrowsRow.holds Try.pinned (OpenSpec.ofChange registryGrowsWrong)

/-- 'assizelaw36.RegistryLocks': WHATEVER THE INPUT: true; the input reads as it did. -/
def registryLocksSpec : ChangeSpec := { name := "registryLocks", fn := fun _ => fun
  | [d1, d2, d3, d4] => { results := [.lit (.bool true)], args := [d1, d2, d3, d4] }
  | _ => none }
def registryLocksRow : OpenClaim := { program := "ytbgjcjhodlmgjaa", sum := "fcd7c6695045f1e0cc20a694ed6679005283fd53ddd52f498837ace1d1b4b111", func := "assize/assizelaw36.RegistryLocks", spec := "registryLocks", unfollowed := true, recurses := true, apart := false }
def RegistryLocksSaid : Prop := registryLocksRow.holds Try.pinned (OpenSpec.ofChange registryLocksSpec)

/-- ITS FALSE NEIGHBOUR: 'it returns false'. Refute it at one input. -/
def registryLocksWrong : ChangeSpec := { name := "registryLocks", fn := fun _ => fun
  | [d1, d2, d3, d4] => { results := [.lit (.bool false)], args := [d1, d2, d3, d4] }
  | _ => none }
def RegistryLocksWrongFalsely : Prop := registryLocksRow.holds Try.pinned (OpenSpec.ofChange registryLocksWrong)

/- THE SECOND FORM. 'bulk': how many values and letters a reading holds, each counted each time it is reached (what is shared counts as often as it is met; a slice's spare places count too). A statement '..UptoSaid' is the law's where the arguments, and the package variables that the reading takes, are together of bulk at most 1048576: NARROWER than '..Said'. Prove '..Said' where nothing that the law and all that it calls make is longer than what came in: it says more and counts as full. Else prove '..UptoSaid'. A law counts once. -/
mutual
def uptoBulk {H : Type} : DataW H → Nat
  | .lit (.string bytes) => bytes.length + 1
  | .lit _ => 1
  | .nil => 1
  | .ptr d => uptoBulk d + 1
  | .slice elems spare => uptoBulkAll elems + uptoBulkAll spare + 1
  | .agg parts => uptoBulkAll parts + 1
  | .iface _ d => uptoBulk d + 1
  | .map entries => uptoBulkEntries entries + 1
  | .held _ => 1
def uptoBulkAll {H : Type} : List (DataW H) → Nat
  | [] => 0
  | d :: r => uptoBulk d + uptoBulkAll r
def uptoBulkEntries {H : Type} : List (Lit × DataW H) → Nat
  | [] => 0
  | x :: r => uptoBulkEntry x + uptoBulkEntries r
def uptoBulkEntry {H : Type} : Lit × DataW H → Nat
  | (.string bytes, d) => bytes.length + uptoBulk d + 1
  | (_, d) => uptoBulk d + 1
 end
def uptoSmall : (H : Type) → List (DataW H) → Bool := fun _ ds => decide (uptoBulkAll ds ≤ 1048576)
def OpenSpec.upto (s : _root_.Go.ChangeSpec) : _root_.Go.OpenSpec := { _root_.Go.OpenSpec.ofChange s with cond := some uptoSmall }

/-- 'assizelaw36.RegistryEnterSpec', WHERE WHAT IT READS IS OF BULK AT MOST 1048576: true; the input reads as it did. -/
def registryEnterSpecUptoRow : OpenClaim := { program := "ytbgjcjhodlmgjaa", sum := "fcd7c6695045f1e0cc20a694ed6679005283fd53ddd52f498837ace1d1b4b111", func := "assize/assizelaw36.RegistryEnterSpec", spec := "registryEnterSpec", unfollowed := true, recurses := true, apart := false, narrowed := true }
def RegistryEnterSpecUptoSaid : Prop := registryEnterSpecUptoRow.holds Try.pinned (OpenSpec.upto registryEnterSpecSpec)

/-- 'assizelaw36.RegistryAskSpec', WHERE WHAT IT READS IS OF BULK AT MOST 1048576: true; the input reads as it did. -/
def registryAskSpecUptoRow : OpenClaim := { program := "ytbgjcjhodlmgjaa", sum := "fcd7c6695045f1e0cc20a694ed6679005283fd53ddd52f498837ace1d1b4b111", func := "assize/assizelaw36.RegistryAskSpec", spec := "registryAskSpec", unfollowed := true, recurses := true, apart := false, narrowed := true }
def RegistryAskSpecUptoSaid : Prop := registryAskSpecUptoRow.holds Try.pinned (OpenSpec.upto registryAskSpecSpec)

/-- 'assizelaw36.RegistryMovesSpec', WHERE WHAT IT READS IS OF BULK AT MOST 1048576: true; the input reads as it did. -/
def registryMovesSpecUptoRow : OpenClaim := { program := "ytbgjcjhodlmgjaa", sum := "fcd7c6695045f1e0cc20a694ed6679005283fd53ddd52f498837ace1d1b4b111", func := "assize/assizelaw36.RegistryMovesSpec", spec := "registryMovesSpec", unfollowed := true, recurses := true, apart := false, narrowed := true }
def RegistryMovesSpecUptoSaid : Prop := registryMovesSpecUptoRow.holds Try.pinned (OpenSpec.upto registryMovesSpecSpec)

/-- 'assizelaw36.RegistrySquads', WHERE WHAT IT READS IS OF BULK AT MOST 1048576: true; the input reads as it did. -/
def registrySquadsUptoRow : OpenClaim := { program := "ytbgjcjhodlmgjaa", sum := "fcd7c6695045f1e0cc20a694ed6679005283fd53ddd52f498837ace1d1b4b111", func := "assize/assizelaw36.RegistrySquads", spec := "registrySquads", unfollowed := true, recurses := true, apart := false, narrowed := true }
def RegistrySquadsUptoSaid : Prop := registrySquadsUptoRow.holds Try.pinned (OpenSpec.upto registrySquadsSpec)

/-- 'assizelaw36.RegistryGrows', WHERE WHAT IT READS IS OF BULK AT MOST 1048576: true; the input reads as it did. -/
def registryGrowsUptoRow : OpenClaim := { program := "ytbgjcjhodlmgjaa", sum := "fcd7c6695045f1e0cc20a694ed6679005283fd53ddd52f498837ace1d1b4b111", func := "assize/assizelaw36.RegistryGrows", spec := "registryGrows", unfollowed := true, recurses := true, apart := false, narrowed := true }
def RegistryGrowsUptoSaid : Prop := registryGrowsUptoRow.holds Try.pinned (OpenSpec.upto registryGrowsSpec)

/-- 'assizelaw36.RegistryLocks', WHERE WHAT IT READS IS OF BULK AT MOST 1048576: true; the input reads as it did. -/
def registryLocksUptoRow : OpenClaim := { program := "ytbgjcjhodlmgjaa", sum := "fcd7c6695045f1e0cc20a694ed6679005283fd53ddd52f498837ace1d1b4b111", func := "assize/assizelaw36.RegistryLocks", spec := "registryLocks", unfollowed := true, recurses := true, apart := false, narrowed := true }
def RegistryLocksUptoSaid : Prop := registryLocksUptoRow.holds Try.pinned (OpenSpec.upto registryLocksSpec)

end Rows
end Go.Proofs.Ytbgjcjhodlmgjaa
