/-
  NARROWER THAN 'FOR EVERY INPUT', by the rows' own cells (each row's printed sentence says how): RulingsVoidSpec: laid · RulingsSet: laid · RulingsForceSpec: laid · RulingsAboutSpec: laid · RulingsPrevail: laid · RulingsApart: laid · RulingsAdd: laid.
  DERIVED. THE GIVEN ROWS OF THIS SEAT. 7 by the template 'for every input the law returns true; each argument reads behind the call as it read before'; 0 by the template 'total and deterministic' (their statements: YtcnddgmcfjaihaaGreatDoorTotals.lean).
  GIVEN WITH THE SEED: the statements are not yours to turn. If you find one false, say at which input.
  Laid BY PROGRAM, IN A SANDBOX (cutbox-rows.mjs): the forced cells as the released guide's own fill.sh prints them over the translation b9f44b84fe111495… (all of the seat's roots in one cut). By AI agents, Wed Nov 11 2026. No macro, syntax, notation, axiom, sorry.
-/
import Derived.Test.YtcnddgmcfjaihaaGreatDoorChecked
import GoSem.Claim
import GoSem.ClaimJoined
import GoSem.ClaimMapViews
import Derived.JoinedTies
import Derived.KernelRfl
namespace Go.Proofs.YtcnddgmcfjaihaaGreatDoor
/- THE CELL 'sum', in the pinned program and in every row, IS THE sha256 OF THE DUMP (.gsa) THAT YtcnddgmcfjaihaaGreatDoorProg.lean LOADS. Nothing in Lean hashes anything: it is a label: what it is worth is what the hold of that sum in a sandbox is worth. -/
noncomputable def Tryz.pinned : Pinned := { name := "ytcnddgmcfjaihaagreatdoor", sum := "b9f44b84fe111495a89fe7151364c4b89ab933d417a1156788ac4d8baf3abdf9", checked := Tryz.checked }
namespace Rows
def none {H : Type} : Left H := { results := [], args := [] }

/- WHAT THE LISTED PACKAGE-LEVEL VARIABLES READ AS WHEN THE CALL BEGINS. Each datum BY PROGRAM (the guide's laid-datum.mjs) off the statement by which the dump's own 'gosem.cut.vars' lays the variable. In a bare row this is a premise. The card (YtcnddgmcfjaihaaGreatDoorCards.lean) ties it to the program's text. -/
def laid_math_bits_deBruijn32tab {H : Type} : DataW H := .agg [.lit (.int .u8 0), .lit (.int .u8 1), .lit (.int .u8 28), .lit (.int .u8 2), .lit (.int .u8 29), .lit (.int .u8 14), .lit (.int .u8 24), .lit (.int .u8 3), .lit (.int .u8 30), .lit (.int .u8 22), .lit (.int .u8 20), .lit (.int .u8 15), .lit (.int .u8 25), .lit (.int .u8 17), .lit (.int .u8 4), .lit (.int .u8 8), .lit (.int .u8 31), .lit (.int .u8 27), .lit (.int .u8 13), .lit (.int .u8 23), .lit (.int .u8 21), .lit (.int .u8 19), .lit (.int .u8 16), .lit (.int .u8 7), .lit (.int .u8 26), .lit (.int .u8 12), .lit (.int .u8 18), .lit (.int .u8 6), .lit (.int .u8 11), .lit (.int .u8 5), .lit (.int .u8 10), .lit (.int .u8 9)]
def laid_math_bits_deBruijn64tab {H : Type} : DataW H := .agg [.lit (.int .u8 0), .lit (.int .u8 1), .lit (.int .u8 56), .lit (.int .u8 2), .lit (.int .u8 57), .lit (.int .u8 49), .lit (.int .u8 28), .lit (.int .u8 3), .lit (.int .u8 61), .lit (.int .u8 58), .lit (.int .u8 42), .lit (.int .u8 50), .lit (.int .u8 38), .lit (.int .u8 29), .lit (.int .u8 17), .lit (.int .u8 4), .lit (.int .u8 62), .lit (.int .u8 47), .lit (.int .u8 59), .lit (.int .u8 36), .lit (.int .u8 45), .lit (.int .u8 43), .lit (.int .u8 51), .lit (.int .u8 22), .lit (.int .u8 53), .lit (.int .u8 39), .lit (.int .u8 33), .lit (.int .u8 30), .lit (.int .u8 24), .lit (.int .u8 18), .lit (.int .u8 12), .lit (.int .u8 5), .lit (.int .u8 63), .lit (.int .u8 55), .lit (.int .u8 48), .lit (.int .u8 27), .lit (.int .u8 60), .lit (.int .u8 41), .lit (.int .u8 37), .lit (.int .u8 16), .lit (.int .u8 46), .lit (.int .u8 35), .lit (.int .u8 44), .lit (.int .u8 21), .lit (.int .u8 52), .lit (.int .u8 32), .lit (.int .u8 23), .lit (.int .u8 11), .lit (.int .u8 54), .lit (.int .u8 26), .lit (.int .u8 40), .lit (.int .u8 15), .lit (.int .u8 34), .lit (.int .u8 20), .lit (.int .u8 31), .lit (.int .u8 10), .lit (.int .u8 25), .lit (.int .u8 14), .lit (.int .u8 19), .lit (.int .u8 9), .lit (.int .u8 13), .lit (.int .u8 8), .lit (.int .u8 7), .lit (.int .u8 6)]
def laid_internal_strconv_uint64pow10 {H : Type} : DataW H := .agg [.lit (.int .u64 1), .lit (.int .u64 10), .lit (.int .u64 100), .lit (.int .u64 1000), .lit (.int .u64 10000), .lit (.int .u64 100000), .lit (.int .u64 1000000), .lit (.int .u64 10000000), .lit (.int .u64 100000000), .lit (.int .u64 1000000000), .lit (.int .u64 10000000000), .lit (.int .u64 100000000000), .lit (.int .u64 1000000000000), .lit (.int .u64 10000000000000), .lit (.int .u64 100000000000000), .lit (.int .u64 1000000000000000), .lit (.int .u64 10000000000000000), .lit (.int .u64 100000000000000000), .lit (.int .u64 1000000000000000000), .lit (.int .u64 10000000000000000000)]

/-- 'assizelaw10.RulingsVoidSpec': WHATEVER THE INPUT: true; the input reads as it did. -/
def rulingsVoidSpecSpec : ChangeSpec := { name := "rulingsVoidSpec", fn := fun _ => fun
  | [d] => { results := [.lit (.bool true)], args := [d] }
  | _ => none }
def rulingsVoidSpecRow : OpenClaim := { program := "ytcnddgmcfjaihaagreatdoor", sum := "b9f44b84fe111495a89fe7151364c4b89ab933d417a1156788ac4d8baf3abdf9", func := "assize/assizelaw10.RulingsVoidSpec", spec := "rulingsVoidSpec", inPlace := ["internal/bytealg.Compare"], unfollowed := true, recurses := true, named := ["internal/strconv.uint64pow10", "math/bits.deBruijn32tab", "math/bits.deBruijn64tab"], apart := false, laid := [("math/bits.deBruijn32tab", laid_math_bits_deBruijn32tab), ("math/bits.deBruijn64tab", laid_math_bits_deBruijn64tab), ("internal/strconv.uint64pow10", laid_internal_strconv_uint64pow10)] }
def RulingsVoidSpecSaid : Prop := rulingsVoidSpecRow.holds Tryz.pinned (OpenSpec.ofChange rulingsVoidSpecSpec)

/-- ITS FALSE NEIGHBOUR: 'it returns false'. Refute it at one input. -/
def rulingsVoidSpecWrong : ChangeSpec := { name := "rulingsVoidSpec", fn := fun _ => fun
  | [d] => { results := [.lit (.bool false)], args := [d] }
  | _ => none }
def RulingsVoidSpecWrongFalsely : Prop := rulingsVoidSpecRow.holds Tryz.pinned (OpenSpec.ofChange rulingsVoidSpecWrong)

/-- 'assizelaw10.RulingsSet': WHATEVER THE INPUT: true; the input reads as it did. -/
def rulingsSetSpec : ChangeSpec := { name := "rulingsSet", fn := fun _ => fun
  | [d1, d2] => { results := [.lit (.bool true)], args := [d1, d2] }
  | _ => none }
def rulingsSetRow : OpenClaim := { program := "ytcnddgmcfjaihaagreatdoor", sum := "b9f44b84fe111495a89fe7151364c4b89ab933d417a1156788ac4d8baf3abdf9", func := "assize/assizelaw10.RulingsSet", spec := "rulingsSet", inPlace := ["internal/bytealg.Compare"], unfollowed := true, recurses := true, named := ["internal/strconv.uint64pow10", "math/bits.deBruijn32tab", "math/bits.deBruijn64tab"], apart := false, laid := [("math/bits.deBruijn32tab", laid_math_bits_deBruijn32tab), ("math/bits.deBruijn64tab", laid_math_bits_deBruijn64tab), ("internal/strconv.uint64pow10", laid_internal_strconv_uint64pow10)] }
def RulingsSetSaid : Prop := rulingsSetRow.holds Tryz.pinned (OpenSpec.ofChange rulingsSetSpec)

/-- ITS FALSE NEIGHBOUR: 'it returns false'. Refute it at one input. -/
def rulingsSetWrong : ChangeSpec := { name := "rulingsSet", fn := fun _ => fun
  | [d1, d2] => { results := [.lit (.bool false)], args := [d1, d2] }
  | _ => none }
def RulingsSetWrongFalsely : Prop := rulingsSetRow.holds Tryz.pinned (OpenSpec.ofChange rulingsSetWrong)

/-- 'assizelaw10.RulingsForceSpec': WHATEVER THE INPUT: true; the input reads as it did. -/
def rulingsForceSpecSpec : ChangeSpec := { name := "rulingsForceSpec", fn := fun _ => fun
  | [d1, d2] => { results := [.lit (.bool true)], args := [d1, d2] }
  | _ => none }
def rulingsForceSpecRow : OpenClaim := { program := "ytcnddgmcfjaihaagreatdoor", sum := "b9f44b84fe111495a89fe7151364c4b89ab933d417a1156788ac4d8baf3abdf9", func := "assize/assizelaw10.RulingsForceSpec", spec := "rulingsForceSpec", inPlace := ["internal/bytealg.Compare"], unfollowed := true, recurses := true, named := ["internal/strconv.uint64pow10", "math/bits.deBruijn32tab", "math/bits.deBruijn64tab"], apart := false, laid := [("math/bits.deBruijn32tab", laid_math_bits_deBruijn32tab), ("math/bits.deBruijn64tab", laid_math_bits_deBruijn64tab), ("internal/strconv.uint64pow10", laid_internal_strconv_uint64pow10)] }
def RulingsForceSpecSaid : Prop := rulingsForceSpecRow.holds Tryz.pinned (OpenSpec.ofChange rulingsForceSpecSpec)

/-- ITS FALSE NEIGHBOUR: 'it returns false'. Refute it at one input. -/
def rulingsForceSpecWrong : ChangeSpec := { name := "rulingsForceSpec", fn := fun _ => fun
  | [d1, d2] => { results := [.lit (.bool false)], args := [d1, d2] }
  | _ => none }
def RulingsForceSpecWrongFalsely : Prop := rulingsForceSpecRow.holds Tryz.pinned (OpenSpec.ofChange rulingsForceSpecWrong)

/-- 'assizelaw10.RulingsAboutSpec': WHATEVER THE INPUT: true; the input reads as it did. -/
def rulingsAboutSpecSpec : ChangeSpec := { name := "rulingsAboutSpec", fn := fun _ => fun
  | [d1, d2, d3, d4, d5] => { results := [.lit (.bool true)], args := [d1, d2, d3, d4, d5] }
  | _ => none }
def rulingsAboutSpecRow : OpenClaim := { program := "ytcnddgmcfjaihaagreatdoor", sum := "b9f44b84fe111495a89fe7151364c4b89ab933d417a1156788ac4d8baf3abdf9", func := "assize/assizelaw10.RulingsAboutSpec", spec := "rulingsAboutSpec", inPlace := ["internal/bytealg.Compare"], unfollowed := true, recurses := true, named := ["internal/strconv.uint64pow10", "math/bits.deBruijn32tab", "math/bits.deBruijn64tab"], apart := false, laid := [("math/bits.deBruijn32tab", laid_math_bits_deBruijn32tab), ("math/bits.deBruijn64tab", laid_math_bits_deBruijn64tab), ("internal/strconv.uint64pow10", laid_internal_strconv_uint64pow10)] }
def RulingsAboutSpecSaid : Prop := rulingsAboutSpecRow.holds Tryz.pinned (OpenSpec.ofChange rulingsAboutSpecSpec)

/-- ITS FALSE NEIGHBOUR: 'it returns false'. Refute it at one input. -/
def rulingsAboutSpecWrong : ChangeSpec := { name := "rulingsAboutSpec", fn := fun _ => fun
  | [d1, d2, d3, d4, d5] => { results := [.lit (.bool false)], args := [d1, d2, d3, d4, d5] }
  | _ => none }
def RulingsAboutSpecWrongFalsely : Prop := rulingsAboutSpecRow.holds Tryz.pinned (OpenSpec.ofChange rulingsAboutSpecWrong)

/-- 'assizelaw10.RulingsPrevail': WHATEVER THE INPUT: true; the input reads as it did. -/
def rulingsPrevailSpec : ChangeSpec := { name := "rulingsPrevail", fn := fun _ => fun
  | [d] => { results := [.lit (.bool true)], args := [d] }
  | _ => none }
def rulingsPrevailRow : OpenClaim := { program := "ytcnddgmcfjaihaagreatdoor", sum := "b9f44b84fe111495a89fe7151364c4b89ab933d417a1156788ac4d8baf3abdf9", func := "assize/assizelaw10.RulingsPrevail", spec := "rulingsPrevail", inPlace := ["internal/bytealg.Compare"], unfollowed := true, recurses := true, named := ["internal/strconv.uint64pow10", "math/bits.deBruijn32tab", "math/bits.deBruijn64tab"], apart := false, laid := [("math/bits.deBruijn32tab", laid_math_bits_deBruijn32tab), ("math/bits.deBruijn64tab", laid_math_bits_deBruijn64tab), ("internal/strconv.uint64pow10", laid_internal_strconv_uint64pow10)] }
def RulingsPrevailSaid : Prop := rulingsPrevailRow.holds Tryz.pinned (OpenSpec.ofChange rulingsPrevailSpec)

/-- ITS FALSE NEIGHBOUR: 'it returns false'. Refute it at one input. -/
def rulingsPrevailWrong : ChangeSpec := { name := "rulingsPrevail", fn := fun _ => fun
  | [d] => { results := [.lit (.bool false)], args := [d] }
  | _ => none }
def RulingsPrevailWrongFalsely : Prop := rulingsPrevailRow.holds Tryz.pinned (OpenSpec.ofChange rulingsPrevailWrong)

/-- 'assizelaw10.RulingsApart': WHATEVER THE INPUT: true; the input reads as it did. -/
def rulingsApartSpec : ChangeSpec := { name := "rulingsApart", fn := fun _ => fun
  | [d1, d2] => { results := [.lit (.bool true)], args := [d1, d2] }
  | _ => none }
def rulingsApartRow : OpenClaim := { program := "ytcnddgmcfjaihaagreatdoor", sum := "b9f44b84fe111495a89fe7151364c4b89ab933d417a1156788ac4d8baf3abdf9", func := "assize/assizelaw10.RulingsApart", spec := "rulingsApart", inPlace := ["internal/bytealg.Compare"], unfollowed := true, recurses := true, named := ["internal/strconv.uint64pow10", "math/bits.deBruijn32tab", "math/bits.deBruijn64tab"], apart := false, laid := [("math/bits.deBruijn32tab", laid_math_bits_deBruijn32tab), ("math/bits.deBruijn64tab", laid_math_bits_deBruijn64tab), ("internal/strconv.uint64pow10", laid_internal_strconv_uint64pow10)] }
def RulingsApartSaid : Prop := rulingsApartRow.holds Tryz.pinned (OpenSpec.ofChange rulingsApartSpec)

/-- ITS FALSE NEIGHBOUR: 'it returns false'. Refute it at one input. -/
def rulingsApartWrong : ChangeSpec := { name := "rulingsApart", fn := fun _ => fun
  | [d1, d2] => { results := [.lit (.bool false)], args := [d1, d2] }
  | _ => none }
def RulingsApartWrongFalsely : Prop := rulingsApartRow.holds Tryz.pinned (OpenSpec.ofChange rulingsApartWrong)

/-- 'assizelaw10.RulingsAdd': WHATEVER THE INPUT: true; the input reads as it did. -/
def rulingsAddSpec : ChangeSpec := { name := "rulingsAdd", fn := fun _ => fun
  | [d1, d2, d3, d4, d5] => { results := [.lit (.bool true)], args := [d1, d2, d3, d4, d5] }
  | _ => none }
def rulingsAddRow : OpenClaim := { program := "ytcnddgmcfjaihaagreatdoor", sum := "b9f44b84fe111495a89fe7151364c4b89ab933d417a1156788ac4d8baf3abdf9", func := "assize/assizelaw10.RulingsAdd", spec := "rulingsAdd", inPlace := ["internal/bytealg.Compare"], unfollowed := true, recurses := true, named := ["internal/strconv.uint64pow10", "math/bits.deBruijn32tab", "math/bits.deBruijn64tab"], apart := false, laid := [("math/bits.deBruijn32tab", laid_math_bits_deBruijn32tab), ("math/bits.deBruijn64tab", laid_math_bits_deBruijn64tab), ("internal/strconv.uint64pow10", laid_internal_strconv_uint64pow10)] }
def RulingsAddSaid : Prop := rulingsAddRow.holds Tryz.pinned (OpenSpec.ofChange rulingsAddSpec)

/-- ITS FALSE NEIGHBOUR: 'it returns false'. Refute it at one input. -/
def rulingsAddWrong : ChangeSpec := { name := "rulingsAdd", fn := fun _ => fun
  | [d1, d2, d3, d4, d5] => { results := [.lit (.bool false)], args := [d1, d2, d3, d4, d5] }
  | _ => none }
def RulingsAddWrongFalsely : Prop := rulingsAddRow.holds Tryz.pinned (OpenSpec.ofChange rulingsAddWrong)

/- THE SECOND FORM. 'bulk': how many values and letters a reading holds, each counted each time it is reached (what is shared counts as often as it is met; a slice's spare places count too). A statement '..UptoSaid' is the law's where the arguments, and the package variables that the reading takes, are together of bulk at most 1048576: NARROWER than '..Said'. Prove '..Said' where nothing that the law and all that it calls make is longer than what came in: it says more and counts as full. Else prove '..UptoSaid'. A law counts once. -/
mutual
def uptoBulk {H : Type} : DataW H → Nat
  | .lit (.string bytes) => bytes.length + 1
  | .lit _ => 1
  | .nil => 1
  | .ptr d => uptoBulk d + 1
  | .slice elems spare => uptoBulkAll elems + uptoBulkAll spare + 1
  | .agg parts => uptoBulkAll parts + 1
  | .iface _ d => uptoBulk d + 1
  | .map entries => uptoBulkEntries entries + 1
  | .held _ => 1
def uptoBulkAll {H : Type} : List (DataW H) → Nat
  | [] => 0
  | d :: r => uptoBulk d + uptoBulkAll r
def uptoBulkEntries {H : Type} : List (Lit × DataW H) → Nat
  | [] => 0
  | x :: r => uptoBulkEntry x + uptoBulkEntries r
def uptoBulkEntry {H : Type} : Lit × DataW H → Nat
  | (.string bytes, d) => bytes.length + uptoBulk d + 1
  | (_, d) => uptoBulk d + 1
 end
def uptoSmall : (H : Type) → List (DataW H) → Bool := fun _ ds => decide (uptoBulkAll ds ≤ 1048576)
def OpenSpec.upto (s : _root_.Go.ChangeSpec) : _root_.Go.OpenSpec := { _root_.Go.OpenSpec.ofChange s with cond := some uptoSmall }

/-- 'assizelaw10.RulingsVoidSpec', WHERE WHAT IT READS IS OF BULK AT MOST 1048576: true; the input reads as it did. -/
def rulingsVoidSpecUptoRow : OpenClaim := { program := "ytcnddgmcfjaihaagreatdoor", sum := "b9f44b84fe111495a89fe7151364c4b89ab933d417a1156788ac4d8baf3abdf9", func := "assize/assizelaw10.RulingsVoidSpec", spec := "rulingsVoidSpec", inPlace := ["internal/bytealg.Compare"], unfollowed := true, recurses := true, named := ["internal/strconv.uint64pow10", "math/bits.deBruijn32tab", "math/bits.deBruijn64tab"], apart := false, laid := [("math/bits.deBruijn32tab", laid_math_bits_deBruijn32tab), ("math/bits.deBruijn64tab", laid_math_bits_deBruijn64tab), ("internal/strconv.uint64pow10", laid_internal_strconv_uint64pow10)], narrowed := true }
def RulingsVoidSpecUptoSaid : Prop := rulingsVoidSpecUptoRow.holds Tryz.pinned (OpenSpec.upto rulingsVoidSpecSpec)

/-- 'assizelaw10.RulingsSet', WHERE WHAT IT READS IS OF BULK AT MOST 1048576: true; the input reads as it did. -/
def rulingsSetUptoRow : OpenClaim := { program := "ytcnddgmcfjaihaagreatdoor", sum := "b9f44b84fe111495a89fe7151364c4b89ab933d417a1156788ac4d8baf3abdf9", func := "assize/assizelaw10.RulingsSet", spec := "rulingsSet", inPlace := ["internal/bytealg.Compare"], unfollowed := true, recurses := true, named := ["internal/strconv.uint64pow10", "math/bits.deBruijn32tab", "math/bits.deBruijn64tab"], apart := false, laid := [("math/bits.deBruijn32tab", laid_math_bits_deBruijn32tab), ("math/bits.deBruijn64tab", laid_math_bits_deBruijn64tab), ("internal/strconv.uint64pow10", laid_internal_strconv_uint64pow10)], narrowed := true }
def RulingsSetUptoSaid : Prop := rulingsSetUptoRow.holds Tryz.pinned (OpenSpec.upto rulingsSetSpec)

/-- 'assizelaw10.RulingsForceSpec', WHERE WHAT IT READS IS OF BULK AT MOST 1048576: true; the input reads as it did. -/
def rulingsForceSpecUptoRow : OpenClaim := { program := "ytcnddgmcfjaihaagreatdoor", sum := "b9f44b84fe111495a89fe7151364c4b89ab933d417a1156788ac4d8baf3abdf9", func := "assize/assizelaw10.RulingsForceSpec", spec := "rulingsForceSpec", inPlace := ["internal/bytealg.Compare"], unfollowed := true, recurses := true, named := ["internal/strconv.uint64pow10", "math/bits.deBruijn32tab", "math/bits.deBruijn64tab"], apart := false, laid := [("math/bits.deBruijn32tab", laid_math_bits_deBruijn32tab), ("math/bits.deBruijn64tab", laid_math_bits_deBruijn64tab), ("internal/strconv.uint64pow10", laid_internal_strconv_uint64pow10)], narrowed := true }
def RulingsForceSpecUptoSaid : Prop := rulingsForceSpecUptoRow.holds Tryz.pinned (OpenSpec.upto rulingsForceSpecSpec)

/-- 'assizelaw10.RulingsAboutSpec', WHERE WHAT IT READS IS OF BULK AT MOST 1048576: true; the input reads as it did. -/
def rulingsAboutSpecUptoRow : OpenClaim := { program := "ytcnddgmcfjaihaagreatdoor", sum := "b9f44b84fe111495a89fe7151364c4b89ab933d417a1156788ac4d8baf3abdf9", func := "assize/assizelaw10.RulingsAboutSpec", spec := "rulingsAboutSpec", inPlace := ["internal/bytealg.Compare"], unfollowed := true, recurses := true, named := ["internal/strconv.uint64pow10", "math/bits.deBruijn32tab", "math/bits.deBruijn64tab"], apart := false, laid := [("math/bits.deBruijn32tab", laid_math_bits_deBruijn32tab), ("math/bits.deBruijn64tab", laid_math_bits_deBruijn64tab), ("internal/strconv.uint64pow10", laid_internal_strconv_uint64pow10)], narrowed := true }
def RulingsAboutSpecUptoSaid : Prop := rulingsAboutSpecUptoRow.holds Tryz.pinned (OpenSpec.upto rulingsAboutSpecSpec)

/-- 'assizelaw10.RulingsPrevail', WHERE WHAT IT READS IS OF BULK AT MOST 1048576: true; the input reads as it did. -/
def rulingsPrevailUptoRow : OpenClaim := { program := "ytcnddgmcfjaihaagreatdoor", sum := "b9f44b84fe111495a89fe7151364c4b89ab933d417a1156788ac4d8baf3abdf9", func := "assize/assizelaw10.RulingsPrevail", spec := "rulingsPrevail", inPlace := ["internal/bytealg.Compare"], unfollowed := true, recurses := true, named := ["internal/strconv.uint64pow10", "math/bits.deBruijn32tab", "math/bits.deBruijn64tab"], apart := false, laid := [("math/bits.deBruijn32tab", laid_math_bits_deBruijn32tab), ("math/bits.deBruijn64tab", laid_math_bits_deBruijn64tab), ("internal/strconv.uint64pow10", laid_internal_strconv_uint64pow10)], narrowed := true }
def RulingsPrevailUptoSaid : Prop := rulingsPrevailUptoRow.holds Tryz.pinned (OpenSpec.upto rulingsPrevailSpec)

/-- 'assizelaw10.RulingsApart', WHERE WHAT IT READS IS OF BULK AT MOST 1048576: true; the input reads as it did. -/
def rulingsApartUptoRow : OpenClaim := { program := "ytcnddgmcfjaihaagreatdoor", sum := "b9f44b84fe111495a89fe7151364c4b89ab933d417a1156788ac4d8baf3abdf9", func := "assize/assizelaw10.RulingsApart", spec := "rulingsApart", inPlace := ["internal/bytealg.Compare"], unfollowed := true, recurses := true, named := ["internal/strconv.uint64pow10", "math/bits.deBruijn32tab", "math/bits.deBruijn64tab"], apart := false, laid := [("math/bits.deBruijn32tab", laid_math_bits_deBruijn32tab), ("math/bits.deBruijn64tab", laid_math_bits_deBruijn64tab), ("internal/strconv.uint64pow10", laid_internal_strconv_uint64pow10)], narrowed := true }
def RulingsApartUptoSaid : Prop := rulingsApartUptoRow.holds Tryz.pinned (OpenSpec.upto rulingsApartSpec)

/-- 'assizelaw10.RulingsAdd', WHERE WHAT IT READS IS OF BULK AT MOST 1048576: true; the input reads as it did. -/
def rulingsAddUptoRow : OpenClaim := { program := "ytcnddgmcfjaihaagreatdoor", sum := "b9f44b84fe111495a89fe7151364c4b89ab933d417a1156788ac4d8baf3abdf9", func := "assize/assizelaw10.RulingsAdd", spec := "rulingsAdd", inPlace := ["internal/bytealg.Compare"], unfollowed := true, recurses := true, named := ["internal/strconv.uint64pow10", "math/bits.deBruijn32tab", "math/bits.deBruijn64tab"], apart := false, laid := [("math/bits.deBruijn32tab", laid_math_bits_deBruijn32tab), ("math/bits.deBruijn64tab", laid_math_bits_deBruijn64tab), ("internal/strconv.uint64pow10", laid_internal_strconv_uint64pow10)], narrowed := true }
def RulingsAddUptoSaid : Prop := rulingsAddUptoRow.holds Tryz.pinned (OpenSpec.upto rulingsAddSpec)

end Rows
end Go.Proofs.YtcnddgmcfjaihaaGreatDoor
