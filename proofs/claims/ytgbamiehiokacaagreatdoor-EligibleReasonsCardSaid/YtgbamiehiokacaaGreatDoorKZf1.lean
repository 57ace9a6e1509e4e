import Derived.Test.YtgbamiehiokacaaGreatDoorKZf0
import Derived.Test.YtgbamiehiokacaaGreatDoorKYz
set_option linter.unusedVariables false
set_option maxRecDepth 100000
namespace Go.Proofs.YtgbamiehiokacaaGreatDoor
open Go Go.ChangeShapes Go.WideShapes Go.RowKit Go.ChangeAt Go.Hw
theorem inPlace12 : (Rows.eligibleReasonsRow.inPlace == Tryz.prog.inPlace 12) = true:=by kernel_rfl
theorem Uh : (Rows.eligibleReasonsRow.unfollowed == Tryz.prog.unfollowed 12) = true:=by kernel_rfl
theorem Cea : (Rows.eligibleReasonsRow.recurses == Tryz.prog.recurses 12) = true:=by kernel_rfl
theorem named12 : (Rows.eligibleReasonsRow.named == Tryz.prog.varsNamed 12) = true:=by kernel_rfl
theorem cwf12 : (Rows.eligibleReasonsRow.wf (OpenSpec.ofChange Rows.eligibleReasonsSpec)) = true:=by kernel_rfl
theorem cparams12 : (Tryz.f12.params.all (Tryz.prog.readableRec ·)) = true:=by kernel_rfl
theorem ctie12 : (namedTie Tryz.prog Rows.eligibleReasonsRow.named Rows.eligibleReasonsSpec.vars) = true:=by kernel_rfl
theorem cstop12 : ((Rows.eligibleReasonsRow.stops == [])) = true:=by kernel_rfl
theorem cknob12 : ((Rows.eligibleReasonsRow.knobs == [])) = true:=by kernel_rfl
theorem cmaps12 : ((Rows.eligibleReasonsRow.maps == (Tryz.f12.params.toList ++ Rows.eligibleReasonsSpec.plain.varTypes Tryz.prog).any (Tryz.prog.mapsRec ·))) = true:=by kernel_rfl
theorem cifaces12 : ((Rows.eligibleReasonsRow.ifaces == (Tryz.f12.params.toList ++ Rows.eligibleReasonsSpec.plain.varTypes Tryz.prog).any (Tryz.prog.ifacesRec ·))) = true:=by kernel_rfl
theorem C8a : ((Rows.eligibleReasonsRow.mapsOut == Tryz.prog.mapsAmong Tryz.f12.resultTypes.toList)) = true:=by kernel_rfl
theorem cloops12 : ((Rows.eligibleReasonsRow.loops == (Tryz.f12.params.toList ++ Rows.eligibleReasonsSpec.plain.varTypes Tryz.prog).any (Tryz.prog.loopsFrom ·))) = true:=by kernel_rfl
theorem cwide12 : ((Rows.eligibleReasonsRow.wideKeys == (Tryz.f12.params.toList ++ Rows.eligibleReasonsSpec.plain.varTypes Tryz.prog ++ Tryz.f12.resultTypes.toList).any (Tryz.prog.wideKeysFrom ·))) = true:=by kernel_rfl
theorem cvars12 : (Rows.eligibleReasonsSpec.vars.all (Tryz.prog.varReadable ·)) = true:=by kernel_rfl
theorem cres12 : (Tryz.f12.resultTypes.all (fun t => Tryz.prog.readableRec t && decide (t < Tryz.prog.types.size))) = true:=by kernel_rfl
theorem cifOut12 : ((Rows.eligibleReasonsRow.ifacesOut == Tryz.f12.resultTypes.toList.any (Tryz.prog.ifacesRec ·))) = true:=by kernel_rfl
theorem cloOut12 : ((Rows.eligibleReasonsRow.loopsOut == Tryz.f12.resultTypes.toList.any (Tryz.prog.loopsFrom ·))) = true:=by kernel_rfl
theorem cplainK12 : ((Rows.eligibleReasonsRow.plainKeys == Tryz.prog.plainKeys)) = true:=by kernel_rfl
theorem cshort12 : (Rows.eligibleReasonsRow.shortTexts.isNone) = true:=by kernel_rfl
theorem clift12 : ((Rows.eligibleReasonsRow.lifted == Tryz.prog.liftsFinal)) = true:=by kernel_rfl
theorem cmake12 : ((Tryz.prog.make == some Rows.eligibleReasonsRow.make)) = true:=by kernel_rfl
theorem ckinds12 : ((Rows.eligibleReasonsRow.kinds == (if Rows.eligibleReasonsRow.domain.isEmpty then [] else Tryz.f12.params.toList.map fun t => match Tryz.prog.underlying t with|some (.int k) => some k|_ => none))) = true:=by kernel_rfl
theorem cpinned12 : ((Rows.eligibleReasonsRow.pinned == Rows.eligibleReasonsRow.pinnedBy)) = true:=by kernel_rfl
theorem cveil12 : ((Rows.eligibleReasonsRow.veiled == (Tryz.f12.params.toList ++ Rows.eligibleReasonsSpec.plain.varTypes Tryz.prog ++ Tryz.f12.resultTypes.toList).any (Tryz.prog.veiledRec ·))) = true:=by kernel_rfl
theorem cveilF12 : (Rows.eligibleReasonsRow.veiledFits Tryz.prog Tryz.f12.params.toList (Tryz.f12.params.toList ++ Rows.eligibleReasonsSpec.plain.varTypes Tryz.prog ++ Tryz.f12.resultTypes.toList)) = true:=by kernel_rfl
theorem closed12 : joinedFacts Tryz.prog 12 Tryz.f12 Rows.eligibleReasonsSpec Rows.eligibleReasonsRow = true:=by
 unfold joinedFacts
 exact (andB (andB (andB (andB (andB (andB (andB (andB (andB (andB (andB (andB (andB (andB (andB (andB (andB (andB (andB (andB (andB (andB (andB (andB (andB (andB (andB (andB (andB (andB (andB cwf12 Csa) Qq) cparams12) ctie12) cstop12) Qj) cknob12) Qy) inPlace12) Uh) Cea) named12) cmaps12) cifaces12) C8a) cloops12) cwide12) cvars12) cres12) cifOut12) cloOut12) cplainK12) cshort12) Ra) Rg) clift12) cmake12) ckinds12) cpinned12) cveil12) cveilF12)
theorem wrap12 : Tryz.f12.isWrapper Tryz.prog Rows.eligibleReasonsRow.wrapper Rows.eligibleReasonsRow.mainSum:=by unfold Func.isWrapper;first|(rw [if_pos (by decide +kernel)];kernel_rfl)|(rw [if_neg (by decide +kernel)];exact ⟨rfl,rfl⟩)
theorem Jn : Rows.EligibleReasonsSaid :=
 OpenClaim.holds_of_wide 12 Tryz.f12 rfl rfl rfl rfl rfl rfl rfl ⟨rfl,rfl,rfl,rfl,rfl⟩ rfl rfl rfl rfl rfl (by kernel_rfl) Tryz.func12 closed12
  (of_decide_eq_true (by kernel_rfl)) wrap12
  (fun os started H enc _ => lifted12 os started H enc)
end Go.Proofs.YtgbamiehiokacaaGreatDoor
