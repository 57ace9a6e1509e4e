import Derived.Test.YtgbamiehiokacaaGreatDoorKYv0
import Derived.Test.YtgbamiehiokacaaGreatDoorKYz
set_option linter.unusedVariables false
set_option maxRecDepth 100000
namespace Go.Proofs.YtgbamiehiokacaaGreatDoor
open Go Go.ChangeShapes Go.WideShapes Go.RowKit Go.ChangeAt Go.Hw
theorem inPlace5 : (Rows.rulingsAboutSpecRow.inPlace == Tryz.prog.inPlace 5) = true:=by kernel_rfl
theorem Wm : (Rows.rulingsAboutSpecRow.unfollowed == Tryz.prog.unfollowed 5) = true:=by kernel_rfl
theorem recurses5 : (Rows.rulingsAboutSpecRow.recurses == Tryz.prog.recurses 5) = true:=by kernel_rfl
theorem named5 : (Rows.rulingsAboutSpecRow.named == Tryz.prog.varsNamed 5) = true:=by kernel_rfl
theorem cwf5 : (Rows.rulingsAboutSpecRow.wf (OpenSpec.ofChange Rows.rulingsAboutSpecSpec)) = true:=by kernel_rfl
theorem cparams5 : (Tryz.f5.params.all (Tryz.prog.readableRec ·)) = true:=by kernel_rfl
theorem ctie5 : (namedTie Tryz.prog Rows.rulingsAboutSpecRow.named Rows.rulingsAboutSpecSpec.vars) = true:=by kernel_rfl
theorem cstop5 : ((Rows.rulingsAboutSpecRow.stops == [])) = true:=by kernel_rfl
theorem cknob5 : ((Rows.rulingsAboutSpecRow.knobs == [])) = true:=by kernel_rfl
theorem cmaps5 : ((Rows.rulingsAboutSpecRow.maps == (Tryz.f5.params.toList ++ Rows.rulingsAboutSpecSpec.plain.varTypes Tryz.prog).any (Tryz.prog.mapsRec ·))) = true:=by kernel_rfl
theorem cifaces5 : ((Rows.rulingsAboutSpecRow.ifaces == (Tryz.f5.params.toList ++ Rows.rulingsAboutSpecSpec.plain.varTypes Tryz.prog).any (Tryz.prog.ifacesRec ·))) = true:=by kernel_rfl
theorem cmapsOut5 : ((Rows.rulingsAboutSpecRow.mapsOut == Tryz.prog.mapsAmong Tryz.f5.resultTypes.toList)) = true:=by kernel_rfl
theorem cloops5 : ((Rows.rulingsAboutSpecRow.loops == (Tryz.f5.params.toList ++ Rows.rulingsAboutSpecSpec.plain.varTypes Tryz.prog).any (Tryz.prog.loopsFrom ·))) = true:=by kernel_rfl
theorem cwide5 : ((Rows.rulingsAboutSpecRow.wideKeys == (Tryz.f5.params.toList ++ Rows.rulingsAboutSpecSpec.plain.varTypes Tryz.prog ++ Tryz.f5.resultTypes.toList).any (Tryz.prog.wideKeysFrom ·))) = true:=by kernel_rfl
theorem cvars5 : (Rows.rulingsAboutSpecSpec.vars.all (Tryz.prog.varReadable ·)) = true:=by kernel_rfl
theorem cres5 : (Tryz.f5.resultTypes.all (fun t => Tryz.prog.readableRec t && decide (t < Tryz.prog.types.size))) = true:=by kernel_rfl
theorem cifOut5 : ((Rows.rulingsAboutSpecRow.ifacesOut == Tryz.f5.resultTypes.toList.any (Tryz.prog.ifacesRec ·))) = true:=by kernel_rfl
theorem cloOut5 : ((Rows.rulingsAboutSpecRow.loopsOut == Tryz.f5.resultTypes.toList.any (Tryz.prog.loopsFrom ·))) = true:=by kernel_rfl
theorem cplainK5 : ((Rows.rulingsAboutSpecRow.plainKeys == Tryz.prog.plainKeys)) = true:=by kernel_rfl
theorem cshort5 : (Rows.rulingsAboutSpecRow.shortTexts.isNone) = true:=by kernel_rfl
theorem clift5 : ((Rows.rulingsAboutSpecRow.lifted == Tryz.prog.liftsFinal)) = true:=by kernel_rfl
theorem cmake5 : ((Tryz.prog.make == some Rows.rulingsAboutSpecRow.make)) = true:=by kernel_rfl
theorem ckinds5 : ((Rows.rulingsAboutSpecRow.kinds == (if Rows.rulingsAboutSpecRow.domain.isEmpty then [] else Tryz.f5.params.toList.map fun t => match Tryz.prog.underlying t with|some (.int k) => some k|_ => none))) = true:=by kernel_rfl
theorem cpinned5 : ((Rows.rulingsAboutSpecRow.pinned == Rows.rulingsAboutSpecRow.pinnedBy)) = true:=by kernel_rfl
theorem cveil5 : ((Rows.rulingsAboutSpecRow.veiled == (Tryz.f5.params.toList ++ Rows.rulingsAboutSpecSpec.plain.varTypes Tryz.prog ++ Tryz.f5.resultTypes.toList).any (Tryz.prog.veiledRec ·))) = true:=by kernel_rfl
theorem cveilF5 : (Rows.rulingsAboutSpecRow.veiledFits Tryz.prog Tryz.f5.params.toList (Tryz.f5.params.toList ++ Rows.rulingsAboutSpecSpec.plain.varTypes Tryz.prog ++ Tryz.f5.resultTypes.toList)) = true:=by kernel_rfl
theorem closed5 : joinedFacts Tryz.prog 5 Tryz.f5 Rows.rulingsAboutSpecSpec Rows.rulingsAboutSpecRow = true:=by
 unfold joinedFacts
 exact (andB (andB (andB (andB (andB (andB (andB (andB (andB (andB (andB (andB (andB (andB (andB (andB (andB (andB (andB (andB (andB (andB (andB (andB (andB (andB (andB (andB (andB (andB (andB cwf5 laidS) rowedS) cparams5) ctie5) cstop5) stopsS) cknob5) knobsS) inPlace5) Wm) recurses5) named5) cmaps5) cifaces5) cmapsOut5) cloops5) cwide5) cvars5) cres5) cifOut5) cloOut5) cplainK5) cshort5) heardS) enterS) clift5) cmake5) ckinds5) cpinned5) cveil5) cveilF5)
theorem wrap5 : Tryz.f5.isWrapper Tryz.prog Rows.rulingsAboutSpecRow.wrapper Rows.rulingsAboutSpecRow.mainSum:=by unfold Func.isWrapper;first|(rw [if_pos (by decide +kernel)];kernel_rfl)|(rw [if_neg (by decide +kernel)];exact ⟨rfl,rfl⟩)
theorem Lh : Rows.RulingsAboutSpecSaid :=
 OpenClaim.holds_of_wide 5 Tryz.f5 rfl rfl rfl rfl rfl rfl rfl ⟨rfl,rfl,rfl,rfl,rfl⟩ rfl rfl rfl rfl rfl (by kernel_rfl) Tryz.func5 closed5
  (of_decide_eq_true (by kernel_rfl)) wrap5
  (fun os started H enc _ => lifted5 os started H enc)
end Go.Proofs.YtgbamiehiokacaaGreatDoor
