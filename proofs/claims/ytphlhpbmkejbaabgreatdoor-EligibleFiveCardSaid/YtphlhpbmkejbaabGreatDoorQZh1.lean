import Derived.Test.YtphlhpbmkejbaabGreatDoorQZh0
import Derived.Test.YtphlhpbmkejbaabGreatDoorQYzv
set_option linter.unusedSimpArgs false
set_option linter.unusedVariables false
set_option maxRecDepth 100000
namespace Go.Proofs.YtphlhpbmkejbaabGreatDoor
open Go Go.ChangeShapes Go.WideShapes Go.RowKit Go.ChangeAt Go.Hw
theorem inPlace3 : (Rows.eligibleFiveRow.inPlace == Tryz.prog.inPlace 3) = true:=by kernel_rfl
theorem unfollowed3 : (Rows.eligibleFiveRow.unfollowed == Tryz.prog.unfollowed 3) = true:=by kernel_rfl
theorem recurses3 : (Rows.eligibleFiveRow.recurses == Tryz.prog.recurses 3) = true:=by kernel_rfl
theorem named3 : (Rows.eligibleFiveRow.named == Tryz.prog.varsNamed 3) = true:=by kernel_rfl
theorem cwf3 : (Rows.eligibleFiveRow.wf (OpenSpec.ofChange Rows.eligibleFiveSpec)) = true:=by kernel_rfl
theorem cparams3 : (Tryz.f3.params.all (Tryz.prog.readableRec ·)) = true:=by kernel_rfl
theorem ctie3 : (namedTie Tryz.prog Rows.eligibleFiveRow.named Rows.eligibleFiveSpec.vars) = true:=by kernel_rfl
theorem cstop3 : ((Rows.eligibleFiveRow.stops == [])) = true:=by kernel_rfl
theorem cknob3 : ((Rows.eligibleFiveRow.knobs == [])) = true:=by kernel_rfl
theorem cmaps3 : ((Rows.eligibleFiveRow.maps == (Tryz.f3.params.toList ++ Rows.eligibleFiveSpec.plain.varTypes Tryz.prog).any (Tryz.prog.mapsRec ·))) = true:=by kernel_rfl
theorem cifaces3 : ((Rows.eligibleFiveRow.ifaces == (Tryz.f3.params.toList ++ Rows.eligibleFiveSpec.plain.varTypes Tryz.prog).any (Tryz.prog.ifacesRec ·))) = true:=by kernel_rfl
theorem cmapsOut3 : ((Rows.eligibleFiveRow.mapsOut == Tryz.prog.mapsAmong Tryz.f3.resultTypes.toList)) = true:=by kernel_rfl
theorem cloops3 : ((Rows.eligibleFiveRow.loops == (Tryz.f3.params.toList ++ Rows.eligibleFiveSpec.plain.varTypes Tryz.prog).any (Tryz.prog.loopsFrom ·))) = true:=by kernel_rfl
theorem cwide3 : ((Rows.eligibleFiveRow.wideKeys == (Tryz.f3.params.toList ++ Rows.eligibleFiveSpec.plain.varTypes Tryz.prog ++ Tryz.f3.resultTypes.toList).any (Tryz.prog.wideKeysFrom ·))) = true:=by kernel_rfl
theorem cvars3 : (Rows.eligibleFiveSpec.vars.all (Tryz.prog.varReadable ·)) = true:=by kernel_rfl
theorem cres3 : (Tryz.f3.resultTypes.all (fun t => Tryz.prog.readableRec t && decide (t < Tryz.prog.types.size))) = true:=by kernel_rfl
theorem cifOut3 : ((Rows.eligibleFiveRow.ifacesOut == Tryz.f3.resultTypes.toList.any (Tryz.prog.ifacesRec ·))) = true:=by kernel_rfl
theorem cloOut3 : ((Rows.eligibleFiveRow.loopsOut == Tryz.f3.resultTypes.toList.any (Tryz.prog.loopsFrom ·))) = true:=by kernel_rfl
theorem cplainK3 : ((Rows.eligibleFiveRow.plainKeys == Tryz.prog.plainKeys)) = true:=by kernel_rfl
theorem cshort3 : (Rows.eligibleFiveRow.shortTexts.isNone) = true:=by kernel_rfl
theorem clift3 : ((Rows.eligibleFiveRow.lifted == Tryz.prog.liftsFinal)) = true:=by kernel_rfl
theorem cmake3 : ((Tryz.prog.make == some Rows.eligibleFiveRow.make)) = true:=by kernel_rfl
theorem ckinds3 : ((Rows.eligibleFiveRow.kinds == (if Rows.eligibleFiveRow.domain.isEmpty then [] else Tryz.f3.params.toList.map fun t => match Tryz.prog.underlying t with|some (.int k) => some k|_ => none))) = true:=by kernel_rfl
theorem cpinned3 : ((Rows.eligibleFiveRow.pinned == Rows.eligibleFiveRow.pinnedBy)) = true:=by kernel_rfl
theorem cveil3 : ((Rows.eligibleFiveRow.veiled == (Tryz.f3.params.toList ++ Rows.eligibleFiveSpec.plain.varTypes Tryz.prog ++ Tryz.f3.resultTypes.toList).any (Tryz.prog.veiledRec ·))) = true:=by kernel_rfl
theorem cveilF3 : (Rows.eligibleFiveRow.veiledFits Tryz.prog Tryz.f3.params.toList (Tryz.f3.params.toList ++ Rows.eligibleFiveSpec.plain.varTypes Tryz.prog ++ Tryz.f3.resultTypes.toList)) = true:=by kernel_rfl
theorem closed3 : joinedFacts Tryz.prog 3 Tryz.f3 Rows.eligibleFiveSpec Rows.eligibleFiveRow = true:=by
  unfold joinedFacts
  exact (andB (andB (andB (andB (andB (andB (andB (andB (andB (andB (andB (andB (andB (andB (andB (andB (andB (andB (andB (andB (andB (andB (andB (andB (andB (andB (andB (andB (andB (andB (andB cwf3 laidS) rowedS) cparams3) ctie3) cstop3) stopsS) cknob3) knobsS) inPlace3) unfollowed3) recurses3) named3) cmaps3) cifaces3) cmapsOut3) cloops3) cwide3) cvars3) cres3) cifOut3) cloOut3) cplainK3) cshort3) heardS) enterS) clift3) cmake3) ckinds3) cpinned3) cveil3) cveilF3)
theorem wrap3 : Tryz.f3.isWrapper Tryz.prog Rows.eligibleFiveRow.wrapper Rows.eligibleFiveRow.mainSum:=by unfold Func.isWrapper;first|(rw [if_pos (by decide +kernel)];kernel_rfl)|(rw [if_neg (by decide +kernel)];exact ⟨rfl,rfl⟩)
theorem five11_holds_row : Rows.EligibleFiveSaid :=
  OpenClaim.holds_of_wide 3 Tryz.f3 rfl rfl rfl rfl rfl rfl rfl ⟨rfl,rfl,rfl,rfl,rfl⟩ rfl rfl rfl rfl rfl (by kernel_rfl) Tryz.func3 closed3
    (of_decide_eq_true (by kernel_rfl)) wrap3
    (fun os started H enc _ => lifted3 os started H enc)
end Go.Proofs.YtphlhpbmkejbaabGreatDoor
