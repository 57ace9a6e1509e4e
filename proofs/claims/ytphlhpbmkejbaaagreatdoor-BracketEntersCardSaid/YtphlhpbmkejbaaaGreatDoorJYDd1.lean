import Derived.Test.YtphlhpbmkejbaaaGreatDoorJYDd0
import Derived.Test.YtphlhpbmkejbaaaGreatDoorJYz
set_option linter.unusedSimpArgs false
set_option linter.unusedVariables false
set_option maxRecDepth 100000
namespace Go.Proofs.YtphlhpbmkejbaaaGreatDoor
open Go Go.ChangeShapes Go.WideShapes Go.RowKit Go.ChangeAt Go.Hw
theorem inPlace6 : (Rows.bracketEntersRow.inPlace == Tryz.prog.inPlace 6) = true:=by kernel_rfl
theorem unfollowed6 : (Rows.bracketEntersRow.unfollowed == Tryz.prog.unfollowed 6) = true:=by kernel_rfl
theorem recurses6 : (Rows.bracketEntersRow.recurses == Tryz.prog.recurses 6) = true:=by kernel_rfl
theorem named6 : (Rows.bracketEntersRow.named == Tryz.prog.varsNamed 6) = true:=by kernel_rfl
theorem cwf6 : (Rows.bracketEntersRow.wf (OpenSpec.ofChange Rows.bracketEntersSpec)) = true:=by kernel_rfl
theorem cparams6 : (Tryz.f6.params.all (Tryz.prog.readableRec ·)) = true:=by kernel_rfl
theorem ctie6 : (namedTie Tryz.prog Rows.bracketEntersRow.named Rows.bracketEntersSpec.vars) = true:=by kernel_rfl
theorem cstop6 : ((Rows.bracketEntersRow.stops == [])) = true:=by kernel_rfl
theorem cknob6 : ((Rows.bracketEntersRow.knobs == [])) = true:=by kernel_rfl
theorem cmaps6 : ((Rows.bracketEntersRow.maps == (Tryz.f6.params.toList ++ Rows.bracketEntersSpec.plain.varTypes Tryz.prog).any (Tryz.prog.mapsRec ·))) = true:=by kernel_rfl
theorem cifaces6 : ((Rows.bracketEntersRow.ifaces == (Tryz.f6.params.toList ++ Rows.bracketEntersSpec.plain.varTypes Tryz.prog).any (Tryz.prog.ifacesRec ·))) = true:=by kernel_rfl
theorem cmapsOut6 : ((Rows.bracketEntersRow.mapsOut == Tryz.prog.mapsAmong Tryz.f6.resultTypes.toList)) = true:=by kernel_rfl
theorem cloops6 : ((Rows.bracketEntersRow.loops == (Tryz.f6.params.toList ++ Rows.bracketEntersSpec.plain.varTypes Tryz.prog).any (Tryz.prog.loopsFrom ·))) = true:=by kernel_rfl
theorem cwide6 : ((Rows.bracketEntersRow.wideKeys == (Tryz.f6.params.toList ++ Rows.bracketEntersSpec.plain.varTypes Tryz.prog ++ Tryz.f6.resultTypes.toList).any (Tryz.prog.wideKeysFrom ·))) = true:=by kernel_rfl
theorem cvars6 : (Rows.bracketEntersSpec.vars.all (Tryz.prog.varReadable ·)) = true:=by kernel_rfl
theorem cres6 : (Tryz.f6.resultTypes.all (fun t => Tryz.prog.readableRec t && decide (t < Tryz.prog.types.size))) = true:=by kernel_rfl
theorem cifOut6 : ((Rows.bracketEntersRow.ifacesOut == Tryz.f6.resultTypes.toList.any (Tryz.prog.ifacesRec ·))) = true:=by kernel_rfl
theorem cloOut6 : ((Rows.bracketEntersRow.loopsOut == Tryz.f6.resultTypes.toList.any (Tryz.prog.loopsFrom ·))) = true:=by kernel_rfl
theorem cplainK6 : ((Rows.bracketEntersRow.plainKeys == Tryz.prog.plainKeys)) = true:=by kernel_rfl
theorem cshort6 : (Rows.bracketEntersRow.shortTexts.isNone) = true:=by kernel_rfl
theorem clift6 : ((Rows.bracketEntersRow.lifted == Tryz.prog.liftsFinal)) = true:=by kernel_rfl
theorem cmake6 : ((Tryz.prog.make == some Rows.bracketEntersRow.make)) = true:=by kernel_rfl
theorem ckinds6 : ((Rows.bracketEntersRow.kinds == (if Rows.bracketEntersRow.domain.isEmpty then [] else Tryz.f6.params.toList.map fun t => match Tryz.prog.underlying t with|some (.int k) => some k|_ => none))) = true:=by kernel_rfl
theorem cpinned6 : ((Rows.bracketEntersRow.pinned == Rows.bracketEntersRow.pinnedBy)) = true:=by kernel_rfl
theorem cveil6 : ((Rows.bracketEntersRow.veiled == (Tryz.f6.params.toList ++ Rows.bracketEntersSpec.plain.varTypes Tryz.prog ++ Tryz.f6.resultTypes.toList).any (Tryz.prog.veiledRec ·))) = true:=by kernel_rfl
theorem cveilF6 : (Rows.bracketEntersRow.veiledFits Tryz.prog Tryz.f6.params.toList (Tryz.f6.params.toList ++ Rows.bracketEntersSpec.plain.varTypes Tryz.prog ++ Tryz.f6.resultTypes.toList)) = true:=by kernel_rfl
theorem closed6 : joinedFacts Tryz.prog 6 Tryz.f6 Rows.bracketEntersSpec Rows.bracketEntersRow = true:=by
  unfold joinedFacts
  exact (andB (andB (andB (andB (andB (andB (andB (andB (andB (andB (andB (andB (andB (andB (andB (andB (andB (andB (andB (andB (andB (andB (andB (andB (andB (andB (andB (andB (andB (andB (andB cwf6 laidS) rowedS) cparams6) ctie6) cstop6) stopsS) cknob6) knobsS) inPlace6) unfollowed6) recurses6) named6) cmaps6) cifaces6) cmapsOut6) cloops6) cwide6) cvars6) cres6) cifOut6) cloOut6) cplainK6) cshort6) heardS) enterS) clift6) cmake6) ckinds6) cpinned6) cveil6) cveilF6)
theorem wrap6 : Tryz.f6.isWrapper Tryz.prog Rows.bracketEntersRow.wrapper Rows.bracketEntersRow.mainSum:=by unfold Func.isWrapper;first|(rw [if_pos (by decide +kernel)];kernel_rfl)|(rw [if_neg (by decide +kernel)];exact ⟨rfl,rfl⟩)
theorem enters_holds_row : Rows.BracketEntersSaid :=
  OpenClaim.holds_of_wide 6 Tryz.f6 rfl rfl rfl rfl rfl rfl rfl ⟨rfl,rfl,rfl,rfl,rfl⟩ rfl rfl rfl rfl rfl (by kernel_rfl) Tryz.func6 closed6
    (of_decide_eq_true (by kernel_rfl)) wrap6
    (fun os started H enc _ => lifted6 os started H enc)
end Go.Proofs.YtphlhpbmkejbaaaGreatDoor
