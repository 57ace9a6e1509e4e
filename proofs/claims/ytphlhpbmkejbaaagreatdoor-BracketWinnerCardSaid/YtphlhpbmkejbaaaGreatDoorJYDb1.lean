import Derived.Test.YtphlhpbmkejbaaaGreatDoorJYDb0
import Derived.Test.YtphlhpbmkejbaaaGreatDoorJYz
set_option linter.unusedSimpArgs false
set_option linter.unusedVariables false
set_option maxRecDepth 100000
namespace Go.Proofs.YtphlhpbmkejbaaaGreatDoor
open Go Go.ChangeShapes Go.WideShapes Go.RowKit Go.ChangeAt Go.Hw
theorem inPlace7 : (Rows.bracketWinnerRow.inPlace == Tryz.prog.inPlace 7) = true:=by kernel_rfl
theorem unfollowed7 : (Rows.bracketWinnerRow.unfollowed == Tryz.prog.unfollowed 7) = true:=by kernel_rfl
theorem recurses7 : (Rows.bracketWinnerRow.recurses == Tryz.prog.recurses 7) = true:=by kernel_rfl
theorem named7 : (Rows.bracketWinnerRow.named == Tryz.prog.varsNamed 7) = true:=by kernel_rfl
theorem cwf7 : (Rows.bracketWinnerRow.wf (OpenSpec.ofChange Rows.bracketWinnerSpec)) = true:=by kernel_rfl
theorem cparams7 : (Tryz.f7.params.all (Tryz.prog.readableRec ·)) = true:=by kernel_rfl
theorem ctie7 : (namedTie Tryz.prog Rows.bracketWinnerRow.named Rows.bracketWinnerSpec.vars) = true:=by kernel_rfl
theorem cstop7 : ((Rows.bracketWinnerRow.stops == [])) = true:=by kernel_rfl
theorem cknob7 : ((Rows.bracketWinnerRow.knobs == [])) = true:=by kernel_rfl
theorem cmaps7 : ((Rows.bracketWinnerRow.maps == (Tryz.f7.params.toList ++ Rows.bracketWinnerSpec.plain.varTypes Tryz.prog).any (Tryz.prog.mapsRec ·))) = true:=by kernel_rfl
theorem cifaces7 : ((Rows.bracketWinnerRow.ifaces == (Tryz.f7.params.toList ++ Rows.bracketWinnerSpec.plain.varTypes Tryz.prog).any (Tryz.prog.ifacesRec ·))) = true:=by kernel_rfl
theorem cmapsOut7 : ((Rows.bracketWinnerRow.mapsOut == Tryz.prog.mapsAmong Tryz.f7.resultTypes.toList)) = true:=by kernel_rfl
theorem cloops7 : ((Rows.bracketWinnerRow.loops == (Tryz.f7.params.toList ++ Rows.bracketWinnerSpec.plain.varTypes Tryz.prog).any (Tryz.prog.loopsFrom ·))) = true:=by kernel_rfl
theorem cwide7 : ((Rows.bracketWinnerRow.wideKeys == (Tryz.f7.params.toList ++ Rows.bracketWinnerSpec.plain.varTypes Tryz.prog ++ Tryz.f7.resultTypes.toList).any (Tryz.prog.wideKeysFrom ·))) = true:=by kernel_rfl
theorem cvars7 : (Rows.bracketWinnerSpec.vars.all (Tryz.prog.varReadable ·)) = true:=by kernel_rfl
theorem cres7 : (Tryz.f7.resultTypes.all (fun t => Tryz.prog.readableRec t && decide (t < Tryz.prog.types.size))) = true:=by kernel_rfl
theorem cifOut7 : ((Rows.bracketWinnerRow.ifacesOut == Tryz.f7.resultTypes.toList.any (Tryz.prog.ifacesRec ·))) = true:=by kernel_rfl
theorem cloOut7 : ((Rows.bracketWinnerRow.loopsOut == Tryz.f7.resultTypes.toList.any (Tryz.prog.loopsFrom ·))) = true:=by kernel_rfl
theorem cplainK7 : ((Rows.bracketWinnerRow.plainKeys == Tryz.prog.plainKeys)) = true:=by kernel_rfl
theorem cshort7 : (Rows.bracketWinnerRow.shortTexts.isNone) = true:=by kernel_rfl
theorem clift7 : ((Rows.bracketWinnerRow.lifted == Tryz.prog.liftsFinal)) = true:=by kernel_rfl
theorem cmake7 : ((Tryz.prog.make == some Rows.bracketWinnerRow.make)) = true:=by kernel_rfl
theorem ckinds7 : ((Rows.bracketWinnerRow.kinds == (if Rows.bracketWinnerRow.domain.isEmpty then [] else Tryz.f7.params.toList.map fun t => match Tryz.prog.underlying t with|some (.int k) => some k|_ => none))) = true:=by kernel_rfl
theorem cpinned7 : ((Rows.bracketWinnerRow.pinned == Rows.bracketWinnerRow.pinnedBy)) = true:=by kernel_rfl
theorem cveil7 : ((Rows.bracketWinnerRow.veiled == (Tryz.f7.params.toList ++ Rows.bracketWinnerSpec.plain.varTypes Tryz.prog ++ Tryz.f7.resultTypes.toList).any (Tryz.prog.veiledRec ·))) = true:=by kernel_rfl
theorem cveilF7 : (Rows.bracketWinnerRow.veiledFits Tryz.prog Tryz.f7.params.toList (Tryz.f7.params.toList ++ Rows.bracketWinnerSpec.plain.varTypes Tryz.prog ++ Tryz.f7.resultTypes.toList)) = true:=by kernel_rfl
theorem closed7 : joinedFacts Tryz.prog 7 Tryz.f7 Rows.bracketWinnerSpec Rows.bracketWinnerRow = true:=by
  unfold joinedFacts
  exact (andB (andB (andB (andB (andB (andB (andB (andB (andB (andB (andB (andB (andB (andB (andB (andB (andB (andB (andB (andB (andB (andB (andB (andB (andB (andB (andB (andB (andB (andB (andB cwf7 laidS) rowedS) cparams7) ctie7) cstop7) stopsS) cknob7) knobsS) inPlace7) unfollowed7) recurses7) named7) cmaps7) cifaces7) cmapsOut7) cloops7) cwide7) cvars7) cres7) cifOut7) cloOut7) cplainK7) cshort7) heardS) enterS) clift7) cmake7) ckinds7) cpinned7) cveil7) cveilF7)
theorem wrap7 : Tryz.f7.isWrapper Tryz.prog Rows.bracketWinnerRow.wrapper Rows.bracketWinnerRow.mainSum:=by unfold Func.isWrapper;first|(rw [if_pos (by decide +kernel)];kernel_rfl)|(rw [if_neg (by decide +kernel)];exact ⟨rfl,rfl⟩)
theorem winner_holds_row : Rows.BracketWinnerSaid :=
  OpenClaim.holds_of_wide 7 Tryz.f7 rfl rfl rfl rfl rfl rfl rfl ⟨rfl,rfl,rfl,rfl,rfl⟩ rfl rfl rfl rfl rfl (by kernel_rfl) Tryz.func7 closed7
    (of_decide_eq_true (by kernel_rfl)) wrap7
    (fun os started H enc _ => lifted7 os started H enc)
end Go.Proofs.YtphlhpbmkejbaaaGreatDoor
