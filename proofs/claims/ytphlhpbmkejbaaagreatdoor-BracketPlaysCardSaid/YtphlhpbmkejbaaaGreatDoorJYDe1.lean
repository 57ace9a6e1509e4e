import Derived.Test.YtphlhpbmkejbaaaGreatDoorJYDe0
import Derived.Test.YtphlhpbmkejbaaaGreatDoorJYz
set_option linter.unusedSimpArgs false
set_option linter.unusedVariables false
set_option maxRecDepth 100000
namespace Go.Proofs.YtphlhpbmkejbaaaGreatDoor
open Go Go.ChangeShapes Go.WideShapes Go.RowKit Go.ChangeAt Go.Hw
theorem inPlace5 : (Rows.bracketPlaysRow.inPlace == Tryz.prog.inPlace 5) = true:=by kernel_rfl
theorem unfollowed5 : (Rows.bracketPlaysRow.unfollowed == Tryz.prog.unfollowed 5) = true:=by kernel_rfl
theorem recurses5 : (Rows.bracketPlaysRow.recurses == Tryz.prog.recurses 5) = true:=by kernel_rfl
theorem named5 : (Rows.bracketPlaysRow.named == Tryz.prog.varsNamed 5) = true:=by kernel_rfl
theorem cwf5 : (Rows.bracketPlaysRow.wf (OpenSpec.ofChange Rows.bracketPlaysSpec)) = true:=by kernel_rfl
theorem cparams5 : (Tryz.f5.params.all (Tryz.prog.readableRec ·)) = true:=by kernel_rfl
theorem ctie5 : (namedTie Tryz.prog Rows.bracketPlaysRow.named Rows.bracketPlaysSpec.vars) = true:=by kernel_rfl
theorem cstop5 : ((Rows.bracketPlaysRow.stops == [])) = true:=by kernel_rfl
theorem cknob5 : ((Rows.bracketPlaysRow.knobs == [])) = true:=by kernel_rfl
theorem cmaps5 : ((Rows.bracketPlaysRow.maps == (Tryz.f5.params.toList ++ Rows.bracketPlaysSpec.plain.varTypes Tryz.prog).any (Tryz.prog.mapsRec ·))) = true:=by kernel_rfl
theorem cifaces5 : ((Rows.bracketPlaysRow.ifaces == (Tryz.f5.params.toList ++ Rows.bracketPlaysSpec.plain.varTypes Tryz.prog).any (Tryz.prog.ifacesRec ·))) = true:=by kernel_rfl
theorem cmapsOut5 : ((Rows.bracketPlaysRow.mapsOut == Tryz.prog.mapsAmong Tryz.f5.resultTypes.toList)) = true:=by kernel_rfl
theorem cloops5 : ((Rows.bracketPlaysRow.loops == (Tryz.f5.params.toList ++ Rows.bracketPlaysSpec.plain.varTypes Tryz.prog).any (Tryz.prog.loopsFrom ·))) = true:=by kernel_rfl
theorem cwide5 : ((Rows.bracketPlaysRow.wideKeys == (Tryz.f5.params.toList ++ Rows.bracketPlaysSpec.plain.varTypes Tryz.prog ++ Tryz.f5.resultTypes.toList).any (Tryz.prog.wideKeysFrom ·))) = true:=by kernel_rfl
theorem cvars5 : (Rows.bracketPlaysSpec.vars.all (Tryz.prog.varReadable ·)) = true:=by kernel_rfl
theorem cres5 : (Tryz.f5.resultTypes.all (fun t => Tryz.prog.readableRec t && decide (t < Tryz.prog.types.size))) = true:=by kernel_rfl
theorem cifOut5 : ((Rows.bracketPlaysRow.ifacesOut == Tryz.f5.resultTypes.toList.any (Tryz.prog.ifacesRec ·))) = true:=by kernel_rfl
theorem cloOut5 : ((Rows.bracketPlaysRow.loopsOut == Tryz.f5.resultTypes.toList.any (Tryz.prog.loopsFrom ·))) = true:=by kernel_rfl
theorem cplainK5 : ((Rows.bracketPlaysRow.plainKeys == Tryz.prog.plainKeys)) = true:=by kernel_rfl
theorem cshort5 : (Rows.bracketPlaysRow.shortTexts.isNone) = true:=by kernel_rfl
theorem clift5 : ((Rows.bracketPlaysRow.lifted == Tryz.prog.liftsFinal)) = true:=by kernel_rfl
theorem cmake5 : ((Tryz.prog.make == some Rows.bracketPlaysRow.make)) = true:=by kernel_rfl
theorem ckinds5 : ((Rows.bracketPlaysRow.kinds == (if Rows.bracketPlaysRow.domain.isEmpty then [] else Tryz.f5.params.toList.map fun t => match Tryz.prog.underlying t with|some (.int k) => some k|_ => none))) = true:=by kernel_rfl
theorem cpinned5 : ((Rows.bracketPlaysRow.pinned == Rows.bracketPlaysRow.pinnedBy)) = true:=by kernel_rfl
theorem cveil5 : ((Rows.bracketPlaysRow.veiled == (Tryz.f5.params.toList ++ Rows.bracketPlaysSpec.plain.varTypes Tryz.prog ++ Tryz.f5.resultTypes.toList).any (Tryz.prog.veiledRec ·))) = true:=by kernel_rfl
theorem cveilF5 : (Rows.bracketPlaysRow.veiledFits Tryz.prog Tryz.f5.params.toList (Tryz.f5.params.toList ++ Rows.bracketPlaysSpec.plain.varTypes Tryz.prog ++ Tryz.f5.resultTypes.toList)) = true:=by kernel_rfl
theorem closed5 : joinedFacts Tryz.prog 5 Tryz.f5 Rows.bracketPlaysSpec Rows.bracketPlaysRow = true:=by
  unfold joinedFacts
  exact (andB (andB (andB (andB (andB (andB (andB (andB (andB (andB (andB (andB (andB (andB (andB (andB (andB (andB (andB (andB (andB (andB (andB (andB (andB (andB (andB (andB (andB (andB (andB cwf5 laidS) rowedS) cparams5) ctie5) cstop5) stopsS) cknob5) knobsS) inPlace5) unfollowed5) recurses5) named5) cmaps5) cifaces5) cmapsOut5) cloops5) cwide5) cvars5) cres5) cifOut5) cloOut5) cplainK5) cshort5) heardS) enterS) clift5) cmake5) ckinds5) cpinned5) cveil5) cveilF5)
theorem wrap5 : Tryz.f5.isWrapper Tryz.prog Rows.bracketPlaysRow.wrapper Rows.bracketPlaysRow.mainSum:=by unfold Func.isWrapper;first|(rw [if_pos (by decide +kernel)];kernel_rfl)|(rw [if_neg (by decide +kernel)];exact ⟨rfl,rfl⟩)
theorem plays_holds_row : Rows.BracketPlaysSaid :=
  OpenClaim.holds_of_wide 5 Tryz.f5 rfl rfl rfl rfl rfl rfl rfl ⟨rfl,rfl,rfl,rfl,rfl⟩ rfl rfl rfl rfl rfl (by kernel_rfl) Tryz.func5 closed5
    (of_decide_eq_true (by kernel_rfl)) wrap5
    (fun os started H enc _ => lifted5 os started H enc)
end Go.Proofs.YtphlhpbmkejbaaaGreatDoor
