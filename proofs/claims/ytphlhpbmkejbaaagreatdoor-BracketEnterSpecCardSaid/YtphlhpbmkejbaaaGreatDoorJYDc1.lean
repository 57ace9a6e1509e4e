import Derived.Test.YtphlhpbmkejbaaaGreatDoorJYDc0
import Derived.Test.YtphlhpbmkejbaaaGreatDoorJYz
set_option linter.unusedSimpArgs false
set_option linter.unusedVariables false
set_option maxRecDepth 100000
namespace Go.Proofs.YtphlhpbmkejbaaaGreatDoor
open Go Go.ChangeShapes Go.WideShapes Go.RowKit Go.ChangeAt Go.Hw
theorem inPlace4 : (Rows.bracketEnterSpecRow.inPlace == Tryz.prog.inPlace 4) = true:=by kernel_rfl
theorem unfollowed4 : (Rows.bracketEnterSpecRow.unfollowed == Tryz.prog.unfollowed 4) = true:=by kernel_rfl
theorem recurses4 : (Rows.bracketEnterSpecRow.recurses == Tryz.prog.recurses 4) = true:=by kernel_rfl
theorem named4 : (Rows.bracketEnterSpecRow.named == Tryz.prog.varsNamed 4) = true:=by kernel_rfl
theorem cwf4 : (Rows.bracketEnterSpecRow.wf (OpenSpec.ofChange Rows.bracketEnterSpecSpec)) = true:=by kernel_rfl
theorem cparams4 : (Tryz.f4.params.all (Tryz.prog.readableRec ·)) = true:=by kernel_rfl
theorem ctie4 : (namedTie Tryz.prog Rows.bracketEnterSpecRow.named Rows.bracketEnterSpecSpec.vars) = true:=by kernel_rfl
theorem cstop4 : ((Rows.bracketEnterSpecRow.stops == [])) = true:=by kernel_rfl
theorem cknob4 : ((Rows.bracketEnterSpecRow.knobs == [])) = true:=by kernel_rfl
theorem cmaps4 : ((Rows.bracketEnterSpecRow.maps == (Tryz.f4.params.toList ++ Rows.bracketEnterSpecSpec.plain.varTypes Tryz.prog).any (Tryz.prog.mapsRec ·))) = true:=by kernel_rfl
theorem cifaces4 : ((Rows.bracketEnterSpecRow.ifaces == (Tryz.f4.params.toList ++ Rows.bracketEnterSpecSpec.plain.varTypes Tryz.prog).any (Tryz.prog.ifacesRec ·))) = true:=by kernel_rfl
theorem cmapsOut4 : ((Rows.bracketEnterSpecRow.mapsOut == Tryz.prog.mapsAmong Tryz.f4.resultTypes.toList)) = true:=by kernel_rfl
theorem cloops4 : ((Rows.bracketEnterSpecRow.loops == (Tryz.f4.params.toList ++ Rows.bracketEnterSpecSpec.plain.varTypes Tryz.prog).any (Tryz.prog.loopsFrom ·))) = true:=by kernel_rfl
theorem cwide4 : ((Rows.bracketEnterSpecRow.wideKeys == (Tryz.f4.params.toList ++ Rows.bracketEnterSpecSpec.plain.varTypes Tryz.prog ++ Tryz.f4.resultTypes.toList).any (Tryz.prog.wideKeysFrom ·))) = true:=by kernel_rfl
theorem cvars4 : (Rows.bracketEnterSpecSpec.vars.all (Tryz.prog.varReadable ·)) = true:=by kernel_rfl
theorem cres4 : (Tryz.f4.resultTypes.all (fun t => Tryz.prog.readableRec t && decide (t < Tryz.prog.types.size))) = true:=by kernel_rfl
theorem cifOut4 : ((Rows.bracketEnterSpecRow.ifacesOut == Tryz.f4.resultTypes.toList.any (Tryz.prog.ifacesRec ·))) = true:=by kernel_rfl
theorem cloOut4 : ((Rows.bracketEnterSpecRow.loopsOut == Tryz.f4.resultTypes.toList.any (Tryz.prog.loopsFrom ·))) = true:=by kernel_rfl
theorem cplainK4 : ((Rows.bracketEnterSpecRow.plainKeys == Tryz.prog.plainKeys)) = true:=by kernel_rfl
theorem cshort4 : (Rows.bracketEnterSpecRow.shortTexts.isNone) = true:=by kernel_rfl
theorem clift4 : ((Rows.bracketEnterSpecRow.lifted == Tryz.prog.liftsFinal)) = true:=by kernel_rfl
theorem cmake4 : ((Tryz.prog.make == some Rows.bracketEnterSpecRow.make)) = true:=by kernel_rfl
theorem ckinds4 : ((Rows.bracketEnterSpecRow.kinds == (if Rows.bracketEnterSpecRow.domain.isEmpty then [] else Tryz.f4.params.toList.map fun t => match Tryz.prog.underlying t with|some (.int k) => some k|_ => none))) = true:=by kernel_rfl
theorem cpinned4 : ((Rows.bracketEnterSpecRow.pinned == Rows.bracketEnterSpecRow.pinnedBy)) = true:=by kernel_rfl
theorem cveil4 : ((Rows.bracketEnterSpecRow.veiled == (Tryz.f4.params.toList ++ Rows.bracketEnterSpecSpec.plain.varTypes Tryz.prog ++ Tryz.f4.resultTypes.toList).any (Tryz.prog.veiledRec ·))) = true:=by kernel_rfl
theorem cveilF4 : (Rows.bracketEnterSpecRow.veiledFits Tryz.prog Tryz.f4.params.toList (Tryz.f4.params.toList ++ Rows.bracketEnterSpecSpec.plain.varTypes Tryz.prog ++ Tryz.f4.resultTypes.toList)) = true:=by kernel_rfl
theorem closed4 : joinedFacts Tryz.prog 4 Tryz.f4 Rows.bracketEnterSpecSpec Rows.bracketEnterSpecRow = true:=by
  unfold joinedFacts
  exact (andB (andB (andB (andB (andB (andB (andB (andB (andB (andB (andB (andB (andB (andB (andB (andB (andB (andB (andB (andB (andB (andB (andB (andB (andB (andB (andB (andB (andB (andB (andB cwf4 laidS) rowedS) cparams4) ctie4) cstop4) stopsS) cknob4) knobsS) inPlace4) unfollowed4) recurses4) named4) cmaps4) cifaces4) cmapsOut4) cloops4) cwide4) cvars4) cres4) cifOut4) cloOut4) cplainK4) cshort4) heardS) enterS) clift4) cmake4) ckinds4) cpinned4) cveil4) cveilF4)
theorem wrap4 : Tryz.f4.isWrapper Tryz.prog Rows.bracketEnterSpecRow.wrapper Rows.bracketEnterSpecRow.mainSum:=by unfold Func.isWrapper;first|(rw [if_pos (by decide +kernel)];kernel_rfl)|(rw [if_neg (by decide +kernel)];exact ⟨rfl,rfl⟩)
theorem enterSpec21_holds_row : Rows.BracketEnterSpecSaid :=
  OpenClaim.holds_of_wide 4 Tryz.f4 rfl rfl rfl rfl rfl rfl rfl ⟨rfl,rfl,rfl,rfl,rfl⟩ rfl rfl rfl rfl rfl (by kernel_rfl) Tryz.func4 closed4
    (of_decide_eq_true (by kernel_rfl)) wrap4
    (fun os started H enc _ => lifted4 os started H enc)
end Go.Proofs.YtphlhpbmkejbaaaGreatDoor
