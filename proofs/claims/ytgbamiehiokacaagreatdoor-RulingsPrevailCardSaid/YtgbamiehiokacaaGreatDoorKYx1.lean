import Derived.Test.YtgbamiehiokacaaGreatDoorKYx0
import Derived.Test.YtgbamiehiokacaaGreatDoorKYz
set_option linter.unusedVariables false
set_option maxRecDepth 100000
namespace Go.Proofs.YtgbamiehiokacaaGreatDoor
open Go Go.ChangeShapes Go.WideShapes Go.RowKit Go.ChangeAt Go.Hw
theorem inPlace6 : (Rows.rulingsPrevailRow.inPlace == Tryz.prog.inPlace 6) = true:=by kernel_rfl
theorem Xl : (Rows.rulingsPrevailRow.unfollowed == Tryz.prog.unfollowed 6) = true:=by kernel_rfl
theorem recurses6 : (Rows.rulingsPrevailRow.recurses == Tryz.prog.recurses 6) = true:=by kernel_rfl
theorem named6 : (Rows.rulingsPrevailRow.named == Tryz.prog.varsNamed 6) = true:=by kernel_rfl
theorem cwf6 : (Rows.rulingsPrevailRow.wf (OpenSpec.ofChange Rows.rulingsPrevailSpec)) = true:=by kernel_rfl
theorem cparams6 : (Tryz.f6.params.all (Tryz.prog.readableRec ·)) = true:=by kernel_rfl
theorem ctie6 : (namedTie Tryz.prog Rows.rulingsPrevailRow.named Rows.rulingsPrevailSpec.vars) = true:=by kernel_rfl
theorem cstop6 : ((Rows.rulingsPrevailRow.stops == [])) = true:=by kernel_rfl
theorem cknob6 : ((Rows.rulingsPrevailRow.knobs == [])) = true:=by kernel_rfl
theorem cmaps6 : ((Rows.rulingsPrevailRow.maps == (Tryz.f6.params.toList ++ Rows.rulingsPrevailSpec.plain.varTypes Tryz.prog).any (Tryz.prog.mapsRec ·))) = true:=by kernel_rfl
theorem cifaces6 : ((Rows.rulingsPrevailRow.ifaces == (Tryz.f6.params.toList ++ Rows.rulingsPrevailSpec.plain.varTypes Tryz.prog).any (Tryz.prog.ifacesRec ·))) = true:=by kernel_rfl
theorem cmapsOut6 : ((Rows.rulingsPrevailRow.mapsOut == Tryz.prog.mapsAmong Tryz.f6.resultTypes.toList)) = true:=by kernel_rfl
theorem cloops6 : ((Rows.rulingsPrevailRow.loops == (Tryz.f6.params.toList ++ Rows.rulingsPrevailSpec.plain.varTypes Tryz.prog).any (Tryz.prog.loopsFrom ·))) = true:=by kernel_rfl
theorem cwide6 : ((Rows.rulingsPrevailRow.wideKeys == (Tryz.f6.params.toList ++ Rows.rulingsPrevailSpec.plain.varTypes Tryz.prog ++ Tryz.f6.resultTypes.toList).any (Tryz.prog.wideKeysFrom ·))) = true:=by kernel_rfl
theorem cvars6 : (Rows.rulingsPrevailSpec.vars.all (Tryz.prog.varReadable ·)) = true:=by kernel_rfl
theorem cres6 : (Tryz.f6.resultTypes.all (fun t => Tryz.prog.readableRec t && decide (t < Tryz.prog.types.size))) = true:=by kernel_rfl
theorem cifOut6 : ((Rows.rulingsPrevailRow.ifacesOut == Tryz.f6.resultTypes.toList.any (Tryz.prog.ifacesRec ·))) = true:=by kernel_rfl
theorem cloOut6 : ((Rows.rulingsPrevailRow.loopsOut == Tryz.f6.resultTypes.toList.any (Tryz.prog.loopsFrom ·))) = true:=by kernel_rfl
theorem cplainK6 : ((Rows.rulingsPrevailRow.plainKeys == Tryz.prog.plainKeys)) = true:=by kernel_rfl
theorem cshort6 : (Rows.rulingsPrevailRow.shortTexts.isNone) = true:=by kernel_rfl
theorem clift6 : ((Rows.rulingsPrevailRow.lifted == Tryz.prog.liftsFinal)) = true:=by kernel_rfl
theorem cmake6 : ((Tryz.prog.make == some Rows.rulingsPrevailRow.make)) = true:=by kernel_rfl
theorem ckinds6 : ((Rows.rulingsPrevailRow.kinds == (if Rows.rulingsPrevailRow.domain.isEmpty then [] else Tryz.f6.params.toList.map fun t => match Tryz.prog.underlying t with|some (.int k) => some k|_ => none))) = true:=by kernel_rfl
theorem cpinned6 : ((Rows.rulingsPrevailRow.pinned == Rows.rulingsPrevailRow.pinnedBy)) = true:=by kernel_rfl
theorem cveil6 : ((Rows.rulingsPrevailRow.veiled == (Tryz.f6.params.toList ++ Rows.rulingsPrevailSpec.plain.varTypes Tryz.prog ++ Tryz.f6.resultTypes.toList).any (Tryz.prog.veiledRec ·))) = true:=by kernel_rfl
theorem cveilF6 : (Rows.rulingsPrevailRow.veiledFits Tryz.prog Tryz.f6.params.toList (Tryz.f6.params.toList ++ Rows.rulingsPrevailSpec.plain.varTypes Tryz.prog ++ Tryz.f6.resultTypes.toList)) = true:=by kernel_rfl
theorem closed6 : joinedFacts Tryz.prog 6 Tryz.f6 Rows.rulingsPrevailSpec Rows.rulingsPrevailRow = true:=by
 unfold joinedFacts
 exact (andB (andB (andB (andB (andB (andB (andB (andB (andB (andB (andB (andB (andB (andB (andB (andB (andB (andB (andB (andB (andB (andB (andB (andB (andB (andB (andB (andB (andB (andB (andB cwf6 Csa) Qq) cparams6) ctie6) cstop6) Qj) cknob6) Qy) inPlace6) Xl) recurses6) named6) cmaps6) cifaces6) cmapsOut6) cloops6) cwide6) cvars6) cres6) cifOut6) cloOut6) cplainK6) cshort6) Ra) Rg) clift6) cmake6) ckinds6) cpinned6) cveil6) cveilF6)
theorem wrap6 : Tryz.f6.isWrapper Tryz.prog Rows.rulingsPrevailRow.wrapper Rows.rulingsPrevailRow.mainSum:=by unfold Func.isWrapper;first|(rw [if_pos (by decide +kernel)];kernel_rfl)|(rw [if_neg (by decide +kernel)];exact ⟨rfl,rfl⟩)
theorem Jo : Rows.RulingsPrevailSaid :=
 OpenClaim.holds_of_wide 6 Tryz.f6 rfl rfl rfl rfl rfl rfl rfl ⟨rfl,rfl,rfl,rfl,rfl⟩ rfl rfl rfl rfl rfl (by kernel_rfl) Tryz.func6 closed6
  (of_decide_eq_true (by kernel_rfl)) wrap6
  (fun os started H enc _ => lifted6 os started H enc)
end Go.Proofs.YtgbamiehiokacaaGreatDoor
