import Derived.Test.YtgbamiehiokacaaGreatDoorKZe0
import Derived.Test.YtgbamiehiokacaaGreatDoorKYz
set_option linter.unusedVariables false
set_option maxRecDepth 100000
namespace Go.Proofs.YtgbamiehiokacaaGreatDoor
open Go Go.ChangeShapes Go.WideShapes Go.RowKit Go.ChangeAt Go.Hw
theorem inPlace11 : (Rows.eligibleMovesRow.inPlace == Tryz.prog.inPlace 11) = true:=by kernel_rfl
theorem Ui : (Rows.eligibleMovesRow.unfollowed == Tryz.prog.unfollowed 11) = true:=by kernel_rfl
theorem Cfa : (Rows.eligibleMovesRow.recurses == Tryz.prog.recurses 11) = true:=by kernel_rfl
theorem named11 : (Rows.eligibleMovesRow.named == Tryz.prog.varsNamed 11) = true:=by kernel_rfl
theorem cwf11 : (Rows.eligibleMovesRow.wf (OpenSpec.ofChange Rows.eligibleMovesSpec)) = true:=by kernel_rfl
theorem cparams11 : (Tryz.f11.params.all (Tryz.prog.readableRec ·)) = true:=by kernel_rfl
theorem ctie11 : (namedTie Tryz.prog Rows.eligibleMovesRow.named Rows.eligibleMovesSpec.vars) = true:=by kernel_rfl
theorem cstop11 : ((Rows.eligibleMovesRow.stops == [])) = true:=by kernel_rfl
theorem cknob11 : ((Rows.eligibleMovesRow.knobs == [])) = true:=by kernel_rfl
theorem cmaps11 : ((Rows.eligibleMovesRow.maps == (Tryz.f11.params.toList ++ Rows.eligibleMovesSpec.plain.varTypes Tryz.prog).any (Tryz.prog.mapsRec ·))) = true:=by kernel_rfl
theorem cifaces11 : ((Rows.eligibleMovesRow.ifaces == (Tryz.f11.params.toList ++ Rows.eligibleMovesSpec.plain.varTypes Tryz.prog).any (Tryz.prog.ifacesRec ·))) = true:=by kernel_rfl
theorem C9a : ((Rows.eligibleMovesRow.mapsOut == Tryz.prog.mapsAmong Tryz.f11.resultTypes.toList)) = true:=by kernel_rfl
theorem cloops11 : ((Rows.eligibleMovesRow.loops == (Tryz.f11.params.toList ++ Rows.eligibleMovesSpec.plain.varTypes Tryz.prog).any (Tryz.prog.loopsFrom ·))) = true:=by kernel_rfl
theorem cwide11 : ((Rows.eligibleMovesRow.wideKeys == (Tryz.f11.params.toList ++ Rows.eligibleMovesSpec.plain.varTypes Tryz.prog ++ Tryz.f11.resultTypes.toList).any (Tryz.prog.wideKeysFrom ·))) = true:=by kernel_rfl
theorem cvars11 : (Rows.eligibleMovesSpec.vars.all (Tryz.prog.varReadable ·)) = true:=by kernel_rfl
theorem cres11 : (Tryz.f11.resultTypes.all (fun t => Tryz.prog.readableRec t && decide (t < Tryz.prog.types.size))) = true:=by kernel_rfl
theorem cifOut11 : ((Rows.eligibleMovesRow.ifacesOut == Tryz.f11.resultTypes.toList.any (Tryz.prog.ifacesRec ·))) = true:=by kernel_rfl
theorem cloOut11 : ((Rows.eligibleMovesRow.loopsOut == Tryz.f11.resultTypes.toList.any (Tryz.prog.loopsFrom ·))) = true:=by kernel_rfl
theorem cplainK11 : ((Rows.eligibleMovesRow.plainKeys == Tryz.prog.plainKeys)) = true:=by kernel_rfl
theorem cshort11 : (Rows.eligibleMovesRow.shortTexts.isNone) = true:=by kernel_rfl
theorem clift11 : ((Rows.eligibleMovesRow.lifted == Tryz.prog.liftsFinal)) = true:=by kernel_rfl
theorem cmake11 : ((Tryz.prog.make == some Rows.eligibleMovesRow.make)) = true:=by kernel_rfl
theorem ckinds11 : ((Rows.eligibleMovesRow.kinds == (if Rows.eligibleMovesRow.domain.isEmpty then [] else Tryz.f11.params.toList.map fun t => match Tryz.prog.underlying t with|some (.int k) => some k|_ => none))) = true:=by kernel_rfl
theorem cpinned11 : ((Rows.eligibleMovesRow.pinned == Rows.eligibleMovesRow.pinnedBy)) = true:=by kernel_rfl
theorem cveil11 : ((Rows.eligibleMovesRow.veiled == (Tryz.f11.params.toList ++ Rows.eligibleMovesSpec.plain.varTypes Tryz.prog ++ Tryz.f11.resultTypes.toList).any (Tryz.prog.veiledRec ·))) = true:=by kernel_rfl
theorem cveilF11 : (Rows.eligibleMovesRow.veiledFits Tryz.prog Tryz.f11.params.toList (Tryz.f11.params.toList ++ Rows.eligibleMovesSpec.plain.varTypes Tryz.prog ++ Tryz.f11.resultTypes.toList)) = true:=by kernel_rfl
theorem closed11 : joinedFacts Tryz.prog 11 Tryz.f11 Rows.eligibleMovesSpec Rows.eligibleMovesRow = true:=by
 unfold joinedFacts
 exact (andB (andB (andB (andB (andB (andB (andB (andB (andB (andB (andB (andB (andB (andB (andB (andB (andB (andB (andB (andB (andB (andB (andB (andB (andB (andB (andB (andB (andB (andB (andB cwf11 Csa) Qq) cparams11) ctie11) cstop11) Qj) cknob11) Qy) inPlace11) Ui) Cfa) named11) cmaps11) cifaces11) C9a) cloops11) cwide11) cvars11) cres11) cifOut11) cloOut11) cplainK11) cshort11) Ra) Rg) clift11) cmake11) ckinds11) cpinned11) cveil11) cveilF11)
theorem wrap11 : Tryz.f11.isWrapper Tryz.prog Rows.eligibleMovesRow.wrapper Rows.eligibleMovesRow.mainSum:=by unfold Func.isWrapper;first|(rw [if_pos (by decide +kernel)];kernel_rfl)|(rw [if_neg (by decide +kernel)];exact ⟨rfl,rfl⟩)
theorem Lo : Rows.EligibleMovesSaid :=
 OpenClaim.holds_of_wide 11 Tryz.f11 rfl rfl rfl rfl rfl rfl rfl ⟨rfl,rfl,rfl,rfl,rfl⟩ rfl rfl rfl rfl rfl (by kernel_rfl) Tryz.func11 closed11
  (of_decide_eq_true (by kernel_rfl)) wrap11
  (fun os started H enc _ => lifted11 os started H enc)
end Go.Proofs.YtgbamiehiokacaaGreatDoor
