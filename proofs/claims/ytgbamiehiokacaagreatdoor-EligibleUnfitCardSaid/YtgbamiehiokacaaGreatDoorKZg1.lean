import Derived.Test.YtgbamiehiokacaaGreatDoorKZg0
import Derived.Test.YtgbamiehiokacaaGreatDoorKYz
set_option linter.unusedVariables false
set_option maxRecDepth 100000
namespace Go.Proofs.YtgbamiehiokacaaGreatDoor
open Go Go.ChangeShapes Go.WideShapes Go.RowKit Go.ChangeAt Go.Hw
theorem inPlace13 : (Rows.eligibleUnfitRow.inPlace == Tryz.prog.inPlace 13) = true:=by kernel_rfl
theorem Ug : (Rows.eligibleUnfitRow.unfollowed == Tryz.prog.unfollowed 13) = true:=by kernel_rfl
theorem Cda : (Rows.eligibleUnfitRow.recurses == Tryz.prog.recurses 13) = true:=by kernel_rfl
theorem named13 : (Rows.eligibleUnfitRow.named == Tryz.prog.varsNamed 13) = true:=by kernel_rfl
theorem cwf13 : (Rows.eligibleUnfitRow.wf (OpenSpec.ofChange Rows.eligibleUnfitSpec)) = true:=by kernel_rfl
theorem cparams13 : (Tryz.f13.params.all (Tryz.prog.readableRec ·)) = true:=by kernel_rfl
theorem ctie13 : (namedTie Tryz.prog Rows.eligibleUnfitRow.named Rows.eligibleUnfitSpec.vars) = true:=by kernel_rfl
theorem cstop13 : ((Rows.eligibleUnfitRow.stops == [])) = true:=by kernel_rfl
theorem cknob13 : ((Rows.eligibleUnfitRow.knobs == [])) = true:=by kernel_rfl
theorem cmaps13 : ((Rows.eligibleUnfitRow.maps == (Tryz.f13.params.toList ++ Rows.eligibleUnfitSpec.plain.varTypes Tryz.prog).any (Tryz.prog.mapsRec ·))) = true:=by kernel_rfl
theorem cifaces13 : ((Rows.eligibleUnfitRow.ifaces == (Tryz.f13.params.toList ++ Rows.eligibleUnfitSpec.plain.varTypes Tryz.prog).any (Tryz.prog.ifacesRec ·))) = true:=by kernel_rfl
theorem C7a : ((Rows.eligibleUnfitRow.mapsOut == Tryz.prog.mapsAmong Tryz.f13.resultTypes.toList)) = true:=by kernel_rfl
theorem cloops13 : ((Rows.eligibleUnfitRow.loops == (Tryz.f13.params.toList ++ Rows.eligibleUnfitSpec.plain.varTypes Tryz.prog).any (Tryz.prog.loopsFrom ·))) = true:=by kernel_rfl
theorem cwide13 : ((Rows.eligibleUnfitRow.wideKeys == (Tryz.f13.params.toList ++ Rows.eligibleUnfitSpec.plain.varTypes Tryz.prog ++ Tryz.f13.resultTypes.toList).any (Tryz.prog.wideKeysFrom ·))) = true:=by kernel_rfl
theorem cvars13 : (Rows.eligibleUnfitSpec.vars.all (Tryz.prog.varReadable ·)) = true:=by kernel_rfl
theorem cres13 : (Tryz.f13.resultTypes.all (fun t => Tryz.prog.readableRec t && decide (t < Tryz.prog.types.size))) = true:=by kernel_rfl
theorem cifOut13 : ((Rows.eligibleUnfitRow.ifacesOut == Tryz.f13.resultTypes.toList.any (Tryz.prog.ifacesRec ·))) = true:=by kernel_rfl
theorem cloOut13 : ((Rows.eligibleUnfitRow.loopsOut == Tryz.f13.resultTypes.toList.any (Tryz.prog.loopsFrom ·))) = true:=by kernel_rfl
theorem cplainK13 : ((Rows.eligibleUnfitRow.plainKeys == Tryz.prog.plainKeys)) = true:=by kernel_rfl
theorem cshort13 : (Rows.eligibleUnfitRow.shortTexts.isNone) = true:=by kernel_rfl
theorem clift13 : ((Rows.eligibleUnfitRow.lifted == Tryz.prog.liftsFinal)) = true:=by kernel_rfl
theorem cmake13 : ((Tryz.prog.make == some Rows.eligibleUnfitRow.make)) = true:=by kernel_rfl
theorem ckinds13 : ((Rows.eligibleUnfitRow.kinds == (if Rows.eligibleUnfitRow.domain.isEmpty then [] else Tryz.f13.params.toList.map fun t => match Tryz.prog.underlying t with|some (.int k) => some k|_ => none))) = true:=by kernel_rfl
theorem cpinned13 : ((Rows.eligibleUnfitRow.pinned == Rows.eligibleUnfitRow.pinnedBy)) = true:=by kernel_rfl
theorem cveil13 : ((Rows.eligibleUnfitRow.veiled == (Tryz.f13.params.toList ++ Rows.eligibleUnfitSpec.plain.varTypes Tryz.prog ++ Tryz.f13.resultTypes.toList).any (Tryz.prog.veiledRec ·))) = true:=by kernel_rfl
theorem cveilF13 : (Rows.eligibleUnfitRow.veiledFits Tryz.prog Tryz.f13.params.toList (Tryz.f13.params.toList ++ Rows.eligibleUnfitSpec.plain.varTypes Tryz.prog ++ Tryz.f13.resultTypes.toList)) = true:=by kernel_rfl
theorem closed13 : joinedFacts Tryz.prog 13 Tryz.f13 Rows.eligibleUnfitSpec Rows.eligibleUnfitRow = true:=by
 unfold joinedFacts
 exact (andB (andB (andB (andB (andB (andB (andB (andB (andB (andB (andB (andB (andB (andB (andB (andB (andB (andB (andB (andB (andB (andB (andB (andB (andB (andB (andB (andB (andB (andB (andB cwf13 Csa) Qq) cparams13) ctie13) cstop13) Qj) cknob13) Qy) inPlace13) Ug) Cda) named13) cmaps13) cifaces13) C7a) cloops13) cwide13) cvars13) cres13) cifOut13) cloOut13) cplainK13) cshort13) Ra) Rg) clift13) cmake13) ckinds13) cpinned13) cveil13) cveilF13)
theorem wrap13 : Tryz.f13.isWrapper Tryz.prog Rows.eligibleUnfitRow.wrapper Rows.eligibleUnfitRow.mainSum:=by unfold Func.isWrapper;first|(rw [if_pos (by decide +kernel)];kernel_rfl)|(rw [if_neg (by decide +kernel)];exact ⟨rfl,rfl⟩)
theorem Ky : Rows.EligibleUnfitSaid :=
 OpenClaim.holds_of_wide 13 Tryz.f13 rfl rfl rfl rfl rfl rfl rfl ⟨rfl,rfl,rfl,rfl,rfl⟩ rfl rfl rfl rfl rfl (by kernel_rfl) Tryz.func13 closed13
  (of_decide_eq_true (by kernel_rfl)) wrap13
  (fun os started H enc _ => lifted13 os started H enc)
end Go.Proofs.YtgbamiehiokacaaGreatDoor
