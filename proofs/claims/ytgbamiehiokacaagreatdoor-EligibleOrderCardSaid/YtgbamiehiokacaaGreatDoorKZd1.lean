import Derived.Test.YtgbamiehiokacaaGreatDoorKZd0
import Derived.Test.YtgbamiehiokacaaGreatDoorKYz
set_option linter.unusedVariables false
set_option maxRecDepth 100000
namespace Go.Proofs.YtgbamiehiokacaaGreatDoor
open Go Go.ChangeShapes Go.WideShapes Go.RowKit Go.ChangeAt Go.Hw
theorem inPlace10 : (Rows.eligibleOrderRow.inPlace == Tryz.prog.inPlace 10) = true:=by kernel_rfl
theorem Uj : (Rows.eligibleOrderRow.unfollowed == Tryz.prog.unfollowed 10) = true:=by kernel_rfl
theorem Cga : (Rows.eligibleOrderRow.recurses == Tryz.prog.recurses 10) = true:=by kernel_rfl
theorem named10 : (Rows.eligibleOrderRow.named == Tryz.prog.varsNamed 10) = true:=by kernel_rfl
theorem cwf10 : (Rows.eligibleOrderRow.wf (OpenSpec.ofChange Rows.eligibleOrderSpec)) = true:=by kernel_rfl
theorem cparams10 : (Tryz.f10.params.all (Tryz.prog.readableRec ·)) = true:=by kernel_rfl
theorem ctie10 : (namedTie Tryz.prog Rows.eligibleOrderRow.named Rows.eligibleOrderSpec.vars) = true:=by kernel_rfl
theorem cstop10 : ((Rows.eligibleOrderRow.stops == [])) = true:=by kernel_rfl
theorem cknob10 : ((Rows.eligibleOrderRow.knobs == [])) = true:=by kernel_rfl
theorem cmaps10 : ((Rows.eligibleOrderRow.maps == (Tryz.f10.params.toList ++ Rows.eligibleOrderSpec.plain.varTypes Tryz.prog).any (Tryz.prog.mapsRec ·))) = true:=by kernel_rfl
theorem cifaces10 : ((Rows.eligibleOrderRow.ifaces == (Tryz.f10.params.toList ++ Rows.eligibleOrderSpec.plain.varTypes Tryz.prog).any (Tryz.prog.ifacesRec ·))) = true:=by kernel_rfl
theorem Daa : ((Rows.eligibleOrderRow.mapsOut == Tryz.prog.mapsAmong Tryz.f10.resultTypes.toList)) = true:=by kernel_rfl
theorem cloops10 : ((Rows.eligibleOrderRow.loops == (Tryz.f10.params.toList ++ Rows.eligibleOrderSpec.plain.varTypes Tryz.prog).any (Tryz.prog.loopsFrom ·))) = true:=by kernel_rfl
theorem cwide10 : ((Rows.eligibleOrderRow.wideKeys == (Tryz.f10.params.toList ++ Rows.eligibleOrderSpec.plain.varTypes Tryz.prog ++ Tryz.f10.resultTypes.toList).any (Tryz.prog.wideKeysFrom ·))) = true:=by kernel_rfl
theorem cvars10 : (Rows.eligibleOrderSpec.vars.all (Tryz.prog.varReadable ·)) = true:=by kernel_rfl
theorem cres10 : (Tryz.f10.resultTypes.all (fun t => Tryz.prog.readableRec t && decide (t < Tryz.prog.types.size))) = true:=by kernel_rfl
theorem cifOut10 : ((Rows.eligibleOrderRow.ifacesOut == Tryz.f10.resultTypes.toList.any (Tryz.prog.ifacesRec ·))) = true:=by kernel_rfl
theorem cloOut10 : ((Rows.eligibleOrderRow.loopsOut == Tryz.f10.resultTypes.toList.any (Tryz.prog.loopsFrom ·))) = true:=by kernel_rfl
theorem cplainK10 : ((Rows.eligibleOrderRow.plainKeys == Tryz.prog.plainKeys)) = true:=by kernel_rfl
theorem cshort10 : (Rows.eligibleOrderRow.shortTexts.isNone) = true:=by kernel_rfl
theorem clift10 : ((Rows.eligibleOrderRow.lifted == Tryz.prog.liftsFinal)) = true:=by kernel_rfl
theorem cmake10 : ((Tryz.prog.make == some Rows.eligibleOrderRow.make)) = true:=by kernel_rfl
theorem ckinds10 : ((Rows.eligibleOrderRow.kinds == (if Rows.eligibleOrderRow.domain.isEmpty then [] else Tryz.f10.params.toList.map fun t => match Tryz.prog.underlying t with|some (.int k) => some k|_ => none))) = true:=by kernel_rfl
theorem cpinned10 : ((Rows.eligibleOrderRow.pinned == Rows.eligibleOrderRow.pinnedBy)) = true:=by kernel_rfl
theorem cveil10 : ((Rows.eligibleOrderRow.veiled == (Tryz.f10.params.toList ++ Rows.eligibleOrderSpec.plain.varTypes Tryz.prog ++ Tryz.f10.resultTypes.toList).any (Tryz.prog.veiledRec ·))) = true:=by kernel_rfl
theorem cveilF10 : (Rows.eligibleOrderRow.veiledFits Tryz.prog Tryz.f10.params.toList (Tryz.f10.params.toList ++ Rows.eligibleOrderSpec.plain.varTypes Tryz.prog ++ Tryz.f10.resultTypes.toList)) = true:=by kernel_rfl
theorem closed10 : joinedFacts Tryz.prog 10 Tryz.f10 Rows.eligibleOrderSpec Rows.eligibleOrderRow = true:=by
 unfold joinedFacts
 exact (andB (andB (andB (andB (andB (andB (andB (andB (andB (andB (andB (andB (andB (andB (andB (andB (andB (andB (andB (andB (andB (andB (andB (andB (andB (andB (andB (andB (andB (andB (andB cwf10 Csa) Qq) cparams10) ctie10) cstop10) Qj) cknob10) Qy) inPlace10) Uj) Cga) named10) cmaps10) cifaces10) Daa) cloops10) cwide10) cvars10) cres10) cifOut10) cloOut10) cplainK10) cshort10) Ra) Rg) clift10) cmake10) ckinds10) cpinned10) cveil10) cveilF10)
theorem wrap10 : Tryz.f10.isWrapper Tryz.prog Rows.eligibleOrderRow.wrapper Rows.eligibleOrderRow.mainSum:=by unfold Func.isWrapper;first|(rw [if_pos (by decide +kernel)];kernel_rfl)|(rw [if_neg (by decide +kernel)];exact ⟨rfl,rfl⟩)
theorem Lk : Rows.EligibleOrderSaid :=
 OpenClaim.holds_of_wide 10 Tryz.f10 rfl rfl rfl rfl rfl rfl rfl ⟨rfl,rfl,rfl,rfl,rfl⟩ rfl rfl rfl rfl rfl (by kernel_rfl) Tryz.func10 closed10
  (of_decide_eq_true (by kernel_rfl)) wrap10
  (fun os started H enc _ => lifted10 os started H enc)
end Go.Proofs.YtgbamiehiokacaaGreatDoor
