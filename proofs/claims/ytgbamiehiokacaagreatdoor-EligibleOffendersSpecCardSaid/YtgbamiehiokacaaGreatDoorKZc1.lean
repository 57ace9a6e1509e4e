import Derived.Test.YtgbamiehiokacaaGreatDoorKZc0
import Derived.Test.YtgbamiehiokacaaGreatDoorKYz
set_option linter.all false
set_option maxRecDepth 100000
namespace Go.Proofs.YtgbamiehiokacaaGreatDoor
open Go Go.ChangeShapes Go.WideShapes Go.RowKit Go.ChangeAt Go.Hw
theorem inPlace9:(Rows.eligibleOffendersSpecRow.inPlace == Tryz.prog.inPlace 9)=true:=by kernel_rfl
theorem Wg:(Rows.eligibleOffendersSpecRow.unfollowed == Tryz.prog.unfollowed 9)=true:=by kernel_rfl
theorem recurses9:(Rows.eligibleOffendersSpecRow.recurses == Tryz.prog.recurses 9)=true:=by kernel_rfl
theorem named9:(Rows.eligibleOffendersSpecRow.named == Tryz.prog.varsNamed 9)=true:=by kernel_rfl
theorem cwf9:(Rows.eligibleOffendersSpecRow.wf (OpenSpec.ofChange Rows.eligibleOffendersSpecSpec))=true:=by kernel_rfl
theorem cparams9:(Tryz.f9.params.all (Tryz.prog.readableRec ·))=true:=by kernel_rfl
theorem ctie9:(namedTie Tryz.prog Rows.eligibleOffendersSpecRow.named Rows.eligibleOffendersSpecSpec.vars)=true:=by kernel_rfl
theorem cstop9:((Rows.eligibleOffendersSpecRow.stops == []))=true:=by kernel_rfl
theorem cknob9:((Rows.eligibleOffendersSpecRow.knobs == []))=true:=by kernel_rfl
theorem cmaps9:((Rows.eligibleOffendersSpecRow.maps == (Tryz.f9.params.toList++Rows.eligibleOffendersSpecSpec.plain.varTypes Tryz.prog).any (Tryz.prog.mapsRec ·)))=true:=by kernel_rfl
theorem cifaces9:((Rows.eligibleOffendersSpecRow.ifaces == (Tryz.f9.params.toList++Rows.eligibleOffendersSpecSpec.plain.varTypes Tryz.prog).any (Tryz.prog.ifacesRec ·)))=true:=by kernel_rfl
theorem cmapsOut9:((Rows.eligibleOffendersSpecRow.mapsOut == Tryz.prog.mapsAmong Tryz.f9.resultTypes.toList))=true:=by kernel_rfl
theorem cloops9:((Rows.eligibleOffendersSpecRow.loops == (Tryz.f9.params.toList++Rows.eligibleOffendersSpecSpec.plain.varTypes Tryz.prog).any (Tryz.prog.loopsFrom ·)))=true:=by kernel_rfl
theorem cwide9:((Rows.eligibleOffendersSpecRow.wideKeys == (Tryz.f9.params.toList++Rows.eligibleOffendersSpecSpec.plain.varTypes Tryz.prog++Tryz.f9.resultTypes.toList).any (Tryz.prog.wideKeysFrom ·)))=true:=by kernel_rfl
theorem cvars9:(Rows.eligibleOffendersSpecSpec.vars.all (Tryz.prog.varReadable ·))=true:=by kernel_rfl
theorem cres9:(Tryz.f9.resultTypes.all (fun t=>Tryz.prog.readableRec t && decide (t<Tryz.prog.types.size)))=true:=by kernel_rfl
theorem cifOut9:((Rows.eligibleOffendersSpecRow.ifacesOut == Tryz.f9.resultTypes.toList.any (Tryz.prog.ifacesRec ·)))=true:=by kernel_rfl
theorem cloOut9:((Rows.eligibleOffendersSpecRow.loopsOut == Tryz.f9.resultTypes.toList.any (Tryz.prog.loopsFrom ·)))=true:=by kernel_rfl
theorem cplainK9:((Rows.eligibleOffendersSpecRow.plainKeys == Tryz.prog.plainKeys))=true:=by kernel_rfl
theorem cshort9:(Rows.eligibleOffendersSpecRow.shortTexts.isNone)=true:=by kernel_rfl
theorem clift9:((Rows.eligibleOffendersSpecRow.lifted == Tryz.prog.liftsFinal))=true:=by kernel_rfl
theorem cmake9:((Tryz.prog.make == some Rows.eligibleOffendersSpecRow.make))=true:=by kernel_rfl
theorem ckinds9:((Rows.eligibleOffendersSpecRow.kinds == (if Rows.eligibleOffendersSpecRow.domain.isEmpty then [] else Tryz.f9.params.toList.map fun t=>match Tryz.prog.underlying t with|some (.int k)=>some k|_=>none)))=true:=by kernel_rfl
theorem cpinned9:((Rows.eligibleOffendersSpecRow.pinned == Rows.eligibleOffendersSpecRow.pinnedBy))=true:=by kernel_rfl
theorem cveil9:((Rows.eligibleOffendersSpecRow.veiled == (Tryz.f9.params.toList++Rows.eligibleOffendersSpecSpec.plain.varTypes Tryz.prog++Tryz.f9.resultTypes.toList).any (Tryz.prog.veiledRec ·)))=true:=by kernel_rfl
theorem cveilF9:(Rows.eligibleOffendersSpecRow.veiledFits Tryz.prog Tryz.f9.params.toList (Tryz.f9.params.toList++Rows.eligibleOffendersSpecSpec.plain.varTypes Tryz.prog++Tryz.f9.resultTypes.toList))=true:=by kernel_rfl
theorem closed9:joinedFacts Tryz.prog 9 Tryz.f9 Rows.eligibleOffendersSpecSpec Rows.eligibleOffendersSpecRow=true:=by
 unfold joinedFacts
 exact (andB (andB (andB (andB (andB (andB (andB (andB (andB (andB (andB (andB (andB (andB (andB (andB (andB (andB (andB (andB (andB (andB (andB (andB (andB (andB (andB (andB (andB (andB (andB cwf9 laidS) rowedS) cparams9) ctie9) cstop9) stopsS) cknob9) knobsS) inPlace9) Wg) recurses9) named9) cmaps9) cifaces9) cmapsOut9) cloops9) cwide9) cvars9) cres9) cifOut9) cloOut9) cplainK9) cshort9) heardS) enterS) clift9) cmake9) ckinds9) cpinned9) cveil9) cveilF9)
theorem wrap9:Tryz.f9.isWrapper Tryz.prog Rows.eligibleOffendersSpecRow.wrapper Rows.eligibleOffendersSpecRow.mainSum:=by unfold Func.isWrapper;first|(rw [if_pos (by decide +kernel)];kernel_rfl)|(rw [if_neg (by decide +kernel)];exact ⟨rfl,rfl⟩)
theorem Nb:Rows.EligibleOffendersSpecSaid :=
 OpenClaim.holds_of_wide 9 Tryz.f9 rfl rfl rfl rfl rfl rfl rfl ⟨rfl,rfl,rfl,rfl,rfl⟩ rfl rfl rfl rfl rfl (by kernel_rfl) Tryz.func9 closed9
  (of_decide_eq_true (by kernel_rfl)) wrap9
  (fun os started H enc _=>lifted9 os started H enc)
end Go.Proofs.YtgbamiehiokacaaGreatDoor
