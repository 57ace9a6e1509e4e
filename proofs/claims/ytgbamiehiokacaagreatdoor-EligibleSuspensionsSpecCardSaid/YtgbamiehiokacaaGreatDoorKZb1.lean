import Derived.Test.YtgbamiehiokacaaGreatDoorKZb0
import Derived.Test.YtgbamiehiokacaaGreatDoorKYz
set_option linter.all false
set_option maxRecDepth 100000
namespace Go.Proofs.YtgbamiehiokacaaGreatDoor
open Go Go.ChangeShapes Go.WideShapes Go.RowKit Go.ChangeAt Go.Hw
theorem inPlace8:(Rows.eligibleSuspensionsSpecRow.inPlace == Tryz.prog.inPlace 8)=true:=by kernel_rfl
theorem Wh:(Rows.eligibleSuspensionsSpecRow.unfollowed == Tryz.prog.unfollowed 8)=true:=by kernel_rfl
theorem recurses8:(Rows.eligibleSuspensionsSpecRow.recurses == Tryz.prog.recurses 8)=true:=by kernel_rfl
theorem named8:(Rows.eligibleSuspensionsSpecRow.named == Tryz.prog.varsNamed 8)=true:=by kernel_rfl
theorem cwf8:(Rows.eligibleSuspensionsSpecRow.wf (OpenSpec.ofChange Rows.eligibleSuspensionsSpecSpec))=true:=by kernel_rfl
theorem cparams8:(Tryz.f8.params.all (Tryz.prog.readableRec ·))=true:=by kernel_rfl
theorem ctie8:(namedTie Tryz.prog Rows.eligibleSuspensionsSpecRow.named Rows.eligibleSuspensionsSpecSpec.vars)=true:=by kernel_rfl
theorem cstop8:((Rows.eligibleSuspensionsSpecRow.stops == []))=true:=by kernel_rfl
theorem cknob8:((Rows.eligibleSuspensionsSpecRow.knobs == []))=true:=by kernel_rfl
theorem cmaps8:((Rows.eligibleSuspensionsSpecRow.maps == (Tryz.f8.params.toList++Rows.eligibleSuspensionsSpecSpec.plain.varTypes Tryz.prog).any (Tryz.prog.mapsRec ·)))=true:=by kernel_rfl
theorem cifaces8:((Rows.eligibleSuspensionsSpecRow.ifaces == (Tryz.f8.params.toList++Rows.eligibleSuspensionsSpecSpec.plain.varTypes Tryz.prog).any (Tryz.prog.ifacesRec ·)))=true:=by kernel_rfl
theorem cmapsOut8:((Rows.eligibleSuspensionsSpecRow.mapsOut == Tryz.prog.mapsAmong Tryz.f8.resultTypes.toList))=true:=by kernel_rfl
theorem cloops8:((Rows.eligibleSuspensionsSpecRow.loops == (Tryz.f8.params.toList++Rows.eligibleSuspensionsSpecSpec.plain.varTypes Tryz.prog).any (Tryz.prog.loopsFrom ·)))=true:=by kernel_rfl
theorem cwide8:((Rows.eligibleSuspensionsSpecRow.wideKeys == (Tryz.f8.params.toList++Rows.eligibleSuspensionsSpecSpec.plain.varTypes Tryz.prog++Tryz.f8.resultTypes.toList).any (Tryz.prog.wideKeysFrom ·)))=true:=by kernel_rfl
theorem cvars8:(Rows.eligibleSuspensionsSpecSpec.vars.all (Tryz.prog.varReadable ·))=true:=by kernel_rfl
theorem cres8:(Tryz.f8.resultTypes.all (fun t=>Tryz.prog.readableRec t && decide (t<Tryz.prog.types.size)))=true:=by kernel_rfl
theorem cifOut8:((Rows.eligibleSuspensionsSpecRow.ifacesOut == Tryz.f8.resultTypes.toList.any (Tryz.prog.ifacesRec ·)))=true:=by kernel_rfl
theorem cloOut8:((Rows.eligibleSuspensionsSpecRow.loopsOut == Tryz.f8.resultTypes.toList.any (Tryz.prog.loopsFrom ·)))=true:=by kernel_rfl
theorem cplainK8:((Rows.eligibleSuspensionsSpecRow.plainKeys == Tryz.prog.plainKeys))=true:=by kernel_rfl
theorem cshort8:(Rows.eligibleSuspensionsSpecRow.shortTexts.isNone)=true:=by kernel_rfl
theorem clift8:((Rows.eligibleSuspensionsSpecRow.lifted == Tryz.prog.liftsFinal))=true:=by kernel_rfl
theorem cmake8:((Tryz.prog.make == some Rows.eligibleSuspensionsSpecRow.make))=true:=by kernel_rfl
theorem ckinds8:((Rows.eligibleSuspensionsSpecRow.kinds == (if Rows.eligibleSuspensionsSpecRow.domain.isEmpty then [] else Tryz.f8.params.toList.map fun t=>match Tryz.prog.underlying t with|some (.int k)=>some k|_=>none)))=true:=by kernel_rfl
theorem cpinned8:((Rows.eligibleSuspensionsSpecRow.pinned == Rows.eligibleSuspensionsSpecRow.pinnedBy))=true:=by kernel_rfl
theorem cveil8:((Rows.eligibleSuspensionsSpecRow.veiled == (Tryz.f8.params.toList++Rows.eligibleSuspensionsSpecSpec.plain.varTypes Tryz.prog++Tryz.f8.resultTypes.toList).any (Tryz.prog.veiledRec ·)))=true:=by kernel_rfl
theorem cveilF8:(Rows.eligibleSuspensionsSpecRow.veiledFits Tryz.prog Tryz.f8.params.toList (Tryz.f8.params.toList++Rows.eligibleSuspensionsSpecSpec.plain.varTypes Tryz.prog++Tryz.f8.resultTypes.toList))=true:=by kernel_rfl
theorem closed8:joinedFacts Tryz.prog 8 Tryz.f8 Rows.eligibleSuspensionsSpecSpec Rows.eligibleSuspensionsSpecRow=true:=by
 unfold joinedFacts
 exact (andB (andB (andB (andB (andB (andB (andB (andB (andB (andB (andB (andB (andB (andB (andB (andB (andB (andB (andB (andB (andB (andB (andB (andB (andB (andB (andB (andB (andB (andB (andB cwf8 laidS) rowedS) cparams8) ctie8) cstop8) stopsS) cknob8) knobsS) inPlace8) Wh) recurses8) named8) cmaps8) cifaces8) cmapsOut8) cloops8) cwide8) cvars8) cres8) cifOut8) cloOut8) cplainK8) cshort8) heardS) enterS) clift8) cmake8) ckinds8) cpinned8) cveil8) cveilF8)
theorem wrap8:Tryz.f8.isWrapper Tryz.prog Rows.eligibleSuspensionsSpecRow.wrapper Rows.eligibleSuspensionsSpecRow.mainSum:=by unfold Func.isWrapper;first|(rw [if_pos (by decide +kernel)];kernel_rfl)|(rw [if_neg (by decide +kernel)];exact ⟨rfl,rfl⟩)
theorem Lt:Rows.EligibleSuspensionsSpecSaid :=
 OpenClaim.holds_of_wide 8 Tryz.f8 rfl rfl rfl rfl rfl rfl rfl ⟨rfl,rfl,rfl,rfl,rfl⟩ rfl rfl rfl rfl rfl (by kernel_rfl) Tryz.func8 closed8
  (of_decide_eq_true (by kernel_rfl)) wrap8
  (fun os started H enc _=>lifted8 os started H enc)
end Go.Proofs.YtgbamiehiokacaaGreatDoor
