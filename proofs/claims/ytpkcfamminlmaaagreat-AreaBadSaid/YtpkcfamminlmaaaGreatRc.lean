import Derived.Test.YtpkcfamminlmaaaGreatRows
import Derived.JoinedOf
import Derived.KernelRfl
set_option linter.unusedVariables false
set_option linter.unusedSimpArgs false
set_option linter.unusedSectionVars false
namespace Go.Proofs.YtpkcfamminlmaaaGreat
open Go
set_option maxRecDepth 100000
theorem A1m:(mapsRowed Tryz.pinned.checked.prog)=true:=by kernel_rfl
theorem A1w:(Tryz.f4.params.all (Tryz.pinned.checked.prog.readableRec ·))=true:=by kernel_rfl
theorem A2a:(namedTie Tryz.pinned.checked.prog Rows.areaBadRow.named Rows.areaBadSpec.vars)=true:=by kernel_rfl
theorem A3l:((Rows.areaBadRow.stops == []))=true:=by kernel_rfl
theorem A2v:((Tryz.pinned.checked.prog.stops == []))=true:=by kernel_rfl
theorem A0j:((Rows.areaBadRow.knobs == []))=true:=by kernel_rfl
theorem A05:((Tryz.pinned.checked.prog.stopKnobs == []))=true:=by kernel_rfl
theorem Axs:((Rows.areaBadRow.maps == (Tryz.f4.params.toList++Rows.areaBadSpec.plain.varTypes Tryz.pinned.checked.prog).any (Tryz.pinned.checked.prog.mapsRec ·)))=true:=by kernel_rfl
theorem Ax1:((Rows.areaBadRow.ifaces == (Tryz.f4.params.toList++Rows.areaBadSpec.plain.varTypes Tryz.pinned.checked.prog).any (Tryz.pinned.checked.prog.ifacesRec ·)))=true:=by kernel_rfl
theorem Ay9:((Rows.areaBadRow.mapsOut == Tryz.pinned.checked.prog.mapsAmong Tryz.f4.resultTypes.toList))=true:=by kernel_rfl
theorem Aza:((Rows.areaBadRow.loops == (Tryz.f4.params.toList++Rows.areaBadSpec.plain.varTypes Tryz.pinned.checked.prog).any (Tryz.pinned.checked.prog.loopsFrom ·)))=true:=by kernel_rfl
theorem Azb:((Rows.areaBadRow.wideKeys == (Tryz.f4.params.toList++Rows.areaBadSpec.plain.varTypes Tryz.pinned.checked.prog++Tryz.f4.resultTypes.toList).any (Tryz.pinned.checked.prog.wideKeysFrom ·)))=true:=by kernel_rfl
theorem Azm:(Rows.areaBadSpec.vars.all (Tryz.pinned.checked.prog.varReadable ·))=true:=by kernel_rfl
theorem Ax9:(Tryz.f4.resultTypes.all (fun t=>Tryz.pinned.checked.prog.readableRec t && decide (t<Tryz.pinned.checked.prog.types.size)))=true:=by kernel_rfl
theorem Az1:((Rows.areaBadRow.ifacesOut == Tryz.f4.resultTypes.toList.any (Tryz.pinned.checked.prog.ifacesRec ·)))=true:=by kernel_rfl
theorem Axy:((Rows.areaBadRow.loopsOut == Tryz.f4.resultTypes.toList.any (Tryz.pinned.checked.prog.loopsFrom ·)))=true:=by kernel_rfl
theorem Ayx:((Rows.areaBadRow.plainKeys == Tryz.pinned.checked.prog.plainKeys))=true:=by kernel_rfl
theorem A0f:(Rows.areaBadRow.shortTexts.isNone)=true:=by kernel_rfl
theorem Ayv:(Tryz.pinned.checked.prog.stopsHeard)=true:=by kernel_rfl
theorem Ayd:(Tryz.pinned.checked.prog.mayEnter)=true:=by kernel_rfl
theorem Az6:((Rows.areaBadRow.lifted == Tryz.pinned.checked.prog.liftsFinal))=true:=by kernel_rfl
theorem Ayl:((Tryz.pinned.checked.prog.make == some Rows.areaBadRow.make))=true:=by kernel_rfl
theorem A0a:((Rows.areaBadRow.kinds == (if Rows.areaBadRow.domain.isEmpty then [] else Tryz.f4.params.toList.map fun t=>match Tryz.pinned.checked.prog.underlying t with|some (.int k)=>some k|_=>none)))=true:=by kernel_rfl
theorem Ayy:((Rows.areaBadRow.pinned == Rows.areaBadRow.pinnedBy))=true:=by kernel_rfl
theorem Ax8:((Rows.areaBadRow.veiled == (Tryz.f4.params.toList++Rows.areaBadSpec.plain.varTypes Tryz.pinned.checked.prog++Tryz.f4.resultTypes.toList).any (Tryz.pinned.checked.prog.veiledRec ·)))=true:=by kernel_rfl
theorem Ayt:(Rows.areaBadRow.veiledFits Tryz.pinned.checked.prog Tryz.f4.params.toList (Tryz.f4.params.toList++Rows.areaBadSpec.plain.varTypes Tryz.pinned.checked.prog++Tryz.f4.resultTypes.toList))=true:=by kernel_rfl
end Go.Proofs.YtpkcfamminlmaaaGreat
