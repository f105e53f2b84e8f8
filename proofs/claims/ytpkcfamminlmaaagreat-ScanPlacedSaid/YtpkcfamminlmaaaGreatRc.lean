import Derived.Test.YtpkcfamminlmaaaGreatRows
import Derived.JoinedOf
import Derived.KernelRfl
set_option linter.unusedVariables false
set_option linter.unusedSimpArgs false
set_option linter.unusedSectionVars false
namespace Go.Proofs.YtpkcfamminlmaaaGreat
open Go
set_option maxRecDepth 100000
theorem A69:(mapsRowed Tryz.pinned.checked.prog)=true:=by kernel_rfl
theorem A92:(Tryz.f9.params.all (Tryz.pinned.checked.prog.readableRec ·))=true:=by kernel_rfl
theorem A8o:(namedTie Tryz.pinned.checked.prog Rows.scanPlacedRow.named Rows.scanPlacedSpec.vars)=true:=by kernel_rfl
theorem A58:((Rows.scanPlacedRow.stops == []))=true:=by kernel_rfl
theorem A6a:((Tryz.pinned.checked.prog.stops == []))=true:=by kernel_rfl
theorem Bag:((Rows.scanPlacedRow.knobs == []))=true:=by kernel_rfl
theorem A8n:((Tryz.pinned.checked.prog.stopKnobs == []))=true:=by kernel_rfl
theorem A31:((Rows.scanPlacedRow.maps == (Tryz.f9.params.toList++Rows.scanPlacedSpec.plain.varTypes Tryz.pinned.checked.prog).any (Tryz.pinned.checked.prog.mapsRec ·)))=true:=by kernel_rfl
theorem A4x:((Rows.scanPlacedRow.ifaces == (Tryz.f9.params.toList++Rows.scanPlacedSpec.plain.varTypes Tryz.pinned.checked.prog).any (Tryz.pinned.checked.prog.ifacesRec ·)))=true:=by kernel_rfl
theorem A44:((Rows.scanPlacedRow.mapsOut == Tryz.pinned.checked.prog.mapsAmong Tryz.f9.resultTypes.toList))=true:=by kernel_rfl
theorem A3b:((Rows.scanPlacedRow.loops == (Tryz.f9.params.toList++Rows.scanPlacedSpec.plain.varTypes Tryz.pinned.checked.prog).any (Tryz.pinned.checked.prog.loopsFrom ·)))=true:=by kernel_rfl
theorem A5v:((Rows.scanPlacedRow.wideKeys == (Tryz.f9.params.toList++Rows.scanPlacedSpec.plain.varTypes Tryz.pinned.checked.prog++Tryz.f9.resultTypes.toList).any (Tryz.pinned.checked.prog.wideKeysFrom ·)))=true:=by kernel_rfl
theorem A4h:(Rows.scanPlacedSpec.vars.all (Tryz.pinned.checked.prog.varReadable ·))=true:=by kernel_rfl
theorem A5t:(Tryz.f9.resultTypes.all (fun t=>Tryz.pinned.checked.prog.readableRec t && decide (t<Tryz.pinned.checked.prog.types.size)))=true:=by kernel_rfl
theorem A5m:((Rows.scanPlacedRow.ifacesOut == Tryz.f9.resultTypes.toList.any (Tryz.pinned.checked.prog.ifacesRec ·)))=true:=by kernel_rfl
theorem A5f:((Rows.scanPlacedRow.loopsOut == Tryz.f9.resultTypes.toList.any (Tryz.pinned.checked.prog.loopsFrom ·)))=true:=by kernel_rfl
theorem A22:((Rows.scanPlacedRow.plainKeys == Tryz.pinned.checked.prog.plainKeys))=true:=by kernel_rfl
theorem A4z:(Rows.scanPlacedRow.shortTexts.isNone)=true:=by kernel_rfl
theorem A5b:(Tryz.pinned.checked.prog.stopsHeard)=true:=by kernel_rfl
theorem A4y:(Tryz.pinned.checked.prog.mayEnter)=true:=by kernel_rfl
theorem A5e:((Rows.scanPlacedRow.lifted == Tryz.pinned.checked.prog.liftsFinal))=true:=by kernel_rfl
theorem A27:((Tryz.pinned.checked.prog.make == some Rows.scanPlacedRow.make))=true:=by kernel_rfl
theorem A3h:((Rows.scanPlacedRow.kinds == (if Rows.scanPlacedRow.domain.isEmpty then [] else Tryz.f9.params.toList.map fun t=>match Tryz.pinned.checked.prog.underlying t with|some (.int k)=>some k|_=>none)))=true:=by kernel_rfl
theorem A5a:((Rows.scanPlacedRow.pinned == Rows.scanPlacedRow.pinnedBy))=true:=by kernel_rfl
theorem A5c:((Rows.scanPlacedRow.veiled == (Tryz.f9.params.toList++Rows.scanPlacedSpec.plain.varTypes Tryz.pinned.checked.prog++Tryz.f9.resultTypes.toList).any (Tryz.pinned.checked.prog.veiledRec ·)))=true:=by kernel_rfl
theorem A25:(Rows.scanPlacedRow.veiledFits Tryz.pinned.checked.prog Tryz.f9.params.toList (Tryz.f9.params.toList++Rows.scanPlacedSpec.plain.varTypes Tryz.pinned.checked.prog++Tryz.f9.resultTypes.toList))=true:=by kernel_rfl
end Go.Proofs.YtpkcfamminlmaaaGreat
