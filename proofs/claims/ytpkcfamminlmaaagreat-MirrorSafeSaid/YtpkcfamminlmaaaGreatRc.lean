import Derived.Test.YtpkcfamminlmaaaGreatRows
import Derived.JoinedOf
import Derived.KernelRfl
set_option linter.unusedVariables false
set_option linter.unusedSimpArgs false
set_option linter.unusedSectionVars false
namespace Go.Proofs.YtpkcfamminlmaaaGreat
open Go
set_option maxRecDepth 100000
theorem A5w:(mapsRowed Tryz.pinned.checked.prog)=true:=by kernel_rfl
theorem A44:(Tryz.f7.params.all (Tryz.pinned.checked.prog.readableRec ·))=true:=by kernel_rfl
theorem A6a:(namedTie Tryz.pinned.checked.prog Rows.mirrorSafeRow.named Rows.mirrorSafeSpec.vars)=true:=by kernel_rfl
theorem A5q:((Rows.mirrorSafeRow.stops == []))=true:=by kernel_rfl
theorem A4p:((Tryz.pinned.checked.prog.stops == []))=true:=by kernel_rfl
theorem A6e:((Rows.mirrorSafeRow.knobs == []))=true:=by kernel_rfl
theorem A4a:((Tryz.pinned.checked.prog.stopKnobs == []))=true:=by kernel_rfl
theorem A2x:((Rows.mirrorSafeRow.maps == (Tryz.f7.params.toList++Rows.mirrorSafeSpec.plain.varTypes Tryz.pinned.checked.prog).any (Tryz.pinned.checked.prog.mapsRec ·)))=true:=by kernel_rfl
theorem A17:((Rows.mirrorSafeRow.ifaces == (Tryz.f7.params.toList++Rows.mirrorSafeSpec.plain.varTypes Tryz.pinned.checked.prog).any (Tryz.pinned.checked.prog.ifacesRec ·)))=true:=by kernel_rfl
theorem A21:((Rows.mirrorSafeRow.mapsOut == Tryz.pinned.checked.prog.mapsAmong Tryz.f7.resultTypes.toList))=true:=by kernel_rfl
theorem A23:((Rows.mirrorSafeRow.loops == (Tryz.f7.params.toList++Rows.mirrorSafeSpec.plain.varTypes Tryz.pinned.checked.prog).any (Tryz.pinned.checked.prog.loopsFrom ·)))=true:=by kernel_rfl
theorem A1x:((Rows.mirrorSafeRow.wideKeys == (Tryz.f7.params.toList++Rows.mirrorSafeSpec.plain.varTypes Tryz.pinned.checked.prog++Tryz.f7.resultTypes.toList).any (Tryz.pinned.checked.prog.wideKeysFrom ·)))=true:=by kernel_rfl
theorem A13:(Rows.mirrorSafeSpec.vars.all (Tryz.pinned.checked.prog.varReadable ·))=true:=by kernel_rfl
theorem A1k:(Tryz.f7.resultTypes.all (fun t=>Tryz.pinned.checked.prog.readableRec t && decide (t<Tryz.pinned.checked.prog.types.size)))=true:=by kernel_rfl
theorem A27:((Rows.mirrorSafeRow.ifacesOut == Tryz.f7.resultTypes.toList.any (Tryz.pinned.checked.prog.ifacesRec ·)))=true:=by kernel_rfl
theorem A2g:((Rows.mirrorSafeRow.loopsOut == Tryz.f7.resultTypes.toList.any (Tryz.pinned.checked.prog.loopsFrom ·)))=true:=by kernel_rfl
theorem A24:((Rows.mirrorSafeRow.plainKeys == Tryz.pinned.checked.prog.plainKeys))=true:=by kernel_rfl
theorem A2c:(Rows.mirrorSafeRow.shortTexts.isNone)=true:=by kernel_rfl
theorem A26:(Tryz.pinned.checked.prog.stopsHeard)=true:=by kernel_rfl
theorem A1t:(Tryz.pinned.checked.prog.mayEnter)=true:=by kernel_rfl
theorem A1y:((Rows.mirrorSafeRow.lifted == Tryz.pinned.checked.prog.liftsFinal))=true:=by kernel_rfl
theorem A1z:((Tryz.pinned.checked.prog.make == some Rows.mirrorSafeRow.make))=true:=by kernel_rfl
theorem A2l:((Rows.mirrorSafeRow.kinds == (if Rows.mirrorSafeRow.domain.isEmpty then [] else Tryz.f7.params.toList.map fun t=>match Tryz.pinned.checked.prog.underlying t with|some (.int k)=>some k|_=>none)))=true:=by kernel_rfl
theorem A1m:((Rows.mirrorSafeRow.pinned == Rows.mirrorSafeRow.pinnedBy))=true:=by kernel_rfl
theorem A0l:((Rows.mirrorSafeRow.veiled == (Tryz.f7.params.toList++Rows.mirrorSafeSpec.plain.varTypes Tryz.pinned.checked.prog++Tryz.f7.resultTypes.toList).any (Tryz.pinned.checked.prog.veiledRec ·)))=true:=by kernel_rfl
theorem A2t:(Rows.mirrorSafeRow.veiledFits Tryz.pinned.checked.prog Tryz.f7.params.toList (Tryz.f7.params.toList++Rows.mirrorSafeSpec.plain.varTypes Tryz.pinned.checked.prog++Tryz.f7.resultTypes.toList))=true:=by kernel_rfl
end Go.Proofs.YtpkcfamminlmaaaGreat
