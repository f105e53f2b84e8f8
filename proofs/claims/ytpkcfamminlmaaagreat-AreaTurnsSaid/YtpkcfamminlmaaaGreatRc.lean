import Derived.Test.YtpkcfamminlmaaaGreatRows
import Derived.JoinedOf
import Derived.KernelRfl
set_option linter.unusedVariables false
set_option linter.unusedSimpArgs false
set_option linter.unusedSectionVars false
namespace Go.Proofs.YtpkcfamminlmaaaGreat
open Go
set_option maxRecDepth 100000
theorem Ay8:(mapsRowed Tryz.pinned.checked.prog)=true:=by kernel_rfl
theorem Az6:(Tryz.f3.params.all (Tryz.pinned.checked.prog.readableRec ·))=true:=by kernel_rfl
theorem Azw:(namedTie Tryz.pinned.checked.prog Rows.areaTurnsRow.named Rows.areaTurnsSpec.vars)=true:=by kernel_rfl
theorem Azy:((Rows.areaTurnsRow.stops == []))=true:=by kernel_rfl
theorem A0f:((Tryz.pinned.checked.prog.stops == []))=true:=by kernel_rfl
theorem Ax6:((Rows.areaTurnsRow.knobs == []))=true:=by kernel_rfl
theorem Ayx:((Tryz.pinned.checked.prog.stopKnobs == []))=true:=by kernel_rfl
theorem Avc:((Rows.areaTurnsRow.maps == (Tryz.f3.params.toList++Rows.areaTurnsSpec.plain.varTypes Tryz.pinned.checked.prog).any (Tryz.pinned.checked.prog.mapsRec ·)))=true:=by kernel_rfl
theorem Av3:((Rows.areaTurnsRow.ifaces == (Tryz.f3.params.toList++Rows.areaTurnsSpec.plain.varTypes Tryz.pinned.checked.prog).any (Tryz.pinned.checked.prog.ifacesRec ·)))=true:=by kernel_rfl
theorem Axk:((Rows.areaTurnsRow.mapsOut == Tryz.pinned.checked.prog.mapsAmong Tryz.f3.resultTypes.toList))=true:=by kernel_rfl
theorem Aw2:((Rows.areaTurnsRow.loops == (Tryz.f3.params.toList++Rows.areaTurnsSpec.plain.varTypes Tryz.pinned.checked.prog).any (Tryz.pinned.checked.prog.loopsFrom ·)))=true:=by kernel_rfl
theorem Aws:((Rows.areaTurnsRow.wideKeys == (Tryz.f3.params.toList++Rows.areaTurnsSpec.plain.varTypes Tryz.pinned.checked.prog++Tryz.f3.resultTypes.toList).any (Tryz.pinned.checked.prog.wideKeysFrom ·)))=true:=by kernel_rfl
theorem Awk:(Rows.areaTurnsSpec.vars.all (Tryz.pinned.checked.prog.varReadable ·))=true:=by kernel_rfl
theorem Awd:(Tryz.f3.resultTypes.all (fun t=>Tryz.pinned.checked.prog.readableRec t && decide (t<Tryz.pinned.checked.prog.types.size)))=true:=by kernel_rfl
theorem Avf:((Rows.areaTurnsRow.ifacesOut == Tryz.f3.resultTypes.toList.any (Tryz.pinned.checked.prog.ifacesRec ·)))=true:=by kernel_rfl
theorem Awj:((Rows.areaTurnsRow.loopsOut == Tryz.f3.resultTypes.toList.any (Tryz.pinned.checked.prog.loopsFrom ·)))=true:=by kernel_rfl
theorem Awm:((Rows.areaTurnsRow.plainKeys == Tryz.pinned.checked.prog.plainKeys))=true:=by kernel_rfl
theorem Axe:(Rows.areaTurnsRow.shortTexts.isNone)=true:=by kernel_rfl
theorem Avs:(Tryz.pinned.checked.prog.stopsHeard)=true:=by kernel_rfl
theorem Awc:(Tryz.pinned.checked.prog.mayEnter)=true:=by kernel_rfl
theorem Awi:((Rows.areaTurnsRow.lifted == Tryz.pinned.checked.prog.liftsFinal))=true:=by kernel_rfl
theorem Av7:((Tryz.pinned.checked.prog.make == some Rows.areaTurnsRow.make))=true:=by kernel_rfl
theorem Awy:((Rows.areaTurnsRow.kinds == (if Rows.areaTurnsRow.domain.isEmpty then [] else Tryz.f3.params.toList.map fun t=>match Tryz.pinned.checked.prog.underlying t with|some (.int k)=>some k|_=>none)))=true:=by kernel_rfl
theorem Axi:((Rows.areaTurnsRow.pinned == Rows.areaTurnsRow.pinnedBy))=true:=by kernel_rfl
theorem Awn:((Rows.areaTurnsRow.veiled == (Tryz.f3.params.toList++Rows.areaTurnsSpec.plain.varTypes Tryz.pinned.checked.prog++Tryz.f3.resultTypes.toList).any (Tryz.pinned.checked.prog.veiledRec ·)))=true:=by kernel_rfl
theorem Aw7:(Rows.areaTurnsRow.veiledFits Tryz.pinned.checked.prog Tryz.f3.params.toList (Tryz.f3.params.toList++Rows.areaTurnsSpec.plain.varTypes Tryz.pinned.checked.prog++Tryz.f3.resultTypes.toList))=true:=by kernel_rfl
end Go.Proofs.YtpkcfamminlmaaaGreat
