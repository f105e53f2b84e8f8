import Derived.Test.YtadnemjjlacolaaGreatRows
import Derived.JoinedOf
import Derived.KernelRfl
set_option linter.all false
namespace Go.Proofs.YtadnemjjlacolaaGreat
open Go
set_option maxRecDepth 100000
theorem Xc:(mapsRowed Tryz.pinned.checked.prog)=true:=by kernel_rfl
theorem Yg:(Tryz.f9.params.all (Tryz.pinned.checked.prog.readableRec ·))=true:=by kernel_rfl
theorem Xd:(namedTie Tryz.pinned.checked.prog Rows.coreIdealUptoRow.named Rows.coreIdealSpec.vars)=true:=by kernel_rfl
theorem X0:((Rows.coreIdealUptoRow.stops == []))=true:=by kernel_rfl
theorem Yb:((Tryz.pinned.checked.prog.stops == []))=true:=by kernel_rfl
theorem Xv:((Rows.coreIdealUptoRow.knobs == []))=true:=by kernel_rfl
theorem Xw:((Tryz.pinned.checked.prog.stopKnobs == []))=true:=by kernel_rfl
theorem Q8:((Rows.coreIdealUptoRow.maps == (Tryz.f9.params.toList++Rows.coreIdealSpec.plain.varTypes Tryz.pinned.checked.prog).any (Tryz.pinned.checked.prog.mapsRec ·)))=true:=by kernel_rfl
theorem Rx:((Rows.coreIdealUptoRow.ifaces == (Tryz.f9.params.toList++Rows.coreIdealSpec.plain.varTypes Tryz.pinned.checked.prog).any (Tryz.pinned.checked.prog.ifacesRec ·)))=true:=by kernel_rfl
theorem Rb:((Rows.coreIdealUptoRow.mapsOut == Tryz.pinned.checked.prog.mapsAmong Tryz.f9.resultTypes.toList))=true:=by kernel_rfl
theorem R8:((Rows.coreIdealUptoRow.loops == (Tryz.f9.params.toList++Rows.coreIdealSpec.plain.varTypes Tryz.pinned.checked.prog).any (Tryz.pinned.checked.prog.loopsFrom ·)))=true:=by kernel_rfl
theorem Ro:((Rows.coreIdealUptoRow.wideKeys == (Tryz.f9.params.toList++Rows.coreIdealSpec.plain.varTypes Tryz.pinned.checked.prog++Tryz.f9.resultTypes.toList).any (Tryz.pinned.checked.prog.wideKeysFrom ·)))=true:=by kernel_rfl
theorem Ra:(Rows.coreIdealSpec.vars.all (Tryz.pinned.checked.prog.varReadable ·))=true:=by kernel_rfl
theorem Sf:(Tryz.f9.resultTypes.all (fun t=>Tryz.pinned.checked.prog.readableRec t&&decide (t<Tryz.pinned.checked.prog.types.size)))=true:=by kernel_rfl
theorem Rf:((Rows.coreIdealUptoRow.ifacesOut == Tryz.f9.resultTypes.toList.any (Tryz.pinned.checked.prog.ifacesRec ·)))=true:=by kernel_rfl
theorem Sj:((Rows.coreIdealUptoRow.loopsOut == Tryz.f9.resultTypes.toList.any (Tryz.pinned.checked.prog.loopsFrom ·)))=true:=by kernel_rfl
theorem R9:((Rows.coreIdealUptoRow.plainKeys == Tryz.pinned.checked.prog.plainKeys))=true:=by kernel_rfl
theorem R6:(Rows.coreIdealUptoRow.shortTexts.isNone)=true:=by kernel_rfl
theorem Rw:(Tryz.pinned.checked.prog.stopsHeard)=true:=by kernel_rfl
theorem Q7:(Tryz.pinned.checked.prog.mayEnter)=true:=by kernel_rfl
theorem Ry:((Rows.coreIdealUptoRow.lifted == Tryz.pinned.checked.prog.liftsFinal))=true:=by kernel_rfl
theorem R7:((Tryz.pinned.checked.prog.make == some Rows.coreIdealUptoRow.make))=true:=by kernel_rfl
theorem Rk:((Rows.coreIdealUptoRow.kinds == (if Rows.coreIdealUptoRow.domain.isEmpty then[]else Tryz.f9.params.toList.map fun t=>match Tryz.pinned.checked.prog.underlying t with|some (.int k)=>some k|_=>none)))=true:=by kernel_rfl
theorem Sa:((Rows.coreIdealUptoRow.pinned == Rows.coreIdealUptoRow.pinnedBy))=true:=by kernel_rfl
theorem Sh:((Rows.coreIdealUptoRow.veiled == (Tryz.f9.params.toList++Rows.coreIdealSpec.plain.varTypes Tryz.pinned.checked.prog++Tryz.f9.resultTypes.toList).any (Tryz.pinned.checked.prog.veiledRec ·)))=true:=by kernel_rfl
theorem Rn:(Rows.coreIdealUptoRow.veiledFits Tryz.pinned.checked.prog Tryz.f9.params.toList (Tryz.f9.params.toList++Rows.coreIdealSpec.plain.varTypes Tryz.pinned.checked.prog++Tryz.f9.resultTypes.toList))=true:=by kernel_rfl
end Go.Proofs.YtadnemjjlacolaaGreat
