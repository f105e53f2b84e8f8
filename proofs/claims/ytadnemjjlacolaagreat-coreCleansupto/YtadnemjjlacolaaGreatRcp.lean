import Derived.Test.YtadnemjjlacolaaGreatRows
import Derived.JoinedOf
import Derived.KernelRfl
set_option linter.all false
namespace Go.Proofs.YtadnemjjlacolaaGreat
open Go
set_option maxRecDepth 100000
theorem Xc:(mapsRowed Tryz.pinned.checked.prog)=true:=by kernel_rfl
theorem Yg:(Tryz.f5.params.all (Tryz.pinned.checked.prog.readableRec ·))=true:=by kernel_rfl
theorem Xd:(namedTie Tryz.pinned.checked.prog Rows.coreCleansUptoRow.named Rows.coreCleansSpec.vars)=true:=by kernel_rfl
theorem X0:((Rows.coreCleansUptoRow.stops == []))=true:=by kernel_rfl
theorem Yb:((Tryz.pinned.checked.prog.stops == []))=true:=by kernel_rfl
theorem Xv:((Rows.coreCleansUptoRow.knobs == []))=true:=by kernel_rfl
theorem Xw:((Tryz.pinned.checked.prog.stopKnobs == []))=true:=by kernel_rfl
theorem Q8:((Rows.coreCleansUptoRow.maps == (Tryz.f5.params.toList++Rows.coreCleansSpec.plain.varTypes Tryz.pinned.checked.prog).any (Tryz.pinned.checked.prog.mapsRec ·)))=true:=by kernel_rfl
theorem Rx:((Rows.coreCleansUptoRow.ifaces == (Tryz.f5.params.toList++Rows.coreCleansSpec.plain.varTypes Tryz.pinned.checked.prog).any (Tryz.pinned.checked.prog.ifacesRec ·)))=true:=by kernel_rfl
theorem Rb:((Rows.coreCleansUptoRow.mapsOut == Tryz.pinned.checked.prog.mapsAmong Tryz.f5.resultTypes.toList))=true:=by kernel_rfl
theorem R8:((Rows.coreCleansUptoRow.loops == (Tryz.f5.params.toList++Rows.coreCleansSpec.plain.varTypes Tryz.pinned.checked.prog).any (Tryz.pinned.checked.prog.loopsFrom ·)))=true:=by kernel_rfl
theorem Ro:((Rows.coreCleansUptoRow.wideKeys == (Tryz.f5.params.toList++Rows.coreCleansSpec.plain.varTypes Tryz.pinned.checked.prog++Tryz.f5.resultTypes.toList).any (Tryz.pinned.checked.prog.wideKeysFrom ·)))=true:=by kernel_rfl
theorem Ra:(Rows.coreCleansSpec.vars.all (Tryz.pinned.checked.prog.varReadable ·))=true:=by kernel_rfl
theorem Sf:(Tryz.f5.resultTypes.all (fun t=>Tryz.pinned.checked.prog.readableRec t&&decide (t<Tryz.pinned.checked.prog.types.size)))=true:=by kernel_rfl
theorem Rf:((Rows.coreCleansUptoRow.ifacesOut == Tryz.f5.resultTypes.toList.any (Tryz.pinned.checked.prog.ifacesRec ·)))=true:=by kernel_rfl
theorem Sj:((Rows.coreCleansUptoRow.loopsOut == Tryz.f5.resultTypes.toList.any (Tryz.pinned.checked.prog.loopsFrom ·)))=true:=by kernel_rfl
theorem R9:((Rows.coreCleansUptoRow.plainKeys == Tryz.pinned.checked.prog.plainKeys))=true:=by kernel_rfl
theorem R6:(Rows.coreCleansUptoRow.shortTexts.isNone)=true:=by kernel_rfl
theorem Rw:(Tryz.pinned.checked.prog.stopsHeard)=true:=by kernel_rfl
theorem Q7:(Tryz.pinned.checked.prog.mayEnter)=true:=by kernel_rfl
theorem Ry:((Rows.coreCleansUptoRow.lifted == Tryz.pinned.checked.prog.liftsFinal))=true:=by kernel_rfl
theorem R7:((Tryz.pinned.checked.prog.make == some Rows.coreCleansUptoRow.make))=true:=by kernel_rfl
theorem Rk:((Rows.coreCleansUptoRow.kinds == (if Rows.coreCleansUptoRow.domain.isEmpty then[]else Tryz.f5.params.toList.map fun t=>match Tryz.pinned.checked.prog.underlying t with|some (.int k)=>some k|_=>none)))=true:=by kernel_rfl
theorem Sa:((Rows.coreCleansUptoRow.pinned == Rows.coreCleansUptoRow.pinnedBy))=true:=by kernel_rfl
theorem Sh:((Rows.coreCleansUptoRow.veiled == (Tryz.f5.params.toList++Rows.coreCleansSpec.plain.varTypes Tryz.pinned.checked.prog++Tryz.f5.resultTypes.toList).any (Tryz.pinned.checked.prog.veiledRec ·)))=true:=by kernel_rfl
theorem Rn:(Rows.coreCleansUptoRow.veiledFits Tryz.pinned.checked.prog Tryz.f5.params.toList (Tryz.f5.params.toList++Rows.coreCleansSpec.plain.varTypes Tryz.pinned.checked.prog++Tryz.f5.resultTypes.toList))=true:=by kernel_rfl
end Go.Proofs.YtadnemjjlacolaaGreat
