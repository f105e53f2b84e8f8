import Derived.Test.YtadnemjjlacolaaGreatRows
import Derived.JoinedOf
import Derived.KernelRfl
set_option linter.all false
namespace Go.Proofs.YtadnemjjlacolaaGreat
open Go
set_option maxRecDepth 100000
theorem Xc:(mapsRowed Tryz.pinned.checked.prog)=true:=by kernel_rfl
theorem Yg:(Tryz.f3.params.all (Tryz.pinned.checked.prog.readableRec ·))=true:=by kernel_rfl
theorem Xd:(namedTie Tryz.pinned.checked.prog Rows.coreCopiesUptoRow.named Rows.coreCopiesSpec.vars)=true:=by kernel_rfl
theorem X0:((Rows.coreCopiesUptoRow.stops == []))=true:=by kernel_rfl
theorem Yb:((Tryz.pinned.checked.prog.stops == []))=true:=by kernel_rfl
theorem Xv:((Rows.coreCopiesUptoRow.knobs == []))=true:=by kernel_rfl
theorem Xw:((Tryz.pinned.checked.prog.stopKnobs == []))=true:=by kernel_rfl
theorem Q8:((Rows.coreCopiesUptoRow.maps == (Tryz.f3.params.toList++Rows.coreCopiesSpec.plain.varTypes Tryz.pinned.checked.prog).any (Tryz.pinned.checked.prog.mapsRec ·)))=true:=by kernel_rfl
theorem Rx:((Rows.coreCopiesUptoRow.ifaces == (Tryz.f3.params.toList++Rows.coreCopiesSpec.plain.varTypes Tryz.pinned.checked.prog).any (Tryz.pinned.checked.prog.ifacesRec ·)))=true:=by kernel_rfl
theorem Rb:((Rows.coreCopiesUptoRow.mapsOut == Tryz.pinned.checked.prog.mapsAmong Tryz.f3.resultTypes.toList))=true:=by kernel_rfl
theorem R8:((Rows.coreCopiesUptoRow.loops == (Tryz.f3.params.toList++Rows.coreCopiesSpec.plain.varTypes Tryz.pinned.checked.prog).any (Tryz.pinned.checked.prog.loopsFrom ·)))=true:=by kernel_rfl
theorem Ro:((Rows.coreCopiesUptoRow.wideKeys == (Tryz.f3.params.toList++Rows.coreCopiesSpec.plain.varTypes Tryz.pinned.checked.prog++Tryz.f3.resultTypes.toList).any (Tryz.pinned.checked.prog.wideKeysFrom ·)))=true:=by kernel_rfl
theorem Ra:(Rows.coreCopiesSpec.vars.all (Tryz.pinned.checked.prog.varReadable ·))=true:=by kernel_rfl
theorem Sf:(Tryz.f3.resultTypes.all (fun t=>Tryz.pinned.checked.prog.readableRec t&&decide (t<Tryz.pinned.checked.prog.types.size)))=true:=by kernel_rfl
theorem Rf:((Rows.coreCopiesUptoRow.ifacesOut == Tryz.f3.resultTypes.toList.any (Tryz.pinned.checked.prog.ifacesRec ·)))=true:=by kernel_rfl
theorem Sj:((Rows.coreCopiesUptoRow.loopsOut == Tryz.f3.resultTypes.toList.any (Tryz.pinned.checked.prog.loopsFrom ·)))=true:=by kernel_rfl
theorem R9:((Rows.coreCopiesUptoRow.plainKeys == Tryz.pinned.checked.prog.plainKeys))=true:=by kernel_rfl
theorem R6:(Rows.coreCopiesUptoRow.shortTexts.isNone)=true:=by kernel_rfl
theorem Rw:(Tryz.pinned.checked.prog.stopsHeard)=true:=by kernel_rfl
theorem Q7:(Tryz.pinned.checked.prog.mayEnter)=true:=by kernel_rfl
theorem Ry:((Rows.coreCopiesUptoRow.lifted == Tryz.pinned.checked.prog.liftsFinal))=true:=by kernel_rfl
theorem R7:((Tryz.pinned.checked.prog.make == some Rows.coreCopiesUptoRow.make))=true:=by kernel_rfl
theorem Rk:((Rows.coreCopiesUptoRow.kinds == (if Rows.coreCopiesUptoRow.domain.isEmpty then[]else Tryz.f3.params.toList.map fun t=>match Tryz.pinned.checked.prog.underlying t with|some (.int k)=>some k|_=>none)))=true:=by kernel_rfl
theorem Sa:((Rows.coreCopiesUptoRow.pinned == Rows.coreCopiesUptoRow.pinnedBy))=true:=by kernel_rfl
theorem Sh:((Rows.coreCopiesUptoRow.veiled == (Tryz.f3.params.toList++Rows.coreCopiesSpec.plain.varTypes Tryz.pinned.checked.prog++Tryz.f3.resultTypes.toList).any (Tryz.pinned.checked.prog.veiledRec ·)))=true:=by kernel_rfl
theorem Rn:(Rows.coreCopiesUptoRow.veiledFits Tryz.pinned.checked.prog Tryz.f3.params.toList (Tryz.f3.params.toList++Rows.coreCopiesSpec.plain.varTypes Tryz.pinned.checked.prog++Tryz.f3.resultTypes.toList))=true:=by kernel_rfl
end Go.Proofs.YtadnemjjlacolaaGreat
