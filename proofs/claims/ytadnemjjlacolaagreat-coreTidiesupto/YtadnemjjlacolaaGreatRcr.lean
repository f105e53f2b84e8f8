import Derived.Test.YtadnemjjlacolaaGreatRows
import Derived.JoinedOf
import Derived.KernelRfl
set_option linter.all false
namespace Go.Proofs.YtadnemjjlacolaaGreat
open Go
set_option maxRecDepth 100000
theorem Xc:(mapsRowed Tryz.pinned.checked.prog)=true:=by kernel_rfl
theorem Yg:(Tryz.f8.params.all (Tryz.pinned.checked.prog.readableRec ·))=true:=by kernel_rfl
theorem Xd:(namedTie Tryz.pinned.checked.prog Rows.coreTidiesUptoRow.named Rows.coreTidiesSpec.vars)=true:=by kernel_rfl
theorem X0:((Rows.coreTidiesUptoRow.stops == []))=true:=by kernel_rfl
theorem Yb:((Tryz.pinned.checked.prog.stops == []))=true:=by kernel_rfl
theorem Xv:((Rows.coreTidiesUptoRow.knobs == []))=true:=by kernel_rfl
theorem Xw:((Tryz.pinned.checked.prog.stopKnobs == []))=true:=by kernel_rfl
theorem Q8:((Rows.coreTidiesUptoRow.maps == (Tryz.f8.params.toList++Rows.coreTidiesSpec.plain.varTypes Tryz.pinned.checked.prog).any (Tryz.pinned.checked.prog.mapsRec ·)))=true:=by kernel_rfl
theorem Rx:((Rows.coreTidiesUptoRow.ifaces == (Tryz.f8.params.toList++Rows.coreTidiesSpec.plain.varTypes Tryz.pinned.checked.prog).any (Tryz.pinned.checked.prog.ifacesRec ·)))=true:=by kernel_rfl
theorem Rb:((Rows.coreTidiesUptoRow.mapsOut == Tryz.pinned.checked.prog.mapsAmong Tryz.f8.resultTypes.toList))=true:=by kernel_rfl
theorem R8:((Rows.coreTidiesUptoRow.loops == (Tryz.f8.params.toList++Rows.coreTidiesSpec.plain.varTypes Tryz.pinned.checked.prog).any (Tryz.pinned.checked.prog.loopsFrom ·)))=true:=by kernel_rfl
theorem Ro:((Rows.coreTidiesUptoRow.wideKeys == (Tryz.f8.params.toList++Rows.coreTidiesSpec.plain.varTypes Tryz.pinned.checked.prog++Tryz.f8.resultTypes.toList).any (Tryz.pinned.checked.prog.wideKeysFrom ·)))=true:=by kernel_rfl
theorem Ra:(Rows.coreTidiesSpec.vars.all (Tryz.pinned.checked.prog.varReadable ·))=true:=by kernel_rfl
theorem Sf:(Tryz.f8.resultTypes.all (fun t=>Tryz.pinned.checked.prog.readableRec t&&decide (t<Tryz.pinned.checked.prog.types.size)))=true:=by kernel_rfl
theorem Rf:((Rows.coreTidiesUptoRow.ifacesOut == Tryz.f8.resultTypes.toList.any (Tryz.pinned.checked.prog.ifacesRec ·)))=true:=by kernel_rfl
theorem Sj:((Rows.coreTidiesUptoRow.loopsOut == Tryz.f8.resultTypes.toList.any (Tryz.pinned.checked.prog.loopsFrom ·)))=true:=by kernel_rfl
theorem R9:((Rows.coreTidiesUptoRow.plainKeys == Tryz.pinned.checked.prog.plainKeys))=true:=by kernel_rfl
theorem R6:(Rows.coreTidiesUptoRow.shortTexts.isNone)=true:=by kernel_rfl
theorem Rw:(Tryz.pinned.checked.prog.stopsHeard)=true:=by kernel_rfl
theorem Q7:(Tryz.pinned.checked.prog.mayEnter)=true:=by kernel_rfl
theorem Ry:((Rows.coreTidiesUptoRow.lifted == Tryz.pinned.checked.prog.liftsFinal))=true:=by kernel_rfl
theorem R7:((Tryz.pinned.checked.prog.make == some Rows.coreTidiesUptoRow.make))=true:=by kernel_rfl
theorem Rk:((Rows.coreTidiesUptoRow.kinds == (if Rows.coreTidiesUptoRow.domain.isEmpty then[]else Tryz.f8.params.toList.map fun t=>match Tryz.pinned.checked.prog.underlying t with|some (.int k)=>some k|_=>none)))=true:=by kernel_rfl
theorem Sa:((Rows.coreTidiesUptoRow.pinned == Rows.coreTidiesUptoRow.pinnedBy))=true:=by kernel_rfl
theorem Sh:((Rows.coreTidiesUptoRow.veiled == (Tryz.f8.params.toList++Rows.coreTidiesSpec.plain.varTypes Tryz.pinned.checked.prog++Tryz.f8.resultTypes.toList).any (Tryz.pinned.checked.prog.veiledRec ·)))=true:=by kernel_rfl
theorem Rn:(Rows.coreTidiesUptoRow.veiledFits Tryz.pinned.checked.prog Tryz.f8.params.toList (Tryz.f8.params.toList++Rows.coreTidiesSpec.plain.varTypes Tryz.pinned.checked.prog++Tryz.f8.resultTypes.toList))=true:=by kernel_rfl
end Go.Proofs.YtadnemjjlacolaaGreat
