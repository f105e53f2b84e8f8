import Derived.Test.YtadnemjjlacolaaGreatRows
import Derived.JoinedOf
import Derived.KernelRfl
set_option linter.all false
namespace Go.Proofs.YtadnemjjlacolaaGreat
open Go
set_option maxRecDepth 100000
theorem Xc:(mapsRowed Tryz.pinned.checked.prog)=true:=by kernel_rfl
theorem Yg:(Tryz.f6.params.all (Tryz.pinned.checked.prog.readableRec ·))=true:=by kernel_rfl
theorem Xd:(namedTie Tryz.pinned.checked.prog Rows.coreTrimsUptoRow.named Rows.coreTrimsSpec.vars)=true:=by kernel_rfl
theorem X0:((Rows.coreTrimsUptoRow.stops == []))=true:=by kernel_rfl
theorem Yb:((Tryz.pinned.checked.prog.stops == []))=true:=by kernel_rfl
theorem Xv:((Rows.coreTrimsUptoRow.knobs == []))=true:=by kernel_rfl
theorem Xw:((Tryz.pinned.checked.prog.stopKnobs == []))=true:=by kernel_rfl
theorem Q8:((Rows.coreTrimsUptoRow.maps == (Tryz.f6.params.toList++Rows.coreTrimsSpec.plain.varTypes Tryz.pinned.checked.prog).any (Tryz.pinned.checked.prog.mapsRec ·)))=true:=by kernel_rfl
theorem Rx:((Rows.coreTrimsUptoRow.ifaces == (Tryz.f6.params.toList++Rows.coreTrimsSpec.plain.varTypes Tryz.pinned.checked.prog).any (Tryz.pinned.checked.prog.ifacesRec ·)))=true:=by kernel_rfl
theorem Rb:((Rows.coreTrimsUptoRow.mapsOut == Tryz.pinned.checked.prog.mapsAmong Tryz.f6.resultTypes.toList))=true:=by kernel_rfl
theorem R8:((Rows.coreTrimsUptoRow.loops == (Tryz.f6.params.toList++Rows.coreTrimsSpec.plain.varTypes Tryz.pinned.checked.prog).any (Tryz.pinned.checked.prog.loopsFrom ·)))=true:=by kernel_rfl
theorem Ro:((Rows.coreTrimsUptoRow.wideKeys == (Tryz.f6.params.toList++Rows.coreTrimsSpec.plain.varTypes Tryz.pinned.checked.prog++Tryz.f6.resultTypes.toList).any (Tryz.pinned.checked.prog.wideKeysFrom ·)))=true:=by kernel_rfl
theorem Ra:(Rows.coreTrimsSpec.vars.all (Tryz.pinned.checked.prog.varReadable ·))=true:=by kernel_rfl
theorem Sf:(Tryz.f6.resultTypes.all (fun t=>Tryz.pinned.checked.prog.readableRec t&&decide (t<Tryz.pinned.checked.prog.types.size)))=true:=by kernel_rfl
theorem Rf:((Rows.coreTrimsUptoRow.ifacesOut == Tryz.f6.resultTypes.toList.any (Tryz.pinned.checked.prog.ifacesRec ·)))=true:=by kernel_rfl
theorem Sj:((Rows.coreTrimsUptoRow.loopsOut == Tryz.f6.resultTypes.toList.any (Tryz.pinned.checked.prog.loopsFrom ·)))=true:=by kernel_rfl
theorem R9:((Rows.coreTrimsUptoRow.plainKeys == Tryz.pinned.checked.prog.plainKeys))=true:=by kernel_rfl
theorem R6:(Rows.coreTrimsUptoRow.shortTexts.isNone)=true:=by kernel_rfl
theorem Rw:(Tryz.pinned.checked.prog.stopsHeard)=true:=by kernel_rfl
theorem Q7:(Tryz.pinned.checked.prog.mayEnter)=true:=by kernel_rfl
theorem Ry:((Rows.coreTrimsUptoRow.lifted == Tryz.pinned.checked.prog.liftsFinal))=true:=by kernel_rfl
theorem R7:((Tryz.pinned.checked.prog.make == some Rows.coreTrimsUptoRow.make))=true:=by kernel_rfl
theorem Rk:((Rows.coreTrimsUptoRow.kinds == (if Rows.coreTrimsUptoRow.domain.isEmpty then[]else Tryz.f6.params.toList.map fun t=>match Tryz.pinned.checked.prog.underlying t with|some (.int k)=>some k|_=>none)))=true:=by kernel_rfl
theorem Sa:((Rows.coreTrimsUptoRow.pinned == Rows.coreTrimsUptoRow.pinnedBy))=true:=by kernel_rfl
theorem Sh:((Rows.coreTrimsUptoRow.veiled == (Tryz.f6.params.toList++Rows.coreTrimsSpec.plain.varTypes Tryz.pinned.checked.prog++Tryz.f6.resultTypes.toList).any (Tryz.pinned.checked.prog.veiledRec ·)))=true:=by kernel_rfl
theorem Rn:(Rows.coreTrimsUptoRow.veiledFits Tryz.pinned.checked.prog Tryz.f6.params.toList (Tryz.f6.params.toList++Rows.coreTrimsSpec.plain.varTypes Tryz.pinned.checked.prog++Tryz.f6.resultTypes.toList))=true:=by kernel_rfl
end Go.Proofs.YtadnemjjlacolaaGreat
