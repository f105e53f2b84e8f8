import Derived.Test.YtadnemjjlacolaaGreatRows
import Derived.JoinedOf
import Derived.KernelRfl
set_option linter.all false
namespace Go.Proofs.YtadnemjjlacolaaGreat
open Go
set_option maxRecDepth 100000
theorem Bg4:(mapsRowed Tryz.pinned.checked.prog)=true:=by kernel_rfl
theorem Bhs:(Tryz.f7.params.all (Tryz.pinned.checked.prog.readableRec ·))=true:=by kernel_rfl
theorem Bj1:(namedTie Tryz.pinned.checked.prog Rows.coreNumbersUptoRow.named Rows.coreNumbersSpec.vars)=true:=by kernel_rfl
theorem Bjr:((Rows.coreNumbersUptoRow.stops == []))=true:=by kernel_rfl
theorem Bjq:((Tryz.pinned.checked.prog.stops == []))=true:=by kernel_rfl
theorem Bi4:((Rows.coreNumbersUptoRow.knobs == []))=true:=by kernel_rfl
theorem Bjo:((Tryz.pinned.checked.prog.stopKnobs == []))=true:=by kernel_rfl
theorem Beh:((Rows.coreNumbersUptoRow.maps == (Tryz.f7.params.toList++Rows.coreNumbersSpec.plain.varTypes Tryz.pinned.checked.prog).any (Tryz.pinned.checked.prog.mapsRec ·)))=true:=by kernel_rfl
theorem Bd9:((Rows.coreNumbersUptoRow.ifaces == (Tryz.f7.params.toList++Rows.coreNumbersSpec.plain.varTypes Tryz.pinned.checked.prog).any (Tryz.pinned.checked.prog.ifacesRec ·)))=true:=by kernel_rfl
theorem Bc1:((Rows.coreNumbersUptoRow.mapsOut == Tryz.pinned.checked.prog.mapsAmong Tryz.f7.resultTypes.toList))=true:=by kernel_rfl
theorem Bdu:((Rows.coreNumbersUptoRow.loops == (Tryz.f7.params.toList++Rows.coreNumbersSpec.plain.varTypes Tryz.pinned.checked.prog).any (Tryz.pinned.checked.prog.loopsFrom ·)))=true:=by kernel_rfl
theorem Bfk:((Rows.coreNumbersUptoRow.wideKeys == (Tryz.f7.params.toList++Rows.coreNumbersSpec.plain.varTypes Tryz.pinned.checked.prog++Tryz.f7.resultTypes.toList).any (Tryz.pinned.checked.prog.wideKeysFrom ·)))=true:=by kernel_rfl
theorem Be7:(Rows.coreNumbersSpec.vars.all (Tryz.pinned.checked.prog.varReadable ·))=true:=by kernel_rfl
theorem Bc4:(Tryz.f7.resultTypes.all (fun t=>Tryz.pinned.checked.prog.readableRec t&&decide (t<Tryz.pinned.checked.prog.types.size)))=true:=by kernel_rfl
theorem Bfb:((Rows.coreNumbersUptoRow.ifacesOut == Tryz.f7.resultTypes.toList.any (Tryz.pinned.checked.prog.ifacesRec ·)))=true:=by kernel_rfl
theorem Bd5:((Rows.coreNumbersUptoRow.loopsOut == Tryz.f7.resultTypes.toList.any (Tryz.pinned.checked.prog.loopsFrom ·)))=true:=by kernel_rfl
theorem Bez:((Rows.coreNumbersUptoRow.plainKeys == Tryz.pinned.checked.prog.plainKeys))=true:=by kernel_rfl
theorem Be1:(Rows.coreNumbersUptoRow.shortTexts.isNone)=true:=by kernel_rfl
theorem Bdk:(Tryz.pinned.checked.prog.stopsHeard)=true:=by kernel_rfl
theorem Bdg:(Tryz.pinned.checked.prog.mayEnter)=true:=by kernel_rfl
theorem Bee:((Rows.coreNumbersUptoRow.lifted == Tryz.pinned.checked.prog.liftsFinal))=true:=by kernel_rfl
theorem Bf3:((Tryz.pinned.checked.prog.make == some Rows.coreNumbersUptoRow.make))=true:=by kernel_rfl
theorem Be9:((Rows.coreNumbersUptoRow.kinds == (if Rows.coreNumbersUptoRow.domain.isEmpty then[]else Tryz.f7.params.toList.map fun t=>match Tryz.pinned.checked.prog.underlying t with|some (.int k)=>some k|_=>none)))=true:=by kernel_rfl
theorem Bex:((Rows.coreNumbersUptoRow.pinned == Rows.coreNumbersUptoRow.pinnedBy))=true:=by kernel_rfl
theorem Be4:((Rows.coreNumbersUptoRow.veiled == (Tryz.f7.params.toList++Rows.coreNumbersSpec.plain.varTypes Tryz.pinned.checked.prog++Tryz.f7.resultTypes.toList).any (Tryz.pinned.checked.prog.veiledRec ·)))=true:=by kernel_rfl
theorem Bcy:(Rows.coreNumbersUptoRow.veiledFits Tryz.pinned.checked.prog Tryz.f7.params.toList (Tryz.f7.params.toList++Rows.coreNumbersSpec.plain.varTypes Tryz.pinned.checked.prog++Tryz.f7.resultTypes.toList))=true:=by kernel_rfl
end Go.Proofs.YtadnemjjlacolaaGreat
