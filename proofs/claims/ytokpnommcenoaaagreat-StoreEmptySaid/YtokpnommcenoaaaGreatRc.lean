import Derived.Test.YtokpnommcenoaaaGreatRows
import Derived.JoinedOf
import Derived.KernelRfl
set_option linter.unusedVariables false
set_option linter.unusedSimpArgs false
set_option linter.unusedSectionVars false
namespace Go.Proofs.YtokpnommcenoaaaGreat
open Go
set_option maxRecDepth 100000
theorem Aod:(mapsRowed Tryz.pinned.checked.prog)=true:=by kernel_rfl
theorem Alg:(Tryz.f9.params.all (Tryz.pinned.checked.prog.readableRec ·))=true:=by kernel_rfl
theorem Akf:(namedTie Tryz.pinned.checked.prog Rows.storeEmptyRow.named Rows.storeEmptySpec.vars)=true:=by kernel_rfl
theorem Ajn:((Rows.storeEmptyRow.stops == []))=true:=by kernel_rfl
theorem Aoo:((Tryz.pinned.checked.prog.stops == []))=true:=by kernel_rfl
theorem Aj2:((Rows.storeEmptyRow.knobs == []))=true:=by kernel_rfl
theorem Ajj:((Tryz.pinned.checked.prog.stopKnobs == []))=true:=by kernel_rfl
theorem Aio:((Rows.storeEmptyRow.maps == (Tryz.f9.params.toList++Rows.storeEmptySpec.plain.varTypes Tryz.pinned.checked.prog).any (Tryz.pinned.checked.prog.mapsRec ·)))=true:=by kernel_rfl
theorem Ahm:((Rows.storeEmptyRow.ifaces == (Tryz.f9.params.toList++Rows.storeEmptySpec.plain.varTypes Tryz.pinned.checked.prog).any (Tryz.pinned.checked.prog.ifacesRec ·)))=true:=by kernel_rfl
theorem Aic:((Rows.storeEmptyRow.mapsOut == Tryz.pinned.checked.prog.mapsAmong Tryz.f9.resultTypes.toList))=true:=by kernel_rfl
theorem Ahp:((Rows.storeEmptyRow.loops == (Tryz.f9.params.toList++Rows.storeEmptySpec.plain.varTypes Tryz.pinned.checked.prog).any (Tryz.pinned.checked.prog.loopsFrom ·)))=true:=by kernel_rfl
theorem Ag7:((Rows.storeEmptyRow.wideKeys == (Tryz.f9.params.toList++Rows.storeEmptySpec.plain.varTypes Tryz.pinned.checked.prog++Tryz.f9.resultTypes.toList).any (Tryz.pinned.checked.prog.wideKeysFrom ·)))=true:=by kernel_rfl
theorem Ais:(Rows.storeEmptySpec.vars.all (Tryz.pinned.checked.prog.varReadable ·))=true:=by kernel_rfl
theorem Ah0:(Tryz.f9.resultTypes.all (fun t=>Tryz.pinned.checked.prog.readableRec t && decide (t<Tryz.pinned.checked.prog.types.size)))=true:=by kernel_rfl
theorem Aiz:((Rows.storeEmptyRow.ifacesOut == Tryz.f9.resultTypes.toList.any (Tryz.pinned.checked.prog.ifacesRec ·)))=true:=by kernel_rfl
theorem Ag6:((Rows.storeEmptyRow.loopsOut == Tryz.f9.resultTypes.toList.any (Tryz.pinned.checked.prog.loopsFrom ·)))=true:=by kernel_rfl
theorem Ahj:((Rows.storeEmptyRow.plainKeys == Tryz.pinned.checked.prog.plainKeys))=true:=by kernel_rfl
theorem Ah1:(Rows.storeEmptyRow.shortTexts.isNone)=true:=by kernel_rfl
theorem Ah2:(Tryz.pinned.checked.prog.stopsHeard)=true:=by kernel_rfl
theorem Ah7:(Tryz.pinned.checked.prog.mayEnter)=true:=by kernel_rfl
theorem Ahx:((Rows.storeEmptyRow.lifted == Tryz.pinned.checked.prog.liftsFinal))=true:=by kernel_rfl
theorem Aix:((Tryz.pinned.checked.prog.make == some Rows.storeEmptyRow.make))=true:=by kernel_rfl
theorem Ahe:((Rows.storeEmptyRow.kinds == (if Rows.storeEmptyRow.domain.isEmpty then [] else Tryz.f9.params.toList.map fun t=>match Tryz.pinned.checked.prog.underlying t with|some (.int k)=>some k|_=>none)))=true:=by kernel_rfl
theorem Aig:((Rows.storeEmptyRow.pinned == Rows.storeEmptyRow.pinnedBy))=true:=by kernel_rfl
theorem Ahv:((Rows.storeEmptyRow.veiled == (Tryz.f9.params.toList++Rows.storeEmptySpec.plain.varTypes Tryz.pinned.checked.prog++Tryz.f9.resultTypes.toList).any (Tryz.pinned.checked.prog.veiledRec ·)))=true:=by kernel_rfl
theorem Aii:(Rows.storeEmptyRow.veiledFits Tryz.pinned.checked.prog Tryz.f9.params.toList (Tryz.f9.params.toList++Rows.storeEmptySpec.plain.varTypes Tryz.pinned.checked.prog++Tryz.f9.resultTypes.toList))=true:=by kernel_rfl
end Go.Proofs.YtokpnommcenoaaaGreat
