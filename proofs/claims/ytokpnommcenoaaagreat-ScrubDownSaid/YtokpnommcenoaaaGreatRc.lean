import Derived.Test.YtokpnommcenoaaaGreatRows
import Derived.JoinedOf
import Derived.KernelRfl
set_option linter.all false
namespace Go.Proofs.YtokpnommcenoaaaGreat
open Go
set_option maxRecDepth 100000
theorem Bmv:(mapsRowed Tryz.pinned.checked.prog)=true:=by kernel_rfl
theorem Bma:(Tryz.f4.params.all (Tryz.pinned.checked.prog.readableRec ·))=true:=by kernel_rfl
theorem Bot:(namedTie Tryz.pinned.checked.prog Rows.scrubDownRow.named Rows.scrubDownSpec.vars)=true:=by kernel_rfl
theorem Bm7:((Rows.scrubDownRow.stops == []))=true:=by kernel_rfl
theorem Blu:((Tryz.pinned.checked.prog.stops == []))=true:=by kernel_rfl
theorem Bnx:((Rows.scrubDownRow.knobs == []))=true:=by kernel_rfl
theorem Bnn:((Tryz.pinned.checked.prog.stopKnobs == []))=true:=by kernel_rfl
theorem Bja:((Rows.scrubDownRow.maps == (Tryz.f4.params.toList++Rows.scrubDownSpec.plain.varTypes Tryz.pinned.checked.prog).any (Tryz.pinned.checked.prog.mapsRec ·)))=true:=by kernel_rfl
theorem Bg8:((Rows.scrubDownRow.ifaces == (Tryz.f4.params.toList++Rows.scrubDownSpec.plain.varTypes Tryz.pinned.checked.prog).any (Tryz.pinned.checked.prog.ifacesRec ·)))=true:=by kernel_rfl
theorem Bg7:((Rows.scrubDownRow.mapsOut == Tryz.pinned.checked.prog.mapsAmong Tryz.f4.resultTypes.toList))=true:=by kernel_rfl
theorem Bhl:((Rows.scrubDownRow.loops == (Tryz.f4.params.toList++Rows.scrubDownSpec.plain.varTypes Tryz.pinned.checked.prog).any (Tryz.pinned.checked.prog.loopsFrom ·)))=true:=by kernel_rfl
theorem Bhp:((Rows.scrubDownRow.wideKeys == (Tryz.f4.params.toList++Rows.scrubDownSpec.plain.varTypes Tryz.pinned.checked.prog++Tryz.f4.resultTypes.toList).any (Tryz.pinned.checked.prog.wideKeysFrom ·)))=true:=by kernel_rfl
theorem Bil:(Rows.scrubDownSpec.vars.all (Tryz.pinned.checked.prog.varReadable ·))=true:=by kernel_rfl
theorem Bj4:(Tryz.f4.resultTypes.all (fun t=>Tryz.pinned.checked.prog.readableRec t&&decide (t<Tryz.pinned.checked.prog.types.size)))=true:=by kernel_rfl
theorem Bjo:((Rows.scrubDownRow.ifacesOut == Tryz.f4.resultTypes.toList.any (Tryz.pinned.checked.prog.ifacesRec ·)))=true:=by kernel_rfl
theorem Bjz:((Rows.scrubDownRow.loopsOut == Tryz.f4.resultTypes.toList.any (Tryz.pinned.checked.prog.loopsFrom ·)))=true:=by kernel_rfl
theorem Bjv:((Rows.scrubDownRow.plainKeys == Tryz.pinned.checked.prog.plainKeys))=true:=by kernel_rfl
theorem Bho:(Rows.scrubDownRow.shortTexts.isNone)=true:=by kernel_rfl
theorem Bhk:(Tryz.pinned.checked.prog.stopsHeard)=true:=by kernel_rfl
theorem Bik:(Tryz.pinned.checked.prog.mayEnter)=true:=by kernel_rfl
theorem Bj8:((Rows.scrubDownRow.lifted == Tryz.pinned.checked.prog.liftsFinal))=true:=by kernel_rfl
theorem Bjp:((Tryz.pinned.checked.prog.make == some Rows.scrubDownRow.make))=true:=by kernel_rfl
theorem Biz:((Rows.scrubDownRow.kinds == (if Rows.scrubDownRow.domain.isEmpty then[]else Tryz.f4.params.toList.map fun t=>match Tryz.pinned.checked.prog.underlying t with|some (.int k)=>some k|_=>none)))=true:=by kernel_rfl
theorem Bjm:((Rows.scrubDownRow.pinned == Rows.scrubDownRow.pinnedBy))=true:=by kernel_rfl
theorem Bi8:((Rows.scrubDownRow.veiled == (Tryz.f4.params.toList++Rows.scrubDownSpec.plain.varTypes Tryz.pinned.checked.prog++Tryz.f4.resultTypes.toList).any (Tryz.pinned.checked.prog.veiledRec ·)))=true:=by kernel_rfl
theorem Bg6:(Rows.scrubDownRow.veiledFits Tryz.pinned.checked.prog Tryz.f4.params.toList (Tryz.f4.params.toList++Rows.scrubDownSpec.plain.varTypes Tryz.pinned.checked.prog++Tryz.f4.resultTypes.toList))=true:=by kernel_rfl
end Go.Proofs.YtokpnommcenoaaaGreat
