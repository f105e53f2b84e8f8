import Derived.Test.YtokpnommcenoaaaGreatRows
import Derived.JoinedOf
import Derived.KernelRfl
set_option linter.all false
namespace Go.Proofs.YtokpnommcenoaaaGreat
open Go
set_option maxRecDepth 100000
theorem Bi5:(mapsRowed Tryz.pinned.checked.prog)=true:=by kernel_rfl
theorem Bjp:(Tryz.f3.params.all (Tryz.pinned.checked.prog.readableRec ·))=true:=by kernel_rfl
theorem Bgh:(namedTie Tryz.pinned.checked.prog Rows.coreVictimUptoRow.named Rows.coreVictimSpec.vars)=true:=by kernel_rfl
theorem Bih:((Rows.coreVictimUptoRow.stops == []))=true:=by kernel_rfl
theorem Bg8:((Tryz.pinned.checked.prog.stops == []))=true:=by kernel_rfl
theorem Bjr:((Rows.coreVictimUptoRow.knobs == []))=true:=by kernel_rfl
theorem Bke:((Tryz.pinned.checked.prog.stopKnobs == []))=true:=by kernel_rfl
theorem Bf3:((Rows.coreVictimUptoRow.maps == (Tryz.f3.params.toList++Rows.coreVictimSpec.plain.varTypes Tryz.pinned.checked.prog).any (Tryz.pinned.checked.prog.mapsRec ·)))=true:=by kernel_rfl
theorem Bcy:((Rows.coreVictimUptoRow.ifaces == (Tryz.f3.params.toList++Rows.coreVictimSpec.plain.varTypes Tryz.pinned.checked.prog).any (Tryz.pinned.checked.prog.ifacesRec ·)))=true:=by kernel_rfl
theorem Beh:((Rows.coreVictimUptoRow.mapsOut == Tryz.pinned.checked.prog.mapsAmong Tryz.f3.resultTypes.toList))=true:=by kernel_rfl
theorem Bc8:((Rows.coreVictimUptoRow.loops == (Tryz.f3.params.toList++Rows.coreVictimSpec.plain.varTypes Tryz.pinned.checked.prog).any (Tryz.pinned.checked.prog.loopsFrom ·)))=true:=by kernel_rfl
theorem Bdw:((Rows.coreVictimUptoRow.wideKeys == (Tryz.f3.params.toList++Rows.coreVictimSpec.plain.varTypes Tryz.pinned.checked.prog++Tryz.f3.resultTypes.toList).any (Tryz.pinned.checked.prog.wideKeysFrom ·)))=true:=by kernel_rfl
theorem Bf0:(Rows.coreVictimSpec.vars.all (Tryz.pinned.checked.prog.varReadable ·))=true:=by kernel_rfl
theorem Bdh:(Tryz.f3.resultTypes.all (fun t=>Tryz.pinned.checked.prog.readableRec t&&decide (t<Tryz.pinned.checked.prog.types.size)))=true:=by kernel_rfl
theorem Bet:((Rows.coreVictimUptoRow.ifacesOut == Tryz.f3.resultTypes.toList.any (Tryz.pinned.checked.prog.ifacesRec ·)))=true:=by kernel_rfl
theorem Bdj:((Rows.coreVictimUptoRow.loopsOut == Tryz.f3.resultTypes.toList.any (Tryz.pinned.checked.prog.loopsFrom ·)))=true:=by kernel_rfl
theorem Bdv:((Rows.coreVictimUptoRow.plainKeys == Tryz.pinned.checked.prog.plainKeys))=true:=by kernel_rfl
theorem Bfe:(Rows.coreVictimUptoRow.shortTexts.isNone)=true:=by kernel_rfl
theorem Beg:(Tryz.pinned.checked.prog.stopsHeard)=true:=by kernel_rfl
theorem Bds:(Tryz.pinned.checked.prog.mayEnter)=true:=by kernel_rfl
theorem Bf9:((Rows.coreVictimUptoRow.lifted == Tryz.pinned.checked.prog.liftsFinal))=true:=by kernel_rfl
theorem Bfs:((Tryz.pinned.checked.prog.make == some Rows.coreVictimUptoRow.make))=true:=by kernel_rfl
theorem Bct:((Rows.coreVictimUptoRow.kinds == (if Rows.coreVictimUptoRow.domain.isEmpty then[]else Tryz.f3.params.toList.map fun t=>match Tryz.pinned.checked.prog.underlying t with|some (.int k)=>some k|_=>none)))=true:=by kernel_rfl
theorem Bfo:((Rows.coreVictimUptoRow.pinned == Rows.coreVictimUptoRow.pinnedBy))=true:=by kernel_rfl
theorem Bdt:((Rows.coreVictimUptoRow.veiled == (Tryz.f3.params.toList++Rows.coreVictimSpec.plain.varTypes Tryz.pinned.checked.prog++Tryz.f3.resultTypes.toList).any (Tryz.pinned.checked.prog.veiledRec ·)))=true:=by kernel_rfl
theorem Bek:(Rows.coreVictimUptoRow.veiledFits Tryz.pinned.checked.prog Tryz.f3.params.toList (Tryz.f3.params.toList++Rows.coreVictimSpec.plain.varTypes Tryz.pinned.checked.prog++Tryz.f3.resultTypes.toList))=true:=by kernel_rfl
end Go.Proofs.YtokpnommcenoaaaGreat
