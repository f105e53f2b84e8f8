import Derived.Test.YtokpnommcenoaaaGreatRows
import Derived.JoinedOf
import Derived.KernelRfl
set_option linter.all false
namespace Go.Proofs.YtokpnommcenoaaaGreat
open Go
set_option maxRecDepth 100000
theorem Bmk:(mapsRowed Tryz.pinned.checked.prog)=true:=by kernel_rfl
theorem Bou:(Tryz.f5.params.all (Tryz.pinned.checked.prog.readableRec ·))=true:=by kernel_rfl
theorem Bk4:(namedTie Tryz.pinned.checked.prog Rows.scrubPassesRow.named Rows.scrubPassesSpec.vars)=true:=by kernel_rfl
theorem Bl4:((Rows.scrubPassesRow.stops == []))=true:=by kernel_rfl
theorem Boh:((Tryz.pinned.checked.prog.stops == []))=true:=by kernel_rfl
theorem Bll:((Rows.scrubPassesRow.knobs == []))=true:=by kernel_rfl
theorem Boq:((Tryz.pinned.checked.prog.stopKnobs == []))=true:=by kernel_rfl
theorem Bjs:((Rows.scrubPassesRow.maps == (Tryz.f5.params.toList++Rows.scrubPassesSpec.plain.varTypes Tryz.pinned.checked.prog).any (Tryz.pinned.checked.prog.mapsRec ·)))=true:=by kernel_rfl
theorem Bkk:((Rows.scrubPassesRow.ifaces == (Tryz.f5.params.toList++Rows.scrubPassesSpec.plain.varTypes Tryz.pinned.checked.prog).any (Tryz.pinned.checked.prog.ifacesRec ·)))=true:=by kernel_rfl
theorem Bhc:((Rows.scrubPassesRow.mapsOut == Tryz.pinned.checked.prog.mapsAmong Tryz.f5.resultTypes.toList))=true:=by kernel_rfl
theorem Bi2:((Rows.scrubPassesRow.loops == (Tryz.f5.params.toList++Rows.scrubPassesSpec.plain.varTypes Tryz.pinned.checked.prog).any (Tryz.pinned.checked.prog.loopsFrom ·)))=true:=by kernel_rfl
theorem Bht:((Rows.scrubPassesRow.wideKeys == (Tryz.f5.params.toList++Rows.scrubPassesSpec.plain.varTypes Tryz.pinned.checked.prog++Tryz.f5.resultTypes.toList).any (Tryz.pinned.checked.prog.wideKeysFrom ·)))=true:=by kernel_rfl
theorem Bjb:(Rows.scrubPassesSpec.vars.all (Tryz.pinned.checked.prog.varReadable ·))=true:=by kernel_rfl
theorem Bik:(Tryz.f5.resultTypes.all (fun t=>Tryz.pinned.checked.prog.readableRec t&&decide (t<Tryz.pinned.checked.prog.types.size)))=true:=by kernel_rfl
theorem Bh5:((Rows.scrubPassesRow.ifacesOut == Tryz.f5.resultTypes.toList.any (Tryz.pinned.checked.prog.ifacesRec ·)))=true:=by kernel_rfl
theorem Bkf:((Rows.scrubPassesRow.loopsOut == Tryz.f5.resultTypes.toList.any (Tryz.pinned.checked.prog.loopsFrom ·)))=true:=by kernel_rfl
theorem Bj8:((Rows.scrubPassesRow.plainKeys == Tryz.pinned.checked.prog.plainKeys))=true:=by kernel_rfl
theorem Bjl:(Rows.scrubPassesRow.shortTexts.isNone)=true:=by kernel_rfl
theorem Bke:(Tryz.pinned.checked.prog.stopsHeard)=true:=by kernel_rfl
theorem Bjh:(Tryz.pinned.checked.prog.mayEnter)=true:=by kernel_rfl
theorem Bg2:((Rows.scrubPassesRow.lifted == Tryz.pinned.checked.prog.liftsFinal))=true:=by kernel_rfl
theorem Bi8:((Tryz.pinned.checked.prog.make == some Rows.scrubPassesRow.make))=true:=by kernel_rfl
theorem Bjk:((Rows.scrubPassesRow.kinds == (if Rows.scrubPassesRow.domain.isEmpty then[]else Tryz.f5.params.toList.map fun t=>match Tryz.pinned.checked.prog.underlying t with|some (.int k)=>some k|_=>none)))=true:=by kernel_rfl
theorem Biw:((Rows.scrubPassesRow.pinned == Rows.scrubPassesRow.pinnedBy))=true:=by kernel_rfl
theorem Bia:((Rows.scrubPassesRow.veiled == (Tryz.f5.params.toList++Rows.scrubPassesSpec.plain.varTypes Tryz.pinned.checked.prog++Tryz.f5.resultTypes.toList).any (Tryz.pinned.checked.prog.veiledRec ·)))=true:=by kernel_rfl
theorem Bi3:(Rows.scrubPassesRow.veiledFits Tryz.pinned.checked.prog Tryz.f5.params.toList (Tryz.f5.params.toList++Rows.scrubPassesSpec.plain.varTypes Tryz.pinned.checked.prog++Tryz.f5.resultTypes.toList))=true:=by kernel_rfl
end Go.Proofs.YtokpnommcenoaaaGreat
