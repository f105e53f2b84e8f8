import Derived.Test.YtpkcfamminlmaaaGreatRows
import Derived.JoinedOf
import Derived.KernelRfl
set_option linter.unusedVariables false
set_option linter.unusedSimpArgs false
set_option linter.unusedSectionVars false
namespace Go.Proofs.YtpkcfamminlmaaaGreat
open Go
set_option maxRecDepth 100000
theorem A1z:(mapsRowed Tryz.pinned.checked.prog)=true:=by kernel_rfl
theorem Ay7:(Tryz.f8.params.all (Tryz.pinned.checked.prog.readableRec ·))=true:=by kernel_rfl
theorem Azr:(namedTie Tryz.pinned.checked.prog Rows.mirrorApartRow.named Rows.mirrorApartSpec.vars)=true:=by kernel_rfl
theorem Ay0:((Rows.mirrorApartRow.stops == []))=true:=by kernel_rfl
theorem A0d:((Tryz.pinned.checked.prog.stops == []))=true:=by kernel_rfl
theorem A0z:((Rows.mirrorApartRow.knobs == []))=true:=by kernel_rfl
theorem A1w:((Tryz.pinned.checked.prog.stopKnobs == []))=true:=by kernel_rfl
theorem Awu:((Rows.mirrorApartRow.maps == (Tryz.f8.params.toList++Rows.mirrorApartSpec.plain.varTypes Tryz.pinned.checked.prog).any (Tryz.pinned.checked.prog.mapsRec ·)))=true:=by kernel_rfl
theorem Axm:((Rows.mirrorApartRow.ifaces == (Tryz.f8.params.toList++Rows.mirrorApartSpec.plain.varTypes Tryz.pinned.checked.prog).any (Tryz.pinned.checked.prog.ifacesRec ·)))=true:=by kernel_rfl
theorem Awn:((Rows.mirrorApartRow.mapsOut == Tryz.pinned.checked.prog.mapsAmong Tryz.f8.resultTypes.toList))=true:=by kernel_rfl
theorem Awk:((Rows.mirrorApartRow.loops == (Tryz.f8.params.toList++Rows.mirrorApartSpec.plain.varTypes Tryz.pinned.checked.prog).any (Tryz.pinned.checked.prog.loopsFrom ·)))=true:=by kernel_rfl
theorem Axo:((Rows.mirrorApartRow.wideKeys == (Tryz.f8.params.toList++Rows.mirrorApartSpec.plain.varTypes Tryz.pinned.checked.prog++Tryz.f8.resultTypes.toList).any (Tryz.pinned.checked.prog.wideKeysFrom ·)))=true:=by kernel_rfl
theorem Awm:(Rows.mirrorApartSpec.vars.all (Tryz.pinned.checked.prog.varReadable ·))=true:=by kernel_rfl
theorem Aye:(Tryz.f8.resultTypes.all (fun t=>Tryz.pinned.checked.prog.readableRec t && decide (t<Tryz.pinned.checked.prog.types.size)))=true:=by kernel_rfl
theorem Axe:((Rows.mirrorApartRow.ifacesOut == Tryz.f8.resultTypes.toList.any (Tryz.pinned.checked.prog.ifacesRec ·)))=true:=by kernel_rfl
theorem Awj:((Rows.mirrorApartRow.loopsOut == Tryz.f8.resultTypes.toList.any (Tryz.pinned.checked.prog.loopsFrom ·)))=true:=by kernel_rfl
theorem Aw9:((Rows.mirrorApartRow.plainKeys == Tryz.pinned.checked.prog.plainKeys))=true:=by kernel_rfl
theorem Aw0:(Rows.mirrorApartRow.shortTexts.isNone)=true:=by kernel_rfl
theorem Ayr:(Tryz.pinned.checked.prog.stopsHeard)=true:=by kernel_rfl
theorem Awo:(Tryz.pinned.checked.prog.mayEnter)=true:=by kernel_rfl
theorem Axw:((Rows.mirrorApartRow.lifted == Tryz.pinned.checked.prog.liftsFinal))=true:=by kernel_rfl
theorem Awb:((Tryz.pinned.checked.prog.make == some Rows.mirrorApartRow.make))=true:=by kernel_rfl
theorem Awz:((Rows.mirrorApartRow.kinds == (if Rows.mirrorApartRow.domain.isEmpty then [] else Tryz.f8.params.toList.map fun t=>match Tryz.pinned.checked.prog.underlying t with|some (.int k)=>some k|_=>none)))=true:=by kernel_rfl
theorem Ayf:((Rows.mirrorApartRow.pinned == Rows.mirrorApartRow.pinnedBy))=true:=by kernel_rfl
theorem Awy:((Rows.mirrorApartRow.veiled == (Tryz.f8.params.toList++Rows.mirrorApartSpec.plain.varTypes Tryz.pinned.checked.prog++Tryz.f8.resultTypes.toList).any (Tryz.pinned.checked.prog.veiledRec ·)))=true:=by kernel_rfl
theorem Ayg:(Rows.mirrorApartRow.veiledFits Tryz.pinned.checked.prog Tryz.f8.params.toList (Tryz.f8.params.toList++Rows.mirrorApartSpec.plain.varTypes Tryz.pinned.checked.prog++Tryz.f8.resultTypes.toList))=true:=by kernel_rfl
end Go.Proofs.YtpkcfamminlmaaaGreat
