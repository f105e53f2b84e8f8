import Derived.Test.YtllikommdogjcaaGreatRows
import Derived.JoinedOf
import Derived.KernelRfl
set_option linter.all false
namespace Go.Proofs.YtllikommdogjcaaGreat
open Go
set_option maxRecDepth 100000
theorem Bf9:((Rows.scrubFindsRow.inPlace == Tryz.pinned.checked.prog.inPlace 3))=true:=by kernel_rfl
theorem Bjh:((Rows.scrubFindsRow.unfollowed == Tryz.pinned.checked.prog.unfollowed 3))=true:=by kernel_rfl
theorem Bn4:(Rows.scrubFindsRow.wf (OpenSpec.ofChange Rows.scrubFindsSpec))=true:=by kernel_rfl
end Go.Proofs.YtllikommdogjcaaGreat

namespace Go.Proofs.YtllikommdogjcaaGreat
open Go
set_option maxRecDepth 100000
theorem Bh8:((Rows.scrubFindsRow.recurses == Tryz.pinned.checked.prog.recurses 3))=true:=by kernel_rfl
theorem Bhb:((Rows.scrubFindsRow.named == Tryz.pinned.checked.prog.varsNamed 3))=true:=by kernel_rfl
theorem Bj3:(laidOutB Tryz.pinned.checked.prog)=true:=by kernel_rfl
end Go.Proofs.YtllikommdogjcaaGreat

namespace Go.Proofs.YtllikommdogjcaaGreat
open Go
set_option maxRecDepth 100000
theorem Bkk:(mapsRowed Tryz.pinned.checked.prog)=true:=by kernel_rfl
theorem Blh:(Tryz.f3.params.all (Tryz.pinned.checked.prog.readableRec ·))=true:=by kernel_rfl
theorem Bmx:(namedTie Tryz.pinned.checked.prog Rows.scrubFindsRow.named Rows.scrubFindsSpec.vars)=true:=by kernel_rfl
theorem Bjx:((Rows.scrubFindsRow.stops == []))=true:=by kernel_rfl
theorem Bnx:((Tryz.pinned.checked.prog.stops == []))=true:=by kernel_rfl
theorem Bnb:((Rows.scrubFindsRow.knobs == []))=true:=by kernel_rfl
theorem Bkq:((Tryz.pinned.checked.prog.stopKnobs == []))=true:=by kernel_rfl
theorem Bgr:((Rows.scrubFindsRow.maps == (Tryz.f3.params.toList++Rows.scrubFindsSpec.plain.varTypes Tryz.pinned.checked.prog).any (Tryz.pinned.checked.prog.mapsRec ·)))=true:=by kernel_rfl
theorem Bii:((Rows.scrubFindsRow.ifaces == (Tryz.f3.params.toList++Rows.scrubFindsSpec.plain.varTypes Tryz.pinned.checked.prog).any (Tryz.pinned.checked.prog.ifacesRec ·)))=true:=by kernel_rfl
theorem Bjq:((Rows.scrubFindsRow.mapsOut == Tryz.pinned.checked.prog.mapsAmong Tryz.f3.resultTypes.toList))=true:=by kernel_rfl
theorem Bgn:((Rows.scrubFindsRow.loops == (Tryz.f3.params.toList++Rows.scrubFindsSpec.plain.varTypes Tryz.pinned.checked.prog).any (Tryz.pinned.checked.prog.loopsFrom ·)))=true:=by kernel_rfl
theorem Biq:((Rows.scrubFindsRow.wideKeys == (Tryz.f3.params.toList++Rows.scrubFindsSpec.plain.varTypes Tryz.pinned.checked.prog++Tryz.f3.resultTypes.toList).any (Tryz.pinned.checked.prog.wideKeysFrom ·)))=true:=by kernel_rfl
theorem Bix:(Rows.scrubFindsSpec.vars.all (Tryz.pinned.checked.prog.varReadable ·))=true:=by kernel_rfl
theorem Bh3:(Tryz.f3.resultTypes.all (fun t=>Tryz.pinned.checked.prog.readableRec t&&decide (t<Tryz.pinned.checked.prog.types.size)))=true:=by kernel_rfl
theorem Bjs:((Rows.scrubFindsRow.ifacesOut == Tryz.f3.resultTypes.toList.any (Tryz.pinned.checked.prog.ifacesRec ·)))=true:=by kernel_rfl
theorem Bhh:((Rows.scrubFindsRow.loopsOut == Tryz.f3.resultTypes.toList.any (Tryz.pinned.checked.prog.loopsFrom ·)))=true:=by kernel_rfl
theorem Bhu:((Rows.scrubFindsRow.plainKeys == Tryz.pinned.checked.prog.plainKeys))=true:=by kernel_rfl
theorem Bid:(Rows.scrubFindsRow.shortTexts.isNone)=true:=by kernel_rfl
theorem Bh5:(Tryz.pinned.checked.prog.stopsHeard)=true:=by kernel_rfl
theorem Bga:(Tryz.pinned.checked.prog.mayEnter)=true:=by kernel_rfl
theorem Bgo:((Rows.scrubFindsRow.lifted == Tryz.pinned.checked.prog.liftsFinal))=true:=by kernel_rfl
theorem Bh7:((Tryz.pinned.checked.prog.make == some Rows.scrubFindsRow.make))=true:=by kernel_rfl
theorem Bic:((Rows.scrubFindsRow.kinds == (if Rows.scrubFindsRow.domain.isEmpty then[]else Tryz.f3.params.toList.map fun t=>match Tryz.pinned.checked.prog.underlying t with|some (.int k)=>some k|_=>none)))=true:=by kernel_rfl
theorem Bgb:((Rows.scrubFindsRow.pinned == Rows.scrubFindsRow.pinnedBy))=true:=by kernel_rfl
theorem Bjl:((Rows.scrubFindsRow.veiled == (Tryz.f3.params.toList++Rows.scrubFindsSpec.plain.varTypes Tryz.pinned.checked.prog++Tryz.f3.resultTypes.toList).any (Tryz.pinned.checked.prog.veiledRec ·)))=true:=by kernel_rfl
theorem Bip:(Rows.scrubFindsRow.veiledFits Tryz.pinned.checked.prog Tryz.f3.params.toList (Tryz.f3.params.toList++Rows.scrubFindsSpec.plain.varTypes Tryz.pinned.checked.prog++Tryz.f3.resultTypes.toList))=true:=by kernel_rfl
end Go.Proofs.YtllikommdogjcaaGreat
