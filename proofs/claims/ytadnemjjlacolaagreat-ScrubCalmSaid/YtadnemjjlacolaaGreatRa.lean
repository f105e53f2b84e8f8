import Derived.Test.YtadnemjjlacolaaGreatRows
import Derived.JoinedOf
import Derived.KernelRfl
set_option linter.all false
namespace Go.Proofs.YtadnemjjlacolaaGreat
open Go
set_option maxRecDepth 100000
theorem Bhk:((Rows.scrubCalmRow.inPlace == Tryz.pinned.checked.prog.inPlace 10))=true:=by kernel_rfl
theorem Bgu:((Rows.scrubCalmRow.unfollowed == Tryz.pinned.checked.prog.unfollowed 10))=true:=by kernel_rfl
theorem Bka:(Rows.scrubCalmRow.wf (OpenSpec.ofChange Rows.scrubCalmSpec))=true:=by kernel_rfl
end Go.Proofs.YtadnemjjlacolaaGreat

namespace Go.Proofs.YtadnemjjlacolaaGreat
open Go
set_option maxRecDepth 100000
theorem Bi7:((Rows.scrubCalmRow.recurses == Tryz.pinned.checked.prog.recurses 10))=true:=by kernel_rfl
theorem Bir:((Rows.scrubCalmRow.named == Tryz.pinned.checked.prog.varsNamed 10))=true:=by kernel_rfl
theorem Bky:(laidOutB Tryz.pinned.checked.prog)=true:=by kernel_rfl
end Go.Proofs.YtadnemjjlacolaaGreat

namespace Go.Proofs.YtadnemjjlacolaaGreat
open Go
set_option maxRecDepth 100000
theorem Bm0:(mapsRowed Tryz.pinned.checked.prog)=true:=by kernel_rfl
theorem Bkd:(Tryz.f10.params.all (Tryz.pinned.checked.prog.readableRec ·))=true:=by kernel_rfl
theorem Bj8:(namedTie Tryz.pinned.checked.prog Rows.scrubCalmRow.named Rows.scrubCalmSpec.vars)=true:=by kernel_rfl
theorem Bll:((Rows.scrubCalmRow.stops == []))=true:=by kernel_rfl
theorem Bnz:((Tryz.pinned.checked.prog.stops == []))=true:=by kernel_rfl
theorem Bnl:((Rows.scrubCalmRow.knobs == []))=true:=by kernel_rfl
theorem Bl4:((Tryz.pinned.checked.prog.stopKnobs == []))=true:=by kernel_rfl
theorem Bjl:((Rows.scrubCalmRow.maps == (Tryz.f10.params.toList++Rows.scrubCalmSpec.plain.varTypes Tryz.pinned.checked.prog).any (Tryz.pinned.checked.prog.mapsRec ·)))=true:=by kernel_rfl
theorem Bh4:((Rows.scrubCalmRow.ifaces == (Tryz.f10.params.toList++Rows.scrubCalmSpec.plain.varTypes Tryz.pinned.checked.prog).any (Tryz.pinned.checked.prog.ifacesRec ·)))=true:=by kernel_rfl
theorem Bhw:((Rows.scrubCalmRow.mapsOut == Tryz.pinned.checked.prog.mapsAmong Tryz.f10.resultTypes.toList))=true:=by kernel_rfl
theorem Bil:((Rows.scrubCalmRow.loops == (Tryz.f10.params.toList++Rows.scrubCalmSpec.plain.varTypes Tryz.pinned.checked.prog).any (Tryz.pinned.checked.prog.loopsFrom ·)))=true:=by kernel_rfl
theorem Biq:((Rows.scrubCalmRow.wideKeys == (Tryz.f10.params.toList++Rows.scrubCalmSpec.plain.varTypes Tryz.pinned.checked.prog++Tryz.f10.resultTypes.toList).any (Tryz.pinned.checked.prog.wideKeysFrom ·)))=true:=by kernel_rfl
theorem Bjo:(Rows.scrubCalmSpec.vars.all (Tryz.pinned.checked.prog.varReadable ·))=true:=by kernel_rfl
theorem Bgo:(Tryz.f10.resultTypes.all (fun t=>Tryz.pinned.checked.prog.readableRec t&&decide (t<Tryz.pinned.checked.prog.types.size)))=true:=by kernel_rfl
theorem Bi8:((Rows.scrubCalmRow.ifacesOut == Tryz.f10.resultTypes.toList.any (Tryz.pinned.checked.prog.ifacesRec ·)))=true:=by kernel_rfl
theorem Bjg:((Rows.scrubCalmRow.loopsOut == Tryz.f10.resultTypes.toList.any (Tryz.pinned.checked.prog.loopsFrom ·)))=true:=by kernel_rfl
theorem Bic:((Rows.scrubCalmRow.plainKeys == Tryz.pinned.checked.prog.plainKeys))=true:=by kernel_rfl
theorem Bi4:(Rows.scrubCalmRow.shortTexts.isNone)=true:=by kernel_rfl
theorem Bgm:(Tryz.pinned.checked.prog.stopsHeard)=true:=by kernel_rfl
theorem Bg6:(Tryz.pinned.checked.prog.mayEnter)=true:=by kernel_rfl
theorem Bju:((Rows.scrubCalmRow.lifted == Tryz.pinned.checked.prog.liftsFinal))=true:=by kernel_rfl
theorem Bis:((Tryz.pinned.checked.prog.make == some Rows.scrubCalmRow.make))=true:=by kernel_rfl
theorem Bjn:((Rows.scrubCalmRow.kinds == (if Rows.scrubCalmRow.domain.isEmpty then[]else Tryz.f10.params.toList.map fun t=>match Tryz.pinned.checked.prog.underlying t with|some (.int k)=>some k|_=>none)))=true:=by kernel_rfl
theorem Bib:((Rows.scrubCalmRow.pinned == Rows.scrubCalmRow.pinnedBy))=true:=by kernel_rfl
theorem Bie:((Rows.scrubCalmRow.veiled == (Tryz.f10.params.toList++Rows.scrubCalmSpec.plain.varTypes Tryz.pinned.checked.prog++Tryz.f10.resultTypes.toList).any (Tryz.pinned.checked.prog.veiledRec ·)))=true:=by kernel_rfl
theorem Bi1:(Rows.scrubCalmRow.veiledFits Tryz.pinned.checked.prog Tryz.f10.params.toList (Tryz.f10.params.toList++Rows.scrubCalmSpec.plain.varTypes Tryz.pinned.checked.prog++Tryz.f10.resultTypes.toList))=true:=by kernel_rfl
end Go.Proofs.YtadnemjjlacolaaGreat
