import Derived.Test.YtoihakbgidodkaaGreatRows
import Derived.JoinedOf
import Derived.KernelRfl
set_option linter.all false
namespace Go.Proofs.YtoihakbgidodkaaGreat
open Go
set_option maxRecDepth 100000
theorem Bg6:((Rows.coreCheckpointsUptoRow.inPlace == Tryz.pinned.checked.prog.inPlace 4))=true:=by kernel_rfl
theorem Bgd:((Rows.coreCheckpointsUptoRow.unfollowed == Tryz.pinned.checked.prog.unfollowed 4))=true:=by kernel_rfl
theorem Bmi:(Rows.coreCheckpointsUptoRow.wf (OpenSpec.ofChange Rows.coreCheckpointsSpec))=true:=by kernel_rfl
end Go.Proofs.YtoihakbgidodkaaGreat

namespace Go.Proofs.YtoihakbgidodkaaGreat
open Go
set_option maxRecDepth 100000
theorem Bga:((Rows.coreCheckpointsUptoRow.recurses == Tryz.pinned.checked.prog.recurses 4))=true:=by kernel_rfl
theorem Bix:((Rows.coreCheckpointsUptoRow.named == Tryz.pinned.checked.prog.varsNamed 4))=true:=by kernel_rfl
theorem Bkf:(laidOutB Tryz.pinned.checked.prog)=true:=by kernel_rfl
end Go.Proofs.YtoihakbgidodkaaGreat

namespace Go.Proofs.YtoihakbgidodkaaGreat
open Go
set_option maxRecDepth 100000
theorem Bj7:(mapsRowed Tryz.pinned.checked.prog)=true:=by kernel_rfl
theorem Bnf:(Tryz.f4.params.all (Tryz.pinned.checked.prog.readableRec ·))=true:=by kernel_rfl
theorem Blf:(namedTie Tryz.pinned.checked.prog Rows.coreCheckpointsUptoRow.named Rows.coreCheckpointsSpec.vars)=true:=by kernel_rfl
theorem Bnc:((Rows.coreCheckpointsUptoRow.stops == []))=true:=by kernel_rfl
theorem Bl2:((Tryz.pinned.checked.prog.stops == []))=true:=by kernel_rfl
theorem Bm8:((Rows.coreCheckpointsUptoRow.knobs == []))=true:=by kernel_rfl
theorem Bmc:((Tryz.pinned.checked.prog.stopKnobs == []))=true:=by kernel_rfl
theorem Bhi:((Rows.coreCheckpointsUptoRow.maps == (Tryz.f4.params.toList++Rows.coreCheckpointsSpec.plain.varTypes Tryz.pinned.checked.prog).any (Tryz.pinned.checked.prog.mapsRec ·)))=true:=by kernel_rfl
theorem Bhp:((Rows.coreCheckpointsUptoRow.ifaces == (Tryz.f4.params.toList++Rows.coreCheckpointsSpec.plain.varTypes Tryz.pinned.checked.prog).any (Tryz.pinned.checked.prog.ifacesRec ·)))=true:=by kernel_rfl
theorem Bgt:((Rows.coreCheckpointsUptoRow.mapsOut == Tryz.pinned.checked.prog.mapsAmong Tryz.f4.resultTypes.toList))=true:=by kernel_rfl
theorem Bfz:((Rows.coreCheckpointsUptoRow.loops == (Tryz.f4.params.toList++Rows.coreCheckpointsSpec.plain.varTypes Tryz.pinned.checked.prog).any (Tryz.pinned.checked.prog.loopsFrom ·)))=true:=by kernel_rfl
theorem Bgc:((Rows.coreCheckpointsUptoRow.wideKeys == (Tryz.f4.params.toList++Rows.coreCheckpointsSpec.plain.varTypes Tryz.pinned.checked.prog++Tryz.f4.resultTypes.toList).any (Tryz.pinned.checked.prog.wideKeysFrom ·)))=true:=by kernel_rfl
theorem Bfv:(Rows.coreCheckpointsSpec.vars.all (Tryz.pinned.checked.prog.varReadable ·))=true:=by kernel_rfl
theorem Bh1:(Tryz.f4.resultTypes.all (fun t=>Tryz.pinned.checked.prog.readableRec t&&decide (t<Tryz.pinned.checked.prog.types.size)))=true:=by kernel_rfl
theorem Bgn:((Rows.coreCheckpointsUptoRow.ifacesOut == Tryz.f4.resultTypes.toList.any (Tryz.pinned.checked.prog.ifacesRec ·)))=true:=by kernel_rfl
theorem Bi7:((Rows.coreCheckpointsUptoRow.loopsOut == Tryz.f4.resultTypes.toList.any (Tryz.pinned.checked.prog.loopsFrom ·)))=true:=by kernel_rfl
theorem Bh3:((Rows.coreCheckpointsUptoRow.plainKeys == Tryz.pinned.checked.prog.plainKeys))=true:=by kernel_rfl
theorem Bf8:(Rows.coreCheckpointsUptoRow.shortTexts.isNone)=true:=by kernel_rfl
theorem Bf5:(Tryz.pinned.checked.prog.stopsHeard)=true:=by kernel_rfl
theorem Bh7:(Tryz.pinned.checked.prog.mayEnter)=true:=by kernel_rfl
theorem Bgp:((Rows.coreCheckpointsUptoRow.lifted == Tryz.pinned.checked.prog.liftsFinal))=true:=by kernel_rfl
theorem Bit:((Tryz.pinned.checked.prog.make == some Rows.coreCheckpointsUptoRow.make))=true:=by kernel_rfl
theorem Bhd:((Rows.coreCheckpointsUptoRow.kinds == (if Rows.coreCheckpointsUptoRow.domain.isEmpty then[]else Tryz.f4.params.toList.map fun t=>match Tryz.pinned.checked.prog.underlying t with|some (.int k)=>some k|_=>none)))=true:=by kernel_rfl
theorem Bgo:((Rows.coreCheckpointsUptoRow.pinned == Rows.coreCheckpointsUptoRow.pinnedBy))=true:=by kernel_rfl
theorem Bi0:((Rows.coreCheckpointsUptoRow.veiled == (Tryz.f4.params.toList++Rows.coreCheckpointsSpec.plain.varTypes Tryz.pinned.checked.prog++Tryz.f4.resultTypes.toList).any (Tryz.pinned.checked.prog.veiledRec ·)))=true:=by kernel_rfl
theorem Bi6:(Rows.coreCheckpointsUptoRow.veiledFits Tryz.pinned.checked.prog Tryz.f4.params.toList (Tryz.f4.params.toList++Rows.coreCheckpointsSpec.plain.varTypes Tryz.pinned.checked.prog++Tryz.f4.resultTypes.toList))=true:=by kernel_rfl
end Go.Proofs.YtoihakbgidodkaaGreat
