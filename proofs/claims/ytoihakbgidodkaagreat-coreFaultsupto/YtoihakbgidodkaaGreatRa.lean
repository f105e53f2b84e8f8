import Derived.Test.YtoihakbgidodkaaGreatRows
import Derived.JoinedOf
import Derived.KernelRfl
set_option linter.all false
namespace Go.Proofs.YtoihakbgidodkaaGreat
open Go
set_option maxRecDepth 100000
theorem Bfy:((Rows.coreFaultsUptoRow.inPlace == Tryz.pinned.checked.prog.inPlace 3))=true:=by kernel_rfl
theorem Bgj:((Rows.coreFaultsUptoRow.unfollowed == Tryz.pinned.checked.prog.unfollowed 3))=true:=by kernel_rfl
theorem Bkm:(Rows.coreFaultsUptoRow.wf (OpenSpec.ofChange Rows.coreFaultsSpec))=true:=by kernel_rfl
end Go.Proofs.YtoihakbgidodkaaGreat

namespace Go.Proofs.YtoihakbgidodkaaGreat
open Go
set_option maxRecDepth 100000
theorem Be1:((Rows.coreFaultsUptoRow.recurses == Tryz.pinned.checked.prog.recurses 3))=true:=by kernel_rfl
theorem Bgr:((Rows.coreFaultsUptoRow.named == Tryz.pinned.checked.prog.varsNamed 3))=true:=by kernel_rfl
theorem Bko:(laidOutB Tryz.pinned.checked.prog)=true:=by kernel_rfl
end Go.Proofs.YtoihakbgidodkaaGreat

namespace Go.Proofs.YtoihakbgidodkaaGreat
open Go
set_option maxRecDepth 100000
theorem Bj6:(mapsRowed Tryz.pinned.checked.prog)=true:=by kernel_rfl
theorem Bj1:(Tryz.f3.params.all (Tryz.pinned.checked.prog.readableRec ·))=true:=by kernel_rfl
theorem Bk9:(namedTie Tryz.pinned.checked.prog Rows.coreFaultsUptoRow.named Rows.coreFaultsSpec.vars)=true:=by kernel_rfl
theorem Bkh:((Rows.coreFaultsUptoRow.stops == []))=true:=by kernel_rfl
theorem Bia:((Tryz.pinned.checked.prog.stops == []))=true:=by kernel_rfl
theorem Bj4:((Rows.coreFaultsUptoRow.knobs == []))=true:=by kernel_rfl
theorem Blo:((Tryz.pinned.checked.prog.stopKnobs == []))=true:=by kernel_rfl
theorem Bgy:((Rows.coreFaultsUptoRow.maps == (Tryz.f3.params.toList++Rows.coreFaultsSpec.plain.varTypes Tryz.pinned.checked.prog).any (Tryz.pinned.checked.prog.mapsRec ·)))=true:=by kernel_rfl
theorem Bfe:((Rows.coreFaultsUptoRow.ifaces == (Tryz.f3.params.toList++Rows.coreFaultsSpec.plain.varTypes Tryz.pinned.checked.prog).any (Tryz.pinned.checked.prog.ifacesRec ·)))=true:=by kernel_rfl
theorem Bf8:((Rows.coreFaultsUptoRow.mapsOut == Tryz.pinned.checked.prog.mapsAmong Tryz.f3.resultTypes.toList))=true:=by kernel_rfl
theorem Bge:((Rows.coreFaultsUptoRow.loops == (Tryz.f3.params.toList++Rows.coreFaultsSpec.plain.varTypes Tryz.pinned.checked.prog).any (Tryz.pinned.checked.prog.loopsFrom ·)))=true:=by kernel_rfl
theorem Bg1:((Rows.coreFaultsUptoRow.wideKeys == (Tryz.f3.params.toList++Rows.coreFaultsSpec.plain.varTypes Tryz.pinned.checked.prog++Tryz.f3.resultTypes.toList).any (Tryz.pinned.checked.prog.wideKeysFrom ·)))=true:=by kernel_rfl
theorem Bfc:(Rows.coreFaultsSpec.vars.all (Tryz.pinned.checked.prog.varReadable ·))=true:=by kernel_rfl
theorem Bfl:(Tryz.f3.resultTypes.all (fun t=>Tryz.pinned.checked.prog.readableRec t&&decide (t<Tryz.pinned.checked.prog.types.size)))=true:=by kernel_rfl
theorem Be0:((Rows.coreFaultsUptoRow.ifacesOut == Tryz.f3.resultTypes.toList.any (Tryz.pinned.checked.prog.ifacesRec ·)))=true:=by kernel_rfl
theorem Bgp:((Rows.coreFaultsUptoRow.loopsOut == Tryz.f3.resultTypes.toList.any (Tryz.pinned.checked.prog.loopsFrom ·)))=true:=by kernel_rfl
theorem Bey:((Rows.coreFaultsUptoRow.plainKeys == Tryz.pinned.checked.prog.plainKeys))=true:=by kernel_rfl
theorem Bet:(Rows.coreFaultsUptoRow.shortTexts.isNone)=true:=by kernel_rfl
theorem Bg6:(Tryz.pinned.checked.prog.stopsHeard)=true:=by kernel_rfl
theorem Bg9:(Tryz.pinned.checked.prog.mayEnter)=true:=by kernel_rfl
theorem Bg5:((Rows.coreFaultsUptoRow.lifted == Tryz.pinned.checked.prog.liftsFinal))=true:=by kernel_rfl
theorem Bf4:((Tryz.pinned.checked.prog.make == some Rows.coreFaultsUptoRow.make))=true:=by kernel_rfl
theorem Bex:((Rows.coreFaultsUptoRow.kinds == (if Rows.coreFaultsUptoRow.domain.isEmpty then[]else Tryz.f3.params.toList.map fun t=>match Tryz.pinned.checked.prog.underlying t with|some (.int k)=>some k|_=>none)))=true:=by kernel_rfl
theorem Ber:((Rows.coreFaultsUptoRow.pinned == Rows.coreFaultsUptoRow.pinnedBy))=true:=by kernel_rfl
theorem Bes:((Rows.coreFaultsUptoRow.veiled == (Tryz.f3.params.toList++Rows.coreFaultsSpec.plain.varTypes Tryz.pinned.checked.prog++Tryz.f3.resultTypes.toList).any (Tryz.pinned.checked.prog.veiledRec ·)))=true:=by kernel_rfl
theorem Bei:(Rows.coreFaultsUptoRow.veiledFits Tryz.pinned.checked.prog Tryz.f3.params.toList (Tryz.f3.params.toList++Rows.coreFaultsSpec.plain.varTypes Tryz.pinned.checked.prog++Tryz.f3.resultTypes.toList))=true:=by kernel_rfl
end Go.Proofs.YtoihakbgidodkaaGreat
