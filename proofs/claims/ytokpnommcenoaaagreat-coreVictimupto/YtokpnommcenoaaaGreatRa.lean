import Derived.Test.YtokpnommcenoaaaGreatRows
import Derived.JoinedOf
import Derived.KernelRfl
set_option linter.all false
namespace Go.Proofs.YtokpnommcenoaaaGreat
open Go
set_option maxRecDepth 100000
theorem Bft:((Rows.coreVictimUptoRow.inPlace == Tryz.pinned.checked.prog.inPlace 3))=true:=by kernel_rfl
theorem Bc7:((Rows.coreVictimUptoRow.unfollowed == Tryz.pinned.checked.prog.unfollowed 3))=true:=by kernel_rfl
theorem Bha:(Rows.coreVictimUptoRow.wf (OpenSpec.ofChange Rows.coreVictimSpec))=true:=by kernel_rfl
end Go.Proofs.YtokpnommcenoaaaGreat
