import Derived.Test.YtadnemjjlacolaaGreatRows
import Derived.JoinedOf
import Derived.KernelRfl
set_option linter.all false
namespace Go.Proofs.YtadnemjjlacolaaGreat
open Go
set_option maxRecDepth 100000
theorem Rl:((Rows.coreRoomUptoRow.inPlace == Tryz.pinned.checked.prog.inPlace 4))=true:=by kernel_rfl
theorem Sk:((Rows.coreRoomUptoRow.unfollowed == Tryz.pinned.checked.prog.unfollowed 4))=true:=by kernel_rfl
theorem Xz:(Rows.coreRoomUptoRow.wf (OpenSpec.ofChange Rows.coreRoomSpec))=true:=by kernel_rfl
end Go.Proofs.YtadnemjjlacolaaGreat
