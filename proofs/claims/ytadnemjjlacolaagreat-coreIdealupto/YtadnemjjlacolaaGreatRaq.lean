import Derived.Test.YtadnemjjlacolaaGreatRows
import Derived.JoinedOf
import Derived.KernelRfl
set_option linter.all false
namespace Go.Proofs.YtadnemjjlacolaaGreat
open Go
set_option maxRecDepth 100000
theorem Rl:((Rows.coreIdealUptoRow.inPlace == Tryz.pinned.checked.prog.inPlace 9))=true:=by kernel_rfl
theorem Sk:((Rows.coreIdealUptoRow.unfollowed == Tryz.pinned.checked.prog.unfollowed 9))=true:=by kernel_rfl
theorem Xz:(Rows.coreIdealUptoRow.wf (OpenSpec.ofChange Rows.coreIdealSpec))=true:=by kernel_rfl
end Go.Proofs.YtadnemjjlacolaaGreat
