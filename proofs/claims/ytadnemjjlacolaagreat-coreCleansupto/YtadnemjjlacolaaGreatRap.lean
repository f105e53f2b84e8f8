import Derived.Test.YtadnemjjlacolaaGreatRows
import Derived.JoinedOf
import Derived.KernelRfl
set_option linter.all false
namespace Go.Proofs.YtadnemjjlacolaaGreat
open Go
set_option maxRecDepth 100000
theorem Rl:((Rows.coreCleansUptoRow.inPlace == Tryz.pinned.checked.prog.inPlace 5))=true:=by kernel_rfl
theorem Sk:((Rows.coreCleansUptoRow.unfollowed == Tryz.pinned.checked.prog.unfollowed 5))=true:=by kernel_rfl
theorem Xz:(Rows.coreCleansUptoRow.wf (OpenSpec.ofChange Rows.coreCleansSpec))=true:=by kernel_rfl
end Go.Proofs.YtadnemjjlacolaaGreat
