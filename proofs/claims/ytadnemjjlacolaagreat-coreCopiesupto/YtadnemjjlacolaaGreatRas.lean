import Derived.Test.YtadnemjjlacolaaGreatRows
import Derived.JoinedOf
import Derived.KernelRfl
set_option linter.all false
namespace Go.Proofs.YtadnemjjlacolaaGreat
open Go
set_option maxRecDepth 100000
theorem Rl:((Rows.coreCopiesUptoRow.inPlace == Tryz.pinned.checked.prog.inPlace 3))=true:=by kernel_rfl
theorem Sk:((Rows.coreCopiesUptoRow.unfollowed == Tryz.pinned.checked.prog.unfollowed 3))=true:=by kernel_rfl
theorem Xz:(Rows.coreCopiesUptoRow.wf (OpenSpec.ofChange Rows.coreCopiesSpec))=true:=by kernel_rfl
end Go.Proofs.YtadnemjjlacolaaGreat
