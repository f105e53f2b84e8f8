import Derived.Test.YtadnemjjlacolaaGreatRows
import Derived.JoinedOf
import Derived.KernelRfl
set_option linter.all false
namespace Go.Proofs.YtadnemjjlacolaaGreat
open Go
set_option maxRecDepth 100000
theorem Rl:((Rows.coreTrimsUptoRow.inPlace == Tryz.pinned.checked.prog.inPlace 6))=true:=by kernel_rfl
theorem Sk:((Rows.coreTrimsUptoRow.unfollowed == Tryz.pinned.checked.prog.unfollowed 6))=true:=by kernel_rfl
theorem Xz:(Rows.coreTrimsUptoRow.wf (OpenSpec.ofChange Rows.coreTrimsSpec))=true:=by kernel_rfl
end Go.Proofs.YtadnemjjlacolaaGreat
