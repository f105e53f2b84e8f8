import Derived.Test.YtadnemjjlacolaaGreatRows
import Derived.JoinedOf
import Derived.KernelRfl
set_option linter.all false
namespace Go.Proofs.YtadnemjjlacolaaGreat
open Go
set_option maxRecDepth 100000
theorem Rl:((Rows.coreTidiesUptoRow.inPlace == Tryz.pinned.checked.prog.inPlace 8))=true:=by kernel_rfl
theorem Sk:((Rows.coreTidiesUptoRow.unfollowed == Tryz.pinned.checked.prog.unfollowed 8))=true:=by kernel_rfl
theorem Xz:(Rows.coreTidiesUptoRow.wf (OpenSpec.ofChange Rows.coreTidiesSpec))=true:=by kernel_rfl
end Go.Proofs.YtadnemjjlacolaaGreat
