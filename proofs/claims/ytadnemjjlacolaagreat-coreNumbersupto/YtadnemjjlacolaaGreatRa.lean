import Derived.Test.YtadnemjjlacolaaGreatRows
import Derived.JoinedOf
import Derived.KernelRfl
set_option linter.all false
namespace Go.Proofs.YtadnemjjlacolaaGreat
open Go
set_option maxRecDepth 100000
theorem Bfr:((Rows.coreNumbersUptoRow.inPlace == Tryz.pinned.checked.prog.inPlace 7))=true:=by kernel_rfl
theorem Bed:((Rows.coreNumbersUptoRow.unfollowed == Tryz.pinned.checked.prog.unfollowed 7))=true:=by kernel_rfl
theorem Bh0:(Rows.coreNumbersUptoRow.wf (OpenSpec.ofChange Rows.coreNumbersSpec))=true:=by kernel_rfl
end Go.Proofs.YtadnemjjlacolaaGreat
