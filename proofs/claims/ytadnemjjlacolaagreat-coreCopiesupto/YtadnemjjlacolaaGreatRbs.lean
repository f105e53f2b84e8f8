import Derived.Test.YtadnemjjlacolaaGreatRows
import Derived.JoinedOf
import Derived.KernelRfl
set_option linter.all false
namespace Go.Proofs.YtadnemjjlacolaaGreat
open Go
set_option maxRecDepth 100000
theorem Q9:((Rows.coreCopiesUptoRow.recurses == Tryz.pinned.checked.prog.recurses 3))=true:=by kernel_rfl
theorem Rq:((Rows.coreCopiesUptoRow.named == Tryz.pinned.checked.prog.varsNamed 3))=true:=by kernel_rfl
theorem Xk:(laidOutB Tryz.pinned.checked.prog)=true:=by kernel_rfl
end Go.Proofs.YtadnemjjlacolaaGreat
