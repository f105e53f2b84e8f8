import Derived.Test.YtadnemjjlacolaaGreatRows
import Derived.JoinedOf
import Derived.KernelRfl
set_option linter.all false
namespace Go.Proofs.YtadnemjjlacolaaGreat
open Go
set_option maxRecDepth 100000
theorem Bct:((Rows.coreNumbersUptoRow.recurses == Tryz.pinned.checked.prog.recurses 7))=true:=by kernel_rfl
theorem Bd2:((Rows.coreNumbersUptoRow.named == Tryz.pinned.checked.prog.varsNamed 7))=true:=by kernel_rfl
theorem Bi7:(laidOutB Tryz.pinned.checked.prog)=true:=by kernel_rfl
end Go.Proofs.YtadnemjjlacolaaGreat
