import Derived.Test.YtokpnommcenoaaaGreatRows
import Derived.JoinedOf
import Derived.KernelRfl
set_option linter.unusedVariables false
set_option linter.unusedSimpArgs false
set_option linter.unusedSectionVars false
namespace Go.Proofs.YtokpnommcenoaaaGreat
open Go
set_option maxRecDepth 100000
theorem Ah5:((Rows.storeEmptyRow.inPlace == Tryz.pinned.checked.prog.inPlace 9))=true:=by kernel_rfl
theorem Aij:((Rows.storeEmptyRow.unfollowed == Tryz.pinned.checked.prog.unfollowed 9))=true:=by kernel_rfl
theorem Ak4:(Rows.storeEmptyRow.wf (OpenSpec.ofChange Rows.storeEmptySpec))=true:=by kernel_rfl
end Go.Proofs.YtokpnommcenoaaaGreat
