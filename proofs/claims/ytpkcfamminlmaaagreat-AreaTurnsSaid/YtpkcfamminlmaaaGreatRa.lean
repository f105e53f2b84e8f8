import Derived.Test.YtpkcfamminlmaaaGreatRows
import Derived.JoinedOf
import Derived.KernelRfl
set_option linter.unusedVariables false
set_option linter.unusedSimpArgs false
set_option linter.unusedSectionVars false
namespace Go.Proofs.YtpkcfamminlmaaaGreat
open Go
set_option maxRecDepth 100000
theorem Awe:((Rows.areaTurnsRow.inPlace == Tryz.pinned.checked.prog.inPlace 3))=true:=by kernel_rfl
theorem Awf:((Rows.areaTurnsRow.unfollowed == Tryz.pinned.checked.prog.unfollowed 3))=true:=by kernel_rfl
theorem Ax1:(Rows.areaTurnsRow.wf (OpenSpec.ofChange Rows.areaTurnsSpec))=true:=by kernel_rfl
end Go.Proofs.YtpkcfamminlmaaaGreat
