import Derived.Test.YtpkcfamminlmaaaGreatRows
import Derived.JoinedOf
import Derived.KernelRfl
set_option linter.unusedVariables false
set_option linter.unusedSimpArgs false
set_option linter.unusedSectionVars false
namespace Go.Proofs.YtpkcfamminlmaaaGreat
open Go
set_option maxRecDepth 100000
theorem A18:((Rows.mirrorSafeRow.inPlace == Tryz.pinned.checked.prog.inPlace 7))=true:=by kernel_rfl
theorem A3f:((Rows.mirrorSafeRow.unfollowed == Tryz.pinned.checked.prog.unfollowed 7))=true:=by kernel_rfl
theorem A50:(Rows.mirrorSafeRow.wf (OpenSpec.ofChange Rows.mirrorSafeSpec))=true:=by kernel_rfl
end Go.Proofs.YtpkcfamminlmaaaGreat
