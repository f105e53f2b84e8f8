import Derived.Test.YtpkcfamminlmaaaGreatRows
import Derived.JoinedOf
import Derived.KernelRfl
set_option linter.unusedVariables false
set_option linter.unusedSimpArgs false
set_option linter.unusedSectionVars false
namespace Go.Proofs.YtpkcfamminlmaaaGreat
open Go
set_option maxRecDepth 100000
theorem A37:((Rows.scanPlacedRow.inPlace == Tryz.pinned.checked.prog.inPlace 9))=true:=by kernel_rfl
theorem A3r:((Rows.scanPlacedRow.unfollowed == Tryz.pinned.checked.prog.unfollowed 9))=true:=by kernel_rfl
theorem A7m:(Rows.scanPlacedRow.wf (OpenSpec.ofChange Rows.scanPlacedSpec))=true:=by kernel_rfl
end Go.Proofs.YtpkcfamminlmaaaGreat
