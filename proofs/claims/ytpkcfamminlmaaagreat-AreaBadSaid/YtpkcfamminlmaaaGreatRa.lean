import Derived.Test.YtpkcfamminlmaaaGreatRows
import Derived.JoinedOf
import Derived.KernelRfl
set_option linter.unusedVariables false
set_option linter.unusedSimpArgs false
set_option linter.unusedSectionVars false
namespace Go.Proofs.YtpkcfamminlmaaaGreat
open Go
set_option maxRecDepth 100000
theorem Azn:((Rows.areaBadRow.inPlace == Tryz.pinned.checked.prog.inPlace 4))=true:=by kernel_rfl
theorem Aye:((Rows.areaBadRow.unfollowed == Tryz.pinned.checked.prog.unfollowed 4))=true:=by kernel_rfl
theorem A27:(Rows.areaBadRow.wf (OpenSpec.ofChange Rows.areaBadSpec))=true:=by kernel_rfl
end Go.Proofs.YtpkcfamminlmaaaGreat
