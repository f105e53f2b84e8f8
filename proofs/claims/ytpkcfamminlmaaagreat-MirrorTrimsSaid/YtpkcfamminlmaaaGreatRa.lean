import Derived.Test.YtpkcfamminlmaaaGreatRows
import Derived.JoinedOf
import Derived.KernelRfl
set_option linter.unusedVariables false
set_option linter.unusedSimpArgs false
set_option linter.unusedSectionVars false
namespace Go.Proofs.YtpkcfamminlmaaaGreat
open Go
set_option maxRecDepth 100000
theorem rowFact10 : ((Rows.mirrorTrimsRow.inPlace == Tryz.pinned.checked.prog.inPlace 6)) = true:=by kernel_rfl
theorem rowFact11 : ((Rows.mirrorTrimsRow.unfollowed == Tryz.pinned.checked.prog.unfollowed 6)) = true:=by kernel_rfl
theorem rowFact1 : (Rows.mirrorTrimsRow.wf (OpenSpec.ofChange Rows.mirrorTrimsSpec)) = true:=by kernel_rfl
end Go.Proofs.YtpkcfamminlmaaaGreat
