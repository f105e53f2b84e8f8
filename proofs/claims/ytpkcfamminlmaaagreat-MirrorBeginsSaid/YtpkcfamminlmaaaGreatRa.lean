/- MirrorBegins: the row's closed facts, one by one. -/
import Derived.Test.YtpkcfamminlmaaaGreatRows
import Derived.JoinedOf
import Derived.KernelRfl
set_option linter.unusedVariables false
set_option linter.unusedSimpArgs false
set_option linter.unusedSectionVars false
namespace Go.Proofs.YtpkcfamminlmaaaGreat
open Go
set_option maxRecDepth 100000
theorem rowFact10 : ((Rows.mirrorBeginsRow.inPlace == Tryz.pinned.checked.prog.inPlace 5)) = true := by kernel_rfl
theorem rowFact11 : ((Rows.mirrorBeginsRow.unfollowed == Tryz.pinned.checked.prog.unfollowed 5)) = true := by kernel_rfl
theorem rowFact1 : (Rows.mirrorBeginsRow.wf (OpenSpec.ofChange Rows.mirrorBeginsSpec)) = true := by kernel_rfl
end Go.Proofs.YtpkcfamminlmaaaGreat
