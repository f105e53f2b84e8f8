import Derived.Test.YtpkcfamminlmaaaGreatRows
import Derived.JoinedOf
import Derived.KernelRfl
set_option linter.unusedVariables false
set_option linter.unusedSimpArgs false
set_option linter.unusedSectionVars false
namespace Go.Proofs.YtpkcfamminlmaaaGreat
open Go
set_option maxRecDepth 100000
theorem A1l:((Rows.mirrorSafeRow.recurses == Tryz.pinned.checked.prog.recurses 7))=true:=by kernel_rfl
theorem A0u:((Rows.mirrorSafeRow.named == Tryz.pinned.checked.prog.varsNamed 7))=true:=by kernel_rfl
theorem A4k:(laidOutB Tryz.pinned.checked.prog)=true:=by kernel_rfl
end Go.Proofs.YtpkcfamminlmaaaGreat
