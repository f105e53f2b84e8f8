import Derived.Test.YtpkcfamminlmaaaGreatRows
import Derived.JoinedOf
import Derived.KernelRfl
set_option linter.unusedVariables false
set_option linter.unusedSimpArgs false
set_option linter.unusedSectionVars false
namespace Go.Proofs.YtpkcfamminlmaaaGreat
open Go
set_option maxRecDepth 100000
theorem A3z:((Rows.scanPlacedRow.recurses == Tryz.pinned.checked.prog.recurses 9))=true:=by kernel_rfl
theorem A42:((Rows.scanPlacedRow.named == Tryz.pinned.checked.prog.varsNamed 9))=true:=by kernel_rfl
theorem A9z:(laidOutB Tryz.pinned.checked.prog)=true:=by kernel_rfl
end Go.Proofs.YtpkcfamminlmaaaGreat
