import Derived.Test.YtpkcfamminlmaaaGreatRows
import Derived.JoinedOf
import Derived.KernelRfl
set_option linter.unusedVariables false
set_option linter.unusedSimpArgs false
set_option linter.unusedSectionVars false
namespace Go.Proofs.YtpkcfamminlmaaaGreat
open Go
set_option maxRecDepth 100000
theorem Ax7:((Rows.areaBadRow.recurses == Tryz.pinned.checked.prog.recurses 4))=true:=by kernel_rfl
theorem Axr:((Rows.areaBadRow.named == Tryz.pinned.checked.prog.varsNamed 4))=true:=by kernel_rfl
theorem A12:(laidOutB Tryz.pinned.checked.prog)=true:=by kernel_rfl
end Go.Proofs.YtpkcfamminlmaaaGreat
