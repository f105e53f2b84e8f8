import Derived.Test.YtpkcfamminlmaaaGreatRows
import Derived.JoinedOf
import Derived.KernelRfl
set_option linter.unusedVariables false
set_option linter.unusedSimpArgs false
set_option linter.unusedSectionVars false
namespace Go.Proofs.YtpkcfamminlmaaaGreat
open Go
set_option maxRecDepth 100000
theorem Aw2:((Rows.mirrorApartRow.inPlace == Tryz.pinned.checked.prog.inPlace 8))=true:=by kernel_rfl
theorem Ayl:((Rows.mirrorApartRow.unfollowed == Tryz.pinned.checked.prog.unfollowed 8))=true:=by kernel_rfl
theorem Azg:(Rows.mirrorApartRow.wf (OpenSpec.ofChange Rows.mirrorApartSpec))=true:=by kernel_rfl
end Go.Proofs.YtpkcfamminlmaaaGreat
