import Derived.Test.YtpkcfamminlmaaaGreatRows
import Derived.JoinedOf
import Derived.KernelRfl
set_option linter.unusedVariables false
set_option linter.unusedSimpArgs false
set_option linter.unusedSectionVars false
namespace Go.Proofs.YtpkcfamminlmaaaGreat
open Go
set_option maxRecDepth 100000
theorem Axk:((Rows.mirrorApartRow.recurses == Tryz.pinned.checked.prog.recurses 8))=true:=by kernel_rfl
theorem Axg:((Rows.mirrorApartRow.named == Tryz.pinned.checked.prog.varsNamed 8))=true:=by kernel_rfl
theorem Ayz:(laidOutB Tryz.pinned.checked.prog)=true:=by kernel_rfl
end Go.Proofs.YtpkcfamminlmaaaGreat
