import Derived.Test.YtpkcfamminlmaaaGreatRows
import Derived.JoinedOf
import Derived.KernelRfl
set_option linter.unusedVariables false
set_option linter.unusedSimpArgs false
set_option linter.unusedSectionVars false
namespace Go.Proofs.YtpkcfamminlmaaaGreat
open Go
set_option maxRecDepth 100000
theorem rowFact12 : ((Rows.mirrorTrimsRow.recurses == Tryz.pinned.checked.prog.recurses 6)) = true:=by kernel_rfl
theorem rowFact13 : ((Rows.mirrorTrimsRow.named == Tryz.pinned.checked.prog.varsNamed 6)) = true:=by kernel_rfl
theorem rowFact2 : (laidOutB Tryz.pinned.checked.prog) = true:=by kernel_rfl
end Go.Proofs.YtpkcfamminlmaaaGreat
