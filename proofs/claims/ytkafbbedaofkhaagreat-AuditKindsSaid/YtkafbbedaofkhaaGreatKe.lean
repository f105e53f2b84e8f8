/- AuditKinds: the row's closed facts, one by one. -/
import Derived.Test.YtkafbbedaofkhaaGreatRows
import Derived.JoinedOf
import Derived.KernelRfl
set_option linter.unusedVariables false
set_option linter.unusedSimpArgs false
set_option linter.unusedSectionVars false
namespace Go.Proofs.YtkafbbedaofkhaaGreat
open Go
set_option maxRecDepth 100000
theorem kindsFact12 : ((Rows.auditKindsRow.recurses == Tryz.pinned.checked.prog.recurses 4)) = true := by kernel_rfl
theorem kindsFact13 : ((Rows.auditKindsRow.named == Tryz.pinned.checked.prog.varsNamed 4)) = true := by kernel_rfl
theorem kindsFact2 : (laidOutB Tryz.pinned.checked.prog) = true := by kernel_rfl
end Go.Proofs.YtkafbbedaofkhaaGreat
