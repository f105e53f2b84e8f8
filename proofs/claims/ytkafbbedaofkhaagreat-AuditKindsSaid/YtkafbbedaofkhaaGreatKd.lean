/- AuditKinds: the row's closed facts, one by one. -/
import Derived.Test.YtkafbbedaofkhaaGreatRows
import Derived.JoinedOf
import Derived.KernelRfl
set_option linter.unusedVariables false
set_option linter.unusedSimpArgs false
set_option linter.unusedSectionVars false
namespace Go.Proofs.YtkafbbedaofkhaaGreat
open Go
set_option maxRecDepth 100000
theorem kindsFact10 : ((Rows.auditKindsRow.inPlace == Tryz.pinned.checked.prog.inPlace 4)) = true := by kernel_rfl
theorem kindsFact11 : ((Rows.auditKindsRow.unfollowed == Tryz.pinned.checked.prog.unfollowed 4)) = true := by kernel_rfl
theorem kindsFact1 : (Rows.auditKindsRow.wf (OpenSpec.ofChange Rows.auditKindsSpec)) = true := by kernel_rfl
end Go.Proofs.YtkafbbedaofkhaaGreat
