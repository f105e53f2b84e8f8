import Derived.Test.YtokpnommcenoaaaGreatRows
import Derived.JoinedOf
import Derived.KernelRfl
set_option linter.unusedVariables false
set_option linter.unusedSimpArgs false
set_option linter.unusedSectionVars false
namespace Go.Proofs.YtokpnommcenoaaaGreat
open Go
set_option maxRecDepth 100000
theorem Ahi:((Rows.storeEmptyRow.recurses == Tryz.pinned.checked.prog.recurses 9))=true:=by kernel_rfl
theorem Ag9:((Rows.storeEmptyRow.named == Tryz.pinned.checked.prog.varsNamed 9))=true:=by kernel_rfl
theorem Amx:(laidOutB Tryz.pinned.checked.prog)=true:=by kernel_rfl
end Go.Proofs.YtokpnommcenoaaaGreat
