import Derived.Test.YtokpnommcenoaaaGreatRows
import Derived.JoinedOf
import Derived.KernelRfl
set_option linter.all false
namespace Go.Proofs.YtokpnommcenoaaaGreat
open Go
set_option maxRecDepth 100000
theorem Bio:((Rows.scrubPassesRow.recurses == Tryz.pinned.checked.prog.recurses 5))=true:=by kernel_rfl
theorem Bhy:((Rows.scrubPassesRow.named == Tryz.pinned.checked.prog.varsNamed 5))=true:=by kernel_rfl
theorem Bmm:(laidOutB Tryz.pinned.checked.prog)=true:=by kernel_rfl
end Go.Proofs.YtokpnommcenoaaaGreat
