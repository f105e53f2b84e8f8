import Derived.Test.YtokpnommcenoaaaGreatRows
import Derived.JoinedOf
import Derived.KernelRfl
set_option linter.all false
namespace Go.Proofs.YtokpnommcenoaaaGreat
open Go
set_option maxRecDepth 100000
theorem Bib:((Rows.scrubPassesRow.inPlace == Tryz.pinned.checked.prog.inPlace 5))=true:=by kernel_rfl
theorem Bj9:((Rows.scrubPassesRow.unfollowed == Tryz.pinned.checked.prog.unfollowed 5))=true:=by kernel_rfl
theorem Bks:(Rows.scrubPassesRow.wf (OpenSpec.ofChange Rows.scrubPassesSpec))=true:=by kernel_rfl
end Go.Proofs.YtokpnommcenoaaaGreat
