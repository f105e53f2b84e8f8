import Derived.Test.YtokpnommcenoaaaGreatRows
import Derived.JoinedOf
import Derived.KernelRfl
set_option linter.all false
namespace Go.Proofs.YtokpnommcenoaaaGreat
open Go
set_option maxRecDepth 100000
theorem Big:((Rows.scrubDownRow.inPlace == Tryz.pinned.checked.prog.inPlace 4))=true:=by kernel_rfl
theorem Bj2:((Rows.scrubDownRow.unfollowed == Tryz.pinned.checked.prog.unfollowed 4))=true:=by kernel_rfl
theorem Bk5:(Rows.scrubDownRow.wf (OpenSpec.ofChange Rows.scrubDownSpec))=true:=by kernel_rfl
end Go.Proofs.YtokpnommcenoaaaGreat
