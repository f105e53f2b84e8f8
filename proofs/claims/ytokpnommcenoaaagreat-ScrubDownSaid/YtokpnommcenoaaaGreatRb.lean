import Derived.Test.YtokpnommcenoaaaGreatRows
import Derived.JoinedOf
import Derived.KernelRfl
set_option linter.all false
namespace Go.Proofs.YtokpnommcenoaaaGreat
open Go
set_option maxRecDepth 100000
theorem Bi4:((Rows.scrubDownRow.recurses == Tryz.pinned.checked.prog.recurses 4))=true:=by kernel_rfl
theorem Biq:((Rows.scrubDownRow.named == Tryz.pinned.checked.prog.varsNamed 4))=true:=by kernel_rfl
theorem Bkc:(laidOutB Tryz.pinned.checked.prog)=true:=by kernel_rfl
end Go.Proofs.YtokpnommcenoaaaGreat
