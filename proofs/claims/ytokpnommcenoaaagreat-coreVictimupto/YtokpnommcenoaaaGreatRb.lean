import Derived.Test.YtokpnommcenoaaaGreatRows
import Derived.JoinedOf
import Derived.KernelRfl
set_option linter.all false
namespace Go.Proofs.YtokpnommcenoaaaGreat
open Go
set_option maxRecDepth 100000
theorem Bcw:((Rows.coreVictimUptoRow.recurses == Tryz.pinned.checked.prog.recurses 3))=true:=by kernel_rfl
theorem Bfj:((Rows.coreVictimUptoRow.named == Tryz.pinned.checked.prog.varsNamed 3))=true:=by kernel_rfl
theorem Bjo:(laidOutB Tryz.pinned.checked.prog)=true:=by kernel_rfl
end Go.Proofs.YtokpnommcenoaaaGreat
