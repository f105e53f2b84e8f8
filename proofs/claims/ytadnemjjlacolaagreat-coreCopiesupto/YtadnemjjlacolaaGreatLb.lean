import Derived.Test.YtadnemjjlacolaaGreatLa
import Derived.Test.YtadnemjjlacolaaGreatAnchor
set_option linter.all false
namespace Go.Ev
open Go.Proofs
set_option maxRecDepth 100000
theorem Bgi {a b:Bool}(h:Bf a false b=true):a=false/\b=true:=by cases a<;>simp_all [Bt]
theorem H8:Bj A41:=by
 refine⟨fun g h=>?_,by kernel_rfl⟩;obtain⟨_,h⟩:=Bgi h;obtain⟨a,h⟩:=Bgi h;obtain⟨h2,_⟩:=Bgi h;unfold A41 A84;rw[a,h2];rfl
theorem call11 {K d:Nat}(h:Ab):Ae TT A41 K (d+1) false 11 [] h=some (.bool true,h):=by
 rw[Bdg (show A41 11=some Bnv by kernel_rfl)];rfl
end Go.Ev
