import Derived.Test.YtokpnommcenoaaaGreatCrc
set_option linter.all false
namespace Go.Ev
open Go.Proofs
set_option maxRecDepth 100000
theorem Bgu:isTrue (Ag TT A4j many 60 false 10 [] ⟨.nil,0,0⟩)=true:=by kernel_rfl
noncomputable def A8g:Nat->Option FT:=fun f=>Bb (Nat.beq f 10) (some Bie) (A4j f)
theorem Bf6:∀g F,A8g g=some F->Am5 TP g F:=Apt A0v (Bjw A0v Bgu)
end Go.Ev
