import Derived.Test.YtadnemjjlacolaaGreatCrc
set_option linter.all false
namespace Go.Ev
open Go.Proofs
set_option maxRecDepth 100000
theorem Bo2:isTrue (Ae TT A84 many 60 false 11 [] ⟨.nil,0,0⟩)=true:=by kernel_rfl
noncomputable def A41:Nat->Option FT:=fun f=>Bf (Nat.beq f 11) (some Bnv) (A84 f)
theorem Ai7:∀g F,A41 g=some F->A6l TP g F:=A7v A62 (Boa A62 Bo2)
end Go.Ev
