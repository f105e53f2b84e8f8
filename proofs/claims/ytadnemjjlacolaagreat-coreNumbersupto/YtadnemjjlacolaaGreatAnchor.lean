import Derived.Test.YtadnemjjlacolaaGreatCrc
set_option linter.all false
namespace Go.Ev
open Go.Proofs
set_option maxRecDepth 100000
theorem Bgk:isTrue (Ag TT A28 many 60 false 11 [] ⟨.nil,0,0⟩)=true:=by kernel_rfl
noncomputable def Axu:Nat->Option FT:=fun f=>Ba (Nat.beq f 11) (some Bf6) (A28 f)
theorem Bdt:∀g F,Axu g=some F->A0g TP g F:=A1m A00 (Bkp A00 Bgk)
end Go.Ev
