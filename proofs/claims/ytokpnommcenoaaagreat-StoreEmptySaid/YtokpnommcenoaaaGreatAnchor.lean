import Derived.Test.YtokpnommcenoaaaGreatMa
import Derived.Test.YtokpnommcenoaaaGreatMc
import Derived.Test.YtokpnommcenoaaaGreatMf
import Derived.Test.YtokpnommcenoaaaGreatMd
set_option linter.unusedVariables false
set_option linter.unusedSimpArgs false
set_option linter.unusedSectionVars false
namespace Go.Ev
open Go.Proofs
set_option maxRecDepth 100000
noncomputable def Af8:Nat->Option FT:=fun f=>Al (Nat.beq f 97) (some (An mP1 (An mP2 (Mf 97)))) (Al (Nat.beq f 73) (some (An mC1 (An mC2 (An mC3 (Mf 73))))) (Al (Nat.beq f 91) (some (An mG2 (Mf 91))) (Al (Nat.beq f 96) (some (An mW1 (Mf 96))) (Al (Nat.beq f 94) (some (An mR1 (Mf 94))) (Al (Nat.beq f 98) (some (An mN1 (Mf 98))) (Ay f))))))
theorem Ad8:∀ g F,Af8 g=some F->Aq TP g F:=Db (Db (Db (Db (Db (Db (Ai) (Auq _ (Fa 98))) (Auj _ (Fa 94))) (Auu _ (Fa 96))) (Auz _ (Fa 91))) (Atw _ (Auv _ (Auk _ (Fa 73))))) (Avb _ (Ava _ (Fa 97)))
theorem Anz:isTrue (Af TT Af8 many 60 false 48 [] ⟨.nil,0,0⟩)=true:=by kernel_rfl
noncomputable def Afc:Nat->Option FT:=fun f=>Al (Nat.beq f 48) (some Akg) (Ay f)
theorem Ah8:∀ g F,Afc g=some F->Aq TP g F:=Db Ai (Aov Ad8 Anz)
end Go.Ev
