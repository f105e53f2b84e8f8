import Derived.Test.YtpkcfamminlmaaaGreatCrc
set_option linter.unusedVariables false
set_option linter.unusedSimpArgs false
set_option linter.unusedSectionVars false
namespace Go.Ev
open Go.Proofs
set_option maxRecDepth 100000
theorem Azd:isTrue (Af TT Api many 60 false 23 [] ⟨.nil,0,0⟩)=true:=by kernel_rfl
noncomputable def Aoy:Nat->Option FT:=fun f=>Ao (Nat.beq f 23) (some Azm) (Api f)
theorem Aw7:∀ g F,Aoy g=some F->Aao TP g F:=Ag5 Amz (Az0 Amz Azd)
theorem Ak8 {a b:Bool}(h:Ao a false b=true):a=false/\b=true:=by cases a <;> simp_all [A3]
theorem An2:Au Aoy:=by
 refine⟨fun g h=>?_,by kernel_rfl⟩
 obtain⟨_,h⟩:=Ak8 h
 obtain⟨h1,h⟩:=Ak8 h
 obtain⟨h2,h⟩:=Ak8 h
 obtain⟨h3,h⟩:=Ak8 h
 unfold Aoy Api
 rw[h3,h1];rfl
end Go.Ev
