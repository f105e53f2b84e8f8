import Derived.Test.YtpkcfamminlmaaaGreatCrc
set_option linter.unusedVariables false
set_option linter.unusedSimpArgs false
set_option linter.unusedSectionVars false
namespace Go.Ev
open Go.Proofs
set_option maxRecDepth 100000
theorem Azr:isTrue (Ad TT Ans many 60 false 11 [] ⟨.nil,0,0⟩)=true:=by kernel_rfl
noncomputable def Ai3:Nat->Option FT:=fun f=>An (Nat.beq f 11) (some Axx) (Ans f)
theorem Axh:∀ g F,Ai3 g=some F->Abg TP g F:=Ams Amk (Azo Amk Azr)
theorem Atw {a b:Bool}(h:An a false b=true):a=false/\b=true:=by cases a <;> simp_all [A1]
theorem Ae4:Ap Ai3:=by
 refine⟨fun g h=>?_,by kernel_rfl⟩
 obtain⟨h1,h⟩:=Atw h
 obtain⟨h2,h⟩:=Atw h
 unfold Ai3 Ans
 rw[h2,h1];rfl
theorem call11 {K d:Nat}(h:Aa):Ad TT Ai3 K (d+1) false 11 [] h=some (.bool true,h):=by
 rw[Abk (show Ai3 11=some Axx by kernel_rfl)];rfl
end Go.Ev
