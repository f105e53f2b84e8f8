import Derived.Test.YtpkcfamminlmaaaGreatCrc
set_option linter.unusedVariables false
set_option linter.unusedSimpArgs false
set_option linter.unusedSectionVars false
namespace Go.Ev
open Go.Proofs
set_option maxRecDepth 100000
theorem A7w:isTrue (Ad TT Auq many 60 false 44 [] ⟨.nil,0,0⟩)=true:=by kernel_rfl
noncomputable def Aqb:Nat->Option FT:=fun f=>Ay (Nat.beq f 44) (some A8k) (Auq f)
theorem A38:∀ g F,Aqb g=some F->Ad0 TP g F:=As3 As0 (A95 As0 A7w)
theorem Aj9 {a b:Bool}(h:Ay a false b=true):a=false/\b=true:=by cases a <;> simp_all [Bh]
theorem Akt:Aq Aqb:=by
 refine⟨fun g h=>?_,by kernel_rfl⟩
 obtain⟨h1,h⟩:=Aj9 h
 obtain⟨h2,h⟩:=Aj9 h
 obtain⟨h3,h⟩:=Aj9 h
 obtain⟨h4,h⟩:=Aj9 h
 unfold Aqb Auq
 rw[h4,h1];rfl
theorem call44 {K d:Nat}(h:Aa):Ad TT Aqb K (d+1) false 44 [] h=some (.bool true,h):=by
 rw[Ae6 (show Aqb 44=some A8k by kernel_rfl)];rfl
end Go.Ev
