import Derived.Test.YtpkcfamminlmaaaGreatCrc
set_option linter.unusedVariables false
set_option linter.unusedSimpArgs false
set_option linter.unusedSectionVars false
namespace Go.Ev
open Go.Proofs
set_option maxRecDepth 100000
theorem A45:isTrue (Ae TT Ati many 60 false 23 [] ⟨.nil,0,0⟩)=true:=by kernel_rfl
noncomputable def Anu:Nat->Option FT:=fun f=>As (Nat.beq f 23) (some A5k) (Ati f)
theorem A0q:∀ g F,Anu g=some F->Af9 TP g F:=Arh Aru (A4d Aru A45)
theorem Aw8 {a b:Bool}(h:As a false b=true):a=false/\b=true:=by cases a <;> simp_all [A8]
theorem Aio:Aw Anu:=by
 refine⟨fun g h=>?_,by kernel_rfl⟩
 obtain⟨h1,h⟩:=Aw8 h
 obtain⟨h2,h⟩:=Aw8 h
 obtain⟨h3,h⟩:=Aw8 h
 unfold Anu Ati
 rw[h3,h1];rfl
theorem call23 {K d:Nat}(h:Aa):Ae TT Anu K (d+1) false 23 [] h=some (.bool true,h):=by
 rw[Ajj (show Anu 23=some A5k by kernel_rfl)];rfl
end Go.Ev
