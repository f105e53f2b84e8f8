import Derived.Test.YtpkcfamminlmaaaGreatCrc
set_option linter.unusedVariables false
set_option linter.unusedSimpArgs false
set_option linter.unusedSectionVars false
namespace Go.Ev
open Go.Proofs
set_option maxRecDepth 100000
theorem A21:isTrue (Ad TT Ap2 many 60 false 11 [] ⟨.nil,0,0⟩)=true:=by kernel_rfl
noncomputable def Al0:Nat->Option FT:=fun f=>Ar (Nat.beq f 11) (some A1q) (Ap2 f)
theorem Axw:∀ g F,Al0 g=some F->Abe TP g F:=Aok Ao7 (A15 Ao7 A21)
theorem Awk {a b:Bool}(h:Ar a false b=true):a=false/\b=true:=by cases a <;> simp_all [A5]
theorem Ag1:An Al0:=by
 refine⟨fun g h=>?_,by kernel_rfl⟩
 obtain⟨h1,h⟩:=Awk h
 obtain⟨h2,h⟩:=Awk h
 unfold Al0 Ap2
 rw[h2,h1];rfl
theorem call11 {K d:Nat}(h:Aa):Ad TT Al0 K (d+1) false 11 [] h=some (.bool true,h):=by
 rw[Xy (show Al0 11=some A1q by kernel_rfl)];rfl
end Go.Ev
