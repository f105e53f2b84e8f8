import Derived.Test.YtpkcfamminlmaaaGreatCrc
set_option linter.unusedVariables false
set_option linter.unusedSimpArgs false
set_option linter.unusedSectionVars false
namespace Go.Ev
open Go.Proofs
set_option maxRecDepth 100000
theorem anchor14 : isTrue (callC TT disp3h many 60 false 23 [] ⟨.nil,0,0⟩) = true:=by kernel_rfl
noncomputable def disp14 : Nat->Option FT:=fun f=>cnd (Nat.beq f 23) (some hookT) (disp3h f)
theorem disp14_ok : ∀ g F,disp14 g = some F->FtOk TP g F:=disp_cons disp3h_ok (hookT_ok disp3h_ok anchor14)
theorem cnd_tt {a b : Bool} (h : cnd a false b = true) : a = false/\b = true:=by cases a <;> simp_all [cnd_eq]
theorem disp14_agree : Agree disp14:=by
 refine ⟨fun g h=>?_,by kernel_rfl⟩
 obtain ⟨h1,h⟩:=cnd_tt h
 obtain ⟨h2,h⟩:=cnd_tt h
 obtain ⟨h3,h⟩:=cnd_tt h
 unfold disp14 disp3h
 rw [h3,h1]; rfl
theorem call23 {K d : Nat} (h : AHeap) : callC TT disp14 K (d + 1) false 23 [] h = some (.bool true,h):=by
 rw [callC_at (show disp14 23 = some hookT by kernel_rfl)]; rfl
end Go.Ev
