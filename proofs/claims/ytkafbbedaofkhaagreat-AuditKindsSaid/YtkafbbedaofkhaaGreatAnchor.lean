/- The anchor of law 26. -/
import Derived.Test.YtkafbbedaofkhaaGreatMa
import Derived.Test.YtkafbbedaofkhaaGreatMb
import Derived.Test.YtkafbbedaofkhaaGreatMc
set_option linter.unusedVariables false
set_option linter.unusedSimpArgs false
set_option linter.unusedSectionVars false
namespace Go.Ev
open Go.Proofs
set_option maxRecDepth 100000
noncomputable def disp26 : Nat → Option FT := fun f => cnd (Nat.beq f 85) (some (memoF mPart F85)) (cnd (Nat.beq f 65) (some (memoF mCheck F65)) (cnd (Nat.beq f 46) (some (memoF mLook F46)) (disp3h f)))
theorem disp26_ok : ∀ g F, disp26 g = some F → FtOk Tryz.prog g F := disp_cons (disp_cons (disp_cons disp3h_ok mLook_ok) mCheck_ok) mPart_ok
theorem anchor26 : isTrue (callC T3 disp26 many 60 false 12 [] ⟨.nil, 0, 0⟩) = true := by kernel_rfl
theorem anchor26_calls (w : World) : Calls Tryz.prog 12 #[] w fun e w' => e = .returned (.bool true) ∧ RowKit.Below w.heap.size w w' := by
  obtain ⟨h', hr⟩ := isTrue_spec anchor26
  exact calls_none (callC_ok T3_ok disp26_ok many 60).1.call hr (fun _ => rfl) w
end Go.Ev
