/- The tables of the seat. -/
import Derived.Test.YtkafbbedaofkhaaGreatProg
import Derived.Test.YtkafbbedaofkhaaGreatEvFour
set_option linter.unusedVariables false
set_option linter.unusedSimpArgs false
set_option linter.unusedSectionVars false
namespace Go.Ev
open Go.Proofs

noncomputable def fn3 : Tr Func := ofListFrom Tryz.prog.funcs.toList 0 .nil
noncomputable def ty3 : Tr TypeInfo := ofListFrom Tryz.prog.types.toList 0 .nil
def eqs3 : List (Nat × List Nat) := [(51, [0, 0, 0]), (40, [1, 0, 0, 0, 0, 0, 0, 0, 0, 0, 1]), (103, [0, 0, 0, 2, 0, 0, 0, 0, 0, 0, 0, 0, 0, 0, 0, 0, 0, 0, 0, 0, 0, 0, 0, 0, 0, 0, 0, 0, 0, 0, 0, 0, 0, 0, 0, 0, 0, 0, 0, 0, 0, 0, 0, 0, 0, 0, 0, 0, 0, 0, 0, 0, 0, 0, 0, 0, 0, 0, 0, 0, 0, 0, 0, 0, 0, 0, 0, 0, 0, 0, 0, 0, 2]), (135, [0, 0, 0, 0, 0, 0]), (143, [0, 0]), (23, [0, 0, 0, 0, 0, 0]), (233, [0, 0, 0, 0, 0, 0, 0, 0, 0, 0, 0, 0, 0, 0, 0, 0, 0, 0, 0, 0, 0, 0, 0, 0, 0, 0, 0, 0, 0, 0, 0, 0, 0, 0, 0, 0, 0, 0, 0, 0, 0, 0, 0, 0]), (235, [0, 0, 0, 0, 0, 0, 0, 0, 0, 0, 0, 0, 0, 0, 0, 0, 0, 0, 0, 0, 0, 0, 0, 0, 0, 0, 0, 0, 0, 0, 0, 0, 0, 0, 0, 0, 0, 0, 0, 0, 0, 0, 0, 0, 0, 0, 0, 0, 0]), (361, [0, 0]), (64, [0, 0, 0, 0, 0, 0, 0, 0, 0, 0, 0, 0, 0, 0, 0, 0, 0, 0, 0, 0, 0, 0, 0, 0, 0, 0, 0, 0, 0, 0, 0, 0])]
noncomputable def T3 : Tab := mkTab fn3 ty3 eqs3 [143, 361]

theorem T3_mixed : Tryz.prog.follows .mixedOrders = true := by kernel_rfl
theorem T3_names : (Tryz.prog.funcs.toList.all fun f => !(f.name == "runtime.NumGoroutine")) = true := by kernel_rfl
theorem T3_flat : (eqs3.all fun x => decide (flat Tryz.prog 6 x.1 = some x.2) && isA Tryz.prog x.1 && !(Tryz.prog.eqGuardType Tryz.prog.depth x.1)) = true := by kernel_rfl
theorem T3_key : ([143, 361].all fun t => keyStruct Tryz.prog t || keyRow Tryz.prog t) = true := by kernel_rfl
theorem T3_ok : TabOk Tryz.prog T3 := mkTab_ok T3_mixed T3_names (fun x hx => by
    have := List.all_eq_true.1 T3_flat x hx
    simp only [Bool.and_eq_true, decide_eq_true_eq, Bool.not_eq_true'] at this
    exact ⟨this.1.1, this.1.2, this.2⟩) (fun t ht => by
    have := List.all_eq_true.1 T3_key t ht
    simpa using this)
end Go.Ev
