/- AuditKinds: the row's closed facts, one by one. -/
import Derived.Test.YtkafbbedaofkhaaGreatRows
import Derived.JoinedOf
import Derived.KernelRfl
set_option linter.unusedVariables false
set_option linter.unusedSimpArgs false
set_option linter.unusedSectionVars false
namespace Go.Proofs.YtkafbbedaofkhaaGreat
open Go
set_option maxRecDepth 100000
theorem kindsFact3 : (mapsRowed Tryz.pinned.checked.prog) = true := by kernel_rfl
theorem kindsFact4 : (Tryz.f4.params.all (Tryz.pinned.checked.prog.readableRec ·)) = true := by kernel_rfl
theorem kindsFact5 : (namedTie Tryz.pinned.checked.prog Rows.auditKindsRow.named Rows.auditKindsSpec.vars) = true := by kernel_rfl
theorem kindsFact6 : ((Rows.auditKindsRow.stops == [])) = true := by kernel_rfl
theorem kindsFact7 : ((Tryz.pinned.checked.prog.stops == [])) = true := by kernel_rfl
theorem kindsFact8 : ((Rows.auditKindsRow.knobs == [])) = true := by kernel_rfl
theorem kindsFact9 : ((Tryz.pinned.checked.prog.stopKnobs == [])) = true := by kernel_rfl
theorem kindsFact14 : ((Rows.auditKindsRow.maps == (Tryz.f4.params.toList ++ Rows.auditKindsSpec.plain.varTypes Tryz.pinned.checked.prog).any (Tryz.pinned.checked.prog.mapsRec ·))) = true := by kernel_rfl
theorem kindsFact15 : ((Rows.auditKindsRow.ifaces == (Tryz.f4.params.toList ++ Rows.auditKindsSpec.plain.varTypes Tryz.pinned.checked.prog).any (Tryz.pinned.checked.prog.ifacesRec ·))) = true := by kernel_rfl
theorem kindsFact16 : ((Rows.auditKindsRow.mapsOut == Tryz.pinned.checked.prog.mapsAmong Tryz.f4.resultTypes.toList)) = true := by kernel_rfl
theorem kindsFact17 : ((Rows.auditKindsRow.loops == (Tryz.f4.params.toList ++ Rows.auditKindsSpec.plain.varTypes Tryz.pinned.checked.prog).any (Tryz.pinned.checked.prog.loopsFrom ·))) = true := by kernel_rfl
theorem kindsFact18 : ((Rows.auditKindsRow.wideKeys == (Tryz.f4.params.toList ++ Rows.auditKindsSpec.plain.varTypes Tryz.pinned.checked.prog ++ Tryz.f4.resultTypes.toList).any (Tryz.pinned.checked.prog.wideKeysFrom ·))) = true := by kernel_rfl
theorem kindsFact19 : (Rows.auditKindsSpec.vars.all (Tryz.pinned.checked.prog.varReadable ·)) = true := by kernel_rfl
theorem kindsFact20 : (Tryz.f4.resultTypes.all (fun t => Tryz.pinned.checked.prog.readableRec t && decide (t < Tryz.pinned.checked.prog.types.size))) = true := by kernel_rfl
theorem kindsFact21 : ((Rows.auditKindsRow.ifacesOut == Tryz.f4.resultTypes.toList.any (Tryz.pinned.checked.prog.ifacesRec ·))) = true := by kernel_rfl
theorem kindsFact22 : ((Rows.auditKindsRow.loopsOut == Tryz.f4.resultTypes.toList.any (Tryz.pinned.checked.prog.loopsFrom ·))) = true := by kernel_rfl
theorem kindsFact23 : ((Rows.auditKindsRow.plainKeys == Tryz.pinned.checked.prog.plainKeys)) = true := by kernel_rfl
theorem kindsFact24 : (Rows.auditKindsRow.shortTexts.isNone) = true := by kernel_rfl
theorem kindsFact25 : (Tryz.pinned.checked.prog.stopsHeard) = true := by kernel_rfl
theorem kindsFact26 : (Tryz.pinned.checked.prog.mayEnter) = true := by kernel_rfl
theorem kindsFact27 : ((Rows.auditKindsRow.lifted == Tryz.pinned.checked.prog.liftsFinal)) = true := by kernel_rfl
theorem kindsFact28 : ((Tryz.pinned.checked.prog.make == some Rows.auditKindsRow.make)) = true := by kernel_rfl
theorem kindsFact29 : ((Rows.auditKindsRow.kinds == (if Rows.auditKindsRow.domain.isEmpty then [] else Tryz.f4.params.toList.map fun t => match Tryz.pinned.checked.prog.underlying t with | some (.int k) => some k | _ => none))) = true := by kernel_rfl
theorem kindsFact30 : ((Rows.auditKindsRow.pinned == Rows.auditKindsRow.pinnedBy)) = true := by kernel_rfl
theorem kindsFact31 : ((Rows.auditKindsRow.veiled == (Tryz.f4.params.toList ++ Rows.auditKindsSpec.plain.varTypes Tryz.pinned.checked.prog ++ Tryz.f4.resultTypes.toList).any (Tryz.pinned.checked.prog.veiledRec ·))) = true := by kernel_rfl
theorem kindsFact32 : (Rows.auditKindsRow.veiledFits Tryz.pinned.checked.prog Tryz.f4.params.toList (Tryz.f4.params.toList ++ Rows.auditKindsSpec.plain.varTypes Tryz.pinned.checked.prog ++ Tryz.f4.resultTypes.toList)) = true := by kernel_rfl
end Go.Proofs.YtkafbbedaofkhaaGreat
