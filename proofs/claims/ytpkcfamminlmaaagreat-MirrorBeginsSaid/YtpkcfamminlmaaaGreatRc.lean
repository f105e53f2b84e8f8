/- MirrorBegins: the row's closed facts, one by one. -/
import Derived.Test.YtpkcfamminlmaaaGreatRows
import Derived.JoinedOf
import Derived.KernelRfl
set_option linter.unusedVariables false
set_option linter.unusedSimpArgs false
set_option linter.unusedSectionVars false
namespace Go.Proofs.YtpkcfamminlmaaaGreat
open Go
set_option maxRecDepth 100000
theorem rowFact3 : (mapsRowed Tryz.pinned.checked.prog) = true := by kernel_rfl
theorem rowFact4 : (Tryz.f5.params.all (Tryz.pinned.checked.prog.readableRec ·)) = true := by kernel_rfl
theorem rowFact5 : (namedTie Tryz.pinned.checked.prog Rows.mirrorBeginsRow.named Rows.mirrorBeginsSpec.vars) = true := by kernel_rfl
theorem rowFact6 : ((Rows.mirrorBeginsRow.stops == [])) = true := by kernel_rfl
theorem rowFact7 : ((Tryz.pinned.checked.prog.stops == [])) = true := by kernel_rfl
theorem rowFact8 : ((Rows.mirrorBeginsRow.knobs == [])) = true := by kernel_rfl
theorem rowFact9 : ((Tryz.pinned.checked.prog.stopKnobs == [])) = true := by kernel_rfl
theorem rowFact14 : ((Rows.mirrorBeginsRow.maps == (Tryz.f5.params.toList ++ Rows.mirrorBeginsSpec.plain.varTypes Tryz.pinned.checked.prog).any (Tryz.pinned.checked.prog.mapsRec ·))) = true := by kernel_rfl
theorem rowFact15 : ((Rows.mirrorBeginsRow.ifaces == (Tryz.f5.params.toList ++ Rows.mirrorBeginsSpec.plain.varTypes Tryz.pinned.checked.prog).any (Tryz.pinned.checked.prog.ifacesRec ·))) = true := by kernel_rfl
theorem rowFact16 : ((Rows.mirrorBeginsRow.mapsOut == Tryz.pinned.checked.prog.mapsAmong Tryz.f5.resultTypes.toList)) = true := by kernel_rfl
theorem rowFact17 : ((Rows.mirrorBeginsRow.loops == (Tryz.f5.params.toList ++ Rows.mirrorBeginsSpec.plain.varTypes Tryz.pinned.checked.prog).any (Tryz.pinned.checked.prog.loopsFrom ·))) = true := by kernel_rfl
theorem rowFact18 : ((Rows.mirrorBeginsRow.wideKeys == (Tryz.f5.params.toList ++ Rows.mirrorBeginsSpec.plain.varTypes Tryz.pinned.checked.prog ++ Tryz.f5.resultTypes.toList).any (Tryz.pinned.checked.prog.wideKeysFrom ·))) = true := by kernel_rfl
theorem rowFact19 : (Rows.mirrorBeginsSpec.vars.all (Tryz.pinned.checked.prog.varReadable ·)) = true := by kernel_rfl
theorem rowFact20 : (Tryz.f5.resultTypes.all (fun t => Tryz.pinned.checked.prog.readableRec t && decide (t < Tryz.pinned.checked.prog.types.size))) = true := by kernel_rfl
theorem rowFact21 : ((Rows.mirrorBeginsRow.ifacesOut == Tryz.f5.resultTypes.toList.any (Tryz.pinned.checked.prog.ifacesRec ·))) = true := by kernel_rfl
theorem rowFact22 : ((Rows.mirrorBeginsRow.loopsOut == Tryz.f5.resultTypes.toList.any (Tryz.pinned.checked.prog.loopsFrom ·))) = true := by kernel_rfl
theorem rowFact23 : ((Rows.mirrorBeginsRow.plainKeys == Tryz.pinned.checked.prog.plainKeys)) = true := by kernel_rfl
theorem rowFact24 : (Rows.mirrorBeginsRow.shortTexts.isNone) = true := by kernel_rfl
theorem rowFact25 : (Tryz.pinned.checked.prog.stopsHeard) = true := by kernel_rfl
theorem rowFact26 : (Tryz.pinned.checked.prog.mayEnter) = true := by kernel_rfl
theorem rowFact27 : ((Rows.mirrorBeginsRow.lifted == Tryz.pinned.checked.prog.liftsFinal)) = true := by kernel_rfl
theorem rowFact28 : ((Tryz.pinned.checked.prog.make == some Rows.mirrorBeginsRow.make)) = true := by kernel_rfl
theorem rowFact29 : ((Rows.mirrorBeginsRow.kinds == (if Rows.mirrorBeginsRow.domain.isEmpty then [] else Tryz.f5.params.toList.map fun t => match Tryz.pinned.checked.prog.underlying t with | some (.int k) => some k | _ => none))) = true := by kernel_rfl
theorem rowFact30 : ((Rows.mirrorBeginsRow.pinned == Rows.mirrorBeginsRow.pinnedBy)) = true := by kernel_rfl
theorem rowFact31 : ((Rows.mirrorBeginsRow.veiled == (Tryz.f5.params.toList ++ Rows.mirrorBeginsSpec.plain.varTypes Tryz.pinned.checked.prog ++ Tryz.f5.resultTypes.toList).any (Tryz.pinned.checked.prog.veiledRec ·))) = true := by kernel_rfl
theorem rowFact32 : (Rows.mirrorBeginsRow.veiledFits Tryz.pinned.checked.prog Tryz.f5.params.toList (Tryz.f5.params.toList ++ Rows.mirrorBeginsSpec.plain.varTypes Tryz.pinned.checked.prog ++ Tryz.f5.resultTypes.toList)) = true := by kernel_rfl
end Go.Proofs.YtpkcfamminlmaaaGreat
