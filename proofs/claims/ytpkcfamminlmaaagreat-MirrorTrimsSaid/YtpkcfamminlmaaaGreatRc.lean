import Derived.Test.YtpkcfamminlmaaaGreatRows
import Derived.JoinedOf
import Derived.KernelRfl
set_option linter.unusedVariables false
set_option linter.unusedSimpArgs false
set_option linter.unusedSectionVars false
namespace Go.Proofs.YtpkcfamminlmaaaGreat
open Go
set_option maxRecDepth 100000
theorem rowFact3 : (mapsRowed Tryz.pinned.checked.prog) = true:=by kernel_rfl
theorem rowFact4 : (Tryz.f6.params.all (Tryz.pinned.checked.prog.readableRec ·)) = true:=by kernel_rfl
theorem rowFact5 : (namedTie Tryz.pinned.checked.prog Rows.mirrorTrimsRow.named Rows.mirrorTrimsSpec.vars) = true:=by kernel_rfl
theorem rowFact6 : ((Rows.mirrorTrimsRow.stops == [])) = true:=by kernel_rfl
theorem rowFact7 : ((Tryz.pinned.checked.prog.stops == [])) = true:=by kernel_rfl
theorem rowFact8 : ((Rows.mirrorTrimsRow.knobs == [])) = true:=by kernel_rfl
theorem rowFact9 : ((Tryz.pinned.checked.prog.stopKnobs == [])) = true:=by kernel_rfl
theorem rowFact14 : ((Rows.mirrorTrimsRow.maps == (Tryz.f6.params.toList ++ Rows.mirrorTrimsSpec.plain.varTypes Tryz.pinned.checked.prog).any (Tryz.pinned.checked.prog.mapsRec ·))) = true:=by kernel_rfl
theorem rowFact15 : ((Rows.mirrorTrimsRow.ifaces == (Tryz.f6.params.toList ++ Rows.mirrorTrimsSpec.plain.varTypes Tryz.pinned.checked.prog).any (Tryz.pinned.checked.prog.ifacesRec ·))) = true:=by kernel_rfl
theorem rowFact16 : ((Rows.mirrorTrimsRow.mapsOut == Tryz.pinned.checked.prog.mapsAmong Tryz.f6.resultTypes.toList)) = true:=by kernel_rfl
theorem rowFact17 : ((Rows.mirrorTrimsRow.loops == (Tryz.f6.params.toList ++ Rows.mirrorTrimsSpec.plain.varTypes Tryz.pinned.checked.prog).any (Tryz.pinned.checked.prog.loopsFrom ·))) = true:=by kernel_rfl
theorem rowFact18 : ((Rows.mirrorTrimsRow.wideKeys == (Tryz.f6.params.toList ++ Rows.mirrorTrimsSpec.plain.varTypes Tryz.pinned.checked.prog ++ Tryz.f6.resultTypes.toList).any (Tryz.pinned.checked.prog.wideKeysFrom ·))) = true:=by kernel_rfl
theorem rowFact19 : (Rows.mirrorTrimsSpec.vars.all (Tryz.pinned.checked.prog.varReadable ·)) = true:=by kernel_rfl
theorem rowFact20 : (Tryz.f6.resultTypes.all (fun t=>Tryz.pinned.checked.prog.readableRec t && decide (t < Tryz.pinned.checked.prog.types.size))) = true:=by kernel_rfl
theorem rowFact21 : ((Rows.mirrorTrimsRow.ifacesOut == Tryz.f6.resultTypes.toList.any (Tryz.pinned.checked.prog.ifacesRec ·))) = true:=by kernel_rfl
theorem rowFact22 : ((Rows.mirrorTrimsRow.loopsOut == Tryz.f6.resultTypes.toList.any (Tryz.pinned.checked.prog.loopsFrom ·))) = true:=by kernel_rfl
theorem rowFact23 : ((Rows.mirrorTrimsRow.plainKeys == Tryz.pinned.checked.prog.plainKeys)) = true:=by kernel_rfl
theorem rowFact24 : (Rows.mirrorTrimsRow.shortTexts.isNone) = true:=by kernel_rfl
theorem rowFact25 : (Tryz.pinned.checked.prog.stopsHeard) = true:=by kernel_rfl
theorem rowFact26 : (Tryz.pinned.checked.prog.mayEnter) = true:=by kernel_rfl
theorem rowFact27 : ((Rows.mirrorTrimsRow.lifted == Tryz.pinned.checked.prog.liftsFinal)) = true:=by kernel_rfl
theorem rowFact28 : ((Tryz.pinned.checked.prog.make == some Rows.mirrorTrimsRow.make)) = true:=by kernel_rfl
theorem rowFact29 : ((Rows.mirrorTrimsRow.kinds == (if Rows.mirrorTrimsRow.domain.isEmpty then [] else Tryz.f6.params.toList.map fun t=>match Tryz.pinned.checked.prog.underlying t with | some (.int k)=>some k | _=>none))) = true:=by kernel_rfl
theorem rowFact30 : ((Rows.mirrorTrimsRow.pinned == Rows.mirrorTrimsRow.pinnedBy)) = true:=by kernel_rfl
theorem rowFact31 : ((Rows.mirrorTrimsRow.veiled == (Tryz.f6.params.toList ++ Rows.mirrorTrimsSpec.plain.varTypes Tryz.pinned.checked.prog ++ Tryz.f6.resultTypes.toList).any (Tryz.pinned.checked.prog.veiledRec ·))) = true:=by kernel_rfl
theorem rowFact32 : (Rows.mirrorTrimsRow.veiledFits Tryz.pinned.checked.prog Tryz.f6.params.toList (Tryz.f6.params.toList ++ Rows.mirrorTrimsSpec.plain.varTypes Tryz.pinned.checked.prog ++ Tryz.f6.resultTypes.toList)) = true:=by kernel_rfl
end Go.Proofs.YtpkcfamminlmaaaGreat
