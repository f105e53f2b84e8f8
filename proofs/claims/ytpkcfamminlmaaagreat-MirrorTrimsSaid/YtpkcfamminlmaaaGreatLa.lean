import Derived.Test.YtpkcfamminlmaaaGreatVb
import Derived.Test.YtpkcfamminlmaaaGreatAnchor
import Derived.Test.YtpkcfamminlmaaaGreatXb
set_option linter.unusedVariables false
set_option linter.unusedSimpArgs false
set_option linter.unusedSectionVars false
namespace Go.Ev
open Go.Proofs
set_option maxRecDepth 100000
theorem trims_calls (D Z S B P O seq block many' : Int) (w : World) :
 Calls Tryz.prog 6 #[.agg #[.int .i64 D,.int .i64 Z,.int .i64 S,.int .i64 B,.int .i64 P,.int .i64 O],.int .i64 seq,.int .i64 block,.int .i64 many'] w fun e w'=>e = .returned (.bool true)/\RowKit.Below w.heap.size w w':=by
 obtain ⟨v,h',e,rfl⟩:=trims_law (K:=many) disp14_agree (by unfold many; decide) (d:=30) (by omega) (fun h=>call23 h) ⟨D,Z,S,B,P,O⟩ seq block many' hb_nil
 rw [<-revetmentlaw14_MirrorTrims_run disp14_agree (by decide)] at e
 exact calls_vals (P:=TP) (args:=[gV ⟨D,Z,S,B,P,O⟩,I seq,I block,I many']) (fun _=>rfl) (fun _=>by simp [EV.okL,EV.ok,gV,gL,I,EV.one]) (fun _=>rfl) ((callC_ok TT_ok disp14_ok many 31).1 6 _ _ _ _ e) w
end Go.Ev
