import Derived.Test.YtpkcfamminlmaaaGreatQb
import Derived.Test.YtpkcfamminlmaaaGreatAnchor
import Derived.Test.YtpkcfamminlmaaaGreatXb
set_option linter.unusedVariables false
set_option linter.unusedSimpArgs false
set_option linter.unusedSectionVars false
namespace Go.Ev
open Go.Proofs
set_option maxRecDepth 100000
theorem Apf(D Z S B P O n:Int)(w:World):
 Calls Tryz.prog 3 #[.agg #[.int .i64 D,.int .i64 Z,.int .i64 S,.int .i64 B,.int .i64 P,.int .i64 O],.int .i64 n] w fun e w'=>e=.returned (.bool true)/\RowKit.Below w.heap.size w w':=by
 obtain⟨v,h',e,rfl⟩:=Awv (K:=many) Ae4 (by unfold many;decide) (d:=30) (by omega) (fun h=>call11 h) ⟨D,Z,S,B,P,O⟩ n A3o
 rw[<-Ru Ae4 (by decide)]at e
 exact Aso (P:=TP) (args:=[gV ⟨D,Z,S,B,P,O⟩,I n]) (fun _=>rfl) (fun _=>by simp[EV.Mx,EV.ok,gV,gL,I,EV.one]) (fun _=>rfl) ((Aeq Al2 Axh many 31).1 3 _ _ _ _ e) w
end Go.Ev
