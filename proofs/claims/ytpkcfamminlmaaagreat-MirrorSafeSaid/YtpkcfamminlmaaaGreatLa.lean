import Derived.Test.YtpkcfamminlmaaaGreatUa
import Derived.Test.YtpkcfamminlmaaaGreatAnchor
set_option linter.unusedVariables false
set_option linter.unusedSimpArgs false
set_option linter.unusedSectionVars false
namespace Go.Ev
open Go.Proofs
set_option maxRecDepth 100000
theorem Axz(D Z S B P O:Int)(v1:Value)(n:Int)(v3:Value)(w:World){L1 L3:List Int}(R1:A5l w v1 L1)(q1:∀ x ∈ L1,-9223372036854775808<=x/\x<=9223372036854775807)(R3:A5l w v3 L3)(_:∀ x ∈ L3,-9223372036854775808<=x/\x<=9223372036854775807):
 Calls Tryz.prog 7 #[.agg #[.int .i64 D,.int .i64 Z,.int .i64 S,.int .i64 B,.int .i64 P,.int .i64 O],v1,.int .i64 n,v3] w fun e w'=>e=.returned (.bool true)/\RowKit.Below w.heap.size w w':=by
 obtain⟨h,f,zv,kv,zb,kb,se,e1,e3,o1,o3,l1,l3,r1,r3⟩:=Baa R1 R3
 obtain⟨v,h',e,rfl,same⟩:=A5y (K:=many) Aio (by unfold many;decide) (d:=30) (by omega) (fun h=>call23 h) ⟨D,Z,S,B,P,O⟩ n se.hb (zv:=zv) (kv:=kv) (zb:=zb) (kb:=kb) ⟨r1⟩ ⟨r3⟩ (by rw[se.next];exact l1) (by rw[se.next];exact l3) q1
 rw[<-Uu Aio (by decide)]at e
 refine Axx se (args:=[gV ⟨D,Z,S,B,P,O⟩,zv,I n,kv]) (vs:=[.agg #[.int .i64 D,.int .i64 Z,.int .i64 S,.int .i64 B,.int .i64 P,.int .i64 O],v1,.int .i64 n,v3]) ?_ ?_ (fun _=>rfl) ((Ajk Awj A0q many 31).1 7 _ _ _ _ e) (fun i hi=>same i (by rw[se.next];exact hi))
 ·rw[<-e1,<-e3];rfl
 ·exact⟨by simp[EV.Pp,EV.ok,gV,gL,I,EV.one],o1,trivial,o3,trivial⟩
end Go.Ev
