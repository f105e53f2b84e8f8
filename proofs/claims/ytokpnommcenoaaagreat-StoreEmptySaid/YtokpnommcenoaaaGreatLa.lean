import Derived.Test.YtokpnommcenoaaaGreatSa
import Derived.Test.YtokpnommcenoaaaGreatAnchor
set_option linter.unusedVariables false
set_option linter.unusedSimpArgs false
set_option linter.unusedSectionVars false
namespace Go.Ev
open Go.Proofs
set_option maxRecDepth 100000
noncomputable def Aab:Nat->Option FT:=fun f=>Al (Nat.beq f 105) (some Alu) (Afc f)
theorem Amv:∀ g F,Aab g=some F->Aq TP g F:=Db Ah8 Api
theorem Ux {a b:Bool}(h:Al a false b=true):a=false/\b=true:=by cases a <;> simp_all [Ax]
theorem Va:Bp Aab:=by
 refine⟨fun g h=>?_,by kernel_rfl⟩
 obtain⟨h1,h⟩:=Ux h
 obtain⟨_,h⟩:=Ux h
 obtain⟨_,h⟩:=Ux h
 obtain⟨_,h⟩:=Ux h
 obtain⟨h2,h⟩:=Ux h
 obtain⟨h3,_⟩:=Ux h
 unfold Aab Afc Ay
 rw[h3,h1,h2];rfl
theorem Asi {K d:Nat}(h:Ac):Af TT Aab K (d+1) false 48 [] h=some (.bool true,h):=by
 rw[X1 (show Aab 48=some Akg by kernel_rfl)];rfl
theorem Ace(D Z S B P O:Int)(v1:Value)(w:World){L1:List (List Int)}(R1:Aty w v1 L1)(q1:∀ l ∈ L1,l.length=4/\∀ x ∈ l,-9223372036854775808<=x/\x<=9223372036854775807):
 Calls Tryz.prog 9 #[.agg #[.int .i64 D,.int .i64 Z,.int .i64 S,.int .i64 B,.int .i64 P,.int .i64 O],v1] w fun e w'=>e=.returned (.bool true)/\RowKit.Below w.heap.size w w':=by
 obtain⟨h,f,zv,zb,se,e1,o1,l1,r1⟩:=Aup R1 (by decide) fun l hl=>(q1 l hl).1
 obtain⟨v,h',e,rfl,same⟩:=Aiv (K:=many) Va (by kernel_rfl) (by unfold many;decide) (d:=30) (by omega) (r:=Af TT Aab many 30 true) (fun h=>Asi h) (fun l hl=>(q1 l hl).1) ⟨D,Z,S,B,P,O⟩ se.hb r1 (.inr (by rw[se.next];exact l1))
 rw[<-Jq Va (by decide)]at e
 refine Aep se (args:=[gV ⟨D,Z,S,B,P,O⟩,zv]) (vs:=[.agg #[.int .i64 D,.int .i64 Z,.int .i64 S,.int .i64 B,.int .i64 P,.int .i64 O],v1]) ?_ ?_ (fun _=>rfl) ((Am A7 Amv many 31).1 9 _ _ _ _ e) (fun i hi=>same i (by rw[se.next];exact hi))
 ·rw[<-e1];rfl
 ·exact⟨by simp[EV.Gx,EV.ok,gV,gL,I,EV.one],o1,trivial⟩
end Go.Ev
