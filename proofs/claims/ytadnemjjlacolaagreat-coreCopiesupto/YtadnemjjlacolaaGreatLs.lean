import Derived.Test.YtadnemjjlacolaaGreatNs
set_option linter.all false
namespace Go.Ev
open Go.Proofs
set_option maxRecDepth 100000
variable {L:List (List Value)}
theorem Ba6(D Z S B P O:Int)(v1:Value)(w:World)(R1:Bbr w v1 72 L)(f:∀l∈L,∃o ws,Avl w l o ws/\o.bs.length<=1048576):
 Calls Tryz.prog 3 #[.agg #[.int .i64 D,.int .i64 Z,.int .i64 S,.int .i64 B,.int .i64 P,.int .i64 O],v1] w fun e w'=>e=.returned (.bool true)/\RowKit.Below w.heap.size w w':=by
 obtain⟨h,b,os,a,e1,o1,g⟩:=A0k R1 f;obtain⟨v,h',e,rfl,same⟩:=Bfu (K:=many) H8 (by unfold many;decide) (d:=40) (by omega) (fun h=>call11 h) ⟨D,Z,S,B,P,O⟩ a.hb (O:=os) (by rw[a.next];exact g);rw[<-Agm H8 (by decide)]at e;refine Abn a (args:=[gV ⟨D,Z,S,B,P,O⟩,evV v1]) (vs:=[.agg #[.int .i64 D,.int .i64 Z,.int .i64 S,.int .i64 B,.int .i64 P,.int .i64 O],v1]) ?_ ?_ (fun _=>rfl) ((Acd A2k Ai7 many 41).1 3 _ _ _ _ e) (fun i j=>same i (by rw[a.next];exact j))
 ·show[Cr Aky (gV ⟨D,Z,S,B,P,O⟩),Cr Aky (evV v1)]=_
  rw[e1];rfl
 ·exact⟨by simp[EV.Wz,EV.ok,gV,gL,I,EV.one],o1,trivial⟩
end Go.Ev
