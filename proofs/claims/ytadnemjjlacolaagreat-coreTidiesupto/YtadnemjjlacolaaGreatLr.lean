import Derived.Test.YtadnemjjlacolaaGreatNr
set_option linter.all false
namespace Go.Ev
open Go.Proofs
set_option maxRecDepth 100000
variable {L:List (List Value)}
theorem A9f(D Z S B P O:Int)(v1:Value)(n:Int)(w:World)(R1:Bbr w v1 72 L)(f:∀l∈L,∃o ws,Avl w l o ws/\o.bs.length<=1048576):
 Calls Tryz.prog 8 #[.agg #[.int .i64 D,.int .i64 Z,.int .i64 S,.int .i64 B,.int .i64 P,.int .i64 O],v1,.int .i64 n] w fun e w'=>e=.returned (.bool true)/\RowKit.Below w.heap.size w w':=by
 obtain⟨h,b,os,a,e1,o1,g⟩:=A0k R1 f;obtain⟨v,h',e,rfl,same⟩:=Bfo (K:=many) H8 (by unfold many;decide) (d:=39) (by omega) (fun h=>call11 h) ⟨D,Z,S,B,P,O⟩ a.hb (O:=os) n (by rw[a.next];exact g);rw[<-Aft H8 (by decide)]at e;refine Abn a (args:=[gV ⟨D,Z,S,B,P,O⟩,evV v1,I n]) (vs:=[.agg #[.int .i64 D,.int .i64 Z,.int .i64 S,.int .i64 B,.int .i64 P,.int .i64 O],v1,.int .i64 n]) ?_ ?_ (fun _=>rfl) ((Acd A2k Ai7 many 41).1 8 _ _ _ _ e) (fun i j=>same i (by rw[a.next];exact j))
 ·show[Cr Aky (gV ⟨D,Z,S,B,P,O⟩),Cr Aky (evV v1),Cr Aky (I n)]=_
  rw[e1];rfl
 ·exact⟨by simp[EV.Wz,EV.ok,gV,gL,I,EV.one],o1,trivial,trivial⟩
end Go.Ev
