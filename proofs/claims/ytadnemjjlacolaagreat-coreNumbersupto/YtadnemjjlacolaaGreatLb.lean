import Derived.Test.YtadnemjjlacolaaGreatLa
import Derived.Test.YtadnemjjlacolaaGreatAnchor
import Derived.Test.YtadnemjjlacolaaGreatNe
set_option linter.all false
namespace Go.Ev
open Go.Proofs
set_option maxRecDepth 100000
variable {L:List (List Value)}
theorem A9o {a b:Bool}(h:Ba a false b=true):a=false/\b=true:=by cases a<;>simp_all [Bn]
theorem As4:Bv Axu:=by
 refine⟨fun g h=>?_,by kernel_rfl⟩;obtain⟨_,h⟩:=A9o h;obtain⟨a,h⟩:=A9o h;obtain⟨h2,_⟩:=A9o h;unfold Axu A28;rw[a,h2];rfl
theorem call11 {K d:Nat}(h:Aa):Ag TT Axu K (d+1) false 11 [] h=some (.bool true,h):=by
 rw[A5z (show Axu 11=some Bf6 by kernel_rfl)];rfl
theorem Az4(D Z S B P O:Int)(v1:Value)(w:World)(R1:Bop w v1 72 L)(f:∀l∈L,∃o ws,Bc9 w l o ws/\o.bs.length<=1048576):
 Calls Tryz.prog 7 #[.agg #[.int .i64 D,.int .i64 Z,.int .i64 S,.int .i64 B,.int .i64 P,.int .i64 O],v1] w fun e w'=>e=.returned (.bool true)/\RowKit.Below w.heap.size w w':=by
 obtain⟨h,b,os,a,e1,o1,g⟩:=Bnl R1 f;obtain⟨v,h',e,rfl,same⟩:=A6z (K:=many) As4 (by unfold many;decide) (d:=40) (by omega) (fun h=>call11 h) ⟨D,Z,S,B,P,O⟩ a.hb (O:=os) (by rw[a.next];exact g);rw[<-Y4 As4 (by decide)]at e;refine A78 a (args:=[gV ⟨D,Z,S,B,P,O⟩,evV v1]) (vs:=[.agg #[.int .i64 D,.int .i64 Z,.int .i64 S,.int .i64 B,.int .i64 P,.int .i64 O],v1]) ?_ ?_ (fun _=>rfl) ((At1 Bhd Bdt many 41).1 7 _ _ _ _ e) (fun i j=>same i (by rw[a.next];exact j))
 ·show[Cn A7u (gV ⟨D,Z,S,B,P,O⟩),Cn A7u (evV v1)]=_
  rw[e1];rfl
 ·exact⟨by simp[EV.Tf,EV.ok,gV,gL,I,EV.one],o1,trivial⟩
end Go.Ev
