import Derived.Test.YtadnemjjlacolaaGreatNp
set_option linter.all false
namespace Go.Ev
open Go.Proofs
set_option maxRecDepth 100000
variable {L:List (List Value)}
theorem Bue {n:Int}(h:(Lit.int .i64 n).wf=true):Rng n:=by
 have h:(decide (IntKind.i64.min<=n)&&decide (n<=IntKind.i64.max))=true:=h;rw[aR,aQ,aQ]at h;exact⟨h.1,h.2⟩
theorem A8n(D Z S B P O:Int)(v1:Value)(n:Int)(w:World)(R1:Bbr w v1 72 L)(f:∀l∈L,∃o ws,Avl w l o ws/\o.bs.length<=1048576)(g:Rng n):
 Calls Tryz.prog 5 #[.agg #[.int .i64 D,.int .i64 Z,.int .i64 S,.int .i64 B,.int .i64 P,.int .i64 O],v1,.int .i64 n] w fun e w'=>e=.returned (.bool true)/\RowKit.Below w.heap.size w w':=by
 obtain⟨h,b,os,a,e1,o1,j⟩:=A0k R1 f;obtain⟨v,h',e,rfl,same⟩:=Bht (K:=many) H8 (by unfold many;decide) (d:=39) (by omega) (fun h=>call11 h) ⟨D,Z,S,B,P,O⟩ a.hb (O:=os) n g (by rw[a.next];exact j);rw[<-Afz H8 (by decide)]at e;refine Abn a (args:=[gV ⟨D,Z,S,B,P,O⟩,evV v1,I n]) (vs:=[.agg #[.int .i64 D,.int .i64 Z,.int .i64 S,.int .i64 B,.int .i64 P,.int .i64 O],v1,.int .i64 n]) ?_ ?_ (fun _=>rfl) ((Acd A2k Ai7 many 41).1 5 _ _ _ _ e) (fun i k=>same i (by rw[a.next];exact k))
 ·show[Cr Aky (gV ⟨D,Z,S,B,P,O⟩),Cr Aky (evV v1),Cr Aky (I n)]=_
  rw[e1];rfl
 ·exact⟨by simp[EV.Wz,EV.ok,gV,gL,I,EV.one],o1,trivial,trivial⟩
end Go.Ev
